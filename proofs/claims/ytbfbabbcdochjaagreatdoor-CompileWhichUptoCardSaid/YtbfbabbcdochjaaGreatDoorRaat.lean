/- Several texts joined: Kid, Kie. -/
import Derived.Test.YtbfbabbcdochjaaGreatDoorRapk
import Derived.Test.YtbfbabbcdochjaaGreatDoorRaas
set_option maxHeartbeats 4000000
namespace Go.Proofs.YtbfbabbcdochjaaGreatDoor.Mc
open Go.RowKit
set_option maxRecDepth 100000 in
theorem st_19 (w:World) (base s g n kc q:Nat) (A:Option Addr) (b off cn cap:Nat) (c:List Ins) (pc:Int) (m:List Int) (h:StepPre w base s g n kc q A b off cn c pc m) (a:Nat) (y z:Int) (hnx:nextI c pc n=some ⟨19,a,y,z⟩) (hright:rightI ⟨19,a,y,z⟩ cn n=true) :
 Calls Tryz.prog 63 #[.pointer (some ⟨s,0,none⟩),.slice A cn cap,.map (some q)] w fun e w'=>e=.returned (.tuple #[])∧Stepped w w' base s g n kc (execI ⟨19,a,y,z⟩ pc m):=by
 obtain ⟨hn,hn1,hn2,hmok,hops,hst,hmem,hmap,hcA,hrow,hcn,hcn2,hpc0,hpc1,hsg⟩:=h
 have hls:=hst.lt
 have hlg:=hmem.lt
 have hlq:=hmap.lt
 have hgs:¬ g=s:=fun e=>hsg e.symm
 have HX:=zhd hnx
 have HN:=zhd hn
 have HO:=zhd hmok
 have HOP:=zhd hops
 have HA:=zhd hcA
 have HR:=zhd hrow
 have HCN:=zhd hcn
 have HRT:=zhd hright
 clear hnx hn hmok hops hcA hrow hcn hright
 go_enter Tryz.func63,Tryz.ntmps63
 go_wp2_with fail
 refine (next_any s pc 0 (some ⟨g,0,none⟩) n kc A b off c cn cap _ HCN.out hcn2 hpc0 HA.out HOP.out hst HR.out).mono ?_
 rintro e w1 ⟨e1,hx1⟩
 replace e1:e=.returned (.tuple #[.agg (Ins.cells ⟨19,a,y,z⟩),.bool true]):=by rw [e1,HX.out];rfl
 subst e1
 have hI1:=Blk.new w1 77 (Ins.cells ⟨19,a,y,z⟩)
 have x1:=hx1.alloc (.cells (Ins.cells ⟨19,a,y,z⟩) 77)
 have hS1:=Blk.ext hst x1
 have hM1:=hmem.ext x1
 have hQ1:=hmap.ext x1
 have l1:=hx1.size
 clear hst hmem hmap hx1
 go_upto_region 3 with (fail)
 generalize (w1.alloc (.cells (Ins.cells ⟨19,a,y,z⟩) 77))=W1 at hI1 x1 hS1 hM1 hQ1 ⊢
 generalize w1.heap.size=ic at hI1 l1 ⊢
 have hi1:=Blk.has hI1
 have hj1:=Blk.gets hI1
 go_wp2_with fail
 refine (far_any ⟨19,a,y,z⟩ cn s pc 0 g 0 n kc m _ HN.out hn2 HRT.out HO.out hS1 hM1.row).mono ?_
 rintro e w2 ⟨e2,hx2⟩
 replace e2:e=.returned (.int .i64 (-1)):=by rw [e2];rfl
 subst e2
 have x2:=x1.trans hx2
 have hI2:=Blk.ext hI1 hx2
 have hS2:=Blk.ext hS1 hx2
 have hM2:=hM1.ext hx2
 have hQ2:=hQ1.ext hx2
 clear hI1 hS1 hM1 hQ1 x1 hx2 hi1 hj1
 have hcI:=Blk.cell hI2
 have hcS:=Blk.cell hS2
 have hfS:=Blk.frozen hS2
 have lI:=hI2.lt
 have lS:=hS2.lt
 have lG:=hM2.lt
 have HE:Hid (execI ⟨19,a,y,z⟩ pc m=((a:Int),0,m)):=zhd (by simp [execI])
 have hS3:=hS2
 have hM3:=hM2
 have hk3:Kept (fun i=>i=s ∨ i=g) w w2:=Kept.ext x2
 exact zz86
set_option maxRecDepth 100000 in
theorem st_20 (w:World) (base s g n kc q:Nat) (A:Option Addr) (b off cn cap:Nat) (c:List Ins) (pc:Int) (m:List Int) (h:StepPre w base s g n kc q A b off cn c pc m) (a y:Nat) (z:Int) (hy:y < n) (hnx:nextI c pc n=some ⟨20,a,y,z⟩) (hright:rightI ⟨20,a,y,z⟩ cn n=true) :
 Calls Tryz.prog 63 #[.pointer (some ⟨s,0,none⟩),.slice A cn cap,.map (some q)] w fun e w'=>e=.returned (.tuple #[])∧Stepped w w' base s g n kc (execI ⟨20,a,y,z⟩ pc m):=by
 obtain ⟨hn,hn1,hn2,hmok,hops,hst,hmem,hmap,hcA,hrow,hcn,hcn2,hpc0,hpc1,hsg⟩:=h
 have hls:=hst.lt
 have hlg:=hmem.lt
 have hlq:=hmap.lt
 have hgs:¬ g=s:=fun e=>hsg e.symm
 have HX:=zhd hnx
 have HN:=zhd hn
 have HO:=zhd hmok
 have HOP:=zhd hops
 have HA:=zhd hcA
 have HR:=zhd hrow
 have HCN:=zhd hcn
 have HRT:=zhd hright
 clear hnx hn hmok hops hcA hrow hcn hright
 go_enter Tryz.func63,Tryz.ntmps63
 go_wp2_with fail
 refine (next_any s pc 0 (some ⟨g,0,none⟩) n kc A b off c cn cap _ HCN.out hcn2 hpc0 HA.out HOP.out hst HR.out).mono ?_
 rintro e w1 ⟨e1,hx1⟩
 replace e1:e=.returned (.tuple #[.agg (Ins.cells ⟨20,a,y,z⟩),.bool true]):=by rw [e1,HX.out];rfl
 subst e1
 have hI1:=Blk.new w1 77 (Ins.cells ⟨20,a,y,z⟩)
 have x1:=hx1.alloc (.cells (Ins.cells ⟨20,a,y,z⟩) 77)
 have hS1:=Blk.ext hst x1
 have hM1:=hmem.ext x1
 have hQ1:=hmap.ext x1
 have l1:=hx1.size
 clear hst hmem hmap hx1
 go_upto_region 3 with (fail)
 generalize (w1.alloc (.cells (Ins.cells ⟨20,a,y,z⟩) 77))=W1 at hI1 x1 hS1 hM1 hQ1 ⊢
 generalize w1.heap.size=ic at hI1 l1 ⊢
 have hi1:=Blk.has hI1
 have hj1:=Blk.gets hI1
 go_wp2_with fail
 refine (far_any ⟨20,a,y,z⟩ cn s pc 0 g 0 n kc m _ HN.out hn2 HRT.out HO.out hS1 hM1.row).mono ?_
 rintro e w2 ⟨e2,hx2⟩
 replace e2:e=.returned (.int .i64 (-1)):=by rw [e2];rfl
 subst e2
 have x2:=x1.trans hx2
 have hI2:=Blk.ext hI1 hx2
 have hS2:=Blk.ext hS1 hx2
 have hM2:=hM1.ext hx2
 have hQ2:=hQ1.ext hx2
 clear hI1 hS1 hM1 hQ1 x1 hx2 hi1 hj1
 have hcI:=Blk.cell hI2
 have hcS:=Blk.cell hS2
 have hfS:=Blk.frozen hS2
 have lI:=hI2.lt
 have lS:=hS2.lt
 have lG:=hM2.lt
 have hyl:y < m.length:=by have:=HN.out;omega
 have hyI:(y:Int) < n:=by omega
 obtain ⟨v,hv⟩:∃ v,v=m[y]:=⟨_,rfl⟩
 have Hvr:Hid (i32ok v):=zhd (by rw [hv];exact HO.out _ (List.getElem_mem hyl))
 have HV:=zhd hv
 by_cases hz:v=0
 ·have b0:(v == 0)=true:=by simp [hz]
  have HE:Hid (execI ⟨20,a,y,z⟩ pc m=((a:Int),0,m)):=zhd (by simp [execI,mget_in hyl,← hv,hz])
  exact zz20
 ·have b0:(v == 0)=false:=by simp [hz]
  have HE:Hid (execI ⟨20,a,y,z⟩ pc m=(pc+1,0,m)):=zhd (by simp [execI,mget_in hyl,← hv,hz])
  exact zz20
set_option maxRecDepth 100000 in
theorem st_21 (w:World) (base s g n kc q:Nat) (A:Option Addr) (b off cn cap:Nat) (c:List Ins) (pc:Int) (m:List Int) (h:StepPre w base s g n kc q A b off cn c pc m) (a y:Nat) (z:Int) (hy:y < n) (hnx:nextI c pc n=some ⟨21,a,y,z⟩) (hright:rightI ⟨21,a,y,z⟩ cn n=true) :
 Calls Tryz.prog 63 #[.pointer (some ⟨s,0,none⟩),.slice A cn cap,.map (some q)] w fun e w'=>e=.returned (.tuple #[])∧Stepped w w' base s g n kc (execI ⟨21,a,y,z⟩ pc m):=by
 obtain ⟨hn,hn1,hn2,hmok,hops,hst,hmem,hmap,hcA,hrow,hcn,hcn2,hpc0,hpc1,hsg⟩:=h
 have hls:=hst.lt
 have hlg:=hmem.lt
 have hlq:=hmap.lt
 have hgs:¬ g=s:=fun e=>hsg e.symm
 have HX:=zhd hnx
 have HN:=zhd hn
 have HO:=zhd hmok
 have HOP:=zhd hops
 have HA:=zhd hcA
 have HR:=zhd hrow
 have HCN:=zhd hcn
 have HRT:=zhd hright
 clear hnx hn hmok hops hcA hrow hcn hright
 go_enter Tryz.func63,Tryz.ntmps63
 go_wp2_with fail
 refine (next_any s pc 0 (some ⟨g,0,none⟩) n kc A b off c cn cap _ HCN.out hcn2 hpc0 HA.out HOP.out hst HR.out).mono ?_
 rintro e w1 ⟨e1,hx1⟩
 replace e1:e=.returned (.tuple #[.agg (Ins.cells ⟨21,a,y,z⟩),.bool true]):=by rw [e1,HX.out];rfl
 subst e1
 have hI1:=Blk.new w1 77 (Ins.cells ⟨21,a,y,z⟩)
 have x1:=hx1.alloc (.cells (Ins.cells ⟨21,a,y,z⟩) 77)
 have hS1:=Blk.ext hst x1
 have hM1:=hmem.ext x1
 have hQ1:=hmap.ext x1
 have l1:=hx1.size
 clear hst hmem hmap hx1
 go_upto_region 3 with (fail)
 generalize (w1.alloc (.cells (Ins.cells ⟨21,a,y,z⟩) 77))=W1 at hI1 x1 hS1 hM1 hQ1 ⊢
 generalize w1.heap.size=ic at hI1 l1 ⊢
 have hi1:=Blk.has hI1
 have hj1:=Blk.gets hI1
 go_wp2_with fail
 refine (far_any ⟨21,a,y,z⟩ cn s pc 0 g 0 n kc m _ HN.out hn2 HRT.out HO.out hS1 hM1.row).mono ?_
 rintro e w2 ⟨e2,hx2⟩
 replace e2:e=.returned (.int .i64 (-1)):=by rw [e2];rfl
 subst e2
 have x2:=x1.trans hx2
 have hI2:=Blk.ext hI1 hx2
 have hS2:=Blk.ext hS1 hx2
 have hM2:=hM1.ext hx2
 have hQ2:=hQ1.ext hx2
 clear hI1 hS1 hM1 hQ1 x1 hx2 hi1 hj1
 have hcI:=Blk.cell hI2
 have hcS:=Blk.cell hS2
 have hfS:=Blk.frozen hS2
 have lI:=hI2.lt
 have lS:=hS2.lt
 have lG:=hM2.lt
 have hyl:y < m.length:=by have:=HN.out;omega
 have hyI:(y:Int) < n:=by omega
 obtain ⟨v,hv⟩:∃ v,v=m[y]:=⟨_,rfl⟩
 have Hvr:Hid (i32ok v):=zhd (by rw [hv];exact HO.out _ (List.getElem_mem hyl))
 have HV:=zhd hv
 by_cases hz:v=0
 ·have b0:(v == 0)=true:=by simp [hz]
  have HE:Hid (execI ⟨21,a,y,z⟩ pc m=(pc+1,0,m)):=zhd (by simp [execI,mget_in hyl,← hv,hz])
  exact zz20
 ·have b0:(v == 0)=false:=by simp [hz]
  have HE:Hid (execI ⟨21,a,y,z⟩ pc m=((a:Int),0,m)):=zhd (by simp [execI,mget_in hyl,← hv,hz])
  exact zz20
open Go.RowKit
set_option maxRecDepth 100000 in
theorem st_3 (w:World) (base s g n kc q:Nat) (A:Option Addr) (b off cn cap:Nat) (c:List Ins) (pc:Int) (m:List Int) (h:StepPre w base s g n kc q A b off cn c pc m) (a y z:Nat) (ha:a < n) (hy:y < n) (hz:z < n) (hnx:nextI c pc n=some ⟨3,a,y,z⟩) (hright:rightI ⟨3,a,y,z⟩ cn n=true) :
 Calls Tryz.prog 63 #[.pointer (some ⟨s,0,none⟩),.slice A cn cap,.map (some q)] w fun e w'=>e=.returned (.tuple #[])∧Stepped w w' base s g n kc (execI ⟨3,a,y,z⟩ pc m):=by
 obtain ⟨hn,hn1,hn2,hmok,hops,hst,hmem,hmap,hcA,hrow,hcn,hcn2,hpc0,hpc1,hsg⟩:=h
 have hls:=hst.lt
 have hlg:=hmem.lt
 have hlq:=hmap.lt
 have hgs:¬ g=s:=fun e=>hsg e.symm
 have HX:=zhd hnx
 have HN:=zhd hn
 have HO:=zhd hmok
 have HOP:=zhd hops
 have HA:=zhd hcA
 have HR:=zhd hrow
 have HCN:=zhd hcn
 have HRT:=zhd hright
 clear hnx hn hmok hops hcA hrow hcn hright
 go_enter Tryz.func63,Tryz.ntmps63
 go_wp2_with fail
 refine (next_any s pc 0 (some ⟨g,0,none⟩) n kc A b off c cn cap _ HCN.out hcn2 hpc0 HA.out HOP.out hst HR.out).mono ?_
 rintro e w1 ⟨e1,hx1⟩
 replace e1:e=.returned (.tuple #[.agg (Ins.cells ⟨3,a,y,z⟩),.bool true]):=by rw [e1,HX.out];rfl
 subst e1
 have hI1:=Blk.new w1 77 (Ins.cells ⟨3,a,y,z⟩)
 have x1:=hx1.alloc (.cells (Ins.cells ⟨3,a,y,z⟩) 77)
 have hS1:=Blk.ext hst x1
 have hM1:=hmem.ext x1
 have hQ1:=hmap.ext x1
 have l1:=hx1.size
 clear hst hmem hmap hx1
 go_upto_region 3 with (fail)
 generalize (w1.alloc (.cells (Ins.cells ⟨3,a,y,z⟩) 77))=W1 at hI1 x1 hS1 hM1 hQ1 ⊢
 generalize w1.heap.size=ic at hI1 l1 ⊢
 have hi1:=Blk.has hI1
 have hj1:=Blk.gets hI1
 go_wp2_with fail
 refine (far_any ⟨3,a,y,z⟩ cn s pc 0 g 0 n kc m _ HN.out hn2 HRT.out HO.out hS1 hM1.row).mono ?_
 rintro e w2 ⟨e2,hx2⟩
 replace e2:e=.returned (.int .i64 (-1)):=by rw [e2];rfl
 subst e2
 have x2:=x1.trans hx2
 have hI2:=Blk.ext hI1 hx2
 have hS2:=Blk.ext hS1 hx2
 have hM2:=hM1.ext hx2
 have hQ2:=hQ1.ext hx2
 clear hI1 hS1 hM1 hQ1 x1 hx2 hi1 hj1
 have hcI:=Blk.cell hI2
 have hcS:=Blk.cell hS2
 have hfS:=Blk.frozen hS2
 have lI:=hI2.lt
 have lS:=hS2.lt
 have lG:=hM2.lt
 have hal:a < m.length:=by have:=HN.out;omega
 have haI:(a:Int) < n:=by omega
 have hyl:y < m.length:=by have:=HN.out;omega
 have hyI:(y:Int) < n:=by omega
 have hzl:z < m.length:=by have:=HN.out;omega
 have hzI:(z:Int) < n:=by omega
 have hcM:=hM2.cell a hal
 have hfM:=hM2.frozen
 obtain ⟨v,hv⟩:∃ v,v=m[y]:=⟨_,rfl⟩
 have Hvr:Hid (i32ok v):=zhd (by rw [hv];exact HO.out _ (List.getElem_mem hyl))
 obtain ⟨u,hu⟩:∃ u,u=m[z]:=⟨_,rfl⟩
 have Hur:Hid (i32ok u):=zhd (by rw [hu];exact HO.out _ (List.getElem_mem hzl))
 have HE:Hid (execI ⟨3,a,y,z⟩ pc m=(pc+1,0,m.set a (twoI 3 v u))):=zhd (by simp [execI,mput,mget_in hyl,mget_in hzl,hv,hu])
 have HV:=zhd hv
 have HU:=zhd hu
 clear hv hu
 go_upto_region 9 with (fail)
 refine qr3 (fun w3=>Ext w2 w3) [(0,2),(1,2),(2,1),(3,2),(4,2),(5,1),(6,1),(7,2),(8,2),(9,1),(10,2),(11,1),(12,2),(13,2),(14,1),(15,2),(16,1),(17,0),(18,2),(19,0)] ?_;refine qrl ?_
 (repeat (first | refine qs3 ?_ | ((apply w3_take);(· exact (Kept.drew (Kept.refl _ _)));(· go_simp);(· (intro w1 hS;have d1:=Blk.cell (Blk.ext hI2 hS);have d2:=(hM2.ext hS).cell y hyl;rw [← HV.out] at d2;have d3:=(hM2.ext hS).cell z hzl;rw [← HU.out] at d3;have d4:=lookF _ q 3 (.func (.func 100) #[] #[]) 0 (hQ2.ext hS) (by rfl); go_simp;try with_reducible rfl));refine qnx ?_) | ((apply w3_pass);(· exact (Kept.drew (Kept.refl _ _)));(· go_simp);refine qnx ?_)))
 (refine w3_act (fun K hK=>?_);go_simp)
 go_wp2_with fail
 refine (two3 v u Hvr.out Hur.out _).mono ?_
 rintro e w3 ⟨rfl,rfl⟩
 refine hK.out _ _ (fun h=>h) ?_
 clear hK K
 obtain ⟨t,ht⟩:∃ t,t=twoI 3 v u:=⟨_,rfl⟩
 exact zz23
set_option maxRecDepth 100000 in
theorem st_4 (w:World) (base s g n kc q:Nat) (A:Option Addr) (b off cn cap:Nat) (c:List Ins) (pc:Int) (m:List Int) (h:StepPre w base s g n kc q A b off cn c pc m) (a y z:Nat) (ha:a < n) (hy:y < n) (hz:z < n) (hnx:nextI c pc n=some ⟨4,a,y,z⟩) (hright:rightI ⟨4,a,y,z⟩ cn n=true) :
 Calls Tryz.prog 63 #[.pointer (some ⟨s,0,none⟩),.slice A cn cap,.map (some q)] w fun e w'=>e=.returned (.tuple #[])∧Stepped w w' base s g n kc (execI ⟨4,a,y,z⟩ pc m):=by
 obtain ⟨hn,hn1,hn2,hmok,hops,hst,hmem,hmap,hcA,hrow,hcn,hcn2,hpc0,hpc1,hsg⟩:=h
 have hls:=hst.lt
 have hlg:=hmem.lt
 have hlq:=hmap.lt
 have hgs:¬ g=s:=fun e=>hsg e.symm
 have HX:=zhd hnx
 have HN:=zhd hn
 have HO:=zhd hmok
 have HOP:=zhd hops
 have HA:=zhd hcA
 have HR:=zhd hrow
 have HCN:=zhd hcn
 have HRT:=zhd hright
 clear hnx hn hmok hops hcA hrow hcn hright
 go_enter Tryz.func63,Tryz.ntmps63
 go_wp2_with fail
 refine (next_any s pc 0 (some ⟨g,0,none⟩) n kc A b off c cn cap _ HCN.out hcn2 hpc0 HA.out HOP.out hst HR.out).mono ?_
 rintro e w1 ⟨e1,hx1⟩
 replace e1:e=.returned (.tuple #[.agg (Ins.cells ⟨4,a,y,z⟩),.bool true]):=by rw [e1,HX.out];rfl
 subst e1
 have hI1:=Blk.new w1 77 (Ins.cells ⟨4,a,y,z⟩)
 have x1:=hx1.alloc (.cells (Ins.cells ⟨4,a,y,z⟩) 77)
 have hS1:=Blk.ext hst x1
 have hM1:=hmem.ext x1
 have hQ1:=hmap.ext x1
 have l1:=hx1.size
 clear hst hmem hmap hx1
 go_upto_region 3 with (fail)
 generalize (w1.alloc (.cells (Ins.cells ⟨4,a,y,z⟩) 77))=W1 at hI1 x1 hS1 hM1 hQ1 ⊢
 generalize w1.heap.size=ic at hI1 l1 ⊢
 have hi1:=Blk.has hI1
 have hj1:=Blk.gets hI1
 go_wp2_with fail
 refine (far_any ⟨4,a,y,z⟩ cn s pc 0 g 0 n kc m _ HN.out hn2 HRT.out HO.out hS1 hM1.row).mono ?_
 rintro e w2 ⟨e2,hx2⟩
 replace e2:e=.returned (.int .i64 (-1)):=by rw [e2];rfl
 subst e2
 have x2:=x1.trans hx2
 have hI2:=Blk.ext hI1 hx2
 have hS2:=Blk.ext hS1 hx2
 have hM2:=hM1.ext hx2
 have hQ2:=hQ1.ext hx2
 clear hI1 hS1 hM1 hQ1 x1 hx2 hi1 hj1
 have hcI:=Blk.cell hI2
 have hcS:=Blk.cell hS2
 have hfS:=Blk.frozen hS2
 have lI:=hI2.lt
 have lS:=hS2.lt
 have lG:=hM2.lt
 have hal:a < m.length:=by have:=HN.out;omega
 have haI:(a:Int) < n:=by omega
 have hyl:y < m.length:=by have:=HN.out;omega
 have hyI:(y:Int) < n:=by omega
 have hzl:z < m.length:=by have:=HN.out;omega
 have hzI:(z:Int) < n:=by omega
 have hcM:=hM2.cell a hal
 have hfM:=hM2.frozen
 obtain ⟨v,hv⟩:∃ v,v=m[y]:=⟨_,rfl⟩
 have Hvr:Hid (i32ok v):=zhd (by rw [hv];exact HO.out _ (List.getElem_mem hyl))
 obtain ⟨u,hu⟩:∃ u,u=m[z]:=⟨_,rfl⟩
 have Hur:Hid (i32ok u):=zhd (by rw [hu];exact HO.out _ (List.getElem_mem hzl))
 have HE:Hid (execI ⟨4,a,y,z⟩ pc m=(pc+1,0,m.set a (twoI 4 v u))):=zhd (by simp [execI,mput,mget_in hyl,mget_in hzl,hv,hu])
 have HV:=zhd hv
 have HU:=zhd hu
 clear hv hu
 go_upto_region 9 with (fail)
 refine qr3 (fun w3=>Ext w2 w3) [(0,2),(1,2),(2,1),(3,2),(4,2),(5,1),(6,1),(7,2),(8,2),(9,1),(10,2),(11,1),(12,2),(13,2),(14,1),(15,2),(16,1),(17,0),(18,2),(19,0)] ?_;refine qrl ?_
 (repeat (first | refine qs3 ?_ | ((apply w3_take);(· exact (Kept.drew (Kept.refl _ _)));(· go_simp);(· (intro w1 hS;have d1:=Blk.cell (Blk.ext hI2 hS);have d2:=(hM2.ext hS).cell y hyl;rw [← HV.out] at d2;have d3:=(hM2.ext hS).cell z hzl;rw [← HU.out] at d3;have d4:=lookF _ q 4 (.func (.func 101) #[] #[]) 1 (hQ2.ext hS) (by rfl); go_simp;try with_reducible rfl));refine qnx ?_) | ((apply w3_pass);(· exact (Kept.drew (Kept.refl _ _)));(· go_simp);refine qnx ?_)))
 (refine w3_act (fun K hK=>?_);go_simp)
 go_wp2_with fail
 refine (two4 v u Hvr.out Hur.out _).mono ?_
 rintro e w3 ⟨rfl,rfl⟩
 refine hK.out _ _ (fun h=>h) ?_
 clear hK K
 obtain ⟨t,ht⟩:∃ t,t=twoI 4 v u:=⟨_,rfl⟩
 exact zz23
set_option maxRecDepth 100000 in
theorem st_5 (w:World) (base s g n kc q:Nat) (A:Option Addr) (b off cn cap:Nat) (c:List Ins) (pc:Int) (m:List Int) (h:StepPre w base s g n kc q A b off cn c pc m) (a y z:Nat) (ha:a < n) (hy:y < n) (hz:z < n) (hnx:nextI c pc n=some ⟨5,a,y,z⟩) (hright:rightI ⟨5,a,y,z⟩ cn n=true) :
 Calls Tryz.prog 63 #[.pointer (some ⟨s,0,none⟩),.slice A cn cap,.map (some q)] w fun e w'=>e=.returned (.tuple #[])∧Stepped w w' base s g n kc (execI ⟨5,a,y,z⟩ pc m):=by
 obtain ⟨hn,hn1,hn2,hmok,hops,hst,hmem,hmap,hcA,hrow,hcn,hcn2,hpc0,hpc1,hsg⟩:=h
 have hls:=hst.lt
 have hlg:=hmem.lt
 have hlq:=hmap.lt
 have hgs:¬ g=s:=fun e=>hsg e.symm
 have HX:=zhd hnx
 have HN:=zhd hn
 have HO:=zhd hmok
 have HOP:=zhd hops
 have HA:=zhd hcA
 have HR:=zhd hrow
 have HCN:=zhd hcn
 have HRT:=zhd hright
 clear hnx hn hmok hops hcA hrow hcn hright
 go_enter Tryz.func63,Tryz.ntmps63
 go_wp2_with fail
 refine (next_any s pc 0 (some ⟨g,0,none⟩) n kc A b off c cn cap _ HCN.out hcn2 hpc0 HA.out HOP.out hst HR.out).mono ?_
 rintro e w1 ⟨e1,hx1⟩
 replace e1:e=.returned (.tuple #[.agg (Ins.cells ⟨5,a,y,z⟩),.bool true]):=by rw [e1,HX.out];rfl
 subst e1
 have hI1:=Blk.new w1 77 (Ins.cells ⟨5,a,y,z⟩)
 have x1:=hx1.alloc (.cells (Ins.cells ⟨5,a,y,z⟩) 77)
 have hS1:=Blk.ext hst x1
 have hM1:=hmem.ext x1
 have hQ1:=hmap.ext x1
 have l1:=hx1.size
 clear hst hmem hmap hx1
 go_upto_region 3 with (fail)
 generalize (w1.alloc (.cells (Ins.cells ⟨5,a,y,z⟩) 77))=W1 at hI1 x1 hS1 hM1 hQ1 ⊢
 generalize w1.heap.size=ic at hI1 l1 ⊢
 have hi1:=Blk.has hI1
 have hj1:=Blk.gets hI1
 go_wp2_with fail
 refine (far_any ⟨5,a,y,z⟩ cn s pc 0 g 0 n kc m _ HN.out hn2 HRT.out HO.out hS1 hM1.row).mono ?_
 rintro e w2 ⟨e2,hx2⟩
 replace e2:e=.returned (.int .i64 (-1)):=by rw [e2];rfl
 subst e2
 have x2:=x1.trans hx2
 have hI2:=Blk.ext hI1 hx2
 have hS2:=Blk.ext hS1 hx2
 have hM2:=hM1.ext hx2
 have hQ2:=hQ1.ext hx2
 clear hI1 hS1 hM1 hQ1 x1 hx2 hi1 hj1
 have hcI:=Blk.cell hI2
 have hcS:=Blk.cell hS2
 have hfS:=Blk.frozen hS2
 have lI:=hI2.lt
 have lS:=hS2.lt
 have lG:=hM2.lt
 have hal:a < m.length:=by have:=HN.out;omega
 have haI:(a:Int) < n:=by omega
 have hyl:y < m.length:=by have:=HN.out;omega
 have hyI:(y:Int) < n:=by omega
 have hzl:z < m.length:=by have:=HN.out;omega
 have hzI:(z:Int) < n:=by omega
 have hcM:=hM2.cell a hal
 have hfM:=hM2.frozen
 obtain ⟨v,hv⟩:∃ v,v=m[y]:=⟨_,rfl⟩
 have Hvr:Hid (i32ok v):=zhd (by rw [hv];exact HO.out _ (List.getElem_mem hyl))
 obtain ⟨u,hu⟩:∃ u,u=m[z]:=⟨_,rfl⟩
 have Hur:Hid (i32ok u):=zhd (by rw [hu];exact HO.out _ (List.getElem_mem hzl))
 have HE:Hid (execI ⟨5,a,y,z⟩ pc m=(pc+1,0,m.set a (twoI 5 v u))):=zhd (by simp [execI,mput,mget_in hyl,mget_in hzl,hv,hu])
 have HV:=zhd hv
 have HU:=zhd hu
 clear hv hu
 go_upto_region 9 with (fail)
 refine qr3 (fun w3=>Ext w2 w3) [(0,2),(1,2),(2,1),(3,2),(4,2),(5,1),(6,1),(7,2),(8,2),(9,1),(10,2),(11,1),(12,2),(13,2),(14,1),(15,2),(16,1),(17,0),(18,2),(19,0)] ?_;refine qrl ?_
 (repeat (first | refine qs3 ?_ | ((apply w3_take);(· exact (Kept.drew (Kept.refl _ _)));(· go_simp);(· (intro w1 hS;have d1:=Blk.cell (Blk.ext hI2 hS);have d2:=(hM2.ext hS).cell y hyl;rw [← HV.out] at d2;have d3:=(hM2.ext hS).cell z hzl;rw [← HU.out] at d3;have d4:=lookF _ q 5 (.func (.func 102) #[] #[]) 2 (hQ2.ext hS) (by rfl); go_simp;try with_reducible rfl));refine qnx ?_) | ((apply w3_pass);(· exact (Kept.drew (Kept.refl _ _)));(· go_simp);refine qnx ?_)))
 (refine w3_act (fun K hK=>?_);go_simp)
 go_wp2_with fail
 refine (two5 v u Hvr.out Hur.out _).mono ?_
 rintro e w3 ⟨rfl,rfl⟩
 refine hK.out _ _ (fun h=>h) ?_
 clear hK K
 obtain ⟨t,ht⟩:∃ t,t=twoI 5 v u:=⟨_,rfl⟩
 exact zz23
set_option maxRecDepth 100000 in
theorem st_6 (w:World) (base s g n kc q:Nat) (A:Option Addr) (b off cn cap:Nat) (c:List Ins) (pc:Int) (m:List Int) (h:StepPre w base s g n kc q A b off cn c pc m) (a y z:Nat) (ha:a < n) (hy:y < n) (hz:z < n) (hnx:nextI c pc n=some ⟨6,a,y,z⟩) (hright:rightI ⟨6,a,y,z⟩ cn n=true) :
 Calls Tryz.prog 63 #[.pointer (some ⟨s,0,none⟩),.slice A cn cap,.map (some q)] w fun e w'=>e=.returned (.tuple #[])∧Stepped w w' base s g n kc (execI ⟨6,a,y,z⟩ pc m):=by
 obtain ⟨hn,hn1,hn2,hmok,hops,hst,hmem,hmap,hcA,hrow,hcn,hcn2,hpc0,hpc1,hsg⟩:=h
 have hls:=hst.lt
 have hlg:=hmem.lt
 have hlq:=hmap.lt
 have hgs:¬ g=s:=fun e=>hsg e.symm
 have HX:=zhd hnx
 have HN:=zhd hn
 have HO:=zhd hmok
 have HOP:=zhd hops
 have HA:=zhd hcA
 have HR:=zhd hrow
 have HCN:=zhd hcn
 have HRT:=zhd hright
 clear hnx hn hmok hops hcA hrow hcn hright
 go_enter Tryz.func63,Tryz.ntmps63
 go_wp2_with fail
 refine (next_any s pc 0 (some ⟨g,0,none⟩) n kc A b off c cn cap _ HCN.out hcn2 hpc0 HA.out HOP.out hst HR.out).mono ?_
 rintro e w1 ⟨e1,hx1⟩
 replace e1:e=.returned (.tuple #[.agg (Ins.cells ⟨6,a,y,z⟩),.bool true]):=by rw [e1,HX.out];rfl
 subst e1
 have hI1:=Blk.new w1 77 (Ins.cells ⟨6,a,y,z⟩)
 have x1:=hx1.alloc (.cells (Ins.cells ⟨6,a,y,z⟩) 77)
 have hS1:=Blk.ext hst x1
 have hM1:=hmem.ext x1
 have hQ1:=hmap.ext x1
 have l1:=hx1.size
 clear hst hmem hmap hx1
 go_upto_region 3 with (fail)
 generalize (w1.alloc (.cells (Ins.cells ⟨6,a,y,z⟩) 77))=W1 at hI1 x1 hS1 hM1 hQ1 ⊢
 generalize w1.heap.size=ic at hI1 l1 ⊢
 have hi1:=Blk.has hI1
 have hj1:=Blk.gets hI1
 go_wp2_with fail
 refine (far_any ⟨6,a,y,z⟩ cn s pc 0 g 0 n kc m _ HN.out hn2 HRT.out HO.out hS1 hM1.row).mono ?_
 rintro e w2 ⟨e2,hx2⟩
 replace e2:e=.returned (.int .i64 (-1)):=by rw [e2];rfl
 subst e2
 have x2:=x1.trans hx2
 have hI2:=Blk.ext hI1 hx2
 have hS2:=Blk.ext hS1 hx2
 have hM2:=hM1.ext hx2
 have hQ2:=hQ1.ext hx2
 clear hI1 hS1 hM1 hQ1 x1 hx2 hi1 hj1
 have hcI:=Blk.cell hI2
 have hcS:=Blk.cell hS2
 have hfS:=Blk.frozen hS2
 have lI:=hI2.lt
 have lS:=hS2.lt
 have lG:=hM2.lt
 have hal:a < m.length:=by have:=HN.out;omega
 have haI:(a:Int) < n:=by omega
 have hyl:y < m.length:=by have:=HN.out;omega
 have hyI:(y:Int) < n:=by omega
 have hzl:z < m.length:=by have:=HN.out;omega
 have hzI:(z:Int) < n:=by omega
 have hcM:=hM2.cell a hal
 have hfM:=hM2.frozen
 obtain ⟨v,hv⟩:∃ v,v=m[y]:=⟨_,rfl⟩
 have Hvr:Hid (i32ok v):=zhd (by rw [hv];exact HO.out _ (List.getElem_mem hyl))
 obtain ⟨u,hu⟩:∃ u,u=m[z]:=⟨_,rfl⟩
 have Hur:Hid (i32ok u):=zhd (by rw [hu];exact HO.out _ (List.getElem_mem hzl))
 have HE:Hid (execI ⟨6,a,y,z⟩ pc m=(pc+1,0,m.set a (twoI 6 v u))):=zhd (by simp [execI,mput,mget_in hyl,mget_in hzl,hv,hu])
 have HV:=zhd hv
 have HU:=zhd hu
 clear hv hu
 go_upto_region 9 with (fail)
 refine qr3 (fun w3=>Ext w2 w3) [(0,2),(1,2),(2,1),(3,2),(4,2),(5,1),(6,1),(7,2),(8,2),(9,1),(10,2),(11,1),(12,2),(13,2),(14,1),(15,2),(16,1),(17,0),(18,2),(19,0)] ?_;refine qrl ?_
 (repeat (first | refine qs3 ?_ | ((apply w3_take);(· exact (Kept.drew (Kept.refl _ _)));(· go_simp);(· (intro w1 hS;have d1:=Blk.cell (Blk.ext hI2 hS);have d2:=(hM2.ext hS).cell y hyl;rw [← HV.out] at d2;have d3:=(hM2.ext hS).cell z hzl;rw [← HU.out] at d3;have d4:=lookF _ q 6 (.func (.func 103) #[] #[]) 3 (hQ2.ext hS) (by rfl); go_simp;try with_reducible rfl));refine qnx ?_) | ((apply w3_pass);(· exact (Kept.drew (Kept.refl _ _)));(· go_simp);refine qnx ?_)))
 (refine w3_act (fun K hK=>?_);go_simp)
 go_wp2_with fail
 refine (two6 v u Hvr.out Hur.out _).mono ?_
 rintro e w3 ⟨rfl,rfl⟩
 refine hK.out _ _ (fun h=>h) ?_
 clear hK K
 obtain ⟨t,ht⟩:∃ t,t=twoI 6 v u:=⟨_,rfl⟩
 exact zz23
end Go.Proofs.YtbfbabbcdochjaaGreatDoor.Mc
