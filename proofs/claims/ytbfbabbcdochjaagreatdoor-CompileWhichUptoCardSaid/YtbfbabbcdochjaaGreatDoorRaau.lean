/- Several texts joined: Kif, Kig. -/
import Derived.Test.YtbfbabbcdochjaaGreatDoorRapk
import Derived.Test.YtbfbabbcdochjaaGreatDoorRaas
set_option maxHeartbeats 4000000
namespace Go.Proofs.YtbfbabbcdochjaaGreatDoor.Mc
open Go.RowKit
set_option maxRecDepth 100000 in
theorem st_7 (w:World) (base s g n kc q:Nat) (A:Option Addr) (b off cn cap:Nat) (c:List Ins) (pc:Int) (m:List Int) (h:StepPre w base s g n kc q A b off cn c pc m) (a y z:Nat) (ha:a < n) (hy:y < n) (hz:z < n) (hnx:nextI c pc n=some ⟨7,a,y,z⟩) (hright:rightI ⟨7,a,y,z⟩ cn n=true) :
 Calls Tryz.prog 63 #[.pointer (some ⟨s,0,none⟩),.slice A cn cap,.map (some q)] w fun e w'=>e=.returned (.tuple #[])∧Stepped w w' base s g n kc (execI ⟨7,a,y,z⟩ pc m):=by
 obtain ⟨hn,hn1,hn2,hmok,hops,hst,hmem,hmap,hcA,hrow,hcn,hcn2,hpc0,hpc1,hsg⟩:=h
 have hls:=hst.lt
 have hlg:=hmem.lt
 have hlq:=hmap.lt
 have hgs:¬ g=s:=fun e=>hsg e.symm
 have HX:=zhd hnx
 have HN:=zhd hn
 have HO:=zhd hmok
 have HOP:=zhd hops
 have HA:=zhd hcA
 have HR:=zhd hrow
 have HCN:=zhd hcn
 have HRT:=zhd hright
 clear hnx hn hmok hops hcA hrow hcn hright
 go_enter Tryz.func63,Tryz.ntmps63
 go_wp2_with fail
 refine (next_any s pc 0 (some ⟨g,0,none⟩) n kc A b off c cn cap _ HCN.out hcn2 hpc0 HA.out HOP.out hst HR.out).mono ?_
 rintro e w1 ⟨e1,hx1⟩
 replace e1:e=.returned (.tuple #[.agg (Ins.cells ⟨7,a,y,z⟩),.bool true]):=by rw [e1,HX.out];rfl
 subst e1
 have hI1:=Blk.new w1 77 (Ins.cells ⟨7,a,y,z⟩)
 have x1:=hx1.alloc (.cells (Ins.cells ⟨7,a,y,z⟩) 77)
 have hS1:=Blk.ext hst x1
 have hM1:=hmem.ext x1
 have hQ1:=hmap.ext x1
 have l1:=hx1.size
 clear hst hmem hmap hx1
 go_upto_region 3 with (fail)
 generalize (w1.alloc (.cells (Ins.cells ⟨7,a,y,z⟩) 77))=W1 at hI1 x1 hS1 hM1 hQ1 ⊢
 generalize w1.heap.size=ic at hI1 l1 ⊢
 have hi1:=Blk.has hI1
 have hj1:=Blk.gets hI1
 go_wp2_with fail
 refine (far_any ⟨7,a,y,z⟩ cn s pc 0 g 0 n kc m _ HN.out hn2 HRT.out HO.out hS1 hM1.row).mono ?_
 rintro e w2 ⟨e2,hx2⟩
 replace e2:e=.returned (.int .i64 (-1)):=by rw [e2];rfl
 subst e2
 have x2:=x1.trans hx2
 have hI2:=Blk.ext hI1 hx2
 have hS2:=Blk.ext hS1 hx2
 have hM2:=hM1.ext hx2
 have hQ2:=hQ1.ext hx2
 clear hI1 hS1 hM1 hQ1 x1 hx2 hi1 hj1
 have hcI:=Blk.cell hI2
 have hcS:=Blk.cell hS2
 have hfS:=Blk.frozen hS2
 have lI:=hI2.lt
 have lS:=hS2.lt
 have lG:=hM2.lt
 have hal:a < m.length:=by have:=HN.out;omega
 have haI:(a:Int) < n:=by omega
 have hyl:y < m.length:=by have:=HN.out;omega
 have hyI:(y:Int) < n:=by omega
 have hzl:z < m.length:=by have:=HN.out;omega
 have hzI:(z:Int) < n:=by omega
 have hcM:=hM2.cell a hal
 have hfM:=hM2.frozen
 obtain ⟨v,hv⟩:∃ v,v=m[y]:=⟨_,rfl⟩
 have Hvr:Hid (i32ok v):=zhd (by rw [hv];exact HO.out _ (List.getElem_mem hyl))
 obtain ⟨u,hu⟩:∃ u,u=m[z]:=⟨_,rfl⟩
 have Hur:Hid (i32ok u):=zhd (by rw [hu];exact HO.out _ (List.getElem_mem hzl))
 have HE:Hid (execI ⟨7,a,y,z⟩ pc m=(pc+1,0,m.set a (twoI 7 v u))):=zhd (by simp [execI,mput,mget_in hyl,mget_in hzl,hv,hu])
 have HV:=zhd hv
 have HU:=zhd hu
 clear hv hu
 go_upto_region 9 with (fail)
 refine qr3 (fun w3=>Ext w2 w3) [(0,2),(1,2),(2,1),(3,2),(4,2),(5,1),(6,1),(7,2),(8,2),(9,1),(10,2),(11,1),(12,2),(13,2),(14,1),(15,2),(16,1),(17,0),(18,2),(19,0)] ?_;refine qrl ?_
 (repeat (first | refine qs3 ?_ | ((apply w3_take);(· exact (Kept.drew (Kept.refl _ _)));(· go_simp);(· (intro w1 hS;have d1:=Blk.cell (Blk.ext hI2 hS);have d2:=(hM2.ext hS).cell y hyl;rw [← HV.out] at d2;have d3:=(hM2.ext hS).cell z hzl;rw [← HU.out] at d3;have d4:=lookF _ q 7 (.func (.func 104) #[] #[]) 4 (hQ2.ext hS) (by rfl); go_simp;try with_reducible rfl));refine qnx ?_) | ((apply w3_pass);(· exact (Kept.drew (Kept.refl _ _)));(· go_simp);refine qnx ?_)))
 (refine w3_act (fun K hK=>?_);go_simp)
 go_wp2_with fail
 refine (two7 v u Hvr.out Hur.out _).mono ?_
 rintro e w3 ⟨rfl,rfl⟩
 refine hK.out _ _ (fun h=>h) ?_
 clear hK K
 obtain ⟨t,ht⟩:∃ t,t=twoI 7 v u:=⟨_,rfl⟩
 exact zz23
set_option maxRecDepth 100000 in
theorem st_8 (w:World) (base s g n kc q:Nat) (A:Option Addr) (b off cn cap:Nat) (c:List Ins) (pc:Int) (m:List Int) (h:StepPre w base s g n kc q A b off cn c pc m) (a y z:Nat) (ha:a < n) (hy:y < n) (hz:z < n) (hnx:nextI c pc n=some ⟨8,a,y,z⟩) (hright:rightI ⟨8,a,y,z⟩ cn n=true) :
 Calls Tryz.prog 63 #[.pointer (some ⟨s,0,none⟩),.slice A cn cap,.map (some q)] w fun e w'=>e=.returned (.tuple #[])∧Stepped w w' base s g n kc (execI ⟨8,a,y,z⟩ pc m):=by
 obtain ⟨hn,hn1,hn2,hmok,hops,hst,hmem,hmap,hcA,hrow,hcn,hcn2,hpc0,hpc1,hsg⟩:=h
 have hls:=hst.lt
 have hlg:=hmem.lt
 have hlq:=hmap.lt
 have hgs:¬ g=s:=fun e=>hsg e.symm
 have HX:=zhd hnx
 have HN:=zhd hn
 have HO:=zhd hmok
 have HOP:=zhd hops
 have HA:=zhd hcA
 have HR:=zhd hrow
 have HCN:=zhd hcn
 have HRT:=zhd hright
 clear hnx hn hmok hops hcA hrow hcn hright
 go_enter Tryz.func63,Tryz.ntmps63
 go_wp2_with fail
 refine (next_any s pc 0 (some ⟨g,0,none⟩) n kc A b off c cn cap _ HCN.out hcn2 hpc0 HA.out HOP.out hst HR.out).mono ?_
 rintro e w1 ⟨e1,hx1⟩
 replace e1:e=.returned (.tuple #[.agg (Ins.cells ⟨8,a,y,z⟩),.bool true]):=by rw [e1,HX.out];rfl
 subst e1
 have hI1:=Blk.new w1 77 (Ins.cells ⟨8,a,y,z⟩)
 have x1:=hx1.alloc (.cells (Ins.cells ⟨8,a,y,z⟩) 77)
 have hS1:=Blk.ext hst x1
 have hM1:=hmem.ext x1
 have hQ1:=hmap.ext x1
 have l1:=hx1.size
 clear hst hmem hmap hx1
 go_upto_region 3 with (fail)
 generalize (w1.alloc (.cells (Ins.cells ⟨8,a,y,z⟩) 77))=W1 at hI1 x1 hS1 hM1 hQ1 ⊢
 generalize w1.heap.size=ic at hI1 l1 ⊢
 have hi1:=Blk.has hI1
 have hj1:=Blk.gets hI1
 go_wp2_with fail
 refine (far_any ⟨8,a,y,z⟩ cn s pc 0 g 0 n kc m _ HN.out hn2 HRT.out HO.out hS1 hM1.row).mono ?_
 rintro e w2 ⟨e2,hx2⟩
 replace e2:e=.returned (.int .i64 (-1)):=by rw [e2];rfl
 subst e2
 have x2:=x1.trans hx2
 have hI2:=Blk.ext hI1 hx2
 have hS2:=Blk.ext hS1 hx2
 have hM2:=hM1.ext hx2
 have hQ2:=hQ1.ext hx2
 clear hI1 hS1 hM1 hQ1 x1 hx2 hi1 hj1
 have hcI:=Blk.cell hI2
 have hcS:=Blk.cell hS2
 have hfS:=Blk.frozen hS2
 have lI:=hI2.lt
 have lS:=hS2.lt
 have lG:=hM2.lt
 have hal:a < m.length:=by have:=HN.out;omega
 have haI:(a:Int) < n:=by omega
 have hyl:y < m.length:=by have:=HN.out;omega
 have hyI:(y:Int) < n:=by omega
 have hzl:z < m.length:=by have:=HN.out;omega
 have hzI:(z:Int) < n:=by omega
 have hcM:=hM2.cell a hal
 have hfM:=hM2.frozen
 obtain ⟨v,hv⟩:∃ v,v=m[y]:=⟨_,rfl⟩
 have Hvr:Hid (i32ok v):=zhd (by rw [hv];exact HO.out _ (List.getElem_mem hyl))
 obtain ⟨u,hu⟩:∃ u,u=m[z]:=⟨_,rfl⟩
 have Hur:Hid (i32ok u):=zhd (by rw [hu];exact HO.out _ (List.getElem_mem hzl))
 have HE:Hid (execI ⟨8,a,y,z⟩ pc m=(pc+1,0,m.set a (twoI 8 v u))):=zhd (by simp [execI,mput,mget_in hyl,mget_in hzl,hv,hu])
 have HV:=zhd hv
 have HU:=zhd hu
 clear hv hu
 go_upto_region 9 with (fail)
 refine qr3 (fun w3=>Ext w2 w3) [(0,2),(1,2),(2,1),(3,2),(4,2),(5,1),(6,1),(7,2),(8,2),(9,1),(10,2),(11,1),(12,2),(13,2),(14,1),(15,2),(16,1),(17,0),(18,2),(19,0)] ?_;refine qrl ?_
 (repeat (first | refine qs3 ?_ | ((apply w3_take);(· exact (Kept.drew (Kept.refl _ _)));(· go_simp);(· (intro w1 hS;have d1:=Blk.cell (Blk.ext hI2 hS);have d2:=(hM2.ext hS).cell y hyl;rw [← HV.out] at d2;have d3:=(hM2.ext hS).cell z hzl;rw [← HU.out] at d3;have d4:=lookF _ q 8 (.func (.func 105) #[] #[]) 5 (hQ2.ext hS) (by rfl); go_simp;try with_reducible rfl));refine qnx ?_) | ((apply w3_pass);(· exact (Kept.drew (Kept.refl _ _)));(· go_simp);refine qnx ?_)))
 (refine w3_act (fun K hK=>?_);go_simp)
 go_wp2_with fail
 refine (two8 v u Hvr.out Hur.out _).mono ?_
 rintro e w3 ⟨rfl,rfl⟩
 refine hK.out _ _ (fun h=>h) ?_
 clear hK K
 obtain ⟨t,ht⟩:∃ t,t=twoI 8 v u:=⟨_,rfl⟩
 exact zz23
set_option maxRecDepth 100000 in
theorem st_9 (w:World) (base s g n kc q:Nat) (A:Option Addr) (b off cn cap:Nat) (c:List Ins) (pc:Int) (m:List Int) (h:StepPre w base s g n kc q A b off cn c pc m) (a y z:Nat) (ha:a < n) (hy:y < n) (hz:z < n) (hnx:nextI c pc n=some ⟨9,a,y,z⟩) (hright:rightI ⟨9,a,y,z⟩ cn n=true) :
 Calls Tryz.prog 63 #[.pointer (some ⟨s,0,none⟩),.slice A cn cap,.map (some q)] w fun e w'=>e=.returned (.tuple #[])∧Stepped w w' base s g n kc (execI ⟨9,a,y,z⟩ pc m):=by
 obtain ⟨hn,hn1,hn2,hmok,hops,hst,hmem,hmap,hcA,hrow,hcn,hcn2,hpc0,hpc1,hsg⟩:=h
 have hls:=hst.lt
 have hlg:=hmem.lt
 have hlq:=hmap.lt
 have hgs:¬ g=s:=fun e=>hsg e.symm
 have HX:=zhd hnx
 have HN:=zhd hn
 have HO:=zhd hmok
 have HOP:=zhd hops
 have HA:=zhd hcA
 have HR:=zhd hrow
 have HCN:=zhd hcn
 have HRT:=zhd hright
 clear hnx hn hmok hops hcA hrow hcn hright
 go_enter Tryz.func63,Tryz.ntmps63
 go_wp2_with fail
 refine (next_any s pc 0 (some ⟨g,0,none⟩) n kc A b off c cn cap _ HCN.out hcn2 hpc0 HA.out HOP.out hst HR.out).mono ?_
 rintro e w1 ⟨e1,hx1⟩
 replace e1:e=.returned (.tuple #[.agg (Ins.cells ⟨9,a,y,z⟩),.bool true]):=by rw [e1,HX.out];rfl
 subst e1
 have hI1:=Blk.new w1 77 (Ins.cells ⟨9,a,y,z⟩)
 have x1:=hx1.alloc (.cells (Ins.cells ⟨9,a,y,z⟩) 77)
 have hS1:=Blk.ext hst x1
 have hM1:=hmem.ext x1
 have hQ1:=hmap.ext x1
 have l1:=hx1.size
 clear hst hmem hmap hx1
 go_upto_region 3 with (fail)
 generalize (w1.alloc (.cells (Ins.cells ⟨9,a,y,z⟩) 77))=W1 at hI1 x1 hS1 hM1 hQ1 ⊢
 generalize w1.heap.size=ic at hI1 l1 ⊢
 have hi1:=Blk.has hI1
 have hj1:=Blk.gets hI1
 go_wp2_with fail
 refine (far_any ⟨9,a,y,z⟩ cn s pc 0 g 0 n kc m _ HN.out hn2 HRT.out HO.out hS1 hM1.row).mono ?_
 rintro e w2 ⟨e2,hx2⟩
 replace e2:e=.returned (.int .i64 (-1)):=by rw [e2];rfl
 subst e2
 have x2:=x1.trans hx2
 have hI2:=Blk.ext hI1 hx2
 have hS2:=Blk.ext hS1 hx2
 have hM2:=hM1.ext hx2
 have hQ2:=hQ1.ext hx2
 clear hI1 hS1 hM1 hQ1 x1 hx2 hi1 hj1
 have hcI:=Blk.cell hI2
 have hcS:=Blk.cell hS2
 have hfS:=Blk.frozen hS2
 have lI:=hI2.lt
 have lS:=hS2.lt
 have lG:=hM2.lt
 have hal:a < m.length:=by have:=HN.out;omega
 have haI:(a:Int) < n:=by omega
 have hyl:y < m.length:=by have:=HN.out;omega
 have hyI:(y:Int) < n:=by omega
 have hzl:z < m.length:=by have:=HN.out;omega
 have hzI:(z:Int) < n:=by omega
 have hcM:=hM2.cell a hal
 have hfM:=hM2.frozen
 obtain ⟨v,hv⟩:∃ v,v=m[y]:=⟨_,rfl⟩
 have Hvr:Hid (i32ok v):=zhd (by rw [hv];exact HO.out _ (List.getElem_mem hyl))
 obtain ⟨u,hu⟩:∃ u,u=m[z]:=⟨_,rfl⟩
 have Hur:Hid (i32ok u):=zhd (by rw [hu];exact HO.out _ (List.getElem_mem hzl))
 have HE:Hid (execI ⟨9,a,y,z⟩ pc m=(pc+1,0,m.set a (twoI 9 v u))):=zhd (by simp [execI,mput,mget_in hyl,mget_in hzl,hv,hu])
 have HV:=zhd hv
 have HU:=zhd hu
 clear hv hu
 go_upto_region 9 with (fail)
 refine qr3 (fun w3=>Ext w2 w3) [(0,2),(1,2),(2,1),(3,2),(4,2),(5,1),(6,1),(7,2),(8,2),(9,1),(10,2),(11,1),(12,2),(13,2),(14,1),(15,2),(16,1),(17,0),(18,2),(19,0)] ?_;refine qrl ?_
 (repeat (first | refine qs3 ?_ | ((apply w3_take);(· exact (Kept.drew (Kept.refl _ _)));(· go_simp);(· (intro w1 hS;have d1:=Blk.cell (Blk.ext hI2 hS);have d2:=(hM2.ext hS).cell y hyl;rw [← HV.out] at d2;have d3:=(hM2.ext hS).cell z hzl;rw [← HU.out] at d3;have d4:=lookF _ q 9 (.func (.func 107) #[] #[]) 6 (hQ2.ext hS) (by rfl); go_simp;try with_reducible rfl));refine qnx ?_) | ((apply w3_pass);(· exact (Kept.drew (Kept.refl _ _)));(· go_simp);refine qnx ?_)))
 (refine w3_act (fun K hK=>?_);go_simp)
 go_wp2_with fail
 refine (two9 v u Hvr.out Hur.out _).mono ?_
 rintro e w3 ⟨rfl,rfl⟩
 refine hK.out _ _ (fun h=>h) ?_
 clear hK K
 obtain ⟨t,ht⟩:∃ t,t=twoI 9 v u:=⟨_,rfl⟩
 exact zz23
set_option maxRecDepth 100000 in
theorem st_10 (w:World) (base s g n kc q:Nat) (A:Option Addr) (b off cn cap:Nat) (c:List Ins) (pc:Int) (m:List Int) (h:StepPre w base s g n kc q A b off cn c pc m) (a y z:Nat) (ha:a < n) (hy:y < n) (hz:z < n) (hnx:nextI c pc n=some ⟨10,a,y,z⟩) (hright:rightI ⟨10,a,y,z⟩ cn n=true) :
 Calls Tryz.prog 63 #[.pointer (some ⟨s,0,none⟩),.slice A cn cap,.map (some q)] w fun e w'=>e=.returned (.tuple #[])∧Stepped w w' base s g n kc (execI ⟨10,a,y,z⟩ pc m):=by
 obtain ⟨hn,hn1,hn2,hmok,hops,hst,hmem,hmap,hcA,hrow,hcn,hcn2,hpc0,hpc1,hsg⟩:=h
 have hls:=hst.lt
 have hlg:=hmem.lt
 have hlq:=hmap.lt
 have hgs:¬ g=s:=fun e=>hsg e.symm
 have HX:=zhd hnx
 have HN:=zhd hn
 have HO:=zhd hmok
 have HOP:=zhd hops
 have HA:=zhd hcA
 have HR:=zhd hrow
 have HCN:=zhd hcn
 have HRT:=zhd hright
 clear hnx hn hmok hops hcA hrow hcn hright
 go_enter Tryz.func63,Tryz.ntmps63
 go_wp2_with fail
 refine (next_any s pc 0 (some ⟨g,0,none⟩) n kc A b off c cn cap _ HCN.out hcn2 hpc0 HA.out HOP.out hst HR.out).mono ?_
 rintro e w1 ⟨e1,hx1⟩
 replace e1:e=.returned (.tuple #[.agg (Ins.cells ⟨10,a,y,z⟩),.bool true]):=by rw [e1,HX.out];rfl
 subst e1
 have hI1:=Blk.new w1 77 (Ins.cells ⟨10,a,y,z⟩)
 have x1:=hx1.alloc (.cells (Ins.cells ⟨10,a,y,z⟩) 77)
 have hS1:=Blk.ext hst x1
 have hM1:=hmem.ext x1
 have hQ1:=hmap.ext x1
 have l1:=hx1.size
 clear hst hmem hmap hx1
 go_upto_region 3 with (fail)
 generalize (w1.alloc (.cells (Ins.cells ⟨10,a,y,z⟩) 77))=W1 at hI1 x1 hS1 hM1 hQ1 ⊢
 generalize w1.heap.size=ic at hI1 l1 ⊢
 have hi1:=Blk.has hI1
 have hj1:=Blk.gets hI1
 go_wp2_with fail
 refine (far_any ⟨10,a,y,z⟩ cn s pc 0 g 0 n kc m _ HN.out hn2 HRT.out HO.out hS1 hM1.row).mono ?_
 rintro e w2 ⟨e2,hx2⟩
 replace e2:e=.returned (.int .i64 (-1)):=by rw [e2];rfl
 subst e2
 have x2:=x1.trans hx2
 have hI2:=Blk.ext hI1 hx2
 have hS2:=Blk.ext hS1 hx2
 have hM2:=hM1.ext hx2
 have hQ2:=hQ1.ext hx2
 clear hI1 hS1 hM1 hQ1 x1 hx2 hi1 hj1
 have hcI:=Blk.cell hI2
 have hcS:=Blk.cell hS2
 have hfS:=Blk.frozen hS2
 have lI:=hI2.lt
 have lS:=hS2.lt
 have lG:=hM2.lt
 have hal:a < m.length:=by have:=HN.out;omega
 have haI:(a:Int) < n:=by omega
 have hyl:y < m.length:=by have:=HN.out;omega
 have hyI:(y:Int) < n:=by omega
 have hzl:z < m.length:=by have:=HN.out;omega
 have hzI:(z:Int) < n:=by omega
 have hcM:=hM2.cell a hal
 have hfM:=hM2.frozen
 obtain ⟨v,hv⟩:∃ v,v=m[y]:=⟨_,rfl⟩
 have Hvr:Hid (i32ok v):=zhd (by rw [hv];exact HO.out _ (List.getElem_mem hyl))
 obtain ⟨u,hu⟩:∃ u,u=m[z]:=⟨_,rfl⟩
 have Hur:Hid (i32ok u):=zhd (by rw [hu];exact HO.out _ (List.getElem_mem hzl))
 have HE:Hid (execI ⟨10,a,y,z⟩ pc m=(pc+1,0,m.set a (twoI 10 v u))):=zhd (by simp [execI,mput,mget_in hyl,mget_in hzl,hv,hu])
 have HV:=zhd hv
 have HU:=zhd hu
 clear hv hu
 go_upto_region 9 with (fail)
 refine qr3 (fun w3=>Ext w2 w3) [(0,2),(1,2),(2,1),(3,2),(4,2),(5,1),(6,1),(7,2),(8,2),(9,1),(10,2),(11,1),(12,2),(13,2),(14,1),(15,2),(16,1),(17,0),(18,2),(19,0)] ?_;refine qrl ?_
 (repeat (first | refine qs3 ?_ | ((apply w3_take);(· exact (Kept.drew (Kept.refl _ _)));(· go_simp);(· (intro w1 hS;have d1:=Blk.cell (Blk.ext hI2 hS);have d2:=(hM2.ext hS).cell y hyl;rw [← HV.out] at d2;have d3:=(hM2.ext hS).cell z hzl;rw [← HU.out] at d3;have d4:=lookF _ q 10 (.func (.func 108) #[] #[]) 7 (hQ2.ext hS) (by rfl); go_simp;try with_reducible rfl));refine qnx ?_) | ((apply w3_pass);(· exact (Kept.drew (Kept.refl _ _)));(· go_simp);refine qnx ?_)))
 (refine w3_act (fun K hK=>?_);go_simp)
 go_wp2_with fail
 refine (two10 v u Hvr.out Hur.out _).mono ?_
 rintro e w3 ⟨rfl,rfl⟩
 refine hK.out _ _ (fun h=>h) ?_
 clear hK K
 obtain ⟨t,ht⟩:∃ t,t=twoI 10 v u:=⟨_,rfl⟩
 exact zz23
open Go.RowKit
set_option maxRecDepth 100000 in
theorem st_11 (w:World) (base s g n kc q:Nat) (A:Option Addr) (b off cn cap:Nat) (c:List Ins) (pc:Int) (m:List Int) (h:StepPre w base s g n kc q A b off cn c pc m) (a y z:Nat) (ha:a < n) (hy:y < n) (hz:z < n) (hnx:nextI c pc n=some ⟨11,a,y,z⟩) (hright:rightI ⟨11,a,y,z⟩ cn n=true) :
 Calls Tryz.prog 63 #[.pointer (some ⟨s,0,none⟩),.slice A cn cap,.map (some q)] w fun e w'=>e=.returned (.tuple #[])∧Stepped w w' base s g n kc (execI ⟨11,a,y,z⟩ pc m):=by
 obtain ⟨hn,hn1,hn2,hmok,hops,hst,hmem,hmap,hcA,hrow,hcn,hcn2,hpc0,hpc1,hsg⟩:=h
 have hls:=hst.lt
 have hlg:=hmem.lt
 have hlq:=hmap.lt
 have hgs:¬ g=s:=fun e=>hsg e.symm
 have HX:=zhd hnx
 have HN:=zhd hn
 have HO:=zhd hmok
 have HOP:=zhd hops
 have HA:=zhd hcA
 have HR:=zhd hrow
 have HCN:=zhd hcn
 have HRT:=zhd hright
 clear hnx hn hmok hops hcA hrow hcn hright
 go_enter Tryz.func63,Tryz.ntmps63
 go_wp2_with fail
 refine (next_any s pc 0 (some ⟨g,0,none⟩) n kc A b off c cn cap _ HCN.out hcn2 hpc0 HA.out HOP.out hst HR.out).mono ?_
 rintro e w1 ⟨e1,hx1⟩
 replace e1:e=.returned (.tuple #[.agg (Ins.cells ⟨11,a,y,z⟩),.bool true]):=by rw [e1,HX.out];rfl
 subst e1
 have hI1:=Blk.new w1 77 (Ins.cells ⟨11,a,y,z⟩)
 have x1:=hx1.alloc (.cells (Ins.cells ⟨11,a,y,z⟩) 77)
 have hS1:=Blk.ext hst x1
 have hM1:=hmem.ext x1
 have hQ1:=hmap.ext x1
 have l1:=hx1.size
 clear hst hmem hmap hx1
 go_upto_region 3 with (fail)
 generalize (w1.alloc (.cells (Ins.cells ⟨11,a,y,z⟩) 77))=W1 at hI1 x1 hS1 hM1 hQ1 ⊢
 generalize w1.heap.size=ic at hI1 l1 ⊢
 have hi1:=Blk.has hI1
 have hj1:=Blk.gets hI1
 go_wp2_with fail
 refine (far_any ⟨11,a,y,z⟩ cn s pc 0 g 0 n kc m _ HN.out hn2 HRT.out HO.out hS1 hM1.row).mono ?_
 rintro e w2 ⟨e2,hx2⟩
 replace e2:e=.returned (.int .i64 (-1)):=by rw [e2];rfl
 subst e2
 have x2:=x1.trans hx2
 have hI2:=Blk.ext hI1 hx2
 have hS2:=Blk.ext hS1 hx2
 have hM2:=hM1.ext hx2
 have hQ2:=hQ1.ext hx2
 clear hI1 hS1 hM1 hQ1 x1 hx2 hi1 hj1
 have hcI:=Blk.cell hI2
 have hcS:=Blk.cell hS2
 have hfS:=Blk.frozen hS2
 have lI:=hI2.lt
 have lS:=hS2.lt
 have lG:=hM2.lt
 have hal:a < m.length:=by have:=HN.out;omega
 have haI:(a:Int) < n:=by omega
 have hyl:y < m.length:=by have:=HN.out;omega
 have hyI:(y:Int) < n:=by omega
 have hzl:z < m.length:=by have:=HN.out;omega
 have hzI:(z:Int) < n:=by omega
 have hcM:=hM2.cell a hal
 have hfM:=hM2.frozen
 obtain ⟨v,hv⟩:∃ v,v=m[y]:=⟨_,rfl⟩
 have Hvr:Hid (i32ok v):=zhd (by rw [hv];exact HO.out _ (List.getElem_mem hyl))
 obtain ⟨u,hu⟩:∃ u,u=m[z]:=⟨_,rfl⟩
 have Hur:Hid (i32ok u):=zhd (by rw [hu];exact HO.out _ (List.getElem_mem hzl))
 have HE:Hid (execI ⟨11,a,y,z⟩ pc m=(pc+1,0,m.set a (twoI 11 v u))):=zhd (by simp [execI,mput,mget_in hyl,mget_in hzl,hv,hu])
 have HV:=zhd hv
 have HU:=zhd hu
 clear hv hu
 go_upto_region 9 with (fail)
 refine qr3 (fun w3=>Ext w2 w3) [(0,2),(1,2),(2,1),(3,2),(4,2),(5,1),(6,1),(7,2),(8,2),(9,1),(10,2),(11,1),(12,2),(13,2),(14,1),(15,2),(16,1),(17,0),(18,2),(19,0)] ?_;refine qrl ?_
 (repeat (first | refine qs3 ?_ | ((apply w3_take);(· exact (Kept.drew (Kept.refl _ _)));(· go_simp);(· (intro w1 hS;have d1:=Blk.cell (Blk.ext hI2 hS);have d2:=(hM2.ext hS).cell y hyl;rw [← HV.out] at d2;have d3:=(hM2.ext hS).cell z hzl;rw [← HU.out] at d3;have d4:=lookF _ q 11 (.func (.func 109) #[] #[]) 8 (hQ2.ext hS) (by rfl); go_simp;try with_reducible rfl));refine qnx ?_) | ((apply w3_pass);(· exact (Kept.drew (Kept.refl _ _)));(· go_simp);refine qnx ?_)))
 (refine w3_act (fun K hK=>?_);go_simp)
 go_wp2_with fail
 refine (two11 v u Hvr.out Hur.out _).mono ?_
 rintro e w3 ⟨rfl,rfl⟩
 refine hK.out _ _ (fun h=>h) ?_
 clear hK K
 obtain ⟨t,ht⟩:∃ t,t=twoI 11 v u:=⟨_,rfl⟩
 exact zz23
set_option maxRecDepth 100000 in
theorem st_12 (w:World) (base s g n kc q:Nat) (A:Option Addr) (b off cn cap:Nat) (c:List Ins) (pc:Int) (m:List Int) (h:StepPre w base s g n kc q A b off cn c pc m) (a y z:Nat) (ha:a < n) (hy:y < n) (hz:z < n) (hnx:nextI c pc n=some ⟨12,a,y,z⟩) (hright:rightI ⟨12,a,y,z⟩ cn n=true) :
 Calls Tryz.prog 63 #[.pointer (some ⟨s,0,none⟩),.slice A cn cap,.map (some q)] w fun e w'=>e=.returned (.tuple #[])∧Stepped w w' base s g n kc (execI ⟨12,a,y,z⟩ pc m):=by
 obtain ⟨hn,hn1,hn2,hmok,hops,hst,hmem,hmap,hcA,hrow,hcn,hcn2,hpc0,hpc1,hsg⟩:=h
 have hls:=hst.lt
 have hlg:=hmem.lt
 have hlq:=hmap.lt
 have hgs:¬ g=s:=fun e=>hsg e.symm
 have HX:=zhd hnx
 have HN:=zhd hn
 have HO:=zhd hmok
 have HOP:=zhd hops
 have HA:=zhd hcA
 have HR:=zhd hrow
 have HCN:=zhd hcn
 have HRT:=zhd hright
 clear hnx hn hmok hops hcA hrow hcn hright
 go_enter Tryz.func63,Tryz.ntmps63
 go_wp2_with fail
 refine (next_any s pc 0 (some ⟨g,0,none⟩) n kc A b off c cn cap _ HCN.out hcn2 hpc0 HA.out HOP.out hst HR.out).mono ?_
 rintro e w1 ⟨e1,hx1⟩
 replace e1:e=.returned (.tuple #[.agg (Ins.cells ⟨12,a,y,z⟩),.bool true]):=by rw [e1,HX.out];rfl
 subst e1
 have hI1:=Blk.new w1 77 (Ins.cells ⟨12,a,y,z⟩)
 have x1:=hx1.alloc (.cells (Ins.cells ⟨12,a,y,z⟩) 77)
 have hS1:=Blk.ext hst x1
 have hM1:=hmem.ext x1
 have hQ1:=hmap.ext x1
 have l1:=hx1.size
 clear hst hmem hmap hx1
 go_upto_region 3 with (fail)
 generalize (w1.alloc (.cells (Ins.cells ⟨12,a,y,z⟩) 77))=W1 at hI1 x1 hS1 hM1 hQ1 ⊢
 generalize w1.heap.size=ic at hI1 l1 ⊢
 have hi1:=Blk.has hI1
 have hj1:=Blk.gets hI1
 go_wp2_with fail
 refine (far_any ⟨12,a,y,z⟩ cn s pc 0 g 0 n kc m _ HN.out hn2 HRT.out HO.out hS1 hM1.row).mono ?_
 rintro e w2 ⟨e2,hx2⟩
 replace e2:e=.returned (.int .i64 (-1)):=by rw [e2];rfl
 subst e2
 have x2:=x1.trans hx2
 have hI2:=Blk.ext hI1 hx2
 have hS2:=Blk.ext hS1 hx2
 have hM2:=hM1.ext hx2
 have hQ2:=hQ1.ext hx2
 clear hI1 hS1 hM1 hQ1 x1 hx2 hi1 hj1
 have hcI:=Blk.cell hI2
 have hcS:=Blk.cell hS2
 have hfS:=Blk.frozen hS2
 have lI:=hI2.lt
 have lS:=hS2.lt
 have lG:=hM2.lt
 have hal:a < m.length:=by have:=HN.out;omega
 have haI:(a:Int) < n:=by omega
 have hyl:y < m.length:=by have:=HN.out;omega
 have hyI:(y:Int) < n:=by omega
 have hzl:z < m.length:=by have:=HN.out;omega
 have hzI:(z:Int) < n:=by omega
 have hcM:=hM2.cell a hal
 have hfM:=hM2.frozen
 obtain ⟨v,hv⟩:∃ v,v=m[y]:=⟨_,rfl⟩
 have Hvr:Hid (i32ok v):=zhd (by rw [hv];exact HO.out _ (List.getElem_mem hyl))
 obtain ⟨u,hu⟩:∃ u,u=m[z]:=⟨_,rfl⟩
 have Hur:Hid (i32ok u):=zhd (by rw [hu];exact HO.out _ (List.getElem_mem hzl))
 have HE:Hid (execI ⟨12,a,y,z⟩ pc m=(pc+1,0,m.set a (twoI 12 v u))):=zhd (by simp [execI,mput,mget_in hyl,mget_in hzl,hv,hu])
 have HV:=zhd hv
 have HU:=zhd hu
 clear hv hu
 go_upto_region 9 with (fail)
 refine qr3 (fun w3=>Ext w2 w3) [(0,2),(1,2),(2,1),(3,2),(4,2),(5,1),(6,1),(7,2),(8,2),(9,1),(10,2),(11,1),(12,2),(13,2),(14,1),(15,2),(16,1),(17,0),(18,2),(19,0)] ?_;refine qrl ?_
 (repeat (first | refine qs3 ?_ | ((apply w3_take);(· exact (Kept.drew (Kept.refl _ _)));(· go_simp);(· (intro w1 hS;have d1:=Blk.cell (Blk.ext hI2 hS);have d2:=(hM2.ext hS).cell y hyl;rw [← HV.out] at d2;have d3:=(hM2.ext hS).cell z hzl;rw [← HU.out] at d3;have d4:=lookF _ q 12 (.func (.func 110) #[] #[]) 9 (hQ2.ext hS) (by rfl); go_simp;try with_reducible rfl));refine qnx ?_) | ((apply w3_pass);(· exact (Kept.drew (Kept.refl _ _)));(· go_simp);refine qnx ?_)))
 (refine w3_act (fun K hK=>?_);go_simp)
 go_wp2_with fail
 refine (two12 v u Hvr.out Hur.out _).mono ?_
 rintro e w3 ⟨rfl,rfl⟩
 refine hK.out _ _ (fun h=>h) ?_
 clear hK K
 obtain ⟨t,ht⟩:∃ t,t=twoI 12 v u:=⟨_,rfl⟩
 exact zz23
set_option maxRecDepth 100000 in
theorem st_13 (w:World) (base s g n kc q:Nat) (A:Option Addr) (b off cn cap:Nat) (c:List Ins) (pc:Int) (m:List Int) (h:StepPre w base s g n kc q A b off cn c pc m) (a y z:Nat) (ha:a < n) (hy:y < n) (hz:z < n) (hnx:nextI c pc n=some ⟨13,a,y,z⟩) (hright:rightI ⟨13,a,y,z⟩ cn n=true) :
 Calls Tryz.prog 63 #[.pointer (some ⟨s,0,none⟩),.slice A cn cap,.map (some q)] w fun e w'=>e=.returned (.tuple #[])∧Stepped w w' base s g n kc (execI ⟨13,a,y,z⟩ pc m):=by
 obtain ⟨hn,hn1,hn2,hmok,hops,hst,hmem,hmap,hcA,hrow,hcn,hcn2,hpc0,hpc1,hsg⟩:=h
 have hls:=hst.lt
 have hlg:=hmem.lt
 have hlq:=hmap.lt
 have hgs:¬ g=s:=fun e=>hsg e.symm
 have HX:=zhd hnx
 have HN:=zhd hn
 have HO:=zhd hmok
 have HOP:=zhd hops
 have HA:=zhd hcA
 have HR:=zhd hrow
 have HCN:=zhd hcn
 have HRT:=zhd hright
 clear hnx hn hmok hops hcA hrow hcn hright
 go_enter Tryz.func63,Tryz.ntmps63
 go_wp2_with fail
 refine (next_any s pc 0 (some ⟨g,0,none⟩) n kc A b off c cn cap _ HCN.out hcn2 hpc0 HA.out HOP.out hst HR.out).mono ?_
 rintro e w1 ⟨e1,hx1⟩
 replace e1:e=.returned (.tuple #[.agg (Ins.cells ⟨13,a,y,z⟩),.bool true]):=by rw [e1,HX.out];rfl
 subst e1
 have hI1:=Blk.new w1 77 (Ins.cells ⟨13,a,y,z⟩)
 have x1:=hx1.alloc (.cells (Ins.cells ⟨13,a,y,z⟩) 77)
 have hS1:=Blk.ext hst x1
 have hM1:=hmem.ext x1
 have hQ1:=hmap.ext x1
 have l1:=hx1.size
 clear hst hmem hmap hx1
 go_upto_region 3 with (fail)
 generalize (w1.alloc (.cells (Ins.cells ⟨13,a,y,z⟩) 77))=W1 at hI1 x1 hS1 hM1 hQ1 ⊢
 generalize w1.heap.size=ic at hI1 l1 ⊢
 have hi1:=Blk.has hI1
 have hj1:=Blk.gets hI1
 go_wp2_with fail
 refine (far_any ⟨13,a,y,z⟩ cn s pc 0 g 0 n kc m _ HN.out hn2 HRT.out HO.out hS1 hM1.row).mono ?_
 rintro e w2 ⟨e2,hx2⟩
 replace e2:e=.returned (.int .i64 (-1)):=by rw [e2];rfl
 subst e2
 have x2:=x1.trans hx2
 have hI2:=Blk.ext hI1 hx2
 have hS2:=Blk.ext hS1 hx2
 have hM2:=hM1.ext hx2
 have hQ2:=hQ1.ext hx2
 clear hI1 hS1 hM1 hQ1 x1 hx2 hi1 hj1
 have hcI:=Blk.cell hI2
 have hcS:=Blk.cell hS2
 have hfS:=Blk.frozen hS2
 have lI:=hI2.lt
 have lS:=hS2.lt
 have lG:=hM2.lt
 have hal:a < m.length:=by have:=HN.out;omega
 have haI:(a:Int) < n:=by omega
 have hyl:y < m.length:=by have:=HN.out;omega
 have hyI:(y:Int) < n:=by omega
 have hzl:z < m.length:=by have:=HN.out;omega
 have hzI:(z:Int) < n:=by omega
 have hcM:=hM2.cell a hal
 have hfM:=hM2.frozen
 obtain ⟨v,hv⟩:∃ v,v=m[y]:=⟨_,rfl⟩
 have Hvr:Hid (i32ok v):=zhd (by rw [hv];exact HO.out _ (List.getElem_mem hyl))
 obtain ⟨u,hu⟩:∃ u,u=m[z]:=⟨_,rfl⟩
 have Hur:Hid (i32ok u):=zhd (by rw [hu];exact HO.out _ (List.getElem_mem hzl))
 have HE:Hid (execI ⟨13,a,y,z⟩ pc m=(pc+1,0,m.set a (twoI 13 v u))):=zhd (by simp [execI,mput,mget_in hyl,mget_in hzl,hv,hu])
 have HV:=zhd hv
 have HU:=zhd hu
 clear hv hu
 go_upto_region 9 with (fail)
 refine qr3 (fun w3=>Ext w2 w3) [(0,2),(1,2),(2,1),(3,2),(4,2),(5,1),(6,1),(7,2),(8,2),(9,1),(10,2),(11,1),(12,2),(13,2),(14,1),(15,2),(16,1),(17,0),(18,2),(19,0)] ?_;refine qrl ?_
 (repeat (first | refine qs3 ?_ | ((apply w3_take);(· exact (Kept.drew (Kept.refl _ _)));(· go_simp);(· (intro w1 hS;have d1:=Blk.cell (Blk.ext hI2 hS);have d2:=(hM2.ext hS).cell y hyl;rw [← HV.out] at d2;have d3:=(hM2.ext hS).cell z hzl;rw [← HU.out] at d3;have d4:=lookF _ q 13 (.func (.func 111) #[] #[]) 10 (hQ2.ext hS) (by rfl); go_simp;try with_reducible rfl));refine qnx ?_) | ((apply w3_pass);(· exact (Kept.drew (Kept.refl _ _)));(· go_simp);refine qnx ?_)))
 (refine w3_act (fun K hK=>?_);go_simp)
 go_wp2_with fail
 refine (two13 v u Hvr.out Hur.out _).mono ?_
 rintro e w3 ⟨rfl,rfl⟩
 refine hK.out _ _ (fun h=>h) ?_
 clear hK K
 obtain ⟨t,ht⟩:∃ t,t=twoI 13 v u:=⟨_,rfl⟩
 exact zz23
end Go.Proofs.YtbfbabbcdochjaaGreatDoor.Mc
