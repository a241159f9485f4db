/- Several texts joined: Kic, Kid, Kie. -/
import Derived.Test.YtbfbabbcdochjaaGreatDoorRxpk
import Derived.Test.YtbfbabbcdochjaaGreatDoorRxap
set_option maxHeartbeats 4000000
namespace Go.Proofs.YtbfbabbcdochjaaGreatDoor.Mc
open Go.RowKit
set_option maxRecDepth 100000 in
theorem st_17 (w:World) (base s g n kc q:Nat) (A:Option Addr) (b off cn cap:Nat) (c:List Ins) (pc:Int) (m:List Int) (h:StepPre w base s g n kc q A b off cn c pc m) (a:Nat) (y z:Int) (ha:a < n) (hy1:-2147483648≤y) (hy2:y≤2147483647) (hz1:-2147483648≤z) (hz2:z≤2147483647) (hnx:nextI c pc n=some ⟨17,a,y,z⟩) (hright:rightI ⟨17,a,y,z⟩ cn n=true) :
 Calls Tryz.prog 63 #[.pointer (some ⟨s,0,none⟩),.slice A cn cap,.map (some q)] w fun e w'=>e=.returned (.tuple #[])∧Stepped w w' base s g n kc (execI ⟨17,a,y,z⟩ pc m):=by
 refine zy1 ?_;clear h hnx hright;intro hn1 hn2 hst hmem hmap hcn2 hpc0 hpc1 hsg hls hlg hlq hgs HX HN HO HOP HA HR HCN HRT
 go_wp2_with fail
 refine zy4 ?_;intro e w1 e1 hx1
 replace e1:e=.returned (.tuple #[.agg (Ins.cells ⟨17,a,y,z⟩),.bool true]):=by rw [e1,HX.out];rfl
 subst e1
 have hI1:=bN w1 77 (Ins.cells ⟨17,a,y,z⟩)
 have x1:=hx1.alloc (.cells (Ins.cells ⟨17,a,y,z⟩) 77)
 have hS1:=bX hst x1
 have hM1:=hmem.ext x1
 have hQ1:=hmap.ext x1
 have l1:=hx1.size
 clear hst hmem hmap hx1
 go_upto_region 3 with (fail)
 generalize (w1.alloc (.cells (Ins.cells ⟨17,a,y,z⟩) 77))=W1 at hI1 x1 hS1 hM1 hQ1 ⊢
 refine zy20 ?_;clear hI1 l1;intro ic hI1 l1 hi1 hj1
 go_wp2_with fail
 refine (far_any ⟨17,a,y,z⟩ cn s pc 0 g 0 n kc m _ HN.out hn2 HRT.out HO.out hS1 hM1.row).mono ?_
 rintro e w2 ⟨e2,hx2⟩
 replace e2:e=.returned (.int .i64 (-1)):=by rw [e2];rfl
 subst e2
 refine zy3 ?_;clear hI1 hS1 hM1 hQ1 x1 hx2 hi1 hj1;intro x2 hI2 hS2 hM2 hQ2 hcI hcS hfS lI lS lG
 have hal:a < m.length:=by have:=HN.out;omega
 have haI:(a:Int) < n:=by omega
 have hcM:=hM2.cell a hal
 have hfM:=hM2.frozen
 obtain ⟨v,hv⟩:∃ v,v=m[a]:=⟨_,rfl⟩
 have Hvr:Hid (i32ok v):=J (by rw [hv];exact HO.out _ (List.getElem_mem hal))
 have hwy:IntKind.i32.wrap y=y:=by rw [IntKind.wrap_i32];omega
 have hwz:IntKind.i32.wrap z=z:=by rw [IntKind.wrap_i32];omega
 have HE:Hid (execI ⟨17,a,y,z⟩ pc m=(pc+1,0,m.set a (min (max v y) z))):=J (by simp [execI,mput,mget_in hal,hv])
 have HV:=J hv
 clear hv
 go_upto_region 23 with (fail)
 refine qr3 (fun w3=>Ext w2 w3) [(0,2),(1,2),(2,1),(3,2),(4,2),(5,1),(6,2),(7,1),(8,2),(9,1),(10,1),(11,1),(12,2),(13,1),(14,1),(15,1),(16,2),(17,0)] ?_;refine qrl ?_
 (repeat first|refine qs3 ?_|refine qt3 (Kept.drew (kR _ _)) (by intro w1 hS;have d1:=bC (bX hI2 hS);have d2:=(hM2.ext hS).cell a hal;rw [← HV.out] at d2;exact zgo) ?_|refine qp3 (Kept.drew (kR _ _)) ?_)
 refine qf3 ?_
 have hS3:StAt (w2.setCell ⟨g,a,none⟩ (.int .i32 (min (max v y) z))).drew s 49 pc (some ⟨g,0,none⟩) n kc 0:=Blk.far hS2 (p:=⟨g,a,none⟩) hsg (.int .i32 (min (max v y) z))
 have hM3:MemAt (w2.setCell ⟨g,a,none⟩ (.int .i32 (min (max v y) z))).drew base g n kc (m.set a (min (max v y) z)):=(hM2.set a hal (min (max v y) z)).ext ((kR _ _).drew)
 have hk3:Kept (fun i=>i=s ∨ i=g) w (w2.setCell ⟨g,a,none⟩ (.int .i32 (min (max v y) z))).drew:=(Kept.setCell (Kept.ext x2) _ _ (fun _=>.inr rfl)).drew
 generalize (w2.setCell ⟨g,a,none⟩ (.int .i32 (min (max v y) z))).drew=W3 at hS3 hM3 hk3 ⊢
 exact zz88
set_option maxRecDepth 100000 in
theorem st_18 (w:World) (base s g n kc q:Nat) (A:Option Addr) (b off cn cap:Nat) (c:List Ins) (pc:Int) (m:List Int) (h:StepPre w base s g n kc q A b off cn c pc m) (a y:Nat) (z:Int) (ha:a < n) (hy:y < n) (_hz1:0≤z) (_hz2:z≤2147483647) (hnx:nextI c pc n=some ⟨18,a,y,z⟩) (hright:rightI ⟨18,a,y,z⟩ cn n=true) :
 Calls Tryz.prog 63 #[.pointer (some ⟨s,0,none⟩),.slice A cn cap,.map (some q)] w fun e w'=>e=.returned (.tuple #[])∧Stepped w w' base s g n kc (execI ⟨18,a,y,z⟩ pc m):=by
 refine zy1 ?_;clear h hnx hright;intro hn1 hn2 hst hmem hmap hcn2 hpc0 hpc1 hsg hls hlg hlq hgs HX HN HO HOP HA HR HCN HRT
 go_wp2_with fail
 refine zy4 ?_;intro e w1 e1 hx1
 replace e1:e=.returned (.tuple #[.agg (Ins.cells ⟨18,a,y,z⟩),.bool true]):=by rw [e1,HX.out];rfl
 subst e1
 have hI1:=bN w1 77 (Ins.cells ⟨18,a,y,z⟩)
 have x1:=hx1.alloc (.cells (Ins.cells ⟨18,a,y,z⟩) 77)
 have hS1:=bX hst x1
 have hM1:=hmem.ext x1
 have hQ1:=hmap.ext x1
 have l1:=hx1.size
 clear hst hmem hmap hx1
 go_upto_region 3 with (fail)
 generalize (w1.alloc (.cells (Ins.cells ⟨18,a,y,z⟩) 77))=W1 at hI1 x1 hS1 hM1 hQ1 ⊢
 refine zy20 ?_;clear hI1 l1;intro ic hI1 l1 hi1 hj1
 go_wp2_with fail
 refine (far_any ⟨18,a,y,z⟩ cn s pc 0 g 0 n kc m _ HN.out hn2 HRT.out HO.out hS1 hM1.row).mono ?_
 rintro e w2 ⟨e2,hx2⟩
 replace e2:e=.returned (.int .i64 (-1)):=by rw [e2];rfl
 subst e2
 refine zy3 ?_;clear hI1 hS1 hM1 hQ1 x1 hx2 hi1 hj1;intro x2 hI2 hS2 hM2 hQ2 hcI hcS hfS lI lS lG
 have hal:a < m.length:=by have:=HN.out;omega
 have haI:(a:Int) < n:=by omega
 have hyl:y < m.length:=by have:=HN.out;omega
 have hyI:(y:Int) < n:=by omega
 have hcM:=hM2.cell a hal
 have hfM:=hM2.frozen
 obtain ⟨v,hv⟩:∃ v,v=m[y]:=⟨_,rfl⟩
 have Hvr:Hid (i32ok v):=J zb46
 have HE:Hid (execI ⟨18,a,y,z⟩ pc m=(pc+1,0,m.set a (truthI (decide (0≤v) && decide (v < z))))):=J (by simp [execI,mput,mget_in hyl,hv])
 have HV:=J hv
 obtain ⟨hv1,hv2⟩:-2147483648≤v∧v≤2147483647:=Hvr.out
 have hwv:IntKind.i64.wrap v=v:=by rw [IntKind.wrap_i64];omega
 clear hv
 go_upto_region 25 with (fail)
 by_cases hv0:0≤v
 ·have b0:decide (0≤v)=true:=by simpa using hv0
  refine qr3 (fun w3=>Ext w2 w3) [(0,2),(1,2),(2,1),(3,2),(4,2),(5,1),(6,2),(7,1),(8,2),(9,2),(10,2),(11,2),(12,1),(13,2),(14,1),(15,1),(16,2),(17,1),(18,2),(19,2),(20,0),(21,2),(22,0)] ?_;refine qrl ?_
  refine zy49 ?_
  (refine w3_act (fun K hK=>?_);go_simp)
  go_wp2_with fail
  refine (truth_any _ _).mono ?_
  rintro e w3 ⟨rfl,rfl⟩
  refine hK.out _ _ (fun h=>h) ?_
  clear hK K
  refine qf3 ?_
  have ev:truthI (decide (v < z))=truthI (decide (0≤v) && decide (v < z)):=by rw [b0];rfl
  exact zz19
 ·have b0:decide (0≤v)=false:=by simpa using hv0
  refine qr3 (fun w3=>Ext w2 w3) [(0,2),(1,2),(2,1),(3,2),(4,2),(5,1),(6,2),(7,1),(8,2),(9,2),(10,2),(11,2),(12,1),(13,2),(14,1),(15,1),(16,2),(17,1),(18,2),(19,2),(20,0),(21,2),(22,0)] ?_;refine qrl ?_
  refine zy49 ?_
  (refine w3_act (fun K hK=>?_);go_simp)
  go_wp2_with fail
  refine (truth_any _ _).mono ?_
  rintro e w3 ⟨rfl,rfl⟩
  refine hK.out _ _ (fun h=>h) ?_
  clear hK K
  refine qf3 ?_
  have ev:truthI false=truthI (decide (0≤v) && decide (v < z)):=by rw [b0];rfl
  exact zz19
open Go.RowKit
set_option maxRecDepth 100000 in
theorem st_19 (w:World) (base s g n kc q:Nat) (A:Option Addr) (b off cn cap:Nat) (c:List Ins) (pc:Int) (m:List Int) (h:StepPre w base s g n kc q A b off cn c pc m) (a:Nat) (y z:Int) (hnx:nextI c pc n=some ⟨19,a,y,z⟩) (hright:rightI ⟨19,a,y,z⟩ cn n=true) :
 Calls Tryz.prog 63 #[.pointer (some ⟨s,0,none⟩),.slice A cn cap,.map (some q)] w fun e w'=>e=.returned (.tuple #[])∧Stepped w w' base s g n kc (execI ⟨19,a,y,z⟩ pc m):=by
 refine zy1 ?_;clear h hnx hright;intro hn1 hn2 hst hmem hmap hcn2 hpc0 hpc1 hsg hls hlg hlq hgs HX HN HO HOP HA HR HCN HRT
 go_wp2_with fail
 refine zy4 ?_;intro e w1 e1 hx1
 replace e1:e=.returned (.tuple #[.agg (Ins.cells ⟨19,a,y,z⟩),.bool true]):=by rw [e1,HX.out];rfl
 subst e1
 have hI1:=bN w1 77 (Ins.cells ⟨19,a,y,z⟩)
 have x1:=hx1.alloc (.cells (Ins.cells ⟨19,a,y,z⟩) 77)
 have hS1:=bX hst x1
 have hM1:=hmem.ext x1
 have hQ1:=hmap.ext x1
 have l1:=hx1.size
 clear hst hmem hmap hx1
 go_upto_region 3 with (fail)
 generalize (w1.alloc (.cells (Ins.cells ⟨19,a,y,z⟩) 77))=W1 at hI1 x1 hS1 hM1 hQ1 ⊢
 refine zy20 ?_;clear hI1 l1;intro ic hI1 l1 hi1 hj1
 go_wp2_with fail
 refine (far_any ⟨19,a,y,z⟩ cn s pc 0 g 0 n kc m _ HN.out hn2 HRT.out HO.out hS1 hM1.row).mono ?_
 rintro e w2 ⟨e2,hx2⟩
 replace e2:e=.returned (.int .i64 (-1)):=by rw [e2];rfl
 subst e2
 refine zy3 ?_;clear hI1 hS1 hM1 hQ1 x1 hx2 hi1 hj1;intro x2 hI2 hS2 hM2 hQ2 hcI hcS hfS lI lS lG
 have HE:Hid (execI ⟨19,a,y,z⟩ pc m=((a:Int),0,m)):=J (by simp [execI])
 have hS3:=hS2
 have hM3:=hM2
 have hk3:Kept (fun i=>i=s ∨ i=g) w w2:=Kept.ext x2
 exact zz88
set_option maxRecDepth 100000 in
theorem st_20 (w:World) (base s g n kc q:Nat) (A:Option Addr) (b off cn cap:Nat) (c:List Ins) (pc:Int) (m:List Int) (h:StepPre w base s g n kc q A b off cn c pc m) (a y:Nat) (z:Int) (hy:y < n) (hnx:nextI c pc n=some ⟨20,a,y,z⟩) (hright:rightI ⟨20,a,y,z⟩ cn n=true) :
 Calls Tryz.prog 63 #[.pointer (some ⟨s,0,none⟩),.slice A cn cap,.map (some q)] w fun e w'=>e=.returned (.tuple #[])∧Stepped w w' base s g n kc (execI ⟨20,a,y,z⟩ pc m):=by
 refine zy1 ?_;clear h hnx hright;intro hn1 hn2 hst hmem hmap hcn2 hpc0 hpc1 hsg hls hlg hlq hgs HX HN HO HOP HA HR HCN HRT
 go_wp2_with fail
 refine zy4 ?_;intro e w1 e1 hx1
 replace e1:e=.returned (.tuple #[.agg (Ins.cells ⟨20,a,y,z⟩),.bool true]):=by rw [e1,HX.out];rfl
 subst e1
 have hI1:=bN w1 77 (Ins.cells ⟨20,a,y,z⟩)
 have x1:=hx1.alloc (.cells (Ins.cells ⟨20,a,y,z⟩) 77)
 have hS1:=bX hst x1
 have hM1:=hmem.ext x1
 have hQ1:=hmap.ext x1
 have l1:=hx1.size
 clear hst hmem hmap hx1
 go_upto_region 3 with (fail)
 generalize (w1.alloc (.cells (Ins.cells ⟨20,a,y,z⟩) 77))=W1 at hI1 x1 hS1 hM1 hQ1 ⊢
 refine zy20 ?_;clear hI1 l1;intro ic hI1 l1 hi1 hj1
 go_wp2_with fail
 refine (far_any ⟨20,a,y,z⟩ cn s pc 0 g 0 n kc m _ HN.out hn2 HRT.out HO.out hS1 hM1.row).mono ?_
 rintro e w2 ⟨e2,hx2⟩
 replace e2:e=.returned (.int .i64 (-1)):=by rw [e2];rfl
 subst e2
 refine zy3 ?_;clear hI1 hS1 hM1 hQ1 x1 hx2 hi1 hj1;intro x2 hI2 hS2 hM2 hQ2 hcI hcS hfS lI lS lG
 have hyl:y < m.length:=by have:=HN.out;omega
 have hyI:(y:Int) < n:=by omega
 obtain ⟨v,hv⟩:∃ v,v=m[y]:=⟨_,rfl⟩
 have Hvr:Hid (i32ok v):=J zb46
 have HV:=J hv
 by_cases hz:v=0
 ·have b0:(v == 0)=true:=by simp [hz]
  have HE:Hid (execI ⟨20,a,y,z⟩ pc m=((a:Int),0,m)):=J zb56
  exact zz20
 ·have b0:(v == 0)=false:=by simp [hz]
  have HE:Hid (execI ⟨20,a,y,z⟩ pc m=(pc+1,0,m)):=J zb56
  exact zz20
set_option maxRecDepth 100000 in
theorem st_21 (w:World) (base s g n kc q:Nat) (A:Option Addr) (b off cn cap:Nat) (c:List Ins) (pc:Int) (m:List Int) (h:StepPre w base s g n kc q A b off cn c pc m) (a y:Nat) (z:Int) (hy:y < n) (hnx:nextI c pc n=some ⟨21,a,y,z⟩) (hright:rightI ⟨21,a,y,z⟩ cn n=true) :
 Calls Tryz.prog 63 #[.pointer (some ⟨s,0,none⟩),.slice A cn cap,.map (some q)] w fun e w'=>e=.returned (.tuple #[])∧Stepped w w' base s g n kc (execI ⟨21,a,y,z⟩ pc m):=by
 refine zy1 ?_;clear h hnx hright;intro hn1 hn2 hst hmem hmap hcn2 hpc0 hpc1 hsg hls hlg hlq hgs HX HN HO HOP HA HR HCN HRT
 go_wp2_with fail
 refine zy4 ?_;intro e w1 e1 hx1
 replace e1:e=.returned (.tuple #[.agg (Ins.cells ⟨21,a,y,z⟩),.bool true]):=by rw [e1,HX.out];rfl
 subst e1
 have hI1:=bN w1 77 (Ins.cells ⟨21,a,y,z⟩)
 have x1:=hx1.alloc (.cells (Ins.cells ⟨21,a,y,z⟩) 77)
 have hS1:=bX hst x1
 have hM1:=hmem.ext x1
 have hQ1:=hmap.ext x1
 have l1:=hx1.size
 clear hst hmem hmap hx1
 go_upto_region 3 with (fail)
 generalize (w1.alloc (.cells (Ins.cells ⟨21,a,y,z⟩) 77))=W1 at hI1 x1 hS1 hM1 hQ1 ⊢
 refine zy20 ?_;clear hI1 l1;intro ic hI1 l1 hi1 hj1
 go_wp2_with fail
 refine (far_any ⟨21,a,y,z⟩ cn s pc 0 g 0 n kc m _ HN.out hn2 HRT.out HO.out hS1 hM1.row).mono ?_
 rintro e w2 ⟨e2,hx2⟩
 replace e2:e=.returned (.int .i64 (-1)):=by rw [e2];rfl
 subst e2
 refine zy3 ?_;clear hI1 hS1 hM1 hQ1 x1 hx2 hi1 hj1;intro x2 hI2 hS2 hM2 hQ2 hcI hcS hfS lI lS lG
 have hyl:y < m.length:=by have:=HN.out;omega
 have hyI:(y:Int) < n:=by omega
 obtain ⟨v,hv⟩:∃ v,v=m[y]:=⟨_,rfl⟩
 have Hvr:Hid (i32ok v):=J zb46
 have HV:=J hv
 by_cases hz:v=0
 ·have b0:(v == 0)=true:=by simp [hz]
  have HE:Hid (execI ⟨21,a,y,z⟩ pc m=(pc+1,0,m)):=J zb56
  exact zz20
 ·have b0:(v == 0)=false:=by simp [hz]
  have HE:Hid (execI ⟨21,a,y,z⟩ pc m=((a:Int),0,m)):=J zb56
  exact zz20
open Go.RowKit
set_option maxRecDepth 100000 in
theorem st_3 (w:World) (base s g n kc q:Nat) (A:Option Addr) (b off cn cap:Nat) (c:List Ins) (pc:Int) (m:List Int) (h:StepPre w base s g n kc q A b off cn c pc m) (a y z:Nat) (ha:a < n) (hy:y < n) (hz:z < n) (hnx:nextI c pc n=some ⟨3,a,y,z⟩) (hright:rightI ⟨3,a,y,z⟩ cn n=true) :
 Calls Tryz.prog 63 #[.pointer (some ⟨s,0,none⟩),.slice A cn cap,.map (some q)] w fun e w'=>e=.returned (.tuple #[])∧Stepped w w' base s g n kc (execI ⟨3,a,y,z⟩ pc m):=by
 refine zy1 ?_;clear h hnx hright;intro hn1 hn2 hst hmem hmap hcn2 hpc0 hpc1 hsg hls hlg hlq hgs HX HN HO HOP HA HR HCN HRT
 go_wp2_with fail
 refine zy4 ?_;intro e w1 e1 hx1
 replace e1:e=.returned (.tuple #[.agg (Ins.cells ⟨3,a,y,z⟩),.bool true]):=by rw [e1,HX.out];rfl
 subst e1
 have hI1:=bN w1 77 (Ins.cells ⟨3,a,y,z⟩)
 have x1:=hx1.alloc (.cells (Ins.cells ⟨3,a,y,z⟩) 77)
 have hS1:=bX hst x1
 have hM1:=hmem.ext x1
 have hQ1:=hmap.ext x1
 have l1:=hx1.size
 clear hst hmem hmap hx1
 go_upto_region 3 with (fail)
 generalize (w1.alloc (.cells (Ins.cells ⟨3,a,y,z⟩) 77))=W1 at hI1 x1 hS1 hM1 hQ1 ⊢
 refine zy20 ?_;clear hI1 l1;intro ic hI1 l1 hi1 hj1
 go_wp2_with fail
 refine (far_any ⟨3,a,y,z⟩ cn s pc 0 g 0 n kc m _ HN.out hn2 HRT.out HO.out hS1 hM1.row).mono ?_
 rintro e w2 ⟨e2,hx2⟩
 replace e2:e=.returned (.int .i64 (-1)):=by rw [e2];rfl
 subst e2
 refine zy3 ?_;clear hI1 hS1 hM1 hQ1 x1 hx2 hi1 hj1;intro x2 hI2 hS2 hM2 hQ2 hcI hcS hfS lI lS lG
 have hal:a < m.length:=by have:=HN.out;omega
 have haI:(a:Int) < n:=by omega
 have hyl:y < m.length:=by have:=HN.out;omega
 have hyI:(y:Int) < n:=by omega
 have hzl:z < m.length:=by have:=HN.out;omega
 have hzI:(z:Int) < n:=by omega
 have hcM:=hM2.cell a hal
 have hfM:=hM2.frozen
 obtain ⟨v,hv⟩:∃ v,v=m[y]:=⟨_,rfl⟩
 have Hvr:Hid (i32ok v):=J zb46
 obtain ⟨u,hu⟩:∃ u,u=m[z]:=⟨_,rfl⟩
 have Hur:Hid (i32ok u):=J zb45
 have HE:Hid (execI ⟨3,a,y,z⟩ pc m=(pc+1,0,m.set a (twoI 3 v u))):=J zb44
 have HV:=J hv
 have HU:=J hu
 clear hv hu
 go_upto_region 9 with (fail)
 refine zy8 ?_
 (repeat first|refine qs3 ?_|refine qt3 (Kept.drew (kR _ _)) (by intro w1 hS;have d1:=bC (bX hI2 hS);have d2:=(hM2.ext hS).cell y hyl;rw [← HV.out] at d2;have d3:=(hM2.ext hS).cell z hzl;rw [← HU.out] at d3;have d4:=lookF _ q 3 (.func (.func 100) #[] #[]) 0 (hQ2.ext hS) zb87;exact zgo) ?_|refine qp3 (Kept.drew (kR _ _)) ?_)
 (refine w3_act (fun K hK=>?_);go_simp)
 go_wp2_with fail
 refine (two3 v u Hvr.out Hur.out _).mono ?_
 rintro e w3 ⟨rfl,rfl⟩
 refine hK.out _ _ (fun h=>h) ?_
 clear hK K
 obtain ⟨t,ht⟩:∃ t,t=twoI 3 v u:=⟨_,rfl⟩
 exact zz24
set_option maxRecDepth 100000 in
theorem st_4 (w:World) (base s g n kc q:Nat) (A:Option Addr) (b off cn cap:Nat) (c:List Ins) (pc:Int) (m:List Int) (h:StepPre w base s g n kc q A b off cn c pc m) (a y z:Nat) (ha:a < n) (hy:y < n) (hz:z < n) (hnx:nextI c pc n=some ⟨4,a,y,z⟩) (hright:rightI ⟨4,a,y,z⟩ cn n=true) :
 Calls Tryz.prog 63 #[.pointer (some ⟨s,0,none⟩),.slice A cn cap,.map (some q)] w fun e w'=>e=.returned (.tuple #[])∧Stepped w w' base s g n kc (execI ⟨4,a,y,z⟩ pc m):=by
 refine zy1 ?_;clear h hnx hright;intro hn1 hn2 hst hmem hmap hcn2 hpc0 hpc1 hsg hls hlg hlq hgs HX HN HO HOP HA HR HCN HRT
 go_wp2_with fail
 refine zy4 ?_;intro e w1 e1 hx1
 replace e1:e=.returned (.tuple #[.agg (Ins.cells ⟨4,a,y,z⟩),.bool true]):=by rw [e1,HX.out];rfl
 subst e1
 have hI1:=bN w1 77 (Ins.cells ⟨4,a,y,z⟩)
 have x1:=hx1.alloc (.cells (Ins.cells ⟨4,a,y,z⟩) 77)
 have hS1:=bX hst x1
 have hM1:=hmem.ext x1
 have hQ1:=hmap.ext x1
 have l1:=hx1.size
 clear hst hmem hmap hx1
 go_upto_region 3 with (fail)
 generalize (w1.alloc (.cells (Ins.cells ⟨4,a,y,z⟩) 77))=W1 at hI1 x1 hS1 hM1 hQ1 ⊢
 refine zy20 ?_;clear hI1 l1;intro ic hI1 l1 hi1 hj1
 go_wp2_with fail
 refine (far_any ⟨4,a,y,z⟩ cn s pc 0 g 0 n kc m _ HN.out hn2 HRT.out HO.out hS1 hM1.row).mono ?_
 rintro e w2 ⟨e2,hx2⟩
 replace e2:e=.returned (.int .i64 (-1)):=by rw [e2];rfl
 subst e2
 refine zy3 ?_;clear hI1 hS1 hM1 hQ1 x1 hx2 hi1 hj1;intro x2 hI2 hS2 hM2 hQ2 hcI hcS hfS lI lS lG
 have hal:a < m.length:=by have:=HN.out;omega
 have haI:(a:Int) < n:=by omega
 have hyl:y < m.length:=by have:=HN.out;omega
 have hyI:(y:Int) < n:=by omega
 have hzl:z < m.length:=by have:=HN.out;omega
 have hzI:(z:Int) < n:=by omega
 have hcM:=hM2.cell a hal
 have hfM:=hM2.frozen
 obtain ⟨v,hv⟩:∃ v,v=m[y]:=⟨_,rfl⟩
 have Hvr:Hid (i32ok v):=J zb46
 obtain ⟨u,hu⟩:∃ u,u=m[z]:=⟨_,rfl⟩
 have Hur:Hid (i32ok u):=J zb45
 have HE:Hid (execI ⟨4,a,y,z⟩ pc m=(pc+1,0,m.set a (twoI 4 v u))):=J zb44
 have HV:=J hv
 have HU:=J hu
 clear hv hu
 go_upto_region 9 with (fail)
 refine zy8 ?_
 (repeat first|refine qs3 ?_|refine qt3 (Kept.drew (kR _ _)) (by intro w1 hS;have d1:=bC (bX hI2 hS);have d2:=(hM2.ext hS).cell y hyl;rw [← HV.out] at d2;have d3:=(hM2.ext hS).cell z hzl;rw [← HU.out] at d3;have d4:=lookF _ q 4 (.func (.func 101) #[] #[]) 1 (hQ2.ext hS) zb87;exact zgo) ?_|refine qp3 (Kept.drew (kR _ _)) ?_)
 (refine w3_act (fun K hK=>?_);go_simp)
 go_wp2_with fail
 refine (two4 v u Hvr.out Hur.out _).mono ?_
 rintro e w3 ⟨rfl,rfl⟩
 refine hK.out _ _ (fun h=>h) ?_
 clear hK K
 obtain ⟨t,ht⟩:∃ t,t=twoI 4 v u:=⟨_,rfl⟩
 exact zz24
set_option maxRecDepth 100000 in
theorem st_5 (w:World) (base s g n kc q:Nat) (A:Option Addr) (b off cn cap:Nat) (c:List Ins) (pc:Int) (m:List Int) (h:StepPre w base s g n kc q A b off cn c pc m) (a y z:Nat) (ha:a < n) (hy:y < n) (hz:z < n) (hnx:nextI c pc n=some ⟨5,a,y,z⟩) (hright:rightI ⟨5,a,y,z⟩ cn n=true) :
 Calls Tryz.prog 63 #[.pointer (some ⟨s,0,none⟩),.slice A cn cap,.map (some q)] w fun e w'=>e=.returned (.tuple #[])∧Stepped w w' base s g n kc (execI ⟨5,a,y,z⟩ pc m):=by
 refine zy1 ?_;clear h hnx hright;intro hn1 hn2 hst hmem hmap hcn2 hpc0 hpc1 hsg hls hlg hlq hgs HX HN HO HOP HA HR HCN HRT
 go_wp2_with fail
 refine zy4 ?_;intro e w1 e1 hx1
 replace e1:e=.returned (.tuple #[.agg (Ins.cells ⟨5,a,y,z⟩),.bool true]):=by rw [e1,HX.out];rfl
 subst e1
 have hI1:=bN w1 77 (Ins.cells ⟨5,a,y,z⟩)
 have x1:=hx1.alloc (.cells (Ins.cells ⟨5,a,y,z⟩) 77)
 have hS1:=bX hst x1
 have hM1:=hmem.ext x1
 have hQ1:=hmap.ext x1
 have l1:=hx1.size
 clear hst hmem hmap hx1
 go_upto_region 3 with (fail)
 generalize (w1.alloc (.cells (Ins.cells ⟨5,a,y,z⟩) 77))=W1 at hI1 x1 hS1 hM1 hQ1 ⊢
 refine zy20 ?_;clear hI1 l1;intro ic hI1 l1 hi1 hj1
 go_wp2_with fail
 refine (far_any ⟨5,a,y,z⟩ cn s pc 0 g 0 n kc m _ HN.out hn2 HRT.out HO.out hS1 hM1.row).mono ?_
 rintro e w2 ⟨e2,hx2⟩
 replace e2:e=.returned (.int .i64 (-1)):=by rw [e2];rfl
 subst e2
 refine zy3 ?_;clear hI1 hS1 hM1 hQ1 x1 hx2 hi1 hj1;intro x2 hI2 hS2 hM2 hQ2 hcI hcS hfS lI lS lG
 have hal:a < m.length:=by have:=HN.out;omega
 have haI:(a:Int) < n:=by omega
 have hyl:y < m.length:=by have:=HN.out;omega
 have hyI:(y:Int) < n:=by omega
 have hzl:z < m.length:=by have:=HN.out;omega
 have hzI:(z:Int) < n:=by omega
 have hcM:=hM2.cell a hal
 have hfM:=hM2.frozen
 obtain ⟨v,hv⟩:∃ v,v=m[y]:=⟨_,rfl⟩
 have Hvr:Hid (i32ok v):=J zb46
 obtain ⟨u,hu⟩:∃ u,u=m[z]:=⟨_,rfl⟩
 have Hur:Hid (i32ok u):=J zb45
 have HE:Hid (execI ⟨5,a,y,z⟩ pc m=(pc+1,0,m.set a (twoI 5 v u))):=J zb44
 have HV:=J hv
 have HU:=J hu
 clear hv hu
 go_upto_region 9 with (fail)
 refine zy8 ?_
 (repeat first|refine qs3 ?_|refine qt3 (Kept.drew (kR _ _)) (by intro w1 hS;have d1:=bC (bX hI2 hS);have d2:=(hM2.ext hS).cell y hyl;rw [← HV.out] at d2;have d3:=(hM2.ext hS).cell z hzl;rw [← HU.out] at d3;have d4:=lookF _ q 5 (.func (.func 102) #[] #[]) 2 (hQ2.ext hS) zb87;exact zgo) ?_|refine qp3 (Kept.drew (kR _ _)) ?_)
 (refine w3_act (fun K hK=>?_);go_simp)
 go_wp2_with fail
 refine (two5 v u Hvr.out Hur.out _).mono ?_
 rintro e w3 ⟨rfl,rfl⟩
 refine hK.out _ _ (fun h=>h) ?_
 clear hK K
 obtain ⟨t,ht⟩:∃ t,t=twoI 5 v u:=⟨_,rfl⟩
 exact zz24
set_option maxRecDepth 100000 in
theorem st_6 (w:World) (base s g n kc q:Nat) (A:Option Addr) (b off cn cap:Nat) (c:List Ins) (pc:Int) (m:List Int) (h:StepPre w base s g n kc q A b off cn c pc m) (a y z:Nat) (ha:a < n) (hy:y < n) (hz:z < n) (hnx:nextI c pc n=some ⟨6,a,y,z⟩) (hright:rightI ⟨6,a,y,z⟩ cn n=true) :
 Calls Tryz.prog 63 #[.pointer (some ⟨s,0,none⟩),.slice A cn cap,.map (some q)] w fun e w'=>e=.returned (.tuple #[])∧Stepped w w' base s g n kc (execI ⟨6,a,y,z⟩ pc m):=by
 refine zy1 ?_;clear h hnx hright;intro hn1 hn2 hst hmem hmap hcn2 hpc0 hpc1 hsg hls hlg hlq hgs HX HN HO HOP HA HR HCN HRT
 go_wp2_with fail
 refine zy4 ?_;intro e w1 e1 hx1
 replace e1:e=.returned (.tuple #[.agg (Ins.cells ⟨6,a,y,z⟩),.bool true]):=by rw [e1,HX.out];rfl
 subst e1
 have hI1:=bN w1 77 (Ins.cells ⟨6,a,y,z⟩)
 have x1:=hx1.alloc (.cells (Ins.cells ⟨6,a,y,z⟩) 77)
 have hS1:=bX hst x1
 have hM1:=hmem.ext x1
 have hQ1:=hmap.ext x1
 have l1:=hx1.size
 clear hst hmem hmap hx1
 go_upto_region 3 with (fail)
 generalize (w1.alloc (.cells (Ins.cells ⟨6,a,y,z⟩) 77))=W1 at hI1 x1 hS1 hM1 hQ1 ⊢
 refine zy20 ?_;clear hI1 l1;intro ic hI1 l1 hi1 hj1
 go_wp2_with fail
 refine (far_any ⟨6,a,y,z⟩ cn s pc 0 g 0 n kc m _ HN.out hn2 HRT.out HO.out hS1 hM1.row).mono ?_
 rintro e w2 ⟨e2,hx2⟩
 replace e2:e=.returned (.int .i64 (-1)):=by rw [e2];rfl
 subst e2
 refine zy3 ?_;clear hI1 hS1 hM1 hQ1 x1 hx2 hi1 hj1;intro x2 hI2 hS2 hM2 hQ2 hcI hcS hfS lI lS lG
 have hal:a < m.length:=by have:=HN.out;omega
 have haI:(a:Int) < n:=by omega
 have hyl:y < m.length:=by have:=HN.out;omega
 have hyI:(y:Int) < n:=by omega
 have hzl:z < m.length:=by have:=HN.out;omega
 have hzI:(z:Int) < n:=by omega
 have hcM:=hM2.cell a hal
 have hfM:=hM2.frozen
 obtain ⟨v,hv⟩:∃ v,v=m[y]:=⟨_,rfl⟩
 have Hvr:Hid (i32ok v):=J zb46
 obtain ⟨u,hu⟩:∃ u,u=m[z]:=⟨_,rfl⟩
 have Hur:Hid (i32ok u):=J zb45
 have HE:Hid (execI ⟨6,a,y,z⟩ pc m=(pc+1,0,m.set a (twoI 6 v u))):=J zb44
 have HV:=J hv
 have HU:=J hu
 clear hv hu
 go_upto_region 9 with (fail)
 refine zy8 ?_
 (repeat first|refine qs3 ?_|refine qt3 (Kept.drew (kR _ _)) (by intro w1 hS;have d1:=bC (bX hI2 hS);have d2:=(hM2.ext hS).cell y hyl;rw [← HV.out] at d2;have d3:=(hM2.ext hS).cell z hzl;rw [← HU.out] at d3;have d4:=lookF _ q 6 (.func (.func 103) #[] #[]) 3 (hQ2.ext hS) zb87;exact zgo) ?_|refine qp3 (Kept.drew (kR _ _)) ?_)
 (refine w3_act (fun K hK=>?_);go_simp)
 go_wp2_with fail
 refine (two6 v u Hvr.out Hur.out _).mono ?_
 rintro e w3 ⟨rfl,rfl⟩
 refine hK.out _ _ (fun h=>h) ?_
 clear hK K
 obtain ⟨t,ht⟩:∃ t,t=twoI 6 v u:=⟨_,rfl⟩
 exact zz24
end Go.Proofs.YtbfbabbcdochjaaGreatDoor.Mc
