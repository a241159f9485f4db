/- Several texts joined: Kif, Kig, Kj. -/
import Derived.Test.YtbfbabbcdochjaaGreatDoorRxpk
import Derived.Test.YtbfbabbcdochjaaGreatDoorRxap
import Derived.Test.YtbfbabbcdochjaaGreatDoorRxaq
set_option maxHeartbeats 4000000
namespace Go.Proofs.YtbfbabbcdochjaaGreatDoor.Mc
open Go.RowKit
set_option maxRecDepth 100000 in
theorem st_7 (w:World) (base s g n kc q:Nat) (A:Option Addr) (b off cn cap:Nat) (c:List Ins) (pc:Int) (m:List Int) (h:StepPre w base s g n kc q A b off cn c pc m) (a y z:Nat) (ha:a < n) (hy:y < n) (hz:z < n) (hnx:nextI c pc n=some ⟨7,a,y,z⟩) (hright:rightI ⟨7,a,y,z⟩ cn n=true) :
 Calls Tryz.prog 63 #[.pointer (some ⟨s,0,none⟩),.slice A cn cap,.map (some q)] w fun e w'=>e=.returned (.tuple #[])∧Stepped w w' base s g n kc (execI ⟨7,a,y,z⟩ pc m):=by
 refine zy1 ?_;clear h hnx hright;intro hn1 hn2 hst hmem hmap hcn2 hpc0 hpc1 hsg hls hlg hlq hgs HX HN HO HOP HA HR HCN HRT
 go_wp2_with fail
 refine zy4 ?_;intro e w1 e1 hx1
 replace e1:e=.returned (.tuple #[.agg (Ins.cells ⟨7,a,y,z⟩),.bool true]):=by rw [e1,HX.out];rfl
 subst e1
 have hI1:=bN w1 77 (Ins.cells ⟨7,a,y,z⟩)
 have x1:=hx1.alloc (.cells (Ins.cells ⟨7,a,y,z⟩) 77)
 have hS1:=bX hst x1
 have hM1:=hmem.ext x1
 have hQ1:=hmap.ext x1
 have l1:=hx1.size
 clear hst hmem hmap hx1
 go_upto_region 3 with (fail)
 generalize (w1.alloc (.cells (Ins.cells ⟨7,a,y,z⟩) 77))=W1 at hI1 x1 hS1 hM1 hQ1 ⊢
 refine zy20 ?_;clear hI1 l1;intro ic hI1 l1 hi1 hj1
 go_wp2_with fail
 refine (far_any ⟨7,a,y,z⟩ cn s pc 0 g 0 n kc m _ HN.out hn2 HRT.out HO.out hS1 hM1.row).mono ?_
 rintro e w2 ⟨e2,hx2⟩
 replace e2:e=.returned (.int .i64 (-1)):=by rw [e2];rfl
 subst e2
 refine zy3 ?_;clear hI1 hS1 hM1 hQ1 x1 hx2 hi1 hj1;intro x2 hI2 hS2 hM2 hQ2 hcI hcS hfS lI lS lG
 have hal:a < m.length:=by have:=HN.out;omega
 have haI:(a:Int) < n:=by omega
 have hyl:y < m.length:=by have:=HN.out;omega
 have hyI:(y:Int) < n:=by omega
 have hzl:z < m.length:=by have:=HN.out;omega
 have hzI:(z:Int) < n:=by omega
 have hcM:=hM2.cell a hal
 have hfM:=hM2.frozen
 obtain ⟨v,hv⟩:∃ v,v=m[y]:=⟨_,rfl⟩
 have Hvr:Hid (i32ok v):=J zb46
 obtain ⟨u,hu⟩:∃ u,u=m[z]:=⟨_,rfl⟩
 have Hur:Hid (i32ok u):=J zb45
 have HE:Hid (execI ⟨7,a,y,z⟩ pc m=(pc+1,0,m.set a (twoI 7 v u))):=J zb44
 have HV:=J hv
 have HU:=J hu
 clear hv hu
 go_upto_region 9 with (fail)
 refine zy8 ?_
 (repeat first|refine qs3 ?_|refine qt3 (Kept.drew (kR _ _)) (by intro w1 hS;have d1:=bC (bX hI2 hS);have d2:=(hM2.ext hS).cell y hyl;rw [← HV.out] at d2;have d3:=(hM2.ext hS).cell z hzl;rw [← HU.out] at d3;have d4:=lookF _ q 7 (.func (.func 104) #[] #[]) 4 (hQ2.ext hS) zb87;exact zgo) ?_|refine qp3 (Kept.drew (kR _ _)) ?_)
 (refine w3_act (fun K hK=>?_);go_simp)
 go_wp2_with fail
 refine (two7 v u Hvr.out Hur.out _).mono ?_
 rintro e w3 ⟨rfl,rfl⟩
 refine hK.out _ _ (fun h=>h) ?_
 clear hK K
 obtain ⟨t,ht⟩:∃ t,t=twoI 7 v u:=⟨_,rfl⟩
 exact zz24
set_option maxRecDepth 100000 in
theorem st_8 (w:World) (base s g n kc q:Nat) (A:Option Addr) (b off cn cap:Nat) (c:List Ins) (pc:Int) (m:List Int) (h:StepPre w base s g n kc q A b off cn c pc m) (a y z:Nat) (ha:a < n) (hy:y < n) (hz:z < n) (hnx:nextI c pc n=some ⟨8,a,y,z⟩) (hright:rightI ⟨8,a,y,z⟩ cn n=true) :
 Calls Tryz.prog 63 #[.pointer (some ⟨s,0,none⟩),.slice A cn cap,.map (some q)] w fun e w'=>e=.returned (.tuple #[])∧Stepped w w' base s g n kc (execI ⟨8,a,y,z⟩ pc m):=by
 refine zy1 ?_;clear h hnx hright;intro hn1 hn2 hst hmem hmap hcn2 hpc0 hpc1 hsg hls hlg hlq hgs HX HN HO HOP HA HR HCN HRT
 go_wp2_with fail
 refine zy4 ?_;intro e w1 e1 hx1
 replace e1:e=.returned (.tuple #[.agg (Ins.cells ⟨8,a,y,z⟩),.bool true]):=by rw [e1,HX.out];rfl
 subst e1
 have hI1:=bN w1 77 (Ins.cells ⟨8,a,y,z⟩)
 have x1:=hx1.alloc (.cells (Ins.cells ⟨8,a,y,z⟩) 77)
 have hS1:=bX hst x1
 have hM1:=hmem.ext x1
 have hQ1:=hmap.ext x1
 have l1:=hx1.size
 clear hst hmem hmap hx1
 go_upto_region 3 with (fail)
 generalize (w1.alloc (.cells (Ins.cells ⟨8,a,y,z⟩) 77))=W1 at hI1 x1 hS1 hM1 hQ1 ⊢
 refine zy20 ?_;clear hI1 l1;intro ic hI1 l1 hi1 hj1
 go_wp2_with fail
 refine (far_any ⟨8,a,y,z⟩ cn s pc 0 g 0 n kc m _ HN.out hn2 HRT.out HO.out hS1 hM1.row).mono ?_
 rintro e w2 ⟨e2,hx2⟩
 replace e2:e=.returned (.int .i64 (-1)):=by rw [e2];rfl
 subst e2
 refine zy3 ?_;clear hI1 hS1 hM1 hQ1 x1 hx2 hi1 hj1;intro x2 hI2 hS2 hM2 hQ2 hcI hcS hfS lI lS lG
 have hal:a < m.length:=by have:=HN.out;omega
 have haI:(a:Int) < n:=by omega
 have hyl:y < m.length:=by have:=HN.out;omega
 have hyI:(y:Int) < n:=by omega
 have hzl:z < m.length:=by have:=HN.out;omega
 have hzI:(z:Int) < n:=by omega
 have hcM:=hM2.cell a hal
 have hfM:=hM2.frozen
 obtain ⟨v,hv⟩:∃ v,v=m[y]:=⟨_,rfl⟩
 have Hvr:Hid (i32ok v):=J zb46
 obtain ⟨u,hu⟩:∃ u,u=m[z]:=⟨_,rfl⟩
 have Hur:Hid (i32ok u):=J zb45
 have HE:Hid (execI ⟨8,a,y,z⟩ pc m=(pc+1,0,m.set a (twoI 8 v u))):=J zb44
 have HV:=J hv
 have HU:=J hu
 clear hv hu
 go_upto_region 9 with (fail)
 refine zy8 ?_
 (repeat first|refine qs3 ?_|refine qt3 (Kept.drew (kR _ _)) (by intro w1 hS;have d1:=bC (bX hI2 hS);have d2:=(hM2.ext hS).cell y hyl;rw [← HV.out] at d2;have d3:=(hM2.ext hS).cell z hzl;rw [← HU.out] at d3;have d4:=lookF _ q 8 (.func (.func 105) #[] #[]) 5 (hQ2.ext hS) zb87;exact zgo) ?_|refine qp3 (Kept.drew (kR _ _)) ?_)
 (refine w3_act (fun K hK=>?_);go_simp)
 go_wp2_with fail
 refine (two8 v u Hvr.out Hur.out _).mono ?_
 rintro e w3 ⟨rfl,rfl⟩
 refine hK.out _ _ (fun h=>h) ?_
 clear hK K
 obtain ⟨t,ht⟩:∃ t,t=twoI 8 v u:=⟨_,rfl⟩
 exact zz24
set_option maxRecDepth 100000 in
theorem st_9 (w:World) (base s g n kc q:Nat) (A:Option Addr) (b off cn cap:Nat) (c:List Ins) (pc:Int) (m:List Int) (h:StepPre w base s g n kc q A b off cn c pc m) (a y z:Nat) (ha:a < n) (hy:y < n) (hz:z < n) (hnx:nextI c pc n=some ⟨9,a,y,z⟩) (hright:rightI ⟨9,a,y,z⟩ cn n=true) :
 Calls Tryz.prog 63 #[.pointer (some ⟨s,0,none⟩),.slice A cn cap,.map (some q)] w fun e w'=>e=.returned (.tuple #[])∧Stepped w w' base s g n kc (execI ⟨9,a,y,z⟩ pc m):=by
 refine zy1 ?_;clear h hnx hright;intro hn1 hn2 hst hmem hmap hcn2 hpc0 hpc1 hsg hls hlg hlq hgs HX HN HO HOP HA HR HCN HRT
 go_wp2_with fail
 refine zy4 ?_;intro e w1 e1 hx1
 replace e1:e=.returned (.tuple #[.agg (Ins.cells ⟨9,a,y,z⟩),.bool true]):=by rw [e1,HX.out];rfl
 subst e1
 have hI1:=bN w1 77 (Ins.cells ⟨9,a,y,z⟩)
 have x1:=hx1.alloc (.cells (Ins.cells ⟨9,a,y,z⟩) 77)
 have hS1:=bX hst x1
 have hM1:=hmem.ext x1
 have hQ1:=hmap.ext x1
 have l1:=hx1.size
 clear hst hmem hmap hx1
 go_upto_region 3 with (fail)
 generalize (w1.alloc (.cells (Ins.cells ⟨9,a,y,z⟩) 77))=W1 at hI1 x1 hS1 hM1 hQ1 ⊢
 refine zy20 ?_;clear hI1 l1;intro ic hI1 l1 hi1 hj1
 go_wp2_with fail
 refine (far_any ⟨9,a,y,z⟩ cn s pc 0 g 0 n kc m _ HN.out hn2 HRT.out HO.out hS1 hM1.row).mono ?_
 rintro e w2 ⟨e2,hx2⟩
 replace e2:e=.returned (.int .i64 (-1)):=by rw [e2];rfl
 subst e2
 refine zy3 ?_;clear hI1 hS1 hM1 hQ1 x1 hx2 hi1 hj1;intro x2 hI2 hS2 hM2 hQ2 hcI hcS hfS lI lS lG
 have hal:a < m.length:=by have:=HN.out;omega
 have haI:(a:Int) < n:=by omega
 have hyl:y < m.length:=by have:=HN.out;omega
 have hyI:(y:Int) < n:=by omega
 have hzl:z < m.length:=by have:=HN.out;omega
 have hzI:(z:Int) < n:=by omega
 have hcM:=hM2.cell a hal
 have hfM:=hM2.frozen
 obtain ⟨v,hv⟩:∃ v,v=m[y]:=⟨_,rfl⟩
 have Hvr:Hid (i32ok v):=J zb46
 obtain ⟨u,hu⟩:∃ u,u=m[z]:=⟨_,rfl⟩
 have Hur:Hid (i32ok u):=J zb45
 have HE:Hid (execI ⟨9,a,y,z⟩ pc m=(pc+1,0,m.set a (twoI 9 v u))):=J zb44
 have HV:=J hv
 have HU:=J hu
 clear hv hu
 go_upto_region 9 with (fail)
 refine zy8 ?_
 (repeat first|refine qs3 ?_|refine qt3 (Kept.drew (kR _ _)) (by intro w1 hS;have d1:=bC (bX hI2 hS);have d2:=(hM2.ext hS).cell y hyl;rw [← HV.out] at d2;have d3:=(hM2.ext hS).cell z hzl;rw [← HU.out] at d3;have d4:=lookF _ q 9 (.func (.func 107) #[] #[]) 6 (hQ2.ext hS) zb87;exact zgo) ?_|refine qp3 (Kept.drew (kR _ _)) ?_)
 (refine w3_act (fun K hK=>?_);go_simp)
 go_wp2_with fail
 refine (two9 v u Hvr.out Hur.out _).mono ?_
 rintro e w3 ⟨rfl,rfl⟩
 refine hK.out _ _ (fun h=>h) ?_
 clear hK K
 obtain ⟨t,ht⟩:∃ t,t=twoI 9 v u:=⟨_,rfl⟩
 exact zz24
set_option maxRecDepth 100000 in
theorem st_10 (w:World) (base s g n kc q:Nat) (A:Option Addr) (b off cn cap:Nat) (c:List Ins) (pc:Int) (m:List Int) (h:StepPre w base s g n kc q A b off cn c pc m) (a y z:Nat) (ha:a < n) (hy:y < n) (hz:z < n) (hnx:nextI c pc n=some ⟨10,a,y,z⟩) (hright:rightI ⟨10,a,y,z⟩ cn n=true) :
 Calls Tryz.prog 63 #[.pointer (some ⟨s,0,none⟩),.slice A cn cap,.map (some q)] w fun e w'=>e=.returned (.tuple #[])∧Stepped w w' base s g n kc (execI ⟨10,a,y,z⟩ pc m):=by
 refine zy1 ?_;clear h hnx hright;intro hn1 hn2 hst hmem hmap hcn2 hpc0 hpc1 hsg hls hlg hlq hgs HX HN HO HOP HA HR HCN HRT
 go_wp2_with fail
 refine zy4 ?_;intro e w1 e1 hx1
 replace e1:e=.returned (.tuple #[.agg (Ins.cells ⟨10,a,y,z⟩),.bool true]):=by rw [e1,HX.out];rfl
 subst e1
 have hI1:=bN w1 77 (Ins.cells ⟨10,a,y,z⟩)
 have x1:=hx1.alloc (.cells (Ins.cells ⟨10,a,y,z⟩) 77)
 have hS1:=bX hst x1
 have hM1:=hmem.ext x1
 have hQ1:=hmap.ext x1
 have l1:=hx1.size
 clear hst hmem hmap hx1
 go_upto_region 3 with (fail)
 generalize (w1.alloc (.cells (Ins.cells ⟨10,a,y,z⟩) 77))=W1 at hI1 x1 hS1 hM1 hQ1 ⊢
 refine zy20 ?_;clear hI1 l1;intro ic hI1 l1 hi1 hj1
 go_wp2_with fail
 refine (far_any ⟨10,a,y,z⟩ cn s pc 0 g 0 n kc m _ HN.out hn2 HRT.out HO.out hS1 hM1.row).mono ?_
 rintro e w2 ⟨e2,hx2⟩
 replace e2:e=.returned (.int .i64 (-1)):=by rw [e2];rfl
 subst e2
 refine zy3 ?_;clear hI1 hS1 hM1 hQ1 x1 hx2 hi1 hj1;intro x2 hI2 hS2 hM2 hQ2 hcI hcS hfS lI lS lG
 have hal:a < m.length:=by have:=HN.out;omega
 have haI:(a:Int) < n:=by omega
 have hyl:y < m.length:=by have:=HN.out;omega
 have hyI:(y:Int) < n:=by omega
 have hzl:z < m.length:=by have:=HN.out;omega
 have hzI:(z:Int) < n:=by omega
 have hcM:=hM2.cell a hal
 have hfM:=hM2.frozen
 obtain ⟨v,hv⟩:∃ v,v=m[y]:=⟨_,rfl⟩
 have Hvr:Hid (i32ok v):=J zb46
 obtain ⟨u,hu⟩:∃ u,u=m[z]:=⟨_,rfl⟩
 have Hur:Hid (i32ok u):=J zb45
 have HE:Hid (execI ⟨10,a,y,z⟩ pc m=(pc+1,0,m.set a (twoI 10 v u))):=J zb44
 have HV:=J hv
 have HU:=J hu
 clear hv hu
 go_upto_region 9 with (fail)
 refine zy8 ?_
 (repeat first|refine qs3 ?_|refine qt3 (Kept.drew (kR _ _)) (by intro w1 hS;have d1:=bC (bX hI2 hS);have d2:=(hM2.ext hS).cell y hyl;rw [← HV.out] at d2;have d3:=(hM2.ext hS).cell z hzl;rw [← HU.out] at d3;have d4:=lookF _ q 10 (.func (.func 108) #[] #[]) 7 (hQ2.ext hS) zb87;exact zgo) ?_|refine qp3 (Kept.drew (kR _ _)) ?_)
 (refine w3_act (fun K hK=>?_);go_simp)
 go_wp2_with fail
 refine (two10 v u Hvr.out Hur.out _).mono ?_
 rintro e w3 ⟨rfl,rfl⟩
 refine hK.out _ _ (fun h=>h) ?_
 clear hK K
 obtain ⟨t,ht⟩:∃ t,t=twoI 10 v u:=⟨_,rfl⟩
 exact zz24
open Go.RowKit
set_option maxRecDepth 100000 in
theorem st_11 (w:World) (base s g n kc q:Nat) (A:Option Addr) (b off cn cap:Nat) (c:List Ins) (pc:Int) (m:List Int) (h:StepPre w base s g n kc q A b off cn c pc m) (a y z:Nat) (ha:a < n) (hy:y < n) (hz:z < n) (hnx:nextI c pc n=some ⟨11,a,y,z⟩) (hright:rightI ⟨11,a,y,z⟩ cn n=true) :
 Calls Tryz.prog 63 #[.pointer (some ⟨s,0,none⟩),.slice A cn cap,.map (some q)] w fun e w'=>e=.returned (.tuple #[])∧Stepped w w' base s g n kc (execI ⟨11,a,y,z⟩ pc m):=by
 refine zy1 ?_;clear h hnx hright;intro hn1 hn2 hst hmem hmap hcn2 hpc0 hpc1 hsg hls hlg hlq hgs HX HN HO HOP HA HR HCN HRT
 go_wp2_with fail
 refine zy4 ?_;intro e w1 e1 hx1
 replace e1:e=.returned (.tuple #[.agg (Ins.cells ⟨11,a,y,z⟩),.bool true]):=by rw [e1,HX.out];rfl
 subst e1
 have hI1:=bN w1 77 (Ins.cells ⟨11,a,y,z⟩)
 have x1:=hx1.alloc (.cells (Ins.cells ⟨11,a,y,z⟩) 77)
 have hS1:=bX hst x1
 have hM1:=hmem.ext x1
 have hQ1:=hmap.ext x1
 have l1:=hx1.size
 clear hst hmem hmap hx1
 go_upto_region 3 with (fail)
 generalize (w1.alloc (.cells (Ins.cells ⟨11,a,y,z⟩) 77))=W1 at hI1 x1 hS1 hM1 hQ1 ⊢
 refine zy20 ?_;clear hI1 l1;intro ic hI1 l1 hi1 hj1
 go_wp2_with fail
 refine (far_any ⟨11,a,y,z⟩ cn s pc 0 g 0 n kc m _ HN.out hn2 HRT.out HO.out hS1 hM1.row).mono ?_
 rintro e w2 ⟨e2,hx2⟩
 replace e2:e=.returned (.int .i64 (-1)):=by rw [e2];rfl
 subst e2
 refine zy3 ?_;clear hI1 hS1 hM1 hQ1 x1 hx2 hi1 hj1;intro x2 hI2 hS2 hM2 hQ2 hcI hcS hfS lI lS lG
 have hal:a < m.length:=by have:=HN.out;omega
 have haI:(a:Int) < n:=by omega
 have hyl:y < m.length:=by have:=HN.out;omega
 have hyI:(y:Int) < n:=by omega
 have hzl:z < m.length:=by have:=HN.out;omega
 have hzI:(z:Int) < n:=by omega
 have hcM:=hM2.cell a hal
 have hfM:=hM2.frozen
 obtain ⟨v,hv⟩:∃ v,v=m[y]:=⟨_,rfl⟩
 have Hvr:Hid (i32ok v):=J zb46
 obtain ⟨u,hu⟩:∃ u,u=m[z]:=⟨_,rfl⟩
 have Hur:Hid (i32ok u):=J zb45
 have HE:Hid (execI ⟨11,a,y,z⟩ pc m=(pc+1,0,m.set a (twoI 11 v u))):=J zb44
 have HV:=J hv
 have HU:=J hu
 clear hv hu
 go_upto_region 9 with (fail)
 refine zy8 ?_
 (repeat first|refine qs3 ?_|refine qt3 (Kept.drew (kR _ _)) (by intro w1 hS;have d1:=bC (bX hI2 hS);have d2:=(hM2.ext hS).cell y hyl;rw [← HV.out] at d2;have d3:=(hM2.ext hS).cell z hzl;rw [← HU.out] at d3;have d4:=lookF _ q 11 (.func (.func 109) #[] #[]) 8 (hQ2.ext hS) zb87;exact zgo) ?_|refine qp3 (Kept.drew (kR _ _)) ?_)
 (refine w3_act (fun K hK=>?_);go_simp)
 go_wp2_with fail
 refine (two11 v u Hvr.out Hur.out _).mono ?_
 rintro e w3 ⟨rfl,rfl⟩
 refine hK.out _ _ (fun h=>h) ?_
 clear hK K
 obtain ⟨t,ht⟩:∃ t,t=twoI 11 v u:=⟨_,rfl⟩
 exact zz24
set_option maxRecDepth 100000 in
theorem st_12 (w:World) (base s g n kc q:Nat) (A:Option Addr) (b off cn cap:Nat) (c:List Ins) (pc:Int) (m:List Int) (h:StepPre w base s g n kc q A b off cn c pc m) (a y z:Nat) (ha:a < n) (hy:y < n) (hz:z < n) (hnx:nextI c pc n=some ⟨12,a,y,z⟩) (hright:rightI ⟨12,a,y,z⟩ cn n=true) :
 Calls Tryz.prog 63 #[.pointer (some ⟨s,0,none⟩),.slice A cn cap,.map (some q)] w fun e w'=>e=.returned (.tuple #[])∧Stepped w w' base s g n kc (execI ⟨12,a,y,z⟩ pc m):=by
 refine zy1 ?_;clear h hnx hright;intro hn1 hn2 hst hmem hmap hcn2 hpc0 hpc1 hsg hls hlg hlq hgs HX HN HO HOP HA HR HCN HRT
 go_wp2_with fail
 refine zy4 ?_;intro e w1 e1 hx1
 replace e1:e=.returned (.tuple #[.agg (Ins.cells ⟨12,a,y,z⟩),.bool true]):=by rw [e1,HX.out];rfl
 subst e1
 have hI1:=bN w1 77 (Ins.cells ⟨12,a,y,z⟩)
 have x1:=hx1.alloc (.cells (Ins.cells ⟨12,a,y,z⟩) 77)
 have hS1:=bX hst x1
 have hM1:=hmem.ext x1
 have hQ1:=hmap.ext x1
 have l1:=hx1.size
 clear hst hmem hmap hx1
 go_upto_region 3 with (fail)
 generalize (w1.alloc (.cells (Ins.cells ⟨12,a,y,z⟩) 77))=W1 at hI1 x1 hS1 hM1 hQ1 ⊢
 refine zy20 ?_;clear hI1 l1;intro ic hI1 l1 hi1 hj1
 go_wp2_with fail
 refine (far_any ⟨12,a,y,z⟩ cn s pc 0 g 0 n kc m _ HN.out hn2 HRT.out HO.out hS1 hM1.row).mono ?_
 rintro e w2 ⟨e2,hx2⟩
 replace e2:e=.returned (.int .i64 (-1)):=by rw [e2];rfl
 subst e2
 refine zy3 ?_;clear hI1 hS1 hM1 hQ1 x1 hx2 hi1 hj1;intro x2 hI2 hS2 hM2 hQ2 hcI hcS hfS lI lS lG
 have hal:a < m.length:=by have:=HN.out;omega
 have haI:(a:Int) < n:=by omega
 have hyl:y < m.length:=by have:=HN.out;omega
 have hyI:(y:Int) < n:=by omega
 have hzl:z < m.length:=by have:=HN.out;omega
 have hzI:(z:Int) < n:=by omega
 have hcM:=hM2.cell a hal
 have hfM:=hM2.frozen
 obtain ⟨v,hv⟩:∃ v,v=m[y]:=⟨_,rfl⟩
 have Hvr:Hid (i32ok v):=J zb46
 obtain ⟨u,hu⟩:∃ u,u=m[z]:=⟨_,rfl⟩
 have Hur:Hid (i32ok u):=J zb45
 have HE:Hid (execI ⟨12,a,y,z⟩ pc m=(pc+1,0,m.set a (twoI 12 v u))):=J zb44
 have HV:=J hv
 have HU:=J hu
 clear hv hu
 go_upto_region 9 with (fail)
 refine zy8 ?_
 (repeat first|refine qs3 ?_|refine qt3 (Kept.drew (kR _ _)) (by intro w1 hS;have d1:=bC (bX hI2 hS);have d2:=(hM2.ext hS).cell y hyl;rw [← HV.out] at d2;have d3:=(hM2.ext hS).cell z hzl;rw [← HU.out] at d3;have d4:=lookF _ q 12 (.func (.func 110) #[] #[]) 9 (hQ2.ext hS) zb87;exact zgo) ?_|refine qp3 (Kept.drew (kR _ _)) ?_)
 (refine w3_act (fun K hK=>?_);go_simp)
 go_wp2_with fail
 refine (two12 v u Hvr.out Hur.out _).mono ?_
 rintro e w3 ⟨rfl,rfl⟩
 refine hK.out _ _ (fun h=>h) ?_
 clear hK K
 obtain ⟨t,ht⟩:∃ t,t=twoI 12 v u:=⟨_,rfl⟩
 exact zz24
set_option maxRecDepth 100000 in
theorem st_13 (w:World) (base s g n kc q:Nat) (A:Option Addr) (b off cn cap:Nat) (c:List Ins) (pc:Int) (m:List Int) (h:StepPre w base s g n kc q A b off cn c pc m) (a y z:Nat) (ha:a < n) (hy:y < n) (hz:z < n) (hnx:nextI c pc n=some ⟨13,a,y,z⟩) (hright:rightI ⟨13,a,y,z⟩ cn n=true) :
 Calls Tryz.prog 63 #[.pointer (some ⟨s,0,none⟩),.slice A cn cap,.map (some q)] w fun e w'=>e=.returned (.tuple #[])∧Stepped w w' base s g n kc (execI ⟨13,a,y,z⟩ pc m):=by
 refine zy1 ?_;clear h hnx hright;intro hn1 hn2 hst hmem hmap hcn2 hpc0 hpc1 hsg hls hlg hlq hgs HX HN HO HOP HA HR HCN HRT
 go_wp2_with fail
 refine zy4 ?_;intro e w1 e1 hx1
 replace e1:e=.returned (.tuple #[.agg (Ins.cells ⟨13,a,y,z⟩),.bool true]):=by rw [e1,HX.out];rfl
 subst e1
 have hI1:=bN w1 77 (Ins.cells ⟨13,a,y,z⟩)
 have x1:=hx1.alloc (.cells (Ins.cells ⟨13,a,y,z⟩) 77)
 have hS1:=bX hst x1
 have hM1:=hmem.ext x1
 have hQ1:=hmap.ext x1
 have l1:=hx1.size
 clear hst hmem hmap hx1
 go_upto_region 3 with (fail)
 generalize (w1.alloc (.cells (Ins.cells ⟨13,a,y,z⟩) 77))=W1 at hI1 x1 hS1 hM1 hQ1 ⊢
 refine zy20 ?_;clear hI1 l1;intro ic hI1 l1 hi1 hj1
 go_wp2_with fail
 refine (far_any ⟨13,a,y,z⟩ cn s pc 0 g 0 n kc m _ HN.out hn2 HRT.out HO.out hS1 hM1.row).mono ?_
 rintro e w2 ⟨e2,hx2⟩
 replace e2:e=.returned (.int .i64 (-1)):=by rw [e2];rfl
 subst e2
 refine zy3 ?_;clear hI1 hS1 hM1 hQ1 x1 hx2 hi1 hj1;intro x2 hI2 hS2 hM2 hQ2 hcI hcS hfS lI lS lG
 have hal:a < m.length:=by have:=HN.out;omega
 have haI:(a:Int) < n:=by omega
 have hyl:y < m.length:=by have:=HN.out;omega
 have hyI:(y:Int) < n:=by omega
 have hzl:z < m.length:=by have:=HN.out;omega
 have hzI:(z:Int) < n:=by omega
 have hcM:=hM2.cell a hal
 have hfM:=hM2.frozen
 obtain ⟨v,hv⟩:∃ v,v=m[y]:=⟨_,rfl⟩
 have Hvr:Hid (i32ok v):=J zb46
 obtain ⟨u,hu⟩:∃ u,u=m[z]:=⟨_,rfl⟩
 have Hur:Hid (i32ok u):=J zb45
 have HE:Hid (execI ⟨13,a,y,z⟩ pc m=(pc+1,0,m.set a (twoI 13 v u))):=J zb44
 have HV:=J hv
 have HU:=J hu
 clear hv hu
 go_upto_region 9 with (fail)
 refine zy8 ?_
 (repeat first|refine qs3 ?_|refine qt3 (Kept.drew (kR _ _)) (by intro w1 hS;have d1:=bC (bX hI2 hS);have d2:=(hM2.ext hS).cell y hyl;rw [← HV.out] at d2;have d3:=(hM2.ext hS).cell z hzl;rw [← HU.out] at d3;have d4:=lookF _ q 13 (.func (.func 111) #[] #[]) 10 (hQ2.ext hS) zb87;exact zgo) ?_|refine qp3 (Kept.drew (kR _ _)) ?_)
 (refine w3_act (fun K hK=>?_);go_simp)
 go_wp2_with fail
 refine (two13 v u Hvr.out Hur.out _).mono ?_
 rintro e w3 ⟨rfl,rfl⟩
 refine hK.out _ _ (fun h=>h) ?_
 clear hK K
 obtain ⟨t,ht⟩:∃ t,t=twoI 13 v u:=⟨_,rfl⟩
 exact zz24
open Go.RowKit
set_option maxRecDepth 100000 in
theorem st_none (w:World) (base s g n kc q:Nat) (A:Option Addr) (b off cn cap:Nat) (c:List Ins) (pc:Int) (m:List Int) (h:StepPre w base s g n kc q A b off cn c pc m) (hnx:nextI c pc n=none) :
 Calls Tryz.prog 63 #[.pointer (some ⟨s,0,none⟩),.slice A cn cap,.map (some q)] w fun e w'=>e=.returned (.tuple #[])∧Stepped w w' base s g n kc (pc,2,m):=by
 obtain ⟨hn,hn1,hn2,hmok,hops,hst,hmem,hmap,hcA,hrow,hcn,hcn2,hpc0,hpc1,hsg⟩:=h
 have hls:=hst.lt
 have HX:=J hnx
 have HOP:=J hops
 have HA:=J hcA
 have HR:=J hrow
 have HCN:=J hcn
 clear hnx hn hmok hops hcA hrow hcn hmap
 go_enter Tryz.func63,Tryz.ntmps63
 go_wp2_with fail
 refine zy4 ?_;intro e w1 e1 hx1
 replace e1:e=.returned (.tuple #[.agg (Ins.cells ⟨0,0,0,0⟩),.bool false]):=by rw [e1,HX.out];rfl
 subst e1
 have x1:=hx1.alloc (.cells (Ins.cells ⟨0,0,0,0⟩) 77)
 have hS1:=bX hst x1
 have hM1:=hmem.ext x1
 have l1:=hx1.size
 clear hst hmem hx1
 go_upto_region 1 with (fail)
 generalize (w1.alloc (.cells (Ins.cells ⟨0,0,0,0⟩) 77))=W1 at x1 hS1 hM1 ⊢
 have hcS:=bC hS1
 have hfS:=Blk.frozen hS1
 go_wp2_with fail
 refine results_none' Tryz.results63 rfl ⟨rfl,?_⟩
 exact Stepped.halt (Kept.ext x1) hS1 hM1 hsg _
set_option maxRecDepth 100000 in
theorem st_lost15 (w:World) (base s g n kc q:Nat) (A:Option Addr) (b off cn cap:Nat) (c:List Ins) (pc:Int) (m:List Int) (h:StepPre w base s g n kc q A b off cn c pc m) (x y z:Int) (hnx:nextI c pc n=some ⟨15,x,y,z⟩) (hright:rightI ⟨15,x,y,z⟩ cn n=true) (hfar:farI ⟨15,x,y,z⟩ m < 0) :
 Calls Tryz.prog 63 #[.pointer (some ⟨s,0,none⟩),.slice A cn cap,.map (some q)] w fun e w'=>e=.returned (.tuple #[])∧Stepped w w' base s g n kc (pc,2,m):=by
 obtain ⟨hn,hn1,hn2,hmok,hops,hst,hmem,hmap,hcA,hrow,hcn,hcn2,hpc0,hpc1,hsg⟩:=h
 have hls:=hst.lt
 obtain ⟨F,hF⟩:∃ F,F=farI ⟨15,x,y,z⟩ m:=⟨_,rfl⟩
 rw [← hF] at hfar
 have HF:=J hF
 have HX:=J hnx
 have HN:=J hn
 have HO:=J hmok
 have HOP:=J hops
 have HA:=J hcA
 have HR:=J hrow
 have HCN:=J hcn
 have HRT:=J hright
 clear hnx hn hmok hops hcA hrow hcn hmap hright hF
 go_enter Tryz.func63,Tryz.ntmps63
 go_wp2_with fail
 refine zy4 ?_;intro e w1 e1 hx1
 replace e1:e=.returned (.tuple #[.agg (Ins.cells ⟨15,x,y,z⟩),.bool true]):=by rw [e1,HX.out];rfl
 subst e1
 have hI1:=bN w1 77 (Ins.cells ⟨15,x,y,z⟩)
 have x1:=hx1.alloc (.cells (Ins.cells ⟨15,x,y,z⟩) 77)
 have hS1:=bX hst x1
 have hM1:=hmem.ext x1
 have l1:=hx1.size
 clear hst hmem hx1
 go_upto_region 3 with (fail)
 generalize (w1.alloc (.cells (Ins.cells ⟨15,x,y,z⟩) 77))=W1 at hI1 x1 hS1 hM1 ⊢
 refine zy20 ?_;clear hI1 l1;intro ic hI1 l1 hi1 hj1
 go_wp2_with fail
 refine (far_any ⟨15,x,y,z⟩ cn s pc 0 g 0 n kc m _ HN.out hn2 HRT.out HO.out hS1 hM1.row).mono ?_
 exact zz39
set_option maxRecDepth 100000 in
theorem st_lost16 (w:World) (base s g n kc q:Nat) (A:Option Addr) (b off cn cap:Nat) (c:List Ins) (pc:Int) (m:List Int) (h:StepPre w base s g n kc q A b off cn c pc m) (x y z:Int) (hnx:nextI c pc n=some ⟨16,x,y,z⟩) (hright:rightI ⟨16,x,y,z⟩ cn n=true) (hfar:farI ⟨16,x,y,z⟩ m < 0) :
 Calls Tryz.prog 63 #[.pointer (some ⟨s,0,none⟩),.slice A cn cap,.map (some q)] w fun e w'=>e=.returned (.tuple #[])∧Stepped w w' base s g n kc (pc,2,m):=by
 obtain ⟨hn,hn1,hn2,hmok,hops,hst,hmem,hmap,hcA,hrow,hcn,hcn2,hpc0,hpc1,hsg⟩:=h
 have hls:=hst.lt
 obtain ⟨F,hF⟩:∃ F,F=farI ⟨16,x,y,z⟩ m:=⟨_,rfl⟩
 rw [← hF] at hfar
 have HF:=J hF
 have HX:=J hnx
 have HN:=J hn
 have HO:=J hmok
 have HOP:=J hops
 have HA:=J hcA
 have HR:=J hrow
 have HCN:=J hcn
 have HRT:=J hright
 clear hnx hn hmok hops hcA hrow hcn hmap hright hF
 go_enter Tryz.func63,Tryz.ntmps63
 go_wp2_with fail
 refine zy4 ?_;intro e w1 e1 hx1
 replace e1:e=.returned (.tuple #[.agg (Ins.cells ⟨16,x,y,z⟩),.bool true]):=by rw [e1,HX.out];rfl
 subst e1
 have hI1:=bN w1 77 (Ins.cells ⟨16,x,y,z⟩)
 have x1:=hx1.alloc (.cells (Ins.cells ⟨16,x,y,z⟩) 77)
 have hS1:=bX hst x1
 have hM1:=hmem.ext x1
 have l1:=hx1.size
 clear hst hmem hx1
 go_upto_region 3 with (fail)
 generalize (w1.alloc (.cells (Ins.cells ⟨16,x,y,z⟩) 77))=W1 at hI1 x1 hS1 hM1 ⊢
 refine zy20 ?_;clear hI1 l1;intro ic hI1 l1 hi1 hj1
 go_wp2_with fail
 refine (far_any ⟨16,x,y,z⟩ cn s pc 0 g 0 n kc m _ HN.out hn2 HRT.out HO.out hS1 hM1.row).mono ?_
 exact zz39
theorem nextI_right {c:List Ins} {pc:Int} {k:Nat} {i:Ins} (h:nextI c pc k=some i):rightI i c.length k=true:=by
 unfold nextI at h
 split at h
 ·split at h
  ·cases h;assumption
  ·cases h
 ·cases h
theorem farI_bd (i:Ins) (m:List Int):farI i m < m.length:=by
 unfold farI placeI
 split
 ·split <;> omega
 ·split
  ·split <;> omega
  ·omega
theorem lost_false {i:Ins} {m:List Int} (h:lost i m=false) (h15:i.op=15 ∨ i.op=16):0≤farI i m:=by
 unfold lost at h
 rcases h15 with e | e <;> (simp [e] at h;omega)
set_option maxRecDepth 100000 in
theorem step_any (w:World) (base s g n kc q:Nat) (A:Option Addr) (b off cn cap:Nat) (c:List Ins) (pc:Int) (m:List Int) (h:StepPre w base s g n kc q A b off cn c pc m) :
 Calls Tryz.prog 63 #[.pointer (some ⟨s,0,none⟩),.slice A cn cap,.map (some q)] w fun e w'=>e=.returned (.tuple #[])∧Stepped w w' base s g n kc (stepI c pc m):=by
 have hn:=h.n_eq
 have hcn:=h.cn_eq
 cases hnx:nextI c pc n with
 | none =>
  have e:stepI c pc m=(pc,2,m):=by unfold stepI;rw [← hn,hnx]
  rw [e]
  exact st_none w base s g n kc q A b off cn cap c pc m h hnx
 | some i =>
  have hr:=nextI_right hnx
  rw [← hcn] at hr
  obtain ⟨h0,h22,ha,hb,hc,he⟩:=rightI_parts hr
  cases hl:lost i m with
  | true =>
   have e:stepI c pc m=(pc,2,m):=by unfold stepI;rw [← hn,hnx];simp [hl]
   rw [e]
   have hl':=hl
   simp [lost] at hl'
   obtain ⟨op,x,y,z⟩:=i
   simp only at hl'
   rcases hl'.2 with rfl | rfl
   ·exact st_lost15 w base s g n kc q A b off cn cap c pc m h x y z hnx hr hl'.1
   ·exact st_lost16 w base s g n kc q A b off cn cap c pc m h x y z hnx hr hl'.1
  | false =>
   have e:stepI c pc m=execI i pc m:=by unfold stepI;rw [← hn,hnx];simp [hl]
   rw [e]
   have hfb:=farI_bd i m
   have hfl:=lost_false hl
   obtain ⟨op,x,y,z⟩:=i
   simp only at h0 h22 ha hb hc
   obtain ⟨k,rfl⟩:∃ k:Nat,op=k:=⟨op.toNat,by omega⟩
   have hk:k < 22:=by omega
   clear h0 h22 e hl
   have hall:k=0 ∨ k=1 ∨ k=2 ∨ k=3 ∨ k=4 ∨ k=5 ∨ k=6 ∨ k=7 ∨ k=8 ∨ k=9 ∨ k=10 ∨ k=11 ∨ k=12 ∨ k=13 ∨ k=14 ∨ k=15 ∨ k=16 ∨ k=17 ∨ k=18 ∨ k=19 ∨ k=20 ∨ k=21:=by omega
   rcases hall with rfl | rfl | rfl | rfl | rfl | rfl | rfl | rfl | rfl | rfl | rfl | rfl | rfl | rfl | rfl | rfl | rfl | rfl | rfl | rfl | rfl | rfl
   ·have ha':=okP_n rfl ha
    exact st_0 w base s g n kc q A b off cn cap c pc m h x y z (by simpa [rightE] using he) hnx hr
   ·have ha':=okP_w rfl ha
    obtain ⟨x,rfl⟩:∃ t:Nat,x=t:=⟨Int.toNat x,by omega⟩
    have hb':=okP_n rfl hb
    exact st_1 w base s g n kc q A b off cn cap c pc m h x y z zb85 hb'.1 hb'.2 hnx hr
   ·have ha':=okP_w rfl ha
    obtain ⟨x,rfl⟩:∃ t:Nat,x=t:=⟨Int.toNat x,by omega⟩
    have hb':=okP_w rfl hb
    obtain ⟨y,rfl⟩:∃ t:Nat,y=t:=⟨Int.toNat y,by omega⟩
    exact st_2 w base s g n kc q A b off cn cap c pc m h x y z zb85 zb85 hnx hr
   ·have ha':=okP_w rfl ha
    obtain ⟨x,rfl⟩:∃ t:Nat,x=t:=⟨Int.toNat x,by omega⟩
    have hb':=okP_w rfl hb
    obtain ⟨y,rfl⟩:∃ t:Nat,y=t:=⟨Int.toNat y,by omega⟩
    have hc':=okP_w rfl hc
    obtain ⟨z,rfl⟩:∃ t:Nat,z=t:=⟨Int.toNat z,by omega⟩
    exact st_3 w base s g n kc q A b off cn cap c pc m h x y z zb85 zb85 zb85 hnx hr
   ·have ha':=okP_w rfl ha
    obtain ⟨x,rfl⟩:∃ t:Nat,x=t:=⟨Int.toNat x,by omega⟩
    have hb':=okP_w rfl hb
    obtain ⟨y,rfl⟩:∃ t:Nat,y=t:=⟨Int.toNat y,by omega⟩
    have hc':=okP_w rfl hc
    obtain ⟨z,rfl⟩:∃ t:Nat,z=t:=⟨Int.toNat z,by omega⟩
    exact st_4 w base s g n kc q A b off cn cap c pc m h x y z zb85 zb85 zb85 hnx hr
   ·have ha':=okP_w rfl ha
    obtain ⟨x,rfl⟩:∃ t:Nat,x=t:=⟨Int.toNat x,by omega⟩
    have hb':=okP_w rfl hb
    obtain ⟨y,rfl⟩:∃ t:Nat,y=t:=⟨Int.toNat y,by omega⟩
    have hc':=okP_w rfl hc
    obtain ⟨z,rfl⟩:∃ t:Nat,z=t:=⟨Int.toNat z,by omega⟩
    exact st_5 w base s g n kc q A b off cn cap c pc m h x y z zb85 zb85 zb85 hnx hr
   ·have ha':=okP_w rfl ha
    obtain ⟨x,rfl⟩:∃ t:Nat,x=t:=⟨Int.toNat x,by omega⟩
    have hb':=okP_w rfl hb
    obtain ⟨y,rfl⟩:∃ t:Nat,y=t:=⟨Int.toNat y,by omega⟩
    have hc':=okP_w rfl hc
    obtain ⟨z,rfl⟩:∃ t:Nat,z=t:=⟨Int.toNat z,by omega⟩
    exact st_6 w base s g n kc q A b off cn cap c pc m h x y z zb85 zb85 zb85 hnx hr
   ·have ha':=okP_w rfl ha
    obtain ⟨x,rfl⟩:∃ t:Nat,x=t:=⟨Int.toNat x,by omega⟩
    have hb':=okP_w rfl hb
    obtain ⟨y,rfl⟩:∃ t:Nat,y=t:=⟨Int.toNat y,by omega⟩
    have hc':=okP_w rfl hc
    obtain ⟨z,rfl⟩:∃ t:Nat,z=t:=⟨Int.toNat z,by omega⟩
    exact st_7 w base s g n kc q A b off cn cap c pc m h x y z zb85 zb85 zb85 hnx hr
   ·have ha':=okP_w rfl ha
    obtain ⟨x,rfl⟩:∃ t:Nat,x=t:=⟨Int.toNat x,by omega⟩
    have hb':=okP_w rfl hb
    obtain ⟨y,rfl⟩:∃ t:Nat,y=t:=⟨Int.toNat y,by omega⟩
    have hc':=okP_w rfl hc
    obtain ⟨z,rfl⟩:∃ t:Nat,z=t:=⟨Int.toNat z,by omega⟩
    exact st_8 w base s g n kc q A b off cn cap c pc m h x y z zb85 zb85 zb85 hnx hr
   ·have ha':=okP_w rfl ha
    obtain ⟨x,rfl⟩:∃ t:Nat,x=t:=⟨Int.toNat x,by omega⟩
    have hb':=okP_w rfl hb
    obtain ⟨y,rfl⟩:∃ t:Nat,y=t:=⟨Int.toNat y,by omega⟩
    have hc':=okP_w rfl hc
    obtain ⟨z,rfl⟩:∃ t:Nat,z=t:=⟨Int.toNat z,by omega⟩
    exact st_9 w base s g n kc q A b off cn cap c pc m h x y z zb85 zb85 zb85 hnx hr
   ·have ha':=okP_w rfl ha
    obtain ⟨x,rfl⟩:∃ t:Nat,x=t:=⟨Int.toNat x,by omega⟩
    have hb':=okP_w rfl hb
    obtain ⟨y,rfl⟩:∃ t:Nat,y=t:=⟨Int.toNat y,by omega⟩
    have hc':=okP_w rfl hc
    obtain ⟨z,rfl⟩:∃ t:Nat,z=t:=⟨Int.toNat z,by omega⟩
    exact st_10 w base s g n kc q A b off cn cap c pc m h x y z zb85 zb85 zb85 hnx hr
   ·have ha':=okP_w rfl ha
    obtain ⟨x,rfl⟩:∃ t:Nat,x=t:=⟨Int.toNat x,by omega⟩
    have hb':=okP_w rfl hb
    obtain ⟨y,rfl⟩:∃ t:Nat,y=t:=⟨Int.toNat y,by omega⟩
    have hc':=okP_w rfl hc
    obtain ⟨z,rfl⟩:∃ t:Nat,z=t:=⟨Int.toNat z,by omega⟩
    exact st_11 w base s g n kc q A b off cn cap c pc m h x y z zb85 zb85 zb85 hnx hr
   ·have ha':=okP_w rfl ha
    obtain ⟨x,rfl⟩:∃ t:Nat,x=t:=⟨Int.toNat x,by omega⟩
    have hb':=okP_w rfl hb
    obtain ⟨y,rfl⟩:∃ t:Nat,y=t:=⟨Int.toNat y,by omega⟩
    have hc':=okP_w rfl hc
    obtain ⟨z,rfl⟩:∃ t:Nat,z=t:=⟨Int.toNat z,by omega⟩
    exact st_12 w base s g n kc q A b off cn cap c pc m h x y z zb85 zb85 zb85 hnx hr
   ·have ha':=okP_w rfl ha
    obtain ⟨x,rfl⟩:∃ t:Nat,x=t:=⟨Int.toNat x,by omega⟩
    have hb':=okP_w rfl hb
    obtain ⟨y,rfl⟩:∃ t:Nat,y=t:=⟨Int.toNat y,by omega⟩
    have hc':=okP_w rfl hc
    obtain ⟨z,rfl⟩:∃ t:Nat,z=t:=⟨Int.toNat z,by omega⟩
    exact st_13 w base s g n kc q A b off cn cap c pc m h x y z zb85 zb85 zb85 hnx hr
   ·have ha':=okP_w rfl ha
    obtain ⟨x,rfl⟩:∃ t:Nat,x=t:=⟨Int.toNat x,by omega⟩
    have hb':=okP_w rfl hb
    obtain ⟨y,rfl⟩:∃ t:Nat,y=t:=⟨Int.toNat y,by omega⟩
    exact st_14 w base s g n kc q A b off cn cap c pc m h x y z zb85 zb85 hnx hr
   ·have ha':=okP_w rfl ha
    obtain ⟨x,rfl⟩:∃ t:Nat,x=t:=⟨Int.toNat x,by omega⟩
    have hb':=okP_w rfl hb
    obtain ⟨y,rfl⟩:∃ t:Nat,y=t:=⟨Int.toNat y,by omega⟩
    have hc':=okP_w rfl hc
    obtain ⟨z,rfl⟩:∃ t:Nat,z=t:=⟨Int.toNat z,by omega⟩
    have hf0:=hfl (.inl rfl)
    obtain ⟨p,hp⟩:∃ p:Nat,farI ⟨(15:Nat),x,y,z⟩ m=p:=⟨(farI ⟨(15:Nat),x,y,z⟩ m).toNat,by omega⟩
    exact st_15 w base s g n kc q A b off cn cap c pc m h x y z p zb85 zb85 hp hnx hr
   ·have ha':=okP_w rfl ha
    obtain ⟨x,rfl⟩:∃ t:Nat,x=t:=⟨Int.toNat x,by omega⟩
    have hb':=okP_w rfl hb
    obtain ⟨y,rfl⟩:∃ t:Nat,y=t:=⟨Int.toNat y,by omega⟩
    have hc':=okP_w rfl hc
    obtain ⟨z,rfl⟩:∃ t:Nat,z=t:=⟨Int.toNat z,by omega⟩
    have hf0:=hfl (.inr rfl)
    obtain ⟨p,hp⟩:∃ p:Nat,farI ⟨(16:Nat),x,y,z⟩ m=p:=⟨(farI ⟨(16:Nat),x,y,z⟩ m).toNat,by omega⟩
    exact st_16 w base s g n kc q A b off cn cap c pc m h x y z p zb85 zb85 hp hnx hr
   ·have ha':=okP_w rfl ha
    obtain ⟨x,rfl⟩:∃ t:Nat,x=t:=⟨Int.toNat x,by omega⟩
    have hb':=okP_n rfl hb
    have hc':=okP_n rfl hc
    exact st_17 w base s g n kc q A b off cn cap c pc m h x y z zb85 hb'.1 hb'.2 hc'.1 hc'.2 hnx hr
   ·have ha':=okP_w rfl ha
    obtain ⟨x,rfl⟩:∃ t:Nat,x=t:=⟨Int.toNat x,by omega⟩
    have hb':=okP_w rfl hb
    obtain ⟨y,rfl⟩:∃ t:Nat,y=t:=⟨Int.toNat y,by omega⟩
    have hc':=okP_n rfl hc
    have hz0:0≤z:=by simpa [rightE] using he
    exact st_18 w base s g n kc q A b off cn cap c pc m h x y z zb85 zb85 hz0 hc'.2 hnx hr
   ·have ha':=okP_p rfl ha
    obtain ⟨x,rfl⟩:∃ t:Nat,x=t:=⟨Int.toNat x,by omega⟩
    exact st_19 w base s g n kc q A b off cn cap c pc m h x y z hnx hr
   ·have ha':=okP_p rfl ha
    obtain ⟨x,rfl⟩:∃ t:Nat,x=t:=⟨Int.toNat x,by omega⟩
    have hb':=okP_w rfl hb
    obtain ⟨y,rfl⟩:∃ t:Nat,y=t:=⟨Int.toNat y,by omega⟩
    exact st_20 w base s g n kc q A b off cn cap c pc m h x y z zb85 hnx hr
   ·have ha':=okP_p rfl ha
    obtain ⟨x,rfl⟩:∃ t:Nat,x=t:=⟨Int.toNat x,by omega⟩
    have hb':=okP_w rfl hb
    obtain ⟨y,rfl⟩:∃ t:Nat,y=t:=⟨Int.toNat y,by omega⟩
    exact st_21 w base s g n kc q A b off cn cap c pc m h x y z zb85 hnx hr
end Go.Proofs.YtbfbabbcdochjaaGreatDoor.Mc
