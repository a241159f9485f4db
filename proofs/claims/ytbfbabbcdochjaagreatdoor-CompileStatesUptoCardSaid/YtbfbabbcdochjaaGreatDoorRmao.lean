/- Several texts joined: Kif, Kig, Kj, Kk, Kl. -/
import Derived.Test.YtbfbabbcdochjaaGreatDoorRmpk
import Derived.Test.YtbfbabbcdochjaaGreatDoorRmam
import Derived.Test.YtbfbabbcdochjaaGreatDoorRman
set_option maxHeartbeats 4000000
set_option maxRecDepth 100000
open Go.Proofs.Tryz
namespace Go.Proofs.YtbfbabbcdochjaaGreatDoor.Mc
open Go.RowKit
theorem alz (w:World) (base s g n kc q:Nat) (A:Option Addr) (b off cn cap:Nat) (c:List Ins) (pc:Int) (m:List Int) (h:eG w base s g n kc q A b off cn c pc m) (a y z:Nat) (ha:a<n) (hy:y<n) (hz:z<n) (hnx:fC c pc n=some ⟨7,a,y,z⟩) (hright:bM ⟨7,a,y,z⟩ cn n=true):
 Calls prog 63 #[.pointer (some ⟨s,0,none⟩),.slice A cn cap,.map (some q)] w λe w'=>e=.returned (.tuple #[])/\Stepped w w' base s g n kc (bQ ⟨7,a,y,z⟩ pc m):=by
 refine G9 ?_;clear h hnx hright;intro hn1 hn2 hst hmem hmap lF mq mU hsg hls DW hlq hgs HX HN HO nQ HA HR wo ng;go_wp2_with fail;refine BX ?_;intro e w1 e1 hx1;replace e1:e=.returned (.tuple #[.agg (Ins.cells ⟨7,a,y,z⟩),.bool true]):=by rw [e1,HX.out];rfl
 subst e1;have hI1:=bN w1 77 (Ins.cells ⟨7,a,y,z⟩);have x1:=hx1.alloc (.cells (Ins.cells ⟨7,a,y,z⟩) 77);have hS1:=bX hst x1;have hM1:=hmem.ext x1;have j6:=hmap.ext x1;have l1:=hx1.size;clear hst hmem hmap hx1;go_upto_region 3 with(fail);generalize (w1.alloc (.cells (Ins.cells ⟨7,a,y,z⟩) 77))=W1 at hI1 x1 hS1 hM1 j6⊢;refine nP ?_;clear hI1 l1;intro ic hI1 l1 hi1 hj1;go_wp2_with fail;refine(fE ⟨7,a,y,z⟩ cn s pc 0 g 0 n kc m _ HN.out hn2 ng.out HO.out hS1 hM1.row).mono ?_;rintro e w2 ⟨e2,hx2⟩;replace e2:e=.returned (.int .i64 (-1)):=by rw [e2];rfl
 subst e2;refine Fp ?_;clear hI1 hS1 hM1 j6 x1 hx2 hi1 hj1;intro x2 hI2 hS2 hM2 uX hcI kW BK lI lS lG;have hal:a<m.length:=by have:=HN.out;omega
 have K9:(a:Int)<n:=by omega
 have hyl:y<m.length:=by have:=HN.out;omega
 have OO:(y:Int)<n:=by omega
 have hzl:z<m.length:=by have:=HN.out;omega
 have OP:(z:Int)<n:=by omega
 have Lu:=hM2.cell a hal;have Lx:=hM2.frozen;obtain⟨v,hv⟩:∃v,v=m[y]:=⟨_,rfl⟩;have xK:Hid (au v):=J w_;obtain⟨u,hu⟩:∃u,u=m[z]:=⟨_,rfl⟩;have Fz:Hid (au u):=J EO;have HE:Hid (bQ ⟨7,a,y,z⟩ pc m=(pc+1,0,m.set a (gJ 7 v u))):=J EN;have HV:=J hv;have HU:=J hu;clear hv hu;go_upto_region 9 with(fail);refine Zn ?_
 (repeat first|refine cu ?_|refine dL (Kept.drew (kR _ _)) (by intro w1 hS;have d1:=bC (bX hI2 hS);have d2:=(hM2.ext hS).cell y hyl;rw [<-HV.out]at d2;have d3:=(hM2.ext hS).cell z hzl;rw [<-HU.out]at d3;have d4:=uw _ q 7 (.func (.func 104) #[] #[]) 4 (uX.ext hS) jf;exact gX) ?_|refine dK (Kept.drew (kR _ _)) ?_)
 (refine aC (λK hK=>?_);go_simp)
 go_wp2_with fail;refine(alH v u xK.out Fz.out _).mono ?_;rintro e w3 ⟨rfl,rfl⟩;refine hK.out _ _ (λh=>h) ?_;clear hK K;obtain⟨t,ht⟩:∃t,t=gJ 7 v u:=⟨_,rfl⟩;exact EU
theorem alA (w:World) (base s g n kc q:Nat) (A:Option Addr) (b off cn cap:Nat) (c:List Ins) (pc:Int) (m:List Int) (h:eG w base s g n kc q A b off cn c pc m) (a y z:Nat) (ha:a<n) (hy:y<n) (hz:z<n) (hnx:fC c pc n=some ⟨8,a,y,z⟩) (hright:bM ⟨8,a,y,z⟩ cn n=true):
 Calls prog 63 #[.pointer (some ⟨s,0,none⟩),.slice A cn cap,.map (some q)] w λe w'=>e=.returned (.tuple #[])/\Stepped w w' base s g n kc (bQ ⟨8,a,y,z⟩ pc m):=by
 refine G9 ?_;clear h hnx hright;intro hn1 hn2 hst hmem hmap lF mq mU hsg hls DW hlq hgs HX HN HO nQ HA HR wo ng;go_wp2_with fail;refine BX ?_;intro e w1 e1 hx1;replace e1:e=.returned (.tuple #[.agg (Ins.cells ⟨8,a,y,z⟩),.bool true]):=by rw [e1,HX.out];rfl
 subst e1;have hI1:=bN w1 77 (Ins.cells ⟨8,a,y,z⟩);have x1:=hx1.alloc (.cells (Ins.cells ⟨8,a,y,z⟩) 77);have hS1:=bX hst x1;have hM1:=hmem.ext x1;have j6:=hmap.ext x1;have l1:=hx1.size;clear hst hmem hmap hx1;go_upto_region 3 with(fail);generalize (w1.alloc (.cells (Ins.cells ⟨8,a,y,z⟩) 77))=W1 at hI1 x1 hS1 hM1 j6⊢;refine nP ?_;clear hI1 l1;intro ic hI1 l1 hi1 hj1;go_wp2_with fail;refine(fE ⟨8,a,y,z⟩ cn s pc 0 g 0 n kc m _ HN.out hn2 ng.out HO.out hS1 hM1.row).mono ?_;rintro e w2 ⟨e2,hx2⟩;replace e2:e=.returned (.int .i64 (-1)):=by rw [e2];rfl
 subst e2;refine Fp ?_;clear hI1 hS1 hM1 j6 x1 hx2 hi1 hj1;intro x2 hI2 hS2 hM2 uX hcI kW BK lI lS lG;have hal:a<m.length:=by have:=HN.out;omega
 have K9:(a:Int)<n:=by omega
 have hyl:y<m.length:=by have:=HN.out;omega
 have OO:(y:Int)<n:=by omega
 have hzl:z<m.length:=by have:=HN.out;omega
 have OP:(z:Int)<n:=by omega
 have Lu:=hM2.cell a hal;have Lx:=hM2.frozen;obtain⟨v,hv⟩:∃v,v=m[y]:=⟨_,rfl⟩;have xK:Hid (au v):=J w_;obtain⟨u,hu⟩:∃u,u=m[z]:=⟨_,rfl⟩;have Fz:Hid (au u):=J EO;have HE:Hid (bQ ⟨8,a,y,z⟩ pc m=(pc+1,0,m.set a (gJ 8 v u))):=J EN;have HV:=J hv;have HU:=J hu;clear hv hu;go_upto_region 9 with(fail);refine Zn ?_
 (repeat first|refine cu ?_|refine dL (Kept.drew (kR _ _)) (by intro w1 hS;have d1:=bC (bX hI2 hS);have d2:=(hM2.ext hS).cell y hyl;rw [<-HV.out]at d2;have d3:=(hM2.ext hS).cell z hzl;rw [<-HU.out]at d3;have d4:=uw _ q 8 (.func (.func 105) #[] #[]) 5 (uX.ext hS) jf;exact gX) ?_|refine dK (Kept.drew (kR _ _)) ?_)
 (refine aC (λK hK=>?_);go_simp)
 go_wp2_with fail;refine(alI v u xK.out Fz.out _).mono ?_;rintro e w3 ⟨rfl,rfl⟩;refine hK.out _ _ (λh=>h) ?_;clear hK K;obtain⟨t,ht⟩:∃t,t=gJ 8 v u:=⟨_,rfl⟩;exact EU
theorem alB (w:World) (base s g n kc q:Nat) (A:Option Addr) (b off cn cap:Nat) (c:List Ins) (pc:Int) (m:List Int) (h:eG w base s g n kc q A b off cn c pc m) (a y z:Nat) (ha:a<n) (hy:y<n) (hz:z<n) (hnx:fC c pc n=some ⟨9,a,y,z⟩) (hright:bM ⟨9,a,y,z⟩ cn n=true):
 Calls prog 63 #[.pointer (some ⟨s,0,none⟩),.slice A cn cap,.map (some q)] w λe w'=>e=.returned (.tuple #[])/\Stepped w w' base s g n kc (bQ ⟨9,a,y,z⟩ pc m):=by
 refine G9 ?_;clear h hnx hright;intro hn1 hn2 hst hmem hmap lF mq mU hsg hls DW hlq hgs HX HN HO nQ HA HR wo ng;go_wp2_with fail;refine BX ?_;intro e w1 e1 hx1;replace e1:e=.returned (.tuple #[.agg (Ins.cells ⟨9,a,y,z⟩),.bool true]):=by rw [e1,HX.out];rfl
 subst e1;have hI1:=bN w1 77 (Ins.cells ⟨9,a,y,z⟩);have x1:=hx1.alloc (.cells (Ins.cells ⟨9,a,y,z⟩) 77);have hS1:=bX hst x1;have hM1:=hmem.ext x1;have j6:=hmap.ext x1;have l1:=hx1.size;clear hst hmem hmap hx1;go_upto_region 3 with(fail);generalize (w1.alloc (.cells (Ins.cells ⟨9,a,y,z⟩) 77))=W1 at hI1 x1 hS1 hM1 j6⊢;refine nP ?_;clear hI1 l1;intro ic hI1 l1 hi1 hj1;go_wp2_with fail;refine(fE ⟨9,a,y,z⟩ cn s pc 0 g 0 n kc m _ HN.out hn2 ng.out HO.out hS1 hM1.row).mono ?_;rintro e w2 ⟨e2,hx2⟩;replace e2:e=.returned (.int .i64 (-1)):=by rw [e2];rfl
 subst e2;refine Fp ?_;clear hI1 hS1 hM1 j6 x1 hx2 hi1 hj1;intro x2 hI2 hS2 hM2 uX hcI kW BK lI lS lG;have hal:a<m.length:=by have:=HN.out;omega
 have K9:(a:Int)<n:=by omega
 have hyl:y<m.length:=by have:=HN.out;omega
 have OO:(y:Int)<n:=by omega
 have hzl:z<m.length:=by have:=HN.out;omega
 have OP:(z:Int)<n:=by omega
 have Lu:=hM2.cell a hal;have Lx:=hM2.frozen;obtain⟨v,hv⟩:∃v,v=m[y]:=⟨_,rfl⟩;have xK:Hid (au v):=J w_;obtain⟨u,hu⟩:∃u,u=m[z]:=⟨_,rfl⟩;have Fz:Hid (au u):=J EO;have HE:Hid (bQ ⟨9,a,y,z⟩ pc m=(pc+1,0,m.set a (gJ 9 v u))):=J EN;have HV:=J hv;have HU:=J hu;clear hv hu;go_upto_region 9 with(fail);refine Zn ?_
 (repeat first|refine cu ?_|refine dL (Kept.drew (kR _ _)) (by intro w1 hS;have d1:=bC (bX hI2 hS);have d2:=(hM2.ext hS).cell y hyl;rw [<-HV.out]at d2;have d3:=(hM2.ext hS).cell z hzl;rw [<-HU.out]at d3;have d4:=uw _ q 9 (.func (.func 107) #[] #[]) 6 (uX.ext hS) jf;exact gX) ?_|refine dK (Kept.drew (kR _ _)) ?_)
 (refine aC (λK hK=>?_);go_simp)
 go_wp2_with fail;refine(alJ v u xK.out Fz.out _).mono ?_;rintro e w3 ⟨rfl,rfl⟩;refine hK.out _ _ (λh=>h) ?_;clear hK K;obtain⟨t,ht⟩:∃t,t=gJ 9 v u:=⟨_,rfl⟩;exact EU
theorem ahQ (w:World) (base s g n kc q:Nat) (A:Option Addr) (b off cn cap:Nat) (c:List Ins) (pc:Int) (m:List Int) (h:eG w base s g n kc q A b off cn c pc m) (a y z:Nat) (ha:a<n) (hy:y<n) (hz:z<n) (hnx:fC c pc n=some ⟨10,a,y,z⟩) (hright:bM ⟨10,a,y,z⟩ cn n=true):
 Calls prog 63 #[.pointer (some ⟨s,0,none⟩),.slice A cn cap,.map (some q)] w λe w'=>e=.returned (.tuple #[])/\Stepped w w' base s g n kc (bQ ⟨10,a,y,z⟩ pc m):=by
 refine G9 ?_;clear h hnx hright;intro hn1 hn2 hst hmem hmap lF mq mU hsg hls DW hlq hgs HX HN HO nQ HA HR wo ng;go_wp2_with fail;refine BX ?_;intro e w1 e1 hx1;replace e1:e=.returned (.tuple #[.agg (Ins.cells ⟨10,a,y,z⟩),.bool true]):=by rw [e1,HX.out];rfl
 subst e1;have hI1:=bN w1 77 (Ins.cells ⟨10,a,y,z⟩);have x1:=hx1.alloc (.cells (Ins.cells ⟨10,a,y,z⟩) 77);have hS1:=bX hst x1;have hM1:=hmem.ext x1;have j6:=hmap.ext x1;have l1:=hx1.size;clear hst hmem hmap hx1;go_upto_region 3 with(fail);generalize (w1.alloc (.cells (Ins.cells ⟨10,a,y,z⟩) 77))=W1 at hI1 x1 hS1 hM1 j6⊢;refine nP ?_;clear hI1 l1;intro ic hI1 l1 hi1 hj1;go_wp2_with fail;refine(fE ⟨10,a,y,z⟩ cn s pc 0 g 0 n kc m _ HN.out hn2 ng.out HO.out hS1 hM1.row).mono ?_;rintro e w2 ⟨e2,hx2⟩;replace e2:e=.returned (.int .i64 (-1)):=by rw [e2];rfl
 subst e2;refine Fp ?_;clear hI1 hS1 hM1 j6 x1 hx2 hi1 hj1;intro x2 hI2 hS2 hM2 uX hcI kW BK lI lS lG;have hal:a<m.length:=by have:=HN.out;omega
 have K9:(a:Int)<n:=by omega
 have hyl:y<m.length:=by have:=HN.out;omega
 have OO:(y:Int)<n:=by omega
 have hzl:z<m.length:=by have:=HN.out;omega
 have OP:(z:Int)<n:=by omega
 have Lu:=hM2.cell a hal;have Lx:=hM2.frozen;obtain⟨v,hv⟩:∃v,v=m[y]:=⟨_,rfl⟩;have xK:Hid (au v):=J w_;obtain⟨u,hu⟩:∃u,u=m[z]:=⟨_,rfl⟩;have Fz:Hid (au u):=J EO;have HE:Hid (bQ ⟨10,a,y,z⟩ pc m=(pc+1,0,m.set a (gJ 10 v u))):=J EN;have HV:=J hv;have HU:=J hu;clear hv hu;go_upto_region 9 with(fail);refine Zn ?_
 (repeat first|refine cu ?_|refine dL (Kept.drew (kR _ _)) (by intro w1 hS;have d1:=bC (bX hI2 hS);have d2:=(hM2.ext hS).cell y hyl;rw [<-HV.out]at d2;have d3:=(hM2.ext hS).cell z hzl;rw [<-HU.out]at d3;have d4:=uw _ q 10 (.func (.func 108) #[] #[]) 7 (uX.ext hS) jf;exact gX) ?_|refine dK (Kept.drew (kR _ _)) ?_)
 (refine aC (λK hK=>?_);go_simp)
 go_wp2_with fail;refine(aic v u xK.out Fz.out _).mono ?_;rintro e w3 ⟨rfl,rfl⟩;refine hK.out _ _ (λh=>h) ?_;clear hK K;obtain⟨t,ht⟩:∃t,t=gJ 10 v u:=⟨_,rfl⟩;exact EU
open Go.RowKit
theorem ahR (w:World) (base s g n kc q:Nat) (A:Option Addr) (b off cn cap:Nat) (c:List Ins) (pc:Int) (m:List Int) (h:eG w base s g n kc q A b off cn c pc m) (a y z:Nat) (ha:a<n) (hy:y<n) (hz:z<n) (hnx:fC c pc n=some ⟨11,a,y,z⟩) (hright:bM ⟨11,a,y,z⟩ cn n=true):
 Calls prog 63 #[.pointer (some ⟨s,0,none⟩),.slice A cn cap,.map (some q)] w λe w'=>e=.returned (.tuple #[])/\Stepped w w' base s g n kc (bQ ⟨11,a,y,z⟩ pc m):=by
 refine G9 ?_;clear h hnx hright;intro hn1 hn2 hst hmem hmap lF mq mU hsg hls DW hlq hgs HX HN HO nQ HA HR wo ng;go_wp2_with fail;refine BX ?_;intro e w1 e1 hx1;replace e1:e=.returned (.tuple #[.agg (Ins.cells ⟨11,a,y,z⟩),.bool true]):=by rw [e1,HX.out];rfl
 subst e1;have hI1:=bN w1 77 (Ins.cells ⟨11,a,y,z⟩);have x1:=hx1.alloc (.cells (Ins.cells ⟨11,a,y,z⟩) 77);have hS1:=bX hst x1;have hM1:=hmem.ext x1;have j6:=hmap.ext x1;have l1:=hx1.size;clear hst hmem hmap hx1;go_upto_region 3 with(fail);generalize (w1.alloc (.cells (Ins.cells ⟨11,a,y,z⟩) 77))=W1 at hI1 x1 hS1 hM1 j6⊢;refine nP ?_;clear hI1 l1;intro ic hI1 l1 hi1 hj1;go_wp2_with fail;refine(fE ⟨11,a,y,z⟩ cn s pc 0 g 0 n kc m _ HN.out hn2 ng.out HO.out hS1 hM1.row).mono ?_;rintro e w2 ⟨e2,hx2⟩;replace e2:e=.returned (.int .i64 (-1)):=by rw [e2];rfl
 subst e2;refine Fp ?_;clear hI1 hS1 hM1 j6 x1 hx2 hi1 hj1;intro x2 hI2 hS2 hM2 uX hcI kW BK lI lS lG;have hal:a<m.length:=by have:=HN.out;omega
 have K9:(a:Int)<n:=by omega
 have hyl:y<m.length:=by have:=HN.out;omega
 have OO:(y:Int)<n:=by omega
 have hzl:z<m.length:=by have:=HN.out;omega
 have OP:(z:Int)<n:=by omega
 have Lu:=hM2.cell a hal;have Lx:=hM2.frozen;obtain⟨v,hv⟩:∃v,v=m[y]:=⟨_,rfl⟩;have xK:Hid (au v):=J w_;obtain⟨u,hu⟩:∃u,u=m[z]:=⟨_,rfl⟩;have Fz:Hid (au u):=J EO;have HE:Hid (bQ ⟨11,a,y,z⟩ pc m=(pc+1,0,m.set a (gJ 11 v u))):=J EN;have HV:=J hv;have HU:=J hu;clear hv hu;go_upto_region 9 with(fail);refine Zn ?_
 (repeat first|refine cu ?_|refine dL (Kept.drew (kR _ _)) (by intro w1 hS;have d1:=bC (bX hI2 hS);have d2:=(hM2.ext hS).cell y hyl;rw [<-HV.out]at d2;have d3:=(hM2.ext hS).cell z hzl;rw [<-HU.out]at d3;have d4:=uw _ q 11 (.func (.func 109) #[] #[]) 8 (uX.ext hS) jf;exact gX) ?_|refine dK (Kept.drew (kR _ _)) ?_)
 (refine aC (λK hK=>?_);go_simp)
 go_wp2_with fail;refine(aie v u xK.out Fz.out _).mono ?_;rintro e w3 ⟨rfl,rfl⟩;refine hK.out _ _ (λh=>h) ?_;clear hK K;obtain⟨t,ht⟩:∃t,t=gJ 11 v u:=⟨_,rfl⟩;exact EU
theorem ahS (w:World) (base s g n kc q:Nat) (A:Option Addr) (b off cn cap:Nat) (c:List Ins) (pc:Int) (m:List Int) (h:eG w base s g n kc q A b off cn c pc m) (a y z:Nat) (ha:a<n) (hy:y<n) (hz:z<n) (hnx:fC c pc n=some ⟨12,a,y,z⟩) (hright:bM ⟨12,a,y,z⟩ cn n=true):
 Calls prog 63 #[.pointer (some ⟨s,0,none⟩),.slice A cn cap,.map (some q)] w λe w'=>e=.returned (.tuple #[])/\Stepped w w' base s g n kc (bQ ⟨12,a,y,z⟩ pc m):=by
 refine G9 ?_;clear h hnx hright;intro hn1 hn2 hst hmem hmap lF mq mU hsg hls DW hlq hgs HX HN HO nQ HA HR wo ng;go_wp2_with fail;refine BX ?_;intro e w1 e1 hx1;replace e1:e=.returned (.tuple #[.agg (Ins.cells ⟨12,a,y,z⟩),.bool true]):=by rw [e1,HX.out];rfl
 subst e1;have hI1:=bN w1 77 (Ins.cells ⟨12,a,y,z⟩);have x1:=hx1.alloc (.cells (Ins.cells ⟨12,a,y,z⟩) 77);have hS1:=bX hst x1;have hM1:=hmem.ext x1;have j6:=hmap.ext x1;have l1:=hx1.size;clear hst hmem hmap hx1;go_upto_region 3 with(fail);generalize (w1.alloc (.cells (Ins.cells ⟨12,a,y,z⟩) 77))=W1 at hI1 x1 hS1 hM1 j6⊢;refine nP ?_;clear hI1 l1;intro ic hI1 l1 hi1 hj1;go_wp2_with fail;refine(fE ⟨12,a,y,z⟩ cn s pc 0 g 0 n kc m _ HN.out hn2 ng.out HO.out hS1 hM1.row).mono ?_;rintro e w2 ⟨e2,hx2⟩;replace e2:e=.returned (.int .i64 (-1)):=by rw [e2];rfl
 subst e2;refine Fp ?_;clear hI1 hS1 hM1 j6 x1 hx2 hi1 hj1;intro x2 hI2 hS2 hM2 uX hcI kW BK lI lS lG;have hal:a<m.length:=by have:=HN.out;omega
 have K9:(a:Int)<n:=by omega
 have hyl:y<m.length:=by have:=HN.out;omega
 have OO:(y:Int)<n:=by omega
 have hzl:z<m.length:=by have:=HN.out;omega
 have OP:(z:Int)<n:=by omega
 have Lu:=hM2.cell a hal;have Lx:=hM2.frozen;obtain⟨v,hv⟩:∃v,v=m[y]:=⟨_,rfl⟩;have xK:Hid (au v):=J w_;obtain⟨u,hu⟩:∃u,u=m[z]:=⟨_,rfl⟩;have Fz:Hid (au u):=J EO;have HE:Hid (bQ ⟨12,a,y,z⟩ pc m=(pc+1,0,m.set a (gJ 12 v u))):=J EN;have HV:=J hv;have HU:=J hu;clear hv hu;go_upto_region 9 with(fail);refine Zn ?_
 (repeat first|refine cu ?_|refine dL (Kept.drew (kR _ _)) (by intro w1 hS;have d1:=bC (bX hI2 hS);have d2:=(hM2.ext hS).cell y hyl;rw [<-HV.out]at d2;have d3:=(hM2.ext hS).cell z hzl;rw [<-HU.out]at d3;have d4:=uw _ q 12 (.func (.func 110) #[] #[]) 9 (uX.ext hS) jf;exact gX) ?_|refine dK (Kept.drew (kR _ _)) ?_)
 (refine aC (λK hK=>?_);go_simp)
 go_wp2_with fail;refine(aif v u xK.out Fz.out _).mono ?_;rintro e w3 ⟨rfl,rfl⟩;refine hK.out _ _ (λh=>h) ?_;clear hK K;obtain⟨t,ht⟩:∃t,t=gJ 12 v u:=⟨_,rfl⟩;exact EU
theorem ahT (w:World) (base s g n kc q:Nat) (A:Option Addr) (b off cn cap:Nat) (c:List Ins) (pc:Int) (m:List Int) (h:eG w base s g n kc q A b off cn c pc m) (a y z:Nat) (ha:a<n) (hy:y<n) (hz:z<n) (hnx:fC c pc n=some ⟨13,a,y,z⟩) (hright:bM ⟨13,a,y,z⟩ cn n=true):
 Calls prog 63 #[.pointer (some ⟨s,0,none⟩),.slice A cn cap,.map (some q)] w λe w'=>e=.returned (.tuple #[])/\Stepped w w' base s g n kc (bQ ⟨13,a,y,z⟩ pc m):=by
 refine G9 ?_;clear h hnx hright;intro hn1 hn2 hst hmem hmap lF mq mU hsg hls DW hlq hgs HX HN HO nQ HA HR wo ng;go_wp2_with fail;refine BX ?_;intro e w1 e1 hx1;replace e1:e=.returned (.tuple #[.agg (Ins.cells ⟨13,a,y,z⟩),.bool true]):=by rw [e1,HX.out];rfl
 subst e1;have hI1:=bN w1 77 (Ins.cells ⟨13,a,y,z⟩);have x1:=hx1.alloc (.cells (Ins.cells ⟨13,a,y,z⟩) 77);have hS1:=bX hst x1;have hM1:=hmem.ext x1;have j6:=hmap.ext x1;have l1:=hx1.size;clear hst hmem hmap hx1;go_upto_region 3 with(fail);generalize (w1.alloc (.cells (Ins.cells ⟨13,a,y,z⟩) 77))=W1 at hI1 x1 hS1 hM1 j6⊢;refine nP ?_;clear hI1 l1;intro ic hI1 l1 hi1 hj1;go_wp2_with fail;refine(fE ⟨13,a,y,z⟩ cn s pc 0 g 0 n kc m _ HN.out hn2 ng.out HO.out hS1 hM1.row).mono ?_;rintro e w2 ⟨e2,hx2⟩;replace e2:e=.returned (.int .i64 (-1)):=by rw [e2];rfl
 subst e2;refine Fp ?_;clear hI1 hS1 hM1 j6 x1 hx2 hi1 hj1;intro x2 hI2 hS2 hM2 uX hcI kW BK lI lS lG;have hal:a<m.length:=by have:=HN.out;omega
 have K9:(a:Int)<n:=by omega
 have hyl:y<m.length:=by have:=HN.out;omega
 have OO:(y:Int)<n:=by omega
 have hzl:z<m.length:=by have:=HN.out;omega
 have OP:(z:Int)<n:=by omega
 have Lu:=hM2.cell a hal;have Lx:=hM2.frozen;obtain⟨v,hv⟩:∃v,v=m[y]:=⟨_,rfl⟩;have xK:Hid (au v):=J w_;obtain⟨u,hu⟩:∃u,u=m[z]:=⟨_,rfl⟩;have Fz:Hid (au u):=J EO;have HE:Hid (bQ ⟨13,a,y,z⟩ pc m=(pc+1,0,m.set a (gJ 13 v u))):=J EN;have HV:=J hv;have HU:=J hu;clear hv hu;go_upto_region 9 with(fail);refine Zn ?_
 (repeat first|refine cu ?_|refine dL (Kept.drew (kR _ _)) (by intro w1 hS;have d1:=bC (bX hI2 hS);have d2:=(hM2.ext hS).cell y hyl;rw [<-HV.out]at d2;have d3:=(hM2.ext hS).cell z hzl;rw [<-HU.out]at d3;have d4:=uw _ q 13 (.func (.func 111) #[] #[]) 10 (uX.ext hS) jf;exact gX) ?_|refine dK (Kept.drew (kR _ _)) ?_)
 (refine aC (λK hK=>?_);go_simp)
 go_wp2_with fail;refine(aii v u xK.out Fz.out _).mono ?_;rintro e w3 ⟨rfl,rfl⟩;refine hK.out _ _ (λh=>h) ?_;clear hK K;obtain⟨t,ht⟩:∃t,t=gJ 13 v u:=⟨_,rfl⟩;exact EU
open Go.RowKit
theorem abr (w:World) (base s g n kc q:Nat) (A:Option Addr) (b off cn cap:Nat) (c:List Ins) (pc:Int) (m:List Int) (h:eG w base s g n kc q A b off cn c pc m) (hnx:fC c pc n=none):
 Calls prog 63 #[.pointer (some ⟨s,0,none⟩),.slice A cn cap,.map (some q)] w λe w'=>e=.returned (.tuple #[])/\Stepped w w' base s g n kc (pc,2,m):=by
 obtain⟨hn,hn1,hn2,qG,hops,hst,hmem,hmap,hcA,hrow,hcn,lF,mq,mU,hsg⟩:=h;have hls:=hst.lt;have HX:=J hnx;have nQ:=J hops;have HA:=J hcA;have HR:=J hrow;have wo:=J hcn;clear hnx hn qG hops hcA hrow hcn hmap;go_enter func63,ntmps63;go_wp2_with fail;refine BX ?_;intro e w1 e1 hx1;replace e1:e=.returned (.tuple #[.agg (Ins.cells ⟨0,0,0,0⟩),.bool false]):=by rw [e1,HX.out];rfl
 subst e1;have x1:=hx1.alloc (.cells (Ins.cells ⟨0,0,0,0⟩) 77);have hS1:=bX hst x1;have hM1:=hmem.ext x1;have l1:=hx1.size;clear hst hmem hx1;go_upto_region 1 with(fail);generalize (w1.alloc (.cells (Ins.cells ⟨0,0,0,0⟩) 77))=W1 at x1 hS1 hM1⊢;have kW:=bC hS1;have BK:=aH.frozen hS1;go_wp2_with fail;refine jC results63 rfl ⟨rfl,?_⟩;exact Stepped.halt (Kept.ext x1) hS1 hM1 hsg _
theorem U4 (w:World) (base s g n kc q:Nat) (A:Option Addr) (b off cn cap:Nat) (c:List Ins) (pc:Int) (m:List Int) (h:eG w base s g n kc q A b off cn c pc m) (x y z:Int) (hnx:fC c pc n=some ⟨15,x,y,z⟩) (hright:bM ⟨15,x,y,z⟩ cn n=true) (zN:lC ⟨15,x,y,z⟩ m<0):
 Calls prog 63 #[.pointer (some ⟨s,0,none⟩),.slice A cn cap,.map (some q)] w λe w'=>e=.returned (.tuple #[])/\Stepped w w' base s g n kc (pc,2,m):=by
 obtain⟨hn,hn1,hn2,qG,hops,hst,hmem,hmap,hcA,hrow,hcn,lF,mq,mU,hsg⟩:=h;have hls:=hst.lt;obtain⟨F,hF⟩:∃F,F=lC ⟨15,x,y,z⟩ m:=⟨_,rfl⟩;rw [<-hF]at zN;have HF:=J hF;have HX:=J hnx;have HN:=J hn;have HO:=J qG;have nQ:=J hops;have HA:=J hcA;have HR:=J hrow;have wo:=J hcn;have ng:=J hright;clear hnx hn qG hops hcA hrow hcn hmap hright hF;go_enter func63,ntmps63;go_wp2_with fail;refine BX ?_;intro e w1 e1 hx1;replace e1:e=.returned (.tuple #[.agg (Ins.cells ⟨15,x,y,z⟩),.bool true]):=by rw [e1,HX.out];rfl
 subst e1;have hI1:=bN w1 77 (Ins.cells ⟨15,x,y,z⟩);have x1:=hx1.alloc (.cells (Ins.cells ⟨15,x,y,z⟩) 77);have hS1:=bX hst x1;have hM1:=hmem.ext x1;have l1:=hx1.size;clear hst hmem hx1;go_upto_region 3 with(fail);generalize (w1.alloc (.cells (Ins.cells ⟨15,x,y,z⟩) 77))=W1 at hI1 x1 hS1 hM1⊢;refine nP ?_;clear hI1 l1;intro ic hI1 l1 hi1 hj1;go_wp2_with fail;refine(fE ⟨15,x,y,z⟩ cn s pc 0 g 0 n kc m _ HN.out hn2 ng.out HO.out hS1 hM1.row).mono ?_;exact ajl
theorem U5 (w:World) (base s g n kc q:Nat) (A:Option Addr) (b off cn cap:Nat) (c:List Ins) (pc:Int) (m:List Int) (h:eG w base s g n kc q A b off cn c pc m) (x y z:Int) (hnx:fC c pc n=some ⟨16,x,y,z⟩) (hright:bM ⟨16,x,y,z⟩ cn n=true) (zN:lC ⟨16,x,y,z⟩ m<0):
 Calls prog 63 #[.pointer (some ⟨s,0,none⟩),.slice A cn cap,.map (some q)] w λe w'=>e=.returned (.tuple #[])/\Stepped w w' base s g n kc (pc,2,m):=by
 obtain⟨hn,hn1,hn2,qG,hops,hst,hmem,hmap,hcA,hrow,hcn,lF,mq,mU,hsg⟩:=h;have hls:=hst.lt;obtain⟨F,hF⟩:∃F,F=lC ⟨16,x,y,z⟩ m:=⟨_,rfl⟩;rw [<-hF]at zN;have HF:=J hF;have HX:=J hnx;have HN:=J hn;have HO:=J qG;have nQ:=J hops;have HA:=J hcA;have HR:=J hrow;have wo:=J hcn;have ng:=J hright;clear hnx hn qG hops hcA hrow hcn hmap hright hF;go_enter func63,ntmps63;go_wp2_with fail;refine BX ?_;intro e w1 e1 hx1;replace e1:e=.returned (.tuple #[.agg (Ins.cells ⟨16,x,y,z⟩),.bool true]):=by rw [e1,HX.out];rfl
 subst e1;have hI1:=bN w1 77 (Ins.cells ⟨16,x,y,z⟩);have x1:=hx1.alloc (.cells (Ins.cells ⟨16,x,y,z⟩) 77);have hS1:=bX hst x1;have hM1:=hmem.ext x1;have l1:=hx1.size;clear hst hmem hx1;go_upto_region 3 with(fail);generalize (w1.alloc (.cells (Ins.cells ⟨16,x,y,z⟩) 77))=W1 at hI1 x1 hS1 hM1⊢;refine nP ?_;clear hI1 l1;intro ic hI1 l1 hi1 hj1;go_wp2_with fail;refine(fE ⟨16,x,y,z⟩ cn s pc 0 g 0 n kc m _ HN.out hn2 ng.out HO.out hS1 hM1.row).mono ?_;exact ajl
theorem AB {c:List Ins} {pc:Int} {k:Nat} {i:Ins} (h:fC c pc k=some i):bM i c.length k=true:=by
 unfold fC at h
 split at h
 ·split at h
  ·cases h;assumption
  ·cases h
 ·cases h
theorem aav (i:Ins) (m:List Int):lC i m<m.length:=by
 unfold lC rX
 split
 ·split<;>omega
 ·split
  ·split<;>omega
  ·omega
theorem O9 {i:Ins} {m:List Int} (h:lost i m=false) (Z_:i.op=15∨i.op=16):0<=lC i m:=by
 unfold lost at h
 rcases Z_ with e|e<;>(simp [e]at h;omega)
theorem YB (w:World) (base s g n kc q:Nat) (A:Option Addr) (b off cn cap:Nat) (c:List Ins) (pc:Int) (m:List Int) (h:eG w base s g n kc q A b off cn c pc m):
 Calls prog 63 #[.pointer (some ⟨s,0,none⟩),.slice A cn cap,.map (some q)] w λe w'=>e=.returned (.tuple #[])/\Stepped w w' base s g n kc (lV c pc m):=by
 have hn:=h.n_eq;have hcn:=h.W_
 cases hnx:fC c pc n with
 |none=>
  have e:lV c pc m=(pc,2,m):=by unfold lV;rw [<-hn,hnx]
  rw [e];exact abr w base s g n kc q A b off cn cap c pc m h hnx
 |some i=>
  have hr:=AB hnx;rw [<-hcn]at hr;obtain⟨h0,h22,ha,hb,hc,he⟩:=rY hr
  cases hl:lost i m with
  |true=>
   have e:lV c pc m=(pc,2,m):=by unfold lV;rw [<-hn,hnx];simp [hl]
   rw [e];have hl':=hl;simp [lost]at hl';obtain⟨op,x,y,z⟩:=i;simp only at hl'
   rcases hl'.2 with rfl|rfl
   ·exact U4 w base s g n kc q A b off cn cap c pc m h x y z hnx hr hl'.1
   ·exact U5 w base s g n kc q A b off cn cap c pc m h x y z hnx hr hl'.1
  |false=>
   have e:lV c pc m=bQ i pc m:=by unfold lV;rw [<-hn,hnx];simp [hl]
   rw [e];have oQ:=aav i m;have hfl:=O9 hl;obtain⟨op,x,y,z⟩:=i;simp only at h0 h22 ha hb hc;obtain⟨k,rfl⟩:∃k:Nat,op=k:=⟨op.toNat,by omega⟩;have hk:k<22:=by omega
   clear h0 h22 e hl;have hall:k=0∨k=1∨k=2∨k=3∨k=4∨k=5∨k=6∨k=7∨k=8∨k=9∨k=10∨k=11∨k=12∨k=13∨k=14∨k=15∨k=16∨k=17∨k=18∨k=19∨k=20∨k=21:=by omega
   rcases hall with rfl|rfl|rfl|rfl|rfl|rfl|rfl|rfl|rfl|rfl|rfl|rfl|rfl|rfl|rfl|rfl|rfl|rfl|rfl|rfl|rfl|rfl
   ·have ha':=AJ rfl ha
    exact alq w base s g n kc q A b off cn cap c pc m h x y z (by simpa [ji]using he) hnx hr
   ·have ha':=dV rfl ha
    obtain⟨x,rfl⟩:∃t:Nat,x=t:=⟨Int.toNat x,by omega⟩;have hb':=AJ rfl hb;exact alr w base s g n kc q A b off cn cap c pc m h x y z aj hb'.1 hb'.2 hnx hr
   ·have ha':=dV rfl ha
    obtain⟨x,rfl⟩:∃t:Nat,x=t:=⟨Int.toNat x,by omega⟩;have hb':=dV rfl hb;obtain⟨y,rfl⟩:∃t:Nat,y=t:=⟨Int.toNat y,by omega⟩;exact als w base s g n kc q A b off cn cap c pc m h x y z aj aj hnx hr
   ·have ha':=dV rfl ha
    obtain⟨x,rfl⟩:∃t:Nat,x=t:=⟨Int.toNat x,by omega⟩;have hb':=dV rfl hb;obtain⟨y,rfl⟩:∃t:Nat,y=t:=⟨Int.toNat y,by omega⟩;have hc':=dV rfl hc;obtain⟨z,rfl⟩:∃t:Nat,z=t:=⟨Int.toNat z,by omega⟩;exact alu w base s g n kc q A b off cn cap c pc m h x y z aj aj aj hnx hr
   ·have ha':=dV rfl ha
    obtain⟨x,rfl⟩:∃t:Nat,x=t:=⟨Int.toNat x,by omega⟩;have hb':=dV rfl hb;obtain⟨y,rfl⟩:∃t:Nat,y=t:=⟨Int.toNat y,by omega⟩;have hc':=dV rfl hc;obtain⟨z,rfl⟩:∃t:Nat,z=t:=⟨Int.toNat z,by omega⟩;exact alv w base s g n kc q A b off cn cap c pc m h x y z aj aj aj hnx hr
   ·have ha':=dV rfl ha
    obtain⟨x,rfl⟩:∃t:Nat,x=t:=⟨Int.toNat x,by omega⟩;have hb':=dV rfl hb;obtain⟨y,rfl⟩:∃t:Nat,y=t:=⟨Int.toNat y,by omega⟩;have hc':=dV rfl hc;obtain⟨z,rfl⟩:∃t:Nat,z=t:=⟨Int.toNat z,by omega⟩;exact alx w base s g n kc q A b off cn cap c pc m h x y z aj aj aj hnx hr
   ·have ha':=dV rfl ha
    obtain⟨x,rfl⟩:∃t:Nat,x=t:=⟨Int.toNat x,by omega⟩;have hb':=dV rfl hb;obtain⟨y,rfl⟩:∃t:Nat,y=t:=⟨Int.toNat y,by omega⟩;have hc':=dV rfl hc;obtain⟨z,rfl⟩:∃t:Nat,z=t:=⟨Int.toNat z,by omega⟩;exact aly w base s g n kc q A b off cn cap c pc m h x y z aj aj aj hnx hr
   ·have ha':=dV rfl ha
    obtain⟨x,rfl⟩:∃t:Nat,x=t:=⟨Int.toNat x,by omega⟩;have hb':=dV rfl hb;obtain⟨y,rfl⟩:∃t:Nat,y=t:=⟨Int.toNat y,by omega⟩;have hc':=dV rfl hc;obtain⟨z,rfl⟩:∃t:Nat,z=t:=⟨Int.toNat z,by omega⟩;exact alz w base s g n kc q A b off cn cap c pc m h x y z aj aj aj hnx hr
   ·have ha':=dV rfl ha
    obtain⟨x,rfl⟩:∃t:Nat,x=t:=⟨Int.toNat x,by omega⟩;have hb':=dV rfl hb;obtain⟨y,rfl⟩:∃t:Nat,y=t:=⟨Int.toNat y,by omega⟩;have hc':=dV rfl hc;obtain⟨z,rfl⟩:∃t:Nat,z=t:=⟨Int.toNat z,by omega⟩;exact alA w base s g n kc q A b off cn cap c pc m h x y z aj aj aj hnx hr
   ·have ha':=dV rfl ha
    obtain⟨x,rfl⟩:∃t:Nat,x=t:=⟨Int.toNat x,by omega⟩;have hb':=dV rfl hb;obtain⟨y,rfl⟩:∃t:Nat,y=t:=⟨Int.toNat y,by omega⟩;have hc':=dV rfl hc;obtain⟨z,rfl⟩:∃t:Nat,z=t:=⟨Int.toNat z,by omega⟩;exact alB w base s g n kc q A b off cn cap c pc m h x y z aj aj aj hnx hr
   ·have ha':=dV rfl ha
    obtain⟨x,rfl⟩:∃t:Nat,x=t:=⟨Int.toNat x,by omega⟩;have hb':=dV rfl hb;obtain⟨y,rfl⟩:∃t:Nat,y=t:=⟨Int.toNat y,by omega⟩;have hc':=dV rfl hc;obtain⟨z,rfl⟩:∃t:Nat,z=t:=⟨Int.toNat z,by omega⟩;exact ahQ w base s g n kc q A b off cn cap c pc m h x y z aj aj aj hnx hr
   ·have ha':=dV rfl ha
    obtain⟨x,rfl⟩:∃t:Nat,x=t:=⟨Int.toNat x,by omega⟩;have hb':=dV rfl hb;obtain⟨y,rfl⟩:∃t:Nat,y=t:=⟨Int.toNat y,by omega⟩;have hc':=dV rfl hc;obtain⟨z,rfl⟩:∃t:Nat,z=t:=⟨Int.toNat z,by omega⟩;exact ahR w base s g n kc q A b off cn cap c pc m h x y z aj aj aj hnx hr
   ·have ha':=dV rfl ha
    obtain⟨x,rfl⟩:∃t:Nat,x=t:=⟨Int.toNat x,by omega⟩;have hb':=dV rfl hb;obtain⟨y,rfl⟩:∃t:Nat,y=t:=⟨Int.toNat y,by omega⟩;have hc':=dV rfl hc;obtain⟨z,rfl⟩:∃t:Nat,z=t:=⟨Int.toNat z,by omega⟩;exact ahS w base s g n kc q A b off cn cap c pc m h x y z aj aj aj hnx hr
   ·have ha':=dV rfl ha
    obtain⟨x,rfl⟩:∃t:Nat,x=t:=⟨Int.toNat x,by omega⟩;have hb':=dV rfl hb;obtain⟨y,rfl⟩:∃t:Nat,y=t:=⟨Int.toNat y,by omega⟩;have hc':=dV rfl hc;obtain⟨z,rfl⟩:∃t:Nat,z=t:=⟨Int.toNat z,by omega⟩;exact ahT w base s g n kc q A b off cn cap c pc m h x y z aj aj aj hnx hr
   ·have ha':=dV rfl ha
    obtain⟨x,rfl⟩:∃t:Nat,x=t:=⟨Int.toNat x,by omega⟩;have hb':=dV rfl hb;obtain⟨y,rfl⟩:∃t:Nat,y=t:=⟨Int.toNat y,by omega⟩;exact ahU w base s g n kc q A b off cn cap c pc m h x y z aj aj hnx hr
   ·have ha':=dV rfl ha
    obtain⟨x,rfl⟩:∃t:Nat,x=t:=⟨Int.toNat x,by omega⟩;have hb':=dV rfl hb;obtain⟨y,rfl⟩:∃t:Nat,y=t:=⟨Int.toNat y,by omega⟩;have hc':=dV rfl hc;obtain⟨z,rfl⟩:∃t:Nat,z=t:=⟨Int.toNat z,by omega⟩;have hf0:=hfl (.inl rfl);obtain⟨p,hp⟩:∃p:Nat,lC ⟨(15:Nat),x,y,z⟩ m=p:=⟨(lC ⟨(15:Nat),x,y,z⟩ m).toNat,by omega⟩;exact ahV w base s g n kc q A b off cn cap c pc m h x y z p aj aj hp hnx hr
   ·have ha':=dV rfl ha
    obtain⟨x,rfl⟩:∃t:Nat,x=t:=⟨Int.toNat x,by omega⟩;have hb':=dV rfl hb;obtain⟨y,rfl⟩:∃t:Nat,y=t:=⟨Int.toNat y,by omega⟩;have hc':=dV rfl hc;obtain⟨z,rfl⟩:∃t:Nat,z=t:=⟨Int.toNat z,by omega⟩;have hf0:=hfl (.inr rfl);obtain⟨p,hp⟩:∃p:Nat,lC ⟨(16:Nat),x,y,z⟩ m=p:=⟨(lC ⟨(16:Nat),x,y,z⟩ m).toNat,by omega⟩;exact ahW w base s g n kc q A b off cn cap c pc m h x y z p aj aj hp hnx hr
   ·have ha':=dV rfl ha
    obtain⟨x,rfl⟩:∃t:Nat,x=t:=⟨Int.toNat x,by omega⟩;have hb':=AJ rfl hb;have hc':=AJ rfl hc;exact ahX w base s g n kc q A b off cn cap c pc m h x y z aj hb'.1 hb'.2 hc'.1 hc'.2 hnx hr
   ·have ha':=dV rfl ha
    obtain⟨x,rfl⟩:∃t:Nat,x=t:=⟨Int.toNat x,by omega⟩;have hb':=dV rfl hb;obtain⟨y,rfl⟩:∃t:Nat,y=t:=⟨Int.toNat y,by omega⟩;have hc':=AJ rfl hc;have hz0:0<=z:=by simpa [ji]using he
    exact ahY w base s g n kc q A b off cn cap c pc m h x y z aj aj hz0 hc'.2 hnx hr
   ·have ha':=GK rfl ha
    obtain⟨x,rfl⟩:∃t:Nat,x=t:=⟨Int.toNat x,by omega⟩;exact ahZ w base s g n kc q A b off cn cap c pc m h x y z hnx hr
   ·have ha':=GK rfl ha
    obtain⟨x,rfl⟩:∃t:Nat,x=t:=⟨Int.toNat x,by omega⟩;have hb':=dV rfl hb;obtain⟨y,rfl⟩:∃t:Nat,y=t:=⟨Int.toNat y,by omega⟩;exact aia w base s g n kc q A b off cn cap c pc m h x y z aj hnx hr
   ·have ha':=GK rfl ha
    obtain⟨x,rfl⟩:∃t:Nat,x=t:=⟨Int.toNat x,by omega⟩;have hb':=dV rfl hb;obtain⟨y,rfl⟩:∃t:Nat,y=t:=⟨Int.toNat y,by omega⟩;exact aib w base s g n kc q A b off cn cap c pc m h x y z aj hnx hr
open Go.RowKit
theorem Cx:(prog.info? 21).map (λi=>(i.zero,i.size,i.bytes))=some (some (.int .i32 0),1,4):=by kernel_rfl
theorem wQ (l:List Int):iQ (aM l)=true:=by
 induction l with
 |nil=>rfl
 |cons d l ih=>show iQ (.int .i32 d::aM l)=true;simpa [iQ,Value.oneCell']using ih
theorem FI (w:World) (base:Nat) (v:Value) (n:Nat) (xs:List Int) (hown:w.ownsRow base 21 1 v n (aM xs)) (b off m c:Nat) (l:List Int) (hm:m=l.length) (hr:Row w b off (aM l)) (hn:n+m<=100000) (hbase:base<=w.heap.size):
 ∃v' w',(Builtin.append_ #[27,27] 27 #[v,.slice (some ⟨b,off,none⟩) m c]).run prog w=.ok v' w'/\w'.ownsRow base 21 1 v' (n+m) (aM (xs++l))/\Kept (λi=>v.ownBlock=some i) w w':=by
 obtain⟨i,hi,hz,h1,h2⟩:=info_parts Cx;have:=Dy (P:=prog) underlying27 hi hz h1 h2 jf ak w base v n (aM xs) hown b off m c (aM l) (by rw [dQ,hm,Nat.mul_one]) hr (wQ l) (by unfold maxLen;omega) aj hbase;rw [show aM xs++aM l=aM (xs++l)by simp [aM]]at this;exact this
def acr (w w':World) (v:Value) (n:Nat) (m:List Int):Prop:=∃g c,v=.slice (some ⟨g,0,none⟩) n c/\eB w' w.heap.size g n c m/\Ext w w'
theorem aaT {w w':World} {v:Value} {n:Nat} {m:List Int} (h:w'.ownsRow w.heap.size 21 1 v n (aM m)) (hn:0<n) (hx:Ext w w'):acr w w' v n m:=by
 rcases h.2 with⟨_,h0⟩|⟨g,c,cur,hv,r⟩
 ·omega
 ·subst hv
  exact⟨g,c,rfl,h,hx⟩
theorem Ph (b off cap:Nat) (l:List Int) (n:Nat) (hn:n=l.length) (h1:1<=n) (h2:n<=4096) (w:World) (hr:Row w b off (aM l)):
 Calls prog 66 #[.slice (some ⟨b,off,none⟩) n cap] w λe w'=>∃v,e=.returned v/\acr w w' v n l:=by
 obtain⟨v2,w2,hr2,ho2,hk2⟩:=FI (w.alloc (.cells #[] 21)) _ _ 0 [] (vv w 21 1) b off n cap l hn (hr.ext ((kR _ w).alloc _)) aj aG;have HN:=J hn;clear hn;have heq:=λw=>Lib.run_eql_slice_nil (P:=prog) w 27 21 (some ⟨b,off,none⟩) n cap 0 0 underlying27;simp only [Option.isNone_some]at heq;go_enter func66,ntmps66;go_upto_region 3 with(fail);go_step
 iterate 2 refine qY ?_
 refine fM rfl (.tmp 5) (.tmp 6) 27 rfl rfl rfl rfl hr2 ?_;clear hr2;go_wp2_with fail;go_ret;rw [Nat.zero_add,List.nil_append]at ho2;exact⟨_,rfl,aaT ho2 h1 (((kR _ w).alloc _).trans' hk2 (λi hi e=>by simp [Value.ownBlock]at e;omega))⟩
def WG (w w':World) (v:Value) (n:Nat) (pc halt:Int) (m:List Int):Prop:=∃g c,v=.agg (aN pc (some ⟨g,0,none⟩) n c halt)/\eB w' w.heap.size g n c m/\Ext w w'
theorem PU (pc halt:Int) (b off cap:Nat) (l:List Int) (n:Nat) (hn:n=l.length) (h1:1<=n) (h2:n<=4096) (w:World) (hr:Row w b off (aM l)):
 Calls prog 60 #[.agg (aN pc (some ⟨b,off,none⟩) n cap halt)] w λe w'=>∃v,e=.returned v/\WG w w' v n pc halt l:=by
 have HN:=J hn;clear hn;have hx0:Ext w _:=((kR _ w).alloc (.cells (aN pc (some ⟨b,off,none⟩) n cap halt) 49)).alloc (.cells (aN 0 none 0 0 0) 49);have hA0:aH _ w.heap.size 49 (aN pc (some ⟨b,off,none⟩) n cap halt):=aH.alloc (bN w _ _) (.cells (aN 0 none 0 0 0) 49);have hR0:aH _ (w.heap.size+1) 49 (aN 0 none 0 0 0):=aH.new' (w.alloc (.cells (aN pc (some ⟨b,off,none⟩) n cap halt) 49)) _ _ _ aG;have hrow:=hr.ext hx0;have hs0:=hx0.size;go_enter func60,ntmps60;go_wp2_with fail;refine(Ph b off cap l n HN.out h1 h2 _ hrow).mono ?_;rintro e w1 ⟨v1,rfl,g,c1,rfl,hM1,hx1⟩;have hA1:=bX hA0 hx1;have yB:=bX hR0 hx1;have hc1:=bC hA1;have hf1:=aH.frozen hA1;have hg1:=hM1.inv.2;obtain⟨_,hgb,_⟩:=hg1;have lA:=hA0.lt;have lR:=hR0.lt;have hA2:aH (w1.setCell ⟨w.heap.size,1,none⟩ (.slice (some ⟨g,0,none⟩) n c1)) w.heap.size 49 (aN pc (some ⟨g,0,none⟩) n c1 halt):=aH.gW hA1 1 (.slice (some ⟨g,0,none⟩) n c1);have hR2:=aH.far yB (p:=⟨w.heap.size,1,none⟩) (show w.heap.size+1≠w.heap.size by omega) (.slice (some ⟨g,0,none⟩) n c1);have hM2:=hM1.far (p:=⟨w.heap.size,1,none⟩) (show¬g=w.heap.size by omega) (.slice (some ⟨g,0,none⟩) n c1);have y2:Ext w (w1.setCell ⟨w.heap.size,1,none⟩ (.slice (some ⟨g,0,none⟩) n c1)):=Kept.setCell (hx0.trans hx1) ⟨w.heap.size,1,none⟩ _ (λh=>by have:w.heap.size<w.heap.size:=h;omega);go_upto_region 2 with(fail);clear hA0 hR0 hA1 yB hc1 hf1 hM1;generalize (w1.setCell ⟨w.heap.size,1,none⟩ (.slice (some ⟨g,0,none⟩) n c1))=W2 at hA2 hR2 hM2 y2⊢;have i1:=bH hA2;have i2:=bG hA2;have i3:=bH hR2;have i4:=aH.bF hR2;go_wp2_with fail;refine fD results60 rfl rfl rz Vm (aH.gL hR2 _ _) ⟨_,rfl,g,c1,rfl,?_,Kept.putAt y2 _ _ _ (λh=>by omega)⟩;exact(gZ (hM2.kept (Kept.putAt (S:=(·=w.heap.size+1)) (kR _ _) _ _ _ (λ_=>rfl)) aj) aj)
open Go.RowKit
theorem eB.ge {w:World} {base g n kc:Nat} {m:List Int} (h:eB w base g n kc m):base<=g:=by
 obtain⟨_,_,hb,_⟩:=h.inv;exact hb
def UN (c:List Ins) (pc halt:Int) (m:List Int):Int×Int×List Int:=if halt=0 then lV c pc m else(pc,halt,m)
theorem abe {P:Program} {fn:Func} {R:Ending->World->Prop} {a:Act} {w:World} {p j k:Tmp} {ty t:TypeId} {g:Nat} {cs:Array Value}
 (hres:fn.results=#[.cell p ty,.tmp j,.tmp k]) (hd:a.defers=[]) (hp:a.tmps.getD p undef=.pointer (some ⟨g,0,none⟩)) (ha:jQ P ty=true) (hs:sizeT P ty=some cs.size) (hb:aH w g t cs)
 (hR:R (.returned (.tuple #[.agg cs,a.tmps.getD j undef,a.tmps.getD k undef])) w):bodyPost P fn R .ret a w:=by
 exact acj
structure H8 (w:World) (A:Option Addr) (b off cn:Nat) (c:List Ins) (b' off' n:Nat) (pc halt:Int) (m:List Int):Prop where
 ops:OpsAt w
 cA:0<cn->A=some ⟨b,off,none⟩
 row:0<cn->Row w b off (fV c)
 W_:cn=c.length
 cn2:cn<=2048
 n_eq:n=m.length
 right:uF pc halt n=true
 vQ:∀x∈m,au x
 alm:Row w b' off' (aM m)
theorem H8.ext {w w':World} {A:Option Addr} {b off cn:Nat} {c:List Ins} {b' off' n:Nat} {pc halt:Int} {m:List Int} (h:H8 w A b off cn c b' off' n pc halt m) (hx:Ext w w'):H8 w' A b off cn c b' off' n pc halt m:=
 ⟨h.ops.ext hx,h.cA,λh0=>(h.row h0).ext hx,h.W_,h.cn2,h.n_eq,h.right,h.vQ,h.alm.ext hx⟩
theorem nS (pc halt:Int) (A:Option Addr) (n cap:Nat) (w:World):
 Calls prog 61 #[.agg (aN pc A n cap halt)] w λe w'=>e=.returned (.bool (uF pc halt n))/\Ext w w':=by
 have hx0:Ext w _:=(kR _ w).alloc (.cells (aN pc A n cap halt) 49);go_enter func61,ntmps61;go_wp2_with fail
 all_goals go_ret
 all_goals refine⟨?_,hx0⟩
 all_goals simp [uF]
 all_goals (intros;omega)
end Go.Proofs.YtbfbabbcdochjaaGreatDoor.Mc
