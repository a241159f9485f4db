/- Several texts joined: Kib, Kic, Kid, Kie. -/
import Derived.Test.YtbfbabbcdochjaaGreatDoorRmpk
import Derived.Test.YtbfbabbcdochjaaGreatDoorRmam
set_option maxHeartbeats 4000000
set_option maxRecDepth 100000
open Go.Proofs.Tryz
namespace Go.Proofs.YtbfbabbcdochjaaGreatDoor.Mc
open Go.RowKit
theorem ahU (w:World) (base s g n kc q:Nat) (A:Option Addr) (b off cn cap:Nat) (c:List Ins) (pc:Int) (m:List Int) (h:eG w base s g n kc q A b off cn c pc m) (a y:Nat) (z:Int) (ha:a<n) (hy:y<n) (hnx:fC c pc n=some ⟨14,a,y,z⟩) (hright:bM ⟨14,a,y,z⟩ cn n=true):
 Calls prog 63 #[.pointer (some ⟨s,0,none⟩),.slice A cn cap,.map (some q)] w λe w'=>e=.returned (.tuple #[])/\Stepped w w' base s g n kc (bQ ⟨14,a,y,z⟩ pc m):=by
 refine G9 ?_;clear h hnx hright;intro hn1 hn2 hst hmem hmap lF mq mU hsg hls DW hlq hgs HX HN HO nQ HA HR wo ng;go_wp2_with fail;refine BX ?_;intro e w1 e1 hx1;replace e1:e=.returned (.tuple #[.agg (Ins.cells ⟨14,a,y,z⟩),.bool true]):=by rw [e1,HX.out];rfl
 subst e1;have hI1:=bN w1 77 (Ins.cells ⟨14,a,y,z⟩);have x1:=hx1.alloc (.cells (Ins.cells ⟨14,a,y,z⟩) 77);have hS1:=bX hst x1;have hM1:=hmem.ext x1;have j6:=hmap.ext x1;have l1:=hx1.size;clear hst hmem hmap hx1;go_upto_region 3 with(fail);generalize (w1.alloc (.cells (Ins.cells ⟨14,a,y,z⟩) 77))=W1 at hI1 x1 hS1 hM1 j6⊢;refine nP ?_;clear hI1 l1;intro ic hI1 l1 hi1 hj1;go_wp2_with fail;refine(fE ⟨14,a,y,z⟩ cn s pc 0 g 0 n kc m _ HN.out hn2 ng.out HO.out hS1 hM1.row).mono ?_;rintro e w2 ⟨e2,hx2⟩;replace e2:e=.returned (.int .i64 (-1)):=by rw [e2];rfl
 subst e2;refine Fp ?_;clear hI1 hS1 hM1 j6 x1 hx2 hi1 hj1;intro x2 hI2 hS2 hM2 uX hcI kW BK lI lS lG;have hal:a<m.length:=by have:=HN.out;omega
 have K9:(a:Int)<n:=by omega
 have hyl:y<m.length:=by have:=HN.out;omega
 have OO:(y:Int)<n:=by omega
 have Lu:=hM2.cell a hal;have Lx:=hM2.frozen;obtain⟨v,hv⟩:∃v,v=m[y]:=⟨_,rfl⟩;have xK:Hid (au v):=J w_;have HE:Hid (bQ ⟨14,a,y,z⟩ pc m=(pc+1,0,m.set a (bR (v==0)))):=J (by simp [bQ,cO,nM hyl,hv]);have HV:=J hv;clear hv;go_upto_region 17 with(fail);refine gM (λw3=>Ext w2 w3) [(0,2),(1,2),(2,1),(3,2),(4,2),(5,1),(6,2),(7,1),(8,2),(9,0),(10,2),(11,0)] ?_;refine gN ?_;refine Zi ?_
 (refine aC (λK hK=>?_);go_simp)
 go_wp2_with fail;refine(kV _ _).mono ?_;rintro e w3 ⟨rfl,rfl⟩;refine hK.out _ _ (λh=>h) ?_;clear hK K;refine gI ?_;have FM:q8 (w2.setCell ⟨g,a,none⟩ (.int .i32 (bR (v==0)))).drew s 49 pc (some ⟨g,0,none⟩) n kc 0:=aH.far hS2 (p:=⟨g,a,none⟩) hsg (.int .i32 (bR (v==0)));have Aq:eB (w2.setCell ⟨g,a,none⟩ (.int .i32 (bR (v==0)))).drew base g n kc (m.set a (bR (v==0))):=(hM2.set a hal (bR (v==0))).ext ((kR _ _).drew);have hk3:Kept (λi=>i=s∨i=g) w (w2.setCell ⟨g,a,none⟩ (.int .i32 (bR (v==0)))).drew:=(Kept.setCell (Kept.ext x2) _ _ (λ_=>.inr rfl)).drew;generalize (w2.setCell ⟨g,a,none⟩ (.int .i32 (bR (v==0)))).drew=W3 at FM Aq hk3⊢;exact Nn
theorem ahV (w:World) (base s g n kc q:Nat) (A:Option Addr) (b off cn cap:Nat) (c:List Ins) (pc:Int) (m:List Int) (h:eG w base s g n kc q A b off cn c pc m) (a y z p:Nat) (ha:a<n) (hp:p<n) (zN:lC ⟨15,a,y,z⟩ m=(p:Int)) (hnx:fC c pc n=some ⟨15,a,y,z⟩) (hright:bM ⟨15,a,y,z⟩ cn n=true):
 Calls prog 63 #[.pointer (some ⟨s,0,none⟩),.slice A cn cap,.map (some q)] w λe w'=>e=.returned (.tuple #[])/\Stepped w w' base s g n kc (bQ ⟨15,a,y,z⟩ pc m):=by
 obtain⟨hn,hn1,hn2,qG,hops,hst,hmem,hmap,hcA,hrow,hcn,lF,mq,mU,hsg⟩:=h;have hls:=hst.lt;have DW:=hmem.lt;have hlq:=hmap.lt;have hgs:¬g=s:=λe=>hsg e.symm;have HX:=J hnx;have HN:=J hn;have HO:=J qG;have nQ:=J hops;have HA:=J hcA;have HR:=J hrow;have wo:=J hcn;have ng:=J hright;have HF:=J zN;clear zN;clear hnx hn qG hops hcA hrow hcn hright;go_enter func63,ntmps63;go_wp2_with fail;refine BX ?_;intro e w1 e1 hx1;replace e1:e=.returned (.tuple #[.agg (Ins.cells ⟨15,a,y,z⟩),.bool true]):=by rw [e1,HX.out];rfl
 subst e1;have hI1:=bN w1 77 (Ins.cells ⟨15,a,y,z⟩);have x1:=hx1.alloc (.cells (Ins.cells ⟨15,a,y,z⟩) 77);have hS1:=bX hst x1;have hM1:=hmem.ext x1;have j6:=hmap.ext x1;have l1:=hx1.size;clear hst hmem hmap hx1;go_upto_region 3 with(fail);generalize (w1.alloc (.cells (Ins.cells ⟨15,a,y,z⟩) 77))=W1 at hI1 x1 hS1 hM1 j6⊢;refine nP ?_;clear hI1 l1;intro ic hI1 l1 hi1 hj1;go_wp2_with fail;refine(fE ⟨15,a,y,z⟩ cn s pc 0 g 0 n kc m _ HN.out hn2 ng.out HO.out hS1 hM1.row).mono ?_;rintro e w2 ⟨e2,hx2⟩;replace e2:e=.returned (.int .i64 (p)):=by rw [e2];rw [HF.out]
 subst e2;refine Fp ?_;clear hI1 hS1 hM1 j6 x1 hx2 hi1 hj1;intro x2 hI2 hS2 hM2 uX hcI kW BK lI lS lG;have hal:a<m.length:=by have:=HN.out;omega
 have K9:(a:Int)<n:=by omega
 have hpl:p<m.length:=by have:=HN.out;omega
 have hpI:(p:Int)<n:=by omega
 have Lu:=hM2.cell a hal;have Lx:=hM2.frozen;obtain⟨v,hv⟩:∃v,v=m[p]:=⟨_,rfl⟩;have xK:Hid (au v):=J (by rw [hv];exact HO.out _ (List.getElem_mem hpl));have HE:Hid (bQ ⟨15,a,y,z⟩ pc m=(pc+1,0,m.set a v)):=J (by simp [bQ,cO,HF.out,nM hpl,hv]);have HV:=J hv;clear hv;go_upto_region 19 with(fail);refine gM (λw3=>Ext w2 w3) [(0,2),(1,2),(2,1),(3,2),(4,2),(5,2),(6,1),(7,2),(8,0)] ?_;refine gN ?_
 (repeat first|refine cu ?_|refine dL (Kept.drew (kR _ _)) (by intro w1 hS;have d1:=bC (bX hI2 hS);have d2:=(hM2.ext hS).cell p hpl;rw [<-HV.out]at d2;exact gX) ?_|refine dK (Kept.drew (kR _ _)) ?_)
 exact aiY
theorem ahW (w:World) (base s g n kc q:Nat) (A:Option Addr) (b off cn cap:Nat) (c:List Ins) (pc:Int) (m:List Int) (h:eG w base s g n kc q A b off cn c pc m) (x y z a:Nat) (ha:a<n) (hz:z<n) (zN:lC ⟨16,x,y,z⟩ m=(a:Int)) (hnx:fC c pc n=some ⟨16,x,y,z⟩) (hright:bM ⟨16,x,y,z⟩ cn n=true):
 Calls prog 63 #[.pointer (some ⟨s,0,none⟩),.slice A cn cap,.map (some q)] w λe w'=>e=.returned (.tuple #[])/\Stepped w w' base s g n kc (bQ ⟨16,x,y,z⟩ pc m):=by
 obtain⟨hn,hn1,hn2,qG,hops,hst,hmem,hmap,hcA,hrow,hcn,lF,mq,mU,hsg⟩:=h;have hls:=hst.lt;have DW:=hmem.lt;have hlq:=hmap.lt;have hgs:¬g=s:=λe=>hsg e.symm;have HX:=J hnx;have HN:=J hn;have HO:=J qG;have nQ:=J hops;have HA:=J hcA;have HR:=J hrow;have wo:=J hcn;have ng:=J hright;have HF:=J zN;clear zN;clear hnx hn qG hops hcA hrow hcn hright;go_enter func63,ntmps63;go_wp2_with fail;refine BX ?_;intro e w1 e1 hx1;replace e1:e=.returned (.tuple #[.agg (Ins.cells ⟨16,x,y,z⟩),.bool true]):=by rw [e1,HX.out];rfl
 subst e1;have hI1:=bN w1 77 (Ins.cells ⟨16,x,y,z⟩);have x1:=hx1.alloc (.cells (Ins.cells ⟨16,x,y,z⟩) 77);have hS1:=bX hst x1;have hM1:=hmem.ext x1;have j6:=hmap.ext x1;have l1:=hx1.size;clear hst hmem hmap hx1;go_upto_region 3 with(fail);generalize (w1.alloc (.cells (Ins.cells ⟨16,x,y,z⟩) 77))=W1 at hI1 x1 hS1 hM1 j6⊢;refine nP ?_;clear hI1 l1;intro ic hI1 l1 hi1 hj1;go_wp2_with fail;refine(fE ⟨16,x,y,z⟩ cn s pc 0 g 0 n kc m _ HN.out hn2 ng.out HO.out hS1 hM1.row).mono ?_;rintro e w2 ⟨e2,hx2⟩;replace e2:e=.returned (.int .i64 (a)):=by rw [e2];rw [HF.out]
 subst e2;refine Fp ?_;clear hI1 hS1 hM1 j6 x1 hx2 hi1 hj1;intro x2 hI2 hS2 hM2 uX hcI kW BK lI lS lG;have hal:a<m.length:=by have:=HN.out;omega
 have K9:(a:Int)<n:=by omega
 have hzl:z<m.length:=by have:=HN.out;omega
 have OP:(z:Int)<n:=by omega
 have Lu:=hM2.cell a hal;have Lx:=hM2.frozen;obtain⟨v,hv⟩:∃v,v=m[z]:=⟨_,rfl⟩;have xK:Hid (au v):=J (by rw [hv];exact HO.out _ (List.getElem_mem hzl));have HE:Hid (bQ ⟨16,x,y,z⟩ pc m=(pc+1,0,m.set a v)):=J (by simp [bQ,cO,HF.out,nM hzl,hv]);have hcZ:=hM2.cell z hzl;rw [<-hv]at hcZ;have HV:=J hv;clear hv;go_upto_region 32 with(fail);have FM:=aH.far hS2 (p:=⟨g,a,none⟩) hsg (.int .i32 (v));have Aq:=hM2.set a hal (v);have hk3:Kept (λi=>i=s∨i=g) w (w2.setCell ⟨g,a,none⟩ (.int .i32 (v))):=Kept.setCell (Kept.ext x2) _ _ (λ_=>.inr rfl);generalize w2.setCell ⟨g,a,none⟩ (.int .i32 v)=W3 at FM Aq hk3⊢;exact Nn
open Go.RowKit
theorem ahX (w:World) (base s g n kc q:Nat) (A:Option Addr) (b off cn cap:Nat) (c:List Ins) (pc:Int) (m:List Int) (h:eG w base s g n kc q A b off cn c pc m) (a:Nat) (y z:Int) (ha:a<n) (hy1:-2147483648<=y) (hy2:y<=2147483647) (hz1:-2147483648<=z) (hz2:z<=2147483647) (hnx:fC c pc n=some ⟨17,a,y,z⟩) (hright:bM ⟨17,a,y,z⟩ cn n=true):
 Calls prog 63 #[.pointer (some ⟨s,0,none⟩),.slice A cn cap,.map (some q)] w λe w'=>e=.returned (.tuple #[])/\Stepped w w' base s g n kc (bQ ⟨17,a,y,z⟩ pc m):=by
 refine G9 ?_;clear h hnx hright;intro hn1 hn2 hst hmem hmap lF mq mU hsg hls DW hlq hgs HX HN HO nQ HA HR wo ng;go_wp2_with fail;refine BX ?_;intro e w1 e1 hx1;replace e1:e=.returned (.tuple #[.agg (Ins.cells ⟨17,a,y,z⟩),.bool true]):=by rw [e1,HX.out];rfl
 subst e1;have hI1:=bN w1 77 (Ins.cells ⟨17,a,y,z⟩);have x1:=hx1.alloc (.cells (Ins.cells ⟨17,a,y,z⟩) 77);have hS1:=bX hst x1;have hM1:=hmem.ext x1;have j6:=hmap.ext x1;have l1:=hx1.size;clear hst hmem hmap hx1;go_upto_region 3 with(fail);generalize (w1.alloc (.cells (Ins.cells ⟨17,a,y,z⟩) 77))=W1 at hI1 x1 hS1 hM1 j6⊢;refine nP ?_;clear hI1 l1;intro ic hI1 l1 hi1 hj1;go_wp2_with fail;refine(fE ⟨17,a,y,z⟩ cn s pc 0 g 0 n kc m _ HN.out hn2 ng.out HO.out hS1 hM1.row).mono ?_;rintro e w2 ⟨e2,hx2⟩;replace e2:e=.returned (.int .i64 (-1)):=by rw [e2];rfl
 subst e2;refine Fp ?_;clear hI1 hS1 hM1 j6 x1 hx2 hi1 hj1;intro x2 hI2 hS2 hM2 uX hcI kW BK lI lS lG;have hal:a<m.length:=by have:=HN.out;omega
 have K9:(a:Int)<n:=by omega
 have Lu:=hM2.cell a hal;have Lx:=hM2.frozen;obtain⟨v,hv⟩:∃v,v=m[a]:=⟨_,rfl⟩;have xK:Hid (au v):=J (by rw [hv];exact HO.out _ (List.getElem_mem hal));have hwy:IntKind.i32.wrap y=y:=by rw [IntKind.wrap_i32];omega
 have hwz:IntKind.i32.wrap z=z:=by rw [IntKind.wrap_i32];omega
 have HE:Hid (bQ ⟨17,a,y,z⟩ pc m=(pc+1,0,m.set a (min (max v y) z))):=J (by simp [bQ,cO,nM hal,hv]);have HV:=J hv;clear hv;go_upto_region 23 with(fail);refine gM (λw3=>Ext w2 w3) [(0,2),(1,2),(2,1),(3,2),(4,2),(5,1),(6,2),(7,1),(8,2),(9,1),(10,1),(11,1),(12,2),(13,1),(14,1),(15,1),(16,2),(17,0)] ?_;refine gN ?_
 (repeat first|refine cu ?_|refine dL (Kept.drew (kR _ _)) (by intro w1 hS;have d1:=bC (bX hI2 hS);have d2:=(hM2.ext hS).cell a hal;rw [<-HV.out]at d2;exact gX) ?_|refine dK (Kept.drew (kR _ _)) ?_)
 refine gI ?_;have FM:q8 (w2.setCell ⟨g,a,none⟩ (.int .i32 (min (max v y) z))).drew s 49 pc (some ⟨g,0,none⟩) n kc 0:=aH.far hS2 (p:=⟨g,a,none⟩) hsg (.int .i32 (min (max v y) z));have Aq:eB (w2.setCell ⟨g,a,none⟩ (.int .i32 (min (max v y) z))).drew base g n kc (m.set a (min (max v y) z)):=(hM2.set a hal (min (max v y) z)).ext ((kR _ _).drew);have hk3:Kept (λi=>i=s∨i=g) w (w2.setCell ⟨g,a,none⟩ (.int .i32 (min (max v y) z))).drew:=(Kept.setCell (Kept.ext x2) _ _ (λ_=>.inr rfl)).drew;generalize (w2.setCell ⟨g,a,none⟩ (.int .i32 (min (max v y) z))).drew=W3 at FM Aq hk3⊢;exact Nn
theorem ahY (w:World) (base s g n kc q:Nat) (A:Option Addr) (b off cn cap:Nat) (c:List Ins) (pc:Int) (m:List Int) (h:eG w base s g n kc q A b off cn c pc m) (a y:Nat) (z:Int) (ha:a<n) (hy:y<n) (_amn:0<=z) (_amo:z<=2147483647) (hnx:fC c pc n=some ⟨18,a,y,z⟩) (hright:bM ⟨18,a,y,z⟩ cn n=true):
 Calls prog 63 #[.pointer (some ⟨s,0,none⟩),.slice A cn cap,.map (some q)] w λe w'=>e=.returned (.tuple #[])/\Stepped w w' base s g n kc (bQ ⟨18,a,y,z⟩ pc m):=by
 refine G9 ?_;clear h hnx hright;intro hn1 hn2 hst hmem hmap lF mq mU hsg hls DW hlq hgs HX HN HO nQ HA HR wo ng;go_wp2_with fail;refine BX ?_;intro e w1 e1 hx1;replace e1:e=.returned (.tuple #[.agg (Ins.cells ⟨18,a,y,z⟩),.bool true]):=by rw [e1,HX.out];rfl
 subst e1;have hI1:=bN w1 77 (Ins.cells ⟨18,a,y,z⟩);have x1:=hx1.alloc (.cells (Ins.cells ⟨18,a,y,z⟩) 77);have hS1:=bX hst x1;have hM1:=hmem.ext x1;have j6:=hmap.ext x1;have l1:=hx1.size;clear hst hmem hmap hx1;go_upto_region 3 with(fail);generalize (w1.alloc (.cells (Ins.cells ⟨18,a,y,z⟩) 77))=W1 at hI1 x1 hS1 hM1 j6⊢;refine nP ?_;clear hI1 l1;intro ic hI1 l1 hi1 hj1;go_wp2_with fail;refine(fE ⟨18,a,y,z⟩ cn s pc 0 g 0 n kc m _ HN.out hn2 ng.out HO.out hS1 hM1.row).mono ?_;rintro e w2 ⟨e2,hx2⟩;replace e2:e=.returned (.int .i64 (-1)):=by rw [e2];rfl
 subst e2;refine Fp ?_;clear hI1 hS1 hM1 j6 x1 hx2 hi1 hj1;intro x2 hI2 hS2 hM2 uX hcI kW BK lI lS lG;have hal:a<m.length:=by have:=HN.out;omega
 have K9:(a:Int)<n:=by omega
 have hyl:y<m.length:=by have:=HN.out;omega
 have OO:(y:Int)<n:=by omega
 have Lu:=hM2.cell a hal;have Lx:=hM2.frozen;obtain⟨v,hv⟩:∃v,v=m[y]:=⟨_,rfl⟩;have xK:Hid (au v):=J w_;have HE:Hid (bQ ⟨18,a,y,z⟩ pc m=(pc+1,0,m.set a (bR (decide (0<=v)&&decide (v<z))))):=J (by simp [bQ,cO,nM hyl,hv]);have HV:=J hv;obtain⟨hv1,hv2⟩:-2147483648<=v/\v<=2147483647:=xK.out;have hwv:IntKind.i64.wrap v=v:=by rw [IntKind.wrap_i64];omega
 clear hv;go_upto_region 25 with(fail)
 by_cases hv0:0<=v
 ·have b0:decide (0<=v)=true:=by simpa using hv0
  refine gM (λw3=>Ext w2 w3) [(0,2),(1,2),(2,1),(3,2),(4,2),(5,1),(6,2),(7,1),(8,2),(9,2),(10,2),(11,2),(12,1),(13,2),(14,1),(15,1),(16,2),(17,1),(18,2),(19,2),(20,0),(21,2),(22,0)] ?_;refine gN ?_;refine Zi ?_
  (refine aC (λK hK=>?_);go_simp)
  go_wp2_with fail;refine(kV _ _).mono ?_;rintro e w3 ⟨rfl,rfl⟩;refine hK.out _ _ (λh=>h) ?_;clear hK K;refine gI ?_;have ev:bR (decide (v<z))=bR (decide (0<=v)&&decide (v<z)):=by rw [b0];rfl
  exact aiU
 ·have b0:decide (0<=v)=false:=by simpa using hv0
  refine gM (λw3=>Ext w2 w3) [(0,2),(1,2),(2,1),(3,2),(4,2),(5,1),(6,2),(7,1),(8,2),(9,2),(10,2),(11,2),(12,1),(13,2),(14,1),(15,1),(16,2),(17,1),(18,2),(19,2),(20,0),(21,2),(22,0)] ?_;refine gN ?_;refine Zi ?_
  (refine aC (λK hK=>?_);go_simp)
  go_wp2_with fail;refine(kV _ _).mono ?_;rintro e w3 ⟨rfl,rfl⟩;refine hK.out _ _ (λh=>h) ?_;clear hK K;refine gI ?_;have ev:bR false=bR (decide (0<=v)&&decide (v<z)):=by rw [b0];rfl
  exact aiU
open Go.RowKit
theorem ahZ (w:World) (base s g n kc q:Nat) (A:Option Addr) (b off cn cap:Nat) (c:List Ins) (pc:Int) (m:List Int) (h:eG w base s g n kc q A b off cn c pc m) (a:Nat) (y z:Int) (hnx:fC c pc n=some ⟨19,a,y,z⟩) (hright:bM ⟨19,a,y,z⟩ cn n=true):
 Calls prog 63 #[.pointer (some ⟨s,0,none⟩),.slice A cn cap,.map (some q)] w λe w'=>e=.returned (.tuple #[])/\Stepped w w' base s g n kc (bQ ⟨19,a,y,z⟩ pc m):=by
 refine G9 ?_;clear h hnx hright;intro hn1 hn2 hst hmem hmap lF mq mU hsg hls DW hlq hgs HX HN HO nQ HA HR wo ng;go_wp2_with fail;refine BX ?_;intro e w1 e1 hx1;replace e1:e=.returned (.tuple #[.agg (Ins.cells ⟨19,a,y,z⟩),.bool true]):=by rw [e1,HX.out];rfl
 subst e1;have hI1:=bN w1 77 (Ins.cells ⟨19,a,y,z⟩);have x1:=hx1.alloc (.cells (Ins.cells ⟨19,a,y,z⟩) 77);have hS1:=bX hst x1;have hM1:=hmem.ext x1;have j6:=hmap.ext x1;have l1:=hx1.size;clear hst hmem hmap hx1;go_upto_region 3 with(fail);generalize (w1.alloc (.cells (Ins.cells ⟨19,a,y,z⟩) 77))=W1 at hI1 x1 hS1 hM1 j6⊢;refine nP ?_;clear hI1 l1;intro ic hI1 l1 hi1 hj1;go_wp2_with fail;refine(fE ⟨19,a,y,z⟩ cn s pc 0 g 0 n kc m _ HN.out hn2 ng.out HO.out hS1 hM1.row).mono ?_;rintro e w2 ⟨e2,hx2⟩;replace e2:e=.returned (.int .i64 (-1)):=by rw [e2];rfl
 subst e2;refine Fp ?_;clear hI1 hS1 hM1 j6 x1 hx2 hi1 hj1;intro x2 hI2 hS2 hM2 uX hcI kW BK lI lS lG;have HE:Hid (bQ ⟨19,a,y,z⟩ pc m=((a:Int),0,m)):=J (by simp [bQ]);have FM:=hS2;have Aq:=hM2;have hk3:Kept (λi=>i=s∨i=g) w w2:=Kept.ext x2;exact Nn
theorem aia (w:World) (base s g n kc q:Nat) (A:Option Addr) (b off cn cap:Nat) (c:List Ins) (pc:Int) (m:List Int) (h:eG w base s g n kc q A b off cn c pc m) (a y:Nat) (z:Int) (hy:y<n) (hnx:fC c pc n=some ⟨20,a,y,z⟩) (hright:bM ⟨20,a,y,z⟩ cn n=true):
 Calls prog 63 #[.pointer (some ⟨s,0,none⟩),.slice A cn cap,.map (some q)] w λe w'=>e=.returned (.tuple #[])/\Stepped w w' base s g n kc (bQ ⟨20,a,y,z⟩ pc m):=by
 refine G9 ?_;clear h hnx hright;intro hn1 hn2 hst hmem hmap lF mq mU hsg hls DW hlq hgs HX HN HO nQ HA HR wo ng;go_wp2_with fail;refine BX ?_;intro e w1 e1 hx1;replace e1:e=.returned (.tuple #[.agg (Ins.cells ⟨20,a,y,z⟩),.bool true]):=by rw [e1,HX.out];rfl
 subst e1;have hI1:=bN w1 77 (Ins.cells ⟨20,a,y,z⟩);have x1:=hx1.alloc (.cells (Ins.cells ⟨20,a,y,z⟩) 77);have hS1:=bX hst x1;have hM1:=hmem.ext x1;have j6:=hmap.ext x1;have l1:=hx1.size;clear hst hmem hmap hx1;go_upto_region 3 with(fail);generalize (w1.alloc (.cells (Ins.cells ⟨20,a,y,z⟩) 77))=W1 at hI1 x1 hS1 hM1 j6⊢;refine nP ?_;clear hI1 l1;intro ic hI1 l1 hi1 hj1;go_wp2_with fail;refine(fE ⟨20,a,y,z⟩ cn s pc 0 g 0 n kc m _ HN.out hn2 ng.out HO.out hS1 hM1.row).mono ?_;rintro e w2 ⟨e2,hx2⟩;replace e2:e=.returned (.int .i64 (-1)):=by rw [e2];rfl
 subst e2;refine Fp ?_;clear hI1 hS1 hM1 j6 x1 hx2 hi1 hj1;intro x2 hI2 hS2 hM2 uX hcI kW BK lI lS lG;have hyl:y<m.length:=by have:=HN.out;omega
 have OO:(y:Int)<n:=by omega
 obtain⟨v,hv⟩:∃v,v=m[y]:=⟨_,rfl⟩;have xK:Hid (au v):=J w_;have HV:=J hv
 by_cases hz:v=0
 ·have b0:(v==0)=true:=by simp [hz]
  have HE:Hid (bQ ⟨20,a,y,z⟩ pc m=((a:Int),0,m)):=J abJ;exact ace
 ·have b0:(v==0)=false:=by simp [hz]
  have HE:Hid (bQ ⟨20,a,y,z⟩ pc m=(pc+1,0,m)):=J abJ;exact ace
theorem aib (w:World) (base s g n kc q:Nat) (A:Option Addr) (b off cn cap:Nat) (c:List Ins) (pc:Int) (m:List Int) (h:eG w base s g n kc q A b off cn c pc m) (a y:Nat) (z:Int) (hy:y<n) (hnx:fC c pc n=some ⟨21,a,y,z⟩) (hright:bM ⟨21,a,y,z⟩ cn n=true):
 Calls prog 63 #[.pointer (some ⟨s,0,none⟩),.slice A cn cap,.map (some q)] w λe w'=>e=.returned (.tuple #[])/\Stepped w w' base s g n kc (bQ ⟨21,a,y,z⟩ pc m):=by
 refine G9 ?_;clear h hnx hright;intro hn1 hn2 hst hmem hmap lF mq mU hsg hls DW hlq hgs HX HN HO nQ HA HR wo ng;go_wp2_with fail;refine BX ?_;intro e w1 e1 hx1;replace e1:e=.returned (.tuple #[.agg (Ins.cells ⟨21,a,y,z⟩),.bool true]):=by rw [e1,HX.out];rfl
 subst e1;have hI1:=bN w1 77 (Ins.cells ⟨21,a,y,z⟩);have x1:=hx1.alloc (.cells (Ins.cells ⟨21,a,y,z⟩) 77);have hS1:=bX hst x1;have hM1:=hmem.ext x1;have j6:=hmap.ext x1;have l1:=hx1.size;clear hst hmem hmap hx1;go_upto_region 3 with(fail);generalize (w1.alloc (.cells (Ins.cells ⟨21,a,y,z⟩) 77))=W1 at hI1 x1 hS1 hM1 j6⊢;refine nP ?_;clear hI1 l1;intro ic hI1 l1 hi1 hj1;go_wp2_with fail;refine(fE ⟨21,a,y,z⟩ cn s pc 0 g 0 n kc m _ HN.out hn2 ng.out HO.out hS1 hM1.row).mono ?_;rintro e w2 ⟨e2,hx2⟩;replace e2:e=.returned (.int .i64 (-1)):=by rw [e2];rfl
 subst e2;refine Fp ?_;clear hI1 hS1 hM1 j6 x1 hx2 hi1 hj1;intro x2 hI2 hS2 hM2 uX hcI kW BK lI lS lG;have hyl:y<m.length:=by have:=HN.out;omega
 have OO:(y:Int)<n:=by omega
 obtain⟨v,hv⟩:∃v,v=m[y]:=⟨_,rfl⟩;have xK:Hid (au v):=J w_;have HV:=J hv
 by_cases hz:v=0
 ·have b0:(v==0)=true:=by simp [hz]
  have HE:Hid (bQ ⟨21,a,y,z⟩ pc m=(pc+1,0,m)):=J abJ;exact ace
 ·have b0:(v==0)=false:=by simp [hz]
  have HE:Hid (bQ ⟨21,a,y,z⟩ pc m=((a:Int),0,m)):=J abJ;exact ace
open Go.RowKit
theorem alu (w:World) (base s g n kc q:Nat) (A:Option Addr) (b off cn cap:Nat) (c:List Ins) (pc:Int) (m:List Int) (h:eG w base s g n kc q A b off cn c pc m) (a y z:Nat) (ha:a<n) (hy:y<n) (hz:z<n) (hnx:fC c pc n=some ⟨3,a,y,z⟩) (hright:bM ⟨3,a,y,z⟩ cn n=true):
 Calls prog 63 #[.pointer (some ⟨s,0,none⟩),.slice A cn cap,.map (some q)] w λe w'=>e=.returned (.tuple #[])/\Stepped w w' base s g n kc (bQ ⟨3,a,y,z⟩ pc m):=by
 refine G9 ?_;clear h hnx hright;intro hn1 hn2 hst hmem hmap lF mq mU hsg hls DW hlq hgs HX HN HO nQ HA HR wo ng;go_wp2_with fail;refine BX ?_;intro e w1 e1 hx1;replace e1:e=.returned (.tuple #[.agg (Ins.cells ⟨3,a,y,z⟩),.bool true]):=by rw [e1,HX.out];rfl
 subst e1;have hI1:=bN w1 77 (Ins.cells ⟨3,a,y,z⟩);have x1:=hx1.alloc (.cells (Ins.cells ⟨3,a,y,z⟩) 77);have hS1:=bX hst x1;have hM1:=hmem.ext x1;have j6:=hmap.ext x1;have l1:=hx1.size;clear hst hmem hmap hx1;go_upto_region 3 with(fail);generalize (w1.alloc (.cells (Ins.cells ⟨3,a,y,z⟩) 77))=W1 at hI1 x1 hS1 hM1 j6⊢;refine nP ?_;clear hI1 l1;intro ic hI1 l1 hi1 hj1;go_wp2_with fail;refine(fE ⟨3,a,y,z⟩ cn s pc 0 g 0 n kc m _ HN.out hn2 ng.out HO.out hS1 hM1.row).mono ?_;rintro e w2 ⟨e2,hx2⟩;replace e2:e=.returned (.int .i64 (-1)):=by rw [e2];rfl
 subst e2;refine Fp ?_;clear hI1 hS1 hM1 j6 x1 hx2 hi1 hj1;intro x2 hI2 hS2 hM2 uX hcI kW BK lI lS lG;have hal:a<m.length:=by have:=HN.out;omega
 have K9:(a:Int)<n:=by omega
 have hyl:y<m.length:=by have:=HN.out;omega
 have OO:(y:Int)<n:=by omega
 have hzl:z<m.length:=by have:=HN.out;omega
 have OP:(z:Int)<n:=by omega
 have Lu:=hM2.cell a hal;have Lx:=hM2.frozen;obtain⟨v,hv⟩:∃v,v=m[y]:=⟨_,rfl⟩;have xK:Hid (au v):=J w_;obtain⟨u,hu⟩:∃u,u=m[z]:=⟨_,rfl⟩;have Fz:Hid (au u):=J EO;have HE:Hid (bQ ⟨3,a,y,z⟩ pc m=(pc+1,0,m.set a (gJ 3 v u))):=J EN;have HV:=J hv;have HU:=J hu;clear hv hu;go_upto_region 9 with(fail);refine Zn ?_
 (repeat first|refine cu ?_|refine dL (Kept.drew (kR _ _)) (by intro w1 hS;have d1:=bC (bX hI2 hS);have d2:=(hM2.ext hS).cell y hyl;rw [<-HV.out]at d2;have d3:=(hM2.ext hS).cell z hzl;rw [<-HU.out]at d3;have d4:=uw _ q 3 (.func (.func 100) #[] #[]) 0 (uX.ext hS) jf;exact gX) ?_|refine dK (Kept.drew (kR _ _)) ?_)
 (refine aC (λK hK=>?_);go_simp)
 go_wp2_with fail;refine(alD v u xK.out Fz.out _).mono ?_;rintro e w3 ⟨rfl,rfl⟩;refine hK.out _ _ (λh=>h) ?_;clear hK K;obtain⟨t,ht⟩:∃t,t=gJ 3 v u:=⟨_,rfl⟩;exact EU
theorem alv (w:World) (base s g n kc q:Nat) (A:Option Addr) (b off cn cap:Nat) (c:List Ins) (pc:Int) (m:List Int) (h:eG w base s g n kc q A b off cn c pc m) (a y z:Nat) (ha:a<n) (hy:y<n) (hz:z<n) (hnx:fC c pc n=some ⟨4,a,y,z⟩) (hright:bM ⟨4,a,y,z⟩ cn n=true):
 Calls prog 63 #[.pointer (some ⟨s,0,none⟩),.slice A cn cap,.map (some q)] w λe w'=>e=.returned (.tuple #[])/\Stepped w w' base s g n kc (bQ ⟨4,a,y,z⟩ pc m):=by
 refine G9 ?_;clear h hnx hright;intro hn1 hn2 hst hmem hmap lF mq mU hsg hls DW hlq hgs HX HN HO nQ HA HR wo ng;go_wp2_with fail;refine BX ?_;intro e w1 e1 hx1;replace e1:e=.returned (.tuple #[.agg (Ins.cells ⟨4,a,y,z⟩),.bool true]):=by rw [e1,HX.out];rfl
 subst e1;have hI1:=bN w1 77 (Ins.cells ⟨4,a,y,z⟩);have x1:=hx1.alloc (.cells (Ins.cells ⟨4,a,y,z⟩) 77);have hS1:=bX hst x1;have hM1:=hmem.ext x1;have j6:=hmap.ext x1;have l1:=hx1.size;clear hst hmem hmap hx1;go_upto_region 3 with(fail);generalize (w1.alloc (.cells (Ins.cells ⟨4,a,y,z⟩) 77))=W1 at hI1 x1 hS1 hM1 j6⊢;refine nP ?_;clear hI1 l1;intro ic hI1 l1 hi1 hj1;go_wp2_with fail;refine(fE ⟨4,a,y,z⟩ cn s pc 0 g 0 n kc m _ HN.out hn2 ng.out HO.out hS1 hM1.row).mono ?_;rintro e w2 ⟨e2,hx2⟩;replace e2:e=.returned (.int .i64 (-1)):=by rw [e2];rfl
 subst e2;refine Fp ?_;clear hI1 hS1 hM1 j6 x1 hx2 hi1 hj1;intro x2 hI2 hS2 hM2 uX hcI kW BK lI lS lG;have hal:a<m.length:=by have:=HN.out;omega
 have K9:(a:Int)<n:=by omega
 have hyl:y<m.length:=by have:=HN.out;omega
 have OO:(y:Int)<n:=by omega
 have hzl:z<m.length:=by have:=HN.out;omega
 have OP:(z:Int)<n:=by omega
 have Lu:=hM2.cell a hal;have Lx:=hM2.frozen;obtain⟨v,hv⟩:∃v,v=m[y]:=⟨_,rfl⟩;have xK:Hid (au v):=J w_;obtain⟨u,hu⟩:∃u,u=m[z]:=⟨_,rfl⟩;have Fz:Hid (au u):=J EO;have HE:Hid (bQ ⟨4,a,y,z⟩ pc m=(pc+1,0,m.set a (gJ 4 v u))):=J EN;have HV:=J hv;have HU:=J hu;clear hv hu;go_upto_region 9 with(fail);refine Zn ?_
 (repeat first|refine cu ?_|refine dL (Kept.drew (kR _ _)) (by intro w1 hS;have d1:=bC (bX hI2 hS);have d2:=(hM2.ext hS).cell y hyl;rw [<-HV.out]at d2;have d3:=(hM2.ext hS).cell z hzl;rw [<-HU.out]at d3;have d4:=uw _ q 4 (.func (.func 101) #[] #[]) 1 (uX.ext hS) jf;exact gX) ?_|refine dK (Kept.drew (kR _ _)) ?_)
 (refine aC (λK hK=>?_);go_simp)
 go_wp2_with fail;refine(alE v u xK.out Fz.out _).mono ?_;rintro e w3 ⟨rfl,rfl⟩;refine hK.out _ _ (λh=>h) ?_;clear hK K;obtain⟨t,ht⟩:∃t,t=gJ 4 v u:=⟨_,rfl⟩;exact EU
theorem alx (w:World) (base s g n kc q:Nat) (A:Option Addr) (b off cn cap:Nat) (c:List Ins) (pc:Int) (m:List Int) (h:eG w base s g n kc q A b off cn c pc m) (a y z:Nat) (ha:a<n) (hy:y<n) (hz:z<n) (hnx:fC c pc n=some ⟨5,a,y,z⟩) (hright:bM ⟨5,a,y,z⟩ cn n=true):
 Calls prog 63 #[.pointer (some ⟨s,0,none⟩),.slice A cn cap,.map (some q)] w λe w'=>e=.returned (.tuple #[])/\Stepped w w' base s g n kc (bQ ⟨5,a,y,z⟩ pc m):=by
 refine G9 ?_;clear h hnx hright;intro hn1 hn2 hst hmem hmap lF mq mU hsg hls DW hlq hgs HX HN HO nQ HA HR wo ng;go_wp2_with fail;refine BX ?_;intro e w1 e1 hx1;replace e1:e=.returned (.tuple #[.agg (Ins.cells ⟨5,a,y,z⟩),.bool true]):=by rw [e1,HX.out];rfl
 subst e1;have hI1:=bN w1 77 (Ins.cells ⟨5,a,y,z⟩);have x1:=hx1.alloc (.cells (Ins.cells ⟨5,a,y,z⟩) 77);have hS1:=bX hst x1;have hM1:=hmem.ext x1;have j6:=hmap.ext x1;have l1:=hx1.size;clear hst hmem hmap hx1;go_upto_region 3 with(fail);generalize (w1.alloc (.cells (Ins.cells ⟨5,a,y,z⟩) 77))=W1 at hI1 x1 hS1 hM1 j6⊢;refine nP ?_;clear hI1 l1;intro ic hI1 l1 hi1 hj1;go_wp2_with fail;refine(fE ⟨5,a,y,z⟩ cn s pc 0 g 0 n kc m _ HN.out hn2 ng.out HO.out hS1 hM1.row).mono ?_;rintro e w2 ⟨e2,hx2⟩;replace e2:e=.returned (.int .i64 (-1)):=by rw [e2];rfl
 subst e2;refine Fp ?_;clear hI1 hS1 hM1 j6 x1 hx2 hi1 hj1;intro x2 hI2 hS2 hM2 uX hcI kW BK lI lS lG;have hal:a<m.length:=by have:=HN.out;omega
 have K9:(a:Int)<n:=by omega
 have hyl:y<m.length:=by have:=HN.out;omega
 have OO:(y:Int)<n:=by omega
 have hzl:z<m.length:=by have:=HN.out;omega
 have OP:(z:Int)<n:=by omega
 have Lu:=hM2.cell a hal;have Lx:=hM2.frozen;obtain⟨v,hv⟩:∃v,v=m[y]:=⟨_,rfl⟩;have xK:Hid (au v):=J w_;obtain⟨u,hu⟩:∃u,u=m[z]:=⟨_,rfl⟩;have Fz:Hid (au u):=J EO;have HE:Hid (bQ ⟨5,a,y,z⟩ pc m=(pc+1,0,m.set a (gJ 5 v u))):=J EN;have HV:=J hv;have HU:=J hu;clear hv hu;go_upto_region 9 with(fail);refine Zn ?_
 (repeat first|refine cu ?_|refine dL (Kept.drew (kR _ _)) (by intro w1 hS;have d1:=bC (bX hI2 hS);have d2:=(hM2.ext hS).cell y hyl;rw [<-HV.out]at d2;have d3:=(hM2.ext hS).cell z hzl;rw [<-HU.out]at d3;have d4:=uw _ q 5 (.func (.func 102) #[] #[]) 2 (uX.ext hS) jf;exact gX) ?_|refine dK (Kept.drew (kR _ _)) ?_)
 (refine aC (λK hK=>?_);go_simp)
 go_wp2_with fail;refine(alF v u xK.out Fz.out _).mono ?_;rintro e w3 ⟨rfl,rfl⟩;refine hK.out _ _ (λh=>h) ?_;clear hK K;obtain⟨t,ht⟩:∃t,t=gJ 5 v u:=⟨_,rfl⟩;exact EU
theorem aly (w:World) (base s g n kc q:Nat) (A:Option Addr) (b off cn cap:Nat) (c:List Ins) (pc:Int) (m:List Int) (h:eG w base s g n kc q A b off cn c pc m) (a y z:Nat) (ha:a<n) (hy:y<n) (hz:z<n) (hnx:fC c pc n=some ⟨6,a,y,z⟩) (hright:bM ⟨6,a,y,z⟩ cn n=true):
 Calls prog 63 #[.pointer (some ⟨s,0,none⟩),.slice A cn cap,.map (some q)] w λe w'=>e=.returned (.tuple #[])/\Stepped w w' base s g n kc (bQ ⟨6,a,y,z⟩ pc m):=by
 refine G9 ?_;clear h hnx hright;intro hn1 hn2 hst hmem hmap lF mq mU hsg hls DW hlq hgs HX HN HO nQ HA HR wo ng;go_wp2_with fail;refine BX ?_;intro e w1 e1 hx1;replace e1:e=.returned (.tuple #[.agg (Ins.cells ⟨6,a,y,z⟩),.bool true]):=by rw [e1,HX.out];rfl
 subst e1;have hI1:=bN w1 77 (Ins.cells ⟨6,a,y,z⟩);have x1:=hx1.alloc (.cells (Ins.cells ⟨6,a,y,z⟩) 77);have hS1:=bX hst x1;have hM1:=hmem.ext x1;have j6:=hmap.ext x1;have l1:=hx1.size;clear hst hmem hmap hx1;go_upto_region 3 with(fail);generalize (w1.alloc (.cells (Ins.cells ⟨6,a,y,z⟩) 77))=W1 at hI1 x1 hS1 hM1 j6⊢;refine nP ?_;clear hI1 l1;intro ic hI1 l1 hi1 hj1;go_wp2_with fail;refine(fE ⟨6,a,y,z⟩ cn s pc 0 g 0 n kc m _ HN.out hn2 ng.out HO.out hS1 hM1.row).mono ?_;rintro e w2 ⟨e2,hx2⟩;replace e2:e=.returned (.int .i64 (-1)):=by rw [e2];rfl
 subst e2;refine Fp ?_;clear hI1 hS1 hM1 j6 x1 hx2 hi1 hj1;intro x2 hI2 hS2 hM2 uX hcI kW BK lI lS lG;have hal:a<m.length:=by have:=HN.out;omega
 have K9:(a:Int)<n:=by omega
 have hyl:y<m.length:=by have:=HN.out;omega
 have OO:(y:Int)<n:=by omega
 have hzl:z<m.length:=by have:=HN.out;omega
 have OP:(z:Int)<n:=by omega
 have Lu:=hM2.cell a hal;have Lx:=hM2.frozen;obtain⟨v,hv⟩:∃v,v=m[y]:=⟨_,rfl⟩;have xK:Hid (au v):=J w_;obtain⟨u,hu⟩:∃u,u=m[z]:=⟨_,rfl⟩;have Fz:Hid (au u):=J EO;have HE:Hid (bQ ⟨6,a,y,z⟩ pc m=(pc+1,0,m.set a (gJ 6 v u))):=J EN;have HV:=J hv;have HU:=J hu;clear hv hu;go_upto_region 9 with(fail);refine Zn ?_
 (repeat first|refine cu ?_|refine dL (Kept.drew (kR _ _)) (by intro w1 hS;have d1:=bC (bX hI2 hS);have d2:=(hM2.ext hS).cell y hyl;rw [<-HV.out]at d2;have d3:=(hM2.ext hS).cell z hzl;rw [<-HU.out]at d3;have d4:=uw _ q 6 (.func (.func 103) #[] #[]) 3 (uX.ext hS) jf;exact gX) ?_|refine dK (Kept.drew (kR _ _)) ?_)
 (refine aC (λK hK=>?_);go_simp)
 go_wp2_with fail;refine(alG v u xK.out Fz.out _).mono ?_;rintro e w3 ⟨rfl,rfl⟩;refine hK.out _ _ (λh=>h) ?_;clear hK K;obtain⟨t,ht⟩:∃t,t=gJ 6 v u:=⟨_,rfl⟩;exact EU
end Go.Proofs.YtbfbabbcdochjaaGreatDoor.Mc
