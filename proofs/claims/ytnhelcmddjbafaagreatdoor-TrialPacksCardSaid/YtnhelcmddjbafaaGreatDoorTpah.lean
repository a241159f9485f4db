import Derived.Lib.SliceRun
import Derived.ChangeArms
import Derived.Test.YtnhelcmddjbafaaGreatDoorTpag
set_option maxHeartbeats 4000000
set_option maxRecDepth 100000
open Go.Proofs.Tryz
namespace Go.Proofs.YtnhelcmddjbafaaGreatDoor
open Go.RowKit
namespace Mc
theorem aja (w:World) (base s g n kc q:Nat) (A:Option Addr) (b off cn cap:Nat) (c:List Ins) (pc:Int) (m:List Int) (h:dD w base s g n kc q A b off cn c pc m) (a y z:Nat) (ha:a<n) (hy:y<n) (hz:z<n) (eO:cW c pc n=some ⟨11,a,y,z⟩) (bS:aQ ⟨11,a,y,z⟩ cn n=true):
 Calls prog 115 #[.pointer (some ⟨s,0,none⟩),.slice A cn cap,.map (some q)] w λe w'=>e=.returned (.tuple #[])/\Stepped w w' base s g n kc (aX ⟨11,a,y,z⟩ pc m):=by
 refine FC ?_;clear h eO bS;intro tC lF dw da dj jj kY lH nT pV BD BE uG HX HN HO mD HA HR qQ mf;go_wp21;refine zR ?_;intro e w1 e1 aw;replace e1:e=.returned (.tuple #[.agg (Ins.cells ⟨11,a,y,z⟩),.bool true]):=by rw [e1,HX.o];rfl
 subst e1;have dO:=bN w1 71 (Ins.cells ⟨11,a,y,z⟩);have x1:=aw.alloc (.cells (Ins.cells ⟨11,a,y,z⟩) 71);have dK:=bX dw x1;have eR:=da.ext x1;have jn:=dj.ext x1;have l1:=aw.size;clear dw da dj aw;go_upto_region 3 with(fail);generalize (w1.alloc (.cells (Ins.cells ⟨11,a,y,z⟩) 71))=W1 at dO x1 dK eR jn⊢;refine mQ ?_;clear dO l1;intro ic dO l1 ma mI;go_wp21;refine(dX ⟨11,a,y,z⟩ cn s pc 0 g 0 n kc m _ HN.o lF mf.o HO.o dK eR.row).mono ?_;rintro e w2 ⟨e2,bd⟩;replace e2:e=.returned (.int .i64 (-1)):=by rw [e2];rfl
 subst e2;refine Dy ?_;clear dO dK eR jn x1 bd ma mI;intro x2 ki gx eN sk wM jL zF lI lS lG;have dJ:a<m.length:=by have:=HN.o;omega
 have Ir:(a:Int)<n:=by omega
 have pL:y<m.length:=by have:=HN.o;omega
 have LK:(y:Int)<n:=by omega
 have rC:z<m.length:=by have:=HN.o;omega
 have MR:(z:Int)<n:=by omega
 have EO:=eN.cell a dJ;have Jv:=eN.frozen;obtain⟨v,hv⟩:=nm' (m[y]);have uK:aoR (av v):=J uv;obtain⟨u,hu⟩:=nm' (m[z]);have DJ:aoR (av u):=J C4;have HE:aoR (aX ⟨11,a,y,z⟩ pc m=(pc+1,0,m.set a (gI 11 v u))):=J C3;have HV:=J hv;have HU:=J hu;clear hv hu;go_upto_region 9 with(fail);refine X3 ?_
 repeat first|refine cx ?_|refine de fU (by intro w1 hS;have d1:=bC (bX ki hS);have d2:=(eN.ext hS).cell y pL;rw [<-HV.o]at d2;have d3:=(eN.ext hS).cell z rC;rw [<-HU.o]at d3;have d4:=rF _ q 11 (.func (.func 177) #[] #[]) 8 (sk.ext hS) fK;exact fV) ?_|refine dc fU ?_
 refine au (λK hK=>?_);go_simp;go_wp21;refine aoT (ajn v u uK.o DJ.o _) ?_;refine hK.out _ _ (λh=>h) ?_;clear hK K;obtain⟨t,ht⟩:=nm' (gI 11 v u);exact C'
theorem ajb (w:World) (base s g n kc q:Nat) (A:Option Addr) (b off cn cap:Nat) (c:List Ins) (pc:Int) (m:List Int) (h:dD w base s g n kc q A b off cn c pc m) (a y z:Nat) (ha:a<n) (hy:y<n) (hz:z<n) (eO:cW c pc n=some ⟨12,a,y,z⟩) (bS:aQ ⟨12,a,y,z⟩ cn n=true):
 Calls prog 115 #[.pointer (some ⟨s,0,none⟩),.slice A cn cap,.map (some q)] w λe w'=>e=.returned (.tuple #[])/\Stepped w w' base s g n kc (aX ⟨12,a,y,z⟩ pc m):=by
 refine FC ?_;clear h eO bS;intro tC lF dw da dj jj kY lH nT pV BD BE uG HX HN HO mD HA HR qQ mf;go_wp21;refine zR ?_;intro e w1 e1 aw;replace e1:e=.returned (.tuple #[.agg (Ins.cells ⟨12,a,y,z⟩),.bool true]):=by rw [e1,HX.o];rfl
 subst e1;have dO:=bN w1 71 (Ins.cells ⟨12,a,y,z⟩);have x1:=aw.alloc (.cells (Ins.cells ⟨12,a,y,z⟩) 71);have dK:=bX dw x1;have eR:=da.ext x1;have jn:=dj.ext x1;have l1:=aw.size;clear dw da dj aw;go_upto_region 3 with(fail);generalize (w1.alloc (.cells (Ins.cells ⟨12,a,y,z⟩) 71))=W1 at dO x1 dK eR jn⊢;refine mQ ?_;clear dO l1;intro ic dO l1 ma mI;go_wp21;refine(dX ⟨12,a,y,z⟩ cn s pc 0 g 0 n kc m _ HN.o lF mf.o HO.o dK eR.row).mono ?_;rintro e w2 ⟨e2,bd⟩;replace e2:e=.returned (.int .i64 (-1)):=by rw [e2];rfl
 subst e2;refine Dy ?_;clear dO dK eR jn x1 bd ma mI;intro x2 ki gx eN sk wM jL zF lI lS lG;have dJ:a<m.length:=by have:=HN.o;omega
 have Ir:(a:Int)<n:=by omega
 have pL:y<m.length:=by have:=HN.o;omega
 have LK:(y:Int)<n:=by omega
 have rC:z<m.length:=by have:=HN.o;omega
 have MR:(z:Int)<n:=by omega
 have EO:=eN.cell a dJ;have Jv:=eN.frozen;obtain⟨v,hv⟩:=nm' (m[y]);have uK:aoR (av v):=J uv;obtain⟨u,hu⟩:=nm' (m[z]);have DJ:aoR (av u):=J C4;have HE:aoR (aX ⟨12,a,y,z⟩ pc m=(pc+1,0,m.set a (gI 12 v u))):=J C3;have HV:=J hv;have HU:=J hu;clear hv hu;go_upto_region 9 with(fail);refine X3 ?_
 repeat first|refine cx ?_|refine de fU (by intro w1 hS;have d1:=bC (bX ki hS);have d2:=(eN.ext hS).cell y pL;rw [<-HV.o]at d2;have d3:=(eN.ext hS).cell z rC;rw [<-HU.o]at d3;have d4:=rF _ q 12 (.func (.func 178) #[] #[]) 9 (sk.ext hS) fK;exact fV) ?_|refine dc fU ?_
 refine au (λK hK=>?_);go_simp;go_wp21;refine aoT (ajo v u uK.o DJ.o _) ?_;refine hK.out _ _ (λh=>h) ?_;clear hK K;obtain⟨t,ht⟩:=nm' (gI 12 v u);exact C'
theorem ajc (w:World) (base s g n kc q:Nat) (A:Option Addr) (b off cn cap:Nat) (c:List Ins) (pc:Int) (m:List Int) (h:dD w base s g n kc q A b off cn c pc m) (a y z:Nat) (ha:a<n) (hy:y<n) (hz:z<n) (eO:cW c pc n=some ⟨13,a,y,z⟩) (bS:aQ ⟨13,a,y,z⟩ cn n=true):
 Calls prog 115 #[.pointer (some ⟨s,0,none⟩),.slice A cn cap,.map (some q)] w λe w'=>e=.returned (.tuple #[])/\Stepped w w' base s g n kc (aX ⟨13,a,y,z⟩ pc m):=by
 refine FC ?_;clear h eO bS;intro tC lF dw da dj jj kY lH nT pV BD BE uG HX HN HO mD HA HR qQ mf;go_wp21;refine zR ?_;intro e w1 e1 aw;replace e1:e=.returned (.tuple #[.agg (Ins.cells ⟨13,a,y,z⟩),.bool true]):=by rw [e1,HX.o];rfl
 subst e1;have dO:=bN w1 71 (Ins.cells ⟨13,a,y,z⟩);have x1:=aw.alloc (.cells (Ins.cells ⟨13,a,y,z⟩) 71);have dK:=bX dw x1;have eR:=da.ext x1;have jn:=dj.ext x1;have l1:=aw.size;clear dw da dj aw;go_upto_region 3 with(fail);generalize (w1.alloc (.cells (Ins.cells ⟨13,a,y,z⟩) 71))=W1 at dO x1 dK eR jn⊢;refine mQ ?_;clear dO l1;intro ic dO l1 ma mI;go_wp21;refine(dX ⟨13,a,y,z⟩ cn s pc 0 g 0 n kc m _ HN.o lF mf.o HO.o dK eR.row).mono ?_;rintro e w2 ⟨e2,bd⟩;replace e2:e=.returned (.int .i64 (-1)):=by rw [e2];rfl
 subst e2;refine Dy ?_;clear dO dK eR jn x1 bd ma mI;intro x2 ki gx eN sk wM jL zF lI lS lG;have dJ:a<m.length:=by have:=HN.o;omega
 have Ir:(a:Int)<n:=by omega
 have pL:y<m.length:=by have:=HN.o;omega
 have LK:(y:Int)<n:=by omega
 have rC:z<m.length:=by have:=HN.o;omega
 have MR:(z:Int)<n:=by omega
 have EO:=eN.cell a dJ;have Jv:=eN.frozen;obtain⟨v,hv⟩:=nm' (m[y]);have uK:aoR (av v):=J uv;obtain⟨u,hu⟩:=nm' (m[z]);have DJ:aoR (av u):=J C4;have HE:aoR (aX ⟨13,a,y,z⟩ pc m=(pc+1,0,m.set a (gI 13 v u))):=J C3;have HV:=J hv;have HU:=J hu;clear hv hu;go_upto_region 9 with(fail);refine X3 ?_
 repeat first|refine cx ?_|refine de fU (by intro w1 hS;have d1:=bC (bX ki hS);have d2:=(eN.ext hS).cell y pL;rw [<-HV.o]at d2;have d3:=(eN.ext hS).cell z rC;rw [<-HU.o]at d3;have d4:=rF _ q 13 (.func (.func 179) #[] #[]) 10 (sk.ext hS) fK;exact fV) ?_|refine dc fU ?_
 refine au (λK hK=>?_);go_simp;go_wp21;refine aoT (ajp v u uK.o DJ.o _) ?_;refine hK.out _ _ (λh=>h) ?_;clear hK K;obtain⟨t,ht⟩:=nm' (gI 13 v u);exact C'
theorem aaO (w:World) (base s g n kc q:Nat) (A:Option Addr) (b off cn cap:Nat) (c:List Ins) (pc:Int) (m:List Int) (h:dD w base s g n kc q A b off cn c pc m) (eO:cW c pc n=none):
 Calls prog 115 #[.pointer (some ⟨s,0,none⟩),.slice A cn cap,.map (some q)] w λe w'=>e=.returned (.tuple #[])/\Stepped w w' base s g n kc (pc,2,m):=by
 obtain⟨hn,tC,lF,ie,eH,dw,da,dj,sl,aE,sq,jj,kY,lH,nT⟩:=h;have pV:=dw.lt;have⟨HX,mD,HA,HR,qQ⟩:=J5' eO eH sl aE sq;clear eO hn ie eH sl aE sq dj;go_enter func115,ntmps115;go_wp21;refine zR ?_;intro e w1 e1 aw;replace e1:e=.returned (.tuple #[.agg (Ins.cells ⟨0,0,0,0⟩),.bool false]):=by rw [e1,HX.o];rfl
 subst e1;have x1:=aw.alloc (.cells (Ins.cells ⟨0,0,0,0⟩) 71);have dK:=bX dw x1;have eR:=da.ext x1;have l1:=aw.size;clear dw da aw;go_upto_region 1 with(fail);generalize (w1.alloc (.cells (Ins.cells ⟨0,0,0,0⟩) 71))=W1 at x1 dK eR⊢;have jL:=bC dK;have zF:=ai.frozen dK;go_wp21;refine jA results115 rfl ⟨rfl,?_⟩;exact Stepped.halt (Kept.ext x1) dK eR nT _
theorem SQ (w:World) (base s g n kc q:Nat) (A:Option Addr) (b off cn cap:Nat) (c:List Ins) (pc:Int) (m:List Int) (h:dD w base s g n kc q A b off cn c pc m) (x y z:Int) (eO:cW c pc n=some ⟨15,x,y,z⟩) (bS:aQ ⟨15,x,y,z⟩ cn n=true) (s8:gj ⟨15,x,y,z⟩ m<0):
 Calls prog 115 #[.pointer (some ⟨s,0,none⟩),.slice A cn cap,.map (some q)] w λe w'=>e=.returned (.tuple #[])/\Stepped w w' base s g n kc (pc,2,m):=by
 obtain⟨hn,tC,lF,ie,eH,dw,da,dj,sl,aE,sq,jj,kY,lH,nT⟩:=h;have pV:=dw.lt;obtain⟨F,hF⟩:=nm' (gj ⟨15,x,y,z⟩ m);rw [<-hF]at s8;have⟨HF,HX,HN,HO,mD,HA,HR,qQ,mf⟩:=J9' hF eO hn ie eH sl aE sq bS;clear eO hn ie eH sl aE sq dj bS hF;go_enter func115,ntmps115;go_wp21;refine zR ?_;intro e w1 e1 aw;replace e1:e=.returned (.tuple #[.agg (Ins.cells ⟨15,x,y,z⟩),.bool true]):=by rw [e1,HX.o];rfl
 subst e1;have dO:=bN w1 71 (Ins.cells ⟨15,x,y,z⟩);have x1:=aw.alloc (.cells (Ins.cells ⟨15,x,y,z⟩) 71);have dK:=bX dw x1;have eR:=da.ext x1;have l1:=aw.size;clear dw da aw;go_upto_region 3 with(fail);generalize (w1.alloc (.cells (Ins.cells ⟨15,x,y,z⟩) 71))=W1 at dO x1 dK eR⊢;refine mQ ?_;clear dO l1;intro ic dO l1 ma mI;go_wp21;refine(dX ⟨15,x,y,z⟩ cn s pc 0 g 0 n kc m _ HN.o lF mf.o HO.o dK eR.row).mono ?_;exact akC
theorem SR (w:World) (base s g n kc q:Nat) (A:Option Addr) (b off cn cap:Nat) (c:List Ins) (pc:Int) (m:List Int) (h:dD w base s g n kc q A b off cn c pc m) (x y z:Int) (eO:cW c pc n=some ⟨16,x,y,z⟩) (bS:aQ ⟨16,x,y,z⟩ cn n=true) (s8:gj ⟨16,x,y,z⟩ m<0):
 Calls prog 115 #[.pointer (some ⟨s,0,none⟩),.slice A cn cap,.map (some q)] w λe w'=>e=.returned (.tuple #[])/\Stepped w w' base s g n kc (pc,2,m):=by
 obtain⟨hn,tC,lF,ie,eH,dw,da,dj,sl,aE,sq,jj,kY,lH,nT⟩:=h;have pV:=dw.lt;obtain⟨F,hF⟩:=nm' (gj ⟨16,x,y,z⟩ m);rw [<-hF]at s8;have⟨HF,HX,HN,HO,mD,HA,HR,qQ,mf⟩:=J9' hF eO hn ie eH sl aE sq bS;clear eO hn ie eH sl aE sq dj bS hF;go_enter func115,ntmps115;go_wp21;refine zR ?_;intro e w1 e1 aw;replace e1:e=.returned (.tuple #[.agg (Ins.cells ⟨16,x,y,z⟩),.bool true]):=by rw [e1,HX.o];rfl
 subst e1;have dO:=bN w1 71 (Ins.cells ⟨16,x,y,z⟩);have x1:=aw.alloc (.cells (Ins.cells ⟨16,x,y,z⟩) 71);have dK:=bX dw x1;have eR:=da.ext x1;have l1:=aw.size;clear dw da aw;go_upto_region 3 with(fail);generalize (w1.alloc (.cells (Ins.cells ⟨16,x,y,z⟩) 71))=W1 at dO x1 dK eR⊢;refine mQ ?_;clear dO l1;intro ic dO l1 ma mI;go_wp21;refine(dX ⟨16,x,y,z⟩ cn s pc 0 g 0 n kc m _ HN.o lF mf.o HO.o dK eR.row).mono ?_;exact akC
theorem ou {c:List Ins} {pc:Int} {k:Nat} {i:Ins} (h:cW c pc k=some i):aQ i c.length k=true:=by
 unfold cW at h
 split at h
 .split at h
  .cases h;assumption
  .cases h
 .cases h
theorem F4 (i:Ins) (m:List Int):gj i m<m.length:=by
 unfold gj uj
 split
 .split<;>omega
 .split
  .split<;>omega
  .omega
theorem Nb {i:Ins} {m:List Int} (h:lost i m=false) (EL:i.op=15∨i.op=16):0<=gj i m:=by
 unfold lost at h
 rcases EL with e|e<;>(simp [e]at h;omega)
theorem KD (w:World) (base s g n kc q:Nat) (A:Option Addr) (b off cn cap:Nat) (c:List Ins) (pc:Int) (m:List Int) (h:dD w base s g n kc q A b off cn c pc m):
 Calls prog 115 #[.pointer (some ⟨s,0,none⟩),.slice A cn cap,.map (some q)] w λe w'=>e=.returned (.tuple #[])/\Stepped w w' base s g n kc (gO c pc m):=by
 have hn:=h.J2;have sq:=h.UR
 cases eO:cW c pc n with
 |none=>
  have e:gO c pc m=(pc,2,m):=by unfold gO;rw [<-hn,eO]
  rw [e];exact aaO w base s g n kc q A b off cn cap c pc m h eO
 |some i=>
  have hr:=ou eO;rw [<-sq]at hr;obtain⟨h0,h22,ha,hb,hc,he⟩:=gy hr
  cases hl:lost i m with
  |true=>
   have e:gO c pc m=(pc,2,m):=by unfold gO;rw [<-hn,eO];simp [hl]
   rw [e];have YO:=hl;simp [lost]at YO;obtain⟨op,x,y,z⟩:=i;simp only at YO
   rcases YO.2 with rfl|rfl
   .exact SQ w base s g n kc q A b off cn cap c pc m h x y z eO hr YO.1
   .exact SR w base s g n kc q A b off cn cap c pc m h x y z eO hr YO.1
  |false=>
   have e:gO c pc m=aX i pc m:=by unfold gO;rw [<-hn,eO];simp [hl]
   rw [e];have t_:=F4 i m;have D_:=Nb hl;obtain⟨op,x,y,z⟩:=i;simp only at h0 h22 ha hb hc;obtain⟨k,rfl⟩:∃k:Nat,op=k:=⟨op.toNat,by omega⟩;have hk:k<22:=by omega
   clear h0 h22 e hl;have hall:k=0∨k=1∨k=2∨k=3∨k=4∨k=5∨k=6∨k=7∨k=8∨k=9∨k=10∨k=11∨k=12∨k=13∨k=14∨k=15∨k=16∨k=17∨k=18∨k=19∨k=20∨k=21:=by omega
   rcases hall with rfl|rfl|rfl|rfl|rfl|rfl|rfl|rfl|rfl|rfl|rfl|rfl|rfl|rfl|rfl|rfl|rfl|rfl|rfl|rfl|rfl|rfl
   .have Bv:=yH rfl ha
    exact anj w base s g n kc q A b off cn cap c pc m h x y z (by simpa [ig]using he) eO hr
   .have Bv:=cP rfl ha
    obtain⟨x,rfl⟩:∃t:Nat,x=t:=⟨Int.toNat x,by omega⟩;have jw:=yH rfl hb;exact ank w base s g n kc q A b off cn cap c pc m h x y z ad jw.1 jw.2 eO hr
   .have Bv:=cP rfl ha
    obtain⟨x,rfl⟩:∃t:Nat,x=t:=⟨Int.toNat x,by omega⟩;have jw:=cP rfl hb;obtain⟨y,rfl⟩:∃t:Nat,y=t:=⟨Int.toNat y,by omega⟩;exact anl w base s g n kc q A b off cn cap c pc m h x y z ad ad eO hr
   .have Bv:=cP rfl ha
    obtain⟨x,rfl⟩:∃t:Nat,x=t:=⟨Int.toNat x,by omega⟩;have jw:=cP rfl hb;obtain⟨y,rfl⟩:∃t:Nat,y=t:=⟨Int.toNat y,by omega⟩;have Ad:=cP rfl hc;obtain⟨z,rfl⟩:∃t:Nat,z=t:=⟨Int.toNat z,by omega⟩;exact anm w base s g n kc q A b off cn cap c pc m h x y z ad ad ad eO hr
   .have Bv:=cP rfl ha
    obtain⟨x,rfl⟩:∃t:Nat,x=t:=⟨Int.toNat x,by omega⟩;have jw:=cP rfl hb;obtain⟨y,rfl⟩:∃t:Nat,y=t:=⟨Int.toNat y,by omega⟩;have Ad:=cP rfl hc;obtain⟨z,rfl⟩:∃t:Nat,z=t:=⟨Int.toNat z,by omega⟩;exact ann w base s g n kc q A b off cn cap c pc m h x y z ad ad ad eO hr
   .have Bv:=cP rfl ha
    obtain⟨x,rfl⟩:∃t:Nat,x=t:=⟨Int.toNat x,by omega⟩;have jw:=cP rfl hb;obtain⟨y,rfl⟩:∃t:Nat,y=t:=⟨Int.toNat y,by omega⟩;have Ad:=cP rfl hc;obtain⟨z,rfl⟩:∃t:Nat,z=t:=⟨Int.toNat z,by omega⟩;exact ano w base s g n kc q A b off cn cap c pc m h x y z ad ad ad eO hr
   .have Bv:=cP rfl ha
    obtain⟨x,rfl⟩:∃t:Nat,x=t:=⟨Int.toNat x,by omega⟩;have jw:=cP rfl hb;obtain⟨y,rfl⟩:∃t:Nat,y=t:=⟨Int.toNat y,by omega⟩;have Ad:=cP rfl hc;obtain⟨z,rfl⟩:∃t:Nat,z=t:=⟨Int.toNat z,by omega⟩;exact anp w base s g n kc q A b off cn cap c pc m h x y z ad ad ad eO hr
   .have Bv:=cP rfl ha
    obtain⟨x,rfl⟩:∃t:Nat,x=t:=⟨Int.toNat x,by omega⟩;have jw:=cP rfl hb;obtain⟨y,rfl⟩:∃t:Nat,y=t:=⟨Int.toNat y,by omega⟩;have Ad:=cP rfl hc;obtain⟨z,rfl⟩:∃t:Nat,z=t:=⟨Int.toNat z,by omega⟩;exact anq w base s g n kc q A b off cn cap c pc m h x y z ad ad ad eO hr
   .have Bv:=cP rfl ha
    obtain⟨x,rfl⟩:∃t:Nat,x=t:=⟨Int.toNat x,by omega⟩;have jw:=cP rfl hb;obtain⟨y,rfl⟩:∃t:Nat,y=t:=⟨Int.toNat y,by omega⟩;have Ad:=cP rfl hc;obtain⟨z,rfl⟩:∃t:Nat,z=t:=⟨Int.toNat z,by omega⟩;exact anr w base s g n kc q A b off cn cap c pc m h x y z ad ad ad eO hr
   .have Bv:=cP rfl ha
    obtain⟨x,rfl⟩:∃t:Nat,x=t:=⟨Int.toNat x,by omega⟩;have jw:=cP rfl hb;obtain⟨y,rfl⟩:∃t:Nat,y=t:=⟨Int.toNat y,by omega⟩;have Ad:=cP rfl hc;obtain⟨z,rfl⟩:∃t:Nat,z=t:=⟨Int.toNat z,by omega⟩;exact ans w base s g n kc q A b off cn cap c pc m h x y z ad ad ad eO hr
   .have Bv:=cP rfl ha
    obtain⟨x,rfl⟩:∃t:Nat,x=t:=⟨Int.toNat x,by omega⟩;have jw:=cP rfl hb;obtain⟨y,rfl⟩:∃t:Nat,y=t:=⟨Int.toNat y,by omega⟩;have Ad:=cP rfl hc;obtain⟨z,rfl⟩:∃t:Nat,z=t:=⟨Int.toNat z,by omega⟩;exact aiZ w base s g n kc q A b off cn cap c pc m h x y z ad ad ad eO hr
   .have Bv:=cP rfl ha
    obtain⟨x,rfl⟩:∃t:Nat,x=t:=⟨Int.toNat x,by omega⟩;have jw:=cP rfl hb;obtain⟨y,rfl⟩:∃t:Nat,y=t:=⟨Int.toNat y,by omega⟩;have Ad:=cP rfl hc;obtain⟨z,rfl⟩:∃t:Nat,z=t:=⟨Int.toNat z,by omega⟩;exact aja w base s g n kc q A b off cn cap c pc m h x y z ad ad ad eO hr
   .have Bv:=cP rfl ha
    obtain⟨x,rfl⟩:∃t:Nat,x=t:=⟨Int.toNat x,by omega⟩;have jw:=cP rfl hb;obtain⟨y,rfl⟩:∃t:Nat,y=t:=⟨Int.toNat y,by omega⟩;have Ad:=cP rfl hc;obtain⟨z,rfl⟩:∃t:Nat,z=t:=⟨Int.toNat z,by omega⟩;exact ajb w base s g n kc q A b off cn cap c pc m h x y z ad ad ad eO hr
   .have Bv:=cP rfl ha
    obtain⟨x,rfl⟩:∃t:Nat,x=t:=⟨Int.toNat x,by omega⟩;have jw:=cP rfl hb;obtain⟨y,rfl⟩:∃t:Nat,y=t:=⟨Int.toNat y,by omega⟩;have Ad:=cP rfl hc;obtain⟨z,rfl⟩:∃t:Nat,z=t:=⟨Int.toNat z,by omega⟩;exact ajc w base s g n kc q A b off cn cap c pc m h x y z ad ad ad eO hr
   .have Bv:=cP rfl ha
    obtain⟨x,rfl⟩:∃t:Nat,x=t:=⟨Int.toNat x,by omega⟩;have jw:=cP rfl hb;obtain⟨y,rfl⟩:∃t:Nat,y=t:=⟨Int.toNat y,by omega⟩;exact ajd w base s g n kc q A b off cn cap c pc m h x y z ad ad eO hr
   .have Bv:=cP rfl ha
    obtain⟨x,rfl⟩:∃t:Nat,x=t:=⟨Int.toNat x,by omega⟩;have jw:=cP rfl hb;obtain⟨y,rfl⟩:∃t:Nat,y=t:=⟨Int.toNat y,by omega⟩;have Ad:=cP rfl hc;obtain⟨z,rfl⟩:∃t:Nat,z=t:=⟨Int.toNat z,by omega⟩;have hf0:=D_ (.inl rfl);obtain⟨p,hp⟩:∃p:Nat,gj ⟨(15:Nat),x,y,z⟩ m=p:=⟨(gj ⟨(15:Nat),x,y,z⟩ m).toNat,by omega⟩;exact aje w base s g n kc q A b off cn cap c pc m h x y z p ad ad hp eO hr
   .have Bv:=cP rfl ha
    obtain⟨x,rfl⟩:∃t:Nat,x=t:=⟨Int.toNat x,by omega⟩;have jw:=cP rfl hb;obtain⟨y,rfl⟩:∃t:Nat,y=t:=⟨Int.toNat y,by omega⟩;have Ad:=cP rfl hc;obtain⟨z,rfl⟩:∃t:Nat,z=t:=⟨Int.toNat z,by omega⟩;have hf0:=D_ (.inr rfl);obtain⟨p,hp⟩:∃p:Nat,gj ⟨(16:Nat),x,y,z⟩ m=p:=⟨(gj ⟨(16:Nat),x,y,z⟩ m).toNat,by omega⟩;exact ajf w base s g n kc q A b off cn cap c pc m h x y z p ad ad hp eO hr
   .have Bv:=cP rfl ha
    obtain⟨x,rfl⟩:∃t:Nat,x=t:=⟨Int.toNat x,by omega⟩;have jw:=yH rfl hb;have Ad:=yH rfl hc;exact ajg w base s g n kc q A b off cn cap c pc m h x y z ad jw.1 jw.2 Ad.1 Ad.2 eO hr
   .have Bv:=cP rfl ha
    obtain⟨x,rfl⟩:∃t:Nat,x=t:=⟨Int.toNat x,by omega⟩;have jw:=cP rfl hb;obtain⟨y,rfl⟩:∃t:Nat,y=t:=⟨Int.toNat y,by omega⟩;have Ad:=yH rfl hc;have hz0:0<=z:=by simpa [ig]using he
    exact ajh w base s g n kc q A b off cn cap c pc m h x y z ad ad hz0 Ad.2 eO hr
   .have Bv:=E9 rfl ha
    obtain⟨x,rfl⟩:∃t:Nat,x=t:=⟨Int.toNat x,by omega⟩;exact aji w base s g n kc q A b off cn cap c pc m h x y z eO hr
   .have Bv:=E9 rfl ha
    obtain⟨x,rfl⟩:∃t:Nat,x=t:=⟨Int.toNat x,by omega⟩;have jw:=cP rfl hb;obtain⟨y,rfl⟩:∃t:Nat,y=t:=⟨Int.toNat y,by omega⟩;exact ajj w base s g n kc q A b off cn cap c pc m h x y z ad eO hr
   .have Bv:=E9 rfl ha
    obtain⟨x,rfl⟩:∃t:Nat,x=t:=⟨Int.toNat x,by omega⟩;have jw:=cP rfl hb;obtain⟨y,rfl⟩:∃t:Nat,y=t:=⟨Int.toNat y,by omega⟩;exact ajk w base s g n kc q A b off cn cap c pc m h x y z ad eO hr
theorem Gp:(prog.info? 21).map (λi=>(i.zero,i.size,i.bytes))=some (some (.int .i32 0),1,4):=by kernel_rfl
theorem BZ (l:List Int):eB (bj l)=true:=by
 induction l with
 |nil=>rfl
 |cons d l ih=>show eB (.int .i32 d::bj l)=true;simpa [eB,Value.oneCell']using ih
theorem DO (w:World) (base:Nat) (v:Value) (n:Nat) (xs:List Int) (gp:w.ownsRow base 21 1 v n (bj xs)) (b off m c:Nat) (l:List Int) (hm:m=l.length) (hr:Row w b off (bj l)) (hn:n+m<=100000) (gL:base<=w.heap.size):
 ∃v' w',(Builtin.append_ #[40,40] 40 #[v,.slice (some ⟨b,off,none⟩) m c]).run prog w=.ok v' w'/\w'.ownsRow base 21 1 v' (n+m) (bj (xs++l))/\Kept (λi=>v.ownBlock=some i) w w':=by
 obtain⟨i,hi,hz,h1,h2⟩:=info_parts Gp;have:=oX (P:=prog) underlying40 hi hz h1 h2 fK ap w base v n (bj xs) gp b off m c (bj l) (by rw [fG,hm,Nat.mul_one]) hr (BZ l) Ib ad gL;rw [show bj xs++bj l=bj (xs++l)by simp [bj]]at this;exact this
def abR (w w':World) (v:Value) (n:Nat) (m:List Int):Prop:=∃g c,v=.slice (some ⟨g,0,none⟩) n c/\eg w' w.heap.size g n c m/\al w w'
theorem aaA {w w':World} {v:Value} {n:Nat} {m:List Int} (h:w'.ownsRow w.heap.size 21 1 v n (bj m)) (hn:0<n) (hx:al w w'):abR w w' v n m:=by
 rcases h.2 with⟨_,h0⟩|⟨g,c,cV,hv,r⟩
 .omega
 .subst hv
  exact⟨g,c,rfl,h,hx⟩
theorem Ni (b off cap:Nat) (l:List Int) (n:Nat) (hn:n=l.length) (h1:1<=n) (h2:n<=4096) (w:World) (hr:Row w b off (bj l)):
 Calls prog 73 #[.slice (some ⟨b,off,none⟩) n cap] w λe w'=>∃v,e=.returned v/\abR w w' v n l:=by
 obtain⟨v2,w2,iV,mq,eV⟩:=DO (w.alloc (.cells #[] 21)) _ _ 0 [] (Ai w 21 1) b off n cap l hn (hr.ext (dM w _)) ad aB;have HN:=J hn;clear hn;have heq:=λw=>Lib.run_eql_slice_nil (P:=prog) w 40 21 (some ⟨b,off,none⟩) n cap 0 0 underlying40;simp only [Option.isNone_some]at heq;go_enter func73,ntmps73;go_upto_region 3 with(fail);go_step
 iterate 2 refine kE ?_
 refine cj rfl (.tmp 5) (.tmp 6) 40 rfl rfl rfl rfl iV ?_;clear iV;go_wp21;go_ret;rw [dT,qx]at mq;exact⟨_,rfl,aaA mq h1 ((dM w _).trans' eV (λi hi e=>by simp [Value.ownBlock]at e;omega))⟩
def IP (w w':World) (v:Value) (n:Nat) (pc halt:Int) (m:List Int):Prop:=∃g c,v=.agg (ae pc (some ⟨g,0,none⟩) n c halt)/\eg w' w.heap.size g n c m/\al w w'
theorem qg (pc halt:Int) (b off cap:Nat) (l:List Int) (n:Nat) (hn:n=l.length) (h1:1<=n) (h2:n<=4096) (w:World) (hr:Row w b off (bj l)):
 Calls prog 30 #[.agg (ae pc (some ⟨b,off,none⟩) n cap halt)] w λe w'=>∃v,e=.returned v/\IP w w' v n pc halt l:=by
 have HN:=J hn;clear hn;have aF:al w _:=(dM w (.cells (ae pc (some ⟨b,off,none⟩) n cap halt) 47)).alloc (.cells (ae 0 none 0 0 0) 47);have hA0:ai _ w.heap.size 47 (ae pc (some ⟨b,off,none⟩) n cap halt):=ai.alloc (bN w _ _) (.cells (ae 0 none 0 0 0) 47);have fz:ai _ (w.heap.size+1) 47 (ae 0 none 0 0 0):=ai.ea (w.alloc (.cells (ae pc (some ⟨b,off,none⟩) n cap halt) 47)) _ _ _ aB;have aE:=hr.ext aF;have hs0:=aF.size;go_enter func30,ntmps30;go_wp21;refine(Ni b off cap l n HN.o h1 h2 _ aE).mono ?_;rintro e w1 ⟨v1,rfl,g,c1,rfl,eR,aw⟩;have oS:=bX hA0 aw;have g_:=bX fz aw;have hc1:=bC oS;have hf1:=ai.frozen oS;have Rn:=eR.inv.2;obtain⟨_,hgb,_⟩:=Rn;have lA:=hA0.lt;have lR:=fz.lt;have uC:ai (w1.setCell ⟨w.heap.size,1,none⟩ (.slice (some ⟨g,0,none⟩) n c1)) w.heap.size 47 (ae pc (some ⟨g,0,none⟩) n c1 halt):=ai.eK oS 1 (.slice (some ⟨g,0,none⟩) n c1);have oK:=ai.kV g_ (p:=⟨w.heap.size,1,none⟩) (show w.heap.size+1≠w.heap.size by omega) (.slice (some ⟨g,0,none⟩) n c1);have eN:=eR.kV (p:=⟨w.heap.size,1,none⟩) (show¬g=w.heap.size by omega) (.slice (some ⟨g,0,none⟩) n c1);have y2:al w (w1.setCell ⟨w.heap.size,1,none⟩ (.slice (some ⟨g,0,none⟩) n c1)):=Kept.setCell (aF.trans aw) ⟨w.heap.size,1,none⟩ _ (λh=>by have:w.heap.size<w.heap.size:=h;omega);go_upto_region 2 with(fail);clear hA0 fz oS g_ hc1 hf1 eR;generalize (w1.setCell ⟨w.heap.size,1,none⟩ (.slice (some ⟨g,0,none⟩) n c1))=W2 at uC oK eN y2⊢;have i1:=bH uC;have i2:=bG uC;have i3:=bH oK;have i4:=ai.aC oK;go_wp21;refine bu results30 rfl rfl jK zQ (ai.cw oK _ _) ⟨_,rfl,g,c1,rfl,?_,Kept.putAt y2 _ _ _ (λh=>by omega)⟩;exact(eI (eN.kept (Kept.putAt (S:=(·=w.heap.size+1)) (kR _ _) _ _ _ (λ_=>rfl)) ad) ad)
theorem eg.ge {w:World} {base g n kc:Nat} {m:List Int} (h:eg w base g n kc m):base<=g:=by
 obtain⟨_,_,hb,_⟩:=h.inv;exact hb
def jB (c:List Ins) (pc halt:Int) (m:List Int):Int×Int×List Int:=if halt=0 then gO c pc m else(pc,halt,m)
theorem PV {P:Program} {fn:Func} {R:Ending->World->Prop} {a:Act} {w:World} {p j k:Tmp} {ty t:TypeId} {g:Nat} {cs:Array Value}
 (D6:fn.results=#[.cell p ty,.tmp j,.tmp k]) (hd:a.defers=[]) (hp:a.tmps.getD p undef=.pointer (some ⟨g,0,none⟩)) (ha:ga P ty=true) (hs:dr P ty=some cs.size) (hb:ai w g t cs)
 (hR:R (.returned (.tuple #[.agg cs,a.tmps.getD j undef,a.tmps.getD k undef])) w):bodyPost P fn R .ret a w:=by
 exact Qd
structure kO (w:World) (A:Option Addr) (b off cn:Nat) (c:List Ins) (b' bL n:Nat) (pc halt:Int) (m:List Int):Prop where
 ops:OpsAt w
 cA:0<cn->A=some ⟨b,off,none⟩
 row:0<cn->Row w b off (db c)
 UR:cn=c.length
 cn2:cn<=2048
 J2:n=m.length
 right:cQ pc halt n=true
 B_:∀x∈m,av x
 RU:Row w b' bL (bj m)
theorem kO.ext {w w':World} {A:Option Addr} {b off cn:Nat} {c:List Ins} {b' bL n:Nat} {pc halt:Int} {m:List Int} (h:kO w A b off cn c b' bL n pc halt m) (hx:al w w'):kO w' A b off cn c b' bL n pc halt m:=
 ⟨h.ops.ext hx,h.cA,λh0=>(h.row h0).ext hx,h.UR,h.cn2,h.J2,h.right,h.B_,h.RU.ext hx⟩
theorem fT (pc halt:Int) (A:Option Addr) (n cap:Nat) (w:World):
 Calls prog 53 #[.agg (ae pc A n cap halt)] w λe w'=>e=.returned (.bool (cQ pc halt n))/\al w w':=by
 have aF:al w _:=dM w (.cells (ae pc A n cap halt) 47);go_enter func53,ntmps53;go_wp21
 all_goals go_ret
 all_goals refine⟨?_,aF⟩
 all_goals simp [cQ]
 all_goals (intros;omega)
theorem Mn (b off cap:Nat) (l:List Dg) (n:Nat) (hn:n=l.length) (h2:n<=4096) (w:World) (hr:Row w b off (cY l)):
 Calls prog 218 #[.slice (some ⟨b,off,none⟩) n cap] w λe w'=>abQ w w' e n l:=by
 obtain⟨v2,w2,iV,mq,eV⟩:=L7 (w.alloc (.cells #[] 25)) _ _ 0 [] (Ai w 25 8) b off n cap l hn (hr.ext (dM w _)) ad aB;have HN:=J hn;clear hn;have heq:=λw=>Lib.run_eql_slice_nil (P:=prog) w 23 25 (some ⟨b,off,none⟩) n cap 0 0 underlying23;simp only [Option.isNone_some]at heq;go_enter func218,ntmps218;go_upto_region 3 with(fail);go_step
 iterate 2 refine kE ?_
 refine cj rfl (.tmp 5) (.tmp 6) 23 rfl rfl rfl rfl iV ?_;clear iV;go_wp21;go_ret;rw [dT,qx]at mq;exact⟨_,rfl,mq,(dM w _).trans' eV (λi hi e=>by simp [Value.ownBlock]at e;omega)⟩
theorem iU (pc halt words:Int) (m:Dg) (hm:m.ok) (h0:0<=pc/\pc<=1000000) (h1:0<=halt/\halt<=1000000) (h2:0<=words/\words<=1000000) (w:World):
 Calls prog 108 #[.int .i64 pc,.int .i64 halt,.int .i64 words,.agg #[.int .u8 m.x0,.int .u8 m.x1,.int .u8 m.x2,.int .u8 m.x3,.int .u8 m.x4,.int .u8 m.x5,.int .u8 m.x6,.int .u8 m.x7]] w λe w'=>e=.returned (.agg (mA pc halt words m).cells)/\al w w':=by
 have HM:=J hm;clear hm;have aF:al w _:=(dM w (.cells #[.int .u8 m.x0,.int .u8 m.x1,.int .u8 m.x2,.int .u8 m.x3,.int .u8 m.x4,.int .u8 m.x5,.int .u8 m.x6,.int .u8 m.x7] 25)).alloc (.cells Dg.zero.cells 25);have hA0:ai _ w.heap.size 25 m.cells:=ai.alloc (bN w _ _) (.cells Dg.zero.cells 25);have fz:ai _ (w.heap.size+1) 25 Dg.zero.cells:=ai.ea (w.alloc (.cells #[.int .u8 m.x0,.int .u8 m.x1,.int .u8 m.x2,.int .u8 m.x3,.int .u8 m.x4,.int .u8 m.x5,.int .u8 m.x6,.int .u8 m.x7] 25)) _ _ _ aB;go_enter func108,ntmps108;go_wp21;generalize ((w.alloc (.cells #[.int .u8 m.x0,.int .u8 m.x1,.int .u8 m.x2,.int .u8 m.x3,.int .u8 m.x4,.int .u8 m.x5,.int .u8 m.x6,.int .u8 m.x7] 25)).alloc (.cells #[.int .u8 0,.int .u8 0,.int .u8 0,.int .u8 0,.int .u8 0,.int .u8 0,.int .u8 0,.int .u8 0] 25))=W at aF hA0 fz⊢;have hW:=fz.lt;have om:IntKind.u64.wrap pc=pc:=u64_in h0.1 ad;have tf:IntKind.u64.wrap halt=halt:=u64_in h1.1 ad;have hw3:IntKind.u64.wrap words=words:=u64_in h2.1 ad;refine fH (λw1=>al W w1) [(0,2),(1,1),(3,2),(4,1),(6,2),(7,1),(9,1),(2,0),(5,0),(8,0),(10,0),(11,0),(12,0)] ?_;refine fI ?_
 repeat first|refine cx ?_|refine de fU ajA ?_|refine dc fU ?_
 clear om tf hw3;refine au (λK hK=>?_);go_simp;go_wp21;refine aoS (lz pc _ h0.1) λw1 aw=>?_;have y1:al W w1:=((kR _ W).drew).trans aw;refine hK.out _ _ (λ_=>y1) ?_;clear hK K;refine au (λK hK=>?_);go_simp;go_wp21;refine aoS (lz halt _ h1.1) λw2 bd=>?_;have y2:=y1.trans bd;refine hK.out _ _ (λ_=>y2) ?_;clear hK K;refine au (λK hK=>?_);go_simp;go_wp21;refine aoS (lz words _ h2.1) λw3 dv=>?_;have y3:=y2.trans dv;refine hK.out _ _ (λ_=>y3) ?_;clear hK K;refine au (λK hK=>?_);go_simp;refine hK.out _ _ (λ_=>y3.alloc _) ?_;clear hK K;refine au (λK hK=>?_);go_simp;go_wp21;refine(Wr _ w3.heap.size 0 4 [DT pc,DT halt,DT words,m] aB ?_ _ (λ_=>rfl) (λ_=>?_)).mono ?_
 .intro d hd
  simp at hd
  rcases hd with rfl|rfl|rfl|rfl
  .exact Bg _
  .exact Bg _
  .exact Bg _
  .exact HM.o
 .exact Row.cF (bN w3 25 (cY [DT pc,DT halt,DT words,m]).toArray)
 rintro e w4 ⟨rfl,eS⟩;have y4:=(y3.alloc _).trans eS;refine hK.out _ _ (λ_=>y4) ?_;clear hK K;have Jp:=bX fz y4;have hh4:=bH Jp;have D1:=ai.aC Jp;refine fx ?_;go_wp21;refine bu results108 rfl rfl dU kH (ai.cw Jp _ _) ⟨rfl,?_⟩;exact Kept.putAt (aF.trans y4) _ _ _ (λh=>by omega)
theorem o_ (d:Dg) (l:List Dg):cY (d::l)=d.cells.toList++cY l:=rfl
theorem oJ:∀(l:List Dg) (k:Nat) (_:k<l.length) (d:Dg),(cY l).take (k*8)++d.cells.toList++(cY l).drop (k*8+8)=cY (l.set k d)
 |x::l,0,_,d=>by
  rw [List.set_cons_zero,o_,o_,Nat.zero_mul,List.take_zero,qx,dT,List.drop_append_of_le_length aB];simp
 |x::l,k+1,hk,d=>by
  have ih:=oJ l k (by simpa using hk) d;rw [List.set_cons_succ,o_,o_,<-ih,show(k+1)*8=8+k*8 by omega,gw,List.take_append,List.drop_append,kI (l:=x.cells.toList) aB,List.drop_of_length_le (l:=x.cells.toList) aB];simp
theorem ve (l:List Dg) (k:Nat) (hk:k<l.length) (d:Dg):splice (cY l).toArray (k*8) d.cells=(cY (l.set k d)).toArray:=by
 rw [<-oJ l k hk d];simp [splice]
end Mc
section
open Mc
theorem Row.ahp {w w1:World} {g o n:Nat} (hS:al w w1) (hg:g<w.heap.size) (h:Proofs.YtnhelcmddjbafaaGreatDoor.has w g (0+o) n=true):Proofs.YtnhelcmddjbafaaGreatDoor.has w1 g o n=true:=by
 rw [dT]at h;unfold Proofs.YtnhelcmddjbafaaGreatDoor.has at h⊢;rw [hS.block g hg (λf=>f)];exact h
end
namespace Mc
end Mc
section
open Mc
theorem Row.agT {w w1:World} {g o n:Nat} {c:Array Value} (hS:al w w1) (hg:g<w.heap.size) (h:gets w g (0+o) n=c):gets w1 g o n=c:=by
 rw [dT]at h;unfold gets at h⊢;rw [hS.block g hg (λf=>f)];exact h
end
namespace Mc
variable{cg cc:Nat}{G:Nat->Nat}
theorem JP (p g g' v v1 k N M c c':Nat) (L L':List Dg) (w:World) (mJ:v1=v+1) (hv:v<12) (hN:N=L.length) (hM:M=L'.length) (hk:2*k+1<N) (jR:k<M) (rA:N<=4096) (hok:∀d∈L,d.ok)
 (hc0:w.cell? ⟨p,1+v,none⟩=some (.slice (some ⟨g,0,none⟩) N c)) (hc1:w.cell? ⟨p,1+v1,none⟩=some (.slice (some ⟨g',0,none⟩) M c')) (hb:ai w g 25 (cY L).toArray) (jw:ai w g' 25 (cY L').toArray) (mW:p<w.heap.size):
 Calls prog 167 #[.pointer (some ⟨p,0,none⟩),.int .i64 v1,.int .i64 k] w λe w'=>e=.returned (.tuple #[])/\ai w' g' 25 (cY (L'.set k (tX (L.getD (2*k) Dg.zero) (L.getD (2*k+1) Dg.zero)))).toArray/\Kept (·=g') w w':=by
 have Rx:(v1:Int) - 1=v:=by omega
 have amX:v1<13:=by omega
 have aob:(v1:Int)<13:=by omega
 have VA:(k:Int)<M:=by omega
 have HV:=J mJ;clear mJ;have⟨HN,HM,HO,HC⟩:=J4' hN hM hok hc1;clear hN hM hok hc1;obtain⟨k2,eV⟩:=nm' (2*k);obtain⟨k3,jq⟩:=nm' (2*k+1);have nS:k2<L.length:=by have:=HN.o;omega
 have aah:k3<L.length:=by have:=HN.o;omega
 have ma:(k2:Int)<N:=by omega
 have TV:(k3:Int)<N:=by omega
 have om:IntKind.i64.wrap (2*(k:Int))=k2:=by rw [im];omega
 have tf:IntKind.i64.wrap ((k2:Int)+1)=k3:=by rw [im];omega
 rw [<-jq,<-eV];have e1:L.getD k2 Dg.zero=L[k2]:=by simp [nS]
 have e2:L.getD k3 Dg.zero=L[k3]:=by simp [aah]
 rw [e1,e2];have o1:=HO.o _ (ed nS);have o2:=HO.o _ (ed aah);obtain⟨Iq,Rn⟩:=(ai.row hb).ZT k2 nS;obtain⟨Js,Pj⟩:=(ai.row hb).ZT k3 aah;generalize L[k2]=X at o1 Rn⊢;generalize L[k3]=Y at o2 Pj⊢;clear eV jq;have Bz:=ai.lt hb;have aoo:=ai.lt jw;have HO1:=J o1;have Zs:=J o2;clear e1 e2 nS aah o1 o2;go_enter func167,ntmps167;go_wp21;refine fH (λw1=>al w w1) [(0,2),(1,2),(2,2),(3,2),(4,2),(5,1),(6,2),(7,2),(8,2),(9,2),(10,2),(11,1),(12,2),(13,2),(14,2),(15,2),(16,2),(17,1),(18,0),(19,2),(20,0)] ?_;refine fI ?_
 repeat first|refine cx ?_|refine de fU (by intro w1 hS;have d1:=(Kept.cell hS (p:=⟨p,1+v1,none⟩) mW (λf=>f)).trans HC.o;have hz1:=Row.ahp hS Bz Iq;have hz2:=Row.agT hS Bz Rn;have hz3:=Row.ahp hS Bz Js;have hz4:=Row.agT hS Bz Pj;exact fV) ?_|refine dc fU ?_
 clear om tf Iq Js Rn Pj hc0;refine au (λK hK=>?_);go_simp;go_wp21;refine aoS (Hw X Y HO1.o Zs.o _) λw1 aw=>?_;have y1:al w w1:=((kR _ w).drew).trans aw;refine hK.out _ _ (λ_=>y1) ?_;clear hK K;obtain⟨Z,hZ⟩:=nm' (tX X Y);rw [<-hZ];have HZ:=J hZ;clear hZ;have hkM:k*8+8<=(cY L').length:=by rw [eh];have:=HM.o;omega
 have wK:=bX jw y1;have Jw:=bH wK (k*8) 8;rw [cJ (by simpa using hkM)]at Jw;have EP:=ai.aC wK;have pJ:=ai.cw wK (k*8) Z.cells;rw [ve L' k (by have:=HM.o;omega) Z]at pJ
 repeat refine cx ?_
 refine fx ?_;go_end0;rw [<-HZ.o];exact⟨rfl,pJ,Kept.putAt (Kept.ext y1) _ _ _ (λ_=>rfl)⟩
def kK (w:World) (p:Nat) (f:Nat->Value):Prop:=ai w p 256 ((List.range 14).map f).toArray
section
variable {w:World} {p:Nat} {f:Nat->Value} (h:kK w p f)
include w p f h
theorem kK.cell (i:Nat) (hi:i<14):w.cell? ⟨p,i,none⟩=some (f i):=by
 rw [bC h];simp [hi]
theorem kK.lt:p<w.heap.size:=ai.lt h
end
theorem kK.ext {w w':World} {p:Nat} {f:Nat->Value} (h:kK w p f) (hk:al w w'):kK w' p f:=bX h hk
theorem kK.set {w:World} {p:Nat} {f:Nat->Value} (h:kK w p f) (i:Nat) (u:Value):kK (w.setCell ⟨p,i,none⟩ u) p (λj=>if j=i then u else f j):=by
 have:=ai.eK h i u;unfold kK;rw [show((List.range 14).map λj=>if j=i then u else f j).toArray=((List.range 14).map f).toArray.setIfInBounds i u from ?_]
 .exact this
 .apply Array.ext
  .simp
  .intro j h1 h2
   simp at h1;simp
   by_cases e:i=j
   .subst e;simp
   .rw [af (λq=>e q.symm),List.getElem_set_ne e];simp
theorem ql (p n c:Nat) (A:Option Addr) (w:World) (h1:1<=n) (h2:n<=4096) (hc:w.cell? ⟨p,0,none⟩=some (.slice A n c)):
 Calls prog 157 #[.pointer (some ⟨p,0,none⟩)] w λe w'=>e=.returned (.int .i64 (iM n))/\w=w':=by
 obtain⟨H,hH⟩:=nm' (iM n);rw [<-hH];have HH:=J hH;clear hH;go_enter func157,ntmps157;go_wp21;refine aoT (sr n h1 h2 _) ?_;rw [<-HH.o];go_wp21;go_ret;exact⟨rfl,rfl⟩
theorem Xv (p n c g c1 H:Nat) (A:Option Addr) (d:Dg) (w:World) (hd:d.ok) (h1:1<=n) (h2:n<=4096) (hH:H=iM n) (mW:p<w.heap.size) (hc:w.cell? ⟨p,0,none⟩=some (.slice A n c)) (hc1:w.cell? ⟨p,1+H,none⟩=some (.slice (some ⟨g,0,none⟩) 1 c1)) (hb:ai w g 25 d.cells):
 Calls prog 109 #[.pointer (some ⟨p,0,none⟩)] w λe w'=>e=.returned (.agg (Vk d H).cells)/\al w w':=by
 have Vb:H<=12:=by rw [hH];exact(pT n h1 h2).1
 have aoj:(H:Int)<13:=by omega
 have⟨HH,HD,HC,HC1⟩:=J4' hH hd hc hc1;clear hH hd hc hc1;refine Oz ?_;intro aF fz;go_enter func109,ntmps109;go_wp21;refine aoT (ql p n c A _ h1 h2 ((Kept.cell aF (p:=⟨p,0,none⟩) mW (λf=>f)).trans HC.o)) ?_;rw [<-HH.o];have d1:=(Kept.cell aF (p:=⟨p,1+H,none⟩) mW (λf=>f)).trans HC1.o;have tB:=bX hb aF;have hh0:=bH tB;have hg0:=bG tB;have Bz:=ai.lt hb;go_wp21;refine aoS (P1 d HD.o H Vb _) λw2 bd=>?_;have oK:=bX fz bd;have TT:=bH oK;have mB:=ai.aC oK;go_wp21;refine bu results109 rfl rfl dU kH (ai.cw oK _ _) ⟨rfl,?_⟩;exact Kept.putAt (aF.trans bd) _ _ _ (λh=>by omega)
theorem Qb {P:Program} {ops:Array Oper} {Q:Exit->Act->World->Prop} {S:World->Prop} {od:List (Nat×Nat)} {k:Nat} {l:List Oper} {r:List (Nat×Nat)} {a:Act} {w:World} {o:Oper} (Dl:o.guard=none) (x y:Operand) (T:TypeId)
 (ho:o.op=.makeSlice T x y) {v s v':Value} {w':World} (hx:a.eval x=v) (hy:a.eval y=s)
 (dz:(Instr.makeSlice T v s).run P w=.ok v' w') (hS:S w->S w') (h:dZ P ops Q S od r l (a.put o.dst v') w'):dZ P ops Q S od ((k,0)::r) (o::l) a w:=by
 have hw:Region.wanted o (yielded ops a.tmps)=true:=by simp [Region.wanted,Dl]
 unfold dZ;rw [ak hw];refine .inl ?_;unfold Oper.wp execOp;simp only [ho,Sem.run_bind,Sem.run_pure,Result.andThen_ok,hx,hy,dz];exact⟨.inr hS,h⟩
theorem UT (n:Nat):cY (List.replicate n Dg.zero)=List.replicate (n*8) (.int .u8 0):=by
 induction n with
 |zero=>simp [cY]
 |succ n ih=>rw [List.replicate_succ,o_,ih,show(n+1)*8=8+n*8 by omega,<-List.replicate_append_replicate];rfl
theorem aiE (n:Nat):(madeCells Dg.zero.cells (n*8)).toList=cY (List.replicate n Dg.zero):=by
 rw [UT];apply List.ext_getElem
 .simp [madeCells]
 .intro i h1 h2
  have h8:i%8<8:=Nat.mod_lt _ ad;simp only [madeCells,List.getElem_replicate];simp only [Array.getElem_toList,Array.getElem_map,Array.getElem_range];show(Dg.zero.cells[i%8]!)=_;generalize i%8=j at h8
  rcases(by omega:j=0∨j=1∨j=2∨j=3∨j=4∨j=5∨j=6∨j=7)with rfl|rfl|rfl|rfl|rfl|rfl|rfl|rfl<;>rfl
theorem acC (w:World) (n:Nat) (h:n<=100000):
 ∃w',(Instr.makeSlice 23 (.int .i64 (n:Int)) (.int .i64 (n:Int))).run prog w=.ok (.slice (some ⟨w.heap.size,0,none⟩) n n) w'/\ai w' w.heap.size 25 (cY (List.replicate n Dg.zero)).toArray/\al w w':=by
 obtain⟨i,hi,hz,h1,h2⟩:=info_parts MW;have hr:=run_makeSlice (P:=prog) w 23 25 i _ underlying23 hi hz .i64 .i64 n n ad (Int.le_refl _) (by rw [h1];simp;omega) Tk ad;simp only [rc]at hr;rw [h1]at hr;refine⟨_,hr,?_,dM w _⟩
 have:(madeCells (Value.agg Dg.zero.cells).cells (n*8))=(cY (List.replicate n Dg.zero)).toArray:=by
  rw [<-aiE n];rfl
 rw [this];exact bN w _ _
def p5 (l:List Dg) (H v:Nat):List Dg:=(List.range (2^(H - v))).map (fc l v)
def part (l:List Dg) (N v k:Nat):List Dg:=(List.range N).map λj=>if j<k then fc l v j else Dg.zero
section
variable (l:List Dg)
include l
theorem Ff (N v:Nat):part l N v 0=List.replicate N Dg.zero:=by
 simp [part,List.map_const']
theorem rJ (N v k:Nat):(part l N v k).length=N:=by simp [part]
theorem Cl (N v k:Nat):(part l N v k).set k (fc l v k)=part l N v (k+1):=by
 apply List.ext_getElem
 .simp [part]
 .intro j h1 h2
  simp [part]at h1⊢;rw [List.getElem_set]
  by_cases e:k=j
  .subst e;simp
  .rw [af e]
   simp
   by_cases q:j<k
   .rw [ak q,ak ad]
   .rw [af q,af ad]
theorem Ka (H v:Nat):part l (2^(H - v)) v (2^(H - v))=p5 l H v:=by
 apply List.ext_getElem
 .simp [part,p5]
 .intro j h1 h2
  simp [part]at h1;simp [part,p5,h1]
end
structure Lv (w:World) (base p cg cc:Nat) (f:Nat->Value) (G:Nat->Nat) (l:List Dg) (H v:Nat):Prop where
 blk:kK w p f
 f0:f 0=.slice (some ⟨cg,0,none⟩) l.length cc
 own:w.ownsRow base 25 8 (.slice (some ⟨cg,0,none⟩) l.length cc) l.length (cY l)
 fl:∀u,u<=v->f (1+u)=.slice (some ⟨G u,0,none⟩) (2^(H - u)) (2^(H - u))
 lv:∀u,u<=v->ai w (G u) 25 (cY (p5 l H u)).toArray
 inj:∀u u',u<=v->u'<=v->G u=G u'->u=u'
 kV:∀u,u<=v->base<=G u/\¬G u=p/\¬G u=cg
 bp:base<=p
 pc:¬p=cg
theorem Lv.ext {w w':World} {base p:Nat} {f:Nat->Value} {l:List Dg} {H v:Nat} (h:Lv w base p cg cc f G l H v) (hx:al w w'):Lv w' base p cg cc f G l H v:=
 ⟨h.blk.ext hx,h.f0,aI h.own hx,h.fl,λu hu=>bX (h.lv u hu) hx,h.inj,h.kV,h.bp,h.pc⟩
theorem Lv.cgl {w:World} {base p:Nat} {f:Nat->Value} {l:List Dg} {H v:Nat} (h:Lv w base p cg cc f G l H v):cg<w.heap.size:=(h.own.lt cg rfl).2
theorem Lv.step {w w':World} {base p:Nat} {f:Nat->Value} {l:List Dg} {H v g:Nat} (h:Lv w base p cg cc f G l H v) (hb:base<=w.heap.size) (hg:w.heap.size<=g) (hk:Kept (·=p) w w')
 (hT:kK w' p (λj=>if j=1+(v+1)then .slice (some ⟨g,0,none⟩) (2^(H - (v+1))) (2^(H - (v+1)))else f j)) (hB:ai w' g 25 (cY (p5 l H (v+1))).toArray):
 ∃f' G',Lv w' base p cg cc f' G' l H (v+1):=by
 have hcg:=h.cgl;have mW:=h.blk.lt;refine⟨_,λu=>if u=v+1 then g else G u,hT,?_,cU h.own hk (λx hx=>?_),λu hu=>?_,λu hu=>?_,λu u' hu hu' e=>?_,λu hu=>?_,h.bp,h.pc⟩
 .simp [show¬(0=1+(v+1))by omega,h.f0]
 .have:cg=x:=by simpa [Value.ownBlock]using hx
  have:=h.pc
  omega
 .by_cases e:u=v+1
  .subst e;simp
  .simp only [af e,af (show¬(1+u=1+(v+1))by omega)];exact h.fl u ad
 .by_cases e:u=v+1
  .subst e;simp only [if_true];exact hB
  .simp only [af e]
   exact bK (h.lv u ad) hk (h.kV u ad).2.1
 .by_cases e1:u=v+1
  .by_cases e2:u'=v+1
   .omega
   .simp only [ak e1,af e2]at e
    have:=(h.lv u' ad).lt
    omega
  .by_cases e2:u'=v+1
   .simp only [af e1,ak e2]at e
    have:=(h.lv u ad).lt
    omega
   .simp only [af e1,af e2]at e
    exact h.inj u u' ad ad e
 .by_cases e:u=v+1
  .simp only [ak e];omega
  .simp only [af e];exact h.kV u ad
def jJ (w:World) (base p:Nat) (l:List Dg):Prop:=∃cg cc f G,Lv w base p cg cc f G l (iM l.length) (iM l.length)
theorem jJ.ext {w w':World} {base p:Nat} {l:List Dg} (h:jJ w base p l) (hx:al w w'):jJ w' base p l:=by
 obtain⟨cg,cc,f,G,h⟩:=h;exact⟨cg,cc,f,G,h.ext hx⟩
theorem jJ.low {w:World} {base AV p:Nat} {l:List Dg} (h:jJ w base p l) (hb:AV<=base):jJ w AV p l:=by
 obtain⟨cg,cc,f,G,h⟩:=h;exact⟨cg,cc,f,G,h.blk,h.f0,eI h.own hb,h.fl,h.lv,h.inj,λu hu=>⟨ax hb (h.kV u hu).1,(h.kV u hu).2⟩,ax hb h.bp,h.pc⟩
section
variable (l:List Dg)
include l
theorem rD (H v k:Nat) (hk:k<2^(H - v)):(p5 l H v).getD k Dg.zero=fc l v k:=by simp [p5,hk]
theorem sw (H v:Nat):(p5 l H v).length=2^(H - v):=by simp [p5]
theorem PD (H v:Nat):∀d∈p5 l H v,d.ok:=by
 intro d hd;simp [p5]at hd;obtain⟨k,_,rfl⟩:=hd;exact B9 l v k
theorem aaq (H:Nat):p5 l H H=[fc l H 0]:=by simp [p5]
end
theorem sI (H v:Nat) (h:v<H):2^(H - v)=2*2^(H - (v+1)):=by rw [show H - v=H - (v+1)+1 by omega,Nat.pow_succ];omega
def L0 (w w':World) (e:Ending) (l:List Dg):Prop:=∃p,e=.returned (.tuple #[.pointer (some ⟨p,0,none⟩),.int .i64 0])/\jJ w' w.heap.size p l/\al w w'
theorem P0 (b off cap:Nat) (l:List Dg) (n:Nat) (hn:n=l.length) (h1:1<=n) (h2:n<=4096) (hok:∀d∈l,d.ok) (w:World) (hr:Row w b off (cY l)):
 Calls prog 154 #[.slice (some ⟨b,off,none⟩) n cap] w λe w'=>L0 w w' e l:=by
 have HN:=J hn;have HO:=J hok;clear hn hok;have hb:=pT n h1 h2;obtain⟨H,hH⟩:=nm' (iM n);rw [<-hH]at hb;have HH:=J hH;obtain⟨Vb,hnH⟩:=hb;have HP:=J hnH;clear hH hnH;obtain⟨N,hN⟩:=nm' (2^H);have rA:N<=4096:=by rw [hN];exact ax (Nat.pow_le_pow_right ad Vb) ap
 have hwN:IntKind.i64.wrap (2^H)=(N:Int):=by
  have:(2:Int)^H=(N:Int):=by rw [hN];simp
  rw [this,im];omega
 have rX:=J hN;clear hN;go_enter func154,ntmps154;go_wp21;refine aoT (sr n h1 h2 _) ?_;rw [<-HH.o];go_wp21;refine(Mn b off cap l n HN.o h2 _ hr).mono ?_;rintro e w1 ⟨v1,rfl,qD,aw⟩;obtain⟨cg,cc,rfl,hcg,acb,xi,vu,hl⟩:=xB qD h1;clear hl xi vu;have TN:kK (w1.alloc (.cells #[.slice (some ⟨cg,0,none⟩) n cc,.slice none 0 0,.slice none 0 0,.slice none 0 0,.slice none 0 0,.slice none 0 0,.slice none 0 0,.slice none 0 0,.slice none 0 0,.slice none 0 0,.slice none 0 0,.slice none 0 0,.slice none 0 0,.slice none 0 0] 256)) w1.heap.size (λi=>if i=0 then .slice (some ⟨cg,0,none⟩) n cc else .slice none 0 0):=bN w1 _ _;go_wp21;have JI:=aw.alloc (.cells #[.slice (some ⟨cg,0,none⟩) n cc,.slice none 0 0,.slice none 0 0,.slice none 0 0,.slice none 0 0,.slice none 0 0,.slice none 0 0,.slice none 0 0,.slice none 0 0,.slice none 0 0,.slice none 0 0,.slice none 0 0,.slice none 0 0,.slice none 0 0] 256);have oL:=aI qD (dM w1 (.cells #[.slice (some ⟨cg,0,none⟩) n cc,.slice none 0 0,.slice none 0 0,.slice none 0 0,.slice none 0 0,.slice none 0 0,.slice none 0 0,.slice none 0 0,.slice none 0 0,.slice none 0 0,.slice none 0 0,.slice none 0 0,.slice none 0 0,.slice none 0 0] 256));have hpw:=aw.size;have amr:=acb.lt;generalize (w1.alloc (.cells #[.slice (some ⟨cg,0,none⟩) n cc,.slice none 0 0,.slice none 0 0,.slice none 0 0,.slice none 0 0,.slice none 0 0,.slice none 0 0,.slice none 0 0,.slice none 0 0,.slice none 0 0,.slice none 0 0,.slice none 0 0,.slice none 0 0,.slice none 0 0] 256))=W at TN JI oL⊢;clear qD acb;generalize w1.heap.size=p at TN hpw amr⊢;have mW:=TN.lt;refine fH (λw1=>al W w1) [(0,2),(1,2),(2,2),(4,2),(5,2),(3,0),(6,2),(7,0)] ?_;refine fI ?_
 repeat first|refine cx ?_|refine de fU (by intro w1 hS;skip;exact fV) ?_|refine dc fU ?_
 obtain⟨w2,iV,pJ,bd⟩:=acC W.drew N ad;have y2:al W w2:=((kR _ W).drew).trans bd;have hG:W.heap.size=W.drew.heap.size:=rfl;rw [<-hG]at iV pJ;clear hG;refine Qb rfl (.tmp 21) (.tmp 21) 23 rfl rfl rfl iV (λ_=>y2) ?_;clear iV;have hT2:=TN.ext y2;have hc2:=hT2.cell 1 ad;have hf2:=ai.frozen hT2;refine fx ?_;have hT3:=hT2.set 1 (.slice (some ⟨W.heap.size,0,none⟩) N N);have Ga:=ai.kV pJ (p:=⟨p,1,none⟩) (show W.heap.size≠p by omega) (.slice (some ⟨W.heap.size,0,none⟩) N N);have y3:al w (w2.setCell ⟨p,1,none⟩ (.slice (some ⟨W.heap.size,0,none⟩) N N)):=Kept.setCell (JI.trans y2) ⟨p,1,none⟩ _ (λh=>by have:p<w.heap.size:=h;omega);have JE:=cU (aI oL y2) (Kept.setCell (S:=(·=p)) (kR _ w2) ⟨p,1,none⟩ (.slice (some ⟨W.heap.size,0,none⟩) N N) (λ_=>rfl)) (λg hg=>by simp [Value.ownBlock]at hg;omega);clear hc2 hf2 hT2 pJ TN oL;generalize W.heap.size=G0 at hT3 Ga y3 JE mW⊢;generalize w2.setCell ⟨p,1,none⟩ (.slice (some ⟨G0,0,none⟩) N N)=W3 at hT3 Ga y3 JE⊢;clear y2 bd JI aw;go_wp21;refine(iZ Dg.zero adT _ ap _).mono ?_;rintro e w4 ⟨e4,eS⟩;obtain⟨Z,hZ⟩:=nm' abU;replace e4:e=.returned (.agg Z.cells):=by rw [e4,hZ];rfl
 subst e4;have HZ:=J hZ;clear hZ;have Vj:=hT3.ext eS;have hB4:=bX Ga eS;have hc4:=Vj.cell 1 ad;have amR:=Vj.lt;simp only [if_true]at hc4;go_wp21;have YJ:kK _ p _:=Vj.ext (dM w4 (.cells Z.cells 25));have hB5:=ai.alloc hB4 (.cells Z.cells 25);have hQ5:=bN w4 25 Z.cells;have y5:=(y3.trans eS).alloc (.cells Z.cells 25);have xk:=aI JE (eS.alloc (.cells Z.cells 25));have hgq:=ai.lt hB4;generalize (w4.alloc (.cells #[.int .u8 Z.x0,.int .u8 Z.x1,.int .u8 Z.x2,.int .u8 Z.x3,.int .u8 Z.x4,.int .u8 Z.x5,.int .u8 Z.x6,.int .u8 Z.x7] 25))=W5 at YJ hB5 hQ5 y5 xk⊢;clear hc4 Vj hB4 eS hT3 Ga y3 JE;generalize w4.heap.size=q at hQ5 amR hgq⊢
 go_loopw [34] (λt34 wr=>∃(k:Nat),k<=N/\t34=.int .i64 k/\ai wr G0 25 (cY (part l N 0 k)).toArray/\Kept (·=G0) W5 wr) (λt34 _=>N - (intOf t34).toNat)
 case atStart=>exact⟨0,by omega,rfl,by rw [Ff];exact hB5,kR _ _⟩
 case round=>
  obtain⟨k,hk,rfl,hB,hK5⟩:=hrel;have hTr:kK wr p _:=bK YJ hK5 ad;have hc1:=hTr.cell 1 ad;simp only [if_true]at hc1;have hpr:=hTr.lt;have hQr:=bK hQ5 hK5 ad;have gB:=hr.lt;have YR:=(hr.ext y5).kept hK5 ad;have hBl:=ai.lt hB
  by_cases aP:k<N
  .have gD:(k:Int)<N:=by omega
   by_cases TX:k<n
   .have amJ:(k:Int)<n:=by omega
    have nS:k<l.length:=by have:=HN.o;omega
    obtain⟨Iq,Rn⟩:=YR.ZT k nS;have hbr:=YR.lt;go_upto_region 11 with(fail);refine fH (λw1=>al wr w1) [(0,2),(1,2),(2,2),(3,2),(4,1),(5,2),(6,2),(7,2),(8,2),(9,1),(10,0),(11,2),(12,0)] ?_;refine fI ?_
    repeat first|refine cx ?_|refine de fU (by intro w1 hS;have d1:=(Kept.cell hS (p:=⟨p,1,none⟩) hpr (λf=>f)).trans hc1;have d2:=(YR.ext hS).ZT k nS;have d3:=d2.1;have d4:=d2.2;exact fV) ?_|refine dc fU ?_
    refine au (λK hK=>?_);go_simp;go_wp21;refine(Gz l[k] (HO.o _ (ed nS)) _).mono ?_;rintro e w6 ⟨e6,nU⟩;obtain⟨V,hV⟩:=nm' (fc l 0 k);replace e6:e=.returned (.agg V.cells):=by rw [e6,hV];simp [fc,List.getElem?_eq_getElem nS]
    subst e6;have HV:=J hV;clear hV;have y6:al wr w6:=((kR _ wr).drew).trans nU;refine hK.out _ _ (λ_=>y6) ?_;clear hK K;have hkM:k*8+8<=(cY (part l N 0 k)).length:=by rw [eh,rJ];omega
    have hB6:=bX hB y6;have hh6:=bH hB6 (k*8) 8;rw [cJ (by simpa using hkM)]at hh6;have hm6:=ai.aC hB6;have Va:=ai.cw hB6 (k*8) V.cells;rw [ve _ k (by rw [rJ];exact aP) V,HV.o,Cl]at Va;rw [<-HV.o]at Va;refine fx ?_;go_wp21;go_roundw
    case rel=>exact⟨k+1,aP,by go_num,Va,Kept.putAt (hK5.trans (Kept.ext y6)) _ _ _ (λ_=>rfl)⟩
    case measure=>simp only [intOf];omega
   .have amJ:¬(k:Int)<n:=by omega
    have hql:=ai.lt hQr
    have hnk:fc l 0 k=Z:=by
     have:=HN.o;rw [HZ.o];simp [fc,List.getElem?_eq_none (show l.length<=k by omega)]
    have LX:=J hnk;clear hnk;go_upto_region 12 with(fail);refine fH (λw1=>al wr w1) [(0,2),(1,2),(2,2),(3,2),(4,1),(5,2),(6,1),(7,2),(8,0)] ?_;refine fI ?_
    repeat first|refine cx ?_|refine de fU (by intro w1 hS;have d1:=(Kept.cell hS (p:=⟨p,1,none⟩) hpr (λf=>f)).trans hc1;have d2:=bX hQr hS;have d3:=bH d2;have d4:=bG d2;exact fV) ?_|refine dc fU ?_
    have hkM:k*8+8<=(cY (part l N 0 k)).length:=by rw [eh,rJ];omega
    have y6:al wr wr.drew:=(kR _ wr).drew;have hB6:=bX hB y6;have hh6:=bH hB6 (k*8) 8;rw [cJ (by simpa using hkM)]at hh6;have hm6:=ai.aC hB6;have Va:=ai.cw hB6 (k*8) Z.cells;rw [ve _ k (by rw [rJ];exact aP) Z,<-LX.o,Cl]at Va;rw [LX.o]at Va;refine fx ?_;go_wp21;go_roundw
    case rel=>exact⟨k+1,aP,by go_num,Va,Kept.putAt (hK5.trans (Kept.ext y6)) _ _ _ (λ_=>rfl)⟩
    case measure=>simp only [intOf];omega
  .have ek:k=N:=by omega
   rw [ek]at hB;clear ek
   have eY:ai wr G0 25 (cY (p5 l H 0)).toArray:=by
    have:=Ka l H 0;rw [Nat.sub_zero,<-rX.o]at this;rw [<-this];exact hB
   have tD:=cU xk hK5 (λg hg=>by simp [Value.ownBlock]at hg;omega);have hxr:al w wr:=y5.trans' hK5 (λi hi e=>by have:=y5.size;omega)
   have hL0:∃f G,Lv wr w.heap.size p cg cc f G l H 0:=⟨_,λ_=>G0,hTr,by simp [HN.o],by rw [<-HN.o];exact tD,λu hu=>by
    obtain rfl:u=0:=by omega
    simp [rX.o],λu hu=>by
    obtain rfl:u=0:=by omega
    exact eY,λu u' hu hu' _=>by omega,λu hu=>by omega,by omega,by omega⟩
   have HL0:=J hL0;clear hL0 eY hB tD hTr hQr hc1 YR hK5;go_wp21
   go_loopw [63] (λt63 wr=>∃(v:Nat),v<=H/\t63=.int .i64 v/\(∃f G,Lv wr w.heap.size p cg cc f G l H v)/\al w wr) (λt63 _=>H - (intOf t63).toNat)
   case atStart=>exact⟨0,by omega,rfl,HL0.o,hxr⟩
   case round=>
    obtain⟨wo,rfl⟩:∃wo:World,wo=wr:=⟨_,rfl⟩;obtain⟨v,hv,rfl,⟨f,G,hL⟩,hx⟩:=hrel
    by_cases JB:v<H
    .obtain⟨M,hM⟩:=nm' (2^(H - (v+1)))
     obtain⟨N2,Bu⟩:=nm' (2^(H - v));have hNM:N2=2*M:=by rw [Bu,hM];exact sI H v JB
     have Z':N2<=4096:=by rw [Bu];exact ax (Nat.pow_le_pow_right ad (show H - v<=12 by omega)) ap
     have hM4:M<=4096:=by omega
     obtain⟨v1,mJ⟩:=nm' (v+1);have om:IntKind.i64.wrap ((v:Int)+1)=v1:=by rw [im];omega
     have hq1:(N2:Int).tdiv 2=M:=by rw [Int.tdiv_eq_ediv_of_nonneg ad];omega
     have hwM:IntKind.i64.wrap (M:Int)=M:=by rw [im];omega
     have TO:=hL.blk.cell (1+v) ad;rw [hL.fl v (cr _),<-Bu]at TO;have hpr:=hL.blk.lt;have amX:(v:Int)<13:=by omega
     have aii:(v1:Int)<13:=by omega
     have⟨HV,HM,Ue,Qn⟩:=J4' mJ hM Bu hNM;clear mJ hM Bu hNM;go_upto_region 17 with(fail);refine fH (λw1=>al wo w1) [(0,2),(1,2),(2,2),(3,2),(4,2),(5,2),(6,2),(7,2),(8,1),(9,2),(10,2),(12,2),(13,2),(11,0),(14,2),(15,0)] ?_;refine fI ?_
     repeat first|refine cx ?_|refine de fU (by intro w1 hS;have d1:=(Kept.cell hS (p:=⟨p,1+v,none⟩) hpr (λf=>f)).trans TO;exact fV) ?_|refine dc fU ?_
     obtain⟨w7,Ru,Va,zK⟩:=acC wo.drew M ad;have y7:al wo w7:=((kR _ wo).drew).trans zK;have O7:wo.heap.size=wo.drew.heap.size:=rfl;rw [<-O7]at Ru Va;clear O7;refine Qb rfl (.tmp 76) (.tmp 76) 23 rfl rfl rfl Ru (λ_=>y7) ?_;clear Ru;have hT7:=hL.blk.ext y7;have hc7:=hT7.cell (1+v1) (by have:=HV.o;omega);have hf7:=ai.frozen hT7;refine fx ?_;obtain⟨U,hU⟩:=nm' (Value.slice (some ⟨wo.heap.size,0,none⟩) M M);rw [<-hU];have hT8:=hT7.set (1+v1) U;have hB8:=ai.kV Va (p:=⟨p,1+v1,none⟩) (show wo.heap.size≠p by omega) U;have Gh:Kept (·=p) wo (w7.setCell ⟨p,1+v1,none⟩ U):=Kept.setCell (Kept.ext y7) ⟨p,1+v1,none⟩ U (λ_=>rfl);have y8:al w (w7.setCell ⟨p,1+v1,none⟩ U):=Kept.setCell (hx.trans y7) ⟨p,1+v1,none⟩ _ (λh=>by have:p<w.heap.size:=h;omega);have hc8:=hT8.cell (1+v1) (by have:=HV.o;omega);simp only [if_true]at hc8;have hgv:=(hL.kV v (cr _)).2.1;have amz:=(hL.lv v (cr _)).lt;have agZ:=bK (hL.lv v (cr _)) Gh hgv
     have ahz:(w7.setCell ⟨p,1+v1,none⟩ U).cell? ⟨p,1+v,none⟩=some (.slice (some ⟨G v,0,none⟩) N2 N2):=by
      rw [hT8.cell (1+v) ad,af (by have:=HV.o;omega),hL.fl v (cr _),Ue.o]
     clear hc7 hf7 hT7 Va TO zK y7;generalize w7.setCell ⟨p,1+v1,none⟩ U=W8 at hT8 hB8 Gh y8 hc8 agZ ahz⊢;subst hU;have aez:=hT8.lt;have amy:=hB8.lt;have hbo:=hx.size;have uG:wo.heap.size<=wo.heap.size:=cr _;have amm:=hbo;obtain⟨g,hg⟩:=nm' wo.heap.size;rw [<-hg]at hT8 hB8 hc8 amy hpr amz⊢;have HG:=J hg;have hgb:w.heap.size<=g:=by omega
     clear hg uG hbo;go_wp21
     go_loopw [89] (λt89 wr=>∃(k:Nat),k<=M/\t89=.int .i64 k/\ai wr g 25 (cY (part l M (v+1) k)).toArray/\Kept (·=g) W8 wr) (λt89 _=>M - (intOf t89).toNat)
     case atStart=>exact⟨0,by omega,rfl,by rw [Ff];exact hB8,kR _ _⟩
     case round=>
      obtain⟨k3,jq,rfl,hB9,hK9⟩:=hrel;have ahv:=(Kept.cell hK9 (p:=⟨p,1+v,none⟩) aez (show¬p=g by omega)).trans ahz;have ahw:=(Kept.cell hK9 (p:=⟨p,1+v1,none⟩) aez (show¬p=g by omega)).trans hc8;have hLr:=bK agZ hK9 ad;have aeA:p<wr.heap.size:=gK aez hK9.size
      by_cases aai:k3<M
      .have anU:(k3:Int)<M:=by omega
       have⟨HC1,IC,Lt⟩:=J3' ahv ahw aai;clear ahv ahw;go_wp21;refine(JP p (G v) g v v1 k3 N2 M N2 M (p5 l H v) (part l M (v+1) k3) wr HV.o ad (by rw [sw];exact Ue.o) (by rw [rJ]) (by have:=Qn.o;omega) aai Z' (PD l H v) HC1.o IC.o hLr hB9 aeA).mono ?_;rintro e w9 ⟨rfl,amg,amh⟩;go_wp21;go_roundw
       case rel=>
        refine⟨k3+1,aai,by go_num,?_,hK9.trans amh⟩;rw [<-Cl]
        have e:fc l (v+1) k3=tX ((p5 l H v).getD (2*k3) Dg.zero) ((p5 l H v).getD (2*k3+1) Dg.zero):=by
         have:=Ue.o;have:=Qn.o;rw [rD l H v _ ad,rD l H v _ ad]
         rfl
        rw [e];exact amg
       case measure=>simp only [intOf];omega
      .have ek3:k3=M:=by omega
       rw [ek3]at hB9;clear ek3
       have agX:ai wr g 25 (cY (p5 l H (v+1))).toArray:=by
        have:=Ka l H (v+1);rw [<-HM.o]at this;rw [<-this];exact hB9
       have TS:=HG.o;have Gi:Kept (·=p) wo wr:=Gh.trans' hK9 (λi hi e=>by omega);have hTT:kK wr p _:=bK hT8 hK9 ad;rw [HV.o,HM.o]at hTT;have JC:=hL.step amm ad Gi hTT agX;have wH:=J JC;have zL:al w wr:=y8.trans' hK9 (λi hi e=>by omega);clear JC hTT agX hB9;go_wp21;go_roundw
       case rel=>exact⟨v1,by have:=HV.o;omega,rfl,by rw [HV.o];exact wH.o,zL⟩
       case measure=>have:=HV.o;simp only [intOf];omega
    .obtain rfl:v=H:=by omega
     have HL:=J hL;clear hL;go_wp21
     go_ret2
     exact⟨p,rfl,⟨cg,cc,f,G,by rw [<-HN.o,<-HH.o];exact HL.o⟩,hx⟩
theorem iY (base p:Nat) (l:List Dg) (w:World) (h1:1<=l.length) (h2:l.length<=4096) (h:jJ w base p l):
 Calls prog 109 #[.pointer (some ⟨p,0,none⟩)] w λe w'=>e=.returned (.agg (vI l).cells)/\al w w':=by
 obtain⟨cg,cc,f,G,h⟩:=h;have hb:=pT l.length h1 h2;have hc:=h.blk.cell 0 ad;rw [h.f0]at hc;have hc1:=h.blk.cell (1+iM l.length) ad;rw [h.fl _ (cr _),Nat.sub_self,Nat.pow_zero]at hc1;have hB:=h.lv _ (cr _);rw [aaq]at hB;exact Xv p l.length cc (G _) 1 (iM l.length) _ (fc l (iM l.length) 0) w (B9 _ _ _) h1 h2 rfl h.blk.lt hc hc1 hB
section
variable (A:Option Addr) (b off cap:Nat) (l:List Ins) (n:Nat) (hn:n=l.length) (h1:1<=n) (h2:n<=2048) (hok:∀i∈l,i.ok) (hA:0<n->A=some ⟨b,off,none⟩) (w:World) (hr:0<n->Row w b off (db l))
include A b off cap l n hn h1 h2 hok hA w hr
theorem ru:
 Calls prog 125 #[.slice A n cap] w λe w'=>L0 w w' e (l.map iq):=by
 have HN:=J hn;have HO:=J hok;have hr:=hr h1;obtain rfl:=hA h1;have qB:=hr.lt;clear hn hok hA;obtain⟨w0,tE,VM,aF⟩:=PF w n ad;go_enter func125,ntmps125;go_upto_region 3 with(fail);go_step
 iterate 2 refine kE ?_
 refine ia rfl _ _ 23 rfl rfl rfl tE ?_;clear tE;go_wp21
 go_loopw [4,20] (λt4 t20 wr=>∃(k:Nat),k<=n/\t20=.int .i64 k/\wr.ownsRow w.heap.size 25 8 t4 k (cY ((l.take k).map iq))/\al w wr) (λ_ t20 _=>n - (intOf t20).toNat)
 case atStart=>exact⟨0,cI _,rfl,VM,aF⟩
 case round=>
  obtain⟨k,hk,rfl,ho,hx⟩:=hrel;have pW:∀i,i<w.heap.size->(u4:Value).ownBlock=some i->False:=λi hi e=>by have:=(ho.lt i e).1;omega
  have qw:=J pW;clear pW
  by_cases aP:k<n
  .have nS:k<l.length:=by have:=HN.o;omega
   obtain⟨VY,LF⟩:=(hr.ext hx).ins k nS;have gB:=(hr.ext hx).lt;go_upto_region 7 with(fail);have hx':=hx.alloc (.cells (l[k]).cells 71);have oL:=ho.alloc (.cells (l[k]).cells 71);go_step
   iterate 2 refine kE ?_
   refine wpList_step (λK hK=>?_);go_wp21;refine aoS (EV l[k] (HO.o _ (ed nS)) _) λw1 aw=>?_;refine hK _ _ ?_;clear hK K;obtain⟨v2,w2,iV,mq,eV⟩:=L7 (w1.alloc (.cells (iq l[k]).cells 25)) _ _ _ ((l.take k).map iq) ((aI oL aw).alloc _) w1.heap.size 0 1 1 [iq l[k]] rfl (by simpa [cY]using Row.cF (bN w1 25 (iq l[k]).cells)) ad (by have:=(hx'.trans aw).size;simp;omega)
   iterate 1 refine kE ?_
   refine cj rfl (.tmp 24) (.tmp 27) 23 rfl rfl rfl rfl iV ?_;clear iV;go_wp21;go_roundw
   case rel=>exact⟨k+1,aP,by go_num,by rw [List.take_succ_eq_append_getElem nS,qy];exact mq,((hx'.trans aw).alloc _).trans' eV qw.o⟩
   case measure=>simp only [intOf];omega
  .have e:k=n:=by omega
   subst e;rw [kI (Nat.le_of_eq HN.o.symm)]at ho;obtain⟨g,c,rfl,hg,aE,hc,vu,hl⟩:=xB ho h1;have HL:=J hl;clear hl hc vu;go_wp21;refine(P0 g 0 c (l.map iq) _ HL.o h1 ad (by simp;exact λi _=>JK i) _ aE).mono ?_;rintro e w1 ⟨p,rfl,ht,aw⟩;go_wp21
   go_ret2
   exact⟨p,rfl,ht.low hx.size,hx.trans aw⟩
theorem K_:
 Calls prog 79 #[.slice A n cap] w λe w'=>e=.returned (.tuple #[.agg (kg l).cells,.int .i64 0])/\al w w':=by
 have⟨HN,HO,HA,HR⟩:=J4' hn hok hA hr;clear hn hok hA hr;refine Oz ?_;intro aF fz;go_enter func79,ntmps79;go_wp21;refine(ru A b off cap l n HN.o h1 h2 HO.o HA.o _ (λh=>(HR.o h).ext aF)).mono ?_;rintro e w1 ⟨p,rfl,ht,aw⟩;have g_:=bX fz aw;go_wp21;refine(iY _ p (l.map iq) _ abo abr ht).mono ?_;rintro e w2 ⟨rfl,bd⟩;have oK:=bX g_ bd;have TT:=bH oK;have mB:=ai.aC oK;go_wp21;refine di results79 rfl rfl dU kH (ai.cw oK _ _) ⟨rfl,?_⟩;exact Kept.putAt ((aF.trans aw).trans bd) _ _ _ (λh=>by omega)
end
theorem p7 (pc halt:Int) (A:Option Addr) (b off cap:Nat) (l:List Int) (n:Nat) (hn:n=l.length) (hg:cQ pc halt n=true) (hA:0<n->A=some ⟨b,off,none⟩) (w:World) (hr:0<n->Row w b off (bj l)):
 Calls prog 107 #[.agg (ae pc A n cap halt)] w λe w'=>L0 w w' e (l.map dx):=by
 obtain⟨h1,h2,h3,h4,h5,h6⟩:=cG hg;have⟨HG,HN,HA,HR⟩:=J4' hg hn hA hr;clear hn hA hr hg;have aF:al w _:=dM w (.cells (ae pc A n cap halt) 47);have hA0:ai _ w.heap.size 47 (ae pc A n cap halt):=bN w _ _;go_enter func107,ntmps107;go_wp21;refine aoS (fT pc halt A n cap _) λw1 aw=>?_;rw [HG.o];have oS:=bX hA0 aw;have hc1:=bC oS;have y1:=aF.trans aw;go_wp21;refine(Ed A b off cap l n HN.o ad HA.o _ (λh=>(HR.o h).ext y1)).mono ?_;rintro e w2 ⟨v,rfl,ho,bd⟩;obtain⟨g,c,rfl,hg,aE,hc,vu,hl⟩:=xB ho h1;have HL:=J hl;clear hl hc vu hc1;go_wp21;refine(P0 g 0 c (l.map dx) n HL.o h1 ad (by simp;exact λi _=>vz i) _ aE).mono ?_;rintro e w3 ⟨p,rfl,ht,dv⟩;go_wp21
 go_ret2
 exact⟨p,rfl,ht.low (y1.trans bd).size,(y1.trans bd).trans dv⟩
theorem FA (pc halt:Int) (A:Option Addr) (b off cap:Nat) (l:List Int) (n:Nat) (hn:n=l.length) (hg:cQ pc halt n=true) (hA:0<n->A=some ⟨b,off,none⟩) (w:World) (hr:0<n->Row w b off (bj l)):
 Calls prog 116 #[.agg (ae pc A n cap halt)] w λe w'=>e=.returned (.tuple #[.agg (jN pc halt l).cells,.int .i64 0])/\al w w':=by
 obtain⟨h1,h2,h3,h4,h5,h6⟩:=cG hg;have⟨HG,HN,HA,HR⟩:=J4' hg hn hA hr;clear hn hA hr hg;obtain⟨D,hD⟩:=nm' (jN pc halt l);rw [<-hD];have HD:=J hD;clear hD;obtain⟨M,hM⟩:=nm' (kC l);have HM:=J hM;clear hM;have aF:al w _:=(dM w (.cells (ae pc A n cap halt) 47)).alloc (.cells Dg.zero.cells 25);have hA0:ai _ w.heap.size 47 (ae pc A n cap halt):=ai.alloc (bN w _ _) (.cells Dg.zero.cells 25);have fz:ai _ (w.heap.size+1) 25 Dg.zero.cells:=ai.ea (w.alloc (.cells (ae pc A n cap halt) 47)) _ _ _ aB;go_enter func116,ntmps116;go_wp21;refine(p7 pc halt A b off cap l n HN.o HG.o HA.o _ (λh=>(HR.o h).ext aF)).mono ?_;rintro e w1 ⟨p,rfl,ht,aw⟩;have oS:=bX hA0 aw;have hc1:=bC oS;have g_:=bX fz aw;have LD:=ai.lt g_;have hla:=ai.lt oS;go_wp21;refine fH (λw2=>al w1 w2) [(0,2),(1,1),(2,2),(3,1),(4,2),(5,1),(6,2),(7,2),(8,0),(9,0),(10,0),(11,2)] ?_;refine fI ?_
 repeat first|refine cx ?_|refine de fU (by intro w1 hS;have d1:=bC (bX oS hS);exact fV) ?_|refine dc fU ?_
 refine au (λK hK=>?_);go_simp;go_wp21;refine(iY _ p (l.map dx) _ abo abr (ht.ext ((kR _ w1).drew))).mono ?_;rintro e w2 ⟨e2,bd⟩;replace e2:e=.returned (.agg M.cells):=by rw [e2,HM.o];rfl
 subst e2;have y2:al w1 w2:=((kR _ w1).drew).trans bd;refine hK.out _ _ (λ_=>y2) ?_;clear hK K;refine au (λK hK=>?_);go_simp;go_wp21;refine(iU pc halt n M (by rw [HM.o];exact kj _ _) ad ad ad _).mono ?_;rintro e w3 ⟨e3,dv⟩;replace e3:e=.returned (.agg D.cells):=by rw [e3,HD.o,HM.o,jN,<-HN.o]
 subst e3;have y3:=y2.trans dv;refine hK.out _ _ (λ_=>y3) ?_;clear hK K;have o4:=bX g_ y3;have hh3:=bH o4;have T0:=ai.aC o4;refine fx ?_;go_wp21;refine di results116 rfl rfl dU kH (ai.cw o4 _ _) ⟨rfl,?_⟩;exact Kept.putAt ((aF.trans aw).trans y3) _ _ _ (λh=>by omega)
structure Ws where (pc halt words:Int) (mem:Dg) (ins:Ins) (pa:Option Addr) (pn pk:Nat) (ra:Option Addr) (rn rk:Nat) (wa:Option Addr) (wn wk:Nat)
abbrev Ws.cells (s:Ws):Array Value:=#[.int .i64 s.pc,.int .i64 s.halt,.int .i64 s.words,.int .u8 s.mem.x0,.int .u8 s.mem.x1,.int .u8 s.mem.x2,.int .u8 s.mem.x3,.int .u8 s.mem.x4,.int .u8 s.mem.x5,.int .u8 s.mem.x6,.int .u8 s.mem.x7,.int .i64 s.ins.op,.int .i64 s.ins.a,.int .i64 s.ins.b,.int .i64 s.ins.c,.slice s.pa s.pn s.pk,.slice s.ra s.rn s.rk,.slice s.wa s.wn s.wk]
attribute [go_sem] Ws.cells
theorem us (s:Ws) (w:World):
 Calls prog 183 #[.agg s.cells] w λe w'=>e=.returned (.bool (cQ s.pc s.halt s.words))/\al w w':=by
 have aF:al w _:=dM w (.cells s.cells 74);go_enter func183,ntmps183;go_wp21
 all_goals go_ret
 all_goals refine⟨aR ?_,aF⟩
 all_goals (rw [Bool.eq_iff_iff];simp [cQ];omega)
def Ws.bare (s:Ws):Bool:=decide (s.rn=0)&&decide (s.wn=0)
theorem Fk (s:Ws) (w:World):
 Calls prog 184 #[.agg s.cells] w λe w'=>e=.returned (.bool s.bare)/\al w w':=by
 have aF:al w _:=dM w (.cells s.cells 74)
 rcases Nat.eq_zero_or_pos s.rn with h1|h1
 .have b1:(s.rn==0)=true:=by simp [h1]
  have b1':((s.rn:Int)==0)=true:=by simp [h1]
  have H1:=J h1;clear h1
  rcases Nat.eq_zero_or_pos s.wn with h2|h2
  .have b2:(s.wn==0)=true:=by simp [h2]
   have b2':((s.wn:Int)==0)=true:=by simp [h2]
   have H2:=J h2;clear h2;go_enter func184,ntmps184;go_wp21;go_ret;exact⟨by simp [Ws.bare,H1.o,H2.o],aF⟩
  .have b2:(s.wn==0)=false:=by simp;omega
   have b2':((s.wn:Int)==0)=false:=by simp;omega
   have H2:=J h2;clear h2;go_enter func184,ntmps184;go_wp21;go_ret;exact⟨by have:=H2.o;simp [Ws.bare,H1.o];omega,aF⟩
 .have b1:(s.rn==0)=false:=by simp;omega
  have b1':((s.rn:Int)==0)=false:=by simp;omega
  have H1:=J h1;clear h1;go_enter func184,ntmps184;go_wp21;go_ret;exact⟨by have:=H1.o;simp [Ws.bare];omega,aF⟩
def Ws.same (s:Ws):Dg:=mA s.pc (if s.halt=0 then 2 else s.halt) s.words s.mem
theorem Fp (s:Ws) (hm:s.mem.ok) (hr:cQ s.pc s.halt s.words=true) (w:World):
 Calls prog 185 #[.agg s.cells] w λe w'=>e=.returned (.agg s.same.cells)/\al w w':=by
 obtain⟨h1,h2,h3,h4,h5,h6⟩:1<=s.words/\s.words<=256/\0<=s.pc/\s.pc<=2048/\0<=s.halt/\s.halt<=2:=by
  simp [cQ]at hr
  omega
 clear hr;have HM:=J hm;clear hm;have aF:al w _:=(dM w (.cells s.cells 74)).alloc (.cells Dg.zero.cells 25);have hA0:ai _ w.heap.size 74 s.cells:=ai.alloc (bN w _ _) (.cells Dg.zero.cells 25);have fz:ai _ (w.heap.size+1) 25 Dg.zero.cells:=ai.ea (w.alloc (.cells s.cells 74)) _ _ _ aB;obtain⟨D,hD⟩:=nm' s.same;rw [<-hD];have HD:=J hD;clear hD
 by_cases h0:s.halt=0
 .have tB:(s.halt==0)=true:=by simp [h0]
  have H0:=J h0;clear h0;go_enter func185,ntmps185;go_wp21;refine(iU s.pc 2 s.words s.mem HM.o ad ad ad _).mono ?_;exact akK
 .have tB:(s.halt==0)=false:=by simp [h0]
  have H0:=J h0;clear h0;go_enter func185,ntmps185;go_wp21;refine(iU s.pc s.halt s.words s.mem HM.o ad ad ad _).mono ?_;exact akK
def Ws.stays (s:Ws) (size:Int):Prop:=¬s.halt=0∨size<=s.pc
theorem Ws.stays.split {s:Ws} {size:Int} (h:s.stays size):(s.halt !=0)=true∨((s.halt !=0)=false/\size<=s.pc):=by
 unfold Ws.stays at h
 by_cases e:s.halt=0
 .exact .inr ⟨by simp [e],h.resolve_left (λf=>f e)⟩
 .exact .inl (by simp [e])
theorem IV (s:Ws) (p:Dg) (size:Int) (w:World) (hm:s.mem.ok) (xp:1<=size) (td:size<=2048) (hr:cQ s.pc s.halt s.words=true) (dw:s.stays size) (hi:s.ins=⟨0,0,0,0⟩) (hp:s.pn=0) (hb:s.bare=true):
 Calls prog 126 #[.agg #[.int .u8 p.x0,.int .u8 p.x1,.int .u8 p.x2,.int .u8 p.x3,.int .u8 p.x4,.int .u8 p.x5,.int .u8 p.x6,.int .u8 p.x7],.int .i64 size,.agg (mA s.pc s.halt s.words s.mem).cells,.agg s.cells] w λe w'=>e=.returned (.tuple #[.agg s.same.cells,.int .i64 0])/\al w w':=by
 obtain⟨h1,h2,h3,h4,h5,h6⟩:1<=s.words/\s.words<=256/\0<=s.pc/\s.pc<=2048/\0<=s.halt/\s.halt<=2:=by
  simp [cQ]at hr
  omega
 have⟨HM,HR,HB,HI⟩:=J4' hm hr hb hi;have Iu:¬(0:Int)<s.pn:=by omega
 have hp1:¬0<s.pn:=by omega
 have hP:=J hp;have qT:=J dw.split;clear hm hr hb hi hp dw;obtain⟨B,hB⟩:=nm' (mA s.pc s.halt s.words s.mem);rw [<-hB];have HBf:=J hB;clear hB;refine ajI ?_;intro aF eY kB fz;go_wp21;refine aoS (us s _) λw1 aw=>?_;rw [HR.o];have y1:=aF.trans aw;have wK:=bX eY aw;have dK:=bX kB aw;have g_:=bX fz aw;clear aF aw eY kB fz;have o8:=ai.lt dK;have hlR:=ai.lt g_;go_wp21;refine afE ?_;intro K hK;go_wp21;refine(iU s.pc s.halt s.words s.mem HM.o ad ad ad _).mono ?_;rintro e w2 ⟨e2,bd⟩;replace e2:e=.returned (.agg B.cells):=by rw [e2,HBf.o]
 subst e2;have y2:al w1 w2:=((kR _ w1).drew).trans bd;refine hK.out _ _ (λ_=>y2) ?_;clear hK K;refine fx ?_;have gx:=bX dK y2;have oK:=bX g_ y2;have hc2:=bC gx;have TT:=bH gx;have Pj:=bG gx;have dO:(s.ins.op==0)=true:=by rw [HI.o];rfl
 have ki:(s.ins.a==0)=true:=by rw [HI.o];rfl
 have hI3:(s.ins.b==0)=true:=by rw [HI.o];rfl
 have hI4:(s.ins.c==0)=true:=by rw [HI.o];rfl
 rcases qT.o with dw|⟨dw,hsz⟩
 all_goals
  go_wp21;refine aoS (Fk s _) λw3 dv=>?_;rw [HB.o];have qL:=bX gx dv;have o4:=bX oK dv;have hh3:=bH qL;have hg3:=bG qL;go_wp21;refine aoS (Fp s HM.o HR.o _) λw4 eS=>?_;have Jp:=bX o4 eS;have hh4:=bH Jp;have D1:=ai.aC Jp;go_wp21;refine di results126 rfl rfl dU kH (ai.cw Jp _ _) ⟨rfl,?_⟩;exact Kept.putAt (((y1.trans y2).trans dv).trans eS) _ _ _ (λh=>by omega)
abbrev nN:Array Value:=#[.int .i64 0,.int .i64 0,.int .i64 0,.int .u8 0,.int .u8 0,.int .u8 0,.int .u8 0,.int .u8 0,.int .u8 0,.int .u8 0,.int .u8 0,.int .i64 0,.int .i64 0,.int .i64 0,.int .i64 0,.slice none 0 0,.slice none 0 0,.slice none 0 0]
attribute [go_sem] nN
abbrev ju (pc halt:Int) (k:Nat) (M:Dg):Array Value:=#[.int .i64 pc,.int .i64 halt,.int .i64 k,.int .u8 M.x0,.int .u8 M.x1,.int .u8 M.x2,.int .u8 M.x3,.int .u8 M.x4,.int .u8 M.x5,.int .u8 M.x6,.int .u8 M.x7,.int .i64 0,.int .i64 0,.int .i64 0,.int .i64 0,.slice none 0 0,.slice none 0 0,.slice none 0 0]
attribute [go_sem] ju
def I2 (pc halt:Int) (l:List Int):Ws:=⟨pc,halt,l.length,kC l,⟨0,0,0,0⟩,none,0,0,none,0,0,none,0,0⟩
theorem Nf (A:Option Addr) (b off cap:Nat) (l:List Ins) (n:Nat) (hn:n=l.length) (h1:1<=n) (h2:n<=2048) (hok:∀i∈l,i.ok) (hA:0<n->A=some ⟨b,off,none⟩)
 (pc halt:Int) (A':Option Addr) (b' bL eF:Nat) (m:List Int) (k:Nat) (hk:k=m.length) (hg:cQ pc halt k=true) (qK:0<k->A'=some ⟨b',bL,none⟩) (dw:¬halt=0∨(n:Int)<=pc) (w:World) (hr:0<n->Row w b off (db l)) (Gk:0<k->Row w b' bL (bj m)):
 Calls prog 118 #[.slice A n cap,.agg (ae pc A' k eF halt)] w λe w'=>e=.returned (.tuple #[.agg (I2 pc halt m).cells,.int .i64 0])/\al w w':=by
 obtain⟨k1,k2,h3,h4,h5,h6⟩:=cG hg;have⟨HG,HN,HO,HA,HR,Uc,HA',HR'⟩:=J8' hg hn hok hA hr hk qK Gk
 have qT:aoR ((halt !=0)=true∨((halt !=0)=false/\(n:Int)<=pc)):=J (by
  by_cases e:halt=0
  .exact .inr ⟨by simp [e],dw.resolve_left (λf=>f e)⟩
  .exact .inl (by simp [e]))
 clear hn hA hr hg hok hk qK Gk dw;obtain⟨M,hM⟩:=nm' (kC m);have HM:=J hM;clear hM;have aF:al w _:=(dM w (.cells (ae pc A' k eF halt) 47)).alloc (.cells nN 74);have hA0:ai _ w.heap.size 47 (ae pc A' k eF halt):=ai.alloc (bN w _ _) (.cells nN 74);have fz:ai _ (w.heap.size+1) 74 nN:=ai.ea (w.alloc (.cells (ae pc A' k eF halt) 47)) _ _ _ aB;go_enter func118,ntmps118;go_wp21;refine(ru A b off cap l n HN.o h1 h2 HO.o HA.o _ (λh=>(HR.o h).ext aF)).mono ?_;rintro e w1 ⟨p,rfl,ht,aw⟩;have oS:=bX hA0 aw;have g_:=bX fz aw;have hc1:=bC oS;have y1:=aF.trans aw;clear aF aw hA0 fz;go_wp21;refine(p7 pc halt A' b' bL eF m k Uc.o HG.o HA'.o _ (λh=>(HR'.o h).ext y1)).mono ?_;rintro e w2 ⟨q,rfl,hq,bd⟩;have uC:=bX oS bd;have oK:=bX g_ bd;have y2:=y1.trans bd;have Io:=bN w2 178 #[.pointer (some ⟨q,0,none⟩)];have dv:=dY w2 (.cells #[.pointer (some ⟨q,0,none⟩)] 178);have LA:=bX uC dv;have o4:=bX oK dv;have VW:=hq.ext dv;have y3:=y2.trans dv;clear hc1;go_wp21;generalize (w2.alloc (.cells #[.pointer (some ⟨q,0,none⟩)] 178))=W at Io LA o4 VW y3⊢;have hlA:=ai.lt LA;have hlR:=ai.lt o4;have gU:=ai.lt Io;generalize w2.heap.size=h2s at Io gU⊢;clear uC oK oS g_ dv hq ht y1 y2 bd;refine ajK ?_;intro y;refine gQ ?_ ?_
 .refine ci (λK hK=>?_);go_simp
  go_wp21;refine(iY _ q (m.map dx) _ abn abp (VW.ext y)).mono ?_;rintro e w4 ⟨e4,eS⟩;replace e4:e=.returned (.agg M.cells):=by rw [e4,HM.o];rfl
  subst e4;have y4:al W w4:=y.trans eS;refine hK.out _ _ (λ_=>y4) ?_;clear hK K;refine ww ?_;intro K hK;refine hK.out _ _ (λ_=>y4.alloc _) ?_;clear hK K;refine LL ?_;have Q8:=bX LA (y4.alloc (.cells (ju pc halt k M) 74));have tV:=bX o4 (y4.alloc (.cells (ju pc halt k M) 74));have y5:=y3.trans (y4.alloc (.cells (ju pc halt k M) 74));have zC:=bN w4 74 (ju pc halt k M);have T_:=ai.lt zC;generalize (w4.alloc (.cells (ju pc halt k M) 74))=W5 at Q8 tV y5 zC T_⊢;generalize w4.heap.size=c9 at zC T_⊢;have hc5:=bC Q8;have hh5:=bH tV;have hm5:=ai.aC tV;have hh6:=bH zC;have hg6:=bG zC
  rcases qT.o with dw|⟨dw,hsz⟩
  all_goals
   exact akZ
 .refine ci (λK hK=>?_);go_simp
  refine hK.out _ _ (λ_=>y.alloc _) ?_;clear hK K;refine ww ?_;intro K hK;go_wp21;refine(iY _ q (m.map dx) _ abn abp (VW.ext (y.alloc _))).mono ?_;rintro e w4 ⟨e4,eS⟩;replace e4:e=.returned (.agg M.cells):=by rw [e4,HM.o];rfl
  subst e4;have y4:al W w4:=(y.alloc _).trans eS;refine hK.out _ _ (λ_=>y4) ?_;clear hK K;have rA:ai w4 W.heap.size 74 nN:=bX (bN W.drew 74 nN) eS;have hh4:=bH rA;have D1:=ai.aC rA;have hl4:=ai.lt rA;refine LL ?_;have yp:al W (putAt w4 W.heap.size 0 (ju pc halt k M)):=Kept.putAt y4 _ _ _ (λh=>by omega);have Q8:=bX LA yp;have tV:=bX o4 yp;have y5:=y3.trans yp;have zC:ai (putAt w4 W.heap.size 0 (ju pc halt k M)) W.heap.size 74 (ju pc halt k M):=ai.cw rA _ _;have T_:=ai.lt zC;generalize (putAt w4 W.heap.size 0 (ju pc halt k M))=W5 at Q8 tV y5 zC T_⊢;generalize W.heap.size=c9 at zC T_⊢;have hc5:=bC Q8;have hh5:=bH tV;have hm5:=ai.aC tV;have hh6:=bH zC;have hg6:=bG zC
  rcases qT.o with dw|⟨dw,hsz⟩
  all_goals
   exact akZ
end Mc
open Sq
section
variable{M:Nat}
variable {w:World} {N:Nat} {c:Pc} {p:Pr} {A:Option Addr} {n cap:Nat} {F:SF}
theorem me.mono {F:EF} (h:me w N A n F) (hM:N<=M):me w M A n F:=by
 obtain⟨h1,h2,b,off,h3,h4⟩:=h;exact⟨h1,h2,b,off,h3,h4.mono hM⟩
theorem jm.mono (h:jm w N A n F) (hM:N<=M):jm w M A n F:=by
 obtain⟨h1,h2,b,off,h3,h4⟩:=h;exact⟨h1,h2,b,off,h3,h4.mono hM⟩
theorem nj.mono (h:nj w N c p) (hM:N<=M):nj w M c p:=⟨h.name,h.B7,h.aL,h.An,h.bY.mono hM,h.vars.mono hM,h.start.mono hM,h.turn.mono hM,h.params.mono hM,h.cd.mono hM,h.silent,h.rL,h.quiet.mono hM,h.bO.mono hM⟩
end
open Go.Deep Go.ChangeShapes Go.WideShapes
section
variable {H:Type} {enc:TypeId×Value->H} {P:Program} {w:World} {base:Nat} {held:Bool}
def light (P:Program) (t:TypeId) (d:DataW H):Prop:=(d.weights P t).all (·<=reachBytes)=true
theorem light_each:∀{ts:List TypeId} {l:List (DataW H)} (_:(DataW.weightsEach P ts l).all (·<=reachBytes)=true) (i:Nat) (t:TypeId) (d:DataW H),ts[i]?=some t->l[i]?=some d->light P t d
 |[],_,_,i,_,_,ht,_=>absurd ht aB
 |_::_,[],_,i,_,_,_,hd=>absurd hd aB
 |t::ts,x::l,h,i,t',d,ht,hd=>by
  rw [DataW.weightsEach,List.all_append,gR]at h
  cases i with
  |zero=>
   simp only [List.getElem?_cons_zero,Option.some.injEq]at ht hd;subst ht hd;exact h.1
  |succ i=>exact light_each h.2 i t' d (by simpa using ht) (by simpa using hd)
end
theorem Row.head {w:World} {b off:Nat} {c r:List Value} (h:Row w b off (c++r)):Proofs.YtnhelcmddjbafaaGreatDoor.has w b off c.length=true/\gets w b off c.length=c.toArray:=by
 obtain⟨h1,h2⟩:=h.sub 0 c.length aB;refine⟨h1,h2.trans ?_⟩;rw [re,List.take_left]
section
variable {H:Type} {enc:TypeId×Value->H} {w:World} {base:Nat} {held:Bool}
theorem UM:prog.cellsOf 223=7:=by kernel_rfl
theorem AW:prog.bytesOf 223=112:=by kernel_rfl
end
def O5:List Int:=[0,0,1,1,1,2,2,2,2,2,2,2,2,2,2,2,2,2]
def Aq:List Int:=[1,2,1,0,0,0,1,0,2,1]
theorem Jh {w:World} (h:w.ShapedOpen prog):5<w.heap.size:=by
 obtain⟨h1,-⟩:=h;have hs:(((begin prog (λ_ _=>0) default).world.heap[5]?).bind Obj.row?).isSome=true:=by kernel_rfl
 obtain⟨⟨zero,t⟩,hz⟩:=Option.isSome_iff_exists.1 hs;obtain⟨cs,hc,-⟩:=h1 5 zero t (of_decide_eq_true aV) hz;exact(Array.getElem?_eq_some_iff.1 hc).1

