import Derived.Scope
import Derived.Test.YtnhelcmddjbafaaGreatDoorTpap
set_option maxHeartbeats 4000000
set_option maxRecDepth 100000
open Go.Proofs.Tryz
namespace Go.Proofs.YtnhelcmddjbafaaGreatDoor
open Go.RowKit
namespace Mc
open Sq
variable{dst:Option Tmp}{pos:String}{after:Array Edge}{guard:Option (Nat×Bool)}{K:Act->World->Prop}{ρ:Operand->Value}{B0 ob fb sb lb L ib zb dd:Nat}{sv sa:i_}{m1 m0:List Int}{fN:Int}{w0:World}
theorem AO:ga prog 42=true:=by kernel_rfl
theorem vN:dr prog 42=some 14:=by kernel_rfl
theorem Fz {eD:TypeId} {x:Operand} {a:Act} {w:World} {Q:Exit->Act->World->Prop} (hx:d' (a.eval x)=true) (hh:has w (aG (a.eval x)) (aH (a.eval x)) 14=true):
 Oper.wp prog ⟨dst,.load 42 x,eD,pos,after,guard⟩ a w K Q=K (a.put dst (.agg (gets w (aG (a.eval x)) (aH (a.eval x)) 14))) w:=aY 14 AO vN hx hh
theorem NV {eD:TypeId} {x:Operand} {w:World} (hx:d' (ρ x)=true) (hh:has w (aG (ρ x)) (aH (ρ x)) 14=true):
 (execOp ρ ⟨dst,.load 42 x,eD,pos,after,guard⟩).run prog w=.ok (.value (.agg (gets w (aG (ρ x)) (aH (ρ x)) 14))) w:=aD 14 AO vN hx hh
theorem M' (w:World) (g off:Nat) (hh:has w g off 14=true):(loadVar 42 ⟨g,off,none⟩).run prog w=.ok (.agg (gets w g off 14)) w:=cD prog w _ g off 14 AO vN hh
attribute [go_sem] AO vN
attribute [go_sem↓high] Fz M' NV
attribute [go_sem high] Fz
abbrev onC (c:Pc) (part:Int) (vs ag:i_):Array Value:=#[.string c.name,.int .i64 c.aL,c.bY.v,c.vars.v,c.start.v,c.turn.v,c.params.v,c.cd.v,.string c.silent,c.quiet.v,c.bO.v,.int .i64 part,vs.v,ag.v]
abbrev u_:Array Value:=#[.pointer none,.int .i64 0,.slice none 0 0,.slice none 0 0,.int .i64 0,.slice none 0 0,.int .i64 0,.int .i64 0,.slice none 0 0,.int .i64 0,.slice none 0 0,.int .i64 0,.slice none 0 0]
abbrev Eu (cb j:Nat):Array Value:=#[.pointer (some ⟨cb,0,none⟩),.int .i64 j,.slice none 0 0,.slice none 0 0,.int .i64 0,.slice none 0 0,.int .i64 0,.int .i64 0,.slice none 0 0,.int .i64 0,.slice none 0 0,.int .i64 0,.slice none 0 0]
abbrev agJ (cb j:Nat) (sv sa:i_):Array Value:=#[.pointer (some ⟨cb,0,none⟩),.int .i64 j,sv.v,sa.v,.int .i64 0,.slice none 0 0,.int .i64 0,.int .i64 0,.slice none 0 0,.int .i64 0,.slice none 0 0,.int .i64 0,.slice none 0 0]
abbrev agK (cb j:Nat) (sv sa:i_) (fb n:Nat) (lb L lk:Nat):Array Value:=#[.pointer (some ⟨cb,0,none⟩),.int .i64 j,sv.v,sa.v,.int .i64 0,.slice (some ⟨fb,0,none⟩) n n,.int .i64 0,.int .i64 0,.slice none 0 0,.int .i64 0,.slice none 0 0,.int .i64 0,.slice (some ⟨lb,0,none⟩) L lk]
abbrev agL (cb j:Nat) (sv sa:i_) (fb n:Nat) (lb L lk:Nat) (d:Int):Array Value:=#[.pointer (some ⟨cb,0,none⟩),.int .i64 j,sv.v,sa.v,.int .i64 0,.slice (some ⟨fb,0,none⟩) n n,.int .i64 0,.int .i64 0,.slice none 0 0,.int .i64 0,.slice none 0 0,.int .i64 d,.slice (some ⟨lb,0,none⟩) L lk]
structure AF (w:World) (B0 B1 cb ob fb sb lb:Nat) (k:Cd) (p:Pr) (j:Nat) (V A:List Int) (sv sa:i_):Prop where
 code:gC w B0 cb k p
 res:ai w (ob+1) 50 u_
 ov:w.ownsRow B1 21 1 sv.v sv.n (bj (fQ p j V))
 oa:w.ownsRow B1 21 1 sa.v sa.n (bj (fC p j A))
 first:ai w fb 21 (bj (fF p j (fQ p j V) (fC p j A))).toArray
 st:ai w sb 47 (ae 0 (some ⟨fb,0,none⟩) (bR p) (bR p) 0)
 row:Row w lb 0 (db (aK p j))
 ops:OpsAt w
theorem AF.ext {w w':World} {B1 cb:Nat} {k:Cd} {p:Pr} {j:Nat} {V A:List Int} (h:AF w B0 B1 cb ob fb sb lb k p j V A sv sa) (hx:al w w'):AF w' B0 B1 cb ob fb sb lb k p j V A sv sa:=
 ⟨h.code.ext hx,bX h.res hx,aI h.ov hx,aI h.oa hx,bX h.first hx,bX h.st hx,h.row.ext hx,h.ops.ext hx⟩
theorem AF.kept {w w':World} {B1 cb kb:Nat} {k:Cd} {p:Pr} {j:Nat} {V A:List Int} {cs:Array Value} (h:AF w B0 B1 cb ob fb sb lb k p j V A sv sa) (hx:Kept (·=kb) w w') (hb:ai w kb 50 cs) (hB:B0<=kb) (h1:ob+1<kb) (h2:¬fb=kb) (h3:¬sb=kb) (h4:¬lb=kb):AF w' B0 B1 cb ob fb sb lb k p j V A sv sa:=
 ⟨h.code.kept hx (λi hi=>by omega),bK h.res hx ad,cU h.ov hx (λg hg e=>dl (E':=50) h.ov ap g hg cs (0,0) (by rw [e];exact hb)),
  cU h.oa hx (λg hg e=>dl (E':=50) h.oa ap g hg cs (0,0) (by rw [e];exact hb)),bK h.first hx h2,bK h.st hx h3,h.row.kept hx h4,h.ops.kept hx ad⟩
theorem QC:∀(i:Nat) (s:Str),¬u_[i]?=some (Value.string s):=λi s h=>by
 have q:=Array.mem_of_getElem? h;simp at q
structure wX (p:Pr) (j:Nat) (V A:List Int):Prop where
 few:Je p=true
 OY:check p=none
 long:¬nB p
 steps:∀i,i<5->aU p i<=65536
 most:aU p j<=128
 abW:¬(kM (aK p j) (2^iM (aU p j)) (0,0,fF p j (fQ p j V) (fC p j A))).2.1=0
inductive uO (p:Pr) (j:Nat) (V A:List Int) (w w':World):Ending->Prop
 |no {P:Option Addr} {i0 i1 i2 i3 i4 i5:Int} {A0 A1 A2 A3 A4 A5:Option Addr} {n0 n1 n2 n3 n4 n5 c0 c1 c2 c3 c4 c5:Nat} (h:¬wX p j V A):uO p j V A w w' (.returned (.tuple #[.agg #[.pointer P,.int .i64 i0,.slice A0 n0 c0,.slice A1 n1 c1,.int .i64 i1,.slice A2 n2 c2,.int .i64 i2,.int .i64 i3,.slice A3 n3 c3,.int .i64 i4,.slice A4 n4 c4,.int .i64 i5,.slice A5 n5 c5],.bool false]))
 |ok (h:wX p j V A) (k:Cd) (x:Ks) (m1:List Int) (hp:x.part=j) (hC:gC w' w'.heap.size x.cb k p)
  (hv:mT w' w'.heap.size x.vs (fQ p j V)) (ha:mT w' w'.heap.size x.ag (fC p j A))
  (hk:L1 w' x (aK p j) (fF p j (fQ p j V) (fC p j A)) m1 (bR p) (2^iM (aU p j)) (aK p j).length):
  uO p j V A w w' (.returned (.tuple #[.agg (x.cells (bR p) (2^iM (aU p j)) (aK p j).length (iM (aU p j))),.bool true]))
abbrev agM (cb j:Nat) (sv sa:i_) (fb n tb N tk lb L lk:Nat) (d:Int):Array Value:=#[.pointer (some ⟨cb,0,none⟩),.int .i64 j,sv.v,sa.v,.int .i64 0,.slice (some ⟨fb,0,none⟩) n n,.int .i64 0,.int .i64 0,.slice none 0 0,.int .i64 0,.slice (some ⟨tb,0,none⟩) (N+1) tk,.int .i64 d,.slice (some ⟨lb,0,none⟩) L lk]
theorem anc:∀n:Fin 128,Lib.bitLen n.val<=7:=by decide+kernel
theorem ahE (n:Nat) (h1:1<=n) (h2:n<=128):iM n<=7:=anc ⟨n - 1,by omega⟩
def aix (w0:World) (l:List Ins) (N:Nat) (m0:List Int) (n:Nat) (w:World) (mb gb gk _kk:Nat):Prop:=
 al w0 w/\ai w mb 47 (ae (kM l N (0,0,m0)).1 (some ⟨gb,0,none⟩) n gk (kM l N (0,0,m0)).2.1)/\Row w gb 0 (bj (kM l N (0,0,m0)).2.2)/\w0.heap.size<=mb/\w0.heap.size<=gb
theorem aiK {F M:World->Nat->Nat->Nat->Nat->Prop} {G:Prop} (h:(∀W a b c d,F W a b c d->M W a b c d)->G) (h2:∀W a b c d,F W a b c d->M W a b c d):G:=h h2
theorem WL (c:Pc) (p:Pr) (part:Int) (j:Nat) (Jz:j<5) (hj:wrap64 ((IntKind.u64.wrap part).tmod 5)=(j:Int)) (vs ag:i_) (V A:List Int) (N:Nat) (w:World) (hzs:∀i,i<5->zS (partOf p i)) (hN:N<=w.heap.size) (h:nj w N c p) (hL:eQ w) (hO:OpsAt w) (qM:Zc c) (hz:eo p<=1099511627776) (hv:mT w N vs V) (ha:mT w N ag A):
 Calls prog 13 #[.agg (onC c part vs ag)] w λe w'=>al w w'/\uO p j V A w w' e:=by
 have L_:=J hzs;clear hzs;have y0:=(dY w (.cells (onC c part vs ag) 42)).alloc (.cells u_ 50);have b0:ai _ w.heap.size 42 (onC c part vs ag):=ai.alloc (bN w _ _) (.cells u_ 50);have s0:ai _ (w.heap.size+1) 50 u_:=ai.ea (w.alloc (.cells (onC c part vs ag) 42)) _ _ _ aB;go_enter func13,ntmps13;go_upto_region 1 with(fail);have⟨jh,fX,wU,FN,HO0,HV,HA,HZ,adt,HJ⟩:=J10 (h.ext y0 hN) (ax hN y0.size) (hL.ext y0) (hO.ext y0) hO (hv.ext y0) (ha.ext y0) hz qM hj;generalize ((w.alloc (.cells (onC c part vs ag) 42)).alloc (.cells u_ 50))=W1 at y0 b0 s0 jh fX wU FN HV HA⊢;generalize pW:(w:World).heap.size=ob at b0 s0⊢;have⟨qw,LP,HS0,cC⟩:=J4' pW b0 s0 y0;clear b0 s0 y0 pW h hN hL hO qM hz hv ha hj;have i1:=bH LP.o;have i2:=bG LP.o;have i3:=LP.o.lt;go_wp21;refine(M7 c p N _ L_.o fX.o jh.o wU.o HZ.o).mono ?_;rintro e w2 ⟨bd,hb⟩;have⟨gf,fp,nQ,oQ⟩:=J4' bd (cC.o.trans bd) (bX LP.o bd) (bX HS0.o bd);clear bd i1 i2 i3
 cases hb with
 |no Dr=>
  have AA:=J Dr;have k1:=bH oQ.o;have k2:=ai.aC oQ.o;have k3:=oQ.o.lt;clear Dr;go_wp21;refine di (t:=50) (g:=ob+1) (cs:=u_) results13 rfl rfl lx (by exact jV) (by exact ai.cw oQ.o 0 _) ⟨?_,.no (λq=>AA.o ⟨q.few,q.OY,q.long,q.steps⟩)⟩;exact Kept.putAt fp.o _ _ _ (λh=>by have:=qw.o;omega)
 |ok hf hc hl hs cb k hk=>
  have⟨HF,HC,uA,qT,HK,lj⟩:=J6' hf hc hl hs hk (Dd.of hc HZ.o);clear hf hc hl hs hk;have i1:=bH nQ.o;have i2:=bG nQ.o;have i3:=nQ.o.lt;go_wp21;refine aoS (Nd c p N _ (ax fX.o gf.o.size) (jh.o.ext gf.o fX.o) adt.o HZ.o HF.o HC.o uA.o) λw3 dv=>?_;have⟨gq,fL,tM,HS3,Lt⟩:=J5' (gf.o.trans dv) (fp.o.trans dv) (bX nQ.o dv) (bX oQ.o dv) ((HK.o.ext dv).up dv.size (cr _));clear dv i1 i2 i3;obtain⟨M,hM⟩:=nm' (aU p j);have Dp:k.m j=M:=by rw [hM];exact HK.o.most j Jz
  have HM:=J hM;have Eh:=J Dp;have i1:=bC tM.o;have i3:=tM.o.lt;have hjj:=HJ.o;have y4:=dY w3 (.cells (Eu cb j) 50);have b4:=bN w3 50 (Eu cb j);clear hM Dp;go_upto_region 5 with(fail);generalize (w3.alloc (.cells (Eu cb j) 50))=w4 at y4 b4⊢;generalize yl:(w3:World).heap.size=kb at b4⊢;have⟨DD,Qj,lp,eU,uy,qS,wS,HE4,Tv⟩:=J9' (show ob+1<kb by have:=HS3.o.lt;omega) yl (fL.o.trans y4) (gq.o.trans y4) (bX tM.o y4) (bX HS3.o y4) ((Lt.o.ext y4).up y4.size (cr _)) y4 b4;clear y4 b4 yl i1 i3 hjj;have i1:=bC Tv.o;have i3:=Tv.o.lt;go_wp21;refine aoT (se cb k _ wS.o.box j Jz) ?_;rw [Eh.o]
  by_cases hM:M<=128
  .have hMI:¬(128:Int)<M:=by omega
   have Ql:=J hM;clear hM;have j1:=bH uy.o;have j2:=bG uy.o;have j3:=uy.o.lt;have j4:=bC uy.o;go_wp21;refine(Wk c p j Jz vs ag V A N _ (ax fX.o eU.o.size) (jh.o.ext eU.o fX.o) (HV.o.ext eU.o) (HA.o.ext eU.o) lj.o).mono ?_;rintro e w5 ⟨sv,sa,rfl,hov,D5,iG⟩;have⟨kv,uJ,tN,OM,OC,OE⟩:=J6' (eU.o.trans iG) (lp.o.trans iG) (bX uy.o iG) (bX qS.o iG) (bX Tv.o iG) (HE4.o.trans iG);have hsz:=Tv.o.lt;have⟨TE,HOV,Uh⟩:=J3' hsz hov D5;clear iG i1 i3 j1 j2 j3 j4 hMI hov D5 hsz;have i1:=bC OC.o;have i3:=OC.o.lt;have i4:=ai.frozen OC.o;go_upto_region 8 with(fail);have k6:Kept (·=kb) w5 ((w5.setCell ⟨kb,2,none⟩ sv.v).setCell ⟨kb,3,none⟩ sa.v):=((kR (·=kb) w5).setCell _ _ (λ_=>rfl)).setCell _ _ (λ_=>rfl);have b6:ai ((w5.setCell ⟨kb,2,none⟩ sv.v).setCell ⟨kb,3,none⟩ sa.v) kb 50 (agJ cb j sv sa):=ai.eK (ai.eK OC.o 2 sv.v) 3 sa.v;have y6:al w ((w5.setCell ⟨kb,2,none⟩ sv.v).setCell ⟨kb,3,none⟩ sa.v):=(uJ.o.setCell ⟨kb,2,none⟩ sv.v (λ(h:kb<w.heap.size)=>by have:=DD.o;have:=qw.o;omega)).setCell ⟨kb,3,none⟩ sa.v (λ(h:kb<w.heap.size)=>by have:=DD.o;have:=qw.o;omega);generalize ((w5.setCell ⟨kb,2,none⟩ sv.v).setCell ⟨kb,3,none⟩ sa.v)=w6 at k6 b6 y6⊢;have⟨wJ,DA,HS6,agr,agm,FJ⟩:=J6' y6 b6 (bK OM.o k6 (by have:=DD.o;omega)) (cU HOV.o k6 (λg hg e=>dl (E':=50) HOV.o ap g hg (Eu cb j) (0,0) (by rw [e];exact OC.o))) (cU Uh.o k6 (λg hg e=>dl (E':=50) Uh.o ap g hg (Eu cb j) (0,0) (by rw [e];exact OC.o))) ((Lt.o.ext OE.o).kept k6 (λi hi=>by have:=Qj.o;omega));have YS:w3.heap.size<=w6.heap.size:=ax OE.o.size k6.size;have alP:=J YS;clear k6 b6 y6 i1 i3 i4 YS;have i1:=bC DA.o;have i3:=DA.o.lt;go_wp21;refine(Bb cb w6.heap.size k p j sv sa (fQ p j V) (fC p j A) w6 (cr _) (FJ.o.up alP.o (cr _)) (mT.eT agr.o (F6 HV.o.2.1)) (mT.eT agm.o (F5 lj.o HA.o.2.1)) lj.o).mono ?_;rintro e w7 ⟨zK,ho⟩;have⟨HE7,El,HC7,HS7⟩:=J4' zK (wJ.o.trans zK) (bX DA.o zK) (bX HS6.o zK);clear i1 i3 zK
   cases ho with
   |bad iF=>exact absurd (vi lj.o Jz V A) iF
   |ok _ fb t_ hF=>
    have HF7:=J hF;have zV:=J t_;have y8:=dY w7 (.cells (ae 0 (some ⟨fb,0,none⟩) (bR p) (bR p) 0) 47);have b8:=bN w7 47 (ae 0 (some ⟨fb,0,none⟩) (bR p) (bR p) 0);clear hF t_;go_upto_region 11 with(fail);generalize (w7.alloc (.cells (ae 0 (some ⟨fb,0,none⟩) (bR p) (bR p) 0) 47))=w8 at y8 b8⊢;generalize EU:(w7:World).heap.size=sb at b8⊢;have⟨HE8,HY8,Df,HS8,Tw,agj⟩:=J6' (HE7.o.trans y8) (El.o.trans y8) (bX HC7.o y8) (bX HS7.o y8) (bX HF7.o y8) b8;have ahT:kb<sb:=by have:=HC7.o.lt;omega
    have alI:=J ahT;clear y8 b8 EU ahT;refine fH (λwz=>al w8 wz) [(0,1),(1,2),(2,2),(3,1),(5,2),(4,0),(6,0),(7,2),(8,0)] ?_;refine fI ?_;have yd:al w8 w8.drew:=(kR _ w8).drew
    repeat first|refine cx ?_|refine de yd zb8 ?_|refine dc yd ?_
    refine au (λK hK=>?_);go_simp;go_wp21;obtain⟨ub,ib0,hiA,hib,Jy⟩:=FJ.o.ins j Jz
    have hsz:(partOf p j).size<=256:=by
     rcases Nat.lt_or_ge 256 (partOf p j).size with q|q
     .exact absurd ⟨j,Jz,q⟩ uA.o
     .exact q
    have LD:=Ez hsz;have hl0:1<=(aK p j).length:=by unfold aK;simp
    have zX:=J (ew hl0 LD);refine(rq cb k _ (bX FJ.o.box (HE8.o.trans yd)) j Jz ib0 0 (aK p j) ub ad ad hiA (Jy.ext (HE8.o.trans yd))).mono ?_;rintro e w9 ⟨v,rfl,hol,tF⟩;obtain⟨lb,lk,rfl,acf,ahL,_⟩:=fh hol zX.o.1 ap;have y9:=yd.trans tF;have HLR:=J acf;have HLG:=J (show w8.heap.size<=lb from ax yd.size ahL);refine hK.out _ _ (λ_=>y9) ?_;clear hK K hol acf ahL ub hiA hib Jy hsz LD hl0
    repeat first|refine cx ?_|refine de y9 zb8 ?_|refine dc y9 ?_
    have Yo:=J (bX Df.o y9);have f1:=bH Yo.o;have f2:=ai.aC Yo.o;have f3:=Yo.o.lt;have f4:=bC Yo.o;have f5:=ai.frozen Yo.o;have HF9:=J (bX Tw.o y9);refine fx ?_
    have hfk:¬fb=kb:=by
     intro e;have q:=HF9.o;rw [e]at q;exact Aa Yo.o ap _ _ q
    have zI:¬sb=kb:=by have:=alI.o;omega
    have su:¬lb=kb:=by have:=HLG.o;have:=Df.o.lt;omega
    have LX:=J (ew hfk (ew zI su))
    have alJ:=J (show AF w9 w3.heap.size w4.heap.size cb ob fb sb lb k p j V A sv sa from
     ⟨FJ.o.ext (HE8.o.trans y9),bX HS8.o y9,aI agr.o (HE8.o.trans y9),aI agm.o (HE8.o.trans y9),HF9.o,bX agj.o y9,HLR.o,HO0.o.ext (HY8.o.trans y9)⟩)
    have M5:Kept (·=kb) w9 ((putAt w9 kb 4 (ae 0 (some ⟨fb,0,none⟩) (bR p) (bR p) 0)).setCell ⟨kb,12,none⟩ (.slice (some ⟨lb,0,none⟩) (aK p j).length lk)):=(Kept.putAt (S:=(·=kb)) (kR _ w9) kb 4 _ (λ_=>rfl)).setCell _ _ (λ_=>rfl);have TI:ai ((putAt w9 kb 4 (ae 0 (some ⟨fb,0,none⟩) (bR p) (bR p) 0)).setCell ⟨kb,12,none⟩ (.slice (some ⟨lb,0,none⟩) (aK p j).length lk)) kb 50 (agK cb j sv sa fb (bR p) lb (aK p j).length lk):=ai.eK (ai.cw Yo.o 4 (ae 0 (some ⟨fb,0,none⟩) (bR p) (bR p) 0)) 12 (.slice (some ⟨lb,0,none⟩) (aK p j).length lk);have S7:al w ((putAt w9 kb 4 (ae 0 (some ⟨fb,0,none⟩) (bR p) (bR p) 0)).setCell ⟨kb,12,none⟩ (.slice (some ⟨lb,0,none⟩) (aK p j).length lk)):=(Kept.putAt (HY8.o.trans y9) kb 4 _ (λ(h:kb<w.heap.size)=>by have:=DD.o;have:=qw.o;omega)).setCell ⟨kb,12,none⟩ _ (λ(h:kb<w.heap.size)=>by have:=DD.o;have:=qw.o;omega);have Af:=alJ.o.kept M5 Yo.o (by have:=Qj.o;omega) DD.o LX.o.1 LX.o.2.1 LX.o.2.2;clear f1 f2 f3 f4 f5;generalize ((putAt w9 kb 4 (ae 0 (some ⟨fb,0,none⟩) (bR p) (bR p) 0)).setCell ⟨kb,12,none⟩ (.slice (some ⟨lb,0,none⟩) (aK p j).length lk))=wA at M5 TI S7 Af⊢;have⟨agq,HYA,HCA,zq⟩:=J4' Af S7 TI (show 1<=M by have:=HM.o;rw [this];unfold aU bT;omega);clear Af S7 TI M5 hfk zI su;have i1:=bC HCA.o;have i3:=HCA.o.lt;have i4:=ai.frozen HCA.o;go_wp21;refine aoT (se cb k _ agq.o.code.box j Jz) ?_;rw [Eh.o];go_wp21;refine(uq M zq.o (by have:=Ql.o;omega) _).mono ?_;rintro e w' ⟨rfl,rfl⟩;go_upto_region 13 with(fail);obtain⟨D,hD⟩:=nm' (iM M);rw [<-hD];have HD:=J hD;have hD7:D<=7:=by rw [HD.o];exact ahE M zq.o Ql.o
    have HD7:=J hD7;have YX:Kept (·=kb) wA (wA.setCell ⟨kb,11,none⟩ (.int .i64 D)):=(kR (·=kb) wA).setCell _ _ (λ_=>rfl);have b11:ai (wA.setCell ⟨kb,11,none⟩ (.int .i64 D)) kb 50 (agL cb j sv sa fb (bR p) lb (aK p j).length lk D):=ai.eK HCA.o 11 (.int .i64 D);have Y':al w (wA.setCell ⟨kb,11,none⟩ (.int .i64 D)):=HYA.o.setCell ⟨kb,11,none⟩ _ (λ(h:kb<w.heap.size)=>by have:=DD.o;have:=qw.o;omega);have Af:=agq.o.kept YX HCA.o (by have:=Qj.o;omega) DD.o LX.o.1 LX.o.2.1 LX.o.2.2;clear i1 i3 i4 hD hD7;generalize (wA.setCell ⟨kb,11,none⟩ (.int .i64 D))=wB at YX b11 Y' Af⊢;have⟨Uk,HYB,zU⟩:=J3' Af Y' b11;clear Af Y' b11 YX;obtain⟨Nn,hNn⟩:=nm' (2^D);have Vg:Nn<=128:=by rw [hNn];exact ax (Nat.pow_le_pow_right ad HD7.o) ap
    have hwN:IntKind.i64.wrap (2^D)=(Nn:Int):=by
     have:(2:Int)^D=(Nn:Int):=by rw [hNn];simp
     rw [this,im];omega
    have⟨rX,IE,Qo,Zl,OI⟩:=J5' hNn Vg (Mv (vi lj.o Jz V A) lj.o (F6 HV.o.2.1) (F5 lj.o HA.o.2.1)) (show∀i∈aK p j,i.ok from λi hi=>aeJ (size:=(aK p j).length) (words:=bR p) (by have:=zX.o.2;omega) (by have:=lj.o.cells;have:=eZ p.vars;unfold bR;omega) (I8 lj.o j Jz i hi)) (vC (vi lj.o Jz V A) lj.o);have aoi:(D:Int)<=7:=by have:=HD7.o;omega
    clear hNn Vg
    have ahx:∀w',al wB w'->ng w' (some ⟨lb,0,none⟩) lb 0 (aK p j).length (aK p j) 0 0 fb 0 (bR p) (fF p j (fQ p j V) (fC p j A)):=λw' hx=>
     ⟨rfl,Uk.o.row.ext hx,rfl,zX.o.1,by have:=zX.o.2;omega,Zl.o,OI.o.symm,by have:=Qo.o.right;rw [OI.o]at this;exact this,Qo.o.B_,(Row.cF Uk.o.first).ext hx,Uk.o.ops.ext hx⟩
    have alq:=J ahx;clear ahx;go_upto_region 13 with(fail);refine fH (λwz=>al wB wz) [(0,2),(1,1),(2,1),(3,2),(4,1),(5,2),(6,0),(7,2),(8,2),(9,2),(10,2),(11,0),(12,2)] ?_;refine fI ?_;have yd:al wB wB.drew:=(kR _ wB).drew
    repeat first|refine cx ?_|refine de yd (by intro w1 hS;have d0:=bX Uk.o.st hS;have d1:=bH d0;have d2:=bG d0;have d3:=d0.lt;have e0:=bX zU.o hS;have e1:=bC e0;have e2:=e0.lt;exact fV) ?_|refine dc yd ?_
    refine au (λK hK=>?_);go_simp;go_wp21;refine(Xt (some ⟨lb,0,none⟩) lb 0 (aK p j).length lk (aK p j) 0 0 fb 0 (bR p) (bR p) (fF p j (fQ p j V) (fC p j A)) Nn (by have:=IE.o;omega) _ (alq.o _ yd)).mono ?_;rintro e wC ⟨vT,rfl,hoT,hxC⟩;have yC:=yd.trans hxC;obtain⟨tb,tk,rfl,abV,ahl,_⟩:=fh hoT ad ap;have HTR:=J abV;have HTG:=J (show wB.heap.size<=tb from ax yd.size ahl);refine hK.out _ _ (λ_=>yC) ?_;clear hK K hoT abV ahl;have DB:=J (bX zU.o yC);have f1:=bC DB.o;have f2:=ai.frozen DB.o;have f3:=DB.o.lt;refine fx ?_;have kD:Kept (·=kb) wC (wC.setCell ⟨kb,10,none⟩ (.slice (some ⟨tb,0,none⟩) (Nn+1) tk)):=(kR (·=kb) wC).setCell _ _ (λ_=>rfl);have bD:ai (wC.setCell ⟨kb,10,none⟩ (.slice (some ⟨tb,0,none⟩) (Nn+1) tk)) kb 50 (agM cb j sv sa fb (bR p) tb Nn tk lb (aK p j).length lk D):=ai.eK DB.o 10 (.slice (some ⟨tb,0,none⟩) (Nn+1) tk);have yD:al w (wC.setCell ⟨kb,10,none⟩ (.slice (some ⟨tb,0,none⟩) (Nn+1) tk)):=(HYB.o.trans yC).setCell ⟨kb,10,none⟩ _ (λ(h:kb<w.heap.size)=>by have:=DD.o;have:=qw.o;omega);have Af:=(Uk.o.ext yC).kept kD DB.o (by have:=Qj.o;omega) DD.o LX.o.1 LX.o.2.1 LX.o.2.2;have htr:=HTR.o.kept kD (by have:=HTG.o;have:=zU.o.lt;omega);have hsD:wB.heap.size<=(wC.setCell ⟨kb,10,none⟩ (.slice (some ⟨tb,0,none⟩) (Nn+1) tk)).heap.size:=ax yC.size kD.size;clear f1 f2 f3 yC hxC;generalize (wC.setCell ⟨kb,10,none⟩ (.slice (some ⟨tb,0,none⟩) (Nn+1) tk))=wD at kD bD yD Af htr hsD⊢;have⟨IG,HYD,Yp,HTD⟩:=J4' Af yD bD htr
    have dz:∀w',al wD w'->kO w' (some ⟨lb,0,none⟩) lb 0 (aK p j).length (aK p j) fb 0 (bR p) 0 0 (fF p j (fQ p j V) (fC p j A)):=λw' hx=>
     ⟨IG.o.ops.ext hx,λ_=>rfl,λ_=>IG.o.row.ext hx,rfl,by have:=zX.o.2;omega,OI.o.symm,by have:=Qo.o.right;rw [OI.o]at this;exact this,Qo.o.B_,(Row.cF IG.o.first).ext hx⟩
    have Ul:=J dz;clear Af yD bD kD htr hsD dz;go_upto_region 14 with(fail);apply aiK (F:=aix wD (aK p j) Nn (fF p j (fQ p j V) (fC p j A)) (bR p))
    case h=>
     intro ky;have Ik:=J ky;clear ky
    -- aln
     refine WU (λwz=>al wD wz) (.op 0 2 (.op 1 1 (.op 2 1 (.op 3 2 (.op 4 1 (.op 5 2 (.fork 6 (.op 7 2 (.op 8 2 (.op 9 2 (.op 10 2 (.op 11 0 (.op 12 0 (.op 13 2 (.op 14 2 .nil)))))))) 11 (.op 6 0 (.op 7 2 (.op 8 2 (.op 9 2 (.op 10 2 (.op 12 0 (.op 13 2 (.op 14 2 .nil))))))))))))))) ?_;refine WV ?_;have YD:=J (pg wD)
     (repeat (first|refine nV ?_|((apply c_);(· exact YD.o);(· go_simp);(· (intro w1 hS;have d0:=bX IG.o.st hS;have d1:=bH d0;have d2:=bG d0;have d3:=d0.lt;have e0:=bX Yp.o hS;have e1:=bC e0;have e2:=e0.lt;go_simp;try with_reducible rfl));refine iJ ?_)|((apply cZ);(· exact YD.o);(· go_simp);refine iJ ?_)))
     refine gQ ?_ ?_
     .skip
      refine ci (λK hK=>?_);go_simp;go_wp21;refine(Hr (some ⟨lb,0,none⟩) lb 0 (aK p j).length lk (aK p j) 0 0 fb 0 (bR p) (bR p) (fF p j (fQ p j V) (fC p j A)) Nn (by have:=IE.o;omega) _ (Ul.o _ (YD.o))).mono ?_;rintro e w1 ⟨v,kk,rfl,Gi,gb,gk,rfl,EQ,hx⟩;have y2:=(YD.o).trans hx;have DF:=J EQ.row;have HGB:=J (show wD.heap.size<=gb from ax (YD.o).size EQ.ge);refine hK.out _ _ (λ_=>y2) ?_;clear hK K EQ hx Gi
      (repeat (first|refine nV ?_|((apply c_);(· exact y2);(· go_simp);(· (intro w1 hS;have d0:=bX IG.o.st hS;have d1:=bH d0;have d2:=bG d0;have d3:=d0.lt;have e0:=bX Yp.o hS;have e1:=bC e0;have e2:=e0.lt;go_simp;try with_reducible rfl));refine iJ ?_)|((apply cZ);(· exact y2);(· go_simp);refine iJ ?_)))
      refine ci (λK hK=>?_);go_simp;have y3:al wD (w1.alloc (.cells #[.int .i64 0,.slice none 0 0,.int .i64 0] 47)):=(y2).alloc _;have z4:=bN w1 47 #[.int .i64 0,.slice none 0 0,.int .i64 0];have s6:al w1 (w1.alloc (.cells #[.int .i64 0,.slice none 0 0,.int .i64 0] 47)):=dY w1 _;have acg:=DF.o.lt;replace DF:=J (DF.o.ext s6);refine hK.out _ _ (λ_=>y3) ?_;clear hK K s6;have lE:wD.heap.size<=w1.heap.size:=(y2).size;generalize (w1.alloc (.cells #[.int .i64 0,.slice none 0 0,.int .i64 0] 47))=w5 at y3 z4 DF⊢;generalize w1.heap.size=mb at z4 lE acg⊢;have rV:=J lE;have HZ:=J z4;clear lE z4;have tt:=J (show¬gb=mb by omega);clear acg
      repeat refine nV ?_
      have hz1:=bH HZ.o;have hz2:=ai.aC HZ.o;have hz3:=HZ.o.lt;refine LL ?_;have dw:=Kept.putAt (S:=(·=mb)) (kR _ w5) mb 0 (ae (kM (aK p j) Nn (0,0,fF p j (fQ p j V) (fC p j A))).1 (some ⟨gb,0,none⟩) (bR p) gk (kM (aK p j) Nn (0,0,fF p j (fQ p j V) (fC p j A))).2.1) (λ_=>rfl);have hyz:al wD (putAt w5 mb 0 (ae (kM (aK p j) Nn (0,0,fF p j (fQ p j V) (fC p j A))).1 (some ⟨gb,0,none⟩) (bR p) gk (kM (aK p j) Nn (0,0,fF p j (fQ p j V) (fC p j A))).2.1)):=Kept.putAt (y3) _ _ _ (λh=>by have:=rV.o;omega);have Vt:ai (putAt w5 mb 0 (ae (kM (aK p j) Nn (0,0,fF p j (fQ p j V) (fC p j A))).1 (some ⟨gb,0,none⟩) (bR p) gk (kM (aK p j) Nn (0,0,fF p j (fQ p j V) (fC p j A))).2.1)) mb 47 (ae (kM (aK p j) Nn (0,0,fF p j (fQ p j V) (fC p j A))).1 (some ⟨gb,0,none⟩) (bR p) gk (kM (aK p j) Nn (0,0,fF p j (fQ p j V) (fC p j A))).2.1):=ai.cw HZ.o 0 _;have yu:=DF.o.kept dw tt.o;clear dw;generalize (putAt w5 mb 0 (ae (kM (aK p j) Nn (0,0,fF p j (fQ p j V) (fC p j A))).1 (some ⟨gb,0,none⟩) (bR p) gk (kM (aK p j) Nn (0,0,fF p j (fQ p j V) (fC p j A))).2.1))=wF at hyz Vt yu⊢;exact Ik.o _ _ _ _ kk ⟨hyz,Vt,yu,rV.o,HGB.o⟩
     .skip
      refine ci (λK hK=>?_);go_simp;have y7:al wD (wD.alloc (.cells #[.int .i64 0,.slice none 0 0,.int .i64 0] 47)).drew:=(dY wD _).drew;have z8:=ai.drew (bN wD 47 #[.int .i64 0,.slice none 0 0,.int .i64 0]);refine hK.out _ _ (λ_=>y7) ?_;clear hK K;generalize (wD.alloc (.cells #[.int .i64 0,.slice none 0 0,.int .i64 0] 47)).drew=w9 at y7 z8⊢;generalize YP:wD.heap.size=mb at z8⊢;have lE:wD.heap.size<=mb:=Nat.le_of_eq YP;clear YP;have rV:=J lE;have HZ:=J z8;clear lE z8
      (repeat (first|refine nV ?_|((apply c_);(· exact y7);(· go_simp);(· (intro w1 hS;have d0:=bX IG.o.st hS;have d1:=bH d0;have d2:=bG d0;have d3:=d0.lt;have e0:=bX Yp.o hS;have e1:=bC e0;have e2:=e0.lt;go_simp;try with_reducible rfl));refine iJ ?_)|((apply cZ);(· exact y7);(· go_simp);refine iJ ?_)))
      refine ci (λK hK=>?_);go_simp;go_wp21;have rC:=HZ.o.lt;refine(Hr (some ⟨lb,0,none⟩) lb 0 (aK p j).length lk (aK p j) 0 0 fb 0 (bR p) (bR p) (fF p j (fQ p j V) (fC p j A)) Nn (by have:=IE.o;omega) _ (Ul.o _ (y7))).mono ?_;rintro e w11 ⟨v,kk,rfl,Gi,gb,gk,rfl,EQ,hx⟩;have Dx:=(y7).trans hx;replace HZ:=J (HZ.o.ext hx);have⟨DF,HGB,tt⟩:=J3' EQ.row (show wD.heap.size<=gb from ax (y7).size EQ.ge) (show¬gb=mb by have:=EQ.ge;omega);clear rC;refine hK.out _ _ (λ_=>Dx) ?_;clear hK K EQ hx Gi
      (repeat (first|refine nV ?_|((apply c_);(· exact Dx);(· go_simp);(· (intro w1 hS;have d0:=bX IG.o.st hS;have d1:=bH d0;have d2:=bG d0;have d3:=d0.lt;have e0:=bX Yp.o hS;have e1:=bC e0;have e2:=e0.lt;go_simp;try with_reducible rfl));refine iJ ?_)|((apply cZ);(· exact Dx);(· go_simp);refine iJ ?_)))
      have hz1:=bH HZ.o;have hz2:=ai.aC HZ.o;have hz3:=HZ.o.lt;refine LL ?_;have dw:=Kept.putAt (S:=(·=mb)) (kR _ w11) mb 0 (ae (kM (aK p j) Nn (0,0,fF p j (fQ p j V) (fC p j A))).1 (some ⟨gb,0,none⟩) (bR p) gk (kM (aK p j) Nn (0,0,fF p j (fQ p j V) (fC p j A))).2.1) (λ_=>rfl);have hyz:al wD (putAt w11 mb 0 (ae (kM (aK p j) Nn (0,0,fF p j (fQ p j V) (fC p j A))).1 (some ⟨gb,0,none⟩) (bR p) gk (kM (aK p j) Nn (0,0,fF p j (fQ p j V) (fC p j A))).2.1)):=Kept.putAt (Dx) _ _ _ (λh=>by have:=rV.o;omega);have Vt:ai (putAt w11 mb 0 (ae (kM (aK p j) Nn (0,0,fF p j (fQ p j V) (fC p j A))).1 (some ⟨gb,0,none⟩) (bR p) gk (kM (aK p j) Nn (0,0,fF p j (fQ p j V) (fC p j A))).2.1)) mb 47 (ae (kM (aK p j) Nn (0,0,fF p j (fQ p j V) (fC p j A))).1 (some ⟨gb,0,none⟩) (bR p) gk (kM (aK p j) Nn (0,0,fF p j (fQ p j V) (fC p j A))).2.1):=ai.cw HZ.o 0 _;have yu:=DF.o.kept dw tt.o;clear dw;generalize (putAt w11 mb 0 (ae (kM (aK p j) Nn (0,0,fF p j (fQ p j V) (fC p j A))).1 (some ⟨gb,0,none⟩) (bR p) gk (kM (aK p j) Nn (0,0,fF p j (fQ p j V) (fC p j A))).2.1))=wF at hyz Vt yu⊢;exact Ik.o _ _ _ _ kk ⟨hyz,Vt,yu,rV.o,HGB.o⟩
    -- END
    intro wE mb gb gk kk Ps;obtain⟨yE,bE,rE,gE,gG⟩:=Ps;obtain⟨r,hr⟩:=nm' (kM (aK p j) Nn (0,0,fF p j (fQ p j V) (fC p j A)));rw [<-hr]at bE rE⊢;have⟨mv,alK,YA,pO,HTE,rV,HBE,Ud⟩:=J8' hr (IG.o.ext yE) (HYD.o.trans yE) (bX Yp.o yE) (HTD.o.ext yE) rE bE (show kb<mb by have:=Yp.o.lt;omega);have i1:=bH bE;have i2:=bG bE;have i3:=bE.lt;have j1:=bH pO.o;have j2:=ai.aC pO.o;have j3:=pO.o.lt;have HGG:=J (show kb<gb by have:=Yp.o.lt;omega);clear yE bE rE gE gG hr;go_upto_region 16 with(fail);have kF:Kept (·=kb) wE (putAt wE kb 7 (ae r.1 (some ⟨gb,0,none⟩) (bR p) gk r.2.1)):=Kept.putAt (S:=(·=kb)) (kR _ wE) kb 7 _ (λ_=>rfl);have bF:ai (putAt wE kb 7 (ae r.1 (some ⟨gb,0,none⟩) (bR p) gk r.2.1)) kb 50 (Ks.cells ⟨cb,j,sv,sa,fb,bR p,gb,gk,tb,tk,lb,lk,r.1,r.2.1⟩ (bR p) Nn (aK p j).length D):=ai.cw pO.o 7 (ae r.1 (some ⟨gb,0,none⟩) (bR p) gk r.2.1);have yF:al w (putAt wE kb 7 (ae r.1 (some ⟨gb,0,none⟩) (bR p) gk r.2.1)):=Kept.putAt YA.o kb 7 _ (λ(h:kb<w.heap.size)=>by have:=DD.o;have:=qw.o;omega);have Af:=alK.o.kept kF pO.o (by have:=Qj.o;omega) DD.o LX.o.1 LX.o.2.1 LX.o.2.2;clear i1 i2 i3 j1 j2 j3;generalize (putAt wE kb 7 (ae r.1 (some ⟨gb,0,none⟩) (bR p) gk r.2.1))=wF at kF bF yF Af⊢;have⟨DH,HYF,HCF,HKF⟩:=J4' Af yF bF kF;clear Af yF bF kF;have om:IntKind.i64.wrap ((Nn:Int)+1)=(Nn:Int)+1:=by rw [im];have:=IE.o;omega
    by_cases hz:r.2.1=0
    .have HZR:=J hz
     have b1:(r.2.1==0)=true:=by simp [hz]
     clear hz;refine ajM ?_;intro yd AC f1 f2 f3;go_wp21;refine di (t:=50) (g:=ob+1) (cs:=Ks.cells ⟨cb,j,sv,sa,fb,bR p,gb,gk,tb,tk,lb,lk,r.1,r.2.1⟩ (bR p) Nn (aK p j).length D) results13 rfl rfl lx (by exact jV) (by exact ai.cw AC.o 0 _) ⟨?_,?_⟩
     .exact Kept.putAt (HYF.o.trans yd) _ _ _ (λh=>by have:=qw.o;omega)
     .exact .no (λq=>q.abW (by rw [<-HM.o,<-HD.o,<-rX.o,<-mv.o];exact HZR.o))
    .have HZR:=J hz
     have b1:(r.2.1==0)=false:=by simp [hz]
     clear hz;refine ajM ?_;intro yd AC f1 f2 f3;go_wp21;refine di (t:=50) (g:=ob+1) (cs:=Ks.cells ⟨cb,j,sv,sa,fb,bR p,gb,gk,tb,tk,lb,lk,r.1,r.2.1⟩ (bR p) Nn (aK p j).length D) results13 rfl rfl lx (by exact jV) (by exact ai.cw AC.o 0 _) ⟨?_,?_⟩
     .exact Kept.putAt (HYF.o.trans yd) _ _ _ (λh=>by have:=qw.o;omega)
     .obtain⟨CS,hCS⟩:=nm' (Ks.cells ⟨cb,j,sv,sa,fb,bR p,gb,gk,tb,tk,lb,lk,r.1,r.2.1⟩ (bR p) Nn (aK p j).length D)
      have TY:Kept (·=ob+1) wF.drew (putAt wF.drew (ob+1) 0 CS):=Kept.putAt (S:=(·=ob+1)) (kR _ _) (ob+1) 0 _ (λ_=>rfl);have yl:=DD.o;have Gh:=Df.o.lt;have Dn:=zU.o.lt;have Pb:=(gC.air (DH.o.code.ext yd) TY AC.o rfl QC ap).up (N':=(putAt wF.drew (ob+1) 0 CS).heap.size) (ax (by have:=HCF.o.lt;have:=Qj.o;omega) (ax yd.size TY.size)) (cr _);have mJ:=mT.eT (cU (aI DH.o.ov yd) TY (λg hg e=>dl (E':=50) (aI DH.o.ov yd) ap g hg u_ (0,0) (by rw [e];exact AC.o))) (F6 HV.o.2.1);have Iq:=mT.eT (cU (aI DH.o.oa yd) TY (λg hg e=>dl (E':=50) (aI DH.o.oa yd) ap g hg u_ (0,0) (by rw [e];exact AC.o))) (F5 lj.o HA.o.2.1)
      have hfz:¬fb=ob+1:=by
       intro e;have q:=DH.o.first.ext yd;rw [e]at q;exact Aa AC.o ap _ _ q
      have e1:2^iM (aU p j)=Nn:=by rw [<-HM.o,<-HD.o,<-rX.o]
      have e2:iM (aU p j)=D:=by rw [<-HM.o,<-HD.o]
      have hok:wX p j V A:=⟨HF.o,HC.o,uA.o,qT.o,by rw [<-HM.o];exact Ql.o,by rw [e1,<-mv.o];exact HZR.o⟩;have hio:=BQ (c:=aK p j) (by have:=zX.o.2;omega) (s:=(0,0,fF p j (fQ p j V) (fC p j A))) Qo.o Nn;rw [<-mv.o]at hio
      have amG:L1 (putAt wF.drew (ob+1) 0 CS) ⟨cb,j,sv,sa,fb,bR p,gb,gk,tb,tk,lb,lk,r.1,r.2.1⟩ (aK p j) (fF p j (fQ p j V) (fC p j A)) r.2.2 (bR p) Nn (aK p j).length:=
       {ops:=(DH.o.ops.ext yd).kept TY ad,JV:=(DH.o.row.ext yd).kept TY (by have:=HLG.o;show¬lb=ob+1;omega),ll:=rfl,l1:=zX.o.1,l2:=by have:=zX.o.2;omega,iok:=Zl.o,Bq:=((Row.cF DH.o.first).ext yd).kept TY hfz,fn:=OI.o.symm,fok:=Qo.o,grow:=((rV.o.kept HKF.o (by have:=HGG.o;omega)).ext yd).kept TY (by have:=HGG.o;show¬gb=ob+1;omega),gn:=by rw [hio.2];exact OI.o.symm,tl:=IE.o,last:=by rw [As,<-mv.o],Od:=((HTE.o.kept HKF.o (by have:=HTG.o;omega)).ext yd).kept TY (by have:=HTG.o;show¬tb=ob+1;omega)}
      have q:=uO.ok (w:=w) (w':=putAt wF.drew (ob+1) 0 CS) hok k ⟨cb,j,sv,sa,fb,bR p,gb,gk,tb,tk,lb,lk,r.1,r.2.1⟩ r.2.2 rfl Pb mJ Iq (by rw [e1];exact amG);rw [e1,e2]at q;subst hCS;exact q
  .have hMI:(128:Int)<M:=by omega
   have i1:=bH Tv.o;have i2:=bG Tv.o;have k1:=bH qS.o;have k2:=ai.aC qS.o;have k3:=qS.o.lt;go_wp21;refine di (t:=50) (g:=ob+1) (cs:=Eu cb j) results13 rfl rfl lx (by exact jV) (by exact ai.cw qS.o 0 _) ⟨?_,.no (λq=>hM (by rw [HM.o];exact q.most))⟩;exact Kept.putAt lp.o _ _ _ (λh=>by have:=qw.o;omega)
abbrev onZ:Array Value:=#[.string ⟨#[]⟩,.int .i64 0,.slice none 0 0,.slice none 0 0,.slice none 0 0,.slice none 0 0,.slice none 0 0,.slice none 0 0,.string ⟨#[]⟩,.slice none 0 0,.slice none 0 0,.int .i64 0,.slice none 0 0,.slice none 0 0]
theorem Ky (w:World):Calls prog 41 #[] w λe w'=>al w w'/\∃c:Pc,e=.returned (.agg (onC c 1 ⟨none,0,0⟩ ⟨none,0,0⟩))/\nj w' w'.heap.size c jM/\Zc c:=by
 have y0:=dY w (.cells onZ 42);have b0:=bN w 42 onZ;go_enter func41,ntmps41;go_upto_region 1 with(fail);generalize (w.alloc (.cells onZ 42))=W1 at y0 b0⊢;generalize hq:(w:World).heap.size=q at b0⊢;go_wp21;refine(SK _).mono ?_;rintro e w2 ⟨hx,rfl,hs⟩;have b2:=bX b0 hx;have i1:=bH b2;have i2:=ai.aC b2;have i3:=b2.lt;have aP:q<W1.heap.size:=b0.lt;go_wp21;have k:=Kept.putAt (S:=(·=q)) (kR _ w2) q 0 (onC (_root_.Go.Proofs.YtnhelcmddjbafaaGreatDoor.qk W1.heap.size) 1 ⟨none,0,0⟩ ⟨none,0,0⟩) (λ_=>rfl);have bz:ai (putAt w2 q 0 (onC (_root_.Go.Proofs.YtnhelcmddjbafaaGreatDoor.qk W1.heap.size) 1 ⟨none,0,0⟩ ⟨none,0,0⟩)) q 42 (onC (_root_.Go.Proofs.YtnhelcmddjbafaaGreatDoor.qk W1.heap.size) 1 ⟨none,0,0⟩ ⟨none,0,0⟩):=ai.cw b2 0 _;have h6:=bK hs.b6 k ad;refine bu results41 rfl rfl AO (by exact vN) bz ⟨(y0.trans hx).putAt _ _ _ (λh=>by omega),_,rfl,Xk (n:=W1.heap.size) h6.lt (bK hs.b2 k ad) (bK hs.b3 k ad) (bK hs.b4 k ad) (bK hs.b5 k ad) h6,?_⟩
 constructor<;>exact⟨cr _,λh=>by first|rfl|cases h⟩
theorem aaN:∀i,i<5->zS (partOf jM i):=λi hi=>by
 rcases(by omega:i=0∨i=1∨i=2∨i=3∨i=4)with rfl|rfl|rfl|rfl|rfl<;>simp [zS,zE,partOf,jM,Xj,e0F]
theorem N5:wX jM 1 [] []:=by
 refine⟨by kernel_rfl,Xl,λh=>?_,by decide,by decide,λh=>?_⟩
 .have:=(pq _).2 h
  rw [show nC jM=false by kernel_rfl]at this
  cases this
 .rw [show(kM (aK jM 1) (2^iM (aU jM 1)) (0,0,fF jM ((1:Nat):Int) (fQ jM 1 []) (fC jM 1 []))).2.1=1 by kernel_rfl]at h
  cases h
theorem Nx {p:Pr} {j:Nat} {V A:List Int} (hj:j<5) (h:wX p j V A) (hz:eo p<=1099511627776) {w:World} {x:Ks} {N:Nat} (hN:N=2^iM (aU p j)) (hk:L1 w x (aK p j) (fF p j (fQ p j V) (fC p j A)) m1 (bR p) N L):
 Dd p/\jg p j (fQ p j V) (fC p j A)=0/\cQ x.jk x.bU (bR p)=true/\¬x.bU=0:=by
 have hc:=Dd.of h.OY hz;have hl:=hk.last;have ho:=nc (c:=aK p j) (r:=(0,0,fF p j (fQ p j V) (fC p j A))) (by rw [<-hk.ll];exact hk.l2) hk.fok N;rw [<-hl]at ho;refine⟨hc,vi hc hj V A,?_,?_⟩
 .rw [hk.gn]
  exact ho.1.right
 .have h1:=h.abW
  rw [<-As,<-hN,<-hl]at h1;exact h1
theorem Vn {p:Pr} {j M ik:Nat} {jk:Int} {gn zk:Nat} {bU gd window:Int} {N:Nat} (hN:N=2^iM M) (hl:(jk,bU,m1)=gX (aK p j) (0,0,m0) N):
 EN (PN p j M fb ib ik jk zb gn zk bU gd window fN) (aK p j) m0 m1=fY 0 N (tI (aK p j) (0,0,m0) 0) (tI (aK p j) (0,0,m0) N) (kg (aK p j)) Dg.zero (aK p j).length 0 (-1):=by
 unfold EN fY tI;rw [<-hl,hN];simp [gX]
structure wP (w:World) (p:Pr) (j:Nat) (V A:List Int) (x:Ks) (k:Cd) (m1:List Int) (l:List Ins) (m0:List Int) (n N L dd:Nat):Prop where
 j5:j<5
 part:x.part=j
 code:gC w w.heap.size x.cb k p
 vs:mT w w.heap.size x.vs V
 ag:mT w w.heap.size x.ag A
 at_:L1 w x l m0 m1 n N L
 hl:l=aK p j
 hm:m0=fF p j V A
 hn:n=bR p
 hN:N=2^dd
 hd:dd=iM (aU p j)
 d7:dd<=7
 OY:Dd p
 fit:jg p j V A=0
 gr:cQ x.jk x.bU n=true
 hh:¬x.bU=0
 long:¬nB p
 most:aU p j<=128
theorem wP.ext {w w':World} {p:Pr} {j:Nat} {V A:List Int} {x:Ks} {k:Cd} {l:List Ins} {n N:Nat} (h:wP w p j V A x k m1 l m0 n N L dd) (hx:al w w'):wP w' p j V A x k m1 l m0 n N L dd:=
 {h with code:=(h.code.ext hx).up hx.size (cr _),vs:=(h.vs.ext hx).mono hx.size,ag:=(h.ag.ext hx).mono hx.size,at_:=h.at_.ext hx}
abbrev c13 (P:Option Addr) (i:Nat->Int) (s:Nat->i_):Array Value:=#[.pointer P,.int .i64 (i 0),(s 0).v,(s 1).v,.int .i64 (i 1),(s 2).v,.int .i64 (i 2),.int .i64 (i 3),(s 3).v,.int .i64 (i 4),(s 4).v,.int .i64 (i 5),(s 5).v]
theorem ZN {w:World} {p:Pr} {j:Nat} {V A:List Int} {e:Ending} (hj:j<5) (hz:eo p<=1099511627776) (ho:uO p j V A w0 w e):
 (∃P i s,¬wX p j V A/\e=.returned (.tuple #[.agg (c13 P i s),.bool false]))∨∃(k:Cd) (x:Ks) (m0 m1:List Int) (l:List Ins) (V' A':List Int) (n N L dd:Nat),wP w p j V' A' x k m1 l m0 n N L dd/\e=.returned (.tuple #[.agg (x.cells n N L dd),.bool true]):=by
 cases ho with
 | @no P i0 i1 i2 i3 i4 i5 A0 A1 A2 A3 A4 A5 n0 n1 n2 n3 n4 n5 c0 c1 c2 c3 c4 c5 h=>exact .inl ⟨P,λi=>#[i0,i1,i2,i3,i4,i5].getD i 0,λi=>#[⟨A0,n0,c0⟩,⟨A1,n1,c1⟩,⟨A2,n2,c2⟩,⟨A3,n3,c3⟩,⟨A4,n4,c4⟩,⟨A5,n5,c5⟩].getD i ⟨none,0,0⟩,h,rfl⟩
 |ok h k x m1 hp hC hv ha hk=>
  obtain⟨hc,hf,hg,hh⟩:=Nx hj h hz rfl hk;exact .inr ⟨k,x,_,m1,_,_,_,_,_,_,_,⟨hj,hp,hC,hv,ha,hk,rfl,rfl,rfl,rfl,rfl,ahE _ (by unfold aU bT;omega) h.most,hc,hf,hg,hh,h.long,h.most⟩,rfl⟩
structure NewAt (w w':World) (tb:Nat) (t:Tt) (ib fb zb:Nat) (l:List Ins) (m0 m1:List Int) (N L:Nat) (gd fN window:Int) (x:Ks) (n:Nat):Prop where
 ge:w.heap.size<=tb
 tb:TB w' tb t
 m:M36 w' t l m0 m1 ib 0 fb 0 zb 0
 xt:al w w'
 phase:t.phase=0
 kG:t.kG=fN+window
 gd:t.gd=gd
 window:t.window=window
 hv:t.hv=none
 pc:t.jk=x.jk
 nn:t.n'=n
 ha:t.bU=x.bU
 amk:EN t l m0 m1=fY 0 N (tI l (0,0,m0) 0) (tI l (0,0,m0) N) (kg l) Dg.zero L 0 (-1)
theorem WC {w:World} {p:Pr} {j:Nat} {V A:List Int} {x:Ks} {k:Cd} {l:List Ins} {n N:Nat} (h:wP w p j V A x k m1 l m0 n N L dd) (gk:Nat) (gd fN window:Int) (hs:isS gd=true) (hh:M3 fN=true) (hw:1<=window/\window<=1048576):
 Calls prog 14 #[.pointer (some ⟨x.cb,0,none⟩),.int .i64 x.part,x.vs.v,x.ag.v,.agg (ae x.jk (some ⟨x.gb,0,none⟩) n gk x.bU),.int .i64 gd,.int .i64 fN,.int .i64 window] w λe w'=>∃tb t ib fb zb,e=.returned (.tuple #[.pointer (some ⟨tb,0,none⟩),.int .i64 0])/\NewAt w w' tb t ib fb zb l m0 m1 N L gd fN window x n:=by
 rw [h.part];refine(Xu x.cb w.heap.size k p j h.j5 x.vs x.ag V A x.jk x.gb 0 n gk x.bU m1 gd fN window w (cr _) h.code h.vs h.ag h.OY h.fit h.long (by have:=h.most;omega) (by rw [<-h.hl];exact h.at_.iok) (by rw [<-h.hm];exact h.at_.fok) h.at_.grow h.at_.gn h.gr h.hn h.hh hs hh hw).mono ?_;rintro e w' ⟨tb,ib,ik,fb,zb,zk,h1,rfl,h2,h3,h4⟩;rw [<-h.hl,<-h.hm]at h3;exact⟨tb,_,ib,fb,zb,rfl,h1,h2,h3,h4,rfl,rfl,rfl,rfl,rfl,rfl,rfl,rfl,by rw [h.hl,show L=(aK p j).length from by rw [<-h.hl];exact h.at_.ll];exact Vn (by rw [h.hN,h.hd]) (by rw [<-h.hl];exact h.at_.last)⟩
theorem Mr {w:World} {tb:Nat} {t:Tt} {l:List Ins} {N:Nat} {gd window:Int} {x:Ks} {n:Nat} (hn:NewAt w0 w tb t ib fb zb l m0 m1 N L gd fN window x n) (hw:1<=window/\window<=1048576) (h s:Int) (hh:M3 h=true) (hl:h<=fN+window) (hs:isS s=true) (td:¬s=gd):
 Calls prog 15 #[.pointer (some ⟨tb,0,none⟩),.int .i64 h,.int .i64 s] w λe w'=>∃g,w.heap.size<=g/\e=.returned (.int .i64 0)/\TB w' tb (Mq t h s g)/\At w' g (fY 0 N (tI l (0,0,m0) 0) (tI l (0,0,m0) N) (kg l) Dg.zero L 0 (-1))/\Kept (·=tb) w w':=by
 have q:=UU tb t l m0 m1 ib 0 fb 0 zb 0 h s w hn.tb hn.m hn.phase hh (by rw [hn.kG];exact hl) hs (by rw [hn.gd];exact td) (by rw [hn.window];omega);rw [hn.amk]at q;exact q
theorem JF {w:World} {p:Pr} {j:Nat} {V A:List Int} {x:Ks} {k:Cd} {l:List Ins} {n N:Nat} (h:wP w0 p j V A x k m1 l m0 n N L dd) {tb g:Nat} {t:Tt} (h1:w0.heap.size<=tb) (h2:tb<g) (hk:Kept (·=tb) w0 w) (ht:TB w tb t) (hv:t.hv=some ⟨g,0,none⟩) (hp:t.phase=1) (hT:0<=t.kG/\t.kG<=1000) (hw:0<=t.window/\t.window<=10)
 (hr:At w g (fY 0 N (tI l (0,0,m0) 0) (tI l (0,0,m0) N) (kg l) Dg.zero L 0 (-1))) (chA:Option Addr) (UQ OY bb bo:Nat) (bs:List Bool) (nw:UQ=bs.length) (YN:0<UQ->chA=some ⟨bb,bo,none⟩/\bb<w0.heap.size/\Row w0 bb bo (bs.map .bool)):
 Calls prog 16 #[.pointer (some ⟨tb,0,none⟩),.agg (x.cells n N L dd),.slice chA UQ OY] w λe w'=>e=.returned (.bool true)/\(∃T,TB w' tb {t with kG:=T,phase:=2})/\Kept (λi=>i=tb∨i=g) w w':=by
 have a0:=h.at_.ops.1;have a1:=h.at_.JV.lt;have a2:=h.at_.Bq.lt;have a3:=h.at_.grow.lt;have a4:=h.at_.Od.lt;refine(MM tb g ad t x l m0 m1 n N L dd h.d7 h.hN w (h.at_.kept hk ad ad ad ad ad) ht hv hp hT hw hr ⟨by omega,by omega⟩ ⟨by omega,by omega,by omega,by omega,by omega,by omega,by omega,by omega⟩ chA UQ OY bb bo bs nw (λq=>⟨(YN q).1,(YN q).2.2.kept hk (by have:=(YN q).2.1;omega),by have:=(YN q).2.1;omega,by have:=(YN q).2.1;omega⟩)).mono ?_;rintro e w' ⟨e1,e2,_,e4⟩;exact⟨e1,e2,e4⟩
theorem CM (w:World) (hL:eQ w) (hO:OpsAt w):Calls prog 12 #[] w λe w'=>e=.returned (.bool true)/\al w w':=by
 have HL:=J hL;have HO:=J hO;clear hL hO;go_enter func12,ntmps12;go_upto_region 1 with(fail);go_wp21;refine(Ky _).mono ?_;rintro e w1 ⟨y1,c,rfl,hp,qM⟩;have⟨dQ,HP1,HC⟩:=J3' y1 hp qM;clear y1 hp qM;go_wp21;refine(WL c jM 1 1 ap (by rw [u64_in ap ap,IntWalk.wrap64_in _ ap];rfl) ⟨none,0,0⟩ ⟨none,0,0⟩ [] [] w1.heap.size w1 aaN (cr _) HP1.o (HL.o.ext dQ.o) (HO.o.ext dQ.o) HC.o ap (GA _ _) (GA _ _)).mono ?_;rintro e w2 ⟨y2,ho⟩;have fp:=J (dQ.o.trans y2);clear y2 HP1 HC HL HO dQ
 rcases ZN ap ap ho with⟨P,i,s,h,rfl⟩|⟨k,x,m0,m1,l,V,A,n,N,L,dd,hc,rfl⟩
 .exact absurd N5 h
 clear ho;have y3:=dY w2 (.cells (x.cells n N L dd) 50);have b3:=bN w2 50 (x.cells n N L dd);go_upto_region 2 with(fail);generalize (w2.alloc (.cells (x.cells n N L dd) 50))=w3 at y3 b3⊢;generalize (w2:World).heap.size=cb at b3⊢;have⟨De,tM,fL⟩:=J3' (hc.ext y3) b3 (fp.o.trans y3);have i1:=bC b3;have i2:=bH b3;have i3:=bG b3;have i4:=b3.lt;clear b3 y3 hc fp;go_wp21;refine(WC De.o x.gk 1 10 5 fK fK ap).mono ?_;rintro e w4 ⟨tb,t,ib,fb,zb,rfl,hn⟩;have HN:=J hn;have p1:(t.kG !=15)=false:=by simp [hn.kG]
 clear hn i1 i2 i3 i4;go_wp21;refine aoT (sS tb t _ HN.o.tb) ?_;go_wp21;refine(Mr HN.o ap 15 0 fK ap fK ap).mono ?_;rintro e w5 ⟨g,hg,rfl,ht,hr,hk⟩;have⟨HT,HR,HK,HG⟩:=J4' ht hr hk (show tb<g by have:=HN.o.tb.lt;omega);clear hg ht hr hk p1;have p2:(tO (Mq t 15 0 g) (fY 0 N (tI l (0,0,m0) 0) (tI l (0,0,m0) N) (kg l) Dg.zero L 0 (-1)) !=1)=false:=by simp [tO,fY,HN.o.gd]
 go_wp21;refine aoT (nK tb g _ _ _ HT.o rfl HR.o rfl) ?_;have HX:=J (show Kept (·=tb) w3 w5 from(Kept.ext HN.o.xt).trans HK.o);have b5:=bK tM.o HX.o (by have:=HN.o.ge;have:=tM.o.lt;omega);have i1:=bC b5;have i2:=bH b5;have i3:=bG b5;have i4:=b5.lt;clear b5;go_wp21;refine(JF De.o HN.o.ge HG.o HX.o HT.o rfl rfl (by simp [HN.o.window]) (by simp [HN.o.window]) HR.o none 0 0 0 0 [] rfl (λh=>absurd h ap)).mono ?_;rintro e w6 ⟨rfl,⟨T,ht6⟩,yj⟩;clear i1 i2 i3 i4;go_wp21;refine aoT (sH tb _ _ ht6) ?_;go_wp21;refine aoT (RI tb g _ _ ht6 rfl) ?_;go_wp21;go_ret;refine⟨rfl,fL.o.trans' ((HX.o.mono (λ_ _ e=>Or.inl e)).trans yj) (λi hi e=>?_)⟩;have:=fL.o.size;have:=HN.o.ge;have:=HG.o
 omega
structure CsB where (A:Option Addr) (n c:Nat) (l:List Int)
structure CsB.At (w:World) (x:CsB):Prop where
 len:x.n=x.l.length
 row:∃b off,(0<x.n->x.A=some ⟨b,off,none⟩)/\(0<x.n->Row w b off (cu x.l))
theorem CsB.At.kept {S:Nat->Prop} {w w':World} {x:CsB} (h:x.At w) (hk:Kept S w w') (hs:∀i,i<w.heap.size->¬S i):x.At w':=by
 obtain⟨h1,b,off,h2,h3⟩:=h;exact⟨h1,b,off,h2,λh0=>(h3 h0).kept hk (hs _ (h3 h0).lt)⟩
theorem CsB.At.ext {w w':World} {x:CsB} (h:x.At w) (hk:al w w'):x.At w':=h.kept hk (λ_ _ f=>f)
structure CsW where (A:Option Addr) (n c:Nat) (l:List Wd)
structure CsW.At (w:World) (x:CsW):Prop where
 len:x.n=x.l.length
 row:∃b off,(0<x.n->x.A=some ⟨b,off,none⟩)/\(0<x.n->Row w b off (zP x.l))
theorem CsW.At.kept {S:Nat->Prop} {w w':World} {x:CsW} (h:x.At w) (hk:Kept S w w') (hs:∀i,i<w.heap.size->¬S i):x.At w':=by
 obtain⟨h1,b,off,h2,h3⟩:=h;exact⟨h1,b,off,h2,λh0=>(h3 h0).kept hk (hs _ (h3 h0).lt)⟩
theorem CsW.At.ext {w w':World} {x:CsW} (h:x.At w) (hk:al w w'):x.At w':=h.kept hk (λ_ _ f=>f)
structure Wl.ok (l:Wl):Prop where
 at_:br l.at_
 EW:av l.EW
 path:l.path.length<=12
 cY:∀d∈l.path,d.ok
theorem ff.app {w:World} {ds':List Wd} {ls':List Wl} (h':ff w ds' ls'):∀{ds:List Wd} {ls:List Wl},ff w ds ls->ff w (ds++ds') (ls++ls')
 |_,_,.nil=>h'
 |_,_,.cons h r=>.cons h (ff.app h' r)
theorem kJ.len {w:World} {A:Option Addr} {n:Nat} {l:List Dg} (h:kJ w A n l):n=l.length:=by
 obtain⟨_,_,h⟩:=h;exact h.len
theorem gi.cs {w:World} {A:Option Addr} {n:Nat} {ls:List Wl} (h:gi w A n ls) (c:Nat):∃ds,CsW.At w ⟨A,n,c,ds⟩/\ff w ds ls:=by
 obtain⟨hl,b,off,ds,h1,h2,_,h4⟩:=h;exact⟨ds,⟨by rw [h4.len];exact hl,b,off,h1,h2⟩,h4⟩
def Sl.at (s:Sl):Nat->Int|0=>s.pc|1=>s.halt|_=>s.words
structure Sl.ok (s:Sl):Prop where
 at_:∀j,br (s.at j)
 mem:s.mem.ok
 ins:s.ins.ok
 cY:∀d∈s.path,d.ok
 reads:∀x∈s.reads,br x.at_/\av x.EW/\∀d∈x.path,d.ok
 writes:∀x∈s.writes,br x.at_/\av x.EW/\∀d∈x.path,d.ok
def fP (l:List Int):Nat:=((l.take 10).takeWhile (λx=>decide (128<=x))).length
def gJ (l:List Int):Nat->Int|0=>0|j+1=>gJ l j+l.getD j 0%128*2^(7*j)
def eC (l:List Int):Int:=
 if fP l=10 then 3 else if fP l=l.length then 4 else if (0<fP l/\l.getD (fP l) 0=0)∨(fP l=9/\1<l.getD 9 0)then 3 else 0
def gM (l:List Int):Int:=if eC l=0 then gJ l (fP l+1)else 0
def iw (l:List Int):Nat:=if eC l=0 then fP l+1 else 0
theorem acL:∀(l:List Int) (i:Nat),i<=l.length->(∀j,j<i->128<=l.getD j 0)->(i=l.length∨l.getD i 0<128)->(l.takeWhile (λx=>decide (128<=x))).length=i
 |[],i,h1,_,_=>by simp at h1;simp [h1]
 |x::r,0,_,_,h3=>by
  rcases h3 with h3|h3
  .simp at h3
  .have:¬128<=x:=by simp at h3;omega
   simp [this]
 |x::r,i+1,h1,h2,h3=>by
  have hx:128<=x:=by simpa using h2 0 ad
  have ih:=acL r i (by simpa using h1) (λj hj=>by simpa using h2 (j+1) ad) (by rcases h3 with h|h;exact .inl rU;exact .inr rU);simp [hx,ih]
theorem lK {l:List Int} {i:Nat} (h1:i<=l.length) (h10:i<=10) (h2:∀j,j<i->128<=l.getD j 0) (h3:i=10∨i=l.length∨l.getD i 0<128):fP l=i:=by
 unfold fP
 have hg:∀j,j<10->(l.take 10).getD j 0=l.getD j 0:=λj hj=>by
  simp only [List.getD_eq_getElem?_getD,List.getElem?_take,ak hj]
 refine acL (l.take 10) i (by rw [mz];omega) (λj hj=>by rw [hg j ad];exact h2 j hj) ?_;rw [mz]
 by_cases e:i=10
 .exact .inl ad
 .rcases h3 with h|h|h
  .exact absurd h e
  .exact .inl ad
  .exact .inr (by rw [hg i ad];exact h)
theorem jQ {l:List Int} (h:bI l) (j:Nat):0<=l.getD j 0/\l.getD j 0<=255:=by
 rw [List.getD_eq_getElem?_getD]
 cases hq:l[j]? with
 |none=>simp
 |some x=>exact h x (List.mem_of_getElem? hq)
theorem qm {l:List Int} (h:bI l):∀j,0<=gJ l j/\gJ l j<2^(7*j)
 |0=>by simp [gJ]
 |j+1=>by
  obtain⟨a,b⟩:=qm h j;obtain⟨c,_⟩:=jQ h j;have hp:(0:Int)<=2^(7*j):=by rw [<-lP];exact Int.natCast_nonneg _
  have hm:0<=l.getD j 0%128:=Int.emod_nonneg _ ad;have mB:l.getD j 0%128<=127:=by omega
  have hq:l.getD j 0%128*2^(7*j)<=127*2^(7*j):=Int.mul_le_mul_of_nonneg_right mB hp;have hn:0<=l.getD j 0%128*2^(7*j):=Int.mul_nonneg hm hp;have e:(2:Int)^(7*(j+1))=128*2^(7*j):=by rw [show 7*(j+1)=7*j+7 by omega,Int.pow_add];omega
  unfold gJ;rw [e]
  omega
theorem aeS (m x:Int) (j:Nat) (hm0:0<=m) (hm:m<2^j) (aF:0<=x) (hx:x*2^j<18446744073709551616) (mB:m<18446744073709551616):bits .or .u64 m (IntKind.u64.wrap (x*2^j))=m+x*2^j:=by
 obtain⟨a,rfl⟩:=Int.eq_ofNat_of_zero_le hm0;obtain⟨b,rfl⟩:=Int.eq_ofNat_of_zero_le aF;rw [<-lP]at hm hx⊢;have ha:a<2^j:=by omega
 have e1:((b:Int)*((2^j:Nat):Int))=((b*2^j:Nat):Int):=by simp
 rw [e1]at hx⊢;rw [u64_in ad ad,u64_or_nat _ _ ad ad]
 have e2:a|||b*2^j=a+b*2^j:=by
  have:=Nat.two_pow_add_eq_or_of_lt ha b;rw [Nat.or_comm,Nat.mul_comm b,<-this,Nat.add_comm]
 rw [e2];simp
theorem adJ (x:Int) (h0:0<=x) (h1:x<=255):bits .and .u8 x 127=x%128:=by
 obtain⟨n,rfl⟩:=Int.eq_ofNat_of_zero_le h0;have hn:n<256:=by omega
 have key:∀k:Nat,k<256->bits .and .u8 (k:Int) 127=(k:Int)%128:=by decide+kernel
 exact key n hn
theorem PQ {l:List Int} (h:bI l) {i:Nat} (hi:i<=9) (h9:i=9->l.getD 9 0<=1):bits .or .u64 (gJ l i) (IntKind.u64.wrap (l.getD i 0%128*2^(7*i)))=gJ l (i+1):=by
 obtain⟨a,b⟩:=qm h i;obtain⟨c,d⟩:=jQ h i;have hm:0<=l.getD i 0%128:=Int.emod_nonneg _ ad;refine aeS _ _ _ a b hm ?_ ?_
 .rcases(by omega:i=0∨i=1∨i=2∨i=3∨i=4∨i=5∨i=6∨i=7∨i=8∨i=9)with rfl|rfl|rfl|rfl|rfl|rfl|rfl|rfl|rfl|rfl
  all_goals (try have:=h9 rfl);(simp only [Nat.reduceMul,Int.reducePow];omega)
 .rcases(by omega:i=0∨i=1∨i=2∨i=3∨i=4∨i=5∨i=6∨i=7∨i=8∨i=9)with rfl|rfl|rfl|rfl|rfl|rfl|rfl|rfl|rfl|rfl
  all_goals (simp only [Nat.reduceMul,Int.reducePow]at b;omega)
theorem Wo (A:Option Addr) (b off cap:Nat) (l:List Int) (n:Nat) (hn:n=l.length) (h2:n<=100000) (hok:bI l) (hA:0<n->A=some ⟨b,off,none⟩) (w:World) (hr:0<n->Row w b off (cu l)):
 Calls prog 131 #[.slice A n cap] w λe w'=>e=.returned (.tuple #[.int .u64 (gM l),.int .i64 (iw l),.int .i64 (eC l)])/\w=w':=by
 have⟨HN,HO,HA,HR⟩:=J4' hn hok hA hr;obtain⟨q,hq⟩:∃q:Nat,q=min n 10:=⟨_,rfl⟩;have hqI:(if (n:Int)<=10 then(n:Int)else 10)=(q:Int):=by split<;>omega
 have hqM:min (n:Int) 10=(q:Int):=by omega
 have HQ:=J hq;clear hn hok hA hr hq;obtain⟨V,hV⟩:=nm' (gM l);obtain⟨S,hS⟩:=nm' (iw l);obtain⟨E,hE⟩:=nm' (eC l);rw [<-hV,<-hS,<-hE];have⟨HV,HS,HE⟩:=J3' hV hS hE;clear hV hS hE;go_enter func131,ntmps131;go_upto_region 3 with(fail);refine wp_scope_straight ?_
 repeat (first|(refine wp_label ?_;simp only [Exit.then])|go_step)
 go_loopw [5,6,11] (λt5 t6 t11 wr=>∃(i:Nat) (m:Int),i<=q/\t11=.int .i64 i/\t6=.int .i64 (-1)/\t5=.int .u64 m/\(i<=9->m=gJ l i)/\(∀j,j<i->128<=l.getD j 0)/\w=wr) (λ_ _ t11 _=>q - (intOf t11).toNat)
 case atStart=>exact⟨0,0,cI _,rfl,rfl,rfl,λ_=>rfl,λj hj=>by omega,rfl⟩
 case round=>
  obtain⟨i,m,hi,rfl,rfl,rfl,hm,hall,hw⟩:=hrel;subst hw;have HM:=J hm;have fW:=J hall;clear hm hall
  by_cases aP:i<q
  .have ub:i<n:=by have:=HQ.o;omega
   have hi9:i<=9:=by have:=HQ.o;omega
   have hiI:(i:Int)<n:=by omega
   have hqq:(i:Int)<q:=by omega
   have Vz:(0:Int)<=i:=by omega
   have aoq:(i:Int)<=9:=by omega
   have yh:i<l.length:=by have:=HN.o;omega
   obtain rfl:=HA.o ad;have aE:=HR.o ad;have qB:=aE.lt;obtain⟨x,hx⟩:=nm' (l.getD i 0);have fj:l[i]=x:=by rw [hx];simp [yh]
   have hc:w.cell? ⟨b,off+i,none⟩=some (.int .u8 x):=by
    rw [aE.cell i (by simpa [cu]using yh)];simp [cu,yh,fj]
   obtain⟨x0,x1⟩:0<=x/\x<=255:=by rw [hx];exact jQ HO.o i
   have ha:=adJ x x0 x1;have hw7:((7:Int)*i).toNat=7*i:=by omega
   have aoG:IntKind.i64.wrap (7*(i:Int))=7*i:=by rw [im];omega
   have hsh:7*i<=63:=by omega
   obtain⟨u,hu⟩:=nm' (bits .or .u64 m (IntKind.u64.wrap (x%128*2^(7*i))))
   have JC:i+1<=9->u=gJ l (i+1):=λh=>by
    rw [hu,hx,HM.o hi9];exact PQ HO.o hi9 (λe=>by omega)
   have⟨HU,wH,HX⟩:=J3' hu JC hx;clear hu JC hx fj;have Gi:x<128->fP l=i:=λh=>lK ad ad fW.o (.inr (.inr (by rw [<-HX.o];exact h)))
   have bad:x<128->((0<i/\x=0)∨(i=9/\1<x))->V=0/\S=0/\E=3:=λh hb=>by
    have e:eC l=3:=by
     unfold eC;rw [Gi h,af ad,af ad,ak];rw [<-HX.o]
     rcases hb with hb|⟨h9,h1⟩
     .exact .inl hb
     .subst h9;exact .inr ⟨rfl,by rw [<-HX.o];exact h1⟩
    rw [HV.o,HS.o,HE.o];unfold gM iw;rw [e];exact⟨rfl,rfl,rfl⟩
   have good:x<128->¬((0<i/\x=0)∨(i=9/\1<x))->V=u/\S=i+1/\E=0:=λh hb=>by
    have e:eC l=0:=by
     unfold eC;rw [Gi h,af ad,af ad,af];rintro(⟨h0,h1⟩|⟨h9,h1⟩)
     .exact hb (.inl ⟨h0,by rw [HX.o];exact h1⟩)
     .subst h9;exact hb (.inr ⟨rfl,by rw [HX.o];exact h1⟩)
    rw [HV.o,HS.o,HE.o];unfold gM iw;rw [e,ak rfl,ak rfl,Gi h];refine⟨?_,rfl,rfl⟩;rw [HU.o,HX.o,HM.o hi9];exact(PQ HO.o hi9 (λe9=>by subst e9;rw [<-HX.o];omega)).symm
   have Zb:=J bad;have FH:=J good;clear bad good Gi
   by_cases F8:x<128
   .by_cases e9:i=9
    .subst e9
     by_cases tB:x=0
     .have q0:(x==0)=true:=by simp [tB]
      have VV:=J (Zb.o F8 (.inl ⟨by omega,tB⟩));go_wp2_with fail
      all_goals
       exact wy
     .have q0:(x==0)=false:=by simp [tB]
      by_cases hJ:1<x
      .have q1:decide (1<x)=true:=by simp [hJ]
       have VV:=J (Zb.o F8 (.inr ⟨rfl,hJ⟩));go_wp2_with fail
       all_goals
        exact wy
      .obtain rfl:x=1:=by omega
       clear tB q0 hJ;have VV:=J (FH.o F8 ad);go_wp2_with fail
       all_goals
        go_ret3
        obtain⟨v1,v2,v3⟩:=VV.o;exact⟨by rw [v1,v2,v3,HU.o];rfl,rfl⟩
    .have e9I:¬(i:Int)=9:=by omega
     have q9:((i:Int)==9)=false:=by simp;omega
     by_cases aeo:i=0
     .have hip:¬(0:Int)<i:=by omega
      have qip:decide ((0:Int)<i)=false:=by simp;omega
      have VV:=J (FH.o F8 ad);clear aeo;go_wp2_with fail
      all_goals
       go_ret3
       obtain⟨v1,v2,v3⟩:=VV.o;exact⟨by rw [v1,v2,v3,HU.o];rfl,rfl⟩
     .have hip:(0:Int)<i:=by omega
      have qip:decide ((0:Int)<i)=true:=by simp;omega
      by_cases tB:x=0
      .have q0:(x==0)=true:=by simp [tB]
       have VV:=J (Zb.o F8 (.inl ⟨by omega,tB⟩));go_wp2_with fail
       all_goals
        exact wy
      .have q0:(x==0)=false:=by simp [tB]
       have VV:=J (FH.o F8 ad);go_wp2_with fail
       all_goals
        go_ret3
        obtain⟨v1,v2,v3⟩:=VV.o;exact⟨by rw [v1,v2,v3,HU.o];rfl,rfl⟩
   .go_wp2_with fail
    go_roundw
    case rel=>exact⟨i+1,_,aP,by go_num,rfl,rfl,by rw [<-HU.o];exact wH.o,λj hj=>by
     by_cases e:j=i
     .subst e;rw [<-HX.o];omega
     .exact fW.o j ad,by first|rfl|trivial⟩
    case measure=>simp only [intOf];omega
  .have gD:¬(i:Int)<q:=by omega
   have short:n<10->V=0/\S=0/\E=4:=λh=>by
    have hk:fP l=i:=lK abv XS fW.o (.inr (.inl abv))
    have e:eC l=4:=by
     unfold eC;rw [hk,af XS,ak abv]
    rw [HV.o,HS.o,HE.o];unfold gM iw;rw [e];exact⟨rfl,rfl,rfl⟩
   have long:¬n<10->V=0/\S=0/\E=3:=λh=>by
    have hk:fP l=i:=lK abv XS fW.o (.inl XS)
    have e:eC l=3:=by
     unfold eC;rw [hk,ak XS]
    rw [HV.o,HS.o,HE.o];unfold gM iw;rw [e];exact⟨rfl,rfl,rfl⟩
   have agF:=J short;have alW:=J long;clear short long;go_wp2_with fail
   all_goals
    go_ret3
    first
     |(obtain⟨v1,v2,v3⟩:=agF.o ad;exact⟨by rw [v1,v2,v3];rfl,rfl⟩)
     |(obtain⟨v1,v2,v3⟩:=alW.o ad;exact⟨by rw [v1,v2,v3];rfl,rfl⟩)
section
variable {l:List Int}
include l
theorem RE {i:Nat} (hk:fP l=i) (h10:i<10) (hl:i<l.length) (hb:(0<i/\l.getD i 0=0)∨(i=9/\1<l.getD 9 0)):eC l=3:=by
 unfold eC;rw [hk,af ad,af ad,ak hb]
theorem Na {i:Nat} (hk:fP l=i) (h10:i<10) (hl:i<l.length) (hb:¬((0<i/\l.getD i 0=0)∨(i=9/\1<l.getD 9 0))):eC l=0:=by
 unfold eC;rw [hk,af ad,af ad,af hb]
theorem JU {i:Nat} (hk:fP l=i) (h10:i<10) (hl:i=l.length):eC l=4:=by
 unfold eC;rw [hk,af ad,ak hl]
theorem BV (hk:fP l=10):eC l=3:=by
 unfold eC;rw [hk,ak rfl]
theorem sC (h:¬eC l=0):gM l=0/\iw l=0:=by
 unfold gM iw;rw [af h,af h];exact⟨rfl,rfl⟩
theorem RG {i:Nat} (hk:fP l=i) (h:eC l=0):gM l=gJ l (i+1)/\iw l=i+1:=by
 unfold gM iw;rw [ak h,ak h,hk];exact⟨rfl,rfl⟩
theorem P9 (h:bI l) {i:Nat} (hi:i<=9) (h9:i=9->l.getD 9 0<=1):gJ l (i+1)<18446744073709551616:=by
 obtain⟨a,b⟩:=qm h (i+1)
 rcases(by omega:i<=8∨i=9)with h8|rfl
 .have:(2:Int)^(7*(i+1))<=2^63:=by
   rw [<-lP,<-lP];exact Int.ofNat_le.2 (Nat.pow_le_pow_right ad ad)
  omega
 .obtain⟨c,d⟩:=qm h 9
  obtain⟨e,_⟩:=jQ h 9;have:=h9 rfl;simp only [gJ,Nat.reduceMul,Int.reducePow]at*
  omega
end
theorem Kg (A:Option Addr) (b off cap:Nat) (l:List Int) (n:Nat) (hn:n=l.length) (h2:n<=100000) (hok:bI l) (hA:0<n->A=some ⟨b,off,none⟩) (w:World) (hr:0<n->Row w b off (cu l)):
 Calls prog 133 #[.slice A n cap] w λe w'=>e=.returned (.tuple #[.int .u64 (gM l),.int .i64 (iw l),.int .i64 (eC l)])/\w=w':=by
 have⟨HN,HO,HA,HR⟩:=J4' hn hok hA hr;clear hn hok hA hr;obtain⟨V,hV⟩:=nm' (gM l);obtain⟨S,hS⟩:=nm' (iw l);obtain⟨E,hE⟩:=nm' (eC l);rw [<-hV,<-hS,<-hE];have⟨HV,HS,HE⟩:=J3' hV hS hE;clear hV hS hE;go_enter func133,ntmps133;go_wp2_with fail
 go_loopw [5] (λt5 wr=>∃(i:Nat),i<=n/\i<=10/\t5=.int .i64 i/\(∀j,j<i->128<=l.getD j 0)/\w=wr) (λt5 _=>10 - (intOf t5).toNat)
 case atStart=>exact⟨0,cI _,cI _,rfl,λj hj=>by omega,rfl⟩
 case round=>
  obtain⟨i,ub,aop,rfl,hall,hw⟩:=hrel;subst hw;have fW:=J hall;clear hall
  by_cases aP:i<n
  .have yh:i<l.length:=by have:=HN.o;omega
   obtain rfl:=HA.o ad;have aE:=HR.o ad;have qB:=aE.lt;have hiI:(i:Int)<n:=by omega
   have Vz:(0:Int)<=i:=by omega
   by_cases h10:i<10
   .have amf:(i:Int)<10:=by omega
    have anX:¬(i:Int)=10:=by omega
    have amN:¬(i:Int)=n:=by omega
    obtain⟨x,hx⟩:=nm' (l.getD i 0);have fj:l[i]=x:=by rw [hx];simp [yh]
    have hc:w.cell? ⟨b,off+i,none⟩=some (.int .u8 x):=by
     rw [aE.cell i (by simpa [cu]using yh)];simp [cu,yh,fj]
    obtain⟨x0,x1⟩:0<=x/\x<=255:=by rw [hx];exact jQ HO.o i
    have HX:=J hx;clear hx fj
    by_cases F8:128<=x
    .go_wp2_with fail
     go_roundw
     case rel=>exact⟨i+1,by omega,by omega,by go_num,λj hj=>by
      by_cases e:j=i
      .subst e;rw [<-HX.o];exact F8
      .exact fW.o j ad,by first|rfl|trivial⟩
     case measure=>simp only [intOf];omega
    .have hk:fP l=i:=lK ad ad fW.o (.inr (.inr (by rw [<-HX.o];omega)))
     have anQ:x<128:=by omega
     have bad:((0<i/\x=0)∨(i=9/\1<x))->V=0/\S=0/\E=3:=λhb=>by
      have e:=RE hk h10 yh (by
       rcases hb with⟨h0,h1⟩|⟨h9,h1⟩
       .exact .inl ⟨h0,by rw [<-HX.o];exact h1⟩
       .subst h9;exact .inr ⟨rfl,by rw [<-HX.o];exact h1⟩)
      obtain⟨z1,z2⟩:=sC (l:=l) (by rw [e];omega);exact⟨by rw [HV.o,z1],by rw [HS.o,z2],by rw [HE.o,e]⟩
     have good:¬((0<i/\x=0)∨(i=9/\1<x))->V=gJ l (i+1)/\S=i+1/\E=0:=λhb=>by
      have e:=Na hk h10 yh (by
       rintro(⟨h0,h1⟩|⟨h9,h1⟩)
       .exact hb (.inl ⟨h0,by rw [HX.o];exact h1⟩)
       .subst h9;exact hb (.inr ⟨rfl,by rw [HX.o];exact h1⟩))
      obtain⟨z1,z2⟩:=RG hk e;exact⟨by rw [HV.o,z1],by rw [HS.o,z2],by rw [HE.o,e]⟩
     have HT:(i=9->x<=1)->gJ l (i+1)<18446744073709551616:=λh9=>P9 HO.o ad (λe=>by subst e;rw [<-HX.o];exact h9 rfl);have⟨Zb,FH,HTT⟩:=J3' bad good HT;clear bad good HT hk F8
     by_cases e9:i=9
     .subst e9
      by_cases tB:x=0
      .have q0:(x==0)=true:=by simp [tB]
       have VV:=J (Zb.o (.inl ⟨by omega,tB⟩));go_wp2_with fail
       all_goals
        exact wy
      .have q0:(x==0)=false:=by simp [tB]
       by_cases hJ:1<x
       .have q1:decide (1<x)=true:=by simp [hJ]
        have VV:=J (Zb.o (.inr ⟨rfl,hJ⟩));go_wp2_with fail
        all_goals
         exact wy
       .obtain rfl:x=1:=by omega
        clear tB q0 hJ;have VV:=J (FH.o ad);have HT:=J (HTT.o (λ_=>by omega));clear Zb FH HTT;go_wp2_with fail
        go_loopw [6,7] (λt6 t7 wr=>∃(j:Nat) (v:Int),j<=9+1/\t7=.int .i64 ((j:Int) - 1)/\t6=.int .u64 v/\0<=v/\v*2^(7*j)+gJ l j=gJ l (9+1)/\w=wr) (λ_ t7 _=>((intOf t7)+1).toNat)
        case atStart=>exact⟨9+1,0,cr _,by rw [show(((9+1:Nat):Int) - 1)=(9:Nat)by omega];rfl,rfl,Int.le_refl _,by rw [Int.zero_mul,Int.zero_add],by trivial⟩
        case round=>
         obtain⟨j,v,hj,rfl,rfl,i',heq,tf⟩:=hrel;subst tf;have OG:=J heq;clear heq
         cases j with
         |zero=>
          exact ada
         |succ p=>
          have Iu:(0:Int)<=p:=by omega
          have amQ:(p:Int)<=10:=by omega
          have VB:(((p+1:Nat):Int) - 1)=p:=by omega
          rw [VB];have mW:p<l.length:=by omega
          have yq:(p:Int)<n:=by have:=HN.o;omega
          obtain⟨y,hy⟩:=nm' (l.getD p 0);have hye:l[p]=y:=by rw [hy];simp [mW]
          have hcy:w.cell? ⟨b,off+p,none⟩=some (.int .u8 y):=by
           rw [aE.cell p (by simpa [cu]using mW)];simp [cu,mW,hye]
          obtain⟨y0,y1⟩:0<=y/\y<=255:=by rw [hy];exact jQ HO.o p
          have amK:y.tmod 128=y%128:=by rw [Int.tmod_eq_emod_of_nonneg y0]
          have hq0:0<=y%128:=Int.emod_nonneg _ ad;obtain⟨P,hP⟩:∃P:Nat,P=2^(7*p):=⟨_,rfl⟩;have Ac:1<=P:=by rw [hP];exact Nat.one_le_two_pow
          have Px:(128*v+y%128)*2^(7*p)+gJ l p=gJ l (9+1):=by
           exact acV
          exact acR
     .have e9I:¬(i:Int)=9:=by omega
      have q9:((i:Int)==9)=false:=by simp;omega
      by_cases aeo:i=0
      .have hip:¬(0:Int)<i:=by omega
       have qip:decide ((0:Int)<i)=false:=by simp;omega
       have VV:=J (FH.o ad);have HT:=J (HTT.o (λe=>absurd e e9));clear aeo;exact akc
      .have hip:(0:Int)<i:=by omega
       have qip:decide ((0:Int)<i)=true:=by simp;omega
       by_cases tB:x=0
       .have q0:(x==0)=true:=by simp [tB]
        have VV:=J (Zb.o (.inl ⟨by omega,tB⟩));go_wp2_with fail
        all_goals
         exact wy
       .have q0:(x==0)=false:=by simp [tB]
        have VV:=J (FH.o ad);have HT:=J (HTT.o (λe=>absurd e e9));exact akc
   .obtain rfl:i=10:=by omega
    have hk:fP l=10:=lK ad ad fW.o (.inl rfl);have e:=BV hk;obtain⟨z1,z2⟩:=sC (l:=l) (by rw [e];omega);have VV:aoR (V=0/\S=0/\E=3):=J ⟨by rw [HV.o,z1],by rw [HS.o,z2],by rw [HE.o,e]⟩;have amN:¬(10:Int)=n:=by omega
    clear hk e z1 z2;go_wp2_with fail
    all_goals
     exact wy
  .obtain rfl:i=n:=by omega
   by_cases h10:i<10
   .have amf:(i:Int)<10:=by omega
    have hk:fP l=i:=lK Te ad fW.o (.inr (.inl HN.o));have e:=JU hk h10 HN.o;obtain⟨z1,z2⟩:=sC (l:=l) (by rw [e];omega);have VV:aoR (V=0/\S=0/\E=4):=J ⟨by rw [HV.o,z1],by rw [HS.o,z2],by rw [HE.o,e]⟩;clear hk e z1 z2;go_wp2_with fail
    all_goals
     exact wy
   .obtain rfl:i=10:=by omega
    have hk:fP l=10:=lK Te ad fW.o (.inl rfl);have e:=BV hk;obtain⟨z1,z2⟩:=sC (l:=l) (by rw [e];omega);have VV:aoR (V=0/\S=0/\E=3):=J ⟨by rw [HV.o,z1],by rw [HS.o,z2],by rw [HE.o,e]⟩;clear hk e z1 z2;go_wp2_with fail
    all_goals
     exact wy
theorem rj:ga prog 152=true:=by kernel_rfl
theorem oA:dr prog 152=some 3:=by kernel_rfl
theorem Fy {eD:TypeId} {x:Operand} {a:Act} {w:World} {Q:Exit->Act->World->Prop} (hx:d' (a.eval x)=true) (hh:has w (aG (a.eval x)) (aH (a.eval x)) 3=true):
 Oper.wp prog ⟨dst,.load 152 x,eD,pos,after,guard⟩ a w K Q=K (a.put dst (.agg (gets w (aG (a.eval x)) (aH (a.eval x)) 3))) w:=aY 3 rj oA hx hh
theorem NU {eD:TypeId} {x:Operand} {w:World} (hx:d' (ρ x)=true) (hh:has w (aG (ρ x)) (aH (ρ x)) 3=true):
 (execOp ρ ⟨dst,.load 152 x,eD,pos,after,guard⟩).run prog w=.ok (.value (.agg (gets w (aG (ρ x)) (aH (ρ x)) 3))) w:=aD 3 rj oA hx hh
theorem M9 (w:World) (g off:Nat) (hh:has w g off 3=true):(loadVar 152 ⟨g,off,none⟩).run prog w=.ok (.agg (gets w g off 3)) w:=cD prog w _ g off 3 rj oA hh
attribute [go_sem] rj oA
attribute [go_sem↓high] Fy M9 NU
attribute [go_sem high] Fy
def LM (n:Int):Int:=if n%2=1 then -(n / 2) - 1 else n / 2
def oO (l:List Int) (most:Int) (at_:Nat) (err:Int):Int:=if err=0 then(if eC (l.drop at_)=0 then(if most<gM (l.drop at_)then 2 else 0)else eC (l.drop at_))else err
def pw (l:List Int) (most:Int) (at_:Nat) (err:Int):Nat:=if err=0/\oO l most at_ err=0 then at_+iw (l.drop at_)else at_
def oU (l:List Int) (most:Int) (at_:Nat) (err:Int):Int:=if err=0/\oO l most at_ err=0 then gM (l.drop at_)else 0
theorem BW (l:List Int):iw l<=l.length:=by
 unfold iw
 split
 .rename_i h
  unfold eC at h
  have h1:fP l<=l.length:=by
   exact Qf
  split at h
  .omega
  .split at h
   .omega
   .omega
 .omega
theorem WW (l:List Int) (most:Int) (at_:Nat) (err:Int) (h:at_<=l.length):pw l most at_ err<=l.length:=by
 unfold pw
 split
 .have:=BW (l.drop at_)
  rw [AE]at this
  omega
 .exact h
theorem Wn {l:List Int} (h:bI l):0<=gM l/\gM l<18446744073709551616:=by
 unfold gM
 split
 .rename_i h0
  refine⟨(qm h _).1,?_⟩;unfold eC at h0
  split at h0
  .omega
  .split at h0
   .omega
   .split at h0
    .omega
    .rename_i h1 h2 h3
     have hk:fP l<=10:=by
      exact Qf
     exact P9 h ad (λe=>by
      by_cases q:l.getD 9 0<=1
      .exact q
      .exact absurd (.inr ⟨e,by omega⟩) h3)
 .omega
theorem j' {l:List Int} (h:bI l) (n:Nat):bI (l.drop n):=λx hx=>h x (List.mem_of_mem_drop hx)
theorem Xc (n:Int) (h0:0<=n) (h1:n<18446744073709551616) (w:World):Calls prog 94 #[.int .u64 n] w λe w'=>e=.returned (.int .i64 (LM n))/\w=w':=by
 have e1:n.tmod 2=n%2:=by rw [Int.tmod_eq_emod_of_nonneg h0]
 have e2:n.tdiv 2=n / 2:=by rw [Int.tdiv_eq_ediv_of_nonneg h0]
 have e3:wrap64 (n / 2)=n / 2:=by unfold wrap64;omega
 go_enter func94,ntmps94
 by_cases h:n%2=1
 .have hb:(n%2==1)=true:=by simp [h]
  go_wp21;go_ret;refine⟨bB ?_,rfl⟩;unfold LM;rw [ak h]
  all_goals first|omega|(simp only [im];done)|(simp only [im];omega)
 .have hb:(n%2==1)=false:=by simp;omega
  go_wp21;go_ret;refine⟨bB ?_,rfl⟩;unfold LM;rw [af h]
  all_goals first|rfl|omega
theorem Si (S:Value) (a e0 e:Int) (hS:∃A n c,S=.slice A n c) (w:World):Calls prog 134 #[.agg #[S,.int .i64 a,.int .i64 e0],.int .i64 e] w λr w'=>r=.returned (.agg #[S,.int .i64 a,.int .i64 e])/\al w w':=by
 obtain⟨A,n,c,rfl⟩:=hS;have x1:=(dY w (.cells #[.slice A n c,.int .i64 a,.int .i64 e0] 152)).alloc (.cells #[.slice none 0 0,.int .i64 0,.int .i64 0] 152);have hB:=(bN w 152 #[.slice A n c,.int .i64 a,.int .i64 e0]).alloc (.cells #[.slice none 0 0,.int .i64 0,.int .i64 0] 152);have hD:=ai.ea (w.alloc (.cells #[.slice A n c,.int .i64 a,.int .i64 e0] 152)) 152 #[.slice none 0 0,.int .i64 0,.int .i64 0] (w.heap.size+1) aB;go_enter func134,ntmps134;go_upto_region 1 with(fail);generalize hV:((w.alloc (.cells #[.slice A n c,.int .i64 a,.int .i64 e0] 152)).alloc (.cells #[.slice none 0 0,.int .i64 0,.int .i64 0] 152))=V at x1 hB hD⊢;clear hV;have cB:=bC hB;have fB:=ai.frozen hB;have lB:=hB.lt;go_upto_region 2 with(fail);have hk:Kept (·=w.heap.size) V (V.setCell ⟨w.heap.size,2,none⟩ (.int .i64 e)):=(kR _ _).setCell _ _ (λ_=>rfl)
 have pJ:ai (V.setCell ⟨w.heap.size,2,none⟩ (.int .i64 e)) w.heap.size 152 #[.slice A n c,.int .i64 a,.int .i64 e]:=by
  have q:=ai.eK hB 2 (.int .i64 e);exact q
 have LB:=bK hD hk ad;have hx:=x1.trans' hk (λi hi q=>by omega);generalize (V.setCell ⟨w.heap.size,2,none⟩ (.int .i64 e))=V2 at hk pJ LB hx⊢;clear cB fB lB;have hhB:=bH pJ;have hgB:=bG pJ;have Pq:=pJ.lt;have hmD:=LB.aC;have hhD:=bH LB;have hlD:=LB.lt;go_wp21;exact bu results134 rfl rfl rj (by exact oA) (ai.cw LB 0 _) ⟨rfl,hx.putAt _ _ _ (λaP=>absurd aP ad)⟩
def Ic (w:World) (N:Nat) (A:Option Addr) (n cap:Nat) (l:List Int):Prop:=n=l.length/\n<=cap/\n<=100000/\bI l/\∃b off,(0<n->A=some ⟨b,off,none⟩)/\(0<n->b<N/\Row w b off (cu l))
theorem Ic.ext {w w':World} {N:Nat} {A:Option Addr} {n cap:Nat} {l:List Int} (h:Ic w N A n cap l) (hk:al w w'):Ic w' N A n cap l:=by
 obtain⟨h1,h2,h3,h4,b,off,h5,h6⟩:=h;exact⟨h1,h2,h3,h4,b,off,h5,λh0=>⟨(h6 h0).1,(h6 h0).2.ext hk⟩⟩
abbrev pz (A:Option Addr) (n cap at_:Nat) (err:Int):Array Value:=#[.slice A n cap,.int .i64 (at_:Int),.int .i64 err]
end Mc
section
open Mc
theorem Row.back {w:World} {b off:Nat} {vs:List Value} (h:Row w b off vs) (k:Nat) (hk:k<=vs.length):Row w b (off+k) (vs.drop k):=by
 obtain⟨h1,h2⟩:=h.sub k (vs.length - k) ad;have hl:(vs.drop k).length=vs.length - k:=AE ..;refine⟨by rw [hl];exact h1,?_,h.lt⟩;rw [hl,h2,kI (by rw [hl];exact cr _)]
end
namespace Mc
variable{base:Nat}{ds:List Wd}{ls:List Wl}
theorem sJ (A:Option Addr) (n cap:Nat) (l:List Int) (at_:Nat) (err most:Int) (N:Nat) (w:World) (_hN:N<=w.heap.size) (h:Ic w N A n cap l) (l7:at_<=n):
 Calls prog 93 #[.agg (pz A n cap at_ err),.int .u64 most] w λe w'=>e=.returned (.tuple #[.agg (pz A n cap (pw l most at_ err) (oO l most at_ err)),.int .u64 (oU l most at_ err)])/\al w w':=by
 obtain⟨E,hE⟩:=nm' (oO l most at_ err);obtain⟨P,hP⟩:=nm' (pw l most at_ err);obtain⟨V,hV⟩:=nm' (oU l most at_ err);rw [<-hE,<-hP,<-hV];have⟨HE,HP,HV⟩:=J3' hE hP hV;clear hE hP hV;have x1:=(dY w (.cells (pz A n cap at_ err) 152)).alloc (.cells #[.slice none 0 0,.int .i64 0,.int .i64 0] 152);have hB:=(bN w 152 (pz A n cap at_ err)).alloc (.cells #[.slice none 0 0,.int .i64 0,.int .i64 0] 152);have hD:=ai.ea (w.alloc (.cells (pz A n cap at_ err) 152)) 152 #[.slice none 0 0,.int .i64 0,.int .i64 0] (w.heap.size+1) aB;go_enter func93,ntmps93;go_upto_region 1 with(fail);generalize hW:((w.alloc (.cells (pz A n cap at_ err) 152)).alloc (.cells #[.slice none 0 0,.int .i64 0,.int .i64 0] 152))=W at x1 hB hD⊢;clear hW;have⟨HX,HB,HD,HS⟩:=J4' x1 hB hD (h.ext x1);obtain⟨rb,mC⟩:=nm' (w.heap.size+1);rw [<-mC]at HD⊢;have wW:=J (show w.heap.size<rb/\w.heap.size<=w.heap.size from⟨by omega,cr _⟩);clear mC x1 hB hD h;obtain⟨pb,mV⟩:=nm' w.heap.size;have ku:=J mV;rw [<-mV]at HB⊢;clear mV;have cB:=bC HB.o;have fB:=ai.frozen HB.o;have lB:=HB.o.lt;have hhB:=bH HB.o;have hgB:=bG HB.o;have hmD:=HD.o.aC;have hhD:=bH HD.o;have hlD:=HD.o.lt;have aml:(at_:Int)<=n:=by omega
 by_cases he:err=0
 .subst he
  have aej:at_<=cap:=ax l7 HS.o.2.1;obtain⟨hn,rB,zG,hok,b,off,hA,hR⟩:=HS.o;have Yw:=J rB;clear rB;have hdl:n - at_=(l.drop at_).length:=by rw [AE,hn]
  have⟨HA,HR,lm,HMX,uA⟩:=J5' hA hR hok zG hn;clear hA hR hok zG hn
  have uc:∀(A':Option Addr) (c':Nat),(0<n - at_->A'=some ⟨b,off+at_,none⟩)->Calls prog 133 #[.slice A' (n - at_) c'] W λe w'=>e=.returned (.tuple #[.int .u64 (gM (l.drop at_)),.int .i64 (iw (l.drop at_)),.int .i64 (eC (l.drop at_))])/\W=w':=λA' c' qK=>
   Kg A' b (off+at_) c' (l.drop at_) (n - at_) hdl (by have:=HMX.o;omega) (j' lm.o _) qK W (λh0=>by
    have q:=(HR.o ad).2;have q2:=Row.back q at_ (by rw [dR];have:=uA.o;omega);rw [show(cu l).drop at_=cu (l.drop at_)by simp [cu,List.map_drop]]at q2;exact q2)
  have HNG:=J uc;clear uc hdl
  by_cases hq:at_=cap
  .subst hq
   exact ajX
  .have q1:¬cap=at_:=λe=>hq e.symm
   have q2:¬cap - at_=0:=by omega
   have q3:at_<cap:=by omega
   have q4:¬cap<=at_:=by omega
   exact ajX
 .have hb:(err==0)=false:=by simp [he]
  have ME:(err !=0)=true:=by unfold bne;rw [hb];rfl
  go_wp21;refine di results93 rfl rfl rj (by exact oA) (ai.cw HD.o 0 _) ⟨?_,?_⟩
  .rw [HE.o,HP.o,HV.o]
   unfold oO pw oU;rw [af he,af (λq=>he q.1),af (λq=>he q.1)]
   rfl
  .exact HX.o.putAt _ _ _ (λaP=>absurd aP (by have:=wW.o;omega))
abbrev kz:Int:=18446744073709551615
def Y1 (l:List Int) (at_:Nat) (err:Int):Int:=if oO l kz at_ err=0 then LM (oU l kz at_ err)else 0
theorem nF {l:List Int} (h:bI l) (most:Int) (at_:Nat) (err:Int):0<=oU l most at_ err/\oU l most at_ err<18446744073709551616:=by
 unfold oU
 split
 .exact Wn (j' h _)
 .omega
theorem WZ (A:Option Addr) (n cap at_:Nat) (err:Int) (_hn:n<=100000) (w:World):Calls prog 95 #[.agg (pz A n cap at_ err)] w λe w'=>e=.returned (.int .i64 (if err=0/\at_<n then 5 else err))/\al w w':=by
 obtain⟨R,hR⟩:=nm' ((if err=0/\at_<n then 5 else err:Int));rw [<-hR];have mv:=J hR;clear hR;have x1:=dY w (.cells (pz A n cap at_ err) 152);have hB:=bN w 152 (pz A n cap at_ err);go_enter func95,ntmps95;go_upto_region 1 with(fail);generalize hW:(w.alloc (.cells (pz A n cap at_ err) 152))=W at x1 hB⊢;clear hW;have cB:=bC hB;have lB:=hB.lt
 by_cases he:err=0
 .have hb:(err==0)=true:=by simp [he]
  by_cases hl:(at_:Int)<n
  .have e5:R=5:=by rw [mv.o];exact ak ⟨he,by omega⟩
   have OE:=J e5;clear e5 he;go_wp21;go_ret;exact⟨bB OE.o.symm,x1⟩
  .have e5:R=err:=by rw [mv.o];exact af (λq=>hl ad)
   have OE:=J e5;clear e5 he;go_wp21;go_ret;exact⟨bB OE.o.symm,x1⟩
 .have hb:(err==0)=false:=by simp [he]
  have e5:R=err:=by rw [mv.o];exact af (λq=>he q.1)
  have OE:=J e5;clear e5 he;go_wp21;go_ret;exact⟨bB OE.o.symm,x1⟩
structure PG (N:Nat) (t:TypeId) (w:World) (A:Option Addr) (n:Nat) (l:List Dg):Prop where
 len:n=l.length
 row:0<n->∃b off,A=some ⟨b,off,none⟩/\Row w b off (cY l)/\(b<N∨∃cV fr,w.heap[b]?=some (.cells cV t fr))
theorem PG.kept {N:Nat} {t:TypeId} {S:Nat->Prop} {w w':World} {A:Option Addr} {n:Nat} {l:List Dg} (h:PG N t w A n l) (hx:Kept S w w') (hs:∀i,S i->N<=i/\∀cV fr,¬w.heap[i]?=some (.cells cV t fr)):PG N t w' A n l:=by
 refine⟨h.len,λh0=>?_⟩;obtain⟨b,off,h1,h2,h3⟩:=h.row h0
 have hb:¬S b:=λq=>by
  rcases h3 with h3|⟨cV,fr,h3⟩
  .have:=(hs b q).1;omega
  .exact(hs b q).2 cV fr h3
 refine⟨b,off,h1,h2.kept hx hb,?_⟩
 rcases h3 with h3|⟨cV,fr,h3⟩
 .exact .inl h3
 .exact .inr ⟨cV,fr,(hx.block b h2.lt hb).trans h3⟩
theorem PG.ext {N:Nat} {t:TypeId} {w w':World} {A:Option Addr} {n:Nat} {l:List Dg} (h:PG N t w A n l) (hx:al w w'):PG N t w' A n l:=h.kept hx (λ_ f=>f.elim)
theorem PG.eT {w:World} {N:Nat} {t:TypeId} {v:Value} {n:Nat} {l:List Dg} (h:w.ownsRow base t 8 v n (cY l)):∃A c,v=.slice A n c/\PG N t w A n l:=by
 have hl:=h.1;rw [eh]at hl
 rcases h.2 with⟨hv,h0⟩|⟨g,c,cV,hv,hb,hc,rB,vu,kL,mX⟩
 .subst h0
  exact⟨_,0,hv,by omega,λh=>by omega⟩
 .refine⟨_,c,hv,by omega,λ_=>⟨g,0,rfl,?_,.inr ⟨cV,(0,0),hc⟩⟩⟩
  exact alc
structure WG (N:Nat) (t:TypeId) (w:World) (d:Wd) (l:Wl):Prop where
 at_:d.at_=l.at_
 EW:d.EW=l.EW
 path:PG N t w d.pa d.pn l.path
theorem WG.kept {N:Nat} {t:TypeId} {S:Nat->Prop} {w w':World} {d:Wd} {l:Wl} (h:WG N t w d l) (hx:Kept S w w') (hs:∀i,S i->N<=i/\∀cV fr,¬w.heap[i]?=some (.cells cV t fr)):WG N t w' d l:=⟨h.at_,h.EW,h.path.kept hx hs⟩
theorem WG.ext {N:Nat} {t:TypeId} {w w':World} {d:Wd} {l:Wl} (h:WG N t w d l) (hx:al w w'):WG N t w' d l:=h.kept hx (λ_ f=>f.elim)
inductive Il (N:Nat) (t:TypeId) (w:World):List Wd->List Wl->Prop where
 |nil:Il N t w [] []
 |cons {d:Wd} {l:Wl} {ds:List Wd} {ls:List Wl}:WG N t w d l->Il N t w ds ls->Il N t w (d::ds) (l::ls)
section
variable {N:Nat} {t:TypeId}
include N t
theorem Il.kept {S:Nat->Prop} {w w':World} (hx:Kept S w w') (hs:∀i,S i->N<=i/\∀cV fr,¬w.heap[i]?=some (.cells cV t fr)):∀{ds:List Wd} {ls:List Wl},Il N t w ds ls->Il N t w' ds ls
 |_,_,.nil=>.nil
 |_,_,.cons h r=>.cons (h.kept hx hs) (r.kept hx hs)
theorem Il.ext {w w':World} (h:Il N t w ds ls) (hx:al w w'):Il N t w' ds ls:=h.kept hx (λ_ f=>f.elim)
theorem Il.len {w:World}:∀{ds:List Wd} {ls:List Wl},Il N t w ds ls->ds.length=ls.length
 |_,_,.nil=>rfl
 |_,_,.cons _ r=>by simp [r.len]
theorem Il.snoc {w:World} {d:Wd} {l:Wl} (h:WG N t w d l):∀{ds:List Wd} {ls:List Wl},Il N t w ds ls->Il N t w (ds++[d]) (ls++[l])
 |_,_,.nil=>.cons h .nil
 |_,_,.cons h' r=>.cons h' (r.snoc h)
theorem Il.get {w:World}:∀{ds:List Wd} {ls:List Wl} (_:Il N t w ds ls) (k:Nat) (h1:k<ds.length) (h2:k<ls.length),WG N t w ds[k] ls[k]
 |_,_,.cons h _,0,_,_=>h
 |_,_,.cons _ r,k+1,h1,h2=>r.get k (by simpa using h1) (by simpa using h2)
end
structure SG (N:Nat) (t tW:TypeId) (w:World) (A:Option Addr) (n:Nat) (ls:List Wl):Prop where
 len:n=ls.length
 row:∃b off ds,(0<n->A=some ⟨b,off,none⟩)/\(0<n->Row w b off (zP ds))/\(0<n->b<N∨∃cV fr,w.heap[b]?=some (.cells cV tW fr))/\Il N t w ds ls
theorem SG.kept {N:Nat} {t tW:TypeId} {S:Nat->Prop} {w w':World} {A:Option Addr} {n:Nat} (h:SG N t tW w A n ls) (hx:Kept S w w') (hs:∀i,S i->N<=i/\∀cV fr,¬w.heap[i]?=some (.cells cV t fr)) (LH:∀i,S i->∀cV fr,¬w.heap[i]?=some (.cells cV tW fr)):SG N t tW w' A n ls:=by
 obtain⟨hl,b,off,ds,h1,h2,h3,h4⟩:=h
 have hb:0<n->¬S b:=λh0 q=>by
  rcases h3 h0 with h3|⟨cV,fr,h3⟩
  .have:=(hs b q).1;omega
  .exact LH b q cV fr h3
 refine⟨hl,b,off,ds,h1,λh0=>(h2 h0).kept hx (hb h0),λh0=>?_,h4.kept hx hs⟩
 rcases h3 h0 with h3|⟨cV,fr,e⟩
 .exact .inl h3
 .exact .inr ⟨cV,fr,(hx.block b (h2 h0).lt (hb h0)).trans e⟩
theorem SG.ext {N:Nat} {t tW:TypeId} {w w':World} {A:Option Addr} {n:Nat} (h:SG N t tW w A n ls) (hx:al w w'):SG N t tW w' A n ls:=h.kept hx (λ_ f=>f.elim) (λ_ f=>f.elim)
theorem SG.eT {w:World} {N:Nat} {t tW:TypeId} {v:Value} {n:Nat} (h:w.ownsRow base tW 3 v n (zP ds)) (hw:Il N t w ds ls):∃A c,v=.slice A n c/\SG N t tW w A n ls:=by
 have hl:=h.1;rw [nM]at hl;have hlen:=hw.len
 rcases h.2 with⟨hv,h0⟩|⟨g,c,cV,hv,hb,hc,rB,vu,kL,mX⟩
 .subst h0
  exact⟨_,0,hv,by omega,0,0,ds,λh=>by omega,λh=>by omega,λh=>by omega,hw⟩
 .refine⟨_,c,hv,by omega,g,0,ds,λ_=>rfl,λ_=>?_,λ_=>.inr ⟨cV,(0,0),hc⟩,hw⟩
  exact ald
theorem F7 {m:List Int} (h:∀z∈m,av z) (k:Nat):av (m.getD k 0):=by
 by_cases hk:k<m.length
 .simp [hk];exact h _ (ed hk)
 .simp [hk];unfold av;omega
theorem aam {c:Bool} {p q:Prop} (hc:c=true) (h:p):if c=true then p else q:=by rw [ak hc];exact h
theorem nl.put {w:World} {s:Ws} {L:Sl} {p:Nat} {cs:Array Value} (h:nl w s L) (hb:ai w p 74 cs) (o:Nat) (vs:Array Value):nl (putAt w p o vs) s L:=by
 have kf:Kept (·=p) w (putAt w p o vs):=Kept.putAt (kR _ w) p o vs (λ_=>rfl);exact⟨h.pc,h.halt,h.words,h.mem,h.ins,h.path.kept kf (λj hj=>by subst hj;exact dV hb ap),h.reads.kept kf (λj hj=>by subst hj;exact dV hb ap) (λj hj=>by subst hj;exact dV hb ap),h.writes.kept kf (λj hj=>by subst hj;exact dV hb ap) (λj hj=>by subst hj;exact dV hb ap)⟩
namespace H6
