import Derived.Sort.OwnSortedInts
import Derived.Lib.OthersKept
import Derived.Test.YtnhelcmddjbafaaGreatDoorTpal
set_option maxHeartbeats 4000000
set_option maxRecDepth 100000
open Go.Proofs.Tryz
namespace Go.Proofs.YtnhelcmddjbafaaGreatDoor
open Go.RowKit
section
open Sq Mc
def mT (w:World) (N:Nat) (s:i_) (l:List Int):Prop:=s.n=l.length/\(∀x∈l,av x)/\∃b off,(0<s.n->s.A=some ⟨b,off,none⟩)/\(0<s.n->b<N/\Row w b off (bj l))
theorem mT.kept {S:Nat->Prop} {w w':World} {N:Nat} {s:i_} {l:List Int} (h:mT w N s l) (hk:Kept S w w') (hS:∀i,i<N->¬S i):mT w' N s l:=by
 obtain⟨h1,h2,b,off,h3,h4⟩:=h;exact⟨h1,h2,b,off,h3,λh0=>⟨(h4 h0).1,(h4 h0).2.kept hk (hS b (h4 h0).1)⟩⟩
theorem mT.ext {w w':World} {N:Nat} {s:i_} {l:List Int} (h:mT w N s l) (hk:al w w'):mT w' N s l:=h.kept hk (λ_ _ f=>f)
theorem mT.mono {w:World} {N N':Nat} {s:i_} {l:List Int} (h:mT w N s l) (hN:N<=N'):mT w N' s l:=by
 obtain⟨h1,h2,b,off,h3,h4⟩:=h;exact⟨h1,h2,b,off,h3,λh0=>⟨by have:=(h4 h0).1;omega,(h4 h0).2⟩⟩
theorem uL.words {w:World} {N:Nat} {s:i_} {l:List Int} (h:uL w N s l) (hl:∀x∈l,av x):mT w N s l:=by
 obtain⟨h1,h2⟩:=h
 by_cases h0:0<s.n
 .obtain⟨b,a1,a2,a3⟩:=h2 h0
  exact⟨h1,hl,b,0,λ_=>a1,λ_=>⟨a2,a3⟩⟩
 .exact⟨h1,hl,0,0,λh=>absurd h h0,λh=>absurd h h0⟩
def DP (l:List Vr) (a:List Int):Bool:=(l.zip a).any λx=>decide (x.2<x.1.low)||decide (x.1.high<x.2)
theorem Qx {l:List Vr} {a:List Int} (i:Nat) (h1:i<l.length) (h2:i<a.length) (h:a[i]<l[i].low∨l[i].high<a[i]):DP l a=true:=by
 unfold DP;rw [List.any_eq_true];have hz:i<(l.zip a).length:=by rw [List.length_zip];omega
 refine⟨(l.zip a)[i],ed hz,?_⟩;rw [List.getElem_zip]
 rcases h with h|h
 .simp [h]
 .simp [h]
theorem AU {l:List Vr} {a:List Int} (h:∀i (h1:i<l.length) (h2:i<a.length),¬(a[i]<l[i].low∨l[i].high<a[i])):DP l a=false:=by
 unfold DP;rw [List.any_eq_false];intro x hx;obtain⟨i,hi,e⟩:=List.mem_iff_getElem.1 hx;rw [List.length_zip]at hi;rw [List.getElem_zip]at e;have hq:=h i ad ad;subst e;simp only [Bool.or_eq_true,jP];exact hq
def jF (p:Pr) (part:Int):Int:=if part=0 then 0 else cells p.vars
def fD (p:Pr) (part:Int):Nat:=if part=2 then p.params.length else if part=3 then 1 else 0
def jg (p:Pr) (part:Int) (V Ar:List Int):Int:=
 if part<0∨4<part then 1 else if¬(V.length:Int)=jF p part∨¬Ar.length=fD p part then 3
 else if part=2/\DP p.params Ar=true then 2 else 0
theorem QE (cb N:Nat) (k:Cd) (p:Pr) (part:Int) (vs ag:i_) (V Ar:List Int) (w:World) (hN:N<=w.heap.size) (hC:gC w N cb k p) (hv:mT w N vs V) (ha:mT w N ag Ar) (hp:p.params.length<=4):
 Calls prog 104 #[.pointer (some ⟨cb,0,none⟩),.int .i64 part,vs.v,ag.v] w λe w'=>e=.returned (.int .i64 (jg p part V Ar))/\al w w':=by
 obtain⟨F,hF⟩:=nm' (jg p part V Ar);rw [<-hF];have⟨HC,HV,HA,HN,HF,Di,zW,Qk⟩:=J8' hC hv ha hN hF hp hC.kc hC.params.1;clear hC hv ha hF hN hp
 by_cases hr:0<=part/\part<5
 rotate_left
 .have hb:(decide (0<=part)&&decide (part<5))=false:=by
   rw [Bool.and_eq_false_iff,decide_eq_false_iff_not,decide_eq_false_iff_not]
   omega
  have HF1:=J (show F=1 by rw [HF.o];unfold jg;rw [ak ad]);clear hr;go_enter func104,ntmps104;go_wp21;refine aoT (n9 _ _) ?_;rw [hb];go_wp21;go_ret;exact⟨bB HF1.o.symm,kR _ _⟩
 have hj:part=0∨part=1∨part=2∨part=3∨part=4:=by omega
 clear hr
 rcases hj with rfl|rfl|rfl|rfl|rfl
 .skip
  go_enter func104,ntmps104;go_wp21;refine aoT (n9 _ _) ?_;go_upto_region 3 with(fail);refine XZ ?_;have yd:al w w.drew:=(kR _ w).drew
  repeat first|refine cx ?_|refine de yd XI ?_|refine dc yd ?_
  refine au (λK hK=>?_);go_simp;refine zy9 ?_;clear hK K;intro wA yA bA;generalize hg:(w:World).heap.size=g at bA⊢;have HG:=J hg;clear hg;have l1:=bH bA;have l2:=ai.aC bA;have l3:=bA.lt;have BA:=J bA;clear bA yd;refine X' ?_;clear l1 l2 l3 yA;intro w4 HB HY
  by_cases e1:(vs.n:Int)=0
  rotate_left
  .have q1:((vs.n:Int) !=0)=true:=bne_iff_ne.2 e1
   have Ra:F=3:=by
    have hl:=HV.o.1;have hc:=zW.o;have hw:jF p 0=0:=rfl;exact Li
   exact Lh
  have q1:((vs.n:Int) !=0)=false:=by rw [e1];simp
  have Zj:=J e1;clear e1
  by_cases e2:(ag.n:Int)=0
  rotate_left
  .have q2:((ag.n:Int) !=0)=true:=bne_iff_ne.2 e2
   have Ra:F=3:=by
    have hl:=HA.o.1;have hc:=Qk.o;have hw:fD p 0=0:=rfl;exact Lj
   exact Lg
  have q2:((ag.n:Int) !=0)=false:=by rw [e2];simp
  have OD:=J e2;clear e2
  have hok:¬(¬(V.length:Int)=jF p 0∨¬Ar.length=fD p 0):=by
   have h1:=HV.o.1;have h2:=HA.o.1;have h3:=zW.o;have h4:=Qk.o;have h5:=Zj.o;have h6:=OD.o;have h7:jF p 0=0:=rfl;have h8:fD p 0=0:=rfl;rw [h7,h8]
   omega
  exact abM
 .skip
  go_enter func104,ntmps104;go_wp21;refine aoT (n9 _ _) ?_;go_upto_region 3 with(fail);refine XZ ?_;have yd:al w w.drew:=(kR _ w).drew
  repeat first|refine cx ?_|refine de yd XI ?_|refine dc yd ?_
  refine au (λK hK=>?_);go_simp;refine zy9 ?_;clear hK K;intro wA yA bA;generalize hg:(w:World).heap.size=g at bA⊢;have HG:=J hg;clear hg;have l1:=bH bA;have l2:=ai.aC bA;have l3:=bA.lt;have BA:=J bA;clear bA yd;refine X' ?_;clear l1 l2 l3 yA;intro w4 HB HY
  by_cases e1:(vs.n:Int)=k.cells
  rotate_left
  .have q1:((vs.n:Int) !=k.cells)=true:=bne_iff_ne.2 e1
   have Ra:F=3:=by
    have hl:=HV.o.1;have hc:=zW.o;have hw:jF p 1=cells p.vars:=rfl;exact Li
   exact Lh
  have q1:((vs.n:Int) !=k.cells)=false:=by rw [e1];simp
  have Zj:=J e1;clear e1
  by_cases e2:(ag.n:Int)=0
  rotate_left
  .have q2:((ag.n:Int) !=0)=true:=bne_iff_ne.2 e2
   have Ra:F=3:=by
    have hl:=HA.o.1;have hc:=Qk.o;have hw:fD p 1=0:=rfl;exact Lj
   exact Lg
  have q2:((ag.n:Int) !=0)=false:=by rw [e2];simp
  have OD:=J e2;clear e2
  have hok:¬(¬(V.length:Int)=jF p 1∨¬Ar.length=fD p 1):=by
   have h1:=HV.o.1;have h2:=HA.o.1;have h3:=zW.o;have h4:=Qk.o;have h5:=Zj.o;have h6:=OD.o;have h7:jF p 1=cells p.vars:=rfl;have h8:fD p 1=0:=rfl;rw [h7,h8]
   omega
  exact abM
 .skip
  go_enter func104,ntmps104;go_wp21;refine aoT (n9 _ _) ?_;go_upto_region 3 with(fail);refine XZ ?_;have yd:al w w.drew:=(kR _ w).drew
  repeat first|refine cx ?_|refine de yd XI ?_|refine dc yd ?_
  refine au (λK hK=>?_);go_simp;refine zy9 ?_;clear hK K;intro wA yA bA;generalize hg:(w:World).heap.size=g at bA⊢;have HG:=J hg;clear hg;have l1:=bH bA;have l2:=ai.aC bA;have l3:=bA.lt;have BA:=J bA;clear bA yd;refine X' ?_;clear l1 l2 l3 yA;intro w4 HB HY
  by_cases e1:(vs.n:Int)=k.cells
  rotate_left
  .have q1:((vs.n:Int) !=k.cells)=true:=bne_iff_ne.2 e1
   have Ra:F=3:=by
    have hl:=HV.o.1;have hc:=zW.o;have hw:jF p 2=cells p.vars:=rfl;exact Li
   exact Lh
  have q1:((vs.n:Int) !=k.cells)=false:=by rw [e1];simp
  have Zj:=J e1;clear e1
  by_cases e2:(ag.n:Int)=(k.params.n:Nat)
  rotate_left
  .have q2:((ag.n:Int) !=(k.params.n:Nat))=true:=bne_iff_ne.2 e2
   have Ra:F=3:=by
    have hl:=HA.o.1;have hc:=Qk.o;have hw:fD p 2=p.params.length:=rfl;exact Lj
   exact Lg
  have q2:((ag.n:Int) !=(k.params.n:Nat))=false:=by rw [e2];simp
  have OD:=J e2;clear e2
  have hok:¬(¬(V.length:Int)=jF p 2∨¬Ar.length=fD p 2):=by
   have h1:=HV.o.1;have h2:=HA.o.1;have h3:=zW.o;have h4:=Qk.o;have h5:=Zj.o;have h6:=OD.o;have h7:jF p 2=cells p.vars:=rfl;have h8:fD p 2=p.params.length:=rfl;rw [h7,h8]
   omega
  have l1:=bC HB.o;have l2:=HB.o.lt
  have zV:=J (show F=if DP p.params Ar=true then 2 else 0 by
   rw [HF.o];unfold jg;rw [af ad,af hok]
   cases DP p.params Ar<;>simp)
  clear hok;obtain⟨yq,hpf,hpo,pb,po,hpA,hpE⟩:=HC.o.params;obtain⟨Vo,hao,ab,ao,haA,haE⟩:=HA.o;have⟨jh,HPE,OB,HAO,HAA,HAE,rX⟩:=J7' hpA hpE (show Ar.length=p.params.length by have:=OD.o;omega) hao haA haE (show ag.n=k.params.n by have:=OD.o;omega);have hpm:k.params.n<=4:=by have:=Qk.o;have:=Di.o;omega
  clear yq hpf hpo hpA hpE Vo hao haA haE;have i1:=bC (bX HC.o.box HY.o);have i2:=(bX HC.o.box HY.o).lt;go_wp21;clear i1 i2 l1 l2
  go_loopw [51] (λt51 wr=>∃j:Nat,j<=k.params.n/\t51=.int .i64 j/\(∀i (h1:i<p.params.length) (h2:i<Ar.length),i<j->¬(Ar[i]<p.params[i].low∨p.params[i].high<Ar[i]))/\al w wr) (λt51 _=>k.params.n - (intOf t51).toNat)
  case atStart=>exact⟨0,cI _,rfl,λi _ _ h=>by omega,HY.o⟩
  case round=>
   obtain⟨j,hj,rfl,hall,hk⟩:=hrel;have fW:=J hall;have HK:=J hk;clear hall hk
   by_cases aP:j<k.params.n
   .have d_:j<p.params.length:=by have:=Qk.o;omega
    have hja:j<Ar.length:=by have:=OB.o;omega
    have gD:(j:Int)<k.params.n:=by omega
    have aox:(j:Int)<ag.n:=by have:=rX.o;omega
    have aoy:j<ag.n:=by have:=rX.o;omega
    have F9:=jh.o ad;have aE:=(HPE.o ad).2.ext HK.o;obtain⟨u2,u3⟩:=oB aE j d_;have u1:=aE.lt;have hrA:=(HAE.o ad).2.ext HK.o;have uC:=HAA.o ad;have TG:=J (HAO.o Ar[j] (ed hja));have Zg:=J (Qx j d_ hja)
    have HGO:=J (show¬(Ar[j]<p.params[j].low∨p.params[j].high<Ar[j])->∀i (h1:i<p.params.length) (h2:i<Ar.length),i<j+1->¬(Ar[i]<p.params[i].low∨p.params[i].high<Ar[i])from λh i h1 h2 hi=>by
     rcases(by omega:i<j∨i=j)with q|q
     .exact fW.o i h1 h2 q
     .subst q;exact h)
    have hAc:=Row.mem hrA j hja;generalize p.params[j]=v at u3 Zg HGO;generalize Ar[j]=x at TG Zg HGO hAc;have y0:=dY wr (.cells (aZ v) 232);have eY:=bN wr 232 (aZ v);have HAC:=J ((Kept.cell y0 (p:=⟨ab,ao+j,none⟩) hrA.lt (λf=>f)).trans hAc);have FI:=J (gK hrA.lt y0.size);clear aE hrA hAc;rw [F9,uC];go_upto_region 12 with(fail);generalize (wr.alloc (.cells (aZ v) 232))=W6 at y0 eY HAC FI⊢;generalize wr.heap.size=g2 at eY⊢;have HG6:=J eY;have FJ:=J (HK.o.trans y0);clear y0 eY u1 u2 u3 F9 uC;have b1:=bC HG6.o;have b2:=HG6.o.lt;have b3:=HAC.o;have b4:=FI.o;have T8:IntKind.i64.wrap x=x:=wrap_i64 (by have:=TG.o;unfold av at this;unfold br;omega)
    by_cases c1:x<v.low
    .have d1:decide (x<v.low)=true:=cJ c1
     have HF2:=J (show F=2 by rw [zV.o,Zg.o (Or.inl c1)];rfl);clear c1
     go_quiet (fail)
     go_wp21;go_ret;exact⟨bB HF2.o.symm,Kept.drewN FJ.o _⟩
    .have d1:decide (x<v.low)=false:=cT c1
     by_cases c2:v.high<x
     .have d2:decide (v.high<x)=true:=cJ c2
      have HF2:=J (show F=2 by rw [zV.o,Zg.o (Or.inr c2)];rfl);clear c1 c2
      go_quiet (fail)
      go_wp21;go_ret;exact⟨bB HF2.o.symm,Kept.drewN FJ.o _⟩
     .have d2:decide (v.high<x)=false:=cT c2
      have wH:=J (HGO.o (λh=>h.elim c1 c2));clear c1 c2
      go_quiet (fail)
      go_wp21;go_roundw
      case rel=>exact⟨j+1,aP,by go_num,wH.o,Kept.drewN FJ.o _⟩
      case measure=>simp only [intOf];omega
   .obtain rfl:j=k.params.n:=by omega
    have HF0:=J (show F=0 by
     rw [zV.o,AU (λi h1 h2=>fW.o i h1 h2 (by have:=Qk.o;omega))];rfl)
    go_wp21;go_ret;exact⟨bB HF0.o.symm,HK.o⟩
 .skip
  go_enter func104,ntmps104;go_wp21;refine aoT (n9 _ _) ?_;go_upto_region 3 with(fail);refine XZ ?_;have yd:al w w.drew:=(kR _ w).drew
  repeat first|refine cx ?_|refine de yd XI ?_|refine dc yd ?_
  refine au (λK hK=>?_);go_simp;refine zy9 ?_;clear hK K;intro wA yA bA;generalize hg:(w:World).heap.size=g at bA⊢;have HG:=J hg;clear hg;have l1:=bH bA;have l2:=ai.aC bA;have l3:=bA.lt;have BA:=J bA;clear bA yd;refine X' ?_;clear l1 l2 l3 yA;intro w4 HB HY
  by_cases e1:(vs.n:Int)=k.cells
  rotate_left
  .have q1:((vs.n:Int) !=k.cells)=true:=bne_iff_ne.2 e1
   have Ra:F=3:=by
    have hl:=HV.o.1;have hc:=zW.o;have hw:jF p 3=cells p.vars:=rfl;exact Li
   exact Lh
  have q1:((vs.n:Int) !=k.cells)=false:=by rw [e1];simp
  have Zj:=J e1;clear e1
  by_cases e2:(ag.n:Int)=1
  rotate_left
  .have q2:((ag.n:Int) !=1)=true:=bne_iff_ne.2 e2
   have Ra:F=3:=by
    have hl:=HA.o.1;have hc:=Qk.o;have hw:fD p 3=1:=rfl;exact Lj
   exact Lg
  have q2:((ag.n:Int) !=1)=false:=by rw [e2];simp
  have OD:=J e2;clear e2
  have hok:¬(¬(V.length:Int)=jF p 3∨¬Ar.length=fD p 3):=by
   have h1:=HV.o.1;have h2:=HA.o.1;have h3:=zW.o;have h4:=Qk.o;have h5:=Zj.o;have h6:=OD.o;have h7:jF p 3=cells p.vars:=rfl;have h8:fD p 3=1:=rfl;rw [h7,h8]
   omega
  exact abM
 .skip
  go_enter func104,ntmps104;go_wp21;refine aoT (n9 _ _) ?_;go_upto_region 3 with(fail);refine XZ ?_;have yd:al w w.drew:=(kR _ w).drew
  repeat first|refine cx ?_|refine de yd XI ?_|refine dc yd ?_
  refine au (λK hK=>?_);go_simp;refine zy9 ?_;clear hK K;intro wA yA bA;generalize hg:(w:World).heap.size=g at bA⊢;have HG:=J hg;clear hg;have l1:=bH bA;have l2:=ai.aC bA;have l3:=bA.lt;have BA:=J bA;clear bA yd;refine X' ?_;clear l1 l2 l3 yA;intro w4 HB HY
  by_cases e1:(vs.n:Int)=k.cells
  rotate_left
  .have q1:((vs.n:Int) !=k.cells)=true:=bne_iff_ne.2 e1
   have Ra:F=3:=by
    have hl:=HV.o.1;have hc:=zW.o;have hw:jF p 4=cells p.vars:=rfl;exact Li
   exact Lh
  have q1:((vs.n:Int) !=k.cells)=false:=by rw [e1];simp
  have Zj:=J e1;clear e1
  by_cases e2:(ag.n:Int)=0
  rotate_left
  .have q2:((ag.n:Int) !=0)=true:=bne_iff_ne.2 e2
   have Ra:F=3:=by
    have hl:=HA.o.1;have hc:=Qk.o;have hw:fD p 4=0:=rfl;exact Lj
   exact Lg
  have q2:((ag.n:Int) !=0)=false:=by rw [e2];simp
  have OD:=J e2;clear e2
  have hok:¬(¬(V.length:Int)=jF p 4∨¬Ar.length=fD p 4):=by
   have h1:=HV.o.1;have h2:=HA.o.1;have h3:=zW.o;have h4:=Qk.o;have h5:=Zj.o;have h6:=OD.o;have h7:jF p 4=cells p.vars:=rfl;have h8:fD p 4=0:=rfl;rw [h7,h8]
   omega
  exact abM
end
namespace Mc
theorem MX:(prog.info? 71).map (λi=>(i.zero,i.size,i.bytes))=some (some (.agg (Ins.cells ⟨0,0,0,0⟩)),4,32):=by kernel_rfl
theorem BK (l:List Ins):eB (db l)=true:=by
 induction l with
 |nil=>rfl
 |cons d l ih=>show eB (d.cells.toList++db l)=true;simpa [eB,Value.oneCell']using ih
open Go.ChangeShapes Go.WideShapes
theorem ZW (w:World) (d:Nat) (a0 a1 a2 a3 a4 a5 a6 a7 b0 b1 b2 b3 b4 b5 b6 b7:Int):
 (Op.equalIn (d+2) 24 (.agg #[.int .u8 a0,.int .u8 a1,.int .u8 a2,.int .u8 a3,.int .u8 a4,.int .u8 a5,.int .u8 a6,.int .u8 a7]) (.agg #[.int .u8 b0,.int .u8 b1,.int .u8 b2,.int .u8 b3,.int .u8 b4,.int .u8 b5,.int .u8 b6,.int .u8 b7])).run prog w=
  .ok ([a0,a1,a2,a3,a4,a5,a6,a7]==[b0,b1,b2,b3,b4,b5,b6,b7]) w:=
 pC w d _ 5 8 .u8 underlying24 underlying5 (λw=>qj aV w) [a0,a1,a2,a3,a4,a5,a6,a7] [b0,b1,b2,b3,b4,b5,b6,b7] rfl rfl
theorem UY (w:World) (a0 a1 a2 a3 a4 a5 a6 a7 b0 b1 b2 b3 b4 b5 b6 b7:Int):
 (Op.equalIn 10000 24 (.agg #[.int .u8 a0,.int .u8 a1,.int .u8 a2,.int .u8 a3,.int .u8 a4,.int .u8 a5,.int .u8 a6,.int .u8 a7]) (.agg #[.int .u8 b0,.int .u8 b1,.int .u8 b2,.int .u8 b3,.int .u8 b4,.int .u8 b5,.int .u8 b6,.int .u8 b7])).run prog w=
  .ok ([a0,a1,a2,a3,a4,a5,a6,a7]==[b0,b1,b2,b3,b4,b5,b6,b7]) w:=ZW w 9998 _ _ _ _ _ _ _ _ _ _ _ _ _ _ _ _
theorem My:prog.eqGuardType prog.depth 24=false:=by kernel_rfl
attribute [go_sem] UY My
namespace CR
end CR
theorem aeI:(prog.info? 271).map (λi=>(i.zero,i.size,i.bytes))=some (some (.agg #[.int .i64 0,.int .i32 0,.slice none 0 0]),3,40):=by kernel_rfl
end Mc
section
open Mc
open Go.ChangeShapes Go.WideShapes
end
namespace Mc
open Go.ChangeShapes Go.WideShapes
variable{base pos:Nat}{dst:Option Tmp}{after:Array Edge}{guard:Option (Nat×Bool)}
abbrev aiM (pc halt:Int) (k:Nat) (M:Dg) (g c:Nat):Array Value:=#[.int .i64 pc,.int .i64 halt,.int .i64 k,.int .u8 M.x0,.int .u8 M.x1,.int .u8 M.x2,.int .u8 M.x3,.int .u8 M.x4,.int .u8 M.x5,.int .u8 M.x6,.int .u8 M.x7,.int .i64 0,.int .i64 0,.int .i64 0,.int .i64 0,.slice none 0 0,.slice (some ⟨g,0,none⟩) 1 c,.slice none 0 0]
attribute [go_sem] aiM
namespace H9
end H9
theorem Xb (A:Option Addr) (b off cn cap:Nat) (c:List Ins) (pc halt:Int) (b' bL n eF:Nat) (m:List Int) (w:World) (h:kO w A b off cn c b' bL n pc halt m):
 Calls prog 50 #[.slice A cn cap,.agg (ae pc (some ⟨b',bL,none⟩) n eF halt),.int .i64 1] w λe w'=>∃v k t,e=.returned (.tuple #[v,k,t])/\IP w w' v n (jB c pc halt m).1 (jB c pc halt m).2.1 (jB c pc halt m).2.2:=by
 obtain⟨eH,sl,aE,sq,jj,hn,hg,ie,BG⟩:=h;obtain⟨h1,h2,h3,h4,h5,h6⟩:=cG hg;have⟨mD,HA,HR,qQ,HN,HG,HO⟩:=J7' eH sl aE sq hn hg ie;clear eH sl aE sq hn hg ie;refine ajP ?_;clear BG;intro aF hA0 fz tE;go_wp21;refine(qg pc halt b' bL eF m n HN.o h1 ad _ tE).mono ?_;rintro e w1 ⟨v1,rfl,g,kc,rfl,eR,aw⟩;have oS:=bX hA0 aw;have g_:=bX fz aw;have lA:=hA0.lt;have lR:=fz.lt;have hgb:=eR.ge;have Jw:=bH oS;have EP:=ai.aC oS;have uC:ai (putAt w1 w.heap.size 0 (ae pc (some ⟨g,0,none⟩) n kc halt)) w.heap.size 47 (ae pc (some ⟨g,0,none⟩) n kc halt):=ai.cw oS _ _;have oK:=ai.Co g_ (show w.heap.size+1≠w.heap.size by omega) 0 (ae pc (some ⟨g,0,none⟩) n kc halt);refine ajW ?_;intro eN;have y2:al w (putAt w1 w.heap.size 0 (ae pc (some ⟨g,0,none⟩) n kc halt)):=Kept.putAt (aF.trans aw) _ _ _ (λh=>by omega);go_upto_region 2 with(fail);clear hA0 fz oS g_ eR Jw EP aF tE;generalize (putAt w1 w.heap.size 0 (ae pc (some ⟨g,0,none⟩) n kc halt))=W2 at uC oK eN y2⊢;have i1:=bH uC;have i2:=bG uC;go_wp21;refine aoS (fT pc halt (some ⟨g,0,none⟩) n kc _) λw3 dv=>?_;rw [HG.o];have LA:=bX uC dv;have o4:=bX oK dv;have xf:=eN.ext dv;have y3:=y2.trans dv;clear uC oK eN y2 dv i1 i2;go_wp21;refine(KW _).mono ?_;rintro e w4 ⟨rfl,hQ4,eS⟩;have hA4:=bX LA eS;have Jp:=bX o4 eS;have hM4:=xf.ext eS;have y4:=y3.trans eS;have lg:=xf.lt;clear LA o4 xf y3 eS;generalize w3.heap.size=q at hQ4 lg⊢;go_wp21;have Dk:¬w.heap.size=g:=by omega
 go_loopw [10] (λt10 wr=>∃(k:Nat) (r:Int×Int×List Int),t10=.int .i64 k/\((k=0/\r=(pc,halt,m))∨(k=1/\halt=0/\r=gO c pc m))/\oF wr w.heap.size 47 r.1 (some ⟨g,0,none⟩) n kc r.2.1/\eg wr w.heap.size g n kc r.2.2/\Kept (λi=>i=w.heap.size∨i=g) w4 wr) (λt10 _=>1 - (intOf t10).toNat)
 case atStart=>exact⟨0,(pc,halt,m),rfl,.inl ⟨rfl,rfl⟩,hA4,hM4,kR _ _⟩
 case round=>
  obtain⟨k,r,rfl,Ae,hA,hM,Z8⟩:=hrel;have O9:=bK Jp Z8 ad;have yr:al w wr:=y4.trans' Z8 (λi hi e=>by omega)
  by_cases TS:k=0/\halt=0
  .obtain⟨rfl,hz⟩:=TS
   have tE:r=(pc,halt,m):=by
    rcases Ae with h|h
    .exact h.2
    .omega
   subst tE;subst hz;clear Ae
   have xo:dD wr w.heap.size w.heap.size g n kc q A b off cn c pc m:=
    ⟨HN.o,h1,h2,HO.o,mD.o.ext yr,hA,hM,hQ4.kept Z8 ad,HA.o,λh0=>(HR.o h0).ext yr,qQ.o,jj,h3,h4,Dk⟩
   have FO:=J xo;clear xo;have sl:=bC hA;go_wp21;refine aoS (KD wr w.heap.size w.heap.size g n kc q A b off cn cap c pc m FO.o) λw5 Rw=>?_;have qT:=J Rw;clear Rw;go_wp21;go_roundw
   case rel=>exact⟨1,_,by go_num,.inr ⟨rfl,trivial,rfl⟩,qT.o.st,qT.o.mem,Z8.trans qT.o.kept⟩
   case measure=>simp only [intOf];omega
  .have dz:r=jB c pc halt m:=by
    unfold jB
    rcases Ae with⟨h,e⟩|⟨h,hz,e⟩
    .rw [af (λz=>TS ⟨h,z⟩)];exact e
    .rw [ak hz];exact e
   have yw:(k:Int)<1->(r.2.1==0)=false:=by
    intro hk
    rcases Ae with⟨h,e⟩|⟨h,hz,e⟩
    .rw [e];simp;exact λz=>TS ⟨h,z⟩
    .omega
   have amE:k=0∨k=1:=by rcases Ae with h|h<;>omega
   obtain⟨jk,bU,m'⟩:=r;simp only at hA hM yw;have Ul:=J dz;clear Ae dz TS;have sl:=bC hA;have lA:=hA.lt;have lR:=O9.lt;have hhR:=bH O9;have hmR:=ai.aC O9
   rcases amE with rfl|rfl
   .have hs0:=yw ad
    clear yw;exact akh
   .clear yw
    exact akh
theorem E8 (A:Option Addr) (b off cn cap:Nat) (c:List Ins) (pc halt:Int) (b' bL n eF:Nat) (m:List Int) (w:World) (h:kO w A b off cn c b' bL n pc halt m):
 Calls prog 111 #[.slice A cn cap,.agg (ae pc (some ⟨b',bL,none⟩) n eF halt)] w λe w'=>∃v,e=.returned v/\IP w w' v n (jB c pc halt m).1 (jB c pc halt m).2.1 (jB c pc halt m).2.2:=by
 have HP:=J h;clear h;have aF:al w _:=(dM w (.cells (ae pc (some ⟨b',bL,none⟩) n eF halt) 47)).alloc (.cells (ae 0 none 0 0 0) 47);have fz:ai _ (w.heap.size+1) 47 (ae 0 none 0 0 0):=ai.ea (w.alloc (.cells (ae pc (some ⟨b',bL,none⟩) n eF halt) 47)) _ _ _ aB;obtain⟨r,hr⟩:=nm' (jB c pc halt m);rw [<-hr];have HRr:=J hr;clear hr;go_enter func111,ntmps111;go_wp21;refine(Xb A b off cn cap c pc halt b' bL n eF m _ (HP.o.ext aF)).mono ?_;rintro e w1 ⟨v1,k1,t1,rfl,mJ⟩;rw [<-HRr.o]at mJ;obtain⟨g,kc,rfl,eR,aw⟩:=mJ;obtain⟨jk,bU,m'⟩:=r;simp only at eR;have g_:=ai.alloc (bX fz aw) (.cells (ae jk (some ⟨g,0,none⟩) n kc bU) 47);have Bt:=bN w1 47 (ae jk (some ⟨g,0,none⟩) n kc bU);have y1:=(aF.trans aw).alloc (.cells (ae jk (some ⟨g,0,none⟩) n kc bU) 47);have eN:=eR.ext (dM w1 (.cells (ae jk (some ⟨g,0,none⟩) n kc bU) 47));have lE:=eR.ge;have ls:=aF.size;simp at lE;have lR:=(bX fz aw).lt;clear fz eR aw aF;go_upto_region 2 with(fail);generalize (w1.alloc (.cells (ae jk (some ⟨g,0,none⟩) n kc bU) 47))=W1 at g_ Bt y1 eN⊢;generalize w1.heap.size=c1 at Bt lR⊢;have i1:=bH Bt;have i2:=bG Bt;have i3:=bH g_;have i4:=ai.aC g_;go_wp21;refine bu results111 rfl rfl jK zQ (ai.cw g_ _ _) ⟨_,rfl,g,kc,rfl,?_,Kept.putAt y1 _ _ _ (λh=>by omega)⟩;exact eI (eN.kept (Kept.putAt (S:=(·=w.heap.size+1)) (kR _ _) _ _ _ (λ_=>rfl)) ad) kr
theorem aaS (p n c:Nat) (A:Option Addr) (w:World) (hc:w.cell? ⟨p,0,none⟩=some (.slice A n c)):
 Calls prog 231 #[.pointer (some ⟨p,0,none⟩)] w λe w'=>e=.returned (.int .i64 n)/\w=w':=by
 go_enter func231,ntmps231;go_wp21;go_ret;exact⟨rfl,rfl⟩
theorem KS (p n c:Nat) (A:Option Addr) (i:Int) (w:World) (hc:w.cell? ⟨p,0,none⟩=some (.slice A n c)):
 Calls prog 165 #[.pointer (some ⟨p,0,none⟩),.int .i64 i] w λe w'=>e=.returned (.bool (decide (0<=i)&&decide (i<n)))/\w=w':=by
 have HC:=J hc;clear hc
 by_cases h0:0<=i
 .have b0:decide (0<=i)=true:=by simpa using h0
  go_enter func165,ntmps165;go_wp21;refine aoT (aaS p n c A _ HC.o) ?_;go_wp21;go_ret;exact⟨by first|rfl|(rw [b0];rfl),rfl⟩
 .have b0:decide (0<=i)=false:=by simpa using h0
  go_enter func165,ntmps165;go_wp21;go_ret;exact⟨by first|rfl|(rw [b0];rfl),rfl⟩
def Ku (x:Nat):Nat:=if x%2=0 then x+1 else x - 1
theorem afb {x n:Nat} (h:x<2*n):Ku x<2*n:=by
 unfold Ku
 split<;>omega
theorem Xh:∀a:Fin 65,∀b:Fin 64,bits .xor .i64 ((a.val*64+b.val:Nat):Int) 1=(Ku (a.val*64+b.val):Int):=by decide+kernel
theorem aaM (x:Nat) (h:x<=4096):bits .xor .i64 (x:Int) 1=(Ku x:Int):=by
 have:=Xh ⟨x / 64,by omega⟩ ⟨x%64,by omega⟩;simp only at this
 rwa [show x / 64*64+x%64=x by omega]at this
def h_ (l:List Dg) (H i:Nat):List Dg:=(List.range H).map λv=>fc l v (Ku (i / 2^v))
theorem jS (l:List Dg) (H i:Nat):(h_ l H i).length=H:=by simp [h_]
theorem Kb (l:List Dg) (H i:Nat):∀d∈h_ l H i,d.ok:=by
 intro d hd;simp [h_]at hd;obtain⟨v,_,rfl⟩:=hd;exact B9 l v _
def J' (l:List Dg) (i k:Nat):List Dg:=(List.range k).map λv=>fc l v (Ku (i / 2^v))
theorem NA (l:List Dg) (i k:Nat):J' l i (k+1)=J' l i k++[fc l k (Ku (i / 2^k))]:=by simp [J',List.range_succ]
theorem Bi {i H k:Nat} (hi:i<2^H) (hk:k<=H):i / 2^k<2^(H - k):=by
 apply Nat.div_lt_of_lt_mul;rw [<-Nat.pow_add,Nat.add_sub_cancel' hk];exact hi
theorem mH (i k:Nat):i / 2^k / 2=i / 2^(k+1):=by rw [Nat.div_div_eq_div_mul,Nat.pow_succ]
def adD (w w':World) (e:Ending) (n:Nat) (l:List Dg):Prop:=∃v,e=.returned (.tuple #[v,.int .i64 0])/\w'.ownsRow w.heap.size 25 8 v n (cY l)/\al w w'
theorem KV (base p:Nat) (l:List Dg) (i:Nat) (w:World) (h1:1<=l.length) (h2:l.length<=4096) (hi:i<l.length) (h:jJ w base p l):
 Calls prog 180 #[.pointer (some ⟨p,0,none⟩),.int .i64 i] w λe w'=>adD w w' e (iM l.length) (h_ l (iM l.length) i):=by
 obtain⟨cg,cc,f,G,h⟩:=h;have hb:=pT l.length h1 h2;have hc:=h.blk.cell 0 ad;rw [h.f0]at hc;obtain⟨H,hH⟩:=nm' (iM l.length);rw [<-hH]at hb h⊢;obtain⟨n,hn⟩:=nm' l.length;rw [<-hn]at hc h1 h2 hi hb hH;obtain⟨Vb,hnH⟩:=hb;have HP:aoR (i<2^H):=J ad;have⟨HC,HH,HL,HN⟩:=J4' hc hH h hn;have mW:=h.blk.lt;have ub:(i:Int)<n:=by omega
 have UH:(decide ((0:Int)<=i)&&decide ((i:Int)<n))=true:=by simp;omega
 have HB:=J UH;obtain⟨w0,tE,VM,aF⟩:=PF w H ad;clear hc hH h hn hnH UH;go_enter func180,ntmps180;go_wp21;refine aoT (KS p n cc _ i _ HC.o) ?_;rw [HB.o];go_upto_region 5 with(fail);go_step
 iterate 1 refine kE ?_
 refine wpList_step (λK hK=>?_);go_wp21;refine(ql p n cc _ _ h1 h2 HC.o).mono ?_;rintro e w1 ⟨e1,rfl⟩;replace e1:e=.returned (.int .i64 H):=by rw [e1,HH.o]
 subst e1;refine hK _ _ ?_;clear hK K;refine ia rfl _ _ 23 rfl rfl rfl tE ?_;clear tE;go_wp21;refine(ql p n cc _ _ h1 h2 ((Kept.cell aF (p:=⟨p,0,none⟩) mW (λf=>f)).trans HC.o)).mono ?_;rintro e w1 ⟨e1,rfl⟩;replace e1:e=.returned (.int .i64 H):=by rw [e1,HH.o]
 subst e1;go_wp21
 go_loopw [1,6,21] (λt1 t6 t21 wr=>∃(k:Nat),k<=H/\t21=.int .i64 k/\t1=.int .i64 (i / 2^k:Nat)/\wr.ownsRow w.heap.size 25 8 t6 k (cY (J' l i k))/\al w wr) (λ_ _ t21 _=>H - (intOf t21).toNat)
 case atStart=>exact⟨0,by omega,rfl,by simp,VM,aF⟩
 case round=>
  obtain⟨k,hk,rfl,rfl,ho,hx⟩:=hrel;have pW:∀i,i<w.heap.size->(u6:Value).ownBlock=some i->False:=λi hi e=>by have:=(ho.lt i e).1;omega
  have qw:=J pW;clear pW;obtain⟨x,iP⟩:=nm' (i / 2^k);rw [<-iP]
  by_cases aP:k<H
  .have hL:=HL.o.ext hx
   obtain⟨N2,Bu⟩:=nm' (2^(H - k));have Ag:x<N2:=by rw [iP,Bu];exact Bi HP.o ad
   have hNM:N2=2*2^(H - (k+1)):=by rw [Bu];exact sI H k aP
   have Z':N2<=4096:=by rw [Bu];exact ax (Nat.pow_le_pow_right ad (show H - k<=12 by omega)) ap
   obtain⟨y,hy⟩:=nm' (Ku x);have pL:y<N2:=by rw [hy,hNM];exact afb ad
   have hyx:bits .xor .i64 (x:Int) 1=(y:Int):=by rw [hy];exact aaM x ad
   have LK:(y:Int)<N2:=by omega
   have TO:=hL.blk.cell (1+k) ad;rw [hL.fl k ad,<-Bu]at TO;have hBl:=hL.lv k ad;have aip:y<(p5 l H k).length:=by rw [sw,<-Bu];exact pL
   obtain⟨Iq,Js⟩:=(ai.row hBl).ZT y aip;rw [dT]at Iq Js;have Bz:=hBl.lt;obtain⟨D,hD⟩:=nm' (fc l k y)
   have hD':(p5 l H k)[y]=D:=by
    have:=rD l H k y (by rw [<-Bu];exact pL);rw [hD,<-this];simp [aip]
   rw [hD']at Js;have aos:(k:Int)<13:=by omega
   have⟨HX,HY,HD⟩:=J3' iP hy hD;clear iP Bu hNM hy hD hD' hL hBl;go_upto_region 9 with(fail);go_step
   iterate 12 refine kE ?_
   obtain⟨v2,w2,iV,mq,eV⟩:=L7 (wr.alloc (.cells D.cells 25)) _ _ _ (J' l i k) (ho.alloc _) wr.heap.size 0 1 1 [D] rfl (by simpa [cY]using Row.cF (bN wr 25 D.cells)) ad XO;refine cj rfl (.tmp 24) (.tmp 35) 23 rfl rfl rfl rfl iV ?_;clear iV;have T4:(x:Int).tdiv 2=(x / 2:Nat):=by rw [Int.tdiv_eq_ediv_of_nonneg ad];omega
   clear hyx;go_wp21;go_roundw
   case rel=>
    refine⟨k+1,aP,by go_num,?_,by rw [NA,<-HX.o,<-HY.o,<-HD.o];exact mq,(hx.alloc _).trans' eV qw.o⟩;rw [<-mH,<-HX.o]
    go_num
   case measure=>simp only [intOf];omega
  .obtain rfl:k=H:=by omega
   clear iP;go_wp21
   go_ret2
   exact⟨_,rfl,ho,hx⟩
def tz:Nat->Dg->List Dg->Dg
 |_,d,[]=>d
 |i,d,o::r=>tz (i / 2) (if i%2=0 then tX d o else tX o d) r
theorem tU (i:Nat) (d:Dg) (r:List Dg) (k:Nat) (hk:k<r.length):tz i d (r.drop k)=tz (i / 2) (if i%2=0 then tX d r[k]else tX r[k] d) (r.drop (k+1)):=by
 rw [q_ hk,tz]
def vY (i:Nat) (leaf:Dg) (path:List Dg):Dg:=Vk (tz i (Rb leaf) path) path.length
def BX (i:Int) (h:Nat):Bool:=decide (h<=12)&&decide (0<=i)&&decide (i<2^h)
def qG (i:Int) (leaf:Dg) (path:List Dg):Dg:=if BX i path.length=true then vY i.toNat leaf path else Dg.zero
theorem abh (i:Int) (leaf:Dg) (A:Option Addr) (h cap:Nat) (w:World) (hm:BX i h=false):
 Calls prog 235 #[.int .i64 i,.agg #[.int .u8 leaf.x0,.int .u8 leaf.x1,.int .u8 leaf.x2,.int .u8 leaf.x3,.int .u8 leaf.x4,.int .u8 leaf.x5,.int .u8 leaf.x6,.int .u8 leaf.x7],.slice A h cap] w λe w'=>e=.returned (.tuple #[.agg Dg.zero.cells,.bool false])/\al w w':=by
 refine ajO ?_;intro aF fz
 by_cases h12:h<=12
 .have c12:¬(12:Int)<h:=by omega
  by_cases h0:0<=i
  .obtain⟨N,hN⟩:=nm' (2^h)
   have hNi:(N:Int)<=i:=by
    simp [BX,h12,h0]at hm;have:((2^h:Nat):Int)=(2:Int)^h:=by simp
    rw [hN];omega
   have rA:N<=4096:=by rw [hN];exact ax (Nat.pow_le_pow_right ad h12) ap
   have Iu:(2:Int)^h=(N:Int):=by rw [hN];simp
   have hp1:(2:Int)^h<=4096:=by omega
   have T3:(2:Int)^h<=i:=by omega
   clear Iu;have hq0:(2:Int)^h=(N:Int):=by rw [hN];simp
   have Iu:0<=(2:Int)^h:=by omega
   clear hq0 hm hN hNi rA;exact Yb
  .clear hm
   exact Yb
 .have c12:(12:Int)<h:=by omega
  clear hm;exact Yb
theorem abi (i:Nat) (leaf:Dg) (hl:leaf.ok) (A:Option Addr) (b off h cap:Nat) (path:List Dg) (hh:h=path.length) (hok:∀d∈path,d.ok) (h12:h<=12) (hi:i<2^h) (hA:0<h->A=some ⟨b,off,none⟩) (w:World) (hr:0<h->Row w b off (cY path)):
 Calls prog 235 #[.int .i64 i,.agg #[.int .u8 leaf.x0,.int .u8 leaf.x1,.int .u8 leaf.x2,.int .u8 leaf.x3,.int .u8 leaf.x4,.int .u8 leaf.x5,.int .u8 leaf.x6,.int .u8 leaf.x7],.slice A h cap] w λe w'=>e=.returned (.tuple #[.agg (vY i leaf path).cells,.bool true])/\al w w':=by
 refine ajO ?_;intro aF fz;have c12:¬(12:Int)<h:=by omega
 have yq:(2:Int)^h=((2^h:Nat):Int):=by simp
 have h4:2^h<=4096:=ax (Nat.pow_le_pow_right ad h12) ap;have hp1:(2:Int)^h<=4096:=by omega
 have T3:(i:Int)<(2:Int)^h:=by omega
 have hi4:i<4096:=by omega
 have⟨HIh,HHl,HO,HA,HR,HLf⟩:=J6' hi hh hok hA hr hl;clear yq h4 hi hh hok hA hr hl;obtain⟨D,hD⟩:=nm' (vY i leaf path);rw [<-hD];have HD:=J hD;clear hD;go_enter func235,ntmps235;go_wp21;refine(Gz leaf HLf.o _).mono ?_;rintro e w1 ⟨e1,aw⟩;obtain⟨Z,hZ⟩:=nm' (Rb leaf);rw [<-hZ]at e1;subst e1;have hZk:Z.ok:=by rw [hZ];exact kj _ _
 have HZ:=J hZ;have HZk:=J hZk;clear hZ hZk;have g_:=ai.alloc (bX fz aw) (.cells Z.cells 25);have Bt:=bN w1 25 Z.cells;have y1:=(aF.trans aw).alloc (.cells Z.cells 25);have lR:=(bX fz aw).lt;have lw:=(aF.trans aw).size;clear fz aw aF hp1 T3;go_wp21;generalize (w1.alloc (.cells #[.int .u8 Z.x0,.int .u8 Z.x1,.int .u8 Z.x2,.int .u8 Z.x3,.int .u8 Z.x4,.int .u8 Z.x5,.int .u8 Z.x6,.int .u8 Z.x7] 25))=W1 at g_ Bt y1⊢;generalize w1.heap.size=c9 at Bt lR lw⊢
 go_loopw [0,31] (λt0 t31 wr=>∃(k x:Nat) (d:Dg),k<=h/\x<=i/\t31=.int .i64 k/\t0=.int .i64 x/\d.ok/\ai wr c9 25 d.cells/\tz x d (path.drop k)=tz i (Rb leaf) path/\Kept (·=c9) W1 wr) (λ_ t31 _=>h - (intOf t31).toNat)
 case atStart=>exact⟨0,i,Z,by omega,by omega,rfl,rfl,HZk.o,Bt,by rw [HZ.o];simp,kR _ _⟩
 case round=>
  obtain⟨k,x,d,hk,hxi,rfl,rfl,hdk,hB,hfo,Z7⟩:=hrel;have HF:=J hfo;have HDK:=J hdk;clear hfo hdk;have yr:al w wr:=y1.trans' Z7 (λi hi e=>by omega)
  by_cases aP:k<h
  .have gD:(k:Int)<h:=by omega
   have nS:k<path.length:=by have:=HHl.o;omega
   obtain rfl:=HA.o ad;have aE:=(HR.o ad).ext yr;obtain⟨Iq,Js⟩:=aE.ZT k nS;have qB:=aE.lt;obtain⟨o,ho⟩:=nm' (path[k]);rw [<-ho]at Js;have hok:o.ok:=by rw [ho];exact HO.o _ (ed nS)
   have lm:=J hok;have HOo:=J ho;clear hok ho;have hc9:=hB.lt;have wK:=ai.alloc hB (.cells o.cells 25);have hO1:=bN wr 25 o.cells;have aw:=(kR (·=c9) wr).alloc (.cells o.cells 25);go_upto_region 8 with(fail);generalize (wr.alloc (.cells #[.int .u8 o.x0,.int .u8 o.x1,.int .u8 o.x2,.int .u8 o.x3,.int .u8 o.x4,.int .u8 o.x5,.int .u8 o.x6,.int .u8 o.x7] 25))=W2 at wK hO1 aw⊢;clear Iq Js qB;generalize wr.heap.size=c11 at hO1 hc9⊢;have i1:=bH wK;have i2:=bG wK;have i3:=bH hO1;have i4:=bG hO1;have hxd:(x:Int).tdiv 2=(x / 2:Nat):=by rw [Int.tdiv_eq_ediv_of_nonneg ad];omega
   have hxm:(x:Int).tmod 2=(x%2:Nat):=by rw [Int.tmod_eq_emod_of_nonneg ad];omega
   by_cases he:x%2=0
   .have tB:((x:Int)%2==0)=true:=by simp;omega
    have hJ:(((x%2:Nat):Int)==0)=true:=by simp;omega
    have jo:((x%2:Nat)==0)=true:=by simp;omega
    have HE:=J he;clear he;go_wp21;refine aoS (Hw d o HDK.o lm.o _) λw3 dv=>?_;have Ga:=bX wK dv;have j1:=bH Ga;have j2:=ai.aC Ga;clear i1 i2 i3 i4;go_wp21;go_roundw
    case rel=>
     refine⟨k+1,x / 2,tX d o,aP,by omega,by go_num,by go_num,Gd _ _,ai.cw Ga _ _,?_,Kept.putAt ((Z7.trans aw).trans (Kept.ext dv)) _ _ _ (λ_=>rfl)⟩;rw [<-HF.o,tU x d path k nS,ak HE.o,HOo.o]
    case measure=>simp only [intOf];omega
   .have tB:((x:Int)%2==0)=false:=by simp;omega
    have hJ:(((x%2:Nat):Int)==0)=false:=by simp;omega
    have jo:((x%2:Nat)==0)=false:=by simp;omega
    have HE:=J he;clear he;go_wp21;refine aoS (Hw o d lm.o HDK.o _) λw3 dv=>?_;have Ga:=bX wK dv;have j1:=bH Ga;have j2:=ai.aC Ga;clear i1 i2 i3 i4;go_wp21;go_roundw
    case rel=>
     refine⟨k+1,x / 2,tX o d,aP,by omega,by go_num,by go_num,Gd _ _,ai.cw Ga _ _,?_,Kept.putAt ((Z7.trans aw).trans (Kept.ext dv)) _ _ _ (λ_=>rfl)⟩;rw [<-HF.o,tU x d path k nS,af HE.o,HOo.o]
    case measure=>simp only [intOf];omega
  .have ek:k=h:=by omega
   have hdD:Vk d h=D:=by
    have:=HF.o;rw [ek,HHl.o,tp,tz]at this;rw [HD.o,vY,<-this,<-HHl.o]
   have HDD:=J hdD;clear hdD;have O9:=bK g_ Z7 ad;have i1:=bH hB;have i2:=bG hB;go_wp21;refine(P1 d HDK.o h h12 _).mono ?_;rintro e w3 ⟨e3,dv⟩;rw [HDD.o]at e3;subst e3;have o4:=bX O9 dv;have j1:=bH o4;have j2:=ai.aC o4;go_wp21;refine di results235 rfl rfl dU kH (ai.cw o4 _ _) ⟨rfl,?_⟩;exact Kept.putAt (yr.trans dv) _ _ _ (λh=>by omega)
structure oE (w:World) (A:Option Addr) (b off h:Nat) (path:List Dg):Prop where
 len:h=path.length
 ok:∀d∈path,d.ok
 at_:0<h->A=some ⟨b,off,none⟩
 row:0<h->Row w b off (cY path)
 ty:0<h->∃cV fr,w.heap[b]?=some (.cells cV 25 fr)
theorem oE.kept {S:Nat->Prop} {w w':World} {A:Option Addr} {b off h:Nat} {path:List Dg} (hp:oE w A b off h path) (hx:Kept S w w') (hs:∀i,S i->∀cV fr,¬w.heap[i]?=some (.cells cV 25 fr)):oE w' A b off h path:=by
 have hb:0<h->¬S b:=λh0 hS=>by
  obtain⟨cV,fr,e⟩:=hp.ty h0;exact hs b hS cV fr e
 refine⟨hp.len,hp.ok,hp.at_,λh0=>(hp.row h0).kept hx (hb h0),λh0=>?_⟩;obtain⟨cV,fr,e⟩:=hp.ty h0;exact⟨cV,fr,(hx.block b (hp.row h0).lt (hb h0)).trans e⟩
theorem oE.ext {w w':World} {A:Option Addr} {b off h:Nat} {path:List Dg} (hp:oE w A b off h path) (hx:al w w'):oE w' A b off h path:=
 hp.kept hx (λ_ f=>f.elim)
theorem Wu {i:Int} {h:Nat} (hm:BX i h=true):h<=12/\0<=i/\i.toNat<2^h/\i=i.toNat:=by
 simp [BX]at hm;obtain⟨⟨h1,h2⟩,h3⟩:=hm;have e:(2:Int)^h=((2^h:Nat):Int):=by simp
 exact⟨h1,h2,by omega,by omega⟩
theorem K1 (i:Int) (leaf:Dg) (hl:leaf.ok) (A:Option Addr) (b off h cap:Nat) (path:List Dg) (w:World) (hp:oE w A b off h path):
 Calls prog 235 #[.int .i64 i,.agg #[.int .u8 leaf.x0,.int .u8 leaf.x1,.int .u8 leaf.x2,.int .u8 leaf.x3,.int .u8 leaf.x4,.int .u8 leaf.x5,.int .u8 leaf.x6,.int .u8 leaf.x7],.slice A h cap] w λe w'=>e=.returned (.tuple #[.agg (qG i leaf path).cells,.bool (BX i h)])/\al w w':=by
 cases hm:BX i h
 .rw [show qG i leaf path=Dg.zero by simp [qG,<-hp.len,hm]]
  exact abh i leaf A h cap w hm
 .obtain⟨h1,h2,h3,h4⟩:=Wu hm
  obtain⟨k,rfl⟩:∃k:Nat,i=k:=⟨_,h4⟩;rw [show qG k leaf path=vY k leaf path by simp only [qG,<-hp.len,ak hm,rc]];exact abi k leaf hl A b off h cap path hp.len hp.ok h1 (by simpa using h3) hp.at_ w hp.row
def O_ (a b:Dg):Bool:=a.x0==b.x0&&(a.x1==b.x1&&(a.x2==b.x2&&(a.x3==b.x3&&(a.x4==b.x4&&(a.x5==b.x5&&(a.x6==b.x6&&a.x7==b.x7))))))
theorem F3 (a b:Dg):O_ a b=true↔a=b:=by
 obtain⟨a0,a1,a2,a3,a4,a5,a6,a7⟩:=a;obtain⟨b0,b1,b2,b3,b4,b5,b6,b7⟩:=b;simp [O_]
theorem Bf (a:Dg):O_ a a=true:=(F3 a a).2 rfl
def pR (root:Dg) (i:Int) (leaf:Dg) (path:List Dg):Bool:=BX i path.length&&O_ (qG i leaf path) root
theorem CJ (root:Dg) (i:Int) (leaf:Dg) (hl:leaf.ok) (A:Option Addr) (b off h cap:Nat) (path:List Dg) (w:World) (hp:oE w A b off h path):
 Calls prog 187 #[.agg #[.int .u8 root.x0,.int .u8 root.x1,.int .u8 root.x2,.int .u8 root.x3,.int .u8 root.x4,.int .u8 root.x5,.int .u8 root.x6,.int .u8 root.x7],.int .i64 i,.agg #[.int .u8 leaf.x0,.int .u8 leaf.x1,.int .u8 leaf.x2,.int .u8 leaf.x3,.int .u8 leaf.x4,.int .u8 leaf.x5,.int .u8 leaf.x6,.int .u8 leaf.x7],.slice A h cap] w λe w'=>e=.returned (.bool (pR root i leaf path))/\al w w':=by
 obtain⟨R,hR⟩:=nm' (pR root i leaf path);rw [<-hR];obtain⟨D,hD⟩:=nm' (qG i leaf path);obtain⟨B,hB⟩:=nm' (BX i h);have Vh:R=(B&&O_ D root):=by rw [hR,pR,hB,hD,hp.len]
 have⟨HD,HB,HP,HL,mv⟩:=J5' hD hB hp hl Vh;clear hR hD hB Vh hp hl;have aF:al w _:=(dM w (.cells root.cells 25)).alloc (.cells leaf.cells 25);have TN:ai _ w.heap.size 25 root.cells:=ai.alloc (bN w _ _) (.cells leaf.cells 25);go_enter func187,ntmps187;go_wp21;refine(K1 i leaf HL.o A b off h cap path _ (HP.o.ext aF)).mono ?_;rintro e w1 ⟨e1,aw⟩;replace e1:e=.returned (.tuple #[.agg D.cells,.bool B]):=by rw [e1,HD.o,HB.o]
 subst e1;have Vi:=ai.alloc (bX TN aw) (.cells D.cells 25);have Bt:=bN w1 25 D.cells;have y1:=(aF.trans aw).alloc (.cells D.cells 25);have l1:=(bX TN aw).lt;clear aF TN aw;go_upto_region 2 with(fail);generalize (w1.alloc (.cells #[.int .u8 D.x0,.int .u8 D.x1,.int .u8 D.x2,.int .u8 D.x3,.int .u8 D.x4,.int .u8 D.x5,.int .u8 D.x6,.int .u8 D.x7] 25))=W1 at Vi Bt y1⊢;generalize w1.heap.size=c9 at Bt l1⊢;have i1:=bH Vi;have i2:=bG Vi;have i3:=bH Bt;have i4:=bG Bt
 cases B
 .go_wp21
  go_ret;exact⟨aR mv.o.symm,y1⟩
 .go_wp21
  go_ret;exact⟨aR (by rw [mv.o,rf];rfl),y1⟩
theorem S_ (i:Int) (leaf:Dg) (hl:leaf.ok) (A:Option Addr) (b off h cap:Nat) (path:List Dg) (w:World) (hp:oE w A b off h path):
 Calls prog 241 #[.int .i64 i,.agg #[.int .u8 leaf.x0,.int .u8 leaf.x1,.int .u8 leaf.x2,.int .u8 leaf.x3,.int .u8 leaf.x4,.int .u8 leaf.x5,.int .u8 leaf.x6,.int .u8 leaf.x7],.slice A h cap] w λe w'=>e=.returned (.agg (qG i leaf path).cells)/\al w w':=by
 obtain⟨D,hD⟩:=nm' (qG i leaf path);rw [<-hD];have⟨HD,HP,HL⟩:=J3' hD hp hl;clear hD hp hl;have aF:al w _:=(dM w (.cells leaf.cells 25)).alloc (.cells Dg.zero.cells 25);have fz:ai _ (w.heap.size+1) 25 Dg.zero.cells:=ai.ea (w.alloc (.cells leaf.cells 25)) _ _ _ aB;go_enter func241,ntmps241;go_wp21;refine(K1 i leaf HL.o A b off h cap path _ (HP.o.ext aF)).mono ?_;rintro e w1 ⟨e1,aw⟩;rw [<-HD.o]at e1;subst e1;have g_:=ai.alloc (bX fz aw) (.cells D.cells 25);have Bt:=bN w1 25 D.cells;have y1:=(aF.trans aw).alloc (.cells D.cells 25);have l1:=(bX fz aw).lt;clear aF fz aw;go_upto_region 2 with(fail);generalize (w1.alloc (.cells #[.int .u8 D.x0,.int .u8 D.x1,.int .u8 D.x2,.int .u8 D.x3,.int .u8 D.x4,.int .u8 D.x5,.int .u8 D.x6,.int .u8 D.x7] 25))=W1 at g_ Bt y1⊢;generalize w1.heap.size=c9 at Bt l1⊢;have i1:=bH g_;have i2:=ai.aC g_;have i3:=bH Bt;have i4:=bG Bt;go_wp21;refine bu results241 rfl rfl dU kH (ai.cw g_ _ _) ⟨rfl,?_⟩;exact Kept.putAt y1 _ _ _ (λh=>by omega)
theorem Bn (l:List Dg) (H i:Nat) (hi:i<2^H):∀k,k<=H->tz (i / 2^(H - k)) (fc l (H - k) (i / 2^(H - k))) ((h_ l H i).drop (H - k))=fc l H 0
 |0,_=>by
  rw [Nat.sub_zero,List.drop_of_length_le (by rw [jS];exact cr _),tz,Nat.div_eq_of_lt hi]
 |k+1,hk=>by
  have ih:=Bn l H i hi k ad;have aP:H - (k+1)<(h_ l H i).length:=by rw [jS];omega
  rw [tU _ _ _ _ aP,mH,show H - (k+1)+1=H - k by omega];have hg:(h_ l H i)[H - (k+1)]=fc l (H - (k+1)) (Ku (i / 2^(H - (k+1)))):=by simp [h_]
  rw [hg]
  have hn:(if i / 2^(H - (k+1))%2=0 then tX (fc l (H - (k+1)) (i / 2^(H - (k+1)))) (fc l (H - (k+1)) (Ku (i / 2^(H - (k+1)))))else tX (fc l (H - (k+1)) (Ku (i / 2^(H - (k+1))))) (fc l (H - (k+1)) (i / 2^(H - (k+1)))))=fc l (H - k) (i / 2^(H - k)):=by
   rw [show H - k=H - (k+1)+1 by omega,fc,<-mH];generalize i / 2^(H - (k+1))=x
   by_cases he:x%2=0
   .rw [ak he,show Ku x=x+1 by simp [Ku,he],show 2*(x / 2)=x by omega]
   .rw [af he,show Ku x=x - 1 by simp [Ku,he],show 2*(x / 2)=x - 1 by omega,show x - 1+1=x by omega]
  rw [hn];exact ih
theorem CQ (l:List Dg) (i:Nat) (hi:i<l.length) (h2:l.length<=4096):vY i l[i] (h_ l (iM l.length) i)=vI l:=by
 have hb:=pT l.length ad h2;have:=Bn l (iM l.length) i ad (iM l.length) (cr _);rw [Nat.sub_self,Nat.pow_zero,Nat.div_one,re]at this;unfold vY vI;rw [jS,<-this];simp [fc,List.getElem?_eq_getElem hi]
def ints (l:List Int):List Value:=l.map (Value.int .i64)
theorem JM (l:List Int):(ints l).length=l.length:=by simp [ints]
theorem aan:(prog.info? 3).map (λi=>(i.zero,i.size,i.bytes))=some (some (.int .i64 0),1,8):=by kernel_rfl
theorem M_ (l:List Int):eB (ints l)=true:=by
 induction l with
 |nil=>rfl
 |cons d l ih=>show eB (.int .i64 d::ints l)=true;simpa [eB,Value.oneCell']using ih
theorem AQ (w:World) (base:Nat) (v:Value) (n:Nat) (xs:List Int) (gp:w.ownsRow base 3 1 v n (ints xs)) (b off m c:Nat) (l:List Int) (hm:m=l.length) (hr:Row w b off (ints l)) (hn:n+m<=100000) (gL:base<=w.heap.size):
 ∃v' w',(Builtin.append_ #[35,35] 35 #[v,.slice (some ⟨b,off,none⟩) m c]).run prog w=.ok v' w'/\w'.ownsRow base 3 1 v' (n+m) (ints (xs++l))/\Kept (λi=>v.ownBlock=some i) w w':=by
 obtain⟨i,hi,hz,h1,h2⟩:=info_parts aan;have:=oX (P:=prog) underlying35 hi hz h1 h2 fK ap w base v n (ints xs) gp b off m c (ints l) (by rw [JM,hm,Nat.mul_one]) hr (M_ l) Ib ad gL;rw [show ints xs++ints l=ints (xs++l)by simp [ints]]at this;exact this
theorem Ci {w:World} {v:Value} {n:Nat} {l:List Int} (h:w.ownsRow base 3 1 v n (ints l)):n=l.length/\((v=.slice none 0 0/\l=[])∨∃g c cV,v=.slice (some ⟨g,0,none⟩) n c/\base<=g/\w.heap[g]?=some (.cells cV 3 (0,0))/\n<=c/\c<=maxLen/\cV.size=c/\cV.toList.take n=ints l):=by
 have hl:=h.1;rw [JM,Nat.mul_one]at hl;refine⟨hl.symm,?_⟩
 rcases h.2 with⟨hv,h0⟩|⟨g,c,cV,hv,hb,hc,rB,vu,kL,mX⟩
 .exact .inl ⟨hv,List.eq_nil_of_length_eq_zero ad⟩
 .rw [Nat.mul_one]at kL mX
  exact .inr ⟨g,c,cV,hv,hb,hc,rB,vu,kL,mX⟩
theorem ow {w:World} {g:Nat} {cV:Array Value} {n:Nat} {l:List Int} (hc:w.heap[g]?=some (.cells cV 3 (0,0))) (hn:n=l.length) (mX:cV.toList.take n=ints l) (j:Nat) (hj:j<l.length):w.cell? ⟨g,j,none⟩=some (.int .i64 (l.getD j 0)):=by
 have h1:(cV.toList.take n)[j]?=(ints l)[j]?:=by rw [mX]
 rw [List.getElem?_take_of_lt ad]at h1;simp only [World.cell?,hc];simp only [Option.isSome_none,Bool.false_eq_true,if_false];rw [<-Array.getElem?_toList,h1];simp [ints,hj]
theorem mG {w:World} {v:Value} {n:Nat} {l:List Int} (x:Int) (h:w.ownsRow base 3 1 v n (ints l)) (hn:n<=100000):
 Calls prog 163 #[v,.int .i64 x] w λe w'=>e=.returned (.bool (l.contains x))/\w=w':=by
 obtain⟨hl,hc⟩:=Ci h
 rcases hc with⟨rfl,rfl⟩|⟨g,c,cV,rfl,_,DZ,_,_,_,mX⟩
 .exact(slices_Contains_int_empty none 0 x w).mono λe w' ⟨h1,h2⟩=>⟨h1,h2.symm⟩
 .refine(slices_Contains_int g 0 n c l x w ad ad (λj hj=>by rw [dT];exact ow DZ hl mX j hj)).mono λe w' ⟨h1,h2⟩=>⟨?_,h2.symm⟩
  rw [h1,kI ad]
def nH (l:List Int):List Int:=l.mergeSort λx y=>decide (x<=y)
theorem KB {w:World} {v:Value} {n:Nat} {l:List Int} (h:w.ownsRow base 3 1 v n (ints l)) (hn:n<=100000):
 Calls prog 164 #[v] w λe w'=>e=.returned (.tuple #[])/\w'.ownsRow base 3 1 v n (ints (nH l))/\Kept (λi=>v.ownBlock=some i) w w':=by
 obtain⟨hl,hc⟩:=Ci h
 rcases hc with⟨rfl,rfl⟩|⟨g,c,cV,rfl,hb,DZ,h1,h2,h3,mX⟩
 .have hn0:n=0:=by simpa using hl
  subst hn0;exact(slices_Sort_int_none none 0 w).mono λe w' ⟨h1,h2⟩=>⟨h1,by rw [h2,show ints (nH [])=[]by simp [nH,ints]];exact World.ownsRow_nil _ _ _ _,by rw [h2];exact kR _ _⟩
 .subst hl
  refine(slices_Sort_int g 0 c l w (holds_of_blockI DZ mX) (Array.getElem?_eq_some_iff.1 DZ).1 ad).mono λe w' ⟨h4,k,os,h5⟩=>⟨h4,?_,?_⟩
  .rw [h5];exact ownsRow_sortedI aB hb DZ h1 h2 ad
  .rw [h5];exact Kept.pr (grownBy_sortedI _)
def oV (w:World) (k:Nat) (s:ByteArray) (pos:Nat):Prop:=w.heap[k]?=some (.stringIter s pos)
theorem oV.lt {w:World} {k:Nat} {s:ByteArray} (h:oV w k s pos):k<w.heap.size:=(Array.getElem?_eq_some_iff.1 h).1
theorem oV.kept {S:Nat->Prop} {w w':World} {k:Nat} {s:ByteArray} (h:oV w k s pos) (hk:Kept S w w') (hs:¬S k):oV w' k s pos:=(hk.block k h.lt hs).trans h
theorem oV.next {w:World} {k:Nat} {s:ByteArray} (h:oV w k s pos) (hp:pos<s.size) (ha:(s[pos]'hp).toNat<128):
 ∃w',(∀ty,(Instr.next (.pointer (some ⟨k,0,none⟩)) true ty).run prog w=.ok (.tuple #[.bool true,.int .i64 pos,.int .i32 (s[pos]'hp).toNat]) w')/\oV w' k s (pos+1)/\Kept (·=k) w w':=by
 refine⟨w.iterAt k s (pos+1),λty=>Lib.run_next_ascii_at w k s pos ty h hp ha,?_,?_⟩
 .unfold oV World.iterAt
  simp [h.lt]
 .refine⟨rfl,rfl,rfl,by simp [World.iterAt],λj hj hn=>?_⟩
  unfold World.iterAt;simp only;rw [Array.getElem?_setIfInBounds];rw [af (λe=>hn e.symm)]
theorem oV.done {w:World} {k:Nat} {s:ByteArray} (h:oV w k s pos) (hp:¬pos<s.size) (ty:TypeId):(Instr.next (.pointer (some ⟨k,0,none⟩)) true ty).run prog w=.ok (.tuple #[.bool false]) w:=Lib.run_next_end_at w k s pos ty h hp
def gN (i:Ins) (c:UInt8) (k:Nat):Bool:=c !=119||(k==0&&i.op !=17)||(k==1&&i.op==15)
def cf (i:Ins) (h:List UInt8):Nat->List Int
 |0=>[]
 |k+1=>if gN i (h.getD k 0) k=true∨(cf i h k).contains (fZ i k)=true then cf i h k else cf i h k++[fZ i k]
theorem jU {i:Ins} {h:List UInt8} {k:Nat} (hs:gN i (h.getD k 0) k=true∨(cf i h k).contains (fZ i k)=true):cf i h (k+1)=cf i h k:=ak hs
theorem uo {i:Ins} {h:List UInt8} {k:Nat} (hs:¬(gN i (h.getD k 0) k=true∨(cf i h k).contains (fZ i k)=true)):cf i h (k+1)=cf i h k++[fZ i k]:=af hs
theorem iX (i:Ins) (h:List UInt8):∀k,(cf i h k).length<=k
 |0=>by simp [cf]
 |k+1=>by
  have:=iX i h k;unfold cf
  split
  .omega
  .simp;omega
def dP (i:Ins):List Int:=if iu i.op=true then cf i (ft i.op.toNat) (ft i.op.toNat).length else []
def IM (w w':World) (e:Ending) (l:List Int):Prop:=∃v,e=.returned v/\w'.ownsRow w.heap.size 3 1 v l.length (ints l)/\al w w'
theorem MB (k:Nat):∀c∈ft k,c.toNat<128:=by
 unfold ft
 split<;>decide
theorem M1 (i:Ins) (w:World) (eH:OpsAt w) (oM:iu i.op=true):Calls prog 160 #[.agg i.cells] w λe w'=>IM w w' e (dP i):=by
 have aF:al w _:=dM w (.cells i.cells 71);have Gc:=bN w 71 i.cells;have mD:=J (eH.ext aF);clear eH;have HO:=J oM;clear oM;obtain⟨h,hh⟩:=nm' (ft i.op.toNat);obtain⟨R,hR⟩:=nm' (dP i);rw [<-hR];have Vh:R=cf i h h.length:=by rw [hR,dP,ak HO.o,hh]
 have hlen:h.length<=3:=by rw [hh];exact vq _
 have HAS:aoR (∀c∈h,c.toNat<128):=J (by rw [hh];exact MB _);have HH:=J hh;have HR:=J Vh;clear hh hR Vh;go_enter func160,ntmps160;go_wp21;refine aoS (Fu i _) λw1 aw=>?_;have JI:=aw.alloc (.cells #[.int .i64 i.a,.int .i64 i.b,.int .i64 i.c] 322);have dO:=bX Gc JI;have Vi:=bN w1 322 #[.int .i64 i.a,.int .i64 i.b,.int .i64 i.c];have y1:=aF.trans JI;have lI:=(bX Gc aw).lt;have hh0:=bH (bX Gc aw);have hg0:=bG (bX Gc aw);have agp:=J (mD.o.ext JI);clear Gc aF mD aw JI;go_upto_region 3 with(fail);generalize (w1.alloc (.cells #[.int .i64 i.a,.int .i64 i.b,.int .i64 i.c] 322))=W1 at dO Vi y1 agp⊢;clear hh0 hg0;generalize w1.heap.size=tb at Vi lI⊢;have Jw:=bH dO;have Rn:=bG dO;go_wp21;refine(vt i _ agp.o).mono ?_;rintro e w2 ⟨e2,bd⟩;replace e2:e=.returned (.string ⟨h.toArray⟩):=by rw [e2,zD,ak HO.o,HH.o];rfl
 subst e2;have ki:=bX dO bd;have hT2:=bX Vi bd;have y2:=y1.trans bd;have hI3:=ai.alloc ki (.stringIter ⟨h.toArray⟩ 0);have hT3:=ai.alloc hT2 (.stringIter ⟨h.toArray⟩ 0);have y3:=y2.alloc (.stringIter ⟨h.toArray⟩ 0);have it3:oV (w2.alloc (.stringIter ⟨h.toArray⟩ 0)) w2.heap.size ⟨h.toArray⟩ 0:=heap_alloc_new w2 _;have lT:=hT2.lt;clear Jw Rn dO Vi y1 ki hT2 y2 bd;go_wp21;have hw3:w2.iter ⟨h.toArray⟩ 0=w2.alloc (.stringIter ⟨h.toArray⟩ 0):=rfl;rw [hw3];clear hw3;generalize (w2.alloc (.stringIter ⟨h.toArray⟩ 0))=W3 at hI3 hT3 y3 it3⊢;generalize w2.heap.size=it at it3 lT⊢
 go_loopg [3] h.length (λgk t3 wr=>∃p,gk=h.length - p/\p<=h.length/\oV wr it ⟨h.toArray⟩ p/\wr.ownsRow (it+1) 3 1 t3 (cf i h p).length (ints (cf i h p))/\ai wr w.heap.size 71 i.cells/\ai wr tb 322 #[.int .i64 i.a,.int .i64 i.b,.int .i64 i.c]/\al w wr)
 case atStart=>exact⟨0,by omega,by omega,it3,World.ownsRow_nil _ _ _ _,hI3,hT3,y3⟩
 case round=>
  obtain⟨p,hgk,hp,hit,ho,hI,hT,hx⟩:=hrel;have Zk:=J hgk;have LS:=J (λj hj=>(ho.lt j hj).1);clear hgk
  by_cases aP:p<h.length
  .have hps:p<(⟨h.toArray⟩:ByteArray).size:=show p<h.toArray.size by simpa using aP
   obtain⟨c,hc⟩:=nm' (h[p]);have hcN:((⟨h.toArray⟩:ByteArray)[p]'hps).toNat=c.toNat:=by rw [hc];rfl
   have hca:c.toNat<128:=by rw [hc];exact HAS.o _ (ed aP)
   have Dl:h.getD p 0=c:=by simp [aP,hc]
   obtain⟨wn,eO,xj,TX⟩:=hit.next hps (by rw [hcN];exact hca);rw [hcN]at eO;have HGD:=J Dl;have oL:=cU ho TX (λj hj e=>by have:=LS.o j hj;omega);have Vc:=bK hI TX ad;have Rj:=bK hT TX ad;have aom:=bC Vc;have yn:al w wn:=hx.trans' TX (λj hj e=>by omega);clear hc hcN Dl hit ho hI hT hx TX;obtain⟨cn,sq⟩:=nm' c.toNat;rw [<-sq]at eO
   have HC:aoR ((c !=119)=((cn:Int) !=119)):=J (by
    by_cases e:c=119
    .subst e;rw [sq];rfl
    .have h1:¬cn=119:=λf=>e (UInt8.toNat_inj.1 (by rw [<-sq,f];rfl))
     rw [show(c !=119)=true by simpa using e,show((cn:Int) !=119)=true by simp;omega])
   clear sq hca
   rcases(by omega:p=0∨p=1∨p=2)with rfl|rfl|rfl
   .cases gB:((cn:Int) !=119)
    .cases aol:(i.op !=17)
     .have zI:gN i c 0=false:=by simp [*,gN,HC.o]
      have Zw:=J zI;clear zI;have pU:=bC Rj;have HO':=J oL;go_wp21;refine(mG (fZ i 0) oL (by have:=iX i h 0;omega)).mono ?_;rintro e w4 ⟨rfl,rfl⟩
      cases Bw:(cf i h 0).contains (fZ i 0)
      .have yv:cf i h (0+1)=cf i h 0++[fZ i 0]:=uo (by rw [HGD.o,Zw.o,Bw];simp)
       have II:=J yv;clear yv Bw;go_upto_region 10 with(fail);go_step
       iterate 5 refine kE ?_
       obtain⟨v2,w5,Gl,xk,ss⟩:=AQ (wn.alloc (.cells #[.int .i64 (fZ i 0)] 3)) _ _ _ (cf i h 0) (oL.alloc _) wn.heap.size 0 1 1 [fZ i 0] rfl (by simpa [ints]using Row.cF (bN wn 3 #[.int .i64 (fZ i 0)])) (by have:=iX i h 0;omega) (by have:=xj.lt;simp;omega);have TQ:=LS.o;have hlI:=Vc.lt;have hlT:=Rj.lt;have MJ:=xj.lt;have k5:Kept (λj=>it<j) wn w5:=(dM wn (.cells #[.int .i64 (fZ i 0)] 3)).trans' ss (λj hj e=>by have:=TQ j e;omega);refine abG ?_;intro MH YG YJ y5;clear Gl TQ;go_wp21
       go_roundg (h.length - (0+1))
       case measure=>have:=Zk.o;omega
       case rel=>exact⟨0+1,rfl,aP,MH,by rw [II.o,dn];exact xk,YG,YJ,y5⟩
      .have yv:cf i h (0+1)=cf i h 0:=jU (.inr Bw)
       have II:=J yv;clear yv Bw;go_wp21
       go_roundg (h.length - (0+1))
       case measure=>have:=Zk.o;omega
       case rel=>exact⟨0+1,rfl,aP,xj,by rw [II.o];exact oL,Vc,Rj,yn⟩
     .have zI:gN i c 0=true:=by simp [*,gN,HC.o]
      exact akQ
    .have zI:gN i c 0=true:=by simp [*,gN,HC.o]
     exact akQ
   .cases gB:((cn:Int) !=119)
    .cases aok:(i.op==15)
     .have zI:gN i c 1=false:=by simp [*,gN,HC.o]
      have Zw:=J zI;clear zI;have pU:=bC Rj;have HO':=J oL;go_wp21;refine(mG (fZ i 1) oL (by have:=iX i h 1;omega)).mono ?_;rintro e w4 ⟨rfl,rfl⟩
      cases Bw:(cf i h 1).contains (fZ i 1)
      .have yv:cf i h (1+1)=cf i h 1++[fZ i 1]:=uo (by rw [HGD.o,Zw.o,Bw];simp)
       have II:=J yv;clear yv Bw;go_upto_region 10 with(fail);go_step
       iterate 5 refine kE ?_
       obtain⟨v2,w5,Gl,xk,ss⟩:=AQ (wn.alloc (.cells #[.int .i64 (fZ i 1)] 3)) _ _ _ (cf i h 1) (oL.alloc _) wn.heap.size 0 1 1 [fZ i 1] rfl (by simpa [ints]using Row.cF (bN wn 3 #[.int .i64 (fZ i 1)])) (by have:=iX i h 1;omega) (by have:=xj.lt;simp;omega);have TQ:=LS.o;have hlI:=Vc.lt;have hlT:=Rj.lt;have MJ:=xj.lt;have k5:Kept (λj=>it<j) wn w5:=(dM wn (.cells #[.int .i64 (fZ i 1)] 3)).trans' ss (λj hj e=>by have:=TQ j e;omega);refine abG ?_;intro MH YG YJ y5;clear Gl TQ;go_wp21
       go_roundg (h.length - (1+1))
       case measure=>have:=Zk.o;omega
       case rel=>exact⟨1+1,rfl,aP,MH,by rw [II.o,dn];exact xk,YG,YJ,y5⟩
      .have yv:cf i h (1+1)=cf i h 1:=jU (.inr Bw)
       have II:=J yv;clear yv Bw;go_wp21
       go_roundg (h.length - (1+1))
       case measure=>have:=Zk.o;omega
       case rel=>exact⟨1+1,rfl,aP,xj,by rw [II.o];exact oL,Vc,Rj,yn⟩
     .have zI:gN i c 1=true:=by simp [*,gN,HC.o]
      exact akR
    .have zI:gN i c 1=true:=by simp [*,gN,HC.o]
     exact akR
   .cases gB:((cn:Int) !=119)
    .have zI:gN i c 2=false:=by simp [*,gN,HC.o]
     have Zw:=J zI;clear zI;have pU:=bC Rj;have HO':=J oL;go_wp21;refine(mG (fZ i 2) oL (by have:=iX i h 2;omega)).mono ?_;rintro e w4 ⟨rfl,rfl⟩
     cases Bw:(cf i h 2).contains (fZ i 2)
     .have yv:cf i h (2+1)=cf i h 2++[fZ i 2]:=uo (by rw [HGD.o,Zw.o,Bw];simp)
      have II:=J yv;clear yv Bw;go_upto_region 10 with(fail);go_step
      iterate 5 refine kE ?_
      obtain⟨v2,w5,Gl,xk,ss⟩:=AQ (wn.alloc (.cells #[.int .i64 (fZ i 2)] 3)) _ _ _ (cf i h 2) (oL.alloc _) wn.heap.size 0 1 1 [fZ i 2] rfl (by simpa [ints]using Row.cF (bN wn 3 #[.int .i64 (fZ i 2)])) (by have:=iX i h 2;omega) (by have:=xj.lt;simp;omega);have TQ:=LS.o;have hlI:=Vc.lt;have hlT:=Rj.lt;have MJ:=xj.lt;have k5:Kept (λj=>it<j) wn w5:=(dM wn (.cells #[.int .i64 (fZ i 2)] 3)).trans' ss (λj hj e=>by have:=TQ j e;omega);refine abG ?_;intro MH YG YJ y5;clear Gl TQ;go_wp21
      go_roundg (h.length - (2+1))
      case measure=>have:=Zk.o;omega
      case rel=>exact⟨2+1,rfl,aP,MH,by rw [II.o,dn];exact xk,YG,YJ,y5⟩
     .have yv:cf i h (2+1)=cf i h 2:=jU (.inr Bw)
      have II:=J yv;clear yv Bw;go_wp21
      go_roundg (h.length - (2+1))
      case measure=>have:=Zk.o;omega
      case rel=>exact⟨2+1,rfl,aP,xj,by rw [II.o];exact oL,Vc,Rj,yn⟩
    .have zI:gN i c 2=true:=by simp [*,gN,HC.o]
     have yv:cf i h (2+1)=cf i h 2:=jU (.inl (by rw [HGD.o];exact zI));have II:=J yv;clear zI yv;go_wp21
     go_roundg (h.length - (2+1))
     case measure=>have:=Zk.o;omega
     case rel=>exact⟨2+1,rfl,aP,xj,by rw [II.o];exact oL,Vc,Rj,yn⟩
  .have eO:=λty=>hit.done (show¬p<h.toArray.size by simpa using aP) ty
   have ep:p=h.length:=by omega
   rw [ep,<-HR.o]at ho;clear ep;go_wp21;go_ret;exact⟨_,rfl,eI ho ad,hx⟩
def jI (i:Ins):Int:=if Lib.hasPrefix (zD i).data.toList [119]=true/\¬i.op=16 then i.a else -1
theorem JO (i:Ins) (w:World) (eH:OpsAt w):Calls prog 161 #[.agg i.cells] w λe w'=>e=.returned (.int .i64 (jI i))/\al w w':=by
 have aF:al w _:=dM w (.cells i.cells 71);have Gc:=bN w 71 i.cells;have mD:=J (eH.ext aF);clear eH;obtain⟨P,hP⟩:=nm' (Lib.hasPrefix (zD i).data.toList [119]);obtain⟨W,hW⟩:=nm' (jI i);rw [<-hW];have HW:aoR (W=if P=true/\¬i.op=16 then i.a else -1):=J (by rw [hW,hP];rfl);have HP:=J hP;clear hP hW;go_enter func161,ntmps161;go_wp21;refine aoS (vt i _ mD.o) λw1 aw=>?_;go_wp21;refine(strings_HasPrefix (zD i) ⟨#[119]⟩ _).mono ?_;rintro e w2 ⟨e2,rfl⟩;replace e2:e=.returned (.bool P):=by rw [e2,HP.o]
 subst e2;have dO:=bX Gc aw;have hc1:=bC dO;have LD:=dO.lt;have y1:=aF.trans aw;clear Gc aF aw
 cases P
 .go_wp21
  go_ret;exact⟨bB (by rw [HW.o];simp),y1⟩
 .cases Bs:(i.op !=16)
  .go_wp21
   go_ret;exact⟨bB (by rw [HW.o];simp at Bs;simp [Bs]),y1⟩
  .go_wp21
   go_ret;exact⟨bB (by rw [HW.o];simp at Bs;simp [Bs]),y1⟩
def fw (i:Ins) (m:List Int):List Int:=if i.op=15/\0<=gj i m/\(dP i).contains (gj i m)=false then dP i++[gj i m]else dP i
def dF (i:Ins) (m:List Int):Int:=if i.op=16 then gj i m else if i.op=15/\gj i m<0 then -1 else jI i
def dm (c:List Ins) (pc halt:Int) (m:List Int):List Int×Int:=
 if halt=0 then(match cW c pc m.length with|none=>([],-1)|some i=>(nH (fw i m),dF i m))else([],-1)
theorem RR {i:Ins} {m:List Int} (h:(i.op==15)=false):fw i m=dP i:=af (λf=>by rw [f.1]at h;cases h)
theorem J0 {i:Ins} {m:List Int} (h:¬0<=gj i m):fw i m=dP i:=af (λf=>h f.2.1)
theorem Nk {i:Ins} {m:List Int} (h:(dP i).contains (gj i m)=true):fw i m=dP i:=af (λf=>by rw [f.2.2]at h;cases h)
theorem Nj {i:Ins} {m:List Int} (EL:(i.op==15)=true) (h0:0<=gj i m) (h:(dP i).contains (gj i m)=false):fw i m=dP i++[gj i m]:=ak ⟨by simpa using EL,h0,h⟩
theorem RP {i:Ins} {m:List Int} (h:(i.op==16)=true):fw i m=dP i:=af (λf=>by rw [f.1]at h;cases h)
theorem Np {i:Ins} {m:List Int} (h:(i.op==16)=true):dF i m=gj i m:=ak rU
theorem B5 {i:Ins} {m:List Int} (Bs:(i.op==16)=false) (h:(i.op==15)=false∨0<=gj i m):dF i m=jI i:=by
 have h1:¬i.op=16:=by simpa using Bs
 unfold dF;rw [af h1,af];rintro⟨e,f⟩
 rcases h with h|h
 .rw [e]at h;cases h
 .omega
theorem GF {i:Ins} {m:List Int} (Bs:(i.op==16)=false) (EL:(i.op==15)=true) (h:¬0<=gj i m):dF i m=-1:=by
 have h1:¬i.op=16:=by simpa using Bs
 unfold dF;rw [af h1,ak ⟨by simpa using EL,by omega⟩]
theorem Cr (i:Ins):(dP i).length<=3:=by
 unfold dP
 split
 .exact ax (iX _ _ _) (vq _)
 .simp
def wY (w w':World) (e:Ending) (r:List Int×Int):Prop:=∃v,e=.returned (.tuple #[v,.int .i64 r.2])/\w'.ownsRow w.heap.size 3 1 v r.1.length (ints r.1)/\al w w'
theorem J1 (A:Option Addr) (cn cap:Nat) (pc halt:Int) (M:Option Addr) (n eF:Nat) (w:World) (hg:cQ pc halt n=true) (hh:¬halt=0):
 Calls prog 110 #[.slice A cn cap,.agg (ae pc M n eF halt)] w λe w'=>wY w w' e ([],-1):=by
 have aF:al w _:=dM w (.cells (ae pc M n eF halt) 47);have kB:=bN w 47 (ae pc M n eF halt);have HG:=J hg;have bh:(halt !=0)=true:=by simpa using hh
 clear hg hh;go_enter func110,ntmps110;go_wp21;refine aoS (fT pc halt M n eF _) λw1 aw=>?_;rw [HG.o];have hc1:=bC (bX kB aw);have LD:=(bX kB aw).lt;go_wp21
 go_ret2
 exact⟨_,rfl,World.ownsRow_nil _ _ _ _,aF.trans aw⟩
theorem RT (A:Option Addr) (b off cn cap:Nat) (c:List Ins) (pc:Int) (b' bL n eF:Nat) (m:List Int) (w:World) (h:kO w A b off cn c b' bL n pc 0 m):
 Calls prog 110 #[.slice A cn cap,.agg (ae pc (some ⟨b',bL,none⟩) n eF 0)] w λe w'=>wY w w' e (dm c pc 0 m):=by
 obtain⟨eH,sl,aE,sq,jj,hn,hg,ie,BG⟩:=h;obtain⟨h1,h2,h3,h4,h5,h6⟩:=cG hg;have⟨mD,HA,HR,qQ,HN,HG,HO,Tz⟩:=J8' eH sl aE sq hn hg ie BG;clear eH sl aE sq hn hg ie BG;have aF:al w _:=dM w (.cells (ae pc (some ⟨b',bL,none⟩) n eF 0) 47);have kB:=bN w 47 (ae pc (some ⟨b',bL,none⟩) n eF 0);go_enter func110,ntmps110;go_wp21;refine aoS (fT pc 0 (some ⟨b',bL,none⟩) n eF _) λw1 aw=>?_;rw [HG.o];have dK:=bX kB aw;have hc1:=bC dK;have LD:=dK.lt;have y1:=aF.trans aw;clear kB aF aw;go_wp21;refine(J4 w.heap.size pc 0 (some ⟨b',bL,none⟩) n eF A b off c cn cap _ qQ.o jj h3 HA.o (mD.o.ext y1) dK (λh0=>(HR.o h0).ext y1)).mono ?_;rintro e w2 ⟨e2,bd⟩
 cases eO:cW c pc n with
 |none=>
  replace e2:e=.returned (.tuple #[.agg (Ins.cells ⟨0,0,0,0⟩),.bool false]):=by rw [e2,eO];rfl
  subst e2;have HRS:aoR (dm c pc 0 m=([],-1)):=J (by simp [dm,<-HN.o,eO]);clear eO;go_wp21
  go_ret2
  exact⟨.slice none 0 0,by rw [HRS.o];rfl,by rw [HRS.o];exact World.ownsRow_nil _ _ _ _,(y1.trans bd).alloc _⟩
 |some i=>
  replace e2:e=.returned (.tuple #[.agg i.cells,.bool true]):=by rw [e2,eO];rfl
  subst e2;have VZ:=ou eO;rw [<-qQ.o]at VZ;have HRI:=J VZ;have HRS:aoR (dm c pc 0 m=(nH (fw i m),dF i m)):=J (by simp [dm,<-HN.o,eO]);have HIS:aoR (iu i.op=true):=J (by have:=gy VZ;simp [iu];omega);clear eO VZ;have x2:=bd.alloc (.cells i.cells 71);have ki:=bN w2 71 i.cells;have gx:=bX dK x2;have y2:=y1.trans x2;have Ro:=(bX dK bd).lt;clear hc1 dK bd x2;go_upto_region 6 with(fail);generalize (w2.alloc (.cells i.cells 71))=W2 at ki gx y2⊢;generalize w2.heap.size=ic at ki Ro⊢;have lI:=ki.lt;refine fH (λw3=>al W2 w3) [(0,1),(2,1),(1,0),(3,0),(4,2),(5,2)] ?_;refine fI ?_
  repeat first|refine cx ?_|refine de fU ajB ?_|refine dc fU ?_
  refine au (λK hK=>?_);go_simp;go_wp21;refine(M1 i _ ((mD.o.ext y2).ext ((kR _ W2).drew)) HIS.o).mono ?_;rintro e w3 ⟨v3,rfl,JE,dv⟩;have x3:al W2 w3:=((kR _ W2).drew).trans dv;refine hK.out _ _ (λ_=>x3) ?_;clear hK K
  repeat first|refine cx ?_|refine de x3 ajB ?_|refine dc x3 ?_
  refine au (λK hK=>?_);go_simp;go_wp21;refine aoS (JO i _ ((mD.o.ext y2).ext x3)) λw4 eS=>?_;have x4:=x3.trans eS;refine hK.out _ _ (λ_=>x4) ?_;clear hK K;refine fx ?_;have D3:=aI JE eS;have hI4:=bX ki x4;have xg:=bX gx x4;have y4:=y2.trans x4;have lE:∀j,v3.ownBlock=some j->W2.heap.size<=j:=λj hj=>(JE.lt j hj).1;have rV:=J lE;clear ki gx dv eS JE lE;have hh4:=bH hI4;have hg4:=bG hI4;have lW:=x4.size;clear x3 x4;go_wp21;refine(dX i cn w.heap.size pc 0 b' bL n eF m _ HN.o h2 HRI.o HO.o xg (Tz.o.ext y4)).mono ?_;rintro e w5 ⟨e5,iG⟩;obtain⟨F,hF⟩:=nm' (gj i m);rw [<-hF]at e5;subst e5;have HF:=J hF;clear hF;have xk:=aI D3 iG;have YG:=bX hI4 iG;have y5:=y4.trans iG;have l5:=iG.size;clear hI4 xg y4 hh4 hg4 D3 iG;have hc5:=bC YG;have lI5:=YG.lt
  cases b16:(i.op==16)
  .cases b15:(i.op==15)
   .have HMP:aoR (fw i m=dP i):=J (RR b15)
    have HMW:aoR (dF i m=jI i):=J (B5 b16 (.inl b15));exact abK
   .by_cases hF0:0<=F
    .have HMW:aoR (dF i m=jI i):=J (B5 b16 (.inr aby))
     have bF:decide (F<0)=false:=by simp;omega
     go_wp21;refine(mG F xk abx).mono ?_;rintro e w6 ⟨rfl,rfl⟩
     cases Bw:(dP i).contains F
     .have HMP:aoR (fw i m=dP i++[F]):=J (by rw [HF.o];exact Nj b15 aby (by rw [<-HF.o];exact Bw))
      clear Bw;go_upto_region 13 with(fail);go_step
      iterate 3 refine kE ?_
      obtain⟨v7,w7,Ru,D4,qC⟩:=AQ (w5.alloc (.cells #[.int .i64 F] 3)) _ _ _ (dP i) (xk.alloc _) w5.heap.size 0 1 1 [F] rfl (by simpa [ints]using Row.cF (bN w5 3 #[.int .i64 F])) abx kr;refine cj rfl (.tmp 55) (.tmp 57) 35 rfl rfl rfl rfl Ru ?_;clear Ru;have y7:al w w7:=(y5.alloc _).trans' qC (λj hj e=>by have:=rV.o j e;omega);have ahC:∀j,v7.ownBlock=some j->W2.heap.size<=j:=λj hj=>(D4.lt j hj).1;have alv:=J ahC;clear ahC qC xk;go_wp21;refine(KB D4 abx).mono ?_;rintro e w8 ⟨rfl,VP,Gh⟩;have y8:al w w8:=y7.trans' Gh (λj hj e=>by have:=alv.o j e;omega);have ER:=eI VP (show w.heap.size<=W2.heap.size by omega);clear Gh VP D4;go_wp21
      go_ret2
      refine⟨v7,by rw [HRS.o,HMW.o];rfl,?_,y8⟩;rw [HRS.o,HMP.o]
      simpa [nH]using ER
     .have HMP:aoR (fw i m=dP i):=J (Nk (by rw [<-HF.o];exact Bw))
      clear Bw;exact abK
    .have HMP:aoR (fw i m=dP i):=J (J0 aby)
     have HMW:aoR (dF i m=-1):=J (GF b16 b15 aby);have bF:decide (F<0)=true:=by simp;omega
     exact abK
  .have HMP:aoR (fw i m=dP i):=J (RP b16)
   have HMW:aoR (dF i m=F):=J (by rw [HF.o];exact Np b16);exact abK
theorem uf (A:Option Addr) (b off cn cap:Nat) (c:List Ins) (pc halt:Int) (b' bL n eF:Nat) (m:List Int) (w:World) (h:kO w A b off cn c b' bL n pc halt m):
 Calls prog 110 #[.slice A cn cap,.agg (ae pc (some ⟨b',bL,none⟩) n eF halt)] w λe w'=>wY w w' e (dm c pc halt m):=by
 by_cases hh:halt=0
 .subst hh
  exact RT A b off cn cap c pc b' bL n eF m w h
 .rw [show dm c pc halt m=([],-1)by simp [dm,hh]]
  exact J1 A cn cap pc halt _ n eF w h.right hh
theorem uZ:ga prog 271=true:=by kernel_rfl
theorem sQ:dr prog 271=some 3:=by kernel_rfl
theorem zj {eD:TypeId} {x:Operand} {pos:String} {a:Act} {w:World} {K:Act->World->Prop} {Q:Exit->Act->World->Prop} (hx:d' (a.eval x)=true) (hh:has w (aG (a.eval x)) (aH (a.eval x)) 3=true):
 Oper.wp prog ⟨dst,.load 271 x,eD,pos,after,guard⟩ a w K Q=K (a.put dst (.agg (gets w (aG (a.eval x)) (aH (a.eval x)) 3))) w:=aY 3 uZ sQ hx hh
theorem Hq {ρ:Operand->Value} {eD:TypeId} {x:Operand} {pos:String} {w:World} (hx:d' (ρ x)=true) (hh:has w (aG (ρ x)) (aH (ρ x)) 3=true):
 (execOp ρ ⟨dst,.load 271 x,eD,pos,after,guard⟩).run prog w=.ok (.value (.agg (gets w (aG (ρ x)) (aH (ρ x)) 3))) w:=aD 3 uZ sQ hx hh
theorem Gy (w:World) (g off:Nat) (hh:has w g off 3=true):(loadVar 271 ⟨g,off,none⟩).run prog w=.ok (.agg (gets w g off 3)) w:=cD prog w _ g off 3 uZ sQ hh
attribute [go_sem] uZ sQ
attribute [go_sem↓high] zj Gy Hq
attribute [go_sem high] zj
structure Wd where (at_ EW:Int) (pa:Option Addr) (pn pk:Nat)
abbrev Wd.cells (d:Wd):Array Value:=#[.int .i64 d.at_,.int .i32 d.EW,.slice d.pa d.pn d.pk]
attribute [go_sem] Wd.cells
structure Wl where (at_ EW:Int) (path:List Dg)
def zP (l:List Wd):List Value:=l.flatMap λd=>d.cells.toList
theorem nM (l:List Wd):(zP l).length=l.length*3:=by
 induction l with
 |nil=>rfl
 |cons d l ih=>show(d.cells.toList++zP l).length=_;rw [dn,ih];simp;omega
theorem XE:∀(l:List Wd) (k:Nat) (hk:k<l.length),((zP l).drop (k*3)).take 3=(l[k]).cells.toList
 |d::l,0,_=>by simp [zP]
 |d::l,k+1,hk=>by
  have ih:=XE l k (by simpa using hk);show((d.cells.toList++zP l).drop ((k+1)*3)).take 3=_;rw [show(k+1)*3=d.cells.toList.length+k*3 by simp;omega,List.drop_append,List.drop_of_length_le ad]
  simpa using ih
end Mc
section
open Mc
theorem Row.wd {w:World} {b off:Nat} {l:List Wd} (h:Row w b off (zP l)) (k:Nat) (hk:k<l.length):Proofs.YtnhelcmddjbafaaGreatDoor.has w b (off+k*3) 3=true/\gets w b (off+k*3) 3=(l[k]).cells:=by
 have:=h.sub (k*3) 3 (by rw [nM];omega);rw [XE l k hk]at this;exact this
end
namespace Mc
variable{ls:List Wl}{base:Nat}
def kJ (w:World) (A:Option Addr) (n:Nat) (path:List Dg):Prop:=∃b off,oE w A b off n path
theorem kJ.ext {w w':World} {A:Option Addr} {n:Nat} {path:List Dg} (h:kJ w A n path) (hx:al w w'):kJ w' A n path:=by
 obtain⟨b,off,h⟩:=h;exact⟨b,off,h.ext hx⟩
theorem kJ.kept {S:Nat->Prop} {w w':World} {A:Option Addr} {n:Nat} {path:List Dg} (h:kJ w A n path) (hx:Kept S w w') (hs:∀i,S i->∀cV fr,¬w.heap[i]?=some (.cells cV 25 fr)):kJ w' A n path:=by
 obtain⟨b,off,h⟩:=h;exact⟨b,off,h.kept hx hs⟩
structure xQ (w:World) (d:Wd) (l:Wl):Prop where
 at_:d.at_=l.at_
 EW:d.EW=l.EW
 path:kJ w d.pa d.pn l.path
theorem xQ.ext {w w':World} {d:Wd} {l:Wl} (h:xQ w d l) (hx:al w w'):xQ w' d l:=⟨h.at_,h.EW,h.path.ext hx⟩
inductive ff (w:World):List Wd->List Wl->Prop where
 |nil:ff w [] []
 |cons {d:Wd} {l:Wl} {ds:List Wd} {ls:List Wl}:xQ w d l->ff w ds ls->ff w (d::ds) (l::ls)
theorem ff.ext {w w':World} (hx:al w w'):∀{ds:List Wd} {ls:List Wl},ff w ds ls->ff w' ds ls
 |_,_,.nil=>.nil
 |_,_,.cons h r=>.cons (h.ext hx) (r.ext hx)
theorem ff.kept {S:Nat->Prop} {w w':World} (hx:Kept S w w') (hs:∀i,S i->∀cV fr,¬w.heap[i]?=some (.cells cV 25 fr)):∀{ds:List Wd} {ls:List Wl},ff w ds ls->ff w' ds ls
 |_,_,.nil=>.nil
 |_,_,.cons h r=>.cons ⟨h.at_,h.EW,h.path.kept hx hs⟩ (r.kept hx hs)
theorem ff.len {w:World}:∀{ds:List Wd} {ls:List Wl},ff w ds ls->ds.length=ls.length
 |_,_,.nil=>rfl
 |_,_,.cons _ r=>by simp [r.len]
theorem ff.snoc {w:World} {d:Wd} {l:Wl} (h:xQ w d l):∀{ds:List Wd} {ls:List Wl},ff w ds ls->ff w (ds++[d]) (ls++[l])
 |_,_,.nil=>.cons h .nil
 |_,_,.cons h' r=>.cons h' (r.snoc h)
theorem ff.get {w:World}:∀{ds:List Wd} {ls:List Wl} (_:ff w ds ls) (k:Nat) (h1:k<ds.length) (h2:k<ls.length),xQ w ds[k] ls[k]
 |_,_,.cons h _,0,_,_=>h
 |_,_,.cons _ r,k+1,h1,h2=>r.get k (by simpa using h1) (by simpa using h2)
theorem S3 (l:List Wd):eB (zP l)=true:=by
 induction l with
 |nil=>rfl
 |cons d l ih=>show eB (d.cells.toList++zP l)=true;simpa [eB,Value.oneCell']using ih
theorem ama (w:World) (base:Nat) (v:Value) (n:Nat) (xs:List Wd) (gp:w.ownsRow base 271 3 v n (zP xs)) (b off m c:Nat) (l:List Wd) (hm:m=l.length) (hr:Row w b off (zP l)) (hn:n+m<=100000) (gL:base<=w.heap.size):
 ∃v' w',(Builtin.append_ #[72,72] 72 #[v,.slice (some ⟨b,off,none⟩) m c]).run prog w=.ok v' w'/\w'.ownsRow base 271 3 v' (n+m) (zP (xs++l))/\Kept (λi=>v.ownBlock=some i) w w':=by
 obtain⟨i,hi,hz,h1,h2⟩:=info_parts aeI;have:=oX (P:=prog) underlying72 hi hz h1 h2 fK ap w base v n (zP xs) gp b off m c (zP l) (by rw [nM,hm]) hr (S3 l) Ib ad gL;rw [show zP xs++zP l=zP (xs++l)by simp [zP]]at this;exact this
structure gi (w:World) (A:Option Addr) (n:Nat) (ls:List Wl):Prop where
 len:n=ls.length
 row:∃b off ds,(0<n->A=some ⟨b,off,none⟩)/\(0<n->Row w b off (zP ds))/\(0<n->∃cV fr,w.heap[b]?=some (.cells cV 271 fr))/\ff w ds ls
theorem gi.kept {S:Nat->Prop} {w w':World} {A:Option Addr} {n:Nat} (h:gi w A n ls) (hx:Kept S w w') (hs:∀i,S i->∀cV fr,¬w.heap[i]?=some (.cells cV 25 fr)) (LH:∀i,S i->∀cV fr,¬w.heap[i]?=some (.cells cV 271 fr)):gi w' A n ls:=by
 obtain⟨hl,b,off,ds,h1,h2,h3,h4⟩:=h
 have hb:0<n->¬S b:=λh0 hS=>by
  obtain⟨cV,fr,e⟩:=h3 h0;exact LH b hS cV fr e
 refine⟨hl,b,off,ds,h1,λh0=>(h2 h0).kept hx (hb h0),λh0=>?_,h4.kept hx hs⟩;obtain⟨cV,fr,e⟩:=h3 h0;exact⟨cV,fr,(hx.block b (h2 h0).lt (hb h0)).trans e⟩
theorem gi.ext {w w':World} {A:Option Addr} {n:Nat} (h:gi w A n ls) (hx:al w w'):gi w' A n ls:=h.kept hx (λ_ f=>f.elim) (λ_ f=>f.elim)
theorem gi.none (w:World):gi w none 0 []:=⟨rfl,0,0,[],λh=>by omega,λh=>by omega,λh=>by omega,.nil⟩
theorem gi.eT {w:World} {v:Value} {n:Nat} {ds:List Wd} (h:w.ownsRow base 271 3 v n (zP ds)) (hw:ff w ds ls):∃A c,v=.slice A n c/\gi w A n ls:=by
 have hl:=h.1;rw [nM]at hl;have hlen:=hw.len
 rcases h.2 with⟨hv,h0⟩|⟨g,c,cV,hv,hb,hc,rB,vu,kL,mX⟩
 .subst h0
  exact⟨_,0,hv,by omega,0,0,ds,λh=>by omega,λh=>by omega,λh=>by omega,hw⟩
 .refine⟨_,c,hv,by omega,g,0,ds,λ_=>rfl,λ_=>?_,λ_=>⟨cV,(0,0),hc⟩,hw⟩
  exact ald
theorem kJ.eT {w:World} {v:Value} {n:Nat} {l:List Dg} (h:w.ownsRow base 25 8 v n (cY l)) (hok:∀d∈l,d.ok):∃A c,v=.slice A n c/\kJ w A n l:=by
 have hl:=h.1;rw [eh]at hl
 rcases h.2 with⟨hv,h0⟩|⟨g,c,cV,hv,hb,hc,rB,vu,kL,mX⟩
 .subst h0
  exact⟨_,0,hv,0,0,by omega,hok,λh=>by omega,λh=>by omega,λh=>by omega⟩
 .refine⟨_,c,hv,g,0,by omega,hok,λ_=>rfl,λ_=>?_,λ_=>⟨cV,(0,0),hc⟩⟩
  exact alc
def f_ (m:List Int) (x:Int):Wl:=⟨x,eP m x,h_ (m.map dx) (iM m.length) x.toNat⟩
def ZG (w w':World) (e:Ending) (ls:List Wl):Prop:=∃A n c,e=.returned (.slice A n c)/\gi w' A n ls/\al w w'
theorem Fl (v:Value) (base k:Nat) (pl:List Int) (tb sb q:Nat) (pc halt:Int) (b' bL n eF:Nat) (m:List Int) (w:World) (AV:Nat) (ho:w.ownsRow base 3 1 v k (ints pl)) (hk:k<=1000) (mW:∀x∈pl,0<=x/\x<n)
 (hn:n=m.length) (h1:1<=n) (h2:n<=256) (hT:jJ w AV q (m.map dx)) (hq:ai w tb 178 #[.pointer (some ⟨q,0,none⟩)]) (hS:oF w sb 47 pc (some ⟨b',bL,none⟩) n eF halt) (hr:Row w b' bL (bj m)):
 Calls prog 181 #[v,.pointer (some ⟨tb,0,none⟩),.pointer (some ⟨sb,0,none⟩)] w λe w'=>ZG w w' e (pl.map (f_ m)):=by
 obtain⟨nS,gp⟩:=Ci ho
 obtain⟨A,g,c,hvv,hA,yg⟩:∃A g c,v=.slice A k c/\(0<k->A=some ⟨g,0,none⟩)/\(∀j,j<pl.length->w.cell? ⟨g,j,none⟩=some (.int .i64 (pl.getD j 0))/\g<w.heap.size):=by
  rcases gp with⟨hv,amO⟩|⟨g,c,cV,hv,_,DZ,_,_,_,mX⟩
  .subst amO
   have:k=0:=by simpa using nS
   subst this;exact⟨none,0,0,hv,λh=>by omega,λj hj=>by simp at hj⟩
  .exact⟨_,g,c,hv,λ_=>rfl,λj hj=>⟨ow DZ nS mX j hj,(Array.getElem?_eq_some_iff.1 DZ).1⟩⟩
 subst hvv;have⟨HKL,HA,HC,HPL,HN,HT⟩:=J6' nS hA yg mW hn hT;clear nS gp ho hA yg mW hn hT;have lT:=hq.lt;have lS:=hS.lt;have lM:=hr.lt;go_enter func181,ntmps181;go_wp21
 go_loopw [5,12] (λt5 t12 wr=>∃(j:Nat) (ds:List Wd),j<=k/\t12=.int .i64 j/\wr.ownsRow w.heap.size 271 3 t5 j (zP ds)/\ff wr ds ((pl.take j).map (f_ m))/\al w wr) (λ_ t12 _=>k - (intOf t12).toNat)
 case atStart=>exact⟨0,[],by omega,rfl,World.ownsRow_nil _ _ _ _,.nil,kR _ _⟩
 case round=>
  obtain⟨j,ds,hj,rfl,ho,hw,hx⟩:=hrel;have pW:∀i,i<w.heap.size->(u5:Value).ownBlock=some i->False:=λi hi e=>by have:=(ho.lt i e).1;omega
  have qw:=J pW;have HW:=J hw;clear pW hw
  by_cases aP:j<k
  .have gD:(j:Int)<k:=by omega
   have d_:j<pl.length:=by have:=HKL.o;omega
   obtain rfl:=HA.o ad;obtain⟨hc,Bz⟩:=HC.o j d_;have hcj:=(Kept.cell hx (p:=⟨g,j,none⟩) Bz (λf=>f)).trans hc;obtain⟨x,qY⟩:=nm' (pl[j]);have Dl:pl.getD j 0=x:=by simp [d_,qY]
   rw [Dl]at hcj;obtain⟨aF,hxn⟩:=HPL.o x (by rw [qY];exact ed d_);obtain⟨a,rfl⟩:∃a:Nat,x=a:=⟨x.toNat,by omega⟩;have Vo:a<n:=by omega
   have HX:=J qY;clear hc Dl qY aF hxn;have hcq:=(Kept.cell hx (p:=⟨tb,0,none⟩) lT (λf=>f)).trans (bC hq 0);simp at hcq;go_upto_region 5 with(fail);go_wp21;refine(KV AV q (m.map dx) a _ abo abr (by rw [gu,<-HN.o];exact Vo) (HT.o.ext hx)).mono ?_;rintro e w1 ⟨v1,rfl,qD,aw⟩;obtain⟨pA,pc1,rfl,hpv⟩:=kJ.eT qD (Kb _ _ _);obtain⟨Hh,hHh⟩:∃Hh,iM (m.map dx).length=Hh:=⟨_,rfl⟩;rw [hHh]at hpv⊢;have HHH:=J hHh;have OL:=J hpv;clear hpv qD hHh hcj hcq;have x1:=hx.trans aw;have jL:=bC (bX hS x1);have lS1:=(bX hS x1).lt;have dJ:a<m.length:=by have:=HN.o;omega
   have Ir:(a:Int)<n:=by omega
   have EO:=(hr.ext x1).mem a dJ;have lM1:=(hr.ext x1).lt;obtain⟨y,hy⟩:=nm' (m[a]);rw [<-hy]at EO;have HY:=J hy;clear hy;go_upto_region 7 with(fail);go_step
   iterate 10 refine kE ?_
   have hWd:xQ w1 ⟨a,y,pA,Hh,pc1⟩ (f_ m a):=⟨rfl,by rw [HY.o];simp [f_,eP,dJ],by
    have:=OL.o;rw [<-HHH.o]at this⊢
    simpa [f_]using this⟩
   have HWd:=J hWd;clear hWd;obtain⟨v2,w2,iV,mq,eV⟩:=ama (w1.alloc (.cells (Wd.cells ⟨a,y,pA,Hh,pc1⟩) 271)) _ _ _ ds ((aI ho aw).alloc _) w1.heap.size 0 1 1 [⟨a,y,pA,Hh,pc1⟩] rfl (by simpa [zP]using Row.cF (bN w1 271 (Wd.cells ⟨a,y,pA,Hh,pc1⟩))) ad (by have:=x1.size;simp;omega);refine cj rfl (.tmp 24) (.tmp 33) 72 rfl rfl rfl rfl iV ?_;clear iV jL EO;have k2:Kept (λi=>(u5:Value).ownBlock=some i) w1 w2:=(dM w1 _).trans eV;have om:=HW.o.ext aw
   have tf:ff w2 (ds++[⟨a,y,pA,Hh,pc1⟩]) ((pl.take (j+1)).map (f_ m)):=by
    rw [List.take_succ_eq_append_getElem d_,qy];have hwd:=HWd.o;rw [show((a:Nat):Int)=pl[j]from HX.o]at hwd;rw [show((a:Nat):Int)=pl[j]from HX.o];exact(om.snoc hwd).kept k2 (dl (aI ho aw) ap)
   have HW2:=J tf;clear om tf;go_wp21;go_roundw
   case rel=>exact⟨j+1,_,aP,by go_num,mq,HW2.o,x1.trans' k2 qw.o⟩
   case measure=>simp only [intOf];omega
  .have ej:j=k:=by omega
   subst ej;have hw:=HW.o;rw [kI (Nat.le_of_eq HKL.o.symm)]at hw;obtain⟨A',c',rfl,qW⟩:=gi.eT ho hw;have Yx:=J qW;clear hw qW;go_wp21;go_ret;exact⟨_,_,_,rfl,Yx.o,hx⟩
