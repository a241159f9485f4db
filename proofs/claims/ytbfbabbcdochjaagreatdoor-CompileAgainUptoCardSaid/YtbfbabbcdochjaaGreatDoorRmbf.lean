/- Several texts joined: Jp, Jq. -/
import Derived.Lib.SlBuf
import Derived.Test.YtbfbabbcdochjaaGreatDoorRmpk
import Derived.Test.YtbfbabbcdochjaaGreatDoorRmbe
set_option maxHeartbeats 4000000
set_option maxRecDepth 100000
open Go.Proofs.Tryz
namespace Go.Proofs.YtbfbabbcdochjaaGreatDoor
open Go.RowKit So Mc
def j5 (w:World) (N:Nat) (s:jg) (l:List Int):Prop:=s.n=l.length/\(∀x∈l,au x)/\∃b off,(0<s.n->s.A=some ⟨b,off,none⟩)/\(0<s.n->b<N/\Row w b off (aM l))
theorem j5.kept {S:Nat->Prop} {w w':World} {N:Nat} {s:jg} {l:List Int} (h:j5 w N s l) (hk:Kept S w w') (hS:∀i,i<N->¬S i):j5 w' N s l:=by
 obtain⟨h1,h2,b,off,h3,h4⟩:=h;exact⟨h1,h2,b,off,h3,λh0=>⟨(h4 h0).1,(h4 h0).2.kept hk (hS b (h4 h0).1)⟩⟩
theorem j5.ext {w w':World} {N:Nat} {s:jg} {l:List Int} (h:j5 w N s l) (hk:Ext w w'):j5 w' N s l:=h.kept hk (λ_ _ f=>f)
theorem j5.mono {w:World} {N N':Nat} {s:jg} {l:List Int} (h:j5 w N s l) (hN:N<=N'):j5 w N' s l:=by
 obtain⟨h1,h2,b,off,h3,h4⟩:=h;exact⟨h1,h2,b,off,h3,λh0=>⟨by have:=(h4 h0).1;omega,(h4 h0).2⟩⟩
theorem xL.words {w:World} {N:Nat} {s:jg} {l:List Int} (h:xL w N s l) (hl:∀x∈l,au x):j5 w N s l:=by
 obtain⟨h1,h2⟩:=h
 by_cases h0:0<s.n
 ·obtain⟨b,a1,a2,a3⟩:=h2 h0
  exact⟨h1,hl,b,0,λ_=>a1,λ_=>⟨a2,a3⟩⟩
 ·exact⟨h1,hl,0,0,λh=>absurd h h0,λh=>absurd h h0⟩
def BH (l:List Vr) (a:List Int):Bool:=(l.zip a).any λx=>decide (x.2<x.1.low)||decide (x.1.high<x.2)
theorem zD {l:List Vr} {a:List Int} (i:Nat) (h1:i<l.length) (h2:i<a.length) (h:a[i]<l[i].low∨l[i].high<a[i]):BH l a=true:=by
 unfold BH;rw [List.any_eq_true];have hz:i<(l.zip a).length:=by rw [List.length_zip];omega
 refine⟨(l.zip a)[i],List.getElem_mem hz,?_⟩;rw [List.getElem_zip]
 rcases h with h|h
 ·simp [h]
 ·simp [h]
theorem wG {l:List Vr} {a:List Int} (h:∀i (h1:i<l.length) (h2:i<a.length),¬(a[i]<l[i].low∨l[i].high<a[i])):BH l a=false:=by
 unfold BH;rw [List.any_eq_false];intro x hx;obtain⟨i,hi,e⟩:=List.mem_iff_getElem.1 hx;rw [List.length_zip]at hi;rw [List.getElem_zip]at e;have hq:=h i aj aj;subst e;simp only [Bool.or_eq_true,decide_eq_true_eq];exact hq
def gK (p:Pr) (part:Int):Int:=if part=0 then 0 else cells p.vars
def dZ (p:Pr) (part:Int):Nat:=if part=2 then p.params.length else if part=3 then 1 else 0
def dO (p:Pr) (part:Int) (V Ar:List Int):Int:=
 if part<0∨4<part then 1 else if¬(V.length:Int)=gK p part∨¬Ar.length=dZ p part then 3
 else if part=2/\BH p.params Ar=true then 2 else 0
theorem Tf (cb N:Nat) (k:Cd) (p:Pr) (part:Int) (vs ag:jg) (V Ar:List Int) (w:World) (hN:N<=w.heap.size) (hC:jZ w N cb k p) (hv:j5 w N vs V) (ha:j5 w N ag Ar) (hp:p.params.length<=4):
 Calls prog 39 #[.pointer (some ⟨cb,0,none⟩),.int .i64 part,vs.v,ag.v] w λe w'=>e=.returned (.int .i64 (dO p part V Ar))/\Ext w w':=by
 obtain⟨F,hF⟩:∃F,F=dO p part V Ar:=⟨_,rfl⟩;rw [<-hF];have HC:=J hC;have HV:=J hv;have HA:=J ha;have HN:=J hN;have HF:=J hF;have C9:=J hp;have Bt:=J hC.kc;have SI:=J hC.params.1;clear hC hv ha hF hN hp
 by_cases hr:0<=part/\part<5
 rotate_left
 ·have hb:(decide (0<=part)&&decide (part<5))=false:=by
   rw [Bool.and_eq_false_iff,decide_eq_false_iff_not,decide_eq_false_iff_not]
   omega
  have vK:=J (show F=1 by rw [HF.out];unfold dO;rw [if_pos aj]);clear hr;go_enter func39,ntmps39;go_wp2_with fail;refine(nJ _ _).mono ?_;rintro e w1 ⟨rfl,rfl⟩;rw [hb];go_wp2_with fail;go_ret;exact⟨b_ vK.out.symm,kR _ _⟩
 have hj:part=0∨part=1∨part=2∨part=3∨part=4:=by omega
 clear hr
 rcases hj with rfl|rfl|rfl|rfl|rfl
 ·skip
  go_enter func39,ntmps39;go_wp2_with fail;refine(nJ _ _).mono ?_;rintro e w1 ⟨rfl,rfl⟩;go_upto_region 3 with(fail);refine Ze ?_;have yd:Ext w w.drew:=(kR _ w).drew
  (repeat first|refine cu ?_|refine dL yd YM ?_|refine dK yd ?_)
  (refine aC (λK hK=>?_);go_simp)
  refine MZ ?_;clear hK K;intro wA yA bA;generalize hg:(w:World).heap.size=g at bA⊢;have HG:=J hg;clear hg;have l1:=bH bA;have l2:=aH.bF bA;have l3:=bA.lt;have BA:=J bA;refine MX ?_;clear bA yd l1 l2 l3 yA;intro w4 HB HY
  by_cases e1:(vs.n:Int)=0
  rotate_left
  ·have q1:((vs.n:Int) !=0)=true:=bne_iff_ne.2 e1
   have hF1:F=3:=by
    have hl:=HV.out.1;have hc:=Bt.out;have hw:gK p 0=0:=rfl;exact Ng
   exact Nf
  have q1:((vs.n:Int) !=0)=false:=by rw [e1];simp
  have J6:=J e1;clear e1
  by_cases e2:(ag.n:Int)=0
  rotate_left
  ·have q2:((ag.n:Int) !=0)=true:=bne_iff_ne.2 e2
   have hF1:F=3:=by
    have hl:=HA.out.1;have hc:=SI.out;have hw:dZ p 0=0:=rfl;exact Nh
   exact ZF
  have q2:((ag.n:Int) !=0)=false:=by rw [e2];simp
  have HE2:=J e2;clear e2
  have hok:¬(¬(V.length:Int)=gK p 0∨¬Ar.length=dZ p 0):=by
   have h1:=HV.out.1;have h2:=HA.out.1;have h3:=Bt.out;have h4:=SI.out;have h5:=J6.out;have h6:=HE2.out;have h7:gK p 0=0:=rfl;have h8:dZ p 0=0:=rfl;rw [h7,h8]
   omega
  exact ach
 ·skip
  go_enter func39,ntmps39;go_wp2_with fail;refine(nJ _ _).mono ?_;rintro e w1 ⟨rfl,rfl⟩;go_upto_region 3 with(fail);refine Ze ?_;have yd:Ext w w.drew:=(kR _ w).drew
  (repeat first|refine cu ?_|refine dL yd YM ?_|refine dK yd ?_)
  (refine aC (λK hK=>?_);go_simp)
  refine MZ ?_;clear hK K;intro wA yA bA;generalize hg:(w:World).heap.size=g at bA⊢;have HG:=J hg;clear hg;have l1:=bH bA;have l2:=aH.bF bA;have l3:=bA.lt;have BA:=J bA;refine MX ?_;clear bA yd l1 l2 l3 yA;intro w4 HB HY
  by_cases e1:(vs.n:Int)=k.cells
  rotate_left
  ·have q1:((vs.n:Int) !=k.cells)=true:=bne_iff_ne.2 e1
   have hF1:F=3:=by
    have hl:=HV.out.1;have hc:=Bt.out;have hw:gK p 1=cells p.vars:=rfl;exact Ng
   exact Nf
  have q1:((vs.n:Int) !=k.cells)=false:=by rw [e1];simp
  have J6:=J e1;clear e1
  by_cases e2:(ag.n:Int)=0
  rotate_left
  ·have q2:((ag.n:Int) !=0)=true:=bne_iff_ne.2 e2
   have hF1:F=3:=by
    have hl:=HA.out.1;have hc:=SI.out;have hw:dZ p 1=0:=rfl;exact Nh
   exact ZF
  have q2:((ag.n:Int) !=0)=false:=by rw [e2];simp
  have HE2:=J e2;clear e2
  have hok:¬(¬(V.length:Int)=gK p 1∨¬Ar.length=dZ p 1):=by
   have h1:=HV.out.1;have h2:=HA.out.1;have h3:=Bt.out;have h4:=SI.out;have h5:=J6.out;have h6:=HE2.out;have h7:gK p 1=cells p.vars:=rfl;have h8:dZ p 1=0:=rfl;rw [h7,h8]
   omega
  exact ach
 ·skip
  go_enter func39,ntmps39;go_wp2_with fail;refine(nJ _ _).mono ?_;rintro e w1 ⟨rfl,rfl⟩;go_upto_region 3 with(fail);refine Ze ?_;have yd:Ext w w.drew:=(kR _ w).drew
  (repeat first|refine cu ?_|refine dL yd YM ?_|refine dK yd ?_)
  (refine aC (λK hK=>?_);go_simp)
  refine MZ ?_;clear hK K;intro wA yA bA;generalize hg:(w:World).heap.size=g at bA⊢;have HG:=J hg;clear hg;have l1:=bH bA;have l2:=aH.bF bA;have l3:=bA.lt;have BA:=J bA;refine MX ?_;clear bA yd l1 l2 l3 yA;intro w4 HB HY
  by_cases e1:(vs.n:Int)=k.cells
  rotate_left
  ·have q1:((vs.n:Int) !=k.cells)=true:=bne_iff_ne.2 e1
   have hF1:F=3:=by
    have hl:=HV.out.1;have hc:=Bt.out;have hw:gK p 2=cells p.vars:=rfl;exact Ng
   exact Nf
  have q1:((vs.n:Int) !=k.cells)=false:=by rw [e1];simp
  have J6:=J e1;clear e1
  by_cases e2:(ag.n:Int)=(k.params.n:Nat)
  rotate_left
  ·have q2:((ag.n:Int) !=(k.params.n:Nat))=true:=bne_iff_ne.2 e2
   have hF1:F=3:=by
    have hl:=HA.out.1;have hc:=SI.out;have hw:dZ p 2=p.params.length:=rfl;exact Nh
   exact ZF
  have q2:((ag.n:Int) !=(k.params.n:Nat))=false:=by rw [e2];simp
  have HE2:=J e2;clear e2
  have hok:¬(¬(V.length:Int)=gK p 2∨¬Ar.length=dZ p 2):=by
   have h1:=HV.out.1;have h2:=HA.out.1;have h3:=Bt.out;have h4:=SI.out;have h5:=J6.out;have h6:=HE2.out;have h7:gK p 2=cells p.vars:=rfl;have h8:dZ p 2=p.params.length:=rfl;rw [h7,h8]
   omega
  have l1:=bC HB.out;have l2:=HB.out.lt
  have xE:=J (show F=if BH p.params Ar=true then 2 else 0 by
   rw [HF.out];unfold dO;rw [if_neg aj,if_neg hok]
   cases BH p.params Ar<;>simp)
  clear hok;obtain⟨hpn,hpf,hpo,pb,po,JZ,OM⟩:=HC.out.params;obtain⟨han,hao,ab,ao,Io,Ip⟩:=HA.out;have iY:=J JZ;have HPE:=J OM;have xq:=J (show Ar.length=p.params.length by have:=HE2.out;omega);have HAO:=J hao;have HAA:=J Io;have HAE:=J Ip;have xH:=J (show ag.n=k.params.n by have:=HE2.out;omega);have hpm:k.params.n<=4:=by have:=SI.out;have:=C9.out;omega
  clear hpn hpf hpo JZ OM han hao Io Ip;have i1:=bC (bX HC.out.box HY.out);have i2:=(bX HC.out.box HY.out).lt;go_wp2_with fail;clear i1 i2 l1 l2
  go_loopw [51] (λt51 wr=>∃j:Nat,j<=k.params.n/\t51=.int .i64 j/\(∀i (h1:i<p.params.length) (h2:i<Ar.length),i<j->¬(Ar[i]<p.params[i].low∨p.params[i].high<Ar[i]))/\Ext w wr) (λt51 _=>k.params.n - (intOf t51).toNat)
  case atStart=>exact⟨0,Nat.zero_le _,rfl,λi _ _ h=>by omega,HY.out⟩
  case round=>
   obtain⟨j,hj,rfl,hall,hk⟩:=hrel;have iL:=J hall;have HK:=J hk;clear hall hk
   by_cases hlt:j<k.params.n
   ·have hjl:j<p.params.length:=by have:=SI.out;omega
    have hja:j<Ar.length:=by have:=xq.out;omega
    have jd:(j:Int)<k.params.n:=by omega
    have ams:(j:Int)<ag.n:=by have:=xH.out;omega
    have alb:j<ag.n:=by have:=xH.out;omega
    have yY:=iY.out aj;have hrow:=(HPE.out aj).2.ext HK.out;obtain⟨u2,u3⟩:=mZ hrow j hjl;have u1:=hrow.lt;have hrA:=(HAE.out aj).2.ext HK.out;have hA2:=HAA.out aj;have VQ:=J (HAO.out Ar[j] (List.getElem_mem hja));have HBAD:=J (zD j hjl hja)
    have NM:=J (show¬(Ar[j]<p.params[j].low∨p.params[j].high<Ar[j])->∀i (h1:i<p.params.length) (h2:i<Ar.length),i<j+1->¬(Ar[i]<p.params[i].low∨p.params[i].high<Ar[i])from λh i h1 h2 hi=>by
     rcases(by omega:i<j∨i=j)with q|q
     ·exact iL.out i h1 h2 q
     ·subst q;exact h)
    have hAc:=Row.mem hrA j hja;generalize p.params[j]=v at u3 HBAD NM;generalize Ar[j]=x at VQ HBAD NM hAc;have y0:=(kR (λ_=>False) wr).alloc (.cells (aJ v) 109);have hB0:=bN wr 109 (aJ v);have HAC:=J ((Kept.cell y0 (p:=⟨ab,ao+j,none⟩) hrA.lt (λf=>f)).trans hAc);have sH:=J (Nat.lt_of_lt_of_le hrA.lt y0.size);clear hrow hrA hAc;rw [yY,hA2];go_upto_region 12 with(fail);generalize (wr.alloc (.cells (aJ v) 109))=W6 at y0 hB0 HAC sH⊢;generalize wr.heap.size=g2 at hB0⊢;have HG6:=J hB0;have JQ:=J (HK.out.trans y0);clear y0 hB0 u1 u2 u3 yY hA2;have b1:=bC HG6.out;have b2:=HG6.out.lt;have b3:=HAC.out;have b4:=sH.out;have hwx:IntKind.i64.wrap x=x:=wrap_i64 (by have:=VQ.out;unfold au at this;unfold aL;omega)
    by_cases c1:x<v.low
    ·have d1:decide (x<v.low)=true:=decide_eq_true c1
     have HF2:=J (show F=2 by rw [xE.out,HBAD.out (Or.inl c1)];rfl);clear c1
     go_quiet (fail)
     go_wp2_with fail;go_ret;exact⟨b_ HF2.out.symm,Kept.drewN JQ.out _⟩
    ·have d1:decide (x<v.low)=false:=decide_eq_false c1
     by_cases c2:v.high<x
     ·have d2:decide (v.high<x)=true:=decide_eq_true c2
      have HF2:=J (show F=2 by rw [xE.out,HBAD.out (Or.inr c2)];rfl);clear c1 c2
      go_quiet (fail)
      go_wp2_with fail;go_ret;exact⟨b_ HF2.out.symm,Kept.drewN JQ.out _⟩
     ·have d2:decide (v.high<x)=false:=decide_eq_false c2
      have yV:=J (NM.out (λh=>h.elim c1 c2));clear c1 c2
      go_quiet (fail)
      go_wp2_with fail;go_roundw
      case rel=>exact⟨j+1,hlt,by go_num,yV.out,Kept.drewN JQ.out _⟩
      case measure=>simp only [intOf];omega
   ·obtain rfl:j=k.params.n:=by omega
    have VJ:=J (show F=0 by
     rw [xE.out,wG (λi h1 h2=>iL.out i h1 h2 (by have:=SI.out;omega))];rfl)
    go_wp2_with fail;go_ret;exact⟨b_ VJ.out.symm,HK.out⟩
 ·skip
  go_enter func39,ntmps39;go_wp2_with fail;refine(nJ _ _).mono ?_;rintro e w1 ⟨rfl,rfl⟩;go_upto_region 3 with(fail);refine Ze ?_;have yd:Ext w w.drew:=(kR _ w).drew
  (repeat first|refine cu ?_|refine dL yd YM ?_|refine dK yd ?_)
  (refine aC (λK hK=>?_);go_simp)
  refine MZ ?_;clear hK K;intro wA yA bA;generalize hg:(w:World).heap.size=g at bA⊢;have HG:=J hg;clear hg;have l1:=bH bA;have l2:=aH.bF bA;have l3:=bA.lt;have BA:=J bA;refine MX ?_;clear bA yd l1 l2 l3 yA;intro w4 HB HY
  by_cases e1:(vs.n:Int)=k.cells
  rotate_left
  ·have q1:((vs.n:Int) !=k.cells)=true:=bne_iff_ne.2 e1
   have hF1:F=3:=by
    have hl:=HV.out.1;have hc:=Bt.out;have hw:gK p 3=cells p.vars:=rfl;exact Ng
   exact Nf
  have q1:((vs.n:Int) !=k.cells)=false:=by rw [e1];simp
  have J6:=J e1;clear e1
  by_cases e2:(ag.n:Int)=1
  rotate_left
  ·have q2:((ag.n:Int) !=1)=true:=bne_iff_ne.2 e2
   have hF1:F=3:=by
    have hl:=HA.out.1;have hc:=SI.out;have hw:dZ p 3=1:=rfl;exact Nh
   exact ZF
  have q2:((ag.n:Int) !=1)=false:=by rw [e2];simp
  have HE2:=J e2;clear e2
  have hok:¬(¬(V.length:Int)=gK p 3∨¬Ar.length=dZ p 3):=by
   have h1:=HV.out.1;have h2:=HA.out.1;have h3:=Bt.out;have h4:=SI.out;have h5:=J6.out;have h6:=HE2.out;have h7:gK p 3=cells p.vars:=rfl;have h8:dZ p 3=1:=rfl;rw [h7,h8]
   omega
  exact ach
 ·skip
  go_enter func39,ntmps39;go_wp2_with fail;refine(nJ _ _).mono ?_;rintro e w1 ⟨rfl,rfl⟩;go_upto_region 3 with(fail);refine Ze ?_;have yd:Ext w w.drew:=(kR _ w).drew
  (repeat first|refine cu ?_|refine dL yd YM ?_|refine dK yd ?_)
  (refine aC (λK hK=>?_);go_simp)
  refine MZ ?_;clear hK K;intro wA yA bA;generalize hg:(w:World).heap.size=g at bA⊢;have HG:=J hg;clear hg;have l1:=bH bA;have l2:=aH.bF bA;have l3:=bA.lt;have BA:=J bA;refine MX ?_;clear bA yd l1 l2 l3 yA;intro w4 HB HY
  by_cases e1:(vs.n:Int)=k.cells
  rotate_left
  ·have q1:((vs.n:Int) !=k.cells)=true:=bne_iff_ne.2 e1
   have hF1:F=3:=by
    have hl:=HV.out.1;have hc:=Bt.out;have hw:gK p 4=cells p.vars:=rfl;exact Ng
   exact Nf
  have q1:((vs.n:Int) !=k.cells)=false:=by rw [e1];simp
  have J6:=J e1;clear e1
  by_cases e2:(ag.n:Int)=0
  rotate_left
  ·have q2:((ag.n:Int) !=0)=true:=bne_iff_ne.2 e2
   have hF1:F=3:=by
    have hl:=HA.out.1;have hc:=SI.out;have hw:dZ p 4=0:=rfl;exact Nh
   exact ZF
  have q2:((ag.n:Int) !=0)=false:=by rw [e2];simp
  have HE2:=J e2;clear e2
  have hok:¬(¬(V.length:Int)=gK p 4∨¬Ar.length=dZ p 4):=by
   have h1:=HV.out.1;have h2:=HA.out.1;have h3:=Bt.out;have h4:=SI.out;have h5:=J6.out;have h6:=HE2.out;have h7:gK p 4=cells p.vars:=rfl;have h8:dZ p 4=0:=rfl;rw [h7,h8]
   omega
  exact ach
open Go.RowKit So Mc
theorem ahD (a b:List Int):aM (a++b)=aM a++aM b:=by simp [aM]
theorem LB:(prog.info? 21).map (·.size)=some 1:=by kernel_rfl
theorem Rn (w:World) (g o dLen dCap:Nat) (cur:List Int) (hb:aH w g 21 (aM cur).toArray) (N:Nat) (s:jg) (l:List Int) (hm:j5 w N s l) (hfit:o+l.length<=cur.length) (hd:l.length<=dLen):
 ∃w',(∀ty,(Builtin.copy_ #[27,27] ty #[.slice (some ⟨g,o,none⟩) dLen dCap,s.v]).run prog w=.ok (goInt l.length) w')/\aH w' g 21 (aM (cur.take o++l++cur.drop (o+l.length))).toArray/\Kept (·=g) w w':=by
 obtain⟨h1,h2,b,off,h3,h4⟩:=hm;obtain⟨A,n,c⟩:=s;simp only at h1 h3 h4
 by_cases h0:0<n
 ·obtain⟨-,hr⟩:=h4 h0
  rw [h3 h0];refine⟨putAt w g o (aM l).toArray,λty=>?_,?_,Kept.putAt (kR _ _) _ _ _ (λ_=>rfl)⟩
  ·have hlen:(aM l).length=Nat.min n dLen:=by rw [dQ];show l.length=min n dLen;omega
   have h:=run_copy_row prog w 27 27 ty 21 g o dLen dCap ⟨b,off,none⟩ n c (aM cur).toArray 21 (aM l) underlying27 LB hb hlen (λj v hv=>by
    have hj:j<l.length:=by
     have:=(List.getElem?_eq_some_iff.1 hv).1
     rwa [dQ]at this
    have hq:=hr.mem j hj;have e:(⟨b,off,none⟩:Addr).add j=⟨b,off+j,none⟩:=by unfold Addr.add;split<;>simp_all
    rw [e,hq,<-hv];simp [aM,hj]) (by simpa [dQ]using hfit) (qC (wQ l))
   rw [dQ]at h;show(Builtin.copy_ #[27,27] ty #[.slice (some ⟨g,o,none⟩) dLen dCap,.slice (some ⟨b,off,none⟩) n c]).run prog w=_;rw [h,sO hb];simp [splice,dQ]
  ·have hp:=aH.gL hb o (aM l).toArray
   have e:splice (aM cur).toArray o (aM l).toArray=(aM (cur.take o++l++cur.drop (o+l.length))).toArray:=by
    simp [splice,aM,List.map_take,List.map_drop]
   rw [e]at hp;exact hp
 ·have hl0:l=[]:=List.length_eq_zero_iff.1 aj
  subst hl0;have hn:n=0:=by omega
  subst hn;refine⟨w,λty=>?_,?_,kR _ _⟩
  ·exact run_copy_none (P:=prog) w 27 27 ty 21 _ _ _ _ _ _ underlying27 LB (by show min 0 dLen=0;omega)
  ·have e:cur.take o++[]++cur.drop (o+([]:List Int).length)=cur:=by simp
   rw [e];exact hb
theorem Sg (W:World) (g n l:Nat) (h:l<n):(Instr.slice 27 (.slice (some ⟨g,0,none⟩) n n) (some (.int .i64 (l:Int))) none none).run prog W=.ok (.slice (some ⟨g,l,none⟩) (n - l) (n - l)) W:=by
 rw [Lib.run_slice_tailV W 27 21 underlying27 (λw=>wX bT w) g n l aj];unfold Lib.tailV;rw [if_neg aj]
def iT (p:Pr) (part:Int) (V Ar:List Int):List Int:=(if part=0 then firsts p.vars else V)++(Ar++List.replicate (49 - Ar.length) 0)
def bO (p:Pr):Nat:=(cells p.vars+49).toNat
inductive tV (p:Pr) (part:Int) (V Ar:List Int) (w w':World):Ending->Prop
 |bad (h:¬dO p part V Ar=0):tV p part V Ar w w' (.returned (.tuple #[.agg (aN 0 none 0 0 0),.int .i64 (dO p part V Ar)]))
 |ok (h:dO p part V Ar=0) (g:Nat) (hg:w.heap.size<=g) (hb:aH w' g 21 (aM (iT p part V Ar)).toArray):
  tV p part V Ar w w' (.returned (.tuple #[.agg (aN 0 (some ⟨g,0,none⟩) (bO p) (bO p) 0),.int .i64 0]))
theorem tV.bad' {p:Pr} {part:Int} {V Ar:List Int} {w w':World} {F:Int} (e:F=dO p part V Ar) (h:¬F=0):tV p part V Ar w w' (.returned (.tuple #[.agg (aN 0 none 0 0 0),.int .i64 F])):=by
 subst e;exact .bad h
theorem Gi {p:Pr} (h:tF p):∀x∈firsts p.vars,au x:=by
 have hv:=jR p.vars [] h.vars;generalize p.vars=l at hv
 induction l with
 |nil=>intro x hx;simp [firsts]at hx
 |cons v r ih=>
  intro x hx;rw [firsts,List.mem_append,List.mem_replicate]at hx
  rcases hx with⟨-,e⟩|hx
  ·have:=hv v (List.mem_cons_self ..)
   subst e;unfold au at*
   omega
  ·exact ih (λu hu=>hv u (List.mem_cons_of_mem _ hu)) x hx
theorem kL {p:Pr} {part:Int} {V Ar:List Int} (h:dO p part V Ar=0):0<=part/\part<=4/\(V.length:Int)=gK p part/\Ar.length=dZ p part/\(part=2->BH p.params Ar=false):=by
 unfold dO at h
 split at h
 ·omega
 ·split at h
  ·omega
  ·rename_i h1 h2
   refine⟨by omega,by omega,Classical.byContradiction λq=>h2 (Or.inl q),Classical.byContradiction λq=>h2 (Or.inr q),λe=>?_⟩
   split at h
   ·omega
   ·rename_i h3
    cases hb:BH p.params Ar with
    |false=>rfl
    |true=>exact absurd ⟨e,hb⟩ h3
theorem rF (cb N:Nat) (k:Cd) (p:Pr) (part:Int) (vs ag:jg) (V Ar:List Int) (w:World) (hN:N<=w.heap.size) (hC:jZ w N cb k p) (hv:j5 w N vs V) (ha:j5 w N ag Ar) (hk:tF p):
 Calls prog 19 #[.pointer (some ⟨cb,0,none⟩),.int .i64 part,vs.v,ag.v] w λe w'=>Ext w w'/\tV p part V Ar w w' e:=by
 have HC:=J hC;have HV:=J hv;have HA:=J ha;have HN:=J hN;have HK:=J hk;have hfit:=λw' (y:Ext w w')=>Tf cb N k p part vs ag V Ar w' (Nat.le_trans hN y.size) (hC.ext y) (hv.ext y) (ha.ext y) hk.np;obtain⟨F,hF⟩:∃F,F=dO p part V Ar:=⟨_,rfl⟩;rw [<-hF]at hfit;have HF:=J hF;clear hC hv ha hN hF hk;have y0:=(kR (λ_=>False) w).alloc (.cells #[.int .i64 0,.slice none 0 0,.int .i64 0] 49);have b0:=bN w 49 #[.int .i64 0,.slice none 0 0,.int .i64 0];go_enter func19,ntmps19;go_upto_region 1 with(fail);generalize (w.alloc (.cells #[.int .i64 0,.slice none 0 0,.int .i64 0] 49))=W1 at y0 b0⊢;generalize hrb:(w:World).heap.size=rb at b0⊢;have vT:=J hrb;have HB0:=J b0;have bU:=J y0;clear b0 y0 hrb;go_wp2_with fail;refine(hfit _ bU.out).mono ?_;rintro e w2 ⟨rfl,y2⟩;clear hfit;have fH:=J y2;have HB2:=J (bX HB0.out y2);clear y2
 by_cases h0:F=0
 rotate_left
 ·have hne:(F !=0)=true:=bne_iff_ne.2 h0
  have VJ:=J h0;clear h0;have l1:=bH HB2.out;have l2:=aH.bF HB2.out;have l3:=HB2.out.lt;go_wp2_with fail;have kp:Kept (·=rb) w2 (putAt w2 rb 0 #[.int .i64 0,.slice none 0 0,.int .i64 0]):=Kept.putAt (kR _ _) _ 0 _ (λ_=>rfl);refine dU (t:=49) (g:=rb) (cs:=aN 0 none 0 0 0) results19 rfl rfl rz Vm (by exact aH.gL HB2.out 0 _) ⟨?_,.bad' HF.out VJ.out⟩;exact(bU.out.trans fH.out).trans' kp (λi hi e=>by have:=vT.out;omega)
 have VJ:=J (show dO p part V Ar=0 by rw [<-HF.out];exact h0);rw [h0];clear h0;obtain⟨hp0,uY,hVl,hAl,hAb⟩:=kL VJ.out;have HVL:=J hVl;have sH:=J (show Ar.length<=4 by have:=HK.out.np;unfold dZ at hAl;split at hAl;omega;split at hAl<;>omega);clear hVl hAl hAb hp0 uY;have hcp:=dS p.vars;have agE:=HK.out.cells;have hn:k.cells+49=((bO p:Nat):Int):=by rw [HC.out.kc];unfold bO;omega
 have zu:=J (show(bO p:Int)=cells p.vars+49 by unfold bO;omega);have Bt:=J HC.out.kc;have CW:=J (And.intro hcp agE);have akY:=HC.out.kc;clear hcp agE;have ZO:=J hn;clear hn akY;have c2:=HC.out.ext (bU.out.trans fH.out);go_upto_region 4 with(fail);have zO:=rG cb k w2 c2.box (by have:=CW.out;have:=Bt.out;omega);rw [ZO.out]at zO;go_wp2_with fail;refine zO.mono ?_;rintro e w3 ⟨rfl,rfl⟩;clear zO;go_wp2_with fail;refine(X5 (bO p) (by have:=zu.out;have:=CW.out;omega) (by have:=zu.out;have:=CW.out;omega) _).mono ?_;rintro e w3 ⟨g,rfl,hbg,y3,hgl⟩;have y4:=(kR (λ_=>False) w3).alloc (.cells #[.int .i64 0,.slice (some ⟨g,0,none⟩) (bO p) (bO p),.int .i64 0] 49);have b4:=bN w3 49 #[.int .i64 0,.slice (some ⟨g,0,none⟩) (bO p) (bO p),.int .i64 0];go_upto_region 5 with(fail);generalize (w3.alloc (.cells #[.int .i64 0,.slice (some ⟨g,0,none⟩) (bO p) (bO p),.int .i64 0] 49))=w4 at y4 b4⊢;have HGL:=J (show g<w3.heap.size from hbg.lt);have kY:=J (bX hbg y4);generalize hsb:(w3:World).heap.size=sb at b4 HGL⊢;have o_:=J (y3.trans y4);have ZH:=J (bX HB2.out (y3.trans y4));have Bv:=J b4;have VK:=J (show w.heap.size<=g by have:=bU.out.size;have:=fH.out.size;omega);have Q8:=J (show rb<g by have:=HB2.out.lt;omega);clear hbg y3 hgl y4 b4 hsb c2;have i1:=bC Bv.out;have i2:=Bv.out.lt
 by_cases hp0:part=0
 ·have HP0:=J hp0
  have hpe:(part==0)=true:=by simp [hp0]
  clear hp0;have q1:=bC (HC.out.ext ((bU.out.trans fH.out).trans o_.out)).box;have q2:=(HC.out.ext ((bU.out.trans fH.out).trans o_.out)).box.lt;go_upto_region 9 with(fail);clear q1 q2;have hxl:((firsts p.vars).length:Int)=cells p.vars:=oh p.vars;have hmx:j5 w4 N k.first (firsts p.vars):=xL.words (HC.out.ext ((bU.out.trans fH.out).trans o_.out)).first (Gi HK.out);obtain⟨w5,hr5,hb5,hk5⟩:=Rn w4 g 0 (bO p) (bO p) (List.replicate (bO p) 0) kY.out N k.first (firsts p.vars) hmx (by have:=zu.out;simp;omega) (by have:=zu.out;omega)
  have e5:(List.replicate (bO p) (0:Int)).take 0++(firsts p.vars)++(List.replicate (bO p) 0).drop (0+(firsts p.vars).length)=(firsts p.vars)++List.replicate 49 0:=by
   have:=zu.out;rw [List.drop_replicate,List.take_zero,List.nil_append,show bO p - (0+(firsts p.vars).length)=49 by omega]
  rw [e5]at hb5;have wD:=J (show iT p part V Ar=(firsts p.vars)++(Ar++List.replicate (49 - Ar.length) 0)from by unfold iT;rw [if_pos HP0.out]);have HXL:=J hxl;have nC:=J hb5;have pG:=J hk5;have hgs:¬sb=g:=by have:=HGL.out;omega
  clear hmx e5 hb5 hk5 hxl;go_upto_region 9 with(fail);go_step
  iterate 3 refine qY ?_
  refine Lib.wpList_copy_run _ rfl _ _ 27 27 rfl _ _ rfl rfl (hr5 _) ?_;clear hr5 i1 i2;have Cc:=J (bK Bv.out pG.out hgs);have HC5:=J (bK (HC.out.ext ((bU.out.trans fH.out).trans o_.out)).box pG.out (by have:=VK.out;have:=HC.out.lt;have:=HN.out;omega));have HA5:=J (j5.kept (HA.out.ext ((bU.out.trans fH.out).trans o_.out)) pG.out (λi hi e=>by have:=VK.out;have:=HN.out;omega));go_upto_region 10 with(fail);refine gM (λwz=>Ext w5 wz) [(0,2),(1,1),(2,2),(3,2),(4,2),(5,1),(6,2),(7,2),(8,2),(9,0)] ?_;refine gN ?_;have yd:Ext w5 w5.drew:=(kR _ w5).drew;have hkw:IntKind.i64.wrap k.cells=k.cells:=wrap_i64 (by have:=CW.out;have:=Bt.out;unfold aL;omega)
  (repeat first|refine cu ?_|refine dL yd aik ?_|refine dK yd ?_)
  have hXC:∃kc:Nat,k.cells=(kc:Int)/\bO p=kc+49/\(firsts p.vars).length=kc:=⟨k.cells.toNat,by have:=CW.out;have:=Bt.out;omega,by have:=CW.out;have:=Bt.out;have:=zu.out;omega,by have:=HXL.out;have:=CW.out;have:=Bt.out;omega⟩;obtain⟨kc,hk1,hk2,hk3⟩:=hXC;have hsl:=λW=>Sg W g (bO p) kc aj;rw [show bO p - kc=49 by omega,<-hk1]at hsl;have EY:=J (And.intro hk1 (And.intro hk2 hk3));clear hk1 hk2 hk3
  (repeat refine cu ?_)
  clear hsl;obtain⟨hk1,hk2,hk3⟩:=EY.out;clear hk1;obtain⟨w6,xB,hb6,xw⟩:=Rn w5.drew g kc 49 49 ((firsts p.vars)++List.replicate 49 0) nC.out.drew N ag Ar (HA5.out.ext yd) (by have:=sH.out;simp;omega) (by have:=sH.out;omega)
  have e6:((firsts p.vars)++List.replicate 49 (0:Int)).take kc++Ar++((firsts p.vars)++List.replicate 49 0).drop (kc+Ar.length)=iT p part V Ar:=by
   rw [wD.out,<-hk3,List.take_left,<-List.drop_drop,List.drop_left,List.drop_replicate,List.append_assoc]
  exact aiS
 ·have HP0:=J hp0
  have hpe:(part==0)=false:=by simp [hp0]
  clear hp0;go_upto_region 9 with(fail);have hxl:(V.length:Int)=cells p.vars:=by have h:=HVL.out;unfold gK at h;rw [if_neg HP0.out]at h;exact h
  have hmx:j5 w4 N vs V:=HV.out.ext ((bU.out.trans fH.out).trans o_.out);obtain⟨w5,hr5,hb5,hk5⟩:=Rn w4 g 0 (bO p) (bO p) (List.replicate (bO p) 0) kY.out N vs V hmx (by have:=zu.out;simp;omega) (by have:=zu.out;omega)
  have e5:(List.replicate (bO p) (0:Int)).take 0++V++(List.replicate (bO p) 0).drop (0+V.length)=V++List.replicate 49 0:=by
   have:=zu.out;rw [List.drop_replicate,List.take_zero,List.nil_append,show bO p - (0+V.length)=49 by omega]
  rw [e5]at hb5;have wD:=J (show iT p part V Ar=V++(Ar++List.replicate (49 - Ar.length) 0)from by unfold iT;rw [if_neg HP0.out]);have HXL:=J hxl;have nC:=J hb5;have pG:=J hk5;have hgs:¬sb=g:=by have:=HGL.out;omega
  clear hmx e5 hb5 hk5 hxl;go_upto_region 9 with(fail);go_step
  iterate 3 refine qY ?_
  refine Lib.wpList_copy_run _ rfl _ _ 27 27 rfl _ _ rfl rfl (hr5 _) ?_;clear hr5 i1 i2;have Cc:=J (bK Bv.out pG.out hgs);have HC5:=J (bK (HC.out.ext ((bU.out.trans fH.out).trans o_.out)).box pG.out (by have:=VK.out;have:=HC.out.lt;have:=HN.out;omega));have HA5:=J (j5.kept (HA.out.ext ((bU.out.trans fH.out).trans o_.out)) pG.out (λi hi e=>by have:=VK.out;have:=HN.out;omega));go_upto_region 10 with(fail);refine gM (λwz=>Ext w5 wz) [(0,2),(1,1),(2,2),(3,2),(4,2),(5,1),(6,2),(7,2),(8,2),(9,0)] ?_;refine gN ?_;have yd:Ext w5 w5.drew:=(kR _ w5).drew;have hkw:IntKind.i64.wrap k.cells=k.cells:=wrap_i64 (by have:=CW.out;have:=Bt.out;unfold aL;omega)
  (repeat first|refine cu ?_|refine dL yd aik ?_|refine dK yd ?_)
  have hXC:∃kc:Nat,k.cells=(kc:Int)/\bO p=kc+49/\V.length=kc:=⟨k.cells.toNat,by have:=CW.out;have:=Bt.out;omega,by have:=CW.out;have:=Bt.out;have:=zu.out;omega,by have:=HXL.out;have:=CW.out;have:=Bt.out;omega⟩;obtain⟨kc,hk1,hk2,hk3⟩:=hXC;have hsl:=λW=>Sg W g (bO p) kc aj;rw [show bO p - kc=49 by omega,<-hk1]at hsl;have EY:=J (And.intro hk1 (And.intro hk2 hk3));clear hk1 hk2 hk3
  (repeat refine cu ?_)
  clear hsl;obtain⟨hk1,hk2,hk3⟩:=EY.out;clear hk1;obtain⟨w6,xB,hb6,xw⟩:=Rn w5.drew g kc 49 49 (V++List.replicate 49 0) nC.out.drew N ag Ar (HA5.out.ext yd) (by have:=sH.out;simp;omega) (by have:=sH.out;omega)
  have e6:(V++List.replicate 49 (0:Int)).take kc++Ar++(V++List.replicate 49 0).drop (kc+Ar.length)=iT p part V Ar:=by
   rw [wD.out,<-hk3,List.take_left,<-List.drop_drop,List.drop_left,List.drop_replicate,List.append_assoc]
  exact aiS
end Go.Proofs.YtbfbabbcdochjaaGreatDoor
