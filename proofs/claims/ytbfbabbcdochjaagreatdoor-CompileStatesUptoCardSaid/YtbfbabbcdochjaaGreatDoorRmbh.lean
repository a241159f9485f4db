/- Several texts joined: Js, Jt, Ju, Uh. -/
import Derived.Test.YtbfbabbcdochjaaGreatDoorRmpk
import Derived.Test.YtbfbabbcdochjaaGreatDoorRmal
import Derived.Test.YtbfbabbcdochjaaGreatDoorRmap
import Derived.Test.YtbfbabbcdochjaaGreatDoorRmaz
import Derived.Test.YtbfbabbcdochjaaGreatDoorRmbd
import Derived.Test.YtbfbabbcdochjaaGreatDoorRmbg
set_option maxHeartbeats 4000000
set_option maxRecDepth 100000
open Go.Proofs.Tryz
namespace Go.Proofs.YtbfbabbcdochjaaGreatDoor
open Go.RowKit So Mc
def iJ (p:Pr) (part:Nat) (V Ar:List Int):Int×Int×List Int:=jU (dM p part) (bB p part) (0,0,iT p part V Ar)
theorem RP {p:Pr} (h:tF p) (part:Int) {V Ar:List Int} (hV:∀x∈V,au x) (hA:∀x∈Ar,au x):∀x∈iT p part V Ar,au x:=λx hx=>by
 unfold iT at hx;rw [List.mem_append,List.mem_append,List.mem_replicate]at hx
 rcases hx with hx|hx|⟨-,e⟩
 ·split at hx
  ·exact Gi h x hx
  ·exact hV x hx
 ·exact hA x hx
 ·subst e;unfold au;omega
theorem qL {p:Pr} {part:Int} {V Ar:List Int} (h:dO p part V Ar=0) (hk:tF p):(iT p part V Ar).length=bO p:=by
 obtain⟨_,_,h3,h4,_⟩:=kL h;have hc:=oh p.vars;have h0:=dS p.vars;have hp:=hk.np;unfold iT bO;rw [List.length_append,List.length_append,List.length_replicate];unfold gK at h3;unfold dZ at h4
 split at h3
 ·rename_i e
  rw [if_pos e]
  split at h4
  ·omega
  ·split at h4<;>omega
 ·rename_i e
  rw [if_neg e]
  split at h4
  ·omega
  ·split at h4<;>omega
theorem kP {p:Pr} {i:Nat} (h:(partOf p i).size<=256):(dM p i).length<=1793:=by
 have:=Gc h;unfold dM;rw [List.length_append];simp only [List.length_cons,List.length_nil]
 omega
theorem wL {p:Pr} {part:Int} {V Ar:List Int} (h:dO p part V Ar=0) (hk:tF p) (hV:∀x∈V,au x) (hA:∀x∈Ar,au x):ql 0 0 (iT p part V Ar):=by
 refine⟨?_,RP hk part hV hA⟩;rw [qL h hk];have h0:=dS p.vars;have h1:=hk.cells;have hn:(bO p:Int)=cells p.vars+49:=by unfold bO;omega
 simp [uF]
 omega
theorem mE {p:Pr} {part:Nat} {V Ar:List Int} (h:dO p part V Ar=0) (hk:tF p) (hl:(partOf p part).size<=256) (hV:∀x∈V,au x) (hA:∀x∈Ar,au x):
 ql (iJ p part V Ar).1 (iJ p part V Ar).2.1 (iJ p part V Ar).2.2/\(iJ p part V Ar).2.2.length=bO p:=by
 have h1:=DY (c:=dM p part) (by have:=kP hl;omega) (s:=(0,0,iT p part V Ar)) (wL h hk hV hA) (bB p part);exact⟨h1.1,h1.2.trans (qL h hk)⟩
theorem jE.from_ {w w5 w':World} {v:fU} {o:Ou} (h:jE w5 w' v o) (hw:w.heap.size<=w5.heap.size):jE w w' v o:=
 ⟨gZ h.vars hw,gZ h.asks hw,h.refused,h.seat,h.cell,h.sides,h.rest⟩
theorem jE.kept {S:Nat->Prop} {w w' w2:World} {v:fU} {o:Ou} (h:jE w w' v o) (hk:Kept S w' w2) (h1:∀g,v.vars.v.ownBlock=some g->¬S g) (h2:∀g,v.asks.v.ownBlock=some g->¬S g):jE w w2 v o:=
 ⟨bS h.vars hk h1,bS h.asks hk h2,h.refused,h.seat,h.cell,h.sides,h.rest⟩
inductive zy (p:Pr) (part:Int) (V Ar:List Int) (w w':World):Ending->Prop
 |bad (h:¬dO p part V Ar=0):zy p part V Ar w w' (.returned (.tuple #[.agg fu.c,.int .i64 (dO p part V Ar)]))
 |runs (K:Nat) (hK:part=K) (h:dO p part V Ar=0) (hh:(iJ p K V Ar).2.1=0):zy p part V Ar w w' (.returned (.tuple #[.agg fu.c,.int .i64 10]))
 |ok (K:Nat) (hK:part=K) (h:dO p part V Ar=0) (hh:¬(iJ p K V Ar).2.1=0) (v:fU) (hv:jE w w' v (tu p K (iJ p K V Ar).2.1 (iJ p K V Ar).2.2)):
  zy p part V Ar w w' (.returned (.tuple #[.agg v.c,.int .i64 0]))
theorem zy.bad' {p:Pr} {part:Int} {V Ar:List Int} {w w':World} {F:Int} (e:F=dO p part V Ar) (h:¬F=0):zy p part V Ar w w' (.returned (.tuple #[.agg fu.c,.int .i64 F])):=by
 subst e;exact .bad h
theorem xY (cb N:Nat) (k:Cd) (p:Pr) (part:Int) (vs ag:jg) (V Ar:List Int) (w:World) (hN:N<=w.heap.size) (hC:jZ w N cb k p) (hv:j5 w N vs V) (ha:j5 w N ag Ar) (hk:tF p) (hl:¬rT p) (hst:∀i,i<5->bB p i<=65536) (hops:OpsAt w):
 Calls prog 15 #[.pointer (some ⟨cb,0,none⟩),.int .i64 part,vs.v,ag.v] w λe w'=>Ext w w'/\zy p part V Ar w w' e:=by
 have HC:=J hC;have HV:=J hv;have HA:=J ha;have HN:=J hN;have HK:=J hk;have HL:=J hl;have HST:=J hst;have nQ:=J hops;clear hC hv ha hN hk hl hst hops;have y0:=(kR (λ_=>False) w).alloc (.cells fu.c 38);have b0:=bN w 38 fu.c;go_enter func15,ntmps15;go_upto_region 1 with(fail);generalize (w.alloc (.cells fu.c 38))=W1 at y0 b0⊢;generalize hrb:(w:World).heap.size=rb at b0⊢;have vT:=J hrb;have HB0:=J b0;have bU:=J y0;clear b0 y0 hrb;go_wp2_with fail;refine(rF cb N k p part vs ag V Ar _ (Nat.le_trans HN.out bU.out.size) (HC.out.ext bU.out) (HV.out.ext bU.out) (HA.out.ext bU.out) HK.out).mono ?_;rintro e w2 ⟨y2,ho⟩;have fH:=J y2;have HB2:=J (bX HB0.out y2);clear y2
 cases ho with
 |bad hne0=>
  obtain⟨F,hF⟩:∃F,F=dO p part V Ar:=⟨_,rfl⟩;rw [<-hF]at hne0⊢;have HF:=J hF;clear hF;have hne:(F !=0)=true:=bne_iff_ne.2 hne0;have VJ:=J hne0;clear hne0;have y3:=(kR (λ_=>False) w2).alloc (.cells #[.int .i64 0,.slice none 0 0,.int .i64 0] 49);have b3:=HB2.out.ext y3;go_upto_region 2 with(fail);generalize (w2.alloc (.cells #[.int .i64 0,.slice none 0 0,.int .i64 0] 49))=w3 at y3 b3⊢;have eX:=J y3;have l1:=bH b3;have l2:=aH.bF b3;have l3:=b3.lt;have HB3:=J b3;clear b3 y3;go_wp2_with fail;have kp:Kept (·=rb) w3 (putAt w3 rb 0 fu.c):=Kept.putAt (kR _ _) _ 0 _ (λ_=>rfl);refine dU (t:=38) (g:=rb) (cs:=fu.c) results15 rfl rfl fI sF (by exact aH.gL HB3.out 0 _) ⟨?_,.bad' HF.out VJ.out⟩;exact((bU.out.trans fH.out).trans eX.out).trans' kp (λi hi e=>by have:=vT.out;omega)
 |ok h0 g hg hbg=>
  have HF:=J h0;have HG:=J hg;have kY:=J hbg;obtain⟨hp0,uY,-,-,-⟩:=kL h0;clear h0 hg hbg;have y3:=(kR (λ_=>False) w2).alloc (.cells #[.int .i64 0,.slice (some ⟨g,0,none⟩) (bO p) (bO p),.int .i64 0] 49);have b3:=bN w2 49 #[.int .i64 0,.slice (some ⟨g,0,none⟩) (bO p) (bO p),.int .i64 0];go_upto_region 2 with(fail);generalize (w2.alloc (.cells #[.int .i64 0,.slice (some ⟨g,0,none⟩) (bO p) (bO p),.int .i64 0] 49))=w3 at y3 b3⊢;generalize hsb:(w2:World).heap.size=sb at b3⊢;have Bv:=J (show w.heap.size<=sb/\rb<sb by have h:=HB2.out.lt;have:=bU.out.size;have:=fH.out.size;omega);have eX:=J ((bU.out.trans fH.out).trans y3);have ZT:=J b3;have HR3:=J (HB2.out.ext y3);have HG3:=J (kY.out.ext y3);have tH:=J (HC.out.ext eX.out);clear y3 b3 hsb;have hj:part=0∨part=1∨part=2∨part=3∨part=4:=by omega
  clear hp0 uY
  rcases hj with rfl|rfl|rfl|rfl|rfl
  ·skip
   go_upto_region 4 with(fail);refine Zb ?_;have yd:Ext w3 w3.drew:=(kR _ w3).drew
   (repeat first|refine cu ?_|refine dL yd YL ?_|refine dK yd ?_)
   have HIN:=J (tH.out.ins 0 aj);have Ad:=J (tH.out.most 0 aj);have xJ:=J (show(partOf p 0).size<=256 from Nat.le_of_not_lt (λh=>HL.out ⟨0,by omega,h⟩));refine Zk ?_;intro hin bI hA OH Fh FL hml K hK;go_wp2_with fail;refine(Mc.r_ k.i0.A bI 0 k.i0.n k.i0.c (dM p 0) 0 0 g 0 (bO p) (bO p) (iT p 0 V Ar) (k.m 0) (by rw [Ad.out];have:=HST.out 0 aj;omega) _ ⟨nQ.out.ext (eX.out.trans yd),λ_=>hA,λ_=>Fh.ext yd,hin,by have h1:k.i0.n=_:=hin;have:=kP xJ.out;omega,hml.symm,by rw [<-hml];exact FL.right,FL.vQ,(aH.row HG3.out).ext yd⟩).mono ?_;rintro e w5 ⟨v5,q5,rfl,VY,g5,c5,rfl,tN,y5⟩;have y6:=yd.trans y5;refine hK.out _ _ (λ_=>y6) ?_;clear hK K FL hml hin hA OH Fh;rw [Ad.out]at tN⊢;have HOL:=J (mE (part:=0) (V:=V) (Ar:=Ar) HF.out HK.out xJ.out HV.out.2.1 HA.out.2.1);have Rt:jU (dM p 0) (bB p 0) (0,0,iT p 0 V Ar)=iJ p 0 V Ar:=rfl;rw [Rt]at tN⊢;clear Rt;obtain⟨T,hT⟩:∃T,T=iJ p 0 V Ar:=⟨_,rfl⟩;rw [<-hT]at tN HOL⊢;have HT:=J hT;clear hT;obtain⟨pc,halt,m⟩:=T;simp only at tN HOL⊢;have wD:=J tN;have Cc:=J (ZT.out.ext y6);have xI:=J (HR3.out.ext y6);have kX:=J y6;clear tN y6 yd y5 VY;have l1:=bH Cc.out;have l2:=aH.bF Cc.out;have l3:=Cc.out.lt;refine gI ?_;clear l1 l2 l3;refine MW ?_;intro w6 Cg yX oO jc;have l1:=bH Cg.out;have l2:=bG Cg.out;have l3:=Cg.out.lt;have o8:halt=0∨halt=1∨halt=2:=by have h:=jk HOL.out.1.right;omega
   have hcap:bO p<=c5:=by obtain⟨_,_,_,_,h,_⟩:=oO.out.inv;exact h
   go_upto_region 5 with(fail);go_wp2_with fail;refine(og cb N k p 0 aj pc halt o8 g5 c5 m HOL.out.2 hcap HOL.out.1.vQ _ oO.out.row (Nat.le_trans HN.out jc.out.size) (HC.out.ext jc.out) HK.out).mono ?_;clear o8 hcap l1 l2 l3;refine Zd ?_;intro e w7 RF lX E9 Hz l4 l5 l6
   cases RF with
   |runs hz=>
    have HZ:=J hz;clear hz;go_wp2_with fail;refine Zq ?_;intro kp;refine dU (t:=38) (g:=rb) (cs:=fu.c) results15 rfl rfl fI sF FW ⟨?_,.runs 0 rfl HF.out FX⟩;exact Ni
   |ok hz v hv=>
    have HZ:=J hz;have xu:=J hv;clear hz hv;go_wp2_with fail;refine MU ?_;intro kp;refine dU (t:=38) (g:=rb) (cs:=v.c) results15 rfl rfl fI sF FW ⟨?_,.ok 0 rfl HF.out FX v ?_⟩
    ·exact(jc.out.trans lX.out).trans' kp (λi hi e=>by have:=vT.out;omega)
    ·rw [<-HT.out]
     exact ZB
  ·skip
   go_upto_region 4 with(fail);refine Zb ?_;have yd:Ext w3 w3.drew:=(kR _ w3).drew
   (repeat first|refine cu ?_|refine dL yd YL ?_|refine dK yd ?_)
   have HIN:=J (tH.out.ins 1 aj);have Ad:=J (tH.out.most 1 aj);have xJ:=J (show(partOf p 1).size<=256 from Nat.le_of_not_lt (λh=>HL.out ⟨1,by omega,h⟩));refine Zk ?_;intro hin bI hA OH Fh FL hml K hK;go_wp2_with fail;refine(Mc.r_ k.i1.A bI 0 k.i1.n k.i1.c (dM p 1) 0 0 g 0 (bO p) (bO p) (iT p 1 V Ar) (k.m 1) (by rw [Ad.out];have:=HST.out 1 aj;omega) _ ⟨nQ.out.ext (eX.out.trans yd),λ_=>hA,λ_=>Fh.ext yd,hin,by have h1:k.i1.n=_:=hin;have:=kP xJ.out;omega,hml.symm,by rw [<-hml];exact FL.right,FL.vQ,(aH.row HG3.out).ext yd⟩).mono ?_;rintro e w5 ⟨v5,q5,rfl,VY,g5,c5,rfl,tN,y5⟩;have y6:=yd.trans y5;refine hK.out _ _ (λ_=>y6) ?_;clear hK K FL hml hin hA OH Fh;rw [Ad.out]at tN⊢;have HOL:=J (mE (part:=1) (V:=V) (Ar:=Ar) HF.out HK.out xJ.out HV.out.2.1 HA.out.2.1);have Rt:jU (dM p 1) (bB p 1) (0,0,iT p 1 V Ar)=iJ p 1 V Ar:=rfl;rw [Rt]at tN⊢;clear Rt;obtain⟨T,hT⟩:∃T,T=iJ p 1 V Ar:=⟨_,rfl⟩;rw [<-hT]at tN HOL⊢;have HT:=J hT;clear hT;obtain⟨pc,halt,m⟩:=T;simp only at tN HOL⊢;have wD:=J tN;have Cc:=J (ZT.out.ext y6);have xI:=J (HR3.out.ext y6);have kX:=J y6;clear tN y6 yd y5 VY;have l1:=bH Cc.out;have l2:=aH.bF Cc.out;have l3:=Cc.out.lt;refine gI ?_;clear l1 l2 l3;refine MW ?_;intro w6 Cg yX oO jc;have l1:=bH Cg.out;have l2:=bG Cg.out;have l3:=Cg.out.lt;have o8:halt=0∨halt=1∨halt=2:=by have h:=jk HOL.out.1.right;omega
   have hcap:bO p<=c5:=by obtain⟨_,_,_,_,h,_⟩:=oO.out.inv;exact h
   go_upto_region 5 with(fail);go_wp2_with fail;refine(og cb N k p 1 aj pc halt o8 g5 c5 m HOL.out.2 hcap HOL.out.1.vQ _ oO.out.row (Nat.le_trans HN.out jc.out.size) (HC.out.ext jc.out) HK.out).mono ?_;clear o8 hcap l1 l2 l3;refine Zd ?_;intro e w7 RF lX E9 Hz l4 l5 l6
   cases RF with
   |runs hz=>
    have HZ:=J hz;clear hz;go_wp2_with fail;refine Zq ?_;intro kp;refine dU (t:=38) (g:=rb) (cs:=fu.c) results15 rfl rfl fI sF FW ⟨?_,.runs 1 rfl HF.out FX⟩;exact Ni
   |ok hz v hv=>
    have HZ:=J hz;have xu:=J hv;clear hz hv;go_wp2_with fail;refine MU ?_;intro kp;refine dU (t:=38) (g:=rb) (cs:=v.c) results15 rfl rfl fI sF FW ⟨?_,.ok 1 rfl HF.out FX v ?_⟩
    ·exact(jc.out.trans lX.out).trans' kp (λi hi e=>by have:=vT.out;omega)
    ·rw [<-HT.out]
     exact ZB
  ·skip
   go_upto_region 4 with(fail);refine Zb ?_;have yd:Ext w3 w3.drew:=(kR _ w3).drew
   (repeat first|refine cu ?_|refine dL yd YL ?_|refine dK yd ?_)
   have HIN:=J (tH.out.ins 2 aj);have Ad:=J (tH.out.most 2 aj);have xJ:=J (show(partOf p 2).size<=256 from Nat.le_of_not_lt (λh=>HL.out ⟨2,by omega,h⟩));refine Zk ?_;intro hin bI hA OH Fh FL hml K hK;go_wp2_with fail;refine(Mc.r_ k.i2.A bI 0 k.i2.n k.i2.c (dM p 2) 0 0 g 0 (bO p) (bO p) (iT p 2 V Ar) (k.m 2) (by rw [Ad.out];have:=HST.out 2 aj;omega) _ ⟨nQ.out.ext (eX.out.trans yd),λ_=>hA,λ_=>Fh.ext yd,hin,by have h1:k.i2.n=_:=hin;have:=kP xJ.out;omega,hml.symm,by rw [<-hml];exact FL.right,FL.vQ,(aH.row HG3.out).ext yd⟩).mono ?_;rintro e w5 ⟨v5,q5,rfl,VY,g5,c5,rfl,tN,y5⟩;have y6:=yd.trans y5;refine hK.out _ _ (λ_=>y6) ?_;clear hK K FL hml hin hA OH Fh;rw [Ad.out]at tN⊢;have HOL:=J (mE (part:=2) (V:=V) (Ar:=Ar) HF.out HK.out xJ.out HV.out.2.1 HA.out.2.1);have Rt:jU (dM p 2) (bB p 2) (0,0,iT p 2 V Ar)=iJ p 2 V Ar:=rfl;rw [Rt]at tN⊢;clear Rt;obtain⟨T,hT⟩:∃T,T=iJ p 2 V Ar:=⟨_,rfl⟩;rw [<-hT]at tN HOL⊢;have HT:=J hT;clear hT;obtain⟨pc,halt,m⟩:=T;simp only at tN HOL⊢;have wD:=J tN;have Cc:=J (ZT.out.ext y6);have xI:=J (HR3.out.ext y6);have kX:=J y6;clear tN y6 yd y5 VY;have l1:=bH Cc.out;have l2:=aH.bF Cc.out;have l3:=Cc.out.lt;refine gI ?_;clear l1 l2 l3;refine MW ?_;intro w6 Cg yX oO jc;have l1:=bH Cg.out;have l2:=bG Cg.out;have l3:=Cg.out.lt;have o8:halt=0∨halt=1∨halt=2:=by have h:=jk HOL.out.1.right;omega
   have hcap:bO p<=c5:=by obtain⟨_,_,_,_,h,_⟩:=oO.out.inv;exact h
   go_upto_region 5 with(fail);go_wp2_with fail;refine(og cb N k p 2 aj pc halt o8 g5 c5 m HOL.out.2 hcap HOL.out.1.vQ _ oO.out.row (Nat.le_trans HN.out jc.out.size) (HC.out.ext jc.out) HK.out).mono ?_;clear o8 hcap l1 l2 l3;refine Zd ?_;intro e w7 RF lX E9 Hz l4 l5 l6
   cases RF with
   |runs hz=>
    have HZ:=J hz;clear hz;go_wp2_with fail;refine Zq ?_;intro kp;refine dU (t:=38) (g:=rb) (cs:=fu.c) results15 rfl rfl fI sF FW ⟨?_,.runs 2 rfl HF.out FX⟩;exact Ni
   |ok hz v hv=>
    have HZ:=J hz;have xu:=J hv;clear hz hv;go_wp2_with fail;refine MU ?_;intro kp;refine dU (t:=38) (g:=rb) (cs:=v.c) results15 rfl rfl fI sF FW ⟨?_,.ok 2 rfl HF.out FX v ?_⟩
    ·exact(jc.out.trans lX.out).trans' kp (λi hi e=>by have:=vT.out;omega)
    ·rw [<-HT.out]
     exact ZB
  ·skip
   go_upto_region 4 with(fail);refine Zb ?_;have yd:Ext w3 w3.drew:=(kR _ w3).drew
   (repeat first|refine cu ?_|refine dL yd YL ?_|refine dK yd ?_)
   have HIN:=J (tH.out.ins 3 aj);have Ad:=J (tH.out.most 3 aj);have xJ:=J (show(partOf p 3).size<=256 from Nat.le_of_not_lt (λh=>HL.out ⟨3,by omega,h⟩));refine Zk ?_;intro hin bI hA OH Fh FL hml K hK;go_wp2_with fail;refine(Mc.r_ k.i3.A bI 0 k.i3.n k.i3.c (dM p 3) 0 0 g 0 (bO p) (bO p) (iT p 3 V Ar) (k.m 3) (by rw [Ad.out];have:=HST.out 3 aj;omega) _ ⟨nQ.out.ext (eX.out.trans yd),λ_=>hA,λ_=>Fh.ext yd,hin,by have h1:k.i3.n=_:=hin;have:=kP xJ.out;omega,hml.symm,by rw [<-hml];exact FL.right,FL.vQ,(aH.row HG3.out).ext yd⟩).mono ?_;rintro e w5 ⟨v5,q5,rfl,VY,g5,c5,rfl,tN,y5⟩;have y6:=yd.trans y5;refine hK.out _ _ (λ_=>y6) ?_;clear hK K FL hml hin hA OH Fh;rw [Ad.out]at tN⊢;have HOL:=J (mE (part:=3) (V:=V) (Ar:=Ar) HF.out HK.out xJ.out HV.out.2.1 HA.out.2.1);have Rt:jU (dM p 3) (bB p 3) (0,0,iT p 3 V Ar)=iJ p 3 V Ar:=rfl;rw [Rt]at tN⊢;clear Rt;obtain⟨T,hT⟩:∃T,T=iJ p 3 V Ar:=⟨_,rfl⟩;rw [<-hT]at tN HOL⊢;have HT:=J hT;clear hT;obtain⟨pc,halt,m⟩:=T;simp only at tN HOL⊢;have wD:=J tN;have Cc:=J (ZT.out.ext y6);have xI:=J (HR3.out.ext y6);have kX:=J y6;clear tN y6 yd y5 VY;have l1:=bH Cc.out;have l2:=aH.bF Cc.out;have l3:=Cc.out.lt;refine gI ?_;clear l1 l2 l3;refine MW ?_;intro w6 Cg yX oO jc;have l1:=bH Cg.out;have l2:=bG Cg.out;have l3:=Cg.out.lt;have o8:halt=0∨halt=1∨halt=2:=by have h:=jk HOL.out.1.right;omega
   have hcap:bO p<=c5:=by obtain⟨_,_,_,_,h,_⟩:=oO.out.inv;exact h
   go_upto_region 5 with(fail);go_wp2_with fail;refine(og cb N k p 3 aj pc halt o8 g5 c5 m HOL.out.2 hcap HOL.out.1.vQ _ oO.out.row (Nat.le_trans HN.out jc.out.size) (HC.out.ext jc.out) HK.out).mono ?_;clear o8 hcap l1 l2 l3;refine Zd ?_;intro e w7 RF lX E9 Hz l4 l5 l6
   cases RF with
   |runs hz=>
    have HZ:=J hz;clear hz;go_wp2_with fail;refine Zq ?_;intro kp;refine dU (t:=38) (g:=rb) (cs:=fu.c) results15 rfl rfl fI sF FW ⟨?_,.runs 3 rfl HF.out FX⟩;exact Ni
   |ok hz v hv=>
    have HZ:=J hz;have xu:=J hv;clear hz hv;go_wp2_with fail;refine MU ?_;intro kp;refine dU (t:=38) (g:=rb) (cs:=v.c) results15 rfl rfl fI sF FW ⟨?_,.ok 3 rfl HF.out FX v ?_⟩
    ·exact(jc.out.trans lX.out).trans' kp (λi hi e=>by have:=vT.out;omega)
    ·rw [<-HT.out]
     exact ZB
  ·skip
   go_upto_region 4 with(fail);refine Zb ?_;have yd:Ext w3 w3.drew:=(kR _ w3).drew
   (repeat first|refine cu ?_|refine dL yd YL ?_|refine dK yd ?_)
   have HIN:=J (tH.out.ins 4 aj);have Ad:=J (tH.out.most 4 aj);have xJ:=J (show(partOf p 4).size<=256 from Nat.le_of_not_lt (λh=>HL.out ⟨4,by omega,h⟩));refine Zk ?_;intro hin bI hA OH Fh FL hml K hK;go_wp2_with fail;refine(Mc.r_ k.i4.A bI 0 k.i4.n k.i4.c (dM p 4) 0 0 g 0 (bO p) (bO p) (iT p 4 V Ar) (k.m 4) (by rw [Ad.out];have:=HST.out 4 aj;omega) _ ⟨nQ.out.ext (eX.out.trans yd),λ_=>hA,λ_=>Fh.ext yd,hin,by have h1:k.i4.n=_:=hin;have:=kP xJ.out;omega,hml.symm,by rw [<-hml];exact FL.right,FL.vQ,(aH.row HG3.out).ext yd⟩).mono ?_;rintro e w5 ⟨v5,q5,rfl,VY,g5,c5,rfl,tN,y5⟩;have y6:=yd.trans y5;refine hK.out _ _ (λ_=>y6) ?_;clear hK K FL hml hin hA OH Fh;rw [Ad.out]at tN⊢;have HOL:=J (mE (part:=4) (V:=V) (Ar:=Ar) HF.out HK.out xJ.out HV.out.2.1 HA.out.2.1);have Rt:jU (dM p 4) (bB p 4) (0,0,iT p 4 V Ar)=iJ p 4 V Ar:=rfl;rw [Rt]at tN⊢;clear Rt;obtain⟨T,hT⟩:∃T,T=iJ p 4 V Ar:=⟨_,rfl⟩;rw [<-hT]at tN HOL⊢;have HT:=J hT;clear hT;obtain⟨pc,halt,m⟩:=T;simp only at tN HOL⊢;have wD:=J tN;have Cc:=J (ZT.out.ext y6);have xI:=J (HR3.out.ext y6);have kX:=J y6;clear tN y6 yd y5 VY;have l1:=bH Cc.out;have l2:=aH.bF Cc.out;have l3:=Cc.out.lt;refine gI ?_;clear l1 l2 l3;refine MW ?_;intro w6 Cg yX oO jc;have l1:=bH Cg.out;have l2:=bG Cg.out;have l3:=Cg.out.lt;have o8:halt=0∨halt=1∨halt=2:=by have h:=jk HOL.out.1.right;omega
   have hcap:bO p<=c5:=by obtain⟨_,_,_,_,h,_⟩:=oO.out.inv;exact h
   go_upto_region 5 with(fail);go_wp2_with fail;refine(og cb N k p 4 aj pc halt o8 g5 c5 m HOL.out.2 hcap HOL.out.1.vQ _ oO.out.row (Nat.le_trans HN.out jc.out.size) (HC.out.ext jc.out) HK.out).mono ?_;clear o8 hcap l1 l2 l3;refine Zd ?_;intro e w7 RF lX E9 Hz l4 l5 l6
   cases RF with
   |runs hz=>
    have HZ:=J hz;clear hz;go_wp2_with fail;refine Zq ?_;intro kp;refine dU (t:=38) (g:=rb) (cs:=fu.c) results15 rfl rfl fI sF FW ⟨?_,.runs 4 rfl HF.out FX⟩;exact Ni
   |ok hz v hv=>
    have HZ:=J hz;have xu:=J hv;clear hz hv;go_wp2_with fail;refine MU ?_;intro kp;refine dU (t:=38) (g:=rb) (cs:=v.c) results15 rfl rfl fI sF FW ⟨?_,.ok 4 rfl HF.out FX v ?_⟩
    ·exact(jc.out.trans lX.out).trans' kp (λi hi e=>by have:=vT.out;omega)
    ·rw [<-HT.out]
     exact ZB
open Go.RowKit So Mc
theorem O7 {a b:List Int} (i:Nat) (h1:i<a.length) (h2:i<b.length) (h:¬a[i]=b[i]):¬a=b:=λe=>by
 subst e;exact h rfl
theorem kU (sa sb:jg) (la lb:List Int) (N M:Nat) (w:World) (ha:j5 w N sa la) (hb:j5 w M sb lb) (hla:la.length<=100000):
 Calls prog 31 #[sa.v,sb.v] w λe w'=>e=.returned (.bool (decide (la=lb)))/\Ext w w':=by
 obtain⟨r,hr⟩:∃r,r=decide (la=lb):=⟨_,rfl⟩;rw [<-hr];have HR:=J hr;clear hr;obtain⟨aA,an,ac⟩:=sa;obtain⟨bA,bn,bc⟩:=sb;obtain⟨ha1,-,ab,ao,ha2,ha3⟩:=ha;obtain⟨hb1,-,bb,bo,hb2,hb3⟩:=hb;simp only at ha1 ha2 ha3 hb1 hb2 hb3;have xq:=J ha1;have Bq:=J hb1;have HAA:=J ha2;have HBA:=J hb2;have HAR:=J ha3;have HBR:=J hb3;have Wi:=J hla;clear ha1 ha2 ha3 hb1 hb2 hb3 hla
 by_cases hn:(an:Int)=bn
 rotate_left
 ·have hq:((an:Int) !=bn)=true:=bne_iff_ne.2 hn
  have HR1:=J (show r=false by
   rw [HR.out];exact decide_eq_false (λe=>by have h1:=xq.out;have h2:=Bq.out;rw [e]at h1;omega))
  clear hn;go_enter func31,ntmps31;go_wp2_with fail;go_ret;exact⟨aW HR1.out.symm,kR _ _⟩
 have hq:((an:Int) !=bn)=false:=by rw [hn];simp
 have VI:=J hn;have han:an<=100000:=by have:=xq.out;have:=Wi.out;omega
 clear hn;go_enter func31,ntmps31;go_wp2_with fail
 go_loopw [5] (λt5 wr=>∃j:Nat,j<=an/\t5=.int .i64 j/\(∀i (h1:i<la.length) (h2:i<lb.length),i<j->la[i]=lb[i])/\Ext w wr) (λt5 _=>an - (intOf t5).toNat)
 case atStart=>exact⟨0,Nat.zero_le _,rfl,λi _ _ h=>by omega,kR _ _⟩
 case round=>
  obtain⟨j,hj,rfl,hall,hk⟩:=hrel;have iL:=J hall;have HK:=J hk;clear hall hk
  by_cases hlt:j<an
  ·have hjl:j<la.length:=by have:=xq.out;omega
   have hjb:j<lb.length:=by have:=Bq.out;have:=VI.out;omega
   have jd:(j:Int)<an:=by omega
   have alb:(j:Int)<bn:=by have:=VI.out;omega
   have amt:j<bn:=by have:=VI.out;omega
   have h1:=HAA.out aj;have h2:=HBA.out aj;have r1:=(HAR.out aj).2.ext HK.out;have r2:=(HBR.out aj).2.ext HK.out;have c1:=Row.mem r1 j hjl;have c2:=Row.mem r2 j hjb;have c3:=r1.lt;have c4:=r2.lt;have nD:=J (O7 j hjl hjb)
   have NM:=J (show la[j]=lb[j]->∀i (h1:i<la.length) (h2:i<lb.length),i<j+1->la[i]=lb[i]from λh i h1 h2 hi=>by
    rcases(by omega:i<j∨i=j)with q|q
    ·exact iL.out i h1 h2 q
    ·subst q;exact h)
   clear r1 r2;rw [h1,h2];generalize la[j]=x at c1 nD NM;generalize lb[j]=y at c2 nD NM
   by_cases e:x=y
   ·have q1:(x !=y)=false:=by rw [e];simp
    have HG2:=J (NM.out e);clear e h1 h2;go_upto_region 6 with(fail)
    go_quiet (fail)
    go_wp2_with fail;go_roundw
    case rel=>exact⟨j+1,hlt,by go_num,HG2.out,Kept.drewN HK.out _⟩
    case measure=>simp only [intOf];omega
   ·have q1:(x !=y)=true:=bne_iff_ne.2 e
    have HR1:=J (show r=false by rw [HR.out];exact decide_eq_false (nD.out e));clear e h1 h2;go_upto_region 6 with(fail)
    go_quiet (fail)
    go_wp2_with fail;go_ret;exact⟨aW HR1.out.symm,Kept.drewN HK.out _⟩
  ·obtain rfl:j=an:=by omega
   have HR1:=J (show r=true by
    rw [HR.out];refine decide_eq_true (List.ext_getElem (by have:=xq.out;have:=Bq.out;have:=VI.out;omega) (λi h1 h2=>iL.out i h1 h2 (by have:=xq.out;omega)))
   )
   go_wp2_with fail;go_ret;exact⟨aW HR1.out.symm,HK.out⟩
open Go.RowKit So Mc
theorem Gg (c:Pc) (p:Pr) (N:Nat) (w:World) (hN:N<=w.heap.size) (h:lT w N c p):Calls prog 20 #[.agg c.cells] w λe w'=>e=.returned (.bool (TG p))/\Ext w w':=by
 obtain⟨cn,cse,⟨sA,sn,sc⟩,cv,cs,ct,uf,jG,ny,cq,pK⟩:=c;obtain⟨r,hr⟩:∃r,r=TG p:=⟨_,rfl⟩;rw [<-hr];have HR:=J (show r=(decide (jW (eT p)<=1200)&&decide ((sn:Int)<=20))by rw [hr,TG,<-h.bY.1]);clear hr;have hx0:=(kR (λ_=>False) w).alloc (.cells (Pc.cells ⟨cn,cse,⟨sA,sn,sc⟩,cv,cs,ct,uf,jG,ny,cq,pK⟩) 26);have hB:=bN w 26 (Pc.cells ⟨cn,cse,⟨sA,sn,sc⟩,cv,cs,ct,uf,jG,ny,cq,pK⟩);go_enter func20,ntmps20;go_upto_region 1 with(fail);have HP:=J (h.ext hx0 hN);have dR:=J (Nat.le_trans hN hx0.size);generalize hW:(w.alloc (.cells (Pc.cells ⟨cn,cse,⟨sA,sn,sc⟩,cv,cs,ct,uf,jG,ny,cq,pK⟩) 26))=W at hx0 hB HP dR⊢;clear hW h;have HX0:=J hx0;have HB:=J hB;clear hx0 hB;generalize w.heap.size=pb at HB⊢;have hc:=bC HB.out;have hl:=HB.out.lt;have hh:=bH HB.out;have hg:=bG HB.out;go_wp2_with fail;refine(GX _ p N _ dR.out HP.out).mono ?_;rintro e w1 ⟨rfl,hx1⟩;have hc1:=bC (bX HB.out hx1);have hl1:=(bX HB.out hx1).lt;have eH:=J (HX0.out.trans hx1);clear hc hl hh hg hx1;obtain⟨z,hz⟩:∃z,z=jW (eT p):=⟨_,rfl⟩;rw [<-hz]at HR⊢;clear hz
 by_cases h1:z<=1200
 ·by_cases h2:(sn:Int)<=20
  ·have HR1:=J (show r=true by rw [HR.out,decide_eq_true h1,decide_eq_true h2];rfl)
   go_wp2_with fail;go_ret;exact⟨aW HR1.out.symm,eH.out⟩
  ·have HR1:=J (show r=false by rw [HR.out,decide_eq_true h1,decide_eq_false h2];rfl)
   go_wp2_with fail;go_ret;exact⟨aW (by rw [HR1.out];simp;omega),eH.out⟩
 ·have HR1:=J (show r=false by rw [HR.out,decide_eq_false h1];rfl)
  go_wp2_with fail;go_ret;exact⟨aW (by rw [HR1.out]),eH.out⟩
theorem kT (c:Pc) (part:Nat) (hp:part<5) (w:World):Calls prog 38 #[.agg c.cells,.int .i64 part] w λe w'=>e=.returned (za c part).v/\Ext w w':=by
 have y0:=(kR (λ_=>False) w).alloc (.cells c.cells 26);have hB:=bN w 26 c.cells;have hj:part=0∨part=1∨part=2∨part=3∨part=4:=by omega
 clear hp
 rcases hj with rfl|rfl|rfl|rfl|rfl
 all_goals
  go_enter func38,ntmps38;go_upto_region 1 with(fail);generalize (w.alloc (.cells c.cells 26))=W1 at y0 hB⊢;generalize w.heap.size=pb at hB⊢;have i1:=bC hB;have i2:=hB.lt;have HY:=J y0;clear y0 hB;go_wp2_with fail;go_ret;exact⟨rfl,HY.out.trans ((kR (λ_=>False) W1).alloc _)⟩
def vV (p:Pr):Bool:=decide (256<p.start.size)||decide (256<p.turn.size)||decide (256<p.play.size)||decide (256<p.quiet.size)||decide (256<p.pays.size)
theorem D6 {p:Pr} (i:Nat) (hi:i<5) (h:256<(partOf p i).size):vV p=true:=by
 rcases(by omega:i=0∨i=1∨i=2∨i=3∨i=4)with rfl|rfl|rfl|rfl|rfl<;>simp only [partOf]at h<;>simp [vV,h]
theorem AA {p:Pr} (h:∀i,i<5->¬256<(partOf p i).size):vV p=false:=by
 have h0:=h 0 aj;have h1:=h 1 aj;have h2:=h 2 aj;have h3:=h 3 aj;have h4:=h 4 aj;simp only [partOf]at h0 h1 h2 h3 h4;simp only [vV,decide_eq_false h0,decide_eq_false h1,decide_eq_false h2,decide_eq_false h3,decide_eq_false h4,Bool.or_false]
theorem Gy (p:Pr):vV p=true↔rT p:=by
 constructor
 ·intro h
  refine Classical.byContradiction λq=>?_;rw [AA (λi hi h'=>q ⟨i,hi,h'⟩)]at h
  cases h
 ·rintro⟨i,hi,h⟩
  exact D6 i hi h
theorem UJ (c:Pc) (p:Pr) (N:Nat) (w:World) (hN:N<=w.heap.size) (h:lT w N c p) (hz:eT p<=1099511627776):Calls prog 24 #[.agg c.cells] w λe w'=>e=.returned (.bool (vV p))/\Ext w w':=by
 obtain⟨r,hr⟩:∃r,r=vV p:=⟨_,rfl⟩;rw [<-hr];have HR:=J hr;have HZ:=J hz;have y0:=(kR (λ_=>False) w).alloc (.cells c.cells 26);have hB:=bN w 26 c.cells;have HP:=J (h.ext y0 hN);have HN:=J (Nat.le_trans hN y0.size);clear hr hz h hN;go_enter func24,ntmps24;go_upto_region 1 with(fail);generalize (w.alloc (.cells c.cells 26))=W1 at y0 hB HP HN⊢;generalize w.heap.size=pb at hB⊢;have HB:=J hB;have HY:=J y0;clear y0 hB;go_upto_region 2 with(fail)
 go_loopw [3] (λt3 wr=>∃j:Nat,j<=5/\t3=.int .i64 j/\(∀i,i<j->¬256<(partOf p i).size)/\Ext W1 wr) (λt3 _=>5 - (intOf t3).toNat)
 case atStart=>exact⟨0,by omega,rfl,λi h=>by omega,kR _ _⟩
 case round=>
  obtain⟨j,hj,rfl,hall,hk⟩:=hrel;have iL:=J hall;have HK:=J hk;clear hall hk
  by_cases hlt:j<5
  ·have jd:(j:Int)<5:=by omega
   have d0:=bX HB.out HK.out;have d1:=bH d0;have d2:=bG d0;have d3:=d0.lt;clear d0;go_wp2_with fail;refine(kT c j hlt _).mono ?_;rintro e w4 ⟨rfl,y4⟩;clear d1 d2 d3;have hsl:=((HP.out.part j).ext HK.out HN.out).ext y4 (Nat.le_trans HN.out HK.out.size);have xG:=J (HK.out.trans y4);have hcall:=nT (partOf p j) (za c j).A (za c j).n (za c j).c N w4 (Nat.le_trans HN.out xG.out.size) hsl
   have hw:jW (((partOf p j).size:Nat):Int)=((partOf p j).size:Nat):=by
    have h1:=vY p j hlt;have h2:=HZ.out;rw [fF]
    omega
   rw [hw]at hcall;have HTR:=J (D6 (p:=p) j hlt)
   have NM:=J (show¬256<(partOf p j).size->∀i,i<j+1->¬256<(partOf p i).size from λh i hi=>by
    rcases(by omega:i<j∨i=j)with q|q
    ·exact iL.out i q
    ·subst q;exact h)
   generalize (partOf p j).size=z at hcall HTR NM;generalize za c j=s at hcall⊢;clear hsl hw y4;go_wp2_with fail;refine hcall.mono ?_;rintro e w5 ⟨rfl,y5⟩;have pG:=J (xG.out.trans y5);clear y5 hcall
   by_cases hb:256<z
   ·have hg:decide ((256:Int)<(z:Int))=true:=decide_eq_true aj
    have HR1:=J (show r=true by rw [HR.out];exact HTR.out hb);clear hb;go_wp2_with fail;go_ret;exact⟨aW HR1.out.symm,HY.out.trans pG.out⟩
   ·have hg:decide ((256:Int)<(z:Int))=false:=decide_eq_false aj
    have HG:=J (NM.out hb);clear hb;go_wp2_with fail;go_roundw
    case rel=>exact⟨j+1,hlt,by go_num,HG.out,pG.out⟩
    case measure=>simp only [intOf];omega
  ·obtain rfl:j=5:=by omega
   have HR1:=J (show r=false by rw [HR.out];exact AA iL.out);go_wp2_with fail;go_ret;exact⟨aW HR1.out.symm,HY.out.trans HK.out⟩
open Go.RowKit So
def Roomy (c:Pc) (k:Nat):Prop:=∀i,(za c i).n*112+k*112<=140737488355328
theorem Roomy.le {c:Pc} {k k':Nat} (h:Roomy c k) (hk:k'<=k):Roomy c k':=λi=>by have:=h i;omega
end Go.Proofs.YtbfbabbcdochjaaGreatDoor
