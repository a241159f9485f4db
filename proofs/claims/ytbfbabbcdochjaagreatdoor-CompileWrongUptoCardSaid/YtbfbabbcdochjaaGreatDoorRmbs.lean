/- Several texts joined: Lm, Vv. -/
import Derived.Test.YtbfbabbcdochjaaGreatDoorRmpk
import Derived.Test.YtbfbabbcdochjaaGreatDoorRmbq
import Derived.Test.YtbfbabbcdochjaaGreatDoorRmbr
set_option maxHeartbeats 4000000
set_option maxRecDepth 100000
open Go.Proofs.Tryz
namespace Go.Proofs.YtbfbabbcdochjaaGreatDoor
open Go.RowKit So Mc
theorem Pf (c:Pc) (p:Pr) (part:Int) (s0 s1:jg) (V0 V1:List Int) (N:Nat) (w:World) (hN:N<=w.heap.size) (h:lT w N c p) (hL:fG w) (hO:OpsAt w) (hcap:J3 c) (hz:eT p<=1099511627776) (hv0:j5 w N s0 V0) (hv1:j5 w N s1 V1):
 Calls prog 4 #[.agg c.cells,.int .i64 part,.agg #[s0.v,s1.v]] w λe w'=>e=.returned (.bool true)/\Ext w w':=by
 have hx0:=((kR (λ_=>False) w).alloc (.cells c.cells 26)).alloc (.cells #[s0.v,s1.v] 28);have hB:=(bN w 26 c.cells).alloc (.cells #[s0.v,s1.v] 28);have hD:=bN (w.alloc (.cells c.cells 26)) 28 #[s0.v,s1.v];go_enter func4,ntmps4;go_upto_region 1 with(fail);have iY:=J (h.ext hx0 hN);have dR:=J (Nat.le_trans hN hx0.size);have pI:=J (hL.ext hx0);have HOW:=J (hO.ext hx0);have j4:=J (hv0.ext hx0);have qh:=J (hv1.ext hx0);have HCAP:=J hcap;have HZ:=J hz;rw [show(w.alloc (.cells c.cells 26)).heap.size=w.heap.size+1 by simp]at hD;generalize hW:(w.alloc (.cells c.cells 26)).alloc (.cells #[s0.v,s1.v] 28)=W at hx0 hB hD iY dR pI HOW j4 qh⊢;have HX0:=J hx0;have HB:=J hB;have HD:=J hD;clear hW hx0 hB hD h hN hL hO hcap hz hv0 hv1;generalize w.heap.size=pb at HB HD⊢;have i1:=bH HB.out;have i2:=bG HB.out;have i3:=HB.out.lt;go_wp2_with fail;refine(rQ c p N _ dR.out iY.out pI.out HZ.out).mono ?_;rintro e w1 ⟨hx1,hb⟩;have eH:=J hx1;clear hx1 i1 i2 i3
 cases hb with
 |no=>
  exact aci
 |ok hf hc hl hs cb k hk=>
  refine abV ?_;clear hf hc hl hs hk;intro HF HC uS HST HK gD i1 i2 i3;go_wp2_with fail;refine abO ?_;clear i1 i2 i3;intro w2 eU sQ;have Wh:=J (HD.out.ext eU.out);have i4:w2.cell? ⟨pb+1,0,none⟩=some (.slice s0.A s0.n s0.c):=bC Wh.out 0;have i5:w2.cell? ⟨pb+1,1,none⟩=some (.slice s1.A s1.n s1.c):=bC Wh.out 1;have i6:=Wh.out.lt
  by_cases hl0:100<s0.n
  ·have g0:decide ((100:Int)<s0.n)=true:=decide_eq_true aj
   exact ajK
  have g0:decide ((100:Int)<s0.n)=false:=decide_eq_false aj
  by_cases hl1:100<s1.n
  ·have g1:decide ((100:Int)<s1.n)=true:=decide_eq_true aj
   exact ajK
  have g1:decide ((100:Int)<s1.n)=false:=decide_eq_false aj;clear hl0 hl1;have Ko:=J (j4.out.ext eU.out);have HVW:=J (qh.out.ext eU.out);have yV:=J (Nat.le_trans dR.out eU.out.size)
  by_cases hf:dO p part V0 V1=0
  ·skip
   obtain⟨i,hi,hi5,-,-⟩:=Gl gD.out hf;subst hi;have HI5:=J hi5;have tJ:=J hf;clear hf hi5;go_wp2_with fail;refine(qy cb w2.heap.size k p i HI5.out s0 s1 V0 V1 w2 (Nat.le_refl _) sQ.out (Ko.out.mono yV.out) (HVW.out.mono yV.out) gD.out uS.out HST.out (HOW.out.ext eU.out) tJ.out).mono ?_;rintro e w4 ⟨hx4,v,rfl,hv4⟩;have fZ:=J (eU.out.trans hx4);clear i4 i5 i6 g0 g1;have y5:=(kR (λ_=>False) w4).alloc (.cells v.c 38);have b5:=bN w4 38 v.c;have Nz:=J hv4;clear hv4;have HZ5:=J y5;have kX:=J (hx4.trans y5);have kg:=J (fZ.out.trans y5);go_upto_region 5 with(fail);generalize (w4.alloc (.cells v.c 38))=w5 at y5 b5 HZ5 kX kg⊢;generalize w4.heap.size=ob at b5⊢;have nC:=J b5;clear hx4 y5 b5;have CX:=J (HD.out.ext kg.out);have i4:w5.cell? ⟨pb+1,0,none⟩=some (.slice s0.A s0.n s0.c):=bC CX.out 0;have i5:w5.cell? ⟨pb+1,1,none⟩=some (.slice s1.A s1.n s1.c):=bC CX.out 1;have i6:=CX.out.lt;go_wp2_with fail;refine(rF cb w5.heap.size k p (i:Nat) s0 s1 V0 V1 w5 (Nat.le_refl _) ((sQ.out.ext kX.out).up kX.out.size (Nat.le_refl _)) ((Ko.out.ext kX.out).mono (Nat.le_trans yV.out kX.out.size)) ((HVW.out.ext kX.out).mono (Nat.le_trans yV.out kX.out.size)) gD.out).mono ?_;rintro e w6 ⟨hx6,ho⟩;have qj:=J (kg.out.trans hx6);clear i4 i5 i6
   cases ho with
   |bad hne=>exact absurd tJ.out hne
   |ok h0 g hg hbg=>
    have y7:=(kR (λ_=>False) w6).alloc (.cells #[.int .i64 0,.slice (some ⟨g,0,none⟩) (bO p) (bO p),.int .i64 0] 49);have b7:=bN w6 49 #[.int .i64 0,.slice (some ⟨g,0,none⟩) (bO p) (bO p),.int .i64 0];have lX:=J (hx6.trans y7);have sU:=J (qj.out.trans y7);go_upto_region 6 with(fail);generalize (w6.alloc (.cells #[.int .i64 0,.slice (some ⟨g,0,none⟩) (bO p) (bO p),.int .i64 0] 49))=w7 at y7 b7 lX sU⊢;generalize w6.heap.size=sb at b7⊢;have Fq:=J b7;clear y7 b7 hx6 h0 hg hbg;have zm:=J (HB.out.ext sU.out);have i1:=bH zm.out;have i2:=bG zm.out;have i3:=zm.out.lt;have CY:=J (HD.out.ext sU.out);have i4:w7.cell? ⟨pb+1,0,none⟩=some (.slice s0.A s0.n s0.c):=bC CY.out 0;have i5:w7.cell? ⟨pb+1,1,none⟩=some (.slice s1.A s1.n s1.c):=bC CY.out 1;have i6:=CY.out.lt;go_wp2_with fail;refine(rZ c p (i:Nat) s0 s1 V0 V1 N N w7 (Nat.le_trans dR.out sU.out.size) (Nat.le_trans dR.out sU.out.size) (iY.out.ext sU.out dR.out) (j4.out.ext sU.out) (qh.out.ext sU.out) gD.out).mono ?_;rintro e w8 ⟨Iy,ho⟩;clear i1 i2 i3 i4 i5 i6
    cases ho with
    |bad hne=>exact absurd tJ.out hne
    |ok i' hi' h5 h0 u hu=>
     obtain rfl:i'=i:=by omega
     have HUO:=J hu;clear hi' h5 h0 hu;have y9:=(kR (λ_=>False) w8).alloc (.cells u.c 42);have b9:=bN w8 42 u.c;have HZ9:=J y9;have tT:=J (Iy.trans y9);go_upto_region 7 with(fail);generalize (w8.alloc (.cells u.c 42))=w9 at y9 b9 HZ9 tT⊢;generalize w8.heap.size=ub at b9⊢;have HB9:=J b9;have zw:=J (sU.out.trans tT.out);have HV9:=J (nC.out.ext (lX.out.trans tT.out));have HS9:=J (Fq.out.ext tT.out);clear y9 b9 Iy;have nV:=J (LQ gD.out HI5.out tJ.out j4.out.2.1 qh.out.2.1);refine acQ ?_;intro yd
     (repeat first|refine cu ?_|refine dL yd abE ?_|refine dK yd ?_)
     (refine aC (λK hK=>?_);go_simp)
     go_wp2_with fail;refine(kN _ (pI.out.ext (zw.out.trans yd)) (HOW.out.ext (zw.out.trans yd))).mono ?_;rintro e wa ⟨rfl,hxa⟩;have ya:=yd.trans hxa;refine hK.out _ _ (λ_=>ya) ?_;clear hK K
     (repeat first|refine cu ?_|refine dL ya abE ?_|refine dK ya ?_)
     (refine aC (λK hK=>?_);go_simp)
     go_wp2_with fail;refine(mF v _).mono ?_;rintro e wb ⟨rfl,hxb⟩;have yb:=ya.trans hxb;refine hK.out _ _ (λ_=>yb) ?_;clear hK K
     (repeat first|refine cu ?_|refine dL yb abE ?_|refine dK yb ?_)
     (refine aC (λK hK=>?_);go_simp)
     go_wp2_with fail;refine(vw Nz.out HUO.out (HZ5.out.trans (lX.out.trans (tT.out.trans yb))) (HZ9.out.trans yb) nV.out).mono ?_;rintro e wc ⟨rfl,hxc⟩;have yc:=yb.trans hxc;refine hK.out _ _ (λ_=>yc) ?_;clear hK K
     (repeat first|refine cu ?_|refine dL yc abE ?_|refine dK yc ?_)
     refine gI ?_;go_wp2_with fail;go_ret;exact⟨rfl,HX0.out.trans (zw.out.trans yc)⟩
  ·skip
   obtain⟨F,hF⟩:∃F,F=dO p part V0 V1:=⟨_,rfl⟩;have HF:=J hF;have VJ:=J (show¬F=0 from by rw [hF];exact hf);have tJ:=J hf;clear hf hF;go_wp2_with fail;refine(xY cb w2.heap.size k p part s0 s1 V0 V1 w2 (Nat.le_refl _) sQ.out (Ko.out.mono yV.out) (HVW.out.mono yV.out) gD.out uS.out HST.out (HOW.out.ext eU.out)).mono ?_;rintro e w4 ⟨hx4,ho⟩
   obtain rfl:e=.returned (.tuple #[.agg fu.c,.int .i64 F]):=by
    cases ho with
    |bad h=>rw [HF.out]
    |runs K hK h hh=>exact absurd h tJ.out
    |ok K hK h hh v hv=>exact absurd h tJ.out
   clear ho;have fZ:=J (eU.out.trans hx4);clear i4 i5 i6 g0 g1;have y5:=(kR (λ_=>False) w4).alloc (.cells fu.c 38);have b5:=bN w4 38 fu.c;have HZ5:=J y5;have kX:=J (hx4.trans y5);have kg:=J (fZ.out.trans y5);go_upto_region 5 with(fail);generalize (w4.alloc (.cells fu.c 38))=w5 at y5 b5 HZ5 kX kg⊢;generalize w4.heap.size=ob at b5⊢;have nC:=J b5;clear hx4 y5 b5;have CX:=J (HD.out.ext kg.out);have i4:w5.cell? ⟨pb+1,0,none⟩=some (.slice s0.A s0.n s0.c):=bC CX.out 0;have i5:w5.cell? ⟨pb+1,1,none⟩=some (.slice s1.A s1.n s1.c):=bC CX.out 1;have i6:=CX.out.lt;go_wp2_with fail;refine(rF cb w5.heap.size k p part s0 s1 V0 V1 w5 (Nat.le_refl _) ((sQ.out.ext kX.out).up kX.out.size (Nat.le_refl _)) ((Ko.out.ext kX.out).mono (Nat.le_trans yV.out kX.out.size)) ((HVW.out.ext kX.out).mono (Nat.le_trans yV.out kX.out.size)) gD.out).mono ?_;rintro e w6 ⟨hx6,ho⟩;have qj:=J (kg.out.trans hx6);clear i4 i5 i6
   obtain rfl:e=.returned (.tuple #[.agg (aN 0 none 0 0 0),.int .i64 F]):=by
    cases ho with
    |bad h=>rw [HF.out]
    |ok h0 g hg hbg=>exact absurd h0 tJ.out
   clear ho;have y7:=(kR (λ_=>False) w6).alloc (.cells #[.int .i64 0,.slice none 0 0,.int .i64 0] 49);have b7:=bN w6 49 #[.int .i64 0,.slice none 0 0,.int .i64 0];have lX:=J (hx6.trans y7);have sU:=J (qj.out.trans y7);go_upto_region 6 with(fail);generalize (w6.alloc (.cells #[.int .i64 0,.slice none 0 0,.int .i64 0] 49))=w7 at y7 b7 lX sU⊢;generalize w6.heap.size=sb at b7⊢;have Fq:=J b7;clear y7 b7 hx6;have zm:=J (HB.out.ext sU.out);have i1:=bH zm.out;have i2:=bG zm.out;have i3:=zm.out.lt;have CY:=J (HD.out.ext sU.out);have i4:w7.cell? ⟨pb+1,0,none⟩=some (.slice s0.A s0.n s0.c):=bC CY.out 0;have i5:w7.cell? ⟨pb+1,1,none⟩=some (.slice s1.A s1.n s1.c):=bC CY.out 1;have i6:=CY.out.lt;go_wp2_with fail;refine(rZ c p part s0 s1 V0 V1 N N w7 (Nat.le_trans dR.out sU.out.size) (Nat.le_trans dR.out sU.out.size) (iY.out.ext sU.out dR.out) (j4.out.ext sU.out) (qh.out.ext sU.out) gD.out).mono ?_;rintro e w8 ⟨Iy,ho⟩;clear i1 i2 i3 i4 i5 i6
   obtain rfl:e=.returned (.tuple #[.agg fu.c,.int .i64 F]):=by
    cases ho with
    |bad h=>rw [HF.out]
    |ok i hi h5 h0 u hu=>exact absurd h0 tJ.out
   clear ho;have y9:=(kR (λ_=>False) w8).alloc (.cells fu.c 42);have b9:=bN w8 42 fu.c;have HZ9:=J y9;have tT:=J (Iy.trans y9);go_upto_region 7 with(fail);generalize (w8.alloc (.cells fu.c 42))=w9 at y9 b9 HZ9 tT⊢;generalize w8.heap.size=ub at b9⊢;have HB9:=J b9;have zw:=J (sU.out.trans tT.out);have HV9:=J (nC.out.ext (lX.out.trans tT.out));have HS9:=J (Fq.out.ext tT.out);clear y9 b9 Iy;have qF:(F==0)=false:=by have:=VJ.out;simpa using this
   refine acQ ?_;intro yd
   (repeat first|refine cu ?_|refine dL yd zb1 ?_|refine dK yd ?_)
   (refine aC (λK hK=>?_);go_simp)
   go_wp2_with fail;refine(kN _ (pI.out.ext (zw.out.trans yd)) (HOW.out.ext (zw.out.trans yd))).mono ?_;rintro e wa ⟨rfl,hxa⟩;have ya:=yd.trans hxa;refine hK.out _ _ (λ_=>ya) ?_;clear hK K
   (repeat first|refine cu ?_|refine dL ya zb1 ?_|refine dK ya ?_)
   (refine aC (λK hK=>?_);go_simp)
   go_wp2_with fail;refine(mF fu _).mono ?_;rintro e wb ⟨rfl,hxb⟩;have yb:=ya.trans hxb;refine hK.out _ _ (λ_=>yb) ?_;clear hK K
   (repeat first|refine cu ?_|refine dL yb zb1 ?_|refine dK yb ?_)
   (refine aC (λK hK=>?_);go_simp)
   go_wp2_with fail;refine(Ej fu fu [] [] 0 0 _ (rU _ _) (rU _ _) (rU _ _) (rU _ _) aG aG rfl rfl rfl rfl rfl).mono ?_;rintro e wc ⟨rfl,hxc⟩;have yc:=yb.trans hxc;refine hK.out _ _ (λ_=>yc) ?_;clear hK K
   (repeat first|refine cu ?_|refine dL yc zb1 ?_|refine dK yc ?_)
   refine gI ?_;go_wp2_with fail;go_ret;exact⟨rfl,HX0.out.trans (zw.out.trans yc)⟩
open Go.RowKit Go.Deep Go.ChangeShapes Go.WideShapes So Mc
namespace compileWrong
theorem walk {H:Type} {enc:TypeId×Value->H} (W:World) (base:Nat) (v0 v1 v2:Value) (d0:DataW H) (p0:List MemPlace) (d1:DataW H) (p1:List MemPlace) (d2:DataW H) (p2:List MemPlace)
 (o0:Value.okWide prog W .any base 26 v0) (o1:Value.okWide prog W .any base 3 v1) (o2:Value.okWide prog W .any base 28 v2)
 (h0:DataW.Trod enc prog W 0 (λ_=>true) true 26 v0 d0 p0) (_h1:DataW.Trod enc prog W 0 (λ_=>true) true 3 v1 d1 p1) (h2:DataW.Trod enc prog W 0 (λ_=>true) true 28 v2 d2 p2) (hL:laidMetH prog Rows.compileWrongUptoRow.laid W)
 {gs:List (DataW H)} (hk:Rows.uptoSmall H ([d0,d1,d2]++gs)=true)
 (z0:light prog 26 d0) (_z1:light prog 3 d1) (z2:light prog 28 d2) (hS:W.ShapedOpen prog):
 Calls prog 4 #[v0,v1,v2] W λe w'=>e=.returned (.bool true)/\Ext W w':=by
 obtain⟨c,q,rfl,hp,hc,hs⟩:=yI o0 h0 z0;obtain⟨n,rfl⟩:=Iz o1;obtain⟨s,t,l,m,rfl,hm,hn⟩:=Cz o2 h2 z2;refine abR ?_;intro hk hLA hOA;exact Pf c q n s t l m W.heap.size W (Nat.le_refl _) hp hLA hOA hc aj hm hn
end compileWrong
end Go.Proofs.YtbfbabbcdochjaaGreatDoor
