/- Several texts joined: Df, Dg, Dh. -/
import Derived.Test.YtbfbabbcdochjaaGreatDoorRmpk
import Derived.Test.YtbfbabbcdochjaaGreatDoorRmat
set_option maxHeartbeats 4000000
set_option maxRecDepth 100000
open Go.Proofs.Tryz
namespace Go.Proofs.YtbfbabbcdochjaaGreatDoor
open Go.RowKit So Mc
theorem QE (x:lY) (f:Nat) (W:Wd) (hM:vM x W) (κ:Kn) (op:Int) (n:Int) (s:Str) (A:Option Addr) (kc:Nat) (F:EF) (tw:Int) (L:List Ins) (w:World) (h:x.at w f W L) (hX:Ex w x.N κ op n s A F tw) (hL:L.length+(cX x W op n s F tw).length<=4000) (ho:op=14∨op=15) (hK:xC x f W κ F):
 Calls prog 143 #[.pointer (some ⟨x.mb,0,none⟩),.agg (aI op n s A F.len kc),.int .i64 tw] w λe w'=>e=.returned (.tuple #[])/\x.at w' f W (L++cX x W op n s F tw)/\KT x.B x.wm w w':=by
 obtain⟨h0,h1,h2,h3⟩:=hM;have ht0:=hX.t0;have ht1:=hX.t1;refine QW ?_;intro y1 hB0 jM hX1 fP;have hF2:F.len=2:=by rw [kr hX.head];unfold exprParts;rw [if_neg aj,if_neg aj]
 have hl0:0<F.len:=by omega
 have hl1:1<F.len:=by omega
 have hd0:=hX.t1;obtain⟨o0,n0,s0,K0,A0,c0,sM,sN,Cy,O_,Gv,Gu,O5,OX,OW⟩:=oz hK hX.kids hX.Rm (tw:=tw+1) (by have:=hX.t0;omega) aj (j:=0) hl0;refine Vo ?_;clear Gv Gu O5 OX OW O_;intro FD FC BD Bz Dq Fe;obtain⟨o1,n1,s1,K1,A1,c1,Z9,ko1,Z8,kl1,OZ,OY,XU,XP,XO⟩:=oz hK hX.kids hX.Rm (tw:=tw) hX.t0 aj (j:=1) hl1;simp only [Nat.one_mul]at OZ OY;have KH1:=J OZ;have KG1:=J OY;have KX1:=J XU;have KE1:=J XP;have KC1:=J XO;have KL1:=J kl1;clear OZ OY XU XP XO kl1;have sP:=J (show cX x W op n s F tw=cX x W o1 n1 s1 K1 tw++cX x W o0 n0 s0 K0 (tw+1)++[⟨lW op,fr x.b tw,fr x.b tw,fr x.b (tw+1)⟩]from by rw [cX,cE];rw [if_neg aj,if_neg aj,if_neg aj,if_neg aj,if_neg aj,if_pos ho,Dq.out,KC1.out]);subst Cy;obtain⟨rfl,rfl⟩:sM=Z9/\sN=ko1:=by simpa using Z8
 have Ry:(0:Int)<F.len:=by omega
 have hlJ:(1:Int)<F.len:=by omega
 have HO:=J (show 5<=op/\op<=17 by omega);clear h hX Z8 ho hF2;go_enter func143,ntmps143;go_upto_region 1 with(fail);generalize (w.alloc (.cells (aI op n s (some ⟨sM,sN,none⟩) F.len kc) 200))=W1 at y1 hB0 jM hX1⊢;refine QX ?_;clear hB0 jM hX1 hL;intro g HB HX lQ HL Y0 Ny;have oK:=J (KT.block Y0.out HB.out ak ak);refine gM (λwz=>SM x f W W1 wz) [(0,2),(1,2),(2,1),(3,2),(4,1),(5,2),(6,1),(7,2),(8,1),(9,2),(10,1),(11,2),(12,0)] ?_;refine gN ?_
 (repeat first|refine cu ?_|refine dL ⟨KT.ext (Kept.drew (kR _ _)),_,(lQ.out).drew⟩ (by intro w1 hS;have d0:=KT.block hS.1 oK.out ak ak;have d1:=bC d0;have d2:=d0.lt;obtain⟨L',hm'⟩:=hS.2;obtain⟨A',n',cp',hb',_⟩:=hm'.blk;have d3:=bC hb';have d4:=hb'.lt;have d5:=MS.look hm';have u0:=lJ (((KT.ext y1).trans Y0.out).trans hS.1) fP.out Fe.out FD.out FC.out;have FR:=u0.1;have FT:=u0.2.1;have FU:=u0.2.2;clear u0;have u1:=lJ (((KT.ext y1).trans Y0.out).trans hS.1) fP.out KL1.out KH1.out KG1.out;have u1a:=u1.1;have u1b:=u1.2.1;have u1c:=u1.2.2;clear u1;exact gX) ?_|refine dK ⟨KT.ext (Kept.drew (kR _ _)),_,(lQ.out).drew⟩ ?_)
 have MJ:KT x.B x.wm W1 W1.drew:=KT.ext (kR _ W1).drew;have H_:=J (lQ.out).drew
 (refine aC (λK hK=>?_);go_simp)
 go_wp2_with fail;refine(Sj x f W ⟨h0,h1,h2,h3⟩ κ op HO.out o1 n1 s1 A1 c1 K1 o0 n0 s0 A0 c0 K0 tw ht0 aj L _ (H_.out) (KX1.out.kt ((KT.ext y1).trans (Y0.out.trans MJ)) fP.out.1 fP.out.2) (BD.out.kt ((KT.ext y1).trans (Y0.out.trans MJ)) fP.out.1 fP.out.2) KE1.out Bz.out qW).mono ?_;refine abS ?_;clear MJ hK K;intro w2 YK iF ZW;clear YK oK;go_wp2_with fail;go_end0;refine⟨rfl,?_,(KT.ext y1).trans ZW.out⟩;rw [sP.out,<-List.append_assoc,<-List.append_assoc];exact(iF.out)
theorem TU (x:lY) (f:Nat) (W:Wd) (hM:vM x W) (κ:Kn) (n:Int) (s:Str) (A:Option Addr) (kc:Nat) (F:EF) (tw:Int) (L:List Ins) (w:World) (h:x.at w f W L) (hX:Ex w x.N κ 2 n s A F tw) (hL:L.length+(cX x W 2 n s F tw).length<=4000) (hK:xC x f W κ F):
 Calls prog 140 #[.pointer (some ⟨x.mb,0,none⟩),.agg (aI 2 n s A F.len kc),.int .i64 tw] w λe w'=>e=.returned (.tuple #[])/\x.at w' f W (L++cX x W 2 n s F tw)/\KT x.B x.wm w w':=by
 obtain⟨h0,h1,h2,h3⟩:=hM;have ht0:=hX.t0;have ht1:=hX.t1;have y1:Ext w (w.alloc (.cells (aI 2 n s A F.len kc) 200)):=(kR _ w).alloc _;have hB0:=bN w 200 (aI 2 n s A F.len kc);refine yU ?_;intro jM hX1;have fP:=J (And.intro h.hN h.hB);have hl0:0<F.len:=by rw [kr hX.head];decide
 have hd0:=hX.t1;have qH:=J (qp h.prog s);have hWs:aL (W s):=by have:=h2 s;have:=h3 s;unfold aL;omega
 obtain⟨o0,n0,s0,K0,A0,c0,sM,sN,Cy,O_,Gv,Gu,O5,OX,OW⟩:=oz hK hX.kids hX.Rm (tw:=tw) hX.t0 aj (j:=0) hl0;refine Vo ?_;clear Gv Gu O5 OX OW O_;intro FD FC BD Bz Dq Fe;have sP:=J (show cX x W 2 n s F tw=cX x W o0 n0 s0 K0 tw++[⟨18,fr x.b (tw+1),fr x.b tw,(aD x.p.vars s).size⟩]++[⟨5,fr x.b tw,fr x.b tw,fr x.b (tw+1)⟩]++[⟨15,fr x.b tw,W s,fr x.b tw⟩]++[⟨5,fr x.b tw,fr x.b tw,fr x.b (tw+1)⟩]from by rw [cX,cE];rw [if_neg ak,if_neg ak,if_pos rfl,Dq.out];simp only [List.append_assoc];rfl);subst Cy;have Ry:(0:Int)<F.len:=by omega
 clear h hX;go_enter func140,ntmps140;go_upto_region 1 with(fail);generalize (w.alloc (.cells (aI 2 n s (some ⟨sM,sN,none⟩) F.len kc) 200))=W1 at y1 hB0 jM hX1⊢;refine QX ?_;clear hB0 jM hX1 hL;intro g HB HX lQ HL Y0 Ny;have oK:=J (KT.block Y0.out HB.out ak ak);have EZ:=J (lQ.out);have hs0:x.N<=(W1:World).heap.size:=Nat.le_trans EZ.out.hN EZ.out.hB;apply meet (F:=λW2 vb=>Ext W1 W2/\aH W2 vb 109 (aJ (aD x.p.vars s)))
 case h=>
  exact zz6
 case h2=>
 refine afw ?_;clear hs0 oK EZ;intro W1 vb Af Rc eY YVB q0 i1 i2;obtain⟨_,_,_,m0,_⟩:=(eY.out).blk;have m1:=m0.lt;have m0:=bC m0;have u0:=lJ ((KT.ext y1).trans Rc.out) fP.out Fe.out FD.out FC.out;have FR:=u0.1;have FT:=u0.2.1;have FU:=u0.2.2;clear u0;go_wp2_with fail;refine(Bz.out o0 n0 s0 A0 c0 tw (L) _ (eY.out) (BD.out.kt ((KT.ext y1).trans Rc.out) fP.out.1 fP.out.2) qW).mono ?_;rintro e w2 ⟨rfl,hm2,hk2⟩;have Ci:=J ((Rc.out).trans hk2);have iF:=J hm2;have zq:=J hk2;clear hm2 hk2;have Oa:=J (YVB.out.trans (show KT x.B x.wm _ _ from zq.out));clear FR FT FU;clear q0 i1 i2 m0 m1;have q0:=KT.block Ci.out HB.out ak ak;have i1:=bC q0;have i2:=q0.lt;obtain⟨_,_,_,m0,_⟩:=(iF.out).blk;have m1:=m0.lt;have m0:=bC m0;go_wp2_with fail;refine(cZ x.B x.N x.mb x.wm x.sm x.em f x.p x.c x.b W (L++cX x W o0 n0 s0 K0 tw) tw _ (iF.out) ⟨h0,by omega⟩ ⟨ht0,by omega⟩).mono ?_;rintro e wf ⟨rfl,rfl⟩;go_wp2_with fail;refine(cZ x.B x.N x.mb x.wm x.sm x.em f x.p x.c x.b W (L++cX x W o0 n0 s0 K0 tw) (tw+1) _ (iF.out) ⟨h0,by omega⟩ ⟨by omega,by omega⟩).mono ?_;rintro e wf ⟨rfl,rfl⟩;have qv:=KT.block Oa.out Af.out ak ak;have v1:=bC qv;have v2:=qv.lt;go_wp2_with fail;refine(dh x.B x.N x.mb x.wm x.sm x.em f x.p x.c x.b W (L++cX x W o0 n0 s0 K0 tw) ⟨18,fr x.b (tw+1),fr x.b tw,(aD x.p.vars s).size⟩ ⟨(aF (n:=18) ak),(eF h0 h1 (i:=tw+1) aj aj),(eF h0 h1 ht0 aj),qH.out.size⟩ qW _ (iF.out)).mono ?_;refine MR ?_;intro w3 N9 pY J7;have aaj:=J (Oa.out.trans (show KT x.B x.wm _ _ from J7.out));clear qv v1 v2;go_wp2_with fail;refine(dh x.B x.N x.mb x.wm x.sm x.em f x.p x.c x.b W (L++cX x W o0 n0 s0 K0 tw++[⟨18,fr x.b (tw+1),fr x.b tw,(aD x.p.vars s).size⟩]) ⟨5,fr x.b tw,fr x.b tw,fr x.b (tw+1)⟩ ⟨(aF (n:=5) ak),(eF h0 h1 ht0 aj),(eF h0 h1 ht0 aj),(eF h0 h1 (i:=tw+1) aj aj)⟩ qW _ (pY.out)).mono ?_;rintro e w4 ⟨rfl,Ay,hk4⟩;have YK4:=J ((N9.out).trans hk4);have vL:=J Ay;have aag:=J hk4;clear Ay hk4;have akH:=J (aaj.out.trans (show KT x.B x.wm _ _ from aag.out));clear q0 i1 i2 m0 m1;go_upto_region 6 with(fail);have oK:=J (KT.block YK4.out HB.out ak ak);refine gM (λwz=>SM x f W w4 wz) [(0,2),(1,2),(2,2),(3,2),(4,2),(5,1),(6,2),(7,1),(8,1),(9,2),(10,0)] ?_;refine gN ?_
 (repeat first|refine cu ?_|refine dL ⟨KT.ext (Kept.drew (kR _ _)),_,(vL.out).drew⟩ zb4 ?_|refine dK ⟨KT.ext (Kept.drew (kR _ _)),_,(vL.out).drew⟩ ?_)
 have yd5:KT x.B x.wm w4 w4.drew:=KT.ext (kR _ w4).drew;have MD5:=J (vL.out).drew
 (refine aC (λK hK=>?_);go_simp)
 go_wp2_with fail;refine(dh x.B x.N x.mb x.wm x.sm x.em f x.p x.c x.b W (L++cX x W o0 n0 s0 K0 tw++[⟨18,fr x.b (tw+1),fr x.b tw,(aD x.p.vars s).size⟩]++[⟨5,fr x.b tw,fr x.b tw,fr x.b (tw+1)⟩]) ⟨15,fr x.b tw,W s,fr x.b tw⟩ ⟨(aF (n:=15) ak),(eF h0 h1 ht0 aj),hWs,(eF h0 h1 ht0 aj)⟩ qW _ (MD5.out)).mono ?_;rintro e w6 ⟨rfl,RA,xw⟩;have yk6:=(yd5).trans xw;have oO:=J RA;clear RA xw yd5;refine hK.out _ _ (λ_=>⟨yk6,_,(oO.out)⟩) ?_;clear hK K;refine gI ?_;have aak:=J ((akH.out).trans yk6);have YR7:=J ((YK4.out).trans yk6);clear yk6 oK;go_wp2_with fail;refine(dh x.B x.N x.mb x.wm x.sm x.em f x.p x.c x.b W (L++cX x W o0 n0 s0 K0 tw++[⟨18,fr x.b (tw+1),fr x.b tw,(aD x.p.vars s).size⟩]++[⟨5,fr x.b tw,fr x.b tw,fr x.b (tw+1)⟩]++[⟨15,fr x.b tw,W s,fr x.b tw⟩]) ⟨5,fr x.b tw,fr x.b tw,fr x.b (tw+1)⟩ ⟨(aF (n:=5) ak),(eF h0 h1 ht0 aj),(eF h0 h1 ht0 aj),(eF h0 h1 (i:=tw+1) aj aj)⟩ qW _ (oO.out)).mono ?_;rintro e w8 ⟨rfl,hm8,hk8⟩;have YK8:=J ((YR7.out).trans hk8);have ZM:=J hm8;have afU:=J hk8;clear hm8 hk8;have akK:=J (aak.out.trans (show KT x.B x.wm _ _ from afU.out));go_wp2_with fail;go_end0;refine⟨rfl,?_,(KT.ext y1).trans YK8.out⟩;rw [sP.out];simp only [<-List.append_assoc];exact(ZM.out)
open Go.RowKit So Mc
theorem T_ {w:World} {g:Nat} (h:dx w g gP) (op:Int) {fv:Value} {bv:Bool} (hf:(gP op).getD .nilFunc=fv) (hb:(gP op).isSome=bv):(Instr.lookup 157 (.map (some g)) (.int .i64 op) true).run prog w=.ok (.tuple #[fv,.bool bv]) w:=by
 have hlk:=dx.look_ok (P:=prog) h underlying157 underlying3 (z:=.nilFunc) (λw=>by kernel_rfl) op;rw [hlk,hf,hb]
theorem KQ (x:lY) (f:Nat) (W:Wd) (κ:Kn) (op n:Int) (s:Str) (A:Option Addr) (kc:Nat) (F:EF) (tw:Int) (L:List Ins) (w:World) (h:x.at w f W L) (hX:Ex w x.N κ op n s A F tw) (hf:gP op=some (.func (.func 138) #[] #[]))
 (hcall:∀w',x.at w' f W L->Ex w' x.N κ op n s A F tw->Calls prog 138 #[.pointer (some ⟨x.mb,0,none⟩),.agg (aI op n s A F.len kc),.int .i64 tw] w' λe w''=>e=.returned (.tuple #[])/\x.at w'' f W (L++cX x W op n s F tw)/\KT x.B x.wm w' w''):
 Calls prog 163 #[.pointer (some ⟨x.mb,0,none⟩),.agg (aI op n s A F.len kc),.int .i64 tw] w λe w'=>e=.returned (.tuple #[])/\x.at w' f W (L++cX x W op n s F tw)/\KT x.B x.wm w w':=by
 refine QW ?_;intro y1 hB0 jM hX1 fP;have HF:=J (show(gP op).getD .nilFunc=.func (.func 138) #[] #[]/\(gP op).isSome=true from by rw [hf];exact⟨rfl,rfl⟩);exact VB
theorem TB (x:lY) (f:Nat) (W:Wd) (κ:Kn) (op n:Int) (s:Str) (A:Option Addr) (kc:Nat) (F:EF) (tw:Int) (L:List Ins) (w:World) (h:x.at w f W L) (hX:Ex w x.N κ op n s A F tw) (hf:gP op=some (.func (.func 139) #[] #[]))
 (hcall:∀w',x.at w' f W L->Ex w' x.N κ op n s A F tw->Calls prog 139 #[.pointer (some ⟨x.mb,0,none⟩),.agg (aI op n s A F.len kc),.int .i64 tw] w' λe w''=>e=.returned (.tuple #[])/\x.at w'' f W (L++cX x W op n s F tw)/\KT x.B x.wm w' w''):
 Calls prog 163 #[.pointer (some ⟨x.mb,0,none⟩),.agg (aI op n s A F.len kc),.int .i64 tw] w λe w'=>e=.returned (.tuple #[])/\x.at w' f W (L++cX x W op n s F tw)/\KT x.B x.wm w w':=by
 refine QW ?_;intro y1 hB0 jM hX1 fP;have HF:=J (show(gP op).getD .nilFunc=.func (.func 139) #[] #[]/\(gP op).isSome=true from by rw [hf];exact⟨rfl,rfl⟩);exact VB
theorem OB (x:lY) (f:Nat) (W:Wd) (κ:Kn) (op n:Int) (s:Str) (A:Option Addr) (kc:Nat) (F:EF) (tw:Int) (L:List Ins) (w:World) (h:x.at w f W L) (hX:Ex w x.N κ op n s A F tw) (hf:gP op=some (.func (.func 140) #[] #[]))
 (hcall:∀w',x.at w' f W L->Ex w' x.N κ op n s A F tw->Calls prog 140 #[.pointer (some ⟨x.mb,0,none⟩),.agg (aI op n s A F.len kc),.int .i64 tw] w' λe w''=>e=.returned (.tuple #[])/\x.at w'' f W (L++cX x W op n s F tw)/\KT x.B x.wm w' w''):
 Calls prog 163 #[.pointer (some ⟨x.mb,0,none⟩),.agg (aI op n s A F.len kc),.int .i64 tw] w λe w'=>e=.returned (.tuple #[])/\x.at w' f W (L++cX x W op n s F tw)/\KT x.B x.wm w w':=by
 refine QW ?_;intro y1 hB0 jM hX1 fP;have HF:=J (show(gP op).getD .nilFunc=.func (.func 140) #[] #[]/\(gP op).isSome=true from by rw [hf];exact⟨rfl,rfl⟩);exact VB
theorem Xi (x:lY) (f:Nat) (W:Wd) (κ:Kn) (op n:Int) (s:Str) (A:Option Addr) (kc:Nat) (F:EF) (tw:Int) (L:List Ins) (w:World) (h:x.at w f W L) (hX:Ex w x.N κ op n s A F tw) (hf:gP op=some (.func (.func 141) #[] #[]))
 (hcall:∀w',x.at w' f W L->Ex w' x.N κ op n s A F tw->Calls prog 141 #[.pointer (some ⟨x.mb,0,none⟩),.agg (aI op n s A F.len kc),.int .i64 tw] w' λe w''=>e=.returned (.tuple #[])/\x.at w'' f W (L++cX x W op n s F tw)/\KT x.B x.wm w' w''):
 Calls prog 163 #[.pointer (some ⟨x.mb,0,none⟩),.agg (aI op n s A F.len kc),.int .i64 tw] w λe w'=>e=.returned (.tuple #[])/\x.at w' f W (L++cX x W op n s F tw)/\KT x.B x.wm w w':=by
 refine QW ?_;intro y1 hB0 jM hX1 fP;have HF:=J (show(gP op).getD .nilFunc=.func (.func 141) #[] #[]/\(gP op).isSome=true from by rw [hf];exact⟨rfl,rfl⟩);exact VB
theorem Xj (x:lY) (f:Nat) (W:Wd) (κ:Kn) (op n:Int) (s:Str) (A:Option Addr) (kc:Nat) (F:EF) (tw:Int) (L:List Ins) (w:World) (h:x.at w f W L) (hX:Ex w x.N κ op n s A F tw) (hf:gP op=some (.func (.func 142) #[] #[]))
 (hcall:∀w',x.at w' f W L->Ex w' x.N κ op n s A F tw->Calls prog 142 #[.pointer (some ⟨x.mb,0,none⟩),.agg (aI op n s A F.len kc),.int .i64 tw] w' λe w''=>e=.returned (.tuple #[])/\x.at w'' f W (L++cX x W op n s F tw)/\KT x.B x.wm w' w''):
 Calls prog 163 #[.pointer (some ⟨x.mb,0,none⟩),.agg (aI op n s A F.len kc),.int .i64 tw] w λe w'=>e=.returned (.tuple #[])/\x.at w' f W (L++cX x W op n s F tw)/\KT x.B x.wm w w':=by
 refine QW ?_;intro y1 hB0 jM hX1 fP;have HF:=J (show(gP op).getD .nilFunc=.func (.func 142) #[] #[]/\(gP op).isSome=true from by rw [hf];exact⟨rfl,rfl⟩);exact VB
theorem KR (x:lY) (f:Nat) (W:Wd) (κ:Kn) (op n:Int) (s:Str) (A:Option Addr) (kc:Nat) (F:EF) (tw:Int) (L:List Ins) (w:World) (h:x.at w f W L) (hX:Ex w x.N κ op n s A F tw) (hf:gP op=some (.func (.func 143) #[] #[]))
 (hcall:∀w',x.at w' f W L->Ex w' x.N κ op n s A F tw->Calls prog 143 #[.pointer (some ⟨x.mb,0,none⟩),.agg (aI op n s A F.len kc),.int .i64 tw] w' λe w''=>e=.returned (.tuple #[])/\x.at w'' f W (L++cX x W op n s F tw)/\KT x.B x.wm w' w''):
 Calls prog 163 #[.pointer (some ⟨x.mb,0,none⟩),.agg (aI op n s A F.len kc),.int .i64 tw] w λe w'=>e=.returned (.tuple #[])/\x.at w' f W (L++cX x W op n s F tw)/\KT x.B x.wm w w':=by
 refine QW ?_;intro y1 hB0 jM hX1 fP;have HF:=J (show(gP op).getD .nilFunc=.func (.func 143) #[] #[]/\(gP op).isSome=true from by rw [hf];exact⟨rfl,rfl⟩);exact VB
theorem Xk (x:lY) (f:Nat) (W:Wd) (hM:vM x W) (κ:Kn) (op n:Int) (s:Str) (A:Option Addr) (kc:Nat) (F:EF) (tw:Int) (L:List Ins) (w:World) (h:x.at w f W L) (hX:Ex w x.N κ op n s A F tw) (hK:xC x f W κ F) (hL:L.length+(cX x W op n s F tw).length<=4000) (ho:5<=op) (ho2:¬(op=14∨op=15)):
 Calls prog 163 #[.pointer (some ⟨x.mb,0,none⟩),.agg (aI op n s A F.len kc),.int .i64 tw] w λe w'=>e=.returned (.tuple #[])/\x.at w' f W (L++cX x W op n s F tw)/\KT x.B x.wm w w':=by
 have hh:=Co hX.head;have hF2:F.len=2:=by rw [kr hX.head];unfold exprParts;rw [if_neg aj,if_neg aj]
 have hl0:0<F.len:=by omega
 have hl1:1<F.len:=by omega
 have hd0:=hX.t1;have ht0:=hX.t0;obtain⟨o0,n0,s0,K0,A0,c0,sM,sN,Cy,O_,Gv,Gu,O5,OX,OW⟩:=oz hK hX.kids hX.Rm (tw:=tw) ht0 aj (j:=0) hl0;obtain⟨o1,n1,s1,K1,A1,c1,Z9,ko1,Z8,kl1,OZ,OY,XU,XP,XO⟩:=oz hK hX.kids hX.Rm (tw:=tw+1) aj aj (j:=1) hl1;simp only [Nat.zero_mul,Nat.one_mul,Nat.add_zero]at Gv Gu OZ OY;subst Cy;obtain⟨rfl,rfl⟩:sM=Z9/\sN=ko1:=by simpa using Z8
 have sP:=J (show cX x W op n s F tw=cX x W o0 n0 s0 K0 tw++cX x W o1 n1 s1 K1 (tw+1)++[⟨lW op,fr x.b tw,fr x.b tw,fr x.b (tw+1)⟩]from by
  rw [cX,cE,if_neg aj,if_neg aj,if_neg aj,if_neg aj,if_neg aj,if_neg ho2,OW,XO])
 have Ry:(0:Int)<F.len:=by omega
 have hlJ:(1:Int)<F.len:=by omega
 have hfn:gP op=none:=by unfold gP;rw [if_neg aj,if_neg aj,if_neg aj,if_neg aj,if_neg aj,if_neg ho2]
 have HF:=J (show(gP op).getD .nilFunc=.nilFunc/\(gP op).isSome=false from by rw [hfn];exact⟨rfl,rfl⟩);have HO:=J (show 5<=op/\op<=17 by omega);have FD:=J Gv;have FC:=J Gu;have KH1:=J OZ;have KG1:=J OY;have BD:=J O5;have KX1:=J XU;have Bz:=J OX;have KE1:=J XP;have Fe:=J O_;have y1:Ext w (w.alloc (.cells (aI op n s (some ⟨sM,sN,none⟩) F.len kc) 200)):=(kR _ w).alloc _;have hB0:=bN w 200 (aI op n s (some ⟨sM,sN,none⟩) F.len kc);have jM:=h.ext y1;have fP:=J (And.intro h.hN h.hB);have HL:=J hL;clear h hX hL Gv Gu OZ OY O5 XU OX XP OW XO Z8 O_ kl1 hF2 hfn ho ho2 hh hK;go_enter func163,ntmps163;go_upto_region 1 with(fail);generalize (w.alloc (.cells (aI op n s (some ⟨sM,sN,none⟩) F.len kc) 200))=W1 at y1 hB0 jM⊢;generalize (w:World).heap.size=g at hB0⊢;have HB:=J hB0;have HM:=J jM;clear jM hB0;refine gM (λw2=>Ext W1 w2) [(0,2),(1,2),(2,2),(3,1),(4,2),(5,1),(6,1),(7,2),(8,2),(9,2),(10,2),(11,2)] ?_;refine gN ?_;have y2:Ext W1 W1.drew:=(kR _ W1).drew
 (repeat first|refine cu ?_|refine dL y2 zb3 ?_|refine dK y2 ?_)
 refine gI ?_;go_upto_region 4 with(fail);have iF:=J (HM.out.ext y2);have oK:=J (bX HB.out y2);generalize hW2:W1.drew=W2 at y2 iF oK⊢;clear hW2;have Y2:=J (KT.ext (B:=x.B) (wm:=x.wm) (y1.trans y2));refine gM (λw2=>SM x f W W2 w2) [(0,2),(1,2),(2,1),(3,2),(4,1),(5,2),(6,1),(7,2),(8,1),(9,2),(10,1),(11,2),(12,0)] ?_;refine gN ?_;have y3:Ext W2 W2.drew:=(kR _ W2).drew
 (repeat first|refine cu ?_|refine dL ⟨KT.ext y3,_,iF.out.ext y3⟩ (by intro w1 hS;have d0:=KT.block hS.1 oK.out ak ak;have d1:=bC d0;have d2:=d0.lt;have u0:=lJ (Y2.out.trans hS.1) fP.out Fe.out FD.out FC.out;have FR:=u0.1;have FT:=u0.2.1;have FU:=u0.2.2;clear u0;have u1:=lJ (Y2.out.trans hS.1) fP.out Fe.out KH1.out KG1.out;have u1a:=u1.1;have u1b:=u1.2.1;clear u1;exact gX) ?_|refine dK ⟨KT.ext y3,_,iF.out.ext y3⟩ ?_)
 (refine aC (λK hK=>?_);go_simp)
 go_wp2_with fail;refine(Sj x f W hM κ op HO.out o0 n0 s0 A0 c0 K0 o1 n1 s1 A1 c1 K1 tw ht0 aj L _ (iF.out.ext y3) (BD.out.kt (Y2.out.trans (KT.ext y3)) fP.out.1 fP.out.2) (KX1.out.kt (Y2.out.trans (KT.ext y3)) fP.out.1 fP.out.2) Bz.out KE1.out qW).mono ?_;rintro e w5 ⟨rfl,yZ,hk5⟩;refine hK.out _ _ (λ_=>⟨(KT.ext y3).trans hk5,_,yZ⟩) ?_;clear hK K;refine gI ?_;go_wp2_with fail;go_end0;rw [sP.out,<-List.append_assoc,<-List.append_assoc];exact⟨rfl,yZ,Y2.out.trans ((KT.ext y3).trans hk5)⟩
theorem Gf (x:lY) (f:Nat) (W:Wd) (hM:vM x W) (κ:Kn) (F:EF) (hK:xC x f W κ F):ExM x f W κ F:=by
 intro op n s A kc tw L w h hX hL;have hh:=Co hX.head
 by_cases o0:op=0
 ·subst o0
  exact KQ x f W κ 0 n s A kc F tw L w h hX rfl λw' h' Xu=>Pn x f W hM κ n s A kc F tw L w' h' Xu hL
 by_cases o1:op=1
 ·subst o1
  exact TB x f W κ 1 n s A kc F tw L w h hX rfl λw' h' Xu=>X8 x f W hM κ n s A kc F tw L w' h' Xu hL
 by_cases o2:op=2
 ·subst o2
  exact OB x f W κ 2 n s A kc F tw L w h hX rfl λw' h' Xu=>TU x f W hM κ n s A kc F tw L w' h' Xu hL hK
 by_cases o3:op=3
 ·subst o3
  exact Xi x f W κ 3 n s A kc F tw L w h hX rfl λw' h' Xu=>aaO x f W hM κ n s A kc F tw L w' h' Xu hL hK
 by_cases o4:op=4
 ·subst o4
  exact Xj x f W κ 4 n s A kc F tw L w h hX rfl λw' h' Xu=>aaQ x f W hM κ n s A kc F tw L w' h' Xu hL hK
 by_cases o14:op=14∨op=15
 ·refine KR x f W κ op n s A kc F tw L w h hX ?_ λw' h' Xu=>QE x f W hM κ op n s A kc F tw L w' h' Xu hL o14 hK
  unfold gP;rw [if_neg o0,if_neg o1,if_neg o2,if_neg o3,if_neg o4,if_pos o14]
 exact Xk x f W hM κ op n s A kc F tw L w h hX hK hL aj o14
theorem yu (x:lY) (f:Nat) (W:Wd) (hM:vM x W) (κ:Kn):∀F:EF,ExM x f W κ F/\xC x f W κ F
 | .nil=>⟨Gf x f W hM κ .nil trivial,trivial⟩
 | .cons op n s k r=>by
  have hA:xC x f W κ (.cons op n s k r):=⟨(yu x f W hM κ k).1,(yu x f W hM κ r).2⟩;exact⟨Gf x f W hM κ _ hA,hA⟩
open Go.RowKit So Mc
structure Sx (w:World) (N:Nat) (κ:Kn) (kind:Int) (s:Str) (A:Option Addr) (F:EF) (low high:Int):Prop where
 ahv:aL low
 agI:aL high
 s_:s.size<=maxLen
 kids:g_ w N A F.len F
 len:F.len=stmtParts kind
 Rm:gq κ F=none
 dp_:dp F<=12
theorem Sx.kt {w w':World} {B wm N:Nat} {κ:Kn} {kind:Int} {s:Str} {A:Option Addr} {F:EF} {low high:Int} (h:Sx w N κ kind s A F low high) (hk:KT B wm w w') (hN:N<=B) (hB:B<=w.heap.size):Sx w' N κ kind s A F low high:=
 ⟨h.ahv,h.agI,h.s_,h.kids.kept hk.below (Nat.le_trans hN hB) (λ_i q=>Nat.le_trans hN q),h.len,h.Rm,h.dp_⟩
theorem uW (a b:List Ins) (i:Ins) (v:Int):om (a++[i]++b) a.length v=a++[⟨i.op,v,i.b,i.c⟩]++b:=by
 unfold om
 have e:(a++[i]++b).getD a.length ⟨0,0,0,0⟩=i:=by
  rw [List.getD_eq_getElem?_getD,List.append_assoc,List.getElem?_append_right (Nat.le_refl _)];simp
 rw [e,List.append_assoc,List.set_append_right _ _ (Nat.le_refl _)];simp
end Go.Proofs.YtbfbabbcdochjaaGreatDoor
