/- Several texts joined: Df, Dg, Dh. -/
import Derived.Test.YtbfbabbcdochjaaGreatDoorRxpk
import Derived.Test.YtbfbabbcdochjaaGreatDoorRxax
set_option maxHeartbeats 4000000
namespace Go.Proofs.YtbfbabbcdochjaaGreatDoor
open Go.RowKit So Mc
set_option maxRecDepth 100000 in
theorem turned_any (x:Mst) (f:Nat) (W:Wd) (hM:Mok x W) (κ:Kn) (op:Int) (n:Int) (s:Str) (A:Option Addr) (kc:Nat) (F:EF) (tw:Int) (L:List Ins) (w:World) (h:x.at w f W L) (hX:Ex w x.N κ op n s A F tw) (hL:L.length+(cX x W op n s F tw).length≤4000) (ho:op=14 ∨ op=15) (hK:AllK x f W κ F) :
 Calls Tryz.prog 143 #[.pointer (some ⟨x.mb,0,none⟩),.agg (ecells op n s A F.len kc),.int .i64 tw] w fun e w'=>e=.returned (.tuple #[])∧x.at w' f W (L ++ cX x W op n s F tw)∧KT x.B x.wm w w':=by
 obtain ⟨h0,h1,h2,h3⟩:=hM
 have ht0:=hX.t0
 have ht1:=hX.t1
 refine zy11 ?_;intro y1 hB0 hMS hX1 HNB
 have hF2:F.len=2:=by rw [head_len hX.head];unfold exprParts;rw [if_neg zb85,if_neg zb85]
 have hl0:0 < F.len:=by omega
 have hl1:1 < F.len:=by omega
 have hd0:=hX.t1
 obtain ⟨o0,n0,s0,K0,A0,c0,kb0,ko0,ka0,kl0,kh0,kg0,kx0,ke0,kc0⟩:=kid_at hK hX.kids hX.chk (tw:=tw+1) (by have:=hX.t0;omega) zb85 (j:=0) hl0
 refine zy14 ?_;clear kh0 kg0 kx0 ke0 kc0 kl0;intro KH0 KG0 KX0 KE0 KC0 KL0
 obtain ⟨o1,n1,s1,K1,A1,c1,kb1,ko1,ka1,kl1,kh1,kg1,kx1,ke1,kc1⟩:=kid_at hK hX.kids hX.chk (tw:=tw) hX.t0 zb85 (j:=1) hl1
 simp only [Nat.one_mul] at kh1 kg1
 have KH1:=J kh1
 have KG1:=J kg1
 have KX1:=J kx1
 have KE1:=J ke1
 have KC1:=J kc1
 have KL1:=J kl1
 clear kh1 kg1 kx1 ke1 kc1 kl1
 have HCX:=J (show cX x W op n s F tw=cX x W o1 n1 s1 K1 tw ++ cX x W o0 n0 s0 K0 (tw+1) ++ [⟨twoOp op,fr x.b tw,fr x.b tw,fr x.b (tw+1)⟩] from by rw [cX,cE];rw [if_neg zb85,if_neg zb85,if_neg zb85,if_neg zb85,if_neg zb85,if_pos ho,KC0.out,KC1.out])
 subst ka0
 obtain ⟨rfl,rfl⟩:kb0=kb1∧ko0=ko1:=by simpa using ka1
 have hlI:(0:Int) < F.len:=by omega
 have hlJ:(1:Int) < F.len:=by omega
 have HO:=J (show 5≤op∧op≤17 by omega)
 clear h hX ka1 ho hF2
 go_enter Tryz.func143,Tryz.ntmps143
 go_upto_region 1 with (fail)
 generalize (w.alloc (.cells (ecells op n s (some ⟨kb0,ko0,none⟩) F.len kc) 200))=W1 at y1 hB0 hMS hX1 ⊢
 refine zy7 ?_;clear hB0 hMS hX1 hL;intro g HB HX HM0 HL Y0 HS1
 have HBr:=J (KT.block Y0.out HB.out zb84 zb84)
 refine qr3 (fun wz=>SM x f W W1 wz) [(0,2),(1,2),(2,1),(3,2),(4,1),(5,2),(6,1),(7,2),(8,1),(9,2),(10,1),(11,2),(12,0)] ?_;refine qrl ?_
 (repeat first|refine qs3 ?_|refine qt3 ⟨KT.ext (Kept.drew (kR _ _)),_,(HM0.out).drew⟩ (by intro w1 hS;have d0:=KT.block hS.1 HBr.out zb84 zb84;have d1:=bC d0;have d2:=d0.lt;obtain ⟨L',hm'⟩:=hS.2;obtain ⟨A',n',cp',hb',_⟩:=hm'.blk;have d3:=bC hb';have d4:=hb'.lt;have d5:=MS.look hm';have u0:=kid_kt (((KT.ext y1).trans Y0.out).trans hS.1) HNB.out KL0.out KH0.out KG0.out;have u0a:=u0.1;have u0b:=u0.2.1;have u0c:=u0.2.2;clear u0;have u1:=kid_kt (((KT.ext y1).trans Y0.out).trans hS.1) HNB.out KL1.out KH1.out KG1.out;have u1a:=u1.1;have u1b:=u1.2.1;have u1c:=u1.2.2;clear u1;exact zgo) ?_|refine qp3 ⟨KT.ext (Kept.drew (kR _ _)),_,(HM0.out).drew⟩ ?_)
 have yd1:KT x.B x.wm W1 W1.drew:=KT.ext (kR _ W1).drew
 have MD1:=J (HM0.out).drew
 (refine w3_act (fun K hK=>?_);go_simp)
 go_wp2_with fail
 refine (two_any x f W ⟨h0,h1,h2,h3⟩ κ op HO.out o1 n1 s1 A1 c1 K1 o0 n0 s0 A0 c0 K0 tw ht0 zb85 L _ (MD1.out) (KX1.out.kt ((KT.ext y1).trans (Y0.out.trans yd1)) HNB.out.1 HNB.out.2) (KX0.out.kt ((KT.ext y1).trans (Y0.out.trans yd1)) HNB.out.1 HNB.out.2) KE1.out KE0.out zb19).mono ?_
 refine zy56 ?_;clear yd1 hK K;intro w2 yk2 HM2 YR3
 clear yk2 HBr
 go_wp2_with fail
 go_end0
 refine ⟨rfl,?_,(KT.ext y1).trans YR3.out⟩
 rw [HCX.out,← List.append_assoc,← List.append_assoc]
 exact (HM2.out)
set_option maxRecDepth 100000 in
theorem index_any (x:Mst) (f:Nat) (W:Wd) (hM:Mok x W) (κ:Kn) (n:Int) (s:Str) (A:Option Addr) (kc:Nat) (F:EF) (tw:Int) (L:List Ins) (w:World) (h:x.at w f W L) (hX:Ex w x.N κ 2 n s A F tw) (hL:L.length+(cX x W 2 n s F tw).length≤4000) (hK:AllK x f W κ F) :
 Calls Tryz.prog 140 #[.pointer (some ⟨x.mb,0,none⟩),.agg (ecells 2 n s A F.len kc),.int .i64 tw] w fun e w'=>e=.returned (.tuple #[])∧x.at w' f W (L ++ cX x W 2 n s F tw)∧KT x.B x.wm w w':=by
 obtain ⟨h0,h1,h2,h3⟩:=hM
 have ht0:=hX.t0
 have ht1:=hX.t1
 have y1:Ext w (w.alloc (.cells (ecells 2 n s A F.len kc) 200)):=(kR _ w).alloc _
 have hB0:=bN w 200 (ecells 2 n s A F.len kc)
 refine zy30 ?_;intro hMS hX1
 have HNB:=J (And.intro h.hN h.hB)
 have hl0:0 < F.len:=by rw [head_len hX.head];decide
 have hd0:=hX.t1
 have hvo:=J (cellX_ok h.prog s)
 have hWs:i64ok (W s):=by have:=h2 s;have:=h3 s;unfold i64ok;omega
 obtain ⟨o0,n0,s0,K0,A0,c0,kb0,ko0,ka0,kl0,kh0,kg0,kx0,ke0,kc0⟩:=kid_at hK hX.kids hX.chk (tw:=tw) hX.t0 zb85 (j:=0) hl0
 refine zy14 ?_;clear kh0 kg0 kx0 ke0 kc0 kl0;intro KH0 KG0 KX0 KE0 KC0 KL0
 have HCX:=J (show cX x W 2 n s F tw=cX x W o0 n0 s0 K0 tw ++ [⟨18,fr x.b (tw+1),fr x.b tw,(cellX x.p.vars s).size⟩] ++ [⟨5,fr x.b tw,fr x.b tw,fr x.b (tw+1)⟩] ++ [⟨15,fr x.b tw,W s,fr x.b tw⟩] ++ [⟨5,fr x.b tw,fr x.b tw,fr x.b (tw+1)⟩] from by rw [cX,cE];rw [if_neg zb84,if_neg zb84,if_pos rfl,KC0.out];simp only [List.append_assoc];rfl)
 subst ka0
 have hlI:(0:Int) < F.len:=by omega
 clear h hX
 go_enter Tryz.func140,Tryz.ntmps140
 go_upto_region 1 with (fail)
 generalize (w.alloc (.cells (ecells 2 n s (some ⟨kb0,ko0,none⟩) F.len kc) 200))=W1 at y1 hB0 hMS hX1 ⊢
 refine zy7 ?_;clear hB0 hMS hX1 hL;intro g HB HX HM0 HL Y0 HS1
 have HBr:=J (KT.block Y0.out HB.out zb84 zb84)
 have HMr:=J (HM0.out)
 have hs0:x.N≤(W1:World).heap.size:=Nat.le_trans HMr.out.hN HMr.out.hB
 apply meet (F:=fun W2 vb=>Ext W1 W2∧Blk W2 vb 109 (vcells (cellX x.p.vars s)))
 case h =>
  exact zz6
 case h2 =>
 refine zy85 ?_;clear hs0 HBr HMr;intro W1 vb HVB YV1 HM1 YVB q0 i1 i2
 obtain ⟨_,_,_,m0,_⟩:=(HM1.out).blk
 have m1:=m0.lt
 have m0:=bC m0
 have u0:=kid_kt ((KT.ext y1).trans YV1.out) HNB.out KL0.out KH0.out KG0.out
 have u0a:=u0.1
 have u0b:=u0.2.1
 have u0c:=u0.2.2
 clear u0
 go_wp2_with fail
 refine (KE0.out o0 n0 s0 A0 c0 tw (L) _ (HM1.out) (KX0.out.kt ((KT.ext y1).trans YV1.out) HNB.out.1 HNB.out.2) zb19).mono ?_
 rintro e w2 ⟨rfl,hm2,hk2⟩
 have YK2:=J ((YV1.out).trans hk2)
 have HM2:=J hm2
 have HKK2:=J hk2
 clear hm2 hk2
 have YV2':=J (YVB.out.trans (show KT x.B x.wm _ _ from HKK2.out))
 clear u0a u0b u0c
 clear q0 i1 i2 m0 m1
 have q0:=KT.block YK2.out HB.out zb84 zb84
 have i1:=bC q0
 have i2:=q0.lt
 obtain ⟨_,_,_,m0,_⟩:=(HM2.out).blk
 have m1:=m0.lt
 have m0:=bC m0
 go_wp2_with fail
 refine (free_any x.B x.N x.mb x.wm x.sm x.em f x.p x.c x.b W (L ++ cX x W o0 n0 s0 K0 tw) tw _ (HM2.out) ⟨h0,by omega⟩ ⟨ht0,by omega⟩).mono ?_
 rintro e wf ⟨rfl,rfl⟩
 go_wp2_with fail
 refine (free_any x.B x.N x.mb x.wm x.sm x.em f x.p x.c x.b W (L ++ cX x W o0 n0 s0 K0 tw) (tw+1) _ (HM2.out) ⟨h0,by omega⟩ ⟨by omega,by omega⟩).mono ?_
 rintro e wf ⟨rfl,rfl⟩
 have qv:=KT.block YV2'.out HVB.out zb84 zb84
 have v1:=bC qv
 have v2:=qv.lt
 go_wp2_with fail
 refine (put_any x.B x.N x.mb x.wm x.sm x.em f x.p x.c x.b W (L ++ cX x W o0 n0 s0 K0 tw) ⟨18,fr x.b (tw+1),fr x.b tw,(cellX x.p.vars s).size⟩ ⟨(i64_small (n:=18) zb84),(fr_ok h0 h1 (i:=tw+1) zb85 zb85),(fr_ok h0 h1 ht0 zb85),hvo.out.size⟩ zb19 _ (HM2.out)).mono ?_
 refine zy92 ?_;intro w3 YK3 HM3 HKK3
 have YV3':=J (YV2'.out.trans (show KT x.B x.wm _ _ from HKK3.out))
 clear qv v1 v2
 go_wp2_with fail
 refine (put_any x.B x.N x.mb x.wm x.sm x.em f x.p x.c x.b W (L ++ cX x W o0 n0 s0 K0 tw ++ [⟨18,fr x.b (tw+1),fr x.b tw,(cellX x.p.vars s).size⟩]) ⟨5,fr x.b tw,fr x.b tw,fr x.b (tw+1)⟩ ⟨(i64_small (n:=5) zb84),(fr_ok h0 h1 ht0 zb85),(fr_ok h0 h1 ht0 zb85),(fr_ok h0 h1 (i:=tw+1) zb85 zb85)⟩ zb19 _ (HM3.out)).mono ?_
 rintro e w4 ⟨rfl,hm4,hk4⟩
 have YK4:=J ((YK3.out).trans hk4)
 have HM4:=J hm4
 have HKK4:=J hk4
 clear hm4 hk4
 have YV4':=J (YV3'.out.trans (show KT x.B x.wm _ _ from HKK4.out))
 clear q0 i1 i2 m0 m1
 go_upto_region 6 with (fail)
 have HBr:=J (KT.block YK4.out HB.out zb84 zb84)
 refine qr3 (fun wz=>SM x f W w4 wz) [(0,2),(1,2),(2,2),(3,2),(4,2),(5,1),(6,2),(7,1),(8,1),(9,2),(10,0)] ?_;refine qrl ?_
 (repeat first|refine qs3 ?_|refine qt3 ⟨KT.ext (Kept.drew (kR _ _)),_,(HM4.out).drew⟩ zb3 ?_|refine qp3 ⟨KT.ext (Kept.drew (kR _ _)),_,(HM4.out).drew⟩ ?_)
 have yd5:KT x.B x.wm w4 w4.drew:=KT.ext (kR _ w4).drew
 have MD5:=J (HM4.out).drew
 (refine w3_act (fun K hK=>?_);go_simp)
 go_wp2_with fail
 refine (put_any x.B x.N x.mb x.wm x.sm x.em f x.p x.c x.b W (L ++ cX x W o0 n0 s0 K0 tw ++ [⟨18,fr x.b (tw+1),fr x.b tw,(cellX x.p.vars s).size⟩] ++ [⟨5,fr x.b tw,fr x.b tw,fr x.b (tw+1)⟩]) ⟨15,fr x.b tw,W s,fr x.b tw⟩ ⟨(i64_small (n:=15) zb84),(fr_ok h0 h1 ht0 zb85),hWs,(fr_ok h0 h1 ht0 zb85)⟩ zb19 _ (MD5.out)).mono ?_
 rintro e w6 ⟨rfl,hm6,hk6⟩
 have yk6:=(yd5).trans hk6
 have HM6:=J hm6
 clear hm6 hk6 yd5
 refine hK.out _ _ (fun _=>⟨yk6,_,(HM6.out)⟩) ?_
 clear hK K
 refine qf3 ?_
 have YV7':=J ((YV4'.out).trans yk6)
 have YR7:=J ((YK4.out).trans yk6)
 clear yk6 HBr
 go_wp2_with fail
 refine (put_any x.B x.N x.mb x.wm x.sm x.em f x.p x.c x.b W (L ++ cX x W o0 n0 s0 K0 tw ++ [⟨18,fr x.b (tw+1),fr x.b tw,(cellX x.p.vars s).size⟩] ++ [⟨5,fr x.b tw,fr x.b tw,fr x.b (tw+1)⟩] ++ [⟨15,fr x.b tw,W s,fr x.b tw⟩]) ⟨5,fr x.b tw,fr x.b tw,fr x.b (tw+1)⟩ ⟨(i64_small (n:=5) zb84),(fr_ok h0 h1 ht0 zb85),(fr_ok h0 h1 ht0 zb85),(fr_ok h0 h1 (i:=tw+1) zb85 zb85)⟩ zb19 _ (HM6.out)).mono ?_
 rintro e w8 ⟨rfl,hm8,hk8⟩
 have YK8:=J ((YR7.out).trans hk8)
 have HM8:=J hm8
 have HKK8:=J hk8
 clear hm8 hk8
 have YV8':=J (YV7'.out.trans (show KT x.B x.wm _ _ from HKK8.out))
 go_wp2_with fail
 go_end0
 refine ⟨rfl,?_,(KT.ext y1).trans YK8.out⟩
 rw [HCX.out];simp only [← List.append_assoc]
 exact (HM8.out)
open Go.RowKit So Mc
theorem look_expr {w:World} {g:Nat} (h:IMap w g exprF) (op:Int) {fv:Value} {bv:Bool} (hf:(exprF op).getD .nilFunc=fv) (hb:(exprF op).isSome=bv):(Instr.lookup 157 (.map (some g)) (.int .i64 op) true).run Tryz.prog w=.ok (.tuple #[fv,.bool bv]) w:=by
 have hlk:=IMap.look_ok (P:=Tryz.prog) h Tryz.underlying157 Tryz.underlying3 (z:=.nilFunc) (fun w=>by kernel_rfl) op
 rw [hlk,hf,hb]
set_option maxRecDepth 100000 in
theorem expr_number (x:Mst) (f:Nat) (W:Wd) (κ:Kn) (op n:Int) (s:Str) (A:Option Addr) (kc:Nat) (F:EF) (tw:Int) (L:List Ins) (w:World) (h:x.at w f W L) (hX:Ex w x.N κ op n s A F tw) (hf:exprF op=some (.func (.func 138) #[] #[]))
 (hcall:∀ w',x.at w' f W L→Ex w' x.N κ op n s A F tw→Calls Tryz.prog 138 #[.pointer (some ⟨x.mb,0,none⟩),.agg (ecells op n s A F.len kc),.int .i64 tw] w' fun e w''=>e=.returned (.tuple #[])∧x.at w'' f W (L ++ cX x W op n s F tw)∧KT x.B x.wm w' w'') :
 Calls Tryz.prog 163 #[.pointer (some ⟨x.mb,0,none⟩),.agg (ecells op n s A F.len kc),.int .i64 tw] w fun e w'=>e=.returned (.tuple #[])∧x.at w' f W (L ++ cX x W op n s F tw)∧KT x.B x.wm w w':=by
 refine zy11 ?_;intro y1 hB0 hMS hX1 HNB
 have HF:=J (show (exprF op).getD .nilFunc=.func (.func 138) #[] #[]∧(exprF op).isSome=true from by rw [hf];exact ⟨rfl,rfl⟩)
 exact zz16
set_option maxRecDepth 100000 in
theorem expr_name (x:Mst) (f:Nat) (W:Wd) (κ:Kn) (op n:Int) (s:Str) (A:Option Addr) (kc:Nat) (F:EF) (tw:Int) (L:List Ins) (w:World) (h:x.at w f W L) (hX:Ex w x.N κ op n s A F tw) (hf:exprF op=some (.func (.func 139) #[] #[]))
 (hcall:∀ w',x.at w' f W L→Ex w' x.N κ op n s A F tw→Calls Tryz.prog 139 #[.pointer (some ⟨x.mb,0,none⟩),.agg (ecells op n s A F.len kc),.int .i64 tw] w' fun e w''=>e=.returned (.tuple #[])∧x.at w'' f W (L ++ cX x W op n s F tw)∧KT x.B x.wm w' w'') :
 Calls Tryz.prog 163 #[.pointer (some ⟨x.mb,0,none⟩),.agg (ecells op n s A F.len kc),.int .i64 tw] w fun e w'=>e=.returned (.tuple #[])∧x.at w' f W (L ++ cX x W op n s F tw)∧KT x.B x.wm w w':=by
 refine zy11 ?_;intro y1 hB0 hMS hX1 HNB
 have HF:=J (show (exprF op).getD .nilFunc=.func (.func 139) #[] #[]∧(exprF op).isSome=true from by rw [hf];exact ⟨rfl,rfl⟩)
 exact zz16
set_option maxRecDepth 100000 in
theorem expr_index (x:Mst) (f:Nat) (W:Wd) (κ:Kn) (op n:Int) (s:Str) (A:Option Addr) (kc:Nat) (F:EF) (tw:Int) (L:List Ins) (w:World) (h:x.at w f W L) (hX:Ex w x.N κ op n s A F tw) (hf:exprF op=some (.func (.func 140) #[] #[]))
 (hcall:∀ w',x.at w' f W L→Ex w' x.N κ op n s A F tw→Calls Tryz.prog 140 #[.pointer (some ⟨x.mb,0,none⟩),.agg (ecells op n s A F.len kc),.int .i64 tw] w' fun e w''=>e=.returned (.tuple #[])∧x.at w'' f W (L ++ cX x W op n s F tw)∧KT x.B x.wm w' w'') :
 Calls Tryz.prog 163 #[.pointer (some ⟨x.mb,0,none⟩),.agg (ecells op n s A F.len kc),.int .i64 tw] w fun e w'=>e=.returned (.tuple #[])∧x.at w' f W (L ++ cX x W op n s F tw)∧KT x.B x.wm w w':=by
 refine zy11 ?_;intro y1 hB0 hMS hX1 HNB
 have HF:=J (show (exprF op).getD .nilFunc=.func (.func 140) #[] #[]∧(exprF op).isSome=true from by rw [hf];exact ⟨rfl,rfl⟩)
 exact zz16
set_option maxRecDepth 100000 in
theorem expr_neg (x:Mst) (f:Nat) (W:Wd) (κ:Kn) (op n:Int) (s:Str) (A:Option Addr) (kc:Nat) (F:EF) (tw:Int) (L:List Ins) (w:World) (h:x.at w f W L) (hX:Ex w x.N κ op n s A F tw) (hf:exprF op=some (.func (.func 141) #[] #[]))
 (hcall:∀ w',x.at w' f W L→Ex w' x.N κ op n s A F tw→Calls Tryz.prog 141 #[.pointer (some ⟨x.mb,0,none⟩),.agg (ecells op n s A F.len kc),.int .i64 tw] w' fun e w''=>e=.returned (.tuple #[])∧x.at w'' f W (L ++ cX x W op n s F tw)∧KT x.B x.wm w' w'') :
 Calls Tryz.prog 163 #[.pointer (some ⟨x.mb,0,none⟩),.agg (ecells op n s A F.len kc),.int .i64 tw] w fun e w'=>e=.returned (.tuple #[])∧x.at w' f W (L ++ cX x W op n s F tw)∧KT x.B x.wm w w':=by
 refine zy11 ?_;intro y1 hB0 hMS hX1 HNB
 have HF:=J (show (exprF op).getD .nilFunc=.func (.func 141) #[] #[]∧(exprF op).isSome=true from by rw [hf];exact ⟨rfl,rfl⟩)
 exact zz16
set_option maxRecDepth 100000 in
theorem expr_not (x:Mst) (f:Nat) (W:Wd) (κ:Kn) (op n:Int) (s:Str) (A:Option Addr) (kc:Nat) (F:EF) (tw:Int) (L:List Ins) (w:World) (h:x.at w f W L) (hX:Ex w x.N κ op n s A F tw) (hf:exprF op=some (.func (.func 142) #[] #[]))
 (hcall:∀ w',x.at w' f W L→Ex w' x.N κ op n s A F tw→Calls Tryz.prog 142 #[.pointer (some ⟨x.mb,0,none⟩),.agg (ecells op n s A F.len kc),.int .i64 tw] w' fun e w''=>e=.returned (.tuple #[])∧x.at w'' f W (L ++ cX x W op n s F tw)∧KT x.B x.wm w' w'') :
 Calls Tryz.prog 163 #[.pointer (some ⟨x.mb,0,none⟩),.agg (ecells op n s A F.len kc),.int .i64 tw] w fun e w'=>e=.returned (.tuple #[])∧x.at w' f W (L ++ cX x W op n s F tw)∧KT x.B x.wm w w':=by
 refine zy11 ?_;intro y1 hB0 hMS hX1 HNB
 have HF:=J (show (exprF op).getD .nilFunc=.func (.func 142) #[] #[]∧(exprF op).isSome=true from by rw [hf];exact ⟨rfl,rfl⟩)
 exact zz16
set_option maxRecDepth 100000 in
theorem expr_turned (x:Mst) (f:Nat) (W:Wd) (κ:Kn) (op n:Int) (s:Str) (A:Option Addr) (kc:Nat) (F:EF) (tw:Int) (L:List Ins) (w:World) (h:x.at w f W L) (hX:Ex w x.N κ op n s A F tw) (hf:exprF op=some (.func (.func 143) #[] #[]))
 (hcall:∀ w',x.at w' f W L→Ex w' x.N κ op n s A F tw→Calls Tryz.prog 143 #[.pointer (some ⟨x.mb,0,none⟩),.agg (ecells op n s A F.len kc),.int .i64 tw] w' fun e w''=>e=.returned (.tuple #[])∧x.at w'' f W (L ++ cX x W op n s F tw)∧KT x.B x.wm w' w'') :
 Calls Tryz.prog 163 #[.pointer (some ⟨x.mb,0,none⟩),.agg (ecells op n s A F.len kc),.int .i64 tw] w fun e w'=>e=.returned (.tuple #[])∧x.at w' f W (L ++ cX x W op n s F tw)∧KT x.B x.wm w w':=by
 refine zy11 ?_;intro y1 hB0 hMS hX1 HNB
 have HF:=J (show (exprF op).getD .nilFunc=.func (.func 143) #[] #[]∧(exprF op).isSome=true from by rw [hf];exact ⟨rfl,rfl⟩)
 exact zz16
theorem expr_two (x:Mst) (f:Nat) (W:Wd) (hM:Mok x W) (κ:Kn) (op n:Int) (s:Str) (A:Option Addr) (kc:Nat) (F:EF) (tw:Int) (L:List Ins) (w:World) (h:x.at w f W L) (hX:Ex w x.N κ op n s A F tw) (hK:AllK x f W κ F) (hL:L.length+(cX x W op n s F tw).length≤4000) (ho:5≤op) (ho2:¬ (op=14 ∨ op=15)) :
 Calls Tryz.prog 163 #[.pointer (some ⟨x.mb,0,none⟩),.agg (ecells op n s A F.len kc),.int .i64 tw] w fun e w'=>e=.returned (.tuple #[])∧x.at w' f W (L ++ cX x W op n s F tw)∧KT x.B x.wm w w':=by
 have hh:=head_op hX.head
 have hF2:F.len=2:=by rw [head_len hX.head];unfold exprParts;rw [if_neg zb85,if_neg zb85]
 have hl0:0 < F.len:=by omega
 have hl1:1 < F.len:=by omega
 have hd0:=hX.t1
 have ht0:=hX.t0
 obtain ⟨o0,n0,s0,K0,A0,c0,kb0,ko0,ka0,kl0,kh0,kg0,kx0,ke0,kc0⟩:=kid_at hK hX.kids hX.chk (tw:=tw) ht0 zb85 (j:=0) hl0
 obtain ⟨o1,n1,s1,K1,A1,c1,kb1,ko1,ka1,kl1,kh1,kg1,kx1,ke1,kc1⟩:=kid_at hK hX.kids hX.chk (tw:=tw+1) zb85 zb85 (j:=1) hl1
 simp only [Nat.zero_mul,Nat.one_mul,Nat.add_zero] at kh0 kg0 kh1 kg1
 subst ka0
 obtain ⟨rfl,rfl⟩:kb0=kb1∧ko0=ko1:=by simpa using ka1
 have HCX:=J (show cX x W op n s F tw=cX x W o0 n0 s0 K0 tw ++ cX x W o1 n1 s1 K1 (tw+1) ++ [⟨twoOp op,fr x.b tw,fr x.b tw,fr x.b (tw+1)⟩] from by
  rw [cX,cE,if_neg zb85,if_neg zb85,if_neg zb85,if_neg zb85,if_neg zb85,if_neg ho2,kc0,kc1])
 have hlI:(0:Int) < F.len:=by omega
 have hlJ:(1:Int) < F.len:=by omega
 have hfn:exprF op=none:=by unfold exprF;rw [if_neg zb85,if_neg zb85,if_neg zb85,if_neg zb85,if_neg zb85,if_neg ho2]
 have HF:=J (show (exprF op).getD .nilFunc=.nilFunc∧(exprF op).isSome=false from by rw [hfn];exact ⟨rfl,rfl⟩)
 have HO:=J (show 5≤op∧op≤17 by omega)
 have KH0:=J kh0
 have KG0:=J kg0
 have KH1:=J kh1
 have KG1:=J kg1
 have KX0:=J kx0
 have KX1:=J kx1
 have KE0:=J ke0
 have KE1:=J ke1
 have KL0:=J kl0
 have y1:Ext w (w.alloc (.cells (ecells op n s (some ⟨kb0,ko0,none⟩) F.len kc) 200)):=(kR _ w).alloc _
 have hB0:=bN w 200 (ecells op n s (some ⟨kb0,ko0,none⟩) F.len kc)
 have hMS:=h.ext y1
 have HNB:=J (And.intro h.hN h.hB)
 have HL:=J hL
 clear h hX hL kh0 kg0 kh1 kg1 kx0 kx1 ke0 ke1 kc0 kc1 ka1 kl0 kl1 hF2 hfn ho ho2 hh hK
 go_enter Tryz.func163,Tryz.ntmps163
 go_upto_region 1 with (fail)
 generalize (w.alloc (.cells (ecells op n s (some ⟨kb0,ko0,none⟩) F.len kc) 200))=W1 at y1 hB0 hMS ⊢
 generalize (w:World).heap.size=g at hB0 ⊢
 have HB:=J hB0
 have HM:=J hMS
 clear hMS hB0
 refine qr3 (fun w2=>Ext W1 w2) [(0,2),(1,2),(2,2),(3,1),(4,2),(5,1),(6,1),(7,2),(8,2),(9,2),(10,2),(11,2)] ?_;refine qrl ?_
 have y2:Ext W1 W1.drew:=(kR _ W1).drew
 (repeat first|refine qs3 ?_|refine qt3 y2 zb2 ?_|refine qp3 y2 ?_)
 refine qf3 ?_
 go_upto_region 4 with (fail)
 have HM2:=J (HM.out.ext y2)
 have HBr:=J (bX HB.out y2)
 generalize hW2:W1.drew=W2 at y2 HM2 HBr ⊢
 clear hW2
 have Y2:=J (KT.ext (B:=x.B) (wm:=x.wm) (y1.trans y2))
 refine qr3 (fun w2=>SM x f W W2 w2) [(0,2),(1,2),(2,1),(3,2),(4,1),(5,2),(6,1),(7,2),(8,1),(9,2),(10,1),(11,2),(12,0)] ?_;refine qrl ?_
 have y3:Ext W2 W2.drew:=(kR _ W2).drew
 (repeat first|refine qs3 ?_|refine qt3 ⟨KT.ext y3,_,HM2.out.ext y3⟩ (by intro w1 hS;have d0:=KT.block hS.1 HBr.out zb84 zb84;have d1:=bC d0;have d2:=d0.lt;have u0:=kid_kt (Y2.out.trans hS.1) HNB.out KL0.out KH0.out KG0.out;have u0a:=u0.1;have u0b:=u0.2.1;have u0c:=u0.2.2;clear u0;have u1:=kid_kt (Y2.out.trans hS.1) HNB.out KL0.out KH1.out KG1.out;have u1a:=u1.1;have u1b:=u1.2.1;clear u1;exact zgo) ?_|refine qp3 ⟨KT.ext y3,_,HM2.out.ext y3⟩ ?_)
 (refine w3_act (fun K hK=>?_);go_simp)
 go_wp2_with fail
 refine (two_any x f W hM κ op HO.out o0 n0 s0 A0 c0 K0 o1 n1 s1 A1 c1 K1 tw ht0 zb85 L _ (HM2.out.ext y3) (KX0.out.kt (Y2.out.trans (KT.ext y3)) HNB.out.1 HNB.out.2) (KX1.out.kt (Y2.out.trans (KT.ext y3)) HNB.out.1 HNB.out.2) KE0.out KE1.out zb19).mono ?_
 rintro e w5 ⟨rfl,hm5,hk5⟩
 refine hK.out _ _ (fun _=>⟨(KT.ext y3).trans hk5,_,hm5⟩) ?_
 clear hK K
 refine qf3 ?_
 go_wp2_with fail
 go_end0
 rw [HCX.out,← List.append_assoc,← List.append_assoc]
 exact ⟨rfl,hm5,Y2.out.trans ((KT.ext y3).trans hk5)⟩
theorem expr_step (x:Mst) (f:Nat) (W:Wd) (hM:Mok x W) (κ:Kn) (F:EF) (hK:AllK x f W κ F):ExM x f W κ F:=by
 intro op n s A kc tw L w h hX hL
 have hh:=head_op hX.head
 by_cases o0:op=0
 ·subst o0
  exact expr_number x f W κ 0 n s A kc F tw L w h hX rfl fun w' h' hX'=>number_any x f W hM κ n s A kc F tw L w' h' hX' hL
 by_cases o1:op=1
 ·subst o1
  exact expr_name x f W κ 1 n s A kc F tw L w h hX rfl fun w' h' hX'=>name_any x f W hM κ n s A kc F tw L w' h' hX' hL
 by_cases o2:op=2
 ·subst o2
  exact expr_index x f W κ 2 n s A kc F tw L w h hX rfl fun w' h' hX'=>index_any x f W hM κ n s A kc F tw L w' h' hX' hL hK
 by_cases o3:op=3
 ·subst o3
  exact expr_neg x f W κ 3 n s A kc F tw L w h hX rfl fun w' h' hX'=>neg_any x f W hM κ n s A kc F tw L w' h' hX' hL hK
 by_cases o4:op=4
 ·subst o4
  exact expr_not x f W κ 4 n s A kc F tw L w h hX rfl fun w' h' hX'=>not_any x f W hM κ n s A kc F tw L w' h' hX' hL hK
 by_cases o14:op=14 ∨ op=15
 ·refine expr_turned x f W κ op n s A kc F tw L w h hX ?_ fun w' h' hX'=>turned_any x f W hM κ op n s A kc F tw L w' h' hX' hL o14 hK
  unfold exprF
  rw [if_neg o0,if_neg o1,if_neg o2,if_neg o3,if_neg o4,if_pos o14]
 exact expr_two x f W hM κ op n s A kc F tw L w h hX hK hL zb85 o14
theorem expr_all (x:Mst) (f:Nat) (W:Wd) (hM:Mok x W) (κ:Kn):∀ F:EF,ExM x f W κ F∧AllK x f W κ F
 | .nil=>⟨expr_step x f W hM κ .nil trivial,trivial⟩
 | .cons op n s k r=>by
  have hA:AllK x f W κ (.cons op n s k r):=⟨(expr_all x f W hM κ k).1,(expr_all x f W hM κ r).2⟩
  exact ⟨expr_step x f W hM κ _ hA,hA⟩
open Go.RowKit So Mc
structure Sx (w:World) (N:Nat) (κ:Kn) (kind:Int) (s:Str) (A:Option Addr) (F:EF) (low high:Int):Prop where
 low_:i64ok low
 high_:i64ok high
 s_:s.size≤maxLen
 kids:ESl w N A F.len F
 len:F.len=stmtParts kind
 chk:chkE κ F=none
 dp_:dp F≤12
theorem Sx.kt {w w':World} {B wm N:Nat} {κ:Kn} {kind:Int} {s:Str} {A:Option Addr} {F:EF} {low high:Int} (h:Sx w N κ kind s A F low high) (hk:KT B wm w w') (hN:N≤B) (hB:B≤w.heap.size):Sx w' N κ kind s A F low high :=
 ⟨h.low_,h.high_,h.s_,h.kids.kept hk.below (Nat.le_trans hN hB) (fun _i q=>Nat.le_trans hN q),h.len,h.chk,h.dp_⟩
theorem goalL_mid (a b:List Ins) (i:Ins) (v:Int):goalL (a ++ [i] ++ b) a.length v=a ++ [⟨i.op,v,i.b,i.c⟩] ++ b:=by
 unfold goalL
 have e:(a ++ [i] ++ b).getD a.length ⟨0,0,0,0⟩=i:=by
  rw [List.getD_eq_getElem?_getD,List.append_assoc,List.getElem?_append_right (Nat.le_refl _)]
  simp
 rw [e,List.append_assoc,List.set_append_right _ _ (Nat.le_refl _)]
 simp
end Go.Proofs.YtbfbabbcdochjaaGreatDoor
