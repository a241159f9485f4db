/- Several texts joined: Dc, Dd, De. -/
import Derived.Test.YtbfbabbcdochjaaGreatDoorRxpk
import Derived.Test.YtbfbabbcdochjaaGreatDoorRxaw
set_option maxHeartbeats 4000000
namespace Go.Proofs.YtbfbabbcdochjaaGreatDoor
open Go.RowKit So Mc
set_option maxRecDepth 100000 in
theorem number_any (x:Mst) (f:Nat) (W:Wd) (hM:Mok x W) (κ:Kn) (n:Int) (s:Str) (A:Option Addr) (kc:Nat) (F:EF) (tw:Int) (L:List Ins) (w:World) (h:x.at w f W L) (hX:Ex w x.N κ 0 n s A F tw) (hL:L.length+(cX x W 0 n s F tw).length≤4000) :
 Calls Tryz.prog 138 #[.pointer (some ⟨x.mb,0,none⟩),.agg (ecells 0 n s A F.len kc),.int .i64 tw] w fun e w'=>e=.returned (.tuple #[])∧x.at w' f W (L ++ cX x W 0 n s F tw)∧KT x.B x.wm w w':=by
 obtain ⟨h0,h1,h2,h3⟩:=hM
 have ht0:=hX.t0
 have ht1:=hX.t1
 have y1:Ext w (w.alloc (.cells (ecells 0 n s A F.len kc) 200)):=(kR _ w).alloc _
 have hB0:=bN w 200 (ecells 0 n s A F.len kc)
 refine zy30 ?_;intro hMS hX1
 have HNB:=J (And.intro h.hN h.hB)
 clear h hX
 go_enter Tryz.func138,Tryz.ntmps138
 go_upto_region 1 with (fail)
 generalize (w.alloc (.cells (ecells 0 n s A F.len kc) 200))=W1 at y1 hB0 hMS hX1 ⊢
 refine zy7 ?_;clear hB0 hMS hX1 hL;intro g HB HX HM0 HL Y0 HS1
 have HBr:=J (KT.block Y0.out HB.out zb84 zb84)
 refine qr3 (fun wz=>SM x f W W1 wz) [(0,2),(1,2),(2,2),(4,2),(5,1),(3,0),(6,0)] ?_;refine qrl ?_
 refine zy38 ?_;intro yd1 MD1 K hK
 go_wp2_with fail
 refine (free_any x.B x.N x.mb x.wm x.sm x.em f x.p x.c x.b W (L) tw _ (MD1.out) ⟨h0,by omega⟩ ⟨ht0,by omega⟩).mono ?_
 rintro e wf ⟨rfl,rfl⟩
 refine hK.out _ _ (fun _=>⟨yd1,_,(MD1.out)⟩) ?_
 clear hK K
 refine zy23 ?_;intro K hK
 go_wp2_with fail
 refine (put_any x.B x.N x.mb x.wm x.sm x.em f x.p x.c x.b W (L) ⟨1,fr x.b tw,n,0⟩ ⟨(i64_small (n:=1) zb84),(fr_ok h0 h1 ht0 zb85),HX.out.n_,(i64_small (n:=0) zb84)⟩ (by have:=HL.out;omega) _ (MD1.out)).mono ?_
 exact zz58
set_option maxRecDepth 100000 in
theorem name_any (x:Mst) (f:Nat) (W:Wd) (hM:Mok x W) (κ:Kn) (n:Int) (s:Str) (A:Option Addr) (kc:Nat) (F:EF) (tw:Int) (L:List Ins) (w:World) (h:x.at w f W L) (hX:Ex w x.N κ 1 n s A F tw) (hL:L.length+(cX x W 1 n s F tw).length≤4000) :
 Calls Tryz.prog 139 #[.pointer (some ⟨x.mb,0,none⟩),.agg (ecells 1 n s A F.len kc),.int .i64 tw] w fun e w'=>e=.returned (.tuple #[])∧x.at w' f W (L ++ cX x W 1 n s F tw)∧KT x.B x.wm w w':=by
 obtain ⟨h0,h1,h2,h3⟩:=hM
 have ht0:=hX.t0
 have ht1:=hX.t1
 have y1:Ext w (w.alloc (.cells (ecells 1 n s A F.len kc) 200)):=(kR _ w).alloc _
 have hB0:=bN w 200 (ecells 1 n s A F.len kc)
 refine zy30 ?_;intro hMS hX1
 have HNB:=J (And.intro h.hN h.hB)
 clear h hX
 go_enter Tryz.func139,Tryz.ntmps139
 go_upto_region 1 with (fail)
 generalize (w.alloc (.cells (ecells 1 n s A F.len kc) 200))=W1 at y1 hB0 hMS hX1 ⊢
 refine zy7 ?_;clear hB0 hMS hX1 hL;intro g HB HX HM0 HL Y0 HS1
 have hWs:i64ok (W s):=by have:=h2 s;have:=h3 s;unfold i64ok;omega
 have HBr:=J (KT.block Y0.out HB.out zb84 zb84)
 refine qr3 (fun wz=>SM x f W W1 wz) [(0,2),(1,2),(2,2),(4,2),(5,2),(6,2),(7,1),(8,2),(9,1),(10,1),(3,0),(11,0)] ?_;refine qrl ?_
 refine zy38 ?_;intro yd1 MD1 K hK
 go_wp2_with fail
 refine (free_any x.B x.N x.mb x.wm x.sm x.em f x.p x.c x.b W (L) tw _ (MD1.out) ⟨h0,by omega⟩ ⟨ht0,by omega⟩).mono ?_
 rintro e wf ⟨rfl,rfl⟩
 refine hK.out _ _ (fun _=>⟨yd1,_,(MD1.out)⟩) ?_
 clear hK K
 refine zy23 ?_;intro K hK
 go_wp2_with fail
 refine (put_any x.B x.N x.mb x.wm x.sm x.em f x.p x.c x.b W (L) ⟨2,fr x.b tw,W s,0⟩ ⟨(i64_small (n:=2) zb84),(fr_ok h0 h1 ht0 zb85),hWs,(i64_small (n:=0) zb84)⟩ (by have:=HL.out;omega) _ (MD1.out)).mono ?_
 exact zz58
set_option maxRecDepth 100000 in
theorem not_any (x:Mst) (f:Nat) (W:Wd) (hM:Mok x W) (κ:Kn) (n:Int) (s:Str) (A:Option Addr) (kc:Nat) (F:EF) (tw:Int) (L:List Ins) (w:World) (h:x.at w f W L) (hX:Ex w x.N κ 4 n s A F tw) (hL:L.length+(cX x W 4 n s F tw).length≤4000) (hK:AllK x f W κ F) :
 Calls Tryz.prog 142 #[.pointer (some ⟨x.mb,0,none⟩),.agg (ecells 4 n s A F.len kc),.int .i64 tw] w fun e w'=>e=.returned (.tuple #[])∧x.at w' f W (L ++ cX x W 4 n s F tw)∧KT x.B x.wm w w':=by
 obtain ⟨h0,h1,h2,h3⟩:=hM
 have ht0:=hX.t0
 have ht1:=hX.t1
 have y1:Ext w (w.alloc (.cells (ecells 4 n s A F.len kc) 200)):=(kR _ w).alloc _
 have hB0:=bN w 200 (ecells 4 n s A F.len kc)
 refine zy30 ?_;intro hMS hX1
 have HNB:=J (And.intro h.hN h.hB)
 have hl0:0 < F.len:=by rw [head_len hX.head];decide
 have hd0:=hX.t1
 obtain ⟨o0,n0,s0,K0,A0,c0,kb0,ko0,ka0,kl0,kh0,kg0,kx0,ke0,kc0⟩:=kid_at hK hX.kids hX.chk (tw:=tw) hX.t0 zb85 (j:=0) hl0
 refine zy14 ?_;clear kh0 kg0 kx0 ke0 kc0 kl0;intro KH0 KG0 KX0 KE0 KC0 KL0
 have HCX:=J (show cX x W 4 n s F tw=cX x W o0 n0 s0 K0 tw ++ [⟨14,fr x.b tw,fr x.b tw,0⟩] from by rw [cX,cE];rw [if_neg zb84,if_neg zb84,if_neg zb84,if_neg zb84,if_pos rfl,KC0.out])
 subst ka0
 have hlI:(0:Int) < F.len:=by omega
 clear h hX
 go_enter Tryz.func142,Tryz.ntmps142
 go_upto_region 1 with (fail)
 generalize (w.alloc (.cells (ecells 4 n s (some ⟨kb0,ko0,none⟩) F.len kc) 200))=W1 at y1 hB0 hMS hX1 ⊢
 refine zy7 ?_;clear hB0 hMS hX1 hL;intro g HB HX HM0 HL Y0 HS1
 refine zy97 ?_;intro q0 i1 i2
 obtain ⟨_,_,_,m0,_⟩:=(HM0.out).blk
 refine zy45 ?_;intro m1 m0 u0a u0b u0c
 go_wp2_with fail
 refine (KE0.out o0 n0 s0 A0 c0 tw (L) _ (HM0.out) (KX0.out.kt ((KT.ext y1).trans Y0.out) HNB.out.1 HNB.out.2) zb19).mono ?_
 refine zy39 ?_;intro w1 YK1 HM1 HKK1
 clear u0a u0b u0c
 clear q0 i1 i2 m0 m1
 have q0:=KT.block YK1.out HB.out zb84 zb84
 have i1:=bC q0
 have i2:=q0.lt
 obtain ⟨_,_,_,m0,_⟩:=(HM1.out).blk
 have m1:=m0.lt
 have m0:=bC m0
 go_wp2_with fail
 refine (free_any x.B x.N x.mb x.wm x.sm x.em f x.p x.c x.b W (L ++ cX x W o0 n0 s0 K0 tw) tw _ (HM1.out) ⟨h0,by omega⟩ ⟨ht0,by omega⟩).mono ?_
 rintro e wf ⟨rfl,rfl⟩
 go_wp2_with fail
 refine (free_any x.B x.N x.mb x.wm x.sm x.em f x.p x.c x.b W (L ++ cX x W o0 n0 s0 K0 tw) tw _ (HM1.out) ⟨h0,by omega⟩ ⟨ht0,by omega⟩).mono ?_
 rintro e wf ⟨rfl,rfl⟩
 go_wp2_with fail
 refine (put_any x.B x.N x.mb x.wm x.sm x.em f x.p x.c x.b W (L ++ cX x W o0 n0 s0 K0 tw) ⟨14,fr x.b tw,fr x.b tw,0⟩ ⟨(i64_small (n:=14) zb84),(fr_ok h0 h1 ht0 zb85),(fr_ok h0 h1 ht0 zb85),(i64_small (n:=0) zb84)⟩ zb19 _ (HM1.out)).mono ?_
 refine zy68 ?_;intro w2 YK2 HM2 HKK2
 go_wp2_with fail
 go_end0
 refine ⟨rfl,?_,(KT.ext y1).trans YK2.out⟩
 rw [HCX.out,← List.append_assoc]
 exact (HM2.out)
set_option maxRecDepth 100000 in
theorem neg_any (x:Mst) (f:Nat) (W:Wd) (hM:Mok x W) (κ:Kn) (n:Int) (s:Str) (A:Option Addr) (kc:Nat) (F:EF) (tw:Int) (L:List Ins) (w:World) (h:x.at w f W L) (hX:Ex w x.N κ 3 n s A F tw) (hL:L.length+(cX x W 3 n s F tw).length≤4000) (hK:AllK x f W κ F) :
 Calls Tryz.prog 141 #[.pointer (some ⟨x.mb,0,none⟩),.agg (ecells 3 n s A F.len kc),.int .i64 tw] w fun e w'=>e=.returned (.tuple #[])∧x.at w' f W (L ++ cX x W 3 n s F tw)∧KT x.B x.wm w w':=by
 obtain ⟨h0,h1,h2,h3⟩:=hM
 have ht0:=hX.t0
 have ht1:=hX.t1
 have y1:Ext w (w.alloc (.cells (ecells 3 n s A F.len kc) 200)):=(kR _ w).alloc _
 have hB0:=bN w 200 (ecells 3 n s A F.len kc)
 refine zy30 ?_;intro hMS hX1
 have HNB:=J (And.intro h.hN h.hB)
 have hl0:0 < F.len:=by rw [head_len hX.head];decide
 have hd0:=hX.t1
 obtain ⟨o0,n0,s0,K0,A0,c0,kb0,ko0,ka0,kl0,kh0,kg0,kx0,ke0,kc0⟩:=kid_at hK hX.kids hX.chk (tw:=tw) hX.t0 zb85 (j:=0) hl0
 refine zy14 ?_;clear kh0 kg0 kx0 ke0 kc0 kl0;intro KH0 KG0 KX0 KE0 KC0 KL0
 have HCX:=J (show cX x W 3 n s F tw=cX x W o0 n0 s0 K0 tw ++ [⟨1,fr x.b (tw+1),0,0⟩] ++ [⟨4,fr x.b tw,fr x.b (tw+1),fr x.b tw⟩] from by rw [cX,cE];rw [if_neg zb84,if_neg zb84,if_neg zb84,if_pos rfl,KC0.out,List.append_assoc];rfl)
 subst ka0
 have hlI:(0:Int) < F.len:=by omega
 clear h hX
 go_enter Tryz.func141,Tryz.ntmps141
 go_upto_region 1 with (fail)
 generalize (w.alloc (.cells (ecells 3 n s (some ⟨kb0,ko0,none⟩) F.len kc) 200))=W1 at y1 hB0 hMS hX1 ⊢
 refine zy7 ?_;clear hB0 hMS hX1 hL;intro g HB HX HM0 HL Y0 HS1
 refine zy97 ?_;intro q0 i1 i2
 obtain ⟨_,_,_,m0,_⟩:=(HM0.out).blk
 refine zy45 ?_;intro m1 m0 u0a u0b u0c
 go_wp2_with fail
 refine (KE0.out o0 n0 s0 A0 c0 tw (L) _ (HM0.out) (KX0.out.kt ((KT.ext y1).trans Y0.out) HNB.out.1 HNB.out.2) zb19).mono ?_
 refine zy39 ?_;intro w1 YK1 HM1 HKK1
 clear u0a u0b u0c
 clear q0 i1 i2 m0 m1
 have q0:=KT.block YK1.out HB.out zb84 zb84
 have i1:=bC q0
 have i2:=q0.lt
 obtain ⟨_,_,_,m0,_⟩:=(HM1.out).blk
 have m1:=m0.lt
 have m0:=bC m0
 go_wp2_with fail
 refine (free_any x.B x.N x.mb x.wm x.sm x.em f x.p x.c x.b W (L ++ cX x W o0 n0 s0 K0 tw) (tw+1) _ (HM1.out) ⟨h0,by omega⟩ ⟨by omega,by omega⟩).mono ?_
 rintro e wf ⟨rfl,rfl⟩
 go_wp2_with fail
 refine (put_any x.B x.N x.mb x.wm x.sm x.em f x.p x.c x.b W (L ++ cX x W o0 n0 s0 K0 tw) ⟨1,fr x.b (tw+1),0,0⟩ ⟨(i64_small (n:=1) zb84),(fr_ok h0 h1 (i:=tw+1) zb85 zb85),(i64_small (n:=0) zb84),(i64_small (n:=0) zb84)⟩ zb19 _ (HM1.out)).mono ?_
 refine zy68 ?_;intro w2 YK2 HM2 HKK2
 clear q0 i1 i2 m0 m1
 have q0:=KT.block YK2.out HB.out zb84 zb84
 have i1:=bC q0
 have i2:=q0.lt
 obtain ⟨_,_,_,m0,_⟩:=(HM2.out).blk
 have m1:=m0.lt
 have m0:=bC m0
 go_wp2_with fail
 refine (free_any x.B x.N x.mb x.wm x.sm x.em f x.p x.c x.b W (L ++ cX x W o0 n0 s0 K0 tw ++ [⟨1,fr x.b (tw+1),0,0⟩]) tw _ (HM2.out) ⟨h0,by omega⟩ ⟨ht0,by omega⟩).mono ?_
 rintro e wf ⟨rfl,rfl⟩
 go_wp2_with fail
 refine (free_any x.B x.N x.mb x.wm x.sm x.em f x.p x.c x.b W (L ++ cX x W o0 n0 s0 K0 tw ++ [⟨1,fr x.b (tw+1),0,0⟩]) (tw+1) _ (HM2.out) ⟨h0,by omega⟩ ⟨by omega,by omega⟩).mono ?_
 rintro e wf ⟨rfl,rfl⟩
 go_wp2_with fail
 refine (free_any x.B x.N x.mb x.wm x.sm x.em f x.p x.c x.b W (L ++ cX x W o0 n0 s0 K0 tw ++ [⟨1,fr x.b (tw+1),0,0⟩]) tw _ (HM2.out) ⟨h0,by omega⟩ ⟨ht0,by omega⟩).mono ?_
 rintro e wf ⟨rfl,rfl⟩
 go_wp2_with fail
 refine (put_any x.B x.N x.mb x.wm x.sm x.em f x.p x.c x.b W (L ++ cX x W o0 n0 s0 K0 tw ++ [⟨1,fr x.b (tw+1),0,0⟩]) ⟨4,fr x.b tw,fr x.b (tw+1),fr x.b tw⟩ ⟨(i64_small (n:=4) zb84),(fr_ok h0 h1 ht0 zb85),(fr_ok h0 h1 (i:=tw+1) zb85 zb85),(fr_ok h0 h1 ht0 zb85)⟩ zb19 _ (HM2.out)).mono ?_
 refine zy92 ?_;intro w3 YK3 HM3 HKK3
 go_wp2_with fail
 go_end0
 refine ⟨rfl,?_,(KT.ext y1).trans YK3.out⟩
 rw [HCX.out,← List.append_assoc,← List.append_assoc]
 exact (HM3.out)
open Go.RowKit So Mc
def twoF (t:Int):Option Value:=if 5≤t∧t≤17 then some (.int .i64 (twoOp t)) else none
set_option maxRecDepth 100000 in
theorem ctwos_any (w:World):Calls Tryz.prog 177 #[] w fun e w'=>e=.returned (.map (some w.heap.size))∧IMap w' w.heap.size twoF∧Ext w w':=by
 have hmm:=@run_makeMap Tryz.prog
 have hu:Tryz.prog.underlying 225=some (.map 3 _):=Tryz.underlying225
 refine zy50 ?_;intro b0 y0
 go_enter Tryz.func177,Tryz.ntmps177
 go_upto_region 1 with (fail)
 go_step
 iterate 1 refine qls ?_
 obtain ⟨w1,r1,b1,k1⟩:=IMap.put b0 hu Tryz.underlying3 (5) (.int .i64 5)
 have y1:=y0.trans' k1 (fun i hi e=>by omega)
 refine Mc.wpList_ins rfl 225 (.tmp 1) (.const (.int .i64 5)) (.const (.int .i64 5)) rfl rfl rfl rfl rfl r1 ?_
 clear r1 k1 b0 y0
 obtain ⟨w2,r2,b2,k2⟩:=IMap.put b1 hu Tryz.underlying3 (6) (.int .i64 6)
 have y2:=y1.trans' k2 (fun i hi e=>by omega)
 refine Mc.wpList_ins rfl 225 (.tmp 1) (.const (.int .i64 6)) (.const (.int .i64 6)) rfl rfl rfl rfl rfl r2 ?_
 clear r2 k2 b1 y1
 obtain ⟨w3,r3,b3,k3⟩:=IMap.put b2 hu Tryz.underlying3 (7) (.int .i64 7)
 have y3:=y2.trans' k3 (fun i hi e=>by omega)
 refine Mc.wpList_ins rfl 225 (.tmp 1) (.const (.int .i64 7)) (.const (.int .i64 7)) rfl rfl rfl rfl rfl r3 ?_
 clear r3 k3 b2 y2
 obtain ⟨w4,r4,b4,k4⟩:=IMap.put b3 hu Tryz.underlying3 (8) (.int .i64 3)
 have y4:=y3.trans' k4 (fun i hi e=>by omega)
 refine Mc.wpList_ins rfl 225 (.tmp 1) (.const (.int .i64 8)) (.const (.int .i64 3)) rfl rfl rfl rfl rfl r4 ?_
 clear r4 k4 b3 y3
 obtain ⟨w5,r5,b5,k5⟩:=IMap.put b4 hu Tryz.underlying3 (9) (.int .i64 4)
 have y5:=y4.trans' k5 (fun i hi e=>by omega)
 refine Mc.wpList_ins rfl 225 (.tmp 1) (.const (.int .i64 9)) (.const (.int .i64 4)) rfl rfl rfl rfl rfl r5 ?_
 clear r5 k5 b4 y4
 obtain ⟨w6,r6,b6,k6⟩:=IMap.put b5 hu Tryz.underlying3 (10) (.int .i64 8)
 have y6:=y5.trans' k6 (fun i hi e=>by omega)
 refine Mc.wpList_ins rfl 225 (.tmp 1) (.const (.int .i64 10)) (.const (.int .i64 8)) rfl rfl rfl rfl rfl r6 ?_
 clear r6 k6 b5 y5
 obtain ⟨w7,r7,b7,k7⟩:=IMap.put b6 hu Tryz.underlying3 (11) (.int .i64 9)
 have y7:=y6.trans' k7 (fun i hi e=>by omega)
 refine Mc.wpList_ins rfl 225 (.tmp 1) (.const (.int .i64 11)) (.const (.int .i64 9)) rfl rfl rfl rfl rfl r7 ?_
 clear r7 k7 b6 y6
 obtain ⟨w8,r8,b8,k8⟩:=IMap.put b7 hu Tryz.underlying3 (12) (.int .i64 10)
 have y8:=y7.trans' k8 (fun i hi e=>by omega)
 refine Mc.wpList_ins rfl 225 (.tmp 1) (.const (.int .i64 12)) (.const (.int .i64 10)) rfl rfl rfl rfl rfl r8 ?_
 clear r8 k8 b7 y7
 obtain ⟨w9,r9,b9,k9⟩:=IMap.put b8 hu Tryz.underlying3 (13) (.int .i64 11)
 have y9:=y8.trans' k9 (fun i hi e=>by omega)
 refine Mc.wpList_ins rfl 225 (.tmp 1) (.const (.int .i64 13)) (.const (.int .i64 11)) rfl rfl rfl rfl rfl r9 ?_
 clear r9 k9 b8 y8
 obtain ⟨w10,r10,b10,k10⟩:=IMap.put b9 hu Tryz.underlying3 (14) (.int .i64 10)
 have y10:=y9.trans' k10 (fun i hi e=>by omega)
 refine Mc.wpList_ins rfl 225 (.tmp 1) (.const (.int .i64 14)) (.const (.int .i64 10)) rfl rfl rfl rfl rfl r10 ?_
 clear r10 k10 b9 y9
 obtain ⟨w11,r11,b11,k11⟩:=IMap.put b10 hu Tryz.underlying3 (15) (.int .i64 11)
 have y11:=y10.trans' k11 (fun i hi e=>by omega)
 refine Mc.wpList_ins rfl 225 (.tmp 1) (.const (.int .i64 15)) (.const (.int .i64 11)) rfl rfl rfl rfl rfl r11 ?_
 clear r11 k11 b10 y10
 obtain ⟨w12,r12,b12,k12⟩:=IMap.put b11 hu Tryz.underlying3 (16) (.int .i64 12)
 have y12:=y11.trans' k12 (fun i hi e=>by omega)
 refine Mc.wpList_ins rfl 225 (.tmp 1) (.const (.int .i64 16)) (.const (.int .i64 12)) rfl rfl rfl rfl rfl r12 ?_
 clear r12 k12 b11 y11
 obtain ⟨w13,r13,b13,k13⟩:=IMap.put b12 hu Tryz.underlying3 (17) (.int .i64 13)
 have y13:=y12.trans' k13 (fun i hi e=>by omega)
 refine Mc.wpList_ins rfl 225 (.tmp 1) (.const (.int .i64 17)) (.const (.int .i64 13)) rfl rfl rfl rfl rfl r13 ?_
 clear r13 k13 b12 y12
 go_wp2_with fail
 go_ret
 refine ⟨rfl,IMap.cong b13 (fun t=>?_),y13⟩
 by_cases h:t=5 ∨ t=6 ∨ t=7 ∨ t=8 ∨ t=9 ∨ t=10 ∨ t=11 ∨ t=12 ∨ t=13 ∨ t=14 ∨ t=15 ∨ t=16 ∨ t=17
 ·rcases h with rfl | rfl | rfl | rfl | rfl | rfl | rfl | rfl | rfl | rfl | rfl | rfl | rfl <;> rfl
 ·unfold twoF
  rw [if_neg (show ¬ t=17 by omega),if_neg (show ¬ t=16 by omega),if_neg (show ¬ t=15 by omega),if_neg (show ¬ t=14 by omega),if_neg (show ¬ t=13 by omega),if_neg (show ¬ t=12 by omega),if_neg (show ¬ t=11 by omega),if_neg (show ¬ t=10 by omega),if_neg (show ¬ t=9 by omega),if_neg (show ¬ t=8 by omega),if_neg (show ¬ t=7 by omega),if_neg (show ¬ t=6 by omega),if_neg (show ¬ t=5 by omega)]
  rw [if_neg zb85]
set_option maxRecDepth 100000 in
theorem exprs_tab (w:World):Calls Tryz.prog 83 #[] w fun e w'=>e=.returned (.map (some w.heap.size))∧IMap w' w.heap.size exprF∧Ext w w':=by
 have hmm:=@run_makeMap Tryz.prog
 have hu:Tryz.prog.underlying 157=some (.map 3 _):=Tryz.underlying157
 refine zy50 ?_;intro b0 y0
 go_enter Tryz.func83,Tryz.ntmps83
 go_upto_region 1 with (fail)
 go_step
 iterate 1 refine qls ?_
 obtain ⟨w1,r1,b1,k1⟩:=IMap.put b0 hu Tryz.underlying3 (0) (.func (.func 138) #[] #[])
 have y1:=y0.trans' k1 (fun i hi e=>by omega)
 refine Mc.wpList_ins rfl 157 (.tmp 1) (.const (.int .i64 0)) (.func 138) rfl rfl rfl rfl rfl r1 ?_
 clear r1 k1 b0 y0
 obtain ⟨w2,r2,b2,k2⟩:=IMap.put b1 hu Tryz.underlying3 (1) (.func (.func 139) #[] #[])
 have y2:=y1.trans' k2 (fun i hi e=>by omega)
 refine Mc.wpList_ins rfl 157 (.tmp 1) (.const (.int .i64 1)) (.func 139) rfl rfl rfl rfl rfl r2 ?_
 clear r2 k2 b1 y1
 obtain ⟨w3,r3,b3,k3⟩:=IMap.put b2 hu Tryz.underlying3 (2) (.func (.func 140) #[] #[])
 have y3:=y2.trans' k3 (fun i hi e=>by omega)
 refine Mc.wpList_ins rfl 157 (.tmp 1) (.const (.int .i64 2)) (.func 140) rfl rfl rfl rfl rfl r3 ?_
 clear r3 k3 b2 y2
 obtain ⟨w4,r4,b4,k4⟩:=IMap.put b3 hu Tryz.underlying3 (3) (.func (.func 141) #[] #[])
 have y4:=y3.trans' k4 (fun i hi e=>by omega)
 refine Mc.wpList_ins rfl 157 (.tmp 1) (.const (.int .i64 3)) (.func 141) rfl rfl rfl rfl rfl r4 ?_
 clear r4 k4 b3 y3
 obtain ⟨w5,r5,b5,k5⟩:=IMap.put b4 hu Tryz.underlying3 (4) (.func (.func 142) #[] #[])
 have y5:=y4.trans' k5 (fun i hi e=>by omega)
 refine Mc.wpList_ins rfl 157 (.tmp 1) (.const (.int .i64 4)) (.func 142) rfl rfl rfl rfl rfl r5 ?_
 clear r5 k5 b4 y4
 obtain ⟨w6,r6,b6,k6⟩:=IMap.put b5 hu Tryz.underlying3 (14) (.func (.func 143) #[] #[])
 have y6:=y5.trans' k6 (fun i hi e=>by omega)
 refine Mc.wpList_ins rfl 157 (.tmp 1) (.const (.int .i64 14)) (.func 143) rfl rfl rfl rfl rfl r6 ?_
 clear r6 k6 b5 y5
 obtain ⟨w7,r7,b7,k7⟩:=IMap.put b6 hu Tryz.underlying3 (15) (.func (.func 143) #[] #[])
 have y7:=y6.trans' k7 (fun i hi e=>by omega)
 refine Mc.wpList_ins rfl 157 (.tmp 1) (.const (.int .i64 15)) (.func 143) rfl rfl rfl rfl rfl r7 ?_
 clear r7 k7 b6 y6
 go_wp2_with fail
 go_ret
 refine ⟨rfl,IMap.cong b7 (fun t=>?_),y7⟩
 by_cases h:t=0 ∨ t=1 ∨ t=2 ∨ t=3 ∨ t=4 ∨ t=14 ∨ t=15
 ·rcases h with rfl | rfl | rfl | rfl | rfl | rfl | rfl <;> rfl
 ·unfold exprF
  rw [if_neg (show ¬ t=15 by omega),if_neg (show ¬ t=14 by omega),if_neg (show ¬ t=4 by omega),if_neg (show ¬ t=3 by omega),if_neg (show ¬ t=2 by omega),if_neg (show ¬ t=1 by omega),if_neg (show ¬ t=0 by omega)]
  rw [if_neg (show ¬ t=0 by omega),if_neg (show ¬ t=1 by omega),if_neg (show ¬ t=2 by omega),if_neg (show ¬ t=3 by omega),if_neg (show ¬ t=4 by omega),if_neg (show ¬ (t=14 ∨ t=15) by omega)]
set_option maxRecDepth 100000 in
theorem stmts_tab (w:World):Calls Tryz.prog 82 #[] w fun e w'=>e=.returned (.map (some w.heap.size))∧IMap w' w.heap.size stmtF∧Ext w w':=by
 have hmm:=@run_makeMap Tryz.prog
 have hu:Tryz.prog.underlying 155=some (.map 3 _):=Tryz.underlying155
 refine zy50 ?_;intro b0 y0
 go_enter Tryz.func82,Tryz.ntmps82
 go_upto_region 1 with (fail)
 go_step
 iterate 1 refine qls ?_
 obtain ⟨w1,r1,b1,k1⟩:=IMap.put b0 hu Tryz.underlying3 (0) (.func (.func 128) #[] #[])
 have y1:=y0.trans' k1 (fun i hi e=>by omega)
 refine Mc.wpList_ins rfl 155 (.tmp 1) (.const (.int .i64 0)) (.func 128) rfl rfl rfl rfl rfl r1 ?_
 clear r1 k1 b0 y0
 obtain ⟨w2,r2,b2,k2⟩:=IMap.put b1 hu Tryz.underlying3 (1) (.func (.func 129) #[] #[])
 have y2:=y1.trans' k2 (fun i hi e=>by omega)
 refine Mc.wpList_ins rfl 155 (.tmp 1) (.const (.int .i64 1)) (.func 129) rfl rfl rfl rfl rfl r2 ?_
 clear r2 k2 b1 y1
 obtain ⟨w3,r3,b3,k3⟩:=IMap.put b2 hu Tryz.underlying3 (2) (.func (.func 130) #[] #[])
 have y3:=y2.trans' k3 (fun i hi e=>by omega)
 refine Mc.wpList_ins rfl 155 (.tmp 1) (.const (.int .i64 2)) (.func 130) rfl rfl rfl rfl rfl r3 ?_
 clear r3 k3 b2 y2
 obtain ⟨w4,r4,b4,k4⟩:=IMap.put b3 hu Tryz.underlying3 (3) (.func (.func 131) #[] #[])
 have y4:=y3.trans' k4 (fun i hi e=>by omega)
 refine Mc.wpList_ins rfl 155 (.tmp 1) (.const (.int .i64 3)) (.func 131) rfl rfl rfl rfl rfl r4 ?_
 clear r4 k4 b3 y3
 obtain ⟨w5,r5,b5,k5⟩:=IMap.put b4 hu Tryz.underlying3 (4) (.func (.func 132) #[] #[])
 have y5:=y4.trans' k5 (fun i hi e=>by omega)
 refine Mc.wpList_ins rfl 155 (.tmp 1) (.const (.int .i64 4)) (.func 132) rfl rfl rfl rfl rfl r5 ?_
 clear r5 k5 b4 y4
 obtain ⟨w6,r6,b6,k6⟩:=IMap.put b5 hu Tryz.underlying3 (5) (.func (.func 133) #[] #[])
 have y6:=y5.trans' k6 (fun i hi e=>by omega)
 refine Mc.wpList_ins rfl 155 (.tmp 1) (.const (.int .i64 5)) (.func 133) rfl rfl rfl rfl rfl r6 ?_
 clear r6 k6 b5 y5
 obtain ⟨w7,r7,b7,k7⟩:=IMap.put b6 hu Tryz.underlying3 (6) (.func (.func 134) #[] #[])
 have y7:=y6.trans' k7 (fun i hi e=>by omega)
 refine Mc.wpList_ins rfl 155 (.tmp 1) (.const (.int .i64 6)) (.func 134) rfl rfl rfl rfl rfl r7 ?_
 clear r7 k7 b6 y6
 obtain ⟨w8,r8,b8,k8⟩:=IMap.put b7 hu Tryz.underlying3 (7) (.func (.func 135) #[] #[])
 have y8:=y7.trans' k8 (fun i hi e=>by omega)
 refine Mc.wpList_ins rfl 155 (.tmp 1) (.const (.int .i64 7)) (.func 135) rfl rfl rfl rfl rfl r8 ?_
 clear r8 k8 b7 y7
 obtain ⟨w9,r9,b9,k9⟩:=IMap.put b8 hu Tryz.underlying3 (8) (.func (.func 136) #[] #[])
 have y9:=y8.trans' k9 (fun i hi e=>by omega)
 refine Mc.wpList_ins rfl 155 (.tmp 1) (.const (.int .i64 8)) (.func 136) rfl rfl rfl rfl rfl r9 ?_
 clear r9 k9 b8 y8
 obtain ⟨w10,r10,b10,k10⟩:=IMap.put b9 hu Tryz.underlying3 (9) (.func (.func 137) #[] #[])
 have y10:=y9.trans' k10 (fun i hi e=>by omega)
 refine Mc.wpList_ins rfl 155 (.tmp 1) (.const (.int .i64 9)) (.func 137) rfl rfl rfl rfl rfl r10 ?_
 clear r10 k10 b9 y9
 go_wp2_with fail
 go_ret
 refine ⟨rfl,IMap.cong b10 (fun t=>?_),y10⟩
 by_cases h:t=0 ∨ t=1 ∨ t=2 ∨ t=3 ∨ t=4 ∨ t=5 ∨ t=6 ∨ t=7 ∨ t=8 ∨ t=9
 ·rcases h with rfl | rfl | rfl | rfl | rfl | rfl | rfl | rfl | rfl | rfl <;> rfl
 ·unfold stmtF
  rw [if_neg (show ¬ t=9 by omega),if_neg (show ¬ t=8 by omega),if_neg (show ¬ t=7 by omega),if_neg (show ¬ t=6 by omega),if_neg (show ¬ t=5 by omega),if_neg (show ¬ t=4 by omega),if_neg (show ¬ t=3 by omega),if_neg (show ¬ t=2 by omega),if_neg (show ¬ t=1 by omega),if_neg (show ¬ t=0 by omega)]
  exact zz59
open Go.RowKit So Mc
theorem MS.wmlt {w:World} {B N mb wm sm em f:Nat} {p:Pr} {c:Pc} {b:Int} {W:Wd} {L:List Ins} (h:MS w B N mb p c b wm sm em f W L):wm < w.heap.size:=by
 obtain ⟨F,h3,_⟩:=h.words
 exact h3.lt
theorem look_two {w:World} {g:Nat} (h:IMap w g twoF) (op:Int) (ho:5≤op∧op≤17):(Instr.lookup 225 (.map (some g)) (.int .i64 op) false).run Tryz.prog w=.ok (.int .i64 (twoOp op)) w:=by
 have hlk:=IMap.look (P:=Tryz.prog) h Tryz.underlying225 Tryz.underlying3 (z:=.int .i64 0) (fun w=>by kernel_rfl) op
 rw [hlk]
 unfold twoF
 rw [if_pos ho]
 rfl
theorem wrap_i64 {n:Int} (h:i64ok n):IntKind.i64.wrap n=n:=by
 unfold i64ok at h
 simp only [IntKind.wrap,IntKind.signed,IntKind.bits]
 simp
 omega
def ST (x:Mst) (f:Nat) (W:Wd) (w1 w2:World):Prop:=SM x f W w1 w2∧IMap w2 w1.heap.size twoF
set_option maxRecDepth 100000 in
theorem two_any (x:Mst) (f:Nat) (W:Wd) (hM:Mok x W) (κ:Kn) (op:Int) (hop:5≤op∧op≤17) (o0 n0:Int) (s0:Str) (A0:Option Addr) (c0:Nat) (K0:EF) (o1 n1:Int) (s1:Str) (A1:Option Addr) (c1:Nat) (K1:EF) (tw:Int) (ht0:0≤tw) (ht1:tw≤100)
 (L:List Ins) (w:World) (h:x.at w f W L) (X0:Ex w x.N κ o0 n0 s0 A0 K0 tw) (X1:Ex w x.N κ o1 n1 s1 A1 K1 (tw+1)) (E0:ExM x f W κ K0) (E1:ExM x f W κ K1) (hL:L.length+(cX x W o0 n0 s0 K0 tw).length+(cX x W o1 n1 s1 K1 (tw+1)).length+1≤4000) :
 Calls Tryz.prog 168 #[.pointer (some ⟨x.mb,0,none⟩),.int .i64 op,.agg (ecells o0 n0 s0 A0 K0.len c0),.agg (ecells o1 n1 s1 A1 K1.len c1),.int .i64 tw] w fun e w'=>e=.returned (.tuple #[])∧x.at w' f W (L ++ cX x W o0 n0 s0 K0 tw ++ cX x W o1 n1 s1 K1 (tw+1) ++ [⟨twoOp op,fr x.b tw,fr x.b tw,fr x.b (tw+1)⟩])∧KT x.B x.wm w w':=by
 obtain ⟨h0,h1,h2,h3⟩:=hM
 have y1:Ext w ((w.alloc (.cells (ecells o0 n0 s0 A0 K0.len c0) 200)).alloc (.cells (ecells o1 n1 s1 A1 K1.len c1) 200)):=((kR _ w).alloc _).alloc _
 have hB0:=Blk.alloc (bN w 200 (ecells o0 n0 s0 A0 K0.len c0)) (.cells (ecells o1 n1 s1 A1 K1.len c1) 200)
 have hB1:=Blk.new' (w.alloc (.cells (ecells o0 n0 s0 A0 K0.len c0) 200)) 200 (ecells o1 n1 s1 A1 K1.len c1) (w.heap.size+1) zb86
 have hMS:=h.ext y1
 have HX0:=J X0
 have HX1:=J X1
 have HE0:=J E0
 have HE1:=J E1
 have HNB:=J (And.intro h.hN h.hB)
 have HL:=J hL
 have hbd:=twoOp_bd hop
 have HOP:=J hop
 clear h X0 X1 E0 E1 hL hop
 obtain ⟨b0,hb0⟩:∃ b0,b0=w.heap.size:=⟨_,rfl⟩
 obtain ⟨b1,hb1⟩:∃ b1,b1=w.heap.size+1:=⟨_,rfl⟩
 rw [← hb0] at hB0
 rw [← hb1] at hB1
 have HB0:=J hb0
 have HB1:=J hb1
 clear hb0 hb1
 go_enter Tryz.func168,Tryz.ntmps168
 go_upto_region 1 with (fail)
 rw [← HB1.out,← HB0.out]
 generalize ((w.alloc (.cells (ecells o0 n0 s0 A0 K0.len c0) 200)).alloc (.cells (ecells o1 n1 s1 A1 K1.len c1) 200))=W1 at y1 hB0 hB1 hMS ⊢
 have HA:=J hB0
 have HB:=J hB1
 have HM:=J hMS
 have i1:=bH hB0
 have i2:=bG hB0
 have i3:=hB0.lt
 clear hB0 hB1 hMS
 go_wp2_with fail
 refine (HE0.out o0 n0 s0 A0 c0 tw L _ HM.out (HX0.out.kt (KT.ext (B:=x.B) (wm:=x.wm) y1) HNB.out.1 HNB.out.2) (by have:=HL.out;omega)).mono ?_
 rintro e w2 ⟨rfl,hm2,hk2⟩
 have HM2:=J hm2
 have HY2:=J hk2
 clear i1 i2 i3 hm2 hk2
 have q1:=KT.block HY2.out HB.out zb84 zb84
 have i1:=bH q1
 have i2:=bG q1
 have i3:=q1.lt
 go_wp2_with fail
 refine (HE1.out o1 n1 s1 A1 c1 (tw+1) _ _ HM2.out (HX1.out.kt ((KT.ext (B:=x.B) (wm:=x.wm) y1).trans HY2.out) HNB.out.1 HNB.out.2) (by have:=HL.out;rw [List.length_append];omega)).mono ?_
 rintro e w3 ⟨rfl,hm3,hk3⟩
 have HM3:=J hm3
 have HY3:=J (HY2.out.trans hk3)
 clear i1 i2 i3 hm3 hk3 q1
 go_upto_region 3 with (fail)
 have hwl:x.wm < w3.heap.size:=HM3.out.wmlt
 refine qr3 (fun w2=>ST x f W w3 w2) [(0,2),(2,2),(4,2),(5,2),(7,2),(8,2),(10,2),(11,2),(12,2),(1,0),(3,1),(6,0),(9,0),(13,0),(14,0)] ?_;refine qrl ?_
 refine zy23 ?_;intro K hK
 go_wp2_with fail
 refine (ctwos_any _).mono ?_
 rintro e w4 ⟨rfl,hm4,hx4⟩
 have y4:Ext w3 w4:=Kept.trans (Kept.drew (kR _ _)) hx4
 have hS4:ST x f W w3 w4:=⟨⟨KT.ext y4,_,HM3.out.ext y4⟩,hm4⟩
 refine hK.out _ _ (fun _=>hS4) ?_
 clear hK K hm4 hx4
 have HM4:=J (HM3.out.ext y4)
 (repeat first|refine qs3 ?_|refine qt3 hS4 (by intro w1 hS;have d1:=look_two hS.2 op HOP.out;exact zgo) ?_|refine qp3 hS4 ?_)
 (refine w3_act (fun K hK=>?_);go_simp)
 go_wp2_with fail
 refine (free_any x.B x.N x.mb x.wm x.sm x.em f x.p x.c x.b W _ tw _ HM4.out ⟨h0,by omega⟩ ⟨ht0,by omega⟩).mono ?_
 rintro e wf ⟨rfl,rfl⟩
 refine hK.out _ _ (fun _=>hS4) ?_
 clear hK K
 refine zy23 ?_;intro K hK
 go_wp2_with fail
 refine (free_any x.B x.N x.mb x.wm x.sm x.em f x.p x.c x.b W _ tw _ HM4.out ⟨h0,by omega⟩ ⟨ht0,by omega⟩).mono ?_
 rintro e wf ⟨rfl,rfl⟩
 refine hK.out _ _ (fun _=>hS4) ?_
 clear hK K
 refine zy23 ?_;intro K hK
 go_wp2_with fail
 rw [wrap_i64 (n:=tw+1) zb74]
 refine (free_any x.B x.N x.mb x.wm x.sm x.em f x.p x.c x.b W _ (tw+1) _ HM4.out ⟨h0,by omega⟩ ⟨by omega,by omega⟩).mono ?_
 rintro e wf ⟨rfl,rfl⟩
 refine hK.out _ _ (fun _=>hS4) ?_
 clear hK K
 refine zy23 ?_;intro K hK
 go_wp2_with fail
 refine (put_any x.B x.N x.mb x.wm x.sm x.em f x.p x.c x.b W _ ⟨twoOp op,fr x.b tw,fr x.b tw,fr x.b (tw+1)⟩ ⟨i64_small (n:=twoOp op) zb85,fr_ok h0 h1 ht0 zb85,fr_ok h0 h1 ht0 zb85,fr_ok h0 h1 zb85 zb85⟩ (by have:=HL.out;simp only [List.length_append];omega) _ HM4.out).mono ?_
 rintro e w5 ⟨rfl,hm5,hk5⟩
 refine hK.out _ _ (fun _=>⟨⟨(KT.ext y4).trans hk5,_,hm5⟩,hk5.map hS4.2 zb85⟩) ?_
 clear hK K
 refine qf3 ?_
 go_wp2_with fail
 go_end0
 refine ⟨rfl,hm5,(KT.ext y1).trans (HY3.out.trans ((KT.ext y4).trans hk5))⟩
end Go.Proofs.YtbfbabbcdochjaaGreatDoor
