/- Several texts joined: Di. -/
import Derived.Test.YtbfbabbcdochjaaGreatDoorRxpk
import Derived.Test.YtbfbabbcdochjaaGreatDoorRxay
set_option maxHeartbeats 4000000
namespace Go.Proofs.YtbfbabbcdochjaaGreatDoor
open Go.RowKit So Mc
set_option maxRecDepth 100000 in
theorem refuse_any (x:Mst) (f:Nat) (W:Wd) (hM:Mok x W) (κ:Kn) (low high:Int) (s:Str) (A:Option Addr) (ec:Nat) (F:EF) (lA:Option Addr) (ln lc:Nat) (xA:Option Addr) (xn xc:Nat) (L:List Ins) (w:World) (h:x.at w f W L) (hX:Sx w x.N κ 4 s A F low high) (hL:L.length+(cS0 x.k W L.length 4 s F low).length≤4000) :
 Calls Tryz.prog 132 #[.pointer (some ⟨x.mb,0,none⟩),.agg (scells 4 s A F.len ec low high lA ln lc xA xn xc)] w fun e w'=>e=.returned (.tuple #[])∧x.at w' f W (L ++ cS0 x.k W L.length 4 s F low)∧KT x.B x.wm w w':=by
 refine zy67 ?_;clear hM;intro hK h0 h1 h2 h3 hdp HNB
 have HCX:=J (show cS0 x.k W L.length 4 s F low=[⟨0,1,0,0⟩] from by rfl)
 have y1:Ext w (w.alloc (.cells (scells 4 s A F.len ec low high lA ln lc xA xn xc) 151)):=(kR _ w).alloc _
 have hB0:=bN w 151 (scells 4 s A F.len ec low high lA ln lc xA xn xc)
 refine zy30 ?_;intro hMS hX1
 clear h hX hK
 go_enter Tryz.func132,Tryz.ntmps132
 go_upto_region 1 with (fail)
 generalize (w.alloc (.cells (scells 4 s A F.len ec low high lA ln lc xA xn xc) 151))=W1 at y1 hB0 hMS hX1 ⊢
 refine zy7 ?_;clear hB0 hMS hX1 hL;intro g HB HX HM0 HL Y0 HS1
 go_wp2_with fail
 refine (put_any x.B x.N x.mb x.wm x.sm x.em f x.p x.c x.b W (L) ⟨0,1,0,0⟩ ⟨(i64_small (n:=0) zb84),(i64_small (n:=1) zb84),(i64_small (n:=0) zb84),(i64_small (n:=0) zb84)⟩ zb19 _ (HM0.out)).mono ?_
 refine zy39 ?_;intro w1 YK1 HM1 HKK1
 go_wp2_with fail
 go_end0
 refine ⟨rfl,?_,(KT.ext y1).trans YK1.out⟩
 rw [HCX.out]
 exact (HM1.out)
set_option maxRecDepth 100000 in
theorem over_any (x:Mst) (f:Nat) (W:Wd) (hM:Mok x W) (κ:Kn) (low high:Int) (s:Str) (A:Option Addr) (ec:Nat) (F:EF) (lA:Option Addr) (ln lc:Nat) (xA:Option Addr) (xn xc:Nat) (L:List Ins) (w:World) (h:x.at w f W L) (hX:Sx w x.N κ 7 s A F low high) (hL:L.length+(cS0 x.k W L.length 7 s F low).length≤4000) :
 Calls Tryz.prog 135 #[.pointer (some ⟨x.mb,0,none⟩),.agg (scells 7 s A F.len ec low high lA ln lc xA xn xc)] w fun e w'=>e=.returned (.tuple #[])∧x.at w' f W (L ++ cS0 x.k W L.length 7 s F low)∧KT x.B x.wm w w':=by
 refine zy67 ?_;clear hM;intro hK h0 h1 h2 h3 hdp HNB
 have HCX:=J (show cS0 x.k W L.length 7 s F low=[⟨1,x.b+4,-1,0⟩] ++ [⟨0,0,0,0⟩] from by rfl)
 have y1:Ext w (w.alloc (.cells (scells 7 s A F.len ec low high lA ln lc xA xn xc) 151)):=(kR _ w).alloc _
 have hB0:=bN w 151 (scells 7 s A F.len ec low high lA ln lc xA xn xc)
 refine zy30 ?_;intro hMS hX1
 clear h hX hK
 go_enter Tryz.func135,Tryz.ntmps135
 go_upto_region 1 with (fail)
 generalize (w.alloc (.cells (scells 7 s A F.len ec low high lA ln lc xA xn xc) 151))=W1 at y1 hB0 hMS hX1 ⊢
 refine zy7 ?_;clear hB0 hMS hX1 hL;intro g HB HX HM0 HL Y0 HS1
 refine zy97 ?_;intro q0 i1 i2
 obtain ⟨_,_,_,m0,_⟩:=(HM0.out).blk
 have m1:=m0.lt
 have m0:=bC m0
 go_wp2_with fail
 refine (put_any x.B x.N x.mb x.wm x.sm x.em f x.p x.c x.b W (L) ⟨1,x.b+4,-1,0⟩ ⟨(i64_small (n:=1) zb84),(by unfold i64ok;show _≤x.b+4∧x.b+4≤_;omega),(i64_small (n:=-1) zb84),(i64_small (n:=0) zb84)⟩ zb19 _ (HM0.out)).mono ?_
 refine zy39 ?_;intro w1 YK1 HM1 HKK1
 go_wp2_with fail
 refine (put_any x.B x.N x.mb x.wm x.sm x.em f x.p x.c x.b W (L ++ [⟨1,x.b+4,-1,0⟩]) ⟨0,0,0,0⟩ ⟨(i64_small (n:=0) zb84),(i64_small (n:=0) zb84),(i64_small (n:=0) zb84),(i64_small (n:=0) zb84)⟩ zb19 _ (HM1.out)).mono ?_
 refine zy68 ?_;intro w2 YK2 HM2 HKK2
 go_wp2_with fail
 go_end0
 refine ⟨rfl,?_,(KT.ext y1).trans YK2.out⟩
 rw [HCX.out];simp only [← List.append_assoc]
 exact (HM2.out)
set_option maxRecDepth 100000 in
theorem roll_any (x:Mst) (f:Nat) (W:Wd) (hM:Mok x W) (κ:Kn) (low high:Int) (s:Str) (A:Option Addr) (ec:Nat) (F:EF) (lA:Option Addr) (ln lc:Nat) (xA:Option Addr) (xn xc:Nat) (L:List Ins) (w:World) (h:x.at w f W L) (hX:Sx w x.N κ 5 s A F low high) (hL:L.length+(cS0 x.k W L.length 5 s F low).length≤4000) :
 Calls Tryz.prog 133 #[.pointer (some ⟨x.mb,0,none⟩),.agg (scells 5 s A F.len ec low high lA ln lc xA xn xc)] w fun e w'=>e=.returned (.tuple #[])∧x.at w' f W (L ++ cS0 x.k W L.length 5 s F low)∧KT x.B x.wm w w':=by
 refine zy67 ?_;clear hM;intro hK h0 h1 h2 h3 hdp HNB
 have hWs:i64ok (W s):=by have:=h2 s;have:=h3 s;unfold i64ok;omega
 have hw5:=wrap_i64 (n:=x.b+5) zb74
 have hw6:=wrap_i64 (n:=x.b+6) zb74
 have HCX:=J (show cS0 x.k W L.length 5 s F low=[⟨1,x.b+5,W s,0⟩] ++ [⟨1,x.b+6,low,0⟩] from by rfl)
 have y1:Ext w (w.alloc (.cells (scells 5 s A F.len ec low high lA ln lc xA xn xc) 151)):=(kR _ w).alloc _
 have hB0:=bN w 151 (scells 5 s A F.len ec low high lA ln lc xA xn xc)
 refine zy30 ?_;intro hMS hX1
 clear h hX hK
 go_enter Tryz.func133,Tryz.ntmps133
 go_upto_region 1 with (fail)
 generalize (w.alloc (.cells (scells 5 s A F.len ec low high lA ln lc xA xn xc) 151))=W1 at y1 hB0 hMS hX1 ⊢
 refine zy7 ?_;clear hB0 hMS hX1 hL;intro g HB HX HM0 HL Y0 HS1
 have HBr:=J (KT.block Y0.out HB.out zb84 zb84)
 refine qr3 (fun wz=>SM x f W W1 wz) [(0,2),(1,2),(2,2),(3,2),(4,1),(5,2),(6,2),(7,2),(8,2),(9,1),(10,2),(11,1),(12,1),(13,0)] ?_;refine qrl ?_
 refine zy38 ?_;intro yd1 MD1 K hK
 go_wp2_with fail
 refine (put_any x.B x.N x.mb x.wm x.sm x.em f x.p x.c x.b W (L) ⟨1,x.b+5,W s,0⟩ ⟨(i64_small (n:=1) zb84),(show i64ok (x.b+5) from by unfold i64ok;omega),hWs,(i64_small (n:=0) zb84)⟩ zb19 _ (MD1.out)).mono ?_
 refine zy56 ?_;clear yd1 hK K;intro w2 yk2 HM2 YR3
 clear yk2 HBr
 go_upto_region 2 with (fail)
 have HBr:=J (KT.block YR3.out HB.out zb84 zb84)
 refine qr3 (fun wz=>SM x f W w2 wz) [(0,2),(1,2),(2,2),(3,2),(4,1),(5,2),(6,2),(7,1),(8,0)] ?_;refine qrl ?_
 (repeat first|refine qs3 ?_|refine qt3 ⟨KT.ext (Kept.drew (kR _ _)),_,(HM2.out).drew⟩ zb3 ?_|refine qp3 ⟨KT.ext (Kept.drew (kR _ _)),_,(HM2.out).drew⟩ ?_)
 have yd4:KT x.B x.wm w2 w2.drew:=KT.ext (kR _ w2).drew
 have MD4:=J (HM2.out).drew
 (refine w3_act (fun K hK=>?_);go_simp)
 go_wp2_with fail
 refine (put_any x.B x.N x.mb x.wm x.sm x.em f x.p x.c x.b W (L ++ [⟨1,x.b+5,W s,0⟩]) ⟨1,x.b+6,low,0⟩ ⟨(i64_small (n:=1) zb84),(show i64ok (x.b+6) from by unfold i64ok;omega),HX.out.low_,(i64_small (n:=0) zb84)⟩ zb19 _ (MD4.out)).mono ?_
 rintro e w5 ⟨rfl,hm5,hk5⟩
 have yk5:=(yd4).trans hk5
 have HM5:=J hm5
 clear hm5 hk5 yd4
 refine hK.out _ _ (fun _=>⟨yk5,_,(HM5.out)⟩) ?_
 clear hK K
 refine qf3 ?_
 have YR6:=J ((YR3.out).trans yk5)
 clear yk5 HBr
 go_wp2_with fail
 go_end0
 refine ⟨rfl,?_,(KT.ext y1).trans YR6.out⟩
 rw [HCX.out];simp only [← List.append_assoc]
 exact (HM5.out)
set_option maxRecDepth 100000 in
theorem seat_any (x:Mst) (f:Nat) (W:Wd) (hM:Mok x W) (κ:Kn) (low high:Int) (s:Str) (A:Option Addr) (ec:Nat) (F:EF) (lA:Option Addr) (ln lc:Nat) (xA:Option Addr) (xn xc:Nat) (L:List Ins) (w:World) (h:x.at w f W L) (hX:Sx w x.N κ 6 s A F low high) (hL:L.length+(cS0 x.k W L.length 6 s F low).length≤4000) :
 Calls Tryz.prog 134 #[.pointer (some ⟨x.mb,0,none⟩),.agg (scells 6 s A F.len ec low high lA ln lc xA xn xc)] w fun e w'=>e=.returned (.tuple #[])∧x.at w' f W (L ++ cS0 x.k W L.length 6 s F low)∧KT x.B x.wm w w':=by
 refine zy67 ?_;clear hM;intro hK h0 h1 h2 h3 hdp HNB
 have hw4:=wrap_i64 (n:=x.b+4) zb74
 have hl0:0 < F.len:=by rw [hX.len];decide
 refine zy109 ?_;intro o0 n0 s0 K0 A0 c0 kb0 ko0 ka0 KH0 KG0 KX0 KE0 KC0 KL0
 subst ka0
 have hlI0:(0:Int) < F.len:=by omega
 have HCX:=J (show cS0 x.k W L.length 6 s F low=cX x W o0 n0 s0 K0 0 ++ [⟨2,x.b+4,fr x.b 0,0⟩] ++ [⟨0,0,0,0⟩] from by rw [← KC0.out];simp only [List.append_assoc];rfl)
 have y1:Ext w (w.alloc (.cells (scells 6 s (some ⟨kb0,ko0,none⟩) F.len ec low high lA ln lc xA xn xc) 151)):=(kR _ w).alloc _
 have hB0:=bN w 151 (scells 6 s (some ⟨kb0,ko0,none⟩) F.len ec low high lA ln lc xA xn xc)
 refine zy30 ?_;intro hMS hX1
 clear h hX hK
 go_enter Tryz.func134,Tryz.ntmps134
 go_upto_region 1 with (fail)
 generalize (w.alloc (.cells (scells 6 s (some ⟨kb0,ko0,none⟩) F.len ec low high lA ln lc xA xn xc) 151))=W1 at y1 hB0 hMS hX1 ⊢
 refine zy7 ?_;clear hB0 hMS hX1 hL;intro g HB HX HM0 HL Y0 HS1
 refine zy97 ?_;intro q0 i1 i2
 obtain ⟨_,_,_,m0,_⟩:=(HM0.out).blk
 refine zy45 ?_;intro m1 m0 u0a u0b u0c
 go_wp2_with fail
 refine (KE0.out o0 n0 s0 A0 c0 0 (L) _ (HM0.out) (KX0.out.kt ((KT.ext y1).trans Y0.out) HNB.out.1 HNB.out.2) zb19).mono ?_
 refine zy39 ?_;intro w1 YK1 HM1 HKK1
 clear u0a u0b u0c
 clear q0 i1 i2 m0 m1
 go_upto_region 2 with (fail)
 have HBr:=J (KT.block YK1.out HB.out zb84 zb84)
 refine qr3 (fun wz=>SM x f W w1 wz) [(0,2),(1,2),(2,2),(3,2),(4,1),(5,2),(6,2),(7,0),(8,0)] ?_;refine qrl ?_
 (repeat first|refine qs3 ?_|refine qt3 ⟨KT.ext (Kept.drew (kR _ _)),_,(HM1.out).drew⟩ zb3 ?_|refine qp3 ⟨KT.ext (Kept.drew (kR _ _)),_,(HM1.out).drew⟩ ?_)
 have yd2:KT x.B x.wm w1 w1.drew:=KT.ext (kR _ w1).drew
 have MD2:=J (HM1.out).drew
 (refine w3_act (fun K hK=>?_);go_simp)
 go_wp2_with fail
 refine (free_any x.B x.N x.mb x.wm x.sm x.em f x.p x.c x.b W (L ++ cX x W o0 n0 s0 K0 0) 0 _ (MD2.out) ⟨h0,by omega⟩ ⟨by decide,by decide⟩).mono ?_
 rintro e wf ⟨rfl,rfl⟩
 refine hK.out _ _ (fun _=>⟨yd2,_,(MD2.out)⟩) ?_
 clear hK K
 refine zy23 ?_;intro K hK
 go_wp2_with fail
 refine (put_any x.B x.N x.mb x.wm x.sm x.em f x.p x.c x.b W (L ++ cX x W o0 n0 s0 K0 0) ⟨2,x.b+4,fr x.b 0,0⟩ ⟨(i64_small (n:=2) zb84),(show i64ok (x.b+4) from by unfold i64ok;omega),(fr_ok h0 h1 (i:=0) zb84 zb84),(i64_small (n:=0) zb84)⟩ zb19 _ (MD2.out)).mono ?_
 rintro e w3 ⟨rfl,hm3,hk3⟩
 have yk3:=(yd2).trans hk3
 have HM3:=J hm3
 clear hm3 hk3 yd2
 refine hK.out _ _ (fun _=>⟨yk3,_,(HM3.out)⟩) ?_
 clear hK K
 refine qf3 ?_
 have YR4:=J ((YK1.out).trans yk3)
 clear yk3 HBr
 go_wp2_with fail
 refine (put_any x.B x.N x.mb x.wm x.sm x.em f x.p x.c x.b W (L ++ cX x W o0 n0 s0 K0 0 ++ [⟨2,x.b+4,fr x.b 0,0⟩]) ⟨0,0,0,0⟩ ⟨(i64_small (n:=0) zb84),(i64_small (n:=0) zb84),(i64_small (n:=0) zb84),(i64_small (n:=0) zb84)⟩ zb19 _ (HM3.out)).mono ?_
 rintro e w5 ⟨rfl,hm5,hk5⟩
 have YK5:=J ((YR4.out).trans hk5)
 have HM5:=J hm5
 have HKK5:=J hk5
 clear hm5 hk5
 go_wp2_with fail
 go_end0
 refine ⟨rfl,?_,(KT.ext y1).trans YK5.out⟩
 rw [HCX.out];simp only [← List.append_assoc]
 exact (HM5.out)
set_option maxRecDepth 100000 in
theorem someone_any (x:Mst) (f:Nat) (W:Wd) (hM:Mok x W) (i:Int) (hi0:0≤i) (hi1:i≤10) (L:List Ins) (w:World) (h:x.at w f W L) (hL:L.length≤4500) :
 Calls Tryz.prog 167 #[.pointer (some ⟨x.mb,0,none⟩),.int .i64 i] w fun e w'=>e=.returned (.tuple #[])∧x.at w' f W (L ++ someI x.k i)∧KT x.B x.wm w w':=by
 obtain ⟨h0,h1,h2,h3⟩:=hM
 have hse:=h.prog.seats
 have hso:=h.prog.seatsOk
 rw [← hse] at hso
 have HSE:=J hse
 have HSO:=J hso
 have hwi:=wrap_i64 (n:=i+1) zb74
 have HM0:=J h
 have Y0:=J (KT.refl x.B x.wm w)
 clear h hse hso
 go_enter Tryz.func167,Tryz.ntmps167
 go_upto_region 0 with (fail)
 refine qr3 (fun wz=>SM x f W w wz) [(0,2),(1,2),(2,2),(3,2),(5,2),(6,2),(8,2),(9,2),(10,2),(11,2),(12,1),(4,0),(7,0),(13,0)] ?_;refine qrl ?_
 (repeat first|refine qs3 ?_|refine qt3 ⟨KT.ext (Kept.drew (kR _ _)),_,(HM0.out).drew⟩ (by intro w1 hS;obtain ⟨L',hm'⟩:=hS.2;obtain ⟨A',n',cp',hb',_⟩:=hm'.blk;have d3:=bC hb';have d4:=hb'.lt;exact zgo) ?_|refine qp3 ⟨KT.ext (Kept.drew (kR _ _)),_,(HM0.out).drew⟩ ?_)
 have yd1:KT x.B x.wm w w.drew:=KT.ext (kR _ w).drew
 have MD1:=J (HM0.out).drew
 (refine w3_act (fun K hK=>?_);go_simp)
 go_wp2_with fail
 refine (free_any x.B x.N x.mb x.wm x.sm x.em f x.p x.c x.b W (L) (i+1) _ (MD1.out) ⟨h0,by omega⟩ ⟨by omega,by omega⟩).mono ?_
 rintro e wf ⟨rfl,rfl⟩
 refine hK.out _ _ (fun _=>⟨yd1,_,(MD1.out)⟩) ?_
 clear hK K
 refine zy23 ?_;intro K hK
 go_wp2_with fail
 refine (free_any x.B x.N x.mb x.wm x.sm x.em f x.p x.c x.b W (L) i _ (MD1.out) ⟨h0,by omega⟩ ⟨hi0,by omega⟩).mono ?_
 rintro e wf ⟨rfl,rfl⟩
 refine hK.out _ _ (fun _=>⟨yd1,_,(MD1.out)⟩) ?_
 clear hK K
 refine zy23 ?_;intro K hK
 go_wp2_with fail
 refine (put_any x.B x.N x.mb x.wm x.sm x.em f x.p x.c x.b W (L) ⟨18,fr x.b (i+1),fr x.b i,x.c.seats⟩ ⟨(i64_small (n:=18) zb84),(fr_ok h0 h1 (i:=i+1) zb85 zb85),(fr_ok h0 h1 (i:=i) hi0 zb85),HSO.out⟩ zb36 _ (MD1.out)).mono ?_
 refine zy56 ?_;clear yd1 hK K;intro w2 yk2 HM2 YR3
 clear yk2
 go_wp2_with fail
 refine (free_any x.B x.N x.mb x.wm x.sm x.em f x.p x.c x.b W (L ++ [⟨18,fr x.b (i+1),fr x.b i,x.c.seats⟩]) i _ (HM2.out) ⟨h0,by omega⟩ ⟨hi0,by omega⟩).mono ?_
 rintro e wf ⟨rfl,rfl⟩
 go_wp2_with fail
 refine (free_any x.B x.N x.mb x.wm x.sm x.em f x.p x.c x.b W (L ++ [⟨18,fr x.b (i+1),fr x.b i,x.c.seats⟩]) i _ (HM2.out) ⟨h0,by omega⟩ ⟨hi0,by omega⟩).mono ?_
 rintro e wf ⟨rfl,rfl⟩
 go_wp2_with fail
 refine (free_any x.B x.N x.mb x.wm x.sm x.em f x.p x.c x.b W (L ++ [⟨18,fr x.b (i+1),fr x.b i,x.c.seats⟩]) (i+1) _ (HM2.out) ⟨h0,by omega⟩ ⟨by omega,by omega⟩).mono ?_
 rintro e wf ⟨rfl,rfl⟩
 go_wp2_with fail
 refine (put_any x.B x.N x.mb x.wm x.sm x.em f x.p x.c x.b W (L ++ [⟨18,fr x.b (i+1),fr x.b i,x.c.seats⟩]) ⟨5,fr x.b i,fr x.b i,fr x.b (i+1)⟩ ⟨(i64_small (n:=5) zb84),(fr_ok h0 h1 (i:=i) hi0 zb85),(fr_ok h0 h1 (i:=i) hi0 zb85),(fr_ok h0 h1 (i:=i+1) zb85 zb85)⟩ zb36 _ (HM2.out)).mono ?_
 rintro e w4 ⟨rfl,hm4,hk4⟩
 have YK4:=J ((YR3.out).trans hk4)
 have HM4:=J hm4
 have HKK4:=J hk4
 clear hm4 hk4
 go_wp2_with fail
 go_end0
 have hm:=HM4.out
 rw [HSE.out] at hm
 refine ⟨rfl,?_,YK4.out⟩
 show MS _ _ _ _ _ _ _ _ _ _ _ _ (L ++ [_,_])
 rw [show L ++ [(⟨18,fr x.b (i+1),fr x.b i,x.p.seats⟩:Ins),⟨5,fr x.b i,fr x.b i,fr x.b (i+1)⟩]=L ++ [⟨18,fr x.b (i+1),fr x.b i,x.p.seats⟩] ++ [⟨5,fr x.b i,fr x.b i,fr x.b (i+1)⟩] by simp]
 exact hm
set_option maxRecDepth 100000 in
theorem rest_any (x:Mst) (f:Nat) (W:Wd) (hM:Mok x W) (κ:Kn) (low high:Int) (s:Str) (A:Option Addr) (ec:Nat) (F:EF) (lA:Option Addr) (ln lc:Nat) (xA:Option Addr) (xn xc:Nat) (L:List Ins) (w:World) (h:x.at w f W L) (hX:Sx w x.N κ 9 s A F low high) (hL:L.length+(cS0 x.k W L.length 9 s F low).length≤4000) :
 Calls Tryz.prog 137 #[.pointer (some ⟨x.mb,0,none⟩),.agg (scells 9 s A F.len ec low high lA ln lc xA xn xc)] w fun e w'=>e=.returned (.tuple #[])∧x.at w' f W (L ++ cS0 x.k W L.length 9 s F low)∧KT x.B x.wm w w':=by
 refine zy67 ?_;clear hM;intro hK h0 h1 h2 h3 hdp HNB
 have hw7:=wrap_i64 (n:=x.b+7) zb74
 have hl0:0 < F.len:=by rw [hX.len];decide
 refine zy109 ?_;intro o0 n0 s0 K0 A0 c0 kb0 ko0 ka0 KH0 KG0 KX0 KE0 KC0 KL0
 subst ka0
 have hlI0:(0:Int) < F.len:=by omega
 have HCX:=J (show cS0 x.k W L.length 9 s F low=cX x W o0 n0 s0 K0 0 ++ someI x.k 0 ++ [⟨2,x.b+7,fr x.b 0,0⟩] from by rw [← KC0.out];rfl)
 have y1:Ext w (w.alloc (.cells (scells 9 s (some ⟨kb0,ko0,none⟩) F.len ec low high lA ln lc xA xn xc) 151)):=(kR _ w).alloc _
 have hB0:=bN w 151 (scells 9 s (some ⟨kb0,ko0,none⟩) F.len ec low high lA ln lc xA xn xc)
 refine zy30 ?_;intro hMS hX1
 clear h hX hK
 go_enter Tryz.func137,Tryz.ntmps137
 go_upto_region 1 with (fail)
 generalize (w.alloc (.cells (scells 9 s (some ⟨kb0,ko0,none⟩) F.len ec low high lA ln lc xA xn xc) 151))=W1 at y1 hB0 hMS hX1 ⊢
 refine zy7 ?_;clear hB0 hMS hX1 hL;intro g HB HX HM0 HL Y0 HS1
 refine zy97 ?_;intro q0 i1 i2
 obtain ⟨_,_,_,m0,_⟩:=(HM0.out).blk
 refine zy45 ?_;intro m1 m0 u0a u0b u0c
 go_wp2_with fail
 refine (KE0.out o0 n0 s0 A0 c0 0 (L) _ (HM0.out) (KX0.out.kt ((KT.ext y1).trans Y0.out) HNB.out.1 HNB.out.2) zb16).mono ?_
 refine zy39 ?_;intro w1 YK1 HM1 HKK1
 clear u0a u0b u0c
 go_wp2_with fail
 refine (someone_any x f W ⟨h0,h1,h2,h3⟩ 0 zb84 zb84 (L ++ cX x W o0 n0 s0 K0 0) _ (HM1.out) zb16).mono ?_
 refine zy68 ?_;intro w2 YK2 HM2 HKK2
 clear q0 i1 i2 m0 m1
 go_upto_region 3 with (fail)
 have HBr:=J (KT.block YK2.out HB.out zb84 zb84)
 refine qr3 (fun wz=>SM x f W w2 wz) [(0,2),(1,2),(2,2),(3,2),(4,1),(5,2),(6,2),(7,0),(8,0)] ?_;refine qrl ?_
 (repeat first|refine qs3 ?_|refine qt3 ⟨KT.ext (Kept.drew (kR _ _)),_,(HM2.out).drew⟩ zb3 ?_|refine qp3 ⟨KT.ext (Kept.drew (kR _ _)),_,(HM2.out).drew⟩ ?_)
 have yd3:KT x.B x.wm w2 w2.drew:=KT.ext (kR _ w2).drew
 have MD3:=J (HM2.out).drew
 (refine w3_act (fun K hK=>?_);go_simp)
 go_wp2_with fail
 refine (free_any x.B x.N x.mb x.wm x.sm x.em f x.p x.c x.b W (L ++ cX x W o0 n0 s0 K0 0 ++ someI x.k 0) 0 _ (MD3.out) ⟨h0,by omega⟩ ⟨by decide,by decide⟩).mono ?_
 rintro e wf ⟨rfl,rfl⟩
 refine hK.out _ _ (fun _=>⟨yd3,_,(MD3.out)⟩) ?_
 clear hK K
 refine zy23 ?_;intro K hK
 go_wp2_with fail
 refine (put_any x.B x.N x.mb x.wm x.sm x.em f x.p x.c x.b W (L ++ cX x W o0 n0 s0 K0 0 ++ someI x.k 0) ⟨2,x.b+7,fr x.b 0,0⟩ ⟨(i64_small (n:=2) zb84),(show i64ok (x.b+7) from by unfold i64ok;omega),(fr_ok h0 h1 (i:=0) zb84 zb84),(i64_small (n:=0) zb84)⟩ zb16 _ (MD3.out)).mono ?_
 rintro e w4 ⟨rfl,hm4,hk4⟩
 have yk4:=(yd3).trans hk4
 have HM4:=J hm4
 clear hm4 hk4 yd3
 refine hK.out _ _ (fun _=>⟨yk4,_,(HM4.out)⟩) ?_
 clear hK K
 refine qf3 ?_
 have YR5:=J ((YK2.out).trans yk4)
 clear yk4 HBr
 go_wp2_with fail
 go_end0
 refine ⟨rfl,?_,(KT.ext y1).trans YR5.out⟩
 rw [HCX.out];simp only [← List.append_assoc]
 exact (HM4.out)
set_option maxRecDepth 100000 in
theorem pay_any (x:Mst) (f:Nat) (W:Wd) (hM:Mok x W) (κ:Kn) (low high:Int) (s:Str) (A:Option Addr) (ec:Nat) (F:EF) (lA:Option Addr) (ln lc:Nat) (xA:Option Addr) (xn xc:Nat) (L:List Ins) (w:World) (h:x.at w f W L) (hX:Sx w x.N κ 8 s A F low high) (hL:L.length+(cS0 x.k W L.length 8 s F low).length≤4000) :
 Calls Tryz.prog 136 #[.pointer (some ⟨x.mb,0,none⟩),.agg (scells 8 s A F.len ec low high lA ln lc xA xn xc)] w fun e w'=>e=.returned (.tuple #[])∧x.at w' f W (L ++ cS0 x.k W L.length 8 s F low)∧KT x.B x.wm w w':=by
 refine zy67 ?_;clear hM;intro hK h0 h1 h2 h3 hdp HNB
 have hw8:=wrap_i64 (n:=x.b+8) zb74
 have hl1:1 < F.len:=by rw [hX.len];decide
 have hl0:0 < F.len:=by rw [hX.len];decide
 obtain ⟨o1,n1,s1,K1,A1,c1,kb1,ko1,ka1,kl1,kh1,kg1,kx1,ke1,kc1⟩:=kid_at hK hX.kids hX.chk (tw:=(0:Int)) zb84 zb85 (j:=1) hl1
 simp only [Nat.one_mul] at kh1 kg1
 have KH1:=J kh1
 have KG1:=J kg1
 have KX1:=J kx1
 have KE1:=J ke1
 have KC1:=J kc1
 have KL1:=J kl1
 clear kh1 kg1 kx1 ke1 kc1 kl1
 obtain ⟨o0,n0,s0,K0,A0,c0,kb0,ko0,ka0,kl0,kh0,kg0,kx0,ke0,kc0⟩:=kid_at hK hX.kids hX.chk (tw:=(1:Int)) zb84 zb85 (j:=0) hl0
 refine zy14 ?_;clear kh0 kg0 kx0 ke0 kc0 kl0;intro KH0 KG0 KX0 KE0 KC0 KL0
 subst ka1
 obtain ⟨rfl,rfl⟩:kb1=kb0∧ko1=ko0:=by simpa using ka0
 have hlI1:(1:Int) < F.len:=by omega
 have hlI0:(0:Int) < F.len:=by omega
 have HCX:=J (show cS0 x.k W L.length 8 s F low=cX x W o1 n1 s1 K1 0 ++ cX x W o0 n0 s0 K0 1 ++ someI x.k 1 ++ [⟨17,fr x.b 0,0,1073741823⟩] ++ [⟨15,fr x.b 2,x.b+8,fr x.b 1⟩] ++ [⟨3,fr x.b 0,fr x.b 0,fr x.b 2⟩] ++ [⟨17,fr x.b 0,0,1073741823⟩] ++ [⟨16,x.b+8,fr x.b 1,fr x.b 0⟩] from by rw [← KC0.out,← KC1.out];show cE x.k W F 1 0 ++ cE x.k W F 0 1 ++ someI x.k 1 ++ [_,_,_,_,_]=_;simp only [List.append_assoc,List.cons_append,List.nil_append])
 have y1:Ext w (w.alloc (.cells (scells 8 s (some ⟨kb1,ko1,none⟩) F.len ec low high lA ln lc xA xn xc) 151)):=(kR _ w).alloc _
 have hB0:=bN w 151 (scells 8 s (some ⟨kb1,ko1,none⟩) F.len ec low high lA ln lc xA xn xc)
 refine zy30 ?_;intro hMS hX1
 clear h hX ka0 hK
 go_enter Tryz.func136,Tryz.ntmps136
 go_upto_region 1 with (fail)
 generalize (w.alloc (.cells (scells 8 s (some ⟨kb1,ko1,none⟩) F.len ec low high lA ln lc xA xn xc) 151))=W1 at y1 hB0 hMS hX1 ⊢
 refine zy7 ?_;clear hB0 hMS hX1 hL;intro g HB HX HM0 HL Y0 HS1
 refine zy97 ?_;intro q0 i1 i2
 obtain ⟨_,_,_,m0,_⟩:=(HM0.out).blk
 have m1:=m0.lt
 have m0:=bC m0
 have u1:=kid_kt ((KT.ext y1).trans Y0.out) HNB.out KL1.out KH1.out KG1.out
 have u1a:=u1.1
 have u1b:=u1.2.1
 have u1c:=u1.2.2
 clear u1
 go_wp2_with fail
 refine (KE1.out o1 n1 s1 A1 c1 0 (L) _ (HM0.out) (KX1.out.kt ((KT.ext y1).trans Y0.out) HNB.out.1 HNB.out.2) zb16).mono ?_
 refine zy39 ?_;intro w1 YK1 HM1 HKK1
 clear u1a u1b u1c
 clear q0 i1 i2 m0 m1
 have q0:=KT.block YK1.out HB.out zb84 zb84
 have i1:=bC q0
 have i2:=q0.lt
 obtain ⟨_,_,_,m0,_⟩:=(HM1.out).blk
 have m1:=m0.lt
 have m0:=bC m0
 have u0:=kid_kt ((KT.ext y1).trans YK1.out) HNB.out KL0.out KH0.out KG0.out
 have u0a:=u0.1
 have u0b:=u0.2.1
 have u0c:=u0.2.2
 clear u0
 go_wp2_with fail
 refine (KE0.out o0 n0 s0 A0 c0 1 (L ++ cX x W o1 n1 s1 K1 0) _ (HM1.out) (KX0.out.kt ((KT.ext y1).trans YK1.out) HNB.out.1 HNB.out.2) zb16).mono ?_
 refine zy68 ?_;intro w2 YK2 HM2 HKK2
 clear u0a u0b u0c
 go_wp2_with fail
 refine (someone_any x f W ⟨h0,h1,h2,h3⟩ 1 zb84 zb84 (L ++ cX x W o1 n1 s1 K1 0 ++ cX x W o0 n0 s0 K0 1) _ (HM2.out) zb16).mono ?_
 refine zy92 ?_;intro w3 YK3 HM3 HKK3
 clear q0 i1 i2 m0 m1
 go_upto_region 4 with (fail)
 have HBr:=J (KT.block YK3.out HB.out zb84 zb84)
 refine qr3 (fun wz=>SM x f W w3 wz) [(0,2),(1,2),(2,2),(3,1),(4,2),(5,2),(6,0),(7,2),(8,2)] ?_;refine qrl ?_
 (repeat first|refine qs3 ?_|refine qt3 ⟨KT.ext (Kept.drew (kR _ _)),_,(HM3.out).drew⟩ zb3 ?_|refine qp3 ⟨KT.ext (Kept.drew (kR _ _)),_,(HM3.out).drew⟩ ?_)
 have yd4:KT x.B x.wm w3 w3.drew:=KT.ext (kR _ w3).drew
 have MD4:=J (HM3.out).drew
 (refine w3_act (fun K hK=>?_);go_simp)
 go_wp2_with fail
 refine (free_any x.B x.N x.mb x.wm x.sm x.em f x.p x.c x.b W (L ++ cX x W o1 n1 s1 K1 0 ++ cX x W o0 n0 s0 K0 1 ++ someI x.k 1) 0 _ (MD4.out) ⟨h0,by omega⟩ ⟨by decide,by decide⟩).mono ?_
 rintro e wf ⟨rfl,rfl⟩
 refine hK.out _ _ (fun _=>⟨yd4,_,(MD4.out)⟩) ?_
 clear hK K
 (repeat refine qs3 ?_)
 refine qf3 ?_
 have YR5:=J ((YK3.out).trans yd4)
 clear yd4 HBr
 go_wp2_with fail
 refine (put_any x.B x.N x.mb x.wm x.sm x.em f x.p x.c x.b W (L ++ cX x W o1 n1 s1 K1 0 ++ cX x W o0 n0 s0 K0 1 ++ someI x.k 1) ⟨17,fr x.b 0,0,1073741823⟩ ⟨(i64_small (n:=17) zb84),(fr_ok h0 h1 (i:=0) zb84 zb84),(i64_small (n:=0) zb84),(show i64ok 1073741823 from by unfold i64ok;omega)⟩ zb16 _ (MD4.out)).mono ?_
 rintro e w6 ⟨rfl,hm6,hk6⟩
 have YK6:=J ((YR5.out).trans hk6)
 have HM6:=J hm6
 have HKK6:=J hk6
 clear hm6 hk6
 go_wp2_with fail
 refine (free_any x.B x.N x.mb x.wm x.sm x.em f x.p x.c x.b W (L ++ cX x W o1 n1 s1 K1 0 ++ cX x W o0 n0 s0 K0 1 ++ someI x.k 1 ++ [⟨17,fr x.b 0,0,1073741823⟩]) 2 _ (HM6.out) ⟨h0,by omega⟩ ⟨by decide,by decide⟩).mono ?_
 rintro e wf ⟨rfl,rfl⟩
 go_wp2_with fail
 refine (free_any x.B x.N x.mb x.wm x.sm x.em f x.p x.c x.b W (L ++ cX x W o1 n1 s1 K1 0 ++ cX x W o0 n0 s0 K0 1 ++ someI x.k 1 ++ [⟨17,fr x.b 0,0,1073741823⟩]) 1 _ (HM6.out) ⟨h0,by omega⟩ ⟨by decide,by decide⟩).mono ?_
 rintro e wf ⟨rfl,rfl⟩
 go_wp2_with fail
 refine (put_any x.B x.N x.mb x.wm x.sm x.em f x.p x.c x.b W (L ++ cX x W o1 n1 s1 K1 0 ++ cX x W o0 n0 s0 K0 1 ++ someI x.k 1 ++ [⟨17,fr x.b 0,0,1073741823⟩]) ⟨15,fr x.b 2,x.b+8,fr x.b 1⟩ ⟨(i64_small (n:=15) zb84),(fr_ok h0 h1 (i:=2) zb84 zb84),(show i64ok (x.b+8) from by unfold i64ok;omega),(fr_ok h0 h1 (i:=1) zb84 zb84)⟩ zb16 _ (HM6.out)).mono ?_
 rintro e w7 ⟨rfl,hm7,hk7⟩
 have YK7:=J ((YK6.out).trans hk7)
 have HM7:=J hm7
 have HKK7:=J hk7
 clear hm7 hk7
 go_wp2_with fail
 refine (free_any x.B x.N x.mb x.wm x.sm x.em f x.p x.c x.b W (L ++ cX x W o1 n1 s1 K1 0 ++ cX x W o0 n0 s0 K0 1 ++ someI x.k 1 ++ [⟨17,fr x.b 0,0,1073741823⟩] ++ [⟨15,fr x.b 2,x.b+8,fr x.b 1⟩]) 2 _ (HM7.out) ⟨h0,by omega⟩ ⟨by decide,by decide⟩).mono ?_
 rintro e wf ⟨rfl,rfl⟩
 go_wp2_with fail
 refine (put_any x.B x.N x.mb x.wm x.sm x.em f x.p x.c x.b W (L ++ cX x W o1 n1 s1 K1 0 ++ cX x W o0 n0 s0 K0 1 ++ someI x.k 1 ++ [⟨17,fr x.b 0,0,1073741823⟩] ++ [⟨15,fr x.b 2,x.b+8,fr x.b 1⟩]) ⟨3,fr x.b 0,fr x.b 0,fr x.b 2⟩ ⟨(i64_small (n:=3) zb84),(fr_ok h0 h1 (i:=0) zb84 zb84),(fr_ok h0 h1 (i:=0) zb84 zb84),(fr_ok h0 h1 (i:=2) zb84 zb84)⟩ zb16 _ (HM7.out)).mono ?_
 rintro e w8 ⟨rfl,hm8,hk8⟩
 have YK8:=J ((YK7.out).trans hk8)
 have HM8:=J hm8
 have HKK8:=J hk8
 clear hm8 hk8
 go_wp2_with fail
 refine (put_any x.B x.N x.mb x.wm x.sm x.em f x.p x.c x.b W (L ++ cX x W o1 n1 s1 K1 0 ++ cX x W o0 n0 s0 K0 1 ++ someI x.k 1 ++ [⟨17,fr x.b 0,0,1073741823⟩] ++ [⟨15,fr x.b 2,x.b+8,fr x.b 1⟩] ++ [⟨3,fr x.b 0,fr x.b 0,fr x.b 2⟩]) ⟨17,fr x.b 0,0,1073741823⟩ ⟨(i64_small (n:=17) zb84),(fr_ok h0 h1 (i:=0) zb84 zb84),(i64_small (n:=0) zb84),(show i64ok 1073741823 from by unfold i64ok;omega)⟩ zb16 _ (HM8.out)).mono ?_
 rintro e w9 ⟨rfl,hm9,hk9⟩
 have YK9:=J ((YK8.out).trans hk9)
 have HM9:=J hm9
 have HKK9:=J hk9
 clear hm9 hk9
 go_wp2_with fail
 refine (free_any x.B x.N x.mb x.wm x.sm x.em f x.p x.c x.b W (L ++ cX x W o1 n1 s1 K1 0 ++ cX x W o0 n0 s0 K0 1 ++ someI x.k 1 ++ [⟨17,fr x.b 0,0,1073741823⟩] ++ [⟨15,fr x.b 2,x.b+8,fr x.b 1⟩] ++ [⟨3,fr x.b 0,fr x.b 0,fr x.b 2⟩] ++ [⟨17,fr x.b 0,0,1073741823⟩]) 1 _ (HM9.out) ⟨h0,by omega⟩ ⟨by decide,by decide⟩).mono ?_
 rintro e wf ⟨rfl,rfl⟩
 go_wp2_with fail
 refine (put_any x.B x.N x.mb x.wm x.sm x.em f x.p x.c x.b W (L ++ cX x W o1 n1 s1 K1 0 ++ cX x W o0 n0 s0 K0 1 ++ someI x.k 1 ++ [⟨17,fr x.b 0,0,1073741823⟩] ++ [⟨15,fr x.b 2,x.b+8,fr x.b 1⟩] ++ [⟨3,fr x.b 0,fr x.b 0,fr x.b 2⟩] ++ [⟨17,fr x.b 0,0,1073741823⟩]) ⟨16,x.b+8,fr x.b 1,fr x.b 0⟩ ⟨(i64_small (n:=16) zb84),(show i64ok (x.b+8) from by unfold i64ok;omega),(fr_ok h0 h1 (i:=1) zb84 zb84),(fr_ok h0 h1 (i:=0) zb84 zb84)⟩ zb16 _ (HM9.out)).mono ?_
 rintro e w10 ⟨rfl,hm10,hk10⟩
 have YK10:=J ((YK9.out).trans hk10)
 have HM10:=J hm10
 have HKK10:=J hk10
 clear hm10 hk10
 go_wp2_with fail
 go_end0
 refine ⟨rfl,?_,(KT.ext y1).trans YK10.out⟩
 rw [HCX.out];simp only [← List.append_assoc]
 exact (HM10.out)
set_option maxRecDepth 100000 in
theorem assign_any (x:Mst) (f:Nat) (W:Wd) (hM:Mok x W) (κ:Kn) (low high:Int) (s:Str) (A:Option Addr) (ec:Nat) (F:EF) (lA:Option Addr) (ln lc:Nat) (xA:Option Addr) (xn xc:Nat) (L:List Ins) (w:World) (h:x.at w f W L) (hX:Sx w x.N κ 0 s A F low high) (hL:L.length+(cS0 x.k W L.length 0 s F low).length≤4000) :
 Calls Tryz.prog 128 #[.pointer (some ⟨x.mb,0,none⟩),.agg (scells 0 s A F.len ec low high lA ln lc xA xn xc)] w fun e w'=>e=.returned (.tuple #[])∧x.at w' f W (L ++ cS0 x.k W L.length 0 s F low)∧KT x.B x.wm w w':=by
 refine zy67 ?_;clear hM;intro hK h0 h1 h2 h3 hdp HNB
 have hWs:i64ok (W s):=by have:=h2 s;have:=h3 s;unfold i64ok;omega
 have hvo:=J (cellX_ok h.prog s)
 have hl0:0 < F.len:=by rw [hX.len];decide
 refine zy109 ?_;intro o0 n0 s0 K0 A0 c0 kb0 ko0 ka0 KH0 KG0 KX0 KE0 KC0 KL0
 subst ka0
 have hlI0:(0:Int) < F.len:=by omega
 have HCX:=J (show cS0 x.k W L.length 0 s F low=cX x W o0 n0 s0 K0 0 ++ [⟨17,fr x.b 0,(cellX x.p.vars s).low,(cellX x.p.vars s).high⟩] ++ [⟨2,W s,fr x.b 0,0⟩] from by rw [← KC0.out];simp only [List.append_assoc];rfl)
 have y1:Ext w (w.alloc (.cells (scells 0 s (some ⟨kb0,ko0,none⟩) F.len ec low high lA ln lc xA xn xc) 151)):=(kR _ w).alloc _
 have hB0:=bN w 151 (scells 0 s (some ⟨kb0,ko0,none⟩) F.len ec low high lA ln lc xA xn xc)
 refine zy30 ?_;intro hMS hX1
 clear h hX hK
 go_enter Tryz.func128,Tryz.ntmps128
 go_upto_region 1 with (fail)
 generalize (w.alloc (.cells (scells 0 s (some ⟨kb0,ko0,none⟩) F.len ec low high lA ln lc xA xn xc) 151))=W1 at y1 hB0 hMS hX1 ⊢
 refine zy7 ?_;clear hB0 hMS hX1 hL;intro g HB HX HM0 HL Y0 HS1
 have HBr:=J (KT.block Y0.out HB.out zb84 zb84)
 have HMr:=J (HM0.out)
 have hs0:x.N≤(W1:World).heap.size:=Nat.le_trans HMr.out.hN HMr.out.hB
 apply meet (F:=fun W2 vb=>Ext W1 W2∧Blk W2 vb 109 (vcells (cellX x.p.vars s)))
 case h =>
  exact zz6
 case h2 =>
 refine zy85 ?_;clear hs0 HBr HMr;intro W1 vb HVB YV1 HM1 YVB q0 i1 i2
 obtain ⟨_,_,_,m0,_⟩:=(HM1.out).blk
 have m1:=m0.lt
 have m0:=bC m0
 have u0:=kid_kt ((KT.ext y1).trans YV1.out) HNB.out KL0.out KH0.out KG0.out
 have u0a:=u0.1
 have u0b:=u0.2.1
 have u0c:=u0.2.2
 clear u0
 go_wp2_with fail
 refine (KE0.out o0 n0 s0 A0 c0 0 (L) _ (HM1.out) (KX0.out.kt ((KT.ext y1).trans YV1.out) HNB.out.1 HNB.out.2) zb16).mono ?_
 rintro e w2 ⟨rfl,hm2,hk2⟩
 have YK2:=J ((YV1.out).trans hk2)
 have HM2:=J hm2
 have HKK2:=J hk2
 clear hm2 hk2
 have YV2':=J (YVB.out.trans (show KT x.B x.wm _ _ from HKK2.out))
 clear u0a u0b u0c
 clear q0 i1 i2 m0 m1
 go_upto_region 3 with (fail)
 have HBr:=J (KT.block YK2.out HB.out zb84 zb84)
 refine qr3 (fun wz=>SM x f W w2 wz) [(0,2),(1,2),(3,2),(4,1),(5,2),(6,1),(2,0),(7,0)] ?_;refine qrl ?_
 (repeat first|refine qs3 ?_|refine qt3 ⟨KT.ext (Kept.drew (kR _ _)),_,(HM2.out).drew⟩ (by intro w1 hS;have d0:=KT.block hS.1 HBr.out zb84 zb84;have d1:=bC d0;have d2:=d0.lt;obtain ⟨L',hm'⟩:=hS.2;obtain ⟨A',n',cp',hb',_⟩:=hm'.blk;have d3:=bC hb';have d4:=hb'.lt;have d5:=MS.look hm';have qv:=KT.block (YV2'.out.trans hS.1) HVB.out zb84 zb84;have v1:=bC qv;have v2:=qv.lt;exact zgo) ?_|refine qp3 ⟨KT.ext (Kept.drew (kR _ _)),_,(HM2.out).drew⟩ ?_)
 have yd3:KT x.B x.wm w2 w2.drew:=KT.ext (kR _ w2).drew
 have MD3:=J (HM2.out).drew
 (refine w3_act (fun K hK=>?_);go_simp)
 go_wp2_with fail
 refine (free_any x.B x.N x.mb x.wm x.sm x.em f x.p x.c x.b W (L ++ cX x W o0 n0 s0 K0 0) 0 _ (MD3.out) ⟨h0,by omega⟩ ⟨by decide,by decide⟩).mono ?_
 rintro e wf ⟨rfl,rfl⟩
 refine hK.out _ _ (fun _=>⟨yd3,_,(MD3.out)⟩) ?_
 clear hK K
 refine zy23 ?_;intro K hK
 go_wp2_with fail
 refine (put_any x.B x.N x.mb x.wm x.sm x.em f x.p x.c x.b W (L ++ cX x W o0 n0 s0 K0 0) ⟨17,fr x.b 0,(cellX x.p.vars s).low,(cellX x.p.vars s).high⟩ ⟨(i64_small (n:=17) zb84),(fr_ok h0 h1 (i:=0) zb84 zb84),hvo.out.low,hvo.out.high⟩ zb16 _ (MD3.out)).mono ?_
 rintro e w4 ⟨rfl,hm4,hk4⟩
 have yk4:=(yd3).trans hk4
 have HM4:=J hm4
 clear hm4 hk4 yd3
 refine hK.out _ _ (fun _=>⟨yk4,_,(HM4.out)⟩) ?_
 clear hK K
 refine qf3 ?_
 have YV5':=J ((YV2'.out).trans yk4)
 have YR5:=J ((YK2.out).trans yk4)
 clear yk4 HBr
 go_upto_region 4 with (fail)
 have HBr:=J (KT.block YR5.out HB.out zb84 zb84)
 refine qr3 (fun wz=>SM x f W w4 wz) [(0,2),(1,2),(2,2),(3,2),(4,1),(5,2),(6,1),(7,1),(8,2),(9,0),(10,0)] ?_;refine qrl ?_
 (repeat first|refine qs3 ?_|refine qt3 ⟨KT.ext (Kept.drew (kR _ _)),_,(HM4.out).drew⟩ zb3 ?_|refine qp3 ⟨KT.ext (Kept.drew (kR _ _)),_,(HM4.out).drew⟩ ?_)
 have yd6:KT x.B x.wm w4 w4.drew:=KT.ext (kR _ w4).drew
 have MD6:=J (HM4.out).drew
 (refine w3_act (fun K hK=>?_);go_simp)
 go_wp2_with fail
 refine (free_any x.B x.N x.mb x.wm x.sm x.em f x.p x.c x.b W (L ++ cX x W o0 n0 s0 K0 0 ++ [⟨17,fr x.b 0,(cellX x.p.vars s).low,(cellX x.p.vars s).high⟩]) 0 _ (MD6.out) ⟨h0,by omega⟩ ⟨by decide,by decide⟩).mono ?_
 rintro e wf ⟨rfl,rfl⟩
 refine hK.out _ _ (fun _=>⟨yd6,_,(MD6.out)⟩) ?_
 clear hK K
 refine zy23 ?_;intro K hK
 go_wp2_with fail
 refine (put_any x.B x.N x.mb x.wm x.sm x.em f x.p x.c x.b W (L ++ cX x W o0 n0 s0 K0 0 ++ [⟨17,fr x.b 0,(cellX x.p.vars s).low,(cellX x.p.vars s).high⟩]) ⟨2,W s,fr x.b 0,0⟩ ⟨(i64_small (n:=2) zb84),hWs,(fr_ok h0 h1 (i:=0) zb84 zb84),(i64_small (n:=0) zb84)⟩ zb16 _ (MD6.out)).mono ?_
 rintro e w7 ⟨rfl,hm7,hk7⟩
 have yk7:=(yd6).trans hk7
 have HM7:=J hm7
 clear hm7 hk7 yd6
 refine hK.out _ _ (fun _=>⟨yk7,_,(HM7.out)⟩) ?_
 clear hK K
 refine qf3 ?_
 have YV8':=J ((YV5'.out).trans yk7)
 have YR8:=J ((YR5.out).trans yk7)
 clear yk7 HBr
 go_wp2_with fail
 go_end0
 refine ⟨rfl,?_,(KT.ext y1).trans YR8.out⟩
 rw [HCX.out];simp only [← List.append_assoc]
 exact (HM7.out)
set_option maxRecDepth 100000 in
theorem store_any (x:Mst) (f:Nat) (W:Wd) (hM:Mok x W) (κ:Kn) (low high:Int) (s:Str) (A:Option Addr) (ec:Nat) (F:EF) (lA:Option Addr) (ln lc:Nat) (xA:Option Addr) (xn xc:Nat) (L:List Ins) (w:World) (h:x.at w f W L) (hX:Sx w x.N κ 1 s A F low high) (hL:L.length+(cS0 x.k W L.length 1 s F low).length≤4000) :
 Calls Tryz.prog 129 #[.pointer (some ⟨x.mb,0,none⟩),.agg (scells 1 s A F.len ec low high lA ln lc xA xn xc)] w fun e w'=>e=.returned (.tuple #[])∧x.at w' f W (L ++ cS0 x.k W L.length 1 s F low)∧KT x.B x.wm w w':=by
 refine zy67 ?_;clear hM;intro hK h0 h1 h2 h3 hdp HNB
 have hWs:i64ok (W s):=by have:=h2 s;have:=h3 s;unfold i64ok;omega
 have hvo:=J (cellX_ok h.prog s)
 have hl0:0 < F.len:=by rw [hX.len];decide
 have hl1:1 < F.len:=by rw [hX.len];decide
 refine zy109 ?_;intro o0 n0 s0 K0 A0 c0 kb0 ko0 ka0 KH0 KG0 KX0 KE0 KC0 KL0
 obtain ⟨o1,n1,s1,K1,A1,c1,kb1,ko1,ka1,kl1,kh1,kg1,kx1,ke1,kc1⟩:=kid_at hK hX.kids hX.chk (tw:=(1:Int)) zb84 zb85 (j:=1) hl1
 simp only [Nat.one_mul] at kh1 kg1
 have KH1:=J kh1
 have KG1:=J kg1
 have KX1:=J kx1
 have KE1:=J ke1
 have KC1:=J kc1
 have KL1:=J kl1
 clear kh1 kg1 kx1 ke1 kc1 kl1
 subst ka0
 obtain ⟨rfl,rfl⟩:kb0=kb1∧ko0=ko1:=by simpa using ka1
 have hlI0:(0:Int) < F.len:=by omega
 have hlI1:(1:Int) < F.len:=by omega
 have HCX:=J (show cS0 x.k W L.length 1 s F low=cX x W o0 n0 s0 K0 0 ++ cX x W o1 n1 s1 K1 1 ++ [⟨18,fr x.b 2,fr x.b 0,(cellX x.p.vars s).size⟩] ++ [⟨20,(L.length:Int)+(cX x W o0 n0 s0 K0 0).length+(cX x W o1 n1 s1 K1 1).length+4,fr x.b 2,0⟩] ++ [⟨17,fr x.b 1,(cellX x.p.vars s).low,(cellX x.p.vars s).high⟩] ++ [⟨16,W s,fr x.b 0,fr x.b 1⟩] from by rw [← KC0.out,← KC1.out];show cE x.k W F 0 0 ++ cE x.k W F 1 1 ++ [_,_,_,_]=_;simp only [List.append_assoc,List.cons_append,List.nil_append])
 have y1:Ext w (w.alloc (.cells (scells 1 s (some ⟨kb0,ko0,none⟩) F.len ec low high lA ln lc xA xn xc) 151)):=(kR _ w).alloc _
 have hB0:=bN w 151 (scells 1 s (some ⟨kb0,ko0,none⟩) F.len ec low high lA ln lc xA xn xc)
 refine zy30 ?_;intro hMS hX1
 clear h hX ka1 hK
 go_enter Tryz.func129,Tryz.ntmps129
 go_upto_region 1 with (fail)
 generalize (w.alloc (.cells (scells 1 s (some ⟨kb0,ko0,none⟩) F.len ec low high lA ln lc xA xn xc) 151))=W1 at y1 hB0 hMS hX1 ⊢
 refine zy7 ?_;clear hB0 hMS hX1 hL;intro g HB HX HM0 HL Y0 HS1
 have HBr:=J (KT.block Y0.out HB.out zb84 zb84)
 have HMr:=J (HM0.out)
 have hs0:x.N≤(W1:World).heap.size:=Nat.le_trans HMr.out.hN HMr.out.hB
 apply meet (F:=fun W2 vb=>Ext W1 W2∧Blk W2 vb 109 (vcells (cellX x.p.vars s)))
 case h =>
  exact zz6
 case h2 =>
 refine zy85 ?_;clear hs0 HBr HMr;intro W1 vb HVB YV1 HM1 YVB q0 i1 i2
 obtain ⟨_,_,_,m0,_⟩:=(HM1.out).blk
 have m1:=m0.lt
 have m0:=bC m0
 have u0:=kid_kt ((KT.ext y1).trans YV1.out) HNB.out KL0.out KH0.out KG0.out
 have u0a:=u0.1
 have u0b:=u0.2.1
 have u0c:=u0.2.2
 clear u0
 go_wp2_with fail
 refine (KE0.out o0 n0 s0 A0 c0 0 (L) _ (HM1.out) (KX0.out.kt ((KT.ext y1).trans YV1.out) HNB.out.1 HNB.out.2) zb16).mono ?_
 rintro e w2 ⟨rfl,hm2,hk2⟩
 have YK2:=J ((YV1.out).trans hk2)
 have HM2:=J hm2
 have HKK2:=J hk2
 clear hm2 hk2
 have YV2':=J (YVB.out.trans (show KT x.B x.wm _ _ from HKK2.out))
 clear u0a u0b u0c
 clear q0 i1 i2 m0 m1
 have q0:=KT.block YK2.out HB.out zb84 zb84
 have i1:=bC q0
 have i2:=q0.lt
 obtain ⟨_,_,_,m0,_⟩:=(HM2.out).blk
 have m1:=m0.lt
 have m0:=bC m0
 have u1:=kid_kt ((KT.ext y1).trans YK2.out) HNB.out KL1.out KH1.out KG1.out
 have u1a:=u1.1
 have u1b:=u1.2.1
 have u1c:=u1.2.2
 clear u1
 go_wp2_with fail
 refine (KE1.out o1 n1 s1 A1 c1 1 (L ++ cX x W o0 n0 s0 K0 0) _ (HM2.out) (KX1.out.kt ((KT.ext y1).trans YK2.out) HNB.out.1 HNB.out.2) zb16).mono ?_
 refine zy92 ?_;intro w3 YK3 HM3 HKK3
 have YV3':=J (YV2'.out.trans (show KT x.B x.wm _ _ from HKK3.out))
 clear u1a u1b u1c
 clear q0 i1 i2 m0 m1
 go_upto_region 4 with (fail)
 have HBr:=J (KT.block YK3.out HB.out zb84 zb84)
 refine qr3 (fun wz=>SM x f W w3 wz) [(0,2),(1,2),(3,2),(5,2),(6,1),(2,0),(4,0),(7,0)] ?_;refine qrl ?_
 (repeat first|refine qs3 ?_|refine qt3 ⟨KT.ext (Kept.drew (kR _ _)),_,(HM3.out).drew⟩ (by intro w1 hS;have d0:=KT.block hS.1 HBr.out zb84 zb84;have d1:=bC d0;have d2:=d0.lt;obtain ⟨L',hm'⟩:=hS.2;obtain ⟨A',n',cp',hb',_⟩:=hm'.blk;have d3:=bC hb';have d4:=hb'.lt;have d5:=MS.look hm';have qv:=KT.block (YV3'.out.trans hS.1) HVB.out zb84 zb84;have v1:=bC qv;have v2:=qv.lt;exact zgo) ?_|refine qp3 ⟨KT.ext (Kept.drew (kR _ _)),_,(HM3.out).drew⟩ ?_)
 have yd4:KT x.B x.wm w3 w3.drew:=KT.ext (kR _ w3).drew
 have MD4:=J (HM3.out).drew
 (refine w3_act (fun K hK=>?_);go_simp)
 go_wp2_with fail
 refine (free_any x.B x.N x.mb x.wm x.sm x.em f x.p x.c x.b W (L ++ cX x W o0 n0 s0 K0 0 ++ cX x W o1 n1 s1 K1 1) 2 _ (MD4.out) ⟨h0,by omega⟩ ⟨by decide,by decide⟩).mono ?_
 rintro e wf ⟨rfl,rfl⟩
 refine hK.out _ _ (fun _=>⟨yd4,_,(MD4.out)⟩) ?_
 clear hK K
 refine zy23 ?_;intro K hK
 go_wp2_with fail
 refine (free_any x.B x.N x.mb x.wm x.sm x.em f x.p x.c x.b W (L ++ cX x W o0 n0 s0 K0 0 ++ cX x W o1 n1 s1 K1 1) 0 _ (MD4.out) ⟨h0,by omega⟩ ⟨by decide,by decide⟩).mono ?_
 rintro e wf ⟨rfl,rfl⟩
 refine hK.out _ _ (fun _=>⟨yd4,_,(MD4.out)⟩) ?_
 clear hK K
 refine zy23 ?_;intro K hK
 go_wp2_with fail
 refine (put_any x.B x.N x.mb x.wm x.sm x.em f x.p x.c x.b W (L ++ cX x W o0 n0 s0 K0 0 ++ cX x W o1 n1 s1 K1 1) ⟨18,fr x.b 2,fr x.b 0,(cellX x.p.vars s).size⟩ ⟨(i64_small (n:=18) zb84),(fr_ok h0 h1 (i:=2) zb84 zb84),(fr_ok h0 h1 (i:=0) zb84 zb84),hvo.out.size⟩ zb16 _ (MD4.out)).mono ?_
 rintro e w5 ⟨rfl,hm5,hk5⟩
 have yk5:=(yd4).trans hk5
 have HM5:=J hm5
 clear hm5 hk5 yd4
 refine hK.out _ _ (fun _=>⟨yk5,_,(HM5.out)⟩) ?_
 clear hK K
 refine qf3 ?_
 have YV6':=J ((YV3'.out).trans yk5)
 have YR6:=J ((YK3.out).trans yk5)
 clear yk5 HBr
 go_wp2_with fail
 refine (free_any x.B x.N x.mb x.wm x.sm x.em f x.p x.c x.b W (L ++ cX x W o0 n0 s0 K0 0 ++ cX x W o1 n1 s1 K1 1 ++ [⟨18,fr x.b 2,fr x.b 0,(cellX x.p.vars s).size⟩]) 2 _ (HM5.out) ⟨h0,by omega⟩ ⟨by decide,by decide⟩).mono ?_
 rintro e wf ⟨rfl,rfl⟩
 go_wp2_with fail
 refine (put_any x.B x.N x.mb x.wm x.sm x.em f x.p x.c x.b W (L ++ cX x W o0 n0 s0 K0 0 ++ cX x W o1 n1 s1 K1 1 ++ [⟨18,fr x.b 2,fr x.b 0,(cellX x.p.vars s).size⟩]) ⟨20,0,fr x.b 2,0⟩ ⟨(i64_small (n:=20) zb84),(i64_small (n:=0) zb84),(fr_ok h0 h1 (i:=2) zb84 zb84),(i64_small (n:=0) zb84)⟩ zb16 _ (HM5.out)).mono ?_
 rintro e w7 ⟨rfl,hm7,hk7⟩
 have YK7:=J ((YR6.out).trans hk7)
 have HM7:=J hm7
 have HKK7:=J hk7
 clear hm7 hk7
 have YV7':=J (YV6'.out.trans (show KT x.B x.wm _ _ from HKK7.out))
 obtain ⟨jn,hjn⟩:∃ jn,jn=(L ++ cX x W o0 n0 s0 K0 0 ++ cX x W o1 n1 s1 K1 1 ++ [⟨18,fr x.b 2,fr x.b 0,(cellX x.p.vars s).size⟩]:List Ins).length:=⟨_,rfl⟩
 rw [← hjn]
 have HJ:=J hjn
 clear hjn
 go_upto_region 6 with (fail)
 have HBr:=J (KT.block YK7.out HB.out zb84 zb84)
 refine qr3 (fun wz=>SM x f W w7 wz) [(0,2),(1,2),(3,2),(4,1),(5,2),(6,1),(2,0),(7,0)] ?_;refine qrl ?_
 (repeat first|refine qs3 ?_|refine qt3 ⟨KT.ext (Kept.drew (kR _ _)),_,(HM7.out).drew⟩ (by intro w1 hS;have d0:=KT.block hS.1 HBr.out zb84 zb84;have d1:=bC d0;have d2:=d0.lt;obtain ⟨L',hm'⟩:=hS.2;obtain ⟨A',n',cp',hb',_⟩:=hm'.blk;have d3:=bC hb';have d4:=hb'.lt;have d5:=MS.look hm';have qv:=KT.block (YV7'.out.trans hS.1) HVB.out zb84 zb84;have v1:=bC qv;have v2:=qv.lt;exact zgo) ?_|refine qp3 ⟨KT.ext (Kept.drew (kR _ _)),_,(HM7.out).drew⟩ ?_)
 have yd8:KT x.B x.wm w7 w7.drew:=KT.ext (kR _ w7).drew
 have MD8:=J (HM7.out).drew
 (refine w3_act (fun K hK=>?_);go_simp)
 go_wp2_with fail
 refine (free_any x.B x.N x.mb x.wm x.sm x.em f x.p x.c x.b W (L ++ cX x W o0 n0 s0 K0 0 ++ cX x W o1 n1 s1 K1 1 ++ [⟨18,fr x.b 2,fr x.b 0,(cellX x.p.vars s).size⟩] ++ [⟨20,0,fr x.b 2,0⟩]) 1 _ (MD8.out) ⟨h0,by omega⟩ ⟨by decide,by decide⟩).mono ?_
 rintro e wf ⟨rfl,rfl⟩
 refine hK.out _ _ (fun _=>⟨yd8,_,(MD8.out)⟩) ?_
 clear hK K
 refine zy23 ?_;intro K hK
 go_wp2_with fail
 refine (put_any x.B x.N x.mb x.wm x.sm x.em f x.p x.c x.b W (L ++ cX x W o0 n0 s0 K0 0 ++ cX x W o1 n1 s1 K1 1 ++ [⟨18,fr x.b 2,fr x.b 0,(cellX x.p.vars s).size⟩] ++ [⟨20,0,fr x.b 2,0⟩]) ⟨17,fr x.b 1,(cellX x.p.vars s).low,(cellX x.p.vars s).high⟩ ⟨(i64_small (n:=17) zb84),(fr_ok h0 h1 (i:=1) zb84 zb84),hvo.out.low,hvo.out.high⟩ zb16 _ (MD8.out)).mono ?_
 rintro e w9 ⟨rfl,hm9,hk9⟩
 have yk9:=(yd8).trans hk9
 have HM9:=J hm9
 clear hm9 hk9 yd8
 refine hK.out _ _ (fun _=>⟨yk9,_,(HM9.out)⟩) ?_
 clear hK K
 refine qf3 ?_
 have YV10':=J ((YV7'.out).trans yk9)
 have YR10:=J ((YK7.out).trans yk9)
 clear yk9 HBr
 go_upto_region 7 with (fail)
 have HBr:=J (KT.block YR10.out HB.out zb84 zb84)
 refine qr3 (fun wz=>SM x f W w9 wz) [(0,2),(1,2),(2,2),(3,2),(4,1),(5,2),(6,1),(7,1),(8,2),(10,2),(9,0),(11,0),(12,0)] ?_;refine qrl ?_
 (repeat first|refine qs3 ?_|refine qt3 ⟨KT.ext (Kept.drew (kR _ _)),_,(HM9.out).drew⟩ zb3 ?_|refine qp3 ⟨KT.ext (Kept.drew (kR _ _)),_,(HM9.out).drew⟩ ?_)
 have yd11:KT x.B x.wm w9 w9.drew:=KT.ext (kR _ w9).drew
 have MD11:=J (HM9.out).drew
 (refine w3_act (fun K hK=>?_);go_simp)
 go_wp2_with fail
 refine (free_any x.B x.N x.mb x.wm x.sm x.em f x.p x.c x.b W (L ++ cX x W o0 n0 s0 K0 0 ++ cX x W o1 n1 s1 K1 1 ++ [⟨18,fr x.b 2,fr x.b 0,(cellX x.p.vars s).size⟩] ++ [⟨20,0,fr x.b 2,0⟩] ++ [⟨17,fr x.b 1,(cellX x.p.vars s).low,(cellX x.p.vars s).high⟩]) 0 _ (MD11.out) ⟨h0,by omega⟩ ⟨by decide,by decide⟩).mono ?_
 rintro e wf ⟨rfl,rfl⟩
 refine hK.out _ _ (fun _=>⟨yd11,_,(MD11.out)⟩) ?_
 clear hK K
 refine zy23 ?_;intro K hK
 go_wp2_with fail
 refine (free_any x.B x.N x.mb x.wm x.sm x.em f x.p x.c x.b W (L ++ cX x W o0 n0 s0 K0 0 ++ cX x W o1 n1 s1 K1 1 ++ [⟨18,fr x.b 2,fr x.b 0,(cellX x.p.vars s).size⟩] ++ [⟨20,0,fr x.b 2,0⟩] ++ [⟨17,fr x.b 1,(cellX x.p.vars s).low,(cellX x.p.vars s).high⟩]) 1 _ (MD11.out) ⟨h0,by omega⟩ ⟨by decide,by decide⟩).mono ?_
 rintro e wf ⟨rfl,rfl⟩
 refine hK.out _ _ (fun _=>⟨yd11,_,(MD11.out)⟩) ?_
 clear hK K
 refine zy23 ?_;intro K hK
 go_wp2_with fail
 refine (put_any x.B x.N x.mb x.wm x.sm x.em f x.p x.c x.b W (L ++ cX x W o0 n0 s0 K0 0 ++ cX x W o1 n1 s1 K1 1 ++ [⟨18,fr x.b 2,fr x.b 0,(cellX x.p.vars s).size⟩] ++ [⟨20,0,fr x.b 2,0⟩] ++ [⟨17,fr x.b 1,(cellX x.p.vars s).low,(cellX x.p.vars s).high⟩]) ⟨16,W s,fr x.b 0,fr x.b 1⟩ ⟨(i64_small (n:=16) zb84),hWs,(fr_ok h0 h1 (i:=0) zb84 zb84),(fr_ok h0 h1 (i:=1) zb84 zb84)⟩ zb16 _ (MD11.out)).mono ?_
 rintro e w12 ⟨rfl,hm12,hk12⟩
 have yk12:=(yd11).trans hk12
 have HM12:=J hm12
 clear hm12 hk12 yd11
 refine hK.out _ _ (fun _=>⟨yk12,_,(HM12.out)⟩) ?_
 clear hK K
 refine qf3 ?_
 have YV13':=J ((YV10'.out).trans yk12)
 have YR13:=J ((YR10.out).trans yk12)
 clear yk12 HBr
 go_wp2_with fail
 refine (here_any x.B x.N x.mb x.wm x.sm x.em f x.p x.c x.b W (L ++ cX x W o0 n0 s0 K0 0 ++ cX x W o1 n1 s1 K1 1 ++ [⟨18,fr x.b 2,fr x.b 0,(cellX x.p.vars s).size⟩] ++ [⟨20,0,fr x.b 2,0⟩] ++ [⟨17,fr x.b 1,(cellX x.p.vars s).low,(cellX x.p.vars s).high⟩] ++ [⟨16,W s,fr x.b 0,fr x.b 1⟩]) jn zb35 zb16 _ (HM12.out)).mono ?_
 rintro e w14 ⟨rfl,hm14,hk14⟩
 have YK14:=J ((YR13.out).trans hk14)
 have HM14:=J hm14
 have HKK14:=J hk14
 clear hm14 hk14
 have YV14':=J (YV13'.out.trans (show KT x.B x.wm _ _ from HKK14.out))
 have hgo:goalL (L ++ cX x W o0 n0 s0 K0 0 ++ cX x W o1 n1 s1 K1 1 ++ [⟨18,fr x.b 2,fr x.b 0,(cellX x.p.vars s).size⟩] ++ [⟨20,0,fr x.b 2,0⟩] ++ [⟨17,fr x.b 1,(cellX x.p.vars s).low,(cellX x.p.vars s).high⟩] ++ [⟨16,W s,fr x.b 0,fr x.b 1⟩]) jn ((L ++ cX x W o0 n0 s0 K0 0 ++ cX x W o1 n1 s1 K1 1 ++ [⟨18,fr x.b 2,fr x.b 0,(cellX x.p.vars s).size⟩] ++ [⟨20,0,fr x.b 2,0⟩] ++ [⟨17,fr x.b 1,(cellX x.p.vars s).low,(cellX x.p.vars s).high⟩] ++ [⟨16,W s,fr x.b 0,fr x.b 1⟩]:List Ins).length:Nat)=L ++ cS0 x.k W L.length 1 s F low:=by
  have hv:(((L ++ cX x W o0 n0 s0 K0 0 ++ cX x W o1 n1 s1 K1 1 ++ [⟨18,fr x.b 2,fr x.b 0,(cellX x.p.vars s).size⟩] ++ [⟨20,0,fr x.b 2,0⟩] ++ [⟨17,fr x.b 1,(cellX x.p.vars s).low,(cellX x.p.vars s).high⟩] ++ [⟨16,W s,fr x.b 0,fr x.b 1⟩]:List Ins).length:Nat):Int)=(L.length:Int)+(cX x W o0 n0 s0 K0 0).length+(cX x W o1 n1 s1 K1 1).length+4:=by
   simp only [List.length_append,List.length_cons,List.length_nil];omega
  rw [HCX.out,HJ.out,hv]
  have:=goalL_mid (L ++ cX x W o0 n0 s0 K0 0 ++ cX x W o1 n1 s1 K1 1 ++ [⟨18,fr x.b 2,fr x.b 0,(cellX x.p.vars s).size⟩]) [⟨17,fr x.b 1,(cellX x.p.vars s).low,(cellX x.p.vars s).high⟩,⟨16,W s,fr x.b 0,fr x.b 1⟩] ⟨20,0,fr x.b 2,0⟩ ((L.length:Int)+(cX x W o0 n0 s0 K0 0).length+(cX x W o1 n1 s1 K1 1).length+4)
  simp only [List.append_assoc,List.cons_append,List.nil_append] at this ⊢
  rw [this]
 go_wp2_with fail
 go_end0
 have hmf:=HM14.out
 rw [hgo] at hmf
 exact ⟨rfl,hmf,(KT.ext y1).trans YK14.out⟩
end Go.Proofs.YtbfbabbcdochjaaGreatDoor
