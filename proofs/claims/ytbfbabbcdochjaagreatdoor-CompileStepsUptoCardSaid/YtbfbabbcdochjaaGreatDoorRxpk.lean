/- Ends of proofs that stand more than once, each as a theorem with a default proof, run where it is used. -/
import Derived.WalkKit
import Derived.WalkSpells
import Derived.WalkLawsBesides
import Derived.RegionTactic
import Derived.BigRegion
import Derived.Deep.QuietTactic
import Derived.BigQuiet
import Derived.Outline
import Derived.Lib.Hide
import Derived.Deep.RegionWith
import Derived.Deep.LoopGhost
import Derived.Deep.DeepCutAuto
import Derived.StillTailTactics
import Derived.Deep.RegionHeld3
namespace Go.Proofs.YtbfbabbcdochjaaGreatDoor
theorem J {p : Prop} (h : p) : Go.RowKit.Hid p := Go.Lib.hid h
theorem qs3 {G G' : Prop} (g : G') (h : G' → G := by (intro qq; have QQ := Go.Lib.hid qq; clear qq; (first | ((apply w3_pure); (· go_simp); (· (intro w1; go_simp; try with_reducible rfl))) | ((apply w3_skip); (· go_simp)) | fail); (intro K hK; go_simp; refine hK _ _ ?_; clear hK K); exact QQ.out)) : G := h g
theorem qs4 {G G' : Prop} (g : G') (h : G' → G := by (intro qq; have QQ := Go.Lib.hid qq; clear qq; (first | ((apply w4_pure); (· go_simp); (· (intro w1; go_simp; try with_reducible rfl))) | ((apply w4_skip); (· go_simp)) | fail); (intro K hK; go_simp; refine hK _ _ ?_; clear hK K); exact QQ.out)) : G := h g
theorem qs5 {G G' : Prop} (g : G') (h : G' → G := by (intro qq; have QQ := Go.Lib.hid qq; clear qq; (first | ((apply w5_pure); (· go_simp); (· (intro w1; go_simp; try with_reducible rfl))) | ((apply w5_skip); (· go_simp)) | fail); (intro K hK; go_simp; refine hK _ _ ?_; clear hK K); exact QQ.out)) : G := h g
theorem qnx {G G' : Prop} (g : G') (h : G' → G := by (intro qq; have QQ := Go.Lib.hid qq; clear qq; (intro K hK; go_simp; refine hK _ _ ?_; clear hK K); exact QQ.out)) : G := h g
theorem qls {G G' : Prop} (g : G') (h : G' → G := by (intro qq; have QQ := Go.Lib.hid qq; clear qq; (refine wpList_step (fun K hK => ?_); go_simp; (try go_bits); refine hK _ _ ?_; clear hK K); exact QQ.out)) : G := h g
theorem qrl {G G' : Prop} (g : G') (h : G' → G := by (intro qq; have QQ := Go.Lib.hid qq; clear qq; intro l' hl'; simp only [List.map_cons, List.map_nil, List.getD_cons_zero, List.getD_cons_succ] at hl'; subst hl'; exact QQ.out)) : G := h g
theorem qrp {G G' : Prop} (g : G') (h : G' → G := by (intro qq; have QQ := Go.Lib.hid qq; clear qq; intro p' hp'; simp only [Pl0.fill, List.getD_cons_zero, List.getD_cons_succ] at hp'; subst hp'; exact QQ.out)) : G := h g
theorem qf3 {G G' : Prop} (g : G') (h : G' → G := by (intro qq; have QQ := Go.Lib.hid qq; clear qq; (repeat (first | (refine qs3 ?_) | (refine w3_end (by kernel_rfl) (fun K hK => ?_); go_simp; refine hK.out _ _ ?_; clear hK K) | fail)); refine w3_nil ?_; exact QQ.out)) : G := h g
theorem qf4 {G G' : Prop} (g : G') (h : G' → G := by (intro qq; have QQ := Go.Lib.hid qq; clear qq; (repeat (first | (refine qs4 ?_) | (refine w4_end (by kernel_rfl) (fun K hK => ?_); go_simp; refine hK.out _ _ ?_; clear hK K) | fail)); refine w4_nil ?_; exact QQ.out)) : G := h g
theorem qf5 {G G' : Prop} (g : G') (h : G' → G := by (intro qq; have QQ := Go.Lib.hid qq; clear qq; (repeat (first | (refine qs5 ?_) | (refine w5_end (by kernel_rfl) (fun K hK => ?_); go_simp; refine hK.out _ _ ?_; clear hK K) | fail)); refine w5_nil ?_; exact QQ.out)) : G := h g
theorem zgo {G : Prop} (h : G := by (go_simp; (try with_reducible rfl); first | done | fail)) : G := h
theorem zb1 {G : Prop} (h : G := by intro w1 hS;have d1:=(HCW.out.ext (HY3.out.trans hS));have d2:=bC d1.blk;have d3:=d1.blk.lt;have d7:=elook d1 s;rw [← HV.out,hvI] at d7;clear d1;have d4:=bX hE0.out (HY3.out.trans hS);have d5:=bC d4;have d6:=d4.lt;exact zgo) : G := h
theorem zb2 {G : Prop} (h : G := by intro w1 hS;have d0:=bX HB.out hS;have d1:=bC d0;have d2:=d0.lt;have hm':=HM.out.ext hS;obtain ⟨A',n',cp',hb',_⟩:=hm'.blk;have d3:=bC hb';have d4:=hb'.lt;have d5:=look_expr hm'.tabE op HF.out.1 HF.out.2;exact zgo) : G := h
theorem zb3 {G : Prop} (h : G := by intro w1 hS;have d0:=KT.block hS.1 HBr.out (by decide) (by decide);have d1:=bC d0;have d2:=d0.lt;obtain ⟨L',hm'⟩:=hS.2;obtain ⟨A',n',cp',hb',_⟩:=hm'.blk;have d3:=bC hb';have d4:=hb'.lt;have d5:=MS.look hm';exact zgo) : G := h
theorem zb4 {G : Prop} (h : G := by intro w1 hS;have d1:=(HCW.out.ext (HY1.out.trans hS));have d2:=bC d1.blk;have d3:=d1.blk.lt;clear d1;have d4:=bX hE0.out (HY1.out.trans hS);have d5:=bC d4;have d6:=d4.lt;exact zgo) : G := h
theorem zb5 {G : Prop} (h : G := by intro w1 hS;have d0:=bX HS3.out hS;have d1:=bH d0;have d2:=bG d0;have d3:=d0.lt;have c0:=bX HC3.out.box hS;have c1:=bC c0;have c3:=c0.lt;exact zgo) : G := h
theorem zb6 {G : Prop} (h : G := by intro w1 hS;have d4:=bX hE0.out hS;have d5:=bC d4;have d6:=d4.lt;have d7:=cell_ext (p:=⟨2,k,none⟩) hS (by have:=HLW.out.lt;show 2 < _;omega) HT.out;exact zgo) : G := h
theorem zb7 {G : Prop} (h : G := by intro w1 hS;have d4:=bX hE0.out hS;have d5:=bC d4;have d6:=d4.lt;have d7:=cell_ext (p:=⟨4,k,none⟩) hS (by have:=HLW.out.lt;show 4 < _;omega) HT.out;exact zgo) : G := h
theorem zb8 {G : Prop} (h : G := by intro w1 hS;have d4:=bX HV1.out hS;have d5:=bC d4;have d6:=d4.lt;have e4:=bX HB.out (HXC.out.trans hS);have e5:=bC e4;have e6:=e4.lt;exact zgo) : G := h
theorem zb9 {G : Prop} (h : G := by intro w1 hS;have d4:=bK HPB.out (HKE.out.trans (Kept.ext hS)) HNE.out.1;have d5:=bC d4;have d6:=d4.lt;have d7:=bH d4;have d8:=bG d4;exact zgo) : G := h
theorem zb10 {G : Prop} (h : G := by intro w1 hS;have d0:=bX HS5.out hS;have d1:=bC d0;have d2:=d0.lt;have e0:=bX HC5.out hS;have e1:=bC e0;have e2:=e0.lt;exact zgo) : G := h
theorem zb11 {G : Prop} (h : G := by intro w1 hS;have d0:=bX HBI.out hS;have d1:=bH d0;have d2:=bG d0;have d3:=d0.lt;have e0:=bX HCI.out hS;have e1:=e0.lt;exact zgo) : G := h
theorem zb12 {G : Prop} (h : G := by intro w1 hS;have d4:=bX hV.out (HY2.out.trans hS);have d5:=bC d4;have d6:=d4.lt;have d7:=bH d4;have d8:=bG d4;exact zgo) : G := h
theorem zb13 {G : Prop} (h : G := by intro w1 hS;have d4:=bX hV.out (HY3.out.trans hS);have d5:=bC d4;have d6:=d4.lt;have d7:=bH d4;have d8:=bG d4;exact zgo) : G := h
theorem zb14 {G : Prop} (h : G := by intro w1 hS;have d4:=bK HPB.out (HKE.out.trans (Kept.ext hS)) HNE.out.1;have d5:=bC d4;have d6:=d4.lt;exact zgo) : G := h
theorem zb15 {G : Prop} (h : G := by intro w1 hS;have d4:=bX hV.out (HY2.out.trans hS);have d5:=bC d4;have d6:=d4.lt;have d7:=HLK.out _ hS;exact zgo) : G := h
theorem zb16 {G : Prop} (h : G := by have:=HL.out;rw [HCX.out] at this;simp only [List.length_append,List.length_cons,List.length_nil,someI] at this ⊢;omega) : G := h
theorem zb17 {G : Prop} (h : G := by intro w1 hS;have d0:=bK hC.out hS (by rw [HPB.out];exact HPO.out);have d1:=bC d0;have d2:=d0.lt;exact zgo) : G := h
theorem zb18 {G : Prop} (h : G := by intro w1 hS;have d1:=cell_ext hS hbw C2.out;have d2:=cell_ext hS hbw C5.out;have d3:=cell_ext hS hbw C6.out;exact zgo) : G := h
theorem zb19 {G : Prop} (h : G := by have:=HL.out;rw [HCX.out] at this;simp only [List.length_append,List.length_cons,List.length_nil] at this ⊢;omega) : G := h
theorem zb20 {G : Prop} (h : G := by intro w1 hS;have d1:=bC (bX hI2 hS);have d2:=(hM2.ext hS).cell y hyl;rw [← HV.out] at d2;exact zgo) : G := h
theorem zb21 {G : Prop} (h : G := by intro w1 hS;have d0:=bX HFB.out hS;have d1:=bG d0;have d2:=bH d0;have d3:=d0.lt;exact zgo) : G := h
theorem zb22 {G : Prop} (h : G := by intro w1 hS;have d4:=bX hE0.out (HY1.out.trans hS);have d5:=bC d4;have d6:=d4.lt;exact zgo) : G := h
theorem zb23 {G : Prop} (h : G := by intro w1 hS;have d4:=bX hE0.out (HY2.out.trans hS);have d5:=bC d4;have d6:=d4.lt;exact zgo) : G := h
theorem zb24 {G : Prop} (h : G := by intro w1 hS;have d4:=bX hE0.out (HY4.out.trans hS);have d5:=bC d4;have d6:=d4.lt;exact zgo) : G := h
theorem zb25 {G : Prop} (h : G := by intro w1 hS;have d4:=bX hV.out (HY1.out.trans hS);have d5:=bC d4;have d6:=d4.lt;exact zgo) : G := h
theorem zb26 {G : Prop} (h : G := by intro w1 hS;have d0:=bK hC.out hS HRB.out;have d1:=bC d0;have d2:=d0.lt;exact zgo) : G := h
theorem zb27 {G : Prop} (h : G := by intro w1 hS;have d1:=bC (bX hC.out hS);have d2:=(bX hC.out hS).lt;exact zgo) : G := h
theorem zb28 {G : Prop} (h : G := by have:=HLL.out;(try simp only [List.length_append,List.length_cons,List.length_nil]);omega) : G := h
theorem zb29 {G : Prop} (h : G := by intro w1 hS;have d0:=bX HC.out.box hS;have d1:=bC d0;have d2:=d0.lt;exact zgo) : G := h
theorem zb30 {G : Prop} (h : G := by intro w1 hS;have d0:=bX HB1.out hS;have d1:=bC d0;have d2:=d0.lt;exact zgo) : G := h
theorem zb31 {G : Prop} (h : G := by intro w1 hS;have d4:=bX hE0.out hS;have d5:=bC d4;have d6:=d4.lt;exact zgo) : G := h
theorem zb32 {G : Prop} (h : G := by intro w1 hS;have d4:=bX HS.out hS;have d5:=bC d4;have d6:=d4.lt;exact zgo) : G := h
theorem zb33 {G : Prop} (h : G := by intro w1 hS;have d4:=bX hV.out hS;have d5:=bC d4;have d6:=d4.lt;exact zgo) : G := h
theorem zb34 {G : Prop} (h : G := by have:=HLX.out;simp only [List.length_append,List.length_cons,List.length_nil];omega) : G := h
theorem zb35 {G : Prop} (h : G := by rw [HJ.out];simp only [List.length_append,List.length_cons,List.length_nil];omega) : G := h
theorem zb36 {G : Prop} (h : G := by (try simp only [List.length_append,List.length_cons,List.length_nil]);omega) : G := h
theorem zb37 {G : Prop} (h : G := by unfold exC;rw [if_neg (by omega),if_neg (by omega),if_neg (by omega)];rfl) : G := h
theorem zb38 {G : Prop} (h : G := by have:=hvo;first | exact hvo.high | exact hvo.2.2.2 | exact hvo.2.2.1) : G := h
theorem zb39 {G : Prop} (h : G := by have a:=HNL.out;have b:=HN3.out;have d:=y4.size;omega) : G := h
theorem zb40 {G : Prop} (h : G := by have:=HNC.out;have:=HNB.out;have:=HKJ.out.size;omega) : G := h
theorem zb41 {G : Prop} (h : G := by have:=HPV.out;have a:=HNL.out;have b:=HN3.out;omega) : G := h
theorem zb42 {G : Prop} (h : G := by have:=codeB_len HSL.out;unfold codeB at this;omega) : G := h
theorem zb43 {G : Prop} (h : G := by have:=HCI.out.lt;show cb < wr.heap.size+1;omega) : G := h
theorem zb44 {G : Prop} (h : G := by simp [execI,mput,mget_in hyl,mget_in hzl,hv,hu]) : G := h
theorem zb45 {G : Prop} (h : G := by rw [hu];exact HO.out _ (List.getElem_mem hzl)) : G := h
theorem zb46 {G : Prop} (h : G := by rw [hv];exact HO.out _ (List.getElem_mem hyl)) : G := h
theorem zb47 {G : Prop} (h : G := by unfold i32ok at hxo;unfold i64ok;omega) : G := h
theorem zb48 {G : Prop} (h : G := by have a:=HN3.out;have b:=HNB.out;omega) : G := h
theorem zb49 {G : Prop} (h : G := by have a:=HNL.out;have b:=HN3.out;omega) : G := h
theorem zb50 {G : Prop} (h : G := by rw [HN.out,List.take_length];exact hv) : G := h
theorem zb51 {G : Prop} (h : G := by have:=HNC.out;have:=HCI.out.lt;omega) : G := h
theorem zb52 {G : Prop} (h : G := by rw [hxe];exact List.getElem_mem hjl) : G := h
theorem zb53 {G : Prop} (h : G := by simp [twoI,IntKind.wrap_i32,wrap32]) : G := h
theorem zb54 {G : Prop} (h : G := by rw [HR.out];exact Blk.put_ hDr 0 _) : G := h
theorem zb55 {G : Prop} (h : G := by have:=HM.out;have:=HMN.out;omega) : G := h
theorem zb56 {G : Prop} (h : G := by simp [execI,mget_in hyl,← hv,hz]) : G := h
theorem zb57 {G : Prop} (h : G := by show i64ok 0;unfold i64ok;omega) : G := h
theorem zb58 {G : Prop} (h : G := by rw [HR.out];exact sizeFaultR) : G := h
theorem zb59 {G : Prop} (h : G := by rw [← HSC.out];exact HLC.out) : G := h
theorem zb60 {G : Prop} (h : G := by exact Blk.put_ HR7.out 0 _) : G := h
theorem zb61 {G : Prop} (h : G := by exact Blk.put_ HR8.out 0 _) : G := h
theorem zb62 {G : Prop} (h : G := by rw [← HT.out];exact HZ.out) : G := h
theorem zb63 {G : Prop} (h : G := by exact Blk.put_ HR.out 0 _) : G := h
theorem zb64 {G : Prop} (h : G := by rw [← HXE.out];exact hq) : G := h
theorem zb65 {G : Prop} (h : G := by have:=HCP.out.2;omega) : G := h
theorem zb66 {G : Prop} (h : G := by have:=HCL.out;omega) : G := h
theorem zb67 {G : Prop} (h : G := by have:=HIQ.out;omega) : G := h
theorem zb68 {G : Prop} (h : G := by have:=HNB.out;omega) : G := h
theorem zb69 {G : Prop} (h : G := by have:=HQN.out;omega) : G := h
theorem zb70 {G : Prop} (h : G := by have:=HRW.out;omega) : G := h
theorem zb71 {G : Prop} (h : G := by have:=HSB.out;omega) : G := h
theorem zb72 {G : Prop} (h : G := by have:=HSL.out;omega) : G := h
theorem zb73 {G : Prop} (h : G := by unfold i32ok;omega) : G := h
theorem zb74 {G : Prop} (h : G := by unfold i64ok;omega) : G := h
theorem zb75 {G : Prop} (h : G := by have:=hkd 0;omega) : G := h
theorem zb76 {G : Prop} (h : G := by rw [hlen'];decide) : G := h
theorem zb77 {G : Prop} (h : G := by unfold codeP;simp) : G := h
theorem zb78 {G : Prop} (h : G := by rw [HX3.out];rfl) : G := h
theorem zb79 {G : Prop} (h : G := by exact sizeArr5i) : G := h
theorem zb80 {G : Prop} (h : G := by unfold fr;omega) : G := h
theorem zb81 {G : Prop} (h : G := by exact sizeOutT) : G := h
theorem zb82 {G : Prop} (h : G := by simp <;> omega) : G := h
theorem zb83 {G : Prop} (h : G := by kernel_rfl) : G := h
theorem zb84 {G : Prop} (h : G := by decide) : G := h
theorem zb85 {G : Prop} (h : G := by omega) : G := h
theorem zb86 {G : Prop} (h : G := by simp) : G := h
theorem zb87 {G : Prop} (h : G := by rfl) : G := h
theorem zz6 {G : Prop} (h : G := by
 intro KEY0
 have KEY:=J KEY0
 clear KEY0
 refine qr4 (fun wz=>SM x f W W1 wz) (.op 0 2 (.op 1 2 (.op 2 2 (.op 3 1 (.op 4 2 (.op 5 1 (.fork 6 (.op 7 2 (.op 8 2 (.op 9 2 (.op 10 2 (.op 11 0 (.op 12 2 (.op 13 0 (.op 14 2 .nil)))))))) 11 (.op 6 0 (.op 7 2 (.op 8 2 (.op 9 2 (.op 10 2 (.op 12 2 (.op 13 0 (.op 14 2 .nil))))))))))))))) ?_;refine qrp ?_
 have HY0:=J (show Ext W1 W1.drew from (kR _ W1).drew)
 (repeat (first | refine qs4 ?_ | ((apply w4_take);(· exact ⟨KT.ext HY0.out,_,HMr.out.ext HY0.out⟩);(· go_simp);(· (intro w1 hS;have d0:=KT.block hS.1 HBr.out zb84 zb84;have d1:=bC d0;have d2:=d0.lt;obtain ⟨L',hm'⟩:=hS.2;obtain ⟨A',n',cp',hb',_⟩:=hm'.blk;have d3:=bC hb';have d4:=hb'.lt;have d5:=MS.look hm';have d6:=bH hb';have d7:=bG hb'; go_simp;try with_reducible rfl));refine qnx ?_) | ((apply w4_pass);(· exact ⟨KT.ext HY0.out,_,HMr.out.ext HY0.out⟩);(· go_simp);refine qnx ?_)))
 refine w4_fork ?_ ?_
 ·(refine w4_act (fun K hK=>?_);go_simp)
  go_wp2_with fail
  refine (scell_any x.c x.p s x.N _ (Nat.le_trans hs0 HY0.out.size) (HMr.out.ext HY0.out).prog).mono ?_
  rintro e w1 ⟨rfl,hx1⟩
  have y2:=HY0.out.trans hx1
  refine hK.out _ _ (fun _=>⟨KT.ext y2,_,HMr.out.ext y2⟩) ?_
  clear hK K
  refine zy47 ?_;intro K hK
  have y3:=y2.alloc (.cells #[.string ⟨#[]⟩,.int .i64 0,.int .i64 0,.int .i64 0] 109)
  have hfb:=bN w1 109 #[.string ⟨#[]⟩,.int .i64 0,.int .i64 0,.int .i64 0]
  refine hK.out _ _ (fun _=>⟨KT.ext y3,_,HMr.out.ext y3⟩) ?_
  clear hK K
  generalize hW2:w1.alloc (.cells #[.string ⟨#[]⟩,.int .i64 0,.int .i64 0,.int .i64 0] 109)=W2 at y3 hfb ⊢
  clear hW2
  have hfl:(W1:World).heap.size≤w1.heap.size:=y2.size
  generalize w1.heap.size=fb at hfb hfl ⊢
  have hmf:=hfb.melts
  have hhf:=bH hfb
  refine zy47 ?_;intro K hK
  have y4:=y3.putAt fb 0 (vcells (cellX x.p.vars s)) (fun hlt=>absurd hlt zb85)
  have hf4:Blk (putAt W2 fb 0 (vcells (cellX x.p.vars s))) fb 109 (vcells (cellX x.p.vars s)):=Blk.put_ hfb 0 (vcells (cellX x.p.vars s))
  refine hK.out _ _ (fun _=>⟨KT.ext y4,_,HMr.out.ext y4⟩) ?_
  clear hK K hmf hhf
  refine qf4 ?_
  generalize putAt W2 fb 0 (vcells (cellX x.p.vars s))=W3 at y4 hf4 ⊢
  exact KEY.out _ _ ⟨y4,hf4⟩
 ·(refine w4_act (fun K hK=>?_);go_simp)
  have y1':Ext W1 (W1.alloc (.cells #[.string ⟨#[]⟩,.int .i64 0,.int .i64 0,.int .i64 0] 109)).drew:=((kR _ W1).alloc _).drew
  refine hK.out _ _ (fun _=>⟨KT.ext y1',_,HMr.out.ext y1'⟩) ?_
  clear hK K
  generalize hWx:(W1.alloc (.cells #[.string ⟨#[]⟩,.int .i64 0,.int .i64 0,.int .i64 0] 109)).drew=Wx at y1' ⊢
  have hfb1:Blk Wx W1.heap.size 109 #[.string ⟨#[]⟩,.int .i64 0,.int .i64 0,.int .i64 0]:=by rw [← hWx];exact Blk.drew (bN W1 _ _)
  clear hWx
  have hfl:(W1:World).heap.size≤W1.heap.size:=Nat.le_refl _
  generalize hfbe:(W1.heap.size:Nat)=fb at hfb1 hfl ⊢
  have HFL:=J (show (W1:World).heap.size≤fb by omega)
  clear hfl hfbe
  have HY1:=J y1'
  refine zy47 ?_;intro K hK
  go_wp2_with fail
  refine (scell_any x.c x.p s x.N _ (Nat.le_trans hs0 HY1.out.size) (HMr.out.ext HY1.out).prog).mono ?_
  rintro e w1 ⟨rfl,hx1⟩
  have y2:=HY1.out.trans hx1
  refine hK.out _ _ (fun _=>⟨KT.ext y2,_,HMr.out.ext y2⟩) ?_
  clear hK K y1'
  have hfb2:=bX hfb1 hx1
  have hmf:=hfb2.melts
  have hhf:=bH hfb2
  refine zy47 ?_;intro K hK
  have y4:=y2.putAt fb 0 (vcells (cellX x.p.vars s)) (fun hlt=>absurd hlt (by have:=HFL.out;omega))
  have hf4:Blk (putAt w1 fb 0 (vcells (cellX x.p.vars s))) fb 109 (vcells (cellX x.p.vars s)):=Blk.put_ hfb2 0 (vcells (cellX x.p.vars s))
  refine hK.out _ _ (fun _=>⟨KT.ext y4,_,HMr.out.ext y4⟩) ?_
  clear hK K hmf hhf
  refine qf4 ?_
  generalize putAt w1 fb 0 (vcells (cellX x.p.vars s))=W3 at y4 hf4 ⊢
  exact KEY.out _ _ ⟨y4,hf4⟩) : G := h
theorem zz10 {G : Prop} (h : G := by
 go_wp2_with fail
 go_loopw [56] (fun t56 wr=>∃ (j:Nat) (R:EF),j+R.len=kn∧chkE κ R=r∧t56=.int .i64 j∧EFAt w0 N0 R b (off+j * 4)∧EF.All (ExSC cb κ w0) R∧Ext W wr) (fun t56 _=>kn - (intOf t56).toNat)
 case atStart=>exact ⟨0,F,by rw [HN.out,Nat.zero_add],HEQ.out,rfl,by simpa using HE.out,HI.out,ys⟩
 case round =>
  obtain ⟨j,R,hj,hacc,rfl,hR,hI,hx⟩:=hrel
  have HRR:=J hR
  have HI2:=J hI
  have HX:=J hx
  have HACC:=J hacc
  clear hR hI hx hacc
  cases R with
  | nil =>
   simp only [EF.len,Nat.add_zero] at hj
   subst hj
   have hr0:r=none:=by rw [← HACC.out];rfl
   have HR0:=J hr0
   clear hr0
   go_wp2_with fail
   go_end0
   exact ⟨by rw [HXR.out,HR0.out];rfl,HX0.out.trans HX.out⟩
  | cons op' m' name' q rr =>
   obtain ⟨hb,h1,h2,h3,⟨A',cap,b',off',hh,hg,hl,hA',hk⟩,hr⟩:=HRR.out
   simp only [EF.len] at hj
   have hlt:(j:Int) < kn:=by omega
   obtain rfl:=HA.out zb85
   have hx0r:=hx0.trans (HX0.out.trans HX.out)
   refine zy21 ?_;intro hbl hh' hg' hbw
   have KE:=J (show ESl w0 N0 A' q.len q from ⟨rfl,hl,b',off',hA',hk⟩)
   have IK:=J HI2.out.1
   have HX0r:=J hx0r
   have HR2:=J hr
   clear hh hg hl hA' hk h1 h2 h3 HRR hbl hx0r hr
   go_wp2_with fail
   have y0:Ext wr _:=(kR _ wr).alloc (.cells (ecells op' m' name' A' q.len cap) 200)
   obtain ⟨f,hf⟩:∃ f,f=chk1 κ op' m' name' q:=⟨_,rfl⟩
   have HF:=J hf
   have HK:=J (IK.out op' m' name' A' q.len cap N0 _ (HX0r.out.trans y0) hN0 KE.out)
   rw [← hf] at HK
   clear hf
   refine HK.out.mono ?_
   rintro e w1 ⟨he,hx1⟩
   cases f with
   | none =>
    have he:=MustR.none he
    subst he
    have HNX:=J (show chkE κ rr=r by have h:=HACC.out;rw [chkE_cons,← HF.out] at h;exact h)
    go_wp2_with fail
    go_roundw
    case rel=>exact ⟨j+1,rr,by omega,HNX.out,by go_num,by rw [Nat.add_mul,← Nat.add_assoc];exact HR2.out,HI2.out.2,HX.out.trans (y0.trans hx1)⟩
    case measure=>simp only [intOf];omega
   | some f =>
    have he:=MustR.some he
    subst he
    have HRF:=J (show X=some f by have h:=HACC.out;rw [chkE_cons,← HF.out] at h;rw [HXR.out,← h];rfl)
    show _∧_
    exact ⟨rfl,by rw [HRF.out];exact ⟨rfl,HX0.out.trans (HX.out.trans (y0.trans hx1))⟩⟩) : G := h
theorem zz12 {G : Prop} (h : G := by
 clear HTX
 obtain ⟨aq,nq,cq,m0,mo⟩:=(HMa.out).blk
 have m1:=m0.lt
 have m0:=bC m0
 clear mo
 go_wp2_with fail
 obtain ⟨hsn,hsf,sb,so,hsA,hsE⟩:=HS.out
 have hsl0:SSl w N A F.len F:=⟨rfl,by rw [← hsn];exact hsf,sb,so,fun h=>hsA (by rw [hsn];exact h),hsE⟩
 have hsl:=(hsl0.kept HWX.out (by rw [HPB.out];exact hN) (fun _ f=>f.elim)).kt HKa.out hNB hlB.out
 subst hsn
 refine (mblock_any ⟨B,N,mb,p,c,b,wm,sm,em⟩ part F 0 (topW p b part) κ true A cap [] _ ⟨hbb.1,hbb.2,fun s=>(HW0.out s).1,fun s=>(HW0.out s).2⟩ HWz.out zb85 HMa.out hsl HC.out hz (by have:=HL.out;show 0+(cB ⟨p.vars,p.seats,b⟩ F (topW p b part) 0 0).length≤4000;omega)).mono ?_
 rintro e wb ⟨rfl,hmb,hkb⟩
 have HMb:=J (show MS wb B N mb p c b wm sm em 0 (topW p b part) (cB ⟨p.vars,p.seats,b⟩ F (topW p b part) 0 0) from hmb)
 have HKb:=J (HKa.out.trans (show KT B wm _ wb from hkb))
 clear hmb hkb m0 m1 hsf hsA hsE hsl hsl0
 go_wp2_with fail
 refine (put_any B N mb wm sm em 0 p c b (topW p b part) (cB ⟨p.vars,p.seats,b⟩ F (topW p b part) 0 0) ⟨0,0,0,0⟩ ⟨zb57,zb57,zb57,zb57⟩ (by have:=HL.out;omega) _ HMb.out).mono ?_
 rintro e wz ⟨rfl,hmz,hkz⟩
 have HKz:=J (HKb.out.trans hkz)
 obtain ⟨az,nz,cz,z0,zo⟩:=hmz.blk
 have z1:=z0.lt
 have z0:=bC z0
 have HOK:=J hmz.okL
 have HZO:=J zo
 clear hmz hkz zo
 go_wp2_with fail
 go_ret
 refine ⟨az,nz,cz,?_,?_,?_,HOK.out⟩
 ·rfl
 ·exact HWX.out.trans' (HKz.out.below) (fun i hi e=>by have:=HNW.out;have:=HPB.out;omega)
 ·rw [HPB.out,HNW.out];exact HZO.out) : G := h
theorem zz15 {G : Prop} (h : G := by
 go_wp2_with fail
 refine qr3 (fun w1=>Kept (·=w.heap.size+1) wr w1) [(0,1),(1,2),(2,2),(3,1),(4,2),(5,0),(6,2),(7,2)] ?_;refine qrl ?_
 (repeat first|refine qs3 ?_|refine qt3 (Kept.drew (kR _ _)) (by intro w1 hS;have d0:=bK hA hS (show ¬ w.heap.size=w.heap.size+1 by omega);have d1:=bC d0;have d2:=bH d0;have d3:=bG d0;exact zgo) ?_|refine qp3 (Kept.drew (kR _ _)) ?_)
 (refine w3_act (fun K hK=>?_);go_simp)
 refine hK.out _ _ (fun h=>Kept.putAt h _ _ _ (fun _=>rfl)) ?_
 clear hK K
 refine qf3 ?_
 have hR5:Blk (putAt wr (w.heap.size+1) 0 (stCells pc' (some ⟨g,0,none⟩) n kc halt')).drew (w.heap.size+1) 49 (stCells pc' (some ⟨g,0,none⟩) n kc halt'):=Blk.put_ hRr _ _
 have y5:Ext w (putAt wr (w.heap.size+1) 0 (stCells pc' (some ⟨g,0,none⟩) n kc halt')).drew:=(Kept.putAt yr _ _ _ (fun h=>by omega)).drew
 have hM5:MemAt (putAt wr (w.heap.size+1) 0 (stCells pc' (some ⟨g,0,none⟩) n kc halt')).drew w.heap.size g n kc m':=hM.kept ((Kept.putAt (S:=(·=w.heap.size+1)) (kR _ wr) _ _ _ (fun _=>rfl)).drew) zb85
 go_wp2_with fail
 refine ret_cii Tryz.results26 rfl rfl aggMst (by exact sizeMst) hR5 ?_
 exact FIN.out _ hR5 hM5 y5) : G := h
theorem zz16 {G : Prop} (h : G := by
 have HC:=J hcall
 clear h hX hf hcall
 go_enter Tryz.func163,Tryz.ntmps163
 go_upto_region 1 with (fail)
 generalize (w.alloc (.cells (ecells op n s A F.len kc) 200))=W1 at y1 hB0 hMS hX1 ⊢
 generalize (w:World).heap.size=g at hB0 ⊢
 have HB:=J hB0
 have HX:=J hX1
 have HM:=J hMS
 clear hMS hB0 hX1
 refine qr3 (fun w2=>Ext W1 w2) [(0,2),(1,2),(2,2),(3,1),(4,2),(5,1),(6,1),(7,2),(8,2),(9,2),(10,2),(11,2)] ?_;refine qrl ?_
 have y2:Ext W1 W1.drew:=(kR _ W1).drew
 (repeat first|refine qs3 ?_|refine qt3 y2 zb2 ?_|refine qp3 y2 ?_)
 refine qf3 ?_
 have HB2:=bX HB.out y2
 have i1:=bH HB2
 have i2:=bG HB2
 have i3:=HB2.lt
 clear HB2
 go_wp2_with fail
 refine (HC.out _ (HM.out.ext y2) (HX.out.kt (KT.ext (B:=x.B) (wm:=x.wm) y2) HM.out.hN HM.out.hB)).mono ?_
 rintro e w2 ⟨rfl,hm2,hk2⟩
 go_wp2_with fail
 refine results_none' Tryz.results163 rfl ?_
 exact ⟨rfl,hm2,(KT.ext (y1.trans y2)).trans hk2⟩) : G := h
theorem zz17 {G : Prop} (h : G := by
 rw [e6] at hb6
 clear e6 hk2 hk3
 have HB6:=J hb6
 have HK6:=J (Kept.trans (Kept.ext (S:=(·=g)) yd) hk6)
 clear hb6 hk6 yd
 refine w3_end zb83 (fun K hK=>?_)
 refine if_want' rfl ?_
 refine Lib.wp_copy_run _ _ _ _ _ rfl _ _ rfl rfl (hr6 _) ?_
 refine hK.out _ _ ?_
 clear hK K hr6
 refine qf3 ?_
 have hs6:=bK HS5.out HK6.out hgs
 have hr6:=bK (bK HB4.out HK5.out (by have:=HRL.out;omega)) HK6.out (by have:=HRL.out;omega)
 have l1:=bH hs6
 have l2:=bG hs6
 have l3:=hs6.lt
 have l4:=bH hr6
 have l5:=Blk.melts hr6
 have l6:=hr6.lt
 have HR6:=J hr6
 have HST:=J hs6
 clear hr6 hs6
 go_wp2_with fail
 have kp:Kept (·=rb) w6 (putAt w6 rb 0 #[.int .i64 0,.slice (some ⟨g,0,none⟩) (memN p) (memN p),.int .i64 0]):=Kept.putAt (kR _ _) _ 0 _ (fun _=>rfl)
 refine ret_ci (t:=49) (g:=rb) (cs:=stCells 0 (some ⟨g,0,none⟩) (memN p) (memN p) 0) Tryz.results19 rfl rfl aggMst (by exact sizeMst) (by exact Blk.put_ HR6.out 0 _) ⟨?_,.ok HF0.out g HGE.out (bK HB6.out kp (by have:=HRL.out;omega))⟩
 exact ((HY0.out.trans HY2.out).trans HY4.out).trans' (((HK5.out.trans HK6.out).mono (S':=fun i=>i=g ∨ i=rb) (fun _ _ e=>Or.inl e)).trans' kp (fun i hi e=>Or.inr e)) (fun i hi e=>by have h1:=HRB.out;have h2:=HGE.out;omega)) : G := h
theorem zz18 {G : Prop} (h : G := by
 refine HK.out.mono ?_
 rintro e w2 ⟨hb,hk2⟩
 have HX2:=J (HX.out.trans ((Kept.ext HY0.out).trans hk2))
 clear hk2 HK
 cases v with
 | none =>
  obtain ⟨he,hc2⟩:=hb
  subst he
  have HC2:=J hc2
  have HNX:=J (show chkB i κ' fors _ r=Z from HACC.out)
  clear hc2
  go_wp2_with fail
  go_roundw
  case rel=>exact ⟨m+1,r,by omega,HNX.out,by go_num,by rw [Nat.add_mul,← Nat.add_assoc];exact HR2.out,HAL.out.2.2,HC2.out,HX2.out⟩
  case measure=>simp only [intOf];omega
 | some f =>
  obtain ⟨he,mm,kk,hS2,hB2⟩:=hb
  subst he
  have HZF:=J (show Z=some f from HACC.out.symm)
  have HS2:=J hS2
  have HB2:=J hB2
  have hk4:=bC (bK H4B.out HX2.out HNE.out.1) 0
  have hk7:=bC (bK H7B.out HX2.out HNE.out.2) 0
  clear hS2 hB2 c4 l4
  refine leaves_cons (f:=175) (args:=#[.pointer (some ⟨p4+1,0,none⟩),.pointer (some ⟨p4,0,none⟩)]) zb86 (by simp [go_sem]) ?_
  refine (forget_any (p4+1) p4 cb g B j bc ns mm (partName i) kk (.panicking (thr f)) p4 _ hk7 hk4 HB2.out HS2.out (HSL.out _ HX2.out)).mono ?_
  rintro e u' w3 ⟨rfl,rfl,hM3,hk3⟩
  refine ⟨?_,HWR.out.trans (HX2.out.trans (hk3.mono fun _ _ h=>Or.inl h))⟩
  rw [HZF.out]
  exact ⟨rfl,_,_,hM3,bK HB2.out hk3 HCX.out.ne⟩) : G := h
theorem zz24 {G : Prop} (h : G := by
 rw [← ht]
 have HT:=J ht
 clear ht
 refine qf3 ?_
 have hS3:StAt (w2.setCell ⟨g,a,none⟩ (.int .i32 (t))).drew s 49 pc (some ⟨g,0,none⟩) n kc 0:=Blk.far hS2 (p:=⟨g,a,none⟩) hsg (.int .i32 (t))
 have hM3:MemAt (w2.setCell ⟨g,a,none⟩ (.int .i32 (t))).drew base g n kc (m.set a (t)):=(hM2.set a hal (t)).ext ((kR _ _).drew)
 have hk3:Kept (fun i=>i=s ∨ i=g) w (w2.setCell ⟨g,a,none⟩ (.int .i32 (t))).drew:=(Kept.setCell (Kept.ext x2) _ _ (fun _=>.inr rfl)).drew
 generalize (w2.setCell ⟨g,a,none⟩ (.int .i32 (t))).drew=W3 at hS3 hM3 hk3 ⊢
 have hcS3:=bC hS3
 have hfS3:=Blk.frozen hS3
 go_wp2_with fail
 go_end0
 refine ⟨rfl,?_⟩
 rw [HE.out,← HT.out]
 exact Stepped.goal hk3 hS3 hM3 hsg _) : G := h
theorem zz27 {G : Prop} (h : G := by
 refine qf3 ?_
 have hS1:StAt W.drew s 49 pc (some ⟨g,off,none⟩) k kc halt:=hS0
 have hc1:=bC hS1
 have hq1:-2147483648≤q:=by rw [HQ.out];omega
 have hq2:q≤2147483903:=by rw [HQ.out];omega
 clear hw1 hw0
 by_cases h1:(k:Int)≤q
 ·have b1:decide ((k:Int)≤q)=true:=by simpa using h1
  go_wp2_with fail
  go_ret
  exact ⟨ret_int (by unfold placeI;rw [if_neg zb85]),hx0.drew⟩
 ·have b1:decide ((k:Int)≤q)=false:=by simpa using h1
  go_wp2_with fail
  go_ret
  refine ⟨ret_int ?_,hx0.drew⟩
  unfold placeI
  by_cases h0:0≤q
  ·rw [if_pos ⟨h0,by omega⟩,Int.max_eq_left zb85]
  ·rw [if_neg zb85,Int.max_eq_right zb85]) : G := h
theorem zz29 {G : Prop} (h : G := by
 obtain ⟨xn,xs,xl,xh⟩:=x
 by_cases hq:xh < xl
 ·have hqg:xl > xh:=hq
  go_wp2_with fail
  go_ret
  have hany:p.params.any (fun v=>decide (v.high < v.low))=true:=List.any_eq_true.2 ⟨p.params[j],List.getElem_mem hjl,by rw [← HXE.out];exact decide_eq_true hq⟩
  refine ⟨?_,HX0.out.trans (HX.out.trans y0.out)⟩
  rw [HXM.out]
  unfold menu
  rw [hany]
  rfl
 ·have hqg:¬ xl > xh:=hq
  go_wp2_with fail
  have hq2:decide (xh < xl)=false:=decide_eq_false hq
  exact ⟨⟨j+1,hlt,by go_num,by rw [List.take_add_one,List.getElem?_eq_getElem hjl,← HXE.out,List.any_append,HACC.out];simp [hq2],HX.out.trans y0.out⟩,by simp only [intOf];omega⟩) : G := h
theorem zz30 {G : Prop} (h : G := by
 obtain ⟨A',cp',rfl⟩:=own_slice32 hoa
 have HOA:=J hoa
 have HKA:=J (show Ext W wa from ((HKJ.out.trans HYC.out).trans y1).trans' hka (fun i hi e=>by have:=((own_ext (own_ext HOJ.out HYC.out) y1).lt i e).1;omega))
 clear hoa hka y1 hrow1
 go_step
 iterate 3 refine qls ?_
 refine wpList_app rfl (.tmp 37) (.tmp 39) 27 rfl rfl rfl rfl hra ?_
 clear hra
 go_wp2_with fail
 go_roundw
 case rel=>exact ⟨j+1,⟨A',s.n+1,cp'⟩,by omega,by go_num,rfl,by show wa.ownsRow _ _ _ _ _ (mems ((List.range (j+1)).map _));rw [range_snoc,HXV.out];exact HOA.out,HKA.out⟩
 case measure=>simp only [intOf];omega) : G := h
theorem zz32 {G : Prop} (h : G := by
 obtain ⟨A',cp',rfl⟩:=own_slice32 hoa
 have HOA:=J hoa
 have HKA:=J (show Ext wc wa from (HKQ.out.trans y1).trans' hka (fun i hi e=>by have:=((own_ext HOQ.out y1).lt i e).1;omega))
 clear hoa hka y1 hrow1
 go_step
 iterate 3 refine qls ?_
 refine wpList_app rfl (.tmp 87) (.tmp 89) 27 rfl rfl rfl rfl hra ?_
 clear hra
 go_wp2_with fail
 go_roundw
 case rel=>exact ⟨i+1,by omega,by go_num,⟨A',q.n+1,cp'⟩,⟨rfl,rfl,rfl⟩,by show wa.ownsRow _ _ _ _ _ (mems ((List.range (i+1)).map _));rw [range_snoc,HXV.out];exact HOA.out,HKA.out⟩
 case measure=>simp only [intOf];omega) : G := h
theorem zz33 {G : Prop} (h : G := by
 obtain ⟨A',cp',rfl⟩:=own_slice32 hoa
 have HOA:=J hoa
 have HKA:=J (show Ext wc wa from (HKI.out.trans y1).trans' hka (fun i hi e=>by have:=((own_ext HOI.out y1).lt i e).1;omega))
 clear hoa hka y1 hrow1
 go_step
 iterate 3 refine qls ?_
 refine wpList_app rfl (.tmp 87) (.tmp 89) 27 rfl rfl rfl rfl hra ?_
 clear hra
 go_wp2_with fail
 go_roundw
 case rel=>exact ⟨i+1,⟨A',q.n+1,cp'⟩,by omega,by go_num,rfl,by show wa.ownsRow _ _ _ _ _ (mems ((List.range (i+1)).map _));rw [range_snoc,HXV.out];exact HOA.out,HKA.out⟩
 case measure=>simp only [intOf];omega) : G := h
theorem zz36 {G : Prop} (h : G := by
 have HR:=J (show X=none by rw [HX4.out,hv1];rfl)
 refine zy76 ?_;intro K hK
 try rw [qv2]
 refine (must_any true _ _ _).mono ?_
 rintro e w1 ⟨he,rfl⟩
 have he:=MustR.none he
 subst he
 refine hK.out _ _ ?_
 clear hK K
 refine qf3 ?_
 have hcE3:=bC (bX hE0.out (HY3.out.trans HU0.out))
 have hlE3:=(bX hE0.out (HY3.out.trans HU0.out)).lt
 go_wp2_with fail
 go_end0
 exact ⟨by rw [HR.out];rfl,HX.out⟩) : G := h
theorem zz37 {G : Prop} (h : G := by
 rw [List.length_map,List.length_range] at hfl
 refine row_of_cells _ (by rw [hfl];exact Nat.mul_pos h0 hpos) (fun j hj=>?_)
 rw [hfl] at hj
 rw [flatten_get hpos _ hlen']
 have hq:j / sz < len:=Nat.div_lt_of_lt_mul (by rw [Nat.mul_comm];exact hj)
 have hr:=(hC (j / sz) hq).2.2 (j % sz) (Nat.mod_lt _ hpos)
 rw [hsp h0,oaddr_add,oaddr_add,Nat.add_assoc] at hr
 rw [show j / sz * sz+j % sz=j by rw [Nat.mul_comm];exact Nat.div_add_mod j sz] at hr
 rw [hr]
 simp [hq]) : G := h
theorem zz38 {G : Prop} (h : G := by
 rintro e w5 ⟨rfl,hm5,hk5⟩
 rw [← HSC.out] at hm5
 refine hK.out _ _ (fun _=>⟨yd.trans hk5,_,hm5⟩) ?_
 clear hK K
 refine qf3 ?_
 have HM5:=J hm5
 have HK5:=J (HKR.out.trans (HY0.out.trans (yd.trans hk5)))
 clear hm5 hk5 yd
 go_wp2_with fail
 go_roundw
 case rel=>exact ⟨m+1,r,Lm ++ SC,by omega,HCN.out,HZN.out,by go_num,by rw [Nat.add_mul,← Nat.add_assoc];exact HRN.out,HAN.out,HM5.out,HCB.out,HK5.out⟩
 case measure=>simp only [intOf];omega) : G := h
theorem zz39 {G : Prop} (h : G := by
 rintro e w2 ⟨e2,hx2⟩
 replace e2:e=.returned (.int .i64 F):=by rw [e2,HF.out]
 subst e2
 have x2:=x1.trans hx2
 have hI2:=bX hI1 hx2
 have hS2:=bX hS1 hx2
 have hM2:=hM1.ext hx2
 clear hI1 hS1 hM1 x1 hx2 hi1 hj1
 have hcI:=bC hI2
 have hcS:=bC hS2
 have hfS:=Blk.frozen hS2
 have lI:=hI2.lt
 have lS:=hS2.lt
 go_wp2_with fail
 refine results_none' Tryz.results63 rfl ⟨rfl,?_⟩
 exact Stepped.halt (Kept.ext x2) hS2 hM2 hsg _) : G := h
theorem zz40 {G : Prop} (h : G := by
 refine qf4 ?_
 have ks:Kept (·=bn) w5 (putAt w5 bn 0 (stCells pc (some ⟨g5,0,none⟩) (memN p) c5 sh)):=Kept.putAt (kR _ _) _ 0 _ (fun _=>rfl)
 have ye:Ext w7 (putAt w5 bn 0 (stCells pc (some ⟨g5,0,none⟩) (memN p) c5 sh)):=Kept.trans' yr ks (fun i hi e=>by omega)
 clear l1 l2 l3 ks
 generalize (putAt w5 bn 0 (stCells pc (some ⟨g5,0,none⟩) (memN p) c5 sh))=we at ye ⊢
 exact KEY.out we gi ci q5 g5 c5 bn ⟨ye,hq5⟩) : G := h
theorem zz41 {G : Prop} (h : G := by
 have hi:i < (es.toList.map (·.key)).length:=by rw [List.length_map];exact (List.getElem?_eq_some_iff.1 hx).1
 have hj':j < (es.toList.map (·.key)).length:=by rw [List.length_map];exact (List.getElem?_eq_some_iff.1 h2).1
 refine (List.getElem_inj hn (h₀:=hi) (h₁:=hj')).1 ?_
 have e1:=(List.getElem?_eq_some_iff.1 hx).2
 have e2:=(List.getElem?_eq_some_iff.1 h2).2
 rw [List.getElem_map,List.getElem_map,e1,e2,hxk,h3]) : G := h
theorem zz43 {G : Prop} (h : G := by
 refine leaves_cons (f:=71) (args:=#[.pointer (some ⟨rb,0,none⟩)]) zb86 (by simp [go_sem]) ?_
 refine (catch_panicking rb _ _ (bK HRB.out HKE.out HNE.out.2)).mono ?_
 rintro e u' w9 ⟨rfl,hu,hb9,hk9⟩
 show Leaves _ _ _ _ _ _ _
 rw [hu]
 refine ⟨_,results_cell_row Tryz.results42 _ _ rb _ _ _ _ rfl hb9 Tryz.underlying104 rfl sizeFaultS,?_⟩
 rw [HR.out]
 exact ⟨rfl,HOWN.out _ _ HKE.out hk9⟩) : G := h
theorem zz44 {G : Prop} (h : G := by
 go_upto_region 13 with (fail)
 clear i1 i2 i3 i4 i5
 go_wp2_with fail
 refine (bsum1_any nb m 0 _ HM6.out zb85 BM.out).mono ?_
 rintro e wf ⟨rfl,bf,kf⟩
 go_wp2_with fail
 go_ret
 refine ⟨congrArg (fun z:Nat=>Ending.returned (.int .i64 z)) (by first | exact HSF.out | (rw [Nat.add_zero];exact HSF.out)),?_⟩
 exact (hwx.trans Y3.out).trans' (KM.out.trans kf) (fun i hi e=>by have:=HN3.out.2;omega)) : G := h
theorem zz45 {G : Prop} (h : G := by
 rw [qn] at HX4
 clear hvI
 refine zy76 ?_;intro K hK
 try rw [qv2]
 refine (must_any false _ _ _).mono ?_
 rintro e w1 ⟨he,rfl⟩
 have he:e=.panicked (thr ⟨11,s⟩):=he
 subst he
 have HR:=J (show X=some ⟨11,s⟩ by rw [HX4.out];rfl)
 show _∧_
 exact ⟨rfl,by rw [HR.out];exact ⟨rfl,HX0.out.trans (HY3.out.trans HU0.out)⟩⟩) : G := h
theorem zz47 {G : Prop} (h : G := by
 obtain ⟨es,clock,hb,_,_,_,h1 | ⟨j,e,h1,_,_,h4⟩⟩:=h.find s
 ·simp [Instr.lookup,run_underlying hu,MapKept.run_getObj_map hb,MapKept.run_checkKey hk (key_str s),MapKept.run_findKey hk h1.1,hz,Result.andThen,h1.2.1]
 ·simp [Instr.lookup,run_underlying hu,MapKept.run_getObj_map hb,MapKept.run_checkKey hk (key_str s),MapKept.run_findKey hk h1,Result.andThen,h4]) : G := h
theorem zz49 {G : Prop} (h : G := by
 obtain ⟨es,clock,hb,_,_,_,h1 | ⟨j,e,h1,_,_,h4⟩⟩:=h.find s
 ·simp [Instr.lookup,run_underlying hu,MapKept.run_getObj_map hb,MapKept.run_checkKey hk (key_int s),MapKept.run_findKey hk h1.1,hz,Result.andThen,h1.2.1]
 ·simp [Instr.lookup,run_underlying hu,MapKept.run_getObj_map hb,MapKept.run_checkKey hk (key_int s),MapKept.run_findKey hk h1,Result.andThen,h4]) : G := h
theorem zz51 {G : Prop} (h : G := by
 have HQ:=J hq
 clear hq
 go_wp2_with fail
 go_roundw
 case rel=>exact ⟨j+1,hlt,by go_num,by
  intro v hv
  rw [List.take_add_one,List.getElem?_eq_getElem hjl,← HX.out] at hv
  simp only [Option.toList_some,List.mem_append,List.mem_singleton] at hv
  rcases hv with hv | rfl
  ·exact HNO.out v hv
  ·exact HQ.out,by trivial⟩
 case measure=>simp only [intOf];omega) : G := h
theorem zz53 {G : Prop} (h : G := by
 go_wp2_with fail
 refine (bsum1_any nb z 0 _ HM6.out zb85 BF.out).mono ?_
 rintro e wf ⟨rfl,bf,kf⟩
 go_wp2_with fail
 go_ret
 refine ⟨congrArg (fun z:Nat=>Ending.returned (.int .i64 z)) (by first | exact HSF.out | (rw [Nat.add_zero];exact HSF.out)),?_⟩
 exact (hwx.trans Y3.out).trans' (KF.out.trans kf) (fun i hi e=>by have:=HN3.out.2;omega)) : G := h
theorem zz57 {G : Prop} (h : G := by
 have HFA:=J (show wr.ownsRow w.heap.size 21 1 q.v q.n (mems (fitA p part A)) from by unfold fitA;rw [HGV.out];exact own_mono HOI.out (Nat.le_trans HX0.out.size HYW.out.size))
 have HFV2:=J (own_ext HOW.out HKI.out)
 go_wp2_with fail
 go_ret2
 exact ⟨s,q,rfl,HFV2.out,HFA.out,HX0.out.trans (HYW.out.trans HKI.out)⟩) : G := h
theorem zz58 {G : Prop} (h : G := by
 refine zy56 ?_;clear yd1 hK K;intro w2 yk2 HM2 YR3
 clear yk2 HBr
 go_wp2_with fail
 go_end0
 refine ⟨rfl,?_,(KT.ext y1).trans YR3.out⟩
 exact (HM2.out)) : G := h
theorem zz59 {G : Prop} (h : G := by
 rw [if_neg (show ¬ t=0 by omega),if_neg (show ¬ t=1 by omega),if_neg (show ¬ t=2 by omega),if_neg (show ¬ t=3 by omega),if_neg (show ¬ t=4 by omega),if_neg (show ¬ t=5 by omega),if_neg (show ¬ t=6 by omega),if_neg (show ¬ t=7 by omega),if_neg (show ¬ t=8 by omega),if_neg (show ¬ t=9 by omega)]) : G := h
theorem zz60 {G : Prop} (h : G := by
 have HR:=J (show X=some ⟨6,s⟩ by rw [HX4.out,qv];rfl)
 rw [qv]
 refine (must_any false _ _ _).mono ?_
 rintro e w1 ⟨he,rfl⟩
 have he:e=.panicked (thr ⟨6,s⟩):=he
 subst he
 show _∧_
 exact ⟨rfl,by rw [HR.out];exact ⟨rfl,HX0.out.trans (HY2.out.trans HZ0.out)⟩⟩) : G := h
theorem zz66 {G : Prop} (h : G := by
 (refine w3_last zb83 zb83 (fun K hK=>?_);go_simp)
 refine (must_any false _ _ _).mono ?_
 rintro e w1 ⟨he,rfl⟩
 have he:e=.panicked (thr ⟨3,E0⟩):=he
 subst he
 show _∧_
 exact ⟨rfl,by rw [HR.out];exact ⟨rfl,HX0.out.trans HY0.out⟩⟩) : G := h
theorem zz68 {G : Prop} (h : G := by
 rintro e w5 ⟨rfl,b5,k5⟩
 go_wp2_with fail
 go_ret
 refine ⟨congrArg (fun z:Nat=>Ending.returned (.int .i64 z)) (by rw [HVV.out];exact satN_self (satN_le _)),?_⟩
 exact (y1.trans Y3.out).trans' (k4.trans k5) (fun i hi e=>by have:=hnl;omega)) : G := h
theorem zz69 {G : Prop} (h : G := by
 have l1:=bC HB.out
 have l2:=HB.out.lt
 have hF0:F=0:=by
  rw [HF.out];unfold fitsN
  rw [if_neg zb85,if_neg hok,if_neg zb85]
 have HF0:=J hF0
 clear hF0 hok
 go_wp2_with fail
 go_ret
 exact ⟨ret_int HF0.out.symm,HY.out⟩) : G := h
theorem zz70 {G : Prop} (h : G := by
 go_wp2_with fail
 go_roundw
 case rel=>exact ⟨j+1,hlt,by go_num,fun i hi h=>by
  by_cases e:i=j
  ·subst e;exact HOK.out
  ·exact H1.out i hi zb85,fun h0 _=>H2.out h0 zb85,by trivial⟩
 case measure=>simp only [intOf];omega) : G := h
theorem zz71 {G : Prop} (h : G := by
 exact (HVN.out.from_ HWS.out).kept kp (fun x hx e=>by subst e;exact own_other HVN.out.vars (E':=38) zb84 _ hx _ _ HR7.out) (fun x hx e=>by subst e;exact own_other HVN.out.asks (E':=38) zb84 _ hx _ _ HR7.out)) : G := h
theorem zz73 {G : Prop} (h : G := by
 refine (must_any false _ _ _).mono ?_
 rintro e w8 ⟨he,rfl⟩
 have he:=MustR.some he
 subst he
 show _∧_
 refine ⟨rfl,?_,HXE.out⟩
 rw [HR.out]
 exact ⟨rfl,_,_,(HCX.out.ext HXE.out).map,(HCX.out.ext HXE.out).blk⟩) : G := h
theorem zz74 {G : Prop} (h : G := by
 have HE:=J e
 subst hq
 clear e
 go_wp2_with fail
 refine ret_ci Tryz.results112 rfl rfl aggWins (by exact sizeWins) (Blk.put_ hR1 _ _) ⟨by rw [HE.out];rfl,?_⟩
 exact Kept.putAt (hx0.trans y1) _ _ _ (fun h=>by omega)) : G := h
theorem zz75 {G : Prop} (h : G := by
 rw [e2,mget_put _ zb80 zb80 zb80,if_neg zb80,v1,mget_put _ zb80 zb80 zb80,if_pos rfl]
 exact ⟨rfl,rfl⟩) : G := h
theorem zz76 {G : Prop} (h : G := by
 obtain ⟨hcl,_,hat⟩:=hC 0 h0
 have h0':=hat 0 hpos
 rw [List.getElem?_eq_getElem zb85] at h0'
 have e:(a.add (0 * sz)).add 0=a:=by simp [Addr.add]
 rw [e] at h0'
 have:=ospot_of_cell h0'
 cases a;simp_all) : G := h
theorem zz77 {G : Prop} (h : G := by
 subst hF
 rcases ho.2 with ⟨hv,_⟩ | ⟨g,c,cur,hv,_⟩
 ·exact ⟨none,0,by rw [hv],hn,hf,0,0,fun q=>by omega,trivial⟩
 ·exact ⟨some ⟨g,0,none⟩,c,by rw [hv],hn,hf,0,0,fun q=>by omega,trivial⟩) : G := h
theorem zz78 {G : Prop} (h : G := by
 rw [List.any_append]
 by_cases h:t=x
 ·subst h;simp
 ·have:¬ x=t:=fun e=>h e.symm
  have h2:decide (x=t)=false:=decide_eq_false this
  simp only [List.any_cons,List.any_nil,h2,Bool.or_false]
  rw [if_neg h]) : G := h
theorem zz79 {G : Prop} (h : G := by
 refine (must_any true _ _ _).mono ?_
 rintro e w1 ⟨he,rfl⟩
 have he:=MustR.none he
 subst he
 refine hK.out _ _ ?_
 clear hK K
 refine qf3 ?_
 go_wp2_with fail
 go_end0
 exact ⟨by rw [HR.out];rfl,HX.out⟩) : G := h
theorem zz80 {G : Prop} (h : G := by
 have hq:=HP4.out
 exact (y1.trans Y3.out).trans' ((HKS.out.mono (fun _ _ e=>Or.inr e)).trans (Kept.putAt (S:=fun i=>i=p4+1 ∨ i=p4+2) (kR _ _) _ 0 _ (fun _=>Or.inl rfl))) (fun i hi e=>by omega)) : G := h
theorem zz81 {G : Prop} (h : G := by
 go_wp2_with fail
 exact ret_cell Tryz.results94 rfl rfl aggFaultR (by exact sizeFaultR) (Blk.put_ hDr 0 _) ⟨rfl,(HX0.out.trans HXC.out).putAt _ _ _ (fun hlt=>absurd hlt zb70)⟩) : G := h
theorem zz83 {G : Prop} (h : G := by
 go_wp2_with fail
 refine (told16_any w1 (HLW.out.ext HX1.out) (HOW.out.ext HX1.out)).mono ?_
 rintro e w2 ⟨rfl,hx2⟩
 go_wp2_with fail
 go_ret
 exact ⟨rfl,HX0.out.trans (HX1.out.trans hx2)⟩) : G := h
theorem zz84 {G : Prop} (h : G := by
 by_cases hw:Region.wanted (l.getD k nop) (yielded l.toArray a.tmps)=true
 ·rw [if_pos hw] at h;simp only [if_pos hw];exact h
 ·rw [if_neg hw] at h;simp only [if_neg hw];exact ⟨.inr id,h⟩) : G := h
theorem zz86 {G : Prop} (h : G := by
 have hp':a.tmps[p]?.getD undef=.pointer (some ⟨g,0,none⟩):=by simpa using hp
 exact bodyPost_ret (by simp [results,hres,hp',asAddr,run_loadVar_blk ha hs hb]) hd hR) : G := h
theorem zz87 {G : Prop} (h : G := by
 refine (must_any false _ _ _).mono ?_
 rintro e w1 ⟨he,rfl⟩
 have he:=MustR.some he
 subst he
 show _∧_
 exact ⟨rfl,by rw [HR.out];exact ⟨rfl,HX.out⟩⟩) : G := h
theorem zz88 {G : Prop} (h : G := by
 have hcS3:=bC hS3
 have hfS3:=Blk.frozen hS3
 go_wp2_with fail
 go_end0
 refine ⟨rfl,?_⟩
 rw [HE.out]
 exact Stepped.goal hk3 hS3 hM3 hsg _) : G := h
theorem zz89 {G : Prop} (h : G := by
 have HF1:=J hF1
 clear e2 hF1
 have l1:=bC HB.out
 have l2:=HB.out.lt
 go_wp2_with fail
 go_ret
 exact ⟨ret_int HF1.out.symm,HY.out⟩) : G := h
theorem zz90 {G : Prop} (h : G := by
 go_wp2_with fail
 refine (is_any _ _).mono ?_
 rintro e w1 ⟨rfl,rfl⟩
 rw [HH.out]
 go_wp2_with fail
 go_ret
 exact ⟨rfl,hx0⟩) : G := h
theorem zz91 {G : Prop} (h : G := by
 go_wp2_with fail
 refine (truth_any _ _).mono ?_
 rintro e w1 ⟨rfl,rfl⟩
 go_wp2_with fail
 go_ret
 exact ⟨rfl,rfl⟩) : G := h
theorem zz92 {G : Prop} (h : G := by
 simp only [List.length_append,List.length_cons,List.length_nil,itI]
 refine Prod.ext ?_ rfl
 simp only
 omega) : G := h
theorem zz93 {G : Prop} (h : G := by
 rcases (by omega:i=0 ∨ i=1 ∨ i=2 ∨ i=3 ∨ i=4) with rfl | rfl | rfl | rfl | rfl <;> rfl) : G := h
theorem zz94 {G : Prop} (h : G := by
 have HF1:=J hF1
 clear e1 hF1
 go_wp2_with fail
 go_ret
 exact ⟨ret_int HF1.out.symm,HY.out⟩) : G := h
theorem zz95 {G : Prop} (h : G := by
 have OK:=J ok
 clear ok
 go_wp2_with fail
 go_ret
 exact ⟨ret_bool (SP.out OK.out).symm,y3⟩) : G := h
theorem zz96 {G : Prop} (h : G := by
 rw [HF.out];unfold fitsN
 rw [if_neg zb85,if_pos (Or.inl (by rw [hw];omega))]) : G := h
theorem zz97 {G : Prop} (h : G := by
 rw [HF.out];unfold fitsN
 rw [if_neg zb85,if_pos (Or.inr (by rw [hw];omega))]) : G := h
theorem zz98 {G : Prop} (h : G := by
 exact (HY6.out.trans HY7.out).trans' kp (fun i hi e=>by have:=HRB.out;omega)) : G := h
theorem zz99 {G : Prop} (h : G := by
 go_wp2_with fail
 go_ret
 exact ⟨ret_int (by simp [twoI,H0.out]),rfl⟩) : G := h
theorem zz100 {G : Prop} (h : G := by
 simp only [if_true]
 exact HL6.out.kept hset (fun i e=>by omega)) : G := h
theorem zz102 {G : Prop} (h : G := by
 (repeat refine qs4 ?_)
 obtain ⟨v84,V4,hrun,ho84,hk84,-⟩:=appR (f:=strC) elemStr (fun _=>rfl) (fun _=>rfl) V3 wr.heap.size v80 (0+n) ([] ++ pl) ho80 u6 0 1 1 [name] rfl (Row.of_blk q6) (by have:=HSR.out.2.1;omega) y3.size
 have y4:Ext wr V4:=y3.trans' hk84 (fun i hi e=>by have:=(ho80.lt i e).1;omega)
 refine w4_act (fun K hK=>?_)
 refine zy60 ?_
 refine hK.out _ _ (fun _=>y4) ?_
 clear hK K hrun
 have hkB:=bX HK.out (HXC.out.trans y4)
 have hcK:=bC hkB
 have hzK:=Blk.frozen hkB
 have hlK:=hkB.lt
 obtain ⟨g2,c2,rfl,hrow,hg2,-⟩:=own_rows ho84 zb85 zb85
 rw [Nat.zero_add]
 refine qf4 ?_
 have hk9:Kept (·=kb) wr (V4.setCell ⟨kb,11,none⟩ (.slice (some ⟨g2,0,none⟩) (n+1) c2)):=(Kept.ext y4).setCell _ _ (fun _=>rfl)
 have hb9:Blk (V4.setCell ⟨kb,11,none⟩ (.slice (some ⟨g2,0,none⟩) (n+1) c2)) kb 120 (knCells c (some ⟨g2,0,none⟩) (n+1) c2):=by
  have q:=Blk.set_ hkB 11 (.slice (some ⟨g2,0,none⟩) (n+1) c2)
  exact q
 have hne:¬ g2=kb:=by have:=(bX HK.out HXC.out).lt;omega
 have hr9:StrSl (V4.setCell ⟨kb,11,none⟩ (.slice (some ⟨g2,0,none⟩) (n+1) c2)) (V4.setCell ⟨kb,11,none⟩ (.slice (some ⟨g2,0,none⟩) (n+1) c2)).heap.size (some ⟨g2,0,none⟩) (n+1) (pl ++ [name]):=by
  have hq:=hrow.kept ((kR (·=kb) V4).setCell ⟨kb,11,none⟩ (.slice (some ⟨g2,0,none⟩) (n+1) c2) (fun _=>rfl)) hne
  rw [strC_rows,List.nil_append] at hq
  exact ⟨by rw [List.length_append,← HSR.out.1];rfl,by have:=HSR.out.2.1;omega,g2,0,fun _=>rfl,fun _=>⟨hq.lt,hq⟩⟩
 generalize V4.setCell ⟨kb,11,none⟩ (.slice (some ⟨g2,0,none⟩) (n+1) c2)=V9 at hk9 hb9 hr9 ⊢
 generalize (Value.slice (some ⟨u0,0,none⟩) 0 0)=v77
 generalize (Value.slice (some ⟨u6,0,none⟩) 1 1)=v83
 exact KEY.out V9 v77 v80 v83 g2 c2 ⟨hk9,hb9,hr9⟩) : G := h
theorem zz103 {G : Prop} (h : G := by
 have y2:=HY1.out.trans hx1
 refine hK.out _ _ (fun _=>y2) ?_
 clear hK K y1
 have hfb2:=bX hfb1 hx1
 have hmf:=hfb2.melts
 have hhf:=bH hfb2
 have hfc:(fltC f).size=2:=by cases f <;> rfl
 have hff:flatL (fltC f).toList=true:=by cases f <;> rfl
 refine zy47 ?_;intro K hK
 have y3:=y2.putAt fb 0 (fltC f) (fun hlt=>absurd hlt (by have:=HFL.out;omega))
 have hf3:Blk (putAt w1 fb 0 (fltC f)) fb 60 (fltC f):=by
  have:=Blk.put_ hfb2 0 (fltC f)
  cases f <;> exact this
 refine hK.out _ _ (fun _=>y3) ?_
 clear hK K hmf hhf hfc hff
 refine qf4 ?_
 generalize putAt w1 fb 0 (fltC f)=W3 at y3 hf3 ⊢
 exact KEY.out _ _ ⟨y3,hf3⟩) : G := h
theorem zz104 {G : Prop} (h : G := by
 generalize w1.heap.size=fb at hfb hfl ⊢
 have hmf:=hfb.melts
 have hhf:=bH hfb
 have hfc:(fltC f).size=2:=by cases f <;> rfl
 have hff:flatL (fltC f).toList=true:=by cases f <;> rfl
 refine zy47 ?_;intro K hK
 have y3:=y2.putAt fb 0 (fltC f) (fun hlt=>absurd hlt zb85)
 have hf3:Blk (putAt W2 fb 0 (fltC f)) fb 60 (fltC f):=by
  have:=Blk.put_ hfb 0 (fltC f)
  cases f <;> exact this
 refine hK.out _ _ (fun _=>y3) ?_
 clear hK K hmf hhf hfc hff
 refine qf4 ?_
 generalize putAt W2 fb 0 (fltC f)=W3 at y3 hf3 ⊢
 exact KEY.out _ _ ⟨y3,hf3⟩) : G := h
theorem zz105 {G : Prop} (h : G := by
 have hDr:=bX hR0.out yr
 have hmr:=hDr.melts
 have hhr:=bH hDr
 go_wp2_with fail
 refine ret_cell (t:=60) (g:=rb) (cs:=fltC X) Tryz.results151 rfl rfl aggFaultR zb58 zb54 ⟨rfl,?_⟩
 exact (HX0.out.trans yr).putAt _ _ _ (fun hlt=>absurd hlt zb70)) : G := h
theorem zz106 {G : Prop} (h : G := by
 have he:=MustR.some he
 subst he
 have HR:=J (show X=some f from HX4.out)
 have HCE:=J (HCW.out.ext (ys.trans hx2))
 have HXE:=J (Kept.ext (S:=SG cb g) (HX0.out.trans (ys.trans hx2)))
 show _∧_
 refine ⟨rfl,?_,HXE.out⟩
 rw [HR.out]
 exact ⟨rfl,_,_,HCE.out.map,HCE.out.blk⟩) : G := h
theorem zz107 {G : Prop} (h : G := by
 simp only [EF.len,Nat.add_zero] at hj
 subst hj
 have hz0:Z=none:=by rw [← HACC.out];rfl
 rw [hz0] at HXR
 have HXQ:=J HXR.out
 clear hz0 HXR
 go_wp2_with fail
 go_end0
 have h:=HXQ.out
 rw [show X=none from h]
 exact ⟨⟨rfl,HCW.out.ext HX.out⟩,Kept.ext (HX0.out.trans HX.out)⟩) : G := h
theorem zz109 {G : Prop} (h : G := by
 rcases h1 with h1 | h1
 ·exact absurd h1.symm hne
 ·obtain ⟨_,oj,hoj,hall⟩:=mem_ready.1 hj
  refine downMask_listed hd _ _ (fun x hx=>?_) i h1
  obtain ⟨o,ho,e,he,hb,rfl⟩:=dpMask_bit hx
  rw [hoj] at ho
  injection ho with ho
  subst ho
  exact hall e he hb) : G := h
theorem zz110 {G : Prop} (h : G := by
 generalize (w4.alloc (.cells (mkCells none 0 0 c b wm 0 sm em) 160))=W9 at y9 hbm hm9 hs9 he9 ⊢
 generalize w4.heap.size=mb at hbm hml ⊢
 exact KEY.out _ _ _ _ _ ⟨y9,hm9,hs9,he9,hbm,hwl,hml⟩) : G := h
theorem zz111 {G : Prop} (h : G := by
 go_wp2_with fail
 go_roundw
 case rel=>exact ⟨j+1,r,by omega,HNX.out,by go_num,by rw [Nat.add_mul,← Nat.add_assoc];exact HR2.out,HI2.out.2.2,HXE.out⟩
 case measure=>simp only [intOf];omega) : G := h
theorem zz112 {G : Prop} (h : G := by
 rcases Nat.lt_or_ge i listed.size with h' | h'
 ·simp [h'] at h0 h1;rw [h0] at h1;cases h1
 ·simp [Array.getElem?_eq_none h'] at h1) : G := h
theorem zz113 {G : Prop} (h : G := by
 show _∧_
 refine ⟨rfl,?_,HXE.out⟩
 rw [HR.out]
 exact ⟨rfl,_,_,HCE.out.map,HCE.out.blk⟩) : G := h
theorem zz114 {G : Prop} (h : G := by
 exact (HX0.out.trans HXC.out).putAt _ _ _ (fun hlt=>absurd hlt zb70)) : G := h
theorem zz1 {G : Prop} (h : G := by
 obtain ⟨hst,hbn⟩:=owns_str2 HOW.out (by rw [List.length_take,List.length_map];have:=HNN.out;omega) (by have:=HP5.out;omega)
 have HAQ:=J (bX HAW.out HXQ.out)
 by_cases hi3:i=3
 ·have hi3b:((i:Int) == 3)=true:=by simp [hi3]
  have HI3:=J hi3
  clear hi3
  have y1:Ext wr _:=(kR (fun _=>False) wr).alloc (.cells #[.string p.silent] 9)
  have q6:=bN wr 9 #[.string p.silent]
  have hkB:=bX HKQ.out y1
  have hcK:=bC hkB
  have hzK:=Blk.frozen hkB
  have hlK:=hkB.lt
  have HAV:=J (bX HAQ.out y1)
  go_upto_region 31 with (fail)
  have hk9:Kept (fun g=>kb≤g) wr ((wr.alloc (.cells #[.string p.silent] 9)).setCell ⟨kb,11,none⟩ (.slice (some ⟨wr.heap.size,0,none⟩) 1 1)):=(y1.mono (fun i _ h=>h.elim)).setCell _ _ (fun _=>Nat.le_refl _)
  have hb9:Blk ((wr.alloc (.cells #[.string p.silent] 9)).setCell ⟨kb,11,none⟩ (.slice (some ⟨wr.heap.size,0,none⟩) 1 1)) kb 120 (knCells (⟨p.name,p.seats,⟨kA,j,kc⟩,⟨vA,vn,vc⟩,cs,⟨tA,tn,tc⟩,⟨A,n,cc⟩,cpl,p.silent,cq,⟨zA,zn,zc⟩⟩:Pc) (some ⟨wr.heap.size,0,none⟩) 1 1):=by
   have q:=Blk.set_ hkB 11 (.slice (some ⟨wr.heap.size,0,none⟩) 1 1)
   exact q
  have hke:Kept (·=kb) (wr.alloc (.cells #[.string p.silent] 9)) ((wr.alloc (.cells #[.string p.silent] 9)).setCell ⟨kb,11,none⟩ (.slice (some ⟨wr.heap.size,0,none⟩) 1 1)):=(kR _ _).setCell _ _ (fun _=>rfl)
  have hne:¬ wr.heap.size=kb:=by have:=HKQ.out.lt;omega
  have hrw:=(Row.of_blk q6).kept hke hne
  have hq6:=bK q6 hke hne
  have haq:=bK HAV.out hke (fun e=>by
   have h1:=HAW.out.lt
   have h2:=HKE.out
   omega)
  generalize ((wr.alloc (.cells #[.string p.silent] 9)).setCell ⟨kb,11,none⟩ (.slice (some ⟨wr.heap.size,0,none⟩) 1 1))=V9 at hk9 hb9 hrw hq6 haq ⊢
  generalize wr.heap.size=u6 at hb9 hrw hq6 ⊢
  have HXQ2:=J (HXQ.out.trans' hk9 (fun i hi q=>by have:=HKE.out;omega))
  clear hcK hzK hlK hkB y1 q6 hke hne HXQ HXB HKQ HOW HAQ HAV hk9 hst hbn hcP hlP
  obtain ⟨wr,hwq⟩:∃ w,w=V9:=⟨_,rfl⟩
  subst hwq
  have HXQ:=HXQ2
  have HXB:=J (HXC.out.trans HXQ.out)
  have HKQ:=J hb9
  have HAQ:=J haq
  have HST:=J (show StrSl wr wr.heap.size (some ⟨u6,0,none⟩) 1 (plOf p i) by
   rw [HI3.out]
   exact ⟨rfl,by omega,u6,0,fun _=>rfl,fun _=>⟨hq6.lt,hrw⟩⟩)
  have HBN:=J (show (some ⟨u6,0,none⟩:Option Addr)=none→1=0 from fun h=>nomatch h)
  clear hb9 hrw hq6 haq HXQ2
  refine zy35 ?_;intro sA sn sc HSS HAC f hf
  have HIK:=J (fun w' (hw':Ext wr w') (hs':StrSl w' w'.heap.size (some ⟨u6,0,none⟩) 1 (plOf p i))=>rblock_any (⟨p.name,p.seats,⟨kA,j,kc⟩,⟨vA,vn,vc⟩,cs,⟨tA,tn,tc⟩,⟨A,n,cc⟩,cpl,p.silent,cq,⟨zA,zn,zc⟩⟩:Pc) p i hlt N wr (Nat.le_trans HNW.out HXB.out.size) (HPA.out.ext HXB.out HNW.out) (partOf p i) 0 true (some ⟨u6,0,none⟩) 1 1 (plOf p i) sA sn sc w' hw' hs' HBN.out (plOf_len p i (by have:=HNN.out;have:=HP5.out;omega)) zb85 HSS.out)
  exact zz101
 ·have hi3b:((i:Int) == 3)=false:=by simp;omega
  have HST:=J (show StrSl wr wr.heap.size B q (plOf p i) from HPL.out hi3 ▸ hst)
  have HBN:=J hbn
  clear hst hbn
  go_upto_region 31 with (fail)
  clear hcP hlP
  refine zy35 ?_;intro sA sn sc HSS HAC f hf
  have HIK:=J (fun w' (hw':Ext wr w') (hs':StrSl w' w'.heap.size B q (plOf p i))=>rblock_any (⟨p.name,p.seats,⟨kA,j,kc⟩,⟨vA,vn,vc⟩,cs,⟨tA,tn,tc⟩,⟨A,n,cc⟩,cpl,p.silent,cq,⟨zA,zn,zc⟩⟩:Pc) p i hlt N wr (Nat.le_trans HNW.out HXB.out.size) (HPA.out.ext HXB.out HNW.out) (partOf p i) 0 true B q bc (plOf p i) sA sn sc w' hw' hs' HBN.out (plOf_len p i (by have:=HNN.out;have:=HP5.out;omega)) zb85 HSS.out)
  exact zz101) : G := h
theorem zz2 {G : Prop} (h : G := by
 have ys:=yt
 have hcE:=hcE2
 exact zz3) : G := h
theorem zz3 {G : Prop} (h : G := by
 go_wp2_with fail
 go_loopw [6] (fun t6 wr=>∃ (j:Nat) (R:EF),j+R.len=kn∧chkE (updAll (knV p.vars) l) R=r∧t6=.int .i64 j∧EFAt w0 N0 R b (off+j * 4)∧EF.All (ExRC c (updAll (knV p.vars) l) A n k w0) R∧Ext W wr) (fun t6 _=>kn - (intOf t6).toNat)
 case atStart=>exact ⟨0,F,by rw [HN.out,Nat.zero_add],HEQ.out,rfl,by simpa using HE.out,HI.out,ys⟩
 case round =>
  obtain ⟨j,R,hj,hacc,rfl,hR,hI,hx⟩:=hrel
  have HRR:=J hR
  have HI2:=J hI
  have HX:=J hx
  have HACC:=J hacc
  have hkr:=bX hK0.out hx
  have her:=bX hE0.out hx
  have hce:=bC her
  have hle:=her.lt
  clear hR hI hx hacc
  cases R with
  | nil =>
   simp only [EF.len,Nat.add_zero] at hj
   subst hj
   have hr0:r=none:=by rw [← HACC.out];rfl
   have HR0:=J hr0
   clear hr0
   go_wp2_with fail
   refine (fine_any _).mono ?_
   rintro e w1 ⟨rfl,hx1⟩
   have hDr:=bX hR0.out (HX.out.trans hx1)
   have hmr:=hDr.melts
   have hhr:=bH hDr
   go_wp2_with fail
   refine ret_cell (t:=60) (g:=rb) (cs:=fltC X) Tryz.results151 rfl rfl aggFaultR (by rw [HXR.out,HR0.out];exact sizeFaultR) (by rw [HXR.out,HR0.out];exact Blk.put_ hDr 0 _) ⟨rfl,?_⟩
   exact ((HX0.out.trans HX.out).trans hx1).putAt _ _ _ (fun hlt=>absurd hlt zb70)
  | cons op' m' name' q rr =>
   obtain ⟨hb,h1,h2,h3,⟨A',cap,b',off',hh,hg,hl,hA',hk⟩,hr⟩:=HRR.out
   simp only [EF.len] at hj
   have hlt:(j:Int) < kn:=by omega
   obtain rfl:=HA.out zb85
   have hx0r:=hx0.trans (HX0.out.trans HX.out)
   refine zy21 ?_;intro hbl hh' hg' hbw
   have KE:=J (show ESl w0 N0 A' q.len q from ⟨rfl,hl,b',off',hA',hk⟩)
   have IK:=J HI2.out.1
   have HX0r:=J hx0r
   have HR2:=J hr
   have HH:=J hh'
   have HG:=J hg'
   have HKR:=J hkr
   have HER:=J her
   clear hh hg hl hA' hk h1 h2 h3 HRR hbl hx0r hr
   go_upto_region 14 with (fail)
   clear hh' hg' hce hle hkr her
   obtain ⟨f,hf⟩:∃ f,f=chk1 (updAll (knV p.vars) l) op' m' name' q:=⟨_,rfl⟩
   have HF:=J hf
   clear hf
   apply meet (F:=fun W2 fb=>Ext wr W2∧Blk W2 fb 60 (fltC f))
   case h =>
    intro KEY0
    have KEY:=J KEY0
    clear KEY0
    refine qr4 (fun w1=>Ext wr w1) (.op 0 1 (.op 1 2 (.op 2 1 (.op 3 2 (.op 4 2 (.op 5 1 (.fork 6 (.op 7 0 (.op 8 0 .nil)) 7 (.op 6 0 (.op 8 0 .nil))))))))) ?_;refine qrp ?_
    have HY0:=J (show Ext wr wr.drew from (kR _ wr).drew)
    (repeat (first | refine qs4 ?_ | ((apply w4_take);(· exact HY0.out);(· go_simp);(· (intro w1 hS;have d0:=bX HKR.out hS;have d1:=bG d0;have d2:=bH d0;have d3:=d0.lt;have d4:=bX HER.out hS;have d5:=bC d4;have d6:=d4.lt;have d7:=has_ext hS hbw HH.out;have d8:=gets_ext hS hbw HG.out;have d9:=Nat.lt_of_lt_of_le hbw hS.size; go_simp;try with_reducible rfl));refine qnx ?_) | ((apply w4_pass);(· exact HY0.out);(· go_simp);refine qnx ?_)))
    refine w4_fork ?_ ?_
    ·(refine w4_act (fun K hK=>?_);go_simp)
     refine (IK.out op' m' name' A' q.len cap N0 _ (HX0r.out.trans HY0.out) hN0 KE.out).mono ?_
     rintro e w1 ⟨rfl,hx1⟩
     rw [← HF.out]
     have y1:=HY0.out.trans hx1
     refine zy28 ?_;clear hK K;intro W2 y2 hfb
     have hfl:wr.heap.size≤w1.heap.size:=y1.size
     exact zz104
    ·refine zy41 ?_;intro W1 hW1 y1
     have hfb1:Blk W1 wr.heap.size 60 #[.int .i64 0,.string ⟨#[]⟩]:=by rw [← hW1];exact Blk.drew (bN wr _ _)
     refine zy94 ?_;clear hW1 hfb1;intro fb hfb1 HFL HY1
     (repeat (first | refine qs4 ?_ | ((apply w4_take);(· exact HY1.out);(· go_simp);(· (intro w1 hS;have d0:=bX HKR.out hS;have d1:=bG d0;have d2:=bH d0;have d3:=d0.lt;have d4:=bX HER.out hS;have d5:=bC d4;have d6:=d4.lt;have d7:=has_ext hS hbw HH.out;have d8:=gets_ext hS hbw HG.out;have d9:=Nat.lt_of_lt_of_le hbw hS.size; go_simp;try with_reducible rfl));refine qnx ?_) | ((apply w4_pass);(· exact HY1.out);(· go_simp);refine qnx ?_)))
     (refine w4_act (fun K hK=>?_);go_simp)
     refine (IK.out op' m' name' A' q.len cap N0 _ (HX0r.out.trans HY1.out) hN0 KE.out).mono ?_
     rintro e w1 ⟨rfl,hx1⟩
     rw [← HF.out]
     exact zz103
   case h2 =>
    rintro W2 fb ⟨y2,hfb⟩
    have HFB:=J hfb
    have HY2:=J y2
    clear hfb y2
    cases f with
    | none =>
     have HNX:=J (show chkE (updAll (knV p.vars) l) rr=r by have h:=HACC.out;rw [chkE_cons,← HF.out] at h;exact h)
     go_upto_region 15 with (fail)
     refine zy19 ?_;intro HZ0
     refine zy44 ?_
     refine zy88 ?_;intro K hK
     rintro e w1 ⟨rfl,hx1⟩
     refine zy55 ?_;clear hK K hx1;intro HZ1
     go_wp2_with fail
     go_roundw
     case rel=>exact ⟨j+1,rr,by omega,HNX.out,by go_num,by rw [Nat.add_mul,← Nat.add_assoc];exact HR2.out,HI2.out.2,(HX.out.trans HY2.out).trans HZ1.out⟩
     case measure=>simp only [intOf];omega
    | some f =>
     obtain ⟨fe,fn⟩:=f
     have hnz:(fe == 0)=false:=by simpa using nz_chk1 (updAll (knV p.vars) l) op' m' name' q ⟨fe,fn⟩ HF.out.symm
     have HRF:=J (show X=some ⟨fe,fn⟩ by have h:=HACC.out;rw [chkE_cons,← HF.out] at h;rw [HXR.out,← h];rfl)
     go_upto_region 15 with (fail)
     refine zy19 ?_;intro HZ0
     refine zy44 ?_
     refine zy88 ?_;intro K hK
     rintro e w1 ⟨rfl,hx1⟩
     refine zy55 ?_;clear hK K hx1;intro HZ1
     have hDr:=bX hR0.out ((HX.out.trans HY2.out).trans HZ1.out)
     have hmr:=hDr.melts
     have hhr:=bH hDr
     have hFr:=bX HFB.out HZ1.out
     have hgf:=bG hFr
     have hhf:=bH hFr
     have hlf:=hFr.lt
     go_wp2_with fail
     refine ret_cell (t:=60) (g:=rb) (cs:=fltC X) Tryz.results151 rfl rfl aggFaultR (by rw [HRF.out];exact sizeFaultR) (by rw [HRF.out];exact Blk.put_ hDr 0 _) ⟨rfl,?_⟩
     exact ((HX0.out.trans HX.out).trans (HY2.out.trans HZ1.out)).putAt _ _ _ (fun hlt=>absurd hlt zb70)) : G := h
theorem zz7 {G : Prop} (h : G := by
 obtain ⟨hb,h1,h2,h3,⟨A',cap,b',off',hh,hg,hl,hA',hk⟩,hr⟩:=HRR.out
 simp only [EF.len] at hj
 have hlt:(j:Int) < en:=by omega
 obtain rfl:=HA.out zb85
 have hbl:=HX.out.size
 have hh':=has_ext HX.out (by have:=HNW.out;omega) hh
 have hg':=gets_ext HX.out (by have:=HNW.out;omega) hg
 have hbw:b < wr.heap.size:=by have:=HNW.out;omega
 have KE:=J (show ESl W N A' q.len q from ⟨rfl,hl,b',off',hA',hk⟩)
 have HR2:=J hr
 clear hh hg hl hA' hk h1 h2 h3 HRR hbl hr
 have y0:Ext wr _:=(kR _ wr).alloc (.cells (ecells op' m' name' A' q.len cap) 200)
 have hEB:=bN wr 200 (ecells op' m' name' A' q.len cap)
 go_wp2_with fail
 refine (sdeep_any W q _ _ _ N _ _ _ _ (HX.out.trans y0) HNW.out KE.out).mono ?_
 rintro e w1 ⟨rfl,hx1⟩
 obtain ⟨d,hd⟩:∃ d,d=w64 (1+q.deep):=⟨_,rfl⟩
 rw [← hd]
 have HD:=J hd
 have HX1:=J (HX.out.trans (y0.trans hx1))
 have hEB1:=bX hEB hx1
 have hgE:=bG hEB1
 have hhE:=bH hEB1
 have hlB:=hEB1.lt
 clear hd
 obtain ⟨f,hf⟩:∃ f,f=chk1 κ op' m' name' q:=⟨_,rfl⟩
 have HF:=J hf
 clear hf
 by_cases hd12:d≤12
 ·go_wp2_with fail
  refine (must_any true _ _ _).mono ?_
  rintro e w2 ⟨he,rfl⟩
  have he:=MustR.none he
  subst he
  go_wp2_with fail
  have HK:=J (sexpr_any cb g κ (partName i) fors W HCW.out HLW.out q op' m' name' A' q.len cap N _ HX1.out HNW.out KE.out)
  rw [← HF.out] at HK
  refine HK.out.mono ?_
  rintro e w2 ⟨he,hx2⟩
  have HX2:=J (HX1.out.trans hx2)
  cases f with
  | none =>
   have he:=MustR.none he
   subst he
   have HNX:=J (show chkD κ rr=Z by have h:=HACC.out;rw [chkD_cons,← HD.out,decide_eq_true hd12,← HF.out] at h;exact h)
   go_wp2_with fail
   go_roundw
   case rel=>exact ⟨j+1,rr,by omega,HNX.out,by go_num,by rw [Nat.add_mul,← Nat.add_assoc];exact HR2.out,HX2.out⟩
   case measure=>simp only [intOf];omega
  | some f =>
   have he:=MustR.some he
   subst he
   have HR:=J (show X=some f by have h:=HACC.out;rw [chkD_cons,← HD.out,decide_eq_true hd12,← HF.out] at h;rw [HXR.out,← h];rfl)
   have HCE:=J (HCW.out.ext HX2.out)
   have HXE:=J (Kept.ext (S:=SG cb g) (HX0.out.trans HX2.out))
   exact zz113
 ·go_wp2_with fail
  rw [decide_eq_false (show ¬ d≤12 by omega)]
  refine (must_any false _ _ _).mono ?_
  rintro e w2 ⟨he,rfl⟩
  have he:e=.panicked (thr ⟨25,E0⟩):=he
  subst he
  have HR:=J (show X=some ⟨25,E0⟩ by have h:=HACC.out;rw [chkD_cons,← HD.out,decide_eq_false zb85] at h;rw [HXR.out,← h];rfl)
  have HCE:=J (HCW.out.ext HX1.out)
  have HXE:=J (Kept.ext (S:=SG cb g) (HX0.out.trans HX1.out))
  exact zz113) : G := h
theorem zz8 {G : Prop} (h : G := by
 rw [qn] at HX4
 clear hvI
 refine zy76 ?_;intro K hK
 try rw [qv2]
 refine (must_any true _ _ _).mono ?_
 rintro e w1 ⟨he,rfl⟩
 have he:=MustR.none he
 subst he
 have HXR:=J (show X=r by rw [HX4.out];rfl)
 refine hK.out _ _ ?_
 clear hK K
 refine qf3 ?_
 have ys:=HY3.out.trans HU0.out
 have hcE:=bC (bX hE0.out ys)
 have hlE:=(bX hE0.out ys).lt
 exact zz10) : G := h
theorem zz9 {G : Prop} (h : G := by
 (repeat refine qs4 ?_)
 obtain ⟨v80,V3,hrun,ho80,hk80,-⟩:=appA (f:=strC) elemStr (fun _=>rfl) (fun _=>rfl) V2 wr.heap.size (.slice (some ⟨u0,0,none⟩) 0 0) 0 [] own A n kc pl HSR.out.1 HAK.out (HSR.out.2.2 V2 y2) (by have:=HSR.out.2.1;omega) y2.size
 have y3:Ext wr V3:=y2.trans' hk80 (fun i hi e=>by have e2:u0=i:=Option.some.inj e;omega)
 have q6:=bK q6 hk80 (fun e=>by have e2:u0=u6:=Option.some.inj e;have q:=q0;rw [e2] at q;have q:=Blk.uniq q q6;simp at q)
 refine w4_act (fun K hK=>?_)
 refine zy60 ?_
 refine hK.out _ _ (fun _=>y3) ?_
 clear hK K hrun
 exact zz102) : G := h
theorem zz11 {G : Prop} (h : G := by
 have HXE:=J (HX.out.trans y0)
 have HY0:=J y0
 clear hh hg n1 n2 n3 a1 a2 a3 he hl hxx hb h1 h2 h3 h4 hr HR hx0r hbl y0
 have hcB:=bC HB.out
 cases q6:(kind == 6)
 ·cases q7:(kind == 7)
  ·cases q2:(kind == 2)
   ·have HNX:=J (show ends r=Z by rw [← HACC.out];simp [ends,q6,q7,q2])
    exact zz111
   ·have HQ:=J (show ((ends l && ends x) || ends r)=Z by rw [← HACC.out];simp [ends,q6,q7,q2])
    clear hcB
    go_wp2_with fail
    refine (HI2.out.1 _ _ _ N _ (hx0.trans HXE.out) hN KL.out).mono ?_
    rintro e w2 ⟨rfl,hx2⟩
    have HXE:=J (HXE.out.trans hx2)
    have HB2:=J (bX HB.out hx2)
    have hcB:=bC HB2.out
    have hlB:=HB2.out.lt
    clear hx2 HB HY0
    obtain ⟨el,hel⟩:∃ el,el=ends l:=⟨_,rfl⟩
    rw [← hel] at HQ ⊢
    clear hel
    cases el
    ·have HNX:=J (show ends r=Z from HQ.out)
     exact zz111
    ·go_wp2_with fail
     refine (HI2.out.2.1 _ _ _ N _ (hx0.trans HXE.out) hN KX.out).mono ?_
     rintro e w3 ⟨rfl,hx3⟩
     have HXE:=J (HXE.out.trans hx3)
     clear hx3
     obtain ⟨el,hel⟩:∃ el,el=ends x:=⟨_,rfl⟩
     rw [← hel] at HQ ⊢
     clear hel
     cases el
     ·have HNX:=J (show ends r=Z from HQ.out)
      exact zz111
     ·go_wp2_with fail
      go_ret
      exact ⟨by rw [← HQ.out];rfl,HXE.out⟩
  ·have HQ:=J q7
   go_wp2_with fail
   go_ret
   rw [← HACC.out]
   exact ⟨by simp [ends,HQ.out],HXE.out⟩
 ·have HQ:=J q6
  go_wp2_with fail
  go_ret
  rw [← HACC.out]
  exact ⟨by simp [ends,HQ.out],HXE.out⟩) : G := h
theorem zz14 {G : Prop} (h : G := by
 generalize (w2.alloc (.cells #[.int .i64 fe,.string fn] 60))=W3 at y3 hV ⊢
 refine zy9 ?_;clear hV y3 HXC;intro fb HY3 HFB HZ0 K hK
 rintro e2 w4 ⟨rfl,hx4⟩
 have HZ1:=J (HZ0.out.trans hx4)
 refine hK.out _ _ (fun _=>HZ1.out) ?_
 clear hK K hx4
 have hnz:=HNF.out
 refine qf3 ?_
 have HXC:=J (HY3.out.trans HZ1.out)
 refine zy2 ?_;intro hDr hmr hhr hlr hcP hhP hgP hlP
 have hFr:=bX HFB.out HZ1.out
 have hgf:=bG hFr
 have hhf:=bH hFr
 have hlf:=hFr.lt
 exact zz65) : G := h
theorem zz19 {G : Prop} (h : G := by
 rw [ev]
 have hS3:StAt (w2.setCell ⟨g,a,none⟩ (.int .i32 (truthI (decide (0≤v) && decide (v < z))))).drew s 49 pc (some ⟨g,0,none⟩) n kc 0:=Blk.far hS2 (p:=⟨g,a,none⟩) hsg (.int .i32 (truthI (decide (0≤v) && decide (v < z))))
 have hM3:MemAt (w2.setCell ⟨g,a,none⟩ (.int .i32 (truthI (decide (0≤v) && decide (v < z))))).drew base g n kc (m.set a (truthI (decide (0≤v) && decide (v < z)))):=(hM2.set a hal (truthI (decide (0≤v) && decide (v < z)))).ext ((kR _ _).drew)
 have hk3:Kept (fun i=>i=s ∨ i=g) w (w2.setCell ⟨g,a,none⟩ (.int .i32 (truthI (decide (0≤v) && decide (v < z))))).drew:=(Kept.setCell (Kept.ext x2) _ _ (fun _=>.inr rfl)).drew
 generalize (w2.setCell ⟨g,a,none⟩ (.int .i32 (truthI (decide (0≤v) && decide (v < z))))).drew=W3 at hS3 hM3 hk3 ⊢
 exact zz88) : G := h
theorem zz20 {G : Prop} (h : G := by
 clear hv hz
 go_upto_region 30 with (fail)
 refine qr3 (fun w3=>Ext w2 w3) [(0,2),(1,2),(2,1),(3,2),(4,1),(5,2),(6,2),(7,1),(8,2),(9,2)] ?_;refine qrl ?_
 refine zy49 ?_
 refine qf3 ?_
 have hS3:StAt w2.drew s 49 pc (some ⟨g,0,none⟩) n kc 0:=hS2
 have hM3:MemAt w2.drew base g n kc m:=hM2.ext ((kR _ _).drew)
 have hk3:Kept (fun i=>i=s ∨ i=g) w w2.drew:=(Kept.ext x2).drew
 have hI3:Blk w2.drew ic 77 _:=hI2
 have hcI3:=bC hI3
 exact zz88) : G := h
theorem zz22 {G : Prop} (h : G := by
 have HR:=J (show X=none by rw [HX3.out,hv1];rfl)
 clear hv1
 exact zz23) : G := h
theorem zz23 {G : Prop} (h : G := by
 go_wp2_with fail
 refine (fine_any _).mono ?_
 rintro e w9 ⟨rfl,hx9⟩
 clear hDr hmr hhr hlr hcS hlS hhK hgK hlK
 have HXC:=J (HXC.out.trans hx9)
 refine zy10 ?_;intro hDr hmr hhr hlr hcS hlS hhK hgK hlK
 clear hx9
 exact zz61) : G := h
theorem zz25 {G : Prop} (h : G := by
 refine qf3 ?_
 have hS3:StAt (w2.setCell ⟨g,a,none⟩ (.int .i32 (v))).drew s 49 pc (some ⟨g,0,none⟩) n kc 0:=Blk.far hS2 (p:=⟨g,a,none⟩) hsg (.int .i32 (v))
 have hM3:MemAt (w2.setCell ⟨g,a,none⟩ (.int .i32 (v))).drew base g n kc (m.set a (v)):=(hM2.set a hal (v)).ext ((kR _ _).drew)
 have hk3:Kept (fun i=>i=s ∨ i=g) w (w2.setCell ⟨g,a,none⟩ (.int .i32 (v))).drew:=(Kept.setCell (Kept.ext x2) _ _ (fun _=>.inr rfl)).drew
 generalize (w2.setCell ⟨g,a,none⟩ (.int .i32 (v))).drew=W3 at hS3 hM3 hk3 ⊢
 exact zz88) : G := h
theorem zz26 {G : Prop} (h : G := by
 refine zy6 ?_;intro hDr hmr hhr hlr hcS hhS hgS hlS hhK hgK hlK
 exact zz64) : G := h
theorem zz28 {G : Prop} (h : G := by
 refine zy17 ?_
 refine qf3 ?_
 have yr:=HY0.out
 exact zz105) : G := h
theorem zz34 {G : Prop} (h : G := by
 go_wp2_with fail
 exact zz35) : G := h
theorem zz35 {G : Prop} (h : G := by
 refine (must_any false _ _ _).mono ?_
 rintro e w8 ⟨he,rfl⟩
 have he:=MustR.some he
 subst he
 exact zz43) : G := h
theorem zz42 {G : Prop} (h : G := by
 have HR:=J (show X=some ⟨6,s⟩ by rw [HX4.out,← HV.out];rfl)
 exact zz54) : G := h
theorem zz46 {G : Prop} (h : G := by
 (refine w3_last zb83 zb83 (fun K hK=>?_);go_simp)
 refine (must_any false _ _ _).mono ?_
 rintro e w1 ⟨he,rfl⟩
 have he:e=.panicked (thr ⟨3,E0⟩):=he
 subst he
 have HCE:=J (HCW.out.ext HY0.out)
 have HXE:=J (Kept.ext (S:=SG cb g) (HX0.out.trans HY0.out))
 exact zz113) : G := h
theorem zz48 {G : Prop} (h : G := by
 have qn:(v == 1)=false:=by simp [hv1]
 have HR:=J (show X=some ⟨11,s⟩ by rw [HX4.out,qn];rfl)
 refine zy76 ?_;intro K hK
 try rw [qv2]
 exact zz87) : G := h
theorem zz50 {G : Prop} (h : G := by
 refine zy84 ?_;intro hDr hmr hhr hlr
 exact zz62) : G := h
theorem zz52 {G : Prop} (h : G := by
 have HR:=J (show X=some ⟨11,name⟩ by rw [HX3.out,n1,must_false])
 clear hv1
 exact zz61) : G := h
theorem zz54 {G : Prop} (h : G := by
 have yr:=yt
 exact zz105) : G := h
theorem zz55 {G : Prop} (h : G := by
 have HR:=J (show X=some ⟨6,name⟩ by rw [HX2.out,hv0];rfl)
 clear hv0
 exact zz61) : G := h
theorem zz56 {G : Prop} (h : G := by
 have h1:=List.all_eq_true.1 h _ hf
 simp only [Bool.or_eq_true,beq_iff_eq] at h1
 exact zz109) : G := h
theorem zz61 {G : Prop} (h : G := by
 go_wp2_with fail
 refine ret_cell (t:=60) (g:=rb) (cs:=fltC X) Tryz.results149 rfl rfl aggFaultR zb58 zb54 ⟨rfl,?_⟩
 exact zz114) : G := h
theorem zz62 {G : Prop} (h : G := by
 go_wp2_with fail
 refine ret_cell (t:=60) (g:=rb) (cs:=fltC X) Tryz.results51 rfl rfl aggFaultR zb58 zb54 ⟨rfl,?_⟩
 exact zz114) : G := h
theorem zz63 {G : Prop} (h : G := by
 go_wp2_with fail
 refine ret_cell (t:=60) (g:=rb) (cs:=fltC X) Tryz.results53 rfl rfl aggFaultR zb58 zb54 ⟨rfl,?_⟩
 exact zz114) : G := h
theorem zz64 {G : Prop} (h : G := by
 go_wp2_with fail
 refine ret_cell (t:=60) (g:=rb) (cs:=fltC X) Tryz.results94 rfl rfl aggFaultR zb58 zb54 ⟨rfl,?_⟩
 exact zz114) : G := h
theorem zz65 {G : Prop} (h : G := by
 go_wp2_with fail
 refine ret_cell (t:=60) (g:=rb) (cs:=fltC X) Tryz.results23 rfl rfl aggFaultR zb58 zb54 ⟨rfl,?_⟩
 exact zz114) : G := h
theorem zz67 {G : Prop} (h : G := by
 try simp only [Bool.not_true]
 exact zz73) : G := h
theorem zz72 {G : Prop} (h : G := by
 have he9:=(hi4).ext ya
 exact zz110) : G := h
theorem zz82 {G : Prop} (h : G := by
 have h1:=hlst j listed hdn hj hji h
 have h0:=(mem_ready.1 hr).1
 exact zz112) : G := h
theorem zz85 {G : Prop} (h : G := by
 refine (must_any false _ _ _).mono ?_
 rintro e w8 ⟨he,rfl⟩
 have he:=MustR.some he
 subst he
 exact zz113) : G := h
theorem zz115 {G : Prop} (h : G := by
 have y1:=HY9.out.trans hx1
 refine zy28 ?_;clear hK K;intro W2 y2 hfb
 have hfl:wr.heap.size≤w1.heap.size:=y1.size
 generalize w1.heap.size=fb at hfb hfl ⊢
 have hmf:=hfb.melts
 have hhf:=bH hfb
 have hfc:=fltC_two f
 have hff:=fltC_flat f
 refine zy47 ?_;intro K hK
 have y3:=y2.putAt fb 0 (fltC f) (fun hlt=>absurd hlt zb85)
 have hf3:=Blk.put_flt hfb f
 refine hK.out _ _ (fun _=>y3) ?_
 clear hK K hmf hhf hfc hff
 refine qf4 ?_
 generalize putAt W2 fb 0 (fltC f)=W3 at y3 hf3 ⊢
 exact KEY.out _ _ ⟨y3,hf3⟩) : G := h
theorem zz116 {G : Prop} (h : G := by
 have HYS:=J ys
 have hcE:=bC (bX hE0.out ys)
 have hlE:=(bX hE0.out ys).lt
 obtain ⟨Z,hZ⟩:∃ Z,Z=chkD κ es:=⟨_,rfl⟩
 rw [← hZ] at HXR
 have HZ:=J hZ.symm
 clear hZ ys
 go_wp2_with fail
 go_loopw [49] (fun t49 wr=>∃ (j:Nat) (R:EF),j+R.len=en∧chkD κ R=Z∧t49=.int .i64 j∧EFAt W N R b (off+j * 4)∧Ext W wr) (fun t49 _=>en - (intOf t49).toNat)
 case atStart=>exact ⟨0,es,by rw [HN.out,Nat.zero_add],HZ.out,rfl,by simpa using HE.out,HYS.out⟩
 case round =>
  obtain ⟨j,R,hj,hacc,rfl,hR,hx⟩:=hrel
  have HRR:=J hR
  have HX:=J hx
  have HACC:=J hacc
  have hcE:=bC (bX hE0.out hx)
  have hlE:=(bX hE0.out hx).lt
  clear hR hx hacc
  cases R with
  | nil =>
   exact zz107
  | cons op' m' name' q rr =>
   exact zz7) : G := h
theorem zz117 {G : Prop} (h : G := by
 go_wp2_with fail
 go_loopw [11,15] (fun t11 t15 wx=>∃ (i:Nat) (q:Sl3),i≤0∧t15=.int .i64 i∧t11=q.v∧wx.ownsRow wc.heap.size 21 1 q.v q.n (mems ((List.range i).map (argN p part A)))∧Ext wc wx) (fun _ t15 _=>0 - (intOf t15).toNat)
 case atStart=>exact ⟨0,⟨none,0,0⟩,Nat.zero_le _,rfl,rfl,⟨by simp [mems],.inl ⟨rfl,rfl⟩⟩,kR _ _⟩
 case round =>
  obtain ⟨i,q,hi,rfl,rfl,ho,hk⟩:=hrel
  have HOI:=J ho
  have HKI:=J hk
  have HQN:=J (show q.n=i by have h:=ho.1;rw [mems_len] at h;simp at h;omega)
  clear ho hk
  obtain rfl:i=0:=by omega
  exact zz57) : G := h
theorem zz118 {G : Prop} (h : G := by
 have y2:=HY1.out.trans hx1
 refine hK.out _ _ (fun _=>y2) ?_
 clear hK K y1
 have hfb2:=bX hfb1 hx1
 have hmf:=hfb2.melts
 have hhf:=bH hfb2
 have hfc:=fltC_two f
 have hff:=fltC_flat f
 refine zy47 ?_;intro K hK
 have y3:=y2.putAt fb 0 (fltC f) (fun hlt=>absurd hlt (by have:=HFL.out;omega))
 have hf3:=Blk.put_flt hfb2 f
 refine hK.out _ _ (fun _=>y3) ?_
 clear hK K hmf hhf hfc hff
 refine qf4 ?_
 generalize putAt w1 fb 0 (fltC f)=W3 at y3 hf3 ⊢
 exact KEY.out _ _ ⟨y3,hf3⟩) : G := h
theorem zz119 {G : Prop} (h : G := by
 refine zy6 ?_;intro hDr hmr hhr hlr hcS hhS hgS hlS hhK hgK hlK
 have hFr:=bX HFB.out HZ1.out
 have hgf:=bG hFr
 have hhf:=bH hFr
 have hlf:=hFr.lt
 exact zz64) : G := h
theorem zz120 {G : Prop} (h : G := by
 refine zy90 ?_
 (refine w3_last zb83 zb83 (fun K hK=>?_);go_simp)
 have HX:=J (HX0.out.trans (HY2.out.trans HV0.out))
 exact zz87) : G := h
theorem zz108 {G : Prop} (h : G := by
 go_wp2_with fail
 refine ret_cell (t:=60) (g:=rb) (cs:=fltC Z) Tryz.results54 rfl rfl aggFaultR zb58 zb54 ⟨rfl,?_⟩
 exact zz114) : G := h
theorem zz4 {G : Prop} (h : G := by
 have HF:=J hf
 clear hf
 go_upto_region 4 with (fail)
 apply meet (F:=fun W2 fb=>Ext wr W2∧Blk W2 fb 60 (fltC f))
 case h =>
  intro KEY0
  have KEY:=J KEY0
  clear KEY0
  refine qr4 (fun w1=>Ext wr w1) (.op 0 1 (.op 1 2 (.op 2 2 (.op 3 2 (.op 4 1 (.op 5 2 (.op 6 2 (.op 7 2 (.op 8 2 (.op 9 2 (.op 10 2 (.op 11 2 (.op 12 2 (.op 13 2 (.op 14 2 (.fork 15 (.op 16 0 (.op 17 0 .nil)) 16 (.op 15 0 (.op 17 0 .nil)))))))))))))))))) ?_;refine qrp ?_
  have HY9:=J (show Ext wr wr.drew from (kR _ wr).drew)
  (repeat (first | refine qs4 ?_ | ((apply w4_take);(· exact HY9.out);(· go_simp);(· (intro w1 hS;have d0:=bX HK.out (HXC.out.trans hS);have d1:=bG d0;have d2:=bH d0;have d3:=d0.lt;have d7:=has_ext hS HHW.out HH0.out;have d8:=gets_ext hS HHW.out HG0.out;have d9:=Nat.lt_of_lt_of_le HHW.out hS.size; go_simp;try with_reducible rfl));refine qnx ?_) | ((apply w4_pass);(· exact HY9.out);(· go_simp);refine qnx ?_)))
  refine w4_fork ?_ ?_
  ·(refine w4_act (fun K hK=>?_);go_simp)
   try rw [HLS.out]
   refine (HIK.out _ (HWQ.out.trans HY9.out) ((HPL.out.ext (HXC.out.trans HY9.out)).mono (Nat.le_trans HNW.out (HXC.out.trans HY9.out).size))).mono ?_
   rintro e4 w1 ⟨rfl,hx1⟩
   rw [← HKA.out,← HF.out]
   exact zz115
  ·refine zy41 ?_;intro W1 hW1 y1
   have hfb1:Blk W1 wr.heap.size 60 #[.int .i64 0,.string ⟨#[]⟩]:=by rw [← hW1];exact Blk.drew (bN wr _ _)
   refine zy94 ?_;clear hW1 hfb1;intro fb hfb1 HFL HY1
   (repeat (first | refine qs4 ?_ | ((apply w4_take);(· exact HY1.out);(· go_simp);(· (intro w1 hS;have d0:=bX HK.out (HXC.out.trans hS);have d1:=bG d0;have d2:=bH d0;have d3:=d0.lt;have d7:=has_ext hS HHW.out HH0.out;have d8:=gets_ext hS HHW.out HG0.out;have d9:=Nat.lt_of_lt_of_le HHW.out hS.size; go_simp;try with_reducible rfl));refine qnx ?_) | ((apply w4_pass);(· exact HY1.out);(· go_simp);refine qnx ?_)))
   (refine w4_act (fun K hK=>?_);go_simp)
   try rw [HLS.out]
   refine (HIK.out _ (HWQ.out.trans HY1.out) ((HPL.out.ext (HXC.out.trans HY1.out)).mono (Nat.le_trans HNW.out (HXC.out.trans HY1.out).size))).mono ?_
   rintro e4 w1 ⟨rfl,hx1⟩
   rw [← HKA.out,← HF.out]
   exact zz118
 case h2 =>
  rintro W2 fb ⟨y2,hfb⟩
  have HFB:=J hfb
  have HY2:=J (HXC.out.trans y2)
  clear hfb y2 HXC
  cases f with
  | none =>
   go_upto_region 5 with (fail)
   refine zy19 ?_;intro HZ0
   refine zy44 ?_
   refine zy88 ?_;intro K hK
   rintro e4 w1 ⟨rfl,hx1⟩
   refine zy55 ?_;clear hK K hx1;intro HZ1
   go_wp2_with fail
   go_roundw
   case rel=>exact ⟨m+1,r,by omega,by rw [HXB.out,ored_none],by go_num,by rw [Nat.add_mul,← Nat.add_assoc];exact HR2.out,HAL.out.2.2,HY2.out.trans HZ1.out⟩
   case measure=>simp only [intOf];omega
  | some f =>
   obtain ⟨fe,fn⟩:=f
   have hnz:=NZ.out (nz_chkS _ _ _ _ _ _ _ _ _ _ _) HF.out.symm
   have HR:=J (show Z=some ⟨fe,fn⟩ by rw [HXB.out,ored_some])
   go_upto_region 5 with (fail)
   refine zy19 ?_;intro HZ0
   refine zy44 ?_
   refine zy88 ?_;intro K hK
   rintro e4 w1 ⟨rfl,hx1⟩
   refine zy55 ?_;clear hK K hx1;intro HZ1
   have HXC:=J (HY2.out.trans HZ1.out)
   refine zy84 ?_;intro hDr hmr hhr hlr
   have hhK:=bH (bX HK.out HXC.out)
   have hgK:=bG (bX HK.out HXC.out)
   have hlK:=(bX HK.out HXC.out).lt
   have hFr:=bX HFB.out HZ1.out
   have hgf:=bG hFr
   have hhf:=bH hFr
   have hlf:=hFr.lt
   exact zz108) : G := h
theorem zz5 {G : Prop} (h : G := by
 have hgE:=bG (bX hE0.out ys)
 have hhE:=bH (bX hE0.out ys)
 have hlE:=(bX hE0.out ys).lt
 go_wp2_with fail
 obtain ⟨t,ht⟩:∃ t,t=target κ k name low:=⟨_,rfl⟩
 have HK:=J (target_any cb g κ (partName i) fors k name eA en ec low high lA ln lc xA xn xc hkk.out _ (HCW.out.ext ys))
 rw [← ht] at HK HX4
 clear ht hgE hhE hlE
 refine HK.out.mono ?_
 rintro e w2 ⟨he,hx2⟩
 cases t with
 | some f =>
  exact zz106
 | none =>
  have he:=MustR.none he
  subst he
  have HXR:=J (show X=ored (chkD κ es) none from HX4.out)
  have ys:=ys.trans hx2
  clear hx2 HK
  exact zz116) : G := h
theorem zz13 {G : Prop} (h : G := by
 generalize (w2.alloc (.cells #[.int .i64 fe,.string fn] 60))=W3 at y3 hV ⊢
 refine zy9 ?_;clear hV y3 HXC;intro fb HY3 HFB HZ0 K hK
 rintro e2 w4 ⟨rfl,hx4⟩
 have HZ1:=J (HZ0.out.trans hx4)
 refine hK.out _ _ (fun _=>HZ1.out) ?_
 clear hK K hx4
 have hnz:=HNF.out
 refine qf3 ?_
 have HXC:=J (HY3.out.trans HZ1.out)
 exact zz119) : G := h
theorem zz21 {G : Prop} (h : G := by
 clear hp0
 exact zz117) : G := h
theorem zz31 {G : Prop} (h : G := by
 clear hK K
 exact zz120) : G := h
theorem zz101 {G : Prop} (h : G := by
 have HF:=J (show chkB i (updAll (knV p.vars) (plOf p i)) 0 true (partOf p i)=f by rw [hf,chkP,knOf_pl])
 have HX9:=J (show X=ored f (from5 p M (i+1)) by rw [hf,← HACC.out,from5_lt p M i hlt])
 have HNZ:=J (show NZ f by rw [hf,chkP];exact nz_chkB _ _ _ _ _)
 clear hf
 apply meet (F:=fun W2 fb=>Ext wr W2∧Blk W2 fb 60 (fltC f))
 case h =>
  intro KEY0
  have KEY:=J KEY0
  clear KEY0
  refine qr4 (fun w1=>Ext wr w1) (.op 0 1 (.op 1 2 (.op 2 2 (.op 3 2 (.op 4 1 (.op 5 2 (.fork 6 (.op 7 0 (.op 8 0 .nil)) 7 (.op 6 0 (.op 8 0 .nil))))))))) ?_;refine qrp ?_
  have HY9:=J (show Ext wr wr.drew from (kR _ wr).drew)
  (repeat (first | refine qs4 ?_ | ((apply w4_take);(· exact HY9.out);(· go_simp);(· (intro w1 hS;have d0:=bX HKQ.out hS;have d1:=bG d0;have d2:=bH d0;have d3:=d0.lt;have d4:=bX HAQ.out hS;have d5:w1.cell? ⟨ab,i,none⟩=some (.slice sA sn sc):=(bC d4 i).trans HAC.out;have d6:=d4.lt; go_simp;try with_reducible rfl));refine qnx ?_) | ((apply w4_pass);(· exact HY9.out);(· go_simp);refine qnx ?_)))
  refine w4_fork ?_ ?_
  ·(refine w4_act (fun K hK=>?_);go_simp)
   refine (HIK.out _ HY9.out (HST.out.ext_ HY9.out)).mono ?_
   rintro e4 w1 ⟨rfl,hx1⟩
   rw [HF.out]
   exact zz115
  ·refine zy41 ?_;intro W1 hW1 y1
   have hfb1:Blk W1 wr.heap.size 60 #[.int .i64 0,.string ⟨#[]⟩]:=by rw [← hW1];exact Blk.drew (bN wr _ _)
   refine zy94 ?_;clear hW1 hfb1;intro fb hfb1 HFL HY1
   (repeat (first | refine qs4 ?_ | ((apply w4_take);(· exact HY1.out);(· go_simp);(· (intro w1 hS;have d0:=bX HKQ.out hS;have d1:=bG d0;have d2:=bH d0;have d3:=d0.lt;have d4:=bX HAQ.out hS;have d5:w1.cell? ⟨ab,i,none⟩=some (.slice sA sn sc):=(bC d4 i).trans HAC.out;have d6:=d4.lt; go_simp;try with_reducible rfl));refine qnx ?_) | ((apply w4_pass);(· exact HY1.out);(· go_simp);refine qnx ?_)))
   (refine w4_act (fun K hK=>?_);go_simp)
   refine (HIK.out _ HY1.out (HST.out.ext_ HY1.out)).mono ?_
   rintro e4 w1 ⟨rfl,hx1⟩
   rw [HF.out]
   exact zz118
 case h2 =>
  rintro W2 fb ⟨y2,hfb⟩
  have HFB:=J hfb
  have HYR:=J (HXQ.out.trans y2)
  have HXC:=J (HXB.out.trans y2)
  clear hfb y2
  cases f with
  | none =>
   go_upto_region 32 with (fail)
   refine zy19 ?_;intro HZ0
   refine zy44 ?_
   refine zy88 ?_;intro K hK
   rintro e4 w1 ⟨rfl,hx1⟩
   refine zy55 ?_;clear hK K hx1;intro HZ1
   go_wp2_with fail
   go_roundw
   case rel=>exact ⟨i+1,by omega,by go_num,by rw [HX9.out,ored_none],HXW.out.trans (HYR.out.trans HZ1.out)⟩
   case measure=>simp only [intOf];omega
  | some f =>
   obtain ⟨fe,fn⟩:=f
   have hnz:=NZ.out HNZ.out rfl
   have HR:=J (show X=some ⟨fe,fn⟩ by rw [HX9.out,ored_some])
   go_upto_region 32 with (fail)
   refine zy19 ?_;intro HZ0
   refine zy44 ?_
   refine zy88 ?_;intro K hK
   rintro e4 w1 ⟨rfl,hx1⟩
   refine zy55 ?_;clear hK K hx1;intro HZ1
   have HXC:=J (HXC.out.trans HZ1.out)
   refine zy2 ?_;intro hDr hmr hhr hlr hcP hhP hgP hlP
   have hFr:=bX HFB.out HZ1.out
   have hgf:=bG hFr
   have hhf:=bH hFr
   have hlf:=hFr.lt
   exact zz65) : G := h
theorem zy1 {G G' : Prop} (g : G') (h : G' → G := by
 intro qq
 have QQ := Go.Lib.hid qq
 clear qq
 obtain ⟨hn,hn1,hn2,hmok,hops,hst,hmem,hmap,hcA,hrow,hcn,hcn2,hpc0,hpc1,hsg⟩:=id h
 have hls:=hst.lt
 have hlg:=hmem.lt
 have hlq:=hmap.lt
 have hgs:¬ g=s:=fun e=>hsg e.symm
 have HX:=J hnx
 have HN:=J hn
 have HO:=J hmok
 have HOP:=J hops
 have HA:=J hcA
 have HR:=J hrow
 have HCN:=J hcn
 have HRT:=J hright
 clear hn hmok hops hcA hrow hcn
 go_enter Tryz.func63,Tryz.ntmps63
 revert HRT
 revert HCN
 revert HR
 revert HA
 revert HOP
 revert HO
 revert HN
 revert HX
 revert hgs
 revert hlq
 revert hlg
 revert hls
 revert hsg
 revert hpc1
 revert hpc0
 revert hcn2
 revert hmap
 revert hmem
 revert hst
 revert hn2
 revert hn1
 exact QQ.out) : G := h g
theorem zy2 {G G' : Prop} (g : G') (h : G' → G := by
 intro qq
 have QQ := Go.Lib.hid qq
 clear qq
 have hDr:=bX HD.out HXC.out
 have hmr:=hDr.melts
 have hhr:=bH hDr
 have hlr:=hDr.lt
 have hcP:=bC (bX HB.out HXC.out)
 have hhP:=bH (bX HB.out HXC.out)
 have hgP:=bG (bX HB.out HXC.out)
 have hlP:=(bX HB.out HXC.out).lt
 revert hlP
 revert hgP
 revert hhP
 revert hcP
 revert hlr
 revert hhr
 revert hmr
 revert hDr
 exact QQ.out) : G := h g
theorem zy3 {G G' : Prop} (g : G') (h : G' → G := by
 intro qq
 have QQ := Go.Lib.hid qq
 clear qq
 have x2:=x1.trans hx2
 have hI2:=bX hI1 hx2
 have hS2:=bX hS1 hx2
 have hM2:=hM1.ext hx2
 have hQ2:=hQ1.ext hx2
 have hcI:=bC hI2
 have hcS:=bC hS2
 have hfS:=Blk.frozen hS2
 have lI:=hI2.lt
 have lS:=hS2.lt
 have lG:=hM2.lt
 revert lG
 revert lS
 revert lI
 revert hfS
 revert hcS
 revert hcI
 revert hQ2
 revert hM2
 revert hS2
 revert hI2
 revert x2
 exact QQ.out) : G := h g
theorem zy4 {G G' : Prop} (g : G') (h : G' → G := by
 intro qq
 have QQ := Go.Lib.hid qq
 clear qq
 refine (next_any s pc 0 (some ⟨g,0,none⟩) n kc A b off c cn cap _ HCN.out hcn2 hpc0 HA.out HOP.out hst HR.out).mono ?_
 rintro e w1 ⟨e1,hx1⟩
 revert hx1
 revert e1
 revert w1
 revert e
 exact QQ.out) : G := h g
theorem zy5 {G G' : Prop} (g : G') (h : G' → G := by
 intro qq
 have QQ := Go.Lib.hid qq
 clear qq
 have hB0:=hB0
 generalize wr.heap.size=g at hB0 ⊢
 have HB:=J hB0
 have HM1:=J (HAT.out.ext y0)
 have HX1:=J (HST.out.kt (KT.ext (B:=x.B) (wm:=x.wm) y0) HAT.out.hN HAT.out.hB)
 have HY0:=J (KT.ext (B:=x.B) (wm:=x.wm) y0)
 clear hB0
 refine qr3 (fun wz=>SM x f W W1 wz) [(0,2),(1,2),(2,2),(3,1),(4,2),(5,1),(6,1),(7,2),(8,1),(9,0)] ?_;refine qrl ?_
 revert HY0
 revert HX1
 revert HM1
 revert HB
 revert g
 exact QQ.out) : G := h g
theorem zy6 {G G' : Prop} (g : G') (h : G' → G := by
 intro qq
 have QQ := Go.Lib.hid qq
 clear qq
 have hDr:=bX HD.out HXC.out
 have hmr:=hDr.melts
 have hhr:=bH hDr
 have hlr:=hDr.lt
 have hcS:=bC (bX HS.out HXC.out)
 have hhS:=bH (bX HS.out HXC.out)
 have hgS:=bG (bX HS.out HXC.out)
 have hlS:=(bX HS.out HXC.out).lt
 have hhK:=bH (bX HK.out HXC.out)
 have hgK:=bG (bX HK.out HXC.out)
 have hlK:=(bX HK.out HXC.out).lt
 revert hlK
 revert hgK
 revert hhK
 revert hlS
 revert hgS
 revert hhS
 revert hcS
 revert hlr
 revert hhr
 revert hmr
 revert hDr
 exact QQ.out) : G := h g
theorem zy7 {G G' : Prop} (g : G') (h : G' → G := by
 intro qq
 have QQ := Go.Lib.hid qq
 clear qq
 have hB0:=hB0
 generalize (w:World).heap.size=g at hB0 ⊢
 have HB:=J hB0
 have HX:=J hX1
 have HM0:=J hMS
 have HL:=J hL
 have Y0:=J (KT.refl x.B x.wm W1)
 have HS1:=J (show x.B≤W1.heap.size from hMS.hB)
 clear hB0
 revert HS1
 revert Y0
 revert HL
 revert HM0
 revert HX
 revert HB
 revert g
 exact QQ.out) : G := h g
theorem zy8 {G G' : Prop} (g : G') (h : G' → G := by
 intro qq
 have QQ := Go.Lib.hid qq
 clear qq
 refine qr3 (fun w3=>Ext w2 w3) [(0,2),(1,2),(2,1),(3,2),(4,2),(5,1),(6,1),(7,2),(8,2),(9,1),(10,2),(11,1),(12,2),(13,2),(14,1),(15,2),(16,1),(17,0),(18,2),(19,0)] ?_;refine qrl ?_
 exact QQ.out) : G := h g
theorem zy9 {G G' : Prop} (g : G') (h : G' → G := by
 intro qq
 have QQ := Go.Lib.hid qq
 clear qq
 have hV:=hV
 generalize w2.heap.size=fb at hV ⊢
 have HY3:=J (HXC.out.trans y3)
 have HFB:=J hV
 clear hV
 refine qr3 (fun w1=>Ext W3 w1) [(0,1),(1,0),(2,2)] ?_;refine qrl ?_
 have HZ0:=J (show Ext W3 W3.drew from (kR _ W3).drew)
 (repeat first|refine qs3 ?_|refine qt3 HZ0.out zb21 ?_|refine qp3 HZ0.out ?_)
 (refine w3_act (fun K hK=>?_);go_simp)
 refine (fine_any _).mono ?_
 revert hK
 revert K
 revert HZ0
 revert HFB
 revert HY3
 revert fb
 exact QQ.out) : G := h g
theorem zy10 {G G' : Prop} (g : G') (h : G' → G := by
 intro qq
 have QQ := Go.Lib.hid qq
 clear qq
 have hDr:=bX HD.out HXC.out
 have hmr:=hDr.melts
 have hhr:=bH hDr
 have hlr:=hDr.lt
 have hcS:=bC (bX HS.out HXC.out)
 have hlS:=(bX HS.out HXC.out).lt
 have hhK:=bH (bX HK.out HXC.out)
 have hgK:=bG (bX HK.out HXC.out)
 have hlK:=(bX HK.out HXC.out).lt
 revert hlK
 revert hgK
 revert hhK
 revert hlS
 revert hcS
 revert hlr
 revert hhr
 revert hmr
 revert hDr
 exact QQ.out) : G := h g
theorem zy11 {G G' : Prop} (g : G') (h : G' → G := by
 intro qq
 have QQ := Go.Lib.hid qq
 clear qq
 have y1:Ext w (w.alloc (.cells (ecells op n s A F.len kc) 200)):=(kR _ w).alloc _
 have hB0:=bN w 200 (ecells op n s A F.len kc)
 have hMS:=h.ext y1
 have hX1:=hX.kt (KT.ext (B:=x.B) (wm:=x.wm) y1) h.hN h.hB
 have HNB:=J (And.intro h.hN h.hB)
 revert HNB
 revert hX1
 revert hMS
 revert hB0
 revert y1
 exact QQ.out) : G := h g
theorem zy12 {G G' : Prop} (g : G') (h : G' → G := by
 intro qq
 have QQ := Go.Lib.hid qq
 clear qq
 have b6:=b6
 rw [hsn] at b6 ⊢
 have hb7:=bK (bX (bX HB.out y4) y5) k6 zb48
 have m1:=bC hb7
 have m2:=hb7.lt
 have m3:=Blk.frozen hb7
 have HB7:=J hb7
 have hk7:Kept (·=p4+2) W3 w6:=HK.out.trans' ((y4.trans' ((y5.mono (S':=(·=nb)) (fun _ _ f=>f.elim)).trans k6) (fun i hi e=>by have b:=HNB.out;omega)).mono (S':=(·=p4+2)) (fun _ _ f=>f.elim)) (fun _ _ e=>e)
 revert hk7
 revert HB7
 revert m3
 revert m2
 revert m1
 revert hb7
 revert b6
 exact QQ.out) : G := h g
theorem zy13 {G G' : Prop} (g : G') (h : G' → G := by
 intro qq
 have QQ := Go.Lib.hid qq
 clear qq
 have HCP:=J (And.intro (cells_pos p.vars) HCK.out.cells)
 refine qr3 (fun wz=>Ext wr wz) [(0,2),(1,2),(2,2),(3,2),(4,2),(5,1),(7,2),(8,2),(6,0),(9,2),(10,0)] ?_;refine qrl ?_
 have yd:Ext wr wr.drew:=(kR _ wr).drew
 (repeat first|refine qs3 ?_|refine qt3 yd zb11 ?_|refine qp3 yd ?_)
 (refine w3_act (fun K hK=>?_);go_simp)
 revert hK
 revert K
 revert yd
 revert HCP
 exact QQ.out) : G := h g
theorem zy14 {G G' : Prop} (g : G') (h : G' → G := by
 intro qq
 have QQ := Go.Lib.hid qq
 clear qq
 have kh0:=kh0
 have kg0:=kg0
 simp only [Nat.zero_mul,Nat.one_mul,Nat.add_zero] at kh0 kg0
 have KH0:=J kh0
 have KG0:=J kg0
 have KX0:=J kx0
 have KE0:=J ke0
 have KC0:=J kc0
 have KL0:=J kl0
 clear kh0 kg0
 revert KL0
 revert KC0
 revert KE0
 revert KX0
 revert KG0
 revert KH0
 exact QQ.out) : G := h g
theorem zy15 {G G' : Prop} (g : G') (h : G' → G := by
 intro qq
 have QQ := Go.Lib.hid qq
 clear qq
 refine (bsum_any 8 _).mono ?_
 rintro e w4 ⟨rfl,b4,y4⟩
 obtain ⟨nb,hnb⟩:∃ nb,nb=wr.heap.size:=⟨_,rfl⟩
 rw [← hnb] at b4 ⊢
 have HNB:=J hnb
 have hkl:W3.heap.size≤wr.heap.size:=HK.out.size
 have kc:=bX (bK HCB.out HK.out zb66) y4
 have l1:=bH kc
 have l2:=bG kc
 have l3:=kc.lt
 clear kc hnb
 revert l3
 revert l2
 revert l1
 revert hkl
 revert HNB
 revert b4
 revert nb
 revert y4
 revert w4
 exact QQ.out) : G := h g
theorem zy16 {G G' : Prop} (g : G') (h : G' → G := by
 intro qq
 have QQ := Go.Lib.hid qq
 clear qq
 have hcP:=bC (bK HPB.out HKE.out HNE.out.1)
 have hlP:=(bK HPB.out HKE.out HNE.out.1).lt
 have hhP:=bH (bK HPB.out HKE.out HNE.out.1)
 have hgP:=bG (bK HPB.out HKE.out HNE.out.1)
 revert hgP
 revert hhP
 revert hlP
 revert hcP
 exact QQ.out) : G := h g
theorem zy17 {G G' : Prop} (g : G') (h : G' → G := by
 intro qq
 have QQ := Go.Lib.hid qq
 clear qq
 (repeat first|refine qs3 ?_|refine qt3 HY0.out zb31 ?_|refine qp3 HY0.out ?_)
 exact QQ.out) : G := h g
theorem zy18 {G G' : Prop} (g : G') (h : G' → G := by
 intro qq
 have QQ := Go.Lib.hid qq
 clear qq
 have HB:=J (show Blk (putAt wA g 0 #[.int .i64 0,.int .i64 0,.int .i64 (k.params.n:Nat),.int .i64 1,.int .i64 0]) g 62 #[.int .i64 0,.int .i64 0,.int .i64 (k.params.n:Nat),.int .i64 1,.int .i64 0] from Blk.put_ BA.out 0 _)
 revert HB
 exact QQ.out) : G := h g
theorem zy19 {G G' : Prop} (g : G') (h : G' → G := by
 intro qq
 have QQ := Go.Lib.hid qq
 clear qq
 refine qr3 (fun w1=>Ext W2 w1) [(0,1),(1,0),(2,2)] ?_;refine qrl ?_
 have HZ0:=J (show Ext W2 W2.drew from (kR _ W2).drew)
 revert HZ0
 exact QQ.out) : G := h g
theorem zy20 {G G' : Prop} (g : G') (h : G' → G := by
 intro qq
 have QQ := Go.Lib.hid qq
 clear qq
 have hI1:=hI1
 have l1:=l1
 generalize w1.heap.size=ic at hI1 l1 ⊢
 have hi1:=bH hI1
 have hj1:=bG hI1
 revert hj1
 revert hi1
 revert l1
 revert hI1
 revert ic
 exact QQ.out) : G := h g
theorem zy21 {G G' : Prop} (g : G') (h : G' → G := by
 intro qq
 have QQ := Go.Lib.hid qq
 clear qq
 have hbl:=hx0r.size
 have hh':=has_ext hx0r zb85 hh
 have hg':=gets_ext hx0r zb85 hg
 have hbw:b < wr.heap.size:=by omega
 revert hbw
 revert hg'
 revert hh'
 revert hbl
 exact QQ.out) : G := h g
theorem zy22 {G G' : Prop} (g : G') (h : G' → G := by
 intro qq
 have QQ := Go.Lib.hid qq
 clear qq
 refine qr3 (fun w2=>Ext W2 w2) [(0,2),(1,1),(16,2),(17,1),(2,0),(3,2),(4,2),(5,1),(6,0),(7,2),(8,2),(9,2),(10,1),(11,2),(12,1),(13,2),(14,2),(15,2),(18,0)] ?_;refine qrl ?_
 have HV0:=J (show Ext W2 W2.drew from (kR _ W2).drew)
 (repeat first|refine qs3 ?_|refine qt3 HV0.out zb23 ?_|refine qp3 HV0.out ?_)
 (refine w3_act (fun K hK=>?_);go_simp)
 refine (right_any _ _).mono ?_
 revert hK
 revert K
 revert HV0
 exact QQ.out) : G := h g
theorem zy23 {G G' : Prop} (g : G') (h : G' → G := by
 intro qq
 have QQ := Go.Lib.hid qq
 clear qq
 (repeat refine qs3 ?_)
 (refine w3_act (fun K hK=>?_);go_simp)
 revert hK
 revert K
 exact QQ.out) : G := h g
theorem zy24 {G G' : Prop} (g : G') (h : G' → G := by
 intro qq
 have QQ := Go.Lib.hid qq
 clear qq
 refine qr3 (fun wz=>Ext w3 wz) [(0,2),(1,2),(2,2),(3,2),(4,2),(5,1),(6,1),(7,2),(8,2),(9,2),(10,2),(11,2),(12,1),(13,0),(14,2),(15,2),(16,2),(17,2),(18,0)] ?_;refine qrl ?_
 exact QQ.out) : G := h g
theorem zy25 {G G' : Prop} (g : G') (h : G' → G := by
 intro qq
 have QQ := Go.Lib.hid qq
 clear qq
 have hm:=hf.max zb85
 have HN:=J hn
 have HA:=J hA
 have HE:=J hE
 revert HE
 revert HA
 revert HN
 revert hm
 exact QQ.out) : G := h g
theorem zy26 {G G' : Prop} (g : G') (h : G' → G := by
 intro qq
 have QQ := Go.Lib.hid qq
 clear qq
 have HS6:=J (show Blk (putAt w5 sb 0 (stCells pc (some ⟨g5,0,none⟩) (memN p) c5 halt)) sb 49 (stCells pc (some ⟨g5,0,none⟩) (memN p) c5 halt) from Blk.put_ HS5.out 0 _)
 revert HS6
 exact QQ.out) : G := h g
theorem zy27 {G G' : Prop} (g : G') (h : G' → G := by
 intro qq
 have QQ := Go.Lib.hid qq
 clear qq
 have yd:KT x.B x.wm W1 W1.drew:=KT.ext (kR _ W1).drew
 (refine w3_act (fun K hK=>?_);go_simp)
 revert hK
 revert K
 revert yd
 exact QQ.out) : G := h g
theorem zy28 {G G' : Prop} (g : G') (h : G' → G := by
 intro qq
 have QQ := Go.Lib.hid qq
 clear qq
 refine hK.out _ _ (fun _=>y1) ?_
 (repeat refine qs4 ?_)
 (refine w4_act (fun K hK=>?_);go_simp)
 have y2:=y1.alloc (.cells #[.int .i64 0,.string ⟨#[]⟩] 60)
 have hfb:=bN w1 60 #[.int .i64 0,.string ⟨#[]⟩]
 refine hK.out _ _ (fun _=>y2) ?_
 clear hK K
 generalize hW2:w1.alloc (.cells #[.int .i64 0,.string ⟨#[]⟩] 60)=W2 at y2 hfb ⊢
 clear hW2
 revert hfb
 revert y2
 revert W2
 exact QQ.out) : G := h g
theorem zy29 {G G' : Prop} (g : G') (h : G' → G := by
 intro qq
 have QQ := Go.Lib.hid qq
 clear qq
 have HY:=J (show Ext w (putAt wA g 0 #[.int .i64 0,.int .i64 0,.int .i64 (k.params.n:Nat),.int .i64 1,.int .i64 0]) from yA.trans' hkp (fun i hi e=>by have:=HG.out;omega))
 revert HY
 exact QQ.out) : G := h g
theorem zy30 {G G' : Prop} (g : G') (h : G' → G := by
 intro qq
 have QQ := Go.Lib.hid qq
 clear qq
 have hMS:=h.ext y1
 have hX1:=hX.kt (KT.ext (B:=x.B) (wm:=x.wm) y1) h.hN h.hB
 revert hX1
 revert hMS
 exact QQ.out) : G := h g
theorem zy31 {G G' : Prop} (g : G') (h : G' → G := by
 intro qq
 have QQ := Go.Lib.hid qq
 clear qq
 have hnl:lst j=true→False:=fun h=>by
  exact zz82
 have hQ:∀ c a w,QL Q lst j (.panic c) (a.put oi.dst v) w→QL Q lst j (.panic c) a w:=fun c a w h=>by
  unfold QL at h ⊢
  rw [if_neg (fun e=>hnl e)] at h
  exact h.elim
 have h2:=wpOp_putIf hoj (hfree j oj hoj hji hjun hnot) (fun cs b=>hsel i oi cs b hi) (fun cs b=>hsel j oj cs b hoj) hQ hy h1
 have hfree':∀ k ok,ops[k]?=some ok→k ≠ i→(listed.setIfInBounds j true).getD k true=false →
  (∀ e ∈ ok.after,Region.binds md e=true→e.on ≠ i)→oi.apart ops ok=true:=fun k ok hk hki hun hno=>by
  refine hfree k ok hk hki ?_ hno
  by_cases hjk:j=k
  ·subst hjk;exact hjun
  ·rw [getD_set_ne true hjk] at hun;exact hun
 revert hfree'
 revert h2
 revert hQ
 revert hnl
 exact QQ.out) : G := h g
theorem zy32 {G G' : Prop} (g : G') (h : G' → G := by
 intro qq
 have QQ := Go.Lib.hid qq
 clear qq
 rintro e w7 ⟨y7,ho7⟩
 have HY7:=J y7
 have HR7:=J (HR6.out.ext y7)
 have HWS:=J (show w.heap.size≤w6.heap.size from HY6.out.size)
 clear y7
 have l4:=bH HR7.out
 have l5:=Blk.melts HR7.out
 have l6:=HR7.out.lt
 revert l6
 revert l5
 revert l4
 revert HWS
 revert HR7
 revert HY7
 revert ho7
 revert w7
 revert e
 exact QQ.out) : G := h g
theorem zy33 {G G' : Prop} (g : G') (h : G' → G := by
 intro qq
 have QQ := Go.Lib.hid qq
 clear qq
 have KL:=J (show SSl w0 N lA l.len l from ⟨rfl,n2,bl,ol,a2,hl⟩)
 have KX:=J (show SSl w0 N xA x.len x from ⟨rfl,n3,bx,ox,a3,hxx⟩)
 revert KX
 revert KL
 exact QQ.out) : G := h g
theorem zy34 {G G' : Prop} (g : G') (h : G' → G := by
 intro qq
 have QQ := Go.Lib.hid qq
 clear qq
 have hkp:Kept (·=g) wA (putAt wA g 0 #[.int .i64 0,.int .i64 0,.int .i64 (k.params.n:Nat),.int .i64 1,.int .i64 0]):=Kept.putAt (kR _ _) _ 0 _ (fun _=>rfl)
 revert hkp
 exact QQ.out) : G := h g
theorem zy35 {G G' : Prop} (g : G') (h : G' → G := by
 intro qq
 have QQ := Go.Lib.hid qq
 clear qq
 obtain ⟨⟨sA,sn,sc⟩,hs⟩:∃ s,s=slP (⟨p.name,p.seats,⟨kA,j,kc⟩,⟨vA,vn,vc⟩,cs,⟨tA,tn,tc⟩,⟨A,n,cc⟩,cpl,p.silent,cq,⟨zA,zn,zc⟩⟩:Pc) i:=⟨_,rfl⟩
 have hpt:=(HPA.out.ext HXB.out HNW.out).part i
 have hac:=part_cell (⟨p.name,p.seats,⟨kA,j,kc⟩,⟨vA,vn,vc⟩,cs,⟨tA,tn,tc⟩,⟨A,n,cc⟩,cpl,p.silent,cq,⟨zA,zn,zc⟩⟩:Pc) i hlt
 rw [← hs] at hpt hac
 have HSS:=J hpt
 have HAC:=J (show (partCells (⟨p.name,p.seats,⟨kA,j,kc⟩,⟨vA,vn,vc⟩,cs,⟨tA,tn,tc⟩,⟨A,n,cc⟩,cpl,p.silent,cq,⟨zA,zn,zc⟩⟩:Pc))[i]?=some (Value.slice sA sn sc) from hac)
 clear hs hpt hac
 obtain ⟨f,hf⟩:∃ f,f=chkP p i:=⟨_,rfl⟩
 revert hf
 revert f
 revert HAC
 revert HSS
 revert sc
 revert sn
 revert sA
 exact QQ.out) : G := h g
theorem zy36 {G G' : Prop} (g : G') (h : G' → G := by
 intro qq
 have QQ := Go.Lib.hid qq
 clear qq
 refine qf4 ?_
 have y9:Ext W1 (w4.alloc (.cells (mkCells none 0 0 c b wm 0 sm em) 160)):=(y4).alloc _
 have hbm:=bN w4 160 (mkCells none 0 0 c b wm 0 sm em)
 have hml:W1.heap.size≤w4.heap.size:=(y4).size
 have ya:Ext w4 (w4.alloc (.cells (mkCells none 0 0 c b wm 0 sm em) 160)):=(kR (fun _=>False) w4).alloc _
 revert ya
 revert hml
 revert hbm
 revert y9
 exact QQ.out) : G := h g
theorem zy37 {G G' : Prop} (g : G') (h : G' → G := by
 intro qq
 have QQ := Go.Lib.hid qq
 clear qq
 refine (sort_any c p A n k l name N _ (Nat.le_trans HNW.out HXC.out.size) (HPA.out.ext HXC.out HNW.out) (HSL.out.ext HXC.out)).mono ?_
 rintro e w2 ⟨rfl,hx2⟩
 rw [← HV.out]
 have HXC:=J (HXC.out.trans hx2)
 clear hx2
 revert HXC
 revert w2
 exact QQ.out) : G := h g
theorem zy38 {G G' : Prop} (g : G') (h : G' → G := by
 intro qq
 have QQ := Go.Lib.hid qq
 clear qq
 (repeat first|refine qs3 ?_|refine qt3 ⟨KT.ext (Kept.drew (kR _ _)),_,(HM0.out).drew⟩ zb3 ?_|refine qp3 ⟨KT.ext (Kept.drew (kR _ _)),_,(HM0.out).drew⟩ ?_)
 have yd1:KT x.B x.wm W1 W1.drew:=KT.ext (kR _ W1).drew
 have MD1:=J (HM0.out).drew
 (refine w3_act (fun K hK=>?_);go_simp)
 revert hK
 revert K
 revert MD1
 revert yd1
 exact QQ.out) : G := h g
theorem zy39 {G G' : Prop} (g : G') (h : G' → G := by
 intro qq
 have QQ := Go.Lib.hid qq
 clear qq
 rintro e w1 ⟨rfl,hm1,hk1⟩
 have YK1:=J ((Y0.out).trans hk1)
 have HM1:=J hm1
 have HKK1:=J hk1
 clear hm1 hk1
 revert HKK1
 revert HM1
 revert YK1
 revert w1
 exact QQ.out) : G := h g
theorem zy40 {G G' : Prop} (g : G') (h : G' → G := by
 intro qq
 have QQ := Go.Lib.hid qq
 clear qq
 refine qr3 (fun wz=>Ext w wz) [(0,2),(1,2),(2,2),(3,1),(4,2),(5,2),(6,2),(7,1),(8,2),(9,2),(10,0),(11,2),(12,0)] ?_;refine qrl ?_
 exact QQ.out) : G := h g
theorem zy41 {G G' : Prop} (g : G') (h : G' → G := by
 intro qq
 have QQ := Go.Lib.hid qq
 clear qq
 (refine w4_act (fun K hK=>?_);go_simp)
 have y1:Ext wr (wr.alloc (.cells #[.int .i64 0,.string ⟨#[]⟩] 60)).drew:=((kR _ wr).alloc _).drew
 refine hK.out _ _ (fun _=>y1) ?_
 clear hK K
 generalize hW1:(wr.alloc (.cells #[.int .i64 0,.string ⟨#[]⟩] 60)).drew=W1 at y1 ⊢
 revert y1
 revert hW1
 revert W1
 exact QQ.out) : G := h g
theorem zy42 {G G' : Prop} (g : G') (h : G' → G := by
 intro qq
 have QQ := Go.Lib.hid qq
 clear qq
 have b3:=b3
 rw [← hnb] at b3 ⊢
 have B3:=J b3
 have Y3:=J (Y2.out.trans y3)
 have HNB:=J hnb
 have i1:=bC (bX B2.out y3)
 have i2:=(bX B2.out y3).lt
 have j1:=bC (bX H7.out Y3.out)
 have j2:=(bX H7.out Y3.out).lt
 have l1:=bH (bX H4.out Y3.out)
 have l2:=bG (bX H4.out Y3.out)
 have l3:=(bX H4.out Y3.out).lt
 clear b3
 revert l3
 revert l2
 revert l1
 revert j2
 revert j1
 revert i2
 revert i1
 revert HNB
 revert Y3
 revert B3
 exact QQ.out) : G := h g
theorem zy43 {G G' : Prop} (g : G') (h : G' → G := by
 intro qq
 have QQ := Go.Lib.hid qq
 clear qq
 have ks:Kept (·=sb) w5 (putAt w5 sb 0 (stCells pc (some ⟨g5,0,none⟩) (memN p) c5 halt)):=Kept.putAt (kR _ _) _ 0 _ (fun _=>rfl)
 revert ks
 exact QQ.out) : G := h g
theorem zy44 {G G' : Prop} (g : G') (h : G' → G := by
 intro qq
 have QQ := Go.Lib.hid qq
 clear qq
 (repeat first|refine qs3 ?_|refine qt3 HZ0.out zb21 ?_|refine qp3 HZ0.out ?_)
 exact QQ.out) : G := h g
theorem zy45 {G G' : Prop} (g : G') (h : G' → G := by
 intro qq
 have QQ := Go.Lib.hid qq
 clear qq
 have m1:=m0.lt
 have m0:=bC m0
 have u0:=kid_kt ((KT.ext y1).trans Y0.out) HNB.out KL0.out KH0.out KG0.out
 have u0a:=u0.1
 have u0b:=u0.2.1
 have u0c:=u0.2.2
 clear u0
 revert u0c
 revert u0b
 revert u0a
 revert m0
 revert m1
 exact QQ.out) : G := h g
theorem zy46 {G G' : Prop} (g : G') (h : G' → G := by
 intro qq
 have QQ := Go.Lib.hid qq
 clear qq
 have yA:Ext w (w.alloc (.cells #[.int .i64 0,.int .i64 0,.int .i64 0,.int .i64 0,.int .i64 0] 62)).drew:=((kR _ w).alloc _).drew
 revert yA
 exact QQ.out) : G := h g
theorem zy47 {G G' : Prop} (g : G') (h : G' → G := by
 intro qq
 have QQ := Go.Lib.hid qq
 clear qq
 (repeat refine qs4 ?_)
 (refine w4_act (fun K hK=>?_);go_simp)
 revert hK
 revert K
 exact QQ.out) : G := h g
theorem zy48 {G G' : Prop} (g : G') (h : G' → G := by
 intro qq
 have QQ := Go.Lib.hid qq
 clear qq
 have HM6:=J (HM5.out.kept ks (fun e=>by have h1:=HM5.out.ge;have h2:=HS3.out.lt;have h3:w3.drew.heap.size=w3.heap.size:=rfl;omega))
 revert HM6
 exact QQ.out) : G := h g
theorem zy49 {G G' : Prop} (g : G') (h : G' → G := by
 intro qq
 have QQ := Go.Lib.hid qq
 clear qq
 (repeat first|refine qs3 ?_|refine qt3 (Kept.drew (kR _ _)) zb20 ?_|refine qp3 (Kept.drew (kR _ _)) ?_)
 exact QQ.out) : G := h g
theorem zy50 {G G' : Prop} (g : G') (h : G' → G := by
 intro qq
 have QQ := Go.Lib.hid qq
 clear qq
 have b0:IMap (w.alloc (.map #[] 0)) w.heap.size (fun _=>none):=IMap.made w
 have y0:Ext w (w.alloc (.map #[] 0)):=(kR _ w).alloc _
 revert y0
 revert b0
 exact QQ.out) : G := h g
theorem zy51 {G G' : Prop} (g : G') (h : G' → G := by
 intro qq
 have QQ := Go.Lib.hid qq
 clear qq
 have HX4:=J (show X=ored (target κ k name low) (ored (chkD κ es) none) by
  have hn:named κ k name low high fors=target κ k name low:=by unfold named;rw [if_pos zb85]
  have h:=HX4.out
  rw [hn,if_neg zb85,if_neg zb85] at h
  exact h)
 revert HX4
 exact QQ.out) : G := h g
theorem zy52 {G G' : Prop} (g : G') (h : G' → G := by
 intro qq
 have QQ := Go.Lib.hid qq
 clear qq
 have hz:∀ w,(sizeOf 21).run Tryz.prog w=.ok 1 w:=fun w=>sizeOf_run zb83 w
 have ht':Tryz.prog.underlying 27=some (.slice (Tryz.prog.elem 27)):=by simp [Program.elem,Tryz.underlying27]
 have he:Tryz.prog.elem 27=21:=by simp [Program.elem,Tryz.underlying27]
 revert he
 revert ht'
 revert hz
 exact QQ.out) : G := h g
theorem zy53 {G G' : Prop} (g : G') (h : G' → G := by
 intro qq
 have QQ := Go.Lib.hid qq
 clear qq
 obtain ⟨hin,bI,hA,hbI,hrI⟩:=HIN.out
 have hOK:=first_okay (V:=V) (Ar:=Ar) HF.out HK.out HV.out.2.1 HA.out.2.1
 have hml:=mem0_len HF.out HK.out
 (refine w3_act (fun K hK=>?_);go_simp)
 revert hK
 revert K
 revert hml
 revert hOK
 revert hrI
 revert hbI
 revert hA
 revert bI
 revert hin
 exact QQ.out) : G := h g
theorem zy54 {G G' : Prop} (g : G') (h : G' → G := by
 intro qq
 have QQ := Go.Lib.hid qq
 clear qq
 have o1:=bC HB5.out
 have o2:=HB5.out.lt
 have o3:=Blk.frozen HB5.out
 have HNB:=J (fun (e:s5.v.ownBlock=some ob)=>own_other HO5.out (E':=38) zb84 ob e _ _ HB5.out)
 have HNR:=J (fun (e:s5.v.ownBlock=some (sb+1))=>own_other HO5.out (E':=38) zb84 (sb+1) e _ _ HR5.out)
 revert HNR
 revert HNB
 revert o3
 revert o2
 revert o1
 exact QQ.out) : G := h g
theorem zy55 {G G' : Prop} (g : G') (h : G' → G := by
 intro qq
 have QQ := Go.Lib.hid qq
 clear qq
 have HZ1:=J (HZ0.out.trans hx1)
 refine hK.out _ _ (fun _=>HZ1.out) ?_
 refine qf3 ?_
 revert HZ1
 exact QQ.out) : G := h g
theorem zy56 {G G' : Prop} (g : G') (h : G' → G := by
 intro qq
 have QQ := Go.Lib.hid qq
 clear qq
 rintro e w2 ⟨rfl,hm2,hk2⟩
 have yk2:=(yd1).trans hk2
 have HM2:=J hm2
 clear hm2 hk2
 refine hK.out _ _ (fun _=>⟨yk2,_,(HM2.out)⟩) ?_
 refine qf3 ?_
 have YR3:=J ((Y0.out).trans yk2)
 revert YR3
 revert HM2
 revert yk2
 revert w2
 exact QQ.out) : G := h g
theorem zy57 {G G' : Prop} (g : G') (h : G' → G := by
 intro qq
 have QQ := Go.Lib.hid qq
 clear qq
 refine qr3 (fun w1=>Ext W w1) [(0,2),(1,1),(2,0),(3,2),(4,2),(5,1),(6,2),(7,2),(8,1),(9,2),(10,1),(11,2),(12,2),(13,0)] ?_;refine qrl ?_
 exact QQ.out) : G := h g
theorem zy58 {G G' : Prop} (g : G') (h : G' → G := by
 intro qq
 have QQ := Go.Lib.hid qq
 clear qq
 have hrun:=Mc.run_any (some ⟨gi,0,none⟩) gi 0 (codeP p j).length ci (codeP p j) 0 0 g 0 (memN p) (memN p) (mem0 p j V Ar) (stepN p j) (by have:=HST.out j HL5.out;omega) wi ⟨HOP.out.ext yi,fun _=>rfl,fun _=>hri,rfl,by omega,hml.symm,by rw [← hml];exact hOK.right,hOK.mok,(Blk.row HG7.out).ext yi⟩
 simp only [hit,hsh0,Bool.not_false] at hrun
 refine hrun.mono ?_
 clear hrun
 exact QQ.out) : G := h g
theorem zy59 {G G' : Prop} (g : G') (h : G' → G := by
 intro qq
 have QQ := Go.Lib.hid qq
 clear qq
 rintro e w1 ⟨rfl,hx1⟩
 have HY1:=J (HY0.out.trans hx1)
 clear hx1
 refine hK.out _ _ (fun _=>HY1.out) ?_
 revert HY1
 revert w1
 exact QQ.out) : G := h g
theorem zy60 {G G' : Prop} (g : G') (h : G' → G := by
 intro qq
 have QQ := Go.Lib.hid qq
 clear qq
 refine iff_want rfl ?_
 refine Lib.wp_append_run _ _ _ _ _ rfl _ _ rfl rfl _ _ hrun ?_
 exact QQ.out) : G := h g
theorem zy61 {G G' : Prop} (g : G') (h : G' → G := by
 intro qq
 have QQ := Go.Lib.hid qq
 clear qq
 refine qr3 (fun w2=>Ext w1 w2) [(0,2),(1,2),(2,1),(12,2),(13,1),(3,0),(4,2),(5,2),(6,2),(7,2),(8,1),(9,1),(10,2),(11,2),(14,0)] ?_;refine qrl ?_
 have HZ0:=J (show Ext w1 w1.drew from (kR _ w1).drew)
 (repeat first|refine qs3 ?_|refine qt3 HZ0.out zb15 ?_|refine qp3 HZ0.out ?_)
 (refine w3_act (fun K hK=>?_);go_simp)
 refine (knows_any cb g κ E0 0 x.name _ (HCX.out.ext (HZW.out.trans (HY2.out.trans HZ0.out)))).mono ?_
 revert hK
 revert K
 revert HZ0
 exact QQ.out) : G := h g
theorem zy62 {G G' : Prop} (g : G') (h : G' → G := by
 intro qq
 have QQ := Go.Lib.hid qq
 clear qq
 have c1:=bC HC6.out
 have c2:=HC6.out.lt
 have c3:=Blk.frozen HC6.out
 refine qf3 ?_
 clear c1 c2 c3
 exact QQ.out) : G := h g
theorem zy63 {G G' : Prop} (g : G') (h : G' → G := by
 intro qq
 have QQ := Go.Lib.hid qq
 clear qq
 refine qr3 (fun w1=>Ext W w1) [(0,2),(1,1),(2,0),(3,2),(4,2),(5,2),(6,1),(7,2),(8,2),(9,1),(10,0),(11,2),(12,2)] ?_;refine qrl ?_
 exact QQ.out) : G := h g
theorem zy64 {G G' : Prop} (g : G') (h : G' → G := by
 intro qq
 have QQ := Go.Lib.hid qq
 clear qq
 have hE4:Ext W3 wr ∨ True:=Or.inr trivial
 clear hE4
 have hcr:CAt wr ex st:=HC3.out.kept HK.out HES.out.1 HES.out.2
 revert hcr
 exact QQ.out) : G := h g
theorem zy65 {G G' : Prop} (g : G') (h : G' → G := by
 intro qq
 have QQ := Go.Lib.hid qq
 clear qq
 
 refine qr3 (fun w2=>Ext w1 w2) [(0,2),(1,1),(2,2),(3,1),(4,0),(5,2),(6,2),(7,1),(8,2),(9,2),(10,2),(11,1),(12,0),(13,2)] ?_;refine qrl ?_
 have HZ0:=J (show Ext w1 w1.drew from (kR _ w1).drew)
 (repeat first|refine qs3 ?_|refine qt3 HZ0.out zb8 ?_|refine qp3 HZ0.out ?_)
 (refine w3_act (fun K hK=>?_);go_simp)
 refine (find_any p.vars x.name vA vn vc N _ (HPA.out.ext (HXC.out.trans HZ0.out) HNW.out).vars).mono ?_
 revert hK
 revert K
 revert HZ0
 exact QQ.out) : G := h g
theorem zy66 {G G' : Prop} (g : G') (h : G' → G := by
 intro qq
 have QQ := Go.Lib.hid qq
 clear qq
 have hmf:∀ (fn:Fn) (first cap:Array Value) (w:World),(Instr.makeFunc fn first cap).run Tryz.prog w=.ok (.func fn first cap) w:=fun _ _ _ _=>rfl
 revert hmf
 exact QQ.out) : G := h g
theorem zy67 {G G' : Prop} (g : G') (h : G' → G := by
 intro qq
 have QQ := Go.Lib.hid qq
 clear qq
 have hK:=(expr_all x f W hM κ F).2
 obtain ⟨h0,h1,h2,h3⟩:=id hM
 have hdp:=hX.dp_
 have HNB:=J (And.intro h.hN h.hB)
 revert HNB
 revert hdp
 revert h3
 revert h2
 revert h1
 revert h0
 revert hK
 exact QQ.out) : G := h g
theorem zy68 {G G' : Prop} (g : G') (h : G' → G := by
 intro qq
 have QQ := Go.Lib.hid qq
 clear qq
 rintro e w2 ⟨rfl,hm2,hk2⟩
 have YK2:=J ((YK1.out).trans hk2)
 have HM2:=J hm2
 have HKK2:=J hk2
 clear hm2 hk2
 revert HKK2
 revert HM2
 revert YK2
 revert w2
 exact QQ.out) : G := h g
theorem zy69 {G G' : Prop} (g : G') (h : G' → G := by
 intro qq
 have QQ := Go.Lib.hid qq
 clear qq
 have HPA:=J (h.ext hx0 hN)
 have HNW:=J (Nat.le_trans hN hx0.size)
 revert HNW
 revert HPA
 exact QQ.out) : G := h g
theorem zy70 {G G' : Prop} (g : G') (h : G' → G := by
 intro qq
 have QQ := Go.Lib.hid qq
 clear qq
 have hrow:=(HE.out zb85).2.ext HX.out
 obtain ⟨hh',hg'⟩:=vr_at hrow j hjl
 have hbw:=hrow.lt
 revert hbw
 revert hg'
 revert hh'
 revert hrow
 exact QQ.out) : G := h g
theorem zy71 {G G' : Prop} (g : G') (h : G' → G := by
 intro qq
 have QQ := Go.Lib.hid qq
 clear qq
 have y3:=(kR (fun _=>False) w2).alloc (.cells #[.int .i64 0,.string ⟨#[]⟩] 60)
 have hV:=bN w2 60 #[.int .i64 0,.string ⟨#[]⟩]
 revert hV
 revert y3
 exact QQ.out) : G := h g
theorem zy72 {G G' : Prop} (g : G') (h : G' → G := by
 intro qq
 have QQ := Go.Lib.hid qq
 clear qq
 have HY0:=J (show Ext W W.drew from (kR _ W).drew)
 revert HY0
 exact QQ.out) : G := h g
theorem zy73 {G G' : Prop} (g : G') (h : G' → G := by
 intro qq
 have QQ := Go.Lib.hid qq
 clear qq
 have hx0:=(kR (fun _=>False) w).alloc (.cells c.cells 26)
 have hB:=bN w 26 c.cells
 revert hB
 revert hx0
 exact QQ.out) : G := h g
theorem zy74 {G G' : Prop} (g : G') (h : G' → G := by
 intro qq
 have QQ := Go.Lib.hid qq
 clear qq
 have HBG:=J hbig
 have hr:=bK HRC.out HKS.out zb85
 have l4:=bH hr
 have l5:=Blk.melts hr
 have l6:=hr.lt
 have HR:=J hr
 clear hr
 revert HR
 revert l6
 revert l5
 revert l4
 revert HBG
 exact QQ.out) : G := h g
theorem zy75 {G G' : Prop} (g : G') (h : G' → G := by
 intro qq
 have QQ := Go.Lib.hid qq
 clear qq
 have q4:=bK (bX H4.out Y3.out) KM.out HQ.out.1
 have q7:=bK (bX H7.out Y3.out) KM.out HQ.out.2.1
 have i1:=bC q7
 have i2:=q7.lt
 have i3:=bH q4
 have i4:=bG q4
 have i5:=q4.lt
 clear q4 q7
 revert i5
 revert i4
 revert i3
 revert i2
 revert i1
 exact QQ.out) : G := h g
theorem zy76 {G G' : Prop} (g : G') (h : G' → G := by
 intro qq
 have QQ := Go.Lib.hid qq
 clear qq
 (repeat refine qs3 ?_)
 (refine w3_last zb83 zb83 (fun K hK=>?_);go_simp)
 revert hK
 revert K
 exact QQ.out) : G := h g
theorem zy77 {G G' : Prop} (g : G') (h : G' → G := by
 intro qq
 have QQ := Go.Lib.hid qq
 clear qq
 have y3:=(kR (fun _=>False) w2).alloc (.cells #[.int .i64 fe,.string fn] 60)
 have hV:=bN w2 60 #[.int .i64 fe,.string fn]
 revert hV
 revert y3
 exact QQ.out) : G := h g
theorem zy78 {G G' : Prop} (g : G') (h : G' → G := by
 intro qq
 have QQ := Go.Lib.hid qq
 clear qq
 have HCC:=J (show wr.cell? ⟨cb,0,none⟩=some (.int .i64 (cells p.vars)) from bC HCI.out 0)
 revert HCC
 exact QQ.out) : G := h g
theorem zy79 {G G' : Prop} (g : G') (h : G' → G := by
 intro qq
 have QQ := Go.Lib.hid qq
 clear qq
 refine (lright_any c p N _ (Nat.le_trans HNW.out HX1.out.size) (HPA.out.ext HX1.out HNW.out) HCAP.out HZ.out HF.out HC.out HNL.out).mono ?_
 rintro e w2 ⟨rfl,hx2⟩
 have HX2:=J (HX1.out.trans hx2)
 revert HX2
 revert hx2
 revert w2
 exact QQ.out) : G := h g
theorem zy80 {G G' : Prop} (g : G') (h : G' → G := by
 intro qq
 have QQ := Go.Lib.hid qq
 clear qq
 have i1:=bH (HB.out.ext HX1.out)
 have i2:=bG (HB.out.ext HX1.out)
 have i3:=(HB.out.ext HX1.out).lt
 revert i3
 revert i2
 revert i1
 exact QQ.out) : G := h g
theorem zy81 {G G' : Prop} (g : G') (h : G' → G := by
 intro qq
 have QQ := Go.Lib.hid qq
 clear qq
 (refine w3_act (fun K hK=>?_);go_simp)
 refine (between_any _ _ _ _).mono ?_
 revert hK
 revert K
 exact QQ.out) : G := h g
theorem zy82 {G G' : Prop} (g : G') (h : G' → G := by
 intro qq
 have QQ := Go.Lib.hid qq
 clear qq
 refine w3_end zb83 (fun K hK=>?_)
 refine if_want' rfl ?_
 refine wp_ins_run _ _ _ _ _ rfl rfl rfl rfl rfl hrun ?_
 refine hK.out _ _ ?_
 clear hK K
 refine qf3 ?_
 exact QQ.out) : G := h g
theorem zy83 {G G' : Prop} (g : G') (h : G' → G := by
 intro qq
 have QQ := Go.Lib.hid qq
 clear qq
 have kp:Kept (·=rb) w7 (putAt w7 rb 0 outZ.c):=Kept.putAt (kR _ _) _ 0 _ (fun _=>rfl)
 revert kp
 exact QQ.out) : G := h g
theorem zy84 {G G' : Prop} (g : G') (h : G' → G := by
 intro qq
 have QQ := Go.Lib.hid qq
 clear qq
 have hDr:=bX HD.out HXC.out
 have hmr:=hDr.melts
 have hhr:=bH hDr
 have hlr:=hDr.lt
 revert hlr
 revert hhr
 revert hmr
 revert hDr
 exact QQ.out) : G := h g
theorem zy85 {G G' : Prop} (g : G') (h : G' → G := by
 intro qq
 have QQ := Go.Lib.hid qq
 clear qq
 rintro W1 vb ⟨ye,hvb⟩
 have HVB:=J hvb
 have YV1:=J (Y0.out.trans (KT.ext (B:=x.B) (wm:=x.wm) ye))
 have HM1:=J (HMr.out.ext ye)
 have YVB:=J (KT.refl x.B x.wm W1)
 clear ye hvb
 have q0:=KT.block YV1.out HB.out zb84 zb84
 have i1:=bC q0
 have i2:=q0.lt
 revert i2
 revert i1
 revert q0
 revert YVB
 revert HM1
 revert YV1
 revert HVB
 revert vb
 revert W1
 exact QQ.out) : G := h g
theorem zy86 {G G' : Prop} (g : G') (h : G' → G := by
 intro qq
 have QQ := Go.Lib.hid qq
 clear qq
 have HB:=HB
 have HY:=HY
 generalize (putAt wA g 0 #[.int .i64 0,.int .i64 0,.int .i64 (k.params.n:Nat),.int .i64 1,.int .i64 0])=w4 at HB HY ⊢
 revert HY
 revert HB
 revert w4
 exact QQ.out) : G := h g
theorem zy87 {G G' : Prop} (g : G') (h : G' → G := by
 intro qq
 have QQ := Go.Lib.hid qq
 clear qq
 refine hK.out _ _ ?_
 refine qf3 ?_
 have HY3:=J (HY2.out.trans HZ0.out)
 go_upto_region 8 with (fail)
 generalize hW3:W2.drew=W3 at HY3 ⊢
 clear hW3
 refine qr3 (fun w1=>Ext W3 w1) [(0,2),(1,2),(2,2),(3,1),(4,2),(5,1),(6,1),(7,2),(8,2),(9,1),(10,2),(11,2),(12,2),(13,1),(14,0)] ?_;refine qrl ?_
 have HU0:=J (show Ext W3 W3.drew from (kR _ W3).drew)
 revert HU0
 revert HY3
 revert W3
 exact QQ.out) : G := h g
theorem zy88 {G G' : Prop} (g : G') (h : G' → G := by
 intro qq
 have QQ := Go.Lib.hid qq
 clear qq
 (refine w3_act (fun K hK=>?_);go_simp)
 refine (fine_any _).mono ?_
 revert hK
 revert K
 exact QQ.out) : G := h g
theorem zy89 {G G' : Prop} (g : G') (h : G' → G := by
 intro qq
 have QQ := Go.Lib.hid qq
 clear qq
 have bA:=(bN w 62 #[.int .i64 0,.int .i64 0,.int .i64 0,.int .i64 0,.int .i64 0]).drew
 revert bA
 exact QQ.out) : G := h g
theorem zy90 {G G' : Prop} (g : G') (h : G' → G := by
 intro qq
 have QQ := Go.Lib.hid qq
 clear qq
 (repeat first|refine qs3 ?_|refine qt3 HV0.out zb23 ?_|refine qp3 HV0.out ?_)
 exact QQ.out) : G := h g
theorem zy91 {G G' : Prop} (g : G') (h : G' → G := by
 intro qq
 have QQ := Go.Lib.hid qq
 clear qq
 (repeat first|refine qs3 ?_|refine qt3 HY0.out zb32 ?_|refine qp3 HY0.out ?_)
 exact QQ.out) : G := h g
theorem zy92 {G G' : Prop} (g : G') (h : G' → G := by
 intro qq
 have QQ := Go.Lib.hid qq
 clear qq
 rintro e w3 ⟨rfl,hm3,hk3⟩
 have YK3:=J ((YK2.out).trans hk3)
 have HM3:=J hm3
 have HKK3:=J hk3
 clear hm3 hk3
 revert HKK3
 revert HM3
 revert YK3
 revert w3
 exact QQ.out) : G := h g
theorem zy93 {G G' : Prop} (g : G') (h : G' → G := by
 intro qq
 have QQ := Go.Lib.hid qq
 clear qq
 have kp:Kept (·=rb) w7 (putAt w7 rb 0 v.c):=Kept.putAt (kR _ _) _ 0 _ (fun _=>rfl)
 revert kp
 exact QQ.out) : G := h g
theorem zy94 {G G' : Prop} (g : G') (h : G' → G := by
 intro qq
 have QQ := Go.Lib.hid qq
 clear qq
 have hfb1:=hfb1
 have hfl:wr.heap.size≤wr.heap.size:=Nat.le_refl _
 generalize hfbe:(wr.heap.size:Nat)=fb at hfb1 hfl ⊢
 have HFL:=J (show wr.heap.size≤fb by omega)
 clear hfl hfbe
 have HY1:=J y1
 (repeat refine qs4 ?_)
 revert HY1
 revert HFL
 revert hfb1
 revert fb
 exact QQ.out) : G := h g
theorem zy95 {G G' : Prop} (g : G') (h : G' → G := by
 intro qq
 have QQ := Go.Lib.hid qq
 clear qq
 (repeat first|refine qs3 ?_|refine qt3 HU0.out zb1 ?_|refine qp3 HU0.out ?_)
 exact QQ.out) : G := h g
theorem zy96 {G G' : Prop} (g : G') (h : G' → G := by
 intro qq
 have QQ := Go.Lib.hid qq
 clear qq
 have yA:=yA
 have bA:=bA
 generalize (w.alloc (.cells #[.int .i64 0,.int .i64 0,.int .i64 0,.int .i64 0,.int .i64 0] 62)).drew=wA at yA bA ⊢
 revert bA
 revert yA
 revert wA
 exact QQ.out) : G := h g
theorem zy97 {G G' : Prop} (g : G') (h : G' → G := by
 intro qq
 have QQ := Go.Lib.hid qq
 clear qq
 have q0:=KT.block Y0.out HB.out zb84 zb84
 have i1:=bC q0
 have i2:=q0.lt
 revert i2
 revert i1
 revert q0
 exact QQ.out) : G := h g
theorem zy98 {G G' : Prop} (g : G') (h : G' → G := by
 intro qq
 have QQ := Go.Lib.hid qq
 clear qq
 have hk:Rows.uptoBulkAll ([d0,d1] ++ gs)≤1048576:=of_decide_eq_true hk
 simp only [List.cons_append,Rows.uptoBulkAll] at hk
 obtain ⟨hLA,hOA⟩:=laid_at4 hL (five_blocks hS)
 revert hOA
 revert hLA
 revert hk
 exact QQ.out) : G := h g
theorem zy99 {G G' : Prop} (g : G') (h : G' → G := by
 intro qq
 have QQ := Go.Lib.hid qq
 clear qq
 refine qr3 (fun w1=>Ext W w1) [(0,2),(1,2),(2,2),(3,2),(4,2),(5,2),(6,2),(7,1),(8,2),(9,2),(10,2),(11,2),(12,2),(13,2),(14,2),(15,2),(16,2),(17,1),(18,2),(19,1),(20,2),(21,2),(22,2),(23,2),(24,2),(25,1),(26,2),(27,0),(28,2),(29,2)] ?_;refine qrl ?_
 exact QQ.out) : G := h g
theorem zy100 {G G' : Prop} (g : G') (h : G' → G := by
 intro qq
 have QQ := Go.Lib.hid qq
 clear qq
 have HZ1:=J (HZ0.out.trans hx4)
 refine hK.out _ _ (fun _=>HZ1.out) ?_
 refine qf3 ?_
 have HXC:=J (HY3.out.trans HZ1.out)
 revert HXC
 revert HZ1
 exact QQ.out) : G := h g
theorem zy101 {G G' : Prop} (g : G') (h : G' → G := by
 intro qq
 have QQ := Go.Lib.hid qq
 clear qq
 have HY6:=J ((HY3.out.trans HY5.out).trans' ks (fun i hi e=>by have:=HSB.out;omega))
 revert HY6
 exact QQ.out) : G := h g
theorem zy102 {G G' : Prop} (g : G') (h : G' → G := by
 intro qq
 have QQ := Go.Lib.hid qq
 clear qq
 have l1:=bH HB8.out
 have l2:=bG HB8.out
 have l3:=HB8.out.lt
 have l4:=bH HR8.out
 have l5:=Blk.melts HR8.out
 have l6:=HR8.out.lt
 revert l6
 revert l5
 revert l4
 revert l3
 revert l2
 revert l1
 exact QQ.out) : G := h g
theorem zy103 {G G' : Prop} (g : G') (h : G' → G := by
 intro qq
 have QQ := Go.Lib.hid qq
 clear qq
 refine (sort_any c p A n k l s N _ (Nat.le_trans hN (hx0.trans (HX0.out.trans ys)).size) (HP.out.ext (hx0.trans (HX0.out.trans ys)) hN) (HL.out.ext (hx0.trans (HX0.out.trans ys)))).mono ?_
 rintro e w1 ⟨rfl,hxs⟩
 obtain ⟨v,hv⟩:∃ v,v=updAll (knV p.vars) l s:=⟨_,rfl⟩
 rw [← hv]
 have HV:=J hv
 have yt:=ys.trans hxs
 have hcE2:=bC (bX hE0.out yt)
 revert hcE2
 revert yt
 revert HV
 revert hv
 revert v
 revert hxs
 revert w1
 exact QQ.out) : G := h g
theorem zy104 {G G' : Prop} (g : G') (h : G' → G := by
 intro qq
 have QQ := Go.Lib.hid qq
 clear qq
 refine qr3 (fun w1=>Ext W3 w1) [(0,2),(1,2),(2,2),(3,1),(4,2),(5,1),(6,1),(7,2),(8,2),(9,2),(10,1),(11,0)] ?_;refine qrl ?_
 exact QQ.out) : G := h g
theorem zy105 {G G' : Prop} (g : G') (h : G' → G := by
 intro qq
 have QQ := Go.Lib.hid qq
 clear qq
 obtain ⟨d1,p1,g1,k1,l1⟩:=hf 1 _ rfl
 replace k1:DataW.trod enc Tryz.prog w base (fun _=>true) held m 3 ((cs.drop 1).take (Tryz.prog.cellsOf 3))=some (d1,p1):=k1
 rw [cellsInt] at k1
 revert k1
 revert l1
 revert g1
 revert p1
 revert d1
 exact QQ.out) : G := h g
theorem zy106 {G G' : Prop} (g : G') (h : G' → G := by
 intro qq
 have QQ := Go.Lib.hid qq
 clear qq
 refine zy43 ?_;intro ks
 refine zy26 ?_;intro HS6
 have HR6:=J (bK HR5.out ks zb71)
 refine zy48 ?_;intro HM6
 refine zy101 ?_;intro HY6
 clear ks
 generalize (putAt w5 sb 0 (stCells pc (some ⟨g5,0,none⟩) (memN p) c5 halt))=w6 at HS6 HR6 HM6 HY6 ⊢
 revert HY6
 revert HM6
 revert HR6
 revert HS6
 revert w6
 exact QQ.out) : G := h g
theorem zy107 {G G' : Prop} (g : G') (h : G' → G := by
 intro qq
 have QQ := Go.Lib.hid qq
 clear qq
 refine qf3 ?_
 refine zy34 ?_;intro hkp
 refine zy18 ?_;intro HB
 refine zy29 ?_;intro HY
 clear hkp
 refine zy86 ?_;clear HB HY;intro w4 HB HY
 revert HY
 revert HB
 revert w4
 exact QQ.out) : G := h g
theorem zy108 {G G' : Prop} (g : G') (h : G' → G := by
 intro qq
 have QQ := Go.Lib.hid qq
 clear qq
 refine zy46 ?_;intro yA
 refine hK.out _ _ (fun _=>yA) ?_
 refine zy89 ?_;intro bA
 refine zy96 ?_;clear yA bA;intro wA yA bA
 revert bA
 revert yA
 revert wA
 exact QQ.out) : G := h g
theorem zy109 {G G' : Prop} (g : G') (h : G' → G := by
 intro qq
 have QQ := Go.Lib.hid qq
 clear qq
 obtain ⟨o0,n0,s0,K0,A0,c0,kb0,ko0,ka0,kl0,kh0,kg0,kx0,ke0,kc0⟩:=kid_at hK hX.kids hX.chk (tw:=(0:Int)) zb84 zb85 (j:=0) hl0
 refine zy14 ?_;clear kh0 kg0 kx0 ke0 kc0 kl0;intro KH0 KG0 KX0 KE0 KC0 KL0
 revert KL0
 revert KC0
 revert KE0
 revert KX0
 revert KG0
 revert KH0
 revert ka0
 revert ko0
 revert kb0
 revert c0
 revert A0
 revert K0
 revert s0
 revert n0
 revert o0
 exact QQ.out) : G := h g
theorem zy110 {G G' : Prop} (g : G') (h : G' → G := by
 intro qq
 have QQ := Go.Lib.hid qq
 clear qq
 have HPI:=J (HPJ.out.kept HKI.out zb40 (fun i e=>by have:=HNC.out;omega))
 refine zy78 ?_;intro HCC
 revert HCC
 revert HPI
 exact QQ.out) : G := h g
theorem zy111 {G G' : Prop} (g : G') (h : G' → G := by
 intro qq
 have QQ := Go.Lib.hid qq
 clear qq
 obtain ⟨hn,hf,b,off,hA,hE⟩:=id h
 refine zy25 ?_;intro hm HN HA HE
 have HI:=J IH
 clear hn hA hE hf
 revert HI
 revert HE
 revert HA
 revert HN
 revert hm
 revert off
 revert b
 exact QQ.out) : G := h g
end Go.Proofs.YtbfbabbcdochjaaGreatDoor
