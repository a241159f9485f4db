/- Ends of proofs that stand more than once, each as a theorem with a default proof, run where it is used. -/
import Derived.WalkKit
import Derived.WalkSpells
import Derived.WalkLawsBesides
import Derived.RegionTactic
import Derived.BigRegion
import Derived.Deep.QuietTactic
import Derived.BigQuiet
import Derived.Outline
import Derived.Lib.Hide
import Derived.Deep.RegionWith
import Derived.Deep.LoopGhost
import Derived.Deep.DeepCutAuto
import Derived.StillTailTactics
import Derived.Deep.RegionHeld3
namespace Go.Proofs.YtbfbabbcdochjaaGreatDoor
theorem J {p : Prop} (h : p) : Go.RowKit.Hid p := Go.Lib.hid h
theorem cu {G G' : Prop} (g : G') (h : G' → G := by (intro qq; have QQ := Go.Lib.hid qq; clear qq; (first | ((apply abw); (· go_simp); (· (intro w1; go_simp; try with_reducible rfl))) | ((apply abx); (· go_simp)) | fail); (intro K hK; go_simp; refine hK _ _ ?_; clear hK K); exact QQ.out)) : G := h g
theorem zS {G G' : Prop} (g : G') (h : G' → G := by (intro qq; have QQ := Go.Lib.hid qq; clear qq; (first | ((apply abz); (· go_simp); (· (intro w1; go_simp; try with_reducible rfl))) | ((apply abA); (· go_simp)) | fail); (intro K hK; go_simp; refine hK _ _ ?_; clear hK K); exact QQ.out)) : G := h g
theorem qs5 {G G' : Prop} (g : G') (h : G' → G := by (intro qq; have QQ := Go.Lib.hid qq; clear qq; (first | ((apply ajM); (· go_simp); (· (intro w1; go_simp; try with_reducible rfl))) | ((apply ajN); (· go_simp)) | fail); (intro K hK; go_simp; refine hK _ _ ?_; clear hK K); exact QQ.out)) : G := h g
theorem tO {G G' : Prop} (g : G') (h : G' → G := by (intro qq; have QQ := Go.Lib.hid qq; clear qq; (intro K hK; go_simp; refine hK _ _ ?_; clear hK K); exact QQ.out)) : G := h g
theorem qY {G G' : Prop} (g : G') (h : G' → G := by (intro qq; have QQ := Go.Lib.hid qq; clear qq; (refine wpList_step (fun K hK => ?_); go_simp; (try go_bits); refine hK _ _ ?_; clear hK K); exact QQ.out)) : G := h g
theorem gN {G G' : Prop} (g : G') (h : G' → G := by (intro qq; have QQ := Go.Lib.hid qq; clear qq; intro l' hl'; simp only [List.map_cons, List.map_nil, List.getD_cons_zero, List.getD_cons_succ] at hl'; subst hl'; exact QQ.out)) : G := h g
theorem UA {G G' : Prop} (g : G') (h : G' → G := by (intro qq; have QQ := Go.Lib.hid qq; clear qq; intro p' hp'; simp only [vN.fill, List.getD_cons_zero, List.getD_cons_succ] at hp'; subst hp'; exact QQ.out)) : G := h g
theorem gI {G G' : Prop} (g : G') (h : G' → G := by (intro qq; have QQ := Go.Lib.hid qq; clear qq; (repeat (first | (refine cu ?_) | (refine QJ (by kernel_rfl) (fun K hK => ?_); go_simp; refine hK.out _ _ ?_; clear hK K) | fail)); refine aeR ?_; exact QQ.out)) : G := h g
theorem LY {G G' : Prop} (g : G') (h : G' → G := by (intro qq; have QQ := Go.Lib.hid qq; clear qq; (repeat (first | (refine zS ?_) | (refine aeS (by kernel_rfl) (fun K hK => ?_); go_simp; refine hK.out _ _ ?_; clear hK K) | fail)); refine aeT ?_; exact QQ.out)) : G := h g
theorem qf5 {G G' : Prop} (g : G') (h : G' → G := by (intro qq; have QQ := Go.Lib.hid qq; clear qq; (repeat (first | (refine qs5 ?_) | (refine alK (by kernel_rfl) (fun K hK => ?_); go_simp; refine hK.out _ _ ?_; clear hK K) | fail)); refine alL ?_; exact QQ.out)) : G := h g
theorem gX {G : Prop} (h : G := by (go_simp; (try with_reducible rfl); first | done | fail)) : G := h
theorem zb1 {G : Prop} (h : G := by intro w1 hS;have d0:=bX HV9.out hS;have d1:=bH d0;have d2:=bG d0;have d3:=d0.lt;have e0:=bX HB9.out hS;have e1:=bH e0;have e2:=bG e0;have e3:=e0.lt;have f0:=bX HS9.out hS;have f1:=bC f0;have f2:=f0.lt;exact gX) : G := h
theorem zb2 {G : Prop} (h : G := by intro w1 hS;have d1:=(vJ.out.ext (eX.out.trans hS));have d2:=bC d1.blk;have d3:=d1.blk.lt;have d7:=ags d1 s;rw [← HV.out,hvI] at d7;clear d1;have d4:=bX hE0.out (eX.out.trans hS);have d5:=bC d4;have d6:=d4.lt;exact gX) : G := h
theorem zb3 {G : Prop} (h : G := by intro w1 hS;have d0:=bX HB.out hS;have d1:=bC d0;have d2:=d0.lt;have hm':=HM.out.ext hS;obtain ⟨A',n',cp',hb',_⟩:=hm'.blk;have d3:=bC hb';have d4:=hb'.lt;have d5:=T_ hm'.Ql op HF.out.1 HF.out.2;exact gX) : G := h
theorem zb4 {G : Prop} (h : G := by intro w1 hS;have d0:=KT.block hS.1 oK.out (by decide) (by decide);have d1:=bC d0;have d2:=d0.lt;obtain ⟨L',hm'⟩:=hS.2;obtain ⟨A',n',cp',hb',_⟩:=hm'.blk;have d3:=bC hb';have d4:=hb'.lt;have d5:=MS.look hm';exact gX) : G := h
theorem zb5 {G : Prop} (h : G := by intro w1 hS;have d0:=bK sS.out hS VH.out;have d1:=bC d0;have d2:=d0.lt;have e1:=(hS.cell (p:=⟨ab,ao+j,none⟩) HA2.out xq.out).trans HA1.out;have e2:=Nat.lt_of_lt_of_le HA2.out hS.size;exact gX) : G := h
theorem zb6 {G : Prop} (h : G := by intro w1 hS;have d1:=(vJ.out.ext (dX.out.trans hS));have d2:=bC d1.blk;have d3:=d1.blk.lt;clear d1;have d4:=bX hE0.out (dX.out.trans hS);have d5:=bC d4;have d6:=d4.lt;exact gX) : G := h
theorem zb7 {G : Prop} (h : G := by intro w1 hS;have d0:=bX adv.out hS;have d1:=bH d0;have d2:=bG d0;have d3:=d0.lt;have e0:=bX ajO.out hS;have e1:=bH e0;have e2:=bG e0;have e3:=e0.lt;exact gX) : G := h
theorem zb8 {G : Prop} (h : G := by intro w1 hS;have d0:=bX adv.out hS;have d1:=bH d0;have d2:=bG d0;have d3:=d0.lt;have e0:=bX HB2.out hS;have e1:=bH e0;have e2:=bG e0;have e3:=e0.lt;exact gX) : G := h
theorem zb9 {G : Prop} (h : G := by intro w1 hS;have d0:=bX HV7.out hS;have d1:=bH d0;have d2:=bG d0;have d3:=d0.lt;have e0:=bX Fq.out hS;have e1:=bH e0;have e2:=bG e0;have e3:=e0.lt;exact gX) : G := h
theorem abE {G : Prop} (h : G := by intro w1 hS;have d0:=bX HV9.out hS;have d1:=bH d0;have d2:=bG d0;have d3:=d0.lt;have e0:=bX HB9.out hS;have e1:=bH e0;have e2:=bG e0;have e3:=e0.lt;exact gX) : G := h
theorem YL {G : Prop} (h : G := by intro w1 hS;have d0:=bX ZT.out hS;have d1:=bH d0;have d2:=bG d0;have d3:=d0.lt;have c0:=bX tH.out.box hS;have c1:=bC c0;have c3:=c0.lt;exact gX) : G := h
theorem aeU {G : Prop} (h : G := by intro w1 hS;have d4:=bX hE0.out hS;have d5:=bC d4;have d6:=d4.lt;have d7:=mQ (p:=⟨2,k,none⟩) hS (by have:=pI.out.lt;show 2 < _;omega) HT.out;exact gX) : G := h
theorem aeV {G : Prop} (h : G := by intro w1 hS;have d4:=bX hE0.out hS;have d5:=bC d4;have d6:=d4.lt;have d7:=mQ (p:=⟨4,k,none⟩) hS (by have:=pI.out.lt;show 4 < _;omega) HT.out;exact gX) : G := h
theorem aeW {G : Prop} (h : G := by intro w1 hS;have d4:=bX qh.out hS;have d5:=bC d4;have d6:=d4.lt;have e4:=bX HB.out (dF.out.trans hS);have e5:=bC e4;have e6:=e4.lt;exact gX) : G := h
theorem aeX {G : Prop} (h : G := by intro w1 hS;have d4:=bK lN.out (j_.out.trans (Kept.ext hS)) nD.out.1;have d5:=bC d4;have d6:=d4.lt;have d7:=bH d4;have d8:=bG d4;exact gX) : G := h
theorem aik {G : Prop} (h : G := by intro w1 hS;have d0:=bX Cc.out hS;have d1:=bC d0;have d2:=d0.lt;have e0:=bX HC5.out hS;have e1:=bC e0;have e2:=e0.lt;exact gX) : G := h
theorem alN {G : Prop} (h : G := by intro w1 hS;have d0:=bX HBI.out hS;have d1:=bH d0;have d2:=bG d0;have d3:=d0.lt;have e0:=bX Br.out hS;have e1:=e0.lt;exact gX) : G := h
theorem ail {G : Prop} (h : G := by intro w1 hS;have d4:=bX hV.out (fH.out.trans hS);have d5:=bC d4;have d6:=d4.lt;have d7:=bH d4;have d8:=bG d4;exact gX) : G := h
theorem ain {G : Prop} (h : G := by intro w1 hS;have d4:=bX hV.out (eX.out.trans hS);have d5:=bC d4;have d6:=d4.lt;have d7:=bH d4;have d8:=bG d4;exact gX) : G := h
theorem abF {G : Prop} (h : G := by intro w1 hS;have d4:=bK lN.out (j_.out.trans (Kept.ext hS)) nD.out.1;have d5:=bC d4;have d6:=d4.lt;exact gX) : G := h
theorem aeY {G : Prop} (h : G := by intro w1 hS;have d4:=bX hV.out (fH.out.trans hS);have d5:=bC d4;have d6:=d4.lt;have d7:=HLK.out _ hS;exact gX) : G := h
theorem pX {G : Prop} (h : G := by have:=HL.out;rw [sP.out] at this;simp only [List.length_append,List.length_cons,List.length_nil,gT] at this ⊢;omega) : G := h
theorem abG {G : Prop} (h : G := by intro w1 hS;have d0:=bK hC.out hS (by rw [lN.out];exact HPO.out);have d1:=bC d0;have d2:=d0.lt;exact gX) : G := h
theorem aeZ {G : Prop} (h : G := by intro w1 hS;have d1:=mQ hS hbw C2.out;have d2:=mQ hS hbw C5.out;have d3:=mQ hS hbw C6.out;exact gX) : G := h
theorem qW {G : Prop} (h : G := by have:=HL.out;rw [sP.out] at this;simp only [List.length_append,List.length_cons,List.length_nil] at this ⊢;omega) : G := h
theorem alO {G : Prop} (h : G := by intro w1 hS;have d1:=bC (bX hI2 hS);have d2:=(hM2.ext hS).cell y hyl;rw [← HV.out] at d2;exact gX) : G := h
theorem aio {G : Prop} (h : G := by intro w1 hS;have d0:=bX xE.out hS;have d1:=bG d0;have d2:=bH d0;have d3:=d0.lt;exact gX) : G := h
theorem aip {G : Prop} (h : G := by intro w1 hS;have d4:=bX hE0.out (dX.out.trans hS);have d5:=bC d4;have d6:=d4.lt;exact gX) : G := h
theorem Vf {G : Prop} (h : G := by intro w1 hS;have d4:=bX hE0.out (fH.out.trans hS);have d5:=bC d4;have d6:=d4.lt;exact gX) : G := h
theorem aiq {G : Prop} (h : G := by intro w1 hS;have d4:=bX hE0.out (o_.out.trans hS);have d5:=bC d4;have d6:=d4.lt;exact gX) : G := h
theorem air {G : Prop} (h : G := by intro w1 hS;have d4:=bX hV.out (dX.out.trans hS);have d5:=bC d4;have d6:=d4.lt;exact gX) : G := h
theorem QN {G : Prop} (h : G := by intro w1 hS;have d0:=bK hC.out hS vT.out;have d1:=bC d0;have d2:=d0.lt;exact gX) : G := h
theorem MK {G : Prop} (h : G := by intro w1 hS;have d1:=bC (bX hC.out hS);have d2:=(bX hC.out hS).lt;exact gX) : G := h
theorem Vg {G : Prop} (h : G := by have:=SK.out;(try simp only [List.length_append,List.length_cons,List.length_nil]);omega) : G := h
theorem YM {G : Prop} (h : G := by intro w1 hS;have d0:=bX HC.out.box hS;have d1:=bC d0;have d2:=d0.lt;exact gX) : G := h
theorem ais {G : Prop} (h : G := by intro w1 hS;have d0:=bX HB1.out hS;have d1:=bC d0;have d2:=d0.lt;exact gX) : G := h
theorem ait {G : Prop} (h : G := by intro w1 hS;have d0:=bX sS.out hS;have d1:=bC d0;have d2:=d0.lt;exact gX) : G := h
theorem aiu {G : Prop} (h : G := by intro w1 hS;have d0:=bX HS8.out hS;have d1:=bC d0;have d2:=d0.lt;exact gX) : G := h
theorem afa {G : Prop} (h : G := by intro w1 hS;have d4:=bX hE0.out hS;have d5:=bC d4;have d6:=d4.lt;exact gX) : G := h
theorem afb {G : Prop} (h : G := by intro w1 hS;have d4:=bX HS.out hS;have d5:=bC d4;have d6:=d4.lt;exact gX) : G := h
theorem abH {G : Prop} (h : G := by intro w1 hS;have d4:=bX hV.out hS;have d5:=bC d4;have d6:=d4.lt;exact gX) : G := h
theorem afc {G : Prop} (h : G := by have:=HLX.out;simp only [List.length_append,List.length_cons,List.length_nil];omega) : G := h
theorem afd {G : Prop} (h : G := by rw [HJ.out];simp only [List.length_append,List.length_cons,List.length_nil];omega) : G := h
theorem aiv {G : Prop} (h : G := by (try simp only [List.length_append,List.length_cons,List.length_nil]);omega) : G := h
theorem aiw {G : Prop} (h : G := by have h1:=HUB.out;have h2:=JR.out;simp only [List.length_take] at h1;omega) : G := h
theorem aix {G : Prop} (h : G := by unfold exC;rw [if_neg (by omega),if_neg (by omega),if_neg (by omega)];rfl) : G := h
theorem aiy {G : Prop} (h : G := by have:=qH;first | exact qH.high | exact qH.2.2.2 | exact qH.2.2.1) : G := h
theorem afe {G : Prop} (h : G := by have h:=C_.out;rw [HN.out,List.take_length] at h;exact h) : G := h
theorem YN {G : Prop} (h : G := by have a:=uS.out;have b:=Wm.out;have d:=y4.size;omega) : G := h
theorem alP {G : Prop} (h : G := by have:=E_.out;have:=fP.out;have:=oZ.out.size;omega) : G := h
theorem YO {G : Prop} (h : G := by have:=VO.out;have a:=uS.out;have b:=Wm.out;omega) : G := h
theorem YP {G : Prop} (h : G := by have:=Gc HSL.out;unfold sI at this;omega) : G := h
theorem YQ {G : Prop} (h : G := by have:=Br.out.lt;show cb < wr.heap.size+1;omega) : G := h
theorem EN {G : Prop} (h : G := by simp [bQ,cO,nM hyl,nM hzl,hv,hu]) : G := h
theorem aff {G : Prop} (h : G := by have:=Bq.out;have:=HF.out;have:=Fv.out;omega) : G := h
theorem EO {G : Prop} (h : G := by rw [hu];exact HO.out _ (List.getElem_mem hzl)) : G := h
theorem w_ {G : Prop} (h : G := by rw [hv];exact HO.out _ (List.getElem_mem hyl)) : G := h
theorem ML {G : Prop} (h : G := by exact aH.gL (Nt.out.ext jc.out) 0 _) : G := h
theorem alQ {G : Prop} (h : G := by have a:=Wm.out;have b:=fP.out;omega) : G := h
theorem YR {G : Prop} (h : G := by have a:=uS.out;have b:=Wm.out;omega) : G := h
theorem afg {G : Prop} (h : G := by rw [HN.out,List.take_length];exact hv) : G := h
theorem xg {G : Prop} (h : G := by have:=E_.out;have:=Br.out.lt;omega) : G := h
theorem abI {G : Prop} (h : G := by rw [hxe];exact List.getElem_mem hjl) : G := h
theorem afh {G : Prop} (h : G := by simp [gJ,IntKind.wrap_i32,wrap32]) : G := h
theorem QO {G : Prop} (h : G := by rw [HR.out];exact aH.gL fq 0 _) : G := h
theorem afi {G : Prop} (h : G := by have:=qh.out;have:=xu.out;omega) : G := h
theorem Vh {G : Prop} (h : G := by have:=HM.out;have:=zu.out;omega) : G := h
theorem abJ {G : Prop} (h : G := by simp [bQ,nM hyl,← hv,hz]) : G := h
theorem abK {G : Prop} (h : G := by show aL 0;unfold aL;omega) : G := h
theorem QS {G : Prop} (h : G := by rw [HR.out];exact iI) : G := h
theorem abL {G : Prop} (h : G := by rw [hin];have:=Nr.out;omega) : G := h
theorem FV {G : Prop} (h : G := by rw [← ZU.out];exact HLC.out) : G := h
theorem FW {G : Prop} (h : G := by exact aH.gL E9.out 0 _) : G := h
theorem abM {G : Prop} (h : G := by exact aH.gL Wp.out 0 _) : G := h
theorem FX {G : Prop} (h : G := by rw [← HT.out];exact HZ.out) : G := h
theorem Vi {G : Prop} (h : G := by exact aH.gL HR.out 0 _) : G := h
theorem abN {G : Prop} (h : G := by rw [← jo.out];exact hq) : G := h
theorem xk {G : Prop} (h : G := by have:=F5.out.2;omega) : G := h
theorem EP {G : Prop} (h : G := by have:=akk.out;omega) : G := h
theorem afj {G : Prop} (h : G := by have:=Nr.out;omega) : G := h
theorem YS {G : Prop} (h : G := by have:=qZ.out;omega) : G := h
theorem QT {G : Prop} (h : G := by have:=fP.out;omega) : G := h
theorem YT {G : Prop} (h : G := by have:=HQN.out;omega) : G := h
theorem MN {G : Prop} (h : G := by have:=HRW.out;omega) : G := h
theorem alR {G : Prop} (h : G := by have:=Bv.out;omega) : G := h
theorem YU {G : Prop} (h : G := by have:=HSL.out;omega) : G := h
theorem YV {G : Prop} (h : G := by rw [F6.out];decide) : G := h
theorem kG {G : Prop} (h : G := by unfold au;omega) : G := h
theorem jP {G : Prop} (h : G := by unfold aL;omega) : G := h
theorem YW {G : Prop} (h : G := by have:=hkd 0;omega) : G := h
theorem yS {G : Prop} (h : G := by rw [hlen'];decide) : G := h
theorem YX {G : Prop} (h : G := by unfold dM;simp) : G := h
theorem Vj {G : Prop} (h : G := by rw [iZ.out];rfl) : G := h
theorem Vk {G : Prop} (h : G := by exact vD) : G := h
theorem bP {G : Prop} (h : G := by unfold fr;omega) : G := h
theorem sF {G : Prop} (h : G := by exact uI) : G := h
theorem BU {G : Prop} (h : G := by exact uJ) : G := h
theorem Vl {G : Prop} (h : G := by simp <;> omega) : G := h
theorem Vm {G : Prop} (h : G := by exact CQ) : G := h
theorem bT {G : Prop} (h : G := by kernel_rfl) : G := h
theorem ak {G : Prop} (h : G := by decide) : G := h
theorem aj {G : Prop} (h : G := by omega) : G := h
theorem aG {G : Prop} (h : G := by simp) : G := h
theorem jf {G : Prop} (h : G := by rfl) : G := h
theorem zz6 {G : Prop} (h : G := by
 intro jr
 have KEY:=J jr
 clear jr
 refine Uz (fun wz=>SM x f W W1 wz) (.op 0 2 (.op 1 2 (.op 2 2 (.op 3 1 (.op 4 2 (.op 5 1 (.fork 6 (.op 7 2 (.op 8 2 (.op 9 2 (.op 10 2 (.op 11 0 (.op 12 2 (.op 13 0 (.op 14 2 .nil)))))))) 11 (.op 6 0 (.op 7 2 (.op 8 2 (.op 9 2 (.op 10 2 (.op 12 2 (.op 13 0 (.op 14 2 .nil))))))))))))))) ?_;refine UA ?_
 have bU:=J (show Ext W1 W1.drew from (kR _ W1).drew)
 (repeat (first | refine zS ?_ | ((apply ig);(· exact ⟨KT.ext bU.out,_,EZ.out.ext bU.out⟩);(· go_simp);(· (intro w1 hS;have d0:=KT.block hS.1 oK.out ak ak;have d1:=bC d0;have d2:=d0.lt;obtain ⟨L',hm'⟩:=hS.2;obtain ⟨A',n',cp',hb',_⟩:=hm'.blk;have d3:=bC hb';have d4:=hb'.lt;have d5:=MS.look hm';have d6:=bH hb';have d7:=bG hb'; go_simp;try with_reducible rfl));refine tO ?_) | ((apply h_);(· exact ⟨KT.ext bU.out,_,EZ.out.ext bU.out⟩);(· go_simp);refine tO ?_)))
 refine iE ?_ ?_
 ·(refine dz (fun K hK=>?_);go_simp)
  go_wp2_with fail
  refine (zW x.c x.p s x.N _ (Nat.le_trans hs0 bU.out.size) (EZ.out.ext bU.out).prog).mono ?_
  rintro e w1 ⟨rfl,hx1⟩
  have y2:=bU.out.trans hx1
  refine hK.out _ _ (fun _=>⟨KT.ext y2,_,EZ.out.ext y2⟩) ?_
  clear hK K
  refine m_ ?_;intro K hK
  have y3:=y2.alloc (.cells #[.string ⟨#[]⟩,.int .i64 0,.int .i64 0,.int .i64 0] 109)
  have oQ:=bN w1 109 #[.string ⟨#[]⟩,.int .i64 0,.int .i64 0,.int .i64 0]
  refine hK.out _ _ (fun _=>⟨KT.ext y3,_,EZ.out.ext y3⟩) ?_
  clear hK K
  generalize hW2:w1.alloc (.cells #[.string ⟨#[]⟩,.int .i64 0,.int .i64 0,.int .i64 0] 109)=W2 at y3 oQ ⊢
  clear hW2
  have hfl:(W1:World).heap.size≤w1.heap.size:=y2.size
  generalize w1.heap.size=fb at oQ hfl ⊢
  have oN:=oQ.bF
  have Cw:=bH oQ
  refine m_ ?_;intro K hK
  have y4:=y3.putAt fb 0 (aJ (aD x.p.vars s)) (fun hlt=>absurd hlt aj)
  have Lv:aH (putAt W2 fb 0 (aJ (aD x.p.vars s))) fb 109 (aJ (aD x.p.vars s)):=aH.gL oQ 0 (aJ (aD x.p.vars s))
  refine hK.out _ _ (fun _=>⟨KT.ext y4,_,EZ.out.ext y4⟩) ?_
  clear hK K oN Cw
  refine LY ?_
  generalize putAt W2 fb 0 (aJ (aD x.p.vars s))=W3 at y4 Lv ⊢
  exact KEY.out _ _ ⟨y4,Lv⟩
 ·(refine dz (fun K hK=>?_);go_simp)
  have y1':Ext W1 (W1.alloc (.cells #[.string ⟨#[]⟩,.int .i64 0,.int .i64 0,.int .i64 0] 109)).drew:=((kR _ W1).alloc _).drew
  refine hK.out _ _ (fun _=>⟨KT.ext y1',_,EZ.out.ext y1'⟩) ?_
  clear hK K
  generalize hWx:(W1.alloc (.cells #[.string ⟨#[]⟩,.int .i64 0,.int .i64 0,.int .i64 0] 109)).drew=Wx at y1' ⊢
  have nA:aH Wx W1.heap.size 109 #[.string ⟨#[]⟩,.int .i64 0,.int .i64 0,.int .i64 0]:=by rw [← hWx];exact aH.drew (bN W1 _ _)
  clear hWx
  have hfl:(W1:World).heap.size≤W1.heap.size:=Nat.le_refl _
  generalize Ir:(W1.heap.size:Nat)=fb at nA hfl ⊢
  have qZ:=J (show (W1:World).heap.size≤fb by omega)
  clear hfl Ir
  have dX:=J y1'
  refine m_ ?_;intro K hK
  go_wp2_with fail
  refine (zW x.c x.p s x.N _ (Nat.le_trans hs0 dX.out.size) (EZ.out.ext dX.out).prog).mono ?_
  rintro e w1 ⟨rfl,hx1⟩
  have y2:=dX.out.trans hx1
  refine hK.out _ _ (fun _=>⟨KT.ext y2,_,EZ.out.ext y2⟩) ?_
  clear hK K y1'
  have rM:=bX nA hx1
  have oN:=rM.bF
  have Cw:=bH rM
  refine m_ ?_;intro K hK
  have y4:=y2.putAt fb 0 (aJ (aD x.p.vars s)) (fun hlt=>absurd hlt YS)
  have Lv:aH (putAt w1 fb 0 (aJ (aD x.p.vars s))) fb 109 (aJ (aD x.p.vars s)):=aH.gL rM 0 (aJ (aD x.p.vars s))
  refine hK.out _ _ (fun _=>⟨KT.ext y4,_,EZ.out.ext y4⟩) ?_
  clear hK K oN Cw
  refine LY ?_
  generalize putAt w1 fb 0 (aJ (aD x.p.vars s))=W3 at y4 Lv ⊢
  exact KEY.out _ _ ⟨y4,Lv⟩) : G := h
theorem zz7 {G : Prop} (h : G := by
 intro jr
 have KEY:=J jr
 clear jr
 refine Uz (fun wz=>Ext W1 wz) (.op 0 2 (.op 1 2 (.op 2 2 (.op 3 1 (.op 4 2 (.op 5 1 (.fork 6 (.op 7 2 (.op 8 2 (.op 9 2 (.op 10 2 (.op 11 0 (.op 12 2 (.op 13 0 (.op 14 2 .nil)))))))) 11 (.op 6 0 (.op 7 2 (.op 8 2 (.op 9 2 (.op 10 2 (.op 12 2 (.op 13 0 (.op 14 2 .nil))))))))))))))) ?_;refine UA ?_
 have bU:=J (show Ext W1 W1.drew from (kR _ W1).drew)
 refine aiG ?_
 refine iE ?_ ?_
 ·(refine dz (fun K hK=>?_);go_simp)
  go_wp2_with fail
  refine (nR x.c x.p name x.N _ (Nat.le_trans hs0 bU.out.size) (Ki.out.ext bU.out hs0)).mono ?_
  rintro e Ve ⟨rfl,hx1⟩
  have y2:=bU.out.trans hx1
  refine hK.out _ _ (fun _=>y2) ?_
  clear hK K
  refine m_ ?_;intro K hK
  refine acS ?_;clear hK K;intro W2 y3 oQ
  have hfl:(W1:World).heap.size≤Ve.heap.size:=y2.size
  generalize Ve.heap.size=fb at oQ hfl ⊢
  have oN:=oQ.bF
  have Cw:=bH oQ
  refine m_ ?_;intro K hK
  have y4:=y3.putAt fb 0 (aJ (aD x.p.vars name)) (fun hlt=>absurd hlt aj)
  have Lv:aH (putAt W2 fb 0 (aJ (aD x.p.vars name))) fb 66 (aJ (aD x.p.vars name)):=aH.gL oQ 0 (aJ (aD x.p.vars name))
  refine hK.out _ _ (fun _=>y4) ?_
  clear hK K oN Cw
  refine LY ?_
  generalize putAt W2 fb 0 (aJ (aD x.p.vars name))=W3 at y4 Lv ⊢
  exact KEY.out _ _ ⟨y4,Lv⟩
 ·(refine dz (fun K hK=>?_);go_simp)
  have y1':Ext W1 (W1.alloc (.cells #[.string ⟨#[]⟩,.int .i64 0,.int .i64 0,.int .i64 0] 66)).drew:=((kR _ W1).alloc _).drew
  refine hK.out _ _ (fun _=>y1') ?_
  clear hK K
  generalize hWx:(W1.alloc (.cells #[.string ⟨#[]⟩,.int .i64 0,.int .i64 0,.int .i64 0] 66)).drew=Wx at y1' ⊢
  have nA:aH Wx W1.heap.size 66 #[.string ⟨#[]⟩,.int .i64 0,.int .i64 0,.int .i64 0]:=by rw [← hWx];exact aH.drew (bN W1 _ _)
  clear hWx
  have hfl:(W1:World).heap.size≤W1.heap.size:=Nat.le_refl _
  generalize Ir:(W1.heap.size:Nat)=fb at nA hfl ⊢
  have qZ:=J (show (W1:World).heap.size≤fb by omega)
  clear hfl Ir
  have dX:=J y1'
  refine m_ ?_;intro K hK
  go_wp2_with fail
  refine (nR x.c x.p name x.N _ (Nat.le_trans hs0 dX.out.size) (Ki.out.ext dX.out hs0)).mono ?_
  rintro e Ve ⟨rfl,hx1⟩
  have y2:=dX.out.trans hx1
  refine hK.out _ _ (fun _=>y2) ?_
  clear hK K y1'
  have rM:=bX nA hx1
  have oN:=rM.bF
  have Cw:=bH rM
  refine m_ ?_;intro K hK
  have y4:=y2.putAt fb 0 (aJ (aD x.p.vars name)) (fun hlt=>absurd hlt YS)
  have Lv:aH (putAt Ve fb 0 (aJ (aD x.p.vars name))) fb 66 (aJ (aD x.p.vars name)):=aH.gL rM 0 (aJ (aD x.p.vars name))
  refine hK.out _ _ (fun _=>y4) ?_
  clear hK K oN Cw
  refine LY ?_
  generalize putAt Ve fb 0 (aJ (aD x.p.vars name))=W3 at y4 Lv ⊢
  exact KEY.out _ _ ⟨y4,Lv⟩) : G := h
theorem afx {G : Prop} (h : G := by
 go_wp2_with fail
 go_loopw [56] (fun t56 wr=>∃ (j:Nat) (R:EF),j+R.len=kn∧gq κ R=r∧t56=.int .i64 j∧mK w0 N0 R b (off+j * 4)∧EF.All (adu cb κ w0) R∧Ext W wr) (fun t56 _=>kn - (intOf t56).toNat)
 case atStart=>exact ⟨0,F,by rw [HN.out,Nat.zero_add],VI.out,rfl,by simpa using HE.out,HI.out,ys⟩
 case round =>
  obtain ⟨j,R,hj,hacc,rfl,hR,hI,hx⟩:=hrel
  have HRR:=J hR
  have HI2:=J hI
  have HX:=J hx
  have dw:=J hacc
  clear hR hI hx hacc
  cases R with
  | nil =>
   simp only [EF.len,Nat.add_zero] at hj
   subst hj
   have hr0:r=none:=by rw [← dw.out];rfl
   have HR0:=J hr0
   clear hr0
   go_wp2_with fail
   go_end0
   exact ⟨by rw [nE.out,HR0.out];rfl,HX0.out.trans HX.out⟩
  | cons op' m' name' q rr =>
   obtain ⟨hb,h1,h2,h3,⟨A',cap,b',off',hh,hg,hl,hA',hk⟩,hr⟩:=HRR.out
   simp only [EF.len] at hj
   have hlt:(j:Int) < kn:=by omega
   obtain rfl:=HA.out aj
   have jN:=hx0.trans (HX0.out.trans HX.out)
   refine FY ?_;intro hbl hh' hg' hbw
   have KE:=J (show g_ w0 N0 A' q.len q from ⟨rfl,hl,b',off',hA',hk⟩)
   have IK:=J HI2.out.1
   have Kq:=J jN
   have HR2:=J hr
   clear hh hg hl hA' hk h1 h2 h3 HRR hbl jN hr
   go_wp2_with fail
   have y0:Ext wr _:=(kR _ wr).alloc (.cells (aI op' m' name' A' q.len cap) 200)
   obtain ⟨f,hf⟩:∃ f,f=DC κ op' m' name' q:=⟨_,rfl⟩
   have HF:=J hf
   have HK:=J (IK.out op' m' name' A' q.len cap N0 _ (Kq.out.trans y0) hN0 KE.out)
   rw [← hf] at HK
   clear hf
   refine HK.out.mono ?_
   rintro e w1 ⟨he,hx1⟩
   cases f with
   | none =>
    have he:=dN.none he
    subst he
    have yV:=J (show gq κ rr=r by have h:=dw.out;rw [uU,← HF.out] at h;exact h)
    go_wp2_with fail
    go_roundw
    case rel=>exact ⟨j+1,rr,by omega,yV.out,by go_num,by rw [Nat.add_mul,← Nat.add_assoc];exact HR2.out,HI2.out.2,HX.out.trans (y0.trans hx1)⟩
    case measure=>simp only [intOf];omega
   | some f =>
    have he:=dN.some he
    subst he
    have F6:=J (show X=some f by have h:=dw.out;rw [uU,← HF.out] at h;rw [nE.out,← h];rfl)
    show _∧_
    exact ⟨rfl,by rw [F6.out];exact ⟨rfl,HX0.out.trans (HX.out.trans (y0.trans hx1))⟩⟩) : G := h
theorem afy {G : Prop} (h : G := by
 clear HTX
 obtain ⟨aq,nq,cq,m0,mo⟩:=(HMa.out).blk
 have m1:=m0.lt
 have m0:=bC m0
 clear mo
 go_wp2_with fail
 obtain ⟨hsn,hsf,sb,so,hsA,hsE⟩:=HS.out
 have hsl0:iO w N A F.len F:=⟨rfl,by rw [← hsn];exact hsf,sb,so,fun h=>hsA (by rw [hsn];exact h),hsE⟩
 have hsl:=(hsl0.kept HWX.out (by rw [lN.out];exact hN) (fun _ f=>f.elim)).kt HKa.out OC hlB.out
 subst hsn
 refine (Pg ⟨B,N,mb,p,c,b,wm,sm,em⟩ part F 0 (iC p b part) κ true A cap [] _ ⟨hbb.1,hbb.2,fun s=>(HW0.out s).1,fun s=>(HW0.out s).2⟩ NV.out aj HMa.out hsl HC.out hz (by have:=HL.out;show 0+(cB ⟨p.vars,p.seats,b⟩ F (iC p b part) 0 0).length≤4000;omega)).mono ?_
 rintro e wb ⟨rfl,hmb,hkb⟩
 have sS:=J (show MS wb B N mb p c b wm sm em 0 (iC p b part) (cB ⟨p.vars,p.seats,b⟩ F (iC p b part) 0 0) from hmb)
 have HKb:=J (HKa.out.trans (show KT B wm _ wb from hkb))
 clear hmb hkb m0 m1 hsf hsA hsE hsl hsl0
 go_wp2_with fail
 refine (dh B N mb wm sm em 0 p c b (iC p b part) (cB ⟨p.vars,p.seats,b⟩ F (iC p b part) 0 0) ⟨0,0,0,0⟩ ⟨abK,abK,abK,abK⟩ (by have:=HL.out;omega) _ sS.out).mono ?_
 rintro e wz ⟨rfl,hmz,hkz⟩
 have HKz:=J (HKb.out.trans hkz)
 obtain ⟨az,nz,cz,z0,zo⟩:=hmz.blk
 have z1:=z0.lt
 have z0:=bC z0
 have nV:=J hmz.okL
 have HZO:=J zo
 clear hmz hkz zo
 go_wp2_with fail
 go_ret
 refine ⟨az,nz,cz,?_,?_,?_,nV.out⟩
 ·rfl
 ·exact HWX.out.trans' (HKz.out.below) (fun i hi e=>by have:=dR.out;have:=lN.out;omega)
 ·rw [lN.out,dR.out];exact HZO.out) : G := h
theorem aiR {G : Prop} (h : G := by
 go_wp2_with fail
 refine gM (fun w1=>Kept (·=w.heap.size+1) wr w1) [(0,1),(1,2),(2,2),(3,1),(4,2),(5,0),(6,2),(7,2)] ?_;refine gN ?_
 (repeat first|refine cu ?_|refine dL (Kept.drew (kR _ _)) (by intro w1 hS;have d0:=bK hA hS (show ¬ w.heap.size=w.heap.size+1 by omega);have d1:=bC d0;have d2:=bH d0;have d3:=bG d0;exact gX) ?_|refine dK (Kept.drew (kR _ _)) ?_)
 (refine aC (fun K hK=>?_);go_simp)
 refine hK.out _ _ (fun h=>Kept.putAt h _ _ _ (fun _=>rfl)) ?_
 clear hK K
 refine gI ?_
 have hR5:aH (putAt wr (w.heap.size+1) 0 (aN pc' (some ⟨g,0,none⟩) n kc oo)).drew (w.heap.size+1) 49 (aN pc' (some ⟨g,0,none⟩) n kc oo):=aH.gL hRr _ _
 have y5:Ext w (putAt wr (w.heap.size+1) 0 (aN pc' (some ⟨g,0,none⟩) n kc oo)).drew:=(Kept.putAt yr _ _ _ (fun h=>by omega)).drew
 have tN:eB (putAt wr (w.heap.size+1) 0 (aN pc' (some ⟨g,0,none⟩) n kc oo)).drew w.heap.size g n kc m':=hM.kept ((Kept.putAt (S:=(·=w.heap.size+1)) (kR _ wr) _ _ _ (fun _=>rfl)).drew) aj
 go_wp2_with fail
 refine abe Tryz.results26 rfl rfl rz Vm hR5 ?_
 exact FIN.out _ hR5 tN y5) : G := h
theorem VB {G : Prop} (h : G := by
 have HC:=J hcall
 clear h hX hf hcall
 go_enter Tryz.func163,Tryz.ntmps163
 go_upto_region 1 with (fail)
 generalize (w.alloc (.cells (aI op n s A F.len kc) 200))=W1 at y1 hB0 jM hX1 ⊢
 generalize (w:World).heap.size=g at hB0 ⊢
 have HB:=J hB0
 have HX:=J hX1
 have HM:=J jM
 clear jM hB0 hX1
 refine gM (fun w2=>Ext W1 w2) [(0,2),(1,2),(2,2),(3,1),(4,2),(5,1),(6,1),(7,2),(8,2),(9,2),(10,2),(11,2)] ?_;refine gN ?_
 have y2:Ext W1 W1.drew:=(kR _ W1).drew
 (repeat first|refine cu ?_|refine dL y2 zb3 ?_|refine dK y2 ?_)
 refine gI ?_
 have HB2:=bX HB.out y2
 have i1:=bH HB2
 have i2:=bG HB2
 have i3:=HB2.lt
 clear HB2
 go_wp2_with fail
 refine (HC.out _ (HM.out.ext y2) (HX.out.kt (KT.ext (B:=x.B) (wm:=x.wm) y2) HM.out.hN HM.out.hB)).mono ?_
 rintro e w2 ⟨rfl,hm2,hk2⟩
 go_wp2_with fail
 refine jC Tryz.results163 rfl ?_
 exact ⟨rfl,hm2,(KT.ext (y1.trans y2)).trans hk2⟩) : G := h
theorem aiS {G : Prop} (h : G := by
 rw [e6] at hb6
 clear e6 hk2 hk3
 have NJ:=J hb6
 have JQ:=J (Kept.trans (Kept.ext (S:=(·=g)) yd) xw)
 clear hb6 xw yd
 refine QJ bT (fun K hK=>?_)
 refine uo rfl ?_
 refine Lib.wp_copy_run _ _ _ _ _ rfl _ _ rfl rfl (xB _) ?_
 refine hK.out _ _ ?_
 clear hK K xB
 refine gI ?_
 have hs6:=bK Cc.out JQ.out hgs
 have xB:=bK (bK ZH.out pG.out (by have:=Q8.out;omega)) JQ.out (by have:=Q8.out;omega)
 have l1:=bH hs6
 have l2:=bG hs6
 have l3:=hs6.lt
 have l4:=bH xB
 have l5:=aH.bF xB
 have l6:=xB.lt
 have yX:=J xB
 have HST:=J hs6
 clear xB hs6
 go_wp2_with fail
 have kp:Kept (·=rb) w6 (putAt w6 rb 0 #[.int .i64 0,.slice (some ⟨g,0,none⟩) (bO p) (bO p),.int .i64 0]):=Kept.putAt (kR _ _) _ 0 _ (fun _=>rfl)
 refine dU (t:=49) (g:=rb) (cs:=aN 0 (some ⟨g,0,none⟩) (bO p) (bO p) 0) Tryz.results19 rfl rfl rz Vm (by exact aH.gL yX.out 0 _) ⟨?_,.ok VJ.out g VK.out (bK NJ.out kp (by have:=Q8.out;omega))⟩
 exact ((bU.out.trans fH.out).trans o_.out).trans' (((pG.out.trans JQ.out).mono (S':=fun i=>i=g ∨ i=rb) (fun _ _ e=>Or.inl e)).trans' kp (fun i hi e=>Or.inr e)) (fun i hi e=>by have h1:=vT.out;have h2:=VK.out;omega)) : G := h
theorem aiT {G : Prop} (h : G := by
 refine HK.out.mono ?_
 rintro e w2 ⟨hb,hk2⟩
 have eU:=J (HX.out.trans ((Kept.ext bU.out).trans hk2))
 clear hk2 HK
 cases v with
 | none =>
  obtain ⟨he,hc2⟩:=hb
  subst he
  have NK:=J hc2
  have yV:=J (show bV i Np aQ _ r=Z from dw.out)
  clear hc2
  go_wp2_with fail
  go_roundw
  case rel=>exact ⟨m+1,r,by omega,yV.out,by go_num,by rw [Nat.add_mul,← Nat.add_assoc];exact HR2.out,sH.out.2.2,NK.out,eU.out⟩
  case measure=>simp only [intOf];omega
 | some f =>
  obtain ⟨he,mm,kk,hS2,hB2⟩:=hb
  subst he
  have HZF:=J (show Z=some f from dw.out.symm)
  have HS2:=J hS2
  have HB2:=J hB2
  have hk4:=bC (bK H4B.out eU.out nD.out.1) 0
  have ou:=bC (bK H7B.out eU.out nD.out.2) 0
  clear hS2 hB2 c4 l4
  refine leaves_cons (f:=175) (args:=#[.pointer (some ⟨p4+1,0,none⟩),.pointer (some ⟨p4,0,none⟩)]) aG (by simp [go_sem]) ?_
  refine (DT (p4+1) p4 cb g B j bc ns mm (bZ i) kk (.panicking (U9 f)) p4 _ ou hk4 HB2.out HS2.out (HSL.out _ eU.out)).mono ?_
  rintro e u' w3 ⟨rfl,rfl,Aq,hk3⟩
  refine ⟨?_,HWR.out.trans (eU.out.trans (hk3.mono fun _ _ h=>Or.inl h))⟩
  rw [HZF.out]
  exact ⟨rfl,_,_,Aq,bK HB2.out hk3 sP.out.ne⟩) : G := h
theorem afz {G : Prop} (h : G := by
 refine m_ ?_;intro K hK
 have hb4:=bN JW 95 (rmC c vA vs.n vc none 0 0 (some ⟨ag,0,none⟩) S S ⟨V,[],false,false,0,0,0,List.replicate S 0,0⟩)
 have x4:Ext JW (JW.alloc (.cells (rmC c vA vs.n vc none 0 0 (some ⟨ag,0,none⟩) S S ⟨V,[],false,false,0,0,0,List.replicate S 0,0⟩) 95)):=(kR _ _).alloc _
 have y4:=y3.trans x4
 refine hK.out _ _ (fun _=>y4) ?_
 clear hK K
 have hra:jJ ⟨Wc.heap.size,N,JW.heap.size,c,p,vA,vs.n,vc,some ⟨ag,0,none⟩,S,S⟩ (JW.alloc (.cells (rmC c vA vs.n vc none 0 0 (some ⟨ag,0,none⟩) S S ⟨V,[],false,false,0,0,0,List.replicate S 0,0⟩) 95)) ⟨V,[],false,false,0,0,0,List.replicate S 0,0⟩ :=
  ⟨⟨none,0,0,hb4,rfl,.inl ⟨rfl,rfl⟩⟩,bD ho3 x4,bD hoa x4,ZR.out.ext y4 E_.out,fun g hg q=>by
   have q':ag=g:=by simpa [Value.ownBlock,Rx.a] using q
   exact hsep g hg q',E_.out,y4.size,y3.size,by simp⟩
 refine LY ?_
 generalize (JW.alloc (.cells (rmC c vA vs.n vc none 0 0 (some ⟨ag,0,none⟩) S S ⟨V,[],false,false,0,0,0,List.replicate S 0,0⟩) 95))=Wz at y4 hra ⊢
 generalize JW.heap.size=mb at hra ⊢
 exact KEY.out Wz g1 ag mb vA vc ⟨y4,hra⟩) : G := h
theorem EU {G : Prop} (h : G := by
 rw [← ht]
 have HT:=J ht
 clear ht
 refine gI ?_
 have FM:q8 (w2.setCell ⟨g,a,none⟩ (.int .i32 (t))).drew s 49 pc (some ⟨g,0,none⟩) n kc 0:=aH.far hS2 (p:=⟨g,a,none⟩) hsg (.int .i32 (t))
 have Aq:eB (w2.setCell ⟨g,a,none⟩ (.int .i32 (t))).drew base g n kc (m.set a (t)):=(hM2.set a hal (t)).ext ((kR _ _).drew)
 have hk3:Kept (fun i=>i=s ∨ i=g) w (w2.setCell ⟨g,a,none⟩ (.int .i32 (t))).drew:=(Kept.setCell (Kept.ext x2) _ _ (fun _=>.inr rfl)).drew
 generalize (w2.setCell ⟨g,a,none⟩ (.int .i32 (t))).drew=W3 at FM Aq hk3 ⊢
 have akT:=bC FM
 have akU:=aH.frozen FM
 go_wp2_with fail
 go_end0
 refine ⟨rfl,?_⟩
 rw [HE.out,← HT.out]
 exact Stepped.goal hk3 FM Aq hsg _) : G := h
theorem aja {G : Prop} (h : G := by
 refine gI ?_
 have hS1:q8 W.drew s 49 pc (some ⟨g,off,none⟩) k kc halt:=hS0
 have hc1:=bC hS1
 have hq1:-2147483648≤q:=by rw [HQ.out];omega
 have hq2:q≤2147483903:=by rw [HQ.out];omega
 clear hw1 hw0
 by_cases h1:(k:Int)≤q
 ·have b1:decide ((k:Int)≤q)=true:=by simpa using h1
  go_wp2_with fail
  go_ret
  exact ⟨b_ (by unfold rX;rw [if_neg aj]),hx0.drew⟩
 ·have b1:decide ((k:Int)≤q)=false:=by simpa using h1
  go_wp2_with fail
  go_ret
  refine ⟨b_ ?_,hx0.drew⟩
  unfold rX
  by_cases h0:0≤q
  ·rw [if_pos ⟨h0,by omega⟩,Int.max_eq_left aj]
  ·rw [if_neg aj,Int.max_eq_right aj]) : G := h
theorem ajc {G : Prop} (h : G := by
 obtain ⟨xn,xs,xl,xh⟩:=x
 by_cases hq:xh < xl
 ·have hqg:xl > xh:=hq
  go_wp2_with fail
  go_ret
  have hany:p.params.any (fun v=>decide (v.high < v.low))=true:=List.any_eq_true.2 ⟨p.params[j],List.getElem_mem hjl,by rw [← jo.out];exact decide_eq_true hq⟩
  refine ⟨?_,HX0.out.trans (HX.out.trans y0.out)⟩
  rw [JU.out]
  unfold menu
  rw [hany]
  rfl
 ·have hqg:¬ xl > xh:=hq
  go_wp2_with fail
  have hq2:decide (xh < xl)=false:=decide_eq_false hq
  exact ⟨⟨j+1,hlt,by go_num,by rw [List.take_add_one,List.getElem?_eq_getElem hjl,← jo.out,List.any_append,dw.out];simp [hq2],HX.out.trans y0.out⟩,by simp only [intOf];omega⟩) : G := h
theorem ajd {G : Prop} (h : G := by
 have ho3:=ho2
 rw [htk] at ho3
 have HRN:=J ((Ws.out.ext x1).rebind (sS.out.ext x1) (bD CV.out x1) hk2 ho3 (by have:=JR.out;simp only [List.length_take];omega))
 have HYN:=J (((eX.out.trans x1).trans' hk2 (fun i hi q=>absurd (kY.out i q) aj)).setCell ⟨mb,12,none⟩ (.slice vA2 (un+1) vc2) (fun hlt=>absurd hlt (by have:=Ws.out.GA;simp only at this ⊢;omega)))
 clear d1 d2 d3 ho2 ho3 hk2 x1 b1 hrow htk
 generalize (tX.setCell ⟨mb,12,none⟩ (.slice vA2 (un+1) vc2))=JW at HRN HYN ⊢
 go_wp2_with fail
 go_roundw
 case rel=>exact ⟨j+1,hlt,by go_num,HRN.out,HYN.out⟩
 case measure=>simp only [intOf];omega) : G := h
theorem aje {G : Prop} (h : G := by
 obtain ⟨A',cp',rfl⟩:=kQ hoa
 have ZP:=J hoa
 have NR:=J (show Ext W wa from ((oZ.out.trans Ch.out).trans y1).trans' hka (fun i hi e=>by have:=((bD (bD ZQ.out Ch.out) y1).lt i e).1;omega))
 clear hoa hka y1 pq
 go_step
 iterate 3 refine qY ?_
 refine fM rfl (.tmp 37) (.tmp 39) 27 rfl rfl rfl rfl hra ?_
 clear hra
 go_wp2_with fail
 go_roundw
 case rel=>exact ⟨j+1,⟨A',s.n+1,cp'⟩,by omega,by go_num,rfl,by show wa.ownsRow _ _ _ _ _ (aM ((List.range (j+1)).map _));rw [wU,HXV.out];exact ZP.out,NR.out⟩
 case measure=>simp only [intOf];omega) : G := h
theorem ajg {G : Prop} (h : G := by
 obtain ⟨A',cp',rfl⟩:=kQ hoa
 have ZP:=J hoa
 have NR:=J (show Ext wc wa from (Hu.out.trans y1).trans' hka (fun i hi e=>by have:=((bD HOQ.out y1).lt i e).1;omega))
 clear hoa hka y1 pq
 go_step
 iterate 3 refine qY ?_
 refine fM rfl (.tmp 87) (.tmp 89) 27 rfl rfl rfl rfl hra ?_
 clear hra
 go_wp2_with fail
 go_roundw
 case rel=>exact ⟨i+1,by omega,by go_num,⟨A',q.n+1,cp'⟩,⟨rfl,rfl,rfl⟩,by show wa.ownsRow _ _ _ _ _ (aM ((List.range (i+1)).map _));rw [wU,HXV.out];exact ZP.out,NR.out⟩
 case measure=>simp only [intOf];omega) : G := h
theorem ajh {G : Prop} (h : G := by
 obtain ⟨A',cp',rfl⟩:=kQ hoa
 have ZP:=J hoa
 have NR:=J (show Ext wc wa from (qg.out.trans y1).trans' hka (fun i hi e=>by have:=((bD E8.out y1).lt i e).1;omega))
 clear hoa hka y1 pq
 go_step
 iterate 3 refine qY ?_
 refine fM rfl (.tmp 87) (.tmp 89) 27 rfl rfl rfl rfl hra ?_
 clear hra
 go_wp2_with fail
 go_roundw
 case rel=>exact ⟨i+1,⟨A',q.n+1,cp'⟩,by omega,by go_num,rfl,by show wa.ownsRow _ _ _ _ _ (aM ((List.range (i+1)).map _));rw [wU,HXV.out];exact ZP.out,NR.out⟩
 case measure=>simp only [intOf];omega) : G := h
theorem ajj {G : Prop} (h : G := by
 have HR:=J (show X=none by rw [fZ.out,hv1];rfl)
 refine Nc ?_;intro K hK
 try rw [LZ]
 refine (bq true _ _ _).mono ?_
 rintro e w1 ⟨he,rfl⟩
 have he:=dN.none he
 subst he
 refine hK.out _ _ ?_
 clear hK K
 refine gI ?_
 have agF:=bC (bX hE0.out (eX.out.trans tK.out))
 have agT:=(bX hE0.out (eX.out.trans tK.out)).lt
 go_wp2_with fail
 go_end0
 exact ⟨by rw [HR.out];rfl,HX.out⟩) : G := h
theorem ajk {G : Prop} (h : G := by
 rw [List.length_map,List.length_range] at hfl
 refine I4 _ (by rw [hfl];exact Nat.mul_pos h0 hpos) (fun j hj=>?_)
 rw [hfl] at hj
 rw [Ap hpos _ hlen']
 have hq:j / sz < len:=Nat.div_lt_of_lt_mul (by rw [Nat.mul_comm];exact hj)
 have hr:=(hC (j / sz) hq).2.2 (j % sz) (Nat.mod_lt _ hpos)
 rw [hsp h0,GI,GI,Nat.add_assoc] at hr
 rw [show j / sz * sz+j % sz=j by rw [Nat.mul_comm];exact Nat.div_add_mod j sz] at hr
 rw [hr]
 simp [hq]) : G := h
theorem F4 {G : Prop} (h : G := by
 rintro e w5 ⟨rfl,yZ,hk5⟩
 rw [← ZU.out] at yZ
 refine hK.out _ _ (fun _=>⟨yd.trans hk5,_,yZ⟩) ?_
 clear hK K
 refine gI ?_
 have wD:=J yZ
 have pG:=J (HKR.out.trans (bU.out.trans (yd.trans hk5)))
 clear yZ hk5 yd
 go_wp2_with fail
 go_roundw
 case rel=>exact ⟨m+1,r,Lm ++ SC,by omega,wo.out,HZN.out,by go_num,by rw [Nat.add_mul,← Nat.add_assoc];exact HRN.out,xq.out,wD.out,Hq.out,pG.out⟩
 case measure=>simp only [intOf];omega) : G := h
theorem ajl {G : Prop} (h : G := by
 rintro e w2 ⟨e2,hx2⟩
 replace e2:e=.returned (.int .i64 F):=by rw [e2,HF.out]
 subst e2
 have x2:=x1.trans hx2
 have hI2:=bX hI1 hx2
 have hS2:=bX hS1 hx2
 have hM2:=hM1.ext hx2
 clear hI1 hS1 hM1 x1 hx2 hi1 hj1
 have hcI:=bC hI2
 have kW:=bC hS2
 have BK:=aH.frozen hS2
 have lI:=hI2.lt
 have lS:=hS2.lt
 go_wp2_with fail
 refine jC Tryz.results63 rfl ⟨rfl,?_⟩
 exact Stepped.halt (Kept.ext x2) hS2 hM2 hsg _) : G := h
theorem afA {G : Prop} (h : G := by
 have hi:i < (es.toList.map (·.key)).length:=by rw [List.length_map];exact (List.getElem?_eq_some_iff.1 hx).1
 have hj':j < (es.toList.map (·.key)).length:=by rw [List.length_map];exact (List.getElem?_eq_some_iff.1 h2).1
 refine (List.getElem_inj hn (h₀:=hi) (h₁:=hj')).1 ?_
 have e1:=(List.getElem?_eq_some_iff.1 hx).2
 have e2:=(List.getElem?_eq_some_iff.1 h2).2
 rw [List.getElem_map,List.getElem_map,e1,e2,hxk,h3]) : G := h
theorem ajn {G : Prop} (h : G := by
 have i3:=aH.frozen sS.out
 go_wp2_with fail
 go_end0
 refine ⟨rfl,?_⟩
 rw [HRR.out,Ae.out]
 obtain ⟨q1,q2⟩:=HRj.out.boxed (R':={ R' with binds:=R.binds }) (Kept.setCell (kR (·=x.mb) _) ⟨x.mb,12,none⟩ (.slice bA bn bc) (fun _=>rfl)) (by simpa using aH.gW sS.out 12 (.slice bA bn bc)) (bS CV.out oZ.out HBX.out) rfl rfl HM.out.len
 exact ⟨q1,(Kept.ext HY.out).trans (oZ.out.trans q2)⟩) : G := h
theorem Zy {G : Prop} (h : G := by
 refine leaves_cons (f:=71) (args:=#[.pointer (some ⟨rb,0,none⟩)]) aG (by simp [go_sem]) ?_
 refine (BJ rb _ _ (bK vT.out j_.out nD.out.2)).mono ?_
 rintro e u' w9 ⟨rfl,hu,Ls,Aw⟩
 show Leaves _ _ _ _ _ _ _
 rw [hu]
 refine ⟨_,results_cell_row Tryz.results42 _ _ rb _ _ _ _ rfl Ls Tryz.underlying104 rfl su,?_⟩
 rw [HR.out]
 exact ⟨rfl,HOWN.out _ _ j_.out Aw⟩) : G := h
theorem afB {G : Prop} (h : G := by
 go_upto_region 13 with (fail)
 clear i1 i2 i3 i4 i5
 go_wp2_with fail
 refine (fT nb m 0 _ oO.out aj BM.out).mono ?_
 rintro e wf ⟨rfl,bf,kf⟩
 go_wp2_with fail
 go_ret
 refine ⟨congrArg (fun z:Nat=>Ending.returned (.int .i64 z)) (by first | exact ZV.out | (rw [Nat.add_zero];exact ZV.out)),?_⟩
 exact (hwx.trans Y3.out).trans' (KM.out.trans kf) (fun i hi e=>by have:=Wm.out.2;omega)) : G := h
theorem ajo {G : Prop} (h : G := by
 rw [qn] at fZ
 clear hvI
 refine Nc ?_;intro K hK
 try rw [LZ]
 refine (bq false _ _ _).mono ?_
 rintro e w1 ⟨he,rfl⟩
 have he:e=.panicked (U9 ⟨11,s⟩):=he
 subst he
 have HR:=J (show X=some ⟨11,s⟩ by rw [fZ.out];rfl)
 show _∧_
 exact ⟨rfl,by rw [HR.out];exact ⟨rfl,HX0.out.trans (eX.out.trans tK.out)⟩⟩) : G := h
theorem ajq {G : Prop} (h : G := by
 obtain ⟨es,clock,hb,_,_,_,h1 | ⟨j,e,h1,_,_,h4⟩⟩:=h.find s
 ·simp [Instr.lookup,run_underlying hu,MapKept.run_getObj_map hb,MapKept.run_checkKey hk (nL s),MapKept.run_findKey hk h1.1,hz,Result.andThen,h1.2.1]
 ·simp [Instr.lookup,run_underlying hu,MapKept.run_getObj_map hb,MapKept.run_checkKey hk (nL s),MapKept.run_findKey hk h1,Result.andThen,h4]) : G := h
theorem ajs {G : Prop} (h : G := by
 obtain ⟨es,clock,hb,_,_,_,h1 | ⟨j,e,h1,_,_,h4⟩⟩:=h.find s
 ·simp [Instr.lookup,run_underlying hu,MapKept.run_getObj_map hb,MapKept.run_checkKey hk (rP s),MapKept.run_findKey hk h1.1,hz,Result.andThen,h1.2.1]
 ·simp [Instr.lookup,run_underlying hu,MapKept.run_getObj_map hb,MapKept.run_checkKey hk (rP s),MapKept.run_findKey hk h1,Result.andThen,h4]) : G := h
theorem afC {G : Prop} (h : G := by
 have HQ:=J hq
 clear hq
 go_wp2_with fail
 go_roundw
 case rel=>exact ⟨j+1,hlt,by go_num,by
  intro v hv
  rw [List.take_add_one,List.getElem?_eq_getElem hjl,← HX.out] at hv
  simp only [Option.toList_some,List.mem_append,List.mem_singleton] at hv
  rcases hv with hv | rfl
  ·exact C_.out v hv
  ·exact HQ.out,by trivial⟩
 case measure=>simp only [intOf];omega) : G := h
theorem aju {G : Prop} (h : G := by
 go_wp2_with fail
 refine (fT nb z 0 _ oO.out aj BF.out).mono ?_
 rintro e wf ⟨rfl,bf,kf⟩
 go_wp2_with fail
 go_ret
 refine ⟨congrArg (fun z:Nat=>Ending.returned (.int .i64 z)) (by first | exact ZV.out | (rw [Nat.add_zero];exact ZV.out)),?_⟩
 exact (hwx.trans Y3.out).trans' (KF.out.trans kf) (fun i hi e=>by have:=Wm.out.2;omega)) : G := h
theorem afF {G : Prop} (h : G := by
 have HFA:=J (show wr.ownsRow w.heap.size 21 1 q.v q.n (aM (uj p part A)) from by unfold uj;rw [HGV.out];exact gZ E8.out (Nat.le_trans HX0.out.size NY.out.size))
 have ajW:=J (bD HOW.out qg.out)
 go_wp2_with fail
 go_ret2
 exact ⟨s,q,rfl,ajW.out,HFA.out,HX0.out.trans (NY.out.trans qg.out)⟩) : G := h
theorem ajw {G : Prop} (h : G := by
 refine abS ?_;clear MJ hK K;intro w2 YK iF ZW
 clear YK oK
 go_wp2_with fail
 go_end0
 refine ⟨rfl,?_,(KT.ext y1).trans ZW.out⟩
 exact (iF.out)) : G := h
theorem ajx {G : Prop} (h : G := by
 rw [if_neg (show ¬ t=0 by omega),if_neg (show ¬ t=1 by omega),if_neg (show ¬ t=2 by omega),if_neg (show ¬ t=3 by omega),if_neg (show ¬ t=4 by omega),if_neg (show ¬ t=5 by omega),if_neg (show ¬ t=6 by omega),if_neg (show ¬ t=7 by omega),if_neg (show ¬ t=8 by omega),if_neg (show ¬ t=9 by omega)]) : G := h
theorem ajy {G : Prop} (h : G := by
 have HR:=J (show X=some ⟨6,s⟩ by rw [fZ.out,qv];rfl)
 rw [qv]
 refine (bq false _ _ _).mono ?_
 rintro e w1 ⟨he,rfl⟩
 have he:e=.panicked (U9 ⟨6,s⟩):=he
 subst he
 show _∧_
 exact ⟨rfl,by rw [HR.out];exact ⟨rfl,HX0.out.trans (fH.out.trans HZ0.out)⟩⟩) : G := h
theorem ajz {G : Prop} (h : G := by
 (refine eu bT bT (fun K hK=>?_);go_simp)
 refine (bq false _ _ _).mono ?_
 rintro e w1 ⟨he,rfl⟩
 have he:e=.panicked (U9 ⟨3,E0⟩):=he
 subst he
 show _∧_
 exact ⟨rfl,by rw [HR.out];exact ⟨rfl,HX0.out.trans bU.out⟩⟩) : G := h
theorem ajB {G : Prop} (h : G := by
 rintro e w5 ⟨rfl,b5,k5⟩
 go_wp2_with fail
 go_ret
 refine ⟨congrArg (fun z:Nat=>Ending.returned (.int .i64 z)) (by rw [Ko.out];exact jD (fK _)),?_⟩
 exact (y1.trans Y3.out).trans' (k4.trans k5) (fun i hi e=>by have:=hnl;omega)) : G := h
theorem ach {G : Prop} (h : G := by
 have l1:=bC HB.out
 have l2:=HB.out.lt
 have hF0:F=0:=by
  rw [HF.out];unfold dO
  rw [if_neg aj,if_neg hok,if_neg aj]
 have VJ:=J hF0
 clear hF0 hok
 go_wp2_with fail
 go_ret
 exact ⟨b_ VJ.out.symm,HY.out⟩) : G := h
theorem afG {G : Prop} (h : G := by
 go_wp2_with fail
 go_roundw
 case rel=>exact ⟨j+1,hlt,by go_num,fun i hi h=>by
  by_cases e:i=j
  ·subst e;exact nV.out
  ·exact H1.out i hi aj,fun h0 _=>H2.out h0 aj,by trivial⟩
 case measure=>simp only [intOf];omega) : G := h
theorem ZB {G : Prop} (h : G := by
 exact (xu.out.from_ Hz.out).kept kp (fun x hx e=>by subst e;exact dI xu.out.vars (E':=38) ak _ hx _ _ E9.out) (fun x hx e=>by subst e;exact dI xu.out.asks (E':=38) ak _ hx _ _ E9.out)) : G := h
theorem VD {G : Prop} (h : G := by
 refine (bq false _ _ _).mono ?_
 rintro e w8 ⟨he,rfl⟩
 have he:=dN.some he
 subst he
 show _∧_
 refine ⟨rfl,?_,jo.out⟩
 rw [HR.out]
 exact ⟨rfl,_,_,(sP.out.ext jo.out).map,(sP.out.ext jo.out).blk⟩) : G := h
theorem ajD {G : Prop} (h : G := by
 have HE:=J e
 subst hq
 clear e
 go_wp2_with fail
 refine dU Tryz.results112 rfl rfl xS (by exact uM) (aH.gL yB _ _) ⟨by rw [HE.out];rfl,?_⟩
 exact Kept.putAt (hx0.trans y1) _ _ _ (fun h=>by omega)) : G := h
theorem ajE {G : Prop} (h : G := by
 rw [e2,eP _ bP bP bP,if_neg bP,v1,eP _ bP bP bP,if_pos rfl]
 exact ⟨rfl,rfl⟩) : G := h
theorem ajF {G : Prop} (h : G := by
 refine (wV _ _).mono ?_
 rintro e w1 ⟨rfl,rfl⟩
 go_wp2_with fail
 go_ret
 refine ⟨lK ?_,rfl⟩
 rw [HV.out]
 try (rename_i hh;first | (rw [hh];rfl) | (rw [show (a != 0)=true by simpa using hh];rfl))) : G := h
theorem ajG {G : Prop} (h : G := by
 obtain ⟨hcl,_,hat⟩:=hC 0 h0
 have h0':=hat 0 hpos
 rw [List.getElem?_eq_getElem aj] at h0'
 have e:(a.add (0 * sz)).add 0=a:=by simp [Addr.add]
 rw [e] at h0'
 have:=FN h0'
 cases a;simp_all) : G := h
theorem ajH {G : Prop} (h : G := by
 subst hF
 rcases ho.2 with ⟨hv,_⟩ | ⟨g,c,cur,hv,_⟩
 ·exact ⟨none,0,by rw [hv],hn,hf,0,0,fun q=>by omega,trivial⟩
 ·exact ⟨some ⟨g,0,none⟩,c,by rw [hv],hn,hf,0,0,fun q=>by omega,trivial⟩) : G := h
theorem afH {G : Prop} (h : G := by
 rw [List.any_append]
 by_cases h:t=x
 ·subst h;simp
 ·have:¬ x=t:=fun e=>h e.symm
  have h2:decide (x=t)=false:=decide_eq_false this
  simp only [List.any_cons,List.any_nil,h2,Bool.or_false]
  rw [if_neg h]) : G := h
theorem ajI {G : Prop} (h : G := by
 refine (bq true _ _ _).mono ?_
 rintro e w1 ⟨he,rfl⟩
 have he:=dN.none he
 subst he
 refine hK.out _ _ ?_
 clear hK K
 refine gI ?_
 go_wp2_with fail
 go_end0
 exact ⟨by rw [HR.out];rfl,HX.out⟩) : G := h
theorem ZC {G : Prop} (h : G := by
 have hq:=C9.out
 exact (y1.trans Y3.out).trans' ((EY.out.mono (fun _ _ e=>Or.inr e)).trans (Kept.putAt (S:=fun i=>i=p4+1 ∨ i=p4+2) (kR _ _) _ 0 _ (fun _=>Or.inl rfl))) (fun i hi e=>by omega)) : G := h
theorem ajJ {G : Prop} (h : G := by
 go_wp2_with fail
 exact fD Tryz.results94 rfl rfl fQ (by exact iI) (aH.gL fq 0 _) ⟨rfl,(HX0.out.trans dF.out).putAt _ _ _ (fun hlt=>absurd hlt MN)⟩) : G := h
theorem aci {G : Prop} (h : G := by
 go_wp2_with fail
 refine (kN w1 (pI.out.ext eH.out) (HOW.out.ext eH.out)).mono ?_
 rintro e w2 ⟨rfl,hx2⟩
 go_wp2_with fail
 go_ret
 exact ⟨rfl,HX0.out.trans (eH.out.trans hx2)⟩) : G := h
theorem ajK {G : Prop} (h : G := by
 go_wp2_with fail
 refine (kN w2 (pI.out.ext eU.out) (HOW.out.ext eU.out)).mono ?_
 rintro e w3 ⟨rfl,hx3⟩
 go_wp2_with fail
 go_ret
 exact ⟨rfl,HX0.out.trans (eU.out.trans hx3)⟩) : G := h
theorem ajL {G : Prop} (h : G := by
 by_cases hw:Region.wanted (l.getD k nop) (yielded l.toArray a.tmps)=true
 ·rw [if_pos hw] at h;simp only [if_pos hw];exact h
 ·rw [if_neg hw] at h;simp only [if_neg hw];exact ⟨.inr id,h⟩) : G := h
theorem acj {G : Prop} (h : G := by
 have hp':a.tmps[p]?.getD undef=.pointer (some ⟨g,0,none⟩):=by simpa using hp
 exact bodyPost_ret (by simp [results,hres,hp',asAddr,BP ha hs hb]) hd hR) : G := h
theorem B_ {G : Prop} (h : G := by
 refine (bq false _ _ _).mono ?_
 rintro e w1 ⟨he,rfl⟩
 have he:=dN.some he
 subst he
 show _∧_
 exact ⟨rfl,by rw [HR.out];exact ⟨rfl,HX.out⟩⟩) : G := h
theorem Nn {G : Prop} (h : G := by
 have akT:=bC FM
 have akU:=aH.frozen FM
 go_wp2_with fail
 go_end0
 refine ⟨rfl,?_⟩
 rw [HE.out]
 exact Stepped.goal hk3 FM Aq hsg _) : G := h
theorem ZF {G : Prop} (h : G := by
 have vK:=J hF1
 clear e2 hF1
 have l1:=bC HB.out
 have l2:=HB.out.lt
 go_wp2_with fail
 go_ret
 exact ⟨b_ vK.out.symm,HY.out⟩) : G := h
theorem VE {G : Prop} (h : G := by
 go_wp2_with fail
 refine (wV _ _).mono ?_
 rintro e w1 ⟨rfl,rfl⟩
 go_wp2_with fail
 go_ret
 exact ⟨lK HV.out.symm,rfl⟩) : G := h
theorem afI {G : Prop} (h : G := by
 go_wp2_with fail
 refine (XM _ _).mono ?_
 rintro e w1 ⟨rfl,rfl⟩
 rw [HH.out]
 go_wp2_with fail
 go_ret
 exact ⟨rfl,hx0⟩) : G := h
theorem Sw {G : Prop} (h : G := by
 go_wp2_with fail
 refine (kV _ _).mono ?_
 rintro e w1 ⟨rfl,rfl⟩
 go_wp2_with fail
 go_ret
 exact ⟨rfl,rfl⟩) : G := h
theorem Zr {G : Prop} (h : G := by
 simp only [List.length_append,List.length_cons,List.length_nil,jU]
 refine Prod.ext ?_ rfl
 simp only
 omega) : G := h
theorem Zt {G : Prop} (h : G := by
 rcases h.2 with ⟨hv,h0⟩ | ⟨g,c,cur,hv,_⟩
 ·exact ⟨none,0,by rw [hv,h0]⟩
 ·exact ⟨_,c,hv⟩) : G := h
theorem Sy {G : Prop} (h : G := by
 rcases (by omega:i=0 ∨ i=1 ∨ i=2 ∨ i=3 ∨ i=4) with rfl | rfl | rfl | rfl | rfl <;> rfl) : G := h
theorem Nf {G : Prop} (h : G := by
 have vK:=J hF1
 clear e1 hF1
 go_wp2_with fail
 go_ret
 exact ⟨b_ vK.out.symm,HY.out⟩) : G := h
theorem Sz {G : Prop} (h : G := by
 have OK:=J ok
 clear ok
 go_wp2_with fail
 go_ret
 exact ⟨aW (SP.out OK.out).symm,y3⟩) : G := h
theorem Ng {G : Prop} (h : G := by
 rw [HF.out];unfold dO
 rw [if_neg aj,if_pos (Or.inl (by rw [hw];omega))]) : G := h
theorem Nh {G : Prop} (h : G := by
 rw [HF.out];unfold dO
 rw [if_neg aj,if_pos (Or.inr (by rw [hw];omega))]) : G := h
theorem Ni {G : Prop} (h : G := by
 exact (jc.out.trans lX.out).trans' kp (fun i hi e=>by have:=vT.out;omega)) : G := h
theorem Nj {G : Prop} (h : G := by
 go_wp2_with fail
 go_ret
 exact ⟨b_ (by simp [gJ,H0.out]),rfl⟩) : G := h
theorem Nk {G : Prop} (h : G := by
 simp only [if_true]
 exact HL6.out.kept hset (fun i e=>by omega)) : G := h
theorem acV {G : Prop} (h : G := by
 (repeat refine zS ?_)
 obtain ⟨v84,V4,hrun,alg,akX,-⟩:=Oe (f:=Aa) yh (fun _=>rfl) (fun _=>rfl) V3 wr.heap.size v80 (0+n) ([] ++ pl) TS u6 0 1 1 [name] rfl (Row.eZ q6) (by have:=Wu.out.2.1;omega) y3.size
 have y4:Ext wr V4:=y3.trans' akX (fun i hi e=>by have:=(TS.lt i e).1;omega)
 refine dz (fun K hK=>?_)
 refine Vz ?_
 refine hK.out _ _ (fun _=>y4) ?_
 clear hK K hrun
 have hkB:=bX HK.out (dF.out.trans y4)
 have hcK:=bC hkB
 have hzK:=aH.frozen hkB
 have oM:=hkB.lt
 obtain ⟨g2,c2,rfl,hrow,hg2,-⟩:=gu alg aj aj
 rw [Nat.zero_add]
 refine LY ?_
 have Aw:Kept (·=kb) wr (V4.setCell ⟨kb,11,none⟩ (.slice (some ⟨g2,0,none⟩) (n+1) c2)):=(Kept.ext y4).setCell _ _ (fun _=>rfl)
 have Ls:aH (V4.setCell ⟨kb,11,none⟩ (.slice (some ⟨g2,0,none⟩) (n+1) c2)) kb 120 (dP c (some ⟨g2,0,none⟩) (n+1) c2):=by
  have q:=aH.gW hkB 11 (.slice (some ⟨g2,0,none⟩) (n+1) c2)
  exact q
 have hne:¬ g2=kb:=by have:=(bX HK.out dF.out).lt;omega
 have hr9:eO (V4.setCell ⟨kb,11,none⟩ (.slice (some ⟨g2,0,none⟩) (n+1) c2)) (V4.setCell ⟨kb,11,none⟩ (.slice (some ⟨g2,0,none⟩) (n+1) c2)).heap.size (some ⟨g2,0,none⟩) (n+1) (pl ++ [name]):=by
  have hq:=hrow.kept ((kR (·=kb) V4).setCell ⟨kb,11,none⟩ (.slice (some ⟨g2,0,none⟩) (n+1) c2) (fun _=>rfl)) hne
  rw [vH,List.nil_append] at hq
  exact ⟨by rw [List.length_append,← Wu.out.1];rfl,by have:=Wu.out.2.1;omega,g2,0,fun _=>rfl,fun _=>⟨hq.lt,hq⟩⟩
 generalize V4.setCell ⟨kb,11,none⟩ (.slice (some ⟨g2,0,none⟩) (n+1) c2)=V9 at Aw Ls hr9 ⊢
 generalize (Value.slice (some ⟨u0,0,none⟩) 0 0)=v77
 generalize (Value.slice (some ⟨u6,0,none⟩) 1 1)=v83
 exact KEY.out V9 v77 v80 v83 g2 c2 ⟨Aw,Ls,hr9⟩) : G := h
theorem acW {G : Prop} (h : G := by
 obtain ⟨v10,W4t,hr4,aeu,hk4⟩:=WO JW wr.heap.size _ (0+bn) ([] ++ R.binds) ho3 (some ⟨g9,0,none⟩) g9 0 1 1 [(name,w32 (low+(j:Int)))] rfl (fun _=>rfl) (fun _=>hrow) aff y3.size
 have y4:Ext wr W4t:=y3.trans' hk4 (fun i hi e=>by have:=(ho3.lt i e).1;omega)
 refine dz (fun K hK=>?_)
 refine ku rfl ?_
 refine Lib.wp_append_run _ _ _ _ _ rfl _ _ rfl rfl _ _ hr4 ?_
 refine hK.out _ _ (fun _=>y4) ?_
 clear hK K hr4
 simp only [Nat.zero_add,List.nil_append] at aeu
 obtain ⟨vA,vc,rfl⟩:=wT aeu
 have aah:=J aeu
 have Y4:=J y4
 have i1:W4t.cell? ⟨x.mb,12,none⟩=some (.slice uA un uc):=bC (sS.out.ext y4) 12
 have i2:=(sS.out.ext y4).lt
 have i3:=aH.frozen (sS.out.ext y4)
 refine LY ?_
 obtain ⟨q1,q2⟩:=(HRj.out.ext Y4.out).boxed (R':={ R' with binds:=R.binds ++ [(name,w32 (low+(j:Int)))] }) (Kept.setCell (kR (·=x.mb) _) ⟨x.mb,12,none⟩ (.slice vA (bn+1) vc) (fun _=>rfl)) (by simpa using aH.gW (sS.out.ext Y4.out) 12 (.slice vA (bn+1) vc)) (by have:=gZ aah.out SE.out;simpa using this) rfl rfl (by simp;have:=Bq.out;have:=HF.out;have:=Fv.out;omega)
 replace q2:=(Kept.ext Y4.out).trans q2
 generalize (W4t.setCell ⟨x.mb,12,none⟩ (.slice vA (bn+1) vc))=Wz at q1 q2 ⊢
 exact KEY.out Wz g1 g9 v3 vA vc ⟨q1,q2⟩) : G := h
theorem acX {G : Prop} (h : G := by
 have HE2:=J e2
 clear e2
 have xE:=J (show F=if part=2∧BH p.params Ar=true then 2 else 0 from by
  have h1:=xu.out
  have h2:=xq.out
  have h3:=J6.out
  have h4:=HE2.out
  have h5:=Ca.out
  rw [HF.out];unfold dO
  rw [if_neg aj,if_neg (by rw [HW.out,zu.out];omega)])
 go_upto_region 13 with (fail)
 clear z1 z2 i1 i2
 go_loopw [11] (fun t11 wr=>t11=.int .i64 0∧Ext (w.alloc (.cells c.cells 26)) wr) (fun _ _=>0)
 case atStart=>exact ⟨rfl,eH.out⟩
 case round =>
  obtain ⟨rfl,hx⟩:=hrel
  have eU:=J hx
  have vK:=J (show F=0 from by rw [xE.out,if_neg aj])
  clear hx
  go_wp2_with fail
  all_goals go_ret
  all_goals exact ⟨b_ vK.out.symm,Kept.trans HX0.out eU.out⟩) : G := h
theorem acY {G : Prop} (h : G := by
 have y2:=dX.out.trans hx1
 refine hK.out _ _ (fun _=>y2) ?_
 clear hK K y1
 have rM:=bX nA hx1
 have oN:=rM.bF
 have Cw:=bH rM
 have hfc:(gU f).size=2:=by cases f <;> rfl
 have hff:iQ (gU f).toList=true:=by cases f <;> rfl
 refine m_ ?_;intro K hK
 have y3:=y2.putAt fb 0 (gU f) (fun hlt=>absurd hlt YS)
 have hf3:aH (putAt w1 fb 0 (gU f)) fb 60 (gU f):=by
  have:=aH.gL rM 0 (gU f)
  cases f <;> exact this
 refine hK.out _ _ (fun _=>y3) ?_
 clear hK K oN Cw hfc hff
 refine LY ?_
 generalize putAt w1 fb 0 (gU f)=W3 at y3 hf3 ⊢
 exact KEY.out _ _ ⟨y3,hf3⟩) : G := h
theorem acZ {G : Prop} (h : G := by
 generalize w1.heap.size=fb at oQ hfl ⊢
 have oN:=oQ.bF
 have Cw:=bH oQ
 have hfc:(gU f).size=2:=by cases f <;> rfl
 have hff:iQ (gU f).toList=true:=by cases f <;> rfl
 refine m_ ?_;intro K hK
 have y3:=y2.putAt fb 0 (gU f) (fun hlt=>absurd hlt aj)
 have hf3:aH (putAt W2 fb 0 (gU f)) fb 60 (gU f):=by
  have:=aH.gL oQ 0 (gU f)
  cases f <;> exact this
 refine hK.out _ _ (fun _=>y3) ?_
 clear hK K oN Cw hfc hff
 refine LY ?_
 generalize putAt W2 fb 0 (gU f)=W3 at y3 hf3 ⊢
 exact KEY.out _ _ ⟨y3,hf3⟩) : G := h
theorem Zu {G : Prop} (h : G := by
 have fq:=bX hR0.out yr
 have hmr:=fq.bF
 have iw:=bH fq
 go_wp2_with fail
 refine fD (t:=60) (g:=rb) (cs:=gU X) Tryz.results151 rfl rfl fQ QS QO ⟨rfl,?_⟩
 exact (HX0.out.trans yr).putAt _ _ _ (fun hlt=>absurd hlt MN)) : G := h
theorem ada {G : Prop} (h : G := by
 have he:=dN.some he
 subst he
 have HR:=J (show X=some f from fZ.out)
 have kK:=J (vJ.out.ext (ys.trans hx2))
 have jo:=J (Kept.ext (S:=SG cb g) (HX0.out.trans (ys.trans hx2)))
 show _∧_
 refine ⟨rfl,?_,jo.out⟩
 rw [HR.out]
 exact ⟨rfl,_,_,kK.out.map,kK.out.blk⟩) : G := h
theorem aiL {G : Prop} (h : G := by
 simp only [EF.len,Nat.add_zero] at hj
 subst hj
 have hz0:Z=none:=by rw [← dw.out];rfl
 rw [hz0] at nE
 have Fy:=J nE.out
 clear hz0 nE
 go_wp2_with fail
 go_end0
 have h:=Fy.out
 rw [show X=none from h]
 exact ⟨⟨rfl,vJ.out.ext HX.out⟩,Kept.ext (HX0.out.trans HX.out)⟩) : G := h
theorem ade {G : Prop} (h : G := by
 rcases h1 with h1 | h1
 ·exact absurd h1.symm hne
 ·obtain ⟨_,oj,hoj,hall⟩:=mem_ready.1 hj
  refine sJ hd _ _ (fun x hx=>?_) i h1
  obtain ⟨o,ho,e,he,hb,rfl⟩:=DJ hx
  rw [hoj] at ho
  injection ho with ho
  subst ho
  exact hall e he hb) : G := h
theorem adf {G : Prop} (h : G := by
 generalize (w4.alloc (.cells (nN none 0 0 c b wm 0 sm em) 160))=W9 at y9 Au RB hs9 he9 ⊢
 generalize w4.heap.size=mb at Au hml ⊢
 exact KEY.out _ _ _ _ _ ⟨y9,RB,hs9,he9,Au,hwl,hml⟩) : G := h
theorem Zv {G : Prop} (h : G := by
 go_wp2_with fail
 go_roundw
 case rel=>exact ⟨j+1,r,by omega,yV.out,by go_num,by rw [Nat.add_mul,← Nat.add_assoc];exact HR2.out,HI2.out.2.2,jo.out⟩
 case measure=>simp only [intOf];omega) : G := h
theorem adg {G : Prop} (h : G := by
 obtain ⟨_,_,_,_,hcap,_⟩:=me.inv
 obtain ⟨z1,-⟩:∃ z:Nat,z=0:=⟨0,rfl⟩
 obtain ⟨z2,-⟩:∃ z:Nat,z=0:=⟨0,rfl⟩
 exact KEY.out we z1 z2 q5 g5 c5 bn ⟨ye,VY,be,me.row,hcap⟩) : G := h
theorem Zw {G : Prop} (h : G := by
 rcases Nat.lt_or_ge i listed.size with h' | h'
 ·simp [h'] at h0 h1;rw [h0] at h1;cases h1
 ·simp [Array.getElem?_eq_none h'] at h1) : G := h
theorem Nl {G : Prop} (h : G := by
 show _∧_
 refine ⟨rfl,?_,jo.out⟩
 rw [HR.out]
 exact ⟨rfl,_,_,kK.out.map,kK.out.blk⟩) : G := h
theorem Hf {G : Prop} (h : G := by
 exact (HX0.out.trans dF.out).putAt _ _ _ (fun hlt=>absurd hlt MN)) : G := h
theorem zz1 {G : Prop} (h : G := by
 obtain ⟨hst,hbn⟩:=Uv HOW.out (by rw [List.length_take,List.length_map];have:=xH.out;omega) (by have:=wE.out;omega)
 have HAQ:=J (bX HAW.out Fy.out)
 by_cases hi3:i=3
 ·have akW:((i:Int) == 3)=true:=by simp [hi3]
  have HI3:=J hi3
  clear hi3
  have y1:Ext wr _:=(kR (fun _=>False) wr).alloc (.cells #[.string p.silent] 9)
  have q6:=bN wr 9 #[.string p.silent]
  have hkB:=bX Hu.out y1
  have hcK:=bC hkB
  have hzK:=aH.frozen hkB
  have oM:=hkB.lt
  have HAV:=J (bX HAQ.out y1)
  go_upto_region 31 with (fail)
  have Aw:Kept (fun g=>kb≤g) wr ((wr.alloc (.cells #[.string p.silent] 9)).setCell ⟨kb,11,none⟩ (.slice (some ⟨wr.heap.size,0,none⟩) 1 1)):=(y1.mono (fun i _ h=>h.elim)).setCell _ _ (fun _=>Nat.le_refl _)
  have Ls:aH ((wr.alloc (.cells #[.string p.silent] 9)).setCell ⟨kb,11,none⟩ (.slice (some ⟨wr.heap.size,0,none⟩) 1 1)) kb 120 (dP (⟨p.name,p.seats,⟨kA,j,kc⟩,⟨vA,vn,vc⟩,cs,⟨tA,tn,tc⟩,⟨A,n,cc⟩,jG,p.silent,cq,⟨zA,zn,zc⟩⟩:Pc) (some ⟨wr.heap.size,0,none⟩) 1 1):=by
   have q:=aH.gW hkB 11 (.slice (some ⟨wr.heap.size,0,none⟩) 1 1)
   exact q
  have hke:Kept (·=kb) (wr.alloc (.cells #[.string p.silent] 9)) ((wr.alloc (.cells #[.string p.silent] 9)).setCell ⟨kb,11,none⟩ (.slice (some ⟨wr.heap.size,0,none⟩) 1 1)):=(kR _ _).setCell _ _ (fun _=>rfl)
  have hne:¬ wr.heap.size=kb:=by have:=Hu.out.lt;omega
  have hrw:=(Row.eZ q6).kept hke hne
  have hq6:=bK q6 hke hne
  have haq:=bK HAV.out hke (fun e=>by
   have h1:=HAW.out.lt
   have h2:=j_.out
   omega)
  generalize ((wr.alloc (.cells #[.string p.silent] 9)).setCell ⟨kb,11,none⟩ (.slice (some ⟨wr.heap.size,0,none⟩) 1 1))=V9 at Aw Ls hrw hq6 haq ⊢
  generalize wr.heap.size=u6 at Ls hrw hq6 ⊢
  have agf:=J (Fy.out.trans' Aw (fun i hi q=>by have:=j_.out;omega))
  clear hcK hzK oM hkB y1 q6 hke hne Fy HXB Hu HOW HAQ HAV Aw hst hbn hcP jh
  obtain ⟨wr,hwq⟩:∃ w,w=V9:=⟨_,rfl⟩
  subst hwq
  have Fy:=agf
  have HXB:=J (dF.out.trans Fy.out)
  have Hu:=J Ls
  have HAQ:=J haq
  have HST:=J (show eO wr wr.heap.size (some ⟨u6,0,none⟩) 1 (BN p i) by
   rw [HI3.out]
   exact ⟨rfl,by omega,u6,0,fun _=>rfl,fun _=>⟨hq6.lt,hrw⟩⟩)
  have Bq:=J (show (some ⟨u6,0,none⟩:Option Addr)=none→1=0 from fun h=>nomatch h)
  clear Ls hrw hq6 haq agf
  refine aiF ?_;intro sA sn sc HSS HAC f hf
  have ZK:=J (fun w' (hw':Ext wr w') (hs':eO w' w'.heap.size (some ⟨u6,0,none⟩) 1 (BN p i))=>El (⟨p.name,p.seats,⟨kA,j,kc⟩,⟨vA,vn,vc⟩,cs,⟨tA,tn,tc⟩,⟨A,n,cc⟩,jG,p.silent,cq,⟨zA,zn,zc⟩⟩:Pc) p i hlt N wr (Nat.le_trans dR.out HXB.out.size) (iY.out.ext HXB.out dR.out) (partOf p i) 0 true (some ⟨u6,0,none⟩) 1 1 (BN p i) sA sn sc w' hw' hs' Bq.out (LX p i (by have:=xH.out;have:=wE.out;omega)) aj HSS.out)
  exact acU
 ·have akW:((i:Int) == 3)=false:=by simp;omega
  have HST:=J (show eO wr wr.heap.size B q (BN p i) from HPL.out hi3 ▸ hst)
  have Bq:=J hbn
  clear hst hbn
  go_upto_region 31 with (fail)
  clear hcP jh
  refine aiF ?_;intro sA sn sc HSS HAC f hf
  have ZK:=J (fun w' (hw':Ext wr w') (hs':eO w' w'.heap.size B q (BN p i))=>El (⟨p.name,p.seats,⟨kA,j,kc⟩,⟨vA,vn,vc⟩,cs,⟨tA,tn,tc⟩,⟨A,n,cc⟩,jG,p.silent,cq,⟨zA,zn,zc⟩⟩:Pc) p i hlt N wr (Nat.le_trans dR.out HXB.out.size) (iY.out.ext HXB.out dR.out) (partOf p i) 0 true B q bc (BN p i) sA sn sc w' hw' hs' Bq.out (LX p i (by have:=xH.out;have:=wE.out;omega)) aj HSS.out)
  exact acU) : G := h
theorem zz2 {G : Prop} (h : G := by
 have ys:=yt
 have Av:=aaE
 exact zz3) : G := h
theorem zz3 {G : Prop} (h : G := by
 go_wp2_with fail
 go_loopw [6] (fun t6 wr=>∃ (j:Nat) (R:EF),j+R.len=kn∧gq (aU (fB p.vars) l) R=r∧t6=.int .i64 j∧mK w0 N0 R b (off+j * 4)∧EF.All (adt c (aU (fB p.vars) l) A n k w0) R∧Ext W wr) (fun t6 _=>kn - (intOf t6).toNat)
 case atStart=>exact ⟨0,F,by rw [HN.out,Nat.zero_add],VI.out,rfl,by simpa using HE.out,HI.out,ys⟩
 case round =>
  obtain ⟨j,R,hj,hacc,rfl,hR,hI,hx⟩:=hrel
  have HRR:=J hR
  have HI2:=J hI
  have HX:=J hx
  have dw:=J hacc
  have hkr:=bX Xq.out hx
  have her:=bX hE0.out hx
  have hce:=bC her
  have hle:=her.lt
  clear hR hI hx hacc
  cases R with
  | nil =>
   simp only [EF.len,Nat.add_zero] at hj
   subst hj
   have hr0:r=none:=by rw [← dw.out];rfl
   have HR0:=J hr0
   clear hr0
   go_wp2_with fail
   refine (lD _).mono ?_
   rintro e w1 ⟨rfl,hx1⟩
   have fq:=bX hR0.out (HX.out.trans hx1)
   have hmr:=fq.bF
   have iw:=bH fq
   go_wp2_with fail
   refine fD (t:=60) (g:=rb) (cs:=gU X) Tryz.results151 rfl rfl fQ (by rw [nE.out,HR0.out];exact iI) (by rw [nE.out,HR0.out];exact aH.gL fq 0 _) ⟨rfl,?_⟩
   exact ((HX0.out.trans HX.out).trans hx1).putAt _ _ _ (fun hlt=>absurd hlt MN)
  | cons op' m' name' q rr =>
   obtain ⟨hb,h1,h2,h3,⟨A',cap,b',off',hh,hg,hl,hA',hk⟩,hr⟩:=HRR.out
   simp only [EF.len] at hj
   have hlt:(j:Int) < kn:=by omega
   obtain rfl:=HA.out aj
   have jN:=hx0.trans (HX0.out.trans HX.out)
   refine FY ?_;intro hbl hh' hg' hbw
   have KE:=J (show g_ w0 N0 A' q.len q from ⟨rfl,hl,b',off',hA',hk⟩)
   have IK:=J HI2.out.1
   have Kq:=J jN
   have HR2:=J hr
   have HH:=J hh'
   have HG:=J hg'
   have HKR:=J hkr
   have HER:=J her
   clear hh hg hl hA' hk h1 h2 h3 HRR hbl jN hr
   go_upto_region 14 with (fail)
   clear hh' hg' hce hle hkr her
   obtain ⟨f,hf⟩:∃ f,f=DC (aU (fB p.vars) l) op' m' name' q:=⟨_,rfl⟩
   have HF:=J hf
   clear hf
   apply meet (F:=fun W2 fb=>Ext wr W2∧aH W2 fb 60 (gU f))
   case h =>
    intro jr
    have KEY:=J jr
    clear jr
    refine Uz (fun w1=>Ext wr w1) (.op 0 1 (.op 1 2 (.op 2 1 (.op 3 2 (.op 4 2 (.op 5 1 (.fork 6 (.op 7 0 (.op 8 0 .nil)) 7 (.op 6 0 (.op 8 0 .nil))))))))) ?_;refine UA ?_
    have bU:=J (show Ext wr wr.drew from (kR _ wr).drew)
    (repeat (first | refine zS ?_ | ((apply ig);(· exact bU.out);(· go_simp);(· (intro w1 hS;have d0:=bX HKR.out hS;have d1:=bG d0;have d2:=bH d0;have d3:=d0.lt;have d4:=bX HER.out hS;have d5:=bC d4;have d6:=d4.lt;have d7:=iB hS hbw HH.out;have d8:=gH hS hbw HG.out;have d9:=Nat.lt_of_lt_of_le hbw hS.size; go_simp;try with_reducible rfl));refine tO ?_) | ((apply h_);(· exact bU.out);(· go_simp);refine tO ?_)))
    refine iE ?_ ?_
    ·(refine dz (fun K hK=>?_);go_simp)
     refine (IK.out op' m' name' A' q.len cap N0 _ (Kq.out.trans bU.out) hN0 KE.out).mono ?_
     rintro e w1 ⟨rfl,hx1⟩
     rw [← HF.out]
     have y1:=bU.out.trans hx1
     refine hK.out _ _ (fun _=>y1) ?_
     clear hK K
     refine m_ ?_;intro K hK
     refine afs ?_;clear hK K;intro W2 y2 oQ
     have hfl:wr.heap.size≤w1.heap.size:=y1.size
     exact acZ
    ·refine afn ?_;intro W1 hW1 y1
     have nA:aH W1 wr.heap.size 60 #[.int .i64 0,.string ⟨#[]⟩]:=by rw [← hW1];exact aH.drew (bN wr _ _)
     refine YZ ?_;clear hW1 nA;intro fb nA qZ dX
     (repeat (first | refine zS ?_ | ((apply ig);(· exact dX.out);(· go_simp);(· (intro w1 hS;have d0:=bX HKR.out hS;have d1:=bG d0;have d2:=bH d0;have d3:=d0.lt;have d4:=bX HER.out hS;have d5:=bC d4;have d6:=d4.lt;have d7:=iB hS hbw HH.out;have d8:=gH hS hbw HG.out;have d9:=Nat.lt_of_lt_of_le hbw hS.size; go_simp;try with_reducible rfl));refine tO ?_) | ((apply h_);(· exact dX.out);(· go_simp);refine tO ?_)))
     (refine dz (fun K hK=>?_);go_simp)
     refine (IK.out op' m' name' A' q.len cap N0 _ (Kq.out.trans dX.out) hN0 KE.out).mono ?_
     rintro e w1 ⟨rfl,hx1⟩
     rw [← HF.out]
     exact acY
   case h2 =>
    rintro W2 fb ⟨y2,oQ⟩
    have xE:=J oQ
    have fH:=J y2
    clear oQ y2
    cases f with
    | none =>
     have yV:=J (show gq (aU (fB p.vars) l) rr=r by have h:=dw.out;rw [uU,← HF.out] at h;exact h)
     go_upto_region 15 with (fail)
     refine M4 ?_;intro HZ0
     refine M6 ?_
     refine Bn ?_;intro K hK
     rintro e w1 ⟨rfl,hx1⟩
     refine M7 ?_;clear hK K hx1;intro HZ1
     go_wp2_with fail
     go_roundw
     case rel=>exact ⟨j+1,rr,by omega,yV.out,by go_num,by rw [Nat.add_mul,← Nat.add_assoc];exact HR2.out,HI2.out.2,(HX.out.trans fH.out).trans HZ1.out⟩
     case measure=>simp only [intOf];omega
    | some f =>
     obtain ⟨fe,fn⟩:=f
     have hnz:(fe == 0)=false:=by simpa using IG (aU (fB p.vars) l) op' m' name' q ⟨fe,fn⟩ HF.out.symm
     have F6:=J (show X=some ⟨fe,fn⟩ by have h:=dw.out;rw [uU,← HF.out] at h;rw [nE.out,← h];rfl)
     go_upto_region 15 with (fail)
     refine M4 ?_;intro HZ0
     refine M6 ?_
     refine Bn ?_;intro K hK
     rintro e w1 ⟨rfl,hx1⟩
     refine M7 ?_;clear hK K hx1;intro HZ1
     have fq:=bX hR0.out ((HX.out.trans fH.out).trans HZ1.out)
     have hmr:=fq.bF
     have iw:=bH fq
     have Ik:=bX xE.out HZ1.out
     have hgf:=bG Ik
     have Cw:=bH Ik
     have hlf:=Ik.lt
     go_wp2_with fail
     refine fD (t:=60) (g:=rb) (cs:=gU X) Tryz.results151 rfl rfl fQ (by rw [F6.out];exact iI) (by rw [F6.out];exact aH.gL fq 0 _) ⟨rfl,?_⟩
     exact ((HX0.out.trans HX.out).trans (fH.out.trans HZ1.out)).putAt _ _ _ (fun hlt=>absurd hlt MN)) : G := h
theorem zz8 {G : Prop} (h : G := by
 obtain ⟨hb,h1,h2,h3,⟨A',cap,b',off',hh,hg,hl,hA',hk⟩,hr⟩:=HRR.out
 simp only [EF.len] at hj
 have hlt:(j:Int) < en:=by omega
 obtain rfl:=HA.out aj
 have hbl:=HX.out.size
 have hh':=iB HX.out (by have:=dR.out;omega) hh
 have hg':=gH HX.out (by have:=dR.out;omega) hg
 have hbw:b < wr.heap.size:=by have:=dR.out;omega
 have KE:=J (show g_ W N A' q.len q from ⟨rfl,hl,b',off',hA',hk⟩)
 have HR2:=J hr
 clear hh hg hl hA' hk h1 h2 h3 HRR hbl hr
 have y0:Ext wr _:=(kR _ wr).alloc (.cells (aI op' m' name' A' q.len cap) 200)
 have hEB:=bN wr 200 (aI op' m' name' A' q.len cap)
 go_wp2_with fail
 refine (UU W q _ _ _ N _ _ _ _ (HX.out.trans y0) dR.out KE.out).mono ?_
 rintro e w1 ⟨rfl,hx1⟩
 obtain ⟨d,hd⟩:∃ d,d=jW (1+q.deep):=⟨_,rfl⟩
 rw [← hd]
 have HD:=J hd
 have eH:=J (HX.out.trans (y0.trans hx1))
 have aek:=bX hEB hx1
 have hgE:=bG aek
 have hhE:=bH aek
 have hlB:=aek.lt
 clear hd
 obtain ⟨f,hf⟩:∃ f,f=DC κ op' m' name' q:=⟨_,rfl⟩
 have HF:=J hf
 clear hf
 by_cases aaF:d≤12
 ·go_wp2_with fail
  refine (bq true _ _ _).mono ?_
  rintro e w2 ⟨he,rfl⟩
  have he:=dN.none he
  subst he
  go_wp2_with fail
  have HK:=J (UZ cb g κ (bZ i) aQ W vJ.out pI.out q op' m' name' A' q.len cap N _ eH.out dR.out KE.out)
  rw [← HF.out] at HK
  refine HK.out.mono ?_
  rintro e w2 ⟨he,hx2⟩
  have eU:=J (eH.out.trans hx2)
  cases f with
  | none =>
   have he:=dN.none he
   subst he
   have yV:=J (show lu κ rr=Z by have h:=dw.out;rw [qw,← HD.out,decide_eq_true aaF,← HF.out] at h;exact h)
   go_wp2_with fail
   go_roundw
   case rel=>exact ⟨j+1,rr,by omega,yV.out,by go_num,by rw [Nat.add_mul,← Nat.add_assoc];exact HR2.out,eU.out⟩
   case measure=>simp only [intOf];omega
  | some f =>
   have he:=dN.some he
   subst he
   have HR:=J (show X=some f by have h:=dw.out;rw [qw,← HD.out,decide_eq_true aaF,← HF.out] at h;rw [nE.out,← h];rfl)
   have kK:=J (vJ.out.ext eU.out)
   have jo:=J (Kept.ext (S:=SG cb g) (HX0.out.trans eU.out))
   exact Nl
 ·go_wp2_with fail
  rw [decide_eq_false (show ¬ d≤12 by omega)]
  refine (bq false _ _ _).mono ?_
  rintro e w2 ⟨he,rfl⟩
  have he:e=.panicked (U9 ⟨25,E0⟩):=he
  subst he
  have HR:=J (show X=some ⟨25,E0⟩ by have h:=dw.out;rw [qw,← HD.out,decide_eq_false aj] at h;rw [nE.out,← h];rfl)
  have kK:=J (vJ.out.ext eH.out)
  have jo:=J (Kept.ext (S:=SG cb g) (HX0.out.trans eH.out))
  exact Nl) : G := h
theorem zz9 {G : Prop} (h : G := by
 rw [qn] at fZ
 clear hvI
 refine Nc ?_;intro K hK
 try rw [LZ]
 refine (bq true _ _ _).mono ?_
 rintro e w1 ⟨he,rfl⟩
 have he:=dN.none he
 subst he
 have nE:=J (show X=r by rw [fZ.out];rfl)
 refine hK.out _ _ ?_
 clear hK K
 refine gI ?_
 have ys:=eX.out.trans tK.out
 have Av:=bC (bX hE0.out ys)
 have DV:=(bX hE0.out ys).lt
 exact afx) : G := h
theorem aiK {G : Prop} (h : G := by
 (repeat refine zS ?_)
 obtain ⟨v80,V3,hrun,TS,aaG,-⟩:=aan (f:=Aa) yh (fun _=>rfl) (fun _=>rfl) V2 wr.heap.size (.slice (some ⟨u0,0,none⟩) 0 0) 0 [] own A n kc pl Wu.out.1 HAK.out (Wu.out.2.2 V2 y2) (by have:=Wu.out.2.1;omega) y2.size
 have y3:Ext wr V3:=y2.trans' aaG (fun i hi e=>by have e2:u0=i:=Option.some.inj e;omega)
 have q6:=bK q6 aaG (fun e=>by have e2:u0=u6:=Option.some.inj e;have q:=q0;rw [e2] at q;have q:=aH.uniq q q6;simp at q)
 refine dz (fun K hK=>?_)
 refine Vz ?_
 refine hK.out _ _ (fun _=>y3) ?_
 clear hK K hrun
 exact acV) : G := h
theorem aiM {G : Prop} (h : G := by
 have jo:=J (HX.out.trans y0)
 have bU:=J y0
 clear hh hg n1 n2 n3 a1 a2 a3 he hl Az hb h1 h2 h3 h4 hr HR jN hbl y0
 have hcB:=bC HB.out
 cases q6:(kind == 6)
 ·cases q7:(kind == 7)
  ·cases q2:(kind == 2)
   ·have yV:=J (show ends r=Z by rw [← dw.out];simp [ends,q6,q7,q2])
    exact Zv
   ·have HQ:=J (show ((ends l && ends x) || ends r)=Z by rw [← dw.out];simp [ends,q6,q7,q2])
    clear hcB
    go_wp2_with fail
    refine (HI2.out.1 _ _ _ N _ (hx0.trans jo.out) hN KL.out).mono ?_
    rintro e w2 ⟨rfl,hx2⟩
    have jo:=J (jo.out.trans hx2)
    have HB2:=J (bX HB.out hx2)
    have hcB:=bC HB2.out
    have hlB:=HB2.out.lt
    clear hx2 HB bU
    obtain ⟨el,hel⟩:∃ el,el=ends l:=⟨_,rfl⟩
    rw [← hel] at HQ ⊢
    clear hel
    cases el
    ·have yV:=J (show ends r=Z from HQ.out)
     exact Zv
    ·go_wp2_with fail
     refine (HI2.out.2.1 _ _ _ N _ (hx0.trans jo.out) hN KX.out).mono ?_
     rintro e w3 ⟨rfl,hx3⟩
     have jo:=J (jo.out.trans hx3)
     clear hx3
     obtain ⟨el,hel⟩:∃ el,el=ends x:=⟨_,rfl⟩
     rw [← hel] at HQ ⊢
     clear hel
     cases el
     ·have yV:=J (show ends r=Z from HQ.out)
      exact Zv
     ·go_wp2_with fail
      go_ret
      exact ⟨by rw [← HQ.out];rfl,jo.out⟩
  ·have HQ:=J q7
   go_wp2_with fail
   go_ret
   rw [← dw.out]
   exact ⟨by simp [ends,HQ.out],jo.out⟩
 ·have HQ:=J q6
  go_wp2_with fail
  go_ret
  rw [← dw.out]
  exact ⟨by simp [ends,HQ.out],jo.out⟩) : G := h
theorem aiN {G : Prop} (h : G := by
 obtain ⟨v3,JW,hr3,ho3,hk3⟩:=WO tX wr.heap.size _ 0 [] ho bA bg 0 bn bc R.binds Bq.out HBA.out (fun h0=>(HBR.out h0).ext y2) aff y2.size
 have y3:Ext wr JW:=y2.trans' hk3 (fun i hi e=>by have:=(ho.lt i e).1;omega)
 refine afv ?_;clear hr3
 have hrow:=hrow.kept hk3 (fun e=>by simp [Value.ownBlock] at e;omega)
 exact acW) : G := h
theorem aiP {G : Prop} (h : G := by
 (refine dz (fun K hK=>?_);go_simp)
 go_wp2_with fail
 have hrun:=Mc.r_ (some ⟨gi,0,none⟩) gi 0 (dM p j).length ci (dM p j) 0 0 g 0 (bO p) (bO p) (iT p j V Ar) (bB p j) (by have:=HST.out j wC.out;omega) wl ⟨adL.out.ext yl,fun _=>rfl,fun _=>(HR9.out.ext yl),rfl,by omega,hml.symm,by rw [← hml];exact nV.out.right,nV.out.vQ,(aH.row HG9.out).ext yl⟩
 simp only [hit,ahh,Bool.not_false] at hrun
 refine hrun.mono ?_
 clear hrun
 rintro e w5 ⟨v5,q5,rfl,VY,g5,c5,rfl,yZ,y5⟩
 have yr:=(yl).trans y5
 refine hK.out _ _ (fun _=>yr) ?_
 clear hK K
 have l1:=bH (bb.ext y5)
 have l2:=aH.bF (bb.ext y5)
 have l3:=((bb.ext y5)).lt
 refine LY ?_
 have ks:Kept (·=bn) w5 (putAt w5 bn 0 (aN pc (some ⟨g5,0,none⟩) (bO p) c5 sh)):=Kept.putAt (kR _ _) _ 0 _ (fun _=>rfl)
 have ye:Ext w9 (putAt w5 bn 0 (aN pc (some ⟨g5,0,none⟩) (bO p) c5 sh)):=Kept.trans' yr ks (fun i hi e=>by omega)
 have be:aH (putAt w5 bn 0 (aN pc (some ⟨g5,0,none⟩) (bO p) c5 sh)) bn 49 (aN pc (some ⟨g5,0,none⟩) (bO p) c5 sh):=aH.gL (bb.ext y5) 0 _
 have me:=(yZ).kept ks (fun e=>by have h1:=yZ.inv;obtain ⟨_,_,h1,_⟩:=h1;have:=bb.lt;omega)
 clear l1 l2 l3 ks
 generalize (putAt w5 bn 0 (aN pc (some ⟨g5,0,none⟩) (bO p) c5 sh))=we at ye be me ⊢
 exact adg) : G := h
theorem aiQ {G : Prop} (h : G := by
 generalize (w2.alloc (.cells #[.int .i64 fe,.string fn] 60))=W3 at y3 hV ⊢
 refine zy9 ?_;clear hV y3 dF;intro fb eX xE HZ0 K hK
 rintro e2 w4 ⟨rfl,hx4⟩
 have HZ1:=J (HZ0.out.trans hx4)
 refine hK.out _ _ (fun _=>HZ1.out) ?_
 clear hK K hx4
 have hnz:=HNF.out
 refine gI ?_
 have dF:=J (eX.out.trans HZ1.out)
 refine He ?_;intro fq hmr iw hlr hcP mI mH jh
 have Ik:=bX xE.out HZ1.out
 have hgf:=bG Ik
 have Cw:=bH Ik
 have hlf:=Ik.lt
 exact EX) : G := h
theorem aiU {G : Prop} (h : G := by
 rw [ev]
 have FM:q8 (w2.setCell ⟨g,a,none⟩ (.int .i32 (bR (decide (0≤v) && decide (v < z))))).drew s 49 pc (some ⟨g,0,none⟩) n kc 0:=aH.far hS2 (p:=⟨g,a,none⟩) hsg (.int .i32 (bR (decide (0≤v) && decide (v < z))))
 have Aq:eB (w2.setCell ⟨g,a,none⟩ (.int .i32 (bR (decide (0≤v) && decide (v < z))))).drew base g n kc (m.set a (bR (decide (0≤v) && decide (v < z)))):=(hM2.set a hal (bR (decide (0≤v) && decide (v < z)))).ext ((kR _ _).drew)
 have hk3:Kept (fun i=>i=s ∨ i=g) w (w2.setCell ⟨g,a,none⟩ (.int .i32 (bR (decide (0≤v) && decide (v < z))))).drew:=(Kept.setCell (Kept.ext x2) _ _ (fun _=>.inr rfl)).drew
 generalize (w2.setCell ⟨g,a,none⟩ (.int .i32 (bR (decide (0≤v) && decide (v < z))))).drew=W3 at FM Aq hk3 ⊢
 exact Nn) : G := h
theorem ace {G : Prop} (h : G := by
 clear hv hz
 go_upto_region 30 with (fail)
 refine gM (fun w3=>Ext w2 w3) [(0,2),(1,2),(2,1),(3,2),(4,1),(5,2),(6,2),(7,1),(8,2),(9,2)] ?_;refine gN ?_
 refine Zi ?_
 refine gI ?_
 have FM:q8 w2.drew s 49 pc (some ⟨g,0,none⟩) n kc 0:=hS2
 have Aq:eB w2.drew base g n kc m:=hM2.ext ((kR _ _).drew)
 have hk3:Kept (fun i=>i=s ∨ i=g) w w2.drew:=(Kept.ext x2).drew
 have hI3:aH w2.drew ic 77 _:=hI2
 have amq:=bC hI3
 exact Nn) : G := h
theorem aiW {G : Prop} (h : G := by
 have HR:=J (show X=none by rw [iZ.out,hv1];rfl)
 clear hv1
 exact acf) : G := h
theorem aiX {G : Prop} (h : G := by
 have z2:((ag.n:Int) != 0)=false:=by rw [e2];simp
 exact acX) : G := h
theorem acf {G : Prop} (h : G := by
 go_wp2_with fail
 refine (lD _).mono ?_
 rintro e w9 ⟨rfl,Gr⟩
 clear fq hmr iw hlr kW sZ qE qD oM
 have dF:=J (dF.out.trans Gr)
 refine QV ?_;intro fq hmr iw hlr kW sZ qE qD oM
 clear Gr
 exact EW) : G := h
theorem aiY {G : Prop} (h : G := by
 refine gI ?_
 have FM:q8 (w2.setCell ⟨g,a,none⟩ (.int .i32 (v))).drew s 49 pc (some ⟨g,0,none⟩) n kc 0:=aH.far hS2 (p:=⟨g,a,none⟩) hsg (.int .i32 (v))
 have Aq:eB (w2.setCell ⟨g,a,none⟩ (.int .i32 (v))).drew base g n kc (m.set a (v)):=(hM2.set a hal (v)).ext ((kR _ _).drew)
 have hk3:Kept (fun i=>i=s ∨ i=g) w (w2.setCell ⟨g,a,none⟩ (.int .i32 (v))).drew:=(Kept.setCell (Kept.ext x2) _ _ (fun _=>.inr rfl)).drew
 generalize (w2.setCell ⟨g,a,none⟩ (.int .i32 (v))).drew=W3 at FM Aq hk3 ⊢
 exact Nn) : G := h
theorem aiZ {G : Prop} (h : G := by
 refine zy6 ?_;intro fq hmr iw hlr kW JY Gq sZ qE qD oM
 exact ZA) : G := h
theorem ajb {G : Prop} (h : G := by
 refine yT ?_
 refine gI ?_
 have yr:=bU.out
 exact Zu) : G := h
theorem aji {G : Prop} (h : G := by
 go_wp2_with fail
 exact Zx) : G := h
theorem Zx {G : Prop} (h : G := by
 refine (bq false _ _ _).mono ?_
 rintro e w8 ⟨he,rfl⟩
 have he:=dN.some he
 subst he
 exact Zy) : G := h
theorem ajm {G : Prop} (h : G := by
 have HR:=J (show X=some ⟨6,s⟩ by rw [fZ.out,← HV.out];rfl)
 exact afD) : G := h
theorem ajp {G : Prop} (h : G := by
 (refine eu bT bT (fun K hK=>?_);go_simp)
 refine (bq false _ _ _).mono ?_
 rintro e w1 ⟨he,rfl⟩
 have he:e=.panicked (U9 ⟨3,E0⟩):=he
 subst he
 have kK:=J (vJ.out.ext bU.out)
 have jo:=J (Kept.ext (S:=SG cb g) (HX0.out.trans bU.out))
 exact Nl) : G := h
theorem ajr {G : Prop} (h : G := by
 have qn:(v == 1)=false:=by simp [hv1]
 have HR:=J (show X=some ⟨11,s⟩ by rw [fZ.out,qn];rfl)
 refine Nc ?_;intro K hK
 try rw [LZ]
 exact B_) : G := h
theorem acg {G : Prop} (h : G := by
 refine ER ?_;intro fq hmr iw hlr
 exact Zz) : G := h
theorem ajt {G : Prop} (h : G := by
 have HR:=J (show X=some ⟨11,name⟩ by rw [iZ.out,n1,aO])
 clear hv1
 exact EW) : G := h
theorem afD {G : Prop} (h : G := by
 have yr:=yt
 exact Zu) : G := h
theorem afE {G : Prop} (h : G := by
 have HR:=J (show X=some ⟨6,name⟩ by rw [eU.out,hv0];rfl)
 clear hv0
 exact EW) : G := h
theorem ajv {G : Prop} (h : G := by
 have h1:=List.all_eq_true.1 h _ hf
 simp only [Bool.or_eq_true,beq_iff_eq] at h1
 exact ade) : G := h
theorem EW {G : Prop} (h : G := by
 go_wp2_with fail
 refine fD (t:=60) (g:=rb) (cs:=gU X) Tryz.results149 rfl rfl fQ QS QO ⟨rfl,?_⟩
 exact Hf) : G := h
theorem Zz {G : Prop} (h : G := by
 go_wp2_with fail
 refine fD (t:=60) (g:=rb) (cs:=gU X) Tryz.results51 rfl rfl fQ QS QO ⟨rfl,?_⟩
 exact Hf) : G := h
theorem BZ {G : Prop} (h : G := by
 go_wp2_with fail
 refine fD (t:=60) (g:=rb) (cs:=gU X) Tryz.results53 rfl rfl fQ QS QO ⟨rfl,?_⟩
 exact Hf) : G := h
theorem ZA {G : Prop} (h : G := by
 go_wp2_with fail
 refine fD (t:=60) (g:=rb) (cs:=gU X) Tryz.results94 rfl rfl fQ QS QO ⟨rfl,?_⟩
 exact Hf) : G := h
theorem EX {G : Prop} (h : G := by
 go_wp2_with fail
 refine fD (t:=60) (g:=rb) (cs:=gU X) Tryz.results23 rfl rfl fQ QS QO ⟨rfl,?_⟩
 exact Hf) : G := h
theorem ajA {G : Prop} (h : G := by
 try simp only [Bool.not_true]
 exact VD) : G := h
theorem ajC {G : Prop} (h : G := by
 have he9:=(hi4).ext ya
 exact adf) : G := h
theorem amc {G : Prop} (h : G := by
 have h1:=agU j listed hdn hj hji h
 have h0:=(mem_ready.1 hr).1
 exact Zw) : G := h
theorem ZE {G : Prop} (h : G := by
 refine (bq false _ _ _).mono ?_
 rintro e w8 ⟨he,rfl⟩
 have he:=dN.some he
 subst he
 exact Nl) : G := h
theorem adh {G : Prop} (h : G := by
 have y1:=tT.out.trans hx1
 refine hK.out _ _ (fun _=>y1) ?_
 clear hK K
 refine m_ ?_;intro K hK
 refine afs ?_;clear hK K;intro W2 y2 oQ
 have hfl:wr.heap.size≤w1.heap.size:=y1.size
 generalize w1.heap.size=fb at oQ hfl ⊢
 have oN:=oQ.bF
 have Cw:=bH oQ
 have hfc:=KV f
 have hff:=Gn f
 refine m_ ?_;intro K hK
 have y3:=y2.putAt fb 0 (gU f) (fun hlt=>absurd hlt aj)
 have hf3:=aH.R4 oQ f
 refine hK.out _ _ (fun _=>y3) ?_
 clear hK K oN Cw hfc hff
 refine LY ?_
 generalize putAt W2 fb 0 (gU f)=W3 at y3 hf3 ⊢
 exact KEY.out _ _ ⟨y3,hf3⟩) : G := h
theorem adi {G : Prop} (h : G := by
 have HYS:=J ys
 have Av:=bC (bX hE0.out ys)
 have DV:=(bX hE0.out ys).lt
 obtain ⟨Z,hZ⟩:∃ Z,Z=lu κ es:=⟨_,rfl⟩
 rw [← hZ] at nE
 have HZ:=J hZ.symm
 clear hZ ys
 go_wp2_with fail
 go_loopw [49] (fun t49 wr=>∃ (j:Nat) (R:EF),j+R.len=en∧lu κ R=Z∧t49=.int .i64 j∧mK W N R b (off+j * 4)∧Ext W wr) (fun t49 _=>en - (intOf t49).toNat)
 case atStart=>exact ⟨0,es,by rw [HN.out,Nat.zero_add],HZ.out,rfl,by simpa using HE.out,HYS.out⟩
 case round =>
  obtain ⟨j,R,hj,hacc,rfl,hR,hx⟩:=hrel
  have HRR:=J hR
  have HX:=J hx
  have dw:=J hacc
  have Av:=bC (bX hE0.out hx)
  have DV:=(bX hE0.out hx).lt
  clear hR hx hacc
  cases R with
  | nil =>
   exact aiL
  | cons op' m' name' q rr =>
   exact zz8) : G := h
theorem adj {G : Prop} (h : G := by
 go_wp2_with fail
 go_loopw [11,15] (fun t11 YC wx=>∃ (i:Nat) (q:jg),i≤0∧YC=.int .i64 i∧t11=q.v∧wx.ownsRow wc.heap.size 21 1 q.v q.n (aM ((List.range i).map (argN p part A)))∧Ext wc wx) (fun _ YC _=>0 - (intOf YC).toNat)
 case atStart=>exact ⟨0,⟨none,0,0⟩,Nat.zero_le _,rfl,rfl,⟨by simp [aM],.inl ⟨rfl,rfl⟩⟩,kR _ _⟩
 case round =>
  obtain ⟨i,q,hi,rfl,rfl,ho,hk⟩:=hrel
  have E8:=J ho
  have qg:=J hk
  have HQN:=J (show q.n=i by have h:=ho.1;rw [dQ] at h;simp at h;omega)
  clear ho hk
  obtain rfl:i=0:=by omega
  exact afF) : G := h
theorem adk {G : Prop} (h : G := by
 have y2:=dX.out.trans hx1
 refine hK.out _ _ (fun _=>y2) ?_
 clear hK K y1
 have rM:=bX nA hx1
 have oN:=rM.bF
 have Cw:=bH rM
 have hfc:=KV f
 have hff:=Gn f
 refine m_ ?_;intro K hK
 have y3:=y2.putAt fb 0 (gU f) (fun hlt=>absurd hlt YS)
 have hf3:=aH.R4 rM f
 refine hK.out _ _ (fun _=>y3) ?_
 clear hK K oN Cw hfc hff
 refine LY ?_
 generalize putAt w1 fb 0 (gU f)=W3 at y3 hf3 ⊢
 exact KEY.out _ _ ⟨y3,hf3⟩) : G := h
theorem adl {G : Prop} (h : G := by
 refine zy6 ?_;intro fq hmr iw hlr kW JY Gq sZ qE qD oM
 have Ik:=bX xE.out HZ1.out
 have hgf:=bG Ik
 have Cw:=bH Ik
 have hlf:=Ik.lt
 exact ZA) : G := h
theorem adn {G : Prop} (h : G := by
 refine MO ?_
 (refine eu bT bT (fun K hK=>?_);go_simp)
 have HX:=J (HX0.out.trans (fH.out.trans j4.out))
 exact B_) : G := h
theorem adb {G : Prop} (h : G := by
 go_wp2_with fail
 refine fD (t:=60) (g:=rb) (cs:=gU Z) Tryz.results54 rfl rfl fQ QS QO ⟨rfl,?_⟩
 exact Hf) : G := h
theorem zz4 {G : Prop} (h : G := by
 have HF:=J hf
 clear hf
 go_upto_region 4 with (fail)
 apply meet (F:=fun W2 fb=>Ext wr W2∧aH W2 fb 60 (gU f))
 case h =>
  intro jr
  have KEY:=J jr
  clear jr
  refine Uz (fun w1=>Ext wr w1) (.op 0 1 (.op 1 2 (.op 2 2 (.op 3 2 (.op 4 1 (.op 5 2 (.op 6 2 (.op 7 2 (.op 8 2 (.op 9 2 (.op 10 2 (.op 11 2 (.op 12 2 (.op 13 2 (.op 14 2 (.fork 15 (.op 16 0 (.op 17 0 .nil)) 16 (.op 15 0 (.op 17 0 .nil)))))))))))))))))) ?_;refine UA ?_
  have tT:=J (show Ext wr wr.drew from (kR _ wr).drew)
  (repeat (first | refine zS ?_ | ((apply ig);(· exact tT.out);(· go_simp);(· (intro w1 hS;have d0:=bX HK.out (dF.out.trans hS);have d1:=bG d0;have d2:=bH d0;have d3:=d0.lt;have d7:=iB hS HHW.out HH0.out;have d8:=gH hS HHW.out HG0.out;have d9:=Nat.lt_of_lt_of_le HHW.out hS.size; go_simp;try with_reducible rfl));refine tO ?_) | ((apply h_);(· exact tT.out);(· go_simp);refine tO ?_)))
  refine iE ?_ ?_
  ·(refine dz (fun K hK=>?_);go_simp)
   try rw [HLS.out]
   refine (ZK.out _ (HWQ.out.trans tT.out) ((HPL.out.ext (dF.out.trans tT.out)).mono (Nat.le_trans dR.out (dF.out.trans tT.out).size))).mono ?_
   rintro e4 w1 ⟨rfl,hx1⟩
   rw [← NR.out,← HF.out]
   exact adh
  ·refine afn ?_;intro W1 hW1 y1
   have nA:aH W1 wr.heap.size 60 #[.int .i64 0,.string ⟨#[]⟩]:=by rw [← hW1];exact aH.drew (bN wr _ _)
   refine YZ ?_;clear hW1 nA;intro fb nA qZ dX
   (repeat (first | refine zS ?_ | ((apply ig);(· exact dX.out);(· go_simp);(· (intro w1 hS;have d0:=bX HK.out (dF.out.trans hS);have d1:=bG d0;have d2:=bH d0;have d3:=d0.lt;have d7:=iB hS HHW.out HH0.out;have d8:=gH hS HHW.out HG0.out;have d9:=Nat.lt_of_lt_of_le HHW.out hS.size; go_simp;try with_reducible rfl));refine tO ?_) | ((apply h_);(· exact dX.out);(· go_simp);refine tO ?_)))
   (refine dz (fun K hK=>?_);go_simp)
   try rw [HLS.out]
   refine (ZK.out _ (HWQ.out.trans dX.out) ((HPL.out.ext (dF.out.trans dX.out)).mono (Nat.le_trans dR.out (dF.out.trans dX.out).size))).mono ?_
   rintro e4 w1 ⟨rfl,hx1⟩
   rw [← NR.out,← HF.out]
   exact adk
 case h2 =>
  rintro W2 fb ⟨y2,oQ⟩
  have xE:=J oQ
  have fH:=J (dF.out.trans y2)
  clear oQ y2 dF
  cases f with
  | none =>
   go_upto_region 5 with (fail)
   refine M4 ?_;intro HZ0
   refine M6 ?_
   refine Bn ?_;intro K hK
   rintro e4 w1 ⟨rfl,hx1⟩
   refine M7 ?_;clear hK K hx1;intro HZ1
   go_wp2_with fail
   go_roundw
   case rel=>exact ⟨m+1,r,by omega,by rw [HXB.out,aX],by go_num,by rw [Nat.add_mul,← Nat.add_assoc];exact HR2.out,sH.out.2.2,fH.out.trans HZ1.out⟩
   case measure=>simp only [intOf];omega
  | some f =>
   obtain ⟨fe,fn⟩:=f
   have hnz:=NZ.out (aaR _ _ _ _ _ _ _ _ _ _ _) HF.out.symm
   have HR:=J (show Z=some ⟨fe,fn⟩ by rw [HXB.out,aY])
   go_upto_region 5 with (fail)
   refine M4 ?_;intro HZ0
   refine M6 ?_
   refine Bn ?_;intro K hK
   rintro e4 w1 ⟨rfl,hx1⟩
   refine M7 ?_;clear hK K hx1;intro HZ1
   have dF:=J (fH.out.trans HZ1.out)
   refine ER ?_;intro fq hmr iw hlr
   have qE:=bH (bX HK.out dF.out)
   have qD:=bG (bX HK.out dF.out)
   have oM:=(bX HK.out dF.out).lt
   have Ik:=bX xE.out HZ1.out
   have hgf:=bG Ik
   have Cw:=bH Ik
   have hlf:=Ik.lt
   exact adb) : G := h
theorem zz5 {G : Prop} (h : G := by
 have hgE:=bG (bX hE0.out ys)
 have hhE:=bH (bX hE0.out ys)
 have DV:=(bX hE0.out ys).lt
 go_wp2_with fail
 obtain ⟨t,ht⟩:∃ t,t=target κ k name low:=⟨_,rfl⟩
 have HK:=J (Qq cb g κ (bZ i) aQ k name eA en ec low high lA ln lc xA xn xc hkk.out _ (vJ.out.ext ys))
 rw [← ht] at HK fZ
 clear ht hgE hhE DV
 refine HK.out.mono ?_
 rintro e w2 ⟨he,hx2⟩
 cases t with
 | some f =>
  exact ada
 | none =>
  have he:=dN.none he
  subst he
  have nE:=J (show X=ay (lu κ es) none from fZ.out)
  have ys:=ys.trans hx2
  clear hx2 HK
  exact adi) : G := h
theorem aiO {G : Prop} (h : G := by
 generalize (w2.alloc (.cells #[.int .i64 fe,.string fn] 60))=W3 at y3 hV ⊢
 refine zy9 ?_;clear hV y3 dF;intro fb eX xE HZ0 K hK
 rintro e2 w4 ⟨rfl,hx4⟩
 have HZ1:=J (HZ0.out.trans hx4)
 refine hK.out _ _ (fun _=>HZ1.out) ?_
 clear hK K hx4
 have hnz:=HNF.out
 refine gI ?_
 have dF:=J (eX.out.trans HZ1.out)
 exact adl) : G := h
theorem aiV {G : Prop} (h : G := by
 clear hp0
 exact adj) : G := h
theorem ajf {G : Prop} (h : G := by
 clear hK K
 exact adn) : G := h
theorem acU {G : Prop} (h : G := by
 have HF:=J (show bV i (aU (fB p.vars) (BN p i)) 0 true (partOf p i)=f by rw [hf,mg,aaN])
 have zw:=J (show X=ay f (Gp p M (i+1)) by rw [hf,← dw.out,Xm p M i hlt])
 have HNZ:=J (show NZ f by rw [hf,mg];exact jK _ _ _ _ _)
 clear hf
 apply meet (F:=fun W2 fb=>Ext wr W2∧aH W2 fb 60 (gU f))
 case h =>
  intro jr
  have KEY:=J jr
  clear jr
  refine Uz (fun w1=>Ext wr w1) (.op 0 1 (.op 1 2 (.op 2 2 (.op 3 2 (.op 4 1 (.op 5 2 (.fork 6 (.op 7 0 (.op 8 0 .nil)) 7 (.op 6 0 (.op 8 0 .nil))))))))) ?_;refine UA ?_
  have tT:=J (show Ext wr wr.drew from (kR _ wr).drew)
  (repeat (first | refine zS ?_ | ((apply ig);(· exact tT.out);(· go_simp);(· (intro w1 hS;have d0:=bX Hu.out hS;have d1:=bG d0;have d2:=bH d0;have d3:=d0.lt;have d4:=bX HAQ.out hS;have d5:w1.cell? ⟨ab,i,none⟩=some (.slice sA sn sc):=(bC d4 i).trans HAC.out;have d6:=d4.lt; go_simp;try with_reducible rfl));refine tO ?_) | ((apply h_);(· exact tT.out);(· go_simp);refine tO ?_)))
  refine iE ?_ ?_
  ·(refine dz (fun K hK=>?_);go_simp)
   refine (ZK.out _ tT.out (HST.out.agv tT.out)).mono ?_
   rintro e4 w1 ⟨rfl,hx1⟩
   rw [HF.out]
   exact adh
  ·refine afn ?_;intro W1 hW1 y1
   have nA:aH W1 wr.heap.size 60 #[.int .i64 0,.string ⟨#[]⟩]:=by rw [← hW1];exact aH.drew (bN wr _ _)
   refine YZ ?_;clear hW1 nA;intro fb nA qZ dX
   (repeat (first | refine zS ?_ | ((apply ig);(· exact dX.out);(· go_simp);(· (intro w1 hS;have d0:=bX Hu.out hS;have d1:=bG d0;have d2:=bH d0;have d3:=d0.lt;have d4:=bX HAQ.out hS;have d5:w1.cell? ⟨ab,i,none⟩=some (.slice sA sn sc):=(bC d4 i).trans HAC.out;have d6:=d4.lt; go_simp;try with_reducible rfl));refine tO ?_) | ((apply h_);(· exact dX.out);(· go_simp);refine tO ?_)))
   (refine dz (fun K hK=>?_);go_simp)
   refine (ZK.out _ dX.out (HST.out.agv dX.out)).mono ?_
   rintro e4 w1 ⟨rfl,hx1⟩
   rw [HF.out]
   exact adk
 case h2 =>
  rintro W2 fb ⟨y2,oQ⟩
  have xE:=J oQ
  have HYR:=J (Fy.out.trans y2)
  have dF:=J (HXB.out.trans y2)
  clear oQ y2
  cases f with
  | none =>
   go_upto_region 32 with (fail)
   refine M4 ?_;intro HZ0
   refine M6 ?_
   refine Bn ?_;intro K hK
   rintro e4 w1 ⟨rfl,hx1⟩
   refine M7 ?_;clear hK K hx1;intro HZ1
   go_wp2_with fail
   go_roundw
   case rel=>exact ⟨i+1,by omega,by go_num,by rw [zw.out,aX],Bw.out.trans (HYR.out.trans HZ1.out)⟩
   case measure=>simp only [intOf];omega
  | some f =>
   obtain ⟨fe,fn⟩:=f
   have hnz:=NZ.out HNZ.out rfl
   have HR:=J (show X=some ⟨fe,fn⟩ by rw [zw.out,aY])
   go_upto_region 32 with (fail)
   refine M4 ?_;intro HZ0
   refine M6 ?_
   refine Bn ?_;intro K hK
   rintro e4 w1 ⟨rfl,hx1⟩
   refine M7 ?_;clear hK K hx1;intro HZ1
   have dF:=J (dF.out.trans HZ1.out)
   refine He ?_;intro fq hmr iw hlr hcP mI mH jh
   have Ik:=bX xE.out HZ1.out
   have hgf:=bG Ik
   have Cw:=bH Ik
   have hlf:=Ik.lt
   exact EX) : G := h
theorem G9 {G G' : Prop} (g : G') (h : G' → G := by
 intro qq
 have QQ := Go.Lib.hid qq
 clear qq
 obtain ⟨hn,hn1,hn2,qG,hops,hst,hmem,hmap,hcA,hrow,hcn,lF,mq,mU,hsg⟩:=id h
 have hls:=hst.lt
 have DW:=hmem.lt
 have hlq:=hmap.lt
 have hgs:¬ g=s:=fun e=>hsg e.symm
 have HX:=J hnx
 have HN:=J hn
 have HO:=J qG
 have nQ:=J hops
 have HA:=J hcA
 have HR:=J hrow
 have wo:=J hcn
 have ng:=J hright
 clear hn qG hops hcA hrow hcn
 go_enter Tryz.func63,Tryz.ntmps63
 revert ng
 revert wo
 revert HR
 revert HA
 revert nQ
 revert HO
 revert HN
 revert HX
 revert hgs
 revert hlq
 revert DW
 revert hls
 revert hsg
 revert mU
 revert mq
 revert lF
 revert hmap
 revert hmem
 revert hst
 revert hn2
 revert hn1
 exact QQ.out) : G := h g
theorem He {G G' : Prop} (g : G') (h : G' → G := by
 intro qq
 have QQ := Go.Lib.hid qq
 clear qq
 have fq:=bX HD.out dF.out
 have hmr:=fq.bF
 have iw:=bH fq
 have hlr:=fq.lt
 have hcP:=bC (bX HB.out dF.out)
 have mI:=bH (bX HB.out dF.out)
 have mH:=bG (bX HB.out dF.out)
 have jh:=(bX HB.out dF.out).lt
 revert jh
 revert mH
 revert mI
 revert hcP
 revert hlr
 revert iw
 revert hmr
 revert fq
 exact QQ.out) : G := h g
theorem Fp {G G' : Prop} (g : G') (h : G' → G := by
 intro qq
 have QQ := Go.Lib.hid qq
 clear qq
 have x2:=x1.trans hx2
 have hI2:=bX hI1 hx2
 have hS2:=bX hS1 hx2
 have hM2:=hM1.ext hx2
 have uX:=j6.ext hx2
 have hcI:=bC hI2
 have kW:=bC hS2
 have BK:=aH.frozen hS2
 have lI:=hI2.lt
 have lS:=hS2.lt
 have lG:=hM2.lt
 revert lG
 revert lS
 revert lI
 revert BK
 revert kW
 revert hcI
 revert uX
 revert hM2
 revert hS2
 revert hI2
 revert x2
 exact QQ.out) : G := h g
theorem BX {G G' : Prop} (g : G') (h : G' → G := by
 intro qq
 have QQ := Go.Lib.hid qq
 clear qq
 refine (X9 s pc 0 (some ⟨g,0,none⟩) n kc A b off c cn cap _ wo.out lF mq HA.out nQ.out hst HR.out).mono ?_
 rintro e w1 ⟨e1,hx1⟩
 revert hx1
 revert e1
 revert w1
 revert e
 exact QQ.out) : G := h g
theorem zy5 {G G' : Prop} (g : G') (h : G' → G := by
 intro qq
 have QQ := Go.Lib.hid qq
 clear qq
 have hB0:=hB0
 generalize wr.heap.size=g at hB0 ⊢
 have HB:=J hB0
 have eY:=J (HAT.out.ext y0)
 have eH:=J (HST.out.kt (KT.ext (B:=x.B) (wm:=x.wm) y0) HAT.out.hN HAT.out.hB)
 have bU:=J (KT.ext (B:=x.B) (wm:=x.wm) y0)
 clear hB0
 refine gM (fun wz=>SM x f W W1 wz) [(0,2),(1,2),(2,2),(3,1),(4,2),(5,1),(6,1),(7,2),(8,1),(9,0)] ?_;refine gN ?_
 revert bU
 revert eH
 revert eY
 revert HB
 revert g
 exact QQ.out) : G := h g
theorem zy6 {G G' : Prop} (g : G') (h : G' → G := by
 intro qq
 have QQ := Go.Lib.hid qq
 clear qq
 have fq:=bX HD.out dF.out
 have hmr:=fq.bF
 have iw:=bH fq
 have hlr:=fq.lt
 have kW:=bC (bX HS.out dF.out)
 have JY:=bH (bX HS.out dF.out)
 have Gq:=bG (bX HS.out dF.out)
 have sZ:=(bX HS.out dF.out).lt
 have qE:=bH (bX HK.out dF.out)
 have qD:=bG (bX HK.out dF.out)
 have oM:=(bX HK.out dF.out).lt
 revert oM
 revert qD
 revert qE
 revert sZ
 revert Gq
 revert JY
 revert kW
 revert hlr
 revert iw
 revert hmr
 revert fq
 exact QQ.out) : G := h g
theorem QX {G G' : Prop} (g : G') (h : G' → G := by
 intro qq
 have QQ := Go.Lib.hid qq
 clear qq
 have hB0:=hB0
 generalize (w:World).heap.size=g at hB0 ⊢
 have HB:=J hB0
 have HX:=J hX1
 have lQ:=J jM
 have HL:=J hL
 have Y0:=J (KT.refl x.B x.wm W1)
 have Ny:=J (show x.B≤W1.heap.size from jM.hB)
 clear hB0
 revert Ny
 revert Y0
 revert HL
 revert lQ
 revert HX
 revert HB
 revert g
 exact QQ.out) : G := h g
theorem Zn {G G' : Prop} (g : G') (h : G' → G := by
 intro qq
 have QQ := Go.Lib.hid qq
 clear qq
 refine gM (fun w3=>Ext w2 w3) [(0,2),(1,2),(2,1),(3,2),(4,2),(5,1),(6,1),(7,2),(8,2),(9,1),(10,2),(11,1),(12,2),(13,2),(14,1),(15,2),(16,1),(17,0),(18,2),(19,0)] ?_;refine gN ?_
 exact QQ.out) : G := h g
theorem zy9 {G G' : Prop} (g : G') (h : G' → G := by
 intro qq
 have QQ := Go.Lib.hid qq
 clear qq
 have hV:=hV
 generalize w2.heap.size=fb at hV ⊢
 have eX:=J (dF.out.trans y3)
 have xE:=J hV
 clear hV
 refine gM (fun w1=>Ext W3 w1) [(0,1),(1,0),(2,2)] ?_;refine gN ?_
 have HZ0:=J (show Ext W3 W3.drew from (kR _ W3).drew)
 (repeat first|refine cu ?_|refine dL HZ0.out aio ?_|refine dK HZ0.out ?_)
 (refine aC (fun K hK=>?_);go_simp)
 refine (lD _).mono ?_
 revert hK
 revert K
 revert HZ0
 revert xE
 revert eX
 revert fb
 exact QQ.out) : G := h g
theorem QV {G G' : Prop} (g : G') (h : G' → G := by
 intro qq
 have QQ := Go.Lib.hid qq
 clear qq
 have fq:=bX HD.out dF.out
 have hmr:=fq.bF
 have iw:=bH fq
 have hlr:=fq.lt
 have kW:=bC (bX HS.out dF.out)
 have sZ:=(bX HS.out dF.out).lt
 have qE:=bH (bX HK.out dF.out)
 have qD:=bG (bX HK.out dF.out)
 have oM:=(bX HK.out dF.out).lt
 revert oM
 revert qD
 revert qE
 revert sZ
 revert kW
 revert hlr
 revert iw
 revert hmr
 revert fq
 exact QQ.out) : G := h g
theorem QW {G G' : Prop} (g : G') (h : G' → G := by
 intro qq
 have QQ := Go.Lib.hid qq
 clear qq
 have y1:Ext w (w.alloc (.cells (aI op n s A F.len kc) 200)):=(kR _ w).alloc _
 have hB0:=bN w 200 (aI op n s A F.len kc)
 have jM:=h.ext y1
 have hX1:=hX.kt (KT.ext (B:=x.B) (wm:=x.wm) y1) h.hN h.hB
 have fP:=J (And.intro h.hN h.hB)
 revert fP
 revert hX1
 revert jM
 revert hB0
 revert y1
 exact QQ.out) : G := h g
theorem Y_ {G G' : Prop} (g : G') (h : G' → G := by
 intro qq
 have QQ := Go.Lib.hid qq
 clear qq
 have b6:=b6
 rw [hsn] at b6 ⊢
 have OG:=bK (bX (bX HB.out y4) y5) k6 alQ
 have m1:=bC OG
 have m2:=OG.lt
 have m3:=aH.frozen OG
 have Fq:=J OG
 have ou:Kept (·=p4+2) W3 w6:=HK.out.trans' ((y4.trans' ((y5.mono (S':=(·=nb)) (fun _ _ f=>f.elim)).trans k6) (fun i hi e=>by have b:=fP.out;omega)).mono (S':=(·=p4+2)) (fun _ _ f=>f.elim)) (fun _ _ e=>e)
 revert ou
 revert Fq
 revert m3
 revert m2
 revert m1
 revert OG
 revert b6
 exact QQ.out) : G := h g
theorem Y7 {G G' : Prop} (g : G') (h : G' → G := by
 intro qq
 have QQ := Go.Lib.hid qq
 clear qq
 have F5:=J (And.intro (dS p.vars) gD.out.cells)
 refine gM (fun wz=>Ext wr wz) [(0,2),(1,2),(2,2),(3,2),(4,2),(5,1),(7,2),(8,2),(6,0),(9,2),(10,0)] ?_;refine gN ?_
 have yd:Ext wr wr.drew:=(kR _ wr).drew
 (repeat first|refine cu ?_|refine dL yd alN ?_|refine dK yd ?_)
 (refine aC (fun K hK=>?_);go_simp)
 revert hK
 revert K
 revert yd
 revert F5
 exact QQ.out) : G := h g
theorem Vo {G G' : Prop} (g : G') (h : G' → G := by
 intro qq
 have QQ := Go.Lib.hid qq
 clear qq
 have Gv:=Gv
 have Gu:=Gu
 simp only [Nat.zero_mul,Nat.one_mul,Nat.add_zero] at Gv Gu
 have FD:=J Gv
 have FC:=J Gu
 have BD:=J O5
 have Bz:=J OX
 have Dq:=J OW
 have Fe:=J O_
 clear Gv Gu
 revert Fe
 revert Dq
 revert Bz
 revert BD
 revert FC
 revert FD
 exact QQ.out) : G := h g
theorem Y8 {G G' : Prop} (g : G') (h : G' → G := by
 intro qq
 have QQ := Go.Lib.hid qq
 clear qq
 refine (qm 8 _).mono ?_
 rintro e w4 ⟨rfl,b4,y4⟩
 obtain ⟨nb,hnb⟩:∃ nb,nb=wr.heap.size:=⟨_,rfl⟩
 rw [← hnb] at b4 ⊢
 have fP:=J hnb
 have hkl:W3.heap.size≤wr.heap.size:=HK.out.size
 have kc:=bX (bK Hq.out HK.out afj) y4
 have l1:=bH kc
 have l2:=bG kc
 have l3:=kc.lt
 clear kc hnb
 revert l3
 revert l2
 revert l1
 revert hkl
 revert fP
 revert b4
 revert nb
 revert y4
 revert w4
 exact QQ.out) : G := h g
theorem m_ {G G' : Prop} (g : G') (h : G' → G := by
 intro qq
 have QQ := Go.Lib.hid qq
 clear qq
 (repeat refine zS ?_)
 (refine dz (fun K hK=>?_);go_simp)
 revert hK
 revert K
 exact QQ.out) : G := h g
theorem Vp {G G' : Prop} (g : G') (h : G' → G := by
 intro qq
 have QQ := Go.Lib.hid qq
 clear qq
 have hcP:=bC (bK lN.out j_.out nD.out.1)
 have jh:=(bK lN.out j_.out nD.out.1).lt
 have mI:=bH (bK lN.out j_.out nD.out.1)
 have mH:=bG (bK lN.out j_.out nD.out.1)
 revert mH
 revert mI
 revert jh
 revert hcP
 exact QQ.out) : G := h g
theorem yT {G G' : Prop} (g : G') (h : G' → G := by
 intro qq
 have QQ := Go.Lib.hid qq
 clear qq
 (repeat first|refine cu ?_|refine dL bU.out afa ?_|refine dK bU.out ?_)
 exact QQ.out) : G := h g
theorem alS {G G' : Prop} (g : G') (h : G' → G := by
 intro qq
 have QQ := Go.Lib.hid qq
 clear qq
 have HB:=J (show aH (putAt wA g 0 #[.int .i64 0,.int .i64 0,.int .i64 (k.params.n:Nat),.int .i64 1,.int .i64 0]) g 62 #[.int .i64 0,.int .i64 0,.int .i64 (k.params.n:Nat),.int .i64 1,.int .i64 0] from aH.gL BA.out 0 _)
 revert HB
 exact QQ.out) : G := h g
theorem M4 {G G' : Prop} (g : G') (h : G' → G := by
 intro qq
 have QQ := Go.Lib.hid qq
 clear qq
 refine gM (fun w1=>Ext W2 w1) [(0,1),(1,0),(2,2)] ?_;refine gN ?_
 have HZ0:=J (show Ext W2 W2.drew from (kR _ W2).drew)
 revert HZ0
 exact QQ.out) : G := h g
theorem FY {G G' : Prop} (g : G') (h : G' → G := by
 intro qq
 have QQ := Go.Lib.hid qq
 clear qq
 have hbl:=jN.size
 have hh':=iB jN aj hh
 have hg':=gH jN aj hg
 have hbw:b < wr.heap.size:=by omega
 revert hbw
 revert hg'
 revert hh'
 revert hbl
 exact QQ.out) : G := h g
theorem nP {G G' : Prop} (g : G') (h : G' → G := by
 intro qq
 have QQ := Go.Lib.hid qq
 clear qq
 have hI1:=hI1
 have l1:=l1
 generalize w1.heap.size=ic at hI1 l1 ⊢
 have hi1:=bH hI1
 have hj1:=bG hI1
 revert hj1
 revert hi1
 revert l1
 revert hI1
 revert ic
 exact QQ.out) : G := h g
theorem Za {G G' : Prop} (g : G') (h : G' → G := by
 intro qq
 have QQ := Go.Lib.hid qq
 clear qq
 have hkp:Kept (·=pb+1) w6 (putAt w6 (pb+1) 0 (fU.c ⟨⟨none,0,0⟩,true,0,0,0,⟨none,0,0⟩,0⟩)):=Kept.putAt (kR _ _) _ _ _ (fun _=>rfl)
 have hlt:=Nt.out.lt
 have hbw:=(HX0.out.trans eH.out).size
 revert hbw
 revert hlt
 revert hkp
 exact QQ.out) : G := h g
theorem afk {G G' : Prop} (g : G') (h : G' → G := by
 intro qq
 have QQ := Go.Lib.hid qq
 clear qq
 refine gM (fun w2=>Ext W2 w2) [(0,2),(1,1),(16,2),(17,1),(2,0),(3,2),(4,2),(5,1),(6,0),(7,2),(8,2),(9,2),(10,1),(11,2),(12,1),(13,2),(14,2),(15,2),(18,0)] ?_;refine gN ?_
 have j4:=J (show Ext W2 W2.drew from (kR _ W2).drew)
 (repeat first|refine cu ?_|refine dL j4.out Vf ?_|refine dK j4.out ?_)
 (refine aC (fun K hK=>?_);go_simp)
 refine (nS _ _).mono ?_
 revert hK
 revert K
 revert j4
 exact QQ.out) : G := h g
theorem qX {G G' : Prop} (g : G') (h : G' → G := by
 intro qq
 have QQ := Go.Lib.hid qq
 clear qq
 (repeat refine cu ?_)
 (refine aC (fun K hK=>?_);go_simp)
 revert hK
 revert K
 exact QQ.out) : G := h g
theorem Zb {G G' : Prop} (g : G') (h : G' → G := by
 intro qq
 have QQ := Go.Lib.hid qq
 clear qq
 refine gM (fun wz=>Ext w3 wz) [(0,2),(1,2),(2,2),(3,2),(4,2),(5,1),(6,1),(7,2),(8,2),(9,2),(10,2),(11,2),(12,1),(13,0),(14,2),(15,2),(16,2),(17,2),(18,0)] ?_;refine gN ?_
 exact QQ.out) : G := h g
theorem abO {G G' : Prop} (g : G') (h : G' → G := by
 intro qq
 have QQ := Go.Lib.hid qq
 clear qq
 refine (Pb c p N _ (Nat.le_trans dR.out eH.out.size) (iY.out.ext eH.out dR.out) HCAP.out HZ.out HF.out HC.out uS.out).mono ?_
 rintro e w2 ⟨rfl,hx2⟩
 have eU:=J (eH.out.trans hx2)
 have sQ:=J ((HK.out.ext hx2).up hx2.size (Nat.le_refl _))
 clear hx2
 revert sQ
 revert eU
 revert w2
 exact QQ.out) : G := h g
theorem Ab {G G' : Prop} (g : G') (h : G' → G := by
 intro qq
 have QQ := Go.Lib.hid qq
 clear qq
 have hm:=hf.max aj
 have HN:=J hn
 have HA:=J hA
 have HE:=J hE
 revert HE
 revert HA
 revert HN
 revert hm
 exact QQ.out) : G := h g
theorem FZ {G G' : Prop} (g : G') (h : G' → G := by
 intro qq
 have QQ := Go.Lib.hid qq
 clear qq
 have HM:=J (h.ext y1)
 have HI:=J hI
 have kK:=J hc
 have dR:=J (Nat.le_trans h.hN h.hB)
 have qZ:=J hE.2.1
 revert qZ
 revert dR
 revert kK
 revert HI
 revert HM
 exact QQ.out) : G := h g
theorem aiD {G G' : Prop} (g : G') (h : G' → G := by
 intro qq
 have QQ := Go.Lib.hid qq
 clear qq
 obtain ⟨uA,un,uc,hm,ho⟩:=Ws.out.box
 have sS:=J hm
 have CV:=J ho
 have HUB:=J (Pt ho).1
 have VH:=J (show ¬ (Value.slice uA un uc).ownBlock=some mb from fun q=>Rx.Ib Ws.out ho _ q (.inl rfl))
 have kY:=J (show ∀ k,(Value.slice uA un uc).ownBlock=some k→Wc.heap.size≤k from fun k q=>(ho.lt k q).1)
 have xq:=J (show ¬ (Value.slice uA un uc).ownBlock=some ab from fun q=>by have h1:=kY.out ab q;have h2:=HA3.out;omega)
 clear hm ho
 refine gM (fun wz=>Kept (fun i=>(Value.slice uA un uc).ownBlock=some i) wr wz) [(0,2),(1,2),(2,2),(3,2),(4,1),(5,2),(6,2),(7,2),(8,2),(9,1),(10,2),(11,0),(12,0),(13,2),(14,2),(15,0)] ?_;refine gN ?_
 have yd:Ext wr wr.drew:=(kR _ wr).drew
 (repeat first|refine cu ?_|refine dL (Kept.ext yd) zb5 ?_|refine dK (Kept.ext yd) ?_)
 (refine aC (fun K hK=>?_);go_simp)
 revert hK
 revert K
 revert yd
 revert xq
 revert kY
 revert VH
 revert HUB
 revert CV
 revert sS
 revert uc
 revert un
 revert uA
 exact QQ.out) : G := h g
theorem alT {G G' : Prop} (g : G') (h : G' → G := by
 intro qq
 have QQ := Go.Lib.hid qq
 clear qq
 have Cg:=J (show aH (putAt w5 sb 0 (aN pc (some ⟨g5,0,none⟩) (bO p) c5 halt)) sb 49 (aN pc (some ⟨g5,0,none⟩) (bO p) c5 halt) from aH.gL Cc.out 0 _)
 revert Cg
 exact QQ.out) : G := h g
theorem F3 {G G' : Prop} (g : G') (h : G' → G := by
 intro qq
 have QQ := Go.Lib.hid qq
 clear qq
 have yd:KT x.B x.wm W1 W1.drew:=KT.ext (kR _ W1).drew
 (refine aC (fun K hK=>?_);go_simp)
 revert hK
 revert K
 revert yd
 exact QQ.out) : G := h g
theorem alU {G G' : Prop} (g : G') (h : G' → G := by
 intro qq
 have QQ := Go.Lib.hid qq
 clear qq
 have HY:=J (show Ext w (putAt wA g 0 #[.int .i64 0,.int .i64 0,.int .i64 (k.params.n:Nat),.int .i64 1,.int .i64 0]) from yA.trans' hkp (fun i hi e=>by have:=HG.out;omega))
 revert HY
 exact QQ.out) : G := h g
theorem yU {G G' : Prop} (g : G') (h : G' → G := by
 intro qq
 have QQ := Go.Lib.hid qq
 clear qq
 have jM:=h.ext y1
 have hX1:=hX.kt (KT.ext (B:=x.B) (wm:=x.wm) y1) h.hN h.hB
 revert hX1
 revert jM
 exact QQ.out) : G := h g
theorem Zc {G G' : Prop} (g : G') (h : G' → G := by
 intro qq
 have QQ := Go.Lib.hid qq
 clear qq
 have xB:=xB
 rw [← hR] at xB
 have Ae:=J hR
 have yX:=J xB
 obtain ⟨uA,un,uc,hm,-⟩:=xB.box
 have sS:=J hm
 have i1:=bC hm
 have i2:=hm.lt
 have HD6:=J (Nt.out.ext jc.out)
 have j1:=bH HD6.out
 have j2:=aH.bF HD6.out
 have j3:=HD6.out.lt
 clear xB hm
 revert j3
 revert j2
 revert j1
 revert HD6
 revert i2
 revert i1
 revert sS
 revert uc
 revert un
 revert uA
 revert yX
 revert Ae
 exact QQ.out) : G := h g
theorem aiE {G G' : Prop} (g : G') (h : G' → G := by
 intro qq
 have QQ := Go.Lib.hid qq
 clear qq
 have hnl:BL j=true→False:=fun h=>by
  exact amc
 have hQ:∀ c a w,QL Q BL j (.panic c) (a.put oi.dst v) w→QL Q BL j (.panic c) a w:=fun c a w h=>by
  unfold QL at h ⊢
  rw [if_neg (fun e=>hnl e)] at h
  exact h.elim
 have h2:=wpOp_putIf hoj (hfree j oj hoj hji hjun hnot) (fun cs b=>hsel i oi cs b hi) (fun cs b=>hsel j oj cs b hoj) hQ hy h1
 have hfree':∀ k ok,ops[k]?=some ok→k ≠ i→(listed.setIfInBounds j true).getD k true=false →
  (∀ e ∈ ok.after,Region.binds md e=true→e.on ≠ i)→oi.apart ops ok=true:=fun k ok hk hki hun hno=>by
  refine hfree k ok hk hki ?_ hno
  by_cases hjk:j=k
  ·subst hjk;exact hjun
  ·rw [getD_set_ne true hjk] at hun;exact hun
 revert hfree'
 revert h2
 revert hQ
 revert hnl
 exact QQ.out) : G := h g
theorem Zd {G G' : Prop} (g : G') (h : G' → G := by
 intro qq
 have QQ := Go.Lib.hid qq
 clear qq
 rintro e w7 ⟨y7,RF⟩
 have lX:=J y7
 have E9:=J (yX.out.ext y7)
 have Hz:=J (show w.heap.size≤w6.heap.size from jc.out.size)
 clear y7
 have l4:=bH E9.out
 have l5:=aH.bF E9.out
 have l6:=E9.out.lt
 revert l6
 revert l5
 revert l4
 revert Hz
 revert E9
 revert lX
 revert RF
 revert w7
 revert e
 exact QQ.out) : G := h g
theorem Vs {G G' : Prop} (g : G') (h : G' → G := by
 intro qq
 have QQ := Go.Lib.hid qq
 clear qq
 have KL:=J (show iO w0 N lA l.len l from ⟨rfl,n2,bl,ol,a2,hl⟩)
 have KX:=J (show iO w0 N xA x.len x from ⟨rfl,n3,bx,ox,a3,Az⟩)
 revert KX
 revert KL
 exact QQ.out) : G := h g
theorem alV {G G' : Prop} (g : G') (h : G' → G := by
 intro qq
 have QQ := Go.Lib.hid qq
 clear qq
 have hkp:Kept (·=g) wA (putAt wA g 0 #[.int .i64 0,.int .i64 0,.int .i64 (k.params.n:Nat),.int .i64 1,.int .i64 0]):=Kept.putAt (kR _ _) _ 0 _ (fun _=>rfl)
 revert hkp
 exact QQ.out) : G := h g
theorem aiF {G G' : Prop} (g : G') (h : G' → G := by
 intro qq
 have QQ := Go.Lib.hid qq
 clear qq
 obtain ⟨⟨sA,sn,sc⟩,hs⟩:∃ s,s=za (⟨p.name,p.seats,⟨kA,j,kc⟩,⟨vA,vn,vc⟩,cs,⟨tA,tn,tc⟩,⟨A,n,cc⟩,jG,p.silent,cq,⟨zA,zn,zc⟩⟩:Pc) i:=⟨_,rfl⟩
 have hpt:=(iY.out.ext HXB.out dR.out).part i
 have hac:=Uw (⟨p.name,p.seats,⟨kA,j,kc⟩,⟨vA,vn,vc⟩,cs,⟨tA,tn,tc⟩,⟨A,n,cc⟩,jG,p.silent,cq,⟨zA,zn,zc⟩⟩:Pc) i hlt
 rw [← hs] at hpt hac
 have HSS:=J hpt
 have HAC:=J (show (qO (⟨p.name,p.seats,⟨kA,j,kc⟩,⟨vA,vn,vc⟩,cs,⟨tA,tn,tc⟩,⟨A,n,cc⟩,jG,p.silent,cq,⟨zA,zn,zc⟩⟩:Pc))[i]?=some (Value.slice sA sn sc) from hac)
 clear hs hpt hac
 obtain ⟨f,hf⟩:∃ f,f=mg p i:=⟨_,rfl⟩
 revert hf
 revert f
 revert HAC
 revert HSS
 revert sc
 revert sn
 revert sA
 exact QQ.out) : G := h g
theorem afl {G G' : Prop} (g : G') (h : G' → G := by
 intro qq
 have QQ := Go.Lib.hid qq
 clear qq
 refine LY ?_
 have y9:Ext W1 (w4.alloc (.cells (nN none 0 0 c b wm 0 sm em) 160)):=(y4).alloc _
 have Au:=bN w4 160 (nN none 0 0 c b wm 0 sm em)
 have hml:W1.heap.size≤w4.heap.size:=(y4).size
 have ya:Ext w4 (w4.alloc (.cells (nN none 0 0 c b wm 0 sm em) 160)):=(kR (fun _=>False) w4).alloc _
 revert ya
 revert hml
 revert Au
 revert y9
 exact QQ.out) : G := h g
theorem abP {G G' : Prop} (g : G') (h : G' → G := by
 intro qq
 have QQ := Go.Lib.hid qq
 clear qq
 refine (Mq c p A n k l name N _ (Nat.le_trans dR.out dF.out.size) (iY.out.ext dF.out dR.out) (HSL.out.ext dF.out)).mono ?_
 rintro e w2 ⟨rfl,hx2⟩
 rw [← HV.out]
 have dF:=J (dF.out.trans hx2)
 clear hx2
 revert dF
 revert w2
 exact QQ.out) : G := h g
theorem afm {G G' : Prop} (g : G') (h : G' → G := by
 intro qq
 have QQ := Go.Lib.hid qq
 clear qq
 (repeat first|refine cu ?_|refine dL ⟨KT.ext (Kept.drew (kR _ _)),_,(lQ.out).drew⟩ zb4 ?_|refine dK ⟨KT.ext (Kept.drew (kR _ _)),_,(lQ.out).drew⟩ ?_)
 have MJ:KT x.B x.wm W1 W1.drew:=KT.ext (kR _ W1).drew
 have H_:=J (lQ.out).drew
 (refine aC (fun K hK=>?_);go_simp)
 revert hK
 revert K
 revert H_
 revert MJ
 exact QQ.out) : G := h g
theorem alW {G G' : Prop} (g : G') (h : G' → G := by
 intro qq
 have QQ := Go.Lib.hid qq
 clear qq
 have pW:b0 < W1.heap.size:=Nat.lt_of_lt_of_le (Nat.lt_of_lt_of_le JN.out dR.out) (HY.out).size
 revert pW
 exact QQ.out) : G := h g
theorem M5 {G G' : Prop} (g : G') (h : G' → G := by
 intro qq
 have QQ := Go.Lib.hid qq
 clear qq
 rintro e w1 ⟨rfl,hm1,hk1⟩
 have JX:=J ((Y0.out).trans hk1)
 have eY:=J hm1
 have Hr:=J hk1
 clear hm1 hk1
 revert Hr
 revert eY
 revert JX
 revert w1
 exact QQ.out) : G := h g
theorem abQ {G G' : Prop} (g : G') (h : G' → G := by
 intro qq
 have QQ := Go.Lib.hid qq
 clear qq
 have VL:=J (qB HI.out e 0 kK.out)
 obtain ⟨v0,hv0⟩:∃ v0,v0=ev x.p.vars R e 0:=⟨_,rfl⟩
 rw [← hv0]
 rw [← hv0] at VL
 have j4:=J hv0
 clear hv0
 have HX:=J (HY.out.trans hx)
 have eY:=J (HM.out.ext hx)
 revert eY
 revert HX
 revert j4
 revert VL
 revert v0
 exact QQ.out) : G := h g
theorem Ze {G G' : Prop} (g : G') (h : G' → G := by
 intro qq
 have QQ := Go.Lib.hid qq
 clear qq
 refine gM (fun wz=>Ext w wz) [(0,2),(1,2),(2,2),(3,1),(4,2),(5,2),(6,2),(7,1),(8,2),(9,2),(10,0),(11,2),(12,0)] ?_;refine gN ?_
 exact QQ.out) : G := h g
theorem Zf {G G' : Prop} (g : G') (h : G' → G := by
 intro qq
 have QQ := Go.Lib.hid qq
 clear qq
 rintro e w5 ⟨rfl,hx5⟩
 have kX:=J (eX.out.trans hx5)
 have CZ:=J (Nat.le_trans E_.out kX.out.size)
 have wE:=J (ZR.out.ext kX.out E_.out)
 have xI:=J (HR3.out.ext hx5)
 revert xI
 revert wE
 revert CZ
 revert kX
 revert hx5
 revert w5
 exact QQ.out) : G := h g
theorem afn {G G' : Prop} (g : G') (h : G' → G := by
 intro qq
 have QQ := Go.Lib.hid qq
 clear qq
 (refine dz (fun K hK=>?_);go_simp)
 have y1:Ext wr (wr.alloc (.cells #[.int .i64 0,.string ⟨#[]⟩] 60)).drew:=((kR _ wr).alloc _).drew
 refine hK.out _ _ (fun _=>y1) ?_
 clear hK K
 generalize hW1:(wr.alloc (.cells #[.int .i64 0,.string ⟨#[]⟩] 60)).drew=W1 at y1 ⊢
 revert y1
 revert hW1
 revert W1
 exact QQ.out) : G := h g
theorem afo {G G' : Prop} (g : G') (h : G' → G := by
 intro qq
 have QQ := Go.Lib.hid qq
 clear qq
 have b3:=b3
 rw [← hnb] at b3 ⊢
 have B3:=J b3
 have Y3:=J (Y2.out.trans y3)
 have fP:=J hnb
 have i1:=bC (bX B2.out y3)
 have i2:=(bX B2.out y3).lt
 have j1:=bC (bX H7.out Y3.out)
 have j2:=(bX H7.out Y3.out).lt
 have l1:=bH (bX H4.out Y3.out)
 have l2:=bG (bX H4.out Y3.out)
 have l3:=(bX H4.out Y3.out).lt
 clear b3
 revert l3
 revert l2
 revert l1
 revert j2
 revert j1
 revert i2
 revert i1
 revert fP
 revert Y3
 revert B3
 exact QQ.out) : G := h g
theorem alX {G G' : Prop} (g : G') (h : G' → G := by
 intro qq
 have QQ := Go.Lib.hid qq
 clear qq
 have ks:Kept (·=sb) w5 (putAt w5 sb 0 (aN pc (some ⟨g5,0,none⟩) (bO p) c5 halt)):=Kept.putAt (kR _ _) _ 0 _ (fun _=>rfl)
 revert ks
 exact QQ.out) : G := h g
theorem M6 {G G' : Prop} (g : G') (h : G' → G := by
 intro qq
 have QQ := Go.Lib.hid qq
 clear qq
 (repeat first|refine cu ?_|refine dL HZ0.out aio ?_|refine dK HZ0.out ?_)
 exact QQ.out) : G := h g
theorem Zg {G G' : Prop} (g : G') (h : G' → G := by
 intro qq
 have QQ := Go.Lib.hid qq
 clear qq
 have m1:=m0.lt
 have m0:=bC m0
 have u0:=lJ ((KT.ext y1).trans Y0.out) fP.out Fe.out FD.out FC.out
 have FR:=u0.1
 have FT:=u0.2.1
 have FU:=u0.2.2
 clear u0
 revert FU
 revert FT
 revert FR
 revert m0
 revert m1
 exact QQ.out) : G := h g
theorem Vt {G G' : Prop} (g : G') (h : G' → G := by
 intro qq
 have QQ := Go.Lib.hid qq
 clear qq
 have HM:=J (h.ext y1)
 have HN:=J hn
 have HH:=J hh
 have HI:=J hI
 have kK:=J hc
 have hN0:=Nat.le_trans h.hN h.hB
 have dR:=J hN0
 have qZ:=J hE.2.1
 revert qZ
 revert dR
 revert hN0
 revert kK
 revert HI
 revert HH
 revert HN
 revert HM
 exact QQ.out) : G := h g
theorem alY {G G' : Prop} (g : G') (h : G' → G := by
 intro qq
 have QQ := Go.Lib.hid qq
 clear qq
 have yA:Ext w (w.alloc (.cells #[.int .i64 0,.int .i64 0,.int .i64 0,.int .i64 0,.int .i64 0] 62)).drew:=((kR _ w).alloc _).drew
 revert yA
 exact QQ.out) : G := h g
theorem Zh {G G' : Prop} (g : G') (h : G' → G := by
 intro qq
 have QQ := Go.Lib.hid qq
 clear qq
 have HPY:=J (ZR.out.ext eX.out E_.out)
 have i1:=bH (lN.out.ext eX.out)
 have i2:=bG (lN.out.ext eX.out)
 have i3:=(lN.out.ext eX.out).lt
 revert i3
 revert i2
 revert i1
 revert HPY
 exact QQ.out) : G := h g
theorem alZ {G G' : Prop} (g : G') (h : G' → G := by
 intro qq
 have QQ := Go.Lib.hid qq
 clear qq
 have oO:=J (wD.out.kept ks (fun e=>by have h1:=wD.out.ge;have h2:=ZT.out.lt;have h3:w3.drew.heap.size=w3.heap.size:=rfl;omega))
 revert oO
 exact QQ.out) : G := h g
theorem Zi {G G' : Prop} (g : G') (h : G' → G := by
 intro qq
 have QQ := Go.Lib.hid qq
 clear qq
 (repeat first|refine cu ?_|refine dL (Kept.drew (kR _ _)) alO ?_|refine dK (Kept.drew (kR _ _)) ?_)
 exact QQ.out) : G := h g
theorem afp {G G' : Prop} (g : G') (h : G' → G := by
 intro qq
 have QQ := Go.Lib.hid qq
 clear qq
 have fZ:=J (show X=ay (target κ k name low) (ay (lu κ es) none) by
  have hn:named κ k name low high aQ=target κ k name low:=by unfold named;rw [if_pos aj]
  have h:=fZ.out
  rw [hn,if_neg aj,if_neg aj] at h
  exact h)
 revert fZ
 exact QQ.out) : G := h g
theorem Zj {G G' : Prop} (g : G') (h : G' → G := by
 intro qq
 have QQ := Go.Lib.hid qq
 clear qq
 have b0:dx (w.alloc (.map #[] 0)) w.heap.size (fun _=>none):=dx.made w
 have y0:Ext w (w.alloc (.map #[] 0)):=(kR _ w).alloc _
 revert y0
 revert b0
 exact QQ.out) : G := h g
theorem afq {G G' : Prop} (g : G') (h : G' → G := by
 intro qq
 have QQ := Go.Lib.hid qq
 clear qq
 have hz:∀ w,(sizeOf 21).run Tryz.prog w=.ok 1 w:=fun w=>wX bT w
 have ht':Tryz.prog.underlying 27=some (.slice (Tryz.prog.elem 27)):=by simp [Program.elem,Tryz.underlying27]
 have he:Tryz.prog.elem 27=21:=by simp [Program.elem,Tryz.underlying27]
 revert he
 revert ht'
 revert hz
 exact QQ.out) : G := h g
theorem afr {G G' : Prop} (g : G') (h : G' → G := by
 intro qq
 have QQ := Go.Lib.hid qq
 clear qq
 have o1:=bC nC.out
 have o2:=nC.out.lt
 have o3:=aH.frozen nC.out
 have fP:=J (fun (e:s5.v.ownBlock=some ob)=>dI HO5.out (E':=38) ak ob e _ _ nC.out)
 have J8:=J (fun (e:s5.v.ownBlock=some (sb+1))=>dI HO5.out (E':=38) ak (sb+1) e _ _ xI.out)
 revert J8
 revert fP
 revert o3
 revert o2
 revert o1
 exact QQ.out) : G := h g
theorem Zk {G G' : Prop} (g : G') (h : G' → G := by
 intro qq
 have QQ := Go.Lib.hid qq
 clear qq
 obtain ⟨hin,bI,hA,OH,Fh⟩:=HIN.out
 have FL:=wL (V:=V) (Ar:=Ar) HF.out HK.out HV.out.2.1 HA.out.2.1
 have hml:=qL HF.out HK.out
 (refine aC (fun K hK=>?_);go_simp)
 revert hK
 revert K
 revert hml
 revert FL
 revert Fh
 revert OH
 revert hA
 revert bI
 revert hin
 exact QQ.out) : G := h g
theorem abR {G G' : Prop} (g : G') (h : G' → G := by
 intro qq
 have QQ := Go.Lib.hid qq
 clear qq
 have hk:Rows.uptoBulkAll ([d0,d1,d2] ++ gs)≤1048576:=of_decide_eq_true hk
 simp only [List.cons_append,Rows.uptoBulkAll] at hk
 obtain ⟨hLA,hOA⟩:=XV hL (KU hS)
 revert hOA
 revert hLA
 revert hk
 exact QQ.out) : G := h g
theorem M7 {G G' : Prop} (g : G') (h : G' → G := by
 intro qq
 have QQ := Go.Lib.hid qq
 clear qq
 have HZ1:=J (HZ0.out.trans hx1)
 refine hK.out _ _ (fun _=>HZ1.out) ?_
 refine gI ?_
 revert HZ1
 exact QQ.out) : G := h g
theorem Zl {G G' : Prop} (g : G') (h : G' → G := by
 intro qq
 have QQ := Go.Lib.hid qq
 clear qq
 refine hcall.mono ?_
 rintro e w6 ⟨rfl,xB,xw⟩
 have jc:=J (kX.out.trans' xw (fun i hi q=>by have:=Rx.SB xI.out i q;simp only at this;omega))
 revert jc
 revert xw
 revert xB
 revert w6
 exact QQ.out) : G := h g
theorem afs {G G' : Prop} (g : G') (h : G' → G := by
 intro qq
 have QQ := Go.Lib.hid qq
 clear qq
 have y2:=y1.alloc (.cells #[.int .i64 0,.string ⟨#[]⟩] 60)
 have oQ:=bN w1 60 #[.int .i64 0,.string ⟨#[]⟩]
 refine hK.out _ _ (fun _=>y2) ?_
 generalize hW2:w1.alloc (.cells #[.int .i64 0,.string ⟨#[]⟩] 60)=W2 at y2 oQ ⊢
 clear hW2
 revert oQ
 revert y2
 revert W2
 exact QQ.out) : G := h g
theorem abS {G G' : Prop} (g : G') (h : G' → G := by
 intro qq
 have QQ := Go.Lib.hid qq
 clear qq
 rintro e w2 ⟨rfl,hm2,hk2⟩
 have YK:=(MJ).trans hk2
 have iF:=J hm2
 clear hm2 hk2
 refine hK.out _ _ (fun _=>⟨YK,_,(iF.out)⟩) ?_
 refine gI ?_
 have ZW:=J ((Y0.out).trans YK)
 revert ZW
 revert iF
 revert YK
 revert w2
 exact QQ.out) : G := h g
theorem aiG {G G' : Prop} (g : G') (h : G' → G := by
 intro qq
 have QQ := Go.Lib.hid qq
 clear qq
 (repeat (first | refine zS ?_ | ((apply ig);(· exact bU.out);(· go_simp);(· (intro w1 hS;have d0:=bX oK.out hS;have d1:=bC d0;have d2:=d0.lt;have e0:=bX sS.out hS;have e1:=bH e0;have e2:=bG e0;have e3:=bC e0;have e4:=e0.lt; go_simp;try with_reducible rfl));refine tO ?_) | ((apply h_);(· exact bU.out);(· go_simp);refine tO ?_)))
 exact QQ.out) : G := h g
theorem abT {G G' : Prop} (g : G') (h : G' → G := by
 intro qq
 have QQ := Go.Lib.hid qq
 clear qq
 have vK:=J (show F=3 from by
  have hl:=xq.out
  have hpn:=Ca.out
  rw [HF.out];unfold dO
  rw [if_neg aj,if_pos (Or.inr (by rw [zu.out];omega))])
 revert vK
 exact QQ.out) : G := h g
theorem abU {G G' : Prop} (g : G') (h : G' → G := by
 intro qq
 have QQ := Go.Lib.hid qq
 clear qq
 refine gM (fun w1=>Ext W w1) [(0,2),(1,1),(2,0),(3,2),(4,2),(5,1),(6,2),(7,2),(8,1),(9,2),(10,1),(11,2),(12,2),(13,0)] ?_;refine gN ?_
 exact QQ.out) : G := h g
theorem aiH {G G' : Prop} (g : G') (h : G' → G := by
 intro qq
 have QQ := Go.Lib.hid qq
 clear qq
 (refine dz (fun K hK=>?_);go_simp)
 have yl:Ext w9 (wd.alloc (.cells #[.int .i64 0,.slice none 0 0,.int .i64 0] 49)):=(yd).alloc _
 refine hK.out _ _ (fun _=>yl) ?_
 clear hK K
 have bb:=bN wd 49 #[.int .i64 0,.slice none 0 0,.int .i64 0]
 have xl:Ext wd (wd.alloc (.cells #[.int .i64 0,.slice none 0 0,.int .i64 0] 49)):=(kR _ wd).alloc _
 generalize (wd.alloc (.cells #[.int .i64 0,.slice none 0 0,.int .i64 0] 49))=wl at yl bb xl ⊢
 generalize hbn:(wd:World).heap.size=bn at bb ⊢
 revert bb
 revert hbn
 revert bn
 revert xl
 revert yl
 revert wl
 exact QQ.out) : G := h g
theorem QY {G G' : Prop} (g : G') (h : G' → G := by
 intro qq
 have QQ := Go.Lib.hid qq
 clear qq
 have hx0:=(kR (fun _=>False) w).alloc (.cells c.cells 26)
 have hB:=bN w 26 c.cells
 revert hB
 revert hx0
 exact QQ.out) : G := h g
theorem abV {G G' : Prop} (g : G') (h : G' → G := by
 intro qq
 have QQ := Go.Lib.hid qq
 clear qq
 have HF:=J hf
 have HC:=J hc
 have uS:=J hl
 have HST:=J hs
 have HK:=J hk
 have gD:=J (tF.of hc HZ.out)
 have i1:=bH (HB.out.ext eH.out)
 have i2:=bG (HB.out.ext eH.out)
 have i3:=(HB.out.ext eH.out).lt
 revert i3
 revert i2
 revert i1
 revert gD
 revert HK
 revert HST
 revert uS
 revert HC
 revert HF
 exact QQ.out) : G := h g
theorem Vy {G G' : Prop} (g : G') (h : G' → G := by
 intro qq
 have QQ := Go.Lib.hid qq
 clear qq
 rintro e w1 ⟨rfl,hx1⟩
 have dX:=J (bU.out.trans hx1)
 clear hx1
 refine hK.out _ _ (fun _=>dX.out) ?_
 revert dX
 revert w1
 exact QQ.out) : G := h g
theorem Vz {G G' : Prop} (g : G') (h : G' → G := by
 intro qq
 have QQ := Go.Lib.hid qq
 clear qq
 refine ku rfl ?_
 refine Lib.wp_append_run _ _ _ _ _ rfl _ _ rfl rfl _ _ hrun ?_
 exact QQ.out) : G := h g
theorem aiI {G G' : Prop} (g : G') (h : G' → G := by
 intro qq
 have QQ := Go.Lib.hid qq
 clear qq
 refine gM (fun w2=>Ext w1 w2) [(0,2),(1,2),(2,1),(12,2),(13,1),(3,0),(4,2),(5,2),(6,2),(7,2),(8,1),(9,1),(10,2),(11,2),(14,0)] ?_;refine gN ?_
 have HZ0:=J (show Ext w1 w1.drew from (kR _ w1).drew)
 (repeat first|refine cu ?_|refine dL HZ0.out aeY ?_|refine dK HZ0.out ?_)
 (refine aC (fun K hK=>?_);go_simp)
 refine (mD cb g κ E0 0 x.name _ (sP.out.ext (HZW.out.trans (fH.out.trans HZ0.out)))).mono ?_
 revert hK
 revert K
 revert HZ0
 exact QQ.out) : G := h g
theorem Zm {G G' : Prop} (g : G') (h : G' → G := by
 intro qq
 have QQ := Go.Lib.hid qq
 clear qq
 have c1:=bC J4.out
 have c2:=J4.out.lt
 have c3:=aH.frozen J4.out
 refine gI ?_
 clear c1 c2 c3
 exact QQ.out) : G := h g
theorem abW {G G' : Prop} (g : G') (h : G' → G := by
 intro qq
 have QQ := Go.Lib.hid qq
 clear qq
 refine gM (fun w1=>Ext W w1) [(0,2),(1,1),(2,0),(3,2),(4,2),(5,2),(6,1),(7,2),(8,2),(9,1),(10,0),(11,2),(12,2)] ?_;refine gN ?_
 exact QQ.out) : G := h g
theorem aiJ {G G' : Prop} (g : G') (h : G' → G := by
 intro qq
 have QQ := Go.Lib.hid qq
 clear qq
 
 refine gM (fun w2=>Ext w1 w2) [(0,2),(1,1),(2,2),(3,1),(4,0),(5,2),(6,2),(7,1),(8,2),(9,2),(10,2),(11,1),(12,0),(13,2)] ?_;refine gN ?_
 have HZ0:=J (show Ext w1 w1.drew from (kR _ w1).drew)
 (repeat first|refine cu ?_|refine dL HZ0.out aeW ?_|refine dK HZ0.out ?_)
 (refine aC (fun K hK=>?_);go_simp)
 refine (yw p.vars x.name vA vn vc N _ (iY.out.ext (dF.out.trans HZ0.out) dR.out).vars).mono ?_
 revert hK
 revert K
 revert HZ0
 exact QQ.out) : G := h g
theorem Zo {G G' : Prop} (g : G') (h : G' → G := by
 intro qq
 have QQ := Go.Lib.hid qq
 clear qq
 have hE4:Ext W3 wr ∨ True:=Or.inr trivial
 clear hE4
 have hcr:Q_ wr ex st:=tH.out.kept HK.out HES.out.1 HES.out.2
 revert hcr
 exact QQ.out) : G := h g
theorem abX {G G' : Prop} (g : G') (h : G' → G := by
 intro qq
 have QQ := Go.Lib.hid qq
 clear qq
 have oN:∀ (fn:Fn) (first cap:Array Value) (w:World),(Instr.makeFunc fn first cap).run Tryz.prog w=.ok (.func fn first cap) w:=fun _ _ _ _=>rfl
 revert oN
 exact QQ.out) : G := h g
theorem M8 {G G' : Prop} (g : G') (h : G' → G := by
 intro qq
 have QQ := Go.Lib.hid qq
 clear qq
 have hK:=(yu x f W hM κ F).2
 obtain ⟨h0,h1,h2,h3⟩:=id hM
 have hdp:=hX.dp_
 have fP:=J (And.intro h.hN h.hB)
 revert fP
 revert hdp
 revert h3
 revert h2
 revert h1
 revert h0
 revert hK
 exact QQ.out) : G := h g
theorem M9 {G G' : Prop} (g : G') (h : G' → G := by
 intro qq
 have QQ := Go.Lib.hid qq
 clear qq
 have hrow:=(HE.out aj).2.ext HX.out
 obtain ⟨hh',hg'⟩:=mZ hrow j hjl
 have hbw:=hrow.lt
 revert hbw
 revert hg'
 revert hh'
 revert hrow
 exact QQ.out) : G := h g
theorem VA {G G' : Prop} (g : G') (h : G' → G := by
 intro qq
 have QQ := Go.Lib.hid qq
 clear qq
 rintro e w2 ⟨rfl,hm2,hk2⟩
 have Ci:=J ((JX.out).trans hk2)
 have iF:=J hm2
 have zq:=J hk2
 clear hm2 hk2
 revert zq
 revert iF
 revert Ci
 revert w2
 exact QQ.out) : G := h g
theorem abY {G G' : Prop} (g : G') (h : G' → G := by
 intro qq
 have QQ := Go.Lib.hid qq
 clear qq
 have y3:=(kR (fun _=>False) w2).alloc (.cells #[.int .i64 0,.string ⟨#[]⟩] 60)
 have hV:=bN w2 60 #[.int .i64 0,.string ⟨#[]⟩]
 revert hV
 revert y3
 exact QQ.out) : G := h g
theorem ET {G G' : Prop} (g : G') (h : G' → G := by
 intro qq
 have QQ := Go.Lib.hid qq
 clear qq
 have bU:=J (show Ext W W.drew from (kR _ W).drew)
 revert bU
 exact QQ.out) : G := h g
theorem abZ {G G' : Prop} (g : G') (h : G' → G := by
 intro qq
 have QQ := Go.Lib.hid qq
 clear qq
 have vK:=J (show F=3 from by
  have hl:=xu.out
  rw [HF.out];unfold dO
  rw [if_neg aj,if_pos (Or.inl (by rw [HW.out];omega))])
 revert vK
 exact QQ.out) : G := h g
theorem Nc {G G' : Prop} (g : G') (h : G' → G := by
 intro qq
 have QQ := Go.Lib.hid qq
 clear qq
 (repeat refine cu ?_)
 (refine eu bT bT (fun K hK=>?_);go_simp)
 revert hK
 revert K
 exact QQ.out) : G := h g
theorem Zp {G G' : Prop} (g : G') (h : G' → G := by
 intro qq
 have QQ := Go.Lib.hid qq
 clear qq
 have kY:=J hbig
 have hr:=bK HRC.out EY.out aj
 have l4:=bH hr
 have l5:=aH.bF hr
 have l6:=hr.lt
 have HR:=J hr
 clear hr
 revert HR
 revert l6
 revert l5
 revert l4
 revert kY
 exact QQ.out) : G := h g
theorem ama {G G' : Prop} (g : G') (h : G' → G := by
 intro qq
 have QQ := Go.Lib.hid qq
 clear qq
 have BS:=gH HY.out (Nat.lt_of_lt_of_le JN.out dR.out) VF.out
 revert BS
 exact QQ.out) : G := h g
theorem aft {G G' : Prop} (g : G') (h : G' → G := by
 intro qq
 have QQ := Go.Lib.hid qq
 clear qq
 have q4:=bK (bX H4.out Y3.out) KM.out HQ.out.1
 have q7:=bK (bX H7.out Y3.out) KM.out HQ.out.2.1
 have i1:=bC q7
 have i2:=q7.lt
 have i3:=bH q4
 have i4:=bG q4
 have i5:=q4.lt
 clear q4 q7
 revert i5
 revert i4
 revert i3
 revert i2
 revert i1
 exact QQ.out) : G := h g
theorem acd {G G' : Prop} (g : G') (h : G' → G := by
 intro qq
 have QQ := Go.Lib.hid qq
 clear qq
 have y3:=(kR (fun _=>False) w2).alloc (.cells #[.int .i64 fe,.string fn] 60)
 have hV:=bN w2 60 #[.int .i64 fe,.string fn]
 revert hV
 revert y3
 exact QQ.out) : G := h g
theorem amb {G G' : Prop} (g : G') (h : G' → G := by
 intro qq
 have QQ := Go.Lib.hid qq
 clear qq
 have Nq:=J (show wr.cell? ⟨cb,0,none⟩=some (.int .i64 (cells p.vars)) from bC Br.out 0)
 revert Nq
 exact QQ.out) : G := h g
theorem QZ {G G' : Prop} (g : G') (h : G' → G := by
 intro qq
 have QQ := Go.Lib.hid qq
 clear qq
 (refine aC (fun K hK=>?_);go_simp)
 refine (mP _ _ _ _).mono ?_
 revert hK
 revert K
 exact QQ.out) : G := h g
theorem afu {G G' : Prop} (g : G') (h : G' → G := by
 intro qq
 have QQ := Go.Lib.hid qq
 clear qq
 refine QJ bT (fun K hK=>?_)
 refine uo rfl ?_
 refine EM _ _ _ _ _ rfl rfl rfl rfl rfl hrun ?_
 refine hK.out _ _ ?_
 clear hK K
 refine gI ?_
 exact QQ.out) : G := h g
theorem afv {G G' : Prop} (g : G') (h : G' → G := by
 intro qq
 have QQ := Go.Lib.hid qq
 clear qq
 refine dz (fun K hK=>?_)
 refine ku rfl ?_
 refine Lib.wp_append_run _ _ _ _ _ rfl _ _ rfl rfl _ _ hr3 ?_
 refine hK.out _ _ (fun _=>y3) ?_
 clear hK K
 exact QQ.out) : G := h g
theorem afw {G G' : Prop} (g : G') (h : G' → G := by
 intro qq
 have QQ := Go.Lib.hid qq
 clear qq
 rintro W1 vb ⟨ye,hvb⟩
 have Af:=J hvb
 have Rc:=J (Y0.out.trans (KT.ext (B:=x.B) (wm:=x.wm) ye))
 have eY:=J (EZ.out.ext ye)
 have YVB:=J (KT.refl x.B x.wm W1)
 clear ye hvb
 have q0:=KT.block Rc.out HB.out ak ak
 have i1:=bC q0
 have i2:=q0.lt
 revert i2
 revert i1
 revert q0
 revert YVB
 revert eY
 revert Rc
 revert Af
 revert vb
 revert W1
 exact QQ.out) : G := h g
theorem Zq {G G' : Prop} (g : G') (h : G' → G := by
 intro qq
 have QQ := Go.Lib.hid qq
 clear qq
 have kp:Kept (·=rb) w7 (putAt w7 rb 0 fu.c):=Kept.putAt (kR _ _) _ 0 _ (fun _=>rfl)
 revert kp
 exact QQ.out) : G := h g
theorem ER {G G' : Prop} (g : G') (h : G' → G := by
 intro qq
 have QQ := Go.Lib.hid qq
 clear qq
 have fq:=bX HD.out dF.out
 have hmr:=fq.bF
 have iw:=bH fq
 have hlr:=fq.lt
 revert hlr
 revert iw
 revert hmr
 revert fq
 exact QQ.out) : G := h g
theorem aiz {G G' : Prop} (g : G') (h : G' → G := by
 intro qq
 have QQ := Go.Lib.hid qq
 clear qq
 have HB:=HB
 have HY:=HY
 generalize (putAt wA g 0 #[.int .i64 0,.int .i64 0,.int .i64 (k.params.n:Nat),.int .i64 1,.int .i64 0])=w4 at HB HY ⊢
 revert HY
 revert HB
 revert w4
 exact QQ.out) : G := h g
theorem acP {G G' : Prop} (g : G') (h : G' → G := by
 intro qq
 have QQ := Go.Lib.hid qq
 clear qq
 refine hK.out _ _ ?_
 refine gI ?_
 have eX:=J (fH.out.trans HZ0.out)
 go_upto_region 8 with (fail)
 generalize hW3:W2.drew=W3 at eX ⊢
 clear hW3
 refine gM (fun w1=>Ext W3 w1) [(0,2),(1,2),(2,2),(3,1),(4,2),(5,1),(6,1),(7,2),(8,2),(9,1),(10,2),(11,2),(12,2),(13,1),(14,0)] ?_;refine gN ?_
 have tK:=J (show Ext W3 W3.drew from (kR _ W3).drew)
 revert tK
 revert eX
 revert W3
 exact QQ.out) : G := h g
theorem Bn {G G' : Prop} (g : G') (h : G' → G := by
 intro qq
 have QQ := Go.Lib.hid qq
 clear qq
 (refine aC (fun K hK=>?_);go_simp)
 refine (lD _).mono ?_
 revert hK
 revert K
 exact QQ.out) : G := h g
theorem aiA {G G' : Prop} (g : G') (h : G' → G := by
 intro qq
 have QQ := Go.Lib.hid qq
 clear qq
 have bA:=(bN w 62 #[.int .i64 0,.int .i64 0,.int .i64 0,.int .i64 0,.int .i64 0]).drew
 revert bA
 exact QQ.out) : G := h g
theorem MO {G G' : Prop} (g : G') (h : G' → G := by
 intro qq
 have QQ := Go.Lib.hid qq
 clear qq
 (repeat first|refine cu ?_|refine dL j4.out Vf ?_|refine dK j4.out ?_)
 exact QQ.out) : G := h g
theorem MP {G G' : Prop} (g : G') (h : G' → G := by
 intro qq
 have QQ := Go.Lib.hid qq
 clear qq
 (repeat first|refine cu ?_|refine dL tK.out ail ?_|refine dK tK.out ?_)
 exact QQ.out) : G := h g
theorem MQ {G G' : Prop} (g : G') (h : G' → G := by
 intro qq
 have QQ := Go.Lib.hid qq
 clear qq
 (repeat first|refine cu ?_|refine dL bU.out afb ?_|refine dK bU.out ?_)
 exact QQ.out) : G := h g
theorem ES {G G' : Prop} (g : G') (h : G' → G := by
 intro qq
 have QQ := Go.Lib.hid qq
 clear qq
 have q0:=KT.block Y0.out HB.out ak ak
 have i1:=bC q0
 have i2:=q0.lt
 revert i2
 revert i1
 revert q0
 exact QQ.out) : G := h g
theorem MR {G G' : Prop} (g : G') (h : G' → G := by
 intro qq
 have QQ := Go.Lib.hid qq
 clear qq
 rintro e w3 ⟨rfl,Rz,hk3⟩
 have N9:=J ((Ci.out).trans hk3)
 have pY:=J Rz
 have J7:=J hk3
 clear Rz hk3
 revert J7
 revert pY
 revert N9
 revert w3
 exact QQ.out) : G := h g
theorem MU {G G' : Prop} (g : G') (h : G' → G := by
 intro qq
 have QQ := Go.Lib.hid qq
 clear qq
 have kp:Kept (·=rb) w7 (putAt w7 rb 0 v.c):=Kept.putAt (kR _ _) _ 0 _ (fun _=>rfl)
 revert kp
 exact QQ.out) : G := h g
theorem YZ {G G' : Prop} (g : G') (h : G' → G := by
 intro qq
 have QQ := Go.Lib.hid qq
 clear qq
 have nA:=nA
 have hfl:wr.heap.size≤wr.heap.size:=Nat.le_refl _
 generalize Ir:(wr.heap.size:Nat)=fb at nA hfl ⊢
 have qZ:=J (show wr.heap.size≤fb by omega)
 clear hfl Ir
 have dX:=J y1
 (repeat refine zS ?_)
 revert dX
 revert qZ
 revert nA
 revert fb
 exact QQ.out) : G := h g
theorem MV {G G' : Prop} (g : G') (h : G' → G := by
 intro qq
 have QQ := Go.Lib.hid qq
 clear qq
 (repeat first|refine cu ?_|refine dL tK.out zb2 ?_|refine dK tK.out ?_)
 exact QQ.out) : G := h g
theorem aiB {G G' : Prop} (g : G') (h : G' → G := by
 intro qq
 have QQ := Go.Lib.hid qq
 clear qq
 have yA:=yA
 have bA:=bA
 generalize (w.alloc (.cells #[.int .i64 0,.int .i64 0,.int .i64 0,.int .i64 0,.int .i64 0] 62)).drew=wA at yA bA ⊢
 revert bA
 revert yA
 revert wA
 exact QQ.out) : G := h g
theorem acQ {G G' : Prop} (g : G') (h : G' → G := by
 intro qq
 have QQ := Go.Lib.hid qq
 clear qq
 refine gM (fun wz=>Ext w9 wz) [(0,0),(1,2),(2,2),(3,2),(4,2),(5,2),(6,2),(7,2),(8,2),(9,2),(10,2),(11,2),(12,1),(14,1),(13,0),(15,0),(16,2),(17,2),(18,2),(19,2),(20,2),(21,2),(22,1),(23,2),(24,2),(25,2),(26,2),(27,2)] ?_;refine gN ?_
 have yd:Ext w9 w9.drew:=(kR _ w9).drew
 revert yd
 exact QQ.out) : G := h g
theorem acR {G G' : Prop} (g : G') (h : G' → G := by
 intro qq
 have QQ := Go.Lib.hid qq
 clear qq
 refine gM (fun w1=>Ext W w1) [(0,2),(1,2),(2,2),(3,2),(4,2),(5,2),(6,2),(7,1),(8,2),(9,2),(10,2),(11,2),(12,2),(13,2),(14,2),(15,2),(16,2),(17,1),(18,2),(19,1),(20,2),(21,2),(22,2),(23,2),(24,2),(25,1),(26,2),(27,0),(28,2),(29,2)] ?_;refine gN ?_
 exact QQ.out) : G := h g
theorem acS {G G' : Prop} (g : G') (h : G' → G := by
 intro qq
 have QQ := Go.Lib.hid qq
 clear qq
 have y3:=y2.alloc (.cells #[.string ⟨#[]⟩,.int .i64 0,.int .i64 0,.int .i64 0] 66)
 have oQ:=bN Ve 66 #[.string ⟨#[]⟩,.int .i64 0,.int .i64 0,.int .i64 0]
 refine hK.out _ _ (fun _=>y3) ?_
 generalize hW2:Ve.alloc (.cells #[.string ⟨#[]⟩,.int .i64 0,.int .i64 0,.int .i64 0] 66)=W2 at y3 oQ ⊢
 clear hW2
 revert oQ
 revert y3
 revert W2
 exact QQ.out) : G := h g
theorem Sr {G G' : Prop} (g : G') (h : G' → G := by
 intro qq
 have QQ := Go.Lib.hid qq
 clear qq
 have HZ1:=J (HZ0.out.trans hx4)
 refine hK.out _ _ (fun _=>HZ1.out) ?_
 refine gI ?_
 have dF:=J (eX.out.trans HZ1.out)
 revert dF
 revert HZ1
 exact QQ.out) : G := h g
theorem aiC {G G' : Prop} (g : G') (h : G' → G := by
 intro qq
 have QQ := Go.Lib.hid qq
 clear qq
 have jc:=J ((eX.out.trans kX.out).trans' ks (fun i hi e=>by have:=Bv.out;omega))
 revert jc
 exact QQ.out) : G := h g
theorem Sv {G G' : Prop} (g : G') (h : G' → G := by
 intro qq
 have QQ := Go.Lib.hid qq
 clear qq
 have l1:=bH SA.out
 have l2:=bG SA.out
 have l3:=SA.out.lt
 have l4:=bH Wp.out
 have l5:=aH.bF Wp.out
 have l6:=Wp.out.lt
 revert l6
 revert l5
 revert l4
 revert l3
 revert l2
 revert l1
 exact QQ.out) : G := h g
theorem acT {G G' : Prop} (g : G') (h : G' → G := by
 intro qq
 have QQ := Go.Lib.hid qq
 clear qq
 refine (Mq c p A n k l s N _ (Nat.le_trans hN (hx0.trans (HX0.out.trans ys)).size) (HP.out.ext (hx0.trans (HX0.out.trans ys)) hN) (HL.out.ext (hx0.trans (HX0.out.trans ys)))).mono ?_
 rintro e w1 ⟨rfl,hxs⟩
 obtain ⟨v,hv⟩:∃ v,v=aU (fB p.vars) l s:=⟨_,rfl⟩
 rw [← hv]
 have HV:=J hv
 have yt:=ys.trans hxs
 have aaE:=bC (bX hE0.out yt)
 revert aaE
 revert yt
 revert HV
 revert hv
 revert v
 revert hxs
 revert w1
 exact QQ.out) : G := h g
theorem Y5 {G G' : Prop} (g : G') (h : G' → G := by
 intro qq
 have QQ := Go.Lib.hid qq
 clear qq
 refine gM (fun w1=>Ext W3 w1) [(0,2),(1,2),(2,2),(3,1),(4,2),(5,1),(6,1),(7,2),(8,2),(9,2),(10,1),(11,0)] ?_;refine gN ?_
 exact QQ.out) : G := h g
theorem Y6 {G G' : Prop} (g : G') (h : G' → G := by
 intro qq
 have QQ := Go.Lib.hid qq
 clear qq
 obtain ⟨d1,p1,g1,k1,l1⟩:=hf 1 _ rfl
 replace k1:DataW.trod enc Tryz.prog w base (fun _=>true) held m 3 ((cs.drop 1).take (Tryz.prog.cellsOf 3))=some (d1,p1):=k1
 rw [mR] at k1
 revert k1
 revert l1
 revert g1
 revert p1
 revert d1
 exact QQ.out) : G := h g
theorem MW {G G' : Prop} (g : G') (h : G' → G := by
 intro qq
 have QQ := Go.Lib.hid qq
 clear qq
 refine alX ?_;intro ks
 refine alT ?_;intro Cg
 have yX:=J (bK xI.out ks alR)
 refine alZ ?_;intro oO
 refine aiC ?_;intro jc
 clear ks
 generalize (putAt w5 sb 0 (aN pc (some ⟨g5,0,none⟩) (bO p) c5 halt))=w6 at Cg yX oO jc ⊢
 revert jc
 revert oO
 revert yX
 revert Cg
 revert w6
 exact QQ.out) : G := h g
theorem Bo {G G' : Prop} (g : G') (h : G' → G := by
 intro qq
 have QQ := Go.Lib.hid qq
 clear qq
 have u0:=iB HY.out (Nat.lt_of_lt_of_le JN.out dR.out) VG.out
 refine ama ?_;intro BS
 refine alW ?_;intro pW
 revert pW
 revert BS
 revert u0
 exact QQ.out) : G := h g
theorem MX {G G' : Prop} (g : G') (h : G' → G := by
 intro qq
 have QQ := Go.Lib.hid qq
 clear qq
 refine gI ?_
 refine alV ?_;intro hkp
 refine alS ?_;intro HB
 refine alU ?_;intro HY
 clear hkp
 refine aiz ?_;clear HB HY;intro w4 HB HY
 revert HY
 revert HB
 revert w4
 exact QQ.out) : G := h g
theorem MZ {G G' : Prop} (g : G') (h : G' → G := by
 intro qq
 have QQ := Go.Lib.hid qq
 clear qq
 refine alY ?_;intro yA
 refine hK.out _ _ (fun _=>yA) ?_
 refine aiA ?_;intro bA
 refine aiB ?_;clear yA bA;intro wA yA bA
 revert bA
 revert yA
 revert wA
 exact QQ.out) : G := h g
theorem M_ {G G' : Prop} (g : G') (h : G' → G := by
 intro qq
 have QQ := Go.Lib.hid qq
 clear qq
 obtain ⟨o0,n0,s0,K0,A0,c0,sM,sN,Cy,O_,Gv,Gu,O5,OX,OW⟩:=oz hK hX.kids hX.Rm (tw:=(0:Int)) ak aj (j:=0) hl0
 refine Vo ?_;clear Gv Gu O5 OX OW O_;intro FD FC BD Bz Dq Fe
 revert Fe
 revert Dq
 revert Bz
 revert BD
 revert FC
 revert FD
 revert Cy
 revert sN
 revert sM
 revert c0
 revert A0
 revert K0
 revert s0
 revert n0
 revert o0
 exact QQ.out) : G := h g
theorem M0 {G G' : Prop} (g : G') (h : G' → G := by
 intro qq
 have QQ := Go.Lib.hid qq
 clear qq
 have Nw:=J (HPJ.out.kept qg.out alP (fun i e=>by have:=E_.out;omega))
 refine amb ?_;intro Nq
 revert Nq
 revert Nw
 exact QQ.out) : G := h g
theorem Bp {G G' : Prop} (g : G') (h : G' → G := by
 intro qq
 have QQ := Go.Lib.hid qq
 clear qq
 obtain ⟨hn,hf,b,off,hA,hE⟩:=id h
 refine Ab ?_;intro hm HN HA HE
 have HI:=J IH
 clear hn hA hE hf
 revert HI
 revert HE
 revert HA
 revert HN
 revert hm
 revert off
 revert b
 exact QQ.out) : G := h g
end Go.Proofs.YtbfbabbcdochjaaGreatDoor
