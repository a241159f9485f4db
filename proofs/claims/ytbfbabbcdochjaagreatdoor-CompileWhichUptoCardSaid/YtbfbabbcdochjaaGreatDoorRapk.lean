/- Ends of proofs that stand more than once, each as a theorem with a default proof, run where it is used. -/
import Derived.WalkKit
import Derived.WalkSpells
import Derived.WalkLawsBesides
import Derived.RegionTactic
import Derived.BigRegion
import Derived.Deep.QuietTactic
import Derived.BigQuiet
import Derived.Outline
import Derived.Lib.Hide
import Derived.Deep.RegionWith
import Derived.Deep.LoopGhost
import Derived.Deep.DeepCutAuto
import Derived.StillTailTactics
import Derived.Deep.RegionHeld3
namespace Go.Proofs.YtbfbabbcdochjaaGreatDoor
theorem zhd {p : Prop} (h : p) : Go.RowKit.Hid p := Go.Lib.hid h
theorem qs3 {G G' : Prop} (g : G') (h : G' → G := by (intro qq; have QQ := Go.Lib.hid qq; clear qq; (first | ((apply w3_pure); (· go_simp); (· (intro w1; go_simp; try with_reducible rfl))) | ((apply w3_skip); (· go_simp)) | fail); (intro K hK; go_simp; refine hK _ _ ?_; clear hK K); exact QQ.out)) : G := h g
theorem qs4 {G G' : Prop} (g : G') (h : G' → G := by (intro qq; have QQ := Go.Lib.hid qq; clear qq; (first | ((apply w4_pure); (· go_simp); (· (intro w1; go_simp; try with_reducible rfl))) | ((apply w4_skip); (· go_simp)) | fail); (intro K hK; go_simp; refine hK _ _ ?_; clear hK K); exact QQ.out)) : G := h g
theorem qs5 {G G' : Prop} (g : G') (h : G' → G := by (intro qq; have QQ := Go.Lib.hid qq; clear qq; (first | ((apply w5_pure); (· go_simp); (· (intro w1; go_simp; try with_reducible rfl))) | ((apply w5_skip); (· go_simp)) | fail); (intro K hK; go_simp; refine hK _ _ ?_; clear hK K); exact QQ.out)) : G := h g
theorem qnx {G G' : Prop} (g : G') (h : G' → G := by (intro qq; have QQ := Go.Lib.hid qq; clear qq; (intro K hK; go_simp; refine hK _ _ ?_; clear hK K); exact QQ.out)) : G := h g
theorem qls {G G' : Prop} (g : G') (h : G' → G := by (intro qq; have QQ := Go.Lib.hid qq; clear qq; (refine wpList_step (fun K hK => ?_); go_simp; (try go_bits); refine hK _ _ ?_; clear hK K); exact QQ.out)) : G := h g
theorem qrl {G G' : Prop} (g : G') (h : G' → G := by (intro qq; have QQ := Go.Lib.hid qq; clear qq; intro l' hl'; simp only [List.map_cons, List.map_nil, List.getD_cons_zero, List.getD_cons_succ] at hl'; subst hl'; exact QQ.out)) : G := h g
theorem qrp {G G' : Prop} (g : G') (h : G' → G := by (intro qq; have QQ := Go.Lib.hid qq; clear qq; intro p' hp'; simp only [Pl0.fill, List.getD_cons_zero, List.getD_cons_succ] at hp'; subst hp'; exact QQ.out)) : G := h g
theorem qf3 {G G' : Prop} (g : G') (h : G' → G := by (intro qq; have QQ := Go.Lib.hid qq; clear qq; (repeat (first | (refine qs3 ?_) | (refine w3_end (by kernel_rfl) (fun K hK => ?_); go_simp; refine hK.out _ _ ?_; clear hK K) | fail)); refine w3_nil ?_; exact QQ.out)) : G := h g
theorem qf4 {G G' : Prop} (g : G') (h : G' → G := by (intro qq; have QQ := Go.Lib.hid qq; clear qq; (repeat (first | (refine qs4 ?_) | (refine w4_end (by kernel_rfl) (fun K hK => ?_); go_simp; refine hK.out _ _ ?_; clear hK K) | fail)); refine w4_nil ?_; exact QQ.out)) : G := h g
theorem qf5 {G G' : Prop} (g : G') (h : G' → G := by (intro qq; have QQ := Go.Lib.hid qq; clear qq; (repeat (first | (refine qs5 ?_) | (refine w5_end (by kernel_rfl) (fun K hK => ?_); go_simp; refine hK.out _ _ ?_; clear hK K) | fail)); refine w5_nil ?_; exact QQ.out)) : G := h g
theorem zz6 {G : Prop} (h : G := by
 intro KEY0
 have KEY:=zhd KEY0
 clear KEY0
 refine qr4 (fun wz=>SM x f W W1 wz) (.op 0 2 (.op 1 2 (.op 2 2 (.op 3 1 (.op 4 2 (.op 5 1 (.fork 6 (.op 7 2 (.op 8 2 (.op 9 2 (.op 10 2 (.op 11 0 (.op 12 2 (.op 13 0 (.op 14 2 .nil)))))))) 11 (.op 6 0 (.op 7 2 (.op 8 2 (.op 9 2 (.op 10 2 (.op 12 2 (.op 13 0 (.op 14 2 .nil))))))))))))))) ?_;refine qrp ?_
 have HY0:=zhd (show Ext W1 W1.drew from (Kept.refl _ W1).drew)
 (repeat (first | refine qs4 ?_ | ((apply w4_take);(· exact ⟨KT.ext HY0.out,_,HMr.out.ext HY0.out⟩);(· go_simp);(· (intro w1 hS;have d0:=KT.block hS.1 HBr.out (by decide) (by decide);have d1:=Blk.cell d0;have d2:=d0.lt;obtain ⟨L',hm'⟩:=hS.2;obtain ⟨A',n',cp',hb',_⟩:=hm'.blk;have d3:=Blk.cell hb';have d4:=hb'.lt;have d5:=MS.look hm';have d6:=Blk.has hb';have d7:=Blk.gets hb'; go_simp;try with_reducible rfl));refine qnx ?_) | ((apply w4_pass);(· exact ⟨KT.ext HY0.out,_,HMr.out.ext HY0.out⟩);(· go_simp);refine qnx ?_)))
 refine w4_fork ?_ ?_
 ·(refine w4_act (fun K hK=>?_);go_simp)
  go_wp2_with fail
  refine (scell_any x.c x.p s x.N _ (Nat.le_trans hs0 HY0.out.size) (HMr.out.ext HY0.out).prog).mono ?_
  rintro e w1 ⟨rfl,hx1⟩
  have y2:=HY0.out.trans hx1
  refine hK.out _ _ (fun _=>⟨KT.ext y2,_,HMr.out.ext y2⟩) ?_
  clear hK K
  (repeat refine qs4 ?_)
  (refine w4_act (fun K hK=>?_);go_simp)
  have y3:=y2.alloc (.cells #[.string ⟨#[]⟩,.int .i64 0,.int .i64 0,.int .i64 0] 109)
  have hfb:=Blk.new w1 109 #[.string ⟨#[]⟩,.int .i64 0,.int .i64 0,.int .i64 0]
  refine hK.out _ _ (fun _=>⟨KT.ext y3,_,HMr.out.ext y3⟩) ?_
  clear hK K
  generalize hW2:w1.alloc (.cells #[.string ⟨#[]⟩,.int .i64 0,.int .i64 0,.int .i64 0] 109)=W2 at y3 hfb ⊢
  clear hW2
  have hfl:(W1:World).heap.size≤w1.heap.size:=y2.size
  generalize w1.heap.size=fb at hfb hfl ⊢
  have hmf:=hfb.melts
  have hhf:=Blk.has hfb
  (repeat refine qs4 ?_)
  (refine w4_act (fun K hK=>?_);go_simp)
  have y4:=y3.putAt fb 0 (vcells (cellX x.p.vars s)) (fun hlt=>absurd hlt (by omega))
  have hf4:Blk (putAt W2 fb 0 (vcells (cellX x.p.vars s))) fb 109 (vcells (cellX x.p.vars s)):=Blk.put_ hfb 0 (vcells (cellX x.p.vars s))
  refine hK.out _ _ (fun _=>⟨KT.ext y4,_,HMr.out.ext y4⟩) ?_
  clear hK K hmf hhf
  refine qf4 ?_
  generalize putAt W2 fb 0 (vcells (cellX x.p.vars s))=W3 at y4 hf4 ⊢
  exact KEY.out _ _ ⟨y4,hf4⟩
 ·(refine w4_act (fun K hK=>?_);go_simp)
  have y1':Ext W1 (W1.alloc (.cells #[.string ⟨#[]⟩,.int .i64 0,.int .i64 0,.int .i64 0] 109)).drew:=((Kept.refl _ W1).alloc _).drew
  refine hK.out _ _ (fun _=>⟨KT.ext y1',_,HMr.out.ext y1'⟩) ?_
  clear hK K
  generalize hWx:(W1.alloc (.cells #[.string ⟨#[]⟩,.int .i64 0,.int .i64 0,.int .i64 0] 109)).drew=Wx at y1' ⊢
  have hfb1:Blk Wx W1.heap.size 109 #[.string ⟨#[]⟩,.int .i64 0,.int .i64 0,.int .i64 0]:=by rw [← hWx];exact Blk.drew (Blk.new W1 _ _)
  clear hWx
  have hfl:(W1:World).heap.size≤W1.heap.size:=Nat.le_refl _
  generalize hfbe:(W1.heap.size:Nat)=fb at hfb1 hfl ⊢
  have HFL:=zhd (show (W1:World).heap.size≤fb by omega)
  clear hfl hfbe
  have HY1:=zhd y1'
  (repeat refine qs4 ?_)
  (refine w4_act (fun K hK=>?_);go_simp)
  go_wp2_with fail
  refine (scell_any x.c x.p s x.N _ (Nat.le_trans hs0 HY1.out.size) (HMr.out.ext HY1.out).prog).mono ?_
  rintro e w1 ⟨rfl,hx1⟩
  have y2:=HY1.out.trans hx1
  refine hK.out _ _ (fun _=>⟨KT.ext y2,_,HMr.out.ext y2⟩) ?_
  clear hK K y1'
  have hfb2:=Blk.ext hfb1 hx1
  have hmf:=hfb2.melts
  have hhf:=Blk.has hfb2
  (repeat refine qs4 ?_)
  (refine w4_act (fun K hK=>?_);go_simp)
  have y4:=y2.putAt fb 0 (vcells (cellX x.p.vars s)) (fun hlt=>absurd hlt (by have:=HFL.out;omega))
  have hf4:Blk (putAt w1 fb 0 (vcells (cellX x.p.vars s))) fb 109 (vcells (cellX x.p.vars s)):=Blk.put_ hfb2 0 (vcells (cellX x.p.vars s))
  refine hK.out _ _ (fun _=>⟨KT.ext y4,_,HMr.out.ext y4⟩) ?_
  clear hK K hmf hhf
  refine qf4 ?_
  generalize putAt w1 fb 0 (vcells (cellX x.p.vars s))=W3 at y4 hf4 ⊢
  exact KEY.out _ _ ⟨y4,hf4⟩) : G := h
theorem zz10 {G : Prop} (h : G := by
 go_wp2_with fail
 go_loopw [56] (fun t56 wr=>∃ (j:Nat) (R:EF),j+R.len=kn∧chkE κ R=r∧t56=.int .i64 j∧EFAt w0 N0 R b (off+j * 4)∧EF.All (ExSC cb κ w0) R∧Ext W wr) (fun t56 _=>kn - (intOf t56).toNat)
 case atStart=>exact ⟨0,F,by rw [HN.out,Nat.zero_add],HEQ.out,rfl,by simpa using HE.out,HI.out,ys⟩
 case round =>
  obtain ⟨j,R,hj,hacc,rfl,hR,hI,hx⟩:=hrel
  have HRR:=zhd hR
  have HI2:=zhd hI
  have HX:=zhd hx
  have HACC:=zhd hacc
  clear hR hI hx hacc
  cases R with
  | nil =>
   simp only [EF.len,Nat.add_zero] at hj
   subst hj
   have hr0:r=none:=by rw [← HACC.out];rfl
   have HR0:=zhd hr0
   clear hr0
   go_wp2_with fail
   go_end0
   exact ⟨by rw [HXR.out,HR0.out];rfl,HX0.out.trans HX.out⟩
  | cons op' m' name' q rr =>
   obtain ⟨hb,h1,h2,h3,⟨A',cap,b',off',hh,hg,hl,hA',hk⟩,hr⟩:=HRR.out
   simp only [EF.len] at hj
   have hlt:(j:Int) < kn:=by omega
   obtain rfl:=HA.out (by omega)
   have hx0r:=hx0.trans (HX0.out.trans HX.out)
   have hbl:=hx0r.size
   have hh':=has_ext hx0r (by omega) hh
   have hg':=gets_ext hx0r (by omega) hg
   have hbw:b < wr.heap.size:=by omega
   have KE:=zhd (show ESl w0 N0 A' q.len q from ⟨rfl,hl,b',off',hA',hk⟩)
   have IK:=zhd HI2.out.1
   have HX0r:=zhd hx0r
   have HR2:=zhd hr
   clear hh hg hl hA' hk h1 h2 h3 HRR hbl hx0r hr
   go_wp2_with fail
   have y0:Ext wr _:=(Kept.refl _ wr).alloc (.cells (ecells op' m' name' A' q.len cap) 200)
   obtain ⟨f,hf⟩:∃ f,f=chk1 κ op' m' name' q:=⟨_,rfl⟩
   have HF:=zhd hf
   have HK:=zhd (IK.out op' m' name' A' q.len cap N0 _ (HX0r.out.trans y0) hN0 KE.out)
   rw [← hf] at HK
   clear hf
   refine HK.out.mono ?_
   rintro e w1 ⟨he,hx1⟩
   cases f with
   | none =>
    have he:=MustR.none he
    subst he
    have HNX:=zhd (show chkE κ rr=r by have h:=HACC.out;rw [chkE_cons,← HF.out] at h;exact h)
    go_wp2_with fail
    go_roundw
    case rel=>exact ⟨j+1,rr,by omega,HNX.out,by go_num,by rw [Nat.add_mul,← Nat.add_assoc];exact HR2.out,HI2.out.2,HX.out.trans (y0.trans hx1)⟩
    case measure=>simp only [intOf];omega
   | some f =>
    have he:=MustR.some he
    subst he
    have HRF:=zhd (show X=some f by have h:=HACC.out;rw [chkE_cons,← HF.out] at h;rw [HXR.out,← h];rfl)
    show _∧_
    exact ⟨rfl,by rw [HRF.out];exact ⟨rfl,HX0.out.trans (HX.out.trans (y0.trans hx1))⟩⟩) : G := h
theorem zz12 {G : Prop} (h : G := by
 clear HTX
 obtain ⟨aq,nq,cq,m0,mo⟩:=(HMa.out).blk
 have m1:=m0.lt
 have m0:=Blk.cell m0
 clear mo
 go_wp2_with fail
 obtain ⟨hsn,hsf,sb,so,hsA,hsE⟩:=HS.out
 have hsl0:SSl w N A F.len F:=⟨rfl,by rw [← hsn];exact hsf,sb,so,fun h=>hsA (by rw [hsn];exact h),hsE⟩
 have hsl:=(hsl0.kept HWX.out (by rw [HPB.out];exact hN) (fun _ f=>f.elim)).kt HKa.out hNB hlB.out
 subst hsn
 refine (mblock_any ⟨B,N,mb,p,c,b,wm,sm,em⟩ part F 0 (topW p b part) κ true A cap [] _ ⟨hbb.1,hbb.2,fun s=>(HW0.out s).1,fun s=>(HW0.out s).2⟩ HWz.out (by omega) HMa.out hsl HC.out hz (by have:=HL.out;show 0+(cB ⟨p.vars,p.seats,b⟩ F (topW p b part) 0 0).length≤4000;omega)).mono ?_
 rintro e wb ⟨rfl,hmb,hkb⟩
 have HMb:=zhd (show MS wb B N mb p c b wm sm em 0 (topW p b part) (cB ⟨p.vars,p.seats,b⟩ F (topW p b part) 0 0) from hmb)
 have HKb:=zhd (HKa.out.trans (show KT B wm _ wb from hkb))
 clear hmb hkb m0 m1 hsf hsA hsE hsl hsl0
 go_wp2_with fail
 refine (put_any B N mb wm sm em 0 p c b (topW p b part) (cB ⟨p.vars,p.seats,b⟩ F (topW p b part) 0 0) ⟨0,0,0,0⟩ ⟨(by show i64ok 0;unfold i64ok;omega),(by show i64ok 0;unfold i64ok;omega),(by show i64ok 0;unfold i64ok;omega),(by show i64ok 0;unfold i64ok;omega)⟩ (by have:=HL.out;omega) _ HMb.out).mono ?_
 rintro e wz ⟨rfl,hmz,hkz⟩
 have HKz:=zhd (HKb.out.trans hkz)
 obtain ⟨az,nz,cz,z0,zo⟩:=hmz.blk
 have z1:=z0.lt
 have z0:=Blk.cell z0
 have HOK:=zhd hmz.okL
 have HZO:=zhd zo
 clear hmz hkz zo
 go_wp2_with fail
 go_ret
 refine ⟨az,nz,cz,?_,?_,?_,HOK.out⟩
 ·rfl
 ·exact HWX.out.trans' (HKz.out.below) (fun i hi e=>by have:=HNW.out;have:=HPB.out;omega)
 ·rw [HPB.out,HNW.out];exact HZO.out) : G := h
theorem zz15 {G : Prop} (h : G := by
 go_wp2_with fail
 refine qr3 (fun w1=>Kept (·=w.heap.size+1) wr w1) [(0,1),(1,2),(2,2),(3,1),(4,2),(5,0),(6,2),(7,2)] ?_;refine qrl ?_
 (repeat (first | refine qs3 ?_ | ((apply w3_take);(· exact (Kept.drew (Kept.refl _ _)));(· go_simp);(· (intro w1 hS;have d0:=Blk.kept hA hS (show ¬ w.heap.size=w.heap.size+1 by omega);have d1:=Blk.cell d0;have d2:=Blk.has d0;have d3:=Blk.gets d0; go_simp;try with_reducible rfl));refine qnx ?_) | ((apply w3_pass);(· exact (Kept.drew (Kept.refl _ _)));(· go_simp);refine qnx ?_)))
 (refine w3_act (fun K hK=>?_);go_simp)
 refine hK.out _ _ (fun h=>Kept.putAt h _ _ _ (fun _=>rfl)) ?_
 clear hK K
 refine qf3 ?_
 have hR5:Blk (putAt wr (w.heap.size+1) 0 (stCells pc' (some ⟨g,0,none⟩) n kc halt')).drew (w.heap.size+1) 49 (stCells pc' (some ⟨g,0,none⟩) n kc halt'):=Blk.put_ hRr _ _
 have y5:Ext w (putAt wr (w.heap.size+1) 0 (stCells pc' (some ⟨g,0,none⟩) n kc halt')).drew:=(Kept.putAt yr _ _ _ (fun h=>by omega)).drew
 have hM5:MemAt (putAt wr (w.heap.size+1) 0 (stCells pc' (some ⟨g,0,none⟩) n kc halt')).drew w.heap.size g n kc m':=hM.kept ((Kept.putAt (S:=(·=w.heap.size+1)) (Kept.refl _ wr) _ _ _ (fun _=>rfl)).drew) (by omega)
 go_wp2_with fail
 refine ret_cii Tryz.results26 rfl rfl aggMst (by exact sizeMst) hR5 ?_
 exact FIN.out _ hR5 hM5 y5) : G := h
theorem zz16 {G : Prop} (h : G := by
 have HC:=zhd hcall
 clear h hX hf hcall
 go_enter Tryz.func163,Tryz.ntmps163
 go_upto_region 1 with (fail)
 generalize (w.alloc (.cells (ecells op n s A F.len kc) 200))=W1 at y1 hB0 hMS hX1 ⊢
 generalize (w:World).heap.size=g at hB0 ⊢
 have HB:=zhd hB0
 have HX:=zhd hX1
 have HM:=zhd hMS
 clear hMS hB0 hX1
 refine qr3 (fun w2=>Ext W1 w2) [(0,2),(1,2),(2,2),(3,1),(4,2),(5,1),(6,1),(7,2),(8,2),(9,2),(10,2),(11,2)] ?_;refine qrl ?_
 have y2:Ext W1 W1.drew:=(Kept.refl _ W1).drew
 (repeat (first | refine qs3 ?_ | ((apply w3_take);(· exact y2);(· go_simp);(· (intro w1 hS;have d0:=Blk.ext HB.out hS;have d1:=Blk.cell d0;have d2:=d0.lt;have hm':=HM.out.ext hS;obtain ⟨A',n',cp',hb',_⟩:=hm'.blk;have d3:=Blk.cell hb';have d4:=hb'.lt;have d5:=look_expr hm'.tabE op HF.out.1 HF.out.2; go_simp;try with_reducible rfl));refine qnx ?_) | ((apply w3_pass);(· exact y2);(· go_simp);refine qnx ?_)))
 refine qf3 ?_
 have HB2:=Blk.ext HB.out y2
 have i1:=Blk.has HB2
 have i2:=Blk.gets HB2
 have i3:=HB2.lt
 clear HB2
 go_wp2_with fail
 refine (HC.out _ (HM.out.ext y2) (HX.out.kt (KT.ext (B:=x.B) (wm:=x.wm) y2) HM.out.hN HM.out.hB)).mono ?_
 rintro e w2 ⟨rfl,hm2,hk2⟩
 go_wp2_with fail
 refine results_none' Tryz.results163 rfl ?_
 exact ⟨rfl,hm2,(KT.ext (y1.trans y2)).trans hk2⟩) : G := h
theorem zz17 {G : Prop} (h : G := by
 rw [e6] at hb6
 clear e6 hk2 hk3
 have HB6:=zhd hb6
 have HK6:=zhd (Kept.trans (Kept.ext (S:=(·=g)) yd) hk6)
 clear hb6 hk6 yd
 refine w3_end (by kernel_rfl) (fun K hK=>?_)
 refine if_want' rfl ?_
 refine Lib.wp_copy_run _ _ _ _ _ rfl _ _ rfl rfl (hr6 _) ?_
 refine hK.out _ _ ?_
 clear hK K hr6
 refine qf3 ?_
 have hs6:=Blk.kept HS5.out HK6.out hgs
 have hr6:=Blk.kept (Blk.kept HB4.out HK5.out (by have:=HRL.out;omega)) HK6.out (by have:=HRL.out;omega)
 have l1:=Blk.has hs6
 have l2:=Blk.gets hs6
 have l3:=hs6.lt
 have l4:=Blk.has hr6
 have l5:=Blk.melts hr6
 have l6:=hr6.lt
 have HR6:=zhd hr6
 have HST:=zhd hs6
 clear hr6 hs6
 go_wp2_with fail
 have kp:Kept (·=rb) w6 (putAt w6 rb 0 #[.int .i64 0,.slice (some ⟨g,0,none⟩) (memN p) (memN p),.int .i64 0]):=Kept.putAt (Kept.refl _ _) _ 0 _ (fun _=>rfl)
 refine ret_ci (t:=49) (g:=rb) (cs:=stCells 0 (some ⟨g,0,none⟩) (memN p) (memN p) 0) Tryz.results19 rfl rfl aggMst (by exact sizeMst) (by exact Blk.put_ HR6.out 0 _) ⟨?_,.ok HF0.out g HGE.out (Blk.kept HB6.out kp (by have:=HRL.out;omega))⟩
 exact ((HY0.out.trans HY2.out).trans HY4.out).trans' (((HK5.out.trans HK6.out).mono (S':=fun i=>i=g ∨ i=rb) (fun _ _ e=>Or.inl e)).trans' kp (fun i hi e=>Or.inr e)) (fun i hi e=>by have h1:=HRB.out;have h2:=HGE.out;omega)) : G := h
theorem zz18 {G : Prop} (h : G := by
 refine HK.out.mono ?_
 rintro e w2 ⟨hb,hk2⟩
 have HX2:=zhd (HX.out.trans ((Kept.ext HY0.out).trans hk2))
 clear hk2 HK
 cases v with
 | none =>
  obtain ⟨he,hc2⟩:=hb
  subst he
  have HC2:=zhd hc2
  have HNX:=zhd (show chkB i κ' fors _ r=Z from HACC.out)
  clear hc2
  go_wp2_with fail
  go_roundw
  case rel=>exact ⟨m+1,r,by omega,HNX.out,by go_num,by rw [Nat.add_mul,← Nat.add_assoc];exact HR2.out,HAL.out.2.2,HC2.out,HX2.out⟩
  case measure=>simp only [intOf];omega
 | some f =>
  obtain ⟨he,mm,kk,hS2,hB2⟩:=hb
  subst he
  have HZF:=zhd (show Z=some f from HACC.out.symm)
  have HS2:=zhd hS2
  have HB2:=zhd hB2
  have hk4:=Blk.cell (Blk.kept H4B.out HX2.out HNE.out.1) 0
  have hk7:=Blk.cell (Blk.kept H7B.out HX2.out HNE.out.2) 0
  clear hS2 hB2 c4 l4
  refine leaves_cons (f:=175) (args:=#[.pointer (some ⟨p4+1,0,none⟩),.pointer (some ⟨p4,0,none⟩)]) (by simp) (by simp [go_sem]) ?_
  refine (forget_any (p4+1) p4 cb g B j bc ns mm (partName i) kk (.panicking (thr f)) p4 _ hk7 hk4 HB2.out HS2.out (HSL.out _ HX2.out)).mono ?_
  rintro e u' w3 ⟨rfl,rfl,hM3,hk3⟩
  refine ⟨?_,HWR.out.trans (HX2.out.trans (hk3.mono fun _ _ h=>Or.inl h))⟩
  rw [HZF.out]
  exact ⟨rfl,_,_,hM3,Blk.kept HB2.out hk3 HCX.out.ne⟩) : G := h
theorem zz23 {G : Prop} (h : G := by
 rw [← ht]
 have HT:=zhd ht
 clear ht
 refine qf3 ?_
 have hS3:StAt (w2.setCell ⟨g,a,none⟩ (.int .i32 (t))).drew s 49 pc (some ⟨g,0,none⟩) n kc 0:=Blk.far hS2 (p:=⟨g,a,none⟩) hsg (.int .i32 (t))
 have hM3:MemAt (w2.setCell ⟨g,a,none⟩ (.int .i32 (t))).drew base g n kc (m.set a (t)):=(hM2.set a hal (t)).ext ((Kept.refl _ _).drew)
 have hk3:Kept (fun i=>i=s ∨ i=g) w (w2.setCell ⟨g,a,none⟩ (.int .i32 (t))).drew:=(Kept.setCell (Kept.ext x2) _ _ (fun _=>.inr rfl)).drew
 generalize (w2.setCell ⟨g,a,none⟩ (.int .i32 (t))).drew=W3 at hS3 hM3 hk3 ⊢
 have hcS3:=Blk.cell hS3
 have hfS3:=Blk.frozen hS3
 go_wp2_with fail
 go_end0
 refine ⟨rfl,?_⟩
 rw [HE.out,← HT.out]
 exact Stepped.goal hk3 hS3 hM3 hsg _) : G := h
theorem zz26 {G : Prop} (h : G := by
 refine qf3 ?_
 have hS1:StAt W.drew s 49 pc (some ⟨g,off,none⟩) k kc halt:=hS0
 have hc1:=Blk.cell hS1
 have hq1:-2147483648≤q:=by rw [HQ.out];omega
 have hq2:q≤2147483903:=by rw [HQ.out];omega
 clear hw1 hw0
 by_cases h1:(k:Int)≤q
 ·have b1:decide ((k:Int)≤q)=true:=by simpa using h1
  go_wp2_with fail
  go_ret
  exact ⟨ret_int (by unfold placeI;rw [if_neg (by omega)]),hx0.drew⟩
 ·have b1:decide ((k:Int)≤q)=false:=by simpa using h1
  go_wp2_with fail
  go_ret
  refine ⟨ret_int ?_,hx0.drew⟩
  unfold placeI
  by_cases h0:0≤q
  ·rw [if_pos ⟨h0,by omega⟩,Int.max_eq_left (by omega)]
  ·rw [if_neg (by omega),Int.max_eq_right (by omega)]) : G := h
theorem zz28 {G : Prop} (h : G := by
 obtain ⟨xn,xs,xl,xh⟩:=x
 by_cases hq:xh < xl
 ·have hqg:xl > xh:=hq
  go_wp2_with fail
  go_ret
  have hany:p.params.any (fun v=>decide (v.high < v.low))=true:=List.any_eq_true.2 ⟨p.params[j],List.getElem_mem hjl,by rw [← HXE.out];exact decide_eq_true hq⟩
  refine ⟨?_,HX0.out.trans (HX.out.trans y0.out)⟩
  rw [HXM.out]
  unfold menu
  rw [hany]
  rfl
 ·have hqg:¬ xl > xh:=hq
  go_wp2_with fail
  have hq2:decide (xh < xl)=false:=decide_eq_false hq
  exact ⟨⟨j+1,hlt,by go_num,by rw [List.take_add_one,List.getElem?_eq_getElem hjl,← HXE.out,List.any_append,HACC.out];simp [hq2],HX.out.trans y0.out⟩,by simp only [intOf];omega⟩) : G := h
theorem zz32 {G : Prop} (h : G := by
 have HR:=zhd (show X=none by rw [HX4.out,hv1];rfl)
 (repeat refine qs3 ?_)
 (refine w3_last (by kernel_rfl) (by kernel_rfl) (fun K hK=>?_);go_simp)
 try rw [qv2]
 refine (must_any true _ _ _).mono ?_
 rintro e w1 ⟨he,rfl⟩
 have he:=MustR.none he
 subst he
 refine hK.out _ _ ?_
 clear hK K
 refine qf3 ?_
 have hcE3:=Blk.cell (Blk.ext hE0.out (HY3.out.trans HU0.out))
 have hlE3:=(Blk.ext hE0.out (HY3.out.trans HU0.out)).lt
 go_wp2_with fail
 go_end0
 exact ⟨by rw [HR.out];rfl,HX.out⟩) : G := h
theorem zz33 {G : Prop} (h : G := by
 rw [List.length_map,List.length_range] at hfl
 refine row_of_cells _ (by rw [hfl];exact Nat.mul_pos h0 hpos) (fun j hj=>?_)
 rw [hfl] at hj
 rw [flatten_get hpos _ hlen']
 have hq:j / sz < len:=Nat.div_lt_of_lt_mul (by rw [Nat.mul_comm];exact hj)
 have hr:=(hC (j / sz) hq).2.2 (j % sz) (Nat.mod_lt _ hpos)
 rw [hsp h0,oaddr_add,oaddr_add,Nat.add_assoc] at hr
 rw [show j / sz * sz+j % sz=j by rw [Nat.mul_comm];exact Nat.div_add_mod j sz] at hr
 rw [hr]
 simp [hq]) : G := h
theorem zz34 {G : Prop} (h : G := by
 rintro e w5 ⟨rfl,hm5,hk5⟩
 rw [← HSC.out] at hm5
 refine hK.out _ _ (fun _=>⟨yd.trans hk5,_,hm5⟩) ?_
 clear hK K
 refine qf3 ?_
 have HM5:=zhd hm5
 have HK5:=zhd (HKR.out.trans (HY0.out.trans (yd.trans hk5)))
 clear hm5 hk5 yd
 go_wp2_with fail
 go_roundw
 case rel=>exact ⟨m+1,r,Lm ++ SC,by omega,HCN.out,HZN.out,by go_num,by rw [Nat.add_mul,← Nat.add_assoc];exact HRN.out,HAN.out,HM5.out,HCB.out,HK5.out⟩
 case measure=>simp only [intOf];omega) : G := h
theorem zz35 {G : Prop} (h : G := by
 rintro e w2 ⟨e2,hx2⟩
 replace e2:e=.returned (.int .i64 F):=by rw [e2,HF.out]
 subst e2
 have x2:=x1.trans hx2
 have hI2:=Blk.ext hI1 hx2
 have hS2:=Blk.ext hS1 hx2
 have hM2:=hM1.ext hx2
 clear hI1 hS1 hM1 x1 hx2 hi1 hj1
 have hcI:=Blk.cell hI2
 have hcS:=Blk.cell hS2
 have hfS:=Blk.frozen hS2
 have lI:=hI2.lt
 have lS:=hS2.lt
 go_wp2_with fail
 refine results_none' Tryz.results63 rfl ⟨rfl,?_⟩
 exact Stepped.halt (Kept.ext x2) hS2 hM2 hsg _) : G := h
theorem zz36 {G : Prop} (h : G := by
 have hi:i < (es.toList.map (·.key)).length:=by rw [List.length_map];exact (List.getElem?_eq_some_iff.1 hx).1
 have hj':j < (es.toList.map (·.key)).length:=by rw [List.length_map];exact (List.getElem?_eq_some_iff.1 h2).1
 refine (List.getElem_inj hn (h₀:=hi) (h₁:=hj')).1 ?_
 have e1:=(List.getElem?_eq_some_iff.1 hx).2
 have e2:=(List.getElem?_eq_some_iff.1 h2).2
 rw [List.getElem_map,List.getElem_map,e1,e2,hxk,h3]) : G := h
theorem zz38 {G : Prop} (h : G := by
 refine leaves_cons (f:=71) (args:=#[.pointer (some ⟨rb,0,none⟩)]) (by simp) (by simp [go_sem]) ?_
 refine (catch_panicking rb _ _ (Blk.kept HRB.out HKE.out HNE.out.2)).mono ?_
 rintro e u' w9 ⟨rfl,hu,hb9,hk9⟩
 show Leaves _ _ _ _ _ _ _
 rw [hu]
 refine ⟨_,results_cell_row Tryz.results42 _ _ rb _ _ _ _ rfl hb9 Tryz.underlying104 rfl sizeFaultS,?_⟩
 rw [HR.out]
 exact ⟨rfl,HOWN.out _ _ HKE.out hk9⟩) : G := h
theorem zz39 {G : Prop} (h : G := by
 go_upto_region 13 with (fail)
 clear i1 i2 i3 i4 i5
 go_wp2_with fail
 refine (bsum1_any nb m 0 _ HM6.out (by omega) BM.out).mono ?_
 rintro e wf ⟨rfl,bf,kf⟩
 go_wp2_with fail
 go_ret
 refine ⟨congrArg (fun z:Nat=>Ending.returned (.int .i64 z)) (by first | exact HSF.out | (rw [Nat.add_zero];exact HSF.out)),?_⟩
 exact (hwx.trans Y3.out).trans' (KM.out.trans kf) (fun i hi e=>by have:=HN3.out.2;omega)) : G := h
theorem zz40 {G : Prop} (h : G := by
 rw [qn] at HX4
 clear hvI
 (repeat refine qs3 ?_)
 (refine w3_last (by kernel_rfl) (by kernel_rfl) (fun K hK=>?_);go_simp)
 try rw [qv2]
 refine (must_any false _ _ _).mono ?_
 rintro e w1 ⟨he,rfl⟩
 have he:e=.panicked (thr ⟨11,s⟩):=he
 subst he
 have HR:=zhd (show X=some ⟨11,s⟩ by rw [HX4.out];rfl)
 show _∧_
 exact ⟨rfl,by rw [HR.out];exact ⟨rfl,HX0.out.trans (HY3.out.trans HU0.out)⟩⟩) : G := h
theorem zz42 {G : Prop} (h : G := by
 obtain ⟨es,clock,hb,_,_,_,h1 | ⟨j,e,h1,_,_,h4⟩⟩:=h.find s
 ·simp [Instr.lookup,run_underlying hu,MapKept.run_getObj_map hb,MapKept.run_checkKey hk (key_str s),MapKept.run_findKey hk h1.1,hz,Result.andThen,h1.2.1]
 ·simp [Instr.lookup,run_underlying hu,MapKept.run_getObj_map hb,MapKept.run_checkKey hk (key_str s),MapKept.run_findKey hk h1,Result.andThen,h4]) : G := h
theorem zz44 {G : Prop} (h : G := by
 obtain ⟨es,clock,hb,_,_,_,h1 | ⟨j,e,h1,_,_,h4⟩⟩:=h.find s
 ·simp [Instr.lookup,run_underlying hu,MapKept.run_getObj_map hb,MapKept.run_checkKey hk (key_int s),MapKept.run_findKey hk h1.1,hz,Result.andThen,h1.2.1]
 ·simp [Instr.lookup,run_underlying hu,MapKept.run_getObj_map hb,MapKept.run_checkKey hk (key_int s),MapKept.run_findKey hk h1,Result.andThen,h4]) : G := h
theorem zz46 {G : Prop} (h : G := by
 have HQ:=zhd hq
 clear hq
 go_wp2_with fail
 go_roundw
 case rel=>exact ⟨j+1,hlt,by go_num,by
  intro v hv
  rw [List.take_add_one,List.getElem?_eq_getElem hjl,← HX.out] at hv
  simp only [Option.toList_some,List.mem_append,List.mem_singleton] at hv
  rcases hv with hv | rfl
  ·exact HNO.out v hv
  ·exact HQ.out,by trivial⟩
 case measure=>simp only [intOf];omega) : G := h
theorem zz48 {G : Prop} (h : G := by
 go_wp2_with fail
 refine (bsum1_any nb z 0 _ HM6.out (by omega) BF.out).mono ?_
 rintro e wf ⟨rfl,bf,kf⟩
 go_wp2_with fail
 go_ret
 refine ⟨congrArg (fun z:Nat=>Ending.returned (.int .i64 z)) (by first | exact HSF.out | (rw [Nat.add_zero];exact HSF.out)),?_⟩
 exact (hwx.trans Y3.out).trans' (KF.out.trans kf) (fun i hi e=>by have:=HN3.out.2;omega)) : G := h
theorem zz52 {G : Prop} (h : G := by
 rintro e w2 ⟨rfl,hm2,hk2⟩
 have yk2:=(yd1).trans hk2
 have HM2:=zhd hm2
 clear hm2 hk2 yd1
 refine hK.out _ _ (fun _=>⟨yk2,_,(HM2.out)⟩) ?_
 clear hK K
 refine qf3 ?_
 have YR3:=zhd ((Y0.out).trans yk2)
 clear yk2 HBr
 go_wp2_with fail
 go_end0
 refine ⟨rfl,?_,(KT.ext y1).trans YR3.out⟩
 exact (HM2.out)) : G := h
theorem zz53 {G : Prop} (h : G := by
 rw [if_neg (show ¬ t=0 by omega),if_neg (show ¬ t=1 by omega),if_neg (show ¬ t=2 by omega),if_neg (show ¬ t=3 by omega),if_neg (show ¬ t=4 by omega),if_neg (show ¬ t=5 by omega),if_neg (show ¬ t=6 by omega),if_neg (show ¬ t=7 by omega),if_neg (show ¬ t=8 by omega),if_neg (show ¬ t=9 by omega)]) : G := h
theorem zz54 {G : Prop} (h : G := by
 have HR:=zhd (show X=some ⟨6,s⟩ by rw [HX4.out,qv];rfl)
 rw [qv]
 refine (must_any false _ _ _).mono ?_
 rintro e w1 ⟨he,rfl⟩
 have he:e=.panicked (thr ⟨6,s⟩):=he
 subst he
 show _∧_
 exact ⟨rfl,by rw [HR.out];exact ⟨rfl,HX0.out.trans (HY2.out.trans HZ0.out)⟩⟩) : G := h
theorem zz60 {G : Prop} (h : G := by
 (refine w3_last (by kernel_rfl) (by kernel_rfl) (fun K hK=>?_);go_simp)
 refine (must_any false _ _ _).mono ?_
 rintro e w1 ⟨he,rfl⟩
 have he:e=.panicked (thr ⟨3,E0⟩):=he
 subst he
 show _∧_
 exact ⟨rfl,by rw [HR.out];exact ⟨rfl,HX0.out.trans HY0.out⟩⟩) : G := h
theorem zz62 {G : Prop} (h : G := by
 rintro e w5 ⟨rfl,b5,k5⟩
 go_wp2_with fail
 go_ret
 refine ⟨congrArg (fun z:Nat=>Ending.returned (.int .i64 z)) (by rw [HVV.out];exact satN_self (satN_le _)),?_⟩
 exact (y1.trans Y3.out).trans' (k4.trans k5) (fun i hi e=>by have:=hnl;omega)) : G := h
theorem zz63 {G : Prop} (h : G := by
 rw [Below.heap_alloc _ _ _ (by simp <;> omega)];rw [Below.heap_alloc _ _ _ (by simp <;> omega)];rw [Below.heap_alloc _ _ _ (by simp <;> omega)];rw [Below.heap_alloc _ _ _ (by simp <;> omega)];rw [Below.heap_alloc _ _ _ (by simp <;> omega)]) : G := h
theorem zz64 {G : Prop} (h : G := by
 have l1:=Blk.cell HB.out
 have l2:=HB.out.lt
 have hF0:F=0:=by
  rw [HF.out];unfold fitsN
  rw [if_neg (by omega),if_neg hok,if_neg (by omega)]
 have HF0:=zhd hF0
 clear hF0 hok
 go_wp2_with fail
 go_ret
 exact ⟨ret_int HF0.out.symm,HY.out⟩) : G := h
theorem zz65 {G : Prop} (h : G := by
 go_wp2_with fail
 go_roundw
 case rel=>exact ⟨j+1,hlt,by go_num,fun i hi h=>by
  by_cases e:i=j
  ·subst e;exact HOK.out
  ·exact H1.out i hi (by omega),fun h0 _=>H2.out h0 (by omega),by trivial⟩
 case measure=>simp only [intOf];omega) : G := h
theorem zz66 {G : Prop} (h : G := by
 rw [Below.heap_alloc _ _ _ (by simp <;> omega)];rw [Below.heap_alloc _ _ _ (by simp <;> omega)];rw [Below.heap_alloc _ _ _ (by simp <;> omega)];rw [Below.heap_alloc _ _ _ (by simp <;> omega)];rw [Below.heap_alloc _ _ _ h]) : G := h
theorem zz67 {G : Prop} (h : G := by
 exact (HVN.out.from_ HWS.out).kept kp (fun x hx e=>by subst e;exact own_other HVN.out.vars (E':=38) (by decide) _ hx _ _ HR7.out) (fun x hx e=>by subst e;exact own_other HVN.out.asks (E':=38) (by decide) _ hx _ _ HR7.out)) : G := h
theorem zz69 {G : Prop} (h : G := by
 refine (must_any false _ _ _).mono ?_
 rintro e w8 ⟨he,rfl⟩
 have he:=MustR.some he
 subst he
 show _∧_
 refine ⟨rfl,?_,HXE.out⟩
 rw [HR.out]
 exact ⟨rfl,_,_,(HCX.out.ext HXE.out).map,(HCX.out.ext HXE.out).blk⟩) : G := h
theorem zz70 {G : Prop} (h : G := by
 have HE:=zhd e
 subst hq
 clear e
 go_wp2_with fail
 refine ret_ci Tryz.results112 rfl rfl aggWins (by exact sizeWins) (Blk.put_ hR1 _ _) ⟨by rw [HE.out];rfl,?_⟩
 exact Kept.putAt (hx0.trans y1) _ _ _ (fun h=>by omega)) : G := h
theorem zz71 {G : Prop} (h : G := by
 obtain ⟨hcl,_,hat⟩:=hC 0 h0
 have h0':=hat 0 hpos
 rw [List.getElem?_eq_getElem (by omega)] at h0'
 have e:(a.add (0 * sz)).add 0=a:=by simp [Addr.add]
 rw [e] at h0'
 have:=ospot_of_cell h0'
 cases a;simp_all) : G := h
theorem zz72 {G : Prop} (h : G := by
 subst hF
 rcases ho.2 with ⟨hv,_⟩ | ⟨g,c,cur,hv,_⟩
 ·exact ⟨none,0,by rw [hv],hn,hf,0,0,fun q=>by omega,trivial⟩
 ·exact ⟨some ⟨g,0,none⟩,c,by rw [hv],hn,hf,0,0,fun q=>by omega,trivial⟩) : G := h
theorem zz73 {G : Prop} (h : G := by
 rw [List.any_append]
 by_cases h:t=x
 ·subst h;simp
 ·have:¬ x=t:=fun e=>h e.symm
  have h2:decide (x=t)=false:=decide_eq_false this
  simp only [List.any_cons,List.any_nil,h2,Bool.or_false]
  rw [if_neg h]) : G := h
theorem zz74 {G : Prop} (h : G := by
 refine (must_any true _ _ _).mono ?_
 rintro e w1 ⟨he,rfl⟩
 have he:=MustR.none he
 subst he
 refine hK.out _ _ ?_
 clear hK K
 refine qf3 ?_
 go_wp2_with fail
 go_end0
 exact ⟨by rw [HR.out];rfl,HX.out⟩) : G := h
theorem zz75 {G : Prop} (h : G := by
 have hq:=HP4.out
 exact (y1.trans Y3.out).trans' ((HKS.out.mono (fun _ _ e=>Or.inr e)).trans (Kept.putAt (S:=fun i=>i=p4+1 ∨ i=p4+2) (Kept.refl _ _) _ 0 _ (fun _=>Or.inl rfl))) (fun i hi e=>by omega)) : G := h
theorem zz76 {G : Prop} (h : G := by
 go_wp2_with fail
 exact ret_cell Tryz.results94 rfl rfl aggFaultR (by exact sizeFaultR) (Blk.put_ hDr 0 _) ⟨rfl,(HX0.out.trans HXC.out).putAt _ _ _ (fun hlt=>absurd hlt (by have:=HRW.out;omega))⟩) : G := h
theorem zz78 {G : Prop} (h : G := by
 rw [Below.heap_alloc _ _ _ (by simp <;> omega)];rw [Below.heap_alloc _ _ _ (by simp <;> omega)];rw [Below.heap_alloc _ _ _ (by simp <;> omega)];rw [Below.heap_alloc _ _ _ (by simp <;> omega)]) : G := h
theorem zz79 {G : Prop} (h : G := by
 go_wp2_with fail
 refine (told16_any w7 (HLW.out.ext HX7.out) (HOW.out.ext HX7.out)).mono ?_
 rintro e w8 ⟨rfl,hx8⟩
 go_wp2_with fail
 go_ret
 exact ⟨rfl,HX0.out.trans (HX7.out.trans hx8)⟩) : G := h
theorem zz80 {G : Prop} (h : G := by
 by_cases hw:Region.wanted (l.getD k nop) (yielded l.toArray a.tmps)=true
 ·rw [if_pos hw] at h;simp only [if_pos hw];exact h
 ·rw [if_neg hw] at h;simp only [if_neg hw];exact ⟨.inr id,h⟩) : G := h
theorem zz82 {G : Prop} (h : G := by
 rw [Below.heap_alloc _ _ _ (by simp <;> omega)];rw [Below.heap_alloc _ _ _ (by simp <;> omega)];rw [Below.heap_alloc _ _ _ (by simp <;> omega)];rw [Below.heap_alloc _ _ _ h]) : G := h
theorem zz83 {G : Prop} (h : G := by
 have hp':a.tmps[p]?.getD undef=.pointer (some ⟨g,0,none⟩):=by simpa using hp
 exact bodyPost_ret (by simp [results,hres,hp',asAddr,run_loadVar_blk ha hs hb]) hd hR) : G := h
theorem zz84 {G : Prop} (h : G := by
 refine (must_any false _ _ _).mono ?_
 rintro e w1 ⟨he,rfl⟩
 have he:=MustR.some he
 subst he
 show _∧_
 exact ⟨rfl,by rw [HR.out];exact ⟨rfl,HX.out⟩⟩) : G := h
theorem zz85 {G : Prop} (h : G := by
 rw [Below.heap_alloc _ _ _ (by simp <;> omega)];rw [Below.heap_alloc _ _ _ (by simp <;> omega)];rw [Below.heap_alloc _ _ _ (by simp <;> omega)]) : G := h
theorem zz86 {G : Prop} (h : G := by
 have hcS3:=Blk.cell hS3
 have hfS3:=Blk.frozen hS3
 go_wp2_with fail
 go_end0
 refine ⟨rfl,?_⟩
 rw [HE.out]
 exact Stepped.goal hk3 hS3 hM3 hsg _) : G := h
theorem zz87 {G : Prop} (h : G := by
 have HF1:=zhd hF1
 clear e2 hF1
 have l1:=Blk.cell HB.out
 have l2:=HB.out.lt
 go_wp2_with fail
 go_ret
 exact ⟨ret_int HF1.out.symm,HY.out⟩) : G := h
theorem zz88 {G : Prop} (h : G := by
 rw [putAt_alloc_past _ (by simp <;> omega)];rw [putAt_alloc_past _ (by simp <;> omega)];rw [putAt_alloc_past _ (by simp <;> omega)]) : G := h
theorem zz89 {G : Prop} (h : G := by
 go_wp2_with fail
 refine (is_any _ _).mono ?_
 rintro e w1 ⟨rfl,rfl⟩
 rw [HH.out]
 go_wp2_with fail
 go_ret
 exact ⟨rfl,hx0⟩) : G := h
theorem zz90 {G : Prop} (h : G := by
 rw [Below.heap_alloc _ _ _ (by simp <;> omega)];rw [Below.heap_alloc _ _ _ (by simp <;> omega)];rw [Below.heap_alloc _ _ _ h]) : G := h
theorem zz91 {G : Prop} (h : G := by
 go_wp2_with fail
 refine (truth_any _ _).mono ?_
 rintro e w1 ⟨rfl,rfl⟩
 go_wp2_with fail
 go_ret
 exact ⟨rfl,rfl⟩) : G := h
theorem zz92 {G : Prop} (h : G := by
 rw [Below.heap_alloc _ _ _ (by simp <;> omega)];rw [Below.heap_alloc _ _ _ (by simp <;> omega)]) : G := h
theorem zz93 {G : Prop} (h : G := by
 rcases (by omega:i=0 ∨ i=1 ∨ i=2 ∨ i=3 ∨ i=4) with rfl | rfl | rfl | rfl | rfl <;> rfl) : G := h
theorem zz94 {G : Prop} (h : G := by
 have HF1:=zhd hF1
 clear e1 hF1
 go_wp2_with fail
 go_ret
 exact ⟨ret_int HF1.out.symm,HY.out⟩) : G := h
theorem zz95 {G : Prop} (h : G := by
 have OK:=zhd ok
 clear ok
 go_wp2_with fail
 go_ret
 exact ⟨ret_bool (SP.out OK.out).symm,y3⟩) : G := h
theorem zz96 {G : Prop} (h : G := by
 rw [putAt_alloc_past _ (by simp <;> omega)];rw [putAt_alloc_past _ (by simp <;> omega)]) : G := h
theorem zz97 {G : Prop} (h : G := by
 rw [HF.out];unfold fitsN
 rw [if_neg (by omega),if_pos (Or.inl (by rw [hw];omega))]) : G := h
theorem zz98 {G : Prop} (h : G := by
 rw [HF.out];unfold fitsN
 rw [if_neg (by omega),if_pos (Or.inr (by rw [hw];omega))]) : G := h
theorem zz99 {G : Prop} (h : G := by
 exact (HY6.out.trans HY7.out).trans' kp (fun i hi e=>by have:=HRB.out;omega)) : G := h
theorem zz100 {G : Prop} (h : G := by
 go_wp2_with fail
 go_ret
 exact ⟨ret_int (by simp [twoI,H0.out]),rfl⟩) : G := h
theorem zz101 {G : Prop} (h : G := by
 simp only [if_true]
 exact HL6.out.kept hset (fun i e=>by omega)) : G := h
theorem zz103 {G : Prop} (h : G := by
 (repeat refine qs4 ?_)
 obtain ⟨v84,V4,hrun,ho84,hk84,-⟩:=appR (f:=strC) elemStr (fun _=>rfl) (fun _=>rfl) V3 wr.heap.size v80 (0+n) ([] ++ pl) ho80 u6 0 1 1 [name] rfl (Row.of_blk q6) (by have:=HSR.out.2.1;omega) y3.size
 have y4:Ext wr V4:=y3.trans' hk84 (fun i hi e=>by have:=(ho80.lt i e).1;omega)
 refine w4_act (fun K hK=>?_)
 refine iff_want rfl ?_
 refine Lib.wp_append_run _ _ _ _ _ rfl _ _ rfl rfl _ _ hrun ?_
 refine hK.out _ _ (fun _=>y4) ?_
 clear hK K hrun
 have hkB:=Blk.ext HK.out (HXC.out.trans y4)
 have hcK:=Blk.cell hkB
 have hzK:=Blk.frozen hkB
 have hlK:=hkB.lt
 obtain ⟨g2,c2,rfl,hrow,hg2,-⟩:=own_rows ho84 (by omega) (by omega)
 rw [Nat.zero_add]
 refine qf4 ?_
 have hk9:Kept (·=kb) wr (V4.setCell ⟨kb,11,none⟩ (.slice (some ⟨g2,0,none⟩) (n+1) c2)):=(Kept.ext y4).setCell _ _ (fun _=>rfl)
 have hb9:Blk (V4.setCell ⟨kb,11,none⟩ (.slice (some ⟨g2,0,none⟩) (n+1) c2)) kb 120 (knCells c (some ⟨g2,0,none⟩) (n+1) c2):=by
  have q:=Blk.set_ hkB 11 (.slice (some ⟨g2,0,none⟩) (n+1) c2)
  exact q
 have hne:¬ g2=kb:=by have:=(Blk.ext HK.out HXC.out).lt;omega
 have hr9:StrSl (V4.setCell ⟨kb,11,none⟩ (.slice (some ⟨g2,0,none⟩) (n+1) c2)) (V4.setCell ⟨kb,11,none⟩ (.slice (some ⟨g2,0,none⟩) (n+1) c2)).heap.size (some ⟨g2,0,none⟩) (n+1) (pl ++ [name]):=by
  have hq:=hrow.kept ((Kept.refl (·=kb) V4).setCell ⟨kb,11,none⟩ (.slice (some ⟨g2,0,none⟩) (n+1) c2) (fun _=>rfl)) hne
  rw [strC_rows,List.nil_append] at hq
  exact ⟨by rw [List.length_append,← HSR.out.1];rfl,by have:=HSR.out.2.1;omega,g2,0,fun _=>rfl,fun _=>⟨hq.lt,hq⟩⟩
 generalize V4.setCell ⟨kb,11,none⟩ (.slice (some ⟨g2,0,none⟩) (n+1) c2)=V9 at hk9 hb9 hr9 ⊢
 generalize (Value.slice (some ⟨u0,0,none⟩) 0 0)=v77
 generalize (Value.slice (some ⟨u6,0,none⟩) 1 1)=v83
 exact KEY.out V9 v77 v80 v83 g2 c2 ⟨hk9,hb9,hr9⟩) : G := h
theorem zz104 {G : Prop} (h : G := by
 have y2:=HY1.out.trans hx1
 refine hK.out _ _ (fun _=>y2) ?_
 clear hK K y1
 have hfb2:=Blk.ext hfb1 hx1
 have hmf:=hfb2.melts
 have hhf:=Blk.has hfb2
 have hfc:(fltC f).size=2:=by cases f <;> rfl
 have hff:flatL (fltC f).toList=true:=by cases f <;> rfl
 (repeat refine qs4 ?_)
 (refine w4_act (fun K hK=>?_);go_simp)
 have y3:=y2.putAt fb 0 (fltC f) (fun hlt=>absurd hlt (by have:=HFL.out;omega))
 have hf3:Blk (putAt w1 fb 0 (fltC f)) fb 60 (fltC f):=by
  have:=Blk.put_ hfb2 0 (fltC f)
  cases f <;> exact this
 refine hK.out _ _ (fun _=>y3) ?_
 clear hK K hmf hhf hfc hff
 refine qf4 ?_
 generalize putAt w1 fb 0 (fltC f)=W3 at y3 hf3 ⊢
 exact KEY.out _ _ ⟨y3,hf3⟩) : G := h
theorem zz105 {G : Prop} (h : G := by
 generalize w1.heap.size=fb at hfb hfl ⊢
 have hmf:=hfb.melts
 have hhf:=Blk.has hfb
 have hfc:(fltC f).size=2:=by cases f <;> rfl
 have hff:flatL (fltC f).toList=true:=by cases f <;> rfl
 (repeat refine qs4 ?_)
 (refine w4_act (fun K hK=>?_);go_simp)
 have y3:=y2.putAt fb 0 (fltC f) (fun hlt=>absurd hlt (by omega))
 have hf3:Blk (putAt W2 fb 0 (fltC f)) fb 60 (fltC f):=by
  have:=Blk.put_ hfb 0 (fltC f)
  cases f <;> exact this
 refine hK.out _ _ (fun _=>y3) ?_
 clear hK K hmf hhf hfc hff
 refine qf4 ?_
 generalize putAt W2 fb 0 (fltC f)=W3 at y3 hf3 ⊢
 exact KEY.out _ _ ⟨y3,hf3⟩) : G := h
theorem zz106 {G : Prop} (h : G := by
 have hDr:=Blk.ext hR0.out yr
 have hmr:=hDr.melts
 have hhr:=Blk.has hDr
 go_wp2_with fail
 refine ret_cell (t:=60) (g:=rb) (cs:=fltC X) Tryz.results151 rfl rfl aggFaultR (by rw [HR.out];exact sizeFaultR) (by rw [HR.out];exact Blk.put_ hDr 0 _) ⟨rfl,?_⟩
 exact (HX0.out.trans yr).putAt _ _ _ (fun hlt=>absurd hlt (by have:=HRW.out;omega))) : G := h
theorem zz107 {G : Prop} (h : G := by
 have he:=MustR.some he
 subst he
 have HR:=zhd (show X=some f from HX4.out)
 have HCE:=zhd (HCW.out.ext (ys.trans hx2))
 have HXE:=zhd (Kept.ext (S:=SG cb g) (HX0.out.trans (ys.trans hx2)))
 show _∧_
 refine ⟨rfl,?_,HXE.out⟩
 rw [HR.out]
 exact ⟨rfl,_,_,HCE.out.map,HCE.out.blk⟩) : G := h
theorem zz108 {G : Prop} (h : G := by
 simp only [EF.len,Nat.add_zero] at hj
 subst hj
 have hz0:Z=none:=by rw [← HACC.out];rfl
 rw [hz0] at HXR
 have HXQ:=zhd HXR.out
 clear hz0 HXR
 go_wp2_with fail
 go_end0
 have h:=HXQ.out
 rw [show X=none from h]
 exact ⟨⟨rfl,HCW.out.ext HX.out⟩,Kept.ext (HX0.out.trans HX.out)⟩) : G := h
theorem zz110 {G : Prop} (h : G := by
 rcases h1 with h1 | h1
 ·exact absurd h1.symm hne
 ·obtain ⟨_,oj,hoj,hall⟩:=mem_ready.1 hj
  refine downMask_listed hd _ _ (fun x hx=>?_) i h1
  obtain ⟨o,ho,e,he,hb,rfl⟩:=dpMask_bit hx
  rw [hoj] at ho
  injection ho with ho
  subst ho
  exact hall e he hb) : G := h
theorem zz111 {G : Prop} (h : G := by
 generalize (w4.alloc (.cells (mkCells none 0 0 c b wm 0 sm em) 160))=W9 at y9 hbm hm9 hs9 he9 ⊢
 generalize w4.heap.size=mb at hbm hml ⊢
 exact KEY.out _ _ _ _ _ ⟨y9,hm9,hs9,he9,hbm,hwl,hml⟩) : G := h
theorem zz112 {G : Prop} (h : G := by
 go_wp2_with fail
 go_roundw
 case rel=>exact ⟨j+1,r,by omega,HNX.out,by go_num,by rw [Nat.add_mul,← Nat.add_assoc];exact HR2.out,HI2.out.2.2,HXE.out⟩
 case measure=>simp only [intOf];omega) : G := h
theorem zz113 {G : Prop} (h : G := by
 rcases Nat.lt_or_ge i listed.size with h' | h'
 ·simp [h'] at h0 h1;rw [h0] at h1;cases h1
 ·simp [Array.getElem?_eq_none h'] at h1) : G := h
theorem zz114 {G : Prop} (h : G := by
 show _∧_
 refine ⟨rfl,?_,HXE.out⟩
 rw [HR.out]
 exact ⟨rfl,_,_,HCE.out.map,HCE.out.blk⟩) : G := h
theorem zz115 {G : Prop} (h : G := by
 exact (HX0.out.trans HXC.out).putAt _ _ _ (fun hlt=>absurd hlt (by have:=HRW.out;omega))) : G := h
theorem zz1 {G : Prop} (h : G := by
 obtain ⟨hst,hbn⟩:=owns_str2 HOW.out (by rw [List.length_take,List.length_map];have:=HNN.out;omega) (by have:=HP5.out;omega)
 have HAQ:=zhd (Blk.ext HAW.out HXQ.out)
 by_cases hi3:i=3
 ·have hi3b:((i:Int) == 3)=true:=by simp [hi3]
  have HI3:=zhd hi3
  clear hi3
  have y1:Ext wr _:=(Kept.refl (fun _=>False) wr).alloc (.cells #[.string p.silent] 9)
  have q6:=Blk.new wr 9 #[.string p.silent]
  have hkB:=Blk.ext HKQ.out y1
  have hcK:=Blk.cell hkB
  have hzK:=Blk.frozen hkB
  have hlK:=hkB.lt
  have HAV:=zhd (Blk.ext HAQ.out y1)
  go_upto_region 31 with (fail)
  have hk9:Kept (fun g=>kb≤g) wr ((wr.alloc (.cells #[.string p.silent] 9)).setCell ⟨kb,11,none⟩ (.slice (some ⟨wr.heap.size,0,none⟩) 1 1)):=(y1.mono (fun i _ h=>h.elim)).setCell _ _ (fun _=>Nat.le_refl _)
  have hb9:Blk ((wr.alloc (.cells #[.string p.silent] 9)).setCell ⟨kb,11,none⟩ (.slice (some ⟨wr.heap.size,0,none⟩) 1 1)) kb 120 (knCells (⟨p.name,p.seats,⟨kA,j,kc⟩,⟨vA,vn,vc⟩,cs,⟨tA,tn,tc⟩,⟨A,n,cc⟩,cpl,p.silent,cq,⟨zA,zn,zc⟩⟩:Pc) (some ⟨wr.heap.size,0,none⟩) 1 1):=by
   have q:=Blk.set_ hkB 11 (.slice (some ⟨wr.heap.size,0,none⟩) 1 1)
   exact q
  have hke:Kept (·=kb) (wr.alloc (.cells #[.string p.silent] 9)) ((wr.alloc (.cells #[.string p.silent] 9)).setCell ⟨kb,11,none⟩ (.slice (some ⟨wr.heap.size,0,none⟩) 1 1)):=(Kept.refl _ _).setCell _ _ (fun _=>rfl)
  have hne:¬ wr.heap.size=kb:=by have:=HKQ.out.lt;omega
  have hrw:=(Row.of_blk q6).kept hke hne
  have hq6:=Blk.kept q6 hke hne
  have haq:=Blk.kept HAV.out hke (fun e=>by
   have h1:=HAW.out.lt
   have h2:=HKE.out
   omega)
  generalize ((wr.alloc (.cells #[.string p.silent] 9)).setCell ⟨kb,11,none⟩ (.slice (some ⟨wr.heap.size,0,none⟩) 1 1))=V9 at hk9 hb9 hrw hq6 haq ⊢
  generalize wr.heap.size=u6 at hb9 hrw hq6 ⊢
  have HXQ2:=zhd (HXQ.out.trans' hk9 (fun i hi q=>by have:=HKE.out;omega))
  clear hcK hzK hlK hkB y1 q6 hke hne HXQ HXB HKQ HOW HAQ HAV hk9 hst hbn hcP hlP
  obtain ⟨wr,hwq⟩:∃ w,w=V9:=⟨_,rfl⟩
  subst hwq
  have HXQ:=HXQ2
  have HXB:=zhd (HXC.out.trans HXQ.out)
  have HKQ:=zhd hb9
  have HAQ:=zhd haq
  have HST:=zhd (show StrSl wr wr.heap.size (some ⟨u6,0,none⟩) 1 (plOf p i) by
   rw [HI3.out]
   exact ⟨rfl,by omega,u6,0,fun _=>rfl,fun _=>⟨hq6.lt,hrw⟩⟩)
  have HBN:=zhd (show (some ⟨u6,0,none⟩:Option Addr)=none→1=0 from fun h=>nomatch h)
  clear hb9 hrw hq6 haq HXQ2
  obtain ⟨⟨sA,sn,sc⟩,hs⟩:∃ s,s=slP (⟨p.name,p.seats,⟨kA,j,kc⟩,⟨vA,vn,vc⟩,cs,⟨tA,tn,tc⟩,⟨A,n,cc⟩,cpl,p.silent,cq,⟨zA,zn,zc⟩⟩:Pc) i:=⟨_,rfl⟩
  have hpt:=(HPA.out.ext HXB.out HNW.out).part i
  have hac:=part_cell (⟨p.name,p.seats,⟨kA,j,kc⟩,⟨vA,vn,vc⟩,cs,⟨tA,tn,tc⟩,⟨A,n,cc⟩,cpl,p.silent,cq,⟨zA,zn,zc⟩⟩:Pc) i hlt
  rw [← hs] at hpt hac
  have HSS:=zhd hpt
  have HAC:=zhd (show (partCells (⟨p.name,p.seats,⟨kA,j,kc⟩,⟨vA,vn,vc⟩,cs,⟨tA,tn,tc⟩,⟨A,n,cc⟩,cpl,p.silent,cq,⟨zA,zn,zc⟩⟩:Pc))[i]?=some (Value.slice sA sn sc) from hac)
  clear hs hpt hac
  obtain ⟨f,hf⟩:∃ f,f=chkP p i:=⟨_,rfl⟩
  have HIK:=zhd (fun w' (hw':Ext wr w') (hs':StrSl w' w'.heap.size (some ⟨u6,0,none⟩) 1 (plOf p i))=>rblock_any (⟨p.name,p.seats,⟨kA,j,kc⟩,⟨vA,vn,vc⟩,cs,⟨tA,tn,tc⟩,⟨A,n,cc⟩,cpl,p.silent,cq,⟨zA,zn,zc⟩⟩:Pc) p i hlt N wr (Nat.le_trans HNW.out HXB.out.size) (HPA.out.ext HXB.out HNW.out) (partOf p i) 0 true (some ⟨u6,0,none⟩) 1 1 (plOf p i) sA sn sc w' hw' hs' HBN.out (plOf_len p i (by have:=HNN.out;have:=HP5.out;omega)) (by omega) HSS.out)
  exact zz102
 ·have hi3b:((i:Int) == 3)=false:=by simp;omega
  have HST:=zhd (show StrSl wr wr.heap.size B q (plOf p i) from HPL.out hi3 ▸ hst)
  have HBN:=zhd hbn
  clear hst hbn
  go_upto_region 31 with (fail)
  clear hcP hlP
  obtain ⟨⟨sA,sn,sc⟩,hs⟩:∃ s,s=slP (⟨p.name,p.seats,⟨kA,j,kc⟩,⟨vA,vn,vc⟩,cs,⟨tA,tn,tc⟩,⟨A,n,cc⟩,cpl,p.silent,cq,⟨zA,zn,zc⟩⟩:Pc) i:=⟨_,rfl⟩
  have hpt:=(HPA.out.ext HXB.out HNW.out).part i
  have hac:=part_cell (⟨p.name,p.seats,⟨kA,j,kc⟩,⟨vA,vn,vc⟩,cs,⟨tA,tn,tc⟩,⟨A,n,cc⟩,cpl,p.silent,cq,⟨zA,zn,zc⟩⟩:Pc) i hlt
  rw [← hs] at hpt hac
  have HSS:=zhd hpt
  have HAC:=zhd (show (partCells (⟨p.name,p.seats,⟨kA,j,kc⟩,⟨vA,vn,vc⟩,cs,⟨tA,tn,tc⟩,⟨A,n,cc⟩,cpl,p.silent,cq,⟨zA,zn,zc⟩⟩:Pc))[i]?=some (Value.slice sA sn sc) from hac)
  clear hs hpt hac
  obtain ⟨f,hf⟩:∃ f,f=chkP p i:=⟨_,rfl⟩
  have HIK:=zhd (fun w' (hw':Ext wr w') (hs':StrSl w' w'.heap.size B q (plOf p i))=>rblock_any (⟨p.name,p.seats,⟨kA,j,kc⟩,⟨vA,vn,vc⟩,cs,⟨tA,tn,tc⟩,⟨A,n,cc⟩,cpl,p.silent,cq,⟨zA,zn,zc⟩⟩:Pc) p i hlt N wr (Nat.le_trans HNW.out HXB.out.size) (HPA.out.ext HXB.out HNW.out) (partOf p i) 0 true B q bc (plOf p i) sA sn sc w' hw' hs' HBN.out (plOf_len p i (by have:=HNN.out;have:=HP5.out;omega)) (by omega) HSS.out)
  exact zz102) : G := h
theorem zz2 {G : Prop} (h : G := by
 have ys:=yt
 have hcE:=hcE2
 exact zz3) : G := h
theorem zz3 {G : Prop} (h : G := by
 go_wp2_with fail
 go_loopw [6] (fun t6 wr=>∃ (j:Nat) (R:EF),j+R.len=kn∧chkE (updAll (knV p.vars) l) R=r∧t6=.int .i64 j∧EFAt w0 N0 R b (off+j * 4)∧EF.All (ExRC c (updAll (knV p.vars) l) A n k w0) R∧Ext W wr) (fun t6 _=>kn - (intOf t6).toNat)
 case atStart=>exact ⟨0,F,by rw [HN.out,Nat.zero_add],HEQ.out,rfl,by simpa using HE.out,HI.out,ys⟩
 case round =>
  obtain ⟨j,R,hj,hacc,rfl,hR,hI,hx⟩:=hrel
  have HRR:=zhd hR
  have HI2:=zhd hI
  have HX:=zhd hx
  have HACC:=zhd hacc
  have hkr:=Blk.ext hK0.out hx
  have her:=Blk.ext hE0.out hx
  have hce:=Blk.cell her
  have hle:=her.lt
  clear hR hI hx hacc
  cases R with
  | nil =>
   simp only [EF.len,Nat.add_zero] at hj
   subst hj
   have hr0:r=none:=by rw [← HACC.out];rfl
   have HR0:=zhd hr0
   clear hr0
   go_wp2_with fail
   refine (fine_any _).mono ?_
   rintro e w1 ⟨rfl,hx1⟩
   have hDr:=Blk.ext hR0.out (HX.out.trans hx1)
   have hmr:=hDr.melts
   have hhr:=Blk.has hDr
   go_wp2_with fail
   refine ret_cell (t:=60) (g:=rb) (cs:=fltC X) Tryz.results151 rfl rfl aggFaultR (by rw [HXR.out,HR0.out];exact sizeFaultR) (by rw [HXR.out,HR0.out];exact Blk.put_ hDr 0 _) ⟨rfl,?_⟩
   exact ((HX0.out.trans HX.out).trans hx1).putAt _ _ _ (fun hlt=>absurd hlt (by have:=HRW.out;omega))
  | cons op' m' name' q rr =>
   obtain ⟨hb,h1,h2,h3,⟨A',cap,b',off',hh,hg,hl,hA',hk⟩,hr⟩:=HRR.out
   simp only [EF.len] at hj
   have hlt:(j:Int) < kn:=by omega
   obtain rfl:=HA.out (by omega)
   have hx0r:=hx0.trans (HX0.out.trans HX.out)
   have hbl:=hx0r.size
   have hh':=has_ext hx0r (by omega) hh
   have hg':=gets_ext hx0r (by omega) hg
   have hbw:b < wr.heap.size:=by omega
   have KE:=zhd (show ESl w0 N0 A' q.len q from ⟨rfl,hl,b',off',hA',hk⟩)
   have IK:=zhd HI2.out.1
   have HX0r:=zhd hx0r
   have HR2:=zhd hr
   have HH:=zhd hh'
   have HG:=zhd hg'
   have HKR:=zhd hkr
   have HER:=zhd her
   clear hh hg hl hA' hk h1 h2 h3 HRR hbl hx0r hr
   go_upto_region 14 with (fail)
   clear hh' hg' hce hle hkr her
   obtain ⟨f,hf⟩:∃ f,f=chk1 (updAll (knV p.vars) l) op' m' name' q:=⟨_,rfl⟩
   have HF:=zhd hf
   clear hf
   apply meet (F:=fun W2 fb=>Ext wr W2∧Blk W2 fb 60 (fltC f))
   case h =>
    intro KEY0
    have KEY:=zhd KEY0
    clear KEY0
    refine qr4 (fun w1=>Ext wr w1) (.op 0 1 (.op 1 2 (.op 2 1 (.op 3 2 (.op 4 2 (.op 5 1 (.fork 6 (.op 7 0 (.op 8 0 .nil)) 7 (.op 6 0 (.op 8 0 .nil))))))))) ?_;refine qrp ?_
    have HY0:=zhd (show Ext wr wr.drew from (Kept.refl _ wr).drew)
    (repeat (first | refine qs4 ?_ | ((apply w4_take);(· exact HY0.out);(· go_simp);(· (intro w1 hS;have d0:=Blk.ext HKR.out hS;have d1:=Blk.gets d0;have d2:=Blk.has d0;have d3:=d0.lt;have d4:=Blk.ext HER.out hS;have d5:=Blk.cell d4;have d6:=d4.lt;have d7:=has_ext hS hbw HH.out;have d8:=gets_ext hS hbw HG.out;have d9:=Nat.lt_of_lt_of_le hbw hS.size; go_simp;try with_reducible rfl));refine qnx ?_) | ((apply w4_pass);(· exact HY0.out);(· go_simp);refine qnx ?_)))
    refine w4_fork ?_ ?_
    ·(refine w4_act (fun K hK=>?_);go_simp)
     refine (IK.out op' m' name' A' q.len cap N0 _ (HX0r.out.trans HY0.out) hN0 KE.out).mono ?_
     rintro e w1 ⟨rfl,hx1⟩
     rw [← HF.out]
     have y1:=HY0.out.trans hx1
     refine hK.out _ _ (fun _=>y1) ?_
     clear hK K
     (repeat refine qs4 ?_)
     (refine w4_act (fun K hK=>?_);go_simp)
     have y2:=y1.alloc (.cells #[.int .i64 0,.string ⟨#[]⟩] 60)
     have hfb:=Blk.new w1 60 #[.int .i64 0,.string ⟨#[]⟩]
     refine hK.out _ _ (fun _=>y2) ?_
     clear hK K
     generalize hW2:w1.alloc (.cells #[.int .i64 0,.string ⟨#[]⟩] 60)=W2 at y2 hfb ⊢
     clear hW2
     have hfl:wr.heap.size≤w1.heap.size:=y1.size
     exact zz105
    ·(refine w4_act (fun K hK=>?_);go_simp)
     have y1:Ext wr (wr.alloc (.cells #[.int .i64 0,.string ⟨#[]⟩] 60)).drew:=((Kept.refl _ wr).alloc _).drew
     refine hK.out _ _ (fun _=>y1) ?_
     clear hK K
     generalize hW1:(wr.alloc (.cells #[.int .i64 0,.string ⟨#[]⟩] 60)).drew=W1 at y1 ⊢
     have hfb1:Blk W1 wr.heap.size 60 #[.int .i64 0,.string ⟨#[]⟩]:=by rw [← hW1];exact Blk.drew (Blk.new wr _ _)
     clear hW1
     have hfl:wr.heap.size≤wr.heap.size:=Nat.le_refl _
     generalize hfbe:(wr.heap.size:Nat)=fb at hfb1 hfl ⊢
     have HFL:=zhd (show wr.heap.size≤fb by omega)
     clear hfl hfbe
     have HY1:=zhd y1
     (repeat refine qs4 ?_)
     (repeat (first | refine qs4 ?_ | ((apply w4_take);(· exact HY1.out);(· go_simp);(· (intro w1 hS;have d0:=Blk.ext HKR.out hS;have d1:=Blk.gets d0;have d2:=Blk.has d0;have d3:=d0.lt;have d4:=Blk.ext HER.out hS;have d5:=Blk.cell d4;have d6:=d4.lt;have d7:=has_ext hS hbw HH.out;have d8:=gets_ext hS hbw HG.out;have d9:=Nat.lt_of_lt_of_le hbw hS.size; go_simp;try with_reducible rfl));refine qnx ?_) | ((apply w4_pass);(· exact HY1.out);(· go_simp);refine qnx ?_)))
     (refine w4_act (fun K hK=>?_);go_simp)
     refine (IK.out op' m' name' A' q.len cap N0 _ (HX0r.out.trans HY1.out) hN0 KE.out).mono ?_
     rintro e w1 ⟨rfl,hx1⟩
     rw [← HF.out]
     exact zz104
   case h2 =>
    rintro W2 fb ⟨y2,hfb⟩
    have HFB:=zhd hfb
    have HY2:=zhd y2
    clear hfb y2
    cases f with
    | none =>
     have HNX:=zhd (show chkE (updAll (knV p.vars) l) rr=r by have h:=HACC.out;rw [chkE_cons,← HF.out] at h;exact h)
     go_upto_region 15 with (fail)
     refine qr3 (fun w1=>Ext W2 w1) [(0,1),(1,0),(2,2)] ?_;refine qrl ?_
     have HZ0:=zhd (show Ext W2 W2.drew from (Kept.refl _ W2).drew)
     (repeat (first | refine qs3 ?_ | ((apply w3_take);(· exact HZ0.out);(· go_simp);(· (intro w1 hS;have d0:=Blk.ext HFB.out hS;have d1:=Blk.gets d0;have d2:=Blk.has d0;have d3:=d0.lt; go_simp;try with_reducible rfl));refine qnx ?_) | ((apply w3_pass);(· exact HZ0.out);(· go_simp);refine qnx ?_)))
     (refine w3_act (fun K hK=>?_);go_simp)
     refine (fine_any _).mono ?_
     rintro e w1 ⟨rfl,hx1⟩
     have HZ1:=zhd (HZ0.out.trans hx1)
     refine hK.out _ _ (fun _=>HZ1.out) ?_
     clear hK K hx1
     refine qf3 ?_
     go_wp2_with fail
     go_roundw
     case rel=>exact ⟨j+1,rr,by omega,HNX.out,by go_num,by rw [Nat.add_mul,← Nat.add_assoc];exact HR2.out,HI2.out.2,(HX.out.trans HY2.out).trans HZ1.out⟩
     case measure=>simp only [intOf];omega
    | some f =>
     obtain ⟨fe,fn⟩:=f
     have hnz:(fe == 0)=false:=by simpa using nz_chk1 (updAll (knV p.vars) l) op' m' name' q ⟨fe,fn⟩ HF.out.symm
     have HRF:=zhd (show X=some ⟨fe,fn⟩ by have h:=HACC.out;rw [chkE_cons,← HF.out] at h;rw [HXR.out,← h];rfl)
     go_upto_region 15 with (fail)
     refine qr3 (fun w1=>Ext W2 w1) [(0,1),(1,0),(2,2)] ?_;refine qrl ?_
     have HZ0:=zhd (show Ext W2 W2.drew from (Kept.refl _ W2).drew)
     (repeat (first | refine qs3 ?_ | ((apply w3_take);(· exact HZ0.out);(· go_simp);(· (intro w1 hS;have d0:=Blk.ext HFB.out hS;have d1:=Blk.gets d0;have d2:=Blk.has d0;have d3:=d0.lt; go_simp;try with_reducible rfl));refine qnx ?_) | ((apply w3_pass);(· exact HZ0.out);(· go_simp);refine qnx ?_)))
     (refine w3_act (fun K hK=>?_);go_simp)
     refine (fine_any _).mono ?_
     rintro e w1 ⟨rfl,hx1⟩
     have HZ1:=zhd (HZ0.out.trans hx1)
     refine hK.out _ _ (fun _=>HZ1.out) ?_
     clear hK K hx1
     refine qf3 ?_
     have hDr:=Blk.ext hR0.out ((HX.out.trans HY2.out).trans HZ1.out)
     have hmr:=hDr.melts
     have hhr:=Blk.has hDr
     have hFr:=Blk.ext HFB.out HZ1.out
     have hgf:=Blk.gets hFr
     have hhf:=Blk.has hFr
     have hlf:=hFr.lt
     go_wp2_with fail
     refine ret_cell (t:=60) (g:=rb) (cs:=fltC X) Tryz.results151 rfl rfl aggFaultR (by rw [HRF.out];exact sizeFaultR) (by rw [HRF.out];exact Blk.put_ hDr 0 _) ⟨rfl,?_⟩
     exact ((HX0.out.trans HX.out).trans (HY2.out.trans HZ1.out)).putAt _ _ _ (fun hlt=>absurd hlt (by have:=HRW.out;omega))) : G := h
theorem zz7 {G : Prop} (h : G := by
 obtain ⟨hb,h1,h2,h3,⟨A',cap,b',off',hh,hg,hl,hA',hk⟩,hr⟩:=HRR.out
 simp only [EF.len] at hj
 have hlt:(j:Int) < en:=by omega
 obtain rfl:=HA.out (by omega)
 have hbl:=HX.out.size
 have hh':=has_ext HX.out (by have:=HNW.out;omega) hh
 have hg':=gets_ext HX.out (by have:=HNW.out;omega) hg
 have hbw:b < wr.heap.size:=by have:=HNW.out;omega
 have KE:=zhd (show ESl W N A' q.len q from ⟨rfl,hl,b',off',hA',hk⟩)
 have HR2:=zhd hr
 clear hh hg hl hA' hk h1 h2 h3 HRR hbl hr
 have y0:Ext wr _:=(Kept.refl _ wr).alloc (.cells (ecells op' m' name' A' q.len cap) 200)
 have hEB:=Blk.new wr 200 (ecells op' m' name' A' q.len cap)
 go_wp2_with fail
 refine (sdeep_any W q _ _ _ N _ _ _ _ (HX.out.trans y0) HNW.out KE.out).mono ?_
 rintro e w1 ⟨rfl,hx1⟩
 obtain ⟨d,hd⟩:∃ d,d=w64 (1+q.deep):=⟨_,rfl⟩
 rw [← hd]
 have HD:=zhd hd
 have HX1:=zhd (HX.out.trans (y0.trans hx1))
 have hEB1:=Blk.ext hEB hx1
 have hgE:=Blk.gets hEB1
 have hhE:=Blk.has hEB1
 have hlB:=hEB1.lt
 clear hd
 obtain ⟨f,hf⟩:∃ f,f=chk1 κ op' m' name' q:=⟨_,rfl⟩
 have HF:=zhd hf
 clear hf
 by_cases hd12:d≤12
 ·go_wp2_with fail
  refine (must_any true _ _ _).mono ?_
  rintro e w2 ⟨he,rfl⟩
  have he:=MustR.none he
  subst he
  go_wp2_with fail
  have HK:=zhd (sexpr_any cb g κ (partName i) fors W HCW.out HLW.out q op' m' name' A' q.len cap N _ HX1.out HNW.out KE.out)
  rw [← HF.out] at HK
  refine HK.out.mono ?_
  rintro e w2 ⟨he,hx2⟩
  have HX2:=zhd (HX1.out.trans hx2)
  cases f with
  | none =>
   have he:=MustR.none he
   subst he
   have HNX:=zhd (show chkD κ rr=Z by have h:=HACC.out;rw [chkD_cons,← HD.out,decide_eq_true hd12,← HF.out] at h;exact h)
   go_wp2_with fail
   go_roundw
   case rel=>exact ⟨j+1,rr,by omega,HNX.out,by go_num,by rw [Nat.add_mul,← Nat.add_assoc];exact HR2.out,HX2.out⟩
   case measure=>simp only [intOf];omega
  | some f =>
   have he:=MustR.some he
   subst he
   have HR:=zhd (show X=some f by have h:=HACC.out;rw [chkD_cons,← HD.out,decide_eq_true hd12,← HF.out] at h;rw [HXR.out,← h];rfl)
   have HCE:=zhd (HCW.out.ext HX2.out)
   have HXE:=zhd (Kept.ext (S:=SG cb g) (HX0.out.trans HX2.out))
   exact zz114
 ·go_wp2_with fail
  rw [decide_eq_false (show ¬ d≤12 by omega)]
  refine (must_any false _ _ _).mono ?_
  rintro e w2 ⟨he,rfl⟩
  have he:e=.panicked (thr ⟨25,E0⟩):=he
  subst he
  have HR:=zhd (show X=some ⟨25,E0⟩ by have h:=HACC.out;rw [chkD_cons,← HD.out,decide_eq_false (by omega)] at h;rw [HXR.out,← h];rfl)
  have HCE:=zhd (HCW.out.ext HX1.out)
  have HXE:=zhd (Kept.ext (S:=SG cb g) (HX0.out.trans HX1.out))
  exact zz114) : G := h
theorem zz8 {G : Prop} (h : G := by
 rw [qn] at HX4
 clear hvI
 (repeat refine qs3 ?_)
 (refine w3_last (by kernel_rfl) (by kernel_rfl) (fun K hK=>?_);go_simp)
 try rw [qv2]
 refine (must_any true _ _ _).mono ?_
 rintro e w1 ⟨he,rfl⟩
 have he:=MustR.none he
 subst he
 have HXR:=zhd (show X=r by rw [HX4.out];rfl)
 refine hK.out _ _ ?_
 clear hK K
 refine qf3 ?_
 have ys:=HY3.out.trans HU0.out
 have hcE:=Blk.cell (Blk.ext hE0.out ys)
 have hlE:=(Blk.ext hE0.out ys).lt
 exact zz10) : G := h
theorem zz9 {G : Prop} (h : G := by
 (repeat refine qs4 ?_)
 obtain ⟨v80,V3,hrun,ho80,hk80,-⟩:=appA (f:=strC) elemStr (fun _=>rfl) (fun _=>rfl) V2 wr.heap.size (.slice (some ⟨u0,0,none⟩) 0 0) 0 [] own A n kc pl HSR.out.1 HAK.out (HSR.out.2.2 V2 y2) (by have:=HSR.out.2.1;omega) y2.size
 have y3:Ext wr V3:=y2.trans' hk80 (fun i hi e=>by have e2:u0=i:=Option.some.inj e;omega)
 have q6:=Blk.kept q6 hk80 (fun e=>by have e2:u0=u6:=Option.some.inj e;have q:=q0;rw [e2] at q;have q:=Blk.uniq q q6;simp at q)
 refine w4_act (fun K hK=>?_)
 refine iff_want rfl ?_
 refine Lib.wp_append_run _ _ _ _ _ rfl _ _ rfl rfl _ _ hrun ?_
 refine hK.out _ _ (fun _=>y3) ?_
 clear hK K hrun
 exact zz103) : G := h
theorem zz11 {G : Prop} (h : G := by
 have HXE:=zhd (HX.out.trans y0)
 have HY0:=zhd y0
 clear hh hg n1 n2 n3 a1 a2 a3 he hl hxx hb h1 h2 h3 h4 hr HR hx0r hbl y0
 have hcB:=Blk.cell HB.out
 cases q6:(kind == 6)
 ·cases q7:(kind == 7)
  ·cases q2:(kind == 2)
   ·have HNX:=zhd (show ends r=Z by rw [← HACC.out];simp [ends,q6,q7,q2])
    exact zz112
   ·have HQ:=zhd (show ((ends l && ends x) || ends r)=Z by rw [← HACC.out];simp [ends,q6,q7,q2])
    clear hcB
    go_wp2_with fail
    refine (HI2.out.1 _ _ _ N _ (hx0.trans HXE.out) hN KL.out).mono ?_
    rintro e w2 ⟨rfl,hx2⟩
    have HXE:=zhd (HXE.out.trans hx2)
    have HB2:=zhd (Blk.ext HB.out hx2)
    have hcB:=Blk.cell HB2.out
    have hlB:=HB2.out.lt
    clear hx2 HB HY0
    obtain ⟨el,hel⟩:∃ el,el=ends l:=⟨_,rfl⟩
    rw [← hel] at HQ ⊢
    clear hel
    cases el
    ·have HNX:=zhd (show ends r=Z from HQ.out)
     exact zz112
    ·go_wp2_with fail
     refine (HI2.out.2.1 _ _ _ N _ (hx0.trans HXE.out) hN KX.out).mono ?_
     rintro e w3 ⟨rfl,hx3⟩
     have HXE:=zhd (HXE.out.trans hx3)
     clear hx3
     obtain ⟨el,hel⟩:∃ el,el=ends x:=⟨_,rfl⟩
     rw [← hel] at HQ ⊢
     clear hel
     cases el
     ·have HNX:=zhd (show ends r=Z from HQ.out)
      exact zz112
     ·go_wp2_with fail
      go_ret
      exact ⟨by rw [← HQ.out];rfl,HXE.out⟩
  ·have HQ:=zhd q7
   go_wp2_with fail
   go_ret
   rw [← HACC.out]
   exact ⟨by simp [ends,HQ.out],HXE.out⟩
 ·have HQ:=zhd q6
  go_wp2_with fail
  go_ret
  rw [← HACC.out]
  exact ⟨by simp [ends,HQ.out],HXE.out⟩) : G := h
theorem zz14 {G : Prop} (h : G := by
 generalize (w2.alloc (.cells #[.int .i64 fe,.string fn] 60))=W3 at y3 hV ⊢
 generalize w2.heap.size=fb at hV ⊢
 have HY3:=zhd (HXC.out.trans y3)
 have HFB:=zhd hV
 clear y3 hV HXC
 refine qr3 (fun w1=>Ext W3 w1) [(0,1),(1,0),(2,2)] ?_;refine qrl ?_
 have HZ0:=zhd (show Ext W3 W3.drew from (Kept.refl _ W3).drew)
 (repeat (first | refine qs3 ?_ | ((apply w3_take);(· exact HZ0.out);(· go_simp);(· (intro w1 hS;have d0:=Blk.ext HFB.out hS;have d1:=Blk.gets d0;have d2:=Blk.has d0;have d3:=d0.lt; go_simp;try with_reducible rfl));refine qnx ?_) | ((apply w3_pass);(· exact HZ0.out);(· go_simp);refine qnx ?_)))
 (refine w3_act (fun K hK=>?_);go_simp)
 refine (fine_any _).mono ?_
 rintro e2 w4 ⟨rfl,hx4⟩
 have HZ1:=zhd (HZ0.out.trans hx4)
 refine hK.out _ _ (fun _=>HZ1.out) ?_
 clear hK K hx4
 have hnz:=HNF.out
 refine qf3 ?_
 have HXC:=zhd (HY3.out.trans HZ1.out)
 have hDr:=Blk.ext HD.out HXC.out
 have hmr:=hDr.melts
 have hhr:=Blk.has hDr
 have hlr:=hDr.lt
 have hcP:=Blk.cell (Blk.ext HB.out HXC.out)
 have hhP:=Blk.has (Blk.ext HB.out HXC.out)
 have hgP:=Blk.gets (Blk.ext HB.out HXC.out)
 have hlP:=(Blk.ext HB.out HXC.out).lt
 have hFr:=Blk.ext HFB.out HZ1.out
 have hgf:=Blk.gets hFr
 have hhf:=Blk.has hFr
 have hlf:=hFr.lt
 exact zz59) : G := h
theorem zz19 {G : Prop} (h : G := by
 rw [ev]
 have hS3:StAt (w2.setCell ⟨g,a,none⟩ (.int .i32 (truthI (decide (0≤v) && decide (v < z))))).drew s 49 pc (some ⟨g,0,none⟩) n kc 0:=Blk.far hS2 (p:=⟨g,a,none⟩) hsg (.int .i32 (truthI (decide (0≤v) && decide (v < z))))
 have hM3:MemAt (w2.setCell ⟨g,a,none⟩ (.int .i32 (truthI (decide (0≤v) && decide (v < z))))).drew base g n kc (m.set a (truthI (decide (0≤v) && decide (v < z)))):=(hM2.set a hal (truthI (decide (0≤v) && decide (v < z)))).ext ((Kept.refl _ _).drew)
 have hk3:Kept (fun i=>i=s ∨ i=g) w (w2.setCell ⟨g,a,none⟩ (.int .i32 (truthI (decide (0≤v) && decide (v < z))))).drew:=(Kept.setCell (Kept.ext x2) _ _ (fun _=>.inr rfl)).drew
 generalize (w2.setCell ⟨g,a,none⟩ (.int .i32 (truthI (decide (0≤v) && decide (v < z))))).drew=W3 at hS3 hM3 hk3 ⊢
 exact zz86) : G := h
theorem zz20 {G : Prop} (h : G := by
 clear hv hz
 go_upto_region 30 with (fail)
 refine qr3 (fun w3=>Ext w2 w3) [(0,2),(1,2),(2,1),(3,2),(4,1),(5,2),(6,2),(7,1),(8,2),(9,2)] ?_;refine qrl ?_
 (repeat (first | refine qs3 ?_ | ((apply w3_take);(· exact (Kept.drew (Kept.refl _ _)));(· go_simp);(· (intro w1 hS;have d1:=Blk.cell (Blk.ext hI2 hS);have d2:=(hM2.ext hS).cell y hyl;rw [← HV.out] at d2; go_simp;try with_reducible rfl));refine qnx ?_) | ((apply w3_pass);(· exact (Kept.drew (Kept.refl _ _)));(· go_simp);refine qnx ?_)))
 refine qf3 ?_
 have hS3:StAt w2.drew s 49 pc (some ⟨g,0,none⟩) n kc 0:=hS2
 have hM3:MemAt w2.drew base g n kc m:=hM2.ext ((Kept.refl _ _).drew)
 have hk3:Kept (fun i=>i=s ∨ i=g) w w2.drew:=(Kept.ext x2).drew
 have hI3:Blk w2.drew ic 77 _:=hI2
 have hcI3:=Blk.cell hI3
 exact zz86) : G := h
theorem zz21 {G : Prop} (h : G := by
 have HR:=zhd (show X=none by rw [HX3.out,hv1];rfl)
 clear hv1
 exact zz22) : G := h
theorem zz22 {G : Prop} (h : G := by
 go_wp2_with fail
 refine (fine_any _).mono ?_
 rintro e w9 ⟨rfl,hx9⟩
 clear hDr hmr hhr hlr hcS hlS hhK hgK hlK
 have HXC:=zhd (HXC.out.trans hx9)
 have hDr:=Blk.ext HD.out HXC.out
 have hmr:=hDr.melts
 have hhr:=Blk.has hDr
 have hlr:=hDr.lt
 have hcS:=Blk.cell (Blk.ext HS.out HXC.out)
 have hlS:=(Blk.ext HS.out HXC.out).lt
 have hhK:=Blk.has (Blk.ext HK.out HXC.out)
 have hgK:=Blk.gets (Blk.ext HK.out HXC.out)
 have hlK:=(Blk.ext HK.out HXC.out).lt
 clear hx9
 exact zz55) : G := h
theorem zz24 {G : Prop} (h : G := by
 refine qf3 ?_
 have hS3:StAt (w2.setCell ⟨g,a,none⟩ (.int .i32 (v))).drew s 49 pc (some ⟨g,0,none⟩) n kc 0:=Blk.far hS2 (p:=⟨g,a,none⟩) hsg (.int .i32 (v))
 have hM3:MemAt (w2.setCell ⟨g,a,none⟩ (.int .i32 (v))).drew base g n kc (m.set a (v)):=(hM2.set a hal (v)).ext ((Kept.refl _ _).drew)
 have hk3:Kept (fun i=>i=s ∨ i=g) w (w2.setCell ⟨g,a,none⟩ (.int .i32 (v))).drew:=(Kept.setCell (Kept.ext x2) _ _ (fun _=>.inr rfl)).drew
 generalize (w2.setCell ⟨g,a,none⟩ (.int .i32 (v))).drew=W3 at hS3 hM3 hk3 ⊢
 exact zz86) : G := h
theorem zz25 {G : Prop} (h : G := by
 have hDr:=Blk.ext HD.out HXC.out
 have hmr:=hDr.melts
 have hhr:=Blk.has hDr
 have hlr:=hDr.lt
 have hcS:=Blk.cell (Blk.ext HS.out HXC.out)
 have hhS:=Blk.has (Blk.ext HS.out HXC.out)
 have hgS:=Blk.gets (Blk.ext HS.out HXC.out)
 have hlS:=(Blk.ext HS.out HXC.out).lt
 have hhK:=Blk.has (Blk.ext HK.out HXC.out)
 have hgK:=Blk.gets (Blk.ext HK.out HXC.out)
 have hlK:=(Blk.ext HK.out HXC.out).lt
 exact zz58) : G := h
theorem zz27 {G : Prop} (h : G := by
 (repeat (first | refine qs3 ?_ | ((apply w3_take);(· exact HY0.out);(· go_simp);(· (intro w1 hS;have d4:=Blk.ext hE0.out hS;have d5:=Blk.cell d4;have d6:=d4.lt; go_simp;try with_reducible rfl));refine qnx ?_) | ((apply w3_pass);(· exact HY0.out);(· go_simp);refine qnx ?_)))
 refine qf3 ?_
 have yr:=HY0.out
 exact zz106) : G := h
theorem zz30 {G : Prop} (h : G := by
 go_wp2_with fail
 exact zz31) : G := h
theorem zz31 {G : Prop} (h : G := by
 refine (must_any false _ _ _).mono ?_
 rintro e w8 ⟨he,rfl⟩
 have he:=MustR.some he
 subst he
 exact zz38) : G := h
theorem zz37 {G : Prop} (h : G := by
 have HR:=zhd (show X=some ⟨6,s⟩ by rw [HX4.out,← HV.out];rfl)
 exact zz49) : G := h
theorem zz41 {G : Prop} (h : G := by
 (refine w3_last (by kernel_rfl) (by kernel_rfl) (fun K hK=>?_);go_simp)
 refine (must_any false _ _ _).mono ?_
 rintro e w1 ⟨he,rfl⟩
 have he:e=.panicked (thr ⟨3,E0⟩):=he
 subst he
 have HCE:=zhd (HCW.out.ext HY0.out)
 have HXE:=zhd (Kept.ext (S:=SG cb g) (HX0.out.trans HY0.out))
 exact zz114) : G := h
theorem zz43 {G : Prop} (h : G := by
 have qn:(v == 1)=false:=by simp [hv1]
 have HR:=zhd (show X=some ⟨11,s⟩ by rw [HX4.out,qn];rfl)
 (repeat refine qs3 ?_)
 (refine w3_last (by kernel_rfl) (by kernel_rfl) (fun K hK=>?_);go_simp)
 try rw [qv2]
 exact zz84) : G := h
theorem zz45 {G : Prop} (h : G := by
 have hDr:=Blk.ext HD.out HXC.out
 have hmr:=hDr.melts
 have hhr:=Blk.has hDr
 have hlr:=hDr.lt
 exact zz56) : G := h
theorem zz47 {G : Prop} (h : G := by
 have HR:=zhd (show X=some ⟨11,name⟩ by rw [HX3.out,n1,must_false])
 clear hv1
 exact zz55) : G := h
theorem zz49 {G : Prop} (h : G := by
 have yr:=yt
 exact zz106) : G := h
theorem zz50 {G : Prop} (h : G := by
 have HR:=zhd (show X=some ⟨6,name⟩ by rw [HX2.out,hv0];rfl)
 clear hv0
 exact zz55) : G := h
theorem zz51 {G : Prop} (h : G := by
 have h1:=List.all_eq_true.1 h _ hf
 simp only [Bool.or_eq_true,beq_iff_eq] at h1
 exact zz110) : G := h
theorem zz55 {G : Prop} (h : G := by
 go_wp2_with fail
 refine ret_cell (t:=60) (g:=rb) (cs:=fltC X) Tryz.results149 rfl rfl aggFaultR (by rw [HR.out];exact sizeFaultR) (by rw [HR.out];exact Blk.put_ hDr 0 _) ⟨rfl,?_⟩
 exact zz115) : G := h
theorem zz56 {G : Prop} (h : G := by
 go_wp2_with fail
 refine ret_cell (t:=60) (g:=rb) (cs:=fltC X) Tryz.results51 rfl rfl aggFaultR (by rw [HR.out];exact sizeFaultR) (by rw [HR.out];exact Blk.put_ hDr 0 _) ⟨rfl,?_⟩
 exact zz115) : G := h
theorem zz57 {G : Prop} (h : G := by
 go_wp2_with fail
 refine ret_cell (t:=60) (g:=rb) (cs:=fltC X) Tryz.results53 rfl rfl aggFaultR (by rw [HR.out];exact sizeFaultR) (by rw [HR.out];exact Blk.put_ hDr 0 _) ⟨rfl,?_⟩
 exact zz115) : G := h
theorem zz58 {G : Prop} (h : G := by
 go_wp2_with fail
 refine ret_cell (t:=60) (g:=rb) (cs:=fltC X) Tryz.results94 rfl rfl aggFaultR (by rw [HR.out];exact sizeFaultR) (by rw [HR.out];exact Blk.put_ hDr 0 _) ⟨rfl,?_⟩
 exact zz115) : G := h
theorem zz59 {G : Prop} (h : G := by
 go_wp2_with fail
 refine ret_cell (t:=60) (g:=rb) (cs:=fltC X) Tryz.results23 rfl rfl aggFaultR (by rw [HR.out];exact sizeFaultR) (by rw [HR.out];exact Blk.put_ hDr 0 _) ⟨rfl,?_⟩
 exact zz115) : G := h
theorem zz61 {G : Prop} (h : G := by
 try simp only [Bool.not_true]
 exact zz69) : G := h
theorem zz68 {G : Prop} (h : G := by
 have he9:=(hi4).ext ya
 exact zz111) : G := h
theorem zz77 {G : Prop} (h : G := by
 have h1:=hlst j listed hdn hj hji h
 have h0:=(mem_ready.1 hr).1
 exact zz113) : G := h
theorem zz81 {G : Prop} (h : G := by
 refine (must_any false _ _ _).mono ?_
 rintro e w8 ⟨he,rfl⟩
 have he:=MustR.some he
 subst he
 exact zz114) : G := h
theorem zz116 {G : Prop} (h : G := by
 have y1:=HY9.out.trans hx1
 refine hK.out _ _ (fun _=>y1) ?_
 clear hK K
 (repeat refine qs4 ?_)
 (refine w4_act (fun K hK=>?_);go_simp)
 have y2:=y1.alloc (.cells #[.int .i64 0,.string ⟨#[]⟩] 60)
 have hfb:=Blk.new w1 60 #[.int .i64 0,.string ⟨#[]⟩]
 refine hK.out _ _ (fun _=>y2) ?_
 clear hK K
 generalize hW2:w1.alloc (.cells #[.int .i64 0,.string ⟨#[]⟩] 60)=W2 at y2 hfb ⊢
 clear hW2
 have hfl:wr.heap.size≤w1.heap.size:=y1.size
 generalize w1.heap.size=fb at hfb hfl ⊢
 have hmf:=hfb.melts
 have hhf:=Blk.has hfb
 have hfc:=fltC_two f
 have hff:=fltC_flat f
 (repeat refine qs4 ?_)
 (refine w4_act (fun K hK=>?_);go_simp)
 have y3:=y2.putAt fb 0 (fltC f) (fun hlt=>absurd hlt (by omega))
 have hf3:=Blk.put_flt hfb f
 refine hK.out _ _ (fun _=>y3) ?_
 clear hK K hmf hhf hfc hff
 refine qf4 ?_
 generalize putAt W2 fb 0 (fltC f)=W3 at y3 hf3 ⊢
 exact KEY.out _ _ ⟨y3,hf3⟩) : G := h
theorem zz117 {G : Prop} (h : G := by
 have HYS:=zhd ys
 have hcE:=Blk.cell (Blk.ext hE0.out ys)
 have hlE:=(Blk.ext hE0.out ys).lt
 obtain ⟨Z,hZ⟩:∃ Z,Z=chkD κ es:=⟨_,rfl⟩
 rw [← hZ] at HXR
 have HZ:=zhd hZ.symm
 clear hZ ys
 go_wp2_with fail
 go_loopw [49] (fun t49 wr=>∃ (j:Nat) (R:EF),j+R.len=en∧chkD κ R=Z∧t49=.int .i64 j∧EFAt W N R b (off+j * 4)∧Ext W wr) (fun t49 _=>en - (intOf t49).toNat)
 case atStart=>exact ⟨0,es,by rw [HN.out,Nat.zero_add],HZ.out,rfl,by simpa using HE.out,HYS.out⟩
 case round =>
  obtain ⟨j,R,hj,hacc,rfl,hR,hx⟩:=hrel
  have HRR:=zhd hR
  have HX:=zhd hx
  have HACC:=zhd hacc
  have hcE:=Blk.cell (Blk.ext hE0.out hx)
  have hlE:=(Blk.ext hE0.out hx).lt
  clear hR hx hacc
  cases R with
  | nil =>
   exact zz108
  | cons op' m' name' q rr =>
   exact zz7) : G := h
theorem zz118 {G : Prop} (h : G := by
 have y2:=HY1.out.trans hx1
 refine hK.out _ _ (fun _=>y2) ?_
 clear hK K y1
 have hfb2:=Blk.ext hfb1 hx1
 have hmf:=hfb2.melts
 have hhf:=Blk.has hfb2
 have hfc:=fltC_two f
 have hff:=fltC_flat f
 (repeat refine qs4 ?_)
 (refine w4_act (fun K hK=>?_);go_simp)
 have y3:=y2.putAt fb 0 (fltC f) (fun hlt=>absurd hlt (by have:=HFL.out;omega))
 have hf3:=Blk.put_flt hfb2 f
 refine hK.out _ _ (fun _=>y3) ?_
 clear hK K hmf hhf hfc hff
 refine qf4 ?_
 generalize putAt w1 fb 0 (fltC f)=W3 at y3 hf3 ⊢
 exact KEY.out _ _ ⟨y3,hf3⟩) : G := h
theorem zz119 {G : Prop} (h : G := by
 have hDr:=Blk.ext HD.out HXC.out
 have hmr:=hDr.melts
 have hhr:=Blk.has hDr
 have hlr:=hDr.lt
 have hcS:=Blk.cell (Blk.ext HS.out HXC.out)
 have hhS:=Blk.has (Blk.ext HS.out HXC.out)
 have hgS:=Blk.gets (Blk.ext HS.out HXC.out)
 have hlS:=(Blk.ext HS.out HXC.out).lt
 have hhK:=Blk.has (Blk.ext HK.out HXC.out)
 have hgK:=Blk.gets (Blk.ext HK.out HXC.out)
 have hlK:=(Blk.ext HK.out HXC.out).lt
 have hFr:=Blk.ext HFB.out HZ1.out
 have hgf:=Blk.gets hFr
 have hhf:=Blk.has hFr
 have hlf:=hFr.lt
 exact zz58) : G := h
theorem zz120 {G : Prop} (h : G := by
 (repeat (first | refine qs3 ?_ | ((apply w3_take);(· exact HV0.out);(· go_simp);(· (intro w1 hS;have d4:=Blk.ext hE0.out (HY2.out.trans hS);have d5:=Blk.cell d4;have d6:=d4.lt; go_simp;try with_reducible rfl));refine qnx ?_) | ((apply w3_pass);(· exact HV0.out);(· go_simp);refine qnx ?_)))
 (refine w3_last (by kernel_rfl) (by kernel_rfl) (fun K hK=>?_);go_simp)
 have HX:=zhd (HX0.out.trans (HY2.out.trans HV0.out))
 exact zz84) : G := h
theorem zz109 {G : Prop} (h : G := by
 go_wp2_with fail
 refine ret_cell (t:=60) (g:=rb) (cs:=fltC Z) Tryz.results54 rfl rfl aggFaultR (by rw [HR.out];exact sizeFaultR) (by rw [HR.out];exact Blk.put_ hDr 0 _) ⟨rfl,?_⟩
 exact zz115) : G := h
theorem zz4 {G : Prop} (h : G := by
 have HF:=zhd hf
 clear hf
 go_upto_region 4 with (fail)
 apply meet (F:=fun W2 fb=>Ext wr W2∧Blk W2 fb 60 (fltC f))
 case h =>
  intro KEY0
  have KEY:=zhd KEY0
  clear KEY0
  refine qr4 (fun w1=>Ext wr w1) (.op 0 1 (.op 1 2 (.op 2 2 (.op 3 2 (.op 4 1 (.op 5 2 (.op 6 2 (.op 7 2 (.op 8 2 (.op 9 2 (.op 10 2 (.op 11 2 (.op 12 2 (.op 13 2 (.op 14 2 (.fork 15 (.op 16 0 (.op 17 0 .nil)) 16 (.op 15 0 (.op 17 0 .nil)))))))))))))))))) ?_;refine qrp ?_
  have HY9:=zhd (show Ext wr wr.drew from (Kept.refl _ wr).drew)
  (repeat (first | refine qs4 ?_ | ((apply w4_take);(· exact HY9.out);(· go_simp);(· (intro w1 hS;have d0:=Blk.ext HK.out (HXC.out.trans hS);have d1:=Blk.gets d0;have d2:=Blk.has d0;have d3:=d0.lt;have d7:=has_ext hS HHW.out HH0.out;have d8:=gets_ext hS HHW.out HG0.out;have d9:=Nat.lt_of_lt_of_le HHW.out hS.size; go_simp;try with_reducible rfl));refine qnx ?_) | ((apply w4_pass);(· exact HY9.out);(· go_simp);refine qnx ?_)))
  refine w4_fork ?_ ?_
  ·(refine w4_act (fun K hK=>?_);go_simp)
   try rw [HLS.out]
   refine (HIK.out _ (HWQ.out.trans HY9.out) ((HPL.out.ext (HXC.out.trans HY9.out)).mono (Nat.le_trans HNW.out (HXC.out.trans HY9.out).size))).mono ?_
   rintro e4 w1 ⟨rfl,hx1⟩
   rw [← HKA.out,← HF.out]
   exact zz116
  ·(refine w4_act (fun K hK=>?_);go_simp)
   have y1:Ext wr (wr.alloc (.cells #[.int .i64 0,.string ⟨#[]⟩] 60)).drew:=((Kept.refl _ wr).alloc _).drew
   refine hK.out _ _ (fun _=>y1) ?_
   clear hK K
   generalize hW1:(wr.alloc (.cells #[.int .i64 0,.string ⟨#[]⟩] 60)).drew=W1 at y1 ⊢
   have hfb1:Blk W1 wr.heap.size 60 #[.int .i64 0,.string ⟨#[]⟩]:=by rw [← hW1];exact Blk.drew (Blk.new wr _ _)
   clear hW1
   have hfl:wr.heap.size≤wr.heap.size:=Nat.le_refl _
   generalize hfbe:(wr.heap.size:Nat)=fb at hfb1 hfl ⊢
   have HFL:=zhd (show wr.heap.size≤fb by omega)
   clear hfl hfbe
   have HY1:=zhd y1
   (repeat refine qs4 ?_)
   (repeat (first | refine qs4 ?_ | ((apply w4_take);(· exact HY1.out);(· go_simp);(· (intro w1 hS;have d0:=Blk.ext HK.out (HXC.out.trans hS);have d1:=Blk.gets d0;have d2:=Blk.has d0;have d3:=d0.lt;have d7:=has_ext hS HHW.out HH0.out;have d8:=gets_ext hS HHW.out HG0.out;have d9:=Nat.lt_of_lt_of_le HHW.out hS.size; go_simp;try with_reducible rfl));refine qnx ?_) | ((apply w4_pass);(· exact HY1.out);(· go_simp);refine qnx ?_)))
   (refine w4_act (fun K hK=>?_);go_simp)
   try rw [HLS.out]
   refine (HIK.out _ (HWQ.out.trans HY1.out) ((HPL.out.ext (HXC.out.trans HY1.out)).mono (Nat.le_trans HNW.out (HXC.out.trans HY1.out).size))).mono ?_
   rintro e4 w1 ⟨rfl,hx1⟩
   rw [← HKA.out,← HF.out]
   exact zz118
 case h2 =>
  rintro W2 fb ⟨y2,hfb⟩
  have HFB:=zhd hfb
  have HY2:=zhd (HXC.out.trans y2)
  clear hfb y2 HXC
  cases f with
  | none =>
   go_upto_region 5 with (fail)
   refine qr3 (fun w1=>Ext W2 w1) [(0,1),(1,0),(2,2)] ?_;refine qrl ?_
   have HZ0:=zhd (show Ext W2 W2.drew from (Kept.refl _ W2).drew)
   (repeat (first | refine qs3 ?_ | ((apply w3_take);(· exact HZ0.out);(· go_simp);(· (intro w1 hS;have d0:=Blk.ext HFB.out hS;have d1:=Blk.gets d0;have d2:=Blk.has d0;have d3:=d0.lt; go_simp;try with_reducible rfl));refine qnx ?_) | ((apply w3_pass);(· exact HZ0.out);(· go_simp);refine qnx ?_)))
   (refine w3_act (fun K hK=>?_);go_simp)
   refine (fine_any _).mono ?_
   rintro e4 w1 ⟨rfl,hx1⟩
   have HZ1:=zhd (HZ0.out.trans hx1)
   refine hK.out _ _ (fun _=>HZ1.out) ?_
   clear hK K hx1
   refine qf3 ?_
   go_wp2_with fail
   go_roundw
   case rel=>exact ⟨m+1,r,by omega,by rw [HXB.out,ored_none],by go_num,by rw [Nat.add_mul,← Nat.add_assoc];exact HR2.out,HAL.out.2.2,HY2.out.trans HZ1.out⟩
   case measure=>simp only [intOf];omega
  | some f =>
   obtain ⟨fe,fn⟩:=f
   have hnz:=NZ.out (nz_chkS _ _ _ _ _ _ _ _ _ _ _) HF.out.symm
   have HR:=zhd (show Z=some ⟨fe,fn⟩ by rw [HXB.out,ored_some])
   go_upto_region 5 with (fail)
   refine qr3 (fun w1=>Ext W2 w1) [(0,1),(1,0),(2,2)] ?_;refine qrl ?_
   have HZ0:=zhd (show Ext W2 W2.drew from (Kept.refl _ W2).drew)
   (repeat (first | refine qs3 ?_ | ((apply w3_take);(· exact HZ0.out);(· go_simp);(· (intro w1 hS;have d0:=Blk.ext HFB.out hS;have d1:=Blk.gets d0;have d2:=Blk.has d0;have d3:=d0.lt; go_simp;try with_reducible rfl));refine qnx ?_) | ((apply w3_pass);(· exact HZ0.out);(· go_simp);refine qnx ?_)))
   (refine w3_act (fun K hK=>?_);go_simp)
   refine (fine_any _).mono ?_
   rintro e4 w1 ⟨rfl,hx1⟩
   have HZ1:=zhd (HZ0.out.trans hx1)
   refine hK.out _ _ (fun _=>HZ1.out) ?_
   clear hK K hx1
   refine qf3 ?_
   have HXC:=zhd (HY2.out.trans HZ1.out)
   have hDr:=Blk.ext HD.out HXC.out
   have hmr:=hDr.melts
   have hhr:=Blk.has hDr
   have hlr:=hDr.lt
   have hhK:=Blk.has (Blk.ext HK.out HXC.out)
   have hgK:=Blk.gets (Blk.ext HK.out HXC.out)
   have hlK:=(Blk.ext HK.out HXC.out).lt
   have hFr:=Blk.ext HFB.out HZ1.out
   have hgf:=Blk.gets hFr
   have hhf:=Blk.has hFr
   have hlf:=hFr.lt
   exact zz109) : G := h
theorem zz5 {G : Prop} (h : G := by
 have hgE:=Blk.gets (Blk.ext hE0.out ys)
 have hhE:=Blk.has (Blk.ext hE0.out ys)
 have hlE:=(Blk.ext hE0.out ys).lt
 go_wp2_with fail
 obtain ⟨t,ht⟩:∃ t,t=target κ k name low:=⟨_,rfl⟩
 have HK:=zhd (target_any cb g κ (partName i) fors k name eA en ec low high lA ln lc xA xn xc hkk.out _ (HCW.out.ext ys))
 rw [← ht] at HK HX4
 clear ht hgE hhE hlE
 refine HK.out.mono ?_
 rintro e w2 ⟨he,hx2⟩
 cases t with
 | some f =>
  exact zz107
 | none =>
  have he:=MustR.none he
  subst he
  have HXR:=zhd (show X=ored (chkD κ es) none from HX4.out)
  have ys:=ys.trans hx2
  clear hx2 HK
  exact zz117) : G := h
theorem zz13 {G : Prop} (h : G := by
 generalize (w2.alloc (.cells #[.int .i64 fe,.string fn] 60))=W3 at y3 hV ⊢
 generalize w2.heap.size=fb at hV ⊢
 have HY3:=zhd (HXC.out.trans y3)
 have HFB:=zhd hV
 clear y3 hV HXC
 refine qr3 (fun w1=>Ext W3 w1) [(0,1),(1,0),(2,2)] ?_;refine qrl ?_
 have HZ0:=zhd (show Ext W3 W3.drew from (Kept.refl _ W3).drew)
 (repeat (first | refine qs3 ?_ | ((apply w3_take);(· exact HZ0.out);(· go_simp);(· (intro w1 hS;have d0:=Blk.ext HFB.out hS;have d1:=Blk.gets d0;have d2:=Blk.has d0;have d3:=d0.lt; go_simp;try with_reducible rfl));refine qnx ?_) | ((apply w3_pass);(· exact HZ0.out);(· go_simp);refine qnx ?_)))
 (refine w3_act (fun K hK=>?_);go_simp)
 refine (fine_any _).mono ?_
 rintro e2 w4 ⟨rfl,hx4⟩
 have HZ1:=zhd (HZ0.out.trans hx4)
 refine hK.out _ _ (fun _=>HZ1.out) ?_
 clear hK K hx4
 have hnz:=HNF.out
 refine qf3 ?_
 have HXC:=zhd (HY3.out.trans HZ1.out)
 exact zz119) : G := h
theorem zz29 {G : Prop} (h : G := by
 clear hK K
 exact zz120) : G := h
theorem zz102 {G : Prop} (h : G := by
 have HF:=zhd (show chkB i (updAll (knV p.vars) (plOf p i)) 0 true (partOf p i)=f by rw [hf,chkP,knOf_pl])
 have HX9:=zhd (show X=ored f (from5 p M (i+1)) by rw [hf,← HACC.out,from5_lt p M i hlt])
 have HNZ:=zhd (show NZ f by rw [hf,chkP];exact nz_chkB _ _ _ _ _)
 clear hf
 apply meet (F:=fun W2 fb=>Ext wr W2∧Blk W2 fb 60 (fltC f))
 case h =>
  intro KEY0
  have KEY:=zhd KEY0
  clear KEY0
  refine qr4 (fun w1=>Ext wr w1) (.op 0 1 (.op 1 2 (.op 2 2 (.op 3 2 (.op 4 1 (.op 5 2 (.fork 6 (.op 7 0 (.op 8 0 .nil)) 7 (.op 6 0 (.op 8 0 .nil))))))))) ?_;refine qrp ?_
  have HY9:=zhd (show Ext wr wr.drew from (Kept.refl _ wr).drew)
  (repeat (first | refine qs4 ?_ | ((apply w4_take);(· exact HY9.out);(· go_simp);(· (intro w1 hS;have d0:=Blk.ext HKQ.out hS;have d1:=Blk.gets d0;have d2:=Blk.has d0;have d3:=d0.lt;have d4:=Blk.ext HAQ.out hS;have d5:w1.cell? ⟨ab,i,none⟩=some (.slice sA sn sc):=(Blk.cell d4 i).trans HAC.out;have d6:=d4.lt; go_simp;try with_reducible rfl));refine qnx ?_) | ((apply w4_pass);(· exact HY9.out);(· go_simp);refine qnx ?_)))
  refine w4_fork ?_ ?_
  ·(refine w4_act (fun K hK=>?_);go_simp)
   refine (HIK.out _ HY9.out (HST.out.ext_ HY9.out)).mono ?_
   rintro e4 w1 ⟨rfl,hx1⟩
   rw [HF.out]
   exact zz116
  ·(refine w4_act (fun K hK=>?_);go_simp)
   have y1:Ext wr (wr.alloc (.cells #[.int .i64 0,.string ⟨#[]⟩] 60)).drew:=((Kept.refl _ wr).alloc _).drew
   refine hK.out _ _ (fun _=>y1) ?_
   clear hK K
   generalize hW1:(wr.alloc (.cells #[.int .i64 0,.string ⟨#[]⟩] 60)).drew=W1 at y1 ⊢
   have hfb1:Blk W1 wr.heap.size 60 #[.int .i64 0,.string ⟨#[]⟩]:=by rw [← hW1];exact Blk.drew (Blk.new wr _ _)
   clear hW1
   have hfl:wr.heap.size≤wr.heap.size:=Nat.le_refl _
   generalize hfbe:(wr.heap.size:Nat)=fb at hfb1 hfl ⊢
   have HFL:=zhd (show wr.heap.size≤fb by omega)
   clear hfl hfbe
   have HY1:=zhd y1
   (repeat refine qs4 ?_)
   (repeat (first | refine qs4 ?_ | ((apply w4_take);(· exact HY1.out);(· go_simp);(· (intro w1 hS;have d0:=Blk.ext HKQ.out hS;have d1:=Blk.gets d0;have d2:=Blk.has d0;have d3:=d0.lt;have d4:=Blk.ext HAQ.out hS;have d5:w1.cell? ⟨ab,i,none⟩=some (.slice sA sn sc):=(Blk.cell d4 i).trans HAC.out;have d6:=d4.lt; go_simp;try with_reducible rfl));refine qnx ?_) | ((apply w4_pass);(· exact HY1.out);(· go_simp);refine qnx ?_)))
   (refine w4_act (fun K hK=>?_);go_simp)
   refine (HIK.out _ HY1.out (HST.out.ext_ HY1.out)).mono ?_
   rintro e4 w1 ⟨rfl,hx1⟩
   rw [HF.out]
   exact zz118
 case h2 =>
  rintro W2 fb ⟨y2,hfb⟩
  have HFB:=zhd hfb
  have HYR:=zhd (HXQ.out.trans y2)
  have HXC:=zhd (HXB.out.trans y2)
  clear hfb y2
  cases f with
  | none =>
   go_upto_region 32 with (fail)
   refine qr3 (fun w1=>Ext W2 w1) [(0,1),(1,0),(2,2)] ?_;refine qrl ?_
   have HZ0:=zhd (show Ext W2 W2.drew from (Kept.refl _ W2).drew)
   (repeat (first | refine qs3 ?_ | ((apply w3_take);(· exact HZ0.out);(· go_simp);(· (intro w1 hS;have d0:=Blk.ext HFB.out hS;have d1:=Blk.gets d0;have d2:=Blk.has d0;have d3:=d0.lt; go_simp;try with_reducible rfl));refine qnx ?_) | ((apply w3_pass);(· exact HZ0.out);(· go_simp);refine qnx ?_)))
   (refine w3_act (fun K hK=>?_);go_simp)
   refine (fine_any _).mono ?_
   rintro e4 w1 ⟨rfl,hx1⟩
   have HZ1:=zhd (HZ0.out.trans hx1)
   refine hK.out _ _ (fun _=>HZ1.out) ?_
   clear hK K hx1
   refine qf3 ?_
   go_wp2_with fail
   go_roundw
   case rel=>exact ⟨i+1,by omega,by go_num,by rw [HX9.out,ored_none],HXW.out.trans (HYR.out.trans HZ1.out)⟩
   case measure=>simp only [intOf];omega
  | some f =>
   obtain ⟨fe,fn⟩:=f
   have hnz:=NZ.out HNZ.out rfl
   have HR:=zhd (show X=some ⟨fe,fn⟩ by rw [HX9.out,ored_some])
   go_upto_region 32 with (fail)
   refine qr3 (fun w1=>Ext W2 w1) [(0,1),(1,0),(2,2)] ?_;refine qrl ?_
   have HZ0:=zhd (show Ext W2 W2.drew from (Kept.refl _ W2).drew)
   (repeat (first | refine qs3 ?_ | ((apply w3_take);(· exact HZ0.out);(· go_simp);(· (intro w1 hS;have d0:=Blk.ext HFB.out hS;have d1:=Blk.gets d0;have d2:=Blk.has d0;have d3:=d0.lt; go_simp;try with_reducible rfl));refine qnx ?_) | ((apply w3_pass);(· exact HZ0.out);(· go_simp);refine qnx ?_)))
   (refine w3_act (fun K hK=>?_);go_simp)
   refine (fine_any _).mono ?_
   rintro e4 w1 ⟨rfl,hx1⟩
   have HZ1:=zhd (HZ0.out.trans hx1)
   refine hK.out _ _ (fun _=>HZ1.out) ?_
   clear hK K hx1
   refine qf3 ?_
   have HXC:=zhd (HXC.out.trans HZ1.out)
   have hDr:=Blk.ext HD.out HXC.out
   have hmr:=hDr.melts
   have hhr:=Blk.has hDr
   have hlr:=hDr.lt
   have hcP:=Blk.cell (Blk.ext HB.out HXC.out)
   have hhP:=Blk.has (Blk.ext HB.out HXC.out)
   have hgP:=Blk.gets (Blk.ext HB.out HXC.out)
   have hlP:=(Blk.ext HB.out HXC.out).lt
   have hFr:=Blk.ext HFB.out HZ1.out
   have hgf:=Blk.gets hFr
   have hhf:=Blk.has hFr
   have hlf:=hFr.lt
   exact zz59) : G := h
end Go.Proofs.YtbfbabbcdochjaaGreatDoor
