/- Several texts joined: Nb, Vt. -/
import Derived.Test.YtbfbabbcdochjaaGreatDoorRxpk
import Derived.Test.YtbfbabbcdochjaaGreatDoorRxbu
import Derived.Test.YtbfbabbcdochjaaGreatDoorRxbv
set_option maxHeartbeats 4000000
namespace Go.Proofs.YtbfbabbcdochjaaGreatDoor
open Go.RowKit So Mc
set_option maxRecDepth 100000 in
theorem cmost_no (cb:Nat) (k:Cd) (w:World) (_hb:Blk w cb 90 k.c) (part:Int) (hp:(decide (0≤part) && decide (part < 5))=false):Calls Tryz.prog 28 #[.pointer (some ⟨cb,0,none⟩),.int .i64 part] w fun e w'=>e=.returned (.int .i64 0)∧w=w':=by
 have HP:=J hp
 clear hp
 go_enter Tryz.func28,Tryz.ntmps28
 go_wp2_with fail
 refine (cis_any _ _).mono ?_
 rintro e w1 ⟨rfl,rfl⟩
 rw [HP.out]
 go_wp2_with fail
 go_ret
 exact ⟨rfl,rfl⟩
set_option maxRecDepth 100000 in
theorem cinstrs_no (cb:Nat) (k:Cd) (w:World) (_hb:Blk w cb 90 k.c) (part:Int) (hp:(decide (0≤part) && decide (part < 5))=false):Calls Tryz.prog 27 #[.pointer (some ⟨cb,0,none⟩),.int .i64 part] w fun e w'=>e=.returned (.slice none 0 0)∧w=w':=by
 have HP:=J hp
 clear hp
 go_enter Tryz.func27,Tryz.ntmps27
 go_wp2_with fail
 refine (cis_any _ _).mono ?_
 rintro e w1 ⟨rfl,rfl⟩
 rw [HP.out]
 go_wp2_with fail
 go_ret
 exact ⟨rfl,rfl⟩
theorem meetR {F M:World→Nat→Nat→Nat→Nat→Nat→Nat→Prop} {G:Prop} (h:(∀ W a b c d e f,F W a b c d e f→M W a b c d e f)→G) (h2:∀ W a b c d e f,F W a b c d e f→M W a b c d e f):G:=h h2
set_option maxRecDepth 100000 in
theorem lsteps_any (c:Pc) (p:Pr) (s0 s1:Sl3) (V0 V1:List Int) (N:Nat) (w:World) (hN:N≤w.heap.size) (h:PAt w N c p) (hL:LaidAt w) (hO:OpsAt w) (hcap:Caps c) (hz:psize p≤1099511627776) (hv0:M32 w N s0 V0) (hv1:M32 w N s1 V1) :
 Calls Tryz.prog 8 #[.agg c.cells,.agg #[s0.v,s1.v]] w fun e w'=>e=.returned (.bool true)∧Ext w w':=by
 have hx0:=((kR (fun _=>False) w).alloc (.cells c.cells 26)).alloc (.cells #[s0.v,s1.v] 28)
 have hB:=(bN w 26 c.cells).alloc (.cells #[s0.v,s1.v] 28)
 have hD:=bN (w.alloc (.cells c.cells 26)) 28 #[s0.v,s1.v]
 go_enter Tryz.func8,Tryz.ntmps8
 go_upto_region 1 with (fail)
 refine zy69 ?_;intro HPA HNW
 have HLW:=J (hL.ext hx0)
 have HOW:=J (hO.ext hx0)
 have HV0:=J (hv0.ext hx0)
 have HV1:=J (hv1.ext hx0)
 have HCAP:=J hcap
 have HZ:=J hz
 rw [show (w.alloc (.cells c.cells 26)).heap.size=w.heap.size+1 by simp] at hD
 generalize hW:(w.alloc (.cells c.cells 26)).alloc (.cells #[s0.v,s1.v] 28)=W at hx0 hB hD HPA HNW HLW HOW HV0 HV1 ⊢
 have HX0:=J hx0
 have HB:=J hB
 have HD:=J hD
 clear hW hx0 hB hD h hN hL hO hcap hz hv0 hv1
 generalize w.heap.size=pb at HB HD ⊢
 have i1:=bH HB.out
 have i2:=bG HB.out
 have i3:=HB.out.lt
 go_wp2_with fail
 refine (lbuild_any c p N _ HNW.out HPA.out HLW.out HZ.out).mono ?_
 rintro e w1 ⟨hx1,hb⟩
 have HX1:=J hx1
 clear hx1 i1 i2 i3
 cases hb with
 | no =>
  exact zz83
 | ok hf hc hl hs cb k hk =>
  have HF:=J hf
  have HC:=J hc
  have HNL:=J hl
  have HST:=J hs
  have HK:=J hk
  have HCK:=J (Chk.of hc HZ.out)
  clear hf hc hl hs hk
  refine zy80 ?_;intro i1 i2 i3
  go_wp2_with fail
  refine zy79 ?_;intro w2 hx2 HX2
  have HK2:=J ((HK.out.ext hx2).up hx2.size (Nat.le_refl _))
  clear hx2 i1 i2 i3
  have i1:=bH (HB.out.ext HX2.out)
  have i2:=bG (HB.out.ext HX2.out)
  have i3:=(HB.out.ext HX2.out).lt
  go_wp2_with fail
  refine (of_any c p N _ (Nat.le_trans HNW.out HX2.out.size) (HPA.out.ext HX2.out HNW.out)).mono ?_
  rintro e w3 ⟨hx3,c2,rfl,hp2⟩
  have HP2:=J hp2
  have HX3:=J (HX2.out.trans hx3)
  have HK3:=J ((HK2.out.ext hx3).up hx3.size (Nat.le_refl _))
  clear hx3 hp2 i1 i2 i3
  go_wp2_with fail
  refine (bsteps_any c2 p _ w3 (Nat.le_refl _) HP2.out HCK.out.okK).mono ?_
  rintro e w4 ⟨hd,hx4⟩
  obtain ⟨-,rfl⟩:(∀ i,i < 5→stepN p i≤65536)∧e=.returned (.tuple #[.agg (arr5 (stepN p) 5),.int .i64 0]):=by
   rcases hd with hd | ⟨⟨i,hi,hq⟩,-⟩
   ·exact hd
   ·exact absurd (HST.out i hi) zb85
  have HX4:=J (HX3.out.trans hx4)
  have HK4:=J ((HK3.out.ext hx4).up hx4.size (Nat.le_refl _))
  clear hx4 hd
  rw [show arr5 (stepN p) 5=st5 p from rfl]
  have y5:=(kR (fun _=>False) w4).alloc (.cells (st5 p) 62)
  have b5:=bN w4 62 (st5 p)
  go_upto_region 5 with (fail)
  generalize (w4.alloc (.cells (st5 p) 62))=w5 at y5 b5 ⊢
  generalize hmb:(w4:World).heap.size=mb at b5 ⊢
  have HM5:=J b5
  have HX5:=J (HX4.out.trans y5)
  have HK5:=J ((HK4.out.ext y5).up y5.size (Nat.le_refl _))
  clear y5 b5 hmb
  go_wp2_with fail
  go_loopw [9] (fun t9 wr=>∃ j:Nat,j≤5∧t9=.int .i64 j∧Ext w5 wr) (fun t9 _=>5 - (intOf t9).toNat)
  case atStart=>exact ⟨0,by omega,rfl,kR _ _⟩
  case round =>
   obtain ⟨j,hj,rfl,hkj⟩:=hrel
   have HKJ:=J hkj
   clear hkj
   by_cases hlt:j < 5
   ·have hltI:(j:Int) < 5:=by omega
    have HBJ:=J (HB.out.ext (HX5.out.trans HKJ.out))
    have HDJ:=J (HD.out.ext (HX5.out.trans HKJ.out))
    have HL5:=J hlt
    have i1:=bH HBJ.out
    have i2:=bG HBJ.out
    have i3:=HBJ.out.lt
    have i4:wr.cell? ⟨pb+1,0,none⟩=some (.slice s0.A s0.n s0.c):=bC HDJ.out 0
    have i5:wr.cell? ⟨pb+1,1,none⟩=some (.slice s1.A s1.n s1.c):=bC HDJ.out 1
    have i6:=HDJ.out.lt
    go_wp2_with fail
    refine (lfit_any c p j hlt s0 s1 V0 V1 N wr (Nat.le_trans HNW.out (HX5.out.trans HKJ.out).size) (HPA.out.ext (HX5.out.trans HKJ.out) HNW.out) (HV0.out.ext (HX5.out.trans HKJ.out)) (HV1.out.ext (HX5.out.trans HKJ.out)) HCK.out).mono ?_
    rintro e wf ⟨sv,sa,rfl,hov,hoa,hyf⟩
    have HSV:=J (M32.of_own hov (fitV_ok HV0.out.2.1))
    have HSA:=J (M32.of_own hoa (fitA_ok HCK.out HV1.out.2.1))
    have HKF:=J (HKJ.out.trans hyf)
    have HFI:=J (show fitsN p (j:Nat) (fitV p j V0) (fitA p j V1)=0 from fit_fits HCK.out hlt V0 V1)
    clear i1 i2 i3 i4 i5 i6 hov hoa hyf
    generalize fitV p j V0=V at HSV HFI
    generalize fitA p j V1=Ar at HSA HFI
    have HKW:=J ((HK5.out.ext HKF.out).up HKF.out.size (Nat.le_refl _))
    go_wp2_with fail
    refine (cstate_any cb wf.heap.size k p j sv sa V Ar wf (Nat.le_refl _) HKW.out HSV.out HSA.out HCK.out).mono ?_
    rintro e w6 ⟨hx6,ho⟩
    cases ho with
    | bad hne=>exact absurd HFI.out hne
    | ok h0 g hg hbg =>
     have y7:=(kR (fun _=>False) w6).alloc (.cells #[.int .i64 0,.slice (some ⟨g,0,none⟩) (memN p) (memN p),.int .i64 0] 49)
     have b7:=bN w6 49 #[.int .i64 0,.slice (some ⟨g,0,none⟩) (memN p) (memN p),.int .i64 0]
     have HG7:=J (hbg.ext y7)
     go_upto_region 12 with (fail)
     generalize (w6.alloc (.cells #[.int .i64 0,.slice (some ⟨g,0,none⟩) (memN p) (memN p),.int .i64 0] 49))=w7 at y7 b7 HG7 ⊢
     generalize hsb:(w6:World).heap.size=sb at b7 ⊢
     have HS7:=J b7
     have HSB:=J (show W.heap.size≤sb by rw [← hsb];exact (HX5.out.trans (HKF.out.trans hx6)).size)
     have HY7:=J (hx6.trans y7)
     have HKK:=J (HKW.out.ext HY7.out)
     have HM7:=J (HM5.out.ext (HKF.out.trans HY7.out))
     clear h0 hg hbg y7 b7 hsb hx6
     have HIN:=J (HKK.out.ins j HL5.out)
     have HMS:=J (HKK.out.most j HL5.out)
     have HSZ:=J (show (partOf p j).size≤256 from Nat.le_of_not_lt (fun h=>HNL.out ⟨j,HL5.out,h⟩))
     have HOP:=J (HOW.out.ext (HX5.out.trans (HKF.out.trans HY7.out)))
     obtain ⟨pc,m,hls,-⟩:=run_sim HCK.out j HL5.out (HST.out j HL5.out) HFI.out HSV.out.2.1 HSA.out.2.1
     obtain ⟨sh,hsh⟩:∃ sh:Int,sh=(if (runR p j V Ar).refused then 2 else 1):=⟨_,rfl⟩
     rw [← hsh] at hls
     have HSH:=J (show (sh == 0)=false by rw [hsh];split <;> rfl)
     have HIT:=J (show itI (codeP p j) (stepN p j) (0,0,mem0 p j V Ar)=(pc,sh,m) from hls)
     clear hls hsh hltI hlt
     have HQC:=J (show (st5 p)[j]?=some (.int .i64 (stepN p j:Nat)) from by
      have h5:=HL5.out
      rcases (by omega:j=0 ∨ j=1 ∨ j=2 ∨ j=3 ∨ j=4) with rfl | rfl | rfl | rfl | rfl <;> rfl)
     apply meetR (F:=fun W gi ci q g5 c5 b=>Ext w7 W∧q≤stepN p j)
     case h =>
      intro KEY0
      have KEY:=J KEY0
      clear KEY0
      have hj5:=HL5.out
      have hjI:(j:Int) < 5:=by omega
      refine qr4 (fun wz=>Ext w7 wz) (.op 0 2 (.op 1 2 (.op 3 1 (.op 4 2 (.op 5 2 (.op 6 1 (.fork 2 (.fork 7 (.op 8 2 (.op 9 2 (.op 10 2 (.op 11 2 (.op 12 0 (.op 13 0 (.op 14 2 (.op 15 2 .nil)))))))) 12 (.op 7 0 (.op 8 2 (.op 9 2 (.op 10 2 (.op 11 2 (.op 13 0 (.op 14 2 (.op 15 2 .nil))))))))) 12 (.op 2 0 (.op 7 0 (.op 8 2 (.op 9 2 (.op 10 2 (.op 11 2 (.op 13 0 (.op 14 2 (.op 15 2 .nil)))))))))))))))) ?_;refine qrp ?_
      have yd:Ext w7 w7.drew:=(kR _ w7).drew
      (repeat (first | refine qs4 ?_ | ((apply w4_take);(· exact yd);(· go_simp);(· (intro w1 hS;have d0:=bX HS7.out hS;have d1:=bH d0;have d2:=bG d0;have d3:=d0.lt;have e0:=bX HM7.out hS;have e1:=(bC e0 j).trans HQC.out;have e2:=e0.lt; go_simp;try with_reducible rfl));refine qnx ?_) | ((apply w4_pass);(· exact yd);(· go_simp);refine qnx ?_)))
      clear hjI
      obtain ⟨hin,bI,hA,hbI,hrI⟩:=HIN.out
      have hOK:=first_okay (V:=V) (Ar:=Ar) HFI.out HCK.out HSV.out.2.1 HSA.out.2.1
      have hml:=mem0_len HFI.out HCK.out
      have hcl:=codeP_len HSZ.out
      have hcp:0 < (codeP p j).length:=by unfold codeP;simp
      have hit:=HIT.out
      have hsh0:=HSH.out
      generalize w7.drew=wd at yd ⊢
      refine w4_fork ?_ ?_
      ·skip
       (refine w4_act (fun K hK=>?_);go_simp)
       go_wp2_with fail
       refine (cinstrs_any cb k _ (HKK.out.box.ext yd) j HL5.out bI 0 (codeP p j) hin (by rw [hin];omega) (by rw [hin];omega) hA (hrI.ext yd)).mono ?_
       rintro e wi ⟨vi,rfl,hoi,hyi⟩
       obtain ⟨gi,ci,rfl,hri,hgi,-⟩:=own_rows hoi zb85 zb84
       have yi:=yd.trans hyi
       refine hK.out _ _ (fun _=>yi) ?_
       clear hK K hoi hgi
       refine w4_fork ?_ ?_
       ·skip
        (refine w4_act (fun K hK=>?_);go_simp)
        go_wp2_with fail
        refine zy58 ?_
        rintro e w5 ⟨v5,q5,rfl,hq5,g5,c5,rfl,-,y5⟩
        have yr:=(yi).trans y5
        refine hK.out _ _ (fun _=>yr) ?_
        clear hK K
        refine zy47 ?_;intro K hK
        have yl:Ext w7 (w5.alloc (.cells #[.int .i64 0,.slice none 0 0,.int .i64 0] 49)):=(yr).alloc _
        refine hK.out _ _ (fun _=>yl) ?_
        clear hK K
        have bb:=bN w5 49 #[.int .i64 0,.slice none 0 0,.int .i64 0]
        have xl:Ext w5 (w5.alloc (.cells #[.int .i64 0,.slice none 0 0,.int .i64 0] 49)):=(kR _ w5).alloc _
        generalize (w5.alloc (.cells #[.int .i64 0,.slice none 0 0,.int .i64 0] 49))=wl at yl bb xl ⊢
        generalize hbn:(w5:World).heap.size=bn at bb ⊢
        have hbn7:w7.heap.size≤bn:=by rw [← hbn];exact (yr).size
        clear hbn
        have l1:=bH bb
        have l2:=Blk.melts bb
        have l3:=(bb).lt
        refine qf4 ?_
        have ks:Kept (·=bn) wl (putAt wl bn 0 (stCells pc (some ⟨g5,0,none⟩) (memN p) c5 sh)):=Kept.putAt (kR _ _) _ 0 _ (fun _=>rfl)
        have ye:Ext w7 (putAt wl bn 0 (stCells pc (some ⟨g5,0,none⟩) (memN p) c5 sh)):=Kept.trans' yl ks (fun i hi e=>by omega)
        clear l1 l2 l3 ks
        generalize (putAt wl bn 0 (stCells pc (some ⟨g5,0,none⟩) (memN p) c5 sh))=we at ye ⊢
        exact KEY.out we gi ci q5 g5 c5 bn ⟨ye,hq5⟩
       ·skip
        (refine w4_act (fun K hK=>?_);go_simp)
        have yl:Ext w7 (wi.alloc (.cells #[.int .i64 0,.slice none 0 0,.int .i64 0] 49)):=(yi).alloc _
        refine hK.out _ _ (fun _=>yl) ?_
        clear hK K
        have bb:=bN wi 49 #[.int .i64 0,.slice none 0 0,.int .i64 0]
        have xl:Ext wi (wi.alloc (.cells #[.int .i64 0,.slice none 0 0,.int .i64 0] 49)):=(kR _ wi).alloc _
        generalize (wi.alloc (.cells #[.int .i64 0,.slice none 0 0,.int .i64 0] 49))=wl at yl bb xl ⊢
        generalize hbn:(wi:World).heap.size=bn at bb ⊢
        have hbn7:w7.heap.size≤bn:=by rw [← hbn];exact (yi).size
        clear hbn
        (refine w4_act (fun K hK=>?_);go_simp)
        go_wp2_with fail
        have hrun:=Mc.run_any (some ⟨gi,0,none⟩) gi 0 (codeP p j).length ci (codeP p j) 0 0 g 0 (memN p) (memN p) (mem0 p j V Ar) (stepN p j) (by have:=HST.out j HL5.out;omega) wl ⟨HOP.out.ext yl,fun _=>rfl,fun _=>(hri.ext xl),rfl,by omega,hml.symm,by rw [← hml];exact hOK.right,hOK.mok,(Blk.row HG7.out).ext yl⟩
        simp only [hit,hsh0,Bool.not_false] at hrun
        refine hrun.mono ?_
        clear hrun
        rintro e w5 ⟨v5,q5,rfl,hq5,g5,c5,rfl,-,y5⟩
        have yr:=(yl).trans y5
        refine hK.out _ _ (fun _=>yr) ?_
        clear hK K
        have l1:=bH (bb.ext y5)
        have l2:=Blk.melts (bb.ext y5)
        have l3:=((bb.ext y5)).lt
        exact zz40
      ·skip
       (refine w4_act (fun K hK=>?_);go_simp)
       have yl:Ext w7 (wd.alloc (.cells #[.int .i64 0,.slice none 0 0,.int .i64 0] 49)):=(yd).alloc _
       refine hK.out _ _ (fun _=>yl) ?_
       clear hK K
       have bb:=bN wd 49 #[.int .i64 0,.slice none 0 0,.int .i64 0]
       have xl:Ext wd (wd.alloc (.cells #[.int .i64 0,.slice none 0 0,.int .i64 0] 49)):=(kR _ wd).alloc _
       generalize (wd.alloc (.cells #[.int .i64 0,.slice none 0 0,.int .i64 0] 49))=wl at yl bb xl ⊢
       generalize hbn:(wd:World).heap.size=bn at bb ⊢
       have hbn7:w7.heap.size≤bn:=by rw [← hbn];exact (yd).size
       clear hbn
       (refine w4_act (fun K hK=>?_);go_simp)
       go_wp2_with fail
       refine (cinstrs_any cb k _ (HKK.out.box.ext yl) j HL5.out bI 0 (codeP p j) hin (by rw [hin];omega) (by rw [hin];omega) hA (hrI.ext yl)).mono ?_
       rintro e wi ⟨vi,rfl,hoi,hyi⟩
       obtain ⟨gi,ci,rfl,hri,hgi,-⟩:=own_rows hoi zb85 zb84
       have yi:=yl.trans hyi
       refine hK.out _ _ (fun _=>yi) ?_
       clear hK K hoi hgi
       (refine w4_act (fun K hK=>?_);go_simp)
       go_wp2_with fail
       refine zy58 ?_
       rintro e w5 ⟨v5,q5,rfl,hq5,g5,c5,rfl,-,y5⟩
       have yr:=(yi).trans y5
       refine hK.out _ _ (fun _=>yr) ?_
       clear hK K
       have l1:=bH ((bb.ext hyi).ext y5)
       have l2:=Blk.melts ((bb.ext hyi).ext y5)
       have l3:=(((bb.ext hyi).ext y5)).lt
       exact zz40
     intro W9 gi ci q g5 c5 bn h9
     obtain ⟨y9,hq9⟩:=h9
     have Y9:=J y9
     have HM9:=J (HM7.out.ext y9)
     have HK9:=J (HKK.out.box.ext y9)
     have g1:decide ((stepN p j:Int) < q)=false:=decide_eq_false zb85
     have g2:¬ stepN p j < q:=by omega
     have hj5:=HL5.out
     have hjI:(j:Int) < 5:=by omega
     have hmost:=HMS.out
     clear y9 hq9
     go_upto_region 13 with (fail)
     refine qr3 (fun wz=>Ext W9 wz) [(0,2),(1,2),(2,2),(3,2),(4,2),(5,2),(6,2),(7,2),(8,2),(9,2),(10,1),(11,2),(12,2),(13,2),(14,2),(15,2),(17,2),(18,2),(19,1),(16,0),(20,2),(21,2)] ?_;refine qrl ?_
     have yd:Ext W9 W9.drew:=(kR _ W9).drew
     (repeat first|refine qs3 ?_|refine qt3 yd (by intro w1 hS;have e0:=bX HM9.out hS;have e1:=(bC e0 j).trans HQC.out;have e2:=e0.lt;exact zgo) ?_|refine qp3 yd ?_)
     (refine w3_act (fun K hK=>?_);go_simp)
     go_wp2_with fail
     refine (cmost_any cb k _ (HK9.out.ext yd) j HL5.out).mono ?_
     rintro e wz ⟨rfl,rfl⟩
     refine hK.out _ _ (fun _=>yd) ?_
     clear hK K
     refine qf3 ?_
     clear g1 g2 hjI
     have HYZ:=J (HKF.out.trans (HY7.out.trans (Y9.out.trans yd)))
     clear yd
     go_wp2_with fail
     go_roundw
     case rel=>exact ⟨j+1,HL5.out,by go_num,HYZ.out⟩
     case measure=>simp only [intOf];omega
   ·obtain rfl:j=5:=by omega
    have HXE:=J (HX5.out.trans HKJ.out)
    go_wp2_with fail
    refine (told16_any wr (HLW.out.ext HXE.out) (HOW.out.ext HXE.out)).mono ?_
    rintro e w9 ⟨rfl,hx9⟩
    have HK9:=J (HK5.out.box.ext (HKJ.out.trans hx9))
    have HX9:=J (HXE.out.trans hx9)
    clear hx9
    go_wp2_with fail
    refine (cmost_no cb k _ HK9.out 5 rfl).mono ?_
    rintro e wa ⟨rfl,rfl⟩
    go_wp2_with fail
    refine (cmost_no cb k _ HK9.out (-1) rfl).mono ?_
    rintro e wa ⟨rfl,rfl⟩
    go_wp2_with fail
    refine (cinstrs_no cb k _ HK9.out 5 rfl).mono ?_
    rintro e wa ⟨rfl,rfl⟩
    go_wp2_with fail
    go_ret
    exact ⟨rfl,HX0.out.trans HX9.out⟩
open Go.RowKit Go.Deep Go.ChangeShapes Go.WideShapes So Mc
namespace compileSteps
set_option maxRecDepth 100000 in
theorem walk {H:Type} {enc:TypeId × Value→H} (W:World) (base:Nat) (v0 v1:Value) (d0:DataW H) (p0:List MemPlace) (d1:DataW H) (p1:List MemPlace)
 (o0:Value.okWide Tryz.prog W .any base 26 v0) (o1:Value.okWide Tryz.prog W .any base 28 v1)
 (h0:DataW.Trod enc Tryz.prog W 0 (fun _=>true) true 26 v0 d0 p0) (h1:DataW.Trod enc Tryz.prog W 0 (fun _=>true) true 28 v1 d1 p1) (hL:laidMetH Tryz.prog Rows.compileStepsUptoRow.laid W)
 {gs:List (DataW H)} (hk:Rows.uptoSmall H ([d0,d1] ++ gs)=true)
 (z0:light Tryz.prog 26 d0) (z1:light Tryz.prog 28 d1) (hS:W.ShapedOpen Tryz.prog) :
 Calls Tryz.prog 8 #[v0,v1] W fun e w'=>e=.returned (.bool true)∧Ext W w':=by
 obtain ⟨c,q,rfl,hp,hc,hs⟩:=prog_in3 o0 h0 z0
 obtain ⟨s,t,l,m,rfl,hm,hn⟩:=mem2_of o1 h1 z1
 refine zy98 ?_;intro hk hLA hOA
 exact lsteps_any c q s t l m W.heap.size W (Nat.le_refl _) hp hLA hOA hc zb85 hm hn
end compileSteps
end Go.Proofs.YtbfbabbcdochjaaGreatDoor
