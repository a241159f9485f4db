/- Several texts joined: Dl. -/
import Derived.Test.YtbfbabbcdochjaaGreatDoorRxpk
import Derived.Test.YtbfbabbcdochjaaGreatDoorRxba
set_option maxHeartbeats 4000000
namespace Go.Proofs.YtbfbabbcdochjaaGreatDoor
open Go.RowKit So Mc
set_option maxRecDepth 100000 in
theorem mloop_any (x:Mst) (part f:Nat) (W:Wd) (hM:Mok x W) (κ:Kn) (hWz:∀ s,κ s=0→W s=0) (f8:f < 8) (low high:Int) (s:Str) (A:Option Addr) (n ec:Nat) (lA:Option Addr) (lc:Nat) (l:SF) (xA:Option Addr) (xn xc:Nat) (L:List Ins) (w:World) (h:x.at w f W L)
 (hk:κ s=0) (hlo:-2147483648≤low∧low≤2147483647) (hhi:-2147483648≤high∧high≤2147483647) (hl:SSl w x.N lA l.len l) (il:BkM x part l) (hc:chkB part (upd κ s 3) (f+1) false l=none) (zl:l.size≤1099511627776) (e:EF) (els:SF) (hL:L.length+(cS x.k W f L.length 3 s e low high l els).length≤4000) :
 Calls Tryz.prog 131 #[.pointer (some ⟨x.mb,0,none⟩),.agg (scells 3 s A n ec low high lA l.len lc xA xn xc)] w fun z w'=>z=.returned (.tuple #[])∧x.at w' f W (L ++ cS x.k W f L.length 3 s e low high l els)∧KT x.B x.wm w w':=by
 have hW0:=hWz s hk
 obtain ⟨up,hup⟩:∃ up,up=upI x.k f:=⟨_,rfl⟩
 obtain ⟨Bc,hBc⟩:∃ Bc,Bc=cB x.k l (updW W s up) (f+1) ((L.length:Int)+3):=⟨_,rfl⟩
 have hup':up=x.b+17+2 * f:=by rw [hup];rfl
 have hcode:cS x.k W f L.length 3 s e low high l els=if high < low then [] else cFor x.k f L.length low high Bc:=by rw [hBc,hup];rfl
 rw [hcode] at hL ⊢
 obtain ⟨CD,hCD⟩:∃ CD,CD=if high < low then [] else cFor x.k f L.length low high Bc:=⟨_,rfl⟩
 have HCD:=J hCD
 have HBc:=J hBc
 have HUP:=J hup
 obtain ⟨h0,h1,h2,h3⟩:=hM
 have hMW:Mok x (updW W s up):=⟨h0,h1,fun t=>by unfold updW;split;omega;exact h2 t,fun t=>by unfold updW;split;omega;exact h3 t⟩
 have hWW:∀ t,upd κ s 3 t=0→updW W s up t=0:=fun t ht=>by
  unfold upd at ht
  unfold updW
  split at ht
  ·exact absurd ht zb84
  ·rename_i hne
   rw [if_neg hne]
   exact hWz t ht
 have HMW:=J hMW
 have HWW:=J hWW
 have HC:=J hc
 have HZ:=J zl
 have HIl:=J il
 have HSl:=J hl
 have HNB:=J (And.intro h.hN h.hB)
 refine zy66 ?_;intro hmf
 have hw16:=wrap_i64 (n:=x.b+16) zb74
 have hw17:=wrap_i64 (n:=x.b+17) zb74
 have hw2:=wrap_i64 (n:=2 * (f:Int)) zb74
 have hwu:IntKind.i64.wrap (x.b+17+2 * (f:Int))=up:=by rw [hup'];exact wrap_i64 zb74
 have hwl:=wrap_i64 (n:=up+1) zb74
 have hwf:=wrap_i64 (n:=(f:Int)+1) zb74
 have hwd:=wrap_i64 (n:=high - low) zb74
 have hwe:=wrap_i64 (n:=high - low+1) zb74
 have iup:i64ok up:=by unfold i64ok;omega
 have iup1:i64ok (up+1):=by unfold i64ok;omega
 have ion:i64ok (x.b+16):=by unfold i64ok;omega
 have ilo:i64ok low:=by unfold i64ok;omega
 have ird:i64ok (high - low+1):=by unfold i64ok;omega
 have hl6:high < low ∨ L.length+6+Bc.length≤4000:=by
  by_cases q:high < low
  ·exact .inl q
  ·rw [if_neg q] at hL
   simp only [cFor,List.length_append,List.length_cons,List.length_nil] at hL
   exact .inr zb85
 rw [← hCD]
 clear hup hup' hBc hcode hMW hWW hc zl il hl hWz hL hCD
 go_enter_defers Tryz.func131,Tryz.ntmps131
 go_upto_region 1 with (fail)
 obtain ⟨p4,hp4⟩:∃ p4,p4=w.heap.size:=⟨_,rfl⟩
 obtain ⟨W1,hW1⟩:∃ W1,W1=(w.alloc (.cells #[.pointer (some ⟨x.mb,0,none⟩)] 153)).alloc (.cells (scells 3 s A n ec low high lA l.len lc xA xn xc) 151):=⟨_,rfl⟩
 have y1:Ext w W1:=by rw [hW1];exact ((kR _ w).alloc _).alloc _
 have h4:Blk W1 p4 153 #[.pointer (some ⟨x.mb,0,none⟩)]:=by rw [hW1,hp4];exact (bN w _ _).alloc _
 have h7:Blk W1 (p4+1) 151 (scells 3 s A n ec low high lA l.len lc xA xn xc):=by
  rw [hW1,hp4]
  exact Blk.new' _ _ _ _ zb86
 rw [← hW1,← hp4]
 have hp7:(w.alloc (.cells #[.pointer (some ⟨x.mb,0,none⟩)] 153)).heap.size=p4+1:=by rw [hp4];simp
 clear hW1 hp4
 try rw [hp7]
 clear hp7
 have H4:=J h4
 have H7:=J h7
 have HM0:=J (h.ext y1)
 have Y0:=J (KT.refl x.B x.wm W1)
 have i1:=bC h4
 have i2:=h4.lt
 have j1:=bC h7
 have j2:=h7.lt
 clear h h4 h7
 by_cases hlt:high < low
 ·have hg:decide (high < low)=true:=decide_eq_true hlt
  go_wp2_with fail
  refine ⟨_,results_none rfl _ _ _,rfl,?_,KT.ext y1⟩
  rw [HCD.out,if_pos hlt,List.append_nil]
  exact HM0.out
 have hg:decide (high < low)=false:=decide_eq_false hlt
 have HCE:=J (show CD=cFor x.k f L.length low high Bc from by rw [HCD.out,if_neg hlt])
 have HLL:=J (hl6.resolve_left hlt)
 clear hl6 hlt
 obtain ⟨_,_,_,m0,_⟩:=(HM0.out).blk
 have m1:=m0.lt
 have m2:=Blk.frozen m0
 have HB0:=J m0
 have m0:=bC m0
 go_upto_region 3 with (fail)
 clear i1 i2 j1 j2 m0 m1 m2
 refine qr3 (fun wz=>Kept (fun _=>False) W1 wz) [(0,1),(1,2),(2,2),(3,1),(4,2),(5,1),(6,2),(7,2),(8,1),(9,2),(10,2),(11,2)] ?_;refine qrl ?_
 (repeat first|refine qs3 ?_|refine qt3 (Kept.drew (kR _ _)) (by intro w1 hS;have d1:=bC (bX H4.out hS);have d2:=(bX H4.out hS).lt;have d5:=bC (bX HB0.out hS);have d6:=(bX HB0.out hS).lt;exact zgo) ?_|refine qp3 (Kept.drew (kR _ _)) ?_)
 refine qf3 ?_
 have yd:=(kR (fun _=>False) W1).drew
 have HM1:=J (HM0.out.ext yd)
 have Y1:=J (KT.ext (B:=x.B) (wm:=x.wm) yd)
 clear yd HB0
 have q4:=KT.block Y1.out H4.out zb84 zb84
 have i1:=bC q4
 have i2:=q4.lt
 have q7:=KT.block Y1.out H7.out zb84 zb84
 have j1:=bC q7
 have j2:=q7.lt
 obtain ⟨aq,nq,cq,m0,mo⟩:=(HM1.out).blk
 have hnq:=(HM1.out).len mo
 have m1:=m0.lt
 have m2:=Blk.frozen m0
 have m0:=bC m0
 clear q4 q7 mo
 clear hnq
 obtain ⟨w2,hw2⟩:∃ w2,w2=(W1.setCell ⟨x.mb,14,none⟩ (.int .i64 ((f:Int)+1))).drew:=⟨_,rfl⟩
 obtain ⟨hM2,hK2⟩:MS w2 x.B x.N x.mb x.p x.c x.b x.wm x.sm x.em (f+1) W L∧KT x.B x.wm W1.drew w2:=by rw [hw2];exact HM1.out.fors (f+1)
 have HM2:=J hM2
 have Y2:=J (Y1.out.trans hK2)
 have HW2:=J hw2
 clear hM2 hK2 hw2
 go_upto_region 6 with (fail)
 rw [← HW2.out]
 clear i1 i2 j1 j2 m0 m1 m2
 obtain ⟨F,hF,hFW⟩:=HM2.out.words
 obtain ⟨w3,hrun,hF3,hk3⟩:=SMap.put (P:=Tryz.prog) (hF.ext (kR (fun _=>False) w2).drew) Tryz.underlying154 Tryz.underlying9 s (.int .i64 up)
 obtain ⟨hM3,hK3⟩:=(HM2.out.ext (kR (fun _=>False) w2).drew).word hk3 hF3 (updW_on W s up F hFW)
 have HM3:=J hM3
 have Y3:=J (Y2.out.trans ((KT.ext (B:=x.B) (wm:=x.wm) (kR (fun _=>False) w2).drew).trans hK3))
 have K3:=J hk3
 have B4:=J (KT.block Y2.out H4.out zb84 zb84)
 have B7:=J (KT.block Y2.out H7.out zb84 zb84)
 obtain ⟨_,_,_,m0,_⟩:=(HM2.out).blk
 have B2:=J m0
 have e1:=J (hF.ne_blk B4.out)
 have e2:=J (hF.ne_blk B7.out)
 have e3:=J (hF.ne_blk m0)
 clear hM3 hK3 hk3 hF3 hFW hF m0
 refine qr3 (fun wz=>Kept (·=x.wm) w2 wz) [(0,1),(1,2),(2,2),(3,1),(4,2),(5,1),(6,2),(7,0)] ?_;refine qrl ?_
 (repeat first|refine qs3 ?_|refine qt3 (Kept.drew (kR _ _)) (by intro w1 hS;have d1:=bC (bK B4.out hS e1.out);have d2:=(bK B4.out hS e1.out).lt;have d3:=bC (bK B7.out hS e2.out);have d4:=(bK B7.out hS e2.out).lt;have d5:=bC (bK B2.out hS e3.out);have d6:=(bK B2.out hS e3.out).lt;exact zgo) ?_|refine qp3 (Kept.drew (kR _ _)) ?_)
 refine w3_act (fun K hK=>?_)
 refine if_want' rfl ?_
 refine wp_ins_run _ _ _ _ _ rfl rfl rfl rfl rfl hrun ?_
 refine hK.out _ _ (fun _=>(Kept.drew (kR _ _)).trans K3.out) ?_
 clear hK K hrun
 refine qf3 ?_
 clear B4 B7 B2 e1 e2 e3 K3
 have q4:=KT.block Y3.out H4.out zb84 zb84
 have i1:=bC q4
 have i2:=q4.lt
 have q7:=KT.block Y3.out H7.out zb84 zb84
 have j1:=bC q7
 have j2:=q7.lt
 obtain ⟨aq,nq,cq,m0,mo⟩:=(HM3.out).blk
 have hnq:=(HM3.out).len mo
 have m1:=m0.lt
 have m2:=Blk.frozen m0
 have m0:=bC m0
 clear q4 q7 mo
 clear hnq
 go_wp2_with fail
 refine (put_any x.B x.N x.mb x.wm x.sm x.em (f+1) x.p x.c x.b (updW W s up) (L) ⟨1,x.b+16,1,0⟩ ⟨(i64_small (n:=1) zb84),ion,(i64_small (n:=1) zb84),(i64_small (n:=0) zb84)⟩ zb28 _ (HM3.out)).mono ?_
 rintro e w11 ⟨rfl,hm11,hk11⟩
 have HM11:=J hm11
 have Y11:=J (Y3.out.trans hk11)
 clear hm11 hk11
 clear i1 i2 j1 j2 m0 m1 m2
 have q4:=KT.block Y11.out H4.out zb84 zb84
 have i1:=bC q4
 have i2:=q4.lt
 have q7:=KT.block Y11.out H7.out zb84 zb84
 have j1:=bC q7
 have j2:=q7.lt
 obtain ⟨aq,nq,cq,m0,mo⟩:=(HM11.out).blk
 have hnq:=(HM11.out).len mo
 have m1:=m0.lt
 have m2:=Blk.frozen m0
 have m0:=bC m0
 clear q4 q7 mo
 clear hnq
 go_wp2_with fail
 refine (put_any x.B x.N x.mb x.wm x.sm x.em (f+1) x.p x.c x.b (updW W s up) (L ++ [⟨1,x.b+16,1,0⟩]) ⟨1,up,low,0⟩ ⟨(i64_small (n:=1) zb84),iup,ilo,(i64_small (n:=0) zb84)⟩ zb28 _ (HM11.out)).mono ?_
 rintro e w12 ⟨rfl,hm12,hk12⟩
 have HM12:=J hm12
 have Y12:=J (Y11.out.trans hk12)
 clear hm12 hk12
 clear i1 i2 j1 j2 m0 m1 m2
 have q4:=KT.block Y12.out H4.out zb84 zb84
 have i1:=bC q4
 have i2:=q4.lt
 have q7:=KT.block Y12.out H7.out zb84 zb84
 have j1:=bC q7
 have j2:=q7.lt
 obtain ⟨aq,nq,cq,m0,mo⟩:=(HM12.out).blk
 have hnq:=(HM12.out).len mo
 have m1:=m0.lt
 have m2:=Blk.frozen m0
 have m0:=bC m0
 clear q4 q7 mo
 clear hnq
 go_wp2_with fail
 refine (put_any x.B x.N x.mb x.wm x.sm x.em (f+1) x.p x.c x.b (updW W s up) (L ++ [⟨1,x.b+16,1,0⟩] ++ [⟨1,up,low,0⟩]) ⟨1,up+1,high - low+1,0⟩ ⟨(i64_small (n:=1) zb84),iup1,ird,(i64_small (n:=0) zb84)⟩ zb28 _ (HM12.out)).mono ?_
 rintro e w13 ⟨rfl,hm13,hk13⟩
 have HM13:=J hm13
 have Y13:=J (Y12.out.trans hk13)
 clear hm13 hk13
 clear i1 i2 j1 j2 m0 m1 m2
 have q4:=KT.block Y13.out H4.out zb84 zb84
 have i1:=bC q4
 have i2:=q4.lt
 have q7:=KT.block Y13.out H7.out zb84 zb84
 have j1:=bC q7
 have j2:=q7.lt
 obtain ⟨aq,nq,cq,m0,mo⟩:=(HM13.out).blk
 have hnq:=(HM13.out).len mo
 have m1:=m0.lt
 have m2:=Blk.frozen m0
 have m0:=bC m0
 clear q4 q7 mo
 obtain ⟨bg,hbg⟩:∃ bg,bg=(L ++ [⟨1,x.b+16,1,0⟩] ++ [⟨1,up,low,0⟩] ++ [⟨1,up+1,high - low+1,0⟩]:List Ins).length:=⟨_,rfl⟩
 rw [← hbg] at hnq
 have hnq':=hnq.symm
 clear hnq
 subst hnq'
 have HBG:=J hbg
 clear hbg
 -- S1
 go_wp2_with fail
 -- S2
 have hat:(((L ++ [⟨1,x.b+16,1,0⟩] ++ [⟨1,up,low,0⟩] ++ [⟨1,up+1,high - low+1,0⟩]:List Ins).length:Nat):Int)=(L.length:Int)+3:=by simp only [List.length_append,List.length_cons,List.length_nil];omega
 refine (HIl.out (f+1) (updW W s up) (upd κ s 3) false lA lc (L ++ [⟨1,x.b+16,1,0⟩] ++ [⟨1,up,low,0⟩] ++ [⟨1,up+1,high - low+1,0⟩]) _ HMW.out HWW.out zb85 (HM13.out) (HSl.out.kt ((KT.ext y1).trans Y13.out) HNB.out.1 HNB.out.2) HC.out HZ.out (by rw [hat,← HBc.out];have:=HLL.out;simp only [List.length_append,List.length_cons,List.length_nil];omega)).mono ?_
 rintro e w20 ⟨rfl,hm20,hk20⟩
 rw [hat,← HBc.out] at hm20
 have HM20:=J hm20
 have Y20:=J (Y13.out.trans hk20)
 clear hm20 hk20 hat
 clear i1 i2 j1 j2 m0 m1 m2
 have q4:=KT.block Y20.out H4.out zb84 zb84
 have i1:=bC q4
 have i2:=q4.lt
 have q7:=KT.block Y20.out H7.out zb84 zb84
 have j1:=bC q7
 have j2:=q7.lt
 obtain ⟨aq,nq,cq,m0,mo⟩:=(HM20.out).blk
 have hnq:=(HM20.out).len mo
 have m1:=m0.lt
 have m2:=Blk.frozen m0
 have m0:=bC m0
 clear q4 q7 mo
 clear hnq
 go_wp2_with fail
 refine (put_any x.B x.N x.mb x.wm x.sm x.em (f+1) x.p x.c x.b (updW W s up) (L ++ [⟨1,x.b+16,1,0⟩] ++ [⟨1,up,low,0⟩] ++ [⟨1,up+1,high - low+1,0⟩] ++ Bc) ⟨3,up,up,x.b+16⟩ ⟨(i64_small (n:=3) zb84),iup,iup,ion⟩ zb28 _ (HM20.out)).mono ?_
 rintro e w21 ⟨rfl,hm21,hk21⟩
 have HM21:=J hm21
 have Y21:=J (Y20.out.trans hk21)
 clear hm21 hk21
 clear i1 i2 j1 j2 m0 m1 m2
 have q4:=KT.block Y21.out H4.out zb84 zb84
 have i1:=bC q4
 have i2:=q4.lt
 have q7:=KT.block Y21.out H7.out zb84 zb84
 have j1:=bC q7
 have j2:=q7.lt
 obtain ⟨aq,nq,cq,m0,mo⟩:=(HM21.out).blk
 have hnq:=(HM21.out).len mo
 have m1:=m0.lt
 have m2:=Blk.frozen m0
 have m0:=bC m0
 clear q4 q7 mo
 clear hnq
 go_wp2_with fail
 refine (put_any x.B x.N x.mb x.wm x.sm x.em (f+1) x.p x.c x.b (updW W s up) (L ++ [⟨1,x.b+16,1,0⟩] ++ [⟨1,up,low,0⟩] ++ [⟨1,up+1,high - low+1,0⟩] ++ Bc ++ [⟨3,up,up,x.b+16⟩]) ⟨4,up+1,up+1,x.b+16⟩ ⟨(i64_small (n:=4) zb84),iup1,iup1,ion⟩ zb28 _ (HM21.out)).mono ?_
 rintro e w22 ⟨rfl,hm22,hk22⟩
 have HM22:=J hm22
 have Y22:=J (Y21.out.trans hk22)
 clear hm22 hk22
 clear i1 i2 j1 j2 m0 m1 m2
 have q4:=KT.block Y22.out H4.out zb84 zb84
 have i1:=bC q4
 have i2:=q4.lt
 have q7:=KT.block Y22.out H7.out zb84 zb84
 have j1:=bC q7
 have j2:=q7.lt
 obtain ⟨aq,nq,cq,m0,mo⟩:=(HM22.out).blk
 have hnq:=(HM22.out).len mo
 have m1:=m0.lt
 have m2:=Blk.frozen m0
 have m0:=bC m0
 clear q4 q7 mo
 clear hnq
 go_wp2_with fail
 refine (put_any x.B x.N x.mb x.wm x.sm x.em (f+1) x.p x.c x.b (updW W s up) (L ++ [⟨1,x.b+16,1,0⟩] ++ [⟨1,up,low,0⟩] ++ [⟨1,up+1,high - low+1,0⟩] ++ Bc ++ [⟨3,up,up,x.b+16⟩] ++ [⟨4,up+1,up+1,x.b+16⟩]) ⟨21,bg,up+1,0⟩ ⟨(i64_small (n:=21) zb84),(by have:=HLL.out;have e:=HBG.out;simp only [List.length_append,List.length_cons,List.length_nil] at e;show i64ok (bg:Int);unfold i64ok;omega),iup1,(i64_small (n:=0) zb84)⟩ zb28 _ (HM22.out)).mono ?_
 rintro e w23 ⟨rfl,hm23,hk23⟩
 have HM23:=J hm23
 have Y23:=J (Y22.out.trans hk23)
 clear hm23 hk23
 clear i1 i2 j1 j2 m0 m1 m2
 have q4:=KT.block Y23.out H4.out zb84 zb84
 have q7:=KT.block Y23.out H7.out zb84 zb84
 have Q4:=J q4
 have Q7:=J q7
 clear q4 q7
 -- S3
 go_wp2_with fail
 -- S4
 refine leaves_cons (f:=166) (args:=#[.pointer (some ⟨p4,0,none⟩),.pointer (some ⟨p4+1,0,none⟩)]) zb86 (by simp [go_sem]) ?_
 refine (unloop_any x f W zb85 low high s hW0 up ec lc xc A lA xA n l.len xn p4 (p4+1) zb85 (L ++ [⟨1,x.b+16,1,0⟩] ++ [⟨1,up,low,0⟩] ++ [⟨1,up+1,high - low+1,0⟩] ++ Bc ++ [⟨3,up,up,x.b+16⟩] ++ [⟨4,up+1,up+1,x.b+16⟩] ++ [⟨21,bg,up+1,0⟩]) .returning _ (HM23.out) Q4.out Q7.out).mono ?_
 -- S5
 rintro e u' w30 ⟨rfl,rfl,hmf,hkf⟩
 refine ⟨_,results_none rfl _ _ _,rfl,?_,(KT.ext y1).trans (Y23.out.trans hkf)⟩
 have hbg:(bg:Int)=(L.length:Int)+3:=by
  have e:=HBG.out
  simp only [List.length_append,List.length_cons,List.length_nil] at e
  omega
 rw [hbg] at hmf
 rw [HUP.out] at hmf
 rw [HCE.out]
 unfold cFor
 simp only [List.append_assoc,List.cons_append,List.nil_append] at hmf ⊢
 exact hmf
end Go.Proofs.YtbfbabbcdochjaaGreatDoor
