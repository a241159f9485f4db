/- Several texts joined: Js, Jt, Ju, Uh. -/
import Derived.Test.YtbfbabbcdochjaaGreatDoorRxpk
import Derived.Test.YtbfbabbcdochjaaGreatDoorRxao
import Derived.Test.YtbfbabbcdochjaaGreatDoorRxas
import Derived.Test.YtbfbabbcdochjaaGreatDoorRxbf
import Derived.Test.YtbfbabbcdochjaaGreatDoorRxbk
import Derived.Test.YtbfbabbcdochjaaGreatDoorRxbo
set_option maxHeartbeats 4000000
namespace Go.Proofs.YtbfbabbcdochjaaGreatDoor
open Go.RowKit So Mc
def lastS (p:Pr) (part:Nat) (V Ar:List Int):Int × Int × List Int:=itI (codeP p part) (stepN p part) (0,0,mem0 p part V Ar)
theorem mem0_ok {p:Pr} (h:Chk p) (part:Int) {V Ar:List Int} (hV:∀ x ∈ V,i32ok x) (hA:∀ x ∈ Ar,i32ok x):∀ x ∈ mem0 p part V Ar,i32ok x:=fun x hx=>by
 unfold mem0 at hx
 rw [List.mem_append,List.mem_append,List.mem_replicate] at hx
 rcases hx with hx | hx | ⟨-,e⟩
 ·split at hx
  ·exact firsts_ok h x hx
  ·exact hV x hx
 ·exact hA x hx
 ·subst e;unfold i32ok;omega
theorem mem0_len {p:Pr} {part:Int} {V Ar:List Int} (h:fitsN p part V Ar=0) (hk:Chk p):(mem0 p part V Ar).length=memN p:=by
 obtain ⟨_,_,h3,h4,_⟩:=fitsN_zero h
 have hc:=firsts_len p.vars
 have h0:=cells_pos p.vars
 have hp:=hk.np
 unfold mem0 memN
 rw [List.length_append,List.length_append,List.length_replicate]
 unfold wantN at h3
 unfold giveN at h4
 split at h3
 ·rename_i e
  rw [if_pos e]
  split at h4
  ·omega
  ·split at h4 <;> omega
 ·rename_i e
  rw [if_neg e]
  split at h4
  ·omega
  ·split at h4 <;> omega
theorem codeP_len {p:Pr} {i:Nat} (h:(partOf p i).size≤256):(codeP p i).length≤1793:=by
 have:=codeB_len h
 unfold codeP
 rw [List.length_append]
 simp only [List.length_cons,List.length_nil]
 omega
theorem first_okay {p:Pr} {part:Int} {V Ar:List Int} (h:fitsN p part V Ar=0) (hk:Chk p) (hV:∀ x ∈ V,i32ok x) (hA:∀ x ∈ Ar,i32ok x):Okay 0 0 (mem0 p part V Ar):=by
 refine ⟨?_,mem0_ok hk part hV hA⟩
 rw [mem0_len h hk]
 have h0:=cells_pos p.vars
 have h1:=hk.cells
 have hn:(memN p:Int)=cells p.vars+49:=by unfold memN;omega
 simp [rightS]
 omega
theorem lastS_okay {p:Pr} {part:Nat} {V Ar:List Int} (h:fitsN p part V Ar=0) (hk:Chk p) (hl:(partOf p part).size≤256) (hV:∀ x ∈ V,i32ok x) (hA:∀ x ∈ Ar,i32ok x) :
 Okay (lastS p part V Ar).1 (lastS p part V Ar).2.1 (lastS p part V Ar).2.2∧(lastS p part V Ar).2.2.length=memN p:=by
 have h1:=itI_okay (c:=codeP p part) (by have:=codeP_len hl;omega) (s:=(0,0,mem0 p part V Ar)) (first_okay h hk hV hA) (stepN p part)
 exact ⟨h1.1,h1.2.trans (mem0_len h hk)⟩
theorem OutNew.from_ {w w5 w':World} {v:OutV} {o:Ou} (h:OutNew w5 w' v o) (hw:w.heap.size≤w5.heap.size):OutNew w w' v o :=
 ⟨own_mono h.vars hw,own_mono h.asks hw,h.refused,h.seat,h.cell,h.sides,h.rest⟩
theorem OutNew.kept {S:Nat→Prop} {w w' w2:World} {v:OutV} {o:Ou} (h:OutNew w w' v o) (hk:Kept S w' w2) (h1:∀ g,v.vars.v.ownBlock=some g→¬ S g) (h2:∀ g,v.asks.v.ownBlock=some g→¬ S g):OutNew w w2 v o :=
 ⟨own_kept h.vars hk h1,own_kept h.asks hk h2,h.refused,h.seat,h.cell,h.sides,h.rest⟩
inductive RunOut (p:Pr) (part:Int) (V Ar:List Int) (w w':World):Ending→Prop
 | bad (h:¬ fitsN p part V Ar=0):RunOut p part V Ar w w' (.returned (.tuple #[.agg outZ.c,.int .i64 (fitsN p part V Ar)]))
 | runs (K:Nat) (hK:part=K) (h:fitsN p part V Ar=0) (hh:(lastS p K V Ar).2.1=0):RunOut p part V Ar w w' (.returned (.tuple #[.agg outZ.c,.int .i64 10]))
 | ok (K:Nat) (hK:part=K) (h:fitsN p part V Ar=0) (hh:¬ (lastS p K V Ar).2.1=0) (v:OutV) (hv:OutNew w w' v (outP p K (lastS p K V Ar).2.1 (lastS p K V Ar).2.2)) :
  RunOut p part V Ar w w' (.returned (.tuple #[.agg v.c,.int .i64 0]))
theorem RunOut.bad' {p:Pr} {part:Int} {V Ar:List Int} {w w':World} {F:Int} (e:F=fitsN p part V Ar) (h:¬ F=0):RunOut p part V Ar w w' (.returned (.tuple #[.agg outZ.c,.int .i64 F])):=by
 subst e
 exact .bad h
set_option maxRecDepth 100000 in
theorem crun_any (cb N:Nat) (k:Cd) (p:Pr) (part:Int) (vs ag:Sl3) (V Ar:List Int) (w:World) (hN:N≤w.heap.size) (hC:CodeAt w N cb k p) (hv:M32 w N vs V) (ha:M32 w N ag Ar) (hk:Chk p) (hl:¬ longAt p) (hst:∀ i,i < 5→stepN p i≤65536) (hops:OpsAt w) :
 Calls Tryz.prog 15 #[.pointer (some ⟨cb,0,none⟩),.int .i64 part,vs.v,ag.v] w fun e w'=>Ext w w'∧RunOut p part V Ar w w' e:=by
 have HC:=J hC
 have HV:=J hv
 have HA:=J ha
 have HN:=J hN
 have HK:=J hk
 have HL:=J hl
 have HST:=J hst
 have HOP:=J hops
 clear hC hv ha hN hk hl hst hops
 have y0:=(kR (fun _=>False) w).alloc (.cells outZ.c 38)
 have b0:=bN w 38 outZ.c
 go_enter Tryz.func15,Tryz.ntmps15
 go_upto_region 1 with (fail)
 generalize (w.alloc (.cells outZ.c 38))=W1 at y0 b0 ⊢
 generalize hrb:(w:World).heap.size=rb at b0 ⊢
 have HRB:=J hrb
 have HB0:=J b0
 have HY0:=J y0
 clear b0 y0 hrb
 go_wp2_with fail
 refine (cstate_any cb N k p part vs ag V Ar _ (Nat.le_trans HN.out HY0.out.size) (HC.out.ext HY0.out) (HV.out.ext HY0.out) (HA.out.ext HY0.out) HK.out).mono ?_
 rintro e w2 ⟨y2,ho⟩
 have HY2:=J y2
 have HB2:=J (bX HB0.out y2)
 clear y2
 cases ho with
 | bad hne0 =>
  obtain ⟨F,hF⟩:∃ F,F=fitsN p part V Ar:=⟨_,rfl⟩
  rw [← hF] at hne0 ⊢
  have HF:=J hF
  clear hF
  have hne:(F != 0)=true:=bne_iff_ne.2 hne0
  have HF0:=J hne0
  clear hne0
  have y3:=(kR (fun _=>False) w2).alloc (.cells #[.int .i64 0,.slice none 0 0,.int .i64 0] 49)
  have b3:=HB2.out.ext y3
  go_upto_region 2 with (fail)
  generalize (w2.alloc (.cells #[.int .i64 0,.slice none 0 0,.int .i64 0] 49))=w3 at y3 b3 ⊢
  have HY3:=J y3
  have l1:=bH b3
  have l2:=Blk.melts b3
  have l3:=b3.lt
  have HB3:=J b3
  clear b3 y3
  go_wp2_with fail
  have kp:Kept (·=rb) w3 (putAt w3 rb 0 outZ.c):=Kept.putAt (kR _ _) _ 0 _ (fun _=>rfl)
  refine ret_ci (t:=38) (g:=rb) (cs:=outZ.c) Tryz.results15 rfl rfl aggOutT zb81 (by exact Blk.put_ HB3.out 0 _) ⟨?_,.bad' HF.out HF0.out⟩
  exact ((HY0.out.trans HY2.out).trans HY3.out).trans' kp (fun i hi e=>by have:=HRB.out;omega)
 | ok h0 g hg hbg =>
  have HF:=J h0
  have HG:=J hg
  have HBG:=J hbg
  obtain ⟨hp0,hp4,-,-,-⟩:=fitsN_zero h0
  clear h0 hg hbg
  have y3:=(kR (fun _=>False) w2).alloc (.cells #[.int .i64 0,.slice (some ⟨g,0,none⟩) (memN p) (memN p),.int .i64 0] 49)
  have b3:=bN w2 49 #[.int .i64 0,.slice (some ⟨g,0,none⟩) (memN p) (memN p),.int .i64 0]
  go_upto_region 2 with (fail)
  generalize (w2.alloc (.cells #[.int .i64 0,.slice (some ⟨g,0,none⟩) (memN p) (memN p),.int .i64 0] 49))=w3 at y3 b3 ⊢
  generalize hsb:(w2:World).heap.size=sb at b3 ⊢
  have HSB:=J (show w.heap.size≤sb∧rb < sb by have h:=HB2.out.lt;have:=HY0.out.size;have:=HY2.out.size;omega)
  have HY3:=J ((HY0.out.trans HY2.out).trans y3)
  have HS3:=J b3
  have HR3:=J (HB2.out.ext y3)
  have HG3:=J (HBG.out.ext y3)
  have HC3:=J (HC.out.ext HY3.out)
  clear y3 b3 hsb
  have hj:part=0 ∨ part=1 ∨ part=2 ∨ part=3 ∨ part=4:=by omega
  clear hp0 hp4
  rcases hj with rfl | rfl | rfl | rfl | rfl
  ·skip
   go_upto_region 4 with (fail)
   refine zy24 ?_
   have yd:Ext w3 w3.drew:=(kR _ w3).drew
   (repeat first|refine qs3 ?_|refine qt3 yd zb5 ?_|refine qp3 yd ?_)
   have HIN:=J (HC3.out.ins 0 zb85)
   have HMS:=J (HC3.out.most 0 zb85)
   have HSZ:=J (show (partOf p 0).size≤256 from Nat.le_of_not_lt (fun h=>HL.out ⟨0,by omega,h⟩))
   refine zy53 ?_;intro hin bI hA hbI hrI hOK hml K hK
   go_wp2_with fail
   refine (Mc.run_any k.i0.A bI 0 k.i0.n k.i0.c (codeP p 0) 0 0 g 0 (memN p) (memN p) (mem0 p 0 V Ar) (k.m 0) (by rw [HMS.out];have:=HST.out 0 zb85;omega) _ ⟨HOP.out.ext (HY3.out.trans yd),fun _=>hA,fun _=>hrI.ext yd,hin,by have h1:k.i0.n=_:=hin;have:=codeP_len HSZ.out;omega,hml.symm,by rw [← hml];exact hOK.right,hOK.mok,(Blk.row HG3.out).ext yd⟩).mono ?_
   rintro e w5 ⟨v5,q5,rfl,hq5,g5,c5,rfl,hM5,y5⟩
   have y6:=yd.trans y5
   refine hK.out _ _ (fun _=>y6) ?_
   clear hK K hOK hml hin hA hbI hrI
   rw [HMS.out] at hM5 ⊢
   have HOL:=J (lastS_okay (part:=0) (V:=V) (Ar:=Ar) HF.out HK.out HSZ.out HV.out.2.1 HA.out.2.1)
   have hLS:itI (codeP p 0) (stepN p 0) (0,0,mem0 p 0 V Ar)=lastS p 0 V Ar:=rfl
   rw [hLS] at hM5 ⊢
   clear hLS
   obtain ⟨T,hT⟩:∃ T,T=lastS p 0 V Ar:=⟨_,rfl⟩
   rw [← hT] at hM5 HOL ⊢
   have HT:=J hT
   clear hT
   obtain ⟨pc,halt,m⟩:=T
   simp only at hM5 HOL ⊢
   have HM5:=J hM5
   have HS5:=J (HS3.out.ext y6)
   have HR5:=J (HR3.out.ext y6)
   have HY5:=J y6
   clear hM5 y6 yd y5 hq5
   have l1:=bH HS5.out
   have l2:=Blk.melts HS5.out
   have l3:=HS5.out.lt
   refine qf3 ?_
   clear l1 l2 l3
   refine zy106 ?_;intro w6 HS6 HR6 HM6 HY6
   have l1:=bH HS6.out
   have l2:=bG HS6.out
   have l3:=HS6.out.lt
   have hhalt:halt=0 ∨ halt=1 ∨ halt=2:=by have h:=rightS_inv HOL.out.1.right;omega
   have hcap:memN p≤c5:=by obtain ⟨_,_,_,_,h,_⟩:=HM6.out.inv;exact h
   go_upto_region 5 with (fail)
   go_wp2_with fail
   refine (cout_any cb N k p 0 zb85 pc halt hhalt g5 c5 m HOL.out.2 hcap HOL.out.1.mok _ HM6.out.row (Nat.le_trans HN.out HY6.out.size) (HC.out.ext HY6.out) HK.out).mono ?_
   clear hhalt hcap l1 l2 l3
   refine zy32 ?_;intro e w7 ho7 HY7 HR7 HWS l4 l5 l6
   cases ho7 with
   | runs hz =>
    have HZ:=J hz
    clear hz
    go_wp2_with fail
    refine zy83 ?_;intro kp
    refine ret_ci (t:=38) (g:=rb) (cs:=outZ.c) Tryz.results15 rfl rfl aggOutT zb81 zb60 ⟨?_,.runs 0 rfl HF.out zb62⟩
    exact zz98
   | ok hz v hv =>
    have HZ:=J hz
    have HVN:=J hv
    clear hz hv
    go_wp2_with fail
    refine zy93 ?_;intro kp
    refine ret_ci (t:=38) (g:=rb) (cs:=v.c) Tryz.results15 rfl rfl aggOutT zb81 zb60 ⟨?_,.ok 0 rfl HF.out zb62 v ?_⟩
    ·exact (HY6.out.trans HY7.out).trans' kp (fun i hi e=>by have:=HRB.out;omega)
    ·rw [← HT.out]
     exact zz71
  ·skip
   go_upto_region 4 with (fail)
   refine zy24 ?_
   have yd:Ext w3 w3.drew:=(kR _ w3).drew
   (repeat first|refine qs3 ?_|refine qt3 yd zb5 ?_|refine qp3 yd ?_)
   have HIN:=J (HC3.out.ins 1 zb85)
   have HMS:=J (HC3.out.most 1 zb85)
   have HSZ:=J (show (partOf p 1).size≤256 from Nat.le_of_not_lt (fun h=>HL.out ⟨1,by omega,h⟩))
   refine zy53 ?_;intro hin bI hA hbI hrI hOK hml K hK
   go_wp2_with fail
   refine (Mc.run_any k.i1.A bI 0 k.i1.n k.i1.c (codeP p 1) 0 0 g 0 (memN p) (memN p) (mem0 p 1 V Ar) (k.m 1) (by rw [HMS.out];have:=HST.out 1 zb85;omega) _ ⟨HOP.out.ext (HY3.out.trans yd),fun _=>hA,fun _=>hrI.ext yd,hin,by have h1:k.i1.n=_:=hin;have:=codeP_len HSZ.out;omega,hml.symm,by rw [← hml];exact hOK.right,hOK.mok,(Blk.row HG3.out).ext yd⟩).mono ?_
   rintro e w5 ⟨v5,q5,rfl,hq5,g5,c5,rfl,hM5,y5⟩
   have y6:=yd.trans y5
   refine hK.out _ _ (fun _=>y6) ?_
   clear hK K hOK hml hin hA hbI hrI
   rw [HMS.out] at hM5 ⊢
   have HOL:=J (lastS_okay (part:=1) (V:=V) (Ar:=Ar) HF.out HK.out HSZ.out HV.out.2.1 HA.out.2.1)
   have hLS:itI (codeP p 1) (stepN p 1) (0,0,mem0 p 1 V Ar)=lastS p 1 V Ar:=rfl
   rw [hLS] at hM5 ⊢
   clear hLS
   obtain ⟨T,hT⟩:∃ T,T=lastS p 1 V Ar:=⟨_,rfl⟩
   rw [← hT] at hM5 HOL ⊢
   have HT:=J hT
   clear hT
   obtain ⟨pc,halt,m⟩:=T
   simp only at hM5 HOL ⊢
   have HM5:=J hM5
   have HS5:=J (HS3.out.ext y6)
   have HR5:=J (HR3.out.ext y6)
   have HY5:=J y6
   clear hM5 y6 yd y5 hq5
   have l1:=bH HS5.out
   have l2:=Blk.melts HS5.out
   have l3:=HS5.out.lt
   refine qf3 ?_
   clear l1 l2 l3
   refine zy106 ?_;intro w6 HS6 HR6 HM6 HY6
   have l1:=bH HS6.out
   have l2:=bG HS6.out
   have l3:=HS6.out.lt
   have hhalt:halt=0 ∨ halt=1 ∨ halt=2:=by have h:=rightS_inv HOL.out.1.right;omega
   have hcap:memN p≤c5:=by obtain ⟨_,_,_,_,h,_⟩:=HM6.out.inv;exact h
   go_upto_region 5 with (fail)
   go_wp2_with fail
   refine (cout_any cb N k p 1 zb85 pc halt hhalt g5 c5 m HOL.out.2 hcap HOL.out.1.mok _ HM6.out.row (Nat.le_trans HN.out HY6.out.size) (HC.out.ext HY6.out) HK.out).mono ?_
   clear hhalt hcap l1 l2 l3
   refine zy32 ?_;intro e w7 ho7 HY7 HR7 HWS l4 l5 l6
   cases ho7 with
   | runs hz =>
    have HZ:=J hz
    clear hz
    go_wp2_with fail
    refine zy83 ?_;intro kp
    refine ret_ci (t:=38) (g:=rb) (cs:=outZ.c) Tryz.results15 rfl rfl aggOutT zb81 zb60 ⟨?_,.runs 1 rfl HF.out zb62⟩
    exact zz98
   | ok hz v hv =>
    have HZ:=J hz
    have HVN:=J hv
    clear hz hv
    go_wp2_with fail
    refine zy93 ?_;intro kp
    refine ret_ci (t:=38) (g:=rb) (cs:=v.c) Tryz.results15 rfl rfl aggOutT zb81 zb60 ⟨?_,.ok 1 rfl HF.out zb62 v ?_⟩
    ·exact (HY6.out.trans HY7.out).trans' kp (fun i hi e=>by have:=HRB.out;omega)
    ·rw [← HT.out]
     exact zz71
  ·skip
   go_upto_region 4 with (fail)
   refine zy24 ?_
   have yd:Ext w3 w3.drew:=(kR _ w3).drew
   (repeat first|refine qs3 ?_|refine qt3 yd zb5 ?_|refine qp3 yd ?_)
   have HIN:=J (HC3.out.ins 2 zb85)
   have HMS:=J (HC3.out.most 2 zb85)
   have HSZ:=J (show (partOf p 2).size≤256 from Nat.le_of_not_lt (fun h=>HL.out ⟨2,by omega,h⟩))
   refine zy53 ?_;intro hin bI hA hbI hrI hOK hml K hK
   go_wp2_with fail
   refine (Mc.run_any k.i2.A bI 0 k.i2.n k.i2.c (codeP p 2) 0 0 g 0 (memN p) (memN p) (mem0 p 2 V Ar) (k.m 2) (by rw [HMS.out];have:=HST.out 2 zb85;omega) _ ⟨HOP.out.ext (HY3.out.trans yd),fun _=>hA,fun _=>hrI.ext yd,hin,by have h1:k.i2.n=_:=hin;have:=codeP_len HSZ.out;omega,hml.symm,by rw [← hml];exact hOK.right,hOK.mok,(Blk.row HG3.out).ext yd⟩).mono ?_
   rintro e w5 ⟨v5,q5,rfl,hq5,g5,c5,rfl,hM5,y5⟩
   have y6:=yd.trans y5
   refine hK.out _ _ (fun _=>y6) ?_
   clear hK K hOK hml hin hA hbI hrI
   rw [HMS.out] at hM5 ⊢
   have HOL:=J (lastS_okay (part:=2) (V:=V) (Ar:=Ar) HF.out HK.out HSZ.out HV.out.2.1 HA.out.2.1)
   have hLS:itI (codeP p 2) (stepN p 2) (0,0,mem0 p 2 V Ar)=lastS p 2 V Ar:=rfl
   rw [hLS] at hM5 ⊢
   clear hLS
   obtain ⟨T,hT⟩:∃ T,T=lastS p 2 V Ar:=⟨_,rfl⟩
   rw [← hT] at hM5 HOL ⊢
   have HT:=J hT
   clear hT
   obtain ⟨pc,halt,m⟩:=T
   simp only at hM5 HOL ⊢
   have HM5:=J hM5
   have HS5:=J (HS3.out.ext y6)
   have HR5:=J (HR3.out.ext y6)
   have HY5:=J y6
   clear hM5 y6 yd y5 hq5
   have l1:=bH HS5.out
   have l2:=Blk.melts HS5.out
   have l3:=HS5.out.lt
   refine qf3 ?_
   clear l1 l2 l3
   refine zy106 ?_;intro w6 HS6 HR6 HM6 HY6
   have l1:=bH HS6.out
   have l2:=bG HS6.out
   have l3:=HS6.out.lt
   have hhalt:halt=0 ∨ halt=1 ∨ halt=2:=by have h:=rightS_inv HOL.out.1.right;omega
   have hcap:memN p≤c5:=by obtain ⟨_,_,_,_,h,_⟩:=HM6.out.inv;exact h
   go_upto_region 5 with (fail)
   go_wp2_with fail
   refine (cout_any cb N k p 2 zb85 pc halt hhalt g5 c5 m HOL.out.2 hcap HOL.out.1.mok _ HM6.out.row (Nat.le_trans HN.out HY6.out.size) (HC.out.ext HY6.out) HK.out).mono ?_
   clear hhalt hcap l1 l2 l3
   refine zy32 ?_;intro e w7 ho7 HY7 HR7 HWS l4 l5 l6
   cases ho7 with
   | runs hz =>
    have HZ:=J hz
    clear hz
    go_wp2_with fail
    refine zy83 ?_;intro kp
    refine ret_ci (t:=38) (g:=rb) (cs:=outZ.c) Tryz.results15 rfl rfl aggOutT zb81 zb60 ⟨?_,.runs 2 rfl HF.out zb62⟩
    exact zz98
   | ok hz v hv =>
    have HZ:=J hz
    have HVN:=J hv
    clear hz hv
    go_wp2_with fail
    refine zy93 ?_;intro kp
    refine ret_ci (t:=38) (g:=rb) (cs:=v.c) Tryz.results15 rfl rfl aggOutT zb81 zb60 ⟨?_,.ok 2 rfl HF.out zb62 v ?_⟩
    ·exact (HY6.out.trans HY7.out).trans' kp (fun i hi e=>by have:=HRB.out;omega)
    ·rw [← HT.out]
     exact zz71
  ·skip
   go_upto_region 4 with (fail)
   refine zy24 ?_
   have yd:Ext w3 w3.drew:=(kR _ w3).drew
   (repeat first|refine qs3 ?_|refine qt3 yd zb5 ?_|refine qp3 yd ?_)
   have HIN:=J (HC3.out.ins 3 zb85)
   have HMS:=J (HC3.out.most 3 zb85)
   have HSZ:=J (show (partOf p 3).size≤256 from Nat.le_of_not_lt (fun h=>HL.out ⟨3,by omega,h⟩))
   refine zy53 ?_;intro hin bI hA hbI hrI hOK hml K hK
   go_wp2_with fail
   refine (Mc.run_any k.i3.A bI 0 k.i3.n k.i3.c (codeP p 3) 0 0 g 0 (memN p) (memN p) (mem0 p 3 V Ar) (k.m 3) (by rw [HMS.out];have:=HST.out 3 zb85;omega) _ ⟨HOP.out.ext (HY3.out.trans yd),fun _=>hA,fun _=>hrI.ext yd,hin,by have h1:k.i3.n=_:=hin;have:=codeP_len HSZ.out;omega,hml.symm,by rw [← hml];exact hOK.right,hOK.mok,(Blk.row HG3.out).ext yd⟩).mono ?_
   rintro e w5 ⟨v5,q5,rfl,hq5,g5,c5,rfl,hM5,y5⟩
   have y6:=yd.trans y5
   refine hK.out _ _ (fun _=>y6) ?_
   clear hK K hOK hml hin hA hbI hrI
   rw [HMS.out] at hM5 ⊢
   have HOL:=J (lastS_okay (part:=3) (V:=V) (Ar:=Ar) HF.out HK.out HSZ.out HV.out.2.1 HA.out.2.1)
   have hLS:itI (codeP p 3) (stepN p 3) (0,0,mem0 p 3 V Ar)=lastS p 3 V Ar:=rfl
   rw [hLS] at hM5 ⊢
   clear hLS
   obtain ⟨T,hT⟩:∃ T,T=lastS p 3 V Ar:=⟨_,rfl⟩
   rw [← hT] at hM5 HOL ⊢
   have HT:=J hT
   clear hT
   obtain ⟨pc,halt,m⟩:=T
   simp only at hM5 HOL ⊢
   have HM5:=J hM5
   have HS5:=J (HS3.out.ext y6)
   have HR5:=J (HR3.out.ext y6)
   have HY5:=J y6
   clear hM5 y6 yd y5 hq5
   have l1:=bH HS5.out
   have l2:=Blk.melts HS5.out
   have l3:=HS5.out.lt
   refine qf3 ?_
   clear l1 l2 l3
   refine zy106 ?_;intro w6 HS6 HR6 HM6 HY6
   have l1:=bH HS6.out
   have l2:=bG HS6.out
   have l3:=HS6.out.lt
   have hhalt:halt=0 ∨ halt=1 ∨ halt=2:=by have h:=rightS_inv HOL.out.1.right;omega
   have hcap:memN p≤c5:=by obtain ⟨_,_,_,_,h,_⟩:=HM6.out.inv;exact h
   go_upto_region 5 with (fail)
   go_wp2_with fail
   refine (cout_any cb N k p 3 zb85 pc halt hhalt g5 c5 m HOL.out.2 hcap HOL.out.1.mok _ HM6.out.row (Nat.le_trans HN.out HY6.out.size) (HC.out.ext HY6.out) HK.out).mono ?_
   clear hhalt hcap l1 l2 l3
   refine zy32 ?_;intro e w7 ho7 HY7 HR7 HWS l4 l5 l6
   cases ho7 with
   | runs hz =>
    have HZ:=J hz
    clear hz
    go_wp2_with fail
    refine zy83 ?_;intro kp
    refine ret_ci (t:=38) (g:=rb) (cs:=outZ.c) Tryz.results15 rfl rfl aggOutT zb81 zb60 ⟨?_,.runs 3 rfl HF.out zb62⟩
    exact zz98
   | ok hz v hv =>
    have HZ:=J hz
    have HVN:=J hv
    clear hz hv
    go_wp2_with fail
    refine zy93 ?_;intro kp
    refine ret_ci (t:=38) (g:=rb) (cs:=v.c) Tryz.results15 rfl rfl aggOutT zb81 zb60 ⟨?_,.ok 3 rfl HF.out zb62 v ?_⟩
    ·exact (HY6.out.trans HY7.out).trans' kp (fun i hi e=>by have:=HRB.out;omega)
    ·rw [← HT.out]
     exact zz71
  ·skip
   go_upto_region 4 with (fail)
   refine zy24 ?_
   have yd:Ext w3 w3.drew:=(kR _ w3).drew
   (repeat first|refine qs3 ?_|refine qt3 yd zb5 ?_|refine qp3 yd ?_)
   have HIN:=J (HC3.out.ins 4 zb85)
   have HMS:=J (HC3.out.most 4 zb85)
   have HSZ:=J (show (partOf p 4).size≤256 from Nat.le_of_not_lt (fun h=>HL.out ⟨4,by omega,h⟩))
   refine zy53 ?_;intro hin bI hA hbI hrI hOK hml K hK
   go_wp2_with fail
   refine (Mc.run_any k.i4.A bI 0 k.i4.n k.i4.c (codeP p 4) 0 0 g 0 (memN p) (memN p) (mem0 p 4 V Ar) (k.m 4) (by rw [HMS.out];have:=HST.out 4 zb85;omega) _ ⟨HOP.out.ext (HY3.out.trans yd),fun _=>hA,fun _=>hrI.ext yd,hin,by have h1:k.i4.n=_:=hin;have:=codeP_len HSZ.out;omega,hml.symm,by rw [← hml];exact hOK.right,hOK.mok,(Blk.row HG3.out).ext yd⟩).mono ?_
   rintro e w5 ⟨v5,q5,rfl,hq5,g5,c5,rfl,hM5,y5⟩
   have y6:=yd.trans y5
   refine hK.out _ _ (fun _=>y6) ?_
   clear hK K hOK hml hin hA hbI hrI
   rw [HMS.out] at hM5 ⊢
   have HOL:=J (lastS_okay (part:=4) (V:=V) (Ar:=Ar) HF.out HK.out HSZ.out HV.out.2.1 HA.out.2.1)
   have hLS:itI (codeP p 4) (stepN p 4) (0,0,mem0 p 4 V Ar)=lastS p 4 V Ar:=rfl
   rw [hLS] at hM5 ⊢
   clear hLS
   obtain ⟨T,hT⟩:∃ T,T=lastS p 4 V Ar:=⟨_,rfl⟩
   rw [← hT] at hM5 HOL ⊢
   have HT:=J hT
   clear hT
   obtain ⟨pc,halt,m⟩:=T
   simp only at hM5 HOL ⊢
   have HM5:=J hM5
   have HS5:=J (HS3.out.ext y6)
   have HR5:=J (HR3.out.ext y6)
   have HY5:=J y6
   clear hM5 y6 yd y5 hq5
   have l1:=bH HS5.out
   have l2:=Blk.melts HS5.out
   have l3:=HS5.out.lt
   refine qf3 ?_
   clear l1 l2 l3
   refine zy106 ?_;intro w6 HS6 HR6 HM6 HY6
   have l1:=bH HS6.out
   have l2:=bG HS6.out
   have l3:=HS6.out.lt
   have hhalt:halt=0 ∨ halt=1 ∨ halt=2:=by have h:=rightS_inv HOL.out.1.right;omega
   have hcap:memN p≤c5:=by obtain ⟨_,_,_,_,h,_⟩:=HM6.out.inv;exact h
   go_upto_region 5 with (fail)
   go_wp2_with fail
   refine (cout_any cb N k p 4 zb85 pc halt hhalt g5 c5 m HOL.out.2 hcap HOL.out.1.mok _ HM6.out.row (Nat.le_trans HN.out HY6.out.size) (HC.out.ext HY6.out) HK.out).mono ?_
   clear hhalt hcap l1 l2 l3
   refine zy32 ?_;intro e w7 ho7 HY7 HR7 HWS l4 l5 l6
   cases ho7 with
   | runs hz =>
    have HZ:=J hz
    clear hz
    go_wp2_with fail
    refine zy83 ?_;intro kp
    refine ret_ci (t:=38) (g:=rb) (cs:=outZ.c) Tryz.results15 rfl rfl aggOutT zb81 zb60 ⟨?_,.runs 4 rfl HF.out zb62⟩
    exact zz98
   | ok hz v hv =>
    have HZ:=J hz
    have HVN:=J hv
    clear hz hv
    go_wp2_with fail
    refine zy93 ?_;intro kp
    refine ret_ci (t:=38) (g:=rb) (cs:=v.c) Tryz.results15 rfl rfl aggOutT zb81 zb60 ⟨?_,.ok 4 rfl HF.out zb62 v ?_⟩
    ·exact (HY6.out.trans HY7.out).trans' kp (fun i hi e=>by have:=HRB.out;omega)
    ·rw [← HT.out]
     exact zz71
open Go.RowKit So Mc
theorem list_ne_at {a b:List Int} (i:Nat) (h1:i < a.length) (h2:i < b.length) (h:¬ a[i]=b[i]):¬ a=b:=fun e=>by
 subst e
 exact h rfl
set_option maxRecDepth 100000 in
theorem rsame32_any (sa sb:Sl3) (la lb:List Int) (N M:Nat) (w:World) (ha:M32 w N sa la) (hb:M32 w M sb lb) (hla:la.length≤100000) :
 Calls Tryz.prog 31 #[sa.v,sb.v] w fun e w'=>e=.returned (.bool (decide (la=lb)))∧Ext w w':=by
 obtain ⟨r,hr⟩:∃ r,r=decide (la=lb):=⟨_,rfl⟩
 rw [← hr]
 have HR:=J hr
 clear hr
 obtain ⟨aA,an,ac⟩:=sa
 obtain ⟨bA,bn,bc⟩:=sb
 obtain ⟨ha1,-,ab,ao,ha2,ha3⟩:=ha
 obtain ⟨hb1,-,bb,bo,hb2,hb3⟩:=hb
 simp only at ha1 ha2 ha3 hb1 hb2 hb3
 have HAN:=J ha1
 have HBN:=J hb1
 have HAA:=J ha2
 have HBA:=J hb2
 have HAR:=J ha3
 have HBR:=J hb3
 have HLA:=J hla
 clear ha1 ha2 ha3 hb1 hb2 hb3 hla
 by_cases hn:(an:Int)=bn
 rotate_left
 ·have hq:((an:Int) != bn)=true:=bne_iff_ne.2 hn
  have HR1:=J (show r=false by
   rw [HR.out]
   exact decide_eq_false (fun e=>by have h1:=HAN.out;have h2:=HBN.out;rw [e] at h1;omega))
  clear hn
  go_enter Tryz.func31,Tryz.ntmps31
  go_wp2_with fail
  go_ret
  exact ⟨ret_bool HR1.out.symm,kR _ _⟩
 have hq:((an:Int) != bn)=false:=by rw [hn];simp
 have HEQ:=J hn
 have han:an≤100000:=by have:=HAN.out;have:=HLA.out;omega
 clear hn
 go_enter Tryz.func31,Tryz.ntmps31
 go_wp2_with fail
 go_loopw [5] (fun t5 wr=>∃ j:Nat,j≤an∧t5=.int .i64 j∧(∀ i (h1:i < la.length) (h2:i < lb.length),i < j→la[i]=lb[i])∧Ext w wr) (fun t5 _=>an - (intOf t5).toNat)
 case atStart=>exact ⟨0,Nat.zero_le _,rfl,fun i _ _ h=>by omega,kR _ _⟩
 case round =>
  obtain ⟨j,hj,rfl,hall,hk⟩:=hrel
  have HALL:=J hall
  have HK:=J hk
  clear hall hk
  by_cases hlt:j < an
  ·have hjl:j < la.length:=by have:=HAN.out;omega
   have hjb:j < lb.length:=by have:=HBN.out;have:=HEQ.out;omega
   have hltI:(j:Int) < an:=by omega
   have hltB:(j:Int) < bn:=by have:=HEQ.out;omega
   have hltN:j < bn:=by have:=HEQ.out;omega
   have h1:=HAA.out zb85
   have h2:=HBA.out zb85
   have r1:=(HAR.out zb85).2.ext HK.out
   have r2:=(HBR.out zb85).2.ext HK.out
   have c1:=Row.mem r1 j hjl
   have c2:=Row.mem r2 j hjb
   have c3:=r1.lt
   have c4:=r2.lt
   have HNE:=J (list_ne_at j hjl hjb)
   have HGO:=J (show la[j]=lb[j]→∀ i (h1:i < la.length) (h2:i < lb.length),i < j+1→la[i]=lb[i] from fun h i h1 h2 hi=>by
    rcases (by omega:i < j ∨ i=j) with q | q
    ·exact HALL.out i h1 h2 q
    ·subst q;exact h)
   clear r1 r2
   rw [h1,h2]
   generalize la[j]=x at c1 HNE HGO
   generalize lb[j]=y at c2 HNE HGO
   by_cases e:x=y
   ·have q1:(x != y)=false:=by rw [e];simp
    have HG2:=J (HGO.out e)
    clear e h1 h2
    go_upto_region 6 with (fail)
    go_quiet (fail)
    go_wp2_with fail
    go_roundw
    case rel=>exact ⟨j+1,hlt,by go_num,HG2.out,Kept.drewN HK.out _⟩
    case measure=>simp only [intOf];omega
   ·have q1:(x != y)=true:=bne_iff_ne.2 e
    have HR1:=J (show r=false by rw [HR.out];exact decide_eq_false (HNE.out e))
    clear e h1 h2
    go_upto_region 6 with (fail)
    go_quiet (fail)
    go_wp2_with fail
    go_ret
    exact ⟨ret_bool HR1.out.symm,Kept.drewN HK.out _⟩
  ·obtain rfl:j=an:=by omega
   have HR1:=J (show r=true by
    rw [HR.out]
    refine decide_eq_true (List.ext_getElem (by have:=HAN.out;have:=HBN.out;have:=HEQ.out;omega) (fun i h1 h2=>HALL.out i h1 h2 (by have:=HAN.out;omega)))
   )
   go_wp2_with fail
   go_ret
   exact ⟨ret_bool HR1.out.symm,HK.out⟩
open Go.RowKit So Mc
set_option maxRecDepth 100000 in
theorem few16_any (c:Pc) (p:Pr) (N:Nat) (w:World) (hN:N≤w.heap.size) (h:PAt w N c p):Calls Tryz.prog 20 #[.agg c.cells] w fun e w'=>e=.returned (.bool (fewB p))∧Ext w w':=by
 obtain ⟨cn,cse,⟨sA,sn,sc⟩,cv,cs,ct,cpa,cpl,csi,cq,cpy⟩:=c
 obtain ⟨r,hr⟩:∃ r,r=fewB p:=⟨_,rfl⟩
 rw [← hr]
 have HR:=J (show r=(decide (w64 (psize p)≤1200) && decide ((sn:Int)≤20)) by rw [hr,fewB,← h.stakes.1])
 clear hr
 have hx0:=(kR (fun _=>False) w).alloc (.cells (Pc.cells ⟨cn,cse,⟨sA,sn,sc⟩,cv,cs,ct,cpa,cpl,csi,cq,cpy⟩) 26)
 have hB:=bN w 26 (Pc.cells ⟨cn,cse,⟨sA,sn,sc⟩,cv,cs,ct,cpa,cpl,csi,cq,cpy⟩)
 go_enter Tryz.func20,Tryz.ntmps20
 go_upto_region 1 with (fail)
 have HP:=J (h.ext hx0 hN)
 have HNW:=J (Nat.le_trans hN hx0.size)
 generalize hW:(w.alloc (.cells (Pc.cells ⟨cn,cse,⟨sA,sn,sc⟩,cv,cs,ct,cpa,cpl,csi,cq,cpy⟩) 26))=W at hx0 hB HP HNW ⊢
 clear hW h
 have HX0:=J hx0
 have HB:=J hB
 clear hx0 hB
 generalize w.heap.size=pb at HB ⊢
 have hc:=bC HB.out
 have hl:=HB.out.lt
 have hh:=bH HB.out
 have hg:=bG HB.out
 go_wp2_with fail
 refine (rsize_any _ p N _ HNW.out HP.out).mono ?_
 rintro e w1 ⟨rfl,hx1⟩
 have hc1:=bC (bX HB.out hx1)
 have hl1:=(bX HB.out hx1).lt
 have HX1:=J (HX0.out.trans hx1)
 clear hc hl hh hg hx1
 obtain ⟨z,hz⟩:∃ z,z=w64 (psize p):=⟨_,rfl⟩
 rw [← hz] at HR ⊢
 clear hz
 by_cases h1:z≤1200
 ·by_cases h2:(sn:Int)≤20
  ·have HR1:=J (show r=true by rw [HR.out,decide_eq_true h1,decide_eq_true h2];rfl)
   go_wp2_with fail
   go_ret
   exact ⟨ret_bool HR1.out.symm,HX1.out⟩
  ·have HR1:=J (show r=false by rw [HR.out,decide_eq_true h1,decide_eq_false h2];rfl)
   go_wp2_with fail
   go_ret
   exact ⟨ret_bool (by rw [HR1.out];simp;omega),HX1.out⟩
 ·have HR1:=J (show r=false by rw [HR.out,decide_eq_false h1];rfl)
  go_wp2_with fail
  go_ret
  exact ⟨ret_bool (by rw [HR1.out]),HX1.out⟩
set_option maxRecDepth 100000 in
theorem rpart16_any (c:Pc) (part:Nat) (hp:part < 5) (w:World):Calls Tryz.prog 38 #[.agg c.cells,.int .i64 part] w fun e w'=>e=.returned (slP c part).v∧Ext w w':=by
 have y0:=(kR (fun _=>False) w).alloc (.cells c.cells 26)
 have hB:=bN w 26 c.cells
 have hj:part=0 ∨ part=1 ∨ part=2 ∨ part=3 ∨ part=4:=by omega
 clear hp
 rcases hj with rfl | rfl | rfl | rfl | rfl
 all_goals
  go_enter Tryz.func38,Tryz.ntmps38
  go_upto_region 1 with (fail)
  generalize (w.alloc (.cells c.cells 26))=W1 at y0 hB ⊢
  generalize w.heap.size=pb at hB ⊢
  have i1:=bC hB
  have i2:=hB.lt
  have HY:=J y0
  clear y0 hB
  go_wp2_with fail
  go_ret
  exact ⟨rfl,HY.out.trans ((kR (fun _=>False) W1).alloc _)⟩
def longB (p:Pr):Bool:=decide (256 < p.start.size) || decide (256 < p.turn.size) || decide (256 < p.play.size) || decide (256 < p.quiet.size) || decide (256 < p.pays.size)
theorem longB_true {p:Pr} (i:Nat) (hi:i < 5) (h:256 < (partOf p i).size):longB p=true:=by
 rcases (by omega:i=0 ∨ i=1 ∨ i=2 ∨ i=3 ∨ i=4) with rfl | rfl | rfl | rfl | rfl <;> simp only [partOf] at h <;> simp [longB,h]
theorem longB_false {p:Pr} (h:∀ i,i < 5→¬ 256 < (partOf p i).size):longB p=false:=by
 have h0:=h 0 zb85
 have h1:=h 1 zb85
 have h2:=h 2 zb85
 have h3:=h 3 zb85
 have h4:=h 4 zb85
 simp only [partOf] at h0 h1 h2 h3 h4
 simp only [longB,decide_eq_false h0,decide_eq_false h1,decide_eq_false h2,decide_eq_false h3,decide_eq_false h4,Bool.or_false]
theorem longB_iff (p:Pr):longB p=true ↔ longAt p:=by
 constructor
 ·intro h
  refine Classical.byContradiction fun q=>?_
  rw [longB_false (fun i hi h'=>q ⟨i,hi,h'⟩)] at h
  cases h
 ·rintro ⟨i,hi,h⟩
  exact longB_true i hi h
set_option maxRecDepth 100000 in
theorem rlong_any (c:Pc) (p:Pr) (N:Nat) (w:World) (hN:N≤w.heap.size) (h:PAt w N c p) (hz:psize p≤1099511627776):Calls Tryz.prog 24 #[.agg c.cells] w fun e w'=>e=.returned (.bool (longB p))∧Ext w w':=by
 obtain ⟨r,hr⟩:∃ r,r=longB p:=⟨_,rfl⟩
 rw [← hr]
 have HR:=J hr
 have HZ:=J hz
 have y0:=(kR (fun _=>False) w).alloc (.cells c.cells 26)
 have hB:=bN w 26 c.cells
 have HP:=J (h.ext y0 hN)
 have HN:=J (Nat.le_trans hN y0.size)
 clear hr hz h hN
 go_enter Tryz.func24,Tryz.ntmps24
 go_upto_region 1 with (fail)
 generalize (w.alloc (.cells c.cells 26))=W1 at y0 hB HP HN ⊢
 generalize w.heap.size=pb at hB ⊢
 have HB:=J hB
 have HY:=J y0
 clear y0 hB
 go_upto_region 2 with (fail)
 go_loopw [3] (fun t3 wr=>∃ j:Nat,j≤5∧t3=.int .i64 j∧(∀ i,i < j→¬ 256 < (partOf p i).size)∧Ext W1 wr) (fun t3 _=>5 - (intOf t3).toNat)
 case atStart=>exact ⟨0,by omega,rfl,fun i h=>by omega,kR _ _⟩
 case round =>
  obtain ⟨j,hj,rfl,hall,hk⟩:=hrel
  have HALL:=J hall
  have HK:=J hk
  clear hall hk
  by_cases hlt:j < 5
  ·have hltI:(j:Int) < 5:=by omega
   have d0:=bX HB.out HK.out
   have d1:=bH d0
   have d2:=bG d0
   have d3:=d0.lt
   clear d0
   go_wp2_with fail
   refine (rpart16_any c j hlt _).mono ?_
   rintro e w4 ⟨rfl,y4⟩
   clear d1 d2 d3
   have hsl:=((HP.out.part j).ext HK.out HN.out).ext y4 (Nat.le_trans HN.out HK.out.size)
   have HK4:=J (HK.out.trans y4)
   have hcall:=rstmts_ok (partOf p j) (slP c j).A (slP c j).n (slP c j).c N w4 (Nat.le_trans HN.out HK4.out.size) hsl
   have hw:w64 (((partOf p j).size:Nat):Int)=((partOf p j).size:Nat):=by
    have h1:=psize_part_le p j hlt
    have h2:=HZ.out
    rw [w64_def]
    omega
   rw [hw] at hcall
   have HTR:=J (longB_true (p:=p) j hlt)
   have HGO:=J (show ¬ 256 < (partOf p j).size→∀ i,i < j+1→¬ 256 < (partOf p i).size from fun h i hi=>by
    rcases (by omega:i < j ∨ i=j) with q | q
    ·exact HALL.out i q
    ·subst q;exact h)
   generalize (partOf p j).size=z at hcall HTR HGO
   generalize slP c j=s at hcall ⊢
   clear hsl hw y4
   go_wp2_with fail
   refine hcall.mono ?_
   rintro e w5 ⟨rfl,y5⟩
   have HK5:=J (HK4.out.trans y5)
   clear y5 hcall
   by_cases hb:256 < z
   ·have hg:decide ((256:Int) < (z:Int))=true:=decide_eq_true zb85
    have HR1:=J (show r=true by rw [HR.out];exact HTR.out hb)
    clear hb
    go_wp2_with fail
    go_ret
    exact ⟨ret_bool HR1.out.symm,HY.out.trans HK5.out⟩
   ·have hg:decide ((256:Int) < (z:Int))=false:=decide_eq_false zb85
    have HG:=J (HGO.out hb)
    clear hb
    go_wp2_with fail
    go_roundw
    case rel=>exact ⟨j+1,hlt,by go_num,HG.out,HK5.out⟩
    case measure=>simp only [intOf];omega
  ·obtain rfl:j=5:=by omega
   have HR1:=J (show r=false by rw [HR.out];exact longB_false HALL.out)
   go_wp2_with fail
   go_ret
   exact ⟨ret_bool HR1.out.symm,HY.out.trans HK.out⟩
open Go.RowKit So
def Roomy (c:Pc) (k:Nat):Prop:=∀ i,(slP c i).n * 112+k * 112≤140737488355328
theorem Roomy.le {c:Pc} {k k':Nat} (h:Roomy c k) (hk:k'≤k):Roomy c k':=fun i=>by have:=h i;omega
end Go.Proofs.YtbfbabbcdochjaaGreatDoor
