/- Several texts joined: Qzn, Qzo, Kz, Ka. -/
import Derived.Recover
import Derived.Test.YtbfbabbcdochjaaGreatDoorRapk
import Derived.Test.YtbfbabbcdochjaaGreatDoorRaap
set_option maxHeartbeats 4000000
namespace Go.Proofs.YtbfbabbcdochjaaGreatDoor
open Go.RowKit So
theorem chkPars_none (κ:Kn):∀ (l pre:List Vr) (_:chkPars κ pre l=none),∀ v ∈ l,κ v.name=0
 | [],_,_,v,hv=>absurd hv (by simp)
 | x :: l,pre,h,v,hv=>by
  rw [chkPars,ored_eq_none,ored_eq_none,ored_eq_none,ored_eq_none] at h
  obtain ⟨-,h2,-,-,h5⟩:=h
  rcases List.mem_cons.1 hv with rfl | hv
  ·have:=must_none.1 h2
   simp at this
   exact this.1
  ·exact chkPars_none κ l _ h5 v hv
theorem rest_at {w:World} {N:Nat}:∀ {F:SF} {b off:Nat} (_:SFAt w N F b off) (_:0 < F.len),∃ k:Int,w.cell? ⟨b,off+(F.len - 1) * 7,none⟩=some (.int .i64 k)∧restLast F=(k == 9)∧b < N
 | .cons kind name e low high l x .nil,b,off,h,_=>by
  obtain ⟨hb,h1,h2,h3,h4,⟨eA,ec,lA,lc,xA,xc,be,oe,bl,ol,bx,ox,hh,hg,-⟩,-⟩:=h
  refine ⟨kind,?_,rfl,hb⟩
  have:=cell_gets0 hh hg (by omega)
  simpa [SF.len] using this
 | .cons kind name e low high l x (.cons k' n' e' lo' hi' l' x' r),b,off,h,_=>by
  obtain ⟨hb,h1,h2,h3,h4,-,hr⟩:=h
  obtain ⟨k,hk,hr',hb'⟩:=rest_at hr (by simp [SF.len])
  refine ⟨k,?_,hr',hb'⟩
  simp only [SF.len] at hk ⊢
  rw [← hk]
  congr 2
  omega
theorem knOf2 (p:Pr):knOf p 2=updAll (knV p.vars) (p.params.map Vr.name):=rfl
theorem knOf3 (p:Pr):knOf p 3=updAll (knV p.vars) [p.silent]:=rfl
theorem knOf0 (p:Pr):knOf p 0=knV p.vars:=rfl
theorem knOf1 (p:Pr):knOf p 1=knV p.vars:=rfl
theorem knOf4 (p:Pr):knOf p 4=knV p.vars:=rfl
theorem check_chain (p:Pr):check p=ored (chkHead p) (ored (ored (chkVars [] p.vars) (must (decide (cells p.vars≤64)) 8 sVar)) (ored (ored (must (decide (p.params.length≤4)) 8 sPlay) (ored (chkPars (knV p.vars) [] p.params) (must (decide (menu p.params≤512)) 8 sPlay))) (ored (must (isName p.silent) 6 p.silent) (ored (must (knV p.vars p.silent == 0) 7 p.silent) (ored (must (decide (w64 (psize p)≤1000)) 5 p.name) (ored (ored (chkB 0 (knV p.vars) 0 true p.start) (ored (chkB 1 (knV p.vars) 0 true p.turn) (ored (chkB 2 (updAll (knV p.vars) (p.params.map Vr.name)) 0 true p.play) (ored (chkB 3 (updAll (knV p.vars) [p.silent]) 0 true p.quiet) (chkB 4 (knV p.vars) 0 true p.pays))))) (ored (must (ends p.turn) 4 sTurn) (must (restLast p.pays) 4 sPay)))))))):=by
 rw [check,chkAhead]
 simp only [ored_assoc,chkP,knOf0,knOf1,knOf2,knOf3,knOf4,partOf]
set_option maxRecDepth 100000 in
theorem scheck_any (c:Pc) (p:Pr) (N:Nat) (w:World) (hN4:4 < N) (hN:N≤w.heap.size) (h:PAt w N c p) (hL:LaidAt w) :
 Calls Tryz.prog 42 #[.agg c.cells] w fun e w'=>e=.returned (.agg (fltC (check p)))∧Ext w w':=by
 obtain ⟨X,hX⟩:∃ X,X=check p:=⟨_,rfl⟩
 rw [← hX]
 have HX0:Hid (X=ored (chkHead p) (ored (ored (chkVars [] p.vars) (must (decide (cells p.vars≤64)) 8 sVar)) (ored (ored (must (decide (p.params.length≤4)) 8 sPlay) (ored (chkPars (knV p.vars) [] p.params) (must (decide (menu p.params≤512)) 8 sPlay))) (ored (must (isName p.silent) 6 p.silent) (ored (must (knV p.vars p.silent == 0) 7 p.silent) (ored (must (decide (w64 (psize p)≤1000)) 5 p.name) (ored (ored (chkB 0 (knV p.vars) 0 true p.start) (ored (chkB 1 (knV p.vars) 0 true p.turn) (ored (chkB 2 (updAll (knV p.vars) (p.params.map Vr.name)) 0 true p.play) (ored (chkB 3 (updAll (knV p.vars) [p.silent]) 0 true p.quiet) (chkB 4 (knV p.vars) 0 true p.pays))))) (ored (must (ends p.turn) 4 sTurn) (must (restLast p.pays) 4 sPay))))))))):=zhd (hX.trans (check_chain p))
 clear hX
 obtain ⟨H,hH⟩:∃ H,H=chkHead p:=⟨_,rfl⟩
 obtain ⟨V,hV⟩:∃ V,V=(ored (chkVars [] p.vars) (must (decide (cells p.vars≤64)) 8 sVar)):=⟨_,rfl⟩
 obtain ⟨P,hP⟩:∃ P,P=(ored (must (decide (p.params.length≤4)) 8 sPlay) (ored (chkPars (knV p.vars) [] p.params) (must (decide (menu p.params≤512)) 8 sPlay))):=⟨_,rfl⟩
 obtain ⟨T,hT⟩:∃ T,T=(ored (chkB 0 (knV p.vars) 0 true p.start) (ored (chkB 1 (knV p.vars) 0 true p.turn) (ored (chkB 2 (updAll (knV p.vars) (p.params.map Vr.name)) 0 true p.play) (ored (chkB 3 (updAll (knV p.vars) [p.silent]) 0 true p.quiet) (chkB 4 (knV p.vars) 0 true p.pays))))):=⟨_,rfl⟩
 obtain ⟨b1,hb1⟩:∃ b,b=isName p.silent:=⟨_,rfl⟩
 obtain ⟨b2,hb2⟩:∃ b,b=(knV p.vars p.silent == 0):=⟨_,rfl⟩
 obtain ⟨b3,hb3⟩:∃ b,b=decide (w64 (psize p)≤1000):=⟨_,rfl⟩
 obtain ⟨b4,hb4⟩:∃ b,b=ends p.turn:=⟨_,rfl⟩
 obtain ⟨b5,hb5⟩:∃ b,b=restLast p.pays:=⟨_,rfl⟩
 have HX1:=zhd (show X=ored H (ored V (ored P (ored (must b1 6 p.silent) (ored (must b2 7 p.silent) (ored (must b3 5 p.name) (ored T (ored (must b4 4 sTurn) (must b5 4 sPay)))))))) by rw [hH,hV,hP,hT,hb1,hb2,hb3,hb4,hb5];exact HX0.out)
 have HH:=zhd hH
 have HV:=zhd hV
 have HP:=zhd hP
 have HT:=zhd hT
 have HB1:=zhd hb1
 have HB2:=zhd hb2
 have HB3:=zhd hb3
 have HB4:=zhd hb4
 have HB5:=zhd hb5
 clear HX0 hH hV hP hT hb1 hb2 hb3 hb4 hb5
 obtain ⟨cn,cse,cst,cv,cs,⟨tA,tn,tc⟩,cpa,cpl,csi,cq,⟨zA,zn,zc⟩⟩:=c
 obtain rfl:cn=p.name:=h.name
 obtain rfl:csi=p.silent:=h.silent
 have hmf:∀ (fn:Fn) (first cap:Array Value) (w:World),(Instr.makeFunc fn first cap).run Tryz.prog w=.ok (.func fn first cap) w:=fun _ _ _ _=>rfl
 have hmm:=@run_makeMap Tryz.prog
 go_enter_defers Tryz.func42,Tryz.ntmps42
 go_upto_region 3 with (fail)
 clear hmf hmm
 obtain ⟨W0,hW0⟩:∃ W0,W0=((((w.alloc (.cells (Pc.cells (⟨p.name,cse,cst,cv,cs,⟨tA,tn,tc⟩,cpa,cpl,p.silent,cq,⟨zA,zn,zc⟩⟩:Pc)) 57)).alloc (.cells #[.int .i64 0,.string ⟨#[]⟩] 104)).alloc (.map #[] 0)).alloc (.cells #[.map (some (w.heap.size+1+1)),.string ⟨#[]⟩,.int .i64 0] 145)):=⟨_,rfl⟩
 have hx0:Ext w W0:=by rw [hW0];exact ((((Kept.refl _ w).alloc _).alloc _).alloc _).alloc _
 have hPB:Blk W0 w.heap.size 57 (Pc.cells (⟨p.name,cse,cst,cv,cs,⟨tA,tn,tc⟩,cpa,cpl,p.silent,cq,⟨zA,zn,zc⟩⟩:Pc)):=by rw [hW0];exact (((Blk.new w _ _).alloc _).alloc _).alloc _
 have hRB:Blk W0 (w.heap.size+1) 104 #[.int .i64 0,.string ⟨#[]⟩]:=by rw [hW0];exact ((Blk.new' _ _ _ _ (by simp)).alloc _).alloc _
 have hMB:SMap W0 (w.heap.size+1+1) (fun _=>none):=by
  rw [hW0]
  have q:=SMap.made ((w.alloc (.cells (Pc.cells (⟨p.name,cse,cst,cv,cs,⟨tA,tn,tc⟩,cpa,cpl,p.silent,cq,⟨zA,zn,zc⟩⟩:Pc)) 57)).alloc (.cells #[.int .i64 0,.string ⟨#[]⟩] 104))
  have q2:((w.alloc (.cells (Pc.cells (⟨p.name,cse,cst,cv,cs,⟨tA,tn,tc⟩,cpa,cpl,p.silent,cq,⟨zA,zn,zc⟩⟩:Pc)) 57)).alloc (.cells #[.int .i64 0,.string ⟨#[]⟩] 104)).heap.size=w.heap.size+1+1:=by simp
  rw [q2] at q
  exact q.ext ((Kept.refl _ _).alloc _)
 have hCB:Blk W0 (w.heap.size+1+1+1) 145 #[.map (some (w.heap.size+1+1)),.string ⟨#[]⟩,.int .i64 0]:=by rw [hW0];exact Blk.new' _ _ _ _ (by simp)
 rw [← hW0]
 obtain ⟨pb,hpb⟩:∃ pb,pb=w.heap.size:=⟨_,rfl⟩
 obtain ⟨rb,hrb⟩:∃ rb,rb=pb+1:=⟨_,rfl⟩
 obtain ⟨g,hg⟩:∃ g,g=rb+1:=⟨_,rfl⟩
 obtain ⟨cb,hcb⟩:∃ cb,cb=g+1:=⟨_,rfl⟩
 rw [← hpb] at hPB hRB hMB hCB ⊢
 rw [← hrb] at hRB hMB hCB ⊢
 rw [← hg] at hMB hCB ⊢
 rw [← hcb] at hCB ⊢
 have hNg:N≤g:=by omega
 have hNc:N≤cb:=by omega
 have HPB:=zhd hPB
 have HRB:=zhd hRB
 have HCK:=zhd (show Ck W0 cb g (fun _=>0) E0 0 from ⟨hCB,hMB.cong (fun t=>rfl)⟩)
 have HNE:=zhd (show ¬ SG cb g pb∧¬ SG cb g rb by constructor <;> (rintro (h | h) <;> omega))
 have HNA:=zhd (show ∀ w',Kept (SG cb g) W0 w'→N≤w'.heap.size from fun w' hk=>Nat.le_trans (Nat.le_trans hN hx0.size) hk.size)
 have HS4:=zhd (show ∀ j,SG cb g j→N≤j from fun j h=>by rcases h with h | h <;> omega)
 have HPA:=zhd (show ∀ w',Kept (SG cb g) W0 w'→PAt w' N (⟨p.name,cse,cst,cv,cs,⟨tA,tn,tc⟩,cpa,cpl,p.silent,cq,⟨zA,zn,zc⟩⟩:Pc) p from fun w' hk=>(h.ext hx0 hN).kept hk (Nat.le_trans hN hx0.size) HS4.out)
 have HLA:=zhd (show ∀ w',Kept (SG cb g) W0 w'→LaidAt w' from fun w' hk=>(hL.ext hx0).kept hk (fun k hk h=>by have:=HS4.out k h;omega))
 have HOWN:=zhd (show ∀ wz w9,Kept (SG cb g) W0 wz→Kept (·=rb) wz w9→Ext w w9 from fun wz w9 h1 h2=>(hx0.trans' h1 (fun i hi q=>by rcases q with q | q <;> omega)).trans' h2 (fun i hi q=>by omega))
 have HKE:=zhd (Kept.refl (SG cb g) W0)
 have HZN:=zhd (show zn=p.pays.len from h.pays.1)
 have HZM:=zhd (show zn≤17592186044416 from Fits.max h.pays.2.1 (by omega))
 clear hPB hRB hMB hCB hW0 hpb hrb hg hcb h hL hx0
 have hcP:=Blk.cell (Blk.kept HPB.out HKE.out HNE.out.1)
 have hlP:=(Blk.kept HPB.out HKE.out HNE.out.1).lt
 have hhP:=Blk.has (Blk.kept HPB.out HKE.out HNE.out.1)
 have hgP:=Blk.gets (Blk.kept HPB.out HKE.out HNE.out.1)
 go_wp2_with fail
 refine (head_any _ (⟨p.name,cse,cst,cv,cs,⟨tA,tn,tc⟩,cpa,cpl,p.silent,cq,⟨zA,zn,zc⟩⟩:Pc) p N _ (HNA.out _ HKE.out) (HPA.out _ HKE.out) (HLA.out _ HKE.out)).mono ?_
 rintro e w1 ⟨he,hx1⟩
 clear hcP hlP hhP hgP
 rw [← HH.out] at he
 have HC1:=zhd (HCK.out.ext hx1)
 have HKE:=zhd (HKE.out.trans (Kept.ext hx1))
 clear hx1
 cases H with
 | some f =>
  have he:=MustR.some he
  subst he
  have HR:=zhd (show X=some f by rw [HX1.out,ored_some])
  exact zz38
 | none =>
  have he:=MustR.none he
  subst he
  have HX2:=zhd (show X=ored V (ored P (ored (must b1 6 p.silent) (ored (must b2 7 p.silent) (ored (must b3 5 p.name) (ored T (ored (must b4 4 sTurn) (must b5 4 sPay))))))) by rw [HX1.out,ored_none])
  clear HX1 HH
  have hcP:=Blk.cell (Blk.kept HPB.out HKE.out HNE.out.1)
  have hlP:=(Blk.kept HPB.out HKE.out HNE.out.1).lt
  have hhP:=Blk.has (Blk.kept HPB.out HKE.out HNE.out.1)
  have hgP:=Blk.gets (Blk.kept HPB.out HKE.out HNE.out.1)
  go_wp2_with fail
  refine (vars_any cb g (⟨p.name,cse,cst,cv,cs,⟨tA,tn,tc⟩,cpa,cpl,p.silent,cq,⟨zA,zn,zc⟩⟩:Pc) p N hN4 hNg hNc _ (HNA.out _ HKE.out) (HPA.out _ HKE.out) (HLA.out _ HKE.out) HC1.out).mono ?_
  rintro e w2 ⟨hb,hk⟩
  clear hcP hlP hhP hgP
  rw [← HV.out] at hb
  have HKE:=zhd (HKE.out.trans hk)
  clear hk HC1
  cases V with
  | some f =>
   obtain ⟨he,-⟩:=hb
   subst he
   have HR:=zhd (show X=some f by rw [HX2.out,ored_some])
   exact zz38
  | none =>
   obtain ⟨he,hc⟩:=hb
   subst he
   have HC2:=zhd hc
   have HX3:=zhd (show X=ored P (ored (must b1 6 p.silent) (ored (must b2 7 p.silent) (ored (must b3 5 p.name) (ored T (ored (must b4 4 sTurn) (must b5 4 sPay)))))) by rw [HX2.out,ored_none])
   clear HX2 HV hc
   have hcP:=Blk.cell (Blk.kept HPB.out HKE.out HNE.out.1)
   have hlP:=(Blk.kept HPB.out HKE.out HNE.out.1).lt
   have hhP:=Blk.has (Blk.kept HPB.out HKE.out HNE.out.1)
   have hgP:=Blk.gets (Blk.kept HPB.out HKE.out HNE.out.1)
   go_wp2_with fail
   refine (pars_any cb g (knV p.vars) (⟨p.name,cse,cst,cv,cs,⟨tA,tn,tc⟩,cpa,cpl,p.silent,cq,⟨zA,zn,zc⟩⟩:Pc) p N hN4 _ (HNA.out _ HKE.out) (HPA.out _ HKE.out) (HLA.out _ HKE.out) HC2.out).mono ?_
   rintro e w3 ⟨hb,hx3⟩
   clear hcP hlP hhP hgP
   rw [← HP.out] at hb
   have HKE:=zhd (HKE.out.trans (Kept.ext hx3))
   clear hx3 HC2
   cases P with
   | some f =>
    obtain ⟨he,-⟩:=hb
    subst he
    have HR:=zhd (show X=some f by rw [HX3.out,ored_some])
    exact zz38
   | none =>
    obtain ⟨he,hc⟩:=hb
    subst he
    have HC3:=zhd hc
    have hp:=ored_eq_none.1 HP.out.symm
    have HP4:=zhd (show p.params.length≤4 from of_decide_eq_true (must_none.1 hp.1))
    have HPR:=zhd (chkPars_none _ _ _ (ored_eq_none.1 hp.2).1)
    have HX4:=zhd (show X=ored (must b1 6 p.silent) (ored (must b2 7 p.silent) (ored (must b3 5 p.name) (ored T (ored (must b4 4 sTurn) (must b5 4 sPay))))) by rw [HX3.out,ored_none])
    clear HX3 HP hc hp
    go_upto_region 6 with (fail)
    refine qr3 (fun w1=>Ext w3 w1) [(0,2),(1,1),(3,2),(4,1),(2,0),(5,0)] ?_;refine qrl ?_
    have HY0:=zhd (show Ext w3 w3.drew from (Kept.refl _ w3).drew)
    (repeat (first | refine qs3 ?_ | ((apply w3_take);(· exact HY0.out);(· go_simp);(· (intro w1 hS;have d4:=Blk.kept HPB.out (HKE.out.trans (Kept.ext hS)) HNE.out.1;have d5:=Blk.cell d4;have d6:=d4.lt; go_simp;try with_reducible rfl));refine qnx ?_) | ((apply w3_pass);(· exact HY0.out);(· go_simp);refine qnx ?_)))
    (refine w3_act (fun K hK=>?_);go_simp)
    refine (sisname_any p.silent (HPA.out _ HKE.out).silentOk _ (HLA.out _ (HKE.out.trans (Kept.ext HY0.out)))).mono ?_
    rintro e w4 ⟨rfl,hx4⟩
    have HY1:=zhd (HY0.out.trans hx4)
    clear hx4
    refine hK.out _ _ (fun _=>HY1.out) ?_
    clear hK K
    (repeat (first | refine qs3 ?_ | ((apply w3_take);(· exact HY1.out);(· go_simp);(· (intro w1 hS;have d4:=Blk.kept HPB.out (HKE.out.trans (Kept.ext hS)) HNE.out.1;have d5:=Blk.cell d4;have d6:=d4.lt; go_simp;try with_reducible rfl));refine qnx ?_) | ((apply w3_pass);(· exact HY1.out);(· go_simp);refine qnx ?_)))
    (refine w3_last (by kernel_rfl) (by kernel_rfl) (fun K hK=>?_);go_simp)
    have HK0:=HKE
    have HKE:=zhd (HK0.out.trans (Kept.ext HY1.out))
    rw [← HB1.out]
    cases b1
    ·have HR:=zhd (show X=some ⟨6,p.silent⟩ by rw [HX4.out,must_false,ored_some])
     exact zz31
    ·have HX5:=zhd (show X=ored (must b2 7 p.silent) (ored (must b3 5 p.name) (ored T (ored (must b4 4 sTurn) (must b5 4 sPay)))) by rw [HX4.out,must_true,ored_none])
     refine (must_any true _ _ _).mono ?_
     rintro e w8 ⟨he,rfl⟩
     have he:=MustR.none he
     subst he
     refine hK.out _ _ ?_
     clear hK K
     refine qf3 ?_
     have HC4:=zhd (HC3.out.ext HY1.out)
     clear HX4 HC3 HY0 HY1 HK0
     go_upto_region 7 with (fail)
     obtain ⟨v,hv⟩:∃ v,v=knV p.vars p.silent:=⟨_,rfl⟩
     have HV:=zhd hv
     clear hv
     refine qr3 (fun w1=>Ext w4 w1) [(0,2),(1,2),(2,1),(5,2),(6,1),(3,0),(4,2),(7,0)] ?_;refine qrl ?_
     have HY0:=zhd (show Ext w4 w4.drew from (Kept.refl _ w4).drew)
     (repeat (first | refine qs3 ?_ | ((apply w3_take);(· exact HY0.out);(· go_simp);(· (intro w1 hS;have d4:=Blk.kept HPB.out (HKE.out.trans (Kept.ext hS)) HNE.out.1;have d5:=Blk.cell d4;have d6:=d4.lt; go_simp;try with_reducible rfl));refine qnx ?_) | ((apply w3_pass);(· exact HY0.out);(· go_simp);refine qnx ?_)))
     (refine w3_act (fun K hK=>?_);go_simp)
     refine (knows_any cb g (knV p.vars) E0 0 p.silent _ (HC4.out.ext HY0.out)).mono ?_
     rintro e w5 ⟨rfl,rfl⟩
     rw [← HV.out]
     refine hK.out _ _ (fun _=>HY0.out) ?_
     clear hK K
     (repeat (first | refine qs3 ?_ | ((apply w3_take);(· exact HY0.out);(· go_simp);(· (intro w1 hS;have d4:=Blk.kept HPB.out (HKE.out.trans (Kept.ext hS)) HNE.out.1;have d5:=Blk.cell d4;have d6:=d4.lt; go_simp;try with_reducible rfl));refine qnx ?_) | ((apply w3_pass);(· exact HY0.out);(· go_simp);refine qnx ?_)))
     (refine w3_last (by kernel_rfl) (by kernel_rfl) (fun K hK=>?_);go_simp)
     have HK0:=HKE
     have HKE:=zhd (HK0.out.trans (Kept.ext HY0.out))
     by_cases hv0:v=0
     ·have qv:(v != 0)=false:=by simp [hv0]
      have HX6:=zhd (show X=ored (must b3 5 p.name) (ored T (ored (must b4 4 sTurn) (must b5 4 sPay))) by rw [HX5.out,show b2=true by rw [HB2.out,← HV.out,hv0];rfl,must_true,ored_none])
      try rw [qv]
      try simp only [Bool.not_false]
      refine (must_any true _ _ _).mono ?_
      rintro e w8 ⟨he,rfl⟩
      have he:=MustR.none he
      subst he
      refine hK.out _ _ ?_
      clear hK K
      refine qf3 ?_
      have HSK:=zhd (show knV p.vars p.silent=0 by rw [← HV.out,hv0])
      have HC5:=zhd (HC4.out.ext HY0.out)
      generalize w4.drew=w5 at HKE HC5 ⊢
      clear HX5 hv0 qv HC4 HY0 HK0 HV
      go_upto_region 8 with (fail)
      obtain ⟨z,hz⟩:∃ z,z=w64 (psize p):=⟨_,rfl⟩
      have HZ:=zhd hz
      clear hz
      refine qr3 (fun w1=>Ext w5 w1) [(0,1),(3,2),(4,1),(1,0),(2,2),(5,0)] ?_;refine qrl ?_
      have HY0:=zhd (show Ext w5 w5.drew from (Kept.refl _ w5).drew)
      (repeat (first | refine qs3 ?_ | ((apply w3_take);(· exact HY0.out);(· go_simp);(· (intro w1 hS;have d4:=Blk.kept HPB.out (HKE.out.trans (Kept.ext hS)) HNE.out.1;have d5:=Blk.cell d4;have d6:=d4.lt;have d7:=Blk.has d4;have d8:=Blk.gets d4; go_simp;try with_reducible rfl));refine qnx ?_) | ((apply w3_pass);(· exact HY0.out);(· go_simp);refine qnx ?_)))
      (refine w3_act (fun K hK=>?_);go_simp)
      refine (ssize_any (⟨p.name,cse,cst,cv,cs,⟨tA,tn,tc⟩,cpa,cpl,p.silent,cq,⟨zA,zn,zc⟩⟩:Pc) p N _ (HNA.out _ (HKE.out.trans (Kept.ext HY0.out))) (HPA.out _ (HKE.out.trans (Kept.ext HY0.out)))).mono ?_
      rintro e w6 ⟨rfl,hx6⟩
      rw [← HZ.out]
      have HY1:=zhd (HY0.out.trans hx6)
      clear hx6
      refine hK.out _ _ (fun _=>HY1.out) ?_
      clear hK K
      have HK0:=HKE
      by_cases hz:z≤1000
      ·have HX7:=zhd (show X=ored T (ored (must b4 4 sTurn) (must b5 4 sPay)) by rw [HX6.out,show b3=true by rw [HB3.out,← HZ.out];exact decide_eq_true hz,must_true,ored_none])
       (repeat (first | refine qs3 ?_ | ((apply w3_take);(· exact HY1.out);(· go_simp);(· (intro w1 hS;have d4:=Blk.kept HPB.out (HKE.out.trans (Kept.ext hS)) HNE.out.1;have d5:=Blk.cell d4;have d6:=d4.lt;have d7:=Blk.has d4;have d8:=Blk.gets d4; go_simp;try with_reducible rfl));refine qnx ?_) | ((apply w3_pass);(· exact HY1.out);(· go_simp);refine qnx ?_)))
       (refine w3_last (by kernel_rfl) (by kernel_rfl) (fun K hK=>?_);go_simp)
       have HKE:=zhd (HK0.out.trans (Kept.ext HY1.out))
       refine (must_any true _ _ _).mono ?_
       rintro e w8 ⟨he,rfl⟩
       have he:=MustR.none he
       subst he
       refine hK.out _ _ ?_
       clear hK K
       refine qf3 ?_
       have HC6:=zhd (HC5.out.ext HY1.out)
       clear HX6 hz HC5 HY0 HY1 HK0 HZ
       have hcP:=Blk.cell (Blk.kept HPB.out HKE.out HNE.out.1)
       have hlP:=(Blk.kept HPB.out HKE.out HNE.out.1).lt
       have hhP:=Blk.has (Blk.kept HPB.out HKE.out HNE.out.1)
       have hgP:=Blk.gets (Blk.kept HPB.out HKE.out HNE.out.1)
       go_wp2_with fail
       refine (parts_any cb g (knV p.vars) (⟨p.name,cse,cst,cv,cs,⟨tA,tn,tc⟩,cpa,cpl,p.silent,cq,⟨zA,zn,zc⟩⟩:Pc) p N hN4 hNg hNc _ (HNA.out _ HKE.out) (HPA.out _ HKE.out) (HLA.out _ HKE.out) HC6.out HP4.out HPR.out HSK.out).mono ?_
       rintro e w7 ⟨he,hk⟩
       clear hcP hlP hhP hgP
       rw [← HT.out] at he
       have HKE:=zhd (HKE.out.trans hk)
       clear hk HC6
       cases T with
       | some f =>
        have he:=MustR.some he
        subst he
        have HR:=zhd (show X=some f by rw [HX7.out,ored_some])
        exact zz38
       | none =>
        have he:=MustR.none he
        subst he
        have HX8:=zhd (show X=ored (must b4 4 sTurn) (must b5 4 sPay) by rw [HX7.out,ored_none])
        clear HX7 HT
        have hcP:=Blk.cell (Blk.kept HPB.out HKE.out HNE.out.1)
        have hlP:=(Blk.kept HPB.out HKE.out HNE.out.1).lt
        have hhP:=Blk.has (Blk.kept HPB.out HKE.out HNE.out.1)
        have hgP:=Blk.gets (Blk.kept HPB.out HKE.out HNE.out.1)
        go_wp2_with fail
        refine (sends_any w7 p.turn tA tn tc N _ (Kept.refl _ _) (HNA.out _ HKE.out) (HPA.out _ HKE.out).turn).mono ?_
        rintro e w8 ⟨rfl,hx8⟩
        clear hcP hlP hhP hgP
        have HKE:=zhd (HKE.out.trans (Kept.ext hx8))
        clear hx8
        go_wp2_with fail
        rw [← HB4.out]
        cases b4
        ·have HR:=zhd (show X=some ⟨4,sTurn⟩ by rw [HX8.out,must_false,ored_some])
         exact zz31
        ·have HX9:=zhd (show X=must b5 4 sPay by rw [HX8.out,must_true,ored_none])
         refine (must_any true _ _ _).mono ?_
         rintro e w8 ⟨he,rfl⟩
         have he:=MustR.none he
         subst he
         clear HX8
         have hcP:=Blk.cell (Blk.kept HPB.out HKE.out HNE.out.1)
         have hlP:=(Blk.kept HPB.out HKE.out HNE.out.1).lt
         have hhP:=Blk.has (Blk.kept HPB.out HKE.out HNE.out.1)
         have hgP:=Blk.gets (Blk.kept HPB.out HKE.out HNE.out.1)
         obtain ⟨-,-,b,off,hA,hE⟩:=(HPA.out _ HKE.out).pays
         have HA:=zhd hA
         have HE:=zhd hE
         clear hA hE
         have hcR:=Blk.cell (Blk.kept HRB.out HKE.out HNE.out.2)
         have hzR:=Blk.frozen (Blk.kept HRB.out HKE.out HNE.out.2)
         have hlR:=(Blk.kept HRB.out HKE.out HNE.out.2).lt
         have hmR:=(Blk.kept HRB.out HKE.out HNE.out.2).melts
         have hhR:=Blk.has (Blk.kept HRB.out HKE.out HNE.out.2)
         cases zn with
         | zero =>
          have HR:=zhd (show X=some ⟨4,sPay⟩ by
           have:p.pays=.nil:=by
            have hz:=HZN.out
            cases hq:p.pays with
            | nil=>rfl
            | cons=>rw [hq] at hz;simp [SF.len] at hz
           rw [HX9.out,show b5=false by rw [HB5.out,this];rfl,must_false])
          exact zz30
         | succ m =>
          obtain ⟨k,hk,hrl,hbN⟩:=rest_at HE.out (by rw [← HZN.out];exact Nat.succ_pos m)
          obtain rfl:=HA.out (Nat.succ_pos m)
          rw [← HZN.out] at hk
          have hm:=HZM.out
          have hbw:=HNA.out _ HKE.out
          simp only [Nat.add_sub_cancel] at hk
          have hi1:(m:Int) < ((m:Int)+1):=by omega
          have hi0:(0:Int) < (m:Int)+1:=by omega
          have HRL:=zhd hrl
          clear hrl
          cases hq:(k == 9)
          ·have HR:=zhd (show X=some ⟨4,sPay⟩ by rw [HX9.out,show b5=false by rw [HB5.out,HRL.out,hq],must_false])
           exact zz30
          ·have HR:=zhd (show X=none by rw [HX9.out,show b5=true by rw [HB5.out,HRL.out,hq],must_true])
           go_wp2_with fail
           refine (must_any true _ _ _).mono ?_
           rintro e w8 ⟨he,rfl⟩
           have he:=MustR.none he
           subst he
           clear hk hbw hcP hlP hhP hgP
           go_wp2_with fail
           refine leaves_cons (f:=71) (args:=#[.pointer (some ⟨rb,0,none⟩)]) (by simp) (by simp [go_sem]) ?_
           refine (catch_idle ⟨rb,0,none⟩ _).mono ?_
           rintro e u' w9 ⟨rfl,rfl,hk9⟩
           have hre:=Blk.ext (Blk.put_ (Blk.kept HRB.out HKE.out HNE.out.2) 0 #[.int .i64 0,.string ⟨#[]⟩]) hk9
           refine ⟨_,results_cell_row Tryz.results42 _ _ rb _ _ _ _ rfl hre Tryz.underlying104 rfl sizeFaultS,?_⟩
           rw [HR.out]
           exact ⟨rfl,HOWN.out _ _ HKE.out ((Kept.putAt (Kept.refl (·=rb) _) _ _ _ (fun _=>rfl)).trans (Kept.ext hk9))⟩
      ·have HR:=zhd (show X=some ⟨5,p.name⟩ by rw [HX6.out,show b3=false by rw [HB3.out,← HZ.out];exact decide_eq_false hz,must_false,ored_some])
       (repeat (first | refine qs3 ?_ | ((apply w3_take);(· exact HY1.out);(· go_simp);(· (intro w1 hS;have d4:=Blk.kept HPB.out (HKE.out.trans (Kept.ext hS)) HNE.out.1;have d5:=Blk.cell d4;have d6:=d4.lt;have d7:=Blk.has d4;have d8:=Blk.gets d4; go_simp;try with_reducible rfl));refine qnx ?_) | ((apply w3_pass);(· exact HY1.out);(· go_simp);refine qnx ?_)))
       (refine w3_last (by kernel_rfl) (by kernel_rfl) (fun K hK=>?_);go_simp)
       have HKE:=zhd (HK0.out.trans (Kept.ext HY1.out))
       exact zz31
     ·have qv:(v != 0)=true:=by simp [hv0]
      have qn:(v == 0)=false:=by simp [hv0]
      have HR:=zhd (show X=some ⟨7,p.silent⟩ by rw [HX5.out,show b2=false by rw [HB2.out,← HV.out,qn],must_false,ored_some])
      try rw [qv]
      try simp only [Bool.not_true]
      exact zz31
open Go.RowKit So
theorem ESl.nil (w:World) (N:Nat) (A:Option Addr):ESl w N A 0 .nil:=⟨rfl,by unfold Fits;omega,0,0,fun h=>absurd h (by omega),trivial⟩
theorem SSl.nil (w:World) (N:Nat) (A:Option Addr):SSl w N A 0 .nil:=⟨rfl,by unfold Fits;omega,0,0,fun h=>absurd h (by omega),trivial⟩
theorem VSl.nil (w:World) (N:Nat) (A:Option Addr):VSl w N A 0 []:=⟨rfl,by unfold Fits;omega,fun v hv=>absurd hv (by simp),0,0,fun h=>absurd h (by omega),fun h=>absurd h (by omega)⟩
theorem ef_one {w:World} {N b:Nat} {t:TypeId} {op n:Int} {name:Str} {A:Option Addr} {cap:Nat} {k:EF} (hB:Blk w b t (ecells op n name A k.len cap)) (hb:b < N) (h1:i64ok op) (h2:i64ok n) (h3:name.size≤maxLen) (hk:ESl w N A k.len k):ESl w N (some ⟨b,0,none⟩) 1 (.cons op n name k .nil):=by
 obtain ⟨-,hf,b',off',hA,hE⟩:=hk
 refine ⟨rfl,by unfold Fits;omega,b,0,fun _=>rfl,hb,h1,h2,h3,⟨A,cap,b',off',?_,?_,hf,hA,hE⟩,trivial⟩
 ·rw [Blk.has hB];simp
 ·rw [Blk.gets hB];rfl
theorem sf_one {w:World} {N b:Nat} {t:TypeId} {kind:Int} {name:Str} {e:EF} {low high:Int} {l x:SF} {eA:Option Addr} {ec:Nat} {lA:Option Addr} {lc:Nat} {xA:Option Addr} {xc:Nat} (hB:Blk w b t (scells kind name eA e.len ec low high lA l.len lc xA x.len xc)) (hb:b < N)
 (h1:i64ok kind) (h2:i64ok low) (h3:i64ok high) (h4:name.size≤maxLen) (he:ESl w N eA e.len e) (hl:SSl w N lA l.len l) (hx:SSl w N xA x.len x):SSl w N (some ⟨b,0,none⟩) 1 (.cons kind name e low high l x .nil):=by
 obtain ⟨-,f1,be,oe,a1,e1⟩:=he
 obtain ⟨-,f2,bl,ol,a2,e2⟩:=hl
 obtain ⟨-,f3,bx,ox,a3,e3⟩:=hx
 refine ⟨rfl,by unfold Fits;omega,b,0,fun _=>rfl,hb,h1,h2,h3,h4,⟨eA,ec,lA,lc,xA,xc,be,oe,bl,ol,bx,ox,?_,?_,f1,f2,f3,a1,a2,a3,e1,e2,e3⟩,trivial⟩
 ·rw [Blk.has hB];simp
 ·rw [Blk.gets hB];rfl
def sG:Str:=⟨#[103]⟩
def sA:Str:=⟨#[97]⟩
def sL:Str:=⟨#[108]⟩
def sW:Str:=⟨#[119]⟩
def e0F:EF:=.cons 0 0 E0 .nil .nil
def smallT:SF:=.cons 7 E0 .nil 0 0 .nil .nil .nil
def fewB (p:Pr):Bool:=decide (w64 (psize p)≤1200) && decide ((p.stakes.length:Int)≤20)
abbrev smallC (n:Nat):Pc:=⟨sG,2,⟨some ⟨n+1+1,0,none⟩,2,2⟩,⟨some ⟨n+1+1+1,0,none⟩,2,2⟩,⟨none,0,0⟩,⟨some ⟨n+1+1+1+1,0,none⟩,1,1⟩,⟨none,0,0⟩,⟨none,0,0⟩,sW,⟨none,0,0⟩,⟨some ⟨n+1+1+1+1+1+1,0,none⟩,1,1⟩⟩
theorem ok64 {n:Int} (h:-10≤n∧n≤10):i64ok n:=by unfold i64ok;omega
theorem name_ok (s:Str) (h:s.size≤10):s.size≤maxLen:=by unfold maxLen;omega
open Go.RowKit
structure Ins where (op a b c:Int)
abbrev Ins.cells (i:Ins):Array Value:=#[.int .i64 i.op,.int .i64 i.a,.int .i64 i.b,.int .i64 i.c]
attribute [go_sem] Ins.cells
theorem aggWins:aggT Tryz.prog 77=true:=by kernel_rfl
theorem sizeWins:sizeT Tryz.prog 77=some 4:=by kernel_rfl
theorem wpLoadWins {dst:Option Tmp} {ty':TypeId} {x:Operand} {pos:String} {after:Array Edge} {guard:Option (Nat × Bool)} {a:Act} {w:World} {K:Act→World→Prop} {Q:Exit→Act→World→Prop} (hx:isAt (a.eval x)=true) (hh:has w (blkOf (a.eval x)) (offOf (a.eval x)) 4=true) :
 Oper.wp Tryz.prog { dst:=dst,op:=.load 77 x,type:=ty',pos:=pos,after:=after,guard:=guard } a w K Q=K (a.put dst (.agg (gets w (blkOf (a.eval x)) (offOf (a.eval x)) 4))) w:=wp_load_big 4 aggWins sizeWins hx hh
theorem runLoadWins {ρ:Operand→Value} {dst:Option Tmp} {ty':TypeId} {x:Operand} {pos:String} {after:Array Edge} {guard:Option (Nat × Bool)} {w:World} (hx:isAt (ρ x)=true) (hh:has w (blkOf (ρ x)) (offOf (ρ x)) 4=true) :
 (execOp ρ { dst:=dst,op:=.load 77 x,type:=ty',pos:=pos,after:=after,guard:=guard }).run Tryz.prog w=.ok (.value (.agg (gets w (blkOf (ρ x)) (offOf (ρ x)) 4))) w:=run_exec_load_big 4 aggWins sizeWins hx hh
theorem loadVarWins (w:World) (g off:Nat) (hh:has w g off 4=true):(loadVar 77 ⟨g,off,none⟩).run Tryz.prog w=.ok (.agg (gets w g off 4)) w:=run_loadVar_big Tryz.prog w _ g off 4 aggWins sizeWins hh
attribute [go_sem] aggWins sizeWins
attribute [go_sem ↓ high] wpLoadWins loadVarWins runLoadWins
attribute [go_sem high] wpLoadWins
theorem aggMst:aggT Tryz.prog 49=true:=by kernel_rfl
theorem sizeMst:sizeT Tryz.prog 49=some 3:=by kernel_rfl
theorem wpLoadMst {dst:Option Tmp} {ty':TypeId} {x:Operand} {pos:String} {after:Array Edge} {guard:Option (Nat × Bool)} {a:Act} {w:World} {K:Act→World→Prop} {Q:Exit→Act→World→Prop} (hx:isAt (a.eval x)=true) (hh:has w (blkOf (a.eval x)) (offOf (a.eval x)) 3=true) :
 Oper.wp Tryz.prog { dst:=dst,op:=.load 49 x,type:=ty',pos:=pos,after:=after,guard:=guard } a w K Q=K (a.put dst (.agg (gets w (blkOf (a.eval x)) (offOf (a.eval x)) 3))) w:=wp_load_big 3 aggMst sizeMst hx hh
theorem runLoadMst {ρ:Operand→Value} {dst:Option Tmp} {ty':TypeId} {x:Operand} {pos:String} {after:Array Edge} {guard:Option (Nat × Bool)} {w:World} (hx:isAt (ρ x)=true) (hh:has w (blkOf (ρ x)) (offOf (ρ x)) 3=true) :
 (execOp ρ { dst:=dst,op:=.load 49 x,type:=ty',pos:=pos,after:=after,guard:=guard }).run Tryz.prog w=.ok (.value (.agg (gets w (blkOf (ρ x)) (offOf (ρ x)) 3))) w:=run_exec_load_big 3 aggMst sizeMst hx hh
theorem loadVarMst (w:World) (g off:Nat) (hh:has w g off 3=true):(loadVar 49 ⟨g,off,none⟩).run Tryz.prog w=.ok (.agg (gets w g off 3)) w:=run_loadVar_big Tryz.prog w _ g off 3 aggMst sizeMst hh
attribute [go_sem] aggMst sizeMst
attribute [go_sem ↓ high] wpLoadMst loadVarMst runLoadMst
attribute [go_sem high] wpLoadMst
structure Ins.ok (i:Ins):Prop where
 op:i64ok i.op
 a:i64ok i.a
 b:i64ok i.b
 c:i64ok i.c
def inss (l:List Ins):List Value:=l.flatMap fun d=>d.cells.toList
theorem inss_length (l:List Ins):(inss l).length=l.length * 4:=by
 induction l with
 | nil=>rfl
 | cons d l ih=>simp only [inss,List.flatMap_cons,List.length_append] at ih ⊢;rw [ih];simp;omega
theorem inss_at:∀ (l:List Ins) (k:Nat) (hk:k < l.length),((inss l).drop (k * 4)).take 4=(l[k]).cells.toList
 | d :: l,0,_=>by simp [inss]
 | d :: l,k+1,hk=>by
  have ih:=inss_at l k (by simpa using hk)
  have e:(inss (d :: l)).drop ((k+1) * 4)=(inss l).drop (k * 4):=by
   rw [show (k+1) * 4=4+k * 4 by omega,← List.drop_drop]
   rfl
  rw [e,ih]
  simp
theorem Row.ins {w:World} {b off:Nat} {l:List Ins} (h:Row w b off (inss l)) (k:Nat) (hk:k < l.length):Proofs.YtbfbabbcdochjaaGreatDoor.has w b (off+k * 4) 4=true∧gets w b (off+k * 4) 4=(l[k]).cells:=by
 have:=h.sub (k * 4) 4 (by rw [inss_length];omega)
 rw [inss_at l k hk] at this
 simpa using this
def mems (l:List Int):List Value:=l.map fun x=>.int .i32 x
theorem Row.mem {w:World} {b off:Nat} {l:List Int} (h:Row w b off (mems l)) (k:Nat) (hk:k < l.length):w.cell? ⟨b,off+k,none⟩=some (.int .i32 l[k]):=by
 rw [h.cell k (by simpa [mems] using hk)]
 simp [mems,hk]
def rightS (pc halt n:Int):Bool:=decide (1≤n) && decide (n≤256) && decide (0≤pc) && decide (pc≤2048) && decide (0≤halt) && decide (halt≤2)
abbrev stCells (pc:Int) (A:Option Addr) (n cap:Nat) (halt:Int):Array Value:=#[.int .i64 pc,.slice A n cap,.int .i64 halt]
attribute [go_sem] stCells
theorem rightS_inv {pc halt:Int} {n:Nat} (h:rightS pc halt n=true):1≤n∧n≤256∧0≤pc∧pc≤2048∧0≤halt∧halt≤2:=by
 simp [rightS] at h
 omega
theorem Blk.row {w:World} {g:Nat} {E:TypeId} {l:List Value} (h:Blk w g E l.toArray):Row w g 0 l:=by simpa using Row.of_blk h
def Ins.at (i:Ins):Nat→Int | 0=>i.op | 1=>i.a | 2=>i.b | _=>i.c
def i32ok (n:Int):Prop:=-2147483648≤n∧n≤2147483647
end Go.Proofs.YtbfbabbcdochjaaGreatDoor
namespace Go.Proofs.YtbfbabbcdochjaaGreatDoor.Mc
open Go.RowKit
def hasN (k:Nat):List UInt8:=match k with
 | 0=>[110] | 1=>[119,110] | 2=>[119,119] | 14=>[119,119] | 17=>[119,110,110] | 18=>[119,119,110] | 19=>[112] | 20=>[112,119] | 21=>[112,119] | _=>[119,119,119]
def hasS (k:Nat):ByteArray:=⟨(hasN k).toArray⟩
structure OpsAt (w:World):Prop where
 lt:0 < w.heap.size
 at_:∀ k,k < 22→w.cell? ⟨0,k * 2+1,none⟩=some (.string (hasS k))
theorem OpsAt.ext {w w':World} (h:OpsAt w) (hx:Ext w w'):OpsAt w' :=
 ⟨Nat.lt_of_lt_of_le h.lt hx.size,fun k hk=>(Kept.cell hx (p:=⟨0,k * 2+1,none⟩) h.lt (fun f=>f)).trans (h.at_ k hk)⟩
theorem OpsAt.kept {S:Nat→Prop} {w w':World} (h:OpsAt w) (hx:Kept S w w') (hs:¬ S 0):OpsAt w' :=
 ⟨Nat.lt_of_lt_of_le h.lt hx.size,fun k hk=>(Kept.cell hx (p:=⟨0,k * 2+1,none⟩) h.lt hs).trans (h.at_ k hk)⟩
def isOp (op:Int):Bool:=decide (0≤op) && decide (op < 22)
theorem is_any (op:Int) (w:World):Calls Tryz.prog 114 #[.int .i64 op] w fun e w'=>e=.returned (.bool (isOp op))∧w=w':=by
 go_enter Tryz.func114,Tryz.ntmps114
 go_wp2_with fail
 all_goals go_ret
 all_goals refine ⟨ret_bool ?_,rfl⟩
 all_goals (rw [Bool.eq_iff_iff];simp [isOp];omega)
def i32B (n:Int):Bool:=decide (-2147483648≤n) && decide (n≤2147483647)
theorem cright_any (n:Int) (w:World):Calls Tryz.prog 117 #[.int .i64 n] w fun e w'=>e=.returned (.bool (i32B n))∧w=w':=by
 go_enter Tryz.func117,Tryz.ntmps117
 go_wp2_with fail
 all_goals go_ret
 all_goals refine ⟨ret_bool ?_,rfl⟩
 all_goals (rw [Bool.eq_iff_iff];simp [i32B];omega)
theorem aggArr3:aggT Tryz.prog 180=true:=by kernel_rfl
theorem sizeArr3:sizeT Tryz.prog 180=some 3:=by kernel_rfl
theorem wpLoadArr3 {dst:Option Tmp} {ty':TypeId} {x:Operand} {pos:String} {after:Array Edge} {guard:Option (Nat × Bool)} {a:Act} {w:World} {K:Act→World→Prop} {Q:Exit→Act→World→Prop} (hx:isAt (a.eval x)=true) (hh:has w (blkOf (a.eval x)) (offOf (a.eval x)) 3=true) :
 Oper.wp Tryz.prog { dst:=dst,op:=.load 180 x,type:=ty',pos:=pos,after:=after,guard:=guard } a w K Q=K (a.put dst (.agg (gets w (blkOf (a.eval x)) (offOf (a.eval x)) 3))) w:=wp_load_big 3 aggArr3 sizeArr3 hx hh
theorem runLoadArr3 {ρ:Operand→Value} {dst:Option Tmp} {ty':TypeId} {x:Operand} {pos:String} {after:Array Edge} {guard:Option (Nat × Bool)} {w:World} (hx:isAt (ρ x)=true) (hh:has w (blkOf (ρ x)) (offOf (ρ x)) 3=true) :
 (execOp ρ { dst:=dst,op:=.load 180 x,type:=ty',pos:=pos,after:=after,guard:=guard }).run Tryz.prog w=.ok (.value (.agg (gets w (blkOf (ρ x)) (offOf (ρ x)) 3))) w:=run_exec_load_big 3 aggArr3 sizeArr3 hx hh
theorem loadVarArr3 (w:World) (g off:Nat) (hh:has w g off 3=true):(loadVar 180 ⟨g,off,none⟩).run Tryz.prog w=.ok (.agg (gets w g off 3)) w:=run_loadVar_big Tryz.prog w _ g off 3 aggArr3 sizeArr3 hh
attribute [go_sem] aggArr3 sizeArr3
attribute [go_sem ↓ high] wpLoadArr3 loadVarArr3 runLoadArr3
attribute [go_sem high] wpLoadArr3
theorem three_any (i:Ins) (w:World):Calls Tryz.prog 116 #[.agg i.cells] w fun e w'=>e=.returned (.agg #[.int .i64 i.a,.int .i64 i.b,.int .i64 i.c])∧Ext w w':=by
 go_enter Tryz.func116,Tryz.ntmps116
 go_wp2_with fail
 refine ret_cell Tryz.results116 rfl rfl aggArr3 (by exact sizeArr3) (Blk.new' _ _ _ _ (by simp)) ⟨rfl,?_⟩
 exact ((Kept.refl _ w).alloc _).alloc _
def hasI (i:Ins):ByteArray:=if isOp i.op=true then hasS i.op.toNat else ⟨#[]⟩
theorem has_any (i:Ins) (w:World) (hops:OpsAt w):Calls Tryz.prog 115 #[.agg i.cells] w fun e w'=>e=.returned (.string (hasI i))∧Ext w w':=by
 have hx0:Ext w _:=(Kept.refl _ w).alloc (.cells i.cells 77)
 have HOP:=zhd (hops.ext hx0)
 clear hops
 by_cases h:isOp i.op=true
 ·have hb:=h
  simp [isOp] at hb
  obtain ⟨op,a,b,c⟩:=i
  obtain ⟨k,rfl⟩:∃ k:Nat,op=k:=⟨op.toNat,by simp at hb;omega⟩
  simp at hb
  have hk:k < 22:=by omega
  have hkI:(k:Int) < 22:=by omega
  have hq:hasI ⟨k,a,b,c⟩=hasS k:=by simp only [hasI,if_pos h];rfl
  rw [hq]
  have HH:=zhd h
  have hcl:=HOP.out.at_ k hk
  clear h hq hb
  go_enter Tryz.func115,Tryz.ntmps115
  exact zz89
 ·have hf:isOp i.op=false:=by simpa using h
  have hq:hasI i=⟨#[]⟩:=by simp only [hasI,if_neg h]
  rw [hq]
  have HH:=zhd hf
  clear h hf hq
  go_enter Tryz.func115,Tryz.ntmps115
  exact zz89
end Go.Proofs.YtbfbabbcdochjaaGreatDoor.Mc
