/- Several texts joined: Qw, Qx, Qy, Qza. -/
import Derived.Defers
import Derived.Recover
import Derived.Test.YtbfbabbcdochjaaGreatDoorRxpk
import Derived.Test.YtbfbabbcdochjaaGreatDoorRxai
set_option maxHeartbeats 4000000
namespace Go.Proofs.YtbfbabbcdochjaaGreatDoor
open Go.RowKit So
theorem MustR.none {e:Ending} (h:MustR none e):e=.returned (.tuple #[]):=h
theorem MustR.some {f:Flt} {e:Ending} (h:MustR (some f) e):e=.panicked (thr f):=h
abbrev ExSC (cb:Nat) (κ:Kn) (w:World) (F:EF):Prop:=∀ (op m:Int) (s:Str) (B:Option Addr) (kn kc N:Nat) (w':World),Ext w w'→N≤w.heap.size→ESl w N B kn F →
 Calls Tryz.prog 184 #[.pointer (some ⟨cb,0,none⟩),.agg (ecells op m s B kn kc)] w' fun e w2=>MustR (chk1 κ op m s F) e∧Ext w' w2
theorem elook {w:World} {cb g:Nat} {κ:Kn} {part:Str} {fors:Nat} (h:Ck w cb g κ part fors) (s:Str):(Instr.lookup 143 (.map (some g)) (.string s) false).run Tryz.prog w=.ok (.int .i64 ((κ s:Int) - 1+(if κ s=0 then 1 else 0))) w:=by
 have hlk:=SMap.look (P:=Tryz.prog) h.map Tryz.underlying143 Tryz.underlying9 (z:=.int .i64 0) zero_sort s
 rw [hlk]
 unfold knF
 split <;> simp [*]
set_option maxRecDepth 100000 in
theorem sexpr_any (cb g:Nat) (κ:Kn) (part:Str) (fors:Nat) (w0:World) (hC:Ck w0 cb g κ part fors) (hL:LaidAt w0) (F:EF):ExSC cb κ w0 F:=by
 refine ef_ind (C:=ExSC cb κ w0) ?_ F
 intro F IH op m s B kn kc N0 w hx0 hN0 hes
 obtain ⟨X,hX⟩:∃ X,X=chk1 κ op m s F:=⟨_,rfl⟩
 rw [← hX]
 obtain ⟨r,hr⟩:∃ r,r=chkE κ F:=⟨_,rfl⟩
 have hX2:X=ored (head1 κ op m s kn) r:=by rw [hX,hr,hes.1];rfl
 have HX2:=J hX2
 have HEQ:=J hr.symm
 clear hX hX2 hr
 obtain ⟨hn,hf,b,off,hA,hE⟩:=hes
 refine zy25 ?_;intro hm HN HA HE
 have HI:=J IH
 clear hn hA hE IH hf
 have hx1:=(kR (fun _=>False) w).alloc (.cells (ecells op m s B kn kc) 200)
 have hE1:=bN w 200 (ecells op m s B kn kc)
 go_enter Tryz.func184,Tryz.ntmps184
 go_upto_region 1 with (fail)
 generalize hW:(w.alloc (.cells (ecells op m s B kn kc) 200))=W at hx1 hE1 ⊢
 generalize w.heap.size=eb at hE1 ⊢
 clear hW
 have hE0:=J hE1
 have HX0:=J hx1
 have HCW:=J (hC.ext (hx0.trans hx1))
 have HLW:=J (hL.ext (hx0.trans hx1))
 refine zy72 ?_;intro HY0
 clear hE1 hx1
 cases hb1:btw op 0 17
 ·have HR:=J (show X=some ⟨3,E0⟩ by rw [HX2.out];unfold head1;rw [hb1];rfl)
  refine zy57 ?_
  refine zy17 ?_
  refine zy81 ?_;intro K hK
  rintro e w1 ⟨rfl,rfl⟩
  rw [hb1]
  refine hK.out _ _ (fun _=>HY0.out) ?_
  clear hK K
  refine zy17 ?_
  exact zz66
 ·obtain ⟨k,rfl⟩:∃ k:Nat,op=k:=⟨op.toNat,by simp [btw] at hb1;omega⟩
  have hk18:k < 18:=by simp [btw] at hb1;omega
  have hkI:(k:Int) < 18:=by omega
  have HT:=J (HLW.out.ex k hk18)
  have HBN:=J hb1
  refine zy57 ?_
  (repeat first|refine qs3 ?_|refine qt3 HY0.out zb7 ?_|refine qp3 HY0.out ?_)
  refine zy81 ?_;intro K hK
  rintro e w1 ⟨rfl,rfl⟩
  rw [hb1]
  refine hK.out _ _ (fun _=>HY0.out) ?_
  clear hK K
  cases hb2:((kn:Int) == (exprParts k:Int))
  ·have HR:=J (show X=some ⟨3,E0⟩ by rw [HX2.out];unfold head1;rw [HBN.out,← nat_beq,hb2];rfl)
   (repeat first|refine qs3 ?_|refine qt3 HY0.out zb7 ?_|refine qp3 HY0.out ?_)
   exact zz66
  ·have HX3:Hid (X=ored (if (k:Int)=0 then must (word m) 2 E0 else if (k:Int)=1 ∨ (k:Int)=2 then ored (must (κ s != 0) 6 s) (must ((κ s == 2) == ((k:Int) == 2)) 11 s) else none) r):=J (by rw [HX2.out];unfold head1;rw [HBN.out,← nat_beq,hb2];rfl)
   (repeat first|refine qs3 ?_|refine qt3 HY0.out zb7 ?_|refine qp3 HY0.out ?_)
   (refine w3_last zb83 zb83 (fun K hK=>?_);go_simp)
   refine (must_any true _ _ _).mono ?_
   rintro e w1 ⟨he,rfl⟩
   have he:=MustR.none he
   subst he
   refine hK.out _ _ ?_
   clear hK K
   refine qf3 ?_
   have ys:=HY0.out
   have hcE:=bC (bX hE0.out ys)
   have hlE:=(bX hE0.out ys).lt
   clear hb1 hb2 hk18 hkI
   by_cases ho0:k=0
   ·subst ho0
    have HX4:Hid (X=ored (must (word m) 2 E0) r):=J zb78
    clear HX3
    go_wp2_with fail
    refine (right_any _ _).mono ?_
    rintro e w1 ⟨rfl,rfl⟩
    cases hw:word m
    ·have HR:=J (show X=some ⟨2,E0⟩ by rw [HX4.out,hw];rfl)
     go_wp2_with fail
     refine (must_any false _ _ _).mono ?_
     rintro e w1 ⟨he,rfl⟩
     have he:e=.panicked (thr ⟨2,E0⟩):=he
     subst he
     show _∧_
     exact ⟨rfl,by rw [HR.out];exact ⟨rfl,HX0.out.trans ys⟩⟩
    ·have HXR:=J (show X=r by rw [HX4.out,hw];rfl)
     go_wp2_with fail
     refine (must_any true _ _ _).mono ?_
     rintro e w1 ⟨he,rfl⟩
     have he:=MustR.none he
     subst he
     exact zz10
   ·have q0:((k:Int) == 0)=false:=by simp;omega
    by_cases ho1:k=1
    ·subst ho1
     have HX4:Hid (X=ored (ored (must (κ s != 0) 6 s) (must ((κ s == 2) == false) 11 s)) r):=J zb78
     clear HX3
     go_upto_region 7 with (fail)
     obtain ⟨v,hv⟩:∃ v,v=κ s:=⟨_,rfl⟩
     have HV:=J hv
     rw [← hv] at HX4
     clear hv
     generalize hW2:W.drew=W2 at ys hcE hlE ⊢
     clear hW2
     have HY2:=J ys
     refine qr3 (fun w1=>Ext W2 w1) [(0,2),(1,2),(2,1),(4,2),(5,1),(3,0),(6,0)] ?_;refine qrl ?_
     have HZ0:=J (show Ext W2 W2.drew from (kR _ W2).drew)
     (repeat first|refine qs3 ?_|refine qt3 HZ0.out zb23 ?_|refine qp3 HZ0.out ?_)
     (refine w3_act (fun K hK=>?_);go_simp)
     refine (knows_any cb g κ part fors s _ (HCW.out.ext (HY2.out.trans HZ0.out))).mono ?_
     rintro e w1 ⟨rfl,rfl⟩
     rw [← HV.out]
     refine hK.out _ _ (fun _=>HZ0.out) ?_
     clear hK K
     (repeat first|refine qs3 ?_|refine qt3 HZ0.out zb23 ?_|refine qp3 HZ0.out ?_)
     (refine w3_last zb83 zb83 (fun K hK=>?_);go_simp)
     by_cases hv0:v=0
     ·have qv:(v != 0)=false:=by simp [hv0]
      exact zz60
     ·have qv:(v != 0)=true:=by simp [hv0]
      rw [qv] at HX4 ⊢
      refine (must_any true _ _ _).mono ?_
      rintro e w1 ⟨he,rfl⟩
      have he:=MustR.none he
      subst he
      refine zy87 ?_;clear hK K ys hcE hlE;intro W3 HY3 HU0
      have hvI:((v:Int) - 1+(if v=0 then 1 else 0))=(v:Int) - 1:=by rw [if_neg hv0];omega
      refine zy95 ?_
      by_cases hv2:v=2
      ·have qv2:((v:Int) - 1 == 1)=true:=by simp [hv2]
       have qn:(v == 2)=true:=by simp [hv2]
       exact zz45
      ·have qv2:((v:Int) - 1 == 1)=false:=by simp;omega
       have qn:(v == 2)=false:=by simp [hv2]
       exact zz8
    ·have q1:((k:Int) == 1)=false:=by simp;omega
     by_cases ho2:k=2
     ·subst ho2
      have HX4:Hid (X=ored (ored (must (κ s != 0) 6 s) (must ((κ s == 2) == true) 11 s)) r):=J zb78
      clear HX3
      go_upto_region 7 with (fail)
      obtain ⟨v,hv⟩:∃ v,v=κ s:=⟨_,rfl⟩
      have HV:=J hv
      rw [← hv] at HX4
      clear hv
      generalize hW2:W.drew=W2 at ys hcE hlE ⊢
      clear hW2
      have HY2:=J ys
      refine qr3 (fun w1=>Ext W2 w1) [(0,2),(1,2),(2,1),(4,2),(5,1),(3,0),(6,0)] ?_;refine qrl ?_
      have HZ0:=J (show Ext W2 W2.drew from (kR _ W2).drew)
      (repeat first|refine qs3 ?_|refine qt3 HZ0.out zb23 ?_|refine qp3 HZ0.out ?_)
      (refine w3_act (fun K hK=>?_);go_simp)
      refine (knows_any cb g κ part fors s _ (HCW.out.ext (HY2.out.trans HZ0.out))).mono ?_
      rintro e w1 ⟨rfl,rfl⟩
      rw [← HV.out]
      refine hK.out _ _ (fun _=>HZ0.out) ?_
      clear hK K
      (repeat first|refine qs3 ?_|refine qt3 HZ0.out zb23 ?_|refine qp3 HZ0.out ?_)
      (refine w3_last zb83 zb83 (fun K hK=>?_);go_simp)
      by_cases hv0:v=0
      ·have qv:(v != 0)=false:=by simp [hv0]
       exact zz60
      ·have qv:(v != 0)=true:=by simp [hv0]
       rw [qv] at HX4 ⊢
       refine (must_any true _ _ _).mono ?_
       rintro e w1 ⟨he,rfl⟩
       have he:=MustR.none he
       subst he
       refine zy87 ?_;clear hK K ys hcE hlE;intro W3 HY3 HU0
       have hvI:((v:Int) - 1+(if v=0 then 1 else 0))=(v:Int) - 1:=by rw [if_neg hv0];omega
       refine zy95 ?_
       by_cases hv2:v=2
       ·have qv2:((v:Int) - 1 == 1)=true:=by simp [hv2]
        have qn:(v == 2)=true:=by simp [hv2]
        exact zz8
       ·have qv2:((v:Int) - 1 == 1)=false:=by simp;omega
        have qn:(v == 2)=false:=by simp [hv2]
        exact zz45
     ·have q2:((k:Int) == 2)=false:=by simp;omega
      have HXR:=J (show X=r by rw [HX3.out,if_neg zb85,if_neg zb85];rfl)
      exact zz10
open Go.RowKit So
set_option maxRecDepth 100000 in
theorem stands_any (cb g:Nat) (κ:Kn) (i fors:Nat) (hi:i < 5) (k:Int) (l:Bool) (w:World) (hC:Ck w cb g κ (partName i) fors):Calls Tryz.prog 180 #[.pointer (some ⟨cb,0,none⟩),.int .i64 k,.bool l] w fun e w'=>e=.returned (.bool (stands k i l))∧w=w':=by
 have hc:=bC hC.blk
 have hl:=hC.blk.lt
 clear hC
 rcases (by omega:i=0 ∨ i=1 ∨ i=2 ∨ i=3 ∨ i=4) with rfl | rfl | rfl | rfl | rfl
 all_goals
  simp only [partName,sStart,sTurn,sPlay,sSilent,sPay] at hc
  go_enter Tryz.func180,Tryz.ntmps180
  go_wp2_with fail
  all_goals go_ret
  all_goals refine ⟨ret_bool ?_,rfl⟩
  all_goals first | (simp_all [stands];done) | (simp_all [stands,str_eq];done) | (simp_all [stands,str_eq];decide) | (simp_all [stands,ByteArray.toList_eq])
set_option maxRecDepth 100000 in
theorem target_any (cb g:Nat) (κ:Kn) (part:Str) (fors:Nat) (kind:Int) (s:Str) (eA:Option Addr) (en ec:Nat) (low high:Int) (lA:Option Addr) (ln lc:Nat) (xA:Option Addr) (xn xc:Nat) (hk:kind=0 ∨ kind=1 ∨ kind=5) (w:World) (hC:Ck w cb g κ part fors) :
 Calls Tryz.prog 181 #[.pointer (some ⟨cb,0,none⟩),.agg (scells kind s eA en ec low high lA ln lc xA xn xc)] w fun e w'=>MustR (target κ kind s low) e∧Ext w w':=by
 obtain ⟨X,hX⟩:∃ X,X=target κ kind s low:=⟨_,rfl⟩
 rw [← hX]
 obtain ⟨v,hv⟩:∃ v,v=κ s:=⟨_,rfl⟩
 have HV:=J hv
 have HX2:Hid (X=ored (must (v != 0) 6 s) (ored (must (v == (if kind=1 then 2 else 1)) 11 s) (if kind=5 then must (btw low 2 1000) 2 s else none))):=J (by rw [hX,hv];rfl)
 clear hX hv
 have hx1:=(kR (fun _=>False) w).alloc (.cells (scells kind s eA en ec low high lA ln lc xA xn xc) 151)
 have hE1:=bN w 151 (scells kind s eA en ec low high lA ln lc xA xn xc)
 go_enter Tryz.func181,Tryz.ntmps181
 go_upto_region 1 with (fail)
 generalize hW:(w.alloc (.cells (scells kind s eA en ec low high lA ln lc xA xn xc) 151))=W at hx1 hE1 ⊢
 generalize w.heap.size=eb at hE1 ⊢
 clear hW
 have hE0:=J hE1
 have HX0:=J hx1
 have HCW:=J (hC.ext hx1)
 clear hE1 hx1 hC
 refine qr3 (fun w1=>Ext W w1) [(0,2),(1,2),(2,1),(4,2),(5,1),(3,0),(6,0)] ?_;refine qrl ?_
 refine zy72 ?_;intro HY0
 refine zy17 ?_
 (refine w3_act (fun K hK=>?_);go_simp)
 refine (knows_any cb g κ part fors s _ (HCW.out.ext HY0.out)).mono ?_
 rintro e w1 ⟨rfl,rfl⟩
 rw [← HV.out]
 refine hK.out _ _ (fun _=>HY0.out) ?_
 clear hK K
 refine zy17 ?_
 (refine w3_last zb83 zb83 (fun K hK=>?_);go_simp)
 have HX:=J (HX0.out.trans HY0.out)
 by_cases hv0:v=0
 ·have qv:(v != 0)=false:=by simp [hv0]
  have HR:=J (show X=some ⟨6,s⟩ by rw [HX2.out,qv];rfl)
  rw [qv]
  exact zz87
 ·have qv:(v != 0)=true:=by simp [hv0]
  have HX3:Hid (X=ored (must (v == (if kind=1 then 2 else 1)) 11 s) (if kind=5 then must (btw low 2 1000) 2 s else none)):=J (by rw [HX2.out,qv];rfl)
  rw [qv]
  refine (must_any true _ _ _).mono ?_
  rintro e w1 ⟨he,rfl⟩
  have he:=MustR.none he
  subst he
  refine hK.out _ _ ?_
  clear hK K
  refine qf3 ?_
  have HY1:=HY0
  have hcE:=bC (bX hE0.out HY1.out)
  have hlE:=(bX hE0.out HY1.out).lt
  have hvI:((v:Int) - 1+(if v=0 then 1 else 0))=(v:Int) - 1:=by rw [if_neg hv0];omega
  rcases hk with rfl | rfl | rfl
  ·
   have HX4:Hid (X=must (v == 1) 11 s):=J (by rw [HX3.out];simp)
   go_upto_region 5 with (fail)
   clear hcE hlE
   generalize hW3:W.drew=W3 at HY1 ⊢
   have HY3:=J HY1.out
   clear hW3
   refine zy104 ?_
   have HU0:=J (show Ext W3 W3.drew from (kR _ W3).drew)
   refine zy95 ?_
   have HX:=J (HX0.out.trans (HY3.out.trans HU0.out))
   clear hvI
   by_cases hv1:v=1
   ·have qv2:((v:Int) - 1 == 0)=true:=by simp [hv1]
    exact zz36
   ·have qv2:((v:Int) - 1 == 0)=false:=by simp;omega
    exact zz48
  ·
   have HX4:Hid (X=must (v == 2) 11 s):=J (by rw [HX3.out];simp)
   go_upto_region 5 with (fail)
   clear hcE hlE
   generalize hW3:W.drew=W3 at HY1 ⊢
   have HY3:=J HY1.out
   clear hW3
   refine zy104 ?_
   have HU0:=J (show Ext W3 W3.drew from (kR _ W3).drew)
   refine zy95 ?_
   have HX:=J (HX0.out.trans (HY3.out.trans HU0.out))
   clear hvI
   by_cases hv1:v=2
   ·have qv2:((v:Int) - 1 == 1)=true:=by simp [hv1]
    exact zz36
   ·have qv2:((v:Int) - 1 == 1)=false:=by simp;omega
    have qn:(v == 2)=false:=by simp [hv1]
    have HR:=J (show X=some ⟨11,s⟩ by rw [HX4.out,qn];rfl)
    refine zy76 ?_;intro K hK
    try rw [qv2]
    exact zz87
  ·
   have HX4:Hid (X=ored (must (v == 1) 11 s) (must (btw low 2 1000) 2 s)):=J (by rw [HX3.out];simp)
   go_upto_region 5 with (fail)
   clear hcE hlE
   generalize hW3:W.drew=W3 at HY1 ⊢
   have HY3:=J HY1.out
   clear hW3
   refine zy104 ?_
   have HU0:=J (show Ext W3 W3.drew from (kR _ W3).drew)
   refine zy95 ?_
   have HX:=J (HX0.out.trans (HY3.out.trans HU0.out))
   clear hvI
   by_cases hv1:v=1
   ·have qv2:((v:Int) - 1 == 0)=true:=by simp [hv1]
    have HX5:=J (show X=must (btw low 2 1000) 2 s by rw [HX4.out,hv1];rfl)
    refine zy76 ?_;intro K hK
    try rw [qv2]
    refine (must_any true _ _ _).mono ?_
    rintro e w1 ⟨he,rfl⟩
    have he:=MustR.none he
    subst he
    refine hK.out _ _ ?_
    clear hK K
    refine qf3 ?_
    have hcE3:=bC (bX hE0.out (HY3.out.trans HU0.out))
    have hlE3:=(bX hE0.out (HY3.out.trans HU0.out)).lt
    go_upto_region 7 with (fail)
    clear hcE3 hlE3
    generalize hW4:W3.drew=W4 at HU0 HX ⊢
    have HY4:=J (HY3.out.trans HU0.out)
    clear hW4
    refine qr3 (fun w1=>Ext W4 w1) [(0,2),(1,1),(3,2),(4,1),(2,0),(5,0)] ?_;refine qrl ?_
    have HV0:=J (show Ext W4 W4.drew from (kR _ W4).drew)
    (repeat first|refine qs3 ?_|refine qt3 HV0.out zb24 ?_|refine qp3 HV0.out ?_)
    refine zy81 ?_;intro K hK
    rintro e w1 ⟨rfl,rfl⟩
    refine hK.out _ _ (fun _=>HV0.out) ?_
    clear hK K
    (repeat first|refine qs3 ?_|refine qt3 HV0.out zb24 ?_|refine qp3 HV0.out ?_)
    (refine w3_last zb83 zb83 (fun K hK=>?_);go_simp)
    have HX:=J (HX0.out.trans (HY4.out.trans HV0.out))
    cases hb:btw low 2 1000
    ·have HR:=J (show X=some ⟨2,s⟩ by rw [HX5.out,hb];rfl)
     exact zz87
    ·have HR:=J (show X=none by rw [HX5.out,hb];rfl)
     exact zz79
   ·have qv2:((v:Int) - 1 == 0)=false:=by simp;omega
    exact zz48
open Go.RowKit So
set_option maxRecDepth 100000 in
theorem loop_any (cb g:Nat) (κ:Kn) (part:Str) (fors:Nat) (kind:Int) (s:Str) (eA:Option Addr) (en ec:Nat) (low high:Int) (lA:Option Addr) (ln lc:Nat) (xA:Option Addr) (xn xc:Nat) (hs:s.size≤maxLen) (w:World) (hC:Ck w cb g κ part fors) (hL:LaidAt w) :
 Calls Tryz.prog 182 #[.pointer (some ⟨cb,0,none⟩),.agg (scells kind s eA en ec low high lA ln lc xA xn xc)] w fun e w'=>MustR (loop κ s low high fors) e∧Ext w w':=by
 obtain ⟨X,hX⟩:∃ X,X=loop κ s low high fors:=⟨_,rfl⟩
 rw [← hX]
 obtain ⟨v,hv⟩:∃ v,v=κ s:=⟨_,rfl⟩
 have HV:=J hv
 have HX2:Hid (X=ored (must (isName s) 6 s) (ored (must (v == 0) 7 s) (ored (must (word low && word high && decide (high - low≤63)) 2 s) (must (decide (fors < 8)) 25 s)))):=J (by rw [hX,hv];rfl)
 clear hX hv
 have HSZ:=J hs
 clear hs
 have hx1:=(kR (fun _=>False) w).alloc (.cells (scells kind s eA en ec low high lA ln lc xA xn xc) 151)
 have hE1:=bN w 151 (scells kind s eA en ec low high lA ln lc xA xn xc)
 go_enter Tryz.func182,Tryz.ntmps182
 go_upto_region 1 with (fail)
 generalize hW:(w.alloc (.cells (scells kind s eA en ec low high lA ln lc xA xn xc) 151))=W at hx1 hE1 ⊢
 generalize w.heap.size=eb at hE1 ⊢
 clear hW
 have hE0:=J hE1
 have HX0:=J hx1
 have HCW:=J (hC.ext hx1)
 have HLW:=J (hL.ext hx1)
 clear hE1 hx1 hC hL
 refine qr3 (fun w1=>Ext W w1) [(0,2),(1,1),(3,2),(4,1),(2,0),(5,0)] ?_;refine qrl ?_
 refine zy72 ?_;intro HY0
 refine zy17 ?_
 (refine w3_act (fun K hK=>?_);go_simp)
 refine (sisname_any s HSZ.out _ (HLW.out.ext HY0.out)).mono ?_
 refine zy59 ?_;intro w1 HY1
 clear hK K
 (repeat first|refine qs3 ?_|refine qt3 HY1.out zb31 ?_|refine qp3 HY1.out ?_)
 (refine w3_last zb83 zb83 (fun K hK=>?_);go_simp)
 have HX:=J (HX0.out.trans HY1.out)
 cases hn:isName s
 ·have HR:=J (show X=some ⟨6,s⟩ by rw [HX2.out,hn];rfl)
  exact zz87
 ·have HX3:=J (show X=ored (must (v == 0) 7 s) (ored (must (word low && word high && decide (high - low≤63)) 2 s) (must (decide (fors < 8)) 25 s)) by rw [HX2.out,hn];rfl)
  refine (must_any true _ _ _).mono ?_
  rintro e w1 ⟨he,rfl⟩
  have he:=MustR.none he
  subst he
  refine hK.out _ _ ?_
  clear hK K
  refine qf3 ?_
  go_upto_region 2 with (fail)
  refine qr3 (fun w2=>Ext w1 w2) [(0,2),(1,2),(2,1),(5,2),(6,1),(3,0),(4,2),(7,0)] ?_;refine qrl ?_
  have HZ0:=J (show Ext w1 w1.drew from (kR _ w1).drew)
  (repeat first|refine qs3 ?_|refine qt3 HZ0.out zb22 ?_|refine qp3 HZ0.out ?_)
  (refine w3_act (fun K hK=>?_);go_simp)
  refine (knows_any cb g κ part fors s _ (HCW.out.ext (HY1.out.trans HZ0.out))).mono ?_
  rintro e w2 ⟨rfl,rfl⟩
  rw [← HV.out]
  refine hK.out _ _ (fun _=>HZ0.out) ?_
  clear hK K
  (repeat first|refine qs3 ?_|refine qt3 HZ0.out zb22 ?_|refine qp3 HZ0.out ?_)
  (refine w3_last zb83 zb83 (fun K hK=>?_);go_simp)
  have HX:=J (HX0.out.trans (HY1.out.trans HZ0.out))
  by_cases hv0:v=0
  ·have qv:(v != 0)=false:=by simp [hv0]
   have HX4:=J (show X=ored (must (word low && word high && decide (high - low≤63)) 2 s) (must (decide (fors < 8)) 25 s) by rw [HX3.out,hv0];rfl)
   try rw [qv]
   try simp only [Bool.not_false]
   refine (must_any true _ _ _).mono ?_
   rintro e w1 ⟨he,rfl⟩
   have he:=MustR.none he
   subst he
   refine hK.out _ _ ?_
   clear hK K
   refine qf3 ?_
   have HY2:=J (HY1.out.trans HZ0.out)
   go_upto_region 3 with (fail)
   generalize hW2:w1.drew=W2 at HY2 ⊢
   clear hW2
   cases hw1:word low
   ·have HR:=J (show X=some ⟨2,s⟩ by rw [HX4.out,hw1];rfl)
    refine zy22 ?_;intro HV0 K hK
    rintro e w2 ⟨rfl,rfl⟩
    rw [hw1]
    refine hK.out _ _ (fun _=>HV0.out) ?_
    clear hK K
    refine zy90 ?_
    (refine w3_act (fun K hK=>?_);go_simp)
    refine hK.out _ _ (fun h=>h) ?_
    exact zz31
   ·cases hw2:word high
    ·have HR:=J (show X=some ⟨2,s⟩ by rw [HX4.out,hw1,hw2];rfl)
     refine zy22 ?_;intro HV0 K hK
     rintro e w2 ⟨rfl,rfl⟩
     rw [hw1]
     refine hK.out _ _ (fun _=>HV0.out) ?_
     clear hK K
     refine zy90 ?_
     (refine w3_act (fun K hK=>?_);go_simp)
     refine (right_any _ _).mono ?_
     rintro e w2 ⟨rfl,rfl⟩
     rw [hw2]
     refine hK.out _ _ (fun _=>HV0.out) ?_
     exact zz31
    ·have hb1:-2147483648≤low∧low≤2147483647:=by simpa [word] using hw1
     have hb2:-2147483648≤high∧high≤2147483647:=by simpa [word] using hw2
     obtain ⟨a1,a2⟩:=hb1
     obtain ⟨a3,a4⟩:=hb2
     have HW1:=J hw1
     have HW2:=J hw2
     have HX5:=J (show X=ored (must (decide (high - low≤63)) 2 s) (must (decide (fors < 8)) 25 s) by rw [HX4.out,hw1,hw2];rfl)
     refine zy22 ?_;intro HV0 K hK
     rintro e w2 ⟨rfl,rfl⟩
     rw [HW1.out]
     refine hK.out _ _ (fun _=>HV0.out) ?_
     clear hK K
     refine zy90 ?_
     (refine w3_act (fun K hK=>?_);go_simp)
     refine (right_any _ _).mono ?_
     rintro e w2 ⟨rfl,rfl⟩
     rw [HW2.out]
     refine hK.out _ _ (fun _=>HV0.out) ?_
     clear hK K
     have hwr:IntKind.i64.wrap (high - low)=high - low:=by rw [IntKind.wrap_i64];omega
     by_cases hd:high - low≤63
     ·have HX6:=J (show X=must (decide (fors < 8)) 25 s by rw [HX5.out,decide_eq_true hd];rfl)
      refine zy90 ?_
      (refine w3_last zb83 zb83 (fun K hK=>?_);go_simp)
      refine (must_any true _ _ _).mono ?_
      rintro e w1 ⟨he,rfl⟩
      have he:=MustR.none he
      subst he
      refine hK.out _ _ ?_
      clear hK K
      refine qf3 ?_
      go_upto_region 4 with (fail)
      have HY3:=J (HY2.out.trans HV0.out)
      generalize hW3:W2.drew=W3 at HY3 ⊢
      clear hW3
      refine qr3 (fun w2=>Ext W3 w2) [(0,2),(1,2),(2,2),(3,1),(4,2),(5,2),(6,1),(7,0)] ?_;refine qrl ?_
      have HU0:=J (show Ext W3 W3.drew from (kR _ W3).drew)
      (repeat first|refine qs3 ?_|refine qt3 HU0.out (by intro w1 hS;have d1:=(HCW.out.ext (HY3.out.trans hS));have d2:=bC d1.blk;have d3:=d1.blk.lt;clear d1;have d4:=bX hE0.out (HY3.out.trans hS);have d5:=bC d4;have d6:=d4.lt;exact zgo) ?_|refine qp3 HU0.out ?_)
      have HX:=J (HX0.out.trans (HY3.out.trans HU0.out))
      by_cases h8:fors < 8
      ·have h8I:(fors:Int) < 8:=by omega
       have HR:=J (show X=none by rw [HX6.out,decide_eq_true h8];rfl)
       refine zy76 ?_;intro K hK
       exact zz79
      ·have h8I:¬ (fors:Int) < 8:=by omega
       have HR:=J (show X=some ⟨25,s⟩ by rw [HX6.out,decide_eq_false h8];rfl)
       refine zy76 ?_;intro K hK
       exact zz87
     ·have HR:=J (show X=some ⟨2,s⟩ by rw [HX5.out,decide_eq_false hd];rfl)
      exact zz120
  ·have qv:(v != 0)=true:=by simp [hv0]
   have qn:(v == 0)=false:=by simp [hv0]
   have HR:=J (show X=some ⟨7,s⟩ by rw [HX3.out,qn];rfl)
   try rw [qv]
   try simp only [Bool.not_true]
   exact zz87
open Go.RowKit So
theorem wpList_del {P:Program} {w:World} {ops:Array Oper} {rest:List Oper} {o:Oper} {a:Act} {Q:Exit→Act→World→Prop} (hgd:o.guard=none) (x y:Operand) (T1 T2:TypeId)
 (ho:o.op=.call { callee:=.builtin .delete,args:=#[x,y],argTypes:=#[T1,T2] }) {ty:TypeId} (hty:o.type=ty) {v s v':Value} {w':World} (hx:a.eval x=v) (hy:a.eval y=s)
 (hrun:(Builtin.delete_ #[T1,T2] ty #[v,s]).run P w=.ok v' w') (h:wpList P ops Q rest (a.put o.dst v') w'):wpList P ops Q (o :: rest) a w :=
 wpList_plain hgd fun _ hK=>by
  subst hty
  unfold Oper.wp execOp
  simp only [ho,resolve,invoke,builtin,Sem.run_bind,Sem.run_pure,Result.andThen_ok,List.map_toArray,List.map_cons,List.map_nil,hx,hy,hrun]
  exact hK _ _ h
theorem SMap.ne_cell {w:World} {g:Nat} {f:ByteArray→Option Value} (h:SMap w g f) {p:Addr} {v:Value} (hc:w.cell? p=some v):¬ p.block=g:=fun e=>by
 obtain ⟨es,clock,hb,_⟩:=h
 unfold World.cell? at hc
 rw [e,hb] at hc
 cases hc
theorem SMap.ne_row {w:World} {g b off:Nat} {f:ByteArray→Option Value} {vs:List Value} (h:SMap w g f) (hr:Row w b off vs):¬ b=g:=fun e=>by
 obtain ⟨es,clock,hb,_⟩:=h
 obtain ⟨c,t,fr,hq,_⟩:=hr.inv
 rw [e,hb] at hq
 cases hq
def delF (f:ByteArray→Option Value) (l:List Str):ByteArray→Option Value:=fun t=>if l.any (fun u=>decide (u=t))=true then none else f t
theorem delF_snoc (f:ByteArray→Option Value) (l:List Str) (x:Str):∀ t,(fun t=>if t=x then none else delF f l t) t=delF f (l ++ [x]) t:=by
 intro t
 unfold delF
 exact zz78
set_option maxRecDepth 100000 in
theorem forget_any (nb pb cb g:Nat) (A:Option Addr) (n c:Nat) (l:List Str) (f:ByteArray→Option Value) (part:Str) (fors:Int) (u:FrameMode) (N:Nat) (w:World)
 (h1:w.cell? ⟨nb,0,none⟩=some (.slice A n c)) (h2:w.cell? ⟨pb,0,none⟩=some (.pointer (some ⟨cb,0,none⟩))) (hb:Blk w cb 145 #[.map (some g),.string part,.int .i64 fors]) (hM:SMap w g f) (hS:StrSl w N A n l) :
 CallsD Tryz.prog 175 #[.pointer (some ⟨nb,0,none⟩),.pointer (some ⟨pb,0,none⟩)] u w fun e u' w'=>u'=u∧(e=.returned (.tuple #[])∧SMap w' g (delF f l)∧Kept (·=g) w w'):=by
 obtain ⟨hn,hm,b,off,hA,hE⟩:=hS
 have HN:=J hn
 have HA:=J hA
 have HE:=J hE
 have HM:=J hM
 have n1:=J (hM.ne_cell h1)
 have n2:=J (hM.ne_cell h2)
 have hcb:=bC hb
 have n3:=J (hM.ne_cell (p:=⟨cb,0,none⟩) (hcb 0))
 have l1:=J (Nat.lt_of_not_le (fun h=>by unfold World.cell? at h1;rw [Array.getElem?_eq_none h] at h1;cases h1):nb < w.heap.size)
 have l2:=J (Nat.lt_of_not_le (fun h=>by unfold World.cell? at h2;rw [Array.getElem?_eq_none h] at h2;cases h2):pb < w.heap.size)
 have HB:=J hb
 have H2:=J h2
 clear hn hA hE hM hcb hb
 go_enter_d Tryz.func175,Tryz.ntmps175
 go_wp2_with fail
 go_loopw [6] (fun t6 wr=>∃ (j:Nat),j≤n∧t6=.int .i64 j∧SMap wr g (delF f (l.take j))∧Kept (·=g) w wr) (fun t6 _=>n - (intOf t6).toNat)
 case atStart=>exact ⟨0,Nat.zero_le _,rfl,HM.out.cong (fun t=>by simp [delF]),kR _ _⟩
 case round =>
  obtain ⟨j,hj,rfl,hS,hx⟩:=hrel
  have HS:=J hS
  have HX:=J hx
  clear hS hx h2
  by_cases hlt:j < n
  ·have hjl:j < l.length:=by have:=HN.out;omega
   have hltI:(j:Int) < n:=by omega
   obtain rfl:=HA.out zb85
   have hrow0:=(HE.out zb85).2
   have hrow:=hrow0.kept HX.out (HM.out.ne_row hrow0)
   have hc:=str_at hrow j hjl
   have hbw:=hrow.lt
   have c2:=(Kept.cell HX.out (p:=⟨pb,0,none⟩) l2.out n2.out).trans H2.out
   have bk:=bK HB.out HX.out n3.out
   have cb0:=bC bk
   have lcb:=bk.lt
   obtain ⟨x,hxe⟩:∃ x,x=l[j]:=⟨_,rfl⟩
   rw [← hxe] at hc
   have HXE:=J hxe
   clear hrow hrow0 hxe bk
   obtain ⟨w',hrun,hS',hk'⟩:=SMap.del (P:=Tryz.prog) HS.out Tryz.underlying143 Tryz.underlying9 0 x
   have HS':=J hS'
   have HK':=J hk'
   clear hS' hk'
   go_upto_region 3 with (fail)
   go_step
   iterate 5 refine qls ?_
   refine wpList_del rfl (.tmp 13) (.tmp 14) _ _ rfl rfl rfl rfl hrun ?_
   clear hrun
   go_wp2_with fail
   go_roundw
   case rel=>exact ⟨j+1,hlt,by go_num,HS'.out.cong (fun t=>by rw [List.take_add_one,List.getElem?_eq_getElem hjl,← HXE.out];exact delF_snoc f (l.take j) x t),HX.out.trans HK'.out⟩
   case measure=>simp only [intOf];omega
  ·obtain rfl:j=n:=by omega
   go_wp2_with fail
   go_end0
   have hS:=HS.out
   rw [HN.out,List.take_length] at hS
   exact ⟨rfl,hS,HX.out⟩
end Go.Proofs.YtbfbabbcdochjaaGreatDoor
