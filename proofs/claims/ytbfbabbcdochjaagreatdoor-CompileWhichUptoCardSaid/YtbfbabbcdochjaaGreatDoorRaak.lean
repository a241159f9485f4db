/- Several texts joined: Qu, Qv, Qw, Qx. -/
import Derived.Test.YtbfbabbcdochjaaGreatDoorRapk
import Derived.Test.YtbfbabbcdochjaaGreatDoorRaaj
set_option maxHeartbeats 4000000
namespace Go.Proofs.YtbfbabbcdochjaaGreatDoor
open Go.RowKit So
set_option maxRecDepth 100000 in
theorem srun_any (s:Str) (hs:s.size≤maxLen) (w:World):Calls Tryz.prog 160 #[.string s,.func (.func 161) #[] #[]] w fun e w'=>(∃ t:Str,e=.returned (.string t)∧(t=s ↔ s.data.toList.all inner=true))∧w=w':=by
 have hmx:s.size≤9223372036854775807:=by unfold maxLen at hs;omega
 go_enter Tryz.func160,Tryz.ntmps160
 go_wp2_with fail
 go_loopw [5] (fun t5 wr=>∃ (j:Nat),j≤s.size∧t5=.int .i64 j∧(∀ i (h:i < s.size),i < j→inner s[i]=true)∧w=wr) (fun t5 _=>s.size - (intOf t5).toNat)
 case atStart=>exact ⟨0,Nat.zero_le _,rfl,fun i _ h=>by omega,rfl⟩
 case round =>
  obtain ⟨j,hj,rfl,h1,hw⟩:=hrel
  subst hw
  have H1:=zhd h1
  clear h1
  by_cases hlt:j < s.size
  ·have hltI:(j:Int) < s.size:=by omega
   go_wp2_with fail
   refine (inner_any _ _).mono ?_
   rintro e w1 ⟨rfl,rfl⟩
   cases hl:innerI (s[j].toNat:Int)
   ·have HL:=zhd (show inner s[j]=false by rw [← innerI_of];exact hl)
    go_wp2_with fail
    go_ret
    refine ⟨⟨_,rfl,fun e=>?_,fun e=>?_⟩,rfl⟩
    ·have:=congrArg ByteArray.size e
     rw [ByteArray.size_extract] at this
     omega
    ·have:=List.all_eq_true.1 e s[j] (Array.mem_toList_iff.2 (Array.getElem_mem (xs:=s.data) hlt))
     rw [HL.out] at this
     cases this
   ·have HL:=zhd (show inner s[j]=true by rw [← innerI_of];exact hl)
    go_wp2_with fail
    go_roundw
    case rel=>exact ⟨j+1,hlt,by go_num,fun i hi h=>by
     by_cases e:i=j
     ·subst e;exact HL.out
     ·exact H1.out i hi (by omega),by trivial⟩
    case measure=>simp only [intOf];omega
  ·obtain rfl:j=s.size:=by omega
   go_wp2_with fail
   go_ret
   refine ⟨⟨_,rfl,fun _=>?_,fun _=>rfl⟩,rfl⟩
   rw [List.all_eq_true]
   intro x hx
   obtain ⟨i,hi,rfl⟩:=List.getElem_of_mem hx
   exact H1.out i (by simpa using hi) (by simpa using hi)
theorem zero_bool (w:World):(zeroValue 4).run Tryz.prog w=.ok (.bool false) w:=by
 first | kernel_rfl | rfl
set_option maxRecDepth 100000 in
theorem sname_any (s:Str) (hs:s.size≤maxLen) (g:Nat) (m:Value) (w:World) (hM:SMap w g (setF words)):Calls Tryz.prog 125 #[.agg #[.map (some g),m],.string s] w fun e w'=>e=.returned (.bool (isName s))∧Ext w w':=by
 have hmx:s.size≤9223372036854775807:=by unfold maxLen at hs;omega
 obtain ⟨r,hr⟩:∃ r,r=isName s:=⟨_,rfl⟩
 rw [← hr]
 have hr2:r=(decide (0 < s.size) && letter (s.data.getD 0 0) && s.data.toList.all inner && decide (s.size≤30) && !(words.any (fun t=>decide (t=s)))):=hr
 have HR:=zhd hr2
 clear hr hr2
 have hx0:=(Kept.refl (fun _=>False) w).alloc (.cells #[.map (some g),m] 190)
 have hMx:=hM.ext hx0
 have hlk:=SMap.look (P:=Tryz.prog) hMx Tryz.underlying188 Tryz.underlying9 (z:=.bool false) zero_bool s
 clear hM hMx
 by_cases h0:0 < s.size
 ·have hE:(ByteArray.toList s).isEmpty=false:=by have:=ne_empty s;rw [decide_eq_true h0] at this;simpa using this
  have h0I:(0:Int) < s.size:=by omega
  have HG0:=zhd (show s.data.getD 0 0=s[0] from str_get0 h0)
  go_enter Tryz.func125,Tryz.ntmps125
  go_wp2_with fail
  refine (sletter_any _ _).mono ?_
  rintro e w1 ⟨rfl,rfl⟩
  cases hl:letterI (s[0].toNat:Int)
  ·have HF:=zhd (show r=false by rw [HR.out,HG0.out,← letterI_of,hl];simp)
   go_wp2_with fail
   go_ret
   exact ⟨ret_bool HF.out.symm,hx0⟩
  ·have HL:=zhd (show letter (s.data.getD 0 0)=true by rw [HG0.out,← letterI_of,hl])
   go_wp2_with fail
   refine (srun_any s hs _).mono ?_
   rintro e w1 ⟨⟨t,rfl,ht⟩,rfl⟩
   have HT:=zhd ht
   clear ht
   by_cases hts:t=s
   ·have hb:=str_same hts
    have HA:=zhd (HT.out.1 hts)
    clear hts
    by_cases hz:s.size≤30
    ·have hzI:(s.size:Int)≤30:=by omega
     have HF:=zhd (show r=!(words.any (fun t=>decide (t=s))) by rw [HR.out,decide_eq_true h0,HL.out,HA.out,decide_eq_true hz];rfl)
     cases hw:words.any (fun t=>decide (t=s))
     ·have hq:setF words s=none:=by unfold setF;rw [hw];rfl
      rw [hq] at hlk
      go_wp2_with fail
      go_ret
      exact ⟨ret_bool (by rw [HF.out,hw];rfl),hx0⟩
     ·have hq:setF words s=some (.bool true):=by unfold setF;rw [hw];rfl
      rw [hq] at hlk
      go_wp2_with fail
      go_ret
      exact ⟨ret_bool (by rw [HF.out,hw];rfl),hx0⟩
    ·have hzI:¬ (s.size:Int)≤30:=by omega
     have HF:=zhd (show r=false by rw [HR.out,decide_eq_false hz];simp)
     go_wp2_with fail
     go_ret
     exact ⟨ret_bool HF.out.symm,hx0⟩
   ·have hb:=str_other hts
    have HA:=zhd (show s.data.toList.all inner=false by
     cases h:s.data.toList.all inner
     ·rfl
     ·exact absurd (HT.out.2 h) hts)
    clear hts
    have HF:=zhd (show r=false by rw [HR.out,HA.out];simp)
    go_wp2_with fail
    go_ret
    exact ⟨ret_bool HF.out.symm,hx0⟩
 ·have hE:(ByteArray.toList s).isEmpty=true:=by have:=ne_empty s;rw [decide_eq_false h0] at this;simpa using this
  have HF:=zhd (show r=false by rw [HR.out,decide_eq_false h0];rfl)
  go_enter Tryz.func125,Tryz.ntmps125
  go_wp2_with fail
  go_ret
  exact ⟨ret_bool HF.out.symm,hx0⟩
theorem sisname_any (s:Str) (hs:s.size≤maxLen) (w:World) (hL:LaidAt w):Calls Tryz.prog 76 #[.string s] w fun e w'=>e=.returned (.bool (isName s))∧Ext w w':=by
 go_enter Tryz.func76,Tryz.ntmps76
 go_wp2_with fail
 refine (start_any _ hL).mono ?_
 rintro e w1 ⟨hx1,g,m,rfl,hM⟩
 have HM:=zhd hM
 clear hM
 go_wp2_with fail
 refine (sname_any s hs g m _ HM.out).mono ?_
 rintro e w2 ⟨rfl,hx2⟩
 go_wp2_with fail
 go_ret
 exact ⟨rfl,hx1.trans hx2⟩
open Go.RowKit So
def thr (f:Flt):List PanicEntry:=[{ v:=.iface 104 (.agg #[.int .i64 f.e,.string f.name]),recovered:=false }]
def MustR:Option Flt→Ending→Prop
 | none,e=>e=.returned (.tuple #[])
 | some f,e=>e=.panicked (thr f)
theorem must_any (ok:Bool) (er:Int) (s:Str) (w:World):Calls Tryz.prog 75 #[.bool ok,.int .i64 er,.string s] w fun e w'=>MustR (must ok er s) e∧w=w':=by
 cases ok
 ·go_enter Tryz.func75,Tryz.ntmps75
  go_wp2_with fail
  exact ⟨rfl,rfl,rfl⟩
 ·go_enter Tryz.func75,Tryz.ntmps75
  go_wp2_with fail
  go_end0
  exact ⟨rfl,rfl⟩
def knF (κ:Kn):ByteArray→Option Value:=fun s=>if κ s=0 then none else some (.int .i64 ((κ s:Int) - 1))
structure Ck (w:World) (cb g:Nat) (κ:Kn) (part:Str) (fors:Nat):Prop where
 blk:Blk w cb 145 #[.map (some g),.string part,.int .i64 fors]
 map:SMap w g (knF κ)
theorem Ck.ext {w w':World} {cb g:Nat} {κ:Kn} {part:Str} {fors:Nat} (h:Ck w cb g κ part fors) (hk:Ext w w'):Ck w' cb g κ part fors:=⟨Blk.ext h.blk hk,h.map.ext hk⟩
theorem zero_sort (w:World):(zeroValue 187).run Tryz.prog w=.ok (.int .i64 0) w:=by
 first | kernel_rfl | rfl
theorem knows_any (cb g:Nat) (κ:Kn) (part:Str) (fors:Nat) (s:Str) (w:World) (h:Ck w cb g κ part fors):Calls Tryz.prog 77 #[.pointer (some ⟨cb,0,none⟩),.string s] w fun e w'=>e=.returned (.bool (κ s != 0))∧w=w':=by
 have hlk:=SMap.look_ok (P:=Tryz.prog) h.map Tryz.underlying143 Tryz.underlying9 (z:=.int .i64 0) zero_sort s
 have hc:=Blk.cell h.blk
 have hl:=h.blk.lt
 obtain ⟨r,hr⟩:∃ r,r=(κ s != 0):=⟨_,rfl⟩
 rw [← hr]
 have HR:=zhd hr
 clear hr
 by_cases hz:κ s=0
 ·have hq:knF κ s=none:=by unfold knF;rw [if_pos hz]
  have HF:=zhd (show r=false by rw [HR.out,hz];rfl)
  rw [hq] at hlk
  clear hz hq
  go_enter Tryz.func77,Tryz.ntmps77
  go_wp2_with fail
  go_ret
  exact ⟨ret_bool HF.out.symm,rfl⟩
 ·have hq:knF κ s=some (.int .i64 ((κ s:Int) - 1)):=by unfold knF;rw [if_neg hz]
  have HF:=zhd (show r=true by rw [HR.out];simpa using hz)
  rw [hq] at hlk
  generalize (κ s:Int) - 1=x at hlk
  clear hz hq
  go_enter Tryz.func77,Tryz.ntmps77
  go_wp2_with fail
  go_ret
  exact ⟨ret_bool HF.out.symm,rfl⟩
open Go.RowKit So
theorem MustR.none {e:Ending} (h:MustR none e):e=.returned (.tuple #[]):=h
theorem MustR.some {f:Flt} {e:Ending} (h:MustR (some f) e):e=.panicked (thr f):=h
abbrev ExSC (cb:Nat) (κ:Kn) (w:World) (F:EF):Prop:=∀ (op m:Int) (s:Str) (B:Option Addr) (kn kc N:Nat) (w':World),Ext w w'→N≤w.heap.size→ESl w N B kn F →
 Calls Tryz.prog 184 #[.pointer (some ⟨cb,0,none⟩),.agg (ecells op m s B kn kc)] w' fun e w2=>MustR (chk1 κ op m s F) e∧Ext w' w2
theorem elook {w:World} {cb g:Nat} {κ:Kn} {part:Str} {fors:Nat} (h:Ck w cb g κ part fors) (s:Str):(Instr.lookup 143 (.map (some g)) (.string s) false).run Tryz.prog w=.ok (.int .i64 ((κ s:Int) - 1+(if κ s=0 then 1 else 0))) w:=by
 have hlk:=SMap.look (P:=Tryz.prog) h.map Tryz.underlying143 Tryz.underlying9 (z:=.int .i64 0) zero_sort s
 rw [hlk]
 unfold knF
 split <;> simp [*]
set_option maxRecDepth 100000 in
theorem sexpr_any (cb g:Nat) (κ:Kn) (part:Str) (fors:Nat) (w0:World) (hC:Ck w0 cb g κ part fors) (hL:LaidAt w0) (F:EF):ExSC cb κ w0 F:=by
 refine ef_ind (C:=ExSC cb κ w0) ?_ F
 intro F IH op m s B kn kc N0 w hx0 hN0 hes
 obtain ⟨X,hX⟩:∃ X,X=chk1 κ op m s F:=⟨_,rfl⟩
 rw [← hX]
 obtain ⟨r,hr⟩:∃ r,r=chkE κ F:=⟨_,rfl⟩
 have hX2:X=ored (head1 κ op m s kn) r:=by rw [hX,hr,hes.1];rfl
 have HX2:=zhd hX2
 have HEQ:=zhd hr.symm
 clear hX hX2 hr
 obtain ⟨hn,hf,b,off,hA,hE⟩:=hes
 have hm:=hf.max (by omega)
 have HN:=zhd hn
 have HA:=zhd hA
 have HE:=zhd hE
 have HI:=zhd IH
 clear hn hA hE IH hf
 have hx1:=(Kept.refl (fun _=>False) w).alloc (.cells (ecells op m s B kn kc) 200)
 have hE1:=Blk.new w 200 (ecells op m s B kn kc)
 go_enter Tryz.func184,Tryz.ntmps184
 go_upto_region 1 with (fail)
 generalize hW:(w.alloc (.cells (ecells op m s B kn kc) 200))=W at hx1 hE1 ⊢
 generalize w.heap.size=eb at hE1 ⊢
 clear hW
 have hE0:=zhd hE1
 have HX0:=zhd hx1
 have HCW:=zhd (hC.ext (hx0.trans hx1))
 have HLW:=zhd (hL.ext (hx0.trans hx1))
 have HY0:=zhd (show Ext W W.drew from (Kept.refl _ W).drew)
 clear hE1 hx1
 cases hb1:btw op 0 17
 ·have HR:=zhd (show X=some ⟨3,E0⟩ by rw [HX2.out];unfold head1;rw [hb1];rfl)
  refine qr3 (fun w1=>Ext W w1) [(0,2),(1,1),(2,0),(3,2),(4,2),(5,1),(6,2),(7,2),(8,1),(9,2),(10,1),(11,2),(12,2),(13,0)] ?_;refine qrl ?_
  (repeat (first | refine qs3 ?_ | ((apply w3_take);(· exact HY0.out);(· go_simp);(· (intro w1 hS;have d4:=Blk.ext hE0.out hS;have d5:=Blk.cell d4;have d6:=d4.lt; go_simp;try with_reducible rfl));refine qnx ?_) | ((apply w3_pass);(· exact HY0.out);(· go_simp);refine qnx ?_)))
  (refine w3_act (fun K hK=>?_);go_simp)
  refine (between_any _ _ _ _).mono ?_
  rintro e w1 ⟨rfl,rfl⟩
  rw [hb1]
  refine hK.out _ _ (fun _=>HY0.out) ?_
  clear hK K
  (repeat (first | refine qs3 ?_ | ((apply w3_take);(· exact HY0.out);(· go_simp);(· (intro w1 hS;have d4:=Blk.ext hE0.out hS;have d5:=Blk.cell d4;have d6:=d4.lt; go_simp;try with_reducible rfl));refine qnx ?_) | ((apply w3_pass);(· exact HY0.out);(· go_simp);refine qnx ?_)))
  exact zz60
 ·obtain ⟨k,rfl⟩:∃ k:Nat,op=k:=⟨op.toNat,by simp [btw] at hb1;omega⟩
  have hk18:k < 18:=by simp [btw] at hb1;omega
  have hkI:(k:Int) < 18:=by omega
  have HT:=zhd (HLW.out.ex k hk18)
  have HBN:=zhd hb1
  refine qr3 (fun w1=>Ext W w1) [(0,2),(1,1),(2,0),(3,2),(4,2),(5,1),(6,2),(7,2),(8,1),(9,2),(10,1),(11,2),(12,2),(13,0)] ?_;refine qrl ?_
  (repeat (first | refine qs3 ?_ | ((apply w3_take);(· exact HY0.out);(· go_simp);(· (intro w1 hS;have d4:=Blk.ext hE0.out hS;have d5:=Blk.cell d4;have d6:=d4.lt;have d7:=cell_ext (p:=⟨4,k,none⟩) hS (by have:=HLW.out.lt;show 4 < _;omega) HT.out; go_simp;try with_reducible rfl));refine qnx ?_) | ((apply w3_pass);(· exact HY0.out);(· go_simp);refine qnx ?_)))
  (refine w3_act (fun K hK=>?_);go_simp)
  refine (between_any _ _ _ _).mono ?_
  rintro e w1 ⟨rfl,rfl⟩
  rw [hb1]
  refine hK.out _ _ (fun _=>HY0.out) ?_
  clear hK K
  cases hb2:((kn:Int) == (exprParts k:Int))
  ·have HR:=zhd (show X=some ⟨3,E0⟩ by rw [HX2.out];unfold head1;rw [HBN.out,← nat_beq,hb2];rfl)
   (repeat (first | refine qs3 ?_ | ((apply w3_take);(· exact HY0.out);(· go_simp);(· (intro w1 hS;have d4:=Blk.ext hE0.out hS;have d5:=Blk.cell d4;have d6:=d4.lt;have d7:=cell_ext (p:=⟨4,k,none⟩) hS (by have:=HLW.out.lt;show 4 < _;omega) HT.out; go_simp;try with_reducible rfl));refine qnx ?_) | ((apply w3_pass);(· exact HY0.out);(· go_simp);refine qnx ?_)))
   exact zz60
  ·have HX3:Hid (X=ored (if (k:Int)=0 then must (word m) 2 E0 else if (k:Int)=1 ∨ (k:Int)=2 then ored (must (κ s != 0) 6 s) (must ((κ s == 2) == ((k:Int) == 2)) 11 s) else none) r):=zhd (by rw [HX2.out];unfold head1;rw [HBN.out,← nat_beq,hb2];rfl)
   (repeat (first | refine qs3 ?_ | ((apply w3_take);(· exact HY0.out);(· go_simp);(· (intro w1 hS;have d4:=Blk.ext hE0.out hS;have d5:=Blk.cell d4;have d6:=d4.lt;have d7:=cell_ext (p:=⟨4,k,none⟩) hS (by have:=HLW.out.lt;show 4 < _;omega) HT.out; go_simp;try with_reducible rfl));refine qnx ?_) | ((apply w3_pass);(· exact HY0.out);(· go_simp);refine qnx ?_)))
   (refine w3_last (by kernel_rfl) (by kernel_rfl) (fun K hK=>?_);go_simp)
   refine (must_any true _ _ _).mono ?_
   rintro e w1 ⟨he,rfl⟩
   have he:=MustR.none he
   subst he
   refine hK.out _ _ ?_
   clear hK K
   refine qf3 ?_
   have ys:=HY0.out
   have hcE:=Blk.cell (Blk.ext hE0.out ys)
   have hlE:=(Blk.ext hE0.out ys).lt
   clear hb1 hb2 hk18 hkI
   by_cases ho0:k=0
   ·subst ho0
    have HX4:Hid (X=ored (must (word m) 2 E0) r):=zhd (by rw [HX3.out];rfl)
    clear HX3
    go_wp2_with fail
    refine (right_any _ _).mono ?_
    rintro e w1 ⟨rfl,rfl⟩
    cases hw:word m
    ·have HR:=zhd (show X=some ⟨2,E0⟩ by rw [HX4.out,hw];rfl)
     go_wp2_with fail
     refine (must_any false _ _ _).mono ?_
     rintro e w1 ⟨he,rfl⟩
     have he:e=.panicked (thr ⟨2,E0⟩):=he
     subst he
     show _∧_
     exact ⟨rfl,by rw [HR.out];exact ⟨rfl,HX0.out.trans ys⟩⟩
    ·have HXR:=zhd (show X=r by rw [HX4.out,hw];rfl)
     go_wp2_with fail
     refine (must_any true _ _ _).mono ?_
     rintro e w1 ⟨he,rfl⟩
     have he:=MustR.none he
     subst he
     exact zz10
   ·have q0:((k:Int) == 0)=false:=by simp;omega
    by_cases ho1:k=1
    ·subst ho1
     have HX4:Hid (X=ored (ored (must (κ s != 0) 6 s) (must ((κ s == 2) == false) 11 s)) r):=zhd (by rw [HX3.out];rfl)
     clear HX3
     go_upto_region 7 with (fail)
     obtain ⟨v,hv⟩:∃ v,v=κ s:=⟨_,rfl⟩
     have HV:=zhd hv
     rw [← hv] at HX4
     clear hv
     generalize hW2:W.drew=W2 at ys hcE hlE ⊢
     clear hW2
     have HY2:=zhd ys
     refine qr3 (fun w1=>Ext W2 w1) [(0,2),(1,2),(2,1),(4,2),(5,1),(3,0),(6,0)] ?_;refine qrl ?_
     have HZ0:=zhd (show Ext W2 W2.drew from (Kept.refl _ W2).drew)
     (repeat (first | refine qs3 ?_ | ((apply w3_take);(· exact HZ0.out);(· go_simp);(· (intro w1 hS;have d4:=Blk.ext hE0.out (HY2.out.trans hS);have d5:=Blk.cell d4;have d6:=d4.lt; go_simp;try with_reducible rfl));refine qnx ?_) | ((apply w3_pass);(· exact HZ0.out);(· go_simp);refine qnx ?_)))
     (refine w3_act (fun K hK=>?_);go_simp)
     refine (knows_any cb g κ part fors s _ (HCW.out.ext (HY2.out.trans HZ0.out))).mono ?_
     rintro e w1 ⟨rfl,rfl⟩
     rw [← HV.out]
     refine hK.out _ _ (fun _=>HZ0.out) ?_
     clear hK K
     (repeat (first | refine qs3 ?_ | ((apply w3_take);(· exact HZ0.out);(· go_simp);(· (intro w1 hS;have d4:=Blk.ext hE0.out (HY2.out.trans hS);have d5:=Blk.cell d4;have d6:=d4.lt; go_simp;try with_reducible rfl));refine qnx ?_) | ((apply w3_pass);(· exact HZ0.out);(· go_simp);refine qnx ?_)))
     (refine w3_last (by kernel_rfl) (by kernel_rfl) (fun K hK=>?_);go_simp)
     by_cases hv0:v=0
     ·have qv:(v != 0)=false:=by simp [hv0]
      exact zz54
     ·have qv:(v != 0)=true:=by simp [hv0]
      rw [qv] at HX4 ⊢
      refine (must_any true _ _ _).mono ?_
      rintro e w1 ⟨he,rfl⟩
      have he:=MustR.none he
      subst he
      refine hK.out _ _ ?_
      clear hK K
      refine qf3 ?_
      have HY3:=zhd (HY2.out.trans HZ0.out)
      clear ys hcE hlE
      go_upto_region 8 with (fail)
      generalize hW3:W2.drew=W3 at HY3 ⊢
      clear hW3
      refine qr3 (fun w1=>Ext W3 w1) [(0,2),(1,2),(2,2),(3,1),(4,2),(5,1),(6,1),(7,2),(8,2),(9,1),(10,2),(11,2),(12,2),(13,1),(14,0)] ?_;refine qrl ?_
      have HU0:=zhd (show Ext W3 W3.drew from (Kept.refl _ W3).drew)
      have hvI:((v:Int) - 1+(if v=0 then 1 else 0))=(v:Int) - 1:=by rw [if_neg hv0];omega
      (repeat (first | refine qs3 ?_ | ((apply w3_take);(· exact HU0.out);(· go_simp);(· (intro w1 hS;have d1:=(HCW.out.ext (HY3.out.trans hS));have d2:=Blk.cell d1.blk;have d3:=d1.blk.lt;have d7:=elook d1 s;rw [← HV.out,hvI] at d7;clear d1;have d4:=Blk.ext hE0.out (HY3.out.trans hS);have d5:=Blk.cell d4;have d6:=d4.lt; go_simp;try with_reducible rfl));refine qnx ?_) | ((apply w3_pass);(· exact HU0.out);(· go_simp);refine qnx ?_)))
      by_cases hv2:v=2
      ·have qv2:((v:Int) - 1 == 1)=true:=by simp [hv2]
       have qn:(v == 2)=true:=by simp [hv2]
       exact zz40
      ·have qv2:((v:Int) - 1 == 1)=false:=by simp;omega
       have qn:(v == 2)=false:=by simp [hv2]
       exact zz8
    ·have q1:((k:Int) == 1)=false:=by simp;omega
     by_cases ho2:k=2
     ·subst ho2
      have HX4:Hid (X=ored (ored (must (κ s != 0) 6 s) (must ((κ s == 2) == true) 11 s)) r):=zhd (by rw [HX3.out];rfl)
      clear HX3
      go_upto_region 7 with (fail)
      obtain ⟨v,hv⟩:∃ v,v=κ s:=⟨_,rfl⟩
      have HV:=zhd hv
      rw [← hv] at HX4
      clear hv
      generalize hW2:W.drew=W2 at ys hcE hlE ⊢
      clear hW2
      have HY2:=zhd ys
      refine qr3 (fun w1=>Ext W2 w1) [(0,2),(1,2),(2,1),(4,2),(5,1),(3,0),(6,0)] ?_;refine qrl ?_
      have HZ0:=zhd (show Ext W2 W2.drew from (Kept.refl _ W2).drew)
      (repeat (first | refine qs3 ?_ | ((apply w3_take);(· exact HZ0.out);(· go_simp);(· (intro w1 hS;have d4:=Blk.ext hE0.out (HY2.out.trans hS);have d5:=Blk.cell d4;have d6:=d4.lt; go_simp;try with_reducible rfl));refine qnx ?_) | ((apply w3_pass);(· exact HZ0.out);(· go_simp);refine qnx ?_)))
      (refine w3_act (fun K hK=>?_);go_simp)
      refine (knows_any cb g κ part fors s _ (HCW.out.ext (HY2.out.trans HZ0.out))).mono ?_
      rintro e w1 ⟨rfl,rfl⟩
      rw [← HV.out]
      refine hK.out _ _ (fun _=>HZ0.out) ?_
      clear hK K
      (repeat (first | refine qs3 ?_ | ((apply w3_take);(· exact HZ0.out);(· go_simp);(· (intro w1 hS;have d4:=Blk.ext hE0.out (HY2.out.trans hS);have d5:=Blk.cell d4;have d6:=d4.lt; go_simp;try with_reducible rfl));refine qnx ?_) | ((apply w3_pass);(· exact HZ0.out);(· go_simp);refine qnx ?_)))
      (refine w3_last (by kernel_rfl) (by kernel_rfl) (fun K hK=>?_);go_simp)
      by_cases hv0:v=0
      ·have qv:(v != 0)=false:=by simp [hv0]
       exact zz54
      ·have qv:(v != 0)=true:=by simp [hv0]
       rw [qv] at HX4 ⊢
       refine (must_any true _ _ _).mono ?_
       rintro e w1 ⟨he,rfl⟩
       have he:=MustR.none he
       subst he
       refine hK.out _ _ ?_
       clear hK K
       refine qf3 ?_
       have HY3:=zhd (HY2.out.trans HZ0.out)
       clear ys hcE hlE
       go_upto_region 8 with (fail)
       generalize hW3:W2.drew=W3 at HY3 ⊢
       clear hW3
       refine qr3 (fun w1=>Ext W3 w1) [(0,2),(1,2),(2,2),(3,1),(4,2),(5,1),(6,1),(7,2),(8,2),(9,1),(10,2),(11,2),(12,2),(13,1),(14,0)] ?_;refine qrl ?_
       have HU0:=zhd (show Ext W3 W3.drew from (Kept.refl _ W3).drew)
       have hvI:((v:Int) - 1+(if v=0 then 1 else 0))=(v:Int) - 1:=by rw [if_neg hv0];omega
       (repeat (first | refine qs3 ?_ | ((apply w3_take);(· exact HU0.out);(· go_simp);(· (intro w1 hS;have d1:=(HCW.out.ext (HY3.out.trans hS));have d2:=Blk.cell d1.blk;have d3:=d1.blk.lt;have d7:=elook d1 s;rw [← HV.out,hvI] at d7;clear d1;have d4:=Blk.ext hE0.out (HY3.out.trans hS);have d5:=Blk.cell d4;have d6:=d4.lt; go_simp;try with_reducible rfl));refine qnx ?_) | ((apply w3_pass);(· exact HU0.out);(· go_simp);refine qnx ?_)))
       by_cases hv2:v=2
       ·have qv2:((v:Int) - 1 == 1)=true:=by simp [hv2]
        have qn:(v == 2)=true:=by simp [hv2]
        exact zz8
       ·have qv2:((v:Int) - 1 == 1)=false:=by simp;omega
        have qn:(v == 2)=false:=by simp [hv2]
        exact zz40
     ·have q2:((k:Int) == 2)=false:=by simp;omega
      have HXR:=zhd (show X=r by rw [HX3.out,if_neg (by omega),if_neg (by omega)];rfl)
      exact zz10
open Go.RowKit So
set_option maxRecDepth 100000 in
theorem stands_any (cb g:Nat) (κ:Kn) (i fors:Nat) (hi:i < 5) (k:Int) (l:Bool) (w:World) (hC:Ck w cb g κ (partName i) fors):Calls Tryz.prog 180 #[.pointer (some ⟨cb,0,none⟩),.int .i64 k,.bool l] w fun e w'=>e=.returned (.bool (stands k i l))∧w=w':=by
 have hc:=Blk.cell hC.blk
 have hl:=hC.blk.lt
 clear hC
 rcases (by omega:i=0 ∨ i=1 ∨ i=2 ∨ i=3 ∨ i=4) with rfl | rfl | rfl | rfl | rfl
 all_goals
  simp only [partName,sStart,sTurn,sPlay,sSilent,sPay] at hc
  go_enter Tryz.func180,Tryz.ntmps180
  go_wp2_with fail
  all_goals go_ret
  all_goals refine ⟨ret_bool ?_,rfl⟩
  all_goals first | (simp_all [stands];done) | (simp_all [stands,str_eq];done) | (simp_all [stands,str_eq];decide) | (simp_all [stands,ByteArray.toList_eq])
set_option maxRecDepth 100000 in
theorem target_any (cb g:Nat) (κ:Kn) (part:Str) (fors:Nat) (kind:Int) (s:Str) (eA:Option Addr) (en ec:Nat) (low high:Int) (lA:Option Addr) (ln lc:Nat) (xA:Option Addr) (xn xc:Nat) (hk:kind=0 ∨ kind=1 ∨ kind=5) (w:World) (hC:Ck w cb g κ part fors) :
 Calls Tryz.prog 181 #[.pointer (some ⟨cb,0,none⟩),.agg (scells kind s eA en ec low high lA ln lc xA xn xc)] w fun e w'=>MustR (target κ kind s low) e∧Ext w w':=by
 obtain ⟨X,hX⟩:∃ X,X=target κ kind s low:=⟨_,rfl⟩
 rw [← hX]
 obtain ⟨v,hv⟩:∃ v,v=κ s:=⟨_,rfl⟩
 have HV:=zhd hv
 have HX2:Hid (X=ored (must (v != 0) 6 s) (ored (must (v == (if kind=1 then 2 else 1)) 11 s) (if kind=5 then must (btw low 2 1000) 2 s else none))):=zhd (by rw [hX,hv];rfl)
 clear hX hv
 have hx1:=(Kept.refl (fun _=>False) w).alloc (.cells (scells kind s eA en ec low high lA ln lc xA xn xc) 151)
 have hE1:=Blk.new w 151 (scells kind s eA en ec low high lA ln lc xA xn xc)
 go_enter Tryz.func181,Tryz.ntmps181
 go_upto_region 1 with (fail)
 generalize hW:(w.alloc (.cells (scells kind s eA en ec low high lA ln lc xA xn xc) 151))=W at hx1 hE1 ⊢
 generalize w.heap.size=eb at hE1 ⊢
 clear hW
 have hE0:=zhd hE1
 have HX0:=zhd hx1
 have HCW:=zhd (hC.ext hx1)
 clear hE1 hx1 hC
 refine qr3 (fun w1=>Ext W w1) [(0,2),(1,2),(2,1),(4,2),(5,1),(3,0),(6,0)] ?_;refine qrl ?_
 have HY0:=zhd (show Ext W W.drew from (Kept.refl _ W).drew)
 (repeat (first | refine qs3 ?_ | ((apply w3_take);(· exact HY0.out);(· go_simp);(· (intro w1 hS;have d4:=Blk.ext hE0.out hS;have d5:=Blk.cell d4;have d6:=d4.lt; go_simp;try with_reducible rfl));refine qnx ?_) | ((apply w3_pass);(· exact HY0.out);(· go_simp);refine qnx ?_)))
 (refine w3_act (fun K hK=>?_);go_simp)
 refine (knows_any cb g κ part fors s _ (HCW.out.ext HY0.out)).mono ?_
 rintro e w1 ⟨rfl,rfl⟩
 rw [← HV.out]
 refine hK.out _ _ (fun _=>HY0.out) ?_
 clear hK K
 (repeat (first | refine qs3 ?_ | ((apply w3_take);(· exact HY0.out);(· go_simp);(· (intro w1 hS;have d4:=Blk.ext hE0.out hS;have d5:=Blk.cell d4;have d6:=d4.lt; go_simp;try with_reducible rfl));refine qnx ?_) | ((apply w3_pass);(· exact HY0.out);(· go_simp);refine qnx ?_)))
 (refine w3_last (by kernel_rfl) (by kernel_rfl) (fun K hK=>?_);go_simp)
 have HX:=zhd (HX0.out.trans HY0.out)
 by_cases hv0:v=0
 ·have qv:(v != 0)=false:=by simp [hv0]
  have HR:=zhd (show X=some ⟨6,s⟩ by rw [HX2.out,qv];rfl)
  rw [qv]
  exact zz84
 ·have qv:(v != 0)=true:=by simp [hv0]
  have HX3:Hid (X=ored (must (v == (if kind=1 then 2 else 1)) 11 s) (if kind=5 then must (btw low 2 1000) 2 s else none)):=zhd (by rw [HX2.out,qv];rfl)
  rw [qv]
  refine (must_any true _ _ _).mono ?_
  rintro e w1 ⟨he,rfl⟩
  have he:=MustR.none he
  subst he
  refine hK.out _ _ ?_
  clear hK K
  refine qf3 ?_
  have HY1:=HY0
  have hcE:=Blk.cell (Blk.ext hE0.out HY1.out)
  have hlE:=(Blk.ext hE0.out HY1.out).lt
  have hvI:((v:Int) - 1+(if v=0 then 1 else 0))=(v:Int) - 1:=by rw [if_neg hv0];omega
  rcases hk with rfl | rfl | rfl
  ·
   have HX4:Hid (X=must (v == 1) 11 s):=zhd (by rw [HX3.out];simp)
   go_upto_region 5 with (fail)
   clear hcE hlE
   generalize hW3:W.drew=W3 at HY1 ⊢
   have HY3:=zhd HY1.out
   clear hW3
   refine qr3 (fun w1=>Ext W3 w1) [(0,2),(1,2),(2,2),(3,1),(4,2),(5,1),(6,1),(7,2),(8,2),(9,2),(10,1),(11,0)] ?_;refine qrl ?_
   have HU0:=zhd (show Ext W3 W3.drew from (Kept.refl _ W3).drew)
   (repeat (first | refine qs3 ?_ | ((apply w3_take);(· exact HU0.out);(· go_simp);(· (intro w1 hS;have d1:=(HCW.out.ext (HY3.out.trans hS));have d2:=Blk.cell d1.blk;have d3:=d1.blk.lt;have d7:=elook d1 s;rw [← HV.out,hvI] at d7;clear d1;have d4:=Blk.ext hE0.out (HY3.out.trans hS);have d5:=Blk.cell d4;have d6:=d4.lt; go_simp;try with_reducible rfl));refine qnx ?_) | ((apply w3_pass);(· exact HU0.out);(· go_simp);refine qnx ?_)))
   have HX:=zhd (HX0.out.trans (HY3.out.trans HU0.out))
   clear hvI
   by_cases hv1:v=1
   ·have qv2:((v:Int) - 1 == 0)=true:=by simp [hv1]
    exact zz32
   ·have qv2:((v:Int) - 1 == 0)=false:=by simp;omega
    exact zz43
  ·
   have HX4:Hid (X=must (v == 2) 11 s):=zhd (by rw [HX3.out];simp)
   go_upto_region 5 with (fail)
   clear hcE hlE
   generalize hW3:W.drew=W3 at HY1 ⊢
   have HY3:=zhd HY1.out
   clear hW3
   refine qr3 (fun w1=>Ext W3 w1) [(0,2),(1,2),(2,2),(3,1),(4,2),(5,1),(6,1),(7,2),(8,2),(9,2),(10,1),(11,0)] ?_;refine qrl ?_
   have HU0:=zhd (show Ext W3 W3.drew from (Kept.refl _ W3).drew)
   (repeat (first | refine qs3 ?_ | ((apply w3_take);(· exact HU0.out);(· go_simp);(· (intro w1 hS;have d1:=(HCW.out.ext (HY3.out.trans hS));have d2:=Blk.cell d1.blk;have d3:=d1.blk.lt;have d7:=elook d1 s;rw [← HV.out,hvI] at d7;clear d1;have d4:=Blk.ext hE0.out (HY3.out.trans hS);have d5:=Blk.cell d4;have d6:=d4.lt; go_simp;try with_reducible rfl));refine qnx ?_) | ((apply w3_pass);(· exact HU0.out);(· go_simp);refine qnx ?_)))
   have HX:=zhd (HX0.out.trans (HY3.out.trans HU0.out))
   clear hvI
   by_cases hv1:v=2
   ·have qv2:((v:Int) - 1 == 1)=true:=by simp [hv1]
    exact zz32
   ·have qv2:((v:Int) - 1 == 1)=false:=by simp;omega
    have qn:(v == 2)=false:=by simp [hv1]
    have HR:=zhd (show X=some ⟨11,s⟩ by rw [HX4.out,qn];rfl)
    (repeat refine qs3 ?_)
    (refine w3_last (by kernel_rfl) (by kernel_rfl) (fun K hK=>?_);go_simp)
    try rw [qv2]
    exact zz84
  ·
   have HX4:Hid (X=ored (must (v == 1) 11 s) (must (btw low 2 1000) 2 s)):=zhd (by rw [HX3.out];simp)
   go_upto_region 5 with (fail)
   clear hcE hlE
   generalize hW3:W.drew=W3 at HY1 ⊢
   have HY3:=zhd HY1.out
   clear hW3
   refine qr3 (fun w1=>Ext W3 w1) [(0,2),(1,2),(2,2),(3,1),(4,2),(5,1),(6,1),(7,2),(8,2),(9,2),(10,1),(11,0)] ?_;refine qrl ?_
   have HU0:=zhd (show Ext W3 W3.drew from (Kept.refl _ W3).drew)
   (repeat (first | refine qs3 ?_ | ((apply w3_take);(· exact HU0.out);(· go_simp);(· (intro w1 hS;have d1:=(HCW.out.ext (HY3.out.trans hS));have d2:=Blk.cell d1.blk;have d3:=d1.blk.lt;have d7:=elook d1 s;rw [← HV.out,hvI] at d7;clear d1;have d4:=Blk.ext hE0.out (HY3.out.trans hS);have d5:=Blk.cell d4;have d6:=d4.lt; go_simp;try with_reducible rfl));refine qnx ?_) | ((apply w3_pass);(· exact HU0.out);(· go_simp);refine qnx ?_)))
   have HX:=zhd (HX0.out.trans (HY3.out.trans HU0.out))
   clear hvI
   by_cases hv1:v=1
   ·have qv2:((v:Int) - 1 == 0)=true:=by simp [hv1]
    have HX5:=zhd (show X=must (btw low 2 1000) 2 s by rw [HX4.out,hv1];rfl)
    (repeat refine qs3 ?_)
    (refine w3_last (by kernel_rfl) (by kernel_rfl) (fun K hK=>?_);go_simp)
    try rw [qv2]
    refine (must_any true _ _ _).mono ?_
    rintro e w1 ⟨he,rfl⟩
    have he:=MustR.none he
    subst he
    refine hK.out _ _ ?_
    clear hK K
    refine qf3 ?_
    have hcE3:=Blk.cell (Blk.ext hE0.out (HY3.out.trans HU0.out))
    have hlE3:=(Blk.ext hE0.out (HY3.out.trans HU0.out)).lt
    go_upto_region 7 with (fail)
    clear hcE3 hlE3
    generalize hW4:W3.drew=W4 at HU0 HX ⊢
    have HY4:=zhd (HY3.out.trans HU0.out)
    clear hW4
    refine qr3 (fun w1=>Ext W4 w1) [(0,2),(1,1),(3,2),(4,1),(2,0),(5,0)] ?_;refine qrl ?_
    have HV0:=zhd (show Ext W4 W4.drew from (Kept.refl _ W4).drew)
    (repeat (first | refine qs3 ?_ | ((apply w3_take);(· exact HV0.out);(· go_simp);(· (intro w1 hS;have d4:=Blk.ext hE0.out (HY4.out.trans hS);have d5:=Blk.cell d4;have d6:=d4.lt; go_simp;try with_reducible rfl));refine qnx ?_) | ((apply w3_pass);(· exact HV0.out);(· go_simp);refine qnx ?_)))
    (refine w3_act (fun K hK=>?_);go_simp)
    refine (between_any _ _ _ _).mono ?_
    rintro e w1 ⟨rfl,rfl⟩
    refine hK.out _ _ (fun _=>HV0.out) ?_
    clear hK K
    (repeat (first | refine qs3 ?_ | ((apply w3_take);(· exact HV0.out);(· go_simp);(· (intro w1 hS;have d4:=Blk.ext hE0.out (HY4.out.trans hS);have d5:=Blk.cell d4;have d6:=d4.lt; go_simp;try with_reducible rfl));refine qnx ?_) | ((apply w3_pass);(· exact HV0.out);(· go_simp);refine qnx ?_)))
    (refine w3_last (by kernel_rfl) (by kernel_rfl) (fun K hK=>?_);go_simp)
    have HX:=zhd (HX0.out.trans (HY4.out.trans HV0.out))
    cases hb:btw low 2 1000
    ·have HR:=zhd (show X=some ⟨2,s⟩ by rw [HX5.out,hb];rfl)
     exact zz84
    ·have HR:=zhd (show X=none by rw [HX5.out,hb];rfl)
     exact zz74
   ·have qv2:((v:Int) - 1 == 0)=false:=by simp;omega
    exact zz43
end Go.Proofs.YtbfbabbcdochjaaGreatDoor
