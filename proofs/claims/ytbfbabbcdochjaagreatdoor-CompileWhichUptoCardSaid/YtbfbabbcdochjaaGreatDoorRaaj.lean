/- Several texts joined: Qp, Qr, Qs, Qt. -/
import Derived.Lib.LaidTab
import Derived.Test.YtbfbabbcdochjaaGreatDoorShelf
import Derived.Test.YtbfbabbcdochjaaGreatDoorRapk
import Derived.Test.YtbfbabbcdochjaaGreatDoorRaai
set_option maxHeartbeats 4000000
namespace Go.Proofs.YtbfbabbcdochjaaGreatDoor
open Go.RowKit So
theorem guardFaultR:Tryz.prog.eqGuardType Tryz.prog.depth 60=false:=by kernel_rfl
theorem stoodFaultR:Tryz.prog.stoodInHeld 60=false:=by kernel_rfl
theorem guardFaultS:Tryz.prog.eqGuardType Tryz.prog.depth 104=false:=by kernel_rfl
theorem stoodFaultS:Tryz.prog.stoodInHeld 104=false:=by kernel_rfl
theorem toList_iff (s t:ByteArray):s.toList=t.toList ↔ s=t:=by
 rw [ByteArray.toList_eq,ByteArray.toList_eq]
 exact ⟨fun h=>Go.WideShapes.bytes_inj h,fun h=>by rw [h]⟩
theorem eqFaultR (w:World) (a b:Int) (s t:ByteArray):(Op.equalIn 10000 60 (.agg #[.int .i64 a,.string s]) (.agg #[.int .i64 b,.string t])).run Tryz.prog w=.ok (a == b && decide (s=t)) w:=by
 rw [Op.equalIn]
 simp [run_underlying Tryz.underlying60,go_sem]
 by_cases h1:a=b <;> by_cases h2:s=t <;> simp [h1,h2,toList_iff]
theorem eqFaultS (w:World) (a b:Int) (s t:ByteArray):(Op.equalIn 10000 104 (.agg #[.int .i64 a,.string s]) (.agg #[.int .i64 b,.string t])).run Tryz.prog w=.ok (a == b && decide (s=t)) w:=by
 rw [Op.equalIn]
 simp [run_underlying Tryz.underlying104,go_sem]
 by_cases h1:a=b <;> by_cases h2:s=t <;> simp [h1,h2,toList_iff]
attribute [go_sem] guardFaultR guardFaultS eqFaultR eqFaultS
def fltC:Option Flt→Array Value
 | none=>#[.int .i64 0,.string ⟨#[]⟩]
 | some f=>#[.int .i64 f.e,.string f.name]
theorem fltC_none:fltC none=#[.int .i64 0,.string ⟨#[]⟩]:=rfl
theorem fltC_some (e:Int) (s:Str):fltC (some ⟨e,s⟩)=#[.int .i64 e,.string s]:=rfl
attribute [go_sem] fltC_none fltC_some
def NZ (o:Option Flt):Prop:=∀ f,o=some f→¬ f.e=0
theorem nat_beq (a b:Nat):((a:Int) == (b:Int))=(a == b):=by rw [Bool.eq_iff_iff];simp;omega
theorem meet {F M:World→Nat→Prop} {G:Prop} (h:(∀ W g,F W g→M W g)→G) (h2:∀ W g,F W g→M W g):G:=h h2
theorem NZ.none:NZ none:=fun _ h=>by cases h
theorem NZ.some {e:Int} {s:Str} (h:¬ e=0):NZ (some ⟨e,s⟩):=fun f hf=>by cases hf;exact h
theorem NZ.must {ok:Bool} {e:Int} {s:Str} (h:¬ e=0):NZ (must ok e s):=by cases ok <;> simp only [must_true,must_false];exact NZ.some h;exact NZ.none
theorem NZ.ored {a b:Option Flt} (ha:NZ a) (hb:NZ b):NZ (ored a b):=by cases a <;> simp only [ored_none,ored_some];exact hb;exact ha
theorem NZ.ite {c:Prop} [Decidable c] {a b:Option Flt} (ha:NZ a) (hb:NZ b):NZ (if c then a else b):=by split;exact ha;exact hb
theorem nz_head (κ:Kn) (op n:Int) (s:Str) (k:Nat):NZ (head1 κ op n s k):=by
 unfold head1
 exact NZ.ored (NZ.must (by decide)) (NZ.ite (NZ.must (by decide)) (NZ.ite (NZ.ored (NZ.must (by decide)) (NZ.must (by decide))) NZ.none))
theorem nz_chkE (κ:Kn):∀ F:EF,NZ (chkE κ F)
 | .nil=>NZ.none
 | .cons op n s k r=>NZ.ored (NZ.ored (nz_head κ op n s k.len) (nz_chkE κ k)) (nz_chkE κ r)
def chk1 (κ:Kn) (op n:Int) (s:Str) (k:EF):Option Flt:=ored (head1 κ op n s k.len) (chkE κ k)
theorem nz_chk1 (κ:Kn) (op n:Int) (s:Str) (k:EF):NZ (chk1 κ op n s k):=NZ.ored (nz_head κ op n s k.len) (nz_chkE κ k)
theorem chkE_cons (κ:Kn) (op n:Int) (s:Str) (k r:EF):chkE κ (.cons op n s k r)=ored (chk1 κ op n s k) (chkE κ r):=rfl
abbrev ExRC (c:Pc) (κ:Kn) (A:Option Addr) (n k:Nat) (w:World) (F:EF):Prop:=∀ (op m:Int) (s:Str) (B:Option Addr) (kn kc N:Nat) (w':World),Ext w w'→N≤w.heap.size→ESl w N B kn F →
 Calls Tryz.prog 151 #[.agg (knCells c A n k),.agg (ecells op m s B kn kc)] w' fun e w2=>e=.returned (.agg (fltC (chk1 κ op m s F)))∧Ext w' w2
set_option maxRecDepth 100000 in
theorem rexpr_any (c:Pc) (p:Pr) (A:Option Addr) (n k:Nat) (l:List Str) (N:Nat) (w0:World) (hN:N≤w0.heap.size) (h:PAt w0 N c p) (hl:StrSl w0 N A n l) (F:EF):ExRC c (updAll (knV p.vars) l) A n k w0 F:=by
 refine ef_ind (C:=ExRC c (updAll (knV p.vars) l) A n k w0) ?_ F
 intro F IH op m s B kn kc N0 w hx0 hN0 hes
 obtain ⟨X,hX⟩:∃ X,X=chk1 (updAll (knV p.vars) l) op m s F:=⟨_,rfl⟩
 rw [← hX]
 obtain ⟨r,hr⟩:∃ r,r=chkE (updAll (knV p.vars) l) F:=⟨_,rfl⟩
 have hX2:X=ored (head1 (updAll (knV p.vars) l) op m s kn) r:=by rw [hX,hr,hes.1];rfl
 have HX2:=zhd hX2
 have HEQ:=zhd hr.symm
 clear hX hX2 hr
 obtain ⟨hn,hf,b,off,hA,hE⟩:=hes
 have hm:=hf.max (by omega)
 have HN:=zhd hn
 have HA:=zhd hA
 have HE:=zhd hE
 have HI:=zhd IH
 have HP:=zhd h
 have HL:=zhd hl
 clear hn hA hE IH hf h hl
 have hx1:=(((Kept.refl (fun _=>False) w).alloc (.cells (knCells c A n k) 120)).alloc (.cells (ecells op m s B kn kc) 84)).alloc (.cells #[.int .i64 0,.string ⟨#[]⟩] 60)
 have hK1:=((Blk.new w 120 (knCells c A n k)).alloc (.cells (ecells op m s B kn kc) 84)).alloc (.cells #[.int .i64 0,.string ⟨#[]⟩] 60)
 have hE1:=(Blk.new' (w.alloc (.cells (knCells c A n k) 120)) 84 (ecells op m s B kn kc) (w.heap.size+1) (by simp)).alloc (.cells #[.int .i64 0,.string ⟨#[]⟩] 60)
 have hR1:=Blk.new' ((w.alloc (.cells (knCells c A n k) 120)).alloc (.cells (ecells op m s B kn kc) 84)) 60 #[.int .i64 0,.string ⟨#[]⟩] (w.heap.size+1+1) (by simp)
 go_enter Tryz.func151,Tryz.ntmps151
 go_upto_region 1 with (fail)
 obtain ⟨rb,hrb⟩:∃ rb,rb=w.heap.size+1+1:=⟨_,rfl⟩
 obtain ⟨eb,heb⟩:∃ eb,eb=w.heap.size+1:=⟨_,rfl⟩
 obtain ⟨pb,hpb⟩:∃ pb,pb=w.heap.size:=⟨_,rfl⟩
 simp only [← hrb]
 rw [← hrb] at hR1
 simp only [← heb]
 rw [← heb] at hE1
 simp only [← hpb]
 rw [← hpb] at hK1
 have HRW:=zhd (show w.heap.size≤rb by omega)
 generalize hW:(((w.alloc (.cells (knCells c A n k) 120)).alloc (.cells (ecells op m s B kn kc) 84)).alloc (.cells #[.int .i64 0,.string ⟨#[]⟩] 60))=W at hx1 hK1 hE1 hR1 ⊢
 clear hW hrb heb hpb
 have hK0:=zhd hK1
 have hE0:=zhd hE1
 have hR0:=zhd hR1
 have HX0:=zhd hx1
 have hcE:=Blk.cell hE1
 clear hK1 hE1 hR1 hx1
 have HY0:=zhd (show Ext W W.drew from (Kept.refl _ W).drew)
 cases hb1:btw op 0 17
 ·have HR:=zhd (show X=some ⟨3,E0⟩ by rw [HX2.out];unfold head1;rw [hb1];rfl)
  refine qr3 (fun w1=>Ext W w1) [(0,2),(1,1),(2,0),(3,2),(4,2),(5,2),(6,1),(7,2),(8,2),(9,1),(10,0),(11,2),(12,2)] ?_;refine qrl ?_
  (repeat (first | refine qs3 ?_ | ((apply w3_take);(· exact HY0.out);(· go_simp);(· (intro w1 hS;have d4:=Blk.ext hE0.out hS;have d5:=Blk.cell d4;have d6:=d4.lt; go_simp;try with_reducible rfl));refine qnx ?_) | ((apply w3_pass);(· exact HY0.out);(· go_simp);refine qnx ?_)))
  (refine w3_act (fun K hK=>?_);go_simp)
  refine (in_any _ _ _ _).mono ?_
  rintro e w1 ⟨rfl,rfl⟩
  rw [hb1]
  refine hK.out _ _ (fun _=>HY0.out) ?_
  clear hK K
  (repeat (first | refine qs3 ?_ | ((apply w3_take);(· exact HY0.out);(· go_simp);(· (intro w1 hS;have d4:=Blk.ext hE0.out hS;have d5:=Blk.cell d4;have d6:=d4.lt; go_simp;try with_reducible rfl));refine qnx ?_) | ((apply w3_pass);(· exact HY0.out);(· go_simp);refine qnx ?_)))
  (refine w3_act (fun K hK=>?_);go_simp)
  refine hK.out _ _ (fun h=>h) ?_
  clear hK K
  exact zz27
 ·refine qr3 (fun w1=>Ext W w1) [(0,2),(1,1),(2,0),(3,2),(4,2),(5,2),(6,1),(7,2),(8,2),(9,1),(10,0),(11,2),(12,2)] ?_;refine qrl ?_
  (repeat (first | refine qs3 ?_ | ((apply w3_take);(· exact HY0.out);(· go_simp);(· (intro w1 hS;have d4:=Blk.ext hE0.out hS;have d5:=Blk.cell d4;have d6:=d4.lt; go_simp;try with_reducible rfl));refine qnx ?_) | ((apply w3_pass);(· exact HY0.out);(· go_simp);refine qnx ?_)))
  (refine w3_act (fun K hK=>?_);go_simp)
  refine (in_any _ _ _ _).mono ?_
  rintro e w1 ⟨rfl,rfl⟩
  rw [hb1]
  refine hK.out _ _ (fun _=>HY0.out) ?_
  clear hK K
  (repeat (first | refine qs3 ?_ | ((apply w3_take);(· exact HY0.out);(· go_simp);(· (intro w1 hS;have d4:=Blk.ext hE0.out hS;have d5:=Blk.cell d4;have d6:=d4.lt; go_simp;try with_reducible rfl));refine qnx ?_) | ((apply w3_pass);(· exact HY0.out);(· go_simp);refine qnx ?_)))
  (refine w3_act (fun K hK=>?_);go_simp)
  refine (operands_any _ _).mono ?_
  rintro e w1 ⟨rfl,rfl⟩
  refine hK.out _ _ (fun _=>HY0.out) ?_
  clear hK K
  cases hb2:((kn:Int) == (exprParts op:Int))
  ·have hb2n:((kn:Int) != (exprParts op:Int))=true:=by unfold bne;rw [hb2];rfl
   have HR:=zhd (show X=some ⟨3,E0⟩ by rw [HX2.out];unfold head1;rw [hb1,← nat_beq,hb2];rfl)
   exact zz27
  ·have hb2n:((kn:Int) != (exprParts op:Int))=false:=by unfold bne;rw [hb2];rfl
   have HX3:Hid (X=ored (if op=0 then must (word m) 2 E0 else if op=1 ∨ op=2 then ored (must (updAll (knV p.vars) l s != 0) 6 s) (must ((updAll (knV p.vars) l s == 2) == (op == 2)) 11 s) else none) r):=zhd (by rw [HX2.out];unfold head1;rw [hb1,← nat_beq,hb2];rfl)
   (repeat (first | refine qs3 ?_ | ((apply w3_take);(· exact HY0.out);(· go_simp);(· (intro w1 hS;have d4:=Blk.ext hE0.out hS;have d5:=Blk.cell d4;have d6:=d4.lt; go_simp;try with_reducible rfl));refine qnx ?_) | ((apply w3_pass);(· exact HY0.out);(· go_simp);refine qnx ?_)))
   refine qf3 ?_
   have ys:=HY0.out
   clear hb1 hb2 hb2n
   by_cases ho0:op=0
   ·subst ho0
    have HX4:Hid (X=ored (must (word m) 2 E0) r):=zhd (by rw [HX3.out];rfl)
    clear HX3
    go_wp2_with fail
    refine (word_any _ _).mono ?_
    rintro e w1 ⟨rfl,rfl⟩
    cases hw:word m
    ·have HR:=zhd (show X=some ⟨2,E0⟩ by rw [HX4.out,hw];rfl)
     have yr:=ys
     exact zz106
    ·have HXR:=zhd (show X=r by rw [HX4.out,hw];rfl)
     exact zz3
   ·have q0:(op == 0)=false:=by simpa using ho0
    by_cases ho1:op=1
    ·subst ho1
     have HX4:Hid (X=ored (ored (must (updAll (knV p.vars) l s != 0) 6 s) (must ((updAll (knV p.vars) l s == 2) == false) 11 s)) r):=zhd (by rw [HX3.out];rfl)
     clear HX3
     have yK:=Blk.ext hK0.out ys
     have hgK:=Blk.gets yK
     have hhK:=Blk.has yK
     have hlK:=yK.lt
     go_wp2_with fail
     refine (sort_any c p A n k l s N _ (Nat.le_trans hN (hx0.trans (HX0.out.trans ys)).size) (HP.out.ext (hx0.trans (HX0.out.trans ys)) hN) (HL.out.ext (hx0.trans (HX0.out.trans ys)))).mono ?_
     rintro e w1 ⟨rfl,hxs⟩
     obtain ⟨v,hv⟩:∃ v,v=updAll (knV p.vars) l s:=⟨_,rfl⟩
     rw [← hv]
     have HV:=zhd hv
     have yt:=ys.trans hxs
     have hcE2:=Blk.cell (Blk.ext hE0.out yt)
     clear hv hcE hgK hhK hlK yK
     by_cases hv0:v=0
     ·subst hv0
      exact zz37
     ·have qv0:((v:Int) == 0)=false:=by simp;omega
      by_cases hv2:v=2
      ·subst hv2
       have HR:=zhd (show X=some ⟨11,s⟩ by rw [HX4.out,← HV.out];rfl)
       exact zz49
      ·have qv2:((v:Int) == 2)=false:=by simp;omega
       have HXR:=zhd (show X=r by rw [HX4.out,← HV.out];have h1:(v == 0)=false:=(by simpa using hv0);have h2:(v == 2)=false:=(by simpa using hv2);simp [h1,h2,bne])
       exact zz2
    ·have q1:(op == 1)=false:=by simpa using ho1
     by_cases ho2:op=2
     ·subst ho2
      have HX4:Hid (X=ored (ored (must (updAll (knV p.vars) l s != 0) 6 s) (must ((updAll (knV p.vars) l s == 2) == true) 11 s)) r):=zhd (by rw [HX3.out];rfl)
      clear HX3
      have yK:=Blk.ext hK0.out ys
      have hgK:=Blk.gets yK
      have hhK:=Blk.has yK
      have hlK:=yK.lt
      go_wp2_with fail
      refine (sort_any c p A n k l s N _ (Nat.le_trans hN (hx0.trans (HX0.out.trans ys)).size) (HP.out.ext (hx0.trans (HX0.out.trans ys)) hN) (HL.out.ext (hx0.trans (HX0.out.trans ys)))).mono ?_
      rintro e w1 ⟨rfl,hxs⟩
      obtain ⟨v,hv⟩:∃ v,v=updAll (knV p.vars) l s:=⟨_,rfl⟩
      rw [← hv]
      have HV:=zhd hv
      have yt:=ys.trans hxs
      have hcE2:=Blk.cell (Blk.ext hE0.out yt)
      clear hv hcE hgK hhK hlK yK
      by_cases hv0:v=0
      ·subst hv0
       exact zz37
      ·have qv0:((v:Int) == 0)=false:=by simp;omega
       by_cases hv2:v=2
       ·subst hv2
        have HXR:=zhd (show X=r by rw [HX4.out,← HV.out];rfl)
        exact zz2
       ·have qv2:((v:Int) == 2)=false:=by simp;omega
        have HR:=zhd (show X=some ⟨11,s⟩ by rw [HX4.out,← HV.out];have h1:(v == 0)=false:=(by simpa using hv0);have h2:(v == 2)=false:=(by simpa using hv2);simp [h1,h2,bne])
        exact zz49
     ·have q2:(op == 2)=false:=by simpa using ho2
      have HXR:=zhd (show X=r by rw [HX3.out,if_neg ho0,if_neg (by omega)];rfl)
      exact zz3
open Go.RowKit So
def letterI (c:Int):Bool:=(decide (97≤c) && decide (c≤122)) || (decide (65≤c) && decide (c≤90))
def digitI (c:Int):Bool:=decide (48≤c) && decide (c≤57)
theorem letterI_of (c:UInt8):letterI (c.toNat:Int)=letter c:=by
 unfold letterI letter
 simp only [UInt8.le_iff_toNat_le]
 rw [Bool.eq_iff_iff]
 simp
 omega
theorem digitI_of (c:UInt8):digitI (c.toNat:Int)=digit c:=by
 unfold digitI digit
 simp only [UInt8.le_iff_toNat_le]
 rw [Bool.eq_iff_iff]
 simp
 omega
theorem rletter_any (c:Int) (w:World):Calls Tryz.prog 144 #[.int .u8 c] w fun e w'=>e=.returned (.bool (letterI c))∧w=w':=by
 go_enter Tryz.func144,Tryz.ntmps144
 go_wp2_with fail
 all_goals go_ret
 all_goals refine ⟨ret_bool ?_,rfl⟩
 all_goals (rw [Bool.eq_iff_iff];simp [letterI];omega)
theorem rdigit_any (c:Int) (w:World):Calls Tryz.prog 145 #[.int .u8 c] w fun e w'=>e=.returned (.bool (digitI c))∧w=w':=by
 go_enter Tryz.func145,Tryz.ntmps145
 go_wp2_with fail
 all_goals go_ret
 all_goals refine ⟨ret_bool ?_,rfl⟩
 all_goals (rw [Bool.eq_iff_iff];simp [digitI];omega)
theorem sletter_any (c:Int) (w:World):Calls Tryz.prog 159 #[.int .u8 c] w fun e w'=>e=.returned (.bool (letterI c))∧w=w':=by
 go_enter Tryz.func159,Tryz.ntmps159
 go_wp2_with fail
 all_goals go_ret
 all_goals refine ⟨ret_bool ?_,rfl⟩
 all_goals (rw [Bool.eq_iff_iff];simp [letterI];omega)
theorem sdigit_any (c:Int) (w:World):Calls Tryz.prog 174 #[.int .u8 c] w fun e w'=>e=.returned (.bool (digitI c))∧w=w':=by
 go_enter Tryz.func174,Tryz.ntmps174
 go_wp2_with fail
 all_goals go_ret
 all_goals refine ⟨ret_bool ?_,rfl⟩
 all_goals (rw [Bool.eq_iff_iff];simp [digitI];omega)
def innerI (c:Int):Bool:=letterI c || digitI c || c == 95
theorem inner_any (c:Int) (w:World):Calls Tryz.prog 161 #[.int .u8 c] w fun e w'=>e=.returned (.bool (innerI c))∧w=w':=by
 go_enter Tryz.func161,Tryz.ntmps161
 go_wp2_with fail
 refine (sletter_any _ _).mono ?_
 rintro e w1 ⟨rfl,rfl⟩
 cases hl:letterI c
 ·go_wp2_with fail
  refine (sdigit_any _ _).mono ?_
  rintro e w1 ⟨rfl,rfl⟩
  cases hd:digitI c
  ·go_wp2_with fail
   all_goals go_ret
   all_goals exact ⟨ret_bool (by unfold innerI;simp [hl,hd]),rfl⟩
  ·go_wp2_with fail
   all_goals go_ret
   all_goals exact ⟨ret_bool (by unfold innerI;simp [hl,hd]),rfl⟩
 ·go_wp2_with fail
  all_goals go_ret
  all_goals exact ⟨ret_bool (by unfold innerI;simp [hl]),rfl⟩
def nameRun (s:Str):Bool:=decide (0 < s.size) && letter (s.data.getD 0 0) && s.data.toList.all inner
theorem isName_run (s:Str):isName s=(nameRun s && decide (s.size≤30) && !(words.any (fun t=>decide (t=s)))):=rfl
theorem innerI_of (c:UInt8):innerI (c.toNat:Int)=inner c:=by
 unfold innerI inner
 rw [letterI_of,digitI_of]
 congr 1
 rw [Bool.eq_iff_iff]
 simp only [beq_iff_eq]
 exact ⟨fun h=>UInt8.toNat_inj.1 (by simpa using (by omega:c.toNat=95)),fun h=>by rw [h];rfl⟩
theorem ne_empty (s:Str):(!(ByteArray.toList s).isEmpty)=decide (0 < s.size):=by
 rw [ByteArray.toList_eq,Bool.eq_iff_iff]
 have:s.data.toList.length=s.size:=Array.length_toList
 cases h:s.data.toList with
 | nil=>rw [h] at this;rw [← this];simp
 | cons a b=>rw [h] at this;rw [← this];simp
theorem str_get0 {s:Str} (h:0 < s.size):s.data.getD 0 0=s[0]:=by
 have h':0 < s.data.size:=h
 unfold Array.getD
 rw [dif_pos h']
 rfl
theorem nr_letter {s:Str} (h0:0 < s.size) (h:letter s[0]=false):nameRun s=false:=by
 unfold nameRun
 rw [str_get0 h0,h]
 simp
theorem nr_inner {s:Str} {i:Nat} (hi:i < s.size) (h:inner s[i]=false):nameRun s=false:=by
 unfold nameRun
 have:s.data.toList.all inner=false:=by
  rw [List.all_eq_false]
  exact ⟨s[i],Array.mem_toList_iff.2 (Array.getElem_mem (xs:=s.data) hi),by rw [h];exact Bool.false_ne_true⟩
 rw [this,Bool.and_false]
theorem nr_ok {s:Str} (h0:0 < s.size) (h1:letter s[0]=true) (h2:∀ i (h:i < s.size),inner s[i]=true):nameRun s=true:=by
 unfold nameRun
 rw [str_get0 h0,h1,decide_eq_true h0]
 simp only [Bool.true_and,List.all_eq_true]
 intro x hx
 obtain ⟨i,hi,rfl⟩:=List.getElem_of_mem hx
 exact h2 i (by simpa using hi)
set_option maxRecDepth 100000 in
theorem rrun_any (s:Str) (hs:s.size≤maxLen) (w:World):Calls Tryz.prog 88 #[.string s] w fun e w'=>e=.returned (.bool (nameRun s))∧w=w':=by
 have hmx:s.size≤9223372036854775807:=by unfold maxLen at hs;omega
 go_enter Tryz.func88,Tryz.ntmps88
 go_wp2_with fail
 go_loopw [3] (fun t3 wr=>∃ (j:Nat),j≤s.size∧t3=.int .i64 j∧(∀ i (h:i < s.size),i < j→inner s[i]=true)∧(∀ h:0 < s.size,0 < j→letter s[0]=true)∧w=wr) (fun t3 _=>s.size - (intOf t3).toNat)
 case atStart=>exact ⟨0,Nat.zero_le _,rfl,fun i _ h=>by omega,fun _ h=>by omega,rfl⟩
 case round =>
  obtain ⟨j,hj,rfl,h1,h2,hw⟩:=hrel
  subst hw
  have H1:=zhd h1
  have H2:=zhd h2
  clear h1 h2
  by_cases hlt:j < s.size
  ·have hltI:(j:Int) < s.size:=by omega
   have hb:inner s[j]=(letterI (s[j].toNat:Int) || digitI (s[j].toNat:Int) || (s[j].toNat:Int) == 95):=(innerI_of s[j]).symm
   have hlet:=letterI_of s[j]
   by_cases hj0:j=0
   ·subst hj0
    have HB:=zhd hb
    have HLT:=zhd hlet
    clear hb hlet
    go_wp2_with fail
    refine (rletter_any _ _).mono ?_
    rintro e w1 ⟨rfl,rfl⟩
    cases hl:letterI (s[0].toNat:Int)
    ·have HNR:=zhd (nr_letter hlt (by rw [← HLT.out];exact hl))
     clear hl
     go_wp2_with fail
     go_ret
     exact ⟨ret_bool HNR.out.symm,rfl⟩
    ·have HL:=zhd hl
     go_wp2_with fail
     go_roundw
     case rel=>exact ⟨1,hlt,rfl,fun i hi h=>by
      obtain rfl:i=0:=by omega
      rw [HB.out,HL.out];rfl,fun _ _=>by rw [← HLT.out];exact HL.out,by trivial⟩
     case measure=>simp only [intOf];omega
   ·have q0:((j:Int) == 0)=false:=by simp;omega
    have HB:=zhd hb
    clear hb hlet
    go_wp2_with fail
    refine (rletter_any _ _).mono ?_
    rintro e w1 ⟨rfl,rfl⟩
    cases hl:letterI (s[j].toNat:Int)
    ·have HL:=zhd hl
     go_wp2_with fail
     refine (rdigit_any _ _).mono ?_
     rintro e w1 ⟨rfl,rfl⟩
     cases hd:digitI (s[j].toNat:Int)
     ·have HD:=zhd hd
      cases hu:((s[j].toNat:Int) == 95)
      ·have hun:((s[j].toNat:Int) != 95)=true:=by unfold bne;rw [hu];rfl
       have HNR:=zhd (nr_inner hlt (by rw [HB.out,HL.out,HD.out,hu];rfl))
       go_wp2_with fail
       go_ret
       exact ⟨ret_bool HNR.out.symm,rfl⟩
      ·have hun:((s[j].toNat:Int) != 95)=false:=by unfold bne;rw [hu];rfl
       have HOK:=zhd (show inner s[j]=true by rw [HB.out,HL.out,HD.out,hu];rfl)
       exact zz65
     ·have HOK:=zhd (show inner s[j]=true by rw [HB.out,HL.out,hd];rfl)
      exact zz65
    ·have HOK:=zhd (show inner s[j]=true by rw [HB.out,hl];rfl)
     exact zz65
  ·obtain rfl:j=s.size:=by omega
   have HNR:=zhd (show nameRun s=decide (0 < s.size) by
    by_cases h0:0 < s.size
    ·rw [nr_ok h0 (H2.out h0 h0) (fun i hi=>H1.out i hi hi),decide_eq_true h0]
    ·unfold nameRun;simp [h0])
   go_wp2_with fail
   go_ret
   exact ⟨ret_bool (by rw [HNR.out];exact ne_empty s),rfl⟩
open Go.RowKit So
set_option maxRecDepth 100000 in
theorem has_any (l:List Str) (s:Str) (A:Option Addr) (n c N:Nat) (w:World) (h:StrSl w N A n l):Calls Tryz.prog 89 #[.slice A n c,.string s] w fun e w'=>e=.returned (.bool (l.any (fun t=>decide (t=s))))∧w=w':=by
 obtain ⟨hn,hm,b,off,hA,hE⟩:=h
 have HN:=zhd hn
 have HA:=zhd hA
 have HE:=zhd hE
 clear hn hA hE
 go_enter Tryz.func89,Tryz.ntmps89
 go_wp2_with fail
 go_loopw [5] (fun t5 wr=>∃ (j:Nat),j≤n∧t5=.int .i64 j∧(∀ v ∈ l.take j,¬ v=s)∧w=wr) (fun t5 _=>n - (intOf t5).toNat)
 case atStart=>exact ⟨0,Nat.zero_le _,rfl,by simp,rfl⟩
 case round =>
  obtain ⟨j,hj,rfl,hno,hw⟩:=hrel
  subst hw
  have HNO:=zhd hno
  clear hno
  by_cases hlt:j < n
  ·have hjl:j < l.length:=by have:=HN.out;omega
   have hltI:(j:Int) < n:=by omega
   obtain rfl:=HA.out (by omega)
   have hrow:=(HE.out (by omega)).2
   have hc:=str_at hrow j hjl
   have hbw:=hrow.lt
   obtain ⟨x,hxe⟩:∃ x,x=l[j]:=⟨_,rfl⟩
   rw [← hxe] at hc
   have HX:=zhd hxe
   clear hrow hxe
   by_cases hq:x=s
   ·have hb:=str_same hq
    have HQ:=zhd hq
    clear hq
    go_wp2_with fail
    go_ret
    refine ⟨ret_bool ?_,rfl⟩
    rw [eq_comm,List.any_eq_true]
    exact ⟨x,by rw [HX.out];exact List.getElem_mem hjl,decide_eq_true HQ.out⟩
   ·have hb:=str_other hq
    exact zz46
  ·obtain rfl:j=n:=by omega
   go_wp2_with fail
   go_ret
   refine ⟨ret_bool ?_,rfl⟩
   rw [eq_comm,List.any_eq_false]
   intro v hv
   have:=HNO.out v (by rw [HN.out,List.take_length];exact hv)
   simpa using this
set_option maxRecDepth 100000 in
theorem rwords_any (w:World):Calls Tryz.prog 90 #[] w fun e w'=>Ext w w'∧∃ A c,e=.returned (.slice A 23 c)∧StrSl w' w'.heap.size A 23 words:=by
 go_enter Tryz.func90,Tryz.ntmps90
 go_wp2_with fail
 go_ret
 refine ⟨(Kept.refl _ w).alloc _,_,_,rfl,rfl,by omega,w.heap.size,0,fun _=>rfl,fun _=>⟨by simp,?_⟩⟩
 exact Row.of_blk (Blk.new w _ _)
set_option maxRecDepth 100000 in
theorem risname_any (s:Str) (hs:s.size≤maxLen) (w:World):Calls Tryz.prog 49 #[.string s] w fun e w'=>e=.returned (.bool (isName s))∧Ext w w':=by
 have hmx:s.size≤9223372036854775807:=by unfold maxLen at hs;omega
 rw [isName_run]
 obtain ⟨r,hr⟩:∃ r,r=(nameRun s && decide (s.size≤30) && !(words.any (fun t=>decide (t=s)))):=⟨_,rfl⟩
 rw [← hr]
 have HR:=zhd hr
 clear hr
 go_enter Tryz.func49,Tryz.ntmps49
 go_wp2_with fail
 refine (rrun_any s hs _).mono ?_
 rintro e w1 ⟨rfl,rfl⟩
 cases hn:nameRun s
 ·have HF:=zhd (show r=false by rw [HR.out,hn];rfl)
  go_wp2_with fail
  go_ret
  exact ⟨ret_bool HF.out.symm,Kept.refl _ _⟩
 ·by_cases hz:s.size≤30
  ·have hzI:(s.size:Int)≤30:=by omega
   have HF:=zhd (show r=!(words.any (fun t=>decide (t=s))) by rw [HR.out,hn,decide_eq_true hz];rfl)
   go_wp2_with fail
   refine (rwords_any _).mono ?_
   rintro e w1 ⟨hx1,A,c,rfl,hS⟩
   have HS:=zhd hS
   clear hS
   go_wp2_with fail
   refine (has_any words s _ _ _ _ _ HS.out).mono ?_
   rintro e w2 ⟨rfl,rfl⟩
   go_wp2_with fail
   go_ret
   exact ⟨ret_bool (by rw [HF.out]),hx1⟩
  ·have hzI:¬ (s.size:Int)≤30:=by omega
   have HF:=zhd (show r=false by rw [HR.out,decide_eq_false hz];simp)
   go_wp2_with fail
   go_ret
   exact ⟨ret_bool HF.out.symm,Kept.refl _ _⟩
open Go.RowKit So
structure LaidAt (w:World):Prop where
 sp : Lib.TabIs Tryz.prog w "strings.asciiSpace" .u8 Lib.asciiSpaceTab
 sm:∀ k,k < 10→w.cell? ⟨2,k,none⟩=some (.int .i64 (stmtParts (k:Nat)))
 ex:∀ k,k < 18→w.cell? ⟨4,k,none⟩=some (.int .i64 (exprParts (k:Nat)))
 lt:4 < w.heap.size
theorem LaidAt.kept {S:Nat→Prop} {w w':World} (h:LaidAt w) (hk:Kept S w w') (hs:∀ i,i≤4→¬ S i):LaidAt w':=by
 have h4:=h.lt
 refine ⟨?_,fun k hk'=>(Kept.cell hk (p:=⟨2,k,none⟩) (by show 2 < _;omega) (hs 2 (by omega))).trans (h.sm k hk'),fun k hk'=>(Kept.cell hk (p:=⟨4,k,none⟩) (by show 4 < _;omega) (hs 4 (by omega))).trans (h.ex k hk'),Nat.lt_of_lt_of_le h.lt hk.size⟩
 have hsp:=h.sp
 unfold Lib.TabIs World.var? at hsp ⊢
 rw [show Tryz.prog.globalNamed "strings.asciiSpace" = some 1 by kernel_rfl] at hsp ⊢
 rw [← hsp]
 simp [hk.block 1 (by omega) (hs 1 (by omega))]
theorem LaidAt.ext {w w':World} (h:LaidAt w) (hk:Ext w w'):LaidAt w':=h.kept hk (fun _ _ f=>f)
def setF (l:List Str):ByteArray→Option Value:=fun t=>if l.any (fun u=>decide (u=t))=true then some (.bool true) else none
theorem setF_snoc (l:List Str) (x:Str):∀ t,(fun t=>if t=x then some (Value.bool true) else setF l t) t=setF (l ++ [x]) t:=by
 intro t
 unfold setF
 exact zz73
theorem run_mkmap (n:Int) (w:World):(Instr.makeMap 188 (some (.int .i64 n))).run Tryz.prog w=.ok (.map (some w.heap.size)) (w.alloc (.map #[] 0)):=by
 simp [Instr.makeMap,run_underlying Tryz.underlying188,go_sem]
 try rfl
attribute [go_sem] run_mkmap
set_option maxRecDepth 100000 in
theorem set_any (l:List Str) (A:Option Addr) (n c N:Nat) (w:World) (hN:N≤w.heap.size) (h:StrSl w N A n l):Calls Tryz.prog 156 #[.slice A n c] w fun e w'=>Ext w w'∧∃ g,e=.returned (.map (some g))∧w.heap.size≤g∧SMap w' g (setF l):=by
 obtain ⟨hn,hm,b,off,hA,hE⟩:=h
 have HN:=zhd hn
 have HA:=zhd hA
 have HE:=zhd hE
 have hM:=SMap.made w
 have hx0:=(Kept.refl (fun _=>False) w).alloc (.map #[] 0)
 clear hn hA hE
 go_enter Tryz.func156,Tryz.ntmps156
 go_upto_region 3 with (fail)
 generalize hW:w.alloc (.map #[] 0)=W at hM hx0 ⊢
 clear hW
 have HX0:=zhd hx0
 have HG:=zhd (show w.heap.size≤w.heap.size from Nat.le_refl _)
 have HM:=zhd hM
 generalize hge:(w.heap.size:Nat)=g at hM HM HG ⊢
 have HGE:=zhd hge
 clear hM hx0 hge
 go_loopw [11] (fun t11 wr=>∃ (j:Nat),j≤n∧t11=.int .i64 j∧SMap wr g (setF (l.take j))∧Kept (·=g) W wr) (fun t11 _=>n - (intOf t11).toNat)
 case atStart=>exact ⟨0,Nat.zero_le _,rfl,HM.out.cong (fun t=>by simp [setF]),Kept.refl _ _⟩
 case round =>
  obtain ⟨j,hj,rfl,hS,hx⟩:=hrel
  have HS:=zhd hS
  have HX:=zhd hx
  clear hS hx
  by_cases hlt:j < n
  ·have hjl:j < l.length:=by have:=HN.out;omega
   have hltI:(j:Int) < n:=by omega
   obtain rfl:=HA.out (by omega)
   have hbg:b < w.heap.size:=by have:=(HE.out (by omega)).1;omega
   have hrow:=((HE.out (by omega)).2.ext HX0.out).kept HX.out (by have:=HGE.out;omega)
   have hc:=str_at hrow j hjl
   have hbw:=hrow.lt
   obtain ⟨x,hxe⟩:∃ x,x=l[j]:=⟨_,rfl⟩
   rw [← hxe] at hc
   have HXE:=zhd hxe
   clear hrow hxe
   obtain ⟨w',hrun,hS',hk'⟩:=SMap.put (P:=Tryz.prog) HS.out Tryz.underlying188 Tryz.underlying9 x (.bool true)
   have HS':=zhd hS'
   have HK':=zhd hk'
   clear hS' hk'
   go_wp2_with fail
   go_roundw
   case rel=>exact ⟨j+1,hlt,by go_num,HS'.out.cong (fun t=>by rw [List.take_add_one,List.getElem?_eq_getElem hjl,← HXE.out];exact setF_snoc (l.take j) x t),HX.out.trans HK'.out⟩
   case measure=>simp only [intOf];omega
  ·obtain rfl:j=n:=by omega
   go_wp2_with fail
   go_ret
   have hS:=HS.out
   rw [HN.out,List.take_length] at hS
   exact ⟨HX0.out.trans' HX.out (fun i hi e=>by have:=HGE.out;omega),g,rfl,by have:=HGE.out;omega,hS⟩
def marks:List Str:=[⟨#[91]⟩,⟨#[93]⟩,⟨#[40]⟩,⟨#[41]⟩,⟨#[61]⟩,⟨#[33,61]⟩,⟨#[60]⟩,⟨#[60,61]⟩,⟨#[62]⟩,⟨#[62,61]⟩,⟨#[43]⟩,⟨#[45]⟩,⟨#[42]⟩,⟨#[47]⟩,⟨#[37]⟩,⟨#[44]⟩]
theorem fields_sl (s:ByteArray) (l:List Str) (n:Nat) (w:World) (h0:s.size < 4294967281) (ha:s.data.toList.all (fun b=>decide (b.toNat < 128))=true) (hL:LaidAt w) (hf:(Lib.fields s.data.toList).map (fun x=>(⟨x.toArray⟩:Str))=l) (hn:l.length=n) (h100:n≤100) :
 Calls Tryz.prog 173 #[.string s] w fun e w'=>Ext w w'∧∃ A c,e=.returned (.slice A n c)∧StrSl w' w'.heap.size A n l:=by
 refine (Go.Proofs.Tryz.strings_Fields s w h0 (fun j b hb=>of_decide_eq_true (List.all_eq_true.1 ha b (List.mem_of_getElem? hb))) hL.sp).mono ?_
 rintro e w' ⟨rfl,rfl⟩
 have hlen:(Lib.fields s.data.toList).length=n:=by rw [← hn,← hf,List.length_map]
 rw [hlen]
 refine ⟨(Kept.refl _ w).alloc _,_,_,rfl,hn.symm,h100,w.heap.size,0,fun _=>rfl,fun _=>⟨by simp,?_⟩⟩
 have hb:=Row.of_blk (Blk.new w 9 ((Lib.fields s.data.toList).map fun l=>Value.string ⟨l.toArray⟩).toArray)
 rw [← hf,List.map_map]
 exact hb
set_option maxRecDepth 100000 in
theorem swords_any (w:World) (hL:LaidAt w):Calls Tryz.prog 157 #[] w fun e w'=>Ext w w'∧∃ A c,e=.returned (.slice A 23 c)∧StrSl w' w'.heap.size A 23 words:=by
 go_enter Tryz.func157,Tryz.ntmps157
 go_wp2_with fail
 refine (fields_sl _ words 23 _ (by decide) (by decide) hL (by decide) rfl (by omega)).mono ?_
 rintro e w1 ⟨hx,A,c,rfl,hS⟩
 go_wp2_with fail
 go_ret
 exact ⟨hx,A,c,rfl,hS⟩
set_option maxRecDepth 100000 in
theorem smarks_any (w:World) (hL:LaidAt w):Calls Tryz.prog 158 #[] w fun e w'=>Ext w w'∧∃ A c,e=.returned (.slice A 16 c)∧StrSl w' w'.heap.size A 16 marks:=by
 go_enter Tryz.func158,Tryz.ntmps158
 go_wp2_with fail
 refine (fields_sl _ marks 16 _ (by decide) (by decide) hL (by decide) rfl (by omega)).mono ?_
 rintro e w1 ⟨hx,A,c,rfl,hS⟩
 go_wp2_with fail
 go_ret
 exact ⟨hx,A,c,rfl,hS⟩
theorem aggScan:aggT Tryz.prog 190=true:=by kernel_rfl
theorem sizeScan:sizeT Tryz.prog 190=some 2:=by kernel_rfl
theorem wpLoadScan {dst:Option Tmp} {ty':TypeId} {x:Operand} {pos:String} {after:Array Edge} {guard:Option (Nat × Bool)} {a:Act} {w:World} {K:Act→World→Prop} {Q:Exit→Act→World→Prop} (hx:isAt (a.eval x)=true) (hh:has w (blkOf (a.eval x)) (offOf (a.eval x)) 2=true) :
 Oper.wp Tryz.prog { dst:=dst,op:=.load 190 x,type:=ty',pos:=pos,after:=after,guard:=guard } a w K Q=K (a.put dst (.agg (gets w (blkOf (a.eval x)) (offOf (a.eval x)) 2))) w:=wp_load_big 2 aggScan sizeScan hx hh
theorem runLoadScan {ρ:Operand→Value} {dst:Option Tmp} {ty':TypeId} {x:Operand} {pos:String} {after:Array Edge} {guard:Option (Nat × Bool)} {w:World} (hx:isAt (ρ x)=true) (hh:has w (blkOf (ρ x)) (offOf (ρ x)) 2=true) :
 (execOp ρ { dst:=dst,op:=.load 190 x,type:=ty',pos:=pos,after:=after,guard:=guard }).run Tryz.prog w=.ok (.value (.agg (gets w (blkOf (ρ x)) (offOf (ρ x)) 2))) w:=run_exec_load_big 2 aggScan sizeScan hx hh
theorem loadVarScan (w:World) (g off:Nat) (hh:has w g off 2=true):(loadVar 190 ⟨g,off,none⟩).run Tryz.prog w=.ok (.agg (gets w g off 2)) w:=run_loadVar_big Tryz.prog w _ g off 2 aggScan sizeScan hh
attribute [go_sem] aggScan sizeScan
attribute [go_sem ↓ high] wpLoadScan loadVarScan runLoadScan
attribute [go_sem high] wpLoadScan
set_option maxRecDepth 100000 in
theorem start_any (w:World) (hL:LaidAt w):Calls Tryz.prog 124 #[] w fun e w'=>Ext w w'∧∃ g m,e=.returned (.agg #[.map (some g),m])∧SMap w' g (setF words):=by
 go_enter Tryz.func124,Tryz.ntmps124
 go_wp2_with fail
 have hR:=Blk.new w 190 #[.map none,.map none]
 have hx0:=(Kept.refl (fun _=>False) w).alloc (.cells #[.map none,.map none] 190)
 refine (swords_any _ (hL.ext hx0)).mono ?_
 rintro e w1 ⟨hx1,A,c,rfl,hS⟩
 have HS:=zhd hS
 clear hS
 go_wp2_with fail
 refine (set_any words _ _ _ _ _ (Nat.le_refl _) HS.out).mono ?_
 rintro e w2 ⟨hx2,g,rfl,hg,hM⟩
 have HM:=zhd hM
 clear hM
 go_wp2_with fail
 refine (smarks_any _ (hL.ext ((hx0.trans hx1).trans hx2))).mono ?_
 rintro e w3 ⟨hx3,A2,c2,rfl,hS2⟩
 have HS2:=zhd hS2
 clear hS2
 go_wp2_with fail
 refine (set_any marks _ _ _ _ _ (Nat.le_refl _) HS2.out).mono ?_
 rintro e w4 ⟨hx4,g2,rfl,hg2,hM2⟩
 have hD:=Blk.ext hR (((hx1.trans hx2).trans hx3).trans hx4)
 have hm:=hD.melts
 have hh:=Blk.has hD
 go_wp2_with fail
 refine ret_cell Tryz.results124 rfl rfl aggScan (by exact sizeScan) (Blk.put_ hD _ _) ?_
 have hl:g < w2.heap.size:=HM.out.lt
 have hw:w.heap.size < g:=by have h1:=hx0.size;have h2:=hx1.size;have:(w.alloc (.cells #[.map none,.map none] 190)).heap.size=w.heap.size+1:=(by simp);omega
 refine ⟨((((hx0.trans hx1).trans hx2).trans hx3).trans hx4).putAt _ _ _ (fun h=>absurd h (by omega)),g,.map (some g2),rfl,?_⟩
 exact ((HM.out.ext (hx3.trans hx4)).kept (Kept.putAt (S:=(·=w.heap.size)) (Kept.refl _ _) _ _ _ (fun _=>rfl)) (by omega))
end Go.Proofs.YtbfbabbcdochjaaGreatDoor
