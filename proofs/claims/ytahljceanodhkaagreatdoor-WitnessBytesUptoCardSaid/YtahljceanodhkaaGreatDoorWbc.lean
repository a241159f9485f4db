/- Several texts joined: Pa, Pb, Pc, Pd, Pe, Pf, Tc, Td, Pg, Te, Tf, Wa, Wb, Wc, Wd. -/
import Derived.Laws.MakeOwn
import Derived.Laws.OwnMore
import Derived.Lib.SliceRun
import Derived.Test.YtahljceanodhkaaGreatDoorWbb
/- Package octet: fresh, number, PutNum, PutInt. -/
namespace Go.Proofs.YtahljceanodhkaaGreatDoor
open Go.RowKit
/-- the operation makeSlice, by what its run is known to be -/
theorem wpList_make {P : Program} {w : World} {ops : Array Oper} {rest : List Oper} {o : Oper} {a : Act} {Q : Exit → Act → World → Prop} (hgd : o.guard = none) (x y : Operand) (T : TypeId)
    (ho : o.op = .makeSlice T x y) {v s v' : Value} {w' : World} (hx : a.eval x = v) (hy : a.eval y = s)
    (hrun : (Instr.makeSlice T v s).run P w = .ok v' w') (h : wpList P ops Q rest (a.put o.dst v') w') : wpList P ops Q (o :: rest) a w :=
  wpList_plain hgd fun _ hK => by
    unfold Oper.wp execOp
    simp only [ho, Sem.run_bind, Sem.run_pure, Result.andThen_ok, hx, hy, hrun]
    exact hK _ _ h
theorem makeB (w : World) (c : Nat) (h : c ≤ 100000) :
    ∃ w', (Instr.makeSlice 95 (.int .i64 0) (.int .i64 (c : Int))).run Tryz.prog w = .ok (.slice (some ⟨w.heap.size, 0, none⟩) 0 c) w' ∧ w'.ownsRow w.heap.size 5 1 (.slice (some ⟨w.heap.size, 0, none⟩) 0 c) 0 (byts []) ∧ Ext w w' := by
  obtain ⟨i, hi, hz, h1, h2⟩ := info_parts infoU8
  obtain ⟨w', hr, ho, hg⟩ := run_make_own (P := Tryz.prog) w w.heap.size 95 5 i _ 1 Tryz.underlying95 hi hz h1 .i64 .i64 c (by rw [h2]; omega) (by unfold maxLen; omega) (Nat.le_refl _)
  exact ⟨w', hr, ho, hg.os, hg.tape, hg.output, hg.size, fun k hk _ => hg.block k hk (by simp)⟩
theorem own_cases {w : World} {base : Nat} {v : Value} {n : Nat} {xs : List Int} (h : w.ownsRow base 5 1 v n (byts xs)) : (v = .slice none 0 0 ∧ n = 0 ∧ xs = []) ∨ ∃ g c, v = .slice (some ⟨g, 0, none⟩) n c ∧ base ≤ g ∧ Row w g 0 (byts xs) ∧ n ≤ c ∧ n = xs.length := by
  have hl := h.1
  rw [byts_length, Nat.mul_one] at hl
  rcases h.2 with ⟨h1, h0⟩ | ⟨g, c, cur, hv, hb, hc, hnc, hcm, hcs, htk⟩
  · exact .inl ⟨h1, h0, List.eq_nil_of_length_eq_zero (by omega)⟩
  · refine .inr ⟨g, c, hv, hb, ?_, hnc, hl.symm⟩
    have hln : (byts xs).length = n := by rw [byts_length, hl]
    refine ⟨?_, ?_, (Array.getElem?_eq_some_iff.1 hc).1⟩
    · unfold has; rw [hc, hln]; simp; omega
    · unfold gets; rw [hc, hln]; simp only [List.drop_zero]; rw [Nat.mul_one] at htk; rw [htk]
set_option maxRecDepth 100000 in
set_option maxHeartbeats 1000000 in
theorem fresh_any (base : Nat) (v : Value) (n : Nat) (xs : List Int) (more : Nat) (w : World) (hown : w.ownsRow base 5 1 v n (byts xs)) (hn : n ≤ 1000) (hm : more ≤ 1000) :
    Calls Tryz.prog 161 #[v, .int .i64 more] w fun e w' => ∃ v', e = .returned v' ∧ w'.ownsRow w.heap.size 5 1 v' n (byts xs) ∧ Ext w w' := by
  rcases own_cases hown with ⟨rfl, rfl, rfl⟩ | ⟨g, c, rfl, hg, hrow, hc, hl⟩
  · obtain ⟨w1, hr1, ho1, hx1⟩ := makeB w more (by omega)
    obtain ⟨i, hi, _⟩ := info_parts infoU8
    have hr2 := run_append_owned_none (P := Tryz.prog) (w := w1) _ 95 95 5 i 1 Tryz.underlying95 hi _ _ _ ho1
    clear hi
    go_enter Tryz.func161, Tryz.ntmps161
    go_upto_region 1 with (fail)
    go_step
    iterate 4 (refine wpList_step (fun K hK => ?_); go_simp; (try go_bits); refine hK _ _ ?_; clear hK K)
    refine wpList_make rfl _ _ 95 rfl rfl rfl hr1 ?_
    clear hr1
    iterate 1 (refine wpList_step (fun K hK => ?_); go_simp; (try go_bits); refine hK _ _ ?_; clear hK K)
    refine wpList_app rfl (.tmp 9) (.tmp 10) 95 rfl rfl rfl rfl hr2 ?_
    clear hr2
    go_wp2_with fail
    go_ret
    exact ⟨_, rfl, ho1, hx1⟩
  · obtain ⟨w1, hr1, ho1, hx1⟩ := makeB w (n + more) (by omega)
    obtain ⟨v2, w2, hr2, ho2, hk2⟩ := appB w1 _ _ _ [] ho1 g 0 n c xs hl (hrow.ext hx1) (by omega) hx1.size
    rw [Int.natCast_add] at hr1
    have HL := Lib.hid hl
    clear hl hc
    go_enter Tryz.func161, Tryz.ntmps161
    go_upto_region 1 with (fail)
    go_step
    iterate 4 (refine wpList_step (fun K hK => ?_); go_simp; (try go_bits); refine hK _ _ ?_; clear hK K)
    refine wpList_make rfl _ _ 95 rfl rfl rfl hr1 ?_
    clear hr1
    iterate 1 (refine wpList_step (fun K hK => ?_); go_simp; (try go_bits); refine hK _ _ ?_; clear hK K)
    refine wpList_app rfl (.tmp 9) (.tmp 10) 95 rfl rfl rfl rfl hr2 ?_
    clear hr2
    go_wp2_with fail
    go_ret
    rw [Nat.zero_add, List.nil_append] at ho2
    exact ⟨_, rfl, ho2, hx1.trans' hk2 (fun i hi e => by simp [Value.ownBlock] at e; omega)⟩
theorem or128f : ∀ x : Fin 256, bits .or .u8 (x.val : Int) 128 = 128 + (x.val : Int) % 128 := by decide +kernel
theorem or128 (m : Nat) : bits .or .u8 ((m : Int) % 256) 128 = 128 + (m : Int) % 128 := by
  have h := or128f ⟨m % 256, Nat.mod_lt _ (by omega)⟩
  rw [show (((m % 256 : Nat) : Int)) = (m : Int) % 256 by omega] at h
  rw [h]
  omega
set_option maxRecDepth 100000 in
set_option maxHeartbeats 1000000 in
theorem number_any (base : Nat) (v : Value) (k : Nat) (xs : List Int) (n : Nat) (w : World) (hn : n < 18446744073709551616) (hown : w.ownsRow base 5 1 v k (byts xs)) (hk : k ≤ 1000) (hbase : base ≤ w.heap.size) :
    Calls Tryz.prog 160 #[v, .int .u64 n] w fun e w' => ∃ v' m, e = .returned v' ∧ m = k + (vint n).length ∧ w'.ownsRow base 5 1 v' m (byts (xs ++ vint n)) ∧ Kept (fun i => base ≤ i) w w' := by
  have hlen : (vint n).length ≤ 10 := vint_len 10 n (by omega) (by omega)
  have HL := Lib.hid hlen
  have HB := Lib.hid hn
  clear hlen hn
  go_enter Tryz.func160, Tryz.ntmps160
  go_wp2_with fail
  go_loopw [0, 1] (fun t0 t1 wr => ∃ (m : Nat) (done : List Int), Hid (m ≤ n) ∧ t1 = .int .u64 m ∧ Hid (done ++ vint m = vint n) ∧ wr.ownsRow base 5 1 t0 (k + done.length) (byts (xs ++ done)) ∧ Kept (fun i => base ≤ i) w wr) (fun _ t1 _ => (intOf t1).toNat)
  case atStart => exact ⟨n, [], Nat.le_refl _, rfl, rfl, by simpa using hown, Kept.refl _ _⟩
  case round =>
    obtain ⟨m, done, hmn, rfl, hd, ho, hx⟩ := hrel
    have hdl : done.length + (vint m).length ≤ 10 := by have h := congrArg List.length hd.out; simp at h; have := HL.out; omega
    have hvp := vint_pos m
    have hob : ∀ i, (u0 : Value).ownBlock = some i → base ≤ i := fun i e => (ho.lt i e).1
    have HOB := Lib.hid hob
    clear hob
    by_cases hlt : m < 128
    · have hq : decide ((128 : Int) ≤ m) = false := by simp; omega
      have hw : (m : Int) % 256 = m := by omega
      obtain ⟨v2, w2, hr2, ho2, hk2⟩ := appB (wr.alloc (.cells #[.int .u8 (m : Int)] 5)) _ _ _ (xs ++ done) (ho.alloc _) wr.heap.size 0 1 1 [(m : Int)] rfl (Row.of_blk (Blk.new wr _ _)) (by omega) (by have := hx.size; simp; omega)
      go_upto_region 4 with (fail)
      go_step
      iterate 4 (refine wpList_step (fun K hK => ?_); go_simp; (try go_bits); refine hK _ _ ?_; clear hK K)
      refine wpList_app rfl (.tmp 15) (.tmp 18) 95 rfl rfl rfl rfl hr2 ?_
      clear hr2
      go_wp2_with fail
      go_ret
      have hv : done ++ [(m : Int)] = vint n := by rw [← hd.out, vint_small hlt]
      rw [List.append_assoc, hv] at ho2
      exact ⟨_, _, rfl, by rw [← hv]; simp; omega, ho2, (hx.alloc _).trans' hk2 (fun i _ e => HOB.out i e)⟩
    · have hq : decide ((128 : Int) ≤ m) = true := by simp; omega
      have hm64 : (m : Int) < 18446744073709551616 := by have := HB.out; have := hmn.out; omega
      have hor : bits .or .u8 ((m : Int) % 256) 128 = 128 + (m : Int) % 128 := or128 m
      obtain ⟨v2, w2, hr2, ho2, hk2⟩ := appB (wr.alloc (.cells #[.int .u8 (128 + (m : Int) % 128)] 5)) _ _ _ (xs ++ done) (ho.alloc _) wr.heap.size 0 1 1 [128 + (m : Int) % 128] rfl (Row.of_blk (Blk.new wr _ _)) (by omega) (by have := hx.size; simp; omega)
      have hk2' : Kept (fun i => base ≤ i) w w2 := (hx.alloc _).trans' hk2 (fun i _ e => HOB.out i e)
      go_upto_region 2 with (fail)
      go_step
      iterate 5 (refine wpList_step (fun K hK => ?_); go_simp; (try go_bits); refine hK _ _ ?_; clear hK K)
      refine wpList_app rfl (.tmp 7) (.tmp 11) 95 rfl rfl rfl rfl hr2 ?_
      clear hr2 ho
      go_wp2_with fail
      go_roundw
      case rel => exact ⟨m / 128, done ++ [128 + (m : Int) % 128], by show _ ≤ _; have := hmn.out; omega, by go_num, by show _ = _; rw [← hd.out, vint_big hlt]; simp, by rw [List.length_append, ← List.append_assoc, ← Nat.add_assoc]; exact ho2, hk2'⟩
      case measure => simp only [intOf]; omega
end Go.Proofs.YtahljceanodhkaaGreatDoor

/- Package octet: PutNum, PutInt; witness: putInstr, instrLeaf. -/
namespace Go.Proofs.YtahljceanodhkaaGreatDoor
open Go.RowKit
/-- what hands back bytes of its own, of any number -/
def OwnsB (w w' : World) (e : Ending) (k : Nat) (l : List Int) : Prop :=
  ∃ v, e = .returned v ∧ w'.ownsRow w.heap.size 5 1 v k (byts l) ∧ Ext w w'
set_option maxRecDepth 100000 in
set_option maxHeartbeats 1000000 in
theorem putnum_any (base : Nat) (v : Value) (k : Nat) (xs : List Int) (n : Nat) (m : Nat) (w : World) (hm : m = k + (vint n).length) (hn : n < 18446744073709551616) (hown : w.ownsRow base 5 1 v k (byts xs)) (hk : k ≤ 1000) :
    Calls Tryz.prog 94 #[v, .int .u64 n] w fun e w' => OwnsB w w' e m (xs ++ vint n) := by
  have HM := Lib.hid hm
  have HN := Lib.hid hn
  have HO := Lib.hid hown
  clear hm hn hown
  go_enter Tryz.func94, Tryz.ntmps94
  go_wp2_with fail
  refine (fresh_any base v k xs 10 w HO.out hk (by omega)).mono ?_
  rintro e w1 ⟨v1, rfl, ho1, hx1⟩
  go_wp2_with fail
  refine (number_any w.heap.size v1 k xs n w1 HN.out ho1 hk hx1.size).mono ?_
  rintro e w2 ⟨v2, m2, rfl, rfl, ho2, hk2⟩
  go_wp2_with fail
  go_ret
  rw [← HM.out] at ho2
  exact ⟨_, rfl, ho2, hx1.trans' hk2 (fun i hi h => by omega)⟩
theorem i64_notneg (n : Int) (h : n < 0) (h0 : -9223372036854775808 ≤ n) : bits .xor .i64 (-1) n = -(n + 1) := by
  show IntKind.i64.wrap ((BitVec.ofInt 64 (-1) ^^^ BitVec.ofInt 64 n).toNat : Int) = _
  have h1 : BitVec.ofInt 64 (-1) = BitVec.allOnes 64 := by decide
  rw [h1, BitVec.allOnes_xor, BitVec.toNat_not, BitVec.toNat_ofInt]
  simp [IntKind.wrap, IntKind.bits, IntKind.signed]
  omega
theorem or1_u64 (x : Nat) (h : 2 * x + 1 < 18446744073709551616) : bits .or .u64 (2 * (x : Int)) 1 = 2 * (x : Int) + 1 := by
  have := u64_or_nat (2 * x) 1 (by omega) (by omega)
  have e : 2 * x ||| 1 = 2 * x + 1 := by
    have := Nat.two_pow_add_eq_or_of_lt (show 1 < 2 ^ 1 by decide) x
    rw [Nat.pow_one] at this
    exact this.symm
  rw [e] at this
  simpa using this
theorem put_neg (n : Int) (h : n < 0) (h0 : -9223372036854775808 ≤ n) : bits .or .u64 (IntKind.u64.wrap (IntKind.u64.wrap (bits .xor .i64 (-1) n) * 2)) 1 = ((foldN n : Nat) : Int) := by
  rw [i64_notneg n h h0, u64_in (x := -(n + 1)) (by omega) (by omega), u64_in (by omega) (by omega)]
  obtain ⟨x, hx⟩ : ∃ x : Nat, -(n + 1) = x := ⟨(-(n + 1)).toNat, by omega⟩
  rw [hx, Int.mul_comm, or1_u64 x (by omega)]
  unfold foldN
  rw [if_pos h]
  omega
set_option maxRecDepth 100000 in
set_option maxHeartbeats 1000000 in
theorem putint_any (base : Nat) (v : Value) (k : Nat) (xs : List Int) (n : Int) (m : Nat) (w : World) (hm : m = k + (vint (foldN n)).length) (h0 : -9223372036854775808 ≤ n) (h1 : n ≤ 9223372036854775807) (hown : w.ownsRow base 5 1 v k (byts xs)) (hk : k ≤ 1000) :
    Calls Tryz.prog 93 #[v, .int .i64 n] w fun e w' => OwnsB w w' e m (xs ++ vint (foldN n)) := by
  have HM := Lib.hid hm
  have HO := Lib.hid hown
  have HF := Lib.hid (foldN_lt h0 h1)
  clear hm hown
  by_cases hneg : n < 0
  · go_enter Tryz.func93, Tryz.ntmps93
    go_wp2_with fail
    rw [put_neg n hneg h0]
    refine (putnum_any base v k xs (foldN n) m w HM.out HF.out HO.out hk).mono ?_
    rintro e w1 ⟨v1, rfl, ho1, hx1⟩
    go_wp2_with fail
    go_ret
    exact ⟨_, rfl, ho1, hx1⟩
  · have hf : n * 2 = ((foldN n : Nat) : Int) := by unfold foldN; rw [if_neg hneg]; omega
    have HE := Lib.hid hf
    clear hf
    go_enter Tryz.func93, Tryz.ntmps93
    go_wp2_with fail
    rw [show Value.int IntKind.u64 _ = Value.int IntKind.u64 ((foldN n : Nat) : Int) by rw [← HE.out]]
    refine (putnum_any base v k xs (foldN n) m w HM.out HF.out HO.out hk).mono ?_
    rintro e w1 ⟨v1, rfl, ho1, hx1⟩
    go_wp2_with fail
    go_ret
    exact ⟨_, rfl, ho1, hx1⟩
end Go.Proofs.YtahljceanodhkaaGreatDoor

/- Package witness: putInstr, instrLeaf, wordLeaf. -/
namespace Go.Proofs.YtahljceanodhkaaGreatDoor
open Go.RowKit
theorem aggWins : aggT Tryz.prog 41 = true := by kernel_rfl
theorem sizeWins : sizeT Tryz.prog 41 = some 4 := by kernel_rfl
theorem wpLoadWins {dst : Option Tmp} {ty' : TypeId} {x : Operand} {pos : String} {after : Array Edge} {guard : Option (Nat × Bool)} {a : Act} {w : World} {K : Act → World → Prop} {Q : Exit → Act → World → Prop} (hx : isAt (a.eval x) = true) (hh : has w (blkOf (a.eval x)) (offOf (a.eval x)) 4 = true) :
    Oper.wp Tryz.prog { dst := dst, op := .load 41 x, type := ty', pos := pos, after := after, guard := guard } a w K Q = K (a.put dst (.agg (gets w (blkOf (a.eval x)) (offOf (a.eval x)) 4))) w := wp_load_big 4 aggWins sizeWins hx hh
theorem runLoadWins {ρ : Operand → Value} {dst : Option Tmp} {ty' : TypeId} {x : Operand} {pos : String} {after : Array Edge} {guard : Option (Nat × Bool)} {w : World} (hx : isAt (ρ x) = true) (hh : has w (blkOf (ρ x)) (offOf (ρ x)) 4 = true) :
    (execOp ρ { dst := dst, op := .load 41 x, type := ty', pos := pos, after := after, guard := guard }).run Tryz.prog w = .ok (.value (.agg (gets w (blkOf (ρ x)) (offOf (ρ x)) 4))) w := run_exec_load_big 4 aggWins sizeWins hx hh
theorem loadVarWins (w : World) (g off : Nat) (hh : has w g off 4 = true) : (loadVar 41 ⟨g, off, none⟩).run Tryz.prog w = .ok (.agg (gets w g off 4)) w := run_loadVar_big Tryz.prog w _ g off 4 aggWins sizeWins hh
attribute [go_sem] aggWins sizeWins
attribute [go_sem ↓ high] wpLoadWins loadVarWins runLoadWins
attribute [go_sem high] wpLoadWins
theorem own_mono {w : World} {b b' : Nat} {E : TypeId} {sz : Nat} {v : Value} {n : Nat} {xs : List Value} (h : w.ownsRow b' E sz v n xs) (hb : b ≤ b') : w.ownsRow b E sz v n xs := by
  refine ⟨h.1, ?_⟩
  rcases h.2 with h1 | ⟨g, c, cur, hv, hg, r⟩
  · exact .inl h1
  · exact .inr ⟨g, c, cur, hv, Nat.le_trans hb hg, r⟩
def Ins.at (i : Ins) : Nat → Int | 0 => i.op | 1 => i.a | 2 => i.b | _ => i.c
def instrT (i : Ins) : Nat → List Int | 0 => [] | j + 1 => instrT i j ++ vint (foldN (i.at j))
theorem instrT_all (i : Ins) : instrT i 4 = instrB i := by simp [instrT, instrB, Ins.at]
theorem at_ok {i : Ins} (h : i.ok) : ∀ j, i64ok (i.at j)
  | 0 => h.op
  | 1 => h.a
  | 2 => h.b
  | _ + 3 => h.c
theorem instrT_len {i : Ins} (h : i.ok) : ∀ j, (instrT i j).length ≤ 10 * j
  | 0 => by simp [instrT]
  | j + 1 => by
    have := instrT_len h j
    have := vfold_len (at_ok h j)
    simp only [instrT, List.length_append]
    omega
theorem idxIns (i : Ins) (j : Nat) (hj : j < 4) (w : World) : (Instr.index 238 (.agg i.cells) (.int .i64 j)).run Tryz.prog w = .ok (.int .i64 (i.at j)) w := by
  rcases (by omega : j = 0 ∨ j = 1 ∨ j = 2 ∨ j = 3) with rfl | rfl | rfl | rfl <;> kernel_rfl
set_option maxRecDepth 100000 in
set_option maxHeartbeats 1000000 in
theorem putinstr_any (i : Ins) (hi : i.ok) (w : World) :
    Calls Tryz.prog 96 #[.slice none 0 0, .agg #[.int .i64 i.op, .int .i64 i.a, .int .i64 i.b, .int .i64 i.c]] w fun e w' => OwnsB w w' e (instrB i).length (instrB i) := by
  have HI := Lib.hid hi
  clear hi
  have hx0 : Ext w _ := (Kept.refl _ w).alloc (.cells i.cells 41)
  go_enter Tryz.func96, Tryz.ntmps96
  go_wp2_with fail
  go_loopw [0, 16] (fun t0 t16 wr => ∃ (j : Nat), j ≤ 4 ∧ t16 = .int .i64 j ∧ wr.ownsRow w.heap.size 5 1 t0 (instrT i j).length (byts (instrT i j)) ∧ Ext w wr) (fun _ t16 _ => 4 - (intOf t16).toNat)
  case atStart => exact ⟨0, by omega, rfl, World.ownsRow_nil _ _ _ _, hx0⟩
  case round =>
    obtain ⟨j, hj, rfl, ho, hx⟩ := hrel
    have hl := instrT_len HI.out j
    by_cases hlt : j < 4
    · have key : ∀ (w1 : World) (v1 : Value), w1.ownsRow wr.heap.size 5 1 v1 ((instrT i j).length + (vint (foldN (i.at j))).length) (byts (instrT i j ++ vint (foldN (i.at j)))) → w1.ownsRow w.heap.size 5 1 v1 (instrT i (j + 1)).length (byts (instrT i (j + 1))) := fun w1 v1 h => by
        have := own_mono h hx.size
        rw [← List.length_append] at this
        exact this
      have HP := fun k hk => (putint_any w.heap.size u0 (instrT i j).length (instrT i j) (i.at j) k wr hk (at_ok HI.out j).1 (at_ok HI.out j).2 ho (by omega))
      have HK := Lib.hid key
      have HQ := Lib.hid HP
      clear key HP hl
      have hidx := idxIns i j hlt
      go_wp2_with fail
      refine (HQ.out _ rfl).mono ?_
      rintro e w1 ⟨v1, rfl, ho1, hx1⟩
      go_wp2_with fail
      go_roundw
      case rel => exact ⟨j + 1, hlt, by go_num, HK.out _ _ ho1, hx.trans hx1⟩
      case measure => simp only [intOf]; omega
    · obtain rfl : j = 4 := by omega
      go_wp2_with fail
      go_ret
      rw [instrT_all] at ho
      exact ⟨_, rfl, ho, hx⟩
set_option maxRecDepth 100000 in
set_option maxHeartbeats 1000000 in
theorem ileaf_any (i : Ins) (hi : i.ok) (w : World) : Calls Tryz.prog 83 #[.agg i.cells] w fun e w' => e = .returned (.agg (ileaf i).cells) ∧ Ext w w' := by
  have HI := Lib.hid hi
  have HL := Lib.hid (instrB_len hi)
  clear hi
  obtain ⟨D, hD⟩ : ∃ D, D = ileaf i := ⟨_, rfl⟩
  rw [← hD]
  have HD := Lib.hid hD
  clear hD
  have hx0 : Ext w _ := ((Kept.refl _ w).alloc (.cells i.cells 41)).alloc (.cells Dg.zero.cells 30)
  have hR0 : Blk _ (w.heap.size + 1) 30 Dg.zero.cells := Blk.new' (w.alloc (.cells i.cells 41)) _ _ _ (by simp)
  go_enter Tryz.func83, Tryz.ntmps83
  go_wp2_with fail
  refine (putinstr_any i HI.out _).mono ?_
  rintro e w1 ⟨v1, rfl, ho1, hx1⟩
  obtain ⟨g, c, rfl, hg, hrow, hc, hcm, hl⟩ := own_some ho1 HL.out.1
  clear hl
  go_wp2_with fail
  refine (of_any (some ⟨g, 0, none⟩) c (instrB i) _ _ ⟨rfl, hc, by unfold maxLen at hcm; omega, instrB_ok i, .inr ⟨g, 0, rfl, fun _ => hrow⟩⟩ (fun b off e _ => by simp at e; exact e.1 ▸ hrow.lt)).mono ?_
  rintro e w2 ⟨e2, hx2⟩
  have hcr : hOf (instrB i) = D := HD.out.symm
  rw [hcr] at e2
  subst e2
  clear hcr
  have hR2 := Blk.ext hR0 (hx1.trans hx2)
  have hh2 := Blk.has hR2
  have hm2 := Blk.melts hR2
  go_wp2_with fail
  refine ret_cell Tryz.results83 rfl rfl aggDig (by exact sizeDig) (Blk.put_ hR2 _ _) ⟨rfl, ?_⟩
  exact Kept.putAt ((hx0.trans hx1).trans hx2) _ _ _ (fun h => by omega)
set_option maxHeartbeats 400000 in
theorem leaf_any (x : Int) (w : World) : Calls Tryz.prog 87 #[.int .i32 x] w fun e w' => e = .returned (.agg (leafW x).cells) ∧ Ext w w' := by
  have hx0 : Ext w _ := (Kept.refl _ w).alloc (.cells Dg.zero.cells 30)
  have hR0 := Blk.new w 30 Dg.zero.cells
  have hu : 0 ≤ x % 4294967296 := by omega
  have HU := Lib.hid hu
  clear hu
  go_enter Tryz.func87, Tryz.ntmps87
  go_wp2_with fail
  refine (fromnum_any _ _ HU.out).mono ?_
  rintro e w1 ⟨rfl, hx1⟩
  have hR1 := Blk.ext hR0 hx1
  have hh1 := Blk.has hR1
  have hm1 := Blk.melts hR1
  go_wp2_with fail
  refine ret_cell Tryz.results87 rfl rfl aggDig (by exact sizeDig) (Blk.put_ hR1 _ _) ⟨rfl, ?_⟩
  exact Kept.putAt (hx0.trans hx1) _ _ _ (fun h => by omega)
end Go.Proofs.YtahljceanodhkaaGreatDoor

/- Package witness: wordLeaves. -/
namespace Go.Proofs.YtahljceanodhkaaGreatDoor
open Go.RowKit
theorem infoE8 : (Tryz.prog.info? 30).map (fun i => (i.zero, i.size, i.bytes)) = some (some (.agg Dg.zero.cells), 8, 8) := by kernel_rfl
theorem appE (w : World) (base : Nat) (v : Value) (n : Nat) (xs : List Dg) (hown : w.ownsRow base 30 8 v n (digs xs)) (b off m c : Nat) (l : List Dg) (hm : m = l.length) (hr : Row w b off (digs l)) (hn : n + m ≤ 100000) (hbase : base ≤ w.heap.size) :
    ∃ v' w', (Builtin.append_ #[42, 42] 42 #[v, .slice (some ⟨b, off, none⟩) m c]).run Tryz.prog w = .ok v' w' ∧ w'.ownsRow base 30 8 v' (n + m) (digs (xs ++ l)) ∧ Kept (fun i => v.ownBlock = some i) w w' := by
  obtain ⟨i, hi, hz, h1, h2⟩ := info_parts infoE8
  have := app_some (P := Tryz.prog) Tryz.underlying42 hi hz h1 h2 (by rfl) (by decide) w base v n (digs xs) hown b off m c (digs l) (by rw [digs_length, hm]) hr (digs_flat l) (by unfold maxLen; omega) (by omega) hbase
  rw [show digs xs ++ digs l = digs (xs ++ l) by simp [digs]] at this
  exact this
theorem own_someE {w : World} {base : Nat} {E : TypeId} {v : Value} {n : Nat} {xs : List Dg} (h : w.ownsRow base E 8 v n (digs xs)) (hn : 0 < n) : ∃ g c, v = .slice (some ⟨g, 0, none⟩) n c ∧ base ≤ g ∧ Row w g 0 (digs xs) ∧ n ≤ c ∧ c ≤ maxLen ∧ n = xs.length := by
  have hl := h.1
  rw [digs_length] at hl
  rcases h.2 with ⟨_, h0⟩ | ⟨g, c, cur, hv, hb, hc, hnc, hcm, hcs, htk⟩
  · omega
  · refine ⟨g, c, hv, hb, ?_, hnc, hcm, by omega⟩
    have hln : (digs xs).length = n * 8 := by rw [digs_length, hl]
    refine ⟨?_, ?_, (Array.getElem?_eq_some_iff.1 hc).1⟩
    · unfold has; rw [hc, hln]; simp; omega
    · unfold gets; rw [hc, hln]; simp only [List.drop_zero]; rw [htk]
theorem makeE (w : World) (c : Nat) (h : c ≤ 100000) :
    ∃ w', (Instr.makeSlice 42 (.int .i64 0) (.int .i64 (c : Int))).run Tryz.prog w = .ok (.slice (some ⟨w.heap.size, 0, none⟩) 0 c) w' ∧ w'.ownsRow w.heap.size 30 8 (.slice (some ⟨w.heap.size, 0, none⟩) 0 c) 0 (digs []) ∧ Ext w w' := by
  obtain ⟨i, hi, hz, h1, h2⟩ := info_parts infoE8
  obtain ⟨w', hr, ho, hg⟩ := run_make_own (P := Tryz.prog) w w.heap.size 42 30 i _ 8 Tryz.underlying42 hi hz h1 .i64 .i64 c (by rw [h2]; omega) (by unfold maxLen; omega) (Nat.le_refl _)
  exact ⟨w', hr, ho, hg.os, hg.tape, hg.output, hg.size, fun k hk _ => hg.block k hk (by simp)⟩
/-- what hands back digests of its own -/
def OwnsE (w w' : World) (e : Ending) (n : Nat) (l : List Dg) : Prop :=
  ∃ v, e = .returned v ∧ w'.ownsRow w.heap.size 30 8 v n (digs l) ∧ Ext w w'
set_option maxRecDepth 100000 in
set_option maxHeartbeats 1000000 in
theorem wordLeaves_ok (A : Option Addr) (b off cap : Nat) (l : List Int) (n : Nat) (hn : n = l.length) (h2 : n ≤ 4096) (hA : 0 < n → A = some ⟨b, off, none⟩) (w : World) (hr : 0 < n → Row w b off (mems l)) :
    Calls Tryz.prog 127 #[.slice A n cap] w fun e w' => OwnsE w w' e n (l.map leafW) := by
  have HN := Lib.hid hn
  have HA := Lib.hid hA
  have HR := Lib.hid hr
  clear hn hA hr
  obtain ⟨w0, hr0, ho0, hx0⟩ := makeE w n (by omega)
  go_enter Tryz.func127, Tryz.ntmps127
  go_upto_region 1 with (fail)
  go_step
  iterate 2 (refine wpList_step (fun K hK => ?_); go_simp; (try go_bits); refine hK _ _ ?_; clear hK K)
  refine wpList_make rfl _ _ 42 rfl rfl rfl hr0 ?_
  clear hr0
  go_wp2_with fail
  go_loopw [3, 11] (fun t3 t11 wr => ∃ (k : Nat), k ≤ n ∧ t11 = .int .i64 k ∧ wr.ownsRow w.heap.size 30 8 t3 k (digs ((l.take k).map leafW)) ∧ Ext w wr) (fun _ t11 _ => n - (intOf t11).toNat)
  case atStart => exact ⟨0, Nat.zero_le _, rfl, ho0, hx0⟩
  case round =>
    obtain ⟨k, hk, rfl, ho, hx⟩ := hrel
    have hob : ∀ i, i < w.heap.size → (u3 : Value).ownBlock = some i → False := fun i hi e => by have := (ho.lt i e).1; omega
    have HOB := Lib.hid hob
    clear hob
    by_cases hlt : k < n
    · have hkl : k < l.length := by have := HN.out; omega
      obtain rfl := HA.out (by omega)
      have hrg := ((HR.out (by omega)).ext hx).mem k hkl
      have hbl := ((HR.out (by omega)).ext hx).lt
      go_upto_region 5 with (fail)
      go_step
      iterate 2 (refine wpList_step (fun K hK => ?_); go_simp; (try go_bits); refine hK _ _ ?_; clear hK K)
      refine wpList_step (fun K hK => ?_)
      go_wp2_with fail
      refine (leaf_any l[k] _).mono ?_
      rintro e w1 ⟨rfl, hx1⟩
      refine hK _ _ ?_
      clear hK K
      obtain ⟨v2, w2, hr2, ho2, hk2⟩ := appE (w1.alloc (.cells (leafW l[k]).cells 30)) _ _ _ ((l.take k).map leafW) ((own_ext ho hx1).alloc _) w1.heap.size 0 1 1 [leafW l[k]] rfl (by simpa [digs] using Row.of_blk (Blk.new w1 30 (leafW l[k]).cells)) (by omega) (by have := (hx.trans hx1).size; simp; omega)
      iterate 1 (refine wpList_step (fun K hK => ?_); go_simp; (try go_bits); refine hK _ _ ?_; clear hK K)
      refine wpList_app rfl (.tmp 15) (.tmp 18) 42 rfl rfl rfl rfl hr2 ?_
      clear hr2
      go_wp2_with fail
      go_roundw
      case rel => exact ⟨k + 1, hlt, by go_num, by rw [List.take_succ_eq_append_getElem hkl, List.map_append]; exact ho2, ((hx.trans hx1).alloc _).trans' hk2 HOB.out⟩
      case measure => simp only [intOf]; omega
    · go_wp2_with fail
      go_ret
      have e : k = n := by omega
      subst e
      rw [List.take_of_length_le (Nat.le_of_eq HN.out.symm)] at ho
      exact ⟨_, rfl, ho, hx⟩
end Go.Proofs.YtahljceanodhkaaGreatDoor

/- machine.State.Right, slices.Clone of digests. -/
namespace Go.Proofs.YtahljceanodhkaaGreatDoor
open Go.RowKit
set_option maxRecDepth 100000 in
set_option maxHeartbeats 1000000 in
theorem right_any (pc halt : Int) (A : Option Addr) (n cap : Nat) (w : World) :
    Calls Tryz.prog 35 #[.agg (stCells pc A n cap halt)] w fun e w' => e = .returned (.bool (rightS pc halt n)) ∧ Ext w w' := by
  have hx0 : Ext w _ := (Kept.refl _ w).alloc (.cells (stCells pc A n cap halt) 70)
  go_enter Tryz.func35, Tryz.ntmps35
  go_wp2_with fail
  all_goals go_ret
  all_goals refine ⟨?_, hx0⟩
  all_goals simp [rightS]
  all_goals (intros; omega)
set_option maxRecDepth 100000 in
set_option maxHeartbeats 1000000 in
theorem dclone_any (b off cap : Nat) (l : List Dg) (n : Nat) (hn : n = l.length) (h2 : n ≤ 4096) (w : World) (hr : Row w b off (digs l)) :
    Calls Tryz.prog 173 #[.slice (some ⟨b, off, none⟩) n cap] w fun e w' => OwnsE w w' e n l := by
  obtain ⟨v2, w2, hr2, ho2, hk2⟩ := appE (w.alloc (.cells #[] 30)) _ _ 0 [] (own_new w 30 8) b off n cap l hn (hr.ext ((Kept.refl _ w).alloc _)) (by omega) (by simp)
  have HN := Lib.hid hn
  clear hn
  have heq := fun w => Lib.run_eql_slice_nil (P := Tryz.prog) w 42 30 (some ⟨b, off, none⟩) n cap 0 0 Tryz.underlying42
  simp only [Option.isNone_some] at heq
  go_enter Tryz.func173, Tryz.ntmps173
  go_upto_region 3 with (fail)
  go_step
  iterate 2 (refine wpList_step (fun K hK => ?_); go_simp; (try go_bits); refine hK _ _ ?_; clear hK K)
  refine wpList_app rfl (.tmp 5) (.tmp 6) 42 rfl rfl rfl rfl hr2 ?_
  clear hr2
  go_wp2_with fail
  go_ret
  rw [Nat.zero_add, List.nil_append] at ho2
  exact ⟨_, rfl, ho2, ((Kept.refl _ w).alloc _).trans' hk2 (fun i hi e => by simp [Value.ownBlock] at e; omega)⟩
end Go.Proofs.YtahljceanodhkaaGreatDoor

/- Package witness: head. -/
namespace Go.Proofs.YtahljceanodhkaaGreatDoor
open Go.RowKit
set_option maxRecDepth 100000 in
set_option maxHeartbeats 1000000 in
theorem head_any (pc halt words : Int) (m : Dg) (hm : m.ok) (h0 : 0 ≤ pc ∧ pc ≤ 1000000) (h1 : 0 ≤ halt ∧ halt ≤ 1000000) (h2 : 0 ≤ words ∧ words ≤ 1000000) (w : World) :
    Calls Tryz.prog 71 #[.int .i64 pc, .int .i64 halt, .int .i64 words, .agg #[.int .u8 m.x0, .int .u8 m.x1, .int .u8 m.x2, .int .u8 m.x3, .int .u8 m.x4, .int .u8 m.x5, .int .u8 m.x6, .int .u8 m.x7]] w fun e w' => e = .returned (.agg (hHead pc halt words m).cells) ∧ Ext w w' := by
  have HM := Lib.hid hm
  clear hm
  have hx0 : Ext w _ := ((Kept.refl _ w).alloc (.cells #[.int .u8 m.x0, .int .u8 m.x1, .int .u8 m.x2, .int .u8 m.x3, .int .u8 m.x4, .int .u8 m.x5, .int .u8 m.x6, .int .u8 m.x7] 30)).alloc (.cells Dg.zero.cells 30)
  have hA0 : Blk _ w.heap.size 30 m.cells := Blk.alloc (Blk.new w _ _) (.cells Dg.zero.cells 30)
  have hR0 : Blk _ (w.heap.size + 1) 30 Dg.zero.cells := Blk.new' (w.alloc (.cells #[.int .u8 m.x0, .int .u8 m.x1, .int .u8 m.x2, .int .u8 m.x3, .int .u8 m.x4, .int .u8 m.x5, .int .u8 m.x6, .int .u8 m.x7] 30)) _ _ _ (by simp)
  go_enter Tryz.func71, Tryz.ntmps71
  go_wp2_with fail
  generalize ((w.alloc (.cells #[.int .u8 m.x0, .int .u8 m.x1, .int .u8 m.x2, .int .u8 m.x3, .int .u8 m.x4, .int .u8 m.x5, .int .u8 m.x6, .int .u8 m.x7] 30)).alloc (.cells #[.int .u8 0, .int .u8 0, .int .u8 0, .int .u8 0, .int .u8 0, .int .u8 0, .int .u8 0, .int .u8 0] 30)) = W at hx0 hA0 hR0 ⊢
  have hW := hR0.lt
  have hw1 : IntKind.u64.wrap pc = pc := u64_in h0.1 (by omega)
  have hw2 : IntKind.u64.wrap halt = halt := u64_in h1.1 (by omega)
  have hw3 : IntKind.u64.wrap words = words := u64_in h2.1 (by omega)
  refine wp_region_3 (fun w1 => Ext W w1) [(0, 2), (1, 1), (3, 2), (4, 1), (6, 2), (7, 1), (9, 1), (2, 0), (5, 0), (8, 0), (10, 0), (11, 0), (12, 0)] (by kernel_rfl) (by kernel_rfl) (by kernel_rfl) (by kernel_rfl) ?_; intro l' hl'; simp only [List.map_cons, List.map_nil, List.getD_cons_zero, List.getD_cons_succ] at hl'; subst hl'
  (repeat (first | ((apply w3_pure); (· go_simp); (· (intro w1; go_simp; try with_reducible rfl)); (intro K hK; go_simp; refine hK _ _ ?_; clear hK K)) | ((apply w3_skip); (· go_simp); (intro K hK; go_simp; refine hK _ _ ?_; clear hK K)) | ((apply w3_take); (· exact (Kept.drew (Kept.refl _ _))); (· go_simp); (· (intro w1 hS; have d1 := Blk.ext hA0 hS; have hh := Blk.has d1; have hg := Blk.gets d1;  go_simp; try with_reducible rfl)); (intro K hK; go_simp; refine hK _ _ ?_; clear hK K)) | ((apply w3_pass); (· exact (Kept.drew (Kept.refl _ _))); (· go_simp); (intro K hK; go_simp; refine hK _ _ ?_; clear hK K))))
  clear hw1 hw2 hw3
  (refine w3_act (fun K hK => ?_); go_simp)
  go_wp2_with fail
  refine (fromnum_any pc _ h0.1).mono ?_
  rintro e w1 ⟨rfl, hx1⟩
  have y1 : Ext W w1 := ((Kept.refl _ W).drew).trans hx1
  refine hK.out _ _ (fun _ => y1) ?_
  clear hK K
  (refine w3_act (fun K hK => ?_); go_simp)
  go_wp2_with fail
  refine (fromnum_any halt _ h1.1).mono ?_
  rintro e w2 ⟨rfl, hx2⟩
  have y2 := y1.trans hx2
  refine hK.out _ _ (fun _ => y2) ?_
  clear hK K
  (refine w3_act (fun K hK => ?_); go_simp)
  go_wp2_with fail
  refine (fromnum_any words _ h2.1).mono ?_
  rintro e w3 ⟨rfl, hx3⟩
  have y3 := y2.trans hx3
  refine hK.out _ _ (fun _ => y3) ?_
  clear hK K
  (refine w3_act (fun K hK => ?_); go_simp)
  refine hK.out _ _ (fun _ => y3.alloc _) ?_
  clear hK K
  (refine w3_act (fun K hK => ?_); go_simp)
  go_wp2_with fail
  refine (many_any _ w3.heap.size 0 4 [dgN pc, dgN halt, dgN words, m] (by simp) ?_ _ (fun _ => rfl) (fun _ => ?_)).mono ?_
  · intro d hd
    simp at hd
    rcases hd with rfl | rfl | rfl | rfl
    · exact dgN_ok _
    · exact dgN_ok _
    · exact dgN_ok _
    · exact HM.out
  · exact Row.of_blk (Blk.new w3 30 (digs [dgN pc, dgN halt, dgN words, m]).toArray)
  rintro e w4 ⟨rfl, hx4⟩
  have y4 := (y3.alloc _).trans hx4
  refine hK.out _ _ (fun _ => y4) ?_
  clear hK K
  have hR4 := Blk.ext hR0 y4
  have hh4 := Blk.has hR4
  have hm4 := Blk.melts hR4
  (repeat (first | ((apply w3_pure); (· go_simp); (· (intro w1; go_simp; try with_reducible rfl)); (intro K hK; go_simp; refine hK _ _ ?_; clear hK K)) | ((apply w3_skip); (· go_simp); (intro K hK; go_simp; refine hK _ _ ?_; clear hK K)) | (refine w3_end (by kernel_rfl) (fun K hK => ?_); go_simp; refine hK.out _ _ ?_; clear hK K))); refine w3_nil ?_
  go_wp2_with fail
  refine ret_cell Tryz.results71 rfl rfl aggDig (by exact sizeDig) (Blk.put_ hR4 _ _) ⟨rfl, ?_⟩
  exact Kept.putAt (hx0.trans y4) _ _ _ (fun h => by omega)
end Go.Proofs.YtahljceanodhkaaGreatDoor

/- Package tree: join. -/
namespace Go.Proofs.YtahljceanodhkaaGreatDoor
open Go.RowKit
theorem digs_cons (d : Dg) (l : List Dg) : digs (d :: l) = d.cells.toList ++ digs l := rfl
theorem digs_set_list : ∀ (l : List Dg) (k : Nat) (_ : k < l.length) (d : Dg), (digs l).take (k * 8) ++ d.cells.toList ++ (digs l).drop (k * 8 + 8) = digs (l.set k d)
  | x :: l, 0, _, d => by
    rw [List.set_cons_zero, digs_cons, digs_cons, Nat.zero_mul, List.take_zero, List.nil_append, Nat.zero_add, List.drop_append_of_le_length (by simp)]
    simp
  | x :: l, k + 1, hk, d => by
    have ih := digs_set_list l k (by simpa using hk) d
    rw [List.set_cons_succ, digs_cons, digs_cons, ← ih, show (k + 1) * 8 = 8 + k * 8 by omega, Nat.add_assoc, List.take_append, List.drop_append, List.take_of_length_le (l := x.cells.toList) (by simp), List.drop_of_length_le (l := x.cells.toList) (by simp)]
    simp
theorem digs_set (l : List Dg) (k : Nat) (hk : k < l.length) (d : Dg) : splice (digs l).toArray (k * 8) d.cells = (digs (l.set k d)).toArray := by
  rw [← digs_set_list l k hk d]
  simp [splice]
theorem Blk.row {w : World} {g : Nat} {E : TypeId} {l : List Value} (h : Blk w g E l.toArray) : Row w g 0 l := by simpa using Row.of_blk h
theorem Row.has1 {w w1 : World} {g o n : Nat} (hS : Ext w w1) (hg : g < w.heap.size) (h : Proofs.YtahljceanodhkaaGreatDoor.has w g (0 + o) n = true) : Proofs.YtahljceanodhkaaGreatDoor.has w1 g o n = true := by
  rw [Nat.zero_add] at h
  unfold Proofs.YtahljceanodhkaaGreatDoor.has at h ⊢
  rw [hS.block g hg (fun f => f)]
  exact h
theorem Row.get1 {w w1 : World} {g o n : Nat} {c : Array Value} (hS : Ext w w1) (hg : g < w.heap.size) (h : gets w g (0 + o) n = c) : gets w1 g o n = c := by
  rw [Nat.zero_add] at h
  unfold gets at h ⊢
  rw [hS.block g hg (fun f => f)]
  exact h
set_option maxRecDepth 100000 in
set_option maxHeartbeats 1000000 in
theorem join_any (p g g' v v1 k N M c c' : Nat) (L L' : List Dg) (w : World) (hv1 : v1 = v + 1) (hv : v < 12) (hN : N = L.length) (hM : M = L'.length) (hk : 2 * k + 1 < N) (hk' : k < M) (hN4 : N ≤ 4096) (hok : ∀ d ∈ L, d.ok)
    (hc0 : w.cell? ⟨p, 1 + v, none⟩ = some (.slice (some ⟨g, 0, none⟩) N c)) (hc1 : w.cell? ⟨p, 1 + v1, none⟩ = some (.slice (some ⟨g', 0, none⟩) M c')) (hb : Blk w g 30 (digs L).toArray) (hb' : Blk w g' 30 (digs L').toArray) (hpl : p < w.heap.size) :
    Calls Tryz.prog 151 #[.pointer (some ⟨p, 0, none⟩), .int .i64 v1, .int .i64 k] w fun e w' => e = .returned (.tuple #[]) ∧ Blk w' g' 30 (digs (L'.set k (hTwo (L.getD (2 * k) Dg.zero) (L.getD (2 * k + 1) Dg.zero)))).toArray ∧ Kept (· = g') w w' := by
  have hsub : (v1 : Int) - 1 = v := by omega
  have hv13 : v1 < 13 := by omega
  have hv13' : (v1 : Int) < 13 := by omega
  have hi3 : (k : Int) < M := by omega
  have HV := Lib.hid hv1
  clear hv1
  have HN := Lib.hid hN
  have HM := Lib.hid hM
  have HO := Lib.hid hok
  have HC := Lib.hid hc1
  clear hN hM hok hc1
  obtain ⟨k2, hk2⟩ : ∃ k2, k2 = 2 * k := ⟨_, rfl⟩
  obtain ⟨k3, hk3⟩ : ∃ k3, k3 = 2 * k + 1 := ⟨_, rfl⟩
  have hkl : k2 < L.length := by have := HN.out; omega
  have hkl2 : k3 < L.length := by have := HN.out; omega
  have hi1 : (k2 : Int) < N := by omega
  have hi2 : (k3 : Int) < N := by omega
  have hw1 : IntKind.i64.wrap (2 * (k : Int)) = k2 := by rw [IntKind.wrap_i64]; omega
  have hw2 : IntKind.i64.wrap ((k2 : Int) + 1) = k3 := by rw [IntKind.wrap_i64]; omega
  rw [← hk3, ← hk2]
  have e1 : L.getD k2 Dg.zero = L[k2] := by simp [hkl]
  have e2 : L.getD k3 Dg.zero = L[k3] := by simp [hkl2]
  rw [e1, e2]
  have o1 := HO.out _ (List.getElem_mem hkl)
  have o2 := HO.out _ (List.getElem_mem hkl2)
  obtain ⟨ha1, hg1⟩ := (Blk.row hb).dig k2 hkl
  obtain ⟨ha2, hg2⟩ := (Blk.row hb).dig k3 hkl2
  generalize L[k2] = X at o1 hg1 ⊢
  generalize L[k3] = Y at o2 hg2 ⊢
  clear hk2 hk3
  have hgl := Blk.lt hb
  have hgl' := Blk.lt hb'
  have HO1 := Lib.hid o1
  have HO2 := Lib.hid o2
  clear e1 e2 hkl hkl2 o1 o2
  go_enter Tryz.func151, Tryz.ntmps151
  go_wp2_with fail
  refine wp_region_3 (fun w1 => Ext w w1) [(0, 2), (1, 2), (2, 2), (3, 2), (4, 2), (5, 1), (6, 2), (7, 2), (8, 2), (9, 2), (10, 2), (11, 1), (12, 2), (13, 2), (14, 2), (15, 2), (16, 2), (17, 1), (18, 0), (19, 2), (20, 0)] (by kernel_rfl) (by kernel_rfl) (by kernel_rfl) (by kernel_rfl) ?_; intro l' hl'; simp only [List.map_cons, List.map_nil, List.getD_cons_zero, List.getD_cons_succ] at hl'; subst hl'
  (repeat (first | ((apply w3_pure); (· go_simp); (· (intro w1; go_simp; try with_reducible rfl)); (intro K hK; go_simp; refine hK _ _ ?_; clear hK K)) | ((apply w3_skip); (· go_simp); (intro K hK; go_simp; refine hK _ _ ?_; clear hK K)) | ((apply w3_take); (· exact (Kept.drew (Kept.refl _ _))); (· go_simp); (· (intro w1 hS; have d1 := (Kept.cell hS (p := ⟨p, 1 + v1, none⟩) hpl (fun f => f)).trans HC.out; have hz1 := Row.has1 hS hgl ha1; have hz2 := Row.get1 hS hgl hg1; have hz3 := Row.has1 hS hgl ha2; have hz4 := Row.get1 hS hgl hg2;  go_simp; try with_reducible rfl)); (intro K hK; go_simp; refine hK _ _ ?_; clear hK K)) | ((apply w3_pass); (· exact (Kept.drew (Kept.refl _ _))); (· go_simp); (intro K hK; go_simp; refine hK _ _ ?_; clear hK K))))
  clear hw1 hw2 ha1 ha2 hg1 hg2 hc0
  (refine w3_act (fun K hK => ?_); go_simp)
  go_wp2_with fail
  refine (two_any X Y HO1.out HO2.out _).mono ?_
  rintro e w1 ⟨rfl, hx1⟩
  have y1 : Ext w w1 := ((Kept.refl _ w).drew).trans hx1
  refine hK.out _ _ (fun _ => y1) ?_
  clear hK K
  obtain ⟨Z, hZ⟩ : ∃ Z, Z = hTwo X Y := ⟨_, rfl⟩
  rw [← hZ]
  have HZ := Lib.hid hZ
  clear hZ
  have hkM : k * 8 + 8 ≤ (digs L').length := by rw [digs_length]; have := HM.out; omega
  have hB1 := Blk.ext hb' y1
  have hh1 := Blk.has hB1 (k * 8) 8
  rw [decide_eq_true (by simpa using hkM)] at hh1
  have hm1 := Blk.melts hB1
  have hB2 := Blk.put_ hB1 (k * 8) Z.cells
  rw [digs_set L' k (by have := HM.out; omega) Z] at hB2
  (repeat (first | ((apply w3_pure); (· go_simp); (· (intro w1; go_simp; try with_reducible rfl)); (intro K hK; go_simp; refine hK _ _ ?_; clear hK K)) | ((apply w3_skip); (· go_simp); (intro K hK; go_simp; refine hK _ _ ?_; clear hK K))))
  (repeat (first | ((apply w3_pure); (· go_simp); (· (intro w1; go_simp; try with_reducible rfl)); (intro K hK; go_simp; refine hK _ _ ?_; clear hK K)) | ((apply w3_skip); (· go_simp); (intro K hK; go_simp; refine hK _ _ ?_; clear hK K)) | (refine w3_end (by kernel_rfl) (fun K hK => ?_); go_simp; refine hK.out _ _ ?_; clear hK K))); refine w3_nil ?_
  go_end0
  rw [← HZ.out]
  exact ⟨rfl, hB2, Kept.putAt (Kept.ext y1) _ _ _ (fun _ => rfl)⟩
end Go.Proofs.YtahljceanodhkaaGreatDoor

/- Package tree: the tree in memory; height, Root. -/
namespace Go.Proofs.YtahljceanodhkaaGreatDoor
open Go.RowKit
/-- the tree's own block: its leaves' slice and 13 levels' slices -/
def TreeB (w : World) (p : Nat) (f : Nat → Value) : Prop := Blk w p 196 ((List.range 14).map f).toArray
theorem TreeB.cell {w : World} {p : Nat} {f : Nat → Value} (h : TreeB w p f) (i : Nat) (hi : i < 14) : w.cell? ⟨p, i, none⟩ = some (f i) := by
  rw [Blk.cell h]
  simp [hi]
theorem TreeB.lt {w : World} {p : Nat} {f : Nat → Value} (h : TreeB w p f) : p < w.heap.size := Blk.lt h
theorem TreeB.ext {w w' : World} {p : Nat} {f : Nat → Value} (h : TreeB w p f) (hk : Ext w w') : TreeB w' p f := Blk.ext h hk
theorem TreeB.set {w : World} {p : Nat} {f : Nat → Value} (h : TreeB w p f) (i : Nat) (u : Value) : TreeB (w.setCell ⟨p, i, none⟩ u) p (fun j => if j = i then u else f j) := by
  have := Blk.set_ h i u
  unfold TreeB
  rw [show ((List.range 14).map fun j => if j = i then u else f j).toArray = ((List.range 14).map f).toArray.setIfInBounds i u from ?_]
  · exact this
  · apply Array.ext
    · simp
    · intro j h1 h2
      simp at h1
      simp
      by_cases e : i = j
      · subst e; simp
      · rw [if_neg (fun q => e q.symm), List.getElem_set_ne e]; simp
set_option maxRecDepth 100000 in
set_option maxHeartbeats 1000000 in
theorem theight_ok (p n c : Nat) (A : Option Addr) (w : World) (h1 : 1 ≤ n) (h2 : n ≤ 4096) (hc : w.cell? ⟨p, 0, none⟩ = some (.slice A n c)) :
    Calls Tryz.prog 121 #[.pointer (some ⟨p, 0, none⟩)] w fun e w' => e = .returned (.int .i64 (hgt n)) ∧ w = w' := by
  obtain ⟨H, hH⟩ : ∃ H, H = hgt n := ⟨_, rfl⟩
  rw [← hH]
  have HH := Lib.hid hH
  clear hH
  go_enter Tryz.func121, Tryz.ntmps121
  go_wp2_with fail
  refine (height_ok n h1 h2 _).mono ?_
  rintro e w1 ⟨rfl, rfl⟩
  rw [← HH.out]
  go_wp2_with fail
  go_ret
  exact ⟨rfl, rfl⟩
set_option maxRecDepth 100000 in
set_option maxHeartbeats 1000000 in
theorem troot_ok (p n c g c1 H : Nat) (A : Option Addr) (d : Dg) (w : World) (hd : d.ok) (h1 : 1 ≤ n) (h2 : n ≤ 4096) (hH : H = hgt n) (hpl : p < w.heap.size) (hc : w.cell? ⟨p, 0, none⟩ = some (.slice A n c)) (hc1 : w.cell? ⟨p, 1 + H, none⟩ = some (.slice (some ⟨g, 0, none⟩) 1 c1)) (hb : Blk w g 30 d.cells) :
    Calls Tryz.prog 67 #[.pointer (some ⟨p, 0, none⟩)] w fun e w' => e = .returned (.agg (hTop d H).cells) ∧ Ext w w' := by
  have hH12 : H ≤ 12 := by rw [hH]; exact (hgt_bd n h1 h2).1
  have hH13 : (H : Int) < 13 := by omega
  have HH := Lib.hid hH
  have HD := Lib.hid hd
  have HC := Lib.hid hc
  have HC1 := Lib.hid hc1
  clear hH hd hc hc1
  have hx0 : Ext w _ := (Kept.refl _ w).alloc (.cells Dg.zero.cells 30)
  have hR0 := Blk.new w 30 Dg.zero.cells
  go_enter Tryz.func67, Tryz.ntmps67
  go_wp2_with fail
  refine (theight_ok p n c A _ h1 h2 ((Kept.cell hx0 (p := ⟨p, 0, none⟩) hpl (fun f => f)).trans HC.out)).mono ?_
  rintro e w1 ⟨rfl, rfl⟩
  rw [← HH.out]
  have d1 := (Kept.cell hx0 (p := ⟨p, 1 + H, none⟩) hpl (fun f => f)).trans HC1.out
  have hb0 := Blk.ext hb hx0
  have hh0 := Blk.has hb0
  have hg0 := Blk.gets hb0
  have hgl := Blk.lt hb
  go_wp2_with fail
  refine (top_any d HD.out H hH12 _).mono ?_
  rintro e w2 ⟨rfl, hx2⟩
  have hR2 := Blk.ext hR0 hx2
  have hh2 := Blk.has hR2
  have hm2 := Blk.melts hR2
  go_wp2_with fail
  refine ret_cell Tryz.results67 rfl rfl aggDig (by exact sizeDig) (Blk.put_ hR2 _ _) ⟨rfl, ?_⟩
  exact Kept.putAt (hx0.trans hx2) _ _ _ (fun h => by omega)
end Go.Proofs.YtahljceanodhkaaGreatDoor

/- a slice made inside a drawing region; the law's own small functions. -/
namespace Go.Proofs.YtahljceanodhkaaGreatDoor
open Go.RowKit
theorem w3_make {P : Program} {ops : Array Oper} {Q : Exit → Act → World → Prop} {S : World → Prop} {od : List (Nat × Nat)} {k : Nat} {l : List Oper} {r : List (Nat × Nat)} {a : Act} {w : World} {o : Oper} (hgd : o.guard = none) (x y : Operand) (T : TypeId)
    (ho : o.op = .makeSlice T x y) {v s v' : Value} {w' : World} (hx : a.eval x = v) (hy : a.eval y = s)
    (hrun : (Instr.makeSlice T v s).run P w = .ok v' w') (hS : S w → S w') (h : wpOp3 P ops Q S od r l (a.put o.dst v') w') : wpOp3 P ops Q S od ((k, 0) :: r) (o :: l) a w := by
  have hw : Region.wanted o (yielded ops a.tmps) = true := by simp [Region.wanted, hgd]
  unfold wpOp3
  rw [if_pos hw]
  refine .inl ?_
  unfold Oper.wp execOp
  simp only [ho, Sem.run_bind, Sem.run_pure, Result.andThen_ok, hx, hy, hrun]
  exact ⟨.inr hS, h⟩
theorem digs_rep (n : Nat) : digs (List.replicate n Dg.zero) = List.replicate (n * 8) (.int .u8 0) := by
  induction n with
  | zero => simp [digs]
  | succ n ih => rw [List.replicate_succ, digs_cons, ih, show (n + 1) * 8 = 8 + n * 8 by omega, ← List.replicate_append_replicate]; rfl
theorem madeZ (n : Nat) : (madeCells Dg.zero.cells (n * 8)).toList = digs (List.replicate n Dg.zero) := by
  rw [digs_rep]
  apply List.ext_getElem
  · simp [madeCells]
  · intro i h1 h2
    have h8 : i % 8 < 8 := Nat.mod_lt _ (by omega)
    simp only [madeCells, List.getElem_replicate]
    simp only [Array.getElem_toList, Array.getElem_map, Array.getElem_range]
    show Dg.zero.cells[i % 8]! = _
    generalize i % 8 = j at h8
    rcases (by omega : j = 0 ∨ j = 1 ∨ j = 2 ∨ j = 3 ∨ j = 4 ∨ j = 5 ∨ j = 6 ∨ j = 7) with rfl | rfl | rfl | rfl | rfl | rfl | rfl | rfl <;> rfl
theorem makeF (w : World) (n : Nat) (h : n ≤ 100000) :
    ∃ w', (Instr.makeSlice 42 (.int .i64 (n : Int)) (.int .i64 (n : Int))).run Tryz.prog w = .ok (.slice (some ⟨w.heap.size, 0, none⟩) n n) w' ∧ Blk w' w.heap.size 30 (digs (List.replicate n Dg.zero)).toArray ∧ Ext w w' := by
  obtain ⟨i, hi, hz, h1, h2⟩ := info_parts infoE8
  have hr := run_makeSlice (P := Tryz.prog) w 42 30 i _ Tryz.underlying42 hi hz .i64 .i64 n n (by omega) (Int.le_refl _) (by rw [h1]; simp; omega) (by rw [h2]; omega) (by omega)
  simp only [Int.toNat_natCast] at hr
  rw [h1] at hr
  refine ⟨_, hr, ?_, (Kept.refl _ w).alloc _⟩
  have : (madeCells (Value.agg Dg.zero.cells).cells (n * 8)) = (digs (List.replicate n Dg.zero)).toArray := by
    rw [← madeZ n]; rfl
  rw [this]
  exact Blk.new w _ _
end Go.Proofs.YtahljceanodhkaaGreatDoor

/- Package tree: New. (under way) -/
namespace Go.Proofs.YtahljceanodhkaaGreatDoor
open Go.RowKit
def lev (l : List Dg) (H v : Nat) : List Dg := (List.range (2 ^ (H - v))).map (nodeT l v)
def part (l : List Dg) (N v k : Nat) : List Dg := (List.range N).map fun j => if j < k then nodeT l v j else Dg.zero
theorem part_zero (l : List Dg) (N v : Nat) : part l N v 0 = List.replicate N Dg.zero := by
  simp [part, List.map_const']
theorem part_len (l : List Dg) (N v k : Nat) : (part l N v k).length = N := by simp [part]
theorem part_set (l : List Dg) (N v k : Nat) : (part l N v k).set k (nodeT l v k) = part l N v (k + 1) := by
  apply List.ext_getElem
  · simp [part]
  · intro j h1 h2
    simp [part] at h1 ⊢
    rw [List.getElem_set]
    by_cases e : k = j
    · subst e; simp
    · rw [if_neg e]
      simp
      by_cases q : j < k
      · rw [if_pos q, if_pos (by omega)]
      · rw [if_neg q, if_neg (by omega)]
theorem part_all (l : List Dg) (H v : Nat) : part l (2 ^ (H - v)) v (2 ^ (H - v)) = lev l H v := by
  apply List.ext_getElem
  · simp [part, lev]
  · intro j h1 h2
    simp [part] at h1
    simp [part, lev, h1]
theorem own_kept {S : Nat → Prop} {w w' : World} {base : Nat} {E : TypeId} {sz : Nat} {v : Value} {n : Nat} {xs : List Value} (h : w.ownsRow base E sz v n xs) (hk : Kept S w w') (hs : ∀ g, v.ownBlock = some g → ¬ S g) : w'.ownsRow base E sz v n xs := by
  refine ⟨h.1, ?_⟩
  rcases h.2 with h1 | ⟨g, c, cur, hv, hg, hc, r⟩
  · exact .inl h1
  · refine .inr ⟨g, c, cur, hv, hg, ?_, r⟩
    rw [hk.block g (Array.getElem?_eq_some_iff.1 hc).1 (hs g (by rw [hv]; rfl))]
    exact hc
/-- a tree in memory, whose levels 0 to v are made -/
structure Lv (w : World) (base p cg cc : Nat) (f : Nat → Value) (G : Nat → Nat) (l : List Dg) (H v : Nat) : Prop where
  blk : TreeB w p f
  f0 : f 0 = .slice (some ⟨cg, 0, none⟩) l.length cc
  own : w.ownsRow base 30 8 (.slice (some ⟨cg, 0, none⟩) l.length cc) l.length (digs l)
  fl : ∀ u, u ≤ v → f (1 + u) = .slice (some ⟨G u, 0, none⟩) (2 ^ (H - u)) (2 ^ (H - u))
  lv : ∀ u, u ≤ v → Blk w (G u) 30 (digs (lev l H u)).toArray
  inj : ∀ u u', u ≤ v → u' ≤ v → G u = G u' → u = u'
  far : ∀ u, u ≤ v → base ≤ G u ∧ ¬ G u = p ∧ ¬ G u = cg
  bp : base ≤ p
  pc : ¬ p = cg
theorem Lv.ext {w w' : World} {base p cg cc : Nat} {f : Nat → Value} {G : Nat → Nat} {l : List Dg} {H v : Nat} (h : Lv w base p cg cc f G l H v) (hx : Ext w w') : Lv w' base p cg cc f G l H v :=
  ⟨h.blk.ext hx, h.f0, own_ext h.own hx, h.fl, fun u hu => Blk.ext (h.lv u hu) hx, h.inj, h.far, h.bp, h.pc⟩
theorem Lv.cgl {w : World} {base p cg cc : Nat} {f : Nat → Value} {G : Nat → Nat} {l : List Dg} {H v : Nat} (h : Lv w base p cg cc f G l H v) : cg < w.heap.size := (h.own.lt cg rfl).2
/-- the next level is made: the tree's block has its slice, its own block is new -/
theorem Lv.step {w w' : World} {base p cg cc : Nat} {f : Nat → Value} {G : Nat → Nat} {l : List Dg} {H v g : Nat} (h : Lv w base p cg cc f G l H v) (hb : base ≤ w.heap.size) (hg : w.heap.size ≤ g) (hk : Kept (· = p) w w')
    (hT : TreeB w' p (fun j => if j = 1 + (v + 1) then .slice (some ⟨g, 0, none⟩) (2 ^ (H - (v + 1))) (2 ^ (H - (v + 1))) else f j)) (hB : Blk w' g 30 (digs (lev l H (v + 1))).toArray) :
    ∃ f' G', Lv w' base p cg cc f' G' l H (v + 1) := by
  have hcg := h.cgl
  have hpl := h.blk.lt
  refine ⟨_, fun u => if u = v + 1 then g else G u, hT, ?_, own_kept h.own hk (fun x hx => ?_), fun u hu => ?_, fun u hu => ?_, fun u u' hu hu' e => ?_, fun u hu => ?_, h.bp, h.pc⟩
  · simp [show ¬ (0 = 1 + (v + 1)) by omega, h.f0]
  · have : cg = x := by simpa [Value.ownBlock] using hx
    have := h.pc
    omega
  · by_cases e : u = v + 1
    · subst e; simp
    · simp only [if_neg e, if_neg (show ¬ (1 + u = 1 + (v + 1)) by omega)]; exact h.fl u (by omega)
  · by_cases e : u = v + 1
    · subst e; simp only [if_true]; exact hB
    · simp only [if_neg e]
      exact Blk.kept (h.lv u (by omega)) hk (h.far u (by omega)).2.1
  · by_cases e1 : u = v + 1
    · by_cases e2 : u' = v + 1
      · omega
      · simp only [if_pos e1, if_neg e2] at e
        have := (h.lv u' (by omega)).lt
        omega
    · by_cases e2 : u' = v + 1
      · simp only [if_neg e1, if_pos e2] at e
        have := (h.lv u (by omega)).lt
        omega
      · simp only [if_neg e1, if_neg e2] at e
        exact h.inj u u' (by omega) (by omega) e
  · by_cases e : u = v + 1
    · simp only [if_pos e]; omega
    · simp only [if_neg e]; exact h.far u (by omega)
/-- a tree of leaves in memory -/
def TreeOK (w : World) (base p : Nat) (l : List Dg) : Prop := ∃ cg cc f G, Lv w base p cg cc f G l (hgt l.length) (hgt l.length)
theorem TreeOK.ext {w w' : World} {base p : Nat} {l : List Dg} (h : TreeOK w base p l) (hx : Ext w w') : TreeOK w' base p l := by
  obtain ⟨cg, cc, f, G, h⟩ := h
  exact ⟨cg, cc, f, G, h.ext hx⟩
theorem TreeOK.low {w : World} {base base' p : Nat} {l : List Dg} (h : TreeOK w base p l) (hb : base' ≤ base) : TreeOK w base' p l := by
  obtain ⟨cg, cc, f, G, h⟩ := h
  exact ⟨cg, cc, f, G, h.blk, h.f0, own_mono h.own hb, h.fl, h.lv, h.inj, fun u hu => ⟨Nat.le_trans hb (h.far u hu).1, (h.far u hu).2⟩, Nat.le_trans hb h.bp, h.pc⟩
theorem lev_getD (l : List Dg) (H v k : Nat) (hk : k < 2 ^ (H - v)) : (lev l H v).getD k Dg.zero = nodeT l v k := by simp [lev, hk]
theorem lev_len (l : List Dg) (H v : Nat) : (lev l H v).length = 2 ^ (H - v) := by simp [lev]
theorem lev_okD (l : List Dg) (H v : Nat) : ∀ d ∈ lev l H v, d.ok := by
  intro d hd
  simp [lev] at hd
  obtain ⟨k, _, rfl⟩ := hd
  exact nodeT_ok l v k
theorem lev_top (l : List Dg) (H : Nat) : lev l H H = [nodeT l H 0] := by simp [lev]
theorem pow_halfH (H v : Nat) (h : v < H) : 2 ^ (H - v) = 2 * 2 ^ (H - (v + 1)) := by rw [show H - v = H - (v + 1) + 1 by omega, Nat.pow_succ]; omega
end Go.Proofs.YtahljceanodhkaaGreatDoor

/- Package tree: New. -/
namespace Go.Proofs.YtahljceanodhkaaGreatDoor
open Go.RowKit
def IsTree (w w' : World) (e : Ending) (l : List Dg) : Prop := ∃ p, e = .returned (.tuple #[.pointer (some ⟨p, 0, none⟩), .int .i64 0]) ∧ TreeOK w' w.heap.size p l ∧ Ext w w'
set_option maxRecDepth 100000 in
set_option maxHeartbeats 2000000 in
theorem tnew_ok (b off cap : Nat) (l : List Dg) (n : Nat) (hn : n = l.length) (h1 : 1 ≤ n) (h2 : n ≤ 4096) (hok : ∀ d ∈ l, d.ok) (w : World) (hr : Row w b off (digs l)) :
    Calls Tryz.prog 120 #[.slice (some ⟨b, off, none⟩) n cap] w fun e w' => IsTree w w' e l := by
  have HN := Lib.hid hn
  have HO := Lib.hid hok
  clear hn hok
  have hb := hgt_bd n h1 h2
  obtain ⟨H, hH⟩ : ∃ H, H = hgt n := ⟨_, rfl⟩
  rw [← hH] at hb
  have HH := Lib.hid hH
  obtain ⟨hH12, hnH⟩ := hb
  have HP := Lib.hid hnH
  clear hH hnH
  obtain ⟨N, hN⟩ : ∃ N, N = 2 ^ H := ⟨_, rfl⟩
  have hN4 : N ≤ 4096 := by rw [hN]; exact Nat.le_trans (Nat.pow_le_pow_right (by omega) hH12) (by decide)
  have hwN : IntKind.i64.wrap (2 ^ H) = (N : Int) := by
    have : (2 : Int) ^ H = (N : Int) := by rw [hN]; simp
    rw [this, IntKind.wrap_i64]; omega
  have HNN := Lib.hid hN
  clear hN
  go_enter Tryz.func120, Tryz.ntmps120
  go_wp2_with fail
  refine (height_ok n h1 h2 _).mono ?_
  rintro e w0 ⟨rfl, rfl⟩
  rw [← HH.out]
  go_wp2_with fail
  refine (dclone_any b off cap l n HN.out h2 _ hr).mono ?_
  rintro e w1 ⟨v1, rfl, ho1, hx1⟩
  obtain ⟨cg, cc, rfl, hcg, hcrow, hcc, hcm, hl⟩ := own_someE ho1 h1
  clear hl hcc hcm
  have hT0 : TreeB (w1.alloc (.cells #[.slice (some ⟨cg, 0, none⟩) n cc, .slice none 0 0, .slice none 0 0, .slice none 0 0, .slice none 0 0, .slice none 0 0, .slice none 0 0, .slice none 0 0, .slice none 0 0, .slice none 0 0, .slice none 0 0, .slice none 0 0, .slice none 0 0, .slice none 0 0] 196)) w1.heap.size (fun i => if i = 0 then .slice (some ⟨cg, 0, none⟩) n cc else .slice none 0 0) := Blk.new w1 _ _
  go_wp2_with fail
  have hx1' := hx1.alloc (.cells #[.slice (some ⟨cg, 0, none⟩) n cc, .slice none 0 0, .slice none 0 0, .slice none 0 0, .slice none 0 0, .slice none 0 0, .slice none 0 0, .slice none 0 0, .slice none 0 0, .slice none 0 0, .slice none 0 0, .slice none 0 0, .slice none 0 0, .slice none 0 0] 196)
  have ho' := own_ext ho1 ((Kept.refl _ w1).alloc (.cells #[.slice (some ⟨cg, 0, none⟩) n cc, .slice none 0 0, .slice none 0 0, .slice none 0 0, .slice none 0 0, .slice none 0 0, .slice none 0 0, .slice none 0 0, .slice none 0 0, .slice none 0 0, .slice none 0 0, .slice none 0 0, .slice none 0 0, .slice none 0 0] 196))
  have hpw := hx1.size
  have hcgp := hcrow.lt
  generalize (w1.alloc (.cells #[.slice (some ⟨cg, 0, none⟩) n cc, .slice none 0 0, .slice none 0 0, .slice none 0 0, .slice none 0 0, .slice none 0 0, .slice none 0 0, .slice none 0 0, .slice none 0 0, .slice none 0 0, .slice none 0 0, .slice none 0 0, .slice none 0 0, .slice none 0 0] 196)) = W at hT0 hx1' ho' ⊢
  clear ho1 hcrow
  generalize w1.heap.size = p at hT0 hpw hcgp ⊢
  have hpl := hT0.lt
  refine wp_region_3 (fun w1 => Ext W w1) [(0, 2), (1, 2), (2, 2), (4, 2), (5, 2), (3, 0), (6, 2), (7, 0)] (by kernel_rfl) (by kernel_rfl) (by kernel_rfl) (by kernel_rfl) ?_; intro l' hl'; simp only [List.map_cons, List.map_nil, List.getD_cons_zero, List.getD_cons_succ] at hl'; subst hl'
  (repeat (first | ((apply w3_pure); (· go_simp); (· (intro w1; go_simp; try with_reducible rfl)); (intro K hK; go_simp; refine hK _ _ ?_; clear hK K)) | ((apply w3_skip); (· go_simp); (intro K hK; go_simp; refine hK _ _ ?_; clear hK K)) | ((apply w3_take); (· exact (Kept.drew (Kept.refl _ _))); (· go_simp); (· (intro w1 hS; skip;  go_simp; try with_reducible rfl)); (intro K hK; go_simp; refine hK _ _ ?_; clear hK K)) | ((apply w3_pass); (· exact (Kept.drew (Kept.refl _ _))); (· go_simp); (intro K hK; go_simp; refine hK _ _ ?_; clear hK K))))
  obtain ⟨w2, hr2, hB2, hx2⟩ := makeF W.drew N (by omega)
  have y2 : Ext W w2 := ((Kept.refl _ W).drew).trans hx2
  have hG : W.heap.size = W.drew.heap.size := rfl
  rw [← hG] at hr2 hB2
  clear hG
  refine w3_make rfl (.tmp 21) (.tmp 21) 42 rfl rfl rfl hr2 (fun _ => y2) ?_
  clear hr2
  have hT2 := hT0.ext y2
  have hc2 := hT2.cell 1 (by omega)
  have hf2 := Blk.frozen hT2
  (repeat (first | ((apply w3_pure); (· go_simp); (· (intro w1; go_simp; try with_reducible rfl)); (intro K hK; go_simp; refine hK _ _ ?_; clear hK K)) | ((apply w3_skip); (· go_simp); (intro K hK; go_simp; refine hK _ _ ?_; clear hK K)) | (refine w3_end (by kernel_rfl) (fun K hK => ?_); go_simp; refine hK.out _ _ ?_; clear hK K))); refine w3_nil ?_
  have hT3 := hT2.set 1 (.slice (some ⟨W.heap.size, 0, none⟩) N N)
  have hB3 := Blk.far hB2 (p := ⟨p, 1, none⟩) (show W.heap.size ≠ p by omega) (.slice (some ⟨W.heap.size, 0, none⟩) N N)
  have y3 : Ext w (w2.setCell ⟨p, 1, none⟩ (.slice (some ⟨W.heap.size, 0, none⟩) N N)) := Kept.setCell (hx1'.trans y2) ⟨p, 1, none⟩ _ (fun h => by have : p < w.heap.size := h; omega)
  have ho3 := own_kept (own_ext ho' y2) (Kept.setCell (S := (· = p)) (Kept.refl _ w2) ⟨p, 1, none⟩ (.slice (some ⟨W.heap.size, 0, none⟩) N N) (fun _ => rfl)) (fun g hg => by simp [Value.ownBlock] at hg; omega)
  clear hc2 hf2 hT2 hB2 hT0 ho'
  generalize W.heap.size = G0 at hT3 hB3 y3 ho3 hpl ⊢
  generalize w2.setCell ⟨p, 1, none⟩ (.slice (some ⟨G0, 0, none⟩) N N) = W3 at hT3 hB3 y3 ho3 ⊢
  clear y2 hx2 hx1' hx1
  go_wp2_with fail
  refine (word_any Dg.zero dg0_ok _ (by decide) _).mono ?_
  rintro e w4 ⟨e4, hx4⟩
  obtain ⟨Z, hZ⟩ : ∃ Z, Z = hNone := ⟨_, rfl⟩
  replace e4 : e = .returned (.agg Z.cells) := by rw [e4, hZ]; rfl
  subst e4
  have HZ := Lib.hid hZ
  clear hZ
  have hT4 := hT3.ext hx4
  have hB4 := Blk.ext hB3 hx4
  have hc4 := hT4.cell 1 (by omega)
  have hpl4 := hT4.lt
  simp only [if_true] at hc4
  go_wp2_with fail
  have hT5 : TreeB _ p _ := hT4.ext ((Kept.refl _ w4).alloc (.cells Z.cells 30))
  have hB5 := Blk.alloc hB4 (.cells Z.cells 30)
  have hQ5 := Blk.new w4 30 Z.cells
  have y5 := (y3.trans hx4).alloc (.cells Z.cells 30)
  have ho5 := own_ext ho3 (hx4.alloc (.cells Z.cells 30))
  have hgq := Blk.lt hB4
  generalize (w4.alloc (.cells #[.int .u8 Z.x0, .int .u8 Z.x1, .int .u8 Z.x2, .int .u8 Z.x3, .int .u8 Z.x4, .int .u8 Z.x5, .int .u8 Z.x6, .int .u8 Z.x7] 30)) = W5 at hT5 hB5 hQ5 y5 ho5 ⊢
  clear hc4 hT4 hB4 hx4 hT3 hB3 y3 ho3
  generalize w4.heap.size = q at hQ5 hpl4 hgq ⊢
  go_loopw [34] (fun t34 wr => ∃ (k : Nat), k ≤ N ∧ t34 = .int .i64 k ∧ Blk wr G0 30 (digs (part l N 0 k)).toArray ∧ Kept (· = G0) W5 wr) (fun t34 _ => N - (intOf t34).toNat)
  case atStart => exact ⟨0, by omega, rfl, by rw [part_zero]; exact hB5, Kept.refl _ _⟩
  case round =>
    obtain ⟨k, hk, rfl, hB, hK5⟩ := hrel
    have hTr : TreeB wr p _ := Blk.kept hT5 hK5 (by omega)
    have hc1 := hTr.cell 1 (by omega)
    simp only [if_true] at hc1
    have hpr := hTr.lt
    have hQr := Blk.kept hQ5 hK5 (by omega)
    have hbw := hr.lt
    have hrr := (hr.ext y5).kept hK5 (by omega)
    have hBl := Blk.lt hB
    by_cases hlt : k < N
    · have hltI : (k : Int) < N := by omega
      by_cases hkn : k < n
      · have hknI : (k : Int) < n := by omega
        have hkl : k < l.length := by have := HN.out; omega
        obtain ⟨ha1, hg1⟩ := hrr.dig k hkl
        have hbr := hrr.lt
        go_upto_region 11 with (fail)
        refine wp_region_3 (fun w1 => Ext wr w1) [(0, 2), (1, 2), (2, 2), (3, 2), (4, 1), (5, 2), (6, 2), (7, 2), (8, 2), (9, 1), (10, 0), (11, 2), (12, 0)] (by kernel_rfl) (by kernel_rfl) (by kernel_rfl) (by kernel_rfl) ?_; intro l' hl'; simp only [List.map_cons, List.map_nil, List.getD_cons_zero, List.getD_cons_succ] at hl'; subst hl'
        (repeat (first | ((apply w3_pure); (· go_simp); (· (intro w1; go_simp; try with_reducible rfl)); (intro K hK; go_simp; refine hK _ _ ?_; clear hK K)) | ((apply w3_skip); (· go_simp); (intro K hK; go_simp; refine hK _ _ ?_; clear hK K)) | ((apply w3_take); (· exact (Kept.drew (Kept.refl _ _))); (· go_simp); (· (intro w1 hS; have d1 := (Kept.cell hS (p := ⟨p, 1, none⟩) hpr (fun f => f)).trans hc1; have d2 := (hrr.ext hS).dig k hkl; have d3 := d2.1; have d4 := d2.2;  go_simp; try with_reducible rfl)); (intro K hK; go_simp; refine hK _ _ ?_; clear hK K)) | ((apply w3_pass); (· exact (Kept.drew (Kept.refl _ _))); (· go_simp); (intro K hK; go_simp; refine hK _ _ ?_; clear hK K))))
        (refine w3_act (fun K hK => ?_); go_simp)
        go_wp2_with fail
        refine (low_any l[k] (HO.out _ (List.getElem_mem hkl)) _).mono ?_
        rintro e w6 ⟨e6, hx6⟩
        obtain ⟨V, hV⟩ : ∃ V, V = nodeT l 0 k := ⟨_, rfl⟩
        replace e6 : e = .returned (.agg V.cells) := by rw [e6, hV]; simp [nodeT, List.getElem?_eq_getElem hkl]
        subst e6
        have HV := Lib.hid hV
        clear hV
        have y6 : Ext wr w6 := ((Kept.refl _ wr).drew).trans hx6
        refine hK.out _ _ (fun _ => y6) ?_
        clear hK K
        have hkM : k * 8 + 8 ≤ (digs (part l N 0 k)).length := by rw [digs_length, part_len]; omega
        have hB6 := Blk.ext hB y6
        have hh6 := Blk.has hB6 (k * 8) 8
        rw [decide_eq_true (by simpa using hkM)] at hh6
        have hm6 := Blk.melts hB6
        have hB7 := Blk.put_ hB6 (k * 8) V.cells
        rw [digs_set _ k (by rw [part_len]; exact hlt) V, HV.out, part_set] at hB7
        rw [← HV.out] at hB7
        (repeat (first | ((apply w3_pure); (· go_simp); (· (intro w1; go_simp; try with_reducible rfl)); (intro K hK; go_simp; refine hK _ _ ?_; clear hK K)) | ((apply w3_skip); (· go_simp); (intro K hK; go_simp; refine hK _ _ ?_; clear hK K)) | (refine w3_end (by kernel_rfl) (fun K hK => ?_); go_simp; refine hK.out _ _ ?_; clear hK K))); refine w3_nil ?_
        go_wp2_with fail
        go_roundw
        case rel => exact ⟨k + 1, hlt, by go_num, hB7, Kept.putAt (hK5.trans (Kept.ext y6)) _ _ _ (fun _ => rfl)⟩
        case measure => simp only [intOf]; omega
      · have hknI : ¬ (k : Int) < n := by omega
        have hql := Blk.lt hQr
        have hnk : nodeT l 0 k = Z := by
          have := HN.out
          rw [HZ.out]
          simp [nodeT, List.getElem?_eq_none (show l.length ≤ k by omega)]
        have HNK := Lib.hid hnk
        clear hnk
        go_upto_region 12 with (fail)
        refine wp_region_3 (fun w1 => Ext wr w1) [(0, 2), (1, 2), (2, 2), (3, 2), (4, 1), (5, 2), (6, 1), (7, 2), (8, 0)] (by kernel_rfl) (by kernel_rfl) (by kernel_rfl) (by kernel_rfl) ?_; intro l' hl'; simp only [List.map_cons, List.map_nil, List.getD_cons_zero, List.getD_cons_succ] at hl'; subst hl'
        (repeat (first | ((apply w3_pure); (· go_simp); (· (intro w1; go_simp; try with_reducible rfl)); (intro K hK; go_simp; refine hK _ _ ?_; clear hK K)) | ((apply w3_skip); (· go_simp); (intro K hK; go_simp; refine hK _ _ ?_; clear hK K)) | ((apply w3_take); (· exact (Kept.drew (Kept.refl _ _))); (· go_simp); (· (intro w1 hS; have d1 := (Kept.cell hS (p := ⟨p, 1, none⟩) hpr (fun f => f)).trans hc1; have d2 := Blk.ext hQr hS; have d3 := Blk.has d2; have d4 := Blk.gets d2;  go_simp; try with_reducible rfl)); (intro K hK; go_simp; refine hK _ _ ?_; clear hK K)) | ((apply w3_pass); (· exact (Kept.drew (Kept.refl _ _))); (· go_simp); (intro K hK; go_simp; refine hK _ _ ?_; clear hK K))))
        have hkM : k * 8 + 8 ≤ (digs (part l N 0 k)).length := by rw [digs_length, part_len]; omega
        have y6 : Ext wr wr.drew := (Kept.refl _ wr).drew
        have hB6 := Blk.ext hB y6
        have hh6 := Blk.has hB6 (k * 8) 8
        rw [decide_eq_true (by simpa using hkM)] at hh6
        have hm6 := Blk.melts hB6
        have hB7 := Blk.put_ hB6 (k * 8) Z.cells
        rw [digs_set _ k (by rw [part_len]; exact hlt) Z, ← HNK.out, part_set] at hB7
        rw [HNK.out] at hB7
        (repeat (first | ((apply w3_pure); (· go_simp); (· (intro w1; go_simp; try with_reducible rfl)); (intro K hK; go_simp; refine hK _ _ ?_; clear hK K)) | ((apply w3_skip); (· go_simp); (intro K hK; go_simp; refine hK _ _ ?_; clear hK K)) | (refine w3_end (by kernel_rfl) (fun K hK => ?_); go_simp; refine hK.out _ _ ?_; clear hK K))); refine w3_nil ?_
        go_wp2_with fail
        go_roundw
        case rel => exact ⟨k + 1, hlt, by go_num, hB7, Kept.putAt (hK5.trans (Kept.ext y6)) _ _ _ (fun _ => rfl)⟩
        case measure => simp only [intOf]; omega
    · have ek : k = N := by omega
      rw [ek] at hB
      clear ek
      have hB0 : Blk wr G0 30 (digs (lev l H 0)).toArray := by
        have := part_all l H 0
        rw [Nat.sub_zero, ← HNN.out] at this
        rw [← this]; exact hB
      have ho6 := own_kept ho5 hK5 (fun g hg => by simp [Value.ownBlock] at hg; omega)
      have hxr : Ext w wr := y5.trans' hK5 (fun i hi e => by have := y5.size; omega)
      have hL0 : ∃ f G, Lv wr w.heap.size p cg cc f G l H 0 := ⟨_, fun _ => G0, hTr, by simp [HN.out], by rw [← HN.out]; exact ho6, fun u hu => by
        obtain rfl : u = 0 := by omega
        simp [HNN.out], fun u hu => by
        obtain rfl : u = 0 := by omega
        exact hB0, fun u u' hu hu' _ => by omega, fun u hu => by omega, by omega, by omega⟩
      have HL0 := Lib.hid hL0
      clear hL0 hB0 hB ho6 hTr hQr hc1 hrr hK5
      go_wp2_with fail
      go_loopw [63] (fun t63 wr => ∃ (v : Nat), v ≤ H ∧ t63 = .int .i64 v ∧ (∃ f G, Lv wr w.heap.size p cg cc f G l H v) ∧ Ext w wr) (fun t63 _ => H - (intOf t63).toNat)
      case atStart => exact ⟨0, by omega, rfl, HL0.out, hxr⟩
      case round =>
        obtain ⟨wo, rfl⟩ : ∃ wo : World, wo = wr := ⟨_, rfl⟩
        obtain ⟨v, hv, rfl, ⟨f, G, hL⟩, hx⟩ := hrel
        by_cases hlt2 : v < H
        · obtain ⟨M, hM⟩ : ∃ M, M = 2 ^ (H - (v + 1)) := ⟨_, rfl⟩
          obtain ⟨N2, hN2⟩ : ∃ N2, N2 = 2 ^ (H - v) := ⟨_, rfl⟩
          have hNM : N2 = 2 * M := by rw [hN2, hM]; exact pow_halfH H v hlt2
          have hN24 : N2 ≤ 4096 := by rw [hN2]; exact Nat.le_trans (Nat.pow_le_pow_right (by omega) (show H - v ≤ 12 by omega)) (by decide)
          have hM4 : M ≤ 4096 := by omega
          obtain ⟨v1, hv1⟩ : ∃ v1, v1 = v + 1 := ⟨_, rfl⟩
          have hw1 : IntKind.i64.wrap ((v : Int) + 1) = v1 := by rw [IntKind.wrap_i64]; omega
          have hq1 : (N2 : Int).tdiv 2 = M := by rw [Int.tdiv_eq_ediv_of_nonneg (by omega)]; omega
          have hwM : IntKind.i64.wrap (M : Int) = M := by rw [IntKind.wrap_i64]; omega
          have hcv := hL.blk.cell (1 + v) (by omega)
          rw [hL.fl v (Nat.le_refl _), ← hN2] at hcv
          have hpr := hL.blk.lt
          have hv13 : (v : Int) < 13 := by omega
          have hv113 : (v1 : Int) < 13 := by omega
          have HV := Lib.hid hv1
          have HM := Lib.hid hM
          have HN2 := Lib.hid hN2
          have HNM := Lib.hid hNM
          clear hv1 hM hN2 hNM
          go_upto_region 17 with (fail)
          refine wp_region_3 (fun w1 => Ext wo w1) [(0, 2), (1, 2), (2, 2), (3, 2), (4, 2), (5, 2), (6, 2), (7, 2), (8, 1), (9, 2), (10, 2), (12, 2), (13, 2), (11, 0), (14, 2), (15, 0)] (by kernel_rfl) (by kernel_rfl) (by kernel_rfl) (by kernel_rfl) ?_; intro l' hl'; simp only [List.map_cons, List.map_nil, List.getD_cons_zero, List.getD_cons_succ] at hl'; subst hl'
          (repeat (first | ((apply w3_pure); (· go_simp); (· (intro w1; go_simp; try with_reducible rfl)); (intro K hK; go_simp; refine hK _ _ ?_; clear hK K)) | ((apply w3_skip); (· go_simp); (intro K hK; go_simp; refine hK _ _ ?_; clear hK K)) | ((apply w3_take); (· exact (Kept.drew (Kept.refl _ _))); (· go_simp); (· (intro w1 hS; have d1 := (Kept.cell hS (p := ⟨p, 1 + v, none⟩) hpr (fun f => f)).trans hcv;  go_simp; try with_reducible rfl)); (intro K hK; go_simp; refine hK _ _ ?_; clear hK K)) | ((apply w3_pass); (· exact (Kept.drew (Kept.refl _ _))); (· go_simp); (intro K hK; go_simp; refine hK _ _ ?_; clear hK K))))
          obtain ⟨w7, hr7, hB7, hx7⟩ := makeF wo.drew M (by omega)
          have y7 : Ext wo w7 := ((Kept.refl _ wo).drew).trans hx7
          have hG7 : wo.heap.size = wo.drew.heap.size := rfl
          rw [← hG7] at hr7 hB7
          clear hG7
          refine w3_make rfl (.tmp 76) (.tmp 76) 42 rfl rfl rfl hr7 (fun _ => y7) ?_
          clear hr7
          have hT7 := hL.blk.ext y7
          have hc7 := hT7.cell (1 + v1) (by have := HV.out; omega)
          have hf7 := Blk.frozen hT7
          (repeat (first | ((apply w3_pure); (· go_simp); (· (intro w1; go_simp; try with_reducible rfl)); (intro K hK; go_simp; refine hK _ _ ?_; clear hK K)) | ((apply w3_skip); (· go_simp); (intro K hK; go_simp; refine hK _ _ ?_; clear hK K)) | (refine w3_end (by kernel_rfl) (fun K hK => ?_); go_simp; refine hK.out _ _ ?_; clear hK K))); refine w3_nil ?_
          obtain ⟨U, hU⟩ : ∃ U, U = Value.slice (some ⟨wo.heap.size, 0, none⟩) M M := ⟨_, rfl⟩
          rw [← hU]
          have hT8 := hT7.set (1 + v1) U
          have hB8 := Blk.far hB7 (p := ⟨p, 1 + v1, none⟩) (show wo.heap.size ≠ p by omega) U
          have hk8 : Kept (· = p) wo (w7.setCell ⟨p, 1 + v1, none⟩ U) := Kept.setCell (Kept.ext y7) ⟨p, 1 + v1, none⟩ U (fun _ => rfl)
          have y8 : Ext w (w7.setCell ⟨p, 1 + v1, none⟩ U) := Kept.setCell (hx.trans y7) ⟨p, 1 + v1, none⟩ _ (fun h => by have : p < w.heap.size := h; omega)
          have hc8 := hT8.cell (1 + v1) (by have := HV.out; omega)
          simp only [if_true] at hc8
          have hgv := (hL.far v (Nat.le_refl _)).2.1
          have hgvl := (hL.lv v (Nat.le_refl _)).lt
          have hLv8 := Blk.kept (hL.lv v (Nat.le_refl _)) hk8 hgv
          have hcv8 : (w7.setCell ⟨p, 1 + v1, none⟩ U).cell? ⟨p, 1 + v, none⟩ = some (.slice (some ⟨G v, 0, none⟩) N2 N2) := by
            rw [hT8.cell (1 + v) (by omega), if_neg (by have := HV.out; omega), hL.fl v (Nat.le_refl _), HN2.out]
          clear hc7 hf7 hT7 hB7 hcv hx7 y7
          generalize w7.setCell ⟨p, 1 + v1, none⟩ U = W8 at hT8 hB8 hk8 y8 hc8 hLv8 hcv8 ⊢
          subst hU
          have hpl8 := hT8.lt
          have hgl8 := hB8.lt
          have hbo := hx.size
          have hgs : wo.heap.size ≤ wo.heap.size := Nat.le_refl _
          have hbo' := hbo
          obtain ⟨g, hg⟩ : ∃ g, g = wo.heap.size := ⟨_, rfl⟩
          rw [← hg] at hT8 hB8 hc8 hgl8 hpr hgvl ⊢
          have HG := Lib.hid hg
          have hgb : w.heap.size ≤ g := by omega
          clear hg hgs hbo
          go_wp2_with fail
          go_loopw [89] (fun t89 wr => ∃ (k : Nat), k ≤ M ∧ t89 = .int .i64 k ∧ Blk wr g 30 (digs (part l M (v + 1) k)).toArray ∧ Kept (· = g) W8 wr) (fun t89 _ => M - (intOf t89).toNat)
          case atStart => exact ⟨0, by omega, rfl, by rw [part_zero]; exact hB8, Kept.refl _ _⟩
          case round =>
            obtain ⟨k3, hk3, rfl, hB9, hK9⟩ := hrel
            have hcr1 := (Kept.cell hK9 (p := ⟨p, 1 + v, none⟩) hpl8 (show ¬ p = g by omega)).trans hcv8
            have hcr2 := (Kept.cell hK9 (p := ⟨p, 1 + v1, none⟩) hpl8 (show ¬ p = g by omega)).trans hc8
            have hLr := Blk.kept hLv8 hK9 (by omega)
            have hplr : p < wr.heap.size := Nat.lt_of_lt_of_le hpl8 hK9.size
            by_cases hlt3 : k3 < M
            · have hlt3I : (k3 : Int) < M := by omega
              have HC1 := Lib.hid hcr1
              have HC2 := Lib.hid hcr2
              have HK3 := Lib.hid hlt3
              clear hcr1 hcr2
              go_wp2_with fail
              refine (join_any p (G v) g v v1 k3 N2 M N2 M (lev l H v) (part l M (v + 1) k3) wr HV.out (by omega) (by rw [lev_len]; exact HN2.out) (by rw [part_len]) (by have := HNM.out; omega) hlt3 hN24 (lev_okD l H v) HC1.out HC2.out hLr hB9 hplr).mono ?_
              rintro e w9 ⟨rfl, hB10, hK10⟩
              go_wp2_with fail
              go_roundw
              case rel =>
                refine ⟨k3 + 1, hlt3, by go_num, ?_, hK9.trans hK10⟩
                rw [← part_set]
                have e : nodeT l (v + 1) k3 = hTwo ((lev l H v).getD (2 * k3) Dg.zero) ((lev l H v).getD (2 * k3 + 1) Dg.zero) := by
                  have := HN2.out
                  have := HNM.out
                  rw [lev_getD l H v _ (by omega), lev_getD l H v _ (by omega)]
                  rfl
                rw [e]
                exact hB10
              case measure => simp only [intOf]; omega
            · have ek3 : k3 = M := by omega
              rw [ek3] at hB9
              clear ek3
              have hB11 : Blk wr g 30 (digs (lev l H (v + 1))).toArray := by
                have := part_all l H (v + 1)
                rw [← HM.out] at this
                rw [← this]; exact hB9
              have hgo := HG.out
              have hkk : Kept (· = p) wo wr := hk8.trans' hK9 (fun i hi e => by omega)
              have hTT : TreeB wr p _ := Blk.kept hT8 hK9 (by omega)
              rw [HV.out, HM.out] at hTT
              have hnext := hL.step hbo' (by omega) hkk hTT hB11
              have HNX := Lib.hid hnext
              have hxx : Ext w wr := y8.trans' hK9 (fun i hi e => by omega)
              clear hnext hTT hB11 hB9
              go_wp2_with fail
              go_roundw
              case rel => exact ⟨v1, by have := HV.out; omega, rfl, by rw [HV.out]; exact HNX.out, hxx⟩
              case measure => have := HV.out; simp only [intOf]; omega
        · obtain rfl : v = H := by omega
          have HL := Lib.hid hL
          clear hL
          go_wp2_with fail
          go_ret2
          exact ⟨p, rfl, ⟨cg, cc, f, G, by rw [← HN.out, ← HH.out]; exact HL.out⟩, hx⟩
end Go.Proofs.YtahljceanodhkaaGreatDoor

/- Package witness: codeTree, memoryTree, Code, State. -/
namespace Go.Proofs.YtahljceanodhkaaGreatDoor
open Go.RowKit
theorem troot_tree (base p : Nat) (l : List Dg) (w : World) (h1 : 1 ≤ l.length) (h2 : l.length ≤ 4096) (h : TreeOK w base p l) :
    Calls Tryz.prog 67 #[.pointer (some ⟨p, 0, none⟩)] w fun e w' => e = .returned (.agg (rootT l).cells) ∧ Ext w w' := by
  obtain ⟨cg, cc, f, G, h⟩ := h
  have hb := hgt_bd l.length h1 h2
  have hc := h.blk.cell 0 (by omega)
  rw [h.f0] at hc
  have hc1 := h.blk.cell (1 + hgt l.length) (by omega)
  rw [h.fl _ (Nat.le_refl _), Nat.sub_self, Nat.pow_zero] at hc1
  have hB := h.lv _ (Nat.le_refl _)
  rw [lev_top] at hB
  exact troot_ok p l.length cc (G _) 1 (hgt l.length) _ (nodeT l (hgt l.length) 0) w (nodeT_ok _ _ _) h1 h2 rfl h.blk.lt hc hc1 hB
set_option maxRecDepth 100000 in
set_option maxHeartbeats 1000000 in
theorem codetree_ok (A : Option Addr) (b off cap : Nat) (l : List Ins) (n : Nat) (hn : n = l.length) (h1 : 1 ≤ n) (h2 : n ≤ 2048) (hok : ∀ i ∈ l, i.ok) (hA : 0 < n → A = some ⟨b, off, none⟩) (w : World) (hr : 0 < n → Row w b off (inss l)) :
    Calls Tryz.prog 66 #[.slice A n cap] w fun e w' => IsTree w w' e (l.map ileaf) := by
  have HN := Lib.hid hn
  have HO := Lib.hid hok
  have hr := hr h1
  obtain rfl := hA h1
  have hbl := hr.lt
  clear hn hok hA
  obtain ⟨w0, hr0, ho0, hx0⟩ := makeE w n (by omega)
  go_enter Tryz.func66, Tryz.ntmps66
  go_upto_region 3 with (fail)
  go_step
  iterate 2 (refine wpList_step (fun K hK => ?_); go_simp; (try go_bits); refine hK _ _ ?_; clear hK K)
  refine wpList_make rfl _ _ 42 rfl rfl rfl hr0 ?_
  clear hr0
  go_wp2_with fail
  go_loopw [4, 20] (fun t4 t20 wr => ∃ (k : Nat), k ≤ n ∧ t20 = .int .i64 k ∧ wr.ownsRow w.heap.size 30 8 t4 k (digs ((l.take k).map ileaf)) ∧ Ext w wr) (fun _ t20 _ => n - (intOf t20).toNat)
  case atStart => exact ⟨0, Nat.zero_le _, rfl, ho0, hx0⟩
  case round =>
    obtain ⟨k, hk, rfl, ho, hx⟩ := hrel
    have hob : ∀ i, i < w.heap.size → (u4 : Value).ownBlock = some i → False := fun i hi e => by have := (ho.lt i e).1; omega
    have HOB := Lib.hid hob
    clear hob
    by_cases hlt : k < n
    · have hkl : k < l.length := by have := HN.out; omega
      obtain ⟨hrh, hrg⟩ := (hr.ext hx).ins k hkl
      have hbw := (hr.ext hx).lt
      go_upto_region 7 with (fail)
      have hx' := hx.alloc (.cells (l[k]).cells 41)
      have ho' := ho.alloc (.cells (l[k]).cells 41)
      go_step
      iterate 2 (refine wpList_step (fun K hK => ?_); go_simp; (try go_bits); refine hK _ _ ?_; clear hK K)
      refine wpList_step (fun K hK => ?_)
      go_wp2_with fail
      refine (ileaf_any l[k] (HO.out _ (List.getElem_mem hkl)) _).mono ?_
      rintro e w1 ⟨rfl, hx1⟩
      refine hK _ _ ?_
      clear hK K
      obtain ⟨v2, w2, hr2, ho2, hk2⟩ := appE (w1.alloc (.cells (ileaf l[k]).cells 30)) _ _ _ ((l.take k).map ileaf) ((own_ext ho' hx1).alloc _) w1.heap.size 0 1 1 [ileaf l[k]] rfl (by simpa [digs] using Row.of_blk (Blk.new w1 30 (ileaf l[k]).cells)) (by omega) (by have := (hx'.trans hx1).size; simp; omega)
      iterate 1 (refine wpList_step (fun K hK => ?_); go_simp; (try go_bits); refine hK _ _ ?_; clear hK K)
      refine wpList_app rfl (.tmp 24) (.tmp 27) 42 rfl rfl rfl rfl hr2 ?_
      clear hr2
      go_wp2_with fail
      go_roundw
      case rel => exact ⟨k + 1, hlt, by go_num, by rw [List.take_succ_eq_append_getElem hkl, List.map_append]; exact ho2, ((hx'.trans hx1).alloc _).trans' hk2 HOB.out⟩
      case measure => simp only [intOf]; omega
    · have e : k = n := by omega
      subst e
      rw [List.take_of_length_le (Nat.le_of_eq HN.out.symm)] at ho
      obtain ⟨g, c, rfl, hg, hrow, hc, hcm, hl⟩ := own_someE ho h1
      have HL := Lib.hid hl
      clear hl hc hcm
      go_wp2_with fail
      refine (tnew_ok g 0 c (l.map ileaf) _ HL.out h1 (by omega) (by simp; exact fun i _ => ileaf_ok i) _ hrow).mono ?_
      rintro e w1 ⟨p, rfl, ht, hx1⟩
      go_wp2_with fail
      go_ret2
      exact ⟨p, rfl, ht.low hx.size, hx.trans hx1⟩
set_option maxRecDepth 100000 in
set_option maxHeartbeats 1000000 in
theorem wcode_ok (A : Option Addr) (b off cap : Nat) (l : List Ins) (n : Nat) (hn : n = l.length) (h1 : 1 ≤ n) (h2 : n ≤ 2048) (hok : ∀ i ∈ l, i.ok) (hA : 0 < n → A = some ⟨b, off, none⟩) (w : World) (hr : 0 < n → Row w b off (inss l)) :
    Calls Tryz.prog 29 #[.slice A n cap] w fun e w' => e = .returned (.tuple #[.agg (codeR l).cells, .int .i64 0]) ∧ Ext w w' := by
  have HN := Lib.hid hn
  have HO := Lib.hid hok
  have HA := Lib.hid hA
  have HR := Lib.hid hr
  clear hn hok hA hr
  have hx0 : Ext w _ := (Kept.refl _ w).alloc (.cells Dg.zero.cells 30)
  have hR0 := Blk.new w 30 Dg.zero.cells
  go_enter Tryz.func29, Tryz.ntmps29
  go_wp2_with fail
  refine (codetree_ok A b off cap l n HN.out h1 h2 HO.out HA.out _ (fun h => (HR.out h).ext hx0)).mono ?_
  rintro e w1 ⟨p, rfl, ht, hx1⟩
  have hR1 := Blk.ext hR0 hx1
  go_wp2_with fail
  refine (troot_tree _ p (l.map ileaf) _ (by rw [List.length_map, ← HN.out]; exact h1) (by rw [List.length_map, ← HN.out]; omega) ht).mono ?_
  rintro e w2 ⟨rfl, hx2⟩
  have hR2 := Blk.ext hR1 hx2
  have hh2 := Blk.has hR2
  have hm2 := Blk.melts hR2
  go_wp2_with fail
  refine ret_ci Tryz.results29 rfl rfl aggDig (by exact sizeDig) (Blk.put_ hR2 _ _) ⟨rfl, ?_⟩
  exact Kept.putAt ((hx0.trans hx1).trans hx2) _ _ _ (fun h => by omega)
end Go.Proofs.YtahljceanodhkaaGreatDoor

/- Package witness: memoryTree, State. -/
namespace Go.Proofs.YtahljceanodhkaaGreatDoor
open Go.RowKit
set_option maxRecDepth 100000 in
set_option maxHeartbeats 1000000 in
theorem memtree_ok (pc halt : Int) (A : Option Addr) (b off cap : Nat) (l : List Int) (n : Nat) (hn : n = l.length) (hg : rightS pc halt n = true) (hA : 0 < n → A = some ⟨b, off, none⟩) (w : World) (hr : 0 < n → Row w b off (mems l)) :
    Calls Tryz.prog 70 #[.agg (stCells pc A n cap halt)] w fun e w' => IsTree w w' e (l.map leafW) := by
  obtain ⟨h1, h2, h3, h4, h5, h6⟩ := rightS_inv hg
  have HG := Lib.hid hg
  have HN := Lib.hid hn
  have HA := Lib.hid hA
  have HR := Lib.hid hr
  clear hn hA hr hg
  have hx0 : Ext w _ := (Kept.refl _ w).alloc (.cells (stCells pc A n cap halt) 70)
  have hA0 : Blk _ w.heap.size 70 (stCells pc A n cap halt) := Blk.new w _ _
  go_enter Tryz.func70, Tryz.ntmps70
  go_wp2_with fail
  refine (right_any pc halt A n cap _).mono ?_
  rintro e w1 ⟨rfl, hx1⟩
  rw [HG.out]
  have hA1 := Blk.ext hA0 hx1
  have hc1 := Blk.cell hA1
  have y1 := hx0.trans hx1
  go_wp2_with fail
  refine (wordLeaves_ok A b off cap l n HN.out (by omega) HA.out _ (fun h => (HR.out h).ext y1)).mono ?_
  rintro e w2 ⟨v, rfl, ho, hx2⟩
  obtain ⟨g, c, rfl, hg, hrow, hc, hcm, hl⟩ := own_someE ho h1
  have HL := Lib.hid hl
  clear hl hc hcm hc1
  go_wp2_with fail
  refine (tnew_ok g 0 c (l.map leafW) n HL.out h1 (by omega) (by simp; exact fun i _ => leafW_ok i) _ hrow).mono ?_
  rintro e w3 ⟨p, rfl, ht, hx3⟩
  go_wp2_with fail
  go_ret2
  exact ⟨p, rfl, ht.low (y1.trans hx2).size, (y1.trans hx2).trans hx3⟩
set_option maxRecDepth 100000 in
set_option maxHeartbeats 1000000 in
theorem wstate_ok (pc halt : Int) (A : Option Addr) (b off cap : Nat) (l : List Int) (n : Nat) (hn : n = l.length) (hg : rightS pc halt n = true) (hA : 0 < n → A = some ⟨b, off, none⟩) (w : World) (hr : 0 < n → Row w b off (mems l)) :
    Calls Tryz.prog 32 #[.agg (stCells pc A n cap halt)] w fun e w' => e = .returned (.tuple #[.agg (stateR pc halt l).cells, .int .i64 0]) ∧ Ext w w' := by
  obtain ⟨h1, h2, h3, h4, h5, h6⟩ := rightS_inv hg
  have HG := Lib.hid hg
  have HN := Lib.hid hn
  have HA := Lib.hid hA
  have HR := Lib.hid hr
  clear hn hA hr hg
  obtain ⟨D, hD⟩ : ∃ D, D = stateR pc halt l := ⟨_, rfl⟩
  rw [← hD]
  have HD := Lib.hid hD
  clear hD
  obtain ⟨M, hM⟩ : ∃ M, M = memR l := ⟨_, rfl⟩
  have HM := Lib.hid hM
  clear hM
  have hx0 : Ext w _ := ((Kept.refl _ w).alloc (.cells (stCells pc A n cap halt) 70)).alloc (.cells Dg.zero.cells 30)
  have hA0 : Blk _ w.heap.size 70 (stCells pc A n cap halt) := Blk.alloc (Blk.new w _ _) (.cells Dg.zero.cells 30)
  have hR0 : Blk _ (w.heap.size + 1) 30 Dg.zero.cells := Blk.new' (w.alloc (.cells (stCells pc A n cap halt) 70)) _ _ _ (by simp)
  go_enter Tryz.func32, Tryz.ntmps32
  go_wp2_with fail
  refine (memtree_ok pc halt A b off cap l n HN.out HG.out HA.out _ (fun h => (HR.out h).ext hx0)).mono ?_
  rintro e w1 ⟨p, rfl, ht, hx1⟩
  have hA1 := Blk.ext hA0 hx1
  have hc1 := Blk.cell hA1
  have hR1 := Blk.ext hR0 hx1
  have hl1 := Blk.lt hR1
  have hla := Blk.lt hA1
  go_wp2_with fail
  refine wp_region_3 (fun w2 => Ext w1 w2) [(0, 2), (1, 1), (2, 2), (3, 1), (4, 2), (5, 1), (6, 2), (7, 2), (8, 0), (9, 0), (10, 0), (11, 2)] (by kernel_rfl) (by kernel_rfl) (by kernel_rfl) (by kernel_rfl) ?_; intro l' hl'; simp only [List.map_cons, List.map_nil, List.getD_cons_zero, List.getD_cons_succ] at hl'; subst hl'
  (repeat (first | ((apply w3_pure); (· go_simp); (· (intro w1; go_simp; try with_reducible rfl)); (intro K hK; go_simp; refine hK _ _ ?_; clear hK K)) | ((apply w3_skip); (· go_simp); (intro K hK; go_simp; refine hK _ _ ?_; clear hK K)) | ((apply w3_take); (· exact (Kept.drew (Kept.refl _ _))); (· go_simp); (· (intro w1 hS; have d1 := Blk.cell (Blk.ext hA1 hS);  go_simp; try with_reducible rfl)); (intro K hK; go_simp; refine hK _ _ ?_; clear hK K)) | ((apply w3_pass); (· exact (Kept.drew (Kept.refl _ _))); (· go_simp); (intro K hK; go_simp; refine hK _ _ ?_; clear hK K))))
  (refine w3_act (fun K hK => ?_); go_simp)
  go_wp2_with fail
  refine (troot_tree _ p (l.map leafW) _ (by rw [List.length_map, ← HN.out]; exact h1) (by rw [List.length_map, ← HN.out]; omega) (ht.ext ((Kept.refl _ w1).drew))).mono ?_
  rintro e w2 ⟨e2, hx2⟩
  replace e2 : e = .returned (.agg M.cells) := by rw [e2, HM.out]; rfl
  subst e2
  have y2 : Ext w1 w2 := ((Kept.refl _ w1).drew).trans hx2
  refine hK.out _ _ (fun _ => y2) ?_
  clear hK K
  (refine w3_act (fun K hK => ?_); go_simp)
  go_wp2_with fail
  refine (head_any pc halt n M (by rw [HM.out]; exact hWord_ok _ _) (by omega) (by omega) (by omega) _).mono ?_
  rintro e w3 ⟨e3, hx3⟩
  replace e3 : e = .returned (.agg D.cells) := by rw [e3, HD.out, HM.out, stateR, ← HN.out]
  subst e3
  have y3 := y2.trans hx3
  refine hK.out _ _ (fun _ => y3) ?_
  clear hK K
  have hR3 := Blk.ext hR1 y3
  have hh3 := Blk.has hR3
  have hm3 := Blk.melts hR3
  (repeat (first | ((apply w3_pure); (· go_simp); (· (intro w1; go_simp; try with_reducible rfl)); (intro K hK; go_simp; refine hK _ _ ?_; clear hK K)) | ((apply w3_skip); (· go_simp); (intro K hK; go_simp; refine hK _ _ ?_; clear hK K)) | (refine w3_end (by kernel_rfl) (fun K hK => ?_); go_simp; refine hK.out _ _ ?_; clear hK K))); refine w3_nil ?_
  go_wp2_with fail
  refine ret_ci Tryz.results32 rfl rfl aggDig (by exact sizeDig) (Blk.put_ hR3 _ _) ⟨rfl, ?_⟩
  exact Kept.putAt ((hx0.trans hx1).trans y3) _ _ _ (fun h => by omega)
end Go.Proofs.YtahljceanodhkaaGreatDoor

/- Package witness: a step as a value; right, bare, same; After and Check of a state that does not go on. -/
namespace Go.Proofs.YtahljceanodhkaaGreatDoor
open Go.RowKit
theorem ret_bool {a b : Bool} (h : a = b) : Ending.returned (.bool a) = .returned (.bool b) := by rw [h]
structure Ws where (pc halt words : Int) (mem : Dg) (ins : Ins) (pa : Option Addr) (pn pk : Nat) (ra : Option Addr) (rn rk : Nat) (wa : Option Addr) (wn wk : Nat)
abbrev Ws.cells (s : Ws) : Array Value := #[.int .i64 s.pc, .int .i64 s.halt, .int .i64 s.words, .int .u8 s.mem.x0, .int .u8 s.mem.x1, .int .u8 s.mem.x2, .int .u8 s.mem.x3, .int .u8 s.mem.x4, .int .u8 s.mem.x5, .int .u8 s.mem.x6, .int .u8 s.mem.x7, .int .i64 s.ins.op, .int .i64 s.ins.a, .int .i64 s.ins.b, .int .i64 s.ins.c, .slice s.pa s.pn s.pk, .slice s.ra s.rn s.rk, .slice s.wa s.wn s.wk]
attribute [go_sem] Ws.cells
set_option maxRecDepth 100000 in
set_option maxHeartbeats 1000000 in
theorem sright_any (s : Ws) (w : World) :
    Calls Tryz.prog 78 #[.agg s.cells] w fun e w' => e = .returned (.bool (rightS s.pc s.halt s.words)) ∧ Ext w w' := by
  have hx0 : Ext w _ := (Kept.refl _ w).alloc (.cells s.cells 45)
  go_enter Tryz.func78, Tryz.ntmps78
  go_wp2_with fail
  all_goals go_ret
  all_goals refine ⟨ret_bool ?_, hx0⟩
  all_goals (rw [Bool.eq_iff_iff]; simp [rightS]; omega)
def Ws.bare (s : Ws) : Bool := decide (s.rn = 0) && decide (s.wn = 0)
set_option maxRecDepth 100000 in
set_option maxHeartbeats 1000000 in
theorem sbare_any (s : Ws) (w : World) :
    Calls Tryz.prog 79 #[.agg s.cells] w fun e w' => e = .returned (.bool s.bare) ∧ Ext w w' := by
  have hx0 : Ext w _ := (Kept.refl _ w).alloc (.cells s.cells 45)
  rcases Nat.eq_zero_or_pos s.rn with h1 | h1
  · have b1 : (s.rn == 0) = true := by simp [h1]
    have b1' : ((s.rn : Int) == 0) = true := by simp [h1]
    have H1 := Lib.hid h1
    clear h1
    rcases Nat.eq_zero_or_pos s.wn with h2 | h2
    · have b2 : (s.wn == 0) = true := by simp [h2]
      have b2' : ((s.wn : Int) == 0) = true := by simp [h2]
      have H2 := Lib.hid h2
      clear h2
      go_enter Tryz.func79, Tryz.ntmps79
      go_wp2_with fail
      go_ret
      exact ⟨by simp [Ws.bare, H1.out, H2.out], hx0⟩
    · have b2 : (s.wn == 0) = false := by simp; omega
      have b2' : ((s.wn : Int) == 0) = false := by simp; omega
      have H2 := Lib.hid h2
      clear h2
      go_enter Tryz.func79, Tryz.ntmps79
      go_wp2_with fail
      go_ret
      exact ⟨by have := H2.out; simp [Ws.bare, H1.out]; omega, hx0⟩
  · have b1 : (s.rn == 0) = false := by simp; omega
    have b1' : ((s.rn : Int) == 0) = false := by simp; omega
    have H1 := Lib.hid h1
    clear h1
    go_enter Tryz.func79, Tryz.ntmps79
    go_wp2_with fail
    go_ret
    exact ⟨by have := H1.out; simp [Ws.bare]; omega, hx0⟩
def Ws.same (s : Ws) : Dg := hHead s.pc (if s.halt = 0 then 2 else s.halt) s.words s.mem
set_option maxRecDepth 100000 in
set_option maxHeartbeats 1000000 in
theorem ssame_any (s : Ws) (hm : s.mem.ok) (hr : rightS s.pc s.halt s.words = true) (w : World) :
    Calls Tryz.prog 80 #[.agg s.cells] w fun e w' => e = .returned (.agg s.same.cells) ∧ Ext w w' := by
  obtain ⟨h1, h2, h3, h4, h5, h6⟩ : 1 ≤ s.words ∧ s.words ≤ 256 ∧ 0 ≤ s.pc ∧ s.pc ≤ 2048 ∧ 0 ≤ s.halt ∧ s.halt ≤ 2 := by
    simp [rightS] at hr
    omega
  clear hr
  have HM := Lib.hid hm
  clear hm
  have hx0 : Ext w _ := ((Kept.refl _ w).alloc (.cells s.cells 45)).alloc (.cells Dg.zero.cells 30)
  have hA0 : Blk _ w.heap.size 45 s.cells := Blk.alloc (Blk.new w _ _) (.cells Dg.zero.cells 30)
  have hR0 : Blk _ (w.heap.size + 1) 30 Dg.zero.cells := Blk.new' (w.alloc (.cells s.cells 45)) _ _ _ (by simp)
  obtain ⟨D, hD⟩ : ∃ D, D = s.same := ⟨_, rfl⟩
  rw [← hD]
  have HD := Lib.hid hD
  clear hD
  by_cases h0 : s.halt = 0
  · have hb0 : (s.halt == 0) = true := by simp [h0]
    have H0 := Lib.hid h0
    clear h0
    go_enter Tryz.func80, Tryz.ntmps80
    go_wp2_with fail
    refine (head_any s.pc 2 s.words s.mem HM.out (by omega) (by omega) (by omega) _).mono ?_
    rintro e w1 ⟨e1, hx1⟩
    replace e1 : e = .returned (.agg D.cells) := by rw [e1, HD.out]; simp [Ws.same, H0.out]
    subst e1
    have hR1 := Blk.ext hR0 hx1
    have hh1 := Blk.has hR1
    have hm1 := Blk.melts hR1
    go_wp2_with fail
    refine ret_cell Tryz.results80 rfl rfl aggDig (by exact sizeDig) (Blk.put_ hR1 _ _) ⟨rfl, ?_⟩
    exact Kept.putAt (hx0.trans hx1) _ _ _ (fun h => by omega)
  · have hb0 : (s.halt == 0) = false := by simp [h0]
    have H0 := Lib.hid h0
    clear h0
    go_enter Tryz.func80, Tryz.ntmps80
    go_wp2_with fail
    refine (head_any s.pc s.halt s.words s.mem HM.out (by omega) (by omega) (by omega) _).mono ?_
    rintro e w1 ⟨e1, hx1⟩
    replace e1 : e = .returned (.agg D.cells) := by rw [e1, HD.out]; simp [Ws.same, H0.out]
    subst e1
    have hR1 := Blk.ext hR0 hx1
    have hh1 := Blk.has hR1
    have hm1 := Blk.melts hR1
    go_wp2_with fail
    refine ret_cell Tryz.results80 rfl rfl aggDig (by exact sizeDig) (Blk.put_ hR1 _ _) ⟨rfl, ?_⟩
    exact Kept.putAt (hx0.trans hx1) _ _ _ (fun h => by omega)
def Ws.stays (s : Ws) (size : Int) : Prop := ¬ s.halt = 0 ∨ size ≤ s.pc
theorem Ws.stays.split {s : Ws} {size : Int} (h : s.stays size) : (s.halt != 0) = true ∨ ((s.halt != 0) = false ∧ size ≤ s.pc) := by
  unfold Ws.stays at h
  by_cases e : s.halt = 0
  · exact .inr ⟨by simp [e], h.resolve_left (fun f => f e)⟩
  · exact .inl (by simp [e])
set_option maxRecDepth 100000 in
set_option maxHeartbeats 2000000 in
theorem after_stays (s : Ws) (p : Dg) (size : Int) (w : World) (hm : s.mem.ok) (hs1 : 1 ≤ size) (hs2 : size ≤ 2048) (hr : rightS s.pc s.halt s.words = true) (hst : s.stays size) (hi : s.ins = ⟨0, 0, 0, 0⟩) (hp : s.pn = 0) (hb : s.bare = true) :
    Calls Tryz.prog 37 #[.agg #[.int .u8 p.x0, .int .u8 p.x1, .int .u8 p.x2, .int .u8 p.x3, .int .u8 p.x4, .int .u8 p.x5, .int .u8 p.x6, .int .u8 p.x7], .int .i64 size, .agg (hHead s.pc s.halt s.words s.mem).cells, .agg s.cells] w fun e w' => e = .returned (.tuple #[.agg s.same.cells, .int .i64 0]) ∧ Ext w w' := by
  obtain ⟨h1, h2, h3, h4, h5, h6⟩ : 1 ≤ s.words ∧ s.words ≤ 256 ∧ 0 ≤ s.pc ∧ s.pc ≤ 2048 ∧ 0 ≤ s.halt ∧ s.halt ≤ 2 := by
    simp [rightS] at hr
    omega
  have HM := Lib.hid hm
  have HR := Lib.hid hr
  have HB := Lib.hid hb
  have HI := Lib.hid hi
  have hp0 : ¬ (0 : Int) < s.pn := by omega
  have hp1 : ¬ 0 < s.pn := by omega
  have hP := Lib.hid hp
  have HST := Lib.hid hst.split
  clear hm hr hb hi hp hst
  obtain ⟨B, hB⟩ : ∃ B, B = hHead s.pc s.halt s.words s.mem := ⟨_, rfl⟩
  rw [← hB]
  have HBf := Lib.hid hB
  clear hB
  have hx0 : Ext w _ := ((((Kept.refl _ w).alloc (.cells #[.int .u8 p.x0, .int .u8 p.x1, .int .u8 p.x2, .int .u8 p.x3, .int .u8 p.x4, .int .u8 p.x5, .int .u8 p.x6, .int .u8 p.x7] 30)).alloc (.cells B.cells 30)).alloc (.cells s.cells 45)).alloc (.cells Dg.zero.cells 30)
  have hB0 : Blk _ (w.heap.size + 1) 30 B.cells := Blk.alloc (Blk.alloc (Blk.new' (w.alloc (.cells #[.int .u8 p.x0, .int .u8 p.x1, .int .u8 p.x2, .int .u8 p.x3, .int .u8 p.x4, .int .u8 p.x5, .int .u8 p.x6, .int .u8 p.x7] 30)) _ B.cells _ (by simp)) (.cells s.cells 45)) (.cells Dg.zero.cells 30)
  have hS0 : Blk _ (w.heap.size + 1 + 1) 45 s.cells := Blk.alloc (Blk.new' ((w.alloc (.cells #[.int .u8 p.x0, .int .u8 p.x1, .int .u8 p.x2, .int .u8 p.x3, .int .u8 p.x4, .int .u8 p.x5, .int .u8 p.x6, .int .u8 p.x7] 30)).alloc (.cells B.cells 30)) _ s.cells _ (by simp)) (.cells Dg.zero.cells 30)
  have hR0 : Blk _ (w.heap.size + 1 + 1 + 1) 30 Dg.zero.cells := Blk.new' (((w.alloc (.cells #[.int .u8 p.x0, .int .u8 p.x1, .int .u8 p.x2, .int .u8 p.x3, .int .u8 p.x4, .int .u8 p.x5, .int .u8 p.x6, .int .u8 p.x7] 30)).alloc (.cells B.cells 30)).alloc (.cells s.cells 45)) _ _ _ (by simp)
  go_enter Tryz.func37, Tryz.ntmps37
  go_wp2_with fail
  refine (sright_any s _).mono ?_
  rintro e w1 ⟨rfl, hx1⟩
  rw [HR.out]
  have y1 := hx0.trans hx1
  have hB1 := Blk.ext hB0 hx1
  have hS1 := Blk.ext hS0 hx1
  have hR1 := Blk.ext hR0 hx1
  clear hx0 hx1 hB0 hS0 hR0
  have hlS := Blk.lt hS1
  have hlR := Blk.lt hR1
  go_wp2_with fail
  refine wp_region_3 (fun w2 => Ext w1 w2) [(0, 2), (1, 1), (2, 2), (3, 1), (4, 2), (5, 1), (6, 2), (7, 1), (9, 1), (8, 0), (10, 2)] (by kernel_rfl) (by kernel_rfl) (by kernel_rfl) (by kernel_rfl) ?_; intro l' hl'; simp only [List.map_cons, List.map_nil, List.getD_cons_zero, List.getD_cons_succ] at hl'; subst hl'
  (repeat (first | ((apply w3_pure); (· go_simp); (· (intro w1; go_simp; try with_reducible rfl)); (intro K hK; go_simp; refine hK _ _ ?_; clear hK K)) | ((apply w3_skip); (· go_simp); (intro K hK; go_simp; refine hK _ _ ?_; clear hK K)) | ((apply w3_take); (· exact (Kept.drew (Kept.refl _ _))); (· go_simp); (· (intro w1 hS; have d1 := Blk.ext hS1 hS; have d2 := Blk.ext hB1 hS; have d3 := Blk.cell d1; have d4 := Blk.has d1; have d5 := Blk.gets d1; have d6 := Blk.has d2; have d7 := Blk.gets d2;  go_simp; try with_reducible rfl)); (intro K hK; go_simp; refine hK _ _ ?_; clear hK K)) | ((apply w3_pass); (· exact (Kept.drew (Kept.refl _ _))); (· go_simp); (intro K hK; go_simp; refine hK _ _ ?_; clear hK K))))
  (refine w3_act (fun K hK => ?_); go_simp)
  go_wp2_with fail
  refine (head_any s.pc s.halt s.words s.mem HM.out (by omega) (by omega) (by omega) _).mono ?_
  rintro e w2 ⟨e2, hx2⟩
  replace e2 : e = .returned (.agg B.cells) := by rw [e2, HBf.out]
  subst e2
  have y2 : Ext w1 w2 := ((Kept.refl _ w1).drew).trans hx2
  refine hK.out _ _ (fun _ => y2) ?_
  clear hK K
  (repeat (first | ((apply w3_pure); (· go_simp); (· (intro w1; go_simp; try with_reducible rfl)); (intro K hK; go_simp; refine hK _ _ ?_; clear hK K)) | ((apply w3_skip); (· go_simp); (intro K hK; go_simp; refine hK _ _ ?_; clear hK K)) | (refine w3_end (by kernel_rfl) (fun K hK => ?_); go_simp; refine hK.out _ _ ?_; clear hK K))); refine w3_nil ?_
  have hS2 := Blk.ext hS1 y2
  have hR2 := Blk.ext hR1 y2
  have hc2 := Blk.cell hS2
  have hh2 := Blk.has hS2
  have hg2 := Blk.gets hS2
  have hI1 : (s.ins.op == 0) = true := by rw [HI.out]; rfl
  have hI2 : (s.ins.a == 0) = true := by rw [HI.out]; rfl
  have hI3 : (s.ins.b == 0) = true := by rw [HI.out]; rfl
  have hI4 : (s.ins.c == 0) = true := by rw [HI.out]; rfl
  rcases HST.out with hst | ⟨hst, hsz⟩
  all_goals
    go_wp2_with fail
    refine (sbare_any s _).mono ?_
    rintro e w3 ⟨rfl, hx3⟩
    rw [HB.out]
    have hS3 := Blk.ext hS2 hx3
    have hR3 := Blk.ext hR2 hx3
    have hh3 := Blk.has hS3
    have hg3 := Blk.gets hS3
    go_wp2_with fail
    refine (ssame_any s HM.out HR.out _).mono ?_
    rintro e w4 ⟨rfl, hx4⟩
    have hR4 := Blk.ext hR3 hx4
    have hh4 := Blk.has hR4
    have hm4 := Blk.melts hR4
    go_wp2_with fail
    refine ret_ci Tryz.results37 rfl rfl aggDig (by exact sizeDig) (Blk.put_ hR4 _ _) ⟨rfl, ?_⟩
    exact Kept.putAt (((y1.trans y2).trans hx3).trans hx4) _ _ _ (fun h => by omega)
end Go.Proofs.YtahljceanodhkaaGreatDoor

/- Package witness: After of a step that shows too much; Check, Make of a state that does not go on. -/
namespace Go.Proofs.YtahljceanodhkaaGreatDoor
open Go.RowKit
set_option maxRecDepth 100000 in
set_option maxHeartbeats 1000000 in
theorem check_stays (s : Ws) (p : Dg) (size : Int) (w : World) (hm : s.mem.ok) (hs1 : 1 ≤ size) (hs2 : size ≤ 2048) (hr : rightS s.pc s.halt s.words = true) (hst : s.stays size) (hi : s.ins = ⟨0, 0, 0, 0⟩) (hp : s.pn = 0) (hb : s.bare = true) :
    Calls Tryz.prog 42 #[.agg #[.int .u8 p.x0, .int .u8 p.x1, .int .u8 p.x2, .int .u8 p.x3, .int .u8 p.x4, .int .u8 p.x5, .int .u8 p.x6, .int .u8 p.x7], .int .i64 size, .agg (hHead s.pc s.halt s.words s.mem).cells, .agg s.same.cells, .agg s.cells] w fun e w' => e = .returned (.int .i64 0) ∧ Ext w w' := by
  have HA := fun w => Lib.hid (after_stays s p size w hm hs1 hs2 hr hst hi hp hb)
  clear hm hr hst hi hp hb
  obtain ⟨B, hB⟩ : ∃ B, B = hHead s.pc s.halt s.words s.mem := ⟨_, rfl⟩
  obtain ⟨Z, hZ⟩ : ∃ Z, Z = s.same := ⟨_, rfl⟩
  rw [← hB] at HA ⊢
  rw [← hZ] at HA ⊢
  clear hB hZ
  have hx0 : Ext w _ := ((((Kept.refl _ w).alloc (.cells #[.int .u8 p.x0, .int .u8 p.x1, .int .u8 p.x2, .int .u8 p.x3, .int .u8 p.x4, .int .u8 p.x5, .int .u8 p.x6, .int .u8 p.x7] 30)).alloc (.cells B.cells 30)).alloc (.cells Z.cells 30)).alloc (.cells s.cells 45)
  have hZ0 : Blk _ (w.heap.size + 1 + 1) 30 Z.cells := Blk.alloc (Blk.new' ((w.alloc (.cells #[.int .u8 p.x0, .int .u8 p.x1, .int .u8 p.x2, .int .u8 p.x3, .int .u8 p.x4, .int .u8 p.x5, .int .u8 p.x6, .int .u8 p.x7] 30)).alloc (.cells B.cells 30)) _ Z.cells _ (by simp)) (.cells s.cells 45)
  go_enter Tryz.func42, Tryz.ntmps42
  go_wp2_with fail
  refine ((HA _).out).mono ?_
  rintro e w1 ⟨rfl, hx1⟩
  have hZ1 := Blk.ext hZ0 hx1
  have hh1 := Blk.has hZ1
  have hg1 := Blk.gets hZ1
  have hl1 := Blk.lt hZ1
  go_wp2_with fail
  go_ret
  exact ⟨rfl, (hx0.trans hx1).alloc _⟩
abbrev zeroW : Array Value := #[.int .i64 0, .int .i64 0, .int .i64 0, .int .u8 0, .int .u8 0, .int .u8 0, .int .u8 0, .int .u8 0, .int .u8 0, .int .u8 0, .int .u8 0, .int .i64 0, .int .i64 0, .int .i64 0, .int .i64 0, .slice none 0 0, .slice none 0 0, .slice none 0 0]
attribute [go_sem] zeroW
abbrev bareC (pc halt : Int) (k : Nat) (M : Dg) : Array Value := #[.int .i64 pc, .int .i64 halt, .int .i64 k, .int .u8 M.x0, .int .u8 M.x1, .int .u8 M.x2, .int .u8 M.x3, .int .u8 M.x4, .int .u8 M.x5, .int .u8 M.x6, .int .u8 M.x7, .int .i64 0, .int .i64 0, .int .i64 0, .int .i64 0, .slice none 0 0, .slice none 0 0, .slice none 0 0]
attribute [go_sem] bareC
/-- what is made of a state that does not go on -/
def bareStep (pc halt : Int) (l : List Int) : Ws := ⟨pc, halt, l.length, memR l, ⟨0, 0, 0, 0⟩, none, 0, 0, none, 0, 0, none, 0, 0⟩
set_option maxRecDepth 100000 in
set_option maxHeartbeats 2000000 in
theorem make_stays (A : Option Addr) (b off cap : Nat) (l : List Ins) (n : Nat) (hn : n = l.length) (h1 : 1 ≤ n) (h2 : n ≤ 2048) (hok : ∀ i ∈ l, i.ok) (hA : 0 < n → A = some ⟨b, off, none⟩)
    (pc halt : Int) (A' : Option Addr) (b' off' cap' : Nat) (m : List Int) (k : Nat) (hk : k = m.length) (hg : rightS pc halt k = true) (hA' : 0 < k → A' = some ⟨b', off', none⟩) (hst : ¬ halt = 0 ∨ (n : Int) ≤ pc) (w : World) (hr : 0 < n → Row w b off (inss l)) (hr' : 0 < k → Row w b' off' (mems m)) :
    Calls Tryz.prog 36 #[.slice A n cap, .agg (stCells pc A' k cap' halt)] w fun e w' => e = .returned (.tuple #[.agg (bareStep pc halt m).cells, .int .i64 0]) ∧ Ext w w' := by
  obtain ⟨k1, k2, h3, h4, h5, h6⟩ := rightS_inv hg
  have HG := Lib.hid hg
  have HN := Lib.hid hn
  have HO := Lib.hid hok
  have HA := Lib.hid hA
  have HR := Lib.hid hr
  have HKn := Lib.hid hk
  have HA' := Lib.hid hA'
  have HR' := Lib.hid hr'
  have HST : Hid ((halt != 0) = true ∨ ((halt != 0) = false ∧ (n : Int) ≤ pc)) := Lib.hid (by
    by_cases e : halt = 0
    · exact .inr ⟨by simp [e], hst.resolve_left (fun f => f e)⟩
    · exact .inl (by simp [e]))
  clear hn hA hr hg hok hk hA' hr' hst
  obtain ⟨M, hM⟩ : ∃ M, M = memR m := ⟨_, rfl⟩
  have HM := Lib.hid hM
  clear hM
  have hx0 : Ext w _ := ((Kept.refl _ w).alloc (.cells (stCells pc A' k cap' halt) 70)).alloc (.cells zeroW 45)
  have hA0 : Blk _ w.heap.size 70 (stCells pc A' k cap' halt) := Blk.alloc (Blk.new w _ _) (.cells zeroW 45)
  have hR0 : Blk _ (w.heap.size + 1) 45 zeroW := Blk.new' (w.alloc (.cells (stCells pc A' k cap' halt) 70)) _ _ _ (by simp)
  go_enter Tryz.func36, Tryz.ntmps36
  go_wp2_with fail
  refine (codetree_ok A b off cap l n HN.out h1 h2 HO.out HA.out _ (fun h => (HR.out h).ext hx0)).mono ?_
  rintro e w1 ⟨p, rfl, ht, hx1⟩
  have hA1 := Blk.ext hA0 hx1
  have hR1 := Blk.ext hR0 hx1
  have hc1 := Blk.cell hA1
  have y1 := hx0.trans hx1
  clear hx0 hx1 hA0 hR0
  go_wp2_with fail
  refine (memtree_ok pc halt A' b' off' cap' m k HKn.out HG.out HA'.out _ (fun h => (HR'.out h).ext y1)).mono ?_
  rintro e w2 ⟨q, rfl, hq, hx2⟩
  have hA2 := Blk.ext hA1 hx2
  have hR2 := Blk.ext hR1 hx2
  have y2 := y1.trans hx2
  have hP2 := Blk.new w2 126 #[.pointer (some ⟨q, 0, none⟩)]
  have hx3 := (Kept.refl (fun _ => False) w2).alloc (.cells #[.pointer (some ⟨q, 0, none⟩)] 126)
  have hA3 := Blk.ext hA2 hx3
  have hR3 := Blk.ext hR2 hx3
  have hq3 := hq.ext hx3
  have y3 := y2.trans hx3
  clear hc1
  go_wp2_with fail
  generalize (w2.alloc (.cells #[.pointer (some ⟨q, 0, none⟩)] 126)) = W at hP2 hA3 hR3 hq3 y3 ⊢
  have hlA := Blk.lt hA3
  have hlR := Blk.lt hR3
  have hlP := Blk.lt hP2
  generalize w2.heap.size = h2s at hP2 hlP ⊢
  clear hA2 hR2 hA1 hR1 hx3 hq ht y1 y2 hx2
  refine wp_region_4 (fun w2 => Ext W w2) (.op 0 2 (.op 1 1 (.op 2 2 (.op 3 1 (.op 4 2 (.op 5 1 (.op 6 2 (.op 7 1 (.fork 8 (.op 9 2 (.op 10 0 (.op 11 0 .nil))) 10 (.op 8 0 (.op 9 2 (.op 11 0 .nil)))))))))))) (by kernel_rfl) (by kernel_rfl) (by kernel_rfl) (by kernel_rfl) ?_; intro p' hp'; simp only [Pl0.fill, List.getD_cons_zero, List.getD_cons_succ] at hp'; subst hp'
  (repeat (first | ((apply w4_pure); (· go_simp); (· (intro w1; go_simp; try with_reducible rfl)); (intro K hK; go_simp; refine hK _ _ ?_; clear hK K)) | ((apply w4_skip); (· go_simp); (intro K hK; go_simp; refine hK _ _ ?_; clear hK K)) | ((apply w4_take); (· exact (Kept.drew (Kept.refl _ _))); (· go_simp); (· (intro w1 hS; have d1 := Blk.cell (Blk.ext hA3 hS); have d2 := Blk.cell (Blk.ext hP2 hS);  go_simp; try with_reducible rfl)); (intro K hK; go_simp; refine hK _ _ ?_; clear hK K)) | ((apply w4_pass); (· exact (Kept.drew (Kept.refl _ _))); (· go_simp); (intro K hK; go_simp; refine hK _ _ ?_; clear hK K))))
  have y : Ext W W.drew := (Kept.refl _ W).drew
  refine w4_fork ?_ ?_
  · (refine w4_act (fun K hK => ?_); go_simp)
    go_wp2_with fail
    refine (troot_tree _ q (m.map leafW) _ (by rw [List.length_map, ← HKn.out]; exact k1) (by rw [List.length_map, ← HKn.out]; omega) (hq3.ext y)).mono ?_
    rintro e w4 ⟨e4, hx4⟩
    replace e4 : e = .returned (.agg M.cells) := by rw [e4, HM.out]; rfl
    subst e4
    have y4 : Ext W w4 := y.trans hx4
    refine hK.out _ _ (fun _ => y4) ?_
    clear hK K
    (repeat (first | ((apply w4_pure); (· go_simp); (· (intro w1; go_simp; try with_reducible rfl)); (intro K hK; go_simp; refine hK _ _ ?_; clear hK K)) | ((apply w4_skip); (· go_simp); (intro K hK; go_simp; refine hK _ _ ?_; clear hK K))))
    (refine w4_act (fun K hK => ?_); go_simp)
    refine hK.out _ _ (fun _ => y4.alloc _) ?_
    clear hK K
    (repeat (first | ((apply w4_pure); (· go_simp); (· (intro w1; go_simp; try with_reducible rfl)); (intro K hK; go_simp; refine hK _ _ ?_; clear hK K)) | ((apply w4_skip); (· go_simp); (intro K hK; go_simp; refine hK _ _ ?_; clear hK K)) | (refine w4_end (by kernel_rfl) (fun K hK => ?_); go_simp; refine hK.out _ _ ?_; clear hK K))); refine w4_nil ?_
    have hA5 := Blk.ext hA3 (y4.alloc (.cells (bareC pc halt k M) 45))
    have hR5 := Blk.ext hR3 (y4.alloc (.cells (bareC pc halt k M) 45))
    have y5 := y3.trans (y4.alloc (.cells (bareC pc halt k M) 45))
    have hN5 := Blk.new w4 45 (bareC pc halt k M)
    have hl5 := Blk.lt hN5
    generalize (w4.alloc (.cells (bareC pc halt k M) 45)) = W5 at hA5 hR5 y5 hN5 hl5 ⊢
    generalize w4.heap.size = c9 at hN5 hl5 ⊢
    have hc5 := Blk.cell hA5
    have hh5 := Blk.has hR5
    have hm5 := Blk.melts hR5
    have hh6 := Blk.has hN5
    have hg6 := Blk.gets hN5
    rcases HST.out with hst | ⟨hst, hsz⟩
    all_goals
      go_wp2_with fail
      refine ret_ci Tryz.results36 rfl rfl aggStep (by exact sizeStep) (Blk.put_ hR5 _ _) ⟨?_, ?_⟩
      · have e1 := HM.out
        have e2 := HKn.out
        subst e1
        subst e2
        rfl
      · exact Kept.putAt y5 _ _ _ (fun h => by omega)
  · (refine w4_act (fun K hK => ?_); go_simp)
    refine hK.out _ _ (fun _ => y.alloc _) ?_
    clear hK K
    (repeat (first | ((apply w4_pure); (· go_simp); (· (intro w1; go_simp; try with_reducible rfl)); (intro K hK; go_simp; refine hK _ _ ?_; clear hK K)) | ((apply w4_skip); (· go_simp); (intro K hK; go_simp; refine hK _ _ ?_; clear hK K))))
    (refine w4_act (fun K hK => ?_); go_simp)
    go_wp2_with fail
    refine (troot_tree _ q (m.map leafW) _ (by rw [List.length_map, ← HKn.out]; exact k1) (by rw [List.length_map, ← HKn.out]; omega) (hq3.ext (y.alloc _))).mono ?_
    rintro e w4 ⟨e4, hx4⟩
    replace e4 : e = .returned (.agg M.cells) := by rw [e4, HM.out]; rfl
    subst e4
    have y4 : Ext W w4 := (y.alloc _).trans hx4
    refine hK.out _ _ (fun _ => y4) ?_
    clear hK K
    have hN4 : Blk w4 W.heap.size 45 zeroW := Blk.ext (Blk.new W.drew 45 zeroW) hx4
    have hh4 := Blk.has hN4
    have hm4 := Blk.melts hN4
    have hl4 := Blk.lt hN4
    (repeat (first | ((apply w4_pure); (· go_simp); (· (intro w1; go_simp; try with_reducible rfl)); (intro K hK; go_simp; refine hK _ _ ?_; clear hK K)) | ((apply w4_skip); (· go_simp); (intro K hK; go_simp; refine hK _ _ ?_; clear hK K)) | (refine w4_end (by kernel_rfl) (fun K hK => ?_); go_simp; refine hK.out _ _ ?_; clear hK K))); refine w4_nil ?_
    have yp : Ext W (putAt w4 W.heap.size 0 (bareC pc halt k M)) := Kept.putAt y4 _ _ _ (fun h => by omega)
    have hA5 := Blk.ext hA3 yp
    have hR5 := Blk.ext hR3 yp
    have y5 := y3.trans yp
    have hN5 : Blk (putAt w4 W.heap.size 0 (bareC pc halt k M)) W.heap.size 45 (bareC pc halt k M) := Blk.put_ hN4 _ _
    have hl5 := Blk.lt hN5
    generalize (putAt w4 W.heap.size 0 (bareC pc halt k M)) = W5 at hA5 hR5 y5 hN5 hl5 ⊢
    generalize W.heap.size = c9 at hN5 hl5 ⊢
    have hc5 := Blk.cell hA5
    have hh5 := Blk.has hR5
    have hm5 := Blk.melts hR5
    have hh6 := Blk.has hN5
    have hg6 := Blk.gets hN5
    rcases HST.out with hst | ⟨hst, hsz⟩
    all_goals
      go_wp2_with fail
      refine ret_ci Tryz.results36 rfl rfl aggStep (by exact sizeStep) (Blk.put_ hR5 _ _) ⟨?_, ?_⟩
      · have e1 := HM.out
        have e2 := HKn.out
        subst e1
        subst e2
        rfl
      · exact Kept.putAt y5 _ _ _ (fun h => by omega)
end Go.Proofs.YtahljceanodhkaaGreatDoor
