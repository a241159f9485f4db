/- Package octet: fresh, number, PutNum, PutInt. -/
import Derived.Test.YtahljceanodhkaaGreatDoorRk
import Derived.Laws.MakeOwn
import Derived.Laws.OwnMore
namespace Go.Proofs.YtahljceanodhkaaGreatDoor
open Go.RowKit
/-- the operation makeSlice, by what its run is known to be -/
theorem wpList_make {P : Program} {w : World} {ops : Array Oper} {rest : List Oper} {o : Oper} {a : Act} {Q : Exit → Act → World → Prop} (hgd : o.guard = none) (x y : Operand) (T : TypeId)
    (ho : o.op = .makeSlice T x y) {v s v' : Value} {w' : World} (hx : a.eval x = v) (hy : a.eval y = s)
    (hrun : (Instr.makeSlice T v s).run P w = .ok v' w') (h : wpList P ops Q rest (a.put o.dst v') w') : wpList P ops Q (o :: rest) a w :=
  wpList_plain hgd fun _ hK => by
    unfold Oper.wp execOp
    simp only [ho, Sem.run_bind, Sem.run_pure, Result.andThen_ok, hx, hy, hrun]
    exact hK _ _ h
theorem makeB (w : World) (c : Nat) (h : c ≤ 100000) :
    ∃ w', (Instr.makeSlice 95 (.int .i64 0) (.int .i64 (c : Int))).run Tryz.prog w = .ok (.slice (some ⟨w.heap.size, 0, none⟩) 0 c) w' ∧ w'.ownsRow w.heap.size 5 1 (.slice (some ⟨w.heap.size, 0, none⟩) 0 c) 0 (byts []) ∧ Ext w w' := by
  obtain ⟨i, hi, hz, h1, h2⟩ := info_parts infoU8
  obtain ⟨w', hr, ho, hg⟩ := run_make_own (P := Tryz.prog) w w.heap.size 95 5 i _ 1 Tryz.underlying95 hi hz h1 .i64 .i64 c (by rw [h2]; omega) (by unfold maxLen; omega) (Nat.le_refl _)
  exact ⟨w', hr, ho, hg.os, hg.tape, hg.output, hg.size, fun k hk _ => hg.block k hk (by simp)⟩
theorem own_cases {w : World} {base : Nat} {v : Value} {n : Nat} {xs : List Int} (h : w.ownsRow base 5 1 v n (byts xs)) : (v = .slice none 0 0 ∧ n = 0 ∧ xs = []) ∨ ∃ g c, v = .slice (some ⟨g, 0, none⟩) n c ∧ base ≤ g ∧ Row w g 0 (byts xs) ∧ n ≤ c ∧ n = xs.length := by
  have hl := h.1
  rw [byts_length, Nat.mul_one] at hl
  rcases h.2 with ⟨h1, h0⟩ | ⟨g, c, cur, hv, hb, hc, hnc, hcm, hcs, htk⟩
  · exact .inl ⟨h1, h0, List.eq_nil_of_length_eq_zero (by omega)⟩
  · refine .inr ⟨g, c, hv, hb, ?_, hnc, hl.symm⟩
    have hln : (byts xs).length = n := by rw [byts_length, hl]
    refine ⟨?_, ?_, (Array.getElem?_eq_some_iff.1 hc).1⟩
    · unfold has; rw [hc, hln]; simp; omega
    · unfold gets; rw [hc, hln]; simp only [List.drop_zero]; rw [Nat.mul_one] at htk; rw [htk]
set_option maxRecDepth 100000 in
set_option maxHeartbeats 1000000 in
theorem fresh_any (base : Nat) (v : Value) (n : Nat) (xs : List Int) (more : Nat) (w : World) (hown : w.ownsRow base 5 1 v n (byts xs)) (hn : n ≤ 1000) (hm : more ≤ 1000) :
    Calls Tryz.prog 161 #[v, .int .i64 more] w fun e w' => ∃ v', e = .returned v' ∧ w'.ownsRow w.heap.size 5 1 v' n (byts xs) ∧ Ext w w' := by
  rcases own_cases hown with ⟨rfl, rfl, rfl⟩ | ⟨g, c, rfl, hg, hrow, hc, hl⟩
  · obtain ⟨w1, hr1, ho1, hx1⟩ := makeB w more (by omega)
    obtain ⟨i, hi, _⟩ := info_parts infoU8
    have hr2 := run_append_owned_none (P := Tryz.prog) (w := w1) _ 95 95 5 i 1 Tryz.underlying95 hi _ _ _ ho1
    clear hi
    go_enter Tryz.func161, Tryz.ntmps161
    go_upto_region 1 with (fail)
    go_step
    iterate 4 (refine wpList_step (fun K hK => ?_); go_simp; (try go_bits); refine hK _ _ ?_; clear hK K)
    refine wpList_make rfl _ _ 95 rfl rfl rfl hr1 ?_
    clear hr1
    iterate 1 (refine wpList_step (fun K hK => ?_); go_simp; (try go_bits); refine hK _ _ ?_; clear hK K)
    refine wpList_app rfl (.tmp 9) (.tmp 10) 95 rfl rfl rfl rfl hr2 ?_
    clear hr2
    go_wp2_with fail
    go_ret
    exact ⟨_, rfl, ho1, hx1⟩
  · obtain ⟨w1, hr1, ho1, hx1⟩ := makeB w (n + more) (by omega)
    obtain ⟨v2, w2, hr2, ho2, hk2⟩ := appB w1 _ _ _ [] ho1 g 0 n c xs hl (hrow.ext hx1) (by omega) hx1.size
    rw [Int.natCast_add] at hr1
    have HL := Lib.hid hl
    clear hl hc
    go_enter Tryz.func161, Tryz.ntmps161
    go_upto_region 1 with (fail)
    go_step
    iterate 4 (refine wpList_step (fun K hK => ?_); go_simp; (try go_bits); refine hK _ _ ?_; clear hK K)
    refine wpList_make rfl _ _ 95 rfl rfl rfl hr1 ?_
    clear hr1
    iterate 1 (refine wpList_step (fun K hK => ?_); go_simp; (try go_bits); refine hK _ _ ?_; clear hK K)
    refine wpList_app rfl (.tmp 9) (.tmp 10) 95 rfl rfl rfl rfl hr2 ?_
    clear hr2
    go_wp2_with fail
    go_ret
    rw [Nat.zero_add, List.nil_append] at ho2
    exact ⟨_, rfl, ho2, hx1.trans' hk2 (fun i hi e => by simp [Value.ownBlock] at e; omega)⟩
theorem or128f : ∀ x : Fin 256, bits .or .u8 (x.val : Int) 128 = 128 + (x.val : Int) % 128 := by decide +kernel
theorem or128 (m : Nat) : bits .or .u8 ((m : Int) % 256) 128 = 128 + (m : Int) % 128 := by
  have h := or128f ⟨m % 256, Nat.mod_lt _ (by omega)⟩
  rw [show (((m % 256 : Nat) : Int)) = (m : Int) % 256 by omega] at h
  rw [h]
  omega
set_option maxRecDepth 100000 in
set_option maxHeartbeats 1000000 in
theorem number_any (base : Nat) (v : Value) (k : Nat) (xs : List Int) (n : Nat) (w : World) (hn : n < 18446744073709551616) (hown : w.ownsRow base 5 1 v k (byts xs)) (hk : k ≤ 1000) (hbase : base ≤ w.heap.size) :
    Calls Tryz.prog 160 #[v, .int .u64 n] w fun e w' => ∃ v' m, e = .returned v' ∧ m = k + (vint n).length ∧ w'.ownsRow base 5 1 v' m (byts (xs ++ vint n)) ∧ Kept (fun i => base ≤ i) w w' := by
  have hlen : (vint n).length ≤ 10 := vint_len 10 n (by omega) (by omega)
  have HL := Lib.hid hlen
  have HB := Lib.hid hn
  clear hlen hn
  go_enter Tryz.func160, Tryz.ntmps160
  go_wp2_with fail
  go_loopw [0, 1] (fun t0 t1 wr => ∃ (m : Nat) (done : List Int), Hid (m ≤ n) ∧ t1 = .int .u64 m ∧ Hid (done ++ vint m = vint n) ∧ wr.ownsRow base 5 1 t0 (k + done.length) (byts (xs ++ done)) ∧ Kept (fun i => base ≤ i) w wr) (fun _ t1 _ => (intOf t1).toNat)
  case atStart => exact ⟨n, [], Nat.le_refl _, rfl, rfl, by simpa using hown, Kept.refl _ _⟩
  case round =>
    obtain ⟨m, done, hmn, rfl, hd, ho, hx⟩ := hrel
    have hdl : done.length + (vint m).length ≤ 10 := by have h := congrArg List.length hd.out; simp at h; have := HL.out; omega
    have hvp := vint_pos m
    have hob : ∀ i, (u0 : Value).ownBlock = some i → base ≤ i := fun i e => (ho.lt i e).1
    have HOB := Lib.hid hob
    clear hob
    by_cases hlt : m < 128
    · have hq : decide ((128 : Int) ≤ m) = false := by simp; omega
      have hw : (m : Int) % 256 = m := by omega
      obtain ⟨v2, w2, hr2, ho2, hk2⟩ := appB (wr.alloc (.cells #[.int .u8 (m : Int)] 5)) _ _ _ (xs ++ done) (ho.alloc _) wr.heap.size 0 1 1 [(m : Int)] rfl (Row.of_blk (Blk.new wr _ _)) (by omega) (by have := hx.size; simp; omega)
      go_upto_region 4 with (fail)
      go_step
      iterate 4 (refine wpList_step (fun K hK => ?_); go_simp; (try go_bits); refine hK _ _ ?_; clear hK K)
      refine wpList_app rfl (.tmp 15) (.tmp 18) 95 rfl rfl rfl rfl hr2 ?_
      clear hr2
      go_wp2_with fail
      go_ret
      have hv : done ++ [(m : Int)] = vint n := by rw [← hd.out, vint_small hlt]
      rw [List.append_assoc, hv] at ho2
      exact ⟨_, _, rfl, by rw [← hv]; simp; omega, ho2, (hx.alloc _).trans' hk2 (fun i _ e => HOB.out i e)⟩
    · have hq : decide ((128 : Int) ≤ m) = true := by simp; omega
      have hm64 : (m : Int) < 18446744073709551616 := by have := HB.out; have := hmn.out; omega
      have hor : bits .or .u8 ((m : Int) % 256) 128 = 128 + (m : Int) % 128 := or128 m
      obtain ⟨v2, w2, hr2, ho2, hk2⟩ := appB (wr.alloc (.cells #[.int .u8 (128 + (m : Int) % 128)] 5)) _ _ _ (xs ++ done) (ho.alloc _) wr.heap.size 0 1 1 [128 + (m : Int) % 128] rfl (Row.of_blk (Blk.new wr _ _)) (by omega) (by have := hx.size; simp; omega)
      have hk2' : Kept (fun i => base ≤ i) w w2 := (hx.alloc _).trans' hk2 (fun i _ e => HOB.out i e)
      go_upto_region 2 with (fail)
      go_step
      iterate 5 (refine wpList_step (fun K hK => ?_); go_simp; (try go_bits); refine hK _ _ ?_; clear hK K)
      refine wpList_app rfl (.tmp 7) (.tmp 11) 95 rfl rfl rfl rfl hr2 ?_
      clear hr2 ho
      go_wp2_with fail
      go_roundw
      case rel => exact ⟨m / 128, done ++ [128 + (m : Int) % 128], by show _ ≤ _; have := hmn.out; omega, by go_num, by show _ = _; rw [← hd.out, vint_big hlt]; simp, by rw [List.length_append, ← List.append_assoc, ← Nat.add_assoc]; exact ho2, hk2'⟩
      case measure => simp only [intOf]; omega
end Go.Proofs.YtahljceanodhkaaGreatDoor
