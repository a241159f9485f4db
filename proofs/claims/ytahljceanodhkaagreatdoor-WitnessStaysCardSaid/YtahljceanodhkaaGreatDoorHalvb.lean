/- The walks of package halve, more: Choose, New, Span. -/
import Derived.Test.YtahljceanodhkaaGreatDoorHalve
import Derived.Test.YtahljceanodhkaaGreatDoorOrd
namespace Go.Proofs.YtahljceanodhkaaGreatDoor
open Go.RowKit
set_option maxHeartbeats 400000 in
theorem choose_first (b : Nat) (t : Tr) (w : World) (ht : At w b t) (h : askedE t 1 false = 0) (h0 : 0 ≤ t.steps) (h1 : t.steps ≤ 1048576) :
    Calls Tryz.prog 16 #[.pointer (some ⟨b, 0, none⟩), .bool true] w fun e w' => e = .returned (.int .i64 0) ∧ At w' b { t with steps := t.steps / 2, after := t.mid, mid := Dg.zero, turn := 0 } ∧ Kept (· = b) w w' := by
  have hlt : b < w.heap.size := Blk.lt ht
  go_enter Tryz.func16, Tryz.ntmps16
  go_wp2_with (go_at_call 57; refine (asked_any b t _ _ _ ht).mono ?_; rintro e w' ⟨rfl, rfl⟩)
  refine wp_region_tx (fun w1 => At w1 b t) [true, true, true, true, true, true, true, true, true, false, false, false, false] (by kernel_rfl) (by kernel_rfl) (by kernel_rfl) ?_
  (repeat (first | ((apply wpTx_take); (· exact ht); (· go_simp); (· (intro w1 hS; have hh := Blk.has hS; have hg := Blk.gets hS;  go_simp; try with_reducible rfl)); (intro K hK; go_simp; refine hK _ _ ?_; clear hK K)) | ((apply wpTx_pass); (· exact ht); (· go_simp); (intro K hK; go_simp; refine hK _ _ ?_; clear hK K))))
  (refine wpTx_act (fun K hK => ?_); go_simp)
  go_wp2_with (go_at_call 58; refine (first_any ⟨t.from_, t.steps, t.before, t.after⟩ t.mid _ h0 h1).mono ?_; rintro e w' ⟨rfl, hx⟩)
  refine hK.out _ _ (Blk.ext (w := w.drew) ht hx) (fun hA1 => ?_)
  clear hK K
  have hh1 := Blk.has hA1
  have hm1 := Blk.melts hA1
  have hc1 := Blk.cell hA1
  have hf1 := Blk.frozen hA1
  (repeat (refine wpTx_act (fun K hK => ?_); go_simp; refine hK.out _ _ hA1 (fun _ => ?_); clear hK K))
  (refine wpTx_end (by kernel_rfl) (fun K hK => ?_); go_simp)
  refine hK.out _ _ ?_
  clear hK K
  refine wpTx_nil ?_
  go_wp2
  go_ret
  refine ⟨rfl, ?_, ?_⟩
  · (apply At.of; (· (repeat' (with_reducible (first | assumption | apply Blk.set_ | apply Blk.put_ | apply Blk.alloc | apply Blk.drew | apply Blk.drewN)))); (· kernel_rfl))
  · refine Kept.trans' (w := w') (S' := (· = b)) (Kept.ext (Kept.trans (w := w.drew) ?_ hx)) ?_ (fun _ _ h => h)
    · ((repeat' (with_reducible (first | apply Kept.drew | apply Kept.drewN | apply Kept.alloc | apply Kept.setCell | apply Kept.putAt | exact Kept.refl _ _))) <;> (intro hlt; first | rfl | (simp at hlt; done) | (exfalso; simp at hlt; omega) | omega))
    · ((repeat' (with_reducible (first | apply Kept.drew | apply Kept.drewN | apply Kept.alloc | apply Kept.setCell | apply Kept.putAt | exact Kept.refl _ _))) <;> (intro hlt; first | rfl | (simp at hlt; done) | (exfalso; simp at hlt; omega) | omega))
set_option maxHeartbeats 400000 in
theorem choose_second (b : Nat) (t : Tr) (w : World) (ht : At w b t) (h : askedE t 1 false = 0) (h0 : 0 ≤ t.steps) (h1 : t.steps ≤ 1048576) (h2 : 0 ≤ t.from_) (h3 : t.from_ ≤ 1048576) :
    Calls Tryz.prog 16 #[.pointer (some ⟨b, 0, none⟩), .bool false] w fun e w' => e = .returned (.int .i64 0) ∧ At w' b { t with from_ := t.from_ + t.steps / 2, steps := t.steps - t.steps / 2, before := t.mid, mid := Dg.zero, turn := 0 } ∧ Kept (· = b) w w' := by
  have hlt : b < w.heap.size := Blk.lt ht
  go_enter Tryz.func16, Tryz.ntmps16
  go_wp2_with (go_at_call 57; refine (asked_any b t _ _ _ ht).mono ?_; rintro e w' ⟨rfl, rfl⟩)
  refine wp_region_tx (fun w1 => At w1 b t) [true, true, true, true, true, true, true, true, true, false, false, false, false] (by kernel_rfl) (by kernel_rfl) (by kernel_rfl) ?_
  (repeat (first | ((apply wpTx_take); (· exact ht); (· go_simp); (· (intro w1 hS; have hh := Blk.has hS; have hg := Blk.gets hS;  go_simp; try with_reducible rfl)); (intro K hK; go_simp; refine hK _ _ ?_; clear hK K)) | ((apply wpTx_pass); (· exact ht); (· go_simp); (intro K hK; go_simp; refine hK _ _ ?_; clear hK K))))
  (refine wpTx_act (fun K hK => ?_); go_simp)
  go_wp2_with (go_at_call 59; refine (second_any ⟨t.from_, t.steps, t.before, t.after⟩ t.mid _ h0 h1 h2 h3).mono ?_; rintro e w' ⟨rfl, hx⟩)
  refine hK.out _ _ (Blk.ext (w := w.drew) ht hx) (fun hA1 => ?_)
  clear hK K
  have hh1 := Blk.has hA1
  have hm1 := Blk.melts hA1
  have hc1 := Blk.cell hA1
  have hf1 := Blk.frozen hA1
  (repeat (refine wpTx_act (fun K hK => ?_); go_simp; refine hK.out _ _ hA1 (fun _ => ?_); clear hK K))
  (refine wpTx_end (by kernel_rfl) (fun K hK => ?_); go_simp)
  refine hK.out _ _ ?_
  clear hK K
  refine wpTx_nil ?_
  go_wp2
  go_ret
  refine ⟨rfl, ?_, ?_⟩
  · (apply At.of; (· (repeat' (with_reducible (first | assumption | apply Blk.set_ | apply Blk.put_ | apply Blk.alloc | apply Blk.drew | apply Blk.drewN)))); (· kernel_rfl))
  · refine Kept.trans' (w := w') (S' := (· = b)) (Kept.ext (Kept.trans (w := w.drew) ?_ hx)) ?_ (fun _ _ h => h)
    · ((repeat' (with_reducible (first | apply Kept.drew | apply Kept.drewN | apply Kept.alloc | apply Kept.setCell | apply Kept.putAt | exact Kept.refl _ _))) <;> (intro hlt; first | rfl | (simp at hlt; done) | (exfalso; simp at hlt; omega) | omega))
    · ((repeat' (with_reducible (first | apply Kept.drew | apply Kept.drewN | apply Kept.alloc | apply Kept.setCell | apply Kept.putAt | exact Kept.refl _ _))) <;> (intro hlt; first | rfl | (simp at hlt; done) | (exfalso; simp at hlt; omega) | omega))
def chooseT (t : Tr) (f : Bool) : Tr :=
  if askedE t 1 false = 0 then (if f then { t with steps := t.steps / 2, after := t.mid, mid := Dg.zero, turn := 0 } else { t with from_ := t.from_ + t.steps / 2, steps := t.steps - t.steps / 2, before := t.mid, mid := Dg.zero, turn := 0 }) else t
theorem choose_any (b : Nat) (t : Tr) (f : Bool) (w : World) (ht : At w b t) (h0 : 0 ≤ t.steps) (h1 : t.steps ≤ 1048576) (h2 : 0 ≤ t.from_) (h3 : t.from_ ≤ 1048576) :
    Calls Tryz.prog 16 #[.pointer (some ⟨b, 0, none⟩), .bool f] w fun e w' => e = .returned (.int .i64 (askedE t 1 false)) ∧ At w' b (chooseT t f) ∧ Kept (· = b) w w' := by
  unfold chooseT
  by_cases h : askedE t 1 false = 0
  · rw [if_pos h, h]
    cases f
    · exact choose_second b t w ht h h0 h1 h2 h3
    · exact choose_first b t w ht h h0 h1
  · rw [if_neg h]; exact choose_no b t f w ht (by simpa using h)
def silenceE (t : Tr) : Int := if t.turn == 0 then 0 else if t.turn == 1 then 0 else 15
def silenceT (t : Tr) : Tr := if t.turn == 0 then { t with turn := -1, winner := 1 } else if t.turn == 1 then { t with turn := -1, winner := 0 } else t
theorem silence_any (b : Nat) (t : Tr) (w : World) (ht : At w b t) :
    Calls Tryz.prog 18 #[.pointer (some ⟨b, 0, none⟩)] w fun e w' => e = .returned (.int .i64 (silenceE t)) ∧ At w' b (silenceT t) ∧ Kept (· = b) w w' := by
  unfold silenceE silenceT
  cases h0 : t.turn == 0
  · cases h1 : t.turn == 1
    · simpa using silence_over b t w ht h0 h1
    · simpa using silence_doubter b t w ht h0 h1
  · simpa using silence_teller b t w ht h0

set_option maxHeartbeats 400000 in
theorem span_any (b : Nat) (t : Tr) (w : World) (ht : At w b t) :
    Calls Tryz.prog 26 #[.pointer (some ⟨b, 0, none⟩)] w fun e w' => e = .returned (.tuple #[.int .i64 t.from_, .int .i64 t.steps, .agg t.before.cells, .agg t.after.cells]) ∧ Ext w w' := by
  have hlt : b < w.heap.size := Blk.lt ht
  go_enter Tryz.func26, Tryz.ntmps26
  go_wp2
  refine wp_region_tx (fun w1 => At w1 b t) [true, true, true, true, true, true, true, true, true, true, true, true, true, true, true, true, true, true, true, true, true, true, false, false] (by kernel_rfl) (by kernel_rfl) (by kernel_rfl) ?_
  (repeat (first | ((apply wpTx_take); (· exact ((Blk.alloc (Blk.alloc ht _) _))); (· go_simp); (· (intro w1 hS; have hh := Blk.has hS; have hg := Blk.gets hS; have hc := Blk.cell hS;  go_simp; try with_reducible rfl)); (intro K hK; go_simp; refine hK _ _ ?_; clear hK K)) | ((apply wpTx_pass); (· exact ((Blk.alloc (Blk.alloc ht _) _))); (· go_simp); (intro K hK; go_simp; refine hK _ _ ?_; clear hK K))))
  (repeat (refine wpTx_act (fun K hK => ?_); go_simp; refine hK.out _ _ (by (repeat' (with_reducible (first | assumption | apply Blk.set_ | apply Blk.put_ | apply Blk.alloc | apply Blk.drew | apply Blk.drewN)))) (fun _ => ?_); clear hK K))
  refine wpTx_nil ?_
  go_wp2
  refine ret_iicc Tryz.results26 rfl rfl rfl aggDig (by exact sizeDig) (Blk.drew (Blk.alloc (Blk.new' _ _ _ _ (by simp)) _)) aggDig (by exact sizeDig) (Blk.drew (Blk.new' _ _ _ _ (by simp))) ⟨rfl, ?_⟩
  ((repeat' (with_reducible (first | apply Kept.drew | apply Kept.drewN | apply Kept.alloc | apply Kept.setCell | apply Kept.putAt | exact Kept.refl _ _))) <;> (intro hlt; first | rfl | (simp at hlt; done) | (exfalso; simp at hlt; omega) | omega))

theorem pow2_le {n : Nat} (h : n ≤ 20) : (1 : Int) ≤ 2 ^ n ∧ (2 : Int) ^ n ≤ 1048576 := by
  have h1 : (2 : Nat) ^ n ≤ 2 ^ 20 := Nat.pow_le_pow_right (by omega) h
  have h2 : 1 ≤ (2 : Nat) ^ n := Nat.one_le_two_pow
  have e : ((2 ^ n : Nat) : Int) = (2 : Int) ^ n := by simp
  omega
set_option maxHeartbeats 400000 in
theorem new_ok (p a z : Dg) (size k : Int) (hk : 0 ≤ k) (hk2 : k ≤ 20) (hs : 1 ≤ size) (hs2 : size ≤ 2048) (w : World) :
    Calls Tryz.prog 13 #[.agg #[.int .u8 p.x0, .int .u8 p.x1, .int .u8 p.x2, .int .u8 p.x3, .int .u8 p.x4, .int .u8 p.x5, .int .u8 p.x6, .int .u8 p.x7], .int .i64 size, .int .i64 k, .agg #[.int .u8 a.x0, .int .u8 a.x1, .int .u8 a.x2, .int .u8 a.x3, .int .u8 a.x4, .int .u8 a.x5, .int .u8 a.x6, .int .u8 a.x7], .agg #[.int .u8 z.x0, .int .u8 z.x1, .int .u8 z.x2, .int .u8 z.x3, .int .u8 z.x4, .int .u8 z.x5, .int .u8 z.x6, .int .u8 z.x7]] w fun e w' => ∃ g, w.heap.size ≤ g ∧ e = .returned (.tuple #[.pointer (some ⟨g, 0, none⟩), .int .i64 0]) ∧ At w' g ⟨0, 2 ^ k.toNat, a, z, p, size, 0, Dg.zero, -1⟩ ∧ Ext w w' := by
  go_enter Tryz.func13, Tryz.ntmps13
  go_wp2
  refine wp_region_eq [true, true, true, true, true, true, true, true, false] (by kernel_rfl) (by kernel_rfl) (by kernel_rfl) ?_
  (repeat (first | ((apply wpTx_take); (· exact rfl); (· go_simp); (· (intro w1 hS; subst hS;  go_simp; try with_reducible rfl)); (intro K hK; go_simp; refine hK _ _ ?_; clear hK K)) | ((apply wpTx_pass); (· exact rfl); (· go_simp); (intro K hK; go_simp; refine hK _ _ ?_; clear hK K))))
  (repeat (refine wpTx_end (by kernel_rfl) (fun K hK => ?_); go_simp; refine hK.out _ _ ?_; clear hK K)); refine wpTx_nil ?_
  go_wp2
  go_ret2
  refine ⟨w.heap.size + 1 + 1 + 1, by omega, rfl, ?_, ?_⟩
  · have hp := pow2_le (n := k.toNat) (by omega)
    rw [show IntKind.i64.wrap (2 ^ k.toNat) = 2 ^ k.toNat from IntWalk.i64_in _ (by omega)]
    exact At.of (Blk.drew (Blk.new' _ _ _ _ (by simp))) rfl
  · ((repeat' (with_reducible (first | apply Kept.drew | apply Kept.drewN | apply Kept.alloc | apply Kept.setCell | apply Kept.putAt | exact Kept.refl _ _))) <;> (intro hlt; first | rfl | (simp at hlt; done) | (exfalso; simp at hlt; omega) | omega))
end Go.Proofs.YtahljceanodhkaaGreatDoor
