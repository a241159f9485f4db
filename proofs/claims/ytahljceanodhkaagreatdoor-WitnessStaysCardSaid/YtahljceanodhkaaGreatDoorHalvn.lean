/- The walks of package halve, more: Clone, methods on a nil trial, a trial that cannot be. -/
import Derived.Test.YtahljceanodhkaaGreatDoorHalvp
namespace Go.Proofs.YtahljceanodhkaaGreatDoor
open Go.RowKit
set_option maxHeartbeats 400000 in
theorem clone_any (b : Nat) (t : Tr) (w : World) (ht : At w b t) :
    Calls Tryz.prog 20 #[.pointer (some ⟨b, 0, none⟩)] w fun e w' => ∃ g, w.heap.size ≤ g ∧ e = .returned (.pointer (some ⟨g, 0, none⟩)) ∧ At w' g t ∧ Ext w w' := by
  have hlt : b < w.heap.size := Blk.lt ht
  have hh := Blk.has ht
  have hg := Blk.gets ht
  go_enter Tryz.func20, Tryz.ntmps20
  go_wp2
  go_ret
  refine ⟨w.heap.size, Nat.le_refl _, rfl, At.of (Blk.new' _ _ _ _ rfl) rfl, ?_⟩
  ((repeat' (with_reducible (first | apply Kept.drew | apply Kept.drewN | apply Kept.alloc | apply Kept.setCell | apply Kept.putAt | exact Kept.refl _ _))) <;> (intro hlt; first | rfl | (simp at hlt; done) | (exfalso; simp at hlt; omega) | omega))
set_option maxHeartbeats 400000 in
theorem clone_nil (w : World) : Calls Tryz.prog 20 #[.pointer none] w fun e w' => e = .returned (.pointer none) ∧ w = w' := by
  go_enter Tryz.func20, Tryz.ntmps20
  go_wp2
  go_ret
  exact ⟨rfl, rfl⟩
set_option maxHeartbeats 400000 in
theorem turn_nil (w : World) : Calls Tryz.prog 17 #[.pointer none] w fun e w' => e = .returned (.int .i64 (-1)) ∧ w = w' := by
  go_enter Tryz.func17, Tryz.ntmps17
  go_wp2
  go_ret
  exact ⟨rfl, rfl⟩
set_option maxHeartbeats 400000 in
theorem winner_nil (w : World) : Calls Tryz.prog 19 #[.pointer none] w fun e w' => e = .returned (.tuple #[.int .i64 (-1), .bool false]) ∧ w = w' := by
  go_enter Tryz.func19, Tryz.ntmps19
  go_wp2
  go_ret2
  exact ⟨rfl, rfl⟩
set_option maxHeartbeats 400000 in
theorem silence_nil (w : World) : Calls Tryz.prog 18 #[.pointer none] w fun e w' => e = .returned (.int .i64 1) ∧ w = w' := by
  go_enter Tryz.func18, Tryz.ntmps18
  go_wp2
  go_ret
  exact ⟨rfl, rfl⟩
set_option maxHeartbeats 400000 in
theorem asked_nil (who : Int) (one : Bool) (w : World) : Calls Tryz.prog 57 #[.pointer none, .int .i64 who, .bool one] w fun e w' => e = .returned (.int .i64 1) ∧ w = w' := by
  go_enter Tryz.func57, Tryz.ntmps57
  go_wp2
  go_ret
  exact ⟨rfl, rfl⟩
set_option maxHeartbeats 400000 in
theorem tell_nil (d : Dg) (w : World) : Calls Tryz.prog 15 #[.pointer none, .agg #[.int .u8 d.x0, .int .u8 d.x1, .int .u8 d.x2, .int .u8 d.x3, .int .u8 d.x4, .int .u8 d.x5, .int .u8 d.x6, .int .u8 d.x7]] w fun e w' => e = .returned (.int .i64 1) ∧ Ext w w' := by
  go_enter Tryz.func15, Tryz.ntmps15
  go_wp2_with (go_at_call 57; refine (asked_nil _ _ _).mono ?_; rintro e w' ⟨rfl, rfl⟩)
  go_ret
  refine ⟨rfl, ?_⟩
  ((repeat' (with_reducible (first | apply Kept.drew | apply Kept.drewN | apply Kept.alloc | apply Kept.setCell | apply Kept.putAt | exact Kept.refl _ _))) <;> (intro hlt; first | rfl | (simp at hlt; done) | (exfalso; simp at hlt; omega) | omega))
set_option maxHeartbeats 400000 in
theorem choose_nil (f : Bool) (w : World) : Calls Tryz.prog 16 #[.pointer none, .bool f] w fun e w' => e = .returned (.int .i64 1) ∧ Ext w w' := by
  go_enter Tryz.func16, Tryz.ntmps16
  go_wp2_with (go_at_call 57; refine (asked_nil _ _ _).mono ?_; rintro e w' ⟨rfl, rfl⟩)
  go_ret
  refine ⟨rfl, ?_⟩
  ((repeat' (with_reducible (first | apply Kept.drew | apply Kept.drewN | apply Kept.alloc | apply Kept.setCell | apply Kept.putAt | exact Kept.refl _ _))) <;> (intro hlt; first | rfl | (simp at hlt; done) | (exfalso; simp at hlt; omega) | omega))
set_option maxHeartbeats 400000 in
theorem prove_nil (cs : Array Value) (w : World) : Calls Tryz.prog 21 #[.pointer none, .agg cs] w fun e w' => e = .returned (.int .i64 1) ∧ Ext w w' := by
  go_enter Tryz.func21, Tryz.ntmps21
  go_wp2_with (go_at_call 57; refine (asked_nil _ _ _).mono ?_; rintro e w' ⟨rfl, rfl⟩)
  go_ret
  refine ⟨rfl, ?_⟩
  ((repeat' (with_reducible (first | apply Kept.drew | apply Kept.drewN | apply Kept.alloc | apply Kept.setCell | apply Kept.putAt | exact Kept.refl _ _))) <;> (intro hlt; first | rfl | (simp at hlt; done) | (exfalso; simp at hlt; omega) | omega))
set_option maxHeartbeats 400000 in
theorem prove_no (b : Nat) (t : Tr) (cs : Array Value) (w : World) (ht : At w b t) (h : (askedE t 0 true == 0) = false) : Calls Tryz.prog 21 #[.pointer (some ⟨b, 0, none⟩), .agg cs] w fun e w' => e = .returned (.int .i64 (askedE t 0 true)) ∧ Ext w w' := by
  go_enter Tryz.func21, Tryz.ntmps21
  go_wp2_with (go_at_call 57; refine (asked_any b t _ _ _ (Blk.alloc ht _)).mono ?_; rintro e w' ⟨rfl, rfl⟩)
  go_ret
  refine ⟨rfl, ?_⟩
  ((repeat' (with_reducible (first | apply Kept.drew | apply Kept.drewN | apply Kept.alloc | apply Kept.setCell | apply Kept.putAt | exact Kept.refl _ _))) <;> (intro hlt; first | rfl | (simp at hlt; done) | (exfalso; simp at hlt; omega) | omega))
set_option maxHeartbeats 400000 in
theorem span_nil (w : World) : Calls Tryz.prog 26 #[.pointer none] w fun e w' => e = .returned (.tuple #[.int .i64 0, .int .i64 0, .agg Dg.zero.cells, .agg Dg.zero.cells]) ∧ Ext w w' := by
  go_enter Tryz.func26, Tryz.ntmps26
  go_wp2
  refine ret_iicc Tryz.results26 rfl rfl rfl aggDig (by exact sizeDig) (Blk.alloc (Blk.new' _ _ _ _ (by simp)) _) aggDig (by exact sizeDig) (Blk.new' _ _ _ _ (by simp)) ⟨rfl, ?_⟩
  ((repeat' (with_reducible (first | apply Kept.drew | apply Kept.drewN | apply Kept.alloc | apply Kept.setCell | apply Kept.putAt | exact Kept.refl _ _))) <;> (intro hlt; first | rfl | (simp at hlt; done) | (exfalso; simp at hlt; omega) | omega))
set_option maxHeartbeats 400000 in
theorem new_no (p a z : Dg) (size k : Int) (h : size < 1 ∨ 2048 < size ∨ k < 0 ∨ 20 < k) (w : World) :
    Calls Tryz.prog 13 #[.agg #[.int .u8 p.x0, .int .u8 p.x1, .int .u8 p.x2, .int .u8 p.x3, .int .u8 p.x4, .int .u8 p.x5, .int .u8 p.x6, .int .u8 p.x7], .int .i64 size, .int .i64 k, .agg #[.int .u8 a.x0, .int .u8 a.x1, .int .u8 a.x2, .int .u8 a.x3, .int .u8 a.x4, .int .u8 a.x5, .int .u8 a.x6, .int .u8 a.x7], .agg #[.int .u8 z.x0, .int .u8 z.x1, .int .u8 z.x2, .int .u8 z.x3, .int .u8 z.x4, .int .u8 z.x5, .int .u8 z.x6, .int .u8 z.x7]] w fun e w' => e = .returned (.tuple #[.pointer none, .int .i64 2]) ∧ Ext w w' := by
  by_cases h1 : size < 1
  · go_enter Tryz.func13, Tryz.ntmps13
    go_wp2
    go_ret2
    refine ⟨rfl, ?_⟩
    ((repeat' (with_reducible (first | apply Kept.drew | apply Kept.drewN | apply Kept.alloc | apply Kept.setCell | apply Kept.putAt | exact Kept.refl _ _))) <;> (intro hlt; first | rfl | (simp at hlt; done) | (exfalso; simp at hlt; omega) | omega))
  · by_cases h2 : 2048 < size
    · go_enter Tryz.func13, Tryz.ntmps13
      go_wp2
      go_ret2
      refine ⟨rfl, ?_⟩
      ((repeat' (with_reducible (first | apply Kept.drew | apply Kept.drewN | apply Kept.alloc | apply Kept.setCell | apply Kept.putAt | exact Kept.refl _ _))) <;> (intro hlt; first | rfl | (simp at hlt; done) | (exfalso; simp at hlt; omega) | omega))
    · by_cases h3 : k < 0
      · go_enter Tryz.func13, Tryz.ntmps13
        go_wp2
        go_ret2
        refine ⟨rfl, ?_⟩
        ((repeat' (with_reducible (first | apply Kept.drew | apply Kept.drewN | apply Kept.alloc | apply Kept.setCell | apply Kept.putAt | exact Kept.refl _ _))) <;> (intro hlt; first | rfl | (simp at hlt; done) | (exfalso; simp at hlt; omega) | omega))
      · have h4 : 20 < k := by omega
        clear h
        go_enter Tryz.func13, Tryz.ntmps13
        go_wp2
        go_ret2
        refine ⟨rfl, ?_⟩
        ((repeat' (with_reducible (first | apply Kept.drew | apply Kept.drewN | apply Kept.alloc | apply Kept.setCell | apply Kept.putAt | exact Kept.refl _ _))) <;> (intro hlt; first | rfl | (simp at hlt; done) | (exfalso; simp at hlt; omega) | omega))
set_option maxHeartbeats 400000 in
theorem same_nil (w : World) : Calls Tryz.prog 22 #[.pointer none, .pointer none] w fun e w' => e = .returned (.bool true) ∧ w = w' := by
  go_enter Tryz.func22, Tryz.ntmps22
  go_wp2
  go_ret
  exact ⟨rfl, rfl⟩
set_option maxHeartbeats 400000 in
theorem same_nil1 (a : Addr) (w : World) : Calls Tryz.prog 22 #[.pointer none, .pointer (some a)] w fun e w' => e = .returned (.bool false) ∧ w = w' := by
  go_enter Tryz.func22, Tryz.ntmps22
  go_wp2
  go_ret
  exact ⟨rfl, rfl⟩
set_option maxHeartbeats 400000 in
theorem same_nil2 (a : Addr) (w : World) : Calls Tryz.prog 22 #[.pointer (some a), .pointer none] w fun e w' => e = .returned (.bool false) ∧ w = w' := by
  go_enter Tryz.func22, Tryz.ntmps22
  go_wp2
  go_ret
  exact ⟨rfl, rfl⟩
end Go.Proofs.YtahljceanodhkaaGreatDoor
