/- The walk of the laws' example 'told' of layer 23. -/
import Derived.Test.YtahljceanodhkaaGreatDoorHalvb
namespace Go.Proofs.YtahljceanodhkaaGreatDoor
open Go.RowKit
abbrev dg1 (x : Int) : Dg := ⟨x, 0, 0, 0, 0, 0, 0, 0⟩
abbrev tt0 : Tr := ⟨0, 4, dg1 2, dg1 3, dg1 1, 5, 0, Dg.zero, -1⟩
abbrev tt1 : Tr := ⟨0, 4, dg1 2, dg1 3, dg1 1, 5, 1, dg1 4, -1⟩
abbrev tt2 : Tr := ⟨2, 2, dg1 4, dg1 3, dg1 1, 5, 0, Dg.zero, -1⟩
abbrev tt3 : Tr := ⟨2, 2, dg1 4, dg1 3, dg1 1, 5, 1, dg1 5, -1⟩
abbrev tt4 : Tr := ⟨2, 1, dg1 4, dg1 5, dg1 1, 5, 0, Dg.zero, -1⟩
abbrev tt5 : Tr := ⟨2, 1, dg1 4, dg1 5, dg1 1, 5, -1, Dg.zero, 1⟩
section
variable {w : World} {g : Nat}
theorem told1 (h : At w g tt0) : Calls Tryz.prog 15 #[.pointer (some ⟨g, 0, none⟩), .agg #[.int .u8 4, .int .u8 0, .int .u8 0, .int .u8 0, .int .u8 0, .int .u8 0, .int .u8 0, .int .u8 0]] w fun e w' => e = .returned (.int .i64 0) ∧ At w' g tt1 ∧ Kept (· = g) w w' := tell_any g tt0 (dg1 4) w h
theorem told2 (h : At w g tt1) : Calls Tryz.prog 16 #[.pointer (some ⟨g, 0, none⟩), .bool false] w fun e w' => e = .returned (.int .i64 0) ∧ At w' g tt2 ∧ Kept (· = g) w w' := choose_any g tt1 false w h (by decide) (by decide) (by decide) (by decide)
theorem told3 (h : At w g tt2) : Calls Tryz.prog 15 #[.pointer (some ⟨g, 0, none⟩), .agg #[.int .u8 5, .int .u8 0, .int .u8 0, .int .u8 0, .int .u8 0, .int .u8 0, .int .u8 0, .int .u8 0]] w fun e w' => e = .returned (.int .i64 0) ∧ At w' g tt3 ∧ Kept (· = g) w w' := tell_any g tt2 (dg1 5) w h
theorem told4 (h : At w g tt3) : Calls Tryz.prog 16 #[.pointer (some ⟨g, 0, none⟩), .bool true] w fun e w' => e = .returned (.int .i64 0) ∧ At w' g tt4 ∧ Kept (· = g) w w' := choose_any g tt3 true w h (by decide) (by decide) (by decide) (by decide)
theorem told5 (h : At w g tt4) : Calls Tryz.prog 18 #[.pointer (some ⟨g, 0, none⟩)] w fun e w' => e = .returned (.int .i64 0) ∧ At w' g tt5 ∧ Kept (· = g) w w' := silence_any g tt4 w h
theorem told0 (w : World) : Calls Tryz.prog 13 #[.agg #[.int .u8 1, .int .u8 0, .int .u8 0, .int .u8 0, .int .u8 0, .int .u8 0, .int .u8 0, .int .u8 0], .int .i64 5, .int .i64 2, .agg #[.int .u8 2, .int .u8 0, .int .u8 0, .int .u8 0, .int .u8 0, .int .u8 0, .int .u8 0, .int .u8 0], .agg #[.int .u8 3, .int .u8 0, .int .u8 0, .int .u8 0, .int .u8 0, .int .u8 0, .int .u8 0, .int .u8 0]] w fun e w' => ∃ g, w.heap.size ≤ g ∧ e = .returned (.tuple #[.pointer (some ⟨g, 0, none⟩), .int .i64 0]) ∧ At w' g tt0 ∧ Ext w w' :=
  new_ok (dg1 1) (dg1 2) (dg1 3) 5 2 (by decide) (by decide) (by decide) (by decide) w
end
set_option maxHeartbeats 800000 in
theorem told_any (w : World) : Calls Tryz.prog 14 #[] w fun e w' => e = .returned (.bool true) ∧ Ext w w' := by
  go_enter Tryz.func14, Tryz.ntmps14
  go_wp2_with fail
  refine (told0 _).mono ?_
  rintro e w1 ⟨g, hg, rfl, hA1, hx1⟩
  go_wp2_with fail
  refine (told1 hA1).mono ?_
  rintro e w2 ⟨rfl, hA2, hx2⟩
  go_wp2_with fail
  refine (told2 hA2).mono ?_
  rintro e w3 ⟨rfl, hA3, hx3⟩
  go_wp2_with fail
  refine (told3 hA3).mono ?_
  rintro e w4 ⟨rfl, hA4, hx4⟩
  go_wp2_with fail
  refine (told4 hA4).mono ?_
  rintro e w5 ⟨rfl, hA5, hx5⟩
  go_wp2_with fail
  refine (span_any g tt4 _ hA5).mono ?_
  rintro e w6 ⟨rfl, hx6⟩
  have hA6 : At w6 g tt4 := Blk.ext hA5 hx6
  go_wp2_with fail
  refine (turn_any g tt4 _ (Blk.alloc (Blk.alloc hA6 _) _)).mono ?_
  rintro e w7 ⟨rfl, rfl⟩
  go_wp2_with fail
  refine (told5 (g := g) (Blk.alloc (Blk.alloc hA6 _) _)).mono ?_
  rintro e w8 ⟨rfl, hA8, hx8⟩
  go_wp2_with fail
  refine (winner_any g tt5 _ hA8).mono ?_
  rintro e w9 ⟨rfl, hx9⟩
  go_wp2_with fail
  refine (turn_any g tt5 _ (Blk.ext hA8 hx9)).mono ?_
  rintro e w10 ⟨rfl, rfl⟩
  go_wp2_with fail
  go_ret
  refine ⟨rfl, ?_⟩
  have hno : ∀ i, i < w.heap.size → i = g → False := fun i hi he => by omega
  exact ((((((hx1.trans' hx2 hno).trans' hx3 hno).trans' hx4 hno).trans' hx5 hno).trans hx6).alloc _).alloc _ |>.trans' hx8 hno |>.trans hx9
end Go.Proofs.YtahljceanodhkaaGreatDoor
