/- The law HalveNil of layer 23: its walk. -/
import Derived.Test.YtahljceanodhkaaGreatDoorHalvn
import Derived.Test.YtahljceanodhkaaGreatDoorHalvt
namespace Go.Proofs.YtahljceanodhkaaGreatDoor
open Go.RowKit
set_option maxRecDepth 100000 in
set_option maxHeartbeats 2000000 in
theorem nil_walk (size k : Int) (d : Dg) (w : World) (hr : 1 ≤ size ∧ size ≤ 2048 ∧ 0 ≤ k ∧ k ≤ 20) :
    Calls Tryz.prog 5 #[.int .i64 size, .int .i64 k, .agg #[.int .u8 d.x0, .int .u8 d.x1, .int .u8 d.x2, .int .u8 d.x3, .int .u8 d.x4, .int .u8 d.x5, .int .u8 d.x6, .int .u8 d.x7]] w fun e w' => e = .returned (.bool true) ∧ Ext w w' := by
  obtain ⟨h1, h2, h3, h4⟩ := hr
  go_enter Tryz.func5, Tryz.ntmps5
  go_wp2_with fail
  refine (new_ok Dg.zero Dg.zero Dg.zero 1 0 (by decide) (by decide) (by decide) (by decide) _).mono ?_
  rintro e w1 ⟨g, hg, rfl, hA1, hx1⟩
  go_wp2_with fail
  refine (span_nil _).mono ?_
  rintro e w2 ⟨rfl, hx2⟩
  go_wp2_with fail
  have b2 : Blk w2 w.heap.size 23 d.cells := Blk.ext (Blk.ext (Blk.new w _ d.cells) hx1) hx2
  have hh2 := Blk.has b2
  have hg2 := Blk.gets b2
  have hl2 := Blk.lt b2
  have hl3 := Nat.lt_succ_of_lt hl2
  refine (winner_nil _).mono ?_
  rintro e w3 ⟨rfl, rfl⟩
  go_wp2_with fail
  refine (turn_nil _).mono ?_
  rintro e w4 ⟨rfl, rfl⟩
  go_wp2_with fail
  refine (clone_nil _).mono ?_
  rintro e w5 ⟨rfl, rfl⟩
  go_wp2_with fail
  refine (same_nil _).mono ?_
  rintro e w6 ⟨rfl, rfl⟩
  go_wp2_with fail
  refine (same_nil1 _ _).mono ?_
  rintro e w7 ⟨rfl, rfl⟩
  go_wp2_with fail
  refine (same_nil2 _ _).mono ?_
  rintro e w8 ⟨rfl, rfl⟩
  go_wp2_with fail
  refine (tell_nil d _).mono ?_
  rintro e w9 ⟨rfl, hx9⟩
  go_wp2_with fail
  refine (choose_nil _ _).mono ?_
  rintro e w10 ⟨rfl, hx10⟩
  go_wp2_with fail
  refine (prove_nil _ _).mono ?_
  rintro e w11 ⟨rfl, hx11⟩
  have b11 : Blk w11 w.heap.size 23 d.cells := Blk.ext (Blk.ext (Blk.ext (Blk.alloc (Blk.alloc b2 _) _) hx9) hx10) hx11
  have hh11 := Blk.has b11
  have hg11 := Blk.gets b11
  go_wp2_with fail
  refine (silence_nil _).mono ?_
  rintro e w12 ⟨rfl, rfl⟩
  go_wp2_with fail
  refine (new_ok d Dg.zero Dg.zero size k (by omega) (by omega) (by omega) (by omega) _).mono ?_
  rintro e w13 ⟨g2, _, rfl, hA13, hx13⟩
  go_wp2_with fail
  refine (told_any _).mono ?_
  rintro e w14 ⟨rfl, hx14⟩
  go_wp2_with fail
  go_ret
  refine ⟨rfl, ?_⟩
  exact ((((((((((Kept.refl _ w).alloc _).trans hx1).trans hx2).alloc _).alloc _).trans hx9).trans hx10).trans hx11).trans hx13).trans hx14
set_option maxRecDepth 100000 in
set_option maxHeartbeats 2000000 in
theorem nil_walk_no (size k : Int) (d : Dg) (w : World) (hr : size < 1 ∨ 2048 < size ∨ k < 0 ∨ 20 < k) :
    Calls Tryz.prog 5 #[.int .i64 size, .int .i64 k, .agg #[.int .u8 d.x0, .int .u8 d.x1, .int .u8 d.x2, .int .u8 d.x3, .int .u8 d.x4, .int .u8 d.x5, .int .u8 d.x6, .int .u8 d.x7]] w fun e w' => e = .returned (.bool true) ∧ Ext w w' := by
  have HR := Lib.hid hr
  clear hr
  go_enter Tryz.func5, Tryz.ntmps5
  go_wp2_with fail
  refine (new_ok Dg.zero Dg.zero Dg.zero 1 0 (by decide) (by decide) (by decide) (by decide) _).mono ?_
  rintro e w1 ⟨g, hg, rfl, hA1, hx1⟩
  go_wp2_with fail
  refine (span_nil _).mono ?_
  rintro e w2 ⟨rfl, hx2⟩
  go_wp2_with fail
  have b2 : Blk w2 w.heap.size 23 d.cells := Blk.ext (Blk.ext (Blk.new w _ d.cells) hx1) hx2
  have hh2 := Blk.has b2
  have hg2 := Blk.gets b2
  have hl2 := Blk.lt b2
  have hl3 := Nat.lt_succ_of_lt hl2
  refine (winner_nil _).mono ?_
  rintro e w3 ⟨rfl, rfl⟩
  go_wp2_with fail
  refine (turn_nil _).mono ?_
  rintro e w4 ⟨rfl, rfl⟩
  go_wp2_with fail
  refine (clone_nil _).mono ?_
  rintro e w5 ⟨rfl, rfl⟩
  go_wp2_with fail
  refine (same_nil _).mono ?_
  rintro e w6 ⟨rfl, rfl⟩
  go_wp2_with fail
  refine (same_nil1 _ _).mono ?_
  rintro e w7 ⟨rfl, rfl⟩
  go_wp2_with fail
  refine (same_nil2 _ _).mono ?_
  rintro e w8 ⟨rfl, rfl⟩
  go_wp2_with fail
  refine (tell_nil d _).mono ?_
  rintro e w9 ⟨rfl, hx9⟩
  go_wp2_with fail
  refine (choose_nil _ _).mono ?_
  rintro e w10 ⟨rfl, hx10⟩
  go_wp2_with fail
  refine (prove_nil _ _).mono ?_
  rintro e w11 ⟨rfl, hx11⟩
  have b11 : Blk w11 w.heap.size 23 d.cells := Blk.ext (Blk.ext (Blk.ext (Blk.alloc (Blk.alloc b2 _) _) hx9) hx10) hx11
  have hh11 := Blk.has b11
  have hg11 := Blk.gets b11
  go_wp2_with fail
  refine (silence_nil _).mono ?_
  rintro e w12 ⟨rfl, rfl⟩
  go_wp2_with fail
  refine (new_no d Dg.zero Dg.zero size k HR.out _).mono ?_
  rintro e w13 ⟨rfl, hx13⟩
  have hr := HR.out
  by_cases h1 : size < 1
  · go_wp2_with fail
    refine (told_any _).mono ?_
    rintro e w14 ⟨rfl, hx14⟩
    go_wp2_with fail
    go_ret
    refine ⟨rfl, ?_⟩
    exact ((((((((((Kept.refl _ w).alloc _).trans hx1).trans hx2).alloc _).alloc _).trans hx9).trans hx10).trans hx11).trans hx13).trans hx14
  · by_cases h2 : 2048 < size
    · go_wp2_with fail
      refine (told_any _).mono ?_
      rintro e w14 ⟨rfl, hx14⟩
      go_wp2_with fail
      go_ret
      refine ⟨rfl, ?_⟩
      exact ((((((((((Kept.refl _ w).alloc _).trans hx1).trans hx2).alloc _).alloc _).trans hx9).trans hx10).trans hx11).trans hx13).trans hx14
    · by_cases h3 : k < 0
      · go_wp2_with fail
        refine (told_any _).mono ?_
        rintro e w14 ⟨rfl, hx14⟩
        go_wp2_with fail
        go_ret
        refine ⟨rfl, ?_⟩
        exact ((((((((((Kept.refl _ w).alloc _).trans hx1).trans hx2).alloc _).alloc _).trans hx9).trans hx10).trans hx11).trans hx13).trans hx14
      · have h4 : 20 < k := by omega
        clear hr
        have q4 : decide (k ≤ 20) = false := by simp; omega
        go_wp2_with fail
        refine (told_any _).mono ?_
        rintro e w14 ⟨rfl, hx14⟩
        go_wp2_with fail
        go_ret
        refine ⟨rfl, ?_⟩
        exact ((((((((((Kept.refl _ w).alloc _).trans hx1).trans hx2).alloc _).alloc _).trans hx9).trans hx10).trans hx11).trans hx13).trans hx14
end Go.Proofs.YtahljceanodhkaaGreatDoor
