/- The walk of baizeref23.New. -/
import Derived.Test.YtahljceanodhkaaGreatDoorRefd
namespace Go.Proofs.YtahljceanodhkaaGreatDoor
open Go.RowKit
set_option maxHeartbeats 1000000 in
theorem rnew_ok (a z : Dg) (sz k : Int) (hk : 0 ≤ k) (hk2 : k ≤ 20) (hs : 1 ≤ sz) (hs2 : sz ≤ 2048) (w : World) :
    Calls Tryz.prog 23 #[.int .i64 sz, .int .i64 k, .agg #[.int .u8 a.x0, .int .u8 a.x1, .int .u8 a.x2, .int .u8 a.x3, .int .u8 a.x4, .int .u8 a.x5, .int .u8 a.x6, .int .u8 a.x7], .agg #[.int .u8 z.x0, .int .u8 z.x1, .int .u8 z.x2, .int .u8 z.x3, .int .u8 z.x4, .int .u8 z.x5, .int .u8 z.x6, .int .u8 z.x7]] w fun e w' => e = .returned (.tuple #[.agg (Rt.cells ⟨0, 2 ^ k.toNat, a, z, false, Dg.zero, -1⟩), .bool true]) ∧ Ext w w' := by
  go_enter Tryz.func23, Tryz.ntmps23
  go_wp2
  go_loop [10, 11] (fun n i => ∃ j : Nat, (j : Int) ≤ k ∧ i = .int .i64 j ∧ n = .int .i64 (2 ^ j)) (fun _ i => (k - intOf i).toNat)
  case atStart => exact ⟨0, by omega, rfl, rfl⟩
  case round =>
    obtain ⟨j, hj, rfl, rfl⟩ := hrel
    have hp := pow2_le (n := j) (by omega)
    by_cases hlt : (j : Int) < k
    · go_wp2
      go_round
      case rel => exact ⟨j + 1, by omega, by go_num, by rw [Int.pow_succ, Int.mul_comm]⟩
      case measure => simp [intOf]; omega
    · have hjk : j = k.toNat := by omega
      have HJ := Lib.hid hjk
      clear hjk
      go_wp2
      refine ret_ci Tryz.results23 rfl rfl aggRt (by exact sizeRt) (Blk.new' _ _ _ _ (by simp)) ⟨by rw [← HJ.out]; rfl, ?_⟩
      ((repeat' (with_reducible (first | apply Kept.drew | apply Kept.drewN | apply Kept.alloc | apply Kept.setCell | apply Kept.putAt | exact Kept.refl _ _))) <;> (intro hlt; first | rfl | (simp at hlt; done) | (exfalso; simp at hlt; omega) | omega))
end Go.Proofs.YtahljceanodhkaaGreatDoor
