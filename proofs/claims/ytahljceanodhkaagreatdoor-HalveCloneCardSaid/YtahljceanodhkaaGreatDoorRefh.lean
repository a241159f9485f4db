/- The walks of package baizeref23 (the document's trial). -/
import Derived.Test.YtahljceanodhkaaGreatDoorRefd
namespace Go.Proofs.YtahljceanodhkaaGreatDoor
open Go.RowKit
set_option maxHeartbeats 400000 in
theorem rturn_any (r : Rt) (w : World) : Calls Tryz.prog 65 #[.agg r.cells] w fun e w' => e = .returned (.int .i64 r.turn) ∧ Ext w w' := by
  unfold Rt.turn
  by_cases h : 0 ≤ r.won
  · rw [if_pos h]
    go_enter Tryz.func65, Tryz.ntmps65
    go_wp2
    go_ret
    refine ⟨rfl, ?_⟩
    ((repeat' (with_reducible (first | apply Kept.drew | apply Kept.drewN | apply Kept.alloc | apply Kept.setCell | apply Kept.putAt | exact Kept.refl _ _))) <;> (intro hlt; first | rfl | (simp at hlt; done) | (exfalso; simp at hlt; omega) | omega))
  · rw [if_neg h]
    cases ht : r.told
    all_goals
      go_enter Tryz.func65, Tryz.ntmps65
      go_wp2
      go_ret
      refine ⟨rfl, ?_⟩
      ((repeat' (with_reducible (first | apply Kept.drew | apply Kept.drewN | apply Kept.alloc | apply Kept.setCell | apply Kept.putAt | exact Kept.refl _ _))) <;> (intro hlt; first | rfl | (simp at hlt; done) | (exfalso; simp at hlt; omega) | omega))
set_option maxHeartbeats 400000 in
theorem rtell_over (r : Rt) (d : Dg) (w : World) (h : 0 ≤ r.won) : Calls Tryz.prog 61 #[.agg r.cells, .agg #[.int .u8 d.x0, .int .u8 d.x1, .int .u8 d.x2, .int .u8 d.x3, .int .u8 d.x4, .int .u8 d.x5, .int .u8 d.x6, .int .u8 d.x7]] w fun e w' => e = .returned (.tuple #[.agg r.cells, .int .i64 15]) ∧ Ext w w' := by
  go_enter Tryz.func61, Tryz.ntmps61
  go_wp2
  refine ret_ci Tryz.results61 rfl rfl aggRt (by exact sizeRt) (Blk.new' _ _ _ _ (by simp)) ⟨rfl, ?_⟩
  ((repeat' (with_reducible (first | apply Kept.drew | apply Kept.drewN | apply Kept.alloc | apply Kept.setCell | apply Kept.putAt | exact Kept.refl _ _))) <;> (intro hlt; first | rfl | (simp at hlt; done) | (exfalso; simp at hlt; omega) | omega))
set_option maxHeartbeats 400000 in
theorem rtell_told (r : Rt) (d : Dg) (w : World) (h : ¬ 0 ≤ r.won) (ht : r.told = true) : Calls Tryz.prog 61 #[.agg r.cells, .agg #[.int .u8 d.x0, .int .u8 d.x1, .int .u8 d.x2, .int .u8 d.x3, .int .u8 d.x4, .int .u8 d.x5, .int .u8 d.x6, .int .u8 d.x7]] w fun e w' => e = .returned (.tuple #[.agg r.cells, .int .i64 10]) ∧ Ext w w' := by
  go_enter Tryz.func61, Tryz.ntmps61
  go_wp2
  refine ret_ci Tryz.results61 rfl rfl aggRt (by exact sizeRt) (Blk.new' _ _ _ _ (by simp)) ⟨by simp, ?_⟩
  ((repeat' (with_reducible (first | apply Kept.drew | apply Kept.drewN | apply Kept.alloc | apply Kept.setCell | apply Kept.putAt | exact Kept.refl _ _))) <;> (intro hlt; first | rfl | (simp at hlt; done) | (exfalso; simp at hlt; omega) | omega))
set_option maxHeartbeats 400000 in
theorem rtell_one (r : Rt) (d : Dg) (w : World) (h : ¬ 0 ≤ r.won) (ht : r.told = false) (hs : (r.steps == 1) = true) : Calls Tryz.prog 61 #[.agg r.cells, .agg #[.int .u8 d.x0, .int .u8 d.x1, .int .u8 d.x2, .int .u8 d.x3, .int .u8 d.x4, .int .u8 d.x5, .int .u8 d.x6, .int .u8 d.x7]] w fun e w' => e = .returned (.tuple #[.agg r.cells, .int .i64 10]) ∧ Ext w w' := by
  go_enter Tryz.func61, Tryz.ntmps61
  go_wp2
  refine ret_ci Tryz.results61 rfl rfl aggRt (by exact sizeRt) (Blk.new' _ _ _ _ (by simp)) ⟨by simp, ?_⟩
  ((repeat' (with_reducible (first | apply Kept.drew | apply Kept.drewN | apply Kept.alloc | apply Kept.setCell | apply Kept.putAt | exact Kept.refl _ _))) <;> (intro hlt; first | rfl | (simp at hlt; done) | (exfalso; simp at hlt; omega) | omega))
set_option maxHeartbeats 400000 in
theorem rtell_ok (r : Rt) (d : Dg) (w : World) (h : ¬ 0 ≤ r.won) (ht : r.told = false) (hs : (r.steps == 1) = false) : Calls Tryz.prog 61 #[.agg r.cells, .agg #[.int .u8 d.x0, .int .u8 d.x1, .int .u8 d.x2, .int .u8 d.x3, .int .u8 d.x4, .int .u8 d.x5, .int .u8 d.x6, .int .u8 d.x7]] w fun e w' => e = .returned (.tuple #[.agg (Rt.cells { r with told := true, mid := d }), .int .i64 0]) ∧ Ext w w' := by
  go_enter Tryz.func61, Tryz.ntmps61
  go_wp2
  refine wp_region_tx (fun w1 => Blk w1 (w.heap.size + 1) 23 d.cells) [true, true, false, false, false] (by kernel_rfl) (by kernel_rfl) (by kernel_rfl) ?_
  (repeat (first | ((apply wpTx_take); (· exact (Blk.drew (Blk.alloc (Blk.new' _ _ _ _ (by simp)) _))); (· go_simp); (· (intro w1 hS; have hh := Blk.has hS; have hg := Blk.gets hS;  go_simp; try with_reducible rfl)); (intro K hK; go_simp; refine hK _ _ ?_; clear hK K)) | ((apply wpTx_pass); (· exact (Blk.drew (Blk.alloc (Blk.new' _ _ _ _ (by simp)) _))); (· go_simp); (intro K hK; go_simp; refine hK _ _ ?_; clear hK K))))
  (repeat (refine wpTx_act (fun K hK => ?_); go_simp; refine hK.out _ _ (Blk.drew (Blk.alloc (Blk.new' _ _ _ _ (by simp)) _)) (fun _ => ?_); clear hK K))
  refine wpTx_nil ?_
  go_wp2
  refine ret_ci Tryz.results61 rfl rfl aggRt (by exact sizeRt) (Blk.drew (Blk.new' _ _ _ _ (by simp))) ⟨rfl, ?_⟩
  ((repeat' (with_reducible (first | apply Kept.drew | apply Kept.drewN | apply Kept.alloc | apply Kept.setCell | apply Kept.putAt | exact Kept.refl _ _))) <;> (intro hlt; first | rfl | (simp at hlt; done) | (exfalso; simp at hlt; omega) | omega))
theorem rtell_any (r : Rt) (d : Dg) (w : World) : Calls Tryz.prog 61 #[.agg r.cells, .agg #[.int .u8 d.x0, .int .u8 d.x1, .int .u8 d.x2, .int .u8 d.x3, .int .u8 d.x4, .int .u8 d.x5, .int .u8 d.x6, .int .u8 d.x7]] w fun e w' => e = .returned (.tuple #[.agg (r.tell d).1.cells, .int .i64 (r.tell d).2]) ∧ Ext w w' := by
  by_cases h : 0 ≤ r.won
  · rw [show r.tell d = (r, 15) by simp [Rt.tell, h]]
    exact rtell_over r d w h
  · cases ht : r.told
    · cases hs : r.steps == 1
      · rw [show r.tell d = ({ r with told := true, mid := d }, 0) by simp only [Rt.tell, if_neg h, ht, hs]; rfl]
        exact rtell_ok r d w h ht hs
      · rw [show r.tell d = (r, 10) by simp [Rt.tell, h, ht]; simpa using hs]
        exact rtell_one r d w h ht hs
    · rw [show r.tell d = (r, 10) by simp [Rt.tell, h, ht]]
      exact rtell_told r d w h ht
set_option maxHeartbeats 400000 in
theorem rchoose_any (r : Rt) (f : Bool) (w : World) (h0 : 0 ≤ r.steps) (h1 : r.steps ≤ 1048576) (h2 : 0 ≤ r.from_) (h3 : r.from_ ≤ 1048576) :
    Calls Tryz.prog 62 #[.agg r.cells, .bool f] w fun e w' => e = .returned (.tuple #[.agg (r.choose f).1.cells, .int .i64 (r.choose f).2]) ∧ Ext w w' := by
  unfold Rt.choose
  by_cases h : 0 ≤ r.won
  · simp only [if_pos h]
    go_enter Tryz.func62, Tryz.ntmps62
    go_wp2
    refine ret_ci Tryz.results62 rfl rfl aggRt (by exact sizeRt) (Blk.new' _ _ _ _ (by simp)) ⟨rfl, ?_⟩
    ((repeat' (with_reducible (first | apply Kept.drew | apply Kept.drewN | apply Kept.alloc | apply Kept.setCell | apply Kept.putAt | exact Kept.refl _ _))) <;> (intro hlt; first | rfl | (simp at hlt; done) | (exfalso; simp at hlt; omega) | omega))
  · simp only [if_neg h]
    cases ht : r.told
    · simp only [Bool.false_eq_true, if_false]
      go_enter Tryz.func62, Tryz.ntmps62
      go_wp2
      refine ret_ci Tryz.results62 rfl rfl aggRt (by exact sizeRt) (Blk.new' _ _ _ _ (by simp)) ⟨by simp, ?_⟩
      ((repeat' (with_reducible (first | apply Kept.drew | apply Kept.drewN | apply Kept.alloc | apply Kept.setCell | apply Kept.putAt | exact Kept.refl _ _))) <;> (intro hlt; first | rfl | (simp at hlt; done) | (exfalso; simp at hlt; omega) | omega))
    · cases f
      all_goals
        simp only [Bool.false_eq_true, if_false, if_true]
        go_enter Tryz.func62, Tryz.ntmps62
        go_wp2
        refine ret_ci Tryz.results62 rfl rfl aggRt (by exact sizeRt) (Blk.new' _ _ _ _ (by simp)) ⟨rfl, ?_⟩
        ((repeat' (with_reducible (first | apply Kept.drew | apply Kept.drewN | apply Kept.alloc | apply Kept.setCell | apply Kept.putAt | exact Kept.refl _ _))) <;> (intro hlt; first | rfl | (simp at hlt; done) | (exfalso; simp at hlt; omega) | omega))
set_option maxHeartbeats 400000 in
theorem rprove_any (r : Rt) (x : Int) (w : World) : Calls Tryz.prog 63 #[.agg r.cells, .int .i64 x] w fun e w' => e = .returned (.tuple #[.agg (r.prove x).1.cells, .int .i64 (r.prove x).2]) ∧ Ext w w' := by
  unfold Rt.prove
  by_cases h : 0 ≤ r.won
  · simp only [if_pos h]
    go_enter Tryz.func63, Tryz.ntmps63
    go_wp2
    refine ret_ci Tryz.results63 rfl rfl aggRt (by exact sizeRt) (Blk.new' _ _ _ _ (by simp)) ⟨rfl, ?_⟩
    ((repeat' (with_reducible (first | apply Kept.drew | apply Kept.drewN | apply Kept.alloc | apply Kept.setCell | apply Kept.putAt | exact Kept.refl _ _))) <;> (intro hlt; first | rfl | (simp at hlt; done) | (exfalso; simp at hlt; omega) | omega))
  · simp only [if_neg h]
    cases ht : r.told
    · by_cases hs : 1 < r.steps
      · simp only [hs, decide_true, Bool.or_true, if_true]
        go_enter Tryz.func63, Tryz.ntmps63
        go_wp2
        refine ret_ci Tryz.results63 rfl rfl aggRt (by exact sizeRt) (Blk.new' _ _ _ _ (by simp)) ⟨by simp, ?_⟩
        ((repeat' (with_reducible (first | apply Kept.drew | apply Kept.drewN | apply Kept.alloc | apply Kept.setCell | apply Kept.putAt | exact Kept.refl _ _))) <;> (intro hlt; first | rfl | (simp at hlt; done) | (exfalso; simp at hlt; omega) | omega))
      · simp only [hs, decide_false, Bool.or_self, Bool.false_eq_true, if_false]
        by_cases hx : x = 0
        · subst hx
          simp only [if_true]
          go_enter Tryz.func63, Tryz.ntmps63
          go_wp2
          refine ret_ci Tryz.results63 rfl rfl aggRt (by exact sizeRt) (Blk.new' _ _ _ _ (by simp)) ⟨by simp, ?_⟩
          ((repeat' (with_reducible (first | apply Kept.drew | apply Kept.drewN | apply Kept.alloc | apply Kept.setCell | apply Kept.putAt | exact Kept.refl _ _))) <;> (intro hlt; first | rfl | (simp at hlt; done) | (exfalso; simp at hlt; omega) | omega))
        · simp only [if_neg hx]
          have hx' : (x != 0) = true := by simpa using hx
          clear hx
          go_enter Tryz.func63, Tryz.ntmps63
          go_wp2
          refine ret_ci Tryz.results63 rfl rfl aggRt (by exact sizeRt) (Blk.new' _ _ _ _ (by simp)) ⟨by simp, ?_⟩
          ((repeat' (with_reducible (first | apply Kept.drew | apply Kept.drewN | apply Kept.alloc | apply Kept.setCell | apply Kept.putAt | exact Kept.refl _ _))) <;> (intro hlt; first | rfl | (simp at hlt; done) | (exfalso; simp at hlt; omega) | omega))
    · simp only [Bool.true_or, if_true]
      go_enter Tryz.func63, Tryz.ntmps63
      go_wp2
      refine ret_ci Tryz.results63 rfl rfl aggRt (by exact sizeRt) (Blk.new' _ _ _ _ (by simp)) ⟨by simp, ?_⟩
      ((repeat' (with_reducible (first | apply Kept.drew | apply Kept.drewN | apply Kept.alloc | apply Kept.setCell | apply Kept.putAt | exact Kept.refl _ _))) <;> (intro hlt; first | rfl | (simp at hlt; done) | (exfalso; simp at hlt; omega) | omega))
theorem Rt.turn_bounds (r : Rt) : -1 ≤ r.turn ∧ r.turn ≤ 1 := by unfold Rt.turn; split <;> (try split) <;> omega
set_option maxHeartbeats 400000 in
theorem rsilence_any (r : Rt) (w : World) : Calls Tryz.prog 64 #[.agg r.cells] w fun e w' => e = .returned (.tuple #[.agg r.silence.1.cells, .int .i64 r.silence.2]) ∧ Ext w w' := by
  have hb := r.turn_bounds
  unfold Rt.silence
  by_cases h : 0 ≤ r.won
  · simp only [if_pos h]
    go_enter Tryz.func64, Tryz.ntmps64
    go_wp2
    refine ret_ci Tryz.results64 rfl rfl aggRt (by exact sizeRt) (Blk.new' _ _ _ _ (by simp)) ⟨rfl, ?_⟩
    ((repeat' (with_reducible (first | apply Kept.drew | apply Kept.drewN | apply Kept.alloc | apply Kept.setCell | apply Kept.putAt | exact Kept.refl _ _))) <;> (intro hlt; first | rfl | (simp at hlt; done) | (exfalso; simp at hlt; omega) | omega))
  · simp only [if_neg h]
    go_enter Tryz.func64, Tryz.ntmps64
    go_wp2_with fail
    have b1 := Blk.new w 49 r.cells
    refine (rturn_any r _).mono ?_
    rintro e w1 ⟨rfl, hx1⟩
    have b2 := Blk.ext (Blk.alloc b1 _) hx1
    have b3 : Blk w1 (w.heap.size + 1) 49 _ := Blk.ext (Blk.new' _ _ _ _ (by simp)) hx1
    have hh := Blk.has b2
    have hg := Blk.gets b2
    have hc := Blk.cell b2
    have hf := Blk.frozen b2
    have hm := Blk.melts b2
    have hh3 := Blk.has b3
    have hm3 := Blk.melts b3
    go_wp2
    refine ret_ci Tryz.results64 rfl rfl aggRt (by exact sizeRt) (Blk.put_ (Blk.far b3 (by simp) _) _ _) ⟨rfl, ?_⟩
    have k1 : Ext w w1 := (((Kept.refl _ w).alloc _).alloc _).trans hx1
    exact Kept.putAt (Kept.setCell k1 _ _ (fun h => by simp at h)) _ _ _ (fun h => by omega)
end Go.Proofs.YtahljceanodhkaaGreatDoor
