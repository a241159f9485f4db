/- The document's example of layer 22: known. -/
import Derived.Test.YtahljceanodhkaaGreatDoorWe
namespace Go.Proofs.YtahljceanodhkaaGreatDoor
open Go.RowKit
abbrev ins0 : Ins := ⟨0, 0, 0, 0⟩
theorem i64z : i64ok 0 := by unfold i64ok; omega
theorem ins0_ok : ins0.ok := ⟨i64z, i64z, i64z, i64z⟩
theorem st7 : ¬ (stateR 0 1 [7]).x0 = 0 := by decide +kernel
theorem bare_cells (pc halt : Int) (l : List Int) : (bareStep pc halt l).cells = bareC pc halt l.length (memR l) := rfl
set_option maxRecDepth 100000 in
set_option maxHeartbeats 2000000 in
theorem known_any (w : World) : Calls Tryz.prog 27 #[] w fun e w' => e = .returned (.bool true) ∧ Ext w w' := by
  obtain ⟨C, hC⟩ : ∃ C, C = codeR [ins0] := ⟨_, rfl⟩
  obtain ⟨Q, hQ⟩ : ∃ Q, Q = stateR 0 1 [7] := ⟨_, rfl⟩
  obtain ⟨M, hM⟩ : ∃ M, M = memR [7] := ⟨_, rfl⟩
  have hq0 : (Q.x0 == 0) = false := by rw [hQ]; simpa using st7
  have HC := Lib.hid hC
  have HQ := Lib.hid hQ
  have HM := Lib.hid hM
  clear hC hQ hM
  have hx0 : Ext w _ := (((Kept.refl _ w).alloc (.cells ins0.cells 41)).alloc (.cells #[.int .i32 7] 21)).alloc (.cells (stCells 0 (some ⟨w.heap.size + 1, 0, none⟩) 1 1 1) 70)
  have hI0 : Blk _ w.heap.size 41 ins0.cells := Blk.alloc (Blk.alloc (Blk.new w _ _) (.cells #[.int .i32 7] 21)) (.cells (stCells 0 (some ⟨w.heap.size + 1, 0, none⟩) 1 1 1) 70)
  have hM0 : Blk _ (w.heap.size + 1) 21 #[.int .i32 7] := Blk.alloc (Blk.new' (w.alloc (.cells ins0.cells 41)) _ _ _ (by simp)) (.cells (stCells 0 (some ⟨w.heap.size + 1, 0, none⟩) 1 1 1) 70)
  have hS0 : Blk _ (w.heap.size + 1 + 1) 70 (stCells 0 (some ⟨w.heap.size + 1, 0, none⟩) 1 1 1) := Blk.new' ((w.alloc (.cells ins0.cells 41)).alloc (.cells #[.int .i32 7] 21)) _ _ _ (by simp)
  go_enter Tryz.func27, Tryz.ntmps27
  go_wp2_with fail
  refine (wcode_ok (some ⟨w.heap.size, 0, none⟩) w.heap.size 0 1 [ins0] 1 rfl (by omega) (by omega) (fun i hi => by simp at hi; subst hi; exact ins0_ok) (fun _ => rfl) _ (fun _ => Row.of_blk hI0)).mono ?_
  rintro e w1 ⟨e1, hx1⟩
  replace e1 : e = .returned (.tuple #[.agg C.cells, .int .i64 0]) := by rw [e1, HC.out]
  subst e1
  have y1 := (hx0.trans hx1).alloc (.cells C.cells 30)
  have hI1 := Blk.alloc (Blk.ext hI0 hx1) (.cells C.cells 30)
  have hM1 := Blk.alloc (Blk.ext hM0 hx1) (.cells C.cells 30)
  have hS1 := Blk.alloc (Blk.ext hS0 hx1) (.cells C.cells 30)
  have hC1 := Blk.new w1 30 C.cells
  have hl1 := (Blk.ext hS0 hx1).lt
  have hh1 := Blk.has (Blk.ext hS0 hx1)
  have hg1 := Blk.gets (Blk.ext hS0 hx1)
  clear hI0 hM0 hS0 hx0 hx1
  go_wp2_with fail
  generalize (w1.alloc (.cells #[.int .u8 C.x0, .int .u8 C.x1, .int .u8 C.x2, .int .u8 C.x3, .int .u8 C.x4, .int .u8 C.x5, .int .u8 C.x6, .int .u8 C.x7] 30)) = W1 at y1 hI1 hM1 hS1 hC1 ⊢
  clear hh1 hg1
  generalize w1.heap.size = c1 at hC1 hl1 ⊢
  refine (wstate_ok 0 1 (some ⟨w.heap.size + 1, 0, none⟩) (w.heap.size + 1) 0 1 [7] 1 rfl (by decide) (fun _ => rfl) _ (fun _ => Row.of_blk hM1)).mono ?_
  rintro e w2 ⟨e2, hx2⟩
  replace e2 : e = .returned (.tuple #[.agg Q.cells, .int .i64 0]) := by rw [e2, HQ.out]
  subst e2
  have y2 := (y1.trans hx2).alloc (.cells Q.cells 30)
  have hI2 := Blk.alloc (Blk.ext hI1 hx2) (.cells Q.cells 30)
  have hM2 := Blk.alloc (Blk.ext hM1 hx2) (.cells Q.cells 30)
  have hS2 := Blk.alloc (Blk.ext hS1 hx2) (.cells Q.cells 30)
  have hC2 := Blk.alloc (Blk.ext hC1 hx2) (.cells Q.cells 30)
  have hQ2 := Blk.new w2 30 Q.cells
  have hl2 := (Blk.ext hC1 hx2).lt
  clear hI1 hM1 hS1 hC1 y1 hx2
  go_upto_region 5 with (fail)
  generalize (w2.alloc (.cells #[.int .u8 Q.x0, .int .u8 Q.x1, .int .u8 Q.x2, .int .u8 Q.x3, .int .u8 Q.x4, .int .u8 Q.x5, .int .u8 Q.x6, .int .u8 Q.x7] 30)) = W2 at y2 hI2 hM2 hS2 hC2 hQ2 ⊢
  generalize w2.heap.size = c2 at hQ2 hl2 ⊢
  have hh2 := Blk.has hQ2
  have hg2 := Blk.gets hQ2
  have hh3 := Blk.has hS2
  have hg3 := Blk.gets hS2
  go_wp2_with fail
  refine (make_stays (some ⟨w.heap.size, 0, none⟩) w.heap.size 0 1 [ins0] 1 rfl (by omega) (by omega) (fun i hi => by simp at hi; subst hi; exact ins0_ok) (fun _ => rfl) 0 1 (some ⟨w.heap.size + 1, 0, none⟩) (w.heap.size + 1) 0 1 [7] 1 rfl (by decide) (fun _ => rfl) (.inl (by decide)) _ (fun _ => Row.of_blk hI2) (fun _ => Row.of_blk hM2)).mono ?_
  rintro e w3 ⟨e3, hx3⟩
  replace e3 : e = .returned (.tuple #[.agg (bareC 0 1 1 M), .int .i64 0]) := by rw [e3, HM.out]; rfl
  subst e3
  have hC3 := Blk.alloc (Blk.ext hC2 hx3) (.cells (bareC 0 1 1 M) 45)
  have hQ3 := Blk.alloc (Blk.ext hQ2 hx3) (.cells (bareC 0 1 1 M) 45)
  have hW3 := Blk.new w3 45 (bareC 0 1 1 M)
  have y3 := (y2.trans hx3).alloc (.cells (bareC 0 1 1 M) 45)
  have hl3 := (Blk.ext hQ2 hx3).lt
  clear hh2 hg2 hh3 hg3 hI2 hM2 hS2 hC2 hQ2 hx3 y2
  go_upto_region 8 with (fail)
  generalize (w3.alloc (.cells (bareC 0 1 1 M) 45)) = W3 at y3 hC3 hQ3 hW3 ⊢
  generalize w3.heap.size = c3 at hW3 hl3 ⊢
  have hh4 := Blk.has hC3
  have hg4 := Blk.gets hC3
  have hh5 := Blk.has hQ3
  have hg5 := Blk.gets hQ3
  have hh6 := Blk.has hW3
  have hg6 := Blk.gets hW3
  have hc6 := Blk.cell hW3
  go_wp2_with fail
  have hck := check_stays (bareStep 0 1 [7]) C 1 W3 (hWord_ok _ _) (by omega) (by omega) (by decide) (.inl (by decide)) rfl rfl rfl
  have e5 : hHead (bareStep 0 1 [7]).pc (bareStep 0 1 [7]).halt (bareStep 0 1 [7]).words (bareStep 0 1 [7]).mem = Q := HQ.out.symm
  have e6 : (bareStep 0 1 [7]).same = Q := HQ.out.symm
  rw [e5, e6, bare_cells, ← HM.out] at hck
  refine hck.mono ?_
  rintro e w4 ⟨rfl, hx4⟩
  clear hck
  go_wp2_with fail
  go_ret
  exact ⟨rfl, y3.trans hx4⟩
end Go.Proofs.YtahljceanodhkaaGreatDoor
