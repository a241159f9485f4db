/- a slice made inside a drawing region; the law's own small functions. -/
import Derived.Test.YtahljceanodhkaaGreatDoorTd
namespace Go.Proofs.YtahljceanodhkaaGreatDoor
open Go.RowKit
theorem w3_make {P : Program} {ops : Array Oper} {Q : Exit → Act → World → Prop} {S : World → Prop} {od : List (Nat × Nat)} {k : Nat} {l : List Oper} {r : List (Nat × Nat)} {a : Act} {w : World} {o : Oper} (hgd : o.guard = none) (x y : Operand) (T : TypeId)
    (ho : o.op = .makeSlice T x y) {v s v' : Value} {w' : World} (hx : a.eval x = v) (hy : a.eval y = s)
    (hrun : (Instr.makeSlice T v s).run P w = .ok v' w') (hS : S w → S w') (h : wpOp3 P ops Q S od r l (a.put o.dst v') w') : wpOp3 P ops Q S od ((k, 0) :: r) (o :: l) a w := by
  have hw : Region.wanted o (yielded ops a.tmps) = true := by simp [Region.wanted, hgd]
  unfold wpOp3
  rw [if_pos hw]
  refine .inl ?_
  unfold Oper.wp execOp
  simp only [ho, Sem.run_bind, Sem.run_pure, Result.andThen_ok, hx, hy, hrun]
  exact ⟨.inr hS, h⟩
theorem digs_rep (n : Nat) : digs (List.replicate n Dg.zero) = List.replicate (n * 8) (.int .u8 0) := by
  induction n with
  | zero => simp [digs]
  | succ n ih => rw [List.replicate_succ, digs_cons, ih, show (n + 1) * 8 = 8 + n * 8 by omega, ← List.replicate_append_replicate]; rfl
theorem madeZ (n : Nat) : (madeCells Dg.zero.cells (n * 8)).toList = digs (List.replicate n Dg.zero) := by
  rw [digs_rep]
  apply List.ext_getElem
  · simp [madeCells]
  · intro i h1 h2
    have h8 : i % 8 < 8 := Nat.mod_lt _ (by omega)
    simp only [madeCells, List.getElem_replicate]
    simp only [Array.getElem_toList, Array.getElem_map, Array.getElem_range]
    show Dg.zero.cells[i % 8]! = _
    generalize i % 8 = j at h8
    rcases (by omega : j = 0 ∨ j = 1 ∨ j = 2 ∨ j = 3 ∨ j = 4 ∨ j = 5 ∨ j = 6 ∨ j = 7) with rfl | rfl | rfl | rfl | rfl | rfl | rfl | rfl <;> rfl
theorem makeF (w : World) (n : Nat) (h : n ≤ 100000) :
    ∃ w', (Instr.makeSlice 42 (.int .i64 (n : Int)) (.int .i64 (n : Int))).run Tryz.prog w = .ok (.slice (some ⟨w.heap.size, 0, none⟩) n n) w' ∧ Blk w' w.heap.size 30 (digs (List.replicate n Dg.zero)).toArray ∧ Ext w w' := by
  obtain ⟨i, hi, hz, h1, h2⟩ := info_parts infoE8
  have hr := run_makeSlice (P := Tryz.prog) w 42 30 i _ Tryz.underlying42 hi hz .i64 .i64 n n (by omega) (Int.le_refl _) (by rw [h1]; simp; omega) (by rw [h2]; omega) (by omega)
  simp only [Int.toNat_natCast] at hr
  rw [h1] at hr
  refine ⟨_, hr, ?_, (Kept.refl _ w).alloc _⟩
  have : (madeCells (Value.agg Dg.zero.cells).cells (n * 8)) = (digs (List.replicate n Dg.zero)).toArray := by
    rw [← madeZ n]; rfl
  rw [this]
  exact Blk.new w _ _
end Go.Proofs.YtahljceanodhkaaGreatDoor
