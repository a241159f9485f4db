/- machine.State.Right, slices.Clone of digests. -/
import Derived.Test.YtahljceanodhkaaGreatDoorPd
import Derived.Lib.SliceRun
namespace Go.Proofs.YtahljceanodhkaaGreatDoor
open Go.RowKit
set_option maxRecDepth 100000 in
set_option maxHeartbeats 1000000 in
theorem right_any (pc halt : Int) (A : Option Addr) (n cap : Nat) (w : World) :
    Calls Tryz.prog 35 #[.agg (stCells pc A n cap halt)] w fun e w' => e = .returned (.bool (rightS pc halt n)) ∧ Ext w w' := by
  have hx0 : Ext w _ := (Kept.refl _ w).alloc (.cells (stCells pc A n cap halt) 70)
  go_enter Tryz.func35, Tryz.ntmps35
  go_wp2_with fail
  all_goals go_ret
  all_goals refine ⟨?_, hx0⟩
  all_goals simp [rightS]
  all_goals (intros; omega)
set_option maxRecDepth 100000 in
set_option maxHeartbeats 1000000 in
theorem dclone_any (b off cap : Nat) (l : List Dg) (n : Nat) (hn : n = l.length) (h2 : n ≤ 4096) (w : World) (hr : Row w b off (digs l)) :
    Calls Tryz.prog 173 #[.slice (some ⟨b, off, none⟩) n cap] w fun e w' => OwnsE w w' e n l := by
  obtain ⟨v2, w2, hr2, ho2, hk2⟩ := appE (w.alloc (.cells #[] 30)) _ _ 0 [] (own_new w 30 8) b off n cap l hn (hr.ext ((Kept.refl _ w).alloc _)) (by omega) (by simp)
  have HN := Lib.hid hn
  clear hn
  have heq := fun w => Lib.run_eql_slice_nil (P := Tryz.prog) w 42 30 (some ⟨b, off, none⟩) n cap 0 0 Tryz.underlying42
  simp only [Option.isNone_some] at heq
  go_enter Tryz.func173, Tryz.ntmps173
  go_upto_region 3 with (fail)
  go_step
  iterate 2 (refine wpList_step (fun K hK => ?_); go_simp; (try go_bits); refine hK _ _ ?_; clear hK K)
  refine wpList_app rfl (.tmp 5) (.tmp 6) 42 rfl rfl rfl rfl hr2 ?_
  clear hr2
  go_wp2_with fail
  go_ret
  rw [Nat.zero_add, List.nil_append] at ho2
  exact ⟨_, rfl, ho2, ((Kept.refl _ w).alloc _).trans' hk2 (fun i hi e => by simp [Value.ownBlock] at e; omega)⟩
end Go.Proofs.YtahljceanodhkaaGreatDoor
