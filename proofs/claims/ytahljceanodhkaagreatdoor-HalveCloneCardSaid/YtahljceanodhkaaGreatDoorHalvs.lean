/- The walk of (*halve.Trial).Same. -/
import Derived.Test.YtahljceanodhkaaGreatDoorHalvn
import Derived.Test.YtahljceanodhkaaGreatDoorOrdo
namespace Go.Proofs.YtahljceanodhkaaGreatDoor
open Go.RowKit
attribute [go_sem] eqDig
theorem guardSpan : Tryz.prog.eqGuardType Tryz.prog.depth 114 = false := by kernel_rfl
theorem stoodSpan : Tryz.prog.stoodInHeld 114 = false := by kernel_rfl
attribute [go_sem] guardSpan stoodSpan
set_option maxRecDepth 100000 in
set_option maxHeartbeats 1000000 in
theorem same_yes (b b' : Nat) (t : Tr) (w : World) (ht : At w b t) (ht' : At w b' t) :
    Calls Tryz.prog 22 #[.pointer (some ⟨b, 0, none⟩), .pointer (some ⟨b', 0, none⟩)] w fun e w' => e = .returned (.bool true) ∧ Ext w w' := by
  have hc := Blk.cell ht
  have hh := Blk.has ht
  have hg := Blk.gets ht
  have hc' := Blk.cell ht'
  have hh' := Blk.has ht'
  have hg' := Blk.gets ht'
  go_enter Tryz.func22, Tryz.ntmps22
  go_wp2
  refine wp_region_eq [true, true, true, true, true, true, true, true, true, true, true, true, true, true, true, true, true, true, true, true, true, true, true, true, true, true, true, true, true, true, true, true, true, true, true, true, true, true, true, true, true, true, true, true, true, true, true, true, true, true, true, true, true, true, true, true, true, true, true, true, true, true, true, true, true] (by kernel_rfl) (by kernel_rfl) (by kernel_rfl) ?_
  (repeat (first | ((apply wpTx_take); (· exact rfl); (· go_simp); (· (intro w1 hS; subst hS;  go_simp; try with_reducible rfl)); (intro K hK; go_simp; refine hK _ _ ?_; clear hK K)) | ((apply wpTx_pass); (· exact rfl); (· go_simp); (intro K hK; go_simp; refine hK _ _ ?_; clear hK K))))
  refine wpTx_nil ?_
  go_wp2
  go_ret
  refine ⟨rfl, ?_⟩
  ((repeat' (with_reducible (first | apply Kept.drew | apply Kept.drewN | apply Kept.alloc | apply Kept.setCell | apply Kept.putAt | exact Kept.refl _ _))) <;> (intro hlt; first | rfl | (simp at hlt; done) | (exfalso; simp at hlt; omega) | omega))
set_option maxRecDepth 100000 in
set_option maxHeartbeats 1000000 in
theorem same_turn (b b' : Nat) (t : Tr) (u v : Int) (m : Dg) (w : World) (ht : At w b t) (ht' : At w b' { t with mid := m, turn := u, winner := v }) (h : (t.turn == u) = false) :
    Calls Tryz.prog 22 #[.pointer (some ⟨b, 0, none⟩), .pointer (some ⟨b', 0, none⟩)] w fun e w' => e = .returned (.bool false) ∧ Ext w w' := by
  have hc := Blk.cell ht
  have hh := Blk.has ht
  have hg := Blk.gets ht
  have hc' := Blk.cell ht'
  have hh' := Blk.has ht'
  have hg' := Blk.gets ht'
  go_enter Tryz.func22, Tryz.ntmps22
  go_wp2
  refine wp_region_eq [true, true, true, true, true, true, true, true, true, true, true, true, true, true, true, true, true, true, true, true, true, true, true, true, true, true, true, true, true, true, true, true, true, true, true, true, true, true, true, true, true, true, true, true, true, true, true, true, true, true, true, true, true, true, true, true, true, true, true, true, true, true, true, true, true] (by kernel_rfl) (by kernel_rfl) (by kernel_rfl) ?_
  (repeat (first | ((apply wpTx_take); (· exact rfl); (· go_simp); (· (intro w1 hS; subst hS;  go_simp; try with_reducible rfl)); (intro K hK; go_simp; refine hK _ _ ?_; clear hK K)) | ((apply wpTx_pass); (· exact rfl); (· go_simp); (intro K hK; go_simp; refine hK _ _ ?_; clear hK K))))
  refine wpTx_nil ?_
  go_wp2
  go_ret
  refine ⟨rfl, ?_⟩
  ((repeat' (with_reducible (first | apply Kept.drew | apply Kept.drewN | apply Kept.alloc | apply Kept.setCell | apply Kept.putAt | exact Kept.refl _ _))) <;> (intro hlt; first | rfl | (simp at hlt; done) | (exfalso; simp at hlt; omega) | omega))
set_option maxRecDepth 100000 in
set_option maxHeartbeats 1000000 in
theorem same_steps (b b' : Nat) (t o : Tr) (w : World) (ht : At w b t) (ht' : At w b' o) (h : t.from_ = o.from_) (h1 : ¬ t.steps = o.steps) :
    Calls Tryz.prog 22 #[.pointer (some ⟨b, 0, none⟩), .pointer (some ⟨b', 0, none⟩)] w fun e w' => e = .returned (.bool false) ∧ Ext w w' := by
  have hc := Blk.cell ht
  have hh := Blk.has ht
  have hg := Blk.gets ht
  have hc' := Blk.cell ht'
  have hh' := Blk.has ht'
  have hg' := Blk.gets ht'
  go_enter Tryz.func22, Tryz.ntmps22
  go_wp2
  refine wp_region_eq [true, true, true, true, true, true, true, true, true, true, true, true, true, true, true, true, true, true, true, true, true, true, true, true, true, true, true, true, true, true, true, true, true, true, true, true, true, true, true, true, true, true, true, true, true, true, true, true, true, true, true, true, true, true, true, true, true, true, true, true, true, true, true, true, true] (by kernel_rfl) (by kernel_rfl) (by kernel_rfl) ?_
  (repeat (first | ((apply wpTx_take); (· exact rfl); (· go_simp); (· (intro w1 hS; subst hS;  go_simp; try with_reducible rfl)); (intro K hK; go_simp; refine hK _ _ ?_; clear hK K)) | ((apply wpTx_pass); (· exact rfl); (· go_simp); (intro K hK; go_simp; refine hK _ _ ?_; clear hK K))))
  refine wpTx_nil ?_
  go_wp2
  go_ret
  refine ⟨rfl, ?_⟩
  ((repeat' (with_reducible (first | apply Kept.drew | apply Kept.drewN | apply Kept.alloc | apply Kept.setCell | apply Kept.putAt | exact Kept.refl _ _))) <;> (intro hlt; first | rfl | (simp at hlt; done) | (exfalso; simp at hlt; omega) | omega))
set_option maxRecDepth 100000 in
set_option maxHeartbeats 1000000 in
theorem same_from (b b' : Nat) (t o : Tr) (w : World) (ht : At w b t) (ht' : At w b' o) (h : ¬ t.from_ = o.from_) :
    Calls Tryz.prog 22 #[.pointer (some ⟨b, 0, none⟩), .pointer (some ⟨b', 0, none⟩)] w fun e w' => e = .returned (.bool false) ∧ Ext w w' := by
  have hc := Blk.cell ht
  have hh := Blk.has ht
  have hg := Blk.gets ht
  have hc' := Blk.cell ht'
  have hh' := Blk.has ht'
  have hg' := Blk.gets ht'
  go_enter Tryz.func22, Tryz.ntmps22
  go_wp2
  refine wp_region_eq [true, true, true, true, true, true, true, true, true, true, true, true, true, true, true, true, true, true, true, true, true, true, true, true, true, true, true, true, true, true, true, true, true, true, true, true, true, true, true, true, true, true, true, true, true, true, true, true, true, true, true, true, true, true, true, true, true, true, true, true, true, true, true, true, true] (by kernel_rfl) (by kernel_rfl) (by kernel_rfl) ?_
  (repeat (first | ((apply wpTx_take); (· exact rfl); (· go_simp); (· (intro w1 hS; subst hS;  go_simp; try with_reducible rfl)); (intro K hK; go_simp; refine hK _ _ ?_; clear hK K)) | ((apply wpTx_pass); (· exact rfl); (· go_simp); (intro K hK; go_simp; refine hK _ _ ?_; clear hK K))))
  refine wpTx_nil ?_
  go_wp2
  go_ret
  refine ⟨rfl, ?_⟩
  ((repeat' (with_reducible (first | apply Kept.drew | apply Kept.drewN | apply Kept.alloc | apply Kept.setCell | apply Kept.putAt | exact Kept.refl _ _))) <;> (intro hlt; first | rfl | (simp at hlt; done) | (exfalso; simp at hlt; omega) | omega))
end Go.Proofs.YtahljceanodhkaaGreatDoor
