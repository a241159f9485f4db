/- Package tree: join. -/
import Derived.Test.YtahljceanodhkaaGreatDoorPf
namespace Go.Proofs.YtahljceanodhkaaGreatDoor
open Go.RowKit
theorem digs_cons (d : Dg) (l : List Dg) : digs (d :: l) = d.cells.toList ++ digs l := rfl
theorem digs_set_list : ∀ (l : List Dg) (k : Nat) (_ : k < l.length) (d : Dg), (digs l).take (k * 8) ++ d.cells.toList ++ (digs l).drop (k * 8 + 8) = digs (l.set k d)
  | x :: l, 0, _, d => by
    rw [List.set_cons_zero, digs_cons, digs_cons, Nat.zero_mul, List.take_zero, List.nil_append, Nat.zero_add, List.drop_append_of_le_length (by simp)]
    simp
  | x :: l, k + 1, hk, d => by
    have ih := digs_set_list l k (by simpa using hk) d
    rw [List.set_cons_succ, digs_cons, digs_cons, ← ih, show (k + 1) * 8 = 8 + k * 8 by omega, Nat.add_assoc, List.take_append, List.drop_append, List.take_of_length_le (l := x.cells.toList) (by simp), List.drop_of_length_le (l := x.cells.toList) (by simp)]
    simp
theorem digs_set (l : List Dg) (k : Nat) (hk : k < l.length) (d : Dg) : splice (digs l).toArray (k * 8) d.cells = (digs (l.set k d)).toArray := by
  rw [← digs_set_list l k hk d]
  simp [splice]
theorem Blk.row {w : World} {g : Nat} {E : TypeId} {l : List Value} (h : Blk w g E l.toArray) : Row w g 0 l := by simpa using Row.of_blk h
theorem Row.has1 {w w1 : World} {g o n : Nat} (hS : Ext w w1) (hg : g < w.heap.size) (h : Proofs.YtahljceanodhkaaGreatDoor.has w g (0 + o) n = true) : Proofs.YtahljceanodhkaaGreatDoor.has w1 g o n = true := by
  rw [Nat.zero_add] at h
  unfold Proofs.YtahljceanodhkaaGreatDoor.has at h ⊢
  rw [hS.block g hg (fun f => f)]
  exact h
theorem Row.get1 {w w1 : World} {g o n : Nat} {c : Array Value} (hS : Ext w w1) (hg : g < w.heap.size) (h : gets w g (0 + o) n = c) : gets w1 g o n = c := by
  rw [Nat.zero_add] at h
  unfold gets at h ⊢
  rw [hS.block g hg (fun f => f)]
  exact h
set_option maxRecDepth 100000 in
set_option maxHeartbeats 1000000 in
theorem join_any (p g g' v v1 k N M c c' : Nat) (L L' : List Dg) (w : World) (hv1 : v1 = v + 1) (hv : v < 12) (hN : N = L.length) (hM : M = L'.length) (hk : 2 * k + 1 < N) (hk' : k < M) (hN4 : N ≤ 4096) (hok : ∀ d ∈ L, d.ok)
    (hc0 : w.cell? ⟨p, 1 + v, none⟩ = some (.slice (some ⟨g, 0, none⟩) N c)) (hc1 : w.cell? ⟨p, 1 + v1, none⟩ = some (.slice (some ⟨g', 0, none⟩) M c')) (hb : Blk w g 30 (digs L).toArray) (hb' : Blk w g' 30 (digs L').toArray) (hpl : p < w.heap.size) :
    Calls Tryz.prog 151 #[.pointer (some ⟨p, 0, none⟩), .int .i64 v1, .int .i64 k] w fun e w' => e = .returned (.tuple #[]) ∧ Blk w' g' 30 (digs (L'.set k (hTwo (L.getD (2 * k) Dg.zero) (L.getD (2 * k + 1) Dg.zero)))).toArray ∧ Kept (· = g') w w' := by
  have hsub : (v1 : Int) - 1 = v := by omega
  have hv13 : v1 < 13 := by omega
  have hv13' : (v1 : Int) < 13 := by omega
  have hi3 : (k : Int) < M := by omega
  have HV := Lib.hid hv1
  clear hv1
  have HN := Lib.hid hN
  have HM := Lib.hid hM
  have HO := Lib.hid hok
  have HC := Lib.hid hc1
  clear hN hM hok hc1
  obtain ⟨k2, hk2⟩ : ∃ k2, k2 = 2 * k := ⟨_, rfl⟩
  obtain ⟨k3, hk3⟩ : ∃ k3, k3 = 2 * k + 1 := ⟨_, rfl⟩
  have hkl : k2 < L.length := by have := HN.out; omega
  have hkl2 : k3 < L.length := by have := HN.out; omega
  have hi1 : (k2 : Int) < N := by omega
  have hi2 : (k3 : Int) < N := by omega
  have hw1 : IntKind.i64.wrap (2 * (k : Int)) = k2 := by rw [IntKind.wrap_i64]; omega
  have hw2 : IntKind.i64.wrap ((k2 : Int) + 1) = k3 := by rw [IntKind.wrap_i64]; omega
  rw [← hk3, ← hk2]
  have e1 : L.getD k2 Dg.zero = L[k2] := by simp [hkl]
  have e2 : L.getD k3 Dg.zero = L[k3] := by simp [hkl2]
  rw [e1, e2]
  have o1 := HO.out _ (List.getElem_mem hkl)
  have o2 := HO.out _ (List.getElem_mem hkl2)
  obtain ⟨ha1, hg1⟩ := (Blk.row hb).dig k2 hkl
  obtain ⟨ha2, hg2⟩ := (Blk.row hb).dig k3 hkl2
  generalize L[k2] = X at o1 hg1 ⊢
  generalize L[k3] = Y at o2 hg2 ⊢
  clear hk2 hk3
  have hgl := Blk.lt hb
  have hgl' := Blk.lt hb'
  have HO1 := Lib.hid o1
  have HO2 := Lib.hid o2
  clear e1 e2 hkl hkl2 o1 o2
  go_enter Tryz.func151, Tryz.ntmps151
  go_wp2_with fail
  refine wp_region_3 (fun w1 => Ext w w1) [(0, 2), (1, 2), (2, 2), (3, 2), (4, 2), (5, 1), (6, 2), (7, 2), (8, 2), (9, 2), (10, 2), (11, 1), (12, 2), (13, 2), (14, 2), (15, 2), (16, 2), (17, 1), (18, 0), (19, 2), (20, 0)] (by kernel_rfl) (by kernel_rfl) (by kernel_rfl) (by kernel_rfl) ?_; intro l' hl'; simp only [List.map_cons, List.map_nil, List.getD_cons_zero, List.getD_cons_succ] at hl'; subst hl'
  (repeat (first | ((apply w3_pure); (· go_simp); (· (intro w1; go_simp; try with_reducible rfl)); (intro K hK; go_simp; refine hK _ _ ?_; clear hK K)) | ((apply w3_skip); (· go_simp); (intro K hK; go_simp; refine hK _ _ ?_; clear hK K)) | ((apply w3_take); (· exact (Kept.drew (Kept.refl _ _))); (· go_simp); (· (intro w1 hS; have d1 := (Kept.cell hS (p := ⟨p, 1 + v1, none⟩) hpl (fun f => f)).trans HC.out; have hz1 := Row.has1 hS hgl ha1; have hz2 := Row.get1 hS hgl hg1; have hz3 := Row.has1 hS hgl ha2; have hz4 := Row.get1 hS hgl hg2;  go_simp; try with_reducible rfl)); (intro K hK; go_simp; refine hK _ _ ?_; clear hK K)) | ((apply w3_pass); (· exact (Kept.drew (Kept.refl _ _))); (· go_simp); (intro K hK; go_simp; refine hK _ _ ?_; clear hK K))))
  clear hw1 hw2 ha1 ha2 hg1 hg2 hc0
  (refine w3_act (fun K hK => ?_); go_simp)
  go_wp2_with fail
  refine (two_any X Y HO1.out HO2.out _).mono ?_
  rintro e w1 ⟨rfl, hx1⟩
  have y1 : Ext w w1 := ((Kept.refl _ w).drew).trans hx1
  refine hK.out _ _ (fun _ => y1) ?_
  clear hK K
  obtain ⟨Z, hZ⟩ : ∃ Z, Z = hTwo X Y := ⟨_, rfl⟩
  rw [← hZ]
  have HZ := Lib.hid hZ
  clear hZ
  have hkM : k * 8 + 8 ≤ (digs L').length := by rw [digs_length]; have := HM.out; omega
  have hB1 := Blk.ext hb' y1
  have hh1 := Blk.has hB1 (k * 8) 8
  rw [decide_eq_true (by simpa using hkM)] at hh1
  have hm1 := Blk.melts hB1
  have hB2 := Blk.put_ hB1 (k * 8) Z.cells
  rw [digs_set L' k (by have := HM.out; omega) Z] at hB2
  (repeat (first | ((apply w3_pure); (· go_simp); (· (intro w1; go_simp; try with_reducible rfl)); (intro K hK; go_simp; refine hK _ _ ?_; clear hK K)) | ((apply w3_skip); (· go_simp); (intro K hK; go_simp; refine hK _ _ ?_; clear hK K))))
  (repeat (first | ((apply w3_pure); (· go_simp); (· (intro w1; go_simp; try with_reducible rfl)); (intro K hK; go_simp; refine hK _ _ ?_; clear hK K)) | ((apply w3_skip); (· go_simp); (intro K hK; go_simp; refine hK _ _ ?_; clear hK K)) | (refine w3_end (by kernel_rfl) (fun K hK => ?_); go_simp; refine hK.out _ _ ?_; clear hK K))); refine w3_nil ?_
  go_end0
  rw [← HZ.out]
  exact ⟨rfl, hB2, Kept.putAt (Kept.ext y1) _ _ _ (fun _ => rfl)⟩
end Go.Proofs.YtahljceanodhkaaGreatDoor
