/- Package witness: memoryTree, State. -/
import Derived.Test.YtahljceanodhkaaGreatDoorWa
namespace Go.Proofs.YtahljceanodhkaaGreatDoor
open Go.RowKit
set_option maxRecDepth 100000 in
set_option maxHeartbeats 1000000 in
theorem memtree_ok (pc halt : Int) (A : Option Addr) (b off cap : Nat) (l : List Int) (n : Nat) (hn : n = l.length) (hg : rightS pc halt n = true) (hA : 0 < n → A = some ⟨b, off, none⟩) (w : World) (hr : 0 < n → Row w b off (mems l)) :
    Calls Tryz.prog 70 #[.agg (stCells pc A n cap halt)] w fun e w' => IsTree w w' e (l.map leafW) := by
  obtain ⟨h1, h2, h3, h4, h5, h6⟩ := rightS_inv hg
  have HG := Lib.hid hg
  have HN := Lib.hid hn
  have HA := Lib.hid hA
  have HR := Lib.hid hr
  clear hn hA hr hg
  have hx0 : Ext w _ := (Kept.refl _ w).alloc (.cells (stCells pc A n cap halt) 70)
  have hA0 : Blk _ w.heap.size 70 (stCells pc A n cap halt) := Blk.new w _ _
  go_enter Tryz.func70, Tryz.ntmps70
  go_wp2_with fail
  refine (right_any pc halt A n cap _).mono ?_
  rintro e w1 ⟨rfl, hx1⟩
  rw [HG.out]
  have hA1 := Blk.ext hA0 hx1
  have hc1 := Blk.cell hA1
  have y1 := hx0.trans hx1
  go_wp2_with fail
  refine (wordLeaves_ok A b off cap l n HN.out (by omega) HA.out _ (fun h => (HR.out h).ext y1)).mono ?_
  rintro e w2 ⟨v, rfl, ho, hx2⟩
  obtain ⟨g, c, rfl, hg, hrow, hc, hcm, hl⟩ := own_someE ho h1
  have HL := Lib.hid hl
  clear hl hc hcm hc1
  go_wp2_with fail
  refine (tnew_ok g 0 c (l.map leafW) n HL.out h1 (by omega) (by simp; exact fun i _ => leafW_ok i) _ hrow).mono ?_
  rintro e w3 ⟨p, rfl, ht, hx3⟩
  go_wp2_with fail
  go_ret2
  exact ⟨p, rfl, ht.low (y1.trans hx2).size, (y1.trans hx2).trans hx3⟩
set_option maxRecDepth 100000 in
set_option maxHeartbeats 1000000 in
theorem memtree_no (pc halt : Int) (A : Option Addr) (cap : Nat) (n : Nat) (hg : rightS pc halt n = false) (w : World) :
    Calls Tryz.prog 70 #[.agg (stCells pc A n cap halt)] w fun e w' => e = .returned (.tuple #[.pointer none, .int .i64 2]) ∧ Ext w w' := by
  have HG := Lib.hid hg
  clear hg
  have hx0 : Ext w _ := (Kept.refl _ w).alloc (.cells (stCells pc A n cap halt) 70)
  go_enter Tryz.func70, Tryz.ntmps70
  go_wp2_with fail
  refine (right_any pc halt A n cap _).mono ?_
  rintro e w1 ⟨rfl, hx1⟩
  rw [HG.out]
  go_wp2_with fail
  go_ret2
  exact ⟨rfl, hx0.trans hx1⟩
set_option maxRecDepth 100000 in
set_option maxHeartbeats 1000000 in
theorem wstate_ok (pc halt : Int) (A : Option Addr) (b off cap : Nat) (l : List Int) (n : Nat) (hn : n = l.length) (hg : rightS pc halt n = true) (hA : 0 < n → A = some ⟨b, off, none⟩) (w : World) (hr : 0 < n → Row w b off (mems l)) :
    Calls Tryz.prog 32 #[.agg (stCells pc A n cap halt)] w fun e w' => e = .returned (.tuple #[.agg (stateR pc halt l).cells, .int .i64 0]) ∧ Ext w w' := by
  obtain ⟨h1, h2, h3, h4, h5, h6⟩ := rightS_inv hg
  have HG := Lib.hid hg
  have HN := Lib.hid hn
  have HA := Lib.hid hA
  have HR := Lib.hid hr
  clear hn hA hr hg
  obtain ⟨D, hD⟩ : ∃ D, D = stateR pc halt l := ⟨_, rfl⟩
  rw [← hD]
  have HD := Lib.hid hD
  clear hD
  obtain ⟨M, hM⟩ : ∃ M, M = memR l := ⟨_, rfl⟩
  have HM := Lib.hid hM
  clear hM
  have hx0 : Ext w _ := ((Kept.refl _ w).alloc (.cells (stCells pc A n cap halt) 70)).alloc (.cells Dg.zero.cells 30)
  have hA0 : Blk _ w.heap.size 70 (stCells pc A n cap halt) := Blk.alloc (Blk.new w _ _) (.cells Dg.zero.cells 30)
  have hR0 : Blk _ (w.heap.size + 1) 30 Dg.zero.cells := Blk.new' (w.alloc (.cells (stCells pc A n cap halt) 70)) _ _ _ (by simp)
  go_enter Tryz.func32, Tryz.ntmps32
  go_wp2_with fail
  refine (memtree_ok pc halt A b off cap l n HN.out HG.out HA.out _ (fun h => (HR.out h).ext hx0)).mono ?_
  rintro e w1 ⟨p, rfl, ht, hx1⟩
  have hA1 := Blk.ext hA0 hx1
  have hc1 := Blk.cell hA1
  have hR1 := Blk.ext hR0 hx1
  have hl1 := Blk.lt hR1
  have hla := Blk.lt hA1
  go_wp2_with fail
  refine wp_region_3 (fun w2 => Ext w1 w2) [(0, 2), (1, 1), (2, 2), (3, 1), (4, 2), (5, 1), (6, 2), (7, 2), (8, 0), (9, 0), (10, 0), (11, 2)] (by kernel_rfl) (by kernel_rfl) (by kernel_rfl) (by kernel_rfl) ?_; intro l' hl'; simp only [List.map_cons, List.map_nil, List.getD_cons_zero, List.getD_cons_succ] at hl'; subst hl'
  (repeat (first | ((apply w3_pure); (· go_simp); (· (intro w1; go_simp; try with_reducible rfl)); (intro K hK; go_simp; refine hK _ _ ?_; clear hK K)) | ((apply w3_skip); (· go_simp); (intro K hK; go_simp; refine hK _ _ ?_; clear hK K)) | ((apply w3_take); (· exact (Kept.drew (Kept.refl _ _))); (· go_simp); (· (intro w1 hS; have d1 := Blk.cell (Blk.ext hA1 hS);  go_simp; try with_reducible rfl)); (intro K hK; go_simp; refine hK _ _ ?_; clear hK K)) | ((apply w3_pass); (· exact (Kept.drew (Kept.refl _ _))); (· go_simp); (intro K hK; go_simp; refine hK _ _ ?_; clear hK K))))
  (refine w3_act (fun K hK => ?_); go_simp)
  go_wp2_with fail
  refine (troot_tree _ p (l.map leafW) _ (by rw [List.length_map, ← HN.out]; exact h1) (by rw [List.length_map, ← HN.out]; omega) (ht.ext ((Kept.refl _ w1).drew))).mono ?_
  rintro e w2 ⟨e2, hx2⟩
  replace e2 : e = .returned (.agg M.cells) := by rw [e2, HM.out]; rfl
  subst e2
  have y2 : Ext w1 w2 := ((Kept.refl _ w1).drew).trans hx2
  refine hK.out _ _ (fun _ => y2) ?_
  clear hK K
  (refine w3_act (fun K hK => ?_); go_simp)
  go_wp2_with fail
  refine (head_any pc halt n M (by rw [HM.out]; exact hWord_ok _ _) (by omega) (by omega) (by omega) _).mono ?_
  rintro e w3 ⟨e3, hx3⟩
  replace e3 : e = .returned (.agg D.cells) := by rw [e3, HD.out, HM.out, stateR, ← HN.out]
  subst e3
  have y3 := y2.trans hx3
  refine hK.out _ _ (fun _ => y3) ?_
  clear hK K
  have hR3 := Blk.ext hR1 y3
  have hh3 := Blk.has hR3
  have hm3 := Blk.melts hR3
  (repeat (first | ((apply w3_pure); (· go_simp); (· (intro w1; go_simp; try with_reducible rfl)); (intro K hK; go_simp; refine hK _ _ ?_; clear hK K)) | ((apply w3_skip); (· go_simp); (intro K hK; go_simp; refine hK _ _ ?_; clear hK K)) | (refine w3_end (by kernel_rfl) (fun K hK => ?_); go_simp; refine hK.out _ _ ?_; clear hK K))); refine w3_nil ?_
  go_wp2_with fail
  refine ret_ci Tryz.results32 rfl rfl aggDig (by exact sizeDig) (Blk.put_ hR3 _ _) ⟨rfl, ?_⟩
  exact Kept.putAt ((hx0.trans hx1).trans y3) _ _ _ (fun h => by omega)
set_option maxRecDepth 100000 in
set_option maxHeartbeats 1000000 in
theorem wstate_no (pc halt : Int) (A : Option Addr) (cap : Nat) (n : Nat) (hg : rightS pc halt n = false) (w : World) :
    Calls Tryz.prog 32 #[.agg (stCells pc A n cap halt)] w fun e w' => e = .returned (.tuple #[.agg Dg.zero.cells, .int .i64 2]) ∧ Ext w w' := by
  have HG := Lib.hid hg
  clear hg
  have hx0 : Ext w _ := ((Kept.refl _ w).alloc (.cells (stCells pc A n cap halt) 70)).alloc (.cells Dg.zero.cells 30)
  have hR0 : Blk _ (w.heap.size + 1) 30 Dg.zero.cells := Blk.new' (w.alloc (.cells (stCells pc A n cap halt) 70)) _ _ _ (by simp)
  go_enter Tryz.func32, Tryz.ntmps32
  go_wp2_with fail
  refine (memtree_no pc halt A cap n HG.out _).mono ?_
  rintro e w1 ⟨rfl, hx1⟩
  have hR1 := Blk.ext hR0 hx1
  have hh1 := Blk.has hR1
  have hm1 := Blk.melts hR1
  go_wp2_with fail
  refine ret_ci Tryz.results32 rfl rfl aggDig (by exact sizeDig) (Blk.put_ hR1 _ _) ⟨rfl, ?_⟩
  exact Kept.putAt (hx0.trans hx1) _ _ _ (fun h => by omega)
end Go.Proofs.YtahljceanodhkaaGreatDoor
