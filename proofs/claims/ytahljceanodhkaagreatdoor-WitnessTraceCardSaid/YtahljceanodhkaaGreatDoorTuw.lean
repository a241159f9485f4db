/- Several texts joined: Mic. -/
import Derived.Test.YtahljceanodhkaaGreatDoorTtf
/- Package machine: step, operation by operation. -/
namespace Go.Proofs.YtahljceanodhkaaGreatDoor
open Go.RowKit
set_option maxRecDepth 100000 in
set_option maxHeartbeats 2000000 in
theorem st_17 (w : World) (base s g n kc q : Nat) (A : Option Addr) (b off cn cap : Nat) (c : List Ins) (pc : Int) (m : List Int) (h : StepPre w base s g n kc q A b off cn c pc m) (a : Nat) (y z : Int) (ha : a < n) (hy1 : -2147483648 ≤ y) (hy2 : y ≤ 2147483647) (hz1 : -2147483648 ≤ z) (hz2 : z ≤ 2147483647) (hnx : nextI c pc n = some ⟨17, a, y, z⟩) (hright : rightI ⟨17, a, y, z⟩ cn n = true) :
    Calls Tryz.prog 158 #[.pointer (some ⟨s, 0, none⟩), .slice A cn cap, .map (some q)] w fun e w' => e = .returned (.tuple #[]) ∧ Stepped w w' base s g n kc (execI ⟨17, a, y, z⟩ pc m) := by
  obtain ⟨hn, hn1, hn2, hmok, hops, hst, hmem, hmap, hcA, hrow, hcn, hcn2, hpc0, hpc1, hsg⟩ := h
  have hls := hst.lt
  have hlg := hmem.lt
  have hlq := hmap.lt
  have hgs : ¬ g = s := fun e => hsg e.symm
  have HX := Lib.hid hnx
  have HN := Lib.hid hn
  have HO := Lib.hid hmok
  have HOP := Lib.hid hops
  have HA := Lib.hid hcA
  have HR := Lib.hid hrow
  have HCN := Lib.hid hcn
  have HRT := Lib.hid hright
  clear hnx hn hmok hops hcA hrow hcn hright
  go_enter Tryz.func158, Tryz.ntmps158
  go_wp2_with fail
  refine (next_any s pc 0 (some ⟨g, 0, none⟩) n kc A b off c cn cap _ HCN.out hcn2 hpc0 HA.out HOP.out hst HR.out).mono ?_
  rintro e w1 ⟨e1, hx1⟩
  replace e1 : e = .returned (.tuple #[.agg (Ins.cells ⟨17, a, y, z⟩), .bool true]) := by rw [e1, HX.out]; rfl
  subst e1
  have hI1 := Blk.new w1 41 (Ins.cells ⟨17, a, y, z⟩)
  have x1 := hx1.alloc (.cells (Ins.cells ⟨17, a, y, z⟩) 41)
  have hS1 := Blk.ext hst x1
  have hM1 := hmem.ext x1
  have hQ1 := hmap.ext x1
  have l1 := hx1.size
  clear hst hmem hmap hx1
  go_upto_region 3 with (fail)
  generalize (w1.alloc (.cells (Ins.cells ⟨17, a, y, z⟩) 41)) = W1 at hI1 x1 hS1 hM1 hQ1 ⊢
  generalize w1.heap.size = ic at hI1 l1 ⊢
  have hi1 := Blk.has hI1
  have hj1 := Blk.gets hI1
  go_wp2_with fail
  refine (far_any ⟨17, a, y, z⟩ cn s pc 0 g 0 n kc m _ HN.out hn2 HRT.out HO.out hS1 hM1.row).mono ?_
  rintro e w2 ⟨e2, hx2⟩
  replace e2 : e = .returned (.int .i64 (-1)) := by rw [e2]; rfl
  subst e2
  have x2 := x1.trans hx2
  have hI2 := Blk.ext hI1 hx2
  have hS2 := Blk.ext hS1 hx2
  have hM2 := hM1.ext hx2
  have hQ2 := hQ1.ext hx2
  clear hI1 hS1 hM1 hQ1 x1 hx2 hi1 hj1
  have hcI := Blk.cell hI2
  have hcS := Blk.cell hS2
  have hfS := Blk.frozen hS2
  have lI := hI2.lt
  have lS := hS2.lt
  have lG := hM2.lt
  have hal : a < m.length := by have := HN.out; omega
  have haI : (a : Int) < n := by omega
  have hcM := hM2.cell a hal
  have hfM := hM2.frozen
  obtain ⟨v, hv⟩ : ∃ v, v = m[a] := ⟨_, rfl⟩
  have Hvr : Hid (i32ok v) := Lib.hid (by rw [hv]; exact HO.out _ (List.getElem_mem hal))
  have hwy : IntKind.i32.wrap y = y := by rw [IntKind.wrap_i32]; omega
  have hwz : IntKind.i32.wrap z = z := by rw [IntKind.wrap_i32]; omega
  have HE : Hid (execI ⟨17, a, y, z⟩ pc m = (pc + 1, 0, m.set a (min (max v y) z))) := Lib.hid (by simp [execI, mput, mget_in hal, hv])
  have HV := Lib.hid hv
  clear hv
  go_upto_region 23 with (fail)
  refine wp_region_3 (fun w3 => Ext w2 w3) [(0, 2), (1, 2), (2, 1), (3, 2), (4, 2), (5, 1), (6, 2), (7, 1), (8, 2), (9, 1), (10, 1), (11, 1), (12, 2), (13, 1), (14, 1), (15, 1), (16, 2), (17, 0)] (by kernel_rfl) (by kernel_rfl) (by kernel_rfl) (by kernel_rfl) ?_; intro l' hl'; simp only [List.map_cons, List.map_nil, List.getD_cons_zero, List.getD_cons_succ] at hl'; subst hl'
  (repeat (first | ((apply w3_pure); (· go_simp); (· (intro w1; go_simp; try with_reducible rfl)); (intro K hK; go_simp; refine hK _ _ ?_; clear hK K)) | ((apply w3_skip); (· go_simp); (intro K hK; go_simp; refine hK _ _ ?_; clear hK K)) | ((apply w3_take); (· exact (Kept.drew (Kept.refl _ _))); (· go_simp); (· (intro w1 hS; have d1 := Blk.cell (Blk.ext hI2 hS); have d2 := (hM2.ext hS).cell a hal; rw [← HV.out] at d2;  go_simp; try with_reducible rfl)); (intro K hK; go_simp; refine hK _ _ ?_; clear hK K)) | ((apply w3_pass); (· exact (Kept.drew (Kept.refl _ _))); (· go_simp); (intro K hK; go_simp; refine hK _ _ ?_; clear hK K))))
  (repeat (first | ((apply w3_pure); (· go_simp); (· (intro w1; go_simp; try with_reducible rfl)); (intro K hK; go_simp; refine hK _ _ ?_; clear hK K)) | ((apply w3_skip); (· go_simp); (intro K hK; go_simp; refine hK _ _ ?_; clear hK K)) | (refine w3_end (by kernel_rfl) (fun K hK => ?_); go_simp; refine hK.out _ _ ?_; clear hK K))); refine w3_nil ?_
  have hS3 : StAt (w2.setCell ⟨g, a, none⟩ (.int .i32 (min (max v y) z))).drew s 70 pc (some ⟨g, 0, none⟩) n kc 0 := Blk.far hS2 (p := ⟨g, a, none⟩) hsg (.int .i32 (min (max v y) z))
  have hM3 : MemAt (w2.setCell ⟨g, a, none⟩ (.int .i32 (min (max v y) z))).drew base g n kc (m.set a (min (max v y) z)) := (hM2.set a hal (min (max v y) z)).ext ((Kept.refl _ _).drew)
  have hk3 : Kept (fun i => i = s ∨ i = g) w (w2.setCell ⟨g, a, none⟩ (.int .i32 (min (max v y) z))).drew := (Kept.setCell (Kept.ext x2) _ _ (fun _ => .inr rfl)).drew
  generalize (w2.setCell ⟨g, a, none⟩ (.int .i32 (min (max v y) z))).drew = W3 at hS3 hM3 hk3 ⊢
  have hcS3 := Blk.cell hS3
  have hfS3 := Blk.frozen hS3
  go_wp2_with fail
  go_end0
  refine ⟨rfl, ?_⟩
  rw [HE.out]
  exact Stepped.goal hk3 hS3 hM3 hsg _
set_option maxRecDepth 100000 in
set_option maxHeartbeats 2000000 in
theorem st_18 (w : World) (base s g n kc q : Nat) (A : Option Addr) (b off cn cap : Nat) (c : List Ins) (pc : Int) (m : List Int) (h : StepPre w base s g n kc q A b off cn c pc m) (a y : Nat) (z : Int) (ha : a < n) (hy : y < n) (_hz1 : 0 ≤ z) (_hz2 : z ≤ 2147483647) (hnx : nextI c pc n = some ⟨18, a, y, z⟩) (hright : rightI ⟨18, a, y, z⟩ cn n = true) :
    Calls Tryz.prog 158 #[.pointer (some ⟨s, 0, none⟩), .slice A cn cap, .map (some q)] w fun e w' => e = .returned (.tuple #[]) ∧ Stepped w w' base s g n kc (execI ⟨18, a, y, z⟩ pc m) := by
  obtain ⟨hn, hn1, hn2, hmok, hops, hst, hmem, hmap, hcA, hrow, hcn, hcn2, hpc0, hpc1, hsg⟩ := h
  have hls := hst.lt
  have hlg := hmem.lt
  have hlq := hmap.lt
  have hgs : ¬ g = s := fun e => hsg e.symm
  have HX := Lib.hid hnx
  have HN := Lib.hid hn
  have HO := Lib.hid hmok
  have HOP := Lib.hid hops
  have HA := Lib.hid hcA
  have HR := Lib.hid hrow
  have HCN := Lib.hid hcn
  have HRT := Lib.hid hright
  clear hnx hn hmok hops hcA hrow hcn hright
  go_enter Tryz.func158, Tryz.ntmps158
  go_wp2_with fail
  refine (next_any s pc 0 (some ⟨g, 0, none⟩) n kc A b off c cn cap _ HCN.out hcn2 hpc0 HA.out HOP.out hst HR.out).mono ?_
  rintro e w1 ⟨e1, hx1⟩
  replace e1 : e = .returned (.tuple #[.agg (Ins.cells ⟨18, a, y, z⟩), .bool true]) := by rw [e1, HX.out]; rfl
  subst e1
  have hI1 := Blk.new w1 41 (Ins.cells ⟨18, a, y, z⟩)
  have x1 := hx1.alloc (.cells (Ins.cells ⟨18, a, y, z⟩) 41)
  have hS1 := Blk.ext hst x1
  have hM1 := hmem.ext x1
  have hQ1 := hmap.ext x1
  have l1 := hx1.size
  clear hst hmem hmap hx1
  go_upto_region 3 with (fail)
  generalize (w1.alloc (.cells (Ins.cells ⟨18, a, y, z⟩) 41)) = W1 at hI1 x1 hS1 hM1 hQ1 ⊢
  generalize w1.heap.size = ic at hI1 l1 ⊢
  have hi1 := Blk.has hI1
  have hj1 := Blk.gets hI1
  go_wp2_with fail
  refine (far_any ⟨18, a, y, z⟩ cn s pc 0 g 0 n kc m _ HN.out hn2 HRT.out HO.out hS1 hM1.row).mono ?_
  rintro e w2 ⟨e2, hx2⟩
  replace e2 : e = .returned (.int .i64 (-1)) := by rw [e2]; rfl
  subst e2
  have x2 := x1.trans hx2
  have hI2 := Blk.ext hI1 hx2
  have hS2 := Blk.ext hS1 hx2
  have hM2 := hM1.ext hx2
  have hQ2 := hQ1.ext hx2
  clear hI1 hS1 hM1 hQ1 x1 hx2 hi1 hj1
  have hcI := Blk.cell hI2
  have hcS := Blk.cell hS2
  have hfS := Blk.frozen hS2
  have lI := hI2.lt
  have lS := hS2.lt
  have lG := hM2.lt
  have hal : a < m.length := by have := HN.out; omega
  have haI : (a : Int) < n := by omega
  have hyl : y < m.length := by have := HN.out; omega
  have hyI : (y : Int) < n := by omega
  have hcM := hM2.cell a hal
  have hfM := hM2.frozen
  obtain ⟨v, hv⟩ : ∃ v, v = m[y] := ⟨_, rfl⟩
  have Hvr : Hid (i32ok v) := Lib.hid (by rw [hv]; exact HO.out _ (List.getElem_mem hyl))
  have HE : Hid (execI ⟨18, a, y, z⟩ pc m = (pc + 1, 0, m.set a (truthI (decide (0 ≤ v) && decide (v < z))))) := Lib.hid (by simp [execI, mput, mget_in hyl, hv])
  have HV := Lib.hid hv
  obtain ⟨hv1, hv2⟩ : -2147483648 ≤ v ∧ v ≤ 2147483647 := Hvr.out
  have hwv : IntKind.i64.wrap v = v := by rw [IntKind.wrap_i64]; omega
  clear hv
  go_upto_region 25 with (fail)
  by_cases hv0 : 0 ≤ v
  · have b0 : decide (0 ≤ v) = true := by simpa using hv0
    refine wp_region_3 (fun w3 => Ext w2 w3) [(0, 2), (1, 2), (2, 1), (3, 2), (4, 2), (5, 1), (6, 2), (7, 1), (8, 2), (9, 2), (10, 2), (11, 2), (12, 1), (13, 2), (14, 1), (15, 1), (16, 2), (17, 1), (18, 2), (19, 2), (20, 0), (21, 2), (22, 0)] (by kernel_rfl) (by kernel_rfl) (by kernel_rfl) (by kernel_rfl) ?_; intro l' hl'; simp only [List.map_cons, List.map_nil, List.getD_cons_zero, List.getD_cons_succ] at hl'; subst hl'
    (repeat (first | ((apply w3_pure); (· go_simp); (· (intro w1; go_simp; try with_reducible rfl)); (intro K hK; go_simp; refine hK _ _ ?_; clear hK K)) | ((apply w3_skip); (· go_simp); (intro K hK; go_simp; refine hK _ _ ?_; clear hK K)) | ((apply w3_take); (· exact (Kept.drew (Kept.refl _ _))); (· go_simp); (· (intro w1 hS; have d1 := Blk.cell (Blk.ext hI2 hS); have d2 := (hM2.ext hS).cell y hyl; rw [← HV.out] at d2;  go_simp; try with_reducible rfl)); (intro K hK; go_simp; refine hK _ _ ?_; clear hK K)) | ((apply w3_pass); (· exact (Kept.drew (Kept.refl _ _))); (· go_simp); (intro K hK; go_simp; refine hK _ _ ?_; clear hK K))))
    (refine w3_act (fun K hK => ?_); go_simp)
    go_wp2_with fail
    refine (truth_any _ _).mono ?_
    rintro e w3 ⟨rfl, rfl⟩
    refine hK.out _ _ (fun h => h) ?_
    clear hK K
    (repeat (first | ((apply w3_pure); (· go_simp); (· (intro w1; go_simp; try with_reducible rfl)); (intro K hK; go_simp; refine hK _ _ ?_; clear hK K)) | ((apply w3_skip); (· go_simp); (intro K hK; go_simp; refine hK _ _ ?_; clear hK K)) | (refine w3_end (by kernel_rfl) (fun K hK => ?_); go_simp; refine hK.out _ _ ?_; clear hK K))); refine w3_nil ?_
    have ev : truthI (decide (v < z)) = truthI (decide (0 ≤ v) && decide (v < z)) := by rw [b0]; rfl
    rw [ev]
    have hS3 : StAt (w2.setCell ⟨g, a, none⟩ (.int .i32 (truthI (decide (0 ≤ v) && decide (v < z))))).drew s 70 pc (some ⟨g, 0, none⟩) n kc 0 := Blk.far hS2 (p := ⟨g, a, none⟩) hsg (.int .i32 (truthI (decide (0 ≤ v) && decide (v < z))))
    have hM3 : MemAt (w2.setCell ⟨g, a, none⟩ (.int .i32 (truthI (decide (0 ≤ v) && decide (v < z))))).drew base g n kc (m.set a (truthI (decide (0 ≤ v) && decide (v < z)))) := (hM2.set a hal (truthI (decide (0 ≤ v) && decide (v < z)))).ext ((Kept.refl _ _).drew)
    have hk3 : Kept (fun i => i = s ∨ i = g) w (w2.setCell ⟨g, a, none⟩ (.int .i32 (truthI (decide (0 ≤ v) && decide (v < z))))).drew := (Kept.setCell (Kept.ext x2) _ _ (fun _ => .inr rfl)).drew
    generalize (w2.setCell ⟨g, a, none⟩ (.int .i32 (truthI (decide (0 ≤ v) && decide (v < z))))).drew = W3 at hS3 hM3 hk3 ⊢
    have hcS3 := Blk.cell hS3
    have hfS3 := Blk.frozen hS3
    go_wp2_with fail
    go_end0
    refine ⟨rfl, ?_⟩
    rw [HE.out]
    exact Stepped.goal hk3 hS3 hM3 hsg _
  · have b0 : decide (0 ≤ v) = false := by simpa using hv0
    refine wp_region_3 (fun w3 => Ext w2 w3) [(0, 2), (1, 2), (2, 1), (3, 2), (4, 2), (5, 1), (6, 2), (7, 1), (8, 2), (9, 2), (10, 2), (11, 2), (12, 1), (13, 2), (14, 1), (15, 1), (16, 2), (17, 1), (18, 2), (19, 2), (20, 0), (21, 2), (22, 0)] (by kernel_rfl) (by kernel_rfl) (by kernel_rfl) (by kernel_rfl) ?_; intro l' hl'; simp only [List.map_cons, List.map_nil, List.getD_cons_zero, List.getD_cons_succ] at hl'; subst hl'
    (repeat (first | ((apply w3_pure); (· go_simp); (· (intro w1; go_simp; try with_reducible rfl)); (intro K hK; go_simp; refine hK _ _ ?_; clear hK K)) | ((apply w3_skip); (· go_simp); (intro K hK; go_simp; refine hK _ _ ?_; clear hK K)) | ((apply w3_take); (· exact (Kept.drew (Kept.refl _ _))); (· go_simp); (· (intro w1 hS; have d1 := Blk.cell (Blk.ext hI2 hS); have d2 := (hM2.ext hS).cell y hyl; rw [← HV.out] at d2;  go_simp; try with_reducible rfl)); (intro K hK; go_simp; refine hK _ _ ?_; clear hK K)) | ((apply w3_pass); (· exact (Kept.drew (Kept.refl _ _))); (· go_simp); (intro K hK; go_simp; refine hK _ _ ?_; clear hK K))))
    (refine w3_act (fun K hK => ?_); go_simp)
    go_wp2_with fail
    refine (truth_any _ _).mono ?_
    rintro e w3 ⟨rfl, rfl⟩
    refine hK.out _ _ (fun h => h) ?_
    clear hK K
    (repeat (first | ((apply w3_pure); (· go_simp); (· (intro w1; go_simp; try with_reducible rfl)); (intro K hK; go_simp; refine hK _ _ ?_; clear hK K)) | ((apply w3_skip); (· go_simp); (intro K hK; go_simp; refine hK _ _ ?_; clear hK K)) | (refine w3_end (by kernel_rfl) (fun K hK => ?_); go_simp; refine hK.out _ _ ?_; clear hK K))); refine w3_nil ?_
    have ev : truthI false = truthI (decide (0 ≤ v) && decide (v < z)) := by rw [b0]; rfl
    rw [ev]
    have hS3 : StAt (w2.setCell ⟨g, a, none⟩ (.int .i32 (truthI (decide (0 ≤ v) && decide (v < z))))).drew s 70 pc (some ⟨g, 0, none⟩) n kc 0 := Blk.far hS2 (p := ⟨g, a, none⟩) hsg (.int .i32 (truthI (decide (0 ≤ v) && decide (v < z))))
    have hM3 : MemAt (w2.setCell ⟨g, a, none⟩ (.int .i32 (truthI (decide (0 ≤ v) && decide (v < z))))).drew base g n kc (m.set a (truthI (decide (0 ≤ v) && decide (v < z)))) := (hM2.set a hal (truthI (decide (0 ≤ v) && decide (v < z)))).ext ((Kept.refl _ _).drew)
    have hk3 : Kept (fun i => i = s ∨ i = g) w (w2.setCell ⟨g, a, none⟩ (.int .i32 (truthI (decide (0 ≤ v) && decide (v < z))))).drew := (Kept.setCell (Kept.ext x2) _ _ (fun _ => .inr rfl)).drew
    generalize (w2.setCell ⟨g, a, none⟩ (.int .i32 (truthI (decide (0 ≤ v) && decide (v < z))))).drew = W3 at hS3 hM3 hk3 ⊢
    have hcS3 := Blk.cell hS3
    have hfS3 := Blk.frozen hS3
    go_wp2_with fail
    go_end0
    refine ⟨rfl, ?_⟩
    rw [HE.out]
    exact Stepped.goal hk3 hS3 hM3 hsg _
end Go.Proofs.YtahljceanodhkaaGreatDoor
