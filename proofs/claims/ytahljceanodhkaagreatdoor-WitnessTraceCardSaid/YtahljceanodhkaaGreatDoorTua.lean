/- Several texts joined: Mid. -/
import Derived.Test.YtahljceanodhkaaGreatDoorTtf
/- Package machine: step, operation by operation. -/
namespace Go.Proofs.YtahljceanodhkaaGreatDoor
open Go.RowKit
set_option maxRecDepth 100000 in
set_option maxHeartbeats 2000000 in
theorem st_19 (w : World) (base s g n kc q : Nat) (A : Option Addr) (b off cn cap : Nat) (c : List Ins) (pc : Int) (m : List Int) (h : StepPre w base s g n kc q A b off cn c pc m) (a : Nat) (y z : Int) (hnx : nextI c pc n = some ⟨19, a, y, z⟩) (hright : rightI ⟨19, a, y, z⟩ cn n = true) :
    Calls Tryz.prog 158 #[.pointer (some ⟨s, 0, none⟩), .slice A cn cap, .map (some q)] w fun e w' => e = .returned (.tuple #[]) ∧ Stepped w w' base s g n kc (execI ⟨19, a, y, z⟩ pc m) := by
  obtain ⟨hn, hn1, hn2, hmok, hops, hst, hmem, hmap, hcA, hrow, hcn, hcn2, hpc0, hpc1, hsg⟩ := h
  have hls := hst.lt
  have hlg := hmem.lt
  have hlq := hmap.lt
  have hgs : ¬ g = s := fun e => hsg e.symm
  have HX := Lib.hid hnx
  have HN := Lib.hid hn
  have HO := Lib.hid hmok
  have HOP := Lib.hid hops
  have HA := Lib.hid hcA
  have HR := Lib.hid hrow
  have HCN := Lib.hid hcn
  have HRT := Lib.hid hright
  clear hnx hn hmok hops hcA hrow hcn hright
  go_enter Tryz.func158, Tryz.ntmps158
  go_wp2_with fail
  refine (next_any s pc 0 (some ⟨g, 0, none⟩) n kc A b off c cn cap _ HCN.out hcn2 hpc0 HA.out HOP.out hst HR.out).mono ?_
  rintro e w1 ⟨e1, hx1⟩
  replace e1 : e = .returned (.tuple #[.agg (Ins.cells ⟨19, a, y, z⟩), .bool true]) := by rw [e1, HX.out]; rfl
  subst e1
  have hI1 := Blk.new w1 41 (Ins.cells ⟨19, a, y, z⟩)
  have x1 := hx1.alloc (.cells (Ins.cells ⟨19, a, y, z⟩) 41)
  have hS1 := Blk.ext hst x1
  have hM1 := hmem.ext x1
  have hQ1 := hmap.ext x1
  have l1 := hx1.size
  clear hst hmem hmap hx1
  go_upto_region 3 with (fail)
  generalize (w1.alloc (.cells (Ins.cells ⟨19, a, y, z⟩) 41)) = W1 at hI1 x1 hS1 hM1 hQ1 ⊢
  generalize w1.heap.size = ic at hI1 l1 ⊢
  have hi1 := Blk.has hI1
  have hj1 := Blk.gets hI1
  go_wp2_with fail
  refine (far_any ⟨19, a, y, z⟩ cn s pc 0 g 0 n kc m _ HN.out hn2 HRT.out HO.out hS1 hM1.row).mono ?_
  rintro e w2 ⟨e2, hx2⟩
  replace e2 : e = .returned (.int .i64 (-1)) := by rw [e2]; rfl
  subst e2
  have x2 := x1.trans hx2
  have hI2 := Blk.ext hI1 hx2
  have hS2 := Blk.ext hS1 hx2
  have hM2 := hM1.ext hx2
  have hQ2 := hQ1.ext hx2
  clear hI1 hS1 hM1 hQ1 x1 hx2 hi1 hj1
  have hcI := Blk.cell hI2
  have hcS := Blk.cell hS2
  have hfS := Blk.frozen hS2
  have lI := hI2.lt
  have lS := hS2.lt
  have lG := hM2.lt
  have HE : Hid (execI ⟨19, a, y, z⟩ pc m = ((a : Int), 0, m)) := Lib.hid (by simp [execI])
  have hS3 := hS2
  have hM3 := hM2
  have hk3 : Kept (fun i => i = s ∨ i = g) w w2 := Kept.ext x2
  have hcS3 := Blk.cell hS3
  have hfS3 := Blk.frozen hS3
  go_wp2_with fail
  go_end0
  refine ⟨rfl, ?_⟩
  rw [HE.out]
  exact Stepped.goal hk3 hS3 hM3 hsg _
set_option maxRecDepth 100000 in
set_option maxHeartbeats 2000000 in
theorem st_20 (w : World) (base s g n kc q : Nat) (A : Option Addr) (b off cn cap : Nat) (c : List Ins) (pc : Int) (m : List Int) (h : StepPre w base s g n kc q A b off cn c pc m) (a y : Nat) (z : Int) (hy : y < n) (hnx : nextI c pc n = some ⟨20, a, y, z⟩) (hright : rightI ⟨20, a, y, z⟩ cn n = true) :
    Calls Tryz.prog 158 #[.pointer (some ⟨s, 0, none⟩), .slice A cn cap, .map (some q)] w fun e w' => e = .returned (.tuple #[]) ∧ Stepped w w' base s g n kc (execI ⟨20, a, y, z⟩ pc m) := by
  obtain ⟨hn, hn1, hn2, hmok, hops, hst, hmem, hmap, hcA, hrow, hcn, hcn2, hpc0, hpc1, hsg⟩ := h
  have hls := hst.lt
  have hlg := hmem.lt
  have hlq := hmap.lt
  have hgs : ¬ g = s := fun e => hsg e.symm
  have HX := Lib.hid hnx
  have HN := Lib.hid hn
  have HO := Lib.hid hmok
  have HOP := Lib.hid hops
  have HA := Lib.hid hcA
  have HR := Lib.hid hrow
  have HCN := Lib.hid hcn
  have HRT := Lib.hid hright
  clear hnx hn hmok hops hcA hrow hcn hright
  go_enter Tryz.func158, Tryz.ntmps158
  go_wp2_with fail
  refine (next_any s pc 0 (some ⟨g, 0, none⟩) n kc A b off c cn cap _ HCN.out hcn2 hpc0 HA.out HOP.out hst HR.out).mono ?_
  rintro e w1 ⟨e1, hx1⟩
  replace e1 : e = .returned (.tuple #[.agg (Ins.cells ⟨20, a, y, z⟩), .bool true]) := by rw [e1, HX.out]; rfl
  subst e1
  have hI1 := Blk.new w1 41 (Ins.cells ⟨20, a, y, z⟩)
  have x1 := hx1.alloc (.cells (Ins.cells ⟨20, a, y, z⟩) 41)
  have hS1 := Blk.ext hst x1
  have hM1 := hmem.ext x1
  have hQ1 := hmap.ext x1
  have l1 := hx1.size
  clear hst hmem hmap hx1
  go_upto_region 3 with (fail)
  generalize (w1.alloc (.cells (Ins.cells ⟨20, a, y, z⟩) 41)) = W1 at hI1 x1 hS1 hM1 hQ1 ⊢
  generalize w1.heap.size = ic at hI1 l1 ⊢
  have hi1 := Blk.has hI1
  have hj1 := Blk.gets hI1
  go_wp2_with fail
  refine (far_any ⟨20, a, y, z⟩ cn s pc 0 g 0 n kc m _ HN.out hn2 HRT.out HO.out hS1 hM1.row).mono ?_
  rintro e w2 ⟨e2, hx2⟩
  replace e2 : e = .returned (.int .i64 (-1)) := by rw [e2]; rfl
  subst e2
  have x2 := x1.trans hx2
  have hI2 := Blk.ext hI1 hx2
  have hS2 := Blk.ext hS1 hx2
  have hM2 := hM1.ext hx2
  have hQ2 := hQ1.ext hx2
  clear hI1 hS1 hM1 hQ1 x1 hx2 hi1 hj1
  have hcI := Blk.cell hI2
  have hcS := Blk.cell hS2
  have hfS := Blk.frozen hS2
  have lI := hI2.lt
  have lS := hS2.lt
  have lG := hM2.lt
  have hyl : y < m.length := by have := HN.out; omega
  have hyI : (y : Int) < n := by omega
  obtain ⟨v, hv⟩ : ∃ v, v = m[y] := ⟨_, rfl⟩
  have Hvr : Hid (i32ok v) := Lib.hid (by rw [hv]; exact HO.out _ (List.getElem_mem hyl))
  have HV := Lib.hid hv
  by_cases hz : v = 0
  · have b0 : (v == 0) = true := by simp [hz]
    have HE : Hid (execI ⟨20, a, y, z⟩ pc m = ((a : Int), 0, m)) := Lib.hid (by simp [execI, mget_in hyl, ← hv, hz])
    clear hv hz
    go_upto_region 30 with (fail)
    refine wp_region_3 (fun w3 => Ext w2 w3) [(0, 2), (1, 2), (2, 1), (3, 2), (4, 1), (5, 2), (6, 2), (7, 1), (8, 2), (9, 2)] (by kernel_rfl) (by kernel_rfl) (by kernel_rfl) (by kernel_rfl) ?_; intro l' hl'; simp only [List.map_cons, List.map_nil, List.getD_cons_zero, List.getD_cons_succ] at hl'; subst hl'
    (repeat (first | ((apply w3_pure); (· go_simp); (· (intro w1; go_simp; try with_reducible rfl)); (intro K hK; go_simp; refine hK _ _ ?_; clear hK K)) | ((apply w3_skip); (· go_simp); (intro K hK; go_simp; refine hK _ _ ?_; clear hK K)) | ((apply w3_take); (· exact (Kept.drew (Kept.refl _ _))); (· go_simp); (· (intro w1 hS; have d1 := Blk.cell (Blk.ext hI2 hS); have d2 := (hM2.ext hS).cell y hyl; rw [← HV.out] at d2;  go_simp; try with_reducible rfl)); (intro K hK; go_simp; refine hK _ _ ?_; clear hK K)) | ((apply w3_pass); (· exact (Kept.drew (Kept.refl _ _))); (· go_simp); (intro K hK; go_simp; refine hK _ _ ?_; clear hK K))))
    (repeat (first | ((apply w3_pure); (· go_simp); (· (intro w1; go_simp; try with_reducible rfl)); (intro K hK; go_simp; refine hK _ _ ?_; clear hK K)) | ((apply w3_skip); (· go_simp); (intro K hK; go_simp; refine hK _ _ ?_; clear hK K)) | (refine w3_end (by kernel_rfl) (fun K hK => ?_); go_simp; refine hK.out _ _ ?_; clear hK K))); refine w3_nil ?_
    have hS3 : StAt w2.drew s 70 pc (some ⟨g, 0, none⟩) n kc 0 := hS2
    have hM3 : MemAt w2.drew base g n kc m := hM2.ext ((Kept.refl _ _).drew)
    have hk3 : Kept (fun i => i = s ∨ i = g) w w2.drew := (Kept.ext x2).drew
    have hI3 : Blk w2.drew ic 41 _ := hI2
    have hcI3 := Blk.cell hI3
    have hcS3 := Blk.cell hS3
    have hfS3 := Blk.frozen hS3
    go_wp2_with fail
    go_end0
    refine ⟨rfl, ?_⟩
    rw [HE.out]
    exact Stepped.goal hk3 hS3 hM3 hsg _
  · have b0 : (v == 0) = false := by simp [hz]
    have HE : Hid (execI ⟨20, a, y, z⟩ pc m = (pc + 1, 0, m)) := Lib.hid (by simp [execI, mget_in hyl, ← hv, hz])
    clear hv hz
    go_upto_region 30 with (fail)
    refine wp_region_3 (fun w3 => Ext w2 w3) [(0, 2), (1, 2), (2, 1), (3, 2), (4, 1), (5, 2), (6, 2), (7, 1), (8, 2), (9, 2)] (by kernel_rfl) (by kernel_rfl) (by kernel_rfl) (by kernel_rfl) ?_; intro l' hl'; simp only [List.map_cons, List.map_nil, List.getD_cons_zero, List.getD_cons_succ] at hl'; subst hl'
    (repeat (first | ((apply w3_pure); (· go_simp); (· (intro w1; go_simp; try with_reducible rfl)); (intro K hK; go_simp; refine hK _ _ ?_; clear hK K)) | ((apply w3_skip); (· go_simp); (intro K hK; go_simp; refine hK _ _ ?_; clear hK K)) | ((apply w3_take); (· exact (Kept.drew (Kept.refl _ _))); (· go_simp); (· (intro w1 hS; have d1 := Blk.cell (Blk.ext hI2 hS); have d2 := (hM2.ext hS).cell y hyl; rw [← HV.out] at d2;  go_simp; try with_reducible rfl)); (intro K hK; go_simp; refine hK _ _ ?_; clear hK K)) | ((apply w3_pass); (· exact (Kept.drew (Kept.refl _ _))); (· go_simp); (intro K hK; go_simp; refine hK _ _ ?_; clear hK K))))
    (repeat (first | ((apply w3_pure); (· go_simp); (· (intro w1; go_simp; try with_reducible rfl)); (intro K hK; go_simp; refine hK _ _ ?_; clear hK K)) | ((apply w3_skip); (· go_simp); (intro K hK; go_simp; refine hK _ _ ?_; clear hK K)) | (refine w3_end (by kernel_rfl) (fun K hK => ?_); go_simp; refine hK.out _ _ ?_; clear hK K))); refine w3_nil ?_
    have hS3 : StAt w2.drew s 70 pc (some ⟨g, 0, none⟩) n kc 0 := hS2
    have hM3 : MemAt w2.drew base g n kc m := hM2.ext ((Kept.refl _ _).drew)
    have hk3 : Kept (fun i => i = s ∨ i = g) w w2.drew := (Kept.ext x2).drew
    have hI3 : Blk w2.drew ic 41 _ := hI2
    have hcI3 := Blk.cell hI3
    have hcS3 := Blk.cell hS3
    have hfS3 := Blk.frozen hS3
    go_wp2_with fail
    go_end0
    refine ⟨rfl, ?_⟩
    rw [HE.out]
    exact Stepped.goal hk3 hS3 hM3 hsg _
set_option maxRecDepth 100000 in
set_option maxHeartbeats 2000000 in
theorem st_21 (w : World) (base s g n kc q : Nat) (A : Option Addr) (b off cn cap : Nat) (c : List Ins) (pc : Int) (m : List Int) (h : StepPre w base s g n kc q A b off cn c pc m) (a y : Nat) (z : Int) (hy : y < n) (hnx : nextI c pc n = some ⟨21, a, y, z⟩) (hright : rightI ⟨21, a, y, z⟩ cn n = true) :
    Calls Tryz.prog 158 #[.pointer (some ⟨s, 0, none⟩), .slice A cn cap, .map (some q)] w fun e w' => e = .returned (.tuple #[]) ∧ Stepped w w' base s g n kc (execI ⟨21, a, y, z⟩ pc m) := by
  obtain ⟨hn, hn1, hn2, hmok, hops, hst, hmem, hmap, hcA, hrow, hcn, hcn2, hpc0, hpc1, hsg⟩ := h
  have hls := hst.lt
  have hlg := hmem.lt
  have hlq := hmap.lt
  have hgs : ¬ g = s := fun e => hsg e.symm
  have HX := Lib.hid hnx
  have HN := Lib.hid hn
  have HO := Lib.hid hmok
  have HOP := Lib.hid hops
  have HA := Lib.hid hcA
  have HR := Lib.hid hrow
  have HCN := Lib.hid hcn
  have HRT := Lib.hid hright
  clear hnx hn hmok hops hcA hrow hcn hright
  go_enter Tryz.func158, Tryz.ntmps158
  go_wp2_with fail
  refine (next_any s pc 0 (some ⟨g, 0, none⟩) n kc A b off c cn cap _ HCN.out hcn2 hpc0 HA.out HOP.out hst HR.out).mono ?_
  rintro e w1 ⟨e1, hx1⟩
  replace e1 : e = .returned (.tuple #[.agg (Ins.cells ⟨21, a, y, z⟩), .bool true]) := by rw [e1, HX.out]; rfl
  subst e1
  have hI1 := Blk.new w1 41 (Ins.cells ⟨21, a, y, z⟩)
  have x1 := hx1.alloc (.cells (Ins.cells ⟨21, a, y, z⟩) 41)
  have hS1 := Blk.ext hst x1
  have hM1 := hmem.ext x1
  have hQ1 := hmap.ext x1
  have l1 := hx1.size
  clear hst hmem hmap hx1
  go_upto_region 3 with (fail)
  generalize (w1.alloc (.cells (Ins.cells ⟨21, a, y, z⟩) 41)) = W1 at hI1 x1 hS1 hM1 hQ1 ⊢
  generalize w1.heap.size = ic at hI1 l1 ⊢
  have hi1 := Blk.has hI1
  have hj1 := Blk.gets hI1
  go_wp2_with fail
  refine (far_any ⟨21, a, y, z⟩ cn s pc 0 g 0 n kc m _ HN.out hn2 HRT.out HO.out hS1 hM1.row).mono ?_
  rintro e w2 ⟨e2, hx2⟩
  replace e2 : e = .returned (.int .i64 (-1)) := by rw [e2]; rfl
  subst e2
  have x2 := x1.trans hx2
  have hI2 := Blk.ext hI1 hx2
  have hS2 := Blk.ext hS1 hx2
  have hM2 := hM1.ext hx2
  have hQ2 := hQ1.ext hx2
  clear hI1 hS1 hM1 hQ1 x1 hx2 hi1 hj1
  have hcI := Blk.cell hI2
  have hcS := Blk.cell hS2
  have hfS := Blk.frozen hS2
  have lI := hI2.lt
  have lS := hS2.lt
  have lG := hM2.lt
  have hyl : y < m.length := by have := HN.out; omega
  have hyI : (y : Int) < n := by omega
  obtain ⟨v, hv⟩ : ∃ v, v = m[y] := ⟨_, rfl⟩
  have Hvr : Hid (i32ok v) := Lib.hid (by rw [hv]; exact HO.out _ (List.getElem_mem hyl))
  have HV := Lib.hid hv
  by_cases hz : v = 0
  · have b0 : (v == 0) = true := by simp [hz]
    have HE : Hid (execI ⟨21, a, y, z⟩ pc m = (pc + 1, 0, m)) := Lib.hid (by simp [execI, mget_in hyl, ← hv, hz])
    clear hv hz
    go_upto_region 30 with (fail)
    refine wp_region_3 (fun w3 => Ext w2 w3) [(0, 2), (1, 2), (2, 1), (3, 2), (4, 1), (5, 2), (6, 2), (7, 1), (8, 2), (9, 2)] (by kernel_rfl) (by kernel_rfl) (by kernel_rfl) (by kernel_rfl) ?_; intro l' hl'; simp only [List.map_cons, List.map_nil, List.getD_cons_zero, List.getD_cons_succ] at hl'; subst hl'
    (repeat (first | ((apply w3_pure); (· go_simp); (· (intro w1; go_simp; try with_reducible rfl)); (intro K hK; go_simp; refine hK _ _ ?_; clear hK K)) | ((apply w3_skip); (· go_simp); (intro K hK; go_simp; refine hK _ _ ?_; clear hK K)) | ((apply w3_take); (· exact (Kept.drew (Kept.refl _ _))); (· go_simp); (· (intro w1 hS; have d1 := Blk.cell (Blk.ext hI2 hS); have d2 := (hM2.ext hS).cell y hyl; rw [← HV.out] at d2;  go_simp; try with_reducible rfl)); (intro K hK; go_simp; refine hK _ _ ?_; clear hK K)) | ((apply w3_pass); (· exact (Kept.drew (Kept.refl _ _))); (· go_simp); (intro K hK; go_simp; refine hK _ _ ?_; clear hK K))))
    (repeat (first | ((apply w3_pure); (· go_simp); (· (intro w1; go_simp; try with_reducible rfl)); (intro K hK; go_simp; refine hK _ _ ?_; clear hK K)) | ((apply w3_skip); (· go_simp); (intro K hK; go_simp; refine hK _ _ ?_; clear hK K)) | (refine w3_end (by kernel_rfl) (fun K hK => ?_); go_simp; refine hK.out _ _ ?_; clear hK K))); refine w3_nil ?_
    have hS3 : StAt w2.drew s 70 pc (some ⟨g, 0, none⟩) n kc 0 := hS2
    have hM3 : MemAt w2.drew base g n kc m := hM2.ext ((Kept.refl _ _).drew)
    have hk3 : Kept (fun i => i = s ∨ i = g) w w2.drew := (Kept.ext x2).drew
    have hI3 : Blk w2.drew ic 41 _ := hI2
    have hcI3 := Blk.cell hI3
    have hcS3 := Blk.cell hS3
    have hfS3 := Blk.frozen hS3
    go_wp2_with fail
    go_end0
    refine ⟨rfl, ?_⟩
    rw [HE.out]
    exact Stepped.goal hk3 hS3 hM3 hsg _
  · have b0 : (v == 0) = false := by simp [hz]
    have HE : Hid (execI ⟨21, a, y, z⟩ pc m = ((a : Int), 0, m)) := Lib.hid (by simp [execI, mget_in hyl, ← hv, hz])
    clear hv hz
    go_upto_region 30 with (fail)
    refine wp_region_3 (fun w3 => Ext w2 w3) [(0, 2), (1, 2), (2, 1), (3, 2), (4, 1), (5, 2), (6, 2), (7, 1), (8, 2), (9, 2)] (by kernel_rfl) (by kernel_rfl) (by kernel_rfl) (by kernel_rfl) ?_; intro l' hl'; simp only [List.map_cons, List.map_nil, List.getD_cons_zero, List.getD_cons_succ] at hl'; subst hl'
    (repeat (first | ((apply w3_pure); (· go_simp); (· (intro w1; go_simp; try with_reducible rfl)); (intro K hK; go_simp; refine hK _ _ ?_; clear hK K)) | ((apply w3_skip); (· go_simp); (intro K hK; go_simp; refine hK _ _ ?_; clear hK K)) | ((apply w3_take); (· exact (Kept.drew (Kept.refl _ _))); (· go_simp); (· (intro w1 hS; have d1 := Blk.cell (Blk.ext hI2 hS); have d2 := (hM2.ext hS).cell y hyl; rw [← HV.out] at d2;  go_simp; try with_reducible rfl)); (intro K hK; go_simp; refine hK _ _ ?_; clear hK K)) | ((apply w3_pass); (· exact (Kept.drew (Kept.refl _ _))); (· go_simp); (intro K hK; go_simp; refine hK _ _ ?_; clear hK K))))
    (repeat (first | ((apply w3_pure); (· go_simp); (· (intro w1; go_simp; try with_reducible rfl)); (intro K hK; go_simp; refine hK _ _ ?_; clear hK K)) | ((apply w3_skip); (· go_simp); (intro K hK; go_simp; refine hK _ _ ?_; clear hK K)) | (refine w3_end (by kernel_rfl) (fun K hK => ?_); go_simp; refine hK.out _ _ ?_; clear hK K))); refine w3_nil ?_
    have hS3 : StAt w2.drew s 70 pc (some ⟨g, 0, none⟩) n kc 0 := hS2
    have hM3 : MemAt w2.drew base g n kc m := hM2.ext ((Kept.refl _ _).drew)
    have hk3 : Kept (fun i => i = s ∨ i = g) w w2.drew := (Kept.ext x2).drew
    have hI3 : Blk w2.drew ic 41 _ := hI2
    have hcI3 := Blk.cell hI3
    have hcS3 := Blk.cell hS3
    have hfS3 := Blk.frozen hS3
    go_wp2_with fail
    go_end0
    refine ⟨rfl, ?_⟩
    rw [HE.out]
    exact Stepped.goal hk3 hS3 hM3 hsg _
end Go.Proofs.YtahljceanodhkaaGreatDoor
