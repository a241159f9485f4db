/- Several texts joined: Mid, Mie, Mif, Mig, Mj, Mk. -/
import Derived.Test.YtahljceanodhkaaGreatDoorTef
/- Package machine: step, operation by operation. -/
namespace Go.Proofs.YtahljceanodhkaaGreatDoor
open Go.RowKit
set_option maxRecDepth 100000 in
set_option maxHeartbeats 2000000 in
theorem st_19 (w : World) (base s g n kc q : Nat) (A : Option Addr) (b off cn cap : Nat) (c : List Ins) (pc : Int) (m : List Int) (h : StepPre w base s g n kc q A b off cn c pc m) (a : Nat) (y z : Int) (hnx : nextI c pc n = some ⟨19, a, y, z⟩) (hright : rightI ⟨19, a, y, z⟩ cn n = true) :
    Calls Tryz.prog 158 #[.pointer (some ⟨s, 0, none⟩), .slice A cn cap, .map (some q)] w fun e w' => e = .returned (.tuple #[]) ∧ Stepped w w' base s g n kc (execI ⟨19, a, y, z⟩ pc m) := by
  obtain ⟨hn, hn1, hn2, hmok, hops, hst, hmem, hmap, hcA, hrow, hcn, hcn2, hpc0, hpc1, hsg⟩ := h
  have hls := hst.lt
  have hlg := hmem.lt
  have hlq := hmap.lt
  have hgs : ¬ g = s := fun e => hsg e.symm
  have HX := Lib.hid hnx
  have HN := Lib.hid hn
  have HO := Lib.hid hmok
  have HOP := Lib.hid hops
  have HA := Lib.hid hcA
  have HR := Lib.hid hrow
  have HCN := Lib.hid hcn
  have HRT := Lib.hid hright
  clear hnx hn hmok hops hcA hrow hcn hright
  go_enter Tryz.func158, Tryz.ntmps158
  go_wp2_with fail
  refine (next_any s pc 0 (some ⟨g, 0, none⟩) n kc A b off c cn cap _ HCN.out hcn2 hpc0 HA.out HOP.out hst HR.out).mono ?_
  rintro e w1 ⟨e1, hx1⟩
  replace e1 : e = .returned (.tuple #[.agg (Ins.cells ⟨19, a, y, z⟩), .bool true]) := by rw [e1, HX.out]; rfl
  subst e1
  have hI1 := Blk.new w1 41 (Ins.cells ⟨19, a, y, z⟩)
  have x1 := hx1.alloc (.cells (Ins.cells ⟨19, a, y, z⟩) 41)
  have hS1 := Blk.ext hst x1
  have hM1 := hmem.ext x1
  have hQ1 := hmap.ext x1
  have l1 := hx1.size
  clear hst hmem hmap hx1
  go_upto_region 3 with (fail)
  generalize (w1.alloc (.cells (Ins.cells ⟨19, a, y, z⟩) 41)) = W1 at hI1 x1 hS1 hM1 hQ1 ⊢
  generalize w1.heap.size = ic at hI1 l1 ⊢
  have hi1 := Blk.has hI1
  have hj1 := Blk.gets hI1
  go_wp2_with fail
  refine (far_any ⟨19, a, y, z⟩ cn s pc 0 g 0 n kc m _ HN.out hn2 HRT.out HO.out hS1 hM1.row).mono ?_
  rintro e w2 ⟨e2, hx2⟩
  replace e2 : e = .returned (.int .i64 (-1)) := by rw [e2]; rfl
  subst e2
  have x2 := x1.trans hx2
  have hI2 := Blk.ext hI1 hx2
  have hS2 := Blk.ext hS1 hx2
  have hM2 := hM1.ext hx2
  have hQ2 := hQ1.ext hx2
  clear hI1 hS1 hM1 hQ1 x1 hx2 hi1 hj1
  have hcI := Blk.cell hI2
  have hcS := Blk.cell hS2
  have hfS := Blk.frozen hS2
  have lI := hI2.lt
  have lS := hS2.lt
  have lG := hM2.lt
  have HE : Hid (execI ⟨19, a, y, z⟩ pc m = ((a : Int), 0, m)) := Lib.hid (by simp [execI])
  have hS3 := hS2
  have hM3 := hM2
  have hk3 : Kept (fun i => i = s ∨ i = g) w w2 := Kept.ext x2
  have hcS3 := Blk.cell hS3
  have hfS3 := Blk.frozen hS3
  go_wp2_with fail
  go_end0
  refine ⟨rfl, ?_⟩
  rw [HE.out]
  exact Stepped.goal hk3 hS3 hM3 hsg _
set_option maxRecDepth 100000 in
set_option maxHeartbeats 2000000 in
theorem st_20 (w : World) (base s g n kc q : Nat) (A : Option Addr) (b off cn cap : Nat) (c : List Ins) (pc : Int) (m : List Int) (h : StepPre w base s g n kc q A b off cn c pc m) (a y : Nat) (z : Int) (hy : y < n) (hnx : nextI c pc n = some ⟨20, a, y, z⟩) (hright : rightI ⟨20, a, y, z⟩ cn n = true) :
    Calls Tryz.prog 158 #[.pointer (some ⟨s, 0, none⟩), .slice A cn cap, .map (some q)] w fun e w' => e = .returned (.tuple #[]) ∧ Stepped w w' base s g n kc (execI ⟨20, a, y, z⟩ pc m) := by
  obtain ⟨hn, hn1, hn2, hmok, hops, hst, hmem, hmap, hcA, hrow, hcn, hcn2, hpc0, hpc1, hsg⟩ := h
  have hls := hst.lt
  have hlg := hmem.lt
  have hlq := hmap.lt
  have hgs : ¬ g = s := fun e => hsg e.symm
  have HX := Lib.hid hnx
  have HN := Lib.hid hn
  have HO := Lib.hid hmok
  have HOP := Lib.hid hops
  have HA := Lib.hid hcA
  have HR := Lib.hid hrow
  have HCN := Lib.hid hcn
  have HRT := Lib.hid hright
  clear hnx hn hmok hops hcA hrow hcn hright
  go_enter Tryz.func158, Tryz.ntmps158
  go_wp2_with fail
  refine (next_any s pc 0 (some ⟨g, 0, none⟩) n kc A b off c cn cap _ HCN.out hcn2 hpc0 HA.out HOP.out hst HR.out).mono ?_
  rintro e w1 ⟨e1, hx1⟩
  replace e1 : e = .returned (.tuple #[.agg (Ins.cells ⟨20, a, y, z⟩), .bool true]) := by rw [e1, HX.out]; rfl
  subst e1
  have hI1 := Blk.new w1 41 (Ins.cells ⟨20, a, y, z⟩)
  have x1 := hx1.alloc (.cells (Ins.cells ⟨20, a, y, z⟩) 41)
  have hS1 := Blk.ext hst x1
  have hM1 := hmem.ext x1
  have hQ1 := hmap.ext x1
  have l1 := hx1.size
  clear hst hmem hmap hx1
  go_upto_region 3 with (fail)
  generalize (w1.alloc (.cells (Ins.cells ⟨20, a, y, z⟩) 41)) = W1 at hI1 x1 hS1 hM1 hQ1 ⊢
  generalize w1.heap.size = ic at hI1 l1 ⊢
  have hi1 := Blk.has hI1
  have hj1 := Blk.gets hI1
  go_wp2_with fail
  refine (far_any ⟨20, a, y, z⟩ cn s pc 0 g 0 n kc m _ HN.out hn2 HRT.out HO.out hS1 hM1.row).mono ?_
  rintro e w2 ⟨e2, hx2⟩
  replace e2 : e = .returned (.int .i64 (-1)) := by rw [e2]; rfl
  subst e2
  have x2 := x1.trans hx2
  have hI2 := Blk.ext hI1 hx2
  have hS2 := Blk.ext hS1 hx2
  have hM2 := hM1.ext hx2
  have hQ2 := hQ1.ext hx2
  clear hI1 hS1 hM1 hQ1 x1 hx2 hi1 hj1
  have hcI := Blk.cell hI2
  have hcS := Blk.cell hS2
  have hfS := Blk.frozen hS2
  have lI := hI2.lt
  have lS := hS2.lt
  have lG := hM2.lt
  have hyl : y < m.length := by have := HN.out; omega
  have hyI : (y : Int) < n := by omega
  obtain ⟨v, hv⟩ : ∃ v, v = m[y] := ⟨_, rfl⟩
  have Hvr : Hid (i32ok v) := Lib.hid (by rw [hv]; exact HO.out _ (List.getElem_mem hyl))
  have HV := Lib.hid hv
  by_cases hz : v = 0
  · have b0 : (v == 0) = true := by simp [hz]
    have HE : Hid (execI ⟨20, a, y, z⟩ pc m = ((a : Int), 0, m)) := Lib.hid (by simp [execI, mget_in hyl, ← hv, hz])
    clear hv hz
    go_upto_region 30 with (fail)
    refine wp_region_3 (fun w3 => Ext w2 w3) [(0, 2), (1, 2), (2, 1), (3, 2), (4, 1), (5, 2), (6, 2), (7, 1), (8, 2), (9, 2)] (by kernel_rfl) (by kernel_rfl) (by kernel_rfl) (by kernel_rfl) ?_; intro l' hl'; simp only [List.map_cons, List.map_nil, List.getD_cons_zero, List.getD_cons_succ] at hl'; subst hl'
    (repeat (first | ((apply w3_pure); (· go_simp); (· (intro w1; go_simp; try with_reducible rfl)); (intro K hK; go_simp; refine hK _ _ ?_; clear hK K)) | ((apply w3_skip); (· go_simp); (intro K hK; go_simp; refine hK _ _ ?_; clear hK K)) | ((apply w3_take); (· exact (Kept.drew (Kept.refl _ _))); (· go_simp); (· (intro w1 hS; have d1 := Blk.cell (Blk.ext hI2 hS); have d2 := (hM2.ext hS).cell y hyl; rw [← HV.out] at d2;  go_simp; try with_reducible rfl)); (intro K hK; go_simp; refine hK _ _ ?_; clear hK K)) | ((apply w3_pass); (· exact (Kept.drew (Kept.refl _ _))); (· go_simp); (intro K hK; go_simp; refine hK _ _ ?_; clear hK K))))
    (repeat (first | ((apply w3_pure); (· go_simp); (· (intro w1; go_simp; try with_reducible rfl)); (intro K hK; go_simp; refine hK _ _ ?_; clear hK K)) | ((apply w3_skip); (· go_simp); (intro K hK; go_simp; refine hK _ _ ?_; clear hK K)) | (refine w3_end (by kernel_rfl) (fun K hK => ?_); go_simp; refine hK.out _ _ ?_; clear hK K))); refine w3_nil ?_
    have hS3 : StAt w2.drew s 70 pc (some ⟨g, 0, none⟩) n kc 0 := hS2
    have hM3 : MemAt w2.drew base g n kc m := hM2.ext ((Kept.refl _ _).drew)
    have hk3 : Kept (fun i => i = s ∨ i = g) w w2.drew := (Kept.ext x2).drew
    have hI3 : Blk w2.drew ic 41 _ := hI2
    have hcI3 := Blk.cell hI3
    have hcS3 := Blk.cell hS3
    have hfS3 := Blk.frozen hS3
    go_wp2_with fail
    go_end0
    refine ⟨rfl, ?_⟩
    rw [HE.out]
    exact Stepped.goal hk3 hS3 hM3 hsg _
  · have b0 : (v == 0) = false := by simp [hz]
    have HE : Hid (execI ⟨20, a, y, z⟩ pc m = (pc + 1, 0, m)) := Lib.hid (by simp [execI, mget_in hyl, ← hv, hz])
    clear hv hz
    go_upto_region 30 with (fail)
    refine wp_region_3 (fun w3 => Ext w2 w3) [(0, 2), (1, 2), (2, 1), (3, 2), (4, 1), (5, 2), (6, 2), (7, 1), (8, 2), (9, 2)] (by kernel_rfl) (by kernel_rfl) (by kernel_rfl) (by kernel_rfl) ?_; intro l' hl'; simp only [List.map_cons, List.map_nil, List.getD_cons_zero, List.getD_cons_succ] at hl'; subst hl'
    (repeat (first | ((apply w3_pure); (· go_simp); (· (intro w1; go_simp; try with_reducible rfl)); (intro K hK; go_simp; refine hK _ _ ?_; clear hK K)) | ((apply w3_skip); (· go_simp); (intro K hK; go_simp; refine hK _ _ ?_; clear hK K)) | ((apply w3_take); (· exact (Kept.drew (Kept.refl _ _))); (· go_simp); (· (intro w1 hS; have d1 := Blk.cell (Blk.ext hI2 hS); have d2 := (hM2.ext hS).cell y hyl; rw [← HV.out] at d2;  go_simp; try with_reducible rfl)); (intro K hK; go_simp; refine hK _ _ ?_; clear hK K)) | ((apply w3_pass); (· exact (Kept.drew (Kept.refl _ _))); (· go_simp); (intro K hK; go_simp; refine hK _ _ ?_; clear hK K))))
    (repeat (first | ((apply w3_pure); (· go_simp); (· (intro w1; go_simp; try with_reducible rfl)); (intro K hK; go_simp; refine hK _ _ ?_; clear hK K)) | ((apply w3_skip); (· go_simp); (intro K hK; go_simp; refine hK _ _ ?_; clear hK K)) | (refine w3_end (by kernel_rfl) (fun K hK => ?_); go_simp; refine hK.out _ _ ?_; clear hK K))); refine w3_nil ?_
    have hS3 : StAt w2.drew s 70 pc (some ⟨g, 0, none⟩) n kc 0 := hS2
    have hM3 : MemAt w2.drew base g n kc m := hM2.ext ((Kept.refl _ _).drew)
    have hk3 : Kept (fun i => i = s ∨ i = g) w w2.drew := (Kept.ext x2).drew
    have hI3 : Blk w2.drew ic 41 _ := hI2
    have hcI3 := Blk.cell hI3
    have hcS3 := Blk.cell hS3
    have hfS3 := Blk.frozen hS3
    go_wp2_with fail
    go_end0
    refine ⟨rfl, ?_⟩
    rw [HE.out]
    exact Stepped.goal hk3 hS3 hM3 hsg _
set_option maxRecDepth 100000 in
set_option maxHeartbeats 2000000 in
theorem st_21 (w : World) (base s g n kc q : Nat) (A : Option Addr) (b off cn cap : Nat) (c : List Ins) (pc : Int) (m : List Int) (h : StepPre w base s g n kc q A b off cn c pc m) (a y : Nat) (z : Int) (hy : y < n) (hnx : nextI c pc n = some ⟨21, a, y, z⟩) (hright : rightI ⟨21, a, y, z⟩ cn n = true) :
    Calls Tryz.prog 158 #[.pointer (some ⟨s, 0, none⟩), .slice A cn cap, .map (some q)] w fun e w' => e = .returned (.tuple #[]) ∧ Stepped w w' base s g n kc (execI ⟨21, a, y, z⟩ pc m) := by
  obtain ⟨hn, hn1, hn2, hmok, hops, hst, hmem, hmap, hcA, hrow, hcn, hcn2, hpc0, hpc1, hsg⟩ := h
  have hls := hst.lt
  have hlg := hmem.lt
  have hlq := hmap.lt
  have hgs : ¬ g = s := fun e => hsg e.symm
  have HX := Lib.hid hnx
  have HN := Lib.hid hn
  have HO := Lib.hid hmok
  have HOP := Lib.hid hops
  have HA := Lib.hid hcA
  have HR := Lib.hid hrow
  have HCN := Lib.hid hcn
  have HRT := Lib.hid hright
  clear hnx hn hmok hops hcA hrow hcn hright
  go_enter Tryz.func158, Tryz.ntmps158
  go_wp2_with fail
  refine (next_any s pc 0 (some ⟨g, 0, none⟩) n kc A b off c cn cap _ HCN.out hcn2 hpc0 HA.out HOP.out hst HR.out).mono ?_
  rintro e w1 ⟨e1, hx1⟩
  replace e1 : e = .returned (.tuple #[.agg (Ins.cells ⟨21, a, y, z⟩), .bool true]) := by rw [e1, HX.out]; rfl
  subst e1
  have hI1 := Blk.new w1 41 (Ins.cells ⟨21, a, y, z⟩)
  have x1 := hx1.alloc (.cells (Ins.cells ⟨21, a, y, z⟩) 41)
  have hS1 := Blk.ext hst x1
  have hM1 := hmem.ext x1
  have hQ1 := hmap.ext x1
  have l1 := hx1.size
  clear hst hmem hmap hx1
  go_upto_region 3 with (fail)
  generalize (w1.alloc (.cells (Ins.cells ⟨21, a, y, z⟩) 41)) = W1 at hI1 x1 hS1 hM1 hQ1 ⊢
  generalize w1.heap.size = ic at hI1 l1 ⊢
  have hi1 := Blk.has hI1
  have hj1 := Blk.gets hI1
  go_wp2_with fail
  refine (far_any ⟨21, a, y, z⟩ cn s pc 0 g 0 n kc m _ HN.out hn2 HRT.out HO.out hS1 hM1.row).mono ?_
  rintro e w2 ⟨e2, hx2⟩
  replace e2 : e = .returned (.int .i64 (-1)) := by rw [e2]; rfl
  subst e2
  have x2 := x1.trans hx2
  have hI2 := Blk.ext hI1 hx2
  have hS2 := Blk.ext hS1 hx2
  have hM2 := hM1.ext hx2
  have hQ2 := hQ1.ext hx2
  clear hI1 hS1 hM1 hQ1 x1 hx2 hi1 hj1
  have hcI := Blk.cell hI2
  have hcS := Blk.cell hS2
  have hfS := Blk.frozen hS2
  have lI := hI2.lt
  have lS := hS2.lt
  have lG := hM2.lt
  have hyl : y < m.length := by have := HN.out; omega
  have hyI : (y : Int) < n := by omega
  obtain ⟨v, hv⟩ : ∃ v, v = m[y] := ⟨_, rfl⟩
  have Hvr : Hid (i32ok v) := Lib.hid (by rw [hv]; exact HO.out _ (List.getElem_mem hyl))
  have HV := Lib.hid hv
  by_cases hz : v = 0
  · have b0 : (v == 0) = true := by simp [hz]
    have HE : Hid (execI ⟨21, a, y, z⟩ pc m = (pc + 1, 0, m)) := Lib.hid (by simp [execI, mget_in hyl, ← hv, hz])
    clear hv hz
    go_upto_region 30 with (fail)
    refine wp_region_3 (fun w3 => Ext w2 w3) [(0, 2), (1, 2), (2, 1), (3, 2), (4, 1), (5, 2), (6, 2), (7, 1), (8, 2), (9, 2)] (by kernel_rfl) (by kernel_rfl) (by kernel_rfl) (by kernel_rfl) ?_; intro l' hl'; simp only [List.map_cons, List.map_nil, List.getD_cons_zero, List.getD_cons_succ] at hl'; subst hl'
    (repeat (first | ((apply w3_pure); (· go_simp); (· (intro w1; go_simp; try with_reducible rfl)); (intro K hK; go_simp; refine hK _ _ ?_; clear hK K)) | ((apply w3_skip); (· go_simp); (intro K hK; go_simp; refine hK _ _ ?_; clear hK K)) | ((apply w3_take); (· exact (Kept.drew (Kept.refl _ _))); (· go_simp); (· (intro w1 hS; have d1 := Blk.cell (Blk.ext hI2 hS); have d2 := (hM2.ext hS).cell y hyl; rw [← HV.out] at d2;  go_simp; try with_reducible rfl)); (intro K hK; go_simp; refine hK _ _ ?_; clear hK K)) | ((apply w3_pass); (· exact (Kept.drew (Kept.refl _ _))); (· go_simp); (intro K hK; go_simp; refine hK _ _ ?_; clear hK K))))
    (repeat (first | ((apply w3_pure); (· go_simp); (· (intro w1; go_simp; try with_reducible rfl)); (intro K hK; go_simp; refine hK _ _ ?_; clear hK K)) | ((apply w3_skip); (· go_simp); (intro K hK; go_simp; refine hK _ _ ?_; clear hK K)) | (refine w3_end (by kernel_rfl) (fun K hK => ?_); go_simp; refine hK.out _ _ ?_; clear hK K))); refine w3_nil ?_
    have hS3 : StAt w2.drew s 70 pc (some ⟨g, 0, none⟩) n kc 0 := hS2
    have hM3 : MemAt w2.drew base g n kc m := hM2.ext ((Kept.refl _ _).drew)
    have hk3 : Kept (fun i => i = s ∨ i = g) w w2.drew := (Kept.ext x2).drew
    have hI3 : Blk w2.drew ic 41 _ := hI2
    have hcI3 := Blk.cell hI3
    have hcS3 := Blk.cell hS3
    have hfS3 := Blk.frozen hS3
    go_wp2_with fail
    go_end0
    refine ⟨rfl, ?_⟩
    rw [HE.out]
    exact Stepped.goal hk3 hS3 hM3 hsg _
  · have b0 : (v == 0) = false := by simp [hz]
    have HE : Hid (execI ⟨21, a, y, z⟩ pc m = ((a : Int), 0, m)) := Lib.hid (by simp [execI, mget_in hyl, ← hv, hz])
    clear hv hz
    go_upto_region 30 with (fail)
    refine wp_region_3 (fun w3 => Ext w2 w3) [(0, 2), (1, 2), (2, 1), (3, 2), (4, 1), (5, 2), (6, 2), (7, 1), (8, 2), (9, 2)] (by kernel_rfl) (by kernel_rfl) (by kernel_rfl) (by kernel_rfl) ?_; intro l' hl'; simp only [List.map_cons, List.map_nil, List.getD_cons_zero, List.getD_cons_succ] at hl'; subst hl'
    (repeat (first | ((apply w3_pure); (· go_simp); (· (intro w1; go_simp; try with_reducible rfl)); (intro K hK; go_simp; refine hK _ _ ?_; clear hK K)) | ((apply w3_skip); (· go_simp); (intro K hK; go_simp; refine hK _ _ ?_; clear hK K)) | ((apply w3_take); (· exact (Kept.drew (Kept.refl _ _))); (· go_simp); (· (intro w1 hS; have d1 := Blk.cell (Blk.ext hI2 hS); have d2 := (hM2.ext hS).cell y hyl; rw [← HV.out] at d2;  go_simp; try with_reducible rfl)); (intro K hK; go_simp; refine hK _ _ ?_; clear hK K)) | ((apply w3_pass); (· exact (Kept.drew (Kept.refl _ _))); (· go_simp); (intro K hK; go_simp; refine hK _ _ ?_; clear hK K))))
    (repeat (first | ((apply w3_pure); (· go_simp); (· (intro w1; go_simp; try with_reducible rfl)); (intro K hK; go_simp; refine hK _ _ ?_; clear hK K)) | ((apply w3_skip); (· go_simp); (intro K hK; go_simp; refine hK _ _ ?_; clear hK K)) | (refine w3_end (by kernel_rfl) (fun K hK => ?_); go_simp; refine hK.out _ _ ?_; clear hK K))); refine w3_nil ?_
    have hS3 : StAt w2.drew s 70 pc (some ⟨g, 0, none⟩) n kc 0 := hS2
    have hM3 : MemAt w2.drew base g n kc m := hM2.ext ((Kept.refl _ _).drew)
    have hk3 : Kept (fun i => i = s ∨ i = g) w w2.drew := (Kept.ext x2).drew
    have hI3 : Blk w2.drew ic 41 _ := hI2
    have hcI3 := Blk.cell hI3
    have hcS3 := Blk.cell hS3
    have hfS3 := Blk.frozen hS3
    go_wp2_with fail
    go_end0
    refine ⟨rfl, ?_⟩
    rw [HE.out]
    exact Stepped.goal hk3 hS3 hM3 hsg _
end Go.Proofs.YtahljceanodhkaaGreatDoor

/- Package machine: step, operation by operation. -/
namespace Go.Proofs.YtahljceanodhkaaGreatDoor
open Go.RowKit
set_option maxRecDepth 100000 in
set_option maxHeartbeats 2000000 in
theorem st_3 (w : World) (base s g n kc q : Nat) (A : Option Addr) (b off cn cap : Nat) (c : List Ins) (pc : Int) (m : List Int) (h : StepPre w base s g n kc q A b off cn c pc m) (a y z : Nat) (ha : a < n) (hy : y < n) (hz : z < n) (hnx : nextI c pc n = some ⟨3, a, y, z⟩) (hright : rightI ⟨3, a, y, z⟩ cn n = true) :
    Calls Tryz.prog 158 #[.pointer (some ⟨s, 0, none⟩), .slice A cn cap, .map (some q)] w fun e w' => e = .returned (.tuple #[]) ∧ Stepped w w' base s g n kc (execI ⟨3, a, y, z⟩ pc m) := by
  obtain ⟨hn, hn1, hn2, hmok, hops, hst, hmem, hmap, hcA, hrow, hcn, hcn2, hpc0, hpc1, hsg⟩ := h
  have hls := hst.lt
  have hlg := hmem.lt
  have hlq := hmap.lt
  have hgs : ¬ g = s := fun e => hsg e.symm
  have HX := Lib.hid hnx
  have HN := Lib.hid hn
  have HO := Lib.hid hmok
  have HOP := Lib.hid hops
  have HA := Lib.hid hcA
  have HR := Lib.hid hrow
  have HCN := Lib.hid hcn
  have HRT := Lib.hid hright
  clear hnx hn hmok hops hcA hrow hcn hright
  go_enter Tryz.func158, Tryz.ntmps158
  go_wp2_with fail
  refine (next_any s pc 0 (some ⟨g, 0, none⟩) n kc A b off c cn cap _ HCN.out hcn2 hpc0 HA.out HOP.out hst HR.out).mono ?_
  rintro e w1 ⟨e1, hx1⟩
  replace e1 : e = .returned (.tuple #[.agg (Ins.cells ⟨3, a, y, z⟩), .bool true]) := by rw [e1, HX.out]; rfl
  subst e1
  have hI1 := Blk.new w1 41 (Ins.cells ⟨3, a, y, z⟩)
  have x1 := hx1.alloc (.cells (Ins.cells ⟨3, a, y, z⟩) 41)
  have hS1 := Blk.ext hst x1
  have hM1 := hmem.ext x1
  have hQ1 := hmap.ext x1
  have l1 := hx1.size
  clear hst hmem hmap hx1
  go_upto_region 3 with (fail)
  generalize (w1.alloc (.cells (Ins.cells ⟨3, a, y, z⟩) 41)) = W1 at hI1 x1 hS1 hM1 hQ1 ⊢
  generalize w1.heap.size = ic at hI1 l1 ⊢
  have hi1 := Blk.has hI1
  have hj1 := Blk.gets hI1
  go_wp2_with fail
  refine (far_any ⟨3, a, y, z⟩ cn s pc 0 g 0 n kc m _ HN.out hn2 HRT.out HO.out hS1 hM1.row).mono ?_
  rintro e w2 ⟨e2, hx2⟩
  replace e2 : e = .returned (.int .i64 (-1)) := by rw [e2]; rfl
  subst e2
  have x2 := x1.trans hx2
  have hI2 := Blk.ext hI1 hx2
  have hS2 := Blk.ext hS1 hx2
  have hM2 := hM1.ext hx2
  have hQ2 := hQ1.ext hx2
  clear hI1 hS1 hM1 hQ1 x1 hx2 hi1 hj1
  have hcI := Blk.cell hI2
  have hcS := Blk.cell hS2
  have hfS := Blk.frozen hS2
  have lI := hI2.lt
  have lS := hS2.lt
  have lG := hM2.lt
  have hal : a < m.length := by have := HN.out; omega
  have haI : (a : Int) < n := by omega
  have hyl : y < m.length := by have := HN.out; omega
  have hyI : (y : Int) < n := by omega
  have hzl : z < m.length := by have := HN.out; omega
  have hzI : (z : Int) < n := by omega
  have hcM := hM2.cell a hal
  have hfM := hM2.frozen
  obtain ⟨v, hv⟩ : ∃ v, v = m[y] := ⟨_, rfl⟩
  have Hvr : Hid (i32ok v) := Lib.hid (by rw [hv]; exact HO.out _ (List.getElem_mem hyl))
  obtain ⟨u, hu⟩ : ∃ u, u = m[z] := ⟨_, rfl⟩
  have Hur : Hid (i32ok u) := Lib.hid (by rw [hu]; exact HO.out _ (List.getElem_mem hzl))
  have HE : Hid (execI ⟨3, a, y, z⟩ pc m = (pc + 1, 0, m.set a (twoI 3 v u))) := Lib.hid (by simp [execI, mput, mget_in hyl, mget_in hzl, hv, hu])
  have HV := Lib.hid hv
  have HU := Lib.hid hu
  clear hv hu
  go_upto_region 9 with (fail)
  refine wp_region_3 (fun w3 => Ext w2 w3) [(0, 2), (1, 2), (2, 1), (3, 2), (4, 2), (5, 1), (6, 1), (7, 2), (8, 2), (9, 1), (10, 2), (11, 1), (12, 2), (13, 2), (14, 1), (15, 2), (16, 1), (17, 0), (18, 2), (19, 0)] (by kernel_rfl) (by kernel_rfl) (by kernel_rfl) (by kernel_rfl) ?_; intro l' hl'; simp only [List.map_cons, List.map_nil, List.getD_cons_zero, List.getD_cons_succ] at hl'; subst hl'
  (repeat (first | ((apply w3_pure); (· go_simp); (· (intro w1; go_simp; try with_reducible rfl)); (intro K hK; go_simp; refine hK _ _ ?_; clear hK K)) | ((apply w3_skip); (· go_simp); (intro K hK; go_simp; refine hK _ _ ?_; clear hK K)) | ((apply w3_take); (· exact (Kept.drew (Kept.refl _ _))); (· go_simp); (· (intro w1 hS; have d1 := Blk.cell (Blk.ext hI2 hS); have d2 := (hM2.ext hS).cell y hyl; rw [← HV.out] at d2; have d3 := (hM2.ext hS).cell z hzl; rw [← HU.out] at d3; have d4 := lookF _ q 3 (.func (.func 197) #[] #[]) 0 (hQ2.ext hS) (by rfl);  go_simp; try with_reducible rfl)); (intro K hK; go_simp; refine hK _ _ ?_; clear hK K)) | ((apply w3_pass); (· exact (Kept.drew (Kept.refl _ _))); (· go_simp); (intro K hK; go_simp; refine hK _ _ ?_; clear hK K))))
  (refine w3_act (fun K hK => ?_); go_simp)
  go_wp2_with fail
  refine (two3 v u Hvr.out Hur.out _).mono ?_
  rintro e w3 ⟨rfl, rfl⟩
  refine hK.out _ _ (fun h => h) ?_
  clear hK K
  obtain ⟨t, ht⟩ : ∃ t, t = twoI 3 v u := ⟨_, rfl⟩
  rw [← ht]
  have HT := Lib.hid ht
  clear ht
  (repeat (first | ((apply w3_pure); (· go_simp); (· (intro w1; go_simp; try with_reducible rfl)); (intro K hK; go_simp; refine hK _ _ ?_; clear hK K)) | ((apply w3_skip); (· go_simp); (intro K hK; go_simp; refine hK _ _ ?_; clear hK K)) | (refine w3_end (by kernel_rfl) (fun K hK => ?_); go_simp; refine hK.out _ _ ?_; clear hK K))); refine w3_nil ?_
  have hS3 : StAt (w2.setCell ⟨g, a, none⟩ (.int .i32 (t))).drew s 70 pc (some ⟨g, 0, none⟩) n kc 0 := Blk.far hS2 (p := ⟨g, a, none⟩) hsg (.int .i32 (t))
  have hM3 : MemAt (w2.setCell ⟨g, a, none⟩ (.int .i32 (t))).drew base g n kc (m.set a (t)) := (hM2.set a hal (t)).ext ((Kept.refl _ _).drew)
  have hk3 : Kept (fun i => i = s ∨ i = g) w (w2.setCell ⟨g, a, none⟩ (.int .i32 (t))).drew := (Kept.setCell (Kept.ext x2) _ _ (fun _ => .inr rfl)).drew
  generalize (w2.setCell ⟨g, a, none⟩ (.int .i32 (t))).drew = W3 at hS3 hM3 hk3 ⊢
  have hcS3 := Blk.cell hS3
  have hfS3 := Blk.frozen hS3
  go_wp2_with fail
  go_end0
  refine ⟨rfl, ?_⟩
  rw [HE.out, ← HT.out]
  exact Stepped.goal hk3 hS3 hM3 hsg _
set_option maxRecDepth 100000 in
set_option maxHeartbeats 2000000 in
theorem st_4 (w : World) (base s g n kc q : Nat) (A : Option Addr) (b off cn cap : Nat) (c : List Ins) (pc : Int) (m : List Int) (h : StepPre w base s g n kc q A b off cn c pc m) (a y z : Nat) (ha : a < n) (hy : y < n) (hz : z < n) (hnx : nextI c pc n = some ⟨4, a, y, z⟩) (hright : rightI ⟨4, a, y, z⟩ cn n = true) :
    Calls Tryz.prog 158 #[.pointer (some ⟨s, 0, none⟩), .slice A cn cap, .map (some q)] w fun e w' => e = .returned (.tuple #[]) ∧ Stepped w w' base s g n kc (execI ⟨4, a, y, z⟩ pc m) := by
  obtain ⟨hn, hn1, hn2, hmok, hops, hst, hmem, hmap, hcA, hrow, hcn, hcn2, hpc0, hpc1, hsg⟩ := h
  have hls := hst.lt
  have hlg := hmem.lt
  have hlq := hmap.lt
  have hgs : ¬ g = s := fun e => hsg e.symm
  have HX := Lib.hid hnx
  have HN := Lib.hid hn
  have HO := Lib.hid hmok
  have HOP := Lib.hid hops
  have HA := Lib.hid hcA
  have HR := Lib.hid hrow
  have HCN := Lib.hid hcn
  have HRT := Lib.hid hright
  clear hnx hn hmok hops hcA hrow hcn hright
  go_enter Tryz.func158, Tryz.ntmps158
  go_wp2_with fail
  refine (next_any s pc 0 (some ⟨g, 0, none⟩) n kc A b off c cn cap _ HCN.out hcn2 hpc0 HA.out HOP.out hst HR.out).mono ?_
  rintro e w1 ⟨e1, hx1⟩
  replace e1 : e = .returned (.tuple #[.agg (Ins.cells ⟨4, a, y, z⟩), .bool true]) := by rw [e1, HX.out]; rfl
  subst e1
  have hI1 := Blk.new w1 41 (Ins.cells ⟨4, a, y, z⟩)
  have x1 := hx1.alloc (.cells (Ins.cells ⟨4, a, y, z⟩) 41)
  have hS1 := Blk.ext hst x1
  have hM1 := hmem.ext x1
  have hQ1 := hmap.ext x1
  have l1 := hx1.size
  clear hst hmem hmap hx1
  go_upto_region 3 with (fail)
  generalize (w1.alloc (.cells (Ins.cells ⟨4, a, y, z⟩) 41)) = W1 at hI1 x1 hS1 hM1 hQ1 ⊢
  generalize w1.heap.size = ic at hI1 l1 ⊢
  have hi1 := Blk.has hI1
  have hj1 := Blk.gets hI1
  go_wp2_with fail
  refine (far_any ⟨4, a, y, z⟩ cn s pc 0 g 0 n kc m _ HN.out hn2 HRT.out HO.out hS1 hM1.row).mono ?_
  rintro e w2 ⟨e2, hx2⟩
  replace e2 : e = .returned (.int .i64 (-1)) := by rw [e2]; rfl
  subst e2
  have x2 := x1.trans hx2
  have hI2 := Blk.ext hI1 hx2
  have hS2 := Blk.ext hS1 hx2
  have hM2 := hM1.ext hx2
  have hQ2 := hQ1.ext hx2
  clear hI1 hS1 hM1 hQ1 x1 hx2 hi1 hj1
  have hcI := Blk.cell hI2
  have hcS := Blk.cell hS2
  have hfS := Blk.frozen hS2
  have lI := hI2.lt
  have lS := hS2.lt
  have lG := hM2.lt
  have hal : a < m.length := by have := HN.out; omega
  have haI : (a : Int) < n := by omega
  have hyl : y < m.length := by have := HN.out; omega
  have hyI : (y : Int) < n := by omega
  have hzl : z < m.length := by have := HN.out; omega
  have hzI : (z : Int) < n := by omega
  have hcM := hM2.cell a hal
  have hfM := hM2.frozen
  obtain ⟨v, hv⟩ : ∃ v, v = m[y] := ⟨_, rfl⟩
  have Hvr : Hid (i32ok v) := Lib.hid (by rw [hv]; exact HO.out _ (List.getElem_mem hyl))
  obtain ⟨u, hu⟩ : ∃ u, u = m[z] := ⟨_, rfl⟩
  have Hur : Hid (i32ok u) := Lib.hid (by rw [hu]; exact HO.out _ (List.getElem_mem hzl))
  have HE : Hid (execI ⟨4, a, y, z⟩ pc m = (pc + 1, 0, m.set a (twoI 4 v u))) := Lib.hid (by simp [execI, mput, mget_in hyl, mget_in hzl, hv, hu])
  have HV := Lib.hid hv
  have HU := Lib.hid hu
  clear hv hu
  go_upto_region 9 with (fail)
  refine wp_region_3 (fun w3 => Ext w2 w3) [(0, 2), (1, 2), (2, 1), (3, 2), (4, 2), (5, 1), (6, 1), (7, 2), (8, 2), (9, 1), (10, 2), (11, 1), (12, 2), (13, 2), (14, 1), (15, 2), (16, 1), (17, 0), (18, 2), (19, 0)] (by kernel_rfl) (by kernel_rfl) (by kernel_rfl) (by kernel_rfl) ?_; intro l' hl'; simp only [List.map_cons, List.map_nil, List.getD_cons_zero, List.getD_cons_succ] at hl'; subst hl'
  (repeat (first | ((apply w3_pure); (· go_simp); (· (intro w1; go_simp; try with_reducible rfl)); (intro K hK; go_simp; refine hK _ _ ?_; clear hK K)) | ((apply w3_skip); (· go_simp); (intro K hK; go_simp; refine hK _ _ ?_; clear hK K)) | ((apply w3_take); (· exact (Kept.drew (Kept.refl _ _))); (· go_simp); (· (intro w1 hS; have d1 := Blk.cell (Blk.ext hI2 hS); have d2 := (hM2.ext hS).cell y hyl; rw [← HV.out] at d2; have d3 := (hM2.ext hS).cell z hzl; rw [← HU.out] at d3; have d4 := lookF _ q 4 (.func (.func 198) #[] #[]) 1 (hQ2.ext hS) (by rfl);  go_simp; try with_reducible rfl)); (intro K hK; go_simp; refine hK _ _ ?_; clear hK K)) | ((apply w3_pass); (· exact (Kept.drew (Kept.refl _ _))); (· go_simp); (intro K hK; go_simp; refine hK _ _ ?_; clear hK K))))
  (refine w3_act (fun K hK => ?_); go_simp)
  go_wp2_with fail
  refine (two4 v u Hvr.out Hur.out _).mono ?_
  rintro e w3 ⟨rfl, rfl⟩
  refine hK.out _ _ (fun h => h) ?_
  clear hK K
  obtain ⟨t, ht⟩ : ∃ t, t = twoI 4 v u := ⟨_, rfl⟩
  rw [← ht]
  have HT := Lib.hid ht
  clear ht
  (repeat (first | ((apply w3_pure); (· go_simp); (· (intro w1; go_simp; try with_reducible rfl)); (intro K hK; go_simp; refine hK _ _ ?_; clear hK K)) | ((apply w3_skip); (· go_simp); (intro K hK; go_simp; refine hK _ _ ?_; clear hK K)) | (refine w3_end (by kernel_rfl) (fun K hK => ?_); go_simp; refine hK.out _ _ ?_; clear hK K))); refine w3_nil ?_
  have hS3 : StAt (w2.setCell ⟨g, a, none⟩ (.int .i32 (t))).drew s 70 pc (some ⟨g, 0, none⟩) n kc 0 := Blk.far hS2 (p := ⟨g, a, none⟩) hsg (.int .i32 (t))
  have hM3 : MemAt (w2.setCell ⟨g, a, none⟩ (.int .i32 (t))).drew base g n kc (m.set a (t)) := (hM2.set a hal (t)).ext ((Kept.refl _ _).drew)
  have hk3 : Kept (fun i => i = s ∨ i = g) w (w2.setCell ⟨g, a, none⟩ (.int .i32 (t))).drew := (Kept.setCell (Kept.ext x2) _ _ (fun _ => .inr rfl)).drew
  generalize (w2.setCell ⟨g, a, none⟩ (.int .i32 (t))).drew = W3 at hS3 hM3 hk3 ⊢
  have hcS3 := Blk.cell hS3
  have hfS3 := Blk.frozen hS3
  go_wp2_with fail
  go_end0
  refine ⟨rfl, ?_⟩
  rw [HE.out, ← HT.out]
  exact Stepped.goal hk3 hS3 hM3 hsg _
set_option maxRecDepth 100000 in
set_option maxHeartbeats 2000000 in
theorem st_5 (w : World) (base s g n kc q : Nat) (A : Option Addr) (b off cn cap : Nat) (c : List Ins) (pc : Int) (m : List Int) (h : StepPre w base s g n kc q A b off cn c pc m) (a y z : Nat) (ha : a < n) (hy : y < n) (hz : z < n) (hnx : nextI c pc n = some ⟨5, a, y, z⟩) (hright : rightI ⟨5, a, y, z⟩ cn n = true) :
    Calls Tryz.prog 158 #[.pointer (some ⟨s, 0, none⟩), .slice A cn cap, .map (some q)] w fun e w' => e = .returned (.tuple #[]) ∧ Stepped w w' base s g n kc (execI ⟨5, a, y, z⟩ pc m) := by
  obtain ⟨hn, hn1, hn2, hmok, hops, hst, hmem, hmap, hcA, hrow, hcn, hcn2, hpc0, hpc1, hsg⟩ := h
  have hls := hst.lt
  have hlg := hmem.lt
  have hlq := hmap.lt
  have hgs : ¬ g = s := fun e => hsg e.symm
  have HX := Lib.hid hnx
  have HN := Lib.hid hn
  have HO := Lib.hid hmok
  have HOP := Lib.hid hops
  have HA := Lib.hid hcA
  have HR := Lib.hid hrow
  have HCN := Lib.hid hcn
  have HRT := Lib.hid hright
  clear hnx hn hmok hops hcA hrow hcn hright
  go_enter Tryz.func158, Tryz.ntmps158
  go_wp2_with fail
  refine (next_any s pc 0 (some ⟨g, 0, none⟩) n kc A b off c cn cap _ HCN.out hcn2 hpc0 HA.out HOP.out hst HR.out).mono ?_
  rintro e w1 ⟨e1, hx1⟩
  replace e1 : e = .returned (.tuple #[.agg (Ins.cells ⟨5, a, y, z⟩), .bool true]) := by rw [e1, HX.out]; rfl
  subst e1
  have hI1 := Blk.new w1 41 (Ins.cells ⟨5, a, y, z⟩)
  have x1 := hx1.alloc (.cells (Ins.cells ⟨5, a, y, z⟩) 41)
  have hS1 := Blk.ext hst x1
  have hM1 := hmem.ext x1
  have hQ1 := hmap.ext x1
  have l1 := hx1.size
  clear hst hmem hmap hx1
  go_upto_region 3 with (fail)
  generalize (w1.alloc (.cells (Ins.cells ⟨5, a, y, z⟩) 41)) = W1 at hI1 x1 hS1 hM1 hQ1 ⊢
  generalize w1.heap.size = ic at hI1 l1 ⊢
  have hi1 := Blk.has hI1
  have hj1 := Blk.gets hI1
  go_wp2_with fail
  refine (far_any ⟨5, a, y, z⟩ cn s pc 0 g 0 n kc m _ HN.out hn2 HRT.out HO.out hS1 hM1.row).mono ?_
  rintro e w2 ⟨e2, hx2⟩
  replace e2 : e = .returned (.int .i64 (-1)) := by rw [e2]; rfl
  subst e2
  have x2 := x1.trans hx2
  have hI2 := Blk.ext hI1 hx2
  have hS2 := Blk.ext hS1 hx2
  have hM2 := hM1.ext hx2
  have hQ2 := hQ1.ext hx2
  clear hI1 hS1 hM1 hQ1 x1 hx2 hi1 hj1
  have hcI := Blk.cell hI2
  have hcS := Blk.cell hS2
  have hfS := Blk.frozen hS2
  have lI := hI2.lt
  have lS := hS2.lt
  have lG := hM2.lt
  have hal : a < m.length := by have := HN.out; omega
  have haI : (a : Int) < n := by omega
  have hyl : y < m.length := by have := HN.out; omega
  have hyI : (y : Int) < n := by omega
  have hzl : z < m.length := by have := HN.out; omega
  have hzI : (z : Int) < n := by omega
  have hcM := hM2.cell a hal
  have hfM := hM2.frozen
  obtain ⟨v, hv⟩ : ∃ v, v = m[y] := ⟨_, rfl⟩
  have Hvr : Hid (i32ok v) := Lib.hid (by rw [hv]; exact HO.out _ (List.getElem_mem hyl))
  obtain ⟨u, hu⟩ : ∃ u, u = m[z] := ⟨_, rfl⟩
  have Hur : Hid (i32ok u) := Lib.hid (by rw [hu]; exact HO.out _ (List.getElem_mem hzl))
  have HE : Hid (execI ⟨5, a, y, z⟩ pc m = (pc + 1, 0, m.set a (twoI 5 v u))) := Lib.hid (by simp [execI, mput, mget_in hyl, mget_in hzl, hv, hu])
  have HV := Lib.hid hv
  have HU := Lib.hid hu
  clear hv hu
  go_upto_region 9 with (fail)
  refine wp_region_3 (fun w3 => Ext w2 w3) [(0, 2), (1, 2), (2, 1), (3, 2), (4, 2), (5, 1), (6, 1), (7, 2), (8, 2), (9, 1), (10, 2), (11, 1), (12, 2), (13, 2), (14, 1), (15, 2), (16, 1), (17, 0), (18, 2), (19, 0)] (by kernel_rfl) (by kernel_rfl) (by kernel_rfl) (by kernel_rfl) ?_; intro l' hl'; simp only [List.map_cons, List.map_nil, List.getD_cons_zero, List.getD_cons_succ] at hl'; subst hl'
  (repeat (first | ((apply w3_pure); (· go_simp); (· (intro w1; go_simp; try with_reducible rfl)); (intro K hK; go_simp; refine hK _ _ ?_; clear hK K)) | ((apply w3_skip); (· go_simp); (intro K hK; go_simp; refine hK _ _ ?_; clear hK K)) | ((apply w3_take); (· exact (Kept.drew (Kept.refl _ _))); (· go_simp); (· (intro w1 hS; have d1 := Blk.cell (Blk.ext hI2 hS); have d2 := (hM2.ext hS).cell y hyl; rw [← HV.out] at d2; have d3 := (hM2.ext hS).cell z hzl; rw [← HU.out] at d3; have d4 := lookF _ q 5 (.func (.func 199) #[] #[]) 2 (hQ2.ext hS) (by rfl);  go_simp; try with_reducible rfl)); (intro K hK; go_simp; refine hK _ _ ?_; clear hK K)) | ((apply w3_pass); (· exact (Kept.drew (Kept.refl _ _))); (· go_simp); (intro K hK; go_simp; refine hK _ _ ?_; clear hK K))))
  (refine w3_act (fun K hK => ?_); go_simp)
  go_wp2_with fail
  refine (two5 v u Hvr.out Hur.out _).mono ?_
  rintro e w3 ⟨rfl, rfl⟩
  refine hK.out _ _ (fun h => h) ?_
  clear hK K
  obtain ⟨t, ht⟩ : ∃ t, t = twoI 5 v u := ⟨_, rfl⟩
  rw [← ht]
  have HT := Lib.hid ht
  clear ht
  (repeat (first | ((apply w3_pure); (· go_simp); (· (intro w1; go_simp; try with_reducible rfl)); (intro K hK; go_simp; refine hK _ _ ?_; clear hK K)) | ((apply w3_skip); (· go_simp); (intro K hK; go_simp; refine hK _ _ ?_; clear hK K)) | (refine w3_end (by kernel_rfl) (fun K hK => ?_); go_simp; refine hK.out _ _ ?_; clear hK K))); refine w3_nil ?_
  have hS3 : StAt (w2.setCell ⟨g, a, none⟩ (.int .i32 (t))).drew s 70 pc (some ⟨g, 0, none⟩) n kc 0 := Blk.far hS2 (p := ⟨g, a, none⟩) hsg (.int .i32 (t))
  have hM3 : MemAt (w2.setCell ⟨g, a, none⟩ (.int .i32 (t))).drew base g n kc (m.set a (t)) := (hM2.set a hal (t)).ext ((Kept.refl _ _).drew)
  have hk3 : Kept (fun i => i = s ∨ i = g) w (w2.setCell ⟨g, a, none⟩ (.int .i32 (t))).drew := (Kept.setCell (Kept.ext x2) _ _ (fun _ => .inr rfl)).drew
  generalize (w2.setCell ⟨g, a, none⟩ (.int .i32 (t))).drew = W3 at hS3 hM3 hk3 ⊢
  have hcS3 := Blk.cell hS3
  have hfS3 := Blk.frozen hS3
  go_wp2_with fail
  go_end0
  refine ⟨rfl, ?_⟩
  rw [HE.out, ← HT.out]
  exact Stepped.goal hk3 hS3 hM3 hsg _
set_option maxRecDepth 100000 in
set_option maxHeartbeats 2000000 in
theorem st_6 (w : World) (base s g n kc q : Nat) (A : Option Addr) (b off cn cap : Nat) (c : List Ins) (pc : Int) (m : List Int) (h : StepPre w base s g n kc q A b off cn c pc m) (a y z : Nat) (ha : a < n) (hy : y < n) (hz : z < n) (hnx : nextI c pc n = some ⟨6, a, y, z⟩) (hright : rightI ⟨6, a, y, z⟩ cn n = true) :
    Calls Tryz.prog 158 #[.pointer (some ⟨s, 0, none⟩), .slice A cn cap, .map (some q)] w fun e w' => e = .returned (.tuple #[]) ∧ Stepped w w' base s g n kc (execI ⟨6, a, y, z⟩ pc m) := by
  obtain ⟨hn, hn1, hn2, hmok, hops, hst, hmem, hmap, hcA, hrow, hcn, hcn2, hpc0, hpc1, hsg⟩ := h
  have hls := hst.lt
  have hlg := hmem.lt
  have hlq := hmap.lt
  have hgs : ¬ g = s := fun e => hsg e.symm
  have HX := Lib.hid hnx
  have HN := Lib.hid hn
  have HO := Lib.hid hmok
  have HOP := Lib.hid hops
  have HA := Lib.hid hcA
  have HR := Lib.hid hrow
  have HCN := Lib.hid hcn
  have HRT := Lib.hid hright
  clear hnx hn hmok hops hcA hrow hcn hright
  go_enter Tryz.func158, Tryz.ntmps158
  go_wp2_with fail
  refine (next_any s pc 0 (some ⟨g, 0, none⟩) n kc A b off c cn cap _ HCN.out hcn2 hpc0 HA.out HOP.out hst HR.out).mono ?_
  rintro e w1 ⟨e1, hx1⟩
  replace e1 : e = .returned (.tuple #[.agg (Ins.cells ⟨6, a, y, z⟩), .bool true]) := by rw [e1, HX.out]; rfl
  subst e1
  have hI1 := Blk.new w1 41 (Ins.cells ⟨6, a, y, z⟩)
  have x1 := hx1.alloc (.cells (Ins.cells ⟨6, a, y, z⟩) 41)
  have hS1 := Blk.ext hst x1
  have hM1 := hmem.ext x1
  have hQ1 := hmap.ext x1
  have l1 := hx1.size
  clear hst hmem hmap hx1
  go_upto_region 3 with (fail)
  generalize (w1.alloc (.cells (Ins.cells ⟨6, a, y, z⟩) 41)) = W1 at hI1 x1 hS1 hM1 hQ1 ⊢
  generalize w1.heap.size = ic at hI1 l1 ⊢
  have hi1 := Blk.has hI1
  have hj1 := Blk.gets hI1
  go_wp2_with fail
  refine (far_any ⟨6, a, y, z⟩ cn s pc 0 g 0 n kc m _ HN.out hn2 HRT.out HO.out hS1 hM1.row).mono ?_
  rintro e w2 ⟨e2, hx2⟩
  replace e2 : e = .returned (.int .i64 (-1)) := by rw [e2]; rfl
  subst e2
  have x2 := x1.trans hx2
  have hI2 := Blk.ext hI1 hx2
  have hS2 := Blk.ext hS1 hx2
  have hM2 := hM1.ext hx2
  have hQ2 := hQ1.ext hx2
  clear hI1 hS1 hM1 hQ1 x1 hx2 hi1 hj1
  have hcI := Blk.cell hI2
  have hcS := Blk.cell hS2
  have hfS := Blk.frozen hS2
  have lI := hI2.lt
  have lS := hS2.lt
  have lG := hM2.lt
  have hal : a < m.length := by have := HN.out; omega
  have haI : (a : Int) < n := by omega
  have hyl : y < m.length := by have := HN.out; omega
  have hyI : (y : Int) < n := by omega
  have hzl : z < m.length := by have := HN.out; omega
  have hzI : (z : Int) < n := by omega
  have hcM := hM2.cell a hal
  have hfM := hM2.frozen
  obtain ⟨v, hv⟩ : ∃ v, v = m[y] := ⟨_, rfl⟩
  have Hvr : Hid (i32ok v) := Lib.hid (by rw [hv]; exact HO.out _ (List.getElem_mem hyl))
  obtain ⟨u, hu⟩ : ∃ u, u = m[z] := ⟨_, rfl⟩
  have Hur : Hid (i32ok u) := Lib.hid (by rw [hu]; exact HO.out _ (List.getElem_mem hzl))
  have HE : Hid (execI ⟨6, a, y, z⟩ pc m = (pc + 1, 0, m.set a (twoI 6 v u))) := Lib.hid (by simp [execI, mput, mget_in hyl, mget_in hzl, hv, hu])
  have HV := Lib.hid hv
  have HU := Lib.hid hu
  clear hv hu
  go_upto_region 9 with (fail)
  refine wp_region_3 (fun w3 => Ext w2 w3) [(0, 2), (1, 2), (2, 1), (3, 2), (4, 2), (5, 1), (6, 1), (7, 2), (8, 2), (9, 1), (10, 2), (11, 1), (12, 2), (13, 2), (14, 1), (15, 2), (16, 1), (17, 0), (18, 2), (19, 0)] (by kernel_rfl) (by kernel_rfl) (by kernel_rfl) (by kernel_rfl) ?_; intro l' hl'; simp only [List.map_cons, List.map_nil, List.getD_cons_zero, List.getD_cons_succ] at hl'; subst hl'
  (repeat (first | ((apply w3_pure); (· go_simp); (· (intro w1; go_simp; try with_reducible rfl)); (intro K hK; go_simp; refine hK _ _ ?_; clear hK K)) | ((apply w3_skip); (· go_simp); (intro K hK; go_simp; refine hK _ _ ?_; clear hK K)) | ((apply w3_take); (· exact (Kept.drew (Kept.refl _ _))); (· go_simp); (· (intro w1 hS; have d1 := Blk.cell (Blk.ext hI2 hS); have d2 := (hM2.ext hS).cell y hyl; rw [← HV.out] at d2; have d3 := (hM2.ext hS).cell z hzl; rw [← HU.out] at d3; have d4 := lookF _ q 6 (.func (.func 200) #[] #[]) 3 (hQ2.ext hS) (by rfl);  go_simp; try with_reducible rfl)); (intro K hK; go_simp; refine hK _ _ ?_; clear hK K)) | ((apply w3_pass); (· exact (Kept.drew (Kept.refl _ _))); (· go_simp); (intro K hK; go_simp; refine hK _ _ ?_; clear hK K))))
  (refine w3_act (fun K hK => ?_); go_simp)
  go_wp2_with fail
  refine (two6 v u Hvr.out Hur.out _).mono ?_
  rintro e w3 ⟨rfl, rfl⟩
  refine hK.out _ _ (fun h => h) ?_
  clear hK K
  obtain ⟨t, ht⟩ : ∃ t, t = twoI 6 v u := ⟨_, rfl⟩
  rw [← ht]
  have HT := Lib.hid ht
  clear ht
  (repeat (first | ((apply w3_pure); (· go_simp); (· (intro w1; go_simp; try with_reducible rfl)); (intro K hK; go_simp; refine hK _ _ ?_; clear hK K)) | ((apply w3_skip); (· go_simp); (intro K hK; go_simp; refine hK _ _ ?_; clear hK K)) | (refine w3_end (by kernel_rfl) (fun K hK => ?_); go_simp; refine hK.out _ _ ?_; clear hK K))); refine w3_nil ?_
  have hS3 : StAt (w2.setCell ⟨g, a, none⟩ (.int .i32 (t))).drew s 70 pc (some ⟨g, 0, none⟩) n kc 0 := Blk.far hS2 (p := ⟨g, a, none⟩) hsg (.int .i32 (t))
  have hM3 : MemAt (w2.setCell ⟨g, a, none⟩ (.int .i32 (t))).drew base g n kc (m.set a (t)) := (hM2.set a hal (t)).ext ((Kept.refl _ _).drew)
  have hk3 : Kept (fun i => i = s ∨ i = g) w (w2.setCell ⟨g, a, none⟩ (.int .i32 (t))).drew := (Kept.setCell (Kept.ext x2) _ _ (fun _ => .inr rfl)).drew
  generalize (w2.setCell ⟨g, a, none⟩ (.int .i32 (t))).drew = W3 at hS3 hM3 hk3 ⊢
  have hcS3 := Blk.cell hS3
  have hfS3 := Blk.frozen hS3
  go_wp2_with fail
  go_end0
  refine ⟨rfl, ?_⟩
  rw [HE.out, ← HT.out]
  exact Stepped.goal hk3 hS3 hM3 hsg _
end Go.Proofs.YtahljceanodhkaaGreatDoor

/- Package machine: step, operation by operation. -/
namespace Go.Proofs.YtahljceanodhkaaGreatDoor
open Go.RowKit
set_option maxRecDepth 100000 in
set_option maxHeartbeats 2000000 in
theorem st_7 (w : World) (base s g n kc q : Nat) (A : Option Addr) (b off cn cap : Nat) (c : List Ins) (pc : Int) (m : List Int) (h : StepPre w base s g n kc q A b off cn c pc m) (a y z : Nat) (ha : a < n) (hy : y < n) (hz : z < n) (hnx : nextI c pc n = some ⟨7, a, y, z⟩) (hright : rightI ⟨7, a, y, z⟩ cn n = true) :
    Calls Tryz.prog 158 #[.pointer (some ⟨s, 0, none⟩), .slice A cn cap, .map (some q)] w fun e w' => e = .returned (.tuple #[]) ∧ Stepped w w' base s g n kc (execI ⟨7, a, y, z⟩ pc m) := by
  obtain ⟨hn, hn1, hn2, hmok, hops, hst, hmem, hmap, hcA, hrow, hcn, hcn2, hpc0, hpc1, hsg⟩ := h
  have hls := hst.lt
  have hlg := hmem.lt
  have hlq := hmap.lt
  have hgs : ¬ g = s := fun e => hsg e.symm
  have HX := Lib.hid hnx
  have HN := Lib.hid hn
  have HO := Lib.hid hmok
  have HOP := Lib.hid hops
  have HA := Lib.hid hcA
  have HR := Lib.hid hrow
  have HCN := Lib.hid hcn
  have HRT := Lib.hid hright
  clear hnx hn hmok hops hcA hrow hcn hright
  go_enter Tryz.func158, Tryz.ntmps158
  go_wp2_with fail
  refine (next_any s pc 0 (some ⟨g, 0, none⟩) n kc A b off c cn cap _ HCN.out hcn2 hpc0 HA.out HOP.out hst HR.out).mono ?_
  rintro e w1 ⟨e1, hx1⟩
  replace e1 : e = .returned (.tuple #[.agg (Ins.cells ⟨7, a, y, z⟩), .bool true]) := by rw [e1, HX.out]; rfl
  subst e1
  have hI1 := Blk.new w1 41 (Ins.cells ⟨7, a, y, z⟩)
  have x1 := hx1.alloc (.cells (Ins.cells ⟨7, a, y, z⟩) 41)
  have hS1 := Blk.ext hst x1
  have hM1 := hmem.ext x1
  have hQ1 := hmap.ext x1
  have l1 := hx1.size
  clear hst hmem hmap hx1
  go_upto_region 3 with (fail)
  generalize (w1.alloc (.cells (Ins.cells ⟨7, a, y, z⟩) 41)) = W1 at hI1 x1 hS1 hM1 hQ1 ⊢
  generalize w1.heap.size = ic at hI1 l1 ⊢
  have hi1 := Blk.has hI1
  have hj1 := Blk.gets hI1
  go_wp2_with fail
  refine (far_any ⟨7, a, y, z⟩ cn s pc 0 g 0 n kc m _ HN.out hn2 HRT.out HO.out hS1 hM1.row).mono ?_
  rintro e w2 ⟨e2, hx2⟩
  replace e2 : e = .returned (.int .i64 (-1)) := by rw [e2]; rfl
  subst e2
  have x2 := x1.trans hx2
  have hI2 := Blk.ext hI1 hx2
  have hS2 := Blk.ext hS1 hx2
  have hM2 := hM1.ext hx2
  have hQ2 := hQ1.ext hx2
  clear hI1 hS1 hM1 hQ1 x1 hx2 hi1 hj1
  have hcI := Blk.cell hI2
  have hcS := Blk.cell hS2
  have hfS := Blk.frozen hS2
  have lI := hI2.lt
  have lS := hS2.lt
  have lG := hM2.lt
  have hal : a < m.length := by have := HN.out; omega
  have haI : (a : Int) < n := by omega
  have hyl : y < m.length := by have := HN.out; omega
  have hyI : (y : Int) < n := by omega
  have hzl : z < m.length := by have := HN.out; omega
  have hzI : (z : Int) < n := by omega
  have hcM := hM2.cell a hal
  have hfM := hM2.frozen
  obtain ⟨v, hv⟩ : ∃ v, v = m[y] := ⟨_, rfl⟩
  have Hvr : Hid (i32ok v) := Lib.hid (by rw [hv]; exact HO.out _ (List.getElem_mem hyl))
  obtain ⟨u, hu⟩ : ∃ u, u = m[z] := ⟨_, rfl⟩
  have Hur : Hid (i32ok u) := Lib.hid (by rw [hu]; exact HO.out _ (List.getElem_mem hzl))
  have HE : Hid (execI ⟨7, a, y, z⟩ pc m = (pc + 1, 0, m.set a (twoI 7 v u))) := Lib.hid (by simp [execI, mput, mget_in hyl, mget_in hzl, hv, hu])
  have HV := Lib.hid hv
  have HU := Lib.hid hu
  clear hv hu
  go_upto_region 9 with (fail)
  refine wp_region_3 (fun w3 => Ext w2 w3) [(0, 2), (1, 2), (2, 1), (3, 2), (4, 2), (5, 1), (6, 1), (7, 2), (8, 2), (9, 1), (10, 2), (11, 1), (12, 2), (13, 2), (14, 1), (15, 2), (16, 1), (17, 0), (18, 2), (19, 0)] (by kernel_rfl) (by kernel_rfl) (by kernel_rfl) (by kernel_rfl) ?_; intro l' hl'; simp only [List.map_cons, List.map_nil, List.getD_cons_zero, List.getD_cons_succ] at hl'; subst hl'
  (repeat (first | ((apply w3_pure); (· go_simp); (· (intro w1; go_simp; try with_reducible rfl)); (intro K hK; go_simp; refine hK _ _ ?_; clear hK K)) | ((apply w3_skip); (· go_simp); (intro K hK; go_simp; refine hK _ _ ?_; clear hK K)) | ((apply w3_take); (· exact (Kept.drew (Kept.refl _ _))); (· go_simp); (· (intro w1 hS; have d1 := Blk.cell (Blk.ext hI2 hS); have d2 := (hM2.ext hS).cell y hyl; rw [← HV.out] at d2; have d3 := (hM2.ext hS).cell z hzl; rw [← HU.out] at d3; have d4 := lookF _ q 7 (.func (.func 201) #[] #[]) 4 (hQ2.ext hS) (by rfl);  go_simp; try with_reducible rfl)); (intro K hK; go_simp; refine hK _ _ ?_; clear hK K)) | ((apply w3_pass); (· exact (Kept.drew (Kept.refl _ _))); (· go_simp); (intro K hK; go_simp; refine hK _ _ ?_; clear hK K))))
  (refine w3_act (fun K hK => ?_); go_simp)
  go_wp2_with fail
  refine (two7 v u Hvr.out Hur.out _).mono ?_
  rintro e w3 ⟨rfl, rfl⟩
  refine hK.out _ _ (fun h => h) ?_
  clear hK K
  obtain ⟨t, ht⟩ : ∃ t, t = twoI 7 v u := ⟨_, rfl⟩
  rw [← ht]
  have HT := Lib.hid ht
  clear ht
  (repeat (first | ((apply w3_pure); (· go_simp); (· (intro w1; go_simp; try with_reducible rfl)); (intro K hK; go_simp; refine hK _ _ ?_; clear hK K)) | ((apply w3_skip); (· go_simp); (intro K hK; go_simp; refine hK _ _ ?_; clear hK K)) | (refine w3_end (by kernel_rfl) (fun K hK => ?_); go_simp; refine hK.out _ _ ?_; clear hK K))); refine w3_nil ?_
  have hS3 : StAt (w2.setCell ⟨g, a, none⟩ (.int .i32 (t))).drew s 70 pc (some ⟨g, 0, none⟩) n kc 0 := Blk.far hS2 (p := ⟨g, a, none⟩) hsg (.int .i32 (t))
  have hM3 : MemAt (w2.setCell ⟨g, a, none⟩ (.int .i32 (t))).drew base g n kc (m.set a (t)) := (hM2.set a hal (t)).ext ((Kept.refl _ _).drew)
  have hk3 : Kept (fun i => i = s ∨ i = g) w (w2.setCell ⟨g, a, none⟩ (.int .i32 (t))).drew := (Kept.setCell (Kept.ext x2) _ _ (fun _ => .inr rfl)).drew
  generalize (w2.setCell ⟨g, a, none⟩ (.int .i32 (t))).drew = W3 at hS3 hM3 hk3 ⊢
  have hcS3 := Blk.cell hS3
  have hfS3 := Blk.frozen hS3
  go_wp2_with fail
  go_end0
  refine ⟨rfl, ?_⟩
  rw [HE.out, ← HT.out]
  exact Stepped.goal hk3 hS3 hM3 hsg _
set_option maxRecDepth 100000 in
set_option maxHeartbeats 2000000 in
theorem st_8 (w : World) (base s g n kc q : Nat) (A : Option Addr) (b off cn cap : Nat) (c : List Ins) (pc : Int) (m : List Int) (h : StepPre w base s g n kc q A b off cn c pc m) (a y z : Nat) (ha : a < n) (hy : y < n) (hz : z < n) (hnx : nextI c pc n = some ⟨8, a, y, z⟩) (hright : rightI ⟨8, a, y, z⟩ cn n = true) :
    Calls Tryz.prog 158 #[.pointer (some ⟨s, 0, none⟩), .slice A cn cap, .map (some q)] w fun e w' => e = .returned (.tuple #[]) ∧ Stepped w w' base s g n kc (execI ⟨8, a, y, z⟩ pc m) := by
  obtain ⟨hn, hn1, hn2, hmok, hops, hst, hmem, hmap, hcA, hrow, hcn, hcn2, hpc0, hpc1, hsg⟩ := h
  have hls := hst.lt
  have hlg := hmem.lt
  have hlq := hmap.lt
  have hgs : ¬ g = s := fun e => hsg e.symm
  have HX := Lib.hid hnx
  have HN := Lib.hid hn
  have HO := Lib.hid hmok
  have HOP := Lib.hid hops
  have HA := Lib.hid hcA
  have HR := Lib.hid hrow
  have HCN := Lib.hid hcn
  have HRT := Lib.hid hright
  clear hnx hn hmok hops hcA hrow hcn hright
  go_enter Tryz.func158, Tryz.ntmps158
  go_wp2_with fail
  refine (next_any s pc 0 (some ⟨g, 0, none⟩) n kc A b off c cn cap _ HCN.out hcn2 hpc0 HA.out HOP.out hst HR.out).mono ?_
  rintro e w1 ⟨e1, hx1⟩
  replace e1 : e = .returned (.tuple #[.agg (Ins.cells ⟨8, a, y, z⟩), .bool true]) := by rw [e1, HX.out]; rfl
  subst e1
  have hI1 := Blk.new w1 41 (Ins.cells ⟨8, a, y, z⟩)
  have x1 := hx1.alloc (.cells (Ins.cells ⟨8, a, y, z⟩) 41)
  have hS1 := Blk.ext hst x1
  have hM1 := hmem.ext x1
  have hQ1 := hmap.ext x1
  have l1 := hx1.size
  clear hst hmem hmap hx1
  go_upto_region 3 with (fail)
  generalize (w1.alloc (.cells (Ins.cells ⟨8, a, y, z⟩) 41)) = W1 at hI1 x1 hS1 hM1 hQ1 ⊢
  generalize w1.heap.size = ic at hI1 l1 ⊢
  have hi1 := Blk.has hI1
  have hj1 := Blk.gets hI1
  go_wp2_with fail
  refine (far_any ⟨8, a, y, z⟩ cn s pc 0 g 0 n kc m _ HN.out hn2 HRT.out HO.out hS1 hM1.row).mono ?_
  rintro e w2 ⟨e2, hx2⟩
  replace e2 : e = .returned (.int .i64 (-1)) := by rw [e2]; rfl
  subst e2
  have x2 := x1.trans hx2
  have hI2 := Blk.ext hI1 hx2
  have hS2 := Blk.ext hS1 hx2
  have hM2 := hM1.ext hx2
  have hQ2 := hQ1.ext hx2
  clear hI1 hS1 hM1 hQ1 x1 hx2 hi1 hj1
  have hcI := Blk.cell hI2
  have hcS := Blk.cell hS2
  have hfS := Blk.frozen hS2
  have lI := hI2.lt
  have lS := hS2.lt
  have lG := hM2.lt
  have hal : a < m.length := by have := HN.out; omega
  have haI : (a : Int) < n := by omega
  have hyl : y < m.length := by have := HN.out; omega
  have hyI : (y : Int) < n := by omega
  have hzl : z < m.length := by have := HN.out; omega
  have hzI : (z : Int) < n := by omega
  have hcM := hM2.cell a hal
  have hfM := hM2.frozen
  obtain ⟨v, hv⟩ : ∃ v, v = m[y] := ⟨_, rfl⟩
  have Hvr : Hid (i32ok v) := Lib.hid (by rw [hv]; exact HO.out _ (List.getElem_mem hyl))
  obtain ⟨u, hu⟩ : ∃ u, u = m[z] := ⟨_, rfl⟩
  have Hur : Hid (i32ok u) := Lib.hid (by rw [hu]; exact HO.out _ (List.getElem_mem hzl))
  have HE : Hid (execI ⟨8, a, y, z⟩ pc m = (pc + 1, 0, m.set a (twoI 8 v u))) := Lib.hid (by simp [execI, mput, mget_in hyl, mget_in hzl, hv, hu])
  have HV := Lib.hid hv
  have HU := Lib.hid hu
  clear hv hu
  go_upto_region 9 with (fail)
  refine wp_region_3 (fun w3 => Ext w2 w3) [(0, 2), (1, 2), (2, 1), (3, 2), (4, 2), (5, 1), (6, 1), (7, 2), (8, 2), (9, 1), (10, 2), (11, 1), (12, 2), (13, 2), (14, 1), (15, 2), (16, 1), (17, 0), (18, 2), (19, 0)] (by kernel_rfl) (by kernel_rfl) (by kernel_rfl) (by kernel_rfl) ?_; intro l' hl'; simp only [List.map_cons, List.map_nil, List.getD_cons_zero, List.getD_cons_succ] at hl'; subst hl'
  (repeat (first | ((apply w3_pure); (· go_simp); (· (intro w1; go_simp; try with_reducible rfl)); (intro K hK; go_simp; refine hK _ _ ?_; clear hK K)) | ((apply w3_skip); (· go_simp); (intro K hK; go_simp; refine hK _ _ ?_; clear hK K)) | ((apply w3_take); (· exact (Kept.drew (Kept.refl _ _))); (· go_simp); (· (intro w1 hS; have d1 := Blk.cell (Blk.ext hI2 hS); have d2 := (hM2.ext hS).cell y hyl; rw [← HV.out] at d2; have d3 := (hM2.ext hS).cell z hzl; rw [← HU.out] at d3; have d4 := lookF _ q 8 (.func (.func 202) #[] #[]) 5 (hQ2.ext hS) (by rfl);  go_simp; try with_reducible rfl)); (intro K hK; go_simp; refine hK _ _ ?_; clear hK K)) | ((apply w3_pass); (· exact (Kept.drew (Kept.refl _ _))); (· go_simp); (intro K hK; go_simp; refine hK _ _ ?_; clear hK K))))
  (refine w3_act (fun K hK => ?_); go_simp)
  go_wp2_with fail
  refine (two8 v u Hvr.out Hur.out _).mono ?_
  rintro e w3 ⟨rfl, rfl⟩
  refine hK.out _ _ (fun h => h) ?_
  clear hK K
  obtain ⟨t, ht⟩ : ∃ t, t = twoI 8 v u := ⟨_, rfl⟩
  rw [← ht]
  have HT := Lib.hid ht
  clear ht
  (repeat (first | ((apply w3_pure); (· go_simp); (· (intro w1; go_simp; try with_reducible rfl)); (intro K hK; go_simp; refine hK _ _ ?_; clear hK K)) | ((apply w3_skip); (· go_simp); (intro K hK; go_simp; refine hK _ _ ?_; clear hK K)) | (refine w3_end (by kernel_rfl) (fun K hK => ?_); go_simp; refine hK.out _ _ ?_; clear hK K))); refine w3_nil ?_
  have hS3 : StAt (w2.setCell ⟨g, a, none⟩ (.int .i32 (t))).drew s 70 pc (some ⟨g, 0, none⟩) n kc 0 := Blk.far hS2 (p := ⟨g, a, none⟩) hsg (.int .i32 (t))
  have hM3 : MemAt (w2.setCell ⟨g, a, none⟩ (.int .i32 (t))).drew base g n kc (m.set a (t)) := (hM2.set a hal (t)).ext ((Kept.refl _ _).drew)
  have hk3 : Kept (fun i => i = s ∨ i = g) w (w2.setCell ⟨g, a, none⟩ (.int .i32 (t))).drew := (Kept.setCell (Kept.ext x2) _ _ (fun _ => .inr rfl)).drew
  generalize (w2.setCell ⟨g, a, none⟩ (.int .i32 (t))).drew = W3 at hS3 hM3 hk3 ⊢
  have hcS3 := Blk.cell hS3
  have hfS3 := Blk.frozen hS3
  go_wp2_with fail
  go_end0
  refine ⟨rfl, ?_⟩
  rw [HE.out, ← HT.out]
  exact Stepped.goal hk3 hS3 hM3 hsg _
set_option maxRecDepth 100000 in
set_option maxHeartbeats 2000000 in
theorem st_9 (w : World) (base s g n kc q : Nat) (A : Option Addr) (b off cn cap : Nat) (c : List Ins) (pc : Int) (m : List Int) (h : StepPre w base s g n kc q A b off cn c pc m) (a y z : Nat) (ha : a < n) (hy : y < n) (hz : z < n) (hnx : nextI c pc n = some ⟨9, a, y, z⟩) (hright : rightI ⟨9, a, y, z⟩ cn n = true) :
    Calls Tryz.prog 158 #[.pointer (some ⟨s, 0, none⟩), .slice A cn cap, .map (some q)] w fun e w' => e = .returned (.tuple #[]) ∧ Stepped w w' base s g n kc (execI ⟨9, a, y, z⟩ pc m) := by
  obtain ⟨hn, hn1, hn2, hmok, hops, hst, hmem, hmap, hcA, hrow, hcn, hcn2, hpc0, hpc1, hsg⟩ := h
  have hls := hst.lt
  have hlg := hmem.lt
  have hlq := hmap.lt
  have hgs : ¬ g = s := fun e => hsg e.symm
  have HX := Lib.hid hnx
  have HN := Lib.hid hn
  have HO := Lib.hid hmok
  have HOP := Lib.hid hops
  have HA := Lib.hid hcA
  have HR := Lib.hid hrow
  have HCN := Lib.hid hcn
  have HRT := Lib.hid hright
  clear hnx hn hmok hops hcA hrow hcn hright
  go_enter Tryz.func158, Tryz.ntmps158
  go_wp2_with fail
  refine (next_any s pc 0 (some ⟨g, 0, none⟩) n kc A b off c cn cap _ HCN.out hcn2 hpc0 HA.out HOP.out hst HR.out).mono ?_
  rintro e w1 ⟨e1, hx1⟩
  replace e1 : e = .returned (.tuple #[.agg (Ins.cells ⟨9, a, y, z⟩), .bool true]) := by rw [e1, HX.out]; rfl
  subst e1
  have hI1 := Blk.new w1 41 (Ins.cells ⟨9, a, y, z⟩)
  have x1 := hx1.alloc (.cells (Ins.cells ⟨9, a, y, z⟩) 41)
  have hS1 := Blk.ext hst x1
  have hM1 := hmem.ext x1
  have hQ1 := hmap.ext x1
  have l1 := hx1.size
  clear hst hmem hmap hx1
  go_upto_region 3 with (fail)
  generalize (w1.alloc (.cells (Ins.cells ⟨9, a, y, z⟩) 41)) = W1 at hI1 x1 hS1 hM1 hQ1 ⊢
  generalize w1.heap.size = ic at hI1 l1 ⊢
  have hi1 := Blk.has hI1
  have hj1 := Blk.gets hI1
  go_wp2_with fail
  refine (far_any ⟨9, a, y, z⟩ cn s pc 0 g 0 n kc m _ HN.out hn2 HRT.out HO.out hS1 hM1.row).mono ?_
  rintro e w2 ⟨e2, hx2⟩
  replace e2 : e = .returned (.int .i64 (-1)) := by rw [e2]; rfl
  subst e2
  have x2 := x1.trans hx2
  have hI2 := Blk.ext hI1 hx2
  have hS2 := Blk.ext hS1 hx2
  have hM2 := hM1.ext hx2
  have hQ2 := hQ1.ext hx2
  clear hI1 hS1 hM1 hQ1 x1 hx2 hi1 hj1
  have hcI := Blk.cell hI2
  have hcS := Blk.cell hS2
  have hfS := Blk.frozen hS2
  have lI := hI2.lt
  have lS := hS2.lt
  have lG := hM2.lt
  have hal : a < m.length := by have := HN.out; omega
  have haI : (a : Int) < n := by omega
  have hyl : y < m.length := by have := HN.out; omega
  have hyI : (y : Int) < n := by omega
  have hzl : z < m.length := by have := HN.out; omega
  have hzI : (z : Int) < n := by omega
  have hcM := hM2.cell a hal
  have hfM := hM2.frozen
  obtain ⟨v, hv⟩ : ∃ v, v = m[y] := ⟨_, rfl⟩
  have Hvr : Hid (i32ok v) := Lib.hid (by rw [hv]; exact HO.out _ (List.getElem_mem hyl))
  obtain ⟨u, hu⟩ : ∃ u, u = m[z] := ⟨_, rfl⟩
  have Hur : Hid (i32ok u) := Lib.hid (by rw [hu]; exact HO.out _ (List.getElem_mem hzl))
  have HE : Hid (execI ⟨9, a, y, z⟩ pc m = (pc + 1, 0, m.set a (twoI 9 v u))) := Lib.hid (by simp [execI, mput, mget_in hyl, mget_in hzl, hv, hu])
  have HV := Lib.hid hv
  have HU := Lib.hid hu
  clear hv hu
  go_upto_region 9 with (fail)
  refine wp_region_3 (fun w3 => Ext w2 w3) [(0, 2), (1, 2), (2, 1), (3, 2), (4, 2), (5, 1), (6, 1), (7, 2), (8, 2), (9, 1), (10, 2), (11, 1), (12, 2), (13, 2), (14, 1), (15, 2), (16, 1), (17, 0), (18, 2), (19, 0)] (by kernel_rfl) (by kernel_rfl) (by kernel_rfl) (by kernel_rfl) ?_; intro l' hl'; simp only [List.map_cons, List.map_nil, List.getD_cons_zero, List.getD_cons_succ] at hl'; subst hl'
  (repeat (first | ((apply w3_pure); (· go_simp); (· (intro w1; go_simp; try with_reducible rfl)); (intro K hK; go_simp; refine hK _ _ ?_; clear hK K)) | ((apply w3_skip); (· go_simp); (intro K hK; go_simp; refine hK _ _ ?_; clear hK K)) | ((apply w3_take); (· exact (Kept.drew (Kept.refl _ _))); (· go_simp); (· (intro w1 hS; have d1 := Blk.cell (Blk.ext hI2 hS); have d2 := (hM2.ext hS).cell y hyl; rw [← HV.out] at d2; have d3 := (hM2.ext hS).cell z hzl; rw [← HU.out] at d3; have d4 := lookF _ q 9 (.func (.func 204) #[] #[]) 6 (hQ2.ext hS) (by rfl);  go_simp; try with_reducible rfl)); (intro K hK; go_simp; refine hK _ _ ?_; clear hK K)) | ((apply w3_pass); (· exact (Kept.drew (Kept.refl _ _))); (· go_simp); (intro K hK; go_simp; refine hK _ _ ?_; clear hK K))))
  (refine w3_act (fun K hK => ?_); go_simp)
  go_wp2_with fail
  refine (two9 v u Hvr.out Hur.out _).mono ?_
  rintro e w3 ⟨rfl, rfl⟩
  refine hK.out _ _ (fun h => h) ?_
  clear hK K
  obtain ⟨t, ht⟩ : ∃ t, t = twoI 9 v u := ⟨_, rfl⟩
  rw [← ht]
  have HT := Lib.hid ht
  clear ht
  (repeat (first | ((apply w3_pure); (· go_simp); (· (intro w1; go_simp; try with_reducible rfl)); (intro K hK; go_simp; refine hK _ _ ?_; clear hK K)) | ((apply w3_skip); (· go_simp); (intro K hK; go_simp; refine hK _ _ ?_; clear hK K)) | (refine w3_end (by kernel_rfl) (fun K hK => ?_); go_simp; refine hK.out _ _ ?_; clear hK K))); refine w3_nil ?_
  have hS3 : StAt (w2.setCell ⟨g, a, none⟩ (.int .i32 (t))).drew s 70 pc (some ⟨g, 0, none⟩) n kc 0 := Blk.far hS2 (p := ⟨g, a, none⟩) hsg (.int .i32 (t))
  have hM3 : MemAt (w2.setCell ⟨g, a, none⟩ (.int .i32 (t))).drew base g n kc (m.set a (t)) := (hM2.set a hal (t)).ext ((Kept.refl _ _).drew)
  have hk3 : Kept (fun i => i = s ∨ i = g) w (w2.setCell ⟨g, a, none⟩ (.int .i32 (t))).drew := (Kept.setCell (Kept.ext x2) _ _ (fun _ => .inr rfl)).drew
  generalize (w2.setCell ⟨g, a, none⟩ (.int .i32 (t))).drew = W3 at hS3 hM3 hk3 ⊢
  have hcS3 := Blk.cell hS3
  have hfS3 := Blk.frozen hS3
  go_wp2_with fail
  go_end0
  refine ⟨rfl, ?_⟩
  rw [HE.out, ← HT.out]
  exact Stepped.goal hk3 hS3 hM3 hsg _
set_option maxRecDepth 100000 in
set_option maxHeartbeats 2000000 in
theorem st_10 (w : World) (base s g n kc q : Nat) (A : Option Addr) (b off cn cap : Nat) (c : List Ins) (pc : Int) (m : List Int) (h : StepPre w base s g n kc q A b off cn c pc m) (a y z : Nat) (ha : a < n) (hy : y < n) (hz : z < n) (hnx : nextI c pc n = some ⟨10, a, y, z⟩) (hright : rightI ⟨10, a, y, z⟩ cn n = true) :
    Calls Tryz.prog 158 #[.pointer (some ⟨s, 0, none⟩), .slice A cn cap, .map (some q)] w fun e w' => e = .returned (.tuple #[]) ∧ Stepped w w' base s g n kc (execI ⟨10, a, y, z⟩ pc m) := by
  obtain ⟨hn, hn1, hn2, hmok, hops, hst, hmem, hmap, hcA, hrow, hcn, hcn2, hpc0, hpc1, hsg⟩ := h
  have hls := hst.lt
  have hlg := hmem.lt
  have hlq := hmap.lt
  have hgs : ¬ g = s := fun e => hsg e.symm
  have HX := Lib.hid hnx
  have HN := Lib.hid hn
  have HO := Lib.hid hmok
  have HOP := Lib.hid hops
  have HA := Lib.hid hcA
  have HR := Lib.hid hrow
  have HCN := Lib.hid hcn
  have HRT := Lib.hid hright
  clear hnx hn hmok hops hcA hrow hcn hright
  go_enter Tryz.func158, Tryz.ntmps158
  go_wp2_with fail
  refine (next_any s pc 0 (some ⟨g, 0, none⟩) n kc A b off c cn cap _ HCN.out hcn2 hpc0 HA.out HOP.out hst HR.out).mono ?_
  rintro e w1 ⟨e1, hx1⟩
  replace e1 : e = .returned (.tuple #[.agg (Ins.cells ⟨10, a, y, z⟩), .bool true]) := by rw [e1, HX.out]; rfl
  subst e1
  have hI1 := Blk.new w1 41 (Ins.cells ⟨10, a, y, z⟩)
  have x1 := hx1.alloc (.cells (Ins.cells ⟨10, a, y, z⟩) 41)
  have hS1 := Blk.ext hst x1
  have hM1 := hmem.ext x1
  have hQ1 := hmap.ext x1
  have l1 := hx1.size
  clear hst hmem hmap hx1
  go_upto_region 3 with (fail)
  generalize (w1.alloc (.cells (Ins.cells ⟨10, a, y, z⟩) 41)) = W1 at hI1 x1 hS1 hM1 hQ1 ⊢
  generalize w1.heap.size = ic at hI1 l1 ⊢
  have hi1 := Blk.has hI1
  have hj1 := Blk.gets hI1
  go_wp2_with fail
  refine (far_any ⟨10, a, y, z⟩ cn s pc 0 g 0 n kc m _ HN.out hn2 HRT.out HO.out hS1 hM1.row).mono ?_
  rintro e w2 ⟨e2, hx2⟩
  replace e2 : e = .returned (.int .i64 (-1)) := by rw [e2]; rfl
  subst e2
  have x2 := x1.trans hx2
  have hI2 := Blk.ext hI1 hx2
  have hS2 := Blk.ext hS1 hx2
  have hM2 := hM1.ext hx2
  have hQ2 := hQ1.ext hx2
  clear hI1 hS1 hM1 hQ1 x1 hx2 hi1 hj1
  have hcI := Blk.cell hI2
  have hcS := Blk.cell hS2
  have hfS := Blk.frozen hS2
  have lI := hI2.lt
  have lS := hS2.lt
  have lG := hM2.lt
  have hal : a < m.length := by have := HN.out; omega
  have haI : (a : Int) < n := by omega
  have hyl : y < m.length := by have := HN.out; omega
  have hyI : (y : Int) < n := by omega
  have hzl : z < m.length := by have := HN.out; omega
  have hzI : (z : Int) < n := by omega
  have hcM := hM2.cell a hal
  have hfM := hM2.frozen
  obtain ⟨v, hv⟩ : ∃ v, v = m[y] := ⟨_, rfl⟩
  have Hvr : Hid (i32ok v) := Lib.hid (by rw [hv]; exact HO.out _ (List.getElem_mem hyl))
  obtain ⟨u, hu⟩ : ∃ u, u = m[z] := ⟨_, rfl⟩
  have Hur : Hid (i32ok u) := Lib.hid (by rw [hu]; exact HO.out _ (List.getElem_mem hzl))
  have HE : Hid (execI ⟨10, a, y, z⟩ pc m = (pc + 1, 0, m.set a (twoI 10 v u))) := Lib.hid (by simp [execI, mput, mget_in hyl, mget_in hzl, hv, hu])
  have HV := Lib.hid hv
  have HU := Lib.hid hu
  clear hv hu
  go_upto_region 9 with (fail)
  refine wp_region_3 (fun w3 => Ext w2 w3) [(0, 2), (1, 2), (2, 1), (3, 2), (4, 2), (5, 1), (6, 1), (7, 2), (8, 2), (9, 1), (10, 2), (11, 1), (12, 2), (13, 2), (14, 1), (15, 2), (16, 1), (17, 0), (18, 2), (19, 0)] (by kernel_rfl) (by kernel_rfl) (by kernel_rfl) (by kernel_rfl) ?_; intro l' hl'; simp only [List.map_cons, List.map_nil, List.getD_cons_zero, List.getD_cons_succ] at hl'; subst hl'
  (repeat (first | ((apply w3_pure); (· go_simp); (· (intro w1; go_simp; try with_reducible rfl)); (intro K hK; go_simp; refine hK _ _ ?_; clear hK K)) | ((apply w3_skip); (· go_simp); (intro K hK; go_simp; refine hK _ _ ?_; clear hK K)) | ((apply w3_take); (· exact (Kept.drew (Kept.refl _ _))); (· go_simp); (· (intro w1 hS; have d1 := Blk.cell (Blk.ext hI2 hS); have d2 := (hM2.ext hS).cell y hyl; rw [← HV.out] at d2; have d3 := (hM2.ext hS).cell z hzl; rw [← HU.out] at d3; have d4 := lookF _ q 10 (.func (.func 205) #[] #[]) 7 (hQ2.ext hS) (by rfl);  go_simp; try with_reducible rfl)); (intro K hK; go_simp; refine hK _ _ ?_; clear hK K)) | ((apply w3_pass); (· exact (Kept.drew (Kept.refl _ _))); (· go_simp); (intro K hK; go_simp; refine hK _ _ ?_; clear hK K))))
  (refine w3_act (fun K hK => ?_); go_simp)
  go_wp2_with fail
  refine (two10 v u Hvr.out Hur.out _).mono ?_
  rintro e w3 ⟨rfl, rfl⟩
  refine hK.out _ _ (fun h => h) ?_
  clear hK K
  obtain ⟨t, ht⟩ : ∃ t, t = twoI 10 v u := ⟨_, rfl⟩
  rw [← ht]
  have HT := Lib.hid ht
  clear ht
  (repeat (first | ((apply w3_pure); (· go_simp); (· (intro w1; go_simp; try with_reducible rfl)); (intro K hK; go_simp; refine hK _ _ ?_; clear hK K)) | ((apply w3_skip); (· go_simp); (intro K hK; go_simp; refine hK _ _ ?_; clear hK K)) | (refine w3_end (by kernel_rfl) (fun K hK => ?_); go_simp; refine hK.out _ _ ?_; clear hK K))); refine w3_nil ?_
  have hS3 : StAt (w2.setCell ⟨g, a, none⟩ (.int .i32 (t))).drew s 70 pc (some ⟨g, 0, none⟩) n kc 0 := Blk.far hS2 (p := ⟨g, a, none⟩) hsg (.int .i32 (t))
  have hM3 : MemAt (w2.setCell ⟨g, a, none⟩ (.int .i32 (t))).drew base g n kc (m.set a (t)) := (hM2.set a hal (t)).ext ((Kept.refl _ _).drew)
  have hk3 : Kept (fun i => i = s ∨ i = g) w (w2.setCell ⟨g, a, none⟩ (.int .i32 (t))).drew := (Kept.setCell (Kept.ext x2) _ _ (fun _ => .inr rfl)).drew
  generalize (w2.setCell ⟨g, a, none⟩ (.int .i32 (t))).drew = W3 at hS3 hM3 hk3 ⊢
  have hcS3 := Blk.cell hS3
  have hfS3 := Blk.frozen hS3
  go_wp2_with fail
  go_end0
  refine ⟨rfl, ?_⟩
  rw [HE.out, ← HT.out]
  exact Stepped.goal hk3 hS3 hM3 hsg _
end Go.Proofs.YtahljceanodhkaaGreatDoor

/- Package machine: step, operation by operation. -/
namespace Go.Proofs.YtahljceanodhkaaGreatDoor
open Go.RowKit
set_option maxRecDepth 100000 in
set_option maxHeartbeats 2000000 in
theorem st_11 (w : World) (base s g n kc q : Nat) (A : Option Addr) (b off cn cap : Nat) (c : List Ins) (pc : Int) (m : List Int) (h : StepPre w base s g n kc q A b off cn c pc m) (a y z : Nat) (ha : a < n) (hy : y < n) (hz : z < n) (hnx : nextI c pc n = some ⟨11, a, y, z⟩) (hright : rightI ⟨11, a, y, z⟩ cn n = true) :
    Calls Tryz.prog 158 #[.pointer (some ⟨s, 0, none⟩), .slice A cn cap, .map (some q)] w fun e w' => e = .returned (.tuple #[]) ∧ Stepped w w' base s g n kc (execI ⟨11, a, y, z⟩ pc m) := by
  obtain ⟨hn, hn1, hn2, hmok, hops, hst, hmem, hmap, hcA, hrow, hcn, hcn2, hpc0, hpc1, hsg⟩ := h
  have hls := hst.lt
  have hlg := hmem.lt
  have hlq := hmap.lt
  have hgs : ¬ g = s := fun e => hsg e.symm
  have HX := Lib.hid hnx
  have HN := Lib.hid hn
  have HO := Lib.hid hmok
  have HOP := Lib.hid hops
  have HA := Lib.hid hcA
  have HR := Lib.hid hrow
  have HCN := Lib.hid hcn
  have HRT := Lib.hid hright
  clear hnx hn hmok hops hcA hrow hcn hright
  go_enter Tryz.func158, Tryz.ntmps158
  go_wp2_with fail
  refine (next_any s pc 0 (some ⟨g, 0, none⟩) n kc A b off c cn cap _ HCN.out hcn2 hpc0 HA.out HOP.out hst HR.out).mono ?_
  rintro e w1 ⟨e1, hx1⟩
  replace e1 : e = .returned (.tuple #[.agg (Ins.cells ⟨11, a, y, z⟩), .bool true]) := by rw [e1, HX.out]; rfl
  subst e1
  have hI1 := Blk.new w1 41 (Ins.cells ⟨11, a, y, z⟩)
  have x1 := hx1.alloc (.cells (Ins.cells ⟨11, a, y, z⟩) 41)
  have hS1 := Blk.ext hst x1
  have hM1 := hmem.ext x1
  have hQ1 := hmap.ext x1
  have l1 := hx1.size
  clear hst hmem hmap hx1
  go_upto_region 3 with (fail)
  generalize (w1.alloc (.cells (Ins.cells ⟨11, a, y, z⟩) 41)) = W1 at hI1 x1 hS1 hM1 hQ1 ⊢
  generalize w1.heap.size = ic at hI1 l1 ⊢
  have hi1 := Blk.has hI1
  have hj1 := Blk.gets hI1
  go_wp2_with fail
  refine (far_any ⟨11, a, y, z⟩ cn s pc 0 g 0 n kc m _ HN.out hn2 HRT.out HO.out hS1 hM1.row).mono ?_
  rintro e w2 ⟨e2, hx2⟩
  replace e2 : e = .returned (.int .i64 (-1)) := by rw [e2]; rfl
  subst e2
  have x2 := x1.trans hx2
  have hI2 := Blk.ext hI1 hx2
  have hS2 := Blk.ext hS1 hx2
  have hM2 := hM1.ext hx2
  have hQ2 := hQ1.ext hx2
  clear hI1 hS1 hM1 hQ1 x1 hx2 hi1 hj1
  have hcI := Blk.cell hI2
  have hcS := Blk.cell hS2
  have hfS := Blk.frozen hS2
  have lI := hI2.lt
  have lS := hS2.lt
  have lG := hM2.lt
  have hal : a < m.length := by have := HN.out; omega
  have haI : (a : Int) < n := by omega
  have hyl : y < m.length := by have := HN.out; omega
  have hyI : (y : Int) < n := by omega
  have hzl : z < m.length := by have := HN.out; omega
  have hzI : (z : Int) < n := by omega
  have hcM := hM2.cell a hal
  have hfM := hM2.frozen
  obtain ⟨v, hv⟩ : ∃ v, v = m[y] := ⟨_, rfl⟩
  have Hvr : Hid (i32ok v) := Lib.hid (by rw [hv]; exact HO.out _ (List.getElem_mem hyl))
  obtain ⟨u, hu⟩ : ∃ u, u = m[z] := ⟨_, rfl⟩
  have Hur : Hid (i32ok u) := Lib.hid (by rw [hu]; exact HO.out _ (List.getElem_mem hzl))
  have HE : Hid (execI ⟨11, a, y, z⟩ pc m = (pc + 1, 0, m.set a (twoI 11 v u))) := Lib.hid (by simp [execI, mput, mget_in hyl, mget_in hzl, hv, hu])
  have HV := Lib.hid hv
  have HU := Lib.hid hu
  clear hv hu
  go_upto_region 9 with (fail)
  refine wp_region_3 (fun w3 => Ext w2 w3) [(0, 2), (1, 2), (2, 1), (3, 2), (4, 2), (5, 1), (6, 1), (7, 2), (8, 2), (9, 1), (10, 2), (11, 1), (12, 2), (13, 2), (14, 1), (15, 2), (16, 1), (17, 0), (18, 2), (19, 0)] (by kernel_rfl) (by kernel_rfl) (by kernel_rfl) (by kernel_rfl) ?_; intro l' hl'; simp only [List.map_cons, List.map_nil, List.getD_cons_zero, List.getD_cons_succ] at hl'; subst hl'
  (repeat (first | ((apply w3_pure); (· go_simp); (· (intro w1; go_simp; try with_reducible rfl)); (intro K hK; go_simp; refine hK _ _ ?_; clear hK K)) | ((apply w3_skip); (· go_simp); (intro K hK; go_simp; refine hK _ _ ?_; clear hK K)) | ((apply w3_take); (· exact (Kept.drew (Kept.refl _ _))); (· go_simp); (· (intro w1 hS; have d1 := Blk.cell (Blk.ext hI2 hS); have d2 := (hM2.ext hS).cell y hyl; rw [← HV.out] at d2; have d3 := (hM2.ext hS).cell z hzl; rw [← HU.out] at d3; have d4 := lookF _ q 11 (.func (.func 206) #[] #[]) 8 (hQ2.ext hS) (by rfl);  go_simp; try with_reducible rfl)); (intro K hK; go_simp; refine hK _ _ ?_; clear hK K)) | ((apply w3_pass); (· exact (Kept.drew (Kept.refl _ _))); (· go_simp); (intro K hK; go_simp; refine hK _ _ ?_; clear hK K))))
  (refine w3_act (fun K hK => ?_); go_simp)
  go_wp2_with fail
  refine (two11 v u Hvr.out Hur.out _).mono ?_
  rintro e w3 ⟨rfl, rfl⟩
  refine hK.out _ _ (fun h => h) ?_
  clear hK K
  obtain ⟨t, ht⟩ : ∃ t, t = twoI 11 v u := ⟨_, rfl⟩
  rw [← ht]
  have HT := Lib.hid ht
  clear ht
  (repeat (first | ((apply w3_pure); (· go_simp); (· (intro w1; go_simp; try with_reducible rfl)); (intro K hK; go_simp; refine hK _ _ ?_; clear hK K)) | ((apply w3_skip); (· go_simp); (intro K hK; go_simp; refine hK _ _ ?_; clear hK K)) | (refine w3_end (by kernel_rfl) (fun K hK => ?_); go_simp; refine hK.out _ _ ?_; clear hK K))); refine w3_nil ?_
  have hS3 : StAt (w2.setCell ⟨g, a, none⟩ (.int .i32 (t))).drew s 70 pc (some ⟨g, 0, none⟩) n kc 0 := Blk.far hS2 (p := ⟨g, a, none⟩) hsg (.int .i32 (t))
  have hM3 : MemAt (w2.setCell ⟨g, a, none⟩ (.int .i32 (t))).drew base g n kc (m.set a (t)) := (hM2.set a hal (t)).ext ((Kept.refl _ _).drew)
  have hk3 : Kept (fun i => i = s ∨ i = g) w (w2.setCell ⟨g, a, none⟩ (.int .i32 (t))).drew := (Kept.setCell (Kept.ext x2) _ _ (fun _ => .inr rfl)).drew
  generalize (w2.setCell ⟨g, a, none⟩ (.int .i32 (t))).drew = W3 at hS3 hM3 hk3 ⊢
  have hcS3 := Blk.cell hS3
  have hfS3 := Blk.frozen hS3
  go_wp2_with fail
  go_end0
  refine ⟨rfl, ?_⟩
  rw [HE.out, ← HT.out]
  exact Stepped.goal hk3 hS3 hM3 hsg _
set_option maxRecDepth 100000 in
set_option maxHeartbeats 2000000 in
theorem st_12 (w : World) (base s g n kc q : Nat) (A : Option Addr) (b off cn cap : Nat) (c : List Ins) (pc : Int) (m : List Int) (h : StepPre w base s g n kc q A b off cn c pc m) (a y z : Nat) (ha : a < n) (hy : y < n) (hz : z < n) (hnx : nextI c pc n = some ⟨12, a, y, z⟩) (hright : rightI ⟨12, a, y, z⟩ cn n = true) :
    Calls Tryz.prog 158 #[.pointer (some ⟨s, 0, none⟩), .slice A cn cap, .map (some q)] w fun e w' => e = .returned (.tuple #[]) ∧ Stepped w w' base s g n kc (execI ⟨12, a, y, z⟩ pc m) := by
  obtain ⟨hn, hn1, hn2, hmok, hops, hst, hmem, hmap, hcA, hrow, hcn, hcn2, hpc0, hpc1, hsg⟩ := h
  have hls := hst.lt
  have hlg := hmem.lt
  have hlq := hmap.lt
  have hgs : ¬ g = s := fun e => hsg e.symm
  have HX := Lib.hid hnx
  have HN := Lib.hid hn
  have HO := Lib.hid hmok
  have HOP := Lib.hid hops
  have HA := Lib.hid hcA
  have HR := Lib.hid hrow
  have HCN := Lib.hid hcn
  have HRT := Lib.hid hright
  clear hnx hn hmok hops hcA hrow hcn hright
  go_enter Tryz.func158, Tryz.ntmps158
  go_wp2_with fail
  refine (next_any s pc 0 (some ⟨g, 0, none⟩) n kc A b off c cn cap _ HCN.out hcn2 hpc0 HA.out HOP.out hst HR.out).mono ?_
  rintro e w1 ⟨e1, hx1⟩
  replace e1 : e = .returned (.tuple #[.agg (Ins.cells ⟨12, a, y, z⟩), .bool true]) := by rw [e1, HX.out]; rfl
  subst e1
  have hI1 := Blk.new w1 41 (Ins.cells ⟨12, a, y, z⟩)
  have x1 := hx1.alloc (.cells (Ins.cells ⟨12, a, y, z⟩) 41)
  have hS1 := Blk.ext hst x1
  have hM1 := hmem.ext x1
  have hQ1 := hmap.ext x1
  have l1 := hx1.size
  clear hst hmem hmap hx1
  go_upto_region 3 with (fail)
  generalize (w1.alloc (.cells (Ins.cells ⟨12, a, y, z⟩) 41)) = W1 at hI1 x1 hS1 hM1 hQ1 ⊢
  generalize w1.heap.size = ic at hI1 l1 ⊢
  have hi1 := Blk.has hI1
  have hj1 := Blk.gets hI1
  go_wp2_with fail
  refine (far_any ⟨12, a, y, z⟩ cn s pc 0 g 0 n kc m _ HN.out hn2 HRT.out HO.out hS1 hM1.row).mono ?_
  rintro e w2 ⟨e2, hx2⟩
  replace e2 : e = .returned (.int .i64 (-1)) := by rw [e2]; rfl
  subst e2
  have x2 := x1.trans hx2
  have hI2 := Blk.ext hI1 hx2
  have hS2 := Blk.ext hS1 hx2
  have hM2 := hM1.ext hx2
  have hQ2 := hQ1.ext hx2
  clear hI1 hS1 hM1 hQ1 x1 hx2 hi1 hj1
  have hcI := Blk.cell hI2
  have hcS := Blk.cell hS2
  have hfS := Blk.frozen hS2
  have lI := hI2.lt
  have lS := hS2.lt
  have lG := hM2.lt
  have hal : a < m.length := by have := HN.out; omega
  have haI : (a : Int) < n := by omega
  have hyl : y < m.length := by have := HN.out; omega
  have hyI : (y : Int) < n := by omega
  have hzl : z < m.length := by have := HN.out; omega
  have hzI : (z : Int) < n := by omega
  have hcM := hM2.cell a hal
  have hfM := hM2.frozen
  obtain ⟨v, hv⟩ : ∃ v, v = m[y] := ⟨_, rfl⟩
  have Hvr : Hid (i32ok v) := Lib.hid (by rw [hv]; exact HO.out _ (List.getElem_mem hyl))
  obtain ⟨u, hu⟩ : ∃ u, u = m[z] := ⟨_, rfl⟩
  have Hur : Hid (i32ok u) := Lib.hid (by rw [hu]; exact HO.out _ (List.getElem_mem hzl))
  have HE : Hid (execI ⟨12, a, y, z⟩ pc m = (pc + 1, 0, m.set a (twoI 12 v u))) := Lib.hid (by simp [execI, mput, mget_in hyl, mget_in hzl, hv, hu])
  have HV := Lib.hid hv
  have HU := Lib.hid hu
  clear hv hu
  go_upto_region 9 with (fail)
  refine wp_region_3 (fun w3 => Ext w2 w3) [(0, 2), (1, 2), (2, 1), (3, 2), (4, 2), (5, 1), (6, 1), (7, 2), (8, 2), (9, 1), (10, 2), (11, 1), (12, 2), (13, 2), (14, 1), (15, 2), (16, 1), (17, 0), (18, 2), (19, 0)] (by kernel_rfl) (by kernel_rfl) (by kernel_rfl) (by kernel_rfl) ?_; intro l' hl'; simp only [List.map_cons, List.map_nil, List.getD_cons_zero, List.getD_cons_succ] at hl'; subst hl'
  (repeat (first | ((apply w3_pure); (· go_simp); (· (intro w1; go_simp; try with_reducible rfl)); (intro K hK; go_simp; refine hK _ _ ?_; clear hK K)) | ((apply w3_skip); (· go_simp); (intro K hK; go_simp; refine hK _ _ ?_; clear hK K)) | ((apply w3_take); (· exact (Kept.drew (Kept.refl _ _))); (· go_simp); (· (intro w1 hS; have d1 := Blk.cell (Blk.ext hI2 hS); have d2 := (hM2.ext hS).cell y hyl; rw [← HV.out] at d2; have d3 := (hM2.ext hS).cell z hzl; rw [← HU.out] at d3; have d4 := lookF _ q 12 (.func (.func 207) #[] #[]) 9 (hQ2.ext hS) (by rfl);  go_simp; try with_reducible rfl)); (intro K hK; go_simp; refine hK _ _ ?_; clear hK K)) | ((apply w3_pass); (· exact (Kept.drew (Kept.refl _ _))); (· go_simp); (intro K hK; go_simp; refine hK _ _ ?_; clear hK K))))
  (refine w3_act (fun K hK => ?_); go_simp)
  go_wp2_with fail
  refine (two12 v u Hvr.out Hur.out _).mono ?_
  rintro e w3 ⟨rfl, rfl⟩
  refine hK.out _ _ (fun h => h) ?_
  clear hK K
  obtain ⟨t, ht⟩ : ∃ t, t = twoI 12 v u := ⟨_, rfl⟩
  rw [← ht]
  have HT := Lib.hid ht
  clear ht
  (repeat (first | ((apply w3_pure); (· go_simp); (· (intro w1; go_simp; try with_reducible rfl)); (intro K hK; go_simp; refine hK _ _ ?_; clear hK K)) | ((apply w3_skip); (· go_simp); (intro K hK; go_simp; refine hK _ _ ?_; clear hK K)) | (refine w3_end (by kernel_rfl) (fun K hK => ?_); go_simp; refine hK.out _ _ ?_; clear hK K))); refine w3_nil ?_
  have hS3 : StAt (w2.setCell ⟨g, a, none⟩ (.int .i32 (t))).drew s 70 pc (some ⟨g, 0, none⟩) n kc 0 := Blk.far hS2 (p := ⟨g, a, none⟩) hsg (.int .i32 (t))
  have hM3 : MemAt (w2.setCell ⟨g, a, none⟩ (.int .i32 (t))).drew base g n kc (m.set a (t)) := (hM2.set a hal (t)).ext ((Kept.refl _ _).drew)
  have hk3 : Kept (fun i => i = s ∨ i = g) w (w2.setCell ⟨g, a, none⟩ (.int .i32 (t))).drew := (Kept.setCell (Kept.ext x2) _ _ (fun _ => .inr rfl)).drew
  generalize (w2.setCell ⟨g, a, none⟩ (.int .i32 (t))).drew = W3 at hS3 hM3 hk3 ⊢
  have hcS3 := Blk.cell hS3
  have hfS3 := Blk.frozen hS3
  go_wp2_with fail
  go_end0
  refine ⟨rfl, ?_⟩
  rw [HE.out, ← HT.out]
  exact Stepped.goal hk3 hS3 hM3 hsg _
set_option maxRecDepth 100000 in
set_option maxHeartbeats 2000000 in
theorem st_13 (w : World) (base s g n kc q : Nat) (A : Option Addr) (b off cn cap : Nat) (c : List Ins) (pc : Int) (m : List Int) (h : StepPre w base s g n kc q A b off cn c pc m) (a y z : Nat) (ha : a < n) (hy : y < n) (hz : z < n) (hnx : nextI c pc n = some ⟨13, a, y, z⟩) (hright : rightI ⟨13, a, y, z⟩ cn n = true) :
    Calls Tryz.prog 158 #[.pointer (some ⟨s, 0, none⟩), .slice A cn cap, .map (some q)] w fun e w' => e = .returned (.tuple #[]) ∧ Stepped w w' base s g n kc (execI ⟨13, a, y, z⟩ pc m) := by
  obtain ⟨hn, hn1, hn2, hmok, hops, hst, hmem, hmap, hcA, hrow, hcn, hcn2, hpc0, hpc1, hsg⟩ := h
  have hls := hst.lt
  have hlg := hmem.lt
  have hlq := hmap.lt
  have hgs : ¬ g = s := fun e => hsg e.symm
  have HX := Lib.hid hnx
  have HN := Lib.hid hn
  have HO := Lib.hid hmok
  have HOP := Lib.hid hops
  have HA := Lib.hid hcA
  have HR := Lib.hid hrow
  have HCN := Lib.hid hcn
  have HRT := Lib.hid hright
  clear hnx hn hmok hops hcA hrow hcn hright
  go_enter Tryz.func158, Tryz.ntmps158
  go_wp2_with fail
  refine (next_any s pc 0 (some ⟨g, 0, none⟩) n kc A b off c cn cap _ HCN.out hcn2 hpc0 HA.out HOP.out hst HR.out).mono ?_
  rintro e w1 ⟨e1, hx1⟩
  replace e1 : e = .returned (.tuple #[.agg (Ins.cells ⟨13, a, y, z⟩), .bool true]) := by rw [e1, HX.out]; rfl
  subst e1
  have hI1 := Blk.new w1 41 (Ins.cells ⟨13, a, y, z⟩)
  have x1 := hx1.alloc (.cells (Ins.cells ⟨13, a, y, z⟩) 41)
  have hS1 := Blk.ext hst x1
  have hM1 := hmem.ext x1
  have hQ1 := hmap.ext x1
  have l1 := hx1.size
  clear hst hmem hmap hx1
  go_upto_region 3 with (fail)
  generalize (w1.alloc (.cells (Ins.cells ⟨13, a, y, z⟩) 41)) = W1 at hI1 x1 hS1 hM1 hQ1 ⊢
  generalize w1.heap.size = ic at hI1 l1 ⊢
  have hi1 := Blk.has hI1
  have hj1 := Blk.gets hI1
  go_wp2_with fail
  refine (far_any ⟨13, a, y, z⟩ cn s pc 0 g 0 n kc m _ HN.out hn2 HRT.out HO.out hS1 hM1.row).mono ?_
  rintro e w2 ⟨e2, hx2⟩
  replace e2 : e = .returned (.int .i64 (-1)) := by rw [e2]; rfl
  subst e2
  have x2 := x1.trans hx2
  have hI2 := Blk.ext hI1 hx2
  have hS2 := Blk.ext hS1 hx2
  have hM2 := hM1.ext hx2
  have hQ2 := hQ1.ext hx2
  clear hI1 hS1 hM1 hQ1 x1 hx2 hi1 hj1
  have hcI := Blk.cell hI2
  have hcS := Blk.cell hS2
  have hfS := Blk.frozen hS2
  have lI := hI2.lt
  have lS := hS2.lt
  have lG := hM2.lt
  have hal : a < m.length := by have := HN.out; omega
  have haI : (a : Int) < n := by omega
  have hyl : y < m.length := by have := HN.out; omega
  have hyI : (y : Int) < n := by omega
  have hzl : z < m.length := by have := HN.out; omega
  have hzI : (z : Int) < n := by omega
  have hcM := hM2.cell a hal
  have hfM := hM2.frozen
  obtain ⟨v, hv⟩ : ∃ v, v = m[y] := ⟨_, rfl⟩
  have Hvr : Hid (i32ok v) := Lib.hid (by rw [hv]; exact HO.out _ (List.getElem_mem hyl))
  obtain ⟨u, hu⟩ : ∃ u, u = m[z] := ⟨_, rfl⟩
  have Hur : Hid (i32ok u) := Lib.hid (by rw [hu]; exact HO.out _ (List.getElem_mem hzl))
  have HE : Hid (execI ⟨13, a, y, z⟩ pc m = (pc + 1, 0, m.set a (twoI 13 v u))) := Lib.hid (by simp [execI, mput, mget_in hyl, mget_in hzl, hv, hu])
  have HV := Lib.hid hv
  have HU := Lib.hid hu
  clear hv hu
  go_upto_region 9 with (fail)
  refine wp_region_3 (fun w3 => Ext w2 w3) [(0, 2), (1, 2), (2, 1), (3, 2), (4, 2), (5, 1), (6, 1), (7, 2), (8, 2), (9, 1), (10, 2), (11, 1), (12, 2), (13, 2), (14, 1), (15, 2), (16, 1), (17, 0), (18, 2), (19, 0)] (by kernel_rfl) (by kernel_rfl) (by kernel_rfl) (by kernel_rfl) ?_; intro l' hl'; simp only [List.map_cons, List.map_nil, List.getD_cons_zero, List.getD_cons_succ] at hl'; subst hl'
  (repeat (first | ((apply w3_pure); (· go_simp); (· (intro w1; go_simp; try with_reducible rfl)); (intro K hK; go_simp; refine hK _ _ ?_; clear hK K)) | ((apply w3_skip); (· go_simp); (intro K hK; go_simp; refine hK _ _ ?_; clear hK K)) | ((apply w3_take); (· exact (Kept.drew (Kept.refl _ _))); (· go_simp); (· (intro w1 hS; have d1 := Blk.cell (Blk.ext hI2 hS); have d2 := (hM2.ext hS).cell y hyl; rw [← HV.out] at d2; have d3 := (hM2.ext hS).cell z hzl; rw [← HU.out] at d3; have d4 := lookF _ q 13 (.func (.func 208) #[] #[]) 10 (hQ2.ext hS) (by rfl);  go_simp; try with_reducible rfl)); (intro K hK; go_simp; refine hK _ _ ?_; clear hK K)) | ((apply w3_pass); (· exact (Kept.drew (Kept.refl _ _))); (· go_simp); (intro K hK; go_simp; refine hK _ _ ?_; clear hK K))))
  (refine w3_act (fun K hK => ?_); go_simp)
  go_wp2_with fail
  refine (two13 v u Hvr.out Hur.out _).mono ?_
  rintro e w3 ⟨rfl, rfl⟩
  refine hK.out _ _ (fun h => h) ?_
  clear hK K
  obtain ⟨t, ht⟩ : ∃ t, t = twoI 13 v u := ⟨_, rfl⟩
  rw [← ht]
  have HT := Lib.hid ht
  clear ht
  (repeat (first | ((apply w3_pure); (· go_simp); (· (intro w1; go_simp; try with_reducible rfl)); (intro K hK; go_simp; refine hK _ _ ?_; clear hK K)) | ((apply w3_skip); (· go_simp); (intro K hK; go_simp; refine hK _ _ ?_; clear hK K)) | (refine w3_end (by kernel_rfl) (fun K hK => ?_); go_simp; refine hK.out _ _ ?_; clear hK K))); refine w3_nil ?_
  have hS3 : StAt (w2.setCell ⟨g, a, none⟩ (.int .i32 (t))).drew s 70 pc (some ⟨g, 0, none⟩) n kc 0 := Blk.far hS2 (p := ⟨g, a, none⟩) hsg (.int .i32 (t))
  have hM3 : MemAt (w2.setCell ⟨g, a, none⟩ (.int .i32 (t))).drew base g n kc (m.set a (t)) := (hM2.set a hal (t)).ext ((Kept.refl _ _).drew)
  have hk3 : Kept (fun i => i = s ∨ i = g) w (w2.setCell ⟨g, a, none⟩ (.int .i32 (t))).drew := (Kept.setCell (Kept.ext x2) _ _ (fun _ => .inr rfl)).drew
  generalize (w2.setCell ⟨g, a, none⟩ (.int .i32 (t))).drew = W3 at hS3 hM3 hk3 ⊢
  have hcS3 := Blk.cell hS3
  have hfS3 := Blk.frozen hS3
  go_wp2_with fail
  go_end0
  refine ⟨rfl, ?_⟩
  rw [HE.out, ← HT.out]
  exact Stepped.goal hk3 hS3 hM3 hsg _
end Go.Proofs.YtahljceanodhkaaGreatDoor

/- Package machine: step, whatever the instruction. -/
namespace Go.Proofs.YtahljceanodhkaaGreatDoor
open Go.RowKit
set_option maxRecDepth 100000 in
set_option maxHeartbeats 2000000 in
theorem st_none (w : World) (base s g n kc q : Nat) (A : Option Addr) (b off cn cap : Nat) (c : List Ins) (pc : Int) (m : List Int) (h : StepPre w base s g n kc q A b off cn c pc m) (hnx : nextI c pc n = none) :
    Calls Tryz.prog 158 #[.pointer (some ⟨s, 0, none⟩), .slice A cn cap, .map (some q)] w fun e w' => e = .returned (.tuple #[]) ∧ Stepped w w' base s g n kc (pc, 2, m) := by
  obtain ⟨hn, hn1, hn2, hmok, hops, hst, hmem, hmap, hcA, hrow, hcn, hcn2, hpc0, hpc1, hsg⟩ := h
  have hls := hst.lt
  have HX := Lib.hid hnx
  have HOP := Lib.hid hops
  have HA := Lib.hid hcA
  have HR := Lib.hid hrow
  have HCN := Lib.hid hcn
  clear hnx hn hmok hops hcA hrow hcn hmap
  go_enter Tryz.func158, Tryz.ntmps158
  go_wp2_with fail
  refine (next_any s pc 0 (some ⟨g, 0, none⟩) n kc A b off c cn cap _ HCN.out hcn2 hpc0 HA.out HOP.out hst HR.out).mono ?_
  rintro e w1 ⟨e1, hx1⟩
  replace e1 : e = .returned (.tuple #[.agg (Ins.cells ⟨0, 0, 0, 0⟩), .bool false]) := by rw [e1, HX.out]; rfl
  subst e1
  have x1 := hx1.alloc (.cells (Ins.cells ⟨0, 0, 0, 0⟩) 41)
  have hS1 := Blk.ext hst x1
  have hM1 := hmem.ext x1
  have l1 := hx1.size
  clear hst hmem hx1
  go_upto_region 1 with (fail)
  generalize (w1.alloc (.cells (Ins.cells ⟨0, 0, 0, 0⟩) 41)) = W1 at x1 hS1 hM1 ⊢
  have hcS := Blk.cell hS1
  have hfS := Blk.frozen hS1
  go_wp2_with fail
  refine results_none' Tryz.results158 rfl ⟨rfl, ?_⟩
  exact Stepped.halt (Kept.ext x1) hS1 hM1 hsg _
set_option maxRecDepth 100000 in
set_option maxHeartbeats 2000000 in
theorem st_lost15 (w : World) (base s g n kc q : Nat) (A : Option Addr) (b off cn cap : Nat) (c : List Ins) (pc : Int) (m : List Int) (h : StepPre w base s g n kc q A b off cn c pc m) (x y z : Int) (hnx : nextI c pc n = some ⟨15, x, y, z⟩) (hright : rightI ⟨15, x, y, z⟩ cn n = true) (hfar : farI ⟨15, x, y, z⟩ m < 0) :
    Calls Tryz.prog 158 #[.pointer (some ⟨s, 0, none⟩), .slice A cn cap, .map (some q)] w fun e w' => e = .returned (.tuple #[]) ∧ Stepped w w' base s g n kc (pc, 2, m) := by
  obtain ⟨hn, hn1, hn2, hmok, hops, hst, hmem, hmap, hcA, hrow, hcn, hcn2, hpc0, hpc1, hsg⟩ := h
  have hls := hst.lt
  obtain ⟨F, hF⟩ : ∃ F, F = farI ⟨15, x, y, z⟩ m := ⟨_, rfl⟩
  rw [← hF] at hfar
  have HF := Lib.hid hF
  have HX := Lib.hid hnx
  have HN := Lib.hid hn
  have HO := Lib.hid hmok
  have HOP := Lib.hid hops
  have HA := Lib.hid hcA
  have HR := Lib.hid hrow
  have HCN := Lib.hid hcn
  have HRT := Lib.hid hright
  clear hnx hn hmok hops hcA hrow hcn hmap hright hF
  go_enter Tryz.func158, Tryz.ntmps158
  go_wp2_with fail
  refine (next_any s pc 0 (some ⟨g, 0, none⟩) n kc A b off c cn cap _ HCN.out hcn2 hpc0 HA.out HOP.out hst HR.out).mono ?_
  rintro e w1 ⟨e1, hx1⟩
  replace e1 : e = .returned (.tuple #[.agg (Ins.cells ⟨15, x, y, z⟩), .bool true]) := by rw [e1, HX.out]; rfl
  subst e1
  have hI1 := Blk.new w1 41 (Ins.cells ⟨15, x, y, z⟩)
  have x1 := hx1.alloc (.cells (Ins.cells ⟨15, x, y, z⟩) 41)
  have hS1 := Blk.ext hst x1
  have hM1 := hmem.ext x1
  have l1 := hx1.size
  clear hst hmem hx1
  go_upto_region 3 with (fail)
  generalize (w1.alloc (.cells (Ins.cells ⟨15, x, y, z⟩) 41)) = W1 at hI1 x1 hS1 hM1 ⊢
  generalize w1.heap.size = ic at hI1 l1 ⊢
  have hi1 := Blk.has hI1
  have hj1 := Blk.gets hI1
  go_wp2_with fail
  refine (far_any ⟨15, x, y, z⟩ cn s pc 0 g 0 n kc m _ HN.out hn2 HRT.out HO.out hS1 hM1.row).mono ?_
  rintro e w2 ⟨e2, hx2⟩
  replace e2 : e = .returned (.int .i64 F) := by rw [e2, HF.out]
  subst e2
  have x2 := x1.trans hx2
  have hI2 := Blk.ext hI1 hx2
  have hS2 := Blk.ext hS1 hx2
  have hM2 := hM1.ext hx2
  clear hI1 hS1 hM1 x1 hx2 hi1 hj1
  have hcI := Blk.cell hI2
  have hcS := Blk.cell hS2
  have hfS := Blk.frozen hS2
  have lI := hI2.lt
  have lS := hS2.lt
  go_wp2_with fail
  refine results_none' Tryz.results158 rfl ⟨rfl, ?_⟩
  exact Stepped.halt (Kept.ext x2) hS2 hM2 hsg _
set_option maxRecDepth 100000 in
set_option maxHeartbeats 2000000 in
theorem st_lost16 (w : World) (base s g n kc q : Nat) (A : Option Addr) (b off cn cap : Nat) (c : List Ins) (pc : Int) (m : List Int) (h : StepPre w base s g n kc q A b off cn c pc m) (x y z : Int) (hnx : nextI c pc n = some ⟨16, x, y, z⟩) (hright : rightI ⟨16, x, y, z⟩ cn n = true) (hfar : farI ⟨16, x, y, z⟩ m < 0) :
    Calls Tryz.prog 158 #[.pointer (some ⟨s, 0, none⟩), .slice A cn cap, .map (some q)] w fun e w' => e = .returned (.tuple #[]) ∧ Stepped w w' base s g n kc (pc, 2, m) := by
  obtain ⟨hn, hn1, hn2, hmok, hops, hst, hmem, hmap, hcA, hrow, hcn, hcn2, hpc0, hpc1, hsg⟩ := h
  have hls := hst.lt
  obtain ⟨F, hF⟩ : ∃ F, F = farI ⟨16, x, y, z⟩ m := ⟨_, rfl⟩
  rw [← hF] at hfar
  have HF := Lib.hid hF
  have HX := Lib.hid hnx
  have HN := Lib.hid hn
  have HO := Lib.hid hmok
  have HOP := Lib.hid hops
  have HA := Lib.hid hcA
  have HR := Lib.hid hrow
  have HCN := Lib.hid hcn
  have HRT := Lib.hid hright
  clear hnx hn hmok hops hcA hrow hcn hmap hright hF
  go_enter Tryz.func158, Tryz.ntmps158
  go_wp2_with fail
  refine (next_any s pc 0 (some ⟨g, 0, none⟩) n kc A b off c cn cap _ HCN.out hcn2 hpc0 HA.out HOP.out hst HR.out).mono ?_
  rintro e w1 ⟨e1, hx1⟩
  replace e1 : e = .returned (.tuple #[.agg (Ins.cells ⟨16, x, y, z⟩), .bool true]) := by rw [e1, HX.out]; rfl
  subst e1
  have hI1 := Blk.new w1 41 (Ins.cells ⟨16, x, y, z⟩)
  have x1 := hx1.alloc (.cells (Ins.cells ⟨16, x, y, z⟩) 41)
  have hS1 := Blk.ext hst x1
  have hM1 := hmem.ext x1
  have l1 := hx1.size
  clear hst hmem hx1
  go_upto_region 3 with (fail)
  generalize (w1.alloc (.cells (Ins.cells ⟨16, x, y, z⟩) 41)) = W1 at hI1 x1 hS1 hM1 ⊢
  generalize w1.heap.size = ic at hI1 l1 ⊢
  have hi1 := Blk.has hI1
  have hj1 := Blk.gets hI1
  go_wp2_with fail
  refine (far_any ⟨16, x, y, z⟩ cn s pc 0 g 0 n kc m _ HN.out hn2 HRT.out HO.out hS1 hM1.row).mono ?_
  rintro e w2 ⟨e2, hx2⟩
  replace e2 : e = .returned (.int .i64 F) := by rw [e2, HF.out]
  subst e2
  have x2 := x1.trans hx2
  have hI2 := Blk.ext hI1 hx2
  have hS2 := Blk.ext hS1 hx2
  have hM2 := hM1.ext hx2
  clear hI1 hS1 hM1 x1 hx2 hi1 hj1
  have hcI := Blk.cell hI2
  have hcS := Blk.cell hS2
  have hfS := Blk.frozen hS2
  have lI := hI2.lt
  have lS := hS2.lt
  go_wp2_with fail
  refine results_none' Tryz.results158 rfl ⟨rfl, ?_⟩
  exact Stepped.halt (Kept.ext x2) hS2 hM2 hsg _
theorem nextI_right {c : List Ins} {pc : Int} {k : Nat} {i : Ins} (h : nextI c pc k = some i) : rightI i c.length k = true := by
  unfold nextI at h
  split at h
  · split at h
    · cases h; assumption
    · cases h
  · cases h
theorem farI_bd (i : Ins) (m : List Int) : farI i m < m.length := by
  unfold farI placeI
  split
  · split <;> omega
  · split
    · split <;> omega
    · omega
theorem lost_false {i : Ins} {m : List Int} (h : lost i m = false) (h15 : i.op = 15 ∨ i.op = 16) : 0 ≤ farI i m := by
  unfold lost at h
  rcases h15 with e | e <;> (simp [e] at h; omega)
set_option maxRecDepth 100000 in
theorem step_any (w : World) (base s g n kc q : Nat) (A : Option Addr) (b off cn cap : Nat) (c : List Ins) (pc : Int) (m : List Int) (h : StepPre w base s g n kc q A b off cn c pc m) :
    Calls Tryz.prog 158 #[.pointer (some ⟨s, 0, none⟩), .slice A cn cap, .map (some q)] w fun e w' => e = .returned (.tuple #[]) ∧ Stepped w w' base s g n kc (stepI c pc m) := by
  have hn := h.n_eq
  have hcn := h.cn_eq
  cases hnx : nextI c pc n with
  | none =>
    have e : stepI c pc m = (pc, 2, m) := by unfold stepI; rw [← hn, hnx]
    rw [e]
    exact st_none w base s g n kc q A b off cn cap c pc m h hnx
  | some i =>
    have hr := nextI_right hnx
    rw [← hcn] at hr
    obtain ⟨h0, h22, ha, hb, hc, he⟩ := rightI_parts hr
    cases hl : lost i m with
    | true =>
      have e : stepI c pc m = (pc, 2, m) := by unfold stepI; rw [← hn, hnx]; simp [hl]
      rw [e]
      have hl' := hl
      simp [lost] at hl'
      obtain ⟨op, x, y, z⟩ := i
      simp only at hl'
      rcases hl'.2 with rfl | rfl
      · exact st_lost15 w base s g n kc q A b off cn cap c pc m h x y z hnx hr hl'.1
      · exact st_lost16 w base s g n kc q A b off cn cap c pc m h x y z hnx hr hl'.1
    | false =>
      have e : stepI c pc m = execI i pc m := by unfold stepI; rw [← hn, hnx]; simp [hl]
      rw [e]
      have hfb := farI_bd i m
      have hfl := lost_false hl
      obtain ⟨op, x, y, z⟩ := i
      simp only at h0 h22 ha hb hc
      obtain ⟨k, rfl⟩ : ∃ k : Nat, op = k := ⟨op.toNat, by omega⟩
      have hk : k < 22 := by omega
      clear h0 h22 e hl
      have hall : k = 0 ∨ k = 1 ∨ k = 2 ∨ k = 3 ∨ k = 4 ∨ k = 5 ∨ k = 6 ∨ k = 7 ∨ k = 8 ∨ k = 9 ∨ k = 10 ∨ k = 11 ∨ k = 12 ∨ k = 13 ∨ k = 14 ∨ k = 15 ∨ k = 16 ∨ k = 17 ∨ k = 18 ∨ k = 19 ∨ k = 20 ∨ k = 21 := by omega
      rcases hall with rfl | rfl | rfl | rfl | rfl | rfl | rfl | rfl | rfl | rfl | rfl | rfl | rfl | rfl | rfl | rfl | rfl | rfl | rfl | rfl | rfl | rfl
      · have ha' := okP_n rfl ha
        exact st_0 w base s g n kc q A b off cn cap c pc m h x y z (by simpa [rightE] using he) hnx hr
      · have ha' := okP_w rfl ha
        obtain ⟨x, rfl⟩ : ∃ t : Nat, x = t := ⟨Int.toNat x, by omega⟩
        have hb' := okP_n rfl hb
        exact st_1 w base s g n kc q A b off cn cap c pc m h x y z (by omega) hb'.1 hb'.2 hnx hr
      · have ha' := okP_w rfl ha
        obtain ⟨x, rfl⟩ : ∃ t : Nat, x = t := ⟨Int.toNat x, by omega⟩
        have hb' := okP_w rfl hb
        obtain ⟨y, rfl⟩ : ∃ t : Nat, y = t := ⟨Int.toNat y, by omega⟩
        exact st_2 w base s g n kc q A b off cn cap c pc m h x y z (by omega) (by omega) hnx hr
      · have ha' := okP_w rfl ha
        obtain ⟨x, rfl⟩ : ∃ t : Nat, x = t := ⟨Int.toNat x, by omega⟩
        have hb' := okP_w rfl hb
        obtain ⟨y, rfl⟩ : ∃ t : Nat, y = t := ⟨Int.toNat y, by omega⟩
        have hc' := okP_w rfl hc
        obtain ⟨z, rfl⟩ : ∃ t : Nat, z = t := ⟨Int.toNat z, by omega⟩
        exact st_3 w base s g n kc q A b off cn cap c pc m h x y z (by omega) (by omega) (by omega) hnx hr
      · have ha' := okP_w rfl ha
        obtain ⟨x, rfl⟩ : ∃ t : Nat, x = t := ⟨Int.toNat x, by omega⟩
        have hb' := okP_w rfl hb
        obtain ⟨y, rfl⟩ : ∃ t : Nat, y = t := ⟨Int.toNat y, by omega⟩
        have hc' := okP_w rfl hc
        obtain ⟨z, rfl⟩ : ∃ t : Nat, z = t := ⟨Int.toNat z, by omega⟩
        exact st_4 w base s g n kc q A b off cn cap c pc m h x y z (by omega) (by omega) (by omega) hnx hr
      · have ha' := okP_w rfl ha
        obtain ⟨x, rfl⟩ : ∃ t : Nat, x = t := ⟨Int.toNat x, by omega⟩
        have hb' := okP_w rfl hb
        obtain ⟨y, rfl⟩ : ∃ t : Nat, y = t := ⟨Int.toNat y, by omega⟩
        have hc' := okP_w rfl hc
        obtain ⟨z, rfl⟩ : ∃ t : Nat, z = t := ⟨Int.toNat z, by omega⟩
        exact st_5 w base s g n kc q A b off cn cap c pc m h x y z (by omega) (by omega) (by omega) hnx hr
      · have ha' := okP_w rfl ha
        obtain ⟨x, rfl⟩ : ∃ t : Nat, x = t := ⟨Int.toNat x, by omega⟩
        have hb' := okP_w rfl hb
        obtain ⟨y, rfl⟩ : ∃ t : Nat, y = t := ⟨Int.toNat y, by omega⟩
        have hc' := okP_w rfl hc
        obtain ⟨z, rfl⟩ : ∃ t : Nat, z = t := ⟨Int.toNat z, by omega⟩
        exact st_6 w base s g n kc q A b off cn cap c pc m h x y z (by omega) (by omega) (by omega) hnx hr
      · have ha' := okP_w rfl ha
        obtain ⟨x, rfl⟩ : ∃ t : Nat, x = t := ⟨Int.toNat x, by omega⟩
        have hb' := okP_w rfl hb
        obtain ⟨y, rfl⟩ : ∃ t : Nat, y = t := ⟨Int.toNat y, by omega⟩
        have hc' := okP_w rfl hc
        obtain ⟨z, rfl⟩ : ∃ t : Nat, z = t := ⟨Int.toNat z, by omega⟩
        exact st_7 w base s g n kc q A b off cn cap c pc m h x y z (by omega) (by omega) (by omega) hnx hr
      · have ha' := okP_w rfl ha
        obtain ⟨x, rfl⟩ : ∃ t : Nat, x = t := ⟨Int.toNat x, by omega⟩
        have hb' := okP_w rfl hb
        obtain ⟨y, rfl⟩ : ∃ t : Nat, y = t := ⟨Int.toNat y, by omega⟩
        have hc' := okP_w rfl hc
        obtain ⟨z, rfl⟩ : ∃ t : Nat, z = t := ⟨Int.toNat z, by omega⟩
        exact st_8 w base s g n kc q A b off cn cap c pc m h x y z (by omega) (by omega) (by omega) hnx hr
      · have ha' := okP_w rfl ha
        obtain ⟨x, rfl⟩ : ∃ t : Nat, x = t := ⟨Int.toNat x, by omega⟩
        have hb' := okP_w rfl hb
        obtain ⟨y, rfl⟩ : ∃ t : Nat, y = t := ⟨Int.toNat y, by omega⟩
        have hc' := okP_w rfl hc
        obtain ⟨z, rfl⟩ : ∃ t : Nat, z = t := ⟨Int.toNat z, by omega⟩
        exact st_9 w base s g n kc q A b off cn cap c pc m h x y z (by omega) (by omega) (by omega) hnx hr
      · have ha' := okP_w rfl ha
        obtain ⟨x, rfl⟩ : ∃ t : Nat, x = t := ⟨Int.toNat x, by omega⟩
        have hb' := okP_w rfl hb
        obtain ⟨y, rfl⟩ : ∃ t : Nat, y = t := ⟨Int.toNat y, by omega⟩
        have hc' := okP_w rfl hc
        obtain ⟨z, rfl⟩ : ∃ t : Nat, z = t := ⟨Int.toNat z, by omega⟩
        exact st_10 w base s g n kc q A b off cn cap c pc m h x y z (by omega) (by omega) (by omega) hnx hr
      · have ha' := okP_w rfl ha
        obtain ⟨x, rfl⟩ : ∃ t : Nat, x = t := ⟨Int.toNat x, by omega⟩
        have hb' := okP_w rfl hb
        obtain ⟨y, rfl⟩ : ∃ t : Nat, y = t := ⟨Int.toNat y, by omega⟩
        have hc' := okP_w rfl hc
        obtain ⟨z, rfl⟩ : ∃ t : Nat, z = t := ⟨Int.toNat z, by omega⟩
        exact st_11 w base s g n kc q A b off cn cap c pc m h x y z (by omega) (by omega) (by omega) hnx hr
      · have ha' := okP_w rfl ha
        obtain ⟨x, rfl⟩ : ∃ t : Nat, x = t := ⟨Int.toNat x, by omega⟩
        have hb' := okP_w rfl hb
        obtain ⟨y, rfl⟩ : ∃ t : Nat, y = t := ⟨Int.toNat y, by omega⟩
        have hc' := okP_w rfl hc
        obtain ⟨z, rfl⟩ : ∃ t : Nat, z = t := ⟨Int.toNat z, by omega⟩
        exact st_12 w base s g n kc q A b off cn cap c pc m h x y z (by omega) (by omega) (by omega) hnx hr
      · have ha' := okP_w rfl ha
        obtain ⟨x, rfl⟩ : ∃ t : Nat, x = t := ⟨Int.toNat x, by omega⟩
        have hb' := okP_w rfl hb
        obtain ⟨y, rfl⟩ : ∃ t : Nat, y = t := ⟨Int.toNat y, by omega⟩
        have hc' := okP_w rfl hc
        obtain ⟨z, rfl⟩ : ∃ t : Nat, z = t := ⟨Int.toNat z, by omega⟩
        exact st_13 w base s g n kc q A b off cn cap c pc m h x y z (by omega) (by omega) (by omega) hnx hr
      · have ha' := okP_w rfl ha
        obtain ⟨x, rfl⟩ : ∃ t : Nat, x = t := ⟨Int.toNat x, by omega⟩
        have hb' := okP_w rfl hb
        obtain ⟨y, rfl⟩ : ∃ t : Nat, y = t := ⟨Int.toNat y, by omega⟩
        exact st_14 w base s g n kc q A b off cn cap c pc m h x y z (by omega) (by omega) hnx hr
      · have ha' := okP_w rfl ha
        obtain ⟨x, rfl⟩ : ∃ t : Nat, x = t := ⟨Int.toNat x, by omega⟩
        have hb' := okP_w rfl hb
        obtain ⟨y, rfl⟩ : ∃ t : Nat, y = t := ⟨Int.toNat y, by omega⟩
        have hc' := okP_w rfl hc
        obtain ⟨z, rfl⟩ : ∃ t : Nat, z = t := ⟨Int.toNat z, by omega⟩
        have hf0 := hfl (.inl rfl)
        obtain ⟨p, hp⟩ : ∃ p : Nat, farI ⟨(15 : Nat), x, y, z⟩ m = p := ⟨(farI ⟨(15 : Nat), x, y, z⟩ m).toNat, by omega⟩
        exact st_15 w base s g n kc q A b off cn cap c pc m h x y z p (by omega) (by omega) hp hnx hr
      · have ha' := okP_w rfl ha
        obtain ⟨x, rfl⟩ : ∃ t : Nat, x = t := ⟨Int.toNat x, by omega⟩
        have hb' := okP_w rfl hb
        obtain ⟨y, rfl⟩ : ∃ t : Nat, y = t := ⟨Int.toNat y, by omega⟩
        have hc' := okP_w rfl hc
        obtain ⟨z, rfl⟩ : ∃ t : Nat, z = t := ⟨Int.toNat z, by omega⟩
        have hf0 := hfl (.inr rfl)
        obtain ⟨p, hp⟩ : ∃ p : Nat, farI ⟨(16 : Nat), x, y, z⟩ m = p := ⟨(farI ⟨(16 : Nat), x, y, z⟩ m).toNat, by omega⟩
        exact st_16 w base s g n kc q A b off cn cap c pc m h x y z p (by omega) (by omega) hp hnx hr
      · have ha' := okP_w rfl ha
        obtain ⟨x, rfl⟩ : ∃ t : Nat, x = t := ⟨Int.toNat x, by omega⟩
        have hb' := okP_n rfl hb
        have hc' := okP_n rfl hc
        exact st_17 w base s g n kc q A b off cn cap c pc m h x y z (by omega) hb'.1 hb'.2 hc'.1 hc'.2 hnx hr
      · have ha' := okP_w rfl ha
        obtain ⟨x, rfl⟩ : ∃ t : Nat, x = t := ⟨Int.toNat x, by omega⟩
        have hb' := okP_w rfl hb
        obtain ⟨y, rfl⟩ : ∃ t : Nat, y = t := ⟨Int.toNat y, by omega⟩
        have hc' := okP_n rfl hc
        have hz0 : 0 ≤ z := by simpa [rightE] using he
        exact st_18 w base s g n kc q A b off cn cap c pc m h x y z (by omega) (by omega) hz0 hc'.2 hnx hr
      · have ha' := okP_p rfl ha
        obtain ⟨x, rfl⟩ : ∃ t : Nat, x = t := ⟨Int.toNat x, by omega⟩
        exact st_19 w base s g n kc q A b off cn cap c pc m h x y z hnx hr
      · have ha' := okP_p rfl ha
        obtain ⟨x, rfl⟩ : ∃ t : Nat, x = t := ⟨Int.toNat x, by omega⟩
        have hb' := okP_w rfl hb
        obtain ⟨y, rfl⟩ : ∃ t : Nat, y = t := ⟨Int.toNat y, by omega⟩
        exact st_20 w base s g n kc q A b off cn cap c pc m h x y z (by omega) hnx hr
      · have ha' := okP_p rfl ha
        obtain ⟨x, rfl⟩ : ∃ t : Nat, x = t := ⟨Int.toNat x, by omega⟩
        have hb' := okP_w rfl hb
        obtain ⟨y, rfl⟩ : ∃ t : Nat, y = t := ⟨Int.toNat y, by omega⟩
        exact st_21 w base s g n kc q A b off cn cap c pc m h x y z (by omega) hnx hr
end Go.Proofs.YtahljceanodhkaaGreatDoor

/- Package machine: Clone, Run of one step, Step. -/
namespace Go.Proofs.YtahljceanodhkaaGreatDoor
open Go.RowKit
theorem infoM32 : (Tryz.prog.info? 21).map (fun i => (i.zero, i.size, i.bytes)) = some (some (.int .i32 0), 1, 4) := by kernel_rfl
theorem mems_flatL (l : List Int) : flatL (mems l) = true := by
  induction l with
  | nil => rfl
  | cons d l ih => show flatL (.int .i32 d :: mems l) = true; simpa [flatL, Value.oneCell'] using ih
theorem appM (w : World) (base : Nat) (v : Value) (n : Nat) (xs : List Int) (hown : w.ownsRow base 21 1 v n (mems xs)) (b off m c : Nat) (l : List Int) (hm : m = l.length) (hr : Row w b off (mems l)) (hn : n + m ≤ 100000) (hbase : base ≤ w.heap.size) :
    ∃ v' w', (Builtin.append_ #[59, 59] 59 #[v, .slice (some ⟨b, off, none⟩) m c]).run Tryz.prog w = .ok v' w' ∧ w'.ownsRow base 21 1 v' (n + m) (mems (xs ++ l)) ∧ Kept (fun i => v.ownBlock = some i) w w' := by
  obtain ⟨i, hi, hz, h1, h2⟩ := info_parts infoM32
  have := app_some (P := Tryz.prog) Tryz.underlying59 hi hz h1 h2 (by rfl) (by decide) w base v n (mems xs) hown b off m c (mems l) (by rw [mems_len, hm, Nat.mul_one]) hr (mems_flatL l) (by unfold maxLen; omega) (by omega) hbase
  rw [show mems xs ++ mems l = mems (xs ++ l) by simp [mems]] at this
  exact this
/-- words of its own, one at least -/
def OwnsM (w w' : World) (v : Value) (n : Nat) (m : List Int) : Prop := ∃ g c, v = .slice (some ⟨g, 0, none⟩) n c ∧ MemAt w' w.heap.size g n c m ∧ Ext w w'
theorem ownM_of {w w' : World} {v : Value} {n : Nat} {m : List Int} (h : w'.ownsRow w.heap.size 21 1 v n (mems m)) (hn : 0 < n) (hx : Ext w w') : OwnsM w w' v n m := by
  rcases h.2 with ⟨_, h0⟩ | ⟨g, c, cur, hv, r⟩
  · omega
  · subst hv
    exact ⟨g, c, rfl, h, hx⟩
set_option maxRecDepth 100000 in
set_option maxHeartbeats 1000000 in
theorem mclone_any (b off cap : Nat) (l : List Int) (n : Nat) (hn : n = l.length) (h1 : 1 ≤ n) (h2 : n ≤ 4096) (w : World) (hr : Row w b off (mems l)) :
    Calls Tryz.prog 196 #[.slice (some ⟨b, off, none⟩) n cap] w fun e w' => ∃ v, e = .returned v ∧ OwnsM w w' v n l := by
  obtain ⟨v2, w2, hr2, ho2, hk2⟩ := appM (w.alloc (.cells #[] 21)) _ _ 0 [] (own_new w 21 1) b off n cap l hn (hr.ext ((Kept.refl _ w).alloc _)) (by omega) (by simp)
  have HN := Lib.hid hn
  clear hn
  have heq := fun w => Lib.run_eql_slice_nil (P := Tryz.prog) w 59 21 (some ⟨b, off, none⟩) n cap 0 0 Tryz.underlying59
  simp only [Option.isNone_some] at heq
  go_enter Tryz.func196, Tryz.ntmps196
  go_upto_region 3 with (fail)
  go_step
  iterate 2 (refine wpList_step (fun K hK => ?_); go_simp; (try go_bits); refine hK _ _ ?_; clear hK K)
  refine wpList_app rfl (.tmp 5) (.tmp 6) 59 rfl rfl rfl rfl hr2 ?_
  clear hr2
  go_wp2_with fail
  go_ret
  rw [Nat.zero_add, List.nil_append] at ho2
  exact ⟨_, rfl, ownM_of ho2 h1 (((Kept.refl _ w).alloc _).trans' hk2 (fun i hi e => by simp [Value.ownBlock] at e; omega))⟩
/-- a state of its own -/
def OwnsS (w w' : World) (v : Value) (n : Nat) (pc halt : Int) (m : List Int) : Prop := ∃ g c, v = .agg (stCells pc (some ⟨g, 0, none⟩) n c halt) ∧ MemAt w' w.heap.size g n c m ∧ Ext w w'
set_option maxRecDepth 100000 in
set_option maxHeartbeats 1000000 in
theorem sclone_any (pc halt : Int) (b off cap : Nat) (l : List Int) (n : Nat) (hn : n = l.length) (h1 : 1 ≤ n) (h2 : n ≤ 4096) (w : World) (hr : Row w b off (mems l)) :
    Calls Tryz.prog 156 #[.agg (stCells pc (some ⟨b, off, none⟩) n cap halt)] w fun e w' => ∃ v, e = .returned v ∧ OwnsS w w' v n pc halt l := by
  have HN := Lib.hid hn
  clear hn
  have hx0 : Ext w _ := ((Kept.refl _ w).alloc (.cells (stCells pc (some ⟨b, off, none⟩) n cap halt) 70)).alloc (.cells (stCells 0 none 0 0 0) 70)
  have hA0 : Blk _ w.heap.size 70 (stCells pc (some ⟨b, off, none⟩) n cap halt) := Blk.alloc (Blk.new w _ _) (.cells (stCells 0 none 0 0 0) 70)
  have hR0 : Blk _ (w.heap.size + 1) 70 (stCells 0 none 0 0 0) := Blk.new' (w.alloc (.cells (stCells pc (some ⟨b, off, none⟩) n cap halt) 70)) _ _ _ (by simp)
  have hrow := hr.ext hx0
  have hs0 := hx0.size
  go_enter Tryz.func156, Tryz.ntmps156
  go_wp2_with fail
  refine (mclone_any b off cap l n HN.out h1 h2 _ hrow).mono ?_
  rintro e w1 ⟨v1, rfl, g, c1, rfl, hM1, hx1⟩
  have hA1 := Blk.ext hA0 hx1
  have hR1 := Blk.ext hR0 hx1
  have hc1 := Blk.cell hA1
  have hf1 := Blk.frozen hA1
  have hg1 := hM1.inv.2
  obtain ⟨_, hgb, _⟩ := hg1
  have lA := hA0.lt
  have lR := hR0.lt
  have hA2 : Blk (w1.setCell ⟨w.heap.size, 1, none⟩ (.slice (some ⟨g, 0, none⟩) n c1)) w.heap.size 70 (stCells pc (some ⟨g, 0, none⟩) n c1 halt) := Blk.set_ hA1 1 (.slice (some ⟨g, 0, none⟩) n c1)
  have hR2 := Blk.far hR1 (p := ⟨w.heap.size, 1, none⟩) (show w.heap.size + 1 ≠ w.heap.size by omega) (.slice (some ⟨g, 0, none⟩) n c1)
  have hM2 := hM1.far (p := ⟨w.heap.size, 1, none⟩) (show ¬ g = w.heap.size by omega) (.slice (some ⟨g, 0, none⟩) n c1)
  have y2 : Ext w (w1.setCell ⟨w.heap.size, 1, none⟩ (.slice (some ⟨g, 0, none⟩) n c1)) := Kept.setCell (hx0.trans hx1) ⟨w.heap.size, 1, none⟩ _ (fun h => by have : w.heap.size < w.heap.size := h; omega)
  go_upto_region 2 with (fail)
  clear hA0 hR0 hA1 hR1 hc1 hf1 hM1
  generalize (w1.setCell ⟨w.heap.size, 1, none⟩ (.slice (some ⟨g, 0, none⟩) n c1)) = W2 at hA2 hR2 hM2 y2 ⊢
  have i1 := Blk.has hA2
  have i2 := Blk.gets hA2
  have i3 := Blk.has hR2
  have i4 := Blk.melts hR2
  go_wp2_with fail
  refine ret_cell Tryz.results156 rfl rfl aggMst (by exact sizeMst) (Blk.put_ hR2 _ _) ⟨_, rfl, g, c1, rfl, ?_, Kept.putAt y2 _ _ _ (fun h => by omega)⟩
  exact (own_mono (hM2.kept (Kept.putAt (S := (· = w.heap.size + 1)) (Kept.refl _ _) _ _ _ (fun _ => rfl)) (by omega)) (by omega))
end Go.Proofs.YtahljceanodhkaaGreatDoor
