/- Several texts joined: Mib. -/
import Derived.Test.YtahljceanodhkaaGreatDoorTtf
/- Package machine: step, operation by operation. -/
namespace Go.Proofs.YtahljceanodhkaaGreatDoor
open Go.RowKit
set_option maxRecDepth 100000 in
set_option maxHeartbeats 2000000 in
theorem st_14 (w : World) (base s g n kc q : Nat) (A : Option Addr) (b off cn cap : Nat) (c : List Ins) (pc : Int) (m : List Int) (h : StepPre w base s g n kc q A b off cn c pc m) (a y : Nat) (z : Int) (ha : a < n) (hy : y < n) (hnx : nextI c pc n = some ⟨14, a, y, z⟩) (hright : rightI ⟨14, a, y, z⟩ cn n = true) :
    Calls Tryz.prog 158 #[.pointer (some ⟨s, 0, none⟩), .slice A cn cap, .map (some q)] w fun e w' => e = .returned (.tuple #[]) ∧ Stepped w w' base s g n kc (execI ⟨14, a, y, z⟩ pc m) := by
  obtain ⟨hn, hn1, hn2, hmok, hops, hst, hmem, hmap, hcA, hrow, hcn, hcn2, hpc0, hpc1, hsg⟩ := h
  have hls := hst.lt
  have hlg := hmem.lt
  have hlq := hmap.lt
  have hgs : ¬ g = s := fun e => hsg e.symm
  have HX := Lib.hid hnx
  have HN := Lib.hid hn
  have HO := Lib.hid hmok
  have HOP := Lib.hid hops
  have HA := Lib.hid hcA
  have HR := Lib.hid hrow
  have HCN := Lib.hid hcn
  have HRT := Lib.hid hright
  clear hnx hn hmok hops hcA hrow hcn hright
  go_enter Tryz.func158, Tryz.ntmps158
  go_wp2_with fail
  refine (next_any s pc 0 (some ⟨g, 0, none⟩) n kc A b off c cn cap _ HCN.out hcn2 hpc0 HA.out HOP.out hst HR.out).mono ?_
  rintro e w1 ⟨e1, hx1⟩
  replace e1 : e = .returned (.tuple #[.agg (Ins.cells ⟨14, a, y, z⟩), .bool true]) := by rw [e1, HX.out]; rfl
  subst e1
  have hI1 := Blk.new w1 41 (Ins.cells ⟨14, a, y, z⟩)
  have x1 := hx1.alloc (.cells (Ins.cells ⟨14, a, y, z⟩) 41)
  have hS1 := Blk.ext hst x1
  have hM1 := hmem.ext x1
  have hQ1 := hmap.ext x1
  have l1 := hx1.size
  clear hst hmem hmap hx1
  go_upto_region 3 with (fail)
  generalize (w1.alloc (.cells (Ins.cells ⟨14, a, y, z⟩) 41)) = W1 at hI1 x1 hS1 hM1 hQ1 ⊢
  generalize w1.heap.size = ic at hI1 l1 ⊢
  have hi1 := Blk.has hI1
  have hj1 := Blk.gets hI1
  go_wp2_with fail
  refine (far_any ⟨14, a, y, z⟩ cn s pc 0 g 0 n kc m _ HN.out hn2 HRT.out HO.out hS1 hM1.row).mono ?_
  rintro e w2 ⟨e2, hx2⟩
  replace e2 : e = .returned (.int .i64 (-1)) := by rw [e2]; rfl
  subst e2
  have x2 := x1.trans hx2
  have hI2 := Blk.ext hI1 hx2
  have hS2 := Blk.ext hS1 hx2
  have hM2 := hM1.ext hx2
  have hQ2 := hQ1.ext hx2
  clear hI1 hS1 hM1 hQ1 x1 hx2 hi1 hj1
  have hcI := Blk.cell hI2
  have hcS := Blk.cell hS2
  have hfS := Blk.frozen hS2
  have lI := hI2.lt
  have lS := hS2.lt
  have lG := hM2.lt
  have hal : a < m.length := by have := HN.out; omega
  have haI : (a : Int) < n := by omega
  have hyl : y < m.length := by have := HN.out; omega
  have hyI : (y : Int) < n := by omega
  have hcM := hM2.cell a hal
  have hfM := hM2.frozen
  obtain ⟨v, hv⟩ : ∃ v, v = m[y] := ⟨_, rfl⟩
  have Hvr : Hid (i32ok v) := Lib.hid (by rw [hv]; exact HO.out _ (List.getElem_mem hyl))
  have HE : Hid (execI ⟨14, a, y, z⟩ pc m = (pc + 1, 0, m.set a (truthI (v == 0)))) := Lib.hid (by simp [execI, mput, mget_in hyl, hv])
  have HV := Lib.hid hv
  clear hv
  go_upto_region 17 with (fail)
  refine wp_region_3 (fun w3 => Ext w2 w3) [(0, 2), (1, 2), (2, 1), (3, 2), (4, 2), (5, 1), (6, 2), (7, 1), (8, 2), (9, 0), (10, 2), (11, 0)] (by kernel_rfl) (by kernel_rfl) (by kernel_rfl) (by kernel_rfl) ?_; intro l' hl'; simp only [List.map_cons, List.map_nil, List.getD_cons_zero, List.getD_cons_succ] at hl'; subst hl'
  (repeat (first | ((apply w3_pure); (· go_simp); (· (intro w1; go_simp; try with_reducible rfl)); (intro K hK; go_simp; refine hK _ _ ?_; clear hK K)) | ((apply w3_skip); (· go_simp); (intro K hK; go_simp; refine hK _ _ ?_; clear hK K)) | ((apply w3_take); (· exact (Kept.drew (Kept.refl _ _))); (· go_simp); (· (intro w1 hS; have d1 := Blk.cell (Blk.ext hI2 hS); have d2 := (hM2.ext hS).cell y hyl; rw [← HV.out] at d2;  go_simp; try with_reducible rfl)); (intro K hK; go_simp; refine hK _ _ ?_; clear hK K)) | ((apply w3_pass); (· exact (Kept.drew (Kept.refl _ _))); (· go_simp); (intro K hK; go_simp; refine hK _ _ ?_; clear hK K))))
  (refine w3_act (fun K hK => ?_); go_simp)
  go_wp2_with fail
  refine (truth_any _ _).mono ?_
  rintro e w3 ⟨rfl, rfl⟩
  refine hK.out _ _ (fun h => h) ?_
  clear hK K
  (repeat (first | ((apply w3_pure); (· go_simp); (· (intro w1; go_simp; try with_reducible rfl)); (intro K hK; go_simp; refine hK _ _ ?_; clear hK K)) | ((apply w3_skip); (· go_simp); (intro K hK; go_simp; refine hK _ _ ?_; clear hK K)) | (refine w3_end (by kernel_rfl) (fun K hK => ?_); go_simp; refine hK.out _ _ ?_; clear hK K))); refine w3_nil ?_
  have hS3 : StAt (w2.setCell ⟨g, a, none⟩ (.int .i32 (truthI (v == 0)))).drew s 70 pc (some ⟨g, 0, none⟩) n kc 0 := Blk.far hS2 (p := ⟨g, a, none⟩) hsg (.int .i32 (truthI (v == 0)))
  have hM3 : MemAt (w2.setCell ⟨g, a, none⟩ (.int .i32 (truthI (v == 0)))).drew base g n kc (m.set a (truthI (v == 0))) := (hM2.set a hal (truthI (v == 0))).ext ((Kept.refl _ _).drew)
  have hk3 : Kept (fun i => i = s ∨ i = g) w (w2.setCell ⟨g, a, none⟩ (.int .i32 (truthI (v == 0)))).drew := (Kept.setCell (Kept.ext x2) _ _ (fun _ => .inr rfl)).drew
  generalize (w2.setCell ⟨g, a, none⟩ (.int .i32 (truthI (v == 0)))).drew = W3 at hS3 hM3 hk3 ⊢
  have hcS3 := Blk.cell hS3
  have hfS3 := Blk.frozen hS3
  go_wp2_with fail
  go_end0
  refine ⟨rfl, ?_⟩
  rw [HE.out]
  exact Stepped.goal hk3 hS3 hM3 hsg _
set_option maxRecDepth 100000 in
set_option maxHeartbeats 2000000 in
theorem st_15 (w : World) (base s g n kc q : Nat) (A : Option Addr) (b off cn cap : Nat) (c : List Ins) (pc : Int) (m : List Int) (h : StepPre w base s g n kc q A b off cn c pc m) (a y z p : Nat) (ha : a < n) (hp : p < n) (hfar : farI ⟨15, a, y, z⟩ m = (p : Int)) (hnx : nextI c pc n = some ⟨15, a, y, z⟩) (hright : rightI ⟨15, a, y, z⟩ cn n = true) :
    Calls Tryz.prog 158 #[.pointer (some ⟨s, 0, none⟩), .slice A cn cap, .map (some q)] w fun e w' => e = .returned (.tuple #[]) ∧ Stepped w w' base s g n kc (execI ⟨15, a, y, z⟩ pc m) := by
  obtain ⟨hn, hn1, hn2, hmok, hops, hst, hmem, hmap, hcA, hrow, hcn, hcn2, hpc0, hpc1, hsg⟩ := h
  have hls := hst.lt
  have hlg := hmem.lt
  have hlq := hmap.lt
  have hgs : ¬ g = s := fun e => hsg e.symm
  have HX := Lib.hid hnx
  have HN := Lib.hid hn
  have HO := Lib.hid hmok
  have HOP := Lib.hid hops
  have HA := Lib.hid hcA
  have HR := Lib.hid hrow
  have HCN := Lib.hid hcn
  have HRT := Lib.hid hright
  have HF := Lib.hid hfar
  clear hfar
  clear hnx hn hmok hops hcA hrow hcn hright
  go_enter Tryz.func158, Tryz.ntmps158
  go_wp2_with fail
  refine (next_any s pc 0 (some ⟨g, 0, none⟩) n kc A b off c cn cap _ HCN.out hcn2 hpc0 HA.out HOP.out hst HR.out).mono ?_
  rintro e w1 ⟨e1, hx1⟩
  replace e1 : e = .returned (.tuple #[.agg (Ins.cells ⟨15, a, y, z⟩), .bool true]) := by rw [e1, HX.out]; rfl
  subst e1
  have hI1 := Blk.new w1 41 (Ins.cells ⟨15, a, y, z⟩)
  have x1 := hx1.alloc (.cells (Ins.cells ⟨15, a, y, z⟩) 41)
  have hS1 := Blk.ext hst x1
  have hM1 := hmem.ext x1
  have hQ1 := hmap.ext x1
  have l1 := hx1.size
  clear hst hmem hmap hx1
  go_upto_region 3 with (fail)
  generalize (w1.alloc (.cells (Ins.cells ⟨15, a, y, z⟩) 41)) = W1 at hI1 x1 hS1 hM1 hQ1 ⊢
  generalize w1.heap.size = ic at hI1 l1 ⊢
  have hi1 := Blk.has hI1
  have hj1 := Blk.gets hI1
  go_wp2_with fail
  refine (far_any ⟨15, a, y, z⟩ cn s pc 0 g 0 n kc m _ HN.out hn2 HRT.out HO.out hS1 hM1.row).mono ?_
  rintro e w2 ⟨e2, hx2⟩
  replace e2 : e = .returned (.int .i64 (p)) := by rw [e2]; rw [HF.out]
  subst e2
  have x2 := x1.trans hx2
  have hI2 := Blk.ext hI1 hx2
  have hS2 := Blk.ext hS1 hx2
  have hM2 := hM1.ext hx2
  have hQ2 := hQ1.ext hx2
  clear hI1 hS1 hM1 hQ1 x1 hx2 hi1 hj1
  have hcI := Blk.cell hI2
  have hcS := Blk.cell hS2
  have hfS := Blk.frozen hS2
  have lI := hI2.lt
  have lS := hS2.lt
  have lG := hM2.lt
  have hal : a < m.length := by have := HN.out; omega
  have haI : (a : Int) < n := by omega
  have hpl : p < m.length := by have := HN.out; omega
  have hpI : (p : Int) < n := by omega
  have hcM := hM2.cell a hal
  have hfM := hM2.frozen
  obtain ⟨v, hv⟩ : ∃ v, v = m[p] := ⟨_, rfl⟩
  have Hvr : Hid (i32ok v) := Lib.hid (by rw [hv]; exact HO.out _ (List.getElem_mem hpl))
  have HE : Hid (execI ⟨15, a, y, z⟩ pc m = (pc + 1, 0, m.set a v)) := Lib.hid (by simp [execI, mput, HF.out, mget_in hpl, hv])
  have HV := Lib.hid hv
  clear hv
  go_upto_region 19 with (fail)
  refine wp_region_3 (fun w3 => Ext w2 w3) [(0, 2), (1, 2), (2, 1), (3, 2), (4, 2), (5, 2), (6, 1), (7, 2), (8, 0)] (by kernel_rfl) (by kernel_rfl) (by kernel_rfl) (by kernel_rfl) ?_; intro l' hl'; simp only [List.map_cons, List.map_nil, List.getD_cons_zero, List.getD_cons_succ] at hl'; subst hl'
  (repeat (first | ((apply w3_pure); (· go_simp); (· (intro w1; go_simp; try with_reducible rfl)); (intro K hK; go_simp; refine hK _ _ ?_; clear hK K)) | ((apply w3_skip); (· go_simp); (intro K hK; go_simp; refine hK _ _ ?_; clear hK K)) | ((apply w3_take); (· exact (Kept.drew (Kept.refl _ _))); (· go_simp); (· (intro w1 hS; have d1 := Blk.cell (Blk.ext hI2 hS); have d2 := (hM2.ext hS).cell p hpl; rw [← HV.out] at d2;  go_simp; try with_reducible rfl)); (intro K hK; go_simp; refine hK _ _ ?_; clear hK K)) | ((apply w3_pass); (· exact (Kept.drew (Kept.refl _ _))); (· go_simp); (intro K hK; go_simp; refine hK _ _ ?_; clear hK K))))
  (repeat (first | ((apply w3_pure); (· go_simp); (· (intro w1; go_simp; try with_reducible rfl)); (intro K hK; go_simp; refine hK _ _ ?_; clear hK K)) | ((apply w3_skip); (· go_simp); (intro K hK; go_simp; refine hK _ _ ?_; clear hK K)) | (refine w3_end (by kernel_rfl) (fun K hK => ?_); go_simp; refine hK.out _ _ ?_; clear hK K))); refine w3_nil ?_
  have hS3 : StAt (w2.setCell ⟨g, a, none⟩ (.int .i32 (v))).drew s 70 pc (some ⟨g, 0, none⟩) n kc 0 := Blk.far hS2 (p := ⟨g, a, none⟩) hsg (.int .i32 (v))
  have hM3 : MemAt (w2.setCell ⟨g, a, none⟩ (.int .i32 (v))).drew base g n kc (m.set a (v)) := (hM2.set a hal (v)).ext ((Kept.refl _ _).drew)
  have hk3 : Kept (fun i => i = s ∨ i = g) w (w2.setCell ⟨g, a, none⟩ (.int .i32 (v))).drew := (Kept.setCell (Kept.ext x2) _ _ (fun _ => .inr rfl)).drew
  generalize (w2.setCell ⟨g, a, none⟩ (.int .i32 (v))).drew = W3 at hS3 hM3 hk3 ⊢
  have hcS3 := Blk.cell hS3
  have hfS3 := Blk.frozen hS3
  go_wp2_with fail
  go_end0
  refine ⟨rfl, ?_⟩
  rw [HE.out]
  exact Stepped.goal hk3 hS3 hM3 hsg _
set_option maxRecDepth 100000 in
set_option maxHeartbeats 2000000 in
theorem st_16 (w : World) (base s g n kc q : Nat) (A : Option Addr) (b off cn cap : Nat) (c : List Ins) (pc : Int) (m : List Int) (h : StepPre w base s g n kc q A b off cn c pc m) (x y z a : Nat) (ha : a < n) (hz : z < n) (hfar : farI ⟨16, x, y, z⟩ m = (a : Int)) (hnx : nextI c pc n = some ⟨16, x, y, z⟩) (hright : rightI ⟨16, x, y, z⟩ cn n = true) :
    Calls Tryz.prog 158 #[.pointer (some ⟨s, 0, none⟩), .slice A cn cap, .map (some q)] w fun e w' => e = .returned (.tuple #[]) ∧ Stepped w w' base s g n kc (execI ⟨16, x, y, z⟩ pc m) := by
  obtain ⟨hn, hn1, hn2, hmok, hops, hst, hmem, hmap, hcA, hrow, hcn, hcn2, hpc0, hpc1, hsg⟩ := h
  have hls := hst.lt
  have hlg := hmem.lt
  have hlq := hmap.lt
  have hgs : ¬ g = s := fun e => hsg e.symm
  have HX := Lib.hid hnx
  have HN := Lib.hid hn
  have HO := Lib.hid hmok
  have HOP := Lib.hid hops
  have HA := Lib.hid hcA
  have HR := Lib.hid hrow
  have HCN := Lib.hid hcn
  have HRT := Lib.hid hright
  have HF := Lib.hid hfar
  clear hfar
  clear hnx hn hmok hops hcA hrow hcn hright
  go_enter Tryz.func158, Tryz.ntmps158
  go_wp2_with fail
  refine (next_any s pc 0 (some ⟨g, 0, none⟩) n kc A b off c cn cap _ HCN.out hcn2 hpc0 HA.out HOP.out hst HR.out).mono ?_
  rintro e w1 ⟨e1, hx1⟩
  replace e1 : e = .returned (.tuple #[.agg (Ins.cells ⟨16, x, y, z⟩), .bool true]) := by rw [e1, HX.out]; rfl
  subst e1
  have hI1 := Blk.new w1 41 (Ins.cells ⟨16, x, y, z⟩)
  have x1 := hx1.alloc (.cells (Ins.cells ⟨16, x, y, z⟩) 41)
  have hS1 := Blk.ext hst x1
  have hM1 := hmem.ext x1
  have hQ1 := hmap.ext x1
  have l1 := hx1.size
  clear hst hmem hmap hx1
  go_upto_region 3 with (fail)
  generalize (w1.alloc (.cells (Ins.cells ⟨16, x, y, z⟩) 41)) = W1 at hI1 x1 hS1 hM1 hQ1 ⊢
  generalize w1.heap.size = ic at hI1 l1 ⊢
  have hi1 := Blk.has hI1
  have hj1 := Blk.gets hI1
  go_wp2_with fail
  refine (far_any ⟨16, x, y, z⟩ cn s pc 0 g 0 n kc m _ HN.out hn2 HRT.out HO.out hS1 hM1.row).mono ?_
  rintro e w2 ⟨e2, hx2⟩
  replace e2 : e = .returned (.int .i64 (a)) := by rw [e2]; rw [HF.out]
  subst e2
  have x2 := x1.trans hx2
  have hI2 := Blk.ext hI1 hx2
  have hS2 := Blk.ext hS1 hx2
  have hM2 := hM1.ext hx2
  have hQ2 := hQ1.ext hx2
  clear hI1 hS1 hM1 hQ1 x1 hx2 hi1 hj1
  have hcI := Blk.cell hI2
  have hcS := Blk.cell hS2
  have hfS := Blk.frozen hS2
  have lI := hI2.lt
  have lS := hS2.lt
  have lG := hM2.lt
  have hal : a < m.length := by have := HN.out; omega
  have haI : (a : Int) < n := by omega
  have hzl : z < m.length := by have := HN.out; omega
  have hzI : (z : Int) < n := by omega
  have hcM := hM2.cell a hal
  have hfM := hM2.frozen
  obtain ⟨v, hv⟩ : ∃ v, v = m[z] := ⟨_, rfl⟩
  have Hvr : Hid (i32ok v) := Lib.hid (by rw [hv]; exact HO.out _ (List.getElem_mem hzl))
  have HE : Hid (execI ⟨16, x, y, z⟩ pc m = (pc + 1, 0, m.set a v)) := Lib.hid (by simp [execI, mput, HF.out, mget_in hzl, hv])
  have hcZ := hM2.cell z hzl
  rw [← hv] at hcZ
  have HV := Lib.hid hv
  clear hv
  go_upto_region 32 with (fail)
  have hS3 := Blk.far hS2 (p := ⟨g, a, none⟩) hsg (.int .i32 (v))
  have hM3 := hM2.set a hal (v)
  have hk3 : Kept (fun i => i = s ∨ i = g) w (w2.setCell ⟨g, a, none⟩ (.int .i32 (v))) := Kept.setCell (Kept.ext x2) _ _ (fun _ => .inr rfl)
  generalize w2.setCell ⟨g, a, none⟩ (.int .i32 v) = W3 at hS3 hM3 hk3 ⊢
  have hcS3 := Blk.cell hS3
  have hfS3 := Blk.frozen hS3
  go_wp2_with fail
  go_end0
  refine ⟨rfl, ?_⟩
  rw [HE.out]
  exact Stepped.goal hk3 hS3 hM3 hsg _
end Go.Proofs.YtahljceanodhkaaGreatDoor
