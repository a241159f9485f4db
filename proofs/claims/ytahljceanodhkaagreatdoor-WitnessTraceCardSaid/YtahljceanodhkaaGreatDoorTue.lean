/- Several texts joined: Mj, Mk, Ml, Tg, Th, Ti, Mm, Mn, Mo, Wi, Wj. -/
import Derived.Test.YtahljceanodhkaaGreatDoorShelg
import Derived.Sort.OwnSortedInts
import Derived.Lib.OthersKept
import Derived.Test.YtahljceanodhkaaGreatDoorTtf
import Derived.Test.YtahljceanodhkaaGreatDoorTuv
import Derived.Test.YtahljceanodhkaaGreatDoorTuw
import Derived.Test.YtahljceanodhkaaGreatDoorTua
import Derived.Test.YtahljceanodhkaaGreatDoorTub
import Derived.Test.YtahljceanodhkaaGreatDoorTuc
import Derived.Test.YtahljceanodhkaaGreatDoorTud
/- Package machine: step, whatever the instruction. -/
namespace Go.Proofs.YtahljceanodhkaaGreatDoor
open Go.RowKit
set_option maxRecDepth 100000 in
set_option maxHeartbeats 2000000 in
theorem st_none (w : World) (base s g n kc q : Nat) (A : Option Addr) (b off cn cap : Nat) (c : List Ins) (pc : Int) (m : List Int) (h : StepPre w base s g n kc q A b off cn c pc m) (hnx : nextI c pc n = none) :
    Calls Tryz.prog 158 #[.pointer (some ⟨s, 0, none⟩), .slice A cn cap, .map (some q)] w fun e w' => e = .returned (.tuple #[]) ∧ Stepped w w' base s g n kc (pc, 2, m) := by
  obtain ⟨hn, hn1, hn2, hmok, hops, hst, hmem, hmap, hcA, hrow, hcn, hcn2, hpc0, hpc1, hsg⟩ := h
  have hls := hst.lt
  have HX := Lib.hid hnx
  have HOP := Lib.hid hops
  have HA := Lib.hid hcA
  have HR := Lib.hid hrow
  have HCN := Lib.hid hcn
  clear hnx hn hmok hops hcA hrow hcn hmap
  go_enter Tryz.func158, Tryz.ntmps158
  go_wp2_with fail
  refine (next_any s pc 0 (some ⟨g, 0, none⟩) n kc A b off c cn cap _ HCN.out hcn2 hpc0 HA.out HOP.out hst HR.out).mono ?_
  rintro e w1 ⟨e1, hx1⟩
  replace e1 : e = .returned (.tuple #[.agg (Ins.cells ⟨0, 0, 0, 0⟩), .bool false]) := by rw [e1, HX.out]; rfl
  subst e1
  have x1 := hx1.alloc (.cells (Ins.cells ⟨0, 0, 0, 0⟩) 41)
  have hS1 := Blk.ext hst x1
  have hM1 := hmem.ext x1
  have l1 := hx1.size
  clear hst hmem hx1
  go_upto_region 1 with (fail)
  generalize (w1.alloc (.cells (Ins.cells ⟨0, 0, 0, 0⟩) 41)) = W1 at x1 hS1 hM1 ⊢
  have hcS := Blk.cell hS1
  have hfS := Blk.frozen hS1
  go_wp2_with fail
  refine results_none' Tryz.results158 rfl ⟨rfl, ?_⟩
  exact Stepped.halt (Kept.ext x1) hS1 hM1 hsg _
set_option maxRecDepth 100000 in
set_option maxHeartbeats 2000000 in
theorem st_lost15 (w : World) (base s g n kc q : Nat) (A : Option Addr) (b off cn cap : Nat) (c : List Ins) (pc : Int) (m : List Int) (h : StepPre w base s g n kc q A b off cn c pc m) (x y z : Int) (hnx : nextI c pc n = some ⟨15, x, y, z⟩) (hright : rightI ⟨15, x, y, z⟩ cn n = true) (hfar : farI ⟨15, x, y, z⟩ m < 0) :
    Calls Tryz.prog 158 #[.pointer (some ⟨s, 0, none⟩), .slice A cn cap, .map (some q)] w fun e w' => e = .returned (.tuple #[]) ∧ Stepped w w' base s g n kc (pc, 2, m) := by
  obtain ⟨hn, hn1, hn2, hmok, hops, hst, hmem, hmap, hcA, hrow, hcn, hcn2, hpc0, hpc1, hsg⟩ := h
  have hls := hst.lt
  obtain ⟨F, hF⟩ : ∃ F, F = farI ⟨15, x, y, z⟩ m := ⟨_, rfl⟩
  rw [← hF] at hfar
  have HF := Lib.hid hF
  have HX := Lib.hid hnx
  have HN := Lib.hid hn
  have HO := Lib.hid hmok
  have HOP := Lib.hid hops
  have HA := Lib.hid hcA
  have HR := Lib.hid hrow
  have HCN := Lib.hid hcn
  have HRT := Lib.hid hright
  clear hnx hn hmok hops hcA hrow hcn hmap hright hF
  go_enter Tryz.func158, Tryz.ntmps158
  go_wp2_with fail
  refine (next_any s pc 0 (some ⟨g, 0, none⟩) n kc A b off c cn cap _ HCN.out hcn2 hpc0 HA.out HOP.out hst HR.out).mono ?_
  rintro e w1 ⟨e1, hx1⟩
  replace e1 : e = .returned (.tuple #[.agg (Ins.cells ⟨15, x, y, z⟩), .bool true]) := by rw [e1, HX.out]; rfl
  subst e1
  have hI1 := Blk.new w1 41 (Ins.cells ⟨15, x, y, z⟩)
  have x1 := hx1.alloc (.cells (Ins.cells ⟨15, x, y, z⟩) 41)
  have hS1 := Blk.ext hst x1
  have hM1 := hmem.ext x1
  have l1 := hx1.size
  clear hst hmem hx1
  go_upto_region 3 with (fail)
  generalize (w1.alloc (.cells (Ins.cells ⟨15, x, y, z⟩) 41)) = W1 at hI1 x1 hS1 hM1 ⊢
  generalize w1.heap.size = ic at hI1 l1 ⊢
  have hi1 := Blk.has hI1
  have hj1 := Blk.gets hI1
  go_wp2_with fail
  refine (far_any ⟨15, x, y, z⟩ cn s pc 0 g 0 n kc m _ HN.out hn2 HRT.out HO.out hS1 hM1.row).mono ?_
  rintro e w2 ⟨e2, hx2⟩
  replace e2 : e = .returned (.int .i64 F) := by rw [e2, HF.out]
  subst e2
  have x2 := x1.trans hx2
  have hI2 := Blk.ext hI1 hx2
  have hS2 := Blk.ext hS1 hx2
  have hM2 := hM1.ext hx2
  clear hI1 hS1 hM1 x1 hx2 hi1 hj1
  have hcI := Blk.cell hI2
  have hcS := Blk.cell hS2
  have hfS := Blk.frozen hS2
  have lI := hI2.lt
  have lS := hS2.lt
  go_wp2_with fail
  refine results_none' Tryz.results158 rfl ⟨rfl, ?_⟩
  exact Stepped.halt (Kept.ext x2) hS2 hM2 hsg _
set_option maxRecDepth 100000 in
set_option maxHeartbeats 2000000 in
theorem st_lost16 (w : World) (base s g n kc q : Nat) (A : Option Addr) (b off cn cap : Nat) (c : List Ins) (pc : Int) (m : List Int) (h : StepPre w base s g n kc q A b off cn c pc m) (x y z : Int) (hnx : nextI c pc n = some ⟨16, x, y, z⟩) (hright : rightI ⟨16, x, y, z⟩ cn n = true) (hfar : farI ⟨16, x, y, z⟩ m < 0) :
    Calls Tryz.prog 158 #[.pointer (some ⟨s, 0, none⟩), .slice A cn cap, .map (some q)] w fun e w' => e = .returned (.tuple #[]) ∧ Stepped w w' base s g n kc (pc, 2, m) := by
  obtain ⟨hn, hn1, hn2, hmok, hops, hst, hmem, hmap, hcA, hrow, hcn, hcn2, hpc0, hpc1, hsg⟩ := h
  have hls := hst.lt
  obtain ⟨F, hF⟩ : ∃ F, F = farI ⟨16, x, y, z⟩ m := ⟨_, rfl⟩
  rw [← hF] at hfar
  have HF := Lib.hid hF
  have HX := Lib.hid hnx
  have HN := Lib.hid hn
  have HO := Lib.hid hmok
  have HOP := Lib.hid hops
  have HA := Lib.hid hcA
  have HR := Lib.hid hrow
  have HCN := Lib.hid hcn
  have HRT := Lib.hid hright
  clear hnx hn hmok hops hcA hrow hcn hmap hright hF
  go_enter Tryz.func158, Tryz.ntmps158
  go_wp2_with fail
  refine (next_any s pc 0 (some ⟨g, 0, none⟩) n kc A b off c cn cap _ HCN.out hcn2 hpc0 HA.out HOP.out hst HR.out).mono ?_
  rintro e w1 ⟨e1, hx1⟩
  replace e1 : e = .returned (.tuple #[.agg (Ins.cells ⟨16, x, y, z⟩), .bool true]) := by rw [e1, HX.out]; rfl
  subst e1
  have hI1 := Blk.new w1 41 (Ins.cells ⟨16, x, y, z⟩)
  have x1 := hx1.alloc (.cells (Ins.cells ⟨16, x, y, z⟩) 41)
  have hS1 := Blk.ext hst x1
  have hM1 := hmem.ext x1
  have l1 := hx1.size
  clear hst hmem hx1
  go_upto_region 3 with (fail)
  generalize (w1.alloc (.cells (Ins.cells ⟨16, x, y, z⟩) 41)) = W1 at hI1 x1 hS1 hM1 ⊢
  generalize w1.heap.size = ic at hI1 l1 ⊢
  have hi1 := Blk.has hI1
  have hj1 := Blk.gets hI1
  go_wp2_with fail
  refine (far_any ⟨16, x, y, z⟩ cn s pc 0 g 0 n kc m _ HN.out hn2 HRT.out HO.out hS1 hM1.row).mono ?_
  rintro e w2 ⟨e2, hx2⟩
  replace e2 : e = .returned (.int .i64 F) := by rw [e2, HF.out]
  subst e2
  have x2 := x1.trans hx2
  have hI2 := Blk.ext hI1 hx2
  have hS2 := Blk.ext hS1 hx2
  have hM2 := hM1.ext hx2
  clear hI1 hS1 hM1 x1 hx2 hi1 hj1
  have hcI := Blk.cell hI2
  have hcS := Blk.cell hS2
  have hfS := Blk.frozen hS2
  have lI := hI2.lt
  have lS := hS2.lt
  go_wp2_with fail
  refine results_none' Tryz.results158 rfl ⟨rfl, ?_⟩
  exact Stepped.halt (Kept.ext x2) hS2 hM2 hsg _
theorem nextI_right {c : List Ins} {pc : Int} {k : Nat} {i : Ins} (h : nextI c pc k = some i) : rightI i c.length k = true := by
  unfold nextI at h
  split at h
  · split at h
    · cases h; assumption
    · cases h
  · cases h
theorem farI_bd (i : Ins) (m : List Int) : farI i m < m.length := by
  unfold farI placeI
  split
  · split <;> omega
  · split
    · split <;> omega
    · omega
theorem lost_false {i : Ins} {m : List Int} (h : lost i m = false) (h15 : i.op = 15 ∨ i.op = 16) : 0 ≤ farI i m := by
  unfold lost at h
  rcases h15 with e | e <;> (simp [e] at h; omega)
set_option maxRecDepth 100000 in
theorem step_any (w : World) (base s g n kc q : Nat) (A : Option Addr) (b off cn cap : Nat) (c : List Ins) (pc : Int) (m : List Int) (h : StepPre w base s g n kc q A b off cn c pc m) :
    Calls Tryz.prog 158 #[.pointer (some ⟨s, 0, none⟩), .slice A cn cap, .map (some q)] w fun e w' => e = .returned (.tuple #[]) ∧ Stepped w w' base s g n kc (stepI c pc m) := by
  have hn := h.n_eq
  have hcn := h.cn_eq
  cases hnx : nextI c pc n with
  | none =>
    have e : stepI c pc m = (pc, 2, m) := by unfold stepI; rw [← hn, hnx]
    rw [e]
    exact st_none w base s g n kc q A b off cn cap c pc m h hnx
  | some i =>
    have hr := nextI_right hnx
    rw [← hcn] at hr
    obtain ⟨h0, h22, ha, hb, hc, he⟩ := rightI_parts hr
    cases hl : lost i m with
    | true =>
      have e : stepI c pc m = (pc, 2, m) := by unfold stepI; rw [← hn, hnx]; simp [hl]
      rw [e]
      have hl' := hl
      simp [lost] at hl'
      obtain ⟨op, x, y, z⟩ := i
      simp only at hl'
      rcases hl'.2 with rfl | rfl
      · exact st_lost15 w base s g n kc q A b off cn cap c pc m h x y z hnx hr hl'.1
      · exact st_lost16 w base s g n kc q A b off cn cap c pc m h x y z hnx hr hl'.1
    | false =>
      have e : stepI c pc m = execI i pc m := by unfold stepI; rw [← hn, hnx]; simp [hl]
      rw [e]
      have hfb := farI_bd i m
      have hfl := lost_false hl
      obtain ⟨op, x, y, z⟩ := i
      simp only at h0 h22 ha hb hc
      obtain ⟨k, rfl⟩ : ∃ k : Nat, op = k := ⟨op.toNat, by omega⟩
      have hk : k < 22 := by omega
      clear h0 h22 e hl
      have hall : k = 0 ∨ k = 1 ∨ k = 2 ∨ k = 3 ∨ k = 4 ∨ k = 5 ∨ k = 6 ∨ k = 7 ∨ k = 8 ∨ k = 9 ∨ k = 10 ∨ k = 11 ∨ k = 12 ∨ k = 13 ∨ k = 14 ∨ k = 15 ∨ k = 16 ∨ k = 17 ∨ k = 18 ∨ k = 19 ∨ k = 20 ∨ k = 21 := by omega
      rcases hall with rfl | rfl | rfl | rfl | rfl | rfl | rfl | rfl | rfl | rfl | rfl | rfl | rfl | rfl | rfl | rfl | rfl | rfl | rfl | rfl | rfl | rfl
      · have ha' := okP_n rfl ha
        exact st_0 w base s g n kc q A b off cn cap c pc m h x y z (by simpa [rightE] using he) hnx hr
      · have ha' := okP_w rfl ha
        obtain ⟨x, rfl⟩ : ∃ t : Nat, x = t := ⟨Int.toNat x, by omega⟩
        have hb' := okP_n rfl hb
        exact st_1 w base s g n kc q A b off cn cap c pc m h x y z (by omega) hb'.1 hb'.2 hnx hr
      · have ha' := okP_w rfl ha
        obtain ⟨x, rfl⟩ : ∃ t : Nat, x = t := ⟨Int.toNat x, by omega⟩
        have hb' := okP_w rfl hb
        obtain ⟨y, rfl⟩ : ∃ t : Nat, y = t := ⟨Int.toNat y, by omega⟩
        exact st_2 w base s g n kc q A b off cn cap c pc m h x y z (by omega) (by omega) hnx hr
      · have ha' := okP_w rfl ha
        obtain ⟨x, rfl⟩ : ∃ t : Nat, x = t := ⟨Int.toNat x, by omega⟩
        have hb' := okP_w rfl hb
        obtain ⟨y, rfl⟩ : ∃ t : Nat, y = t := ⟨Int.toNat y, by omega⟩
        have hc' := okP_w rfl hc
        obtain ⟨z, rfl⟩ : ∃ t : Nat, z = t := ⟨Int.toNat z, by omega⟩
        exact st_3 w base s g n kc q A b off cn cap c pc m h x y z (by omega) (by omega) (by omega) hnx hr
      · have ha' := okP_w rfl ha
        obtain ⟨x, rfl⟩ : ∃ t : Nat, x = t := ⟨Int.toNat x, by omega⟩
        have hb' := okP_w rfl hb
        obtain ⟨y, rfl⟩ : ∃ t : Nat, y = t := ⟨Int.toNat y, by omega⟩
        have hc' := okP_w rfl hc
        obtain ⟨z, rfl⟩ : ∃ t : Nat, z = t := ⟨Int.toNat z, by omega⟩
        exact st_4 w base s g n kc q A b off cn cap c pc m h x y z (by omega) (by omega) (by omega) hnx hr
      · have ha' := okP_w rfl ha
        obtain ⟨x, rfl⟩ : ∃ t : Nat, x = t := ⟨Int.toNat x, by omega⟩
        have hb' := okP_w rfl hb
        obtain ⟨y, rfl⟩ : ∃ t : Nat, y = t := ⟨Int.toNat y, by omega⟩
        have hc' := okP_w rfl hc
        obtain ⟨z, rfl⟩ : ∃ t : Nat, z = t := ⟨Int.toNat z, by omega⟩
        exact st_5 w base s g n kc q A b off cn cap c pc m h x y z (by omega) (by omega) (by omega) hnx hr
      · have ha' := okP_w rfl ha
        obtain ⟨x, rfl⟩ : ∃ t : Nat, x = t := ⟨Int.toNat x, by omega⟩
        have hb' := okP_w rfl hb
        obtain ⟨y, rfl⟩ : ∃ t : Nat, y = t := ⟨Int.toNat y, by omega⟩
        have hc' := okP_w rfl hc
        obtain ⟨z, rfl⟩ : ∃ t : Nat, z = t := ⟨Int.toNat z, by omega⟩
        exact st_6 w base s g n kc q A b off cn cap c pc m h x y z (by omega) (by omega) (by omega) hnx hr
      · have ha' := okP_w rfl ha
        obtain ⟨x, rfl⟩ : ∃ t : Nat, x = t := ⟨Int.toNat x, by omega⟩
        have hb' := okP_w rfl hb
        obtain ⟨y, rfl⟩ : ∃ t : Nat, y = t := ⟨Int.toNat y, by omega⟩
        have hc' := okP_w rfl hc
        obtain ⟨z, rfl⟩ : ∃ t : Nat, z = t := ⟨Int.toNat z, by omega⟩
        exact st_7 w base s g n kc q A b off cn cap c pc m h x y z (by omega) (by omega) (by omega) hnx hr
      · have ha' := okP_w rfl ha
        obtain ⟨x, rfl⟩ : ∃ t : Nat, x = t := ⟨Int.toNat x, by omega⟩
        have hb' := okP_w rfl hb
        obtain ⟨y, rfl⟩ : ∃ t : Nat, y = t := ⟨Int.toNat y, by omega⟩
        have hc' := okP_w rfl hc
        obtain ⟨z, rfl⟩ : ∃ t : Nat, z = t := ⟨Int.toNat z, by omega⟩
        exact st_8 w base s g n kc q A b off cn cap c pc m h x y z (by omega) (by omega) (by omega) hnx hr
      · have ha' := okP_w rfl ha
        obtain ⟨x, rfl⟩ : ∃ t : Nat, x = t := ⟨Int.toNat x, by omega⟩
        have hb' := okP_w rfl hb
        obtain ⟨y, rfl⟩ : ∃ t : Nat, y = t := ⟨Int.toNat y, by omega⟩
        have hc' := okP_w rfl hc
        obtain ⟨z, rfl⟩ : ∃ t : Nat, z = t := ⟨Int.toNat z, by omega⟩
        exact st_9 w base s g n kc q A b off cn cap c pc m h x y z (by omega) (by omega) (by omega) hnx hr
      · have ha' := okP_w rfl ha
        obtain ⟨x, rfl⟩ : ∃ t : Nat, x = t := ⟨Int.toNat x, by omega⟩
        have hb' := okP_w rfl hb
        obtain ⟨y, rfl⟩ : ∃ t : Nat, y = t := ⟨Int.toNat y, by omega⟩
        have hc' := okP_w rfl hc
        obtain ⟨z, rfl⟩ : ∃ t : Nat, z = t := ⟨Int.toNat z, by omega⟩
        exact st_10 w base s g n kc q A b off cn cap c pc m h x y z (by omega) (by omega) (by omega) hnx hr
      · have ha' := okP_w rfl ha
        obtain ⟨x, rfl⟩ : ∃ t : Nat, x = t := ⟨Int.toNat x, by omega⟩
        have hb' := okP_w rfl hb
        obtain ⟨y, rfl⟩ : ∃ t : Nat, y = t := ⟨Int.toNat y, by omega⟩
        have hc' := okP_w rfl hc
        obtain ⟨z, rfl⟩ : ∃ t : Nat, z = t := ⟨Int.toNat z, by omega⟩
        exact st_11 w base s g n kc q A b off cn cap c pc m h x y z (by omega) (by omega) (by omega) hnx hr
      · have ha' := okP_w rfl ha
        obtain ⟨x, rfl⟩ : ∃ t : Nat, x = t := ⟨Int.toNat x, by omega⟩
        have hb' := okP_w rfl hb
        obtain ⟨y, rfl⟩ : ∃ t : Nat, y = t := ⟨Int.toNat y, by omega⟩
        have hc' := okP_w rfl hc
        obtain ⟨z, rfl⟩ : ∃ t : Nat, z = t := ⟨Int.toNat z, by omega⟩
        exact st_12 w base s g n kc q A b off cn cap c pc m h x y z (by omega) (by omega) (by omega) hnx hr
      · have ha' := okP_w rfl ha
        obtain ⟨x, rfl⟩ : ∃ t : Nat, x = t := ⟨Int.toNat x, by omega⟩
        have hb' := okP_w rfl hb
        obtain ⟨y, rfl⟩ : ∃ t : Nat, y = t := ⟨Int.toNat y, by omega⟩
        have hc' := okP_w rfl hc
        obtain ⟨z, rfl⟩ : ∃ t : Nat, z = t := ⟨Int.toNat z, by omega⟩
        exact st_13 w base s g n kc q A b off cn cap c pc m h x y z (by omega) (by omega) (by omega) hnx hr
      · have ha' := okP_w rfl ha
        obtain ⟨x, rfl⟩ : ∃ t : Nat, x = t := ⟨Int.toNat x, by omega⟩
        have hb' := okP_w rfl hb
        obtain ⟨y, rfl⟩ : ∃ t : Nat, y = t := ⟨Int.toNat y, by omega⟩
        exact st_14 w base s g n kc q A b off cn cap c pc m h x y z (by omega) (by omega) hnx hr
      · have ha' := okP_w rfl ha
        obtain ⟨x, rfl⟩ : ∃ t : Nat, x = t := ⟨Int.toNat x, by omega⟩
        have hb' := okP_w rfl hb
        obtain ⟨y, rfl⟩ : ∃ t : Nat, y = t := ⟨Int.toNat y, by omega⟩
        have hc' := okP_w rfl hc
        obtain ⟨z, rfl⟩ : ∃ t : Nat, z = t := ⟨Int.toNat z, by omega⟩
        have hf0 := hfl (.inl rfl)
        obtain ⟨p, hp⟩ : ∃ p : Nat, farI ⟨(15 : Nat), x, y, z⟩ m = p := ⟨(farI ⟨(15 : Nat), x, y, z⟩ m).toNat, by omega⟩
        exact st_15 w base s g n kc q A b off cn cap c pc m h x y z p (by omega) (by omega) hp hnx hr
      · have ha' := okP_w rfl ha
        obtain ⟨x, rfl⟩ : ∃ t : Nat, x = t := ⟨Int.toNat x, by omega⟩
        have hb' := okP_w rfl hb
        obtain ⟨y, rfl⟩ : ∃ t : Nat, y = t := ⟨Int.toNat y, by omega⟩
        have hc' := okP_w rfl hc
        obtain ⟨z, rfl⟩ : ∃ t : Nat, z = t := ⟨Int.toNat z, by omega⟩
        have hf0 := hfl (.inr rfl)
        obtain ⟨p, hp⟩ : ∃ p : Nat, farI ⟨(16 : Nat), x, y, z⟩ m = p := ⟨(farI ⟨(16 : Nat), x, y, z⟩ m).toNat, by omega⟩
        exact st_16 w base s g n kc q A b off cn cap c pc m h x y z p (by omega) (by omega) hp hnx hr
      · have ha' := okP_w rfl ha
        obtain ⟨x, rfl⟩ : ∃ t : Nat, x = t := ⟨Int.toNat x, by omega⟩
        have hb' := okP_n rfl hb
        have hc' := okP_n rfl hc
        exact st_17 w base s g n kc q A b off cn cap c pc m h x y z (by omega) hb'.1 hb'.2 hc'.1 hc'.2 hnx hr
      · have ha' := okP_w rfl ha
        obtain ⟨x, rfl⟩ : ∃ t : Nat, x = t := ⟨Int.toNat x, by omega⟩
        have hb' := okP_w rfl hb
        obtain ⟨y, rfl⟩ : ∃ t : Nat, y = t := ⟨Int.toNat y, by omega⟩
        have hc' := okP_n rfl hc
        have hz0 : 0 ≤ z := by simpa [rightE] using he
        exact st_18 w base s g n kc q A b off cn cap c pc m h x y z (by omega) (by omega) hz0 hc'.2 hnx hr
      · have ha' := okP_p rfl ha
        obtain ⟨x, rfl⟩ : ∃ t : Nat, x = t := ⟨Int.toNat x, by omega⟩
        exact st_19 w base s g n kc q A b off cn cap c pc m h x y z hnx hr
      · have ha' := okP_p rfl ha
        obtain ⟨x, rfl⟩ : ∃ t : Nat, x = t := ⟨Int.toNat x, by omega⟩
        have hb' := okP_w rfl hb
        obtain ⟨y, rfl⟩ : ∃ t : Nat, y = t := ⟨Int.toNat y, by omega⟩
        exact st_20 w base s g n kc q A b off cn cap c pc m h x y z (by omega) hnx hr
      · have ha' := okP_p rfl ha
        obtain ⟨x, rfl⟩ : ∃ t : Nat, x = t := ⟨Int.toNat x, by omega⟩
        have hb' := okP_w rfl hb
        obtain ⟨y, rfl⟩ : ∃ t : Nat, y = t := ⟨Int.toNat y, by omega⟩
        exact st_21 w base s g n kc q A b off cn cap c pc m h x y z (by omega) hnx hr
end Go.Proofs.YtahljceanodhkaaGreatDoor

/- Package machine: Clone, Run of one step, Step. -/
namespace Go.Proofs.YtahljceanodhkaaGreatDoor
open Go.RowKit
theorem infoM32 : (Tryz.prog.info? 21).map (fun i => (i.zero, i.size, i.bytes)) = some (some (.int .i32 0), 1, 4) := by kernel_rfl
theorem mems_flatL (l : List Int) : flatL (mems l) = true := by
  induction l with
  | nil => rfl
  | cons d l ih => show flatL (.int .i32 d :: mems l) = true; simpa [flatL, Value.oneCell'] using ih
theorem appM (w : World) (base : Nat) (v : Value) (n : Nat) (xs : List Int) (hown : w.ownsRow base 21 1 v n (mems xs)) (b off m c : Nat) (l : List Int) (hm : m = l.length) (hr : Row w b off (mems l)) (hn : n + m ≤ 100000) (hbase : base ≤ w.heap.size) :
    ∃ v' w', (Builtin.append_ #[59, 59] 59 #[v, .slice (some ⟨b, off, none⟩) m c]).run Tryz.prog w = .ok v' w' ∧ w'.ownsRow base 21 1 v' (n + m) (mems (xs ++ l)) ∧ Kept (fun i => v.ownBlock = some i) w w' := by
  obtain ⟨i, hi, hz, h1, h2⟩ := info_parts infoM32
  have := app_some (P := Tryz.prog) Tryz.underlying59 hi hz h1 h2 (by rfl) (by decide) w base v n (mems xs) hown b off m c (mems l) (by rw [mems_len, hm, Nat.mul_one]) hr (mems_flatL l) (by unfold maxLen; omega) (by omega) hbase
  rw [show mems xs ++ mems l = mems (xs ++ l) by simp [mems]] at this
  exact this
/-- words of its own, one at least -/
def OwnsM (w w' : World) (v : Value) (n : Nat) (m : List Int) : Prop := ∃ g c, v = .slice (some ⟨g, 0, none⟩) n c ∧ MemAt w' w.heap.size g n c m ∧ Ext w w'
theorem ownM_of {w w' : World} {v : Value} {n : Nat} {m : List Int} (h : w'.ownsRow w.heap.size 21 1 v n (mems m)) (hn : 0 < n) (hx : Ext w w') : OwnsM w w' v n m := by
  rcases h.2 with ⟨_, h0⟩ | ⟨g, c, cur, hv, r⟩
  · omega
  · subst hv
    exact ⟨g, c, rfl, h, hx⟩
set_option maxRecDepth 100000 in
set_option maxHeartbeats 1000000 in
theorem mclone_any (b off cap : Nat) (l : List Int) (n : Nat) (hn : n = l.length) (h1 : 1 ≤ n) (h2 : n ≤ 4096) (w : World) (hr : Row w b off (mems l)) :
    Calls Tryz.prog 196 #[.slice (some ⟨b, off, none⟩) n cap] w fun e w' => ∃ v, e = .returned v ∧ OwnsM w w' v n l := by
  obtain ⟨v2, w2, hr2, ho2, hk2⟩ := appM (w.alloc (.cells #[] 21)) _ _ 0 [] (own_new w 21 1) b off n cap l hn (hr.ext ((Kept.refl _ w).alloc _)) (by omega) (by simp)
  have HN := Lib.hid hn
  clear hn
  have heq := fun w => Lib.run_eql_slice_nil (P := Tryz.prog) w 59 21 (some ⟨b, off, none⟩) n cap 0 0 Tryz.underlying59
  simp only [Option.isNone_some] at heq
  go_enter Tryz.func196, Tryz.ntmps196
  go_upto_region 3 with (fail)
  go_step
  iterate 2 (refine wpList_step (fun K hK => ?_); go_simp; (try go_bits); refine hK _ _ ?_; clear hK K)
  refine wpList_app rfl (.tmp 5) (.tmp 6) 59 rfl rfl rfl rfl hr2 ?_
  clear hr2
  go_wp2_with fail
  go_ret
  rw [Nat.zero_add, List.nil_append] at ho2
  exact ⟨_, rfl, ownM_of ho2 h1 (((Kept.refl _ w).alloc _).trans' hk2 (fun i hi e => by simp [Value.ownBlock] at e; omega))⟩
/-- a state of its own -/
def OwnsS (w w' : World) (v : Value) (n : Nat) (pc halt : Int) (m : List Int) : Prop := ∃ g c, v = .agg (stCells pc (some ⟨g, 0, none⟩) n c halt) ∧ MemAt w' w.heap.size g n c m ∧ Ext w w'
set_option maxRecDepth 100000 in
set_option maxHeartbeats 1000000 in
theorem sclone_any (pc halt : Int) (b off cap : Nat) (l : List Int) (n : Nat) (hn : n = l.length) (h1 : 1 ≤ n) (h2 : n ≤ 4096) (w : World) (hr : Row w b off (mems l)) :
    Calls Tryz.prog 156 #[.agg (stCells pc (some ⟨b, off, none⟩) n cap halt)] w fun e w' => ∃ v, e = .returned v ∧ OwnsS w w' v n pc halt l := by
  have HN := Lib.hid hn
  clear hn
  have hx0 : Ext w _ := ((Kept.refl _ w).alloc (.cells (stCells pc (some ⟨b, off, none⟩) n cap halt) 70)).alloc (.cells (stCells 0 none 0 0 0) 70)
  have hA0 : Blk _ w.heap.size 70 (stCells pc (some ⟨b, off, none⟩) n cap halt) := Blk.alloc (Blk.new w _ _) (.cells (stCells 0 none 0 0 0) 70)
  have hR0 : Blk _ (w.heap.size + 1) 70 (stCells 0 none 0 0 0) := Blk.new' (w.alloc (.cells (stCells pc (some ⟨b, off, none⟩) n cap halt) 70)) _ _ _ (by simp)
  have hrow := hr.ext hx0
  have hs0 := hx0.size
  go_enter Tryz.func156, Tryz.ntmps156
  go_wp2_with fail
  refine (mclone_any b off cap l n HN.out h1 h2 _ hrow).mono ?_
  rintro e w1 ⟨v1, rfl, g, c1, rfl, hM1, hx1⟩
  have hA1 := Blk.ext hA0 hx1
  have hR1 := Blk.ext hR0 hx1
  have hc1 := Blk.cell hA1
  have hf1 := Blk.frozen hA1
  have hg1 := hM1.inv.2
  obtain ⟨_, hgb, _⟩ := hg1
  have lA := hA0.lt
  have lR := hR0.lt
  have hA2 : Blk (w1.setCell ⟨w.heap.size, 1, none⟩ (.slice (some ⟨g, 0, none⟩) n c1)) w.heap.size 70 (stCells pc (some ⟨g, 0, none⟩) n c1 halt) := Blk.set_ hA1 1 (.slice (some ⟨g, 0, none⟩) n c1)
  have hR2 := Blk.far hR1 (p := ⟨w.heap.size, 1, none⟩) (show w.heap.size + 1 ≠ w.heap.size by omega) (.slice (some ⟨g, 0, none⟩) n c1)
  have hM2 := hM1.far (p := ⟨w.heap.size, 1, none⟩) (show ¬ g = w.heap.size by omega) (.slice (some ⟨g, 0, none⟩) n c1)
  have y2 : Ext w (w1.setCell ⟨w.heap.size, 1, none⟩ (.slice (some ⟨g, 0, none⟩) n c1)) := Kept.setCell (hx0.trans hx1) ⟨w.heap.size, 1, none⟩ _ (fun h => by have : w.heap.size < w.heap.size := h; omega)
  go_upto_region 2 with (fail)
  clear hA0 hR0 hA1 hR1 hc1 hf1 hM1
  generalize (w1.setCell ⟨w.heap.size, 1, none⟩ (.slice (some ⟨g, 0, none⟩) n c1)) = W2 at hA2 hR2 hM2 y2 ⊢
  have i1 := Blk.has hA2
  have i2 := Blk.gets hA2
  have i3 := Blk.has hR2
  have i4 := Blk.melts hR2
  go_wp2_with fail
  refine ret_cell Tryz.results156 rfl rfl aggMst (by exact sizeMst) (Blk.put_ hR2 _ _) ⟨_, rfl, g, c1, rfl, ?_, Kept.putAt y2 _ _ _ (fun h => by omega)⟩
  exact (own_mono (hM2.kept (Kept.putAt (S := (· = w.heap.size + 1)) (Kept.refl _ _) _ _ _ (fun _ => rfl)) (by omega)) (by omega))
end Go.Proofs.YtahljceanodhkaaGreatDoor

/- Package machine: Run of one step, Step. -/
namespace Go.Proofs.YtahljceanodhkaaGreatDoor
open Go.RowKit
theorem MemAt.ge {w : World} {base g n kc : Nat} {m : List Int} (h : MemAt w base g n kc m) : base ≤ g := by
  obtain ⟨_, _, hb, _⟩ := h.inv
  exact hb
def runI (c : List Ins) (pc halt : Int) (m : List Int) : Int × Int × List Int := if halt = 0 then stepI c pc m else (pc, halt, m)
/-- Three results: a value of many cells, then two in slots. -/
theorem ret_cii {P : Program} {fn : Func} {R : Ending → World → Prop} {a : Act} {w : World} {p j k : Tmp} {ty t : TypeId} {g : Nat} {cs : Array Value}
    (hres : fn.results = #[.cell p ty, .tmp j, .tmp k]) (hd : a.defers = []) (hp : a.tmps.getD p undef = .pointer (some ⟨g, 0, none⟩)) (ha : aggT P ty = true) (hs : sizeT P ty = some cs.size) (hb : Blk w g t cs)
    (hR : R (.returned (.tuple #[.agg cs, a.tmps.getD j undef, a.tmps.getD k undef])) w) : bodyPost P fn R .ret a w := by
  have hp' : a.tmps[p]?.getD undef = .pointer (some ⟨g, 0, none⟩) := by simpa using hp
  exact bodyPost_ret (by simp [results, hres, hp', asAddr, run_loadVar_blk ha hs hb]) hd hR
/-- what Run and Step ask of memory -/
structure RunPre (w : World) (A : Option Addr) (b off cn : Nat) (c : List Ins) (b' off' n : Nat) (pc halt : Int) (m : List Int) : Prop where
  ops : OpsAt w
  cA : 0 < cn → A = some ⟨b, off, none⟩
  row : 0 < cn → Row w b off (inss c)
  cn_eq : cn = c.length
  cn2 : cn ≤ 2048
  n_eq : n = m.length
  right : rightS pc halt n = true
  mok : ∀ x ∈ m, i32ok x
  mrow : Row w b' off' (mems m)
theorem RunPre.ext {w w' : World} {A : Option Addr} {b off cn : Nat} {c : List Ins} {b' off' n : Nat} {pc halt : Int} {m : List Int} (h : RunPre w A b off cn c b' off' n pc halt m) (hx : Ext w w') : RunPre w' A b off cn c b' off' n pc halt m :=
  ⟨h.ops.ext hx, h.cA, fun h0 => (h.row h0).ext hx, h.cn_eq, h.cn2, h.n_eq, h.right, h.mok, h.mrow.ext hx⟩
set_option maxRecDepth 100000 in
set_option maxHeartbeats 2000000 in
theorem run1_any (A : Option Addr) (b off cn cap : Nat) (c : List Ins) (pc halt : Int) (b' off' n cap' : Nat) (m : List Int) (w : World) (h : RunPre w A b off cn c b' off' n pc halt m) :
    Calls Tryz.prog 89 #[.slice A cn cap, .agg (stCells pc (some ⟨b', off', none⟩) n cap' halt), .int .i64 1] w fun e w' => ∃ v k t, e = .returned (.tuple #[v, k, t]) ∧ OwnsS w w' v n (runI c pc halt m).1 (runI c pc halt m).2.1 (runI c pc halt m).2.2 := by
  obtain ⟨hops, hcA, hrow, hcn, hcn2, hn, hg, hmok, hmrow⟩ := h
  obtain ⟨h1, h2, h3, h4, h5, h6⟩ := rightS_inv hg
  have HOP := Lib.hid hops
  have HA := Lib.hid hcA
  have HR := Lib.hid hrow
  have HCN := Lib.hid hcn
  have HN := Lib.hid hn
  have HG := Lib.hid hg
  have HO := Lib.hid hmok
  clear hops hcA hrow hcn hn hg hmok
  have hx0 : Ext w _ := ((Kept.refl _ w).alloc (.cells (stCells pc (some ⟨b', off', none⟩) n cap' halt) 70)).alloc (.cells (stCells 0 none 0 0 0) 70)
  have hA0 : Blk _ w.heap.size 70 (stCells pc (some ⟨b', off', none⟩) n cap' halt) := Blk.alloc (Blk.new w _ _) (.cells (stCells 0 none 0 0 0) 70)
  have hR0 : Blk _ (w.heap.size + 1) 70 (stCells 0 none 0 0 0) := Blk.new' (w.alloc (.cells (stCells pc (some ⟨b', off', none⟩) n cap' halt) 70)) _ _ _ (by simp)
  have hr0 := hmrow.ext hx0
  clear hmrow
  go_enter Tryz.func89, Tryz.ntmps89
  go_wp2_with fail
  refine (sclone_any pc halt b' off' cap' m n HN.out h1 (by omega) _ hr0).mono ?_
  rintro e w1 ⟨v1, rfl, g, kc, rfl, hM1, hx1⟩
  have hA1 := Blk.ext hA0 hx1
  have hR1 := Blk.ext hR0 hx1
  have lA := hA0.lt
  have lR := hR0.lt
  have hgb := hM1.ge
  have hh1 := Blk.has hA1
  have hm1 := Blk.melts hA1
  have hA2 : Blk (putAt w1 w.heap.size 0 (stCells pc (some ⟨g, 0, none⟩) n kc halt)) w.heap.size 70 (stCells pc (some ⟨g, 0, none⟩) n kc halt) := Blk.put_ hA1 _ _
  have hR2 := Blk.putFar hR1 (show w.heap.size + 1 ≠ w.heap.size by omega) 0 (stCells pc (some ⟨g, 0, none⟩) n kc halt)
  have hM2 : MemAt (putAt w1 w.heap.size 0 (stCells pc (some ⟨g, 0, none⟩) n kc halt)) w.heap.size g n kc m := own_mono (hM1.kept (Kept.putAt (S := (· = w.heap.size)) (Kept.refl _ w1) w.heap.size 0 (stCells pc (some ⟨g, 0, none⟩) n kc halt) (fun _ => rfl)) (by omega)) (by omega)
  have y2 : Ext w (putAt w1 w.heap.size 0 (stCells pc (some ⟨g, 0, none⟩) n kc halt)) := Kept.putAt (hx0.trans hx1) _ _ _ (fun h => by omega)
  go_upto_region 2 with (fail)
  clear hA0 hR0 hA1 hR1 hM1 hh1 hm1 hx0 hr0
  generalize (putAt w1 w.heap.size 0 (stCells pc (some ⟨g, 0, none⟩) n kc halt)) = W2 at hA2 hR2 hM2 y2 ⊢
  have i1 := Blk.has hA2
  have i2 := Blk.gets hA2
  go_wp2_with fail
  refine (right_any pc halt (some ⟨g, 0, none⟩) n kc _).mono ?_
  rintro e w3 ⟨rfl, hx3⟩
  rw [HG.out]
  have hA3 := Blk.ext hA2 hx3
  have hR3 := Blk.ext hR2 hx3
  have hM3 := hM2.ext hx3
  have y3 := y2.trans hx3
  clear hA2 hR2 hM2 y2 hx3 i1 i2
  go_wp2_with fail
  refine (twos_any _).mono ?_
  rintro e w4 ⟨rfl, hQ4, hx4⟩
  have hA4 := Blk.ext hA3 hx4
  have hR4 := Blk.ext hR3 hx4
  have hM4 := hM3.ext hx4
  have y4 := y3.trans hx4
  have lg := hM3.lt
  clear hA3 hR3 hM3 y3 hx4
  generalize w3.heap.size = q at hQ4 lg ⊢
  go_wp2_with fail
  have hgS : ¬ w.heap.size = g := by omega
  go_loopw [10] (fun t10 wr => ∃ (k : Nat) (r : Int × Int × List Int), t10 = .int .i64 k ∧ ((k = 0 ∧ r = (pc, halt, m)) ∨ (k = 1 ∧ halt = 0 ∧ r = stepI c pc m)) ∧ StAt wr w.heap.size 70 r.1 (some ⟨g, 0, none⟩) n kc r.2.1 ∧ MemAt wr w.heap.size g n kc r.2.2 ∧ Kept (fun i => i = w.heap.size ∨ i = g) w4 wr) (fun t10 _ => 1 - (intOf t10).toNat)
  case atStart => exact ⟨0, (pc, halt, m), rfl, .inl ⟨rfl, rfl⟩, hA4, hM4, Kept.refl _ _⟩
  case round =>
    obtain ⟨k, r, rfl, hkr, hA, hM, hK4⟩ := hrel
    have hRr := Blk.kept hR4 hK4 (by omega)
    have yr : Ext w wr := y4.trans' hK4 (fun i hi e => by omega)
    by_cases hgo : k = 0 ∧ halt = 0
    · obtain ⟨rfl, hz⟩ := hgo
      have hr0 : r = (pc, halt, m) := by
        rcases hkr with h | h
        · exact h.2
        · omega
      subst hr0
      subst hz
      clear hkr
      have hpre : StepPre wr w.heap.size w.heap.size g n kc q A b off cn c pc m :=
        ⟨HN.out, h1, h2, HO.out, HOP.out.ext yr, hA, hM, hQ4.kept hK4 (by omega), HA.out, fun h0 => (HR.out h0).ext yr, HCN.out, hcn2, h3, h4, hgS⟩
      have HPRE := Lib.hid hpre
      clear hpre
      have hcA := Blk.cell hA
      go_wp2_with fail
      refine (step_any wr w.heap.size w.heap.size g n kc q A b off cn cap c pc m HPRE.out).mono ?_
      rintro e w5 ⟨rfl, hst5⟩
      have HST := Lib.hid hst5
      clear hst5
      go_wp2_with fail
      go_roundw
      case rel => exact ⟨1, _, by go_num, .inr ⟨rfl, trivial, rfl⟩, HST.out.st, HST.out.mem, hK4.trans HST.out.kept⟩
      case measure => simp only [intOf]; omega
    · have hrun : r = runI c pc halt m := by
        unfold runI
        rcases hkr with ⟨h, e⟩ | ⟨h, hz, e⟩
        · rw [if_neg (fun z => hgo ⟨h, z⟩)]; exact e
        · rw [if_pos hz]; exact e
      have hstop : (k : Int) < 1 → (r.2.1 == 0) = false := by
        intro hk
        rcases hkr with ⟨h, e⟩ | ⟨h, hz, e⟩
        · rw [e]; simp; exact fun z => hgo ⟨h, z⟩
        · omega
      have hk01 : k = 0 ∨ k = 1 := by rcases hkr with h | h <;> omega
      obtain ⟨pc', halt', m'⟩ := r
      simp only at hA hM hstop
      have HRUN := Lib.hid hrun
      clear hkr hrun hgo
      have hcA := Blk.cell hA
      have lA := hA.lt
      have lR := hRr.lt
      have hhR := Blk.has hRr
      have hmR := Blk.melts hRr
      rcases hk01 with rfl | rfl
      · have hs0 := hstop (by omega)
        clear hstop
        go_wp2_with fail
        refine wp_region_3 (fun w1 => Kept (· = w.heap.size + 1) wr w1) [(0, 1), (1, 2), (2, 2), (3, 1), (4, 2), (5, 0), (6, 2), (7, 2)] (by kernel_rfl) (by kernel_rfl) (by kernel_rfl) (by kernel_rfl) ?_; intro l' hl'; simp only [List.map_cons, List.map_nil, List.getD_cons_zero, List.getD_cons_succ] at hl'; subst hl'
        (repeat (first | ((apply w3_pure); (· go_simp); (· (intro w1; go_simp; try with_reducible rfl)); (intro K hK; go_simp; refine hK _ _ ?_; clear hK K)) | ((apply w3_skip); (· go_simp); (intro K hK; go_simp; refine hK _ _ ?_; clear hK K)) | ((apply w3_take); (· exact (Kept.drew (Kept.refl _ _))); (· go_simp); (· (intro w1 hS; have d0 := Blk.kept hA hS (show ¬ w.heap.size = w.heap.size + 1 by omega); have d1 := Blk.cell d0; have d2 := Blk.has d0; have d3 := Blk.gets d0;  go_simp; try with_reducible rfl)); (intro K hK; go_simp; refine hK _ _ ?_; clear hK K)) | ((apply w3_pass); (· exact (Kept.drew (Kept.refl _ _))); (· go_simp); (intro K hK; go_simp; refine hK _ _ ?_; clear hK K))))
        (refine w3_act (fun K hK => ?_); go_simp)
        refine hK.out _ _ (fun h => Kept.putAt h _ _ _ (fun _ => rfl)) ?_
        clear hK K
        (repeat (first | ((apply w3_pure); (· go_simp); (· (intro w1; go_simp; try with_reducible rfl)); (intro K hK; go_simp; refine hK _ _ ?_; clear hK K)) | ((apply w3_skip); (· go_simp); (intro K hK; go_simp; refine hK _ _ ?_; clear hK K)) | (refine w3_end (by kernel_rfl) (fun K hK => ?_); go_simp; refine hK.out _ _ ?_; clear hK K))); refine w3_nil ?_
        have hR5 : Blk (putAt wr (w.heap.size + 1) 0 (stCells pc' (some ⟨g, 0, none⟩) n kc halt')).drew (w.heap.size + 1) 70 (stCells pc' (some ⟨g, 0, none⟩) n kc halt') := Blk.put_ hRr _ _
        have y5 : Ext w (putAt wr (w.heap.size + 1) 0 (stCells pc' (some ⟨g, 0, none⟩) n kc halt')).drew := (Kept.putAt yr _ _ _ (fun h => by omega)).drew
        have hM5 : MemAt (putAt wr (w.heap.size + 1) 0 (stCells pc' (some ⟨g, 0, none⟩) n kc halt')).drew w.heap.size g n kc m' := hM.kept ((Kept.putAt (S := (· = w.heap.size + 1)) (Kept.refl _ wr) _ _ _ (fun _ => rfl)).drew) (by omega)
        go_wp2_with fail
        refine ret_cii Tryz.results89 rfl rfl aggMst (by exact sizeMst) hR5 ⟨_, _, _, rfl, g, kc, ?_, ?_, y5⟩
        · rw [← HRUN.out]
        · rw [← HRUN.out]; exact hM5
      · clear hstop
        go_wp2_with fail
        refine wp_region_3 (fun w1 => Kept (· = w.heap.size + 1) wr w1) [(0, 1), (1, 2), (2, 2), (3, 1), (4, 2), (5, 0), (6, 2), (7, 2)] (by kernel_rfl) (by kernel_rfl) (by kernel_rfl) (by kernel_rfl) ?_; intro l' hl'; simp only [List.map_cons, List.map_nil, List.getD_cons_zero, List.getD_cons_succ] at hl'; subst hl'
        (repeat (first | ((apply w3_pure); (· go_simp); (· (intro w1; go_simp; try with_reducible rfl)); (intro K hK; go_simp; refine hK _ _ ?_; clear hK K)) | ((apply w3_skip); (· go_simp); (intro K hK; go_simp; refine hK _ _ ?_; clear hK K)) | ((apply w3_take); (· exact (Kept.drew (Kept.refl _ _))); (· go_simp); (· (intro w1 hS; have d0 := Blk.kept hA hS (show ¬ w.heap.size = w.heap.size + 1 by omega); have d1 := Blk.cell d0; have d2 := Blk.has d0; have d3 := Blk.gets d0;  go_simp; try with_reducible rfl)); (intro K hK; go_simp; refine hK _ _ ?_; clear hK K)) | ((apply w3_pass); (· exact (Kept.drew (Kept.refl _ _))); (· go_simp); (intro K hK; go_simp; refine hK _ _ ?_; clear hK K))))
        (refine w3_act (fun K hK => ?_); go_simp)
        refine hK.out _ _ (fun h => Kept.putAt h _ _ _ (fun _ => rfl)) ?_
        clear hK K
        (repeat (first | ((apply w3_pure); (· go_simp); (· (intro w1; go_simp; try with_reducible rfl)); (intro K hK; go_simp; refine hK _ _ ?_; clear hK K)) | ((apply w3_skip); (· go_simp); (intro K hK; go_simp; refine hK _ _ ?_; clear hK K)) | (refine w3_end (by kernel_rfl) (fun K hK => ?_); go_simp; refine hK.out _ _ ?_; clear hK K))); refine w3_nil ?_
        have hR5 : Blk (putAt wr (w.heap.size + 1) 0 (stCells pc' (some ⟨g, 0, none⟩) n kc halt')).drew (w.heap.size + 1) 70 (stCells pc' (some ⟨g, 0, none⟩) n kc halt') := Blk.put_ hRr _ _
        have y5 : Ext w (putAt wr (w.heap.size + 1) 0 (stCells pc' (some ⟨g, 0, none⟩) n kc halt')).drew := (Kept.putAt yr _ _ _ (fun h => by omega)).drew
        have hM5 : MemAt (putAt wr (w.heap.size + 1) 0 (stCells pc' (some ⟨g, 0, none⟩) n kc halt')).drew w.heap.size g n kc m' := hM.kept ((Kept.putAt (S := (· = w.heap.size + 1)) (Kept.refl _ wr) _ _ _ (fun _ => rfl)).drew) (by omega)
        go_wp2_with fail
        refine ret_cii Tryz.results89 rfl rfl aggMst (by exact sizeMst) hR5 ⟨_, _, _, rfl, g, kc, ?_, ?_, y5⟩
        · rw [← HRUN.out]
        · rw [← HRUN.out]; exact hM5
set_option maxRecDepth 100000 in
set_option maxHeartbeats 2000000 in
theorem mstep_any (A : Option Addr) (b off cn cap : Nat) (c : List Ins) (pc halt : Int) (b' off' n cap' : Nat) (m : List Int) (w : World) (h : RunPre w A b off cn c b' off' n pc halt m) :
    Calls Tryz.prog 43 #[.slice A cn cap, .agg (stCells pc (some ⟨b', off', none⟩) n cap' halt)] w fun e w' => ∃ v, e = .returned v ∧ OwnsS w w' v n (runI c pc halt m).1 (runI c pc halt m).2.1 (runI c pc halt m).2.2 := by
  have HP := Lib.hid h
  clear h
  have hx0 : Ext w _ := ((Kept.refl _ w).alloc (.cells (stCells pc (some ⟨b', off', none⟩) n cap' halt) 70)).alloc (.cells (stCells 0 none 0 0 0) 70)
  have hR0 : Blk _ (w.heap.size + 1) 70 (stCells 0 none 0 0 0) := Blk.new' (w.alloc (.cells (stCells pc (some ⟨b', off', none⟩) n cap' halt) 70)) _ _ _ (by simp)
  obtain ⟨r, hr⟩ : ∃ r, r = runI c pc halt m := ⟨_, rfl⟩
  rw [← hr]
  have HRr := Lib.hid hr
  clear hr
  go_enter Tryz.func43, Tryz.ntmps43
  go_wp2_with fail
  refine (run1_any A b off cn cap c pc halt b' off' n cap' m _ (HP.out.ext hx0)).mono ?_
  rintro e w1 ⟨v1, k1, t1, rfl, hv1⟩
  rw [← HRr.out] at hv1
  obtain ⟨g, kc, rfl, hM1, hx1⟩ := hv1
  obtain ⟨pc', halt', m'⟩ := r
  simp only at hM1
  have hR1 := Blk.alloc (Blk.ext hR0 hx1) (.cells (stCells pc' (some ⟨g, 0, none⟩) n kc halt') 70)
  have hN1 := Blk.new w1 70 (stCells pc' (some ⟨g, 0, none⟩) n kc halt')
  have y1 := (hx0.trans hx1).alloc (.cells (stCells pc' (some ⟨g, 0, none⟩) n kc halt') 70)
  have hM2 := hM1.ext ((Kept.refl _ w1).alloc (.cells (stCells pc' (some ⟨g, 0, none⟩) n kc halt') 70))
  have hge := hM1.ge
  have ls := hx0.size
  simp at hge
  have lR := (Blk.ext hR0 hx1).lt
  clear hR0 hM1 hx1 hx0
  go_upto_region 2 with (fail)
  generalize (w1.alloc (.cells (stCells pc' (some ⟨g, 0, none⟩) n kc halt') 70)) = W1 at hR1 hN1 y1 hM2 ⊢
  generalize w1.heap.size = c1 at hN1 lR ⊢
  have i1 := Blk.has hN1
  have i2 := Blk.gets hN1
  have i3 := Blk.has hR1
  have i4 := Blk.melts hR1
  go_wp2_with fail
  refine ret_cell Tryz.results43 rfl rfl aggMst (by exact sizeMst) (Blk.put_ hR1 _ _) ⟨_, rfl, g, kc, rfl, ?_, Kept.putAt y1 _ _ _ (fun h => by omega)⟩
  exact own_mono (hM2.kept (Kept.putAt (S := (· = w.heap.size + 1)) (Kept.refl _ _) _ _ _ (fun _ => rfl)) (by omega)) (by simp; omega)
end Go.Proofs.YtahljceanodhkaaGreatDoor

/- Package tree: Len, has, Path. -/
namespace Go.Proofs.YtahljceanodhkaaGreatDoor
open Go.RowKit
set_option maxHeartbeats 400000 in
theorem tlen_ok (p n c : Nat) (A : Option Addr) (w : World) (hc : w.cell? ⟨p, 0, none⟩ = some (.slice A n c)) :
    Calls Tryz.prog 187 #[.pointer (some ⟨p, 0, none⟩)] w fun e w' => e = .returned (.int .i64 n) ∧ w = w' := by
  go_enter Tryz.func187, Tryz.ntmps187
  go_wp2_with fail
  go_ret
  exact ⟨rfl, rfl⟩
set_option maxHeartbeats 400000 in
theorem thas_any (p n c : Nat) (A : Option Addr) (i : Int) (w : World) (hc : w.cell? ⟨p, 0, none⟩ = some (.slice A n c)) :
    Calls Tryz.prog 132 #[.pointer (some ⟨p, 0, none⟩), .int .i64 i] w fun e w' => e = .returned (.bool (decide (0 ≤ i) && decide (i < n))) ∧ w = w' := by
  have HC := Lib.hid hc
  clear hc
  by_cases h0 : 0 ≤ i
  · have b0 : decide (0 ≤ i) = true := by simpa using h0
    go_enter Tryz.func132, Tryz.ntmps132
    go_wp2_with fail
    refine (tlen_ok p n c A _ HC.out).mono ?_
    rintro e w1 ⟨rfl, rfl⟩
    go_wp2_with fail
    go_ret
    exact ⟨by first | rfl | (rw [b0]; rfl), rfl⟩
  · have b0 : decide (0 ≤ i) = false := by simpa using h0
    go_enter Tryz.func132, Tryz.ntmps132
    go_wp2_with fail
    go_ret
    exact ⟨by first | rfl | (rw [b0]; rfl), rfl⟩
def sib (x : Nat) : Nat := if x % 2 = 0 then x + 1 else x - 1
theorem sib_lt {x n : Nat} (h : x < 2 * n) : sib x < 2 * n := by
  unfold sib
  split <;> omega
theorem sib_xorF : ∀ a : Fin 65, ∀ b : Fin 64, bits .xor .i64 ((a.val * 64 + b.val : Nat) : Int) 1 = (sib (a.val * 64 + b.val) : Int) := by decide +kernel
theorem sib_xor (x : Nat) (h : x ≤ 4096) : bits .xor .i64 (x : Int) 1 = (sib x : Int) := by
  have := sib_xorF ⟨x / 64, by omega⟩ ⟨x % 64, by omega⟩
  simp only at this
  rwa [show x / 64 * 64 + x % 64 = x by omega] at this
/-- the nodes beside a leaf's way up -/
def pathT (l : List Dg) (H i : Nat) : List Dg := (List.range H).map fun v => nodeT l v (sib (i / 2 ^ v))
theorem pathT_len (l : List Dg) (H i : Nat) : (pathT l H i).length = H := by simp [pathT]
theorem pathT_ok (l : List Dg) (H i : Nat) : ∀ d ∈ pathT l H i, d.ok := by
  intro d hd
  simp [pathT] at hd
  obtain ⟨v, _, rfl⟩ := hd
  exact nodeT_ok l v _
def partP (l : List Dg) (i k : Nat) : List Dg := (List.range k).map fun v => nodeT l v (sib (i / 2 ^ v))
theorem partP_succ (l : List Dg) (i k : Nat) : partP l i (k + 1) = partP l i k ++ [nodeT l k (sib (i / 2 ^ k))] := by simp [partP, List.range_succ]
theorem div_pow_lt {i H k : Nat} (hi : i < 2 ^ H) (hk : k ≤ H) : i / 2 ^ k < 2 ^ (H - k) := by
  apply Nat.div_lt_of_lt_mul
  rw [← Nat.pow_add, Nat.add_sub_cancel' hk]
  exact hi
theorem div_pow_succ (i k : Nat) : i / 2 ^ k / 2 = i / 2 ^ (k + 1) := by rw [Nat.div_div_eq_div_mul, Nat.pow_succ]
/-- a path of its own, and no error -/
def IsPath (w w' : World) (e : Ending) (n : Nat) (l : List Dg) : Prop := ∃ v, e = .returned (.tuple #[v, .int .i64 0]) ∧ w'.ownsRow w.heap.size 30 8 v n (digs l) ∧ Ext w w'
set_option maxRecDepth 100000 in
set_option maxHeartbeats 1000000 in
theorem tpath_ok (base p : Nat) (l : List Dg) (i : Nat) (w : World) (h1 : 1 ≤ l.length) (h2 : l.length ≤ 4096) (hi : i < l.length) (h : TreeOK w base p l) :
    Calls Tryz.prog 75 #[.pointer (some ⟨p, 0, none⟩), .int .i64 i] w fun e w' => IsPath w w' e (hgt l.length) (pathT l (hgt l.length) i) := by
  obtain ⟨cg, cc, f, G, h⟩ := h
  have hb := hgt_bd l.length h1 h2
  have hc := h.blk.cell 0 (by omega)
  rw [h.f0] at hc
  obtain ⟨H, hH⟩ : ∃ H, H = hgt l.length := ⟨_, rfl⟩
  rw [← hH] at hb h ⊢
  obtain ⟨n, hn⟩ : ∃ n, n = l.length := ⟨_, rfl⟩
  rw [← hn] at hc h1 h2 hi hb hH
  obtain ⟨hH12, hnH⟩ := hb
  have HP : Hid (i < 2 ^ H) := Lib.hid (by omega)
  have HC := Lib.hid hc
  have HH := Lib.hid hH
  have HL := Lib.hid h
  have HN := Lib.hid hn
  have hpl := h.blk.lt
  have hin : (i : Int) < n := by omega
  have bhas : (decide ((0 : Int) ≤ i) && decide ((i : Int) < n)) = true := by simp; omega
  have HB := Lib.hid bhas
  obtain ⟨w0, hr0, ho0, hx0⟩ := makeE w H (by omega)
  clear hc hH h hn hnH bhas
  go_enter Tryz.func75, Tryz.ntmps75
  go_wp2_with fail
  refine (thas_any p n cc _ i _ HC.out).mono ?_
  rintro e w1 ⟨rfl, rfl⟩
  rw [HB.out]
  go_upto_region 5 with (fail)
  go_step
  iterate 1 (refine wpList_step (fun K hK => ?_); go_simp; (try go_bits); refine hK _ _ ?_; clear hK K)
  refine wpList_step (fun K hK => ?_)
  go_wp2_with fail
  refine (theight_ok p n cc _ _ h1 h2 HC.out).mono ?_
  rintro e w1 ⟨e1, rfl⟩
  replace e1 : e = .returned (.int .i64 H) := by rw [e1, HH.out]
  subst e1
  refine hK _ _ ?_
  clear hK K
  refine wpList_make rfl _ _ 42 rfl rfl rfl hr0 ?_
  clear hr0
  go_wp2_with fail
  refine (theight_ok p n cc _ _ h1 h2 ((Kept.cell hx0 (p := ⟨p, 0, none⟩) hpl (fun f => f)).trans HC.out)).mono ?_
  rintro e w1 ⟨e1, rfl⟩
  replace e1 : e = .returned (.int .i64 H) := by rw [e1, HH.out]
  subst e1
  go_wp2_with fail
  go_loopw [1, 6, 21] (fun t1 t6 t21 wr => ∃ (k : Nat), k ≤ H ∧ t21 = .int .i64 k ∧ t1 = .int .i64 (i / 2 ^ k : Nat) ∧ wr.ownsRow w.heap.size 30 8 t6 k (digs (partP l i k)) ∧ Ext w wr) (fun _ _ t21 _ => H - (intOf t21).toNat)
  case atStart => exact ⟨0, by omega, rfl, by simp, ho0, hx0⟩
  case round =>
    obtain ⟨k, hk, rfl, rfl, ho, hx⟩ := hrel
    have hob : ∀ i, i < w.heap.size → (u6 : Value).ownBlock = some i → False := fun i hi e => by have := (ho.lt i e).1; omega
    have HOB := Lib.hid hob
    clear hob
    obtain ⟨x, hxk⟩ : ∃ x, x = i / 2 ^ k := ⟨_, rfl⟩
    rw [← hxk]
    by_cases hlt : k < H
    · have hL := HL.out.ext hx
      obtain ⟨N2, hN2⟩ : ∃ N2, N2 = 2 ^ (H - k) := ⟨_, rfl⟩
      have hxl : x < N2 := by rw [hxk, hN2]; exact div_pow_lt HP.out (by omega)
      have hNM : N2 = 2 * 2 ^ (H - (k + 1)) := by rw [hN2]; exact pow_halfH H k hlt
      have hN24 : N2 ≤ 4096 := by rw [hN2]; exact Nat.le_trans (Nat.pow_le_pow_right (by omega) (show H - k ≤ 12 by omega)) (by decide)
      obtain ⟨y, hy⟩ : ∃ y, y = sib x := ⟨_, rfl⟩
      have hyl : y < N2 := by rw [hy, hNM]; exact sib_lt (by omega)
      have hyx : bits .xor .i64 (x : Int) 1 = (y : Int) := by rw [hy]; exact sib_xor x (by omega)
      have hyI : (y : Int) < N2 := by omega
      have hcv := hL.blk.cell (1 + k) (by omega)
      rw [hL.fl k (by omega), ← hN2] at hcv
      have hBl := hL.lv k (by omega)
      have hyLl : y < (lev l H k).length := by rw [lev_len, ← hN2]; exact hyl
      obtain ⟨ha1, ha2⟩ := (Blk.row hBl).dig y hyLl
      rw [Nat.zero_add] at ha1 ha2
      have hgl := hBl.lt
      obtain ⟨D, hD⟩ : ∃ D, D = nodeT l k y := ⟨_, rfl⟩
      have hD' : (lev l H k)[y] = D := by
        have := lev_getD l H k y (by rw [← hN2]; exact hyl)
        rw [hD, ← this]; simp [hyLl]
      rw [hD'] at ha2
      have hk13 : (k : Int) < 13 := by omega
      have HX := Lib.hid hxk
      have HY := Lib.hid hy
      have HD := Lib.hid hD
      clear hxk hN2 hNM hy hD hD' hL hBl
      go_upto_region 9 with (fail)
      go_step
      iterate 12 (refine wpList_step (fun K hK => ?_); go_simp; (try go_bits); refine hK _ _ ?_; clear hK K)
      obtain ⟨v2, w2, hr2, ho2, hk2⟩ := appE (wr.alloc (.cells D.cells 30)) _ _ _ (partP l i k) (ho.alloc _) wr.heap.size 0 1 1 [D] rfl (by simpa [digs] using Row.of_blk (Blk.new wr 30 D.cells)) (by omega) (by have := hx.size; simp; omega)
      refine wpList_app rfl (.tmp 24) (.tmp 35) 42 rfl rfl rfl rfl hr2 ?_
      clear hr2
      have hq2 : (x : Int).tdiv 2 = (x / 2 : Nat) := by rw [Int.tdiv_eq_ediv_of_nonneg (by omega)]; omega
      clear hyx
      go_wp2_with fail
      go_roundw
      case rel =>
        refine ⟨k + 1, hlt, by go_num, ?_, by rw [partP_succ, ← HX.out, ← HY.out, ← HD.out]; exact ho2, (hx.alloc _).trans' hk2 HOB.out⟩
        rw [← div_pow_succ, ← HX.out]
        go_num
      case measure => simp only [intOf]; omega
    · obtain rfl : k = H := by omega
      clear hxk
      go_wp2_with fail
      go_ret2
      exact ⟨_, rfl, ho, hx⟩
end Go.Proofs.YtahljceanodhkaaGreatDoor

/- Package tree: Path of no leaf; with, Check, With. -/
namespace Go.Proofs.YtahljceanodhkaaGreatDoor
open Go.RowKit
set_option maxHeartbeats 1000000 in
theorem tpath_no (p n c : Nat) (A : Option Addr) (i : Int) (w : World) (hi : (decide (0 ≤ i) && decide (i < n)) = false) (hc : w.cell? ⟨p, 0, none⟩ = some (.slice A n c)) :
    Calls Tryz.prog 75 #[.pointer (some ⟨p, 0, none⟩), .int .i64 i] w fun e w' => e = .returned (.tuple #[.slice none 0 0, .int .i64 9]) ∧ w = w' := by
  have HC := Lib.hid hc
  have HI := Lib.hid hi
  clear hc hi
  go_enter Tryz.func75, Tryz.ntmps75
  go_wp2_with fail
  refine (thas_any p n c A i _ HC.out).mono ?_
  rintro e w1 ⟨rfl, rfl⟩
  rw [HI.out]
  go_wp2_with fail
  go_ret2
  exact ⟨rfl, rfl⟩
/-- up from a node, by the nodes beside the way -/
def foldP : Nat → Dg → List Dg → Dg
  | _, d, [] => d
  | i, d, o :: r => foldP (i / 2) (if i % 2 = 0 then hTwo d o else hTwo o d) r
theorem foldP_ok : ∀ (r : List Dg) (i : Nat) (d : Dg), d.ok → (foldP i d r).ok
  | [], _, _, h => h
  | o :: r, i, d, _ => by
    unfold foldP
    refine foldP_ok r _ _ ?_
    split <;> exact hTwo_ok _ _
theorem foldP_drop (i : Nat) (d : Dg) (r : List Dg) (k : Nat) (hk : k < r.length) : foldP i d (r.drop k) = foldP (i / 2) (if i % 2 = 0 then hTwo d r[k] else hTwo r[k] d) (r.drop (k + 1)) := by
  rw [List.drop_eq_getElem_cons hk, foldP]
def withT (i : Nat) (leaf : Dg) (path : List Dg) : Dg := hTop (foldP i (hLow leaf) path) path.length
/-- may a leaf stand there, of so high a tree? -/
def mayB (i : Int) (h : Nat) : Bool := decide (h ≤ 12) && decide (0 ≤ i) && decide (i < 2 ^ h)
def withD (i : Int) (leaf : Dg) (path : List Dg) : Dg := if mayB i path.length = true then withT i.toNat leaf path else Dg.zero
set_option maxRecDepth 100000 in
set_option maxHeartbeats 1000000 in
theorem with_no (i : Int) (leaf : Dg) (A : Option Addr) (h cap : Nat) (w : World) (hm : mayB i h = false) :
    Calls Tryz.prog 140 #[.int .i64 i, .agg #[.int .u8 leaf.x0, .int .u8 leaf.x1, .int .u8 leaf.x2, .int .u8 leaf.x3, .int .u8 leaf.x4, .int .u8 leaf.x5, .int .u8 leaf.x6, .int .u8 leaf.x7], .slice A h cap] w fun e w' => e = .returned (.tuple #[.agg Dg.zero.cells, .bool false]) ∧ Ext w w' := by
  have hx0 : Ext w _ := ((Kept.refl _ w).alloc (.cells #[.int .u8 leaf.x0, .int .u8 leaf.x1, .int .u8 leaf.x2, .int .u8 leaf.x3, .int .u8 leaf.x4, .int .u8 leaf.x5, .int .u8 leaf.x6, .int .u8 leaf.x7] 30)).alloc (.cells Dg.zero.cells 30)
  have hR0 : Blk _ (w.heap.size + 1) 30 Dg.zero.cells := Blk.new' (w.alloc (.cells #[.int .u8 leaf.x0, .int .u8 leaf.x1, .int .u8 leaf.x2, .int .u8 leaf.x3, .int .u8 leaf.x4, .int .u8 leaf.x5, .int .u8 leaf.x6, .int .u8 leaf.x7] 30)) _ _ _ (by simp)
  by_cases h12 : h ≤ 12
  · have c12 : ¬ (12 : Int) < h := by omega
    by_cases h0 : 0 ≤ i
    · obtain ⟨N, hN⟩ : ∃ N, N = 2 ^ h := ⟨_, rfl⟩
      have hNi : (N : Int) ≤ i := by
        simp [mayB, h12, h0] at hm
        have : ((2 ^ h : Nat) : Int) = (2 : Int) ^ h := by simp
        rw [hN]; omega
      have hN4 : N ≤ 4096 := by rw [hN]; exact Nat.le_trans (Nat.pow_le_pow_right (by omega) h12) (by decide)
      have hp1 : (2 : Int) ^ h ≤ 4096 := by have : (2 : Int) ^ h = (N : Int) := by rw [hN]; simp
                                            omega
      have hp2 : (2 : Int) ^ h ≤ i := by have : (2 : Int) ^ h = (N : Int) := by rw [hN]; simp
                                         omega
      have hp0 : 0 ≤ (2 : Int) ^ h := by have : (2 : Int) ^ h = (N : Int) := by rw [hN]; simp
                                         omega
      clear hm hN hNi hN4
      go_enter Tryz.func140, Tryz.ntmps140
      go_wp2_with fail
      refine ret_ci Tryz.results140 rfl rfl aggDig (by exact sizeDig) hR0 ⟨rfl, hx0⟩
    · clear hm
      go_enter Tryz.func140, Tryz.ntmps140
      go_wp2_with fail
      refine ret_ci Tryz.results140 rfl rfl aggDig (by exact sizeDig) hR0 ⟨rfl, hx0⟩
  · have c12 : (12 : Int) < h := by omega
    clear hm
    go_enter Tryz.func140, Tryz.ntmps140
    go_wp2_with fail
    refine ret_ci Tryz.results140 rfl rfl aggDig (by exact sizeDig) hR0 ⟨rfl, hx0⟩
set_option maxRecDepth 100000 in
set_option maxHeartbeats 1000000 in
theorem with_ok (i : Nat) (leaf : Dg) (hl : leaf.ok) (A : Option Addr) (b off h cap : Nat) (path : List Dg) (hh : h = path.length) (hok : ∀ d ∈ path, d.ok) (h12 : h ≤ 12) (hi : i < 2 ^ h) (hA : 0 < h → A = some ⟨b, off, none⟩) (w : World) (hr : 0 < h → Row w b off (digs path)) :
    Calls Tryz.prog 140 #[.int .i64 i, .agg #[.int .u8 leaf.x0, .int .u8 leaf.x1, .int .u8 leaf.x2, .int .u8 leaf.x3, .int .u8 leaf.x4, .int .u8 leaf.x5, .int .u8 leaf.x6, .int .u8 leaf.x7], .slice A h cap] w fun e w' => e = .returned (.tuple #[.agg (withT i leaf path).cells, .bool true]) ∧ Ext w w' := by
  have hx0 : Ext w _ := ((Kept.refl _ w).alloc (.cells #[.int .u8 leaf.x0, .int .u8 leaf.x1, .int .u8 leaf.x2, .int .u8 leaf.x3, .int .u8 leaf.x4, .int .u8 leaf.x5, .int .u8 leaf.x6, .int .u8 leaf.x7] 30)).alloc (.cells Dg.zero.cells 30)
  have hR0 : Blk _ (w.heap.size + 1) 30 Dg.zero.cells := Blk.new' (w.alloc (.cells #[.int .u8 leaf.x0, .int .u8 leaf.x1, .int .u8 leaf.x2, .int .u8 leaf.x3, .int .u8 leaf.x4, .int .u8 leaf.x5, .int .u8 leaf.x6, .int .u8 leaf.x7] 30)) _ _ _ (by simp)
  have c12 : ¬ (12 : Int) < h := by omega
  have hpn : (2 : Int) ^ h = ((2 ^ h : Nat) : Int) := by simp
  have h4 : 2 ^ h ≤ 4096 := Nat.le_trans (Nat.pow_le_pow_right (by omega) h12) (by decide)
  have hp1 : (2 : Int) ^ h ≤ 4096 := by omega
  have hp2 : (i : Int) < (2 : Int) ^ h := by omega
  have hi4 : i < 4096 := by omega
  have HIh := Lib.hid hi
  have HHl := Lib.hid hh
  have HO := Lib.hid hok
  have HA := Lib.hid hA
  have HR := Lib.hid hr
  have HLf := Lib.hid hl
  clear hpn h4 hi hh hok hA hr hl
  obtain ⟨D, hD⟩ : ∃ D, D = withT i leaf path := ⟨_, rfl⟩
  rw [← hD]
  have HD := Lib.hid hD
  clear hD
  go_enter Tryz.func140, Tryz.ntmps140
  go_wp2_with fail
  refine (low_any leaf HLf.out _).mono ?_
  rintro e w1 ⟨e1, hx1⟩
  obtain ⟨Z, hZ⟩ : ∃ Z, Z = hLow leaf := ⟨_, rfl⟩
  rw [← hZ] at e1
  subst e1
  have hZk : Z.ok := by rw [hZ]; exact hWord_ok _ _
  have HZ := Lib.hid hZ
  have HZk := Lib.hid hZk
  clear hZ hZk
  have hR1 := Blk.alloc (Blk.ext hR0 hx1) (.cells Z.cells 30)
  have hN1 := Blk.new w1 30 Z.cells
  have y1 := (hx0.trans hx1).alloc (.cells Z.cells 30)
  have lR := (Blk.ext hR0 hx1).lt
  have lw := (hx0.trans hx1).size
  clear hR0 hx1 hx0 hp1 hp2
  go_wp2_with fail
  generalize (w1.alloc (.cells #[.int .u8 Z.x0, .int .u8 Z.x1, .int .u8 Z.x2, .int .u8 Z.x3, .int .u8 Z.x4, .int .u8 Z.x5, .int .u8 Z.x6, .int .u8 Z.x7] 30)) = W1 at hR1 hN1 y1 ⊢
  generalize w1.heap.size = c9 at hN1 lR lw ⊢
  go_loopw [0, 31] (fun t0 t31 wr => ∃ (k x : Nat) (d : Dg), k ≤ h ∧ x ≤ i ∧ t31 = .int .i64 k ∧ t0 = .int .i64 x ∧ d.ok ∧ Blk wr c9 30 d.cells ∧ foldP x d (path.drop k) = foldP i (hLow leaf) path ∧ Kept (· = c9) W1 wr) (fun _ t31 _ => h - (intOf t31).toNat)
  case atStart => exact ⟨0, i, Z, by omega, by omega, rfl, rfl, HZk.out, hN1, by rw [HZ.out]; simp, Kept.refl _ _⟩
  case round =>
    obtain ⟨k, x, d, hk, hxi, rfl, rfl, hdk, hB, hfo, hK1⟩ := hrel
    have HF := Lib.hid hfo
    have HDK := Lib.hid hdk
    clear hfo hdk
    have yr : Ext w wr := y1.trans' hK1 (fun i hi e => by omega)
    by_cases hlt : k < h
    · have hltI : (k : Int) < h := by omega
      have hkl : k < path.length := by have := HHl.out; omega
      obtain rfl := HA.out (by omega)
      have hrow := (HR.out (by omega)).ext yr
      obtain ⟨ha1, ha2⟩ := hrow.dig k hkl
      have hbl := hrow.lt
      obtain ⟨o, ho⟩ : ∃ o, o = path[k] := ⟨_, rfl⟩
      rw [← ho] at ha2
      have hok : o.ok := by rw [ho]; exact HO.out _ (List.getElem_mem hkl)
      have HOK := Lib.hid hok
      have HOo := Lib.hid ho
      clear hok ho
      have hc9 := hB.lt
      have hB1 := Blk.alloc hB (.cells o.cells 30)
      have hO1 := Blk.new wr 30 o.cells
      have hx1 := (Kept.refl (· = c9) wr).alloc (.cells o.cells 30)
      go_upto_region 8 with (fail)
      generalize (wr.alloc (.cells #[.int .u8 o.x0, .int .u8 o.x1, .int .u8 o.x2, .int .u8 o.x3, .int .u8 o.x4, .int .u8 o.x5, .int .u8 o.x6, .int .u8 o.x7] 30)) = W2 at hB1 hO1 hx1 ⊢
      clear ha1 ha2 hbl
      generalize wr.heap.size = c11 at hO1 hc9 ⊢
      have i1 := Blk.has hB1
      have i2 := Blk.gets hB1
      have i3 := Blk.has hO1
      have i4 := Blk.gets hO1
      have hxd : (x : Int).tdiv 2 = (x / 2 : Nat) := by rw [Int.tdiv_eq_ediv_of_nonneg (by omega)]; omega
      have hxm : (x : Int).tmod 2 = (x % 2 : Nat) := by rw [Int.tmod_eq_emod_of_nonneg (by omega)]; omega
      by_cases he : x % 2 = 0
      · have hb0 : ((x : Int) % 2 == 0) = true := by simp; omega
        have hb1 : (((x % 2 : Nat) : Int) == 0) = true := by simp; omega
        have hb2 : ((x % 2 : Nat) == 0) = true := by simp; omega
        have HE := Lib.hid he
        clear he
        go_wp2_with fail
        refine (two_any d o HDK.out HOK.out _).mono ?_
        rintro e w3 ⟨rfl, hx3⟩
        have hB3 := Blk.ext hB1 hx3
        have j1 := Blk.has hB3
        have j2 := Blk.melts hB3
        clear i1 i2 i3 i4
        go_wp2_with fail
        go_roundw
        case rel =>
          refine ⟨k + 1, x / 2, hTwo d o, hlt, by omega, by go_num, by go_num, hTwo_ok _ _, Blk.put_ hB3 _ _, ?_, Kept.putAt ((hK1.trans hx1).trans (Kept.ext hx3)) _ _ _ (fun _ => rfl)⟩
          rw [← HF.out, foldP_drop x d path k hkl, if_pos HE.out, HOo.out]
        case measure => simp only [intOf]; omega
      · have hb0 : ((x : Int) % 2 == 0) = false := by simp; omega
        have hb1 : (((x % 2 : Nat) : Int) == 0) = false := by simp; omega
        have hb2 : ((x % 2 : Nat) == 0) = false := by simp; omega
        have HE := Lib.hid he
        clear he
        go_wp2_with fail
        refine (two_any o d HOK.out HDK.out _).mono ?_
        rintro e w3 ⟨rfl, hx3⟩
        have hB3 := Blk.ext hB1 hx3
        have j1 := Blk.has hB3
        have j2 := Blk.melts hB3
        clear i1 i2 i3 i4
        go_wp2_with fail
        go_roundw
        case rel =>
          refine ⟨k + 1, x / 2, hTwo o d, hlt, by omega, by go_num, by go_num, hTwo_ok _ _, Blk.put_ hB3 _ _, ?_, Kept.putAt ((hK1.trans hx1).trans (Kept.ext hx3)) _ _ _ (fun _ => rfl)⟩
          rw [← HF.out, foldP_drop x d path k hkl, if_neg HE.out, HOo.out]
        case measure => simp only [intOf]; omega
    · have ek : k = h := by omega
      have hdD : hTop d h = D := by
        have := HF.out
        rw [ek, HHl.out, List.drop_length, foldP] at this
        rw [HD.out, withT, ← this, ← HHl.out]
      have HDD := Lib.hid hdD
      clear hdD
      have hRr := Blk.kept hR1 hK1 (by omega)
      have i1 := Blk.has hB
      have i2 := Blk.gets hB
      go_wp2_with fail
      refine (top_any d HDK.out h h12 _).mono ?_
      rintro e w3 ⟨e3, hx3⟩
      rw [HDD.out] at e3
      subst e3
      have hR3 := Blk.ext hRr hx3
      have j1 := Blk.has hR3
      have j2 := Blk.melts hR3
      go_wp2_with fail
      refine ret_ci Tryz.results140 rfl rfl aggDig (by exact sizeDig) (Blk.put_ hR3 _ _) ⟨rfl, ?_⟩
      exact Kept.putAt (yr.trans hx3) _ _ _ (fun h => by omega)
end Go.Proofs.YtahljceanodhkaaGreatDoor

/- Package tree: Check, With. -/
namespace Go.Proofs.YtahljceanodhkaaGreatDoor
open Go.RowKit
/-- a path that came by value: digests in memory -/
structure PathAt (w : World) (A : Option Addr) (b off h : Nat) (path : List Dg) : Prop where
  len : h = path.length
  ok : ∀ d ∈ path, d.ok
  at_ : 0 < h → A = some ⟨b, off, none⟩
  row : 0 < h → Row w b off (digs path)
  ty : 0 < h → ∃ cur fr, w.heap[b]? = some (.cells cur 30 fr)
theorem PathAt.kept {S : Nat → Prop} {w w' : World} {A : Option Addr} {b off h : Nat} {path : List Dg} (hp : PathAt w A b off h path) (hx : Kept S w w') (hs : ∀ i, S i → ∀ cur fr, ¬ w.heap[i]? = some (.cells cur 30 fr)) : PathAt w' A b off h path := by
  have hb : 0 < h → ¬ S b := fun h0 hS => by
    obtain ⟨cur, fr, e⟩ := hp.ty h0
    exact hs b hS cur fr e
  refine ⟨hp.len, hp.ok, hp.at_, fun h0 => (hp.row h0).kept hx (hb h0), fun h0 => ?_⟩
  obtain ⟨cur, fr, e⟩ := hp.ty h0
  exact ⟨cur, fr, (hx.block b (hp.row h0).lt (hb h0)).trans e⟩
theorem PathAt.ext {w w' : World} {A : Option Addr} {b off h : Nat} {path : List Dg} (hp : PathAt w A b off h path) (hx : Ext w w') : PathAt w' A b off h path :=
  hp.kept hx (fun _ f => f.elim)
theorem mayB_inv {i : Int} {h : Nat} (hm : mayB i h = true) : h ≤ 12 ∧ 0 ≤ i ∧ i.toNat < 2 ^ h ∧ i = i.toNat := by
  simp [mayB] at hm
  obtain ⟨⟨h1, h2⟩, h3⟩ := hm
  have e : (2 : Int) ^ h = ((2 ^ h : Nat) : Int) := by simp
  exact ⟨h1, h2, by omega, by omega⟩
theorem withD_ok (i : Int) (leaf : Dg) (path : List Dg) : (withD i leaf path).ok := by
  unfold withD
  split
  · exact hWord_ok _ _
  · exact dg0_ok
theorem with_any (i : Int) (leaf : Dg) (hl : leaf.ok) (A : Option Addr) (b off h cap : Nat) (path : List Dg) (w : World) (hp : PathAt w A b off h path) :
    Calls Tryz.prog 140 #[.int .i64 i, .agg #[.int .u8 leaf.x0, .int .u8 leaf.x1, .int .u8 leaf.x2, .int .u8 leaf.x3, .int .u8 leaf.x4, .int .u8 leaf.x5, .int .u8 leaf.x6, .int .u8 leaf.x7], .slice A h cap] w fun e w' => e = .returned (.tuple #[.agg (withD i leaf path).cells, .bool (mayB i h)]) ∧ Ext w w' := by
  cases hm : mayB i h
  · rw [show withD i leaf path = Dg.zero by simp [withD, ← hp.len, hm]]
    exact with_no i leaf A h cap w hm
  · obtain ⟨h1, h2, h3, h4⟩ := mayB_inv hm
    obtain ⟨k, rfl⟩ : ∃ k : Nat, i = k := ⟨_, h4⟩
    rw [show withD k leaf path = withT k leaf path by simp only [withD, ← hp.len, if_pos hm, Int.toNat_natCast]]
    exact with_ok k leaf hl A b off h cap path hp.len hp.ok h1 (by simpa using h3) hp.at_ w hp.row
def dgB (a b : Dg) : Bool := a.x0 == b.x0 && (a.x1 == b.x1 && (a.x2 == b.x2 && (a.x3 == b.x3 && (a.x4 == b.x4 && (a.x5 == b.x5 && (a.x6 == b.x6 && a.x7 == b.x7))))))
theorem dgB_iff (a b : Dg) : dgB a b = true ↔ a = b := by
  obtain ⟨a0, a1, a2, a3, a4, a5, a6, a7⟩ := a
  obtain ⟨b0, b1, b2, b3, b4, b5, b6, b7⟩ := b
  simp [dgB]
theorem dgB_self (a : Dg) : dgB a a = true := (dgB_iff a a).2 rfl
/-- does a leaf stand there? -/
def checkT (root : Dg) (i : Int) (leaf : Dg) (path : List Dg) : Bool := mayB i path.length && dgB (withD i leaf path) root
set_option maxRecDepth 100000 in
set_option maxHeartbeats 1000000 in
theorem tcheck_any (root : Dg) (i : Int) (leaf : Dg) (hl : leaf.ok) (A : Option Addr) (b off h cap : Nat) (path : List Dg) (w : World) (hp : PathAt w A b off h path) :
    Calls Tryz.prog 82 #[.agg #[.int .u8 root.x0, .int .u8 root.x1, .int .u8 root.x2, .int .u8 root.x3, .int .u8 root.x4, .int .u8 root.x5, .int .u8 root.x6, .int .u8 root.x7], .int .i64 i, .agg #[.int .u8 leaf.x0, .int .u8 leaf.x1, .int .u8 leaf.x2, .int .u8 leaf.x3, .int .u8 leaf.x4, .int .u8 leaf.x5, .int .u8 leaf.x6, .int .u8 leaf.x7], .slice A h cap] w fun e w' => e = .returned (.bool (checkT root i leaf path)) ∧ Ext w w' := by
  obtain ⟨R, hR⟩ : ∃ R, R = checkT root i leaf path := ⟨_, rfl⟩
  rw [← hR]
  obtain ⟨D, hD⟩ : ∃ D, D = withD i leaf path := ⟨_, rfl⟩
  obtain ⟨B, hB⟩ : ∃ B, B = mayB i h := ⟨_, rfl⟩
  have hRR : R = (B && dgB D root) := by rw [hR, checkT, hB, hD, hp.len]
  have HD := Lib.hid hD
  have HB := Lib.hid hB
  have HP := Lib.hid hp
  have HL := Lib.hid hl
  have HRR := Lib.hid hRR
  clear hR hD hB hRR hp hl
  have hx0 : Ext w _ := ((Kept.refl _ w).alloc (.cells root.cells 30)).alloc (.cells leaf.cells 30)
  have hT0 : Blk _ w.heap.size 30 root.cells := Blk.alloc (Blk.new w _ _) (.cells leaf.cells 30)
  go_enter Tryz.func82, Tryz.ntmps82
  go_wp2_with fail
  refine (with_any i leaf HL.out A b off h cap path _ (HP.out.ext hx0)).mono ?_
  rintro e w1 ⟨e1, hx1⟩
  replace e1 : e = .returned (.tuple #[.agg D.cells, .bool B]) := by rw [e1, HD.out, HB.out]
  subst e1
  have hT1 := Blk.alloc (Blk.ext hT0 hx1) (.cells D.cells 30)
  have hN1 := Blk.new w1 30 D.cells
  have y1 := (hx0.trans hx1).alloc (.cells D.cells 30)
  have l1 := (Blk.ext hT0 hx1).lt
  clear hx0 hT0 hx1
  go_upto_region 2 with (fail)
  generalize (w1.alloc (.cells #[.int .u8 D.x0, .int .u8 D.x1, .int .u8 D.x2, .int .u8 D.x3, .int .u8 D.x4, .int .u8 D.x5, .int .u8 D.x6, .int .u8 D.x7] 30)) = W1 at hT1 hN1 y1 ⊢
  generalize w1.heap.size = c9 at hN1 l1 ⊢
  have i1 := Blk.has hT1
  have i2 := Blk.gets hT1
  have i3 := Blk.has hN1
  have i4 := Blk.gets hN1
  cases B
  · go_wp2_with fail
    go_ret
    exact ⟨ret_bool HRR.out.symm, y1⟩
  · go_wp2_with fail
    go_ret
    exact ⟨ret_bool (by rw [HRR.out, Bool.true_and]; rfl), y1⟩
set_option maxRecDepth 100000 in
set_option maxHeartbeats 1000000 in
theorem twith_any (i : Int) (leaf : Dg) (hl : leaf.ok) (A : Option Addr) (b off h cap : Nat) (path : List Dg) (w : World) (hp : PathAt w A b off h path) :
    Calls Tryz.prog 149 #[.int .i64 i, .agg #[.int .u8 leaf.x0, .int .u8 leaf.x1, .int .u8 leaf.x2, .int .u8 leaf.x3, .int .u8 leaf.x4, .int .u8 leaf.x5, .int .u8 leaf.x6, .int .u8 leaf.x7], .slice A h cap] w fun e w' => e = .returned (.agg (withD i leaf path).cells) ∧ Ext w w' := by
  obtain ⟨D, hD⟩ : ∃ D, D = withD i leaf path := ⟨_, rfl⟩
  rw [← hD]
  have HD := Lib.hid hD
  have HP := Lib.hid hp
  have HL := Lib.hid hl
  clear hD hp hl
  have hx0 : Ext w _ := ((Kept.refl _ w).alloc (.cells leaf.cells 30)).alloc (.cells Dg.zero.cells 30)
  have hR0 : Blk _ (w.heap.size + 1) 30 Dg.zero.cells := Blk.new' (w.alloc (.cells leaf.cells 30)) _ _ _ (by simp)
  go_enter Tryz.func149, Tryz.ntmps149
  go_wp2_with fail
  refine (with_any i leaf HL.out A b off h cap path _ (HP.out.ext hx0)).mono ?_
  rintro e w1 ⟨e1, hx1⟩
  rw [← HD.out] at e1
  subst e1
  have hR1 := Blk.alloc (Blk.ext hR0 hx1) (.cells D.cells 30)
  have hN1 := Blk.new w1 30 D.cells
  have y1 := (hx0.trans hx1).alloc (.cells D.cells 30)
  have l1 := (Blk.ext hR0 hx1).lt
  clear hx0 hR0 hx1
  go_upto_region 2 with (fail)
  generalize (w1.alloc (.cells #[.int .u8 D.x0, .int .u8 D.x1, .int .u8 D.x2, .int .u8 D.x3, .int .u8 D.x4, .int .u8 D.x5, .int .u8 D.x6, .int .u8 D.x7] 30)) = W1 at hR1 hN1 y1 ⊢
  generalize w1.heap.size = c9 at hN1 l1 ⊢
  have i1 := Blk.has hR1
  have i2 := Blk.melts hR1
  have i3 := Blk.has hN1
  have i4 := Blk.gets hN1
  go_wp2_with fail
  refine ret_cell Tryz.results149 rfl rfl aggDig (by exact sizeDig) (Blk.put_ hR1 _ _) ⟨rfl, ?_⟩
  exact Kept.putAt y1 _ _ _ (fun h => by omega)
/-! ### A leaf's path leads to the root -/
theorem foldP_node (l : List Dg) (H i : Nat) (hi : i < 2 ^ H) : ∀ k, k ≤ H → foldP (i / 2 ^ (H - k)) (nodeT l (H - k) (i / 2 ^ (H - k))) ((pathT l H i).drop (H - k)) = nodeT l H 0
  | 0, _ => by
    rw [Nat.sub_zero, List.drop_of_length_le (by rw [pathT_len]; exact Nat.le_refl _), foldP, Nat.div_eq_of_lt hi]
  | k + 1, hk => by
    have ih := foldP_node l H i hi k (by omega)
    have hlt : H - (k + 1) < (pathT l H i).length := by rw [pathT_len]; omega
    rw [foldP_drop _ _ _ _ hlt, div_pow_succ, show H - (k + 1) + 1 = H - k by omega]
    have hg : (pathT l H i)[H - (k + 1)] = nodeT l (H - (k + 1)) (sib (i / 2 ^ (H - (k + 1)))) := by simp [pathT]
    rw [hg]
    have hn : (if i / 2 ^ (H - (k + 1)) % 2 = 0 then hTwo (nodeT l (H - (k + 1)) (i / 2 ^ (H - (k + 1)))) (nodeT l (H - (k + 1)) (sib (i / 2 ^ (H - (k + 1))))) else hTwo (nodeT l (H - (k + 1)) (sib (i / 2 ^ (H - (k + 1))))) (nodeT l (H - (k + 1)) (i / 2 ^ (H - (k + 1))))) = nodeT l (H - k) (i / 2 ^ (H - k)) := by
      rw [show H - k = H - (k + 1) + 1 by omega, nodeT, ← div_pow_succ]
      generalize i / 2 ^ (H - (k + 1)) = x
      by_cases he : x % 2 = 0
      · rw [if_pos he, show sib x = x + 1 by simp [sib, he], show 2 * (x / 2) = x by omega]
      · rw [if_neg he, show sib x = x - 1 by simp [sib, he], show 2 * (x / 2) = x - 1 by omega, show x - 1 + 1 = x by omega]
    rw [hn]
    exact ih
theorem withT_root (l : List Dg) (i : Nat) (hi : i < l.length) (h2 : l.length ≤ 4096) : withT i l[i] (pathT l (hgt l.length) i) = rootT l := by
  have hb := hgt_bd l.length (by omega) h2
  have := foldP_node l (hgt l.length) i (by omega) (hgt l.length) (Nat.le_refl _)
  rw [Nat.sub_self, Nat.pow_zero, Nat.div_one, List.drop_zero] at this
  unfold withT rootT
  rw [pathT_len, ← this]
  simp [nodeT, List.getElem?_eq_getElem hi]
end Go.Proofs.YtahljceanodhkaaGreatDoor

/- Numbers of its own; Contains, Sort; strings ranged over; package code: Reads, Writes. -/
namespace Go.Proofs.YtahljceanodhkaaGreatDoor
open Go.RowKit
def ints (l : List Int) : List Value := l.map (Value.int .i64)
theorem ints_len (l : List Int) : (ints l).length = l.length := by simp [ints]
theorem infoInt : (Tryz.prog.info? 3).map (fun i => (i.zero, i.size, i.bytes)) = some (some (.int .i64 0), 1, 8) := by kernel_rfl
theorem ints_flatL (l : List Int) : flatL (ints l) = true := by
  induction l with
  | nil => rfl
  | cons d l ih => show flatL (.int .i64 d :: ints l) = true; simpa [flatL, Value.oneCell'] using ih
theorem appInt (w : World) (base : Nat) (v : Value) (n : Nat) (xs : List Int) (hown : w.ownsRow base 3 1 v n (ints xs)) (b off m c : Nat) (l : List Int) (hm : m = l.length) (hr : Row w b off (ints l)) (hn : n + m ≤ 100000) (hbase : base ≤ w.heap.size) :
    ∃ v' w', (Builtin.append_ #[138, 138] 138 #[v, .slice (some ⟨b, off, none⟩) m c]).run Tryz.prog w = .ok v' w' ∧ w'.ownsRow base 3 1 v' (n + m) (ints (xs ++ l)) ∧ Kept (fun i => v.ownBlock = some i) w w' := by
  obtain ⟨i, hi, hz, h1, h2⟩ := info_parts infoInt
  have := app_some (P := Tryz.prog) Tryz.underlying138 hi hz h1 h2 (by rfl) (by decide) w base v n (ints xs) hown b off m c (ints l) (by rw [ints_len, hm, Nat.mul_one]) hr (ints_flatL l) (by unfold maxLen; omega) (by omega) hbase
  rw [show ints xs ++ ints l = ints (xs ++ l) by simp [ints]] at this
  exact this
/-- numbers of its own: none, or a row -/
theorem ownInt {w : World} {base : Nat} {v : Value} {n : Nat} {l : List Int} (h : w.ownsRow base 3 1 v n (ints l)) : n = l.length ∧ ((v = .slice none 0 0 ∧ l = []) ∨ ∃ g c cur, v = .slice (some ⟨g, 0, none⟩) n c ∧ base ≤ g ∧ w.heap[g]? = some (.cells cur 3 (0, 0)) ∧ n ≤ c ∧ c ≤ maxLen ∧ cur.size = c ∧ cur.toList.take n = ints l) := by
  have hl := h.1
  rw [ints_len, Nat.mul_one] at hl
  refine ⟨hl.symm, ?_⟩
  rcases h.2 with ⟨hv, h0⟩ | ⟨g, c, cur, hv, hb, hc, hnc, hcm, hcs, htk⟩
  · exact .inl ⟨hv, List.eq_nil_of_length_eq_zero (by omega)⟩
  · rw [Nat.mul_one] at hcs htk
    exact .inr ⟨g, c, cur, hv, hb, hc, hnc, hcm, hcs, htk⟩
theorem ownInt_cell {w : World} {g : Nat} {cur : Array Value} {n : Nat} {l : List Int} (hc : w.heap[g]? = some (.cells cur 3 (0, 0))) (hn : n = l.length) (htk : cur.toList.take n = ints l) (j : Nat) (hj : j < l.length) : w.cell? ⟨g, j, none⟩ = some (.int .i64 (l.getD j 0)) := by
  have h1 : (cur.toList.take n)[j]? = (ints l)[j]? := by rw [htk]
  rw [List.getElem?_take_of_lt (by omega)] at h1
  simp only [World.cell?, hc]
  simp only [Option.isSome_none, Bool.false_eq_true, if_false]
  rw [← Array.getElem?_toList, h1]
  simp [ints, hj]
theorem contains_own {w : World} {base : Nat} {v : Value} {n : Nat} {l : List Int} (x : Int) (h : w.ownsRow base 3 1 v n (ints l)) (hn : n ≤ 100000) :
    Calls Tryz.prog 137 #[v, .int .i64 x] w fun e w' => e = .returned (.bool (l.contains x)) ∧ w = w' := by
  obtain ⟨hl, hc⟩ := ownInt h
  rcases hc with ⟨rfl, rfl⟩ | ⟨g, c, cur, rfl, _, hcur, _, _, _, htk⟩
  · exact (Tryz.slices_Contains_int_empty none 0 x w).mono fun e w' ⟨h1, h2⟩ => ⟨h1, h2.symm⟩
  · refine (Tryz.slices_Contains_int g 0 n c l x w (by omega) (by omega) (fun j hj => by rw [Nat.zero_add]; exact ownInt_cell hcur hl htk j hj)).mono fun e w' ⟨h1, h2⟩ => ⟨?_, h2.symm⟩
    rw [h1, List.take_of_length_le (by omega)]
def sortI (l : List Int) : List Int := l.mergeSort fun x y => decide (x ≤ y)
theorem sort_own {w : World} {base : Nat} {v : Value} {n : Nat} {l : List Int} (h : w.ownsRow base 3 1 v n (ints l)) (hn : n ≤ 100000) :
    Calls Tryz.prog 138 #[v] w fun e w' => e = .returned (.tuple #[]) ∧ w'.ownsRow base 3 1 v n (ints (sortI l)) ∧ Kept (fun i => v.ownBlock = some i) w w' := by
  obtain ⟨hl, hc⟩ := ownInt h
  rcases hc with ⟨rfl, rfl⟩ | ⟨g, c, cur, rfl, hb, hcur, h1, h2, h3, htk⟩
  · have hn0 : n = 0 := by simpa using hl
    subst hn0
    exact (Tryz.slices_Sort_int_none none 0 w).mono fun e w' ⟨h1, h2⟩ => ⟨h1, by rw [h2, show ints (sortI []) = [] by simp [sortI, ints]]; exact World.ownsRow_nil _ _ _ _, by rw [h2]; exact Kept.refl _ _⟩
  · subst hl
    refine (Tryz.slices_Sort_int g 0 c l w (holds_of_blockI hcur htk) (Array.getElem?_eq_some_iff.1 hcur).1 (by omega)).mono fun e w' ⟨h4, k, os, h5⟩ => ⟨h4, ?_, ?_⟩
    · rw [h5]; exact ownsRow_sortedI (by simp) hb hcur h1 h2 (by omega)
    · rw [h5]; exact Kept.of_grown (grownBy_sortedI _)
/-- block k ranges over s, and is at pos -/
def IterB (w : World) (k : Nat) (s : ByteArray) (pos : Nat) : Prop := w.heap[k]? = some (.stringIter s pos)
theorem IterB.lt {w : World} {k : Nat} {s : ByteArray} {pos : Nat} (h : IterB w k s pos) : k < w.heap.size := (Array.getElem?_eq_some_iff.1 h).1
theorem IterB.kept {S : Nat → Prop} {w w' : World} {k : Nat} {s : ByteArray} {pos : Nat} (h : IterB w k s pos) (hk : Kept S w w') (hs : ¬ S k) : IterB w' k s pos := (hk.block k h.lt hs).trans h
theorem IterB.next {w : World} {k : Nat} {s : ByteArray} {pos : Nat} (h : IterB w k s pos) (hp : pos < s.size) (ha : (s[pos]'hp).toNat < 128) :
    ∃ w', (∀ ty, (Instr.next (.pointer (some ⟨k, 0, none⟩)) true ty).run Tryz.prog w = .ok (.tuple #[.bool true, .int .i64 pos, .int .i32 (s[pos]'hp).toNat]) w') ∧ IterB w' k s (pos + 1) ∧ Kept (· = k) w w' := by
  refine ⟨w.iterAt k s (pos + 1), fun ty => Lib.run_next_ascii_at w k s pos ty h hp ha, ?_, ?_⟩
  · unfold IterB World.iterAt
    simp [h.lt]
  · refine ⟨rfl, rfl, rfl, by simp [World.iterAt], fun j hj hn => ?_⟩
    unfold World.iterAt
    simp only
    rw [Array.getElem?_setIfInBounds]
    rw [if_neg (fun e => hn e.symm)]
theorem IterB.done {w : World} {k : Nat} {s : ByteArray} {pos : Nat} (h : IterB w k s pos) (hp : ¬ pos < s.size) (ty : TypeId) : (Instr.next (.pointer (some ⟨k, 0, none⟩)) true ty).run Tryz.prog w = .ok (.tuple #[.bool false]) w := Lib.run_next_end_at w k s pos ty h hp
end Go.Proofs.YtahljceanodhkaaGreatDoor

/- Package code: Reads, Writes. -/
namespace Go.Proofs.YtahljceanodhkaaGreatDoor
open Go.RowKit
/-- is a number of an instruction no word that is read by its name? -/
def skipR (i : Ins) (c : UInt8) (k : Nat) : Bool := c != 119 || (k == 0 && i.op != 17) || (k == 1 && i.op == 15)
def readsK (i : Ins) (h : List UInt8) : Nat → List Int
  | 0 => []
  | k + 1 => if skipR i (h.getD k 0) k = true ∨ (readsK i h k).contains (nth3 i k) = true then readsK i h k else readsK i h k ++ [nth3 i k]
theorem readsK_skip {i : Ins} {h : List UInt8} {k : Nat} (hs : skipR i (h.getD k 0) k = true ∨ (readsK i h k).contains (nth3 i k) = true) : readsK i h (k + 1) = readsK i h k := if_pos hs
theorem readsK_new {i : Ins} {h : List UInt8} {k : Nat} (hs : ¬ (skipR i (h.getD k 0) k = true ∨ (readsK i h k).contains (nth3 i k) = true)) : readsK i h (k + 1) = readsK i h k ++ [nth3 i k] := if_neg hs
theorem readsK_len (i : Ins) (h : List UInt8) : ∀ k, (readsK i h k).length ≤ k
  | 0 => by simp [readsK]
  | k + 1 => by
    have := readsK_len i h k
    unfold readsK
    split
    · omega
    · simp; omega
def readsN (i : Ins) : List Int := if isOp i.op = true then readsK i (hasN i.op.toNat) (hasN i.op.toNat).length else []
/-- numbers handed back -/
def OwnsInts (w w' : World) (e : Ending) (l : List Int) : Prop := ∃ v, e = .returned v ∧ w'.ownsRow w.heap.size 3 1 v l.length (ints l) ∧ Ext w w'
theorem hasN_ascii (k : Nat) : ∀ c ∈ hasN k, c.toNat < 128 := by
  unfold hasN
  split <;> decide
set_option maxRecDepth 100000 in
set_option maxHeartbeats 4000000 in
theorem ireads_any (i : Ins) (w : World) (hops : OpsAt w) (hop : isOp i.op = true) : Calls Tryz.prog 134 #[.agg i.cells] w fun e w' => OwnsInts w w' e (readsN i) := by
  have hx0 : Ext w _ := (Kept.refl _ w).alloc (.cells i.cells 41)
  have hI0 := Blk.new w 41 i.cells
  have HOP := Lib.hid (hops.ext hx0)
  clear hops
  have HO := Lib.hid hop
  clear hop
  obtain ⟨h, hh⟩ : ∃ h, h = hasN i.op.toNat := ⟨_, rfl⟩
  obtain ⟨R, hR⟩ : ∃ R, R = readsN i := ⟨_, rfl⟩
  rw [← hR]
  have hRR : R = readsK i h h.length := by rw [hR, readsN, if_pos HO.out, hh]
  have hlen : h.length ≤ 3 := by rw [hh]; exact hasN_len _
  have HAS : Hid (∀ c ∈ h, c.toNat < 128) := Lib.hid (by rw [hh]; exact hasN_ascii _)
  have HH := Lib.hid hh
  have HR := Lib.hid hRR
  clear hh hR hRR
  go_enter Tryz.func134, Tryz.ntmps134
  go_wp2_with fail
  refine (three_any i _).mono ?_
  rintro e w1 ⟨rfl, hx1⟩
  have hx1' := hx1.alloc (.cells #[.int .i64 i.a, .int .i64 i.b, .int .i64 i.c] 153)
  have hI1 := Blk.ext hI0 hx1'
  have hT1 := Blk.new w1 153 #[.int .i64 i.a, .int .i64 i.b, .int .i64 i.c]
  have y1 := hx0.trans hx1'
  have lI := (Blk.ext hI0 hx1).lt
  have hh0 := Blk.has (Blk.ext hI0 hx1)
  have hg0 := Blk.gets (Blk.ext hI0 hx1)
  have HOP1 := Lib.hid (HOP.out.ext hx1')
  clear hI0 hx0 HOP hx1 hx1'
  go_upto_region 3 with (fail)
  generalize (w1.alloc (.cells #[.int .i64 i.a, .int .i64 i.b, .int .i64 i.c] 153)) = W1 at hI1 hT1 y1 HOP1 ⊢
  clear hh0 hg0
  generalize w1.heap.size = tb at hT1 lI ⊢
  have hh1 := Blk.has hI1
  have hg1 := Blk.gets hI1
  go_wp2_with fail
  refine (has_any i _ HOP1.out).mono ?_
  rintro e w2 ⟨e2, hx2⟩
  replace e2 : e = .returned (.string ⟨h.toArray⟩) := by rw [e2, hasI, if_pos HO.out, HH.out]; rfl
  subst e2
  have hI2 := Blk.ext hI1 hx2
  have hT2 := Blk.ext hT1 hx2
  have y2 := y1.trans hx2
  have hI3 := Blk.alloc hI2 (.stringIter ⟨h.toArray⟩ 0)
  have hT3 := Blk.alloc hT2 (.stringIter ⟨h.toArray⟩ 0)
  have y3 := y2.alloc (.stringIter ⟨h.toArray⟩ 0)
  have it3 : IterB (w2.alloc (.stringIter ⟨h.toArray⟩ 0)) w2.heap.size ⟨h.toArray⟩ 0 := heap_alloc_new w2 _
  have lT := hT2.lt
  clear hh1 hg1 hI1 hT1 y1 hI2 hT2 y2 hx2
  go_wp2_with fail
  have hw3 : w2.iter ⟨h.toArray⟩ 0 = w2.alloc (.stringIter ⟨h.toArray⟩ 0) := rfl
  rw [hw3]
  clear hw3
  generalize (w2.alloc (.stringIter ⟨h.toArray⟩ 0)) = W3 at hI3 hT3 y3 it3 ⊢
  generalize w2.heap.size = it at it3 lT ⊢
  go_loopg [3] h.length (fun gk t3 wr => ∃ p, gk = h.length - p ∧ p ≤ h.length ∧ IterB wr it ⟨h.toArray⟩ p ∧ wr.ownsRow (it + 1) 3 1 t3 (readsK i h p).length (ints (readsK i h p)) ∧ Blk wr w.heap.size 41 i.cells ∧ Blk wr tb 153 #[.int .i64 i.a, .int .i64 i.b, .int .i64 i.c] ∧ Ext w wr)
  case atStart => exact ⟨0, by omega, by omega, it3, World.ownsRow_nil _ _ _ _, hI3, hT3, y3⟩
  case round =>
    obtain ⟨p, hgk, hp, hit, ho, hI, hT, hx⟩ := hrel
    have HGK := Lib.hid hgk
    have HFAR := Lib.hid (fun j hj => (ho.lt j hj).1)
    clear hgk
    by_cases hlt : p < h.length
    · have hps : p < (⟨h.toArray⟩ : ByteArray).size := show p < h.toArray.size by simpa using hlt
      obtain ⟨c, hc⟩ : ∃ c, c = h[p] := ⟨_, rfl⟩
      have hcN : ((⟨h.toArray⟩ : ByteArray)[p]'hps).toNat = c.toNat := by rw [hc]; rfl
      have hca : c.toNat < 128 := by rw [hc]; exact HAS.out _ (List.getElem_mem hlt)
      have hgd : h.getD p 0 = c := by simp [hlt, hc]
      obtain ⟨wn, hnx, hit', hkn⟩ := hit.next hps (by rw [hcN]; exact hca)
      rw [hcN] at hnx
      have HGD := Lib.hid hgd
      have ho' := own_kept ho hkn (fun j hj e => by have := HFAR.out j hj; omega)
      have hI' := Blk.kept hI hkn (by omega)
      have hT' := Blk.kept hT hkn (by omega)
      have hcI' := Blk.cell hI'
      have yn : Ext w wn := hx.trans' hkn (fun j hj e => by omega)
      clear hc hcN hgd hit ho hI hT hx hkn
      obtain ⟨cn, hcn⟩ : ∃ cn, cn = c.toNat := ⟨_, rfl⟩
      rw [← hcn] at hnx
      have HC : Hid ((c != 119) = ((cn : Int) != 119)) := Lib.hid (by
        by_cases e : c = 119
        · subst e; rw [hcn]; rfl
        · have h1 : ¬ cn = 119 := fun f => e (UInt8.toNat_inj.1 (by rw [← hcn, f]; rfl))
          rw [show (c != 119) = true by simpa using e, show ((cn : Int) != 119) = true by simp; omega])
      clear hcn hca
      rcases (by omega : p = 0 ∨ p = 1 ∨ p = 2) with rfl | rfl | rfl
      · cases hbw : ((cn : Int) != 119)
        · cases hb17 : (i.op != 17)
          · have hsk : skipR i c 0 = false := by simp [skipR, HC.out, *]
            have HSK := Lib.hid hsk
            clear hsk
            have hix := Blk.cell hT'
            have HO' := Lib.hid ho'
            go_wp2_with fail
            refine (contains_own (nth3 i 0) ho' (by have := readsK_len i h 0; omega)).mono ?_
            rintro e w4 ⟨rfl, rfl⟩
            cases hct : (readsK i h 0).contains (nth3 i 0)
            · have hrk : readsK i h (0 + 1) = readsK i h 0 ++ [nth3 i 0] := readsK_new (by rw [HGD.out, HSK.out, hct]; simp)
              have HRK := Lib.hid hrk
              clear hrk hct
              go_upto_region 10 with (fail)
              go_step
              iterate 5 (refine wpList_step (fun K hK => ?_); go_simp; (try go_bits); refine hK _ _ ?_; clear hK K)
              obtain ⟨v2, w5, hr5, ho5, hk5⟩ := appInt (wn.alloc (.cells #[.int .i64 (nth3 i 0)] 3)) _ _ _ (readsK i h 0) (ho'.alloc _) wn.heap.size 0 1 1 [nth3 i 0] rfl (by simpa [ints] using Row.of_blk (Blk.new wn 3 #[.int .i64 (nth3 i 0)])) (by have := readsK_len i h 0; omega) (by have := hit'.lt; simp; omega)
              have hfr := HFAR.out
              have hlI := hI'.lt
              have hlT := hT'.lt
              have hli := hit'.lt
              have k5 : Kept (fun j => it < j) wn w5 := ((Kept.refl _ wn).alloc (.cells #[.int .i64 (nth3 i 0)] 3)).trans' hk5 (fun j hj e => by have := hfr j e; omega)
              have hit5 := hit'.kept k5 (by omega)
              have hI5 := Blk.kept hI' k5 (by omega)
              have hT5 := Blk.kept hT' k5 (by omega)
              have y5 : Ext w w5 := yn.trans' k5 (fun j hj e => by omega)
              refine wpList_app rfl (.tmp 40) (.tmp 44) 138 rfl rfl rfl rfl hr5 ?_
              clear hr5 hfr
              go_wp2_with fail
              go_roundg (h.length - (0 + 1))
              case measure => have := HGK.out; omega
              case rel => exact ⟨0 + 1, rfl, hlt, hit5, by rw [HRK.out, List.length_append]; exact ho5, hI5, hT5, y5⟩
            · have hrk : readsK i h (0 + 1) = readsK i h 0 := readsK_skip (.inr hct)
              have HRK := Lib.hid hrk
              clear hrk hct
              go_wp2_with fail
              go_roundg (h.length - (0 + 1))
              case measure => have := HGK.out; omega
              case rel => exact ⟨0 + 1, rfl, hlt, hit', by rw [HRK.out]; exact ho', hI', hT', yn⟩
          · have hsk : skipR i c 0 = true := by simp [skipR, HC.out, *]
            have hrk : readsK i h (0 + 1) = readsK i h 0 := readsK_skip (.inl (by rw [HGD.out]; exact hsk))
            have HRK := Lib.hid hrk
            clear hsk hrk
            go_wp2_with fail
            go_roundg (h.length - (0 + 1))
            case measure => have := HGK.out; omega
            case rel => exact ⟨0 + 1, rfl, hlt, hit', by rw [HRK.out]; exact ho', hI', hT', yn⟩
        · have hsk : skipR i c 0 = true := by simp [skipR, HC.out, *]
          have hrk : readsK i h (0 + 1) = readsK i h 0 := readsK_skip (.inl (by rw [HGD.out]; exact hsk))
          have HRK := Lib.hid hrk
          clear hsk hrk
          go_wp2_with fail
          go_roundg (h.length - (0 + 1))
          case measure => have := HGK.out; omega
          case rel => exact ⟨0 + 1, rfl, hlt, hit', by rw [HRK.out]; exact ho', hI', hT', yn⟩
      · cases hbw : ((cn : Int) != 119)
        · cases hb15 : (i.op == 15)
          · have hsk : skipR i c 1 = false := by simp [skipR, HC.out, *]
            have HSK := Lib.hid hsk
            clear hsk
            have hix := Blk.cell hT'
            have HO' := Lib.hid ho'
            go_wp2_with fail
            refine (contains_own (nth3 i 1) ho' (by have := readsK_len i h 1; omega)).mono ?_
            rintro e w4 ⟨rfl, rfl⟩
            cases hct : (readsK i h 1).contains (nth3 i 1)
            · have hrk : readsK i h (1 + 1) = readsK i h 1 ++ [nth3 i 1] := readsK_new (by rw [HGD.out, HSK.out, hct]; simp)
              have HRK := Lib.hid hrk
              clear hrk hct
              go_upto_region 10 with (fail)
              go_step
              iterate 5 (refine wpList_step (fun K hK => ?_); go_simp; (try go_bits); refine hK _ _ ?_; clear hK K)
              obtain ⟨v2, w5, hr5, ho5, hk5⟩ := appInt (wn.alloc (.cells #[.int .i64 (nth3 i 1)] 3)) _ _ _ (readsK i h 1) (ho'.alloc _) wn.heap.size 0 1 1 [nth3 i 1] rfl (by simpa [ints] using Row.of_blk (Blk.new wn 3 #[.int .i64 (nth3 i 1)])) (by have := readsK_len i h 1; omega) (by have := hit'.lt; simp; omega)
              have hfr := HFAR.out
              have hlI := hI'.lt
              have hlT := hT'.lt
              have hli := hit'.lt
              have k5 : Kept (fun j => it < j) wn w5 := ((Kept.refl _ wn).alloc (.cells #[.int .i64 (nth3 i 1)] 3)).trans' hk5 (fun j hj e => by have := hfr j e; omega)
              have hit5 := hit'.kept k5 (by omega)
              have hI5 := Blk.kept hI' k5 (by omega)
              have hT5 := Blk.kept hT' k5 (by omega)
              have y5 : Ext w w5 := yn.trans' k5 (fun j hj e => by omega)
              refine wpList_app rfl (.tmp 40) (.tmp 44) 138 rfl rfl rfl rfl hr5 ?_
              clear hr5 hfr
              go_wp2_with fail
              go_roundg (h.length - (1 + 1))
              case measure => have := HGK.out; omega
              case rel => exact ⟨1 + 1, rfl, hlt, hit5, by rw [HRK.out, List.length_append]; exact ho5, hI5, hT5, y5⟩
            · have hrk : readsK i h (1 + 1) = readsK i h 1 := readsK_skip (.inr hct)
              have HRK := Lib.hid hrk
              clear hrk hct
              go_wp2_with fail
              go_roundg (h.length - (1 + 1))
              case measure => have := HGK.out; omega
              case rel => exact ⟨1 + 1, rfl, hlt, hit', by rw [HRK.out]; exact ho', hI', hT', yn⟩
          · have hsk : skipR i c 1 = true := by simp [skipR, HC.out, *]
            have hrk : readsK i h (1 + 1) = readsK i h 1 := readsK_skip (.inl (by rw [HGD.out]; exact hsk))
            have HRK := Lib.hid hrk
            clear hsk hrk
            go_wp2_with fail
            go_roundg (h.length - (1 + 1))
            case measure => have := HGK.out; omega
            case rel => exact ⟨1 + 1, rfl, hlt, hit', by rw [HRK.out]; exact ho', hI', hT', yn⟩
        · have hsk : skipR i c 1 = true := by simp [skipR, HC.out, *]
          have hrk : readsK i h (1 + 1) = readsK i h 1 := readsK_skip (.inl (by rw [HGD.out]; exact hsk))
          have HRK := Lib.hid hrk
          clear hsk hrk
          go_wp2_with fail
          go_roundg (h.length - (1 + 1))
          case measure => have := HGK.out; omega
          case rel => exact ⟨1 + 1, rfl, hlt, hit', by rw [HRK.out]; exact ho', hI', hT', yn⟩
      · cases hbw : ((cn : Int) != 119)
        · have hsk : skipR i c 2 = false := by simp [skipR, HC.out, *]
          have HSK := Lib.hid hsk
          clear hsk
          have hix := Blk.cell hT'
          have HO' := Lib.hid ho'
          go_wp2_with fail
          refine (contains_own (nth3 i 2) ho' (by have := readsK_len i h 2; omega)).mono ?_
          rintro e w4 ⟨rfl, rfl⟩
          cases hct : (readsK i h 2).contains (nth3 i 2)
          · have hrk : readsK i h (2 + 1) = readsK i h 2 ++ [nth3 i 2] := readsK_new (by rw [HGD.out, HSK.out, hct]; simp)
            have HRK := Lib.hid hrk
            clear hrk hct
            go_upto_region 10 with (fail)
            go_step
            iterate 5 (refine wpList_step (fun K hK => ?_); go_simp; (try go_bits); refine hK _ _ ?_; clear hK K)
            obtain ⟨v2, w5, hr5, ho5, hk5⟩ := appInt (wn.alloc (.cells #[.int .i64 (nth3 i 2)] 3)) _ _ _ (readsK i h 2) (ho'.alloc _) wn.heap.size 0 1 1 [nth3 i 2] rfl (by simpa [ints] using Row.of_blk (Blk.new wn 3 #[.int .i64 (nth3 i 2)])) (by have := readsK_len i h 2; omega) (by have := hit'.lt; simp; omega)
            have hfr := HFAR.out
            have hlI := hI'.lt
            have hlT := hT'.lt
            have hli := hit'.lt
            have k5 : Kept (fun j => it < j) wn w5 := ((Kept.refl _ wn).alloc (.cells #[.int .i64 (nth3 i 2)] 3)).trans' hk5 (fun j hj e => by have := hfr j e; omega)
            have hit5 := hit'.kept k5 (by omega)
            have hI5 := Blk.kept hI' k5 (by omega)
            have hT5 := Blk.kept hT' k5 (by omega)
            have y5 : Ext w w5 := yn.trans' k5 (fun j hj e => by omega)
            refine wpList_app rfl (.tmp 40) (.tmp 44) 138 rfl rfl rfl rfl hr5 ?_
            clear hr5 hfr
            go_wp2_with fail
            go_roundg (h.length - (2 + 1))
            case measure => have := HGK.out; omega
            case rel => exact ⟨2 + 1, rfl, hlt, hit5, by rw [HRK.out, List.length_append]; exact ho5, hI5, hT5, y5⟩
          · have hrk : readsK i h (2 + 1) = readsK i h 2 := readsK_skip (.inr hct)
            have HRK := Lib.hid hrk
            clear hrk hct
            go_wp2_with fail
            go_roundg (h.length - (2 + 1))
            case measure => have := HGK.out; omega
            case rel => exact ⟨2 + 1, rfl, hlt, hit', by rw [HRK.out]; exact ho', hI', hT', yn⟩
        · have hsk : skipR i c 2 = true := by simp [skipR, HC.out, *]
          have hrk : readsK i h (2 + 1) = readsK i h 2 := readsK_skip (.inl (by rw [HGD.out]; exact hsk))
          have HRK := Lib.hid hrk
          clear hsk hrk
          go_wp2_with fail
          go_roundg (h.length - (2 + 1))
          case measure => have := HGK.out; omega
          case rel => exact ⟨2 + 1, rfl, hlt, hit', by rw [HRK.out]; exact ho', hI', hT', yn⟩
    · have hnx := fun ty => hit.done (show ¬ p < h.toArray.size by simpa using hlt) ty
      have ep : p = h.length := by omega
      rw [ep, ← HR.out] at ho
      clear ep
      go_wp2_with fail
      go_ret
      exact ⟨_, rfl, own_mono ho (by omega), hx⟩
end Go.Proofs.YtahljceanodhkaaGreatDoor

/- Package code: Writes. -/
namespace Go.Proofs.YtahljceanodhkaaGreatDoor
open Go.RowKit
def writesN (i : Ins) : Int := if Lib.hasPrefix (hasI i).data.toList [119] = true ∧ ¬ i.op = 16 then i.a else -1
set_option maxHeartbeats 1000000 in
theorem iwrites_any (i : Ins) (w : World) (hops : OpsAt w) : Calls Tryz.prog 135 #[.agg i.cells] w fun e w' => e = .returned (.int .i64 (writesN i)) ∧ Ext w w' := by
  have hx0 : Ext w _ := (Kept.refl _ w).alloc (.cells i.cells 41)
  have hI0 := Blk.new w 41 i.cells
  have HOP := Lib.hid (hops.ext hx0)
  clear hops
  obtain ⟨P, hP⟩ : ∃ P, P = Lib.hasPrefix (hasI i).data.toList [119] := ⟨_, rfl⟩
  obtain ⟨W, hW⟩ : ∃ W, W = writesN i := ⟨_, rfl⟩
  rw [← hW]
  have HW : Hid (W = if P = true ∧ ¬ i.op = 16 then i.a else -1) := Lib.hid (by rw [hW, hP]; rfl)
  have HP := Lib.hid hP
  clear hP hW
  go_enter Tryz.func135, Tryz.ntmps135
  go_wp2_with fail
  refine (has_any i _ HOP.out).mono ?_
  rintro e w1 ⟨rfl, hx1⟩
  go_wp2_with fail
  refine (Tryz.strings_HasPrefix (hasI i) ⟨#[119]⟩ _).mono ?_
  rintro e w2 ⟨e2, rfl⟩
  replace e2 : e = .returned (.bool P) := by rw [e2, HP.out]
  subst e2
  have hI1 := Blk.ext hI0 hx1
  have hc1 := Blk.cell hI1
  have hl1 := hI1.lt
  have y1 := hx0.trans hx1
  clear hI0 hx0 hx1
  cases P
  · go_wp2_with fail
    go_ret
    exact ⟨ret_int (by rw [HW.out]; simp), y1⟩
  · cases h16 : (i.op != 16)
    · go_wp2_with fail
      go_ret
      exact ⟨ret_int (by rw [HW.out]; simp at h16; simp [h16]), y1⟩
    · go_wp2_with fail
      go_ret
      exact ⟨ret_int (by rw [HW.out]; simp at h16; simp [h16]), y1⟩
def mplace (i : Ins) (m : List Int) : List Int := if i.op = 15 ∧ 0 ≤ farI i m ∧ (readsN i).contains (farI i m) = false then readsN i ++ [farI i m] else readsN i
def mwrites (i : Ins) (m : List Int) : Int := if i.op = 16 then farI i m else if i.op = 15 ∧ farI i m < 0 then -1 else writesN i
/-- the words that the next step reads, and that which it writes -/
def mreads (c : List Ins) (pc halt : Int) (m : List Int) : List Int × Int :=
  if halt = 0 then (match nextI c pc m.length with | none => ([], -1) | some i => (sortI (mplace i m), mwrites i m)) else ([], -1)
theorem mplace_no {i : Ins} {m : List Int} (h : (i.op == 15) = false) : mplace i m = readsN i := if_neg (fun f => by rw [f.1] at h; cases h)
theorem mplace_lost {i : Ins} {m : List Int} (h : ¬ 0 ≤ farI i m) : mplace i m = readsN i := if_neg (fun f => h f.2.1)
theorem mplace_old {i : Ins} {m : List Int} (h : (readsN i).contains (farI i m) = true) : mplace i m = readsN i := if_neg (fun f => by rw [f.2.2] at h; cases h)
theorem mplace_new {i : Ins} {m : List Int} (h15 : (i.op == 15) = true) (h0 : 0 ≤ farI i m) (h : (readsN i).contains (farI i m) = false) : mplace i m = readsN i ++ [farI i m] := if_pos ⟨by simpa using h15, h0, h⟩
theorem mplace_16 {i : Ins} {m : List Int} (h : (i.op == 16) = true) : mplace i m = readsN i := if_neg (fun f => by rw [f.1] at h; cases h)
theorem mwrites_16 {i : Ins} {m : List Int} (h : (i.op == 16) = true) : mwrites i m = farI i m := if_pos (by simpa using h)
theorem mwrites_no {i : Ins} {m : List Int} (h16 : (i.op == 16) = false) (h : (i.op == 15) = false ∨ 0 ≤ farI i m) : mwrites i m = writesN i := by
  have h1 : ¬ i.op = 16 := by simpa using h16
  unfold mwrites
  rw [if_neg h1, if_neg]
  rintro ⟨e, f⟩
  rcases h with h | h
  · rw [e] at h; cases h
  · omega
theorem mwrites_lost {i : Ins} {m : List Int} (h16 : (i.op == 16) = false) (h15 : (i.op == 15) = true) (h : ¬ 0 ≤ farI i m) : mwrites i m = -1 := by
  have h1 : ¬ i.op = 16 := by simpa using h16
  unfold mwrites
  rw [if_neg h1, if_pos ⟨by simpa using h15, by omega⟩]
theorem readsN_len (i : Ins) : (readsN i).length ≤ 3 := by
  unfold readsN
  split
  · exact Nat.le_trans (readsK_len _ _ _) (hasN_len _)
  · simp
/-- numbers and one more handed back -/
def OwnsIntsW (w w' : World) (e : Ending) (r : List Int × Int) : Prop := ∃ v, e = .returned (.tuple #[v, .int .i64 r.2]) ∧ w'.ownsRow w.heap.size 3 1 v r.1.length (ints r.1) ∧ Ext w w'
set_option maxRecDepth 100000 in
set_option maxHeartbeats 2000000 in
theorem mreads_halt (A : Option Addr) (cn cap : Nat) (pc halt : Int) (M : Option Addr) (n cap' : Nat) (w : World) (hg : rightS pc halt n = true) (hh : ¬ halt = 0) :
    Calls Tryz.prog 77 #[.slice A cn cap, .agg (stCells pc M n cap' halt)] w fun e w' => OwnsIntsW w w' e ([], -1) := by
  have hx0 : Ext w _ := (Kept.refl _ w).alloc (.cells (stCells pc M n cap' halt) 70)
  have hS0 := Blk.new w 70 (stCells pc M n cap' halt)
  have HG := Lib.hid hg
  have bh : (halt != 0) = true := by simpa using hh
  clear hg hh
  go_enter Tryz.func77, Tryz.ntmps77
  go_wp2_with fail
  refine (right_any pc halt M n cap' _).mono ?_
  rintro e w1 ⟨rfl, hx1⟩
  rw [HG.out]
  have hc1 := Blk.cell (Blk.ext hS0 hx1)
  have hl1 := (Blk.ext hS0 hx1).lt
  go_wp2_with fail
  go_ret2
  exact ⟨_, rfl, World.ownsRow_nil _ _ _ _, hx0.trans hx1⟩
set_option maxRecDepth 100000 in
set_option maxHeartbeats 2000000 in
theorem mreads_go (A : Option Addr) (b off cn cap : Nat) (c : List Ins) (pc : Int) (b' off' n cap' : Nat) (m : List Int) (w : World) (h : RunPre w A b off cn c b' off' n pc 0 m) :
    Calls Tryz.prog 77 #[.slice A cn cap, .agg (stCells pc (some ⟨b', off', none⟩) n cap' 0)] w fun e w' => OwnsIntsW w w' e (mreads c pc 0 m) := by
  obtain ⟨hops, hcA, hrow, hcn, hcn2, hn, hg, hmok, hmrow⟩ := h
  obtain ⟨h1, h2, h3, h4, h5, h6⟩ := rightS_inv hg
  have HOP := Lib.hid hops
  have HA := Lib.hid hcA
  have HR := Lib.hid hrow
  have HCN := Lib.hid hcn
  have HN := Lib.hid hn
  have HG := Lib.hid hg
  have HO := Lib.hid hmok
  have HMR := Lib.hid hmrow
  clear hops hcA hrow hcn hn hg hmok hmrow
  have hx0 : Ext w _ := (Kept.refl _ w).alloc (.cells (stCells pc (some ⟨b', off', none⟩) n cap' 0) 70)
  have hS0 := Blk.new w 70 (stCells pc (some ⟨b', off', none⟩) n cap' 0)
  go_enter Tryz.func77, Tryz.ntmps77
  go_wp2_with fail
  refine (right_any pc 0 (some ⟨b', off', none⟩) n cap' _).mono ?_
  rintro e w1 ⟨rfl, hx1⟩
  rw [HG.out]
  have hS1 := Blk.ext hS0 hx1
  have hc1 := Blk.cell hS1
  have hl1 := hS1.lt
  have y1 := hx0.trans hx1
  clear hS0 hx0 hx1
  go_wp2_with fail
  refine (next_any w.heap.size pc 0 (some ⟨b', off', none⟩) n cap' A b off c cn cap _ HCN.out hcn2 h3 HA.out (HOP.out.ext y1) hS1 (fun h0 => (HR.out h0).ext y1)).mono ?_
  rintro e w2 ⟨e2, hx2⟩
  cases hnx : nextI c pc n with
  | none =>
    replace e2 : e = .returned (.tuple #[.agg (Ins.cells ⟨0, 0, 0, 0⟩), .bool false]) := by rw [e2, hnx]; rfl
    subst e2
    have HRS : Hid (mreads c pc 0 m = ([], -1)) := Lib.hid (by simp [mreads, ← HN.out, hnx])
    clear hnx
    go_wp2_with fail
    go_ret2
    exact ⟨.slice none 0 0, by rw [HRS.out]; rfl, by rw [HRS.out]; exact World.ownsRow_nil _ _ _ _, (y1.trans hx2).alloc _⟩
  | some i =>
    replace e2 : e = .returned (.tuple #[.agg i.cells, .bool true]) := by rw [e2, hnx]; rfl
    subst e2
    have hri := nextI_right hnx
    rw [← HCN.out] at hri
    have HRI := Lib.hid hri
    have HRS : Hid (mreads c pc 0 m = (sortI (mplace i m), mwrites i m)) := Lib.hid (by simp [mreads, ← HN.out, hnx])
    have HIS : Hid (isOp i.op = true) := Lib.hid (by have := rightI_parts hri; simp [isOp]; omega)
    clear hnx hri
    have x2 := hx2.alloc (.cells i.cells 41)
    have hI2 := Blk.new w2 41 i.cells
    have hS2 := Blk.ext hS1 x2
    have y2 := y1.trans x2
    have hl2 := (Blk.ext hS1 hx2).lt
    clear hc1 hS1 hx2 x2
    go_upto_region 6 with (fail)
    generalize (w2.alloc (.cells i.cells 41)) = W2 at hI2 hS2 y2 ⊢
    generalize w2.heap.size = ic at hI2 hl2 ⊢
    have lI := hI2.lt
    refine wp_region_3 (fun w3 => Ext W2 w3) [(0, 1), (2, 1), (1, 0), (3, 0), (4, 2), (5, 2)] (by kernel_rfl) (by kernel_rfl) (by kernel_rfl) (by kernel_rfl) ?_; intro l' hl'; simp only [List.map_cons, List.map_nil, List.getD_cons_zero, List.getD_cons_succ] at hl'; subst hl'
    (repeat (first | ((apply w3_pure); (· go_simp); (· (intro w1; go_simp; try with_reducible rfl)); (intro K hK; go_simp; refine hK _ _ ?_; clear hK K)) | ((apply w3_skip); (· go_simp); (intro K hK; go_simp; refine hK _ _ ?_; clear hK K)) | ((apply w3_take); (· exact (Kept.drew (Kept.refl _ _))); (· go_simp); (· (intro w1 hS; have d1 := Blk.ext hI2 hS; have d2 := Blk.has d1; have d3 := Blk.gets d1;  go_simp; try with_reducible rfl)); (intro K hK; go_simp; refine hK _ _ ?_; clear hK K)) | ((apply w3_pass); (· exact (Kept.drew (Kept.refl _ _))); (· go_simp); (intro K hK; go_simp; refine hK _ _ ?_; clear hK K))))
    (refine w3_act (fun K hK => ?_); go_simp)
    go_wp2_with fail
    refine (ireads_any i _ ((HOP.out.ext y2).ext ((Kept.refl _ W2).drew)) HIS.out).mono ?_
    rintro e w3 ⟨v3, rfl, ho3, hx3⟩
    have x3 : Ext W2 w3 := ((Kept.refl _ W2).drew).trans hx3
    refine hK.out _ _ (fun _ => x3) ?_
    clear hK K
    (repeat (first | ((apply w3_pure); (· go_simp); (· (intro w1; go_simp; try with_reducible rfl)); (intro K hK; go_simp; refine hK _ _ ?_; clear hK K)) | ((apply w3_skip); (· go_simp); (intro K hK; go_simp; refine hK _ _ ?_; clear hK K)) | ((apply w3_take); (· exact x3); (· go_simp); (· (intro w1 hS; have d1 := Blk.ext hI2 hS; have d2 := Blk.has d1; have d3 := Blk.gets d1;  go_simp; try with_reducible rfl)); (intro K hK; go_simp; refine hK _ _ ?_; clear hK K)) | ((apply w3_pass); (· exact x3); (· go_simp); (intro K hK; go_simp; refine hK _ _ ?_; clear hK K))))
    (refine w3_act (fun K hK => ?_); go_simp)
    go_wp2_with fail
    refine (iwrites_any i _ ((HOP.out.ext y2).ext x3)).mono ?_
    rintro e w4 ⟨rfl, hx4⟩
    have x4 := x3.trans hx4
    refine hK.out _ _ (fun _ => x4) ?_
    clear hK K
    (repeat (first | ((apply w3_pure); (· go_simp); (· (intro w1; go_simp; try with_reducible rfl)); (intro K hK; go_simp; refine hK _ _ ?_; clear hK K)) | ((apply w3_skip); (· go_simp); (intro K hK; go_simp; refine hK _ _ ?_; clear hK K)) | (refine w3_end (by kernel_rfl) (fun K hK => ?_); go_simp; refine hK.out _ _ ?_; clear hK K))); refine w3_nil ?_
    have ho4 := own_ext ho3 hx4
    have hI4 := Blk.ext hI2 x4
    have hS4 := Blk.ext hS2 x4
    have y4 := y2.trans x4
    have hge : ∀ j, v3.ownBlock = some j → W2.heap.size ≤ j := fun j hj => (ho3.lt j hj).1
    have HGE := Lib.hid hge
    clear hI2 hS2 hx3 hx4 ho3 hge
    have hh4 := Blk.has hI4
    have hg4 := Blk.gets hI4
    have lW := x4.size
    clear x3 x4
    go_wp2_with fail
    refine (far_any i cn w.heap.size pc 0 b' off' n cap' m _ HN.out h2 HRI.out HO.out hS4 (HMR.out.ext y4)).mono ?_
    rintro e w5 ⟨e5, hx5⟩
    obtain ⟨F, hF⟩ : ∃ F, F = farI i m := ⟨_, rfl⟩
    rw [← hF] at e5
    subst e5
    have HF := Lib.hid hF
    clear hF
    have ho5 := own_ext ho4 hx5
    have hI5 := Blk.ext hI4 hx5
    have y5 := y4.trans hx5
    have l5 := hx5.size
    clear hI4 hS4 y4 hh4 hg4 ho4 hx5
    have hc5 := Blk.cell hI5
    have lI5 := hI5.lt
    cases b16 : (i.op == 16)
    · cases b15 : (i.op == 15)
      · have HMP : Hid (mplace i m = readsN i) := Lib.hid (mplace_no b15)
        have HMW : Hid (mwrites i m = writesN i) := Lib.hid (mwrites_no b16 (.inl b15))
        go_wp2_with fail
        refine (sort_own ho5 (by have := readsN_len i; omega)).mono ?_
        rintro e w6 ⟨rfl, ho6, hk6⟩
        have y6 : Ext w w6 := y5.trans' hk6 (fun j hj e => by have := HGE.out j e; omega)
        have ho7 := own_mono ho6 (show w.heap.size ≤ W2.heap.size by omega)
        clear hk6 ho6 ho5
        go_wp2_with fail
        go_ret2
        refine ⟨v3, by rw [HRS.out, HMW.out]; rfl, ?_, y6⟩
        rw [HRS.out, HMP.out]
        simpa [sortI] using ho7
      · by_cases hF0 : 0 ≤ F
        · have HMW : Hid (mwrites i m = writesN i) := Lib.hid (mwrites_no b16 (.inr (by rw [← HF.out]; exact hF0)))
          have bF : decide (F < 0) = false := by simp; omega
          go_wp2_with fail
          refine (contains_own F ho5 (by have := readsN_len i; omega)).mono ?_
          rintro e w6 ⟨rfl, rfl⟩
          cases hct : (readsN i).contains F
          · have HMP : Hid (mplace i m = readsN i ++ [F]) := Lib.hid (by rw [HF.out]; exact mplace_new b15 (by rw [← HF.out]; exact hF0) (by rw [← HF.out]; exact hct))
            clear hct
            go_upto_region 13 with (fail)
            go_step
            iterate 3 (refine wpList_step (fun K hK => ?_); go_simp; (try go_bits); refine hK _ _ ?_; clear hK K)
            obtain ⟨v7, w7, hr7, ho7, hk7⟩ := appInt (w5.alloc (.cells #[.int .i64 F] 3)) _ _ _ (readsN i) (ho5.alloc _) w5.heap.size 0 1 1 [F] rfl (by simpa [ints] using Row.of_blk (Blk.new w5 3 #[.int .i64 F])) (by have := readsN_len i; omega) (by simp; omega)
            refine wpList_app rfl (.tmp 55) (.tmp 57) 138 rfl rfl rfl rfl hr7 ?_
            clear hr7
            have y7 : Ext w w7 := (y5.alloc _).trans' hk7 (fun j hj e => by have := HGE.out j e; omega)
            have hge7 : ∀ j, v7.ownBlock = some j → W2.heap.size ≤ j := fun j hj => (ho7.lt j hj).1
            have HGE7 := Lib.hid hge7
            clear hge7 hk7 ho5
            go_wp2_with fail
            refine (sort_own ho7 (by have := readsN_len i; omega)).mono ?_
            rintro e w8 ⟨rfl, ho8, hk8⟩
            have y8 : Ext w w8 := y7.trans' hk8 (fun j hj e => by have := HGE7.out j e; omega)
            have ho9 := own_mono ho8 (show w.heap.size ≤ W2.heap.size by omega)
            clear hk8 ho8 ho7
            go_wp2_with fail
            go_ret2
            refine ⟨v7, by rw [HRS.out, HMW.out]; rfl, ?_, y8⟩
            rw [HRS.out, HMP.out]
            simpa [sortI] using ho9
          · have HMP : Hid (mplace i m = readsN i) := Lib.hid (mplace_old (by rw [← HF.out]; exact hct))
            clear hct
            go_wp2_with fail
            refine (sort_own ho5 (by have := readsN_len i; omega)).mono ?_
            rintro e w6 ⟨rfl, ho6, hk6⟩
            have y6 : Ext w w6 := y5.trans' hk6 (fun j hj e => by have := HGE.out j e; omega)
            have ho7 := own_mono ho6 (show w.heap.size ≤ W2.heap.size by omega)
            clear hk6 ho6 ho5
            go_wp2_with fail
            go_ret2
            refine ⟨v3, by rw [HRS.out, HMW.out]; rfl, ?_, y6⟩
            rw [HRS.out, HMP.out]
            simpa [sortI] using ho7
        · have HMP : Hid (mplace i m = readsN i) := Lib.hid (mplace_lost (by rw [← HF.out]; exact hF0))
          have HMW : Hid (mwrites i m = -1) := Lib.hid (mwrites_lost b16 b15 (by rw [← HF.out]; exact hF0))
          have bF : decide (F < 0) = true := by simp; omega
          go_wp2_with fail
          refine (sort_own ho5 (by have := readsN_len i; omega)).mono ?_
          rintro e w6 ⟨rfl, ho6, hk6⟩
          have y6 : Ext w w6 := y5.trans' hk6 (fun j hj e => by have := HGE.out j e; omega)
          have ho7 := own_mono ho6 (show w.heap.size ≤ W2.heap.size by omega)
          clear hk6 ho6 ho5
          go_wp2_with fail
          go_ret2
          refine ⟨v3, by rw [HRS.out, HMW.out]; rfl, ?_, y6⟩
          rw [HRS.out, HMP.out]
          simpa [sortI] using ho7
    · have HMP : Hid (mplace i m = readsN i) := Lib.hid (mplace_16 b16)
      have HMW : Hid (mwrites i m = F) := Lib.hid (by rw [HF.out]; exact mwrites_16 b16)
      go_wp2_with fail
      refine (sort_own ho5 (by have := readsN_len i; omega)).mono ?_
      rintro e w6 ⟨rfl, ho6, hk6⟩
      have y6 : Ext w w6 := y5.trans' hk6 (fun j hj e => by have := HGE.out j e; omega)
      have ho7 := own_mono ho6 (show w.heap.size ≤ W2.heap.size by omega)
      clear hk6 ho6 ho5
      go_wp2_with fail
      go_ret2
      refine ⟨v3, by rw [HRS.out, HMW.out]; rfl, ?_, y6⟩
      rw [HRS.out, HMP.out]
      simpa [sortI] using ho7
theorem mreads_any (A : Option Addr) (b off cn cap : Nat) (c : List Ins) (pc halt : Int) (b' off' n cap' : Nat) (m : List Int) (w : World) (h : RunPre w A b off cn c b' off' n pc halt m) :
    Calls Tryz.prog 77 #[.slice A cn cap, .agg (stCells pc (some ⟨b', off', none⟩) n cap' halt)] w fun e w' => OwnsIntsW w w' e (mreads c pc halt m) := by
  by_cases hh : halt = 0
  · subst hh
    exact mreads_go A b off cn cap c pc b' off' n cap' m w h
  · rw [show mreads c pc halt m = ([], -1) by simp [mreads, hh]]
    exact mreads_halt A cn cap pc halt _ n cap' w h.right hh
end Go.Proofs.YtahljceanodhkaaGreatDoor

/- Words that are shown, in memory; the closure of Make that shows them. -/
namespace Go.Proofs.YtahljceanodhkaaGreatDoor
open Go.RowKit
theorem aggWword : aggT Tryz.prog 77 = true := by kernel_rfl
theorem sizeWword : sizeT Tryz.prog 77 = some 3 := by kernel_rfl
theorem wpLoadWword {dst : Option Tmp} {ty' : TypeId} {x : Operand} {pos : String} {after : Array Edge} {guard : Option (Nat × Bool)} {a : Act} {w : World} {K : Act → World → Prop} {Q : Exit → Act → World → Prop} (hx : isAt (a.eval x) = true) (hh : has w (blkOf (a.eval x)) (offOf (a.eval x)) 3 = true) :
    Oper.wp Tryz.prog { dst := dst, op := .load 77 x, type := ty', pos := pos, after := after, guard := guard } a w K Q = K (a.put dst (.agg (gets w (blkOf (a.eval x)) (offOf (a.eval x)) 3))) w := wp_load_big 3 aggWword sizeWword hx hh
theorem runLoadWword {ρ : Operand → Value} {dst : Option Tmp} {ty' : TypeId} {x : Operand} {pos : String} {after : Array Edge} {guard : Option (Nat × Bool)} {w : World} (hx : isAt (ρ x) = true) (hh : has w (blkOf (ρ x)) (offOf (ρ x)) 3 = true) :
    (execOp ρ { dst := dst, op := .load 77 x, type := ty', pos := pos, after := after, guard := guard }).run Tryz.prog w = .ok (.value (.agg (gets w (blkOf (ρ x)) (offOf (ρ x)) 3))) w := run_exec_load_big 3 aggWword sizeWword hx hh
theorem loadVarWword (w : World) (g off : Nat) (hh : has w g off 3 = true) : (loadVar 77 ⟨g, off, none⟩).run Tryz.prog w = .ok (.agg (gets w g off 3)) w := run_loadVar_big Tryz.prog w _ g off 3 aggWword sizeWword hh
attribute [go_sem] aggWword sizeWword
attribute [go_sem ↓ high] wpLoadWword loadVarWword runLoadWword
attribute [go_sem high] wpLoadWword
/-- a word as it lies in memory, and what it says -/
structure Wd where (at_ is_ : Int) (pa : Option Addr) (pn pk : Nat)
abbrev Wd.cells (d : Wd) : Array Value := #[.int .i64 d.at_, .int .i32 d.is_, .slice d.pa d.pn d.pk]
attribute [go_sem] Wd.cells
structure Wl where (at_ is_ : Int) (path : List Dg)
def wds (l : List Wd) : List Value := l.flatMap fun d => d.cells.toList
theorem wds_length (l : List Wd) : (wds l).length = l.length * 3 := by
  induction l with
  | nil => rfl
  | cons d l ih => show (d.cells.toList ++ wds l).length = _; rw [List.length_append, ih]; simp; omega
theorem wds_at : ∀ (l : List Wd) (k : Nat) (hk : k < l.length), ((wds l).drop (k * 3)).take 3 = (l[k]).cells.toList
  | d :: l, 0, _ => by simp [wds]
  | d :: l, k + 1, hk => by
    have ih := wds_at l k (by simpa using hk)
    show ((d.cells.toList ++ wds l).drop ((k + 1) * 3)).take 3 = _
    rw [show (k + 1) * 3 = d.cells.toList.length + k * 3 by simp; omega, List.drop_append, List.drop_of_length_le (by omega)]
    simpa using ih
theorem Row.wd {w : World} {b off : Nat} {l : List Wd} (h : Row w b off (wds l)) (k : Nat) (hk : k < l.length) : Proofs.YtahljceanodhkaaGreatDoor.has w b (off + k * 3) 3 = true ∧ gets w b (off + k * 3) 3 = (l[k]).cells := by
  have := h.sub (k * 3) 3 (by rw [wds_length]; omega)
  rw [wds_at l k hk] at this
  exact this
/-- a path by value -/
def PathV (w : World) (A : Option Addr) (n : Nat) (path : List Dg) : Prop := ∃ b off, PathAt w A b off n path
theorem PathV.ext {w w' : World} {A : Option Addr} {n : Nat} {path : List Dg} (h : PathV w A n path) (hx : Ext w w') : PathV w' A n path := by
  obtain ⟨b, off, h⟩ := h
  exact ⟨b, off, h.ext hx⟩
theorem PathV.kept {S : Nat → Prop} {w w' : World} {A : Option Addr} {n : Nat} {path : List Dg} (h : PathV w A n path) (hx : Kept S w w') (hs : ∀ i, S i → ∀ cur fr, ¬ w.heap[i]? = some (.cells cur 30 fr)) : PathV w' A n path := by
  obtain ⟨b, off, h⟩ := h
  exact ⟨b, off, h.kept hx hs⟩
structure WordV (w : World) (d : Wd) (l : Wl) : Prop where
  at_ : d.at_ = l.at_
  is_ : d.is_ = l.is_
  path : PathV w d.pa d.pn l.path
theorem WordV.ext {w w' : World} {d : Wd} {l : Wl} (h : WordV w d l) (hx : Ext w w') : WordV w' d l := ⟨h.at_, h.is_, h.path.ext hx⟩
/-- words, one by one -/
inductive WordsV (w : World) : List Wd → List Wl → Prop where
  | nil : WordsV w [] []
  | cons {d : Wd} {l : Wl} {ds : List Wd} {ls : List Wl} : WordV w d l → WordsV w ds ls → WordsV w (d :: ds) (l :: ls)
theorem WordsV.ext {w w' : World} (hx : Ext w w') : ∀ {ds : List Wd} {ls : List Wl}, WordsV w ds ls → WordsV w' ds ls
  | _, _, .nil => .nil
  | _, _, .cons h r => .cons (h.ext hx) (r.ext hx)
theorem WordsV.kept {S : Nat → Prop} {w w' : World} (hx : Kept S w w') (hs : ∀ i, S i → ∀ cur fr, ¬ w.heap[i]? = some (.cells cur 30 fr)) : ∀ {ds : List Wd} {ls : List Wl}, WordsV w ds ls → WordsV w' ds ls
  | _, _, .nil => .nil
  | _, _, .cons h r => .cons ⟨h.at_, h.is_, h.path.kept hx hs⟩ (r.kept hx hs)
/-- a row's own block is of the row's type -/
theorem own_ty {w : World} {base : Nat} {E : TypeId} {sz : Nat} {v : Value} {n : Nat} {xs : List Value} (h : w.ownsRow base E sz v n xs) {i : Nat} (hi : v.ownBlock = some i) : ∃ cur, w.heap[i]? = some (.cells cur E (0, 0)) := by
  rcases h.2 with ⟨hv, _⟩ | ⟨g, c, cur, hv, _, hc, _⟩
  · rw [hv] at hi; simp [Value.ownBlock] at hi
  · rw [hv] at hi
    simp [Value.ownBlock] at hi
    subst hi
    exact ⟨cur, hc⟩
theorem own_other {w : World} {base : Nat} {E E' : TypeId} {sz : Nat} {v : Value} {n : Nat} {xs : List Value} (h : w.ownsRow base E sz v n xs) (hE : ¬ E = E') : ∀ i, v.ownBlock = some i → ∀ cur fr, ¬ w.heap[i]? = some (.cells cur E' fr) := fun i hi cur fr e => by
  obtain ⟨cur', e'⟩ := own_ty h hi
  rw [e] at e'
  injection e' with e'
  injection e' with _ e' _
  exact hE e'.symm
theorem WordsV.len {w : World} : ∀ {ds : List Wd} {ls : List Wl}, WordsV w ds ls → ds.length = ls.length
  | _, _, .nil => rfl
  | _, _, .cons _ r => by simp [r.len]
theorem WordsV.snoc {w : World} {d : Wd} {l : Wl} (h : WordV w d l) : ∀ {ds : List Wd} {ls : List Wl}, WordsV w ds ls → WordsV w (ds ++ [d]) (ls ++ [l])
  | _, _, .nil => .cons h .nil
  | _, _, .cons h' r => .cons h' (r.snoc h)
theorem WordsV.get {w : World} : ∀ {ds : List Wd} {ls : List Wl} (_ : WordsV w ds ls) (k : Nat) (h1 : k < ds.length) (h2 : k < ls.length), WordV w ds[k] ls[k]
  | _, _, .cons h _, 0, _, _ => h
  | _, _, .cons _ r, k + 1, h1, h2 => r.get k (by simpa using h1) (by simpa using h2)
theorem wds_flatL (l : List Wd) : flatL (wds l) = true := by
  induction l with
  | nil => rfl
  | cons d l ih => show flatL (d.cells.toList ++ wds l) = true; simpa [flatL, Value.oneCell'] using ih
theorem appW (w : World) (base : Nat) (v : Value) (n : Nat) (xs : List Wd) (hown : w.ownsRow base 77 3 v n (wds xs)) (b off m c : Nat) (l : List Wd) (hm : m = l.length) (hr : Row w b off (wds l)) (hn : n + m ≤ 100000) (hbase : base ≤ w.heap.size) :
    ∃ v' w', (Builtin.append_ #[43, 43] 43 #[v, .slice (some ⟨b, off, none⟩) m c]).run Tryz.prog w = .ok v' w' ∧ w'.ownsRow base 77 3 v' (n + m) (wds (xs ++ l)) ∧ Kept (fun i => v.ownBlock = some i) w w' := by
  obtain ⟨i, hi, hz, h1, h2⟩ := info_parts infoW3
  have := app_some (P := Tryz.prog) Tryz.underlying43 hi hz h1 h2 (by rfl) (by decide) w base v n (wds xs) hown b off m c (wds l) (by rw [wds_length, hm]) hr (wds_flatL l) (by unfold maxLen; omega) (by omega) hbase
  rw [show wds xs ++ wds l = wds (xs ++ l) by simp [wds]] at this
  exact this
/-- a slice of words: what it says -/
structure WordsS (w : World) (A : Option Addr) (n : Nat) (ls : List Wl) : Prop where
  len : n = ls.length
  row : ∃ b off ds, (0 < n → A = some ⟨b, off, none⟩) ∧ (0 < n → Row w b off (wds ds)) ∧ (0 < n → ∃ cur fr, w.heap[b]? = some (.cells cur 77 fr)) ∧ WordsV w ds ls
theorem WordsS.kept {S : Nat → Prop} {w w' : World} {A : Option Addr} {n : Nat} {ls : List Wl} (h : WordsS w A n ls) (hx : Kept S w w') (hs : ∀ i, S i → ∀ cur fr, ¬ w.heap[i]? = some (.cells cur 30 fr)) (hs' : ∀ i, S i → ∀ cur fr, ¬ w.heap[i]? = some (.cells cur 77 fr)) : WordsS w' A n ls := by
  obtain ⟨hl, b, off, ds, h1, h2, h3, h4⟩ := h
  have hb : 0 < n → ¬ S b := fun h0 hS => by
    obtain ⟨cur, fr, e⟩ := h3 h0
    exact hs' b hS cur fr e
  refine ⟨hl, b, off, ds, h1, fun h0 => (h2 h0).kept hx (hb h0), fun h0 => ?_, h4.kept hx hs⟩
  obtain ⟨cur, fr, e⟩ := h3 h0
  exact ⟨cur, fr, (hx.block b (h2 h0).lt (hb h0)).trans e⟩
theorem WordsS.ext {w w' : World} {A : Option Addr} {n : Nat} {ls : List Wl} (h : WordsS w A n ls) (hx : Ext w w') : WordsS w' A n ls := h.kept hx (fun _ f => f.elim) (fun _ f => f.elim)
theorem WordsS.none (w : World) : WordsS w none 0 [] := ⟨rfl, 0, 0, [], fun h => by omega, fun h => by omega, fun h => by omega, .nil⟩
theorem WordsS.of_own {w : World} {base : Nat} {v : Value} {n : Nat} {ds : List Wd} {ls : List Wl} (h : w.ownsRow base 77 3 v n (wds ds)) (hw : WordsV w ds ls) : ∃ A c, v = .slice A n c ∧ WordsS w A n ls := by
  have hl := h.1
  rw [wds_length] at hl
  have hlen := hw.len
  rcases h.2 with ⟨hv, h0⟩ | ⟨g, c, cur, hv, hb, hc, hnc, hcm, hcs, htk⟩
  · subst h0
    exact ⟨_, 0, hv, by omega, 0, 0, ds, fun h => by omega, fun h => by omega, fun h => by omega, hw⟩
  · refine ⟨_, c, hv, by omega, g, 0, ds, fun _ => rfl, fun _ => ?_, fun _ => ⟨cur, (0, 0), hc⟩, hw⟩
    have hln : (wds ds).length = n * 3 := by rw [wds_length, hl]
    refine ⟨?_, ?_, (Array.getElem?_eq_some_iff.1 hc).1⟩
    · unfold has; rw [hc, hln]; simp; omega
    · unfold gets; rw [hc, hln]; simp only [List.drop_zero]; rw [htk]
theorem PathV.of_own {w : World} {base : Nat} {v : Value} {n : Nat} {l : List Dg} (h : w.ownsRow base 30 8 v n (digs l)) (hok : ∀ d ∈ l, d.ok) : ∃ A c, v = .slice A n c ∧ PathV w A n l := by
  have hl := h.1
  rw [digs_length] at hl
  rcases h.2 with ⟨hv, h0⟩ | ⟨g, c, cur, hv, hb, hc, hnc, hcm, hcs, htk⟩
  · subst h0
    exact ⟨_, 0, hv, 0, 0, by omega, hok, fun h => by omega, fun h => by omega, fun h => by omega⟩
  · refine ⟨_, c, hv, g, 0, by omega, hok, fun _ => rfl, fun _ => ?_, fun _ => ⟨cur, (0, 0), hc⟩⟩
    have hln : (digs l).length = n * 8 := by rw [digs_length, hl]
    refine ⟨?_, ?_, (Array.getElem?_eq_some_iff.1 hc).1⟩
    · unfold has; rw [hc, hln]; simp; omega
    · unfold gets; rw [hc, hln]; simp only [List.drop_zero]; rw [htk]
/-- what is shown of a word -/
def showW (m : List Int) (x : Int) : Wl := ⟨x, mget m x, pathT (m.map leafW) (hgt m.length) x.toNat⟩
/-- words handed back -/
def IsWords (w w' : World) (e : Ending) (ls : List Wl) : Prop := ∃ A n c, e = .returned (.slice A n c) ∧ WordsS w' A n ls ∧ Ext w w'
set_option maxRecDepth 100000 in
set_option maxHeartbeats 2000000 in
theorem shown_any (v : Value) (base k : Nat) (pl : List Int) (tb sb q : Nat) (pc halt : Int) (b' off' n cap' : Nat) (m : List Int) (w : World) (base' : Nat) (ho : w.ownsRow base 3 1 v k (ints pl)) (hk : k ≤ 1000) (hpl : ∀ x ∈ pl, 0 ≤ x ∧ x < n)
    (hn : n = m.length) (h1 : 1 ≤ n) (h2 : n ≤ 256) (hT : TreeOK w base' q (m.map leafW)) (hq : Blk w tb 126 #[.pointer (some ⟨q, 0, none⟩)]) (hS : StAt w sb 70 pc (some ⟨b', off', none⟩) n cap' halt) (hr : Row w b' off' (mems m)) :
    Calls Tryz.prog 76 #[v, .pointer (some ⟨tb, 0, none⟩), .pointer (some ⟨sb, 0, none⟩)] w fun e w' => IsWords w w' e (pl.map (showW m)) := by
  obtain ⟨hkl, hown⟩ := ownInt ho
  obtain ⟨A, g, c, hvv, hA, hcell⟩ : ∃ A g c, v = .slice A k c ∧ (0 < k → A = some ⟨g, 0, none⟩) ∧ (∀ j, j < pl.length → w.cell? ⟨g, j, none⟩ = some (.int .i64 (pl.getD j 0)) ∧ g < w.heap.size) := by
    rcases hown with ⟨hv, hnil⟩ | ⟨g, c, cur, hv, _, hcur, _, _, _, htk⟩
    · subst hnil
      have : k = 0 := by simpa using hkl
      subst this
      exact ⟨none, 0, 0, hv, fun h => by omega, fun j hj => by simp at hj⟩
    · exact ⟨_, g, c, hv, fun _ => rfl, fun j hj => ⟨ownInt_cell hcur hkl htk j hj, (Array.getElem?_eq_some_iff.1 hcur).1⟩⟩
  subst hvv
  have HKL := Lib.hid hkl
  have HA := Lib.hid hA
  have HC := Lib.hid hcell
  have HPL := Lib.hid hpl
  have HN := Lib.hid hn
  have HT := Lib.hid hT
  clear hkl hown ho hA hcell hpl hn hT
  have lT := hq.lt
  have lS := hS.lt
  have lM := hr.lt
  go_enter Tryz.func76, Tryz.ntmps76
  go_wp2_with fail
  go_loopw [5, 12] (fun t5 t12 wr => ∃ (j : Nat) (ds : List Wd), j ≤ k ∧ t12 = .int .i64 j ∧ wr.ownsRow w.heap.size 77 3 t5 j (wds ds) ∧ WordsV wr ds ((pl.take j).map (showW m)) ∧ Ext w wr) (fun _ t12 _ => k - (intOf t12).toNat)
  case atStart => exact ⟨0, [], by omega, rfl, World.ownsRow_nil _ _ _ _, .nil, Kept.refl _ _⟩
  case round =>
    obtain ⟨j, ds, hj, rfl, ho, hw, hx⟩ := hrel
    have hob : ∀ i, i < w.heap.size → (u5 : Value).ownBlock = some i → False := fun i hi e => by have := (ho.lt i e).1; omega
    have HOB := Lib.hid hob
    have HW := Lib.hid hw
    clear hob hw
    by_cases hlt : j < k
    · have hltI : (j : Int) < k := by omega
      have hjl : j < pl.length := by have := HKL.out; omega
      obtain rfl := HA.out (by omega)
      obtain ⟨hc, hgl⟩ := HC.out j hjl
      have hcj := (Kept.cell hx (p := ⟨g, j, none⟩) hgl (fun f => f)).trans hc
      obtain ⟨x, hxv⟩ : ∃ x, x = pl[j] := ⟨_, rfl⟩
      have hgd : pl.getD j 0 = x := by simp [hjl, hxv]
      rw [hgd] at hcj
      obtain ⟨hx0, hxn⟩ := HPL.out x (by rw [hxv]; exact List.getElem_mem hjl)
      obtain ⟨a, rfl⟩ : ∃ a : Nat, x = a := ⟨x.toNat, by omega⟩
      have han : a < n := by omega
      have HX := Lib.hid hxv
      clear hc hgd hxv hx0 hxn
      have hcq := (Kept.cell hx (p := ⟨tb, 0, none⟩) lT (fun f => f)).trans (Blk.cell hq 0)
      simp at hcq
      go_upto_region 5 with (fail)
      go_wp2_with fail
      refine (tpath_ok base' q (m.map leafW) a _ (by rw [List.length_map, ← HN.out]; exact h1) (by rw [List.length_map, ← HN.out]; omega) (by rw [List.length_map, ← HN.out]; exact han) (HT.out.ext hx)).mono ?_
      rintro e w1 ⟨v1, rfl, ho1, hx1⟩
      obtain ⟨pA, pc1, rfl, hpv⟩ := PathV.of_own ho1 (pathT_ok _ _ _)
      obtain ⟨Hh, hHh⟩ : ∃ Hh, hgt (m.map leafW).length = Hh := ⟨_, rfl⟩
      rw [hHh] at hpv ⊢
      have HHH := Lib.hid hHh
      have HPV := Lib.hid hpv
      clear hpv ho1 hHh hcj hcq
      have x1 := hx.trans hx1
      have hcS := Blk.cell (Blk.ext hS x1)
      have lS1 := (Blk.ext hS x1).lt
      have hal : a < m.length := by have := HN.out; omega
      have haI : (a : Int) < n := by omega
      have hcM := (hr.ext x1).mem a hal
      have lM1 := (hr.ext x1).lt
      obtain ⟨y, hy⟩ : ∃ y, y = m[a] := ⟨_, rfl⟩
      rw [← hy] at hcM
      have HY := Lib.hid hy
      clear hy
      go_upto_region 7 with (fail)
      go_step
      iterate 10 (refine wpList_step (fun K hK => ?_); go_simp; (try go_bits); refine hK _ _ ?_; clear hK K)
      have hWd : WordV w1 ⟨a, y, pA, Hh, pc1⟩ (showW m a) := ⟨rfl, by rw [HY.out]; simp [showW, mget, hal], by
        have := HPV.out
        rw [← HHH.out] at this ⊢
        simpa [showW] using this⟩
      have HWd := Lib.hid hWd
      clear hWd
      obtain ⟨v2, w2, hr2, ho2, hk2⟩ := appW (w1.alloc (.cells (Wd.cells ⟨a, y, pA, Hh, pc1⟩) 77)) _ _ _ ds ((own_ext ho hx1).alloc _) w1.heap.size 0 1 1 [⟨a, y, pA, Hh, pc1⟩] rfl (by simpa [wds] using Row.of_blk (Blk.new w1 77 (Wd.cells ⟨a, y, pA, Hh, pc1⟩))) (by omega) (by have := x1.size; simp; omega)
      refine wpList_app rfl (.tmp 24) (.tmp 33) 43 rfl rfl rfl rfl hr2 ?_
      clear hr2 hcS hcM
      have k2 : Kept (fun i => (u5 : Value).ownBlock = some i) w1 w2 := ((Kept.refl _ w1).alloc _).trans hk2
      have hw1 := HW.out.ext hx1
      have hw2 : WordsV w2 (ds ++ [⟨a, y, pA, Hh, pc1⟩]) ((pl.take (j + 1)).map (showW m)) := by
        rw [List.take_succ_eq_append_getElem hjl, List.map_append]
        have hwd := HWd.out
        rw [show ((a : Nat) : Int) = pl[j] from HX.out] at hwd
        rw [show ((a : Nat) : Int) = pl[j] from HX.out]
        exact (hw1.snoc hwd).kept k2 (own_other (own_ext ho hx1) (by decide))
      have HW2 := Lib.hid hw2
      clear hw1 hw2
      go_wp2_with fail
      go_roundw
      case rel => exact ⟨j + 1, _, hlt, by go_num, ho2, HW2.out, x1.trans' k2 HOB.out⟩
      case measure => simp only [intOf]; omega
    · have ej : j = k := by omega
      subst ej
      have hw := HW.out
      rw [List.take_of_length_le (Nat.le_of_eq HKL.out.symm)] at hw
      obtain ⟨A', c', rfl, hS'⟩ := WordsS.of_own ho hw
      have HS' := Lib.hid hS'
      clear hw hS'
      go_wp2_with fail
      go_ret
      exact ⟨_, _, _, rfl, HS'.out, hx⟩
end Go.Proofs.YtahljceanodhkaaGreatDoor

/- What Make says, in plain words; the places that a step reads and writes are there. -/
namespace Go.Proofs.YtahljceanodhkaaGreatDoor
open Go.RowKit
structure Sl where (pc halt words : Int) (mem : Dg) (ins : Ins) (path : List Dg) (reads writes : List Wl)
structure StepV (w : World) (s : Ws) (L : Sl) : Prop where
  pc : s.pc = L.pc
  halt : s.halt = L.halt
  words : s.words = L.words
  mem : s.mem = L.mem
  ins : s.ins = L.ins
  path : PathV w s.pa s.pn L.path
  reads : WordsS w s.ra s.rn L.reads
  writes : WordsS w s.wa s.wn L.writes
theorem StepV.ext {w w' : World} {s : Ws} {L : Sl} (h : StepV w s L) (hx : Ext w w') : StepV w' s L :=
  ⟨h.pc, h.halt, h.words, h.mem, h.ins, h.path.ext hx, h.reads.ext hx, h.writes.ext hx⟩
theorem PathV.none (w : World) : PathV w none 0 [] := ⟨0, 0, rfl, by simp, fun h => by omega, fun h => by omega, fun h => by omega⟩
/-- what shows the next step -/
def makeL (l : List Ins) (pc halt : Int) (m : List Int) : Sl :=
  if ¬ halt = 0 ∨ (l.length : Int) ≤ pc then ⟨pc, halt, m.length, memR m, ⟨0, 0, 0, 0⟩, [], [], []⟩
  else ⟨pc, halt, m.length, memR m, l.getD pc.toNat ⟨0, 0, 0, 0⟩, pathT (l.map ileaf) (hgt l.length) pc.toNat, (mreads l pc halt m).1.map (showW m), if 0 ≤ (mreads l pc halt m).2 then [showW m (mreads l pc halt m).2] else []⟩
theorem rightI_ok {i : Ins} {size words : Int} (h : rightI i size words = true) (j : Nat) (hj : j < 3) : okP (hasN i.op.toNat) j (nth3 i j) size words = true := by
  obtain ⟨_, _, h0, h1, h2, _⟩ := rightI_parts h
  rcases (by omega : j = 0 ∨ j = 1 ∨ j = 2) with rfl | rfl | rfl
  · exact h0
  · exact h1
  · exact h2
theorem readsK_in {i : Ins} {size : Int} {n : Nat} (h : rightI i size n = true) : ∀ k, k ≤ (hasN i.op.toNat).length → ∀ x ∈ readsK i (hasN i.op.toNat) k, 0 ≤ x ∧ x < n
  | 0, _, x, hx => by simp [readsK] at hx
  | k + 1, hk, x, hx => by
    unfold readsK at hx
    split at hx
    · exact readsK_in h k (by omega) x hx
    · rename_i hns
      rcases List.mem_append.1 hx with hx | hx
      · exact readsK_in h k (by omega) x hx
      · simp at hx
        subst hx
        have hl := hasN_len i.op.toNat
        have hok := rightI_ok h k (by omega)
        have hg : (hasN i.op.toNat)[k]? = some 119 := by
          have hlt : k < (hasN i.op.toNat).length := by omega
          rw [List.getElem?_eq_getElem hlt]
          have : skipR i ((hasN i.op.toNat).getD k 0) k = false := by
            cases hs : skipR i ((hasN i.op.toNat).getD k 0) k
            · rfl
            · exact absurd (.inl hs) hns
          simp [skipR, hlt] at this
          rw [this.1.1]
        exact okP_w hg hok
theorem readsN_in {i : Ins} {size : Int} {n : Nat} (h : rightI i size n = true) : ∀ x ∈ readsN i, 0 ≤ x ∧ x < n := by
  intro x hx
  unfold readsN at hx
  split at hx
  · exact readsK_in h _ (Nat.le_refl _) x hx
  · simp at hx
theorem mplace_in {i : Ins} {size : Int} {m : List Int} (h : rightI i size m.length = true) : ∀ x ∈ mplace i m, 0 ≤ x ∧ x < m.length := by
  intro x hx
  unfold mplace at hx
  split at hx
  · rename_i hc
    rcases List.mem_append.1 hx with hx | hx
    · exact readsN_in h x hx
    · simp at hx
      subst hx
      exact ⟨hc.2.1, farI_bd i m⟩
  · exact readsN_in h x hx
theorem writesN_in {i : Ins} {size : Int} {n : Nat} (h : rightI i size n = true) : writesN i < n := by
  unfold writesN
  split
  · rename_i hc
    have hr := rightI_parts h
    have hop : isOp i.op = true := by simp [isOp]; omega
    have h0 : (hasN i.op.toNat)[0]? = some 119 := by
      have hp := hc.1
      rw [hasI, if_pos hop] at hp
      show (hasN i.op.toNat)[0]? = some 119
      have e : (hasS i.op.toNat).data.toList = hasN i.op.toNat := by simp [hasS]
      rw [e] at hp
      cases hq : hasN i.op.toNat with
      | nil => rw [hq] at hp; simp [Lib.hasPrefix] at hp
      | cons x r => rw [hq] at hp; simp [Lib.hasPrefix] at hp; simp [hp]
    exact (okP_w h0 hr.2.2.1).2
  · omega
theorem mwrites_in {i : Ins} {size : Int} {m : List Int} (h : rightI i size m.length = true) : mwrites i m < m.length := by
  unfold mwrites
  split
  · exact farI_bd i m
  · split
    · omega
    · exact writesN_in h
theorem sortI_mem {l : List Int} {x : Int} (h : x ∈ sortI l) : x ∈ l := by
  unfold sortI at h
  exact (List.mergeSort_perm l _).mem_iff.1 h
theorem mreads_in (c : List Ins) (pc halt : Int) (m : List Int) : (∀ x ∈ (mreads c pc halt m).1, 0 ≤ x ∧ x < m.length) ∧ (mreads c pc halt m).2 < m.length ∧ (mreads c pc halt m).1.length ≤ 4 := by
  unfold mreads
  split
  · cases hnx : nextI c pc m.length with
    | none => simp; omega
    | some i =>
      have hr := nextI_right hnx
      refine ⟨fun x hx => mplace_in hr x (sortI_mem hx), mwrites_in hr, ?_⟩
      show (sortI (mplace i m)).length ≤ 4
      have h3 := readsN_len i
      unfold sortI mplace
      rw [List.length_mergeSort]
      split
      · simp; omega
      · omega
  · simp; omega
end Go.Proofs.YtahljceanodhkaaGreatDoor
