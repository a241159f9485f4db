/- The law WitnessDigests: its walk. -/
import Derived.Test.YtahljceanodhkaaGreatDoorWf
namespace Go.Proofs.YtahljceanodhkaaGreatDoor
open Go.RowKit Go.ChangeShapes Go.WideShapes
def codeZ (l : List Ins) : Dg := if l.length = 0 then Dg.zero else codeR l
def codeK (l : List Ins) : Int := if l.length = 0 then 2 else 0
def stZ (pc halt : Int) (l : List Int) : Dg := if rightS pc halt l.length = true then stateR pc halt l else Dg.zero
def stK (pc halt : Int) (l : List Int) : Int := if rightS pc halt l.length = true then 0 else 2
theorem wcode_all (A : Option Addr) (b off cap : Nat) (l : List Ins) (n : Nat) (hn : n = l.length) (h2 : n ≤ 2048) (hok : ∀ i ∈ l, i.ok) (hA : 0 < n → A = some ⟨b, off, none⟩) (w : World) (hr : 0 < n → Row w b off (inss l)) :
    Calls Tryz.prog 29 #[.slice A n cap] w fun e w' => e = .returned (.tuple #[.agg (codeZ l).cells, .int .i64 (codeK l)]) ∧ Ext w w' := by
  by_cases h0 : n = 0
  · rw [show codeZ l = Dg.zero by simp [codeZ, ← hn, h0], show codeK l = 2 by simp [codeK, ← hn, h0]]
    exact wcode_no A cap n (by omega) w
  · rw [show codeZ l = codeR l by simp only [codeZ, ← hn, if_neg h0], show codeK l = 0 by simp only [codeK, ← hn, if_neg h0]]
    exact wcode_ok A b off cap l n hn (by omega) h2 hok hA w hr
theorem rcode_all (A : Option Addr) (b off cap : Nat) (l : List Ins) (n : Nat) (hn : n = l.length) (h2 : n ≤ 2048) (hok : ∀ i ∈ l, i.ok) (hA : 0 < n → A = some ⟨b, off, none⟩) (w : World) (hr : 0 < n → Row w b off (inss l)) :
    Calls Tryz.prog 31 #[.slice A n cap] w fun e w' => e = .returned (.tuple #[.agg (codeZ l).cells, .int .i64 (codeK l)]) ∧ Ext w w' := by
  by_cases h0 : n = 0
  · rw [show codeZ l = Dg.zero by simp [codeZ, ← hn, h0], show codeK l = 2 by simp [codeK, ← hn, h0]]
    exact rcode_no A cap n (by omega) w
  · rw [show codeZ l = codeR l by simp only [codeZ, ← hn, if_neg h0], show codeK l = 0 by simp only [codeK, ← hn, if_neg h0]]
    exact rcode_ok A b off cap l n hn (by omega) h2 hok hA w hr
theorem wstate_all (pc halt : Int) (A : Option Addr) (b off cap : Nat) (l : List Int) (n : Nat) (hn : n = l.length) (hA : 0 < n → A = some ⟨b, off, none⟩) (w : World) (hr : 0 < n → Row w b off (mems l)) :
    Calls Tryz.prog 32 #[.agg (stCells pc A n cap halt)] w fun e w' => e = .returned (.tuple #[.agg (stZ pc halt l).cells, .int .i64 (stK pc halt l)]) ∧ Ext w w' := by
  by_cases h0 : rightS pc halt n = true
  · rw [show stZ pc halt l = stateR pc halt l by simp only [stZ, ← hn, if_pos h0], show stK pc halt l = 0 by simp only [stK, ← hn, if_pos h0]]
    exact wstate_ok pc halt A b off cap l n hn h0 hA w hr
  · rw [show stZ pc halt l = Dg.zero by simp only [stZ, ← hn, if_neg h0], show stK pc halt l = 2 by simp only [stK, ← hn, if_neg h0]]
    exact wstate_no pc halt A cap n (by simpa using h0) w
theorem rstate_all (pc halt : Int) (A : Option Addr) (b off cap : Nat) (l : List Int) (n : Nat) (hn : n = l.length) (hA : 0 < n → A = some ⟨b, off, none⟩) (w : World) (hr : 0 < n → Row w b off (mems l)) :
    Calls Tryz.prog 34 #[.agg (stCells pc A n cap halt)] w fun e w' => e = .returned (.tuple #[.agg (stZ pc halt l).cells, .int .i64 (stK pc halt l)]) ∧ Ext w w' := by
  by_cases h0 : rightS pc halt n = true
  · rw [show stZ pc halt l = stateR pc halt l by simp only [stZ, ← hn, if_pos h0], show stK pc halt l = 0 by simp only [stK, ← hn, if_pos h0]]
    exact rstate_ok pc halt A b off cap l n hn h0 hA w hr
  · rw [show stZ pc halt l = Dg.zero by simp only [stZ, ← hn, if_neg h0], show stK pc halt l = 2 by simp only [stK, ← hn, if_neg h0]]
    exact rstate_no pc halt A cap n (by simpa using h0) w
theorem eqArr8w (w : World) (d : Nat) (a0 a1 a2 a3 a4 a5 a6 a7 b0 b1 b2 b3 b4 b5 b6 b7 : Int) :
    (Op.equalIn (d + 2) 23 (.agg #[.int .u8 a0, .int .u8 a1, .int .u8 a2, .int .u8 a3, .int .u8 a4, .int .u8 a5, .int .u8 a6, .int .u8 a7]) (.agg #[.int .u8 b0, .int .u8 b1, .int .u8 b2, .int .u8 b3, .int .u8 b4, .int .u8 b5, .int .u8 b6, .int .u8 b7])).run Tryz.prog w =
      .ok ([a0, a1, a2, a3, a4, a5, a6, a7] == [b0, b1, b2, b3, b4, b5, b6, b7]) w :=
  run_equalIn_ints w d _ 5 8 .u8 Tryz.underlying23 Tryz.underlying5 (fun w => sizeOf_run (by kernel_rfl) w) [a0, a1, a2, a3, a4, a5, a6, a7] [b0, b1, b2, b3, b4, b5, b6, b7] rfl rfl
theorem eqArr8w' (w : World) (a0 a1 a2 a3 a4 a5 a6 a7 b0 b1 b2 b3 b4 b5 b6 b7 : Int) :
    (Op.equalIn 10000 23 (.agg #[.int .u8 a0, .int .u8 a1, .int .u8 a2, .int .u8 a3, .int .u8 a4, .int .u8 a5, .int .u8 a6, .int .u8 a7]) (.agg #[.int .u8 b0, .int .u8 b1, .int .u8 b2, .int .u8 b3, .int .u8 b4, .int .u8 b5, .int .u8 b6, .int .u8 b7])).run Tryz.prog w =
      .ok ([a0, a1, a2, a3, a4, a5, a6, a7] == [b0, b1, b2, b3, b4, b5, b6, b7]) w := eqArr8w w 9998 _ _ _ _ _ _ _ _ _ _ _ _ _ _ _ _
theorem guardArr8w : Tryz.prog.eqGuardType Tryz.prog.depth 23 = false := by kernel_rfl
attribute [go_sem] eqArr8w' guardArr8w
namespace witnessDigests
set_option maxRecDepth 100000 in
set_option maxHeartbeats 2000000 in
theorem many (A A' : Option Addr) (n cap k cap' : Nat) (pc halt : Int) (w : World) (hf : (decide (n ≤ 20) && decide (k ≤ 20)) = false) :
    Calls Tryz.prog 6 #[.slice A n cap, .agg (stCells pc A' k cap' halt)] w fun e w' => e = .returned (.bool true) ∧ Ext w w' := by
  have HF := Lib.hid hf
  clear hf
  have hx0 : Ext w _ := (Kept.refl _ w).alloc (.cells (stCells pc A' k cap' halt) 61)
  have hS0 := Blk.new w 61 (stCells pc A' k cap' halt)
  go_enter Tryz.func6, Tryz.ntmps6
  go_wp2_with fail
  refine (known_any _).mono ?_
  rintro e w1 ⟨rfl, hx1⟩
  have hS1 := Blk.ext hS0 hx1
  have hh1 := Blk.has hS1
  have hg1 := Blk.gets hS1
  go_wp2_with fail
  refine (few_any A A' n cap k cap' pc halt _).mono ?_
  rintro e w2 ⟨rfl, hx2⟩
  rw [HF.out]
  go_wp2_with fail
  refine (known_any _).mono ?_
  rintro e w3 ⟨rfl, hx3⟩
  go_wp2_with fail
  go_ret
  exact ⟨rfl, ((hx0.trans hx1).trans hx2).trans hx3⟩
set_option maxRecDepth 100000 in
set_option maxHeartbeats 2000000 in
theorem small (A : Option Addr) (b off cap : Nat) (l : List Ins) (n : Nat) (hn : n = l.length) (h2 : n ≤ 20) (hok : ∀ i ∈ l, i.ok) (hA : 0 < n → A = some ⟨b, off, none⟩)
    (pc halt : Int) (A' : Option Addr) (b' off' cap' : Nat) (m : List Int) (k : Nat) (hk : k = m.length) (hk2 : k ≤ 20) (hA' : 0 < k → A' = some ⟨b', off', none⟩) (w : World) (hr : 0 < n → Row w b off (inss l)) (hr' : 0 < k → Row w b' off' (mems m)) :
    Calls Tryz.prog 6 #[.slice A n cap, .agg (stCells pc A' k cap' halt)] w fun e w' => e = .returned (.bool true) ∧ Ext w w' := by
  have HF := Lib.hid (show (decide (n ≤ 20) && decide (k ≤ 20)) = true by simp [h2, hk2])
  have HN := Lib.hid hn
  have HO := Lib.hid hok
  have HA := Lib.hid hA
  have HR := Lib.hid hr
  have HKn := Lib.hid hk
  have HA' := Lib.hid hA'
  have HR' := Lib.hid hr'
  clear hn hA hr hok hk hA' hr'
  obtain ⟨C, hC⟩ : ∃ C, C = codeZ l := ⟨_, rfl⟩
  obtain ⟨D, hD⟩ : ∃ D, D = stZ pc halt m := ⟨_, rfl⟩
  obtain ⟨ck, hck⟩ : ∃ ck, ck = codeK l := ⟨_, rfl⟩
  obtain ⟨sk, hsk⟩ : ∃ sk, sk = stK pc halt m := ⟨_, rfl⟩
  have HC := Lib.hid hC
  have HD := Lib.hid hD
  have HCK := Lib.hid hck
  have HSK := Lib.hid hsk
  clear hC hD hck hsk
  have hx0 : Ext w _ := (Kept.refl _ w).alloc (.cells (stCells pc A' k cap' halt) 61)
  have hS0 := Blk.new w 61 (stCells pc A' k cap' halt)
  go_enter Tryz.func6, Tryz.ntmps6
  go_wp2_with fail
  refine (known_any _).mono ?_
  rintro e w1 ⟨rfl, hx1⟩
  have hS1 := Blk.ext hS0 hx1
  have hh1 := Blk.has hS1
  have hg1 := Blk.gets hS1
  have y1 := hx0.trans hx1
  clear hx0 hS0 hx1
  go_wp2_with fail
  refine (few_any A A' n cap k cap' pc halt _).mono ?_
  rintro e w2 ⟨rfl, hx2⟩
  rw [HF.out]
  have hS2 := Blk.ext hS1 hx2
  have y2 := y1.trans hx2
  clear hh1 hg1 hS1 y1 hx2
  go_wp2_with fail
  refine (law14of_ok A b off cap l n HN.out (by omega) HA.out _ (fun h => (HR.out h).ext y2)).mono ?_
  rintro e w3 ⟨v3, rfl, ho3, hx3⟩
  obtain ⟨A3, g3, c3, rfl, hA3, hr3, hl3⟩ := own_I ho3
  have HA3 := Lib.hid hA3
  have HR3 := Lib.hid hr3
  have hS3 := Blk.ext hS2 hx3
  have y3 := y2.trans hx3
  clear hA3 hr3 hl3 ho3 hS2 y2 hx3
  go_wp2_with fail
  refine (wcode_all A3 g3 0 c3 l n HN.out (by omega) HO.out HA3.out _ HR3.out).mono ?_
  rintro e w4 ⟨e4, hx4⟩
  replace e4 : e = .returned (.tuple #[.agg C.cells, .int .i64 ck]) := by rw [e4, HC.out, HCK.out]
  subst e4
  have hS4 := Blk.alloc (Blk.ext hS3 hx4) (.cells C.cells 30)
  have hC4 := Blk.new w4 30 C.cells
  have y4 := (y3.trans hx4).alloc (.cells C.cells 30)
  have hl4 := (Blk.ext hS3 hx4).lt
  clear hS3 y3 hx4
  go_upto_region 4 with (fail)
  generalize (w4.alloc (.cells #[.int .u8 C.x0, .int .u8 C.x1, .int .u8 C.x2, .int .u8 C.x3, .int .u8 C.x4, .int .u8 C.x5, .int .u8 C.x6, .int .u8 C.x7] 30)) = W4 at hS4 hC4 y4 ⊢
  generalize w4.heap.size = c4 at hC4 hl4 ⊢
  go_wp2_with fail
  refine (rcode_all A b off cap l n HN.out (by omega) HO.out HA.out _ (fun h => (HR.out h).ext y4)).mono ?_
  rintro e w5 ⟨e5, hx5⟩
  replace e5 : e = .returned (.tuple #[.agg C.cells, .int .i64 ck]) := by rw [e5, HC.out, HCK.out]
  subst e5
  have hS5 := Blk.alloc (Blk.ext hS4 hx5) (.cells C.cells 23)
  have hC5 := Blk.alloc (Blk.ext hC4 hx5) (.cells C.cells 23)
  have hD5 := Blk.new w5 23 C.cells
  have y5 := (y4.trans hx5).alloc (.cells C.cells 23)
  have hl5 := (Blk.ext hC4 hx5).lt
  clear hS4 hC4 y4 hx5
  go_upto_region 5 with (fail)
  generalize (w5.alloc (.cells #[.int .u8 C.x0, .int .u8 C.x1, .int .u8 C.x2, .int .u8 C.x3, .int .u8 C.x4, .int .u8 C.x5, .int .u8 C.x6, .int .u8 C.x7] 23)) = W5 at hS5 hC5 hD5 y5 ⊢
  generalize w5.heap.size = c5 at hD5 hl5 ⊢
  have hh5 := Blk.has hS5
  have hg5 := Blk.gets hS5
  go_wp2_with fail
  refine (of_st A' k cap' pc halt _).mono ?_
  rintro e w6 ⟨rfl, hx6⟩
  go_wp2_with fail
  refine (wstate_all pc halt A' b' off' cap' m k HKn.out HA'.out _ (fun h => ((HR'.out h).ext y5).ext hx6)).mono ?_
  rintro e w7 ⟨e7, hx7⟩
  replace e7 : e = .returned (.tuple #[.agg D.cells, .int .i64 sk]) := by rw [e7, HD.out, HSK.out]
  subst e7
  have x7 := hx6.trans hx7
  have hS7 := Blk.alloc (Blk.ext hS5 x7) (.cells D.cells 30)
  have hC7 := Blk.alloc (Blk.ext hC5 x7) (.cells D.cells 30)
  have hD7 := Blk.alloc (Blk.ext hD5 x7) (.cells D.cells 30)
  have hE7 := Blk.new w7 30 D.cells
  have y7 := (y5.trans x7).alloc (.cells D.cells 30)
  have hl7 := (Blk.ext hD5 x7).lt
  clear hS5 hC5 hD5 y5 hx6 hx7 x7 hh5 hg5
  go_upto_region 6 with (fail)
  generalize (w7.alloc (.cells #[.int .u8 D.x0, .int .u8 D.x1, .int .u8 D.x2, .int .u8 D.x3, .int .u8 D.x4, .int .u8 D.x5, .int .u8 D.x6, .int .u8 D.x7] 30)) = W7 at hS7 hC7 hD7 hE7 y7 ⊢
  generalize w7.heap.size = c7 at hE7 hl7 ⊢
  have hh7 := Blk.has hS7
  have hg7 := Blk.gets hS7
  go_wp2_with fail
  refine (rstate_all pc halt A' b' off' cap' m k HKn.out HA'.out _ (fun h => (HR'.out h).ext y7)).mono ?_
  rintro e w8 ⟨e8, hx8⟩
  replace e8 : e = .returned (.tuple #[.agg D.cells, .int .i64 sk]) := by rw [e8, HD.out, HSK.out]
  subst e8
  have hC8 := Blk.alloc (Blk.ext hC7 hx8) (.cells D.cells 23)
  have hD8 := Blk.alloc (Blk.ext hD7 hx8) (.cells D.cells 23)
  have hE8 := Blk.alloc (Blk.ext hE7 hx8) (.cells D.cells 23)
  have hF8 := Blk.new w8 23 D.cells
  have y8 := (y7.trans hx8).alloc (.cells D.cells 23)
  have hl8 := (Blk.ext hE7 hx8).lt
  clear hS7 hC7 hD7 hE7 y7 hx8 hh7 hg7
  go_upto_region 7 with (fail)
  generalize (w8.alloc (.cells #[.int .u8 D.x0, .int .u8 D.x1, .int .u8 D.x2, .int .u8 D.x3, .int .u8 D.x4, .int .u8 D.x5, .int .u8 D.x6, .int .u8 D.x7] 23)) = W8 at hC8 hD8 hE8 hF8 y8 ⊢
  generalize w8.heap.size = c8 at hF8 hl8 ⊢
  have i1 := Blk.has hC8
  have i2 := Blk.gets hC8
  have i3 := Blk.has hD8
  have i4 := Blk.gets hD8
  have i5 := Blk.has hE8
  have i6 := Blk.gets hE8
  have i7 := Blk.has hF8
  have i8 := Blk.gets hF8
  go_wp2_with fail
  go_ret
  exact ⟨rfl, y8⟩
set_option maxRecDepth 100000 in
theorem walk {H : Type} {enc : TypeId × Value → H} (W : World) (base : Nat) (v0 v1 : Value) (d0 d1 : DataW H) (p0 p1 : List MemPlace)
    (o0 : Value.okWide Tryz.prog W .any base 58 v0) (o1 : Value.okWide Tryz.prog W .any base 61 v1)
    (h0 : DataW.Trod enc Tryz.prog W 0 (fun _ => true) true 58 v0 d0 p0) (h1 : DataW.Trod enc Tryz.prog W 0 (fun _ => true) true 61 v1 d1 p1) :
    Calls Tryz.prog 6 #[v0, v1] W fun e w' => e = .returned (.bool true) ∧ Ext W w' := by
  obtain ⟨A0, n0, cap0, rfl⟩ := okWide_slice Tryz.underlying58 o0
  obtain ⟨fuel, hf⟩ := h0
  obtain ⟨A, b, off, n, cap, l, e, hA, hn, hr, hok, _, _⟩ := inss_of hf
  simp at e
  obtain ⟨rfl, rfl, rfl⟩ := e
  obtain ⟨cs, rfl⟩ : ∃ cs, v1 = .agg cs := by
    simp only [Value.okWide, Tryz.underlying61] at o1
    obtain ⟨cs, h1, _⟩ := o1
    exact ⟨cs, h1⟩
  obtain ⟨fuel', hf'⟩ := h1
  obtain ⟨pc, halt, A', b', off', k, cap', m, e, hpc, hhalt, hA', hk, hr', hm, _, _⟩ := state_of hf'
  obtain rfl : cs = stCells pc A' k cap' halt := by
    cases cs
    simpa [Value.cells] using e
  by_cases hl : n0 ≤ 20 ∧ k ≤ 20
  · exact small A0 b off cap0 l n0 hn hl.1 hok hA pc halt A' b' off' cap' m k hk hl.2 hA' W hr hr'
  · exact many A0 A' n0 cap0 k cap' pc halt W (by simp; omega)
end witnessDigests
end Go.Proofs.YtahljceanodhkaaGreatDoor
