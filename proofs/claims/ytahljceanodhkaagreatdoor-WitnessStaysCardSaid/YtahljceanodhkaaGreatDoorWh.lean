/- The law WitnessStays: its walk. -/
import Derived.Test.YtahljceanodhkaaGreatDoorWg
namespace Go.Proofs.YtahljceanodhkaaGreatDoor
open Go.RowKit Go.ChangeShapes Go.WideShapes
theorem infoW3 : (Tryz.prog.info? 77).map (fun i => (i.zero, i.size, i.bytes)) = some (some (.agg #[.int .i64 0, .int .i32 0, .slice none 0 0]), 3, 40) := by kernel_rfl
/-- one word appended to none -/
theorem appW1 (w : World) (b : Nat) (ws : List Value) (hw : ws.length = 3) (hf : flatL ws = true) (hr : Row w b 0 ws) :
    ∃ g c w', (Builtin.append_ #[43, 43] 43 #[.slice none 0 0, .slice (some ⟨b, 0, none⟩) 1 1]).run Tryz.prog w = .ok (.slice (some ⟨g, 0, none⟩) 1 c) w' ∧ Row w' g 0 ws ∧ w.heap.size ≤ g ∧ Ext w w' := by
  obtain ⟨i, hi, hz, h1, h2⟩ := info_parts infoW3
  obtain ⟨v', w', hrun, hown, hk⟩ := app_some (P := Tryz.prog) Tryz.underlying43 hi hz h1 h2 (by rfl) (by decide) w w.heap.size (.slice none 0 0) 0 [] (World.ownsRow_nil _ _ _ _) b 0 1 1 ws (by omega) hr hf (by unfold maxLen; omega) (by omega) (Nat.le_refl _)
  rw [Nat.zero_add, List.nil_append] at hown
  rcases hown.2 with ⟨_, h0⟩ | ⟨g, c, cur, hv, hb, hc, hnc, hcm, hcs, htk⟩
  · omega
  · subst hv
    refine ⟨g, c, w', hrun, ⟨?_, ?_, (Array.getElem?_eq_some_iff.1 hc).1⟩, hb, hk.mono (fun i _ e => by simp [Value.ownBlock] at e)⟩
    · unfold has; rw [hc, hw]; simp; omega
    · unfold gets; rw [hc, hw]; simp only [List.drop_zero]; rw [show (3 : Nat) = 1 * 3 by omega, htk]
theorem Blk.cast {w : World} {g : Nat} {t : TypeId} {cs cs' : Array Value} (h : Blk w g t cs) (e : cs = cs') : Blk w g t cs' := e ▸ h
/-- what is made, with one word more -/
abbrev moreC (pc halt : Int) (k : Nat) (M : Dg) (g c : Nat) : Array Value := #[.int .i64 pc, .int .i64 halt, .int .i64 k, .int .u8 M.x0, .int .u8 M.x1, .int .u8 M.x2, .int .u8 M.x3, .int .u8 M.x4, .int .u8 M.x5, .int .u8 M.x6, .int .u8 M.x7, .int .i64 0, .int .i64 0, .int .i64 0, .int .i64 0, .slice none 0 0, .slice (some ⟨g, 0, none⟩) 1 c, .slice none 0 0]
attribute [go_sem] moreC
def moreStep (pc halt : Int) (l : List Int) (g c : Nat) : Ws := ⟨pc, halt, l.length, memR l, ⟨0, 0, 0, 0⟩, none, 0, 0, some ⟨g, 0, none⟩, 1, c, none, 0, 0⟩
def haltS (h : Int) : Int := if h = 0 then 2 else h
namespace witnessStays
set_option maxRecDepth 100000 in
set_option maxHeartbeats 2000000 in
theorem many (A A' : Option Addr) (n cap k cap' : Nat) (pc halt : Int) (w : World) (hf : (decide (n ≤ 20) && decide (k ≤ 20)) = false ∨ n = 0) :
    Calls Tryz.prog 7 #[.slice A n cap, .agg (stCells pc A' k cap' halt)] w fun e w' => e = .returned (.bool true) ∧ Ext w w' := by
  have hx0 : Ext w _ := (Kept.refl _ w).alloc (.cells (stCells pc A' k cap' halt) 61)
  have hS0 := Blk.new w 61 (stCells pc A' k cap' halt)
  have HF : Hid ((decide (n ≤ 20) && decide (k ≤ 20)) = false ∨ ((decide (n ≤ 20) && decide (k ≤ 20)) = true ∧ n = 0)) := Lib.hid (by
    cases hq : (decide (n ≤ 20) && decide (k ≤ 20))
    · exact .inl rfl
    · refine .inr ⟨rfl, ?_⟩
      rcases hf with h | h
      · rw [hq] at h; cases h
      · exact h)
  clear hf
  go_enter Tryz.func7, Tryz.ntmps7
  go_wp2_with fail
  refine (known_any _).mono ?_
  rintro e w1 ⟨rfl, hx1⟩
  have hS1 := Blk.ext hS0 hx1
  have hh1 := Blk.has hS1
  have hg1 := Blk.gets hS1
  go_wp2_with fail
  refine (few_any A A' n cap k cap' pc halt _).mono ?_
  rintro e w2 ⟨rfl, hx2⟩
  rcases HF.out with hf | ⟨hf, h0⟩
  · rw [hf]
    go_wp2_with fail
    refine (known_any _).mono ?_
    rintro e w3 ⟨rfl, hx3⟩
    go_wp2_with fail
    go_ret
    exact ⟨rfl, ((hx0.trans hx1).trans hx2).trans hx3⟩
  · rw [hf]
    have b0 : ((n : Int) == 0) = true := by simp [h0]
    have b1 : (n == 0) = true := by simp [h0]
    clear h0
    go_wp2_with fail
    refine (known_any _).mono ?_
    rintro e w3 ⟨rfl, hx3⟩
    go_wp2_with fail
    go_ret
    exact ⟨rfl, ((hx0.trans hx1).trans hx2).trans hx3⟩
set_option maxRecDepth 100000 in
set_option maxHeartbeats 4000000 in
theorem small (A : Option Addr) (b off cap : Nat) (l : List Ins) (n : Nat) (hn : n = l.length) (h1 : 1 ≤ n) (h2 : n ≤ 20) (hok : ∀ i ∈ l, i.ok) (hA : 0 < n → A = some ⟨b, off, none⟩)
    (pc halt : Int) (A' : Option Addr) (b' off' cap' : Nat) (m : List Int) (k : Nat) (hk : k = m.length) (hk2 : k ≤ 20) (hA' : 0 < k → A' = some ⟨b', off', none⟩) (w : World) (hr : 0 < n → Row w b off (inss l)) (hr' : 0 < k → Row w b' off' (mems m)) :
    Calls Tryz.prog 7 #[.slice A n cap, .agg (stCells pc A' k cap' halt)] w fun e w' => e = .returned (.bool true) ∧ Ext w w' := by
  have HF := Lib.hid (show (decide (n ≤ 20) && decide (k ≤ 20)) = true by simp [h2, hk2])
  have hn0 : ((n : Int) == 0) = false := by simp; omega
  have hn0' : (n == 0) = false := by simp; omega
  have HN := Lib.hid hn
  have HO := Lib.hid hok
  have HA := Lib.hid hA
  have HR := Lib.hid hr
  have HKn := Lib.hid hk
  have HA' := Lib.hid hA'
  have HR' := Lib.hid hr'
  clear hn hA hr hok hk hA' hr'
  have hx0 : Ext w _ := (Kept.refl _ w).alloc (.cells (stCells pc A' k cap' halt) 61)
  have hS0 := Blk.new w 61 (stCells pc A' k cap' halt)
  go_enter Tryz.func7, Tryz.ntmps7
  go_wp2_with fail
  refine (known_any _).mono ?_
  rintro e w1 ⟨rfl, hx1⟩
  have hS1 := Blk.ext hS0 hx1
  have hh1 := Blk.has hS1
  have hg1 := Blk.gets hS1
  have y1 := hx0.trans hx1
  clear hx0 hS0 hx1
  go_wp2_with fail
  refine (few_any A A' n cap k cap' pc halt _).mono ?_
  rintro e w2 ⟨rfl, hx2⟩
  rw [HF.out]
  have hS2 := Blk.ext hS1 hx2
  have y2 := y1.trans hx2
  clear hh1 hg1 hS1 y1 hx2
  go_wp2_with fail
  refine (law14of_ok A b off cap l n HN.out (by omega) HA.out _ (fun h => (HR.out h).ext y2)).mono ?_
  rintro e w3 ⟨v3, rfl, ho3, hx3⟩
  obtain ⟨A3, g3, c3, rfl, hA3, hr3, hl3⟩ := own_I ho3
  have HA3 := Lib.hid hA3
  have hR3 := hr3 h1
  have hS3 := Blk.ext hS2 hx3
  have y3 := y2.trans hx3
  have hh3 := Blk.has hS3
  have hg3 := Blk.gets hS3
  clear hA3 hr3 hl3 ho3 hS2 y2 hx3
  go_wp2_with fail
  refine (of_st A' k cap' pc halt _).mono ?_
  rintro e w4 ⟨rfl, hx4⟩
  have hx5 := (hx4.alloc (.cells (stCells n A' k cap' halt) 70))
  have hX5 := Blk.new w4 70 (stCells n A' k cap' halt)
  have hR5 := hR3.ext hx5
  have y5 := y3.trans hx5
  have hl5 := y5.size
  have hl5' := (y3.trans hx4).size
  clear hh3 hg3 hS3 hR3 y3
  go_upto_region 6 with (fail)
  generalize (w4.alloc (.cells (stCells n A' k cap' halt) 70)) = W5 at hX5 hR5 y5 ⊢
  clear hx4 hx5 hl5
  generalize w4.heap.size = x at hX5 hl5' ⊢
  have hh5 := Blk.has hX5
  have hg5 := Blk.gets hX5
  go_wp2_with fail
  refine (wstate_all n halt A' b' off' cap' m k HKn.out HA'.out _ (fun h => (HR'.out h).ext y5)).mono ?_
  rintro e w6 ⟨e6, hx6⟩
  by_cases hright : rightS n halt k = true
  · obtain ⟨k1, k2, h3, h4, h5, h6⟩ := rightS_inv hright
    obtain ⟨B, hB⟩ : ∃ B, B = stateR n halt m := ⟨_, rfl⟩
    obtain ⟨M, hM⟩ : ∃ M, M = memR m := ⟨_, rfl⟩
    replace e6 : e = .returned (.tuple #[.agg B.cells, .int .i64 0]) := by rw [e6, hB]; simp only [stZ, stK, ← HKn.out, if_pos hright]
    subst e6
    have HRT := Lib.hid hright
    have HB := Lib.hid hB
    have HM := Lib.hid hM
    clear hright hB hM
    have hX6 := Blk.alloc (Blk.ext hX5 hx6) (.cells B.cells 30)
    have hR6 := hR5.ext (hx6.alloc (.cells B.cells 30))
    have hB6 := Blk.new w6 30 B.cells
    have y6 := (y5.trans hx6).alloc (.cells B.cells 30)
    have hl6 := (Blk.ext hX5 hx6).lt
    clear hX5 hR5 y5 hx6 hh5 hg5
    go_upto_region 9 with (fail)
    generalize (w6.alloc (.cells #[.int .u8 B.x0, .int .u8 B.x1, .int .u8 B.x2, .int .u8 B.x3, .int .u8 B.x4, .int .u8 B.x5, .int .u8 B.x6, .int .u8 B.x7] 30)) = W6 at hX6 hR6 hB6 y6 ⊢
    generalize w6.heap.size = c6 at hB6 hl6 ⊢
    go_wp2_with fail
    obtain ⟨C, hC⟩ : ∃ C, C = codeR l := ⟨_, rfl⟩
    have HC := Lib.hid hC
    clear hC
    refine (wcode_ok A3 g3 0 c3 l n HN.out h1 (by omega) HO.out HA3.out _ (fun _ => hR6)).mono ?_
    rintro e w7 ⟨e7, hx7⟩
    replace e7 : e = .returned (.tuple #[.agg C.cells, .int .i64 0]) := by rw [e7, HC.out]
    subst e7
    have hX7 := Blk.alloc (Blk.ext hX6 hx7) (.cells C.cells 30)
    have hR7 := hR6.ext (hx7.alloc (.cells C.cells 30))
    have hB7 := Blk.alloc (Blk.ext hB6 hx7) (.cells C.cells 30)
    have hC7 := Blk.new w7 30 C.cells
    have y7 := (y6.trans hx7).alloc (.cells C.cells 30)
    have hl7 := (Blk.ext hB6 hx7).lt
    clear hX6 hR6 hB6 y6 hx7
    go_upto_region 10 with (fail)
    generalize (w7.alloc (.cells #[.int .u8 C.x0, .int .u8 C.x1, .int .u8 C.x2, .int .u8 C.x3, .int .u8 C.x4, .int .u8 C.x5, .int .u8 C.x6, .int .u8 C.x7] 30)) = W7 at hX7 hR7 hB7 hC7 y7 ⊢
    generalize w7.heap.size = c7 at hC7 hl7 ⊢
    have hh7 := Blk.has hX7
    have hg7 := Blk.gets hX7
    go_wp2_with fail
    refine (make_stays A3 g3 0 c3 l n HN.out h1 (by omega) HO.out HA3.out n halt A' b' off' cap' m k HKn.out HRT.out HA'.out (.inr (Int.le_refl _)) _ (fun _ => hR7) (fun h => (HR'.out h).ext y7)).mono ?_
    rintro e w8 ⟨e8, hx8⟩
    replace e8 : e = .returned (.tuple #[.agg (bareC n halt k M), .int .i64 0]) := by rw [e8, HM.out, HKn.out]; rfl
    subst e8
    have hX8 := Blk.alloc (Blk.ext hX7 hx8) (.cells (bareC n halt k M) 45)
    have hB8 := Blk.alloc (Blk.ext hB7 hx8) (.cells (bareC n halt k M) 45)
    have hC8 := Blk.alloc (Blk.ext hC7 hx8) (.cells (bareC n halt k M) 45)
    have hW8 := Blk.new w8 45 (bareC n halt k M)
    have y8 := (y7.trans hx8).alloc (.cells (bareC n halt k M) 45)
    have hl8 := (Blk.ext hC7 hx8).lt
    clear hX7 hR7 hB7 hC7 y7 hx8 hh7 hg7
    go_upto_region 11 with (fail)
    generalize (w8.alloc (.cells (bareC n halt k M) 45)) = W8 at hX8 hB8 hC8 hW8 y8 ⊢
    generalize w8.heap.size = c8 at hW8 hl8 ⊢
    have hh8 := Blk.has hB8
    have hg8 := Blk.gets hB8
    have hi8 := Blk.has hC8
    have hj8 := Blk.gets hC8
    have hk8 := Blk.has hW8
    have hm8 := Blk.gets hW8
    go_wp2_with fail
    obtain ⟨S, hS⟩ : ∃ S, S = stateR n (haltS halt) m := ⟨_, rfl⟩
    have HS := Lib.hid hS
    clear hS
    have hlm : ((m.length : Nat) : Int) = k := by rw [HKn.out]
    have hck := after_stays (bareStep n halt m) C n W8 (hWord_ok _ _) (by omega) (by omega) (by show rightS n halt m.length = true; rw [hlm]; exact HRT.out) (.inr (Int.le_refl _)) rfl rfl rfl
    have e9 : hHead (bareStep n halt m).pc (bareStep n halt m).halt (bareStep n halt m).words (bareStep n halt m).mem = B := HB.out.symm
    have e10 : (bareStep n halt m).same = S := HS.out.symm
    have e11 : bareC n halt m.length (memR m) = bareC n halt k M := by rw [← HKn.out, ← HM.out]
    rw [e9, e10, bare_cells, e11] at hck
    clear hlm e9 e10 e11
    refine hck.mono ?_
    rintro e w9 ⟨rfl, hx9⟩
    clear hck
    have hX9 := Blk.alloc (Blk.ext hX8 hx9) (.cells S.cells 30)
    have hB9 := Blk.alloc (Blk.ext hB8 hx9) (.cells S.cells 30)
    have hC9 := Blk.alloc (Blk.ext hC8 hx9) (.cells S.cells 30)
    have hW9 := Blk.alloc (Blk.ext hW8 hx9) (.cells S.cells 30)
    have hS9 := Blk.new w9 30 S.cells
    have y9 := (y8.trans hx9).alloc (.cells S.cells 30)
    have hl9 := (Blk.ext hW8 hx9).lt
    clear hX8 hB8 hC8 hW8 y8 hx9 hh8 hg8 hi8 hj8 hk8 hm8
    go_upto_region 12 with (fail)
    generalize (w9.alloc (.cells #[.int .u8 S.x0, .int .u8 S.x1, .int .u8 S.x2, .int .u8 S.x3, .int .u8 S.x4, .int .u8 S.x5, .int .u8 S.x6, .int .u8 S.x7] 30)) = W9 at hX9 hB9 hC9 hW9 hS9 y9 ⊢
    generalize w9.heap.size = c9 at hS9 hl9 ⊢
    obtain ⟨h', hh'⟩ : ∃ h', h' = haltS halt := ⟨_, rfl⟩
    have hrt' : rightS n h' k = true := by
      rw [hh']
      have he : haltS halt = 2 ∨ haltS halt = halt := by unfold haltS; split <;> simp
      rcases he with he | he
      · rw [he]; simp [rightS]; omega
      · rw [he]; exact HRT.out
    have HRT' := Lib.hid hrt'
    have HH' := Lib.hid hh'
    clear hrt' hh'
    have hc9 := Blk.cell hX9
    have hf9 := Blk.frozen hX9
    have hlX := hX9.lt
    by_cases hz : halt = 0
    · have bz : (halt == 0) = true := by simp [hz]
      have eh : h' = 2 := by rw [HH'.out]; simp [haltS, hz]
      have EH := Lib.hid eh
      clear hz eh
      have hX10 : Blk (W9.setCell ⟨x, 2, none⟩ (.int .i64 2)) x 70 (stCells n A' k cap' 2) := Blk.set_ hX9 2 (.int .i64 2)
      have hB10 := Blk.far hB9 (p := ⟨x, 2, none⟩) (show c6 ≠ x by omega) (.int .i64 2)
      have hC10 := Blk.far hC9 (p := ⟨x, 2, none⟩) (show c7 ≠ x by omega) (.int .i64 2)
      have hW10 := Blk.far hW9 (p := ⟨x, 2, none⟩) (show c8 ≠ x by omega) (.int .i64 2)
      have hS10 := Blk.far hS9 (p := ⟨x, 2, none⟩) (show c9 ≠ x by omega) (.int .i64 2)
      have y10 : Ext w (W9.setCell ⟨x, 2, none⟩ (.int .i64 2)) := Kept.setCell y9 ⟨x, 2, none⟩ _ (fun h => by have : x < w.heap.size := h; omega)
      go_upto_region 14 with (fail)
      clear hX9 hB9 hC9 hW9 hS9 y9 hc9 hf9
      generalize (W9.setCell ⟨x, 2, none⟩ (.int .i64 2)) = W10 at hX10 hB10 hC10 hW10 hS10 y10 ⊢
      rw [← EH.out] at hX10
      have hh10 := Blk.has hX10
      have hg10 := Blk.gets hX10
      go_wp2_with fail
      refine (wstate_ok n h' A' b' off' cap' m k HKn.out HRT'.out HA'.out _ (fun h => (HR'.out h).ext y10)).mono ?_
      rintro e w11 ⟨e11, hx11⟩
      replace e11 : e = .returned (.tuple #[.agg S.cells, .int .i64 0]) := by rw [e11, HS.out, HH'.out]
      subst e11
      have hB11 := Blk.alloc (Blk.ext hB10 hx11) (.cells S.cells 30)
      have hC11 := Blk.alloc (Blk.ext hC10 hx11) (.cells S.cells 30)
      have hW11 := Blk.alloc (Blk.ext hW10 hx11) (.cells S.cells 30)
      have hS11 := Blk.alloc (Blk.ext hS10 hx11) (.cells S.cells 30)
      have hT11 := Blk.new w11 30 S.cells
      have y11 := (y10.trans hx11).alloc (.cells S.cells 30)
      have hl11 := (Blk.ext hS10 hx11).lt
      clear hX10 hB10 hC10 hW10 hS10 y10 hx11 hh10 hg10
      go_upto_region 15 with (fail)
      generalize (w11.alloc (.cells #[.int .u8 S.x0, .int .u8 S.x1, .int .u8 S.x2, .int .u8 S.x3, .int .u8 S.x4, .int .u8 S.x5, .int .u8 S.x6, .int .u8 S.x7] 30)) = W11 at hB11 hC11 hW11 hS11 hT11 y11 ⊢
      generalize w11.heap.size = c11 at hT11 hl11 ⊢
      have hh11 := Blk.has hW11
      have hg11 := Blk.gets hW11
      have hlW := hT11.lt
      have hB12 := Blk.alloc hB11 (.cells (bareC n halt k M) 45)
      have hC12 := Blk.alloc hC11 (.cells (bareC n halt k M) 45)
      have hS12 := Blk.alloc hS11 (.cells (bareC n halt k M) 45)
      have hT12 := Blk.alloc hT11 (.cells (bareC n halt k M) 45)
      have hM12 := Blk.new W11 45 (bareC n halt k M)
      have y12 := y11.alloc (.cells (bareC n halt k M) 45)
      clear hB11 hC11 hS11 hT11 y11
      go_upto_region 16 with (fail)
      generalize (W11.alloc (.cells (bareC n halt k M) 45)) = W12 at hB12 hC12 hS12 hT12 hM12 y12 ⊢
      clear hh11 hg11
      generalize W11.heap.size = c12 at hM12 hlW ⊢
      have hc12 := Blk.cell hM12
      have hl12 := hM12.lt
      go_step
      iterate 4 (refine wpList_step (fun K hK => ?_); go_simp; (try go_bits); refine hK _ _ ?_; clear hK K)
      obtain ⟨g13, k13, w13, hr13, _, hg13, hx13⟩ := appW1 (W12.alloc (.cells #[.int .i64 0, .int .i32 1, .slice none 0 0] 77)) W12.heap.size [.int .i64 0, .int .i32 1, .slice none 0 0] rfl rfl (Row.of_blk (Blk.new W12 _ _))
      refine wpList_app rfl (.tmp 82) (.tmp 84) 43 rfl rfl rfl rfl hr13 ?_
      clear hr13
      have x13 : Ext W12 w13 := ((Kept.refl _ W12).alloc _).trans hx13
      have hM13 := Blk.ext hM12 x13
      have hcM := Blk.cell hM13
      have hfM := Blk.frozen hM13
      have hM14 : Blk (w13.setCell ⟨c12, 16, none⟩ (.slice (some ⟨g13, 0, none⟩) 1 k13)) c12 45 (moreC n halt k M g13 k13) := Blk.set_ hM13 16 (.slice (some ⟨g13, 0, none⟩) 1 k13)
      have hB14 := Blk.far (Blk.ext hB12 x13) (p := ⟨c12, 16, none⟩) (show c6 ≠ c12 by omega) (.slice (some ⟨g13, 0, none⟩) 1 k13)
      have hC14 := Blk.far (Blk.ext hC12 x13) (p := ⟨c12, 16, none⟩) (show c7 ≠ c12 by omega) (.slice (some ⟨g13, 0, none⟩) 1 k13)
      have hS14 := Blk.far (Blk.ext hS12 x13) (p := ⟨c12, 16, none⟩) (show c9 ≠ c12 by omega) (.slice (some ⟨g13, 0, none⟩) 1 k13)
      have hT14 := Blk.far (Blk.ext hT12 x13) (p := ⟨c12, 16, none⟩) (show c11 ≠ c12 by omega) (.slice (some ⟨g13, 0, none⟩) 1 k13)
      have y14 : Ext w (w13.setCell ⟨c12, 16, none⟩ (.slice (some ⟨g13, 0, none⟩) 1 k13)) := Kept.setCell (y12.trans x13) ⟨c12, 16, none⟩ _ (fun h => by have : c12 < w.heap.size := h; omega)
      clear hB12 hC12 hS12 hT12 hM12 y12 hc12
      go_upto_region 17 with (fail)
      clear hM13 hcM hfM x13 hx13 hg13
      generalize (w13.setCell ⟨c12, 16, none⟩ (.slice (some ⟨g13, 0, none⟩) 1 k13)) = W14 at hM14 hB14 hC14 hS14 hT14 y14 ⊢
      have i1 := Blk.has hB14
      have i2 := Blk.gets hB14
      have i3 := Blk.has hC14
      have i4 := Blk.gets hC14
      have i5 := Blk.has hM14
      have i6 := Blk.gets hM14
      go_wp2_with fail
      have hlm : ((m.length : Nat) : Int) = k := by rw [HKn.out]
      have hck := after_form (moreStep n halt m g13 k13) C n W14 (hWord_ok _ _) (by omega) (by omega) (by show rightS n halt m.length = true; rw [hlm]; exact HRT.out) (.inr (Int.le_refl _)) rfl rfl rfl
      have e9 : hHead (moreStep n halt m g13 k13).pc (moreStep n halt m g13 k13).halt (moreStep n halt m g13 k13).words (moreStep n halt m g13 k13).mem = B := HB.out.symm
      have e11 : (moreStep n halt m g13 k13).cells = moreC n halt k M g13 k13 := by rw [HKn.out, HM.out]; rfl
      rw [e9, e11] at hck
      clear hlm e9 e11
      refine hck.mono ?_
      rintro e w15 ⟨rfl, hx15⟩
      clear hck i1 i2 i3 i4 i5 i6
      have hS15 := Blk.alloc (Blk.ext hS14 hx15) (.cells Dg.zero.cells 30)
      have hT15 := Blk.alloc (Blk.ext hT14 hx15) (.cells Dg.zero.cells 30)
      have y15 := (y14.trans hx15).alloc (.cells Dg.zero.cells 30)
      have hl15 := (Blk.ext hT14 hx15).lt
      have hl15' := (Blk.ext hS14 hx15).lt
      clear hS14 hT14 y14 hx15 hM14 hB14 hC14
      go_upto_region 18 with (fail)
      generalize (w15.alloc (.cells Dg.zero.cells 30)) = W15 at hS15 hT15 y15 ⊢
      have i1 := Blk.has hS15
      have i2 := Blk.gets hS15
      have i3 := Blk.has hT15
      have i4 := Blk.gets hT15
      go_wp2_with fail
      go_ret
      exact ⟨rfl, y15⟩
    · have bz : (halt == 0) = false := by simp [hz]
      have eh : h' = halt := by rw [HH'.out]; simp [haltS, hz]
      have EH := Lib.hid eh
      clear hz eh
      go_upto_region 14 with (fail)
      clear hc9 hf9
      have hX10 := hX9
      have hB10 := hB9
      have hC10 := hC9
      have hW10 := hW9
      have hS10 := hS9
      have y10 := y9
      clear hX9 hB9 hC9 hW9 hS9 y9
      rw [← EH.out] at hX10
      have hh10 := Blk.has hX10
      have hg10 := Blk.gets hX10
      go_wp2_with fail
      refine (wstate_ok n h' A' b' off' cap' m k HKn.out HRT'.out HA'.out _ (fun h => (HR'.out h).ext y10)).mono ?_
      rintro e w11 ⟨e11, hx11⟩
      replace e11 : e = .returned (.tuple #[.agg S.cells, .int .i64 0]) := by rw [e11, HS.out, HH'.out]
      subst e11
      have hB11 := Blk.alloc (Blk.ext hB10 hx11) (.cells S.cells 30)
      have hC11 := Blk.alloc (Blk.ext hC10 hx11) (.cells S.cells 30)
      have hW11 := Blk.alloc (Blk.ext hW10 hx11) (.cells S.cells 30)
      have hS11 := Blk.alloc (Blk.ext hS10 hx11) (.cells S.cells 30)
      have hT11 := Blk.new w11 30 S.cells
      have y11 := (y10.trans hx11).alloc (.cells S.cells 30)
      have hl11 := (Blk.ext hS10 hx11).lt
      clear hX10 hB10 hC10 hW10 hS10 y10 hx11 hh10 hg10
      go_upto_region 15 with (fail)
      generalize (w11.alloc (.cells #[.int .u8 S.x0, .int .u8 S.x1, .int .u8 S.x2, .int .u8 S.x3, .int .u8 S.x4, .int .u8 S.x5, .int .u8 S.x6, .int .u8 S.x7] 30)) = W11 at hB11 hC11 hW11 hS11 hT11 y11 ⊢
      generalize w11.heap.size = c11 at hT11 hl11 ⊢
      have hh11 := Blk.has hW11
      have hg11 := Blk.gets hW11
      have hlW := hT11.lt
      have hB12 := Blk.alloc hB11 (.cells (bareC n halt k M) 45)
      have hC12 := Blk.alloc hC11 (.cells (bareC n halt k M) 45)
      have hS12 := Blk.alloc hS11 (.cells (bareC n halt k M) 45)
      have hT12 := Blk.alloc hT11 (.cells (bareC n halt k M) 45)
      have hM12 := Blk.new W11 45 (bareC n halt k M)
      have y12 := y11.alloc (.cells (bareC n halt k M) 45)
      clear hB11 hC11 hS11 hT11 y11
      go_upto_region 16 with (fail)
      generalize (W11.alloc (.cells (bareC n halt k M) 45)) = W12 at hB12 hC12 hS12 hT12 hM12 y12 ⊢
      clear hh11 hg11
      generalize W11.heap.size = c12 at hM12 hlW ⊢
      have hc12 := Blk.cell hM12
      have hl12 := hM12.lt
      go_step
      iterate 4 (refine wpList_step (fun K hK => ?_); go_simp; (try go_bits); refine hK _ _ ?_; clear hK K)
      obtain ⟨g13, k13, w13, hr13, _, hg13, hx13⟩ := appW1 (W12.alloc (.cells #[.int .i64 0, .int .i32 1, .slice none 0 0] 77)) W12.heap.size [.int .i64 0, .int .i32 1, .slice none 0 0] rfl rfl (Row.of_blk (Blk.new W12 _ _))
      refine wpList_app rfl (.tmp 82) (.tmp 84) 43 rfl rfl rfl rfl hr13 ?_
      clear hr13
      have x13 : Ext W12 w13 := ((Kept.refl _ W12).alloc _).trans hx13
      have hM13 := Blk.ext hM12 x13
      have hcM := Blk.cell hM13
      have hfM := Blk.frozen hM13
      have hM14 : Blk (w13.setCell ⟨c12, 16, none⟩ (.slice (some ⟨g13, 0, none⟩) 1 k13)) c12 45 (moreC n halt k M g13 k13) := Blk.set_ hM13 16 (.slice (some ⟨g13, 0, none⟩) 1 k13)
      have hB14 := Blk.far (Blk.ext hB12 x13) (p := ⟨c12, 16, none⟩) (show c6 ≠ c12 by omega) (.slice (some ⟨g13, 0, none⟩) 1 k13)
      have hC14 := Blk.far (Blk.ext hC12 x13) (p := ⟨c12, 16, none⟩) (show c7 ≠ c12 by omega) (.slice (some ⟨g13, 0, none⟩) 1 k13)
      have hS14 := Blk.far (Blk.ext hS12 x13) (p := ⟨c12, 16, none⟩) (show c9 ≠ c12 by omega) (.slice (some ⟨g13, 0, none⟩) 1 k13)
      have hT14 := Blk.far (Blk.ext hT12 x13) (p := ⟨c12, 16, none⟩) (show c11 ≠ c12 by omega) (.slice (some ⟨g13, 0, none⟩) 1 k13)
      have y14 : Ext w (w13.setCell ⟨c12, 16, none⟩ (.slice (some ⟨g13, 0, none⟩) 1 k13)) := Kept.setCell (y12.trans x13) ⟨c12, 16, none⟩ _ (fun h => by have : c12 < w.heap.size := h; omega)
      clear hB12 hC12 hS12 hT12 hM12 y12 hc12
      go_upto_region 17 with (fail)
      clear hM13 hcM hfM x13 hx13 hg13
      generalize (w13.setCell ⟨c12, 16, none⟩ (.slice (some ⟨g13, 0, none⟩) 1 k13)) = W14 at hM14 hB14 hC14 hS14 hT14 y14 ⊢
      have i1 := Blk.has hB14
      have i2 := Blk.gets hB14
      have i3 := Blk.has hC14
      have i4 := Blk.gets hC14
      have i5 := Blk.has hM14
      have i6 := Blk.gets hM14
      go_wp2_with fail
      have hlm : ((m.length : Nat) : Int) = k := by rw [HKn.out]
      have hck := after_form (moreStep n halt m g13 k13) C n W14 (hWord_ok _ _) (by omega) (by omega) (by show rightS n halt m.length = true; rw [hlm]; exact HRT.out) (.inr (Int.le_refl _)) rfl rfl rfl
      have e9 : hHead (moreStep n halt m g13 k13).pc (moreStep n halt m g13 k13).halt (moreStep n halt m g13 k13).words (moreStep n halt m g13 k13).mem = B := HB.out.symm
      have e11 : (moreStep n halt m g13 k13).cells = moreC n halt k M g13 k13 := by rw [HKn.out, HM.out]; rfl
      rw [e9, e11] at hck
      clear hlm e9 e11
      refine hck.mono ?_
      rintro e w15 ⟨rfl, hx15⟩
      clear hck i1 i2 i3 i4 i5 i6
      have hS15 := Blk.alloc (Blk.ext hS14 hx15) (.cells Dg.zero.cells 30)
      have hT15 := Blk.alloc (Blk.ext hT14 hx15) (.cells Dg.zero.cells 30)
      have y15 := (y14.trans hx15).alloc (.cells Dg.zero.cells 30)
      have hl15 := (Blk.ext hT14 hx15).lt
      have hl15' := (Blk.ext hS14 hx15).lt
      clear hS14 hT14 y14 hx15 hM14 hB14 hC14
      go_upto_region 18 with (fail)
      generalize (w15.alloc (.cells Dg.zero.cells 30)) = W15 at hS15 hT15 y15 ⊢
      have i1 := Blk.has hS15
      have i2 := Blk.gets hS15
      have i3 := Blk.has hT15
      have i4 := Blk.gets hT15
      go_wp2_with fail
      go_ret
      exact ⟨rfl, y15⟩
  · have hrf : rightS n halt k = false := by simpa using hright
    replace e6 : e = .returned (.tuple #[.agg Dg.zero.cells, .int .i64 2]) := by rw [e6]; simp only [stZ, stK, ← HKn.out, if_neg hright]
    subst e6
    have HRT := Lib.hid hrf
    clear hright hrf
    have hX6 := Blk.ext hX5 hx6
    have hX7 := Blk.alloc hX6 (.cells Dg.zero.cells 30)
    have hh6 := Blk.has hX7
    have hg6 := Blk.gets hX7
    have hl6 := hX6.lt
    clear hX5 hh5 hg5
    go_upto_region 8 with (fail)
    go_wp2_with fail
    refine (right_any n halt A' k cap' _).mono ?_
    rintro e w7 ⟨rfl, hx7⟩
    rw [HRT.out]
    go_wp2_with fail
    go_ret
    exact ⟨rfl, ((y5.trans hx6).alloc _).trans hx7⟩
set_option maxRecDepth 100000 in
theorem walk {H : Type} {enc : TypeId × Value → H} (W : World) (base : Nat) (v0 v1 : Value) (d0 d1 : DataW H) (p0 p1 : List MemPlace)
    (o0 : Value.okWide Tryz.prog W .any base 58 v0) (o1 : Value.okWide Tryz.prog W .any base 61 v1)
    (h0 : DataW.Trod enc Tryz.prog W 0 (fun _ => true) true 58 v0 d0 p0) (h1 : DataW.Trod enc Tryz.prog W 0 (fun _ => true) true 61 v1 d1 p1) :
    Calls Tryz.prog 7 #[v0, v1] W fun e w' => e = .returned (.bool true) ∧ Ext W w' := by
  obtain ⟨A0, n0, cap0, rfl⟩ := okWide_slice Tryz.underlying58 o0
  obtain ⟨fuel, hf⟩ := h0
  obtain ⟨A, b, off, n, cap, l, e, hA, hn, hr, hok, _, _⟩ := inss_of hf
  simp at e
  obtain ⟨rfl, rfl, rfl⟩ := e
  obtain ⟨cs, rfl⟩ : ∃ cs, v1 = .agg cs := by
    simp only [Value.okWide, Tryz.underlying61] at o1
    obtain ⟨cs, h1, _⟩ := o1
    exact ⟨cs, h1⟩
  obtain ⟨fuel', hf'⟩ := h1
  obtain ⟨pc, halt, A', b', off', k, cap', m, e, hpc, hhalt, hA', hk, hr', hm, _, _⟩ := state_of hf'
  obtain rfl : cs = stCells pc A' k cap' halt := by
    cases cs
    simpa [Value.cells] using e
  by_cases hl : n0 ≤ 20 ∧ k ≤ 20 ∧ 1 ≤ n0
  · exact small A0 b off cap0 l n0 hn hl.2.2 hl.1 hok hA pc halt A' b' off' cap' m k hk hl.2.1 hA' W hr hr'
  · exact many A0 A' n0 cap0 k cap' pc halt W (by simp; omega)
end witnessStays
end Go.Proofs.YtahljceanodhkaaGreatDoor
