/- Package baizeref22: Code, State; baizeref15: Right. -/
import Derived.Test.YtahljceanodhkaaGreatDoorRj
namespace Go.Proofs.YtahljceanodhkaaGreatDoor
open Go.RowKit
def rootT (l : List Dg) : Dg := hTop (nodeT l (hgt l.length) 0) (hgt l.length)
def codeR (l : List Ins) : Dg := rootT (l.map ileaf)
def memR (l : List Int) : Dg := rootT (l.map leafW)
theorem ileaf_ok (i : Ins) : (ileaf i).ok := hOf_ok _
theorem leafW_ok (x : Int) : (leafW x).ok := dgN_ok _
set_option maxRecDepth 100000 in
set_option maxHeartbeats 1000000 in
theorem rcode_ok (A : Option Addr) (b off cap : Nat) (l : List Ins) (n : Nat) (hn : n = l.length) (h1 : 1 ≤ n) (h2 : n ≤ 2048) (hok : ∀ i ∈ l, i.ok) (hA : 0 < n → A = some ⟨b, off, none⟩) (w : World) (hr : 0 < n → Row w b off (inss l)) :
    Calls Tryz.prog 31 #[.slice A n cap] w fun e w' => e = .returned (.tuple #[.agg (codeR l).cells, .int .i64 0]) ∧ Ext w w' := by
  have HN := Lib.hid hn
  have HO := Lib.hid hok
  have HA := Lib.hid hA
  have HR := Lib.hid hr
  clear hn hok hA hr
  obtain ⟨D, hD⟩ : ∃ D, D = codeR l := ⟨_, rfl⟩
  rw [← hD]
  have HD := Lib.hid hD
  clear hD
  have hx0 : Ext w _ := (Kept.refl _ w).alloc (.cells Dg.zero.cells 23)
  have hR0 := Blk.new w 23 Dg.zero.cells
  go_enter Tryz.func31, Tryz.ntmps31
  go_wp2_with fail
  refine (rcodeLeaves_ok A b off cap l n HN.out (by omega) HO.out HA.out _ (fun h => (HR.out h).ext hx0)).mono ?_
  rintro e w1 ⟨v, rfl, ho, hx1⟩
  obtain ⟨g, c, rfl, hg, hrow, hc, hcm, hl⟩ := own_someD ho h1
  have HL := Lib.hid hl
  clear hl hc hcm
  go_wp2_with fail
  refine (rroot_ok (some ⟨g, 0, none⟩) g 0 c (l.map ileaf) n HL.out h1 (by omega) (by simp; exact fun i _ => ileaf_ok i) (fun _ => rfl) _ (fun _ => hrow)).mono ?_
  rintro e w2 ⟨e2, hx2⟩
  have hcr : hTop (nodeT (l.map ileaf) (hgt n) 0) (hgt n) = D := by rw [HD.out, codeR, rootT, ← HL.out]
  rw [hcr] at e2
  subst e2
  clear hcr
  have hR2 := Blk.ext hR0 (hx1.trans hx2)
  have hh2 := Blk.has hR2
  have hm2 := Blk.melts hR2
  have hl2 := Blk.lt hR2
  go_wp2_with fail
  refine ret_ci Tryz.results31 rfl rfl aggArr8 (by exact sizeArr8) ((Blk.put_ hR2 _ _).alloc _) ⟨rfl, ?_⟩
  exact (Kept.putAt ((hx0.trans hx1).trans hx2) _ _ _ (fun h => by omega)).alloc _
set_option maxRecDepth 100000 in
set_option maxHeartbeats 1000000 in
theorem rcode_no (A : Option Addr) (cap n : Nat) (h : n < 1 ∨ 2048 < n) (w : World) :
    Calls Tryz.prog 31 #[.slice A n cap] w fun e w' => e = .returned (.tuple #[.agg Dg.zero.cells, .int .i64 2]) ∧ Ext w w' := by
  have hx0 : Ext w _ := (Kept.refl _ w).alloc (.cells Dg.zero.cells 23)
  have hR0 := Blk.new w 23 Dg.zero.cells
  rcases h with h | h
  · go_enter Tryz.func31, Tryz.ntmps31
    go_wp2_with fail
    refine ret_ci Tryz.results31 rfl rfl aggArr8 (by exact sizeArr8) hR0 ⟨rfl, hx0⟩
  · go_enter Tryz.func31, Tryz.ntmps31
    go_wp2_with fail
    refine ret_ci Tryz.results31 rfl rfl aggArr8 (by exact sizeArr8) hR0 ⟨rfl, hx0⟩
/-- a state's form -/
def rightS (pc halt n : Int) : Bool := decide (1 ≤ n) && decide (n ≤ 256) && decide (0 ≤ pc) && decide (pc ≤ 2048) && decide (0 ≤ halt) && decide (halt ≤ 2)
abbrev stCells (pc : Int) (A : Option Addr) (n cap : Nat) (halt : Int) : Array Value := #[.int .i64 pc, .slice A n cap, .int .i64 halt]
attribute [go_sem] stCells
set_option maxRecDepth 100000 in
set_option maxHeartbeats 1000000 in
theorem rright_any (pc halt : Int) (A : Option Addr) (n cap : Nat) (w : World) :
    Calls Tryz.prog 72 #[.agg (stCells pc A n cap halt)] w fun e w' => e = .returned (.bool (rightS pc halt n)) ∧ Ext w w' := by
  have hx0 : Ext w _ := (Kept.refl _ w).alloc (.cells (stCells pc A n cap halt) 61)
  go_enter Tryz.func72, Tryz.ntmps72
  go_wp2_with fail
  all_goals go_ret
  all_goals refine ⟨?_, hx0⟩
  all_goals simp [rightS]
  all_goals (intros; omega)
def stateR (pc halt : Int) (l : List Int) : Dg := hHead pc halt l.length (memR l)
theorem rightS_inv {pc halt : Int} {n : Nat} (h : rightS pc halt n = true) : 1 ≤ n ∧ n ≤ 256 ∧ 0 ≤ pc ∧ pc ≤ 2048 ∧ 0 ≤ halt ∧ halt ≤ 2 := by
  simp [rightS] at h
  omega
set_option maxRecDepth 100000 in
set_option maxHeartbeats 1000000 in
theorem rstate_ok (pc halt : Int) (A : Option Addr) (b off cap : Nat) (l : List Int) (n : Nat) (hn : n = l.length) (hg : rightS pc halt n = true) (hA : 0 < n → A = some ⟨b, off, none⟩) (w : World) (hr : 0 < n → Row w b off (mems l)) :
    Calls Tryz.prog 34 #[.agg (stCells pc A n cap halt)] w fun e w' => e = .returned (.tuple #[.agg (stateR pc halt l).cells, .int .i64 0]) ∧ Ext w w' := by
  obtain ⟨h1, h2, h3, h4, h5, h6⟩ := rightS_inv hg
  have HG := Lib.hid hg
  have HN := Lib.hid hn
  have HA := Lib.hid hA
  have HR := Lib.hid hr
  clear hn hA hr hg
  obtain ⟨D, hD⟩ : ∃ D, D = stateR pc halt l := ⟨_, rfl⟩
  rw [← hD]
  have HD := Lib.hid hD
  clear hD
  obtain ⟨M, hM⟩ : ∃ M, M = memR l := ⟨_, rfl⟩
  have HM := Lib.hid hM
  clear hM
  have hx0 : Ext w _ := ((Kept.refl _ w).alloc (.cells (stCells pc A n cap halt) 61)).alloc (.cells Dg.zero.cells 23)
  have hA0 : Blk _ w.heap.size 61 (stCells pc A n cap halt) := Blk.alloc (Blk.new w _ _) (.cells Dg.zero.cells 23)
  have hR0 : Blk _ (w.heap.size + 1) 23 Dg.zero.cells := Blk.new' (w.alloc (.cells (stCells pc A n cap halt) 61)) _ _ _ (by simp)
  go_enter Tryz.func34, Tryz.ntmps34
  go_wp2_with fail
  refine (rright_any pc halt A n cap _).mono ?_
  rintro e w1 ⟨rfl, hx1⟩
  rw [HG.out]
  have hA1 := Blk.ext hA0 hx1
  have hc1 := Blk.cell hA1
  have hR1 := Blk.ext hR0 hx1
  have hl1 := Blk.lt hR1
  go_wp2_with fail
  refine (rmemLeaves_ok A b off cap l n HN.out (by omega) HA.out _ (fun h => ((HR.out h).ext hx0).ext hx1)).mono ?_
  rintro e w2 ⟨v, rfl, ho, hx2⟩
  obtain ⟨g, c, rfl, hg, hrow, hc, hcm, hl⟩ := own_someD ho h1
  have HL := Lib.hid hl
  clear hl hc hcm
  go_wp2_with fail
  refine (rroot_ok (some ⟨g, 0, none⟩) g 0 c (l.map leafW) n HL.out h1 (by omega) (by simp; exact fun i _ => leafW_ok i) (fun _ => rfl) _ (fun _ => hrow)).mono ?_
  rintro e w3 ⟨e3, hx3⟩
  have hcr : hTop (nodeT (l.map leafW) (hgt n) 0) (hgt n) = M := by rw [HM.out, memR, rootT, ← HL.out]
  rw [hcr] at e3
  subst e3
  clear hcr hc1
  have y3 := (hx1.trans hx2).trans hx3
  have hA3 := Blk.ext hA0 y3
  have hc3 := Blk.cell hA3
  have hR3 := Blk.ext hR0 y3
  have hl3 := Blk.lt hR3
  have hl3' := Blk.lt hA3
  go_wp2_with fail
  refine (rhead_any pc halt n M (by rw [HM.out]; exact hWord_ok _ _) (by omega) (by omega) (by omega) _).mono ?_
  rintro e w4 ⟨e4, hx4⟩
  have hcr : hHead pc halt n M = D := by rw [HD.out, HM.out, stateR, ← HN.out]
  rw [hcr] at e4
  subst e4
  clear hcr hc3
  have y4 := (y3.alloc _).trans hx4
  have hR4 := Blk.ext hR0 y4
  have hh4 := Blk.has hR4
  have hm4 := Blk.melts hR4
  go_wp2_with fail
  refine ret_ci Tryz.results34 rfl rfl aggArr8 (by exact sizeArr8) (Blk.put_ hR4 _ _) ⟨rfl, ?_⟩
  exact Kept.putAt (hx0.trans y4) _ _ _ (fun h => by omega)
set_option maxRecDepth 100000 in
set_option maxHeartbeats 1000000 in
theorem rstate_no (pc halt : Int) (A : Option Addr) (cap : Nat) (n : Nat) (hg : rightS pc halt n = false) (w : World) :
    Calls Tryz.prog 34 #[.agg (stCells pc A n cap halt)] w fun e w' => e = .returned (.tuple #[.agg Dg.zero.cells, .int .i64 2]) ∧ Ext w w' := by
  have HG := Lib.hid hg
  clear hg
  have hx0 : Ext w _ := ((Kept.refl _ w).alloc (.cells (stCells pc A n cap halt) 61)).alloc (.cells Dg.zero.cells 23)
  have hR0 : Blk _ (w.heap.size + 1) 23 Dg.zero.cells := Blk.new' (w.alloc (.cells (stCells pc A n cap halt) 61)) _ _ _ (by simp)
  go_enter Tryz.func34, Tryz.ntmps34
  go_wp2_with fail
  refine (rright_any pc halt A n cap _).mono ?_
  rintro e w1 ⟨rfl, hx1⟩
  rw [HG.out]
  have hR1 := Blk.ext hR0 hx1
  have hh1 := Blk.has hR1
  have hm1 := Blk.melts hR1
  go_wp2_with fail
  refine ret_ci Tryz.results34 rfl rfl aggArr8 (by exact sizeArr8) (Blk.put_ hR1 _ _) ⟨rfl, ?_⟩
  exact Kept.putAt (hx0.trans hx1) _ _ _ (fun h => by omega)
end Go.Proofs.YtahljceanodhkaaGreatDoor
