/- A slice of deeds that came in, opened. -/
import Derived.Test.YtahljceanodhkaaGreatDoorHalvt
import Derived.Test.YtahljceanodhkaaGreatDoorHalvp
import Derived.ProofKit
import Derived.OpenShut
import Derived.ShutString
import Derived.ChangeOld
import Derived.Below
import Derived.Deep.Slices
namespace Go.Proofs.YtahljceanodhkaaGreatDoor
open Go.RowKit Go.Deep Go.ChangeShapes Go.WideShapes
/-- Deeds in memory: so many, of 11 cells each. -/
structure Deeds (w : World) (b off len : Nat) (what : Nat → Int) (dg : Nat → Dg) (first : Nat → Bool) : Prop where
  what_ : ∀ i, i < len → w.cell? ⟨b, off + i * 11, none⟩ = some (.int .u8 (what i))
  whatR : ∀ i, i < len → 0 ≤ what i ∧ what i ≤ 255
  has_ : ∀ i, i < len → has w b (off + i * 11 + 1) 8 = true
  dg_ : ∀ i, i < len → gets w b (off + i * 11 + 1) 8 = (dg i).cells
  first_ : ∀ i, i < len → w.cell? ⟨b, off + i * 11 + 9, none⟩ = some (.bool (first i))
  lt : 0 < len → b < w.heap.size
theorem Deeds.keep {w w' : World} {b off len : Nat} {what : Nat → Int} {dg : Nat → Dg} {first : Nat → Bool} (h : Deeds w b off len what dg first) (hk : Ext w w') : Deeds w' b off len what dg first := by
  have hc : ∀ o, 0 < len → w'.cell? ⟨b, o, none⟩ = w.cell? ⟨b, o, none⟩ := fun o hl => hk.cell (p := ⟨b, o, none⟩) (h.lt hl) (fun f => f)
  have hb : 0 < len → w'.heap[b]? = w.heap[b]? := fun hl => hk.block b (h.lt hl) (fun f => f)
  refine ⟨fun i hi => (hc _ (by omega)).trans (h.what_ i hi), h.whatR, fun i hi => ?_, fun i hi => ?_, fun i hi => (hc _ (by omega)).trans (h.first_ i hi), fun hl => Nat.lt_of_lt_of_le (h.lt hl) hk.size⟩
  · have := h.has_ i hi; unfold has at this ⊢; rw [hb (by omega)]; exact this
  · have := h.dg_ i hi; unfold gets at this ⊢; rw [hb (by omega)]; exact this
theorem silenceE_cases (t : Tr) : silenceE t = 0 ∨ silenceE t = 15 := by
  unfold silenceE
  by_cases h : t.turn = 0
  · simp [h]
  · by_cases h1 : t.turn = 1 <;> simp [h, h1]
theorem addr_add (b off j : Nat) : (⟨b, off, none⟩ : Addr).add j = ⟨b, off + j, none⟩ := by unfold Addr.add; split <;> simp_all
theorem spot_of_cell {w : World} {a : Addr} {v : Value} (h : w.cell? a = some v) : a.spot = none := by
  unfold World.cell? at h
  split at h
  · split at h
    · cases h
    · rename_i hn; cases hs : a.spot with
      | none => rfl
      | some x => simp [hs] at hn
  · cases h
def intAt (w : World) (b o : Nat) : Int := match w.cell? ⟨b, o, none⟩ with | some (.int _ n) => n | _ => 0
def boolAt (w : World) (b o : Nat) : Bool := match w.cell? ⟨b, o, none⟩ with | some (.bool x) => x | _ => false
def dgAt (w : World) (b o : Nat) : Dg := ⟨intAt w b o, intAt w b (o + 1), intAt w b (o + 2), intAt w b (o + 3), intAt w b (o + 4), intAt w b (o + 5), intAt w b (o + 6), intAt w b (o + 7)⟩
theorem intAt_of {w : World} {b o : Nat} {k : IntKind} {n : Int} (h : w.cell? ⟨b, o, none⟩ = some (.int k n)) : intAt w b o = n := by simp [intAt, h]
theorem boolAt_of {w : World} {b o : Nat} {x : Bool} (h : w.cell? ⟨b, o, none⟩ = some (.bool x)) : boolAt w b o = x := by simp [boolAt, h]
/-- cells known one by one: the row of them -/
theorem gets_of_cells {w : World} {b o : Nat} (vs : List Value) (hne : 0 < vs.length) (h : ∀ j, j < vs.length → w.cell? ⟨b, o + j, none⟩ = vs[j]?) : has w b o vs.length = true ∧ gets w b o vs.length = vs.toArray := by
  have h0 := h 0 hne
  unfold has gets
  cases hq : w.heap[b]? with
  | none => simp [World.cell?, hq, List.getElem?_eq_getElem hne] at h0
  | some ob =>
    cases ob with
    | cells c t fr =>
      have hc : ∀ j, j < vs.length → c[o + j]? = vs[j]? := fun j hj => by have := h j hj; simpa [World.cell?, hq] using this
      have hlast := hc (vs.length - 1) (by omega)
      have hlt : o + (vs.length - 1) < c.size := by
        rw [List.getElem?_eq_getElem (by omega)] at hlast
        exact (Array.getElem?_eq_some_iff.1 hlast).1
      refine ⟨by simp; omega, ?_⟩
      show ((c.toList.drop o).take vs.length).toArray = vs.toArray
      congr 1
      apply List.ext_getElem?
      intro j
      rw [List.getElem?_take]
      split
      · rename_i hj
        rw [List.getElem?_drop, ← hc j hj]; simp
      · rename_i hj
        rw [List.getElem?_eq_none (by omega)]
    | _ => simp [World.cell?, hq, List.getElem?_eq_getElem hne] at h0

section
variable {H : Type} {enc : TypeId × Value → H} {w : World} {base : Nat} {spare : Nat → Bool} {held : Bool}
theorem cellsDeed : Tryz.prog.cellsOf 25 = 11 := by kernel_rfl
theorem cellsArr8 : Tryz.prog.cellsOf 23 = 8 := by kernel_rfl
theorem cellsU8 : Tryz.prog.cellsOf 5 = 1 := by kernel_rfl
theorem cellsBool : Tryz.prog.cellsOf 4 = 1 := by kernel_rfl
set_option maxRecDepth 100000 in
/-- a deed's eleven cells -/
theorem deed_cells {fuel : Nat} {cs : List Value} {x : DataW H × List MemPlace} (h : DataW.trod enc Tryz.prog w base spare held fuel 25 cs = some x) :
    ∃ (wh : Int) (d : Dg) (f : Bool) (v : Value), 0 ≤ wh ∧ wh ≤ 255 ∧ cs = [.int .u8 wh, .int .u8 d.x0, .int .u8 d.x1, .int .u8 d.x2, .int .u8 d.x3, .int .u8 d.x4, .int .u8 d.x5, .int .u8 d.x6, .int .u8 d.x7, .bool f, v] := by
  obtain ⟨xs, n, _, _, hl, hxl, hf⟩ := DataW.trod_struct Tryz.underlying25 h
  rw [cellsDeed] at hl
  have h0 : DataW.trod enc Tryz.prog w base spare held n 5 ((cs.drop 0).take (Tryz.prog.cellsOf 5)) = xs[0]? := hf 0 _ rfl
  have h1 : DataW.trod enc Tryz.prog w base spare held n 23 ((cs.drop 1).take (Tryz.prog.cellsOf 23)) = xs[1]? := hf 1 _ rfl
  have h2 : DataW.trod enc Tryz.prog w base spare held n 4 ((cs.drop 9).take (Tryz.prog.cellsOf 4)) = xs[2]? := hf 2 _ rfl
  rw [cellsU8] at h0
  rw [cellsArr8] at h1
  rw [cellsBool] at h2
  obtain ⟨y0, hy0⟩ : ∃ y, xs[0]? = some y := ⟨xs[0]'(by rw [hxl]; decide), List.getElem?_eq_getElem _⟩
  obtain ⟨y1, hy1⟩ : ∃ y, xs[1]? = some y := ⟨xs[1]'(by rw [hxl]; decide), List.getElem?_eq_getElem _⟩
  obtain ⟨y2, hy2⟩ : ∃ y, xs[2]? = some y := ⟨xs[2]'(by rw [hxl]; decide), List.getElem?_eq_getElem _⟩
  rw [hy0] at h0
  rw [hy1] at h1
  rw [hy2] at h2
  match cs, hl with
  | [c0, c1, c2, c3, c4, c5, c6, c7, c8, c9, c10], _ =>
    obtain ⟨wh, e0, _, wf0⟩ := DataW.trod_int Tryz.underlying5 h0
    obtain ⟨f, e2, _⟩ := DataW.trod_bool Tryz.underlying4 h2
    obtain ⟨zs, m, _, _, _, hzl, hz⟩ := DataW.trod_array Tryz.underlying23 h1
    rw [cellsU8] at hz
    have g : ∀ i (hi : i < 8), ∃ n, (([c0, c1, c2, c3, c4, c5, c6, c7, c8, c9, c10].drop 1).take 8)[i]? = some (.int .u8 n) := fun i hi => by
      have hzi := hz i hi
      rw [List.getElem?_eq_getElem (show i < zs.length by omega)] at hzi
      obtain ⟨n, e, _, _⟩ := DataW.trod_int Tryz.underlying5 hzi
      refine ⟨n, ?_⟩
      have := congrArg (fun l => l[0]?) e
      simpa [List.getElem?_take, List.getElem?_drop, hi] using this
    obtain ⟨n0, g0⟩ := g 0 (by omega)
    obtain ⟨n1, g1⟩ := g 1 (by omega)
    obtain ⟨n2, g2⟩ := g 2 (by omega)
    obtain ⟨n3, g3⟩ := g 3 (by omega)
    obtain ⟨n4, g4⟩ := g 4 (by omega)
    obtain ⟨n5, g5⟩ := g 5 (by omega)
    obtain ⟨n6, g6⟩ := g 6 (by omega)
    obtain ⟨n7, g7⟩ := g 7 (by omega)
    simp at e0 e2 g0 g1 g2 g3 g4 g5 g6 g7
    subst e0 e2 g0 g1 g2 g3 g4 g5 g6 g7
    have hr : 0 ≤ wh ∧ wh ≤ 255 := by simpa [Lit.wf, IntKind.min, IntKind.max, IntKind.signed, IntKind.bits] using wf0
    exact ⟨wh, ⟨n0, n1, n2, n3, n4, n5, n6, n7⟩, f, c10, hr.1, hr.2, rfl⟩
set_option maxRecDepth 100000 in
theorem deeds_of {fuel : Nat} {v : Value} {x : DataW H × List MemPlace} (h : DataW.trod enc Tryz.prog w base spare held fuel 22 [v] = some x) :
    ∃ (A : Option Addr) (b off len cap : Nat) (what : Nat → Int) (dg : Nat → Dg) (first : Nat → Bool), v = .slice A len cap ∧ (0 < len → A = some ⟨b, off, none⟩) ∧ Deeds w b off len what dg first ∧ len ≤ maxLen := by
  rcases open_slice Tryz.underlying22 h with ⟨hcs, _⟩ | ⟨a, len, cap, m, n, D', Pl, hcs, _, hl, hm, hmm, _, hi⟩
  · simp at hcs
    exact ⟨none, 0, 0, 0, 0, fun _ => 0, fun _ => Dg.zero, fun _ => false, hcs, fun h => by omega, ⟨fun _ h => by omega, fun _ h => by omega, fun _ h => by omega, fun _ h => by omega, fun _ h => by omega, fun h => by omega⟩, by simp [maxLen]⟩
  · simp at hcs
    have hlm : len ≤ m := by rw [hmm]; split <;> omega
    have hsp : 0 < len → a = ⟨a.block, a.off, none⟩ ∧ a.block < w.heap.size := fun h0 => by
      obtain ⟨cs', hc, ht⟩ := hi 0 (by omega)
      obtain ⟨_, hcl, hat⟩ := World.cells?_some hc
      rw [cellsDeed] at hcl hat
      have h0' := hat 0 (by omega)
      rw [List.getElem?_eq_getElem (by omega)] at h0'
      have e : (a.add (0 * 11)).add 0 = a := by simp [Addr.add]
      rw [e] at h0'
      refine ⟨?_, block_lt_of_cell h0'⟩
      have := spot_of_cell h0'
      cases a; simp_all
    have hcell : ∀ i, i < len → ∃ (wh : Int) (d : Dg) (f : Bool) (u : Value), 0 ≤ wh ∧ wh ≤ 255 ∧ ∀ j, j < 11 → w.cell? ⟨a.block, a.off + i * 11 + j, none⟩ = [Value.int .u8 wh, .int .u8 d.x0, .int .u8 d.x1, .int .u8 d.x2, .int .u8 d.x3, .int .u8 d.x4, .int .u8 d.x5, .int .u8 d.x6, .int .u8 d.x7, .bool f, u][j]? := fun i hil => by
      obtain ⟨cs', hc, ht⟩ := hi i (by omega)
      obtain ⟨wh, d, f, u, h0, h1, rfl⟩ := deed_cells ht
      obtain ⟨_, _, hat⟩ := World.cells?_some hc
      refine ⟨wh, d, f, u, h0, h1, fun j hj => ?_⟩
      rw [cellsDeed] at hat
      have := hat j hj
      rw [(hsp (by omega)).1, addr_add, addr_add] at this
      exact this
    refine ⟨some a, a.block, a.off, len, cap, fun i => intAt w a.block (a.off + i * 11), fun i => dgAt w a.block (a.off + i * 11 + 1), fun i => boolAt w a.block (a.off + i * 11 + 9), hcs, fun h => by rw [← (hsp h).1], ?_, by omega⟩
    refine ⟨fun i hil => ?_, fun i hil => ?_, fun i hil => ?_, fun i hil => ?_, fun i hil => ?_, fun h => (hsp h).2⟩
    all_goals
      obtain ⟨wh, d, f, u, h0, h1, hj⟩ := hcell i hil
      have j0 := hj 0 (by omega)
      have j9 := hj 9 (by omega)
      have hg := gets_of_cells (w := w) (b := a.block) (o := a.off + i * 11 + 1) [.int .u8 d.x0, .int .u8 d.x1, .int .u8 d.x2, .int .u8 d.x3, .int .u8 d.x4, .int .u8 d.x5, .int .u8 d.x6, .int .u8 d.x7] (by simp) (fun j hj8 => by
        have := hj (1 + j) (by simp at hj8; omega)
        rw [← Nat.add_assoc] at this
        rw [this]
        rw [show 1 + j = j + 1 from by omega]
        match j, hj8 with
        | 0, _ => rfl
        | 1, _ => rfl
        | 2, _ => rfl
        | 3, _ => rfl
        | 4, _ => rfl
        | 5, _ => rfl
        | 6, _ => rfl
        | 7, _ => rfl)
      simp only [Nat.add_zero] at j0
    · rw [j0, intAt_of j0]; rfl
    · rw [intAt_of j0]; exact ⟨h0, h1⟩
    · exact hg.1
    · rw [show dgAt w a.block (a.off + i * 11 + 1) = d from ?_]
      · exact hg.2
      · have k1 := hj 1 (by omega)
        have k2 := hj 2 (by omega)
        have k3 := hj 3 (by omega)
        have k4 := hj 4 (by omega)
        have k5 := hj 5 (by omega)
        have k6 := hj 6 (by omega)
        have k7 := hj 7 (by omega)
        have k8 := hj 8 (by omega)
        simp only [dgAt, Nat.add_assoc, Nat.reduceAdd] at *
        rw [intAt_of k1, intAt_of k2, intAt_of k3, intAt_of k4, intAt_of k5, intAt_of k6, intAt_of k7, intAt_of k8]
    · rw [j9, boolAt_of j9]; rfl
end
end Go.Proofs.YtahljceanodhkaaGreatDoor
