/- What came in, opened: slices of elements of several cells; instructions, words, states. -/
import Derived.Test.YtahljceanodhkaaGreatDoorWd
import Derived.ProofKit
import Derived.OpenShut
import Derived.ShutString
import Derived.ChangeOld
import Derived.Below
import Derived.Deep.Slices
namespace Go.Proofs.YtahljceanodhkaaGreatDoor
open Go.RowKit Go.Deep Go.ChangeShapes Go.WideShapes
theorem oaddr_add (b off j : Nat) : (⟨b, off, none⟩ : Addr).add j = ⟨b, off + j, none⟩ := by unfold Addr.add; split <;> simp_all
theorem ospot_of_cell {w : World} {a : Addr} {v : Value} (h : w.cell? a = some v) : a.spot = none := by
  unfold World.cell? at h
  split at h
  · split at h
    · cases h
    · rename_i hn; cases hs : a.spot with
      | none => rfl
      | some x => simp [hs] at hn
  · cases h
/-- cells known one by one: the row of them -/
theorem row_of_cells {w : World} {b o : Nat} (vs : List Value) (hne : 0 < vs.length) (h : ∀ j, j < vs.length → w.cell? ⟨b, o + j, none⟩ = vs[j]?) : Row w b o vs := by
  have h0 := h 0 hne
  cases hq : w.heap[b]? with
  | none => simp [World.cell?, hq, List.getElem?_eq_getElem hne] at h0
  | some ob =>
    cases ob with
    | cells c t fr =>
      have hc : ∀ j, j < vs.length → c[o + j]? = vs[j]? := fun j hj => by have := h j hj; simpa [World.cell?, hq] using this
      have hlast := hc (vs.length - 1) (by omega)
      have hlt : o + (vs.length - 1) < c.size := by
        rw [List.getElem?_eq_getElem (by omega)] at hlast
        exact (Array.getElem?_eq_some_iff.1 hlast).1
      refine ⟨by unfold Proofs.YtahljceanodhkaaGreatDoor.has; rw [hq]; simp; omega, ?_, (Array.getElem?_eq_some_iff.1 hq).1⟩
      unfold gets
      rw [hq]
      show ((c.toList.drop o).take vs.length).toArray = vs.toArray
      congr 1
      apply List.ext_getElem?
      intro j
      rw [List.getElem?_take]
      split
      · rename_i hj
        rw [List.getElem?_drop, ← hc j hj]; simp
      · rename_i hj
        rw [List.getElem?_eq_none (by omega)]
    | _ => simp [World.cell?, hq, List.getElem?_eq_getElem hne] at h0
theorem flatten_get {sz : Nat} (hsz : 0 < sz) : ∀ (css : List (List Value)) (_ : ∀ cs ∈ css, cs.length = sz) (k : Nat), css.flatten[k]? = (css.getD (k / sz) [])[k % sz]?
  | [], _, k => by simp
  | c :: r, h, k => by
    have hc := h c (by simp)
    have ih := flatten_get hsz r (fun cs hcs => h cs (by simp [hcs]))
    rw [List.flatten_cons]
    by_cases hk : k < sz
    · rw [List.getElem?_append_left (by omega), Nat.div_eq_of_lt hk, Nat.mod_eq_of_lt hk]
      simp
    · rw [List.getElem?_append_right (by omega), hc, ih (k - sz)]
      have e1 : k / sz = (k - sz) / sz + 1 := by rw [Nat.div_eq k sz, if_pos ⟨hsz, by omega⟩]
      have e2 : k % sz = (k - sz) % sz := by rw [Nat.mod_eq k sz, if_pos ⟨hsz, by omega⟩]
      rw [e1, e2]
      simp
theorem flatten_len {sz : Nat} : ∀ (css : List (List Value)) (_ : ∀ cs ∈ css, cs.length = sz), css.flatten.length = css.length * sz
  | [], _ => by simp
  | c :: r, h => by
    have hc := h c (by simp)
    have ih := flatten_len r (fun cs hcs => h cs (by simp [hcs]))
    rw [List.flatten_cons, List.length_append, ih, hc, List.length_cons, Nat.succ_mul]
    omega
section
variable {H : Type} {enc : TypeId × Value → H} {P : Program} {w : World} {base : Nat} {spare : Nat → Bool} {held : Bool}
theorem open_rows {T E : TypeId} {sz fuel : Nat} {v : Value} {x : DataW H × List MemPlace} (hu : P.underlying T = some (.slice E)) (hsz : P.cellsOf E = sz) (hpos : 0 < sz) (h : DataW.trod enc P w base spare held fuel T [v] = some x) :
    ∃ (A : Option Addr) (b off len cap : Nat) (css : List (List Value)), v = .slice A len cap ∧ (0 < len → A = some ⟨b, off, none⟩) ∧ css.length = len ∧ (0 < len → Row w b off css.flatten) ∧
      (∀ cs ∈ css, cs.length = sz ∧ ∃ n y, DataW.trod enc P w base spare held n E cs = some y) ∧ len ≤ cap ∧ cap ≤ maxLen := by
  rcases open_slice hu h with ⟨hcs, _⟩ | ⟨a, len, cap, m, n, D', Pl, hcs, _, hl, hm, hmm, _, hi⟩
  · simp at hcs
    exact ⟨none, 0, 0, 0, 0, [], hcs, fun h => by omega, rfl, fun h => by omega, fun _ h => by simp at h, by omega, by simp [maxLen]⟩
  · simp at hcs
    have hlm : len ≤ m := by rw [hmm]; split <;> omega
    rw [hsz] at hi
    have hch : ∀ i, ∃ cs, i < len → cs.length = sz ∧ (∃ n y, DataW.trod enc P w base spare held n E cs = some y) ∧ ∀ j, j < sz → w.cell? ((a.add (i * sz)).add j) = cs[j]? := fun i => by
      by_cases hil : i < len
      · obtain ⟨cs, hc, ht⟩ := hi i (by omega)
        obtain ⟨_, hcl, hat⟩ := World.cells?_some hc
        exact ⟨cs, fun _ => ⟨hcl, ⟨_, _, ht⟩, hat⟩⟩
      · exact ⟨[], fun h => absurd h hil⟩
    obtain ⟨C, hC⟩ := Classical.axiomOfChoice hch
    have hsp : 0 < len → a = ⟨a.block, a.off, none⟩ := fun h0 => by
      obtain ⟨hcl, _, hat⟩ := hC 0 h0
      have h0' := hat 0 hpos
      rw [List.getElem?_eq_getElem (by omega)] at h0'
      have e : (a.add (0 * sz)).add 0 = a := by simp [Addr.add]
      rw [e] at h0'
      have := ospot_of_cell h0'
      cases a; simp_all
    have hlen : ∀ cs ∈ (List.range len).map C, cs.length = sz := fun cs hcs => by
      simp at hcs
      obtain ⟨i, hil, rfl⟩ := hcs
      exact (hC i hil).1
    refine ⟨some a, a.block, a.off, len, cap, (List.range len).map C, hcs, fun h => by rw [← hsp h], by simp, fun h0 => ?_, fun cs hcs => ⟨hlen cs hcs, ?_⟩, hl, hm⟩
    · have hfl := flatten_len _ hlen
      rw [List.length_map, List.length_range] at hfl
      refine row_of_cells _ (by rw [hfl]; exact Nat.mul_pos h0 hpos) (fun j hj => ?_)
      rw [hfl] at hj
      rw [flatten_get hpos _ hlen]
      have hq : j / sz < len := Nat.div_lt_of_lt_mul (by rw [Nat.mul_comm]; exact hj)
      have hr := (hC (j / sz) hq).2.2 (j % sz) (Nat.mod_lt _ hpos)
      rw [hsp h0, oaddr_add, oaddr_add, Nat.add_assoc] at hr
      rw [show j / sz * sz + j % sz = j by rw [Nat.mul_comm]; exact Nat.div_add_mod j sz] at hr
      rw [hr]
      simp [hq]
    · simp at hcs
      obtain ⟨i, hil, rfl⟩ := hcs
      exact (hC i hil).2.1
end
section
variable {H : Type} {enc : TypeId × Value → H} {w : World} {base : Nat} {spare : Nat → Bool} {held : Bool}
theorem cellsI : Tryz.prog.cellsOf 89 = 4 := by kernel_rfl
theorem cellsInt : Tryz.prog.cellsOf 3 = 1 := by kernel_rfl
theorem cellsI32 : Tryz.prog.cellsOf 21 = 1 := by kernel_rfl
theorem cellsSt : Tryz.prog.cellsOf 61 = 3 := by kernel_rfl
theorem cellsM32 : Tryz.prog.cellsOf 59 = 1 := by kernel_rfl
theorem field_at {fuel : Nat} {T : TypeId} {cs : List Value} {xs : List (DataW H × List MemPlace)} {i o n : Nat} {t : TypeId} (hi : i < xs.length) (h : DataW.trod enc Tryz.prog w base spare held fuel t ((cs.drop o).take n) = xs[i]?) : ∃ y, DataW.trod enc Tryz.prog w base spare held fuel t ((cs.drop o).take n) = some y := by
  have _ := T
  exact ⟨xs[i], by rw [h, List.getElem?_eq_getElem hi]⟩
theorem i64_of {n : Int} (h : Lit.wf (.int .i64 n) = true) : i64ok n := by
  simpa [Lit.wf, IntKind.min, IntKind.max, IntKind.signed, IntKind.bits, i64ok] using h
set_option maxRecDepth 100000 in
theorem ins_cells {fuel : Nat} {cs : List Value} {x : DataW H × List MemPlace} (h : DataW.trod enc Tryz.prog w base spare held fuel 89 cs = some x) : ∃ i : Ins, i.ok ∧ cs = i.cells.toList := by
  obtain ⟨xs, n, _, _, hl, hxl, hf⟩ := DataW.trod_struct Tryz.underlying89 h
  rw [cellsI] at hl
  have h0 : DataW.trod enc Tryz.prog w base spare held n 3 ((cs.drop 0).take (Tryz.prog.cellsOf 3)) = xs[0]? := hf 0 _ rfl
  have h1 : DataW.trod enc Tryz.prog w base spare held n 3 ((cs.drop 1).take (Tryz.prog.cellsOf 3)) = xs[1]? := hf 1 _ rfl
  have h2 : DataW.trod enc Tryz.prog w base spare held n 3 ((cs.drop 2).take (Tryz.prog.cellsOf 3)) = xs[2]? := hf 2 _ rfl
  have h3 : DataW.trod enc Tryz.prog w base spare held n 3 ((cs.drop 3).take (Tryz.prog.cellsOf 3)) = xs[3]? := hf 3 _ rfl
  rw [cellsInt] at h0 h1 h2 h3
  have hx4 : xs.length = 4 := hxl
  obtain ⟨y0, k0⟩ := field_at (T := 0) (by omega) h0
  obtain ⟨y1, k1⟩ := field_at (T := 0) (by omega) h1
  obtain ⟨y2, k2⟩ := field_at (T := 0) (by omega) h2
  obtain ⟨y3, k3⟩ := field_at (T := 0) (by omega) h3
  match cs, hl with
  | [c0, c1, c2, c3], _ =>
    obtain ⟨n0, e0, _, w0⟩ := DataW.trod_int Tryz.underlying3 k0
    obtain ⟨n1, e1, _, w1⟩ := DataW.trod_int Tryz.underlying3 k1
    obtain ⟨n2, e2, _, w2⟩ := DataW.trod_int Tryz.underlying3 k2
    obtain ⟨n3, e3, _, w3⟩ := DataW.trod_int Tryz.underlying3 k3
    simp at e0 e1 e2 e3
    subst e0 e1 e2 e3
    exact ⟨⟨n0, n1, n2, n3⟩, ⟨i64_of w0, i64_of w1, i64_of w2, i64_of w3⟩, rfl⟩
theorem inss_flat : ∀ (css : List (List Value)), (∀ cs ∈ css, ∃ i : Ins, i.ok ∧ cs = i.cells.toList) → ∃ l : List Ins, l.length = css.length ∧ (∀ i ∈ l, i.ok) ∧ css.flatten = inss l
  | [], _ => ⟨[], rfl, by simp, rfl⟩
  | c :: r, h => by
    obtain ⟨i, hi, rfl⟩ := h c (by simp)
    obtain ⟨l, hl, ho, he⟩ := inss_flat r (fun cs hcs => h cs (by simp [hcs]))
    exact ⟨i :: l, by simp [hl], by simp; exact ⟨hi, ho⟩, by rw [List.flatten_cons, he]; rfl⟩
/-- instructions that came in -/
theorem inss_of {fuel : Nat} {v : Value} {x : DataW H × List MemPlace} (h : DataW.trod enc Tryz.prog w base spare held fuel 58 [v] = some x) :
    ∃ (A : Option Addr) (b off len cap : Nat) (l : List Ins), v = .slice A len cap ∧ (0 < len → A = some ⟨b, off, none⟩) ∧ len = l.length ∧ (0 < len → Row w b off (inss l)) ∧ (∀ i ∈ l, i.ok) ∧ len ≤ cap ∧ cap ≤ maxLen := by
  obtain ⟨A, b, off, len, cap, css, rfl, hA, hl, hr, hc, h1, h2⟩ := open_rows Tryz.underlying58 cellsI (by omega) h
  obtain ⟨l, hll, ho, he⟩ := inss_flat css (fun cs hcs => by obtain ⟨_, _, _, ht⟩ := hc cs hcs; exact ins_cells ht)
  exact ⟨A, b, off, len, cap, l, rfl, hA, by omega, fun h0 => he ▸ hr h0, ho, h1, h2⟩
def i32ok (n : Int) : Prop := -2147483648 ≤ n ∧ n ≤ 2147483647
theorem i32_of {n : Int} (h : Lit.wf (.int .i32 n) = true) : i32ok n := by
  simpa [Lit.wf, IntKind.min, IntKind.max, IntKind.signed, IntKind.bits, i32ok] using h
theorem mems_flat : ∀ (css : List (List Value)), (∀ cs ∈ css, ∃ n : Int, i32ok n ∧ cs = [.int .i32 n]) → ∃ l : List Int, l.length = css.length ∧ (∀ i ∈ l, i32ok i) ∧ css.flatten = mems l
  | [], _ => ⟨[], rfl, by simp, rfl⟩
  | c :: r, h => by
    obtain ⟨i, hi, rfl⟩ := h c (by simp)
    obtain ⟨l, hl, ho, he⟩ := mems_flat r (fun cs hcs => h cs (by simp [hcs]))
    exact ⟨i :: l, by simp [hl], by simp; exact ⟨hi, ho⟩, by rw [List.flatten_cons, he]; rfl⟩
/-- words that came in -/
theorem mems_of {fuel : Nat} {v : Value} {x : DataW H × List MemPlace} (h : DataW.trod enc Tryz.prog w base spare held fuel 59 [v] = some x) :
    ∃ (A : Option Addr) (b off len cap : Nat) (l : List Int), v = .slice A len cap ∧ (0 < len → A = some ⟨b, off, none⟩) ∧ len = l.length ∧ (0 < len → Row w b off (mems l)) ∧ (∀ i ∈ l, i32ok i) ∧ len ≤ cap ∧ cap ≤ maxLen := by
  obtain ⟨A, b, off, len, cap, css, rfl, hA, hl, hr, hc, h1, h2⟩ := open_rows Tryz.underlying59 cellsI32 (by omega) h
  obtain ⟨l, hll, ho, he⟩ := mems_flat css (fun cs hcs => by
    obtain ⟨hcl, n, y, ht⟩ := hc cs hcs
    obtain ⟨k, e, _, wf⟩ := DataW.trod_int Tryz.underlying21 ht
    exact ⟨k, i32_of wf, e⟩)
  exact ⟨A, b, off, len, cap, l, rfl, hA, by omega, fun h0 => he ▸ hr h0, ho, h1, h2⟩
set_option maxRecDepth 100000 in
/-- a state that came in -/
theorem state_of {fuel : Nat} {cs : List Value} {x : DataW H × List MemPlace} (h : DataW.trod enc Tryz.prog w base spare held fuel 61 cs = some x) :
    ∃ (pc halt : Int) (A : Option Addr) (b off len cap : Nat) (l : List Int), cs = (stCells pc A len cap halt).toList ∧ i64ok pc ∧ i64ok halt ∧ (0 < len → A = some ⟨b, off, none⟩) ∧ len = l.length ∧ (0 < len → Row w b off (mems l)) ∧ (∀ i ∈ l, i32ok i) ∧ len ≤ cap ∧ cap ≤ maxLen := by
  obtain ⟨xs, n, _, _, hl, hxl, hf⟩ := DataW.trod_struct Tryz.underlying61 h
  rw [cellsSt] at hl
  have h0 : DataW.trod enc Tryz.prog w base spare held n 3 ((cs.drop 0).take (Tryz.prog.cellsOf 3)) = xs[0]? := hf 0 _ rfl
  have h1 : DataW.trod enc Tryz.prog w base spare held n 59 ((cs.drop 1).take (Tryz.prog.cellsOf 59)) = xs[1]? := hf 1 _ rfl
  have h2 : DataW.trod enc Tryz.prog w base spare held n 3 ((cs.drop 2).take (Tryz.prog.cellsOf 3)) = xs[2]? := hf 2 _ rfl
  rw [cellsInt] at h0 h2
  rw [cellsM32] at h1
  have hx3 : xs.length = 3 := hxl
  obtain ⟨y0, k0⟩ := field_at (T := 0) (by omega) h0
  obtain ⟨y1, k1⟩ := field_at (T := 0) (by omega) h1
  obtain ⟨y2, k2⟩ := field_at (T := 0) (by omega) h2
  match cs, hl with
  | [c0, c1, c2], _ =>
    obtain ⟨n0, e0, _, w0⟩ := DataW.trod_int Tryz.underlying3 k0
    obtain ⟨n2, e2, _, w2⟩ := DataW.trod_int Tryz.underlying3 k2
    obtain ⟨A, b, off, len, cap, l, e1, hA, hll, hr, ho, hlc, hcm⟩ := mems_of k1
    simp at e0 e2
    subst e0 e2 e1
    exact ⟨n0, n2, A, b, off, len, cap, l, rfl, i64_of w0, i64_of w2, hA, hll, hr, ho, hlc, hcm⟩
end
end Go.Proofs.YtahljceanodhkaaGreatDoor
