/- Several texts joined: Qzr, Qzs. -/
import Derived.Test.YtfamkemdgbnegaaDoorRows
import Derived.ProofKit
import Derived.OpenShut
import Derived.ShutString
import Derived.ChangeOld
import Derived.ChangeArms
import Derived.Below
import Derived.Deep.Slices
import Derived.ChangeMaps5
import Derived.Test.YtfamkemdgbnegaaDoorSci
/- Sorts: what came in, opened: whole programs, as trees; and the tables that the program's text lays. -/
namespace Go.Proofs.YtfamkemdgbnegaaDoor
open Go.RowKit Go.Deep Go.ChangeShapes Go.WideShapes So
section
variable {H : Type} {enc : TypeId × Value → H} {P : Program} {w : World} {base : Nat} {held : Bool}
/-- no string, slice or map of it takes more than there is -/
def light (P : Program) (t : TypeId) (d : DataW H) : Prop := (d.weights P t).all (· ≤ reachBytes) = true
theorem light_all {E : TypeId} : ∀ {l : List (DataW H)} (_ : (DataW.weightsAll P E l).all (· ≤ reachBytes) = true), ∀ d ∈ l, light P E d
  | [], _, d, hd => absurd hd (by simp)
  | x :: l, h, d, hd => by
    rw [DataW.weightsAll, List.all_append, Bool.and_eq_true] at h
    rcases List.mem_cons.1 hd with rfl | hd
    · exact h.1
    · exact light_all h.2 d hd
theorem light_each : ∀ {ts : List TypeId} {l : List (DataW H)} (_ : (DataW.weightsEach P ts l).all (· ≤ reachBytes) = true) (i : Nat) (t : TypeId) (d : DataW H), ts[i]? = some t → l[i]? = some d → light P t d
  | [], _, _, i, _, _, ht, _ => absurd ht (by simp)
  | _ :: _, [], _, i, _, _, _, hd => absurd hd (by simp)
  | t :: ts, x :: l, h, i, t', d, ht, hd => by
    rw [DataW.weightsEach, List.all_append, Bool.and_eq_true] at h
    cases i with
    | zero =>
      simp only [List.getElem?_cons_zero, Option.some.injEq] at ht hd
      subst ht hd
      exact h.1
    | succ i => exact light_each h.2 i t' d (by simpa using ht) (by simpa using hd)
/-- a slice that came in -/
theorem open_rows2 {T E : TypeId} {sz fuel : Nat} {v : Value} {d : DataW H} {ps : List MemPlace} (hu : P.underlying T = some (.slice E)) (hsz : P.cellsOf E = sz) (hpos : 0 < sz) (h : DataW.trod enc P w base (fun _ => true) held fuel T [v] = some (d, ps)) (hw : light P T d) :
    ∃ (A : Option Addr) (b off len cap : Nat) (css : List (List Value)), v = .slice A len cap ∧ (0 < len → A = some ⟨b, off, none⟩) ∧ css.length = len ∧ (0 < len → Row w b off css.flatten) ∧
      (∀ cs ∈ css, cs.length = sz ∧ ∃ n d' ps', n < fuel ∧ DataW.trod enc P w base (fun _ => true) held n E cs = some (d', ps') ∧ light P E d') ∧ len * P.bytesOf E ≤ reachBytes := by
  rcases DataW.trod_slice hu h with ⟨hcs, _⟩ | ⟨a, len, cap, elems, rest, n, hfu, hcs, hx, _, hl, hm, hlen, hel, hsp, _⟩
  · simp at hcs
    exact ⟨none, 0, 0, 0, 0, [], hcs, fun h => by omega, rfl, fun h => by omega, fun _ h => by simp at h, by omega⟩
  · simp at hcs
    obtain ⟨hd, -⟩ := Prod.mk.inj hx
    subst hd
    unfold light at hw
    rw [DataW.weights] at hw
    simp only [hu, List.all_cons, List.all_append, Bool.and_eq_true, decide_eq_true_eq, List.length_map] at hw
    obtain ⟨hw1, hw2, -⟩ := hw
    have hla := light_all hw2
    rw [hsz] at hel
    have hch : ∀ i, ∃ cs, i < len → cs.length = sz ∧ (∃ n d' ps', n < fuel ∧ DataW.trod enc P w base (fun _ => true) held n E cs = some (d', ps') ∧ light P E d') ∧ ∀ j, j < sz → w.cell? ((a.add (i * sz)).add j) = cs[j]? := fun i => by
      by_cases hil : i < len
      · have he := hel i hil
        rw [List.getElem?_eq_getElem (by omega), Option.bind_eq_some_iff] at he
        obtain ⟨cs, hc, ht⟩ := he
        obtain ⟨_, hcl, hat⟩ := World.cells?_some hc
        exact ⟨cs, fun _ => ⟨hcl, ⟨n, elems[i].1, elems[i].2, by omega, ht, hla _ (List.mem_map.2 ⟨elems[i], List.getElem_mem _, rfl⟩)⟩, hat⟩⟩
      · exact ⟨[], fun h => absurd h hil⟩
    obtain ⟨C, hC⟩ := Classical.axiomOfChoice hch
    have hsp : 0 < len → a = ⟨a.block, a.off, none⟩ := fun h0 => by
      obtain ⟨hcl, _, hat⟩ := hC 0 h0
      have h0' := hat 0 hpos
      rw [List.getElem?_eq_getElem (by omega)] at h0'
      have e : (a.add (0 * sz)).add 0 = a := by simp [Addr.add]
      rw [e] at h0'
      have := ospot_of_cell h0'
      cases a; simp_all
    have hlen' : ∀ cs ∈ (List.range len).map C, cs.length = sz := fun cs hcs => by
      simp at hcs
      obtain ⟨i, hil, rfl⟩ := hcs
      exact (hC i hil).1
    refine ⟨some a, a.block, a.off, len, cap, (List.range len).map C, hcs, fun h => by rw [← hsp h], by simp, fun h0 => ?_, fun cs hcs => ⟨hlen' cs hcs, ?_⟩, ?_⟩
    · have hfl := flatten_len _ hlen'
      rw [List.length_map, List.length_range] at hfl
      refine row_of_cells _ (by rw [hfl]; exact Nat.mul_pos h0 hpos) (fun j hj => ?_)
      rw [hfl] at hj
      rw [flatten_get hpos _ hlen']
      have hq : j / sz < len := Nat.div_lt_of_lt_mul (by rw [Nat.mul_comm]; exact hj)
      have hr := (hC (j / sz) hq).2.2 (j % sz) (Nat.mod_lt _ hpos)
      rw [hsp h0, oaddr_add, oaddr_add, Nat.add_assoc] at hr
      rw [show j / sz * sz + j % sz = j by rw [Nat.mul_comm]; exact Nat.div_add_mod j sz] at hr
      rw [hr]
      simp [hq]
    · simp at hcs
      obtain ⟨i, hil, rfl⟩ := hcs
      exact (hC i hil).2.1
    · refine Nat.le_trans (Nat.mul_le_mul_right _ ?_) hw1
      omega
/-- a struct's fields -/
theorem fields_of {fs : Array Field} {t : TypeId} {fuel : Nat} {cs : List Value} {d : DataW H} {ps : List MemPlace} (hu : P.underlying t = some (.struct fs)) (h : DataW.trod enc P w base (fun _ => true) held fuel t cs = some (d, ps)) (hw : light P t d) :
    ∃ n, fuel = n + 1 ∧ cs.length = P.cellsOf t ∧ ∀ (i : Nat) (f : Field), fs[i]? = some f → ∃ d' ps', DataW.trod enc P w base (fun _ => true) held n f.type ((cs.drop f.offset).take (P.cellsOf f.type)) = some (d', ps') ∧ light P f.type d' := by
  obtain ⟨xs, n, hfu, hx, hl, hxl, hf⟩ := DataW.trod_struct hu h
  obtain ⟨hd, -⟩ := Prod.mk.inj hx
  subst hd
  unfold light at hw
  rw [DataW.weights] at hw
  simp only [hu] at hw
  refine ⟨n, hfu, hl, fun i f hif => ?_⟩
  have hlt : i < xs.length := by
    rw [hxl]
    exact (Array.getElem?_eq_some_iff.1 hif).1
  have h1 := hf i f hif
  rw [List.getElem?_eq_getElem hlt] at h1
  refine ⟨xs[i].1, xs[i].2, h1, light_each hw i f.type xs[i].1 ?_ ?_⟩
  · rw [List.getElem?_map, Array.getElem?_toList, hif]; rfl
  · rw [List.getElem?_map, List.getElem?_eq_getElem hlt]; rfl
end
theorem Row.tail {w : World} {b off : Nat} {c r : List Value} (h : Row w b off (c ++ r)) : Row w b (off + c.length) r := by
  obtain ⟨h1, h2⟩ := h.sub c.length r.length (by simp)
  refine ⟨h1, h2.trans ?_, h.lt⟩
  rw [List.drop_left, List.take_length]
theorem Row.head {w : World} {b off : Nat} {c r : List Value} (h : Row w b off (c ++ r)) : Proofs.YtfamkemdgbnegaaDoor.has w b off c.length = true ∧ gets w b off c.length = c.toArray := by
  obtain ⟨h1, h2⟩ := h.sub 0 c.length (by simp)
  refine ⟨h1, h2.trans ?_⟩
  rw [List.drop_zero, List.take_left]
theorem oi64_of {n : Int} (h : Lit.wf (.int .i64 n) = true) : i64ok n := by
  simpa [Lit.wf, IntKind.min, IntKind.max, IntKind.signed, IntKind.bits, i64ok] using h
section
variable {H : Type} {enc : TypeId × Value → H} {w : World} {base : Nat} {held : Bool}
theorem cellsInt : Tryd.prog.cellsOf 3 = 1 := by kernel_rfl
theorem cellsStr : Tryd.prog.cellsOf 9 = 1 := by kernel_rfl
theorem cellsSlE : Tryd.prog.cellsOf 32 = 1 := by kernel_rfl
theorem cellsSlS : Tryd.prog.cellsOf 24 = 1 := by kernel_rfl
theorem cellsSlV : Tryd.prog.cellsOf 23 = 1 := by kernel_rfl
theorem cellsSlI : Tryd.prog.cellsOf 22 = 1 := by kernel_rfl
theorem cellsE : Tryd.prog.cellsOf 36 = 4 := by kernel_rfl
theorem cellsS : Tryd.prog.cellsOf 34 = 7 := by kernel_rfl
theorem cellsVr : Tryd.prog.cellsOf 29 = 4 := by kernel_rfl
theorem cellsP : Tryd.prog.cellsOf 26 = 11 := by kernel_rfl
theorem bytesE : Tryd.prog.bytesOf 36 = 56 := by kernel_rfl
theorem bytesS : Tryd.prog.bytesOf 34 = 112 := by kernel_rfl
theorem bytesV : Tryd.prog.bytesOf 29 = 40 := by kernel_rfl
theorem bytesI : Tryd.prog.bytesOf 3 = 8 := by kernel_rfl
abbrev Trd (w : World) (base : Nat) (held : Bool) (enc : TypeId × Value → H) (fuel : Nat) (t : TypeId) (cs : List Value) (d : DataW H) (ps : List MemPlace) : Prop := DataW.trod enc Tryd.prog w base (fun _ => true) held fuel t cs = some (d, ps) ∧ light Tryd.prog t d
def ExOk (w : World) (cs : List Value) : Prop := ∃ (op n : Int) (name : Str) (A : Option Addr) (cap : Nat) (F : EF), cs = (ecells op n name A F.len cap).toList ∧ i64ok op ∧ i64ok n ∧ name.size ≤ maxLen ∧ ESl w w.heap.size A F.len F
theorem efs_of : ∀ (css : List (List Value)) (_ : ∀ cs ∈ css, ExOk w cs) (b off : Nat) (_ : 0 < css.length → Row w b off css.flatten), ∃ F : EF, F.len = css.length ∧ EFAt w w.heap.size F b off
  | [], _, _, _, _ => ⟨.nil, rfl, trivial⟩
  | c :: r, h, b, off, hr => by
    have hrow := hr (by simp)
    rw [List.flatten_cons] at hrow
    obtain ⟨op, n, name, A, cap, K, rfl, h1, h2, h3, h4⟩ := h c (by simp)
    obtain ⟨-, hf, b', off', hA, hE⟩ := h4
    obtain ⟨R, hR1, hR2⟩ := efs_of r (fun cs hcs => h cs (by simp [hcs])) b (off + 4) (fun _ => hrow.tail)
    obtain ⟨hh, hg⟩ := hrow.head
    exact ⟨.cons op n name K R, by simp [EF.len, hR1], hrow.lt, h1, h2, h3, ⟨A, cap, b', off', hh, hg, hf, hA, hE⟩, hR2⟩
set_option maxRecDepth 100000 in
theorem exprs_of : ∀ (fuel : Nat) (v : Value) (d : DataW H) (ps : List MemPlace), Trd w base held enc fuel 32 [v] d ps → ∃ A n cap F, v = .slice A n cap ∧ ESl w w.heap.size A n F := by
  intro fuel
  induction fuel using Nat.strongRecOn with
  | ind fuel IH =>
    intro v d ps ⟨h, hw⟩
    obtain ⟨A, b, off, len, cap, css, rfl, hA, hl, hr, hc, hb⟩ := open_rows2 Tryd.underlying32 cellsE (by omega) h hw
    have hok : ∀ cs ∈ css, ExOk w cs := fun cs hcs => by
      obtain ⟨hcl, n, d', ps', hlt, ht, hw'⟩ := hc cs hcs
      obtain ⟨m, rfl, _, hf⟩ := fields_of Tryd.underlying36 ht hw'
      obtain ⟨d0, p0, k0, _⟩ := hf 0 _ rfl
      have k0 : DataW.trod enc Tryd.prog w base (fun _ => true) held m 3 ((cs.drop 0).take (Tryd.prog.cellsOf 3)) = some (d0, p0) := k0
      rw [cellsInt] at k0
      obtain ⟨d1, p1, k1, _⟩ := hf 1 _ rfl
      have k1 : DataW.trod enc Tryd.prog w base (fun _ => true) held m 3 ((cs.drop 1).take (Tryd.prog.cellsOf 3)) = some (d1, p1) := k1
      rw [cellsInt] at k1
      obtain ⟨d2, p2, k2, _⟩ := hf 2 _ rfl
      have k2 : DataW.trod enc Tryd.prog w base (fun _ => true) held m 9 ((cs.drop 2).take (Tryd.prog.cellsOf 9)) = some (d2, p2) := k2
      rw [cellsStr] at k2
      obtain ⟨d3, p3, k3, l3⟩ := hf 3 _ rfl
      have k3 : DataW.trod enc Tryd.prog w base (fun _ => true) held m 32 ((cs.drop 3).take (Tryd.prog.cellsOf 32)) = some (d3, p3) := k3
      rw [cellsSlE] at k3
      have l3 : light Tryd.prog 32 d3 := l3
      obtain ⟨n0, e0, _, w0⟩ := DataW.trod_int Tryd.underlying3 k0
      obtain ⟨n1, e1, _, w1⟩ := DataW.trod_int Tryd.underlying3 k1
      obtain ⟨s2, e2, _, w2⟩ := DataW.trod_string Tryd.underlying9 k2
      match cs, hcl with
      | [c0, c1, c2, c3], _ =>
        simp at e0 e1 e2 k3
        subst e0 e1 e2
        obtain ⟨A', n', cap', F, rfl, hE⟩ := IH m (by omega) c3 d3 p3 ⟨k3, l3⟩
        have hn := hE.1
        subst hn
        exact ⟨n0, n1, s2, A', cap', F, rfl, oi64_of w0, oi64_of w1, w2, hE⟩
    obtain ⟨F, hF1, hF2⟩ := efs_of css hok b off (fun h0 => hr (by omega))
    rw [bytesE] at hb
    exact ⟨A, len, cap, F, rfl, by omega, by unfold Fits; unfold reachBytes at hb; omega, b, off, hA, hF2⟩
def StOk (w : World) (cs : List Value) : Prop := ∃ (kind : Int) (name : Str) (e : EF) (low high : Int) (l x : SF) (eA : Option Addr) (ec : Nat) (lA : Option Addr) (lc : Nat) (xA : Option Addr) (xc : Nat), cs = (scells kind name eA e.len ec low high lA l.len lc xA x.len xc).toList ∧ i64ok kind ∧ i64ok low ∧ i64ok high ∧ name.size ≤ maxLen ∧ ESl w w.heap.size eA e.len e ∧ SSl w w.heap.size lA l.len l ∧ SSl w w.heap.size xA x.len x
theorem sfs_of : ∀ (css : List (List Value)) (_ : ∀ cs ∈ css, StOk w cs) (b off : Nat) (_ : 0 < css.length → Row w b off css.flatten), ∃ F : SF, F.len = css.length ∧ SFAt w w.heap.size F b off
  | [], _, _, _, _ => ⟨.nil, rfl, trivial⟩
  | c :: r, h, b, off, hr => by
    have hrow := hr (by simp)
    rw [List.flatten_cons] at hrow
    obtain ⟨kind, name, e, low, high, l, x, eA, ec, lA, lc, xA, xc, rfl, h1, h2, h3, h4, h5, h6, h7⟩ := h c (by simp)
    obtain ⟨-, f1, be, oe, a1, e1⟩ := h5
    obtain ⟨-, f2, bl, ol, a2, e2⟩ := h6
    obtain ⟨-, f3, bx, ox, a3, e3⟩ := h7
    obtain ⟨R, hR1, hR2⟩ := sfs_of r (fun cs hcs => h cs (by simp [hcs])) b (off + 7) (fun _ => hrow.tail)
    obtain ⟨hh, hg⟩ := hrow.head
    exact ⟨.cons kind name e low high l x R, by simp [SF.len, hR1], hrow.lt, h1, h2, h3, h4, ⟨eA, ec, lA, lc, xA, xc, be, oe, bl, ol, bx, ox, hh, hg, f1, f2, f3, a1, a2, a3, e1, e2, e3⟩, hR2⟩
set_option maxRecDepth 100000 in
theorem stmts_of : ∀ (fuel : Nat) (v : Value) (d : DataW H) (ps : List MemPlace), Trd w base held enc fuel 24 [v] d ps → ∃ A n cap F, v = .slice A n cap ∧ SSl w w.heap.size A n F := by
  intro fuel
  induction fuel using Nat.strongRecOn with
  | ind fuel IH =>
    intro v d ps ⟨h, hw⟩
    obtain ⟨A, b, off, len, cap, css, rfl, hA, hl, hr, hc, hb⟩ := open_rows2 Tryd.underlying24 cellsS (by omega) h hw
    have hok : ∀ cs ∈ css, StOk w cs := fun cs hcs => by
      obtain ⟨hcl, n, d', ps', hlt, ht, hw'⟩ := hc cs hcs
      obtain ⟨m, rfl, _, hf⟩ := fields_of Tryd.underlying34 ht hw'
      obtain ⟨d0, p0, k0, _⟩ := hf 0 _ rfl
      have k0 : DataW.trod enc Tryd.prog w base (fun _ => true) held m 3 ((cs.drop 0).take (Tryd.prog.cellsOf 3)) = some (d0, p0) := k0
      rw [cellsInt] at k0
      obtain ⟨d1, p1, k1, _⟩ := hf 1 _ rfl
      have k1 : DataW.trod enc Tryd.prog w base (fun _ => true) held m 9 ((cs.drop 1).take (Tryd.prog.cellsOf 9)) = some (d1, p1) := k1
      rw [cellsStr] at k1
      obtain ⟨d2, p2, k2, l2⟩ := hf 2 _ rfl
      have k2 : DataW.trod enc Tryd.prog w base (fun _ => true) held m 32 ((cs.drop 2).take (Tryd.prog.cellsOf 32)) = some (d2, p2) := k2
      rw [cellsSlE] at k2
      have l2 : light Tryd.prog 32 d2 := l2
      obtain ⟨d3, p3, k3, _⟩ := hf 3 _ rfl
      have k3 : DataW.trod enc Tryd.prog w base (fun _ => true) held m 3 ((cs.drop 3).take (Tryd.prog.cellsOf 3)) = some (d3, p3) := k3
      rw [cellsInt] at k3
      obtain ⟨d4, p4, k4, _⟩ := hf 4 _ rfl
      have k4 : DataW.trod enc Tryd.prog w base (fun _ => true) held m 3 ((cs.drop 4).take (Tryd.prog.cellsOf 3)) = some (d4, p4) := k4
      rw [cellsInt] at k4
      obtain ⟨d5, p5, k5, l5⟩ := hf 5 _ rfl
      have k5 : DataW.trod enc Tryd.prog w base (fun _ => true) held m 24 ((cs.drop 5).take (Tryd.prog.cellsOf 24)) = some (d5, p5) := k5
      rw [cellsSlS] at k5
      have l5 : light Tryd.prog 24 d5 := l5
      obtain ⟨d6, p6, k6, l6⟩ := hf 6 _ rfl
      have k6 : DataW.trod enc Tryd.prog w base (fun _ => true) held m 24 ((cs.drop 6).take (Tryd.prog.cellsOf 24)) = some (d6, p6) := k6
      rw [cellsSlS] at k6
      have l6 : light Tryd.prog 24 d6 := l6
      obtain ⟨n0, e0, _, w0⟩ := DataW.trod_int Tryd.underlying3 k0
      obtain ⟨s1, e1, _, w1⟩ := DataW.trod_string Tryd.underlying9 k1
      obtain ⟨n3, e3, _, w3⟩ := DataW.trod_int Tryd.underlying3 k3
      obtain ⟨n4, e4, _, w4⟩ := DataW.trod_int Tryd.underlying3 k4
      match cs, hcl with
      | [c0, c1, c2, c3, c4, c5, c6], _ =>
        simp at e0 e1 e3 e4 k2 k5 k6
        subst e0 e1 e3 e4
        obtain ⟨eA, en, ec, e, rfl, hE⟩ := exprs_of _ c2 d2 p2 ⟨k2, l2⟩
        obtain ⟨lA, ln, lc, l, rfl, hL⟩ := IH m (by omega) c5 d5 p5 ⟨k5, l5⟩
        obtain ⟨xA, xn, xc, x, rfl, hX⟩ := IH m (by omega) c6 d6 p6 ⟨k6, l6⟩
        have q1 := hE.1
        have q2 := hL.1
        have q3 := hX.1
        subst q1 q2 q3
        exact ⟨n0, s1, e, n3, n4, l, x, eA, ec, lA, lc, xA, xc, rfl, oi64_of w0, oi64_of w3, oi64_of w4, w1, hE, hL, hX⟩
    obtain ⟨F, hF1, hF2⟩ := sfs_of css hok b off (fun h0 => hr (by omega))
    rw [bytesS] at hb
    exact ⟨A, len, cap, F, rfl, by omega, by unfold Fits; unfold reachBytes at hb; omega, b, off, hA, hF2⟩
theorem vrs_flat : ∀ (css : List (List Value)), (∀ cs ∈ css, ∃ v : Vr, VrOk v ∧ cs = (vcells v).toList) → ∃ l : List Vr, l.length = css.length ∧ (∀ v ∈ l, VrOk v) ∧ css.flatten = rowsL vcells l
  | [], _ => ⟨[], rfl, by simp, rfl⟩
  | c :: r, h => by
    obtain ⟨i, hi, rfl⟩ := h c (by simp)
    obtain ⟨l, hl, ho, he⟩ := vrs_flat r (fun cs hcs => h cs (by simp [hcs]))
    exact ⟨i :: l, by simp [hl], by simp; exact ⟨hi, ho⟩, by rw [List.flatten_cons, he]; rfl⟩
set_option maxRecDepth 100000 in
theorem vrs_of {fuel : Nat} {v : Value} {d : DataW H} {ps : List MemPlace} (hh : Trd w base held enc fuel 23 [v] d ps) : ∃ A n cap l, v = .slice A n cap ∧ VSl w w.heap.size A n l := by
  obtain ⟨h, hw⟩ := hh
  obtain ⟨A, b, off, len, cap, css, rfl, hA, hl, hr, hc, hb⟩ := open_rows2 Tryd.underlying23 cellsVr (by omega) h hw
  obtain ⟨l, hll, ho, he⟩ := vrs_flat css (fun cs hcs => by
    obtain ⟨hcl, n, d', ps', hlt, ht, hw'⟩ := hc cs hcs
    obtain ⟨m, rfl, _, hf⟩ := fields_of Tryd.underlying29 ht hw'
    obtain ⟨d0, p0, k0, _⟩ := hf 0 _ rfl
    have k0 : DataW.trod enc Tryd.prog w base (fun _ => true) held m 9 ((cs.drop 0).take (Tryd.prog.cellsOf 9)) = some (d0, p0) := k0
    rw [cellsStr] at k0
    obtain ⟨d1, p1, k1, _⟩ := hf 1 _ rfl
    have k1 : DataW.trod enc Tryd.prog w base (fun _ => true) held m 3 ((cs.drop 1).take (Tryd.prog.cellsOf 3)) = some (d1, p1) := k1
    rw [cellsInt] at k1
    obtain ⟨d2, p2, k2, _⟩ := hf 2 _ rfl
    have k2 : DataW.trod enc Tryd.prog w base (fun _ => true) held m 3 ((cs.drop 2).take (Tryd.prog.cellsOf 3)) = some (d2, p2) := k2
    rw [cellsInt] at k2
    obtain ⟨d3, p3, k3, _⟩ := hf 3 _ rfl
    have k3 : DataW.trod enc Tryd.prog w base (fun _ => true) held m 3 ((cs.drop 3).take (Tryd.prog.cellsOf 3)) = some (d3, p3) := k3
    rw [cellsInt] at k3
    obtain ⟨s0, e0, _, w0⟩ := DataW.trod_string Tryd.underlying9 k0
    obtain ⟨n1, e1, _, w1⟩ := DataW.trod_int Tryd.underlying3 k1
    obtain ⟨n2, e2, _, w2⟩ := DataW.trod_int Tryd.underlying3 k2
    obtain ⟨n3, e3, _, w3⟩ := DataW.trod_int Tryd.underlying3 k3
    match cs, hcl with
    | [c0, c1, c2, c3], _ =>
      simp at e0 e1 e2 e3
      subst e0 e1 e2 e3
      exact ⟨⟨s0, n1, n2, n3⟩, ⟨w0, oi64_of w1, oi64_of w2, oi64_of w3⟩, rfl⟩)
  rw [bytesV] at hb
  exact ⟨A, len, cap, l, rfl, by omega, by unfold Fits; unfold reachBytes at hb; omega, ho, b, off, hA, fun h0 => ⟨(hr h0).lt, he ▸ hr h0⟩⟩
theorem ints_flat : ∀ (css : List (List Value)), (∀ cs ∈ css, ∃ n : Int, i64ok n ∧ cs = [.int .i64 n]) → ∃ l : List Int, l.length = css.length ∧ (∀ i ∈ l, i64ok i) ∧ css.flatten = l.map (Value.int .i64)
  | [], _ => ⟨[], rfl, by simp, rfl⟩
  | c :: r, h => by
    obtain ⟨i, hi, rfl⟩ := h c (by simp)
    obtain ⟨l, hl, ho, he⟩ := ints_flat r (fun cs hcs => h cs (by simp [hcs]))
    exact ⟨i :: l, by simp [hl], by simp; exact ⟨hi, ho⟩, by rw [List.flatten_cons, he]; rfl⟩
theorem ints_of {fuel : Nat} {v : Value} {d : DataW H} {ps : List MemPlace} (hh : Trd w base held enc fuel 22 [v] d ps) : ∃ A n cap l, v = .slice A n cap ∧ ISl w w.heap.size A n l := by
  obtain ⟨h, hw⟩ := hh
  obtain ⟨A, b, off, len, cap, css, rfl, hA, hl, hr, hc, hb⟩ := open_rows2 Tryd.underlying22 cellsInt (by omega) h hw
  obtain ⟨l, hll, ho, he⟩ := ints_flat css (fun cs hcs => by
    obtain ⟨hcl, n, d', ps', hlt, ht, hw'⟩ := hc cs hcs
    obtain ⟨k, e, _, wf⟩ := DataW.trod_int Tryd.underlying3 ht
    exact ⟨k, oi64_of wf, e⟩)
  rw [bytesI] at hb
  exact ⟨A, len, cap, l, rfl, by omega, by unfold Fits; unfold reachBytes at hb; omega, ho, b, off, hA, fun h0 => ⟨(hr h0).lt, he ▸ hr h0⟩⟩
set_option maxRecDepth 100000 in
set_option maxHeartbeats 1000000 in
/-- a program that came in -/
theorem prog_of {fuel : Nat} {cs : List Value} {d : DataW H} {ps : List MemPlace} (hh : Trd w base held enc fuel 26 cs d ps) : ∃ (c : Pc) (p : Pr), cs = c.cells.toList ∧ PAt w w.heap.size c p := by
  obtain ⟨h, hw⟩ := hh
  obtain ⟨m, rfl, hcl, hf⟩ := fields_of Tryd.underlying26 h hw
  rw [cellsP] at hcl
  obtain ⟨d0, p0, k0, _⟩ := hf 0 _ rfl
  have k0 : DataW.trod enc Tryd.prog w base (fun _ => true) held m 9 ((cs.drop 0).take (Tryd.prog.cellsOf 9)) = some (d0, p0) := k0
  rw [cellsStr] at k0
  obtain ⟨d1, p1, k1, _⟩ := hf 1 _ rfl
  have k1 : DataW.trod enc Tryd.prog w base (fun _ => true) held m 3 ((cs.drop 1).take (Tryd.prog.cellsOf 3)) = some (d1, p1) := k1
  rw [cellsInt] at k1
  obtain ⟨d2, p2, k2, l2⟩ := hf 2 _ rfl
  have k2 : DataW.trod enc Tryd.prog w base (fun _ => true) held m 22 ((cs.drop 2).take (Tryd.prog.cellsOf 22)) = some (d2, p2) := k2
  rw [cellsSlI] at k2
  have l2 : light Tryd.prog 22 d2 := l2
  obtain ⟨d3, p3, k3, l3⟩ := hf 3 _ rfl
  have k3 : DataW.trod enc Tryd.prog w base (fun _ => true) held m 23 ((cs.drop 3).take (Tryd.prog.cellsOf 23)) = some (d3, p3) := k3
  rw [cellsSlV] at k3
  have l3 : light Tryd.prog 23 d3 := l3
  obtain ⟨d4, p4, k4, l4⟩ := hf 4 _ rfl
  have k4 : DataW.trod enc Tryd.prog w base (fun _ => true) held m 24 ((cs.drop 4).take (Tryd.prog.cellsOf 24)) = some (d4, p4) := k4
  rw [cellsSlS] at k4
  have l4 : light Tryd.prog 24 d4 := l4
  obtain ⟨d5, p5, k5, l5⟩ := hf 5 _ rfl
  have k5 : DataW.trod enc Tryd.prog w base (fun _ => true) held m 24 ((cs.drop 5).take (Tryd.prog.cellsOf 24)) = some (d5, p5) := k5
  rw [cellsSlS] at k5
  have l5 : light Tryd.prog 24 d5 := l5
  obtain ⟨d6, p6, k6, l6⟩ := hf 6 _ rfl
  have k6 : DataW.trod enc Tryd.prog w base (fun _ => true) held m 23 ((cs.drop 6).take (Tryd.prog.cellsOf 23)) = some (d6, p6) := k6
  rw [cellsSlV] at k6
  have l6 : light Tryd.prog 23 d6 := l6
  obtain ⟨d7, p7, k7, l7⟩ := hf 7 _ rfl
  have k7 : DataW.trod enc Tryd.prog w base (fun _ => true) held m 24 ((cs.drop 7).take (Tryd.prog.cellsOf 24)) = some (d7, p7) := k7
  rw [cellsSlS] at k7
  have l7 : light Tryd.prog 24 d7 := l7
  obtain ⟨d8, p8, k8, _⟩ := hf 8 _ rfl
  have k8 : DataW.trod enc Tryd.prog w base (fun _ => true) held m 9 ((cs.drop 8).take (Tryd.prog.cellsOf 9)) = some (d8, p8) := k8
  rw [cellsStr] at k8
  obtain ⟨d9, p9, k9, l9⟩ := hf 9 _ rfl
  have k9 : DataW.trod enc Tryd.prog w base (fun _ => true) held m 24 ((cs.drop 9).take (Tryd.prog.cellsOf 24)) = some (d9, p9) := k9
  rw [cellsSlS] at k9
  have l9 : light Tryd.prog 24 d9 := l9
  obtain ⟨d10, p10, k10, l10⟩ := hf 10 _ rfl
  have k10 : DataW.trod enc Tryd.prog w base (fun _ => true) held m 24 ((cs.drop 10).take (Tryd.prog.cellsOf 24)) = some (d10, p10) := k10
  rw [cellsSlS] at k10
  have l10 : light Tryd.prog 24 d10 := l10
  obtain ⟨s0, e0, _, w0⟩ := DataW.trod_string Tryd.underlying9 k0
  obtain ⟨n1, e1, _, w1⟩ := DataW.trod_int Tryd.underlying3 k1
  obtain ⟨s8, e8, _, w8⟩ := DataW.trod_string Tryd.underlying9 k8
  match cs, hcl with
  | [c0, c1, c2, c3, c4, c5, c6, c7, c8, c9, c10], _ =>
    simp at e0 e1 e8 k2 k3 k4 k5 k6 k7 k9 k10
    subst e0 e1 e8
    obtain ⟨A2, q2, r2, x2, rfl, h2⟩ := ints_of ⟨k2, l2⟩
    obtain ⟨A3, q3, r3, x3, rfl, h3⟩ := vrs_of ⟨k3, l3⟩
    obtain ⟨A4, q4, r4, x4, rfl, h4⟩ := stmts_of _ c4 d4 p4 ⟨k4, l4⟩
    obtain ⟨A5, q5, r5, x5, rfl, h5⟩ := stmts_of _ c5 d5 p5 ⟨k5, l5⟩
    obtain ⟨A6, q6, r6, x6, rfl, h6⟩ := vrs_of ⟨k6, l6⟩
    obtain ⟨A7, q7, r7, x7, rfl, h7⟩ := stmts_of _ c7 d7 p7 ⟨k7, l7⟩
    obtain ⟨A9, q9, r9, x9, rfl, h9⟩ := stmts_of _ c9 d9 p9 ⟨k9, l9⟩
    obtain ⟨A10, q10, r10, x10, rfl, h10⟩ := stmts_of _ c10 d10 p10 ⟨k10, l10⟩
    exact ⟨⟨s0, n1, ⟨A2, q2, r2⟩, ⟨A3, q3, r3⟩, ⟨A4, q4, r4⟩, ⟨A5, q5, r5⟩, ⟨A6, q6, r6⟩, ⟨A7, q7, r7⟩, s8, ⟨A9, q9, r9⟩, ⟨A10, q10, r10⟩⟩, ⟨s0, n1, x2, x3, x4, x5, x6, x7, s8, x9, x10⟩, rfl,
      ⟨rfl, w0, rfl, oi64_of w1, h2, h3, h4, h5, h6, h7, rfl, w8, h9, h10⟩⟩
end
def exprTab : List Int := [0, 0, 1, 1, 1, 2, 2, 2, 2, 2, 2, 2, 2, 2, 2, 2, 2, 2]
def stmtTab : List Int := [1, 2, 1, 0, 0, 0, 1, 0, 2, 1]
set_option maxRecDepth 100000 in
/-- the tables lie where the program's text laid them -/
theorem laid_at {w : World} (h : laidMetH Tryd.prog Rows.sortsCellsRow.laid w) (h4 : 4 < w.heap.size) : LaidAt w := by
  have h' : laidMet Tryd.prog Rows.sortsCellsRow.laid w := h
  obtain ⟨ps, ⟨_, _, _, _, _, _, _, _, _, _, ⟨g1, t1, cs1, f1, p1, q1, hg1, ht1, hv1, hd1, ⟨g2, t2, cs2, f2, p2, q2, hg2, ht2, hv2, hd2, ⟨g3, t3, cs3, f3, p3, q3, hg3, ht3, hv3, hd3, _⟩, _⟩, _⟩, _⟩, _⟩ := h'
  have e1 : Tryd.prog.globalNamed "strings.asciiSpace" = some 0 := by kernel_rfl
  have e2 : Tryd.prog.globalNamed "baize/sorts.stmtParts" = some 1 := by kernel_rfl
  have e3 : Tryd.prog.globalNamed "baize/sorts.exprParts" = some 3 := by kernel_rfl
  obtain rfl := Option.some.inj (e1.symm.trans hg1)
  obtain rfl := Option.some.inj (e2.symm.trans hg2)
  obtain rfl := Option.some.inj (e3.symm.trans hg3)
  obtain rfl := Option.some.inj ((show (Tryd.prog.globals[0]?).map (·.type) = some 137 by kernel_rfl).symm.trans ht1)
  obtain rfl := Option.some.inj ((show (Tryd.prog.globals[1]?).map (·.type) = some 140 by kernel_rfl).symm.trans ht2)
  obtain rfl := Option.some.inj ((show (Tryd.prog.globals[3]?).map (·.type) = some 151 by kernel_rfl).symm.trans ht3)
  have c1 := Lib.cells_of_tab (zs := Lib.asciiSpaceTab) (k := .u8) Tryd.underlying137 Tryd.underlying5 (by kernel_rfl) (by kernel_rfl) hd1
  have c2 := Lib.cells_of_tab (zs := stmtTab) (k := .i64) Tryd.underlying140 Tryd.underlying3 (by kernel_rfl) (by kernel_rfl) hd2
  have c3 := Lib.cells_of_tab (zs := exprTab) (k := .i64) Tryd.underlying151 Tryd.underlying3 (by kernel_rfl) (by kernel_rfl) hd3
  refine ⟨?_, fun k hk => ?_, fun k hk => ?_, h4⟩
  · unfold Lib.TabIs
    rw [hv1, ← c1]
  · rw [World.var?_cell e2 hv2 k, ← Array.getElem?_toList, c2]
    have : ∀ k, k < 10 → stmtTab[k]? = some ((stmtParts (k : Nat) : Nat) : Int) := by decide
    rw [List.getElem?_map, this k hk]
    rfl
  · rw [World.var?_cell e3 hv3 k, ← Array.getElem?_toList, c3]
    have : ∀ k, k < 18 → exprTab[k]? = some ((exprParts (k : Nat) : Nat) : Int) := by decide
    rw [List.getElem?_map, this k hk]
    rfl
theorem five_blocks {w : World} (h : w.ShapedOpen Tryd.prog) : 4 < w.heap.size := by
  obtain ⟨h1, -⟩ := h
  have hs : (((begin Tryd.prog (fun _ _ => 0) default).world.heap[4]?).bind Obj.row?).isSome = true := by kernel_rfl
  obtain ⟨⟨zero, t⟩, hz⟩ := Option.isSome_iff_exists.1 hs
  obtain ⟨cs, hc, -⟩ := h1 4 zero t (of_decide_eq_true (by kernel_rfl)) hz
  exact (Array.getElem?_eq_some_iff.1 hc).1
end Go.Proofs.YtfamkemdgbnegaaDoor

/- SortsCells, of all that may come in. -/
namespace Go.Proofs.YtfamkemdgbnegaaDoor
open Go.RowKit Go.Deep Go.ChangeShapes Go.WideShapes So
set_option maxRecDepth 100000 in
theorem prog_in {H : Type} {enc : TypeId × Value → H} {W : World} {base : Nat} {v : Value} {d : DataW H} {p : List MemPlace} (o : Value.okWide Tryd.prog W .any base 26 v) (h : DataW.Trod enc Tryd.prog W 0 (fun _ => true) true 26 v d p) (z : light Tryd.prog 26 d) :
    ∃ (c : Pc) (q : Pr), v = .agg c.cells ∧ PAt W W.heap.size c q := by
  obtain ⟨cs, rfl⟩ : ∃ cs, v = .agg cs := by
    simp only [Value.okWide, Tryd.underlying26] at o
    obtain ⟨cs, h1, _⟩ := o
    exact ⟨cs, h1⟩
  obtain ⟨fuel, hf⟩ := h
  obtain ⟨c, q, e, hp⟩ := prog_of ⟨hf, z⟩
  refine ⟨c, q, ?_, hp⟩
  cases cs
  simpa [Value.cells] using e
namespace sortsCells
set_option maxRecDepth 100000 in
theorem walk {H : Type} {enc : TypeId × Value → H} (W : World) (base : Nat) (v0 v1 : Value) (d0 d1 : DataW H) (p0 p1 : List MemPlace)
    (o0 : Value.okWide Tryd.prog W .any base 26 v0) (o1 : Value.okWide Tryd.prog W .any base 9 v1)
    (h0 : DataW.Trod enc Tryd.prog W 0 (fun _ => true) true 26 v0 d0 p0) (h1 : DataW.Trod enc Tryd.prog W 0 (fun _ => true) true 9 v1 d1 p1) (hL : laidMetH Tryd.prog Rows.sortsCellsRow.laid W)
    (z0 : light Tryd.prog 26 d0) (_z1 : light Tryd.prog 9 d1) (hS : W.ShapedOpen Tryd.prog) :
    Calls Tryd.prog 8 #[v0, v1] W fun e w' => e = .returned (.bool true) ∧ Ext W w' := by
  obtain ⟨s, rfl, rfl, rfl, _⟩ := Go.ChangeMaps.open_string Tryd.underlying9 o1 h1
  obtain ⟨c, q, rfl, hp⟩ := prog_in o0 h0 z0
  exact lcells_any c q s W.heap.size W (Nat.le_refl _) hp (laid_at hL (five_blocks hS))
end sortsCells
end Go.Proofs.YtfamkemdgbnegaaDoor
