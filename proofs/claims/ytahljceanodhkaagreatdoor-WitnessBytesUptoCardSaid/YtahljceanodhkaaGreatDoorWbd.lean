/- Several texts joined: Opn, We, Wf, Wg, Wh, Ma, Mb, Mc, Md, Me, Mf, Mg, Mh, Mia, Mib, Mic, Mid, Mie, Mif, Mig, Mj, Mk, Ml, Tg, Th, Ti, Mm, Mn, Mo, Wi, Wj, Wk, Wm, Wn, Wo, Wp, Wq, Wr, Ws. -/
import Derived.ProofKit
import Derived.OpenShut
import Derived.ShutString
import Derived.ChangeOld
import Derived.Below
import Derived.Deep.Slices
import Derived.Test.YtahljceanodhkaaGreatDoorShelg
import Derived.Sort.OwnSortedInts
import Derived.Lib.OthersKept
import Derived.Lib.AppendZerosOnto
import Derived.Test.YtahljceanodhkaaGreatDoorWbc
/- What came in, opened: slices of elements of several cells; instructions, words, states. -/
namespace Go.Proofs.YtahljceanodhkaaGreatDoor
open Go.RowKit Go.Deep Go.ChangeShapes Go.WideShapes
theorem oaddr_add (b off j : Nat) : (⟨b, off, none⟩ : Addr).add j = ⟨b, off + j, none⟩ := by unfold Addr.add; split <;> simp_all
theorem ospot_of_cell {w : World} {a : Addr} {v : Value} (h : w.cell? a = some v) : a.spot = none := by
  unfold World.cell? at h
  split at h
  · split at h
    · cases h
    · rename_i hn; cases hs : a.spot with
      | none => rfl
      | some x => simp [hs] at hn
  · cases h
/-- cells known one by one: the row of them -/
theorem row_of_cells {w : World} {b o : Nat} (vs : List Value) (hne : 0 < vs.length) (h : ∀ j, j < vs.length → w.cell? ⟨b, o + j, none⟩ = vs[j]?) : Row w b o vs := by
  have h0 := h 0 hne
  cases hq : w.heap[b]? with
  | none => simp [World.cell?, hq, List.getElem?_eq_getElem hne] at h0
  | some ob =>
    cases ob with
    | cells c t fr =>
      have hc : ∀ j, j < vs.length → c[o + j]? = vs[j]? := fun j hj => by have := h j hj; simpa [World.cell?, hq] using this
      have hlast := hc (vs.length - 1) (by omega)
      have hlt : o + (vs.length - 1) < c.size := by
        rw [List.getElem?_eq_getElem (by omega)] at hlast
        exact (Array.getElem?_eq_some_iff.1 hlast).1
      refine ⟨by unfold Proofs.YtahljceanodhkaaGreatDoor.has; rw [hq]; simp; omega, ?_, (Array.getElem?_eq_some_iff.1 hq).1⟩
      unfold gets
      rw [hq]
      show ((c.toList.drop o).take vs.length).toArray = vs.toArray
      congr 1
      apply List.ext_getElem?
      intro j
      rw [List.getElem?_take]
      split
      · rename_i hj
        rw [List.getElem?_drop, ← hc j hj]; simp
      · rename_i hj
        rw [List.getElem?_eq_none (by omega)]
    | _ => simp [World.cell?, hq, List.getElem?_eq_getElem hne] at h0
theorem flatten_get {sz : Nat} (hsz : 0 < sz) : ∀ (css : List (List Value)) (_ : ∀ cs ∈ css, cs.length = sz) (k : Nat), css.flatten[k]? = (css.getD (k / sz) [])[k % sz]?
  | [], _, k => by simp
  | c :: r, h, k => by
    have hc := h c (by simp)
    have ih := flatten_get hsz r (fun cs hcs => h cs (by simp [hcs]))
    rw [List.flatten_cons]
    by_cases hk : k < sz
    · rw [List.getElem?_append_left (by omega), Nat.div_eq_of_lt hk, Nat.mod_eq_of_lt hk]
      simp
    · rw [List.getElem?_append_right (by omega), hc, ih (k - sz)]
      have e1 : k / sz = (k - sz) / sz + 1 := by rw [Nat.div_eq k sz, if_pos ⟨hsz, by omega⟩]
      have e2 : k % sz = (k - sz) % sz := by rw [Nat.mod_eq k sz, if_pos ⟨hsz, by omega⟩]
      rw [e1, e2]
      simp
theorem flatten_len {sz : Nat} : ∀ (css : List (List Value)) (_ : ∀ cs ∈ css, cs.length = sz), css.flatten.length = css.length * sz
  | [], _ => by simp
  | c :: r, h => by
    have hc := h c (by simp)
    have ih := flatten_len r (fun cs hcs => h cs (by simp [hcs]))
    rw [List.flatten_cons, List.length_append, ih, hc, List.length_cons, Nat.succ_mul]
    omega
section
variable {H : Type} {enc : TypeId × Value → H} {P : Program} {w : World} {base : Nat} {spare : Nat → Bool} {held : Bool}
theorem open_rows {T E : TypeId} {sz fuel : Nat} {v : Value} {x : DataW H × List MemPlace} (hu : P.underlying T = some (.slice E)) (hsz : P.cellsOf E = sz) (hpos : 0 < sz) (h : DataW.trod enc P w base spare held fuel T [v] = some x) :
    ∃ (A : Option Addr) (b off len cap : Nat) (css : List (List Value)), v = .slice A len cap ∧ (0 < len → A = some ⟨b, off, none⟩) ∧ css.length = len ∧ (0 < len → Row w b off css.flatten) ∧
      (∀ cs ∈ css, cs.length = sz ∧ ∃ n y, DataW.trod enc P w base spare held n E cs = some y) ∧ len ≤ cap ∧ cap ≤ maxLen := by
  rcases open_slice hu h with ⟨hcs, _⟩ | ⟨a, len, cap, m, n, D', Pl, hcs, _, hl, hm, hmm, _, hi⟩
  · simp at hcs
    exact ⟨none, 0, 0, 0, 0, [], hcs, fun h => by omega, rfl, fun h => by omega, fun _ h => by simp at h, by omega, by simp [maxLen]⟩
  · simp at hcs
    have hlm : len ≤ m := by rw [hmm]; split <;> omega
    rw [hsz] at hi
    have hch : ∀ i, ∃ cs, i < len → cs.length = sz ∧ (∃ n y, DataW.trod enc P w base spare held n E cs = some y) ∧ ∀ j, j < sz → w.cell? ((a.add (i * sz)).add j) = cs[j]? := fun i => by
      by_cases hil : i < len
      · obtain ⟨cs, hc, ht⟩ := hi i (by omega)
        obtain ⟨_, hcl, hat⟩ := World.cells?_some hc
        exact ⟨cs, fun _ => ⟨hcl, ⟨_, _, ht⟩, hat⟩⟩
      · exact ⟨[], fun h => absurd h hil⟩
    obtain ⟨C, hC⟩ := Classical.axiomOfChoice hch
    have hsp : 0 < len → a = ⟨a.block, a.off, none⟩ := fun h0 => by
      obtain ⟨hcl, _, hat⟩ := hC 0 h0
      have h0' := hat 0 hpos
      rw [List.getElem?_eq_getElem (by omega)] at h0'
      have e : (a.add (0 * sz)).add 0 = a := by simp [Addr.add]
      rw [e] at h0'
      have := ospot_of_cell h0'
      cases a; simp_all
    have hlen : ∀ cs ∈ (List.range len).map C, cs.length = sz := fun cs hcs => by
      simp at hcs
      obtain ⟨i, hil, rfl⟩ := hcs
      exact (hC i hil).1
    refine ⟨some a, a.block, a.off, len, cap, (List.range len).map C, hcs, fun h => by rw [← hsp h], by simp, fun h0 => ?_, fun cs hcs => ⟨hlen cs hcs, ?_⟩, hl, hm⟩
    · have hfl := flatten_len _ hlen
      rw [List.length_map, List.length_range] at hfl
      refine row_of_cells _ (by rw [hfl]; exact Nat.mul_pos h0 hpos) (fun j hj => ?_)
      rw [hfl] at hj
      rw [flatten_get hpos _ hlen]
      have hq : j / sz < len := Nat.div_lt_of_lt_mul (by rw [Nat.mul_comm]; exact hj)
      have hr := (hC (j / sz) hq).2.2 (j % sz) (Nat.mod_lt _ hpos)
      rw [hsp h0, oaddr_add, oaddr_add, Nat.add_assoc] at hr
      rw [show j / sz * sz + j % sz = j by rw [Nat.mul_comm]; exact Nat.div_add_mod j sz] at hr
      rw [hr]
      simp [hq]
    · simp at hcs
      obtain ⟨i, hil, rfl⟩ := hcs
      exact (hC i hil).2.1
end
section
variable {H : Type} {enc : TypeId × Value → H} {w : World} {base : Nat} {spare : Nat → Bool} {held : Bool}
theorem cellsI : Tryz.prog.cellsOf 89 = 4 := by kernel_rfl
theorem cellsInt : Tryz.prog.cellsOf 3 = 1 := by kernel_rfl
theorem cellsI32 : Tryz.prog.cellsOf 21 = 1 := by kernel_rfl
theorem field_at {fuel : Nat} {T : TypeId} {cs : List Value} {xs : List (DataW H × List MemPlace)} {i o n : Nat} {t : TypeId} (hi : i < xs.length) (h : DataW.trod enc Tryz.prog w base spare held fuel t ((cs.drop o).take n) = xs[i]?) : ∃ y, DataW.trod enc Tryz.prog w base spare held fuel t ((cs.drop o).take n) = some y := by
  have _ := T
  exact ⟨xs[i], by rw [h, List.getElem?_eq_getElem hi]⟩
theorem i64_of {n : Int} (h : Lit.wf (.int .i64 n) = true) : i64ok n := by
  simpa [Lit.wf, IntKind.min, IntKind.max, IntKind.signed, IntKind.bits, i64ok] using h
set_option maxRecDepth 100000 in
theorem ins_cells {fuel : Nat} {cs : List Value} {x : DataW H × List MemPlace} (h : DataW.trod enc Tryz.prog w base spare held fuel 89 cs = some x) : ∃ i : Ins, i.ok ∧ cs = i.cells.toList := by
  obtain ⟨xs, n, _, _, hl, hxl, hf⟩ := DataW.trod_struct Tryz.underlying89 h
  rw [cellsI] at hl
  have h0 : DataW.trod enc Tryz.prog w base spare held n 3 ((cs.drop 0).take (Tryz.prog.cellsOf 3)) = xs[0]? := hf 0 _ rfl
  have h1 : DataW.trod enc Tryz.prog w base spare held n 3 ((cs.drop 1).take (Tryz.prog.cellsOf 3)) = xs[1]? := hf 1 _ rfl
  have h2 : DataW.trod enc Tryz.prog w base spare held n 3 ((cs.drop 2).take (Tryz.prog.cellsOf 3)) = xs[2]? := hf 2 _ rfl
  have h3 : DataW.trod enc Tryz.prog w base spare held n 3 ((cs.drop 3).take (Tryz.prog.cellsOf 3)) = xs[3]? := hf 3 _ rfl
  rw [cellsInt] at h0 h1 h2 h3
  have hx4 : xs.length = 4 := hxl
  obtain ⟨y0, k0⟩ := field_at (T := 0) (by omega) h0
  obtain ⟨y1, k1⟩ := field_at (T := 0) (by omega) h1
  obtain ⟨y2, k2⟩ := field_at (T := 0) (by omega) h2
  obtain ⟨y3, k3⟩ := field_at (T := 0) (by omega) h3
  match cs, hl with
  | [c0, c1, c2, c3], _ =>
    obtain ⟨n0, e0, _, w0⟩ := DataW.trod_int Tryz.underlying3 k0
    obtain ⟨n1, e1, _, w1⟩ := DataW.trod_int Tryz.underlying3 k1
    obtain ⟨n2, e2, _, w2⟩ := DataW.trod_int Tryz.underlying3 k2
    obtain ⟨n3, e3, _, w3⟩ := DataW.trod_int Tryz.underlying3 k3
    simp at e0 e1 e2 e3
    subst e0 e1 e2 e3
    exact ⟨⟨n0, n1, n2, n3⟩, ⟨i64_of w0, i64_of w1, i64_of w2, i64_of w3⟩, rfl⟩
def i32ok (n : Int) : Prop := -2147483648 ≤ n ∧ n ≤ 2147483647
theorem i32_of {n : Int} (h : Lit.wf (.int .i32 n) = true) : i32ok n := by
  simpa [Lit.wf, IntKind.min, IntKind.max, IntKind.signed, IntKind.bits, i32ok] using h
end
end Go.Proofs.YtahljceanodhkaaGreatDoor

/- The law's own functions of layer 22: Of, few, of, known. -/
namespace Go.Proofs.YtahljceanodhkaaGreatDoor
open Go.RowKit
theorem aggMst : aggT Tryz.prog 70 = true := by kernel_rfl
theorem sizeMst : sizeT Tryz.prog 70 = some 3 := by kernel_rfl
theorem wpLoadMst {dst : Option Tmp} {ty' : TypeId} {x : Operand} {pos : String} {after : Array Edge} {guard : Option (Nat × Bool)} {a : Act} {w : World} {K : Act → World → Prop} {Q : Exit → Act → World → Prop} (hx : isAt (a.eval x) = true) (hh : has w (blkOf (a.eval x)) (offOf (a.eval x)) 3 = true) :
    Oper.wp Tryz.prog { dst := dst, op := .load 70 x, type := ty', pos := pos, after := after, guard := guard } a w K Q = K (a.put dst (.agg (gets w (blkOf (a.eval x)) (offOf (a.eval x)) 3))) w := wp_load_big 3 aggMst sizeMst hx hh
theorem runLoadMst {ρ : Operand → Value} {dst : Option Tmp} {ty' : TypeId} {x : Operand} {pos : String} {after : Array Edge} {guard : Option (Nat × Bool)} {w : World} (hx : isAt (ρ x) = true) (hh : has w (blkOf (ρ x)) (offOf (ρ x)) 3 = true) :
    (execOp ρ { dst := dst, op := .load 70 x, type := ty', pos := pos, after := after, guard := guard }).run Tryz.prog w = .ok (.value (.agg (gets w (blkOf (ρ x)) (offOf (ρ x)) 3))) w := run_exec_load_big 3 aggMst sizeMst hx hh
theorem loadVarMst (w : World) (g off : Nat) (hh : has w g off 3 = true) : (loadVar 70 ⟨g, off, none⟩).run Tryz.prog w = .ok (.agg (gets w g off 3)) w := run_loadVar_big Tryz.prog w _ g off 3 aggMst sizeMst hh
attribute [go_sem] aggMst sizeMst
attribute [go_sem ↓ high] wpLoadMst loadVarMst runLoadMst
attribute [go_sem high] wpLoadMst
theorem aggRst : aggT Tryz.prog 61 = true := by kernel_rfl
theorem sizeRst : sizeT Tryz.prog 61 = some 3 := by kernel_rfl
theorem wpLoadRst {dst : Option Tmp} {ty' : TypeId} {x : Operand} {pos : String} {after : Array Edge} {guard : Option (Nat × Bool)} {a : Act} {w : World} {K : Act → World → Prop} {Q : Exit → Act → World → Prop} (hx : isAt (a.eval x) = true) (hh : has w (blkOf (a.eval x)) (offOf (a.eval x)) 3 = true) :
    Oper.wp Tryz.prog { dst := dst, op := .load 61 x, type := ty', pos := pos, after := after, guard := guard } a w K Q = K (a.put dst (.agg (gets w (blkOf (a.eval x)) (offOf (a.eval x)) 3))) w := wp_load_big 3 aggRst sizeRst hx hh
theorem runLoadRst {ρ : Operand → Value} {dst : Option Tmp} {ty' : TypeId} {x : Operand} {pos : String} {after : Array Edge} {guard : Option (Nat × Bool)} {w : World} (hx : isAt (ρ x) = true) (hh : has w (blkOf (ρ x)) (offOf (ρ x)) 3 = true) :
    (execOp ρ { dst := dst, op := .load 61 x, type := ty', pos := pos, after := after, guard := guard }).run Tryz.prog w = .ok (.value (.agg (gets w (blkOf (ρ x)) (offOf (ρ x)) 3))) w := run_exec_load_big 3 aggRst sizeRst hx hh
theorem loadVarRst (w : World) (g off : Nat) (hh : has w g off 3 = true) : (loadVar 61 ⟨g, off, none⟩).run Tryz.prog w = .ok (.agg (gets w g off 3)) w := run_loadVar_big Tryz.prog w _ g off 3 aggRst sizeRst hh
attribute [go_sem] aggRst sizeRst
attribute [go_sem ↓ high] wpLoadRst loadVarRst runLoadRst
attribute [go_sem high] wpLoadRst
end Go.Proofs.YtahljceanodhkaaGreatDoor

/- The document's example of layer 22: known. -/
namespace Go.Proofs.YtahljceanodhkaaGreatDoor
open Go.RowKit
abbrev ins0 : Ins := ⟨0, 0, 0, 0⟩
theorem i64z : i64ok 0 := by unfold i64ok; omega
theorem ins0_ok : ins0.ok := ⟨i64z, i64z, i64z, i64z⟩
theorem st7 : ¬ (stateR 0 1 [7]).x0 = 0 := by decide +kernel
theorem bare_cells (pc halt : Int) (l : List Int) : (bareStep pc halt l).cells = bareC pc halt l.length (memR l) := rfl
set_option maxRecDepth 100000 in
set_option maxHeartbeats 2000000 in
theorem known_any (w : World) : Calls Tryz.prog 27 #[] w fun e w' => e = .returned (.bool true) ∧ Ext w w' := by
  obtain ⟨C, hC⟩ : ∃ C, C = codeR [ins0] := ⟨_, rfl⟩
  obtain ⟨Q, hQ⟩ : ∃ Q, Q = stateR 0 1 [7] := ⟨_, rfl⟩
  obtain ⟨M, hM⟩ : ∃ M, M = memR [7] := ⟨_, rfl⟩
  have hq0 : (Q.x0 == 0) = false := by rw [hQ]; simpa using st7
  have HC := Lib.hid hC
  have HQ := Lib.hid hQ
  have HM := Lib.hid hM
  clear hC hQ hM
  have hx0 : Ext w _ := (((Kept.refl _ w).alloc (.cells ins0.cells 41)).alloc (.cells #[.int .i32 7] 21)).alloc (.cells (stCells 0 (some ⟨w.heap.size + 1, 0, none⟩) 1 1 1) 70)
  have hI0 : Blk _ w.heap.size 41 ins0.cells := Blk.alloc (Blk.alloc (Blk.new w _ _) (.cells #[.int .i32 7] 21)) (.cells (stCells 0 (some ⟨w.heap.size + 1, 0, none⟩) 1 1 1) 70)
  have hM0 : Blk _ (w.heap.size + 1) 21 #[.int .i32 7] := Blk.alloc (Blk.new' (w.alloc (.cells ins0.cells 41)) _ _ _ (by simp)) (.cells (stCells 0 (some ⟨w.heap.size + 1, 0, none⟩) 1 1 1) 70)
  have hS0 : Blk _ (w.heap.size + 1 + 1) 70 (stCells 0 (some ⟨w.heap.size + 1, 0, none⟩) 1 1 1) := Blk.new' ((w.alloc (.cells ins0.cells 41)).alloc (.cells #[.int .i32 7] 21)) _ _ _ (by simp)
  go_enter Tryz.func27, Tryz.ntmps27
  go_wp2_with fail
  refine (wcode_ok (some ⟨w.heap.size, 0, none⟩) w.heap.size 0 1 [ins0] 1 rfl (by omega) (by omega) (fun i hi => by simp at hi; subst hi; exact ins0_ok) (fun _ => rfl) _ (fun _ => Row.of_blk hI0)).mono ?_
  rintro e w1 ⟨e1, hx1⟩
  replace e1 : e = .returned (.tuple #[.agg C.cells, .int .i64 0]) := by rw [e1, HC.out]
  subst e1
  have y1 := (hx0.trans hx1).alloc (.cells C.cells 30)
  have hI1 := Blk.alloc (Blk.ext hI0 hx1) (.cells C.cells 30)
  have hM1 := Blk.alloc (Blk.ext hM0 hx1) (.cells C.cells 30)
  have hS1 := Blk.alloc (Blk.ext hS0 hx1) (.cells C.cells 30)
  have hC1 := Blk.new w1 30 C.cells
  have hl1 := (Blk.ext hS0 hx1).lt
  have hh1 := Blk.has (Blk.ext hS0 hx1)
  have hg1 := Blk.gets (Blk.ext hS0 hx1)
  clear hI0 hM0 hS0 hx0 hx1
  go_wp2_with fail
  generalize (w1.alloc (.cells #[.int .u8 C.x0, .int .u8 C.x1, .int .u8 C.x2, .int .u8 C.x3, .int .u8 C.x4, .int .u8 C.x5, .int .u8 C.x6, .int .u8 C.x7] 30)) = W1 at y1 hI1 hM1 hS1 hC1 ⊢
  clear hh1 hg1
  generalize w1.heap.size = c1 at hC1 hl1 ⊢
  refine (wstate_ok 0 1 (some ⟨w.heap.size + 1, 0, none⟩) (w.heap.size + 1) 0 1 [7] 1 rfl (by decide) (fun _ => rfl) _ (fun _ => Row.of_blk hM1)).mono ?_
  rintro e w2 ⟨e2, hx2⟩
  replace e2 : e = .returned (.tuple #[.agg Q.cells, .int .i64 0]) := by rw [e2, HQ.out]
  subst e2
  have y2 := (y1.trans hx2).alloc (.cells Q.cells 30)
  have hI2 := Blk.alloc (Blk.ext hI1 hx2) (.cells Q.cells 30)
  have hM2 := Blk.alloc (Blk.ext hM1 hx2) (.cells Q.cells 30)
  have hS2 := Blk.alloc (Blk.ext hS1 hx2) (.cells Q.cells 30)
  have hC2 := Blk.alloc (Blk.ext hC1 hx2) (.cells Q.cells 30)
  have hQ2 := Blk.new w2 30 Q.cells
  have hl2 := (Blk.ext hC1 hx2).lt
  clear hI1 hM1 hS1 hC1 y1 hx2
  go_upto_region 5 with (fail)
  generalize (w2.alloc (.cells #[.int .u8 Q.x0, .int .u8 Q.x1, .int .u8 Q.x2, .int .u8 Q.x3, .int .u8 Q.x4, .int .u8 Q.x5, .int .u8 Q.x6, .int .u8 Q.x7] 30)) = W2 at y2 hI2 hM2 hS2 hC2 hQ2 ⊢
  generalize w2.heap.size = c2 at hQ2 hl2 ⊢
  have hh2 := Blk.has hQ2
  have hg2 := Blk.gets hQ2
  have hh3 := Blk.has hS2
  have hg3 := Blk.gets hS2
  go_wp2_with fail
  refine (make_stays (some ⟨w.heap.size, 0, none⟩) w.heap.size 0 1 [ins0] 1 rfl (by omega) (by omega) (fun i hi => by simp at hi; subst hi; exact ins0_ok) (fun _ => rfl) 0 1 (some ⟨w.heap.size + 1, 0, none⟩) (w.heap.size + 1) 0 1 [7] 1 rfl (by decide) (fun _ => rfl) (.inl (by decide)) _ (fun _ => Row.of_blk hI2) (fun _ => Row.of_blk hM2)).mono ?_
  rintro e w3 ⟨e3, hx3⟩
  replace e3 : e = .returned (.tuple #[.agg (bareC 0 1 1 M), .int .i64 0]) := by rw [e3, HM.out]; rfl
  subst e3
  have hC3 := Blk.alloc (Blk.ext hC2 hx3) (.cells (bareC 0 1 1 M) 45)
  have hQ3 := Blk.alloc (Blk.ext hQ2 hx3) (.cells (bareC 0 1 1 M) 45)
  have hW3 := Blk.new w3 45 (bareC 0 1 1 M)
  have y3 := (y2.trans hx3).alloc (.cells (bareC 0 1 1 M) 45)
  have hl3 := (Blk.ext hQ2 hx3).lt
  clear hh2 hg2 hh3 hg3 hI2 hM2 hS2 hC2 hQ2 hx3 y2
  go_upto_region 8 with (fail)
  generalize (w3.alloc (.cells (bareC 0 1 1 M) 45)) = W3 at y3 hC3 hQ3 hW3 ⊢
  generalize w3.heap.size = c3 at hW3 hl3 ⊢
  have hh4 := Blk.has hC3
  have hg4 := Blk.gets hC3
  have hh5 := Blk.has hQ3
  have hg5 := Blk.gets hQ3
  have hh6 := Blk.has hW3
  have hg6 := Blk.gets hW3
  have hc6 := Blk.cell hW3
  go_wp2_with fail
  have hck := check_stays (bareStep 0 1 [7]) C 1 W3 (hWord_ok _ _) (by omega) (by omega) (by decide) (.inl (by decide)) rfl rfl rfl
  have e5 : hHead (bareStep 0 1 [7]).pc (bareStep 0 1 [7]).halt (bareStep 0 1 [7]).words (bareStep 0 1 [7]).mem = Q := HQ.out.symm
  have e6 : (bareStep 0 1 [7]).same = Q := HQ.out.symm
  rw [e5, e6, bare_cells, ← HM.out] at hck
  refine hck.mono ?_
  rintro e w4 ⟨rfl, hx4⟩
  clear hck
  go_wp2_with fail
  go_ret
  exact ⟨rfl, y3.trans hx4⟩
end Go.Proofs.YtahljceanodhkaaGreatDoor

/- The law WitnessDigests: its walk. -/
namespace Go.Proofs.YtahljceanodhkaaGreatDoor
open Go.RowKit Go.ChangeShapes Go.WideShapes
theorem eqArr8w (w : World) (d : Nat) (a0 a1 a2 a3 a4 a5 a6 a7 b0 b1 b2 b3 b4 b5 b6 b7 : Int) :
    (Op.equalIn (d + 2) 23 (.agg #[.int .u8 a0, .int .u8 a1, .int .u8 a2, .int .u8 a3, .int .u8 a4, .int .u8 a5, .int .u8 a6, .int .u8 a7]) (.agg #[.int .u8 b0, .int .u8 b1, .int .u8 b2, .int .u8 b3, .int .u8 b4, .int .u8 b5, .int .u8 b6, .int .u8 b7])).run Tryz.prog w =
      .ok ([a0, a1, a2, a3, a4, a5, a6, a7] == [b0, b1, b2, b3, b4, b5, b6, b7]) w :=
  run_equalIn_ints w d _ 5 8 .u8 Tryz.underlying23 Tryz.underlying5 (fun w => sizeOf_run (by kernel_rfl) w) [a0, a1, a2, a3, a4, a5, a6, a7] [b0, b1, b2, b3, b4, b5, b6, b7] rfl rfl
theorem eqArr8w' (w : World) (a0 a1 a2 a3 a4 a5 a6 a7 b0 b1 b2 b3 b4 b5 b6 b7 : Int) :
    (Op.equalIn 10000 23 (.agg #[.int .u8 a0, .int .u8 a1, .int .u8 a2, .int .u8 a3, .int .u8 a4, .int .u8 a5, .int .u8 a6, .int .u8 a7]) (.agg #[.int .u8 b0, .int .u8 b1, .int .u8 b2, .int .u8 b3, .int .u8 b4, .int .u8 b5, .int .u8 b6, .int .u8 b7])).run Tryz.prog w =
      .ok ([a0, a1, a2, a3, a4, a5, a6, a7] == [b0, b1, b2, b3, b4, b5, b6, b7]) w := eqArr8w w 9998 _ _ _ _ _ _ _ _ _ _ _ _ _ _ _ _
theorem guardArr8w : Tryz.prog.eqGuardType Tryz.prog.depth 23 = false := by kernel_rfl
attribute [go_sem] eqArr8w' guardArr8w
namespace witnessDigests
end witnessDigests
end Go.Proofs.YtahljceanodhkaaGreatDoor

/- The law WitnessStays: its walk. -/
namespace Go.Proofs.YtahljceanodhkaaGreatDoor
open Go.RowKit Go.ChangeShapes Go.WideShapes
theorem infoW3 : (Tryz.prog.info? 77).map (fun i => (i.zero, i.size, i.bytes)) = some (some (.agg #[.int .i64 0, .int .i32 0, .slice none 0 0]), 3, 40) := by kernel_rfl
/-- what is made, with one word more -/
abbrev moreC (pc halt : Int) (k : Nat) (M : Dg) (g c : Nat) : Array Value := #[.int .i64 pc, .int .i64 halt, .int .i64 k, .int .u8 M.x0, .int .u8 M.x1, .int .u8 M.x2, .int .u8 M.x3, .int .u8 M.x4, .int .u8 M.x5, .int .u8 M.x6, .int .u8 M.x7, .int .i64 0, .int .i64 0, .int .i64 0, .int .i64 0, .slice none 0 0, .slice (some ⟨g, 0, none⟩) 1 c, .slice none 0 0]
attribute [go_sem] moreC
namespace witnessStays
end witnessStays
end Go.Proofs.YtahljceanodhkaaGreatDoor

/- Package code: is, has, three, right, Right. -/
namespace Go.Proofs.YtahljceanodhkaaGreatDoor
open Go.RowKit
/-- what an operation has, by its number -/
def hasN (k : Nat) : List UInt8 := match k with
  | 0 => [110] | 1 => [119, 110] | 2 => [119, 119] | 14 => [119, 119] | 17 => [119, 110, 110] | 18 => [119, 119, 110] | 19 => [112] | 20 => [112, 119] | 21 => [112, 119] | _ => [119, 119, 119]
def hasS (k : Nat) : ByteArray := ⟨(hasN k).toArray⟩
/-- the program's table of operations lies where it was laid -/
structure OpsAt (w : World) : Prop where
  lt : 0 < w.heap.size
  at_ : ∀ k, k < 22 → w.cell? ⟨0, k * 2 + 1, none⟩ = some (.string (hasS k))
theorem OpsAt.ext {w w' : World} (h : OpsAt w) (hx : Ext w w') : OpsAt w' :=
  ⟨Nat.lt_of_lt_of_le h.lt hx.size, fun k hk => (Kept.cell hx (p := ⟨0, k * 2 + 1, none⟩) h.lt (fun f => f)).trans (h.at_ k hk)⟩
theorem OpsAt.kept {S : Nat → Prop} {w w' : World} (h : OpsAt w) (hx : Kept S w w') (hs : ¬ S 0) : OpsAt w' :=
  ⟨Nat.lt_of_lt_of_le h.lt hx.size, fun k hk => (Kept.cell hx (p := ⟨0, k * 2 + 1, none⟩) h.lt hs).trans (h.at_ k hk)⟩
def isOp (op : Int) : Bool := decide (0 ≤ op) && decide (op < 22)
def i32B (n : Int) : Bool := decide (-2147483648 ≤ n) && decide (n ≤ 2147483647)
theorem aggArr3 : aggT Tryz.prog 153 = true := by kernel_rfl
theorem sizeArr3 : sizeT Tryz.prog 153 = some 3 := by kernel_rfl
theorem wpLoadArr3 {dst : Option Tmp} {ty' : TypeId} {x : Operand} {pos : String} {after : Array Edge} {guard : Option (Nat × Bool)} {a : Act} {w : World} {K : Act → World → Prop} {Q : Exit → Act → World → Prop} (hx : isAt (a.eval x) = true) (hh : has w (blkOf (a.eval x)) (offOf (a.eval x)) 3 = true) :
    Oper.wp Tryz.prog { dst := dst, op := .load 153 x, type := ty', pos := pos, after := after, guard := guard } a w K Q = K (a.put dst (.agg (gets w (blkOf (a.eval x)) (offOf (a.eval x)) 3))) w := wp_load_big 3 aggArr3 sizeArr3 hx hh
theorem runLoadArr3 {ρ : Operand → Value} {dst : Option Tmp} {ty' : TypeId} {x : Operand} {pos : String} {after : Array Edge} {guard : Option (Nat × Bool)} {w : World} (hx : isAt (ρ x) = true) (hh : has w (blkOf (ρ x)) (offOf (ρ x)) 3 = true) :
    (execOp ρ { dst := dst, op := .load 153 x, type := ty', pos := pos, after := after, guard := guard }).run Tryz.prog w = .ok (.value (.agg (gets w (blkOf (ρ x)) (offOf (ρ x)) 3))) w := run_exec_load_big 3 aggArr3 sizeArr3 hx hh
theorem loadVarArr3 (w : World) (g off : Nat) (hh : has w g off 3 = true) : (loadVar 153 ⟨g, off, none⟩).run Tryz.prog w = .ok (.agg (gets w g off 3)) w := run_loadVar_big Tryz.prog w _ g off 3 aggArr3 sizeArr3 hh
attribute [go_sem] aggArr3 sizeArr3
attribute [go_sem ↓ high] wpLoadArr3 loadVarArr3 runLoadArr3
attribute [go_sem high] wpLoadArr3
def hasI (i : Ins) : ByteArray := if isOp i.op = true then hasS i.op.toNat else ⟨#[]⟩
end Go.Proofs.YtahljceanodhkaaGreatDoor

/- Package code: Right. -/
namespace Go.Proofs.YtahljceanodhkaaGreatDoor
open Go.RowKit
def nth3 (i : Ins) : Nat → Int | 0 => i.a | 1 => i.b | _ => i.c
end Go.Proofs.YtahljceanodhkaaGreatDoor

/- Package machine: next, far. -/
namespace Go.Proofs.YtahljceanodhkaaGreatDoor
open Go.RowKit
abbrev StAt (w : World) (s : Nat) (t : TypeId) (pc : Int) (A : Option Addr) (n cap : Nat) (halt : Int) : Prop := Blk w s t (stCells pc A n cap halt)
end Go.Proofs.YtahljceanodhkaaGreatDoor

/- Package machine: far. -/
namespace Go.Proofs.YtahljceanodhkaaGreatDoor
open Go.RowKit
def placeI (p : Int) (k : Nat) : Int := if 0 ≤ p ∧ p < k then p else -1
def farI (i : Ins) (m : List Int) : Int := if i.op = 15 then placeI (i.b + m.getD i.c.toNat 0) m.length else if i.op = 16 then placeI (i.a + m.getD i.b.toNat 0) m.length else -1
end Go.Proofs.YtahljceanodhkaaGreatDoor

/- Package machine: twos. -/
namespace Go.Proofs.YtahljceanodhkaaGreatDoor
open Go.RowKit
/-- block g is a map's -/
def MapB (w : World) (g : Nat) (es : Array MapEntry) (clock : Nat) : Prop := w.heap[g]? = some (.map es clock)
theorem MapB.lt {w : World} {g : Nat} {es : Array MapEntry} {clock : Nat} (h : MapB w g es clock) : g < w.heap.size := (Array.getElem?_eq_some_iff.1 h).1
theorem MapB.kept {S : Nat → Prop} {w w' : World} {g : Nat} {es : Array MapEntry} {clock : Nat} (h : MapB w g es clock) (hk : Kept S w w') (hs : ¬ S g) : MapB w' g es clock := (hk.block g h.lt hs).trans h
theorem MapB.ext {w w' : World} {g : Nat} {es : Array MapEntry} {clock : Nat} (h : MapB w g es clock) (hk : Ext w w') : MapB w' g es clock := h.kept hk (fun f => f)
end Go.Proofs.YtahljceanodhkaaGreatDoor

/- Package machine: the operations of two words. -/
namespace Go.Proofs.YtahljceanodhkaaGreatDoor
open Go.RowKit
end Go.Proofs.YtahljceanodhkaaGreatDoor

/- Words of a memory of its own; what a step does, in plain words. -/
namespace Go.Proofs.YtahljceanodhkaaGreatDoor
open Go.RowKit
/-- words that the call owns -/
def MemAt (w : World) (base g n kc : Nat) (m : List Int) : Prop := w.ownsRow base 21 1 (.slice (some ⟨g, 0, none⟩) n kc) n (mems m)
section
variable {w w' : World} {base g n kc : Nat} {m : List Int}
theorem mems_len (m : List Int) : (mems m).length = m.length := by simp [mems]
theorem MemAt.inv (h : MemAt w base g n kc m) : n = m.length ∧ ∃ cur, base ≤ g ∧ w.heap[g]? = some (.cells cur 21 (0, 0)) ∧ n ≤ kc ∧ kc ≤ maxLen ∧ cur.size = kc ∧ cur.toList.take n = mems m := by
  have hl := h.1
  rw [mems_len, Nat.mul_one] at hl
  rcases h.2 with ⟨hv, _⟩ | ⟨g', c, cur, hv, hb, hc, hnc, hcm, hcs, htk⟩
  · simp at hv
  · simp at hv
    obtain ⟨rfl, rfl⟩ := hv
    rw [Nat.mul_one] at hcs htk
    exact ⟨hl.symm, cur, hb, hc, hnc, hcm, hcs, htk⟩
theorem MemAt.row (h : MemAt w base g n kc m) : Row w g 0 (mems m) := by
  obtain ⟨hn, cur, hb, hc, hnc, hcm, hcs, htk⟩ := h.inv
  refine ⟨?_, ?_, (Array.getElem?_eq_some_iff.1 hc).1⟩
  · unfold Proofs.YtahljceanodhkaaGreatDoor.has; rw [hc, mems_len]; simp; omega
  · unfold gets; rw [hc, mems_len, ← hn]; simp only [List.drop_zero]; rw [htk]
theorem MemAt.lt (h : MemAt w base g n kc m) : g < w.heap.size := h.row.lt
theorem MemAt.cell (h : MemAt w base g n kc m) (k : Nat) (hk : k < m.length) : w.cell? ⟨g, k, none⟩ = some (.int .i32 m[k]) := by
  have := h.row.mem k hk
  rwa [Nat.zero_add] at this
theorem MemAt.frozen (h : MemAt w base g n kc m) (k : Nat) : w.frozen? ⟨g, k, none⟩ = false := by
  obtain ⟨hn, cur, hb, hc, _⟩ := h.inv
  simp [World.frozen?, hc]
theorem MemAt.kept {S : Nat → Prop} (h : MemAt w base g n kc m) (hk : Kept S w w') (hs : ¬ S g) : MemAt w' base g n kc m := own_kept h hk (fun x hx => by simp [Value.ownBlock] at hx; subst hx; exact hs)
theorem MemAt.ext (h : MemAt w base g n kc m) (hk : Ext w w') : MemAt w' base g n kc m := own_ext h hk
theorem MemAt.far (h : MemAt w base g n kc m) {p : Addr} (hp : ¬ g = p.block) (u : Value) : MemAt (w.setCell p u) base g n kc m :=
  h.kept (Kept.setCell (S := (· = p.block)) (Kept.refl _ w) p u (fun _ => rfl)) hp
theorem MemAt.set (h : MemAt w base g n kc m) (k : Nat) (_hk : k < m.length) (v : Int) : MemAt (w.setCell ⟨g, k, none⟩ (.int .i32 v)) base g n kc (m.set k v) := by
  obtain ⟨hn, cur, hb, hc, hnc, hcm, hcs, htk⟩ := h.inv
  refine ⟨by rw [mems_len]; simp [hn], .inr ⟨g, kc, cur.setIfInBounds k (.int .i32 v), rfl, hb, ?_, hnc, hcm, by simpa using hcs, ?_⟩⟩
  · simp [World.setCell, Array.getElem?_modify, hc]
  · rw [Nat.mul_one, Array.toList_setIfInBounds, List.take_set, htk, mems, mems, List.map_set]
end
/-- what a step leaves of a state and its words -/
structure Stepped (w w' : World) (base s g n kc : Nat) (r : Int × Int × List Int) : Prop where
  st : StAt w' s 70 r.1 (some ⟨g, 0, none⟩) n kc r.2.1
  mem : MemAt w' base g n kc r.2.2
  kept : Kept (fun i => i = s ∨ i = g) w w'
theorem Stepped.halt {w w2 : World} {base s g n kc : Nat} {m : List Int} {pc halt : Int} (hk : Kept (fun i => i = s ∨ i = g) w w2) (hs : StAt w2 s 70 pc (some ⟨g, 0, none⟩) n kc halt) (hm : MemAt w2 base g n kc m) (hsg : ¬ s = g) (halt' : Int) :
    Stepped w (w2.setCell ⟨s, 2, none⟩ (.int .i64 halt')) base s g n kc (pc, halt', m) :=
  ⟨Blk.set_ hs 2 (.int .i64 halt'), hm.far (fun e => hsg e.symm) _, Kept.setCell hk _ _ (fun _ => .inl rfl)⟩
def mget (m : List Int) (i : Int) : Int := m.getD i.toNat 0
end Go.Proofs.YtahljceanodhkaaGreatDoor

/- Package machine: step, operation by operation. -/
namespace Go.Proofs.YtahljceanodhkaaGreatDoor
open Go.RowKit
end Go.Proofs.YtahljceanodhkaaGreatDoor

/- Package machine: step, operation by operation. -/
namespace Go.Proofs.YtahljceanodhkaaGreatDoor
open Go.RowKit
end Go.Proofs.YtahljceanodhkaaGreatDoor

/- Package machine: step, operation by operation. -/
namespace Go.Proofs.YtahljceanodhkaaGreatDoor
open Go.RowKit
end Go.Proofs.YtahljceanodhkaaGreatDoor

/- Package machine: step, operation by operation. -/
namespace Go.Proofs.YtahljceanodhkaaGreatDoor
open Go.RowKit
end Go.Proofs.YtahljceanodhkaaGreatDoor

/- Package machine: step, operation by operation. -/
namespace Go.Proofs.YtahljceanodhkaaGreatDoor
open Go.RowKit
end Go.Proofs.YtahljceanodhkaaGreatDoor

/- Package machine: step, operation by operation. -/
namespace Go.Proofs.YtahljceanodhkaaGreatDoor
open Go.RowKit
end Go.Proofs.YtahljceanodhkaaGreatDoor

/- Package machine: step, operation by operation. -/
namespace Go.Proofs.YtahljceanodhkaaGreatDoor
open Go.RowKit
end Go.Proofs.YtahljceanodhkaaGreatDoor

/- Package machine: step, operation by operation. -/
namespace Go.Proofs.YtahljceanodhkaaGreatDoor
open Go.RowKit
end Go.Proofs.YtahljceanodhkaaGreatDoor

/- Package machine: step, whatever the instruction. -/
namespace Go.Proofs.YtahljceanodhkaaGreatDoor
open Go.RowKit
end Go.Proofs.YtahljceanodhkaaGreatDoor

/- Package machine: Clone, Run of one step, Step. -/
namespace Go.Proofs.YtahljceanodhkaaGreatDoor
open Go.RowKit
end Go.Proofs.YtahljceanodhkaaGreatDoor

/- Package machine: Run of one step, Step. -/
namespace Go.Proofs.YtahljceanodhkaaGreatDoor
open Go.RowKit
/-- what Run and Step ask of memory -/
structure RunPre (w : World) (A : Option Addr) (b off cn : Nat) (c : List Ins) (b' off' n : Nat) (pc halt : Int) (m : List Int) : Prop where
  ops : OpsAt w
  cA : 0 < cn → A = some ⟨b, off, none⟩
  row : 0 < cn → Row w b off (inss c)
  cn_eq : cn = c.length
  cn2 : cn ≤ 2048
  n_eq : n = m.length
  right : rightS pc halt n = true
  mok : ∀ x ∈ m, i32ok x
  mrow : Row w b' off' (mems m)
theorem RunPre.ext {w w' : World} {A : Option Addr} {b off cn : Nat} {c : List Ins} {b' off' n : Nat} {pc halt : Int} {m : List Int} (h : RunPre w A b off cn c b' off' n pc halt m) (hx : Ext w w') : RunPre w' A b off cn c b' off' n pc halt m :=
  ⟨h.ops.ext hx, h.cA, fun h0 => (h.row h0).ext hx, h.cn_eq, h.cn2, h.n_eq, h.right, h.mok, h.mrow.ext hx⟩
end Go.Proofs.YtahljceanodhkaaGreatDoor

/- Package tree: Len, has, Path. -/
namespace Go.Proofs.YtahljceanodhkaaGreatDoor
open Go.RowKit
end Go.Proofs.YtahljceanodhkaaGreatDoor

/- Package tree: Path of no leaf; with, Check, With. -/
namespace Go.Proofs.YtahljceanodhkaaGreatDoor
open Go.RowKit
end Go.Proofs.YtahljceanodhkaaGreatDoor

/- Package tree: Check, With. -/
namespace Go.Proofs.YtahljceanodhkaaGreatDoor
open Go.RowKit
/-- a path that came by value: digests in memory -/
structure PathAt (w : World) (A : Option Addr) (b off h : Nat) (path : List Dg) : Prop where
  len : h = path.length
  ok : ∀ d ∈ path, d.ok
  at_ : 0 < h → A = some ⟨b, off, none⟩
  row : 0 < h → Row w b off (digs path)
  ty : 0 < h → ∃ cur fr, w.heap[b]? = some (.cells cur 30 fr)
theorem PathAt.kept {S : Nat → Prop} {w w' : World} {A : Option Addr} {b off h : Nat} {path : List Dg} (hp : PathAt w A b off h path) (hx : Kept S w w') (hs : ∀ i, S i → ∀ cur fr, ¬ w.heap[i]? = some (.cells cur 30 fr)) : PathAt w' A b off h path := by
  have hb : 0 < h → ¬ S b := fun h0 hS => by
    obtain ⟨cur, fr, e⟩ := hp.ty h0
    exact hs b hS cur fr e
  refine ⟨hp.len, hp.ok, hp.at_, fun h0 => (hp.row h0).kept hx (hb h0), fun h0 => ?_⟩
  obtain ⟨cur, fr, e⟩ := hp.ty h0
  exact ⟨cur, fr, (hx.block b (hp.row h0).lt (hb h0)).trans e⟩
theorem PathAt.ext {w w' : World} {A : Option Addr} {b off h : Nat} {path : List Dg} (hp : PathAt w A b off h path) (hx : Ext w w') : PathAt w' A b off h path :=
  hp.kept hx (fun _ f => f.elim)
/-! ### A leaf's path leads to the root -/
end Go.Proofs.YtahljceanodhkaaGreatDoor

/- Numbers of its own; Contains, Sort; strings ranged over; package code: Reads, Writes. -/
namespace Go.Proofs.YtahljceanodhkaaGreatDoor
open Go.RowKit
/-- block k ranges over s, and is at pos -/
def IterB (w : World) (k : Nat) (s : ByteArray) (pos : Nat) : Prop := w.heap[k]? = some (.stringIter s pos)
theorem IterB.lt {w : World} {k : Nat} {s : ByteArray} {pos : Nat} (h : IterB w k s pos) : k < w.heap.size := (Array.getElem?_eq_some_iff.1 h).1
theorem IterB.kept {S : Nat → Prop} {w w' : World} {k : Nat} {s : ByteArray} {pos : Nat} (h : IterB w k s pos) (hk : Kept S w w') (hs : ¬ S k) : IterB w' k s pos := (hk.block k h.lt hs).trans h
theorem IterB.next {w : World} {k : Nat} {s : ByteArray} {pos : Nat} (h : IterB w k s pos) (hp : pos < s.size) (ha : (s[pos]'hp).toNat < 128) :
    ∃ w', (∀ ty, (Instr.next (.pointer (some ⟨k, 0, none⟩)) true ty).run Tryz.prog w = .ok (.tuple #[.bool true, .int .i64 pos, .int .i32 (s[pos]'hp).toNat]) w') ∧ IterB w' k s (pos + 1) ∧ Kept (· = k) w w' := by
  refine ⟨w.iterAt k s (pos + 1), fun ty => Lib.run_next_ascii_at w k s pos ty h hp ha, ?_, ?_⟩
  · unfold IterB World.iterAt
    simp [h.lt]
  · refine ⟨rfl, rfl, rfl, by simp [World.iterAt], fun j hj hn => ?_⟩
    unfold World.iterAt
    simp only
    rw [Array.getElem?_setIfInBounds]
    rw [if_neg (fun e => hn e.symm)]
theorem IterB.done {w : World} {k : Nat} {s : ByteArray} {pos : Nat} (h : IterB w k s pos) (hp : ¬ pos < s.size) (ty : TypeId) : (Instr.next (.pointer (some ⟨k, 0, none⟩)) true ty).run Tryz.prog w = .ok (.tuple #[.bool false]) w := Lib.run_next_end_at w k s pos ty h hp
end Go.Proofs.YtahljceanodhkaaGreatDoor

/- Package code: Reads, Writes. -/
namespace Go.Proofs.YtahljceanodhkaaGreatDoor
open Go.RowKit
/-- is a number of an instruction no word that is read by its name? -/
def skipR (i : Ins) (c : UInt8) (k : Nat) : Bool := c != 119 || (k == 0 && i.op != 17) || (k == 1 && i.op == 15)
def readsK (i : Ins) (h : List UInt8) : Nat → List Int
  | 0 => []
  | k + 1 => if skipR i (h.getD k 0) k = true ∨ (readsK i h k).contains (nth3 i k) = true then readsK i h k else readsK i h k ++ [nth3 i k]
def readsN (i : Ins) : List Int := if isOp i.op = true then readsK i (hasN i.op.toNat) (hasN i.op.toNat).length else []
end Go.Proofs.YtahljceanodhkaaGreatDoor

/- Package code: Writes. -/
namespace Go.Proofs.YtahljceanodhkaaGreatDoor
open Go.RowKit
def writesN (i : Ins) : Int := if Lib.hasPrefix (hasI i).data.toList [119] = true ∧ ¬ i.op = 16 then i.a else -1
def mplace (i : Ins) (m : List Int) : List Int := if i.op = 15 ∧ 0 ≤ farI i m ∧ (readsN i).contains (farI i m) = false then readsN i ++ [farI i m] else readsN i
def mwrites (i : Ins) (m : List Int) : Int := if i.op = 16 then farI i m else if i.op = 15 ∧ farI i m < 0 then -1 else writesN i
end Go.Proofs.YtahljceanodhkaaGreatDoor

/- Words that are shown, in memory; the closure of Make that shows them. -/
namespace Go.Proofs.YtahljceanodhkaaGreatDoor
open Go.RowKit
theorem aggWword : aggT Tryz.prog 77 = true := by kernel_rfl
theorem sizeWword : sizeT Tryz.prog 77 = some 3 := by kernel_rfl
theorem wpLoadWword {dst : Option Tmp} {ty' : TypeId} {x : Operand} {pos : String} {after : Array Edge} {guard : Option (Nat × Bool)} {a : Act} {w : World} {K : Act → World → Prop} {Q : Exit → Act → World → Prop} (hx : isAt (a.eval x) = true) (hh : has w (blkOf (a.eval x)) (offOf (a.eval x)) 3 = true) :
    Oper.wp Tryz.prog { dst := dst, op := .load 77 x, type := ty', pos := pos, after := after, guard := guard } a w K Q = K (a.put dst (.agg (gets w (blkOf (a.eval x)) (offOf (a.eval x)) 3))) w := wp_load_big 3 aggWword sizeWword hx hh
theorem runLoadWword {ρ : Operand → Value} {dst : Option Tmp} {ty' : TypeId} {x : Operand} {pos : String} {after : Array Edge} {guard : Option (Nat × Bool)} {w : World} (hx : isAt (ρ x) = true) (hh : has w (blkOf (ρ x)) (offOf (ρ x)) 3 = true) :
    (execOp ρ { dst := dst, op := .load 77 x, type := ty', pos := pos, after := after, guard := guard }).run Tryz.prog w = .ok (.value (.agg (gets w (blkOf (ρ x)) (offOf (ρ x)) 3))) w := run_exec_load_big 3 aggWword sizeWword hx hh
theorem loadVarWword (w : World) (g off : Nat) (hh : has w g off 3 = true) : (loadVar 77 ⟨g, off, none⟩).run Tryz.prog w = .ok (.agg (gets w g off 3)) w := run_loadVar_big Tryz.prog w _ g off 3 aggWword sizeWword hh
attribute [go_sem] aggWword sizeWword
attribute [go_sem ↓ high] wpLoadWword loadVarWword runLoadWword
attribute [go_sem high] wpLoadWword
/-- a word as it lies in memory, and what it says -/
structure Wd where (at_ is_ : Int) (pa : Option Addr) (pn pk : Nat)
abbrev Wd.cells (d : Wd) : Array Value := #[.int .i64 d.at_, .int .i32 d.is_, .slice d.pa d.pn d.pk]
attribute [go_sem] Wd.cells
structure Wl where (at_ is_ : Int) (path : List Dg)
def wds (l : List Wd) : List Value := l.flatMap fun d => d.cells.toList
theorem wds_length (l : List Wd) : (wds l).length = l.length * 3 := by
  induction l with
  | nil => rfl
  | cons d l ih => show (d.cells.toList ++ wds l).length = _; rw [List.length_append, ih]; simp; omega
theorem wds_at : ∀ (l : List Wd) (k : Nat) (hk : k < l.length), ((wds l).drop (k * 3)).take 3 = (l[k]).cells.toList
  | d :: l, 0, _ => by simp [wds]
  | d :: l, k + 1, hk => by
    have ih := wds_at l k (by simpa using hk)
    show ((d.cells.toList ++ wds l).drop ((k + 1) * 3)).take 3 = _
    rw [show (k + 1) * 3 = d.cells.toList.length + k * 3 by simp; omega, List.drop_append, List.drop_of_length_le (by omega)]
    simpa using ih
theorem Row.wd {w : World} {b off : Nat} {l : List Wd} (h : Row w b off (wds l)) (k : Nat) (hk : k < l.length) : Proofs.YtahljceanodhkaaGreatDoor.has w b (off + k * 3) 3 = true ∧ gets w b (off + k * 3) 3 = (l[k]).cells := by
  have := h.sub (k * 3) 3 (by rw [wds_length]; omega)
  rw [wds_at l k hk] at this
  exact this
/-- a path by value -/
def PathV (w : World) (A : Option Addr) (n : Nat) (path : List Dg) : Prop := ∃ b off, PathAt w A b off n path
theorem PathV.ext {w w' : World} {A : Option Addr} {n : Nat} {path : List Dg} (h : PathV w A n path) (hx : Ext w w') : PathV w' A n path := by
  obtain ⟨b, off, h⟩ := h
  exact ⟨b, off, h.ext hx⟩
theorem PathV.kept {S : Nat → Prop} {w w' : World} {A : Option Addr} {n : Nat} {path : List Dg} (h : PathV w A n path) (hx : Kept S w w') (hs : ∀ i, S i → ∀ cur fr, ¬ w.heap[i]? = some (.cells cur 30 fr)) : PathV w' A n path := by
  obtain ⟨b, off, h⟩ := h
  exact ⟨b, off, h.kept hx hs⟩
structure WordV (w : World) (d : Wd) (l : Wl) : Prop where
  at_ : d.at_ = l.at_
  is_ : d.is_ = l.is_
  path : PathV w d.pa d.pn l.path
theorem WordV.ext {w w' : World} {d : Wd} {l : Wl} (h : WordV w d l) (hx : Ext w w') : WordV w' d l := ⟨h.at_, h.is_, h.path.ext hx⟩
/-- words, one by one -/
inductive WordsV (w : World) : List Wd → List Wl → Prop where
  | nil : WordsV w [] []
  | cons {d : Wd} {l : Wl} {ds : List Wd} {ls : List Wl} : WordV w d l → WordsV w ds ls → WordsV w (d :: ds) (l :: ls)
theorem WordsV.ext {w w' : World} (hx : Ext w w') : ∀ {ds : List Wd} {ls : List Wl}, WordsV w ds ls → WordsV w' ds ls
  | _, _, .nil => .nil
  | _, _, .cons h r => .cons (h.ext hx) (r.ext hx)
theorem WordsV.kept {S : Nat → Prop} {w w' : World} (hx : Kept S w w') (hs : ∀ i, S i → ∀ cur fr, ¬ w.heap[i]? = some (.cells cur 30 fr)) : ∀ {ds : List Wd} {ls : List Wl}, WordsV w ds ls → WordsV w' ds ls
  | _, _, .nil => .nil
  | _, _, .cons h r => .cons ⟨h.at_, h.is_, h.path.kept hx hs⟩ (r.kept hx hs)
/-- a row's own block is of the row's type -/
theorem own_ty {w : World} {base : Nat} {E : TypeId} {sz : Nat} {v : Value} {n : Nat} {xs : List Value} (h : w.ownsRow base E sz v n xs) {i : Nat} (hi : v.ownBlock = some i) : ∃ cur, w.heap[i]? = some (.cells cur E (0, 0)) := by
  rcases h.2 with ⟨hv, _⟩ | ⟨g, c, cur, hv, _, hc, _⟩
  · rw [hv] at hi; simp [Value.ownBlock] at hi
  · rw [hv] at hi
    simp [Value.ownBlock] at hi
    subst hi
    exact ⟨cur, hc⟩
theorem own_other {w : World} {base : Nat} {E E' : TypeId} {sz : Nat} {v : Value} {n : Nat} {xs : List Value} (h : w.ownsRow base E sz v n xs) (hE : ¬ E = E') : ∀ i, v.ownBlock = some i → ∀ cur fr, ¬ w.heap[i]? = some (.cells cur E' fr) := fun i hi cur fr e => by
  obtain ⟨cur', e'⟩ := own_ty h hi
  rw [e] at e'
  injection e' with e'
  injection e' with _ e' _
  exact hE e'.symm
theorem WordsV.len {w : World} : ∀ {ds : List Wd} {ls : List Wl}, WordsV w ds ls → ds.length = ls.length
  | _, _, .nil => rfl
  | _, _, .cons _ r => by simp [r.len]
theorem WordsV.snoc {w : World} {d : Wd} {l : Wl} (h : WordV w d l) : ∀ {ds : List Wd} {ls : List Wl}, WordsV w ds ls → WordsV w (ds ++ [d]) (ls ++ [l])
  | _, _, .nil => .cons h .nil
  | _, _, .cons h' r => .cons h' (r.snoc h)
theorem WordsV.get {w : World} : ∀ {ds : List Wd} {ls : List Wl} (_ : WordsV w ds ls) (k : Nat) (h1 : k < ds.length) (h2 : k < ls.length), WordV w ds[k] ls[k]
  | _, _, .cons h _, 0, _, _ => h
  | _, _, .cons _ r, k + 1, h1, h2 => r.get k (by simpa using h1) (by simpa using h2)
theorem wds_flatL (l : List Wd) : flatL (wds l) = true := by
  induction l with
  | nil => rfl
  | cons d l ih => show flatL (d.cells.toList ++ wds l) = true; simpa [flatL, Value.oneCell'] using ih
theorem appW (w : World) (base : Nat) (v : Value) (n : Nat) (xs : List Wd) (hown : w.ownsRow base 77 3 v n (wds xs)) (b off m c : Nat) (l : List Wd) (hm : m = l.length) (hr : Row w b off (wds l)) (hn : n + m ≤ 100000) (hbase : base ≤ w.heap.size) :
    ∃ v' w', (Builtin.append_ #[43, 43] 43 #[v, .slice (some ⟨b, off, none⟩) m c]).run Tryz.prog w = .ok v' w' ∧ w'.ownsRow base 77 3 v' (n + m) (wds (xs ++ l)) ∧ Kept (fun i => v.ownBlock = some i) w w' := by
  obtain ⟨i, hi, hz, h1, h2⟩ := info_parts infoW3
  have := app_some (P := Tryz.prog) Tryz.underlying43 hi hz h1 h2 (by rfl) (by decide) w base v n (wds xs) hown b off m c (wds l) (by rw [wds_length, hm]) hr (wds_flatL l) (by unfold maxLen; omega) (by omega) hbase
  rw [show wds xs ++ wds l = wds (xs ++ l) by simp [wds]] at this
  exact this
/-- a slice of words: what it says -/
structure WordsS (w : World) (A : Option Addr) (n : Nat) (ls : List Wl) : Prop where
  len : n = ls.length
  row : ∃ b off ds, (0 < n → A = some ⟨b, off, none⟩) ∧ (0 < n → Row w b off (wds ds)) ∧ (0 < n → ∃ cur fr, w.heap[b]? = some (.cells cur 77 fr)) ∧ WordsV w ds ls
theorem WordsS.kept {S : Nat → Prop} {w w' : World} {A : Option Addr} {n : Nat} {ls : List Wl} (h : WordsS w A n ls) (hx : Kept S w w') (hs : ∀ i, S i → ∀ cur fr, ¬ w.heap[i]? = some (.cells cur 30 fr)) (hs' : ∀ i, S i → ∀ cur fr, ¬ w.heap[i]? = some (.cells cur 77 fr)) : WordsS w' A n ls := by
  obtain ⟨hl, b, off, ds, h1, h2, h3, h4⟩ := h
  have hb : 0 < n → ¬ S b := fun h0 hS => by
    obtain ⟨cur, fr, e⟩ := h3 h0
    exact hs' b hS cur fr e
  refine ⟨hl, b, off, ds, h1, fun h0 => (h2 h0).kept hx (hb h0), fun h0 => ?_, h4.kept hx hs⟩
  obtain ⟨cur, fr, e⟩ := h3 h0
  exact ⟨cur, fr, (hx.block b (h2 h0).lt (hb h0)).trans e⟩
theorem WordsS.ext {w w' : World} {A : Option Addr} {n : Nat} {ls : List Wl} (h : WordsS w A n ls) (hx : Ext w w') : WordsS w' A n ls := h.kept hx (fun _ f => f.elim) (fun _ f => f.elim)
theorem WordsS.none (w : World) : WordsS w none 0 [] := ⟨rfl, 0, 0, [], fun h => by omega, fun h => by omega, fun h => by omega, .nil⟩
theorem WordsS.of_own {w : World} {base : Nat} {v : Value} {n : Nat} {ds : List Wd} {ls : List Wl} (h : w.ownsRow base 77 3 v n (wds ds)) (hw : WordsV w ds ls) : ∃ A c, v = .slice A n c ∧ WordsS w A n ls := by
  have hl := h.1
  rw [wds_length] at hl
  have hlen := hw.len
  rcases h.2 with ⟨hv, h0⟩ | ⟨g, c, cur, hv, hb, hc, hnc, hcm, hcs, htk⟩
  · subst h0
    exact ⟨_, 0, hv, by omega, 0, 0, ds, fun h => by omega, fun h => by omega, fun h => by omega, hw⟩
  · refine ⟨_, c, hv, by omega, g, 0, ds, fun _ => rfl, fun _ => ?_, fun _ => ⟨cur, (0, 0), hc⟩, hw⟩
    have hln : (wds ds).length = n * 3 := by rw [wds_length, hl]
    refine ⟨?_, ?_, (Array.getElem?_eq_some_iff.1 hc).1⟩
    · unfold has; rw [hc, hln]; simp; omega
    · unfold gets; rw [hc, hln]; simp only [List.drop_zero]; rw [htk]
theorem PathV.of_own {w : World} {base : Nat} {v : Value} {n : Nat} {l : List Dg} (h : w.ownsRow base 30 8 v n (digs l)) (hok : ∀ d ∈ l, d.ok) : ∃ A c, v = .slice A n c ∧ PathV w A n l := by
  have hl := h.1
  rw [digs_length] at hl
  rcases h.2 with ⟨hv, h0⟩ | ⟨g, c, cur, hv, hb, hc, hnc, hcm, hcs, htk⟩
  · subst h0
    exact ⟨_, 0, hv, 0, 0, by omega, hok, fun h => by omega, fun h => by omega, fun h => by omega⟩
  · refine ⟨_, c, hv, g, 0, by omega, hok, fun _ => rfl, fun _ => ?_, fun _ => ⟨cur, (0, 0), hc⟩⟩
    have hln : (digs l).length = n * 8 := by rw [digs_length, hl]
    refine ⟨?_, ?_, (Array.getElem?_eq_some_iff.1 hc).1⟩
    · unfold has; rw [hc, hln]; simp; omega
    · unfold gets; rw [hc, hln]; simp only [List.drop_zero]; rw [htk]
end Go.Proofs.YtahljceanodhkaaGreatDoor

/- What Make says, in plain words; the places that a step reads and writes are there. -/
namespace Go.Proofs.YtahljceanodhkaaGreatDoor
open Go.RowKit
structure Sl where (pc halt words : Int) (mem : Dg) (ins : Ins) (path : List Dg) (reads writes : List Wl)
structure StepV (w : World) (s : Ws) (L : Sl) : Prop where
  pc : s.pc = L.pc
  halt : s.halt = L.halt
  words : s.words = L.words
  mem : s.mem = L.mem
  ins : s.ins = L.ins
  path : PathV w s.pa s.pn L.path
  reads : WordsS w s.ra s.rn L.reads
  writes : WordsS w s.wa s.wn L.writes
theorem StepV.ext {w w' : World} {s : Ws} {L : Sl} (h : StepV w s L) (hx : Ext w w') : StepV w' s L :=
  ⟨h.pc, h.halt, h.words, h.mem, h.ins, h.path.ext hx, h.reads.ext hx, h.writes.ext hx⟩
theorem PathV.none (w : World) : PathV w none 0 [] := ⟨0, 0, rfl, by simp, fun h => by omega, fun h => by omega, fun h => by omega⟩
end Go.Proofs.YtahljceanodhkaaGreatDoor

/- Package witness: Make. -/
namespace Go.Proofs.YtahljceanodhkaaGreatDoor
open Go.RowKit
theorem step_not {w : World} {g : Nat} {cs : Array Value} {E E' : TypeId} (h : Blk w g E cs) (hE : ¬ E = E') : ∀ cur fr, ¬ w.heap[g]? = some (.cells cur E' fr) := fun cur fr e => by
  rw [h] at e
  injection e with e
  injection e with _ e _
  exact hE e
end Go.Proofs.YtahljceanodhkaaGreatDoor

/- Make, whole. -/
namespace Go.Proofs.YtahljceanodhkaaGreatDoor
open Go.RowKit
end Go.Proofs.YtahljceanodhkaaGreatDoor

/- slices.Grow of nothing, at bytes and at words. -/
namespace Go.Proofs.YtahljceanodhkaaGreatDoor
open Go.RowKit
/-- a new row of nothing, handed back -/
def NewRow (w w' : World) (e : Ending) (E : TypeId) (sz : Nat) : Prop := ∃ v, e = .returned v ∧ w'.ownsRow w.heap.size E sz v 0 [] ∧ Ext w w'
theorem newrow_none (w : World) (E : TypeId) (sz : Nat) : NewRow w w (.returned (.slice none 0 0)) E sz := ⟨_, rfl, World.ownsRow_nil _ _ _ _, Kept.refl _ _⟩
theorem newrow_some {w : World} {E : TypeId} {sz n G : Nat} {z : Value} (hz : z.cells.size = sz) (hG : n ≤ G) (hGm : G ≤ maxLen) : NewRow w (w.drew.alloc (.cells (([] : List Value).toArray ++ Builtin.zeroCells z.cells n ++ Builtin.zeroCells z.cells (G - n)) E)) (.returned (.slice (some ⟨w.heap.size, 0, none⟩) 0 G)) E sz := by
  refine ⟨_, rfl, ⟨by simp, .inr ⟨w.heap.size, G, _, rfl, Nat.le_refl _, Blk.new w.drew E _, by omega, hGm, ?_, by simp⟩⟩, ((Kept.refl _ w).drew).alloc _⟩
  simp [Builtin.zeroCells, hz]
  rw [← Nat.add_mul]
  congr 1
  omega
set_option maxRecDepth 100000 in
set_option maxHeartbeats 1000000 in
theorem grow8_any (n : Nat) (hn : n ≤ 100000) (w : World) :
    Calls Tryz.prog 162 #[.slice none 0 0, .int .i64 n] w fun e w' => NewRow w w' e 5 1 := by
  by_cases h0 : n = 0
  · subst h0
    go_enter Tryz.func162, Tryz.ntmps162
    go_wp2_with fail
    go_ret
    exact newrow_none _ _ _
  · have hpos : 0 < n := by omega
    obtain ⟨i, hi, hz, h1, h2⟩ := info_parts infoU8
    have hap : (Builtin.append_ #[95, 3] 95 #[.slice none 0 0, .int .i64 n]).run Tryz.prog w = .ok (.slice (some ⟨w.heap.size, 0, none⟩) n (grownCap w n 0 5)) (w.drew.alloc (.cells (([] : List Value).toArray ++ Builtin.zeroCells (Value.int .u8 0).cells n ++ Builtin.zeroCells (Value.int .u8 0).cells (grownCap w n 0 5 - n)) 5)) := by
      have := Lib.run_append_grow_zeros (P := Tryz.prog) w 95 3 95 5 i (.int .u8 0) .i64 .i64 Tryz.underlying95 Tryz.underlying3 hi hz none 0 0 [] (run_firstCells_none _ _ _ _ _) n hpos (by rw [h1]; decide) (by omega) (by omega) (by rw [h2]; omega) (growslice_fits (by omega) (by rw [h2]; omega))
      simpa using this
    have hG := grownCap_ge w n 0 5
    have hGm := grownCap_le_maxLen w n 0 5 (by unfold maxLen; omega)
    obtain ⟨G, hGe⟩ : ∃ G, G = grownCap w n 0 5 := ⟨_, rfl⟩
    rw [← hGe] at hap hG hGm
    have hnew := newrow_some (w := w) (E := 5) (sz := 1) (n := n) (G := G) (z := .int .u8 0) rfl hG hGm
    generalize (w.drew.alloc (.cells (([] : List Value).toArray ++ Builtin.zeroCells (Value.int .u8 0).cells n ++ Builtin.zeroCells (Value.int .u8 0).cells (G - n)) 5)) = W1 at hap hnew
    have HN := Lib.hid hnew
    clear hnew
    have h63 : G ≤ 9223372036854775807 := by unfold maxLen at hGm; omega
    clear hGe hGm hi hz h1 h2
    go_enter Tryz.func162, Tryz.ntmps162
    go_wp2_with (at_builtin; refine Lib.wpList_append_run _ rfl _ _ _ _ rfl _ _ rfl rfl _ _ hap ?_)
    go_ret
    exact HN.out
set_option maxRecDepth 100000 in
set_option maxHeartbeats 1000000 in
theorem growW_any (n : Nat) (hn : n ≤ 100000) (w : World) :
    Calls Tryz.prog 209 #[.slice none 0 0, .int .i64 n] w fun e w' => NewRow w w' e 77 3 := by
  by_cases h0 : n = 0
  · subst h0
    go_enter Tryz.func209, Tryz.ntmps209
    go_wp2_with fail
    go_ret
    exact newrow_none _ _ _
  · have hpos : 0 < n := by omega
    obtain ⟨i, hi, hz, h1, h2⟩ := info_parts infoW3
    obtain ⟨z, hzz⟩ : ∃ z : Value, z = .agg #[.int .i64 0, .int .i32 0, .slice none 0 0] := ⟨_, rfl⟩
    rw [← hzz] at hz
    have hap : (Builtin.append_ #[43, 3] 43 #[.slice none 0 0, .int .i64 n]).run Tryz.prog w = .ok (.slice (some ⟨w.heap.size, 0, none⟩) n (grownCap w n 0 77)) (w.drew.alloc (.cells (([] : List Value).toArray ++ Builtin.zeroCells z.cells n ++ Builtin.zeroCells z.cells (grownCap w n 0 77 - n)) 77)) := by
      have := Lib.run_append_grow_zeros (P := Tryz.prog) w 43 3 43 77 i z .i64 .i64 Tryz.underlying43 Tryz.underlying3 hi hz none 0 0 [] (run_firstCells_none _ _ _ _ _) n hpos (by rw [h1]; decide) (by omega) (by omega) (by rw [h2]; omega) (growslice_fits (by omega) (by rw [h2]; omega))
      simpa using this
    have hG := grownCap_ge w n 0 77
    have hGm := grownCap_le_maxLen w n 0 77 (by unfold maxLen; omega)
    obtain ⟨G, hGe⟩ : ∃ G, G = grownCap w n 0 77 := ⟨_, rfl⟩
    rw [← hGe] at hap hG hGm
    have hnew := newrow_some (w := w) (E := 77) (sz := 3) (n := n) (G := G) (z := z) (by rw [hzz]; rfl) hG hGm
    generalize (w.drew.alloc (.cells (([] : List Value).toArray ++ Builtin.zeroCells z.cells n ++ Builtin.zeroCells z.cells (G - n)) 77)) = W1 at hap hnew
    have HN := Lib.hid hnew
    clear hnew
    have h63 : G ≤ 9223372036854775807 := by unfold maxLen at hGm; omega
    clear hGe hGm hi hz h1 h2 hzz
    go_enter Tryz.func209, Tryz.ntmps209
    go_wp2_with (at_builtin; refine Lib.wpList_append_run _ rfl _ _ _ _ rfl _ _ rfl rfl _ _ hap ?_)
    go_ret
    exact HN.out
end Go.Proofs.YtahljceanodhkaaGreatDoor

/- slices.Concat at bytes and at words (laid by concat.py). -/
namespace Go.Proofs.YtahljceanodhkaaGreatDoor
open Go.RowKit
/-- append of nothing, whatever its address -/
theorem app_zero {P : Program} {w : World} {base : Nat} {t ty e : TypeId} {i : TypeInfo} {size : Nat} (ht : P.underlying t = some (.slice e)) (hi : P.info? e = some i) {v : Value} {n : Nat} {xs : List Value} (hown : w.ownsRow base e size v n xs) (A : Option Addr) (c : Nat) :
    (Builtin.append_ #[t, t] ty #[v, .slice A 0 c]).run P w = .ok v w := by
  have hf : (Builtin.firstCells i.size 0 (.slice A 0 c)).run P w = .ok #[] w := by
    cases A with
    | none => exact run_firstCells_none _ _ _ _ _
    | some a => exact run_firstCells_some w i.size 0 a 0 c [] (by simp) (fun j v h => by simp at h)
  rcases hown.2 with ⟨rfl, rfl⟩ | ⟨g, cap, cur, rfl, _, _, hnc, _⟩
  · simp [Builtin.append_, run_underlying ht, sizeOf, typeInfo, hi, Builtin.lenOf, hf]
  · simp [Builtin.append_, run_underlying ht, sizeOf, typeInfo, hi, Builtin.lenOf, hf, hnc, storeCells]

/-- a slice handed to Concat, and what lies there -/
structure CsB where (A : Option Addr) (n c : Nat) (l : List Int)
structure CsB.At (w : World) (x : CsB) : Prop where
  len : x.n = x.l.length
  row : ∃ b off, (0 < x.n → x.A = some ⟨b, off, none⟩) ∧ (0 < x.n → Row w b off (byts x.l))
theorem CsB.At.kept {S : Nat → Prop} {w w' : World} {x : CsB} (h : x.At w) (hk : Kept S w w') (hs : ∀ i, i < w.heap.size → ¬ S i) : x.At w' := by
  obtain ⟨h1, b, off, h2, h3⟩ := h
  exact ⟨h1, b, off, h2, fun h0 => (h3 h0).kept hk (hs _ (h3 h0).lt)⟩
theorem CsB.At.ext {w w' : World} {x : CsB} (h : x.At w) (hk : Ext w w') : x.At w' := h.kept hk (fun _ _ f => f)
theorem catB_app (w : World) (base : Nat) (v : Value) (n : Nat) (xs : List Int) (hown : w.ownsRow base 5 1 v n (byts xs)) (x : CsB) (hx : x.At w) (hn : n + x.n ≤ 100000) (hbase : base ≤ w.heap.size) :
    ∃ v' w', (Builtin.append_ #[95, 95] 95 #[v, .slice x.A x.n x.c]).run Tryz.prog w = .ok v' w' ∧ w'.ownsRow base 5 1 v' (n + x.n) (byts (xs ++ x.l)) ∧ Kept (fun i => v.ownBlock = some i) w w' := by
  obtain ⟨hl, b, off, h1, h2⟩ := hx
  by_cases h0 : 0 < x.n
  · rw [h1 h0]
    exact appB w base v n xs hown b off x.n x.c x.l hl (h2 h0) hn hbase
  · have e0 : x.n = 0 := by omega
    have el : x.l = [] := List.length_eq_zero_iff.1 (by omega)
    rw [e0, el]
    obtain ⟨i, hi, _⟩ := info_parts infoU8
    exact ⟨v, w, app_zero Tryz.underlying95 hi hown x.A x.c, by simpa using hown, Kept.refl _ _⟩
def sumB (L : List CsB) (j : Nat) : Nat := ((L.take j).map (·.n)).sum
theorem sumB_succ {L : List CsB} {j : Nat} (h : j < L.length) : sumB L (j + 1) = sumB L j + (L[j]).n := by
  unfold sumB
  rw [List.take_succ_eq_append_getElem h, List.map_append, List.sum_append]
  simp only [List.map_cons, List.map_nil, List.sum_cons, List.sum_nil, Nat.add_zero]
theorem sumB_le (L : List CsB) : ∀ j, j ≤ L.length → sumB L j ≤ sumB L L.length := fun j hj => by
  unfold sumB
  rw [List.take_length]
  conv => rhs; rw [← List.take_append_drop j L]
  rw [List.map_append, List.sum_append]
  omega
def catB (L : List CsB) : List Int := L.flatMap (·.l)
theorem catB_succ {L : List CsB} {j : Nat} (h : j < L.length) : catB (L.take (j + 1)) = catB (L.take j) ++ (L[j]).l := by
  unfold catB
  rw [List.take_succ_eq_append_getElem h, List.flatMap_append]
  simp only [List.flatMap_cons, List.flatMap_nil, List.append_nil]
def valB (L : List CsB) : List Value := L.map fun x => .slice x.A x.n x.c
set_option maxRecDepth 100000 in
set_option maxHeartbeats 1000000 in
theorem concatB_any (g off N c : Nat) (L : List CsB) (w : World) (hN : N = L.length) (hNm : N ≤ 1000) (hrow : Row w g off (valB L)) (hat : ∀ x ∈ L, x.At w) (hsum : sumB L L.length ≤ 100000) :
    Calls Tryz.prog 97 #[.slice (some ⟨g, off, none⟩) N c] w fun e w' => ∃ v, e = .returned v ∧ w'.ownsRow w.heap.size 5 1 v (sumB L L.length) (byts (catB L)) ∧ Ext w w' := by
  have HN := Lib.hid hN
  have HR := Lib.hid hrow
  have HAT := Lib.hid hat
  have lg := hrow.lt
  have HC : ∀ j (hj : j < L.length), w.cell? ⟨g, off + j, none⟩ = some (.slice (L[j]).A (L[j]).n (L[j]).c) := fun j hj => by
    rw [hrow.cell j (by simpa [valB] using hj)]
    simp [valB, hj]
  have HCC := Lib.hid HC
  have HS := Lib.hid hsum
  have HM := Lib.hid (sumB_le L)
  clear hN hrow hat HC hsum
  go_enter Tryz.func97, Tryz.ntmps97
  go_wp2_with fail
  go_loopw [3, 11] (fun t3 t11 wr => ∃ (j : Nat), j ≤ N ∧ t11 = .int .i64 j ∧ t3 = .int .i64 (sumB L j : Nat) ∧ w = wr) (fun _ t11 _ => N - (intOf t11).toNat)
  case atStart => exact ⟨0, by omega, rfl, rfl, rfl⟩
  case round =>
    obtain ⟨j, hj, rfl, rfl, hw⟩ := hrel
    subst hw
    have hjl : j ≤ L.length := by have := HN.out; omega
    have hs1 : sumB L j ≤ 100000 := Nat.le_trans (HM.out j hjl) HS.out
    by_cases hlt : j < N
    · have hltI : (j : Int) < N := by omega
      have hjn : j < L.length := by have := HN.out; omega
      have hc := HCC.out j hjn
      have hsc := sumB_succ hjn
      have hs2 : sumB L (j + 1) ≤ 100000 := Nat.le_trans (HM.out (j + 1) hjn) HS.out
      obtain ⟨x, hx⟩ : ∃ x, x = L[j] := ⟨_, rfl⟩
      rw [← hx] at hc hsc
      obtain ⟨s, hs⟩ : ∃ s, s = sumB L j := ⟨_, rfl⟩
      rw [← hs] at hs1 hsc ⊢
      have HSC := Lib.hid hsc
      have hs3 : s + x.n ≤ 100000 := by omega
      clear hx hs hsc hs2
      go_wp2_with fail
      go_roundw
      case rel => exact ⟨j + 1, hlt, by go_num, by rw [HSC.out]; go_num, trivial⟩
      case measure => simp only [intOf]; omega
    · have ej : j = N := by omega
      have ej' : j = L.length := by have := HN.out; omega
      subst ej
      rw [ej'] at hs1 ⊢
      obtain ⟨s, hs⟩ : ∃ s, s = sumB L L.length := ⟨_, rfl⟩
      rw [← hs] at hs1 ⊢
      have HSe := Lib.hid hs
      clear hs
      go_wp2_with fail
      refine (grow8_any s hs1 _).mono ?_
      rintro e w1 ⟨v1, rfl, ho1, hx1⟩
      go_wp2_with fail
      go_loopw [6, 27] (fun t6 t27 w2 => ∃ (j' : Nat), j' ≤ j ∧ t27 = .int .i64 j' ∧ w2.ownsRow w.heap.size 5 1 t6 (sumB L j') (byts (catB (L.take j'))) ∧ Ext w w2) (fun _ t27 _ => j - (intOf t27).toNat)
      case atStart => exact ⟨0, by omega, rfl, by simpa [sumB, catB, byts] using ho1, hx1⟩
      case round =>
        obtain ⟨k, hk, rfl, ho, hx⟩ := hrel
        have hob : ∀ i, i < w.heap.size → (u6 : Value).ownBlock = some i → False := fun i hi e => by have := (ho.lt i e).1; omega
        have HOB := Lib.hid hob
        clear hob
        by_cases hlt : k < j
        · have hltI : (k : Int) < j := by omega
          have hkn : k < L.length := by omega
          have hc := (Kept.cell hx (p := ⟨g, off + k, none⟩) lg (fun f => f)).trans (HCC.out k hkn)
          have hs2 : sumB L (k + 1) ≤ 100000 := Nat.le_trans (HM.out (k + 1) hkn) HS.out
          have hsc := sumB_succ hkn
          have hcs := catB_succ hkn
          have hxa := (HAT.out L[k] (List.getElem_mem hkn)).ext hx
          obtain ⟨x, hxe⟩ : ∃ x, x = L[k] := ⟨_, rfl⟩
          rw [← hxe] at hc hsc hcs hxa
          obtain ⟨v3, w3, hr3, ho3, hk3⟩ := catB_app _ _ _ _ _ ho x hxa (by omega) hx.size
          rw [← hsc, ← hcs] at ho3
          have HO3 := Lib.hid ho3
          clear hsc hcs hxa hxe ho3 hs2
          go_wp2_with (at_builtin; refine Lib.wpList_append_run _ rfl _ _ _ _ rfl _ _ rfl rfl _ _ hr3 ?_)
          go_roundw
          case rel => exact ⟨k + 1, hlt, by go_num, HO3.out, hx.trans' hk3 HOB.out⟩
          case measure => simp only [intOf]; omega
        · have ek : k = L.length := by omega
          subst ek
          rw [List.take_length] at ho
          go_wp2_with fail
          go_ret
          exact ⟨_, rfl, by rw [HSe.out]; exact ho, hx⟩

/-- a slice handed to Concat, and what lies there -/
structure CsW where (A : Option Addr) (n c : Nat) (l : List Wd)
structure CsW.At (w : World) (x : CsW) : Prop where
  len : x.n = x.l.length
  row : ∃ b off, (0 < x.n → x.A = some ⟨b, off, none⟩) ∧ (0 < x.n → Row w b off (wds x.l))
theorem CsW.At.kept {S : Nat → Prop} {w w' : World} {x : CsW} (h : x.At w) (hk : Kept S w w') (hs : ∀ i, i < w.heap.size → ¬ S i) : x.At w' := by
  obtain ⟨h1, b, off, h2, h3⟩ := h
  exact ⟨h1, b, off, h2, fun h0 => (h3 h0).kept hk (hs _ (h3 h0).lt)⟩
theorem CsW.At.ext {w w' : World} {x : CsW} (h : x.At w) (hk : Ext w w') : x.At w' := h.kept hk (fun _ _ f => f)
theorem catW_app (w : World) (base : Nat) (v : Value) (n : Nat) (xs : List Wd) (hown : w.ownsRow base 77 3 v n (wds xs)) (x : CsW) (hx : x.At w) (hn : n + x.n ≤ 100000) (hbase : base ≤ w.heap.size) :
    ∃ v' w', (Builtin.append_ #[43, 43] 43 #[v, .slice x.A x.n x.c]).run Tryz.prog w = .ok v' w' ∧ w'.ownsRow base 77 3 v' (n + x.n) (wds (xs ++ x.l)) ∧ Kept (fun i => v.ownBlock = some i) w w' := by
  obtain ⟨hl, b, off, h1, h2⟩ := hx
  by_cases h0 : 0 < x.n
  · rw [h1 h0]
    exact appW w base v n xs hown b off x.n x.c x.l hl (h2 h0) hn hbase
  · have e0 : x.n = 0 := by omega
    have el : x.l = [] := List.length_eq_zero_iff.1 (by omega)
    rw [e0, el]
    obtain ⟨i, hi, _⟩ := info_parts infoW3
    exact ⟨v, w, app_zero Tryz.underlying43 hi hown x.A x.c, by simpa using hown, Kept.refl _ _⟩
def sumW (L : List CsW) (j : Nat) : Nat := ((L.take j).map (·.n)).sum
theorem sumW_succ {L : List CsW} {j : Nat} (h : j < L.length) : sumW L (j + 1) = sumW L j + (L[j]).n := by
  unfold sumW
  rw [List.take_succ_eq_append_getElem h, List.map_append, List.sum_append]
  simp only [List.map_cons, List.map_nil, List.sum_cons, List.sum_nil, Nat.add_zero]
theorem sumW_le (L : List CsW) : ∀ j, j ≤ L.length → sumW L j ≤ sumW L L.length := fun j hj => by
  unfold sumW
  rw [List.take_length]
  conv => rhs; rw [← List.take_append_drop j L]
  rw [List.map_append, List.sum_append]
  omega
def catW (L : List CsW) : List Wd := L.flatMap (·.l)
theorem catW_succ {L : List CsW} {j : Nat} (h : j < L.length) : catW (L.take (j + 1)) = catW (L.take j) ++ (L[j]).l := by
  unfold catW
  rw [List.take_succ_eq_append_getElem h, List.flatMap_append]
  simp only [List.flatMap_cons, List.flatMap_nil, List.append_nil]
def valW (L : List CsW) : List Value := L.map fun x => .slice x.A x.n x.c
set_option maxRecDepth 100000 in
set_option maxHeartbeats 1000000 in
theorem concatW_any (g off N c : Nat) (L : List CsW) (w : World) (hN : N = L.length) (hNm : N ≤ 1000) (hrow : Row w g off (valW L)) (hat : ∀ x ∈ L, x.At w) (hsum : sumW L L.length ≤ 100000) :
    Calls Tryz.prog 159 #[.slice (some ⟨g, off, none⟩) N c] w fun e w' => ∃ v, e = .returned v ∧ w'.ownsRow w.heap.size 77 3 v (sumW L L.length) (wds (catW L)) ∧ Ext w w' := by
  have HN := Lib.hid hN
  have HR := Lib.hid hrow
  have HAT := Lib.hid hat
  have lg := hrow.lt
  have HC : ∀ j (hj : j < L.length), w.cell? ⟨g, off + j, none⟩ = some (.slice (L[j]).A (L[j]).n (L[j]).c) := fun j hj => by
    rw [hrow.cell j (by simpa [valW] using hj)]
    simp [valW, hj]
  have HCC := Lib.hid HC
  have HS := Lib.hid hsum
  have HM := Lib.hid (sumW_le L)
  clear hN hrow hat HC hsum
  go_enter Tryz.func159, Tryz.ntmps159
  go_wp2_with fail
  go_loopw [3, 11] (fun t3 t11 wr => ∃ (j : Nat), j ≤ N ∧ t11 = .int .i64 j ∧ t3 = .int .i64 (sumW L j : Nat) ∧ w = wr) (fun _ t11 _ => N - (intOf t11).toNat)
  case atStart => exact ⟨0, by omega, rfl, rfl, rfl⟩
  case round =>
    obtain ⟨j, hj, rfl, rfl, hw⟩ := hrel
    subst hw
    have hjl : j ≤ L.length := by have := HN.out; omega
    have hs1 : sumW L j ≤ 100000 := Nat.le_trans (HM.out j hjl) HS.out
    by_cases hlt : j < N
    · have hltI : (j : Int) < N := by omega
      have hjn : j < L.length := by have := HN.out; omega
      have hc := HCC.out j hjn
      have hsc := sumW_succ hjn
      have hs2 : sumW L (j + 1) ≤ 100000 := Nat.le_trans (HM.out (j + 1) hjn) HS.out
      obtain ⟨x, hx⟩ : ∃ x, x = L[j] := ⟨_, rfl⟩
      rw [← hx] at hc hsc
      obtain ⟨s, hs⟩ : ∃ s, s = sumW L j := ⟨_, rfl⟩
      rw [← hs] at hs1 hsc ⊢
      have HSC := Lib.hid hsc
      have hs3 : s + x.n ≤ 100000 := by omega
      clear hx hs hsc hs2
      go_wp2_with fail
      go_roundw
      case rel => exact ⟨j + 1, hlt, by go_num, by rw [HSC.out]; go_num, trivial⟩
      case measure => simp only [intOf]; omega
    · have ej : j = N := by omega
      have ej' : j = L.length := by have := HN.out; omega
      subst ej
      rw [ej'] at hs1 ⊢
      obtain ⟨s, hs⟩ : ∃ s, s = sumW L L.length := ⟨_, rfl⟩
      rw [← hs] at hs1 ⊢
      have HSe := Lib.hid hs
      clear hs
      go_wp2_with fail
      refine (growW_any s hs1 _).mono ?_
      rintro e w1 ⟨v1, rfl, ho1, hx1⟩
      go_wp2_with fail
      go_loopw [6, 27] (fun t6 t27 w2 => ∃ (j' : Nat), j' ≤ j ∧ t27 = .int .i64 j' ∧ w2.ownsRow w.heap.size 77 3 t6 (sumW L j') (wds (catW (L.take j'))) ∧ Ext w w2) (fun _ t27 _ => j - (intOf t27).toNat)
      case atStart => exact ⟨0, by omega, rfl, by simpa [sumW, catW, wds] using ho1, hx1⟩
      case round =>
        obtain ⟨k, hk, rfl, ho, hx⟩ := hrel
        have hob : ∀ i, i < w.heap.size → (u6 : Value).ownBlock = some i → False := fun i hi e => by have := (ho.lt i e).1; omega
        have HOB := Lib.hid hob
        clear hob
        by_cases hlt : k < j
        · have hltI : (k : Int) < j := by omega
          have hkn : k < L.length := by omega
          have hc := (Kept.cell hx (p := ⟨g, off + k, none⟩) lg (fun f => f)).trans (HCC.out k hkn)
          have hs2 : sumW L (k + 1) ≤ 100000 := Nat.le_trans (HM.out (k + 1) hkn) HS.out
          have hsc := sumW_succ hkn
          have hcs := catW_succ hkn
          have hxa := (HAT.out L[k] (List.getElem_mem hkn)).ext hx
          obtain ⟨x, hxe⟩ : ∃ x, x = L[k] := ⟨_, rfl⟩
          rw [← hxe] at hc hsc hcs hxa
          obtain ⟨v3, w3, hr3, ho3, hk3⟩ := catW_app _ _ _ _ _ ho x hxa (by omega) hx.size
          rw [← hsc, ← hcs] at ho3
          have HO3 := Lib.hid ho3
          clear hsc hcs hxa hxe ho3 hs2
          go_wp2_with (at_builtin; refine Lib.wpList_append_run _ rfl _ _ _ _ rfl _ _ rfl rfl _ _ hr3 ?_)
          go_roundw
          case rel => exact ⟨k + 1, hlt, by go_num, HO3.out, hx.trans' hk3 HOB.out⟩
          case measure => simp only [intOf]; omega
        · have ek : k = L.length := by omega
          subst ek
          rw [List.take_length] at ho
          go_wp2_with fail
          go_ret
          exact ⟨_, rfl, by rw [HSe.out]; exact ho, hx⟩
end Go.Proofs.YtahljceanodhkaaGreatDoor

/- Package witness: putPath, putWords. -/
namespace Go.Proofs.YtahljceanodhkaaGreatDoor
open Go.RowKit
def numN (d : Dg) : Nat := (numD d).toNat
theorem numD_bd {d : Dg} (h : d.ok) : numD d = (numN d : Nat) ∧ numN d < 18446744073709551616 := by
  have := numK_lt h 8 (Nat.le_refl _)
  unfold numN numD
  omega
/-- the bytes of a path, of its first digests -/
def pathK (l : List Dg) : Nat → List Int | 0 => vint l.length | j + 1 => pathK l j ++ vint (numN (l.getD j Dg.zero))
def pathB (l : List Dg) : List Int := pathK l l.length
theorem pathK_len {l : List Dg} (hl : l.length ≤ 1000) (hok : ∀ d ∈ l, d.ok) : ∀ j, j ≤ l.length → (pathK l j).length ≤ 2 + 10 * j
  | 0, _ => by unfold pathK; exact vint_len 2 _ (by omega) (by omega)
  | j + 1, h => by
    have := pathK_len hl hok j (by omega)
    have hj : j < l.length := by omega
    have := vint_len 10 (numN (l.getD j Dg.zero)) (by have := (numD_bd (hok _ (List.getElem_mem hj))).2; simp [hj]; omega) (by omega)
    unfold pathK
    rw [List.length_append]
    omega
set_option maxRecDepth 100000 in
set_option maxHeartbeats 1000000 in
theorem putpath_any (A : Option Addr) (n c : Nat) (l : List Dg) (w : World) (hp : PathV w A n l) (hn : n ≤ 12) :
    Calls Tryz.prog 98 #[.slice A n c] w fun e w' => OwnsB w w' e (pathB l).length (pathB l) := by
  obtain ⟨b, off, hp⟩ := hp
  have HP := Lib.hid hp
  have hnl : n = l.length := hp.len
  have HNL := Lib.hid hnl
  clear hp hnl
  go_enter Tryz.func98, Tryz.ntmps98
  go_wp2_with fail
  refine (putnum_any w.heap.size (.slice none 0 0) 0 [] n _ w rfl (by omega) (World.ownsRow_nil _ _ _ _) (by omega)).mono ?_
  rintro e w1 ⟨v1, rfl, ho1, hx1⟩
  go_wp2_with fail
  go_loopw [3, 12] (fun t3 t12 wr => ∃ (j : Nat), j ≤ n ∧ t12 = .int .i64 j ∧ wr.ownsRow w.heap.size 5 1 t3 (pathK l j).length (byts (pathK l j)) ∧ Ext w wr) (fun _ t12 _ => n - (intOf t12).toNat)
  case atStart => exact ⟨0, by omega, rfl, by rw [pathK, ← HNL.out]; simpa using ho1, hx1⟩
  case round =>
    obtain ⟨j, hj, rfl, ho, hx⟩ := hrel
    clear ho1
    by_cases hlt : j < n
    · have hjl : j < l.length := by have := HNL.out; omega
      have hltI : (j : Int) < n := by omega
      obtain rfl := HP.out.at_ (by omega)
      have hrow := (HP.out.row (by omega)).ext hx
      obtain ⟨hrh, hrg⟩ := hrow.dig j hjl
      have hbl := hrow.lt
      have hok := HP.out.ok l[j] (List.getElem_mem hjl)
      have hln := pathK_len (l := l) (by have := HNL.out; omega) HP.out.ok j (by omega)
      have hgd : l.getD j Dg.zero = l[j] := by simp [hjl]
      obtain ⟨d, hd⟩ : ∃ d, d = l[j] := ⟨_, rfl⟩
      rw [← hd] at hrg hok hgd
      have hn2 : pathK l (j + 1) = pathK l j ++ vint (numN d) := by rw [pathK, hgd]
      have HN2 := Lib.hid hn2
      have HOK := Lib.hid hok
      have HLN := Lib.hid hln
      have ho' := ho
      have HO := Lib.hid ho'
      clear hrow hd hok hgd hn2 hln ho'
      go_wp2_with fail
      refine (num_any d HOK.out _).mono ?_
      rintro e w2 ⟨e2, hx2⟩
      rw [(numD_bd HOK.out).1] at e2
      subst e2
      go_wp2_with fail
      have x2 := (hx.alloc (.cells d.cells 30)).trans hx2
      refine (putnum_any w.heap.size u3 (pathK l j).length (pathK l j) (numN d) _ _ rfl (numD_bd HOK.out).2 (own_ext (HO.out.alloc _) hx2) (by have := HLN.out; omega)).mono ?_
      rintro e w3 ⟨v3, rfl, ho3, hx3⟩
      rw [← List.length_append, ← HN2.out] at ho3
      have ho4 := own_mono ho3 x2.size
      have HO4 := Lib.hid ho4
      clear ho3 ho4
      go_wp2_with fail
      go_roundw
      case rel => exact ⟨j + 1, hlt, by go_num, HO4.out, x2.trans hx3⟩
      case measure => simp only [intOf]; omega
    · have ej : j = l.length := by have := HNL.out; omega
      subst ej
      go_wp2_with fail
      go_ret
      exact ⟨_, rfl, ho, hx⟩
end Go.Proofs.YtahljceanodhkaaGreatDoor

/- Package witness: putWords. -/
namespace Go.Proofs.YtahljceanodhkaaGreatDoor
open Go.RowKit
def wordB (l : Wl) : List Int := vint (foldN l.at_) ++ vint (foldN l.is_) ++ pathB l.path
def wordsK (l : List Wl) : Nat → List Int | 0 => vint l.length | j + 1 => wordsK l j ++ wordB (l.getD j ⟨0, 0, []⟩)
def wordsB (l : List Wl) : List Int := wordsK l l.length
/-- a word that has bytes -/
structure Wl.ok (l : Wl) : Prop where
  at_ : i64ok l.at_
  is_ : i32ok l.is_
  path : l.path.length ≤ 12
  digs : ∀ d ∈ l.path, d.ok
theorem pathB_len {l : List Dg} (hl : l.length ≤ 12) (hok : ∀ d ∈ l, d.ok) : (pathB l).length ≤ 122 := by
  have := pathK_len (l := l) (by omega) hok l.length (Nat.le_refl _)
  unfold pathB
  omega
theorem pathB_pos (l : List Dg) : 0 < (pathB l).length := by
  have h : ∀ j, 0 < (pathK l j).length := fun j => by
    induction j with
    | zero => exact vint_pos _
    | succ j ih => unfold pathK; rw [List.length_append]; omega
  exact h _
theorem i32_64 {x : Int} (h : i32ok x) : i64ok x := by unfold i32ok at h; unfold i64ok; omega
theorem wordB_len {l : Wl} (h : l.ok) : (wordB l).length ≤ 142 := by
  have := pathB_len h.path h.digs
  have := vfold_len h.at_
  have := vfold_len (i32_64 h.is_)
  simp only [wordB, List.length_append]
  omega
theorem wordsK_len {l : List Wl} (hl : l.length ≤ 1000) (hok : ∀ d ∈ l, d.ok) : ∀ j, j ≤ l.length → (wordsK l j).length ≤ 2 + 142 * j
  | 0, _ => by unfold wordsK; exact vint_len 2 _ (by omega) (by omega)
  | j + 1, h => by
    have := wordsK_len hl hok j (by omega)
    have hj : j < l.length := by omega
    have h2 := wordB_len (hok _ (List.getElem_mem hj))
    unfold wordsK
    rw [List.length_append]
    simp [hj]
    omega
set_option maxRecDepth 100000 in
set_option maxHeartbeats 2000000 in
theorem putwords_any (A : Option Addr) (n c : Nat) (l : List Wl) (w : World) (hp : WordsS w A n l) (hn : n ≤ 4) (hok : ∀ x ∈ l, x.ok) :
    Calls Tryz.prog 99 #[.slice A n c] w fun e w' => OwnsB w w' e (wordsB l).length (wordsB l) := by
  obtain ⟨hnl, b, off, ds, h1, h2, h3, h4⟩ := hp
  have HNL := Lib.hid hnl
  have HD := Lib.hid h4.len
  have H1 := Lib.hid h1
  have H2 := Lib.hid h2
  have H4 := Lib.hid h4
  have HOK := Lib.hid hok
  clear hnl h1 h2 h3 h4 hok
  go_enter Tryz.func99, Tryz.ntmps99
  go_wp2_with fail
  refine (putnum_any w.heap.size (.slice none 0 0) 0 [] n _ w rfl (by omega) (World.ownsRow_nil _ _ _ _) (by omega)).mono ?_
  rintro e w1 ⟨v1, rfl, ho1, hx1⟩
  go_wp2_with fail
  go_loopw [3, 12] (fun t3 t12 wr => ∃ (j : Nat), j ≤ n ∧ t12 = .int .i64 j ∧ wr.ownsRow w.heap.size 5 1 t3 (wordsK l j).length (byts (wordsK l j)) ∧ Ext w wr) (fun _ t12 _ => n - (intOf t12).toNat)
  case atStart => exact ⟨0, by omega, rfl, by rw [wordsK, ← HNL.out]; simpa using ho1, hx1⟩
  case round =>
    obtain ⟨j, hj, rfl, ho, hx⟩ := hrel
    clear ho1
    by_cases hlt : j < n
    · have hjl : j < l.length := by have := HNL.out; omega
      have hjd : j < ds.length := by have := HD.out; omega
      have hltI : (j : Int) < n := by omega
      obtain rfl := H1.out (by omega)
      have hrow := (H2.out (by omega)).ext hx
      obtain ⟨hrh, hrg⟩ := hrow.wd j hjd
      have hbl := hrow.lt
      have hok := HOK.out l[j] (List.getElem_mem hjl)
      have hwv := H4.out.get j hjd hjl
      have hln := wordsK_len (l := l) (by have := HNL.out; omega) HOK.out j (by omega)
      have hgd : l.getD j ⟨0, 0, []⟩ = l[j] := by simp [hjl]
      obtain ⟨x, hxe⟩ : ∃ x, x = l[j] := ⟨_, rfl⟩
      obtain ⟨d, hde⟩ : ∃ d, d = ds[j] := ⟨_, rfl⟩
      rw [← hxe] at hok hgd hwv
      rw [← hde] at hwv hrg
      have hn2 : wordsK l (j + 1) = wordsK l j ++ (vint (foldN d.at_) ++ vint (foldN d.is_) ++ pathB x.path) := by rw [wordsK, hgd, hwv.at_, hwv.is_, wordB]
      have HN2 := Lib.hid hn2
      have HV := Lib.hid hwv
      have HXK := Lib.hid hok
      have hat := hok.at_
      have his := i32_64 hok.is_
      have hpl : d.pn ≤ 12 := by obtain ⟨_, _, hq⟩ := hwv.path; rw [hq.len]; exact hok.path
      have hv1 := vfold_len hok.at_
      have hv2 := vfold_len (i32_64 hok.is_)
      rw [← hwv.at_] at hat hv1
      rw [← hwv.is_] at his hv2
      have HB := Lib.hid (And.intro hv1 (And.intro hv2 (pathB_len hok.path hok.digs)))
      have HLN := Lib.hid hln
      have HO := Lib.hid ho
      unfold i64ok at hat his
      obtain ⟨ha1, ha2⟩ := hat
      obtain ⟨ha3, ha4⟩ := his
      have hwr : IntKind.i64.wrap d.is_ = d.is_ := by rw [IntKind.wrap_i64]; omega
      clear hrow hde hxe hok hgd hwv hn2 hv1 hv2 hln ho
      go_upto_region 5 with (fail)
      have x1 := hx.alloc (.cells d.cells 77)
      have hW := Blk.new wr 77 d.cells
      have ho5 := HO.out.alloc (.cells d.cells 77)
      have HO5 := Lib.hid ho5
      clear ho5 HO
      generalize hgW : (wr.alloc (.cells d.cells 77)) = W at x1 hW HO5 ⊢
      clear hgW hrh hrg
      refine wp_region_3 (fun w2 => Ext W w2) [(0, 2), (1, 2), (2, 1), (4, 2), (5, 1), (6, 1), (3, 0), (7, 0), (8, 2)] (by kernel_rfl) (by kernel_rfl) (by kernel_rfl) (by kernel_rfl) ?_; intro l' hl'; simp only [List.map_cons, List.map_nil, List.getD_cons_zero, List.getD_cons_succ] at hl'; subst hl'
      (repeat (first | ((apply w3_pure); (· go_simp); (· (intro w1; go_simp; try with_reducible rfl)); (intro K hK; go_simp; refine hK _ _ ?_; clear hK K)) | ((apply w3_skip); (· go_simp); (intro K hK; go_simp; refine hK _ _ ?_; clear hK K)) | ((apply w3_take); (· exact (Kept.drew (Kept.refl _ _))); (· go_simp); (· (intro w1 hS; have d1 := Blk.cell (Blk.ext hW hS); have d2 := (Blk.ext hW hS).lt;  go_simp; try with_reducible rfl)); (intro K hK; go_simp; refine hK _ _ ?_; clear hK K)) | ((apply w3_pass); (· exact (Kept.drew (Kept.refl _ _))); (· go_simp); (intro K hK; go_simp; refine hK _ _ ?_; clear hK K))))
      have yW : Ext W W.drew := (Kept.refl _ W).drew
      (refine w3_act (fun K hK => ?_); go_simp)
      go_wp2_with fail
      refine (putint_any w.heap.size u3 (wordsK l j).length (wordsK l j) d.at_ _ _ rfl ha1 ha2 (own_ext HO5.out yW) (by have := HLN.out; omega)).mono ?_
      rintro e w3 ⟨v3, rfl, ho3, hx3⟩
      have y3 : Ext W w3 := yW.trans hx3
      rw [← List.length_append] at ho3
      have HO3 := Lib.hid (own_mono ho3 (x1.trans yW).size)
      clear ho3
      refine hK.out _ _ (fun _ => y3) ?_
      clear hK K
      (repeat (first | ((apply w3_pure); (· go_simp); (· (intro w1; go_simp; try with_reducible rfl)); (intro K hK; go_simp; refine hK _ _ ?_; clear hK K)) | ((apply w3_skip); (· go_simp); (intro K hK; go_simp; refine hK _ _ ?_; clear hK K))))
      (refine w3_act (fun K hK => ?_); go_simp)
      go_wp2_with fail
      refine (putint_any w.heap.size v3 (wordsK l j ++ vint (foldN d.at_)).length (wordsK l j ++ vint (foldN d.at_)) d.is_ _ w3 rfl ha3 ha4 HO3.out (by have h1 := HLN.out; have h2 := HB.out; rw [List.length_append]; omega)).mono ?_
      rintro e w4 ⟨v4, rfl, ho4, hx4⟩
      have y4 : Ext W w4 := y3.trans hx4
      rw [← List.length_append] at ho4
      have HO4 := Lib.hid (own_mono ho4 (x1.trans y3).size)
      clear ho4
      refine hK.out _ _ (fun _ => y4) ?_
      clear hK K
      (repeat (first | ((apply w3_pure); (· go_simp); (· (intro w1; go_simp; try with_reducible rfl)); (intro K hK; go_simp; refine hK _ _ ?_; clear hK K)) | ((apply w3_skip); (· go_simp); (intro K hK; go_simp; refine hK _ _ ?_; clear hK K)) | (refine w3_end (by kernel_rfl) (fun K hK => ?_); go_simp; refine hK.out _ _ ?_; clear hK K))); refine w3_nil ?_
      have hW4 := Blk.ext hW y4
      have hc4 := Blk.cell hW4
      have lW4 := hW4.lt
      have x4 := x1.trans y4
      go_wp2_with fail
      refine (putpath_any d.pa d.pn d.pk x.path w4 (HV.out.path.ext x4) hpl).mono ?_
      rintro e w5 ⟨v5, rfl, ho5, hx5⟩
      obtain ⟨g, c5, rfl, hg, hrow5, _, _, _⟩ := own_some ho5 (pathB_pos _)
      have x5 := x4.trans hx5
      obtain ⟨v6, w6, hr6, ho6, hk6⟩ := appB w5 w.heap.size v4 _ _ (own_ext HO4.out hx5) g 0 _ c5 (pathB x.path) rfl hrow5 (by have h1 := HLN.out; have h2 := HB.out; simp only [List.length_append]; omega) x5.size
      rw [← List.length_append, List.append_assoc (wordsK l j ++ _), List.append_assoc (wordsK l j), ← List.append_assoc (vint _), ← HN2.out] at ho6
      have HO6 := Lib.hid ho6
      have hob : ∀ i, i < w.heap.size → v4.ownBlock = some i → False := fun i hi e => by have := (HO4.out.lt i e).1; omega
      have HOB := Lib.hid hob
      clear hob ho6 ho5 hrow5 hg
      go_wp2_with (at_builtin; refine Lib.wpList_append_run _ rfl _ _ _ _ rfl _ _ rfl rfl _ _ hr6 ?_)
      go_roundw
      case rel => exact ⟨j + 1, hlt, by go_num, HO6.out, x5.trans' hk6 HOB.out⟩
      case measure => simp only [intOf]; omega
    · have ej : j = l.length := by have := HNL.out; omega
      subst ej
      go_wp2_with fail
      go_ret
      exact ⟨_, rfl, ho, hx⟩
end Go.Proofs.YtahljceanodhkaaGreatDoor

/- Package witness: may. -/
namespace Go.Proofs.YtahljceanodhkaaGreatDoor
open Go.RowKit
def mayL (L : Sl) : Bool := decide (L.path.length ≤ 12) && decide (L.reads.length ≤ 3) && decide (L.writes.length ≤ 1) && (L.reads ++ L.writes).all fun x => decide (x.path.length ≤ 12)
theorem WordsV.app {w : World} {ds' : List Wd} {ls' : List Wl} (h' : WordsV w ds' ls') : ∀ {ds : List Wd} {ls : List Wl}, WordsV w ds ls → WordsV w (ds ++ ds') (ls ++ ls')
  | _, _, .nil => h'
  | _, _, .cons h r => .cons h (WordsV.app h' r)
theorem PathV.len {w : World} {A : Option Addr} {n : Nat} {l : List Dg} (h : PathV w A n l) : n = l.length := by
  obtain ⟨_, _, h⟩ := h
  exact h.len
/-- words as Concat takes them -/
theorem WordsS.cs {w : World} {A : Option Addr} {n : Nat} {ls : List Wl} (h : WordsS w A n ls) (c : Nat) : ∃ ds, CsW.At w ⟨A, n, c, ds⟩ ∧ WordsV w ds ls := by
  obtain ⟨hl, b, off, ds, h1, h2, _, h4⟩ := h
  exact ⟨ds, ⟨by rw [h4.len]; exact hl, b, off, h1, h2⟩, h4⟩
set_option maxRecDepth 100000 in
set_option maxHeartbeats 2000000 in
theorem may_any (s : Ws) (L : Sl) (w : World) (h : StepV w s L) :
    Calls Tryz.prog 92 #[.agg s.cells] w fun e w' => e = .returned (.bool (mayL L)) ∧ Ext w w' := by
  have hp := h.path.len
  have hr := h.reads.len
  have hw := h.writes.len
  have HP := Lib.hid hp
  have HRl := Lib.hid hr
  have HWl := Lib.hid hw
  have HH := Lib.hid h
  clear hp hr hw h
  have hx0 : Ext w _ := (Kept.refl _ w).alloc (.cells s.cells 45)
  by_cases c1 : 12 < s.pn
  · have c1' : (12 : Int) < s.pn := by omega
    go_enter Tryz.func92, Tryz.ntmps92
    go_wp2_with fail
    go_ret
    exact ⟨ret_bool (by have := HP.out; simp [mayL]; omega), hx0⟩
  have c1' : ¬ (12 : Int) < s.pn := by omega
  by_cases c2 : 3 < s.rn
  · have c2' : (3 : Int) < s.rn := by omega
    go_enter Tryz.func92, Tryz.ntmps92
    go_wp2_with fail
    go_ret
    exact ⟨ret_bool (by have := HRl.out; simp [mayL]; omega), hx0⟩
  have c2' : ¬ (3 : Int) < s.rn := by omega
  by_cases c3 : 1 < s.wn
  · have c3' : (1 : Int) < s.wn := by omega
    go_enter Tryz.func92, Tryz.ntmps92
    go_wp2_with fail
    go_ret
    exact ⟨ret_bool (by have := HWl.out; simp [mayL]; omega), hx0⟩
  have c3' : ¬ (1 : Int) < s.wn := by omega
  obtain ⟨d1, a1, v1⟩ := HH.out.reads.cs s.rk
  obtain ⟨d2, a2, v2⟩ := HH.out.writes.cs s.wk
  have hall : mayL L = (L.reads ++ L.writes).all fun x => decide (x.path.length ≤ 12) := by
    have h1 := HP.out
    have h2 := HRl.out
    have h3 := HWl.out
    unfold mayL
    rw [decide_eq_true (by omega), decide_eq_true (by omega), decide_eq_true (by omega)]
    rfl
  rw [hall]
  obtain ⟨ls, hls⟩ : ∃ ls, ls = L.reads ++ L.writes := ⟨_, rfl⟩
  have hv := v2.app v1
  rw [← hls] at hv ⊢
  have hxv : Ext w _ := hx0.alloc (.cells #[.slice s.ra s.rn s.rk, .slice s.wa s.wn s.wk] 43)
  have hblk := Blk.new (w.alloc (.cells s.cells 45)) 43 #[.slice s.ra s.rn s.rk, .slice s.wa s.wn s.wk]
  have hcc := concatW_any (w.heap.size + 1) 0 2 2 [⟨s.ra, s.rn, s.rk, d1⟩, ⟨s.wa, s.wn, s.wk, d2⟩] _ rfl (by omega) (by simpa [valW] using Row.of_blk hblk) (by simp; exact ⟨a1.ext hxv, a2.ext hxv⟩) (by simp [sumW]; omega)
  have hsum : sumW [⟨s.ra, s.rn, s.rk, d1⟩, ⟨s.wa, s.wn, s.wk, d2⟩] 2 = s.rn + s.wn := by simp [sumW]
  have hcat : catW [⟨s.ra, s.rn, s.rk, d1⟩, ⟨s.wa, s.wn, s.wk, d2⟩] = d1 ++ d2 := by simp [catW]
  rw [show ([⟨s.ra, s.rn, s.rk, d1⟩, ⟨s.wa, s.wn, s.wk, d2⟩] : List CsW).length = 2 from rfl, hsum, hcat] at hcc
  have HCC := Lib.hid hcc
  have HV := Lib.hid hv
  clear a1 a2 v1 v2 hblk hcc hsum hcat hv hall hls
  go_enter Tryz.func92, Tryz.ntmps92
  go_wp2_with fail
  refine HCC.out.mono ?_
  rintro e w1 ⟨v1, rfl, ho1, hx1⟩
  have x1 := hxv.trans hx1
  have hvv := HV.out.ext x1
  have hlen := hvv.len
  obtain ⟨A, c, rfl, hS⟩ := WordsS.of_own ho1 hvv
  obtain ⟨hnl, b, off, ds, h1, h2, _, h4⟩ := hS
  have hm : s.rn + s.wn ≤ 4 := by omega
  obtain ⟨n, hn⟩ : ∃ n, n = s.rn + s.wn := ⟨_, rfl⟩
  rw [← hn] at hnl h1 h2 hm ⊢
  have HN := Lib.hid hnl
  have H1 := Lib.hid h1
  have H2 := Lib.hid h2
  have H4 := Lib.hid h4
  clear hn hnl h1 h2 h4 hlen hvv ho1 HCC HV hx1 hxv hx0
  go_wp2_with fail
  go_loopw [28] (fun t28 wr => ∃ (j : Nat), j ≤ n ∧ t28 = .int .i64 j ∧ ((ls.take j).all fun x => decide (x.path.length ≤ 12)) = true ∧ Ext w1 wr) (fun t28 _ => n - (intOf t28).toNat)
  case atStart => exact ⟨0, by omega, rfl, rfl, Kept.refl _ _⟩
  case round =>
    obtain ⟨j, hj, rfl, ha, hx⟩ := hrel
    have HA := Lib.hid ha
    clear ha
    by_cases hlt : j < n
    · have hltI : (j : Int) < n := by omega
      have hjl : j < ls.length := by have := HN.out; omega
      have hjd : j < ds.length := by rw [H4.out.len]; exact hjl
      obtain rfl := H1.out (by omega)
      have hrow := (H2.out (by omega)).ext hx
      obtain ⟨hrh, hrg⟩ := hrow.wd j hjd
      have hbl := hrow.lt
      have hpl := (H4.out.get j hjd hjl).path.len
      obtain ⟨d, hde⟩ : ∃ d, d = ds[j] := ⟨_, rfl⟩
      rw [← hde] at hrg hpl
      have HPL := Lib.hid hpl
      clear hrow hde hpl
      by_cases hb : 12 < d.pn
      · have hb' : (12 : Int) < d.pn := by omega
        go_wp2_with fail
        go_ret
        refine ⟨ret_bool ?_, x1.trans (hx.alloc _)⟩
        symm
        rw [Bool.eq_false_iff]
        intro hf
        rw [List.all_eq_true] at hf
        have := hf ls[j] (List.getElem_mem hjl)
        have h9 := HPL.out
        simp at this
        omega
      · have hb' : ¬ (12 : Int) < d.pn := by omega
        go_wp2_with fail
        go_roundw
        case rel =>
          refine ⟨j + 1, hlt, by go_num, ?_, hx.alloc _⟩
          rw [List.take_succ_eq_append_getElem hjl, List.all_append, HA.out]
          have h9 := HPL.out
          simp
          omega
        case measure => simp only [intOf]; omega
    · have ej : j = ls.length := by have := HN.out; omega
      have hf := HA.out
      rw [ej, List.take_length] at hf
      have HF := Lib.hid hf
      clear hf
      go_wp2_with fail
      go_ret
      exact ⟨ret_bool HF.out.symm, x1.trans hx⟩
end Go.Proofs.YtahljceanodhkaaGreatDoor

/- Package witness: putInstr behind other bytes; Encode. -/
namespace Go.Proofs.YtahljceanodhkaaGreatDoor
open Go.RowKit
set_option maxRecDepth 100000 in
set_option maxHeartbeats 1000000 in
theorem putinstr_on (base : Nat) (v : Value) (k : Nat) (xs : List Int) (i : Ins) (hi : i.ok) (w : World) (hown : w.ownsRow base 5 1 v k (byts xs)) (hk : k ≤ 900) (hb : base ≤ w.heap.size) :
    Calls Tryz.prog 96 #[v, .agg #[.int .i64 i.op, .int .i64 i.a, .int .i64 i.b, .int .i64 i.c]] w fun e w' => ∃ v', e = .returned v' ∧ w'.ownsRow base 5 1 v' (xs ++ instrB i).length (byts (xs ++ instrB i)) ∧ Ext w w' := by
  have HI := Lib.hid hi
  have hkl : k = xs.length := by have := hown.1; rw [byts_length] at this; omega
  rw [hkl] at hown hk
  have HO0 := Lib.hid hown
  clear hi hown hkl
  have hx0 : Ext w _ := (Kept.refl _ w).alloc (.cells i.cells 41)
  go_enter Tryz.func96, Tryz.ntmps96
  go_wp2_with fail
  go_loopw [0, 16] (fun t0 t16 wr => ∃ (j : Nat), j ≤ 4 ∧ t16 = .int .i64 j ∧ wr.ownsRow base 5 1 t0 (xs ++ instrT i j).length (byts (xs ++ instrT i j)) ∧ Ext w wr) (fun _ t16 _ => 4 - (intOf t16).toNat)
  case atStart => exact ⟨0, by omega, rfl, by simpa [instrT] using HO0.out.alloc _, hx0⟩
  case round =>
    obtain ⟨j, hj, rfl, ho, hx⟩ := hrel
    have hl := instrT_len HI.out j
    by_cases hlt : j < 4
    · have hll : (xs ++ instrT i j).length ≤ 1000 := by rw [List.length_append]; omega
      have hx' := hx.size
      have key : ∀ (w1 : World) (v1 : Value), w1.ownsRow wr.heap.size 5 1 v1 ((xs ++ instrT i j).length + (vint (foldN (i.at j))).length) (byts (xs ++ instrT i j ++ vint (foldN (i.at j)))) → w1.ownsRow base 5 1 v1 (xs ++ instrT i (j + 1)).length (byts (xs ++ instrT i (j + 1))) := fun w1 v1 h => by
        have := own_mono h (Nat.le_trans hb hx')
        rw [← List.length_append, List.append_assoc] at this
        exact this
      have HP := fun k hk => (putint_any base u0 (xs ++ instrT i j).length (xs ++ instrT i j) (i.at j) k wr hk (at_ok HI.out j).1 (at_ok HI.out j).2 ho hll)
      have HK := Lib.hid key
      have HQ := Lib.hid HP
      clear key HP hl hll hx'
      have hidx := idxIns i j hlt
      go_wp2_with fail
      refine (HQ.out _ rfl).mono ?_
      rintro e w1 ⟨v1, rfl, ho1, hx1⟩
      go_wp2_with fail
      go_roundw
      case rel => exact ⟨j + 1, hlt, by go_num, HK.out _ _ ho1, hx.trans hx1⟩
      case measure => simp only [intOf]; omega
    · obtain rfl : j = 4 := by omega
      go_wp2_with fail
      go_ret
      rw [instrT_all] at ho
      exact ⟨_, rfl, ho, hx⟩
theorem wordsB_pos (l : List Wl) : 0 < (wordsB l).length := by
  have h : ∀ j, 0 < (wordsK l j).length := fun j => by
    induction j with
    | zero => exact vint_pos _
    | succ j ih => unfold wordsK; rw [List.length_append]; omega
  exact h _
def Sl.at (s : Sl) : Nat → Int | 0 => s.pc | 1 => s.halt | _ => s.words
def headK (s : Sl) : Nat → List Int | 0 => [] | j + 1 => headK s j ++ vint (foldN (s.at j))
def encB (s : Sl) : List Int := (headK s 3 ++ vint (numN s.mem)) ++ instrB s.ins ++ pathB s.path ++ wordsB s.reads ++ wordsB s.writes
/-- a step that can be written -/
structure Sl.ok (s : Sl) : Prop where
  at_ : ∀ j, i64ok (s.at j)
  mem : s.mem.ok
  ins : s.ins.ok
  digs : ∀ d ∈ s.path, d.ok
  reads : ∀ x ∈ s.reads, i64ok x.at_ ∧ i32ok x.is_ ∧ ∀ d ∈ x.path, d.ok
  writes : ∀ x ∈ s.writes, i64ok x.at_ ∧ i32ok x.is_ ∧ ∀ d ∈ x.path, d.ok
theorem headK_len {s : Sl} (h : s.ok) : ∀ j, (headK s j).length ≤ 10 * j
  | 0 => by simp [headK]
  | j + 1 => by
    have := headK_len h j
    have := vfold_len (h.at_ j)
    simp only [headK, List.length_append]
    omega
theorem mayL_inv {s : Sl} (h : mayL s = true) : s.path.length ≤ 12 ∧ s.reads.length ≤ 3 ∧ s.writes.length ≤ 1 ∧ (∀ x ∈ s.reads, x.path.length ≤ 12) ∧ (∀ x ∈ s.writes, x.path.length ≤ 12) := by
  simp [mayL] at h
  obtain ⟨⟨⟨h1, h2⟩, h3⟩, h4⟩ := h
  exact ⟨h1, h2, h3, h4.1, h4.2⟩
theorem idxH (s : Sl) (j : Nat) (hj : j < 3) (w : World) : (Instr.index 153 (.agg #[.int .i64 s.pc, .int .i64 s.halt, .int .i64 s.words]) (.int .i64 j)).run Tryz.prog w = .ok (.int .i64 (s.at j)) w := by
  rcases (by omega : j = 0 ∨ j = 1 ∨ j = 2) with rfl | rfl | rfl <;> kernel_rfl
set_option maxRecDepth 100000 in
set_option maxHeartbeats 2000000 in
theorem encode_no (s : Ws) (L : Sl) (w : World) (h : StepV w s L) (hm : mayL L = false) :
    Calls Tryz.prog 47 #[.agg s.cells] w fun e w' => e = .returned (.tuple #[.slice none 0 0, .int .i64 2]) ∧ Ext w w' := by
  have HH := Lib.hid h
  have HM := Lib.hid hm
  clear h hm
  have hx0 : Ext w _ := (Kept.refl _ w).alloc (.cells s.cells 45)
  go_enter Tryz.func47, Tryz.ntmps47
  go_wp2_with fail
  refine (may_any s L _ (HH.out.ext hx0)).mono ?_
  rintro e w1 ⟨rfl, hx1⟩
  rw [HM.out]
  go_wp2_with fail
  go_ret2
  exact ⟨rfl, hx0.trans hx1⟩
set_option maxRecDepth 100000 in
set_option maxHeartbeats 2000000 in
theorem encode_ok (s : Ws) (L : Sl) (w : World) (h : StepV w s L) (hm : mayL L = true) (hok : L.ok) :
    Calls Tryz.prog 47 #[.agg s.cells] w fun e w' => ∃ v, e = .returned (.tuple #[v, .int .i64 0]) ∧ w'.ownsRow w.heap.size 5 1 v (encB L).length (byts (encB L)) ∧ Ext w w' := by
  have HH := Lib.hid h
  have HM := Lib.hid hm
  have HOK := Lib.hid hok
  obtain ⟨m1, m2, m3, m4, m5⟩ := mayL_inv hm
  have M4 := Lib.hid m4
  have M5 := Lib.hid m5
  have e1 := h.pc
  have e2 := h.halt
  have e3 := h.words
  have e4 := h.mem
  have e5 := h.ins
  have hp := h.path.len
  have hr := h.reads.len
  have hw := h.writes.len
  obtain ⟨pc, halt, words, mem, ins, pa, pn, pk, ra, rn, rk, wa, wn, wk⟩ := s
  simp only at e1 e2 e3 e4 e5 hp hr hw
  subst e1 e2 e3 e4 e5
  have HL := Lib.hid (And.intro hp (And.intro hr hw))
  have hSm : (pathB L.path).length + (wordsB L.reads).length + (wordsB L.writes).length ≤ 10000 := by
    have q1 := pathB_len m1 hok.digs
    have q2 := wordsK_len (l := L.reads) (by omega) (fun x hx => ⟨(hok.reads x hx).1, (hok.reads x hx).2.1, m4 x hx, (hok.reads x hx).2.2⟩) L.reads.length (Nat.le_refl _)
    have q3 := wordsK_len (l := L.writes) (by omega) (fun x hx => ⟨(hok.writes x hx).1, (hok.writes x hx).2.1, m5 x hx, (hok.writes x hx).2.2⟩) L.writes.length (Nat.le_refl _)
    unfold wordsB
    omega
  have HSm := Lib.hid hSm
  have n1 : pn ≤ 12 := by omega
  have n2 : rn ≤ 4 := by omega
  have n3 : wn ≤ 4 := by omega
  clear h hm hok m1 m2 m3 m4 m5 hp hr hw hSm
  have hx0 : Ext w _ := (Kept.refl _ w).alloc (.cells (Ws.cells ⟨L.pc, L.halt, L.words, L.mem, L.ins, pa, pn, pk, ra, rn, rk, wa, wn, wk⟩) 45)
  have hB0 := Blk.new w 45 (Ws.cells ⟨L.pc, L.halt, L.words, L.mem, L.ins, pa, pn, pk, ra, rn, rk, wa, wn, wk⟩)
  go_enter Tryz.func47, Tryz.ntmps47
  go_wp2_with fail
  refine (may_any _ L _ (HH.out.ext hx0)).mono ?_
  rintro e w1 ⟨rfl, hx1⟩
  rw [HM.out]
  have hB1 := Blk.ext hB0 hx1
  have x1 := hx0.trans hx1
  have hc1 := Blk.cell hB1
  have lB1 := hB1.lt
  clear hB0 hx0 hx1
  go_wp2_with fail
  go_loopw [4, 17] (fun t4 t17 wr => ∃ (j : Nat), j ≤ 3 ∧ t17 = .int .i64 j ∧ wr.ownsRow w.heap.size 5 1 t4 (headK L j).length (byts (headK L j)) ∧ Ext w1 wr) (fun _ t17 _ => 3 - (intOf t17).toNat)
  case atStart => exact ⟨0, by omega, rfl, World.ownsRow_nil _ _ _ _, Kept.refl _ _⟩
  case round =>
    obtain ⟨j, hj, rfl, ho, hx⟩ := hrel
    have hl := headK_len HOK.out j
    have HO := Lib.hid ho
    have HLn := Lib.hid hl
    clear ho hl
    by_cases hlt : j < 3
    · have hidx := idxH L j hlt
      have hsz := (x1.trans hx).size
      have HSZ := Lib.hid hsz
      clear hsz
      go_wp2_with fail
      refine (putint_any w.heap.size u4 (headK L j).length (headK L j) (L.at j) _ wr rfl (HOK.out.at_ j).1 (HOK.out.at_ j).2 HO.out (by have := HLn.out; omega)).mono ?_
      rintro e w2 ⟨v2, rfl, ho2, hx2⟩
      rw [← List.length_append] at ho2
      have HO2 := Lib.hid (own_mono ho2 HSZ.out)
      clear ho2
      go_wp2_with fail
      go_roundw
      case rel => exact ⟨j + 1, hlt, by go_num, HO2.out, hx.trans hx2⟩
      case measure => simp only [intOf]; omega
    · obtain rfl : j = 3 := by omega
      have x2 := x1.trans hx
      have hB2 := Blk.ext hB1 hx
      have hh2 := Blk.has hB2
      have hg2 := Blk.gets hB2
      have lB2 := hB2.lt
      clear hc1
      go_wp2_with fail
      refine (num_any L.mem HOK.out.mem _).mono ?_
      rintro e w3 ⟨e3, hx3⟩
      rw [(numD_bd HOK.out.mem).1] at e3
      subst e3
      have x3 := x2.trans hx3
      go_wp2_with fail
      refine (putnum_any w.heap.size u4 _ (headK L 3) (numN L.mem) _ w3 rfl (numD_bd HOK.out.mem).2 (own_ext HO.out hx3) (by have := HLn.out; omega)).mono ?_
      rintro e w4 ⟨v4, rfl, ho4, hx4⟩
      rw [← List.length_append] at ho4
      have HO4 := Lib.hid (own_mono ho4 x3.size)
      have x4 := x3.trans hx4
      have hB4 := Blk.ext hB2 (hx3.trans hx4)
      have hh4 := Blk.has hB4
      have hg4 := Blk.gets hB4
      have lB4 := hB4.lt
      have hv := vint_len 10 (numN L.mem) (by have := (numD_bd HOK.out.mem).2; omega) (by omega)
      have HV := Lib.hid hv
      clear ho4 hh2 hg2 hv
      go_wp2_with fail
      refine (putinstr_on w.heap.size v4 _ _ L.ins HOK.out.ins w4 HO4.out (by have := HLn.out; have := HV.out; rw [List.length_append]; omega) x4.size).mono ?_
      rintro e w5 ⟨v5, rfl, ho5, hx5⟩
      have hp5 : 0 < (headK L 3 ++ vint (numN L.mem) ++ instrB L.ins).length := by rw [List.length_append]; have := (instrB_len HOK.out.ins).1; omega
      have hl5 : (headK L 3 ++ vint (numN L.mem) ++ instrB L.ins).length ≤ 200 := by have := (instrB_len HOK.out.ins).2; have := HLn.out; have := HV.out; simp only [List.length_append]; omega
      obtain ⟨l5, he5⟩ : ∃ l5, l5 = headK L 3 ++ vint (numN L.mem) ++ instrB L.ins := ⟨_, rfl⟩
      rw [← he5] at hp5 hl5 ho5
      have HE5 := Lib.hid he5
      have HL5 := Lib.hid hl5
      clear he5 hl5
      obtain ⟨g5, c5, rfl, hg5, hrow5, _, _, _⟩ := own_some ho5 hp5
      have HR5 := Lib.hid hrow5
      clear hrow5 hg5
      have x5 := x4.trans hx5
      have hB5 := Blk.ext hB4 hx5
      clear ho5 hh4 hg4 hB4 hB2 hB1
      go_upto_region 11 with (fail)
      refine wp_region_3 (fun w2 => Ext w5 w2) [(0, 2), (1, 2), (2, 1), (4, 2), (5, 1), (7, 2), (8, 1), (3, 0), (6, 0), (9, 0), (10, 0), (11, 0), (12, 2), (13, 2)] (by kernel_rfl) (by kernel_rfl) (by kernel_rfl) (by kernel_rfl) ?_; intro l' hl'; simp only [List.map_cons, List.map_nil, List.getD_cons_zero, List.getD_cons_succ] at hl'; subst hl'
      (repeat (first | ((apply w3_pure); (· go_simp); (· (intro w1; go_simp; try with_reducible rfl)); (intro K hK; go_simp; refine hK _ _ ?_; clear hK K)) | ((apply w3_skip); (· go_simp); (intro K hK; go_simp; refine hK _ _ ?_; clear hK K)) | ((apply w3_take); (· exact (Kept.drew (Kept.refl _ _))); (· go_simp); (· (intro w1 hS; have d1 := Blk.cell (Blk.ext hB5 hS); have d2 := (Blk.ext hB5 hS).lt;  go_simp; try with_reducible rfl)); (intro K hK; go_simp; refine hK _ _ ?_; clear hK K)) | ((apply w3_pass); (· exact (Kept.drew (Kept.refl _ _))); (· go_simp); (intro K hK; go_simp; refine hK _ _ ?_; clear hK K))))
      (refine w3_act (fun K hK => ?_); go_simp)
      go_wp2_with fail
      have yW : Ext w5 w5.drew := (Kept.refl _ w5).drew
      refine (putpath_any pa pn pk L.path _ (HH.out.path.ext (x5.trans yW)) n1).mono ?_
      rintro e w6 ⟨v6, rfl, ho6, hx6⟩
      obtain ⟨g6, c6, rfl, hg6, hrow6, _, _, _⟩ := own_some ho6 (pathB_pos _)
      have HR6 := Lib.hid hrow6
      have y6 : Ext w5 w6 := yW.trans hx6
      clear ho6 hrow6 hg6
      refine hK.out _ _ (fun _ => y6) ?_
      clear hK K
      (repeat (first | ((apply w3_pure); (· go_simp); (· (intro w1; go_simp; try with_reducible rfl)); (intro K hK; go_simp; refine hK _ _ ?_; clear hK K)) | ((apply w3_skip); (· go_simp); (intro K hK; go_simp; refine hK _ _ ?_; clear hK K))))
      (refine w3_act (fun K hK => ?_); go_simp)
      go_wp2_with fail
      refine (putwords_any ra rn rk L.reads _ (HH.out.reads.ext (x5.trans y6)) n2 (fun x hx => ⟨(HOK.out.reads x hx).1, (HOK.out.reads x hx).2.1, M4.out x hx, (HOK.out.reads x hx).2.2⟩)).mono ?_
      rintro e w7 ⟨v7, rfl, ho7, hx7⟩
      obtain ⟨g7, c7, rfl, hg7, hrow7, _, _, _⟩ := own_some ho7 (wordsB_pos _)
      have HR7 := Lib.hid hrow7
      have y7 : Ext w5 w7 := y6.trans hx7
      clear ho7 hrow7 hg7
      refine hK.out _ _ (fun _ => y7) ?_
      clear hK K
      (repeat (first | ((apply w3_pure); (· go_simp); (· (intro w1; go_simp; try with_reducible rfl)); (intro K hK; go_simp; refine hK _ _ ?_; clear hK K)) | ((apply w3_skip); (· go_simp); (intro K hK; go_simp; refine hK _ _ ?_; clear hK K))))
      (refine w3_act (fun K hK => ?_); go_simp)
      go_wp2_with fail
      refine (putwords_any wa wn wk L.writes _ (HH.out.writes.ext (x5.trans y7)) n3 (fun x hx => ⟨(HOK.out.writes x hx).1, (HOK.out.writes x hx).2.1, M5.out x hx, (HOK.out.writes x hx).2.2⟩)).mono ?_
      rintro e w8 ⟨v8, rfl, ho8, hx8⟩
      obtain ⟨g8, c8, rfl, hg8, hrow8, _, _, _⟩ := own_some ho8 (wordsB_pos _)
      have HR8 := Lib.hid hrow8
      have y8 : Ext w5 w8 := y7.trans hx8
      clear ho8 hrow8 hg8
      refine hK.out _ _ (fun _ => y8) ?_
      clear hK K
      (repeat (first | ((apply w3_pure); (· go_simp); (· (intro w1; go_simp; try with_reducible rfl)); (intro K hK; go_simp; refine hK _ _ ?_; clear hK K)) | ((apply w3_skip); (· go_simp); (intro K hK; go_simp; refine hK _ _ ?_; clear hK K))))
      (refine w3_act (fun K hK => ?_); go_simp)
      have yA := y8.alloc (.cells #[.slice (some ⟨g5, 0, none⟩) l5.length c5, .slice (some ⟨g6, 0, none⟩) (pathB L.path).length c6, .slice (some ⟨g7, 0, none⟩) (wordsB L.reads).length c7, .slice (some ⟨g8, 0, none⟩) (wordsB L.writes).length c8] 95)
      have hN8 := Blk.new w8 95 #[.slice (some ⟨g5, 0, none⟩) l5.length c5, .slice (some ⟨g6, 0, none⟩) (pathB L.path).length c6, .slice (some ⟨g7, 0, none⟩) (wordsB L.reads).length c7, .slice (some ⟨g8, 0, none⟩) (wordsB L.writes).length c8]
      refine hK.out _ _ (fun _ => yA) ?_
      clear hK K
      have hzA : Ext w8 _ := (Kept.refl _ w8).alloc (.cells #[.slice (some ⟨g5, 0, none⟩) l5.length c5, .slice (some ⟨g6, 0, none⟩) (pathB L.path).length c6, .slice (some ⟨g7, 0, none⟩) (wordsB L.reads).length c7, .slice (some ⟨g8, 0, none⟩) (wordsB L.writes).length c8] 95)
      have hcc := concatB_any w8.heap.size 0 4 4 [⟨some ⟨g5, 0, none⟩, l5.length, c5, l5⟩, ⟨some ⟨g6, 0, none⟩, (pathB L.path).length, c6, pathB L.path⟩, ⟨some ⟨g7, 0, none⟩, (wordsB L.reads).length, c7, wordsB L.reads⟩, ⟨some ⟨g8, 0, none⟩, (wordsB L.writes).length, c8, wordsB L.writes⟩] _ rfl (by omega) (by simpa [valB] using Row.of_blk hN8)
        (by
          simp
          exact ⟨⟨rfl, g5, 0, fun _ => rfl, fun _ => HR5.out.ext yA⟩, ⟨rfl, g6, 0, fun _ => rfl, fun _ => HR6.out.ext ((hx7.trans hx8).trans hzA)⟩, ⟨rfl, g7, 0, fun _ => rfl, fun _ => HR7.out.ext (hx8.trans hzA)⟩, ⟨rfl, g8, 0, fun _ => rfl, fun _ => HR8.out.ext hzA⟩⟩)
        (by
          have q1 := HL5.out
          have q2 := HSm.out
          simp [sumB]
          omega)
      have HCC := Lib.hid hcc
      clear hcc hN8
      (repeat (first | ((apply w3_pure); (· go_simp); (· (intro w1; go_simp; try with_reducible rfl)); (intro K hK; go_simp; refine hK _ _ ?_; clear hK K)) | ((apply w3_skip); (· go_simp); (intro K hK; go_simp; refine hK _ _ ?_; clear hK K))))
      (refine w3_act (fun K hK => ?_); go_simp)
      go_wp2_with fail
      refine HCC.out.mono ?_
      rintro e w9 ⟨v9, rfl, ho9, hx9⟩
      have y9 := yA.trans hx9
      refine hK.out _ _ (fun _ => y9) ?_
      clear hK K
      have hcat : catB [⟨some ⟨g5, 0, none⟩, l5.length, c5, l5⟩, ⟨some ⟨g6, 0, none⟩, (pathB L.path).length, c6, pathB L.path⟩, ⟨some ⟨g7, 0, none⟩, (wordsB L.reads).length, c7, wordsB L.reads⟩, ⟨some ⟨g8, 0, none⟩, (wordsB L.writes).length, c8, wordsB L.writes⟩] = encB L := by
        simp [catB, encB, HE5.out]
      have hl9 := ho9.1
      rw [hcat] at ho9 hl9
      rw [byts_length, Nat.mul_one] at hl9
      rw [← hl9] at ho9
      have HO9 := Lib.hid (own_mono ho9 (x5.trans yA).size)
      clear ho9 hl9 hcat
      (repeat (first | ((apply w3_pure); (· go_simp); (· (intro w1; go_simp; try with_reducible rfl)); (intro K hK; go_simp; refine hK _ _ ?_; clear hK K)) | ((apply w3_skip); (· go_simp); (intro K hK; go_simp; refine hK _ _ ?_; clear hK K)) | (refine w3_end (by kernel_rfl) (fun K hK => ?_); go_simp; refine hK.out _ _ ?_; clear hK K))); refine w3_nil ?_
      go_wp2_with fail
      go_ret2
      exact ⟨_, rfl, HO9.out, x5.trans y9⟩
end Go.Proofs.YtahljceanodhkaaGreatDoor
