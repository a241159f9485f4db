/- Several texts joined: Uh, Ui, Uj, Uo. -/
import Derived.ChangeMaps5
import Derived.Test.YtfamkemdgbnegaaDoorSdm
/- Sorts: the law's own functions: a part with a statement ahead of it. -/
namespace Go.Proofs.YtfamkemdgbnegaaDoor
open Go.RowKit So
theorem EFAt.in_ {w : World} {N : Nat} : ∀ {F : EF} {b off : Nat}, EFAt w N F b off → EFIn w (· < N) F b off
  | .nil, _, _, _ => trivial
  | .cons _ _ _ _ _, b, off, h => by
    obtain ⟨hb, h1, h2, h3, ⟨A, cap, b', off', hh, hg, hl, hA, hk'⟩, hr⟩ := h
    exact ⟨hb, h1, h2, h3, ⟨A, cap, b', off', hh, hg, hl, hA, hk'.in_⟩, hr.in_⟩
theorem SFAt.in_ {w : World} {N : Nat} : ∀ {F : SF} {b off : Nat}, SFAt w N F b off → SFIn w (· < N) F b off
  | .nil, _, _, _ => trivial
  | .cons _ _ _ _ _ _ _ _, b, off, h => by
    obtain ⟨hb, h1, h2, h3, h4, ⟨eA, ec, lA, lc, xA, xc, be, oe, bl, ol, bx, ox, hh, hg, n1, n2, n3, a1, a2, a3, he, hl, hx⟩, hr⟩ := h
    exact ⟨hb, h1, h2, h3, h4, ⟨eA, ec, lA, lc, xA, xc, be, oe, bl, ol, bx, ox, hh, hg, n1, n2, n3, a1, a2, a3, he.in_, hl.in_, hx.in_⟩, hr.in_⟩
theorem row_glue {w : World} {b off k : Nat} {cs : Array Value} {r : List Value} (hs : cs.size = k) (hk : 0 < k) (hh : Proofs.YtfamkemdgbnegaaDoor.has w b off k = true) (hg : gets w b off k = cs) (hr : 0 < r.length → Row w b (off + k) r) : Row w b off (cs.toList ++ r) := by
  refine row_of_cells _ (by rw [List.length_append]; simp; omega) (fun j hj => ?_)
  by_cases h : j < k
  · rw [List.getElem?_append_left (by simpa [hs] using h), Array.getElem?_toList]
    exact cell_gets hh hg j h
  · rw [List.length_append] at hj
    have hl : cs.toList.length = k := by simpa using hs
    rw [List.getElem?_append_right (by omega), hl]
    have := (hr (by omega)).cell (j - k) (by omega)
    rw [← this]
    congr 2
    omega
theorem scs_open {w : World} {N : Nat} : ∀ {F : SF} {b off : Nat}, SFAt w N F b off → ∃ l : List Sc, ScsIn w (· < N) l F ∧ (0 < l.length → Row w b off (rowsL Sc.cells l))
  | .nil, _, _, _ => ⟨[], trivial, fun h => absurd h (by simp)⟩
  | .cons kind name e low high l x r, b, off, h => by
    obtain ⟨hb, h1, h2, h3, h4, ⟨eA, ec, lA, lc, xA, xc, be, oe, bl, ol, bx, ox, hh, hg, n1, n2, n3, a1, a2, a3, he, hl, hx⟩, hr⟩ := h
    obtain ⟨t, ht, hrow⟩ := scs_open hr
    refine ⟨⟨kind, name, eA, e.len, ec, low, high, lA, l.len, lc, xA, x.len, xc⟩ :: t, ⟨⟨rfl, rfl, rfl, rfl, h1, h2, h3, h4, ⟨rfl, n1, be, oe, a1, he.in_⟩, ⟨rfl, n2, bl, ol, a2, hl.in_⟩, ⟨rfl, n3, bx, ox, a3, hx.in_⟩⟩, ht⟩, fun _ => ?_⟩
    exact row_glue (k := 7) (r := rowsL Sc.cells t) rfl (by omega) hh hg (fun h0 => hrow (by
      rw [rowsL_len (k := 7) (fun _ => rfl)] at h0
      omega))
/-- room for so many more statements in each part -/
def Roomy (c : Pc) (k : Nat) : Prop := ∀ i, (slP c i).n * 112 + k * 112 ≤ 140737488355328
theorem Roomy.le {c : Pc} {k k' : Nat} (h : Roomy c k) (hk : k' ≤ k) : Roomy c k' := fun i => by have := h i; omega
set_option maxRecDepth 100000 in
/-- a statement put ahead of a list: the memory's side -/
theorem app_ahead {w : World} {N : Nat} (hN : N ≤ w.heap.size) (base bb : Nat) (A : Option Addr) (n cap : Nat) (F : SF) (hF : SSl w N A n F) (hA : A = none → cap = 0) (s : Sc) (kind : Int) (name : Str) (e : EF) (low high : Int) (l x : SF) (hs : ScIn w (· < N) s kind name e low high l x)
    (hB : Blk w bb 34 s.cells) (hb0 : base ≤ bb) (hNb : N ≤ bb) (hr : (n + 1) * 112 ≤ 140737488355328) :
    ∃ g c' w', (Builtin.append_ #[24, 24] 24 #[.slice (some ⟨bb, 0, none⟩) 1 1, .slice A n cap]).run Tryd.prog w = .ok (.slice (some ⟨g, 0, none⟩) (n + 1) c') w' ∧ SsIn w' (fun i => i < N ∨ i = g) (some ⟨g, 0, none⟩) (n + 1) (.cons kind name e low high l x F) ∧ Kept (· = bb) w w' ∧ n + 1 ≤ c' ∧ base ≤ g ∧ g < w'.heap.size := by
  obtain ⟨hn, hf, b, off, hAb, hE⟩ := hF
  obtain ⟨t, ht, hrow⟩ := scs_open hE
  have htl := ht.len
  have own : w.ownsRow base 34 7 (.slice (some ⟨bb, 0, none⟩) 1 1) 1 (rowsL Sc.cells [s]) := ⟨by simp [rowsL], .inr ⟨bb, 1, s.cells, rfl, hb0, hB, by omega, by unfold maxLen; omega, by simp, by simp [rowsL]⟩⟩
  obtain ⟨v', w', hrun, ho, hk, hnew⟩ := appA (f := Sc.cells) elemStmtR (fun _ => rfl) (fun _ => rfl) w base (.slice (some ⟨bb, 0, none⟩) 1 1) 1 [s] own A n cap t (by omega) hA (fun h0 => ⟨b, off, hAb h0, hrow (by omega)⟩) (by omega) (by have := hB.lt; omega)
  obtain ⟨g, c', rfl, hr', hg, -⟩ := own_rows ho (by omega) (by omega)
  have hk' : Kept (· = bb) w w' := hk.mono (fun i _ h => by
    have : some bb = some i := h
    injection this with e
    exact e.symm)
  have hD : ∀ i, i < N → i < w.heap.size ∧ ¬ i = bb := fun i hi => ⟨by omega, by omega⟩
  have hcap : 1 + n ≤ c' := by
    rcases ho.2 with ⟨hv, _⟩ | ⟨g2, c2, cur, hv, hb2, hc2, hnc, -⟩
    · injection hv with q1
      cases q1
    · injection hv with q1 q2 q3
      omega
  rw [Nat.add_comm 1 n] at hrun hcap
  have hin : ScsIn w' (fun i => i < N ∨ i = g) (s :: t) (.cons kind name e low high l x F) := ⟨(hs.kept hk' hD).mono (fun i hi => .inl hi), (ht.kept hk' hD).mono (fun i hi => .inl hi)⟩
  exact ⟨g, c', w', hrun, ⟨by simp [SF.len]; omega, by unfold Fits; omega, g, 0, fun _ => rfl, hin.shut (b := g) (.inr rfl) (fun _ => hr')⟩, hk', hcap, hg, hr'.lt⟩
end Go.Proofs.YtfamkemdgbnegaaDoor

/- Sorts: the law's own functions: a part with a statement ahead of it; is there room. -/
namespace Go.Proofs.YtfamkemdgbnegaaDoor
open Go.RowKit So
abbrev zeroC : Pc := ⟨⟨#[]⟩, 0, ⟨none, 0, 0⟩, ⟨none, 0, 0⟩, ⟨none, 0, 0⟩, ⟨none, 0, 0⟩, ⟨none, 0, 0⟩, ⟨none, 0, 0⟩, ⟨#[]⟩, ⟨none, 0, 0⟩, ⟨none, 0, 0⟩⟩
theorem Roomy.set {c c' : Pc} {k : Nat} (h : Roomy c (k + 1)) (hc : ∀ j, (slP c' j).n ≤ (slP c j).n + 1) : Roomy c' k := fun j => by
  have := h j
  have := hc j
  omega
theorem ESl.in_ {w : World} {N : Nat} {A : Option Addr} {n : Nat} {F : EF} (h : ESl w N A n F) : EsIn w (· < N) A n F := by
  obtain ⟨h1, h2, b, off, h3, h4⟩ := h
  exact ⟨h1, h2, b, off, h3, h4.in_⟩
theorem SSl.in_ {w : World} {N : Nat} {A : Option Addr} {n : Nat} {F : SF} (h : SSl w N A n F) : SsIn w (· < N) A n F := by
  obtain ⟨h1, h2, b, off, h3, h4⟩ := h
  exact ⟨h1, h2, b, off, h3, h4.in_⟩
set_option maxRecDepth 100000 in
set_option maxHeartbeats 2000000 in
theorem part_any (c : Pc) (p : Pr) (i : Nat) (hi : i < 5) (k N : Nat) (w : World) (hN : N ≤ w.heap.size) (h : PAt w N c p) (hcap : Caps c) (hroom : Roomy c (k + 1)) (kind : Int) (name : Str) (e : EF) (low high : Int) (l x : SF) (eA : Option Addr) (ec : Nat) (lA : Option Addr) (lc : Nat) (xA : Option Addr) (xc : Nat)
    (h1 : i64ok kind) (h2 : i64ok low) (h3 : i64ok high) (h4 : name.size ≤ maxLen) (he : ESl w N eA e.len e) (hl : SSl w N lA l.len l) (hx : SSl w N xA x.len x) :
    Calls Tryd.prog 14 #[.agg c.cells, .int .i64 (i : Int), .agg (scells kind name eA e.len ec low high lA l.len lc xA x.len xc)] w fun e2 w' => ∃ c', e2 = .returned (.agg c'.cells) ∧ (∀ (S : Nat → Prop) (w3 : World), Kept S w' w3 → (∀ i, S i → (N ≤ i ∧ i < w.heap.size) ∨ w'.heap.size ≤ i) → PAt w3 w3.heap.size c' (So.part p i ⟨kind, name, e, low, high, l, x⟩)) ∧ Caps c' ∧ Roomy c' k ∧ Ext w w' := by
  have hs : ScIn w (· < N) ⟨kind, name, eA, e.len, ec, low, high, lA, l.len, lc, xA, x.len, xc⟩ kind name e low high l x := ⟨rfl, rfl, rfl, rfl, h1, h2, h3, h4, he.in_, hl.in_, hx.in_⟩
  clear h1 h2 h3 h4 he hl hx
  obtain ⟨cn, cse, ⟨kA, kn, kc⟩, ⟨vA, vn, vc⟩, ⟨A0, n0, c0⟩, ⟨A1, n1, c1⟩, ⟨pA, pn, pc⟩, ⟨A2, n2, c2⟩, csi, ⟨A3, n3, c3⟩, ⟨A4, n4, c4⟩⟩ := c
  have hx : Ext w ((((w.alloc (.cells (Pc.cells (⟨cn, cse, ⟨kA, kn, kc⟩, ⟨vA, vn, vc⟩, ⟨A0, n0, c0⟩, ⟨A1, n1, c1⟩, ⟨pA, pn, pc⟩, ⟨A2, n2, c2⟩, csi, ⟨A3, n3, c3⟩, ⟨A4, n4, c4⟩⟩ : Pc)) 26)).alloc (.cells (scells kind name eA e.len ec low high lA l.len lc xA x.len xc) 34)).alloc (.cells (Pc.cells zeroC) 26)).alloc (.cells (scells kind name eA e.len ec low high lA l.len lc xA x.len xc) 34)) := ((((Kept.refl (fun _ => False) w).alloc _).alloc _).alloc _).alloc _
  have hP : Blk ((((w.alloc (.cells (Pc.cells (⟨cn, cse, ⟨kA, kn, kc⟩, ⟨vA, vn, vc⟩, ⟨A0, n0, c0⟩, ⟨A1, n1, c1⟩, ⟨pA, pn, pc⟩, ⟨A2, n2, c2⟩, csi, ⟨A3, n3, c3⟩, ⟨A4, n4, c4⟩⟩ : Pc)) 26)).alloc (.cells (scells kind name eA e.len ec low high lA l.len lc xA x.len xc) 34)).alloc (.cells (Pc.cells zeroC) 26)).alloc (.cells (scells kind name eA e.len ec low high lA l.len lc xA x.len xc) 34)) w.heap.size 26 (Pc.cells (⟨cn, cse, ⟨kA, kn, kc⟩, ⟨vA, vn, vc⟩, ⟨A0, n0, c0⟩, ⟨A1, n1, c1⟩, ⟨pA, pn, pc⟩, ⟨A2, n2, c2⟩, csi, ⟨A3, n3, c3⟩, ⟨A4, n4, c4⟩⟩ : Pc)) := (((Blk.new w _ _).alloc _).alloc _).alloc _
  have hR : Blk ((((w.alloc (.cells (Pc.cells (⟨cn, cse, ⟨kA, kn, kc⟩, ⟨vA, vn, vc⟩, ⟨A0, n0, c0⟩, ⟨A1, n1, c1⟩, ⟨pA, pn, pc⟩, ⟨A2, n2, c2⟩, csi, ⟨A3, n3, c3⟩, ⟨A4, n4, c4⟩⟩ : Pc)) 26)).alloc (.cells (scells kind name eA e.len ec low high lA l.len lc xA x.len xc) 34)).alloc (.cells (Pc.cells zeroC) 26)).alloc (.cells (scells kind name eA e.len ec low high lA l.len lc xA x.len xc) 34)) (w.heap.size + 1 + 1) 26 (Pc.cells zeroC) := (Blk.new' _ _ _ _ (by simp)).alloc _
  have hB : Blk ((((w.alloc (.cells (Pc.cells (⟨cn, cse, ⟨kA, kn, kc⟩, ⟨vA, vn, vc⟩, ⟨A0, n0, c0⟩, ⟨A1, n1, c1⟩, ⟨pA, pn, pc⟩, ⟨A2, n2, c2⟩, csi, ⟨A3, n3, c3⟩, ⟨A4, n4, c4⟩⟩ : Pc)) 26)).alloc (.cells (scells kind name eA e.len ec low high lA l.len lc xA x.len xc) 34)).alloc (.cells (Pc.cells zeroC) 26)).alloc (.cells (scells kind name eA e.len ec low high lA l.len lc xA x.len xc) 34)) (w.heap.size + 1 + 1 + 1) 34 (scells kind name eA e.len ec low high lA l.len lc xA x.len xc) := Blk.new' _ _ _ _ (by simp)
  go_enter Tryd.func14, Tryd.ntmps14
  rcases (by omega : i = 0 ∨ i = 1 ∨ i = 2 ∨ i = 3 ∨ i = 4) with rfl | rfl | rfl | rfl | rfl
  · go_upto_region 4 with (fail)
    generalize hV : ((((w.alloc (.cells (Pc.cells (⟨cn, cse, ⟨kA, kn, kc⟩, ⟨vA, vn, vc⟩, ⟨A0, n0, c0⟩, ⟨A1, n1, c1⟩, ⟨pA, pn, pc⟩, ⟨A2, n2, c2⟩, csi, ⟨A3, n3, c3⟩, ⟨A4, n4, c4⟩⟩ : Pc)) 26)).alloc (.cells (scells kind name eA e.len ec low high lA l.len lc xA x.len xc) 34)).alloc (.cells (Pc.cells zeroC) 26)).alloc (.cells (scells kind name eA e.len ec low high lA l.len lc xA x.len xc) 34)) = V0 at hx hP hR hB ⊢
    clear hV
    have hNV : N ≤ V0.heap.size := Nat.le_trans hN hx.size
    obtain ⟨g, c', W4, hrun, hsl, hk, hc', hg, hg2⟩ := app_ahead hNV (w.heap.size + 1 + 1 + 1) (w.heap.size + 1 + 1 + 1) A0 n0 c0 (partOf p 0) ((h.part 0).ext hx hN) hcap.start.2 ⟨kind, name, eA, e.len, ec, low, high, lA, l.len, lc, xA, x.len, xc⟩ kind name e low high l x
      (hs.kept hx (fun i hi => ⟨Nat.lt_of_lt_of_le hi hN, fun f => f⟩)) hB (Nat.le_refl _) (by omega) (by have := hroom 0; simp only [slP] at this; omega)
    have hx4 : Ext w W4 := hx.trans' hk (fun i hi q => by omega)
    have hP4 := Blk.kept hP hk (by omega)
    have hR4 := Blk.kept hR hk (by omega)
    have hcP := Blk.cell hP
    have hlP := hP.lt
    go_step
    iterate 3 (refine wpList_step (fun K hK => ?_); go_simp; (try go_bits); refine hK _ _ ?_; clear hK K)
    refine wpList_app rfl (.tmp 13) (.tmp 15) 24 rfl rfl rfl rfl hrun ?_
    clear hrun hcP hlP
    have hcQ := Blk.cell hP4
    have hzQ := Blk.frozen hP4
    have hlQ := hP4.lt
    go_upto_region 13 with (fail)
    clear hcQ hzQ hlQ
    have hk9 : Kept (· = w.heap.size) W4 (W4.setCell ⟨w.heap.size, 4, none⟩ (.slice (some ⟨g, 0, none⟩) (n0 + 1) c')) := (Kept.refl _ _).setCell _ _ (fun _ => rfl)
    have hb9 : Blk (W4.setCell ⟨w.heap.size, 4, none⟩ (.slice (some ⟨g, 0, none⟩) (n0 + 1) c')) w.heap.size 26 (Pc.cells (⟨cn, cse, ⟨kA, kn, kc⟩, ⟨vA, vn, vc⟩, ⟨some ⟨g, 0, none⟩, n0 + 1, c'⟩, ⟨A1, n1, c1⟩, ⟨pA, pn, pc⟩, ⟨A2, n2, c2⟩, csi, ⟨A3, n3, c3⟩, ⟨A4, n4, c4⟩⟩ : Pc)) := by
      have q := Blk.set_ hP4 4 (.slice (some ⟨g, 0, none⟩) (n0 + 1) c')
      exact q
    have hR9 := Blk.kept hR4 hk9 (by omega)
    have hsl9 := hsl.kept hk9 (fun i hi => ⟨by have := hP4.lt; omega, by omega⟩)
    generalize (W4.setCell ⟨w.heap.size, 4, none⟩ (.slice (some ⟨g, 0, none⟩) (n0 + 1) c')) = W9 at hk9 hb9 hR9 hsl9 ⊢
    have hx9 : Ext w W9 := hx4.trans' hk9 (fun i hi q => by omega)
    have hmr := hR9.melts
    have hhr := Blk.has hR9
    have hlr := hR9.lt
    have hhP := Blk.has hb9
    have hgP := Blk.gets hb9
    have hlP := hb9.lt
    go_wp2_with fail
    have hk10 : Kept (· = w.heap.size + 1 + 1) W9 (putAt W9 (w.heap.size + 1 + 1) 0 (Pc.cells (⟨cn, cse, ⟨kA, kn, kc⟩, ⟨vA, vn, vc⟩, ⟨some ⟨g, 0, none⟩, n0 + 1, c'⟩, ⟨A1, n1, c1⟩, ⟨pA, pn, pc⟩, ⟨A2, n2, c2⟩, csi, ⟨A3, n3, c3⟩, ⟨A4, n4, c4⟩⟩ : Pc))) := (Kept.refl _ _).putAt _ _ _ (fun _ => rfl)
    have hx10 : Ext w (putAt W9 (w.heap.size + 1 + 1) 0 (Pc.cells (⟨cn, cse, ⟨kA, kn, kc⟩, ⟨vA, vn, vc⟩, ⟨some ⟨g, 0, none⟩, n0 + 1, c'⟩, ⟨A1, n1, c1⟩, ⟨pA, pn, pc⟩, ⟨A2, n2, c2⟩, csi, ⟨A3, n3, c3⟩, ⟨A4, n4, c4⟩⟩ : Pc))) := hx9.trans' hk10 (fun i hi q => by omega)
    have hsl10 := hsl9.kept hk10 (fun i hi => ⟨by have := hk9.size; omega, by omega⟩)
    have hrob : ∀ (S : Nat → Prop) (w3 : World), Kept S (putAt W9 (w.heap.size + 1 + 1) 0 (Pc.cells (⟨cn, cse, ⟨kA, kn, kc⟩, ⟨vA, vn, vc⟩, ⟨some ⟨g, 0, none⟩, n0 + 1, c'⟩, ⟨A1, n1, c1⟩, ⟨pA, pn, pc⟩, ⟨A2, n2, c2⟩, csi, ⟨A3, n3, c3⟩, ⟨A4, n4, c4⟩⟩ : Pc))) w3 → (∀ i, S i → (N ≤ i ∧ i < w.heap.size) ∨ (putAt W9 (w.heap.size + 1 + 1) 0 (Pc.cells (⟨cn, cse, ⟨kA, kn, kc⟩, ⟨vA, vn, vc⟩, ⟨some ⟨g, 0, none⟩, n0 + 1, c'⟩, ⟨A1, n1, c1⟩, ⟨pA, pn, pc⟩, ⟨A2, n2, c2⟩, csi, ⟨A3, n3, c3⟩, ⟨A4, n4, c4⟩⟩ : Pc))).heap.size ≤ i) → PAt w3 w3.heap.size (⟨cn, cse, ⟨kA, kn, kc⟩, ⟨vA, vn, vc⟩, ⟨some ⟨g, 0, none⟩, n0 + 1, c'⟩, ⟨A1, n1, c1⟩, ⟨pA, pn, pc⟩, ⟨A2, n2, c2⟩, csi, ⟨A3, n3, c3⟩, ⟨A4, n4, c4⟩⟩ : Pc) (So.part p 0 ⟨kind, name, e, low, high, l, x⟩) := by
      generalize (putAt W9 (w.heap.size + 1 + 1) 0 (Pc.cells (⟨cn, cse, ⟨kA, kn, kc⟩, ⟨vA, vn, vc⟩, ⟨some ⟨g, 0, none⟩, n0 + 1, c'⟩, ⟨A1, n1, c1⟩, ⟨pA, pn, pc⟩, ⟨A2, n2, c2⟩, csi, ⟨A3, n3, c3⟩, ⟨A4, n4, c4⟩⟩ : Pc))) = W10 at hk10 hx10 hsl10 ⊢
      intro S w3 hk3 hS
      have hb1 := hk9.size
      have hb2 := hk10.size
      have hb3 := hk3.size
      have hb4 := hx10.size
      exact PAt.setStart (cap := c') (((h.ext hx10 hN).kept hk3 (Nat.le_trans hN hx10.size) (fun i hi => by rcases hS i hi with q | q <;> omega)).mono (by omega)) ((hsl10.kept hk3 (fun i hi => ⟨by omega, fun q => by rcases hS i q with q | q <;> omega⟩)).at_ (fun i hi => by omega))
    exact ret_cell Tryd.results14 rfl rfl aggProgR (by exact sizeProgR) (Blk.put_ hR9 0 _) ⟨(⟨cn, cse, ⟨kA, kn, kc⟩, ⟨vA, vn, vc⟩, ⟨some ⟨g, 0, none⟩, n0 + 1, c'⟩, ⟨A1, n1, c1⟩, ⟨pA, pn, pc⟩, ⟨A2, n2, c2⟩, csi, ⟨A3, n3, c3⟩, ⟨A4, n4, c4⟩⟩ : Pc), rfl, hrob, ⟨hcap.vars, ⟨hc', fun h => nomatch h⟩, hcap.turn, hcap.params, hcap.play, hcap.quiet, hcap.pays⟩, hroom.set (fun j => match j with | 0 => Nat.le_refl _ | 1 => Nat.le_succ _ | 2 => Nat.le_succ _ | 3 => Nat.le_succ _ | _ + 4 => Nat.le_succ _), hx10⟩
  · go_upto_region 6 with (fail)
    generalize hV : ((((w.alloc (.cells (Pc.cells (⟨cn, cse, ⟨kA, kn, kc⟩, ⟨vA, vn, vc⟩, ⟨A0, n0, c0⟩, ⟨A1, n1, c1⟩, ⟨pA, pn, pc⟩, ⟨A2, n2, c2⟩, csi, ⟨A3, n3, c3⟩, ⟨A4, n4, c4⟩⟩ : Pc)) 26)).alloc (.cells (scells kind name eA e.len ec low high lA l.len lc xA x.len xc) 34)).alloc (.cells (Pc.cells zeroC) 26)).alloc (.cells (scells kind name eA e.len ec low high lA l.len lc xA x.len xc) 34)) = V0 at hx hP hR hB ⊢
    clear hV
    have hNV : N ≤ V0.heap.size := Nat.le_trans hN hx.size
    obtain ⟨g, c', W4, hrun, hsl, hk, hc', hg, hg2⟩ := app_ahead hNV (w.heap.size + 1 + 1 + 1) (w.heap.size + 1 + 1 + 1) A1 n1 c1 (partOf p 1) ((h.part 1).ext hx hN) hcap.turn.2 ⟨kind, name, eA, e.len, ec, low, high, lA, l.len, lc, xA, x.len, xc⟩ kind name e low high l x
      (hs.kept hx (fun i hi => ⟨Nat.lt_of_lt_of_le hi hN, fun f => f⟩)) hB (Nat.le_refl _) (by omega) (by have := hroom 1; simp only [slP] at this; omega)
    have hx4 : Ext w W4 := hx.trans' hk (fun i hi q => by omega)
    have hP4 := Blk.kept hP hk (by omega)
    have hR4 := Blk.kept hR hk (by omega)
    have hcP := Blk.cell hP
    have hlP := hP.lt
    go_step
    iterate 3 (refine wpList_step (fun K hK => ?_); go_simp; (try go_bits); refine hK _ _ ?_; clear hK K)
    refine wpList_app rfl (.tmp 20) (.tmp 22) 24 rfl rfl rfl rfl hrun ?_
    clear hrun hcP hlP
    have hcQ := Blk.cell hP4
    have hzQ := Blk.frozen hP4
    have hlQ := hP4.lt
    go_upto_region 13 with (fail)
    clear hcQ hzQ hlQ
    have hk9 : Kept (· = w.heap.size) W4 (W4.setCell ⟨w.heap.size, 5, none⟩ (.slice (some ⟨g, 0, none⟩) (n1 + 1) c')) := (Kept.refl _ _).setCell _ _ (fun _ => rfl)
    have hb9 : Blk (W4.setCell ⟨w.heap.size, 5, none⟩ (.slice (some ⟨g, 0, none⟩) (n1 + 1) c')) w.heap.size 26 (Pc.cells (⟨cn, cse, ⟨kA, kn, kc⟩, ⟨vA, vn, vc⟩, ⟨A0, n0, c0⟩, ⟨some ⟨g, 0, none⟩, n1 + 1, c'⟩, ⟨pA, pn, pc⟩, ⟨A2, n2, c2⟩, csi, ⟨A3, n3, c3⟩, ⟨A4, n4, c4⟩⟩ : Pc)) := by
      have q := Blk.set_ hP4 5 (.slice (some ⟨g, 0, none⟩) (n1 + 1) c')
      exact q
    have hR9 := Blk.kept hR4 hk9 (by omega)
    have hsl9 := hsl.kept hk9 (fun i hi => ⟨by have := hP4.lt; omega, by omega⟩)
    generalize (W4.setCell ⟨w.heap.size, 5, none⟩ (.slice (some ⟨g, 0, none⟩) (n1 + 1) c')) = W9 at hk9 hb9 hR9 hsl9 ⊢
    have hx9 : Ext w W9 := hx4.trans' hk9 (fun i hi q => by omega)
    have hmr := hR9.melts
    have hhr := Blk.has hR9
    have hlr := hR9.lt
    have hhP := Blk.has hb9
    have hgP := Blk.gets hb9
    have hlP := hb9.lt
    go_wp2_with fail
    have hk10 : Kept (· = w.heap.size + 1 + 1) W9 (putAt W9 (w.heap.size + 1 + 1) 0 (Pc.cells (⟨cn, cse, ⟨kA, kn, kc⟩, ⟨vA, vn, vc⟩, ⟨A0, n0, c0⟩, ⟨some ⟨g, 0, none⟩, n1 + 1, c'⟩, ⟨pA, pn, pc⟩, ⟨A2, n2, c2⟩, csi, ⟨A3, n3, c3⟩, ⟨A4, n4, c4⟩⟩ : Pc))) := (Kept.refl _ _).putAt _ _ _ (fun _ => rfl)
    have hx10 : Ext w (putAt W9 (w.heap.size + 1 + 1) 0 (Pc.cells (⟨cn, cse, ⟨kA, kn, kc⟩, ⟨vA, vn, vc⟩, ⟨A0, n0, c0⟩, ⟨some ⟨g, 0, none⟩, n1 + 1, c'⟩, ⟨pA, pn, pc⟩, ⟨A2, n2, c2⟩, csi, ⟨A3, n3, c3⟩, ⟨A4, n4, c4⟩⟩ : Pc))) := hx9.trans' hk10 (fun i hi q => by omega)
    have hsl10 := hsl9.kept hk10 (fun i hi => ⟨by have := hk9.size; omega, by omega⟩)
    have hrob : ∀ (S : Nat → Prop) (w3 : World), Kept S (putAt W9 (w.heap.size + 1 + 1) 0 (Pc.cells (⟨cn, cse, ⟨kA, kn, kc⟩, ⟨vA, vn, vc⟩, ⟨A0, n0, c0⟩, ⟨some ⟨g, 0, none⟩, n1 + 1, c'⟩, ⟨pA, pn, pc⟩, ⟨A2, n2, c2⟩, csi, ⟨A3, n3, c3⟩, ⟨A4, n4, c4⟩⟩ : Pc))) w3 → (∀ i, S i → (N ≤ i ∧ i < w.heap.size) ∨ (putAt W9 (w.heap.size + 1 + 1) 0 (Pc.cells (⟨cn, cse, ⟨kA, kn, kc⟩, ⟨vA, vn, vc⟩, ⟨A0, n0, c0⟩, ⟨some ⟨g, 0, none⟩, n1 + 1, c'⟩, ⟨pA, pn, pc⟩, ⟨A2, n2, c2⟩, csi, ⟨A3, n3, c3⟩, ⟨A4, n4, c4⟩⟩ : Pc))).heap.size ≤ i) → PAt w3 w3.heap.size (⟨cn, cse, ⟨kA, kn, kc⟩, ⟨vA, vn, vc⟩, ⟨A0, n0, c0⟩, ⟨some ⟨g, 0, none⟩, n1 + 1, c'⟩, ⟨pA, pn, pc⟩, ⟨A2, n2, c2⟩, csi, ⟨A3, n3, c3⟩, ⟨A4, n4, c4⟩⟩ : Pc) (So.part p 1 ⟨kind, name, e, low, high, l, x⟩) := by
      generalize (putAt W9 (w.heap.size + 1 + 1) 0 (Pc.cells (⟨cn, cse, ⟨kA, kn, kc⟩, ⟨vA, vn, vc⟩, ⟨A0, n0, c0⟩, ⟨some ⟨g, 0, none⟩, n1 + 1, c'⟩, ⟨pA, pn, pc⟩, ⟨A2, n2, c2⟩, csi, ⟨A3, n3, c3⟩, ⟨A4, n4, c4⟩⟩ : Pc))) = W10 at hk10 hx10 hsl10 ⊢
      intro S w3 hk3 hS
      have hb1 := hk9.size
      have hb2 := hk10.size
      have hb3 := hk3.size
      have hb4 := hx10.size
      exact PAt.setTurn (cap := c') (((h.ext hx10 hN).kept hk3 (Nat.le_trans hN hx10.size) (fun i hi => by rcases hS i hi with q | q <;> omega)).mono (by omega)) ((hsl10.kept hk3 (fun i hi => ⟨by omega, fun q => by rcases hS i q with q | q <;> omega⟩)).at_ (fun i hi => by omega))
    exact ret_cell Tryd.results14 rfl rfl aggProgR (by exact sizeProgR) (Blk.put_ hR9 0 _) ⟨(⟨cn, cse, ⟨kA, kn, kc⟩, ⟨vA, vn, vc⟩, ⟨A0, n0, c0⟩, ⟨some ⟨g, 0, none⟩, n1 + 1, c'⟩, ⟨pA, pn, pc⟩, ⟨A2, n2, c2⟩, csi, ⟨A3, n3, c3⟩, ⟨A4, n4, c4⟩⟩ : Pc), rfl, hrob, ⟨hcap.vars, hcap.start, ⟨hc', fun h => nomatch h⟩, hcap.params, hcap.play, hcap.quiet, hcap.pays⟩, hroom.set (fun j => match j with | 0 => Nat.le_succ _ | 1 => Nat.le_refl _ | 2 => Nat.le_succ _ | 3 => Nat.le_succ _ | _ + 4 => Nat.le_succ _), hx10⟩
  · go_upto_region 8 with (fail)
    generalize hV : ((((w.alloc (.cells (Pc.cells (⟨cn, cse, ⟨kA, kn, kc⟩, ⟨vA, vn, vc⟩, ⟨A0, n0, c0⟩, ⟨A1, n1, c1⟩, ⟨pA, pn, pc⟩, ⟨A2, n2, c2⟩, csi, ⟨A3, n3, c3⟩, ⟨A4, n4, c4⟩⟩ : Pc)) 26)).alloc (.cells (scells kind name eA e.len ec low high lA l.len lc xA x.len xc) 34)).alloc (.cells (Pc.cells zeroC) 26)).alloc (.cells (scells kind name eA e.len ec low high lA l.len lc xA x.len xc) 34)) = V0 at hx hP hR hB ⊢
    clear hV
    have hNV : N ≤ V0.heap.size := Nat.le_trans hN hx.size
    obtain ⟨g, c', W4, hrun, hsl, hk, hc', hg, hg2⟩ := app_ahead hNV (w.heap.size + 1 + 1 + 1) (w.heap.size + 1 + 1 + 1) A2 n2 c2 (partOf p 2) ((h.part 2).ext hx hN) hcap.play.2 ⟨kind, name, eA, e.len, ec, low, high, lA, l.len, lc, xA, x.len, xc⟩ kind name e low high l x
      (hs.kept hx (fun i hi => ⟨Nat.lt_of_lt_of_le hi hN, fun f => f⟩)) hB (Nat.le_refl _) (by omega) (by have := hroom 2; simp only [slP] at this; omega)
    have hx4 : Ext w W4 := hx.trans' hk (fun i hi q => by omega)
    have hP4 := Blk.kept hP hk (by omega)
    have hR4 := Blk.kept hR hk (by omega)
    have hcP := Blk.cell hP
    have hlP := hP.lt
    go_step
    iterate 3 (refine wpList_step (fun K hK => ?_); go_simp; (try go_bits); refine hK _ _ ?_; clear hK K)
    refine wpList_app rfl (.tmp 27) (.tmp 29) 24 rfl rfl rfl rfl hrun ?_
    clear hrun hcP hlP
    have hcQ := Blk.cell hP4
    have hzQ := Blk.frozen hP4
    have hlQ := hP4.lt
    go_upto_region 13 with (fail)
    clear hcQ hzQ hlQ
    have hk9 : Kept (· = w.heap.size) W4 (W4.setCell ⟨w.heap.size, 7, none⟩ (.slice (some ⟨g, 0, none⟩) (n2 + 1) c')) := (Kept.refl _ _).setCell _ _ (fun _ => rfl)
    have hb9 : Blk (W4.setCell ⟨w.heap.size, 7, none⟩ (.slice (some ⟨g, 0, none⟩) (n2 + 1) c')) w.heap.size 26 (Pc.cells (⟨cn, cse, ⟨kA, kn, kc⟩, ⟨vA, vn, vc⟩, ⟨A0, n0, c0⟩, ⟨A1, n1, c1⟩, ⟨pA, pn, pc⟩, ⟨some ⟨g, 0, none⟩, n2 + 1, c'⟩, csi, ⟨A3, n3, c3⟩, ⟨A4, n4, c4⟩⟩ : Pc)) := by
      have q := Blk.set_ hP4 7 (.slice (some ⟨g, 0, none⟩) (n2 + 1) c')
      exact q
    have hR9 := Blk.kept hR4 hk9 (by omega)
    have hsl9 := hsl.kept hk9 (fun i hi => ⟨by have := hP4.lt; omega, by omega⟩)
    generalize (W4.setCell ⟨w.heap.size, 7, none⟩ (.slice (some ⟨g, 0, none⟩) (n2 + 1) c')) = W9 at hk9 hb9 hR9 hsl9 ⊢
    have hx9 : Ext w W9 := hx4.trans' hk9 (fun i hi q => by omega)
    have hmr := hR9.melts
    have hhr := Blk.has hR9
    have hlr := hR9.lt
    have hhP := Blk.has hb9
    have hgP := Blk.gets hb9
    have hlP := hb9.lt
    go_wp2_with fail
    have hk10 : Kept (· = w.heap.size + 1 + 1) W9 (putAt W9 (w.heap.size + 1 + 1) 0 (Pc.cells (⟨cn, cse, ⟨kA, kn, kc⟩, ⟨vA, vn, vc⟩, ⟨A0, n0, c0⟩, ⟨A1, n1, c1⟩, ⟨pA, pn, pc⟩, ⟨some ⟨g, 0, none⟩, n2 + 1, c'⟩, csi, ⟨A3, n3, c3⟩, ⟨A4, n4, c4⟩⟩ : Pc))) := (Kept.refl _ _).putAt _ _ _ (fun _ => rfl)
    have hx10 : Ext w (putAt W9 (w.heap.size + 1 + 1) 0 (Pc.cells (⟨cn, cse, ⟨kA, kn, kc⟩, ⟨vA, vn, vc⟩, ⟨A0, n0, c0⟩, ⟨A1, n1, c1⟩, ⟨pA, pn, pc⟩, ⟨some ⟨g, 0, none⟩, n2 + 1, c'⟩, csi, ⟨A3, n3, c3⟩, ⟨A4, n4, c4⟩⟩ : Pc))) := hx9.trans' hk10 (fun i hi q => by omega)
    have hsl10 := hsl9.kept hk10 (fun i hi => ⟨by have := hk9.size; omega, by omega⟩)
    have hrob : ∀ (S : Nat → Prop) (w3 : World), Kept S (putAt W9 (w.heap.size + 1 + 1) 0 (Pc.cells (⟨cn, cse, ⟨kA, kn, kc⟩, ⟨vA, vn, vc⟩, ⟨A0, n0, c0⟩, ⟨A1, n1, c1⟩, ⟨pA, pn, pc⟩, ⟨some ⟨g, 0, none⟩, n2 + 1, c'⟩, csi, ⟨A3, n3, c3⟩, ⟨A4, n4, c4⟩⟩ : Pc))) w3 → (∀ i, S i → (N ≤ i ∧ i < w.heap.size) ∨ (putAt W9 (w.heap.size + 1 + 1) 0 (Pc.cells (⟨cn, cse, ⟨kA, kn, kc⟩, ⟨vA, vn, vc⟩, ⟨A0, n0, c0⟩, ⟨A1, n1, c1⟩, ⟨pA, pn, pc⟩, ⟨some ⟨g, 0, none⟩, n2 + 1, c'⟩, csi, ⟨A3, n3, c3⟩, ⟨A4, n4, c4⟩⟩ : Pc))).heap.size ≤ i) → PAt w3 w3.heap.size (⟨cn, cse, ⟨kA, kn, kc⟩, ⟨vA, vn, vc⟩, ⟨A0, n0, c0⟩, ⟨A1, n1, c1⟩, ⟨pA, pn, pc⟩, ⟨some ⟨g, 0, none⟩, n2 + 1, c'⟩, csi, ⟨A3, n3, c3⟩, ⟨A4, n4, c4⟩⟩ : Pc) (So.part p 2 ⟨kind, name, e, low, high, l, x⟩) := by
      generalize (putAt W9 (w.heap.size + 1 + 1) 0 (Pc.cells (⟨cn, cse, ⟨kA, kn, kc⟩, ⟨vA, vn, vc⟩, ⟨A0, n0, c0⟩, ⟨A1, n1, c1⟩, ⟨pA, pn, pc⟩, ⟨some ⟨g, 0, none⟩, n2 + 1, c'⟩, csi, ⟨A3, n3, c3⟩, ⟨A4, n4, c4⟩⟩ : Pc))) = W10 at hk10 hx10 hsl10 ⊢
      intro S w3 hk3 hS
      have hb1 := hk9.size
      have hb2 := hk10.size
      have hb3 := hk3.size
      have hb4 := hx10.size
      exact PAt.setPlay (cap := c') (((h.ext hx10 hN).kept hk3 (Nat.le_trans hN hx10.size) (fun i hi => by rcases hS i hi with q | q <;> omega)).mono (by omega)) ((hsl10.kept hk3 (fun i hi => ⟨by omega, fun q => by rcases hS i q with q | q <;> omega⟩)).at_ (fun i hi => by omega))
    exact ret_cell Tryd.results14 rfl rfl aggProgR (by exact sizeProgR) (Blk.put_ hR9 0 _) ⟨(⟨cn, cse, ⟨kA, kn, kc⟩, ⟨vA, vn, vc⟩, ⟨A0, n0, c0⟩, ⟨A1, n1, c1⟩, ⟨pA, pn, pc⟩, ⟨some ⟨g, 0, none⟩, n2 + 1, c'⟩, csi, ⟨A3, n3, c3⟩, ⟨A4, n4, c4⟩⟩ : Pc), rfl, hrob, ⟨hcap.vars, hcap.start, hcap.turn, hcap.params, ⟨hc', fun h => nomatch h⟩, hcap.quiet, hcap.pays⟩, hroom.set (fun j => match j with | 0 => Nat.le_succ _ | 1 => Nat.le_succ _ | 2 => Nat.le_refl _ | 3 => Nat.le_succ _ | _ + 4 => Nat.le_succ _), hx10⟩
  · go_upto_region 10 with (fail)
    generalize hV : ((((w.alloc (.cells (Pc.cells (⟨cn, cse, ⟨kA, kn, kc⟩, ⟨vA, vn, vc⟩, ⟨A0, n0, c0⟩, ⟨A1, n1, c1⟩, ⟨pA, pn, pc⟩, ⟨A2, n2, c2⟩, csi, ⟨A3, n3, c3⟩, ⟨A4, n4, c4⟩⟩ : Pc)) 26)).alloc (.cells (scells kind name eA e.len ec low high lA l.len lc xA x.len xc) 34)).alloc (.cells (Pc.cells zeroC) 26)).alloc (.cells (scells kind name eA e.len ec low high lA l.len lc xA x.len xc) 34)) = V0 at hx hP hR hB ⊢
    clear hV
    have hNV : N ≤ V0.heap.size := Nat.le_trans hN hx.size
    obtain ⟨g, c', W4, hrun, hsl, hk, hc', hg, hg2⟩ := app_ahead hNV (w.heap.size + 1 + 1 + 1) (w.heap.size + 1 + 1 + 1) A3 n3 c3 (partOf p 3) ((h.part 3).ext hx hN) hcap.quiet.2 ⟨kind, name, eA, e.len, ec, low, high, lA, l.len, lc, xA, x.len, xc⟩ kind name e low high l x
      (hs.kept hx (fun i hi => ⟨Nat.lt_of_lt_of_le hi hN, fun f => f⟩)) hB (Nat.le_refl _) (by omega) (by have := hroom 3; simp only [slP] at this; omega)
    have hx4 : Ext w W4 := hx.trans' hk (fun i hi q => by omega)
    have hP4 := Blk.kept hP hk (by omega)
    have hR4 := Blk.kept hR hk (by omega)
    have hcP := Blk.cell hP
    have hlP := hP.lt
    go_step
    iterate 3 (refine wpList_step (fun K hK => ?_); go_simp; (try go_bits); refine hK _ _ ?_; clear hK K)
    refine wpList_app rfl (.tmp 34) (.tmp 36) 24 rfl rfl rfl rfl hrun ?_
    clear hrun hcP hlP
    have hcQ := Blk.cell hP4
    have hzQ := Blk.frozen hP4
    have hlQ := hP4.lt
    go_upto_region 13 with (fail)
    clear hcQ hzQ hlQ
    have hk9 : Kept (· = w.heap.size) W4 (W4.setCell ⟨w.heap.size, 9, none⟩ (.slice (some ⟨g, 0, none⟩) (n3 + 1) c')) := (Kept.refl _ _).setCell _ _ (fun _ => rfl)
    have hb9 : Blk (W4.setCell ⟨w.heap.size, 9, none⟩ (.slice (some ⟨g, 0, none⟩) (n3 + 1) c')) w.heap.size 26 (Pc.cells (⟨cn, cse, ⟨kA, kn, kc⟩, ⟨vA, vn, vc⟩, ⟨A0, n0, c0⟩, ⟨A1, n1, c1⟩, ⟨pA, pn, pc⟩, ⟨A2, n2, c2⟩, csi, ⟨some ⟨g, 0, none⟩, n3 + 1, c'⟩, ⟨A4, n4, c4⟩⟩ : Pc)) := by
      have q := Blk.set_ hP4 9 (.slice (some ⟨g, 0, none⟩) (n3 + 1) c')
      exact q
    have hR9 := Blk.kept hR4 hk9 (by omega)
    have hsl9 := hsl.kept hk9 (fun i hi => ⟨by have := hP4.lt; omega, by omega⟩)
    generalize (W4.setCell ⟨w.heap.size, 9, none⟩ (.slice (some ⟨g, 0, none⟩) (n3 + 1) c')) = W9 at hk9 hb9 hR9 hsl9 ⊢
    have hx9 : Ext w W9 := hx4.trans' hk9 (fun i hi q => by omega)
    have hmr := hR9.melts
    have hhr := Blk.has hR9
    have hlr := hR9.lt
    have hhP := Blk.has hb9
    have hgP := Blk.gets hb9
    have hlP := hb9.lt
    go_wp2_with fail
    have hk10 : Kept (· = w.heap.size + 1 + 1) W9 (putAt W9 (w.heap.size + 1 + 1) 0 (Pc.cells (⟨cn, cse, ⟨kA, kn, kc⟩, ⟨vA, vn, vc⟩, ⟨A0, n0, c0⟩, ⟨A1, n1, c1⟩, ⟨pA, pn, pc⟩, ⟨A2, n2, c2⟩, csi, ⟨some ⟨g, 0, none⟩, n3 + 1, c'⟩, ⟨A4, n4, c4⟩⟩ : Pc))) := (Kept.refl _ _).putAt _ _ _ (fun _ => rfl)
    have hx10 : Ext w (putAt W9 (w.heap.size + 1 + 1) 0 (Pc.cells (⟨cn, cse, ⟨kA, kn, kc⟩, ⟨vA, vn, vc⟩, ⟨A0, n0, c0⟩, ⟨A1, n1, c1⟩, ⟨pA, pn, pc⟩, ⟨A2, n2, c2⟩, csi, ⟨some ⟨g, 0, none⟩, n3 + 1, c'⟩, ⟨A4, n4, c4⟩⟩ : Pc))) := hx9.trans' hk10 (fun i hi q => by omega)
    have hsl10 := hsl9.kept hk10 (fun i hi => ⟨by have := hk9.size; omega, by omega⟩)
    have hrob : ∀ (S : Nat → Prop) (w3 : World), Kept S (putAt W9 (w.heap.size + 1 + 1) 0 (Pc.cells (⟨cn, cse, ⟨kA, kn, kc⟩, ⟨vA, vn, vc⟩, ⟨A0, n0, c0⟩, ⟨A1, n1, c1⟩, ⟨pA, pn, pc⟩, ⟨A2, n2, c2⟩, csi, ⟨some ⟨g, 0, none⟩, n3 + 1, c'⟩, ⟨A4, n4, c4⟩⟩ : Pc))) w3 → (∀ i, S i → (N ≤ i ∧ i < w.heap.size) ∨ (putAt W9 (w.heap.size + 1 + 1) 0 (Pc.cells (⟨cn, cse, ⟨kA, kn, kc⟩, ⟨vA, vn, vc⟩, ⟨A0, n0, c0⟩, ⟨A1, n1, c1⟩, ⟨pA, pn, pc⟩, ⟨A2, n2, c2⟩, csi, ⟨some ⟨g, 0, none⟩, n3 + 1, c'⟩, ⟨A4, n4, c4⟩⟩ : Pc))).heap.size ≤ i) → PAt w3 w3.heap.size (⟨cn, cse, ⟨kA, kn, kc⟩, ⟨vA, vn, vc⟩, ⟨A0, n0, c0⟩, ⟨A1, n1, c1⟩, ⟨pA, pn, pc⟩, ⟨A2, n2, c2⟩, csi, ⟨some ⟨g, 0, none⟩, n3 + 1, c'⟩, ⟨A4, n4, c4⟩⟩ : Pc) (So.part p 3 ⟨kind, name, e, low, high, l, x⟩) := by
      generalize (putAt W9 (w.heap.size + 1 + 1) 0 (Pc.cells (⟨cn, cse, ⟨kA, kn, kc⟩, ⟨vA, vn, vc⟩, ⟨A0, n0, c0⟩, ⟨A1, n1, c1⟩, ⟨pA, pn, pc⟩, ⟨A2, n2, c2⟩, csi, ⟨some ⟨g, 0, none⟩, n3 + 1, c'⟩, ⟨A4, n4, c4⟩⟩ : Pc))) = W10 at hk10 hx10 hsl10 ⊢
      intro S w3 hk3 hS
      have hb1 := hk9.size
      have hb2 := hk10.size
      have hb3 := hk3.size
      have hb4 := hx10.size
      exact PAt.setQuiet (cap := c') (((h.ext hx10 hN).kept hk3 (Nat.le_trans hN hx10.size) (fun i hi => by rcases hS i hi with q | q <;> omega)).mono (by omega)) ((hsl10.kept hk3 (fun i hi => ⟨by omega, fun q => by rcases hS i q with q | q <;> omega⟩)).at_ (fun i hi => by omega))
    exact ret_cell Tryd.results14 rfl rfl aggProgR (by exact sizeProgR) (Blk.put_ hR9 0 _) ⟨(⟨cn, cse, ⟨kA, kn, kc⟩, ⟨vA, vn, vc⟩, ⟨A0, n0, c0⟩, ⟨A1, n1, c1⟩, ⟨pA, pn, pc⟩, ⟨A2, n2, c2⟩, csi, ⟨some ⟨g, 0, none⟩, n3 + 1, c'⟩, ⟨A4, n4, c4⟩⟩ : Pc), rfl, hrob, ⟨hcap.vars, hcap.start, hcap.turn, hcap.params, hcap.play, ⟨hc', fun h => nomatch h⟩, hcap.pays⟩, hroom.set (fun j => match j with | 0 => Nat.le_succ _ | 1 => Nat.le_succ _ | 2 => Nat.le_succ _ | 3 => Nat.le_refl _ | _ + 4 => Nat.le_succ _), hx10⟩
  · go_upto_region 12 with (fail)
    generalize hV : ((((w.alloc (.cells (Pc.cells (⟨cn, cse, ⟨kA, kn, kc⟩, ⟨vA, vn, vc⟩, ⟨A0, n0, c0⟩, ⟨A1, n1, c1⟩, ⟨pA, pn, pc⟩, ⟨A2, n2, c2⟩, csi, ⟨A3, n3, c3⟩, ⟨A4, n4, c4⟩⟩ : Pc)) 26)).alloc (.cells (scells kind name eA e.len ec low high lA l.len lc xA x.len xc) 34)).alloc (.cells (Pc.cells zeroC) 26)).alloc (.cells (scells kind name eA e.len ec low high lA l.len lc xA x.len xc) 34)) = V0 at hx hP hR hB ⊢
    clear hV
    have hNV : N ≤ V0.heap.size := Nat.le_trans hN hx.size
    obtain ⟨g, c', W4, hrun, hsl, hk, hc', hg, hg2⟩ := app_ahead hNV (w.heap.size + 1 + 1 + 1) (w.heap.size + 1 + 1 + 1) A4 n4 c4 (partOf p 4) ((h.part 4).ext hx hN) hcap.pays.2 ⟨kind, name, eA, e.len, ec, low, high, lA, l.len, lc, xA, x.len, xc⟩ kind name e low high l x
      (hs.kept hx (fun i hi => ⟨Nat.lt_of_lt_of_le hi hN, fun f => f⟩)) hB (Nat.le_refl _) (by omega) (by have := hroom 4; simp only [slP] at this; omega)
    have hx4 : Ext w W4 := hx.trans' hk (fun i hi q => by omega)
    have hP4 := Blk.kept hP hk (by omega)
    have hR4 := Blk.kept hR hk (by omega)
    have hcP := Blk.cell hP
    have hlP := hP.lt
    go_step
    iterate 3 (refine wpList_step (fun K hK => ?_); go_simp; (try go_bits); refine hK _ _ ?_; clear hK K)
    refine wpList_app rfl (.tmp 41) (.tmp 43) 24 rfl rfl rfl rfl hrun ?_
    clear hrun hcP hlP
    have hcQ := Blk.cell hP4
    have hzQ := Blk.frozen hP4
    have hlQ := hP4.lt
    go_upto_region 13 with (fail)
    clear hcQ hzQ hlQ
    have hk9 : Kept (· = w.heap.size) W4 (W4.setCell ⟨w.heap.size, 10, none⟩ (.slice (some ⟨g, 0, none⟩) (n4 + 1) c')) := (Kept.refl _ _).setCell _ _ (fun _ => rfl)
    have hb9 : Blk (W4.setCell ⟨w.heap.size, 10, none⟩ (.slice (some ⟨g, 0, none⟩) (n4 + 1) c')) w.heap.size 26 (Pc.cells (⟨cn, cse, ⟨kA, kn, kc⟩, ⟨vA, vn, vc⟩, ⟨A0, n0, c0⟩, ⟨A1, n1, c1⟩, ⟨pA, pn, pc⟩, ⟨A2, n2, c2⟩, csi, ⟨A3, n3, c3⟩, ⟨some ⟨g, 0, none⟩, n4 + 1, c'⟩⟩ : Pc)) := by
      have q := Blk.set_ hP4 10 (.slice (some ⟨g, 0, none⟩) (n4 + 1) c')
      exact q
    have hR9 := Blk.kept hR4 hk9 (by omega)
    have hsl9 := hsl.kept hk9 (fun i hi => ⟨by have := hP4.lt; omega, by omega⟩)
    generalize (W4.setCell ⟨w.heap.size, 10, none⟩ (.slice (some ⟨g, 0, none⟩) (n4 + 1) c')) = W9 at hk9 hb9 hR9 hsl9 ⊢
    have hx9 : Ext w W9 := hx4.trans' hk9 (fun i hi q => by omega)
    have hmr := hR9.melts
    have hhr := Blk.has hR9
    have hlr := hR9.lt
    have hhP := Blk.has hb9
    have hgP := Blk.gets hb9
    have hlP := hb9.lt
    go_wp2_with fail
    have hk10 : Kept (· = w.heap.size + 1 + 1) W9 (putAt W9 (w.heap.size + 1 + 1) 0 (Pc.cells (⟨cn, cse, ⟨kA, kn, kc⟩, ⟨vA, vn, vc⟩, ⟨A0, n0, c0⟩, ⟨A1, n1, c1⟩, ⟨pA, pn, pc⟩, ⟨A2, n2, c2⟩, csi, ⟨A3, n3, c3⟩, ⟨some ⟨g, 0, none⟩, n4 + 1, c'⟩⟩ : Pc))) := (Kept.refl _ _).putAt _ _ _ (fun _ => rfl)
    have hx10 : Ext w (putAt W9 (w.heap.size + 1 + 1) 0 (Pc.cells (⟨cn, cse, ⟨kA, kn, kc⟩, ⟨vA, vn, vc⟩, ⟨A0, n0, c0⟩, ⟨A1, n1, c1⟩, ⟨pA, pn, pc⟩, ⟨A2, n2, c2⟩, csi, ⟨A3, n3, c3⟩, ⟨some ⟨g, 0, none⟩, n4 + 1, c'⟩⟩ : Pc))) := hx9.trans' hk10 (fun i hi q => by omega)
    have hsl10 := hsl9.kept hk10 (fun i hi => ⟨by have := hk9.size; omega, by omega⟩)
    have hrob : ∀ (S : Nat → Prop) (w3 : World), Kept S (putAt W9 (w.heap.size + 1 + 1) 0 (Pc.cells (⟨cn, cse, ⟨kA, kn, kc⟩, ⟨vA, vn, vc⟩, ⟨A0, n0, c0⟩, ⟨A1, n1, c1⟩, ⟨pA, pn, pc⟩, ⟨A2, n2, c2⟩, csi, ⟨A3, n3, c3⟩, ⟨some ⟨g, 0, none⟩, n4 + 1, c'⟩⟩ : Pc))) w3 → (∀ i, S i → (N ≤ i ∧ i < w.heap.size) ∨ (putAt W9 (w.heap.size + 1 + 1) 0 (Pc.cells (⟨cn, cse, ⟨kA, kn, kc⟩, ⟨vA, vn, vc⟩, ⟨A0, n0, c0⟩, ⟨A1, n1, c1⟩, ⟨pA, pn, pc⟩, ⟨A2, n2, c2⟩, csi, ⟨A3, n3, c3⟩, ⟨some ⟨g, 0, none⟩, n4 + 1, c'⟩⟩ : Pc))).heap.size ≤ i) → PAt w3 w3.heap.size (⟨cn, cse, ⟨kA, kn, kc⟩, ⟨vA, vn, vc⟩, ⟨A0, n0, c0⟩, ⟨A1, n1, c1⟩, ⟨pA, pn, pc⟩, ⟨A2, n2, c2⟩, csi, ⟨A3, n3, c3⟩, ⟨some ⟨g, 0, none⟩, n4 + 1, c'⟩⟩ : Pc) (So.part p 4 ⟨kind, name, e, low, high, l, x⟩) := by
      generalize (putAt W9 (w.heap.size + 1 + 1) 0 (Pc.cells (⟨cn, cse, ⟨kA, kn, kc⟩, ⟨vA, vn, vc⟩, ⟨A0, n0, c0⟩, ⟨A1, n1, c1⟩, ⟨pA, pn, pc⟩, ⟨A2, n2, c2⟩, csi, ⟨A3, n3, c3⟩, ⟨some ⟨g, 0, none⟩, n4 + 1, c'⟩⟩ : Pc))) = W10 at hk10 hx10 hsl10 ⊢
      intro S w3 hk3 hS
      have hb1 := hk9.size
      have hb2 := hk10.size
      have hb3 := hk3.size
      have hb4 := hx10.size
      exact PAt.setPays (cap := c') (((h.ext hx10 hN).kept hk3 (Nat.le_trans hN hx10.size) (fun i hi => by rcases hS i hi with q | q <;> omega)).mono (by omega)) ((hsl10.kept hk3 (fun i hi => ⟨by omega, fun q => by rcases hS i q with q | q <;> omega⟩)).at_ (fun i hi => by omega))
    exact ret_cell Tryd.results14 rfl rfl aggProgR (by exact sizeProgR) (Blk.put_ hR9 0 _) ⟨(⟨cn, cse, ⟨kA, kn, kc⟩, ⟨vA, vn, vc⟩, ⟨A0, n0, c0⟩, ⟨A1, n1, c1⟩, ⟨pA, pn, pc⟩, ⟨A2, n2, c2⟩, csi, ⟨A3, n3, c3⟩, ⟨some ⟨g, 0, none⟩, n4 + 1, c'⟩⟩ : Pc), rfl, hrob, ⟨hcap.vars, hcap.start, hcap.turn, hcap.params, hcap.play, hcap.quiet, ⟨hc', fun h => nomatch h⟩⟩, hroom.set (fun j => match j with | 0 => Nat.le_succ _ | 1 => Nat.le_succ _ | 2 => Nat.le_succ _ | 3 => Nat.le_succ _ | _ + 4 => Nat.le_refl _), hx10⟩

theorem nz_chkVs (p : Pr) : NZ (chkAhead p) := by
  unfold chkAhead chkHead
  exact NZ.ored (NZ.ored (NZ.must (by decide)) (NZ.ored (NZ.must (by decide)) (NZ.ored (NZ.must (by decide)) (NZ.must (by decide))))) (NZ.ored (nz_chkVars _ _) (NZ.ored (NZ.must (by decide)) (NZ.ored (NZ.must (by decide)) (NZ.ored (nz_chkPars _ _ _) (NZ.ored (NZ.must (by decide)) (NZ.ored (NZ.must (by decide)) (NZ.must (by decide))))))))
theorem nz_check (p : Pr) : NZ (check p) := by
  unfold check
  exact NZ.ored (nz_chkVs p) (NZ.ored (NZ.must (by decide)) (NZ.ored (nz_chkB _ _ _ _ _) (NZ.ored (nz_chkB _ _ _ _ _) (NZ.ored (nz_chkB _ _ _ _ _) (NZ.ored (nz_chkB _ _ _ _ _) (NZ.ored (nz_chkB _ _ _ _ _) (NZ.ored (NZ.must (by decide)) (NZ.must (by decide)))))))))
def roomB (p : Pr) : Bool := fewB p && decide (w64 (psize p) ≤ 990) && (check p).isNone
set_option maxRecDepth 100000 in
set_option maxHeartbeats 1600000 in
theorem room_any (c : Pc) (p : Pr) (N : Nat) (w : World) (hN : N ≤ w.heap.size) (h : PAt w N c p) (hcap : Caps c) : Calls Tryd.prog 10 #[.agg c.cells] w fun e w' => e = .returned (.bool (roomB p)) ∧ Ext w w' := by
  obtain ⟨b1, hb1⟩ : ∃ b, b = fewB p := ⟨_, rfl⟩
  obtain ⟨z, hz⟩ : ∃ z, z = w64 (psize p) := ⟨_, rfl⟩
  obtain ⟨f, hf⟩ : ∃ f, f = check p := ⟨_, rfl⟩
  obtain ⟨R, hR⟩ : ∃ R, R = roomB p := ⟨_, rfl⟩
  rw [← hR]
  have HRR := Lib.hid (show R = (b1 && decide (z ≤ 990) && f.isNone) by rw [hR, hb1, hz, hf]; rfl)
  have HB1 := Lib.hid hb1
  have HZ := Lib.hid hz
  have HF := Lib.hid hf
  have HNZ := Lib.hid (show NZ f by rw [hf]; exact nz_check p)
  clear hR hb1 hz hf
  have hx0 := (Kept.refl (fun _ => False) w).alloc (.cells c.cells 26)
  have hB := Blk.new w 26 c.cells
  go_enter Tryd.func10, Tryd.ntmps10
  go_upto_region 1 with (fail)
  generalize hW : w.alloc (.cells c.cells 26) = W at hx0 hB ⊢
  have HX0 := Lib.hid hx0
  have HB := Lib.hid hB
  have HPA := Lib.hid (h.ext hx0 hN)
  have HNW := Lib.hid (Nat.le_trans hN hx0.size)
  clear hW hx0 hB h hN
  generalize w.heap.size = pb at HB ⊢
  have hhP := Blk.has HB.out
  have hgP := Blk.gets HB.out
  have hlP := HB.out.lt
  go_wp2_with fail
  refine (few_any c p N W HNW.out HPA.out).mono ?_
  rintro e w1 ⟨rfl, hx1⟩
  rw [← HB1.out]
  have HX1 := Lib.hid hx1
  clear hx1 hhP hgP hlP
  have hhP := Blk.has (Blk.ext HB.out HX1.out)
  have hgP := Blk.gets (Blk.ext HB.out HX1.out)
  have hlP := (Blk.ext HB.out HX1.out).lt
  cases b1
  · have HR := Lib.hid (show R = false by rw [HRR.out]; rfl)
    go_wp2_with fail
    go_ret
    exact ⟨ret_bool HR.out.symm, HX0.out.trans HX1.out⟩
  · go_wp2_with fail
    refine (rsize_any c p N _ (Nat.le_trans HNW.out HX1.out.size) (HPA.out.ext HX1.out HNW.out)).mono ?_
    rintro e w2 ⟨rfl, hx2⟩
    rw [← HZ.out]
    have HX2 := Lib.hid (HX1.out.trans hx2)
    clear hx2 hhP hgP hlP
    have hhP := Blk.has (Blk.ext HB.out HX2.out)
    have hgP := Blk.gets (Blk.ext HB.out HX2.out)
    have hlP := (Blk.ext HB.out HX2.out).lt
    by_cases hz9 : z ≤ 990
    · have HZ9 := Lib.hid (show decide (z ≤ 990) = true by simpa using hz9)
      go_wp2_with fail
      refine (rcheck_any c p N _ (Nat.le_trans HNW.out HX2.out.size) (HPA.out.ext HX2.out HNW.out) hcap).mono ?_
      rintro e w3 ⟨rfl, hx3⟩
      rw [← HF.out]
      have HX3 := Lib.hid (HX2.out.trans hx3)
      clear hx3 hhP hgP hlP
      cases f with
      | none =>
        have HR := Lib.hid (show R = true by rw [HRR.out, HZ9.out]; rfl)
        go_wp2_with fail
        go_ret
        exact ⟨ret_bool HR.out.symm, HX0.out.trans HX3.out⟩
      | some f =>
        obtain ⟨fe, fn⟩ := f
        have hnz := NZ.out HNZ.out rfl
        have HR := Lib.hid (show R = false by rw [HRR.out, HZ9.out]; rfl)
        go_wp2_with fail
        go_ret
        exact ⟨ret_bool HR.out.symm, HX0.out.trans HX3.out⟩
    · have HR := Lib.hid (show R = false by rw [HRR.out, show decide (z ≤ 990) = false by simpa using hz9]; rfl)
      go_wp2_with fail
      go_ret
      exact ⟨ret_bool HR.out.symm, HX0.out.trans HX2.out⟩
end Go.Proofs.YtfamkemdgbnegaaDoor

/- SortsFirst: the walk. -/
namespace Go.Proofs.YtfamkemdgbnegaaDoor
open Go.RowKit So
theorem i64ok_lit {n : Int} (h : -1000 ≤ n ∧ n ≤ 1000) : i64ok n := by unfold i64ok; omega
theorem mod5 (x : Int) : ∃ i : Nat, i < 5 ∧ wrap64 ((IntKind.u64.wrap x).tmod 5) = (i : Int) := by
  refine ⟨((x % 18446744073709551616) % 5).toNat, by omega, ?_⟩
  rw [u64_w, Int.tmod_eq_emod_of_nonneg (by omega)]
  unfold wrap64
  omega
theorem room_of {p : Pr} (h : true = roomB p) : w64 (psize p) ≤ 990 ∧ check p = none := by
  have h := h.symm
  simp only [roomB, Bool.and_eq_true, decide_eq_true_eq, Option.isNone_iff_eq_none] at h
  exact ⟨h.1.2, h.2⟩
set_option maxRecDepth 100000 in
set_option maxHeartbeats 1600000 in
theorem lfirst_any (c : Pc) (p : Pr) (x0 y0 : Int) (N : Nat) (w : World) (hN : N ≤ w.heap.size) (h : PAt w N c p) (hL : LaidAt w) (hcap : Caps c) (hroom : Roomy c 2) : Calls Tryd.prog 5 #[.agg c.cells, .int .i64 x0, .int .i64 y0] w fun e w' => e = .returned (.bool true) ∧ Ext w w' := by
  have hx0 := (Kept.refl (fun _ => False) w).alloc (.cells c.cells 26)
  have hB := Blk.new w 26 c.cells
  go_enter Tryd.func5, Tryd.ntmps5
  go_upto_region 1 with (fail)
  generalize hW : w.alloc (.cells c.cells 26) = W at hx0 hB ⊢
  have HX0 := Lib.hid hx0
  have HB := Lib.hid hB
  have HPA := Lib.hid (h.ext hx0 hN)
  have HNW := Lib.hid (Nat.le_trans hN hx0.size)
  have HLW := Lib.hid (hL.ext hx0)
  clear hW hx0 hB h hN hL
  generalize w.heap.size = pb at HB ⊢
  have hhP := Blk.has HB.out
  have hgP := Blk.gets HB.out
  have hlP := HB.out.lt
  go_wp2_with fail
  refine (room_any c p N W HNW.out HPA.out hcap).mono ?_
  rintro e w1 ⟨rfl, hx1⟩
  have HX1 := Lib.hid hx1
  clear hx1 hhP hgP hlP
  obtain ⟨r, hr⟩ : ∃ r, r = roomB p := ⟨_, rfl⟩
  rw [← hr]
  have HRB := Lib.hid hr
  clear hr
  cases r
  · go_wp2_with fail
    refine (told_any w1 (HLW.out.ext HX1.out)).mono ?_
    rintro e w2 ⟨rfl, hx2⟩
    go_wp2_with fail
    go_ret
    exact ⟨rfl, HX0.out.trans (HX1.out.trans hx2)⟩
  · obtain ⟨xi, hxi, ex⟩ := mod5 x0
    obtain ⟨yi, hyi, ey⟩ := mod5 y0
    obtain ⟨hz, hc⟩ := room_of HRB.out
    by_cases hxy : xi = yi
    · have hb : ((xi : Int) == (yi : Int)) = true := by simp [hxy]
      go_wp2_with fail
      refine (told_any w1 (HLW.out.ext HX1.out)).mono ?_
      rintro e w2 ⟨rfl, hx2⟩
      go_wp2_with fail
      go_ret
      exact ⟨rfl, HX0.out.trans (HX1.out.trans hx2)⟩
    · have hb : ((xi : Int) == (yi : Int)) = false := by simp; omega
      have HFI := Lib.hid (first hc hz xi yi hxi hyi hxy)
      clear hxy hz hc HRB
      have y1 := (Kept.refl (fun _ => False) w1).alloc (.cells (ecells 99 0 E0 none 0 0) 36)
      have hEB := Blk.new w1 36 (ecells 99 0 E0 none 0 0)
      have hB1 := Blk.ext HB.out HX1.out
      have hhP := Blk.has hB1
      have hgP := Blk.gets hB1
      have hlP := hB1.lt
      go_wp2_with fail
      have hN1 : N ≤ (w1.alloc (.cells (ecells 99 0 E0 none 0 0) 36)).heap.size := Nat.le_trans HNW.out (Nat.le_trans HX1.out.size y1.size)
      refine (part_any c p xi hxi 1 _ (w1.alloc (.cells (ecells 99 0 E0 none 0 0) 36)) (Nat.le_refl _) ((HPA.out.ext (HX1.out.trans y1) HNW.out).mono hN1) hcap hroom 2 E0 (.cons 99 0 E0 .nil .nil) 0 0 .nil .nil (some ⟨w1.heap.size, 0, none⟩) 1 none 0 none 0 (ok64 (by decide)) (ok64 (by decide)) (ok64 (by decide)) (name_ok _ (by decide))
        (ef_one (k := .nil) hEB hEB.lt (i64ok_lit (by decide)) (ok64 (by decide)) (name_ok _ (by decide)) (ESl.nil _ _ _)) (SSl.nil _ _ _) (SSl.nil _ _ _)).mono ?_
      rintro e w2 ⟨c1, rfl, hp1, hcap1, hroom1, hx2⟩
      have HP1 := Lib.hid (hp1 _ _ (Kept.refl (fun _ => False) w2) (fun _ q => q.elim))
      have HX2 := Lib.hid (HX1.out.trans (y1.trans hx2))
      clear hp1 hx2 y1 hEB hB1 hhP hgP hlP hN1
      have y3 := (Kept.refl (fun _ => False) w2).alloc (.cells c1.cells 26)
      have hTB := Blk.new w2 26 c1.cells
      go_upto_region 7 with (fail)
      generalize hW3 : w2.alloc (.cells c1.cells 26) = W3 at y3 hTB ⊢
      obtain ⟨tb, htb⟩ : ∃ tb, tb = w2.heap.size := ⟨_, rfl⟩
      rw [← htb] at hTB ⊢
      have HTL := Lib.hid (show W.heap.size ≤ tb by have := HX2.out.size; omega)
      have HX3 := Lib.hid (HX2.out.trans y3)
      have HP3 := Lib.hid (show PAt W3 tb c1 _ from htb ▸ HP1.out.ext y3 (Nat.le_refl _))
      have HTB := Lib.hid hTB
      clear hW3 y3 hTB htb HP1
      have hhT := Blk.has HTB.out
      have hgT := Blk.gets HTB.out
      have hlT := HTB.out.lt
      go_wp2_with fail
      refine (part_any c1 _ yi hyi 0 tb W3 (Nat.le_of_lt HTB.out.lt) HP3.out hcap1 hroom1 3 sIf .nil 0 0 .nil .nil none 0 none 0 none 0 (ok64 (by decide)) (ok64 (by decide)) (ok64 (by decide)) (name_ok _ (by decide)) (ESl.nil _ _ _) (SSl.nil _ _ _) (SSl.nil _ _ _)).mono ?_
      rintro e w4 ⟨c2, rfl, hp2, hcap2, hroom2, hx4⟩
      have HX4 := Lib.hid (HX3.out.trans hx4)
      have HP2 := Lib.hid hp2
      have HTW := Lib.hid (HTB.out.lt)
      have HT4 := Lib.hid (Blk.ext HTB.out hx4)
      clear hp2 hx4 hhT hgT hlT HTB HP3
      have hhT := Blk.has HT4.out
      have hmT := HT4.out.melts
      have hlT := HT4.out.lt
      by_cases hlt : yi < xi
      · have hltI : (yi : Int) < xi := by omega
        have HFJ := Lib.hid (show check (So.part (So.part p xi ⟨2, E0, .cons 99 0 E0 .nil .nil, 0, 0, .nil, .nil⟩) yi ⟨3, sIf, .nil, 0, 0, .nil, .nil⟩) = some ⟨6, sIf⟩ from by rw [← if_pos (c := yi < xi) hlt (t := (⟨6, sIf⟩ : Flt)) (e := ⟨3, E0⟩)]; exact HFI.out)
        clear HFI hlt
        go_upto_region 11 with (fail)
        have y5 : Kept (· = tb) w4 ((putAt w4 tb 0 c2.cells).alloc (.cells #[.int .i64 6, .string ⟨#[105, 102]⟩] 38)) := (Kept.putAt (Kept.refl (· = tb) w4) tb 0 c2.cells (fun _ => rfl)).alloc _
        have hT6 : Blk ((putAt w4 tb 0 c2.cells).alloc (.cells #[.int .i64 6, .string ⟨#[105, 102]⟩] 38)) tb 26 c2.cells := (Blk.put_ HT4.out 0 c2.cells).alloc _
        have hF6 : Blk ((putAt w4 tb 0 c2.cells).alloc (.cells #[.int .i64 6, .string ⟨#[105, 102]⟩] 38)) w4.heap.size 38 #[.int .i64 6, .string ⟨#[105, 102]⟩] := Blk.new' _ _ _ _ (by simp [Proofs.YtfamkemdgbnegaaDoor.putAt])
        generalize hW6 : ((putAt w4 tb 0 c2.cells).alloc (.cells #[.int .i64 6, .string ⟨#[105, 102]⟩] 38)) = W6 at y5 hT6 hF6 ⊢
        generalize w4.heap.size = fb at hF6 ⊢
        clear hW6 hhT hmT hlT
        have HP6 := Lib.hid (HP2.out _ _ y5 (fun i q => .inl ⟨Nat.le_of_eq (show i = tb from q).symm, (show i = tb from q) ▸ HTW.out⟩))
        have HX6 := Lib.hid (HX4.out.trans' y5 (fun i hi q => by have := HTL.out; omega))
        have HT6 := Lib.hid hT6
        have HF6 := Lib.hid hF6
        clear y5 hT6 hF6 HP2 HX4 HT4
        refine wp_region_3 (fun w1 => Ext W6 w1) [(0, 0), (1, 2), (2, 1), (4, 1), (3, 0), (5, 2), (6, 2), (7, 2)] (by kernel_rfl) (by kernel_rfl) (by kernel_rfl) (by kernel_rfl) ?_; intro l' hl'; simp only [List.map_cons, List.map_nil, List.getD_cons_zero, List.getD_cons_succ] at hl'; subst hl'
        have HY0 := Lib.hid (show Ext W6 W6.drew from (Kept.refl _ W6).drew)
        (repeat (first | ((apply w3_pure); (· go_simp); (· (intro w1; go_simp; try with_reducible rfl)); (intro K hK; go_simp; refine hK _ _ ?_; clear hK K)) | ((apply w3_skip); (· go_simp); (intro K hK; go_simp; refine hK _ _ ?_; clear hK K)) | ((apply w3_take); (· exact HY0.out); (· go_simp); (· (intro w1 hS; have d0 := Blk.ext HT6.out hS; have d1 := Blk.gets d0; have d2 := Blk.has d0; have d3 := d0.lt; have d4 := Blk.ext HF6.out hS; have d5 := Blk.gets d4; have d6 := Blk.has d4; have d7 := d4.lt;  go_simp; try with_reducible rfl)); (intro K hK; go_simp; refine hK _ _ ?_; clear hK K)) | ((apply w3_pass); (· exact HY0.out); (· go_simp); (intro K hK; go_simp; refine hK _ _ ?_; clear hK K))))
        (refine w3_act (fun K hK => ?_); go_simp)
        refine (told_any _ (HLW.out.ext (HX6.out.trans HY0.out))).mono ?_
        rintro e w7 ⟨rfl, hx7⟩
        have HY1 := Lib.hid (HY0.out.trans hx7)
        clear hx7
        refine hK.out _ _ (fun _ => HY1.out) ?_
        clear hK K
        (repeat (first | ((apply w3_pure); (· go_simp); (· (intro w1; go_simp; try with_reducible rfl)); (intro K hK; go_simp; refine hK _ _ ?_; clear hK K)) | ((apply w3_skip); (· go_simp); (intro K hK; go_simp; refine hK _ _ ?_; clear hK K)) | ((apply w3_take); (· exact HY1.out); (· go_simp); (· (intro w1 hS; have d0 := Blk.ext HT6.out hS; have d1 := Blk.gets d0; have d2 := Blk.has d0; have d3 := d0.lt; have d4 := Blk.ext HF6.out hS; have d5 := Blk.gets d4; have d6 := Blk.has d4; have d7 := d4.lt;  go_simp; try with_reducible rfl)); (intro K hK; go_simp; refine hK _ _ ?_; clear hK K)) | ((apply w3_pass); (· exact HY1.out); (· go_simp); (intro K hK; go_simp; refine hK _ _ ?_; clear hK K))))
        (refine w3_act (fun K hK => ?_); go_simp)
        refine (lcheck_any c2 _ _ _ HY1.out.size (HP6.out.ext HY1.out (Nat.le_refl _)) (HLW.out.ext (HX6.out.trans HY1.out))).mono ?_
        rintro e w8 ⟨rfl, hx8⟩
        rw [HFJ.out, show fltC (some ⟨6, sIf⟩) = #[.int .i64 6, .string ⟨#[105, 102]⟩] from rfl]
        have HY2 := Lib.hid (HY1.out.trans hx8)
        clear hx8
        refine hK.out _ _ (fun _ => HY2.out) ?_
        clear hK K
        (repeat (first | ((apply w3_pure); (· go_simp); (· (intro w1; go_simp; try with_reducible rfl)); (intro K hK; go_simp; refine hK _ _ ?_; clear hK K)) | ((apply w3_skip); (· go_simp); (intro K hK; go_simp; refine hK _ _ ?_; clear hK K)) | (refine w3_end (by kernel_rfl) (fun K hK => ?_); go_simp; refine hK.out _ _ ?_; clear hK K))); refine w3_nil ?_
        go_wp2_with fail
        go_ret
        exact ⟨rfl, HX0.out.trans (HX6.out.trans HY2.out)⟩
      · have hltI : ¬ (yi : Int) < xi := by omega
        have HFJ := Lib.hid (show check (So.part (So.part p xi ⟨2, E0, .cons 99 0 E0 .nil .nil, 0, 0, .nil, .nil⟩) yi ⟨3, sIf, .nil, 0, 0, .nil, .nil⟩) = some ⟨3, E0⟩ from by rw [← if_neg (c := yi < xi) hlt (t := (⟨6, sIf⟩ : Flt)) (e := ⟨3, E0⟩)]; exact HFI.out)
        clear HFI hlt
        go_upto_region 11 with (fail)
        have y5 : Kept (· = tb) w4 ((putAt w4 tb 0 c2.cells).alloc (.cells #[.int .i64 3, .string ⟨#[]⟩] 38)) := (Kept.putAt (Kept.refl (· = tb) w4) tb 0 c2.cells (fun _ => rfl)).alloc _
        have hT6 : Blk ((putAt w4 tb 0 c2.cells).alloc (.cells #[.int .i64 3, .string ⟨#[]⟩] 38)) tb 26 c2.cells := (Blk.put_ HT4.out 0 c2.cells).alloc _
        have hF6 : Blk ((putAt w4 tb 0 c2.cells).alloc (.cells #[.int .i64 3, .string ⟨#[]⟩] 38)) w4.heap.size 38 #[.int .i64 3, .string ⟨#[]⟩] := Blk.new' _ _ _ _ (by simp [Proofs.YtfamkemdgbnegaaDoor.putAt])
        generalize hW6 : ((putAt w4 tb 0 c2.cells).alloc (.cells #[.int .i64 3, .string ⟨#[]⟩] 38)) = W6 at y5 hT6 hF6 ⊢
        generalize w4.heap.size = fb at hF6 ⊢
        clear hW6 hhT hmT hlT
        have HP6 := Lib.hid (HP2.out _ _ y5 (fun i q => .inl ⟨Nat.le_of_eq (show i = tb from q).symm, (show i = tb from q) ▸ HTW.out⟩))
        have HX6 := Lib.hid (HX4.out.trans' y5 (fun i hi q => by have := HTL.out; omega))
        have HT6 := Lib.hid hT6
        have HF6 := Lib.hid hF6
        clear y5 hT6 hF6 HP2 HX4 HT4
        refine wp_region_3 (fun w1 => Ext W6 w1) [(0, 0), (1, 2), (2, 1), (4, 1), (3, 0), (5, 2), (6, 2), (7, 2)] (by kernel_rfl) (by kernel_rfl) (by kernel_rfl) (by kernel_rfl) ?_; intro l' hl'; simp only [List.map_cons, List.map_nil, List.getD_cons_zero, List.getD_cons_succ] at hl'; subst hl'
        have HY0 := Lib.hid (show Ext W6 W6.drew from (Kept.refl _ W6).drew)
        (repeat (first | ((apply w3_pure); (· go_simp); (· (intro w1; go_simp; try with_reducible rfl)); (intro K hK; go_simp; refine hK _ _ ?_; clear hK K)) | ((apply w3_skip); (· go_simp); (intro K hK; go_simp; refine hK _ _ ?_; clear hK K)) | ((apply w3_take); (· exact HY0.out); (· go_simp); (· (intro w1 hS; have d0 := Blk.ext HT6.out hS; have d1 := Blk.gets d0; have d2 := Blk.has d0; have d3 := d0.lt; have d4 := Blk.ext HF6.out hS; have d5 := Blk.gets d4; have d6 := Blk.has d4; have d7 := d4.lt;  go_simp; try with_reducible rfl)); (intro K hK; go_simp; refine hK _ _ ?_; clear hK K)) | ((apply w3_pass); (· exact HY0.out); (· go_simp); (intro K hK; go_simp; refine hK _ _ ?_; clear hK K))))
        (refine w3_act (fun K hK => ?_); go_simp)
        refine (told_any _ (HLW.out.ext (HX6.out.trans HY0.out))).mono ?_
        rintro e w7 ⟨rfl, hx7⟩
        have HY1 := Lib.hid (HY0.out.trans hx7)
        clear hx7
        refine hK.out _ _ (fun _ => HY1.out) ?_
        clear hK K
        (repeat (first | ((apply w3_pure); (· go_simp); (· (intro w1; go_simp; try with_reducible rfl)); (intro K hK; go_simp; refine hK _ _ ?_; clear hK K)) | ((apply w3_skip); (· go_simp); (intro K hK; go_simp; refine hK _ _ ?_; clear hK K)) | ((apply w3_take); (· exact HY1.out); (· go_simp); (· (intro w1 hS; have d0 := Blk.ext HT6.out hS; have d1 := Blk.gets d0; have d2 := Blk.has d0; have d3 := d0.lt; have d4 := Blk.ext HF6.out hS; have d5 := Blk.gets d4; have d6 := Blk.has d4; have d7 := d4.lt;  go_simp; try with_reducible rfl)); (intro K hK; go_simp; refine hK _ _ ?_; clear hK K)) | ((apply w3_pass); (· exact HY1.out); (· go_simp); (intro K hK; go_simp; refine hK _ _ ?_; clear hK K))))
        (refine w3_act (fun K hK => ?_); go_simp)
        refine (lcheck_any c2 _ _ _ HY1.out.size (HP6.out.ext HY1.out (Nat.le_refl _)) (HLW.out.ext (HX6.out.trans HY1.out))).mono ?_
        rintro e w8 ⟨rfl, hx8⟩
        rw [HFJ.out, show fltC (some ⟨3, E0⟩) = #[.int .i64 3, .string ⟨#[]⟩] from rfl]
        have HY2 := Lib.hid (HY1.out.trans hx8)
        clear hx8
        refine hK.out _ _ (fun _ => HY2.out) ?_
        clear hK K
        (repeat (first | ((apply w3_pure); (· go_simp); (· (intro w1; go_simp; try with_reducible rfl)); (intro K hK; go_simp; refine hK _ _ ?_; clear hK K)) | ((apply w3_skip); (· go_simp); (intro K hK; go_simp; refine hK _ _ ?_; clear hK K)) | (refine w3_end (by kernel_rfl) (fun K hK => ?_); go_simp; refine hK.out _ _ ?_; clear hK K))); refine w3_nil ?_
        go_wp2_with fail
        go_ret
        exact ⟨rfl, HX0.out.trans (HX6.out.trans HY2.out)⟩
end Go.Proofs.YtfamkemdgbnegaaDoor

/- Sorts: of programs that may come in: no more than there is room. -/
namespace Go.Proofs.YtfamkemdgbnegaaDoor
open Go.RowKit Go.Deep Go.ChangeShapes Go.WideShapes So
section
variable {H : Type} {enc : TypeId × Value → H} {P : Program} {w : World} {base : Nat} {held : Bool}
theorem slice_caps {T E : TypeId} {fuel : Nat} {A : Option Addr} {n cap : Nat} {d : DataW H} {ps : List MemPlace} (hu : P.underlying T = some (.slice E)) (h : DataW.trod enc P w base (fun _ => true) held fuel T [.slice A n cap] = some (d, ps)) (hw : light P T d) :
    n ≤ cap ∧ (A = none → cap = 0) ∧ n * P.bytesOf E ≤ reachBytes := by
  rcases DataW.trod_slice hu h with ⟨hcs, _⟩ | ⟨a, len, cap', elems, rest, m, hfu, hcs, hx, _, hl, hm, hlen, hel, hsp, _⟩
  · simp only [List.cons.injEq, Value.slice.injEq, and_true] at hcs
    obtain ⟨rfl, rfl, rfl⟩ := hcs
    exact ⟨Nat.le_refl _, fun _ => rfl, by simp⟩
  · simp only [List.cons.injEq, Value.slice.injEq, and_true] at hcs
    obtain ⟨rfl, rfl, rfl⟩ := hcs
    obtain ⟨hd, -⟩ := Prod.mk.inj hx
    subst hd
    unfold light at hw
    rw [DataW.weights] at hw
    simp only [hu, List.all_cons, Bool.and_eq_true, decide_eq_true_eq, List.length_map] at hw
    refine ⟨hl, (fun e => nomatch e), Nat.le_trans (Nat.mul_le_mul_right _ ?_) hw.1⟩
    omega
end
section
variable {H : Type} {enc : TypeId × Value → H} {w : World} {base : Nat} {held : Bool}
set_option maxRecDepth 100000 in
set_option maxHeartbeats 1000000 in
theorem caps_of {fuel : Nat} {c : Pc} {d : DataW H} {ps : List MemPlace} (hh : Trd w base held enc fuel 26 c.cells.toList d ps) : Caps c ∧ Roomy c 2 := by
  obtain ⟨h, hw⟩ := hh
  obtain ⟨m, rfl, hcl, hf⟩ := fields_of Tryd.underlying26 h hw
  obtain ⟨d3, p3, k3, l3⟩ := hf 3 _ rfl
  have k3 : DataW.trod enc Tryd.prog w base (fun _ => true) held m 23 ((c.cells.toList.drop 3).take (Tryd.prog.cellsOf 23)) = some (d3, p3) := k3
  rw [cellsSlV] at k3
  have l3 : light Tryd.prog 23 d3 := l3
  obtain ⟨d4, p4, k4, l4⟩ := hf 4 _ rfl
  have k4 : DataW.trod enc Tryd.prog w base (fun _ => true) held m 24 ((c.cells.toList.drop 4).take (Tryd.prog.cellsOf 24)) = some (d4, p4) := k4
  rw [cellsSlS] at k4
  have l4 : light Tryd.prog 24 d4 := l4
  obtain ⟨d5, p5, k5, l5⟩ := hf 5 _ rfl
  have k5 : DataW.trod enc Tryd.prog w base (fun _ => true) held m 24 ((c.cells.toList.drop 5).take (Tryd.prog.cellsOf 24)) = some (d5, p5) := k5
  rw [cellsSlS] at k5
  have l5 : light Tryd.prog 24 d5 := l5
  obtain ⟨d6, p6, k6, l6⟩ := hf 6 _ rfl
  have k6 : DataW.trod enc Tryd.prog w base (fun _ => true) held m 23 ((c.cells.toList.drop 6).take (Tryd.prog.cellsOf 23)) = some (d6, p6) := k6
  rw [cellsSlV] at k6
  have l6 : light Tryd.prog 23 d6 := l6
  obtain ⟨d7, p7, k7, l7⟩ := hf 7 _ rfl
  have k7 : DataW.trod enc Tryd.prog w base (fun _ => true) held m 24 ((c.cells.toList.drop 7).take (Tryd.prog.cellsOf 24)) = some (d7, p7) := k7
  rw [cellsSlS] at k7
  have l7 : light Tryd.prog 24 d7 := l7
  obtain ⟨d9, p9, k9, l9⟩ := hf 9 _ rfl
  have k9 : DataW.trod enc Tryd.prog w base (fun _ => true) held m 24 ((c.cells.toList.drop 9).take (Tryd.prog.cellsOf 24)) = some (d9, p9) := k9
  rw [cellsSlS] at k9
  have l9 : light Tryd.prog 24 d9 := l9
  obtain ⟨d10, p10, k10, l10⟩ := hf 10 _ rfl
  have k10 : DataW.trod enc Tryd.prog w base (fun _ => true) held m 24 ((c.cells.toList.drop 10).take (Tryd.prog.cellsOf 24)) = some (d10, p10) := k10
  rw [cellsSlS] at k10
  have l10 : light Tryd.prog 24 d10 := l10
  have q3 := slice_caps Tryd.underlying23 (show DataW.trod enc Tryd.prog w base (fun _ => true) held m 23 [.slice c.vars.A c.vars.n c.vars.c] = _ from k3) l3
  have q4 := slice_caps Tryd.underlying24 (show DataW.trod enc Tryd.prog w base (fun _ => true) held m 24 [.slice c.start.A c.start.n c.start.c] = _ from k4) l4
  have q5 := slice_caps Tryd.underlying24 (show DataW.trod enc Tryd.prog w base (fun _ => true) held m 24 [.slice c.turn.A c.turn.n c.turn.c] = _ from k5) l5
  have q6 := slice_caps Tryd.underlying23 (show DataW.trod enc Tryd.prog w base (fun _ => true) held m 23 [.slice c.params.A c.params.n c.params.c] = _ from k6) l6
  have q7 := slice_caps Tryd.underlying24 (show DataW.trod enc Tryd.prog w base (fun _ => true) held m 24 [.slice c.play.A c.play.n c.play.c] = _ from k7) l7
  have q9 := slice_caps Tryd.underlying24 (show DataW.trod enc Tryd.prog w base (fun _ => true) held m 24 [.slice c.quiet.A c.quiet.n c.quiet.c] = _ from k9) l9
  have q10 := slice_caps Tryd.underlying24 (show DataW.trod enc Tryd.prog w base (fun _ => true) held m 24 [.slice c.pays.A c.pays.n c.pays.c] = _ from k10) l10
  rw [bytesS] at q4 q5 q7 q9 q10
  refine ⟨⟨⟨q3.1, q3.2.1⟩, ⟨q4.1, q4.2.1⟩, ⟨q5.1, q5.2.1⟩, ⟨q6.1, q6.2.1⟩, ⟨q7.1, q7.2.1⟩, ⟨q9.1, q9.2.1⟩, ⟨q10.1, q10.2.1⟩⟩, fun i => ?_⟩
  have hrb : reachBytes = 140737488351232 := rfl
  rw [hrb] at q4 q5 q7 q9 q10
  match i with
  | 0 => show c.start.n * 112 + 2 * 112 ≤ _; omega
  | 1 => show c.turn.n * 112 + 2 * 112 ≤ _; omega
  | 2 => show c.play.n * 112 + 2 * 112 ≤ _; omega
  | 3 => show c.quiet.n * 112 + 2 * 112 ≤ _; omega
  | _ + 4 => show c.pays.n * 112 + 2 * 112 ≤ _; omega
end
set_option maxRecDepth 100000 in
theorem prog_in2 {H : Type} {enc : TypeId × Value → H} {W : World} {base : Nat} {v : Value} {d : DataW H} {p : List MemPlace} (o : Value.okWide Tryd.prog W .any base 26 v) (h : DataW.Trod enc Tryd.prog W 0 (fun _ => true) true 26 v d p) (z : light Tryd.prog 26 d) :
    ∃ (c : Pc) (q : Pr), v = .agg c.cells ∧ PAt W W.heap.size c q ∧ Caps c ∧ Roomy c 2 := by
  obtain ⟨cs, rfl⟩ : ∃ cs, v = .agg cs := by
    simp only [Value.okWide, Tryd.underlying26] at o
    obtain ⟨cs, h1, _⟩ := o
    exact ⟨cs, h1⟩
  obtain ⟨fuel, hf⟩ := h
  obtain ⟨c, q, e, hp⟩ := prog_of ⟨hf, z⟩
  have hf2 : DataW.trod enc Tryd.prog W 0 (fun _ => true) true fuel 26 c.cells.toList = some (d, p) := e ▸ hf
  obtain ⟨hc, hr⟩ := caps_of ⟨hf2, z⟩
  refine ⟨c, q, ?_, hp, hc, hr⟩
  cases cs
  simpa [Value.cells] using e
end Go.Proofs.YtfamkemdgbnegaaDoor
