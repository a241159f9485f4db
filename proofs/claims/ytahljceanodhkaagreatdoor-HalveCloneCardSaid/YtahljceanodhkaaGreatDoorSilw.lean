/- HalveSilence: the walk for whatever came in. -/
import Derived.Test.YtahljceanodhkaaGreatDoorSil
namespace Go.Proofs.YtahljceanodhkaaGreatDoor
open Go.ChangeShapes Go.WideShapes Go.RowKit
theorem okWide_agg {P : Program} {w : World} {r : Reach} {base : Nat} {t : TypeId} {fs : Array Field} {v : Value} (ht : P.underlying t = some (.struct fs)) (h : Value.okWide P w r base t v) : ∃ cs, v = .agg cs ∧ cs.size = P.cellsOf t := by
  simp only [Value.okWide, ht] at h
  obtain ⟨cs, h1, h2, _⟩ := h
  exact ⟨cs, h1, h2⟩
set_option maxRecDepth 100000 in
/-- a deed by value -/
theorem deed_of {H : Type} {enc : TypeId × Value → H} {W : World} {base : Nat} {v : Value} {d : DataW H} {p : List MemPlace} (o : Value.okWide Tryz.prog W .any base 25 v)
    (h : DataW.Trod enc Tryz.prog W 0 (fun _ => true) true 25 v d p) : ∃ (wh : Int) (x : Dg) (f : Bool) (u : Value), v = .agg #[.int .u8 wh, .int .u8 x.x0, .int .u8 x.x1, .int .u8 x.x2, .int .u8 x.x3, .int .u8 x.x4, .int .u8 x.x5, .int .u8 x.x6, .int .u8 x.x7, .bool f, u] ∧ 0 ≤ wh ∧ wh ≤ 255 := by
  obtain ⟨cs, rfl, hsz⟩ := okWide_agg Tryz.underlying25 o
  obtain ⟨fuel, hf⟩ := h
  obtain ⟨wh, x, f, u, h0, h1, e⟩ := deed_cells hf
  refine ⟨wh, x, f, u, ?_, h0, h1⟩
  cases cs
  simpa [Value.cells] using e
namespace halveSilence
set_option maxRecDepth 100000 in
set_option maxHeartbeats 1000000 in
theorem long (d : Int) (hd0 : 0 ≤ d) (hd1 : d ≤ 255) (A : Option Addr) (len cap : Nat) (cs : Array Value) (w : World) (hl : 60 < len) (hm : len ≤ maxLen) :
    Calls Tryz.prog 3 #[.int .u8 d, .slice A len cap, .agg cs] w fun e w' => e = .returned (.bool true) ∧ Ext w w' := by
  unfold maxLen at hm
  go_enter Tryz.func3, Tryz.ntmps3
  go_wp2_with fail
  refine (new_ok (dg1 1) (dg1 2) (dg1 3) 7 _ ?_ ?_ (by decide) (by decide) _).mono ?_
  · omega
  · omega
  rintro e w1 ⟨g, hg, rfl, hA1, hx1⟩
  go_wp2_with fail
  refine (told_any _).mono ?_
  rintro e w2 ⟨rfl, hx2⟩
  go_wp2_with fail
  go_ret
  exact ⟨rfl, (((Kept.refl _ w).alloc _).trans hx1).trans hx2⟩
set_option maxRecDepth 100000 in
theorem walk {H : Type} {enc : TypeId × Value → H} (W : World) (base : Nat) (v0 v1 v2 : Value) (d0 d1 d2 : DataW H) (p0 p1 p2 : List MemPlace)
    (o0 : Value.okWide Tryz.prog W .any base 5 v0) (o1 : Value.okWide Tryz.prog W .any base 22 v1) (o2 : Value.okWide Tryz.prog W .any base 25 v2)
    (h0 : DataW.Trod enc Tryz.prog W 0 (fun _ => true) true 5 v0 d0 p0) (h1 : DataW.Trod enc Tryz.prog W 0 (fun _ => true) true 22 v1 d1 p1) (h2 : DataW.Trod enc Tryz.prog W 0 (fun _ => true) true 25 v2 d2 p2) :
    Calls Tryz.prog 3 #[v0, v1, v2] W fun e w' => e = .returned (.bool true) ∧ Ext W w' := by
  obtain ⟨a0, rfl, rfl, rfl, w0⟩ := open_int Tryz.underlying5 o0 h0
  have hx : 0 ≤ a0 ∧ a0 ≤ 255 := by simpa [Lit.wf, IntKind.min, IntKind.max, IntKind.signed, IntKind.bits] using w0
  obtain ⟨A, len, cap, rfl⟩ := okWide_slice Tryz.underlying22 o1
  obtain ⟨wh, x, f, u, rfl, _, _⟩ := deed_of o2 h2
  obtain ⟨fuel, hf⟩ := h1
  obtain ⟨A', b, off, len', cap', what, dg, first, e, hA', hD, hm⟩ := deeds_of hf
  simp at e
  obtain ⟨rfl, rfl, rfl⟩ := e
  by_cases hl : len ≤ 60
  · exact sil_walk a0 hx.1 hx.2 A b off len cap what dg first wh x f u W hA' hD hl
  · exact long a0 hx.1 hx.2 A len cap _ W (by omega) hm
end halveSilence
end Go.Proofs.YtahljceanodhkaaGreatDoor
