/- HalveClone: the walk for whatever came in. -/
import Derived.Test.YtahljceanodhkaaGreatDoorClow
namespace Go.Proofs.YtahljceanodhkaaGreatDoor.halveClone
open Go.ChangeShapes Go.WideShapes Go.RowKit
set_option maxRecDepth 100000 in
set_option maxHeartbeats 1000000 in
theorem long (d : Int) (hd0 : 0 ≤ d) (hd1 : d ≤ 255) (A : Option Addr) (len cap : Nat) (cs : Array Value) (w : World) (hl : 40 < len) (hm : len ≤ maxLen) :
    Calls Tryz.prog 4 #[.int .u8 d, .slice A len cap, .agg cs] w fun e w' => e = .returned (.bool true) ∧ Ext w w' := by
  unfold maxLen at hm
  go_enter Tryz.func4, Tryz.ntmps4
  go_wp2_with fail
  refine (new_ok (dg1 1) (dg1 2) (dg1 3) 7 _ ?_ ?_ (by decide) (by decide) _).mono ?_
  · omega
  · omega
  rintro e w1 ⟨g, hg, rfl, hA1, hx1⟩
  go_wp2_with fail
  refine (rnew_ok (dg1 2) (dg1 3) 7 _ ?_ ?_ (by decide) (by decide) _).mono ?_
  · omega
  · omega
  rintro e w2 ⟨rfl, hx2⟩
  go_wp2_with fail
  refine (told_any _).mono ?_
  rintro e w3 ⟨rfl, hx3⟩
  go_wp2_with fail
  go_ret
  exact ⟨rfl, ((((Kept.refl _ w).alloc _).trans hx1).trans hx2).alloc _ |>.trans hx3⟩
set_option maxRecDepth 100000 in
theorem walk {H : Type} {enc : TypeId × Value → H} (W : World) (base : Nat) (v0 v1 v2 : Value) (d0 d1 d2 : DataW H) (p0 p1 p2 : List MemPlace)
    (o0 : Value.okWide Tryz.prog W .any base 5 v0) (o1 : Value.okWide Tryz.prog W .any base 22 v1) (o2 : Value.okWide Tryz.prog W .any base 25 v2)
    (h0 : DataW.Trod enc Tryz.prog W 0 (fun _ => true) true 5 v0 d0 p0) (h1 : DataW.Trod enc Tryz.prog W 0 (fun _ => true) true 22 v1 d1 p1) (h2 : DataW.Trod enc Tryz.prog W 0 (fun _ => true) true 25 v2 d2 p2) :
    Calls Tryz.prog 4 #[v0, v1, v2] W fun e w' => e = .returned (.bool true) ∧ Ext W w' := by
  obtain ⟨a0, rfl, rfl, rfl, w0⟩ := open_int Tryz.underlying5 o0 h0
  have hx : 0 ≤ a0 ∧ a0 ≤ 255 := by simpa [Lit.wf, IntKind.min, IntKind.max, IntKind.signed, IntKind.bits] using w0
  obtain ⟨A, len, cap, rfl⟩ := okWide_slice Tryz.underlying22 o1
  obtain ⟨wh, x, f, u, rfl, hw0, hw1⟩ := deed_of o2 h2
  obtain ⟨fuel, hf⟩ := h1
  obtain ⟨A', b, off, len', cap', what, dg, first, last, e, hA', hD, hm⟩ := deeds11_of hf
  simp at e
  obtain ⟨rfl, rfl, rfl⟩ := e
  by_cases hl : len ≤ 40
  · exact clo_walk a0 hx.1 hx.2 A b off len cap what dg first last wh x f u W hA' hD hl hw0 hw1
  · exact long a0 hx.1 hx.2 A len cap _ W (by omega) hm
end Go.Proofs.YtahljceanodhkaaGreatDoor.halveClone
