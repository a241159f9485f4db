/- Several texts joined: Vf. -/
import Derived.Test.YtfamkemdgbnegaaDoorSdn
/- SortsFirst, of all that may come in. -/
namespace Go.Proofs.YtfamkemdgbnegaaDoor
open Go.RowKit Go.Deep Go.ChangeShapes Go.WideShapes So
namespace sortsFirst
set_option maxRecDepth 100000 in
theorem walk {H : Type} {enc : TypeId × Value → H} (W : World) (base : Nat) (v0 v1 v2 : Value) (d0 d1 d2 : DataW H) (p0 p1 p2 : List MemPlace)
    (o0 : Value.okWide Tryd.prog W .any base 26 v0) (o1 : Value.okWide Tryd.prog W .any base 3 v1) (o2 : Value.okWide Tryd.prog W .any base 3 v2)
    (h0 : DataW.Trod enc Tryd.prog W 0 (fun _ => true) true 26 v0 d0 p0) (h1 : DataW.Trod enc Tryd.prog W 0 (fun _ => true) true 3 v1 d1 p1) (h2 : DataW.Trod enc Tryd.prog W 0 (fun _ => true) true 3 v2 d2 p2) (hL : laidMetH Tryd.prog Rows.sortsFirstRow.laid W)
    (z0 : light Tryd.prog 26 d0) (_z1 : light Tryd.prog 3 d1) (_z2 : light Tryd.prog 3 d2) (hS : W.ShapedOpen Tryd.prog) :
    Calls Tryd.prog 5 #[v0, v1, v2] W fun e w' => e = .returned (.bool true) ∧ Ext W w' := by
  obtain ⟨k, rfl, rfl, rfl, _⟩ := open_int Tryd.underlying3 o1 h1
  obtain ⟨k2, rfl, rfl, rfl, _⟩ := open_int Tryd.underlying3 o2 h2
  obtain ⟨c, q, rfl, hp, hc, hr⟩ := prog_in2 o0 h0 z0
  exact lfirst_any c q k k2 W.heap.size W (Nat.le_refl _) hp (laid_at hL (five_blocks hS)) hc hr
end sortsFirst
end Go.Proofs.YtfamkemdgbnegaaDoor
