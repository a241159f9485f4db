/- HalveNil: the walk for whatever came in. -/
import Derived.Test.YtahljceanodhkaaGreatDoorNil
import Derived.Test.YtahljceanodhkaaGreatDoorDeeds
namespace Go.Proofs.YtahljceanodhkaaGreatDoor.halveNil
open Go.ChangeShapes Go.WideShapes Go.RowKit
theorem okWide_array {P : Program} {w : World} {r : Reach} {base : Nat} {t e : TypeId} {n : Nat} {v : Value} (ht : P.underlying t = some (.array n e)) (h : Value.okWide P w r base t v) : ∃ cs, v = .agg cs ∧ cs.size = P.cellsOf t := by
  simp only [Value.okWide, ht] at h
  obtain ⟨cs, h1, h2, _⟩ := h
  exact ⟨cs, h1, h2⟩
set_option maxRecDepth 100000 in
/-- eight bytes by value -/
theorem dig_of {H : Type} {enc : TypeId × Value → H} {W : World} {base : Nat} {v : Value} {d : DataW H} {p : List MemPlace} (o : Value.okWide Tryz.prog W .any base 23 v)
    (h : DataW.Trod enc Tryz.prog W 0 (fun _ => true) true 23 v d p) : ∃ x : Dg, v = .agg #[.int .u8 x.x0, .int .u8 x.x1, .int .u8 x.x2, .int .u8 x.x3, .int .u8 x.x4, .int .u8 x.x5, .int .u8 x.x6, .int .u8 x.x7] := by
  obtain ⟨cs, rfl, hsz⟩ := okWide_array Tryz.underlying23 o
  rw [cellsArr8] at hsz
  obtain ⟨fuel, hf⟩ := h
  obtain ⟨zs, m, _, _, _, hzl, hz⟩ := DataW.trod_array Tryz.underlying23 hf
  rw [cellsU8] at hz
  obtain ⟨l⟩ := cs
  have g : ∀ i (hi : i < 8), ∃ n, l[i]? = some (.int .u8 n) := fun i hi => by
    have hzi := hz i hi
    rw [List.getElem?_eq_getElem (show i < zs.length by omega)] at hzi
    obtain ⟨n, e, _, _⟩ := DataW.trod_int Tryz.underlying5 hzi
    refine ⟨n, ?_⟩
    have := congrArg (fun l => l[0]?) e
    simpa [Value.cells, List.getElem?_take, List.getElem?_drop] using this
  clear hz hf
  match l, hsz, g with
  | [c0, c1, c2, c3, c4, c5, c6, c7], _, g =>
    obtain ⟨n0, g0⟩ := g 0 (by omega)
    obtain ⟨n1, g1⟩ := g 1 (by omega)
    obtain ⟨n2, g2⟩ := g 2 (by omega)
    obtain ⟨n3, g3⟩ := g 3 (by omega)
    obtain ⟨n4, g4⟩ := g 4 (by omega)
    obtain ⟨n5, g5⟩ := g 5 (by omega)
    obtain ⟨n6, g6⟩ := g 6 (by omega)
    obtain ⟨n7, g7⟩ := g 7 (by omega)
    simp at g0 g1 g2 g3 g4 g5 g6 g7
    subst g0 g1 g2 g3 g4 g5 g6 g7
    exact ⟨⟨n0, n1, n2, n3, n4, n5, n6, n7⟩, rfl⟩
set_option maxRecDepth 100000 in
theorem walk {H : Type} {enc : TypeId × Value → H} (W : World) (base : Nat) (v0 v1 v2 : Value) (d0 d1 d2 : DataW H) (p0 p1 p2 : List MemPlace)
    (o0 : Value.okWide Tryz.prog W .any base 3 v0) (o1 : Value.okWide Tryz.prog W .any base 3 v1) (o2 : Value.okWide Tryz.prog W .any base 23 v2)
    (h0 : DataW.Trod enc Tryz.prog W 0 (fun _ => true) true 3 v0 d0 p0) (h1 : DataW.Trod enc Tryz.prog W 0 (fun _ => true) true 3 v1 d1 p1) (h2 : DataW.Trod enc Tryz.prog W 0 (fun _ => true) true 23 v2 d2 p2) :
    Calls Tryz.prog 5 #[v0, v1, v2] W fun e w' => e = .returned (.bool true) ∧ Ext W w' := by
  obtain ⟨a0, rfl, rfl, rfl, w0⟩ := open_int Tryz.underlying3 o0 h0
  obtain ⟨a1, rfl, rfl, rfl, w1⟩ := open_int Tryz.underlying3 o1 h1
  obtain ⟨x, rfl⟩ := dig_of o2 h2
  by_cases hr : 1 ≤ a0 ∧ a0 ≤ 2048 ∧ 0 ≤ a1 ∧ a1 ≤ 20
  · exact nil_walk a0 a1 x W hr
  · exact nil_walk_no a0 a1 x W (by omega)
end Go.Proofs.YtahljceanodhkaaGreatDoor.halveNil
