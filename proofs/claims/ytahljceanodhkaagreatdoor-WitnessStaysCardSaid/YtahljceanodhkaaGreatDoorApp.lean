/- append to a slice of the call's own: what it gives, in one fact. -/
import Derived.Test.YtahljceanodhkaaGreatDoorRc
import Derived.Laws.AppendOwn
import Derived.Laws.AppendOwnNone
namespace Go.Proofs.YtahljceanodhkaaGreatDoor
open Go.RowKit
theorem Kept.of_grown {w w' : World} {row : Option Nat} (h : w.grownBy w' row) : Kept (fun i => row = some i) w w' :=
  ⟨h.os, h.tape, h.output, h.size, fun k hk hn => h.block k hk (fun e => hn e.symm)⟩
theorem Row.cells {w : World} {b off : Nat} {vs : List Value} (h : Row w b off vs) : ∀ j u, vs[j]? = some u → w.cell? ((⟨b, off, none⟩ : Addr).add j) = some u := fun j u hu => by
  rw [addr_add', h.cell j (List.getElem?_eq_some_iff.1 hu).1, hu]
/-- one more list of elements, laid in memory, behind those that are owned -/
theorem app_some {P : Program} {T E : TypeId} {i : TypeInfo} {z : Value} {sz bytes : Nat} (ht : P.underlying T = some (.slice E)) (hi : P.info? E = some i) (hz : i.zero = some z) (h1 : i.size = sz) (h2 : i.bytes = bytes) (h3 : z.cells.size = sz) (h4 : 0 < sz)
    (w : World) (base : Nat) (v : Value) (n : Nat) (xs : List Value) (hown : w.ownsRow base E sz v n xs) (b off m c : Nat) (ys : List Value) (hl : ys.length = m * sz) (hr : Row w b off ys) (hf : flatL ys = true) (hn : n + m ≤ maxLen) (hb : (n + m) * bytes ≤ 140737488355328) (hbase : base ≤ w.heap.size) :
    ∃ v' w', (Builtin.append_ #[T, T] T #[v, .slice (some ⟨b, off, none⟩) m c]).run P w = .ok v' w' ∧ w'.ownsRow base E sz v' (n + m) (xs ++ ys) ∧ Kept (fun i => v.ownBlock = some i) w w' := by
  obtain ⟨v', w', hrun, ho, hg, _⟩ := run_append_own (P := P) w base T T E i z sz bytes ht hi hz h1 h2 h3 h4 v n xs hown ⟨b, off, none⟩ m c ys hl hr.cells (flatL_all hf) hn hb hbase
  exact ⟨v', w', hrun, ho, Kept.of_grown hg⟩
/-- the operation append, by what its run is known to be -/
theorem wpList_app {P : Program} {w : World} {ops : Array Oper} {rest : List Oper} {o : Oper} {a : Act} {Q : Exit → Act → World → Prop} (hgd : o.guard = none) (x y : Operand) (T : TypeId)
    (ho : o.op = .call { callee := .builtin .append, args := #[x, y], argTypes := #[T, T] }) {ty : TypeId} (hty : o.type = ty) {v s v' : Value} {w' : World} (hx : a.eval x = v) (hy : a.eval y = s)
    (hrun : (Builtin.append_ #[T, T] ty #[v, s]).run P w = .ok v' w') (h : wpList P ops Q rest (a.put o.dst v') w') : wpList P ops Q (o :: rest) a w :=
  wpList_plain hgd fun _ hK => by
    subst hty
    unfold Oper.wp execOp
    simp only [ho, resolve, invoke, builtin, Sem.run_bind, Sem.run_pure, Result.andThen_ok, List.map_toArray, List.map_cons, List.map_nil, hx, hy, hrun]
    exact hK _ _ h
end Go.Proofs.YtahljceanodhkaaGreatDoor
