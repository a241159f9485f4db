/- A region that draws its order, walked in an order that is handed in (numbers, each with its flag): as Ord, whatever the text's order. -/
import Derived.Test.YtahljceanodhkaaGreatDoorOrd
namespace Go.Proofs.YtahljceanodhkaaGreatDoor
open Go.RowKit
section
variable {P : Program} {ops : Array Oper} {Q : Exit → Act → World → Prop} {S : World → Prop} {md : Region.Mode} {ex : Nat → Bool}
def exO (md : Region.Mode) (ops : Array Oper) (od : List (Nat × Bool)) (j : Nat) : Bool :=
  od.all fun p => !p.2 || p.1 == j || (downMask md ops ops.size (dpMask md ops j)).testBit p.1
theorem exO_spec {od : List (Nat × Bool)} {i j : Nat} {listed : Array Bool} (hf : (i, true) ∈ od) (hd : Down md ops listed) (hj : j ∈ Region.ready md ops listed) (hne : j ≠ i) (h : exO md ops od j = true) :
    listed.getD i false = true := by
  have h1 := List.all_eq_true.1 h _ hf
  simp only [Bool.not_true, Bool.false_or, Bool.or_eq_true, beq_iff_eq] at h1
  rcases h1 with h1 | h1
  · exact absurd h1.symm hne
  · obtain ⟨_, oj, hoj, hall⟩ := mem_ready.1 hj
    refine downMask_listed hd _ _ (fun x hx => ?_) i h1
    obtain ⟨o, ho, e, he, hb, rfl⟩ := dpMask_bit hx
    rw [hoj] at ho
    injection ho with ho
    subst ho
    exact hall e he hb
def ordO (md : Region.Mode) (ops : Array Oper) : List (Nat × Bool) → Array Bool → Bool
  | [], listed => (Region.ready md ops listed).isEmpty
  | (i, true) :: r, listed => Region.free md ops listed i && (Region.ready md ops listed).contains i && ordO md ops r (listed.setIfInBounds i true)
  | (i, false) :: r, listed => (Region.ready md ops listed == [i]) && ordO md ops r (listed.setIfInBounds i true)
def wpOd (P : Program) (ops : Array Oper) (Q : Exit → Act → World → Prop) (S : World → Prop) (od : List (Nat × Bool)) : List (Nat × Bool) → List Oper → Act → World → Prop
  | [], [], a, w => Q .normal a w
  | (_, true) :: r, o :: l, a, w => S w ∧ ∃ v, YieldsIf P ops S o v a ∧ wpOd P ops Q S od r l (a.put o.dst v) w
  | (k, false) :: r, o :: l, a, w =>
    if Region.wanted o (yielded ops a.tmps) then o.wp P a w (fun a' w' => (exO .any ops od k = true ∨ S w') ∧ wpOd P ops Q S od r l a' w') (noP Q) ∨ (o.asks P a w ∧ LetsOut (noP Q))
    else (exO .any ops od k = true ∨ S w) ∧ wpOd P ops Q S od r l (a.put o.dst undef) w
  | _, _, _, _ => False
theorem wpAnyG_of_od {od : List (Nat × Bool)} (hs : Region.noSelect ops = true) : ∀ (r : List (Nat × Bool)) (l : List Oper) (fuel : Nat) (listed : Array Bool) (a : Act) (w : World), l.length ≤ fuel → l.map some = r.map (fun p => ops[p.1]?) → (∀ p ∈ r, p ∈ od) → Down .any ops listed →
    ordO .any ops r listed = true → wpOd P ops Q S od r l a w → wpAnyG P .any ops (noP Q) S (exO .any ops od) fuel listed a w
  | [], [], fuel, listed, a, w, _, _, _, _, hB, h => wpAnyG_done (Q := noP Q) (by simpa [ordO] using hB) h fuel
  | _ :: _, [], fuel, listed, a, w, _, _, _, _, _, h => by simp [wpOd] at h
  | [], _ :: _, fuel, listed, a, w, _, _, _, _, _, h => by simp [wpOd] at h
  | _ :: _, _ :: _, 0, listed, a, w, hf, _, _, _, _, _ => by simp at hf
  | (i, true) :: r, o :: l, fuel + 1, listed, a, w, hf, hl, hr, hdn, hB, h => by
    obtain ⟨hS, v, hy, h⟩ := h
    simp only [ordO, Bool.and_eq_true] at hB
    simp only [List.map_cons, List.cons.injEq] at hl
    exact wpAnyG_take hdn hl.1.symm hs hB.1.1 hB.1.2 (fun j l hd hj hne hx => exO_spec (hr _ (by simp)) hd hj hne hx) (fun _ _ _ x => x) hy hS (wpAnyG_of_od hs r l fuel _ _ w (by simpa using hf)
      hl.2 (fun p hp => hr p (by simp [hp])) (hdn.set (by simpa using hB.1.2)) hB.2 h)
  | (i, false) :: r, o :: l, fuel + 1, listed, a, w, hf, hl, hr, hdn, hB, h => by
    simp only [ordO, Bool.and_eq_true, beq_iff_eq] at hB
    simp only [List.map_cons, List.cons.injEq] at hl
    refine wpAnyG_all hB.1 (by simp) fun j hj => ?_
    obtain rfl : j = i := by simpa using hj
    have h1 : wpOp P ops (noP Q) j (fun a' w' => (exO .any ops od j = true ∨ S w') ∧ wpOd P ops Q S od r l a' w') a w := by
      unfold wpOp
      rw [← hl.1]
      exact h
    exact wpOp_mono (fun a' w' h' => ⟨h'.1, wpAnyG_of_od hs r l fuel _ a' w' (by simpa using hf) hl.2 (fun p hp => hr p (by simp [hp])) (hdn.set (by rw [hB.1]; simp)) hB.2 h'.2⟩) h1
def nop : Oper := { dst := none, op := .load 0 (.tmp 0), type := 0, pos := "", after := #[], guard := none }
def inB (n : Nat) (od : List (Nat × Bool)) : Bool := od.all fun p => decide (p.1 < n)
theorem wp_region_od {id : Nat} {a : Act} {w : World} {l : List Oper} (S : World → Prop) (od : List (Nat × Bool)) (hm : P.follows .mixedOrders = true) (hs : Region.noSelect l.toArray = true)
    (hB : ordO .any l.toArray od (Array.replicate l.toArray.size false) = true) (hin : (inB l.length od && decide (od.length ≤ l.length)) = true)
    (h : ∀ l', l' = od.map (fun p => l.getD p.1 nop) → wpOd P l.toArray Q S od od l' a w.drew) : (Code.region id l.toArray true).wp P Q a w := by
  simp only [Bool.and_eq_true, decide_eq_true_eq] at hin
  refine Code.wp_mono noP.imp (wp_region_any hm (wpAny_of_G _ _ _ _ (wpAnyG_of_od hs od _ _ _ a _ ?_ ?_ (fun _ h => h) (Down.init _) hB (h _ rfl))))
  · simpa using hin.2
  · rw [List.map_map]
    refine List.map_congr_left fun p hp => ?_
    have hlt : p.1 < l.length := of_decide_eq_true (List.all_eq_true.1 hin.1 p hp)
    simp [List.getD, List.getElem?_eq_getElem hlt]
variable {od : List (Nat × Bool)} {k : Nat}
theorem wpOd_nil {a : Act} {w : World} (h : Q .normal a w) : wpOd P ops Q S od [] [] a w := h
theorem wpOd_take {l : List Oper} {r : List (Nat × Bool)} {a : Act} {w : World} {o : Oper} {v : Value} (hS : S w) (hw : Region.wanted o (yielded ops a.tmps) = true)
    (hy : ∀ w', S w' → (execOp a.eval o).run P w' = .ok (.value v) w') (h : ∀ K : Act → World → Prop, (∀ a w, wpOd P ops Q S od r l a w → K a w) → K (a.put o.dst v) w) : wpOd P ops Q S od ((k, true) :: r) (o :: l) a w :=
  ⟨hS, v, .inl ⟨hw, hy⟩, h _ (fun _ _ h => h)⟩
theorem wpOd_pass {l : List Oper} {r : List (Nat × Bool)} {a : Act} {w : World} {o : Oper} (hS : S w) (hw : Region.wanted o (yielded ops a.tmps) = false)
    (h : ∀ K : Act → World → Prop, (∀ a w, wpOd P ops Q S od r l a w → K a w) → K (a.put o.dst undef) w) : wpOd P ops Q S od ((k, true) :: r) (o :: l) a w :=
  ⟨hS, undef, .inr ⟨hw, rfl⟩, h _ (fun _ _ h => h)⟩
theorem wpOd_act {l : List Oper} {r : List (Nat × Bool)} {a : Act} {w : World} {o : Oper}
    (h : ∀ K : Act → World → Prop, Shut (∀ a' w', S w' → (S w' → wpOd P ops Q S od r l a' w') → K a' w') → if Region.wanted o (yielded ops a.tmps) = true then Oper.wp P o a w K (noP Q) else K (a.put o.dst undef) w) :
    wpOd P ops Q S od ((k, false) :: r) (o :: l) a w := by
  have h := h (fun a' w' => (exO .any ops od k = true ∨ S w') ∧ wpOd P ops Q S od r l a' w') (fun a' w' hS h => ⟨.inr hS, h hS⟩)
  unfold wpOd
  split
  · rename_i hw; rw [if_pos hw] at h; exact .inl h
  · rename_i hw; rw [if_neg hw] at h; exact h
theorem wpOd_end {l : List Oper} {r : List (Nat × Bool)} {a : Act} {w : World} {o : Oper} (hx : exO .any ops od k = true)
    (h : ∀ K : Act → World → Prop, Shut (∀ a' w', wpOd P ops Q S od r l a' w' → K a' w') → if Region.wanted o (yielded ops a.tmps) = true then Oper.wp P o a w K (noP Q) else K (a.put o.dst undef) w) :
    wpOd P ops Q S od ((k, false) :: r) (o :: l) a w := by
  have h := h (fun a' w' => (exO .any ops od k = true ∨ S w') ∧ wpOd P ops Q S od r l a' w') (fun a' w' h => ⟨.inl hx, h⟩)
  unfold wpOd
  split
  · rename_i hw; rw [if_pos hw] at h; exact .inl h
  · rename_i hw; rw [if_neg hw] at h; exact h
end
end Go.Proofs.YtahljceanodhkaaGreatDoor
