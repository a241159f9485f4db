/- A region that draws its order, walked in an order that is handed in. Each operation has a kind: 2: it yields the same value in every world; 1: in every world that meets S; 0: it acts, and comes up alone. S need not hold behind an acting one that waits for all of kind 1. -/
import Derived.Test.YtahljceanodhkaaGreatDoorAllo
namespace Go.Proofs.YtahljceanodhkaaGreatDoor
open Go.RowKit
section
variable {P : Program} {ops : Array Oper} {Q : Exit → Act → World → Prop} {S : World → Prop} {md : Region.Mode} {ex : Nat → Bool}
def wpAnyH (P : Program) (md : Region.Mode) (ops : Array Oper) (Q : Exit → Act → World → Prop) (S : World → Prop) (ex : Nat → Bool) : Nat → Array Bool → Act → World → Prop
  | 0, listed, a, w => Region.ready md ops listed = [] ∧ Q .normal a w
  | fuel + 1, listed, a, w =>
    (Region.ready md ops listed = [] → Q .normal a w) ∧
    ∀ i ∈ Region.ready md ops listed, wpOp P ops Q i (fun a' w' => (ex i = true ∨ (S w → S w')) ∧ wpAnyH P md ops Q S ex fuel (listed.setIfInBounds i true) a' w') a w
theorem wpAny_of_H : ∀ (fuel : Nat) (listed : Array Bool) (a : Act) (w : World), wpAnyH P md ops Q S ex fuel listed a w → wpAny P md ops Q fuel listed a w
  | 0, _, _, _, h => h
  | fuel + 1, _, _, _, h => ⟨h.1, fun i hi => wpOp_mono (fun a' w' h' => wpAny_of_H fuel _ a' w' h'.2) (h.2 i hi)⟩
theorem notin {i : Nat} {listed : Array Bool} {oj : Oper} (hr : i ∈ Region.ready md ops listed) (hall : ∀ e ∈ oj.after, Region.binds md e = true → listed.getD e.on false = true) :
    ∀ e ∈ oj.after, Region.binds md e = true → e.on ≠ i := fun e he hb heq => by
  have h1 := hall e he hb
  have h0 := (mem_ready.1 hr).1
  rw [heq] at h1
  rcases Nat.lt_or_ge i listed.size with h' | h'
  · simp [h'] at h0 h1; rw [h0] at h1; cases h1
  · simp [Array.getElem?_eq_none h'] at h1
theorem wpAnyH_first {i : Nat} {oi : Oper} {v : Value} (hi : ops[i]? = some oi) (hsel : ∀ (j : Nat) (o : Oper) cs b, ops[j]? = some o → o.op ≠ .select cs b)
    (hQ : ∀ c a w, Q (.panic c) (a.put oi.dst v) w → Q (.panic c) a w)
    (hex : ∀ j listed, Down md ops listed → j ∈ Region.ready md ops listed → j ≠ i → ex j = true → listed.getD i false = true) :
    ∀ (fuel : Nat) (listed : Array Bool) (a : Act) (w : World), Down md ops listed →
      (∀ j oj, ops[j]? = some oj → j ≠ i → listed.getD j true = false → (∀ e ∈ oj.after, Region.binds md e = true → e.on ≠ i) → oi.apart ops oj = true) →
      i ∈ Region.ready md ops listed → YieldsIf P ops S oi v a → S w →
      wpAnyH P md ops Q S ex fuel (listed.setIfInBounds i true) (a.put oi.dst v) w → wpAnyH P md ops Q S ex (fuel + 1) listed a w := by
  intro fuel
  induction fuel with
  | zero =>
    intro listed a w _ _ hr hy hS H
    refine ⟨fun h => (by rw [h] at hr; cases hr), fun j hj => ?_⟩
    by_cases hji : j = i
    · subst hji; exact hy.wpOp hi hS ⟨.inr id, H⟩
    · have := ready_mono hj hji
      rw [H.1] at this
      cases this
  | succ fuel ih =>
    intro listed a w hdn hfree hr hy hS H
    refine ⟨fun h => (by rw [h] at hr; cases hr), fun j hj => ?_⟩
    by_cases hji : j = i
    · subst hji; exact hy.wpOp hi hS ⟨.inr id, H⟩
    · have h1 := H.2 j (ready_mono hj hji)
      obtain ⟨hjun, oj, hoj, hall⟩ := mem_ready.1 hj
      have hnot := notin hr hall
      have hnex : ex j = true → False := fun h => by
        have h1 := hex j listed hdn hj hji h
        have h0 := (mem_ready.1 hr).1
        rcases Nat.lt_or_ge i listed.size with h' | h'
        · simp [h'] at h0 h1; rw [h0] at h1; cases h1
        · simp [Array.getElem?_eq_none h'] at h1
      have h2 := wpOp_putIf hoj (hfree j oj hoj hji hjun hnot) (fun cs b => hsel i oi cs b hi) (fun cs b => hsel j oj cs b hoj) hQ hy h1
      have hfree' : ∀ k ok, ops[k]? = some ok → k ≠ i → (listed.setIfInBounds j true).getD k true = false →
          (∀ e ∈ ok.after, Region.binds md e = true → e.on ≠ i) → oi.apart ops ok = true := fun k ok hk hki hun hno => by
        refine hfree k ok hk hki ?_ hno
        by_cases hjk : j = k
        · subst hjk; exact hjun
        · rw [getD_set_ne true hjk] at hun; exact hun
      refine wpOp_mono (fun a' w' h3 => ?_) h2
      have hS' : S w' := h3.2.1.elim (fun h => (hnex h).elim) (fun h => h hS)
      refine ⟨.inr fun _ => hS', ih (listed.setIfInBounds j true) a' w' (hdn.set hj) hfree' (ready_mono hr (Ne.symm hji)) h3.1 hS' ?_⟩
      rw [Array.setIfInBounds_comm _ _ hji]
      exact h3.2.2
theorem wpAnyH_pure {i : Nat} {oi : Oper} {v : Value} (hi : ops[i]? = some oi) (hsel : ∀ (j : Nat) (o : Oper) cs b, ops[j]? = some o → o.op ≠ .select cs b)
    (hQ : ∀ c a w, Q (.panic c) (a.put oi.dst v) w → Q (.panic c) a w) :
    ∀ (fuel : Nat) (listed : Array Bool) (a : Act) (w : World),
      (∀ j oj, ops[j]? = some oj → j ≠ i → listed.getD j true = false → (∀ e ∈ oj.after, Region.binds md e = true → e.on ≠ i) → oi.apart ops oj = true) →
      i ∈ Region.ready md ops listed → YieldsIf P ops (fun _ => True) oi v a →
      wpAnyH P md ops Q S ex fuel (listed.setIfInBounds i true) (a.put oi.dst v) w → wpAnyH P md ops Q S ex (fuel + 1) listed a w := by
  intro fuel
  induction fuel with
  | zero =>
    intro listed a w _ hr hy H
    refine ⟨fun h => (by rw [h] at hr; cases hr), fun j hj => ?_⟩
    by_cases hji : j = i
    · subst hji; exact hy.wpOp hi trivial ⟨.inr id, H⟩
    · have := ready_mono hj hji
      rw [H.1] at this
      cases this
  | succ fuel ih =>
    intro listed a w hfree hr hy H
    refine ⟨fun h => (by rw [h] at hr; cases hr), fun j hj => ?_⟩
    by_cases hji : j = i
    · subst hji; exact hy.wpOp hi trivial ⟨.inr id, H⟩
    · have h1 := H.2 j (ready_mono hj hji)
      obtain ⟨hjun, oj, hoj, hall⟩ := mem_ready.1 hj
      have hnot := notin hr hall
      have h2 := wpOp_putIf hoj (hfree j oj hoj hji hjun hnot) (fun cs b => hsel i oi cs b hi) (fun cs b => hsel j oj cs b hoj) hQ hy h1
      have hfree' : ∀ k ok, ops[k]? = some ok → k ≠ i → (listed.setIfInBounds j true).getD k true = false →
          (∀ e ∈ ok.after, Region.binds md e = true → e.on ≠ i) → oi.apart ops ok = true := fun k ok hk hki hun hno => by
        refine hfree k ok hk hki ?_ hno
        by_cases hjk : j = k
        · subst hjk; exact hjun
        · rw [getD_set_ne true hjk] at hun; exact hun
      refine wpOp_mono (fun a' w' h3 => ?_) h2
      refine ⟨h3.2.1, ih (listed.setIfInBounds j true) a' w' hfree' (ready_mono hr (Ne.symm hji)) h3.1 ?_⟩
      rw [Array.setIfInBounds_comm _ _ hji]
      exact h3.2.2
theorem wpAnyH_all {rs : List Nat} {fuel : Nat} {listed : Array Bool} {a : Act} {w : World} (hr : Region.ready md ops listed = rs) (hne : rs ≠ [])
    (h : ∀ i ∈ rs, wpOp P ops Q i (fun a' w' => (ex i = true ∨ (S w → S w')) ∧ wpAnyH P md ops Q S ex fuel (listed.setIfInBounds i true) a' w') a w) : wpAnyH P md ops Q S ex (fuel + 1) listed a w :=
  ⟨fun h0 => absurd (hr ▸ h0) hne, hr ▸ h⟩
theorem wpAnyH_done {listed : Array Bool} {a : Act} {w : World} (hr : Region.ready md ops listed = []) (h : Q .normal a w) :
    ∀ fuel, wpAnyH P md ops Q S ex fuel listed a w
  | 0 => ⟨hr, h⟩
  | _ + 1 => ⟨fun _ => h, by rw [hr]; simp⟩
def exP (md : Region.Mode) (ops : Array Oper) (od : List (Nat × Nat)) (j : Nat) : Bool :=
  od.all fun p => !(p.2 == 1) || p.1 == j || (downMask md ops ops.size (dpMask md ops j)).testBit p.1
theorem exP_spec {od : List (Nat × Nat)} {i j : Nat} {listed : Array Bool} (hf : (i, 1) ∈ od) (hd : Down md ops listed) (hj : j ∈ Region.ready md ops listed) (hne : j ≠ i) (h : exP md ops od j = true) :
    listed.getD i false = true := by
  have h1 := List.all_eq_true.1 h _ hf
  simp only [beq_self_eq_true, Bool.not_true, Bool.false_or, Bool.or_eq_true, beq_iff_eq] at h1
  rcases h1 with h1 | h1
  · exact absurd h1.symm hne
  · obtain ⟨_, oj, hoj, hall⟩ := mem_ready.1 hj
    refine downMask_listed hd _ _ (fun x hx => ?_) i h1
    obtain ⟨o, ho, e, he, hb, rfl⟩ := dpMask_bit hx
    rw [hoj] at ho
    injection ho with ho
    subst ho
    exact hall e he hb
def ordP (md : Region.Mode) (ops : Array Oper) : List (Nat × Nat) → Array Bool → Bool
  | [], listed => (Region.ready md ops listed).isEmpty
  | (i, 0) :: r, listed => (Region.ready md ops listed == [i]) && ordP md ops r (listed.setIfInBounds i true)
  | (i, _ + 1) :: r, listed => Region.free md ops listed i && (Region.ready md ops listed).contains i && ordP md ops r (listed.setIfInBounds i true)
def wpOp3 (P : Program) (ops : Array Oper) (Q : Exit → Act → World → Prop) (S : World → Prop) (od : List (Nat × Nat)) : List (Nat × Nat) → List Oper → Act → World → Prop
  | [], [], a, w => Q .normal a w
  | (k, 0) :: r, o :: l, a, w =>
    if Region.wanted o (yielded ops a.tmps) then o.wp P a w (fun a' w' => (exP .any ops od k = true ∨ (S w → S w')) ∧ wpOp3 P ops Q S od r l a' w') (noP Q) ∨ (o.asks P a w ∧ LetsOut (noP Q))
    else wpOp3 P ops Q S od r l (a.put o.dst undef) w
  | (_, 1) :: r, o :: l, a, w => S w ∧ ∃ v, YieldsIf P ops S o v a ∧ wpOp3 P ops Q S od r l (a.put o.dst v) w
  | (_, _ + 2) :: r, o :: l, a, w => ∃ v, YieldsIf P ops (fun _ => True) o v a ∧ wpOp3 P ops Q S od r l (a.put o.dst v) w
  | _, _, _, _ => False
theorem wpAnyH_of_3 {od : List (Nat × Nat)} (hs : Region.noSelect ops = true) : ∀ (r : List (Nat × Nat)) (l : List Oper) (fuel : Nat) (listed : Array Bool) (a : Act) (w : World), l.length ≤ fuel → l.map some = r.map (fun p => ops[p.1]?) → (∀ p ∈ r, p ∈ od) → Down .any ops listed →
    ordP .any ops r listed = true → wpOp3 P ops Q S od r l a w → wpAnyH P .any ops (noP Q) S (exP .any ops od) fuel listed a w
  | [], [], fuel, listed, a, w, _, _, _, _, hB, h => wpAnyH_done (Q := noP Q) (by simpa [ordP] using hB) h fuel
  | _ :: _, [], fuel, listed, a, w, _, _, _, _, _, h => by simp [wpOp3] at h
  | [], _ :: _, fuel, listed, a, w, _, _, _, _, _, h => by simp [wpOp3] at h
  | _ :: _, _ :: _, 0, listed, a, w, hf, _, _, _, _, _ => by simp at hf
  | (i, 1) :: r, o :: l, fuel + 1, listed, a, w, hf, hl, hr, hdn, hB, h => by
    obtain ⟨hS, v, hy, h⟩ := h
    simp only [ordP, Bool.and_eq_true] at hB
    simp only [List.map_cons, List.cons.injEq] at hl
    exact wpAnyH_first hl.1.symm (Region.noSelect_spec hs) (fun _ _ _ x => x) (fun j l hd hj hne hx => exP_spec (hr _ (by simp)) hd hj hne hx) fuel listed a w hdn (Region.free_spec hl.1.symm hB.1.1) (by simpa using hB.1.2) hy hS
      (wpAnyH_of_3 hs r l fuel _ _ w (by simpa using hf) hl.2 (fun p hp => hr p (by simp [hp])) (hdn.set (by simpa using hB.1.2)) hB.2 h)
  | (i, n + 2) :: r, o :: l, fuel + 1, listed, a, w, hf, hl, hr, hdn, hB, h => by
    obtain ⟨v, hy, h⟩ := h
    simp only [ordP, Bool.and_eq_true] at hB
    simp only [List.map_cons, List.cons.injEq] at hl
    exact wpAnyH_pure hl.1.symm (Region.noSelect_spec hs) (fun _ _ _ x => x) fuel listed a w (Region.free_spec hl.1.symm hB.1.1) (by simpa using hB.1.2) hy
      (wpAnyH_of_3 hs r l fuel _ _ w (by simpa using hf) hl.2 (fun p hp => hr p (by simp [hp])) (hdn.set (by simpa using hB.1.2)) hB.2 h)
  | (i, 0) :: r, o :: l, fuel + 1, listed, a, w, hf, hl, hr, hdn, hB, h => by
    simp only [ordP, Bool.and_eq_true, beq_iff_eq] at hB
    simp only [List.map_cons, List.cons.injEq] at hl
    refine wpAnyH_all hB.1 (by simp) fun j hj => ?_
    obtain rfl : j = i := by simpa using hj
    have h1 : wpOp P ops (noP Q) j (fun a' w' => (exP .any ops od j = true ∨ (S w → S w')) ∧ wpOp3 P ops Q S od r l a' w') a w := by
      unfold wpOp
      rw [← hl.1]
      unfold wpOp3 at h
      by_cases hw : Region.wanted o (yielded ops a.tmps) = true
      · rw [if_pos hw] at h
        simp only [if_pos hw]
        exact h
      · rw [if_neg hw] at h
        simp only [if_neg hw]
        exact ⟨.inr id, h⟩
    exact wpOp_mono (fun a' w' h' => ⟨h'.1, wpAnyH_of_3 hs r l fuel _ a' w' (by simpa using hf) hl.2 (fun p hp => hr p (by simp [hp])) (hdn.set (by rw [hB.1]; simp)) hB.2 h'.2⟩) h1
def inP (n : Nat) (od : List (Nat × Nat)) : Bool := od.all fun p => decide (p.1 < n)
theorem wp_region_3 {id : Nat} {a : Act} {w : World} {l : List Oper} (S : World → Prop) (od : List (Nat × Nat)) (hm : P.follows .mixedOrders = true) (hs : Region.noSelect l.toArray = true)
    (hB : ordP .any l.toArray od (Array.replicate l.toArray.size false) = true) (hin : (inP l.length od && decide (od.length ≤ l.length)) = true)
    (h : ∀ l', l' = od.map (fun p => l.getD p.1 nop) → wpOp3 P l.toArray Q S od od l' a w.drew) : (Code.region id l.toArray true).wp P Q a w := by
  simp only [Bool.and_eq_true, decide_eq_true_eq] at hin
  refine Code.wp_mono noP.imp (wp_region_any hm (wpAny_of_H _ _ _ _ (wpAnyH_of_3 hs od _ _ _ a _ ?_ ?_ (fun _ h => h) (Down.init _) hB (h _ rfl))))
  · simpa using hin.2
  · rw [List.map_map]
    refine List.map_congr_left fun p hp => ?_
    have hlt : p.1 < l.length := of_decide_eq_true (List.all_eq_true.1 hin.1 p hp)
    simp [List.getD, List.getElem?_eq_getElem hlt]
variable {od : List (Nat × Nat)} {k : Nat}
theorem w3_nil {a : Act} {w : World} (h : Q .normal a w) : wpOp3 P ops Q S od [] [] a w := h
theorem w3_take {l : List Oper} {r : List (Nat × Nat)} {a : Act} {w : World} {o : Oper} {v : Value} (hS : S w) (hw : Region.wanted o (yielded ops a.tmps) = true)
    (hy : ∀ w', S w' → (execOp a.eval o).run P w' = .ok (.value v) w') (h : ∀ K : Act → World → Prop, (∀ a w, wpOp3 P ops Q S od r l a w → K a w) → K (a.put o.dst v) w) : wpOp3 P ops Q S od ((k, 1) :: r) (o :: l) a w :=
  ⟨hS, v, .inl ⟨hw, hy⟩, h _ (fun _ _ h => h)⟩
theorem w3_pass {l : List Oper} {r : List (Nat × Nat)} {a : Act} {w : World} {o : Oper} (hS : S w) (hw : Region.wanted o (yielded ops a.tmps) = false)
    (h : ∀ K : Act → World → Prop, (∀ a w, wpOp3 P ops Q S od r l a w → K a w) → K (a.put o.dst undef) w) : wpOp3 P ops Q S od ((k, 1) :: r) (o :: l) a w :=
  ⟨hS, undef, .inr ⟨hw, rfl⟩, h _ (fun _ _ h => h)⟩
theorem w3_pure {l : List Oper} {r : List (Nat × Nat)} {a : Act} {w : World} {o : Oper} {v : Value} (hw : Region.wanted o (yielded ops a.tmps) = true)
    (hy : ∀ w', (execOp a.eval o).run P w' = .ok (.value v) w') (h : ∀ K : Act → World → Prop, (∀ a w, wpOp3 P ops Q S od r l a w → K a w) → K (a.put o.dst v) w) : wpOp3 P ops Q S od ((k, 2) :: r) (o :: l) a w :=
  ⟨v, .inl ⟨hw, fun w _ => hy w⟩, h _ (fun _ _ h => h)⟩
theorem w3_skip {l : List Oper} {r : List (Nat × Nat)} {a : Act} {w : World} {o : Oper} (hw : Region.wanted o (yielded ops a.tmps) = false)
    (h : ∀ K : Act → World → Prop, (∀ a w, wpOp3 P ops Q S od r l a w → K a w) → K (a.put o.dst undef) w) : wpOp3 P ops Q S od ((k, 2) :: r) (o :: l) a w :=
  ⟨undef, .inr ⟨hw, rfl⟩, h _ (fun _ _ h => h)⟩
theorem w3_act {l : List Oper} {r : List (Nat × Nat)} {a : Act} {w : World} {o : Oper}
    (h : ∀ K : Act → World → Prop, Shut (∀ a' w', (S w → S w') → wpOp3 P ops Q S od r l a' w' → K a' w') → if Region.wanted o (yielded ops a.tmps) = true then Oper.wp P o a w K (noP Q) else K (a.put o.dst undef) w) :
    wpOp3 P ops Q S od ((k, 0) :: r) (o :: l) a w := by
  unfold wpOp3
  split
  · rename_i hw
    have h := h (fun a' w' => (exP .any ops od k = true ∨ (S w → S w')) ∧ wpOp3 P ops Q S od r l a' w') (fun a' w' hS h => ⟨.inr hS, h⟩)
    rw [if_pos hw] at h; exact .inl h
  · rename_i hw
    have h := h (fun a' w' => wpOp3 P ops Q S od r l a' w') (fun a' w' _ h => h)
    rw [if_neg hw] at h; exact h
theorem w3_end {l : List Oper} {r : List (Nat × Nat)} {a : Act} {w : World} {o : Oper} (hx : exP .any ops od k = true)
    (h : ∀ K : Act → World → Prop, Shut (∀ a' w', wpOp3 P ops Q S od r l a' w' → K a' w') → if Region.wanted o (yielded ops a.tmps) = true then Oper.wp P o a w K (noP Q) else K (a.put o.dst undef) w) :
    wpOp3 P ops Q S od ((k, 0) :: r) (o :: l) a w := by
  unfold wpOp3
  split
  · rename_i hw
    have h := h (fun a' w' => (exP .any ops od k = true ∨ (S w → S w')) ∧ wpOp3 P ops Q S od r l a' w') (fun a' w' h => ⟨.inl hx, h⟩)
    rw [if_pos hw] at h; exact .inl h
  · rename_i hw
    have h := h (fun a' w' => wpOp3 P ops Q S od r l a' w') (fun a' w' h => h)
    rw [if_neg hw] at h; exact h
/-- a region whose operations are listed in two parts -/
theorem app_nil (l : List Oper) : List.append [] l = l := rfl
theorem app_cons (o : Oper) (l l' : List Oper) : List.append (o :: l) l' = o :: List.append l l' := rfl
end
end Go.Proofs.YtahljceanodhkaaGreatDoor
