/- A region that draws its order, walked by a plan: as Ordp, and where two acting operations may come up, both ways are walked. -/
import Derived.Test.YtahljceanodhkaaGreatDoorOrdp
namespace Go.Proofs.YtahljceanodhkaaGreatDoor
open Go.RowKit
inductive Pl0 where
  | nil
  | op (i k : Nat) (r : Pl0)
  | fork (i : Nat) (p : Pl0) (j : Nat) (q : Pl0)
inductive Pl where
  | nil
  | op (i k : Nat) (o : Oper) (r : Pl)
  | fork (i : Nat) (o : Oper) (p : Pl) (j : Nat) (o' : Oper) (q : Pl)
def Pl0.fill (l : List Oper) : Pl0 → Pl
  | .nil => .nil
  | .op i k r => .op i k (l.getD i nop) (r.fill l)
  | .fork i p j q => .fork i (l.getD i nop) (p.fill l) j (l.getD j nop) (q.fill l)
def Pl0.st : Pl0 → List Nat
  | .nil => []
  | .op i k r => if k = 1 then i :: r.st else r.st
  | .fork _ p _ q => p.st ++ q.st
def Pl0.len : Pl0 → Nat
  | .nil => 0
  | .op _ _ r => r.len + 1
  | .fork _ p _ q => max p.len q.len + 1
section
variable {P : Program} {ops : Array Oper} {Q : Exit → Act → World → Prop} {S : World → Prop}
def exQ (md : Region.Mode) (ops : Array Oper) (st : List Nat) (j : Nat) : Bool :=
  st.all fun i => i == j || (downMask md ops ops.size (dpMask md ops j)).testBit i
theorem exQ_spec {md : Region.Mode} {st : List Nat} {i j : Nat} {listed : Array Bool} (hf : i ∈ st) (hd : Down md ops listed) (hj : j ∈ Region.ready md ops listed) (hne : j ≠ i) (h : exQ md ops st j = true) :
    listed.getD i false = true := by
  have h1 := List.all_eq_true.1 h _ hf
  simp only [Bool.or_eq_true, beq_iff_eq] at h1
  rcases h1 with h1 | h1
  · exact absurd h1.symm hne
  · obtain ⟨_, oj, hoj, hall⟩ := mem_ready.1 hj
    refine downMask_listed hd _ _ (fun x hx => ?_) i h1
    obtain ⟨o, ho, e, he, hb, rfl⟩ := dpMask_bit hx
    rw [hoj] at ho
    injection ho with ho
    subst ho
    exact hall e he hb
def Pl0.ok (md : Region.Mode) (ops : Array Oper) : Pl0 → Array Bool → Bool
  | .nil, listed => (Region.ready md ops listed).isEmpty
  | .op i 0 r, listed => (Region.ready md ops listed == [i]) && decide (i < ops.size) && r.ok md ops (listed.setIfInBounds i true)
  | .op i (_ + 1) r, listed => Region.free md ops listed i && (Region.ready md ops listed).contains i && decide (i < ops.size) && r.ok md ops (listed.setIfInBounds i true)
  | .fork i p j q, listed => (Region.ready md ops listed == [i, j]) && decide (i < ops.size) && decide (j < ops.size) && p.ok md ops (listed.setIfInBounds i true) && q.ok md ops (listed.setIfInBounds j true)
def wpPl (P : Program) (ops : Array Oper) (Q : Exit → Act → World → Prop) (S : World → Prop) (st : List Nat) : Pl → Act → World → Prop
  | .nil, a, w => Q .normal a w
  | .op k 0 o r, a, w =>
    if Region.wanted o (yielded ops a.tmps) then o.wp P a w (fun a' w' => (exQ .any ops st k = true ∨ (S w → S w')) ∧ wpPl P ops Q S st r a' w') (noP Q) ∨ (o.asks P a w ∧ LetsOut (noP Q))
    else wpPl P ops Q S st r (a.put o.dst undef) w
  | .op _ 1 o r, a, w => S w ∧ ∃ v, YieldsIf P ops S o v a ∧ wpPl P ops Q S st r (a.put o.dst v) w
  | .op _ (_ + 2) o r, a, w => ∃ v, YieldsIf P ops (fun _ => True) o v a ∧ wpPl P ops Q S st r (a.put o.dst v) w
  | .fork k o r k' o' r', a, w =>
    (if Region.wanted o (yielded ops a.tmps) then o.wp P a w (fun a' w' => (exQ .any ops st k = true ∨ (S w → S w')) ∧ wpPl P ops Q S st r a' w') (noP Q) ∨ (o.asks P a w ∧ LetsOut (noP Q))
    else wpPl P ops Q S st r (a.put o.dst undef) w) ∧
    (if Region.wanted o' (yielded ops a.tmps) then o'.wp P a w (fun a' w' => (exQ .any ops st k' = true ∨ (S w → S w')) ∧ wpPl P ops Q S st r' a' w') (noP Q) ∨ (o'.asks P a w ∧ LetsOut (noP Q))
    else wpPl P ops Q S st r' (a.put o'.dst undef) w)
theorem getD_some {l : List Oper} {i : Nat} (h : i < l.toArray.size) : l.toArray[i]? = some (l.getD i nop) := by
  have h' : i < l.length := by simpa using h
  simp [List.getD, List.getElem?_eq_getElem h']
theorem wpAnyH_of_pl {l : List Oper} {st : List Nat} (hs : Region.noSelect l.toArray = true) : ∀ (p : Pl0) (fuel : Nat) (listed : Array Bool) (a : Act) (w : World), p.len ≤ fuel → (∀ i ∈ p.st, i ∈ st) → Down .any l.toArray listed →
    p.ok .any l.toArray listed = true → wpPl P l.toArray Q S st (p.fill l) a w → wpAnyH P .any l.toArray (noP Q) S (exQ .any l.toArray st) fuel listed a w
  | .nil, fuel, listed, a, w, _, _, _, hB, h => wpAnyH_done (Q := noP Q) (by simpa [Pl0.ok] using hB) h fuel
  | .op _ _ _, 0, listed, a, w, hf, _, _, _, _ => by simp [Pl0.len] at hf
  | .fork _ _ _ _, 0, listed, a, w, hf, _, _, _, _ => by simp [Pl0.len] at hf
  | .op i 1 r, fuel + 1, listed, a, w, hf, hr, hdn, hB, h => by
    obtain ⟨hS, v, hy, h⟩ := h
    simp only [Pl0.ok, Bool.and_eq_true, decide_eq_true_eq] at hB
    simp only [Pl0.st, if_true] at hr
    have ho := getD_some hB.1.2
    exact wpAnyH_first ho (Region.noSelect_spec hs) (fun _ _ _ x => x) (fun j l hd hj hne hx => exQ_spec (hr _ (by simp)) hd hj hne hx) fuel listed a w hdn (Region.free_spec ho hB.1.1.1) (by simpa using hB.1.1.2) hy hS
      (wpAnyH_of_pl hs r fuel _ _ w (by simpa [Pl0.len] using hf) (fun p hp => hr p (by simp [hp])) (hdn.set (by simpa using hB.1.1.2)) hB.2 h)
  | .op i (n + 2) r, fuel + 1, listed, a, w, hf, hr, hdn, hB, h => by
    obtain ⟨v, hy, h⟩ := h
    simp only [Pl0.ok, Bool.and_eq_true, decide_eq_true_eq] at hB
    have ho := getD_some hB.1.2
    exact wpAnyH_pure ho (Region.noSelect_spec hs) (fun _ _ _ x => x) fuel listed a w (Region.free_spec ho hB.1.1.1) (by simpa using hB.1.1.2) hy
      (wpAnyH_of_pl hs r fuel _ _ w (by simpa [Pl0.len] using hf) (fun p hp => hr p (by simp [Pl0.st, hp])) (hdn.set (by simpa using hB.1.1.2)) hB.2 h)
  | .op i 0 r, fuel + 1, listed, a, w, hf, hr, hdn, hB, h => by
    simp only [Pl0.ok, Bool.and_eq_true, beq_iff_eq, decide_eq_true_eq] at hB
    have ho := getD_some hB.1.2
    refine wpAnyH_all hB.1.1 (by simp) fun j hj => ?_
    obtain rfl : j = i := by simpa using hj
    have h1 : wpOp P l.toArray (noP Q) j (fun a' w' => (exQ .any l.toArray st j = true ∨ (S w → S w')) ∧ wpPl P l.toArray Q S st (r.fill l) a' w') a w := by
      unfold wpOp
      rw [ho]
      unfold Pl0.fill wpPl at h
      by_cases hw : Region.wanted (l.getD j nop) (yielded l.toArray a.tmps) = true
      · rw [if_pos hw] at h; simp only [if_pos hw]; exact h
      · rw [if_neg hw] at h; simp only [if_neg hw]; exact ⟨.inr id, h⟩
    exact wpOp_mono (fun a' w' h' => ⟨h'.1, wpAnyH_of_pl hs r fuel _ a' w' (by simpa [Pl0.len] using hf) (fun p hp => hr p (by simp [Pl0.st, hp])) (hdn.set (by rw [hB.1.1]; simp)) hB.2 h'.2⟩) h1
  | .fork i p j q, fuel + 1, listed, a, w, hf, hr, hdn, hB, h => by
    simp only [Pl0.ok, Bool.and_eq_true, beq_iff_eq, decide_eq_true_eq] at hB
    obtain ⟨⟨⟨⟨hrd, hi⟩, hj⟩, hp⟩, hq⟩ := hB
    have hoi := getD_some hi
    have hoj := getD_some hj
    have hlen : max p.len q.len ≤ fuel := by simpa [Pl0.len] using hf
    unfold Pl0.fill wpPl at h
    refine wpAnyH_all hrd (by simp) fun k hk => ?_
    rcases (by simpa using hk : k = i ∨ k = j) with rfl | rfl
    · have h1 : wpOp P l.toArray (noP Q) k (fun a' w' => (exQ .any l.toArray st k = true ∨ (S w → S w')) ∧ wpPl P l.toArray Q S st (p.fill l) a' w') a w := by
        unfold wpOp
        rw [hoi]
        have h := h.1
        by_cases hw : Region.wanted (l.getD k nop) (yielded l.toArray a.tmps) = true
        · rw [if_pos hw] at h; simp only [if_pos hw]; exact h
        · rw [if_neg hw] at h; simp only [if_neg hw]; exact ⟨.inr id, h⟩
      exact wpOp_mono (fun a' w' h' => ⟨h'.1, wpAnyH_of_pl hs p fuel _ a' w' (by omega) (fun x hx => hr x (by simp [Pl0.st, hx])) (hdn.set (by rw [hrd]; simp)) hp h'.2⟩) h1
    · have h1 : wpOp P l.toArray (noP Q) k (fun a' w' => (exQ .any l.toArray st k = true ∨ (S w → S w')) ∧ wpPl P l.toArray Q S st (q.fill l) a' w') a w := by
        unfold wpOp
        rw [hoj]
        have h := h.2
        by_cases hw : Region.wanted (l.getD k nop) (yielded l.toArray a.tmps) = true
        · rw [if_pos hw] at h; simp only [if_pos hw]; exact h
        · rw [if_neg hw] at h; simp only [if_neg hw]; exact ⟨.inr id, h⟩
      exact wpOp_mono (fun a' w' h' => ⟨h'.1, wpAnyH_of_pl hs q fuel _ a' w' (by omega) (fun x hx => hr x (by simp [Pl0.st, hx])) (hdn.set (by rw [hrd]; simp)) hq h'.2⟩) h1
theorem wp_region_4 {id : Nat} {a : Act} {w : World} {l : List Oper} (S : World → Prop) (p : Pl0) (hm : P.follows .mixedOrders = true) (hs : Region.noSelect l.toArray = true)
    (hB : p.ok .any l.toArray (Array.replicate l.toArray.size false) = true) (hin : decide (p.len ≤ l.length) = true)
    (h : ∀ p', p' = p.fill l → wpPl P l.toArray Q S p.st p' a w.drew) : (Code.region id l.toArray true).wp P Q a w :=
  Code.wp_mono noP.imp (wp_region_any hm (wpAny_of_H _ _ _ _ (wpAnyH_of_pl hs p _ _ a _ (by simpa using hin) (fun _ h => h) (Down.init _) hB (h _ rfl))))
variable {st : List Nat} {k : Nat} {r : Pl} {a : Act} {w : World} {o : Oper}
theorem w4_nil (h : Q .normal a w) : wpPl P ops Q S st .nil a w := h
theorem w4_take {v : Value} (hS : S w) (hw : Region.wanted o (yielded ops a.tmps) = true)
    (hy : ∀ w', S w' → (execOp a.eval o).run P w' = .ok (.value v) w') (h : ∀ K : Act → World → Prop, (∀ a w, wpPl P ops Q S st r a w → K a w) → K (a.put o.dst v) w) : wpPl P ops Q S st (.op k 1 o r) a w :=
  ⟨hS, v, .inl ⟨hw, hy⟩, h _ (fun _ _ h => h)⟩
theorem w4_pass (hS : S w) (hw : Region.wanted o (yielded ops a.tmps) = false)
    (h : ∀ K : Act → World → Prop, (∀ a w, wpPl P ops Q S st r a w → K a w) → K (a.put o.dst undef) w) : wpPl P ops Q S st (.op k 1 o r) a w :=
  ⟨hS, undef, .inr ⟨hw, rfl⟩, h _ (fun _ _ h => h)⟩
theorem w4_pure {v : Value} (hw : Region.wanted o (yielded ops a.tmps) = true)
    (hy : ∀ w', (execOp a.eval o).run P w' = .ok (.value v) w') (h : ∀ K : Act → World → Prop, (∀ a w, wpPl P ops Q S st r a w → K a w) → K (a.put o.dst v) w) : wpPl P ops Q S st (.op k 2 o r) a w :=
  ⟨v, .inl ⟨hw, fun w _ => hy w⟩, h _ (fun _ _ h => h)⟩
theorem w4_skip (hw : Region.wanted o (yielded ops a.tmps) = false)
    (h : ∀ K : Act → World → Prop, (∀ a w, wpPl P ops Q S st r a w → K a w) → K (a.put o.dst undef) w) : wpPl P ops Q S st (.op k 2 o r) a w :=
  ⟨undef, .inr ⟨hw, rfl⟩, h _ (fun _ _ h => h)⟩
theorem w4_act (h : ∀ K : Act → World → Prop, Shut (∀ a' w', (S w → S w') → wpPl P ops Q S st r a' w' → K a' w') → if Region.wanted o (yielded ops a.tmps) = true then Oper.wp P o a w K (noP Q) else K (a.put o.dst undef) w) :
    wpPl P ops Q S st (.op k 0 o r) a w := by
  unfold wpPl
  split
  · rename_i hw
    have h := h (fun a' w' => (exQ .any ops st k = true ∨ (S w → S w')) ∧ wpPl P ops Q S st r a' w') (fun a' w' hS h => ⟨.inr hS, h⟩)
    rw [if_pos hw] at h; exact .inl h
  · rename_i hw
    have h := h (fun a' w' => wpPl P ops Q S st r a' w') (fun a' w' _ h => h)
    rw [if_neg hw] at h; exact h
theorem w4_end (hx : exQ .any ops st k = true)
    (h : ∀ K : Act → World → Prop, Shut (∀ a' w', wpPl P ops Q S st r a' w' → K a' w') → if Region.wanted o (yielded ops a.tmps) = true then Oper.wp P o a w K (noP Q) else K (a.put o.dst undef) w) :
    wpPl P ops Q S st (.op k 0 o r) a w := by
  unfold wpPl
  split
  · rename_i hw
    have h := h (fun a' w' => (exQ .any ops st k = true ∨ (S w → S w')) ∧ wpPl P ops Q S st r a' w') (fun a' w' h => ⟨.inl hx, h⟩)
    rw [if_pos hw] at h; exact .inl h
  · rename_i hw
    have h := h (fun a' w' => wpPl P ops Q S st r a' w') (fun a' w' h => h)
    rw [if_neg hw] at h; exact h
theorem w4_fork {k' : Nat} {o' : Oper} {r' : Pl} (h : wpPl P ops Q S st (.op k 0 o r) a w) (h' : wpPl P ops Q S st (.op k' 0 o' r') a w) : wpPl P ops Q S st (.fork k o r k' o' r') a w := ⟨h, h'⟩
end
end Go.Proofs.YtahljceanodhkaaGreatDoor
