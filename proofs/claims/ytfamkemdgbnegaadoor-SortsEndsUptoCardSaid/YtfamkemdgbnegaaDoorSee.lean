/- Several texts joined: Ordr, Ew, Us, Ve. -/
import Derived.Test.YtfamkemdgbnegaaDoorSdn
/- A region that draws its order, walked by a plan: as Ordq, and where three acting operations may come up, each of them first. -/
namespace Go.Proofs.YtfamkemdgbnegaaDoor
open Go.RowKit
inductive Pm0 where
  | nil
  | op (i k : Nat) (r : Pm0)
  | fork (i : Nat) (p : Pm0) (j : Nat) (q : Pm0)
  | fork3 (i : Nat) (p : Pm0) (j : Nat) (q : Pm0) (k : Nat) (s : Pm0)
inductive Pm where
  | nil
  | op (i k : Nat) (o : Oper) (r : Pm)
  | fork (i : Nat) (o : Oper) (p : Pm) (j : Nat) (o' : Oper) (q : Pm)
  | fork3 (i : Nat) (o : Oper) (p : Pm) (j : Nat) (o' : Oper) (q : Pm) (k : Nat) (o2 : Oper) (s : Pm)
def Pm0.fill (l : List Oper) : Pm0 → Pm
  | .nil => .nil
  | .op i k r => .op i k (l.getD i nop) (r.fill l)
  | .fork i p j q => .fork i (l.getD i nop) (p.fill l) j (l.getD j nop) (q.fill l)
  | .fork3 i p j q k s => .fork3 i (l.getD i nop) (p.fill l) j (l.getD j nop) (q.fill l) k (l.getD k nop) (s.fill l)
def Pm0.st : Pm0 → List Nat
  | .nil => []
  | .op i k r => if k = 1 then i :: r.st else r.st
  | .fork _ p _ q => p.st ++ q.st
  | .fork3 _ p _ q _ s => p.st ++ q.st ++ s.st
def Pm0.len : Pm0 → Nat
  | .nil => 0
  | .op _ _ r => r.len + 1
  | .fork _ p _ q => max p.len q.len + 1
  | .fork3 _ p _ q _ s => max (max p.len q.len) s.len + 1
section
variable {P : Program} {ops : Array Oper} {Q : Exit → Act → World → Prop} {S : World → Prop}
def Pm0.ok (md : Region.Mode) (ops : Array Oper) : Pm0 → Array Bool → Bool
  | .nil, listed => (Region.ready md ops listed).isEmpty
  | .op i 0 r, listed => (Region.ready md ops listed == [i]) && decide (i < ops.size) && r.ok md ops (listed.setIfInBounds i true)
  | .op i (_ + 1) r, listed => Region.free md ops listed i && (Region.ready md ops listed).contains i && decide (i < ops.size) && r.ok md ops (listed.setIfInBounds i true)
  | .fork i p j q, listed => (Region.ready md ops listed == [i, j]) && decide (i < ops.size) && decide (j < ops.size) && p.ok md ops (listed.setIfInBounds i true) && q.ok md ops (listed.setIfInBounds j true)
  | .fork3 i p j q k s, listed => (Region.ready md ops listed == [i, j, k]) && decide (i < ops.size) && decide (j < ops.size) && decide (k < ops.size) && p.ok md ops (listed.setIfInBounds i true) && q.ok md ops (listed.setIfInBounds j true) && s.ok md ops (listed.setIfInBounds k true)
def wpPm (P : Program) (ops : Array Oper) (Q : Exit → Act → World → Prop) (S : World → Prop) (st : List Nat) : Pm → Act → World → Prop
  | .nil, a, w => Q .normal a w
  | .op k 0 o r, a, w =>
    if Region.wanted o (yielded ops a.tmps) then o.wp P a w (fun a' w' => (exQ .any ops st k = true ∨ (S w → S w')) ∧ wpPm P ops Q S st r a' w') (noP Q) ∨ (o.asks P a w ∧ LetsOut (noP Q))
    else wpPm P ops Q S st r (a.put o.dst undef) w
  | .op _ 1 o r, a, w => S w ∧ ∃ v, YieldsIf P ops S o v a ∧ wpPm P ops Q S st r (a.put o.dst v) w
  | .op _ (_ + 2) o r, a, w => ∃ v, YieldsIf P ops (fun _ => True) o v a ∧ wpPm P ops Q S st r (a.put o.dst v) w
  | .fork k o r k' o' r', a, w =>
    (if Region.wanted o (yielded ops a.tmps) then o.wp P a w (fun a' w' => (exQ .any ops st k = true ∨ (S w → S w')) ∧ wpPm P ops Q S st r a' w') (noP Q) ∨ (o.asks P a w ∧ LetsOut (noP Q))
    else wpPm P ops Q S st r (a.put o.dst undef) w) ∧
    (if Region.wanted o' (yielded ops a.tmps) then o'.wp P a w (fun a' w' => (exQ .any ops st k' = true ∨ (S w → S w')) ∧ wpPm P ops Q S st r' a' w') (noP Q) ∨ (o'.asks P a w ∧ LetsOut (noP Q))
    else wpPm P ops Q S st r' (a.put o'.dst undef) w)
  | .fork3 k o r k' o' r' k2 o2 r2, a, w =>
    (if Region.wanted o (yielded ops a.tmps) then o.wp P a w (fun a' w' => (exQ .any ops st k = true ∨ (S w → S w')) ∧ wpPm P ops Q S st r a' w') (noP Q) ∨ (o.asks P a w ∧ LetsOut (noP Q))
    else wpPm P ops Q S st r (a.put o.dst undef) w) ∧
    (if Region.wanted o' (yielded ops a.tmps) then o'.wp P a w (fun a' w' => (exQ .any ops st k' = true ∨ (S w → S w')) ∧ wpPm P ops Q S st r' a' w') (noP Q) ∨ (o'.asks P a w ∧ LetsOut (noP Q))
    else wpPm P ops Q S st r' (a.put o'.dst undef) w) ∧
    (if Region.wanted o2 (yielded ops a.tmps) then o2.wp P a w (fun a' w' => (exQ .any ops st k2 = true ∨ (S w → S w')) ∧ wpPm P ops Q S st r2 a' w') (noP Q) ∨ (o2.asks P a w ∧ LetsOut (noP Q))
    else wpPm P ops Q S st r2 (a.put o2.dst undef) w)
theorem wpAnyH_of_pm {l : List Oper} {st : List Nat} (hs : Region.noSelect l.toArray = true) : ∀ (p : Pm0) (fuel : Nat) (listed : Array Bool) (a : Act) (w : World), p.len ≤ fuel → (∀ i ∈ p.st, i ∈ st) → Down .any l.toArray listed →
    p.ok .any l.toArray listed = true → wpPm P l.toArray Q S st (p.fill l) a w → wpAnyH P .any l.toArray (noP Q) S (exQ .any l.toArray st) (fun _ => false) fuel listed a w
  | .nil, fuel, listed, a, w, _, _, _, hB, h => wpAnyH_done (Q := noP Q) (by simpa [Pm0.ok] using hB) h fuel
  | .op _ _ _, 0, listed, a, w, hf, _, _, _, _ => by simp [Pm0.len] at hf
  | .fork _ _ _ _, 0, listed, a, w, hf, _, _, _, _ => by simp [Pm0.len] at hf
  | .fork3 _ _ _ _ _ _, 0, listed, a, w, hf, _, _, _, _ => by simp [Pm0.len] at hf
  | .op i 1 r, fuel + 1, listed, a, w, hf, hr, hdn, hB, h => by
    obtain ⟨hS, v, hy, h⟩ := h
    simp only [Pm0.ok, Bool.and_eq_true, decide_eq_true_eq] at hB
    simp only [Pm0.st, if_true] at hr
    have ho := getD_some hB.1.2
    exact wpAnyH_first ho (Region.noSelect_spec hs) (fun _ _ _ _ _ hx => by cases hx) (fun j l hd hj hne hx => exQ_spec (hr _ (by simp)) hd hj hne hx) fuel listed a w hdn (Region.free_spec ho hB.1.1.1) (by simpa using hB.1.1.2) hy hS
      (wpAnyH_of_pm hs r fuel _ _ w (by simpa [Pm0.len] using hf) (fun p hp => hr p (by simp [hp])) (hdn.set (by simpa using hB.1.1.2)) hB.2 h)
  | .op i (n + 2) r, fuel + 1, listed, a, w, hf, hr, hdn, hB, h => by
    obtain ⟨v, hy, h⟩ := h
    simp only [Pm0.ok, Bool.and_eq_true, decide_eq_true_eq] at hB
    have ho := getD_some hB.1.2
    exact wpAnyH_pure ho (Region.noSelect_spec hs) (fun _ _ _ _ _ hx => by cases hx) fuel listed a w hdn (Region.free_spec ho hB.1.1.1) (by simpa using hB.1.1.2) hy
      (wpAnyH_of_pm hs r fuel _ _ w (by simpa [Pm0.len] using hf) (fun p hp => hr p (by simp [Pm0.st, hp])) (hdn.set (by simpa using hB.1.1.2)) hB.2 h)
  | .op i 0 r, fuel + 1, listed, a, w, hf, hr, hdn, hB, h => by
    simp only [Pm0.ok, Bool.and_eq_true, beq_iff_eq, decide_eq_true_eq] at hB
    have ho := getD_some hB.1.2
    refine wpAnyH_all hB.1.1 (by simp) fun j hj => ?_
    obtain rfl : j = i := by simpa using hj
    have h1 : wpOp P l.toArray (noP Q) j (fun a' w' => (exQ .any l.toArray st j = true ∨ (S w → S w')) ∧ wpPm P l.toArray Q S st (r.fill l) a' w') a w := by
      unfold wpOp
      rw [ho]
      unfold Pm0.fill wpPm at h
      by_cases hw : Region.wanted (l.getD j nop) (yielded l.toArray a.tmps) = true
      · rw [if_pos hw] at h; simp only [if_pos hw]; exact h
      · rw [if_neg hw] at h; simp only [if_neg hw]; exact ⟨.inr id, h⟩
    exact wpOp_mono (fun a' w' h' => ⟨h'.1, wpAnyH_of_pm hs r fuel _ a' w' (by simpa [Pm0.len] using hf) (fun p hp => hr p (by simp [Pm0.st, hp])) (hdn.set (by rw [hB.1.1]; simp)) hB.2 h'.2⟩) (wpOp_exits noP_QL h1)
  | .fork i p j q, fuel + 1, listed, a, w, hf, hr, hdn, hB, h => by
    simp only [Pm0.ok, Bool.and_eq_true, beq_iff_eq, decide_eq_true_eq] at hB
    obtain ⟨⟨⟨⟨hrd, hi⟩, hj⟩, hp⟩, hq⟩ := hB
    have hoi := getD_some hi
    have hoj := getD_some hj
    have hlen : max p.len q.len ≤ fuel := by simpa [Pm0.len] using hf
    unfold Pm0.fill wpPm at h
    refine wpAnyH_all hrd (by simp) fun k hk => ?_
    rcases (by simpa using hk : k = i ∨ k = j) with rfl | rfl
    · have h1 : wpOp P l.toArray (noP Q) k (fun a' w' => (exQ .any l.toArray st k = true ∨ (S w → S w')) ∧ wpPm P l.toArray Q S st (p.fill l) a' w') a w := by
        unfold wpOp
        rw [hoi]
        have h := h.1
        by_cases hw : Region.wanted (l.getD k nop) (yielded l.toArray a.tmps) = true
        · rw [if_pos hw] at h; simp only [if_pos hw]; exact h
        · rw [if_neg hw] at h; simp only [if_neg hw]; exact ⟨.inr id, h⟩
      exact wpOp_mono (fun a' w' h' => ⟨h'.1, wpAnyH_of_pm hs p fuel _ a' w' (by omega) (fun x hx => hr x (by simp [Pm0.st, hx])) (hdn.set (by rw [hrd]; simp)) hp h'.2⟩) (wpOp_exits noP_QL h1)
    · have h1 : wpOp P l.toArray (noP Q) k (fun a' w' => (exQ .any l.toArray st k = true ∨ (S w → S w')) ∧ wpPm P l.toArray Q S st (q.fill l) a' w') a w := by
        unfold wpOp
        rw [hoj]
        have h := h.2
        by_cases hw : Region.wanted (l.getD k nop) (yielded l.toArray a.tmps) = true
        · rw [if_pos hw] at h; simp only [if_pos hw]; exact h
        · rw [if_neg hw] at h; simp only [if_neg hw]; exact ⟨.inr id, h⟩
      exact wpOp_mono (fun a' w' h' => ⟨h'.1, wpAnyH_of_pm hs q fuel _ a' w' (by omega) (fun x hx => hr x (by simp [Pm0.st, hx])) (hdn.set (by rw [hrd]; simp)) hq h'.2⟩) (wpOp_exits noP_QL h1)
  | .fork3 i p j q k s, fuel + 1, listed, a, w, hf, hr, hdn, hB, h => by
    simp only [Pm0.ok, Bool.and_eq_true, beq_iff_eq, decide_eq_true_eq] at hB
    obtain ⟨⟨⟨⟨⟨⟨hrd, hi⟩, hj⟩, hk⟩, hp⟩, hq⟩, hsk⟩ := hB
    have hoi := getD_some hi
    have hoj := getD_some hj
    have hok := getD_some hk
    have hlen : max (max p.len q.len) s.len ≤ fuel := by simpa [Pm0.len] using hf
    unfold Pm0.fill wpPm at h
    refine wpAnyH_all hrd (by simp) fun k' hk' => ?_
    rcases (by simpa using hk' : k' = i ∨ k' = j ∨ k' = k) with rfl | rfl | rfl
    · have h1 : wpOp P l.toArray (noP Q) k' (fun a' w' => (exQ .any l.toArray st k' = true ∨ (S w → S w')) ∧ wpPm P l.toArray Q S st (p.fill l) a' w') a w := by
        unfold wpOp
        rw [hoi]
        have h := h.1
        by_cases hw : Region.wanted (l.getD k' nop) (yielded l.toArray a.tmps) = true
        · rw [if_pos hw] at h; simp only [if_pos hw]; exact h
        · rw [if_neg hw] at h; simp only [if_neg hw]; exact ⟨.inr id, h⟩
      exact wpOp_mono (fun a' w' h' => ⟨h'.1, wpAnyH_of_pm hs p fuel _ a' w' (by omega) (fun x hx => hr x (by simp [Pm0.st, hx])) (hdn.set (by rw [hrd]; simp)) hp h'.2⟩) (wpOp_exits noP_QL h1)
    · have h1 : wpOp P l.toArray (noP Q) k' (fun a' w' => (exQ .any l.toArray st k' = true ∨ (S w → S w')) ∧ wpPm P l.toArray Q S st (q.fill l) a' w') a w := by
        unfold wpOp
        rw [hoj]
        have h := h.2.1
        by_cases hw : Region.wanted (l.getD k' nop) (yielded l.toArray a.tmps) = true
        · rw [if_pos hw] at h; simp only [if_pos hw]; exact h
        · rw [if_neg hw] at h; simp only [if_neg hw]; exact ⟨.inr id, h⟩
      exact wpOp_mono (fun a' w' h' => ⟨h'.1, wpAnyH_of_pm hs q fuel _ a' w' (by omega) (fun x hx => hr x (by simp [Pm0.st, hx])) (hdn.set (by rw [hrd]; simp)) hq h'.2⟩) (wpOp_exits noP_QL h1)
    · have h1 : wpOp P l.toArray (noP Q) k' (fun a' w' => (exQ .any l.toArray st k' = true ∨ (S w → S w')) ∧ wpPm P l.toArray Q S st (s.fill l) a' w') a w := by
        unfold wpOp
        rw [hok]
        have h := h.2.2
        by_cases hw : Region.wanted (l.getD k' nop) (yielded l.toArray a.tmps) = true
        · rw [if_pos hw] at h; simp only [if_pos hw]; exact h
        · rw [if_neg hw] at h; simp only [if_neg hw]; exact ⟨.inr id, h⟩
      exact wpOp_mono (fun a' w' h' => ⟨h'.1, wpAnyH_of_pm hs s fuel _ a' w' (by omega) (fun x hx => hr x (by simp [Pm0.st, hx])) (hdn.set (by rw [hrd]; simp)) hsk h'.2⟩) (wpOp_exits noP_QL h1)
theorem wp_region_5 {id : Nat} {a : Act} {w : World} {l : List Oper} (S : World → Prop) (p : Pm0) (hm : P.follows .mixedOrders = true) (hs : Region.noSelect l.toArray = true)
    (hB : p.ok .any l.toArray (Array.replicate l.toArray.size false) = true) (hin : decide (p.len ≤ l.length) = true)
    (h : ∀ p', p' = p.fill l → wpPm P l.toArray Q S p.st p' a w.drew) : (Code.region id l.toArray true).wp P Q a w :=
  Code.wp_mono noP.imp (wp_region_any hm (wpAny_of_H _ _ _ _ (wpAnyH_of_pm hs p _ _ a _ (by simpa using hin) (fun _ h => h) (Down.init _) hB (h _ rfl))))
variable {st : List Nat} {k : Nat} {r : Pm} {a : Act} {w : World} {o : Oper}
theorem w5_nil (h : Q .normal a w) : wpPm P ops Q S st .nil a w := h
theorem w5_take {v : Value} (hS : S w) (hw : Region.wanted o (yielded ops a.tmps) = true)
    (hy : ∀ w', S w' → (execOp a.eval o).run P w' = .ok (.value v) w') (h : ∀ K : Act → World → Prop, (∀ a w, wpPm P ops Q S st r a w → K a w) → K (a.put o.dst v) w) : wpPm P ops Q S st (.op k 1 o r) a w :=
  ⟨hS, v, .inl ⟨hw, hy⟩, h _ (fun _ _ h => h)⟩
theorem w5_pass (hS : S w) (hw : Region.wanted o (yielded ops a.tmps) = false)
    (h : ∀ K : Act → World → Prop, (∀ a w, wpPm P ops Q S st r a w → K a w) → K (a.put o.dst undef) w) : wpPm P ops Q S st (.op k 1 o r) a w :=
  ⟨hS, undef, .inr ⟨hw, rfl⟩, h _ (fun _ _ h => h)⟩
theorem w5_pure {v : Value} (hw : Region.wanted o (yielded ops a.tmps) = true)
    (hy : ∀ w', (execOp a.eval o).run P w' = .ok (.value v) w') (h : ∀ K : Act → World → Prop, (∀ a w, wpPm P ops Q S st r a w → K a w) → K (a.put o.dst v) w) : wpPm P ops Q S st (.op k 2 o r) a w :=
  ⟨v, .inl ⟨hw, fun w _ => hy w⟩, h _ (fun _ _ h => h)⟩
theorem w5_skip (hw : Region.wanted o (yielded ops a.tmps) = false)
    (h : ∀ K : Act → World → Prop, (∀ a w, wpPm P ops Q S st r a w → K a w) → K (a.put o.dst undef) w) : wpPm P ops Q S st (.op k 2 o r) a w :=
  ⟨undef, .inr ⟨hw, rfl⟩, h _ (fun _ _ h => h)⟩
theorem w5_act (h : ∀ K : Act → World → Prop, Shut (∀ a' w', (S w → S w') → wpPm P ops Q S st r a' w' → K a' w') → if Region.wanted o (yielded ops a.tmps) = true then Oper.wp P o a w K (noP Q) else K (a.put o.dst undef) w) :
    wpPm P ops Q S st (.op k 0 o r) a w := by
  unfold wpPm
  split
  · rename_i hw
    have h := h (fun a' w' => (exQ .any ops st k = true ∨ (S w → S w')) ∧ wpPm P ops Q S st r a' w') (fun a' w' hS h => ⟨.inr hS, h⟩)
    rw [if_pos hw] at h; exact .inl h
  · rename_i hw
    have h := h (fun a' w' => wpPm P ops Q S st r a' w') (fun a' w' _ h => h)
    rw [if_neg hw] at h; exact h
theorem w5_end (hx : exQ .any ops st k = true)
    (h : ∀ K : Act → World → Prop, Shut (∀ a' w', wpPm P ops Q S st r a' w' → K a' w') → if Region.wanted o (yielded ops a.tmps) = true then Oper.wp P o a w K (noP Q) else K (a.put o.dst undef) w) :
    wpPm P ops Q S st (.op k 0 o r) a w := by
  unfold wpPm
  split
  · rename_i hw
    have h := h (fun a' w' => (exQ .any ops st k = true ∨ (S w → S w')) ∧ wpPm P ops Q S st r a' w') (fun a' w' h => ⟨.inl hx, h⟩)
    rw [if_pos hw] at h; exact .inl h
  · rename_i hw
    have h := h (fun a' w' => wpPm P ops Q S st r a' w') (fun a' w' h => h)
    rw [if_neg hw] at h; exact h
theorem w5_fork {k' : Nat} {o' : Oper} {r' : Pm} (h : wpPm P ops Q S st (.op k 0 o r) a w) (h' : wpPm P ops Q S st (.op k' 0 o' r') a w) : wpPm P ops Q S st (.fork k o r k' o' r') a w := ⟨h, h'⟩
theorem w5_fork3 {k' k2 : Nat} {o' o2 : Oper} {r' r2 : Pm} (h : wpPm P ops Q S st (.op k 0 o r) a w) (h' : wpPm P ops Q S st (.op k' 0 o' r') a w) (h2 : wpPm P ops Q S st (.op k2 0 o2 r2) a w) : wpPm P ops Q S st (.fork3 k o r k' o' r' k2 o2 r2) a w := ⟨h, h', h2⟩
end
end Go.Proofs.YtfamkemdgbnegaaDoor

/- SortsEnds: the walk. -/
namespace Go.Proofs.YtfamkemdgbnegaaDoor
open Go.RowKit So
theorem meet3 {F M : World → Nat → Nat → Nat → Prop} {G : Prop} (h : (∀ W a b c, F W a b c → M W a b c) → G) (h2 : ∀ W a b c, F W a b c → M W a b c) : G := h h2
theorem dropLast_len : ∀ F : SF, F.dropLast.len = F.len - 1
  | .nil => rfl
  | .cons _ _ _ _ _ _ _ .nil => rfl
  | .cons _ _ _ _ _ _ _ (.cons k n e a b l x r) => by
    have := dropLast_len (.cons k n e a b l x r)
    simp only [SF.dropLast, SF.len] at this ⊢
    omega
theorem SFAt.drop {w : World} {N : Nat} : ∀ {F : SF} {b off : Nat}, SFAt w N F b off → SFAt w N F.dropLast b off
  | .nil, _, _, _ => trivial
  | .cons _ _ _ _ _ _ _ .nil, _, _, _ => trivial
  | .cons _ _ _ _ _ _ _ (.cons _ _ _ _ _ _ _ _), b, off, h => ⟨h.1, h.2.1, h.2.2.1, h.2.2.2.1, h.2.2.2.2.1, h.2.2.2.2.2.1, SFAt.drop h.2.2.2.2.2.2⟩
set_option maxRecDepth 100000 in
set_option maxHeartbeats 6000000 in
theorem lends_any (c : Pc) (p : Pr) (v1 : Value) (N : Nat) (w : World) (hN : N ≤ w.heap.size) (h : PAt w N c p) (hL : LaidAt w) (hcap : Caps c) (hbig : psize p ≤ 1000000000) : Calls Tryd.prog 6 #[.agg c.cells, v1] w fun e w' => e = .returned (.bool true) ∧ Ext w w' := by
  obtain ⟨cn, cse, cst, cv, cs, ⟨tA, tn, tc⟩, cpa, cpl, csi, cq, ⟨zA, zn, zc⟩⟩ := c
  have hx0 := (Kept.refl (fun _ => False) w).alloc (.cells (Pc.cells (⟨cn, cse, cst, cv, cs, ⟨tA, tn, tc⟩, cpa, cpl, csi, cq, ⟨zA, zn, zc⟩⟩ : Pc)) 26)
  have hB := Blk.new w 26 (Pc.cells (⟨cn, cse, cst, cv, cs, ⟨tA, tn, tc⟩, cpa, cpl, csi, cq, ⟨zA, zn, zc⟩⟩ : Pc))
  go_enter Tryd.func6, Tryd.ntmps6
  go_upto_region 1 with (fail)
  generalize hW : w.alloc (.cells (Pc.cells (⟨cn, cse, cst, cv, cs, ⟨tA, tn, tc⟩, cpa, cpl, csi, cq, ⟨zA, zn, zc⟩⟩ : Pc)) 26) = W at hx0 hB ⊢
  have HX0 := Lib.hid hx0
  have HB := Lib.hid hB
  have HPA := Lib.hid (h.ext hx0 hN)
  have HNW := Lib.hid (Nat.le_trans hN hx0.size)
  have HLW := Lib.hid (hL.ext hx0)
  clear hW hx0 hB h hN hL
  generalize w.heap.size = pb at HB ⊢
  have hhP := Blk.has HB.out
  have hgP := Blk.gets HB.out
  have hlP := HB.out.lt
  go_wp2_with fail
  refine (room_any (⟨cn, cse, cst, cv, cs, ⟨tA, tn, tc⟩, cpa, cpl, csi, cq, ⟨zA, zn, zc⟩⟩ : Pc) p N W HNW.out HPA.out hcap).mono ?_
  rintro e W1 ⟨rfl, hx1⟩
  have HXQ := Lib.hid hx1
  clear hx1 hhP hgP hlP
  obtain ⟨r, hr⟩ : ∃ r, r = roomB p := ⟨_, rfl⟩
  rw [← hr]
  have HRB := Lib.hid hr
  clear hr
  cases r
  · go_wp2_with fail
    refine (told_any W1 (HLW.out.ext HXQ.out)).mono ?_
    rintro e w2 ⟨rfl, hx2⟩
    go_wp2_with fail
    go_ret
    exact ⟨rfl, HX0.out.trans (HXQ.out.trans hx2)⟩
  · have HEN := Lib.hid (ends_ok (room_of HRB.out).2 (room_of HRB.out).1 hbig)
    have hrl := (check_none.1 (room_of HRB.out).2).2.2.2.2.2.2.2.2
    obtain ⟨hzl, hzf, b9, o9, hzA, hzE⟩ := HPA.out.pays
    have HZL := Lib.hid (show zn = p.pays.len from hzl)
    have HZF := Lib.hid (show Fits zn 112 from hzf)
    cases zn with
    | zero =>
      exfalso
      cases hq : p.pays with
      | nil => rw [hq] at hrl; cases hrl
      | cons => have := HZL.out; rw [hq] at this; simp [SF.len] at this
    | succ m =>
      obtain rfl := hzA (Nat.succ_pos m)
      have HMX := Lib.hid (show m ≤ 17592186044416 by have := Fits.max HZF.out (by omega); omega)
      have HMC := Lib.hid (show m + 1 ≤ zc from hcap.pays.1)
      have HDL := Lib.hid (show SSl W N (some ⟨b9, o9, none⟩) m p.pays.dropLast from ⟨by rw [dropLast_len, ← HZL.out]; rfl, by have := HZF.out; unfold Fits at this ⊢; omega, b9, o9, fun _ => rfl, hzE.drop⟩)
      clear HRB hbig hrl hzl hzf hzA hzE HZL
      go_upto_region 3 with (fail)
      apply meet3 (F := fun W2 a b c => Ext W1 W2 ∧ Blk W2 a 26 (Pc.cells (⟨cn, cse, cst, cv, cs, ⟨tA, tn, tc⟩, cpa, cpl, csi, cq, ⟨some ⟨b9, o9, none⟩, m + 1, zc⟩⟩ : Pc)) ∧ Blk W2 b 26 (Pc.cells (⟨cn, cse, cst, cv, cs, ⟨tA, tn, tc⟩, cpa, cpl, csi, cq, ⟨some ⟨b9, o9, none⟩, m + 1, zc⟩⟩ : Pc)) ∧ Blk W2 c 26 (Pc.cells (⟨cn, cse, cst, cv, cs, ⟨tA, tn, tc⟩, cpa, cpl, csi, cq, ⟨some ⟨b9, o9, none⟩, m + 1, zc⟩⟩ : Pc)) ∧ W1.heap.size ≤ a ∧ W1.heap.size ≤ b ∧ W1.heap.size ≤ c ∧ ¬ a = b ∧ ¬ a = c ∧ ¬ b = c)
      case h =>
        intro KEY0
        have KEY := Lib.hid KEY0
        clear KEY0
        refine wp_region_5 (fun w1 => Ext W1 w1) (.op 0 1 (.op 1 1 (.op 2 1 (.fork3 3 (.fork 4 (.op 5 0 (.op 6 0 (.op 7 0 (.op 8 0 .nil)))) 5 (.op 4 0 (.op 6 0 (.op 7 0 (.op 8 0 .nil))))) 4 (.fork 3 (.op 5 0 (.op 6 0 (.op 7 0 (.op 8 0 .nil)))) 5 (.op 3 0 (.op 6 0 (.op 7 0 (.op 8 0 .nil))))) 5 (.fork 3 (.op 4 0 (.op 6 0 (.op 7 0 (.op 8 0 .nil)))) 4 (.op 3 0 (.op 6 0 (.op 7 0 (.op 8 0 .nil))))))))) (by kernel_rfl) (by kernel_rfl) (by kernel_rfl) (by kernel_rfl) ?_; intro p' hp'; simp only [Pm0.fill, List.getD_cons_zero, List.getD_cons_succ] at hp'; subst hp'
        have HZ0 := Lib.hid (show Ext W1 W1.drew from (Kept.refl _ W1).drew)
        (repeat (first | ((apply w5_pure); (· go_simp); (· (intro w1; go_simp; try with_reducible rfl)); (intro K hK; go_simp; refine hK _ _ ?_; clear hK K)) | ((apply w5_skip); (· go_simp); (intro K hK; go_simp; refine hK _ _ ?_; clear hK K)) | ((apply w5_take); (· exact HZ0.out); (· go_simp); (· (intro w1 hS; have d0 := Blk.ext HB.out (HXQ.out.trans hS); have d1 := Blk.gets d0; have d2 := Blk.has d0; have d3 := d0.lt;  go_simp; try with_reducible rfl)); (intro K hK; go_simp; refine hK _ _ ?_; clear hK K)) | ((apply w5_pass); (· exact HZ0.out); (· go_simp); (intro K hK; go_simp; refine hK _ _ ?_; clear hK K))))
        refine w5_fork3 ?_ ?_ ?_
        · (refine w5_act (fun K hK => ?_); go_simp)
          have z1 : Ext W1 (W1.alloc (.cells (Pc.cells zeroC) 26)).drew := ((Kept.refl _ W1).alloc _).drew
          have q1 : Blk (W1.alloc (.cells (Pc.cells zeroC) 26)).drew W1.heap.size 26 (Pc.cells zeroC) := (Blk.new W1 _ _).drew
          refine hK.out _ _ (fun _ => z1) ?_
          clear hK K
          generalize (W1.alloc (.cells (Pc.cells zeroC) 26)).drew = V1 at z1 q1 ⊢
          obtain ⟨u1, hu1⟩ : ∃ u1, u1 = W1.heap.size := ⟨_, rfl⟩
          rw [← hu1] at q1 ⊢
          have n1 : W1.heap.size ≤ u1 := by omega
          clear hu1
          (repeat (first | ((apply w5_pure); (· go_simp); (· (intro w1; go_simp; try with_reducible rfl)); (intro K hK; go_simp; refine hK _ _ ?_; clear hK K)) | ((apply w5_skip); (· go_simp); (intro K hK; go_simp; refine hK _ _ ?_; clear hK K))))
          refine w5_fork ?_ ?_
          · (refine w5_act (fun K hK => ?_); go_simp)
            have z2 := z1.alloc (.cells (Pc.cells zeroC) 26)
            have q2 := Blk.new V1 26 (Pc.cells zeroC)
            have n2 : W1.heap.size ≤ V1.heap.size := z1.size
            have n3 : u1 < V1.heap.size := q1.lt
            have q1 := q1.alloc (.cells (Pc.cells zeroC) 26)
            refine hK.out _ _ (fun _ => z2) ?_
            clear hK K
            generalize (V1.alloc (.cells (Pc.cells zeroC) 26)) = V2 at q1 q2 z2 ⊢
            generalize V1.heap.size = u2 at q2 n2 n3 ⊢
            clear z1
            (repeat (first | ((apply w5_pure); (· go_simp); (· (intro w1; go_simp; try with_reducible rfl)); (intro K hK; go_simp; refine hK _ _ ?_; clear hK K)) | ((apply w5_skip); (· go_simp); (intro K hK; go_simp; refine hK _ _ ?_; clear hK K))))
            (refine w5_act (fun K hK => ?_); go_simp)
            have z3 := z2.alloc (.cells (Pc.cells zeroC) 26)
            have q3 := Blk.new V2 26 (Pc.cells zeroC)
            have n4 : u2 < V2.heap.size := q2.lt
            have q1 := q1.alloc (.cells (Pc.cells zeroC) 26)
            have q2 := q2.alloc (.cells (Pc.cells zeroC) 26)
            refine hK.out _ _ (fun _ => z3) ?_
            clear hK K
            generalize (V2.alloc (.cells (Pc.cells zeroC) 26)) = V3 at q1 q2 q3 z3 ⊢
            generalize V2.heap.size = u3 at q3 n4 ⊢
            clear z2
            have m1 := q1.melts
            have h1 := Blk.has q1
            have l1 := q1.lt
            (repeat (first | ((apply w5_pure); (· go_simp); (· (intro w1; go_simp; try with_reducible rfl)); (intro K hK; go_simp; refine hK _ _ ?_; clear hK K)) | ((apply w5_skip); (· go_simp); (intro K hK; go_simp; refine hK _ _ ?_; clear hK K))))
            (refine w5_act (fun K hK => ?_); go_simp)
            have z4 := z3.putAt u1 0 (Pc.cells (⟨cn, cse, cst, cv, cs, ⟨tA, tn, tc⟩, cpa, cpl, csi, cq, ⟨some ⟨b9, o9, none⟩, m + 1, zc⟩⟩ : Pc)) (fun hlt => absurd hlt (by omega))
            have q1 : Blk (putAt V3 u1 0 (Pc.cells (⟨cn, cse, cst, cv, cs, ⟨tA, tn, tc⟩, cpa, cpl, csi, cq, ⟨some ⟨b9, o9, none⟩, m + 1, zc⟩⟩ : Pc))) u1 26 (Pc.cells (⟨cn, cse, cst, cv, cs, ⟨tA, tn, tc⟩, cpa, cpl, csi, cq, ⟨some ⟨b9, o9, none⟩, m + 1, zc⟩⟩ : Pc)) := Blk.put_ q1 0 _
            have q2 := Blk.putFar (g' := u1) q2 (by omega) 0 (Pc.cells (⟨cn, cse, cst, cv, cs, ⟨tA, tn, tc⟩, cpa, cpl, csi, cq, ⟨some ⟨b9, o9, none⟩, m + 1, zc⟩⟩ : Pc))
            have q3 := Blk.putFar (g' := u1) q3 (by omega) 0 (Pc.cells (⟨cn, cse, cst, cv, cs, ⟨tA, tn, tc⟩, cpa, cpl, csi, cq, ⟨some ⟨b9, o9, none⟩, m + 1, zc⟩⟩ : Pc))
            refine hK.out _ _ (fun _ => z4) ?_
            clear hK K m1 h1 l1 z3
            generalize putAt V3 u1 0 (Pc.cells (⟨cn, cse, cst, cv, cs, ⟨tA, tn, tc⟩, cpa, cpl, csi, cq, ⟨some ⟨b9, o9, none⟩, m + 1, zc⟩⟩ : Pc)) = V4 at z4 q1 q2 q3 ⊢
            have m1 := q2.melts
            have h1 := Blk.has q2
            have l1 := q2.lt
            (repeat (first | ((apply w5_pure); (· go_simp); (· (intro w1; go_simp; try with_reducible rfl)); (intro K hK; go_simp; refine hK _ _ ?_; clear hK K)) | ((apply w5_skip); (· go_simp); (intro K hK; go_simp; refine hK _ _ ?_; clear hK K))))
            (refine w5_act (fun K hK => ?_); go_simp)
            have z5 := z4.putAt u2 0 (Pc.cells (⟨cn, cse, cst, cv, cs, ⟨tA, tn, tc⟩, cpa, cpl, csi, cq, ⟨some ⟨b9, o9, none⟩, m + 1, zc⟩⟩ : Pc)) (fun hlt => absurd hlt (by omega))
            have q1 := Blk.putFar (g' := u2) q1 (by omega) 0 (Pc.cells (⟨cn, cse, cst, cv, cs, ⟨tA, tn, tc⟩, cpa, cpl, csi, cq, ⟨some ⟨b9, o9, none⟩, m + 1, zc⟩⟩ : Pc))
            have q2 : Blk (putAt V4 u2 0 (Pc.cells (⟨cn, cse, cst, cv, cs, ⟨tA, tn, tc⟩, cpa, cpl, csi, cq, ⟨some ⟨b9, o9, none⟩, m + 1, zc⟩⟩ : Pc))) u2 26 (Pc.cells (⟨cn, cse, cst, cv, cs, ⟨tA, tn, tc⟩, cpa, cpl, csi, cq, ⟨some ⟨b9, o9, none⟩, m + 1, zc⟩⟩ : Pc)) := Blk.put_ q2 0 _
            have q3 := Blk.putFar (g' := u2) q3 (by omega) 0 (Pc.cells (⟨cn, cse, cst, cv, cs, ⟨tA, tn, tc⟩, cpa, cpl, csi, cq, ⟨some ⟨b9, o9, none⟩, m + 1, zc⟩⟩ : Pc))
            refine hK.out _ _ (fun _ => z5) ?_
            clear hK K m1 h1 l1 z4
            generalize putAt V4 u2 0 (Pc.cells (⟨cn, cse, cst, cv, cs, ⟨tA, tn, tc⟩, cpa, cpl, csi, cq, ⟨some ⟨b9, o9, none⟩, m + 1, zc⟩⟩ : Pc)) = V5 at z5 q1 q2 q3 ⊢
            have m1 := q3.melts
            have h1 := Blk.has q3
            have l1 := q3.lt
            (repeat (first | ((apply w5_pure); (· go_simp); (· (intro w1; go_simp; try with_reducible rfl)); (intro K hK; go_simp; refine hK _ _ ?_; clear hK K)) | ((apply w5_skip); (· go_simp); (intro K hK; go_simp; refine hK _ _ ?_; clear hK K))))
            (refine w5_act (fun K hK => ?_); go_simp)
            have z6 := z5.putAt u3 0 (Pc.cells (⟨cn, cse, cst, cv, cs, ⟨tA, tn, tc⟩, cpa, cpl, csi, cq, ⟨some ⟨b9, o9, none⟩, m + 1, zc⟩⟩ : Pc)) (fun hlt => absurd hlt (by omega))
            have q1 := Blk.putFar (g' := u3) q1 (by omega) 0 (Pc.cells (⟨cn, cse, cst, cv, cs, ⟨tA, tn, tc⟩, cpa, cpl, csi, cq, ⟨some ⟨b9, o9, none⟩, m + 1, zc⟩⟩ : Pc))
            have q2 := Blk.putFar (g' := u3) q2 (by omega) 0 (Pc.cells (⟨cn, cse, cst, cv, cs, ⟨tA, tn, tc⟩, cpa, cpl, csi, cq, ⟨some ⟨b9, o9, none⟩, m + 1, zc⟩⟩ : Pc))
            have q3 : Blk (putAt V5 u3 0 (Pc.cells (⟨cn, cse, cst, cv, cs, ⟨tA, tn, tc⟩, cpa, cpl, csi, cq, ⟨some ⟨b9, o9, none⟩, m + 1, zc⟩⟩ : Pc))) u3 26 (Pc.cells (⟨cn, cse, cst, cv, cs, ⟨tA, tn, tc⟩, cpa, cpl, csi, cq, ⟨some ⟨b9, o9, none⟩, m + 1, zc⟩⟩ : Pc)) := Blk.put_ q3 0 _
            refine hK.out _ _ (fun _ => z6) ?_
            clear hK K m1 h1 l1 z5
            generalize putAt V5 u3 0 (Pc.cells (⟨cn, cse, cst, cv, cs, ⟨tA, tn, tc⟩, cpa, cpl, csi, cq, ⟨some ⟨b9, o9, none⟩, m + 1, zc⟩⟩ : Pc)) = V6 at z6 q1 q2 q3 ⊢
            (repeat (first | ((apply w5_pure); (· go_simp); (· (intro w1; go_simp; try with_reducible rfl)); (intro K hK; go_simp; refine hK _ _ ?_; clear hK K)) | ((apply w5_skip); (· go_simp); (intro K hK; go_simp; refine hK _ _ ?_; clear hK K)) | (refine w5_end (by kernel_rfl) (fun K hK => ?_); go_simp; refine hK.out _ _ ?_; clear hK K))); refine w5_nil ?_
            exact KEY.out _ _ _ _ ⟨z6, q1, q2, q3, by omega, by omega, by omega, by omega, by omega, by omega⟩
          · (refine w5_act (fun K hK => ?_); go_simp)
            have z2 := z1.alloc (.cells (Pc.cells zeroC) 26)
            have q2 := Blk.new V1 26 (Pc.cells zeroC)
            have n2 : W1.heap.size ≤ V1.heap.size := z1.size
            have n3 : u1 < V1.heap.size := q1.lt
            have q1 := q1.alloc (.cells (Pc.cells zeroC) 26)
            refine hK.out _ _ (fun _ => z2) ?_
            clear hK K
            generalize (V1.alloc (.cells (Pc.cells zeroC) 26)) = V2 at q1 q2 z2 ⊢
            generalize V1.heap.size = u2 at q2 n2 n3 ⊢
            clear z1
            (repeat (first | ((apply w5_pure); (· go_simp); (· (intro w1; go_simp; try with_reducible rfl)); (intro K hK; go_simp; refine hK _ _ ?_; clear hK K)) | ((apply w5_skip); (· go_simp); (intro K hK; go_simp; refine hK _ _ ?_; clear hK K))))
            (refine w5_act (fun K hK => ?_); go_simp)
            have z3 := z2.alloc (.cells (Pc.cells zeroC) 26)
            have q3 := Blk.new V2 26 (Pc.cells zeroC)
            have n4 : u2 < V2.heap.size := q2.lt
            have q1 := q1.alloc (.cells (Pc.cells zeroC) 26)
            have q2 := q2.alloc (.cells (Pc.cells zeroC) 26)
            refine hK.out _ _ (fun _ => z3) ?_
            clear hK K
            generalize (V2.alloc (.cells (Pc.cells zeroC) 26)) = V3 at q1 q2 q3 z3 ⊢
            generalize V2.heap.size = u3 at q3 n4 ⊢
            clear z2
            have m1 := q1.melts
            have h1 := Blk.has q1
            have l1 := q1.lt
            (repeat (first | ((apply w5_pure); (· go_simp); (· (intro w1; go_simp; try with_reducible rfl)); (intro K hK; go_simp; refine hK _ _ ?_; clear hK K)) | ((apply w5_skip); (· go_simp); (intro K hK; go_simp; refine hK _ _ ?_; clear hK K))))
            (refine w5_act (fun K hK => ?_); go_simp)
            have z4 := z3.putAt u1 0 (Pc.cells (⟨cn, cse, cst, cv, cs, ⟨tA, tn, tc⟩, cpa, cpl, csi, cq, ⟨some ⟨b9, o9, none⟩, m + 1, zc⟩⟩ : Pc)) (fun hlt => absurd hlt (by omega))
            have q1 : Blk (putAt V3 u1 0 (Pc.cells (⟨cn, cse, cst, cv, cs, ⟨tA, tn, tc⟩, cpa, cpl, csi, cq, ⟨some ⟨b9, o9, none⟩, m + 1, zc⟩⟩ : Pc))) u1 26 (Pc.cells (⟨cn, cse, cst, cv, cs, ⟨tA, tn, tc⟩, cpa, cpl, csi, cq, ⟨some ⟨b9, o9, none⟩, m + 1, zc⟩⟩ : Pc)) := Blk.put_ q1 0 _
            have q3 := Blk.putFar (g' := u1) q3 (by omega) 0 (Pc.cells (⟨cn, cse, cst, cv, cs, ⟨tA, tn, tc⟩, cpa, cpl, csi, cq, ⟨some ⟨b9, o9, none⟩, m + 1, zc⟩⟩ : Pc))
            have q2 := Blk.putFar (g' := u1) q2 (by omega) 0 (Pc.cells (⟨cn, cse, cst, cv, cs, ⟨tA, tn, tc⟩, cpa, cpl, csi, cq, ⟨some ⟨b9, o9, none⟩, m + 1, zc⟩⟩ : Pc))
            refine hK.out _ _ (fun _ => z4) ?_
            clear hK K m1 h1 l1 z3
            generalize putAt V3 u1 0 (Pc.cells (⟨cn, cse, cst, cv, cs, ⟨tA, tn, tc⟩, cpa, cpl, csi, cq, ⟨some ⟨b9, o9, none⟩, m + 1, zc⟩⟩ : Pc)) = V4 at z4 q1 q2 q3 ⊢
            have m1 := q3.melts
            have h1 := Blk.has q3
            have l1 := q3.lt
            (repeat (first | ((apply w5_pure); (· go_simp); (· (intro w1; go_simp; try with_reducible rfl)); (intro K hK; go_simp; refine hK _ _ ?_; clear hK K)) | ((apply w5_skip); (· go_simp); (intro K hK; go_simp; refine hK _ _ ?_; clear hK K))))
            (refine w5_act (fun K hK => ?_); go_simp)
            have z5 := z4.putAt u3 0 (Pc.cells (⟨cn, cse, cst, cv, cs, ⟨tA, tn, tc⟩, cpa, cpl, csi, cq, ⟨some ⟨b9, o9, none⟩, m + 1, zc⟩⟩ : Pc)) (fun hlt => absurd hlt (by omega))
            have q1 := Blk.putFar (g' := u3) q1 (by omega) 0 (Pc.cells (⟨cn, cse, cst, cv, cs, ⟨tA, tn, tc⟩, cpa, cpl, csi, cq, ⟨some ⟨b9, o9, none⟩, m + 1, zc⟩⟩ : Pc))
            have q3 : Blk (putAt V4 u3 0 (Pc.cells (⟨cn, cse, cst, cv, cs, ⟨tA, tn, tc⟩, cpa, cpl, csi, cq, ⟨some ⟨b9, o9, none⟩, m + 1, zc⟩⟩ : Pc))) u3 26 (Pc.cells (⟨cn, cse, cst, cv, cs, ⟨tA, tn, tc⟩, cpa, cpl, csi, cq, ⟨some ⟨b9, o9, none⟩, m + 1, zc⟩⟩ : Pc)) := Blk.put_ q3 0 _
            have q2 := Blk.putFar (g' := u3) q2 (by omega) 0 (Pc.cells (⟨cn, cse, cst, cv, cs, ⟨tA, tn, tc⟩, cpa, cpl, csi, cq, ⟨some ⟨b9, o9, none⟩, m + 1, zc⟩⟩ : Pc))
            refine hK.out _ _ (fun _ => z5) ?_
            clear hK K m1 h1 l1 z4
            generalize putAt V4 u3 0 (Pc.cells (⟨cn, cse, cst, cv, cs, ⟨tA, tn, tc⟩, cpa, cpl, csi, cq, ⟨some ⟨b9, o9, none⟩, m + 1, zc⟩⟩ : Pc)) = V5 at z5 q1 q2 q3 ⊢
            have m1 := q2.melts
            have h1 := Blk.has q2
            have l1 := q2.lt
            (repeat (first | ((apply w5_pure); (· go_simp); (· (intro w1; go_simp; try with_reducible rfl)); (intro K hK; go_simp; refine hK _ _ ?_; clear hK K)) | ((apply w5_skip); (· go_simp); (intro K hK; go_simp; refine hK _ _ ?_; clear hK K))))
            (refine w5_act (fun K hK => ?_); go_simp)
            have z6 := z5.putAt u2 0 (Pc.cells (⟨cn, cse, cst, cv, cs, ⟨tA, tn, tc⟩, cpa, cpl, csi, cq, ⟨some ⟨b9, o9, none⟩, m + 1, zc⟩⟩ : Pc)) (fun hlt => absurd hlt (by omega))
            have q1 := Blk.putFar (g' := u2) q1 (by omega) 0 (Pc.cells (⟨cn, cse, cst, cv, cs, ⟨tA, tn, tc⟩, cpa, cpl, csi, cq, ⟨some ⟨b9, o9, none⟩, m + 1, zc⟩⟩ : Pc))
            have q3 := Blk.putFar (g' := u2) q3 (by omega) 0 (Pc.cells (⟨cn, cse, cst, cv, cs, ⟨tA, tn, tc⟩, cpa, cpl, csi, cq, ⟨some ⟨b9, o9, none⟩, m + 1, zc⟩⟩ : Pc))
            have q2 : Blk (putAt V5 u2 0 (Pc.cells (⟨cn, cse, cst, cv, cs, ⟨tA, tn, tc⟩, cpa, cpl, csi, cq, ⟨some ⟨b9, o9, none⟩, m + 1, zc⟩⟩ : Pc))) u2 26 (Pc.cells (⟨cn, cse, cst, cv, cs, ⟨tA, tn, tc⟩, cpa, cpl, csi, cq, ⟨some ⟨b9, o9, none⟩, m + 1, zc⟩⟩ : Pc)) := Blk.put_ q2 0 _
            refine hK.out _ _ (fun _ => z6) ?_
            clear hK K m1 h1 l1 z5
            generalize putAt V5 u2 0 (Pc.cells (⟨cn, cse, cst, cv, cs, ⟨tA, tn, tc⟩, cpa, cpl, csi, cq, ⟨some ⟨b9, o9, none⟩, m + 1, zc⟩⟩ : Pc)) = V6 at z6 q1 q2 q3 ⊢
            (repeat (first | ((apply w5_pure); (· go_simp); (· (intro w1; go_simp; try with_reducible rfl)); (intro K hK; go_simp; refine hK _ _ ?_; clear hK K)) | ((apply w5_skip); (· go_simp); (intro K hK; go_simp; refine hK _ _ ?_; clear hK K)) | (refine w5_end (by kernel_rfl) (fun K hK => ?_); go_simp; refine hK.out _ _ ?_; clear hK K))); refine w5_nil ?_
            exact KEY.out _ _ _ _ ⟨z6, q1, q3, q2, by omega, by omega, by omega, by omega, by omega, by omega⟩
        · (refine w5_act (fun K hK => ?_); go_simp)
          have z1 : Ext W1 (W1.alloc (.cells (Pc.cells zeroC) 26)).drew := ((Kept.refl _ W1).alloc _).drew
          have q1 : Blk (W1.alloc (.cells (Pc.cells zeroC) 26)).drew W1.heap.size 26 (Pc.cells zeroC) := (Blk.new W1 _ _).drew
          refine hK.out _ _ (fun _ => z1) ?_
          clear hK K
          generalize (W1.alloc (.cells (Pc.cells zeroC) 26)).drew = V1 at z1 q1 ⊢
          obtain ⟨u1, hu1⟩ : ∃ u1, u1 = W1.heap.size := ⟨_, rfl⟩
          rw [← hu1] at q1 ⊢
          have n1 : W1.heap.size ≤ u1 := by omega
          clear hu1
          (repeat (first | ((apply w5_pure); (· go_simp); (· (intro w1; go_simp; try with_reducible rfl)); (intro K hK; go_simp; refine hK _ _ ?_; clear hK K)) | ((apply w5_skip); (· go_simp); (intro K hK; go_simp; refine hK _ _ ?_; clear hK K))))
          refine w5_fork ?_ ?_
          · (refine w5_act (fun K hK => ?_); go_simp)
            have z2 := z1.alloc (.cells (Pc.cells zeroC) 26)
            have q2 := Blk.new V1 26 (Pc.cells zeroC)
            have n2 : W1.heap.size ≤ V1.heap.size := z1.size
            have n3 : u1 < V1.heap.size := q1.lt
            have q1 := q1.alloc (.cells (Pc.cells zeroC) 26)
            refine hK.out _ _ (fun _ => z2) ?_
            clear hK K
            generalize (V1.alloc (.cells (Pc.cells zeroC) 26)) = V2 at q1 q2 z2 ⊢
            generalize V1.heap.size = u2 at q2 n2 n3 ⊢
            clear z1
            (repeat (first | ((apply w5_pure); (· go_simp); (· (intro w1; go_simp; try with_reducible rfl)); (intro K hK; go_simp; refine hK _ _ ?_; clear hK K)) | ((apply w5_skip); (· go_simp); (intro K hK; go_simp; refine hK _ _ ?_; clear hK K))))
            (refine w5_act (fun K hK => ?_); go_simp)
            have z3 := z2.alloc (.cells (Pc.cells zeroC) 26)
            have q3 := Blk.new V2 26 (Pc.cells zeroC)
            have n4 : u2 < V2.heap.size := q2.lt
            have q1 := q1.alloc (.cells (Pc.cells zeroC) 26)
            have q2 := q2.alloc (.cells (Pc.cells zeroC) 26)
            refine hK.out _ _ (fun _ => z3) ?_
            clear hK K
            generalize (V2.alloc (.cells (Pc.cells zeroC) 26)) = V3 at q1 q2 q3 z3 ⊢
            generalize V2.heap.size = u3 at q3 n4 ⊢
            clear z2
            have m1 := q2.melts
            have h1 := Blk.has q2
            have l1 := q2.lt
            (repeat (first | ((apply w5_pure); (· go_simp); (· (intro w1; go_simp; try with_reducible rfl)); (intro K hK; go_simp; refine hK _ _ ?_; clear hK K)) | ((apply w5_skip); (· go_simp); (intro K hK; go_simp; refine hK _ _ ?_; clear hK K))))
            (refine w5_act (fun K hK => ?_); go_simp)
            have z4 := z3.putAt u2 0 (Pc.cells (⟨cn, cse, cst, cv, cs, ⟨tA, tn, tc⟩, cpa, cpl, csi, cq, ⟨some ⟨b9, o9, none⟩, m + 1, zc⟩⟩ : Pc)) (fun hlt => absurd hlt (by omega))
            have q2 : Blk (putAt V3 u2 0 (Pc.cells (⟨cn, cse, cst, cv, cs, ⟨tA, tn, tc⟩, cpa, cpl, csi, cq, ⟨some ⟨b9, o9, none⟩, m + 1, zc⟩⟩ : Pc))) u2 26 (Pc.cells (⟨cn, cse, cst, cv, cs, ⟨tA, tn, tc⟩, cpa, cpl, csi, cq, ⟨some ⟨b9, o9, none⟩, m + 1, zc⟩⟩ : Pc)) := Blk.put_ q2 0 _
            have q1 := Blk.putFar (g' := u2) q1 (by omega) 0 (Pc.cells (⟨cn, cse, cst, cv, cs, ⟨tA, tn, tc⟩, cpa, cpl, csi, cq, ⟨some ⟨b9, o9, none⟩, m + 1, zc⟩⟩ : Pc))
            have q3 := Blk.putFar (g' := u2) q3 (by omega) 0 (Pc.cells (⟨cn, cse, cst, cv, cs, ⟨tA, tn, tc⟩, cpa, cpl, csi, cq, ⟨some ⟨b9, o9, none⟩, m + 1, zc⟩⟩ : Pc))
            refine hK.out _ _ (fun _ => z4) ?_
            clear hK K m1 h1 l1 z3
            generalize putAt V3 u2 0 (Pc.cells (⟨cn, cse, cst, cv, cs, ⟨tA, tn, tc⟩, cpa, cpl, csi, cq, ⟨some ⟨b9, o9, none⟩, m + 1, zc⟩⟩ : Pc)) = V4 at z4 q1 q2 q3 ⊢
            have m1 := q1.melts
            have h1 := Blk.has q1
            have l1 := q1.lt
            (repeat (first | ((apply w5_pure); (· go_simp); (· (intro w1; go_simp; try with_reducible rfl)); (intro K hK; go_simp; refine hK _ _ ?_; clear hK K)) | ((apply w5_skip); (· go_simp); (intro K hK; go_simp; refine hK _ _ ?_; clear hK K))))
            (refine w5_act (fun K hK => ?_); go_simp)
            have z5 := z4.putAt u1 0 (Pc.cells (⟨cn, cse, cst, cv, cs, ⟨tA, tn, tc⟩, cpa, cpl, csi, cq, ⟨some ⟨b9, o9, none⟩, m + 1, zc⟩⟩ : Pc)) (fun hlt => absurd hlt (by omega))
            have q2 := Blk.putFar (g' := u1) q2 (by omega) 0 (Pc.cells (⟨cn, cse, cst, cv, cs, ⟨tA, tn, tc⟩, cpa, cpl, csi, cq, ⟨some ⟨b9, o9, none⟩, m + 1, zc⟩⟩ : Pc))
            have q1 : Blk (putAt V4 u1 0 (Pc.cells (⟨cn, cse, cst, cv, cs, ⟨tA, tn, tc⟩, cpa, cpl, csi, cq, ⟨some ⟨b9, o9, none⟩, m + 1, zc⟩⟩ : Pc))) u1 26 (Pc.cells (⟨cn, cse, cst, cv, cs, ⟨tA, tn, tc⟩, cpa, cpl, csi, cq, ⟨some ⟨b9, o9, none⟩, m + 1, zc⟩⟩ : Pc)) := Blk.put_ q1 0 _
            have q3 := Blk.putFar (g' := u1) q3 (by omega) 0 (Pc.cells (⟨cn, cse, cst, cv, cs, ⟨tA, tn, tc⟩, cpa, cpl, csi, cq, ⟨some ⟨b9, o9, none⟩, m + 1, zc⟩⟩ : Pc))
            refine hK.out _ _ (fun _ => z5) ?_
            clear hK K m1 h1 l1 z4
            generalize putAt V4 u1 0 (Pc.cells (⟨cn, cse, cst, cv, cs, ⟨tA, tn, tc⟩, cpa, cpl, csi, cq, ⟨some ⟨b9, o9, none⟩, m + 1, zc⟩⟩ : Pc)) = V5 at z5 q1 q2 q3 ⊢
            have m1 := q3.melts
            have h1 := Blk.has q3
            have l1 := q3.lt
            (repeat (first | ((apply w5_pure); (· go_simp); (· (intro w1; go_simp; try with_reducible rfl)); (intro K hK; go_simp; refine hK _ _ ?_; clear hK K)) | ((apply w5_skip); (· go_simp); (intro K hK; go_simp; refine hK _ _ ?_; clear hK K))))
            (refine w5_act (fun K hK => ?_); go_simp)
            have z6 := z5.putAt u3 0 (Pc.cells (⟨cn, cse, cst, cv, cs, ⟨tA, tn, tc⟩, cpa, cpl, csi, cq, ⟨some ⟨b9, o9, none⟩, m + 1, zc⟩⟩ : Pc)) (fun hlt => absurd hlt (by omega))
            have q2 := Blk.putFar (g' := u3) q2 (by omega) 0 (Pc.cells (⟨cn, cse, cst, cv, cs, ⟨tA, tn, tc⟩, cpa, cpl, csi, cq, ⟨some ⟨b9, o9, none⟩, m + 1, zc⟩⟩ : Pc))
            have q1 := Blk.putFar (g' := u3) q1 (by omega) 0 (Pc.cells (⟨cn, cse, cst, cv, cs, ⟨tA, tn, tc⟩, cpa, cpl, csi, cq, ⟨some ⟨b9, o9, none⟩, m + 1, zc⟩⟩ : Pc))
            have q3 : Blk (putAt V5 u3 0 (Pc.cells (⟨cn, cse, cst, cv, cs, ⟨tA, tn, tc⟩, cpa, cpl, csi, cq, ⟨some ⟨b9, o9, none⟩, m + 1, zc⟩⟩ : Pc))) u3 26 (Pc.cells (⟨cn, cse, cst, cv, cs, ⟨tA, tn, tc⟩, cpa, cpl, csi, cq, ⟨some ⟨b9, o9, none⟩, m + 1, zc⟩⟩ : Pc)) := Blk.put_ q3 0 _
            refine hK.out _ _ (fun _ => z6) ?_
            clear hK K m1 h1 l1 z5
            generalize putAt V5 u3 0 (Pc.cells (⟨cn, cse, cst, cv, cs, ⟨tA, tn, tc⟩, cpa, cpl, csi, cq, ⟨some ⟨b9, o9, none⟩, m + 1, zc⟩⟩ : Pc)) = V6 at z6 q1 q2 q3 ⊢
            (repeat (first | ((apply w5_pure); (· go_simp); (· (intro w1; go_simp; try with_reducible rfl)); (intro K hK; go_simp; refine hK _ _ ?_; clear hK K)) | ((apply w5_skip); (· go_simp); (intro K hK; go_simp; refine hK _ _ ?_; clear hK K)) | (refine w5_end (by kernel_rfl) (fun K hK => ?_); go_simp; refine hK.out _ _ ?_; clear hK K))); refine w5_nil ?_
            exact KEY.out _ _ _ _ ⟨z6, q2, q1, q3, by omega, by omega, by omega, by omega, by omega, by omega⟩
          · (refine w5_act (fun K hK => ?_); go_simp)
            have z2 := z1.alloc (.cells (Pc.cells zeroC) 26)
            have q2 := Blk.new V1 26 (Pc.cells zeroC)
            have n2 : W1.heap.size ≤ V1.heap.size := z1.size
            have n3 : u1 < V1.heap.size := q1.lt
            have q1 := q1.alloc (.cells (Pc.cells zeroC) 26)
            refine hK.out _ _ (fun _ => z2) ?_
            clear hK K
            generalize (V1.alloc (.cells (Pc.cells zeroC) 26)) = V2 at q1 q2 z2 ⊢
            generalize V1.heap.size = u2 at q2 n2 n3 ⊢
            clear z1
            (repeat (first | ((apply w5_pure); (· go_simp); (· (intro w1; go_simp; try with_reducible rfl)); (intro K hK; go_simp; refine hK _ _ ?_; clear hK K)) | ((apply w5_skip); (· go_simp); (intro K hK; go_simp; refine hK _ _ ?_; clear hK K))))
            (refine w5_act (fun K hK => ?_); go_simp)
            have z3 := z2.alloc (.cells (Pc.cells zeroC) 26)
            have q3 := Blk.new V2 26 (Pc.cells zeroC)
            have n4 : u2 < V2.heap.size := q2.lt
            have q1 := q1.alloc (.cells (Pc.cells zeroC) 26)
            have q2 := q2.alloc (.cells (Pc.cells zeroC) 26)
            refine hK.out _ _ (fun _ => z3) ?_
            clear hK K
            generalize (V2.alloc (.cells (Pc.cells zeroC) 26)) = V3 at q1 q2 q3 z3 ⊢
            generalize V2.heap.size = u3 at q3 n4 ⊢
            clear z2
            have m1 := q3.melts
            have h1 := Blk.has q3
            have l1 := q3.lt
            (repeat (first | ((apply w5_pure); (· go_simp); (· (intro w1; go_simp; try with_reducible rfl)); (intro K hK; go_simp; refine hK _ _ ?_; clear hK K)) | ((apply w5_skip); (· go_simp); (intro K hK; go_simp; refine hK _ _ ?_; clear hK K))))
            (refine w5_act (fun K hK => ?_); go_simp)
            have z4 := z3.putAt u3 0 (Pc.cells (⟨cn, cse, cst, cv, cs, ⟨tA, tn, tc⟩, cpa, cpl, csi, cq, ⟨some ⟨b9, o9, none⟩, m + 1, zc⟩⟩ : Pc)) (fun hlt => absurd hlt (by omega))
            have q3 : Blk (putAt V3 u3 0 (Pc.cells (⟨cn, cse, cst, cv, cs, ⟨tA, tn, tc⟩, cpa, cpl, csi, cq, ⟨some ⟨b9, o9, none⟩, m + 1, zc⟩⟩ : Pc))) u3 26 (Pc.cells (⟨cn, cse, cst, cv, cs, ⟨tA, tn, tc⟩, cpa, cpl, csi, cq, ⟨some ⟨b9, o9, none⟩, m + 1, zc⟩⟩ : Pc)) := Blk.put_ q3 0 _
            have q1 := Blk.putFar (g' := u3) q1 (by omega) 0 (Pc.cells (⟨cn, cse, cst, cv, cs, ⟨tA, tn, tc⟩, cpa, cpl, csi, cq, ⟨some ⟨b9, o9, none⟩, m + 1, zc⟩⟩ : Pc))
            have q2 := Blk.putFar (g' := u3) q2 (by omega) 0 (Pc.cells (⟨cn, cse, cst, cv, cs, ⟨tA, tn, tc⟩, cpa, cpl, csi, cq, ⟨some ⟨b9, o9, none⟩, m + 1, zc⟩⟩ : Pc))
            refine hK.out _ _ (fun _ => z4) ?_
            clear hK K m1 h1 l1 z3
            generalize putAt V3 u3 0 (Pc.cells (⟨cn, cse, cst, cv, cs, ⟨tA, tn, tc⟩, cpa, cpl, csi, cq, ⟨some ⟨b9, o9, none⟩, m + 1, zc⟩⟩ : Pc)) = V4 at z4 q1 q2 q3 ⊢
            have m1 := q1.melts
            have h1 := Blk.has q1
            have l1 := q1.lt
            (repeat (first | ((apply w5_pure); (· go_simp); (· (intro w1; go_simp; try with_reducible rfl)); (intro K hK; go_simp; refine hK _ _ ?_; clear hK K)) | ((apply w5_skip); (· go_simp); (intro K hK; go_simp; refine hK _ _ ?_; clear hK K))))
            (refine w5_act (fun K hK => ?_); go_simp)
            have z5 := z4.putAt u1 0 (Pc.cells (⟨cn, cse, cst, cv, cs, ⟨tA, tn, tc⟩, cpa, cpl, csi, cq, ⟨some ⟨b9, o9, none⟩, m + 1, zc⟩⟩ : Pc)) (fun hlt => absurd hlt (by omega))
            have q3 := Blk.putFar (g' := u1) q3 (by omega) 0 (Pc.cells (⟨cn, cse, cst, cv, cs, ⟨tA, tn, tc⟩, cpa, cpl, csi, cq, ⟨some ⟨b9, o9, none⟩, m + 1, zc⟩⟩ : Pc))
            have q1 : Blk (putAt V4 u1 0 (Pc.cells (⟨cn, cse, cst, cv, cs, ⟨tA, tn, tc⟩, cpa, cpl, csi, cq, ⟨some ⟨b9, o9, none⟩, m + 1, zc⟩⟩ : Pc))) u1 26 (Pc.cells (⟨cn, cse, cst, cv, cs, ⟨tA, tn, tc⟩, cpa, cpl, csi, cq, ⟨some ⟨b9, o9, none⟩, m + 1, zc⟩⟩ : Pc)) := Blk.put_ q1 0 _
            have q2 := Blk.putFar (g' := u1) q2 (by omega) 0 (Pc.cells (⟨cn, cse, cst, cv, cs, ⟨tA, tn, tc⟩, cpa, cpl, csi, cq, ⟨some ⟨b9, o9, none⟩, m + 1, zc⟩⟩ : Pc))
            refine hK.out _ _ (fun _ => z5) ?_
            clear hK K m1 h1 l1 z4
            generalize putAt V4 u1 0 (Pc.cells (⟨cn, cse, cst, cv, cs, ⟨tA, tn, tc⟩, cpa, cpl, csi, cq, ⟨some ⟨b9, o9, none⟩, m + 1, zc⟩⟩ : Pc)) = V5 at z5 q1 q2 q3 ⊢
            have m1 := q2.melts
            have h1 := Blk.has q2
            have l1 := q2.lt
            (repeat (first | ((apply w5_pure); (· go_simp); (· (intro w1; go_simp; try with_reducible rfl)); (intro K hK; go_simp; refine hK _ _ ?_; clear hK K)) | ((apply w5_skip); (· go_simp); (intro K hK; go_simp; refine hK _ _ ?_; clear hK K))))
            (refine w5_act (fun K hK => ?_); go_simp)
            have z6 := z5.putAt u2 0 (Pc.cells (⟨cn, cse, cst, cv, cs, ⟨tA, tn, tc⟩, cpa, cpl, csi, cq, ⟨some ⟨b9, o9, none⟩, m + 1, zc⟩⟩ : Pc)) (fun hlt => absurd hlt (by omega))
            have q3 := Blk.putFar (g' := u2) q3 (by omega) 0 (Pc.cells (⟨cn, cse, cst, cv, cs, ⟨tA, tn, tc⟩, cpa, cpl, csi, cq, ⟨some ⟨b9, o9, none⟩, m + 1, zc⟩⟩ : Pc))
            have q1 := Blk.putFar (g' := u2) q1 (by omega) 0 (Pc.cells (⟨cn, cse, cst, cv, cs, ⟨tA, tn, tc⟩, cpa, cpl, csi, cq, ⟨some ⟨b9, o9, none⟩, m + 1, zc⟩⟩ : Pc))
            have q2 : Blk (putAt V5 u2 0 (Pc.cells (⟨cn, cse, cst, cv, cs, ⟨tA, tn, tc⟩, cpa, cpl, csi, cq, ⟨some ⟨b9, o9, none⟩, m + 1, zc⟩⟩ : Pc))) u2 26 (Pc.cells (⟨cn, cse, cst, cv, cs, ⟨tA, tn, tc⟩, cpa, cpl, csi, cq, ⟨some ⟨b9, o9, none⟩, m + 1, zc⟩⟩ : Pc)) := Blk.put_ q2 0 _
            refine hK.out _ _ (fun _ => z6) ?_
            clear hK K m1 h1 l1 z5
            generalize putAt V5 u2 0 (Pc.cells (⟨cn, cse, cst, cv, cs, ⟨tA, tn, tc⟩, cpa, cpl, csi, cq, ⟨some ⟨b9, o9, none⟩, m + 1, zc⟩⟩ : Pc)) = V6 at z6 q1 q2 q3 ⊢
            (repeat (first | ((apply w5_pure); (· go_simp); (· (intro w1; go_simp; try with_reducible rfl)); (intro K hK; go_simp; refine hK _ _ ?_; clear hK K)) | ((apply w5_skip); (· go_simp); (intro K hK; go_simp; refine hK _ _ ?_; clear hK K)) | (refine w5_end (by kernel_rfl) (fun K hK => ?_); go_simp; refine hK.out _ _ ?_; clear hK K))); refine w5_nil ?_
            exact KEY.out _ _ _ _ ⟨z6, q3, q1, q2, by omega, by omega, by omega, by omega, by omega, by omega⟩
        · (refine w5_act (fun K hK => ?_); go_simp)
          have z1 : Ext W1 (W1.alloc (.cells (Pc.cells zeroC) 26)).drew := ((Kept.refl _ W1).alloc _).drew
          have q1 : Blk (W1.alloc (.cells (Pc.cells zeroC) 26)).drew W1.heap.size 26 (Pc.cells zeroC) := (Blk.new W1 _ _).drew
          refine hK.out _ _ (fun _ => z1) ?_
          clear hK K
          generalize (W1.alloc (.cells (Pc.cells zeroC) 26)).drew = V1 at z1 q1 ⊢
          obtain ⟨u1, hu1⟩ : ∃ u1, u1 = W1.heap.size := ⟨_, rfl⟩
          rw [← hu1] at q1 ⊢
          have n1 : W1.heap.size ≤ u1 := by omega
          clear hu1
          (repeat (first | ((apply w5_pure); (· go_simp); (· (intro w1; go_simp; try with_reducible rfl)); (intro K hK; go_simp; refine hK _ _ ?_; clear hK K)) | ((apply w5_skip); (· go_simp); (intro K hK; go_simp; refine hK _ _ ?_; clear hK K))))
          refine w5_fork ?_ ?_
          · (refine w5_act (fun K hK => ?_); go_simp)
            have z2 := z1.alloc (.cells (Pc.cells zeroC) 26)
            have q2 := Blk.new V1 26 (Pc.cells zeroC)
            have n2 : W1.heap.size ≤ V1.heap.size := z1.size
            have n3 : u1 < V1.heap.size := q1.lt
            have q1 := q1.alloc (.cells (Pc.cells zeroC) 26)
            refine hK.out _ _ (fun _ => z2) ?_
            clear hK K
            generalize (V1.alloc (.cells (Pc.cells zeroC) 26)) = V2 at q1 q2 z2 ⊢
            generalize V1.heap.size = u2 at q2 n2 n3 ⊢
            clear z1
            (repeat (first | ((apply w5_pure); (· go_simp); (· (intro w1; go_simp; try with_reducible rfl)); (intro K hK; go_simp; refine hK _ _ ?_; clear hK K)) | ((apply w5_skip); (· go_simp); (intro K hK; go_simp; refine hK _ _ ?_; clear hK K))))
            (refine w5_act (fun K hK => ?_); go_simp)
            have z3 := z2.alloc (.cells (Pc.cells zeroC) 26)
            have q3 := Blk.new V2 26 (Pc.cells zeroC)
            have n4 : u2 < V2.heap.size := q2.lt
            have q1 := q1.alloc (.cells (Pc.cells zeroC) 26)
            have q2 := q2.alloc (.cells (Pc.cells zeroC) 26)
            refine hK.out _ _ (fun _ => z3) ?_
            clear hK K
            generalize (V2.alloc (.cells (Pc.cells zeroC) 26)) = V3 at q1 q2 q3 z3 ⊢
            generalize V2.heap.size = u3 at q3 n4 ⊢
            clear z2
            have m1 := q2.melts
            have h1 := Blk.has q2
            have l1 := q2.lt
            (repeat (first | ((apply w5_pure); (· go_simp); (· (intro w1; go_simp; try with_reducible rfl)); (intro K hK; go_simp; refine hK _ _ ?_; clear hK K)) | ((apply w5_skip); (· go_simp); (intro K hK; go_simp; refine hK _ _ ?_; clear hK K))))
            (refine w5_act (fun K hK => ?_); go_simp)
            have z4 := z3.putAt u2 0 (Pc.cells (⟨cn, cse, cst, cv, cs, ⟨tA, tn, tc⟩, cpa, cpl, csi, cq, ⟨some ⟨b9, o9, none⟩, m + 1, zc⟩⟩ : Pc)) (fun hlt => absurd hlt (by omega))
            have q2 : Blk (putAt V3 u2 0 (Pc.cells (⟨cn, cse, cst, cv, cs, ⟨tA, tn, tc⟩, cpa, cpl, csi, cq, ⟨some ⟨b9, o9, none⟩, m + 1, zc⟩⟩ : Pc))) u2 26 (Pc.cells (⟨cn, cse, cst, cv, cs, ⟨tA, tn, tc⟩, cpa, cpl, csi, cq, ⟨some ⟨b9, o9, none⟩, m + 1, zc⟩⟩ : Pc)) := Blk.put_ q2 0 _
            have q3 := Blk.putFar (g' := u2) q3 (by omega) 0 (Pc.cells (⟨cn, cse, cst, cv, cs, ⟨tA, tn, tc⟩, cpa, cpl, csi, cq, ⟨some ⟨b9, o9, none⟩, m + 1, zc⟩⟩ : Pc))
            have q1 := Blk.putFar (g' := u2) q1 (by omega) 0 (Pc.cells (⟨cn, cse, cst, cv, cs, ⟨tA, tn, tc⟩, cpa, cpl, csi, cq, ⟨some ⟨b9, o9, none⟩, m + 1, zc⟩⟩ : Pc))
            refine hK.out _ _ (fun _ => z4) ?_
            clear hK K m1 h1 l1 z3
            generalize putAt V3 u2 0 (Pc.cells (⟨cn, cse, cst, cv, cs, ⟨tA, tn, tc⟩, cpa, cpl, csi, cq, ⟨some ⟨b9, o9, none⟩, m + 1, zc⟩⟩ : Pc)) = V4 at z4 q1 q2 q3 ⊢
            have m1 := q3.melts
            have h1 := Blk.has q3
            have l1 := q3.lt
            (repeat (first | ((apply w5_pure); (· go_simp); (· (intro w1; go_simp; try with_reducible rfl)); (intro K hK; go_simp; refine hK _ _ ?_; clear hK K)) | ((apply w5_skip); (· go_simp); (intro K hK; go_simp; refine hK _ _ ?_; clear hK K))))
            (refine w5_act (fun K hK => ?_); go_simp)
            have z5 := z4.putAt u3 0 (Pc.cells (⟨cn, cse, cst, cv, cs, ⟨tA, tn, tc⟩, cpa, cpl, csi, cq, ⟨some ⟨b9, o9, none⟩, m + 1, zc⟩⟩ : Pc)) (fun hlt => absurd hlt (by omega))
            have q2 := Blk.putFar (g' := u3) q2 (by omega) 0 (Pc.cells (⟨cn, cse, cst, cv, cs, ⟨tA, tn, tc⟩, cpa, cpl, csi, cq, ⟨some ⟨b9, o9, none⟩, m + 1, zc⟩⟩ : Pc))
            have q3 : Blk (putAt V4 u3 0 (Pc.cells (⟨cn, cse, cst, cv, cs, ⟨tA, tn, tc⟩, cpa, cpl, csi, cq, ⟨some ⟨b9, o9, none⟩, m + 1, zc⟩⟩ : Pc))) u3 26 (Pc.cells (⟨cn, cse, cst, cv, cs, ⟨tA, tn, tc⟩, cpa, cpl, csi, cq, ⟨some ⟨b9, o9, none⟩, m + 1, zc⟩⟩ : Pc)) := Blk.put_ q3 0 _
            have q1 := Blk.putFar (g' := u3) q1 (by omega) 0 (Pc.cells (⟨cn, cse, cst, cv, cs, ⟨tA, tn, tc⟩, cpa, cpl, csi, cq, ⟨some ⟨b9, o9, none⟩, m + 1, zc⟩⟩ : Pc))
            refine hK.out _ _ (fun _ => z5) ?_
            clear hK K m1 h1 l1 z4
            generalize putAt V4 u3 0 (Pc.cells (⟨cn, cse, cst, cv, cs, ⟨tA, tn, tc⟩, cpa, cpl, csi, cq, ⟨some ⟨b9, o9, none⟩, m + 1, zc⟩⟩ : Pc)) = V5 at z5 q1 q2 q3 ⊢
            have m1 := q1.melts
            have h1 := Blk.has q1
            have l1 := q1.lt
            (repeat (first | ((apply w5_pure); (· go_simp); (· (intro w1; go_simp; try with_reducible rfl)); (intro K hK; go_simp; refine hK _ _ ?_; clear hK K)) | ((apply w5_skip); (· go_simp); (intro K hK; go_simp; refine hK _ _ ?_; clear hK K))))
            (refine w5_act (fun K hK => ?_); go_simp)
            have z6 := z5.putAt u1 0 (Pc.cells (⟨cn, cse, cst, cv, cs, ⟨tA, tn, tc⟩, cpa, cpl, csi, cq, ⟨some ⟨b9, o9, none⟩, m + 1, zc⟩⟩ : Pc)) (fun hlt => absurd hlt (by omega))
            have q2 := Blk.putFar (g' := u1) q2 (by omega) 0 (Pc.cells (⟨cn, cse, cst, cv, cs, ⟨tA, tn, tc⟩, cpa, cpl, csi, cq, ⟨some ⟨b9, o9, none⟩, m + 1, zc⟩⟩ : Pc))
            have q3 := Blk.putFar (g' := u1) q3 (by omega) 0 (Pc.cells (⟨cn, cse, cst, cv, cs, ⟨tA, tn, tc⟩, cpa, cpl, csi, cq, ⟨some ⟨b9, o9, none⟩, m + 1, zc⟩⟩ : Pc))
            have q1 : Blk (putAt V5 u1 0 (Pc.cells (⟨cn, cse, cst, cv, cs, ⟨tA, tn, tc⟩, cpa, cpl, csi, cq, ⟨some ⟨b9, o9, none⟩, m + 1, zc⟩⟩ : Pc))) u1 26 (Pc.cells (⟨cn, cse, cst, cv, cs, ⟨tA, tn, tc⟩, cpa, cpl, csi, cq, ⟨some ⟨b9, o9, none⟩, m + 1, zc⟩⟩ : Pc)) := Blk.put_ q1 0 _
            refine hK.out _ _ (fun _ => z6) ?_
            clear hK K m1 h1 l1 z5
            generalize putAt V5 u1 0 (Pc.cells (⟨cn, cse, cst, cv, cs, ⟨tA, tn, tc⟩, cpa, cpl, csi, cq, ⟨some ⟨b9, o9, none⟩, m + 1, zc⟩⟩ : Pc)) = V6 at z6 q1 q2 q3 ⊢
            (repeat (first | ((apply w5_pure); (· go_simp); (· (intro w1; go_simp; try with_reducible rfl)); (intro K hK; go_simp; refine hK _ _ ?_; clear hK K)) | ((apply w5_skip); (· go_simp); (intro K hK; go_simp; refine hK _ _ ?_; clear hK K)) | (refine w5_end (by kernel_rfl) (fun K hK => ?_); go_simp; refine hK.out _ _ ?_; clear hK K))); refine w5_nil ?_
            exact KEY.out _ _ _ _ ⟨z6, q2, q3, q1, by omega, by omega, by omega, by omega, by omega, by omega⟩
          · (refine w5_act (fun K hK => ?_); go_simp)
            have z2 := z1.alloc (.cells (Pc.cells zeroC) 26)
            have q2 := Blk.new V1 26 (Pc.cells zeroC)
            have n2 : W1.heap.size ≤ V1.heap.size := z1.size
            have n3 : u1 < V1.heap.size := q1.lt
            have q1 := q1.alloc (.cells (Pc.cells zeroC) 26)
            refine hK.out _ _ (fun _ => z2) ?_
            clear hK K
            generalize (V1.alloc (.cells (Pc.cells zeroC) 26)) = V2 at q1 q2 z2 ⊢
            generalize V1.heap.size = u2 at q2 n2 n3 ⊢
            clear z1
            (repeat (first | ((apply w5_pure); (· go_simp); (· (intro w1; go_simp; try with_reducible rfl)); (intro K hK; go_simp; refine hK _ _ ?_; clear hK K)) | ((apply w5_skip); (· go_simp); (intro K hK; go_simp; refine hK _ _ ?_; clear hK K))))
            (refine w5_act (fun K hK => ?_); go_simp)
            have z3 := z2.alloc (.cells (Pc.cells zeroC) 26)
            have q3 := Blk.new V2 26 (Pc.cells zeroC)
            have n4 : u2 < V2.heap.size := q2.lt
            have q1 := q1.alloc (.cells (Pc.cells zeroC) 26)
            have q2 := q2.alloc (.cells (Pc.cells zeroC) 26)
            refine hK.out _ _ (fun _ => z3) ?_
            clear hK K
            generalize (V2.alloc (.cells (Pc.cells zeroC) 26)) = V3 at q1 q2 q3 z3 ⊢
            generalize V2.heap.size = u3 at q3 n4 ⊢
            clear z2
            have m1 := q3.melts
            have h1 := Blk.has q3
            have l1 := q3.lt
            (repeat (first | ((apply w5_pure); (· go_simp); (· (intro w1; go_simp; try with_reducible rfl)); (intro K hK; go_simp; refine hK _ _ ?_; clear hK K)) | ((apply w5_skip); (· go_simp); (intro K hK; go_simp; refine hK _ _ ?_; clear hK K))))
            (refine w5_act (fun K hK => ?_); go_simp)
            have z4 := z3.putAt u3 0 (Pc.cells (⟨cn, cse, cst, cv, cs, ⟨tA, tn, tc⟩, cpa, cpl, csi, cq, ⟨some ⟨b9, o9, none⟩, m + 1, zc⟩⟩ : Pc)) (fun hlt => absurd hlt (by omega))
            have q3 : Blk (putAt V3 u3 0 (Pc.cells (⟨cn, cse, cst, cv, cs, ⟨tA, tn, tc⟩, cpa, cpl, csi, cq, ⟨some ⟨b9, o9, none⟩, m + 1, zc⟩⟩ : Pc))) u3 26 (Pc.cells (⟨cn, cse, cst, cv, cs, ⟨tA, tn, tc⟩, cpa, cpl, csi, cq, ⟨some ⟨b9, o9, none⟩, m + 1, zc⟩⟩ : Pc)) := Blk.put_ q3 0 _
            have q2 := Blk.putFar (g' := u3) q2 (by omega) 0 (Pc.cells (⟨cn, cse, cst, cv, cs, ⟨tA, tn, tc⟩, cpa, cpl, csi, cq, ⟨some ⟨b9, o9, none⟩, m + 1, zc⟩⟩ : Pc))
            have q1 := Blk.putFar (g' := u3) q1 (by omega) 0 (Pc.cells (⟨cn, cse, cst, cv, cs, ⟨tA, tn, tc⟩, cpa, cpl, csi, cq, ⟨some ⟨b9, o9, none⟩, m + 1, zc⟩⟩ : Pc))
            refine hK.out _ _ (fun _ => z4) ?_
            clear hK K m1 h1 l1 z3
            generalize putAt V3 u3 0 (Pc.cells (⟨cn, cse, cst, cv, cs, ⟨tA, tn, tc⟩, cpa, cpl, csi, cq, ⟨some ⟨b9, o9, none⟩, m + 1, zc⟩⟩ : Pc)) = V4 at z4 q1 q2 q3 ⊢
            have m1 := q2.melts
            have h1 := Blk.has q2
            have l1 := q2.lt
            (repeat (first | ((apply w5_pure); (· go_simp); (· (intro w1; go_simp; try with_reducible rfl)); (intro K hK; go_simp; refine hK _ _ ?_; clear hK K)) | ((apply w5_skip); (· go_simp); (intro K hK; go_simp; refine hK _ _ ?_; clear hK K))))
            (refine w5_act (fun K hK => ?_); go_simp)
            have z5 := z4.putAt u2 0 (Pc.cells (⟨cn, cse, cst, cv, cs, ⟨tA, tn, tc⟩, cpa, cpl, csi, cq, ⟨some ⟨b9, o9, none⟩, m + 1, zc⟩⟩ : Pc)) (fun hlt => absurd hlt (by omega))
            have q3 := Blk.putFar (g' := u2) q3 (by omega) 0 (Pc.cells (⟨cn, cse, cst, cv, cs, ⟨tA, tn, tc⟩, cpa, cpl, csi, cq, ⟨some ⟨b9, o9, none⟩, m + 1, zc⟩⟩ : Pc))
            have q2 : Blk (putAt V4 u2 0 (Pc.cells (⟨cn, cse, cst, cv, cs, ⟨tA, tn, tc⟩, cpa, cpl, csi, cq, ⟨some ⟨b9, o9, none⟩, m + 1, zc⟩⟩ : Pc))) u2 26 (Pc.cells (⟨cn, cse, cst, cv, cs, ⟨tA, tn, tc⟩, cpa, cpl, csi, cq, ⟨some ⟨b9, o9, none⟩, m + 1, zc⟩⟩ : Pc)) := Blk.put_ q2 0 _
            have q1 := Blk.putFar (g' := u2) q1 (by omega) 0 (Pc.cells (⟨cn, cse, cst, cv, cs, ⟨tA, tn, tc⟩, cpa, cpl, csi, cq, ⟨some ⟨b9, o9, none⟩, m + 1, zc⟩⟩ : Pc))
            refine hK.out _ _ (fun _ => z5) ?_
            clear hK K m1 h1 l1 z4
            generalize putAt V4 u2 0 (Pc.cells (⟨cn, cse, cst, cv, cs, ⟨tA, tn, tc⟩, cpa, cpl, csi, cq, ⟨some ⟨b9, o9, none⟩, m + 1, zc⟩⟩ : Pc)) = V5 at z5 q1 q2 q3 ⊢
            have m1 := q1.melts
            have h1 := Blk.has q1
            have l1 := q1.lt
            (repeat (first | ((apply w5_pure); (· go_simp); (· (intro w1; go_simp; try with_reducible rfl)); (intro K hK; go_simp; refine hK _ _ ?_; clear hK K)) | ((apply w5_skip); (· go_simp); (intro K hK; go_simp; refine hK _ _ ?_; clear hK K))))
            (refine w5_act (fun K hK => ?_); go_simp)
            have z6 := z5.putAt u1 0 (Pc.cells (⟨cn, cse, cst, cv, cs, ⟨tA, tn, tc⟩, cpa, cpl, csi, cq, ⟨some ⟨b9, o9, none⟩, m + 1, zc⟩⟩ : Pc)) (fun hlt => absurd hlt (by omega))
            have q3 := Blk.putFar (g' := u1) q3 (by omega) 0 (Pc.cells (⟨cn, cse, cst, cv, cs, ⟨tA, tn, tc⟩, cpa, cpl, csi, cq, ⟨some ⟨b9, o9, none⟩, m + 1, zc⟩⟩ : Pc))
            have q2 := Blk.putFar (g' := u1) q2 (by omega) 0 (Pc.cells (⟨cn, cse, cst, cv, cs, ⟨tA, tn, tc⟩, cpa, cpl, csi, cq, ⟨some ⟨b9, o9, none⟩, m + 1, zc⟩⟩ : Pc))
            have q1 : Blk (putAt V5 u1 0 (Pc.cells (⟨cn, cse, cst, cv, cs, ⟨tA, tn, tc⟩, cpa, cpl, csi, cq, ⟨some ⟨b9, o9, none⟩, m + 1, zc⟩⟩ : Pc))) u1 26 (Pc.cells (⟨cn, cse, cst, cv, cs, ⟨tA, tn, tc⟩, cpa, cpl, csi, cq, ⟨some ⟨b9, o9, none⟩, m + 1, zc⟩⟩ : Pc)) := Blk.put_ q1 0 _
            refine hK.out _ _ (fun _ => z6) ?_
            clear hK K m1 h1 l1 z5
            generalize putAt V5 u1 0 (Pc.cells (⟨cn, cse, cst, cv, cs, ⟨tA, tn, tc⟩, cpa, cpl, csi, cq, ⟨some ⟨b9, o9, none⟩, m + 1, zc⟩⟩ : Pc)) = V6 at z6 q1 q2 q3 ⊢
            (repeat (first | ((apply w5_pure); (· go_simp); (· (intro w1; go_simp; try with_reducible rfl)); (intro K hK; go_simp; refine hK _ _ ?_; clear hK K)) | ((apply w5_skip); (· go_simp); (intro K hK; go_simp; refine hK _ _ ?_; clear hK K)) | (refine w5_end (by kernel_rfl) (fun K hK => ?_); go_simp; refine hK.out _ _ ?_; clear hK K))); refine w5_nil ?_
            exact KEY.out _ _ _ _ ⟨z6, q3, q2, q1, by omega, by omega, by omega, by omega, by omega, by omega⟩
      case h2 =>
        rintro W2 a b c ⟨y2, ha, hb, hc, na, nb, nc, n1, n2, n3⟩
        have HW1 := Lib.hid (show W.heap.size ≤ W1.heap.size from HXQ.out.size)
        have HXQ := Lib.hid (HXQ.out.trans y2)
        have HNE := Lib.hid (show W.heap.size ≤ a ∧ W.heap.size ≤ b ∧ W.heap.size ≤ c ∧ ¬ a = b ∧ ¬ a = c ∧ ¬ b = c from ⟨by have := HW1.out; omega, by have := HW1.out; omega, by have := HW1.out; omega, n1, n2, n3⟩)
        clear y2 na nb nc n1 n2 n3
        -- a: without its last
        have hBq := Blk.ext HB.out HXQ.out
        have hcP := Blk.cell hBq
        have hhP := Blk.has hBq
        have hgP := Blk.gets hBq
        have hlP := hBq.lt
        have cA := Blk.cell ha
        have fA := Blk.frozen ha
        have lA := ha.lt
        have hm0 := HMX.out
        have hm1 : (m : Int) ≤ zc := by have := HMC.out; omega
        go_upto_region 5 with (fail)
        have hk : Kept (· = a) W2 (W2.setCell ⟨a, 10, none⟩ (.slice (some ⟨b9, o9, none⟩) m zc)) := (Kept.refl _ _).setCell _ _ (fun _ => rfl)
        have hA2 : Blk (W2.setCell ⟨a, 10, none⟩ (.slice (some ⟨b9, o9, none⟩) m zc)) a 26 (Pc.cells (⟨cn, cse, cst, cv, cs, ⟨tA, tn, tc⟩, cpa, cpl, csi, cq, ⟨some ⟨b9, o9, none⟩, m, zc⟩⟩ : Pc)) := by
          have q := Blk.set_ ha 10 (.slice (some ⟨b9, o9, none⟩) m zc)
          exact q
        have hB2 := Blk.kept hb hk (fun e => HNE.out.2.2.2.1 e.symm)
        have hC2 := Blk.kept hc hk (fun e => HNE.out.2.2.2.2.1 e.symm)
        generalize (W2.setCell ⟨a, 10, none⟩ (.slice (some ⟨b9, o9, none⟩) m zc)) = W3 at hk hA2 hB2 hC2 ⊢
        clear hBq hcP hhP hgP hlP
        have HXQ := Lib.hid (HXQ.out.trans' hk (fun i hi q => by have := HNE.out.1; omega))
        clear cA fA lA hm0 hm1 ha hb hc hk
        -- b: nothing
        have cA := Blk.cell hB2
        have fA := Blk.frozen hB2
        have lA := hB2.lt
        go_upto_region 6 with (fail)
        have hk : Kept (· = b) W3 (W3.setCell ⟨b, 5, none⟩ (.slice none 0 0)) := (Kept.refl _ _).setCell _ _ (fun _ => rfl)
        have hB3 : Blk (W3.setCell ⟨b, 5, none⟩ (.slice none 0 0)) b 26 (Pc.cells (⟨cn, cse, cst, cv, cs, ⟨none, 0, 0⟩, cpa, cpl, csi, cq, ⟨some ⟨b9, o9, none⟩, m + 1, zc⟩⟩ : Pc)) := by
          have q := Blk.set_ hB2 5 (.slice none 0 0)
          exact q
        have hA3 := Blk.kept hA2 hk HNE.out.2.2.2.1
        have hC3 := Blk.kept hC2 hk (fun e => HNE.out.2.2.2.2.2 e.symm)
        generalize (W3.setCell ⟨b, 5, none⟩ (.slice none 0 0)) = W4 at hk hA3 hB3 hC3 ⊢
        have HXQ := Lib.hid (HXQ.out.trans' hk (fun i hi q => by have := HNE.out.2.1; omega))
        clear cA fA lA hA2 hB2 hC2 hk
        -- c: twice, under an if
        have hBq := Blk.ext HB.out HXQ.out
        have hcP := Blk.cell hBq
        have hhP := Blk.has hBq
        have hgP := Blk.gets hBq
        have hlP := hBq.lt
        have x1 := ((Kept.refl (fun _ => False) W4).alloc (.cells (ecells 0 0 ⟨#[]⟩ none 0 0) 36)).alloc (.cells (scells 2 ⟨#[]⟩ (some ⟨W4.heap.size, 0, none⟩) 1 1 0 0 tA tn tc tA tn tc) 34)
        have hE := (Blk.new W4 36 (ecells 0 0 ⟨#[]⟩ none 0 0)).alloc (.cells (scells 2 ⟨#[]⟩ (some ⟨W4.heap.size, 0, none⟩) 1 1 0 0 tA tn tc tA tn tc) 34)
        have hS := Blk.new' (W4.alloc (.cells (ecells 0 0 ⟨#[]⟩ none 0 0) 36)) 34 (scells 2 ⟨#[]⟩ (some ⟨W4.heap.size, 0, none⟩) 1 1 0 0 tA tn tc tA tn tc) (W4.heap.size + 1) (by simp)
        have hA4 := Blk.ext hA3 x1
        have hB4 := Blk.ext hB3 x1
        have hC4 := Blk.ext hC3 x1
        have cA := Blk.cell hC4
        have fA := Blk.frozen hC4
        have lA := hC4.lt
        go_upto_region 7 with (fail)
        have hk : Kept (· = c) ((W4.alloc (.cells (ecells 0 0 ⟨#[]⟩ none 0 0) 36)).alloc (.cells (scells 2 ⟨#[]⟩ (some ⟨W4.heap.size, 0, none⟩) 1 1 0 0 tA tn tc tA tn tc) 34)) (((W4.alloc (.cells (ecells 0 0 ⟨#[]⟩ none 0 0) 36)).alloc (.cells (scells 2 ⟨#[]⟩ (some ⟨W4.heap.size, 0, none⟩) 1 1 0 0 tA tn tc tA tn tc) 34)).setCell ⟨c, 5, none⟩ (.slice (some ⟨W4.heap.size + 1, 0, none⟩) 1 1)) := (Kept.refl _ _).setCell _ _ (fun _ => rfl)
        have hC5 : Blk (((W4.alloc (.cells (ecells 0 0 ⟨#[]⟩ none 0 0) 36)).alloc (.cells (scells 2 ⟨#[]⟩ (some ⟨W4.heap.size, 0, none⟩) 1 1 0 0 tA tn tc tA tn tc) 34)).setCell ⟨c, 5, none⟩ (.slice (some ⟨W4.heap.size + 1, 0, none⟩) 1 1)) c 26 (Pc.cells (⟨cn, cse, cst, cv, cs, ⟨some ⟨W4.heap.size + 1, 0, none⟩, 1, 1⟩, cpa, cpl, csi, cq, ⟨some ⟨b9, o9, none⟩, m + 1, zc⟩⟩ : Pc)) := by
          have q := Blk.set_ hC4 5 (.slice (some ⟨W4.heap.size + 1, 0, none⟩) 1 1)
          exact q
        have hA5 := Blk.kept hA4 hk HNE.out.2.2.2.2.1
        have hB5 := Blk.kept hB4 hk HNE.out.2.2.2.2.2
        have hE5 := Blk.kept hE hk (fun e => by have := hC3.lt; omega)
        have hS5 := Blk.kept hS hk (fun e => by have := hC3.lt; omega)
        generalize (((W4.alloc (.cells (ecells 0 0 ⟨#[]⟩ none 0 0) 36)).alloc (.cells (scells 2 ⟨#[]⟩ (some ⟨W4.heap.size, 0, none⟩) 1 1 0 0 tA tn tc tA tn tc) 34)).setCell ⟨c, 5, none⟩ (.slice (some ⟨W4.heap.size + 1, 0, none⟩) 1 1)) = W5 at hk hA5 hB5 hC5 hE5 hS5 ⊢
        clear hBq hcP hhP hgP hlP
        have HXQ := Lib.hid ((HXQ.out.trans x1).trans' hk (fun i hi q => by have := HNE.out.2.2.1; omega))
        clear cA fA lA hA3 hB3 hC3 hA4 hB4 hC4 hE hS hk x1
        generalize W4.heap.size + 1 = sb at hC5 hS5 ⊢
        generalize W4.heap.size = eb at hE5 hS5 ⊢
        -- d: once
        have hhC := Blk.has hC5
        have hgC := Blk.gets hC5
        have hlC := hC5.lt
        have x2 := (Kept.refl (fun _ => False) W5).alloc (.cells (Pc.cells (⟨cn, cse, cst, cv, cs, ⟨some ⟨sb, 0, none⟩, 1, 1⟩, cpa, cpl, csi, cq, ⟨some ⟨b9, o9, none⟩, m + 1, zc⟩⟩ : Pc)) 26)
        have hD := Blk.new W5 26 (Pc.cells (⟨cn, cse, cst, cv, cs, ⟨some ⟨sb, 0, none⟩, 1, 1⟩, cpa, cpl, csi, cq, ⟨some ⟨b9, o9, none⟩, m + 1, zc⟩⟩ : Pc))
        go_upto_region 8 with (fail)
        have HA6 := Lib.hid (Blk.ext hA5 x2)
        have HB6 := Lib.hid (Blk.ext hB5 x2)
        have HC6 := Lib.hid (Blk.ext hC5 x2)
        have HE6 := Lib.hid (Blk.ext hE5 x2)
        have HS6 := Lib.hid (Blk.ext hS5 x2)
        have HXQ := Lib.hid (HXQ.out.trans x2)
        have HDN := Lib.hid (show W.heap.size ≤ W5.heap.size ∧ ¬ W5.heap.size = a ∧ ¬ W5.heap.size = b ∧ ¬ W5.heap.size = c ∧ ¬ W5.heap.size = eb ∧ ¬ W5.heap.size = sb from ⟨by have := hC5.lt; have := HNE.out.2.2.1; omega, by have := hA5.lt; omega, by have := hB5.lt; omega, by have := hC5.lt; omega, by have := hE5.lt; omega, by have := hS5.lt; omega⟩)
        clear hhC hgC hlC hA5 hB5 hC5 hE5 hS5
        generalize (W5.alloc (.cells (Pc.cells (⟨cn, cse, cst, cv, cs, ⟨some ⟨sb, 0, none⟩, 1, 1⟩, cpa, cpl, csi, cq, ⟨some ⟨b9, o9, none⟩, m + 1, zc⟩⟩ : Pc)) 26)) = W6 at x2 hD HA6 HB6 HC6 HE6 HS6 HXQ ⊢
        generalize W5.heap.size = db at hD HDN ⊢
        have HD := Lib.hid hD
        clear x2 hD
        have hBq := Blk.ext HB.out HXQ.out
        have hcP := Blk.cell hBq
        have hhP := Blk.has hBq
        have hgP := Blk.gets hBq
        have hlP := hBq.lt
        have hD6 := HD.out
        have y1 := (((Kept.refl (fun _ => False) W6).alloc (.cells #[] 34)).alloc (.cells (ecells 0 0 ⟨#[]⟩ none 0 0) 36)).alloc (.cells (scells 2 ⟨#[]⟩ (some ⟨W6.heap.size + 1, 0, none⟩) 1 1 0 0 tA tn tc none 0 0) 34)
        have q0 := ((Blk.new W6 34 #[]).alloc (.cells (ecells 0 0 ⟨#[]⟩ none 0 0) 36)).alloc (.cells (scells 2 ⟨#[]⟩ (some ⟨W6.heap.size + 1, 0, none⟩) 1 1 0 0 tA tn tc none 0 0) 34)
        have qe := (Blk.new' (W6.alloc (.cells #[] 34)) 36 (ecells 0 0 ⟨#[]⟩ none 0 0) (W6.heap.size + 1) (by simp)).alloc (.cells (scells 2 ⟨#[]⟩ (some ⟨W6.heap.size + 1, 0, none⟩) 1 1 0 0 tA tn tc none 0 0) 34)
        have qs := Blk.new' ((W6.alloc (.cells #[] 34)).alloc (.cells (ecells 0 0 ⟨#[]⟩ none 0 0) 36)) 34 (scells 2 ⟨#[]⟩ (some ⟨W6.heap.size + 1, 0, none⟩) 1 1 0 0 tA tn tc none 0 0) (W6.heap.size + 1 + 1) (by simp)
        have own : (((W6.alloc (.cells #[] 34)).alloc (.cells (ecells 0 0 ⟨#[]⟩ none 0 0) 36)).alloc (.cells (scells 2 ⟨#[]⟩ (some ⟨W6.heap.size + 1, 0, none⟩) 1 1 0 0 tA tn tc none 0 0) 34)).ownsRow W6.heap.size 34 7 (.slice (some ⟨W6.heap.size, 0, none⟩) 0 0) 0 (rowsL Sc.cells []) := ⟨by simp [rowsL], .inr ⟨W6.heap.size, 0, #[], rfl, Nat.le_refl _, q0, Nat.le_refl _, by unfold maxLen; omega, by simp, by simp [rowsL]⟩⟩
        obtain ⟨v', V4, hrun, ho', hk', -⟩ := appR (f := Sc.cells) elemStmtR (fun _ => rfl) (fun _ => rfl) (((W6.alloc (.cells #[] 34)).alloc (.cells (ecells 0 0 ⟨#[]⟩ none 0 0) 36)).alloc (.cells (scells 2 ⟨#[]⟩ (some ⟨W6.heap.size + 1, 0, none⟩) 1 1 0 0 tA tn tc none 0 0) 34)) W6.heap.size (.slice (some ⟨W6.heap.size, 0, none⟩) 0 0) 0 [] own (W6.heap.size + 1 + 1) 0 1 1 [⟨2, ⟨#[]⟩, some ⟨W6.heap.size + 1, 0, none⟩, 1, 1, 0, 0, tA, tn, tc, none, 0, 0⟩] rfl (Row.of_blk qs) (by omega) y1.size
        have hx4 : Ext W6 V4 := y1.trans' hk' (fun i hi e => by
          have e2 : W6.heap.size = i := Option.some.inj e
          omega)
        have qe4 := Blk.kept qe hk' (fun e => by
          have e2 : W6.heap.size = W6.heap.size + 1 := Option.some.inj e
          omega)
        obtain ⟨g2, c2, rfl, hrow, hg2, -⟩ := own_rows ho' (by omega) (by omega)
        rw [Nat.zero_add] at hrun
        have hD4 := Blk.ext hD6 hx4
        go_step
        iterate 7 (refine wpList_step (fun K hK => ?_); go_simp; (try go_bits); refine hK _ _ ?_; clear hK K)
        refine wpList_app rfl (.tmp 36) (.tmp 42) 24 rfl rfl rfl rfl hrun ?_
        clear hrun
        clear hBq hcP hhP hgP hlP
        have cA := Blk.cell hD4
        have fA := Blk.frozen hD4
        have lA := hD4.lt
        go_upto_region 9 with (fail)
        have hk : Kept (· = db) V4 (V4.setCell ⟨db, 5, none⟩ (.slice (some ⟨g2, 0, none⟩) 1 c2)) := (Kept.refl _ _).setCell _ _ (fun _ => rfl)
        have hD7 : Blk (V4.setCell ⟨db, 5, none⟩ (.slice (some ⟨g2, 0, none⟩) 1 c2)) db 26 (Pc.cells (⟨cn, cse, cst, cv, cs, ⟨some ⟨g2, 0, none⟩, 1, c2⟩, cpa, cpl, csi, cq, ⟨some ⟨b9, o9, none⟩, m + 1, zc⟩⟩ : Pc)) := by
          have q := Blk.set_ hD4 5 (.slice (some ⟨g2, 0, none⟩) 1 c2)
          exact q
        have hdb := HD.out.lt
        have hrow7 := hrow.kept hk (by omega)
        have qe7 := Blk.kept qe4 hk (by omega)
        have hA7 := Blk.kept (Blk.ext HA6.out hx4) hk (fun e => HDN.out.2.1 e.symm)
        have hB7 := Blk.kept (Blk.ext HB6.out hx4) hk (fun e => HDN.out.2.2.1 e.symm)
        have hC7 := Blk.kept (Blk.ext HC6.out hx4) hk (fun e => HDN.out.2.2.2.1 e.symm)
        have hE7 := Blk.kept (Blk.ext HE6.out hx4) hk (fun e => HDN.out.2.2.2.2.1 e.symm)
        have hS7 := Blk.kept (Blk.ext HS6.out hx4) hk (fun e => HDN.out.2.2.2.2.2 e.symm)
        have HXQ := Lib.hid ((HXQ.out.trans hx4).trans' hk (fun i hi q => by have := HDN.out.1; omega))
        generalize (V4.setCell ⟨db, 5, none⟩ (.slice (some ⟨g2, 0, none⟩) 1 c2)) = W7 at hk hD7 hrow7 qe7 hA7 hB7 hC7 hE7 hS7 HXQ ⊢
        clear cA fA lA hD4 hD6 qe4 qe qs q0 own ho' hk' hx4 y1 hk hrow hg2 HA6 HB6 HC6 HE6 HS6 HD HDN HNE hdb
        have HP7 := Lib.hid ((HPA.out.ext HXQ.out HNW.out).mono (Nat.le_trans HNW.out HXQ.out.size))
        have hturn : SSl W7 W7.heap.size tA tn p.turn := HP7.out.turn
        obtain rfl : tn = p.turn.len := hturn.1
        have PA := Lib.hid (PAt.setPays (cap := zc) HP7.out ((HDL.out.ext HXQ.out HNW.out).mono (Nat.le_trans HNW.out HXQ.out.size)))
        have PB := Lib.hid (PAt.setTurn (cap := 0) HP7.out (SSl.nil W7 W7.heap.size none))
        have PG := Lib.hid (show PAt W7 W7.heap.size (⟨cn, cse, cst, cv, cs, ⟨some ⟨sb, 0, none⟩, 1, 1⟩, cpa, cpl, csi, cq, ⟨some ⟨b9, o9, none⟩, m + 1, zc⟩⟩ : Pc) { p with turn := ifS p.turn p.turn } from PAt.setTurn (cap := 1) HP7.out (sf_one (e := num 0) (l := p.turn) (x := p.turn) hS7 hS7.lt (ok64 (by decide)) (ok64 (by decide)) (ok64 (by decide)) (name_ok _ (by decide)) (ef_one (k := .nil) hE7 hE7.lt (ok64 (by decide)) (ok64 (by decide)) (name_ok _ (by decide)) (ESl.nil _ _ _)) hturn hturn))
        have hin : ScsIn W7 (fun i => i < W7.heap.size) [⟨2, ⟨#[]⟩, some ⟨W6.heap.size + 1, 0, none⟩, 1, 1, 0, 0, tA, p.turn.len, tc, none, 0, 0⟩] (.cons 2 E0 (num 0) 0 0 p.turn .nil .nil) := ⟨⟨rfl, rfl, rfl, rfl, (ok64 (by decide)), (ok64 (by decide)), (ok64 (by decide)), (name_ok _ (by decide)), (ef_one (w := W7) (N := W7.heap.size) (k := .nil) qe7 qe7.lt (ok64 (by decide)) (ok64 (by decide)) (name_ok _ (by decide)) (ESl.nil _ _ _)).in_, hturn.in_, (SSl.nil W7 W7.heap.size none).in_⟩, trivial⟩
        have PD := Lib.hid (show PAt W7 W7.heap.size (⟨cn, cse, cst, cv, cs, ⟨some ⟨g2, 0, none⟩, 1, c2⟩, cpa, cpl, csi, cq, ⟨some ⟨b9, o9, none⟩, m + 1, zc⟩⟩ : Pc) { p with turn := ifS p.turn .nil } from PAt.setTurn (cap := c2) HP7.out (show SSl W7 W7.heap.size (some ⟨g2, 0, none⟩) 1 (ifS p.turn .nil) from ⟨rfl, by unfold Fits; omega, g2, 0, fun _ => rfl, (hin.shut (b := g2) hrow7.lt (fun _ => hrow7)).at_ (fun i hi => hi)⟩))
        have HA7 := Lib.hid hA7
        have HB7 := Lib.hid hB7
        have HC7 := Lib.hid hC7
        have HD7 := Lib.hid hD7
        clear hA7 hB7 hC7 hD7 hE7 hS7 qe7 hrow7 hin hturn
        have HY := Lib.hid (Kept.refl (fun _ => False) W7)
        have hq := Blk.ext HC7.out HY.out
        have hh := Blk.has hq
        have hg' := Blk.gets hq
        have hl := hq.lt
        go_wp2_with fail
        clear hq hh hg' hl
        refine (rsize_any (⟨cn, cse, cst, cv, cs, ⟨some ⟨sb, 0, none⟩, 1, 1⟩, cpa, cpl, csi, cq, ⟨some ⟨b9, o9, none⟩, m + 1, zc⟩⟩ : Pc) _ _ _ HY.out.size (PG.out.ext HY.out (Nat.le_refl _))).mono ?_
        rintro e w1 ⟨rfl, hx1⟩
        have HY := Lib.hid (HY.out.trans hx1)
        clear hx1
        obtain ⟨sg, hsg⟩ : ∃ s, s = w64 (psize { p with turn := ifS p.turn p.turn }) := ⟨_, rfl⟩
        rw [← hsg]
        have HSG := Lib.hid hsg
        clear hsg
        by_cases hg : sg > 1000
        · go_upto_region 10 with (fail)
          clear hg
          go_wp2_with fail
          refine (told_any _ (HLW.out.ext (HXQ.out.trans HY.out))).mono ?_
          rintro e w2 ⟨rfl, hx2⟩
          have HY := Lib.hid (HY.out.trans hx2)
          clear hx2
          have hq := Blk.ext HA7.out HY.out
          have hh := Blk.has hq
          have hg' := Blk.gets hq
          have hl := hq.lt
          go_wp2_with fail
          clear hq hh hg' hl
          refine (lcheck_any (⟨cn, cse, cst, cv, cs, ⟨tA, p.turn.len, tc⟩, cpa, cpl, csi, cq, ⟨some ⟨b9, o9, none⟩, m, zc⟩⟩ : Pc) _ _ _ HY.out.size (PA.out.ext HY.out (Nat.le_refl _)) (HLW.out.ext (HXQ.out.trans HY.out))).mono ?_
          rintro e w3 ⟨rfl, hx3⟩
          rw [show check { p with pays := p.pays.dropLast } = some ⟨4, sPay⟩ from HEN.out.a, show fltC (some ⟨4, sPay⟩) = #[.int .i64 4, .string ⟨#[112, 97, 121]⟩] from rfl]
          have HY := Lib.hid (HY.out.trans hx3)
          clear hx3
          have hq := Blk.ext HB7.out HY.out
          have hh := Blk.has hq
          have hg' := Blk.gets hq
          have hl := hq.lt
          go_wp2_with fail
          clear hq hh hg' hl
          refine (lcheck_any (⟨cn, cse, cst, cv, cs, ⟨none, 0, 0⟩, cpa, cpl, csi, cq, ⟨some ⟨b9, o9, none⟩, m + 1, zc⟩⟩ : Pc) _ _ _ HY.out.size (PB.out.ext HY.out (Nat.le_refl _)) (HLW.out.ext (HXQ.out.trans HY.out))).mono ?_
          rintro e w3 ⟨rfl, hx3⟩
          rw [show check { p with turn := .nil } = some ⟨4, sTurn⟩ from HEN.out.b, show fltC (some ⟨4, sTurn⟩) = #[.int .i64 4, .string ⟨#[116, 117, 114, 110]⟩] from rfl]
          have HY := Lib.hid (HY.out.trans hx3)
          clear hx3
          have hq := Blk.ext HD7.out HY.out
          have hh := Blk.has hq
          have hg' := Blk.gets hq
          have hl := hq.lt
          go_wp2_with fail
          clear hq hh hg' hl
          refine (rsize_any (⟨cn, cse, cst, cv, cs, ⟨some ⟨g2, 0, none⟩, 1, c2⟩, cpa, cpl, csi, cq, ⟨some ⟨b9, o9, none⟩, m + 1, zc⟩⟩ : Pc) _ _ _ HY.out.size (PD.out.ext HY.out (Nat.le_refl _))).mono ?_
          rintro e w1 ⟨rfl, hx1⟩
          have HY := Lib.hid (HY.out.trans hx1)
          clear hx1
          obtain ⟨sd, hsd⟩ : ∃ s, s = w64 (psize { p with turn := ifS p.turn .nil }) := ⟨_, rfl⟩
          rw [← hsd]
          have HSD := Lib.hid hsd
          clear hsd
          by_cases hg2 : sd > 1000
          · go_wp2_with fail
            go_ret
            exact ⟨rfl, HX0.out.trans (HXQ.out.trans HY.out)⟩
          · have HCC2 := Lib.hid (show check { p with turn := ifS p.turn .nil } = some ⟨4, sTurn⟩ from HEN.out.d (by rw [← HSD.out]; omega))
            have hq := Blk.ext HD7.out HY.out
            have hh := Blk.has hq
            have hg' := Blk.gets hq
            have hl := hq.lt
            go_wp2_with fail
            clear hq hh hg' hl
            refine (lcheck_any (⟨cn, cse, cst, cv, cs, ⟨some ⟨g2, 0, none⟩, 1, c2⟩, cpa, cpl, csi, cq, ⟨some ⟨b9, o9, none⟩, m + 1, zc⟩⟩ : Pc) _ _ _ HY.out.size (PD.out.ext HY.out (Nat.le_refl _)) (HLW.out.ext (HXQ.out.trans HY.out))).mono ?_
            rintro e w1 ⟨rfl, hx1⟩
            rw [HCC2.out, show fltC (some ⟨4, sTurn⟩) = #[.int .i64 4, .string ⟨#[116, 117, 114, 110]⟩] from rfl]
            go_wp2_with fail
            go_ret
            exact ⟨rfl, HX0.out.trans (HXQ.out.trans (HY.out.trans hx1))⟩
        · have HCC := Lib.hid (show check { p with turn := ifS p.turn p.turn } = none from HEN.out.c (by rw [← HSG.out]; omega))
          have hq := Blk.ext HC7.out HY.out
          have hh := Blk.has hq
          have hg' := Blk.gets hq
          have hl := hq.lt
          go_wp2_with fail
          clear hq hh hg' hl
          refine (lcheck_any (⟨cn, cse, cst, cv, cs, ⟨some ⟨sb, 0, none⟩, 1, 1⟩, cpa, cpl, csi, cq, ⟨some ⟨b9, o9, none⟩, m + 1, zc⟩⟩ : Pc) _ _ _ HY.out.size (PG.out.ext HY.out (Nat.le_refl _)) (HLW.out.ext (HXQ.out.trans HY.out))).mono ?_
          rintro e w1 ⟨rfl, hx1⟩
          rw [HCC.out, show fltC none = #[.int .i64 0, .string ⟨#[]⟩] from rfl]
          have HY := Lib.hid (HY.out.trans hx1)
          clear hx1
          go_upto_region 10 with (fail)
          clear hg
          go_wp2_with fail
          refine (told_any _ (HLW.out.ext (HXQ.out.trans HY.out))).mono ?_
          rintro e w2 ⟨rfl, hx2⟩
          have HY := Lib.hid (HY.out.trans hx2)
          clear hx2
          have hq := Blk.ext HA7.out HY.out
          have hh := Blk.has hq
          have hg' := Blk.gets hq
          have hl := hq.lt
          go_wp2_with fail
          clear hq hh hg' hl
          refine (lcheck_any (⟨cn, cse, cst, cv, cs, ⟨tA, p.turn.len, tc⟩, cpa, cpl, csi, cq, ⟨some ⟨b9, o9, none⟩, m, zc⟩⟩ : Pc) _ _ _ HY.out.size (PA.out.ext HY.out (Nat.le_refl _)) (HLW.out.ext (HXQ.out.trans HY.out))).mono ?_
          rintro e w3 ⟨rfl, hx3⟩
          rw [show check { p with pays := p.pays.dropLast } = some ⟨4, sPay⟩ from HEN.out.a, show fltC (some ⟨4, sPay⟩) = #[.int .i64 4, .string ⟨#[112, 97, 121]⟩] from rfl]
          have HY := Lib.hid (HY.out.trans hx3)
          clear hx3
          have hq := Blk.ext HB7.out HY.out
          have hh := Blk.has hq
          have hg' := Blk.gets hq
          have hl := hq.lt
          go_wp2_with fail
          clear hq hh hg' hl
          refine (lcheck_any (⟨cn, cse, cst, cv, cs, ⟨none, 0, 0⟩, cpa, cpl, csi, cq, ⟨some ⟨b9, o9, none⟩, m + 1, zc⟩⟩ : Pc) _ _ _ HY.out.size (PB.out.ext HY.out (Nat.le_refl _)) (HLW.out.ext (HXQ.out.trans HY.out))).mono ?_
          rintro e w3 ⟨rfl, hx3⟩
          rw [show check { p with turn := .nil } = some ⟨4, sTurn⟩ from HEN.out.b, show fltC (some ⟨4, sTurn⟩) = #[.int .i64 4, .string ⟨#[116, 117, 114, 110]⟩] from rfl]
          have HY := Lib.hid (HY.out.trans hx3)
          clear hx3
          have hq := Blk.ext HD7.out HY.out
          have hh := Blk.has hq
          have hg' := Blk.gets hq
          have hl := hq.lt
          go_wp2_with fail
          clear hq hh hg' hl
          refine (rsize_any (⟨cn, cse, cst, cv, cs, ⟨some ⟨g2, 0, none⟩, 1, c2⟩, cpa, cpl, csi, cq, ⟨some ⟨b9, o9, none⟩, m + 1, zc⟩⟩ : Pc) _ _ _ HY.out.size (PD.out.ext HY.out (Nat.le_refl _))).mono ?_
          rintro e w1 ⟨rfl, hx1⟩
          have HY := Lib.hid (HY.out.trans hx1)
          clear hx1
          obtain ⟨sd, hsd⟩ : ∃ s, s = w64 (psize { p with turn := ifS p.turn .nil }) := ⟨_, rfl⟩
          rw [← hsd]
          have HSD := Lib.hid hsd
          clear hsd
          by_cases hg2 : sd > 1000
          · go_wp2_with fail
            go_ret
            exact ⟨rfl, HX0.out.trans (HXQ.out.trans HY.out)⟩
          · have HCC2 := Lib.hid (show check { p with turn := ifS p.turn .nil } = some ⟨4, sTurn⟩ from HEN.out.d (by rw [← HSD.out]; omega))
            have hq := Blk.ext HD7.out HY.out
            have hh := Blk.has hq
            have hg' := Blk.gets hq
            have hl := hq.lt
            go_wp2_with fail
            clear hq hh hg' hl
            refine (lcheck_any (⟨cn, cse, cst, cv, cs, ⟨some ⟨g2, 0, none⟩, 1, c2⟩, cpa, cpl, csi, cq, ⟨some ⟨b9, o9, none⟩, m + 1, zc⟩⟩ : Pc) _ _ _ HY.out.size (PD.out.ext HY.out (Nat.le_refl _)) (HLW.out.ext (HXQ.out.trans HY.out))).mono ?_
            rintro e w1 ⟨rfl, hx1⟩
            rw [HCC2.out, show fltC (some ⟨4, sTurn⟩) = #[.int .i64 4, .string ⟨#[116, 117, 114, 110]⟩] from rfl]
            go_wp2_with fail
            go_ret
            exact ⟨rfl, HX0.out.trans (HXQ.out.trans (HY.out.trans hx1))⟩
end Go.Proofs.YtfamkemdgbnegaaDoor

/- Sorts: what came in, with its size. -/
namespace Go.Proofs.YtfamkemdgbnegaaDoor
open Go.RowKit Go.Deep Go.ChangeShapes Go.WideShapes So
section
variable {H : Type} {enc : TypeId × Value → H} {P : Program} {w : World} {base : Nat} {held : Bool}
theorem map_getD {α : Type} (x : α) (ds : List α) : (List.range ds.length).map (fun i => (ds[i]?).getD x) = ds :=
  List.ext_getElem (by simp) (fun i h1 h2 => by simp [List.getElem?_eq_getElem h2])
theorem open_rows3 {T E : TypeId} {sz fuel : Nat} {v : Value} {d : DataW H} {ps : List MemPlace} (hu : P.underlying T = some (.slice E)) (hsz : P.cellsOf E = sz) (hpos : 0 < sz) (h : DataW.trod enc P w base (fun _ => true) held fuel T [v] = some (d, ps)) (hw : light P T d) :
    ∃ (A : Option Addr) (b off len cap : Nat) (rs : List (List Value × DataW H)), v = .slice A len cap ∧ (0 < len → A = some ⟨b, off, none⟩) ∧ rs.length = len ∧ (0 < len → Row w b off (rs.map (·.1)).flatten) ∧
      (∀ r ∈ rs, r.1.length = sz ∧ ∃ n ps', n < fuel ∧ DataW.trod enc P w base (fun _ => true) held n E r.1 = some (r.2, ps') ∧ light P E r.2) ∧ len * P.bytesOf E ≤ reachBytes ∧ Rows.uptoBulkAll (rs.map (·.2)) ≤ Rows.uptoBulk d := by
  rcases DataW.trod_slice hu h with ⟨hcs, _⟩ | ⟨a, len, cap, elems, rest, n, hfu, hcs, hx, _, hl, hm, hlen, hel, hsp, _⟩
  · simp at hcs
    exact ⟨none, 0, 0, 0, 0, [], hcs, fun h => by omega, rfl, fun h => by omega, fun _ h => by simp at h, by omega, by simp [Rows.uptoBulkAll]⟩
  · simp at hcs
    obtain ⟨hd, -⟩ := Prod.mk.inj hx
    subst hd
    unfold light at hw
    rw [DataW.weights] at hw
    simp only [hu, List.all_cons, List.all_append, Bool.and_eq_true, decide_eq_true_eq, List.length_map] at hw
    obtain ⟨hw1, hw2, -⟩ := hw
    have hla := light_all hw2
    rw [hsz] at hel
    obtain ⟨ds, hds⟩ : ∃ ds, ds = elems.map (·.1) := ⟨_, rfl⟩
    have hdl : ds.length = len := by rw [hds, List.length_map, hlen]
    have hch : ∀ i, ∃ cs, i < len → cs.length = sz ∧ (∃ ps', DataW.trod enc P w base (fun _ => true) held n E cs = some ((ds[i]?).getD .nil, ps') ∧ light P E ((ds[i]?).getD .nil)) ∧ ∀ j, j < sz → w.cell? ((a.add (i * sz)).add j) = cs[j]? := fun i => by
      by_cases hil : i < len
      · have hie : i < elems.length := by rw [hlen]; exact hil
        have he := hel i hil
        rw [List.getElem?_eq_getElem hie, Option.bind_eq_some_iff] at he
        obtain ⟨cs, hc, ht⟩ := he
        obtain ⟨_, hcl, hat⟩ := World.cells?_some hc
        have hg : (ds[i]?).getD .nil = (elems[i]'hie).1 := by rw [hds, List.getElem?_map, List.getElem?_eq_getElem hie]; rfl
        exact ⟨cs, fun _ => ⟨hcl, ⟨(elems[i]'hie).2, by rw [hg]; exact ht, by rw [hg]; exact hla _ (List.mem_map.2 ⟨elems[i]'hie, List.getElem_mem _, rfl⟩)⟩, hat⟩⟩
      · exact ⟨[], fun h => absurd h hil⟩
    obtain ⟨C, hC⟩ := Classical.axiomOfChoice hch
    have hsp : 0 < len → a = ⟨a.block, a.off, none⟩ := fun h0 => by
      obtain ⟨hcl, _, hat⟩ := hC 0 h0
      have h0' := hat 0 hpos
      rw [List.getElem?_eq_getElem (by omega)] at h0'
      have e : (a.add (0 * sz)).add 0 = a := by simp [Addr.add]
      rw [e] at h0'
      have := ospot_of_cell h0'
      cases a; simp_all
    have hlen' : ∀ cs ∈ (List.range len).map C, cs.length = sz := fun cs hcs => by
      simp at hcs
      obtain ⟨i, hil, rfl⟩ := hcs
      exact (hC i hil).1
    have hm1 : ((List.range len).map (fun i => (C i, (ds[i]?).getD (.nil : DataW H)))).map (·.1) = (List.range len).map C := by rw [List.map_map]; rfl
    have hm2 : ((List.range len).map (fun i => (C i, (ds[i]?).getD (.nil : DataW H)))).map (·.2) = ds := by
      rw [List.map_map, ← hdl]
      exact map_getD _ ds
    refine ⟨some a, a.block, a.off, len, cap, (List.range len).map (fun i => (C i, (ds[i]?).getD .nil)), hcs, fun h => by rw [← hsp h], by simp, fun h0 => ?_, fun r hr => ?_, ?_, ?_⟩
    · rw [hm1]
      have hfl := flatten_len _ hlen'
      rw [List.length_map, List.length_range] at hfl
      refine row_of_cells _ (by rw [hfl]; exact Nat.mul_pos h0 hpos) (fun j hj => ?_)
      rw [hfl] at hj
      rw [flatten_get hpos _ hlen']
      have hq : j / sz < len := Nat.div_lt_of_lt_mul (by rw [Nat.mul_comm]; exact hj)
      have hr := (hC (j / sz) hq).2.2 (j % sz) (Nat.mod_lt _ hpos)
      rw [hsp h0, oaddr_add, oaddr_add, Nat.add_assoc] at hr
      rw [show j / sz * sz + j % sz = j by rw [Nat.mul_comm]; exact Nat.div_add_mod j sz] at hr
      rw [hr]
      simp [hq]
    · obtain ⟨i, hi, rfl⟩ := List.mem_map.1 hr
      obtain ⟨h1, ⟨ps', h2, h3⟩, -⟩ := hC i (by simpa using hi)
      exact ⟨h1, n, ps', by omega, h2, h3⟩
    · refine Nat.le_trans (Nat.mul_le_mul_right _ ?_) hw1
      omega
    · rw [hm2, hds, Rows.uptoBulk]
      omega
/-- a struct's fields, all of them -/
theorem fields_of3 {fs : Array Field} {t : TypeId} {fuel : Nat} {cs : List Value} {d : DataW H} {ps : List MemPlace} (hu : P.underlying t = some (.struct fs)) (h : DataW.trod enc P w base (fun _ => true) held fuel t cs = some (d, ps)) (hw : light P t d) :
    ∃ n xs, fuel = n + 1 ∧ cs.length = P.cellsOf t ∧ d = .agg xs ∧ xs.length = fs.size ∧ ∀ (i : Nat) (f : Field), fs[i]? = some f → ∃ d' ps', xs[i]? = some d' ∧ DataW.trod enc P w base (fun _ => true) held n f.type ((cs.drop f.offset).take (P.cellsOf f.type)) = some (d', ps') ∧ light P f.type d' := by
  obtain ⟨xs, n, hfu, hx, hl, hxl, hf⟩ := DataW.trod_struct hu h
  obtain ⟨hd, -⟩ := Prod.mk.inj hx
  subst hd
  unfold light at hw
  rw [DataW.weights] at hw
  simp only [hu] at hw
  refine ⟨n, xs.map (·.1), hfu, hl, rfl, by rw [List.length_map, hxl], fun i f hif => ?_⟩
  have hlt : i < xs.length := by
    rw [hxl]
    exact (Array.getElem?_eq_some_iff.1 hif).1
  have h1 := hf i f hif
  rw [List.getElem?_eq_getElem hlt] at h1
  refine ⟨xs[i].1, xs[i].2, by rw [List.getElem?_map, List.getElem?_eq_getElem hlt]; rfl, h1, light_each hw i f.type xs[i].1 ?_ ?_⟩
  · rw [List.getElem?_map, Array.getElem?_toList, hif]; rfl
  · rw [List.getElem?_map, List.getElem?_eq_getElem hlt]; rfl
end
section
variable {H : Type} {enc : TypeId × Value → H} {w : World} {base : Nat} {held : Bool}
def ExOkS (w : World) (cs : List Value) (s : Nat) : Prop := ∃ (op n : Int) (name : Str) (A : Option Addr) (cap : Nat) (F : EF), cs = (ecells op n name A F.len cap).toList ∧ i64ok op ∧ i64ok n ∧ name.size ≤ maxLen ∧ ESl w w.heap.size A F.len F ∧ F.size + 1 ≤ s
theorem efs_ofS : ∀ (rs : List (List Value × DataW H)) (_ : ∀ r ∈ rs, ExOkS w r.1 (Rows.uptoBulk r.2)) (b off : Nat) (_ : 0 < rs.length → Row w b off (rs.map (·.1)).flatten), ∃ F : EF, F.len = rs.length ∧ EFAt w w.heap.size F b off ∧ F.size ≤ Rows.uptoBulkAll (rs.map (·.2))
  | [], _, _, _, _ => ⟨.nil, rfl, trivial, Nat.zero_le _⟩
  | (cs, d) :: r, h, b, off, hr => by
    have hrow := hr (by simp)
    rw [List.map_cons, List.flatten_cons] at hrow
    obtain ⟨op, n, name, A, cap, K, e, h1, h2, h3, h4, h5⟩ := h (cs, d) (by simp)
    obtain rfl : cs = (ecells op n name A K.len cap).toList := e
    obtain ⟨-, hf, b', off', hA, hE⟩ := h4
    obtain ⟨R, hR1, hR2, hR3⟩ := efs_ofS r (fun x hx => h x (by simp [hx])) b (off + 4) (fun _ => hrow.tail)
    obtain ⟨hh, hg⟩ := hrow.head
    refine ⟨.cons op n name K R, by simp [EF.len, hR1], ⟨hrow.lt, h1, h2, h3, ⟨A, cap, b', off', hh, hg, hf, hA, hE⟩, hR2⟩, ?_⟩
    rw [List.map_cons, Rows.uptoBulkAll, EF.size]
    have h5 : K.size + 1 ≤ Rows.uptoBulk d := h5
    show 1 + K.size + R.size ≤ Rows.uptoBulk d + _
    omega
set_option maxRecDepth 100000 in
theorem exprs_ofS : ∀ (fuel : Nat) (v : Value) (d : DataW H) (ps : List MemPlace), Trd w base held enc fuel 32 [v] d ps → ∃ A n cap F, v = .slice A n cap ∧ ESl w w.heap.size A n F ∧ F.size ≤ Rows.uptoBulk d := by
  intro fuel
  induction fuel using Nat.strongRecOn with
  | ind fuel IH =>
    intro v d ps ⟨h, hw⟩
    obtain ⟨A, b, off, len, cap, rs, rfl, hA, hl, hr, hc, hb, hbk⟩ := open_rows3 Tryd.underlying32 cellsE (by omega) h hw
    have hok : ∀ r ∈ rs, ExOkS w r.1 (Rows.uptoBulk r.2) := fun r hrs => by
      obtain ⟨hcl, n, ps', hlt, ht, hw'⟩ := hc r hrs
      obtain ⟨cs, dd⟩ := r
      obtain ⟨m, xs, rfl, _, hdx, hxl, hf⟩ := fields_of3 Tryd.underlying36 ht hw'
      obtain ⟨d0, p0, g0, k0, l0⟩ := hf 0 _ rfl
      have k0 : DataW.trod enc Tryd.prog w base (fun _ => true) held m 3 ((cs.drop 0).take (Tryd.prog.cellsOf 3)) = some (d0, p0) := k0
      rw [cellsInt] at k0
      obtain ⟨d1, p1, g1, k1, l1⟩ := hf 1 _ rfl
      have k1 : DataW.trod enc Tryd.prog w base (fun _ => true) held m 3 ((cs.drop 1).take (Tryd.prog.cellsOf 3)) = some (d1, p1) := k1
      rw [cellsInt] at k1
      obtain ⟨d2, p2, g2, k2, l2⟩ := hf 2 _ rfl
      have k2 : DataW.trod enc Tryd.prog w base (fun _ => true) held m 9 ((cs.drop 2).take (Tryd.prog.cellsOf 9)) = some (d2, p2) := k2
      rw [cellsStr] at k2
      obtain ⟨d3, p3, g3, k3, l3⟩ := hf 3 _ rfl
      have k3 : DataW.trod enc Tryd.prog w base (fun _ => true) held m 32 ((cs.drop 3).take (Tryd.prog.cellsOf 32)) = some (d3, p3) := k3
      rw [cellsSlE] at k3
      have l3 : light Tryd.prog 32 d3 := l3
      obtain ⟨n0, e0, _, w0⟩ := DataW.trod_int Tryd.underlying3 k0
      obtain ⟨n1, e1, _, w1⟩ := DataW.trod_int Tryd.underlying3 k1
      obtain ⟨s2, e2, _, w2⟩ := DataW.trod_string Tryd.underlying9 k2
      have hxl : xs.length = 4 := hxl
      match cs, hcl, xs, hxl with
      | [c0, c1, c2, c3], _, [x0, x1, x2, x3], _ =>
        simp at e0 e1 e2 k3 g3
        subst e0 e1 e2 g3
        obtain ⟨A', n', cap', F, rfl, hE, hS⟩ := IH m (by omega) c3 x3 p3 ⟨k3, l3⟩
        have hn := hE.1
        subst hn
        refine ⟨n0, n1, s2, A', cap', F, rfl, oi64_of w0, oi64_of w1, w2, hE, ?_⟩
        show F.size + 1 ≤ Rows.uptoBulk dd
        rw [show dd = .agg [x0, x1, x2, x3] from hdx]
        simp only [Rows.uptoBulk, Rows.uptoBulkAll]
        omega
    obtain ⟨F, hF1, hF2, hF3⟩ := efs_ofS rs hok b off (fun h0 => hr (by omega))
    rw [bytesE] at hb
    exact ⟨A, len, cap, F, rfl, ⟨by omega, by unfold Fits; unfold reachBytes at hb; omega, b, off, hA, hF2⟩, Nat.le_trans hF3 hbk⟩
def StOkS (w : World) (cs : List Value) (s : Nat) : Prop := ∃ (kind : Int) (name : Str) (e : EF) (low high : Int) (l x : SF) (eA : Option Addr) (ec : Nat) (lA : Option Addr) (lc : Nat) (xA : Option Addr) (xc : Nat), cs = (scells kind name eA e.len ec low high lA l.len lc xA x.len xc).toList ∧ i64ok kind ∧ i64ok low ∧ i64ok high ∧ name.size ≤ maxLen ∧ ESl w w.heap.size eA e.len e ∧ SSl w w.heap.size lA l.len l ∧ SSl w w.heap.size xA x.len x ∧ e.size + l.size + x.size + 1 ≤ s
theorem sfs_ofS : ∀ (rs : List (List Value × DataW H)) (_ : ∀ r ∈ rs, StOkS w r.1 (Rows.uptoBulk r.2)) (b off : Nat) (_ : 0 < rs.length → Row w b off (rs.map (·.1)).flatten), ∃ F : SF, F.len = rs.length ∧ SFAt w w.heap.size F b off ∧ F.size ≤ Rows.uptoBulkAll (rs.map (·.2))
  | [], _, _, _, _ => ⟨.nil, rfl, trivial, Nat.zero_le _⟩
  | (cs, d) :: r, h, b, off, hr => by
    have hrow := hr (by simp)
    rw [List.map_cons, List.flatten_cons] at hrow
    obtain ⟨kind, name, e, low, high, l, x, eA, ec, lA, lc, xA, xc, q, h1, h2, h3, h4, h5, h6, h7, h8⟩ := h (cs, d) (by simp)
    obtain rfl : cs = (scells kind name eA e.len ec low high lA l.len lc xA x.len xc).toList := q
    obtain ⟨-, f1, be, oe, a1, e1⟩ := h5
    obtain ⟨-, f2, bl, ol, a2, e2⟩ := h6
    obtain ⟨-, f3, bx, ox, a3, e3⟩ := h7
    obtain ⟨R, hR1, hR2, hR3⟩ := sfs_ofS r (fun y hy => h y (by simp [hy])) b (off + 7) (fun _ => hrow.tail)
    obtain ⟨hh, hg⟩ := hrow.head
    refine ⟨.cons kind name e low high l x R, by simp [SF.len, hR1], ⟨hrow.lt, h1, h2, h3, h4, ⟨eA, ec, lA, lc, xA, xc, be, oe, bl, ol, bx, ox, hh, hg, f1, f2, f3, a1, a2, a3, e1, e2, e3⟩, hR2⟩, ?_⟩
    rw [List.map_cons, Rows.uptoBulkAll, SF.size]
    have h8 : e.size + l.size + x.size + 1 ≤ Rows.uptoBulk d := h8
    show 1 + e.size + l.size + x.size + R.size ≤ Rows.uptoBulk d + _
    omega
set_option maxRecDepth 100000 in
theorem stmts_ofS : ∀ (fuel : Nat) (v : Value) (d : DataW H) (ps : List MemPlace), Trd w base held enc fuel 24 [v] d ps → ∃ A n cap F, v = .slice A n cap ∧ SSl w w.heap.size A n F ∧ F.size ≤ Rows.uptoBulk d := by
  intro fuel
  induction fuel using Nat.strongRecOn with
  | ind fuel IH =>
    intro v d ps ⟨h, hw⟩
    obtain ⟨A, b, off, len, cap, rs, rfl, hA, hl, hr, hc, hb, hbk⟩ := open_rows3 Tryd.underlying24 cellsS (by omega) h hw
    have hok : ∀ r ∈ rs, StOkS w r.1 (Rows.uptoBulk r.2) := fun r hrs => by
      obtain ⟨hcl, n, ps', hlt, ht, hw'⟩ := hc r hrs
      obtain ⟨cs, dd⟩ := r
      obtain ⟨m, xs, rfl, _, hdx, hxl, hf⟩ := fields_of3 Tryd.underlying34 ht hw'
      obtain ⟨d0, p0, g0, k0, l0⟩ := hf 0 _ rfl
      have k0 : DataW.trod enc Tryd.prog w base (fun _ => true) held m 3 ((cs.drop 0).take (Tryd.prog.cellsOf 3)) = some (d0, p0) := k0
      rw [cellsInt] at k0
      obtain ⟨d1, p1, g1, k1, l1⟩ := hf 1 _ rfl
      have k1 : DataW.trod enc Tryd.prog w base (fun _ => true) held m 9 ((cs.drop 1).take (Tryd.prog.cellsOf 9)) = some (d1, p1) := k1
      rw [cellsStr] at k1
      obtain ⟨d2, p2, g2, k2, l2⟩ := hf 2 _ rfl
      have k2 : DataW.trod enc Tryd.prog w base (fun _ => true) held m 32 ((cs.drop 2).take (Tryd.prog.cellsOf 32)) = some (d2, p2) := k2
      rw [cellsSlE] at k2
      have l2 : light Tryd.prog 32 d2 := l2
      obtain ⟨d3, p3, g3, k3, l3⟩ := hf 3 _ rfl
      have k3 : DataW.trod enc Tryd.prog w base (fun _ => true) held m 3 ((cs.drop 3).take (Tryd.prog.cellsOf 3)) = some (d3, p3) := k3
      rw [cellsInt] at k3
      obtain ⟨d4, p4, g4, k4, l4⟩ := hf 4 _ rfl
      have k4 : DataW.trod enc Tryd.prog w base (fun _ => true) held m 3 ((cs.drop 4).take (Tryd.prog.cellsOf 3)) = some (d4, p4) := k4
      rw [cellsInt] at k4
      obtain ⟨d5, p5, g5, k5, l5⟩ := hf 5 _ rfl
      have k5 : DataW.trod enc Tryd.prog w base (fun _ => true) held m 24 ((cs.drop 5).take (Tryd.prog.cellsOf 24)) = some (d5, p5) := k5
      rw [cellsSlS] at k5
      have l5 : light Tryd.prog 24 d5 := l5
      obtain ⟨d6, p6, g6, k6, l6⟩ := hf 6 _ rfl
      have k6 : DataW.trod enc Tryd.prog w base (fun _ => true) held m 24 ((cs.drop 6).take (Tryd.prog.cellsOf 24)) = some (d6, p6) := k6
      rw [cellsSlS] at k6
      have l6 : light Tryd.prog 24 d6 := l6
      obtain ⟨n0, e0, _, w0⟩ := DataW.trod_int Tryd.underlying3 k0
      obtain ⟨s1, e1, _, w1⟩ := DataW.trod_string Tryd.underlying9 k1
      obtain ⟨n3, e3, _, w3⟩ := DataW.trod_int Tryd.underlying3 k3
      obtain ⟨n4, e4, _, w4⟩ := DataW.trod_int Tryd.underlying3 k4
      have hxl : xs.length = 7 := hxl
      match cs, hcl, xs, hxl with
      | [c0, c1, c2, c3, c4, c5, c6], _, [x0, x1, x2, x3, x4, x5, x6], _ =>
        simp at e0 e1 e3 e4 k2 k5 k6 g2 g5 g6
        subst e0 e1 e3 e4 g2 g5 g6
        obtain ⟨eA, en, ec, e, rfl, hE, z1⟩ := exprs_ofS _ c2 x2 p2 ⟨k2, l2⟩
        obtain ⟨lA, ln, lc, l, rfl, hL, z2⟩ := IH m (by omega) c5 x5 p5 ⟨k5, l5⟩
        obtain ⟨xA, xn, xc, x, rfl, hX, z3⟩ := IH m (by omega) c6 x6 p6 ⟨k6, l6⟩
        have q1 := hE.1
        have q2 := hL.1
        have q3 := hX.1
        subst q1 q2 q3
        refine ⟨n0, s1, e, n3, n4, l, x, eA, ec, lA, lc, xA, xc, rfl, oi64_of w0, oi64_of w3, oi64_of w4, w1, hE, hL, hX, ?_⟩
        show e.size + l.size + x.size + 1 ≤ Rows.uptoBulk dd
        rw [show dd = .agg [x0, x1, x2, x3, x4, x5, x6] from hdx]
        simp only [Rows.uptoBulk, Rows.uptoBulkAll]
        omega
    obtain ⟨F, hF1, hF2, hF3⟩ := sfs_ofS rs hok b off (fun h0 => hr (by omega))
    rw [bytesS] at hb
    exact ⟨A, len, cap, F, rfl, ⟨by omega, by unfold Fits; unfold reachBytes at hb; omega, b, off, hA, hF2⟩, Nat.le_trans hF3 hbk⟩
theorem vrs_flatS : ∀ (rs : List (List Value × DataW H)), (∀ r ∈ rs, (∃ v : Vr, VrOk v ∧ r.1 = (vcells v).toList) ∧ 1 ≤ Rows.uptoBulk r.2) → ∃ l : List Vr, l.length = rs.length ∧ (∀ v ∈ l, VrOk v) ∧ (rs.map (·.1)).flatten = rowsL vcells l ∧ l.length ≤ Rows.uptoBulkAll (rs.map (·.2))
  | [], _ => ⟨[], rfl, by simp, rfl, Nat.zero_le _⟩
  | (c, d) :: r, h => by
    obtain ⟨⟨i, hi, e⟩, h1⟩ := h (c, d) (by simp)
    obtain rfl : c = (vcells i).toList := e
    obtain ⟨l, hl, ho, he, hs⟩ := vrs_flatS r (fun cs hcs => h cs (by simp [hcs]))
    refine ⟨i :: l, by simp [hl], by simp; exact ⟨hi, ho⟩, by rw [List.map_cons, List.flatten_cons, he]; rfl, ?_⟩
    rw [List.map_cons, Rows.uptoBulkAll, List.length_cons]
    have h1 : 1 ≤ Rows.uptoBulk d := h1
    show _ ≤ Rows.uptoBulk d + _
    omega
set_option maxRecDepth 100000 in
theorem vrs_ofS {fuel : Nat} {v : Value} {d : DataW H} {ps : List MemPlace} (hh : Trd w base held enc fuel 23 [v] d ps) : ∃ A n cap l, v = .slice A n cap ∧ VSl w w.heap.size A n l ∧ l.length ≤ Rows.uptoBulk d := by
  obtain ⟨h, hw⟩ := hh
  obtain ⟨A, b, off, len, cap, rs, rfl, hA, hl, hr, hc, hb, hbk⟩ := open_rows3 Tryd.underlying23 cellsVr (by omega) h hw
  obtain ⟨l, hll, ho, he, hs⟩ := vrs_flatS rs (fun r hrs => by
    obtain ⟨hcl, n, ps', hlt, ht, hw'⟩ := hc r hrs
    obtain ⟨cs, dd⟩ := r
    obtain ⟨m, xs, rfl, _, hdx, hxl, hf⟩ := fields_of3 Tryd.underlying29 ht hw'
    obtain ⟨d0, p0, g0, k0, l0⟩ := hf 0 _ rfl
    have k0 : DataW.trod enc Tryd.prog w base (fun _ => true) held m 9 ((cs.drop 0).take (Tryd.prog.cellsOf 9)) = some (d0, p0) := k0
    rw [cellsStr] at k0
    obtain ⟨d1, p1, g1, k1, l1⟩ := hf 1 _ rfl
    have k1 : DataW.trod enc Tryd.prog w base (fun _ => true) held m 3 ((cs.drop 1).take (Tryd.prog.cellsOf 3)) = some (d1, p1) := k1
    rw [cellsInt] at k1
    obtain ⟨d2, p2, g2, k2, l2⟩ := hf 2 _ rfl
    have k2 : DataW.trod enc Tryd.prog w base (fun _ => true) held m 3 ((cs.drop 2).take (Tryd.prog.cellsOf 3)) = some (d2, p2) := k2
    rw [cellsInt] at k2
    obtain ⟨d3, p3, g3, k3, l3⟩ := hf 3 _ rfl
    have k3 : DataW.trod enc Tryd.prog w base (fun _ => true) held m 3 ((cs.drop 3).take (Tryd.prog.cellsOf 3)) = some (d3, p3) := k3
    rw [cellsInt] at k3
    obtain ⟨s0, e0, _, w0⟩ := DataW.trod_string Tryd.underlying9 k0
    obtain ⟨n1, e1, _, w1⟩ := DataW.trod_int Tryd.underlying3 k1
    obtain ⟨n2, e2, _, w2⟩ := DataW.trod_int Tryd.underlying3 k2
    obtain ⟨n3, e3, _, w3⟩ := DataW.trod_int Tryd.underlying3 k3
    match cs, hcl with
    | [c0, c1, c2, c3], _ =>
      simp at e0 e1 e2 e3
      subst e0 e1 e2 e3
      refine ⟨⟨⟨s0, n1, n2, n3⟩, ⟨w0, oi64_of w1, oi64_of w2, oi64_of w3⟩, rfl⟩, ?_⟩
      show 1 ≤ Rows.uptoBulk dd
      rw [show dd = .agg xs from hdx, Rows.uptoBulk]
      omega)
  rw [bytesV] at hb
  exact ⟨A, len, cap, l, rfl, ⟨by omega, by unfold Fits; unfold reachBytes at hb; omega, ho, b, off, hA, fun h0 => ⟨(hr h0).lt, he ▸ hr h0⟩⟩, Nat.le_trans hs hbk⟩
set_option maxRecDepth 100000 in
set_option maxHeartbeats 1000000 in
/-- a program that came in, no larger than what was read -/
theorem prog_ofS {fuel : Nat} {cs : List Value} {d : DataW H} {ps : List MemPlace} (hh : Trd w base held enc fuel 26 cs d ps) : ∃ (c : Pc) (p : Pr), cs = c.cells.toList ∧ PAt w w.heap.size c p ∧ psize p ≤ Rows.uptoBulk d := by
  obtain ⟨h, hw⟩ := hh
  obtain ⟨m, xs, rfl, hcl, hdx, hxl, hf⟩ := fields_of3 Tryd.underlying26 h hw
  rw [cellsP] at hcl
  obtain ⟨d0, p0, g0, k0, l0⟩ := hf 0 _ rfl
  have k0 : DataW.trod enc Tryd.prog w base (fun _ => true) held m 9 ((cs.drop 0).take (Tryd.prog.cellsOf 9)) = some (d0, p0) := k0
  rw [cellsStr] at k0
  obtain ⟨d1, p1, g1, k1, l1⟩ := hf 1 _ rfl
  have k1 : DataW.trod enc Tryd.prog w base (fun _ => true) held m 3 ((cs.drop 1).take (Tryd.prog.cellsOf 3)) = some (d1, p1) := k1
  rw [cellsInt] at k1
  obtain ⟨d2, p2, g2, k2, l2⟩ := hf 2 _ rfl
  have k2 : DataW.trod enc Tryd.prog w base (fun _ => true) held m 22 ((cs.drop 2).take (Tryd.prog.cellsOf 22)) = some (d2, p2) := k2
  rw [cellsSlI] at k2
  have l2 : light Tryd.prog 22 d2 := l2
  obtain ⟨d3, p3, g3, k3, l3⟩ := hf 3 _ rfl
  have k3 : DataW.trod enc Tryd.prog w base (fun _ => true) held m 23 ((cs.drop 3).take (Tryd.prog.cellsOf 23)) = some (d3, p3) := k3
  rw [cellsSlV] at k3
  have l3 : light Tryd.prog 23 d3 := l3
  obtain ⟨d4, p4, g4, k4, l4⟩ := hf 4 _ rfl
  have k4 : DataW.trod enc Tryd.prog w base (fun _ => true) held m 24 ((cs.drop 4).take (Tryd.prog.cellsOf 24)) = some (d4, p4) := k4
  rw [cellsSlS] at k4
  have l4 : light Tryd.prog 24 d4 := l4
  obtain ⟨d5, p5, g5, k5, l5⟩ := hf 5 _ rfl
  have k5 : DataW.trod enc Tryd.prog w base (fun _ => true) held m 24 ((cs.drop 5).take (Tryd.prog.cellsOf 24)) = some (d5, p5) := k5
  rw [cellsSlS] at k5
  have l5 : light Tryd.prog 24 d5 := l5
  obtain ⟨d6, p6, g6, k6, l6⟩ := hf 6 _ rfl
  have k6 : DataW.trod enc Tryd.prog w base (fun _ => true) held m 23 ((cs.drop 6).take (Tryd.prog.cellsOf 23)) = some (d6, p6) := k6
  rw [cellsSlV] at k6
  have l6 : light Tryd.prog 23 d6 := l6
  obtain ⟨d7, p7, g7, k7, l7⟩ := hf 7 _ rfl
  have k7 : DataW.trod enc Tryd.prog w base (fun _ => true) held m 24 ((cs.drop 7).take (Tryd.prog.cellsOf 24)) = some (d7, p7) := k7
  rw [cellsSlS] at k7
  have l7 : light Tryd.prog 24 d7 := l7
  obtain ⟨d8, p8, g8, k8, l8⟩ := hf 8 _ rfl
  have k8 : DataW.trod enc Tryd.prog w base (fun _ => true) held m 9 ((cs.drop 8).take (Tryd.prog.cellsOf 9)) = some (d8, p8) := k8
  rw [cellsStr] at k8
  obtain ⟨d9, p9, g9, k9, l9⟩ := hf 9 _ rfl
  have k9 : DataW.trod enc Tryd.prog w base (fun _ => true) held m 24 ((cs.drop 9).take (Tryd.prog.cellsOf 24)) = some (d9, p9) := k9
  rw [cellsSlS] at k9
  have l9 : light Tryd.prog 24 d9 := l9
  obtain ⟨d10, p10, g10, k10, l10⟩ := hf 10 _ rfl
  have k10 : DataW.trod enc Tryd.prog w base (fun _ => true) held m 24 ((cs.drop 10).take (Tryd.prog.cellsOf 24)) = some (d10, p10) := k10
  rw [cellsSlS] at k10
  have l10 : light Tryd.prog 24 d10 := l10
  obtain ⟨s0, e0, _, w0⟩ := DataW.trod_string Tryd.underlying9 k0
  obtain ⟨n1, e1, _, w1⟩ := DataW.trod_int Tryd.underlying3 k1
  obtain ⟨s8, e8, _, w8⟩ := DataW.trod_string Tryd.underlying9 k8
  have hxl : xs.length = 11 := hxl
  match cs, hcl, xs, hxl with
  | [c0, c1, c2, c3, c4, c5, c6, c7, c8, c9, c10], _, [x0, x1, x2, x3, x4, x5, x6, x7, x8, x9, x10], _ =>
    simp at e0 e1 e8 k2 k3 k4 k5 k6 k7 k9 k10 g2 g3 g4 g5 g6 g7 g9 g10
    subst e0 e1 e8 g2 g3 g4 g5 g6 g7 g9 g10
    obtain ⟨A2, q2, r2, y2, rfl, h2⟩ := ints_of ⟨k2, l2⟩
    obtain ⟨A3, q3, r3, y3, rfl, h3, z3⟩ := vrs_ofS ⟨k3, l3⟩
    obtain ⟨A4, q4, r4, y4, rfl, h4, z4⟩ := stmts_ofS _ c4 x4 p4 ⟨k4, l4⟩
    obtain ⟨A5, q5, r5, y5, rfl, h5, z5⟩ := stmts_ofS _ c5 x5 p5 ⟨k5, l5⟩
    obtain ⟨A6, q6, r6, y6, rfl, h6, z6⟩ := vrs_ofS ⟨k6, l6⟩
    obtain ⟨A7, q7, r7, y7, rfl, h7, z7⟩ := stmts_ofS _ c7 x7 p7 ⟨k7, l7⟩
    obtain ⟨A9, q9, r9, y9, rfl, h9, z9⟩ := stmts_ofS _ c9 x9 p9 ⟨k9, l9⟩
    obtain ⟨A10, q10, r10, y10, rfl, h10, z10⟩ := stmts_ofS _ c10 x10 p10 ⟨k10, l10⟩
    refine ⟨⟨s0, n1, ⟨A2, q2, r2⟩, ⟨A3, q3, r3⟩, ⟨A4, q4, r4⟩, ⟨A5, q5, r5⟩, ⟨A6, q6, r6⟩, ⟨A7, q7, r7⟩, s8, ⟨A9, q9, r9⟩, ⟨A10, q10, r10⟩⟩, ⟨s0, n1, y2, y3, y4, y5, y6, y7, s8, y9, y10⟩, rfl,
      ⟨rfl, w0, rfl, oi64_of w1, h2, h3, h4, h5, h6, h7, rfl, w8, h9, h10⟩, ?_⟩
    rw [hdx]
    simp only [Rows.uptoBulk, Rows.uptoBulkAll, psize]
    omega
end
set_option maxRecDepth 100000 in
theorem prog_in3 {H : Type} {enc : TypeId × Value → H} {W : World} {base : Nat} {v : Value} {d : DataW H} {p : List MemPlace} (o : Value.okWide Tryd.prog W .any base 26 v) (h : DataW.Trod enc Tryd.prog W 0 (fun _ => true) true 26 v d p) (z : light Tryd.prog 26 d) :
    ∃ (c : Pc) (q : Pr), v = .agg c.cells ∧ PAt W W.heap.size c q ∧ Caps c ∧ psize q ≤ Rows.uptoBulk d := by
  obtain ⟨cs, rfl⟩ : ∃ cs, v = .agg cs := by
    simp only [Value.okWide, Tryd.underlying26] at o
    obtain ⟨cs, h1, _⟩ := o
    exact ⟨cs, h1⟩
  obtain ⟨fuel, hf⟩ := h
  obtain ⟨c, q, e, hp, hs⟩ := prog_ofS ⟨hf, z⟩
  have hf2 : DataW.trod enc Tryd.prog W 0 (fun _ => true) true fuel 26 c.cells.toList = some (d, p) := e ▸ hf
  obtain ⟨hc, hr⟩ := caps_of ⟨hf2, z⟩
  refine ⟨c, q, ?_, hp, hc, hs⟩
  cases cs
  simpa [Value.cells] using e
end Go.Proofs.YtfamkemdgbnegaaDoor

/- SortsEnds, of all that may come in, up to a bulk. -/
namespace Go.Proofs.YtfamkemdgbnegaaDoor
open Go.RowKit Go.Deep Go.ChangeShapes Go.WideShapes So
namespace sortsEnds
set_option maxRecDepth 100000 in
theorem walk {H : Type} {enc : TypeId × Value → H} (W : World) (base : Nat) (v0 v1 : Value) (d0 d1 : DataW H) (p0 p1 : List MemPlace)
    (o0 : Value.okWide Tryd.prog W .any base 26 v0) (_o1 : Value.okWide Tryd.prog W .any base 24 v1)
    (h0 : DataW.Trod enc Tryd.prog W 0 (fun _ => true) true 26 v0 d0 p0) (_h1 : DataW.Trod enc Tryd.prog W 0 (fun _ => true) true 24 v1 d1 p1) (hL : laidMetH Tryd.prog Rows.sortsEndsUptoRow.laid W)
    {gs : List (DataW H)} (hk : Rows.uptoSmall H ([d0, d1] ++ gs) = true)
    (z0 : light Tryd.prog 26 d0) (_z1 : light Tryd.prog 24 d1) (hS : W.ShapedOpen Tryd.prog) :
    Calls Tryd.prog 6 #[v0, v1] W fun e w' => e = .returned (.bool true) ∧ Ext W w' := by
  obtain ⟨c, q, rfl, hp, hc, hs⟩ := prog_in3 o0 h0 z0
  have hk : Rows.uptoBulkAll ([d0, d1] ++ gs) ≤ 1048576 := of_decide_eq_true hk
  simp only [List.cons_append, Rows.uptoBulkAll] at hk
  exact lends_any c q v1 W.heap.size W (Nat.le_refl _) hp (laid_at hL (five_blocks hS)) hc (by omega)
end sortsEnds
end Go.Proofs.YtfamkemdgbnegaaDoor
