/- A region that draws its order, walked in the order of the text: what yields the same value in every world that meets S (flag true) is taken first; what acts (flag false) comes up alone. S need not hold behind an operation that waits for all that are taken first. -/
import Derived.Test.YtahljceanodhkaaGreatDoorBase
import Derived.OrdersHeld
import Derived.Deep.RegionHeld
namespace Go.Proofs.YtahljceanodhkaaGreatDoor
open Go.RowKit
section
variable {P : Program} {ops : Array Oper} {Q : Exit → Act → World → Prop} {S : World → Prop} {md : Region.Mode} {ex : Nat → Bool}
/-- What has come up: with each also all that it waits for. -/
def Down (md : Region.Mode) (ops : Array Oper) (listed : Array Bool) : Prop :=
  ∀ (j : Nat) (oj : Oper), ops[j]? = some oj → listed.getD j false = true → ∀ e ∈ oj.after, Region.binds md e = true → listed.getD e.on false = true
def dpL (md : Region.Mode) : List Edge → Nat | [] => 0 | e :: r => (if Region.binds md e then 2 ^ e.on else 0) ||| dpL md r
def dpMask (md : Region.Mode) (ops : Array Oper) (k : Nat) : Nat := match ops[k]? with | some o => dpL md o.after.toList | none => 0
/-- All that is waited for, from k - 1 down. -/
def downMask (md : Region.Mode) (ops : Array Oper) : Nat → Nat → Nat
  | 0, m => m
  | k + 1, m => downMask md ops k (if m.testBit k then m ||| dpMask md ops k else m)
theorem dpL_bit (md : Region.Mode) : ∀ {l : List Edge} {i : Nat}, (dpL md l).testBit i = true → ∃ e ∈ l, Region.binds md e = true ∧ e.on = i
  | [], i, h => by simp [dpL] at h
  | e :: r, i, h => by
    simp only [dpL, Nat.testBit_or, Bool.or_eq_true] at h
    rcases h with h | h
    · split at h
      · rename_i hb
        rw [Nat.testBit_two_pow] at h
        exact ⟨e, by simp, hb, by simpa using h⟩
      · simp at h
    · obtain ⟨e', he, hb, hi⟩ := dpL_bit md h
      exact ⟨e', by simp [he], hb, hi⟩
theorem dpMask_bit {md : Region.Mode} {ops : Array Oper} {k i : Nat} (h : (dpMask md ops k).testBit i = true) : ∃ o, ops[k]? = some o ∧ ∃ e ∈ o.after, Region.binds md e = true ∧ e.on = i := by
  unfold dpMask at h
  split at h
  · rename_i o ho
    obtain ⟨e, he, hb, hi⟩ := dpL_bit md h
    exact ⟨o, ho, e, by simpa using he, hb, hi⟩
  · simp at h
theorem downMask_listed {md : Region.Mode} {ops : Array Oper} {listed : Array Bool} (hd : Down md ops listed) : ∀ (k m : Nat), (∀ i, m.testBit i = true → listed.getD i false = true) →
    ∀ i, (downMask md ops k m).testBit i = true → listed.getD i false = true
  | 0, m, h => h
  | k + 1, m, h => by
    refine downMask_listed hd k _ fun i hi => ?_
    split at hi
    · rename_i hk
      rw [Nat.testBit_or, Bool.or_eq_true] at hi
      rcases hi with hi | hi
      · exact h i hi
      · obtain ⟨o, ho, e, he, hb, rfl⟩ := dpMask_bit hi
        exact hd k o ho (h k hk) e he hb
    · exact h i hi
theorem Down.set {md : Region.Mode} {ops : Array Oper} {listed : Array Bool} {j : Nat} (hd : Down md ops listed) (hj : j ∈ Region.ready md ops listed) : Down md ops (listed.setIfInBounds j true) := by
  obtain ⟨_, oj, hoj, hall⟩ := mem_ready.1 hj
  intro k ok hk hl e he hb
  by_cases hkj : j = k
  · subst hkj
    rw [hoj] at hk
    injection hk with hk
    subst hk
    exact getD_set_true (hall e he hb)
  · rw [getD_set_ne false hkj] at hl
    exact getD_set_true (hd k ok hk hl e he hb)
theorem Down.init {md : Region.Mode} {ops : Array Oper} (n : Nat) : Down md ops (Array.replicate n false) := by
  intro j oj _ hl
  exfalso
  rcases Nat.lt_or_ge j n with h | h
  · simp [h] at hl
  · simp [Array.getElem?_eq_none (show (Array.replicate n false).size ≤ j by simpa using h)] at hl
def wpAnyG (P : Program) (md : Region.Mode) (ops : Array Oper) (Q : Exit → Act → World → Prop) (S : World → Prop) (ex : Nat → Bool) : Nat → Array Bool → Act → World → Prop
  | 0, listed, a, w => Region.ready md ops listed = [] ∧ Q .normal a w
  | fuel + 1, listed, a, w =>
    (Region.ready md ops listed = [] → Q .normal a w) ∧
    ∀ i ∈ Region.ready md ops listed, wpOp P ops Q i (fun a' w' => (ex i = true ∨ S w') ∧ wpAnyG P md ops Q S ex fuel (listed.setIfInBounds i true) a' w') a w
theorem wpAny_of_G : ∀ (fuel : Nat) (listed : Array Bool) (a : Act) (w : World), wpAnyG P md ops Q S ex fuel listed a w → wpAny P md ops Q fuel listed a w
  | 0, _, _, _, h => h
  | fuel + 1, _, _, _, h => ⟨h.1, fun i hi => wpOp_mono (fun a' w' h' => wpAny_of_G fuel _ a' w' h'.2) (h.2 i hi)⟩
theorem wpAnyG_first {i : Nat} {oi : Oper} {v : Value} (hi : ops[i]? = some oi) (hsel : ∀ (j : Nat) (o : Oper) cs b, ops[j]? = some o → o.op ≠ .select cs b)
    (hQ : ∀ c a w, Q (.panic c) (a.put oi.dst v) w → Q (.panic c) a w)
    (hex : ∀ j listed, Down md ops listed → j ∈ Region.ready md ops listed → j ≠ i → ex j = true → listed.getD i false = true) :
    ∀ (fuel : Nat) (listed : Array Bool) (a : Act) (w : World), Down md ops listed →
      (∀ j oj, ops[j]? = some oj → j ≠ i → listed.getD j true = false → (∀ e ∈ oj.after, Region.binds md e = true → e.on ≠ i) → oi.apart ops oj = true) →
      i ∈ Region.ready md ops listed → YieldsIf P ops S oi v a → S w →
      wpAnyG P md ops Q S ex fuel (listed.setIfInBounds i true) (a.put oi.dst v) w → wpAnyG P md ops Q S ex (fuel + 1) listed a w := by
  intro fuel
  induction fuel with
  | zero =>
    intro listed a w _ _ hr hy hS H
    refine ⟨fun h => (by rw [h] at hr; cases hr), fun j hj => ?_⟩
    by_cases hji : j = i
    · subst hji; exact hy.wpOp hi hS ⟨.inr hS, H⟩
    · have := ready_mono hj hji
      rw [H.1] at this
      cases this
  | succ fuel ih =>
    intro listed a w hdn hfree hr hy hS H
    refine ⟨fun h => (by rw [h] at hr; cases hr), fun j hj => ?_⟩
    by_cases hji : j = i
    · subst hji; exact hy.wpOp hi hS ⟨.inr hS, H⟩
    · have h1 := H.2 j (ready_mono hj hji)
      obtain ⟨hjun, oj, hoj, hall⟩ := mem_ready.1 hj
      have hnot : ∀ e ∈ oj.after, Region.binds md e = true → e.on ≠ i := fun e he hb heq => by
        have h1 := hall e he hb
        have h0 := (mem_ready.1 hr).1
        rw [heq] at h1
        rcases Nat.lt_or_ge i listed.size with h' | h'
        · simp [h'] at h0 h1; rw [h0] at h1; cases h1
        · simp [Array.getElem?_eq_none h'] at h1
      have hnex : ex j = true → False := fun h => by
        have h1 := hex j listed hdn hj hji h
        have h0 := (mem_ready.1 hr).1
        rcases Nat.lt_or_ge i listed.size with h' | h'
        · simp [h'] at h0 h1; rw [h0] at h1; cases h1
        · simp [Array.getElem?_eq_none h'] at h1
      have h2 := wpOp_putIf hoj (hfree j oj hoj hji hjun hnot) (fun cs b => hsel i oi cs b hi) (fun cs b => hsel j oj cs b hoj) hQ hy h1
      have hfree' : ∀ k ok, ops[k]? = some ok → k ≠ i → (listed.setIfInBounds j true).getD k true = false →
          (∀ e ∈ ok.after, Region.binds md e = true → e.on ≠ i) → oi.apart ops ok = true := fun k ok hk hki hun hno => by
        refine hfree k ok hk hki ?_ hno
        by_cases hjk : j = k
        · subst hjk; exact hjun
        · rw [getD_set_ne true hjk] at hun; exact hun
      refine wpOp_mono (fun a' w' h3 => ?_) h2
      have hS' : S w' := h3.2.1.elim (fun h => (hnex h).elim) id
      refine ⟨.inr hS', ih (listed.setIfInBounds j true) a' w' (hdn.set hj) hfree' (ready_mono hr (Ne.symm hji)) h3.1 hS' ?_⟩
      rw [Array.setIfInBounds_comm _ _ hji]
      exact h3.2.2
theorem wpAnyG_take {i : Nat} {oi : Oper} {v : Value} {fuel : Nat} {listed : Array Bool} {a : Act} {w : World} (hdn : Down md ops listed) (hi : ops[i]? = some oi)
    (hs : Region.noSelect ops = true) (hf : Region.free md ops listed i = true) (hr : (Region.ready md ops listed).contains i = true)
    (hex : ∀ j listed, Down md ops listed → j ∈ Region.ready md ops listed → j ≠ i → ex j = true → listed.getD i false = true)
    (hQ : ∀ c a w, Q (.panic c) (a.put oi.dst v) w → Q (.panic c) a w) (hy : YieldsIf P ops S oi v a) (hS : S w)
    (h : wpAnyG P md ops Q S ex fuel (listed.setIfInBounds i true) (a.put oi.dst v) w) : wpAnyG P md ops Q S ex (fuel + 1) listed a w :=
  wpAnyG_first hi (Region.noSelect_spec hs) hQ hex fuel listed a w hdn (Region.free_spec hi hf) (by simpa using hr) hy hS h
theorem wpAnyG_all {rs : List Nat} {fuel : Nat} {listed : Array Bool} {a : Act} {w : World} (hr : Region.ready md ops listed = rs) (hne : rs ≠ [])
    (h : ∀ i ∈ rs, wpOp P ops Q i (fun a' w' => (ex i = true ∨ S w') ∧ wpAnyG P md ops Q S ex fuel (listed.setIfInBounds i true) a' w') a w) : wpAnyG P md ops Q S ex (fuel + 1) listed a w :=
  ⟨fun h0 => absurd (hr ▸ h0) hne, hr ▸ h⟩
theorem wpAnyG_done {listed : Array Bool} {a : Act} {w : World} (hr : Region.ready md ops listed = []) (h : Q .normal a w) :
    ∀ fuel, wpAnyG P md ops Q S ex fuel listed a w
  | 0 => ⟨hr, h⟩
  | _ + 1 => ⟨fun _ => h, by rw [hr]; simp⟩

/-- Does operation j wait for all that are taken first? -/
def exB (md : Region.Mode) (ops : Array Oper) (fs : List Bool) (j : Nat) : Bool :=
  (List.range fs.length).all fun i => !(fs.getD i false) || i == j || (downMask md ops j (dpMask md ops j)).testBit i
theorem exB_spec {fs : List Bool} {i j : Nat} {listed : Array Bool} (hf : fs[i]? = some true) (hd : Down md ops listed) (hj : j ∈ Region.ready md ops listed) (hne : j ≠ i) (h : exB md ops fs j = true) :
    listed.getD i false = true := by
  have hi : i < fs.length := (List.getElem?_eq_some_iff.1 hf).1
  have h1 := List.all_eq_true.1 h i (List.mem_range.2 hi)
  have hg : fs.getD i false = true := by simp [List.getD, hf]
  simp only [hg, Bool.not_true, Bool.false_or, Bool.or_eq_true, beq_iff_eq] at h1
  rcases h1 with h1 | h1
  · exact absurd h1.symm hne
  · obtain ⟨_, oj, hoj, hall⟩ := mem_ready.1 hj
    refine downMask_listed hd j _ (fun x hx => ?_) i h1
    obtain ⟨o, ho, e, he, hb, rfl⟩ := dpMask_bit hx
    rw [hoj] at ho
    injection ho with ho
    subst ho
    exact hall e he hb
/-- May the operations come up in this order, from number i on? (true: taken first; false: it comes up alone) -/
def ordB (md : Region.Mode) (ops : Array Oper) : List Bool → Nat → Array Bool → Bool
  | [], _, listed => (Region.ready md ops listed).isEmpty
  | true :: r, i, listed => Region.free md ops listed i && (Region.ready md ops listed).contains i && ordB md ops r (i + 1) (listed.setIfInBounds i true)
  | false :: r, i, listed => (Region.ready md ops listed == [i]) && ordB md ops r (i + 1) (listed.setIfInBounds i true)
def noP (Q : Exit → Act → World → Prop) : Exit → Act → World → Prop
  | .normal, a, w => Q .normal a w
  | _, _, _ => False
def wpTx (P : Program) (ops : Array Oper) (Q : Exit → Act → World → Prop) (S : World → Prop) (fs : List Bool) : Nat → List Oper → List Bool → Act → World → Prop
  | _, [], [], a, w => Q .normal a w
  | k, o :: l, true :: r, a, w => S w ∧ ∃ v, YieldsIf P ops S o v a ∧ wpTx P ops Q S fs (k + 1) l r (a.put o.dst v) w
  | k, o :: l, false :: r, a, w =>
    if Region.wanted o (yielded ops a.tmps) then o.wp P a w (fun a' w' => (exB .any ops fs k = true ∨ S w') ∧ wpTx P ops Q S fs (k + 1) l r a' w') (noP Q) ∨ (o.asks P a w ∧ LetsOut (noP Q))
    else (exB .any ops fs k = true ∨ S w) ∧ wpTx P ops Q S fs (k + 1) l r (a.put o.dst undef) w
  | _, _, _, _, _ => False
theorem wpAnyG_of_tx {fs : List Bool} (hs : Region.noSelect ops = true) : ∀ (l : List Oper) (r : List Bool) (i fuel : Nat) (listed : Array Bool) (a : Act) (w : World), l.length ≤ fuel → (∀ j, l[j]? = ops[i + j]?) → (∀ j, r[j]? = fs[i + j]?) → Down .any ops listed →
    ordB .any ops r i listed = true → wpTx P ops Q S fs i l r a w → wpAnyG P .any ops (noP Q) S (exB .any ops fs) fuel listed a w
  | [], [], i, fuel, listed, a, w, _, _, _, _, hB, h => wpAnyG_done (Q := noP Q) (by simpa [ordB] using hB) h fuel
  | [], _ :: _, i, fuel, listed, a, w, _, _, _, _, _, h => by simp [wpTx] at h
  | _ :: _, [], i, fuel, listed, a, w, _, _, _, _, _, h => by simp [wpTx] at h
  | _ :: _, _ :: _, i, 0, listed, a, w, hf, _, _, _, _, _ => by simp at hf
  | o :: l, true :: r, i, fuel + 1, listed, a, w, hf, hl, hr, hdn, hB, h => by
    obtain ⟨hS, v, hy, h⟩ := h
    simp only [ordB, Bool.and_eq_true] at hB
    have ho : ops[i]? = some o := by simpa using (hl 0).symm
    have hfi : fs[i]? = some true := by simpa using (hr 0).symm
    exact wpAnyG_take hdn ho hs hB.1.1 hB.1.2 (fun j l hd hj hne hx => exB_spec hfi hd hj hne hx) (fun _ _ _ x => x) hy hS (wpAnyG_of_tx hs l r (i + 1) fuel _ _ w (by simpa using hf)
      (fun j => by have := hl (j + 1); simpa [Nat.add_assoc, Nat.add_comm 1 j] using this) (fun j => by have := hr (j + 1); simpa [Nat.add_assoc, Nat.add_comm 1 j] using this) (hdn.set (by simpa using hB.1.2)) hB.2 h)
  | o :: l, false :: r, i, fuel + 1, listed, a, w, hf, hl, hr, hdn, hB, h => by
    simp only [ordB, Bool.and_eq_true, beq_iff_eq] at hB
    have ho : ops[i]? = some o := by simpa using (hl 0).symm
    have hl' : ∀ j, l[j]? = ops[i + 1 + j]? := fun j => by have := hl (j + 1); simpa [Nat.add_assoc, Nat.add_comm 1 j] using this
    have hr' : ∀ j, r[j]? = fs[i + 1 + j]? := fun j => by have := hr (j + 1); simpa [Nat.add_assoc, Nat.add_comm 1 j] using this
    refine wpAnyG_all hB.1 (by simp) fun j hj => ?_
    obtain rfl : j = i := by simpa using hj
    have h1 : wpOp P ops (noP Q) j (fun a' w' => (exB .any ops fs j = true ∨ S w') ∧ wpTx P ops Q S fs (j + 1) l r a' w') a w := by
      unfold wpOp
      rw [ho]
      exact h
    exact wpOp_mono (fun a' w' h' => ⟨h'.1, wpAnyG_of_tx hs l r (j + 1) fuel _ a' w' (by simpa using hf) hl' hr' (hdn.set (by rw [hB.1]; simp)) hB.2 h'.2⟩) h1
theorem noP.imp : ∀ (e : Exit) (a : Act) (w : World), noP Q e a w → Q e a w := fun e a w h => by
  cases e <;> first | exact h | exact h.elim
theorem wp_region_tx {id : Nat} {a : Act} {w : World} {l : List Oper} (S : World → Prop) (fs : List Bool) (hm : P.follows .mixedOrders = true) (hs : Region.noSelect l.toArray = true)
    (hB : ordB .any l.toArray fs 0 (Array.replicate l.toArray.size false) = true)
    (h : wpTx P l.toArray Q S fs 0 l fs a w.drew) : (Code.region id l.toArray true).wp P Q a w :=
  Code.wp_mono noP.imp (wp_region_any hm (wpAny_of_G _ _ _ _ (wpAnyG_of_tx hs l fs 0 _ _ a _ (by simp) (by simp) (by simp) (Down.init _) hB h)))
theorem wp_region_eq {id : Nat} {a : Act} {w : World} {l : List Oper} (fs : List Bool) (hm : P.follows .mixedOrders = true) (hs : Region.noSelect l.toArray = true)
    (hB : ordB .any l.toArray fs 0 (Array.replicate l.toArray.size false) = true)
    (h : wpTx P l.toArray Q (fun w1 => w1 = w.drew) fs 0 l fs a w.drew) : (Code.region id l.toArray true).wp P Q a w := wp_region_tx _ fs hm hs hB h
variable {fs : List Bool} {k : Nat}
theorem wpTx_nil {a : Act} {w : World} (h : Q .normal a w) : wpTx P ops Q S fs k [] [] a w := h
theorem wpTx_take {l : List Oper} {r : List Bool} {a : Act} {w : World} {o : Oper} {v : Value} (hS : S w) (hw : Region.wanted o (yielded ops a.tmps) = true)
    (hy : ∀ w', S w' → (execOp a.eval o).run P w' = .ok (.value v) w') (h : ∀ K : Act → World → Prop, (∀ a w, wpTx P ops Q S fs (k + 1) l r a w → K a w) → K (a.put o.dst v) w) : wpTx P ops Q S fs k (o :: l) (true :: r) a w :=
  ⟨hS, v, .inl ⟨hw, hy⟩, h _ (fun _ _ h => h)⟩
theorem wpTx_pass {l : List Oper} {r : List Bool} {a : Act} {w : World} {o : Oper} (hS : S w) (hw : Region.wanted o (yielded ops a.tmps) = false)
    (h : ∀ K : Act → World → Prop, (∀ a w, wpTx P ops Q S fs (k + 1) l r a w → K a w) → K (a.put o.dst undef) w) : wpTx P ops Q S fs k (o :: l) (true :: r) a w :=
  ⟨hS, undef, .inr ⟨hw, rfl⟩, h _ (fun _ _ h => h)⟩
theorem wpTx_act {l : List Oper} {r : List Bool} {a : Act} {w : World} {o : Oper}
    (h : ∀ K : Act → World → Prop, Shut (∀ a' w', S w' → (S w' → wpTx P ops Q S fs (k + 1) l r a' w') → K a' w') → if Region.wanted o (yielded ops a.tmps) = true then Oper.wp P o a w K (noP Q) else K (a.put o.dst undef) w) :
    wpTx P ops Q S fs k (o :: l) (false :: r) a w := by
  have h := h (fun a' w' => (exB .any ops fs k = true ∨ S w') ∧ wpTx P ops Q S fs (k + 1) l r a' w') (fun a' w' hS h => ⟨.inr hS, h hS⟩)
  unfold wpTx
  split
  · rename_i hw; rw [if_pos hw] at h; exact .inl h
  · rename_i hw; rw [if_neg hw] at h; exact h
theorem wpTx_end {l : List Oper} {r : List Bool} {a : Act} {w : World} {o : Oper} (hx : exB .any ops fs k = true)
    (h : ∀ K : Act → World → Prop, Shut (∀ a' w', wpTx P ops Q S fs (k + 1) l r a' w' → K a' w') → if Region.wanted o (yielded ops a.tmps) = true then Oper.wp P o a w K (noP Q) else K (a.put o.dst undef) w) :
    wpTx P ops Q S fs k (o :: l) (false :: r) a w := by
  have h := h (fun a' w' => (exB .any ops fs k = true ∨ S w') ∧ wpTx P ops Q S fs (k + 1) l r a' w') (fun a' w' h => ⟨.inl hx, h⟩)
  unfold wpTx
  split
  · rename_i hw; rw [if_pos hw] at h; exact .inl h
  · rename_i hw; rw [if_neg hw] at h; exact h
end
end Go.Proofs.YtahljceanodhkaaGreatDoor
