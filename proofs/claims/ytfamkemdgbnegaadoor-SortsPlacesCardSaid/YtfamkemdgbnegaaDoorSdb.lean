/- Several texts joined: Ordq, Sm, G, Sp, Sf. -/
import Derived.MapKept
import Derived.Laws.AppendOwn
import Derived.Laws.AppendOwnNone
import Derived.ProofKit
import Derived.OpenShut
import Derived.ShutString
import Derived.ChangeOld
import Derived.Below
import Derived.Deep.Slices
import Derived.Lib.Hide
import Derived.Test.YtfamkemdgbnegaaDoorSda
/- A region that draws its order, walked by a plan: as Ordp, and where two acting operations may come up, both ways are walked. -/
namespace Go.Proofs.YtfamkemdgbnegaaDoor
open Go.RowKit
inductive Pl0 where
  | nil
  | op (i k : Nat) (r : Pl0)
  | fork (i : Nat) (p : Pl0) (j : Nat) (q : Pl0)
inductive Pl where
  | nil
  | op (i k : Nat) (o : Oper) (r : Pl)
  | fork (i : Nat) (o : Oper) (p : Pl) (j : Nat) (o' : Oper) (q : Pl)
def Pl0.fill (l : List Oper) : Pl0 → Pl
  | .nil => .nil
  | .op i k r => .op i k (l.getD i nop) (r.fill l)
  | .fork i p j q => .fork i (l.getD i nop) (p.fill l) j (l.getD j nop) (q.fill l)
def Pl0.st : Pl0 → List Nat
  | .nil => []
  | .op i k r => if k = 1 then i :: r.st else r.st
  | .fork _ p _ q => p.st ++ q.st
def Pl0.len : Pl0 → Nat
  | .nil => 0
  | .op _ _ r => r.len + 1
  | .fork _ p _ q => max p.len q.len + 1
section
variable {P : Program} {ops : Array Oper} {Q : Exit → Act → World → Prop} {S : World → Prop}
def exQ (md : Region.Mode) (ops : Array Oper) (st : List Nat) (j : Nat) : Bool :=
  st.all fun i => i == j || (downMask md ops ops.size (dpMask md ops j)).testBit i
theorem exQ_spec {md : Region.Mode} {st : List Nat} {i j : Nat} {listed : Array Bool} (hf : i ∈ st) (hd : Down md ops listed) (hj : j ∈ Region.ready md ops listed) (hne : j ≠ i) (h : exQ md ops st j = true) :
    listed.getD i false = true := by
  have h1 := List.all_eq_true.1 h _ hf
  simp only [Bool.or_eq_true, beq_iff_eq] at h1
  rcases h1 with h1 | h1
  · exact absurd h1.symm hne
  · obtain ⟨_, oj, hoj, hall⟩ := mem_ready.1 hj
    refine downMask_listed hd _ _ (fun x hx => ?_) i h1
    obtain ⟨o, ho, e, he, hb, rfl⟩ := dpMask_bit hx
    rw [hoj] at ho
    injection ho with ho
    subst ho
    exact hall e he hb
def Pl0.ok (md : Region.Mode) (ops : Array Oper) : Pl0 → Array Bool → Bool
  | .nil, listed => (Region.ready md ops listed).isEmpty
  | .op i 0 r, listed => (Region.ready md ops listed == [i]) && decide (i < ops.size) && r.ok md ops (listed.setIfInBounds i true)
  | .op i (_ + 1) r, listed => Region.free md ops listed i && (Region.ready md ops listed).contains i && decide (i < ops.size) && r.ok md ops (listed.setIfInBounds i true)
  | .fork i p j q, listed => (Region.ready md ops listed == [i, j]) && decide (i < ops.size) && decide (j < ops.size) && p.ok md ops (listed.setIfInBounds i true) && q.ok md ops (listed.setIfInBounds j true)
def wpPl (P : Program) (ops : Array Oper) (Q : Exit → Act → World → Prop) (S : World → Prop) (st : List Nat) : Pl → Act → World → Prop
  | .nil, a, w => Q .normal a w
  | .op k 0 o r, a, w =>
    if Region.wanted o (yielded ops a.tmps) then o.wp P a w (fun a' w' => (exQ .any ops st k = true ∨ (S w → S w')) ∧ wpPl P ops Q S st r a' w') (noP Q) ∨ (o.asks P a w ∧ LetsOut (noP Q))
    else wpPl P ops Q S st r (a.put o.dst undef) w
  | .op _ 1 o r, a, w => S w ∧ ∃ v, YieldsIf P ops S o v a ∧ wpPl P ops Q S st r (a.put o.dst v) w
  | .op _ (_ + 2) o r, a, w => ∃ v, YieldsIf P ops (fun _ => True) o v a ∧ wpPl P ops Q S st r (a.put o.dst v) w
  | .fork k o r k' o' r', a, w =>
    (if Region.wanted o (yielded ops a.tmps) then o.wp P a w (fun a' w' => (exQ .any ops st k = true ∨ (S w → S w')) ∧ wpPl P ops Q S st r a' w') (noP Q) ∨ (o.asks P a w ∧ LetsOut (noP Q))
    else wpPl P ops Q S st r (a.put o.dst undef) w) ∧
    (if Region.wanted o' (yielded ops a.tmps) then o'.wp P a w (fun a' w' => (exQ .any ops st k' = true ∨ (S w → S w')) ∧ wpPl P ops Q S st r' a' w') (noP Q) ∨ (o'.asks P a w ∧ LetsOut (noP Q))
    else wpPl P ops Q S st r' (a.put o'.dst undef) w)
theorem getD_some {l : List Oper} {i : Nat} (h : i < l.toArray.size) : l.toArray[i]? = some (l.getD i nop) := by
  have h' : i < l.length := by simpa using h
  simp [List.getD, List.getElem?_eq_getElem h']
theorem noP_QL {lst : Nat → Bool} {j : Nat} : ∀ (e : Exit) (a : Act) (w : World), noP Q e a w → QL (noP Q) lst j e a w := fun e a w h => by
  unfold QL
  split
  · exact h
  · cases e <;> exact h
theorem wpAnyH_of_pl {l : List Oper} {st : List Nat} (hs : Region.noSelect l.toArray = true) : ∀ (p : Pl0) (fuel : Nat) (listed : Array Bool) (a : Act) (w : World), p.len ≤ fuel → (∀ i ∈ p.st, i ∈ st) → Down .any l.toArray listed →
    p.ok .any l.toArray listed = true → wpPl P l.toArray Q S st (p.fill l) a w → wpAnyH P .any l.toArray (noP Q) S (exQ .any l.toArray st) (fun _ => false) fuel listed a w
  | .nil, fuel, listed, a, w, _, _, _, hB, h => wpAnyH_done (Q := noP Q) (by simpa [Pl0.ok] using hB) h fuel
  | .op _ _ _, 0, listed, a, w, hf, _, _, _, _ => by simp [Pl0.len] at hf
  | .fork _ _ _ _, 0, listed, a, w, hf, _, _, _, _ => by simp [Pl0.len] at hf
  | .op i 1 r, fuel + 1, listed, a, w, hf, hr, hdn, hB, h => by
    obtain ⟨hS, v, hy, h⟩ := h
    simp only [Pl0.ok, Bool.and_eq_true, decide_eq_true_eq] at hB
    simp only [Pl0.st, if_true] at hr
    have ho := getD_some hB.1.2
    exact wpAnyH_first ho (Region.noSelect_spec hs) (fun _ _ _ _ _ hx => by cases hx) (fun j l hd hj hne hx => exQ_spec (hr _ (by simp)) hd hj hne hx) fuel listed a w hdn (Region.free_spec ho hB.1.1.1) (by simpa using hB.1.1.2) hy hS
      (wpAnyH_of_pl hs r fuel _ _ w (by simpa [Pl0.len] using hf) (fun p hp => hr p (by simp [hp])) (hdn.set (by simpa using hB.1.1.2)) hB.2 h)
  | .op i (n + 2) r, fuel + 1, listed, a, w, hf, hr, hdn, hB, h => by
    obtain ⟨v, hy, h⟩ := h
    simp only [Pl0.ok, Bool.and_eq_true, decide_eq_true_eq] at hB
    have ho := getD_some hB.1.2
    exact wpAnyH_pure ho (Region.noSelect_spec hs) (fun _ _ _ _ _ hx => by cases hx) fuel listed a w hdn (Region.free_spec ho hB.1.1.1) (by simpa using hB.1.1.2) hy
      (wpAnyH_of_pl hs r fuel _ _ w (by simpa [Pl0.len] using hf) (fun p hp => hr p (by simp [Pl0.st, hp])) (hdn.set (by simpa using hB.1.1.2)) hB.2 h)
  | .op i 0 r, fuel + 1, listed, a, w, hf, hr, hdn, hB, h => by
    simp only [Pl0.ok, Bool.and_eq_true, beq_iff_eq, decide_eq_true_eq] at hB
    have ho := getD_some hB.1.2
    refine wpAnyH_all hB.1.1 (by simp) fun j hj => ?_
    obtain rfl : j = i := by simpa using hj
    have h1 : wpOp P l.toArray (noP Q) j (fun a' w' => (exQ .any l.toArray st j = true ∨ (S w → S w')) ∧ wpPl P l.toArray Q S st (r.fill l) a' w') a w := by
      unfold wpOp
      rw [ho]
      unfold Pl0.fill wpPl at h
      by_cases hw : Region.wanted (l.getD j nop) (yielded l.toArray a.tmps) = true
      · rw [if_pos hw] at h; simp only [if_pos hw]; exact h
      · rw [if_neg hw] at h; simp only [if_neg hw]; exact ⟨.inr id, h⟩
    exact wpOp_mono (fun a' w' h' => ⟨h'.1, wpAnyH_of_pl hs r fuel _ a' w' (by simpa [Pl0.len] using hf) (fun p hp => hr p (by simp [Pl0.st, hp])) (hdn.set (by rw [hB.1.1]; simp)) hB.2 h'.2⟩) (wpOp_exits noP_QL h1)
  | .fork i p j q, fuel + 1, listed, a, w, hf, hr, hdn, hB, h => by
    simp only [Pl0.ok, Bool.and_eq_true, beq_iff_eq, decide_eq_true_eq] at hB
    obtain ⟨⟨⟨⟨hrd, hi⟩, hj⟩, hp⟩, hq⟩ := hB
    have hoi := getD_some hi
    have hoj := getD_some hj
    have hlen : max p.len q.len ≤ fuel := by simpa [Pl0.len] using hf
    unfold Pl0.fill wpPl at h
    refine wpAnyH_all hrd (by simp) fun k hk => ?_
    rcases (by simpa using hk : k = i ∨ k = j) with rfl | rfl
    · have h1 : wpOp P l.toArray (noP Q) k (fun a' w' => (exQ .any l.toArray st k = true ∨ (S w → S w')) ∧ wpPl P l.toArray Q S st (p.fill l) a' w') a w := by
        unfold wpOp
        rw [hoi]
        have h := h.1
        by_cases hw : Region.wanted (l.getD k nop) (yielded l.toArray a.tmps) = true
        · rw [if_pos hw] at h; simp only [if_pos hw]; exact h
        · rw [if_neg hw] at h; simp only [if_neg hw]; exact ⟨.inr id, h⟩
      exact wpOp_mono (fun a' w' h' => ⟨h'.1, wpAnyH_of_pl hs p fuel _ a' w' (by omega) (fun x hx => hr x (by simp [Pl0.st, hx])) (hdn.set (by rw [hrd]; simp)) hp h'.2⟩) (wpOp_exits noP_QL h1)
    · have h1 : wpOp P l.toArray (noP Q) k (fun a' w' => (exQ .any l.toArray st k = true ∨ (S w → S w')) ∧ wpPl P l.toArray Q S st (q.fill l) a' w') a w := by
        unfold wpOp
        rw [hoj]
        have h := h.2
        by_cases hw : Region.wanted (l.getD k nop) (yielded l.toArray a.tmps) = true
        · rw [if_pos hw] at h; simp only [if_pos hw]; exact h
        · rw [if_neg hw] at h; simp only [if_neg hw]; exact ⟨.inr id, h⟩
      exact wpOp_mono (fun a' w' h' => ⟨h'.1, wpAnyH_of_pl hs q fuel _ a' w' (by omega) (fun x hx => hr x (by simp [Pl0.st, hx])) (hdn.set (by rw [hrd]; simp)) hq h'.2⟩) (wpOp_exits noP_QL h1)
theorem wp_region_4 {id : Nat} {a : Act} {w : World} {l : List Oper} (S : World → Prop) (p : Pl0) (hm : P.follows .mixedOrders = true) (hs : Region.noSelect l.toArray = true)
    (hB : p.ok .any l.toArray (Array.replicate l.toArray.size false) = true) (hin : decide (p.len ≤ l.length) = true)
    (h : ∀ p', p' = p.fill l → wpPl P l.toArray Q S p.st p' a w.drew) : (Code.region id l.toArray true).wp P Q a w :=
  Code.wp_mono noP.imp (wp_region_any hm (wpAny_of_H _ _ _ _ (wpAnyH_of_pl hs p _ _ a _ (by simpa using hin) (fun _ h => h) (Down.init _) hB (h _ rfl))))
variable {st : List Nat} {k : Nat} {r : Pl} {a : Act} {w : World} {o : Oper}
theorem w4_nil (h : Q .normal a w) : wpPl P ops Q S st .nil a w := h
theorem w4_take {v : Value} (hS : S w) (hw : Region.wanted o (yielded ops a.tmps) = true)
    (hy : ∀ w', S w' → (execOp a.eval o).run P w' = .ok (.value v) w') (h : ∀ K : Act → World → Prop, (∀ a w, wpPl P ops Q S st r a w → K a w) → K (a.put o.dst v) w) : wpPl P ops Q S st (.op k 1 o r) a w :=
  ⟨hS, v, .inl ⟨hw, hy⟩, h _ (fun _ _ h => h)⟩
theorem w4_pass (hS : S w) (hw : Region.wanted o (yielded ops a.tmps) = false)
    (h : ∀ K : Act → World → Prop, (∀ a w, wpPl P ops Q S st r a w → K a w) → K (a.put o.dst undef) w) : wpPl P ops Q S st (.op k 1 o r) a w :=
  ⟨hS, undef, .inr ⟨hw, rfl⟩, h _ (fun _ _ h => h)⟩
theorem w4_pure {v : Value} (hw : Region.wanted o (yielded ops a.tmps) = true)
    (hy : ∀ w', (execOp a.eval o).run P w' = .ok (.value v) w') (h : ∀ K : Act → World → Prop, (∀ a w, wpPl P ops Q S st r a w → K a w) → K (a.put o.dst v) w) : wpPl P ops Q S st (.op k 2 o r) a w :=
  ⟨v, .inl ⟨hw, fun w _ => hy w⟩, h _ (fun _ _ h => h)⟩
theorem w4_skip (hw : Region.wanted o (yielded ops a.tmps) = false)
    (h : ∀ K : Act → World → Prop, (∀ a w, wpPl P ops Q S st r a w → K a w) → K (a.put o.dst undef) w) : wpPl P ops Q S st (.op k 2 o r) a w :=
  ⟨undef, .inr ⟨hw, rfl⟩, h _ (fun _ _ h => h)⟩
theorem w4_act (h : ∀ K : Act → World → Prop, Shut (∀ a' w', (S w → S w') → wpPl P ops Q S st r a' w' → K a' w') → if Region.wanted o (yielded ops a.tmps) = true then Oper.wp P o a w K (noP Q) else K (a.put o.dst undef) w) :
    wpPl P ops Q S st (.op k 0 o r) a w := by
  unfold wpPl
  split
  · rename_i hw
    have h := h (fun a' w' => (exQ .any ops st k = true ∨ (S w → S w')) ∧ wpPl P ops Q S st r a' w') (fun a' w' hS h => ⟨.inr hS, h⟩)
    rw [if_pos hw] at h; exact .inl h
  · rename_i hw
    have h := h (fun a' w' => wpPl P ops Q S st r a' w') (fun a' w' _ h => h)
    rw [if_neg hw] at h; exact h
theorem w4_end (hx : exQ .any ops st k = true)
    (h : ∀ K : Act → World → Prop, Shut (∀ a' w', wpPl P ops Q S st r a' w' → K a' w') → if Region.wanted o (yielded ops a.tmps) = true then Oper.wp P o a w K (noP Q) else K (a.put o.dst undef) w) :
    wpPl P ops Q S st (.op k 0 o r) a w := by
  unfold wpPl
  split
  · rename_i hw
    have h := h (fun a' w' => (exQ .any ops st k = true ∨ (S w → S w')) ∧ wpPl P ops Q S st r a' w') (fun a' w' h => ⟨.inl hx, h⟩)
    rw [if_pos hw] at h; exact .inl h
  · rename_i hw
    have h := h (fun a' w' => wpPl P ops Q S st r a' w') (fun a' w' h => h)
    rw [if_neg hw] at h; exact h
theorem w4_fork {k' : Nat} {o' : Oper} {r' : Pl} (h : wpPl P ops Q S st (.op k 0 o r) a w) (h' : wpPl P ops Q S st (.op k' 0 o' r') a w) : wpPl P ops Q S st (.fork k o r k' o' r') a w := ⟨h, h'⟩
end
end Go.Proofs.YtfamkemdgbnegaaDoor

/- Maps keyed by strings, by what each name's entry is: look-up, store, delete, whatever the program. -/
namespace Go.Proofs.YtfamkemdgbnegaaDoor
open Go.RowKit
/-- block g is a map: each name's entry -/
def SMap (w : World) (g : Nat) (f : ByteArray → Option Value) : Prop :=
  ∃ es clock, w.heap[g]? = some (.map es clock) ∧ (∀ x ∈ es.toList, MapKept.IsKey .string x.key) ∧ (es.toList.map (·.key)).Nodup ∧ ∀ s v, f s = some v ↔ ∃ x ∈ es.toList, x.key = .string s ∧ x.val = v
section
variable {P : Program} {w w' : World} {g : Nat} {f : ByteArray → Option Value} {mt kt et : TypeId}
theorem SMap.lt (h : SMap w g f) : g < w.heap.size := by
  obtain ⟨_, _, hb, _⟩ := h
  exact (Array.getElem?_eq_some_iff.1 hb).1
theorem SMap.kept {S : Nat → Prop} (h : SMap w g f) (hk : Kept S w w') (hs : ¬ S g) : SMap w' g f := by
  have hl := h.lt
  obtain ⟨es, clock, hb, r⟩ := h
  exact ⟨es, clock, (hk.block g hl hs).trans hb, r⟩
theorem SMap.ext (h : SMap w g f) (hk : Ext w w') : SMap w' g f := h.kept hk (fun f => f)
theorem SMap.cong {f' : ByteArray → Option Value} (h : SMap w g f) (e : ∀ s, f s = f' s) : SMap w g f' := by
  obtain ⟨es, clock, hb, hk, hn, hm⟩ := h
  exact ⟨es, clock, hb, hk, hn, fun s v => by rw [← e]; exact hm s v⟩
theorem SMap.made (w : World) : SMap (w.alloc (.map #[] 0)) w.heap.size (fun _ => none) :=
  ⟨#[], 0, (MapKept.heap_alloc w _).1, by simp, by simp, by simp⟩
theorem key_str (s : ByteArray) : MapKept.IsKey .string (.string s) := by simp [MapKept.IsKey]
/-- what is found -/
theorem SMap.find (h : SMap w g f) (s : ByteArray) : ∃ es clock, w.heap[g]? = some (.map es clock) ∧ (∀ x ∈ es.toList, MapKept.IsKey .string x.key) ∧ (es.toList.map (·.key)).Nodup ∧ (∀ s v, f s = some v ↔ ∃ x ∈ es.toList, x.key = .string s ∧ x.val = v) ∧
    ((Instr.findNow .string (.string s) es.toList 0 = some none ∧ f s = none ∧ ∀ x ∈ es.toList, x.key ≠ .string s) ∨ ∃ j e, Instr.findNow .string (.string s) es.toList 0 = some (some (j, e.val)) ∧ es.toList[j]? = some e ∧ e.key = .string s ∧ f s = some e.val) := by
  obtain ⟨es, clock, hb, hk, hn, hm⟩ := h
  refine ⟨es, clock, hb, hk, hn, hm, ?_⟩
  rcases MapKept.findNow_spec (key_str s) es.toList 0 hk with ⟨h1, h2⟩ | ⟨j, e, h1, h2, h3⟩
  · refine .inl ⟨h1, ?_, h2⟩
    cases hf : f s with
    | none => rfl
    | some v =>
      obtain ⟨x, hx, he, _⟩ := (hm s v).1 hf
      exact absurd he (h2 x hx)
  · rw [Nat.zero_add] at h1
    exact .inr ⟨j, e, h1, h2, h3, (hm s e.val).2 ⟨e, List.mem_of_getElem? h2, h3, rfl⟩⟩
theorem SMap.look (h : SMap w g f) (hu : P.underlying mt = some (.map kt et)) (hk : P.underlying kt = some .string) {z : Value} (hz : ∀ w : World, (zeroValue et).run P w = .ok z w) (s : ByteArray) :
    (Instr.lookup mt (.map (some g)) (.string s) false).run P w = .ok ((f s).getD z) w := by
  obtain ⟨es, clock, hb, _, _, _, h1 | ⟨j, e, h1, _, _, h4⟩⟩ := h.find s
  · simp [Instr.lookup, run_underlying hu, MapKept.run_getObj_map hb, MapKept.run_checkKey hk (key_str s), MapKept.run_findKey hk h1.1, hz, Result.andThen, h1.2.1]
  · simp [Instr.lookup, run_underlying hu, MapKept.run_getObj_map hb, MapKept.run_checkKey hk (key_str s), MapKept.run_findKey hk h1, Result.andThen, h4]
theorem SMap.look_ok (h : SMap w g f) (hu : P.underlying mt = some (.map kt et)) (hk : P.underlying kt = some .string) {z : Value} (hz : ∀ w : World, (zeroValue et).run P w = .ok z w) (s : ByteArray) :
    (Instr.lookup mt (.map (some g)) (.string s) true).run P w = .ok (.tuple #[(f s).getD z, .bool (f s).isSome]) w := by
  obtain ⟨es, clock, hb, _, _, _, h1 | ⟨j, e, h1, _, _, h4⟩⟩ := h.find s
  · simp [Instr.lookup, run_underlying hu, MapKept.run_getObj_map hb, MapKept.run_checkKey hk (key_str s), MapKept.run_findKey hk h1.1, hz, Result.andThen, h1.2.1]
  · simp [Instr.lookup, run_underlying hu, MapKept.run_getObj_map hb, MapKept.run_checkKey hk (key_str s), MapKept.run_findKey hk h1, Result.andThen, h4]
theorem keep_set {o : Obj} : Kept (· = g) w { w with heap := w.heap.setIfInBounds g o } :=
  ⟨rfl, rfl, rfl, by simp, fun j _ hn => by
    show (w.heap.setIfInBounds g o)[j]? = _
    rw [Array.getElem?_setIfInBounds_ne (fun e => hn e.symm)]⟩
theorem SMap.put (h : SMap w g f) (hu : P.underlying mt = some (.map kt et)) (hk : P.underlying kt = some .string) (s : ByteArray) (v : Value) :
    ∃ w', (Instr.mapUpdate mt (.map (some g)) (.string s) v).run P w = .ok () w' ∧ SMap w' g (fun t => if t = s then some v else f t) ∧ Kept (· = g) w w' := by
  obtain ⟨es, clock, hb, hks, hn, hm, ⟨h1, hf, hnew⟩ | ⟨j, e, h1, h2, h3, h4⟩⟩ := h.find s
  · refine ⟨{ w with heap := w.heap.setIfInBounds g (.map (es.push ⟨.string s, v, clock⟩) (clock + 1)) }, ?_, ⟨_, _, (MapKept.heap_set hb).1, ?_, ?_, ?_⟩, keep_set⟩
    · simp [Instr.mapUpdate, run_underlying hu, MapKept.run_getObj_map hb, MapKept.run_checkKey hk (key_str s), MapKept.run_findKey hk h1, MapKept.run_setObj_map _ hb, Result.andThen]
    · intro x hx
      simp only [Array.toList_push, List.mem_append, List.mem_singleton] at hx
      rcases hx with hx | rfl
      · exact hks x hx
      · exact key_str s
    · rw [Array.toList_push, List.map_append]
      refine List.nodup_append.2 ⟨hn, by simp, fun a ha b hb' e => ?_⟩
      obtain ⟨x, hx, rfl⟩ := List.mem_map.1 ha
      simp at hb'
      subst hb'
      exact hnew x hx e
    · intro t u
      show (if t = s then some v else f t) = some u ↔ _
      simp only [Array.toList_push, List.mem_append, List.mem_singleton]
      by_cases e : t = s
      · subst e
        rw [if_pos rfl]
        constructor
        · intro q
          cases q
          exact ⟨_, .inr rfl, rfl, rfl⟩
        · rintro ⟨x, hx | rfl, hxk, hxv⟩
          · exact absurd hxk (hnew x hx)
          · rw [← hxv]
      · rw [if_neg e, hm]
        constructor
        · rintro ⟨x, hx, hxk, hxv⟩
          exact ⟨x, .inl hx, hxk, hxv⟩
        · rintro ⟨x, hx | rfl, hxk, hxv⟩
          · exact ⟨x, hx, hxk, hxv⟩
          · injection hxk with hxk
            exact absurd hxk.symm e
  · have hj : es[j]? = some e := by simpa using h2
    have hkey : ∀ e', es[j]? = some e' → ({ e' with key := .string s, val := v } : MapEntry).key = e'.key := fun e' he' => by rw [hj] at he'; cases he'; exact h3.symm
    have hjl : j < es.size := (Array.getElem?_eq_some_iff.1 hj).1
    refine ⟨{ w with heap := w.heap.setIfInBounds g (.map (es.modify j fun e => { e with key := .string s, val := v }) clock) }, ?_, ⟨_, _, (MapKept.heap_set hb).1, MapKept.isKey_modify hks _ _ hkey, ?_, ?_⟩, keep_set⟩
    · simp [Instr.mapUpdate, run_underlying hu, MapKept.run_getObj_map hb, MapKept.run_checkKey hk (key_str s), MapKept.run_findKey hk h1, hj, h3, MapKept.run_keyThatStays (key_str s), MapKept.run_setObj_map _ hb, Result.andThen]
    · rw [MapKept.modify_keys _ _ hkey]
      exact hn
    · have hat : ∀ i, (es.modify j fun e => { e with key := .string s, val := v }).toList[i]? = if i = j then some ⟨.string s, v, e.born⟩ else es.toList[i]? := fun i => by
        rw [Array.getElem?_toList, Array.getElem?_modify]
        by_cases ei : i = j
        · subst ei; simp [hj]
        · rw [if_neg (fun q => ei q.symm), if_neg ei, Array.getElem?_toList]
      have huni : ∀ i x, es.toList[i]? = some x → x.key = .string s → i = j := fun i x hx hxk => by
        have hi : i < (es.toList.map (·.key)).length := by rw [List.length_map]; exact (List.getElem?_eq_some_iff.1 hx).1
        have hj' : j < (es.toList.map (·.key)).length := by rw [List.length_map]; exact (List.getElem?_eq_some_iff.1 h2).1
        refine (List.getElem_inj hn (h₀ := hi) (h₁ := hj')).1 ?_
        have e1 := (List.getElem?_eq_some_iff.1 hx).2
        have e2 := (List.getElem?_eq_some_iff.1 h2).2
        rw [List.getElem_map, List.getElem_map, e1, e2, hxk, h3]
      intro t u
      show (if t = s then some v else f t) = some u ↔ _
      by_cases et' : t = s
      · subst et'
        rw [if_pos rfl]
        constructor
        · intro q
          cases q
          exact ⟨⟨.string t, v, e.born⟩, List.mem_of_getElem? (i := j) (by rw [hat, if_pos rfl]), rfl, rfl⟩
        · rintro ⟨x, hx, hxk, hxv⟩
          obtain ⟨i, hi⟩ := List.getElem?_of_mem hx
          rw [hat] at hi
          split at hi
          · cases hi
            rw [← hxv]
          · rename_i hne
            exact absurd (huni i x hi hxk) hne
      · rw [if_neg et', hm]
        constructor
        · rintro ⟨x, hx, hxk, hxv⟩
          obtain ⟨i, hi⟩ := List.getElem?_of_mem hx
          have hne : ¬ i = j := fun q => by
            subst q
            rw [h2] at hi
            cases hi
            rw [h3] at hxk
            injection hxk with hxk
            exact et' hxk.symm
          exact ⟨x, List.mem_of_getElem? (i := i) (by rw [hat, if_neg hne]; exact hi), hxk, hxv⟩
        · rintro ⟨x, hx, hxk, hxv⟩
          obtain ⟨i, hi⟩ := List.getElem?_of_mem hx
          rw [hat] at hi
          split at hi
          · cases hi
            injection hxk with hxk
            exact absurd hxk.symm et'
          · exact ⟨x, List.mem_of_getElem? hi, hxk, hxv⟩
theorem SMap.del (h : SMap w g f) (hu : P.underlying mt = some (.map kt et)) (hk : P.underlying kt = some .string) (ty : TypeId) (s : ByteArray) :
    ∃ w', (Builtin.delete_ #[mt, kt] ty #[.map (some g), .string s]).run P w = .ok (.tuple #[]) w' ∧ SMap w' g (fun t => if t = s then none else f t) ∧ Kept (· = g) w w' := by
  obtain ⟨es, clock, hb, hks, hn, hm, ⟨h1, hf, hnew⟩ | ⟨j, e, h1, h2, h3, h4⟩⟩ := h.find s
  · refine ⟨{ w with heap := w.heap.setIfInBounds g (.map es clock) }, ?_, ⟨es, clock, (MapKept.heap_set hb).1, hks, hn, fun t u => ?_⟩, keep_set⟩
    · simp [Builtin.delete_, run_underlying hu, MapKept.run_getObj_map hb, MapKept.run_checkKey hk (key_str s), MapKept.run_findKey hk h1, MapKept.run_setObj_map _ hb, Result.andThen]
    · show (if t = s then none else f t) = some u ↔ _
      by_cases et' : t = s
      · subst et'
        rw [if_pos rfl, ← hf, hm]
      · rw [if_neg et', hm]
  · have hjl : j < es.size := by have := (List.getElem?_eq_some_iff.1 h2).1; simpa using this
    have hel : (es.eraseIdxIfInBounds j).toList = es.toList.eraseIdx j := by
      unfold Array.eraseIdxIfInBounds
      rw [dif_pos hjl, Array.toList_eraseIdx]
    have hsub : (es.toList.eraseIdx j).Sublist es.toList := List.eraseIdx_sublist _ _
    refine ⟨{ w with heap := w.heap.setIfInBounds g (.map (es.eraseIdxIfInBounds j) clock) }, ?_, ⟨_, clock, (MapKept.heap_set hb).1, ?_, ?_, fun t u => ?_⟩, keep_set⟩
    · simp [Builtin.delete_, run_underlying hu, MapKept.run_getObj_map hb, MapKept.run_checkKey hk (key_str s), MapKept.run_findKey hk h1, MapKept.run_setObj_map _ hb, Result.andThen]
    · rw [hel]; exact fun x hx => hks x (hsub.subset hx)
    · rw [hel]; exact (hsub.map _).nodup hn
    · rw [hel]
      have huni : ∀ i x, es.toList[i]? = some x → x.key = .string s → i = j := fun i x hx hxk => by
        have hi : i < (es.toList.map (·.key)).length := by rw [List.length_map]; exact (List.getElem?_eq_some_iff.1 hx).1
        have hj' : j < (es.toList.map (·.key)).length := by rw [List.length_map]; exact (List.getElem?_eq_some_iff.1 h2).1
        refine (List.getElem_inj hn (h₀ := hi) (h₁ := hj')).1 ?_
        have e1 := (List.getElem?_eq_some_iff.1 hx).2
        have e2 := (List.getElem?_eq_some_iff.1 h2).2
        rw [List.getElem_map, List.getElem_map, e1, e2, hxk, h3]
      show (if t = s then none else f t) = some u ↔ _
      by_cases et' : t = s
      · subst et'
        rw [if_pos rfl]
        constructor
        · intro q; cases q
        · rintro ⟨x, hx, hxk, _⟩
          obtain ⟨i, hij, hi⟩ := List.mem_eraseIdx_iff_getElem?.1 hx
          exact absurd (huni i x hi hxk) hij
      · rw [if_neg et', hm]
        constructor
        · rintro ⟨x, hx, hxk, hxv⟩
          obtain ⟨i, hi⟩ := List.getElem?_of_mem hx
          refine ⟨x, List.mem_eraseIdx_iff_getElem?.2 ⟨i, fun q => ?_, hi⟩, hxk, hxv⟩
          subst q
          rw [h2] at hi
          cases hi
          rw [h3] at hxk
          injection hxk with hxk
          exact et' hxk.symm
        · rintro ⟨x, hx, hxk, hxv⟩
          exact ⟨x, hsub.subset hx, hxk, hxv⟩
end
end Go.Proofs.YtfamkemdgbnegaaDoor

/- What speaks of no program in particular: rows of cells, memory of the call's own, appends by their known run, slices that came in. -/
namespace Go.Proofs.YtfamkemdgbnegaaDoor
open Go.RowKit
structure Row (w : World) (b off : Nat) (vs : List Value) : Prop where
  has : has w b off vs.length = true
  get : gets w b off vs.length = vs.toArray
  lt : b < w.heap.size
section
variable {w w' : World} {b off : Nat} {vs : List Value}
theorem Row.inv (h : Row w b off vs) : ∃ c t fr, w.heap[b]? = some (.cells c t fr) ∧ off + vs.length ≤ c.size ∧ (c.toList.drop off).take vs.length = vs := by
  have h1 := h.has
  have h2 := h.get
  unfold Proofs.YtfamkemdgbnegaaDoor.has at h1
  unfold gets at h2
  split at h1
  · rename_i c t fr hq
    rw [hq] at h2
    exact ⟨c, t, fr, hq, of_decide_eq_true h1, by simpa using h2⟩
  · cases h1
theorem Row.kept {S : Nat → Prop} (h : Row w b off vs) (hk : Kept S w w') (hs : ¬ S b) : Row w' b off vs := by
  have hb := hk.block b h.lt hs
  refine ⟨?_, ?_, Nat.lt_of_lt_of_le h.lt hk.size⟩
  · have := h.has; unfold Proofs.YtfamkemdgbnegaaDoor.has at this ⊢; rw [hb]; exact this
  · have := h.get; unfold gets at this ⊢; rw [hb]; exact this
theorem Row.ext (h : Row w b off vs) (hk : Ext w w') : Row w' b off vs := h.kept hk (fun f => f)
theorem Row.sub (h : Row w b off vs) (j m : Nat) (hj : j + m ≤ vs.length) : Proofs.YtfamkemdgbnegaaDoor.has w b (off + j) m = true ∧ gets w b (off + j) m = ((vs.drop j).take m).toArray := by
  obtain ⟨c, t, fr, hq, hle, htk⟩ := h.inv
  unfold Proofs.YtfamkemdgbnegaaDoor.has gets
  rw [hq]
  refine ⟨by simp; omega, ?_⟩
  show ((c.toList.drop (off + j)).take m).toArray = _
  rw [← htk, List.drop_take, List.take_take, List.drop_drop, Nat.min_eq_left (by omega)]
theorem Row.cell (h : Row w b off vs) (i : Nat) (hi : i < vs.length) : w.cell? ⟨b, off + i, none⟩ = vs[i]? := by
  obtain ⟨c, t, fr, hq, hle, htk⟩ := h.inv
  rw [cell_of_row w b (off + i) c t fr hq, ← htk, List.getElem?_take, if_pos hi, List.getElem?_drop]
  simp
theorem Row.of_blk {t : TypeId} {cs : Array Value} (h : Blk w b t cs) : Row w b 0 cs.toList := by
  refine ⟨by rw [Blk.has h]; simp, ?_, Blk.lt h⟩
  rw [Blk.gets h]
  simp [List.take_of_length_le]
end
theorem ret_ci {P : Program} {fn : Func} {R : Ending → World → Prop} {a : Act} {w : World} {p j : Tmp} {ty t : TypeId} {g : Nat} {cs : Array Value}
    (hres : fn.results = #[.cell p ty, .tmp j]) (hd : a.defers = []) (hp : a.tmps.getD p undef = .pointer (some ⟨g, 0, none⟩)) (ha : aggT P ty = true) (hs : sizeT P ty = some cs.size) (hb : Blk w g t cs)
    (hR : R (.returned (.tuple #[.agg cs, a.tmps.getD j undef])) w) : bodyPost P fn R .ret a w := by
  have hp' : a.tmps[p]?.getD undef = .pointer (some ⟨g, 0, none⟩) := by simpa using hp
  exact bodyPost_ret (by simp [results, hres, hp', asAddr, run_loadVar_blk ha hs hb]) hd hR
theorem ret_bool {a b : Bool} (h : a = b) : Ending.returned (.bool a) = .returned (.bool b) := by rw [h]
theorem w3_app {P : Program} {ops : Array Oper} {Q : Exit → Act → World → Prop} {S : World → Prop} {od : List (Nat × Nat)} {k : Nat} {l : List Oper} {r : List (Nat × Nat)} {a : Act} {w : World} {o : Oper} (hgd : o.guard = none) (x y : Operand) (T : TypeId)
    (ho : o.op = .call { callee := .builtin .append, args := #[x, y], argTypes := #[T, T] }) {ty : TypeId} (hty : o.type = ty) {v s v' : Value} {w' : World} (hx : a.eval x = v) (hy : a.eval y = s)
    (hrun : (Builtin.append_ #[T, T] ty #[v, s]).run P w = .ok v' w') (hS : S w → S w') (h : wpOp3 P ops Q S od r l (a.put o.dst v') w') : wpOp3 P ops Q S od ((k, 0) :: r) (o :: l) a w := by
  have hw : Region.wanted o (yielded ops a.tmps) = true := by simp [Region.wanted, hgd]
  unfold wpOp3
  rw [if_pos hw]
  refine .inl ?_
  subst hty
  unfold Oper.wp execOp
  simp only [ho, resolve, invoke, builtin, Sem.run_bind, Sem.run_pure, Result.andThen_ok, List.map_toArray, List.map_cons, List.map_nil, hx, hy, hrun]
  exact ⟨.inr hS, h⟩
theorem own_ext {w w' : World} {base : Nat} {E : TypeId} {sz : Nat} {v : Value} {n : Nat} {xs : List Value} (h : w.ownsRow base E sz v n xs) (hk : Ext w w') : w'.ownsRow base E sz v n xs :=
  h.kept (row := none) ⟨hk.os, hk.tape, hk.output, hk.size, fun k hl _ => hk.block k hl (fun f => f)⟩ (by cases hv : v.ownBlock <;> simp)
theorem own_mono {w : World} {b b' : Nat} {E : TypeId} {sz : Nat} {v : Value} {n : Nat} {xs : List Value} (h : w.ownsRow b' E sz v n xs) (hb : b ≤ b') : w.ownsRow b E sz v n xs := by
  refine ⟨h.1, ?_⟩
  rcases h.2 with h1 | ⟨g, c, cur, hv, hg, r⟩
  · exact .inl h1
  · exact .inr ⟨g, c, cur, hv, Nat.le_trans hb hg, r⟩
theorem own_kept {S : Nat → Prop} {w w' : World} {base : Nat} {E : TypeId} {sz : Nat} {v : Value} {n : Nat} {xs : List Value} (h : w.ownsRow base E sz v n xs) (hk : Kept S w w') (hs : ∀ g, v.ownBlock = some g → ¬ S g) : w'.ownsRow base E sz v n xs := by
  refine ⟨h.1, ?_⟩
  rcases h.2 with h1 | ⟨g, c, cur, hv, hg, hc, r⟩
  · exact .inl h1
  · refine .inr ⟨g, c, cur, hv, hg, ?_, r⟩
    rw [hk.block g (Array.getElem?_eq_some_iff.1 hc).1 (hs g (by rw [hv]; rfl))]
    exact hc
theorem own_ty {w : World} {base : Nat} {E : TypeId} {sz : Nat} {v : Value} {n : Nat} {xs : List Value} (h : w.ownsRow base E sz v n xs) {i : Nat} (hi : v.ownBlock = some i) : ∃ cur, w.heap[i]? = some (.cells cur E (0, 0)) := by
  rcases h.2 with ⟨hv, _⟩ | ⟨g, c, cur, hv, _, hc, _⟩
  · rw [hv] at hi; simp [Value.ownBlock] at hi
  · rw [hv] at hi
    simp [Value.ownBlock] at hi
    subst hi
    exact ⟨cur, hc⟩
theorem own_other {w : World} {base : Nat} {E E' : TypeId} {sz : Nat} {v : Value} {n : Nat} {xs : List Value} (h : w.ownsRow base E sz v n xs) (hE : ¬ E = E') : ∀ i, v.ownBlock = some i → ∀ cur fr, ¬ w.heap[i]? = some (.cells cur E' fr) := fun i hi cur fr e => by
  obtain ⟨cur', e'⟩ := own_ty h hi
  rw [e] at e'
  injection e' with e'
  injection e' with _ e' _
  exact hE e'.symm
theorem own_new (w : World) (E : TypeId) (sz : Nat) : (w.alloc (.cells #[] E)).ownsRow w.heap.size E sz (.slice (some ⟨w.heap.size, 0, none⟩) 0 0) 0 [] :=
  ⟨by simp, .inr ⟨w.heap.size, 0, #[], rfl, Nat.le_refl _, heap_alloc_new w _, Nat.le_refl _, by simp, by simp, by simp⟩⟩
theorem Kept.of_grown {w w' : World} {row : Option Nat} (h : w.grownBy w' row) : Kept (fun i => row = some i) w w' :=
  ⟨h.os, h.tape, h.output, h.size, fun k hk hn => h.block k hk (fun e => hn e.symm)⟩
theorem addr_add' (b off j : Nat) : (⟨b, off, none⟩ : Addr).add j = ⟨b, off + j, none⟩ := by unfold Addr.add; split <;> simp_all
theorem Row.cells {w : World} {b off : Nat} {vs : List Value} (h : Row w b off vs) : ∀ j u, vs[j]? = some u → w.cell? ((⟨b, off, none⟩ : Addr).add j) = some u := fun j u hu => by
  rw [addr_add', h.cell j (List.getElem?_eq_some_iff.1 hu).1, hu]
theorem app_some {P : Program} {T E : TypeId} {i : TypeInfo} {z : Value} {sz bytes : Nat} (ht : P.underlying T = some (.slice E)) (hi : P.info? E = some i) (hz : i.zero = some z) (h1 : i.size = sz) (h2 : i.bytes = bytes) (h3 : z.cells.size = sz) (h4 : 0 < sz)
    (w : World) (base : Nat) (v : Value) (n : Nat) (xs : List Value) (hown : w.ownsRow base E sz v n xs) (b off m c : Nat) (ys : List Value) (hl : ys.length = m * sz) (hr : Row w b off ys) (hf : flatL ys = true) (hn : n + m ≤ maxLen) (hb : (n + m) * bytes ≤ 140737488355328) (hbase : base ≤ w.heap.size) :
    ∃ v' w', (Builtin.append_ #[T, T] T #[v, .slice (some ⟨b, off, none⟩) m c]).run P w = .ok v' w' ∧ w'.ownsRow base E sz v' (n + m) (xs ++ ys) ∧ Kept (fun i => v.ownBlock = some i) w w' := by
  obtain ⟨v', w', hrun, ho, hg, _⟩ := run_append_own (P := P) w base T T E i z sz bytes ht hi hz h1 h2 h3 h4 v n xs hown ⟨b, off, none⟩ m c ys hl hr.cells (flatL_all hf) hn hb hbase
  exact ⟨v', w', hrun, ho, Kept.of_grown hg⟩
theorem wpList_app {P : Program} {w : World} {ops : Array Oper} {rest : List Oper} {o : Oper} {a : Act} {Q : Exit → Act → World → Prop} (hgd : o.guard = none) (x y : Operand) (T : TypeId)
    (ho : o.op = .call { callee := .builtin .append, args := #[x, y], argTypes := #[T, T] }) {ty : TypeId} (hty : o.type = ty) {v s v' : Value} {w' : World} (hx : a.eval x = v) (hy : a.eval y = s)
    (hrun : (Builtin.append_ #[T, T] ty #[v, s]).run P w = .ok v' w') (h : wpList P ops Q rest (a.put o.dst v') w') : wpList P ops Q (o :: rest) a w :=
  wpList_plain hgd fun _ hK => by
    subst hty
    unfold Oper.wp execOp
    simp only [ho, resolve, invoke, builtin, Sem.run_bind, Sem.run_pure, Result.andThen_ok, List.map_toArray, List.map_cons, List.map_nil, hx, hy, hrun]
    exact hK _ _ h
theorem wpList_make {P : Program} {w : World} {ops : Array Oper} {rest : List Oper} {o : Oper} {a : Act} {Q : Exit → Act → World → Prop} (hgd : o.guard = none) (x y : Operand) (T : TypeId)
    (ho : o.op = .makeSlice T x y) {v s v' : Value} {w' : World} (hx : a.eval x = v) (hy : a.eval y = s)
    (hrun : (Instr.makeSlice T v s).run P w = .ok v' w') (h : wpList P ops Q rest (a.put o.dst v') w') : wpList P ops Q (o :: rest) a w :=
  wpList_plain hgd fun _ hK => by
    unfold Oper.wp execOp
    simp only [ho, Sem.run_bind, Sem.run_pure, Result.andThen_ok, hx, hy, hrun]
    exact hK _ _ h
theorem iff_want {c : Bool} {p q : Prop} (hc : c = true) (h : p) : if c = true then p else q := by rw [if_pos hc]; exact h
theorem has_ext {w w1 : World} {g o n : Nat} (hS : Ext w w1) (hg : g < w.heap.size) (h : Proofs.YtfamkemdgbnegaaDoor.has w g o n = true) : Proofs.YtfamkemdgbnegaaDoor.has w1 g o n = true := by
  unfold Proofs.YtfamkemdgbnegaaDoor.has at h ⊢
  rw [hS.block g hg (fun f => f)]
  exact h
theorem gets_ext {w w1 : World} {g o n : Nat} {c : Array Value} (hS : Ext w w1) (hg : g < w.heap.size) (h : gets w g o n = c) : gets w1 g o n = c := by
  unfold gets at h ⊢
  rw [hS.block g hg (fun f => f)]
  exact h
theorem own_rows {w : World} {base : Nat} {E : TypeId} {sz : Nat} {v : Value} {n : Nat} {xs : List Value} (h : w.ownsRow base E sz v n xs) (h0 : 0 < n) (hz : 0 < sz) : ∃ g c, v = .slice (some ⟨g, 0, none⟩) n c ∧ Row w g 0 xs ∧ base ≤ g ∧ (∃ cur, w.heap[g]? = some (.cells cur E (0, 0))) := by
  have hl := h.1
  rcases h.2 with ⟨hv, e0⟩ | ⟨g, c, cur, hv, hb, hc, hnc, hcm, hcs, htk⟩
  · subst e0
    have := Nat.mul_pos h0 hz
    simp at hl
    omega
  · refine ⟨g, c, hv, ⟨?_, ?_, (Array.getElem?_eq_some_iff.1 hc).1⟩, hb, cur, hc⟩
    · unfold has; rw [hc, hl]; simp only [Nat.zero_add, decide_eq_true_eq]; rw [hcs]; exact Nat.mul_le_mul_right _ hnc
    · unfold gets; rw [hc, hl]; simp only [List.drop_zero]; rw [htk]
def i64ok (n : Int) : Prop := -9223372036854775808 ≤ n ∧ n ≤ 9223372036854775807
theorem i64_of {n : Int} (h : Lit.wf (.int .i64 n) = true) : i64ok n := by
  simpa [Lit.wf, IntKind.min, IntKind.max, IntKind.signed, IntKind.bits, i64ok] using h
theorem results_none' {P : Program} {fn : Func} {R : Ending → World → Prop} {a : Act} {w : World} (hres : fn.results = #[]) (hd : a.defers = []) (hR : R (.returned (.tuple #[])) w) : bodyPost P fn R .ret a w :=
  bodyPost_ret (results_none hres _ _ _) hd hR
open Go.Deep Go.ChangeShapes Go.WideShapes
theorem oaddr_add (b off j : Nat) : (⟨b, off, none⟩ : Addr).add j = ⟨b, off + j, none⟩ := by unfold Addr.add; split <;> simp_all
theorem ospot_of_cell {w : World} {a : Addr} {v : Value} (h : w.cell? a = some v) : a.spot = none := by
  unfold World.cell? at h
  split at h
  · split at h
    · cases h
    · rename_i hn; cases hs : a.spot with
      | none => rfl
      | some x => simp [hs] at hn
  · cases h
theorem row_of_cells {w : World} {b o : Nat} (vs : List Value) (hne : 0 < vs.length) (h : ∀ j, j < vs.length → w.cell? ⟨b, o + j, none⟩ = vs[j]?) : Row w b o vs := by
  have h0 := h 0 hne
  cases hq : w.heap[b]? with
  | none => simp [World.cell?, hq, List.getElem?_eq_getElem hne] at h0
  | some ob =>
    cases ob with
    | cells c t fr =>
      have hc : ∀ j, j < vs.length → c[o + j]? = vs[j]? := fun j hj => by have := h j hj; simpa [World.cell?, hq] using this
      have hlast := hc (vs.length - 1) (by omega)
      have hlt : o + (vs.length - 1) < c.size := by
        rw [List.getElem?_eq_getElem (by omega)] at hlast
        exact (Array.getElem?_eq_some_iff.1 hlast).1
      refine ⟨by unfold Proofs.YtfamkemdgbnegaaDoor.has; rw [hq]; simp; omega, ?_, (Array.getElem?_eq_some_iff.1 hq).1⟩
      unfold gets
      rw [hq]
      show ((c.toList.drop o).take vs.length).toArray = vs.toArray
      congr 1
      apply List.ext_getElem?
      intro j
      rw [List.getElem?_take]
      split
      · rename_i hj
        rw [List.getElem?_drop, ← hc j hj]; simp
      · rename_i hj
        rw [List.getElem?_eq_none (by omega)]
    | _ => simp [World.cell?, hq, List.getElem?_eq_getElem hne] at h0
theorem flatten_get {sz : Nat} (hsz : 0 < sz) : ∀ (css : List (List Value)) (_ : ∀ cs ∈ css, cs.length = sz) (k : Nat), css.flatten[k]? = (css.getD (k / sz) [])[k % sz]?
  | [], _, k => by simp
  | c :: r, h, k => by
    have hc := h c (by simp)
    have ih := flatten_get hsz r (fun cs hcs => h cs (by simp [hcs]))
    rw [List.flatten_cons]
    by_cases hk : k < sz
    · rw [List.getElem?_append_left (by omega), Nat.div_eq_of_lt hk, Nat.mod_eq_of_lt hk]
      simp
    · rw [List.getElem?_append_right (by omega), hc, ih (k - sz)]
      have e1 : k / sz = (k - sz) / sz + 1 := by rw [Nat.div_eq k sz, if_pos ⟨hsz, by omega⟩]
      have e2 : k % sz = (k - sz) % sz := by rw [Nat.mod_eq k sz, if_pos ⟨hsz, by omega⟩]
      rw [e1, e2]
      simp
theorem flatten_len {sz : Nat} : ∀ (css : List (List Value)) (_ : ∀ cs ∈ css, cs.length = sz), css.flatten.length = css.length * sz
  | [], _ => by simp
  | c :: r, h => by
    have hc := h c (by simp)
    have ih := flatten_len r (fun cs hcs => h cs (by simp [hcs]))
    rw [List.flatten_cons, List.length_append, ih, hc, List.length_cons, Nat.succ_mul]
    omega
/-- values of many cells, one behind the other -/
def rowsL {α : Type} (f : α → Array Value) (l : List α) : List Value := l.flatMap fun d => (f d).toList
section
variable {α : Type} {f : α → Array Value} {k : Nat}
theorem rowsL_len (hf : ∀ d, (f d).size = k) (l : List α) : (rowsL f l).length = l.length * k := by
  induction l with
  | nil => simp [rowsL]
  | cons d l ih =>
    show ((f d).toList ++ rowsL f l).length = _
    rw [List.length_append, ih, Array.length_toList, hf, List.length_cons, Nat.succ_mul]
    omega
theorem rowsL_at (hf : ∀ d, (f d).size = k) : ∀ (l : List α) (j : Nat) (hj : j < l.length), ((rowsL f l).drop (j * k)).take k = (f l[j]).toList
  | d :: l, 0, _ => by
    show (((f d).toList ++ rowsL f l).drop (0 * k)).take k = _
    rw [Nat.zero_mul, List.drop_zero, List.take_append, List.take_of_length_le (by rw [Array.length_toList, hf]; exact Nat.le_refl _), Array.length_toList, hf]
    simp
  | d :: l, j + 1, hj => by
    have ih := rowsL_at hf l j (by simpa using hj)
    show (((f d).toList ++ rowsL f l).drop ((j + 1) * k)).take k = _
    have hl : (f d).toList.length = k := by rw [Array.length_toList, hf]
    rw [Nat.succ_mul, Nat.add_comm, ← hl, List.drop_append, List.drop_of_length_le (l := (f d).toList) (by omega)]
    simp only [Nat.add_sub_cancel_left, List.nil_append]
    rw [hl]
    exact ih
theorem rowsL_row (hf : ∀ d, (f d).size = k) {w : World} {b off : Nat} {l : List α} (h : Row w b off (rowsL f l)) (j : Nat) (hj : j < l.length) : Proofs.YtfamkemdgbnegaaDoor.has w b (off + j * k) k = true ∧ gets w b (off + j * k) k = f l[j] := by
  have := h.sub (j * k) k (by rw [rowsL_len hf]; calc
    j * k + k = (j + 1) * k := by rw [Nat.succ_mul]
    _ ≤ l.length * k := Nat.mul_le_mul_right _ hj)
  rw [rowsL_at hf l j hj] at this
  exact this
theorem flatL_app : ∀ (a b : List Value), flatL (a ++ b) = (flatL a && flatL b)
  | [], b => by simp [flatL]
  | x :: a, b => by simp [flatL, flatL_app a b, Bool.and_assoc]
theorem rowsL_flat (hf : ∀ d, flatL (f d).toList = true) (l : List α) : flatL (rowsL f l) = true := by
  induction l with
  | nil => rfl
  | cons d l ih => show flatL ((f d).toList ++ rowsL f l) = true; rw [flatL_app, hf, ih]; rfl
theorem rowsL_app (l q : List α) : rowsL f l ++ rowsL f q = rowsL f (l ++ q) := by simp [rowsL]
theorem rowsL_one (d : α) : rowsL f [d] = (f d).toList := by simp [rowsL]
end
/-- what lies in memory, and what each says -/
inductive AllV {α β : Type} (V : World → α → β → Prop) (w : World) : List α → List β → Prop where
  | nil : AllV V w [] []
  | cons {a : α} {b : β} {xs : List α} {ys : List β} : V w a b → AllV V w xs ys → AllV V w (a :: xs) (b :: ys)
section
variable {α β : Type} {V : World → α → β → Prop} {w w' : World}
theorem AllV.mono (h : ∀ a b, V w a b → V w' a b) : ∀ {xs : List α} {ys : List β}, AllV V w xs ys → AllV V w' xs ys
  | _, _, .nil => .nil
  | _, _, .cons x r => .cons (h _ _ x) (r.mono h)
theorem AllV.len : ∀ {xs : List α} {ys : List β}, AllV V w xs ys → xs.length = ys.length
  | _, _, .nil => rfl
  | _, _, .cons _ r => by simp [r.len]
theorem AllV.snoc {a : α} {b : β} (h : V w a b) : ∀ {xs : List α} {ys : List β}, AllV V w xs ys → AllV V w (xs ++ [a]) (ys ++ [b])
  | _, _, .nil => .cons h .nil
  | _, _, .cons x r => .cons x (r.snoc h)
theorem AllV.get : ∀ {xs : List α} {ys : List β} (_ : AllV V w xs ys) (j : Nat) (h1 : j < xs.length) (h2 : j < ys.length), V w xs[j] ys[j]
  | _, _, .cons x _, 0, _, _ => x
  | _, _, .cons _ r, j + 1, h1, h2 => r.get j (by simpa using h1) (by simpa using h2)
end
section
variable {H : Type} {enc : TypeId × Value → H} {P : Program} {w : World} {base : Nat} {spare : Nat → Bool} {held : Bool}
theorem open_rows {T E : TypeId} {sz fuel : Nat} {v : Value} {x : DataW H × List MemPlace} (hu : P.underlying T = some (.slice E)) (hsz : P.cellsOf E = sz) (hpos : 0 < sz) (h : DataW.trod enc P w base spare held fuel T [v] = some x) :
    ∃ (A : Option Addr) (b off len cap : Nat) (css : List (List Value)), v = .slice A len cap ∧ (0 < len → A = some ⟨b, off, none⟩) ∧ css.length = len ∧ (0 < len → Row w b off css.flatten) ∧
      (∀ cs ∈ css, cs.length = sz ∧ ∃ n y, DataW.trod enc P w base spare held n E cs = some y) ∧ len ≤ cap ∧ cap ≤ maxLen := by
  rcases open_slice hu h with ⟨hcs, _⟩ | ⟨a, len, cap, m, n, D', Pl, hcs, _, hl, hm, hmm, _, hi⟩
  · simp at hcs
    exact ⟨none, 0, 0, 0, 0, [], hcs, fun h => by omega, rfl, fun h => by omega, fun _ h => by simp at h, by omega, by simp [maxLen]⟩
  · simp at hcs
    have hlm : len ≤ m := by rw [hmm]; split <;> omega
    rw [hsz] at hi
    have hch : ∀ i, ∃ cs, i < len → cs.length = sz ∧ (∃ n y, DataW.trod enc P w base spare held n E cs = some y) ∧ ∀ j, j < sz → w.cell? ((a.add (i * sz)).add j) = cs[j]? := fun i => by
      by_cases hil : i < len
      · obtain ⟨cs, hc, ht⟩ := hi i (by omega)
        obtain ⟨_, hcl, hat⟩ := World.cells?_some hc
        exact ⟨cs, fun _ => ⟨hcl, ⟨_, _, ht⟩, hat⟩⟩
      · exact ⟨[], fun h => absurd h hil⟩
    obtain ⟨C, hC⟩ := Classical.axiomOfChoice hch
    have hsp : 0 < len → a = ⟨a.block, a.off, none⟩ := fun h0 => by
      obtain ⟨hcl, _, hat⟩ := hC 0 h0
      have h0' := hat 0 hpos
      rw [List.getElem?_eq_getElem (by omega)] at h0'
      have e : (a.add (0 * sz)).add 0 = a := by simp [Addr.add]
      rw [e] at h0'
      have := ospot_of_cell h0'
      cases a; simp_all
    have hlen : ∀ cs ∈ (List.range len).map C, cs.length = sz := fun cs hcs => by
      simp at hcs
      obtain ⟨i, hil, rfl⟩ := hcs
      exact (hC i hil).1
    refine ⟨some a, a.block, a.off, len, cap, (List.range len).map C, hcs, fun h => by rw [← hsp h], by simp, fun h0 => ?_, fun cs hcs => ⟨hlen cs hcs, ?_⟩, hl, hm⟩
    · have hfl := flatten_len _ hlen
      rw [List.length_map, List.length_range] at hfl
      refine row_of_cells _ (by rw [hfl]; exact Nat.mul_pos h0 hpos) (fun j hj => ?_)
      rw [hfl] at hj
      rw [flatten_get hpos _ hlen]
      have hq : j / sz < len := Nat.div_lt_of_lt_mul (by rw [Nat.mul_comm]; exact hj)
      have hr := (hC (j / sz) hq).2.2 (j % sz) (Nat.mod_lt _ hpos)
      rw [hsp h0, oaddr_add, oaddr_add, Nat.add_assoc] at hr
      rw [show j / sz * sz + j % sz = j by rw [Nat.mul_comm]; exact Nat.div_add_mod j sz] at hr
      rw [hr]
      simp [hq]
    · simp at hcs
      obtain ⟨i, hil, rfl⟩ := hcs
      exact (hC i hil).2.1
end
end Go.Proofs.YtfamkemdgbnegaaDoor

/- Sorts, in plain Lean: programs as trees, what Check answers of them, and the laws; no program in sight. -/
namespace Go.Proofs.YtfamkemdgbnegaaDoor.So
abbrev Str := ByteArray
inductive EF | nil | cons (op n : Int) (name : Str) (kids rest : EF)
inductive SF | nil | cons (kind : Int) (name : Str) (e : EF) (low high : Int) (l els rest : SF)
structure Vr where (name : Str) (size low high : Int)
structure Pr where (name : Str) (seats : Int) (stakes : List Int) (vars : List Vr) (start turn : SF) (params : List Vr) (play : SF) (silent : Str) (quiet pays : SF)
structure Flt where (e : Int) (name : Str)
def EF.len : EF → Nat | .nil => 0 | .cons _ _ _ _ r => r.len + 1
def SF.len : SF → Nat | .nil => 0 | .cons _ _ _ _ _ _ _ r => r.len + 1
abbrev w64 (x : Int) : Int := Go.RowKit.wrap64 x
theorem w64_def (x : Int) : w64 x = (x + 9223372036854775808) % 18446744073709551616 - 9223372036854775808 := by unfold w64 Go.RowKit.wrap64; rfl
def EF.deep : EF → Int | .nil => 0 | .cons _ _ _ k r => max (w64 (1 + k.deep)) r.deep
def EF.size : EF → Nat | .nil => 0 | .cons _ _ _ k r => 1 + k.size + r.size
def SF.size : SF → Nat | .nil => 0 | .cons _ _ e _ _ l x r => 1 + e.size + l.size + x.size + r.size
def word (n : Int) : Bool := decide (-2147483648 ≤ n) && decide (n ≤ 2147483647)
def btw (n a b : Int) : Bool := decide (a ≤ n) && decide (n ≤ b)
def exprParts (op : Int) : Nat := if op < 2 then 0 else if op < 5 then 1 else 2
def stmtParts (k : Int) : Nat := if k = 1 ∨ k = 8 then 2 else if k = 3 ∨ k = 4 ∨ k = 5 ∨ k = 7 then 0 else 1
/-- what is known of names: 0 nothing, 1 plain, 2 a list, 3 never assigned -/
abbrev Kn := Str → Nat
def upd (κ : Kn) (s : Str) (v : Nat) : Kn := fun t => if t = s then v else κ t
def updAll (κ : Kn) (l : List Str) : Kn := fun t => if l.any (fun s => decide (s = t)) then 3 else κ t
def ored (a : Option Flt) (b : Option Flt) : Option Flt := match a with | some f => some f | none => b
@[simp] theorem ored_none (b : Option Flt) : ored none b = b := rfl
@[simp] theorem ored_some (f : Flt) (b : Option Flt) : ored (some f) b = some f := rfl
@[simp] theorem ored_right (a : Option Flt) : ored a none = a := by cases a <;> rfl
theorem ored_eq_none {a b : Option Flt} : ored a b = none ↔ a = none ∧ b = none := by cases a <;> simp
theorem ored_assoc (a b c : Option Flt) : ored (ored a b) c = ored a (ored b c) := by cases a <;> rfl
def must (ok : Bool) (e : Int) (s : Str) : Option Flt := if ok then none else some ⟨e, s⟩
@[simp] theorem must_true (e : Int) (s : Str) : must true e s = none := rfl
@[simp] theorem must_false (e : Int) (s : Str) : must false e s = some ⟨e, s⟩ := rfl
theorem must_none {ok : Bool} {e : Int} {s : Str} : must ok e s = none ↔ ok = true := by cases ok <;> simp
def E0 : Str := ⟨#[]⟩
def head1 (κ : Kn) (op n : Int) (name : Str) (k : Nat) : Option Flt :=
  ored (must (btw op 0 17 && k == exprParts op) 3 E0) <|
  if op = 0 then must (word n) 2 E0
  else if op = 1 ∨ op = 2 then ored (must (κ name != 0) 6 name) (must ((κ name == 2) == (op == 2)) 11 name)
  else none
def chkE (κ : Kn) : EF → Option Flt
  | .nil => none
  | .cons op n name k r => ored (ored (head1 κ op n name k.len) (chkE κ k)) (chkE κ r)
def chkD (κ : Kn) : EF → Option Flt
  | .nil => none
  | .cons op n name k r => ored (ored (must (decide (w64 (1 + k.deep) ≤ 12)) 25 E0) (ored (head1 κ op n name k.len) (chkE κ k))) (chkD κ r)
def stands (kind : Int) (part : Nat) (last : Bool) : Bool :=
  if kind = 4 ∨ kind = 5 then part == 2 else if kind = 6 ∨ kind = 7 then part == 1 else if kind = 8 then part == 4 else if kind = 9 then part == 4 && last else true
def letter (c : UInt8) : Bool := (decide (97 ≤ c) && decide (c ≤ 122)) || (decide (65 ≤ c) && decide (c ≤ 90))
def digit (c : UInt8) : Bool := decide (48 ≤ c) && decide (c ≤ 57)
def inner (c : UInt8) : Bool := letter c || digit c || c == 95
def words : List Str := [⟨#[103, 97, 109, 101]⟩, ⟨#[115, 101, 97, 116, 115]⟩, ⟨#[115, 116, 97, 107, 101]⟩, ⟨#[118, 97, 114]⟩, ⟨#[115, 116, 97, 114, 116]⟩, ⟨#[116, 117, 114, 110]⟩, ⟨#[112, 108, 97, 121]⟩, ⟨#[115, 105, 108, 101, 110, 116]⟩, ⟨#[112, 97, 121]⟩, ⟨#[101, 110, 100]⟩, ⟨#[105, 102]⟩, ⟨#[116, 104, 101, 110]⟩, ⟨#[101, 108, 115, 101]⟩, ⟨#[102, 111, 114]⟩, ⟨#[100, 111]⟩, ⟨#[114, 101, 102, 117, 115, 101]⟩, ⟨#[114, 111, 108, 108]⟩, ⟨#[115, 101, 97, 116]⟩, ⟨#[111, 118, 101, 114]⟩, ⟨#[114, 101, 115, 116]⟩, ⟨#[97, 110, 100]⟩, ⟨#[111, 114]⟩, ⟨#[110, 111, 116]⟩]
def isName (s : Str) : Bool := decide (0 < s.size) && letter (s.data.getD 0 0) && s.data.toList.all inner && decide (s.size ≤ 30) && !(words.any (fun t => decide (t = s)))
def target (κ : Kn) (kind : Int) (name : Str) (low : Int) : Option Flt :=
  ored (must (κ name != 0) 6 name) <| ored (must (κ name == (if kind = 1 then 2 else 1)) 11 name) <|
  if kind = 5 then must (btw low 2 1000) 2 name else none
def loop (κ : Kn) (name : Str) (low high : Int) (fors : Nat) : Option Flt :=
  ored (must (isName name) 6 name) <| ored (must (κ name == 0) 7 name) <| ored (must (word low && word high && decide (high - low ≤ 63)) 2 name) (must (decide (fors < 8)) 25 name)
def named (κ : Kn) (kind : Int) (name : Str) (low high : Int) (fors : Nat) : Option Flt :=
  if kind = 0 ∨ kind = 1 ∨ kind = 5 then target κ kind name low else if kind = 3 then loop κ name low high fors else none
def sStart : Str := ⟨#[115, 116, 97, 114, 116]⟩
def sTurn : Str := ⟨#[116, 117, 114, 110]⟩
def sPlay : Str := ⟨#[112, 108, 97, 121]⟩
def sSilent : Str := ⟨#[115, 105, 108, 101, 110, 116]⟩
def sPay : Str := ⟨#[112, 97, 121]⟩
def sSeats : Str := ⟨#[115, 101, 97, 116, 115]⟩
def sStake : Str := ⟨#[115, 116, 97, 107, 101]⟩
def sVar : Str := ⟨#[118, 97, 114]⟩
def sIf : Str := ⟨#[105, 102]⟩
def sUnknown : Str := ⟨#[117, 110, 107, 110, 111, 119, 110]⟩
def sInner : Str := ⟨#[105, 110, 110, 101, 114]⟩
def partName : Nat → Str | 0 => sStart | 1 => sTurn | 2 => sPlay | 3 => sSilent | _ => sPay
def SF.isNil : SF → Bool | .nil => true | _ => false
def chkB (part : Nat) : Kn → Nat → Bool → SF → Option Flt
  | _, _, _, .nil => none
  | κ, fors, top, .cons kind name e low high l els r =>
    ored (ored (must (btw kind 0 9 && e.len == stmtParts kind) 3 E0) <|
      ored (must (stands kind part (top && r.isNil)) 10 (partName part)) <|
      ored (named κ kind name low high fors) <|
      ored (chkD κ e) <|
      if kind = 2 then ored (chkB part κ fors false l) (chkB part κ fors false els)
      else if kind = 3 then chkB part (upd κ name 3) (fors + 1) false l
      else none) (chkB part κ fors top r)
def chkS (part : Nat) (κ : Kn) (fors : Nat) (last : Bool) (kind : Int) (name : Str) (e : EF) (low high : Int) (l els : SF) : Option Flt :=
    ored (must (btw kind 0 9 && e.len == stmtParts kind) 3 E0) <|
      ored (must (stands kind part last) 10 (partName part)) <|
      ored (named κ kind name low high fors) <|
      ored (chkD κ e) <|
      if kind = 2 then ored (chkB part κ fors false l) (chkB part κ fors false els)
      else if kind = 3 then chkB part (upd κ name 3) (fors + 1) false l
      else none
theorem chkB_cons (part : Nat) (κ : Kn) (fors : Nat) (top : Bool) (kind : Int) (name : Str) (e : EF) (low high : Int) (l els r : SF) :
    chkB part κ fors top (.cons kind name e low high l els r) = ored (chkS part κ fors (top && r.isNil) kind name e low high l els) (chkB part κ fors top r) := by
  rw [chkB]; rfl
def ends : SF → Bool
  | .nil => false
  | .cons kind _ _ _ _ l els r => (kind == 6 || kind == 7 || (kind == 2 && ends l && ends els)) || ends r
def restLast : SF → Bool
  | .nil => false
  | .cons kind _ _ _ _ _ _ .nil => kind == 9
  | .cons _ _ _ _ _ _ _ r => restLast r
def cellsV (v : Vr) : Int := if 1 ≤ v.size ∧ v.size ≤ 64 then v.size else 1
def cells : List Vr → Int | [] => 0 | v :: r => cellsV v + cells r
def span (v : Vr) : Bool := word v.low && word v.high && decide (v.low ≤ v.high)
def knV (l : List Vr) : Kn := fun t => match l.find? (fun v => decide (v.name = t)) with | none => 0 | some v => if 0 < v.size then 2 else 1
def chkVars : List Vr → List Vr → Option Flt
  | _, [] => none
  | pre, v :: r => ored (must (isName v.name) 6 v.name) <| ored (must (knV pre v.name == 0) 7 v.name) <| ored (must (btw v.size 0 64 && span v) 2 v.name) (chkVars (pre ++ [v]) r)
def chkPars (κ : Kn) : List Vr → List Vr → Option Flt
  | _, [] => none
  | pre, v :: r => ored (must (isName v.name) 6 v.name) <| ored (must (κ v.name == 0 && !(pre.any (fun u => decide (u.name = v.name)))) 7 v.name) <| ored (must (v.size == 0) 3 v.name) <| ored (must (span v) 2 v.name) (chkPars κ (pre ++ [v]) r)
def menuF : Int → List Vr → Int | n, [] => n | n, v :: r => menuF (min (n * (min (v.high - v.low) 512 + 1)) 513) r
def menu (l : List Vr) : Int := if l.any (fun v => decide (v.high < v.low)) then 0 else menuF 1 l
def chkHead (p : Pr) : Option Flt :=
  ored (must (isName p.name) 6 p.name) <| ored (must (btw p.seats 2 8) 2 sSeats) <| ored (must ((p.stakes.length : Int) == p.seats) 3 sStake) (must (p.stakes.all (fun n => btw n 1 2147483647)) 2 sStake)
def psize (p : Pr) : Nat := p.vars.length + p.params.length + p.start.size + p.turn.size + p.play.size + p.quiet.size + p.pays.size
def partOf (p : Pr) : Nat → SF | 0 => p.start | 1 => p.turn | 2 => p.play | 3 => p.quiet | _ => p.pays
def knOf (p : Pr) : Nat → Kn | 2 => updAll (knV p.vars) (p.params.map Vr.name) | 3 => updAll (knV p.vars) [p.silent] | _ => knV p.vars
def chkP (p : Pr) (i : Nat) : Option Flt := chkB i (knOf p i) 0 true (partOf p i)
def chkAhead (p : Pr) : Option Flt :=
  ored (chkHead p) <| ored (chkVars [] p.vars) <| ored (must (decide (cells p.vars ≤ 64)) 8 sVar) <|
  ored (must (decide (p.params.length ≤ 4)) 8 sPlay) <| ored (chkPars (knV p.vars) [] p.params) <| ored (must (decide (menu p.params ≤ 512)) 8 sPlay) <|
  ored (must (isName p.silent) 6 p.silent) (must (knV p.vars p.silent == 0) 7 p.silent)
def check (p : Pr) : Option Flt :=
  ored (chkAhead p) <| ored (must (decide (w64 (psize p) ≤ 1000)) 5 p.name) <|
  ored (chkP p 0) <| ored (chkP p 1) <| ored (chkP p 2) <| ored (chkP p 3) <| ored (chkP p 4) <|
  ored (must (ends p.turn) 4 sTurn) (must (restLast p.pays) 4 sPay)

/-- a part's statements, with one ahead of them -/
structure St1 where (kind : Int) (name : Str) (e : EF) (low high : Int) (l els : SF)
def St1.on (s : St1) (r : SF) : SF := .cons s.kind s.name s.e s.low s.high s.l s.els r
def part (p : Pr) (at_ : Nat) (s : St1) : Pr := match at_ with
  | 0 => { p with start := s.on p.start } | 1 => { p with turn := s.on p.turn } | 2 => { p with play := s.on p.play } | 3 => { p with quiet := s.on p.quiet } | _ => { p with pays := s.on p.pays }
def St1.size (s : St1) : Nat := 1 + s.e.size + s.l.size + s.els.size
def chkOf (p : Pr) (i : Nat) (s : St1) : Option Flt := chkS i (knOf p i) 0 (partOf p i).isNil s.kind s.name s.e s.low s.high s.l s.els
theorem psize_part (p : Pr) (i : Nat) (s : St1) : psize (part p i s) = psize p + s.size := by
  unfold part
  split <;> simp only [psize, St1.on, SF.size, St1.size] <;> omega
theorem ahead_part (p : Pr) (i : Nat) (s : St1) : chkAhead (part p i s) = chkAhead p := by unfold part; split <;> rfl
theorem knOf_part (p : Pr) (i j : Nat) (s : St1) : knOf (part p i s) j = knOf p j := by unfold part; split <;> (unfold knOf; split <;> rfl)
theorem partOf_same (p : Pr) (i : Nat) (hi : i < 5) (s : St1) : partOf (part p i s) i = s.on (partOf p i) := by
  rcases (by omega : i = 0 ∨ i = 1 ∨ i = 2 ∨ i = 3 ∨ i = 4) with rfl | rfl | rfl | rfl | rfl <;> rfl
theorem partOf_other (p : Pr) (i j : Nat) (hi : i < 5) (hj : j < 5) (h : ¬ i = j) (s : St1) : partOf (part p i s) j = partOf p j := by
  rcases (by omega : i = 0 ∨ i = 1 ∨ i = 2 ∨ i = 3 ∨ i = 4) with rfl | rfl | rfl | rfl | rfl <;> rcases (by omega : j = 0 ∨ j = 1 ∨ j = 2 ∨ j = 3 ∨ j = 4) with rfl | rfl | rfl | rfl | rfl <;> first | rfl | omega
theorem chkP_same (p : Pr) (i : Nat) (hi : i < 5) (s : St1) : chkP (part p i s) i = ored (chkOf p i s) (chkP p i) := by
  unfold chkP
  rw [partOf_same p i hi, knOf_part, St1.on, chkB_cons]
  rfl
theorem chkP_other (p : Pr) (i j : Nat) (hi : i < 5) (hj : j < 5) (h : ¬ i = j) (s : St1) : chkP (part p i s) j = chkP p j := by
  unfold chkP
  rw [partOf_other p i j hi hj h, knOf_part]
theorem ends_part (p : Pr) (i : Nat) (s : St1) (h : ends p.turn = true) : ends (part p i s).turn = true := by
  unfold part
  split <;> first | exact h | (show ends (St1.on s p.turn) = true; rw [St1.on, ends, h, Bool.or_true])
theorem last_part (p : Pr) (i : Nat) (s : St1) (h : restLast p.pays = true) : restLast (part p i s).pays = true := by
  unfold part
  split <;> first | exact h | skip
  show restLast (St1.on s p.pays) = true
  cases hp : p.pays with
  | nil => rw [hp] at h; cases h
  | cons _ _ _ _ _ _ _ _ => rw [hp] at h; exact h
theorem check_none {p : Pr} : check p = none ↔ chkAhead p = none ∧ w64 (psize p) ≤ 1000 ∧ chkP p 0 = none ∧ chkP p 1 = none ∧ chkP p 2 = none ∧ chkP p 3 = none ∧ chkP p 4 = none ∧ ends p.turn = true ∧ restLast p.pays = true := by
  unfold check
  simp only [ored_eq_none, must_none, decide_eq_true_eq]
theorem parts_none {p : Pr} (h : check p = none) : ∀ i, i < 5 → chkP p i = none := fun i hi => by
  obtain ⟨_, _, h0, h1, h2, h3, h4, _, _⟩ := check_none.1 h
  rcases (by omega : i = 0 ∨ i = 1 ∨ i = 2 ∨ i = 3 ∨ i = 4) with rfl | rfl | rfl | rfl | rfl <;> assumption
theorem w64_add {n k : Nat} (h : w64 n ≤ 990) (hk : k ≤ 10) : w64 ((n + k : Nat) : Int) ≤ 1000 := by simp only [w64_def] at *; omega
/-- one statement ahead of a part of a program that may be: it alone decides -/
theorem check_part {p : Pr} (h : check p = none) (hs : w64 (psize p) ≤ 990) (i : Nat) (hi : i < 5) (s : St1) (hk : s.size ≤ 10) : check (part p i s) = chkOf p i s := by
  obtain ⟨ha, _, h0, h1, h2, h3, h4, he, hl⟩ := check_none.1 h
  have hz : w64 ((psize (part p i s) : Nat) : Int) ≤ 1000 := by rw [psize_part]; exact w64_add hs hk
  unfold check
  rw [ahead_part, ha, ends_part p i s he, last_part p i s hl, show decide (w64 ((psize (part p i s) : Nat) : Int) ≤ 1000) = true by simpa using hz]
  rcases (by omega : i = 0 ∨ i = 1 ∨ i = 2 ∨ i = 3 ∨ i = 4) with rfl | rfl | rfl | rfl | rfl
  · rw [chkP_same p 0 (by omega), chkP_other p 0 1 (by omega) (by omega) (by omega), chkP_other p 0 2 (by omega) (by omega) (by omega), chkP_other p 0 3 (by omega) (by omega) (by omega), chkP_other p 0 4 (by omega) (by omega) (by omega), h0, h1, h2, h3, h4]; simp
  · rw [chkP_same p 1 (by omega), chkP_other p 1 0 (by omega) (by omega) (by omega), chkP_other p 1 2 (by omega) (by omega) (by omega), chkP_other p 1 3 (by omega) (by omega) (by omega), chkP_other p 1 4 (by omega) (by omega) (by omega), h0, h1, h2, h3, h4]; simp
  · rw [chkP_same p 2 (by omega), chkP_other p 2 0 (by omega) (by omega) (by omega), chkP_other p 2 1 (by omega) (by omega) (by omega), chkP_other p 2 3 (by omega) (by omega) (by omega), chkP_other p 2 4 (by omega) (by omega) (by omega), h0, h1, h2, h3, h4]; simp
  · rw [chkP_same p 3 (by omega), chkP_other p 3 0 (by omega) (by omega) (by omega), chkP_other p 3 1 (by omega) (by omega) (by omega), chkP_other p 3 2 (by omega) (by omega) (by omega), chkP_other p 3 4 (by omega) (by omega) (by omega), h0, h1, h2, h3, h4]; simp
  · rw [chkP_same p 4 (by omega), chkP_other p 4 0 (by omega) (by omega) (by omega), chkP_other p 4 1 (by omega) (by omega) (by omega), chkP_other p 4 2 (by omega) (by omega) (by omega), chkP_other p 4 3 (by omega) (by omega) (by omega), h0, h1, h2, h3, h4]; simp
theorem max10 : max (1 : Int) 0 = 1 := rfl
def num (n : Int) : EF := .cons 0 n E0 .nil .nil
/-- SortsPlaces -/
def placeS (k : Int) (v : Str) : St1 := ⟨k, if k = 5 then v else E0, if k = 6 then .cons 0 0 E0 .nil .nil else if k = 8 then .cons 0 0 E0 .nil (.cons 0 1 E0 .nil .nil) else .nil, if k = 5 then 6 else 0, 0, .nil, .nil⟩
theorem chkD_nums (κ : Kn) (m n : Int) (hm : word m = true) (hn : word n = true) : chkD κ (.cons 0 m E0 .nil (.cons 0 n E0 .nil .nil)) = none := by
  simp [chkD, chkE, head1, hm, hn, btw, EF.len, exprParts, EF.deep, w64_def]
theorem chkD_one (κ : Kn) (m : Int) (hm : word m = true) : chkD κ (.cons 0 m E0 .nil .nil) = none := by
  simp [chkD, chkE, head1, hm, btw, EF.len, exprParts, EF.deep, w64_def]
theorem knV_head (v : Vr) (r : List Vr) (h : v.size = 0) : knV (v :: r) v.name = 1 := by simp [knV, h]
theorem knOf_play {p : Pr} {v : Vr} {r : List Vr} (hv : p.vars = v :: r) (h : v.size = 0) (hn : ∀ u ∈ p.params, ¬ u.name = v.name) : knOf p 2 v.name = 1 := by
  show updAll (knV p.vars) (p.params.map Vr.name) v.name = 1
  unfold updAll
  rw [if_neg, hv, knV_head v r h]
  simp only [List.any_map, List.any_eq_true, decide_eq_true_eq, not_exists, not_and, Function.comp]
  exact fun u hu e => hn u hu e
theorem pars_new {κ : Kn} : ∀ {l pre : List Vr}, chkPars κ pre l = none → ∀ u ∈ l, κ u.name = 0
  | [], _, _, _, hu => by cases hu
  | v :: r, pre, h, u, hu => by
    simp only [chkPars, ored_eq_none, must_none, Bool.and_eq_true, beq_iff_eq] at h
    rcases List.mem_cons.1 hu with rfl | hu
    · exact h.2.1.1
    · exact pars_new h.2.2.2.2 u hu
theorem ahead_pars {p : Pr} (h : chkAhead p = none) : ∀ u ∈ p.params, knV p.vars u.name = 0 := by
  unfold chkAhead at h
  simp only [ored_eq_none] at h
  exact pars_new h.2.2.2.2.1
theorem ahead_silent {p : Pr} (h : chkAhead p = none) : knV p.vars p.silent = 0 := by
  unfold chkAhead at h
  simp only [ored_eq_none, must_none, beq_iff_eq] at h
  exact h.2.2.2.2.2.2.2
def bad (k : Int) (i : Nat) : Bool := (decide (k < 6) && i != 2) || ((k == 6 || k == 7) && i != 1) || (k == 8 && i != 4)
theorem places {p : Pr} (h : check p = none) (hs : w64 (psize p) ≤ 990) {v : Vr} {r : List Vr} (hv : p.vars = v :: r) (hz : v.size = 0) (k : Int) (hk : k = 4 ∨ k = 5 ∨ k = 6 ∨ k = 7 ∨ k = 8) (i : Nat) (hi : i < 5) :
    check (part p i (placeS k v.name)) = if bad k i = true then some ⟨10, partName i⟩ else none := by
  rw [check_part h hs i hi _ (by rcases hk with rfl | rfl | rfl | rfl | rfl <;> simp [placeS, St1.size, EF.size, SF.size])]
  obtain ⟨ha, _⟩ := check_none.1 h
  have h2 : knOf p 2 v.name = 1 := knOf_play hv hz (fun u hu e => by
    have := ahead_pars ha u hu
    rw [hv, e, knV_head v r hz] at this
    cases this)
  unfold chkOf chkS
  rcases hk with rfl | rfl | rfl | rfl | rfl <;> rcases (by omega : i = 0 ∨ i = 1 ∨ i = 2 ∨ i = 3 ∨ i = 4) with rfl | rfl | rfl | rfl | rfl <;>
    simp [placeS, btw, EF.len, stmtParts, stands, bad, named, target, h2, chkD_one, chkD_nums, word, chkD]
/-- SortsUnknown -/
def useS (n : Str) : St1 := ⟨2, E0, .cons 1 0 n .nil .nil, 0, 0, .nil, .nil⟩
def unknS (how : Nat) : St1 := match how with
  | 0 => ⟨0, sUnknown, num 0, 0, 0, .nil, .nil⟩
  | 1 => ⟨1, sUnknown, .cons 0 0 E0 .nil (num 0), 0, 0, .nil, .nil⟩
  | 2 => ⟨2, E0, .cons 2 0 sUnknown (num 0) .nil, 0, 0, .nil, .nil⟩
  | _ => useS sUnknown
def knownIn (p : Pr) (s : Str) : Bool := (p.vars.any (fun v => decide (v.name = s))) || decide (p.silent = s) || p.params.any (fun v => decide (v.name = s))
theorem kn_unknown {p : Pr} {s : Str} (h : knownIn p s = false) (i : Nat) : knOf p i s = 0 := by
  simp only [knownIn, Bool.or_eq_false_iff] at h
  obtain ⟨⟨h1, h2⟩, h3⟩ := h
  have hv : knV p.vars s = 0 := by
    unfold knV
    rw [List.find?_eq_none.2]
    intro v hv
    have := List.any_eq_false.1 h1 v hv
    simpa using this
  unfold knOf
  split
  · unfold updAll
    rw [if_neg, hv]
    rw [List.any_map]
    simpa [Function.comp] using h3
  · unfold updAll
    rw [if_neg, hv]
    simpa using h2
  · exact hv
theorem unknown {p : Pr} (h : check p = none) (hs : w64 (psize p) ≤ 990) (hu : knownIn p sUnknown = false) (i : Nat) (hi : i < 5) (how : Nat) : check (part p i (unknS how)) = some ⟨6, sUnknown⟩ := by
  rw [check_part h hs i hi _ (by unfold unknS; split <;> decide)]
  have hk := kn_unknown hu i
  unfold chkOf chkS unknS
  split <;> simp [btw, EF.len, stmtParts, stands, named, target, hk, chkD, chkE, head1, num, exprParts, word, useS, EF.deep, w64_def, max10]
/-- SortsFirst -/
def op99 : St1 := ⟨2, E0, .cons 99 0 E0 .nil .nil, 0, 0, .nil, .nil⟩
def forIf : St1 := ⟨3, sIf, .nil, 0, 0, .nil, .nil⟩
theorem chk_op99 (p : Pr) (i : Nat) : chkOf p i op99 = some ⟨3, E0⟩ := by
  unfold chkOf chkS
  simp [op99, btw, EF.len, stmtParts, stands, named, chkD, head1, exprParts, EF.deep, w64_def]
theorem chk_forIf (p : Pr) (i : Nat) : chkOf p i forIf = some ⟨6, sIf⟩ := by
  unfold chkOf chkS
  have : isName sIf = false := by decide
  simp [forIf, btw, EF.len, stmtParts, stands, named, loop, this]
theorem chkOf_part (p : Pr) (i j : Nat) (hi : i < 5) (hj : j < 5) (h : ¬ i = j) (s t : St1) : chkOf (part p i s) j t = chkOf p j t := by
  unfold chkOf
  rw [partOf_other p i j hi hj h, knOf_part]
theorem first {p : Pr} (h : check p = none) (hs : w64 (psize p) ≤ 990) (x y : Nat) (hx : x < 5) (hy : y < 5) (hxy : ¬ x = y) :
    check (part (part p x op99) y forIf) = some (if y < x then ⟨6, sIf⟩ else ⟨3, E0⟩) := by
  obtain ⟨ha, _, h0, h1, h2, h3, h4, he, hl⟩ := check_none.1 h
  have hz : w64 ((psize (part (part p x op99) y forIf) : Nat) : Int) ≤ 1000 := by
    rw [psize_part, psize_part, Nat.add_assoc]; exact w64_add hs (by decide)
  have hX : ∀ j, j < 5 → ¬ j = x → ¬ j = y → chkP (part (part p x op99) y forIf) j = none := fun j hj a b => by
    rw [chkP_other _ y j hy hj (fun e => b e.symm), chkP_other _ x j hx hj (fun e => a e.symm)]; exact parts_none h j hj
  have hPx : chkP (part (part p x op99) y forIf) x = some ⟨3, E0⟩ := by
    rw [chkP_other _ y x hy hx (fun e => hxy e.symm), chkP_same _ _ hx, chk_op99]; rfl
  have hPy : chkP (part (part p x op99) y forIf) y = some ⟨6, sIf⟩ := by
    rw [chkP_same _ _ hy, chkOf_part p x y hx hy hxy, chk_forIf]; rfl
  unfold check
  rw [ahead_part, ahead_part, ha, show decide (w64 ((psize (part (part p x op99) y forIf) : Nat) : Int) ≤ 1000) = true by simpa using hz]
  generalize part (part p x op99) y forIf = q at *
  simp only [must_true, ored_none]
  have go : ∀ j, j < 5 → chkP q j = if j = x then some ⟨3, E0⟩ else if j = y then some ⟨6, sIf⟩ else none := fun j hj => by
    split
    · rename_i e; rw [e]; exact hPx
    · split
      · rename_i e; rw [e]; exact hPy
      · exact hX j hj ‹_› ‹_›
  rw [go 0 (by omega), go 1 (by omega), go 2 (by omega), go 3 (by omega), go 4 (by omega)]
  rcases (by omega : x = 0 ∨ x = 1 ∨ x = 2 ∨ x = 3 ∨ x = 4) with rfl | rfl | rfl | rfl | rfl <;> rcases (by omega : y = 0 ∨ y = 1 ∨ y = 2 ∨ y = 3 ∨ y = 4) with rfl | rfl | rfl | rfl | rfl <;> first | omega | simp
/-- SortsScopes -/
def forS (n : Str) (a b : Int) (l : SF) : St1 := ⟨3, n, .nil, a, b, l, .nil⟩
def scA : St1 := forS sInner 1 3 ((useS sInner).on .nil)
def scB : St1 := forS sInner 1 3 .nil
def scC : St1 := forS sInner 1 3 (.cons 0 sInner (num 0) 0 0 .nil .nil .nil)
def scD : St1 := forS sInner 1 3 ((forS sInner 0 1 .nil).on .nil)
theorem inner_name : isName sInner = true := by decide
theorem scopes {p : Pr} (h : check p = none) (hs : w64 (psize p) ≤ 990) (hu : knownIn p sInner = false) (i : Nat) (hi : i < 5) :
    check (part p i scA) = none ∧ check (part (part p i (useS sInner)) i scB) = some ⟨6, sInner⟩ ∧ check (part p i scC) = some ⟨11, sInner⟩ ∧ check (part p i scD) = some ⟨7, sInner⟩ := by
  have hk := kn_unknown hu i
  refine ⟨?_, ?_, ?_, ?_⟩
  · rw [check_part h hs i hi _ (by decide)]
    unfold chkOf chkS
    simp [scA, forS, useS, St1.on, btw, EF.len, stmtParts, stands, named, loop, inner_name, hk, word, chkD, chkB, head1, exprParts, EF.deep, w64_def, upd, chkE]
  · obtain ⟨ha, _, h0, h1, h2, h3, h4, he, hl⟩ := check_none.1 h
    have hz : w64 ((psize (part (part p i (useS sInner)) i scB) : Nat) : Int) ≤ 1000 := by
      rw [psize_part, psize_part, Nat.add_assoc]; exact w64_add hs (by decide)
    have hX : ∀ j, j < 5 → ¬ j = i → chkP (part (part p i (useS sInner)) i scB) j = none := fun j hj a => by
      rw [chkP_other _ i j hi hj (fun e => a e.symm), chkP_other _ i j hi hj (fun e => a e.symm)]; exact parts_none h j hj
    have hPi : chkP (part (part p i (useS sInner)) i scB) i = some ⟨6, sInner⟩ := by
      rw [chkP_same _ _ hi, chkP_same _ _ hi]
      have e1 : chkOf (part p i (useS sInner)) i scB = none := by
        unfold chkOf chkS
        rw [knOf_part]
        simp [scB, forS, btw, EF.len, stmtParts, stands, named, loop, inner_name, hk, word, chkD, chkB]
      have e2 : chkOf p i (useS sInner) = some ⟨6, sInner⟩ := by
        unfold chkOf chkS
        simp [useS, btw, EF.len, stmtParts, stands, named, hk, chkD, head1, exprParts, EF.deep, w64_def]
      rw [e1, e2]; rfl
    unfold check
    rw [ahead_part, ahead_part, ha, show decide (w64 ((psize (part (part p i (useS sInner)) i scB) : Nat) : Int) ≤ 1000) = true by simpa using hz]
    generalize part (part p i (useS sInner)) i scB = q at *
    simp only [must_true, ored_none]
    have go : ∀ j, j < 5 → chkP q j = if j = i then some ⟨6, sInner⟩ else none := fun j hj => by
      split
      · rename_i e; rw [e]; exact hPi
      · exact hX j hj ‹_›
    rw [go 0 (by omega), go 1 (by omega), go 2 (by omega), go 3 (by omega), go 4 (by omega)]
    rcases (by omega : i = 0 ∨ i = 1 ∨ i = 2 ∨ i = 3 ∨ i = 4) with rfl | rfl | rfl | rfl | rfl <;> simp
  · rw [check_part h hs i hi _ (by decide)]
    unfold chkOf chkS
    simp [scC, forS, btw, EF.len, stmtParts, stands, named, loop, inner_name, hk, word, chkD, chkB, target, upd, num]
  · rw [check_part h hs i hi _ (by decide)]
    unfold chkOf chkS
    simp [scD, forS, St1.on, btw, EF.len, stmtParts, stands, named, loop, inner_name, hk, word, chkD, chkB, upd]
/-- SortsEnds -/
def SF.dropLast : SF → SF
  | .nil => .nil
  | .cons _ _ _ _ _ _ _ .nil => .nil
  | .cons k n e a b l x (.cons k' n' e' a' b' l' x' r) => .cons k n e a b l x (SF.dropLast (.cons k' n' e' a' b' l' x' r))
theorem dropLast_size : ∀ F : SF, F.dropLast.size ≤ F.size
  | .nil => Nat.le_refl _
  | .cons _ _ _ _ _ _ _ .nil => by simp [SF.dropLast, SF.size]
  | .cons k n e a b l x (.cons k' n' e' a' b' l' x' r) => by
    have ih := dropLast_size (.cons k' n' e' a' b' l' x' r)
    rw [SF.dropLast, SF.size]
    have : (SF.cons k n e a b l x (.cons k' n' e' a' b' l' x' r)).size = 1 + e.size + l.size + x.size + (SF.cons k' n' e' a' b' l' x' r).size := rfl
    omega
theorem chkS_last {part : Nat} {κ : Kn} {fors : Nat} {kind : Int} {name : Str} {e : EF} {low high : Int} {l els : SF} (h : chkS part κ fors false kind name e low high l els = none) :
    chkS part κ fors true kind name e low high l els = none ∧ ¬ kind = 9 := by
  unfold chkS at *
  simp only [ored_eq_none, must_none] at h ⊢
  obtain ⟨h1, h2, h3⟩ := h
  have h9 : ¬ kind = 9 := fun e => by subst e; simp [stands] at h2
  refine ⟨⟨h1, ?_, h3⟩, h9⟩
  unfold stands at *
  rw [if_neg h9] at *
  exact h2
theorem chkB_drop {κ : Kn} {fors : Nat} : ∀ {F : SF}, chkB 4 κ fors true F = none → chkB 4 κ fors true F.dropLast = none ∧ restLast F.dropLast = false
  | .nil, _ => ⟨rfl, rfl⟩
  | .cons _ _ _ _ _ _ _ .nil, _ => ⟨rfl, rfl⟩
  | .cons k n e a b l x (.cons k' n' e' a' b' l' x' .nil), h => by
    rw [chkB_cons, ored_eq_none] at h
    have h1 := chkS_last (h.1 : chkS 4 κ fors false k n e a b l x = none)
    refine ⟨?_, ?_⟩
    · show chkB 4 κ fors true (.cons k n e a b l x .nil) = none
      rw [chkB_cons, ored_eq_none]
      exact ⟨h1.1, rfl⟩
    · show (k == 9) = false
      simpa using h1.2
  | .cons k n e a b l x (.cons k' n' e' a' b' l' x' (.cons k'' n'' e'' a'' b'' l'' x'' r)), h => by
    rw [chkB_cons, ored_eq_none] at h
    have ih := chkB_drop (F := .cons k' n' e' a' b' l' x' (.cons k'' n'' e'' a'' b'' l'' x'' r)) h.2
    obtain ⟨i1, i2⟩ := ih
    have ed : SF.dropLast (.cons k n e a b l x (.cons k' n' e' a' b' l' x' (.cons k'' n'' e'' a'' b'' l'' x'' r))) = .cons k n e a b l x (SF.dropLast (.cons k' n' e' a' b' l' x' (.cons k'' n'' e'' a'' b'' l'' x'' r))) := rfl
    have ed2 : SF.dropLast (.cons k' n' e' a' b' l' x' (.cons k'' n'' e'' a'' b'' l'' x'' r)) = .cons k' n' e' a' b' l' x' (SF.dropLast (.cons k'' n'' e'' a'' b'' l'' x'' r)) := rfl
    refine ⟨?_, ?_⟩
    · rw [ed, chkB_cons, ored_eq_none]
      refine ⟨?_, i1⟩
      rw [ed2]
      exact h.1
    · rw [ed, ed2]
      rw [ed2] at i2
      exact i2
theorem chkB_top {part : Nat} (hp : ¬ part = 4) {κ : Kn} {fors : Nat} : ∀ {F : SF}, chkB part κ fors false F = chkB part κ fors true F
  | .nil => by simp [chkB]
  | .cons k n e a b l x r => by
    rw [chkB_cons, chkB_cons, chkB_top hp (F := r)]
    congr 1
    have : (part == 4) = false := by simpa using hp
    have hs : ∀ b c, stands k part b = stands k part c := fun b c => by
      unfold stands
      simp [this]
    unfold chkS
    rw [hs _ (true && r.isNil)]
def ifS (l els : SF) : SF := .cons 2 E0 (num 0) 0 0 l els .nil
theorem w64_small {n : Nat} (h : n ≤ 1000000000) : w64 n = n := by simp only [w64_def]; omega
structure EndsOk (p : Pr) : Prop where
  a : check { p with pays := p.pays.dropLast } = some ⟨4, sPay⟩
  b : check { p with turn := .nil } = some ⟨4, sTurn⟩
  c : w64 (psize { p with turn := ifS p.turn p.turn }) ≤ 1000 → check { p with turn := ifS p.turn p.turn } = none
  d : w64 (psize { p with turn := ifS p.turn .nil }) ≤ 1000 → check { p with turn := ifS p.turn .nil } = some ⟨4, sTurn⟩
theorem chk_if {κ : Kn} {l els : SF} (h1 : chkB 1 κ 0 true l = none) (h2 : chkB 1 κ 0 true els = none) : chkB 1 κ 0 true (ifS l els) = none := by
  rw [ifS, chkB_cons]
  unfold chkS
  simp [num, btw, EF.len, stmtParts, stands, named, chkD_one, word, chkB_top (part := 1) (by decide) (F := l), chkB_top (part := 1) (by decide) (F := els), h1, h2, chkB]
theorem ends_ok {p : Pr} (h : check p = none) (hs : w64 (psize p) ≤ 990) (hz : psize p ≤ 1000000000) : EndsOk p := by
  obtain ⟨ha, _, h0, h1, h2, h3, h4, he, hl⟩ := check_none.1 h
  rw [w64_small hz] at hs
  have hs' : psize p ≤ 990 := by omega
  refine ⟨?_, ?_, ?_, ?_⟩
  · have hd := dropLast_size p.pays
    have hz : psize { p with pays := p.pays.dropLast } ≤ 990 := by unfold psize at *; dsimp only at *; omega
    obtain ⟨d1, d2⟩ := chkB_drop (F := p.pays) h4
    unfold check
    rw [show chkAhead { p with pays := p.pays.dropLast } = none from ha, show chkP { p with pays := p.pays.dropLast } 0 = none from h0, show chkP { p with pays := p.pays.dropLast } 1 = none from h1,
      show chkP { p with pays := p.pays.dropLast } 2 = none from h2, show chkP { p with pays := p.pays.dropLast } 3 = none from h3, show chkP { p with pays := p.pays.dropLast } 4 = none from d1, w64_small (by omega)]
    have : decide ((psize { p with pays := p.pays.dropLast } : Int) ≤ 1000) = true := by simp; omega
    simp only [this, he, d2, must_true, must_false, ored_none]
  · have hz : psize { p with turn := .nil } ≤ 990 := by unfold psize at *; dsimp only [SF.size] at *; omega
    unfold check
    rw [show chkAhead { p with turn := .nil } = none from ha, show chkP { p with turn := .nil } 0 = none from h0, show chkP { p with turn := .nil } 1 = none by simp [chkP, partOf, chkB],
      show chkP { p with turn := .nil } 2 = none from h2, show chkP { p with turn := .nil } 3 = none from h3, show chkP { p with turn := .nil } 4 = none from h4, w64_small (by omega)]
    have : decide ((psize { p with turn := .nil } : Int) ≤ 1000) = true := by simp; omega
    simp only [this, must_true, ored_none, ends, must_false, ored_some]
  · intro hc
    unfold check
    rw [show chkAhead { p with turn := ifS p.turn p.turn } = none from ha, show chkP { p with turn := ifS p.turn p.turn } 0 = none from h0, show chkP { p with turn := ifS p.turn p.turn } 1 = none from chk_if h1 h1,
      show chkP { p with turn := ifS p.turn p.turn } 2 = none from h2, show chkP { p with turn := ifS p.turn p.turn } 3 = none from h3, show chkP { p with turn := ifS p.turn p.turn } 4 = none from h4]
    have e1 : ends (ifS p.turn p.turn) = true := by simp [ends, ifS, he]
    simp [hc, e1, hl]
  · intro hc
    unfold check
    rw [show chkAhead { p with turn := ifS p.turn .nil } = none from ha, show chkP { p with turn := ifS p.turn .nil } 0 = none from h0, show chkP { p with turn := ifS p.turn .nil } 1 = none from chk_if h1 (by simp [chkB]),
      show chkP { p with turn := ifS p.turn .nil } 2 = none from h2, show chkP { p with turn := ifS p.turn .nil } 3 = none from h3, show chkP { p with turn := ifS p.turn .nil } 4 = none from h4]
    have e1 : ends (ifS p.turn .nil) = false := by simp [ends, ifS]
    simp [hc, e1]
end Go.Proofs.YtfamkemdgbnegaaDoor.So

/- Trees in memory: expressions and statements side by side, variables, programs. -/
namespace Go.Proofs.YtfamkemdgbnegaaDoor
open Go.RowKit So
abbrev ecells (op n : Int) (name : ByteArray) (A : Option Addr) (len cap : Nat) : Array Value := #[.int .i64 op, .int .i64 n, .string name, .slice A len cap]
abbrev scells (kind : Int) (name : ByteArray) (eA : Option Addr) (en ec : Nat) (low high : Int) (lA : Option Addr) (ln lc : Nat) (xA : Option Addr) (xn xc : Nat) : Array Value := #[.int .i64 kind, .string name, .slice eA en ec, .int .i64 low, .int .i64 high, .slice lA ln lc, .slice xA xn xc]
/-- a slice of n elements of b bytes takes no more memory than there is -/
def Fits (n b : Nat) : Prop := n * b ≤ 140737488355328
theorem Fits.max {n b : Nat} (h : Fits n b) (hb : 8 ≤ b) : n ≤ 17592186044416 := by
  unfold Fits at h
  have : n * 8 ≤ n * b := Nat.mul_le_mul_left _ hb
  omega
/-- expressions lie in memory, below block N, from a place on -/
def EFAt (w : World) (N : Nat) : EF → Nat → Nat → Prop
  | .nil, _, _ => True
  | .cons op n name k r, b, off => b < N ∧ i64ok op ∧ i64ok n ∧ name.size ≤ maxLen ∧ (∃ A cap b' off', Proofs.YtfamkemdgbnegaaDoor.has w b off 4 = true ∧ gets w b off 4 = ecells op n name A k.len cap ∧ Fits k.len 56 ∧ (0 < k.len → A = some ⟨b', off', none⟩) ∧ EFAt w N k b' off') ∧ EFAt w N r b (off + 4)
/-- a slice of expressions -/
def ESl (w : World) (N : Nat) (A : Option Addr) (n : Nat) (F : EF) : Prop := n = F.len ∧ Fits n 56 ∧ ∃ b off, (0 < n → A = some ⟨b, off, none⟩) ∧ EFAt w N F b off
/-- statements likewise -/
def SFAt (w : World) (N : Nat) : SF → Nat → Nat → Prop
  | .nil, _, _ => True
  | .cons kind name e low high l x r, b, off => b < N ∧ i64ok kind ∧ i64ok low ∧ i64ok high ∧ name.size ≤ maxLen ∧
    (∃ eA ec lA lc xA xc be oe bl ol bx ox, Proofs.YtfamkemdgbnegaaDoor.has w b off 7 = true ∧ gets w b off 7 = scells kind name eA e.len ec low high lA l.len lc xA x.len xc ∧ Fits e.len 56 ∧ Fits l.len 112 ∧ Fits x.len 112 ∧
      (0 < e.len → eA = some ⟨be, oe, none⟩) ∧ (0 < l.len → lA = some ⟨bl, ol, none⟩) ∧ (0 < x.len → xA = some ⟨bx, ox, none⟩) ∧ EFAt w N e be oe ∧ SFAt w N l bl ol ∧ SFAt w N x bx ox) ∧ SFAt w N r b (off + 7)
def SSl (w : World) (N : Nat) (A : Option Addr) (n : Nat) (F : SF) : Prop := n = F.len ∧ Fits n 112 ∧ ∃ b off, (0 < n → A = some ⟨b, off, none⟩) ∧ SFAt w N F b off
theorem has_keep {S : Nat → Prop} {w w' : World} (hk : Kept S w w') {g o n : Nat} (hg : g < w.heap.size) (hs : ¬ S g) : Proofs.YtfamkemdgbnegaaDoor.has w' g o n = Proofs.YtfamkemdgbnegaaDoor.has w g o n := by
  unfold Proofs.YtfamkemdgbnegaaDoor.has
  rw [hk.block g hg hs]
theorem gets_keep {S : Nat → Prop} {w w' : World} (hk : Kept S w w') {g o n : Nat} (hg : g < w.heap.size) (hs : ¬ S g) : gets w' g o n = gets w g o n := by
  unfold gets
  rw [hk.block g hg hs]
section
variable {S : Nat → Prop} {w w' : World} {N : Nat}
theorem EFAt.kept (hk : Kept S w w') (hN : N ≤ w.heap.size) (hs : ∀ i, S i → N ≤ i) : ∀ {F : EF} {b off : Nat}, EFAt w N F b off → EFAt w' N F b off
  | .nil, _, _, _ => trivial
  | .cons _ _ _ _ _, b, off, h => by
    obtain ⟨hb, h1, h2, h3, ⟨A, cap, b', off', hh, hg, hl, hA, hk'⟩, hr⟩ := h
    have hnb : ¬ S b := fun q => by have := hs b q; omega
    exact ⟨hb, h1, h2, h3, ⟨A, cap, b', off', by rw [has_keep hk (by omega) hnb]; exact hh, by rw [gets_keep hk (by omega) hnb]; exact hg, hl, hA, hk'.kept hk hN hs⟩, hr.kept hk hN hs⟩
theorem SFAt.kept (hk : Kept S w w') (hN : N ≤ w.heap.size) (hs : ∀ i, S i → N ≤ i) : ∀ {F : SF} {b off : Nat}, SFAt w N F b off → SFAt w' N F b off
  | .nil, _, _, _ => trivial
  | .cons _ _ _ _ _ _ _ _, b, off, h => by
    obtain ⟨hb, h1, h2, h3, h4, ⟨eA, ec, lA, lc, xA, xc, be, oe, bl, ol, bx, ox, hh, hg, n1, n2, n3, a1, a2, a3, he, hl, hx⟩, hr⟩ := h
    have hnb : ¬ S b := fun q => by have := hs b q; omega
    exact ⟨hb, h1, h2, h3, h4, ⟨eA, ec, lA, lc, xA, xc, be, oe, bl, ol, bx, ox, by rw [has_keep hk (by omega) hnb]; exact hh, by rw [gets_keep hk (by omega) hnb]; exact hg, n1, n2, n3, a1, a2, a3, he.kept hk hN hs, hl.kept hk hN hs, hx.kept hk hN hs⟩, hr.kept hk hN hs⟩
theorem EFAt.mono {N' : Nat} (hN : N ≤ N') : ∀ {F : EF} {b off : Nat}, EFAt w N F b off → EFAt w N' F b off
  | .nil, _, _, _ => trivial
  | .cons _ _ _ _ _, b, off, h => by
    obtain ⟨hb, h1, h2, h3, ⟨A, cap, b', off', hh, hg, hl, hA, hk'⟩, hr⟩ := h
    exact ⟨by omega, h1, h2, h3, ⟨A, cap, b', off', hh, hg, hl, hA, hk'.mono hN⟩, hr.mono hN⟩
theorem SFAt.mono {N' : Nat} (hN : N ≤ N') : ∀ {F : SF} {b off : Nat}, SFAt w N F b off → SFAt w N' F b off
  | .nil, _, _, _ => trivial
  | .cons _ _ _ _ _ _ _ _, b, off, h => by
    obtain ⟨hb, h1, h2, h3, h4, ⟨eA, ec, lA, lc, xA, xc, be, oe, bl, ol, bx, ox, hh, hg, n1, n2, n3, a1, a2, a3, he, hl, hx⟩, hr⟩ := h
    exact ⟨by omega, h1, h2, h3, h4, ⟨eA, ec, lA, lc, xA, xc, be, oe, bl, ol, bx, ox, hh, hg, n1, n2, n3, a1, a2, a3, he.mono hN, hl.mono hN, hx.mono hN⟩, hr.mono hN⟩
theorem ESl.kept {A : Option Addr} {n : Nat} {F : EF} (h : ESl w N A n F) (hk : Kept S w w') (hN : N ≤ w.heap.size) (hs : ∀ i, S i → N ≤ i) : ESl w' N A n F := by
  obtain ⟨h1, h2, b, off, h3, h4⟩ := h
  exact ⟨h1, h2, b, off, h3, h4.kept hk hN hs⟩
theorem SSl.kept {A : Option Addr} {n : Nat} {F : SF} (h : SSl w N A n F) (hk : Kept S w w') (hN : N ≤ w.heap.size) (hs : ∀ i, S i → N ≤ i) : SSl w' N A n F := by
  obtain ⟨h1, h2, b, off, h3, h4⟩ := h
  exact ⟨h1, h2, b, off, h3, h4.kept hk hN hs⟩
theorem ESl.ext {A : Option Addr} {n : Nat} {F : EF} (h : ESl w N A n F) (hk : Ext w w') (hN : N ≤ w.heap.size) : ESl w' N A n F := h.kept hk hN (fun _ f => f.elim)
theorem SSl.ext {A : Option Addr} {n : Nat} {F : SF} (h : SSl w N A n F) (hk : Ext w w') (hN : N ≤ w.heap.size) : SSl w' N A n F := h.kept hk hN (fun _ f => f.elim)
end
/-- how many there are within those side by side (without these) -/
def kidsE : EF → Nat | .nil => 0 | .cons _ _ _ k r => k.size + kidsE r
def kidsS : SF → Nat | .nil => 0 | .cons _ _ e _ _ l x r => e.size + l.size + x.size + kidsS r
theorem size_kidsE : ∀ F : EF, F.size = F.len + kidsE F
  | .nil => rfl
  | .cons _ _ _ k r => by rw [EF.size, EF.len, kidsE, size_kidsE r]; omega
theorem size_kidsS : ∀ F : SF, F.size = F.len + kidsS F
  | .nil => rfl
  | .cons _ _ e _ _ l x r => by rw [SF.size, SF.len, kidsS, size_kidsS r]; omega
theorem w64_w64 (a b : Int) : w64 (w64 a + b) = w64 (a + b) := by simp only [w64_def]; omega
theorem w64_w64r (a b : Int) : w64 (a + w64 b) = w64 (a + b) := by simp only [w64_def]; omega
/-- variables -/
abbrev vcells (v : Vr) : Array Value := #[.string v.name, .int .i64 v.size, .int .i64 v.low, .int .i64 v.high]
structure VrOk (v : Vr) : Prop where
  name : v.name.size ≤ maxLen
  size : i64ok v.size
  low : i64ok v.low
  high : i64ok v.high
def VSl (w : World) (N : Nat) (A : Option Addr) (n : Nat) (l : List Vr) : Prop := n = l.length ∧ Fits n 40 ∧ (∀ v ∈ l, VrOk v) ∧ ∃ b off, (0 < n → A = some ⟨b, off, none⟩) ∧ (0 < n → b < N ∧ Row w b off (rowsL vcells l))
theorem VSl.kept {S : Nat → Prop} {w w' : World} {N : Nat} {A : Option Addr} {n : Nat} {l : List Vr} (h : VSl w N A n l) (hk : Kept S w w') (hs : ∀ i, S i → N ≤ i) : VSl w' N A n l := by
  obtain ⟨h1, h2, h3, b, off, h4, h5⟩ := h
  exact ⟨h1, h2, h3, b, off, h4, fun h0 => ⟨(h5 h0).1, (h5 h0).2.kept hk (fun q => by have := hs b q; have := (h5 h0).1; omega)⟩⟩
def ISl (w : World) (N : Nat) (A : Option Addr) (n : Nat) (l : List Int) : Prop := n = l.length ∧ Fits n 8 ∧ (∀ v ∈ l, i64ok v) ∧ ∃ b off, (0 < n → A = some ⟨b, off, none⟩) ∧ (0 < n → b < N ∧ Row w b off (l.map (Value.int .i64)))
theorem ISl.kept {S : Nat → Prop} {w w' : World} {N : Nat} {A : Option Addr} {n : Nat} {l : List Int} (h : ISl w N A n l) (hk : Kept S w w') (hs : ∀ i, S i → N ≤ i) : ISl w' N A n l := by
  obtain ⟨h1, h2, h3, b, off, h4, h5⟩ := h
  exact ⟨h1, h2, h3, b, off, h4, fun h0 => ⟨(h5 h0).1, (h5 h0).2.kept hk (fun q => by have := hs b q; have := (h5 h0).1; omega)⟩⟩
/-- a slice's head: where it is, how long, how much room -/
structure Sl3 where (A : Option Addr) (n c : Nat)
abbrev Sl3.v (s : Sl3) : Value := .slice s.A s.n s.c
/-- a program's eleven cells -/
structure Pc where (name : ByteArray) (seats : Int) (stakes vars start turn params play : Sl3) (silent : ByteArray) (quiet pays : Sl3)
abbrev Pc.cells (c : Pc) : Array Value := #[.string c.name, .int .i64 c.seats, c.stakes.v, c.vars.v, c.start.v, c.turn.v, c.params.v, c.play.v, .string c.silent, c.quiet.v, c.pays.v]
structure PAt (w : World) (N : Nat) (c : Pc) (p : Pr) : Prop where
  name : c.name = p.name
  nameOk : p.name.size ≤ maxLen
  seats : c.seats = p.seats
  seatsOk : i64ok p.seats
  stakes : ISl w N c.stakes.A c.stakes.n p.stakes
  vars : VSl w N c.vars.A c.vars.n p.vars
  start : SSl w N c.start.A c.start.n p.start
  turn : SSl w N c.turn.A c.turn.n p.turn
  params : VSl w N c.params.A c.params.n p.params
  play : SSl w N c.play.A c.play.n p.play
  silent : c.silent = p.silent
  silentOk : p.silent.size ≤ maxLen
  quiet : SSl w N c.quiet.A c.quiet.n p.quiet
  pays : SSl w N c.pays.A c.pays.n p.pays
theorem PAt.kept {S : Nat → Prop} {w w' : World} {N : Nat} {c : Pc} {p : Pr} (h : PAt w N c p) (hk : Kept S w w') (hN : N ≤ w.heap.size) (hs : ∀ i, S i → N ≤ i) : PAt w' N c p :=
  ⟨h.name, h.nameOk, h.seats, h.seatsOk, h.stakes.kept hk hs, h.vars.kept hk hs, h.start.kept hk hN hs, h.turn.kept hk hN hs, h.params.kept hk hs, h.play.kept hk hN hs, h.silent, h.silentOk, h.quiet.kept hk hN hs, h.pays.kept hk hN hs⟩
end Go.Proofs.YtfamkemdgbnegaaDoor
