/- Several texts joined: Ordq, Rc, App, Rd, Ta, Tb, Re, Halvb, Halvp, Refd, Rf, Rg, Rh, Ri. -/
import Derived.Laws.AppendOwn
import Derived.Laws.AppendOwnNone
import Derived.Test.YtahljceanodhkaaGreatDoorShelf
import Derived.Laws.BytesArg
import Derived.Test.YtahljceanodhkaaGreatDoorTtb
/- A region that draws its order, walked by a plan: as Ordp, and where two acting operations may come up, both ways are walked. -/
namespace Go.Proofs.YtahljceanodhkaaGreatDoor
open Go.RowKit
inductive Pl0 where
  | nil
  | op (i k : Nat) (r : Pl0)
  | fork (i : Nat) (p : Pl0) (j : Nat) (q : Pl0)
inductive Pl where
  | nil
  | op (i k : Nat) (o : Oper) (r : Pl)
  | fork (i : Nat) (o : Oper) (p : Pl) (j : Nat) (o' : Oper) (q : Pl)
def Pl0.fill (l : List Oper) : Pl0 → Pl
  | .nil => .nil
  | .op i k r => .op i k (l.getD i nop) (r.fill l)
  | .fork i p j q => .fork i (l.getD i nop) (p.fill l) j (l.getD j nop) (q.fill l)
def Pl0.st : Pl0 → List Nat
  | .nil => []
  | .op i k r => if k = 1 then i :: r.st else r.st
  | .fork _ p _ q => p.st ++ q.st
def Pl0.len : Pl0 → Nat
  | .nil => 0
  | .op _ _ r => r.len + 1
  | .fork _ p _ q => max p.len q.len + 1
section
variable {P : Program} {ops : Array Oper} {Q : Exit → Act → World → Prop} {S : World → Prop}
def exQ (md : Region.Mode) (ops : Array Oper) (st : List Nat) (j : Nat) : Bool :=
  st.all fun i => i == j || (downMask md ops ops.size (dpMask md ops j)).testBit i
theorem exQ_spec {md : Region.Mode} {st : List Nat} {i j : Nat} {listed : Array Bool} (hf : i ∈ st) (hd : Down md ops listed) (hj : j ∈ Region.ready md ops listed) (hne : j ≠ i) (h : exQ md ops st j = true) :
    listed.getD i false = true := by
  have h1 := List.all_eq_true.1 h _ hf
  simp only [Bool.or_eq_true, beq_iff_eq] at h1
  rcases h1 with h1 | h1
  · exact absurd h1.symm hne
  · obtain ⟨_, oj, hoj, hall⟩ := mem_ready.1 hj
    refine downMask_listed hd _ _ (fun x hx => ?_) i h1
    obtain ⟨o, ho, e, he, hb, rfl⟩ := dpMask_bit hx
    rw [hoj] at ho
    injection ho with ho
    subst ho
    exact hall e he hb
def Pl0.ok (md : Region.Mode) (ops : Array Oper) : Pl0 → Array Bool → Bool
  | .nil, listed => (Region.ready md ops listed).isEmpty
  | .op i 0 r, listed => (Region.ready md ops listed == [i]) && decide (i < ops.size) && r.ok md ops (listed.setIfInBounds i true)
  | .op i (_ + 1) r, listed => Region.free md ops listed i && (Region.ready md ops listed).contains i && decide (i < ops.size) && r.ok md ops (listed.setIfInBounds i true)
  | .fork i p j q, listed => (Region.ready md ops listed == [i, j]) && decide (i < ops.size) && decide (j < ops.size) && p.ok md ops (listed.setIfInBounds i true) && q.ok md ops (listed.setIfInBounds j true)
def wpPl (P : Program) (ops : Array Oper) (Q : Exit → Act → World → Prop) (S : World → Prop) (st : List Nat) : Pl → Act → World → Prop
  | .nil, a, w => Q .normal a w
  | .op k 0 o r, a, w =>
    if Region.wanted o (yielded ops a.tmps) then o.wp P a w (fun a' w' => (exQ .any ops st k = true ∨ (S w → S w')) ∧ wpPl P ops Q S st r a' w') (noP Q) ∨ (o.asks P a w ∧ LetsOut (noP Q))
    else wpPl P ops Q S st r (a.put o.dst undef) w
  | .op _ 1 o r, a, w => S w ∧ ∃ v, YieldsIf P ops S o v a ∧ wpPl P ops Q S st r (a.put o.dst v) w
  | .op _ (_ + 2) o r, a, w => ∃ v, YieldsIf P ops (fun _ => True) o v a ∧ wpPl P ops Q S st r (a.put o.dst v) w
  | .fork k o r k' o' r', a, w =>
    (if Region.wanted o (yielded ops a.tmps) then o.wp P a w (fun a' w' => (exQ .any ops st k = true ∨ (S w → S w')) ∧ wpPl P ops Q S st r a' w') (noP Q) ∨ (o.asks P a w ∧ LetsOut (noP Q))
    else wpPl P ops Q S st r (a.put o.dst undef) w) ∧
    (if Region.wanted o' (yielded ops a.tmps) then o'.wp P a w (fun a' w' => (exQ .any ops st k' = true ∨ (S w → S w')) ∧ wpPl P ops Q S st r' a' w') (noP Q) ∨ (o'.asks P a w ∧ LetsOut (noP Q))
    else wpPl P ops Q S st r' (a.put o'.dst undef) w)
theorem getD_some {l : List Oper} {i : Nat} (h : i < l.toArray.size) : l.toArray[i]? = some (l.getD i nop) := by
  have h' : i < l.length := by simpa using h
  simp [List.getD, List.getElem?_eq_getElem h']
theorem wpAnyH_of_pl {l : List Oper} {st : List Nat} (hs : Region.noSelect l.toArray = true) : ∀ (p : Pl0) (fuel : Nat) (listed : Array Bool) (a : Act) (w : World), p.len ≤ fuel → (∀ i ∈ p.st, i ∈ st) → Down .any l.toArray listed →
    p.ok .any l.toArray listed = true → wpPl P l.toArray Q S st (p.fill l) a w → wpAnyH P .any l.toArray (noP Q) S (exQ .any l.toArray st) fuel listed a w
  | .nil, fuel, listed, a, w, _, _, _, hB, h => wpAnyH_done (Q := noP Q) (by simpa [Pl0.ok] using hB) h fuel
  | .op _ _ _, 0, listed, a, w, hf, _, _, _, _ => by simp [Pl0.len] at hf
  | .fork _ _ _ _, 0, listed, a, w, hf, _, _, _, _ => by simp [Pl0.len] at hf
  | .op i 1 r, fuel + 1, listed, a, w, hf, hr, hdn, hB, h => by
    obtain ⟨hS, v, hy, h⟩ := h
    simp only [Pl0.ok, Bool.and_eq_true, decide_eq_true_eq] at hB
    simp only [Pl0.st, if_true] at hr
    have ho := getD_some hB.1.2
    exact wpAnyH_first ho (Region.noSelect_spec hs) (fun _ _ _ x => x) (fun j l hd hj hne hx => exQ_spec (hr _ (by simp)) hd hj hne hx) fuel listed a w hdn (Region.free_spec ho hB.1.1.1) (by simpa using hB.1.1.2) hy hS
      (wpAnyH_of_pl hs r fuel _ _ w (by simpa [Pl0.len] using hf) (fun p hp => hr p (by simp [hp])) (hdn.set (by simpa using hB.1.1.2)) hB.2 h)
  | .op i (n + 2) r, fuel + 1, listed, a, w, hf, hr, hdn, hB, h => by
    obtain ⟨v, hy, h⟩ := h
    simp only [Pl0.ok, Bool.and_eq_true, decide_eq_true_eq] at hB
    have ho := getD_some hB.1.2
    exact wpAnyH_pure ho (Region.noSelect_spec hs) (fun _ _ _ x => x) fuel listed a w (Region.free_spec ho hB.1.1.1) (by simpa using hB.1.1.2) hy
      (wpAnyH_of_pl hs r fuel _ _ w (by simpa [Pl0.len] using hf) (fun p hp => hr p (by simp [Pl0.st, hp])) (hdn.set (by simpa using hB.1.1.2)) hB.2 h)
  | .op i 0 r, fuel + 1, listed, a, w, hf, hr, hdn, hB, h => by
    simp only [Pl0.ok, Bool.and_eq_true, beq_iff_eq, decide_eq_true_eq] at hB
    have ho := getD_some hB.1.2
    refine wpAnyH_all hB.1.1 (by simp) fun j hj => ?_
    obtain rfl : j = i := by simpa using hj
    have h1 : wpOp P l.toArray (noP Q) j (fun a' w' => (exQ .any l.toArray st j = true ∨ (S w → S w')) ∧ wpPl P l.toArray Q S st (r.fill l) a' w') a w := by
      unfold wpOp
      rw [ho]
      unfold Pl0.fill wpPl at h
      by_cases hw : Region.wanted (l.getD j nop) (yielded l.toArray a.tmps) = true
      · rw [if_pos hw] at h; simp only [if_pos hw]; exact h
      · rw [if_neg hw] at h; simp only [if_neg hw]; exact ⟨.inr id, h⟩
    exact wpOp_mono (fun a' w' h' => ⟨h'.1, wpAnyH_of_pl hs r fuel _ a' w' (by simpa [Pl0.len] using hf) (fun p hp => hr p (by simp [Pl0.st, hp])) (hdn.set (by rw [hB.1.1]; simp)) hB.2 h'.2⟩) h1
  | .fork i p j q, fuel + 1, listed, a, w, hf, hr, hdn, hB, h => by
    simp only [Pl0.ok, Bool.and_eq_true, beq_iff_eq, decide_eq_true_eq] at hB
    obtain ⟨⟨⟨⟨hrd, hi⟩, hj⟩, hp⟩, hq⟩ := hB
    have hoi := getD_some hi
    have hoj := getD_some hj
    have hlen : max p.len q.len ≤ fuel := by simpa [Pl0.len] using hf
    unfold Pl0.fill wpPl at h
    refine wpAnyH_all hrd (by simp) fun k hk => ?_
    rcases (by simpa using hk : k = i ∨ k = j) with rfl | rfl
    · have h1 : wpOp P l.toArray (noP Q) k (fun a' w' => (exQ .any l.toArray st k = true ∨ (S w → S w')) ∧ wpPl P l.toArray Q S st (p.fill l) a' w') a w := by
        unfold wpOp
        rw [hoi]
        have h := h.1
        by_cases hw : Region.wanted (l.getD k nop) (yielded l.toArray a.tmps) = true
        · rw [if_pos hw] at h; simp only [if_pos hw]; exact h
        · rw [if_neg hw] at h; simp only [if_neg hw]; exact ⟨.inr id, h⟩
      exact wpOp_mono (fun a' w' h' => ⟨h'.1, wpAnyH_of_pl hs p fuel _ a' w' (by omega) (fun x hx => hr x (by simp [Pl0.st, hx])) (hdn.set (by rw [hrd]; simp)) hp h'.2⟩) h1
    · have h1 : wpOp P l.toArray (noP Q) k (fun a' w' => (exQ .any l.toArray st k = true ∨ (S w → S w')) ∧ wpPl P l.toArray Q S st (q.fill l) a' w') a w := by
        unfold wpOp
        rw [hoj]
        have h := h.2
        by_cases hw : Region.wanted (l.getD k nop) (yielded l.toArray a.tmps) = true
        · rw [if_pos hw] at h; simp only [if_pos hw]; exact h
        · rw [if_neg hw] at h; simp only [if_neg hw]; exact ⟨.inr id, h⟩
      exact wpOp_mono (fun a' w' h' => ⟨h'.1, wpAnyH_of_pl hs q fuel _ a' w' (by omega) (fun x hx => hr x (by simp [Pl0.st, hx])) (hdn.set (by rw [hrd]; simp)) hq h'.2⟩) h1
theorem wp_region_4 {id : Nat} {a : Act} {w : World} {l : List Oper} (S : World → Prop) (p : Pl0) (hm : P.follows .mixedOrders = true) (hs : Region.noSelect l.toArray = true)
    (hB : p.ok .any l.toArray (Array.replicate l.toArray.size false) = true) (hin : decide (p.len ≤ l.length) = true)
    (h : ∀ p', p' = p.fill l → wpPl P l.toArray Q S p.st p' a w.drew) : (Code.region id l.toArray true).wp P Q a w :=
  Code.wp_mono noP.imp (wp_region_any hm (wpAny_of_H _ _ _ _ (wpAnyH_of_pl hs p _ _ a _ (by simpa using hin) (fun _ h => h) (Down.init _) hB (h _ rfl))))
variable {st : List Nat} {k : Nat} {r : Pl} {a : Act} {w : World} {o : Oper}
theorem w4_nil (h : Q .normal a w) : wpPl P ops Q S st .nil a w := h
theorem w4_take {v : Value} (hS : S w) (hw : Region.wanted o (yielded ops a.tmps) = true)
    (hy : ∀ w', S w' → (execOp a.eval o).run P w' = .ok (.value v) w') (h : ∀ K : Act → World → Prop, (∀ a w, wpPl P ops Q S st r a w → K a w) → K (a.put o.dst v) w) : wpPl P ops Q S st (.op k 1 o r) a w :=
  ⟨hS, v, .inl ⟨hw, hy⟩, h _ (fun _ _ h => h)⟩
theorem w4_pass (hS : S w) (hw : Region.wanted o (yielded ops a.tmps) = false)
    (h : ∀ K : Act → World → Prop, (∀ a w, wpPl P ops Q S st r a w → K a w) → K (a.put o.dst undef) w) : wpPl P ops Q S st (.op k 1 o r) a w :=
  ⟨hS, undef, .inr ⟨hw, rfl⟩, h _ (fun _ _ h => h)⟩
theorem w4_pure {v : Value} (hw : Region.wanted o (yielded ops a.tmps) = true)
    (hy : ∀ w', (execOp a.eval o).run P w' = .ok (.value v) w') (h : ∀ K : Act → World → Prop, (∀ a w, wpPl P ops Q S st r a w → K a w) → K (a.put o.dst v) w) : wpPl P ops Q S st (.op k 2 o r) a w :=
  ⟨v, .inl ⟨hw, fun w _ => hy w⟩, h _ (fun _ _ h => h)⟩
theorem w4_skip (hw : Region.wanted o (yielded ops a.tmps) = false)
    (h : ∀ K : Act → World → Prop, (∀ a w, wpPl P ops Q S st r a w → K a w) → K (a.put o.dst undef) w) : wpPl P ops Q S st (.op k 2 o r) a w :=
  ⟨undef, .inr ⟨hw, rfl⟩, h _ (fun _ _ h => h)⟩
theorem w4_act (h : ∀ K : Act → World → Prop, Shut (∀ a' w', (S w → S w') → wpPl P ops Q S st r a' w' → K a' w') → if Region.wanted o (yielded ops a.tmps) = true then Oper.wp P o a w K (noP Q) else K (a.put o.dst undef) w) :
    wpPl P ops Q S st (.op k 0 o r) a w := by
  unfold wpPl
  split
  · rename_i hw
    have h := h (fun a' w' => (exQ .any ops st k = true ∨ (S w → S w')) ∧ wpPl P ops Q S st r a' w') (fun a' w' hS h => ⟨.inr hS, h⟩)
    rw [if_pos hw] at h; exact .inl h
  · rename_i hw
    have h := h (fun a' w' => wpPl P ops Q S st r a' w') (fun a' w' _ h => h)
    rw [if_neg hw] at h; exact h
theorem w4_end (hx : exQ .any ops st k = true)
    (h : ∀ K : Act → World → Prop, Shut (∀ a' w', wpPl P ops Q S st r a' w' → K a' w') → if Region.wanted o (yielded ops a.tmps) = true then Oper.wp P o a w K (noP Q) else K (a.put o.dst undef) w) :
    wpPl P ops Q S st (.op k 0 o r) a w := by
  unfold wpPl
  split
  · rename_i hw
    have h := h (fun a' w' => (exQ .any ops st k = true ∨ (S w → S w')) ∧ wpPl P ops Q S st r a' w') (fun a' w' h => ⟨.inl hx, h⟩)
    rw [if_pos hw] at h; exact .inl h
  · rename_i hw
    have h := h (fun a' w' => wpPl P ops Q S st r a' w') (fun a' w' h => h)
    rw [if_neg hw] at h; exact h
theorem w4_fork {k' : Nat} {o' : Oper} {r' : Pl} (h : wpPl P ops Q S st (.op k 0 o r) a w) (h' : wpPl P ops Q S st (.op k' 0 o' r') a w) : wpPl P ops Q S st (.fork k o r k' o' r') a w := ⟨h, h'⟩
end
end Go.Proofs.YtahljceanodhkaaGreatDoor

/- Package baizeref02: Word, by what Bytes answers. -/
namespace Go.Proofs.YtahljceanodhkaaGreatDoor
open Go.RowKit
theorem conv_step {W wc : World} (y : Ext W wc) (e : TypeId) (s : ByteArray) (h : s.size ≤ maxLen) : Ext W (Lib.bytesWorld wc e s) ∧ SlB (Lib.bytesWorld wc e s) (some ⟨wc.heap.size, 0, none⟩) s.size (grownCap wc s.size 0 e) (strB s) :=
  ⟨y.trans (bytesWorld_ext _ _ _), bytesWorld_sl _ _ _ h⟩
def RBytesIs : Prop := ∀ (s : St) (A : Option Addr) (cap : Nat) (l : List Int) (n : Nat) (w : World), SlB w A n cap l → 0 < n → n ≤ 1000 →
    Calls Tryz.prog 177 #[.agg s.cells, .slice A n cap] w fun e w' => e = .returned (.agg (bytesS s l).cells) ∧ Ext w w'
set_option maxRecDepth 100000 in
set_option maxHeartbeats 1000000 in
theorem rword_any (hB : RBytesIs) (d : Dg) (hd : d.ok) (s : ByteArray) (hs0 : 0 < s.size) (hsz : s.size ≤ 1000) (w : World) :
    Calls Tryz.prog 123 #[.agg #[.int .u8 d.x0, .int .u8 d.x1, .int .u8 d.x2, .int .u8 d.x3, .int .u8 d.x4, .int .u8 d.x5, .int .u8 d.x6, .int .u8 d.x7], .string s] w fun e w' => e = .returned (.agg (hWord d (strB s)).cells) ∧ Ext w w' := by
  have HD := Lib.hid hd
  have HZ := Lib.hid hsz
  have HBY := Lib.hid hB
  have HZ0 := Lib.hid hs0
  clear hd hsz hB hs0
  have hx0 : Ext w _ := ((Kept.refl _ w).alloc (.cells #[.int .u8 d.x0, .int .u8 d.x1, .int .u8 d.x2, .int .u8 d.x3, .int .u8 d.x4, .int .u8 d.x5, .int .u8 d.x6, .int .u8 d.x7] 23)).alloc (.cells Dg.zero.cells 23)
  have hA0 : Blk _ w.heap.size 23 d.cells := Blk.alloc (Blk.new w _ _) (.cells Dg.zero.cells 23)
  have hR0 : Blk _ (w.heap.size + 1) 23 Dg.zero.cells := Blk.new' (w.alloc (.cells #[.int .u8 d.x0, .int .u8 d.x1, .int .u8 d.x2, .int .u8 d.x3, .int .u8 d.x4, .int .u8 d.x5, .int .u8 d.x6, .int .u8 d.x7] 23)) _ _ _ (by simp)
  have hcv := fun w => convStr w s
  go_enter Tryz.func123, Tryz.ntmps123
  go_wp2_with fail
  generalize ((w.alloc (.cells #[.int .u8 d.x0, .int .u8 d.x1, .int .u8 d.x2, .int .u8 d.x3, .int .u8 d.x4, .int .u8 d.x5, .int .u8 d.x6, .int .u8 d.x7] 23)).alloc (.cells #[.int .u8 0, .int .u8 0, .int .u8 0, .int .u8 0, .int .u8 0, .int .u8 0, .int .u8 0, .int .u8 0] 23)) = W at hx0 hA0 hR0 ⊢
  refine wp_region_4 (fun w1 => Ext W w1) (.op 1 1 (.op 4 2 (.fork 0 (.fork 2 (.fork 3 (.op 5 0 (.op 6 0 (.op 7 0 (.op 8 0 .nil)))) 5 (.op 3 0 (.op 6 0 (.op 7 0 (.op 8 0 .nil))))) 5 (.op 2 0 (.op 3 0 (.op 6 0 (.op 7 0 (.op 8 0 .nil)))))) 5 (.op 0 0 (.op 2 0 (.op 3 0 (.op 6 0 (.op 7 0 (.op 8 0 .nil))))))))) (by kernel_rfl) (by kernel_rfl) (by kernel_rfl) (by kernel_rfl) ?_; intro p' hp'; simp only [Pl0.fill, List.getD_cons_zero, List.getD_cons_succ] at hp'; subst hp'
  (repeat (first | ((apply w4_pure); (· go_simp); (· (intro w1; go_simp; try with_reducible rfl)); (intro K hK; go_simp; refine hK _ _ ?_; clear hK K)) | ((apply w4_skip); (· go_simp); (intro K hK; go_simp; refine hK _ _ ?_; clear hK K)) | ((apply w4_take); (· exact (Kept.drew (Kept.refl _ _))); (· go_simp); (· (intro w1 hS; have d1 := Blk.ext hA0 hS; have hh := Blk.has d1; have hg := Blk.gets d1;  go_simp; try with_reducible rfl)); (intro K hK; go_simp; refine hK _ _ ?_; clear hK K)) | ((apply w4_pass); (· exact (Kept.drew (Kept.refl _ _))); (· go_simp); (intro K hK; go_simp; refine hK _ _ ?_; clear hK K))))
  have y : Ext W W.drew := (Kept.refl _ W).drew
  have HZ2 := Lib.hid (show s.size ≤ maxLen by have := HZ.out; unfold maxLen; omega)
  repeat' (first | (refine w4_fork ?_ ?_) | (refine w4_act (fun K hK => ?_); go_simp; go_wp2_with fail; (refine (rbegin_any 4 _).mono ?_); (rintro e wn ⟨rfl, hxn⟩); (replace y := y.trans hxn); (try replace sl := sl.ext hxn); refine hK.out _ _ (fun _ => y) ?_; clear hK K hxn) | (refine w4_act (fun K hK => ?_); go_simp; go_wp2_with fail; (refine (rnum_any d HD.out _).mono ?_); (rintro e wn ⟨rfl, hxn⟩); (replace y := y.trans hxn); (try replace sl := sl.ext hxn); refine hK.out _ _ (fun _ => y) ?_; clear hK K hxn) | (refine w4_act (fun K hK => ?_); go_simp; go_wp2_with fail; (refine (rin_any (bg 4) _ _).mono ?_); (rintro e wn ⟨rfl, hxn⟩); (replace y := y.trans hxn); (try replace sl := sl.ext hxn); refine hK.out _ _ (fun _ => y) ?_; clear hK K hxn) | (refine w4_act (fun K hK => ?_); go_simp; go_wp2_with fail; (refine (HBY.out _ _ _ _ _ _ sl HZ0.out HZ.out).mono ?_); (rintro e wn ⟨rfl, hxn⟩); (replace y := y.trans hxn); (try replace sl := sl.ext hxn); refine hK.out _ _ (fun _ => y) ?_; clear hK K hxn) | (refine w4_act (fun K hK => ?_); go_simp; go_wp2_with fail; (refine (rout_any _ _).mono ?_); (rintro e wn ⟨rfl, hxn⟩); (replace y := y.trans hxn); (try replace sl := sl.ext hxn); refine hK.out _ _ (fun _ => y) ?_; clear hK K hxn) | (refine w4_act (fun K hK => ?_); go_simp; (obtain ⟨y, sl⟩ := conv_step y 5 s HZ2.out); refine hK.out _ _ (fun _ => y) ?_; clear hK K))
  all_goals
    have hR6 := Blk.ext hR0 y
    have hh6 := Blk.has hR6
    have hm6 := Blk.melts hR6
    (repeat (first | ((apply w4_pure); (· go_simp); (· (intro w1; go_simp; try with_reducible rfl)); (intro K hK; go_simp; refine hK _ _ ?_; clear hK K)) | ((apply w4_skip); (· go_simp); (intro K hK; go_simp; refine hK _ _ ?_; clear hK K)) | (refine w4_end (by kernel_rfl) (fun K hK => ?_); go_simp; refine hK.out _ _ ?_; clear hK K))); refine w4_nil ?_
    go_wp2_with fail
    refine ret_cell Tryz.results123 rfl rfl aggArr8 (by exact sizeArr8) (Blk.put_ hR6 _ _) ⟨rfl, ?_⟩
    exact Kept.putAt (hx0.trans y) _ _ _ (fun h => by omega)
end Go.Proofs.YtahljceanodhkaaGreatDoor

/- append to a slice of the call's own: what it gives, in one fact. -/
namespace Go.Proofs.YtahljceanodhkaaGreatDoor
open Go.RowKit
theorem Kept.of_grown {w w' : World} {row : Option Nat} (h : w.grownBy w' row) : Kept (fun i => row = some i) w w' :=
  ⟨h.os, h.tape, h.output, h.size, fun k hk hn => h.block k hk (fun e => hn e.symm)⟩
theorem Row.cells {w : World} {b off : Nat} {vs : List Value} (h : Row w b off vs) : ∀ j u, vs[j]? = some u → w.cell? ((⟨b, off, none⟩ : Addr).add j) = some u := fun j u hu => by
  rw [addr_add', h.cell j (List.getElem?_eq_some_iff.1 hu).1, hu]
/-- one more list of elements, laid in memory, behind those that are owned -/
theorem app_some {P : Program} {T E : TypeId} {i : TypeInfo} {z : Value} {sz bytes : Nat} (ht : P.underlying T = some (.slice E)) (hi : P.info? E = some i) (hz : i.zero = some z) (h1 : i.size = sz) (h2 : i.bytes = bytes) (h3 : z.cells.size = sz) (h4 : 0 < sz)
    (w : World) (base : Nat) (v : Value) (n : Nat) (xs : List Value) (hown : w.ownsRow base E sz v n xs) (b off m c : Nat) (ys : List Value) (hl : ys.length = m * sz) (hr : Row w b off ys) (hf : flatL ys = true) (hn : n + m ≤ maxLen) (hb : (n + m) * bytes ≤ 140737488355328) (hbase : base ≤ w.heap.size) :
    ∃ v' w', (Builtin.append_ #[T, T] T #[v, .slice (some ⟨b, off, none⟩) m c]).run P w = .ok v' w' ∧ w'.ownsRow base E sz v' (n + m) (xs ++ ys) ∧ Kept (fun i => v.ownBlock = some i) w w' := by
  obtain ⟨v', w', hrun, ho, hg, _⟩ := run_append_own (P := P) w base T T E i z sz bytes ht hi hz h1 h2 h3 h4 v n xs hown ⟨b, off, none⟩ m c ys hl hr.cells (flatL_all hf) hn hb hbase
  exact ⟨v', w', hrun, ho, Kept.of_grown hg⟩
/-- the operation append, by what its run is known to be -/
theorem wpList_app {P : Program} {w : World} {ops : Array Oper} {rest : List Oper} {o : Oper} {a : Act} {Q : Exit → Act → World → Prop} (hgd : o.guard = none) (x y : Operand) (T : TypeId)
    (ho : o.op = .call { callee := .builtin .append, args := #[x, y], argTypes := #[T, T] }) {ty : TypeId} (hty : o.type = ty) {v s v' : Value} {w' : World} (hx : a.eval x = v) (hy : a.eval y = s)
    (hrun : (Builtin.append_ #[T, T] ty #[v, s]).run P w = .ok v' w') (h : wpList P ops Q rest (a.put o.dst v') w') : wpList P ops Q (o :: rest) a w :=
  wpList_plain hgd fun _ hK => by
    subst hty
    unfold Oper.wp execOp
    simp only [ho, resolve, invoke, builtin, Sem.run_bind, Sem.run_pure, Result.andThen_ok, List.map_toArray, List.map_cons, List.map_nil, hx, hy, hrun]
    exact hK _ _ h
end Go.Proofs.YtahljceanodhkaaGreatDoor

/- Package baizeref02: Bytes; Of. -/
namespace Go.Proofs.YtahljceanodhkaaGreatDoor
open Go.RowKit
theorem infoU8 : (Tryz.prog.info? 5).map (fun i => (i.zero, i.size, i.bytes)) = some (some (.int .u8 0), 1, 1) := by kernel_rfl
theorem appB (w : World) (base : Nat) (v : Value) (n : Nat) (xs : List Int) (hown : w.ownsRow base 5 1 v n (byts xs)) (b off m c : Nat) (l : List Int) (hm : m = l.length) (hr : Row w b off (byts l)) (hn : n + m ≤ 100000) (hbase : base ≤ w.heap.size) :
    ∃ v' w', (Builtin.append_ #[95, 95] 95 #[v, .slice (some ⟨b, off, none⟩) m c]).run Tryz.prog w = .ok v' w' ∧ w'.ownsRow base 5 1 v' (n + m) (byts (xs ++ l)) ∧ Kept (fun i => v.ownBlock = some i) w w' := by
  obtain ⟨i, hi, hz, h1, h2⟩ := info_parts infoU8
  have := app_some (P := Tryz.prog) Tryz.underlying95 hi hz h1 h2 (by rfl) (by decide) w base v n (byts xs) hown b off m c (byts l) (by rw [byts_length, hm, Nat.mul_one]) hr (byts_flat l) (by unfold maxLen; omega) (by omega) hbase
  rw [show byts xs ++ byts l = byts (xs ++ l) by simp [byts]] at this
  exact this
/-- a slice of bytes that is the call's own, and not empty -/
theorem own_some {w : World} {base : Nat} {v : Value} {n : Nat} {xs : List Int} (h : w.ownsRow base 5 1 v n (byts xs)) (hn : 0 < n) : ∃ g c, v = .slice (some ⟨g, 0, none⟩) n c ∧ base ≤ g ∧ Row w g 0 (byts xs) ∧ n ≤ c ∧ c ≤ maxLen ∧ n = xs.length := by
  have hl := h.1
  rw [byts_length, Nat.mul_one] at hl
  rcases h.2 with ⟨_, h0⟩ | ⟨g, c, cur, hv, hb, hc, hnc, hcm, hcs, htk⟩
  · omega
  · refine ⟨g, c, hv, hb, ?_, hnc, hcm, hl.symm⟩
    have hln : (byts xs).length = n := by rw [byts_length, hl]
    refine ⟨?_, ?_, (Array.getElem?_eq_some_iff.1 hc).1⟩
    · unfold has; rw [hc, hln]; simp; omega
    · unfold gets; rw [hc, hln]; simp only [List.drop_zero]; rw [Nat.mul_one] at htk; rw [htk]
theorem getD_app_zeros (r : List Int) (j k : Nat) : (r ++ List.replicate j 0).getD k 0 = r.getD k 0 := by
  simp only [List.getD]
  by_cases h : k < r.length
  · rw [List.getElem?_append_left h]
  · rw [List.getElem?_append_right (by omega), List.getElem?_eq_none (by omega : r.length ≤ k), List.getElem?_replicate]
    split <;> rfl
theorem dgOf_zeros (r : List Int) (j : Nat) : dgOf (r ++ List.replicate j 0) = dgOf r := by
  simp only [dgOf, getD_app_zeros]
theorem dgOf_app (r q : List Int) (h : 8 ≤ r.length) : dgOf (r ++ q) = dgOf r := by
  have : ∀ k, k < 8 → (r ++ q).getD k 0 = r.getD k 0 := fun k hk => by
    simp only [List.getD]
    rw [List.getElem?_append_left (by omega)]
  simp only [dgOf, this 0 (by omega), this 1 (by omega), this 2 (by omega), this 3 (by omega), this 4 (by omega), this 5 (by omega), this 6 (by omega), this 7 (by omega)]
theorem wholeK_app (s : St) (l q : List Int) : ∀ k, k * 8 ≤ l.length → wholeK s (l ++ q) k = wholeK s l k
  | 0, _ => rfl
  | k + 1, h => by
    simp only [wholeK]
    rw [wholeK_app s l q k (by omega), List.drop_append_of_le_length (by omega), dgOf_app _ _ (by simp; omega)]
theorem wholeK_pad (s : St) (l : List Int) (j : Nat) : wholeK s (l ++ [1] ++ List.replicate j 0) (l.length / 8 + 1) = taken (wholeK s l (l.length / 8)) (numD (padK l)) := by
  simp only [wholeK]
  rw [List.append_assoc, wholeK_app s l _ _ (by omega), List.drop_append_of_le_length (by omega), ← List.append_assoc, dgOf_zeros]
  rfl
theorem Row.byte {w : World} {g : Nat} {xs : List Int} (h : Row w g 0 (byts xs)) (k j : Nat) (hj : j < 8) (hk : k * 8 + j < xs.length) : w.cell? ⟨g, k * 8 + j, none⟩ = some (.int .u8 (dgx (dgOf (xs.drop (k * 8))) j)) := by
  have := h.cell (k * 8 + j) (by rw [byts_length]; exact hk)
  rw [Nat.zero_add] at this
  rw [this, dgx_dgOf _ j hj]
  simp only [byts, List.getElem?_map, List.getD, List.getElem?_drop, List.getElem?_eq_getElem hk]
  rfl
set_option maxRecDepth 100000 in
set_option maxHeartbeats 2000000 in
theorem rbytes_any (s : St) (b off cap : Nat) (l : List Int) (n : Nat) (w : World) (hn : n = l.length) (h0 : 0 < n) (h1 : n ≤ 1000) (_hcap : n ≤ cap) (hok : BytesOk l) (hr : Row w b off (byts l)) :
    Calls Tryz.prog 177 #[.agg s.cells, .slice (some ⟨b, off, none⟩) n cap] w fun e w' => e = .returned (.agg (bytesS s l).cells) ∧ Ext w w' := by
  have HN := Lib.hid hn
  have HO := Lib.hid hok
  have HR := Lib.hid hr
  clear hn hok hr
  have hx0 : Ext w _ := ((Kept.refl _ w).alloc (.cells s.cells 254)).alloc (.cells (St.cells ⟨0, 0, 0, 0⟩) 254)
  have hB0 : Blk _ w.heap.size 254 s.cells := Blk.alloc (Blk.new w _ _) (.cells (St.cells ⟨0, 0, 0, 0⟩) 254)
  have hR0 : Blk _ (w.heap.size + 1) 254 (St.cells ⟨0, 0, 0, 0⟩) := Blk.new' (w.alloc (.cells s.cells 254)) _ _ _ (by simp)
  go_enter Tryz.func177, Tryz.ntmps177
  go_upto_region 1 with (fail)
  generalize ((w.alloc (.cells #[.int .u64 s.a, .int .u64 s.b, .int .u64 s.c, .int .u64 s.d] 254)).alloc (.cells #[.int .u64 0, .int .u64 0, .int .u64 0, .int .u64 0] 254)) = W at hx0 hB0 hR0 ⊢
  have hW := hR0.lt
  have ho0 : (W.alloc (.cells #[] 5)).ownsRow W.heap.size 5 1 (.slice (some ⟨W.heap.size, 0, none⟩) 0 0) 0 (byts []) := World.ownsRow_made W #[] 0 (Nat.le_refl _) (by unfold maxLen; omega) rfl
  obtain ⟨v1, w1, hr1, ho1, hk1⟩ := appB _ _ _ _ [] ho0 b off n cap l HN.out ((HR.out.ext hx0).ext ((Kept.refl _ W).alloc _)) (by omega) (by simp)
  have hk1' : Ext W w1 := ((Kept.refl _ W).alloc _).trans' hk1 (fun i hi e => by simp [Value.ownBlock] at e; omega)
  rw [Nat.zero_add, List.nil_append] at ho1
  obtain ⟨g1, c1, rfl, hg1, hq1⟩ := own_some ho1 h0
  clear hq1
  obtain ⟨v2, w2, hr2, ho2, hk2⟩ := appB (w1.alloc (.cells #[.int .u8 1] 5)) _ _ _ l (ho1.alloc _) w1.heap.size 0 1 1 [1] rfl (Row.of_blk (Blk.new w1 _ _)) (by omega) (by have := hk1'.size; simp; omega)
  have hk2' : Ext W w2 := (hk1'.alloc _).trans' hk2 (fun i hi e => by simp [Value.ownBlock] at e; omega)
  obtain ⟨g2, c2, rfl, hg2, hrow2, hc2⟩ := own_some ho2 (by omega)
  clear ho0 hk1 hk2 hrow2 hc2
  go_step
  iterate 2 (refine wpList_step (fun K hK => ?_); go_simp; (try go_bits); refine hK _ _ ?_; clear hK K)
  refine wpList_app rfl (.tmp 9) (.tmp 10) 95 rfl rfl rfl rfl hr1 ?_
  (refine wpList_step (fun K hK => ?_); go_simp; (try go_bits); refine hK _ _ ?_; clear hK K)
  refine wpList_app rfl (.tmp 11) (.tmp 12) 95 rfl rfl rfl rfl hr2 ?_
  clear hr1 hr2 ho1 hg1
  go_wp2_with fail
  have hmod : n % 8 < 8 := Nat.mod_lt _ (by decide)
  obtain ⟨N, hN⟩ : ∃ N, N = (n / 8 + 1) * 8 := ⟨_, rfl⟩
  have hN1 : n + 1 ≤ N := by omega
  have hN2 : N ≤ 1008 := by omega
  have hN3 : N % 8 = 0 := by omega
  have hN4 : N < n + 9 := by omega
  have HNN := Lib.hid hN
  clear hN hmod
  have HN3 := Lib.hid hN3
  clear hN3
  go_loopw [5] (fun t5 wr => ∃ (j m g c : Nat), m = n + 1 + j ∧ m ≤ N ∧ t5 = .slice (some ⟨g, 0, none⟩) m c ∧ W.heap.size ≤ g ∧ wr.ownsRow W.heap.size 5 1 (.slice (some ⟨g, 0, none⟩) m c) m (byts (l ++ [1] ++ List.replicate j 0)) ∧ Ext W wr) (fun t5 _ => match t5 with | .slice _ m _ => N - m | _ => 0)
  case atStart => exact ⟨0, n + 1, g2, c2, rfl, hN1, rfl, hg2, by simpa using ho2, hk2'⟩
  case round =>
    obtain ⟨j, m, g, c, hmj, hmN, rfl, hg, ho, hx⟩ := hrel
    clear ho2 hk2'
    have HJ := Lib.hid hmj
    have hmb : n + 1 ≤ m := by omega
    clear hmj
    by_cases hlt : m = N
    · subst hlt
      have hq0 : (((m : Int) % 8) != 0) = false := by have := HN3.out; simp; omega
      obtain ⟨g', c', hv', _, hrow, hcc⟩ := own_some ho (by omega)
      have hlen := hcc.2.2
      obtain ⟨rfl, rfl⟩ : g = g' ∧ c = c' := by simpa using hv'
      clear hv' hcc
      generalize hxs : l ++ [1] ++ List.replicate j 0 = xs at ho hrow hlen
      have HXS := Lib.hid hxs
      have HLEN := Lib.hid hlen
      have HROW := Lib.hid hrow
      have hgl := hrow.lt
      clear hxs hlen hrow ho
      have hokx : BytesOk xs := by
        rw [← HXS.out]
        intro x hx
        rcases List.mem_append.1 hx with h | h
        · rcases List.mem_append.1 h with h | h
          · exact HO.out x h
          · simp at h; subst h; omega
        · have := List.eq_of_mem_replicate h; subst this; omega
      have HOX := Lib.hid hokx
      clear hokx
      go_wp2_with fail
      clear hq0
      have hBr := Blk.ext hB0 hx
      go_loopw [6] (fun i w5 => ∃ k : Nat, k * 8 ≤ m ∧ i = .int .i64 ((k : Int) * 8) ∧ Blk w5 w.heap.size 254 (wholeK s xs k).cells ∧ Kept (· = w.heap.size) wr w5) (fun i _ => m - (intOf i).toNat)
      case atStart => exact ⟨0, by omega, rfl, hBr, Kept.refl _ _⟩
      case round =>
        obtain ⟨k, hk, rfl, hb5, hx5⟩ := hrel
        clear hBr
        by_cases hlt : k * 8 < m
        · have hk8 : k * 8 + 8 ≤ m := by have := HN3.out; omega
          have hrow5 := HROW.out.kept hx5 (by omega)
          have hg5 := hrow5.lt
          obtain ⟨D, hD⟩ : ∃ D, D = dgOf (xs.drop (k * 8)) := ⟨_, rfl⟩
          have hc0 := hrow5.byte k 0 (by omega) (by rw [← HLEN.out]; omega)
          have hc1 := hrow5.byte k 1 (by omega) (by rw [← HLEN.out]; omega)
          have hc2 := hrow5.byte k 2 (by omega) (by rw [← HLEN.out]; omega)
          have hc3 := hrow5.byte k 3 (by omega) (by rw [← HLEN.out]; omega)
          have hc4 := hrow5.byte k 4 (by omega) (by rw [← HLEN.out]; omega)
          have hc5 := hrow5.byte k 5 (by omega) (by rw [← HLEN.out]; omega)
          have hc6 := hrow5.byte k 6 (by omega) (by rw [← HLEN.out]; omega)
          have hc7 := hrow5.byte k 7 (by omega) (by rw [← HLEN.out]; omega)
          rw [← hD] at hc0 hc1 hc2 hc3 hc4 hc5 hc6 hc7
          simp only [dgx, Nat.add_zero] at hc0 hc1 hc2 hc3 hc4 hc5 hc6 hc7
          have HDD := Lib.hid hD
          clear hD hrow5
          go_wp2_with fail
          refine wp_loop_rounds 9 ?_
          iterate 9 (rw [rounds_succ]; go_wp2_with fail)
          clear hc0 hc1 hc2 hc3 hc4 hc5 hc6 hc7
          have hD6 := Blk.new wr 23 D.cells
          have hb6 := Blk.alloc hb5 (.cells D.cells 23)
          have hx6 : Kept (· = w.heap.size) wr _ := (Kept.refl _ wr).alloc (.cells D.cells 23)
          generalize wr.alloc (.cells #[.int .u8 D.x0, .int .u8 D.x1, .int .u8 D.x2, .int .u8 D.x3, .int .u8 D.x4, .int .u8 D.x5, .int .u8 D.x6, .int .u8 D.x7] 23) = w6 at hD6 hb6 hx6 ⊢
          have hDok : D.ok := by rw [HDD.out]; exact dgOf_ok (HOX.out.drop _)
          have HDO := Lib.hid hDok
          clear hDok
          refine wp_region_3 (fun w1 => Ext w6 w1) [(0, 1), (1, 1), (2, 0), (3, 0), (4, 0)] (by kernel_rfl) (by kernel_rfl) (by kernel_rfl) (by kernel_rfl) ?_; intro l' hl'; simp only [List.map_cons, List.map_nil, List.getD_cons_zero, List.getD_cons_succ] at hl'; subst hl'
          (repeat (first | ((apply w3_pure); (· go_simp); (· (intro w1; go_simp; try with_reducible rfl)); (intro K hK; go_simp; refine hK _ _ ?_; clear hK K)) | ((apply w3_skip); (· go_simp); (intro K hK; go_simp; refine hK _ _ ?_; clear hK K)) | ((apply w3_take); (· exact (Kept.drew (Kept.refl _ _))); (· go_simp); (· (intro w1 hS; have d1 := Blk.ext hb6 hS; have hh := Blk.has d1; have hgg := Blk.gets d1; have d2 := Blk.ext hD6 hS; have hh2 := Blk.has d2; have hgg2 := Blk.gets d2;  go_simp; try with_reducible rfl)); (intro K hK; go_simp; refine hK _ _ ?_; clear hK K)) | ((apply w3_pass); (· exact (Kept.drew (Kept.refl _ _))); (· go_simp); (intro K hK; go_simp; refine hK _ _ ?_; clear hK K))))
          (refine w3_act (fun K hK => ?_); go_simp)
          go_wp2_with fail
          refine (rnum_any D HDO.out _).mono ?_
          rintro e w7 ⟨rfl, hx7⟩
          have y7 : Ext w6 w7 := ((Kept.refl _ w6).drew).trans hx7
          refine hK.out _ _ (fun _ => y7) ?_
          clear hK K
          (refine w3_act (fun K hK => ?_); go_simp)
          go_wp2_with fail
          refine (rin_any _ _ _).mono ?_
          rintro e w8 ⟨rfl, hx8⟩
          have y8 := y7.trans hx8
          refine hK.out _ _ (fun _ => y8) ?_
          clear hK K
          have hb8 := Blk.ext hb6 y8
          have hh8 := Blk.has hb8
          have hm8 := Blk.melts hb8
          (repeat (first | ((apply w3_pure); (· go_simp); (· (intro w1; go_simp; try with_reducible rfl)); (intro K hK; go_simp; refine hK _ _ ?_; clear hK K)) | ((apply w3_skip); (· go_simp); (intro K hK; go_simp; refine hK _ _ ?_; clear hK K)) | (refine w3_end (by kernel_rfl) (fun K hK => ?_); go_simp; refine hK.out _ _ ?_; clear hK K))); refine w3_nil ?_
          have hb9 := Blk.put_ hb8 0 (taken (wholeK s xs k) (numD D)).cells
          rw [splice_all' (by rfl)] at hb9
          have hfin : (taken (wholeK s xs k) (numD D)) = wholeK s xs (k + 1) := by rw [HDD.out]; rfl
          have HF := Lib.hid hfin
          clear hfin hD6
          go_wp2_with fail
          go_roundw
          case rel => exact ⟨k + 1, by omega, by go_num, HF.out ▸ hb9, Kept.putAt ((hx5.trans hx6).trans (Kept.ext y8)) _ _ _ (fun _ => rfl)⟩
          case measure => simp only [intOf]; omega
        · have hkm : k * 8 = m := by omega
          have hh5 := Blk.has hb5
          have hg5 := Blk.gets hb5
          have HKM := Lib.hid hkm
          clear hkm
          have hR5 := Blk.kept (Blk.ext hR0 hx) hx5 (by omega)
          go_wp2_with fail
          refine (rin_any _ _ _).mono ?_
          rintro e w6 ⟨rfl, hx6⟩
          have hR6 := Blk.ext hR5 hx6
          have hh6 := Blk.has hR6
          have hm6 := Blk.melts hR6
          go_wp2_with fail
          refine ret_cell Tryz.results177 rfl rfl aggRs (by exact sizeRs) (Blk.put_ hR6 _ _) ⟨?_, ?_⟩
          · have hk1 : k = l.length / 8 + 1 := by have := HKM.out; have := HNN.out; have := HN.out; omega
            unfold bytesS
            rw [← wholeK_pad s l j, ← hk1, HXS.out, ← HN.out]
            rfl
          · exact Kept.putAt (((hx0.trans hx).trans' hx5 (fun i hi e => by omega)).trans hx6) _ _ _ (fun h => by omega)
    · have hne : m % 8 ≠ 0 := by have := HNN.out; have := HN3.out; omega
      have hq : (((m : Int) % 8) != 0) = true := by simp; omega
      have hltN : m < N := by omega
      clear hlt hne
      obtain ⟨v3, w3, hr3, ho3, hk3⟩ := appB (wr.alloc (.cells #[.int .u8 0] 5)) _ _ _ _ (ho.alloc _) wr.heap.size 0 1 1 [0] rfl (Row.of_blk (Blk.new wr _ _)) (by omega) (by have := hx.size; simp; omega)
      have hk3' : Ext W w3 := (hx.alloc _).trans' hk3 (fun i hi e => by simp [Value.ownBlock] at e; omega)
      obtain ⟨g3, c3, rfl, hg3, hq3⟩ := own_some ho3 (by omega)
      clear hq3 hk3 ho
      go_upto_region 3 with (fail)
      go_step
      iterate 2 (refine wpList_step (fun K hK => ?_); go_simp; (try go_bits); refine hK _ _ ?_; clear hK K)
      refine wpList_app rfl (.tmp 18) (.tmp 19) 95 rfl rfl rfl rfl hr3 ?_
      clear hr3
      go_wp2_with fail
      go_roundw
      case rel => exact ⟨j + 1, m + 1, g3, c3, by have := HJ.out; omega, by omega, rfl, hg3, by rw [List.replicate_succ', ← List.append_assoc]; exact ho3, hk3'⟩
      case measure => simp; omega
set_option maxRecDepth 100000 in
set_option maxHeartbeats 400000 in
theorem rof_any (b off cap : Nat) (l : List Int) (n : Nat) (w : World) (hn : n = l.length) (h0 : 0 < n) (h1 : n ≤ 1000) (hcap : n ≤ cap) (hok : BytesOk l) (hr : Row w b off (byts l)) :
    Calls Tryz.prog 183 #[.slice (some ⟨b, off, none⟩) n cap] w fun e w' => e = .returned (.agg (hOf l).cells) ∧ Ext w w' := by
  have HN := Lib.hid hn
  have HO := Lib.hid hok
  have HR := Lib.hid hr
  clear hn hok hr
  have hx0 : Ext w _ := (Kept.refl _ w).alloc (.cells Dg.zero.cells 23)
  have hR0 := Blk.new w 23 Dg.zero.cells
  go_enter Tryz.func183, Tryz.ntmps183
  go_wp2_with fail
  refine (rbegin_any 1 _).mono ?_
  rintro e w1 ⟨rfl, hx1⟩
  go_wp2_with fail
  refine (rbytes_any (bg 1) b off cap l n _ HN.out h0 h1 hcap HO.out (HR.out.ext (hx0.trans hx1))).mono ?_
  rintro e w2 ⟨rfl, hx2⟩
  go_wp2_with fail
  refine (rout_any _ _).mono ?_
  rintro e w3 ⟨rfl, hx3⟩
  have hR3 := Blk.ext hR0 ((hx1.trans hx2).trans hx3)
  have hh3 := Blk.has hR3
  have hm3 := Blk.melts hR3
  go_wp2_with fail
  refine ret_cell Tryz.results183 rfl rfl aggArr8 (by exact sizeArr8) (Blk.put_ hR3 _ _) ⟨rfl, ?_⟩
  exact Kept.putAt (((hx0.trans hx1).trans hx2).trans hx3) _ _ _ (fun h => by omega)
end Go.Proofs.YtahljceanodhkaaGreatDoor

/- Package tree: leaves, roots' words. -/
namespace Go.Proofs.YtahljceanodhkaaGreatDoor
open Go.RowKit
def leafB : List Int := [108, 101, 97, 102]
def noneB : List Int := [110, 111, 110, 101]
def hLow (d : Dg) : Dg := hWord d leafB
theorem hWord_ok (d : Dg) (l : List Int) : (hWord d l).ok := out_ok _
theorem hTwo_ok (a b : Dg) : (hTwo a b).ok := out_ok _
theorem hMany_ok (l : List Dg) : (hMany l).ok := out_ok _
theorem hOf_ok (l : List Int) : (hOf l).ok := out_ok _
set_option maxHeartbeats 400000 in
theorem low_any (d : Dg) (hd : d.ok) (w : World) : Calls Tryz.prog 150 #[.agg #[.int .u8 d.x0, .int .u8 d.x1, .int .u8 d.x2, .int .u8 d.x3, .int .u8 d.x4, .int .u8 d.x5, .int .u8 d.x6, .int .u8 d.x7]] w fun e w' => e = .returned (.agg (hLow d).cells) ∧ Ext w w' := by
  have HD := Lib.hid hd
  clear hd
  have hx0 : Ext w _ := ((Kept.refl _ w).alloc (.cells #[.int .u8 d.x0, .int .u8 d.x1, .int .u8 d.x2, .int .u8 d.x3, .int .u8 d.x4, .int .u8 d.x5, .int .u8 d.x6, .int .u8 d.x7] 30)).alloc (.cells Dg.zero.cells 30)
  have hR0 : Blk _ (w.heap.size + 1) 30 Dg.zero.cells := Blk.new' (w.alloc (.cells #[.int .u8 d.x0, .int .u8 d.x1, .int .u8 d.x2, .int .u8 d.x3, .int .u8 d.x4, .int .u8 d.x5, .int .u8 d.x6, .int .u8 d.x7] 30)) _ _ _ (by simp)
  go_enter Tryz.func150, Tryz.ntmps150
  go_wp2_with fail
  refine (word_any d HD.out _ (by decide) _).mono ?_
  rintro e w1 ⟨rfl, hx1⟩
  have hR1 := Blk.ext hR0 hx1
  have hh1 := Blk.has hR1
  have hm1 := Blk.melts hR1
  go_wp2_with fail
  refine ret_cell Tryz.results150 rfl rfl aggDig (by exact sizeDig) (Blk.put_ hR1 _ _) ⟨rfl, ?_⟩
  exact Kept.putAt (hx0.trans hx1) _ _ _ (fun h => by omega)
def digS (h : Nat) : ByteArray := if h < 10 then ⟨#[UInt8.ofNat (48 + h)]⟩ else ⟨#[49, UInt8.ofNat (38 + h)]⟩
set_option maxRecDepth 100000 in
set_option maxHeartbeats 1000000 in
theorem itoa_k (h : Nat) (hh : h ≤ 12) (w : World) : Calls Tryz.prog 175 #[.int .i64 h] w fun e w' => e = .returned (.string (digS h)) ∧ w = w' := by
  rcases (by omega : h = 0 ∨ h = 1 ∨ h = 2 ∨ h = 3 ∨ h = 4 ∨ h = 5 ∨ h = 6 ∨ h = 7 ∨ h = 8 ∨ h = 9 ∨ h = 10 ∨ h = 11 ∨ h = 12) with rfl | rfl | rfl | rfl | rfl | rfl | rfl | rfl | rfl | rfl | rfl | rfl | rfl
  all_goals
    clear hh
    go_enter Tryz.func175, Tryz.ntmps175
    go_wp2
    go_ret
    exact ⟨by kernel_rfl, rfl⟩
end Go.Proofs.YtahljceanodhkaaGreatDoor

/- Package tree: top, Height. -/
namespace Go.Proofs.YtahljceanodhkaaGreatDoor
open Go.RowKit
def rootS (h : Nat) : ByteArray := ⟨#[114, 111, 111, 116]⟩ ++ digS h
def rootB (h : Nat) : List Int := strB (rootS h)
def hTop (d : Dg) (h : Nat) : Dg := hWord d (rootB h)
theorem digS_size (h : Nat) : (digS h).size ≤ 2 := by
  unfold digS
  split
  · exact Nat.le_succ 1
  · exact Nat.le_refl 2
theorem rootS_size (h : Nat) : (rootS h).size ≤ maxLen := by
  have := digS_size h
  have e : (⟨#[114, 111, 111, 116]⟩ : ByteArray).size = 4 := rfl
  unfold rootS maxLen
  rw [ByteArray.size_append, e]
  omega
set_option maxRecDepth 100000 in
set_option maxHeartbeats 1000000 in
theorem top_any (d : Dg) (hd : d.ok) (h : Nat) (hh : h ≤ 12) (w : World) : Calls Tryz.prog 122 #[.agg #[.int .u8 d.x0, .int .u8 d.x1, .int .u8 d.x2, .int .u8 d.x3, .int .u8 d.x4, .int .u8 d.x5, .int .u8 d.x6, .int .u8 d.x7], .int .i64 h] w fun e w' => e = .returned (.agg (hTop d h).cells) ∧ Ext w w' := by
  have HD := Lib.hid hd
  clear hd
  have hx0 : Ext w _ := ((Kept.refl _ w).alloc (.cells #[.int .u8 d.x0, .int .u8 d.x1, .int .u8 d.x2, .int .u8 d.x3, .int .u8 d.x4, .int .u8 d.x5, .int .u8 d.x6, .int .u8 d.x7] 30)).alloc (.cells Dg.zero.cells 30)
  have hA0 : Blk _ w.heap.size 30 d.cells := Blk.alloc (Blk.new w _ _) (.cells Dg.zero.cells 30)
  have hR0 : Blk _ (w.heap.size + 1) 30 Dg.zero.cells := Blk.new' (w.alloc (.cells #[.int .u8 d.x0, .int .u8 d.x1, .int .u8 d.x2, .int .u8 d.x3, .int .u8 d.x4, .int .u8 d.x5, .int .u8 d.x6, .int .u8 d.x7] 30)) _ _ _ (by simp)
  go_enter Tryz.func122, Tryz.ntmps122
  go_wp2_with fail
  refine wp_region_3 (fun w1 => Ext ((w.alloc (.cells #[.int .u8 d.x0, .int .u8 d.x1, .int .u8 d.x2, .int .u8 d.x3, .int .u8 d.x4, .int .u8 d.x5, .int .u8 d.x6, .int .u8 d.x7] 30)).alloc (.cells Dg.zero.cells 30)) w1) [(0, 1), (1, 2), (2, 0), (3, 2), (4, 0), (5, 0)] (by kernel_rfl) (by kernel_rfl) (by kernel_rfl) (by kernel_rfl) ?_; intro l' hl'; simp only [List.map_cons, List.map_nil, List.getD_cons_zero, List.getD_cons_succ] at hl'; subst hl'
  (repeat (first | ((apply w3_pure); (· go_simp); (· (intro w1; go_simp; try with_reducible rfl)); (intro K hK; go_simp; refine hK _ _ ?_; clear hK K)) | ((apply w3_skip); (· go_simp); (intro K hK; go_simp; refine hK _ _ ?_; clear hK K)) | ((apply w3_take); (· exact (Kept.drew (Kept.refl _ _))); (· go_simp); (· (intro w1 hS; have d1 := Blk.ext hA0 hS; have hh := Blk.has d1; have hg := Blk.gets d1;  go_simp; try with_reducible rfl)); (intro K hK; go_simp; refine hK _ _ ?_; clear hK K)) | ((apply w3_pass); (· exact (Kept.drew (Kept.refl _ _))); (· go_simp); (intro K hK; go_simp; refine hK _ _ ?_; clear hK K))))
  (refine w3_act (fun K hK => ?_); go_simp)
  go_wp2_with fail
  refine (itoa_k h hh _).mono ?_
  rintro e w1 ⟨rfl, rfl⟩
  refine hK.out _ _ (fun h => h) ?_
  clear hK K
  have hsum : (⟨#[114, 111, 111, 116]⟩ : ByteArray).size + (digS h).size ≤ 9223372036854775807 := by
    have := digS_size h
    have e : (⟨#[114, 111, 111, 116]⟩ : ByteArray).size = 4 := rfl
    omega
  have hadd := fun w => run_string_add_sum (P := Tryz.prog) w ⟨#[114, 111, 111, 116]⟩ (digS h) hsum
  clear hsum
  (repeat (first | ((apply w3_pure); (· go_simp); (· (intro w1; go_simp; try with_reducible rfl)); (intro K hK; go_simp; refine hK _ _ ?_; clear hK K)) | ((apply w3_skip); (· go_simp); (intro K hK; go_simp; refine hK _ _ ?_; clear hK K))))
  clear hadd
  (refine w3_act (fun K hK => ?_); go_simp)
  go_wp2_with fail
  refine (word_any d HD.out (rootS h) (rootS_size h) _).mono ?_
  rintro e w2 ⟨rfl, hx2⟩
  have hx2' : Ext ((w.alloc (.cells #[.int .u8 d.x0, .int .u8 d.x1, .int .u8 d.x2, .int .u8 d.x3, .int .u8 d.x4, .int .u8 d.x5, .int .u8 d.x6, .int .u8 d.x7] 30)).alloc (.cells Dg.zero.cells 30)) w2 := ((Kept.refl _ _).drew).trans hx2
  refine hK.out _ _ (fun _ => hx2') ?_
  clear hK K
  have hR1 := Blk.ext hR0 hx2'
  have hh1 := Blk.has hR1
  have hm1 := Blk.melts hR1
  (repeat (first | ((apply w3_pure); (· go_simp); (· (intro w1; go_simp; try with_reducible rfl)); (intro K hK; go_simp; refine hK _ _ ?_; clear hK K)) | ((apply w3_skip); (· go_simp); (intro K hK; go_simp; refine hK _ _ ?_; clear hK K)) | (refine w3_end (by kernel_rfl) (fun K hK => ?_); go_simp; refine hK.out _ _ ?_; clear hK K))); refine w3_nil ?_
  go_wp2_with fail
  refine ret_cell Tryz.results122 rfl rfl aggDig (by exact sizeDig) (Blk.put_ hR1 _ _) ⟨rfl, ?_⟩
  exact Kept.putAt (hx0.trans hx2') _ _ _ (fun h => by omega)
/-- how many levels are above so many leaves -/
def hgt (n : Nat) : Nat := Go.Lib.bitLen (n - 1)
set_option maxRecDepth 100000 in
set_option maxHeartbeats 1000000 in
theorem height_ok (n : Nat) (h1 : 1 ≤ n) (h2 : n ≤ 4096) (w : World) : Calls Tryz.prog 81 #[.int .i64 n] w fun e w' => e = .returned (.int .i64 (hgt n)) ∧ w = w' := by
  go_enter Tryz.func81, Tryz.ntmps81
  go_wp2_with fail
  refine (Tryz.bits_Len _ _ (by omega) (by omega)).mono ?_
  rintro e w1 ⟨rfl, rfl⟩
  go_wp2_with fail
  go_ret
  refine ⟨ret_int ?_, rfl⟩
  unfold hgt
  congr 2
theorem height_no (n : Int) (h : n < 1 ∨ 4096 < n) (w : World) : Calls Tryz.prog 81 #[.int .i64 n] w fun e w' => e = .returned (.int .i64 (-1)) ∧ w = w' := by
  by_cases h1 : n < 1
  · go_enter Tryz.func81, Tryz.ntmps81
    go_wp2_with fail
    go_ret
    exact ⟨rfl, rfl⟩
  · have h2 : 4096 < n := by omega
    clear h
    go_enter Tryz.func81, Tryz.ntmps81
    go_wp2_with fail
    go_ret
    exact ⟨rfl, rfl⟩
end Go.Proofs.YtahljceanodhkaaGreatDoor

/- Package baizeref04: leaves, nodes, roots. -/
namespace Go.Proofs.YtahljceanodhkaaGreatDoor
open Go.RowKit
theorem rbytesIs : RBytesIs := by
  intro s A cap l n w hb h0 h1
  rcases hb.at_ with ⟨_, h, _⟩ | ⟨b, off, rfl, hr⟩
  · omega
  · exact rbytes_any s b off cap l n w hb.len h0 h1 hb.le hb.ok (hr h0)
set_option maxHeartbeats 400000 in
theorem rlow_any (d : Dg) (hd : d.ok) (w : World) : Calls Tryz.prog 180 #[.agg #[.int .u8 d.x0, .int .u8 d.x1, .int .u8 d.x2, .int .u8 d.x3, .int .u8 d.x4, .int .u8 d.x5, .int .u8 d.x6, .int .u8 d.x7]] w fun e w' => e = .returned (.agg (hLow d).cells) ∧ Ext w w' := by
  have HD := Lib.hid hd
  clear hd
  have hx0 : Ext w _ := ((Kept.refl _ w).alloc (.cells #[.int .u8 d.x0, .int .u8 d.x1, .int .u8 d.x2, .int .u8 d.x3, .int .u8 d.x4, .int .u8 d.x5, .int .u8 d.x6, .int .u8 d.x7] 23)).alloc (.cells Dg.zero.cells 23)
  have hR0 : Blk _ (w.heap.size + 1) 23 Dg.zero.cells := Blk.new' (w.alloc (.cells #[.int .u8 d.x0, .int .u8 d.x1, .int .u8 d.x2, .int .u8 d.x3, .int .u8 d.x4, .int .u8 d.x5, .int .u8 d.x6, .int .u8 d.x7] 23)) _ _ _ (by simp)
  go_enter Tryz.func180, Tryz.ntmps180
  go_wp2_with fail
  refine (rword_any rbytesIs d HD.out _ (by decide) (by decide) _).mono ?_
  rintro e w1 ⟨rfl, hx1⟩
  have hR1 := Blk.ext hR0 hx1
  have hh1 := Blk.has hR1
  have hm1 := Blk.melts hR1
  go_wp2_with fail
  refine ret_cell Tryz.results180 rfl rfl aggArr8 (by exact sizeArr8) (Blk.put_ hR1 _ _) ⟨rfl, ?_⟩
  exact Kept.putAt (hx0.trans hx1) _ _ _ (fun h => by omega)
def hNone : Dg := hWord Dg.zero noneB
set_option maxHeartbeats 400000 in
theorem rlack_any (w : World) : Calls Tryz.prog 181 #[] w fun e w' => e = .returned (.agg hNone.cells) ∧ Ext w w' := by
  have hx0 : Ext w _ := (Kept.refl _ w).alloc (.cells Dg.zero.cells 23)
  have hR0 := Blk.new w 23 Dg.zero.cells
  go_enter Tryz.func181, Tryz.ntmps181
  go_wp2_with fail
  refine (rword_any rbytesIs Dg.zero dg0_ok _ (by decide) (by decide) _).mono ?_
  rintro e w1 ⟨rfl, hx1⟩
  have hR1 := Blk.ext hR0 hx1
  have hh1 := Blk.has hR1
  have hm1 := Blk.melts hR1
  go_wp2_with fail
  refine ret_cell Tryz.results181 rfl rfl aggArr8 (by exact sizeArr8) (Blk.put_ hR1 _ _) ⟨rfl, ?_⟩
  exact Kept.putAt (hx0.trans hx1) _ _ _ (fun h => by omega)
/-- the digest of a place on a level -/
def nodeT (l : List Dg) : Nat → Nat → Dg
  | 0, k => match l[k]? with | some d => hLow d | none => hNone
  | v + 1, k => hTwo (nodeT l v (2 * k)) (nodeT l v (2 * k + 1))
theorem nodeT_ok (l : List Dg) : ∀ v k, (nodeT l v k).ok
  | 0, k => by
    unfold nodeT
    split
    · exact hWord_ok _ _
    · exact hWord_ok _ _
  | v + 1, k => hTwo_ok _ _
set_option maxRecDepth 100000 in
set_option maxHeartbeats 1000000 in
theorem rnode_any (A : Option Addr) (b off cap : Nat) (l : List Dg) (n : Nat) (hn : n = l.length) (hl : n ≤ 1000000) (hok : ∀ d ∈ l, d.ok) (hA : 0 < n → A = some ⟨b, off, none⟩) :
    ∀ (v k : Nat) (w : World), (0 < n → Row w b off (digs l)) → (k + 1) * 2 ^ v ≤ 1048576 → v ≤ 20 →
    Calls Tryz.prog 124 #[.slice A n cap, .int .i64 v, .int .i64 k] w fun e w' => e = .returned (.agg (nodeT l v k).cells) ∧ Ext w w' := by
  have HN := Lib.hid hn
  have HO := Lib.hid hok
  have HA := Lib.hid hA
  clear hn hok hA
  intro v
  induction v with
  | zero =>
    intro k w hr hk hv
    have HR := Lib.hid hr
    clear hr
    simp only [Nat.pow_zero, Nat.mul_one] at hk
    have hx0 : Ext w _ := (Kept.refl _ w).alloc (.cells Dg.zero.cells 23)
    have hR0 := Blk.new w 23 Dg.zero.cells
    by_cases hlt : k < n
    · have hkl : k < l.length := by have := HN.out; omega
      obtain rfl := HA.out (by omega)
      obtain ⟨hrh, hrg⟩ := (HR.out (by omega)).dig k hkl
      have hbl := (HR.out (by omega)).lt
      have hq : nodeT l 0 k = hLow l[k] := by simp [nodeT, List.getElem?_eq_getElem hkl]
      rw [hq]
      clear hq
      go_enter Tryz.func124, Tryz.ntmps124
      go_wp2_with fail
      refine (rlow_any l[k] (HO.out _ (List.getElem_mem hkl)) _).mono ?_
      rintro e w1 ⟨rfl, hx1⟩
      have hR1 := Blk.ext hR0 hx1
      have hh1 := Blk.has hR1
      have hm1 := Blk.melts hR1
      go_wp2_with fail
      refine ret_cell Tryz.results124 rfl rfl aggArr8 (by exact sizeArr8) (Blk.put_ hR1 _ _) ⟨rfl, ?_⟩
      exact Kept.putAt (hx0.trans hx1) _ _ _ (fun h => by omega)
    · have hq : nodeT l 0 k = hNone := by
        have := HN.out
        simp [nodeT, List.getElem?_eq_none (show l.length ≤ k by omega)]
      rw [hq]
      clear hq
      go_enter Tryz.func124, Tryz.ntmps124
      go_wp2_with fail
      refine (rlack_any _).mono ?_
      rintro e w1 ⟨rfl, hx1⟩
      have hR1 := Blk.ext hR0 hx1
      have hh1 := Blk.has hR1
      have hm1 := Blk.melts hR1
      go_wp2_with fail
      refine ret_cell Tryz.results124 rfl rfl aggArr8 (by exact sizeArr8) (Blk.put_ hR1 _ _) ⟨rfl, ?_⟩
      exact Kept.putAt (hx0.trans hx1) _ _ _ (fun h => by omega)
  | succ v ih =>
    intro k w hr hk hv
    have HR := Lib.hid hr
    have HI := Lib.hid ih
    clear hr ih
    have hp : 1 ≤ 2 ^ v := Nat.one_le_two_pow
    have hk2 : (2 * k + 1 + 1) * 2 ^ v ≤ 1048576 := by rw [Nat.pow_succ] at hk; rw [show 2 * k + 1 + 1 = (k + 1) * 2 by omega, Nat.mul_assoc, Nat.mul_comm 2]; exact hk
    have hk1 : (2 * k + 1) * 2 ^ v ≤ 1048576 := Nat.le_trans (Nat.mul_le_mul_right _ (by omega)) hk2
    have hk0 : 2 * k + 2 ≤ 1048576 := Nat.le_trans (Nat.le_mul_of_pos_right _ hp) hk2
    have HK1 := Lib.hid hk1
    have HK2 := Lib.hid hk2
    clear hk1 hk2 hk hp
    have hx0 : Ext w _ := (Kept.refl _ w).alloc (.cells Dg.zero.cells 23)
    have hR0 := Blk.new w 23 Dg.zero.cells
    go_enter Tryz.func124, Tryz.ntmps124
    go_wp2_with fail
    refine (HI.out (2 * k) _ (fun h => (HR.out h).ext hx0) HK1.out (by omega)).mono ?_
    rintro e w1 ⟨rfl, hx1⟩
    go_wp2_with fail
    refine (HI.out (2 * k + 1) _ (fun h => (HR.out h).ext (hx0.trans hx1)) HK2.out (by omega)).mono ?_
    rintro e w2 ⟨rfl, hx2⟩
    go_wp2_with fail
    refine (rtwo_any _ _ (nodeT_ok l v _) (nodeT_ok l v _) _).mono ?_
    rintro e w3 ⟨rfl, hx3⟩
    have hR3 := Blk.ext hR0 ((hx1.trans hx2).trans hx3)
    have hh3 := Blk.has hR3
    have hm3 := Blk.melts hR3
    go_wp2_with fail
    refine ret_cell Tryz.results124 rfl rfl aggArr8 (by exact sizeArr8) (Blk.put_ hR3 _ _) ⟨rfl, ?_⟩
    exact Kept.putAt (((hx0.trans hx1).trans hx2).trans hx3) _ _ _ (fun h => by omega)
theorem conv1 (w : World) (c : Int) : (convert 95 9 (.slice (some ⟨w.heap.size, 0, none⟩) 1 1)).run Tryz.prog (w.alloc (.cells #[.int .u8 c] 5)) = .ok (.string (strOfNums [c])) (w.alloc (.cells #[.int .u8 c] 5)) := by
  exact run_convert_bytes_arg (P := Tryz.prog) (w.alloc (.cells #[.int .u8 c] 5)) 95 5 Tryz.underlying95 Tryz.underlying5 w.heap.size 0 1 1 [c] rfl (fun i hi => by
    obtain rfl : i = 0 := by omega
    exact Blk.cell (Blk.new w _ _) 0) _ Tryz.underlying9
set_option maxRecDepth 100000 in
set_option maxHeartbeats 1000000 in
theorem rname_any (h : Nat) (hh : h ≤ 12) (w : World) : Calls Tryz.prog 125 #[.int .i64 h] w fun e w' => e = .returned (.string (rootS h)) ∧ Ext w w' := by
  have hcv := conv1
  rcases (by omega : h = 0 ∨ h = 1 ∨ h = 2 ∨ h = 3 ∨ h = 4 ∨ h = 5 ∨ h = 6 ∨ h = 7 ∨ h = 8 ∨ h = 9 ∨ h = 10 ∨ h = 11 ∨ h = 12) with rfl | rfl | rfl | rfl | rfl | rfl | rfl | rfl | rfl | rfl | rfl | rfl | rfl
  all_goals
    clear hh
    go_enter Tryz.func125, Tryz.ntmps125
    go_wp2
    go_ret
    refine ⟨by kernel_rfl, ?_⟩
    ((repeat' (with_reducible (first | apply Kept.drew | apply Kept.drewN | apply Kept.alloc | apply Kept.setCell | apply Kept.putAt | exact Kept.refl _ _))) <;> (intro hlt; first | rfl | (simp at hlt; done) | (exfalso; simp at hlt; omega) | omega))
end Go.Proofs.YtahljceanodhkaaGreatDoor

/- The walks of package halve, more: Choose, New, Span. -/
namespace Go.Proofs.YtahljceanodhkaaGreatDoor
open Go.RowKit
set_option maxHeartbeats 400000 in
theorem choose_first (b : Nat) (t : Tr) (w : World) (ht : At w b t) (h : askedE t 1 false = 0) (h0 : 0 ≤ t.steps) (h1 : t.steps ≤ 1048576) :
    Calls Tryz.prog 16 #[.pointer (some ⟨b, 0, none⟩), .bool true] w fun e w' => e = .returned (.int .i64 0) ∧ At w' b { t with steps := t.steps / 2, after := t.mid, mid := Dg.zero, turn := 0 } ∧ Kept (· = b) w w' := by
  have hlt : b < w.heap.size := Blk.lt ht
  go_enter Tryz.func16, Tryz.ntmps16
  go_wp2_with (go_at_call 57; refine (asked_any b t _ _ _ ht).mono ?_; rintro e w' ⟨rfl, rfl⟩)
  refine wp_region_tx (fun w1 => At w1 b t) [true, true, true, true, true, true, true, true, true, false, false, false, false] (by kernel_rfl) (by kernel_rfl) (by kernel_rfl) ?_
  (repeat (first | ((apply wpTx_take); (· exact ht); (· go_simp); (· (intro w1 hS; have hh := Blk.has hS; have hg := Blk.gets hS;  go_simp; try with_reducible rfl)); (intro K hK; go_simp; refine hK _ _ ?_; clear hK K)) | ((apply wpTx_pass); (· exact ht); (· go_simp); (intro K hK; go_simp; refine hK _ _ ?_; clear hK K))))
  (refine wpTx_act (fun K hK => ?_); go_simp)
  go_wp2_with (go_at_call 58; refine (first_any ⟨t.from_, t.steps, t.before, t.after⟩ t.mid _ h0 h1).mono ?_; rintro e w' ⟨rfl, hx⟩)
  refine hK.out _ _ (Blk.ext (w := w.drew) ht hx) (fun hA1 => ?_)
  clear hK K
  have hh1 := Blk.has hA1
  have hm1 := Blk.melts hA1
  have hc1 := Blk.cell hA1
  have hf1 := Blk.frozen hA1
  (repeat (refine wpTx_act (fun K hK => ?_); go_simp; refine hK.out _ _ hA1 (fun _ => ?_); clear hK K))
  (refine wpTx_end (by kernel_rfl) (fun K hK => ?_); go_simp)
  refine hK.out _ _ ?_
  clear hK K
  refine wpTx_nil ?_
  go_wp2
  go_ret
  refine ⟨rfl, ?_, ?_⟩
  · (apply At.of; (· (repeat' (with_reducible (first | assumption | apply Blk.set_ | apply Blk.put_ | apply Blk.alloc | apply Blk.drew | apply Blk.drewN)))); (· kernel_rfl))
  · refine Kept.trans' (w := w') (S' := (· = b)) (Kept.ext (Kept.trans (w := w.drew) ?_ hx)) ?_ (fun _ _ h => h)
    · ((repeat' (with_reducible (first | apply Kept.drew | apply Kept.drewN | apply Kept.alloc | apply Kept.setCell | apply Kept.putAt | exact Kept.refl _ _))) <;> (intro hlt; first | rfl | (simp at hlt; done) | (exfalso; simp at hlt; omega) | omega))
    · ((repeat' (with_reducible (first | apply Kept.drew | apply Kept.drewN | apply Kept.alloc | apply Kept.setCell | apply Kept.putAt | exact Kept.refl _ _))) <;> (intro hlt; first | rfl | (simp at hlt; done) | (exfalso; simp at hlt; omega) | omega))
set_option maxHeartbeats 400000 in
theorem choose_second (b : Nat) (t : Tr) (w : World) (ht : At w b t) (h : askedE t 1 false = 0) (h0 : 0 ≤ t.steps) (h1 : t.steps ≤ 1048576) (h2 : 0 ≤ t.from_) (h3 : t.from_ ≤ 1048576) :
    Calls Tryz.prog 16 #[.pointer (some ⟨b, 0, none⟩), .bool false] w fun e w' => e = .returned (.int .i64 0) ∧ At w' b { t with from_ := t.from_ + t.steps / 2, steps := t.steps - t.steps / 2, before := t.mid, mid := Dg.zero, turn := 0 } ∧ Kept (· = b) w w' := by
  have hlt : b < w.heap.size := Blk.lt ht
  go_enter Tryz.func16, Tryz.ntmps16
  go_wp2_with (go_at_call 57; refine (asked_any b t _ _ _ ht).mono ?_; rintro e w' ⟨rfl, rfl⟩)
  refine wp_region_tx (fun w1 => At w1 b t) [true, true, true, true, true, true, true, true, true, false, false, false, false] (by kernel_rfl) (by kernel_rfl) (by kernel_rfl) ?_
  (repeat (first | ((apply wpTx_take); (· exact ht); (· go_simp); (· (intro w1 hS; have hh := Blk.has hS; have hg := Blk.gets hS;  go_simp; try with_reducible rfl)); (intro K hK; go_simp; refine hK _ _ ?_; clear hK K)) | ((apply wpTx_pass); (· exact ht); (· go_simp); (intro K hK; go_simp; refine hK _ _ ?_; clear hK K))))
  (refine wpTx_act (fun K hK => ?_); go_simp)
  go_wp2_with (go_at_call 59; refine (second_any ⟨t.from_, t.steps, t.before, t.after⟩ t.mid _ h0 h1 h2 h3).mono ?_; rintro e w' ⟨rfl, hx⟩)
  refine hK.out _ _ (Blk.ext (w := w.drew) ht hx) (fun hA1 => ?_)
  clear hK K
  have hh1 := Blk.has hA1
  have hm1 := Blk.melts hA1
  have hc1 := Blk.cell hA1
  have hf1 := Blk.frozen hA1
  (repeat (refine wpTx_act (fun K hK => ?_); go_simp; refine hK.out _ _ hA1 (fun _ => ?_); clear hK K))
  (refine wpTx_end (by kernel_rfl) (fun K hK => ?_); go_simp)
  refine hK.out _ _ ?_
  clear hK K
  refine wpTx_nil ?_
  go_wp2
  go_ret
  refine ⟨rfl, ?_, ?_⟩
  · (apply At.of; (· (repeat' (with_reducible (first | assumption | apply Blk.set_ | apply Blk.put_ | apply Blk.alloc | apply Blk.drew | apply Blk.drewN)))); (· kernel_rfl))
  · refine Kept.trans' (w := w') (S' := (· = b)) (Kept.ext (Kept.trans (w := w.drew) ?_ hx)) ?_ (fun _ _ h => h)
    · ((repeat' (with_reducible (first | apply Kept.drew | apply Kept.drewN | apply Kept.alloc | apply Kept.setCell | apply Kept.putAt | exact Kept.refl _ _))) <;> (intro hlt; first | rfl | (simp at hlt; done) | (exfalso; simp at hlt; omega) | omega))
    · ((repeat' (with_reducible (first | apply Kept.drew | apply Kept.drewN | apply Kept.alloc | apply Kept.setCell | apply Kept.putAt | exact Kept.refl _ _))) <;> (intro hlt; first | rfl | (simp at hlt; done) | (exfalso; simp at hlt; omega) | omega))
def chooseT (t : Tr) (f : Bool) : Tr :=
  if askedE t 1 false = 0 then (if f then { t with steps := t.steps / 2, after := t.mid, mid := Dg.zero, turn := 0 } else { t with from_ := t.from_ + t.steps / 2, steps := t.steps - t.steps / 2, before := t.mid, mid := Dg.zero, turn := 0 }) else t
theorem choose_any (b : Nat) (t : Tr) (f : Bool) (w : World) (ht : At w b t) (h0 : 0 ≤ t.steps) (h1 : t.steps ≤ 1048576) (h2 : 0 ≤ t.from_) (h3 : t.from_ ≤ 1048576) :
    Calls Tryz.prog 16 #[.pointer (some ⟨b, 0, none⟩), .bool f] w fun e w' => e = .returned (.int .i64 (askedE t 1 false)) ∧ At w' b (chooseT t f) ∧ Kept (· = b) w w' := by
  unfold chooseT
  by_cases h : askedE t 1 false = 0
  · rw [if_pos h, h]
    cases f
    · exact choose_second b t w ht h h0 h1 h2 h3
    · exact choose_first b t w ht h h0 h1
  · rw [if_neg h]; exact choose_no b t f w ht (by simpa using h)
def silenceE (t : Tr) : Int := if t.turn == 0 then 0 else if t.turn == 1 then 0 else 15
def silenceT (t : Tr) : Tr := if t.turn == 0 then { t with turn := -1, winner := 1 } else if t.turn == 1 then { t with turn := -1, winner := 0 } else t
theorem silence_any (b : Nat) (t : Tr) (w : World) (ht : At w b t) :
    Calls Tryz.prog 18 #[.pointer (some ⟨b, 0, none⟩)] w fun e w' => e = .returned (.int .i64 (silenceE t)) ∧ At w' b (silenceT t) ∧ Kept (· = b) w w' := by
  unfold silenceE silenceT
  cases h0 : t.turn == 0
  · cases h1 : t.turn == 1
    · simpa using silence_over b t w ht h0 h1
    · simpa using silence_doubter b t w ht h0 h1
  · simpa using silence_teller b t w ht h0

set_option maxHeartbeats 400000 in
theorem span_any (b : Nat) (t : Tr) (w : World) (ht : At w b t) :
    Calls Tryz.prog 26 #[.pointer (some ⟨b, 0, none⟩)] w fun e w' => e = .returned (.tuple #[.int .i64 t.from_, .int .i64 t.steps, .agg t.before.cells, .agg t.after.cells]) ∧ Ext w w' := by
  have hlt : b < w.heap.size := Blk.lt ht
  go_enter Tryz.func26, Tryz.ntmps26
  go_wp2
  refine wp_region_tx (fun w1 => At w1 b t) [true, true, true, true, true, true, true, true, true, true, true, true, true, true, true, true, true, true, true, true, true, true, false, false] (by kernel_rfl) (by kernel_rfl) (by kernel_rfl) ?_
  (repeat (first | ((apply wpTx_take); (· exact ((Blk.alloc (Blk.alloc ht _) _))); (· go_simp); (· (intro w1 hS; have hh := Blk.has hS; have hg := Blk.gets hS; have hc := Blk.cell hS;  go_simp; try with_reducible rfl)); (intro K hK; go_simp; refine hK _ _ ?_; clear hK K)) | ((apply wpTx_pass); (· exact ((Blk.alloc (Blk.alloc ht _) _))); (· go_simp); (intro K hK; go_simp; refine hK _ _ ?_; clear hK K))))
  (repeat (refine wpTx_act (fun K hK => ?_); go_simp; refine hK.out _ _ (by (repeat' (with_reducible (first | assumption | apply Blk.set_ | apply Blk.put_ | apply Blk.alloc | apply Blk.drew | apply Blk.drewN)))) (fun _ => ?_); clear hK K))
  refine wpTx_nil ?_
  go_wp2
  refine ret_iicc Tryz.results26 rfl rfl rfl aggDig (by exact sizeDig) (Blk.drew (Blk.alloc (Blk.new' _ _ _ _ (by simp)) _)) aggDig (by exact sizeDig) (Blk.drew (Blk.new' _ _ _ _ (by simp))) ⟨rfl, ?_⟩
  ((repeat' (with_reducible (first | apply Kept.drew | apply Kept.drewN | apply Kept.alloc | apply Kept.setCell | apply Kept.putAt | exact Kept.refl _ _))) <;> (intro hlt; first | rfl | (simp at hlt; done) | (exfalso; simp at hlt; omega) | omega))

theorem pow2_le {n : Nat} (h : n ≤ 20) : (1 : Int) ≤ 2 ^ n ∧ (2 : Int) ^ n ≤ 1048576 := by
  have h1 : (2 : Nat) ^ n ≤ 2 ^ 20 := Nat.pow_le_pow_right (by omega) h
  have h2 : 1 ≤ (2 : Nat) ^ n := Nat.one_le_two_pow
  have e : ((2 ^ n : Nat) : Int) = (2 : Int) ^ n := by simp
  omega
set_option maxHeartbeats 400000 in
theorem new_ok (p a z : Dg) (size k : Int) (hk : 0 ≤ k) (hk2 : k ≤ 20) (hs : 1 ≤ size) (hs2 : size ≤ 2048) (w : World) :
    Calls Tryz.prog 13 #[.agg #[.int .u8 p.x0, .int .u8 p.x1, .int .u8 p.x2, .int .u8 p.x3, .int .u8 p.x4, .int .u8 p.x5, .int .u8 p.x6, .int .u8 p.x7], .int .i64 size, .int .i64 k, .agg #[.int .u8 a.x0, .int .u8 a.x1, .int .u8 a.x2, .int .u8 a.x3, .int .u8 a.x4, .int .u8 a.x5, .int .u8 a.x6, .int .u8 a.x7], .agg #[.int .u8 z.x0, .int .u8 z.x1, .int .u8 z.x2, .int .u8 z.x3, .int .u8 z.x4, .int .u8 z.x5, .int .u8 z.x6, .int .u8 z.x7]] w fun e w' => ∃ g, w.heap.size ≤ g ∧ e = .returned (.tuple #[.pointer (some ⟨g, 0, none⟩), .int .i64 0]) ∧ At w' g ⟨0, 2 ^ k.toNat, a, z, p, size, 0, Dg.zero, -1⟩ ∧ Ext w w' := by
  go_enter Tryz.func13, Tryz.ntmps13
  go_wp2
  refine wp_region_eq [true, true, true, true, true, true, true, true, false] (by kernel_rfl) (by kernel_rfl) (by kernel_rfl) ?_
  (repeat (first | ((apply wpTx_take); (· exact rfl); (· go_simp); (· (intro w1 hS; subst hS;  go_simp; try with_reducible rfl)); (intro K hK; go_simp; refine hK _ _ ?_; clear hK K)) | ((apply wpTx_pass); (· exact rfl); (· go_simp); (intro K hK; go_simp; refine hK _ _ ?_; clear hK K))))
  (repeat (refine wpTx_end (by kernel_rfl) (fun K hK => ?_); go_simp; refine hK.out _ _ ?_; clear hK K)); refine wpTx_nil ?_
  go_wp2
  go_ret2
  refine ⟨w.heap.size + 1 + 1 + 1, by omega, rfl, ?_, ?_⟩
  · have hp := pow2_le (n := k.toNat) (by omega)
    rw [show IntKind.i64.wrap (2 ^ k.toNat) = 2 ^ k.toNat from IntWalk.i64_in _ (by omega)]
    exact At.of (Blk.drew (Blk.new' _ _ _ _ (by simp))) rfl
  · ((repeat' (with_reducible (first | apply Kept.drew | apply Kept.drewN | apply Kept.alloc | apply Kept.setCell | apply Kept.putAt | exact Kept.refl _ _))) <;> (intro hlt; first | rfl | (simp at hlt; done) | (exfalso; simp at hlt; omega) | omega))
end Go.Proofs.YtahljceanodhkaaGreatDoor

/- Plain facts on a trial's course: no program in sight. -/
namespace Go.Proofs.YtahljceanodhkaaGreatDoor
/-- behind n deeds that were not refused, of a trial over 2^K steps -/
def EInv (K : Nat) (t : Tr) (n : Int) : Prop :=
  0 ≤ t.from_ ∧ t.from_ + t.steps ≤ 2 ^ K ∧ ∃ j : Nat, j ≤ K ∧ t.steps = 2 ^ j ∧
    ((t.turn = 0 ∧ t.winner = -1 ∧ n = 2 * ((K : Int) - j)) ∨ (t.turn = 1 ∧ 1 ≤ j ∧ t.winner = -1 ∧ n = 2 * ((K : Int) - j) + 1) ∨
     (t.turn = -1 ∧ (t.winner = 0 ∨ t.winner = 1) ∧ 0 ≤ n ∧ n ≤ 2 * K + 1))
theorem pow_half {j : Nat} (h : 1 ≤ j) : (2 : Int) ^ j = 2 * 2 ^ (j - 1) := by
  obtain ⟨i, rfl⟩ : ∃ i, j = i + 1 := ⟨j - 1, by omega⟩
  simp [Int.pow_succ, Int.mul_comm]
theorem pow_pos' (j : Nat) : (1 : Int) ≤ 2 ^ j := by
  have : 1 ≤ (2 : Nat) ^ j := Nat.one_le_two_pow
  have e : ((2 ^ j : Nat) : Int) = (2 : Int) ^ j := by simp
  omega
theorem pow_mono' {i j : Nat} (h : i ≤ j) : (2 : Int) ^ i ≤ 2 ^ j := by
  have : (2 : Nat) ^ i ≤ 2 ^ j := Nat.pow_le_pow_right (by omega) h
  have e : ((2 ^ j : Nat) : Int) = (2 : Int) ^ j := by simp
  have e' : ((2 ^ i : Nat) : Int) = (2 : Int) ^ i := by simp
  omega
theorem EInv.start (K : Nat) (a z p : Dg) (s : Int) (m : Dg) : EInv K ⟨0, 2 ^ K, a, z, p, s, 0, m, -1⟩ 0 :=
  ⟨by simp, by simp, K, Nat.le_refl _, rfl, .inl ⟨rfl, rfl, by omega⟩⟩
theorem EInv.bounds {K : Nat} {t : Tr} {n : Int} (h : EInv K t n) : 0 ≤ t.from_ ∧ t.from_ ≤ 2 ^ K ∧ 1 ≤ t.steps ∧ t.steps ≤ 2 ^ K ∧ 0 ≤ n ∧ n ≤ 2 * K + 1 := by
  obtain ⟨h0, h1, j, hj, hs, hc⟩ := h
  have hp := pow_pos' j
  have hm := pow_mono' hj
  refine ⟨h0, by omega, by omega, by omega, ?_, ?_⟩ <;> omega
theorem EInv.wins {K : Nat} {t : Tr} {n : Int} (h : EInv K t n) (hn : 2 * K + 1 ≤ n) : t.winner ≠ -1 := by
  obtain ⟨h0, h1, j, hj, hs, hc⟩ := h
  rcases hc with ⟨_, _, hc⟩ | ⟨_, _, _, hc⟩ | ⟨_, hc, _⟩ <;> omega
/-- the count behind a deed that was answered with e -/
def more (n e : Int) : Int := if e = 0 then n + 1 else n
theorem askedE_cases (t : Tr) (who : Int) (one : Bool) : (askedE t who one = 0 ∧ t.turn ≠ -1 ∧ t.turn = who ∧ (t.steps == 1) = one) ∨ askedE t who one = 10 ∨ askedE t who one = 15 := by
  unfold askedE
  by_cases h1 : t.turn = -1
  · simp [h1]
  · by_cases h2 : t.turn = who
    · subst h2
      by_cases h3 : (t.steps == 1) = one
      · simp [h1, h3]
      · simp [h1, h3]
    · simp [h1, h2]
theorem EInv.tell {K : Nat} {t : Tr} {n : Int} (h : EInv K t n) (d : Dg) : EInv K (tellT t d) (more n (askedE t 0 false)) ∧ (tellT t d).steps = t.steps := by
  unfold tellT more
  rcases askedE_cases t 0 false with ⟨e, h1, h2, h3⟩ | e | e
  · rw [if_pos e, if_pos e]
    obtain ⟨h0, hb, j, hj, hs, hc⟩ := h
    refine ⟨⟨h0, hb, j, hj, hs, .inr (.inl ⟨rfl, ?_, ?_, ?_⟩)⟩, rfl⟩
    · rcases Nat.eq_zero_or_pos j with hz | hz
      · subst hz; simp [hs] at h3
      · exact hz
    · rcases hc with ⟨_, h, _⟩ | ⟨h, _⟩ | ⟨h, _⟩ <;> omega
    · rcases hc with ⟨_, _, h⟩ | ⟨h, _⟩ | ⟨h, _⟩ <;> omega
  · rw [if_neg (by omega), if_neg (by omega)]; exact ⟨h, rfl⟩
  · rw [if_neg (by omega), if_neg (by omega)]; exact ⟨h, rfl⟩
theorem EInv.choose {K : Nat} {t : Tr} {n : Int} (h : EInv K t n) (f : Bool) : EInv K (chooseT t f) (more n (askedE t 1 false)) ∧
    (askedE t 1 false = 0 → (chooseT t f).steps = t.steps / 2 ∧ 1 < t.steps) ∧ (askedE t 1 false ≠ 0 → (chooseT t f).steps = t.steps) := by
  unfold chooseT more
  rcases askedE_cases t 1 false with ⟨e, h1, h2, h3⟩ | e | e
  · rw [if_pos e, if_pos e]
    obtain ⟨h0, hb, j, hj, hs, hc⟩ := h
    have hc : 1 ≤ j ∧ t.winner = -1 ∧ n = 2 * ((K : Int) - j) + 1 := by
      rcases hc with ⟨h, _⟩ | ⟨_, h⟩ | ⟨h, _⟩
      · omega
      · exact h
      · omega
    have hp := pow_half hc.1
    have hq := pow_pos' (j - 1)
    have e1 : t.steps / 2 = 2 ^ (j - 1) := by omega
    have e2 : t.steps - t.steps / 2 = 2 ^ (j - 1) := by omega
    have e3 : t.steps / 2 + t.steps / 2 = t.steps := by omega
    cases f
    · refine ⟨⟨by simp; omega, by simp; omega, j - 1, by omega, by simpa using e2, .inl ⟨rfl, hc.2.1, by omega⟩⟩, fun _ => ⟨by simp; omega, by omega⟩, fun h => absurd e h⟩
    · refine ⟨⟨by simpa using h0, by simp; omega, j - 1, by omega, by simpa using e1, .inl ⟨rfl, hc.2.1, by omega⟩⟩, fun _ => ⟨rfl, by omega⟩, fun h => absurd e h⟩
  · rw [if_neg (by omega), if_neg (by omega)]; exact ⟨h, fun h => by omega, fun _ => rfl⟩
  · rw [if_neg (by omega), if_neg (by omega)]; exact ⟨h, fun h => by omega, fun _ => rfl⟩
theorem EInv.silence {K : Nat} {t : Tr} {n : Int} (h : EInv K t n) : EInv K (silenceT t) (more n (silenceE t)) ∧ (silenceT t).steps = t.steps := by
  obtain ⟨h0, hb, j, hj, hs, hc⟩ := h
  unfold silenceT more silenceE
  rcases hc with ⟨h, hw, hn⟩ | ⟨h, h1, hw, hn⟩ | ⟨h, hw, hn, hm⟩
  · simp only [h]; exact ⟨⟨h0, hb, j, hj, hs, .inr (.inr ⟨rfl, .inr rfl, by simp; omega, by simp; omega⟩)⟩, rfl⟩
  · simp only [h]; exact ⟨⟨h0, hb, j, hj, hs, .inr (.inr ⟨rfl, .inl rfl, by simp; omega, by simp; omega⟩)⟩, rfl⟩
  · simp only [h]; exact ⟨⟨h0, hb, j, hj, hs, .inr (.inr ⟨h, hw, by simpa using hn, by simpa using hm⟩)⟩, rfl⟩
end Go.Proofs.YtahljceanodhkaaGreatDoor

/- The document's trial: its cells, and what it does, in plain words. -/
namespace Go.Proofs.YtahljceanodhkaaGreatDoor
open Go.RowKit
theorem aggRt : aggT Tryz.prog 49 = true := by kernel_rfl
theorem sizeRt : sizeT Tryz.prog 49 = some 28 := by kernel_rfl
theorem wpLoadRt {dst : Option Tmp} {ty' : TypeId} {x : Operand} {pos : String} {after : Array Edge} {guard : Option (Nat × Bool)} {a : Act} {w : World} {K : Act → World → Prop} {Q : Exit → Act → World → Prop} (hx : isAt (a.eval x) = true) (hh : has w (blkOf (a.eval x)) (offOf (a.eval x)) 28 = true) :
    Oper.wp Tryz.prog { dst := dst, op := .load 49 x, type := ty', pos := pos, after := after, guard := guard } a w K Q = K (a.put dst (.agg (gets w (blkOf (a.eval x)) (offOf (a.eval x)) 28))) w := wp_load_big 28 aggRt sizeRt hx hh
theorem runLoadRt {ρ : Operand → Value} {dst : Option Tmp} {ty' : TypeId} {x : Operand} {pos : String} {after : Array Edge} {guard : Option (Nat × Bool)} {w : World} (hx : isAt (ρ x) = true) (hh : has w (blkOf (ρ x)) (offOf (ρ x)) 28 = true) :
    (execOp ρ { dst := dst, op := .load 49 x, type := ty', pos := pos, after := after, guard := guard }).run Tryz.prog w = .ok (.value (.agg (gets w (blkOf (ρ x)) (offOf (ρ x)) 28))) w := run_exec_load_big 28 aggRt sizeRt hx hh
theorem loadVarRt (w : World) (g off : Nat) (hh : has w g off 28 = true) : (loadVar 49 ⟨g, off, none⟩).run Tryz.prog w = .ok (.agg (gets w g off 28)) w := run_loadVar_big Tryz.prog w _ g off 28 aggRt sizeRt hh
attribute [go_sem] aggRt sizeRt
attribute [go_sem ↓ high] wpLoadRt loadVarRt runLoadRt
attribute [go_sem high] wpLoadRt
theorem aggStep : aggT Tryz.prog 45 = true := by kernel_rfl
theorem sizeStep : sizeT Tryz.prog 45 = some 18 := by kernel_rfl
theorem wpLoadStep {dst : Option Tmp} {ty' : TypeId} {x : Operand} {pos : String} {after : Array Edge} {guard : Option (Nat × Bool)} {a : Act} {w : World} {K : Act → World → Prop} {Q : Exit → Act → World → Prop} (hx : isAt (a.eval x) = true) (hh : has w (blkOf (a.eval x)) (offOf (a.eval x)) 18 = true) :
    Oper.wp Tryz.prog { dst := dst, op := .load 45 x, type := ty', pos := pos, after := after, guard := guard } a w K Q = K (a.put dst (.agg (gets w (blkOf (a.eval x)) (offOf (a.eval x)) 18))) w := wp_load_big 18 aggStep sizeStep hx hh
theorem runLoadStep {ρ : Operand → Value} {dst : Option Tmp} {ty' : TypeId} {x : Operand} {pos : String} {after : Array Edge} {guard : Option (Nat × Bool)} {w : World} (hx : isAt (ρ x) = true) (hh : has w (blkOf (ρ x)) (offOf (ρ x)) 18 = true) :
    (execOp ρ { dst := dst, op := .load 45 x, type := ty', pos := pos, after := after, guard := guard }).run Tryz.prog w = .ok (.value (.agg (gets w (blkOf (ρ x)) (offOf (ρ x)) 18))) w := run_exec_load_big 18 aggStep sizeStep hx hh
theorem loadVarStep (w : World) (g off : Nat) (hh : has w g off 18 = true) : (loadVar 45 ⟨g, off, none⟩).run Tryz.prog w = .ok (.agg (gets w g off 18)) w := run_loadVar_big Tryz.prog w _ g off 18 aggStep sizeStep hh
attribute [go_sem] aggStep sizeStep
attribute [go_sem ↓ high] wpLoadStep loadVarStep runLoadStep
attribute [go_sem high] wpLoadStep
/-- Two results: a value of many cells, then one in a slot. -/
theorem ret_ci {P : Program} {fn : Func} {R : Ending → World → Prop} {a : Act} {w : World} {p j : Tmp} {ty t : TypeId} {g : Nat} {cs : Array Value}
    (hres : fn.results = #[.cell p ty, .tmp j]) (hd : a.defers = []) (hp : a.tmps.getD p undef = .pointer (some ⟨g, 0, none⟩)) (ha : aggT P ty = true) (hs : sizeT P ty = some cs.size) (hb : Blk w g t cs)
    (hR : R (.returned (.tuple #[.agg cs, a.tmps.getD j undef])) w) : bodyPost P fn R .ret a w := by
  have hp' : a.tmps[p]?.getD undef = .pointer (some ⟨g, 0, none⟩) := by simpa using hp
  exact bodyPost_ret (by simp [results, hres, hp', asAddr, run_loadVar_blk ha hs hb]) hd hR
structure Rt where (from_ steps : Int) (ahead behind : Dg) (told : Bool) (mid : Dg) (won : Int)
abbrev Rt.cells (r : Rt) : Array Value := #[.int .i64 r.from_, .int .i64 r.steps, .int .u8 r.ahead.x0, .int .u8 r.ahead.x1, .int .u8 r.ahead.x2, .int .u8 r.ahead.x3, .int .u8 r.ahead.x4, .int .u8 r.ahead.x5, .int .u8 r.ahead.x6, .int .u8 r.ahead.x7, .int .u8 r.behind.x0, .int .u8 r.behind.x1, .int .u8 r.behind.x2, .int .u8 r.behind.x3, .int .u8 r.behind.x4, .int .u8 r.behind.x5, .int .u8 r.behind.x6, .int .u8 r.behind.x7, .bool r.told, .int .u8 r.mid.x0, .int .u8 r.mid.x1, .int .u8 r.mid.x2, .int .u8 r.mid.x3, .int .u8 r.mid.x4, .int .u8 r.mid.x5, .int .u8 r.mid.x6, .int .u8 r.mid.x7, .int .i64 r.won]
attribute [go_sem] Rt.cells
def Rt.turn (r : Rt) : Int := if 0 ≤ r.won then -1 else if r.told then 1 else 0
def Rt.tell (r : Rt) (d : Dg) : Rt × Int := if 0 ≤ r.won then (r, 15) else if r.told || r.steps == 1 then (r, 10) else ({ r with told := true, mid := d }, 0)
def Rt.choose (r : Rt) (f : Bool) : Rt × Int := if 0 ≤ r.won then (r, 15) else if r.told then
  (if f then ({ r with steps := r.steps / 2, behind := r.mid, told := false, mid := Dg.zero }, 0) else ({ r with from_ := r.from_ + r.steps / 2, steps := r.steps / 2, ahead := r.mid, told := false, mid := Dg.zero }, 0)) else (r, 10)
def Rt.prove (r : Rt) (e : Int) : Rt × Int := if 0 ≤ r.won then (r, 15) else if r.told || decide (1 < r.steps) then (r, 10) else if e = 0 then ({ r with won := 0 }, 0) else (r, e)
def Rt.silence (r : Rt) : Rt × Int := if 0 ≤ r.won then (r, 15) else ({ r with won := 1 - r.turn }, 0)
end Go.Proofs.YtahljceanodhkaaGreatDoor

/- Package baizeref04: Height, Root. -/
namespace Go.Proofs.YtahljceanodhkaaGreatDoor
open Go.RowKit
theorem bitLen_zero : Go.Lib.bitLen 0 = 0 := by decide
theorem bitLen_eq : ∀ (h x : Nat), x < 2 ^ h → (h = 0 ∨ 2 ^ (h - 1) ≤ x) → h ≤ 60 → Go.Lib.bitLen x = h
  | 0, x, hx, _, _ => by
    obtain rfl : x = 0 := by simpa using hx
    exact bitLen_zero
  | h + 1, x, hx, hl, hh => by
    have hl : 2 ^ h ≤ x := by simpa using hl
    have hp : 1 ≤ 2 ^ h := Nat.one_le_two_pow
    have hq : (2 : Nat) ^ (h + 1) = 2 * 2 ^ h := by rw [Nat.pow_succ]; omega
    have h64 : (2 : Nat) ^ (h + 1) ≤ 2 ^ 64 := Nat.pow_le_pow_right (by omega) (by omega)
    rw [Go.Lib.bitLen_half x (by omega) (by omega), bitLen_eq h (x / 2) (by omega) ?_ (by omega)]
    · omega
    · rcases Nat.eq_zero_or_pos h with h0 | h0
      · exact .inl h0
      · refine .inr ?_
        have : (2 : Nat) ^ h = 2 * 2 ^ (h - 1) := by
          obtain ⟨i, rfl⟩ : ∃ i, h = i + 1 := ⟨h - 1, by omega⟩
          rw [Nat.pow_succ]; simp; omega
        omega
theorem bitLen_bd : ∀ (h x : Nat), x < 2 ^ h → h ≤ 60 → Go.Lib.bitLen x ≤ h ∧ x < 2 ^ Go.Lib.bitLen x
  | 0, x, hx, _ => by
    obtain rfl : x = 0 := by simpa using hx
    rw [bitLen_zero]; simp
  | h + 1, x, hx, hh => by
    rcases Nat.eq_zero_or_pos x with h0 | h0
    · subst h0; rw [bitLen_zero]; simp
    · have h64 : (2 : Nat) ^ (h + 1) ≤ 2 ^ 64 := Nat.pow_le_pow_right (by omega) (by omega)
      have hq : (2 : Nat) ^ (h + 1) = 2 * 2 ^ h := by rw [Nat.pow_succ]; omega
      have ih := bitLen_bd h (x / 2) (by omega) (by omega)
      rw [Go.Lib.bitLen_half x (by omega) (by omega)]
      refine ⟨by omega, ?_⟩
      rw [Nat.add_comm, Nat.pow_succ]
      omega
theorem hgt_bd (n : Nat) (h1 : 1 ≤ n) (h2 : n ≤ 4096) : hgt n ≤ 12 ∧ n ≤ 2 ^ hgt n := by
  have := bitLen_bd 12 (n - 1) (by omega) (by omega)
  unfold hgt
  omega
set_option maxRecDepth 100000 in
set_option maxHeartbeats 1000000 in
theorem rheight_ok (n : Nat) (h1 : 1 ≤ n) (h2 : n ≤ 4096) (w : World) : Calls Tryz.prog 46 #[.int .i64 n] w fun e w' => e = .returned (.int .i64 (hgt n)) ∧ w = w' := by
  go_enter Tryz.func46, Tryz.ntmps46
  go_wp2_with fail
  go_loop [3, 4] (fun t3 t4 => ∃ h p : Nat, Hid (p = 2 ^ h) ∧ h ≤ 12 ∧ p ≤ 4096 ∧ t3 = .int .i64 h ∧ t4 = .int .i64 p ∧ Hid (h = 0 ∨ 2 ^ (h - 1) < n)) (fun _ t4 => 8192 - (intOf t4).toNat)
  case atStart => exact ⟨0, 1, rfl, by omega, by omega, rfl, rfl, .inl rfl⟩
  case round =>
    obtain ⟨h, p, hp, hh, hpb, rfl, rfl, hq⟩ := hrel
    have hp1 : 1 ≤ p := by rw [hp.out]; exact Nat.one_le_two_pow
    by_cases hlt : p < n
    · have hh2 : h < 12 := by
        rcases Nat.lt_or_ge h 12 with h' | h'
        · exact h'
        · obtain rfl : h = 12 := by omega
          have := hp.out
          omega
      have hp2 : 2 * p ≤ 4096 := by
        have e := hp.out
        have : (2 : Nat) ^ (h + 1) ≤ 2 ^ 12 := Nat.pow_le_pow_right (by omega) (by omega)
        rw [Nat.pow_succ] at this
        omega
      go_wp2_with fail
      go_round
      case rel => exact ⟨h + 1, 2 * p, by show _ = _; rw [hp.out, Nat.pow_succ]; omega, by omega, by omega, by go_num, by go_num, .inr (by rw [Nat.add_sub_cancel, ← hp.out]; exact hlt)⟩
      case measure => simp [intOf]; omega
    · go_wp2_with fail
      go_ret
      refine ⟨ret_int ?_, rfl⟩
      unfold hgt
      rw [bitLen_eq h (n - 1) (by rw [← hp.out]; omega) (hq.out.imp id (fun h => by omega)) (by omega)]
theorem rootS_sz (h : Nat) : (rootS h).size = 4 + (digS h).size := by
  unfold rootS
  rw [ByteArray.size_append]
  rfl
theorem rootS_pos (h : Nat) : 0 < (rootS h).size := by rw [rootS_sz]; omega
theorem rootS_le (h : Nat) : (rootS h).size ≤ 1000 := by
  have := digS_size h
  rw [rootS_sz]; omega
set_option maxRecDepth 100000 in
set_option maxHeartbeats 1000000 in
theorem rroot_ok (A : Option Addr) (b off cap : Nat) (l : List Dg) (n : Nat) (hn : n = l.length) (h1 : 1 ≤ n) (h2 : n ≤ 4096) (hok : ∀ d ∈ l, d.ok) (hA : 0 < n → A = some ⟨b, off, none⟩) (w : World) (hr : 0 < n → Row w b off (digs l)) :
    Calls Tryz.prog 68 #[.slice A n cap] w fun e w' => e = .returned (.tuple #[.agg (hTop (nodeT l (hgt n) 0) (hgt n)).cells, .int .i64 0]) ∧ Ext w w' := by
  have HN := Lib.hid hn
  have HO := Lib.hid hok
  have HA := Lib.hid hA
  have HR := Lib.hid hr
  clear hn hok hA hr
  have hb := hgt_bd n h1 h2
  have HB := Lib.hid hb.1
  clear hb
  obtain ⟨H, hH⟩ : ∃ H, H = hgt n := ⟨_, rfl⟩
  rw [← hH]
  have HH := Lib.hid hH
  have hH12 : H ≤ 12 := by rw [hH]; exact HB.out
  clear hH
  have hx0 : Ext w _ := (Kept.refl _ w).alloc (.cells Dg.zero.cells 23)
  have hR0 := Blk.new w 23 Dg.zero.cells
  go_enter Tryz.func68, Tryz.ntmps68
  go_wp2_with fail
  refine (rheight_ok n h1 h2 _).mono ?_
  rintro e w1 ⟨rfl, rfl⟩
  rw [← HH.out]
  go_wp2_with fail
  refine (rnode_any A b off cap l n HN.out (by omega) HO.out HA.out H 0 _ (fun h => (HR.out h).ext hx0) ?_ (by omega)).mono ?_
  · have : (2 : Nat) ^ H ≤ 2 ^ 12 := Nat.pow_le_pow_right (by omega) hH12
    omega
  rintro e w2 ⟨rfl, hx2⟩
  go_wp2_with fail
  refine (rname_any H hH12 _).mono ?_
  rintro e w3 ⟨rfl, hx3⟩
  go_wp2_with fail
  refine (rword_any rbytesIs _ (nodeT_ok l H 0) (rootS H) (rootS_pos H) (rootS_le H) _).mono ?_
  rintro e w4 ⟨rfl, hx4⟩
  have hR4 := Blk.ext hR0 ((hx2.trans hx3).trans hx4)
  have hh4 := Blk.has hR4
  have hm4 := Blk.melts hR4
  go_wp2_with fail
  refine ret_ci Tryz.results68 rfl rfl aggArr8 (by exact sizeArr8) (Blk.put_ hR4 _ _) ⟨rfl, ?_⟩
  exact Kept.putAt (((hx0.trans hx2).trans hx3).trans hx4) _ _ _ (fun h => by omega)
end Go.Proofs.YtahljceanodhkaaGreatDoor

/- Package baizeref01: a number's bytes; baizeref22: signed. -/
namespace Go.Proofs.YtahljceanodhkaaGreatDoor
open Go.RowKit
def vint (n : Nat) : List Int := if n < 128 then [(n : Int)] else (128 + (n : Int) % 128) :: vint (n / 128)
termination_by n
decreasing_by omega
theorem vint_small {n : Nat} (h : n < 128) : vint n = [(n : Int)] := by rw [vint, if_pos h]
theorem vint_big {n : Nat} (h : ¬ n < 128) : vint n = (128 + (n : Int) % 128) :: vint (n / 128) := by rw [vint, if_neg h]
theorem vint_len : ∀ (k n : Nat), n < 128 ^ k → 1 ≤ k → (vint n).length ≤ k
  | 0, _, _, h => by omega
  | k + 1, n, hn, _ => by
    by_cases h : n < 128
    · rw [vint_small h]; simp
    · rw [vint_big h]
      have hk : 1 ≤ k := by
        rcases Nat.eq_zero_or_pos k with h0 | h0
        · subst h0; simp at hn; omega
        · exact h0
      have := vint_len k (n / 128) (by rw [Nat.pow_succ] at hn; omega) hk
      simp; omega
theorem vint_pos (n : Nat) : 0 < (vint n).length := by
  by_cases h : n < 128
  · rw [vint_small h]; simp
  · rw [vint_big h]; simp
theorem vint_ok (n : Nat) : BytesOk (vint n) := by
  induction n using Nat.strongRecOn with
  | _ n ih =>
    by_cases h : n < 128
    · rw [vint_small h]; intro x hx; simp at hx; subst hx; omega
    · rw [vint_big h]
      intro x hx
      rcases List.mem_cons.1 hx with rfl | hx
      · omega
      · exact ih _ (by omega) x hx
/-- what hands back bytes of its own -/
def OwnsBytes (w w' : World) (e : Ending) (l : List Int) : Prop :=
  ∃ g c, e = .returned (.slice (some ⟨g, 0, none⟩) l.length c) ∧ w'.ownsRow w.heap.size 5 1 (.slice (some ⟨g, 0, none⟩) l.length c) l.length (byts l) ∧ Ext w w'
set_option maxRecDepth 100000 in
set_option maxHeartbeats 1000000 in
theorem rnum01_any (n : Nat) (hn : n < 18446744073709551616) (w : World) : Calls Tryz.prog 103 #[.int .u64 n] w fun e w' => OwnsBytes w w' e (vint n) := by
  have hlen : (vint n).length ≤ 10 := vint_len 10 n (by omega) (by omega)
  have HL := Lib.hid hlen
  have HB := Lib.hid hn
  clear hlen hn
  go_enter Tryz.func103, Tryz.ntmps103
  go_wp2_with fail
  go_loopw [0, 3] (fun t0 t3 wr => ∃ (m : Nat) (done : List Int), Hid (m ≤ n) ∧ t0 = .int .u64 m ∧ Hid (done ++ vint m = vint n) ∧ wr.ownsRow w.heap.size 5 1 t3 done.length (byts done) ∧ Ext w wr) (fun t0 _ _ => (intOf t0).toNat)
  case atStart => exact ⟨n, [], Nat.le_refl _, rfl, rfl, World.ownsRow_nil _ _ _ _, Kept.refl _ _⟩
  case round =>
    obtain ⟨m, done, hmn, rfl, hd, ho, hx⟩ := hrel
    have hdl : done.length + (vint m).length ≤ 10 := by have h := congrArg List.length hd.out; simp at h; have := HL.out; omega
    have hvp := vint_pos m
    have hob : ∀ i, i < w.heap.size → (u3 : Value).ownBlock = some i → False := fun i hi e => by have := (ho.lt i e).1; omega
    have HOB := Lib.hid hob
    clear hob
    by_cases hlt : m < 128
    · have hq : decide ((128 : Int) ≤ m) = false := by simp; omega
      obtain ⟨v2, w2, hr2, ho2, hk2⟩ := appB (wr.alloc (.cells #[.int .u8 (m : Int)] 5)) _ _ _ done (ho.alloc _) wr.heap.size 0 1 1 [(m : Int)] rfl (Row.of_blk (Blk.new wr _ _)) (by omega) (by have := hx.size; simp; omega)
      go_upto_region 5 with (fail)
      go_step
      iterate 4 (refine wpList_step (fun K hK => ?_); go_simp; (try go_bits); refine hK _ _ ?_; clear hK K)
      refine wpList_app rfl (.tmp 15) (.tmp 18) 95 rfl rfl rfl rfl hr2 ?_
      clear hr2
      go_wp2_with fail
      go_ret
      have hv : done ++ [(m : Int)] = vint n := by rw [← hd.out, vint_small hlt]
      rw [hv, show done.length + 1 = (vint n).length by rw [← hv]; simp] at ho2
      obtain ⟨g, c, hvv, _⟩ := own_some ho2 (vint_pos n)
      subst hvv
      exact ⟨g, c, rfl, ho2, (hx.alloc _).trans' hk2 HOB.out⟩
    · have hq : decide ((128 : Int) ≤ m) = true := by simp; omega
      have hm64 : (m : Int) < 18446744073709551616 := by have := HB.out; have := hmn.out; omega
      obtain ⟨v2, w2, hr2, ho2, hk2⟩ := appB (wr.alloc (.cells #[.int .u8 (128 + (m : Int) % 128)] 5)) _ _ _ done (ho.alloc _) wr.heap.size 0 1 1 [128 + (m : Int) % 128] rfl (Row.of_blk (Blk.new wr _ _)) (by omega) (by have := hx.size; simp; omega)
      have hk2' : Ext w w2 := (hx.alloc _).trans' hk2 HOB.out
      go_upto_region 3 with (fail)
      go_step
      iterate 6 (refine wpList_step (fun K hK => ?_); go_simp; (try go_bits); refine hK _ _ ?_; clear hK K)
      refine wpList_app rfl (.tmp 6) (.tmp 11) 95 rfl rfl rfl rfl hr2 ?_
      clear hr2 ho
      go_wp2_with fail
      go_roundw
      case rel => exact ⟨m / 128, done ++ [128 + (m : Int) % 128], by show _ ≤ _; have := hmn.out; omega, by go_num, by show _ = _; rw [← hd.out, vint_big hlt]; simp, by rw [List.length_append]; exact ho2, hk2'⟩
      case measure => simp only [intOf]; omega
end Go.Proofs.YtahljceanodhkaaGreatDoor

/- Package baizeref22: signed, Leaf, Head. -/
namespace Go.Proofs.YtahljceanodhkaaGreatDoor
open Go.RowKit
/-- the number that tells one with a sign -/
def foldN (n : Int) : Nat := if n < 0 then (2 * (-(n + 1)) + 1).toNat else (2 * n).toNat
theorem foldN_lt {n : Int} (h0 : -9223372036854775808 ≤ n) (h1 : n ≤ 9223372036854775807) : foldN n < 18446744073709551616 := by
  unfold foldN; split <;> omega
set_option maxHeartbeats 400000 in
theorem rfold_any (n : Int) (h0 : -9223372036854775808 ≤ n) (h1 : n ≤ 9223372036854775807) (w : World) : Calls Tryz.prog 163 #[.int .i64 n] w fun e w' => e = .returned (.int .u64 (foldN n)) ∧ w = w' := by
  unfold foldN
  by_cases h : n < 0
  · rw [if_pos h]
    go_enter Tryz.func163, Tryz.ntmps163
    go_wp2
    go_ret
    exact ⟨ret_int (by omega), rfl⟩
  · rw [if_neg h]
    go_enter Tryz.func163, Tryz.ntmps163
    go_wp2
    go_ret
    exact ⟨ret_int (by omega), rfl⟩
set_option maxHeartbeats 400000 in
theorem signed_any (n : Int) (h0 : -9223372036854775808 ≤ n) (h1 : n ≤ 9223372036854775807) (w : World) : Calls Tryz.prog 102 #[.int .i64 n] w fun e w' => OwnsBytes w w' e (vint (foldN n)) := by
  have HF := Lib.hid (foldN_lt h0 h1)
  have H0 := Lib.hid h0
  have H1 := Lib.hid h1
  clear h0 h1
  go_enter Tryz.func102, Tryz.ntmps102
  go_wp2_with fail
  refine (rfold_any n H0.out H1.out _).mono ?_
  rintro e w1 ⟨rfl, rfl⟩
  go_wp2_with fail
  refine (rnum01_any _ HF.out _).mono ?_
  rintro e w2 ⟨g, c, rfl, ho, hx⟩
  go_wp2_with fail
  go_ret
  exact ⟨g, c, rfl, ho, hx⟩
/-- a word's number, without a sign -/
def uword (x : Int) : Int := x % 4294967296
def leafW (x : Int) : Dg := dgN (uword x)
set_option maxHeartbeats 400000 in
theorem rleaf_any (x : Int) (w : World) : Calls Tryz.prog 130 #[.int .i32 x] w fun e w' => e = .returned (.agg (leafW x).cells) ∧ Ext w w' := by
  have hx0 : Ext w _ := (Kept.refl _ w).alloc (.cells Dg.zero.cells 23)
  have hR0 := Blk.new w 23 Dg.zero.cells
  have hu : 0 ≤ x % 4294967296 ∧ x % 4294967296 < 18446744073709551616 := by omega
  have HU := Lib.hid hu
  clear hu
  go_enter Tryz.func130, Tryz.ntmps130
  go_wp2_with fail
  refine (rfromnum_any _ _ HU.out.1 HU.out.2).mono ?_
  rintro e w1 ⟨rfl, hx1⟩
  have hR1 := Blk.ext hR0 hx1
  have hh1 := Blk.has hR1
  have hm1 := Blk.melts hR1
  go_wp2_with fail
  refine ret_cell Tryz.results130 rfl rfl aggArr8 (by exact sizeArr8) (Blk.put_ hR1 _ _) ⟨rfl, ?_⟩
  exact Kept.putAt (hx0.trans hx1) _ _ _ (fun h => by omega)
def hHead (pc halt words : Int) (m : Dg) : Dg := hMany [dgN pc, dgN halt, dgN words, m]
set_option maxRecDepth 100000 in
set_option maxHeartbeats 1000000 in
theorem rhead_any (pc halt words : Int) (m : Dg) (hm : m.ok) (h0 : 0 ≤ pc ∧ pc ≤ 1000000) (h1 : 0 ≤ halt ∧ halt ≤ 1000000) (h2 : 0 ≤ words ∧ words ≤ 1000000) (w : World) :
    Calls Tryz.prog 74 #[.int .i64 pc, .int .i64 halt, .int .i64 words, .agg #[.int .u8 m.x0, .int .u8 m.x1, .int .u8 m.x2, .int .u8 m.x3, .int .u8 m.x4, .int .u8 m.x5, .int .u8 m.x6, .int .u8 m.x7]] w fun e w' => e = .returned (.agg (hHead pc halt words m).cells) ∧ Ext w w' := by
  have HM := Lib.hid hm
  clear hm
  have hx0 : Ext w _ := ((Kept.refl _ w).alloc (.cells #[.int .u8 m.x0, .int .u8 m.x1, .int .u8 m.x2, .int .u8 m.x3, .int .u8 m.x4, .int .u8 m.x5, .int .u8 m.x6, .int .u8 m.x7] 23)).alloc (.cells Dg.zero.cells 23)
  have hA0 : Blk _ w.heap.size 23 m.cells := Blk.alloc (Blk.new w _ _) (.cells Dg.zero.cells 23)
  have hR0 : Blk _ (w.heap.size + 1) 23 Dg.zero.cells := Blk.new' (w.alloc (.cells #[.int .u8 m.x0, .int .u8 m.x1, .int .u8 m.x2, .int .u8 m.x3, .int .u8 m.x4, .int .u8 m.x5, .int .u8 m.x6, .int .u8 m.x7] 23)) _ _ _ (by simp)
  go_enter Tryz.func74, Tryz.ntmps74
  go_wp2_with fail
  generalize ((w.alloc (.cells #[.int .u8 m.x0, .int .u8 m.x1, .int .u8 m.x2, .int .u8 m.x3, .int .u8 m.x4, .int .u8 m.x5, .int .u8 m.x6, .int .u8 m.x7] 23)).alloc (.cells #[.int .u8 0, .int .u8 0, .int .u8 0, .int .u8 0, .int .u8 0, .int .u8 0, .int .u8 0, .int .u8 0] 23)) = W at hx0 hA0 hR0 ⊢
  have hW := hR0.lt
  have hw1 : IntKind.u64.wrap pc = pc := u64_in h0.1 (by omega)
  have hw2 : IntKind.u64.wrap halt = halt := u64_in h1.1 (by omega)
  have hw3 : IntKind.u64.wrap words = words := u64_in h2.1 (by omega)
  refine wp_region_3 (fun w1 => Ext W w1) [(0, 2), (1, 1), (3, 2), (4, 1), (6, 2), (7, 1), (9, 1), (2, 0), (5, 0), (8, 0), (10, 0), (11, 0), (12, 0)] (by kernel_rfl) (by kernel_rfl) (by kernel_rfl) (by kernel_rfl) ?_; intro l' hl'; simp only [List.map_cons, List.map_nil, List.getD_cons_zero, List.getD_cons_succ] at hl'; subst hl'
  (repeat (first | ((apply w3_pure); (· go_simp); (· (intro w1; go_simp; try with_reducible rfl)); (intro K hK; go_simp; refine hK _ _ ?_; clear hK K)) | ((apply w3_skip); (· go_simp); (intro K hK; go_simp; refine hK _ _ ?_; clear hK K)) | ((apply w3_take); (· exact (Kept.drew (Kept.refl _ _))); (· go_simp); (· (intro w1 hS; have d1 := Blk.ext hA0 hS; have hh := Blk.has d1; have hg := Blk.gets d1;  go_simp; try with_reducible rfl)); (intro K hK; go_simp; refine hK _ _ ?_; clear hK K)) | ((apply w3_pass); (· exact (Kept.drew (Kept.refl _ _))); (· go_simp); (intro K hK; go_simp; refine hK _ _ ?_; clear hK K))))
  clear hw1 hw2 hw3
  (refine w3_act (fun K hK => ?_); go_simp)
  go_wp2_with fail
  refine (rfromnum_any pc _ h0.1 (by omega)).mono ?_
  rintro e w1 ⟨rfl, hx1⟩
  have y1 : Ext W w1 := ((Kept.refl _ W).drew).trans hx1
  refine hK.out _ _ (fun _ => y1) ?_
  clear hK K
  (refine w3_act (fun K hK => ?_); go_simp)
  go_wp2_with fail
  refine (rfromnum_any halt _ h1.1 (by omega)).mono ?_
  rintro e w2 ⟨rfl, hx2⟩
  have y2 := y1.trans hx2
  refine hK.out _ _ (fun _ => y2) ?_
  clear hK K
  (refine w3_act (fun K hK => ?_); go_simp)
  go_wp2_with fail
  refine (rfromnum_any words _ h2.1 (by omega)).mono ?_
  rintro e w3 ⟨rfl, hx3⟩
  have y3 := y2.trans hx3
  refine hK.out _ _ (fun _ => y3) ?_
  clear hK K
  (refine w3_act (fun K hK => ?_); go_simp)
  refine hK.out _ _ (fun _ => y3.alloc _) ?_
  clear hK K
  (refine w3_act (fun K hK => ?_); go_simp)
  go_wp2_with fail
  refine (rmany_any _ w3.heap.size 0 4 [dgN pc, dgN halt, dgN words, m] (by simp) ?_ _ (fun _ => rfl) (fun _ => ?_)).mono ?_
  · intro d hd
    simp at hd
    rcases hd with rfl | rfl | rfl | rfl
    · exact dgN_ok _
    · exact dgN_ok _
    · exact dgN_ok _
    · exact HM.out
  · exact Row.of_blk (Blk.new w3 23 (digs [dgN pc, dgN halt, dgN words, m]).toArray)
  rintro e w4 ⟨rfl, hx4⟩
  have y4 := (y3.alloc _).trans hx4
  refine hK.out _ _ (fun _ => y4) ?_
  clear hK K
  have hR4 := Blk.ext hR0 y4
  have hh4 := Blk.has hR4
  have hm4 := Blk.melts hR4
  (repeat (first | ((apply w3_pure); (· go_simp); (· (intro w1; go_simp; try with_reducible rfl)); (intro K hK; go_simp; refine hK _ _ ?_; clear hK K)) | ((apply w3_skip); (· go_simp); (intro K hK; go_simp; refine hK _ _ ?_; clear hK K)) | (refine w3_end (by kernel_rfl) (fun K hK => ?_); go_simp; refine hK.out _ _ ?_; clear hK K))); refine w3_nil ?_
  go_wp2_with fail
  refine ret_cell Tryz.results74 rfl rfl aggArr8 (by exact sizeArr8) (Blk.put_ hR4 _ _) ⟨rfl, ?_⟩
  exact Kept.putAt (hx0.trans y4) _ _ _ (fun h => by omega)
end Go.Proofs.YtahljceanodhkaaGreatDoor

/- Package baizeref22: InstrLeaf. -/
namespace Go.Proofs.YtahljceanodhkaaGreatDoor
open Go.RowKit
theorem w3_app {P : Program} {ops : Array Oper} {Q : Exit → Act → World → Prop} {S : World → Prop} {od : List (Nat × Nat)} {k : Nat} {l : List Oper} {r : List (Nat × Nat)} {a : Act} {w : World} {o : Oper} (hgd : o.guard = none) (x y : Operand) (T : TypeId)
    (ho : o.op = .call { callee := .builtin .append, args := #[x, y], argTypes := #[T, T] }) {ty : TypeId} (hty : o.type = ty) {v s v' : Value} {w' : World} (hx : a.eval x = v) (hy : a.eval y = s)
    (hrun : (Builtin.append_ #[T, T] ty #[v, s]).run P w = .ok v' w') (hS : S w → S w') (h : wpOp3 P ops Q S od r l (a.put o.dst v') w') : wpOp3 P ops Q S od ((k, 0) :: r) (o :: l) a w := by
  have hw : Region.wanted o (yielded ops a.tmps) = true := by simp [Region.wanted, hgd]
  unfold wpOp3
  rw [if_pos hw]
  refine .inl ?_
  subst hty
  unfold Oper.wp execOp
  simp only [ho, resolve, invoke, builtin, Sem.run_bind, Sem.run_pure, Result.andThen_ok, List.map_toArray, List.map_cons, List.map_nil, hx, hy, hrun]
  exact ⟨.inr hS, h⟩
theorem own_ext {w w' : World} {base : Nat} {E : TypeId} {sz : Nat} {v : Value} {n : Nat} {xs : List Value} (h : w.ownsRow base E sz v n xs) (hk : Ext w w') : w'.ownsRow base E sz v n xs :=
  h.kept (row := none) ⟨hk.os, hk.tape, hk.output, hk.size, fun k hl _ => hk.block k hl (fun f => f)⟩ (by cases hv : v.ownBlock <;> simp)
theorem own_row {w : World} {base g c n : Nat} {xs : List Int} (h : w.ownsRow base 5 1 (.slice (some ⟨g, 0, none⟩) n c) n (byts xs)) (hn : 0 < n) : base ≤ g ∧ Row w g 0 (byts xs) ∧ n ≤ c := by
  obtain ⟨g', c', e, hb, hr, hc, _⟩ := own_some h hn
  obtain ⟨rfl, rfl⟩ : g = g' ∧ c = c' := by simpa using e
  exact ⟨hb, hr, hc⟩
structure Ins where (op a b c : Int)
abbrev Ins.cells (i : Ins) : Array Value := #[.int .i64 i.op, .int .i64 i.a, .int .i64 i.b, .int .i64 i.c]
attribute [go_sem] Ins.cells
def i64ok (n : Int) : Prop := -9223372036854775808 ≤ n ∧ n ≤ 9223372036854775807
structure Ins.ok (i : Ins) : Prop where
  op : i64ok i.op
  a : i64ok i.a
  b : i64ok i.b
  c : i64ok i.c
def instrB (i : Ins) : List Int := vint (foldN i.op) ++ vint (foldN i.a) ++ vint (foldN i.b) ++ vint (foldN i.c)
def ileaf (i : Ins) : Dg := hOf (instrB i)
theorem vfold_len {n : Int} (h : i64ok n) : (vint (foldN n)).length ≤ 10 := vint_len 10 _ (by have := foldN_lt h.1 h.2; omega) (by omega)
theorem bytesOk_app {l q : List Int} (h : BytesOk l) (h' : BytesOk q) : BytesOk (l ++ q) := fun x hx => (List.mem_append.1 hx).elim (h x) (h' x)
theorem instrB_ok (i : Ins) : BytesOk (instrB i) := bytesOk_app (bytesOk_app (bytesOk_app (vint_ok _) (vint_ok _)) (vint_ok _)) (vint_ok _)
theorem instrB_len {i : Ins} (h : i.ok) : 0 < (instrB i).length ∧ (instrB i).length ≤ 40 := by
  have h1 := vfold_len h.op
  have h2 := vfold_len h.a
  have h3 := vfold_len h.b
  have h4 := vfold_len h.c
  have h5 := vint_pos (foldN i.op)
  unfold instrB
  simp only [List.length_append]
  omega
set_option maxRecDepth 100000 in
set_option maxHeartbeats 2000000 in
theorem rileaf_any (i : Ins) (hi : i.ok) (w : World) : Calls Tryz.prog 126 #[.agg i.cells] w fun e w' => e = .returned (.agg (ileaf i).cells) ∧ Ext w w' := by
  have HI := Lib.hid hi
  have HL := Lib.hid (instrB_len hi)
  have l1 := vfold_len hi.op
  have l2 := vfold_len hi.a
  have l3 := vfold_len hi.b
  have l4 := vfold_len hi.c
  have p1 := vint_pos (foldN i.op)
  clear hi
  obtain ⟨b1, hb1⟩ : ∃ l, l = vint (foldN i.op) := ⟨_, rfl⟩
  obtain ⟨b2, hb2⟩ : ∃ l, l = vint (foldN i.a) := ⟨_, rfl⟩
  obtain ⟨b3, hb3⟩ : ∃ l, l = vint (foldN i.b) := ⟨_, rfl⟩
  obtain ⟨b4, hb4⟩ : ∃ l, l = vint (foldN i.c) := ⟨_, rfl⟩
  have p2 := vint_pos (foldN i.a)
  have p3 := vint_pos (foldN i.b)
  have p4 := vint_pos (foldN i.c)
  rw [← hb1] at l1 p1
  rw [← hb2] at l2 p2
  rw [← hb3] at l3 p3
  rw [← hb4] at l4 p4
  have HB : Hid (instrB i = b1 ++ b2 ++ b3 ++ b4) := by show _ = _; rw [hb1, hb2, hb3, hb4]; rfl
  have H1 := Lib.hid hb1
  have H2 := Lib.hid hb2
  have H3 := Lib.hid hb3
  have H4 := Lib.hid hb4
  clear hb1 hb2 hb3 hb4
  have hx0 : Ext w _ := ((Kept.refl _ w).alloc (.cells i.cells 89)).alloc (.cells Dg.zero.cells 23)
  have hA0 : Blk _ w.heap.size 89 i.cells := Blk.alloc (Blk.new w _ _) (.cells Dg.zero.cells 23)
  have hR0 : Blk _ (w.heap.size + 1) 23 Dg.zero.cells := Blk.new' (w.alloc (.cells i.cells 89)) _ _ _ (by simp)
  go_enter Tryz.func126, Tryz.ntmps126
  go_wp2_with fail
  generalize ((w.alloc (.cells #[.int .i64 i.op, .int .i64 i.a, .int .i64 i.b, .int .i64 i.c] 89)).alloc (.cells #[.int .u8 0, .int .u8 0, .int .u8 0, .int .u8 0, .int .u8 0, .int .u8 0, .int .u8 0, .int .u8 0] 23)) = W at hx0 hA0 hR0 ⊢
  have hW := hR0.lt
  refine wp_region_3 (fun w1 => Ext W w1) [(0, 2), (1, 1), (3, 2), (4, 1), (7, 2), (8, 1), (11, 2), (12, 1), (2, 0), (5, 0), (6, 0), (9, 0), (10, 0), (13, 0), (14, 0), (15, 2)] (by kernel_rfl) (by kernel_rfl) (by kernel_rfl) (by kernel_rfl) ?_; intro l' hl'; simp only [List.map_cons, List.map_nil, List.getD_cons_zero, List.getD_cons_succ] at hl'; subst hl'
  (repeat (first | ((apply w3_pure); (· go_simp); (· (intro w1; go_simp; try with_reducible rfl)); (intro K hK; go_simp; refine hK _ _ ?_; clear hK K)) | ((apply w3_skip); (· go_simp); (intro K hK; go_simp; refine hK _ _ ?_; clear hK K)) | ((apply w3_take); (· exact (Kept.drew (Kept.refl _ _))); (· go_simp); (· (intro w1 hS; have d1 := Blk.ext hA0 hS; have hc := Blk.cell d1;  go_simp; try with_reducible rfl)); (intro K hK; go_simp; refine hK _ _ ?_; clear hK K)) | ((apply w3_pass); (· exact (Kept.drew (Kept.refl _ _))); (· go_simp); (intro K hK; go_simp; refine hK _ _ ?_; clear hK K))))
  (refine w3_act (fun K hK => ?_); go_simp)
  go_wp2_with fail
  refine (signed_any i.op HI.out.op.1 HI.out.op.2 _).mono ?_
  rintro e w1 ⟨g1, c1, rfl, o1, hx1⟩
  rw [← H1.out] at o1 ⊢
  have y1 : Ext W w1 := ((Kept.refl _ W).drew).trans hx1
  refine hK.out _ _ (fun _ => y1) ?_
  clear hK K
  (refine w3_act (fun K hK => ?_); go_simp)
  go_wp2_with fail
  refine (signed_any i.a HI.out.a.1 HI.out.a.2 _).mono ?_
  rintro e w2 ⟨g2, c2, rfl, o2, hx2⟩
  rw [← H2.out] at o2 ⊢
  have y2 := y1.trans hx2
  refine hK.out _ _ (fun _ => y2) ?_
  clear hK K
  have r2 := (own_row o2 p2).2.1
  obtain ⟨v2a, w2a, hr2, o2a, hk2⟩ := appB w2 _ _ _ b1 (own_ext o1 hx2) g2 0 b2.length c2 b2 rfl r2 (by omega) (by have := y2.size; simpa using this)
  have gb2 := (own_row o1 p1).1
  have y2a : Ext W w2a := y2.trans' hk2 (fun i hi e => by simp [Value.ownBlock] at e; simp at gb2; omega)
  obtain ⟨q2, hq2⟩ : ∃ q, q = b1 ++ b2 := ⟨_, rfl⟩
  have lq2 : q2.length = b1.length + b2.length := by rw [hq2, List.length_append]
  rw [← lq2, ← hq2] at o2a
  have HQ2 := Lib.hid hq2
  have pq2 : 0 < q2.length := by omega
  have mq2 : q2.length ≤ 20 := by omega
  clear hq2 lq2
  obtain ⟨g2a, c2a, e2, _⟩ := own_some o2a (by omega)
  subst e2
  refine w3_app rfl (.tmp 6) (.tmp 9) 95 rfl rfl rfl rfl hr2 (fun _ => y2a) ?_
  clear hr2 hk2 r2 gb2
  (refine w3_act (fun K hK => ?_); go_simp)
  go_wp2_with fail
  refine (signed_any i.b HI.out.b.1 HI.out.b.2 _).mono ?_
  rintro e w3 ⟨g3, c3, rfl, o3, hx3⟩
  rw [← H3.out] at o3 ⊢
  have y3 := y2a.trans hx3
  refine hK.out _ _ (fun _ => y3) ?_
  clear hK K
  have r3 := (own_row o3 p3).2.1
  obtain ⟨v3a, w3a, hr3, o3a, hk3⟩ := appB w3 _ _ _ q2 (own_ext o2a hx3) g3 0 b3.length c3 b3 rfl r3 (by omega) (by have := y3.size; simpa using this)
  have gb3 := (own_row o2a (by omega)).1
  have y3a : Ext W w3a := y3.trans' hk3 (fun i hi e => by simp [Value.ownBlock] at e; simp at gb3; omega)
  obtain ⟨q3, hq3⟩ : ∃ q, q = q2 ++ b3 := ⟨_, rfl⟩
  have lq3 : q3.length = q2.length + b3.length := by rw [hq3, List.length_append]
  rw [← lq3, ← hq3] at o3a
  have HQ3 := Lib.hid hq3
  have pq3 : 0 < q3.length := by omega
  have mq3 : q3.length ≤ 30 := by omega
  clear hq3 lq3
  obtain ⟨g3a, c3a, e3, _⟩ := own_some o3a (by omega)
  subst e3
  refine w3_app rfl (.tmp 10) (.tmp 13) 95 rfl rfl rfl rfl hr3 (fun _ => y3a) ?_
  clear hr3 hk3 r3 gb3
  (refine w3_act (fun K hK => ?_); go_simp)
  go_wp2_with fail
  refine (signed_any i.c HI.out.c.1 HI.out.c.2 _).mono ?_
  rintro e w4 ⟨g4, c4, rfl, o4, hx4⟩
  rw [← H4.out] at o4 ⊢
  have y4 := y3a.trans hx4
  refine hK.out _ _ (fun _ => y4) ?_
  clear hK K
  have r4 := (own_row o4 p4).2.1
  obtain ⟨v4a, w4a, hr4, o4a, hk4⟩ := appB w4 _ _ _ q3 (own_ext o3a hx4) g4 0 b4.length c4 b4 rfl r4 (by omega) (by have := y4.size; simpa using this)
  have gb4 := (own_row o3a (by omega)).1
  have y4a : Ext W w4a := y4.trans' hk4 (fun i hi e => by simp [Value.ownBlock] at e; simp at gb4; omega)
  obtain ⟨q4, hq4⟩ : ∃ q, q = q3 ++ b4 := ⟨_, rfl⟩
  have lq4 : q4.length = q3.length + b4.length := by rw [hq4, List.length_append]
  rw [← lq4, ← hq4] at o4a
  have HQ4 := Lib.hid hq4
  have pq4 : 0 < q4.length := by omega
  have mq4 : q4.length ≤ 40 := by omega
  clear hq4 lq4
  obtain ⟨g4a, c4a, e4, _⟩ := own_some o4a (by omega)
  subst e4
  refine w3_app rfl (.tmp 14) (.tmp 17) 95 rfl rfl rfl rfl hr4 (fun _ => y4a) ?_
  clear hr4 hk4 r4 gb4
  (repeat (first | ((apply w3_pure); (· go_simp); (· (intro w1; go_simp; try with_reducible rfl)); (intro K hK; go_simp; refine hK _ _ ?_; clear hK K)) | ((apply w3_skip); (· go_simp); (intro K hK; go_simp; refine hK _ _ ?_; clear hK K)) | (refine w3_end (by kernel_rfl) (fun K hK => ?_); go_simp; refine hK.out _ _ ?_; clear hK K))); refine w3_nil ?_
  rw [HQ4.out, HQ3.out, HQ2.out, ← HB.out] at o4a ⊢
  have r5 := own_row o4a HL.out.1
  go_wp2_with fail
  refine (rof_any g4a 0 c4a (instrB i) _ _ rfl HL.out.1 (by have := HL.out.2; omega) r5.2.2 (instrB_ok i) r5.2.1).mono ?_
  rintro e w5 ⟨rfl, hx5⟩
  have y5 := y4a.trans hx5
  have hR5 := Blk.ext hR0 y5
  have hh5 := Blk.has hR5
  have hm5 := Blk.melts hR5
  go_wp2_with fail
  refine ret_cell Tryz.results126 rfl rfl aggArr8 (by exact sizeArr8) (Blk.put_ hR5 _ _) ⟨rfl, ?_⟩
  exact Kept.putAt (hx0.trans y5) _ _ _ (fun h => by omega)
end Go.Proofs.YtahljceanodhkaaGreatDoor
