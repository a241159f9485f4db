/- Several texts joined: Base, Ord, Ordo, Allo, Ordp, Halve. -/
import Derived.Test.YtahljceanodhkaaGreatDoorRows
import Derived.WalkKit
import Derived.WalkSpells
import Derived.WalkLawsBesides
import Derived.RegionTactic
import Derived.BigRegion
import Derived.Deep.QuietTactic
import Derived.BigQuiet
import Derived.Outline
import Derived.Lib.Hide
import Derived.Deep.RegionWith
import Derived.Deep.LoopGhost
import Derived.Deep.DeepCutAuto
import Derived.StillTailTactics
import Derived.Deep.RegionHeld3
import Derived.OrdersHeld
import Derived.Deep.RegionHeld
/- Worlds: a block known whole, and what a call leaves of older memory. Plain lemmas on the model's worlds; no program. -/
namespace Go.Proofs.YtahljceanodhkaaGreatDoor
open Go.RowKit

/-- All blocks outside S are as they were; none has gone; the streams are as they were. -/
structure Kept (S : Nat → Prop) (w w' : World) : Prop where
  os : w'.os = w.os
  tape : w'.tape = w.tape
  output : w'.output = w.output
  size : w.heap.size ≤ w'.heap.size
  block : ∀ k, k < w.heap.size → ¬ S k → w'.heap[k]? = w.heap[k]?

/-- Nothing that was there has changed. -/
abbrev Ext (w w' : World) : Prop := Kept (fun _ => False) w w'

section
variable {S S' : Nat → Prop} {a w w' : World}
theorem Kept.refl (S : Nat → Prop) (w : World) : Kept S w w := ⟨rfl, rfl, rfl, Nat.le_refl _, fun _ _ _ => rfl⟩
theorem Kept.trans (h : Kept S a w) (k : Kept S w w') : Kept S a w' :=
  ⟨k.os.trans h.os, k.tape.trans h.tape, k.output.trans h.output, Nat.le_trans h.size k.size,
   fun i hi hs => (k.block i (Nat.lt_of_lt_of_le hi h.size) hs).trans (h.block i hi hs)⟩
theorem Kept.trans' (h : Kept S a w) (k : Kept S' w w') (hs : ∀ i, i < a.heap.size → S' i → S i) : Kept S a w' :=
  ⟨k.os.trans h.os, k.tape.trans h.tape, k.output.trans h.output, Nat.le_trans h.size k.size,
   fun i hi hn => (k.block i (Nat.lt_of_lt_of_le hi h.size) (fun e => hn (hs i hi e))).trans (h.block i hi hn)⟩
theorem Kept.mono (h : Kept S w w') (hs : ∀ i, i < w.heap.size → S i → S' i) : Kept S' w w' :=
  ⟨h.os, h.tape, h.output, h.size, fun i hi hn => h.block i hi (fun e => hn (hs i hi e))⟩
theorem Kept.drew (h : Kept S a w) : Kept S a w.drew := ⟨h.os, h.tape, h.output, h.size, h.block⟩
theorem Kept.drewN (h : Kept S a w) (n : Nat) : Kept S a (w.drewN n) := ⟨h.os, h.tape, h.output, h.size, h.block⟩
theorem Kept.alloc (h : Kept S a w) (o : Obj) : Kept S a (w.alloc o) :=
  h.trans ⟨rfl, rfl, rfl, by simp, fun k hk _ => Below.heap_alloc _ _ _ hk⟩
theorem Kept.setCell (h : Kept S a w) (p : Addr) (u : Value) (hp : p.block < a.heap.size → S p.block) : Kept S a (w.setCell p u) :=
  h.trans' (S' := (· = p.block)) ⟨rfl, rfl, rfl, by simp [World.setCell], fun k _ hn => Below.heap_setCell _ _ _ _ hn⟩
    (fun i hi e => by subst e; exact hp hi)
theorem Kept.ext (h : Ext w w') : Kept S w w' := h.mono fun _ _ f => f.elim
theorem Kept.cell (h : Kept S w w') {p : Addr} (hp : p.block < w.heap.size) (hs : ¬ S p.block) : w'.cell? p = w.cell? p := World.cell?_of_block (w := w) (h.block p.block hp hs)
theorem Kept.frozen (h : Kept S w w') {p : Addr} (hp : p.block < w.heap.size) (hs : ¬ S p.block) : w'.frozen? p = w.frozen? p := World.frozen?_of_block (w := w) (h.block p.block hp hs)
end

/-- Block g is just the cells cs of element type t, none frozen. -/
def Blk (w : World) (g : Nat) (t : TypeId) (cs : Array Value) : Prop := w.heap[g]? = some (.cells cs t (0, 0))
section
variable {w w' : World} {g : Nat} {t : TypeId} {cs : Array Value}
theorem Blk.lt (h : Blk w g t cs) : g < w.heap.size := by
  rcases Nat.lt_or_ge g w.heap.size with hlt | hge
  · exact hlt
  · unfold Blk at h; rw [Array.getElem?_eq_none hge] at h; cases h
theorem Blk.cell (h : Blk w g t cs) (i : Nat) : w.cell? ⟨g, i, none⟩ = cs[i]? := cell_of_row w g i cs t (0, 0) h
theorem Blk.frozen (h : Blk w g t cs) (i : Nat) : w.frozen? ⟨g, i, none⟩ = false := by
  unfold Blk at h
  simp [World.frozen?, h]
theorem Blk.new (w : World) (t : TypeId) (cs : Array Value) : Blk (w.alloc (.cells cs t)) w.heap.size t cs := heap_alloc_new w _
theorem Blk.new' (w : World) (t : TypeId) (cs : Array Value) (g : Nat) (hg : g = w.heap.size) : Blk (w.alloc (.cells cs t)) g t cs := by subst hg; exact heap_alloc_new w _
theorem Blk.drew (h : Blk w g t cs) : Blk w.drew g t cs := h
theorem Blk.drewN (h : Blk w g t cs) (n : Nat) : Blk (w.drewN n) g t cs := h
theorem Blk.alloc (h : Blk w g t cs) (o : Obj) : Blk (w.alloc o) g t cs := (Below.heap_alloc w o g h.lt).trans h
theorem Blk.set_ (h : Blk w g t cs) (i : Nat) (u : Value) : Blk (w.setCell ⟨g, i, none⟩ u) g t (cs.setIfInBounds i u) := by
  unfold Blk at h ⊢
  simp [World.setCell, Array.getElem?_modify, h]
theorem Blk.far (h : Blk w g t cs) {p : Addr} (hp : g ≠ p.block) (u : Value) : Blk (w.setCell p u) g t cs := (Below.heap_setCell w p u g hp).trans h
theorem Blk.kept {S : Nat → Prop} (h : Blk w g t cs) (hk : Kept S w w') (hs : ¬ S g) : Blk w' g t cs := (hk.block g h.lt hs).trans h
theorem Blk.ext (h : Blk w g t cs) (hk : Ext w w') : Blk w' g t cs := h.kept hk (fun f => f)
end

/-! ### Values of many cells, read and written in one step -/
/-- c with the cells from off on replaced by vs -/
def splice (c : Array Value) (off : Nat) (vs : Array Value) : Array Value := (c.toList.take off ++ vs.toList ++ c.toList.drop (off + vs.size)).toArray
def has (w : World) (g off n : Nat) : Bool := match w.heap[g]? with | some (.cells c _ _) => decide (off + n ≤ c.size) | _ => false
def melts (w : World) (g : Nat) : Bool := match w.heap[g]? with | some (.cells _ _ (0, 0)) => true | _ => false
def gets (w : World) (g off n : Nat) : Array Value := match w.heap[g]? with | some (.cells c _ _) => ((c.toList.drop off).take n).toArray | _ => #[]
def putAt (w : World) (g off : Nat) (vs : Array Value) : World :=
  { w with heap := w.heap.modify g fun | .cells c e fr => .cells (splice c off vs) e fr | o => o }
def isAt : Value → Bool | .pointer (some ⟨_, _, none⟩) => true | _ => false
def blkOf : Value → Nat | .pointer (some a) => a.block | _ => 0
def offOf : Value → Nat | .pointer (some a) => a.off | _ => 0
def isAggV : Value → Bool | .agg _ => true | _ => false
def cellsV : Value → Array Value | .agg c => c | _ => #[]
def flatL : List Value → Bool | [] => true | v :: r => v.oneCell' && flatL r
theorem flatL_all : ∀ {l : List Value}, flatL l = true → ∀ v ∈ l, v.oneCell' = true
  | [], _, v, hv => by cases hv
  | x :: r, h, v, hv => by
    simp only [flatL, Bool.and_eq_true] at h
    cases List.mem_cons.1 hv with
    | inl e => rw [e]; exact h.1
    | inr e => exact flatL_all h.2 v e
def aggT (P : Program) (ty : TypeId) : Bool := match P.underlying ty with | some (.struct _) | some (.array _ _) => true | _ => false
def sizeT (P : Program) (ty : TypeId) : Option Nat := (P.info? ty).map (·.size)

theorem putAt_heap_same {w : World} {g off : Nat} {vs c : Array Value} {t : TypeId} {fr : Nat × Nat} (h : w.heap[g]? = some (.cells c t fr)) :
    (putAt w g off vs).heap[g]? = some (.cells (splice c off vs) t fr) := by
  simp [putAt, Array.getElem?_modify, h]
theorem putAt_heap_other {w : World} {g off k : Nat} {vs : Array Value} (h : k ≠ g) : (putAt w g off vs).heap[k]? = w.heap[k]? := by
  simp only [putAt, Array.getElem?_modify]; rw [if_neg (fun e => h e.symm)]
theorem putAt_eq_setRow {w : World} {g off : Nat} {vs c : Array Value} {t : TypeId} {fr : Nat × Nat} (h : w.heap[g]? = some (.cells c t fr)) :
    putAt w g off vs = w.setRow g (splice c off vs) := by
  unfold putAt World.setRow
  congr 1
  apply Array.ext_getElem?
  intro k
  simp only [Array.getElem?_modify]
  by_cases hk : g = k
  · subst hk; simp [h]
  · simp [hk]
theorem run_storeAt_big (P : Program) (w : World) (ty : TypeId) (g off : Nat) (vs : Array Value) (hs : sizeT P ty = some vs.size) (hh : has w g off vs.size = true) (hm : melts w g = true)
    (h1 : flatL vs.toList = true) : (Instr.storeAt ty (.pointer (some ⟨g, off, none⟩)) (.agg vs)).run P w = .ok () (putAt w g off vs) := by
  unfold has at hh
  unfold melts at hm
  split at hh
  · rename_i c t fr hg
    rw [hg] at hm
    have hfr : fr = (0, 0) := by
      revert hm; obtain ⟨a, b⟩ := fr; cases a <;> cases b <;> simp
    subst hfr
    have hst := run_storeCells_at P g off t vs.toList 0 c w hg (by simpa using of_decide_eq_true hh) (flatL_all h1)
    rw [putAt_eq_setRow hg]
    unfold sizeT at hs
    cases hq : P.info? ty with
    | none => simp [hq] at hs
    | some i =>
      have hi : i.size = vs.size := by simpa [hq] using hs
      simp only [Array.length_toList, Nat.add_zero] at hst
      simp [Instr.storeAt, Instr.sureAddr, storeVar, sizeOf, typeInfo, hq, hi, Value.cells, hst, splice]
  · cases hh
theorem run_loadAt_big (P : Program) (w : World) (ty : TypeId) (g off n : Nat) (ha : aggT P ty = true) (hs : sizeT P ty = some n) (hh : has w g off n = true) :
    (Instr.loadAt ty (.pointer (some ⟨g, off, none⟩))).run P w = .ok (.agg (gets w g off n)) w := by
  unfold has at hh
  split at hh
  · rename_i c t fr hg
    have hfit : off + n ≤ c.size := of_decide_eq_true hh
    have hl := run_loadCells_list (P := P) w ⟨g, off, none⟩ ((c.toList.drop off).take n) (fun j v hv => by
      have hadd : (⟨g, off, none⟩ : Addr).add j = ⟨g, off + j, none⟩ := by unfold Addr.add; split <;> simp_all
      rw [hadd, cell_of_row w g _ c t fr hg]
      rw [List.getElem?_take] at hv
      split at hv
      · rw [List.getElem?_drop] at hv; simpa using hv
      · cases hv)
    have hlen : ((c.toList.drop off).take n).length = n := by simp; omega
    rw [hlen] at hl
    unfold sizeT at hs
    cases hq : P.info? ty with
    | none => simp [hq] at hs
    | some i =>
      have hi : i.size = n := by simpa [hq] using hs
      unfold aggT at ha
      have hagg : (isAgg ty).run P w = .ok true w := by
        unfold isAgg
        cases hu : P.underlying ty with
        | none => simp [hu] at ha
        | some d =>
          rw [Sem.run_bind, run_underlying hu w]
          cases d <;> simp_all
      simp [Instr.loadAt, Instr.sureAddr, loadVar, hagg, sizeOf, typeInfo, hq, hi, hl, gets, hg]
  · cases hh

theorem run_loadVar_big (P : Program) (w : World) (ty : TypeId) (g off n : Nat) (ha : aggT P ty = true) (hs : sizeT P ty = some n) (hh : has w g off n = true) :
    (loadVar ty ⟨g, off, none⟩).run P w = .ok (.agg (gets w g off n)) w := by
  have h := run_loadAt_big P w ty g off n ha hs hh
  simpa [Instr.loadAt, Instr.sureAddr] using h
theorem wp_store_big {P : Program} {dst : Option Tmp} {ty ty' : TypeId} {x y : Operand} {pos : String} {after : Array Edge} {guard : Option (Nat × Bool)} {a : Act} {w : World} {K : Act → World → Prop} {Q : Exit → Act → World → Prop}
    (hx : isAt (a.eval x) = true) (hy : isAggV (a.eval y) = true) (hs : sizeT P ty = some (cellsV (a.eval y)).size) (hh : has w (blkOf (a.eval x)) (offOf (a.eval x)) (cellsV (a.eval y)).size = true) (hm : melts w (blkOf (a.eval x)) = true)
    (h1 : flatL (cellsV (a.eval y)).toList = true) :
    Oper.wp P { dst := dst, op := .store ty x y, type := ty', pos := pos, after := after, guard := guard } a w K Q = K (a.put dst undef) (putAt w (blkOf (a.eval x)) (offOf (a.eval x)) (cellsV (a.eval y))) := by
  unfold Oper.wp execOp
  generalize ex : a.eval x = vx at *
  generalize ey : a.eval y = vy at *
  cases vy <;> simp [isAggV] at hy
  unfold isAt at hx
  split at hx
  · rename_i g off
    have hr := run_storeAt_big P w ty g off _ hs hh hm h1
    simp only [cellsV] at hr
    simp only [ex, ey, blkOf, offOf, cellsV, hr, Sem.run_bind, Result.andThen_ok, Sem.run_pure, Oper.upon]
  · cases hx
theorem wp_load_big {P : Program} {dst : Option Tmp} {ty ty' : TypeId} {x : Operand} {pos : String} {after : Array Edge} {guard : Option (Nat × Bool)} {a : Act} {w : World} {K : Act → World → Prop} {Q : Exit → Act → World → Prop}
    (n : Nat) (ha : aggT P ty = true) (hs : sizeT P ty = some n) (hx : isAt (a.eval x) = true) (hh : has w (blkOf (a.eval x)) (offOf (a.eval x)) n = true) :
    Oper.wp P { dst := dst, op := .load ty x, type := ty', pos := pos, after := after, guard := guard } a w K Q = K (a.put dst (.agg (gets w (blkOf (a.eval x)) (offOf (a.eval x)) n))) w := by
  unfold Oper.wp execOp
  generalize ex : a.eval x = vx at *
  unfold isAt at hx
  split at hx
  · rename_i g off
    have hr := run_loadAt_big P w ty g off n ha hs hh
    simp only [ex, blkOf, offOf, hr, Sem.run_bind, Result.andThen_ok, Sem.run_pure, Oper.upon]
  · cases hx
theorem run_exec_load_big {P : Program} {ρ : Operand → Value} {dst : Option Tmp} {ty ty' : TypeId} {x : Operand} {pos : String} {after : Array Edge} {guard : Option (Nat × Bool)} {w : World}
    (n : Nat) (ha : aggT P ty = true) (hs : sizeT P ty = some n) (hx : isAt (ρ x) = true) (hh : has w (blkOf (ρ x)) (offOf (ρ x)) n = true) :
    (execOp ρ { dst := dst, op := .load ty x, type := ty', pos := pos, after := after, guard := guard }).run P w = .ok (.value (.agg (gets w (blkOf (ρ x)) (offOf (ρ x)) n))) w := by
  unfold execOp
  generalize ex : ρ x = vx at *
  unfold isAt at hx
  split at hx
  · rename_i g off
    have hr := run_loadAt_big P w ty g off n ha hs hh
    simp only [ex, blkOf, offOf, hr, Sem.run_bind, Result.andThen_ok, Sem.run_pure]
  · cases hx

section
variable {w w' : World} {g off n : Nat} {t : TypeId} {cs vs : Array Value}
attribute [go_sem] isAt blkOf offOf isAggV cellsV flatL Value.oneCell'
@[go_sem] theorem has_alloc_at (hg : g = w.heap.size) : has (w.alloc (.cells cs t)) g off n = decide (off + n ≤ cs.size) := by subst hg; unfold has; rw [heap_alloc_new]
@[go_sem] theorem has_alloc_past (o : Obj) (hg : g < w.heap.size) : has (w.alloc o) g off n = has w g off n := by unfold has; rw [Below.heap_alloc w o g hg]
@[go_sem] theorem has_drew : has w.drew g off n = has w g off n := rfl
@[go_sem] theorem has_drewN (k : Nat) : has (w.drewN k) g off n = has w g off n := rfl
@[go_sem] theorem melts_alloc_at (hg : g = w.heap.size) : melts (w.alloc (.cells cs t)) g = true := by subst hg; unfold melts; rw [heap_alloc_new]; rfl
@[go_sem] theorem melts_alloc_past (o : Obj) (hg : g < w.heap.size) : melts (w.alloc o) g = melts w g := by unfold melts; rw [Below.heap_alloc w o g hg]
@[go_sem] theorem melts_drew : melts w.drew g = melts w g := rfl
@[go_sem] theorem melts_drewN (k : Nat) : melts (w.drewN k) g = melts w g := rfl
@[go_sem] theorem gets_alloc_at (hg : g = w.heap.size) : gets (w.alloc (.cells cs t)) g off n = ((cs.toList.drop off).take n).toArray := by subst hg; unfold gets; rw [heap_alloc_new]
@[go_sem] theorem gets_alloc_past (o : Obj) (hg : g < w.heap.size) : gets (w.alloc o) g off n = gets w g off n := by unfold gets; rw [Below.heap_alloc w o g hg]
@[go_sem] theorem gets_drew : gets w.drew g off n = gets w g off n := rfl
@[go_sem] theorem gets_drewN (k : Nat) : gets (w.drewN k) g off n = gets w g off n := rfl
@[go_sem] theorem putAt_size : (putAt w g off vs).heap.size = w.heap.size := by simp [putAt]
@[go_sem] theorem putAt_drew : putAt w.drew g off vs = (putAt w g off vs).drew := rfl
@[go_sem] theorem putAt_drewN (k : Nat) : putAt (w.drewN k) g off vs = (putAt w g off vs).drewN k := rfl
@[go_sem] theorem putAt_alloc_at (hg : g = w.heap.size) : putAt (w.alloc (.cells cs t)) g off vs = w.alloc (.cells (splice cs off vs) t) := by
  subst hg
  unfold putAt World.alloc
  congr 1
  apply Array.ext_getElem?
  intro k
  simp only [Array.getElem?_modify, Array.getElem?_push]
  by_cases hk : k = w.heap.size
  · subst hk; simp
  · simp [hk, Ne.symm hk]
@[go_sem] theorem putAt_alloc_past (o : Obj) (hg : g < w.heap.size) : putAt (w.alloc o) g off vs = (putAt w g off vs).alloc o := by
  unfold putAt World.alloc
  congr 1
  apply Array.ext_getElem?
  intro k
  simp only [Array.getElem?_modify, Array.getElem?_push, Array.size_modify]
  by_cases hk : k = w.heap.size
  · subst hk; simp [Nat.ne_of_lt hg]
  · simp [hk]
@[go_sem] theorem splice_lit (l l' : List Value) : splice l.toArray off l'.toArray = (l.take off ++ l' ++ l.drop (off + l'.length)).toArray := by simp [splice]
theorem splice_size (h : off + vs.size ≤ cs.size) : (splice cs off vs).size = cs.size := by simp [splice]; omega
theorem splice_get_out {i : Nat} (h : off + vs.size ≤ cs.size) (hi : i < off ∨ off + vs.size ≤ i) : (splice cs off vs)[i]? = cs[i]? := by
  simp only [splice, List.getElem?_toArray]
  rcases hi with hi | hi
  · rw [List.append_assoc, List.getElem?_append_left (by simp; omega), List.getElem?_take, if_pos hi]; simp
  · rw [List.getElem?_append_right (by simp; omega), List.getElem?_drop]
    simp only [List.length_append, List.length_take, Array.length_toList]
    rw [show off + vs.size + (i - (min off cs.size + vs.size)) = i from by omega]; simp
@[go_sem] theorem melts_putAt {k : Nat} : melts (putAt w g off vs) k = melts w k := by
  by_cases h : k = g
  · subst h
    simp only [melts, putAt, Array.getElem?_modify, if_true]
    cases hq : w.heap[k]? with
    | none => rfl
    | some o =>
      cases o
      case cells c e fr => obtain ⟨lo, hi⟩ := fr; cases lo <;> cases hi <;> rfl
      all_goals rfl
  · simp only [melts, putAt_heap_other h]
@[go_sem] theorem has_putAt {k o n : Nat} (hh : has w g off vs.size = true) : has (putAt w g off vs) k o n = has w k o n := by
  by_cases h : k = g
  · subst h
    unfold has at hh ⊢
    simp only [putAt, Array.getElem?_modify, if_true]
    cases hq : w.heap[k]? with
    | none => simp
    | some ob =>
      rw [hq] at hh
      cases ob <;> simp at hh ⊢
      rw [splice_size hh]
  · simp only [has, putAt_heap_other h]
@[go_sem] theorem cell_putAt_out {i : Nat} (hh : has w g off vs.size = true) (hi : i < off ∨ off + vs.size ≤ i) : (putAt w g off vs).cell? ⟨g, i, none⟩ = w.cell? ⟨g, i, none⟩ := by
  unfold has at hh
  simp only [World.cell?, putAt, Array.getElem?_modify, if_true]
  cases hq : w.heap[g]? with
  | none => simp
  | some ob =>
    rw [hq] at hh
    cases ob <;> simp at hh ⊢
    rw [splice_get_out hh hi]
@[go_sem] theorem cell_putAt_far {p : Addr} (h : p.block ≠ g) : (putAt w g off vs).cell? p = w.cell? p := by simp only [World.cell?, putAt_heap_other h]
@[go_sem] theorem frozen_putAt {p : Addr} : (putAt w g off vs).frozen? p = w.frozen? p := by
  by_cases h : p.block = g
  · simp only [World.frozen?, putAt, Array.getElem?_modify, h, if_true]
    cases hq : w.heap[g]? with
    | none => simp
    | some ob => cases ob <;> simp
  · simp only [World.frozen?, putAt_heap_other h]
theorem splice_drop_take_out {o : Nat} (h : off + vs.size ≤ cs.size) (hi : o + n ≤ off ∨ off + vs.size ≤ o) : ((splice cs off vs).toList.drop o).take n = (cs.toList.drop o).take n := by
  apply List.ext_getElem?
  intro j
  rw [List.getElem?_take, List.getElem?_take]
  split
  · rw [List.getElem?_drop, List.getElem?_drop]
    have := splice_get_out (cs := cs) (vs := vs) (off := off) (i := o + j) h (by omega)
    simpa using this
  · rfl
theorem splice_drop_take_in (h : off + vs.size ≤ cs.size) (hn : n = vs.size) : ((splice cs off vs).toList.drop off).take n = vs.toList := by
  subst hn
  simp only [splice]
  rw [List.append_assoc, List.drop_append_of_le_length (by simp; omega), List.drop_of_length_le (by simp; omega), List.nil_append, List.take_append_of_le_length (by simp), List.take_of_length_le (by simp)]
@[go_sem] theorem gets_putAt_out {o : Nat} (hh : has w g off vs.size = true) (hi : o + n ≤ off ∨ off + vs.size ≤ o) : gets (putAt w g off vs) g o n = gets w g o n := by
  unfold has at hh
  simp only [gets, putAt, Array.getElem?_modify, if_true]
  cases hq : w.heap[g]? with
  | none => simp
  | some ob =>
    rw [hq] at hh
    cases ob <;> simp at hh ⊢
    have := splice_drop_take_out (n := n) hh hi
    simpa using this
@[go_sem] theorem gets_putAt_in (hh : has w g off vs.size = true) (hn : n = vs.size) : gets (putAt w g off vs) g off n = vs := by
  unfold has at hh
  simp only [gets, putAt, Array.getElem?_modify, if_true]
  cases hq : w.heap[g]? with
  | none => rw [hq] at hh; simp at hh
  | some ob =>
    rw [hq] at hh
    cases ob <;> simp at hh ⊢
    have := splice_drop_take_in (n := n) hh hn
    rw [this]
@[go_sem] theorem gets_putAt_far {k o : Nat} (h : k ≠ g) : gets (putAt w g off vs) k o n = gets w k o n := by simp only [gets, putAt_heap_other h]
@[go_sem] theorem has_setCell {k o n : Nat} {p : Addr} {u : Value} : has (w.setCell p u) k o n = has w k o n := by
  by_cases h : k = p.block
  · subst h
    simp only [has, World.setCell, Array.getElem?_modify, if_true]
    cases hq : w.heap[p.block]? with
    | none => simp
    | some ob =>
      cases ob <;> simp
      split <;> simp
  · simp only [has, Below.heap_setCell w p u k h]
@[go_sem] theorem melts_setCell {k : Nat} {p : Addr} {u : Value} : melts (w.setCell p u) k = melts w k := by
  by_cases h : k = p.block
  · subst h
    simp only [melts, World.setCell, Array.getElem?_modify, if_true]
    cases hq : w.heap[p.block]? with
    | none => simp
    | some ob =>
      cases ob
      case cells c e fr => obtain ⟨lo, hi⟩ := fr; cases lo <;> cases hi <;> simp
      all_goals simp
  · simp only [melts, Below.heap_setCell w p u k h]
theorem Blk.has (h : Blk w g t cs) (off n : Nat) : has w g off n = decide (off + n ≤ cs.size) := by unfold Blk at h; simp [Proofs.YtahljceanodhkaaGreatDoor.has, h]
theorem Blk.melts (h : Blk w g t cs) : melts w g = true := by unfold Blk at h; simp [Proofs.YtahljceanodhkaaGreatDoor.melts, h]
theorem Blk.gets (h : Blk w g t cs) (off n : Nat) : gets w g off n = ((cs.toList.drop off).take n).toArray := by unfold Blk at h; simp [Proofs.YtahljceanodhkaaGreatDoor.gets, h]
theorem Blk.put_ (h : Blk w g t cs) (off : Nat) (vs : Array Value) : Blk (putAt w g off vs) g t (splice cs off vs) := putAt_heap_same h
theorem Kept.putAt {S : Nat → Prop} {a : World} (h : Kept S a w) (g off : Nat) (vs : Array Value) (hp : g < a.heap.size → S g) : Kept S a (putAt w g off vs) :=
  h.trans' (S' := (· = g)) ⟨rfl, rfl, rfl, by simp [Proofs.YtahljceanodhkaaGreatDoor.putAt], fun k _ hn => putAt_heap_other hn⟩ (fun i hi e => by subst e; exact hp hi)
end

theorem run_loadVar_blk {P : Program} {w : World} {ty t : TypeId} {g : Nat} {cs : Array Value} (ha : aggT P ty = true) (hs : sizeT P ty = some cs.size) (hb : Blk w g t cs) :
    (loadVar ty ⟨g, 0, none⟩).run P w = .ok (.agg cs) w := by
  rw [run_loadVar_big P w ty g 0 cs.size ha hs (by rw [Blk.has hb]; simp), Blk.gets hb]
  rw [List.drop_zero, List.take_of_length_le (by simp), Array.toArray_toList]
/-- The one result is a value of many cells, in a block of its own. -/
theorem ret_cell {P : Program} {fn : Func} {R : Ending → World → Prop} {a : Act} {w : World} {p : Tmp} {ty t : TypeId} {g : Nat} {cs : Array Value}
    (hres : fn.results = #[.cell p ty]) (hd : a.defers = []) (hp : a.tmps.getD p undef = .pointer (some ⟨g, 0, none⟩)) (ha : aggT P ty = true) (hs : sizeT P ty = some cs.size) (hb : Blk w g t cs)
    (hR : R (.returned (.agg cs)) w) : bodyPost P fn R .ret a w := by
  have hp' : a.tmps[p]?.getD undef = .pointer (some ⟨g, 0, none⟩) := by simpa using hp
  exact bodyPost_ret (by simp [results, hres, hp', asAddr, run_loadVar_blk ha hs hb]) hd hR
/-! ### '==' of two arrays of integers -/
theorem all_range_beq : ∀ (xs ys : List Int), xs.length = ys.length → (List.range xs.length).all (fun i => xs.getD i 0 == ys.getD i 0) = (xs == ys)
  | [], [], _ => rfl
  | x :: xs, y :: ys, h => by
    have ih := all_range_beq xs ys (by simpa using h)
    rw [List.length_cons, List.range_succ_eq_map, List.all_cons, List.all_map]
    simp only [Function.comp_def, List.getD_cons_succ, List.getD_cons_zero]
    rw [ih]
    simp [List.cons_beq_cons]
  | [], _ :: _, h => by simp at h
  | _ :: _, [], h => by simp at h
theorem run_equalIn_ints {P : Program} (w : World) (d : Nat) (t e : TypeId) (n : Nat) (k : IntKind) (ht : P.underlying t = some (.array n e)) (he : P.underlying e = some (.int k)) (hsz : ∀ w, (sizeOf e).run P w = .ok 1 w)
    (xs ys : List Int) (hx : xs.length = n) (hy : ys.length = n) :
    (Op.equalIn (d + 2) t (.agg (xs.map (Value.int k)).toArray) (.agg (ys.map (Value.int k)).toArray)).run P w = .ok (xs == ys) w := by
  rw [← all_range_beq xs ys (hx.trans hy.symm), hx, List.range_eq_range', Op.equalIn]
  simp only [Sem.run_bind, run_underlying ht, Result.andThen_ok, hsz, Std.Legacy.Range.forIn_eq_forIn_range', Std.Legacy.Range.size, Nat.sub_zero, Nat.add_sub_cancel, Nat.div_one]
  have hl : ∀ i ∈ List.range' 0 n 1, i < n := fun i hi => by simpa using (List.mem_range'_1.1 hi).2
  generalize List.range' 0 n 1 = l at hl ⊢
  induction l with
  | nil => simp
  | cons i l ih =>
    have hi : i < n := hl i (by simp)
    have px : (part e (xs.map (Value.int k)).toArray (i * 1)).run P w = .ok (.int k (xs.getD i 0)) w := by
      simp [part, isAgg, run_underlying he, List.getD, List.getElem?_eq_getElem (show i < xs.length by omega)]
    have py : (part e (ys.map (Value.int k)).toArray (i * 1)).run P w = .ok (.int k (ys.getD i 0)) w := by
      simp [part, isAgg, run_underlying he, List.getD, List.getElem?_eq_getElem (show i < ys.length by omega)]
    have pe : (Op.equalIn (d + 1) e (.int k (xs.getD i 0)) (.int k (ys.getD i 0))).run P w = .ok (xs.getD i 0 == ys.getD i 0) w := run_equalIn_int w d e k k _ _ he
    simp only [List.forIn_cons, Sem.run_bind, px, py, pe, Result.andThen_ok, List.all_cons]
    cases hb : (xs.getD i 0 == ys.getD i 0)
    · simp
    · simp only [Bool.not_true, Bool.false_eq_true, if_false, Sem.run_pure, Result.andThen_ok, Bool.true_and]
      exact ih fun j hj => hl j (by simp [hj])
theorem sizeOf_run {P : Program} {e : TypeId} {n : Nat} (h : sizeT P e = some n) (w : World) : (sizeOf e).run P w = .ok n w := by
  unfold sizeT at h
  cases hq : P.info? e with
  | none => simp [hq] at h
  | some i => simp [hq] at h; simp [sizeOf, typeInfo, hq, h]

theorem ret_int {k : IntKind} {a b : Int} (h : a = b) : Ending.returned (.int k a) = .returned (.int k b) := by rw [h]
end Go.Proofs.YtahljceanodhkaaGreatDoor

/- A region that draws its order, walked in the order of the text: what yields the same value in every world that meets S (flag true) is taken first; what acts (flag false) comes up alone. S need not hold behind an operation that waits for all that are taken first. -/
namespace Go.Proofs.YtahljceanodhkaaGreatDoor
open Go.RowKit
section
variable {P : Program} {ops : Array Oper} {Q : Exit → Act → World → Prop} {S : World → Prop} {md : Region.Mode} {ex : Nat → Bool}
/-- What has come up: with each also all that it waits for. -/
def Down (md : Region.Mode) (ops : Array Oper) (listed : Array Bool) : Prop :=
  ∀ (j : Nat) (oj : Oper), ops[j]? = some oj → listed.getD j false = true → ∀ e ∈ oj.after, Region.binds md e = true → listed.getD e.on false = true
def dpL (md : Region.Mode) : List Edge → Nat | [] => 0 | e :: r => (if Region.binds md e then 2 ^ e.on else 0) ||| dpL md r
def dpMask (md : Region.Mode) (ops : Array Oper) (k : Nat) : Nat := match ops[k]? with | some o => dpL md o.after.toList | none => 0
/-- All that is waited for, from k - 1 down. -/
def downMask (md : Region.Mode) (ops : Array Oper) : Nat → Nat → Nat
  | 0, m => m
  | k + 1, m => downMask md ops k (if m.testBit k then m ||| dpMask md ops k else m)
theorem dpL_bit (md : Region.Mode) : ∀ {l : List Edge} {i : Nat}, (dpL md l).testBit i = true → ∃ e ∈ l, Region.binds md e = true ∧ e.on = i
  | [], i, h => by simp [dpL] at h
  | e :: r, i, h => by
    simp only [dpL, Nat.testBit_or, Bool.or_eq_true] at h
    rcases h with h | h
    · split at h
      · rename_i hb
        rw [Nat.testBit_two_pow] at h
        exact ⟨e, by simp, hb, by simpa using h⟩
      · simp at h
    · obtain ⟨e', he, hb, hi⟩ := dpL_bit md h
      exact ⟨e', by simp [he], hb, hi⟩
theorem dpMask_bit {md : Region.Mode} {ops : Array Oper} {k i : Nat} (h : (dpMask md ops k).testBit i = true) : ∃ o, ops[k]? = some o ∧ ∃ e ∈ o.after, Region.binds md e = true ∧ e.on = i := by
  unfold dpMask at h
  split at h
  · rename_i o ho
    obtain ⟨e, he, hb, hi⟩ := dpL_bit md h
    exact ⟨o, ho, e, by simpa using he, hb, hi⟩
  · simp at h
theorem downMask_listed {md : Region.Mode} {ops : Array Oper} {listed : Array Bool} (hd : Down md ops listed) : ∀ (k m : Nat), (∀ i, m.testBit i = true → listed.getD i false = true) →
    ∀ i, (downMask md ops k m).testBit i = true → listed.getD i false = true
  | 0, m, h => h
  | k + 1, m, h => by
    refine downMask_listed hd k _ fun i hi => ?_
    split at hi
    · rename_i hk
      rw [Nat.testBit_or, Bool.or_eq_true] at hi
      rcases hi with hi | hi
      · exact h i hi
      · obtain ⟨o, ho, e, he, hb, rfl⟩ := dpMask_bit hi
        exact hd k o ho (h k hk) e he hb
    · exact h i hi
theorem Down.set {md : Region.Mode} {ops : Array Oper} {listed : Array Bool} {j : Nat} (hd : Down md ops listed) (hj : j ∈ Region.ready md ops listed) : Down md ops (listed.setIfInBounds j true) := by
  obtain ⟨_, oj, hoj, hall⟩ := mem_ready.1 hj
  intro k ok hk hl e he hb
  by_cases hkj : j = k
  · subst hkj
    rw [hoj] at hk
    injection hk with hk
    subst hk
    exact getD_set_true (hall e he hb)
  · rw [getD_set_ne false hkj] at hl
    exact getD_set_true (hd k ok hk hl e he hb)
theorem Down.init {md : Region.Mode} {ops : Array Oper} (n : Nat) : Down md ops (Array.replicate n false) := by
  intro j oj _ hl
  exfalso
  rcases Nat.lt_or_ge j n with h | h
  · simp [h] at hl
  · simp [Array.getElem?_eq_none (show (Array.replicate n false).size ≤ j by simpa using h)] at hl
def noP (Q : Exit → Act → World → Prop) : Exit → Act → World → Prop
  | .normal, a, w => Q .normal a w
  | _, _, _ => False
theorem noP.imp : ∀ (e : Exit) (a : Act) (w : World), noP Q e a w → Q e a w := fun e a w h => by
  cases e <;> first | exact h | exact h.elim
variable {fs : List Bool} {k : Nat}
end
end Go.Proofs.YtahljceanodhkaaGreatDoor

/- A region that draws its order, walked in an order that is handed in (numbers, each with its flag): as Ord, whatever the text's order. -/
namespace Go.Proofs.YtahljceanodhkaaGreatDoor
open Go.RowKit
section
variable {P : Program} {ops : Array Oper} {Q : Exit → Act → World → Prop} {S : World → Prop} {md : Region.Mode} {ex : Nat → Bool}
def nop : Oper := { dst := none, op := .load 0 (.tmp 0), type := 0, pos := "", after := #[], guard := none }
variable {od : List (Nat × Bool)} {k : Nat}
end
end Go.Proofs.YtahljceanodhkaaGreatDoor

/- Blocks below several new ones: what is read of them, in one step. -/
namespace Go.Proofs.YtahljceanodhkaaGreatDoor
open Go.RowKit
section
variable {w : World} {off n g : Nat} {vs : Array Value}
@[go_sem high] theorem has_new_2_0 {o0 o1 : Obj} : has ((w.alloc o0).alloc o1) (w.heap.size) off n = has (w.alloc o0) (w.heap.size) off n := by
  have h : ((w.alloc o0).alloc o1).heap[w.heap.size]? = (w.alloc o0).heap[w.heap.size]? := by
    rw [Below.heap_alloc _ _ _ (by simp <;> omega)]
  unfold has; rw [h]
@[go_sem high] theorem gets_new_2_0 {o0 o1 : Obj} : gets ((w.alloc o0).alloc o1) (w.heap.size) off n = gets (w.alloc o0) (w.heap.size) off n := by
  have h : ((w.alloc o0).alloc o1).heap[w.heap.size]? = (w.alloc o0).heap[w.heap.size]? := by
    rw [Below.heap_alloc _ _ _ (by simp <;> omega)]
  unfold gets; rw [h]
@[go_sem high] theorem melts_new_2_0 {o0 o1 : Obj} : melts ((w.alloc o0).alloc o1) (w.heap.size)  = melts (w.alloc o0) (w.heap.size)  := by
  have h : ((w.alloc o0).alloc o1).heap[w.heap.size]? = (w.alloc o0).heap[w.heap.size]? := by
    rw [Below.heap_alloc _ _ _ (by simp <;> omega)]
  unfold melts; rw [h]
@[go_sem high] theorem putAt_new_2_0 {o0 o1 : Obj} : putAt ((w.alloc o0).alloc o1) (w.heap.size) off vs = ((putAt (w.alloc o0) (w.heap.size) off vs).alloc o1) := by
  rw [putAt_alloc_past _ (by simp <;> omega)]
@[go_sem high] theorem has_new_3_0 {o0 o1 o2 : Obj} : has (((w.alloc o0).alloc o1).alloc o2) (w.heap.size) off n = has (w.alloc o0) (w.heap.size) off n := by
  have h : (((w.alloc o0).alloc o1).alloc o2).heap[w.heap.size]? = (w.alloc o0).heap[w.heap.size]? := by
    rw [Below.heap_alloc _ _ _ (by simp <;> omega)]; rw [Below.heap_alloc _ _ _ (by simp <;> omega)]
  unfold has; rw [h]
@[go_sem high] theorem gets_new_3_0 {o0 o1 o2 : Obj} : gets (((w.alloc o0).alloc o1).alloc o2) (w.heap.size) off n = gets (w.alloc o0) (w.heap.size) off n := by
  have h : (((w.alloc o0).alloc o1).alloc o2).heap[w.heap.size]? = (w.alloc o0).heap[w.heap.size]? := by
    rw [Below.heap_alloc _ _ _ (by simp <;> omega)]; rw [Below.heap_alloc _ _ _ (by simp <;> omega)]
  unfold gets; rw [h]
@[go_sem high] theorem melts_new_3_0 {o0 o1 o2 : Obj} : melts (((w.alloc o0).alloc o1).alloc o2) (w.heap.size)  = melts (w.alloc o0) (w.heap.size)  := by
  have h : (((w.alloc o0).alloc o1).alloc o2).heap[w.heap.size]? = (w.alloc o0).heap[w.heap.size]? := by
    rw [Below.heap_alloc _ _ _ (by simp <;> omega)]; rw [Below.heap_alloc _ _ _ (by simp <;> omega)]
  unfold melts; rw [h]
@[go_sem high] theorem putAt_new_3_0 {o0 o1 o2 : Obj} : putAt (((w.alloc o0).alloc o1).alloc o2) (w.heap.size) off vs = (((putAt (w.alloc o0) (w.heap.size) off vs).alloc o1).alloc o2) := by
  rw [putAt_alloc_past _ (by simp <;> omega)]; rw [putAt_alloc_past _ (by simp <;> omega)]
@[go_sem high] theorem has_new_3_1 {o0 o1 o2 : Obj} : has (((w.alloc o0).alloc o1).alloc o2) (w.heap.size + 1) off n = has ((w.alloc o0).alloc o1) (w.heap.size + 1) off n := by
  have h : (((w.alloc o0).alloc o1).alloc o2).heap[w.heap.size + 1]? = ((w.alloc o0).alloc o1).heap[w.heap.size + 1]? := by
    rw [Below.heap_alloc _ _ _ (by simp <;> omega)]
  unfold has; rw [h]
@[go_sem high] theorem gets_new_3_1 {o0 o1 o2 : Obj} : gets (((w.alloc o0).alloc o1).alloc o2) (w.heap.size + 1) off n = gets ((w.alloc o0).alloc o1) (w.heap.size + 1) off n := by
  have h : (((w.alloc o0).alloc o1).alloc o2).heap[w.heap.size + 1]? = ((w.alloc o0).alloc o1).heap[w.heap.size + 1]? := by
    rw [Below.heap_alloc _ _ _ (by simp <;> omega)]
  unfold gets; rw [h]
@[go_sem high] theorem melts_new_3_1 {o0 o1 o2 : Obj} : melts (((w.alloc o0).alloc o1).alloc o2) (w.heap.size + 1)  = melts ((w.alloc o0).alloc o1) (w.heap.size + 1)  := by
  have h : (((w.alloc o0).alloc o1).alloc o2).heap[w.heap.size + 1]? = ((w.alloc o0).alloc o1).heap[w.heap.size + 1]? := by
    rw [Below.heap_alloc _ _ _ (by simp <;> omega)]
  unfold melts; rw [h]
@[go_sem high] theorem putAt_new_3_1 {o0 o1 o2 : Obj} : putAt (((w.alloc o0).alloc o1).alloc o2) (w.heap.size + 1) off vs = ((putAt ((w.alloc o0).alloc o1) (w.heap.size + 1) off vs).alloc o2) := by
  rw [putAt_alloc_past _ (by simp <;> omega)]
@[go_sem high] theorem has_new_4_0 {o0 o1 o2 o3 : Obj} : has ((((w.alloc o0).alloc o1).alloc o2).alloc o3) (w.heap.size) off n = has (w.alloc o0) (w.heap.size) off n := by
  have h : ((((w.alloc o0).alloc o1).alloc o2).alloc o3).heap[w.heap.size]? = (w.alloc o0).heap[w.heap.size]? := by
    rw [Below.heap_alloc _ _ _ (by simp <;> omega)]; rw [Below.heap_alloc _ _ _ (by simp <;> omega)]; rw [Below.heap_alloc _ _ _ (by simp <;> omega)]
  unfold has; rw [h]
@[go_sem high] theorem gets_new_4_0 {o0 o1 o2 o3 : Obj} : gets ((((w.alloc o0).alloc o1).alloc o2).alloc o3) (w.heap.size) off n = gets (w.alloc o0) (w.heap.size) off n := by
  have h : ((((w.alloc o0).alloc o1).alloc o2).alloc o3).heap[w.heap.size]? = (w.alloc o0).heap[w.heap.size]? := by
    rw [Below.heap_alloc _ _ _ (by simp <;> omega)]; rw [Below.heap_alloc _ _ _ (by simp <;> omega)]; rw [Below.heap_alloc _ _ _ (by simp <;> omega)]
  unfold gets; rw [h]
@[go_sem high] theorem melts_new_4_0 {o0 o1 o2 o3 : Obj} : melts ((((w.alloc o0).alloc o1).alloc o2).alloc o3) (w.heap.size)  = melts (w.alloc o0) (w.heap.size)  := by
  have h : ((((w.alloc o0).alloc o1).alloc o2).alloc o3).heap[w.heap.size]? = (w.alloc o0).heap[w.heap.size]? := by
    rw [Below.heap_alloc _ _ _ (by simp <;> omega)]; rw [Below.heap_alloc _ _ _ (by simp <;> omega)]; rw [Below.heap_alloc _ _ _ (by simp <;> omega)]
  unfold melts; rw [h]
@[go_sem high] theorem putAt_new_4_0 {o0 o1 o2 o3 : Obj} : putAt ((((w.alloc o0).alloc o1).alloc o2).alloc o3) (w.heap.size) off vs = ((((putAt (w.alloc o0) (w.heap.size) off vs).alloc o1).alloc o2).alloc o3) := by
  rw [putAt_alloc_past _ (by simp <;> omega)]; rw [putAt_alloc_past _ (by simp <;> omega)]; rw [putAt_alloc_past _ (by simp <;> omega)]
@[go_sem high] theorem has_new_4_1 {o0 o1 o2 o3 : Obj} : has ((((w.alloc o0).alloc o1).alloc o2).alloc o3) (w.heap.size + 1) off n = has ((w.alloc o0).alloc o1) (w.heap.size + 1) off n := by
  have h : ((((w.alloc o0).alloc o1).alloc o2).alloc o3).heap[w.heap.size + 1]? = ((w.alloc o0).alloc o1).heap[w.heap.size + 1]? := by
    rw [Below.heap_alloc _ _ _ (by simp <;> omega)]; rw [Below.heap_alloc _ _ _ (by simp <;> omega)]
  unfold has; rw [h]
@[go_sem high] theorem gets_new_4_1 {o0 o1 o2 o3 : Obj} : gets ((((w.alloc o0).alloc o1).alloc o2).alloc o3) (w.heap.size + 1) off n = gets ((w.alloc o0).alloc o1) (w.heap.size + 1) off n := by
  have h : ((((w.alloc o0).alloc o1).alloc o2).alloc o3).heap[w.heap.size + 1]? = ((w.alloc o0).alloc o1).heap[w.heap.size + 1]? := by
    rw [Below.heap_alloc _ _ _ (by simp <;> omega)]; rw [Below.heap_alloc _ _ _ (by simp <;> omega)]
  unfold gets; rw [h]
@[go_sem high] theorem melts_new_4_1 {o0 o1 o2 o3 : Obj} : melts ((((w.alloc o0).alloc o1).alloc o2).alloc o3) (w.heap.size + 1)  = melts ((w.alloc o0).alloc o1) (w.heap.size + 1)  := by
  have h : ((((w.alloc o0).alloc o1).alloc o2).alloc o3).heap[w.heap.size + 1]? = ((w.alloc o0).alloc o1).heap[w.heap.size + 1]? := by
    rw [Below.heap_alloc _ _ _ (by simp <;> omega)]; rw [Below.heap_alloc _ _ _ (by simp <;> omega)]
  unfold melts; rw [h]
@[go_sem high] theorem putAt_new_4_1 {o0 o1 o2 o3 : Obj} : putAt ((((w.alloc o0).alloc o1).alloc o2).alloc o3) (w.heap.size + 1) off vs = (((putAt ((w.alloc o0).alloc o1) (w.heap.size + 1) off vs).alloc o2).alloc o3) := by
  rw [putAt_alloc_past _ (by simp <;> omega)]; rw [putAt_alloc_past _ (by simp <;> omega)]
@[go_sem high] theorem has_new_4_2 {o0 o1 o2 o3 : Obj} : has ((((w.alloc o0).alloc o1).alloc o2).alloc o3) (w.heap.size + 1 + 1) off n = has (((w.alloc o0).alloc o1).alloc o2) (w.heap.size + 1 + 1) off n := by
  have h : ((((w.alloc o0).alloc o1).alloc o2).alloc o3).heap[w.heap.size + 1 + 1]? = (((w.alloc o0).alloc o1).alloc o2).heap[w.heap.size + 1 + 1]? := by
    rw [Below.heap_alloc _ _ _ (by simp <;> omega)]
  unfold has; rw [h]
@[go_sem high] theorem gets_new_4_2 {o0 o1 o2 o3 : Obj} : gets ((((w.alloc o0).alloc o1).alloc o2).alloc o3) (w.heap.size + 1 + 1) off n = gets (((w.alloc o0).alloc o1).alloc o2) (w.heap.size + 1 + 1) off n := by
  have h : ((((w.alloc o0).alloc o1).alloc o2).alloc o3).heap[w.heap.size + 1 + 1]? = (((w.alloc o0).alloc o1).alloc o2).heap[w.heap.size + 1 + 1]? := by
    rw [Below.heap_alloc _ _ _ (by simp <;> omega)]
  unfold gets; rw [h]
@[go_sem high] theorem melts_new_4_2 {o0 o1 o2 o3 : Obj} : melts ((((w.alloc o0).alloc o1).alloc o2).alloc o3) (w.heap.size + 1 + 1)  = melts (((w.alloc o0).alloc o1).alloc o2) (w.heap.size + 1 + 1)  := by
  have h : ((((w.alloc o0).alloc o1).alloc o2).alloc o3).heap[w.heap.size + 1 + 1]? = (((w.alloc o0).alloc o1).alloc o2).heap[w.heap.size + 1 + 1]? := by
    rw [Below.heap_alloc _ _ _ (by simp <;> omega)]
  unfold melts; rw [h]
@[go_sem high] theorem putAt_new_4_2 {o0 o1 o2 o3 : Obj} : putAt ((((w.alloc o0).alloc o1).alloc o2).alloc o3) (w.heap.size + 1 + 1) off vs = ((putAt (((w.alloc o0).alloc o1).alloc o2) (w.heap.size + 1 + 1) off vs).alloc o3) := by
  rw [putAt_alloc_past _ (by simp <;> omega)]
@[go_sem high] theorem has_new_5_0 {o0 o1 o2 o3 o4 : Obj} : has (((((w.alloc o0).alloc o1).alloc o2).alloc o3).alloc o4) (w.heap.size) off n = has (w.alloc o0) (w.heap.size) off n := by
  have h : (((((w.alloc o0).alloc o1).alloc o2).alloc o3).alloc o4).heap[w.heap.size]? = (w.alloc o0).heap[w.heap.size]? := by
    rw [Below.heap_alloc _ _ _ (by simp <;> omega)]; rw [Below.heap_alloc _ _ _ (by simp <;> omega)]; rw [Below.heap_alloc _ _ _ (by simp <;> omega)]; rw [Below.heap_alloc _ _ _ (by simp <;> omega)]
  unfold has; rw [h]
@[go_sem high] theorem gets_new_5_0 {o0 o1 o2 o3 o4 : Obj} : gets (((((w.alloc o0).alloc o1).alloc o2).alloc o3).alloc o4) (w.heap.size) off n = gets (w.alloc o0) (w.heap.size) off n := by
  have h : (((((w.alloc o0).alloc o1).alloc o2).alloc o3).alloc o4).heap[w.heap.size]? = (w.alloc o0).heap[w.heap.size]? := by
    rw [Below.heap_alloc _ _ _ (by simp <;> omega)]; rw [Below.heap_alloc _ _ _ (by simp <;> omega)]; rw [Below.heap_alloc _ _ _ (by simp <;> omega)]; rw [Below.heap_alloc _ _ _ (by simp <;> omega)]
  unfold gets; rw [h]
@[go_sem high] theorem melts_new_5_0 {o0 o1 o2 o3 o4 : Obj} : melts (((((w.alloc o0).alloc o1).alloc o2).alloc o3).alloc o4) (w.heap.size)  = melts (w.alloc o0) (w.heap.size)  := by
  have h : (((((w.alloc o0).alloc o1).alloc o2).alloc o3).alloc o4).heap[w.heap.size]? = (w.alloc o0).heap[w.heap.size]? := by
    rw [Below.heap_alloc _ _ _ (by simp <;> omega)]; rw [Below.heap_alloc _ _ _ (by simp <;> omega)]; rw [Below.heap_alloc _ _ _ (by simp <;> omega)]; rw [Below.heap_alloc _ _ _ (by simp <;> omega)]
  unfold melts; rw [h]
@[go_sem high] theorem putAt_new_5_0 {o0 o1 o2 o3 o4 : Obj} : putAt (((((w.alloc o0).alloc o1).alloc o2).alloc o3).alloc o4) (w.heap.size) off vs = (((((putAt (w.alloc o0) (w.heap.size) off vs).alloc o1).alloc o2).alloc o3).alloc o4) := by
  rw [putAt_alloc_past _ (by simp <;> omega)]; rw [putAt_alloc_past _ (by simp <;> omega)]; rw [putAt_alloc_past _ (by simp <;> omega)]; rw [putAt_alloc_past _ (by simp <;> omega)]
@[go_sem high] theorem has_new_5_1 {o0 o1 o2 o3 o4 : Obj} : has (((((w.alloc o0).alloc o1).alloc o2).alloc o3).alloc o4) (w.heap.size + 1) off n = has ((w.alloc o0).alloc o1) (w.heap.size + 1) off n := by
  have h : (((((w.alloc o0).alloc o1).alloc o2).alloc o3).alloc o4).heap[w.heap.size + 1]? = ((w.alloc o0).alloc o1).heap[w.heap.size + 1]? := by
    rw [Below.heap_alloc _ _ _ (by simp <;> omega)]; rw [Below.heap_alloc _ _ _ (by simp <;> omega)]; rw [Below.heap_alloc _ _ _ (by simp <;> omega)]
  unfold has; rw [h]
@[go_sem high] theorem gets_new_5_1 {o0 o1 o2 o3 o4 : Obj} : gets (((((w.alloc o0).alloc o1).alloc o2).alloc o3).alloc o4) (w.heap.size + 1) off n = gets ((w.alloc o0).alloc o1) (w.heap.size + 1) off n := by
  have h : (((((w.alloc o0).alloc o1).alloc o2).alloc o3).alloc o4).heap[w.heap.size + 1]? = ((w.alloc o0).alloc o1).heap[w.heap.size + 1]? := by
    rw [Below.heap_alloc _ _ _ (by simp <;> omega)]; rw [Below.heap_alloc _ _ _ (by simp <;> omega)]; rw [Below.heap_alloc _ _ _ (by simp <;> omega)]
  unfold gets; rw [h]
@[go_sem high] theorem melts_new_5_1 {o0 o1 o2 o3 o4 : Obj} : melts (((((w.alloc o0).alloc o1).alloc o2).alloc o3).alloc o4) (w.heap.size + 1)  = melts ((w.alloc o0).alloc o1) (w.heap.size + 1)  := by
  have h : (((((w.alloc o0).alloc o1).alloc o2).alloc o3).alloc o4).heap[w.heap.size + 1]? = ((w.alloc o0).alloc o1).heap[w.heap.size + 1]? := by
    rw [Below.heap_alloc _ _ _ (by simp <;> omega)]; rw [Below.heap_alloc _ _ _ (by simp <;> omega)]; rw [Below.heap_alloc _ _ _ (by simp <;> omega)]
  unfold melts; rw [h]
@[go_sem high] theorem putAt_new_5_1 {o0 o1 o2 o3 o4 : Obj} : putAt (((((w.alloc o0).alloc o1).alloc o2).alloc o3).alloc o4) (w.heap.size + 1) off vs = ((((putAt ((w.alloc o0).alloc o1) (w.heap.size + 1) off vs).alloc o2).alloc o3).alloc o4) := by
  rw [putAt_alloc_past _ (by simp <;> omega)]; rw [putAt_alloc_past _ (by simp <;> omega)]; rw [putAt_alloc_past _ (by simp <;> omega)]
@[go_sem high] theorem has_new_5_2 {o0 o1 o2 o3 o4 : Obj} : has (((((w.alloc o0).alloc o1).alloc o2).alloc o3).alloc o4) (w.heap.size + 1 + 1) off n = has (((w.alloc o0).alloc o1).alloc o2) (w.heap.size + 1 + 1) off n := by
  have h : (((((w.alloc o0).alloc o1).alloc o2).alloc o3).alloc o4).heap[w.heap.size + 1 + 1]? = (((w.alloc o0).alloc o1).alloc o2).heap[w.heap.size + 1 + 1]? := by
    rw [Below.heap_alloc _ _ _ (by simp <;> omega)]; rw [Below.heap_alloc _ _ _ (by simp <;> omega)]
  unfold has; rw [h]
@[go_sem high] theorem gets_new_5_2 {o0 o1 o2 o3 o4 : Obj} : gets (((((w.alloc o0).alloc o1).alloc o2).alloc o3).alloc o4) (w.heap.size + 1 + 1) off n = gets (((w.alloc o0).alloc o1).alloc o2) (w.heap.size + 1 + 1) off n := by
  have h : (((((w.alloc o0).alloc o1).alloc o2).alloc o3).alloc o4).heap[w.heap.size + 1 + 1]? = (((w.alloc o0).alloc o1).alloc o2).heap[w.heap.size + 1 + 1]? := by
    rw [Below.heap_alloc _ _ _ (by simp <;> omega)]; rw [Below.heap_alloc _ _ _ (by simp <;> omega)]
  unfold gets; rw [h]
@[go_sem high] theorem melts_new_5_2 {o0 o1 o2 o3 o4 : Obj} : melts (((((w.alloc o0).alloc o1).alloc o2).alloc o3).alloc o4) (w.heap.size + 1 + 1)  = melts (((w.alloc o0).alloc o1).alloc o2) (w.heap.size + 1 + 1)  := by
  have h : (((((w.alloc o0).alloc o1).alloc o2).alloc o3).alloc o4).heap[w.heap.size + 1 + 1]? = (((w.alloc o0).alloc o1).alloc o2).heap[w.heap.size + 1 + 1]? := by
    rw [Below.heap_alloc _ _ _ (by simp <;> omega)]; rw [Below.heap_alloc _ _ _ (by simp <;> omega)]
  unfold melts; rw [h]
@[go_sem high] theorem putAt_new_5_2 {o0 o1 o2 o3 o4 : Obj} : putAt (((((w.alloc o0).alloc o1).alloc o2).alloc o3).alloc o4) (w.heap.size + 1 + 1) off vs = (((putAt (((w.alloc o0).alloc o1).alloc o2) (w.heap.size + 1 + 1) off vs).alloc o3).alloc o4) := by
  rw [putAt_alloc_past _ (by simp <;> omega)]; rw [putAt_alloc_past _ (by simp <;> omega)]
@[go_sem high] theorem has_new_5_3 {o0 o1 o2 o3 o4 : Obj} : has (((((w.alloc o0).alloc o1).alloc o2).alloc o3).alloc o4) (w.heap.size + 1 + 1 + 1) off n = has ((((w.alloc o0).alloc o1).alloc o2).alloc o3) (w.heap.size + 1 + 1 + 1) off n := by
  have h : (((((w.alloc o0).alloc o1).alloc o2).alloc o3).alloc o4).heap[w.heap.size + 1 + 1 + 1]? = ((((w.alloc o0).alloc o1).alloc o2).alloc o3).heap[w.heap.size + 1 + 1 + 1]? := by
    rw [Below.heap_alloc _ _ _ (by simp <;> omega)]
  unfold has; rw [h]
@[go_sem high] theorem gets_new_5_3 {o0 o1 o2 o3 o4 : Obj} : gets (((((w.alloc o0).alloc o1).alloc o2).alloc o3).alloc o4) (w.heap.size + 1 + 1 + 1) off n = gets ((((w.alloc o0).alloc o1).alloc o2).alloc o3) (w.heap.size + 1 + 1 + 1) off n := by
  have h : (((((w.alloc o0).alloc o1).alloc o2).alloc o3).alloc o4).heap[w.heap.size + 1 + 1 + 1]? = ((((w.alloc o0).alloc o1).alloc o2).alloc o3).heap[w.heap.size + 1 + 1 + 1]? := by
    rw [Below.heap_alloc _ _ _ (by simp <;> omega)]
  unfold gets; rw [h]
@[go_sem high] theorem melts_new_5_3 {o0 o1 o2 o3 o4 : Obj} : melts (((((w.alloc o0).alloc o1).alloc o2).alloc o3).alloc o4) (w.heap.size + 1 + 1 + 1)  = melts ((((w.alloc o0).alloc o1).alloc o2).alloc o3) (w.heap.size + 1 + 1 + 1)  := by
  have h : (((((w.alloc o0).alloc o1).alloc o2).alloc o3).alloc o4).heap[w.heap.size + 1 + 1 + 1]? = ((((w.alloc o0).alloc o1).alloc o2).alloc o3).heap[w.heap.size + 1 + 1 + 1]? := by
    rw [Below.heap_alloc _ _ _ (by simp <;> omega)]
  unfold melts; rw [h]
@[go_sem high] theorem putAt_new_5_3 {o0 o1 o2 o3 o4 : Obj} : putAt (((((w.alloc o0).alloc o1).alloc o2).alloc o3).alloc o4) (w.heap.size + 1 + 1 + 1) off vs = ((putAt ((((w.alloc o0).alloc o1).alloc o2).alloc o3) (w.heap.size + 1 + 1 + 1) off vs).alloc o4) := by
  rw [putAt_alloc_past _ (by simp <;> omega)]
@[go_sem high] theorem has_new_6_0 {o0 o1 o2 o3 o4 o5 : Obj} : has ((((((w.alloc o0).alloc o1).alloc o2).alloc o3).alloc o4).alloc o5) (w.heap.size) off n = has (w.alloc o0) (w.heap.size) off n := by
  have h : ((((((w.alloc o0).alloc o1).alloc o2).alloc o3).alloc o4).alloc o5).heap[w.heap.size]? = (w.alloc o0).heap[w.heap.size]? := by
    rw [Below.heap_alloc _ _ _ (by simp <;> omega)]; rw [Below.heap_alloc _ _ _ (by simp <;> omega)]; rw [Below.heap_alloc _ _ _ (by simp <;> omega)]; rw [Below.heap_alloc _ _ _ (by simp <;> omega)]; rw [Below.heap_alloc _ _ _ (by simp <;> omega)]
  unfold has; rw [h]
@[go_sem high] theorem gets_new_6_0 {o0 o1 o2 o3 o4 o5 : Obj} : gets ((((((w.alloc o0).alloc o1).alloc o2).alloc o3).alloc o4).alloc o5) (w.heap.size) off n = gets (w.alloc o0) (w.heap.size) off n := by
  have h : ((((((w.alloc o0).alloc o1).alloc o2).alloc o3).alloc o4).alloc o5).heap[w.heap.size]? = (w.alloc o0).heap[w.heap.size]? := by
    rw [Below.heap_alloc _ _ _ (by simp <;> omega)]; rw [Below.heap_alloc _ _ _ (by simp <;> omega)]; rw [Below.heap_alloc _ _ _ (by simp <;> omega)]; rw [Below.heap_alloc _ _ _ (by simp <;> omega)]; rw [Below.heap_alloc _ _ _ (by simp <;> omega)]
  unfold gets; rw [h]
@[go_sem high] theorem melts_new_6_0 {o0 o1 o2 o3 o4 o5 : Obj} : melts ((((((w.alloc o0).alloc o1).alloc o2).alloc o3).alloc o4).alloc o5) (w.heap.size)  = melts (w.alloc o0) (w.heap.size)  := by
  have h : ((((((w.alloc o0).alloc o1).alloc o2).alloc o3).alloc o4).alloc o5).heap[w.heap.size]? = (w.alloc o0).heap[w.heap.size]? := by
    rw [Below.heap_alloc _ _ _ (by simp <;> omega)]; rw [Below.heap_alloc _ _ _ (by simp <;> omega)]; rw [Below.heap_alloc _ _ _ (by simp <;> omega)]; rw [Below.heap_alloc _ _ _ (by simp <;> omega)]; rw [Below.heap_alloc _ _ _ (by simp <;> omega)]
  unfold melts; rw [h]
@[go_sem high] theorem putAt_new_6_0 {o0 o1 o2 o3 o4 o5 : Obj} : putAt ((((((w.alloc o0).alloc o1).alloc o2).alloc o3).alloc o4).alloc o5) (w.heap.size) off vs = ((((((putAt (w.alloc o0) (w.heap.size) off vs).alloc o1).alloc o2).alloc o3).alloc o4).alloc o5) := by
  rw [putAt_alloc_past _ (by simp <;> omega)]; rw [putAt_alloc_past _ (by simp <;> omega)]; rw [putAt_alloc_past _ (by simp <;> omega)]; rw [putAt_alloc_past _ (by simp <;> omega)]; rw [putAt_alloc_past _ (by simp <;> omega)]
@[go_sem high] theorem has_new_6_1 {o0 o1 o2 o3 o4 o5 : Obj} : has ((((((w.alloc o0).alloc o1).alloc o2).alloc o3).alloc o4).alloc o5) (w.heap.size + 1) off n = has ((w.alloc o0).alloc o1) (w.heap.size + 1) off n := by
  have h : ((((((w.alloc o0).alloc o1).alloc o2).alloc o3).alloc o4).alloc o5).heap[w.heap.size + 1]? = ((w.alloc o0).alloc o1).heap[w.heap.size + 1]? := by
    rw [Below.heap_alloc _ _ _ (by simp <;> omega)]; rw [Below.heap_alloc _ _ _ (by simp <;> omega)]; rw [Below.heap_alloc _ _ _ (by simp <;> omega)]; rw [Below.heap_alloc _ _ _ (by simp <;> omega)]
  unfold has; rw [h]
@[go_sem high] theorem gets_new_6_1 {o0 o1 o2 o3 o4 o5 : Obj} : gets ((((((w.alloc o0).alloc o1).alloc o2).alloc o3).alloc o4).alloc o5) (w.heap.size + 1) off n = gets ((w.alloc o0).alloc o1) (w.heap.size + 1) off n := by
  have h : ((((((w.alloc o0).alloc o1).alloc o2).alloc o3).alloc o4).alloc o5).heap[w.heap.size + 1]? = ((w.alloc o0).alloc o1).heap[w.heap.size + 1]? := by
    rw [Below.heap_alloc _ _ _ (by simp <;> omega)]; rw [Below.heap_alloc _ _ _ (by simp <;> omega)]; rw [Below.heap_alloc _ _ _ (by simp <;> omega)]; rw [Below.heap_alloc _ _ _ (by simp <;> omega)]
  unfold gets; rw [h]
@[go_sem high] theorem melts_new_6_1 {o0 o1 o2 o3 o4 o5 : Obj} : melts ((((((w.alloc o0).alloc o1).alloc o2).alloc o3).alloc o4).alloc o5) (w.heap.size + 1)  = melts ((w.alloc o0).alloc o1) (w.heap.size + 1)  := by
  have h : ((((((w.alloc o0).alloc o1).alloc o2).alloc o3).alloc o4).alloc o5).heap[w.heap.size + 1]? = ((w.alloc o0).alloc o1).heap[w.heap.size + 1]? := by
    rw [Below.heap_alloc _ _ _ (by simp <;> omega)]; rw [Below.heap_alloc _ _ _ (by simp <;> omega)]; rw [Below.heap_alloc _ _ _ (by simp <;> omega)]; rw [Below.heap_alloc _ _ _ (by simp <;> omega)]
  unfold melts; rw [h]
@[go_sem high] theorem putAt_new_6_1 {o0 o1 o2 o3 o4 o5 : Obj} : putAt ((((((w.alloc o0).alloc o1).alloc o2).alloc o3).alloc o4).alloc o5) (w.heap.size + 1) off vs = (((((putAt ((w.alloc o0).alloc o1) (w.heap.size + 1) off vs).alloc o2).alloc o3).alloc o4).alloc o5) := by
  rw [putAt_alloc_past _ (by simp <;> omega)]; rw [putAt_alloc_past _ (by simp <;> omega)]; rw [putAt_alloc_past _ (by simp <;> omega)]; rw [putAt_alloc_past _ (by simp <;> omega)]
@[go_sem high] theorem has_new_6_2 {o0 o1 o2 o3 o4 o5 : Obj} : has ((((((w.alloc o0).alloc o1).alloc o2).alloc o3).alloc o4).alloc o5) (w.heap.size + 1 + 1) off n = has (((w.alloc o0).alloc o1).alloc o2) (w.heap.size + 1 + 1) off n := by
  have h : ((((((w.alloc o0).alloc o1).alloc o2).alloc o3).alloc o4).alloc o5).heap[w.heap.size + 1 + 1]? = (((w.alloc o0).alloc o1).alloc o2).heap[w.heap.size + 1 + 1]? := by
    rw [Below.heap_alloc _ _ _ (by simp <;> omega)]; rw [Below.heap_alloc _ _ _ (by simp <;> omega)]; rw [Below.heap_alloc _ _ _ (by simp <;> omega)]
  unfold has; rw [h]
@[go_sem high] theorem gets_new_6_2 {o0 o1 o2 o3 o4 o5 : Obj} : gets ((((((w.alloc o0).alloc o1).alloc o2).alloc o3).alloc o4).alloc o5) (w.heap.size + 1 + 1) off n = gets (((w.alloc o0).alloc o1).alloc o2) (w.heap.size + 1 + 1) off n := by
  have h : ((((((w.alloc o0).alloc o1).alloc o2).alloc o3).alloc o4).alloc o5).heap[w.heap.size + 1 + 1]? = (((w.alloc o0).alloc o1).alloc o2).heap[w.heap.size + 1 + 1]? := by
    rw [Below.heap_alloc _ _ _ (by simp <;> omega)]; rw [Below.heap_alloc _ _ _ (by simp <;> omega)]; rw [Below.heap_alloc _ _ _ (by simp <;> omega)]
  unfold gets; rw [h]
@[go_sem high] theorem melts_new_6_2 {o0 o1 o2 o3 o4 o5 : Obj} : melts ((((((w.alloc o0).alloc o1).alloc o2).alloc o3).alloc o4).alloc o5) (w.heap.size + 1 + 1)  = melts (((w.alloc o0).alloc o1).alloc o2) (w.heap.size + 1 + 1)  := by
  have h : ((((((w.alloc o0).alloc o1).alloc o2).alloc o3).alloc o4).alloc o5).heap[w.heap.size + 1 + 1]? = (((w.alloc o0).alloc o1).alloc o2).heap[w.heap.size + 1 + 1]? := by
    rw [Below.heap_alloc _ _ _ (by simp <;> omega)]; rw [Below.heap_alloc _ _ _ (by simp <;> omega)]; rw [Below.heap_alloc _ _ _ (by simp <;> omega)]
  unfold melts; rw [h]
@[go_sem high] theorem putAt_new_6_2 {o0 o1 o2 o3 o4 o5 : Obj} : putAt ((((((w.alloc o0).alloc o1).alloc o2).alloc o3).alloc o4).alloc o5) (w.heap.size + 1 + 1) off vs = ((((putAt (((w.alloc o0).alloc o1).alloc o2) (w.heap.size + 1 + 1) off vs).alloc o3).alloc o4).alloc o5) := by
  rw [putAt_alloc_past _ (by simp <;> omega)]; rw [putAt_alloc_past _ (by simp <;> omega)]; rw [putAt_alloc_past _ (by simp <;> omega)]
@[go_sem high] theorem has_new_6_3 {o0 o1 o2 o3 o4 o5 : Obj} : has ((((((w.alloc o0).alloc o1).alloc o2).alloc o3).alloc o4).alloc o5) (w.heap.size + 1 + 1 + 1) off n = has ((((w.alloc o0).alloc o1).alloc o2).alloc o3) (w.heap.size + 1 + 1 + 1) off n := by
  have h : ((((((w.alloc o0).alloc o1).alloc o2).alloc o3).alloc o4).alloc o5).heap[w.heap.size + 1 + 1 + 1]? = ((((w.alloc o0).alloc o1).alloc o2).alloc o3).heap[w.heap.size + 1 + 1 + 1]? := by
    rw [Below.heap_alloc _ _ _ (by simp <;> omega)]; rw [Below.heap_alloc _ _ _ (by simp <;> omega)]
  unfold has; rw [h]
@[go_sem high] theorem gets_new_6_3 {o0 o1 o2 o3 o4 o5 : Obj} : gets ((((((w.alloc o0).alloc o1).alloc o2).alloc o3).alloc o4).alloc o5) (w.heap.size + 1 + 1 + 1) off n = gets ((((w.alloc o0).alloc o1).alloc o2).alloc o3) (w.heap.size + 1 + 1 + 1) off n := by
  have h : ((((((w.alloc o0).alloc o1).alloc o2).alloc o3).alloc o4).alloc o5).heap[w.heap.size + 1 + 1 + 1]? = ((((w.alloc o0).alloc o1).alloc o2).alloc o3).heap[w.heap.size + 1 + 1 + 1]? := by
    rw [Below.heap_alloc _ _ _ (by simp <;> omega)]; rw [Below.heap_alloc _ _ _ (by simp <;> omega)]
  unfold gets; rw [h]
@[go_sem high] theorem melts_new_6_3 {o0 o1 o2 o3 o4 o5 : Obj} : melts ((((((w.alloc o0).alloc o1).alloc o2).alloc o3).alloc o4).alloc o5) (w.heap.size + 1 + 1 + 1)  = melts ((((w.alloc o0).alloc o1).alloc o2).alloc o3) (w.heap.size + 1 + 1 + 1)  := by
  have h : ((((((w.alloc o0).alloc o1).alloc o2).alloc o3).alloc o4).alloc o5).heap[w.heap.size + 1 + 1 + 1]? = ((((w.alloc o0).alloc o1).alloc o2).alloc o3).heap[w.heap.size + 1 + 1 + 1]? := by
    rw [Below.heap_alloc _ _ _ (by simp <;> omega)]; rw [Below.heap_alloc _ _ _ (by simp <;> omega)]
  unfold melts; rw [h]
@[go_sem high] theorem putAt_new_6_3 {o0 o1 o2 o3 o4 o5 : Obj} : putAt ((((((w.alloc o0).alloc o1).alloc o2).alloc o3).alloc o4).alloc o5) (w.heap.size + 1 + 1 + 1) off vs = (((putAt ((((w.alloc o0).alloc o1).alloc o2).alloc o3) (w.heap.size + 1 + 1 + 1) off vs).alloc o4).alloc o5) := by
  rw [putAt_alloc_past _ (by simp <;> omega)]; rw [putAt_alloc_past _ (by simp <;> omega)]
@[go_sem high] theorem has_new_6_4 {o0 o1 o2 o3 o4 o5 : Obj} : has ((((((w.alloc o0).alloc o1).alloc o2).alloc o3).alloc o4).alloc o5) (w.heap.size + 1 + 1 + 1 + 1) off n = has (((((w.alloc o0).alloc o1).alloc o2).alloc o3).alloc o4) (w.heap.size + 1 + 1 + 1 + 1) off n := by
  have h : ((((((w.alloc o0).alloc o1).alloc o2).alloc o3).alloc o4).alloc o5).heap[w.heap.size + 1 + 1 + 1 + 1]? = (((((w.alloc o0).alloc o1).alloc o2).alloc o3).alloc o4).heap[w.heap.size + 1 + 1 + 1 + 1]? := by
    rw [Below.heap_alloc _ _ _ (by simp <;> omega)]
  unfold has; rw [h]
@[go_sem high] theorem gets_new_6_4 {o0 o1 o2 o3 o4 o5 : Obj} : gets ((((((w.alloc o0).alloc o1).alloc o2).alloc o3).alloc o4).alloc o5) (w.heap.size + 1 + 1 + 1 + 1) off n = gets (((((w.alloc o0).alloc o1).alloc o2).alloc o3).alloc o4) (w.heap.size + 1 + 1 + 1 + 1) off n := by
  have h : ((((((w.alloc o0).alloc o1).alloc o2).alloc o3).alloc o4).alloc o5).heap[w.heap.size + 1 + 1 + 1 + 1]? = (((((w.alloc o0).alloc o1).alloc o2).alloc o3).alloc o4).heap[w.heap.size + 1 + 1 + 1 + 1]? := by
    rw [Below.heap_alloc _ _ _ (by simp <;> omega)]
  unfold gets; rw [h]
@[go_sem high] theorem melts_new_6_4 {o0 o1 o2 o3 o4 o5 : Obj} : melts ((((((w.alloc o0).alloc o1).alloc o2).alloc o3).alloc o4).alloc o5) (w.heap.size + 1 + 1 + 1 + 1)  = melts (((((w.alloc o0).alloc o1).alloc o2).alloc o3).alloc o4) (w.heap.size + 1 + 1 + 1 + 1)  := by
  have h : ((((((w.alloc o0).alloc o1).alloc o2).alloc o3).alloc o4).alloc o5).heap[w.heap.size + 1 + 1 + 1 + 1]? = (((((w.alloc o0).alloc o1).alloc o2).alloc o3).alloc o4).heap[w.heap.size + 1 + 1 + 1 + 1]? := by
    rw [Below.heap_alloc _ _ _ (by simp <;> omega)]
  unfold melts; rw [h]
@[go_sem high] theorem putAt_new_6_4 {o0 o1 o2 o3 o4 o5 : Obj} : putAt ((((((w.alloc o0).alloc o1).alloc o2).alloc o3).alloc o4).alloc o5) (w.heap.size + 1 + 1 + 1 + 1) off vs = ((putAt (((((w.alloc o0).alloc o1).alloc o2).alloc o3).alloc o4) (w.heap.size + 1 + 1 + 1 + 1) off vs).alloc o5) := by
  rw [putAt_alloc_past _ (by simp <;> omega)]
@[go_sem high] theorem has_old_2 {o0 o1 : Obj} (h : g < w.heap.size) : has ((w.alloc o0).alloc o1) g off n = has w g off n := by
  have e : ((w.alloc o0).alloc o1).heap[g]? = w.heap[g]? := by
    rw [Below.heap_alloc _ _ _ (by simp <;> omega)]; rw [Below.heap_alloc _ _ _ h]
  unfold has; rw [e]
@[go_sem high] theorem gets_old_2 {o0 o1 : Obj} (h : g < w.heap.size) : gets ((w.alloc o0).alloc o1) g off n = gets w g off n := by
  have e : ((w.alloc o0).alloc o1).heap[g]? = w.heap[g]? := by
    rw [Below.heap_alloc _ _ _ (by simp <;> omega)]; rw [Below.heap_alloc _ _ _ h]
  unfold gets; rw [e]
@[go_sem high] theorem melts_old_2 {o0 o1 : Obj} (h : g < w.heap.size) : melts ((w.alloc o0).alloc o1) g  = melts w g  := by
  have e : ((w.alloc o0).alloc o1).heap[g]? = w.heap[g]? := by
    rw [Below.heap_alloc _ _ _ (by simp <;> omega)]; rw [Below.heap_alloc _ _ _ h]
  unfold melts; rw [e]
@[go_sem high] theorem putAt_old_2 {o0 o1 : Obj} (h : g < w.heap.size) : putAt ((w.alloc o0).alloc o1) g off vs = (((putAt w g off vs).alloc o0).alloc o1) := by
  rw [putAt_alloc_past _ (by simp <;> omega)]; rw [putAt_alloc_past _ h]
@[go_sem high] theorem has_old_3 {o0 o1 o2 : Obj} (h : g < w.heap.size) : has (((w.alloc o0).alloc o1).alloc o2) g off n = has w g off n := by
  have e : (((w.alloc o0).alloc o1).alloc o2).heap[g]? = w.heap[g]? := by
    rw [Below.heap_alloc _ _ _ (by simp <;> omega)]; rw [Below.heap_alloc _ _ _ (by simp <;> omega)]; rw [Below.heap_alloc _ _ _ h]
  unfold has; rw [e]
@[go_sem high] theorem gets_old_3 {o0 o1 o2 : Obj} (h : g < w.heap.size) : gets (((w.alloc o0).alloc o1).alloc o2) g off n = gets w g off n := by
  have e : (((w.alloc o0).alloc o1).alloc o2).heap[g]? = w.heap[g]? := by
    rw [Below.heap_alloc _ _ _ (by simp <;> omega)]; rw [Below.heap_alloc _ _ _ (by simp <;> omega)]; rw [Below.heap_alloc _ _ _ h]
  unfold gets; rw [e]
@[go_sem high] theorem melts_old_3 {o0 o1 o2 : Obj} (h : g < w.heap.size) : melts (((w.alloc o0).alloc o1).alloc o2) g  = melts w g  := by
  have e : (((w.alloc o0).alloc o1).alloc o2).heap[g]? = w.heap[g]? := by
    rw [Below.heap_alloc _ _ _ (by simp <;> omega)]; rw [Below.heap_alloc _ _ _ (by simp <;> omega)]; rw [Below.heap_alloc _ _ _ h]
  unfold melts; rw [e]
@[go_sem high] theorem putAt_old_3 {o0 o1 o2 : Obj} (h : g < w.heap.size) : putAt (((w.alloc o0).alloc o1).alloc o2) g off vs = ((((putAt w g off vs).alloc o0).alloc o1).alloc o2) := by
  rw [putAt_alloc_past _ (by simp <;> omega)]; rw [putAt_alloc_past _ (by simp <;> omega)]; rw [putAt_alloc_past _ h]
@[go_sem high] theorem has_old_4 {o0 o1 o2 o3 : Obj} (h : g < w.heap.size) : has ((((w.alloc o0).alloc o1).alloc o2).alloc o3) g off n = has w g off n := by
  have e : ((((w.alloc o0).alloc o1).alloc o2).alloc o3).heap[g]? = w.heap[g]? := by
    rw [Below.heap_alloc _ _ _ (by simp <;> omega)]; rw [Below.heap_alloc _ _ _ (by simp <;> omega)]; rw [Below.heap_alloc _ _ _ (by simp <;> omega)]; rw [Below.heap_alloc _ _ _ h]
  unfold has; rw [e]
@[go_sem high] theorem gets_old_4 {o0 o1 o2 o3 : Obj} (h : g < w.heap.size) : gets ((((w.alloc o0).alloc o1).alloc o2).alloc o3) g off n = gets w g off n := by
  have e : ((((w.alloc o0).alloc o1).alloc o2).alloc o3).heap[g]? = w.heap[g]? := by
    rw [Below.heap_alloc _ _ _ (by simp <;> omega)]; rw [Below.heap_alloc _ _ _ (by simp <;> omega)]; rw [Below.heap_alloc _ _ _ (by simp <;> omega)]; rw [Below.heap_alloc _ _ _ h]
  unfold gets; rw [e]
@[go_sem high] theorem melts_old_4 {o0 o1 o2 o3 : Obj} (h : g < w.heap.size) : melts ((((w.alloc o0).alloc o1).alloc o2).alloc o3) g  = melts w g  := by
  have e : ((((w.alloc o0).alloc o1).alloc o2).alloc o3).heap[g]? = w.heap[g]? := by
    rw [Below.heap_alloc _ _ _ (by simp <;> omega)]; rw [Below.heap_alloc _ _ _ (by simp <;> omega)]; rw [Below.heap_alloc _ _ _ (by simp <;> omega)]; rw [Below.heap_alloc _ _ _ h]
  unfold melts; rw [e]
@[go_sem high] theorem putAt_old_4 {o0 o1 o2 o3 : Obj} (h : g < w.heap.size) : putAt ((((w.alloc o0).alloc o1).alloc o2).alloc o3) g off vs = (((((putAt w g off vs).alloc o0).alloc o1).alloc o2).alloc o3) := by
  rw [putAt_alloc_past _ (by simp <;> omega)]; rw [putAt_alloc_past _ (by simp <;> omega)]; rw [putAt_alloc_past _ (by simp <;> omega)]; rw [putAt_alloc_past _ h]
@[go_sem high] theorem has_old_5 {o0 o1 o2 o3 o4 : Obj} (h : g < w.heap.size) : has (((((w.alloc o0).alloc o1).alloc o2).alloc o3).alloc o4) g off n = has w g off n := by
  have e : (((((w.alloc o0).alloc o1).alloc o2).alloc o3).alloc o4).heap[g]? = w.heap[g]? := by
    rw [Below.heap_alloc _ _ _ (by simp <;> omega)]; rw [Below.heap_alloc _ _ _ (by simp <;> omega)]; rw [Below.heap_alloc _ _ _ (by simp <;> omega)]; rw [Below.heap_alloc _ _ _ (by simp <;> omega)]; rw [Below.heap_alloc _ _ _ h]
  unfold has; rw [e]
@[go_sem high] theorem gets_old_5 {o0 o1 o2 o3 o4 : Obj} (h : g < w.heap.size) : gets (((((w.alloc o0).alloc o1).alloc o2).alloc o3).alloc o4) g off n = gets w g off n := by
  have e : (((((w.alloc o0).alloc o1).alloc o2).alloc o3).alloc o4).heap[g]? = w.heap[g]? := by
    rw [Below.heap_alloc _ _ _ (by simp <;> omega)]; rw [Below.heap_alloc _ _ _ (by simp <;> omega)]; rw [Below.heap_alloc _ _ _ (by simp <;> omega)]; rw [Below.heap_alloc _ _ _ (by simp <;> omega)]; rw [Below.heap_alloc _ _ _ h]
  unfold gets; rw [e]
@[go_sem high] theorem melts_old_5 {o0 o1 o2 o3 o4 : Obj} (h : g < w.heap.size) : melts (((((w.alloc o0).alloc o1).alloc o2).alloc o3).alloc o4) g  = melts w g  := by
  have e : (((((w.alloc o0).alloc o1).alloc o2).alloc o3).alloc o4).heap[g]? = w.heap[g]? := by
    rw [Below.heap_alloc _ _ _ (by simp <;> omega)]; rw [Below.heap_alloc _ _ _ (by simp <;> omega)]; rw [Below.heap_alloc _ _ _ (by simp <;> omega)]; rw [Below.heap_alloc _ _ _ (by simp <;> omega)]; rw [Below.heap_alloc _ _ _ h]
  unfold melts; rw [e]
@[go_sem high] theorem putAt_old_5 {o0 o1 o2 o3 o4 : Obj} (h : g < w.heap.size) : putAt (((((w.alloc o0).alloc o1).alloc o2).alloc o3).alloc o4) g off vs = ((((((putAt w g off vs).alloc o0).alloc o1).alloc o2).alloc o3).alloc o4) := by
  rw [putAt_alloc_past _ (by simp <;> omega)]; rw [putAt_alloc_past _ (by simp <;> omega)]; rw [putAt_alloc_past _ (by simp <;> omega)]; rw [putAt_alloc_past _ (by simp <;> omega)]; rw [putAt_alloc_past _ h]
@[go_sem] theorem gets_setCell_in {i : Nat} {v : Value} (h : off ≤ i) : gets (w.setCell ⟨g, i, none⟩ v) g off n = (gets w g off n).setIfInBounds (i - off) v := by
  simp only [gets, World.setCell, Array.getElem?_modify, if_true]
  cases hq : w.heap[g]? with
  | none => simp
  | some ob =>
    cases ob <;> simp
    rw [List.drop_set, if_neg (by omega), List.take_set]
@[go_sem] theorem gets_setCell_out {i : Nat} {v : Value} (h : i < off ∨ off + n ≤ i) : gets (w.setCell ⟨g, i, none⟩ v) g off n = gets w g off n := by
  simp only [gets, World.setCell, Array.getElem?_modify, if_true]
  cases hq : w.heap[g]? with
  | none => simp
  | some ob =>
    cases ob <;> simp
    rw [List.drop_set]
    split
    · rfl
    · rw [List.take_set, List.set_eq_of_length_le (by simp; omega)]
@[go_sem] theorem gets_setCell_far {p : Addr} {v : Value} (h : g ≠ p.block) : gets (w.setCell p v) g off n = gets w g off n := by
  simp only [gets, Below.heap_setCell w p v g h]
end
end Go.Proofs.YtahljceanodhkaaGreatDoor

/- A region that draws its order, walked in an order that is handed in. Each operation has a kind: 2: it yields the same value in every world; 1: in every world that meets S; 0: it acts, and comes up alone. S need not hold behind an acting one that waits for all of kind 1. -/
namespace Go.Proofs.YtahljceanodhkaaGreatDoor
open Go.RowKit
section
variable {P : Program} {ops : Array Oper} {Q : Exit → Act → World → Prop} {S : World → Prop} {md : Region.Mode} {ex : Nat → Bool}
theorem Oper.wp_exits {Q' : Exit → Act → World → Prop} {o : Oper} {a : Act} {w : World} {K : Act → World → Prop} (h : ∀ e a w, Q e a w → Q' e a w) (hh : o.wp P a w K Q) : o.wp P a w K Q' := by
  unfold Oper.wp at *
  generalize (execOp a.eval o).run P w = r at *
  cases r with
  | ok n w' =>
    cases n <;> simp only [Oper.upon] at hh ⊢ <;>
      first
        | exact hh
        | exact Calls.mono hh (fun e w'' he => by cases e <;> first | exact he | exact h _ _ _ he | exact he.imp fun _ => Exists.imp fun _ => h _ _ _)
  | halt x w' => cases x <;> simp only [Oper.upon] at hh ⊢ <;> first | exact h _ _ _ hh | exact hh
theorem wpOp_exits {Q' : Exit → Act → World → Prop} {i : Nat} {a : Act} {w : World} {K : Act → World → Prop} (h : ∀ e a w, Q e a w → Q' e a w) (hh : wpOp P ops Q i K a w) : wpOp P ops Q' i K a w := by
  unfold wpOp at *
  split
  · simpa [*] using hh
  · rename_i o ho
    simp only [ho] at hh
    split
    · rename_i hw; simp only [hw, if_true] at hh; exact hh.imp (Oper.wp_exits h) (fun q => ⟨q.1, q.2.imp fun _ => Exists.imp fun _ => h _ _ _⟩)
    · rename_i hw; simp only [hw] at hh; exact hh
/-- an operation that waits for all others may leave by a panic -/
def QL (Q : Exit → Act → World → Prop) (lst : Nat → Bool) (j : Nat) : Exit → Act → World → Prop := if lst j = true then Q else noP Q
theorem QL.imp {lst : Nat → Bool} {j : Nat} : ∀ (e : Exit) (a : Act) (w : World), QL Q lst j e a w → Q e a w := fun e a w h => by
  unfold QL at h
  split at h
  · exact h
  · exact noP.imp e a w h
theorem QL.of {lst : Nat → Bool} {j : Nat} : ∀ (e : Exit) (a : Act) (w : World), noP Q e a w → QL Q lst j e a w := fun e a w h => by
  unfold QL
  split
  · exact noP.imp e a w h
  · exact h
variable {lst : Nat → Bool}
def wpAnyH (P : Program) (md : Region.Mode) (ops : Array Oper) (Q : Exit → Act → World → Prop) (S : World → Prop) (ex lst : Nat → Bool) : Nat → Array Bool → Act → World → Prop
  | 0, listed, a, w => Region.ready md ops listed = [] ∧ Q .normal a w
  | fuel + 1, listed, a, w =>
    (Region.ready md ops listed = [] → Q .normal a w) ∧
    ∀ i ∈ Region.ready md ops listed, wpOp P ops (QL Q lst i) i (fun a' w' => (ex i = true ∨ (S w → S w')) ∧ wpAnyH P md ops Q S ex lst fuel (listed.setIfInBounds i true) a' w') a w
theorem wpAny_of_H : ∀ (fuel : Nat) (listed : Array Bool) (a : Act) (w : World), wpAnyH P md ops Q S ex lst fuel listed a w → wpAny P md ops Q fuel listed a w
  | 0, _, _, _, h => h
  | fuel + 1, _, _, _, h => ⟨h.1, fun i hi => wpOp_mono (fun a' w' h' => wpAny_of_H fuel _ a' w' h'.2) (wpOp_exits QL.imp (h.2 i hi))⟩
theorem notin {i : Nat} {listed : Array Bool} {oj : Oper} (hr : i ∈ Region.ready md ops listed) (hall : ∀ e ∈ oj.after, Region.binds md e = true → listed.getD e.on false = true) :
    ∀ e ∈ oj.after, Region.binds md e = true → e.on ≠ i := fun e he hb heq => by
  have h1 := hall e he hb
  have h0 := (mem_ready.1 hr).1
  rw [heq] at h1
  rcases Nat.lt_or_ge i listed.size with h' | h'
  · simp [h'] at h0 h1; rw [h0] at h1; cases h1
  · simp [Array.getElem?_eq_none h'] at h1
theorem wpAnyH_first {i : Nat} {oi : Oper} {v : Value} (hi : ops[i]? = some oi) (hsel : ∀ (j : Nat) (o : Oper) cs b, ops[j]? = some o → o.op ≠ .select cs b)
    (hlst : ∀ j listed, Down md ops listed → j ∈ Region.ready md ops listed → j ≠ i → lst j = true → listed.getD i false = true)
    (hex : ∀ j listed, Down md ops listed → j ∈ Region.ready md ops listed → j ≠ i → ex j = true → listed.getD i false = true) :
    ∀ (fuel : Nat) (listed : Array Bool) (a : Act) (w : World), Down md ops listed →
      (∀ j oj, ops[j]? = some oj → j ≠ i → listed.getD j true = false → (∀ e ∈ oj.after, Region.binds md e = true → e.on ≠ i) → oi.apart ops oj = true) →
      i ∈ Region.ready md ops listed → YieldsIf P ops S oi v a → S w →
      wpAnyH P md ops Q S ex lst fuel (listed.setIfInBounds i true) (a.put oi.dst v) w → wpAnyH P md ops Q S ex lst (fuel + 1) listed a w := by
  intro fuel
  induction fuel with
  | zero =>
    intro listed a w _ _ hr hy hS H
    refine ⟨fun h => (by rw [h] at hr; cases hr), fun j hj => ?_⟩
    by_cases hji : j = i
    · subst hji; exact hy.wpOp hi hS ⟨.inr id, H⟩
    · have := ready_mono hj hji
      rw [H.1] at this
      cases this
  | succ fuel ih =>
    intro listed a w hdn hfree hr hy hS H
    refine ⟨fun h => (by rw [h] at hr; cases hr), fun j hj => ?_⟩
    by_cases hji : j = i
    · subst hji; exact hy.wpOp hi hS ⟨.inr id, H⟩
    · have h1 := H.2 j (ready_mono hj hji)
      obtain ⟨hjun, oj, hoj, hall⟩ := mem_ready.1 hj
      have hnot := notin hr hall
      have hnex : ex j = true → False := fun h => by
        have h1 := hex j listed hdn hj hji h
        have h0 := (mem_ready.1 hr).1
        rcases Nat.lt_or_ge i listed.size with h' | h'
        · simp [h'] at h0 h1; rw [h0] at h1; cases h1
        · simp [Array.getElem?_eq_none h'] at h1
      have hnl : lst j = true → False := fun h => by
        have h1 := hlst j listed hdn hj hji h
        have h0 := (mem_ready.1 hr).1
        rcases Nat.lt_or_ge i listed.size with h' | h'
        · simp [h'] at h0 h1; rw [h0] at h1; cases h1
        · simp [Array.getElem?_eq_none h'] at h1
      have hQ : ∀ c a w, QL Q lst j (.panic c) (a.put oi.dst v) w → QL Q lst j (.panic c) a w := fun c a w h => by
        unfold QL at h ⊢
        rw [if_neg (fun e => hnl e)] at h
        exact h.elim
      have h2 := wpOp_putIf hoj (hfree j oj hoj hji hjun hnot) (fun cs b => hsel i oi cs b hi) (fun cs b => hsel j oj cs b hoj) hQ hy h1
      have hfree' : ∀ k ok, ops[k]? = some ok → k ≠ i → (listed.setIfInBounds j true).getD k true = false →
          (∀ e ∈ ok.after, Region.binds md e = true → e.on ≠ i) → oi.apart ops ok = true := fun k ok hk hki hun hno => by
        refine hfree k ok hk hki ?_ hno
        by_cases hjk : j = k
        · subst hjk; exact hjun
        · rw [getD_set_ne true hjk] at hun; exact hun
      refine wpOp_mono (fun a' w' h3 => ?_) h2
      have hS' : S w' := h3.2.1.elim (fun h => (hnex h).elim) (fun h => h hS)
      refine ⟨.inr fun _ => hS', ih (listed.setIfInBounds j true) a' w' (hdn.set hj) hfree' (ready_mono hr (Ne.symm hji)) h3.1 hS' ?_⟩
      rw [Array.setIfInBounds_comm _ _ hji]
      exact h3.2.2
theorem wpAnyH_pure {i : Nat} {oi : Oper} {v : Value} (hi : ops[i]? = some oi) (hsel : ∀ (j : Nat) (o : Oper) cs b, ops[j]? = some o → o.op ≠ .select cs b)
    (hlst : ∀ j listed, Down md ops listed → j ∈ Region.ready md ops listed → j ≠ i → lst j = true → listed.getD i false = true) :
    ∀ (fuel : Nat) (listed : Array Bool) (a : Act) (w : World), Down md ops listed →
      (∀ j oj, ops[j]? = some oj → j ≠ i → listed.getD j true = false → (∀ e ∈ oj.after, Region.binds md e = true → e.on ≠ i) → oi.apart ops oj = true) →
      i ∈ Region.ready md ops listed → YieldsIf P ops (fun _ => True) oi v a →
      wpAnyH P md ops Q S ex lst fuel (listed.setIfInBounds i true) (a.put oi.dst v) w → wpAnyH P md ops Q S ex lst (fuel + 1) listed a w := by
  intro fuel
  induction fuel with
  | zero =>
    intro listed a w _ _ hr hy H
    refine ⟨fun h => (by rw [h] at hr; cases hr), fun j hj => ?_⟩
    by_cases hji : j = i
    · subst hji; exact hy.wpOp hi trivial ⟨.inr id, H⟩
    · have := ready_mono hj hji
      rw [H.1] at this
      cases this
  | succ fuel ih =>
    intro listed a w hdn hfree hr hy H
    refine ⟨fun h => (by rw [h] at hr; cases hr), fun j hj => ?_⟩
    by_cases hji : j = i
    · subst hji; exact hy.wpOp hi trivial ⟨.inr id, H⟩
    · have h1 := H.2 j (ready_mono hj hji)
      obtain ⟨hjun, oj, hoj, hall⟩ := mem_ready.1 hj
      have hnot := notin hr hall
      have hnl : lst j = true → False := fun h => by
        have h1 := hlst j listed hdn hj hji h
        have h0 := (mem_ready.1 hr).1
        rcases Nat.lt_or_ge i listed.size with h' | h'
        · simp [h'] at h0 h1; rw [h0] at h1; cases h1
        · simp [Array.getElem?_eq_none h'] at h1
      have hQ : ∀ c a w, QL Q lst j (.panic c) (a.put oi.dst v) w → QL Q lst j (.panic c) a w := fun c a w h => by
        unfold QL at h ⊢
        rw [if_neg (fun e => hnl e)] at h
        exact h.elim
      have h2 := wpOp_putIf hoj (hfree j oj hoj hji hjun hnot) (fun cs b => hsel i oi cs b hi) (fun cs b => hsel j oj cs b hoj) hQ hy h1
      have hfree' : ∀ k ok, ops[k]? = some ok → k ≠ i → (listed.setIfInBounds j true).getD k true = false →
          (∀ e ∈ ok.after, Region.binds md e = true → e.on ≠ i) → oi.apart ops ok = true := fun k ok hk hki hun hno => by
        refine hfree k ok hk hki ?_ hno
        by_cases hjk : j = k
        · subst hjk; exact hjun
        · rw [getD_set_ne true hjk] at hun; exact hun
      refine wpOp_mono (fun a' w' h3 => ?_) h2
      refine ⟨h3.2.1, ih (listed.setIfInBounds j true) a' w' (hdn.set hj) hfree' (ready_mono hr (Ne.symm hji)) h3.1 ?_⟩
      rw [Array.setIfInBounds_comm _ _ hji]
      exact h3.2.2
theorem wpAnyH_all {rs : List Nat} {fuel : Nat} {listed : Array Bool} {a : Act} {w : World} (hr : Region.ready md ops listed = rs) (hne : rs ≠ [])
    (h : ∀ i ∈ rs, wpOp P ops (QL Q lst i) i (fun a' w' => (ex i = true ∨ (S w → S w')) ∧ wpAnyH P md ops Q S ex lst fuel (listed.setIfInBounds i true) a' w') a w) : wpAnyH P md ops Q S ex lst (fuel + 1) listed a w :=
  ⟨fun h0 => absurd (hr ▸ h0) hne, hr ▸ h⟩
theorem wpAnyH_done {listed : Array Bool} {a : Act} {w : World} (hr : Region.ready md ops listed = []) (h : Q .normal a w) :
    ∀ fuel, wpAnyH P md ops Q S ex lst fuel listed a w
  | 0 => ⟨hr, h⟩
  | _ + 1 => ⟨fun _ => h, by rw [hr]; simp⟩
def exP (md : Region.Mode) (ops : Array Oper) (od : List (Nat × Nat)) (j : Nat) : Bool :=
  od.all fun p => !(p.2 == 1) || p.1 == j || (downMask md ops ops.size (dpMask md ops j)).testBit p.1
theorem exP_spec {od : List (Nat × Nat)} {i j : Nat} {listed : Array Bool} (hf : (i, 1) ∈ od) (hd : Down md ops listed) (hj : j ∈ Region.ready md ops listed) (hne : j ≠ i) (h : exP md ops od j = true) :
    listed.getD i false = true := by
  have h1 := List.all_eq_true.1 h _ hf
  simp only [beq_self_eq_true, Bool.not_true, Bool.false_or, Bool.or_eq_true, beq_iff_eq] at h1
  rcases h1 with h1 | h1
  · exact absurd h1.symm hne
  · obtain ⟨_, oj, hoj, hall⟩ := mem_ready.1 hj
    refine downMask_listed hd _ _ (fun x hx => ?_) i h1
    obtain ⟨o, ho, e, he, hb, rfl⟩ := dpMask_bit hx
    rw [hoj] at ho
    injection ho with ho
    subst ho
    exact hall e he hb
def lstP (md : Region.Mode) (ops : Array Oper) (od : List (Nat × Nat)) (j : Nat) : Bool :=
  od.all fun p => p.1 == j || (downMask md ops ops.size (dpMask md ops j)).testBit p.1
theorem lstP_spec {od : List (Nat × Nat)} {i k j : Nat} {listed : Array Bool} (hf : (i, k) ∈ od) (hd : Down md ops listed) (hj : j ∈ Region.ready md ops listed) (hne : j ≠ i) (h : lstP md ops od j = true) :
    listed.getD i false = true := by
  have h1 := List.all_eq_true.1 h _ hf
  simp only [Bool.or_eq_true, beq_iff_eq] at h1
  rcases h1 with h1 | h1
  · exact absurd h1.symm hne
  · obtain ⟨_, oj, hoj, hall⟩ := mem_ready.1 hj
    refine downMask_listed hd _ _ (fun x hx => ?_) i h1
    obtain ⟨o, ho, e, he, hb, rfl⟩ := dpMask_bit hx
    rw [hoj] at ho
    injection ho with ho
    subst ho
    exact hall e he hb
def ordP (md : Region.Mode) (ops : Array Oper) : List (Nat × Nat) → Array Bool → Bool
  | [], listed => (Region.ready md ops listed).isEmpty
  | (i, 0) :: r, listed => (Region.ready md ops listed == [i]) && ordP md ops r (listed.setIfInBounds i true)
  | (i, _ + 1) :: r, listed => Region.free md ops listed i && (Region.ready md ops listed).contains i && ordP md ops r (listed.setIfInBounds i true)
def wpOp3 (P : Program) (ops : Array Oper) (Q : Exit → Act → World → Prop) (S : World → Prop) (od : List (Nat × Nat)) : List (Nat × Nat) → List Oper → Act → World → Prop
  | [], [], a, w => Q .normal a w
  | (k, 0) :: r, o :: l, a, w =>
    if Region.wanted o (yielded ops a.tmps) then o.wp P a w (fun a' w' => (exP .any ops od k = true ∨ (S w → S w')) ∧ wpOp3 P ops Q S od r l a' w') (QL Q (lstP .any ops od) k) ∨ (o.asks P a w ∧ LetsOut (QL Q (lstP .any ops od) k))
    else wpOp3 P ops Q S od r l (a.put o.dst undef) w
  | (_, 1) :: r, o :: l, a, w => S w ∧ ∃ v, YieldsIf P ops S o v a ∧ wpOp3 P ops Q S od r l (a.put o.dst v) w
  | (_, _ + 2) :: r, o :: l, a, w => ∃ v, YieldsIf P ops (fun _ => True) o v a ∧ wpOp3 P ops Q S od r l (a.put o.dst v) w
  | _, _, _, _ => False
theorem wpAnyH_of_3 {od : List (Nat × Nat)} (hs : Region.noSelect ops = true) : ∀ (r : List (Nat × Nat)) (l : List Oper) (fuel : Nat) (listed : Array Bool) (a : Act) (w : World), l.length ≤ fuel → l.map some = r.map (fun p => ops[p.1]?) → (∀ p ∈ r, p ∈ od) → Down .any ops listed →
    ordP .any ops r listed = true → wpOp3 P ops Q S od r l a w → wpAnyH P .any ops Q S (exP .any ops od) (lstP .any ops od) fuel listed a w
  | [], [], fuel, listed, a, w, _, _, _, _, hB, h => wpAnyH_done (by simpa [ordP] using hB) h fuel
  | _ :: _, [], fuel, listed, a, w, _, _, _, _, _, h => by simp [wpOp3] at h
  | [], _ :: _, fuel, listed, a, w, _, _, _, _, _, h => by simp [wpOp3] at h
  | _ :: _, _ :: _, 0, listed, a, w, hf, _, _, _, _, _ => by simp at hf
  | (i, 1) :: r, o :: l, fuel + 1, listed, a, w, hf, hl, hr, hdn, hB, h => by
    obtain ⟨hS, v, hy, h⟩ := h
    simp only [ordP, Bool.and_eq_true] at hB
    simp only [List.map_cons, List.cons.injEq] at hl
    exact wpAnyH_first hl.1.symm (Region.noSelect_spec hs) (fun j l hd hj hne hx => lstP_spec (hr _ (List.mem_cons_self ..)) hd hj hne hx) (fun j l hd hj hne hx => exP_spec (hr _ (by simp)) hd hj hne hx) fuel listed a w hdn (Region.free_spec hl.1.symm hB.1.1) (by simpa using hB.1.2) hy hS
      (wpAnyH_of_3 hs r l fuel _ _ w (by simpa using hf) hl.2 (fun p hp => hr p (by simp [hp])) (hdn.set (by simpa using hB.1.2)) hB.2 h)
  | (i, n + 2) :: r, o :: l, fuel + 1, listed, a, w, hf, hl, hr, hdn, hB, h => by
    obtain ⟨v, hy, h⟩ := h
    simp only [ordP, Bool.and_eq_true] at hB
    simp only [List.map_cons, List.cons.injEq] at hl
    exact wpAnyH_pure hl.1.symm (Region.noSelect_spec hs) (fun j l hd hj hne hx => lstP_spec (hr _ (List.mem_cons_self ..)) hd hj hne hx) fuel listed a w hdn (Region.free_spec hl.1.symm hB.1.1) (by simpa using hB.1.2) hy
      (wpAnyH_of_3 hs r l fuel _ _ w (by simpa using hf) hl.2 (fun p hp => hr p (by simp [hp])) (hdn.set (by simpa using hB.1.2)) hB.2 h)
  | (i, 0) :: r, o :: l, fuel + 1, listed, a, w, hf, hl, hr, hdn, hB, h => by
    simp only [ordP, Bool.and_eq_true, beq_iff_eq] at hB
    simp only [List.map_cons, List.cons.injEq] at hl
    refine wpAnyH_all hB.1 (by simp) fun j hj => ?_
    obtain rfl : j = i := by simpa using hj
    have h1 : wpOp P ops (QL Q (lstP .any ops od) j) j (fun a' w' => (exP .any ops od j = true ∨ (S w → S w')) ∧ wpOp3 P ops Q S od r l a' w') a w := by
      unfold wpOp
      rw [← hl.1]
      unfold wpOp3 at h
      by_cases hw : Region.wanted o (yielded ops a.tmps) = true
      · rw [if_pos hw] at h
        simp only [if_pos hw]
        exact h
      · rw [if_neg hw] at h
        simp only [if_neg hw]
        exact ⟨.inr id, h⟩
    exact wpOp_mono (fun a' w' h' => ⟨h'.1, wpAnyH_of_3 hs r l fuel _ a' w' (by simpa using hf) hl.2 (fun p hp => hr p (by simp [hp])) (hdn.set (by rw [hB.1]; simp)) hB.2 h'.2⟩) h1
def inP (n : Nat) (od : List (Nat × Nat)) : Bool := od.all fun p => decide (p.1 < n)
theorem wp_region_3 {id : Nat} {a : Act} {w : World} {l : List Oper} (S : World → Prop) (od : List (Nat × Nat)) (hm : P.follows .mixedOrders = true) (hs : Region.noSelect l.toArray = true)
    (hB : ordP .any l.toArray od (Array.replicate l.toArray.size false) = true) (hin : (inP l.length od && decide (od.length ≤ l.length)) = true)
    (h : ∀ l', l' = od.map (fun p => l.getD p.1 nop) → wpOp3 P l.toArray Q S od od l' a w.drew) : (Code.region id l.toArray true).wp P Q a w := by
  simp only [Bool.and_eq_true, decide_eq_true_eq] at hin
  refine (wp_region_any hm (wpAny_of_H _ _ _ _ (wpAnyH_of_3 hs od _ _ _ a _ ?_ ?_ (fun _ h => h) (Down.init _) hB (h _ rfl))))
  · simpa using hin.2
  · rw [List.map_map]
    refine List.map_congr_left fun p hp => ?_
    have hlt : p.1 < l.length := of_decide_eq_true (List.all_eq_true.1 hin.1 p hp)
    simp [List.getD, List.getElem?_eq_getElem hlt]
variable {od : List (Nat × Nat)} {k : Nat}
theorem w3_nil {a : Act} {w : World} (h : Q .normal a w) : wpOp3 P ops Q S od [] [] a w := h
theorem w3_take {l : List Oper} {r : List (Nat × Nat)} {a : Act} {w : World} {o : Oper} {v : Value} (hS : S w) (hw : Region.wanted o (yielded ops a.tmps) = true)
    (hy : ∀ w', S w' → (execOp a.eval o).run P w' = .ok (.value v) w') (h : ∀ K : Act → World → Prop, (∀ a w, wpOp3 P ops Q S od r l a w → K a w) → K (a.put o.dst v) w) : wpOp3 P ops Q S od ((k, 1) :: r) (o :: l) a w :=
  ⟨hS, v, .inl ⟨hw, hy⟩, h _ (fun _ _ h => h)⟩
theorem w3_pass {l : List Oper} {r : List (Nat × Nat)} {a : Act} {w : World} {o : Oper} (hS : S w) (hw : Region.wanted o (yielded ops a.tmps) = false)
    (h : ∀ K : Act → World → Prop, (∀ a w, wpOp3 P ops Q S od r l a w → K a w) → K (a.put o.dst undef) w) : wpOp3 P ops Q S od ((k, 1) :: r) (o :: l) a w :=
  ⟨hS, undef, .inr ⟨hw, rfl⟩, h _ (fun _ _ h => h)⟩
theorem w3_pure {l : List Oper} {r : List (Nat × Nat)} {a : Act} {w : World} {o : Oper} {v : Value} (hw : Region.wanted o (yielded ops a.tmps) = true)
    (hy : ∀ w', (execOp a.eval o).run P w' = .ok (.value v) w') (h : ∀ K : Act → World → Prop, (∀ a w, wpOp3 P ops Q S od r l a w → K a w) → K (a.put o.dst v) w) : wpOp3 P ops Q S od ((k, 2) :: r) (o :: l) a w :=
  ⟨v, .inl ⟨hw, fun w _ => hy w⟩, h _ (fun _ _ h => h)⟩
theorem w3_skip {l : List Oper} {r : List (Nat × Nat)} {a : Act} {w : World} {o : Oper} (hw : Region.wanted o (yielded ops a.tmps) = false)
    (h : ∀ K : Act → World → Prop, (∀ a w, wpOp3 P ops Q S od r l a w → K a w) → K (a.put o.dst undef) w) : wpOp3 P ops Q S od ((k, 2) :: r) (o :: l) a w :=
  ⟨undef, .inr ⟨hw, rfl⟩, h _ (fun _ _ h => h)⟩
theorem w3_act {l : List Oper} {r : List (Nat × Nat)} {a : Act} {w : World} {o : Oper}
    (h : ∀ K : Act → World → Prop, Shut (∀ a' w', (S w → S w') → wpOp3 P ops Q S od r l a' w' → K a' w') → if Region.wanted o (yielded ops a.tmps) = true then Oper.wp P o a w K (noP Q) else K (a.put o.dst undef) w) :
    wpOp3 P ops Q S od ((k, 0) :: r) (o :: l) a w := by
  unfold wpOp3
  split
  · rename_i hw
    have h := h (fun a' w' => (exP .any ops od k = true ∨ (S w → S w')) ∧ wpOp3 P ops Q S od r l a' w') (fun a' w' hS h => ⟨.inr hS, h⟩)
    rw [if_pos hw] at h; exact .inl (Oper.wp_exits QL.of h)
  · rename_i hw
    have h := h (fun a' w' => wpOp3 P ops Q S od r l a' w') (fun a' w' _ h => h)
    rw [if_neg hw] at h; exact h
theorem w3_end {l : List Oper} {r : List (Nat × Nat)} {a : Act} {w : World} {o : Oper} (hx : exP .any ops od k = true)
    (h : ∀ K : Act → World → Prop, Shut (∀ a' w', wpOp3 P ops Q S od r l a' w' → K a' w') → if Region.wanted o (yielded ops a.tmps) = true then Oper.wp P o a w K (noP Q) else K (a.put o.dst undef) w) :
    wpOp3 P ops Q S od ((k, 0) :: r) (o :: l) a w := by
  unfold wpOp3
  split
  · rename_i hw
    have h := h (fun a' w' => (exP .any ops od k = true ∨ (S w → S w')) ∧ wpOp3 P ops Q S od r l a' w') (fun a' w' h => ⟨.inl hx, h⟩)
    rw [if_pos hw] at h; exact .inl (Oper.wp_exits QL.of h)
  · rename_i hw
    have h := h (fun a' w' => wpOp3 P ops Q S od r l a' w') (fun a' w' h => h)
    rw [if_neg hw] at h; exact h
end
end Go.Proofs.YtahljceanodhkaaGreatDoor

/- The walks of package halve: a trial in memory, and what each method does with it. -/
namespace Go.Proofs.YtahljceanodhkaaGreatDoor
open Go.RowKit

attribute [go_sem ↓ high] wp_store_big
attribute [go_sem high] wp_store_big
theorem aggDig : aggT Tryz.prog 30 = true := by kernel_rfl
theorem sizeDig : sizeT Tryz.prog 30 = some 8 := by kernel_rfl
theorem wpLoadDig {dst : Option Tmp} {ty' : TypeId} {x : Operand} {pos : String} {after : Array Edge} {guard : Option (Nat × Bool)} {a : Act} {w : World} {K : Act → World → Prop} {Q : Exit → Act → World → Prop} (hx : isAt (a.eval x) = true) (hh : has w (blkOf (a.eval x)) (offOf (a.eval x)) 8 = true) :
    Oper.wp Tryz.prog { dst := dst, op := .load 30 x, type := ty', pos := pos, after := after, guard := guard } a w K Q = K (a.put dst (.agg (gets w (blkOf (a.eval x)) (offOf (a.eval x)) 8))) w := wp_load_big 8 aggDig sizeDig hx hh
theorem runLoadDig {ρ : Operand → Value} {dst : Option Tmp} {ty' : TypeId} {x : Operand} {pos : String} {after : Array Edge} {guard : Option (Nat × Bool)} {w : World} (hx : isAt (ρ x) = true) (hh : has w (blkOf (ρ x)) (offOf (ρ x)) 8 = true) :
    (execOp ρ { dst := dst, op := .load 30 x, type := ty', pos := pos, after := after, guard := guard }).run Tryz.prog w = .ok (.value (.agg (gets w (blkOf (ρ x)) (offOf (ρ x)) 8))) w := run_exec_load_big 8 aggDig sizeDig hx hh
theorem loadVarDig (w : World) (g off : Nat) (hh : has w g off 8 = true) : (loadVar 30 ⟨g, off, none⟩).run Tryz.prog w = .ok (.agg (gets w g off 8)) w := run_loadVar_big Tryz.prog w _ g off 8 aggDig sizeDig hh
attribute [go_sem] aggDig sizeDig
attribute [go_sem ↓ high] wpLoadDig loadVarDig runLoadDig
attribute [go_sem high] wpLoadDig
theorem aggArr8 : aggT Tryz.prog 23 = true := by kernel_rfl
theorem sizeArr8 : sizeT Tryz.prog 23 = some 8 := by kernel_rfl
theorem wpLoadArr8 {dst : Option Tmp} {ty' : TypeId} {x : Operand} {pos : String} {after : Array Edge} {guard : Option (Nat × Bool)} {a : Act} {w : World} {K : Act → World → Prop} {Q : Exit → Act → World → Prop} (hx : isAt (a.eval x) = true) (hh : has w (blkOf (a.eval x)) (offOf (a.eval x)) 8 = true) :
    Oper.wp Tryz.prog { dst := dst, op := .load 23 x, type := ty', pos := pos, after := after, guard := guard } a w K Q = K (a.put dst (.agg (gets w (blkOf (a.eval x)) (offOf (a.eval x)) 8))) w := wp_load_big 8 aggArr8 sizeArr8 hx hh
theorem runLoadArr8 {ρ : Operand → Value} {dst : Option Tmp} {ty' : TypeId} {x : Operand} {pos : String} {after : Array Edge} {guard : Option (Nat × Bool)} {w : World} (hx : isAt (ρ x) = true) (hh : has w (blkOf (ρ x)) (offOf (ρ x)) 8 = true) :
    (execOp ρ { dst := dst, op := .load 23 x, type := ty', pos := pos, after := after, guard := guard }).run Tryz.prog w = .ok (.value (.agg (gets w (blkOf (ρ x)) (offOf (ρ x)) 8))) w := run_exec_load_big 8 aggArr8 sizeArr8 hx hh
theorem loadVarArr8 (w : World) (g off : Nat) (hh : has w g off 8 = true) : (loadVar 23 ⟨g, off, none⟩).run Tryz.prog w = .ok (.agg (gets w g off 8)) w := run_loadVar_big Tryz.prog w _ g off 8 aggArr8 sizeArr8 hh
attribute [go_sem] aggArr8 sizeArr8
attribute [go_sem ↓ high] wpLoadArr8 loadVarArr8 runLoadArr8
attribute [go_sem high] wpLoadArr8
theorem aggSpan : aggT Tryz.prog 114 = true := by kernel_rfl
theorem sizeSpan : sizeT Tryz.prog 114 = some 18 := by kernel_rfl
theorem wpLoadSpan {dst : Option Tmp} {ty' : TypeId} {x : Operand} {pos : String} {after : Array Edge} {guard : Option (Nat × Bool)} {a : Act} {w : World} {K : Act → World → Prop} {Q : Exit → Act → World → Prop} (hx : isAt (a.eval x) = true) (hh : has w (blkOf (a.eval x)) (offOf (a.eval x)) 18 = true) :
    Oper.wp Tryz.prog { dst := dst, op := .load 114 x, type := ty', pos := pos, after := after, guard := guard } a w K Q = K (a.put dst (.agg (gets w (blkOf (a.eval x)) (offOf (a.eval x)) 18))) w := wp_load_big 18 aggSpan sizeSpan hx hh
theorem runLoadSpan {ρ : Operand → Value} {dst : Option Tmp} {ty' : TypeId} {x : Operand} {pos : String} {after : Array Edge} {guard : Option (Nat × Bool)} {w : World} (hx : isAt (ρ x) = true) (hh : has w (blkOf (ρ x)) (offOf (ρ x)) 18 = true) :
    (execOp ρ { dst := dst, op := .load 114 x, type := ty', pos := pos, after := after, guard := guard }).run Tryz.prog w = .ok (.value (.agg (gets w (blkOf (ρ x)) (offOf (ρ x)) 18))) w := run_exec_load_big 18 aggSpan sizeSpan hx hh
theorem loadVarSpan (w : World) (g off : Nat) (hh : has w g off 18 = true) : (loadVar 114 ⟨g, off, none⟩).run Tryz.prog w = .ok (.agg (gets w g off 18)) w := run_loadVar_big Tryz.prog w _ g off 18 aggSpan sizeSpan hh
attribute [go_sem] aggSpan sizeSpan
attribute [go_sem ↓ high] wpLoadSpan loadVarSpan runLoadSpan
attribute [go_sem high] wpLoadSpan
theorem aggTrial : aggT Tryz.prog 116 = true := by kernel_rfl
theorem sizeTrial : sizeT Tryz.prog 116 = some 37 := by kernel_rfl
theorem wpLoadTrial {dst : Option Tmp} {ty' : TypeId} {x : Operand} {pos : String} {after : Array Edge} {guard : Option (Nat × Bool)} {a : Act} {w : World} {K : Act → World → Prop} {Q : Exit → Act → World → Prop} (hx : isAt (a.eval x) = true) (hh : has w (blkOf (a.eval x)) (offOf (a.eval x)) 37 = true) :
    Oper.wp Tryz.prog { dst := dst, op := .load 116 x, type := ty', pos := pos, after := after, guard := guard } a w K Q = K (a.put dst (.agg (gets w (blkOf (a.eval x)) (offOf (a.eval x)) 37))) w := wp_load_big 37 aggTrial sizeTrial hx hh
theorem runLoadTrial {ρ : Operand → Value} {dst : Option Tmp} {ty' : TypeId} {x : Operand} {pos : String} {after : Array Edge} {guard : Option (Nat × Bool)} {w : World} (hx : isAt (ρ x) = true) (hh : has w (blkOf (ρ x)) (offOf (ρ x)) 37 = true) :
    (execOp ρ { dst := dst, op := .load 116 x, type := ty', pos := pos, after := after, guard := guard }).run Tryz.prog w = .ok (.value (.agg (gets w (blkOf (ρ x)) (offOf (ρ x)) 37))) w := run_exec_load_big 37 aggTrial sizeTrial hx hh
theorem loadVarTrial (w : World) (g off : Nat) (hh : has w g off 37 = true) : (loadVar 116 ⟨g, off, none⟩).run Tryz.prog w = .ok (.agg (gets w g off 37)) w := run_loadVar_big Tryz.prog w _ g off 37 aggTrial sizeTrial hh
attribute [go_sem] aggTrial sizeTrial
attribute [go_sem ↓ high] wpLoadTrial loadVarTrial runLoadTrial
attribute [go_sem high] wpLoadTrial
structure Dg where (x0 x1 x2 x3 x4 x5 x6 x7 : Int)
abbrev D (d : Dg) : Value := .agg #[.int .u8 d.x0, .int .u8 d.x1, .int .u8 d.x2, .int .u8 d.x3, .int .u8 d.x4, .int .u8 d.x5, .int .u8 d.x6, .int .u8 d.x7]
abbrev Dg.cells (d : Dg) : Array Value := #[.int .u8 d.x0, .int .u8 d.x1, .int .u8 d.x2, .int .u8 d.x3, .int .u8 d.x4, .int .u8 d.x5, .int .u8 d.x6, .int .u8 d.x7]
attribute [go_sem] D Dg.cells
theorem eqDig (w : World) (d : Nat) (a0 a1 a2 a3 a4 a5 a6 a7 b0 b1 b2 b3 b4 b5 b6 b7 : Int) :
    (Op.equalIn (d + 2) 30 (.agg #[.int .u8 a0, .int .u8 a1, .int .u8 a2, .int .u8 a3, .int .u8 a4, .int .u8 a5, .int .u8 a6, .int .u8 a7]) (.agg #[.int .u8 b0, .int .u8 b1, .int .u8 b2, .int .u8 b3, .int .u8 b4, .int .u8 b5, .int .u8 b6, .int .u8 b7])).run Tryz.prog w =
      .ok ([a0, a1, a2, a3, a4, a5, a6, a7] == [b0, b1, b2, b3, b4, b5, b6, b7]) w :=
  run_equalIn_ints w d _ 5 8 .u8 Tryz.underlying30 Tryz.underlying5 (fun w => sizeOf_run (by kernel_rfl) w) [a0, a1, a2, a3, a4, a5, a6, a7] [b0, b1, b2, b3, b4, b5, b6, b7] rfl rfl
theorem eqDig' (w : World) (a0 a1 a2 a3 a4 a5 a6 a7 b0 b1 b2 b3 b4 b5 b6 b7 : Int) :
    (Op.equalIn 10000 30 (.agg #[.int .u8 a0, .int .u8 a1, .int .u8 a2, .int .u8 a3, .int .u8 a4, .int .u8 a5, .int .u8 a6, .int .u8 a7]) (.agg #[.int .u8 b0, .int .u8 b1, .int .u8 b2, .int .u8 b3, .int .u8 b4, .int .u8 b5, .int .u8 b6, .int .u8 b7])).run Tryz.prog w =
      .ok ([a0, a1, a2, a3, a4, a5, a6, a7] == [b0, b1, b2, b3, b4, b5, b6, b7]) w := eqDig w 9998 _ _ _ _ _ _ _ _ _ _ _ _ _ _ _ _
theorem guardDig : Tryz.prog.eqGuardType Tryz.prog.depth 30 = false := by kernel_rfl
attribute [go_sem] eqDig' guardDig
abbrev Dg.zero : Dg := ⟨0, 0, 0, 0, 0, 0, 0, 0⟩
structure Tr where (from_ steps : Int) (before after program : Dg) (size turn : Int) (mid : Dg) (winner : Int)
abbrev Tr.cells (t : Tr) : Array Value := #[.int .i64 t.from_, .int .i64 t.steps,
  .int .u8 t.before.x0, .int .u8 t.before.x1, .int .u8 t.before.x2, .int .u8 t.before.x3, .int .u8 t.before.x4, .int .u8 t.before.x5, .int .u8 t.before.x6, .int .u8 t.before.x7,
  .int .u8 t.after.x0, .int .u8 t.after.x1, .int .u8 t.after.x2, .int .u8 t.after.x3, .int .u8 t.after.x4, .int .u8 t.after.x5, .int .u8 t.after.x6, .int .u8 t.after.x7,
  .int .u8 t.program.x0, .int .u8 t.program.x1, .int .u8 t.program.x2, .int .u8 t.program.x3, .int .u8 t.program.x4, .int .u8 t.program.x5, .int .u8 t.program.x6, .int .u8 t.program.x7,
  .int .i64 t.size, .int .i64 t.turn,
  .int .u8 t.mid.x0, .int .u8 t.mid.x1, .int .u8 t.mid.x2, .int .u8 t.mid.x3, .int .u8 t.mid.x4, .int .u8 t.mid.x5, .int .u8 t.mid.x6, .int .u8 t.mid.x7,
  .int .i64 t.winner]
attribute [go_sem] Tr.cells
abbrev At (w : World) (b : Nat) (t : Tr) : Prop := Blk w b 116 t.cells
theorem At.cell {w : World} {b : Nat} {t : Tr} (h : At w b t) (i : Nat) : w.cell? ⟨b, i, none⟩ = t.cells[i]? := Blk.cell h i
theorem At.frozen {w : World} {b : Nat} {t : Tr} (h : At w b t) (i : Nat) : w.frozen? ⟨b, i, none⟩ = false := Blk.frozen h i
theorem At.of {w : World} {b : Nat} {t : Tr} {cs : Array Value} (h : Blk w b 116 cs) (e : cs = t.cells) : At w b t := by subst e; exact h

structure Sp where (from_ steps : Int) (before after : Dg)
abbrev Sp.cells (t : Sp) : Array Value := #[.int .i64 t.from_, .int .i64 t.steps,
  .int .u8 t.before.x0, .int .u8 t.before.x1, .int .u8 t.before.x2, .int .u8 t.before.x3, .int .u8 t.before.x4, .int .u8 t.before.x5, .int .u8 t.before.x6, .int .u8 t.before.x7,
  .int .u8 t.after.x0, .int .u8 t.after.x1, .int .u8 t.after.x2, .int .u8 t.after.x3, .int .u8 t.after.x4, .int .u8 t.after.x5, .int .u8 t.after.x6, .int .u8 t.after.x7]
attribute [go_sem] Sp.cells
end Go.Proofs.YtahljceanodhkaaGreatDoor
