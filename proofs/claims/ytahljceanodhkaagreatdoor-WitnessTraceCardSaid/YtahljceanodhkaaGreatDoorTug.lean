/- Several texts joined: Xe, Ya, Yb, Yc, Za. -/
import Derived.Lib.AppendZeros
import Derived.Test.YtahljceanodhkaaGreatDoorTtf
import Derived.Test.YtahljceanodhkaaGreatDoorTuf
import Derived.Test.YtahljceanodhkaaGreatDoorTue
/- A state behind a step is right again. -/
namespace Go.Proofs.YtahljceanodhkaaGreatDoor
open Go.RowKit
theorem putE_ok {m : List Int} {x v : Int} (hm : ∀ z ∈ m, i32ok z) (hv : i32ok v) : ∀ z ∈ mput m x v, i32ok z := fun z hz => by
  rcases List.mem_or_eq_of_mem_set hz with h | h
  · exact hm z h
  · rw [h]; exact hv
theorem getE_ok {m : List Int} {x : Int} (hm : ∀ z ∈ m, i32ok z) : i32ok (mget m x) := getX_ok hm _
theorem truth_ok (b : Bool) : i32ok (truthI b) := by cases b <;> simp [truthI, i32ok]
theorem wrap32_ok (x : Int) : i32ok (IntKind.i32.wrap x) := by
  unfold i32ok
  simp only [IntKind.wrap, IntKind.signed, IntKind.bits]
  simp
  omega
theorem two_ok (k : Nat) {b c : Int} (hb : i32ok b) (_hc : i32ok c) : i32ok (twoI k b c) := by
  have h0 : i32ok 0 := by unfold i32ok; omega
  unfold twoI
  split
  · exact wrap32_ok _
  · exact wrap32_ok _
  · exact wrap32_ok _
  · split
    · exact h0
    · exact wrap32_ok _
  · split
    · exact h0
    · unfold i32ok at hb ⊢
      rename_i hc0
      have h2 : (b.tmod c).natAbs ≤ b.natAbs := by rw [Int.natAbs_tmod]; exact Nat.mod_le _ _
      rcases Int.lt_or_le b 0 with hn | hn
      · have := Int.tmod_nonneg (a := -b) c (by omega); rw [Int.neg_tmod] at this; omega
      · have := Int.tmod_nonneg c hn; omega
  all_goals exact truth_ok _
/-- a state that may be, with its words -/
structure Okay (pc halt : Int) (m : List Int) : Prop where
  right : rightS pc halt m.length = true
  mok : ∀ z ∈ m, i32ok z
theorem Okay.mk' {pc halt : Int} {m : List Int} (k : Nat) (hk : k = m.length) (h1 : 1 ≤ k) (h2 : k ≤ 256) (p0 : 0 ≤ pc) (p1 : pc ≤ 2048) (a0 : 0 ≤ halt) (a1 : halt ≤ 2) (hm : ∀ z ∈ m, i32ok z) : Okay pc halt m :=
  ⟨by subst hk; simp [rightS]; omega, hm⟩
theorem put_len (m : List Int) (x v : Int) : (mput m x v).length = m.length := by simp [mput]
theorem exec_okay {i : Ins} {pc : Int} {n : Nat} {m : List Int} (hr : rightI i n m.length = true) (hn : n ≤ 2048) (h : Okay pc 0 m) (hp : pc < n) : Okay (execI i pc m).1 (execI i pc m).2.1 (execI i pc m).2.2 ∧ (execI i pc m).2.2.length = m.length := by
  obtain ⟨h1, h2, h3, h4, _, _⟩ := rightS_inv h.right
  obtain ⟨o0, o1, ha, hb, hc, he⟩ := rightI_parts hr
  obtain ⟨k, hk, hop⟩ := op_nat (i := i) (by simp [isOp]; omega)
  have hnn : i.op.toNat = k := by omega
  rw [hnn] at ha hb hc
  have put : ∀ (x v : Int), i32ok v → Okay (pc + 1) 0 (mput m x v) ∧ (mput m x v).length = m.length := fun x v hv =>
    ⟨Okay.mk' m.length (put_len m x v).symm h1 h2 (by omega) (by omega) (by omega) (by omega) (putE_ok h.mok hv), put_len m x v⟩
  have go : ∀ q : Int, 0 ≤ q → q ≤ 2048 → Okay q 0 m ∧ m.length = m.length := fun q q0 q1 => ⟨Okay.mk' m.length rfl h1 h2 q0 q1 (by omega) (by omega) h.mok, rfl⟩
  obtain ⟨r, hx⟩ : ∃ r, execI i pc m = r := ⟨_, rfl⟩
  rw [hx]
  delta execI at hx
  by_cases e0 : i.op = 0
  · rw [if_pos e0] at hx
    subst hx
    simp [rightE, e0] at he
    exact ⟨Okay.mk' m.length rfl h1 h2 h3 h4 (by simp only; omega) (by simp only; omega) h.mok, rfl⟩
  rw [if_neg e0] at hx
  by_cases e1 : i.op = 1
  · rw [if_pos e1] at hx
    subst hx
    have ek : k = 1 := by omega
    subst ek
    exact put _ _ (okP_n (k := 1) rfl hb)
  rw [if_neg e1] at hx
  by_cases e2 : i.op = 2
  · rw [if_pos e2] at hx
    subst hx
    exact put _ _ (getE_ok h.mok)
  rw [if_neg e2] at hx
  by_cases e14 : i.op = 14
  · rw [if_pos e14] at hx
    subst hx
    exact put _ _ (truth_ok _)
  rw [if_neg e14] at hx
  by_cases e15 : i.op = 15
  · rw [if_pos e15] at hx
    subst hx
    exact put _ _ (getE_ok h.mok)
  rw [if_neg e15] at hx
  by_cases e16 : i.op = 16
  · rw [if_pos e16] at hx
    subst hx
    exact put _ _ (getE_ok h.mok)
  rw [if_neg e16] at hx
  by_cases e17 : i.op = 17
  · rw [if_pos e17] at hx
    subst hx
    have ek : k = 17 := by omega
    subst ek
    have q0 := okP_n (k := 1) rfl hb
    have q1 := okP_n (k := 2) rfl hc
    have q2 := getE_ok (x := i.a) h.mok
    refine put _ _ ?_
    unfold i32ok at q2 ⊢
    omega
  rw [if_neg e17] at hx
  by_cases e18 : i.op = 18
  · rw [if_pos e18] at hx
    subst hx
    exact put _ _ (truth_ok _)
  rw [if_neg e18] at hx
  by_cases e19 : i.op = 19
  · rw [if_pos e19] at hx
    subst hx
    have ek : k = 19 := by omega
    subst ek
    have q0 := okP_p (k := 0) rfl ha
    exact go _ (by omega) (by omega)
  rw [if_neg e19] at hx
  by_cases e20 : i.op = 20
  · rw [if_pos e20] at hx
    subst hx
    have ek : k = 20 := by omega
    subst ek
    have q0 := okP_p (k := 0) rfl ha
    by_cases ez : mget m i.b = 0
    · rw [if_pos ez]; exact go _ (by omega) (by omega)
    · rw [if_neg ez]; exact go _ (by omega) (by omega)
  rw [if_neg e20] at hx
  by_cases e21 : i.op = 21
  · rw [if_pos e21] at hx
    subst hx
    have ek : k = 21 := by omega
    subst ek
    have q0 := okP_p (k := 0) rfl ha
    by_cases ez : mget m i.b = 0
    · rw [if_pos ez]; exact go _ (by omega) (by omega)
    · rw [if_neg ez]; exact go _ (by omega) (by omega)
  rw [if_neg e21] at hx
  subst hx
  exact put _ _ (two_ok _ (getE_ok h.mok) (getE_ok h.mok))
theorem step_okay {c : List Ins} {pc : Int} {m : List Int} (hc : c.length ≤ 2048) (h : Okay pc 0 m) : Okay (stepI c pc m).1 (stepI c pc m).2.1 (stepI c pc m).2.2 ∧ (stepI c pc m).2.2.length = m.length := by
  obtain ⟨h1, h2, h3, h4, _, _⟩ := rightS_inv h.right
  have no : Okay pc 2 m ∧ m.length = m.length := ⟨Okay.mk' m.length rfl h1 h2 h3 h4 (by omega) (by omega) h.mok, rfl⟩
  unfold stepI
  cases hn : nextI c pc m.length with
  | none => exact no
  | some i =>
    simp only
    split
    · exact no
    · refine exec_okay (nextI_right hn) hc h ?_
      unfold nextI at hn
      split at hn
      · rename_i hg
        have := (List.getElem?_eq_some_iff.1 hg).1
        omega
      · cases hn
theorem run_okay {c : List Ins} {pc halt : Int} {m : List Int} (hc : c.length ≤ 2048) (h : Okay pc halt m) : Okay (runI c pc halt m).1 (runI c pc halt m).2.1 (runI c pc halt m).2.2 ∧ (runI c pc halt m).2.2.length = m.length := by
  unfold runI
  by_cases h0 : halt = 0
  · rw [if_pos h0]; subst h0; exact step_okay hc h
  · rw [if_neg h0]; exact ⟨h, rfl⟩
/-- the digest behind a step -/
def nextR (c : List Ins) (pc halt : Int) (m : List Int) : Dg := hHead (runI c pc halt m).1 (runI c pc halt m).2.1 m.length (memR (runI c pc halt m).2.2)
theorem nextR_state {c : List Ins} {pc halt : Int} {m : List Int} (hc : c.length ≤ 2048) (h : Okay pc halt m) : nextR c pc halt m = stateR (runI c pc halt m).1 (runI c pc halt m).2.1 (runI c pc halt m).2.2 := by
  unfold nextR stateR
  rw [(run_okay hc h).2]
end Go.Proofs.YtahljceanodhkaaGreatDoor

/- The laws' own functions of layers 15 and 23: OwnCode, Own, small; rows of states and of steps. -/
namespace Go.Proofs.YtahljceanodhkaaGreatDoor
open Go.RowKit
theorem aggCourse : aggT Tryz.prog 99 = true := by kernel_rfl
theorem sizeCourse : sizeT Tryz.prog 99 = some 4 := by kernel_rfl
theorem wpLoadCourse {dst : Option Tmp} {ty' : TypeId} {x : Operand} {pos : String} {after : Array Edge} {guard : Option (Nat × Bool)} {a : Act} {w : World} {K : Act → World → Prop} {Q : Exit → Act → World → Prop} (hx : isAt (a.eval x) = true) (hh : has w (blkOf (a.eval x)) (offOf (a.eval x)) 4 = true) :
    Oper.wp Tryz.prog { dst := dst, op := .load 99 x, type := ty', pos := pos, after := after, guard := guard } a w K Q = K (a.put dst (.agg (gets w (blkOf (a.eval x)) (offOf (a.eval x)) 4))) w := wp_load_big 4 aggCourse sizeCourse hx hh
theorem runLoadCourse {ρ : Operand → Value} {dst : Option Tmp} {ty' : TypeId} {x : Operand} {pos : String} {after : Array Edge} {guard : Option (Nat × Bool)} {w : World} (hx : isAt (ρ x) = true) (hh : has w (blkOf (ρ x)) (offOf (ρ x)) 4 = true) :
    (execOp ρ { dst := dst, op := .load 99 x, type := ty', pos := pos, after := after, guard := guard }).run Tryz.prog w = .ok (.value (.agg (gets w (blkOf (ρ x)) (offOf (ρ x)) 4))) w := run_exec_load_big 4 aggCourse sizeCourse hx hh
theorem loadVarCourse (w : World) (g off : Nat) (hh : has w g off 4 = true) : (loadVar 99 ⟨g, off, none⟩).run Tryz.prog w = .ok (.agg (gets w g off 4)) w := run_loadVar_big Tryz.prog w _ g off 4 aggCourse sizeCourse hh
attribute [go_sem] aggCourse sizeCourse
attribute [go_sem ↓ high] wpLoadCourse loadVarCourse runLoadCourse
attribute [go_sem high] wpLoadCourse
/-- values of many cells, one behind the other -/
def rowsL {α : Type} (f : α → Array Value) (l : List α) : List Value := l.flatMap fun d => (f d).toList
section
variable {α : Type} {f : α → Array Value} {k : Nat}
theorem rowsL_len (hf : ∀ d, (f d).size = k) (l : List α) : (rowsL f l).length = l.length * k := by
  induction l with
  | nil => simp [rowsL]
  | cons d l ih =>
    show ((f d).toList ++ rowsL f l).length = _
    rw [List.length_append, ih, Array.length_toList, hf, List.length_cons, Nat.succ_mul]
    omega
theorem rowsL_at (hf : ∀ d, (f d).size = k) : ∀ (l : List α) (j : Nat) (hj : j < l.length), ((rowsL f l).drop (j * k)).take k = (f l[j]).toList
  | d :: l, 0, _ => by
    show (((f d).toList ++ rowsL f l).drop (0 * k)).take k = _
    rw [Nat.zero_mul, List.drop_zero, List.take_append, List.take_of_length_le (by rw [Array.length_toList, hf]; exact Nat.le_refl _), Array.length_toList, hf]
    simp
  | d :: l, j + 1, hj => by
    have ih := rowsL_at hf l j (by simpa using hj)
    show (((f d).toList ++ rowsL f l).drop ((j + 1) * k)).take k = _
    have hl : (f d).toList.length = k := by rw [Array.length_toList, hf]
    rw [Nat.succ_mul, Nat.add_comm, ← hl, List.drop_append, List.drop_of_length_le (l := (f d).toList) (by omega)]
    simp only [Nat.add_sub_cancel_left, List.nil_append]
    rw [hl]
    exact ih
theorem rowsL_row (hf : ∀ d, (f d).size = k) {w : World} {b off : Nat} {l : List α} (h : Row w b off (rowsL f l)) (j : Nat) (hj : j < l.length) : Proofs.YtahljceanodhkaaGreatDoor.has w b (off + j * k) k = true ∧ gets w b (off + j * k) k = f l[j] := by
  have := h.sub (j * k) k (by rw [rowsL_len hf]; calc
    j * k + k = (j + 1) * k := by rw [Nat.succ_mul]
    _ ≤ l.length * k := Nat.mul_le_mul_right _ hj)
  rw [rowsL_at hf l j hj] at this
  exact this
theorem flatL_app : ∀ (a b : List Value), flatL (a ++ b) = (flatL a && flatL b)
  | [], b => by simp [flatL]
  | x :: a, b => by simp [flatL, flatL_app a b, Bool.and_assoc]
theorem rowsL_flat (hf : ∀ d, flatL (f d).toList = true) (l : List α) : flatL (rowsL f l) = true := by
  induction l with
  | nil => rfl
  | cons d l ih => show flatL ((f d).toList ++ rowsL f l) = true; rw [flatL_app, hf, ih]; rfl
theorem rowsL_app (l q : List α) : rowsL f l ++ rowsL f q = rowsL f (l ++ q) := by simp [rowsL]
theorem rowsL_one (d : α) : rowsL f [d] = (f d).toList := by simp [rowsL]
end
/-- what lies in memory, and what each says -/
inductive AllV {α β : Type} (V : World → α → β → Prop) (w : World) : List α → List β → Prop where
  | nil : AllV V w [] []
  | cons {a : α} {b : β} {xs : List α} {ys : List β} : V w a b → AllV V w xs ys → AllV V w (a :: xs) (b :: ys)
section
variable {α β : Type} {V : World → α → β → Prop} {w w' : World}
theorem AllV.mono (h : ∀ a b, V w a b → V w' a b) : ∀ {xs : List α} {ys : List β}, AllV V w xs ys → AllV V w' xs ys
  | _, _, .nil => .nil
  | _, _, .cons x r => .cons (h _ _ x) (r.mono h)
theorem AllV.len : ∀ {xs : List α} {ys : List β}, AllV V w xs ys → xs.length = ys.length
  | _, _, .nil => rfl
  | _, _, .cons _ r => by simp [r.len]
theorem AllV.snoc {a : α} {b : β} (h : V w a b) : ∀ {xs : List α} {ys : List β}, AllV V w xs ys → AllV V w (xs ++ [a]) (ys ++ [b])
  | _, _, .nil => .cons h .nil
  | _, _, .cons x r => .cons x (r.snoc h)
theorem AllV.get : ∀ {xs : List α} {ys : List β} (_ : AllV V w xs ys) (j : Nat) (h1 : j < xs.length) (h2 : j < ys.length), V w xs[j] ys[j]
  | _, _, .cons x _, 0, _, _ => x
  | _, _, .cons _ r, j + 1, h1, h2 => r.get j (by simpa using h1) (by simpa using h2)
end
/-- a slice's first cells, out of a row of its own -/
theorem own_rows {w : World} {base : Nat} {E : TypeId} {sz : Nat} {v : Value} {n : Nat} {xs : List Value} (h : w.ownsRow base E sz v n xs) (h0 : 0 < n) (hz : 0 < sz) : ∃ g c, v = .slice (some ⟨g, 0, none⟩) n c ∧ Row w g 0 xs ∧ base ≤ g ∧ (∃ cur, w.heap[g]? = some (.cells cur E (0, 0))) := by
  have hl := h.1
  rcases h.2 with ⟨hv, e0⟩ | ⟨g, c, cur, hv, hb, hc, hnc, hcm, hcs, htk⟩
  · subst e0
    have := Nat.mul_pos h0 hz
    simp at hl
    omega
  · refine ⟨g, c, hv, ⟨?_, ?_, (Array.getElem?_eq_some_iff.1 hc).1⟩, hb, cur, hc⟩
    · unfold has; rw [hc, hl]; simp only [Nat.zero_add, decide_eq_true_eq]; rw [hcs]; exact Nat.mul_le_mul_right _ hnc
    · unfold gets; rw [hc, hl]; simp only [List.drop_zero]; rw [htk]
theorem has_ext {w w1 : World} {g o n : Nat} (hS : Ext w w1) (hg : g < w.heap.size) (h : Proofs.YtahljceanodhkaaGreatDoor.has w g o n = true) : Proofs.YtahljceanodhkaaGreatDoor.has w1 g o n = true := by
  unfold Proofs.YtahljceanodhkaaGreatDoor.has at h ⊢
  rw [hS.block g hg (fun f => f)]
  exact h
theorem gets_ext {w w1 : World} {g o n : Nat} {c : Array Value} (hS : Ext w w1) (hg : g < w.heap.size) (h : gets w g o n = c) : gets w1 g o n = c := by
  unfold gets at h ⊢
  rw [hS.block g hg (fun f => f)]
  exact h
/-- a state in memory -/
structure Sm where (pc halt : Int) (g n c : Nat)
abbrev Sm.cells (s : Sm) : Array Value := #[.int .i64 s.pc, .slice (some ⟨s.g, 0, none⟩) s.n s.c, .int .i64 s.halt]
attribute [go_sem] Sm.cells
abbrev Cfg := Int × Int × List Int
structure StV (w : World) (s : Sm) (r : Cfg) : Prop where
  pc : s.pc = r.1
  halt : s.halt = r.2.1
  len : s.n = r.2.2.length
  mem : ∃ base, MemAt w base s.g s.n s.c r.2.2
theorem StV.ext {w w' : World} {s : Sm} {r : Cfg} (h : StV w s r) (hx : Ext w w') : StV w' s r := by
  obtain ⟨h1, h2, h3, b, h4⟩ := h
  exact ⟨h1, h2, h3, b, h4.ext hx⟩
theorem StV.kept {S : Nat → Prop} {w w' : World} {s : Sm} {r : Cfg} (h : StV w s r) (hx : Kept S w w') (hs : ∀ i, S i → ∀ cur fr, ¬ w.heap[i]? = some (.cells cur 21 fr)) : StV w' s r := by
  obtain ⟨h1, h2, h3, b, h4⟩ := h
  obtain ⟨_, cur, _, hc, _⟩ := h4.inv
  exact ⟨h1, h2, h3, b, h4.kept hx (fun hS => hs _ hS _ _ hc)⟩
theorem infoS3 : (Tryz.prog.info? 70).map (fun i => (i.zero, i.size, i.bytes)) = some (some (.agg (stCells 0 none 0 0 0)), 3, 40) := by kernel_rfl
theorem sm_size (s : Sm) : (Sm.cells s).size = 3 := rfl
theorem sm_flat (s : Sm) : flatL (Sm.cells s).toList = true := rfl
theorem appSt (w : World) (base : Nat) (v : Value) (n : Nat) (xs : List Sm) (hown : w.ownsRow base 70 3 v n (rowsL Sm.cells xs)) (b off m c : Nat) (l : List Sm) (hm : m = l.length) (hr : Row w b off (rowsL Sm.cells l)) (hn : n + m ≤ 100000) (hbase : base ≤ w.heap.size) :
    ∃ v' w', (Builtin.append_ #[100, 100] 100 #[v, .slice (some ⟨b, off, none⟩) m c]).run Tryz.prog w = .ok v' w' ∧ w'.ownsRow base 70 3 v' (n + m) (rowsL Sm.cells (xs ++ l)) ∧ Kept (fun i => v.ownBlock = some i) w w' := by
  obtain ⟨i, hi, hz, h1, h2⟩ := info_parts infoS3
  have := app_some (P := Tryz.prog) Tryz.underlying100 hi hz h1 h2 (by rfl) (by decide) w base v n (rowsL Sm.cells xs) hown b off m c (rowsL Sm.cells l) (by rw [rowsL_len sm_size, hm]) hr (rowsL_flat sm_flat l) (by unfold maxLen; omega) (by omega) hbase
  rw [rowsL_app] at this
  exact this
theorem iff_want {c : Bool} {p q : Prop} (hc : c = true) (h : p) : if c = true then p else q := by rw [if_pos hc]; exact h
theorem infoS18 : (Tryz.prog.info? 45).map (fun i => (i.zero, i.size, i.bytes)) = some (some (.agg zeroW), 18, 136) := by kernel_rfl
theorem ws_size (s : Ws) : (Ws.cells s).size = 18 := rfl
theorem ws_flat (s : Ws) : flatL (Ws.cells s).toList = true := rfl
theorem appWs (w : World) (base : Nat) (v : Value) (n : Nat) (xs : List Ws) (hown : w.ownsRow base 45 18 v n (rowsL Ws.cells xs)) (b off m c : Nat) (l : List Ws) (hm : m = l.length) (hr : Row w b off (rowsL Ws.cells l)) (hn : n + m ≤ 100000) (hbase : base ≤ w.heap.size) :
    ∃ v' w', (Builtin.append_ #[102, 102] 102 #[v, .slice (some ⟨b, off, none⟩) m c]).run Tryz.prog w = .ok v' w' ∧ w'.ownsRow base 45 18 v' (n + m) (rowsL Ws.cells (xs ++ l)) ∧ Kept (fun i => v.ownBlock = some i) w w' := by
  obtain ⟨i, hi, hz, h1, h2⟩ := info_parts infoS18
  have := app_some (P := Tryz.prog) Tryz.underlying102 hi hz h1 h2 (by rfl) (by decide) w base v n (rowsL Ws.cells xs) hown b off m c (rowsL Ws.cells l) (by rw [rowsL_len ws_size, hm]) hr (rowsL_flat ws_flat l) (by unfold maxLen; omega) (by omega) hbase
  rw [rowsL_app] at this
  exact this
theorem StepV.kept {S : Nat → Prop} {w w' : World} {s : Ws} {L : Sl} (h : StepV w s L) (hx : Kept S w w') (hs : ∀ i, S i → ∀ cur fr, ¬ w.heap[i]? = some (.cells cur 30 fr)) (hs' : ∀ i, S i → ∀ cur fr, ¬ w.heap[i]? = some (.cells cur 77 fr)) : StepV w' s L :=
  ⟨h.pc, h.halt, h.words, h.mem, h.ins, h.path.kept hx hs, h.reads.kept hx hs hs', h.writes.kept hx hs hs'⟩
set_option maxRecDepth 100000 in
set_option maxHeartbeats 2000000 in
theorem owncode_any (A : Option Addr) (b off cap : Nat) (l : List Ins) (n : Nat) (hn : n = l.length) (h2 : n ≤ 4096) (hA : 0 < n → A = some ⟨b, off, none⟩) (w : World) (hr : 0 < n → Row w b off (inss l)) :
    Calls Tryz.prog 49 #[.slice A n cap] w fun e w' => OwnsI w w' e n l := by
  have HN := Lib.hid hn
  have HA := Lib.hid hA
  have HR := Lib.hid hr
  clear hn hA hr
  go_enter Tryz.func49, Tryz.ntmps49
  go_wp2_with fail
  go_loopw [3, 4] (fun t3 t4 wr => ∃ (k : Nat), k ≤ n ∧ t4 = .int .i64 k ∧ wr.ownsRow w.heap.size 41 4 t3 k (inss (l.take k)) ∧ Ext w wr) (fun _ t4 _ => n - (intOf t4).toNat)
  case atStart => exact ⟨0, Nat.zero_le _, rfl, World.ownsRow_nil _ _ _ _, Kept.refl _ _⟩
  case round =>
    obtain ⟨k, hk, rfl, ho, hx⟩ := hrel
    have hob : ∀ i, i < w.heap.size → (u3 : Value).ownBlock = some i → False := fun i hi e => by have := (ho.lt i e).1; omega
    have HOB := Lib.hid hob
    have HO := Lib.hid ho
    clear hob ho
    by_cases hlt : k < n
    · have hkl : k < l.length := by have := HN.out; omega
      obtain rfl := HA.out (by omega)
      have hrow := (HR.out (by omega)).ext hx
      obtain ⟨hrh, hrg⟩ := hrow.ins k hkl
      have hlr := hrow.lt
      have hlr0 := (HR.out (by omega)).lt
      have hll := inss_length l
      have hc0 : wr.cell? ⟨b, off + k * 4, none⟩ = some (.int .i64 (l[k]).op) := by
        have h1 := hrow.cell (k * 4) (by omega)
        have h2 := congrArg (·[0]?) (inss_at l k hkl)
        simp [List.getElem?_drop] at h2
        rw [h1, h2]
      have hc1 : wr.cell? ⟨b, off + k * 4 + 1, none⟩ = some (.int .i64 (l[k]).a) := by
        have h1 := hrow.cell (k * 4 + 1) (by omega)
        have h2 := congrArg (·[1]?) (inss_at l k hkl)
        simp [List.getElem?_drop] at h2
        rw [← Nat.add_assoc] at h1
        rw [h1, h2]
      have hc2 : wr.cell? ⟨b, off + k * 4 + 2, none⟩ = some (.int .i64 (l[k]).b) := by
        have h1 := hrow.cell (k * 4 + 2) (by omega)
        have h2 := congrArg (·[2]?) (inss_at l k hkl)
        simp [List.getElem?_drop] at h2
        rw [← Nat.add_assoc] at h1
        rw [h1, h2]
      have hc3 : wr.cell? ⟨b, off + k * 4 + 3, none⟩ = some (.int .i64 (l[k]).c) := by
        have h1 := hrow.cell (k * 4 + 3) (by omega)
        have h2 := congrArg (·[3]?) (inss_at l k hkl)
        simp [List.getElem?_drop] at h2
        rw [← Nat.add_assoc] at h1
        rw [h1, h2]
      have hltI : (k : Int) < n := by omega
      have hk0 : (0 : Int) ≤ k := by omega
      clear hrow hll hrh hrg
      obtain ⟨i, hi⟩ : ∃ i, i = l[k] := ⟨_, rfl⟩
      rw [← hi] at hc0 hc1 hc2 hc3
      have HI := Lib.hid hi
      clear hi
      have hnb : ¬ (u3 : Value).ownBlock = some b := fun e => by have := (HO.out.lt b e).1; omega
      have HNB := Lib.hid hnb
      clear hnb
      go_upto_region 5 with (fail)
      have hnb := HNB.out
      refine wp_region_3 (fun w2 => Kept (fun i => (u3 : Value).ownBlock = some i) wr w2) [(0, 2), (1, 2), (2, 2), (3, 2), (4, 2), (5, 1), (6, 2), (7, 2), (8, 2), (9, 2), (10, 1), (11, 2), (12, 2), (13, 2), (14, 2), (15, 1), (16, 2), (17, 2), (18, 2), (19, 2), (20, 1), (21, 2), (22, 0), (23, 0), (24, 2)] (by kernel_rfl) (by kernel_rfl) (by kernel_rfl) (by kernel_rfl) ?_; intro l' hl'; simp only [List.map_cons, List.map_nil, List.getD_cons_zero, List.getD_cons_succ] at hl'; subst hl'
      (repeat (first | ((apply w3_pure); (· go_simp); (· (intro w1; go_simp; try with_reducible rfl)); (intro K hK; go_simp; refine hK _ _ ?_; clear hK K)) | ((apply w3_skip); (· go_simp); (intro K hK; go_simp; refine hK _ _ ?_; clear hK K)) | ((apply w3_take); (· exact (Kept.drew (Kept.refl _ _))); (· go_simp); (· (intro w1 hS; have d0 := (Kept.cell hS (p := ⟨b, off + k * 4, none⟩) hlr hnb).trans hc0; have d1 := (Kept.cell hS (p := ⟨b, off + k * 4 + 1, none⟩) hlr hnb).trans hc1; have d2 := (Kept.cell hS (p := ⟨b, off + k * 4 + 2, none⟩) hlr hnb).trans hc2; have d3 := (Kept.cell hS (p := ⟨b, off + k * 4 + 3, none⟩) hlr hnb).trans hc3; have d4 := Nat.lt_of_lt_of_le hlr hS.size;  go_simp; try with_reducible rfl)); (intro K hK; go_simp; refine hK _ _ ?_; clear hK K)) | ((apply w3_pass); (· exact (Kept.drew (Kept.refl _ _))); (· go_simp); (intro K hK; go_simp; refine hK _ _ ?_; clear hK K))))
      have yW : Ext wr (wr.alloc (.cells i.cells 41)).drew := ((Kept.refl _ wr).alloc _).drew
      (refine w3_act (fun K hK => ?_); go_simp)
      refine hK.out _ _ (fun _ => Kept.ext yW) ?_
      clear hK K
      have hsz := hx.size
      obtain ⟨v2, w2, hr2, ho2, hk2⟩ := appI (wr.alloc (.cells i.cells 41)).drew w.heap.size u3 k (l.take k) ((HO.out.alloc _).drew) wr.heap.size 0 1 1 [i] rfl (by simpa [inss] using Row.of_blk (Blk.drew (Blk.new wr 41 i.cells))) (by omega) (by show _ ≤ (wr.alloc _).heap.size; simp; omega)
      have y2 : Kept (fun i => (u3 : Value).ownBlock = some i) wr w2 := (Kept.ext yW).trans hk2
      have HO2 := Lib.hid ho2
      clear ho2 hk2
      refine w3_act (fun K hK => ?_)
      refine iff_want rfl ?_
      refine Lib.wp_append_run _ _ _ _ _ rfl _ _ rfl rfl _ _ hr2 ?_
      refine hK.out _ _ (fun _ => y2) ?_
      clear hK K hr2
      (repeat (first | ((apply w3_pure); (· go_simp); (· (intro w1; go_simp; try with_reducible rfl)); (intro K hK; go_simp; refine hK _ _ ?_; clear hK K)) | ((apply w3_skip); (· go_simp); (intro K hK; go_simp; refine hK _ _ ?_; clear hK K)) | (refine w3_end (by kernel_rfl) (fun K hK => ?_); go_simp; refine hK.out _ _ ?_; clear hK K))); refine w3_nil ?_
      go_wp2_with fail
      go_roundw
      case rel => exact ⟨k + 1, hlt, by go_num, by rw [List.take_succ_eq_append_getElem hkl, ← HI.out]; exact HO2.out, hx.trans' y2 HOB.out⟩
      case measure => simp only [intOf]; omega
    · have HO' := HO.out
      clear HO
      go_wp2_with fail
      go_ret
      have e : k = n := by omega
      subst e
      rw [List.take_of_length_le (Nat.le_of_eq HN.out.symm)] at HO'
      exact ⟨_, rfl, HO', hx⟩
end Go.Proofs.YtahljceanodhkaaGreatDoor

/- Layers 15 and 23: Own, small, states. -/
namespace Go.Proofs.YtahljceanodhkaaGreatDoor
open Go.RowKit
set_option maxRecDepth 100000 in
set_option maxHeartbeats 2000000 in
theorem own_any (pc halt : Int) (b off cap : Nat) (m : List Int) (n : Nat) (hn : n = m.length) (h1 : 1 ≤ n) (h2 : n ≤ 4096) (w : World) (hr : Row w b off (mems m)) :
    Calls Tryz.prog 51 #[.agg (stCells pc (some ⟨b, off, none⟩) n cap halt)] w fun e w' => ∃ v, e = .returned v ∧ OwnsS w w' v n pc halt m := by
  have HN := Lib.hid hn
  have HR := Lib.hid hr
  clear hn hr
  have hx0 : Ext w _ := ((Kept.refl _ w).alloc (.cells (stCells pc (some ⟨b, off, none⟩) n cap halt) 61)).alloc (.cells (stCells 0 none 0 0 0) 70)
  have hA0 : Blk _ w.heap.size 61 (stCells pc (some ⟨b, off, none⟩) n cap halt) := Blk.alloc (Blk.new w _ _) (.cells (stCells 0 none 0 0 0) 70)
  have hR0 : Blk _ (w.heap.size + 1) 70 (stCells 0 none 0 0 0) := Blk.new' (w.alloc (.cells (stCells pc (some ⟨b, off, none⟩) n cap halt) 61)) _ _ _ (by simp)
  go_enter Tryz.func51, Tryz.ntmps51
  go_upto_region 1 with (fail)
  generalize ((w.alloc (.cells (stCells pc (some ⟨b, off, none⟩) n cap halt) 61)).alloc (.cells (stCells 0 none 0 0 0) 70)) = W at hx0 hA0 hR0 ⊢
  obtain ⟨sb, hsb⟩ : ∃ sb, sb = w.heap.size := ⟨_, rfl⟩
  rw [← hsb] at hA0 hR0 ⊢
  have HSB := Lib.hid hsb
  clear hsb
  have hrow := HR.out.ext hx0
  have hlR := hR0.lt
  refine wp_region_3 (fun w2 => Ext W w2) [(0, 2), (1, 1), (3, 2), (4, 1), (6, 2), (7, 1), (2, 0), (5, 0), (8, 2), (9, 0)] (by kernel_rfl) (by kernel_rfl) (by kernel_rfl) (by kernel_rfl) ?_; intro l' hl'; simp only [List.map_cons, List.map_nil, List.getD_cons_zero, List.getD_cons_succ] at hl'; subst hl'
  (repeat (first | ((apply w3_pure); (· go_simp); (· (intro w1; go_simp; try with_reducible rfl)); (intro K hK; go_simp; refine hK _ _ ?_; clear hK K)) | ((apply w3_skip); (· go_simp); (intro K hK; go_simp; refine hK _ _ ?_; clear hK K)) | ((apply w3_take); (· exact (Kept.drew (Kept.refl _ _))); (· go_simp); (· (intro w1 hS; have d1 := Blk.cell (Blk.ext hA0 hS); have d2 := (Blk.ext hA0 hS).lt;  go_simp; try with_reducible rfl)); (intro K hK; go_simp; refine hK _ _ ?_; clear hK K)) | ((apply w3_pass); (· exact (Kept.drew (Kept.refl _ _))); (· go_simp); (intro K hK; go_simp; refine hK _ _ ?_; clear hK K))))
  have yA : Ext W (W.alloc (.cells #[] 21)).drew := ((Kept.refl _ W).alloc _).drew
  (refine w3_act (fun K hK => ?_); go_simp)
  refine hK.out _ _ (fun _ => yA) ?_
  clear hK K
  have ho0 : (W.alloc (.cells #[] 21)).drew.ownsRow W.heap.size 21 1 (.slice (some ⟨W.heap.size, 0, none⟩) 0 0) 0 (mems []) := ⟨rfl, .inr ⟨W.heap.size, 0, #[], rfl, Nat.le_refl _, Blk.drew (Blk.new W 21 #[]), Nat.le_refl _, by unfold maxLen; omega, rfl, rfl⟩⟩
  obtain ⟨v2, w2, hr2, ho2, hk2⟩ := appM _ _ _ _ _ ho0 b off n cap m HN.out (hrow.ext yA) (by omega) yA.size
  have y2 : Ext W w2 := yA.trans' hk2 (fun i hi e => by simp [Value.ownBlock] at e; omega)
  rw [Nat.zero_add, List.nil_append] at ho2
  obtain ⟨g, c, rfl, _, hbg, _⟩ := own_rows ho2 h1 (by omega)
  have HO2 := Lib.hid ho2
  clear ho2 hk2 ho0
  (repeat (first | ((apply w3_pure); (· go_simp); (· (intro w1; go_simp; try with_reducible rfl)); (intro K hK; go_simp; refine hK _ _ ?_; clear hK K)) | ((apply w3_skip); (· go_simp); (intro K hK; go_simp; refine hK _ _ ?_; clear hK K))))
  refine w3_act (fun K hK => ?_)
  refine iff_want rfl ?_
  refine Lib.wp_append_run _ _ _ _ _ rfl _ _ rfl rfl _ _ hr2 ?_
  refine hK.out _ _ (fun _ => y2) ?_
  clear hK K hr2
  have hR2 := Blk.ext hR0 y2
  have i1 := Blk.has hR2
  have i2 := Blk.melts hR2
  have i3 := hR2.lt
  (repeat (first | ((apply w3_pure); (· go_simp); (· (intro w1; go_simp; try with_reducible rfl)); (intro K hK; go_simp; refine hK _ _ ?_; clear hK K)) | ((apply w3_skip); (· go_simp); (intro K hK; go_simp; refine hK _ _ ?_; clear hK K)) | (refine w3_end (by kernel_rfl) (fun K hK => ?_); go_simp; refine hK.out _ _ ?_; clear hK K))); refine w3_nil ?_
  go_wp2_with fail
  refine ret_cell Tryz.results51 rfl rfl aggMst (by exact sizeMst) (Blk.put_ hR2 _ _) ?_
  have kp : Kept (· = sb + 1) w2 (putAt w2 (sb + 1) 0 (stCells pc (some ⟨g, 0, none⟩) n c halt)) := Kept.putAt (Kept.refl _ w2) _ _ _ (fun _ => rfl)
  have hm : MemAt w2 W.heap.size g n c m := HO2.out
  have hsz := hx0.size
  have hs1 := HSB.out
  refine ⟨_, rfl, g, c, rfl, ?_, (hx0.trans y2).trans' kp (fun i hi e => by omega)⟩
  have := hm.kept kp (by omega)
  obtain ⟨e1, e2⟩ := this
  refine ⟨e1, e2.elim .inl (fun ⟨g', c', cur, q1, q2, q3⟩ => .inr ⟨g', c', cur, q1, by omega, q3⟩)⟩
abbrev courseC (A : Option Addr) (n cap : Nat) (pc : Int) (A' : Option Addr) (k cap' : Nat) (halt : Int) : Array Value := #[.slice A n cap, .int .i64 pc, .slice A' k cap', .int .i64 halt]
attribute [go_sem] courseC
def smallC (n k : Nat) (pc halt : Int) : Bool := decide (1 ≤ n) && decide (n ≤ 40) && decide (k ≤ 12) && rightS pc halt k
set_option maxRecDepth 100000 in
set_option maxHeartbeats 2000000 in
theorem small_any (A : Option Addr) (n cap : Nat) (pc : Int) (A' : Option Addr) (k cap' : Nat) (halt : Int) (w : World) :
    Calls Tryz.prog 48 #[.agg (courseC A n cap pc A' k cap' halt)] w fun e w' => e = .returned (.bool (smallC n k pc halt)) ∧ Ext w w' := by
  have hx0 : Ext w _ := (Kept.refl _ w).alloc (.cells (courseC A n cap pc A' k cap' halt) 99)
  by_cases hc : 1 ≤ n ∧ n ≤ 40 ∧ k ≤ 12
  · obtain ⟨h1, h2, h3⟩ := hc
    obtain ⟨R, hR⟩ : ∃ R, R = rightS pc halt k := ⟨_, rfl⟩
    have HR := Lib.hid hR
    clear hR
    go_enter Tryz.func48, Tryz.ntmps48
    go_wp2_with fail
    refine (rright_any pc halt A' k cap' _).mono ?_
    rintro e w1 ⟨e1, hx1⟩
    replace e1 : e = .returned (.bool R) := by rw [e1, HR.out]
    subst e1
    cases R
    all_goals
      go_wp2_with fail
      go_ret
      exact ⟨ret_bool (by simp [smallC, ← HR.out]; try omega), hx0.trans hx1⟩
  · have hn : smallC n k pc halt = false := by
      cases h : smallC n k pc halt
      · rfl
      · exact absurd (by simp [smallC] at h; omega) hc
    rw [hn]
    clear hn
    by_cases h1 : 1 ≤ n
    · by_cases h2 : n ≤ 40
      · have h3 : ¬ k ≤ 12 := fun h => hc ⟨h1, h2, h⟩
        clear hc
        go_enter Tryz.func48, Tryz.ntmps48
        go_wp2_with fail
        go_ret
        exact ⟨rfl, hx0⟩
      · clear hc
        go_enter Tryz.func48, Tryz.ntmps48
        go_wp2_with fail
        go_ret
        exact ⟨rfl, hx0⟩
    · clear hc
      go_enter Tryz.func48, Tryz.ntmps48
      go_wp2_with fail
      go_ret
      exact ⟨rfl, hx0⟩
end Go.Proofs.YtahljceanodhkaaGreatDoor

/- Layer 23's law: states of a course. -/
namespace Go.Proofs.YtahljceanodhkaaGreatDoor
open Go.RowKit
/-- the state behind so many steps -/
def trajI (c : List Ins) (r : Cfg) : Nat → Cfg
  | 0 => r
  | j + 1 => runI c (trajI c r j).1 (trajI c r j).2.1 (trajI c r j).2.2
theorem traj_okay {c : List Ins} {r : Cfg} (hc : c.length ≤ 2048) (h : Okay r.1 r.2.1 r.2.2) : ∀ j, Okay (trajI c r j).1 (trajI c r j).2.1 (trajI c r j).2.2 ∧ (trajI c r j).2.2.length = r.2.2.length
  | 0 => ⟨h, rfl⟩
  | j + 1 => by
    have ih := traj_okay hc h j
    have := run_okay hc ih.1
    exact ⟨this.1, this.2.trans ih.2⟩
/-- states handed back -/
def IsStates (w w' : World) (e : Ending) (n : Nat) (f : Nat → Cfg) : Prop :=
  ∃ v ss, e = .returned v ∧ w'.ownsRow w.heap.size 70 3 v n (rowsL Sm.cells ss) ∧ AllV StV w' ss ((List.range n).map f) ∧ Ext w w'
/-- what a course is in memory -/
structure CourseAt (w : World) (A : Option Addr) (b off n : Nat) (l : List Ins) (pc halt : Int) (b' off' k : Nat) (m : List Int) : Prop where
  at_ : A = some ⟨b, off, none⟩
  row : Row w b off (inss l)
  n_eq : n = l.length
  n1 : 1 ≤ n
  n2 : n ≤ 2048
  iok : ∀ i ∈ l, i.ok
  k_eq : k = m.length
  right : rightS pc halt k = true
  mok : ∀ z ∈ m, i32ok z
  mrow : Row w b' off' (mems m)
  ops : OpsAt w
theorem CourseAt.ext {w w' : World} {A : Option Addr} {b off n : Nat} {l : List Ins} {pc halt : Int} {b' off' k : Nat} {m : List Int} (h : CourseAt w A b off n l pc halt b' off' k m) (hx : Ext w w') : CourseAt w' A b off n l pc halt b' off' k m :=
  ⟨h.at_, h.row.ext hx, h.n_eq, h.n1, h.n2, h.iok, h.k_eq, h.right, h.mok, h.mrow.ext hx, h.ops.ext hx⟩
theorem CourseAt.okay {w : World} {A : Option Addr} {b off n : Nat} {l : List Ins} {pc halt : Int} {b' off' k : Nat} {m : List Int} (h : CourseAt w A b off n l pc halt b' off' k m) : Okay pc halt m := ⟨by rw [← h.k_eq]; exact h.right, h.mok⟩
set_option maxRecDepth 100000 in
set_option maxHeartbeats 4000000 in
theorem states_any (A : Option Addr) (b off n cap : Nat) (l : List Ins) (pc halt : Int) (b' off' k cap' : Nat) (m : List Int) (steps : Nat) (hs : steps ≤ 1000) (w : World) (hc : CourseAt w A b off n l pc halt b' off' k m) :
    Calls Tryz.prog 50 #[.agg (courseC A n cap pc (some ⟨b', off', none⟩) k cap' halt), .int .i64 steps] w fun e w' => IsStates w w' e (steps + 1) (trajI l (pc, halt, m)) := by
  obtain ⟨k1, k2, _⟩ := rightS_inv hc.right
  obtain rfl := hc.at_
  have n1 := hc.n1
  have n2 := hc.n2
  have hx0 : Ext w _ := (Kept.refl _ w).alloc (.cells (courseC (some ⟨b, off, none⟩) n cap pc (some ⟨b', off', none⟩) k cap' halt) 99)
  have hC0 := Blk.new w 99 (courseC (some ⟨b, off, none⟩) n cap pc (some ⟨b', off', none⟩) k cap' halt)
  have HC := Lib.hid hc
  have HOKT := Lib.hid (traj_okay (r := (pc, halt, m)) (by rw [← hc.n_eq]; exact n2) hc.okay)
  clear hc
  go_enter Tryz.func50, Tryz.ntmps50
  go_upto_region 1 with (fail)
  generalize (w.alloc (.cells (courseC (some ⟨b, off, none⟩) n cap pc (some ⟨b', off', none⟩) k cap' halt) 99)) = W at hx0 hC0 ⊢
  obtain ⟨cb, hcb⟩ : ∃ cb, cb = w.heap.size := ⟨_, rfl⟩
  rw [← hcb] at hC0 ⊢
  have hwc : w.heap.size ≤ cb := by omega
  clear hcb
  have i1 := Blk.has hC0
  have i2 := Blk.gets hC0
  have i3 := Blk.lt hC0
  go_wp2_with fail
  refine (own_any pc halt b' off' cap' m k HC.out.k_eq k1 (by omega) _ (HC.out.mrow.ext hx0)).mono ?_
  rintro e w1 ⟨v1, rfl, g1, c1, rfl, hm1, hx1⟩
  simp only [stCells]
  clear i1 i2
  go_upto_region 2 with (fail)
  have x2 : Ext W _ := hx1.alloc (.cells (Sm.cells ⟨pc, halt, g1, k, c1⟩) 70)
  have hb2 := Blk.new w1 70 (Sm.cells ⟨pc, halt, g1, k, c1⟩)
  have hm2 := hm1.ext ((Kept.refl _ w1).alloc (.cells (Sm.cells ⟨pc, halt, g1, k, c1⟩) 70))
  have hw1 := hx1.size
  generalize (w1.alloc (.cells (Sm.cells ⟨pc, halt, g1, k, c1⟩) 70)) = W2 at x2 hb2 hm2 ⊢
  have ho2 : W2.ownsRow w.heap.size 70 3 (.slice (some ⟨w1.heap.size, 0, none⟩) 1 1) (0 + 1) (rowsL Sm.cells [⟨pc, halt, g1, k, c1⟩]) := ⟨rfl, .inr ⟨w1.heap.size, 1, _, rfl, by omega, hb2, Nat.le_refl _, by unfold maxLen; omega, rfl, rfl⟩⟩
  have hv2 : AllV StV W2 [⟨pc, halt, g1, k, c1⟩] ((List.range (0 + 1)).map (trajI l (pc, halt, m))) := .cons ⟨rfl, rfl, HC.out.k_eq, _, hm2⟩ .nil
  generalize (Value.slice (some ⟨w1.heap.size, 0, none⟩) 1 1) = v2 at ho2 ⊢
  have HO := Lib.hid ho2
  have HV := Lib.hid hv2
  clear ho2 hv2 hm2 hb2 hm1 hx1 hw1
  go_wp2_with fail
  go_loopw [5, 6] (fun t5 t6 wr => ∃ (j : Nat) (ss : List Sm), j ≤ steps ∧ t6 = .int .i64 j ∧ wr.ownsRow w.heap.size 70 3 t5 (j + 1) (rowsL Sm.cells ss) ∧ AllV StV wr ss ((List.range (j + 1)).map (trajI l (pc, halt, m))) ∧ Ext w wr ∧ Blk wr cb 99 (courseC (some ⟨b, off, none⟩) n cap pc (some ⟨b', off', none⟩) k cap' halt)) (fun _ t6 _ => steps - (intOf t6).toNat)
  case atStart => exact ⟨0, _, Nat.zero_le _, rfl, HO.out, HV.out, hx0.trans x2, Blk.ext hC0 x2⟩
  case round =>
    obtain ⟨j, ss, hj, rfl, ho, hv, hx, hC⟩ := hrel
    clear HO HV
    have HO := Lib.hid ho
    have HV := Lib.hid hv
    clear ho hv
    by_cases hlt : j < steps
    · obtain ⟨g, c, hu5, hrow, hbg, hty⟩ := own_rows HO.out (by omega) (by omega)
      subst hu5
      have hlen := HV.out.len
      simp only [List.length_map, List.length_range] at hlen
      obtain ⟨hrh, hrg⟩ := rowsL_row sm_size hrow j (by omega)
      have hsv := HV.out.get j (by omega) (by simp)
      simp only [List.getElem_map, List.getElem_range] at hsv
      obtain ⟨s, hse⟩ : ∃ s, s = ss[j] := ⟨_, rfl⟩
      rw [← hse] at hrg hsv
      obtain ⟨hpc, hha, hsn, base, hsm⟩ := hsv
      obtain ⟨hok, hokl⟩ := HOKT.out j
      obtain ⟨r, hr⟩ : ∃ r, r = trajI l (pc, halt, m) j := ⟨_, rfl⟩
      rw [← hr] at hpc hha hsn hsm hok hokl
      obtain ⟨rpc, rha, rm⟩ := r
      obtain ⟨spc, sha, sg, sn, sc⟩ := s
      simp only at hpc hha hsn hsm hok hokl hrg
      subst hpc hha
      have HR := Lib.hid hr
      have HSM := Lib.hid hsm
      have HSN := Lib.hid hsn
      have HOKJ := Lib.hid hok
      have HLEN := Lib.hid hlen
      have hgl := hrow.lt
      clear hr hse hsm hsn hok hokl hlen hrow hty
      simp only [Nat.zero_add] at hrh hrg
      have hltI : (j : Int) < steps := by omega
      have hjI : (j : Int) < (j : Int) + 1 := by omega
      have hj0 : (0 : Int) ≤ j := by omega
      go_upto_region 5 with (fail)
      refine wp_region_3 (fun w2 => Ext wr w2) [(0, 2), (1, 2), (2, 1), (4, 2), (5, 2), (6, 2), (7, 1), (3, 0), (8, 0), (9, 0), (10, 0), (11, 2)] (by kernel_rfl) (by kernel_rfl) (by kernel_rfl) (by kernel_rfl) ?_; intro l' hl'; simp only [List.map_cons, List.map_nil, List.getD_cons_zero, List.getD_cons_succ] at hl'; subst hl'
      (repeat (first | ((apply w3_pure); (· go_simp); (· (intro w1; go_simp; try with_reducible rfl)); (intro K hK; go_simp; refine hK _ _ ?_; clear hK K)) | ((apply w3_skip); (· go_simp); (intro K hK; go_simp; refine hK _ _ ?_; clear hK K)) | ((apply w3_take); (· exact (Kept.drew (Kept.refl _ _))); (· go_simp); (· (intro w1 hS; have d1 := Blk.cell (Blk.ext hC hS); have d2 := (Blk.ext hC hS).lt; have d3 := has_ext hS hgl hrh; have d4 := gets_ext hS hgl hrg; have d5 := Nat.lt_of_lt_of_le hgl hS.size;  go_simp; try with_reducible rfl)); (intro K hK; go_simp; refine hK _ _ ?_; clear hK K)) | ((apply w3_pass); (· exact (Kept.drew (Kept.refl _ _))); (· go_simp); (intro K hK; go_simp; refine hK _ _ ?_; clear hK K))))
      have yW : Ext wr wr.drew := (Kept.refl _ wr).drew
      (refine w3_act (fun K hK => ?_); go_simp)
      go_wp2_with fail
      refine (owncode_any (some ⟨b, off, none⟩) b off cap l n HC.out.n_eq (by omega) (fun _ => rfl) _ (fun _ => HC.out.row.ext (hx.trans yW))).mono ?_
      rintro e w3 ⟨v3, rfl, ho3, hx3⟩
      have y3 : Ext wr w3 := yW.trans hx3
      obtain ⟨A3, g3, c3, rfl, q1, q2, -⟩ := own_I ho3
      refine hK.out _ _ (fun _ => y3) ?_
      clear hK K ho3
      have hpre : RunPre w3 A3 g3 0 n l sg 0 sn spc sha rm := ⟨HC.out.ops.ext (hx.trans y3), q1, q2, HC.out.n_eq, n2, HSN.out, by rw [HSN.out]; exact HOKJ.out.right, HOKJ.out.mok, by simpa using (HSM.out.ext y3).row⟩
      have hms := mstep_any A3 g3 0 n c3 l spc sha sg 0 sn sc rm w3 hpre
      have HMS := Lib.hid hms
      have HOKN := Lib.hid (run_okay (by rw [← HC.out.n_eq]; exact n2) HOKJ.out)
      clear hms hpre q1 q2
      obtain ⟨r', hr'⟩ : ∃ r', r' = runI l spc sha rm := ⟨_, rfl⟩
      rw [← hr'] at HMS HOKN
      have htr : trajI l (pc, halt, m) (j + 1) = r' := by
        rw [hr', trajI, ← HR.out]
      have HTR := Lib.hid htr
      clear hr' htr
      obtain ⟨pc', ha', m'⟩ := r'
      (repeat (first | ((apply w3_pure); (· go_simp); (· (intro w1; go_simp; try with_reducible rfl)); (intro K hK; go_simp; refine hK _ _ ?_; clear hK K)) | ((apply w3_skip); (· go_simp); (intro K hK; go_simp; refine hK _ _ ?_; clear hK K))))
      (refine w3_act (fun K hK => ?_); go_simp)
      go_wp2_with fail
      with_reducible refine HMS.out.mono ?_
      rintro e w4 ⟨v4, rfl, g4, c4, rfl, hm4, hx4⟩
      have y4 : Ext wr w4 := y3.trans hx4
      simp only [stCells]
      refine hK.out _ _ (fun _ => y4) ?_
      clear hK K HMS
      (repeat (first | ((apply w3_pure); (· go_simp); (· (intro w1; go_simp; try with_reducible rfl)); (intro K hK; go_simp; refine hK _ _ ?_; clear hK K)) | ((apply w3_skip); (· go_simp); (intro K hK; go_simp; refine hK _ _ ?_; clear hK K))))
      (refine w3_act (fun K hK => ?_); go_simp)
      have y5 : Ext wr (w4.alloc (.cells (Sm.cells ⟨pc', ha', g4, sn, c4⟩) 70)) := y4.alloc _
      refine hK.out _ _ (fun _ => y5) ?_
      clear hK K
      have hsz := hx.size
      have hsz4 := y4.size
      have hs5 : AllV StV (w4.alloc (.cells (Sm.cells ⟨pc', ha', g4, sn, c4⟩) 70)) (ss ++ [⟨pc', ha', g4, sn, c4⟩]) ((List.range (j + 1 + 1)).map (trajI l (pc, halt, m))) := by
        rw [List.range_succ, List.map_append]
        refine (HV.out.mono (fun a b h => h.ext y5)).snoc ?_
        show StV _ _ (trajI l (pc, halt, m) (j + 1))
        rw [HTR.out]
        exact ⟨rfl, rfl, by have := HOKN.out.2; simp only at this ⊢; rw [this]; exact HSN.out, _, hm4.ext ((Kept.refl _ w4).alloc _)⟩
      obtain ⟨v6, w6, hr6, ho6, hk6⟩ := appSt (w4.alloc (.cells (Sm.cells ⟨pc', ha', g4, sn, c4⟩) 70)) w.heap.size (.slice (some ⟨g, 0, none⟩) (j + 1) c) (j + 1) ss (own_ext HO.out y5) w4.heap.size 0 1 1 [⟨pc', ha', g4, sn, c4⟩] rfl (by rw [rowsL_one]; exact Row.of_blk (Blk.new w4 70 (Sm.cells ⟨pc', ha', g4, sn, c4⟩))) (by omega) (by simp; omega)
      have hnt := own_other (own_ext HO.out y5) (E' := 21) (by decide)
      have hv6 := hs5.mono (fun a b h => h.kept hk6 hnt)
      have hob : ∀ i, i < w.heap.size → (Value.slice (some ⟨g, 0, none⟩) (j + 1) c).ownBlock = some i → False := fun i hi e => by simp [Value.ownBlock] at e; omega
      have hC6 := Blk.kept (Blk.ext hC y5) hk6 (fun e => by
        obtain ⟨cur, hcur⟩ := own_ty (own_ext HO.out y5) e
        have := Blk.ext hC y5
        unfold Blk at this
        rw [this] at hcur
        injection hcur with hcur
        injection hcur with _ e2 _
        exact absurd e2 (by decide))
      have x6 := (hx.trans y5).trans' hk6 hob
      have HO6 := Lib.hid ho6
      have HV6 := Lib.hid hv6
      clear ho6 hv6 hs5 hnt hk6 hob
      refine w3_end (by kernel_rfl) (fun K hK => ?_)
      refine iff_want rfl ?_
      refine Lib.wp_append_run _ _ _ _ _ rfl _ _ rfl rfl _ _ hr6 ?_
      refine hK.out _ _ ?_
      clear hK K hr6
      (repeat (first | ((apply w3_pure); (· go_simp); (· (intro w1; go_simp; try with_reducible rfl)); (intro K hK; go_simp; refine hK _ _ ?_; clear hK K)) | ((apply w3_skip); (· go_simp); (intro K hK; go_simp; refine hK _ _ ?_; clear hK K)) | (refine w3_end (by kernel_rfl) (fun K hK => ?_); go_simp; refine hK.out _ _ ?_; clear hK K))); refine w3_nil ?_
      go_wp2_with fail
      go_roundw
      case rel => exact ⟨j + 1, _, hlt, by go_num, HO6.out, HV6.out, x6, hC6⟩
      case measure => simp only [intOf]; omega
    · have ej : j = steps := by omega
      subst ej
      have hlt' : ¬ (j : Int) < j := by omega
      go_wp2_with fail
      go_ret
      exact ⟨_, ss, rfl, HO.out, HV.out, hx⟩
end Go.Proofs.YtahljceanodhkaaGreatDoor

/- Package tree: Set. -/
namespace Go.Proofs.YtahljceanodhkaaGreatDoor
open Go.RowKit
theorem take_splice (c vs : List Value) (o N : Nat) (h : o + vs.length ≤ N) (hN : N ≤ c.length) : (c.take o ++ vs ++ c.drop (o + vs.length)).take N = (c.take N).take o ++ vs ++ (c.take N).drop (o + vs.length) := by
  rw [List.take_append, List.take_of_length_le (by simp; omega)]
  rw [List.take_take, Nat.min_eq_left (by omega), List.drop_take]
  congr 2
  simp
  omega
theorem own_putD {w : World} {base n cg cc : Nat} {l : List Dg} (h : w.ownsRow base 30 8 (.slice (some ⟨cg, 0, none⟩) n cc) n (digs l)) (i : Nat) (hi : i < l.length) (d : Dg) :
    (putAt w cg (i * 8) d.cells).ownsRow base 30 8 (.slice (some ⟨cg, 0, none⟩) n cc) n (digs (l.set i d)) := by
  have hl := h.1
  rw [digs_length] at hl
  refine ⟨by rw [digs_length, List.length_set]; exact hl, ?_⟩
  rcases h.2 with ⟨hv, _⟩ | ⟨g', c', cur, hv, hb, hc, hnc, hcm, hcs, htk⟩
  · simp at hv
  · simp at hv
    obtain ⟨rfl, rfl⟩ := hv
    have hsz : (d.cells : Array Value).size = 8 := rfl
    have hfit : i * 8 + 8 ≤ n * 8 := by omega
    have hfit2 : n * 8 ≤ cur.size := by omega
    refine .inr ⟨cg, cc, splice cur (i * 8) d.cells, rfl, hb, putAt_heap_same hc, hnc, hcm, ?_, ?_⟩
    · rw [splice_size (by rw [hsz]; omega)]; exact hcs
    · show (cur.toList.take (i * 8) ++ d.cells.toList ++ cur.toList.drop (i * 8 + d.cells.toList.length)).take (n * 8) = _
      rw [take_splice cur.toList d.cells.toList (i * 8) (n * 8) (by simp; omega) (by simpa using hfit2), htk]
      exact digs_set_list l i hi d
theorem own_hasD {w : World} {base n cg cc : Nat} {l : List Dg} (h : w.ownsRow base 30 8 (.slice (some ⟨cg, 0, none⟩) n cc) n (digs l)) (i : Nat) (hi : i < n) : Proofs.YtahljceanodhkaaGreatDoor.has w cg (i * 8) 8 = true ∧ melts w cg = true ∧ cg < w.heap.size := by
  rcases h.2 with ⟨hv, _⟩ | ⟨g', c', cur, hv, hb, hc, hnc, hcm, hcs, htk⟩
  · simp at hv
  · simp at hv
    obtain ⟨rfl, rfl⟩ := hv
    refine ⟨?_, ?_, (Array.getElem?_eq_some_iff.1 hc).1⟩
    · unfold Proofs.YtahljceanodhkaaGreatDoor.has; rw [hc]; simp; omega
    · unfold melts; rw [hc]; rfl
/-- the levels of a tree that is being changed: up to v they are the new ones -/
def mixL (l l' : List Dg) (H : Nat) (v : Nat) (u : Nat) : List Dg := if u < v then lev l' H u else lev l H u
theorem mix_zero (l l' : List Dg) (H u : Nat) : mixL l l' H 0 u = lev l H u := by simp [mixL]
theorem mix_all (l l' : List Dg) (H u : Nat) (h : u ≤ H) : mixL l l' H (H + 1) u = lev l' H u := by unfold mixL; rw [if_pos (by omega)]
theorem lev_set_at (l : List Dg) (i : Nat) (d : Dg) (H v : Nat) (x : Dg) (hx : nodeT (l.set i d) v (i / 2 ^ v) = x) : (lev l H v).set (i / 2 ^ v) x = lev (l.set i d) H v := by
  apply List.ext_getElem
  · simp [lev]
  · intro j h1 h2
    simp [lev] at h1 ⊢
    rw [List.getElem_set]
    by_cases e : i / 2 ^ v = j
    · rw [if_pos e, ← e, hx]
    · rw [if_neg e]
      simp
      exact (nodeT_set l i d v j (fun q => e q.symm)).symm
/-- a tree in memory with levels as said -/
structure LvX (w : World) (base p cg cc : Nat) (f : Nat → Value) (G : Nat → Nat) (l : List Dg) (H : Nat) (L : Nat → List Dg) : Prop where
  blk : TreeB w p f
  f0 : f 0 = .slice (some ⟨cg, 0, none⟩) l.length cc
  own : w.ownsRow base 30 8 (.slice (some ⟨cg, 0, none⟩) l.length cc) l.length (digs l)
  fl : ∀ u, u ≤ H → f (1 + u) = .slice (some ⟨G u, 0, none⟩) (2 ^ (H - u)) (2 ^ (H - u))
  lv : ∀ u, u ≤ H → Blk w (G u) 30 (digs (L u)).toArray
  inj : ∀ u u', u ≤ H → u' ≤ H → G u = G u' → u = u'
  far : ∀ u, u ≤ H → base ≤ G u ∧ ¬ G u = p ∧ ¬ G u = cg
  bp : base ≤ p
  pc : ¬ p = cg
section
variable {w w' : World} {base p cg cc : Nat} {f : Nat → Value} {G : Nat → Nat} {l : List Dg} {H : Nat} {L : Nat → List Dg}
theorem Lv.toX (h : Lv w base p cg cc f G l H H) : LvX w base p cg cc f G l H (lev l H) := ⟨h.blk, h.f0, h.own, h.fl, h.lv, h.inj, h.far, h.bp, h.pc⟩
theorem LvX.toL (h : LvX w base p cg cc f G l H L) (hL : ∀ u, u ≤ H → L u = lev l H u) : Lv w base p cg cc f G l H H := ⟨h.blk, h.f0, h.own, h.fl, fun u hu => by rw [← hL u hu]; exact h.lv u hu, h.inj, h.far, h.bp, h.pc⟩
theorem LvX.ext (h : LvX w base p cg cc f G l H L) (hx : Ext w w') : LvX w' base p cg cc f G l H L :=
  ⟨h.blk.ext hx, h.f0, own_ext h.own hx, h.fl, fun u hu => Blk.ext (h.lv u hu) hx, h.inj, h.far, h.bp, h.pc⟩
/-- a level's own block is written -/
theorem LvX.level (h : LvX w base p cg cc f G l H L) (v : Nat) (hv : v ≤ H) (hk : Kept (· = G v) w w') (x : List Dg) (hb : Blk w' (G v) 30 (digs x).toArray) : LvX w' base p cg cc f G l H (fun u => if u = v then x else L u) := by
  have hf := h.far v hv
  refine ⟨Blk.kept h.blk hk (fun e => hf.2.1 e.symm), h.f0, own_kept h.own hk (fun g hg e => ?_), h.fl, fun u hu => ?_, h.inj, h.far, h.bp, h.pc⟩
  · simp [Value.ownBlock] at hg
    exact hf.2.2 (by omega)
  · by_cases e : u = v
    · subst e; simp only [if_true]; exact hb
    · simp only [if_neg e]
      exact Blk.kept (h.lv u hu) hk (fun q => e (h.inj u v hu hv q))
/-- a leaf is written -/
theorem LvX.leaf (h : LvX w base p cg cc f G l H L) (i : Nat) (hi : i < l.length) (d : Dg) : LvX (putAt w cg (i * 8) d.cells) base p cg cc f G (l.set i d) H L := by
  have hk : Kept (· = cg) w (putAt w cg (i * 8) d.cells) := Kept.putAt (Kept.refl _ w) _ _ _ (fun _ => rfl)
  refine ⟨Blk.kept h.blk hk h.pc, by rw [List.length_set]; exact h.f0, by rw [List.length_set]; exact own_putD h.own i hi d, h.fl, fun u hu => Blk.kept (h.lv u hu) hk (h.far u hu).2.2, h.inj, h.far, h.bp, h.pc⟩
theorem LvX.cong {L' : Nat → List Dg} (h : LvX w base p cg cc f G l H L) (e : ∀ u, u ≤ H → L u = L' u) : LvX w base p cg cc f G l H L' :=
  ⟨h.blk, h.f0, h.own, h.fl, fun u hu => by rw [← e u hu]; exact h.lv u hu, h.inj, h.far, h.bp, h.pc⟩
end
/-- a tree whose blocks lie between two numbers -/
def TreeIn (w : World) (base top p : Nat) (l : List Dg) : Prop := p < top ∧ ∃ cg cc f G, Lv w base p cg cc f G l (hgt l.length) (hgt l.length) ∧ cg < top ∧ ∀ u, u ≤ hgt l.length → G u < top
theorem TreeIn.of {w : World} {base p : Nat} {l : List Dg} (h : TreeOK w base p l) : TreeIn w base w.heap.size p l := by
  obtain ⟨cg, cc, f, G, h⟩ := h
  exact ⟨h.blk.lt, cg, cc, f, G, h, h.cgl, fun u hu => (h.lv u hu).lt⟩
theorem TreeIn.ok {w : World} {base top p : Nat} {l : List Dg} (h : TreeIn w base top p l) : TreeOK w base p l := by
  obtain ⟨_, cg, cc, f, G, h, _⟩ := h
  exact ⟨cg, cc, f, G, h⟩
theorem TreeIn.ext {w w' : World} {base top p : Nat} {l : List Dg} (h : TreeIn w base top p l) (hx : Ext w w') : TreeIn w' base top p l := by
  obtain ⟨h0, cg, cc, f, G, h, h1, h2⟩ := h
  exact ⟨h0, cg, cc, f, G, h.ext hx, h1, h2⟩
theorem Lv.kept {S : Nat → Prop} {w w' : World} {base p cg cc : Nat} {f : Nat → Value} {G : Nat → Nat} {l : List Dg} {H v : Nat} (h : Lv w base p cg cc f G l H v) (hx : Kept S w w') (hp : ¬ S p) (hc : ¬ S cg) (hG : ∀ u, u ≤ v → ¬ S (G u)) : Lv w' base p cg cc f G l H v :=
  ⟨Blk.kept h.blk hx hp, h.f0, own_kept h.own hx (fun g hg => by simp [Value.ownBlock] at hg; subst hg; exact hc), h.fl, fun u hu => Blk.kept (h.lv u hu) hx (hG u hu), h.inj, h.far, h.bp, h.pc⟩
/-- what is written lies elsewhere -/
theorem TreeIn.kept {S : Nat → Prop} {w w' : World} {base top p : Nat} {l : List Dg} (h : TreeIn w base top p l) (hx : Kept S w w') (hs : ∀ i, S i → top ≤ i) : TreeIn w' base top p l := by
  obtain ⟨h0, cg, cc, f, G, h, h1, h2⟩ := h
  exact ⟨h0, cg, cc, f, G, h.kept hx (fun q => by have := hs _ q; omega) (fun q => by have := hs _ q; omega) (fun u hu q => by have := hs _ q; have := h2 u hu; omega), h1, h2⟩
/-- what is written lies elsewhere, ahead of it or behind it -/
theorem TreeIn.apart {S : Nat → Prop} {w w' : World} {base top p : Nat} {l : List Dg} (h : TreeIn w base top p l) (hx : Kept S w w') (hs : ∀ i, S i → i < base ∨ top ≤ i) : TreeIn w' base top p l := by
  obtain ⟨h0, cg, cc, f, G, h, h1, h2⟩ := h
  have hcb : base ≤ cg := by
    rcases h.own.2 with ⟨hv, _⟩ | ⟨g', c', cur, hv, hb, _⟩
    · simp at hv
    · simp at hv; omega
  have hpb := h.bp
  exact ⟨h0, cg, cc, f, G, h.kept hx (fun q => by have := hs _ q; omega) (fun q => by have := hs _ q; omega) (fun u hu q => by have := hs _ q; have := h2 u hu; have := (h.far u hu).1; omega), h1, h2⟩
def SetDone (w w' : World) (e : Ending) (base top p : Nat) (l : List Dg) : Prop := e = .returned (.int .i64 0) ∧ TreeIn w' base top p l ∧ Kept (fun j => base ≤ j ∧ j < top) w w'
set_option maxRecDepth 100000 in
set_option maxHeartbeats 4000000 in
theorem tset_ok (base top p : Nat) (l : List Dg) (i : Nat) (d : Dg) (hd : d.ok) (w : World) (h1 : 1 ≤ l.length) (h2 : l.length ≤ 4096) (hi : i < l.length) (h : TreeIn w base top p l) :
    Calls Tryz.prog 86 #[.pointer (some ⟨p, 0, none⟩), .int .i64 i, .agg #[.int .u8 d.x0, .int .u8 d.x1, .int .u8 d.x2, .int .u8 d.x3, .int .u8 d.x4, .int .u8 d.x5, .int .u8 d.x6, .int .u8 d.x7]] w fun e w' => SetDone w w' e base top p (l.set i d) := by
  obtain ⟨hpt, cg, cc, f, G, h, hct, hGt⟩ := h
  have hb := hgt_bd l.length h1 h2
  obtain ⟨H, hH⟩ : ∃ H, H = hgt l.length := ⟨_, rfl⟩
  rw [← hH] at hb h hGt
  obtain ⟨hH12, hnH⟩ := hb
  have HP : Hid (i < 2 ^ H) := Lib.hid (by omega)
  have x0 : Ext w _ := (Kept.refl _ w).alloc (.cells d.cells 30)
  have hD0 := Blk.new w 30 d.cells
  have hX0 := h.toX.ext x0
  have hdw : ¬ w.heap.size = cg := by have := h.cgl; omega
  have hcc := hX0.blk.cell 0 (by omega)
  rw [hX0.f0] at hcc
  have hc1 := hX0.blk.cell 1 (by omega)
  have e1 := hX0.fl 0 (Nat.zero_le _)
  simp only [Nat.add_zero, Nat.sub_zero] at e1
  rw [e1] at hc1
  obtain ⟨n, hn⟩ : ∃ n, n = l.length := ⟨_, rfl⟩
  obtain ⟨N, hN⟩ : ∃ N, N = 2 ^ H := ⟨_, rfl⟩
  rw [← hn] at hcc h1 h2 hi hH
  rw [← hN] at hc1
  have hiN : i < N := by rw [hN]; exact HP.out
  have bhas : (decide ((0 : Int) ≤ i) && decide ((i : Int) < n)) = true := by simp; omega
  obtain ⟨ch, cm, cl⟩ := own_hasD hX0.own i (by omega)
  have hpl := hX0.blk.lt
  have hX1 := hX0.leaf i (by omega) d
  have hpc := h.pc
  have hcb : base ≤ cg := by
    rcases h.own.2 with ⟨hv, _⟩ | ⟨g', c', cur, hv, hb, _⟩
    · simp at hv
    · simp at hv; omega
  have HB := Lib.hid bhas
  have HN := Lib.hid hn
  have HNN := Lib.hid hN
  have HH := Lib.hid hH
  have HX0 := Lib.hid hX0
  have HX1 := Lib.hid hX1
  have HGT := Lib.hid hGt
  have HD := Lib.hid hd
  have HFAR := Lib.hid h.far
  have hdl : w.heap.size < top ∨ top ≤ w.heap.size := by omega
  have hin : (i : Int) < n := by omega
  have hiNI : (i : Int) < N := by omega
  have hi0 : (0 : Int) ≤ i := by omega
  clear bhas hn hN hH hX0 hX1 hGt hd h hnH e1 hdl
  go_enter Tryz.func86, Tryz.ntmps86
  go_upto_region 3 with (fail)
  generalize (w.alloc (.cells d.cells 30)) = W at x0 hD0 hcc hc1 ch cm cl hpl HX0 HX1 ⊢
  obtain ⟨q, hq⟩ : ∃ q, q = w.heap.size := ⟨_, rfl⟩
  rw [← hq] at hD0 hdw ⊢
  have HQ := Lib.hid hq
  clear hq
  go_wp2_with fail
  refine (thas_any p n cc _ i _ hcc).mono ?_
  rintro e w1 ⟨rfl, rfl⟩
  rw [HB.out]
  go_upto_region 5 with (fail)
  refine wp_region_3 (fun w2 => Ext W w2) [(0, 2), (1, 2), (2, 2), (3, 1), (4, 2), (5, 1), (6, 2), (7, 0)] (by kernel_rfl) (by kernel_rfl) (by kernel_rfl) (by kernel_rfl) ?_; intro l' hl'; simp only [List.map_cons, List.map_nil, List.getD_cons_zero, List.getD_cons_succ] at hl'; subst hl'
  (repeat (first | ((apply w3_pure); (· go_simp); (· (intro w1; go_simp; try with_reducible rfl)); (intro K hK; go_simp; refine hK _ _ ?_; clear hK K)) | ((apply w3_skip); (· go_simp); (intro K hK; go_simp; refine hK _ _ ?_; clear hK K)) | ((apply w3_take); (· exact (Kept.drew (Kept.refl _ _))); (· go_simp); (· (intro w1 hS; have d1 := (Kept.cell hS (p := ⟨p, 0, none⟩) hpl (fun f => f)).trans hcc; have d2 := Nat.lt_of_lt_of_le hpl hS.size; have d3 := Blk.has (Blk.ext hD0 hS); have d4 := Blk.gets (Blk.ext hD0 hS); have d5 := (Blk.ext hD0 hS).lt;  go_simp; try with_reducible rfl)); (intro K hK; go_simp; refine hK _ _ ?_; clear hK K)) | ((apply w3_pass); (· exact (Kept.drew (Kept.refl _ _))); (· go_simp); (intro K hK; go_simp; refine hK _ _ ?_; clear hK K))))
  (repeat (first | ((apply w3_pure); (· go_simp); (· (intro w1; go_simp; try with_reducible rfl)); (intro K hK; go_simp; refine hK _ _ ?_; clear hK K)) | ((apply w3_skip); (· go_simp); (intro K hK; go_simp; refine hK _ _ ?_; clear hK K)) | (refine w3_end (by kernel_rfl) (fun K hK => ?_); go_simp; refine hK.out _ _ ?_; clear hK K))); refine w3_nil ?_
  have kx : Kept (· = cg) W (putAt W cg (i * 8) d.cells).drew := (Kept.putAt (Kept.refl (· = cg) W) cg _ _ (fun _ => rfl)).drew
  have hX1 : LvX (putAt W cg (i * 8) d.cells).drew base p cg cc f G (l.set i d) H (lev l H) := HX1.out.ext ((Kept.refl _ _).drew)
  have hD1 := Blk.kept hD0 kx hdw
  have k1 : Kept (fun j => base ≤ j ∧ j < top) w (putAt W cg (i * 8) d.cells).drew := (Kept.ext x0).trans' kx (fun j _ e => by omega)
  generalize (putAt W cg (i * 8) d.cells).drew = W1 at kx hX1 hD1 k1 ⊢
  clear hcc hc1 ch cm cl hpl HX0 HX1 kx hD0 x0
  have hc1 := hX1.blk.cell 1 (by omega)
  have e1 := hX1.fl 0 (Nat.zero_le _)
  simp only [Nat.add_zero, Nat.sub_zero] at e1
  rw [e1, ← HNN.out] at hc1
  have hcc := hX1.blk.cell 0 (by omega)
  rw [hX1.f0, List.length_set, ← HN.out] at hcc
  have hpl := hX1.blk.lt
  have hB := hX1.lv 0 (Nat.zero_le _)
  have HX1 := Lib.hid hX1
  have HCC := Lib.hid hcc
  clear hX1 e1 hcc
  obtain ⟨g0, hg0⟩ : ∃ g0, g0 = G 0 := ⟨_, rfl⟩
  rw [← hg0] at hc1 hB
  have HG0 := Lib.hid hg0
  clear hg0
  go_upto_region 6 with (fail)
  refine wp_region_3 (fun w2 => Ext W1 w2) [(0, 2), (1, 2), (2, 2), (3, 2), (4, 1), (5, 2), (6, 1), (7, 0), (8, 2), (9, 0)] (by kernel_rfl) (by kernel_rfl) (by kernel_rfl) (by kernel_rfl) ?_; intro l' hl'; simp only [List.map_cons, List.map_nil, List.getD_cons_zero, List.getD_cons_succ] at hl'; subst hl'
  (repeat (first | ((apply w3_pure); (· go_simp); (· (intro w1; go_simp; try with_reducible rfl)); (intro K hK; go_simp; refine hK _ _ ?_; clear hK K)) | ((apply w3_skip); (· go_simp); (intro K hK; go_simp; refine hK _ _ ?_; clear hK K)) | ((apply w3_take); (· exact (Kept.drew (Kept.refl _ _))); (· go_simp); (· (intro w1 hS; have d1 := (Kept.cell hS (p := ⟨p, 1, none⟩) hpl (fun f => f)).trans hc1; have d2 := Nat.lt_of_lt_of_le hpl hS.size; have d3 := Blk.has (Blk.ext hD1 hS); have d4 := Blk.gets (Blk.ext hD1 hS); have d5 := (Blk.ext hD1 hS).lt;  go_simp; try with_reducible rfl)); (intro K hK; go_simp; refine hK _ _ ?_; clear hK K)) | ((apply w3_pass); (· exact (Kept.drew (Kept.refl _ _))); (· go_simp); (intro K hK; go_simp; refine hK _ _ ?_; clear hK K))))
  (refine w3_act (fun K hK => ?_); go_simp)
  go_wp2_with fail
  refine (low_any d HD.out _).mono ?_
  rintro e w2 ⟨e2, hx2⟩
  obtain ⟨V, hV⟩ : ∃ V, V = hLow d := ⟨_, rfl⟩
  rw [← hV] at e2
  subst e2
  have HV := Lib.hid hV
  clear hV
  have y2 : Ext W1 w2 := ((Kept.refl _ W1).drew).trans hx2
  refine hK.out _ _ (fun _ => y2) ?_
  clear hK K
  have hkM : i * 8 + 8 ≤ (digs (lev l H 0)).length := by rw [digs_length, lev_len, Nat.sub_zero, ← HNN.out]; omega
  have hB2 := Blk.ext hB y2
  have hh2 := Blk.has hB2 (i * 8) 8
  rw [decide_eq_true (by simpa using hkM)] at hh2
  have hm2 := Blk.melts hB2
  have hl2 := hB2.lt
  have hB3 := Blk.put_ hB2 (i * 8) V.cells
  have hset := lev_set_at l i d H 0 V (by simp [nodeT, HV.out, show i < l.length by have := HN.out; omega])
  simp only [Nat.pow_zero, Nat.div_one] at hset
  rw [digs_set _ i (by rw [lev_len, Nat.sub_zero, ← HNN.out]; exact hiN) V, hset] at hB3
  have HB3 := Lib.hid hB3
  clear hB3 hset hB hc1
  (repeat (first | ((apply w3_pure); (· go_simp); (· (intro w1; go_simp; try with_reducible rfl)); (intro K hK; go_simp; refine hK _ _ ?_; clear hK K)) | ((apply w3_skip); (· go_simp); (intro K hK; go_simp; refine hK _ _ ?_; clear hK K))))
  (repeat (first | ((apply w3_pure); (· go_simp); (· (intro w1; go_simp; try with_reducible rfl)); (intro K hK; go_simp; refine hK _ _ ?_; clear hK K)) | ((apply w3_skip); (· go_simp); (intro K hK; go_simp; refine hK _ _ ?_; clear hK K)) | (refine w3_end (by kernel_rfl) (fun K hK => ?_); go_simp; refine hK.out _ _ ?_; clear hK K))); refine w3_nil ?_
  have k3 : Kept (· = G 0) w2 (putAt w2 g0 (i * 8) V.cells) := Kept.putAt (Kept.refl _ w2) _ _ _ (fun _ => HG0.out)
  have hX3 : LvX (putAt w2 g0 (i * 8) V.cells) base p cg cc f G (l.set i d) H (mixL l (l.set i d) H 1) := by
    refine ((HX1.out.ext y2).level 0 (Nat.zero_le _) k3 _ (by rw [← HG0.out]; exact HB3.out)).cong (fun u hu => ?_)
    unfold mixL
    by_cases e : u = 0
    · subst e; simp
    · rw [if_neg e, if_neg (by omega)]
  have kk : Kept (fun j => base ≤ j ∧ j < top) w (putAt w2 g0 (i * 8) V.cells) := (k1.trans (Kept.ext y2)).trans' k3 (fun j _ e => by
    have h3 := (HFAR.out 0 (Nat.zero_le _)).1
    have h4 := HGT.out 0 (Nat.zero_le _)
    rw [e]
    exact ⟨h3, h4⟩)
  generalize (putAt w2 g0 (i * 8) V.cells) = W3 at k3 hX3 kk ⊢
  clear hh2 hm2 hl2 hB2 HB3 k3 k1 hD1 y2 hx2 hpl
  have hcc := hX3.blk.cell 0 (by omega)
  rw [hX3.f0, List.length_set, ← HN.out] at hcc
  have HX3 := Lib.hid hX3
  clear hX3
  go_wp2_with fail
  refine (theight_ok p n cc _ _ h1 h2 hcc).mono ?_
  rintro e w4 ⟨e4, rfl⟩
  replace e4 : e = .returned (.int .i64 H) := by rw [e4, HH.out]
  subst e4
  clear hcc HCC HX1
  go_wp2_with fail
  go_loopw [1, 34] (fun t1 t34 wr => ∃ (v : Nat), v ≤ H ∧ t34 = .int .i64 v ∧ t1 = .int .i64 (i / 2 ^ v : Nat) ∧ LvX wr base p cg cc f G (l.set i d) H (mixL l (l.set i d) H (v + 1)) ∧ Kept (fun j => base ≤ j ∧ j < top) w wr) (fun _ t34 _ => H - (intOf t34).toNat)
  case atStart => exact ⟨0, by omega, rfl, by simp, HX3.out, kk⟩
  case round =>
    obtain ⟨v, hv, rfl, rfl, hX, hk⟩ := hrel
    clear HX3 kk
    obtain ⟨x, hxk⟩ : ∃ x, x = i / 2 ^ v := ⟨_, rfl⟩
    rw [← hxk]
    by_cases hlt : v < H
    · obtain ⟨N2, hN2⟩ : ∃ N2, N2 = 2 ^ (H - v) := ⟨_, rfl⟩
      obtain ⟨M, hM⟩ : ∃ M, M = 2 ^ (H - (v + 1)) := ⟨_, rfl⟩
      have hNM : N2 = 2 * M := by rw [hN2, hM]; exact pow_halfH H v hlt
      have hN24 : N2 ≤ 4096 := by rw [hN2]; exact Nat.le_trans (Nat.pow_le_pow_right (by omega) (show H - v ≤ 12 by omega)) (by decide)
      have hxl : x < N2 := by rw [hxk, hN2]; exact div_pow_lt HP.out (by omega)
      obtain ⟨k, hk2⟩ : ∃ k, k = x / 2 := ⟨_, rfl⟩
      have hkM : k < M := by omega
      have hke : k = i / 2 ^ (v + 1) := by rw [hk2, hxk, div_pow_succ]
      obtain ⟨v1, hv1⟩ : ∃ v1, v1 = v + 1 := ⟨_, rfl⟩
      have hq2 : (x : Int).tdiv 2 = (k : Nat) := by rw [Int.tdiv_eq_ediv_of_nonneg (by omega), hk2]; omega
      have hcv := hX.blk.cell (1 + v) (by omega)
      rw [hX.fl v (by omega), ← hN2] at hcv
      have hcv1 : wr.cell? ⟨p, 1 + v1, none⟩ = some (.slice (some ⟨G (v + 1), 0, none⟩) M M) := by
        have := hX.blk.cell (1 + (v + 1)) (by omega)
        rw [hX.fl (v + 1) (by omega), ← hM] at this
        rw [hv1]
        exact this
      have hBv := hX.lv v (by omega)
      have hBv1 := hX.lv (v + 1) (by omega)
      rw [show mixL l (l.set i d) H (v + 1) v = lev (l.set i d) H v from if_pos (by omega)] at hBv
      rw [show mixL l (l.set i d) H (v + 1) (v + 1) = lev l H (v + 1) from if_neg (by omega)] at hBv1
      have hplr := hX.blk.lt
      have hjn := join_any p (G v) (G (v + 1)) v v1 k N2 M N2 M (lev (l.set i d) H v) (lev l H (v + 1)) wr hv1 (by omega) (by rw [lev_len]; exact hN2) (by rw [lev_len]; exact hM) (by omega) hkM hN24 (lev_okD _ H v) hcv hcv1 hBv hBv1 hplr
      have hset : (lev l H (v + 1)).set k (hTwo ((lev (l.set i d) H v).getD (2 * k) Dg.zero) ((lev (l.set i d) H v).getD (2 * k + 1) Dg.zero)) = lev (l.set i d) H (v + 1) := by
        rw [lev_getD _ H v _ (by omega), lev_getD _ H v _ (by omega), hke]
        exact lev_set_at l i d H (v + 1) _ rfl
      rw [hset] at hjn
      have hw1 : IntKind.i64.wrap ((v : Int) + 1) = v1 := by rw [IntKind.wrap_i64]; omega
      have HX := Lib.hid hX
      have HJ := Lib.hid hjn
      have HKE := Lib.hid hke
      have HV1 := Lib.hid hv1
      have hv113 : (v1 : Int) < 13 := by omega
      have hk4 : k ≤ 4096 := by omega
      have hk4I : (k : Int) ≤ 4096 := by omega
      clear hX hjn hset hke hcv hcv1 hBv hBv1 hN2 hM hNM hxk hk2 hv1
      go_wp2_with fail
      refine HJ.out.mono ?_
      rintro e w5 ⟨rfl, hB5, hk5⟩
      have hX5 : LvX w5 base p cg cc f G (l.set i d) H (mixL l (l.set i d) H (v + 1 + 1)) := by
        refine (HX.out.level (v + 1) (by omega) hk5 _ hB5).cong (fun u hu => ?_)
        unfold mixL
        by_cases e : u = v + 1
        · subst e; simp
        · rw [if_neg e]
          by_cases e2 : u < v + 1
          · rw [if_pos e2, if_pos (by omega)]
          · rw [if_neg e2, if_neg (by omega)]
      have kk5 : Kept (fun j => base ≤ j ∧ j < top) w w5 := hk.trans' hk5 (fun j _ e => by
        have h3 := (HFAR.out (v + 1) hlt).1
        have h4 := HGT.out (v + 1) hlt
        rw [e]
        exact ⟨h3, h4⟩)
      have HX5 := Lib.hid hX5
      clear hX5 hB5 hk5 HJ HX hk hw1 hq2
      go_wp2_with fail
      go_roundw
      case rel => exact ⟨v + 1, hlt, by go_num, by rw [HKE.out], HX5.out, kk5⟩
      case measure => simp only [intOf]; omega
    · obtain rfl : v = H := by omega
      have HX := Lib.hid hX
      clear hX hxk
      go_wp2_with fail
      go_ret
      refine ⟨rfl, ⟨hpt, cg, cc, f, G, ?_, hct, ?_⟩, hk⟩
      · rw [List.length_set, ← HN.out, ← HH.out]
        exact HX.out.toL (fun u hu => mix_all l _ v u hu)
      · rw [List.length_set, ← HN.out, ← HH.out]
        exact HGT.out
end Go.Proofs.YtahljceanodhkaaGreatDoor
