/- The walks of package halve: a trial in memory, and what each method does with it. -/
import Derived.Test.YtahljceanodhkaaGreatDoorBase
namespace Go.Proofs.YtahljceanodhkaaGreatDoor
open Go.RowKit

attribute [go_sem ↓ high] wp_store_big
attribute [go_sem high] wp_store_big
theorem aggDig : aggT Tryz.prog 30 = true := by kernel_rfl
theorem sizeDig : sizeT Tryz.prog 30 = some 8 := by kernel_rfl
theorem wpLoadDig {dst : Option Tmp} {ty' : TypeId} {x : Operand} {pos : String} {after : Array Edge} {guard : Option (Nat × Bool)} {a : Act} {w : World} {K : Act → World → Prop} {Q : Exit → Act → World → Prop} (hx : isAt (a.eval x) = true) (hh : has w (blkOf (a.eval x)) (offOf (a.eval x)) 8 = true) :
    Oper.wp Tryz.prog { dst := dst, op := .load 30 x, type := ty', pos := pos, after := after, guard := guard } a w K Q = K (a.put dst (.agg (gets w (blkOf (a.eval x)) (offOf (a.eval x)) 8))) w := wp_load_big 8 aggDig sizeDig hx hh
theorem runLoadDig {ρ : Operand → Value} {dst : Option Tmp} {ty' : TypeId} {x : Operand} {pos : String} {after : Array Edge} {guard : Option (Nat × Bool)} {w : World} (hx : isAt (ρ x) = true) (hh : has w (blkOf (ρ x)) (offOf (ρ x)) 8 = true) :
    (execOp ρ { dst := dst, op := .load 30 x, type := ty', pos := pos, after := after, guard := guard }).run Tryz.prog w = .ok (.value (.agg (gets w (blkOf (ρ x)) (offOf (ρ x)) 8))) w := run_exec_load_big 8 aggDig sizeDig hx hh
theorem loadVarDig (w : World) (g off : Nat) (hh : has w g off 8 = true) : (loadVar 30 ⟨g, off, none⟩).run Tryz.prog w = .ok (.agg (gets w g off 8)) w := run_loadVar_big Tryz.prog w _ g off 8 aggDig sizeDig hh
attribute [go_sem] aggDig sizeDig
attribute [go_sem ↓ high] wpLoadDig loadVarDig runLoadDig
attribute [go_sem high] wpLoadDig
theorem aggArr8 : aggT Tryz.prog 23 = true := by kernel_rfl
theorem sizeArr8 : sizeT Tryz.prog 23 = some 8 := by kernel_rfl
theorem wpLoadArr8 {dst : Option Tmp} {ty' : TypeId} {x : Operand} {pos : String} {after : Array Edge} {guard : Option (Nat × Bool)} {a : Act} {w : World} {K : Act → World → Prop} {Q : Exit → Act → World → Prop} (hx : isAt (a.eval x) = true) (hh : has w (blkOf (a.eval x)) (offOf (a.eval x)) 8 = true) :
    Oper.wp Tryz.prog { dst := dst, op := .load 23 x, type := ty', pos := pos, after := after, guard := guard } a w K Q = K (a.put dst (.agg (gets w (blkOf (a.eval x)) (offOf (a.eval x)) 8))) w := wp_load_big 8 aggArr8 sizeArr8 hx hh
theorem runLoadArr8 {ρ : Operand → Value} {dst : Option Tmp} {ty' : TypeId} {x : Operand} {pos : String} {after : Array Edge} {guard : Option (Nat × Bool)} {w : World} (hx : isAt (ρ x) = true) (hh : has w (blkOf (ρ x)) (offOf (ρ x)) 8 = true) :
    (execOp ρ { dst := dst, op := .load 23 x, type := ty', pos := pos, after := after, guard := guard }).run Tryz.prog w = .ok (.value (.agg (gets w (blkOf (ρ x)) (offOf (ρ x)) 8))) w := run_exec_load_big 8 aggArr8 sizeArr8 hx hh
theorem loadVarArr8 (w : World) (g off : Nat) (hh : has w g off 8 = true) : (loadVar 23 ⟨g, off, none⟩).run Tryz.prog w = .ok (.agg (gets w g off 8)) w := run_loadVar_big Tryz.prog w _ g off 8 aggArr8 sizeArr8 hh
attribute [go_sem] aggArr8 sizeArr8
attribute [go_sem ↓ high] wpLoadArr8 loadVarArr8 runLoadArr8
attribute [go_sem high] wpLoadArr8
theorem aggSpan : aggT Tryz.prog 114 = true := by kernel_rfl
theorem sizeSpan : sizeT Tryz.prog 114 = some 18 := by kernel_rfl
theorem wpLoadSpan {dst : Option Tmp} {ty' : TypeId} {x : Operand} {pos : String} {after : Array Edge} {guard : Option (Nat × Bool)} {a : Act} {w : World} {K : Act → World → Prop} {Q : Exit → Act → World → Prop} (hx : isAt (a.eval x) = true) (hh : has w (blkOf (a.eval x)) (offOf (a.eval x)) 18 = true) :
    Oper.wp Tryz.prog { dst := dst, op := .load 114 x, type := ty', pos := pos, after := after, guard := guard } a w K Q = K (a.put dst (.agg (gets w (blkOf (a.eval x)) (offOf (a.eval x)) 18))) w := wp_load_big 18 aggSpan sizeSpan hx hh
theorem runLoadSpan {ρ : Operand → Value} {dst : Option Tmp} {ty' : TypeId} {x : Operand} {pos : String} {after : Array Edge} {guard : Option (Nat × Bool)} {w : World} (hx : isAt (ρ x) = true) (hh : has w (blkOf (ρ x)) (offOf (ρ x)) 18 = true) :
    (execOp ρ { dst := dst, op := .load 114 x, type := ty', pos := pos, after := after, guard := guard }).run Tryz.prog w = .ok (.value (.agg (gets w (blkOf (ρ x)) (offOf (ρ x)) 18))) w := run_exec_load_big 18 aggSpan sizeSpan hx hh
theorem loadVarSpan (w : World) (g off : Nat) (hh : has w g off 18 = true) : (loadVar 114 ⟨g, off, none⟩).run Tryz.prog w = .ok (.agg (gets w g off 18)) w := run_loadVar_big Tryz.prog w _ g off 18 aggSpan sizeSpan hh
attribute [go_sem] aggSpan sizeSpan
attribute [go_sem ↓ high] wpLoadSpan loadVarSpan runLoadSpan
attribute [go_sem high] wpLoadSpan
theorem aggTrial : aggT Tryz.prog 116 = true := by kernel_rfl
theorem sizeTrial : sizeT Tryz.prog 116 = some 37 := by kernel_rfl
theorem wpLoadTrial {dst : Option Tmp} {ty' : TypeId} {x : Operand} {pos : String} {after : Array Edge} {guard : Option (Nat × Bool)} {a : Act} {w : World} {K : Act → World → Prop} {Q : Exit → Act → World → Prop} (hx : isAt (a.eval x) = true) (hh : has w (blkOf (a.eval x)) (offOf (a.eval x)) 37 = true) :
    Oper.wp Tryz.prog { dst := dst, op := .load 116 x, type := ty', pos := pos, after := after, guard := guard } a w K Q = K (a.put dst (.agg (gets w (blkOf (a.eval x)) (offOf (a.eval x)) 37))) w := wp_load_big 37 aggTrial sizeTrial hx hh
theorem runLoadTrial {ρ : Operand → Value} {dst : Option Tmp} {ty' : TypeId} {x : Operand} {pos : String} {after : Array Edge} {guard : Option (Nat × Bool)} {w : World} (hx : isAt (ρ x) = true) (hh : has w (blkOf (ρ x)) (offOf (ρ x)) 37 = true) :
    (execOp ρ { dst := dst, op := .load 116 x, type := ty', pos := pos, after := after, guard := guard }).run Tryz.prog w = .ok (.value (.agg (gets w (blkOf (ρ x)) (offOf (ρ x)) 37))) w := run_exec_load_big 37 aggTrial sizeTrial hx hh
theorem loadVarTrial (w : World) (g off : Nat) (hh : has w g off 37 = true) : (loadVar 116 ⟨g, off, none⟩).run Tryz.prog w = .ok (.agg (gets w g off 37)) w := run_loadVar_big Tryz.prog w _ g off 37 aggTrial sizeTrial hh
attribute [go_sem] aggTrial sizeTrial
attribute [go_sem ↓ high] wpLoadTrial loadVarTrial runLoadTrial
attribute [go_sem high] wpLoadTrial
structure Dg where (x0 x1 x2 x3 x4 x5 x6 x7 : Int)
abbrev D (d : Dg) : Value := .agg #[.int .u8 d.x0, .int .u8 d.x1, .int .u8 d.x2, .int .u8 d.x3, .int .u8 d.x4, .int .u8 d.x5, .int .u8 d.x6, .int .u8 d.x7]
abbrev Dg.cells (d : Dg) : Array Value := #[.int .u8 d.x0, .int .u8 d.x1, .int .u8 d.x2, .int .u8 d.x3, .int .u8 d.x4, .int .u8 d.x5, .int .u8 d.x6, .int .u8 d.x7]
attribute [go_sem] D Dg.cells
theorem eqDig (w : World) (d : Nat) (a0 a1 a2 a3 a4 a5 a6 a7 b0 b1 b2 b3 b4 b5 b6 b7 : Int) :
    (Op.equalIn (d + 2) 30 (.agg #[.int .u8 a0, .int .u8 a1, .int .u8 a2, .int .u8 a3, .int .u8 a4, .int .u8 a5, .int .u8 a6, .int .u8 a7]) (.agg #[.int .u8 b0, .int .u8 b1, .int .u8 b2, .int .u8 b3, .int .u8 b4, .int .u8 b5, .int .u8 b6, .int .u8 b7])).run Tryz.prog w =
      .ok ([a0, a1, a2, a3, a4, a5, a6, a7] == [b0, b1, b2, b3, b4, b5, b6, b7]) w :=
  run_equalIn_ints w d _ 5 8 .u8 Tryz.underlying30 Tryz.underlying5 (fun w => sizeOf_run (by kernel_rfl) w) [a0, a1, a2, a3, a4, a5, a6, a7] [b0, b1, b2, b3, b4, b5, b6, b7] rfl rfl
theorem eqDig' (w : World) (a0 a1 a2 a3 a4 a5 a6 a7 b0 b1 b2 b3 b4 b5 b6 b7 : Int) :
    (Op.equalIn 10000 30 (.agg #[.int .u8 a0, .int .u8 a1, .int .u8 a2, .int .u8 a3, .int .u8 a4, .int .u8 a5, .int .u8 a6, .int .u8 a7]) (.agg #[.int .u8 b0, .int .u8 b1, .int .u8 b2, .int .u8 b3, .int .u8 b4, .int .u8 b5, .int .u8 b6, .int .u8 b7])).run Tryz.prog w =
      .ok ([a0, a1, a2, a3, a4, a5, a6, a7] == [b0, b1, b2, b3, b4, b5, b6, b7]) w := eqDig w 9998 _ _ _ _ _ _ _ _ _ _ _ _ _ _ _ _
theorem guardDig : Tryz.prog.eqGuardType Tryz.prog.depth 30 = false := by kernel_rfl
attribute [go_sem] eqDig' guardDig
abbrev Dg.zero : Dg := ⟨0, 0, 0, 0, 0, 0, 0, 0⟩
structure Tr where (from_ steps : Int) (before after program : Dg) (size turn : Int) (mid : Dg) (winner : Int)
abbrev Tr.cells (t : Tr) : Array Value := #[.int .i64 t.from_, .int .i64 t.steps,
  .int .u8 t.before.x0, .int .u8 t.before.x1, .int .u8 t.before.x2, .int .u8 t.before.x3, .int .u8 t.before.x4, .int .u8 t.before.x5, .int .u8 t.before.x6, .int .u8 t.before.x7,
  .int .u8 t.after.x0, .int .u8 t.after.x1, .int .u8 t.after.x2, .int .u8 t.after.x3, .int .u8 t.after.x4, .int .u8 t.after.x5, .int .u8 t.after.x6, .int .u8 t.after.x7,
  .int .u8 t.program.x0, .int .u8 t.program.x1, .int .u8 t.program.x2, .int .u8 t.program.x3, .int .u8 t.program.x4, .int .u8 t.program.x5, .int .u8 t.program.x6, .int .u8 t.program.x7,
  .int .i64 t.size, .int .i64 t.turn,
  .int .u8 t.mid.x0, .int .u8 t.mid.x1, .int .u8 t.mid.x2, .int .u8 t.mid.x3, .int .u8 t.mid.x4, .int .u8 t.mid.x5, .int .u8 t.mid.x6, .int .u8 t.mid.x7,
  .int .i64 t.winner]
attribute [go_sem] Tr.cells
abbrev At (w : World) (b : Nat) (t : Tr) : Prop := Blk w b 116 t.cells
theorem At.cell {w : World} {b : Nat} {t : Tr} (h : At w b t) (i : Nat) : w.cell? ⟨b, i, none⟩ = t.cells[i]? := Blk.cell h i
theorem At.frozen {w : World} {b : Nat} {t : Tr} (h : At w b t) (i : Nat) : w.frozen? ⟨b, i, none⟩ = false := Blk.frozen h i
theorem At.of {w : World} {b : Nat} {t : Tr} {cs : Array Value} (h : Blk w b 116 cs) (e : cs = t.cells) : At w b t := by subst e; exact h

set_option maxHeartbeats 400000 in
theorem turn_any (b : Nat) (t : Tr) (w : World) (ht : At w b t) :
    Calls Tryz.prog 17 #[.pointer (some ⟨b, 0, none⟩)] w fun e w' => e = .returned (.int .i64 t.turn) ∧ w = w' := by
  have hc := ht.cell
  go_enter Tryz.func17, Tryz.ntmps17
  go_wp2
  go_ret
  exact ⟨rfl, rfl⟩

set_option maxHeartbeats 400000 in
theorem asked_over (b : Nat) (t : Tr) (who : Int) (one : Bool) (w : World) (ht : At w b t) (h : t.turn = -1) :
    Calls Tryz.prog 57 #[.pointer (some ⟨b, 0, none⟩), .int .i64 who, .bool one] w fun e w' => e = .returned (.int .i64 15) ∧ w = w' := by
  have hc := ht.cell
  go_enter Tryz.func57, Tryz.ntmps57
  go_wp2
  go_ret
  exact ⟨rfl, rfl⟩

set_option maxHeartbeats 400000 in
theorem asked_not (b : Nat) (t : Tr) (who : Int) (one : Bool) (w : World) (ht : At w b t) (h : (t.turn == -1) = false) (h2 : (t.turn != who) = true) :
    Calls Tryz.prog 57 #[.pointer (some ⟨b, 0, none⟩), .int .i64 who, .bool one] w fun e w' => e = .returned (.int .i64 10) ∧ w = w' := by
  have hc := ht.cell
  go_enter Tryz.func57, Tryz.ntmps57
  go_wp2
  go_ret
  exact ⟨rfl, rfl⟩
set_option maxHeartbeats 400000 in
theorem asked_one (b : Nat) (t : Tr) (who : Int) (one s : Bool) (w : World) (ht : At w b t) (h : (t.turn == -1) = false) (h2 : (t.turn != who) = false) (h3 : (t.steps == 1) = s) :
    Calls Tryz.prog 57 #[.pointer (some ⟨b, 0, none⟩), .int .i64 who, .bool one] w fun e w' => e = .returned (.int .i64 (if s != one then 10 else 0)) ∧ w = w' := by
  have hc := ht.cell
  cases s <;> cases one
  all_goals
    go_enter Tryz.func57, Tryz.ntmps57
    go_wp2
    go_ret
    exact ⟨rfl, rfl⟩
def askedE (t : Tr) (who : Int) (one : Bool) : Int := if t.turn == -1 then 15 else if t.turn != who then 10 else if (t.steps == 1) != one then 10 else 0
theorem asked_any (b : Nat) (t : Tr) (who : Int) (one : Bool) (w : World) (ht : At w b t) :
    Calls Tryz.prog 57 #[.pointer (some ⟨b, 0, none⟩), .int .i64 who, .bool one] w fun e w' => e = .returned (.int .i64 (askedE t who one)) ∧ w = w' := by
  unfold askedE
  cases h : t.turn == -1
  · cases h2 : t.turn != who
    · simpa using asked_one b t who one _ w ht h h2 rfl
    · simpa using asked_not b t who one w ht h h2
  · simpa using asked_over b t who one w ht (by simpa using h)

set_option maxHeartbeats 400000 in
theorem wins_any (b : Nat) (t : Tr) (who : Int) (w : World) (ht : At w b t) :
    Calls Tryz.prog 60 #[.pointer (some ⟨b, 0, none⟩), .int .i64 who] w fun e w' => e = .returned (.tuple #[]) ∧ At w' b { t with turn := -1, winner := who } ∧ Kept (· = b) w w' := by
  have hc := ht.cell
  have hf := ht.frozen
  have hh := Blk.has ht
  have hm := Blk.melts ht
  have hg := Blk.gets ht
  go_enter Tryz.func60, Tryz.ntmps60
  go_wp2
  go_end0
  refine ⟨rfl, At.of ((Blk.set_ (Blk.set_ ht _ _) _ _)) rfl, ?_⟩
  ((repeat' (with_reducible (first | apply Kept.drew | apply Kept.drewN | apply Kept.alloc | apply Kept.setCell | apply Kept.putAt | exact Kept.refl _ _))) <;> (intro hlt; first | rfl | (simp at hlt; done) | (exfalso; simp at hlt; omega) | omega))

set_option maxHeartbeats 400000 in
theorem tell_no (b : Nat) (t : Tr) (d : Dg) (w : World) (ht : At w b t) (h : (askedE t 0 false == 0) = false) :
    Calls Tryz.prog 15 #[.pointer (some ⟨b, 0, none⟩), D d] w fun e w' => e = .returned (.int .i64 (askedE t 0 false)) ∧ At w' b t ∧ Kept (· = b) w w' := by
  go_enter Tryz.func15, Tryz.ntmps15
  go_wp2_with (go_at_call 57; refine (asked_any b t _ _ _ (Blk.alloc ht _)).mono ?_; rintro e w' ⟨rfl, rfl⟩)
  go_ret
  exact ⟨rfl, Blk.alloc ht _, (Kept.refl _ _).alloc _⟩

set_option maxHeartbeats 400000 in
theorem tell_ok (b : Nat) (t : Tr) (d : Dg) (w : World) (ht : At w b t) (h : askedE t 0 false = 0) :
    Calls Tryz.prog 15 #[.pointer (some ⟨b, 0, none⟩), D d] w fun e w' => e = .returned (.int .i64 0) ∧ At w' b { t with mid := d, turn := 1 } ∧ Kept (· = b) w w' := by
  have hlt : b < w.heap.size := Blk.lt ht
  have hc := ht.cell
  have hf := ht.frozen
  have hh := Blk.has ht
  have hm := Blk.melts ht
  have hg := Blk.gets ht
  go_enter Tryz.func15, Tryz.ntmps15
  go_wp2_with (go_at_call 57; refine (asked_any b t _ _ _ (Blk.alloc ht _)).mono ?_; rintro e w' ⟨rfl, rfl⟩)
  go_ret
  refine ⟨rfl, ?_, ?_⟩
  · (apply At.of; (· (repeat' (with_reducible (first | assumption | apply Blk.set_ | apply Blk.put_ | apply Blk.alloc | apply Blk.drew | apply Blk.drewN)))); (· kernel_rfl))
  · ((repeat' (with_reducible (first | apply Kept.drew | apply Kept.drewN | apply Kept.alloc | apply Kept.setCell | apply Kept.putAt | exact Kept.refl _ _))) <;> (intro hlt; first | rfl | (simp at hlt; done) | (exfalso; simp at hlt; omega) | omega))
def tellT (t : Tr) (d : Dg) : Tr := if askedE t 0 false = 0 then { t with mid := d, turn := 1 } else t
theorem tell_any (b : Nat) (t : Tr) (d : Dg) (w : World) (ht : At w b t) :
    Calls Tryz.prog 15 #[.pointer (some ⟨b, 0, none⟩), D d] w fun e w' => e = .returned (.int .i64 (askedE t 0 false)) ∧ At w' b (tellT t d) ∧ Kept (· = b) w w' := by
  unfold tellT
  by_cases h : askedE t 0 false = 0
  · rw [if_pos h, h]; exact tell_ok b t d w ht h
  · rw [if_neg h]; exact tell_no b t d w ht (by simpa using h)

structure Sp where (from_ steps : Int) (before after : Dg)
abbrev Sp.cells (t : Sp) : Array Value := #[.int .i64 t.from_, .int .i64 t.steps,
  .int .u8 t.before.x0, .int .u8 t.before.x1, .int .u8 t.before.x2, .int .u8 t.before.x3, .int .u8 t.before.x4, .int .u8 t.before.x5, .int .u8 t.before.x6, .int .u8 t.before.x7,
  .int .u8 t.after.x0, .int .u8 t.after.x1, .int .u8 t.after.x2, .int .u8 t.after.x3, .int .u8 t.after.x4, .int .u8 t.after.x5, .int .u8 t.after.x6, .int .u8 t.after.x7]
attribute [go_sem] Sp.cells
set_option maxHeartbeats 400000 in
theorem first_any (s : Sp) (m : Dg) (w : World) (h0 : 0 ≤ s.steps) (h1 : s.steps ≤ 1048576) :
    Calls Tryz.prog 58 #[.agg #[.int .i64 s.from_, .int .i64 s.steps, .int .u8 s.before.x0, .int .u8 s.before.x1, .int .u8 s.before.x2, .int .u8 s.before.x3, .int .u8 s.before.x4, .int .u8 s.before.x5, .int .u8 s.before.x6, .int .u8 s.before.x7, .int .u8 s.after.x0, .int .u8 s.after.x1, .int .u8 s.after.x2, .int .u8 s.after.x3, .int .u8 s.after.x4, .int .u8 s.after.x5, .int .u8 s.after.x6, .int .u8 s.after.x7], .agg #[.int .u8 m.x0, .int .u8 m.x1, .int .u8 m.x2, .int .u8 m.x3, .int .u8 m.x4, .int .u8 m.x5, .int .u8 m.x6, .int .u8 m.x7]] w fun e w' => e = .returned (.agg (Sp.cells ⟨s.from_, s.steps / 2, s.before, m⟩)) ∧ Ext w w' := by
  go_enter Tryz.func58, Tryz.ntmps58
  go_wp2
  refine ret_cell Tryz.results58 rfl rfl aggSpan (by exact sizeSpan) (Blk.new' _ _ _ _ (by simp)) ⟨rfl, ?_⟩
  ((repeat' (with_reducible (first | apply Kept.drew | apply Kept.drewN | apply Kept.alloc | apply Kept.setCell | apply Kept.putAt | exact Kept.refl _ _))) <;> (intro hlt; first | rfl | (simp at hlt; done) | (exfalso; simp at hlt; omega) | omega))
set_option maxHeartbeats 400000 in
theorem second_any (s : Sp) (m : Dg) (w : World) (h0 : 0 ≤ s.steps) (h1 : s.steps ≤ 1048576) (h2 : 0 ≤ s.from_) (h3 : s.from_ ≤ 1048576) :
    Calls Tryz.prog 59 #[.agg #[.int .i64 s.from_, .int .i64 s.steps, .int .u8 s.before.x0, .int .u8 s.before.x1, .int .u8 s.before.x2, .int .u8 s.before.x3, .int .u8 s.before.x4, .int .u8 s.before.x5, .int .u8 s.before.x6, .int .u8 s.before.x7, .int .u8 s.after.x0, .int .u8 s.after.x1, .int .u8 s.after.x2, .int .u8 s.after.x3, .int .u8 s.after.x4, .int .u8 s.after.x5, .int .u8 s.after.x6, .int .u8 s.after.x7], .agg #[.int .u8 m.x0, .int .u8 m.x1, .int .u8 m.x2, .int .u8 m.x3, .int .u8 m.x4, .int .u8 m.x5, .int .u8 m.x6, .int .u8 m.x7]] w fun e w' => e = .returned (.agg (Sp.cells ⟨s.from_ + s.steps / 2, s.steps - s.steps / 2, m, s.after⟩)) ∧ Ext w w' := by
  go_enter Tryz.func59, Tryz.ntmps59
  go_wp2
  refine ret_cell Tryz.results59 rfl rfl aggSpan (by exact sizeSpan) (Blk.new' _ _ _ _ (by simp)) ⟨rfl, ?_⟩
  ((repeat' (with_reducible (first | apply Kept.drew | apply Kept.drewN | apply Kept.alloc | apply Kept.setCell | apply Kept.putAt | exact Kept.refl _ _))) <;> (intro hlt; first | rfl | (simp at hlt; done) | (exfalso; simp at hlt; omega) | omega))

set_option maxHeartbeats 400000 in
theorem winner_any (b : Nat) (t : Tr) (w : World) (ht : At w b t) :
    Calls Tryz.prog 19 #[.pointer (some ⟨b, 0, none⟩)] w fun e w' => e = .returned (.tuple #[.int .i64 t.winner, .bool (t.winner != -1)]) ∧ Ext w w' := by
  have hc := ht.cell
  go_enter Tryz.func19, Tryz.ntmps19
  go_wp2
  go_quiet (fail)
  go_wp2
  go_ret2
  refine ⟨rfl, ?_⟩
  ((repeat' (with_reducible (first | apply Kept.drew | apply Kept.drewN | apply Kept.alloc | apply Kept.setCell | apply Kept.putAt | exact Kept.refl _ _))) <;> (intro hlt; first | rfl | (simp at hlt; done) | (exfalso; simp at hlt; omega) | omega))

set_option maxHeartbeats 400000 in
theorem silence_over (b : Nat) (t : Tr) (w : World) (ht : At w b t) (h0 : (t.turn == 0) = false) (h1 : (t.turn == 1) = false) :
    Calls Tryz.prog 18 #[.pointer (some ⟨b, 0, none⟩)] w fun e w' => e = .returned (.int .i64 15) ∧ At w' b t ∧ Kept (· = b) w w' := by
  have hc := ht.cell
  go_enter Tryz.func18, Tryz.ntmps18
  go_wp2_with fail
  go_ret
  exact ⟨rfl, ht, Kept.refl _ _⟩
set_option maxHeartbeats 400000 in
theorem silence_teller (b : Nat) (t : Tr) (w : World) (ht : At w b t) (h0 : (t.turn == 0) = true) :
    Calls Tryz.prog 18 #[.pointer (some ⟨b, 0, none⟩)] w fun e w' => e = .returned (.int .i64 0) ∧ At w' b { t with turn := -1, winner := 1 } ∧ Kept (· = b) w w' := by
  have hc := ht.cell
  go_enter Tryz.func18, Tryz.ntmps18
  go_wp2_with (go_at_call 60; refine (wins_any b t _ _ ht).mono ?_; rintro e w' ⟨rfl, hA, hK⟩)
  go_ret
  exact ⟨rfl, hA, hK⟩
set_option maxHeartbeats 400000 in
theorem silence_doubter (b : Nat) (t : Tr) (w : World) (ht : At w b t) (h0 : (t.turn == 0) = false) (h1 : (t.turn == 1) = true) :
    Calls Tryz.prog 18 #[.pointer (some ⟨b, 0, none⟩)] w fun e w' => e = .returned (.int .i64 0) ∧ At w' b { t with turn := -1, winner := 0 } ∧ Kept (· = b) w w' := by
  have hc := ht.cell
  go_enter Tryz.func18, Tryz.ntmps18
  go_wp2_with (go_at_call 60; refine (wins_any b t _ _ ht).mono ?_; rintro e w' ⟨rfl, hA, hK⟩)
  go_ret
  exact ⟨rfl, hA, hK⟩

set_option maxHeartbeats 400000 in
theorem choose_no (b : Nat) (t : Tr) (f : Bool) (w : World) (ht : At w b t) (h : (askedE t 1 false == 0) = false) :
    Calls Tryz.prog 16 #[.pointer (some ⟨b, 0, none⟩), .bool f] w fun e w' => e = .returned (.int .i64 (askedE t 1 false)) ∧ At w' b t ∧ Kept (· = b) w w' := by
  go_enter Tryz.func16, Tryz.ntmps16
  go_wp2_with (go_at_call 57; refine (asked_any b t _ _ _ ht).mono ?_; rintro e w' ⟨rfl, rfl⟩)
  go_ret
  exact ⟨rfl, ht, Kept.refl _ _⟩

end Go.Proofs.YtahljceanodhkaaGreatDoor
