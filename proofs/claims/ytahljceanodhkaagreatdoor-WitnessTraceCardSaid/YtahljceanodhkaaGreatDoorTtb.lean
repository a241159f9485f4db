/- Several texts joined: Halve, Hb, Hc, Hd, He, Hf, Ra, Rb. -/
import Derived.Laws.BitsAllLaws
import Derived.LoopN
import Derived.Laws.IdiomCopy
import Derived.Lib.ConvBytes
import Derived.Test.YtahljceanodhkaaGreatDoorTta
/- The walks of package halve: a trial in memory, and what each method does with it. -/
namespace Go.Proofs.YtahljceanodhkaaGreatDoor
open Go.RowKit

attribute [go_sem ↓ high] wp_store_big
attribute [go_sem high] wp_store_big
theorem aggDig : aggT Tryz.prog 30 = true := by kernel_rfl
theorem sizeDig : sizeT Tryz.prog 30 = some 8 := by kernel_rfl
theorem wpLoadDig {dst : Option Tmp} {ty' : TypeId} {x : Operand} {pos : String} {after : Array Edge} {guard : Option (Nat × Bool)} {a : Act} {w : World} {K : Act → World → Prop} {Q : Exit → Act → World → Prop} (hx : isAt (a.eval x) = true) (hh : has w (blkOf (a.eval x)) (offOf (a.eval x)) 8 = true) :
    Oper.wp Tryz.prog { dst := dst, op := .load 30 x, type := ty', pos := pos, after := after, guard := guard } a w K Q = K (a.put dst (.agg (gets w (blkOf (a.eval x)) (offOf (a.eval x)) 8))) w := wp_load_big 8 aggDig sizeDig hx hh
theorem runLoadDig {ρ : Operand → Value} {dst : Option Tmp} {ty' : TypeId} {x : Operand} {pos : String} {after : Array Edge} {guard : Option (Nat × Bool)} {w : World} (hx : isAt (ρ x) = true) (hh : has w (blkOf (ρ x)) (offOf (ρ x)) 8 = true) :
    (execOp ρ { dst := dst, op := .load 30 x, type := ty', pos := pos, after := after, guard := guard }).run Tryz.prog w = .ok (.value (.agg (gets w (blkOf (ρ x)) (offOf (ρ x)) 8))) w := run_exec_load_big 8 aggDig sizeDig hx hh
theorem loadVarDig (w : World) (g off : Nat) (hh : has w g off 8 = true) : (loadVar 30 ⟨g, off, none⟩).run Tryz.prog w = .ok (.agg (gets w g off 8)) w := run_loadVar_big Tryz.prog w _ g off 8 aggDig sizeDig hh
attribute [go_sem] aggDig sizeDig
attribute [go_sem ↓ high] wpLoadDig loadVarDig runLoadDig
attribute [go_sem high] wpLoadDig
theorem aggArr8 : aggT Tryz.prog 23 = true := by kernel_rfl
theorem sizeArr8 : sizeT Tryz.prog 23 = some 8 := by kernel_rfl
theorem wpLoadArr8 {dst : Option Tmp} {ty' : TypeId} {x : Operand} {pos : String} {after : Array Edge} {guard : Option (Nat × Bool)} {a : Act} {w : World} {K : Act → World → Prop} {Q : Exit → Act → World → Prop} (hx : isAt (a.eval x) = true) (hh : has w (blkOf (a.eval x)) (offOf (a.eval x)) 8 = true) :
    Oper.wp Tryz.prog { dst := dst, op := .load 23 x, type := ty', pos := pos, after := after, guard := guard } a w K Q = K (a.put dst (.agg (gets w (blkOf (a.eval x)) (offOf (a.eval x)) 8))) w := wp_load_big 8 aggArr8 sizeArr8 hx hh
theorem runLoadArr8 {ρ : Operand → Value} {dst : Option Tmp} {ty' : TypeId} {x : Operand} {pos : String} {after : Array Edge} {guard : Option (Nat × Bool)} {w : World} (hx : isAt (ρ x) = true) (hh : has w (blkOf (ρ x)) (offOf (ρ x)) 8 = true) :
    (execOp ρ { dst := dst, op := .load 23 x, type := ty', pos := pos, after := after, guard := guard }).run Tryz.prog w = .ok (.value (.agg (gets w (blkOf (ρ x)) (offOf (ρ x)) 8))) w := run_exec_load_big 8 aggArr8 sizeArr8 hx hh
theorem loadVarArr8 (w : World) (g off : Nat) (hh : has w g off 8 = true) : (loadVar 23 ⟨g, off, none⟩).run Tryz.prog w = .ok (.agg (gets w g off 8)) w := run_loadVar_big Tryz.prog w _ g off 8 aggArr8 sizeArr8 hh
attribute [go_sem] aggArr8 sizeArr8
attribute [go_sem ↓ high] wpLoadArr8 loadVarArr8 runLoadArr8
attribute [go_sem high] wpLoadArr8
theorem aggSpan : aggT Tryz.prog 114 = true := by kernel_rfl
theorem sizeSpan : sizeT Tryz.prog 114 = some 18 := by kernel_rfl
theorem wpLoadSpan {dst : Option Tmp} {ty' : TypeId} {x : Operand} {pos : String} {after : Array Edge} {guard : Option (Nat × Bool)} {a : Act} {w : World} {K : Act → World → Prop} {Q : Exit → Act → World → Prop} (hx : isAt (a.eval x) = true) (hh : has w (blkOf (a.eval x)) (offOf (a.eval x)) 18 = true) :
    Oper.wp Tryz.prog { dst := dst, op := .load 114 x, type := ty', pos := pos, after := after, guard := guard } a w K Q = K (a.put dst (.agg (gets w (blkOf (a.eval x)) (offOf (a.eval x)) 18))) w := wp_load_big 18 aggSpan sizeSpan hx hh
theorem runLoadSpan {ρ : Operand → Value} {dst : Option Tmp} {ty' : TypeId} {x : Operand} {pos : String} {after : Array Edge} {guard : Option (Nat × Bool)} {w : World} (hx : isAt (ρ x) = true) (hh : has w (blkOf (ρ x)) (offOf (ρ x)) 18 = true) :
    (execOp ρ { dst := dst, op := .load 114 x, type := ty', pos := pos, after := after, guard := guard }).run Tryz.prog w = .ok (.value (.agg (gets w (blkOf (ρ x)) (offOf (ρ x)) 18))) w := run_exec_load_big 18 aggSpan sizeSpan hx hh
theorem loadVarSpan (w : World) (g off : Nat) (hh : has w g off 18 = true) : (loadVar 114 ⟨g, off, none⟩).run Tryz.prog w = .ok (.agg (gets w g off 18)) w := run_loadVar_big Tryz.prog w _ g off 18 aggSpan sizeSpan hh
attribute [go_sem] aggSpan sizeSpan
attribute [go_sem ↓ high] wpLoadSpan loadVarSpan runLoadSpan
attribute [go_sem high] wpLoadSpan
theorem aggTrial : aggT Tryz.prog 116 = true := by kernel_rfl
theorem sizeTrial : sizeT Tryz.prog 116 = some 37 := by kernel_rfl
theorem wpLoadTrial {dst : Option Tmp} {ty' : TypeId} {x : Operand} {pos : String} {after : Array Edge} {guard : Option (Nat × Bool)} {a : Act} {w : World} {K : Act → World → Prop} {Q : Exit → Act → World → Prop} (hx : isAt (a.eval x) = true) (hh : has w (blkOf (a.eval x)) (offOf (a.eval x)) 37 = true) :
    Oper.wp Tryz.prog { dst := dst, op := .load 116 x, type := ty', pos := pos, after := after, guard := guard } a w K Q = K (a.put dst (.agg (gets w (blkOf (a.eval x)) (offOf (a.eval x)) 37))) w := wp_load_big 37 aggTrial sizeTrial hx hh
theorem runLoadTrial {ρ : Operand → Value} {dst : Option Tmp} {ty' : TypeId} {x : Operand} {pos : String} {after : Array Edge} {guard : Option (Nat × Bool)} {w : World} (hx : isAt (ρ x) = true) (hh : has w (blkOf (ρ x)) (offOf (ρ x)) 37 = true) :
    (execOp ρ { dst := dst, op := .load 116 x, type := ty', pos := pos, after := after, guard := guard }).run Tryz.prog w = .ok (.value (.agg (gets w (blkOf (ρ x)) (offOf (ρ x)) 37))) w := run_exec_load_big 37 aggTrial sizeTrial hx hh
theorem loadVarTrial (w : World) (g off : Nat) (hh : has w g off 37 = true) : (loadVar 116 ⟨g, off, none⟩).run Tryz.prog w = .ok (.agg (gets w g off 37)) w := run_loadVar_big Tryz.prog w _ g off 37 aggTrial sizeTrial hh
attribute [go_sem] aggTrial sizeTrial
attribute [go_sem ↓ high] wpLoadTrial loadVarTrial runLoadTrial
attribute [go_sem high] wpLoadTrial
structure Dg where (x0 x1 x2 x3 x4 x5 x6 x7 : Int)
abbrev D (d : Dg) : Value := .agg #[.int .u8 d.x0, .int .u8 d.x1, .int .u8 d.x2, .int .u8 d.x3, .int .u8 d.x4, .int .u8 d.x5, .int .u8 d.x6, .int .u8 d.x7]
abbrev Dg.cells (d : Dg) : Array Value := #[.int .u8 d.x0, .int .u8 d.x1, .int .u8 d.x2, .int .u8 d.x3, .int .u8 d.x4, .int .u8 d.x5, .int .u8 d.x6, .int .u8 d.x7]
attribute [go_sem] D Dg.cells
theorem eqDig (w : World) (d : Nat) (a0 a1 a2 a3 a4 a5 a6 a7 b0 b1 b2 b3 b4 b5 b6 b7 : Int) :
    (Op.equalIn (d + 2) 30 (.agg #[.int .u8 a0, .int .u8 a1, .int .u8 a2, .int .u8 a3, .int .u8 a4, .int .u8 a5, .int .u8 a6, .int .u8 a7]) (.agg #[.int .u8 b0, .int .u8 b1, .int .u8 b2, .int .u8 b3, .int .u8 b4, .int .u8 b5, .int .u8 b6, .int .u8 b7])).run Tryz.prog w =
      .ok ([a0, a1, a2, a3, a4, a5, a6, a7] == [b0, b1, b2, b3, b4, b5, b6, b7]) w :=
  run_equalIn_ints w d _ 5 8 .u8 Tryz.underlying30 Tryz.underlying5 (fun w => sizeOf_run (by kernel_rfl) w) [a0, a1, a2, a3, a4, a5, a6, a7] [b0, b1, b2, b3, b4, b5, b6, b7] rfl rfl
theorem eqDig' (w : World) (a0 a1 a2 a3 a4 a5 a6 a7 b0 b1 b2 b3 b4 b5 b6 b7 : Int) :
    (Op.equalIn 10000 30 (.agg #[.int .u8 a0, .int .u8 a1, .int .u8 a2, .int .u8 a3, .int .u8 a4, .int .u8 a5, .int .u8 a6, .int .u8 a7]) (.agg #[.int .u8 b0, .int .u8 b1, .int .u8 b2, .int .u8 b3, .int .u8 b4, .int .u8 b5, .int .u8 b6, .int .u8 b7])).run Tryz.prog w =
      .ok ([a0, a1, a2, a3, a4, a5, a6, a7] == [b0, b1, b2, b3, b4, b5, b6, b7]) w := eqDig w 9998 _ _ _ _ _ _ _ _ _ _ _ _ _ _ _ _
theorem guardDig : Tryz.prog.eqGuardType Tryz.prog.depth 30 = false := by kernel_rfl
attribute [go_sem] eqDig' guardDig
abbrev Dg.zero : Dg := ⟨0, 0, 0, 0, 0, 0, 0, 0⟩
structure Tr where (from_ steps : Int) (before after program : Dg) (size turn : Int) (mid : Dg) (winner : Int)
abbrev Tr.cells (t : Tr) : Array Value := #[.int .i64 t.from_, .int .i64 t.steps,
  .int .u8 t.before.x0, .int .u8 t.before.x1, .int .u8 t.before.x2, .int .u8 t.before.x3, .int .u8 t.before.x4, .int .u8 t.before.x5, .int .u8 t.before.x6, .int .u8 t.before.x7,
  .int .u8 t.after.x0, .int .u8 t.after.x1, .int .u8 t.after.x2, .int .u8 t.after.x3, .int .u8 t.after.x4, .int .u8 t.after.x5, .int .u8 t.after.x6, .int .u8 t.after.x7,
  .int .u8 t.program.x0, .int .u8 t.program.x1, .int .u8 t.program.x2, .int .u8 t.program.x3, .int .u8 t.program.x4, .int .u8 t.program.x5, .int .u8 t.program.x6, .int .u8 t.program.x7,
  .int .i64 t.size, .int .i64 t.turn,
  .int .u8 t.mid.x0, .int .u8 t.mid.x1, .int .u8 t.mid.x2, .int .u8 t.mid.x3, .int .u8 t.mid.x4, .int .u8 t.mid.x5, .int .u8 t.mid.x6, .int .u8 t.mid.x7,
  .int .i64 t.winner]
attribute [go_sem] Tr.cells
abbrev At (w : World) (b : Nat) (t : Tr) : Prop := Blk w b 116 t.cells
theorem At.cell {w : World} {b : Nat} {t : Tr} (h : At w b t) (i : Nat) : w.cell? ⟨b, i, none⟩ = t.cells[i]? := Blk.cell h i
theorem At.frozen {w : World} {b : Nat} {t : Tr} (h : At w b t) (i : Nat) : w.frozen? ⟨b, i, none⟩ = false := Blk.frozen h i
theorem At.of {w : World} {b : Nat} {t : Tr} {cs : Array Value} (h : Blk w b 116 cs) (e : cs = t.cells) : At w b t := by subst e; exact h

set_option maxHeartbeats 400000 in
theorem turn_any (b : Nat) (t : Tr) (w : World) (ht : At w b t) :
    Calls Tryz.prog 17 #[.pointer (some ⟨b, 0, none⟩)] w fun e w' => e = .returned (.int .i64 t.turn) ∧ w = w' := by
  have hc := ht.cell
  go_enter Tryz.func17, Tryz.ntmps17
  go_wp2
  go_ret
  exact ⟨rfl, rfl⟩

set_option maxHeartbeats 400000 in
theorem asked_over (b : Nat) (t : Tr) (who : Int) (one : Bool) (w : World) (ht : At w b t) (h : t.turn = -1) :
    Calls Tryz.prog 57 #[.pointer (some ⟨b, 0, none⟩), .int .i64 who, .bool one] w fun e w' => e = .returned (.int .i64 15) ∧ w = w' := by
  have hc := ht.cell
  go_enter Tryz.func57, Tryz.ntmps57
  go_wp2
  go_ret
  exact ⟨rfl, rfl⟩

set_option maxHeartbeats 400000 in
theorem asked_not (b : Nat) (t : Tr) (who : Int) (one : Bool) (w : World) (ht : At w b t) (h : (t.turn == -1) = false) (h2 : (t.turn != who) = true) :
    Calls Tryz.prog 57 #[.pointer (some ⟨b, 0, none⟩), .int .i64 who, .bool one] w fun e w' => e = .returned (.int .i64 10) ∧ w = w' := by
  have hc := ht.cell
  go_enter Tryz.func57, Tryz.ntmps57
  go_wp2
  go_ret
  exact ⟨rfl, rfl⟩
set_option maxHeartbeats 400000 in
theorem asked_one (b : Nat) (t : Tr) (who : Int) (one s : Bool) (w : World) (ht : At w b t) (h : (t.turn == -1) = false) (h2 : (t.turn != who) = false) (h3 : (t.steps == 1) = s) :
    Calls Tryz.prog 57 #[.pointer (some ⟨b, 0, none⟩), .int .i64 who, .bool one] w fun e w' => e = .returned (.int .i64 (if s != one then 10 else 0)) ∧ w = w' := by
  have hc := ht.cell
  cases s <;> cases one
  all_goals
    go_enter Tryz.func57, Tryz.ntmps57
    go_wp2
    go_ret
    exact ⟨rfl, rfl⟩
def askedE (t : Tr) (who : Int) (one : Bool) : Int := if t.turn == -1 then 15 else if t.turn != who then 10 else if (t.steps == 1) != one then 10 else 0
theorem asked_any (b : Nat) (t : Tr) (who : Int) (one : Bool) (w : World) (ht : At w b t) :
    Calls Tryz.prog 57 #[.pointer (some ⟨b, 0, none⟩), .int .i64 who, .bool one] w fun e w' => e = .returned (.int .i64 (askedE t who one)) ∧ w = w' := by
  unfold askedE
  cases h : t.turn == -1
  · cases h2 : t.turn != who
    · simpa using asked_one b t who one _ w ht h h2 rfl
    · simpa using asked_not b t who one w ht h h2
  · simpa using asked_over b t who one w ht (by simpa using h)

set_option maxHeartbeats 400000 in
theorem wins_any (b : Nat) (t : Tr) (who : Int) (w : World) (ht : At w b t) :
    Calls Tryz.prog 60 #[.pointer (some ⟨b, 0, none⟩), .int .i64 who] w fun e w' => e = .returned (.tuple #[]) ∧ At w' b { t with turn := -1, winner := who } ∧ Kept (· = b) w w' := by
  have hc := ht.cell
  have hf := ht.frozen
  have hh := Blk.has ht
  have hm := Blk.melts ht
  have hg := Blk.gets ht
  go_enter Tryz.func60, Tryz.ntmps60
  go_wp2
  go_end0
  refine ⟨rfl, At.of ((Blk.set_ (Blk.set_ ht _ _) _ _)) rfl, ?_⟩
  ((repeat' (with_reducible (first | apply Kept.drew | apply Kept.drewN | apply Kept.alloc | apply Kept.setCell | apply Kept.putAt | exact Kept.refl _ _))) <;> (intro hlt; first | rfl | (simp at hlt; done) | (exfalso; simp at hlt; omega) | omega))

set_option maxHeartbeats 400000 in
theorem tell_no (b : Nat) (t : Tr) (d : Dg) (w : World) (ht : At w b t) (h : (askedE t 0 false == 0) = false) :
    Calls Tryz.prog 15 #[.pointer (some ⟨b, 0, none⟩), D d] w fun e w' => e = .returned (.int .i64 (askedE t 0 false)) ∧ At w' b t ∧ Kept (· = b) w w' := by
  go_enter Tryz.func15, Tryz.ntmps15
  go_wp2_with (go_at_call 57; refine (asked_any b t _ _ _ (Blk.alloc ht _)).mono ?_; rintro e w' ⟨rfl, rfl⟩)
  go_ret
  exact ⟨rfl, Blk.alloc ht _, (Kept.refl _ _).alloc _⟩

set_option maxHeartbeats 400000 in
theorem tell_ok (b : Nat) (t : Tr) (d : Dg) (w : World) (ht : At w b t) (h : askedE t 0 false = 0) :
    Calls Tryz.prog 15 #[.pointer (some ⟨b, 0, none⟩), D d] w fun e w' => e = .returned (.int .i64 0) ∧ At w' b { t with mid := d, turn := 1 } ∧ Kept (· = b) w w' := by
  have hlt : b < w.heap.size := Blk.lt ht
  have hc := ht.cell
  have hf := ht.frozen
  have hh := Blk.has ht
  have hm := Blk.melts ht
  have hg := Blk.gets ht
  go_enter Tryz.func15, Tryz.ntmps15
  go_wp2_with (go_at_call 57; refine (asked_any b t _ _ _ (Blk.alloc ht _)).mono ?_; rintro e w' ⟨rfl, rfl⟩)
  go_ret
  refine ⟨rfl, ?_, ?_⟩
  · (apply At.of; (· (repeat' (with_reducible (first | assumption | apply Blk.set_ | apply Blk.put_ | apply Blk.alloc | apply Blk.drew | apply Blk.drewN)))); (· kernel_rfl))
  · ((repeat' (with_reducible (first | apply Kept.drew | apply Kept.drewN | apply Kept.alloc | apply Kept.setCell | apply Kept.putAt | exact Kept.refl _ _))) <;> (intro hlt; first | rfl | (simp at hlt; done) | (exfalso; simp at hlt; omega) | omega))
def tellT (t : Tr) (d : Dg) : Tr := if askedE t 0 false = 0 then { t with mid := d, turn := 1 } else t
theorem tell_any (b : Nat) (t : Tr) (d : Dg) (w : World) (ht : At w b t) :
    Calls Tryz.prog 15 #[.pointer (some ⟨b, 0, none⟩), D d] w fun e w' => e = .returned (.int .i64 (askedE t 0 false)) ∧ At w' b (tellT t d) ∧ Kept (· = b) w w' := by
  unfold tellT
  by_cases h : askedE t 0 false = 0
  · rw [if_pos h, h]; exact tell_ok b t d w ht h
  · rw [if_neg h]; exact tell_no b t d w ht (by simpa using h)

structure Sp where (from_ steps : Int) (before after : Dg)
abbrev Sp.cells (t : Sp) : Array Value := #[.int .i64 t.from_, .int .i64 t.steps,
  .int .u8 t.before.x0, .int .u8 t.before.x1, .int .u8 t.before.x2, .int .u8 t.before.x3, .int .u8 t.before.x4, .int .u8 t.before.x5, .int .u8 t.before.x6, .int .u8 t.before.x7,
  .int .u8 t.after.x0, .int .u8 t.after.x1, .int .u8 t.after.x2, .int .u8 t.after.x3, .int .u8 t.after.x4, .int .u8 t.after.x5, .int .u8 t.after.x6, .int .u8 t.after.x7]
attribute [go_sem] Sp.cells
set_option maxHeartbeats 400000 in
theorem first_any (s : Sp) (m : Dg) (w : World) (h0 : 0 ≤ s.steps) (h1 : s.steps ≤ 1048576) :
    Calls Tryz.prog 58 #[.agg #[.int .i64 s.from_, .int .i64 s.steps, .int .u8 s.before.x0, .int .u8 s.before.x1, .int .u8 s.before.x2, .int .u8 s.before.x3, .int .u8 s.before.x4, .int .u8 s.before.x5, .int .u8 s.before.x6, .int .u8 s.before.x7, .int .u8 s.after.x0, .int .u8 s.after.x1, .int .u8 s.after.x2, .int .u8 s.after.x3, .int .u8 s.after.x4, .int .u8 s.after.x5, .int .u8 s.after.x6, .int .u8 s.after.x7], .agg #[.int .u8 m.x0, .int .u8 m.x1, .int .u8 m.x2, .int .u8 m.x3, .int .u8 m.x4, .int .u8 m.x5, .int .u8 m.x6, .int .u8 m.x7]] w fun e w' => e = .returned (.agg (Sp.cells ⟨s.from_, s.steps / 2, s.before, m⟩)) ∧ Ext w w' := by
  go_enter Tryz.func58, Tryz.ntmps58
  go_wp2
  refine ret_cell Tryz.results58 rfl rfl aggSpan (by exact sizeSpan) (Blk.new' _ _ _ _ (by simp)) ⟨rfl, ?_⟩
  ((repeat' (with_reducible (first | apply Kept.drew | apply Kept.drewN | apply Kept.alloc | apply Kept.setCell | apply Kept.putAt | exact Kept.refl _ _))) <;> (intro hlt; first | rfl | (simp at hlt; done) | (exfalso; simp at hlt; omega) | omega))
set_option maxHeartbeats 400000 in
theorem second_any (s : Sp) (m : Dg) (w : World) (h0 : 0 ≤ s.steps) (h1 : s.steps ≤ 1048576) (h2 : 0 ≤ s.from_) (h3 : s.from_ ≤ 1048576) :
    Calls Tryz.prog 59 #[.agg #[.int .i64 s.from_, .int .i64 s.steps, .int .u8 s.before.x0, .int .u8 s.before.x1, .int .u8 s.before.x2, .int .u8 s.before.x3, .int .u8 s.before.x4, .int .u8 s.before.x5, .int .u8 s.before.x6, .int .u8 s.before.x7, .int .u8 s.after.x0, .int .u8 s.after.x1, .int .u8 s.after.x2, .int .u8 s.after.x3, .int .u8 s.after.x4, .int .u8 s.after.x5, .int .u8 s.after.x6, .int .u8 s.after.x7], .agg #[.int .u8 m.x0, .int .u8 m.x1, .int .u8 m.x2, .int .u8 m.x3, .int .u8 m.x4, .int .u8 m.x5, .int .u8 m.x6, .int .u8 m.x7]] w fun e w' => e = .returned (.agg (Sp.cells ⟨s.from_ + s.steps / 2, s.steps - s.steps / 2, m, s.after⟩)) ∧ Ext w w' := by
  go_enter Tryz.func59, Tryz.ntmps59
  go_wp2
  refine ret_cell Tryz.results59 rfl rfl aggSpan (by exact sizeSpan) (Blk.new' _ _ _ _ (by simp)) ⟨rfl, ?_⟩
  ((repeat' (with_reducible (first | apply Kept.drew | apply Kept.drewN | apply Kept.alloc | apply Kept.setCell | apply Kept.putAt | exact Kept.refl _ _))) <;> (intro hlt; first | rfl | (simp at hlt; done) | (exfalso; simp at hlt; omega) | omega))

set_option maxHeartbeats 400000 in
theorem winner_any (b : Nat) (t : Tr) (w : World) (ht : At w b t) :
    Calls Tryz.prog 19 #[.pointer (some ⟨b, 0, none⟩)] w fun e w' => e = .returned (.tuple #[.int .i64 t.winner, .bool (t.winner != -1)]) ∧ Ext w w' := by
  have hc := ht.cell
  go_enter Tryz.func19, Tryz.ntmps19
  go_wp2
  go_quiet (fail)
  go_wp2
  go_ret2
  refine ⟨rfl, ?_⟩
  ((repeat' (with_reducible (first | apply Kept.drew | apply Kept.drewN | apply Kept.alloc | apply Kept.setCell | apply Kept.putAt | exact Kept.refl _ _))) <;> (intro hlt; first | rfl | (simp at hlt; done) | (exfalso; simp at hlt; omega) | omega))

set_option maxHeartbeats 400000 in
theorem silence_over (b : Nat) (t : Tr) (w : World) (ht : At w b t) (h0 : (t.turn == 0) = false) (h1 : (t.turn == 1) = false) :
    Calls Tryz.prog 18 #[.pointer (some ⟨b, 0, none⟩)] w fun e w' => e = .returned (.int .i64 15) ∧ At w' b t ∧ Kept (· = b) w w' := by
  have hc := ht.cell
  go_enter Tryz.func18, Tryz.ntmps18
  go_wp2_with fail
  go_ret
  exact ⟨rfl, ht, Kept.refl _ _⟩
set_option maxHeartbeats 400000 in
theorem silence_teller (b : Nat) (t : Tr) (w : World) (ht : At w b t) (h0 : (t.turn == 0) = true) :
    Calls Tryz.prog 18 #[.pointer (some ⟨b, 0, none⟩)] w fun e w' => e = .returned (.int .i64 0) ∧ At w' b { t with turn := -1, winner := 1 } ∧ Kept (· = b) w w' := by
  have hc := ht.cell
  go_enter Tryz.func18, Tryz.ntmps18
  go_wp2_with (go_at_call 60; refine (wins_any b t _ _ ht).mono ?_; rintro e w' ⟨rfl, hA, hK⟩)
  go_ret
  exact ⟨rfl, hA, hK⟩
set_option maxHeartbeats 400000 in
theorem silence_doubter (b : Nat) (t : Tr) (w : World) (ht : At w b t) (h0 : (t.turn == 0) = false) (h1 : (t.turn == 1) = true) :
    Calls Tryz.prog 18 #[.pointer (some ⟨b, 0, none⟩)] w fun e w' => e = .returned (.int .i64 0) ∧ At w' b { t with turn := -1, winner := 0 } ∧ Kept (· = b) w w' := by
  have hc := ht.cell
  go_enter Tryz.func18, Tryz.ntmps18
  go_wp2_with (go_at_call 60; refine (wins_any b t _ _ ht).mono ?_; rintro e w' ⟨rfl, hA, hK⟩)
  go_ret
  exact ⟨rfl, hA, hK⟩

set_option maxHeartbeats 400000 in
theorem choose_no (b : Nat) (t : Tr) (f : Bool) (w : World) (ht : At w b t) (h : (askedE t 1 false == 0) = false) :
    Calls Tryz.prog 16 #[.pointer (some ⟨b, 0, none⟩), .bool f] w fun e w' => e = .returned (.int .i64 (askedE t 1 false)) ∧ At w' b t ∧ Kept (· = b) w w' := by
  go_enter Tryz.func16, Tryz.ntmps16
  go_wp2_with (go_at_call 57; refine (asked_any b t _ _ _ ht).mono ?_; rintro e w' ⟨rfl, rfl⟩)
  go_ret
  exact ⟨rfl, ht, Kept.refl _ _⟩

end Go.Proofs.YtahljceanodhkaaGreatDoor

/- Package hash: the walks of its basics. -/
namespace Go.Proofs.YtahljceanodhkaaGreatDoor
open Go.RowKit
theorem aggSt : aggT Tryz.prog 262 = true := by kernel_rfl
theorem sizeSt : sizeT Tryz.prog 262 = some 4 := by kernel_rfl
theorem wpLoadSt {dst : Option Tmp} {ty' : TypeId} {x : Operand} {pos : String} {after : Array Edge} {guard : Option (Nat × Bool)} {a : Act} {w : World} {K : Act → World → Prop} {Q : Exit → Act → World → Prop} (hx : isAt (a.eval x) = true) (hh : has w (blkOf (a.eval x)) (offOf (a.eval x)) 4 = true) :
    Oper.wp Tryz.prog { dst := dst, op := .load 262 x, type := ty', pos := pos, after := after, guard := guard } a w K Q = K (a.put dst (.agg (gets w (blkOf (a.eval x)) (offOf (a.eval x)) 4))) w := wp_load_big 4 aggSt sizeSt hx hh
theorem runLoadSt {ρ : Operand → Value} {dst : Option Tmp} {ty' : TypeId} {x : Operand} {pos : String} {after : Array Edge} {guard : Option (Nat × Bool)} {w : World} (hx : isAt (ρ x) = true) (hh : has w (blkOf (ρ x)) (offOf (ρ x)) 4 = true) :
    (execOp ρ { dst := dst, op := .load 262 x, type := ty', pos := pos, after := after, guard := guard }).run Tryz.prog w = .ok (.value (.agg (gets w (blkOf (ρ x)) (offOf (ρ x)) 4))) w := run_exec_load_big 4 aggSt sizeSt hx hh
theorem loadVarSt (w : World) (g off : Nat) (hh : has w g off 4 = true) : (loadVar 262 ⟨g, off, none⟩).run Tryz.prog w = .ok (.agg (gets w g off 4)) w := run_loadVar_big Tryz.prog w _ g off 4 aggSt sizeSt hh
attribute [go_sem] aggSt sizeSt
attribute [go_sem ↓ high] wpLoadSt loadVarSt runLoadSt
attribute [go_sem high] wpLoadSt
structure St where (a b c d : Int)
abbrev St.cells (s : St) : Array Value := #[.int .u64 s.a, .int .u64 s.b, .int .u64 s.c, .int .u64 s.d]
attribute [go_sem] St.cells
def rotl (x : Int) (k : Nat) : Int := bits .or .u64 (IntKind.u64.wrap (x * 2 ^ k)) (x / 2 ^ (64 - k))
def add64 (x y : Int) : Int := IntKind.u64.wrap (x + y)
def xor64 (x y : Int) : Int := bits .xor .u64 x y
set_option maxHeartbeats 400000 in
theorem rot32 (x : Int) (w : World) : Calls Tryz.prog 232 #[.int .u64 x, .int .i64 32] w fun e w' => e = .returned (.int .u64 (rotl x 32)) ∧ w = w' := by
  have hb : bits .and .u64 32 63 = 32 := by decide
  go_enter Tryz.func232, Tryz.ntmps232
  go_wp2
  go_ret
  exact ⟨ret_int (by simp [rotl]), rfl⟩
set_option maxHeartbeats 400000 in
theorem rot24 (x : Int) (w : World) : Calls Tryz.prog 232 #[.int .u64 x, .int .i64 24] w fun e w' => e = .returned (.int .u64 (rotl x 24)) ∧ w = w' := by
  have hb : bits .and .u64 24 63 = 24 := by decide
  go_enter Tryz.func232, Tryz.ntmps232
  go_wp2
  go_ret
  exact ⟨ret_int (by simp [rotl]), rfl⟩
set_option maxHeartbeats 400000 in
theorem rot16 (x : Int) (w : World) : Calls Tryz.prog 232 #[.int .u64 x, .int .i64 16] w fun e w' => e = .returned (.int .u64 (rotl x 16)) ∧ w = w' := by
  have hb : bits .and .u64 16 63 = 16 := by decide
  go_enter Tryz.func232, Tryz.ntmps232
  go_wp2
  go_ret
  exact ⟨ret_int (by simp [rotl]), rfl⟩
set_option maxHeartbeats 400000 in
theorem rot63 (x : Int) (w : World) : Calls Tryz.prog 232 #[.int .u64 x, .int .i64 63] w fun e w' => e = .returned (.int .u64 (rotl x 63)) ∧ w = w' := by
  have hb : bits .and .u64 63 63 = 63 := by decide
  go_enter Tryz.func232, Tryz.ntmps232
  go_wp2
  go_ret
  exact ⟨ret_int (by simp [rotl]), rfl⟩
/-- one round -/
def rnd (s : St) (r : Int) : St :=
  let a := xor64 (add64 s.a s.b) r
  let d := rotl (xor64 s.d a) 32
  let c := add64 s.c d
  let b := rotl (xor64 s.b c) 24
  let a := add64 a b
  let d := rotl (xor64 d a) 16
  let c := add64 c d
  let b := rotl (xor64 b c) 63
  ⟨a, b, c, d⟩
def rnds : Nat → St → St | 0, s => s | n + 1, s => rnd (rnds n s) (n + 1)
def stir (s : St) : St := rnds 6 s
set_option maxRecDepth 100000 in
set_option maxHeartbeats 1000000 in
theorem stir_any (b : Nat) (s : St) (w : World) (hb : Blk w b 262 s.cells) :
    Calls Tryz.prog 215 #[.pointer (some ⟨b, 0, none⟩)] w fun e w' => e = .returned (.tuple #[]) ∧ Blk w' b 262 (stir s).cells ∧ Kept (· = b) w w' := by
  have hl := Blk.lt hb
  go_enter Tryz.func215, Tryz.ntmps215
  go_wp2_with fail
  refine wp_region_3 (fun w1 => Blk w1 b 262 s.cells) [(0, 2), (1, 2), (2, 2), (3, 1), (4, 2), (5, 2), (6, 2), (7, 1), (8, 2), (9, 2), (10, 2), (11, 1), (12, 2), (13, 2), (14, 2), (15, 1), (16, 2), (17, 2), (18, 2), (19, 2)] (by kernel_rfl) (by kernel_rfl) (by kernel_rfl) (by kernel_rfl) ?_; intro l' hl'; simp only [List.map_cons, List.map_nil, List.getD_cons_zero, List.getD_cons_succ] at hl'; subst hl'
  (repeat (first | ((apply w3_pure); (· go_simp); (· (intro w1; go_simp; try with_reducible rfl)); (intro K hK; go_simp; refine hK _ _ ?_; clear hK K)) | ((apply w3_skip); (· go_simp); (intro K hK; go_simp; refine hK _ _ ?_; clear hK K)) | ((apply w3_take); (· exact hb); (· go_simp); (· (intro w1 hS; have hc := Blk.cell hS;  go_simp; try with_reducible rfl)); (intro K hK; go_simp; refine hK _ _ ?_; clear hK K)) | ((apply w3_pass); (· exact hb); (· go_simp); (intro K hK; go_simp; refine hK _ _ ?_; clear hK K))))
  refine w3_nil ?_
  go_wp2_with fail
  go_loop [2, 3, 4, 5, 23] (fun t2 t3 t4 t5 i => ∃ k : Nat, k ≤ 6 ∧ i = .int .u64 k ∧ t2 = .int .u64 (rnds k s).a ∧ t3 = .int .u64 (rnds k s).b ∧ t4 = .int .u64 (rnds k s).c ∧ t5 = .int .u64 (rnds k s).d) (fun _ _ _ _ i => 6 - (intOf i).toNat)
  case atStart => exact ⟨0, by omega, rfl, rfl, rfl, rfl, rfl⟩
  case round =>
    obtain ⟨k, hk, rfl, rfl, rfl, rfl, rfl⟩ := hrel
    by_cases hlt : k < 6
    · go_wp2_with fail
      refine (rot32 _ _).mono ?_
      rintro e w1 ⟨rfl, rfl⟩
      go_wp2_with fail
      refine (rot24 _ _).mono ?_
      rintro e w1 ⟨rfl, rfl⟩
      go_wp2_with fail
      refine (rot16 _ _).mono ?_
      rintro e w1 ⟨rfl, rfl⟩
      go_wp2_with fail
      refine (rot63 _ _).mono ?_
      rintro e w1 ⟨rfl, rfl⟩
      go_wp2_with fail
      go_round
      case rel => exact ⟨k + 1, by omega, by go_num, rfl, rfl, rfl, rfl⟩
      case measure => simp [intOf]; omega
    · have hk6 : k = 6 := by omega
      have hh := Blk.has (Blk.drew hb)
      have hm := Blk.melts (Blk.drew hb)
      subst hk6
      go_wp2_with fail
      go_end0
      refine ⟨rfl, ?_, ?_⟩
      · have := Blk.put_ (Blk.drew hb) 0 (rnds 6 s).cells
        exact this
      · ((repeat' (with_reducible (first | apply Kept.drew | apply Kept.drewN | apply Kept.alloc | apply Kept.setCell | apply Kept.putAt | exact Kept.refl _ _))) <;> (intro hlt; first | rfl | (simp at hlt; done) | (exfalso; simp at hlt; omega) | omega))
set_option maxHeartbeats 400000 in
theorem begin_any (k : Int) (w : World) : Calls Tryz.prog 184 #[.int .u64 k] w fun e w' => e = .returned (.agg (St.cells ⟨2611923443488327891, 1376283091369227076, 11820040416388919760, k⟩)) ∧ Ext w w' := by
  go_enter Tryz.func184, Tryz.ntmps184
  go_wp2
  refine ret_cell Tryz.results184 rfl rfl aggSt (by exact sizeSt) (Blk.new' _ _ _ _ (by simp)) ⟨rfl, ?_⟩
  ((repeat' (with_reducible (first | apply Kept.drew | apply Kept.drewN | apply Kept.alloc | apply Kept.setCell | apply Kept.putAt | exact Kept.refl _ _))) <;> (intro hlt; first | rfl | (simp at hlt; done) | (exfalso; simp at hlt; omega) | omega))
def taken (s : St) (n : Int) : St := stir { s with a := xor64 s.a n }
set_option maxHeartbeats 400000 in
theorem take_any (b : Nat) (s : St) (n : Int) (w : World) (hb : Blk w b 262 s.cells) :
    Calls Tryz.prog 185 #[.pointer (some ⟨b, 0, none⟩), .int .u64 n] w fun e w' => e = .returned (.tuple #[]) ∧ Blk w' b 262 (taken s n).cells ∧ Kept (· = b) w w' := by
  go_enter Tryz.func185, Tryz.ntmps185
  go_wp2_with fail
  refine wp_region_3 (fun w1 => Blk w1 b 262 s.cells) [(0, 2), (1, 2), (2, 2), (3, 1), (4, 2), (5, 2), (6, 2), (7, 2), (8, 0)] (by kernel_rfl) (by kernel_rfl) (by kernel_rfl) (by kernel_rfl) ?_; intro l' hl'; simp only [List.map_cons, List.map_nil, List.getD_cons_zero, List.getD_cons_succ] at hl'; subst hl'
  (repeat (first | ((apply w3_pure); (· go_simp); (· (intro w1; go_simp; try with_reducible rfl)); (intro K hK; go_simp; refine hK _ _ ?_; clear hK K)) | ((apply w3_skip); (· go_simp); (intro K hK; go_simp; refine hK _ _ ?_; clear hK K)) | ((apply w3_take); (· exact hb); (· go_simp); (· (intro w1 hS; have hc := Blk.cell hS;  go_simp; try with_reducible rfl)); (intro K hK; go_simp; refine hK _ _ ?_; clear hK K)) | ((apply w3_pass); (· exact hb); (· go_simp); (intro K hK; go_simp; refine hK _ _ ?_; clear hK K))))
  have hc := Blk.cell (Blk.drew hb)
  have hf := Blk.frozen (Blk.drew hb)
  (repeat (first | ((apply w3_pure); (· go_simp); (· (intro w1; go_simp; try with_reducible rfl)); (intro K hK; go_simp; refine hK _ _ ?_; clear hK K)) | ((apply w3_skip); (· go_simp); (intro K hK; go_simp; refine hK _ _ ?_; clear hK K)) | (refine w3_end (by kernel_rfl) (fun K hK => ?_); go_simp; refine hK.out _ _ ?_; clear hK K))); refine w3_nil ?_
  go_wp2_with fail
  have hb1 : Blk (w.drew.setCell ⟨b, 0, none⟩ (.int .u64 (bits .xor .u64 s.a n))) b 262 (St.cells { s with a := xor64 s.a n }) := Blk.set_ (Blk.drew hb) 0 _
  refine (stir_any b _ _ hb1).mono ?_
  rintro e w2 ⟨rfl, hb2, hx2⟩
  go_wp2_with fail
  go_end0
  refine ⟨rfl, hb2, Kept.trans ?_ hx2⟩
  ((repeat' (with_reducible (first | apply Kept.drew | apply Kept.drewN | apply Kept.alloc | apply Kept.setCell | apply Kept.putAt | exact Kept.refl _ _))) <;> (intro hlt; first | rfl | (simp at hlt; done) | (exfalso; simp at hlt; omega) | omega))
/-! ### a digest's bytes, and its number -/
def dgx (d : Dg) : Nat → Int | 0 => d.x0 | 1 => d.x1 | 2 => d.x2 | 3 => d.x3 | 4 => d.x4 | 5 => d.x5 | 6 => d.x6 | 7 => d.x7 | _ => 0
def Dg.ok (d : Dg) : Prop := ∀ j, 0 ≤ dgx d j ∧ dgx d j ≤ 255
def numK (d : Dg) : Nat → Int | 0 => 0 | k + 1 => numK d k + dgx d k * 2 ^ (8 * k)
def numD (d : Dg) : Int := numK d 8
theorem idxDig (d : Dg) (k : Nat) (hk : k < 8) (w : World) : (Instr.index 30 (.agg #[.int .u8 d.x0, .int .u8 d.x1, .int .u8 d.x2, .int .u8 d.x3, .int .u8 d.x4, .int .u8 d.x5, .int .u8 d.x6, .int .u8 d.x7]) (.int .i64 k)).run Tryz.prog w = .ok (.int .u8 (dgx d k)) w := by
  rcases (by omega : k = 0 ∨ k = 1 ∨ k = 2 ∨ k = 3 ∨ k = 4 ∨ k = 5 ∨ k = 6 ∨ k = 7) with rfl | rfl | rfl | rfl | rfl | rfl | rfl | rfl <;> kernel_rfl
theorem pow_cast (n : Nat) : ((2 ^ n : Nat) : Int) = (2 : Int) ^ n := by simp
theorem u64_in {x : Int} (h0 : 0 ≤ x) (h1 : x < 18446744073709551616) : IntKind.u64.wrap x = x := by
  simp only [IntKind.wrap, IntKind.signed, IntKind.bits]
  simp
  omega
theorem or_step (m x : Int) (j : Nat) (hj : j ≤ 56) (hm0 : 0 ≤ m) (hm : m < 2 ^ j) (hx0 : 0 ≤ x) (hx : x ≤ 255) : bits .or .u64 m (IntKind.u64.wrap (x * 2 ^ j)) = m + x * 2 ^ j ∧ m + x * 2 ^ j < 2 ^ (j + 8) := by
  obtain ⟨a, rfl⟩ := Int.eq_ofNat_of_zero_le hm0
  obtain ⟨b, rfl⟩ := Int.eq_ofNat_of_zero_le hx0
  rw [← pow_cast] at hm ⊢
  rw [← pow_cast]
  have ha : a < 2 ^ j := by omega
  have hb : b ≤ 255 := by omega
  have hp : (2 : Nat) ^ (j + 8) = 2 ^ j * 256 := Nat.pow_add 2 j 8
  have hq : (2 : Nat) ^ j ≤ 2 ^ 56 := Nat.pow_le_pow_right (by omega) hj
  have hbp : b * 2 ^ j ≤ 255 * 2 ^ j := Nat.mul_le_mul_right _ hb
  have e1 : ((b : Int) * ((2 ^ j : Nat) : Int)) = ((b * 2 ^ j : Nat) : Int) := by simp
  rw [e1, u64_in (by omega) (by omega), u64_or_nat _ _ (by omega) (by omega)]
  have e2 : a ||| b * 2 ^ j = a + b * 2 ^ j := by
    have := Nat.two_pow_add_eq_or_of_lt ha b
    rw [Nat.or_comm, Nat.mul_comm b, ← this, Nat.add_comm]
  rw [e2]
  refine ⟨by simp, by rw [hp]; omega⟩
theorem numK_lt {d : Dg} (h : d.ok) : ∀ k, k ≤ 8 → 0 ≤ numK d k ∧ numK d k < 2 ^ (8 * k)
  | 0, _ => by simp [numK]
  | k + 1, hk => by
    have ih := numK_lt h k (by omega)
    have hs := or_step (numK d k) (dgx d k) (8 * k) (by omega) ih.1 ih.2 (h k).1 (h k).2
    have hp : (0 : Int) ≤ dgx d k * 2 ^ (8 * k) := Int.mul_nonneg (h k).1 (by rw [← pow_cast]; exact Int.natCast_nonneg _)
    refine ⟨by simp only [numK]; omega, ?_⟩
    have := hs.2
    rw [show 8 * (k + 1) = 8 * k + 8 by omega]
    exact this
theorem numK_step {d : Dg} (h : d.ok) {k : Nat} (hk : k < 8) : bits .or .u64 (numK d k) (IntKind.u64.wrap (dgx d k * 2 ^ (8 * k))) = numK d (k + 1) :=
  (or_step (numK d k) (dgx d k) (8 * k) (by omega) (numK_lt h k (by omega)).1 (numK_lt h k (by omega)).2 (h k).1 (h k).2).1
set_option maxRecDepth 100000 in
set_option maxHeartbeats 400000 in
theorem num_any (d : Dg) (hd : d.ok) (w : World) : Calls Tryz.prog 95 #[.agg #[.int .u8 d.x0, .int .u8 d.x1, .int .u8 d.x2, .int .u8 d.x3, .int .u8 d.x4, .int .u8 d.x5, .int .u8 d.x6, .int .u8 d.x7]] w fun e w' => e = .returned (.int .u64 (numD d)) ∧ Ext w w' := by
  have HD := Lib.hid hd
  clear hd
  go_enter Tryz.func95, Tryz.ntmps95
  go_wp2
  go_loop [3, 7] (fun n i => ∃ k : Nat, k ≤ 8 ∧ i = .int .i64 k ∧ n = .int .u64 (numK d k)) (fun _ i => 8 - (intOf i).toNat)
  case atStart => exact ⟨0, by omega, rfl, rfl⟩
  case round =>
    obtain ⟨k, hk, rfl, rfl⟩ := hrel
    by_cases hlt : k < 8
    · have hx := idxDig d k hlt
      have hb := HD.out k
      go_wp2
      go_round
      case rel => exact ⟨k + 1, by omega, by go_num, by rw [numK_step HD.out hlt]⟩
      case measure => simp [intOf]; omega
    · have hk6 : k = 8 := by omega
      subst hk6
      go_wp2
      go_ret
      refine ⟨rfl, ?_⟩
      ((repeat' (with_reducible (first | apply Kept.drew | apply Kept.drewN | apply Kept.alloc | apply Kept.setCell | apply Kept.putAt | exact Kept.refl _ _))) <;> (intro hlt; first | rfl | (simp at hlt; done) | (exfalso; simp at hlt; omega) | omega))
def dgN (n : Int) : Dg := ⟨n % 256, n / 256 % 256, n / 65536 % 256, n / 16777216 % 256, n / 4294967296 % 256, n / 1099511627776 % 256, n / 281474976710656 % 256, n / 72057594037927936 % 256⟩
theorem dgN_ok (n : Int) : (dgN n).ok := by
  intro j
  match j with
  | 0 => simp only [dgx, dgN]; omega
  | 1 => simp only [dgx, dgN]; omega
  | 2 => simp only [dgx, dgN]; omega
  | 3 => simp only [dgx, dgN]; omega
  | 4 => simp only [dgx, dgN]; omega
  | 5 => simp only [dgx, dgN]; omega
  | 6 => simp only [dgx, dgN]; omega
  | 7 => simp only [dgx, dgN]; omega
  | n + 8 => simp [dgx]
theorem dg0_ok : Dg.zero.ok := by
  intro j
  match j with
  | 0 | 1 | 2 | 3 | 4 | 5 | 6 | 7 => simp [dgx]
  | n + 8 => simp [dgx]
set_option maxRecDepth 100000 in
set_option maxHeartbeats 400000 in
theorem fromnum_any (n : Int) (w : World) (_h0 : 0 ≤ n) : Calls Tryz.prog 129 #[.int .u64 n] w fun e w' => e = .returned (.agg (dgN n).cells) ∧ Ext w w' := by
  go_enter Tryz.func129, Tryz.ntmps129
  go_wp2
  refine wp_loop_rounds 9 ?_
  iterate 9 (rw [rounds_succ]; go_wp2)
  refine ret_cell Tryz.results129 rfl rfl aggDig (by exact sizeDig) (Blk.alloc (Blk.new' _ _ _ _ (by simp)) _) ⟨rfl, ?_⟩
  ((repeat' (with_reducible (first | apply Kept.drew | apply Kept.drewN | apply Kept.alloc | apply Kept.setCell | apply Kept.putAt | exact Kept.refl _ _))) <;> (intro hlt; first | rfl | (simp at hlt; done) | (exfalso; simp at hlt; omega) | omega))
theorem wrap64_bd (x : Int) : 0 ≤ IntKind.u64.wrap x ∧ IntKind.u64.wrap x < 18446744073709551616 := by
  simp only [IntKind.wrap, IntKind.signed, IntKind.bits]
  simp
  omega
theorem xor64_bd (x y : Int) : 0 ≤ xor64 x y ∧ xor64 x y < 18446744073709551616 := wrap64_bd _
def out (s : St) : Dg := dgN (xor64 s.a s.c)
theorem out_ok (s : St) : (out s).ok := dgN_ok _
set_option maxHeartbeats 400000 in
theorem gives_any (b : Nat) (s : St) (w : World) (hb : Blk w b 262 s.cells) :
    Calls Tryz.prog 186 #[.pointer (some ⟨b, 0, none⟩)] w fun e w' => e = .returned (.agg (out s).cells) ∧ Ext w w' := by
  have hl := Blk.lt hb
  have h0 := (xor64_bd s.a s.c).1
  have H0 := Lib.hid h0
  clear h0
  have hr := Blk.new w 30 Dg.zero.cells
  have hb1 := Blk.alloc hb (.cells Dg.zero.cells 30)
  go_enter Tryz.func186, Tryz.ntmps186
  go_wp2_with fail
  refine wp_region_3 (fun w1 => Ext (w.alloc (.cells Dg.zero.cells 30)) w1) [(0, 2), (1, 2), (2, 2), (3, 1), (4, 2), (5, 2), (6, 2), (7, 1), (8, 2), (9, 0), (10, 0)] (by kernel_rfl) (by kernel_rfl) (by kernel_rfl) (by kernel_rfl) ?_; intro l' hl'; simp only [List.map_cons, List.map_nil, List.getD_cons_zero, List.getD_cons_succ] at hl'; subst hl'
  (repeat (first | ((apply w3_pure); (· go_simp); (· (intro w1; go_simp; try with_reducible rfl)); (intro K hK; go_simp; refine hK _ _ ?_; clear hK K)) | ((apply w3_skip); (· go_simp); (intro K hK; go_simp; refine hK _ _ ?_; clear hK K)) | ((apply w3_take); (· exact (Kept.drew (Kept.refl _ _))); (· go_simp); (· (intro w1 hS; have d1 := Blk.ext hb1 hS; have hc := Blk.cell d1;  go_simp; try with_reducible rfl)); (intro K hK; go_simp; refine hK _ _ ?_; clear hK K)) | ((apply w3_pass); (· exact (Kept.drew (Kept.refl _ _))); (· go_simp); (intro K hK; go_simp; refine hK _ _ ?_; clear hK K))))
  (refine w3_act (fun K hK => ?_); go_simp)
  go_wp2_with fail
  refine (fromnum_any _ _ H0.out).mono ?_
  rintro e w2 ⟨rfl, hx2⟩
  have hx2' : Ext (w.alloc (.cells Dg.zero.cells 30)) w2 := ((Kept.refl _ _).drew).trans hx2
  refine hK.out _ _ (fun _ => hx2') ?_
  clear hK K
  have hr2 := Blk.ext hr hx2'
  have hh := Blk.has hr2
  have hm := Blk.melts hr2
  (repeat (first | ((apply w3_pure); (· go_simp); (· (intro w1; go_simp; try with_reducible rfl)); (intro K hK; go_simp; refine hK _ _ ?_; clear hK K)) | ((apply w3_skip); (· go_simp); (intro K hK; go_simp; refine hK _ _ ?_; clear hK K)) | (refine w3_end (by kernel_rfl) (fun K hK => ?_); go_simp; refine hK.out _ _ ?_; clear hK K))); refine w3_nil ?_
  go_wp2
  refine ret_cell Tryz.results186 rfl rfl aggDig (by exact sizeDig) (Blk.put_ hr2 _ _) ⟨rfl, ?_⟩
  exact Kept.putAt (((Kept.refl _ w).alloc _).trans hx2') _ _ _ (fun h => by omega)
end Go.Proofs.YtahljceanodhkaaGreatDoor

/- Package hash: Two; a slice of digests, and Many. -/
namespace Go.Proofs.YtahljceanodhkaaGreatDoor
open Go.RowKit
abbrev bg (k : Int) : St := ⟨2611923443488327891, 1376283091369227076, 11820040416388919760, k⟩
def hTwo (a b : Dg) : Dg := out (taken (taken (bg 3) (numD a)) (numD b))
set_option maxRecDepth 100000 in
set_option maxHeartbeats 1000000 in
theorem two_any (a b : Dg) (ha : a.ok) (hb : b.ok) (w : World) : Calls Tryz.prog 193 #[.agg #[.int .u8 a.x0, .int .u8 a.x1, .int .u8 a.x2, .int .u8 a.x3, .int .u8 a.x4, .int .u8 a.x5, .int .u8 a.x6, .int .u8 a.x7], .agg #[.int .u8 b.x0, .int .u8 b.x1, .int .u8 b.x2, .int .u8 b.x3, .int .u8 b.x4, .int .u8 b.x5, .int .u8 b.x6, .int .u8 b.x7]] w fun e w' => e = .returned (.agg (hTwo a b).cells) ∧ Ext w w' := by
  have HA := Lib.hid ha
  have HB := Lib.hid hb
  clear ha hb
  have hx0 : Ext w _ := (((Kept.refl _ w).alloc (.cells #[.int .u8 a.x0, .int .u8 a.x1, .int .u8 a.x2, .int .u8 a.x3, .int .u8 a.x4, .int .u8 a.x5, .int .u8 a.x6, .int .u8 a.x7] 30)).alloc (.cells #[.int .u8 b.x0, .int .u8 b.x1, .int .u8 b.x2, .int .u8 b.x3, .int .u8 b.x4, .int .u8 b.x5, .int .u8 b.x6, .int .u8 b.x7] 30)).alloc (.cells Dg.zero.cells 30)
  have hB0 : Blk _ (w.heap.size + 1) 30 b.cells := Blk.alloc (Blk.new' (w.alloc (.cells #[.int .u8 a.x0, .int .u8 a.x1, .int .u8 a.x2, .int .u8 a.x3, .int .u8 a.x4, .int .u8 a.x5, .int .u8 a.x6, .int .u8 a.x7] 30)) _ _ _ (by simp)) (.cells Dg.zero.cells 30)
  have hA0 : Blk _ w.heap.size 30 a.cells := Blk.alloc (Blk.alloc (Blk.new w _ _) (.cells #[.int .u8 b.x0, .int .u8 b.x1, .int .u8 b.x2, .int .u8 b.x3, .int .u8 b.x4, .int .u8 b.x5, .int .u8 b.x6, .int .u8 b.x7] 30)) (.cells Dg.zero.cells 30)
  have hR0 : Blk _ (w.heap.size + 1 + 1) 30 Dg.zero.cells := Blk.new' ((w.alloc (.cells #[.int .u8 a.x0, .int .u8 a.x1, .int .u8 a.x2, .int .u8 a.x3, .int .u8 a.x4, .int .u8 a.x5, .int .u8 a.x6, .int .u8 a.x7] 30)).alloc (.cells #[.int .u8 b.x0, .int .u8 b.x1, .int .u8 b.x2, .int .u8 b.x3, .int .u8 b.x4, .int .u8 b.x5, .int .u8 b.x6, .int .u8 b.x7] 30)) _ _ _ (by simp)
  go_enter Tryz.func193, Tryz.ntmps193
  go_wp2_with fail
  refine (begin_any 3 _).mono ?_
  rintro e w1 ⟨rfl, hx1⟩
  have hA1 := Blk.ext hA0 hx1
  have hB1 := Blk.ext hB0 hx1
  have hR1 := Blk.ext hR0 hx1
  have hl1 := Blk.lt hA1
  have hh1 := Blk.has hA1
  have hg1 := Blk.gets hA1
  go_wp2_with fail
  refine (num_any a HA.out _).mono ?_
  rintro e w2 ⟨rfl, hx2⟩
  have hs2 := Blk.ext (Blk.new w1 262 (bg 3).cells) hx2
  go_wp2_with fail
  refine (take_any _ _ _ _ hs2).mono ?_
  rintro e w3 ⟨rfl, hs3, hx3⟩
  have hx30 : Ext w1 w3 := (((Kept.refl _ w1).alloc _).trans hx2).trans' hx3 (fun i hi e => by omega)
  have hB3 := Blk.ext hB1 hx30
  have hh3 := Blk.has hB3
  have hg3 := Blk.gets hB3
  go_wp2_with fail
  refine (num_any b HB.out _).mono ?_
  rintro e w4 ⟨rfl, hx4⟩
  go_wp2_with fail
  refine (take_any _ _ _ _ (Blk.ext hs3 hx4)).mono ?_
  rintro e w5 ⟨rfl, hs5, hx5⟩
  have hx50 : Ext w1 w5 := (hx30.trans hx4).trans' hx5 (fun i hi e => by omega)
  go_wp2_with fail
  refine (gives_any _ _ _ hs5).mono ?_
  rintro e w6 ⟨rfl, hx6⟩
  have hR6 := Blk.ext hR1 (hx50.trans hx6)
  have hh6 := Blk.has hR6
  have hm6 := Blk.melts hR6
  go_wp2_with fail
  refine ret_cell Tryz.results193 rfl rfl aggDig (by exact sizeDig) (Blk.put_ hR6 _ _) ⟨rfl, ?_⟩
  exact Kept.putAt (((hx0.trans hx1).trans hx50).trans hx6) _ _ _ (fun h => by omega)
/-! ### cells in memory, from a place on -/
structure Row (w : World) (b off : Nat) (vs : List Value) : Prop where
  has : has w b off vs.length = true
  get : gets w b off vs.length = vs.toArray
  lt : b < w.heap.size
section
variable {w w' : World} {b off : Nat} {vs : List Value}
theorem Row.inv (h : Row w b off vs) : ∃ c t fr, w.heap[b]? = some (.cells c t fr) ∧ off + vs.length ≤ c.size ∧ (c.toList.drop off).take vs.length = vs := by
  have h1 := h.has
  have h2 := h.get
  unfold Proofs.YtahljceanodhkaaGreatDoor.has at h1
  unfold gets at h2
  split at h1
  · rename_i c t fr hq
    rw [hq] at h2
    exact ⟨c, t, fr, hq, of_decide_eq_true h1, by simpa using h2⟩
  · cases h1
theorem Row.kept {S : Nat → Prop} (h : Row w b off vs) (hk : Kept S w w') (hs : ¬ S b) : Row w' b off vs := by
  have hb := hk.block b h.lt hs
  refine ⟨?_, ?_, Nat.lt_of_lt_of_le h.lt hk.size⟩
  · have := h.has; unfold Proofs.YtahljceanodhkaaGreatDoor.has at this ⊢; rw [hb]; exact this
  · have := h.get; unfold gets at this ⊢; rw [hb]; exact this
theorem Row.ext (h : Row w b off vs) (hk : Ext w w') : Row w' b off vs := h.kept hk (fun f => f)
theorem Row.sub (h : Row w b off vs) (j m : Nat) (hj : j + m ≤ vs.length) : Proofs.YtahljceanodhkaaGreatDoor.has w b (off + j) m = true ∧ gets w b (off + j) m = ((vs.drop j).take m).toArray := by
  obtain ⟨c, t, fr, hq, hle, htk⟩ := h.inv
  unfold Proofs.YtahljceanodhkaaGreatDoor.has gets
  rw [hq]
  refine ⟨by simp; omega, ?_⟩
  show ((c.toList.drop (off + j)).take m).toArray = _
  rw [← htk, List.drop_take, List.take_take, List.drop_drop, Nat.min_eq_left (by omega)]
theorem Row.cell (h : Row w b off vs) (i : Nat) (hi : i < vs.length) : w.cell? ⟨b, off + i, none⟩ = vs[i]? := by
  obtain ⟨c, t, fr, hq, hle, htk⟩ := h.inv
  rw [cell_of_row w b (off + i) c t fr hq, ← htk, List.getElem?_take, if_pos hi, List.getElem?_drop]
  simp
theorem Row.of_blk {t : TypeId} {cs : Array Value} (h : Blk w b t cs) : Row w b 0 cs.toList := by
  refine ⟨by rw [Blk.has h]; simp, ?_, Blk.lt h⟩
  rw [Blk.gets h]
  simp [List.take_of_length_le]
end
/-- digests in memory -/
def digs (l : List Dg) : List Value := l.flatMap fun d => d.cells.toList
theorem digs_length (l : List Dg) : (digs l).length = l.length * 8 := by
  induction l with
  | nil => rfl
  | cons d l ih => simp only [digs, List.flatMap_cons, List.length_append] at ih ⊢; rw [ih]; simp; omega
theorem digs_at : ∀ (l : List Dg) (k : Nat) (hk : k < l.length), ((digs l).drop (k * 8)).take 8 = (l[k]).cells.toList
  | d :: l, 0, _ => by simp [digs]
  | d :: l, k + 1, hk => by
    have ih := digs_at l k (by simpa using hk)
    have e : (digs (d :: l)).drop ((k + 1) * 8) = (digs l).drop (k * 8) := by
      rw [show (k + 1) * 8 = 8 + k * 8 by omega, ← List.drop_drop]
      rfl
    rw [e, ih]
    simp
theorem Row.dig {w : World} {b off : Nat} {l : List Dg} (h : Row w b off (digs l)) (k : Nat) (hk : k < l.length) : Proofs.YtahljceanodhkaaGreatDoor.has w b (off + k * 8) 8 = true ∧ gets w b (off + k * 8) 8 = (l[k]).cells := by
  have := h.sub (k * 8) 8 (by rw [digs_length]; omega)
  rw [digs_at l k hk] at this
  simpa using this
def manyS (l : List Dg) : St := l.foldl (fun s d => taken s (numD d)) (bg 5)
def hMany (l : List Dg) : Dg := out (taken (manyS l) l.length)
theorem manyS_take (l : List Dg) (k : Nat) (hk : k < l.length) : manyS (l.take (k + 1)) = taken (manyS (l.take k)) (numD l[k]) := by
  unfold manyS
  rw [List.take_succ_eq_append_getElem hk, List.foldl_append]
  rfl
set_option maxRecDepth 100000 in
set_option maxHeartbeats 1000000 in
theorem many_any (A : Option Addr) (b off cap : Nat) (l : List Dg) (hl : l.length ≤ 9223372036854775807) (hok : ∀ d ∈ l, d.ok) (w : World) (hA : 0 < l.length → A = some ⟨b, off, none⟩) (hr : 0 < l.length → Row w b off (digs l)) :
    Calls Tryz.prog 128 #[.slice A l.length cap] w fun e w' => e = .returned (.agg (hMany l).cells) ∧ Ext w w' := by
  have HO := Lib.hid hok
  have HA := Lib.hid hA
  have HR := Lib.hid hr
  clear hok hA hr
  have hx0 : Ext w _ := (Kept.refl _ w).alloc (.cells Dg.zero.cells 30)
  have hR0 := Blk.new w 30 Dg.zero.cells
  obtain ⟨n, hn⟩ : ∃ n, n = l.length := ⟨_, rfl⟩
  rw [← hn] at hl ⊢
  have HNn := Lib.hid hn
  clear hn
  go_enter Tryz.func128, Tryz.ntmps128
  go_wp2_with fail
  refine (begin_any 5 _).mono ?_
  rintro e w1 ⟨rfl, hx1⟩
  go_wp2_with fail
  have hs1 := Blk.new w1 262 (bg 5).cells
  go_loopw [9] (fun i wr => ∃ k : Nat, k ≤ n ∧ i = .int .i64 k ∧ Blk wr w1.heap.size 262 (manyS (l.take k)).cells ∧ Ext w1 wr) (fun i _ => n - (intOf i).toNat)
  case atStart => exact ⟨0, by omega, rfl, hs1, (Kept.refl _ _).alloc _⟩
  case round =>
    obtain ⟨k, hk, rfl, hs, hx⟩ := hrel
    clear hs1
    by_cases hlt : k < n
    · have hkl : k < l.length := by have := HNn.out; omega
      obtain rfl := HA.out (by omega)
      have hrow := ((HR.out (by omega)).ext ((hx0.trans hx1).trans hx)).dig k hkl
      obtain ⟨hrh, hrg⟩ := hrow
      have hbl := Nat.lt_of_lt_of_le (HR.out (by omega)).lt ((hx0.trans hx1).trans hx).size
      go_wp2_with fail
      refine (num_any l[k] (HO.out _ (List.getElem_mem hkl)) _).mono ?_
      rintro e w2 ⟨rfl, hx2⟩
      go_wp2_with fail
      refine (take_any _ _ _ _ (Blk.ext (Blk.alloc hs _) hx2)).mono ?_
      rintro e w3 ⟨rfl, hs3, hx3⟩
      go_wp2_with fail
      go_roundw
      case rel => exact ⟨k + 1, by omega, by go_num, by rw [manyS_take l k hkl]; exact hs3, ((hx.alloc _).trans hx2).trans' hx3 (fun i hi e => by omega)⟩
      case measure => (simp only [intOf]; omega)
    · have hkn : k = l.length := by have := HNn.out; omega
      have HK := Lib.hid hkn
      clear hkn
      go_wp2_with fail
      refine (take_any _ _ _ _ hs).mono ?_
      rintro e w2 ⟨rfl, hs2, hx2⟩
      have hx20 : Ext w1 w2 := hx.trans' hx2 (fun i hi e => by omega)
      go_wp2_with fail
      refine (gives_any _ _ _ hs2).mono ?_
      rintro e w3 ⟨rfl, hx3⟩
      have hR3 := Blk.ext (Blk.ext hR0 hx1) (hx20.trans hx3)
      have hh3 := Blk.has hR3
      have hm3 := Blk.melts hR3
      go_wp2_with fail
      refine ret_cell Tryz.results128 rfl rfl aggDig (by exact sizeDig) (Blk.put_ hR3 _ _) ⟨?_, ?_⟩
      · unfold hMany
        rw [HK.out, List.take_length, HNn.out]
        rfl
      · exact Kept.putAt (((hx0.trans hx1).trans hx20).trans hx3) _ _ _ (fun h => by omega)
end Go.Proofs.YtahljceanodhkaaGreatDoor

/- Package hash: bytes taken in. -/
namespace Go.Proofs.YtahljceanodhkaaGreatDoor
open Go.RowKit
theorem addr_add' (b off j : Nat) : (⟨b, off, none⟩ : Addr).add j = ⟨b, off + j, none⟩ := by unfold Addr.add; split <;> simp_all
theorem arrayAtDig (w : World) (a : Option Addr) (len cap : Nat) (h : 8 ≤ len) : (Instr.arrayAt 30 (.slice a len cap)).run Tryz.prog w = .ok (.pointer a) w := by
  simp [Instr.arrayAt, run_underlying Tryz.underlying30]
  omega
attribute [go_sem] arrayAtDig
def byts (l : List Int) : List Value := l.map (Value.int .u8)
theorem byts_length (l : List Int) : (byts l).length = l.length := by simp [byts]
def dgOf (l : List Int) : Dg := ⟨l.getD 0 0, l.getD 1 0, l.getD 2 0, l.getD 3 0, l.getD 4 0, l.getD 5 0, l.getD 6 0, l.getD 7 0⟩
theorem dgOf_cells : ∀ (l : List Int), 8 ≤ l.length → (byts l).take 8 = (dgOf l).cells.toList
  | a :: b :: c :: d :: e :: f :: g :: h :: l, _ => by simp [byts, dgOf]
theorem dgx_dgOf (l : List Int) (j : Nat) (hj : j < 8) : dgx (dgOf l) j = l.getD j 0 := by
  rcases (by omega : j = 0 ∨ j = 1 ∨ j = 2 ∨ j = 3 ∨ j = 4 ∨ j = 5 ∨ j = 6 ∨ j = 7) with rfl | rfl | rfl | rfl | rfl | rfl | rfl | rfl <;> rfl
def BytesOk (l : List Int) : Prop := ∀ x ∈ l, 0 ≤ x ∧ x ≤ 255
theorem dgOf_ok {l : List Int} (h : BytesOk l) : (dgOf l).ok := by
  intro j
  by_cases hj : j < 8
  · rw [dgx_dgOf l j hj]
    by_cases hl : j < l.length
    · simp only [List.getD, List.getElem?_eq_getElem hl, Option.getD_some]; exact h _ (List.getElem_mem hl)
    · simp [List.getD, List.getElem?_eq_none (Nat.le_of_not_lt hl)]
  · match j, hj with
    | n + 8, _ => simp [dgx]
    | 0, h | 1, h | 2, h | 3, h | 4, h | 5, h | 6, h | 7, h => exact absurd (by omega) h
theorem BytesOk.drop {l : List Int} (h : BytesOk l) (n : Nat) : BytesOk (l.drop n) := fun x hx => h x (List.mem_of_mem_drop hx)
def wholeK (s : St) (l : List Int) : Nat → St | 0 => s | k + 1 => taken (wholeK s l k) (numD (dgOf (l.drop (k * 8))))
theorem Row.chunk {w : World} {b off : Nat} {l : List Int} (h : Row w b off (byts l)) (k : Nat) (hk : k * 8 + 8 ≤ l.length) : Proofs.YtahljceanodhkaaGreatDoor.has w b (off + k * 8) 8 = true ∧ gets w b (off + k * 8) 8 = (dgOf (l.drop (k * 8))).cells := by
  have := h.sub (k * 8) 8 (by rw [byts_length]; omega)
  have e : ((byts l).drop (k * 8)) = byts (l.drop (k * 8)) := by simp [byts, List.map_drop]
  rw [e, dgOf_cells _ (by simp; omega)] at this
  simpa using this
set_option maxRecDepth 100000 in
set_option maxHeartbeats 1000000 in
theorem whole_any (g : Nat) (s : St) (A : Option Addr) (b off cap : Nat) (l : List Int) (n : Nat) (hn : n = l.length) (hl : n ≤ cap) (hcap : cap ≤ 9223372036854775807) (hok : BytesOk l) (w : World) (hs : Blk w g 262 s.cells) (hA : 0 < n → A = some ⟨b, off, none⟩) (hr : 0 < n → Row w b off (byts l)) (hbg : 0 < n → ¬ b = g) :
    Calls Tryz.prog 226 #[.pointer (some ⟨g, 0, none⟩), .slice A n cap] w fun e w' => e = .returned (.tuple #[]) ∧ Blk w' g 262 (wholeK s l (n / 8)).cells ∧ Kept (· = g) w w' := by
  have HO := Lib.hid hok
  have HA := Lib.hid hA
  have HR := Lib.hid hr
  have HG := Lib.hid hbg
  have HN := Lib.hid hn
  clear hok hA hr hbg hn
  go_enter Tryz.func226, Tryz.ntmps226
  go_wp2_with fail
  go_loopw [8] (fun i wr => ∃ k : Nat, k ≤ n / 8 ∧ i = .int .i64 k ∧ Blk wr g 262 (wholeK s l k).cells ∧ Kept (· = g) w wr) (fun i _ => n / 8 - (intOf i).toNat)
  case atStart => exact ⟨0, by omega, rfl, hs, Kept.refl _ _⟩
  case round =>
    obtain ⟨k, hk, rfl, hsk, hx⟩ := hrel
    clear hs
    by_cases hlt : k < n / 8
    · have hk8 : k * 8 + 8 ≤ l.length := by have := HN.out; omega
      have hk9 : k * 8 + 8 ≤ n := by omega
      obtain rfl := HA.out (by omega)
      obtain ⟨hrh, hrg⟩ := ((HR.out (by omega)).kept hx (HG.out (by omega))).chunk k hk8
      have hcc : ¬ cap = k * 8 := by omega
      go_wp2_with fail
      refine (num_any _ (dgOf_ok (HO.out.drop _)) _).mono ?_
      rintro e w2 ⟨rfl, hx2⟩
      go_wp2_with fail
      refine (take_any _ _ _ _ (Blk.ext hsk hx2)).mono ?_
      rintro e w3 ⟨rfl, hs3, hx3⟩
      go_wp2_with fail
      go_roundw
      case rel => exact ⟨k + 1, by omega, by go_num, hs3, (hx.trans (Kept.ext hx2)).trans hx3⟩
      case measure => (simp only [intOf]; omega)
    · have hkn : k = n / 8 := by omega
      have HK := Lib.hid hkn
      clear hkn
      go_wp2_with fail
      go_end0
      exact ⟨rfl, HK.out ▸ hsk, hx⟩
theorem copy0 (w : World) (ty : TypeId) (d a : Option Addr) (dLen dCap sCap : Nat) : (Builtin.copy_ #[95, 95] ty #[.slice d dLen dCap, .slice a 0 sCap]).run Tryz.prog w = .ok (.int .i64 0) w := by
  have h := run_copy_none (P := Tryz.prog) w 95 95 ty 5 d a dLen dCap 0 sCap Tryz.underlying95 (by kernel_rfl) (by simp)
  simpa [goInt] using h
theorem copyR (w : World) (ty : TypeId) (g o dLen dCap h p sLen sCap : Nat) (cs : List Value) (hn : cs.length = Nat.min sLen dLen) (hr : Row w h p cs) (hf : flatL cs = true) (hh : has w g o cs.length = true) (hm : melts w g = true) :
    (Builtin.copy_ #[95, 95] ty #[.slice (some ⟨g, o, none⟩) dLen dCap, .slice (some ⟨h, p, none⟩) sLen sCap]).run Tryz.prog w = .ok (.int .i64 cs.length) (putAt w g o cs.toArray) := by
  unfold has at hh
  unfold melts at hm
  split at hh
  · rename_i c t fr hq
    rw [hq] at hm
    have hfr : fr = (0, 0) := by
      revert hm; obtain ⟨a, b⟩ := fr; cases a <;> cases b <;> simp
    subst hfr
    rw [putAt_eq_setRow hq]
    have := run_copy_row (P := Tryz.prog) w 95 95 ty 5 g o dLen dCap ⟨h, p, none⟩ sLen sCap c t cs Tryz.underlying95 (by kernel_rfl) hq hn (fun j v hv => by
      rw [addr_add' h p j, hr.cell j (List.getElem?_eq_some_iff.1 hv).1, hv]) (of_decide_eq_true hh) (flatL_all hf)
    rw [this]
    simp [goInt, splice]
  · cases hh
def padK (l : List Int) : Dg := dgOf (l.drop (l.length / 8 * 8) ++ [1])
def bytesS (s : St) (l : List Int) : St := taken (taken (wholeK s l (l.length / 8)) (numD (padK l))) l.length
theorem pad_cells (r : List Int) (h : r.length < 8) : (splice Dg.zero.cells 0 (byts r).toArray).setIfInBounds r.length (.int .u8 1) = (dgOf (r ++ [1])).cells := by
  match r, h with
  | [], _ => rfl
  | [a], _ => rfl
  | [a, b], _ => rfl
  | [a, b, c], _ => rfl
  | [a, b, c, d], _ => rfl
  | [a, b, c, d, e], _ => rfl
  | [a, b, c, d, e, f], _ => rfl
  | [a, b, c, d, e, f, g], _ => rfl
theorem byts_flat (l : List Int) : flatL (byts l) = true := by
  induction l with
  | nil => rfl
  | cons a l ih => simp only [byts, List.map_cons, flatL, Value.oneCell'] at ih ⊢; simpa using ih
end Go.Proofs.YtahljceanodhkaaGreatDoor

/- Package hash: the end of bytes taken in; bytes; Of; Word. -/
namespace Go.Proofs.YtahljceanodhkaaGreatDoor
open Go.RowKit
abbrev dg1' : Dg := ⟨1, 0, 0, 0, 0, 0, 0, 0⟩
theorem dg1_ok : dg1'.ok := by
  intro j
  match j with
  | 0 | 1 | 2 | 3 | 4 | 5 | 6 | 7 => simp [dgx]
  | n + 8 => simp [dgx]
set_option maxRecDepth 100000 in
set_option maxHeartbeats 1000000 in
theorem end_rest (s0 : Nat) (s : St) (b off cap : Nat) (l : List Int) (n : Nat) (hn : n = l.length) (hl : n ≤ cap) (hcap : cap ≤ 9223372036854775807) (hok : BytesOk l) (w : World) (hs : Blk w s0 262 s.cells) (hr : Row w b off (byts l)) (hm : 0 < n % 8) :
    Calls Tryz.prog 227 #[.pointer (some ⟨s0, 0, none⟩), .slice (some ⟨b, off, none⟩) n cap] w fun e w' => e = .returned (.tuple #[]) ∧ Blk w' s0 262 (taken (taken s (numD (padK l))) n).cells ∧ Kept (· = s0) w w' := by
  have HO := Lib.hid hok
  have HN := Lib.hid hn
  clear hok hn
  go_enter Tryz.func227, Tryz.ntmps227
  go_wp2_with fail
  have hW0 := Blk.new w 30 #[.int .u8 0, .int .u8 0, .int .u8 0, .int .u8 0, .int .u8 0, .int .u8 0, .int .u8 0, .int .u8 0]
  have hx0 : Ext w _ := (Kept.refl _ w).alloc (.cells #[.int .u8 0, .int .u8 0, .int .u8 0, .int .u8 0, .int .u8 0, .int .u8 0, .int .u8 0, .int .u8 0] 30)
  have hs0 := Blk.lt hs
  have hb0 := hr.lt
  generalize w.alloc (.cells #[.int .u8 0, .int .u8 0, .int .u8 0, .int .u8 0, .int .u8 0, .int .u8 0, .int .u8 0, .int .u8 0] 30) = W at hW0 hx0 ⊢
  generalize hg : w.heap.size = g at *
  have hcc : ¬ cap = n / 8 * 8 := by omega
  have hlo : n / 8 * 8 ≤ n := by omega
  have hh := Blk.has hW0
  have hme := Blk.melts hW0
  have hq1 : (0 : Int) ≤ (n : Int) / 8 * 8 := by omega
  have hq2 : ((n : Int) / 8 * 8).toNat = n / 8 * 8 := by omega
  have hq3 : ((n : Int) / 8 * 8) ≤ n := by omega
  have hw1 : IntKind.i64.wrap ((n : Int) / 8) = (n : Int) / 8 := IntWalk.i64_in _ (by omega)
  have hw2 : IntKind.i64.wrap ((n : Int) / 8 * 8) = (n : Int) / 8 * 8 := IntWalk.i64_in _ (by omega)
  obtain ⟨r, hre⟩ : ∃ r, r = (l.drop (n / 8 * 8)).length := ⟨_, rfl⟩
  have hr8 : r = n % 8 := by have := HN.out; simp at hre; omega
  have hrow : Row W.drew b (off + n / 8 * 8) (byts (l.drop (n / 8 * 8))) := by
    have h1 := (hr.ext hx0).sub (n / 8 * 8) (n - n / 8 * 8) (by rw [byts_length]; have := HN.out; omega)
    have e : ((byts l).drop (n / 8 * 8)).take (n - n / 8 * 8) = byts (l.drop (n / 8 * 8)) := by
      rw [List.take_of_length_le (by simp [byts]; have := HN.out; omega)]; simp [byts, List.map_drop]
    have e2 : (byts (l.drop (n / 8 * 8))).length = n - n / 8 * 8 := by rw [byts_length]; simp; have := HN.out; omega
    refine ⟨by rw [e2]; exact h1.1, by rw [e2, ← e]; exact h1.2, Nat.lt_of_lt_of_le hr.lt hx0.size⟩
  have hcp := copyR W.drew 3 g 0 8 8 b (off + n / 8 * 8) (n - n / 8 * 8) (cap - n / 8 * 8) (byts (l.drop (n / 8 * 8))) (by rw [byts_length, ← hre]; simp only [Nat.min_def]; split <;> omega) hrow (byts_flat _) (by rw [has_drew, Blk.has hW0]; rw [byts_length]; simp only [← hre]; simp; omega) hme
  rw [byts_length, ← hre] at hcp
  clear hrow
  have HE := Lib.hid hre
  have H8 := Lib.hid hr8
  have hrl : r < 8 := by omega
  clear hre hr8
  have hB1 := Blk.put_ (Blk.drew hW0) 0 (byts (l.drop (n / 8 * 8))).toArray
  have hx1 : Kept (· = g) W (putAt W.drew g 0 (byts (l.drop (n / 8 * 8))).toArray) := Kept.putAt ((Kept.refl _ W).drew) g 0 _ (fun _ => rfl)
  generalize hX : (byts (l.drop (n / 8 * 8))).toArray = X at hcp hB1 hx1
  have HX := Lib.hid hX
  clear hX
  generalize putAt W.drew g 0 X = W1 at hcp hB1 hx1
  refine wp_region_3 (fun _ => True) [(0, 2), (1, 2), (2, 2), (3, 2), (4, 2), (5, 2), (6, 2), (7, 0), (8, 2)] (by kernel_rfl) (by kernel_rfl) (by kernel_rfl) (by kernel_rfl) ?_; intro l' hl'; simp only [List.map_cons, List.map_nil, List.getD_cons_zero, List.getD_cons_succ] at hl'; subst hl'
  (repeat (first | ((apply w3_pure); (· go_simp); (· (intro w1; go_simp; try with_reducible rfl)); (intro K hK; go_simp; refine hK _ _ ?_; clear hK K)) | ((apply w3_skip); (· go_simp); (intro K hK; go_simp; refine hK _ _ ?_; clear hK K)) | ((apply w3_take); (· exact trivial); (· go_simp); (· (intro w1 hS;  go_simp; try with_reducible rfl)); (intro K hK; go_simp; refine hK _ _ ?_; clear hK K)) | ((apply w3_pass); (· exact trivial); (· go_simp); (intro K hK; go_simp; refine hK _ _ ?_; clear hK K))))
  (refine w3_act (fun K hK => ?_); go_simp)
  refine hK.out _ _ (fun _ => trivial) ?_
  clear hK K
  (repeat (first | ((apply w3_pure); (· go_simp); (· (intro w1; go_simp; try with_reducible rfl)); (intro K hK; go_simp; refine hK _ _ ?_; clear hK K)) | ((apply w3_skip); (· go_simp); (intro K hK; go_simp; refine hK _ _ ?_; clear hK K)) | (refine w3_end (by kernel_rfl) (fun K hK => ?_); go_simp; refine hK.out _ _ ?_; clear hK K))); refine w3_nil ?_
  clear hcp hw1 hw2 hq1 hq2 hq3 hh hme
  have hc1 := Blk.cell hB1
  have hf1 := Blk.frozen hB1
  have hsz : (splice Dg.zero.cells 0 X).size = 8 := by
    rw [← HX.out, splice_size]
    · rfl
    · simp [byts]; have := HE.out; simp at this; omega
  obtain ⟨v0, hv0⟩ : ∃ v0, (splice Dg.zero.cells 0 X)[r]? = some v0 := ⟨_, Array.getElem?_eq_getElem (by omega)⟩
  have hcr : W1.cell? ⟨g, r, none⟩ = some v0 := by rw [← hv0]; exact hc1 r
  clear hc1
  go_upto_region 3 with (fail)
  have hB2 := Blk.set_ hB1 r (.int .u8 1)
  have hpad : (splice Dg.zero.cells 0 X).setIfInBounds r (.int .u8 1) = (padK l).cells := by
    rw [← HX.out, HE.out]
    have := pad_cells (l.drop (n / 8 * 8)) (by rw [← HE.out]; exact hrl)
    rw [HN.out] at this ⊢
    exact this
  rw [hpad] at hB2
  have hx2 : Kept (· = g) W (W1.setCell ⟨g, r, none⟩ (.int .u8 1)) := Kept.setCell hx1 _ _ (fun _ => rfl)
  clear hpad hcr hv0 hsz hB1 hx1 hf1
  generalize W1.setCell ⟨g, r, none⟩ (.int .u8 1) = W2 at hB2 hx2 ⊢
  have hh2 := Blk.has hB2
  have hg2 := Blk.gets hB2
  have hok2 : (padK l).ok := by
    apply dgOf_ok
    intro x hx
    rcases List.mem_append.1 hx with h | h
    · exact HO.out.drop _ x h
    · simp at h; subst h; omega
  have HO2 := Lib.hid hok2
  clear hok2
  go_wp2_with fail
  refine (num_any (padK l) HO2.out _).mono ?_
  rintro e w3 ⟨rfl, hx3⟩
  have hs3 := Blk.ext (Blk.kept (Blk.ext hs hx0) hx2 (by omega)) hx3
  go_wp2_with fail
  refine (take_any _ _ _ _ hs3).mono ?_
  rintro e w4 ⟨rfl, hs4, hx4⟩
  go_wp2_with fail
  refine (take_any _ _ _ _ hs4).mono ?_
  rintro e w5 ⟨rfl, hs5, hx5⟩
  go_wp2_with fail
  go_end0
  refine ⟨rfl, hs5, ?_⟩
  have k1 : Ext w W2 := hx0.trans' hx2 (fun i hi e => by omega)
  exact ((Kept.ext (k1.trans hx3)).trans hx4).trans hx5
set_option maxRecDepth 100000 in
set_option maxHeartbeats 1000000 in
theorem end_whole (s0 : Nat) (s : St) (A : Option Addr) (cap : Nat) (l : List Int) (n : Nat) (hn : n = l.length) (hl : n ≤ cap) (hcap : cap ≤ 9223372036854775807) (w : World) (hs : Blk w s0 262 s.cells) (hA : (A = none ∧ n = 0 ∧ cap = 0) ∨ ∃ b off, A = some ⟨b, off, none⟩) (hm : n % 8 = 0) :
    Calls Tryz.prog 227 #[.pointer (some ⟨s0, 0, none⟩), .slice A n cap] w fun e w' => e = .returned (.tuple #[]) ∧ Blk w' s0 262 (taken (taken s (numD (padK l))) n).cells ∧ Kept (· = s0) w w' := by
  have hpad : padK l = dg1' := by
    unfold padK
    rw [List.drop_of_length_le (by omega)]
    rfl
  rw [hpad]
  clear hpad hn
  have hlo : n / 8 * 8 = n := by omega
  have hs0 := Blk.lt hs
  have hcases : (A = none ∧ n = 0 ∧ cap = 0) ∨ ∃ b off, A = some ⟨b, off, none⟩ ∧ (cap = n ∨ ¬ cap = n) := by
    rcases hA with h | ⟨b, off, h⟩
    · exact .inl h
    · exact .inr ⟨b, off, h, by omega⟩
  clear hA
  have hq1 : (0 : Int) ≤ (n : Int) / 8 * 8 := by omega
  have hq2 : ((n : Int) / 8 * 8) = n := by omega
  have HM := Lib.hid hm
  clear hm
  have hw1 : IntKind.i64.wrap ((n : Int) / 8) = (n : Int) / 8 := IntWalk.i64_in _ (by omega)
  have hw3 : IntKind.i64.wrap (n : Int) = (n : Int) := IntWalk.i64_in _ (by omega)
  clear hlo
  have hw0 : IntKind.i64.wrap 0 = 0 := by decide
  rcases hcases with ⟨rfl, rfl, rfl⟩ | ⟨b, off, rfl, rfl | hne⟩
  all_goals
    go_enter Tryz.func227, Tryz.ntmps227
    go_wp2_with fail
    refine wp_region_3 (fun _ => True) [(0, 2), (1, 2), (2, 2), (3, 2), (4, 2), (5, 2), (6, 2), (7, 0), (8, 2)] (by kernel_rfl) (by kernel_rfl) (by kernel_rfl) (by kernel_rfl) ?_; intro l' hl'; simp only [List.map_cons, List.map_nil, List.getD_cons_zero, List.getD_cons_succ] at hl'; subst hl'
    (repeat (first | ((apply w3_pure); (· go_simp); (· (intro w1; go_simp; try with_reducible rfl)); (intro K hK; go_simp; refine hK _ _ ?_; clear hK K)) | ((apply w3_skip); (· go_simp); (intro K hK; go_simp; refine hK _ _ ?_; clear hK K)) | ((apply w3_take); (· exact trivial); (· go_simp); (· (intro w1 hS;  go_simp; try with_reducible rfl)); (intro K hK; go_simp; refine hK _ _ ?_; clear hK K)) | ((apply w3_pass); (· exact trivial); (· go_simp); (intro K hK; go_simp; refine hK _ _ ?_; clear hK K))))
    (refine w3_act (fun K hK => ?_); go_simp)
    simp only [copy0] 
    go_simp
    refine hK.out _ _ (fun _ => trivial) ?_
    clear hK K
    (repeat (first | ((apply w3_pure); (· go_simp); (· (intro w1; go_simp; try with_reducible rfl)); (intro K hK; go_simp; refine hK _ _ ?_; clear hK K)) | ((apply w3_skip); (· go_simp); (intro K hK; go_simp; refine hK _ _ ?_; clear hK K)) | (refine w3_end (by kernel_rfl) (fun K hK => ?_); go_simp; refine hK.out _ _ ?_; clear hK K))); refine w3_nil ?_
    clear hw1 hw3 hq1 hq2 hw0
    go_wp2_with fail
    refine (num_any dg1' dg1_ok _).mono ?_
    rintro e w3 ⟨rfl, hx3⟩
    have hs3 := Blk.ext (Blk.drew (Blk.alloc hs _)) hx3
    go_wp2_with fail
    refine (take_any _ _ _ _ hs3).mono ?_
    rintro e w4 ⟨rfl, hs4, hx4⟩
    go_wp2_with fail
    refine (take_any _ _ _ _ hs4).mono ?_
    rintro e w5 ⟨rfl, hs5, hx5⟩
    go_wp2_with fail
    go_end0
    refine ⟨rfl, hs5, ?_⟩
    have k1 : Ext w w3 := (((Kept.refl _ w).alloc _).drew).trans hx3
    exact ((Kept.ext k1).trans hx4).trans hx5
/-- a slice of bytes: nil, or cells in memory -/
structure SlB (w : World) (A : Option Addr) (n cap : Nat) (l : List Int) : Prop where
  len : n = l.length
  le : n ≤ cap
  mx : cap ≤ 9223372036854775807
  ok : BytesOk l
  at_ : (A = none ∧ n = 0 ∧ cap = 0) ∨ ∃ b off, A = some ⟨b, off, none⟩ ∧ (0 < n → Row w b off (byts l))
theorem SlB.kept {S : Nat → Prop} {w w' : World} {A : Option Addr} {n cap : Nat} {l : List Int} (h : SlB w A n cap l) (hk : Kept S w w') (hs : ∀ b off, A = some ⟨b, off, none⟩ → 0 < n → ¬ S b) : SlB w' A n cap l := by
  refine ⟨h.len, h.le, h.mx, h.ok, ?_⟩
  rcases h.at_ with h1 | ⟨b, off, rfl, hr⟩
  · exact .inl h1
  · exact .inr ⟨b, off, rfl, fun hn => (hr hn).kept hk (hs b off rfl hn)⟩
theorem SlB.ext {w w' : World} {A : Option Addr} {n cap : Nat} {l : List Int} (h : SlB w A n cap l) (hk : Ext w w') : SlB w' A n cap l := h.kept hk (fun _ _ _ _ f => f)
theorem end_any (s0 : Nat) (s : St) (A : Option Addr) (cap : Nat) (l : List Int) (n : Nat) (w : World) (hs : Blk w s0 262 s.cells) (hb : SlB w A n cap l) :
    Calls Tryz.prog 227 #[.pointer (some ⟨s0, 0, none⟩), .slice A n cap] w fun e w' => e = .returned (.tuple #[]) ∧ Blk w' s0 262 (taken (taken s (numD (padK l))) n).cells ∧ Kept (· = s0) w w' := by
  by_cases hm : n % 8 = 0
  · refine end_whole s0 s A cap l n hb.len hb.le hb.mx w hs ?_ hm
    rcases hb.at_ with h | ⟨b, off, h, _⟩
    · exact .inl h
    · exact .inr ⟨b, off, h⟩
  · rcases hb.at_ with ⟨_, h, _⟩ | ⟨b, off, rfl, hr⟩
    · subst h; exact absurd rfl hm
    · exact end_rest s0 s b off cap l n hb.len hb.le hb.mx hb.ok w hs (hr (by omega)) (by omega)
theorem whole_sl (s0 : Nat) (s : St) (A : Option Addr) (cap : Nat) (l : List Int) (n : Nat) (w : World) (hs : Blk w s0 262 s.cells) (hb : SlB w A n cap l) (hne : ∀ b off, A = some ⟨b, off, none⟩ → 0 < n → ¬ b = s0) :
    Calls Tryz.prog 226 #[.pointer (some ⟨s0, 0, none⟩), .slice A n cap] w fun e w' => e = .returned (.tuple #[]) ∧ Blk w' s0 262 (wholeK s l (n / 8)).cells ∧ Kept (· = s0) w w' := by
  rcases hb.at_ with ⟨h1, h2, _⟩ | ⟨b, off, rfl, hr⟩
  · exact whole_any s0 s A 0 0 cap l n hb.len hb.le hb.mx hb.ok w hs (fun h => by omega) (fun h => by omega) (fun h => by omega)
  · exact whole_any s0 s _ b off cap l n hb.len hb.le hb.mx hb.ok w hs (fun _ => rfl) hr (fun h => hne b off rfl h)
set_option maxHeartbeats 400000 in
theorem bytes_any (s0 : Nat) (s : St) (A : Option Addr) (cap : Nat) (l : List Int) (n : Nat) (w : World) (hs : Blk w s0 262 s.cells) (hb : SlB w A n cap l) (hne : ∀ b off, A = some ⟨b, off, none⟩ → 0 < n → ¬ b = s0) :
    Calls Tryz.prog 194 #[.pointer (some ⟨s0, 0, none⟩), .slice A n cap] w fun e w' => e = .returned (.tuple #[]) ∧ Blk w' s0 262 (bytesS s l).cells ∧ Kept (· = s0) w w' := by
  have HB := Lib.hid hb
  have HN := Lib.hid hne
  clear hb hne
  go_enter Tryz.func194, Tryz.ntmps194
  go_wp2_with fail
  refine (whole_sl s0 s A cap l n w hs HB.out HN.out).mono ?_
  rintro e w1 ⟨rfl, hs1, hx1⟩
  go_wp2_with fail
  refine (end_any s0 _ A cap l n w1 hs1 (HB.out.kept hx1 HN.out)).mono ?_
  rintro e w2 ⟨rfl, hs2, hx2⟩
  go_wp2_with fail
  go_end0
  refine ⟨rfl, ?_, hx1.trans hx2⟩
  unfold bytesS
  rw [← HB.out.len]
  exact hs2
def hOf (l : List Int) : Dg := out (bytesS (bg 1) l)
def hWord (d : Dg) (l : List Int) : Dg := out (bytesS (taken (bg 4) (numD d)) l)
set_option maxHeartbeats 400000 in
theorem of_any (A : Option Addr) (cap : Nat) (l : List Int) (n : Nat) (w : World) (hb : SlB w A n cap l) (hlt : ∀ b off, A = some ⟨b, off, none⟩ → 0 < n → b < w.heap.size) :
    Calls Tryz.prog 141 #[.slice A n cap] w fun e w' => e = .returned (.agg (hOf l).cells) ∧ Ext w w' := by
  have HB := Lib.hid hb
  have HN := Lib.hid hlt
  clear hb hlt
  have hx0 : Ext w _ := (Kept.refl _ w).alloc (.cells Dg.zero.cells 30)
  have hR0 := Blk.new w 30 Dg.zero.cells
  go_enter Tryz.func141, Tryz.ntmps141
  go_wp2_with fail
  refine (begin_any 1 _).mono ?_
  rintro e w1 ⟨rfl, hx1⟩
  have hsz := (hx0.trans hx1).size
  go_wp2_with fail
  refine (bytes_any _ (bg 1) A cap l n _ (Blk.new w1 _ _) (HB.out.ext ((hx0.trans hx1).alloc _)) (fun b off h1 h2 => by have := HN.out b off h1 h2; omega)).mono ?_
  rintro e w2 ⟨rfl, hs2, hx2⟩
  have hx20 : Ext w1 w2 := ((Kept.refl _ w1).alloc _).trans' hx2 (fun i hi e => by omega)
  go_wp2_with fail
  refine (gives_any _ _ _ hs2).mono ?_
  rintro e w3 ⟨rfl, hx3⟩
  have hR3 := Blk.ext (Blk.ext hR0 hx1) (hx20.trans hx3)
  have hh3 := Blk.has hR3
  have hm3 := Blk.melts hR3
  go_wp2_with fail
  refine ret_cell Tryz.results141 rfl rfl aggDig (by exact sizeDig) (Blk.put_ hR3 _ _) ⟨rfl, ?_⟩
  exact Kept.putAt (((hx0.trans hx1).trans hx20).trans hx3) _ _ _ (fun h => by omega)
end Go.Proofs.YtahljceanodhkaaGreatDoor

/- Package hash: Word. -/
namespace Go.Proofs.YtahljceanodhkaaGreatDoor
open Go.RowKit
def strB (s : ByteArray) : List Int := s.data.toList.map fun b => (b.toNat : Int)
theorem strB_length (s : ByteArray) : (strB s).length = s.size := by simp [strB]
theorem strB_ok (s : ByteArray) : BytesOk (strB s) := by
  intro x hx
  simp only [strB, List.mem_map] at hx
  obtain ⟨b, _, rfl⟩ := hx
  have := b.toNat_lt
  omega
theorem bytesWorld_ext (w : World) (e : TypeId) (s : ByteArray) : Ext w (Lib.bytesWorld w e s) :=
  ⟨rfl, rfl, rfl, by rw [Lib.bytesWorld_size]; omega, fun k hk _ => Lib.bytesWorld_at_old w e s k hk⟩
theorem bytesWorld_row (w : World) (e : TypeId) (s : ByteArray) : Row (Lib.bytesWorld w e s) w.heap.size 0 (byts (strB s)) := by
  have hl : (byts (strB s)).length = s.size := by rw [byts_length, strB_length]
  have hc : (Lib.bytesCells w e s).size = s.size + (grownCap w s.size 0 e - s.size) := by simp [Lib.bytesCells]
  refine ⟨?_, ?_, by rw [Lib.bytesWorld_size]; omega⟩
  · unfold has; rw [Lib.bytesWorld_at_new, hl]; simp [hc]
  · unfold gets; rw [Lib.bytesWorld_at_new, hl]
    simp only [List.drop_zero]
    congr 1
    simp only [Lib.bytesCells, Array.toList_append, Array.toList_map]
    rw [List.take_append_of_le_length (by simp), List.take_of_length_le (by simp)]
    simp [byts, strB]
theorem bytesWorld_sl (w : World) (e : TypeId) (s : ByteArray) (hs : s.size ≤ maxLen) : SlB (Lib.bytesWorld w e s) (some ⟨w.heap.size, 0, none⟩) s.size (grownCap w s.size 0 e) (strB s) :=
  ⟨(strB_length s).symm, grownCap_ge _ _ _ _, by have := grownCap_le_maxLen w s.size 0 e hs; unfold maxLen at this; omega, strB_ok s, .inr ⟨_, _, rfl, fun _ => bytesWorld_row w e s⟩⟩
theorem convStr (w : World) (s : ByteArray) : (convert 9 95 (.string s)).run Tryz.prog w = .ok (.slice (some ⟨w.heap.size, 0, none⟩) s.size (grownCap w s.size 0 5)) (Lib.bytesWorld w 5 s) :=
  Lib.run_convert_string_bytes w _ _ _ s Tryz.underlying9 Tryz.underlying95 Tryz.underlying5
set_option maxHeartbeats 400000 in
theorem word_any (d : Dg) (hd : d.ok) (s : ByteArray) (hsz : s.size ≤ maxLen) (w : World) :
    Calls Tryz.prog 174 #[.agg #[.int .u8 d.x0, .int .u8 d.x1, .int .u8 d.x2, .int .u8 d.x3, .int .u8 d.x4, .int .u8 d.x5, .int .u8 d.x6, .int .u8 d.x7], .string s] w fun e w' => e = .returned (.agg (hWord d (strB s)).cells) ∧ Ext w w' := by
  have HD := Lib.hid hd
  have HZ := Lib.hid hsz
  clear hd hsz
  have hx0 : Ext w _ := ((Kept.refl _ w).alloc (.cells #[.int .u8 d.x0, .int .u8 d.x1, .int .u8 d.x2, .int .u8 d.x3, .int .u8 d.x4, .int .u8 d.x5, .int .u8 d.x6, .int .u8 d.x7] 30)).alloc (.cells Dg.zero.cells 30)
  have hA0 : Blk _ w.heap.size 30 d.cells := Blk.alloc (Blk.new w _ _) (.cells Dg.zero.cells 30)
  have hR0 : Blk _ (w.heap.size + 1) 30 Dg.zero.cells := Blk.new' (w.alloc (.cells #[.int .u8 d.x0, .int .u8 d.x1, .int .u8 d.x2, .int .u8 d.x3, .int .u8 d.x4, .int .u8 d.x5, .int .u8 d.x6, .int .u8 d.x7] 30)) _ _ _ (by simp)
  have hcv := fun w => convStr w s
  go_enter Tryz.func174, Tryz.ntmps174
  go_wp2_with fail
  refine (begin_any 4 _).mono ?_
  rintro e w1 ⟨rfl, hx1⟩
  have hA1 := Blk.ext hA0 hx1
  have hR1 := Blk.ext hR0 hx1
  have hl1 := Blk.lt hA1
  have hh1 := Blk.has hA1
  have hg1 := Blk.gets hA1
  go_wp2_with fail
  refine (num_any d HD.out _).mono ?_
  rintro e w2 ⟨rfl, hx2⟩
  have hs2 := Blk.ext (Blk.new w1 262 (bg 4).cells) hx2
  go_wp2_with fail
  refine (take_any _ _ _ _ hs2).mono ?_
  rintro e w3 ⟨rfl, hs3, hx3⟩
  have hx30 : Ext w1 w3 := (((Kept.refl _ w1).alloc _).trans hx2).trans' hx3 (fun i hi e => by omega)
  have hl3 := Blk.lt hs3
  go_wp2_with fail
  have hxb := bytesWorld_ext w3 5 s
  refine (bytes_any _ _ _ _ (strB s) _ _ (Blk.ext hs3 hxb) (bytesWorld_sl w3 _ s HZ.out) (fun b off h1 h2 => by injection h1 with h1; injection h1 with h1; omega)).mono ?_
  rintro e w4 ⟨rfl, hs4, hx4⟩
  have hx40 : Ext w1 w4 := (hx30.trans hxb).trans' hx4 (fun i hi e => by omega)
  go_wp2_with fail
  refine (gives_any _ _ _ hs4).mono ?_
  rintro e w5 ⟨rfl, hx5⟩
  have hR5 := Blk.ext hR1 (hx40.trans hx5)
  have hh5 := Blk.has hR5
  have hm5 := Blk.melts hR5
  go_wp2_with fail
  refine ret_cell Tryz.results174 rfl rfl aggDig (by exact sizeDig) (Blk.put_ hR5 _ _) ⟨rfl, ?_⟩
  exact Kept.putAt (((hx0.trans hx1).trans hx40).trans hx5) _ _ _ (fun h => by omega)
end Go.Proofs.YtahljceanodhkaaGreatDoor

/- Package baizeref02: the walks of its basics. -/
namespace Go.Proofs.YtahljceanodhkaaGreatDoor
open Go.RowKit
theorem aggRs : aggT Tryz.prog 254 = true := by kernel_rfl
theorem sizeRs : sizeT Tryz.prog 254 = some 4 := by kernel_rfl
theorem wpLoadRs {dst : Option Tmp} {ty' : TypeId} {x : Operand} {pos : String} {after : Array Edge} {guard : Option (Nat × Bool)} {a : Act} {w : World} {K : Act → World → Prop} {Q : Exit → Act → World → Prop} (hx : isAt (a.eval x) = true) (hh : has w (blkOf (a.eval x)) (offOf (a.eval x)) 4 = true) :
    Oper.wp Tryz.prog { dst := dst, op := .load 254 x, type := ty', pos := pos, after := after, guard := guard } a w K Q = K (a.put dst (.agg (gets w (blkOf (a.eval x)) (offOf (a.eval x)) 4))) w := wp_load_big 4 aggRs sizeRs hx hh
theorem runLoadRs {ρ : Operand → Value} {dst : Option Tmp} {ty' : TypeId} {x : Operand} {pos : String} {after : Array Edge} {guard : Option (Nat × Bool)} {w : World} (hx : isAt (ρ x) = true) (hh : has w (blkOf (ρ x)) (offOf (ρ x)) 4 = true) :
    (execOp ρ { dst := dst, op := .load 254 x, type := ty', pos := pos, after := after, guard := guard }).run Tryz.prog w = .ok (.value (.agg (gets w (blkOf (ρ x)) (offOf (ρ x)) 4))) w := run_exec_load_big 4 aggRs sizeRs hx hh
theorem loadVarRs (w : World) (g off : Nat) (hh : has w g off 4 = true) : (loadVar 254 ⟨g, off, none⟩).run Tryz.prog w = .ok (.agg (gets w g off 4)) w := run_loadVar_big Tryz.prog w _ g off 4 aggRs sizeRs hh
attribute [go_sem] aggRs sizeRs
attribute [go_sem ↓ high] wpLoadRs loadVarRs runLoadRs
attribute [go_sem high] wpLoadRs
theorem Blk.eq {w : World} {g : Nat} {t : TypeId} {cs cs' : Array Value} (h : Blk w g t cs) (e : cs = cs') : Blk w g t cs' := e ▸ h
set_option maxHeartbeats 400000 in
theorem left32 (x : Int) (w : World) : Calls Tryz.prog 231 #[.int .u64 x, .int .u64 32] w fun e w' => e = .returned (.int .u64 (rotl x 32)) ∧ w = w' := by
  go_enter Tryz.func231, Tryz.ntmps231
  go_wp2
  go_ret
  exact ⟨ret_int (by simp [rotl]), rfl⟩
set_option maxHeartbeats 400000 in
theorem left24 (x : Int) (w : World) : Calls Tryz.prog 231 #[.int .u64 x, .int .u64 24] w fun e w' => e = .returned (.int .u64 (rotl x 24)) ∧ w = w' := by
  go_enter Tryz.func231, Tryz.ntmps231
  go_wp2
  go_ret
  exact ⟨ret_int (by simp [rotl]), rfl⟩
set_option maxHeartbeats 400000 in
theorem left16 (x : Int) (w : World) : Calls Tryz.prog 231 #[.int .u64 x, .int .u64 16] w fun e w' => e = .returned (.int .u64 (rotl x 16)) ∧ w = w' := by
  go_enter Tryz.func231, Tryz.ntmps231
  go_wp2
  go_ret
  exact ⟨ret_int (by simp [rotl]), rfl⟩
set_option maxHeartbeats 400000 in
theorem left63 (x : Int) (w : World) : Calls Tryz.prog 231 #[.int .u64 x, .int .u64 63] w fun e w' => e = .returned (.int .u64 (rotl x 63)) ∧ w = w' := by
  go_enter Tryz.func231, Tryz.ntmps231
  go_wp2
  go_ret
  exact ⟨ret_int (by simp [rotl]), rfl⟩
set_option maxHeartbeats 400000 in
theorem rbegin_any (k : Int) (w : World) : Calls Tryz.prog 179 #[.int .u64 k] w fun e w' => e = .returned (.agg (bg k).cells) ∧ Ext w w' := by
  go_enter Tryz.func179, Tryz.ntmps179
  go_wp2
  refine ret_cell Tryz.results179 rfl rfl aggRs (by exact sizeRs) (Blk.new' _ _ _ _ (by simp)) ⟨rfl, ?_⟩
  ((repeat' (with_reducible (first | apply Kept.drew | apply Kept.drewN | apply Kept.alloc | apply Kept.setCell | apply Kept.putAt | exact Kept.refl _ _))) <;> (intro hlt; first | rfl | (simp at hlt; done) | (exfalso; simp at hlt; omega) | omega))
set_option maxRecDepth 100000 in
set_option maxHeartbeats 2000000 in
theorem rstir_any (s : St) (w : World) : Calls Tryz.prog 214 #[.agg s.cells] w fun e w' => e = .returned (.agg (stir s).cells) ∧ Ext w w' := by
  have hx0 : Ext w _ := ((Kept.refl _ w).alloc (.cells s.cells 254)).alloc (.cells (St.cells ⟨0, 0, 0, 0⟩) 254)
  have hB0 : Blk _ w.heap.size 254 s.cells := Blk.alloc (Blk.new w _ _) (.cells (St.cells ⟨0, 0, 0, 0⟩) 254)
  have hR0 : Blk _ (w.heap.size + 1) 254 (St.cells ⟨0, 0, 0, 0⟩) := Blk.new' (w.alloc (.cells s.cells 254)) _ _ _ (by simp)
  go_enter Tryz.func214, Tryz.ntmps214
  go_wp2_with fail
  generalize ((w.alloc (.cells #[.int .u64 s.a, .int .u64 s.b, .int .u64 s.c, .int .u64 s.d] 254)).alloc (.cells #[.int .u64 0, .int .u64 0, .int .u64 0, .int .u64 0] 254)) = W at hx0 hB0 hR0 ⊢
  go_loopw [3] (fun i wr => ∃ k : Nat, k ≤ 6 ∧ i = .int .u64 (k + 1) ∧ Blk wr w.heap.size 254 (rnds k s).cells ∧ Kept (· = w.heap.size) W wr) (fun i _ => 7 - (intOf i).toNat)
  case atStart => exact ⟨0, by omega, rfl, hB0, Kept.refl _ _⟩
  case round =>
    obtain ⟨k, hk, rfl, hb, hx⟩ := hrel
    clear hB0
    have hc := Blk.cell hb
    have hf := Blk.frozen hb
    by_cases hlt : k < 6
    · obtain ⟨t, ht⟩ : ∃ t, t = rnds k s := ⟨_, rfl⟩
      rw [← ht] at hb hc
      obtain ⟨a, b, c, d⟩ := t
      have HT := Lib.hid ht
      clear ht
      go_upto_region 5 with (fail)
      have y : Blk (wr.setCell ⟨w.heap.size, 0, none⟩ (.int .u64 (bits .xor .u64 (IntKind.u64.wrap (a + b)) ((k : Int) + 1)))) w.heap.size 254 (St.cells ⟨bits .xor .u64 (IntKind.u64.wrap (a + b)) ((k : Int) + 1), b, c, d⟩) := Blk.set_ hb 0 _
      have z := Kept.setCell hx ⟨w.heap.size, 0, none⟩ (.int .u64 (bits .xor .u64 (IntKind.u64.wrap (a + b)) ((k : Int) + 1))) (fun _ => rfl)
      clear hb hx hc hf
      generalize hE : bits .xor .u64 (IntKind.u64.wrap (a + b)) ((k : Int) + 1) = a1 at y z ⊢
      generalize wr.setCell ⟨w.heap.size, 0, none⟩ (.int .u64 a1) = w1 at y z ⊢
      have HE1 := Lib.hid hE
      clear hE
      have hb := y
      have hx := z
      clear y z
      have hc := Blk.cell hb
      have hf := Blk.frozen hb
      go_wp2_with fail
      refine (left32 _ _).mono ?_
      rintro e w' ⟨rfl, rfl⟩
      go_upto_region 6 with (fail)
      have y : Blk (w1.setCell ⟨w.heap.size, 3, none⟩ (.int .u64 (rotl (bits .xor .u64 d a1) 32))) w.heap.size 254 (St.cells ⟨a1, b, c, rotl (bits .xor .u64 d a1) 32⟩) := Blk.set_ hb 3 _
      have z := Kept.setCell hx ⟨w.heap.size, 3, none⟩ (.int .u64 (rotl (bits .xor .u64 d a1) 32)) (fun _ => rfl)
      clear hb hx hc hf
      generalize hE : rotl (bits .xor .u64 d a1) 32 = d1 at y z ⊢
      generalize w1.setCell ⟨w.heap.size, 3, none⟩ (.int .u64 d1) = w2 at y z ⊢
      have HE2 := Lib.hid hE
      clear hE
      have hb := y
      have hx := z
      clear y z
      have hc := Blk.cell hb
      have hf := Blk.frozen hb
      go_upto_region 7 with (fail)
      have y : Blk (w2.setCell ⟨w.heap.size, 2, none⟩ (.int .u64 (IntKind.u64.wrap (c + d1)))) w.heap.size 254 (St.cells ⟨a1, b, IntKind.u64.wrap (c + d1), d1⟩) := Blk.set_ hb 2 _
      have z := Kept.setCell hx ⟨w.heap.size, 2, none⟩ (.int .u64 (IntKind.u64.wrap (c + d1))) (fun _ => rfl)
      clear hb hx hc hf
      generalize hE : IntKind.u64.wrap (c + d1) = c1 at y z ⊢
      generalize w2.setCell ⟨w.heap.size, 2, none⟩ (.int .u64 c1) = w3 at y z ⊢
      have HE3 := Lib.hid hE
      clear hE
      have hb := y
      have hx := z
      clear y z
      have hc := Blk.cell hb
      have hf := Blk.frozen hb
      go_wp2_with fail
      refine (left24 _ _).mono ?_
      rintro e w' ⟨rfl, rfl⟩
      go_upto_region 8 with (fail)
      have y : Blk (w3.setCell ⟨w.heap.size, 1, none⟩ (.int .u64 (rotl (bits .xor .u64 b c1) 24))) w.heap.size 254 (St.cells ⟨a1, rotl (bits .xor .u64 b c1) 24, c1, d1⟩) := Blk.set_ hb 1 _
      have z := Kept.setCell hx ⟨w.heap.size, 1, none⟩ (.int .u64 (rotl (bits .xor .u64 b c1) 24)) (fun _ => rfl)
      clear hb hx hc hf
      generalize hE : rotl (bits .xor .u64 b c1) 24 = b1 at y z ⊢
      generalize w3.setCell ⟨w.heap.size, 1, none⟩ (.int .u64 b1) = w4 at y z ⊢
      have HE4 := Lib.hid hE
      clear hE
      have hb := y
      have hx := z
      clear y z
      have hc := Blk.cell hb
      have hf := Blk.frozen hb
      go_upto_region 9 with (fail)
      have y : Blk (w4.setCell ⟨w.heap.size, 0, none⟩ (.int .u64 (IntKind.u64.wrap (a1 + b1)))) w.heap.size 254 (St.cells ⟨IntKind.u64.wrap (a1 + b1), b1, c1, d1⟩) := Blk.set_ hb 0 _
      have z := Kept.setCell hx ⟨w.heap.size, 0, none⟩ (.int .u64 (IntKind.u64.wrap (a1 + b1))) (fun _ => rfl)
      clear hb hx hc hf
      generalize hE : IntKind.u64.wrap (a1 + b1) = a2 at y z ⊢
      generalize w4.setCell ⟨w.heap.size, 0, none⟩ (.int .u64 a2) = w5 at y z ⊢
      have HE5 := Lib.hid hE
      clear hE
      have hb := y
      have hx := z
      clear y z
      have hc := Blk.cell hb
      have hf := Blk.frozen hb
      go_wp2_with fail
      refine (left16 _ _).mono ?_
      rintro e w' ⟨rfl, rfl⟩
      go_upto_region 10 with (fail)
      have y : Blk (w5.setCell ⟨w.heap.size, 3, none⟩ (.int .u64 (rotl (bits .xor .u64 d1 a2) 16))) w.heap.size 254 (St.cells ⟨a2, b1, c1, rotl (bits .xor .u64 d1 a2) 16⟩) := Blk.set_ hb 3 _
      have z := Kept.setCell hx ⟨w.heap.size, 3, none⟩ (.int .u64 (rotl (bits .xor .u64 d1 a2) 16)) (fun _ => rfl)
      clear hb hx hc hf
      generalize hE : rotl (bits .xor .u64 d1 a2) 16 = d2 at y z ⊢
      generalize w5.setCell ⟨w.heap.size, 3, none⟩ (.int .u64 d2) = w6 at y z ⊢
      have HE6 := Lib.hid hE
      clear hE
      have hb := y
      have hx := z
      clear y z
      have hc := Blk.cell hb
      have hf := Blk.frozen hb
      go_upto_region 11 with (fail)
      have y : Blk (w6.setCell ⟨w.heap.size, 2, none⟩ (.int .u64 (IntKind.u64.wrap (c1 + d2)))) w.heap.size 254 (St.cells ⟨a2, b1, IntKind.u64.wrap (c1 + d2), d2⟩) := Blk.set_ hb 2 _
      have z := Kept.setCell hx ⟨w.heap.size, 2, none⟩ (.int .u64 (IntKind.u64.wrap (c1 + d2))) (fun _ => rfl)
      clear hb hx hc hf
      generalize hE : IntKind.u64.wrap (c1 + d2) = c2 at y z ⊢
      generalize w6.setCell ⟨w.heap.size, 2, none⟩ (.int .u64 c2) = w7 at y z ⊢
      have HE7 := Lib.hid hE
      clear hE
      have hb := y
      have hx := z
      clear y z
      have hc := Blk.cell hb
      have hf := Blk.frozen hb
      go_wp2_with fail
      refine (left63 _ _).mono ?_
      rintro e w' ⟨rfl, rfl⟩
      go_wp2_with fail
      go_roundw
      case rel =>
        have hfin : Blk (w7.setCell ⟨w.heap.size, 1, none⟩ (.int .u64 (rotl (bits .xor .u64 b1 c2) 63))) w.heap.size 254 (rnds (k + 1) s).cells := by
          refine Blk.eq (Blk.set_ hb 1 _) ?_
          have e0 : rnds (k + 1) s = rnd ⟨a, b, c, d⟩ (k + 1) := by rw [HT.out]; rfl
          rw [e0]
          have h1 := HE1.out
          have h2 := HE2.out
          have h3 := HE3.out
          have h4 := HE4.out
          have h5 := HE5.out
          have h6 := HE6.out
          have h7 := HE7.out
          subst h1 h2 h3 h4 h5 h6 h7
          rfl
        have hfk := Kept.setCell hx ⟨w.heap.size, 1, none⟩ (.int .u64 (rotl (bits .xor .u64 b1 c2) 63)) (fun _ => rfl)
        (repeat apply Exists.intro)
        exact ⟨⟨k + 1, by omega, by go_num, hfin, hfk⟩, rfl⟩
      case measure => simp [intOf]; omega
    · have hk6 : k = 6 := by omega
      subst hk6
      have hh := Blk.has hb
      have hg := Blk.gets hb
      have hR := Blk.kept hR0 hx (by omega)
      have hhR := Blk.has hR
      have hmR := Blk.melts hR
      go_wp2_with fail
      refine ret_cell Tryz.results214 rfl rfl aggRs (by exact sizeRs) (Blk.put_ hR _ _) ⟨rfl, ?_⟩
      exact Kept.putAt (hx0.trans' hx (fun i hi e => by omega)) _ _ _ (fun h => by omega)
end Go.Proofs.YtahljceanodhkaaGreatDoor

/- Package baizeref02: In, Out, FromNum, Num, Two. -/
namespace Go.Proofs.YtahljceanodhkaaGreatDoor
open Go.RowKit
theorem splice_all' {cs vs : Array Value} (h : vs.size = cs.size) : splice cs 0 vs = vs := by
  unfold splice
  simp [h, List.drop_of_length_le]
set_option maxRecDepth 100000 in
set_option maxHeartbeats 1000000 in
theorem rin_any (s : St) (n : Int) (w : World) : Calls Tryz.prog 178 #[.agg s.cells, .int .u64 n] w fun e w' => e = .returned (.agg (taken s n).cells) ∧ Ext w w' := by
  have hx0 : Ext w _ := ((Kept.refl _ w).alloc (.cells #[.int .u64 (bits .xor .u64 s.a n), .int .u64 s.b, .int .u64 s.c, .int .u64 s.d] 254)).alloc (.cells (St.cells ⟨0, 0, 0, 0⟩) 254)
  have hR0 : Blk _ (w.heap.size + 1) 254 (St.cells ⟨0, 0, 0, 0⟩) := Blk.new' (w.alloc (.cells #[.int .u64 (bits .xor .u64 s.a n), .int .u64 s.b, .int .u64 s.c, .int .u64 s.d] 254)) _ _ _ (by simp)
  go_enter Tryz.func178, Tryz.ntmps178
  go_wp2_with fail
  refine (rstir_any { s with a := xor64 s.a n } _).mono ?_
  rintro e w1 ⟨rfl, hx1⟩
  have hR1 := Blk.ext hR0 hx1
  have hh1 := Blk.has hR1
  have hm1 := Blk.melts hR1
  go_wp2_with fail
  refine ret_cell Tryz.results178 rfl rfl aggRs (by exact sizeRs) (Blk.put_ hR1 _ _) ⟨rfl, ?_⟩
  exact Kept.putAt (hx0.trans hx1) _ _ _ (fun h => by omega)
set_option maxRecDepth 100000 in
set_option maxHeartbeats 400000 in
theorem rfromnum_any (n : Int) (w : World) (h0 : 0 ≤ n) (h1 : n < 18446744073709551616) : Calls Tryz.prog 116 #[.int .u64 n] w fun e w' => e = .returned (.agg (dgN n).cells) ∧ Ext w w' := by
  have H1 := Lib.hid h1
  clear h1
  go_enter Tryz.func116, Tryz.ntmps116
  go_wp2
  refine wp_loop_rounds 9 ?_
  iterate 9 (rw [rounds_succ]; go_wp2)
  refine ret_cell Tryz.results116 rfl rfl aggArr8 (by exact sizeArr8) (Blk.alloc (Blk.new' _ _ _ _ (by simp)) _) ⟨?_, ?_⟩
  · have e : ∀ m : Int, 0 ≤ m → m < 18446744073709551616 → IntKind.u64.wrap (m.tdiv 256) = m / 256 := fun m h0 h1 => by
      rw [Int.tdiv_eq_ediv_of_nonneg h0, u64_in (by omega) (by omega)]
    have f : ∀ m : Int, 0 ≤ m → m.tmod 256 % 256 = m % 256 := fun m h0 => by rw [Int.tmod_eq_emod_of_nonneg h0]; omega
    have h1 := H1.out
    simp only [dgN, Dg.cells]
    rw [e n h0 h1, e (n / 256) (by omega) (by omega), e (n / 256 / 256) (by omega) (by omega), e (n / 256 / 256 / 256) (by omega) (by omega), e (n / 256 / 256 / 256 / 256) (by omega) (by omega), e (n / 256 / 256 / 256 / 256 / 256) (by omega) (by omega), e (n / 256 / 256 / 256 / 256 / 256 / 256) (by omega) (by omega)]
    rw [show n / 256 / 256 = n / 65536 by omega, show n / 65536 / 256 = n / 16777216 by omega, show n / 16777216 / 256 = n / 4294967296 by omega, show n / 4294967296 / 256 = n / 1099511627776 by omega, show n / 1099511627776 / 256 = n / 281474976710656 by omega, show n / 281474976710656 / 256 = n / 72057594037927936 by omega]
    rw [f _ (by omega), f _ (by omega), f _ (by omega), f _ (by omega), f _ (by omega), f _ (by omega), f _ (by omega)]
  · ((repeat' (with_reducible (first | apply Kept.drew | apply Kept.drewN | apply Kept.alloc | apply Kept.setCell | apply Kept.putAt | exact Kept.refl _ _))) <;> (intro hlt; first | rfl | (simp at hlt; done) | (exfalso; simp at hlt; omega) | omega))
set_option maxRecDepth 100000 in
set_option maxHeartbeats 1000000 in
theorem rout_any (s : St) (w : World) : Calls Tryz.prog 176 #[.agg s.cells] w fun e w' => e = .returned (.agg (out s).cells) ∧ Ext w w' := by
  have H0 := Lib.hid (xor64_bd s.a s.c).1
  have H1 := Lib.hid (xor64_bd s.a s.c).2
  have hx0 : Ext w _ := ((Kept.refl _ w).alloc (.cells s.cells 254)).alloc (.cells Dg.zero.cells 23)
  have hR0 : Blk _ (w.heap.size + 1) 23 Dg.zero.cells := Blk.new' (w.alloc (.cells s.cells 254)) _ _ _ (by simp)
  go_enter Tryz.func176, Tryz.ntmps176
  go_wp2_with fail
  refine (rfromnum_any _ _ H0.out H1.out).mono ?_
  rintro e w1 ⟨rfl, hx1⟩
  have hR1 := Blk.ext hR0 hx1
  have hh1 := Blk.has hR1
  have hm1 := Blk.melts hR1
  go_wp2_with fail
  refine ret_cell Tryz.results176 rfl rfl aggArr8 (by exact sizeArr8) (Blk.put_ hR1 _ _) ⟨rfl, ?_⟩
  exact Kept.putAt (hx0.trans hx1) _ _ _ (fun h => by omega)
set_option maxRecDepth 100000 in
set_option maxHeartbeats 1000000 in
theorem rnum_any (d : Dg) (hd : d.ok) (w : World) : Calls Tryz.prog 104 #[.agg #[.int .u8 d.x0, .int .u8 d.x1, .int .u8 d.x2, .int .u8 d.x3, .int .u8 d.x4, .int .u8 d.x5, .int .u8 d.x6, .int .u8 d.x7]] w fun e w' => e = .returned (.int .u64 (numD d)) ∧ Ext w w' := by
  have b0 := hd 0
  have b1 := hd 1
  have b2 := hd 2
  have b3 := hd 3
  have b4 := hd 4
  have b5 := hd 5
  have b6 := hd 6
  have b7 := hd 7
  simp only [dgx] at b0 b1 b2 b3 b4 b5 b6 b7
  clear hd
  obtain ⟨x0, x1, x2, x3, x4, x5, x6, x7⟩ := d
  dsimp only at *
  go_enter Tryz.func104, Tryz.ntmps104
  go_wp2
  refine wp_loop_rounds 9 ?_
  iterate 9 (rw [rounds_succ]; go_wp2)
  go_ret
  refine ⟨ret_int ?_, ?_⟩
  · simp [numD, numK, dgx]
    omega
  · ((repeat' (with_reducible (first | apply Kept.drew | apply Kept.drewN | apply Kept.alloc | apply Kept.setCell | apply Kept.putAt | exact Kept.refl _ _))) <;> (intro hlt; first | rfl | (simp at hlt; done) | (exfalso; simp at hlt; omega) | omega))
set_option maxRecDepth 100000 in
set_option maxHeartbeats 1000000 in
theorem rtwo_any (a b : Dg) (ha : a.ok) (hb : b.ok) (w : World) : Calls Tryz.prog 182 #[.agg #[.int .u8 a.x0, .int .u8 a.x1, .int .u8 a.x2, .int .u8 a.x3, .int .u8 a.x4, .int .u8 a.x5, .int .u8 a.x6, .int .u8 a.x7], .agg #[.int .u8 b.x0, .int .u8 b.x1, .int .u8 b.x2, .int .u8 b.x3, .int .u8 b.x4, .int .u8 b.x5, .int .u8 b.x6, .int .u8 b.x7]] w fun e w' => e = .returned (.agg (hTwo a b).cells) ∧ Ext w w' := by
  have HA := Lib.hid ha
  have HB := Lib.hid hb
  clear ha hb
  have hx0 : Ext w _ := (((Kept.refl _ w).alloc (.cells #[.int .u8 a.x0, .int .u8 a.x1, .int .u8 a.x2, .int .u8 a.x3, .int .u8 a.x4, .int .u8 a.x5, .int .u8 a.x6, .int .u8 a.x7] 23)).alloc (.cells #[.int .u8 b.x0, .int .u8 b.x1, .int .u8 b.x2, .int .u8 b.x3, .int .u8 b.x4, .int .u8 b.x5, .int .u8 b.x6, .int .u8 b.x7] 23)).alloc (.cells Dg.zero.cells 23)
  have hB0 : Blk _ (w.heap.size + 1) 23 b.cells := Blk.alloc (Blk.new' (w.alloc (.cells #[.int .u8 a.x0, .int .u8 a.x1, .int .u8 a.x2, .int .u8 a.x3, .int .u8 a.x4, .int .u8 a.x5, .int .u8 a.x6, .int .u8 a.x7] 23)) _ _ _ (by simp)) (.cells Dg.zero.cells 23)
  have hA0 : Blk _ w.heap.size 23 a.cells := Blk.alloc (Blk.alloc (Blk.new w _ _) (.cells #[.int .u8 b.x0, .int .u8 b.x1, .int .u8 b.x2, .int .u8 b.x3, .int .u8 b.x4, .int .u8 b.x5, .int .u8 b.x6, .int .u8 b.x7] 23)) (.cells Dg.zero.cells 23)
  have hR0 : Blk _ (w.heap.size + 1 + 1) 23 Dg.zero.cells := Blk.new' ((w.alloc (.cells #[.int .u8 a.x0, .int .u8 a.x1, .int .u8 a.x2, .int .u8 a.x3, .int .u8 a.x4, .int .u8 a.x5, .int .u8 a.x6, .int .u8 a.x7] 23)).alloc (.cells #[.int .u8 b.x0, .int .u8 b.x1, .int .u8 b.x2, .int .u8 b.x3, .int .u8 b.x4, .int .u8 b.x5, .int .u8 b.x6, .int .u8 b.x7] 23)) _ _ _ (by simp)
  go_enter Tryz.func182, Tryz.ntmps182
  go_wp2_with fail
  generalize (((w.alloc (.cells #[.int .u8 a.x0, .int .u8 a.x1, .int .u8 a.x2, .int .u8 a.x3, .int .u8 a.x4, .int .u8 a.x5, .int .u8 a.x6, .int .u8 a.x7] 23)).alloc (.cells #[.int .u8 b.x0, .int .u8 b.x1, .int .u8 b.x2, .int .u8 b.x3, .int .u8 b.x4, .int .u8 b.x5, .int .u8 b.x6, .int .u8 b.x7] 23)).alloc (.cells #[.int .u8 0, .int .u8 0, .int .u8 0, .int .u8 0, .int .u8 0, .int .u8 0, .int .u8 0, .int .u8 0] 23)) = W at hx0 hA0 hB0 hR0 ⊢
  refine wp_region_3 (fun w1 => Ext W w1) [(1, 1), (4, 1), (0, 0), (2, 0), (3, 0), (5, 0), (6, 0), (7, 0), (8, 0)] (by kernel_rfl) (by kernel_rfl) (by kernel_rfl) (by kernel_rfl) ?_; intro l' hl'; simp only [List.map_cons, List.map_nil, List.getD_cons_zero, List.getD_cons_succ] at hl'; subst hl'
  (repeat (first | ((apply w3_pure); (· go_simp); (· (intro w1; go_simp; try with_reducible rfl)); (intro K hK; go_simp; refine hK _ _ ?_; clear hK K)) | ((apply w3_skip); (· go_simp); (intro K hK; go_simp; refine hK _ _ ?_; clear hK K)) | ((apply w3_take); (· exact (Kept.drew (Kept.refl _ _))); (· go_simp); (· (intro w1 hS; have d1 := Blk.ext hA0 hS; have hh := Blk.has d1; have hg := Blk.gets d1; have d2 := Blk.ext hB0 hS; have hh2 := Blk.has d2; have hg2 := Blk.gets d2;  go_simp; try with_reducible rfl)); (intro K hK; go_simp; refine hK _ _ ?_; clear hK K)) | ((apply w3_pass); (· exact (Kept.drew (Kept.refl _ _))); (· go_simp); (intro K hK; go_simp; refine hK _ _ ?_; clear hK K))))
  (refine w3_act (fun K hK => ?_); go_simp)
  go_wp2_with fail
  refine (rbegin_any 3 _).mono ?_
  rintro e w1 ⟨rfl, hx1⟩
  have y1 : Ext W w1 := ((Kept.refl _ W).drew).trans hx1
  refine hK.out _ _ (fun _ => y1) ?_
  clear hK K
  (refine w3_act (fun K hK => ?_); go_simp)
  go_wp2_with fail
  refine (rnum_any a HA.out _).mono ?_
  rintro e w2 ⟨rfl, hx2⟩
  have y2 := y1.trans hx2
  refine hK.out _ _ (fun _ => y2) ?_
  clear hK K
  (refine w3_act (fun K hK => ?_); go_simp)
  go_wp2_with fail
  refine (rin_any (bg 3) _ _).mono ?_
  rintro e w3 ⟨rfl, hx3⟩
  have y3 := y2.trans hx3
  refine hK.out _ _ (fun _ => y3) ?_
  clear hK K
  (refine w3_act (fun K hK => ?_); go_simp)
  go_wp2_with fail
  refine (rnum_any b HB.out _).mono ?_
  rintro e w4 ⟨rfl, hx4⟩
  have y4 := y3.trans hx4
  refine hK.out _ _ (fun _ => y4) ?_
  clear hK K
  (refine w3_act (fun K hK => ?_); go_simp)
  go_wp2_with fail
  refine (rin_any _ _ _).mono ?_
  rintro e w5 ⟨rfl, hx5⟩
  have y5 := y4.trans hx5
  refine hK.out _ _ (fun _ => y5) ?_
  clear hK K
  (refine w3_act (fun K hK => ?_); go_simp)
  go_wp2_with fail
  refine (rout_any _ _).mono ?_
  rintro e w6 ⟨rfl, hx6⟩
  have y6 := y5.trans hx6
  refine hK.out _ _ (fun _ => y6) ?_
  clear hK K
  have hR6 := Blk.ext hR0 y6
  have hh6 := Blk.has hR6
  have hm6 := Blk.melts hR6
  (repeat (first | ((apply w3_pure); (· go_simp); (· (intro w1; go_simp; try with_reducible rfl)); (intro K hK; go_simp; refine hK _ _ ?_; clear hK K)) | ((apply w3_skip); (· go_simp); (intro K hK; go_simp; refine hK _ _ ?_; clear hK K)) | (refine w3_end (by kernel_rfl) (fun K hK => ?_); go_simp; refine hK.out _ _ ?_; clear hK K))); refine w3_nil ?_
  go_wp2_with fail
  refine ret_cell Tryz.results182 rfl rfl aggArr8 (by exact sizeArr8) (Blk.put_ hR6 _ _) ⟨rfl, ?_⟩
  exact Kept.putAt (hx0.trans y6) _ _ _ (fun h => by omega)
set_option maxRecDepth 100000 in
set_option maxHeartbeats 1000000 in
theorem rmany_any (A : Option Addr) (b off cap : Nat) (l : List Dg) (hl : l.length ≤ 9223372036854775807) (hok : ∀ d ∈ l, d.ok) (w : World) (hA : 0 < l.length → A = some ⟨b, off, none⟩) (hr : 0 < l.length → Row w b off (digs l)) :
    Calls Tryz.prog 131 #[.slice A l.length cap] w fun e w' => e = .returned (.agg (hMany l).cells) ∧ Ext w w' := by
  have HO := Lib.hid hok
  have HA := Lib.hid hA
  have HR := Lib.hid hr
  clear hok hA hr
  have hx0 : Ext w _ := (Kept.refl _ w).alloc (.cells Dg.zero.cells 23)
  have hR0 := Blk.new w 23 Dg.zero.cells
  obtain ⟨n, hn⟩ : ∃ n, n = l.length := ⟨_, rfl⟩
  rw [← hn] at hl ⊢
  have HNn := Lib.hid hn
  clear hn
  go_enter Tryz.func131, Tryz.ntmps131
  go_wp2_with fail
  refine (rbegin_any 5 _).mono ?_
  rintro e w1 ⟨rfl, hx1⟩
  go_wp2_with fail
  have hs1 := Blk.new w1 254 (bg 5).cells
  have hz1 := (Kept.refl (· = w1.heap.size) w1).alloc (.cells (bg 5).cells 254)
  generalize w1.alloc (.cells #[.int .u64 2611923443488327891, .int .u64 1376283091369227076, .int .u64 11820040416388919760, .int .u64 5] 254) = W at hs1 hz1 ⊢
  go_loopw [4] (fun i wr => ∃ k : Nat, k ≤ n ∧ i = .int .i64 k ∧ Blk wr w1.heap.size 254 (manyS (l.take k)).cells ∧ Ext w1 wr) (fun i _ => n - (intOf i).toNat)
  case atStart => exact ⟨0, by omega, rfl, hs1, hz1.mono (fun i hi e => by omega)⟩
  case round =>
    obtain ⟨k, hk, rfl, hs, hx⟩ := hrel
    clear hs1 hz1
    by_cases hlt : k < n
    · have hkl : k < l.length := by have := HNn.out; omega
      obtain rfl := HA.out (by omega)
      have hrow := ((HR.out (by omega)).ext ((hx0.trans hx1).trans hx))
      have HRW := Lib.hid hrow
      clear hrow
      go_wp2_with fail
      refine wp_region_3 (fun w1 => Ext wr w1) [(0, 1), (1, 2), (2, 2), (3, 2), (4, 1), (5, 0), (6, 0), (7, 0)] (by kernel_rfl) (by kernel_rfl) (by kernel_rfl) (by kernel_rfl) ?_; intro l' hl'; simp only [List.map_cons, List.map_nil, List.getD_cons_zero, List.getD_cons_succ] at hl'; subst hl'
      (repeat (first | ((apply w3_pure); (· go_simp); (· (intro w1; go_simp; try with_reducible rfl)); (intro K hK; go_simp; refine hK _ _ ?_; clear hK K)) | ((apply w3_skip); (· go_simp); (intro K hK; go_simp; refine hK _ _ ?_; clear hK K)) | ((apply w3_take); (· exact (Kept.drew (Kept.refl _ _))); (· go_simp); (· (intro w1 hS; have d1 := Blk.ext hs hS; have hh := Blk.has d1; have hg := Blk.gets d1; have hd2 := (HRW.out.ext hS).dig k hkl; obtain ⟨hrh, hrg⟩ := hd2;  go_simp; try with_reducible rfl)); (intro K hK; go_simp; refine hK _ _ ?_; clear hK K)) | ((apply w3_pass); (· exact (Kept.drew (Kept.refl _ _))); (· go_simp); (intro K hK; go_simp; refine hK _ _ ?_; clear hK K))))
      (refine w3_act (fun K hK => ?_); go_simp)
      go_wp2_with fail
      refine (rnum_any l[k] (HO.out _ (List.getElem_mem hkl)) _).mono ?_
      rintro e w2 ⟨rfl, hx2⟩
      have y2 : Ext wr w2 := ((Kept.refl _ wr).drew).trans hx2
      refine hK.out _ _ (fun _ => y2) ?_
      clear hK K
      (refine w3_act (fun K hK => ?_); go_simp)
      go_wp2_with fail
      refine (rin_any _ _ _).mono ?_
      rintro e w3 ⟨rfl, hx3⟩
      have y3 := y2.trans hx3
      refine hK.out _ _ (fun _ => y3) ?_
      clear hK K
      have hs3 := Blk.ext hs y3
      have hh3 := Blk.has hs3
      have hm3 := Blk.melts hs3
      (repeat (first | ((apply w3_pure); (· go_simp); (· (intro w1; go_simp; try with_reducible rfl)); (intro K hK; go_simp; refine hK _ _ ?_; clear hK K)) | ((apply w3_skip); (· go_simp); (intro K hK; go_simp; refine hK _ _ ?_; clear hK K)) | (refine w3_end (by kernel_rfl) (fun K hK => ?_); go_simp; refine hK.out _ _ ?_; clear hK K))); refine w3_nil ?_
      have hs4 := Blk.put_ hs3 0 (taken (manyS (l.take k)) (numD l[k])).cells
      rw [splice_all' (by rfl)] at hs4
      go_wp2_with fail
      go_roundw
      case rel => exact ⟨k + 1, by omega, by go_num, by rw [manyS_take l k hkl]; exact hs4, Kept.putAt (hx.trans y3) _ _ _ (fun h => by omega)⟩
      case measure => (simp only [intOf]; omega)
    · have hkn : k = l.length := by have := HNn.out; omega
      have HK := Lib.hid hkn
      clear hkn
      have hh := Blk.has hs
      have hg := Blk.gets hs
      go_wp2_with fail
      refine (rin_any _ _ _).mono ?_
      rintro e w2 ⟨rfl, hx2⟩
      go_wp2_with fail
      refine (rout_any _ _).mono ?_
      rintro e w3 ⟨rfl, hx3⟩
      have y3 := (hx.trans hx2).trans hx3
      have hR3 := Blk.ext (Blk.ext hR0 hx1) y3
      have hh3 := Blk.has hR3
      have hm3 := Blk.melts hR3
      go_wp2_with fail
      refine ret_cell Tryz.results131 rfl rfl aggArr8 (by exact sizeArr8) (Blk.put_ hR3 _ _) ⟨?_, ?_⟩
      · unfold hMany
        rw [HK.out, List.take_length, HNn.out]
        rfl
      · exact Kept.putAt ((hx0.trans hx1).trans y3) _ _ _ (fun h => by omega)
end Go.Proofs.YtahljceanodhkaaGreatDoor
