/- Several texts joined: Qa, Qb, Qc, Qd, Qe, Qf, Qg, Qh. -/
import Derived.Lib.AppendZeros
import Derived.Test.YtfamkemdgbnegaaDoorSdb
/- Sorts: values of many cells, and the small functions. -/
namespace Go.Proofs.YtfamkemdgbnegaaDoor
open Go.RowKit So
attribute [go_sem ↓ high] wp_store_big
attribute [go_sem high] wp_store_big
theorem aggVarR : aggT Tryd.prog 29 = true := by kernel_rfl
theorem sizeVarR : sizeT Tryd.prog 29 = some 4 := by kernel_rfl
theorem wpLoadVarR {dst : Option Tmp} {ty' : TypeId} {x : Operand} {pos : String} {after : Array Edge} {guard : Option (Nat × Bool)} {a : Act} {w : World} {K : Act → World → Prop} {Q : Exit → Act → World → Prop} (hx : isAt (a.eval x) = true) (hh : has w (blkOf (a.eval x)) (offOf (a.eval x)) 4 = true) :
    Oper.wp Tryd.prog { dst := dst, op := .load 29 x, type := ty', pos := pos, after := after, guard := guard } a w K Q = K (a.put dst (.agg (gets w (blkOf (a.eval x)) (offOf (a.eval x)) 4))) w := wp_load_big 4 aggVarR sizeVarR hx hh
theorem runLoadVarR {ρ : Operand → Value} {dst : Option Tmp} {ty' : TypeId} {x : Operand} {pos : String} {after : Array Edge} {guard : Option (Nat × Bool)} {w : World} (hx : isAt (ρ x) = true) (hh : has w (blkOf (ρ x)) (offOf (ρ x)) 4 = true) :
    (execOp ρ { dst := dst, op := .load 29 x, type := ty', pos := pos, after := after, guard := guard }).run Tryd.prog w = .ok (.value (.agg (gets w (blkOf (ρ x)) (offOf (ρ x)) 4))) w := run_exec_load_big 4 aggVarR sizeVarR hx hh
theorem loadVarVarR (w : World) (g off : Nat) (hh : has w g off 4 = true) : (loadVar 29 ⟨g, off, none⟩).run Tryd.prog w = .ok (.agg (gets w g off 4)) w := run_loadVar_big Tryd.prog w _ g off 4 aggVarR sizeVarR hh
attribute [go_sem] aggVarR sizeVarR
attribute [go_sem ↓ high] wpLoadVarR loadVarVarR runLoadVarR
attribute [go_sem high] wpLoadVarR
theorem aggVarS : aggT Tryd.prog 54 = true := by kernel_rfl
theorem sizeVarS : sizeT Tryd.prog 54 = some 4 := by kernel_rfl
theorem wpLoadVarS {dst : Option Tmp} {ty' : TypeId} {x : Operand} {pos : String} {after : Array Edge} {guard : Option (Nat × Bool)} {a : Act} {w : World} {K : Act → World → Prop} {Q : Exit → Act → World → Prop} (hx : isAt (a.eval x) = true) (hh : has w (blkOf (a.eval x)) (offOf (a.eval x)) 4 = true) :
    Oper.wp Tryd.prog { dst := dst, op := .load 54 x, type := ty', pos := pos, after := after, guard := guard } a w K Q = K (a.put dst (.agg (gets w (blkOf (a.eval x)) (offOf (a.eval x)) 4))) w := wp_load_big 4 aggVarS sizeVarS hx hh
theorem runLoadVarS {ρ : Operand → Value} {dst : Option Tmp} {ty' : TypeId} {x : Operand} {pos : String} {after : Array Edge} {guard : Option (Nat × Bool)} {w : World} (hx : isAt (ρ x) = true) (hh : has w (blkOf (ρ x)) (offOf (ρ x)) 4 = true) :
    (execOp ρ { dst := dst, op := .load 54 x, type := ty', pos := pos, after := after, guard := guard }).run Tryd.prog w = .ok (.value (.agg (gets w (blkOf (ρ x)) (offOf (ρ x)) 4))) w := run_exec_load_big 4 aggVarS sizeVarS hx hh
theorem loadVarVarS (w : World) (g off : Nat) (hh : has w g off 4 = true) : (loadVar 54 ⟨g, off, none⟩).run Tryd.prog w = .ok (.agg (gets w g off 4)) w := run_loadVar_big Tryd.prog w _ g off 4 aggVarS sizeVarS hh
attribute [go_sem] aggVarS sizeVarS
attribute [go_sem ↓ high] wpLoadVarS loadVarVarS runLoadVarS
attribute [go_sem high] wpLoadVarS
theorem aggExprR : aggT Tryd.prog 36 = true := by kernel_rfl
theorem sizeExprR : sizeT Tryd.prog 36 = some 4 := by kernel_rfl
theorem wpLoadExprR {dst : Option Tmp} {ty' : TypeId} {x : Operand} {pos : String} {after : Array Edge} {guard : Option (Nat × Bool)} {a : Act} {w : World} {K : Act → World → Prop} {Q : Exit → Act → World → Prop} (hx : isAt (a.eval x) = true) (hh : has w (blkOf (a.eval x)) (offOf (a.eval x)) 4 = true) :
    Oper.wp Tryd.prog { dst := dst, op := .load 36 x, type := ty', pos := pos, after := after, guard := guard } a w K Q = K (a.put dst (.agg (gets w (blkOf (a.eval x)) (offOf (a.eval x)) 4))) w := wp_load_big 4 aggExprR sizeExprR hx hh
theorem runLoadExprR {ρ : Operand → Value} {dst : Option Tmp} {ty' : TypeId} {x : Operand} {pos : String} {after : Array Edge} {guard : Option (Nat × Bool)} {w : World} (hx : isAt (ρ x) = true) (hh : has w (blkOf (ρ x)) (offOf (ρ x)) 4 = true) :
    (execOp ρ { dst := dst, op := .load 36 x, type := ty', pos := pos, after := after, guard := guard }).run Tryd.prog w = .ok (.value (.agg (gets w (blkOf (ρ x)) (offOf (ρ x)) 4))) w := run_exec_load_big 4 aggExprR sizeExprR hx hh
theorem loadVarExprR (w : World) (g off : Nat) (hh : has w g off 4 = true) : (loadVar 36 ⟨g, off, none⟩).run Tryd.prog w = .ok (.agg (gets w g off 4)) w := run_loadVar_big Tryd.prog w _ g off 4 aggExprR sizeExprR hh
attribute [go_sem] aggExprR sizeExprR
attribute [go_sem ↓ high] wpLoadExprR loadVarExprR runLoadExprR
attribute [go_sem high] wpLoadExprR
theorem aggExprS : aggT Tryd.prog 120 = true := by kernel_rfl
theorem sizeExprS : sizeT Tryd.prog 120 = some 4 := by kernel_rfl
theorem wpLoadExprS {dst : Option Tmp} {ty' : TypeId} {x : Operand} {pos : String} {after : Array Edge} {guard : Option (Nat × Bool)} {a : Act} {w : World} {K : Act → World → Prop} {Q : Exit → Act → World → Prop} (hx : isAt (a.eval x) = true) (hh : has w (blkOf (a.eval x)) (offOf (a.eval x)) 4 = true) :
    Oper.wp Tryd.prog { dst := dst, op := .load 120 x, type := ty', pos := pos, after := after, guard := guard } a w K Q = K (a.put dst (.agg (gets w (blkOf (a.eval x)) (offOf (a.eval x)) 4))) w := wp_load_big 4 aggExprS sizeExprS hx hh
theorem runLoadExprS {ρ : Operand → Value} {dst : Option Tmp} {ty' : TypeId} {x : Operand} {pos : String} {after : Array Edge} {guard : Option (Nat × Bool)} {w : World} (hx : isAt (ρ x) = true) (hh : has w (blkOf (ρ x)) (offOf (ρ x)) 4 = true) :
    (execOp ρ { dst := dst, op := .load 120 x, type := ty', pos := pos, after := after, guard := guard }).run Tryd.prog w = .ok (.value (.agg (gets w (blkOf (ρ x)) (offOf (ρ x)) 4))) w := run_exec_load_big 4 aggExprS sizeExprS hx hh
theorem loadVarExprS (w : World) (g off : Nat) (hh : has w g off 4 = true) : (loadVar 120 ⟨g, off, none⟩).run Tryd.prog w = .ok (.agg (gets w g off 4)) w := run_loadVar_big Tryd.prog w _ g off 4 aggExprS sizeExprS hh
attribute [go_sem] aggExprS sizeExprS
attribute [go_sem ↓ high] wpLoadExprS loadVarExprS runLoadExprS
attribute [go_sem high] wpLoadExprS
theorem aggStmtR : aggT Tryd.prog 34 = true := by kernel_rfl
theorem sizeStmtR : sizeT Tryd.prog 34 = some 7 := by kernel_rfl
theorem wpLoadStmtR {dst : Option Tmp} {ty' : TypeId} {x : Operand} {pos : String} {after : Array Edge} {guard : Option (Nat × Bool)} {a : Act} {w : World} {K : Act → World → Prop} {Q : Exit → Act → World → Prop} (hx : isAt (a.eval x) = true) (hh : has w (blkOf (a.eval x)) (offOf (a.eval x)) 7 = true) :
    Oper.wp Tryd.prog { dst := dst, op := .load 34 x, type := ty', pos := pos, after := after, guard := guard } a w K Q = K (a.put dst (.agg (gets w (blkOf (a.eval x)) (offOf (a.eval x)) 7))) w := wp_load_big 7 aggStmtR sizeStmtR hx hh
theorem runLoadStmtR {ρ : Operand → Value} {dst : Option Tmp} {ty' : TypeId} {x : Operand} {pos : String} {after : Array Edge} {guard : Option (Nat × Bool)} {w : World} (hx : isAt (ρ x) = true) (hh : has w (blkOf (ρ x)) (offOf (ρ x)) 7 = true) :
    (execOp ρ { dst := dst, op := .load 34 x, type := ty', pos := pos, after := after, guard := guard }).run Tryd.prog w = .ok (.value (.agg (gets w (blkOf (ρ x)) (offOf (ρ x)) 7))) w := run_exec_load_big 7 aggStmtR sizeStmtR hx hh
theorem loadVarStmtR (w : World) (g off : Nat) (hh : has w g off 7 = true) : (loadVar 34 ⟨g, off, none⟩).run Tryd.prog w = .ok (.agg (gets w g off 7)) w := run_loadVar_big Tryd.prog w _ g off 7 aggStmtR sizeStmtR hh
attribute [go_sem] aggStmtR sizeStmtR
attribute [go_sem ↓ high] wpLoadStmtR loadVarStmtR runLoadStmtR
attribute [go_sem high] wpLoadStmtR
theorem aggStmtS : aggT Tryd.prog 83 = true := by kernel_rfl
theorem sizeStmtS : sizeT Tryd.prog 83 = some 7 := by kernel_rfl
theorem wpLoadStmtS {dst : Option Tmp} {ty' : TypeId} {x : Operand} {pos : String} {after : Array Edge} {guard : Option (Nat × Bool)} {a : Act} {w : World} {K : Act → World → Prop} {Q : Exit → Act → World → Prop} (hx : isAt (a.eval x) = true) (hh : has w (blkOf (a.eval x)) (offOf (a.eval x)) 7 = true) :
    Oper.wp Tryd.prog { dst := dst, op := .load 83 x, type := ty', pos := pos, after := after, guard := guard } a w K Q = K (a.put dst (.agg (gets w (blkOf (a.eval x)) (offOf (a.eval x)) 7))) w := wp_load_big 7 aggStmtS sizeStmtS hx hh
theorem runLoadStmtS {ρ : Operand → Value} {dst : Option Tmp} {ty' : TypeId} {x : Operand} {pos : String} {after : Array Edge} {guard : Option (Nat × Bool)} {w : World} (hx : isAt (ρ x) = true) (hh : has w (blkOf (ρ x)) (offOf (ρ x)) 7 = true) :
    (execOp ρ { dst := dst, op := .load 83 x, type := ty', pos := pos, after := after, guard := guard }).run Tryd.prog w = .ok (.value (.agg (gets w (blkOf (ρ x)) (offOf (ρ x)) 7))) w := run_exec_load_big 7 aggStmtS sizeStmtS hx hh
theorem loadVarStmtS (w : World) (g off : Nat) (hh : has w g off 7 = true) : (loadVar 83 ⟨g, off, none⟩).run Tryd.prog w = .ok (.agg (gets w g off 7)) w := run_loadVar_big Tryd.prog w _ g off 7 aggStmtS sizeStmtS hh
attribute [go_sem] aggStmtS sizeStmtS
attribute [go_sem ↓ high] wpLoadStmtS loadVarStmtS runLoadStmtS
attribute [go_sem high] wpLoadStmtS
theorem aggProgR : aggT Tryd.prog 26 = true := by kernel_rfl
theorem sizeProgR : sizeT Tryd.prog 26 = some 11 := by kernel_rfl
theorem wpLoadProgR {dst : Option Tmp} {ty' : TypeId} {x : Operand} {pos : String} {after : Array Edge} {guard : Option (Nat × Bool)} {a : Act} {w : World} {K : Act → World → Prop} {Q : Exit → Act → World → Prop} (hx : isAt (a.eval x) = true) (hh : has w (blkOf (a.eval x)) (offOf (a.eval x)) 11 = true) :
    Oper.wp Tryd.prog { dst := dst, op := .load 26 x, type := ty', pos := pos, after := after, guard := guard } a w K Q = K (a.put dst (.agg (gets w (blkOf (a.eval x)) (offOf (a.eval x)) 11))) w := wp_load_big 11 aggProgR sizeProgR hx hh
theorem runLoadProgR {ρ : Operand → Value} {dst : Option Tmp} {ty' : TypeId} {x : Operand} {pos : String} {after : Array Edge} {guard : Option (Nat × Bool)} {w : World} (hx : isAt (ρ x) = true) (hh : has w (blkOf (ρ x)) (offOf (ρ x)) 11 = true) :
    (execOp ρ { dst := dst, op := .load 26 x, type := ty', pos := pos, after := after, guard := guard }).run Tryd.prog w = .ok (.value (.agg (gets w (blkOf (ρ x)) (offOf (ρ x)) 11))) w := run_exec_load_big 11 aggProgR sizeProgR hx hh
theorem loadVarProgR (w : World) (g off : Nat) (hh : has w g off 11 = true) : (loadVar 26 ⟨g, off, none⟩).run Tryd.prog w = .ok (.agg (gets w g off 11)) w := run_loadVar_big Tryd.prog w _ g off 11 aggProgR sizeProgR hh
attribute [go_sem] aggProgR sizeProgR
attribute [go_sem ↓ high] wpLoadProgR loadVarProgR runLoadProgR
attribute [go_sem high] wpLoadProgR
theorem aggProgS : aggT Tryd.prog 52 = true := by kernel_rfl
theorem sizeProgS : sizeT Tryd.prog 52 = some 11 := by kernel_rfl
theorem wpLoadProgS {dst : Option Tmp} {ty' : TypeId} {x : Operand} {pos : String} {after : Array Edge} {guard : Option (Nat × Bool)} {a : Act} {w : World} {K : Act → World → Prop} {Q : Exit → Act → World → Prop} (hx : isAt (a.eval x) = true) (hh : has w (blkOf (a.eval x)) (offOf (a.eval x)) 11 = true) :
    Oper.wp Tryd.prog { dst := dst, op := .load 52 x, type := ty', pos := pos, after := after, guard := guard } a w K Q = K (a.put dst (.agg (gets w (blkOf (a.eval x)) (offOf (a.eval x)) 11))) w := wp_load_big 11 aggProgS sizeProgS hx hh
theorem runLoadProgS {ρ : Operand → Value} {dst : Option Tmp} {ty' : TypeId} {x : Operand} {pos : String} {after : Array Edge} {guard : Option (Nat × Bool)} {w : World} (hx : isAt (ρ x) = true) (hh : has w (blkOf (ρ x)) (offOf (ρ x)) 11 = true) :
    (execOp ρ { dst := dst, op := .load 52 x, type := ty', pos := pos, after := after, guard := guard }).run Tryd.prog w = .ok (.value (.agg (gets w (blkOf (ρ x)) (offOf (ρ x)) 11))) w := run_exec_load_big 11 aggProgS sizeProgS hx hh
theorem loadVarProgS (w : World) (g off : Nat) (hh : has w g off 11 = true) : (loadVar 52 ⟨g, off, none⟩).run Tryd.prog w = .ok (.agg (gets w g off 11)) w := run_loadVar_big Tryd.prog w _ g off 11 aggProgS sizeProgS hh
attribute [go_sem] aggProgS sizeProgS
attribute [go_sem ↓ high] wpLoadProgS loadVarProgS runLoadProgS
attribute [go_sem high] wpLoadProgS
theorem aggKnown : aggT Tryd.prog 96 = true := by kernel_rfl
theorem sizeKnown : sizeT Tryd.prog 96 = some 12 := by kernel_rfl
theorem wpLoadKnown {dst : Option Tmp} {ty' : TypeId} {x : Operand} {pos : String} {after : Array Edge} {guard : Option (Nat × Bool)} {a : Act} {w : World} {K : Act → World → Prop} {Q : Exit → Act → World → Prop} (hx : isAt (a.eval x) = true) (hh : has w (blkOf (a.eval x)) (offOf (a.eval x)) 12 = true) :
    Oper.wp Tryd.prog { dst := dst, op := .load 96 x, type := ty', pos := pos, after := after, guard := guard } a w K Q = K (a.put dst (.agg (gets w (blkOf (a.eval x)) (offOf (a.eval x)) 12))) w := wp_load_big 12 aggKnown sizeKnown hx hh
theorem runLoadKnown {ρ : Operand → Value} {dst : Option Tmp} {ty' : TypeId} {x : Operand} {pos : String} {after : Array Edge} {guard : Option (Nat × Bool)} {w : World} (hx : isAt (ρ x) = true) (hh : has w (blkOf (ρ x)) (offOf (ρ x)) 12 = true) :
    (execOp ρ { dst := dst, op := .load 96 x, type := ty', pos := pos, after := after, guard := guard }).run Tryd.prog w = .ok (.value (.agg (gets w (blkOf (ρ x)) (offOf (ρ x)) 12))) w := run_exec_load_big 12 aggKnown sizeKnown hx hh
theorem loadVarKnown (w : World) (g off : Nat) (hh : has w g off 12 = true) : (loadVar 96 ⟨g, off, none⟩).run Tryd.prog w = .ok (.agg (gets w g off 12)) w := run_loadVar_big Tryd.prog w _ g off 12 aggKnown sizeKnown hh
attribute [go_sem] aggKnown sizeKnown
attribute [go_sem ↓ high] wpLoadKnown loadVarKnown runLoadKnown
attribute [go_sem high] wpLoadKnown
theorem aggFaultR : aggT Tryd.prog 38 = true := by kernel_rfl
theorem sizeFaultR : sizeT Tryd.prog 38 = some 2 := by kernel_rfl
theorem wpLoadFaultR {dst : Option Tmp} {ty' : TypeId} {x : Operand} {pos : String} {after : Array Edge} {guard : Option (Nat × Bool)} {a : Act} {w : World} {K : Act → World → Prop} {Q : Exit → Act → World → Prop} (hx : isAt (a.eval x) = true) (hh : has w (blkOf (a.eval x)) (offOf (a.eval x)) 2 = true) :
    Oper.wp Tryd.prog { dst := dst, op := .load 38 x, type := ty', pos := pos, after := after, guard := guard } a w K Q = K (a.put dst (.agg (gets w (blkOf (a.eval x)) (offOf (a.eval x)) 2))) w := wp_load_big 2 aggFaultR sizeFaultR hx hh
theorem runLoadFaultR {ρ : Operand → Value} {dst : Option Tmp} {ty' : TypeId} {x : Operand} {pos : String} {after : Array Edge} {guard : Option (Nat × Bool)} {w : World} (hx : isAt (ρ x) = true) (hh : has w (blkOf (ρ x)) (offOf (ρ x)) 2 = true) :
    (execOp ρ { dst := dst, op := .load 38 x, type := ty', pos := pos, after := after, guard := guard }).run Tryd.prog w = .ok (.value (.agg (gets w (blkOf (ρ x)) (offOf (ρ x)) 2))) w := run_exec_load_big 2 aggFaultR sizeFaultR hx hh
theorem loadVarFaultR (w : World) (g off : Nat) (hh : has w g off 2 = true) : (loadVar 38 ⟨g, off, none⟩).run Tryd.prog w = .ok (.agg (gets w g off 2)) w := run_loadVar_big Tryd.prog w _ g off 2 aggFaultR sizeFaultR hh
attribute [go_sem] aggFaultR sizeFaultR
attribute [go_sem ↓ high] wpLoadFaultR loadVarFaultR runLoadFaultR
attribute [go_sem high] wpLoadFaultR
theorem aggFaultS : aggT Tryd.prog 61 = true := by kernel_rfl
theorem sizeFaultS : sizeT Tryd.prog 61 = some 2 := by kernel_rfl
theorem wpLoadFaultS {dst : Option Tmp} {ty' : TypeId} {x : Operand} {pos : String} {after : Array Edge} {guard : Option (Nat × Bool)} {a : Act} {w : World} {K : Act → World → Prop} {Q : Exit → Act → World → Prop} (hx : isAt (a.eval x) = true) (hh : has w (blkOf (a.eval x)) (offOf (a.eval x)) 2 = true) :
    Oper.wp Tryd.prog { dst := dst, op := .load 61 x, type := ty', pos := pos, after := after, guard := guard } a w K Q = K (a.put dst (.agg (gets w (blkOf (a.eval x)) (offOf (a.eval x)) 2))) w := wp_load_big 2 aggFaultS sizeFaultS hx hh
theorem runLoadFaultS {ρ : Operand → Value} {dst : Option Tmp} {ty' : TypeId} {x : Operand} {pos : String} {after : Array Edge} {guard : Option (Nat × Bool)} {w : World} (hx : isAt (ρ x) = true) (hh : has w (blkOf (ρ x)) (offOf (ρ x)) 2 = true) :
    (execOp ρ { dst := dst, op := .load 61 x, type := ty', pos := pos, after := after, guard := guard }).run Tryd.prog w = .ok (.value (.agg (gets w (blkOf (ρ x)) (offOf (ρ x)) 2))) w := run_exec_load_big 2 aggFaultS sizeFaultS hx hh
theorem loadVarFaultS (w : World) (g off : Nat) (hh : has w g off 2 = true) : (loadVar 61 ⟨g, off, none⟩).run Tryd.prog w = .ok (.agg (gets w g off 2)) w := run_loadVar_big Tryd.prog w _ g off 2 aggFaultS sizeFaultS hh
attribute [go_sem] aggFaultS sizeFaultS
attribute [go_sem ↓ high] wpLoadFaultS loadVarFaultS runLoadFaultS
attribute [go_sem high] wpLoadFaultS
theorem str_eq (a b : ByteArray) : (ByteArray.toList a == ByteArray.toList b) = decide (a = b) := by
  rw [ByteArray.toList_eq, ByteArray.toList_eq, Bool.eq_iff_iff, beq_iff_eq, decide_eq_true_eq]
  exact ⟨fun h => Go.WideShapes.bytes_inj h, fun h => by rw [h]⟩
theorem str_same {a b : ByteArray} (h : a = b) : (ByteArray.toList a == ByteArray.toList b) = true := by rw [str_eq]; exact decide_eq_true h
theorem str_other {a b : ByteArray} (h : ¬ a = b) : (ByteArray.toList a == ByteArray.toList b) = false := by rw [str_eq]; exact decide_eq_false h
set_option maxHeartbeats 400000 in
theorem between_any (n a b : Int) (w : World) : Calls Tryd.prog 61 #[.int .i64 n, .int .i64 a, .int .i64 b] w fun e w' => e = .returned (.bool (btw n a b)) ∧ w = w' := by
  go_enter Tryd.func61, Tryd.ntmps61
  go_wp2_with fail
  all_goals go_ret
  all_goals refine ⟨ret_bool ?_, rfl⟩
  all_goals (rw [Bool.eq_iff_iff]; simp [btw]; omega)
set_option maxHeartbeats 400000 in
theorem in_any (n a b : Int) (w : World) : Calls Tryd.prog 53 #[.int .i64 n, .int .i64 a, .int .i64 b] w fun e w' => e = .returned (.bool (btw n a b)) ∧ w = w' := by
  go_enter Tryd.func53, Tryd.ntmps53
  go_wp2_with fail
  all_goals go_ret
  all_goals refine ⟨ret_bool ?_, rfl⟩
  all_goals (rw [Bool.eq_iff_iff]; simp [btw]; omega)
theorem btw_word (n : Int) : btw n (-2147483648) 2147483647 = word n := rfl
set_option maxHeartbeats 400000 in
theorem right_any (n : Int) (w : World) : Calls Tryd.prog 109 #[.int .i64 n] w fun e w' => e = .returned (.bool (word n)) ∧ w = w' := by
  go_enter Tryd.func109, Tryd.ntmps109
  go_wp2_with fail
  refine (between_any _ _ _ _).mono ?_
  rintro e w1 ⟨rfl, rfl⟩
  rw [btw_word]
  go_wp2_with fail
  go_ret
  exact ⟨rfl, rfl⟩
set_option maxHeartbeats 400000 in
theorem word_any (n : Int) (w : World) : Calls Tryd.prog 75 #[.int .i64 n] w fun e w' => e = .returned (.bool (word n)) ∧ w = w' := by
  go_enter Tryd.func75, Tryd.ntmps75
  go_wp2_with fail
  refine (in_any _ _ _ _).mono ?_
  rintro e w1 ⟨rfl, rfl⟩
  rw [btw_word]
  go_wp2_with fail
  go_ret
  exact ⟨rfl, rfl⟩
set_option maxHeartbeats 400000 in
theorem fine_any (w : World) : Calls Tryd.prog 55 #[] w fun e w' => e = .returned (.agg #[.int .i64 0, .string ⟨#[]⟩]) ∧ Ext w w' := by
  go_enter Tryd.func55, Tryd.ntmps55
  go_wp2_with fail
  refine ret_cell Tryd.results55 rfl rfl aggFaultR (by exact sizeFaultR) (Blk.new' _ _ _ _ (by simp)) ⟨rfl, ?_⟩
  exact (Kept.refl _ w).alloc _
set_option maxHeartbeats 400000 in
theorem span_any (v : Vr) (w : World) : Calls Tryd.prog 62 #[.agg (vcells v)] w fun e w' => e = .returned (.bool (span v)) ∧ Ext w w' := by
  have hx := (Kept.refl (fun _ => False) w).alloc (.cells (vcells v) 54)
  go_enter Tryd.func62, Tryd.ntmps62
  go_wp2_with fail
  all_goals go_ret
  all_goals refine ⟨ret_bool ?_, hx⟩
  all_goals (rw [Bool.eq_iff_iff]; simp [span, word]; omega)
set_option maxHeartbeats 400000 in
theorem size_any (v : Vr) (w : World) : Calls Tryd.prog 34 #[.agg (vcells v)] w fun e w' => e = .returned (.int .i64 (So.cellsV v)) ∧ Ext w w' := by
  have hx := (Kept.refl (fun _ => False) w).alloc (.cells (vcells v) 54)
  go_enter Tryd.func34, Tryd.ntmps34
  go_wp2_with fail
  refine (between_any _ _ _ _).mono ?_
  rintro e w1 ⟨rfl, rfl⟩
  cases hb : btw v.size 1 64
  all_goals
    go_wp2_with fail
    go_ret
    refine ⟨ret_int ?_, hx⟩
    simp only [btw, Bool.and_eq_true, Bool.and_eq_false_iff, decide_eq_true_eq, decide_eq_false_iff_not] at hb
    unfold So.cellsV
    split <;> omega
set_option maxHeartbeats 400000 in
theorem cells_any (v : Vr) (w : World) : Calls Tryd.prog 30 #[.agg (vcells v)] w fun e w' => e = .returned (.int .i64 (So.cellsV v)) ∧ Ext w w' := by
  have hx := (Kept.refl (fun _ => False) w).alloc (.cells (vcells v) 29)
  go_enter Tryd.func30, Tryd.ntmps30
  go_wp2_with fail
  all_goals go_ret
  all_goals refine ⟨ret_int ?_, hx⟩
  all_goals (unfold So.cellsV; split <;> omega)
set_option maxHeartbeats 400000 in
theorem operands_any (n : Int) (w : World) : Calls Tryd.prog 100 #[.int .i64 n] w fun e w' => e = .returned (.int .i64 (exprParts n)) ∧ w = w' := by
  go_enter Tryd.func100, Tryd.ntmps100
  go_wp2_with fail
  all_goals go_ret
  all_goals refine ⟨ret_int ?_, rfl⟩
  all_goals (unfold exprParts; split <;> first | rfl | omega | (split <;> first | rfl | omega))
set_option maxHeartbeats 1000000 in
theorem placed_any (k : Int) (i : Nat) (hi : i < 5) (l : Bool) (w : World) : Calls Tryd.prog 91 #[.int .i64 k, .int .i64 i, .bool l] w fun e w' => e = .returned (.bool (stands k i l)) ∧ w = w' := by
  rcases (by omega : i = 0 ∨ i = 1 ∨ i = 2 ∨ i = 3 ∨ i = 4) with rfl | rfl | rfl | rfl | rfl
  all_goals
    go_enter Tryd.func91, Tryd.ntmps91
    go_wp2_with fail
    all_goals go_ret
    all_goals refine ⟨ret_bool ?_, rfl⟩
    all_goals simp_all [stands]
end Go.Proofs.YtfamkemdgbnegaaDoor

/- Sorts: how many expressions and statements there are, how deep an expression is. -/
namespace Go.Proofs.YtfamkemdgbnegaaDoor
open Go.RowKit So
theorem cell_gets {w : World} {b o n : Nat} {cs : Array Value} (hh : Proofs.YtfamkemdgbnegaaDoor.has w b o n = true) (hg : gets w b o n = cs) (i : Nat) (hi : i < n) : w.cell? ⟨b, o + i, none⟩ = cs[i]? := by
  unfold Proofs.YtfamkemdgbnegaaDoor.has at hh
  unfold gets at hg
  split at hh
  · rename_i c t fr hq
    rw [hq] at hg
    have hfit : o + n ≤ c.size := of_decide_eq_true hh
    rw [cell_of_row w b _ c t fr hq, ← hg]
    simp only [List.getElem?_toArray]
    rw [List.getElem?_take, if_pos hi, List.getElem?_drop]
    simp
  · cases hh
theorem cell_gets0 {w : World} {b o n : Nat} {cs : Array Value} (hh : Proofs.YtfamkemdgbnegaaDoor.has w b o n = true) (hg : gets w b o n = cs) (hi : 0 < n) : w.cell? ⟨b, o, none⟩ = cs[0]? := cell_gets hh hg 0 hi
def So.EF.All (p : EF → Prop) : EF → Prop | .nil => True | .cons _ _ _ k r => p k ∧ EF.All p r
def So.SF.All (p : SF → Prop) : SF → Prop | .nil => True | .cons _ _ _ _ _ l x r => p l ∧ p x ∧ SF.All p r
theorem ef_all {C : EF → Prop} (h : ∀ F, EF.All C F → C F) : ∀ F, C F ∧ EF.All C F
  | .nil => ⟨h _ trivial, trivial⟩
  | .cons o n s k r => by
    have a : EF.All C (.cons o n s k r) := ⟨(ef_all h k).1, (ef_all h r).2⟩
    exact ⟨h _ a, a⟩
theorem ef_ind {C : EF → Prop} (h : ∀ F, EF.All C F → C F) (F : EF) : C F := (ef_all h F).1
theorem sf_all {C : SF → Prop} (h : ∀ F, SF.All C F → C F) : ∀ F, C F ∧ SF.All C F
  | .nil => ⟨h _ trivial, trivial⟩
  | .cons a1 a2 a3 a4 a5 l x r => by
    have a : SF.All C (.cons a1 a2 a3 a4 a5 l x r) := ⟨(sf_all h l).1, (sf_all h x).1, (sf_all h r).2⟩
    exact ⟨h _ a, a⟩
theorem sf_ind {C : SF → Prop} (h : ∀ F, SF.All C F → C F) (F : SF) : C F := (sf_all h F).1
theorem w64_i (a b : Int) : w64 (w64 a + b) = w64 (a + b) := w64_w64 a b
theorem wrap_w64 (x : Int) : IntKind.i64.wrap x = w64 x := by rw [IntKind.wrap_i64, w64_def]
set_option maxRecDepth 100000 in
set_option maxHeartbeats 1000000 in
theorem rexprs_any (F : EF) : ∀ (A : Option Addr) (n c N : Nat) (w : World), ESl w N A n F → Calls Tryd.prog 59 #[.slice A n c] w fun e w' => e = .returned (.int .i64 (w64 F.size)) ∧ w = w' := by
  refine ef_ind (C := fun F => ∀ (A : Option Addr) (n c N : Nat) (w : World), ESl w N A n F → Calls Tryd.prog 59 #[.slice A n c] w fun e w' => e = .returned (.int .i64 (w64 F.size)) ∧ w = w') ?_ F
  intro F IH A n c N w h
  obtain ⟨hn, hf, b, off, hA, hE⟩ := h
  have hm := hf.max (by omega)
  have HN := Lib.hid hn
  have HA := Lib.hid hA
  have HE := Lib.hid hE
  have HI := Lib.hid IH
  clear hn hA hE IH hf
  go_enter Tryd.func59, Tryd.ntmps59
  go_wp2_with fail
  go_loopw [3, 4] (fun t3 t4 wr => ∃ (j acc : Nat) (R : EF), j + R.len = n ∧ acc + R.size = F.size ∧ t4 = .int .i64 j ∧ t3 = .int .i64 (w64 acc) ∧ EFAt w N R b (off + j * 4) ∧ EF.All (fun F => ∀ (A : Option Addr) (n c N : Nat) (w : World), ESl w N A n F → Calls Tryd.prog 59 #[.slice A n c] w fun e w' => e = .returned (.int .i64 (w64 F.size)) ∧ w = w') R ∧ w = wr) (fun _ t4 _ => n - (intOf t4).toNat)
  case atStart => exact ⟨0, 0, F, by rw [HN.out, Nat.zero_add], Nat.zero_add _, rfl, by simp [w64_def], by simpa using HE.out, HI.out, rfl⟩
  case round =>
    obtain ⟨j, acc, R, hj, hacc, rfl, rfl, hR, hI, hw⟩ := hrel
    subst hw
    have HR := Lib.hid hR
    have HI2 := Lib.hid hI
    clear hR hI
    cases R with
    | nil =>
      simp only [EF.len, EF.size, Nat.add_zero] at hj hacc
      subst hj
      subst hacc
      go_wp2_with fail
      go_ret
      exact ⟨rfl, rfl⟩
    | cons op m name k r =>
      obtain ⟨hb, h1, h2, h3, ⟨A', cap, b', off', hh, hg, hl, hA', hk⟩, hr⟩ := HR.out
      simp only [EF.len, EF.size] at hj hacc
      have hlt : (j : Int) < n := by omega
      obtain rfl := HA.out (by omega)
      have hc := cell_gets hh hg 3 (by omega)
      have HK := Lib.hid (show ESl w N A' k.len k from ⟨rfl, hl, b', off', hA', hk⟩)
      have HIk := Lib.hid HI2.out.1
      clear hg hA' hk hl h3 h1 h2
      go_wp2_with fail
      refine (HIk.out _ _ _ N _ HK.out).mono ?_
      rintro e w1 ⟨rfl, rfl⟩
      go_wp2_with fail
      go_roundw
      case rel => exact ⟨j + 1, acc + (1 + k.size), r, by omega, by omega, by go_num, by simp only [w64_w64, w64_w64r]; congr 2; omega, by rw [Nat.add_mul, ← Nat.add_assoc] ; exact hr, HI2.out.2, by trivial⟩
      case measure => simp only [intOf]; omega
end Go.Proofs.YtfamkemdgbnegaaDoor

/- Sorts: how many statements there are. -/
namespace Go.Proofs.YtfamkemdgbnegaaDoor
open Go.RowKit So
theorem cell_ext {w w1 : World} {p : Addr} {v : Value} (hS : Ext w w1) (hb : p.block < w.heap.size) (h : w.cell? p = some v) : w1.cell? p = some v := (Kept.cell hS hb (fun f => f)).trans h
abbrev SizeC (w : World) (F : SF) : Prop := ∀ (A : Option Addr) (n c N : Nat) (w' : World), Ext w w' → N ≤ w.heap.size → SSl w N A n F → Calls Tryd.prog 31 #[.slice A n c] w' fun e w2 => e = .returned (.int .i64 (w64 F.size)) ∧ Ext w' w2
set_option maxRecDepth 100000 in
set_option maxHeartbeats 1000000 in
theorem rstmts_any (w0 : World) (F : SF) : SizeC w0 F := by
  refine sf_ind (C := SizeC w0) ?_ F
  intro F IH A n c N w hx0 hN h
  obtain ⟨hn, hf, b, off, hA, hE⟩ := h
  have hm := hf.max (by omega)
  have HN := Lib.hid hn
  have HA := Lib.hid hA
  have HE := Lib.hid hE
  have HI := Lib.hid IH
  clear hn hA hE IH hf
  go_enter Tryd.func31, Tryd.ntmps31
  go_wp2_with fail
  go_loopw [3, 4] (fun t3 t4 wr => ∃ (j acc : Nat) (R : SF), j + R.len = n ∧ acc + R.size = F.size ∧ t4 = .int .i64 j ∧ t3 = .int .i64 (w64 acc) ∧ SFAt w0 N R b (off + j * 7) ∧ SF.All (SizeC w0) R ∧ Ext w wr) (fun _ t4 _ => n - (intOf t4).toNat)
  case atStart => exact ⟨0, 0, F, by rw [HN.out, Nat.zero_add], Nat.zero_add _, rfl, by simp [w64_def], by simpa using HE.out, HI.out, Kept.refl _ _⟩
  case round =>
    obtain ⟨j, acc, R, hj, hacc, rfl, rfl, hR, hI, hx⟩ := hrel
    have HR := Lib.hid hR
    have HI2 := Lib.hid hI
    have HX := Lib.hid hx
    clear hR hI hx
    cases R with
    | nil =>
      simp only [SF.len, SF.size, Nat.add_zero] at hj hacc
      subst hj
      subst hacc
      go_wp2_with fail
      go_ret
      exact ⟨rfl, HX.out⟩
    | cons kind name es low high l x r =>
      obtain ⟨hb, h1, h2, h3, h4, ⟨eA, ec, lA, lc, xA, xc, be, oe, bl, ol, bx, ox, hh, hg, n1, n2, n3, a1, a2, a3, he, hl, hxx⟩, hr⟩ := HR.out
      simp only [SF.len, SF.size] at hj hacc
      have hlt : (j : Int) < n := by omega
      obtain rfl := HA.out (by omega)
      have hx0r := hx0.trans HX.out
      have hbl := hx0r.size
      have C2 := Lib.hid (cell_ext (p := ⟨b, _, none⟩) hx0r (show b < w0.heap.size by omega) (cell_gets hh hg 2 (by omega)))
      have C5 := Lib.hid (cell_ext (p := ⟨b, _, none⟩) hx0r (show b < w0.heap.size by omega) (cell_gets hh hg 5 (by omega)))
      have C6 := Lib.hid (cell_ext (p := ⟨b, _, none⟩) hx0r (show b < w0.heap.size by omega) (cell_gets hh hg 6 (by omega)))
      have hbw : b < wr.heap.size := by omega
      have KE := Lib.hid (show ESl w0 N eA es.len es from ⟨rfl, n1, be, oe, a1, he⟩)
      have KL := Lib.hid (show SSl w0 N lA l.len l from ⟨rfl, n2, bl, ol, a2, hl⟩)
      have KX := Lib.hid (show SSl w0 N xA x.len x from ⟨rfl, n3, bx, ox, a3, hxx⟩)
      have IL := Lib.hid HI2.out.1
      have IX := Lib.hid HI2.out.2.1
      have HX0 := Lib.hid hx0r
      have HR2 := Lib.hid hr
      clear hh hg n1 n2 n3 a1 a2 a3 he hl hxx h1 h2 h3 h4 HR hbl hx0r hr
      go_upto_region 5 with (fail)
      refine wp_region_3 (fun w1 => Ext wr w1) [(0, 2), (1, 2), (2, 2), (3, 2), (4, 2), (5, 2), (6, 1), (9, 2), (10, 2), (11, 2), (12, 2), (13, 1), (16, 2), (17, 2), (18, 2), (19, 2), (20, 1), (7, 0), (8, 2), (14, 0), (15, 2), (21, 0), (22, 2), (23, 2)] (by kernel_rfl) (by kernel_rfl) (by kernel_rfl) (by kernel_rfl) ?_; intro l' hl'; simp only [List.map_cons, List.map_nil, List.getD_cons_zero, List.getD_cons_succ] at hl'; subst hl'
      have y0 : Ext wr wr.drew := (Kept.refl _ wr).drew
      (repeat (first | ((apply w3_pure); (· go_simp); (· (intro w1; go_simp; try with_reducible rfl)); (intro K hK; go_simp; refine hK _ _ ?_; clear hK K)) | ((apply w3_skip); (· go_simp); (intro K hK; go_simp; refine hK _ _ ?_; clear hK K)) | ((apply w3_take); (· exact y0); (· go_simp); (· (intro w1 hS; have d1 := cell_ext hS hbw C2.out; have d2 := cell_ext hS hbw C5.out; have d3 := cell_ext hS hbw C6.out;  go_simp; try with_reducible rfl)); (intro K hK; go_simp; refine hK _ _ ?_; clear hK K)) | ((apply w3_pass); (· exact y0); (· go_simp); (intro K hK; go_simp; refine hK _ _ ?_; clear hK K))))
      (refine w3_act (fun K hK => ?_); go_simp)
      refine (rexprs_any es _ _ _ N _ (KE.out.ext (HX0.out.trans y0) hN)).mono ?_
      rintro e w1 ⟨rfl, rfl⟩
      refine hK.out _ _ (fun _ => y0) ?_
      clear hK K
      (repeat (first | ((apply w3_pure); (· go_simp); (· (intro w1; go_simp; try with_reducible rfl)); (intro K hK; go_simp; refine hK _ _ ?_; clear hK K)) | ((apply w3_skip); (· go_simp); (intro K hK; go_simp; refine hK _ _ ?_; clear hK K))))
      (repeat (first | ((apply w3_pure); (· go_simp); (· (intro w1; go_simp; try with_reducible rfl)); (intro K hK; go_simp; refine hK _ _ ?_; clear hK K)) | ((apply w3_skip); (· go_simp); (intro K hK; go_simp; refine hK _ _ ?_; clear hK K)) | ((apply w3_take); (· exact y0); (· go_simp); (· (intro w1 hS; have d1 := cell_ext hS hbw C2.out; have d2 := cell_ext hS hbw C5.out; have d3 := cell_ext hS hbw C6.out;  go_simp; try with_reducible rfl)); (intro K hK; go_simp; refine hK _ _ ?_; clear hK K)) | ((apply w3_pass); (· exact y0); (· go_simp); (intro K hK; go_simp; refine hK _ _ ?_; clear hK K))))
      (refine w3_act (fun K hK => ?_); go_simp)
      refine (IL.out _ _ _ N _ (HX0.out.trans y0) hN KL.out).mono ?_
      rintro e w1 ⟨rfl, hx1⟩
      have y1 := y0.trans hx1
      refine hK.out _ _ (fun _ => y1) ?_
      clear hK K
      (repeat (first | ((apply w3_pure); (· go_simp); (· (intro w1; go_simp; try with_reducible rfl)); (intro K hK; go_simp; refine hK _ _ ?_; clear hK K)) | ((apply w3_skip); (· go_simp); (intro K hK; go_simp; refine hK _ _ ?_; clear hK K))))
      (repeat (first | ((apply w3_pure); (· go_simp); (· (intro w1; go_simp; try with_reducible rfl)); (intro K hK; go_simp; refine hK _ _ ?_; clear hK K)) | ((apply w3_skip); (· go_simp); (intro K hK; go_simp; refine hK _ _ ?_; clear hK K)) | ((apply w3_take); (· exact y1); (· go_simp); (· (intro w1 hS; have d1 := cell_ext hS hbw C2.out; have d2 := cell_ext hS hbw C5.out; have d3 := cell_ext hS hbw C6.out;  go_simp; try with_reducible rfl)); (intro K hK; go_simp; refine hK _ _ ?_; clear hK K)) | ((apply w3_pass); (· exact y1); (· go_simp); (intro K hK; go_simp; refine hK _ _ ?_; clear hK K))))
      (refine w3_act (fun K hK => ?_); go_simp)
      refine (IX.out _ _ _ N _ (HX0.out.trans y1) hN KX.out).mono ?_
      rintro e w2 ⟨rfl, hx2⟩
      have y2 := y1.trans hx2
      refine hK.out _ _ (fun _ => y2) ?_
      clear hK K
      (repeat (first | ((apply w3_pure); (· go_simp); (· (intro w1; go_simp; try with_reducible rfl)); (intro K hK; go_simp; refine hK _ _ ?_; clear hK K)) | ((apply w3_skip); (· go_simp); (intro K hK; go_simp; refine hK _ _ ?_; clear hK K)) | (refine w3_end (by kernel_rfl) (fun K hK => ?_); go_simp; refine hK.out _ _ ?_; clear hK K))); refine w3_nil ?_
      go_wp2_with fail
      go_roundw
      case rel => exact ⟨j + 1, acc + (1 + es.size + l.size + x.size), r, by omega, by omega, by go_num, by simp only [wrap_w64, w64_w64, w64_w64r]; congr 2; omega, by rw [Nat.add_mul, ← Nat.add_assoc]; exact HR2.out, HI2.out.2.2, HX.out.trans y2⟩
      case measure => simp only [intOf]; omega
end Go.Proofs.YtfamkemdgbnegaaDoor

/- Sorts: how many expressions and statements a program has, by the document. -/
namespace Go.Proofs.YtfamkemdgbnegaaDoor
open Go.RowKit So
theorem rstmts_ok (F : SF) (A : Option Addr) (n c N : Nat) (w : World) (hN : N ≤ w.heap.size) (h : SSl w N A n F) : Calls Tryd.prog 31 #[.slice A n c] w fun e w2 => e = .returned (.int .i64 (w64 F.size)) ∧ Ext w w2 :=
  rstmts_any w F A n c N w (Kept.refl _ _) hN h
theorem PAt.ext {w w' : World} {N : Nat} {c : Pc} {p : Pr} (h : PAt w N c p) (hk : Ext w w') (hN : N ≤ w.heap.size) : PAt w' N c p := h.kept hk hN (fun _ f => f.elim)
theorem w64_nat {n : Nat} (h : n ≤ 1000000000000000000) : w64 n = n := by simp only [w64_def]; omega
set_option maxRecDepth 100000 in
set_option maxHeartbeats 2000000 in
theorem rsize_any (c : Pc) (p : Pr) (N : Nat) (w : World) (hN : N ≤ w.heap.size) (h : PAt w N c p) : Calls Tryd.prog 16 #[.agg c.cells] w fun e w' => e = .returned (.int .i64 (w64 (psize p))) ∧ Ext w w' := by
  have hx0 := (Kept.refl (fun _ => False) w).alloc (.cells c.cells 26)
  have hB := Blk.new w 26 c.cells
  have hP := Lib.hid (h.ext hx0 hN)
  have hv := Fits.max h.vars.2.1 (by omega)
  have hq := Fits.max h.params.2.1 (by omega)
  have ev := Lib.hid h.vars.1
  have eq := Lib.hid h.params.1
  have hNa := Nat.le_trans hN hx0.size
  clear h
  go_enter Tryd.func16, Tryd.ntmps16
  go_upto_region 1 with (fail)
  generalize hW : (w.alloc (.cells c.cells 26)) = W at hx0 hB hP hNa ⊢
  clear hW
  generalize w.heap.size = pb at hB ⊢
  have hC := Lib.hid hB
  refine wp_region_3 (fun w1 => Ext W w1) [(0, 2), (1, 1), (2, 2), (3, 2), (4, 1), (5, 2), (6, 2), (7, 2), (8, 1), (11, 2), (12, 1), (15, 2), (16, 1), (19, 2), (20, 1), (23, 2), (24, 1), (9, 0), (10, 2), (13, 0), (14, 2), (17, 0), (18, 2), (21, 0), (22, 2), (25, 0), (26, 2), (27, 2)] (by kernel_rfl) (by kernel_rfl) (by kernel_rfl) (by kernel_rfl) ?_; intro l' hl'; simp only [List.map_cons, List.map_nil, List.getD_cons_zero, List.getD_cons_succ] at hl'; subst hl'
  have y0 : Ext W W.drew := (Kept.refl _ W).drew
  have HY0 := Lib.hid y0
  (repeat (first | ((apply w3_pure); (· go_simp); (· (intro w1; go_simp; try with_reducible rfl)); (intro K hK; go_simp; refine hK _ _ ?_; clear hK K)) | ((apply w3_skip); (· go_simp); (intro K hK; go_simp; refine hK _ _ ?_; clear hK K)) | ((apply w3_take); (· exact HY0.out); (· go_simp); (· (intro w1 hS; have d1 := Blk.cell (Blk.ext hC.out hS); have d2 := (Blk.ext hC.out hS).lt;  go_simp; try with_reducible rfl)); (intro K hK; go_simp; refine hK _ _ ?_; clear hK K)) | ((apply w3_pass); (· exact HY0.out); (· go_simp); (intro K hK; go_simp; refine hK _ _ ?_; clear hK K))))
  (refine w3_act (fun K hK => ?_); go_simp)
  refine (rstmts_ok p.start _ _ _ N _ (Nat.le_trans hNa HY0.out.size) (hP.out.start.ext HY0.out hNa)).mono ?_
  rintro e w1 ⟨rfl, hx1⟩
  have HY1 := Lib.hid (HY0.out.trans hx1)
  clear hx1
  refine hK.out _ _ (fun _ => HY1.out) ?_
  clear hK K
  (repeat (first | ((apply w3_pure); (· go_simp); (· (intro w1; go_simp; try with_reducible rfl)); (intro K hK; go_simp; refine hK _ _ ?_; clear hK K)) | ((apply w3_skip); (· go_simp); (intro K hK; go_simp; refine hK _ _ ?_; clear hK K))))
  (repeat (first | ((apply w3_pure); (· go_simp); (· (intro w1; go_simp; try with_reducible rfl)); (intro K hK; go_simp; refine hK _ _ ?_; clear hK K)) | ((apply w3_skip); (· go_simp); (intro K hK; go_simp; refine hK _ _ ?_; clear hK K)) | ((apply w3_take); (· exact HY1.out); (· go_simp); (· (intro w1 hS; have d1 := Blk.cell (Blk.ext hC.out hS); have d2 := (Blk.ext hC.out hS).lt;  go_simp; try with_reducible rfl)); (intro K hK; go_simp; refine hK _ _ ?_; clear hK K)) | ((apply w3_pass); (· exact HY1.out); (· go_simp); (intro K hK; go_simp; refine hK _ _ ?_; clear hK K))))
  (refine w3_act (fun K hK => ?_); go_simp)
  refine (rstmts_ok p.turn _ _ _ N _ (Nat.le_trans hNa HY1.out.size) (hP.out.turn.ext HY1.out hNa)).mono ?_
  rintro e w2 ⟨rfl, hx1⟩
  have HY2 := Lib.hid (HY1.out.trans hx1)
  clear hx1
  refine hK.out _ _ (fun _ => HY2.out) ?_
  clear hK K
  (repeat (first | ((apply w3_pure); (· go_simp); (· (intro w1; go_simp; try with_reducible rfl)); (intro K hK; go_simp; refine hK _ _ ?_; clear hK K)) | ((apply w3_skip); (· go_simp); (intro K hK; go_simp; refine hK _ _ ?_; clear hK K))))
  (repeat (first | ((apply w3_pure); (· go_simp); (· (intro w1; go_simp; try with_reducible rfl)); (intro K hK; go_simp; refine hK _ _ ?_; clear hK K)) | ((apply w3_skip); (· go_simp); (intro K hK; go_simp; refine hK _ _ ?_; clear hK K)) | ((apply w3_take); (· exact HY2.out); (· go_simp); (· (intro w1 hS; have d1 := Blk.cell (Blk.ext hC.out hS); have d2 := (Blk.ext hC.out hS).lt;  go_simp; try with_reducible rfl)); (intro K hK; go_simp; refine hK _ _ ?_; clear hK K)) | ((apply w3_pass); (· exact HY2.out); (· go_simp); (intro K hK; go_simp; refine hK _ _ ?_; clear hK K))))
  (refine w3_act (fun K hK => ?_); go_simp)
  refine (rstmts_ok p.play _ _ _ N _ (Nat.le_trans hNa HY2.out.size) (hP.out.play.ext HY2.out hNa)).mono ?_
  rintro e w3 ⟨rfl, hx1⟩
  have HY3 := Lib.hid (HY2.out.trans hx1)
  clear hx1
  refine hK.out _ _ (fun _ => HY3.out) ?_
  clear hK K
  (repeat (first | ((apply w3_pure); (· go_simp); (· (intro w1; go_simp; try with_reducible rfl)); (intro K hK; go_simp; refine hK _ _ ?_; clear hK K)) | ((apply w3_skip); (· go_simp); (intro K hK; go_simp; refine hK _ _ ?_; clear hK K))))
  (repeat (first | ((apply w3_pure); (· go_simp); (· (intro w1; go_simp; try with_reducible rfl)); (intro K hK; go_simp; refine hK _ _ ?_; clear hK K)) | ((apply w3_skip); (· go_simp); (intro K hK; go_simp; refine hK _ _ ?_; clear hK K)) | ((apply w3_take); (· exact HY3.out); (· go_simp); (· (intro w1 hS; have d1 := Blk.cell (Blk.ext hC.out hS); have d2 := (Blk.ext hC.out hS).lt;  go_simp; try with_reducible rfl)); (intro K hK; go_simp; refine hK _ _ ?_; clear hK K)) | ((apply w3_pass); (· exact HY3.out); (· go_simp); (intro K hK; go_simp; refine hK _ _ ?_; clear hK K))))
  (refine w3_act (fun K hK => ?_); go_simp)
  refine (rstmts_ok p.quiet _ _ _ N _ (Nat.le_trans hNa HY3.out.size) (hP.out.quiet.ext HY3.out hNa)).mono ?_
  rintro e w4 ⟨rfl, hx1⟩
  have HY4 := Lib.hid (HY3.out.trans hx1)
  clear hx1
  refine hK.out _ _ (fun _ => HY4.out) ?_
  clear hK K
  (repeat (first | ((apply w3_pure); (· go_simp); (· (intro w1; go_simp; try with_reducible rfl)); (intro K hK; go_simp; refine hK _ _ ?_; clear hK K)) | ((apply w3_skip); (· go_simp); (intro K hK; go_simp; refine hK _ _ ?_; clear hK K))))
  (repeat (first | ((apply w3_pure); (· go_simp); (· (intro w1; go_simp; try with_reducible rfl)); (intro K hK; go_simp; refine hK _ _ ?_; clear hK K)) | ((apply w3_skip); (· go_simp); (intro K hK; go_simp; refine hK _ _ ?_; clear hK K)) | ((apply w3_take); (· exact HY4.out); (· go_simp); (· (intro w1 hS; have d1 := Blk.cell (Blk.ext hC.out hS); have d2 := (Blk.ext hC.out hS).lt;  go_simp; try with_reducible rfl)); (intro K hK; go_simp; refine hK _ _ ?_; clear hK K)) | ((apply w3_pass); (· exact HY4.out); (· go_simp); (intro K hK; go_simp; refine hK _ _ ?_; clear hK K))))
  (refine w3_act (fun K hK => ?_); go_simp)
  refine (rstmts_ok p.pays _ _ _ N _ (Nat.le_trans hNa HY4.out.size) (hP.out.pays.ext HY4.out hNa)).mono ?_
  rintro e w5 ⟨rfl, hx1⟩
  have HY5 := Lib.hid (HY4.out.trans hx1)
  clear hx1
  refine hK.out _ _ (fun _ => HY5.out) ?_
  clear hK K
  (repeat (first | ((apply w3_pure); (· go_simp); (· (intro w1; go_simp; try with_reducible rfl)); (intro K hK; go_simp; refine hK _ _ ?_; clear hK K)) | ((apply w3_skip); (· go_simp); (intro K hK; go_simp; refine hK _ _ ?_; clear hK K)) | (refine w3_end (by kernel_rfl) (fun K hK => ?_); go_simp; refine hK.out _ _ ?_; clear hK K))); refine w3_nil ?_
  go_wp2_with fail
  go_ret
  refine ⟨ret_int ?_, hx0.trans HY5.out⟩
  simp only [wrap_w64, w64_w64, w64_w64r, ev.out, eq.out, psize]
  congr 1
end Go.Proofs.YtfamkemdgbnegaaDoor

/- Sorts: package syntax: how many expressions and statements there are. -/
namespace Go.Proofs.YtfamkemdgbnegaaDoor
open Go.RowKit So
abbrev SzEC (w : World) (F : EF) : Prop := ∀ (A : Option Addr) (n c N : Nat) (w' : World), Ext w w' → N ≤ w.heap.size → ESl w N A n F → Calls Tryd.prog 83 #[.slice A n c] w' fun e w2 => e = .returned (.int .i64 (w64 F.size)) ∧ Ext w' w2
set_option maxRecDepth 100000 in
set_option maxHeartbeats 1000000 in
theorem szexprs_any (w0 : World) (F : EF) : SzEC w0 F := by
  refine ef_ind (C := SzEC w0) ?_ F
  intro F IH A n c N w hx0 hN h
  obtain ⟨hn, hf, b, off, hA, hE⟩ := h
  have hm := hf.max (by omega)
  have HN := Lib.hid hn
  have HA := Lib.hid hA
  have HE := Lib.hid hE
  have HI := Lib.hid IH
  clear hn hA hE IH hf
  go_enter Tryd.func83, Tryd.ntmps83
  go_wp2_with fail
  go_loopw [3, 10] (fun t3 t10 wr => ∃ (j acc : Nat) (R : EF), j + R.len = n ∧ acc + kidsE R = F.size ∧ t10 = .int .i64 j ∧ t3 = .int .i64 (w64 acc) ∧ EFAt w0 N R b (off + j * 4) ∧ EF.All (SzEC w0) R ∧ Ext w wr) (fun _ t10 _ => n - (intOf t10).toNat)
  case atStart => exact ⟨0, n, F, by rw [HN.out, Nat.zero_add], by rw [HN.out, size_kidsE], rfl, by rw [w64_nat (by omega)], by simpa using HE.out, HI.out, Kept.refl _ _⟩
  case round =>
    obtain ⟨j, acc, R, hj, hacc, rfl, rfl, hR, hI, hx⟩ := hrel
    have HR := Lib.hid hR
    have HI2 := Lib.hid hI
    have HX := Lib.hid hx
    clear hR hI hx
    cases R with
    | nil =>
      simp only [EF.len, kidsE, Nat.add_zero] at hj hacc
      subst hj
      subst hacc
      go_wp2_with fail
      go_ret
      exact ⟨rfl, HX.out⟩
    | cons op m name k r =>
      obtain ⟨hb, h1, h2, h3, ⟨A', cap, b', off', hh, hg, hl, hA', hk⟩, hr⟩ := HR.out
      simp only [EF.len, kidsE] at hj hacc
      have hlt : (j : Int) < n := by omega
      obtain rfl := HA.out (by omega)
      have hx0r := hx0.trans HX.out
      have hbl := hx0r.size
      have hh' := has_ext hx0r (by omega) hh
      have hg' := gets_ext hx0r (by omega) hg
      have hbw : b < wr.heap.size := by omega
      have KE := Lib.hid (show ESl w0 N A' k.len k from ⟨rfl, hl, b', off', hA', hk⟩)
      have IK := Lib.hid HI2.out.1
      have HX0 := Lib.hid hx0r
      have HR2 := Lib.hid hr
      clear hh hg hl hA' hk h1 h2 h3 HR hbl hx0r hr
      go_wp2_with fail
      have y0 : Ext wr _ := (Kept.refl _ wr).alloc (.cells (ecells op m name A' k.len cap) 120)
      refine (IK.out _ _ _ N _ (HX0.out.trans y0) hN KE.out).mono ?_
      rintro e w2 ⟨rfl, hx2⟩
      go_wp2_with fail
      go_roundw
      case rel => exact ⟨j + 1, acc + k.size, r, by omega, by omega, by go_num, by simp only [w64_w64, w64_w64r]; congr 2, by rw [Nat.add_mul, ← Nat.add_assoc]; exact HR2.out, HI2.out.2, HX.out.trans (y0.trans hx2)⟩
      case measure => simp only [intOf]; omega
theorem szexprs_ok (F : EF) (A : Option Addr) (n c N : Nat) (w : World) (hN : N ≤ w.heap.size) (h : ESl w N A n F) : Calls Tryd.prog 83 #[.slice A n c] w fun e w2 => e = .returned (.int .i64 (w64 F.size)) ∧ Ext w w2 :=
  szexprs_any w F A n c N w (Kept.refl _ _) hN h
abbrev SzSC (w : World) (F : SF) : Prop := ∀ (A : Option Addr) (n c N : Nat) (w' : World), Ext w w' → N ≤ w.heap.size → SSl w N A n F → Calls Tryd.prog 65 #[.slice A n c] w' fun e w2 => e = .returned (.int .i64 (w64 F.size)) ∧ Ext w' w2
set_option maxRecDepth 100000 in
set_option maxHeartbeats 1000000 in
theorem szblock_any (w0 : World) (F : SF) : SzSC w0 F := by
  refine sf_ind (C := SzSC w0) ?_ F
  intro F IH A n c N w hx0 hN h
  obtain ⟨hn, hf, b, off, hA, hE⟩ := h
  have hm := hf.max (by omega)
  have HN := Lib.hid hn
  have HA := Lib.hid hA
  have HE := Lib.hid hE
  have HI := Lib.hid IH
  clear hn hA hE IH hf
  go_enter Tryd.func65, Tryd.ntmps65
  go_wp2_with fail
  go_loopw [3, 10] (fun t3 t10 wr => ∃ (j acc : Nat) (R : SF), j + R.len = n ∧ acc + kidsS R = F.size ∧ t10 = .int .i64 j ∧ t3 = .int .i64 (w64 acc) ∧ SFAt w0 N R b (off + j * 7) ∧ SF.All (SzSC w0) R ∧ Ext w wr) (fun _ t10 _ => n - (intOf t10).toNat)
  case atStart => exact ⟨0, n, F, by rw [HN.out, Nat.zero_add], by rw [HN.out, size_kidsS], rfl, by rw [w64_nat (by omega)], by simpa using HE.out, HI.out, Kept.refl _ _⟩
  case round =>
    obtain ⟨j, acc, R, hj, hacc, rfl, rfl, hR, hI, hx⟩ := hrel
    have HR := Lib.hid hR
    have HI2 := Lib.hid hI
    have HX := Lib.hid hx
    clear hR hI hx
    cases R with
    | nil =>
      simp only [SF.len, kidsS, Nat.add_zero] at hj hacc
      subst hj
      subst hacc
      go_wp2_with fail
      go_ret
      exact ⟨rfl, HX.out⟩
    | cons kind name es low high l x r =>
      obtain ⟨hb, h1, h2, h3, h4, ⟨eA, ec, lA, lc, xA, xc, be, oe, bl, ol, bx, ox, hh, hg, n1, n2, n3, a1, a2, a3, he, hl, hxx⟩, hr⟩ := HR.out
      simp only [SF.len, kidsS] at hj hacc
      have hlt : (j : Int) < n := by omega
      obtain rfl := HA.out (by omega)
      have hx0r := hx0.trans HX.out
      have hbl := hx0r.size
      have hh' := has_ext hx0r (by omega) hh
      have hg' := gets_ext hx0r (by omega) hg
      have hbw : b < wr.heap.size := by omega
      have KE := Lib.hid (show ESl w0 N eA es.len es from ⟨rfl, n1, be, oe, a1, he⟩)
      have KL := Lib.hid (show SSl w0 N lA l.len l from ⟨rfl, n2, bl, ol, a2, hl⟩)
      have KX := Lib.hid (show SSl w0 N xA x.len x from ⟨rfl, n3, bx, ox, a3, hxx⟩)
      have IL := Lib.hid HI2.out.1
      have IX := Lib.hid HI2.out.2.1
      have HX0 := Lib.hid hx0r
      have HR2 := Lib.hid hr
      clear hh hg n1 n2 n3 a1 a2 a3 he hl hxx h1 h2 h3 h4 HR hbl hx0r hr
      go_upto_region 5 with (fail)
      have y0 : Ext wr _ := (Kept.refl _ wr).alloc (.cells (scells kind name eA es.len ec low high lA l.len lc xA x.len xc) 83)
      have hB := Blk.new wr 83 (scells kind name eA es.len ec low high lA l.len lc xA x.len xc)
      generalize hW : (wr.alloc (.cells (scells kind name eA es.len ec low high lA l.len lc xA x.len xc) 83)) = W at y0 hB ⊢
      clear hW hh' hg'
      generalize wr.heap.size = pb at hB ⊢
      have hC := Lib.hid hB
      have HX1 := Lib.hid (HX0.out.trans y0)
      have HXr := Lib.hid (HX.out.trans y0)
      clear HX y0
      refine wp_region_3 (fun w1 => Ext W w1) [(0, 2), (1, 2), (2, 1), (4, 2), (5, 1), (8, 2), (9, 1), (3, 0), (6, 0), (7, 2), (10, 0), (11, 2), (12, 2), (13, 2)] (by kernel_rfl) (by kernel_rfl) (by kernel_rfl) (by kernel_rfl) ?_; intro l' hl'; simp only [List.map_cons, List.map_nil, List.getD_cons_zero, List.getD_cons_succ] at hl'; subst hl'
      have HY0 := Lib.hid (show Ext W W.drew from (Kept.refl _ W).drew)
      (repeat (first | ((apply w3_pure); (· go_simp); (· (intro w1; go_simp; try with_reducible rfl)); (intro K hK; go_simp; refine hK _ _ ?_; clear hK K)) | ((apply w3_skip); (· go_simp); (intro K hK; go_simp; refine hK _ _ ?_; clear hK K)) | ((apply w3_take); (· exact HY0.out); (· go_simp); (· (intro w1 hS; have d1 := Blk.cell (Blk.ext hC.out hS); have d2 := (Blk.ext hC.out hS).lt;  go_simp; try with_reducible rfl)); (intro K hK; go_simp; refine hK _ _ ?_; clear hK K)) | ((apply w3_pass); (· exact HY0.out); (· go_simp); (intro K hK; go_simp; refine hK _ _ ?_; clear hK K))))
      (refine w3_act (fun K hK => ?_); go_simp)
      refine (szexprs_any w0 es _ _ _ N _ (HX1.out.trans HY0.out) hN KE.out).mono ?_
      rintro e w1 ⟨rfl, hx1⟩
      have HY1 := Lib.hid (HY0.out.trans hx1)
      clear hx1
      refine hK.out _ _ (fun _ => HY1.out) ?_
      clear hK K
      (repeat (first | ((apply w3_pure); (· go_simp); (· (intro w1; go_simp; try with_reducible rfl)); (intro K hK; go_simp; refine hK _ _ ?_; clear hK K)) | ((apply w3_skip); (· go_simp); (intro K hK; go_simp; refine hK _ _ ?_; clear hK K))))
      (repeat (first | ((apply w3_pure); (· go_simp); (· (intro w1; go_simp; try with_reducible rfl)); (intro K hK; go_simp; refine hK _ _ ?_; clear hK K)) | ((apply w3_skip); (· go_simp); (intro K hK; go_simp; refine hK _ _ ?_; clear hK K)) | ((apply w3_take); (· exact HY1.out); (· go_simp); (· (intro w1 hS; have d1 := Blk.cell (Blk.ext hC.out hS); have d2 := (Blk.ext hC.out hS).lt;  go_simp; try with_reducible rfl)); (intro K hK; go_simp; refine hK _ _ ?_; clear hK K)) | ((apply w3_pass); (· exact HY1.out); (· go_simp); (intro K hK; go_simp; refine hK _ _ ?_; clear hK K))))
      (refine w3_act (fun K hK => ?_); go_simp)
      refine (IL.out _ _ _ N _ (HX1.out.trans HY1.out) hN KL.out).mono ?_
      rintro e w2 ⟨rfl, hx1⟩
      have HY2 := Lib.hid (HY1.out.trans hx1)
      clear hx1
      refine hK.out _ _ (fun _ => HY2.out) ?_
      clear hK K
      (repeat (first | ((apply w3_pure); (· go_simp); (· (intro w1; go_simp; try with_reducible rfl)); (intro K hK; go_simp; refine hK _ _ ?_; clear hK K)) | ((apply w3_skip); (· go_simp); (intro K hK; go_simp; refine hK _ _ ?_; clear hK K))))
      (repeat (first | ((apply w3_pure); (· go_simp); (· (intro w1; go_simp; try with_reducible rfl)); (intro K hK; go_simp; refine hK _ _ ?_; clear hK K)) | ((apply w3_skip); (· go_simp); (intro K hK; go_simp; refine hK _ _ ?_; clear hK K)) | ((apply w3_take); (· exact HY2.out); (· go_simp); (· (intro w1 hS; have d1 := Blk.cell (Blk.ext hC.out hS); have d2 := (Blk.ext hC.out hS).lt;  go_simp; try with_reducible rfl)); (intro K hK; go_simp; refine hK _ _ ?_; clear hK K)) | ((apply w3_pass); (· exact HY2.out); (· go_simp); (intro K hK; go_simp; refine hK _ _ ?_; clear hK K))))
      (refine w3_act (fun K hK => ?_); go_simp)
      refine (IX.out _ _ _ N _ (HX1.out.trans HY2.out) hN KX.out).mono ?_
      rintro e w3 ⟨rfl, hx1⟩
      have HY3 := Lib.hid (HY2.out.trans hx1)
      clear hx1
      refine hK.out _ _ (fun _ => HY3.out) ?_
      clear hK K
      (repeat (first | ((apply w3_pure); (· go_simp); (· (intro w1; go_simp; try with_reducible rfl)); (intro K hK; go_simp; refine hK _ _ ?_; clear hK K)) | ((apply w3_skip); (· go_simp); (intro K hK; go_simp; refine hK _ _ ?_; clear hK K)) | (refine w3_end (by kernel_rfl) (fun K hK => ?_); go_simp; refine hK.out _ _ ?_; clear hK K))); refine w3_nil ?_
      go_wp2_with fail
      go_roundw
      case rel => exact ⟨j + 1, acc + (es.size + l.size + x.size), r, by omega, by omega, by go_num, by simp only [wrap_w64, w64_w64, w64_w64r]; congr 2, by rw [Nat.add_mul, ← Nat.add_assoc]; exact HR2.out, HI2.out.2.2, HXr.out.trans HY3.out⟩
      case measure => simp only [intOf]; omega
theorem szblock_ok (F : SF) (A : Option Addr) (n c N : Nat) (w : World) (hN : N ≤ w.heap.size) (h : SSl w N A n F) : Calls Tryd.prog 65 #[.slice A n c] w fun e w2 => e = .returned (.int .i64 (w64 F.size)) ∧ Ext w w2 :=
  szblock_any w F A n c N w (Kept.refl _ _) hN h
end Go.Proofs.YtfamkemdgbnegaaDoor

/- Sorts: package syntax: Size; how deep an expression is. -/
namespace Go.Proofs.YtfamkemdgbnegaaDoor
open Go.RowKit So
def preS (p : Pr) : Nat → Nat
  | 0 => p.vars.length + p.params.length
  | 1 => p.vars.length + p.params.length + p.start.size
  | 2 => p.vars.length + p.params.length + p.start.size + p.turn.size
  | 3 => p.vars.length + p.params.length + p.start.size + p.turn.size + p.play.size
  | 4 => p.vars.length + p.params.length + p.start.size + p.turn.size + p.play.size + p.quiet.size
  | _ => psize p
theorem idx5 (a b c d f : Sl3) (k : Nat) (hk : k < 5) (w : World) : (Instr.index 108 (.agg #[a.v, b.v, c.v, d.v, f.v]) (.int .i64 k)).run Tryd.prog w = .ok ([a.v, b.v, c.v, d.v, f.v].getD k undef) w := by
  have hs : ∀ w, (sizeOf 50).run Tryd.prog w = .ok 1 w := fun w => sizeOf_run (by kernel_rfl) w
  rcases (by omega : k = 0 ∨ k = 1 ∨ k = 2 ∨ k = 3 ∨ k = 4) with rfl | rfl | rfl | rfl | rfl <;>
    simp [Instr.index, run_underlying Tryd.underlying108, asIntOf, hs, part, isAgg, run_underlying Tryd.underlying50, go_sem]
set_option maxRecDepth 100000 in
set_option maxHeartbeats 2000000 in
theorem ssize_any (c : Pc) (p : Pr) (N : Nat) (w : World) (hN : N ≤ w.heap.size) (h : PAt w N c p) : Calls Tryd.prog 42 #[.agg c.cells] w fun e w' => e = .returned (.int .i64 (w64 (psize p))) ∧ Ext w w' := by
  have hx0 := (Kept.refl (fun _ => False) w).alloc (.cells c.cells 52)
  have hB := Blk.new w 52 c.cells
  have hP := Lib.hid (h.ext hx0 hN)
  have hv := Fits.max h.vars.2.1 (by omega)
  have hq := Fits.max h.params.2.1 (by omega)
  have ev := Lib.hid h.vars.1
  have eq := Lib.hid h.params.1
  have hNa := Nat.le_trans hN hx0.size
  clear h
  go_enter Tryd.func42, Tryd.ntmps42
  go_upto_region 1 with (fail)
  generalize hW : (w.alloc (.cells c.cells 52)) = W at hx0 hB hP hNa ⊢
  clear hW
  have hc1 := Blk.cell hB
  have hlt := hB.lt
  generalize w.heap.size = pb at hB hc1 hlt ⊢
  have hC := Lib.hid hB
  clear hB
  go_wp2_with fail
  go_loopw [3, 24] (fun t3 t24 wr => ∃ (j : Nat), j ≤ 5 ∧ t24 = .int .i64 j ∧ t3 = .int .i64 (w64 (preS p j)) ∧ Ext W wr) (fun _ t24 _ => 5 - (intOf t24).toNat)
  case atStart => exact ⟨0, by omega, rfl, by simp only [preS, ev.out, eq.out]; rw [w64_nat (by have := ev.out; have := eq.out; omega)]; simp, Kept.refl _ _⟩
  case round =>
    obtain ⟨j, hj, rfl, rfl, hx⟩ := hrel
    have HX := Lib.hid hx
    clear hx
    rcases (by omega : j = 0 ∨ j = 1 ∨ j = 2 ∨ j = 3 ∨ j = 4 ∨ j = 5) with rfl | rfl | rfl | rfl | rfl | rfl
    · have hix : (Instr.index 108 (.agg #[c.start.v, c.turn.v, c.play.v, c.quiet.v, c.pays.v]) (.int .i64 0)).run Tryd.prog wr = .ok c.start.v wr := idx5 c.start c.turn c.play c.quiet c.pays 0 (by omega) wr
      go_wp2_with fail
      refine (szblock_ok p.start _ _ _ N _ (Nat.le_trans hNa HX.out.size) (hP.out.start.ext HX.out hNa)).mono ?_
      rintro e w1 ⟨rfl, hx1⟩
      go_wp2_with fail
      go_roundw
      case rel => exact ⟨1, by omega, rfl, by simp only [w64_w64, w64_w64r, preS]; congr 2, HX.out.trans hx1⟩
      case measure => simp [intOf]
    · have hix : (Instr.index 108 (.agg #[c.start.v, c.turn.v, c.play.v, c.quiet.v, c.pays.v]) (.int .i64 1)).run Tryd.prog wr = .ok c.turn.v wr := idx5 c.start c.turn c.play c.quiet c.pays 1 (by omega) wr
      go_wp2_with fail
      refine (szblock_ok p.turn _ _ _ N _ (Nat.le_trans hNa HX.out.size) (hP.out.turn.ext HX.out hNa)).mono ?_
      rintro e w1 ⟨rfl, hx1⟩
      go_wp2_with fail
      go_roundw
      case rel => exact ⟨2, by omega, rfl, by simp only [w64_w64, w64_w64r, preS]; congr 2, HX.out.trans hx1⟩
      case measure => simp [intOf]
    · have hix : (Instr.index 108 (.agg #[c.start.v, c.turn.v, c.play.v, c.quiet.v, c.pays.v]) (.int .i64 2)).run Tryd.prog wr = .ok c.play.v wr := idx5 c.start c.turn c.play c.quiet c.pays 2 (by omega) wr
      go_wp2_with fail
      refine (szblock_ok p.play _ _ _ N _ (Nat.le_trans hNa HX.out.size) (hP.out.play.ext HX.out hNa)).mono ?_
      rintro e w1 ⟨rfl, hx1⟩
      go_wp2_with fail
      go_roundw
      case rel => exact ⟨3, by omega, rfl, by simp only [w64_w64, w64_w64r, preS]; congr 2, HX.out.trans hx1⟩
      case measure => simp [intOf]
    · have hix : (Instr.index 108 (.agg #[c.start.v, c.turn.v, c.play.v, c.quiet.v, c.pays.v]) (.int .i64 3)).run Tryd.prog wr = .ok c.quiet.v wr := idx5 c.start c.turn c.play c.quiet c.pays 3 (by omega) wr
      go_wp2_with fail
      refine (szblock_ok p.quiet _ _ _ N _ (Nat.le_trans hNa HX.out.size) (hP.out.quiet.ext HX.out hNa)).mono ?_
      rintro e w1 ⟨rfl, hx1⟩
      go_wp2_with fail
      go_roundw
      case rel => exact ⟨4, by omega, rfl, by simp only [w64_w64, w64_w64r, preS]; congr 2, HX.out.trans hx1⟩
      case measure => simp [intOf]
    · have hix : (Instr.index 108 (.agg #[c.start.v, c.turn.v, c.play.v, c.quiet.v, c.pays.v]) (.int .i64 4)).run Tryd.prog wr = .ok c.pays.v wr := idx5 c.start c.turn c.play c.quiet c.pays 4 (by omega) wr
      go_wp2_with fail
      refine (szblock_ok p.pays _ _ _ N _ (Nat.le_trans hNa HX.out.size) (hP.out.pays.ext HX.out hNa)).mono ?_
      rintro e w1 ⟨rfl, hx1⟩
      go_wp2_with fail
      go_roundw
      case rel => exact ⟨5, by omega, rfl, by simp only [w64_w64, w64_w64r, preS, psize]; congr 2, HX.out.trans hx1⟩
      case measure => simp [intOf]
    · go_wp2_with fail
      go_ret
      exact ⟨rfl, hx0.trans HX.out⟩
theorem deep_nn : ∀ F : EF, 0 ≤ F.deep ∧ F.deep ≤ 9223372036854775807
  | .nil => by simp [EF.deep]
  | .cons _ _ _ k r => by
    have := deep_nn r
    have : -9223372036854775808 ≤ w64 (1 + k.deep) ∧ w64 (1 + k.deep) ≤ 9223372036854775807 := by rw [w64_def]; omega
    rw [EF.deep]
    omega
abbrev DpRC (w : World) (F : EF) : Prop := ∀ (A : Option Addr) (n c N : Nat) (op m : Int) (name : ByteArray) (w' : World), Ext w w' → N ≤ w.heap.size → ESl w N A n F → Calls Tryd.prog 93 #[.agg (ecells op m name A n c)] w' fun e w2 => e = .returned (.int .i64 (w64 (1 + F.deep))) ∧ Ext w' w2
set_option maxRecDepth 100000 in
set_option maxHeartbeats 1000000 in
theorem rdeep_any (w0 : World) (F : EF) : DpRC w0 F := by
  refine ef_ind (C := DpRC w0) ?_ F
  intro F IH A n c N op m name w hx0 hN h
  obtain ⟨hn, hf, b, off, hA, hE⟩ := h
  have hm := hf.max (by omega)
  have HN := Lib.hid hn
  have HA := Lib.hid hA
  have HE := Lib.hid hE
  have HI := Lib.hid IH
  clear hn hA hE IH hf
  have hx1 := (Kept.refl (fun _ => False) w).alloc (.cells (ecells op m name A n c) 36)
  have hB := Blk.new w 36 (ecells op m name A n c)
  go_enter Tryd.func93, Tryd.ntmps93
  go_upto_region 1 with (fail)
  have HX0 := Lib.hid (hx0.trans hx1)
  have HX1 := Lib.hid hx1
  generalize hW : (w.alloc (.cells (ecells op m name A n c) 36)) = W at hB HX0 HX1 ⊢
  clear hW hx1
  generalize w.heap.size = pb at hB ⊢
  have hC := Lib.hid hB
  clear hB
  go_wp2_with fail
  go_loopw [3, 4] (fun t3 t4 wr => ∃ (j : Nat) (acc : Int) (R : EF), j + R.len = n ∧ max acc R.deep = F.deep ∧ 0 ≤ acc ∧ t4 = .int .i64 j ∧ t3 = .int .i64 acc ∧ EFAt w0 N R b (off + j * 4) ∧ EF.All (DpRC w0) R ∧ Ext W wr) (fun _ t4 _ => n - (intOf t4).toNat)
  case atStart => exact ⟨0, 0, F, by rw [HN.out, Nat.zero_add], by have := deep_nn F; omega, Int.le_refl _, rfl, rfl, by simpa using HE.out, HI.out, Kept.refl _ _⟩
  case round =>
    obtain ⟨j, acc, R, hj, hacc, hnn, rfl, rfl, hR, hI, hx⟩ := hrel
    have HNN := Lib.hid hnn
    clear hnn
    have HR := Lib.hid hR
    have HI2 := Lib.hid hI
    have HX := Lib.hid hx
    have hcr := Blk.cell (Blk.ext hC.out hx)
    have hlr := (Blk.ext hC.out hx).lt
    clear hR hI hx
    cases R with
    | nil =>
      simp only [EF.len, EF.deep, Nat.add_zero] at hj hacc
      subst hj
      have HACC := Lib.hid hacc
      clear hacc
      go_wp2_with fail
      go_ret
      refine ⟨ret_int ?_, HX1.out.trans HX.out⟩
      have h1 := HACC.out
      have h3 := HNN.out
      have h2 := (deep_nn F).1
      rw [show acc = F.deep by omega]
      show w64 _ = _
      congr 1 <;> omega
    | cons op' m' name' k r =>
      obtain ⟨hb, h1, h2, h3, ⟨A', cap, b', off', hh, hg, hl, hA', hk⟩, hr⟩ := HR.out
      simp only [EF.len, EF.deep] at hj hacc
      have HACC := Lib.hid hacc
      clear hacc
      have hlt : (j : Int) < n := by omega
      obtain rfl := HA.out (by omega)
      have hx0r := HX0.out.trans HX.out
      have hbl := hx0r.size
      have hh' := has_ext hx0r (by omega) hh
      have hg' := gets_ext hx0r (by omega) hg
      have hbw : b < wr.heap.size := by omega
      have KE := Lib.hid (show ESl w0 N A' k.len k from ⟨rfl, hl, b', off', hA', hk⟩)
      have IK := Lib.hid HI2.out.1
      have HX0r := Lib.hid hx0r
      have HR2 := Lib.hid hr
      clear hh hg hl hA' hk h1 h2 h3 HR hbl hx0r hr
      go_wp2_with fail
      refine (IK.out _ _ _ N _ _ _ _ HX0r.out hN KE.out).mono ?_
      rintro e w2 ⟨rfl, hx2⟩
      obtain ⟨d, hd⟩ : ∃ d, d = w64 (1 + k.deep) := ⟨_, rfl⟩
      rw [← hd]
      have HD := Lib.hid hd
      clear hd
      by_cases hgt : acc < d
      · go_wp2_with fail
        go_roundw
        case rel => exact ⟨j + 1, d, r, by omega, by have := HACC.out; have := HD.out; omega, by have := HNN.out; omega, by go_num, rfl, by rw [Nat.add_mul, ← Nat.add_assoc]; exact HR2.out, HI2.out.2, HX.out.trans hx2⟩
        case measure => simp only [intOf]; omega
      · go_wp2_with fail
        go_roundw
        case rel => exact ⟨j + 1, acc, r, by omega, by have := HACC.out; have := HD.out; omega, by have := HNN.out; omega, by go_num, rfl, by rw [Nat.add_mul, ← Nat.add_assoc]; exact HR2.out, HI2.out.2, HX.out.trans hx2⟩
        case measure => simp only [intOf]; omega
abbrev DpSC (w : World) (F : EF) : Prop := ∀ (A : Option Addr) (n c N : Nat) (op m : Int) (name : ByteArray) (w' : World), Ext w w' → N ≤ w.heap.size → ESl w N A n F → Calls Tryd.prog 106 #[.agg (ecells op m name A n c)] w' fun e w2 => e = .returned (.int .i64 (w64 (1 + F.deep))) ∧ Ext w' w2
set_option maxRecDepth 100000 in
set_option maxHeartbeats 1000000 in
theorem sdeep_any (w0 : World) (F : EF) : DpSC w0 F := by
  refine ef_ind (C := DpSC w0) ?_ F
  intro F IH A n c N op m name w hx0 hN h
  obtain ⟨hn, hf, b, off, hA, hE⟩ := h
  have hm := hf.max (by omega)
  have HN := Lib.hid hn
  have HA := Lib.hid hA
  have HE := Lib.hid hE
  have HI := Lib.hid IH
  clear hn hA hE IH hf
  have hx1 := (Kept.refl (fun _ => False) w).alloc (.cells (ecells op m name A n c) 120)
  have HX0 := Lib.hid (hx0.trans hx1)
  have HX1 := Lib.hid hx1
  clear hx1
  go_enter Tryd.func106, Tryd.ntmps106
  go_upto_region 1 with (fail)
  go_wp2_with fail
  go_loopw [3, 9] (fun t3 t9 wr => ∃ (j : Nat) (acc : Int) (R : EF), j + R.len = n ∧ max acc R.deep = F.deep ∧ 0 ≤ acc ∧ t9 = .int .i64 j ∧ t3 = .int .i64 acc ∧ EFAt w0 N R b (off + j * 4) ∧ EF.All (DpSC w0) R ∧ Ext (w.alloc (.cells (ecells op m name A n c) 120)) wr) (fun _ t9 _ => n - (intOf t9).toNat)
  case atStart => exact ⟨0, 0, F, by rw [HN.out, Nat.zero_add], by have := deep_nn F; omega, Int.le_refl _, rfl, rfl, by simpa using HE.out, HI.out, Kept.refl _ _⟩
  case round =>
    obtain ⟨j, acc, R, hj, hacc, hnn, rfl, rfl, hR, hI, hx⟩ := hrel
    have HNN := Lib.hid hnn
    clear hnn
    have HR := Lib.hid hR
    have HI2 := Lib.hid hI
    have HX := Lib.hid hx
    clear hR hI hx
    cases R with
    | nil =>
      simp only [EF.len, EF.deep, Nat.add_zero] at hj hacc
      subst hj
      have HACC := Lib.hid hacc
      clear hacc
      go_wp2_with fail
      go_ret
      refine ⟨ret_int ?_, HX1.out.trans HX.out⟩
      have h1 := HACC.out
      have h3 := HNN.out
      have h2 := (deep_nn F).1
      rw [show acc = F.deep by omega]
    | cons op' m' name' k r =>
      obtain ⟨hb, h1, h2, h3, ⟨A', cap, b', off', hh, hg, hl, hA', hk⟩, hr⟩ := HR.out
      simp only [EF.len, EF.deep] at hj hacc
      have HACC := Lib.hid hacc
      clear hacc
      have hlt : (j : Int) < n := by omega
      obtain rfl := HA.out (by omega)
      have hx0r := HX0.out.trans HX.out
      have hbl := hx0r.size
      have hh' := has_ext hx0r (by omega) hh
      have hg' := gets_ext hx0r (by omega) hg
      have hbw : b < wr.heap.size := by omega
      have KE := Lib.hid (show ESl w0 N A' k.len k from ⟨rfl, hl, b', off', hA', hk⟩)
      have IK := Lib.hid HI2.out.1
      have HX0r := Lib.hid hx0r
      have HR2 := Lib.hid hr
      clear hh hg hl hA' hk h1 h2 h3 HR hbl hx0r hr
      go_wp2_with fail
      have y0 : Ext wr _ := (Kept.refl _ wr).alloc (.cells (ecells op' m' name' A' k.len cap) 120)
      refine (IK.out _ _ _ N _ _ _ _ (HX0r.out.trans y0) hN KE.out).mono ?_
      rintro e w2 ⟨rfl, hx2⟩
      obtain ⟨d, hd⟩ : ∃ d, d = w64 (1 + k.deep) := ⟨_, rfl⟩
      rw [← hd]
      have HD := Lib.hid hd
      clear hd
      go_wp2_with fail
      go_roundw
      case rel => exact ⟨j + 1, max acc d, r, by omega, by have := HACC.out; have := HD.out; omega, by have := HNN.out; omega, by go_num, by congr 1; split <;> omega, by rw [Nat.add_mul, ← Nat.add_assoc]; exact HR2.out, HI2.out.2, HX.out.trans (y0.trans hx2)⟩
      case measure => simp only [intOf]; omega
end Go.Proofs.YtfamkemdgbnegaaDoor

/- Sorts: trees that a call has built, by the blocks that they lie in. -/
namespace Go.Proofs.YtfamkemdgbnegaaDoor
open Go.RowKit So
/-- expressions lie in memory, in blocks of D, from a place on -/
def EFIn (w : World) (D : Nat → Prop) : EF → Nat → Nat → Prop
  | .nil, _, _ => True
  | .cons op n name k r, b, off => D b ∧ i64ok op ∧ i64ok n ∧ name.size ≤ maxLen ∧ (∃ A cap b' off', Proofs.YtfamkemdgbnegaaDoor.has w b off 4 = true ∧ gets w b off 4 = ecells op n name A k.len cap ∧ Fits k.len 56 ∧ (0 < k.len → A = some ⟨b', off', none⟩) ∧ EFIn w D k b' off') ∧ EFIn w D r b (off + 4)
def EsIn (w : World) (D : Nat → Prop) (A : Option Addr) (n : Nat) (F : EF) : Prop := n = F.len ∧ Fits n 56 ∧ ∃ b off, (0 < n → A = some ⟨b, off, none⟩) ∧ EFIn w D F b off
def SFIn (w : World) (D : Nat → Prop) : SF → Nat → Nat → Prop
  | .nil, _, _ => True
  | .cons kind name e low high l x r, b, off => D b ∧ i64ok kind ∧ i64ok low ∧ i64ok high ∧ name.size ≤ maxLen ∧
    (∃ eA ec lA lc xA xc be oe bl ol bx ox, Proofs.YtfamkemdgbnegaaDoor.has w b off 7 = true ∧ gets w b off 7 = scells kind name eA e.len ec low high lA l.len lc xA x.len xc ∧ Fits e.len 56 ∧ Fits l.len 112 ∧ Fits x.len 112 ∧
      (0 < e.len → eA = some ⟨be, oe, none⟩) ∧ (0 < l.len → lA = some ⟨bl, ol, none⟩) ∧ (0 < x.len → xA = some ⟨bx, ox, none⟩) ∧ EFIn w D e be oe ∧ SFIn w D l bl ol ∧ SFIn w D x bx ox) ∧ SFIn w D r b (off + 7)
def SsIn (w : World) (D : Nat → Prop) (A : Option Addr) (n : Nat) (F : SF) : Prop := n = F.len ∧ Fits n 112 ∧ ∃ b off, (0 < n → A = some ⟨b, off, none⟩) ∧ SFIn w D F b off
section
variable {S : Nat → Prop} {w w' : World} {D D' : Nat → Prop}
theorem EFIn.kept (hk : Kept S w w') (hD : ∀ i, D i → i < w.heap.size ∧ ¬ S i) : ∀ {F : EF} {b off : Nat}, EFIn w D F b off → EFIn w' D F b off
  | .nil, _, _, _ => trivial
  | .cons _ _ _ _ _, b, off, h => by
    obtain ⟨hb, h1, h2, h3, ⟨A, cap, b', off', hh, hg, hl, hA, hk'⟩, hr⟩ := h
    obtain ⟨q1, q2⟩ := hD b hb
    exact ⟨hb, h1, h2, h3, ⟨A, cap, b', off', by rw [has_keep hk q1 q2]; exact hh, by rw [gets_keep hk q1 q2]; exact hg, hl, hA, hk'.kept hk hD⟩, hr.kept hk hD⟩
theorem EFIn.mono (hD : ∀ i, D i → D' i) : ∀ {F : EF} {b off : Nat}, EFIn w D F b off → EFIn w D' F b off
  | .nil, _, _, _ => trivial
  | .cons _ _ _ _ _, b, off, h => by
    obtain ⟨hb, h1, h2, h3, ⟨A, cap, b', off', hh, hg, hl, hA, hk'⟩, hr⟩ := h
    exact ⟨hD b hb, h1, h2, h3, ⟨A, cap, b', off', hh, hg, hl, hA, hk'.mono hD⟩, hr.mono hD⟩
theorem EFIn.at_ {N : Nat} (hD : ∀ i, D i → i < N) : ∀ {F : EF} {b off : Nat}, EFIn w D F b off → EFAt w N F b off
  | .nil, _, _, _ => trivial
  | .cons _ _ _ _ _, b, off, h => by
    obtain ⟨hb, h1, h2, h3, ⟨A, cap, b', off', hh, hg, hl, hA, hk'⟩, hr⟩ := h
    exact ⟨hD b hb, h1, h2, h3, ⟨A, cap, b', off', hh, hg, hl, hA, hk'.at_ hD⟩, hr.at_ hD⟩
theorem SFIn.kept (hk : Kept S w w') (hD : ∀ i, D i → i < w.heap.size ∧ ¬ S i) : ∀ {F : SF} {b off : Nat}, SFIn w D F b off → SFIn w' D F b off
  | .nil, _, _, _ => trivial
  | .cons _ _ _ _ _ _ _ _, b, off, h => by
    obtain ⟨hb, h1, h2, h3, h4, ⟨eA, ec, lA, lc, xA, xc, be, oe, bl, ol, bx, ox, hh, hg, n1, n2, n3, a1, a2, a3, he, hl, hx⟩, hr⟩ := h
    obtain ⟨q1, q2⟩ := hD b hb
    exact ⟨hb, h1, h2, h3, h4, ⟨eA, ec, lA, lc, xA, xc, be, oe, bl, ol, bx, ox, by rw [has_keep hk q1 q2]; exact hh, by rw [gets_keep hk q1 q2]; exact hg, n1, n2, n3, a1, a2, a3, he.kept hk hD, hl.kept hk hD, hx.kept hk hD⟩, hr.kept hk hD⟩
theorem SFIn.mono (hD : ∀ i, D i → D' i) : ∀ {F : SF} {b off : Nat}, SFIn w D F b off → SFIn w D' F b off
  | .nil, _, _, _ => trivial
  | .cons _ _ _ _ _ _ _ _, b, off, h => by
    obtain ⟨hb, h1, h2, h3, h4, ⟨eA, ec, lA, lc, xA, xc, be, oe, bl, ol, bx, ox, hh, hg, n1, n2, n3, a1, a2, a3, he, hl, hx⟩, hr⟩ := h
    exact ⟨hD b hb, h1, h2, h3, h4, ⟨eA, ec, lA, lc, xA, xc, be, oe, bl, ol, bx, ox, hh, hg, n1, n2, n3, a1, a2, a3, he.mono hD, hl.mono hD, hx.mono hD⟩, hr.mono hD⟩
theorem SFIn.at_ {N : Nat} (hD : ∀ i, D i → i < N) : ∀ {F : SF} {b off : Nat}, SFIn w D F b off → SFAt w N F b off
  | .nil, _, _, _ => trivial
  | .cons _ _ _ _ _ _ _ _, b, off, h => by
    obtain ⟨hb, h1, h2, h3, h4, ⟨eA, ec, lA, lc, xA, xc, be, oe, bl, ol, bx, ox, hh, hg, n1, n2, n3, a1, a2, a3, he, hl, hx⟩, hr⟩ := h
    exact ⟨hD b hb, h1, h2, h3, h4, ⟨eA, ec, lA, lc, xA, xc, be, oe, bl, ol, bx, ox, hh, hg, n1, n2, n3, a1, a2, a3, he.at_ hD, hl.at_ hD, hx.at_ hD⟩, hr.at_ hD⟩
theorem EsIn.kept {A : Option Addr} {n : Nat} {F : EF} (h : EsIn w D A n F) (hk : Kept S w w') (hD : ∀ i, D i → i < w.heap.size ∧ ¬ S i) : EsIn w' D A n F := by
  obtain ⟨h1, h2, b, off, h3, h4⟩ := h
  exact ⟨h1, h2, b, off, h3, h4.kept hk hD⟩
theorem EsIn.mono {A : Option Addr} {n : Nat} {F : EF} (h : EsIn w D A n F) (hD : ∀ i, D i → D' i) : EsIn w D' A n F := by
  obtain ⟨h1, h2, b, off, h3, h4⟩ := h
  exact ⟨h1, h2, b, off, h3, h4.mono hD⟩
theorem EsIn.at_ {N : Nat} {A : Option Addr} {n : Nat} {F : EF} (h : EsIn w D A n F) (hD : ∀ i, D i → i < N) : ESl w N A n F := by
  obtain ⟨h1, h2, b, off, h3, h4⟩ := h
  exact ⟨h1, h2, b, off, h3, h4.at_ hD⟩
theorem SsIn.kept {A : Option Addr} {n : Nat} {F : SF} (h : SsIn w D A n F) (hk : Kept S w w') (hD : ∀ i, D i → i < w.heap.size ∧ ¬ S i) : SsIn w' D A n F := by
  obtain ⟨h1, h2, b, off, h3, h4⟩ := h
  exact ⟨h1, h2, b, off, h3, h4.kept hk hD⟩
theorem SsIn.mono {A : Option Addr} {n : Nat} {F : SF} (h : SsIn w D A n F) (hD : ∀ i, D i → D' i) : SsIn w D' A n F := by
  obtain ⟨h1, h2, b, off, h3, h4⟩ := h
  exact ⟨h1, h2, b, off, h3, h4.mono hD⟩
theorem SsIn.at_ {N : Nat} {A : Option Addr} {n : Nat} {F : SF} (h : SsIn w D A n F) (hD : ∀ i, D i → i < N) : SSl w N A n F := by
  obtain ⟨h1, h2, b, off, h3, h4⟩ := h
  exact ⟨h1, h2, b, off, h3, h4.at_ hD⟩
end
/-! ### those side by side, as a list of heads -/
structure Ec where (op n : Int) (name : ByteArray) (A : Option Addr) (len cap : Nat)
abbrev Ec.cells (c : Ec) : Array Value := ecells c.op c.n c.name c.A c.len c.cap
structure Sc where (kind : Int) (name : ByteArray) (eA : Option Addr) (en ec : Nat) (low high : Int) (lA : Option Addr) (ln lc : Nat) (xA : Option Addr) (xn xc : Nat)
abbrev Sc.cells (c : Sc) : Array Value := scells c.kind c.name c.eA c.en c.ec c.low c.high c.lA c.ln c.lc c.xA c.xn c.xc
def So.EF.app : EF → EF → EF | .nil, b => b | .cons o n s k r, b => .cons o n s k (EF.app r b)
def So.SF.app : SF → SF → SF | .nil, b => b | .cons k n e a c l x r, b => .cons k n e a c l x (SF.app r b)
theorem ef_app_cons (o n : Int) (s : Str) (k r : EF) : ∀ P : EF, (P.app (.cons o n s k .nil)).app r = P.app (.cons o n s k r)
  | .nil => rfl
  | .cons _ _ _ _ q => by simp only [EF.app]; rw [ef_app_cons o n s k r q]
theorem sf_app_cons (k : Int) (n : Str) (e : EF) (a c : Int) (l x r : SF) : ∀ P : SF, (P.app (.cons k n e a c l x .nil)).app r = P.app (.cons k n e a c l x r)
  | .nil => rfl
  | .cons _ _ _ _ _ _ _ q => by simp only [SF.app]; rw [sf_app_cons k n e a c l x r q]
theorem ef_app_nil : ∀ P : EF, P.app .nil = P | .nil => rfl | .cons _ _ _ _ q => by rw [EF.app, ef_app_nil q]
theorem sf_app_nil : ∀ P : SF, P.app .nil = P | .nil => rfl | .cons _ _ _ _ _ _ _ q => by rw [SF.app, sf_app_nil q]
def EcsIn (w : World) (D : Nat → Prop) : List Ec → EF → Prop
  | [], .nil => True
  | c :: l, .cons op n name k r => c.op = op ∧ c.n = n ∧ c.name = name ∧ i64ok op ∧ i64ok n ∧ name.size ≤ maxLen ∧ EsIn w D c.A c.len k ∧ EcsIn w D l r
  | _, _ => False
structure ScIn (w : World) (D : Nat → Prop) (c : Sc) (kind : Int) (name : Str) (e : EF) (low high : Int) (l x : SF) : Prop where
  k : c.kind = kind
  n : c.name = name
  a : c.low = low
  b : c.high = high
  k1 : i64ok kind
  a1 : i64ok low
  b1 : i64ok high
  n1 : name.size ≤ maxLen
  e : EsIn w D c.eA c.en e
  l : SsIn w D c.lA c.ln l
  x : SsIn w D c.xA c.xn x
def ScsIn (w : World) (D : Nat → Prop) : List Sc → SF → Prop
  | [], .nil => True
  | c :: t, .cons kind name e low high l x r => ScIn w D c kind name e low high l x ∧ ScsIn w D t r
  | _, _ => False
section
variable {S : Nat → Prop} {w w' : World} {D D' : Nat → Prop}
theorem EcsIn.len : ∀ {l : List Ec} {F : EF}, EcsIn w D l F → l.length = F.len
  | [], .nil, _ => rfl
  | _ :: _, .cons _ _ _ _ _, h => by simp [EF.len, (h.2.2.2.2.2.2.2).len]
  | [], .cons _ _ _ _ _, h => h.elim
  | _ :: _, .nil, h => h.elim
theorem ScsIn.len : ∀ {l : List Sc} {F : SF}, ScsIn w D l F → l.length = F.len
  | [], .nil, _ => rfl
  | _ :: _, .cons _ _ _ _ _ _ _ _, h => by simp [SF.len, h.2.len]
  | [], .cons _ _ _ _ _ _ _ _, h => h.elim
  | _ :: _, .nil, h => h.elim
theorem EcsIn.kept (hk : Kept S w w') (hD : ∀ i, D i → i < w.heap.size ∧ ¬ S i) : ∀ {l : List Ec} {F : EF}, EcsIn w D l F → EcsIn w' D l F
  | [], .nil, _ => trivial
  | _ :: _, .cons _ _ _ _ _, h => ⟨h.1, h.2.1, h.2.2.1, h.2.2.2.1, h.2.2.2.2.1, h.2.2.2.2.2.1, h.2.2.2.2.2.2.1.kept hk hD, (h.2.2.2.2.2.2.2).kept hk hD⟩
  | [], .cons _ _ _ _ _, h => h.elim
  | _ :: _, .nil, h => h.elim
theorem EcsIn.mono (hD : ∀ i, D i → D' i) : ∀ {l : List Ec} {F : EF}, EcsIn w D l F → EcsIn w D' l F
  | [], .nil, _ => trivial
  | _ :: _, .cons _ _ _ _ _, h => ⟨h.1, h.2.1, h.2.2.1, h.2.2.2.1, h.2.2.2.2.1, h.2.2.2.2.2.1, h.2.2.2.2.2.2.1.mono hD, (h.2.2.2.2.2.2.2).mono hD⟩
  | [], .cons _ _ _ _ _, h => h.elim
  | _ :: _, .nil, h => h.elim
theorem ScIn.kept {c : Sc} {kind : Int} {name : Str} {e : EF} {low high : Int} {l x : SF} (hk : Kept S w w') (hD : ∀ i, D i → i < w.heap.size ∧ ¬ S i) (h : ScIn w D c kind name e low high l x) : ScIn w' D c kind name e low high l x :=
  ⟨h.k, h.n, h.a, h.b, h.k1, h.a1, h.b1, h.n1, h.e.kept hk hD, h.l.kept hk hD, h.x.kept hk hD⟩
theorem ScIn.mono {c : Sc} {kind : Int} {name : Str} {e : EF} {low high : Int} {l x : SF} (hD : ∀ i, D i → D' i) (h : ScIn w D c kind name e low high l x) : ScIn w D' c kind name e low high l x :=
  ⟨h.k, h.n, h.a, h.b, h.k1, h.a1, h.b1, h.n1, h.e.mono hD, h.l.mono hD, h.x.mono hD⟩
theorem ScsIn.kept (hk : Kept S w w') (hD : ∀ i, D i → i < w.heap.size ∧ ¬ S i) : ∀ {l : List Sc} {F : SF}, ScsIn w D l F → ScsIn w' D l F
  | [], .nil, _ => trivial
  | _ :: _, .cons _ _ _ _ _ _ _ _, h => ⟨h.1.kept hk hD, h.2.kept hk hD⟩
  | [], .cons _ _ _ _ _ _ _ _, h => h.elim
  | _ :: _, .nil, h => h.elim
theorem ScsIn.mono (hD : ∀ i, D i → D' i) : ∀ {l : List Sc} {F : SF}, ScsIn w D l F → ScsIn w D' l F
  | [], .nil, _ => trivial
  | _ :: _, .cons _ _ _ _ _ _ _ _, h => ⟨h.1.mono hD, h.2.mono hD⟩
  | [], .cons _ _ _ _ _ _ _ _, h => h.elim
  | _ :: _, .nil, h => h.elim
theorem EcsIn.snoc {c : Ec} {op n : Int} {name : Str} {k : EF} (h1 : c.op = op ∧ c.n = n ∧ c.name = name ∧ i64ok op ∧ i64ok n ∧ name.size ≤ maxLen ∧ EsIn w D c.A c.len k) : ∀ {l : List Ec} {F : EF}, EcsIn w D l F → EcsIn w D (l ++ [c]) (F.app (.cons op n name k .nil))
  | [], .nil, _ => ⟨h1.1, h1.2.1, h1.2.2.1, h1.2.2.2.1, h1.2.2.2.2.1, h1.2.2.2.2.2.1, h1.2.2.2.2.2.2, trivial⟩
  | _ :: _, .cons _ _ _ _ _, h => ⟨h.1, h.2.1, h.2.2.1, h.2.2.2.1, h.2.2.2.2.1, h.2.2.2.2.2.1, h.2.2.2.2.2.2.1, (h.2.2.2.2.2.2.2).snoc h1⟩
  | [], .cons _ _ _ _ _, h => h.elim
  | _ :: _, .nil, h => h.elim
theorem ScsIn.snoc {c : Sc} {kind : Int} {name : Str} {e : EF} {low high : Int} {l x : SF} (h1 : ScIn w D c kind name e low high l x) : ∀ {t : List Sc} {F : SF}, ScsIn w D t F → ScsIn w D (t ++ [c]) (F.app (.cons kind name e low high l x .nil))
  | [], .nil, _ => ⟨h1, trivial⟩
  | _ :: _, .cons _ _ _ _ _ _ _ _, h => ⟨h.1, h.2.snoc h1⟩
  | [], .cons _ _ _ _ _ _ _ _, h => h.elim
  | _ :: _, .nil, h => h.elim
theorem EcsIn.shut {b : Nat} (hb : D b) : ∀ {l : List Ec} {F : EF} {off : Nat}, EcsIn w D l F → (0 < l.length → Row w b off (rowsL Ec.cells l)) → EFIn w D F b off
  | [], .nil, _, _, _ => trivial
  | c :: t, .cons op n name k r, off, h, hr => by
    obtain ⟨rfl, rfl, rfl, h4, h5, h6, ⟨e1, e2, b', off', e3, e4⟩, h8⟩ := h
    have hrow := hr (by simp)
    have h0 := rowsL_row (f := Ec.cells) (k := 4) (fun _ => rfl) hrow 0 (by simp)
    simp only [Nat.zero_mul, Nat.add_zero, List.getElem_cons_zero] at h0
    refine ⟨hb, h4, h5, h6, ⟨c.A, c.cap, b', off', h0.1, ?_, by rw [← e1]; exact e2, fun q => e3 (by rw [e1]; exact q), e4⟩, h8.shut hb (fun h0t => ?_)⟩
    · rw [h0.2, ← e1]
    · have hs := hrow.sub 4 (rowsL Ec.cells t).length (by show 4 + _ ≤ (rowsL Ec.cells (c :: t)).length; rw [rowsL_len (k := 4) (fun _ => rfl), rowsL_len (k := 4) (fun _ => rfl), List.length_cons]; omega)
      refine ⟨hs.1, ?_, hrow.lt⟩
      rw [hs.2]
      congr 1
      show ((c.cells.toList ++ rowsL Ec.cells t).drop 4).take _ = _
      rw [List.drop_append_of_le_length (by simp)]
      simp
  | [], .cons _ _ _ _ _, _, h, _ => h.elim
  | _ :: _, .nil, _, h, _ => h.elim
theorem ScsIn.shut {b : Nat} (hb : D b) : ∀ {l : List Sc} {F : SF} {off : Nat}, ScsIn w D l F → (0 < l.length → Row w b off (rowsL Sc.cells l)) → SFIn w D F b off
  | [], .nil, _, _, _ => trivial
  | c :: t, .cons kind name e low high l x r, off, h, hr => by
    obtain ⟨⟨rfl, rfl, rfl, rfl, h4, h5, h6, h7, ⟨e1, e2, be, oe, e3, e4⟩, ⟨l1, l2, bl, ol, l3, l4⟩, ⟨x1, x2, bx, ox, x3, x4⟩⟩, h8⟩ := h
    have hrow := hr (by simp)
    have h0 := rowsL_row (f := Sc.cells) (k := 7) (fun _ => rfl) hrow 0 (by simp)
    simp only [Nat.zero_mul, Nat.add_zero, List.getElem_cons_zero] at h0
    refine ⟨hb, h4, h5, h6, h7, ⟨c.eA, c.ec, c.lA, c.lc, c.xA, c.xc, be, oe, bl, ol, bx, ox, h0.1, ?_, by rw [← e1]; exact e2, by rw [← l1]; exact l2, by rw [← x1]; exact x2, fun q => e3 (by rw [e1]; exact q), fun q => l3 (by rw [l1]; exact q), fun q => x3 (by rw [x1]; exact q), e4, l4, x4⟩, h8.shut hb (fun h0t => ?_)⟩
    · rw [h0.2, ← e1, ← l1, ← x1]
    · have hs := hrow.sub 7 (rowsL Sc.cells t).length (by show 7 + _ ≤ (rowsL Sc.cells (c :: t)).length; rw [rowsL_len (k := 7) (fun _ => rfl), rowsL_len (k := 7) (fun _ => rfl), List.length_cons]; omega)
      refine ⟨hs.1, ?_, hrow.lt⟩
      rw [hs.2]
      congr 1
      show ((c.cells.toList ++ rowsL Sc.cells t).drop 7).take _ = _
      rw [List.drop_append_of_le_length (by simp)]
      simp
  | [], .cons _ _ _ _ _ _ _ _, _, h, _ => h.elim
  | _ :: _, .nil, _, h, _ => h.elim
end
end Go.Proofs.YtfamkemdgbnegaaDoor

/- Sorts: expressions of the document's as the program's, and back. -/
namespace Go.Proofs.YtfamkemdgbnegaaDoor
open Go.RowKit So
/-- a slice's elements: their type, how many cells and bytes each has -/
def ElemOk (P : Program) (T E : TypeId) (sz bytes : Nat) : Prop := P.underlying T = some (.slice E) ∧ ∃ i z, P.info? E = some i ∧ i.zero = some z ∧ i.size = sz ∧ i.bytes = bytes ∧ z.cells.size = sz ∧ 0 < sz
theorem elem_ok {P : Program} {T E : TypeId} {sz bytes : Nat} (ht : P.underlying T = some (.slice E)) (h : (P.info? E).map (fun i => (i.zero.map (fun z => z.cells.size), i.size, i.bytes)) = some (some sz, sz, bytes)) (h0 : 0 < sz) : ElemOk P T E sz bytes := by
  refine ⟨ht, ?_⟩
  cases hi : P.info? E with
  | none => rw [hi] at h; cases h
  | some i =>
    rw [hi] at h
    simp only [Option.map_some, Option.some.injEq, Prod.mk.injEq] at h
    obtain ⟨h1, h2, h3⟩ := h
    cases hz : i.zero with
    | none => rw [hz] at h1; cases h1
    | some z =>
      rw [hz] at h1
      simp only [Option.map_some, Option.some.injEq] at h1
      exact ⟨i, z, rfl, hz, h2, h3, h1, h0⟩
theorem appR {α : Type} {f : α → Array Value} {P : Program} {T E : TypeId} {sz bytes : Nat} (hE : ElemOk P T E sz bytes) (hf : ∀ d, (f d).size = sz) (hfl : ∀ d, flatL (f d).toList = true) (w : World) (base : Nat) (v : Value) (n : Nat) (xs : List α) (hown : w.ownsRow base E sz v n (rowsL f xs))
    (b off m c : Nat) (l : List α) (hm : m = l.length) (hr : Row w b off (rowsL f l)) (hn : (n + m) * bytes ≤ 140737488355328) (hbase : base ≤ w.heap.size) (h8 : 8 ≤ bytes := by omega) :
    ∃ v' w', (Builtin.append_ #[T, T] T #[v, .slice (some ⟨b, off, none⟩) m c]).run P w = .ok v' w' ∧ w'.ownsRow base E sz v' (n + m) (rowsL f (xs ++ l)) ∧ Kept (fun i => v.ownBlock = some i) w w' ∧ (∀ i, v'.ownBlock = some i → v.ownBlock = some i ∨ w.heap.size ≤ i) := by
  obtain ⟨ht, i, z, hi, hz, h1, h2, h3, h4⟩ := hE
  have hmx : n + m ≤ maxLen := by
    have : (n + m) * 8 ≤ (n + m) * bytes := Nat.mul_le_mul_left _ h8
    unfold maxLen
    omega
  have hfl2 := flatL_all (rowsL_flat hfl l)
  have hlen : (rowsL f l).length = m * sz := by rw [rowsL_len hf, hm]
  obtain ⟨v', w', hrun, ho, hg, _⟩ := run_append_own (P := P) w base T T E i z sz bytes ht hi hz h1 h2 h3 h4 v n (rowsL f xs) hown ⟨b, off, none⟩ m c (rowsL f l) hlen hr.cells hfl2 hmx hn hbase
  rw [rowsL_app] at ho
  refine ⟨v', w', hrun, ho, Kept.of_grown hg, ?_⟩
  rcases hown.2 with ⟨rfl, rfl⟩ | ⟨g, cap, cur, rfl, hbg, hgc, hnc, hcm, hcs, htake⟩
  · have hx : rowsL f xs = [] := List.eq_nil_of_length_eq_zero (by simpa using hown.1)
    obtain ⟨v2, w2, hrun2, ho2, _, _⟩ := run_append_own (P := P) w w.heap.size T T E i z sz bytes ht hi hz h1 h2 h3 h4 (.slice none 0 0) 0 [] (World.ownsRow_nil _ _ _ _) ⟨b, off, none⟩ m c (rowsL f l) hlen hr.cells hfl2 hmx hn (Nat.le_refl _)
    rw [hrun] at hrun2
    injection hrun2 with e1 e2
    subst e1
    subst e2
    exact fun i hi => .inr (ho2.lt i hi).1
  · by_cases hroom : n + m ≤ cap
    · have hr2 := run_append_room (P := P) w T T E i ht hi g n cap cur hgc ⟨b, off, none⟩ m c (rowsL f l) (by rw [h1]; exact hlen) hr.cells hfl2 hroom (by rw [h1, hlen, hcs, ← Nat.add_mul]; exact Nat.mul_le_mul_right _ hroom)
      rw [hrun] at hr2
      injection hr2 with e1 e2
      subst e1
      exact fun i hi => .inl hi
    · have hr2 := run_append_grow (P := P) w T T E i z ht hi hz ⟨g, 0, none⟩ n cap (rowsL f xs) (by rw [h1]; exact hown.1) (hown.cells (g := g) rfl) ⟨b, off, none⟩ m c (rowsL f l) (by rw [h1]; exact hlen) hr.cells (by omega) (by unfold maxLen at hmx; omega) (growslice_fits (by omega) (by rw [h2]; exact hn))
      rw [hrun] at hr2
      injection hr2 with e1 e2
      subst e1
      intro i hi
      simp only [Value.ownBlock, Option.some.injEq] at hi
      exact .inr (by omega)
theorem owns_es {w w' : World} {T : TypeId} {v : Value} {n : Nat} {l : List Ec} {F : EF} (ho : w'.ownsRow w.heap.size T 4 v n (rowsL Ec.cells l)) (he : EcsIn w' (fun i => w.heap.size ≤ i ∧ i < w'.heap.size ∧ ¬ v.ownBlock = some i) l F) (hn : n = F.len) (hf : Fits n 56) (hl : l.length = n) :
    ∃ A' c', Ending.returned v = .returned (.slice A' n c') ∧ EsIn w' (fun i => w.heap.size ≤ i ∧ i < w'.heap.size) A' n F := by
  have he' := he.mono (D' := fun i => w.heap.size ≤ i ∧ i < w'.heap.size) (fun i hi => ⟨hi.1, hi.2.1⟩)
  by_cases h0 : 0 < n
  · obtain ⟨g, c, rfl, hr, hg, _⟩ := own_rows ho h0 (by omega)
    refine ⟨some ⟨g, 0, none⟩, c, rfl, hn, hf, g, 0, fun _ => rfl, he'.shut ⟨hg, hr.lt⟩ (fun _ => hr)⟩
  · obtain rfl : n = 0 := by omega
    have hF : F = .nil := by cases F with
      | nil => rfl
      | cons _ _ _ _ _ => simp [EF.len] at hn
    subst hF
    rcases ho.2 with ⟨hv, _⟩ | ⟨g, c, cur, hv, _⟩
    · exact ⟨none, 0, by rw [hv], hn, hf, 0, 0, fun q => by omega, trivial⟩
    · exact ⟨some ⟨g, 0, none⟩, c, by rw [hv], hn, hf, 0, 0, fun q => by omega, trivial⟩
theorem owns_ss {w w' : World} {T : TypeId} {v : Value} {n : Nat} {l : List Sc} {F : SF} (ho : w'.ownsRow w.heap.size T 7 v n (rowsL Sc.cells l)) (he : ScsIn w' (fun i => w.heap.size ≤ i ∧ i < w'.heap.size ∧ ¬ v.ownBlock = some i) l F) (hn : n = F.len) (hf : Fits n 112) (hl : l.length = n) :
    ∃ A' c', Ending.returned v = .returned (.slice A' n c') ∧ SsIn w' (fun i => w.heap.size ≤ i ∧ i < w'.heap.size) A' n F := by
  have he' := he.mono (D' := fun i => w.heap.size ≤ i ∧ i < w'.heap.size) (fun i hi => ⟨hi.1, hi.2.1⟩)
  by_cases h0 : 0 < n
  · obtain ⟨g, c, rfl, hr, hg, _⟩ := own_rows ho h0 (by omega)
    refine ⟨some ⟨g, 0, none⟩, c, rfl, hn, hf, g, 0, fun _ => rfl, he'.shut ⟨hg, hr.lt⟩ (fun _ => hr)⟩
  · obtain rfl : n = 0 := by omega
    have hF : F = .nil := by cases F with
      | nil => rfl
      | cons _ _ _ _ _ _ _ _ => simp [SF.len] at hn
    subst hF
    rcases ho.2 with ⟨hv, _⟩ | ⟨g, c, cur, hv, _⟩
    · exact ⟨none, 0, by rw [hv], hn, hf, 0, 0, fun q => by omega, trivial⟩
    · exact ⟨some ⟨g, 0, none⟩, c, by rw [hv], hn, hf, 0, 0, fun q => by omega, trivial⟩
theorem elemExprR : ElemOk Tryd.prog 32 36 4 56 := elem_ok Tryd.underlying32 (by kernel_rfl) (by omega)
theorem elemExprS : ElemOk Tryd.prog 81 120 4 56 := elem_ok Tryd.underlying81 (by kernel_rfl) (by omega)
theorem elemStmtR : ElemOk Tryd.prog 24 34 7 112 := elem_ok Tryd.underlying24 (by kernel_rfl) (by omega)
theorem elemStmtS : ElemOk Tryd.prog 50 83 7 112 := elem_ok Tryd.underlying50 (by kernel_rfl) (by omega)
theorem elemVarR : ElemOk Tryd.prog 23 29 4 40 := elem_ok Tryd.underlying23 (by kernel_rfl) (by omega)
theorem elemVarS : ElemOk Tryd.prog 49 54 4 40 := elem_ok Tryd.underlying49 (by kernel_rfl) (by omega)
theorem elemStr : ElemOk Tryd.prog 39 9 1 16 := elem_ok Tryd.underlying39 (by kernel_rfl) (by omega)
abbrev ofexprsC (w : World) (F : EF) : Prop := ∀ (A : Option Addr) (n c N : Nat) (w' : World), Ext w w' → N ≤ w.heap.size → ESl w N A n F → Calls Tryd.prog 60 #[.slice A n c] w' fun e w2 => Ext w' w2 ∧ ∃ A' c', e = .returned (.slice A' n c') ∧ EsIn w2 (fun i => w'.heap.size ≤ i ∧ i < w2.heap.size) A' n F
set_option maxRecDepth 100000 in
set_option maxHeartbeats 2000000 in
theorem ofexprs_any (w0 : World) (F : EF) : ofexprsC w0 F := by
  refine ef_ind (C := ofexprsC w0) ?_ F
  intro F IH A n c N w hx0 hN h
  obtain ⟨hn, hf, b, off, hA, hE⟩ := h
  have hm := hf.max (by omega)
  have hm2 := hf
  unfold Fits at hm2
  have HM := Lib.hid hm2
  have HF := Lib.hid hf
  have HN := Lib.hid hn
  have HA := Lib.hid hA
  have HE := Lib.hid hE
  have HI := Lib.hid IH
  clear hn hA hE IH hf hm2
  go_enter Tryd.func60, Tryd.ntmps60
  go_wp2_with fail
  go_loopw [3, 8] (fun t3 t8 wr => ∃ (j : Nat) (P R : EF) (l : List Ec), j + R.len = n ∧ P.app R = F ∧ l.length = j ∧ t8 = .int .i64 j ∧ wr.ownsRow w.heap.size 120 4 t3 j (rowsL Ec.cells l) ∧ EcsIn wr (fun i => w.heap.size ≤ i ∧ i < wr.heap.size ∧ ¬ t3.ownBlock = some i) l P ∧ EFAt w0 N R b (off + j * 4) ∧ EF.All (ofexprsC w0) R ∧ Ext w wr) (fun _ t8 _ => n - (intOf t8).toNat)
  case atStart => exact ⟨0, .nil, F, [], by rw [HN.out, Nat.zero_add], rfl, rfl, rfl, World.ownsRow_nil _ _ _ _, trivial, by simpa using HE.out, HI.out, Kept.refl _ _⟩
  case round =>
    obtain ⟨j, P, R, l, hj, hacc, hlen, rfl, ho, hec, hR, hI, hx⟩ := hrel
    have HR := Lib.hid hR
    have HI2 := Lib.hid hI
    have HX := Lib.hid hx
    have HO := Lib.hid ho
    have HEC := Lib.hid hec
    have HLEN := Lib.hid hlen
    have HACC := Lib.hid hacc
    clear hR hI hx ho hec hlen hacc
    cases R with
    | nil =>
      simp only [EF.len, Nat.add_zero] at hj
      subst hj
      have hacc := HACC.out
      rw [ef_app_nil] at hacc
      subst hacc
      go_wp2_with fail
      go_ret
      refine ⟨HX.out, ?_⟩
      exact owns_es HO.out HEC.out HN.out HF.out HLEN.out
    | cons op m name k r =>
      obtain ⟨hb, h1, h2, h3, ⟨A', cap, b', off', hh, hg, hl, hA', hk⟩, hr⟩ := HR.out
      simp only [EF.len] at hj
      have hlt : (j : Int) < n := by omega
      obtain rfl := HA.out (by omega)
      have hx0r := hx0.trans HX.out
      have hbl := hx0r.size
      have hh' := has_ext hx0r (by omega) hh
      have hg' := gets_ext hx0r (by omega) hg
      have hbw : b < wr.heap.size := by omega
      have KE := Lib.hid (show ESl w0 N A' k.len k from ⟨rfl, hl, b', off', hA', hk⟩)
      have IK := Lib.hid HI2.out.1
      have HX0 := Lib.hid hx0r
      have HR2 := Lib.hid hr
      have HOK := Lib.hid (show i64ok op ∧ i64ok m ∧ name.size ≤ maxLen from ⟨h1, h2, h3⟩)
      clear hh hg hl hA' hk h1 h2 h3 HR hbl hx0r hr hb
      go_upto_region 5 with (fail)
      have y0 : Ext wr _ := (Kept.refl _ wr).alloc (.cells (ecells op m name A' k.len cap) 36)
      have hB := Blk.new wr 36 (ecells op m name A' k.len cap)
      have hob : ∀ i, u3.ownBlock = some i → w.heap.size ≤ i ∧ i < wr.heap.size := HO.out.lt
      have hpo : ¬ u3.ownBlock = some wr.heap.size := fun e => by have := (hob _ e).2; omega
      have hWs : (wr.alloc (.cells (ecells op m name A' k.len cap) 36)).heap.size = wr.heap.size + 1 := by simp
      have HOW := Lib.hid (own_ext HO.out y0)
      generalize hW : (wr.alloc (.cells (ecells op m name A' k.len cap) 36)) = W at y0 hB hWs HOW ⊢
      clear hW hh' hg'
      have HWS := Lib.hid hWs
      have HOB := Lib.hid hob
      have HPO := Lib.hid hpo
      have HX1 := Lib.hid (HX0.out.trans y0)
      have HXr := Lib.hid (HX.out.trans y0)
      have HY := Lib.hid y0
      have HWR := Lib.hid (show w.heap.size ≤ wr.heap.size from HX.out.size)
      clear hWs hob hpo y0 HX
      obtain ⟨pb, hpb⟩ : ∃ pb, pb = wr.heap.size := ⟨_, rfl⟩
      rw [← hpb] at hB ⊢
      have HPB := Lib.hid hpb
      clear hpb
      have hC := Lib.hid hB
      clear hB
      refine wp_region_3 (fun w1 => Kept (fun i => u3.ownBlock = some i) W w1) [(0, 2), (1, 2), (2, 1), (3, 2), (4, 1), (5, 2), (6, 1), (7, 2), (8, 1), (9, 0), (10, 2), (11, 0), (12, 0), (13, 2)] (by kernel_rfl) (by kernel_rfl) (by kernel_rfl) (by kernel_rfl) ?_; intro l' hl'; simp only [List.map_cons, List.map_nil, List.getD_cons_zero, List.getD_cons_succ] at hl'; subst hl'
      have HY0 := Lib.hid (show Ext W W.drew from (Kept.refl _ W).drew)
      (repeat (first | ((apply w3_pure); (· go_simp); (· (intro w1; go_simp; try with_reducible rfl)); (intro K hK; go_simp; refine hK _ _ ?_; clear hK K)) | ((apply w3_skip); (· go_simp); (intro K hK; go_simp; refine hK _ _ ?_; clear hK K)) | ((apply w3_take); (· exact (Kept.ext HY0.out)); (· go_simp); (· (intro w1 hS; have d0 := Blk.kept hC.out hS (by rw [HPB.out]; exact HPO.out); have d1 := Blk.cell d0; have d2 := d0.lt;  go_simp; try with_reducible rfl)); (intro K hK; go_simp; refine hK _ _ ?_; clear hK K)) | ((apply w3_pass); (· exact (Kept.ext HY0.out)); (· go_simp); (intro K hK; go_simp; refine hK _ _ ?_; clear hK K))))
      (refine w3_act (fun K hK => ?_); go_simp)
      refine (IK.out _ _ _ N _ (HX1.out.trans HY0.out) hN KE.out).mono ?_
      rintro e w1 ⟨hx1, A1, c1, rfl, hk1⟩
      have HY1 := Lib.hid (HY0.out.trans hx1)
      have HK1 := Lib.hid hk1
      clear hx1 hk1
      refine hK.out _ _ (fun _ => Kept.ext HY1.out) ?_
      clear hK K
      (repeat (first | ((apply w3_pure); (· go_simp); (· (intro w1; go_simp; try with_reducible rfl)); (intro K hK; go_simp; refine hK _ _ ?_; clear hK K)) | ((apply w3_skip); (· go_simp); (intro K hK; go_simp; refine hK _ _ ?_; clear hK K))))
      (refine w3_act (fun K hK => ?_); go_simp)
      have y2 : Ext W _ := HY1.out.alloc (.cells (ecells op m name A1 k.len c1) 120)
      have y12 : Ext w1 _ := (Kept.refl _ w1).alloc (.cells (ecells op m name A1 k.len c1) 120)
      have hB2 := Row.of_blk (Blk.new w1 120 (ecells op m name A1 k.len c1))
      generalize hW2 : (w1.alloc (.cells (ecells op m name A1 k.len c1) 120)) = W2 at y2 y12 hB2 ⊢
      clear hW2
      refine hK.out _ _ (fun _ => Kept.ext y2) ?_
      clear hK K
      (repeat (first | ((apply w3_pure); (· go_simp); (· (intro w1; go_simp; try with_reducible rfl)); (intro K hK; go_simp; refine hK _ _ ?_; clear hK K)) | ((apply w3_skip); (· go_simp); (intro K hK; go_simp; refine hK _ _ ?_; clear hK K))))
      obtain ⟨v', w', hrun, ho', hk', hnew⟩ := appR (f := Ec.cells) elemExprS (fun _ => rfl) (fun _ => rfl) W2 w.heap.size u3 j l (own_ext HOW.out y2) w1.heap.size 0 1 1 [⟨op, m, name, A1, k.len, c1⟩] rfl hB2 (by have := HM.out; omega) (by have := y2.size; have := HWS.out; have := HWR.out; omega)
      refine w3_act (fun K hK => ?_)
      refine iff_want rfl ?_
      refine Lib.wp_append_run _ _ _ _ _ rfl _ _ rfl rfl _ _ hrun ?_
      refine hK.out _ _ (fun _ => Kept.trans (Kept.ext y2) hk') ?_
      clear hK K
      (repeat (first | ((apply w3_pure); (· go_simp); (· (intro w1; go_simp; try with_reducible rfl)); (intro K hK; go_simp; refine hK _ _ ?_; clear hK K)) | ((apply w3_skip); (· go_simp); (intro K hK; go_simp; refine hK _ _ ?_; clear hK K)) | (refine w3_end (by kernel_rfl) (fun K hK => ?_); go_simp; refine hK.out _ _ ?_; clear hK K))); refine w3_nil ?_
      go_wp2_with fail
      go_roundw
      case rel =>
        have e1 := HY1.out.size
        have e2 := y12.size
        have e3 := hk'.size
        have e4 := HWS.out
        have e5 := HPB.out
        have e6 := HWR.out
        have hxw : Ext w w' := (HXr.out.trans y2).trans' hk' (fun i hi e => by have := (HOB.out i e).1; omega)
        refine ⟨j + 1, P.app (.cons op m name k .nil), r, l ++ [⟨op, m, name, A1, k.len, c1⟩], by omega, by rw [ef_app_cons]; exact HACC.out, by rw [List.length_append, HLEN.out]; rfl, by go_num, ho', ?_, by rw [Nat.add_mul, ← Nat.add_assoc]; exact HR2.out, HI2.out.2, hxw⟩
        refine EcsIn.snoc ⟨rfl, rfl, rfl, HOK.out.1, HOK.out.2.1, HOK.out.2.2, ?_⟩ ?_
        · refine ((HK1.out.kept y12 (fun i hi => ⟨hi.2, fun f => f⟩)).kept hk' (fun i hi => ⟨by omega, fun e => by have := (HOB.out i e).2; have := hi.1; have := HY0.out.size; omega⟩)).mono (fun i hi => ?_)
          have := HY0.out.size
          refine ⟨by omega, by omega, fun e => ?_⟩
          rcases hnew i e with q | q
          · have := (HOB.out i q).2; omega
          · omega
        · refine ((HEC.out.kept (HY.out.trans y2) (fun i hi => ⟨hi.2.1, fun f => f⟩)).kept hk' (fun i hi => ⟨by omega, hi.2.2⟩)).mono (fun i hi => ?_)
          refine ⟨hi.1, by omega, fun e => ?_⟩
          rcases hnew i e with q | q
          · exact hi.2.2 q
          · omega
      case measure => simp only [intOf]; omega
abbrev toexprsC (w : World) (F : EF) : Prop := ∀ (A : Option Addr) (n c N : Nat) (w' : World), Ext w w' → N ≤ w.heap.size → ESl w N A n F → Calls Tryd.prog 68 #[.slice A n c] w' fun e w2 => Ext w' w2 ∧ ∃ A' c', e = .returned (.slice A' n c') ∧ EsIn w2 (fun i => w'.heap.size ≤ i ∧ i < w2.heap.size) A' n F
set_option maxRecDepth 100000 in
set_option maxHeartbeats 2000000 in
theorem toexprs_any (w0 : World) (F : EF) : toexprsC w0 F := by
  refine ef_ind (C := toexprsC w0) ?_ F
  intro F IH A n c N w hx0 hN h
  obtain ⟨hn, hf, b, off, hA, hE⟩ := h
  have hm := hf.max (by omega)
  have hm2 := hf
  unfold Fits at hm2
  have HM := Lib.hid hm2
  have HF := Lib.hid hf
  have HN := Lib.hid hn
  have HA := Lib.hid hA
  have HE := Lib.hid hE
  have HI := Lib.hid IH
  clear hn hA hE IH hf hm2
  go_enter Tryd.func68, Tryd.ntmps68
  go_wp2_with fail
  go_loopw [3, 8] (fun t3 t8 wr => ∃ (j : Nat) (P R : EF) (l : List Ec), j + R.len = n ∧ P.app R = F ∧ l.length = j ∧ t8 = .int .i64 j ∧ wr.ownsRow w.heap.size 36 4 t3 j (rowsL Ec.cells l) ∧ EcsIn wr (fun i => w.heap.size ≤ i ∧ i < wr.heap.size ∧ ¬ t3.ownBlock = some i) l P ∧ EFAt w0 N R b (off + j * 4) ∧ EF.All (toexprsC w0) R ∧ Ext w wr) (fun _ t8 _ => n - (intOf t8).toNat)
  case atStart => exact ⟨0, .nil, F, [], by rw [HN.out, Nat.zero_add], rfl, rfl, rfl, World.ownsRow_nil _ _ _ _, trivial, by simpa using HE.out, HI.out, Kept.refl _ _⟩
  case round =>
    obtain ⟨j, P, R, l, hj, hacc, hlen, rfl, ho, hec, hR, hI, hx⟩ := hrel
    have HR := Lib.hid hR
    have HI2 := Lib.hid hI
    have HX := Lib.hid hx
    have HO := Lib.hid ho
    have HEC := Lib.hid hec
    have HLEN := Lib.hid hlen
    have HACC := Lib.hid hacc
    clear hR hI hx ho hec hlen hacc
    cases R with
    | nil =>
      simp only [EF.len, Nat.add_zero] at hj
      subst hj
      have hacc := HACC.out
      rw [ef_app_nil] at hacc
      subst hacc
      go_wp2_with fail
      go_ret
      refine ⟨HX.out, ?_⟩
      exact owns_es HO.out HEC.out HN.out HF.out HLEN.out
    | cons op m name k r =>
      obtain ⟨hb, h1, h2, h3, ⟨A', cap, b', off', hh, hg, hl, hA', hk⟩, hr⟩ := HR.out
      simp only [EF.len] at hj
      have hlt : (j : Int) < n := by omega
      obtain rfl := HA.out (by omega)
      have hx0r := hx0.trans HX.out
      have hbl := hx0r.size
      have hh' := has_ext hx0r (by omega) hh
      have hg' := gets_ext hx0r (by omega) hg
      have hbw : b < wr.heap.size := by omega
      have KE := Lib.hid (show ESl w0 N A' k.len k from ⟨rfl, hl, b', off', hA', hk⟩)
      have IK := Lib.hid HI2.out.1
      have HX0 := Lib.hid hx0r
      have HR2 := Lib.hid hr
      have HOK := Lib.hid (show i64ok op ∧ i64ok m ∧ name.size ≤ maxLen from ⟨h1, h2, h3⟩)
      clear hh hg hl hA' hk h1 h2 h3 HR hbl hx0r hr hb
      go_upto_region 5 with (fail)
      have y0 : Ext wr _ := (Kept.refl _ wr).alloc (.cells (ecells op m name A' k.len cap) 120)
      have hB := Blk.new wr 120 (ecells op m name A' k.len cap)
      have hob : ∀ i, u3.ownBlock = some i → w.heap.size ≤ i ∧ i < wr.heap.size := HO.out.lt
      have hpo : ¬ u3.ownBlock = some wr.heap.size := fun e => by have := (hob _ e).2; omega
      have hWs : (wr.alloc (.cells (ecells op m name A' k.len cap) 120)).heap.size = wr.heap.size + 1 := by simp
      have HOW := Lib.hid (own_ext HO.out y0)
      generalize hW : (wr.alloc (.cells (ecells op m name A' k.len cap) 120)) = W at y0 hB hWs HOW ⊢
      clear hW hh' hg'
      have HWS := Lib.hid hWs
      have HOB := Lib.hid hob
      have HPO := Lib.hid hpo
      have HX1 := Lib.hid (HX0.out.trans y0)
      have HXr := Lib.hid (HX.out.trans y0)
      have HY := Lib.hid y0
      have HWR := Lib.hid (show w.heap.size ≤ wr.heap.size from HX.out.size)
      clear hWs hob hpo y0 HX
      obtain ⟨pb, hpb⟩ : ∃ pb, pb = wr.heap.size := ⟨_, rfl⟩
      rw [← hpb] at hB ⊢
      have HPB := Lib.hid hpb
      clear hpb
      have hC := Lib.hid hB
      clear hB
      refine wp_region_3 (fun w1 => Kept (fun i => u3.ownBlock = some i) W w1) [(0, 2), (1, 2), (2, 1), (3, 2), (4, 1), (5, 2), (6, 1), (7, 2), (8, 1), (9, 0), (10, 2), (11, 0), (12, 0), (13, 2)] (by kernel_rfl) (by kernel_rfl) (by kernel_rfl) (by kernel_rfl) ?_; intro l' hl'; simp only [List.map_cons, List.map_nil, List.getD_cons_zero, List.getD_cons_succ] at hl'; subst hl'
      have HY0 := Lib.hid (show Ext W W.drew from (Kept.refl _ W).drew)
      (repeat (first | ((apply w3_pure); (· go_simp); (· (intro w1; go_simp; try with_reducible rfl)); (intro K hK; go_simp; refine hK _ _ ?_; clear hK K)) | ((apply w3_skip); (· go_simp); (intro K hK; go_simp; refine hK _ _ ?_; clear hK K)) | ((apply w3_take); (· exact (Kept.ext HY0.out)); (· go_simp); (· (intro w1 hS; have d0 := Blk.kept hC.out hS (by rw [HPB.out]; exact HPO.out); have d1 := Blk.cell d0; have d2 := d0.lt;  go_simp; try with_reducible rfl)); (intro K hK; go_simp; refine hK _ _ ?_; clear hK K)) | ((apply w3_pass); (· exact (Kept.ext HY0.out)); (· go_simp); (intro K hK; go_simp; refine hK _ _ ?_; clear hK K))))
      (refine w3_act (fun K hK => ?_); go_simp)
      refine (IK.out _ _ _ N _ (HX1.out.trans HY0.out) hN KE.out).mono ?_
      rintro e w1 ⟨hx1, A1, c1, rfl, hk1⟩
      have HY1 := Lib.hid (HY0.out.trans hx1)
      have HK1 := Lib.hid hk1
      clear hx1 hk1
      refine hK.out _ _ (fun _ => Kept.ext HY1.out) ?_
      clear hK K
      (repeat (first | ((apply w3_pure); (· go_simp); (· (intro w1; go_simp; try with_reducible rfl)); (intro K hK; go_simp; refine hK _ _ ?_; clear hK K)) | ((apply w3_skip); (· go_simp); (intro K hK; go_simp; refine hK _ _ ?_; clear hK K))))
      (refine w3_act (fun K hK => ?_); go_simp)
      have y2 : Ext W _ := HY1.out.alloc (.cells (ecells op m name A1 k.len c1) 36)
      have y12 : Ext w1 _ := (Kept.refl _ w1).alloc (.cells (ecells op m name A1 k.len c1) 36)
      have hB2 := Row.of_blk (Blk.new w1 36 (ecells op m name A1 k.len c1))
      generalize hW2 : (w1.alloc (.cells (ecells op m name A1 k.len c1) 36)) = W2 at y2 y12 hB2 ⊢
      clear hW2
      refine hK.out _ _ (fun _ => Kept.ext y2) ?_
      clear hK K
      (repeat (first | ((apply w3_pure); (· go_simp); (· (intro w1; go_simp; try with_reducible rfl)); (intro K hK; go_simp; refine hK _ _ ?_; clear hK K)) | ((apply w3_skip); (· go_simp); (intro K hK; go_simp; refine hK _ _ ?_; clear hK K))))
      obtain ⟨v', w', hrun, ho', hk', hnew⟩ := appR (f := Ec.cells) elemExprR (fun _ => rfl) (fun _ => rfl) W2 w.heap.size u3 j l (own_ext HOW.out y2) w1.heap.size 0 1 1 [⟨op, m, name, A1, k.len, c1⟩] rfl hB2 (by have := HM.out; omega) (by have := y2.size; have := HWS.out; have := HWR.out; omega)
      refine w3_act (fun K hK => ?_)
      refine iff_want rfl ?_
      refine Lib.wp_append_run _ _ _ _ _ rfl _ _ rfl rfl _ _ hrun ?_
      refine hK.out _ _ (fun _ => Kept.trans (Kept.ext y2) hk') ?_
      clear hK K
      (repeat (first | ((apply w3_pure); (· go_simp); (· (intro w1; go_simp; try with_reducible rfl)); (intro K hK; go_simp; refine hK _ _ ?_; clear hK K)) | ((apply w3_skip); (· go_simp); (intro K hK; go_simp; refine hK _ _ ?_; clear hK K)) | (refine w3_end (by kernel_rfl) (fun K hK => ?_); go_simp; refine hK.out _ _ ?_; clear hK K))); refine w3_nil ?_
      go_wp2_with fail
      go_roundw
      case rel =>
        have e1 := HY1.out.size
        have e2 := y12.size
        have e3 := hk'.size
        have e4 := HWS.out
        have e5 := HPB.out
        have e6 := HWR.out
        have hxw : Ext w w' := (HXr.out.trans y2).trans' hk' (fun i hi e => by have := (HOB.out i e).1; omega)
        refine ⟨j + 1, P.app (.cons op m name k .nil), r, l ++ [⟨op, m, name, A1, k.len, c1⟩], by omega, by rw [ef_app_cons]; exact HACC.out, by rw [List.length_append, HLEN.out]; rfl, by go_num, ho', ?_, by rw [Nat.add_mul, ← Nat.add_assoc]; exact HR2.out, HI2.out.2, hxw⟩
        refine EcsIn.snoc ⟨rfl, rfl, rfl, HOK.out.1, HOK.out.2.1, HOK.out.2.2, ?_⟩ ?_
        · refine ((HK1.out.kept y12 (fun i hi => ⟨hi.2, fun f => f⟩)).kept hk' (fun i hi => ⟨by omega, fun e => by have := (HOB.out i e).2; have := hi.1; have := HY0.out.size; omega⟩)).mono (fun i hi => ?_)
          have := HY0.out.size
          refine ⟨by omega, by omega, fun e => ?_⟩
          rcases hnew i e with q | q
          · have := (HOB.out i q).2; omega
          · omega
        · refine ((HEC.out.kept (HY.out.trans y2) (fun i hi => ⟨hi.2.1, fun f => f⟩)).kept hk' (fun i hi => ⟨by omega, hi.2.2⟩)).mono (fun i hi => ?_)
          refine ⟨hi.1, by omega, fun e => ?_⟩
          rcases hnew i e with q | q
          · exact hi.2.2 q
          · omega
      case measure => simp only [intOf]; omega
end Go.Proofs.YtfamkemdgbnegaaDoor
