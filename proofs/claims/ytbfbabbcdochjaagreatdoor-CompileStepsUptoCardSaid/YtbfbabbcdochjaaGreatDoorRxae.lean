/- Several texts joined: Qa, Qb, Qc, Qd. -/
import Derived.Test.YtbfbabbcdochjaaGreatDoorRxpk
import Derived.Test.YtbfbabbcdochjaaGreatDoorRxad
set_option maxHeartbeats 4000000
namespace Go.Proofs.YtbfbabbcdochjaaGreatDoor
open Go.RowKit So
attribute [go_sem ↓ high] wp_store_big
attribute [go_sem high] wp_store_big
theorem aggVarR:aggT Tryz.prog 66=true:=by kernel_rfl
theorem sizeVarR:sizeT Tryz.prog 66=some 4:=by kernel_rfl
theorem wpLoadVarR {dst:Option Tmp} {ty':TypeId} {x:Operand} {pos:String} {after:Array Edge} {guard:Option (Nat × Bool)} {a:Act} {w:World} {K:Act→World→Prop} {Q:Exit→Act→World→Prop} (hx:isAt (a.eval x)=true) (hh:has w (blkOf (a.eval x)) (offOf (a.eval x)) 4=true) :
 Oper.wp Tryz.prog { dst:=dst,op:=.load 66 x,type:=ty',pos:=pos,after:=after,guard:=guard } a w K Q=K (a.put dst (.agg (gets w (blkOf (a.eval x)) (offOf (a.eval x)) 4))) w:=wp_load_big 4 aggVarR sizeVarR hx hh
theorem runLoadVarR {ρ:Operand→Value} {dst:Option Tmp} {ty':TypeId} {x:Operand} {pos:String} {after:Array Edge} {guard:Option (Nat × Bool)} {w:World} (hx:isAt (ρ x)=true) (hh:has w (blkOf (ρ x)) (offOf (ρ x)) 4=true) :
 (execOp ρ { dst:=dst,op:=.load 66 x,type:=ty',pos:=pos,after:=after,guard:=guard }).run Tryz.prog w=.ok (.value (.agg (gets w (blkOf (ρ x)) (offOf (ρ x)) 4))) w:=run_exec_load_big 4 aggVarR sizeVarR hx hh
attribute [go_sem] aggVarR sizeVarR
attribute [go_sem ↓ high] wpLoadVarR runLoadVarR
attribute [go_sem high] wpLoadVarR
theorem aggVarS:aggT Tryz.prog 109=true:=by kernel_rfl
theorem sizeVarS:sizeT Tryz.prog 109=some 4:=by kernel_rfl
theorem wpLoadVarS {dst:Option Tmp} {ty':TypeId} {x:Operand} {pos:String} {after:Array Edge} {guard:Option (Nat × Bool)} {a:Act} {w:World} {K:Act→World→Prop} {Q:Exit→Act→World→Prop} (hx:isAt (a.eval x)=true) (hh:has w (blkOf (a.eval x)) (offOf (a.eval x)) 4=true) :
 Oper.wp Tryz.prog { dst:=dst,op:=.load 109 x,type:=ty',pos:=pos,after:=after,guard:=guard } a w K Q=K (a.put dst (.agg (gets w (blkOf (a.eval x)) (offOf (a.eval x)) 4))) w:=wp_load_big 4 aggVarS sizeVarS hx hh
theorem runLoadVarS {ρ:Operand→Value} {dst:Option Tmp} {ty':TypeId} {x:Operand} {pos:String} {after:Array Edge} {guard:Option (Nat × Bool)} {w:World} (hx:isAt (ρ x)=true) (hh:has w (blkOf (ρ x)) (offOf (ρ x)) 4=true) :
 (execOp ρ { dst:=dst,op:=.load 109 x,type:=ty',pos:=pos,after:=after,guard:=guard }).run Tryz.prog w=.ok (.value (.agg (gets w (blkOf (ρ x)) (offOf (ρ x)) 4))) w:=run_exec_load_big 4 aggVarS sizeVarS hx hh
attribute [go_sem] aggVarS sizeVarS
attribute [go_sem ↓ high] wpLoadVarS runLoadVarS
attribute [go_sem high] wpLoadVarS
theorem aggExprR:aggT Tryz.prog 84=true:=by kernel_rfl
theorem sizeExprR:sizeT Tryz.prog 84=some 4:=by kernel_rfl
theorem wpLoadExprR {dst:Option Tmp} {ty':TypeId} {x:Operand} {pos:String} {after:Array Edge} {guard:Option (Nat × Bool)} {a:Act} {w:World} {K:Act→World→Prop} {Q:Exit→Act→World→Prop} (hx:isAt (a.eval x)=true) (hh:has w (blkOf (a.eval x)) (offOf (a.eval x)) 4=true) :
 Oper.wp Tryz.prog { dst:=dst,op:=.load 84 x,type:=ty',pos:=pos,after:=after,guard:=guard } a w K Q=K (a.put dst (.agg (gets w (blkOf (a.eval x)) (offOf (a.eval x)) 4))) w:=wp_load_big 4 aggExprR sizeExprR hx hh
theorem runLoadExprR {ρ:Operand→Value} {dst:Option Tmp} {ty':TypeId} {x:Operand} {pos:String} {after:Array Edge} {guard:Option (Nat × Bool)} {w:World} (hx:isAt (ρ x)=true) (hh:has w (blkOf (ρ x)) (offOf (ρ x)) 4=true) :
 (execOp ρ { dst:=dst,op:=.load 84 x,type:=ty',pos:=pos,after:=after,guard:=guard }).run Tryz.prog w=.ok (.value (.agg (gets w (blkOf (ρ x)) (offOf (ρ x)) 4))) w:=run_exec_load_big 4 aggExprR sizeExprR hx hh
attribute [go_sem] aggExprR sizeExprR
attribute [go_sem ↓ high] wpLoadExprR runLoadExprR
attribute [go_sem high] wpLoadExprR
theorem aggExprS:aggT Tryz.prog 200=true:=by kernel_rfl
theorem sizeExprS:sizeT Tryz.prog 200=some 4:=by kernel_rfl
theorem wpLoadExprS {dst:Option Tmp} {ty':TypeId} {x:Operand} {pos:String} {after:Array Edge} {guard:Option (Nat × Bool)} {a:Act} {w:World} {K:Act→World→Prop} {Q:Exit→Act→World→Prop} (hx:isAt (a.eval x)=true) (hh:has w (blkOf (a.eval x)) (offOf (a.eval x)) 4=true) :
 Oper.wp Tryz.prog { dst:=dst,op:=.load 200 x,type:=ty',pos:=pos,after:=after,guard:=guard } a w K Q=K (a.put dst (.agg (gets w (blkOf (a.eval x)) (offOf (a.eval x)) 4))) w:=wp_load_big 4 aggExprS sizeExprS hx hh
theorem runLoadExprS {ρ:Operand→Value} {dst:Option Tmp} {ty':TypeId} {x:Operand} {pos:String} {after:Array Edge} {guard:Option (Nat × Bool)} {w:World} (hx:isAt (ρ x)=true) (hh:has w (blkOf (ρ x)) (offOf (ρ x)) 4=true) :
 (execOp ρ { dst:=dst,op:=.load 200 x,type:=ty',pos:=pos,after:=after,guard:=guard }).run Tryz.prog w=.ok (.value (.agg (gets w (blkOf (ρ x)) (offOf (ρ x)) 4))) w:=run_exec_load_big 4 aggExprS sizeExprS hx hh
attribute [go_sem] aggExprS sizeExprS
attribute [go_sem ↓ high] wpLoadExprS runLoadExprS
attribute [go_sem high] wpLoadExprS
theorem aggStmtR:aggT Tryz.prog 86=true:=by kernel_rfl
theorem sizeStmtR:sizeT Tryz.prog 86=some 7:=by kernel_rfl
theorem wpLoadStmtR {dst:Option Tmp} {ty':TypeId} {x:Operand} {pos:String} {after:Array Edge} {guard:Option (Nat × Bool)} {a:Act} {w:World} {K:Act→World→Prop} {Q:Exit→Act→World→Prop} (hx:isAt (a.eval x)=true) (hh:has w (blkOf (a.eval x)) (offOf (a.eval x)) 7=true) :
 Oper.wp Tryz.prog { dst:=dst,op:=.load 86 x,type:=ty',pos:=pos,after:=after,guard:=guard } a w K Q=K (a.put dst (.agg (gets w (blkOf (a.eval x)) (offOf (a.eval x)) 7))) w:=wp_load_big 7 aggStmtR sizeStmtR hx hh
theorem runLoadStmtR {ρ:Operand→Value} {dst:Option Tmp} {ty':TypeId} {x:Operand} {pos:String} {after:Array Edge} {guard:Option (Nat × Bool)} {w:World} (hx:isAt (ρ x)=true) (hh:has w (blkOf (ρ x)) (offOf (ρ x)) 7=true) :
 (execOp ρ { dst:=dst,op:=.load 86 x,type:=ty',pos:=pos,after:=after,guard:=guard }).run Tryz.prog w=.ok (.value (.agg (gets w (blkOf (ρ x)) (offOf (ρ x)) 7))) w:=run_exec_load_big 7 aggStmtR sizeStmtR hx hh
attribute [go_sem] aggStmtR sizeStmtR
attribute [go_sem ↓ high] wpLoadStmtR runLoadStmtR
attribute [go_sem high] wpLoadStmtR
theorem aggStmtS:aggT Tryz.prog 151=true:=by kernel_rfl
theorem sizeStmtS:sizeT Tryz.prog 151=some 7:=by kernel_rfl
theorem wpLoadStmtS {dst:Option Tmp} {ty':TypeId} {x:Operand} {pos:String} {after:Array Edge} {guard:Option (Nat × Bool)} {a:Act} {w:World} {K:Act→World→Prop} {Q:Exit→Act→World→Prop} (hx:isAt (a.eval x)=true) (hh:has w (blkOf (a.eval x)) (offOf (a.eval x)) 7=true) :
 Oper.wp Tryz.prog { dst:=dst,op:=.load 151 x,type:=ty',pos:=pos,after:=after,guard:=guard } a w K Q=K (a.put dst (.agg (gets w (blkOf (a.eval x)) (offOf (a.eval x)) 7))) w:=wp_load_big 7 aggStmtS sizeStmtS hx hh
theorem runLoadStmtS {ρ:Operand→Value} {dst:Option Tmp} {ty':TypeId} {x:Operand} {pos:String} {after:Array Edge} {guard:Option (Nat × Bool)} {w:World} (hx:isAt (ρ x)=true) (hh:has w (blkOf (ρ x)) (offOf (ρ x)) 7=true) :
 (execOp ρ { dst:=dst,op:=.load 151 x,type:=ty',pos:=pos,after:=after,guard:=guard }).run Tryz.prog w=.ok (.value (.agg (gets w (blkOf (ρ x)) (offOf (ρ x)) 7))) w:=run_exec_load_big 7 aggStmtS sizeStmtS hx hh
attribute [go_sem] aggStmtS sizeStmtS
attribute [go_sem ↓ high] wpLoadStmtS runLoadStmtS
attribute [go_sem high] wpLoadStmtS
theorem aggProgR:aggT Tryz.prog 26=true:=by kernel_rfl
theorem sizeProgR:sizeT Tryz.prog 26=some 11:=by kernel_rfl
theorem wpLoadProgR {dst:Option Tmp} {ty':TypeId} {x:Operand} {pos:String} {after:Array Edge} {guard:Option (Nat × Bool)} {a:Act} {w:World} {K:Act→World→Prop} {Q:Exit→Act→World→Prop} (hx:isAt (a.eval x)=true) (hh:has w (blkOf (a.eval x)) (offOf (a.eval x)) 11=true) :
 Oper.wp Tryz.prog { dst:=dst,op:=.load 26 x,type:=ty',pos:=pos,after:=after,guard:=guard } a w K Q=K (a.put dst (.agg (gets w (blkOf (a.eval x)) (offOf (a.eval x)) 11))) w:=wp_load_big 11 aggProgR sizeProgR hx hh
theorem runLoadProgR {ρ:Operand→Value} {dst:Option Tmp} {ty':TypeId} {x:Operand} {pos:String} {after:Array Edge} {guard:Option (Nat × Bool)} {w:World} (hx:isAt (ρ x)=true) (hh:has w (blkOf (ρ x)) (offOf (ρ x)) 11=true) :
 (execOp ρ { dst:=dst,op:=.load 26 x,type:=ty',pos:=pos,after:=after,guard:=guard }).run Tryz.prog w=.ok (.value (.agg (gets w (blkOf (ρ x)) (offOf (ρ x)) 11))) w:=run_exec_load_big 11 aggProgR sizeProgR hx hh
attribute [go_sem] aggProgR sizeProgR
attribute [go_sem ↓ high] wpLoadProgR runLoadProgR
attribute [go_sem high] wpLoadProgR
theorem aggProgS:aggT Tryz.prog 57=true:=by kernel_rfl
theorem sizeProgS:sizeT Tryz.prog 57=some 11:=by kernel_rfl
theorem wpLoadProgS {dst:Option Tmp} {ty':TypeId} {x:Operand} {pos:String} {after:Array Edge} {guard:Option (Nat × Bool)} {a:Act} {w:World} {K:Act→World→Prop} {Q:Exit→Act→World→Prop} (hx:isAt (a.eval x)=true) (hh:has w (blkOf (a.eval x)) (offOf (a.eval x)) 11=true) :
 Oper.wp Tryz.prog { dst:=dst,op:=.load 57 x,type:=ty',pos:=pos,after:=after,guard:=guard } a w K Q=K (a.put dst (.agg (gets w (blkOf (a.eval x)) (offOf (a.eval x)) 11))) w:=wp_load_big 11 aggProgS sizeProgS hx hh
theorem runLoadProgS {ρ:Operand→Value} {dst:Option Tmp} {ty':TypeId} {x:Operand} {pos:String} {after:Array Edge} {guard:Option (Nat × Bool)} {w:World} (hx:isAt (ρ x)=true) (hh:has w (blkOf (ρ x)) (offOf (ρ x)) 11=true) :
 (execOp ρ { dst:=dst,op:=.load 57 x,type:=ty',pos:=pos,after:=after,guard:=guard }).run Tryz.prog w=.ok (.value (.agg (gets w (blkOf (ρ x)) (offOf (ρ x)) 11))) w:=run_exec_load_big 11 aggProgS sizeProgS hx hh
attribute [go_sem] aggProgS sizeProgS
attribute [go_sem ↓ high] wpLoadProgS runLoadProgS
attribute [go_sem high] wpLoadProgS
theorem aggKnown:aggT Tryz.prog 120=true:=by kernel_rfl
theorem sizeKnown:sizeT Tryz.prog 120=some 12:=by kernel_rfl
theorem wpLoadKnown {dst:Option Tmp} {ty':TypeId} {x:Operand} {pos:String} {after:Array Edge} {guard:Option (Nat × Bool)} {a:Act} {w:World} {K:Act→World→Prop} {Q:Exit→Act→World→Prop} (hx:isAt (a.eval x)=true) (hh:has w (blkOf (a.eval x)) (offOf (a.eval x)) 12=true) :
 Oper.wp Tryz.prog { dst:=dst,op:=.load 120 x,type:=ty',pos:=pos,after:=after,guard:=guard } a w K Q=K (a.put dst (.agg (gets w (blkOf (a.eval x)) (offOf (a.eval x)) 12))) w:=wp_load_big 12 aggKnown sizeKnown hx hh
theorem runLoadKnown {ρ:Operand→Value} {dst:Option Tmp} {ty':TypeId} {x:Operand} {pos:String} {after:Array Edge} {guard:Option (Nat × Bool)} {w:World} (hx:isAt (ρ x)=true) (hh:has w (blkOf (ρ x)) (offOf (ρ x)) 12=true) :
 (execOp ρ { dst:=dst,op:=.load 120 x,type:=ty',pos:=pos,after:=after,guard:=guard }).run Tryz.prog w=.ok (.value (.agg (gets w (blkOf (ρ x)) (offOf (ρ x)) 12))) w:=run_exec_load_big 12 aggKnown sizeKnown hx hh
attribute [go_sem] aggKnown sizeKnown
attribute [go_sem ↓ high] wpLoadKnown runLoadKnown
attribute [go_sem high] wpLoadKnown
theorem aggFaultR:aggT Tryz.prog 60=true:=by kernel_rfl
theorem sizeFaultR:sizeT Tryz.prog 60=some 2:=by kernel_rfl
theorem wpLoadFaultR {dst:Option Tmp} {ty':TypeId} {x:Operand} {pos:String} {after:Array Edge} {guard:Option (Nat × Bool)} {a:Act} {w:World} {K:Act→World→Prop} {Q:Exit→Act→World→Prop} (hx:isAt (a.eval x)=true) (hh:has w (blkOf (a.eval x)) (offOf (a.eval x)) 2=true) :
 Oper.wp Tryz.prog { dst:=dst,op:=.load 60 x,type:=ty',pos:=pos,after:=after,guard:=guard } a w K Q=K (a.put dst (.agg (gets w (blkOf (a.eval x)) (offOf (a.eval x)) 2))) w:=wp_load_big 2 aggFaultR sizeFaultR hx hh
theorem runLoadFaultR {ρ:Operand→Value} {dst:Option Tmp} {ty':TypeId} {x:Operand} {pos:String} {after:Array Edge} {guard:Option (Nat × Bool)} {w:World} (hx:isAt (ρ x)=true) (hh:has w (blkOf (ρ x)) (offOf (ρ x)) 2=true) :
 (execOp ρ { dst:=dst,op:=.load 60 x,type:=ty',pos:=pos,after:=after,guard:=guard }).run Tryz.prog w=.ok (.value (.agg (gets w (blkOf (ρ x)) (offOf (ρ x)) 2))) w:=run_exec_load_big 2 aggFaultR sizeFaultR hx hh
attribute [go_sem] aggFaultR sizeFaultR
attribute [go_sem ↓ high] wpLoadFaultR runLoadFaultR
attribute [go_sem high] wpLoadFaultR
theorem aggFaultS:aggT Tryz.prog 104=true:=by kernel_rfl
theorem sizeFaultS:sizeT Tryz.prog 104=some 2:=by kernel_rfl
theorem wpLoadFaultS {dst:Option Tmp} {ty':TypeId} {x:Operand} {pos:String} {after:Array Edge} {guard:Option (Nat × Bool)} {a:Act} {w:World} {K:Act→World→Prop} {Q:Exit→Act→World→Prop} (hx:isAt (a.eval x)=true) (hh:has w (blkOf (a.eval x)) (offOf (a.eval x)) 2=true) :
 Oper.wp Tryz.prog { dst:=dst,op:=.load 104 x,type:=ty',pos:=pos,after:=after,guard:=guard } a w K Q=K (a.put dst (.agg (gets w (blkOf (a.eval x)) (offOf (a.eval x)) 2))) w:=wp_load_big 2 aggFaultS sizeFaultS hx hh
attribute [go_sem] aggFaultS sizeFaultS
attribute [go_sem ↓ high] wpLoadFaultS
attribute [go_sem high] wpLoadFaultS
theorem str_eq (a b:ByteArray):(ByteArray.toList a == ByteArray.toList b)=decide (a=b):=by
 rw [ByteArray.toList_eq,ByteArray.toList_eq,Bool.eq_iff_iff,beq_iff_eq,decide_eq_true_eq]
 exact ⟨fun h=>Go.WideShapes.bytes_inj h,fun h=>by rw [h]⟩
theorem str_same {a b:ByteArray} (h:a=b):(ByteArray.toList a == ByteArray.toList b)=true:=by rw [str_eq];exact decide_eq_true h
theorem str_other {a b:ByteArray} (h:¬ a=b):(ByteArray.toList a == ByteArray.toList b)=false:=by rw [str_eq];exact decide_eq_false h
theorem between_any (n a b:Int) (w:World):Calls Tryz.prog 121 #[.int .i64 n,.int .i64 a,.int .i64 b] w fun e w'=>e=.returned (.bool (btw n a b))∧w=w':=by
 go_enter Tryz.func121,Tryz.ntmps121
 go_wp2_with fail
 all_goals go_ret
 all_goals refine ⟨ret_bool ?_,rfl⟩
 all_goals (rw [Bool.eq_iff_iff];simp [btw];omega)
theorem in_any (n a b:Int) (w:World):Calls Tryz.prog 50 #[.int .i64 n,.int .i64 a,.int .i64 b] w fun e w'=>e=.returned (.bool (btw n a b))∧w=w':=by
 go_enter Tryz.func50,Tryz.ntmps50
 go_wp2_with fail
 all_goals go_ret
 all_goals refine ⟨ret_bool ?_,rfl⟩
 all_goals (rw [Bool.eq_iff_iff];simp [btw];omega)
theorem btw_word (n:Int):btw n (-2147483648) 2147483647=word n:=rfl
theorem right_any (n:Int) (w:World):Calls Tryz.prog 186 #[.int .i64 n] w fun e w'=>e=.returned (.bool (word n))∧w=w':=by
 go_enter Tryz.func186,Tryz.ntmps186
 go_wp2_with fail
 refine (between_any _ _ _ _).mono ?_
 rintro e w1 ⟨rfl,rfl⟩
 rw [btw_word]
 go_wp2_with fail
 go_ret
 exact ⟨rfl,rfl⟩
theorem word_any (n:Int) (w:World):Calls Tryz.prog 92 #[.int .i64 n] w fun e w'=>e=.returned (.bool (word n))∧w=w':=by
 go_enter Tryz.func92,Tryz.ntmps92
 go_wp2_with fail
 refine (in_any _ _ _ _).mono ?_
 rintro e w1 ⟨rfl,rfl⟩
 rw [btw_word]
 go_wp2_with fail
 go_ret
 exact ⟨rfl,rfl⟩
theorem fine_any (w:World):Calls Tryz.prog 52 #[] w fun e w'=>e=.returned (.agg #[.int .i64 0,.string ⟨#[]⟩])∧Ext w w':=by
 go_enter Tryz.func52,Tryz.ntmps52
 go_wp2_with fail
 refine ret_cell Tryz.results52 rfl rfl aggFaultR (by exact sizeFaultR) (Blk.new' _ _ _ _ zb86) ⟨rfl,?_⟩
 exact (kR _ w).alloc _
theorem span_any (v:Vr) (w:World):Calls Tryz.prog 122 #[.agg (vcells v)] w fun e w'=>e=.returned (.bool (span v))∧Ext w w':=by
 have hx:=(kR (fun _=>False) w).alloc (.cells (vcells v) 109)
 go_enter Tryz.func122,Tryz.ntmps122
 go_wp2_with fail
 all_goals go_ret
 all_goals refine ⟨ret_bool ?_,hx⟩
 all_goals (rw [Bool.eq_iff_iff];simp [span,word];omega)
theorem size_any (v:Vr) (w:World):Calls Tryz.prog 81 #[.agg (vcells v)] w fun e w'=>e=.returned (.int .i64 (So.cellsV v))∧Ext w w':=by
 have hx:=(kR (fun _=>False) w).alloc (.cells (vcells v) 109)
 go_enter Tryz.func81,Tryz.ntmps81
 go_wp2_with fail
 refine (between_any _ _ _ _).mono ?_
 rintro e w1 ⟨rfl,rfl⟩
 cases hb:btw v.size 1 64
 all_goals
  go_wp2_with fail
  go_ret
  refine ⟨ret_int ?_,hx⟩
  simp only [btw,Bool.and_eq_true,Bool.and_eq_false_iff,decide_eq_true_eq,decide_eq_false_iff_not] at hb
  unfold So.cellsV
  split <;> omega
theorem cells_any (v:Vr) (w:World):Calls Tryz.prog 68 #[.agg (vcells v)] w fun e w'=>e=.returned (.int .i64 (So.cellsV v))∧Ext w w':=by
 have hx:=(kR (fun _=>False) w).alloc (.cells (vcells v) 66)
 go_enter Tryz.func68,Tryz.ntmps68
 go_wp2_with fail
 all_goals go_ret
 all_goals refine ⟨ret_int ?_,hx⟩
 all_goals (unfold So.cellsV;split <;> omega)
theorem operands_any (n:Int) (w:World):Calls Tryz.prog 170 #[.int .i64 n] w fun e w'=>e=.returned (.int .i64 (exprParts n))∧w=w':=by
 go_enter Tryz.func170,Tryz.ntmps170
 go_wp2_with fail
 all_goals go_ret
 all_goals refine ⟨ret_int ?_,rfl⟩
 all_goals (unfold exprParts;split <;> first | rfl | omega | (split <;> first | rfl | omega))
theorem placed_any (k:Int) (i:Nat) (hi:i < 5) (l:Bool) (w:World):Calls Tryz.prog 147 #[.int .i64 k,.int .i64 i,.bool l] w fun e w'=>e=.returned (.bool (stands k i l))∧w=w':=by
 rcases (by omega:i=0 ∨ i=1 ∨ i=2 ∨ i=3 ∨ i=4) with rfl | rfl | rfl | rfl | rfl
 all_goals
  go_enter Tryz.func147,Tryz.ntmps147
  go_wp2_with fail
  all_goals go_ret
  all_goals refine ⟨ret_bool ?_,rfl⟩
  all_goals simp_all [stands]
open Go.RowKit So
theorem cell_gets {w:World} {b o n:Nat} {cs:Array Value} (hh:Proofs.YtbfbabbcdochjaaGreatDoor.has w b o n=true) (hg:gets w b o n=cs) (i:Nat) (hi:i < n):w.cell? ⟨b,o+i,none⟩=cs[i]?:=by
 unfold Proofs.YtbfbabbcdochjaaGreatDoor.has at hh
 unfold gets at hg
 split at hh
 ·rename_i c t fr hq
  rw [hq] at hg
  have hfit:o+n≤c.size:=of_decide_eq_true hh
  rw [cell_of_row w b _ c t fr hq,← hg]
  simp only [List.getElem?_toArray]
  rw [List.getElem?_take,if_pos hi,List.getElem?_drop]
  simp
 ·cases hh
theorem cell_gets0 {w:World} {b o n:Nat} {cs:Array Value} (hh:Proofs.YtbfbabbcdochjaaGreatDoor.has w b o n=true) (hg:gets w b o n=cs) (hi:0 < n):w.cell? ⟨b,o,none⟩=cs[0]?:=cell_gets hh hg 0 hi
def So.EF.All (p:EF→Prop):EF→Prop | .nil=>True | .cons _ _ _ k r=>p k∧EF.All p r
def So.SF.All (p:SF→Prop):SF→Prop | .nil=>True | .cons _ _ _ _ _ l x r=>p l∧p x∧SF.All p r
theorem ef_all {C:EF→Prop} (h:∀ F,EF.All C F→C F):∀ F,C F∧EF.All C F
 | .nil=>⟨h _ trivial,trivial⟩
 | .cons o n s k r=>by
  have a:EF.All C (.cons o n s k r):=⟨(ef_all h k).1,(ef_all h r).2⟩
  exact ⟨h _ a,a⟩
theorem ef_ind {C:EF→Prop} (h:∀ F,EF.All C F→C F) (F:EF):C F:=(ef_all h F).1
theorem sf_all {C:SF→Prop} (h:∀ F,SF.All C F→C F):∀ F,C F∧SF.All C F
 | .nil=>⟨h _ trivial,trivial⟩
 | .cons a1 a2 a3 a4 a5 l x r=>by
  have a:SF.All C (.cons a1 a2 a3 a4 a5 l x r):=⟨(sf_all h l).1,(sf_all h x).1,(sf_all h r).2⟩
  exact ⟨h _ a,a⟩
theorem sf_ind {C:SF→Prop} (h:∀ F,SF.All C F→C F) (F:SF):C F:=(sf_all h F).1
theorem wrap_w64 (x:Int):IntKind.i64.wrap x=w64 x:=by rw [IntKind.wrap_i64,w64_def]
set_option maxRecDepth 100000 in
theorem rexprs_any (F:EF):∀ (A:Option Addr) (n c N:Nat) (w:World),ESl w N A n F→Calls Tryz.prog 95 #[.slice A n c] w fun e w'=>e=.returned (.int .i64 (w64 F.size))∧w=w':=by
 refine ef_ind (C:=fun F=>∀ (A:Option Addr) (n c N:Nat) (w:World),ESl w N A n F→Calls Tryz.prog 95 #[.slice A n c] w fun e w'=>e=.returned (.int .i64 (w64 F.size))∧w=w') ?_ F
 intro F IH A n c N w h
 refine zy111 ?_;clear h IH;intro b off hm HN HA HE HI
 go_enter Tryz.func95,Tryz.ntmps95
 go_wp2_with fail
 go_loopw [3,4] (fun t3 t4 wr=>∃ (j acc:Nat) (R:EF),j+R.len=n∧acc+R.size=F.size∧t4=.int .i64 j∧t3=.int .i64 (w64 acc)∧EFAt w N R b (off+j * 4)∧EF.All (fun F=>∀ (A:Option Addr) (n c N:Nat) (w:World),ESl w N A n F→Calls Tryz.prog 95 #[.slice A n c] w fun e w'=>e=.returned (.int .i64 (w64 F.size))∧w=w') R∧w=wr) (fun _ t4 _=>n - (intOf t4).toNat)
 case atStart=>exact ⟨0,0,F,by rw [HN.out,Nat.zero_add],Nat.zero_add _,rfl,by simp [w64_def],by simpa using HE.out,HI.out,rfl⟩
 case round =>
  obtain ⟨j,acc,R,hj,hacc,rfl,rfl,hR,hI,hw⟩:=hrel
  subst hw
  have HR:=J hR
  have HI2:=J hI
  clear hR hI
  cases R with
  | nil =>
   simp only [EF.len,EF.size,Nat.add_zero] at hj hacc
   subst hj
   subst hacc
   go_wp2_with fail
   go_ret
   exact ⟨rfl,rfl⟩
  | cons op m name k r =>
   obtain ⟨hb,h1,h2,h3,⟨A',cap,b',off',hh,hg,hl,hA',hk⟩,hr⟩:=HR.out
   simp only [EF.len,EF.size] at hj hacc
   have hlt:(j:Int) < n:=by omega
   obtain rfl:=HA.out zb85
   have hc:=cell_gets hh hg 3 zb85
   have HK:=J (show ESl w N A' k.len k from ⟨rfl,hl,b',off',hA',hk⟩)
   have HIk:=J HI2.out.1
   clear hg hA' hk hl h3 h1 h2
   go_wp2_with fail
   refine (HIk.out _ _ _ N _ HK.out).mono ?_
   rintro e w1 ⟨rfl,rfl⟩
   go_wp2_with fail
   go_roundw
   case rel=>exact ⟨j+1,acc+(1+k.size),r,by omega,by omega,by go_num,by simp only [w64_w64,w64_w64r];congr 2;omega,by rw [Nat.add_mul,← Nat.add_assoc] ;exact hr,HI2.out.2,by trivial⟩
   case measure=>simp only [intOf];omega
open Go.RowKit So
theorem cell_ext {w w1:World} {p:Addr} {v:Value} (hS:Ext w w1) (hb:p.block < w.heap.size) (h:w.cell? p=some v):w1.cell? p=some v:=(Kept.cell hS hb (fun f=>f)).trans h
abbrev SizeC (w:World) (F:SF):Prop:=∀ (A:Option Addr) (n c N:Nat) (w':World),Ext w w'→N≤w.heap.size→SSl w N A n F→Calls Tryz.prog 56 #[.slice A n c] w' fun e w2=>e=.returned (.int .i64 (w64 F.size))∧Ext w' w2
set_option maxRecDepth 100000 in
theorem rstmts_any (w0:World) (F:SF):SizeC w0 F:=by
 refine sf_ind (C:=SizeC w0) ?_ F
 intro F IH A n c N w hx0 hN h
 refine zy111 ?_;clear h IH;intro b off hm HN HA HE HI
 go_enter Tryz.func56,Tryz.ntmps56
 go_wp2_with fail
 go_loopw [3,4] (fun t3 t4 wr=>∃ (j acc:Nat) (R:SF),j+R.len=n∧acc+R.size=F.size∧t4=.int .i64 j∧t3=.int .i64 (w64 acc)∧SFAt w0 N R b (off+j * 7)∧SF.All (SizeC w0) R∧Ext w wr) (fun _ t4 _=>n - (intOf t4).toNat)
 case atStart=>exact ⟨0,0,F,by rw [HN.out,Nat.zero_add],Nat.zero_add _,rfl,by simp [w64_def],by simpa using HE.out,HI.out,kR _ _⟩
 case round =>
  obtain ⟨j,acc,R,hj,hacc,rfl,rfl,hR,hI,hx⟩:=hrel
  have HR:=J hR
  have HI2:=J hI
  have HX:=J hx
  clear hR hI hx
  cases R with
  | nil =>
   simp only [SF.len,SF.size,Nat.add_zero] at hj hacc
   subst hj
   subst hacc
   go_wp2_with fail
   go_ret
   exact ⟨rfl,HX.out⟩
  | cons kind name es low high l x r =>
   obtain ⟨hb,h1,h2,h3,h4,⟨eA,ec,lA,lc,xA,xc,be,oe,bl,ol,bx,ox,hh,hg,n1,n2,n3,a1,a2,a3,he,hl,hxx⟩,hr⟩:=HR.out
   simp only [SF.len,SF.size] at hj hacc
   have hlt:(j:Int) < n:=by omega
   obtain rfl:=HA.out zb85
   have hx0r:=hx0.trans HX.out
   have hbl:=hx0r.size
   have C2:=J (cell_ext (p:=⟨b,_,none⟩) hx0r (show b < w0.heap.size by omega) (cell_gets hh hg 2 zb85))
   have C5:=J (cell_ext (p:=⟨b,_,none⟩) hx0r (show b < w0.heap.size by omega) (cell_gets hh hg 5 zb85))
   have C6:=J (cell_ext (p:=⟨b,_,none⟩) hx0r (show b < w0.heap.size by omega) (cell_gets hh hg 6 zb85))
   have hbw:b < wr.heap.size:=by omega
   have KE:=J (show ESl w0 N eA es.len es from ⟨rfl,n1,be,oe,a1,he⟩)
   refine zy33 ?_;intro KL KX
   have IL:=J HI2.out.1
   have IX:=J HI2.out.2.1
   have HX0:=J hx0r
   have HR2:=J hr
   clear hh hg n1 n2 n3 a1 a2 a3 he hl hxx h1 h2 h3 h4 HR hbl hx0r hr
   go_upto_region 5 with (fail)
   refine qr3 (fun w1=>Ext wr w1) [(0,2),(1,2),(2,2),(3,2),(4,2),(5,2),(6,1),(9,2),(10,2),(11,2),(12,2),(13,1),(16,2),(17,2),(18,2),(19,2),(20,1),(7,0),(8,2),(14,0),(15,2),(21,0),(22,2),(23,2)] ?_;refine qrl ?_
   have y0:Ext wr wr.drew:=(kR _ wr).drew
   (repeat first|refine qs3 ?_|refine qt3 y0 zb18 ?_|refine qp3 y0 ?_)
   (refine w3_act (fun K hK=>?_);go_simp)
   refine (rexprs_any es _ _ _ N _ (KE.out.ext (HX0.out.trans y0) hN)).mono ?_
   rintro e w1 ⟨rfl,rfl⟩
   refine hK.out _ _ (fun _=>y0) ?_
   clear hK K
   (repeat refine qs3 ?_)
   (repeat first|refine qs3 ?_|refine qt3 y0 zb18 ?_|refine qp3 y0 ?_)
   (refine w3_act (fun K hK=>?_);go_simp)
   refine (IL.out _ _ _ N _ (HX0.out.trans y0) hN KL.out).mono ?_
   rintro e w1 ⟨rfl,hx1⟩
   have y1:=y0.trans hx1
   refine hK.out _ _ (fun _=>y1) ?_
   clear hK K
   (repeat refine qs3 ?_)
   (repeat first|refine qs3 ?_|refine qt3 y1 zb18 ?_|refine qp3 y1 ?_)
   (refine w3_act (fun K hK=>?_);go_simp)
   refine (IX.out _ _ _ N _ (HX0.out.trans y1) hN KX.out).mono ?_
   rintro e w2 ⟨rfl,hx2⟩
   have y2:=y1.trans hx2
   refine hK.out _ _ (fun _=>y2) ?_
   clear hK K
   refine qf3 ?_
   go_wp2_with fail
   go_roundw
   case rel=>exact ⟨j+1,acc+(1+es.size+l.size+x.size),r,by omega,by omega,by go_num,by simp only [wrap_w64,w64_w64,w64_w64r];congr 2;omega,by rw [Nat.add_mul,← Nat.add_assoc];exact HR2.out,HI2.out.2.2,HX.out.trans y2⟩
   case measure=>simp only [intOf];omega
open Go.RowKit So
theorem rstmts_ok (F:SF) (A:Option Addr) (n c N:Nat) (w:World) (hN:N≤w.heap.size) (h:SSl w N A n F):Calls Tryz.prog 56 #[.slice A n c] w fun e w2=>e=.returned (.int .i64 (w64 F.size))∧Ext w w2 :=
 rstmts_any w F A n c N w (kR _ _) hN h
theorem PAt.ext {w w':World} {N:Nat} {c:Pc} {p:Pr} (h:PAt w N c p) (hk:Ext w w') (hN:N≤w.heap.size):PAt w' N c p:=h.kept hk hN (fun _ f=>f.elim)
theorem w64_nat {n:Nat} (h:n≤1000000000000000000):w64 n=n:=by simp only [w64_def];omega
set_option maxRecDepth 100000 in
theorem rsize_any (c:Pc) (p:Pr) (N:Nat) (w:World) (hN:N≤w.heap.size) (h:PAt w N c p):Calls Tryz.prog 41 #[.agg c.cells] w fun e w'=>e=.returned (.int .i64 (w64 (psize p)))∧Ext w w':=by
 refine zy73 ?_;intro hx0 hB
 have hP:=J (h.ext hx0 hN)
 have hv:=Fits.max h.vars.2.1 zb85
 have hq:=Fits.max h.params.2.1 zb85
 have ev:=J h.vars.1
 have eq:=J h.params.1
 have hNa:=Nat.le_trans hN hx0.size
 clear h
 go_enter Tryz.func41,Tryz.ntmps41
 go_upto_region 1 with (fail)
 generalize hW:(w.alloc (.cells c.cells 26))=W at hx0 hB hP hNa ⊢
 clear hW
 generalize w.heap.size=pb at hB ⊢
 have hC:=J hB
 refine qr3 (fun w1=>Ext W w1) [(0,2),(1,1),(2,2),(3,2),(4,1),(5,2),(6,2),(7,2),(8,1),(11,2),(12,1),(15,2),(16,1),(19,2),(20,1),(23,2),(24,1),(9,0),(10,2),(13,0),(14,2),(17,0),(18,2),(21,0),(22,2),(25,0),(26,2),(27,2)] ?_;refine qrl ?_
 have y0:Ext W W.drew:=(kR _ W).drew
 have HY0:=J y0
 (repeat first|refine qs3 ?_|refine qt3 HY0.out zb27 ?_|refine qp3 HY0.out ?_)
 (refine w3_act (fun K hK=>?_);go_simp)
 refine (rstmts_ok p.start _ _ _ N _ (Nat.le_trans hNa HY0.out.size) (hP.out.start.ext HY0.out hNa)).mono ?_
 refine zy59 ?_;intro w1 HY1
 clear hK K
 (repeat refine qs3 ?_)
 (repeat first|refine qs3 ?_|refine qt3 HY1.out zb27 ?_|refine qp3 HY1.out ?_)
 (refine w3_act (fun K hK=>?_);go_simp)
 refine (rstmts_ok p.turn _ _ _ N _ (Nat.le_trans hNa HY1.out.size) (hP.out.turn.ext HY1.out hNa)).mono ?_
 rintro e w2 ⟨rfl,hx1⟩
 have HY2:=J (HY1.out.trans hx1)
 clear hx1
 refine hK.out _ _ (fun _=>HY2.out) ?_
 clear hK K
 (repeat refine qs3 ?_)
 (repeat first|refine qs3 ?_|refine qt3 HY2.out zb27 ?_|refine qp3 HY2.out ?_)
 (refine w3_act (fun K hK=>?_);go_simp)
 refine (rstmts_ok p.play _ _ _ N _ (Nat.le_trans hNa HY2.out.size) (hP.out.play.ext HY2.out hNa)).mono ?_
 rintro e w3 ⟨rfl,hx1⟩
 have HY3:=J (HY2.out.trans hx1)
 clear hx1
 refine hK.out _ _ (fun _=>HY3.out) ?_
 clear hK K
 (repeat refine qs3 ?_)
 (repeat first|refine qs3 ?_|refine qt3 HY3.out zb27 ?_|refine qp3 HY3.out ?_)
 (refine w3_act (fun K hK=>?_);go_simp)
 refine (rstmts_ok p.quiet _ _ _ N _ (Nat.le_trans hNa HY3.out.size) (hP.out.quiet.ext HY3.out hNa)).mono ?_
 rintro e w4 ⟨rfl,hx1⟩
 have HY4:=J (HY3.out.trans hx1)
 clear hx1
 refine hK.out _ _ (fun _=>HY4.out) ?_
 clear hK K
 (repeat refine qs3 ?_)
 (repeat first|refine qs3 ?_|refine qt3 HY4.out zb27 ?_|refine qp3 HY4.out ?_)
 (refine w3_act (fun K hK=>?_);go_simp)
 refine (rstmts_ok p.pays _ _ _ N _ (Nat.le_trans hNa HY4.out.size) (hP.out.pays.ext HY4.out hNa)).mono ?_
 rintro e w5 ⟨rfl,hx1⟩
 have HY5:=J (HY4.out.trans hx1)
 clear hx1
 refine hK.out _ _ (fun _=>HY5.out) ?_
 clear hK K
 refine qf3 ?_
 go_wp2_with fail
 go_ret
 refine ⟨ret_int ?_,hx0.trans HY5.out⟩
 simp only [wrap_w64,w64_w64,w64_w64r,ev.out,eq.out,psize]
 congr 1
end Go.Proofs.YtbfbabbcdochjaaGreatDoor
