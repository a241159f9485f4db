/- The document's trial: its cells, and what it does, in plain words. -/
import Derived.Test.YtahljceanodhkaaGreatDoorHalvn
import Derived.Test.YtahljceanodhkaaGreatDoorAllo
namespace Go.Proofs.YtahljceanodhkaaGreatDoor
open Go.RowKit
theorem aggRt : aggT Tryz.prog 49 = true := by kernel_rfl
theorem sizeRt : sizeT Tryz.prog 49 = some 28 := by kernel_rfl
theorem wpLoadRt {dst : Option Tmp} {ty' : TypeId} {x : Operand} {pos : String} {after : Array Edge} {guard : Option (Nat × Bool)} {a : Act} {w : World} {K : Act → World → Prop} {Q : Exit → Act → World → Prop} (hx : isAt (a.eval x) = true) (hh : has w (blkOf (a.eval x)) (offOf (a.eval x)) 28 = true) :
    Oper.wp Tryz.prog { dst := dst, op := .load 49 x, type := ty', pos := pos, after := after, guard := guard } a w K Q = K (a.put dst (.agg (gets w (blkOf (a.eval x)) (offOf (a.eval x)) 28))) w := wp_load_big 28 aggRt sizeRt hx hh
theorem runLoadRt {ρ : Operand → Value} {dst : Option Tmp} {ty' : TypeId} {x : Operand} {pos : String} {after : Array Edge} {guard : Option (Nat × Bool)} {w : World} (hx : isAt (ρ x) = true) (hh : has w (blkOf (ρ x)) (offOf (ρ x)) 28 = true) :
    (execOp ρ { dst := dst, op := .load 49 x, type := ty', pos := pos, after := after, guard := guard }).run Tryz.prog w = .ok (.value (.agg (gets w (blkOf (ρ x)) (offOf (ρ x)) 28))) w := run_exec_load_big 28 aggRt sizeRt hx hh
theorem loadVarRt (w : World) (g off : Nat) (hh : has w g off 28 = true) : (loadVar 49 ⟨g, off, none⟩).run Tryz.prog w = .ok (.agg (gets w g off 28)) w := run_loadVar_big Tryz.prog w _ g off 28 aggRt sizeRt hh
attribute [go_sem] aggRt sizeRt
attribute [go_sem ↓ high] wpLoadRt loadVarRt runLoadRt
attribute [go_sem high] wpLoadRt
theorem aggStep : aggT Tryz.prog 45 = true := by kernel_rfl
theorem sizeStep : sizeT Tryz.prog 45 = some 18 := by kernel_rfl
theorem wpLoadStep {dst : Option Tmp} {ty' : TypeId} {x : Operand} {pos : String} {after : Array Edge} {guard : Option (Nat × Bool)} {a : Act} {w : World} {K : Act → World → Prop} {Q : Exit → Act → World → Prop} (hx : isAt (a.eval x) = true) (hh : has w (blkOf (a.eval x)) (offOf (a.eval x)) 18 = true) :
    Oper.wp Tryz.prog { dst := dst, op := .load 45 x, type := ty', pos := pos, after := after, guard := guard } a w K Q = K (a.put dst (.agg (gets w (blkOf (a.eval x)) (offOf (a.eval x)) 18))) w := wp_load_big 18 aggStep sizeStep hx hh
theorem runLoadStep {ρ : Operand → Value} {dst : Option Tmp} {ty' : TypeId} {x : Operand} {pos : String} {after : Array Edge} {guard : Option (Nat × Bool)} {w : World} (hx : isAt (ρ x) = true) (hh : has w (blkOf (ρ x)) (offOf (ρ x)) 18 = true) :
    (execOp ρ { dst := dst, op := .load 45 x, type := ty', pos := pos, after := after, guard := guard }).run Tryz.prog w = .ok (.value (.agg (gets w (blkOf (ρ x)) (offOf (ρ x)) 18))) w := run_exec_load_big 18 aggStep sizeStep hx hh
theorem loadVarStep (w : World) (g off : Nat) (hh : has w g off 18 = true) : (loadVar 45 ⟨g, off, none⟩).run Tryz.prog w = .ok (.agg (gets w g off 18)) w := run_loadVar_big Tryz.prog w _ g off 18 aggStep sizeStep hh
attribute [go_sem] aggStep sizeStep
attribute [go_sem ↓ high] wpLoadStep loadVarStep runLoadStep
attribute [go_sem high] wpLoadStep
/-- Two results: a value of many cells, then one in a slot. -/
theorem ret_ci {P : Program} {fn : Func} {R : Ending → World → Prop} {a : Act} {w : World} {p j : Tmp} {ty t : TypeId} {g : Nat} {cs : Array Value}
    (hres : fn.results = #[.cell p ty, .tmp j]) (hd : a.defers = []) (hp : a.tmps.getD p undef = .pointer (some ⟨g, 0, none⟩)) (ha : aggT P ty = true) (hs : sizeT P ty = some cs.size) (hb : Blk w g t cs)
    (hR : R (.returned (.tuple #[.agg cs, a.tmps.getD j undef])) w) : bodyPost P fn R .ret a w := by
  have hp' : a.tmps[p]?.getD undef = .pointer (some ⟨g, 0, none⟩) := by simpa using hp
  exact bodyPost_ret (by simp [results, hres, hp', asAddr, run_loadVar_blk ha hs hb]) hd hR
structure Rt where (from_ steps : Int) (ahead behind : Dg) (told : Bool) (mid : Dg) (won : Int)
abbrev Rt.cells (r : Rt) : Array Value := #[.int .i64 r.from_, .int .i64 r.steps, .int .u8 r.ahead.x0, .int .u8 r.ahead.x1, .int .u8 r.ahead.x2, .int .u8 r.ahead.x3, .int .u8 r.ahead.x4, .int .u8 r.ahead.x5, .int .u8 r.ahead.x6, .int .u8 r.ahead.x7, .int .u8 r.behind.x0, .int .u8 r.behind.x1, .int .u8 r.behind.x2, .int .u8 r.behind.x3, .int .u8 r.behind.x4, .int .u8 r.behind.x5, .int .u8 r.behind.x6, .int .u8 r.behind.x7, .bool r.told, .int .u8 r.mid.x0, .int .u8 r.mid.x1, .int .u8 r.mid.x2, .int .u8 r.mid.x3, .int .u8 r.mid.x4, .int .u8 r.mid.x5, .int .u8 r.mid.x6, .int .u8 r.mid.x7, .int .i64 r.won]
attribute [go_sem] Rt.cells
def Rt.turn (r : Rt) : Int := if 0 ≤ r.won then -1 else if r.told then 1 else 0
def Rt.tell (r : Rt) (d : Dg) : Rt × Int := if 0 ≤ r.won then (r, 15) else if r.told || r.steps == 1 then (r, 10) else ({ r with told := true, mid := d }, 0)
def Rt.choose (r : Rt) (f : Bool) : Rt × Int := if 0 ≤ r.won then (r, 15) else if r.told then
  (if f then ({ r with steps := r.steps / 2, behind := r.mid, told := false, mid := Dg.zero }, 0) else ({ r with from_ := r.from_ + r.steps / 2, steps := r.steps / 2, ahead := r.mid, told := false, mid := Dg.zero }, 0)) else (r, 10)
def Rt.prove (r : Rt) (e : Int) : Rt × Int := if 0 ≤ r.won then (r, 15) else if r.told || decide (1 < r.steps) then (r, 10) else if e = 0 then ({ r with won := 0 }, 0) else (r, e)
def Rt.silence (r : Rt) : Rt × Int := if 0 ≤ r.won then (r, 15) else ({ r with won := 1 - r.turn }, 0)
end Go.Proofs.YtahljceanodhkaaGreatDoor
