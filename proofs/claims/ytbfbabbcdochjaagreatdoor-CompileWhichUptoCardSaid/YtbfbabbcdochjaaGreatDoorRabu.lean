/- Several texts joined: Laidr4, Vp. -/
import Derived.OpenShut
import Derived.ChangeArms
import Derived.ChangeSame
import Derived.Lib.LaidTab
import Derived.Test.YtbfbabbcdochjaaGreatDoorRapk
import Derived.Test.YtbfbabbcdochjaaGreatDoorRaaq
import Derived.Test.YtbfbabbcdochjaaGreatDoorRabh
import Derived.Test.YtbfbabbcdochjaaGreatDoorRabt
set_option maxHeartbeats 4000000
namespace Go.Proofs.YtbfbabbcdochjaaGreatDoor
open Go.RowKit Go.Deep Go.ChangeShapes Go.WideShapes Go.ChangeAt So Mc
def opD (k:Nat):Option (List UInt8):=match (Rows.laid_baize_code_operations:DataW Unit) with
 | .agg l=>match l[k]? with | some (.agg [_,.lit (.string s)])=>some s | _=>none
 | _=>none
theorem opD_all:∀ k,k < 22→opD k=some (hasN k):=by decide
theorem opsAt_of {w : World} {cs : Array Value} {fuel : Nat} {p : List MemPlace} {enc : TypeId × Value → Unit} {held : Bool} (hv : w.var? Tryz.prog "baize/code.operations" = some cs) (h : DataW.trod enc Tryz.prog w 0 (fun _ => true) held fuel 212 cs.toList = some (Rows.laid_baize_code_operations, p)) : OpsAt w := by
 obtain ⟨xs,m,rfl,hx,hl,hn,hall⟩:=DataW.trod_array Tryz.underlying212 h
 have hD:(Rows.laid_baize_code_operations:DataW Unit)=.agg (xs.map (·.1)):=congrArg Prod.fst hx
 have hce:Tryz.prog.cellsOf 211=2:=by kernel_rfl
 have hct:Tryz.prog.cellsOf 9=1:=by kernel_rfl
 have key:∀ k,k < 22→cs[k * 2+1]?=some (.string (hasS k)):=fun k hk=>by
  have h1:=hall k hk
  rw [hce] at h1
  have hxk:xs[k]?=some xs[k]:=List.getElem?_eq_getElem (by omega)
  rw [hxk] at h1
  obtain ⟨y0,y1,n',e1,_,_,e2⟩:=trod_struct2 Tryz.underlying211 h1
  obtain ⟨s,e3,e4,_⟩:=DataW.trod_string Tryz.underlying9 e2
  have h2:=opD_all k hk
  unfold opD at h2
  rw [hD] at h2
  simp only [List.getElem?_map,hxk,Option.map_some,e1,e4,Option.some.injEq] at h2
  rw [hct] at e3
  have e5:=congrArg (·[0]?) e3
  simp [List.getElem?_drop] at e5
  rw [e5]
  unfold hasS
  rw [← h2]
 have hg : Tryz.prog.globalNamed "baize/code.operations" = some 0 := by kernel_rfl
 have hcell:=fun i=>World.var?_cell hg hv i
 have hat:∀ k,k < 22→w.cell? ⟨0,k * 2+1,none⟩=some (.string (hasS k)):=fun k hk=>(hcell _).trans (key k hk)
 refine ⟨?_,hat⟩
 rcases Nat.lt_or_ge 0 w.heap.size with h0 | h0
 ·exact h0
 ·have:=hat 0 (by omega)
  unfold World.cell? at this
  rw [Array.getElem?_eq_none h0] at this
  cases this
set_option maxRecDepth 100000 in
theorem laid_at4 {w:World} (h:laidMetH Tryz.prog Rows.compileWhichUptoRow.laid w) (h4:4 < w.heap.size):LaidAt w∧OpsAt w:=by
 have h':laidMet Tryz.prog Rows.compileWhichUptoRow.laid w:=h
 obtain ⟨ps,⟨_,_,_,_,_,_,_,_,_,_,⟨g1,t1,cs1,f1,p1,q1,hg1,ht1,hv1,hd1,⟨go,to_,cso,fo,po,qo,hgo,hto,hvo,hdo,⟨g2,t2,cs2,f2,p2,q2,hg2,ht2,hv2,hd2,⟨g3,t3,cs3,f3,p3,q3,hg3,ht3,hv3,hd3,_⟩,_⟩,_⟩,_⟩,_⟩,_⟩:=h'
 have e1 : Tryz.prog.globalNamed "strings.asciiSpace" = some 1 := by kernel_rfl
 have e2 : Tryz.prog.globalNamed "baize/sorts.stmtParts" = some 2 := by kernel_rfl
 have e3 : Tryz.prog.globalNamed "baize/sorts.exprParts" = some 4 := by kernel_rfl
 obtain rfl:=Option.some.inj (e1.symm.trans hg1)
 obtain rfl:=Option.some.inj (e2.symm.trans hg2)
 obtain rfl:=Option.some.inj (e3.symm.trans hg3)
 obtain rfl:=Option.some.inj ((show (Tryz.prog.globals[1]?).map (·.type)=some 227 by kernel_rfl).symm.trans ht1)
 obtain rfl:=Option.some.inj ((show (Tryz.prog.globals[2]?).map (·.type)=some 230 by kernel_rfl).symm.trans ht2)
 obtain rfl:=Option.some.inj ((show (Tryz.prog.globals[4]?).map (·.type)=some 239 by kernel_rfl).symm.trans ht3)
 have c1:=Lib.cells_of_tab (zs:=Lib.asciiSpaceTab) (k:=.u8) Tryz.underlying227 Tryz.underlying5 (by kernel_rfl) (by kernel_rfl) hd1
 have c2:=Lib.cells_of_tab (zs:=stmtTab) (k:=.i64) Tryz.underlying230 Tryz.underlying3 (by kernel_rfl) (by kernel_rfl) hd2
 have c3:=Lib.cells_of_tab (zs:=exprTab) (k:=.i64) Tryz.underlying239 Tryz.underlying3 (by kernel_rfl) (by kernel_rfl) hd3
 have e0 : Tryz.prog.globalNamed "baize/code.operations" = some 0 := by kernel_rfl
 obtain rfl:=Option.some.inj (e0.symm.trans hgo)
 obtain rfl:=Option.some.inj ((show (Tryz.prog.globals[0]?).map (·.type)=some 212 by kernel_rfl).symm.trans hto)
 refine ⟨?_,opsAt_of hvo hdo⟩
 refine ⟨?_,fun k hk=>?_,fun k hk=>?_,h4⟩
 ·unfold Lib.TabIs
  rw [hv1,← c1]
 ·rw [World.var?_cell e2 hv2 k,← Array.getElem?_toList,c2]
  have:∀ k,k < 10→stmtTab[k]?=some ((stmtParts (k:Nat):Nat):Int):=by decide
  rw [List.getElem?_map,this k hk]
  rfl
 ·rw [World.var?_cell e3 hv3 k,← Array.getElem?_toList,c3]
  have:∀ k,k < 18→exprTab[k]?=some ((exprParts (k:Nat):Nat):Int):=by decide
  rw [List.getElem?_map,this k hk]
  rfl
open Go.RowKit Go.Deep Go.ChangeShapes Go.WideShapes So Mc
namespace compileWhich
set_option maxRecDepth 100000 in
theorem walk {H:Type} {enc:TypeId × Value→H} (W:World) (base:Nat) (v0:Value) (d0:DataW H) (p0:List MemPlace)
 (o0:Value.okWide Tryz.prog W .any base 26 v0)
 (h0:DataW.Trod enc Tryz.prog W 0 (fun _=>true) true 26 v0 d0 p0) (hL:laidMetH Tryz.prog Rows.compileWhichUptoRow.laid W)
 {gs:List (DataW H)} (hk:Rows.uptoSmall H ([d0] ++ gs)=true)
 (z0:light Tryz.prog 26 d0) (hS:W.ShapedOpen Tryz.prog) :
 Calls Tryz.prog 5 #[v0] W fun e w'=>e=.returned (.bool true)∧Ext W w':=by
 obtain ⟨c,q,rfl,hp,hc,hs⟩:=prog_in3 o0 h0 z0
 have hk:Rows.uptoBulkAll ([d0] ++ gs)≤1048576:=of_decide_eq_true hk
 simp only [List.cons_append,Rows.uptoBulkAll] at hk
 obtain ⟨hLA,hOA⟩:=laid_at4 hL (five_blocks hS)
 exact lwhich_any c q W.heap.size W (Nat.le_refl _) hp hLA hOA hc (by omega)
end compileWhich
end Go.Proofs.YtbfbabbcdochjaaGreatDoor
