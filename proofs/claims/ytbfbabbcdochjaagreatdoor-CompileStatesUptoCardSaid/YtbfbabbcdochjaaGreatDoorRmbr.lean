/- Several texts joined: Laidr4, Vu. -/
import Derived.OpenShut
import Derived.ChangeArms
import Derived.ChangeSame
import Derived.Lib.LaidTab
import Derived.Test.YtbfbabbcdochjaaGreatDoorRmpk
import Derived.Test.YtbfbabbcdochjaaGreatDoorRmal
import Derived.Test.YtbfbabbcdochjaaGreatDoorRmaz
import Derived.Test.YtbfbabbcdochjaaGreatDoorRmbq
set_option maxHeartbeats 4000000
set_option maxRecDepth 100000
open Go.Proofs.Tryz
namespace Go.Proofs.YtbfbabbcdochjaaGreatDoor
open Go.RowKit Go.Deep Go.ChangeShapes Go.WideShapes Go.ChangeAt So Mc
def opD (k:Nat):Option (List UInt8):=match (Rows.laid_baize_code_operations:DataW Unit)with
 | .agg l=>match l[k]? with|some (.agg [_,.lit (.string s)])=>some s|_=>none
 |_=>none
theorem aaS:∀k,k<22->opD k=some (oP k):=by decide
theorem opsAt_of {w : World} {cs : Array Value} {fuel : Nat} {p : List MemPlace} {enc : TypeId × Value → Unit} {held : Bool} (hv : w.var? prog "baize/code.operations" = some cs) (h : DataW.trod enc prog w 0 (fun _ => true) held fuel 212 cs.toList = some (Rows.laid_baize_code_operations, p)) : OpsAt w := by
 obtain⟨xs,m,rfl,hx,hl,hn,hall⟩:=DataW.trod_array underlying212 h;have hD:(Rows.laid_baize_code_operations:DataW Unit)=.agg (xs.map (·.1)):=congrArg Prod.fst hx;have hce:prog.cellsOf 211=2:=by kernel_rfl
 have hct:prog.cellsOf 9=1:=by kernel_rfl
 have key:∀k,k<22->cs[k*2+1]?=some (.string (TP k)):=λk hk=>by
  have h1:=hall k hk;rw [hce]at h1;have hxk:xs[k]?=some xs[k]:=List.getElem?_eq_getElem aj;rw [hxk]at h1;obtain⟨y0,y1,n',e1,_,_,e2⟩:=trod_struct2 underlying211 h1;obtain⟨s,e3,e4,_⟩:=DataW.trod_string underlying9 e2;have h2:=aaS k hk;unfold opD at h2;rw [hD]at h2;simp only [List.getElem?_map,hxk,Option.map_some,e1,e4,Option.some.injEq]at h2;rw [hct]at e3;have e5:=congrArg (·[0]?) e3;simp [List.getElem?_drop]at e5;rw [e5];unfold TP;rw [<-h2]
 have hg : prog.globalNamed "baize/code.operations" = some 0 := by kernel_rfl
 have hcell:=λi=>World.var?_cell hg hv i;have hat:∀k,k<22->w.cell? ⟨0,k*2+1,none⟩=some (.string (TP k)):=λk hk=>(hcell _).trans (key k hk);refine⟨?_,hat⟩
 rcases Nat.lt_or_ge 0 w.heap.size with h0|h0
 ·exact h0
 ·have:=hat 0 aj
  unfold World.cell? at this;rw [Array.getElem?_eq_none h0]at this
  cases this
theorem XV {w:World} (h:laidMetH prog Rows.compileWhichUptoRow.laid w) (h4:4<w.heap.size):fG w/\OpsAt w:=by
 have h':laidMet prog Rows.compileWhichUptoRow.laid w:=h;obtain⟨ps,⟨_,_,_,_,_,_,_,_,_,_,⟨g1,t1,cs1,f1,p1,q1,hg1,ht1,hv1,hd1,⟨go,to_,cso,fo,po,qo,hgo,hto,qH,hdo,⟨g2,t2,cs2,f2,p2,q2,hg2,ht2,hv2,hd2,⟨g3,t3,cs3,f3,p3,q3,hg3,ht3,hv3,hd3,_⟩,_⟩,_⟩,_⟩,_⟩,_⟩:=h'
 have e1 : prog.globalNamed "strings.asciiSpace" = some 1 := by kernel_rfl
 have e2 : prog.globalNamed "baize/sorts.stmtParts" = some 2 := by kernel_rfl
 have e3 : prog.globalNamed "baize/sorts.exprParts" = some 4 := by kernel_rfl
 obtain rfl:=Option.some.inj (e1.symm.trans hg1);obtain rfl:=Option.some.inj (e2.symm.trans hg2);obtain rfl:=Option.some.inj (e3.symm.trans hg3);obtain rfl:=Option.some.inj ((show(prog.globals[1]?).map (·.type)=some 227 by kernel_rfl).symm.trans ht1);obtain rfl:=Option.some.inj ((show(prog.globals[2]?).map (·.type)=some 230 by kernel_rfl).symm.trans ht2);obtain rfl:=Option.some.inj ((show(prog.globals[4]?).map (·.type)=some 239 by kernel_rfl).symm.trans ht3);have c1:=Lib.cells_of_tab (zs:=Lib.asciiSpaceTab) (k:=.u8) underlying227 underlying5 bT bT hd1;have c2:=Lib.cells_of_tab (zs:=CS) (k:=.i64) underlying230 underlying3 bT bT hd2;have c3:=Lib.cells_of_tab (zs:=Rq) (k:=.i64) underlying239 underlying3 bT bT hd3
 have e0 : prog.globalNamed "baize/code.operations" = some 0 := by kernel_rfl
 obtain rfl:=Option.some.inj (e0.symm.trans hgo);obtain rfl:=Option.some.inj ((show(prog.globals[0]?).map (·.type)=some 212 by kernel_rfl).symm.trans hto);refine⟨?_,opsAt_of qH hdo⟩;refine⟨?_,λk hk=>?_,λk hk=>?_,h4⟩
 ·unfold Lib.TabIs
  rw [hv1,<-c1]
 ·rw [World.var?_cell e2 hv2 k,<-Array.getElem?_toList,c2]
  have:∀k,k<10->CS[k]?=some ((stmtParts (k:Nat):Nat):Int):=by decide
  rw [List.getElem?_map,this k hk]
  rfl
 ·rw [World.var?_cell e3 hv3 k,<-Array.getElem?_toList,c3]
  have:∀k,k<18->Rq[k]?=some ((exprParts (k:Nat):Nat):Int):=by decide
  rw [List.getElem?_map,this k hk]
  rfl
open Go.RowKit Go.Deep Go.ChangeShapes Go.WideShapes So Mc
theorem Iz {w:World} {base:Nat} {v:Value} (o:Value.okWide prog w .any base 3 v):∃n,v=.int .i64 n:=by
 cases v<;>simp_all [Value.okWide,Cell.okWide,Cell.ok,underlying3]
namespace compileMeans
theorem walk {H:Type} {enc:TypeId×Value->H} (W:World) (base:Nat) (v0 v1 v2:Value) (d0:DataW H) (p0:List MemPlace) (d1:DataW H) (p1:List MemPlace) (d2:DataW H) (p2:List MemPlace)
 (o0:Value.okWide prog W .any base 26 v0) (o1:Value.okWide prog W .any base 3 v1) (o2:Value.okWide prog W .any base 28 v2)
 (h0:DataW.Trod enc prog W 0 (λ_=>true) true 26 v0 d0 p0) (_h1:DataW.Trod enc prog W 0 (λ_=>true) true 3 v1 d1 p1) (h2:DataW.Trod enc prog W 0 (λ_=>true) true 28 v2 d2 p2) (hL:laidMetH prog Rows.compileMeansUptoRow.laid W)
 {gs:List (DataW H)} (hk:Rows.uptoSmall H ([d0,d1,d2]++gs)=true)
 (z0:light prog 26 d0) (_z1:light prog 3 d1) (z2:light prog 28 d2) (hS:W.ShapedOpen prog):
 Calls prog 3 #[v0,v1,v2] W λe w'=>e=.returned (.bool true)/\Ext W w':=by
 obtain⟨c,q,rfl,hp,hc,hs⟩:=yI o0 h0 z0;obtain⟨n,rfl⟩:=Iz o1;obtain⟨s,t,l,m,rfl,hm,hn⟩:=Cz o2 h2 z2;refine abR ?_;intro hk hLA hOA;exact O8 c q n s t l m W.heap.size W (Nat.le_refl _) hp hLA hOA hc aj hm hn
end compileMeans
end Go.Proofs.YtbfbabbcdochjaaGreatDoor
