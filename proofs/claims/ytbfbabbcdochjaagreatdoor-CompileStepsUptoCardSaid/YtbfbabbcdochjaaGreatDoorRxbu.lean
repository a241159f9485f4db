/- Several texts joined: Vq, Laidr4, Vr. -/
import Derived.OpenShut
import Derived.ChangeArms
import Derived.ChangeSame
import Derived.Lib.LaidTab
import Derived.Test.YtbfbabbcdochjaaGreatDoorRxpk
import Derived.Test.YtbfbabbcdochjaaGreatDoorRxao
import Derived.Test.YtbfbabbcdochjaaGreatDoorRxbg
import Derived.Test.YtbfbabbcdochjaaGreatDoorRxbn
import Derived.Test.YtbfbabbcdochjaaGreatDoorRxbt
set_option maxHeartbeats 4000000
namespace Go.Proofs.YtbfbabbcdochjaaGreatDoor
open Go.RowKit Go.Deep Go.ChangeShapes Go.WideShapes So Mc
section
variable {H:Type} {enc:TypeId × Value→H} {w:World} {base:Nat} {held:Bool}
theorem cellsI32:Tryz.prog.cellsOf 21=1:=by kernel_rfl
theorem cellsM32:Tryz.prog.cellsOf 27=1:=by kernel_rfl
theorem mems_flat:∀ (css:List (List Value)),(∀ cs ∈ css,∃ n:Int,i32ok n∧cs=[.int .i32 n])→∃ l:List Int,l.length=css.length∧(∀ i ∈ l,i32ok i)∧css.flatten=mems l
 | [],_=>⟨[],rfl,by simp,rfl⟩
 | c :: r,h=>by
  obtain ⟨i,hi,rfl⟩:=h c zb86
  obtain ⟨l,hl,ho,he⟩:=mems_flat r (fun cs hcs=>h cs (by simp [hcs]))
  exact ⟨i :: l,by simp [hl],by simp;exact ⟨hi,ho⟩,by rw [List.flatten_cons,he];rfl⟩
theorem mem_of {fuel:Nat} {v:Value} {d:DataW H} {ps:List MemPlace} (h:DataW.trod enc Tryz.prog w base (fun _=>true) held fuel 27 [v]=some (d,ps)) (hw:light Tryz.prog 27 d) :
 ∃ (s:Sl3) (l:List Int),v=s.v∧M32 w w.heap.size s l:=by
 obtain ⟨A,b,off,len,cap,rs,rfl,hA,hl,hr,hc,-,-⟩:=open_rows3 Tryz.underlying27 cellsI32 zb85 h hw
 obtain ⟨l,hll,ho,he⟩:=mems_flat (rs.map (·.1)) (fun cs hcs=>by
  obtain ⟨r,hr,rfl⟩:=List.mem_map.1 hcs
  obtain ⟨_,n,ps',_,ht,_⟩:=hc r hr
  obtain ⟨k,e,_,wf⟩:=DataW.trod_int Tryz.underlying21 ht
  exact ⟨k,by simpa [Lit.wf,IntKind.min,IntKind.max,IntKind.signed,IntKind.bits,i32ok] using wf,e⟩)
 rw [List.length_map] at hll
 exact ⟨⟨A,len,cap⟩,l,rfl,show len=l.length by omega,ho,b,off,hA,fun h0=>⟨(hr h0).lt,he ▸ hr h0⟩⟩
set_option maxRecDepth 100000 in
theorem mem2_of {v:Value} {d:DataW H} {ps:List MemPlace} (o:Value.okWide Tryz.prog w .any base 28 v) (h:DataW.Trod enc Tryz.prog w 0 (fun _=>true) held 28 v d ps) (hw:light Tryz.prog 28 d) :
 ∃ (s t:Sl3) (l m:List Int),v=.agg #[s.v,t.v]∧M32 w w.heap.size s l∧M32 w w.heap.size t m:=by
 obtain ⟨cs,rfl⟩:∃ cs,v=.agg cs:=by
  simp only [Value.okWide,Tryz.underlying28] at o
  obtain ⟨cs,h1,_⟩:=o
  exact ⟨cs,h1⟩
 obtain ⟨fuel,hf⟩:=h
 obtain ⟨xs,m,_,hx,hl,hxl,hz⟩:=DataW.trod_array Tryz.underlying28 hf
 obtain ⟨hd,-⟩:=Prod.mk.inj hx
 subst hd
 unfold light at hw
 rw [DataW.weights] at hw
 simp only [Tryz.underlying28] at hw
 match xs,hxl with
 | [x0,x1],_ =>
  have g0:=hz 0 zb85
  have g1:=hz 1 zb85
  rw [cellsM32] at g0 g1
  have hl2:(Value.agg cs).cells.toList.length=2:=hl
  simp only [Value.cells] at g0 g1 hl2
  have hsz:cs.size=2:=by simpa using hl2
  obtain ⟨a,b,rfl⟩:∃ a b,cs=#[a,b]:=by
   obtain ⟨l⟩:=cs
   match l,hsz with
   | [a,b],_=>exact ⟨a,b,rfl⟩
  have l0:light Tryz.prog 27 x0.1:=light_all (E:=27) (l:=[x0.1,x1.1]) (by first | exact hw | exact hw.2 | simpa using hw) _ zb86
  have l1:light Tryz.prog 27 x1.1:=light_all (E:=27) (l:=[x0.1,x1.1]) (by first | exact hw | exact hw.2 | simpa using hw) _ zb86
  obtain ⟨s,l,rfl,hs⟩:=mem_of (d:=x0.1) (ps:=x0.2) (v:=a) (by simpa using g0) l0
  obtain ⟨t,m',rfl,ht⟩:=mem_of (d:=x1.1) (ps:=x1.2) (v:=b) (by simpa using g1) l1
  exact ⟨s,t,l,m',rfl,hs,ht⟩
end
open Go.RowKit Go.Deep Go.ChangeShapes Go.WideShapes Go.ChangeAt So Mc
def opD (k:Nat):Option (List UInt8):=match (Rows.laid_baize_code_operations:DataW Unit) with
 | .agg l=>match l[k]? with | some (.agg [_,.lit (.string s)])=>some s | _=>none
 | _=>none
theorem opD_all:∀ k,k < 22→opD k=some (hasN k):=by decide
theorem opsAt_of {w : World} {cs : Array Value} {fuel : Nat} {p : List MemPlace} {enc : TypeId × Value → Unit} {held : Bool} (hv : w.var? Tryz.prog "baize/code.operations" = some cs) (h : DataW.trod enc Tryz.prog w 0 (fun _ => true) held fuel 212 cs.toList = some (Rows.laid_baize_code_operations, p)) : OpsAt w := by
 obtain ⟨xs,m,rfl,hx,hl,hn,hall⟩:=DataW.trod_array Tryz.underlying212 h
 have hD:(Rows.laid_baize_code_operations:DataW Unit)=.agg (xs.map (·.1)):=congrArg Prod.fst hx
 have hce:Tryz.prog.cellsOf 211=2:=by kernel_rfl
 have hct:Tryz.prog.cellsOf 9=1:=by kernel_rfl
 have key:∀ k,k < 22→cs[k * 2+1]?=some (.string (hasS k)):=fun k hk=>by
  have h1:=hall k hk
  rw [hce] at h1
  have hxk:xs[k]?=some xs[k]:=List.getElem?_eq_getElem zb85
  rw [hxk] at h1
  obtain ⟨y0,y1,n',e1,_,_,e2⟩:=trod_struct2 Tryz.underlying211 h1
  obtain ⟨s,e3,e4,_⟩:=DataW.trod_string Tryz.underlying9 e2
  have h2:=opD_all k hk
  unfold opD at h2
  rw [hD] at h2
  simp only [List.getElem?_map,hxk,Option.map_some,e1,e4,Option.some.injEq] at h2
  rw [hct] at e3
  have e5:=congrArg (·[0]?) e3
  simp [List.getElem?_drop] at e5
  rw [e5]
  unfold hasS
  rw [← h2]
 have hg : Tryz.prog.globalNamed "baize/code.operations" = some 0 := by kernel_rfl
 have hcell:=fun i=>World.var?_cell hg hv i
 have hat:∀ k,k < 22→w.cell? ⟨0,k * 2+1,none⟩=some (.string (hasS k)):=fun k hk=>(hcell _).trans (key k hk)
 refine ⟨?_,hat⟩
 rcases Nat.lt_or_ge 0 w.heap.size with h0 | h0
 ·exact h0
 ·have:=hat 0 zb85
  unfold World.cell? at this
  rw [Array.getElem?_eq_none h0] at this
  cases this
set_option maxRecDepth 100000 in
theorem laid_at4 {w:World} (h:laidMetH Tryz.prog Rows.compileWhichUptoRow.laid w) (h4:4 < w.heap.size):LaidAt w∧OpsAt w:=by
 have h':laidMet Tryz.prog Rows.compileWhichUptoRow.laid w:=h
 obtain ⟨ps,⟨_,_,_,_,_,_,_,_,_,_,⟨g1,t1,cs1,f1,p1,q1,hg1,ht1,hv1,hd1,⟨go,to_,cso,fo,po,qo,hgo,hto,hvo,hdo,⟨g2,t2,cs2,f2,p2,q2,hg2,ht2,hv2,hd2,⟨g3,t3,cs3,f3,p3,q3,hg3,ht3,hv3,hd3,_⟩,_⟩,_⟩,_⟩,_⟩,_⟩:=h'
 have e1 : Tryz.prog.globalNamed "strings.asciiSpace" = some 1 := by kernel_rfl
 have e2 : Tryz.prog.globalNamed "baize/sorts.stmtParts" = some 2 := by kernel_rfl
 have e3 : Tryz.prog.globalNamed "baize/sorts.exprParts" = some 4 := by kernel_rfl
 obtain rfl:=Option.some.inj (e1.symm.trans hg1)
 obtain rfl:=Option.some.inj (e2.symm.trans hg2)
 obtain rfl:=Option.some.inj (e3.symm.trans hg3)
 obtain rfl:=Option.some.inj ((show (Tryz.prog.globals[1]?).map (·.type)=some 227 by kernel_rfl).symm.trans ht1)
 obtain rfl:=Option.some.inj ((show (Tryz.prog.globals[2]?).map (·.type)=some 230 by kernel_rfl).symm.trans ht2)
 obtain rfl:=Option.some.inj ((show (Tryz.prog.globals[4]?).map (·.type)=some 239 by kernel_rfl).symm.trans ht3)
 have c1:=Lib.cells_of_tab (zs:=Lib.asciiSpaceTab) (k:=.u8) Tryz.underlying227 Tryz.underlying5 zb83 zb83 hd1
 have c2:=Lib.cells_of_tab (zs:=stmtTab) (k:=.i64) Tryz.underlying230 Tryz.underlying3 zb83 zb83 hd2
 have c3:=Lib.cells_of_tab (zs:=exprTab) (k:=.i64) Tryz.underlying239 Tryz.underlying3 zb83 zb83 hd3
 have e0 : Tryz.prog.globalNamed "baize/code.operations" = some 0 := by kernel_rfl
 obtain rfl:=Option.some.inj (e0.symm.trans hgo)
 obtain rfl:=Option.some.inj ((show (Tryz.prog.globals[0]?).map (·.type)=some 212 by kernel_rfl).symm.trans hto)
 refine ⟨?_,opsAt_of hvo hdo⟩
 refine ⟨?_,fun k hk=>?_,fun k hk=>?_,h4⟩
 ·unfold Lib.TabIs
  rw [hv1,← c1]
 ·rw [World.var?_cell e2 hv2 k,← Array.getElem?_toList,c2]
  have:∀ k,k < 10→stmtTab[k]?=some ((stmtParts (k:Nat):Nat):Int):=by decide
  rw [List.getElem?_map,this k hk]
  rfl
 ·rw [World.var?_cell e3 hv3 k,← Array.getElem?_toList,c3]
  have:∀ k,k < 18→exprTab[k]?=some ((exprParts (k:Nat):Nat):Int):=by decide
  rw [List.getElem?_map,this k hk]
  rfl
open Go.RowKit Go.Deep Go.ChangeShapes Go.WideShapes So Mc
namespace compilePays
set_option maxRecDepth 100000 in
theorem walk {H:Type} {enc:TypeId × Value→H} (W:World) (base:Nat) (v0 v1:Value) (d0:DataW H) (p0:List MemPlace) (d1:DataW H) (p1:List MemPlace)
 (o0:Value.okWide Tryz.prog W .any base 26 v0) (o1:Value.okWide Tryz.prog W .any base 27 v1)
 (h0:DataW.Trod enc Tryz.prog W 0 (fun _=>true) true 26 v0 d0 p0) (h1:DataW.Trod enc Tryz.prog W 0 (fun _=>true) true 27 v1 d1 p1) (hL:laidMetH Tryz.prog Rows.compilePaysUptoRow.laid W)
 {gs:List (DataW H)} (hk:Rows.uptoSmall H ([d0,d1] ++ gs)=true)
 (z0:light Tryz.prog 26 d0) (z1:light Tryz.prog 27 d1) (hS:W.ShapedOpen Tryz.prog) :
 Calls Tryz.prog 7 #[v0,v1] W fun e w'=>e=.returned (.bool true)∧Ext W w':=by
 obtain ⟨c,q,rfl,hp,hc,hs⟩:=prog_in3 o0 h0 z0
 obtain ⟨fuel,h1⟩:=h1
 obtain ⟨s,l,rfl,hm⟩:=mem_of (v:=v1) (by cases v1 <;> first | exact h1 | (simp [Value.okWide,Cell.okWide,Cell.ok,Tryz.underlying27] at o1)) z1
 refine zy98 ?_;intro hk hLA hOA
 exact lpays_any c q s l W.heap.size W (Nat.le_refl _) hp hLA hOA hc zb85 hm
end compilePays
end Go.Proofs.YtbfbabbcdochjaaGreatDoor
