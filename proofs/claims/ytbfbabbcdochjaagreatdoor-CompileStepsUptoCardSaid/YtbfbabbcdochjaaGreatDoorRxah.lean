/- Several texts joined: Qm, Qn, Qo, Qp. -/
import Derived.Test.YtbfbabbcdochjaaGreatDoorRxpk
import Derived.Test.YtbfbabbcdochjaaGreatDoorRxag
set_option maxHeartbeats 4000000
namespace Go.Proofs.YtbfbabbcdochjaaGreatDoor
open Go.RowKit So
attribute [go_sem] Sl3.v
set_option maxRecDepth 100000 in
theorem find_any (l:List Vr) (s:Str) (A:Option Addr) (n c N:Nat) (w:World) (h:VSl w N A n l):Calls Tryz.prog 91 #[.slice A n c,.string s] w fun e w'=>e=.returned (.bool (l.any (fun v=>decide (v.name=s))))∧w=w':=by
 obtain ⟨hn,hf,hok,b,off,hA,hE⟩:=h
 refine zy25 ?_;intro hm HN HA HE
 clear hn hA hE hok hf
 go_enter Tryz.func91,Tryz.ntmps91
 go_wp2_with fail
 go_loopw [5] (fun t5 wr=>∃ (j:Nat),j≤n∧t5=.int .i64 j∧(∀ v ∈ l.take j,¬ v.name=s)∧w=wr) (fun t5 _=>n - (intOf t5).toNat)
 case atStart=>exact ⟨0,Nat.zero_le _,rfl,by simp,rfl⟩
 case round =>
  obtain ⟨j,hj,rfl,hno,hw⟩:=hrel
  subst hw
  have HNO:=J hno
  clear hno
  by_cases hlt:j < n
  ·have hjl:j < l.length:=by have:=HN.out;omega
   have hltI:(j:Int) < n:=by omega
   obtain rfl:=HA.out zb85
   have hrow:=(HE.out zb85).2
   obtain ⟨hh',hg'⟩:=vr_at hrow j hjl
   have hc:=cell_gets0 hh' hg' zb85
   obtain ⟨x,hxe⟩:∃ x,x=l[j]:=⟨_,rfl⟩
   rw [← hxe] at hc
   have HX:=J hxe
   clear hrow hxe hh' hg'
   by_cases hq:x.name=s
   ·have hb:=str_same hq
    have HQ:=J hq
    clear hq
    go_wp2_with fail
    go_ret
    refine ⟨ret_bool ?_,rfl⟩
    rw [eq_comm,List.any_eq_true]
    exact ⟨x,by rw [HX.out];exact List.getElem_mem hjl,decide_eq_true HQ.out⟩
   ·have hb:=str_other hq
    exact zz51
  ·obtain rfl:j=n:=by omega
   go_wp2_with fail
   go_ret
   refine ⟨ret_bool ?_,rfl⟩
   rw [eq_comm,List.any_eq_false]
   intro v hv
   have:=HNO.out v zb50
   simpa using this
theorem cells_app:∀ a b:List Vr,cells (a ++ b)=cells a+cells b
 | [],b=>by simp [cells]
 | v :: a,b=>by simp [cells,cells_app a b];omega
theorem cellsV_bd (v:Vr):1≤So.cellsV v∧So.cellsV v≤64:=by unfold So.cellsV;split <;> omega
theorem cells_bd:∀ l:List Vr,0≤cells l∧cells l≤64 * l.length
 | []=>by simp [cells]
 | v :: l=>by
  have:=cells_bd l
  have:=cellsV_bd v
  simp only [cells,List.length_cons]
  omega
theorem cells_take {l:List Vr} {j:Nat} (h:j < l.length):cells (l.take (j+1))=cells (l.take j)+So.cellsV l[j]:=by
 rw [List.take_add_one,List.getElem?_eq_getElem h,cells_app]
 simp [cells]
theorem w64_cells {l:List Vr} (h:l.length≤17592186044416):w64 (cells l)=cells l:=by
 have:=cells_bd l
 simp only [w64_def]
 omega
def cellN (l:List Vr) (s:Str):Int:=if l.any (fun v=>decide (v.name=s))=true then cells (l.takeWhile (fun v=>!decide (v.name=s))) else 0
def cellX (l:List Vr) (s:Str):Vr:=(l.find? (fun v=>decide (v.name=s))).getD ⟨E0,0,0,0⟩
theorem tw_mid {α:Type} (p:α→Bool) (b:List α):∀ (a:List α) (x:α) (_:∀ v ∈ a,p v=false) (_:p x=true),(a ++ x :: b).takeWhile (fun v=>!p v)=a∧(a ++ x :: b).find? p=some x
 | [],x,_,hx=>by simp [hx]
 | y :: a,x,h,hx=>by
  have hy:=h y zb86
  obtain ⟨h1,h2⟩:=tw_mid p b a x (fun v hv=>h v (by simp [hv])) hx
  exact ⟨by simp [hy,h1],by simp [hy,h2]⟩
theorem cell_at:∀ {l:List Vr} {j:Nat} {s:Str} (_:∀ v ∈ l.take j,¬ v.name=s) (hj:j < l.length) (_:l[j].name=s),cellN l s=cells (l.take j)∧cellX l s=l[j]∧l.any (fun v=>decide (v.name=s))=true:=by
 intro l j s h hj hq
 have hsp:l=l.take j ++ l[j] :: l.drop (j+1):=by rw [← List.drop_eq_getElem_cons hj,List.take_append_drop]
 have hany:l.any (fun v=>decide (v.name=s))=true:=by
  rw [List.any_eq_true];exact ⟨l[j],List.getElem_mem hj,decide_eq_true hq⟩
 have htw:l.takeWhile (fun v=>!decide (v.name=s))=l.take j:=by
  have:=tw_mid (fun v:Vr=>decide (v.name=s)) (l.drop (j+1)) (l.take j) l[j] (fun v hv=>by simpa using h v hv) (by simpa using hq)
  rw [← hsp] at this
  exact this.1
 have hfd:l.find? (fun v=>decide (v.name=s))=some l[j]:=by
  have:=tw_mid (fun v:Vr=>decide (v.name=s)) (l.drop (j+1)) (l.take j) l[j] (fun v hv=>by simpa using h v hv) (by simpa using hq)
  rw [← hsp] at this
  exact this.2
 exact ⟨by unfold cellN;rw [if_pos hany,htw],by unfold cellX;rw [hfd];rfl,hany⟩
theorem cell_no {l:List Vr} {s:Str} (h:∀ v ∈ l,¬ v.name=s):cellN l s=0∧cellX l s=⟨E0,0,0,0⟩∧l.any (fun v=>decide (v.name=s))=false:=by
 have hany:l.any (fun v=>decide (v.name=s))=false:=by
  rw [List.any_eq_false];intro v hv;simpa using h v hv
 refine ⟨by unfold cellN;rw [hany];rfl,?_,hany⟩
 unfold cellX
 rw [List.find?_eq_none.2 (fun v hv=>by simpa using h v hv)]
 rfl
theorem knV_cell (l:List Vr) (s:Str):knV l s=if l.any (fun v=>decide (v.name=s))=true then (if 0 < (cellX l s).size then 2 else 1) else 0:=by
 unfold knV cellX
 cases hf:l.find? (fun v=>decide (v.name=s)) with
 | none =>
  have:l.any (fun v=>decide (v.name=s))=false:=by
   rw [List.any_eq_false];intro v hv;exact List.find?_eq_none.1 hf v hv
  rw [this];rfl
 | some v =>
  have:l.any (fun v=>decide (v.name=s))=true:=by
   rw [List.any_eq_true];exact ⟨v,List.mem_of_find?_eq_some hf,List.find?_some (p:=fun v:Vr=>decide (v.name=s)) hf⟩
  rw [if_pos this];rfl
theorem no_next {l:List Vr} {j:Nat} {s:Str} (h:∀ v ∈ l.take j,¬ v.name=s) (hj:j < l.length) (hq:¬ l[j].name=s):∀ v ∈ l.take (j+1),¬ v.name=s:=by
 intro v hv
 rw [List.take_add_one,List.getElem?_eq_getElem hj] at hv
 simp only [Option.toList_some,List.mem_append,List.mem_singleton] at hv
 rcases hv with hv | rfl
 ·exact h v hv
 ·exact hq
set_option maxRecDepth 100000 in
theorem scells_any (c:Pc) (p:Pr) (N:Nat) (w:World) (_hN:N≤w.heap.size) (h:PAt w N c p):Calls Tryz.prog 44 #[.agg c.cells] w fun e w'=>e=.returned (.int .i64 (cells p.vars))∧Ext w w':=by
 obtain ⟨cn,cse,cst,⟨A,n,cc⟩,cs,ct,cpa,cpl,csi,cq,cpy⟩:=c
 have hx0:=(kR (fun _=>False) w).alloc (.cells (Pc.cells ⟨cn,cse,cst,⟨A,n,cc⟩,cs,ct,cpa,cpl,csi,cq,cpy⟩) 57)
 obtain ⟨hn,hf,hok,b,off,hA,hE⟩:=h.vars.ext hx0
 refine zy25 ?_;intro hm HN HA HE
 have HX0:=J hx0
 clear hn hA hE hok hf h
 go_enter Tryz.func44,Tryz.ntmps44
 go_wp2_with fail
 go_loopw [3,9] (fun t3 t9 wr=>∃ (j:Nat),j≤n∧t9=.int .i64 j∧t3=.int .i64 (w64 (cells (p.vars.take j)))∧Ext (w.alloc (.cells (Pc.cells ⟨cn,cse,cst,⟨A,n,cc⟩,cs,ct,cpa,cpl,csi,cq,cpy⟩) 57)) wr) (fun _ t9 _=>n - (intOf t9).toNat)
 case atStart=>exact ⟨0,Nat.zero_le _,rfl,by simp [cells,w64_def],kR _ _⟩
 case round =>
  obtain ⟨j,hj,rfl,rfl,hx⟩:=hrel
  have HX:=J hx
  clear hx
  by_cases hlt:j < n
  ·have hjl:j < p.vars.length:=by have:=HN.out;omega
   have hltI:(j:Int) < n:=by omega
   obtain rfl:=HA.out zb85
   refine zy70 ?_;intro hrow hh' hg' hbw
   obtain ⟨x,hxe⟩:∃ x,x=p.vars[j]:=⟨_,rfl⟩
   rw [← hxe] at hg'
   have HXE:=J hxe
   clear hrow hxe
   have y0:Ext wr _:=(kR (fun _=>False) wr).alloc (.cells (vcells x) 109)
   go_wp2_with fail
   refine (size_any x _).mono ?_
   rintro e w1 ⟨rfl,hx1⟩
   go_wp2_with fail
   go_roundw
   case rel=>exact ⟨j+1,hlt,by go_num,by rw [cells_take hjl,← HXE.out];simp only [w64_w64],HX.out.trans (y0.trans hx1)⟩
   case measure=>simp only [intOf];omega
  ·obtain rfl:j=n:=by omega
   go_wp2_with fail
   go_ret
   refine ⟨ret_int ?_,HX0.out.trans HX.out⟩
   rw [HN.out,List.take_length,w64_cells (by have:=HN.out;omega)]
set_option maxRecDepth 100000 in
theorem rcells_any (c:Pc) (p:Pr) (N:Nat) (w:World) (_hN:N≤w.heap.size) (h:PAt w N c p):Calls Tryz.prog 34 #[.agg c.cells] w fun e w'=>e=.returned (.int .i64 (cells p.vars))∧Ext w w':=by
 obtain ⟨cn,cse,cst,⟨A,n,cc⟩,cs,ct,cpa,cpl,csi,cq,cpy⟩:=c
 have hx0:=(kR (fun _=>False) w).alloc (.cells (Pc.cells ⟨cn,cse,cst,⟨A,n,cc⟩,cs,ct,cpa,cpl,csi,cq,cpy⟩) 26)
 have hB:=bN w 26 (Pc.cells ⟨cn,cse,cst,⟨A,n,cc⟩,cs,ct,cpa,cpl,csi,cq,cpy⟩)
 obtain ⟨hn,hf,hok,b,off,hA,hE⟩:=h.vars.ext hx0
 refine zy25 ?_;intro hm HN HA HE
 clear hn hA hE hok hf h
 go_enter Tryz.func34,Tryz.ntmps34
 go_upto_region 1 with (fail)
 generalize hW:(w.alloc (.cells (Pc.cells ⟨cn,cse,cst,⟨A,n,cc⟩,cs,ct,cpa,cpl,csi,cq,cpy⟩) 26))=W at hx0 hB HE ⊢
 clear hW
 generalize w.heap.size=pb at hB ⊢
 have hC:=J hB
 have HX0:=J hx0
 clear hB hx0
 go_wp2_with fail
 go_loopw [3,4] (fun t3 t4 wr=>∃ (j:Nat),j≤n∧t4=.int .i64 j∧t3=.int .i64 (w64 (cells (p.vars.take j)))∧Ext W wr) (fun _ t4 _=>n - (intOf t4).toNat)
 case atStart=>exact ⟨0,Nat.zero_le _,rfl,by simp [cells,w64_def],kR _ _⟩
 case round =>
  obtain ⟨j,hj,rfl,rfl,hx⟩:=hrel
  have HX:=J hx
  have hcr:=bC (bX hC.out hx)
  have hlr:=(bX hC.out hx).lt
  clear hx
  by_cases hlt:j < n
  ·have hjl:j < p.vars.length:=by have:=HN.out;omega
   have hltI:(j:Int) < n:=by omega
   obtain rfl:=HA.out zb85
   refine zy70 ?_;intro hrow hh' hg' hbw
   obtain ⟨x,hxe⟩:∃ x,x=p.vars[j]:=⟨_,rfl⟩
   rw [← hxe] at hg'
   have HXE:=J hxe
   clear hrow hxe
   go_wp2_with fail
   refine (cells_any x _).mono ?_
   rintro e w1 ⟨rfl,hx1⟩
   go_wp2_with fail
   go_roundw
   case rel=>exact ⟨j+1,hlt,by go_num,by rw [cells_take hjl,← HXE.out];simp only [w64_w64],HX.out.trans hx1⟩
   case measure=>simp only [intOf];omega
  ·obtain rfl:j=n:=by omega
   go_wp2_with fail
   go_ret
   refine ⟨ret_int ?_,HX0.out.trans HX.out⟩
   rw [HN.out,List.take_length,w64_cells (by have:=HN.out;omega)]
open Go.RowKit So
theorem ret_ici {P:Program} {fn:Func} {R:Ending→World→Prop} {a:Act} {w:World} {i p k:Tmp} {ty t:TypeId} {g:Nat} {cs:Array Value}
 (hres:fn.results=#[.tmp i,.cell p ty,.tmp k]) (hd:a.defers=[]) (hp:a.tmps.getD p undef=.pointer (some ⟨g,0,none⟩)) (ha:aggT P ty=true) (hs:sizeT P ty=some cs.size) (hb:Blk w g t cs)
 (hR:R (.returned (.tuple #[a.tmps.getD i undef,.agg cs,a.tmps.getD k undef])) w):bodyPost P fn R .ret a w:=by
 exact zz86
abbrev cellRes (l:List Vr) (s:Str):Ending:=.returned (.tuple #[.int .i64 (cellN l s),.agg (vcells (cellX l s)),.bool (l.any (fun v=>decide (v.name=s)))])
set_option maxRecDepth 100000 in
theorem scell_any (c:Pc) (p:Pr) (s:Str) (N:Nat) (w:World) (_hN:N≤w.heap.size) (h:PAt w N c p):Calls Tryz.prog 84 #[.agg c.cells,.string s] w fun e w'=>e=cellRes p.vars s∧Ext w w':=by
 obtain ⟨cn,cse,cst,⟨A,n,cc⟩,cs,ct,cpa,cpl,csi,cq,cpy⟩:=c
 have hx0:=((kR (fun _=>False) w).alloc (.cells (Pc.cells ⟨cn,cse,cst,⟨A,n,cc⟩,cs,ct,cpa,cpl,csi,cq,cpy⟩) 57)).alloc (.cells #[.string ⟨#[]⟩,.int .i64 0,.int .i64 0,.int .i64 0] 109)
 have hR:=Blk.new' (w.alloc (.cells (Pc.cells ⟨cn,cse,cst,⟨A,n,cc⟩,cs,ct,cpa,cpl,csi,cq,cpy⟩) 57)) 109 #[.string ⟨#[]⟩,.int .i64 0,.int .i64 0,.int .i64 0] (w.heap.size+1) zb86
 obtain ⟨hn,hf,hok,b,off,hA,hE⟩:=h.vars.ext hx0
 refine zy25 ?_;intro hm HN HA HE
 clear hn hA hE hok hf h
 go_enter Tryz.func84,Tryz.ntmps84
 go_upto_region 3 with (fail)
 have HRW:=J (show w.heap.size≤w.heap.size+1 by omega)
 generalize hW:((w.alloc (.cells (Pc.cells ⟨cn,cse,cst,⟨A,n,cc⟩,cs,ct,cpa,cpl,csi,cq,cpy⟩) 57)).alloc (.cells #[.string ⟨#[]⟩,.int .i64 0,.int .i64 0,.int .i64 0] 109))=W at hx0 hR HE ⊢
 clear hW
 have hD:=J hR
 have HX0:=J hx0
 clear hR hx0
 go_loopw [7,13] (fun t7 t13 wr=>∃ (j:Nat),j≤n∧t13=.int .i64 j∧t7=.int .i64 (w64 (cells (p.vars.take j)))∧(∀ v ∈ p.vars.take j,¬ v.name=s)∧Ext W wr) (fun _ t13 _=>n - (intOf t13).toNat)
 case atStart=>exact ⟨0,Nat.zero_le _,rfl,by simp [cells,w64_def],by simp,kR _ _⟩
 case round =>
  obtain ⟨j,hj,rfl,rfl,hno,hx⟩:=hrel
  have HX:=J hx
  have HNO:=J hno
  have hDr:=bX hD.out hx
  have hmr:=hDr.melts
  have hhr:=bH hDr
  have hlr:=hDr.lt
  clear hx hno
  by_cases hlt:j < n
  ·have hjl:j < p.vars.length:=by have:=HN.out;omega
   have hltI:(j:Int) < n:=by omega
   obtain rfl:=HA.out zb85
   refine zy70 ?_;intro hrow hh' hg' hbw
   obtain ⟨x,hxe⟩:∃ x,x=p.vars[j]:=⟨_,rfl⟩
   rw [← hxe] at hg'
   have HXE:=J hxe
   clear hrow hxe
   by_cases hq:x.name=s
   ·have hb:=str_same hq
    have HQ:=J (cell_at HNO.out hjl zb64)
    clear hq
    go_upto_region 6 with (fail)
    have y0:Ext wr _:=(kR (fun _=>False) wr).alloc (.cells (vcells x) 109)
    have hV:=bN wr 109 (vcells x)
    have hne:¬ wr.heap.size=w.heap.size+1:=by omega
    generalize hW2:(wr.alloc (.cells (vcells x) 109))=W2 at y0 hV ⊢
    clear hW2 hmr hhr hlr hDr hh' hg'
    obtain ⟨rb,hrb⟩:∃ rb,rb=w.heap.size+1:=⟨_,rfl⟩
    generalize wr.heap.size=vb at hV hne ⊢
    have hV2:=J hV
    have HRB:=J hrb
    rw [← hrb] at hne ⊢
    have HNE:=J hne
    have HY:=J (HX.out.trans y0)
    have hDy:=bX hD.out HY.out
    rw [← hrb] at hDy
    have HDY:=J hDy
    clear hV hrb hne y0 hDy
    refine qr3 (fun w1=>Kept (·=rb) W2 w1) [(0,2),(1,1),(2,2),(3,0),(4,2)] ?_;refine qrl ?_
    have HY0:=J (show Ext W2 W2.drew from (kR _ W2).drew)
    (repeat first|refine qs3 ?_|refine qt3 (Kept.ext HY0.out) (by intro w1 hS;have d0:=bK hV2.out hS HNE.out;have d1:=bG d0;have d2:=bH d0;have d3:=d0.lt;exact zgo) ?_|refine qp3 (Kept.ext HY0.out) ?_)
    have hm2:=(bX HDY.out HY0.out).melts
    have hh2:=bH (bX HDY.out HY0.out)
    (refine w3_act (fun K hK=>?_);go_simp)
    refine hK.out _ _ (fun _=>Kept.putAt (Kept.ext HY0.out) _ _ _ (fun _=>rfl)) ?_
    clear hK K
    refine qf3 ?_
    go_wp2_with fail
    refine ret_ici Tryz.results84 rfl rfl aggVarS (by exact sizeVarS) (Blk.put_ (bX HDY.out HY0.out) _ _) ⟨?_,?_⟩
    ·obtain ⟨q1,q2,q3⟩:=HQ.out
     unfold cellRes
     rw [q1,q2,q3,← HXE.out,w64_cells (by rw [List.length_take];omega)]
     simp [splice]
    ·exact ((HX0.out.trans HY.out).trans HY0.out).putAt _ _ _ (fun hlt=>absurd hlt (by have:=HRB.out;omega))
   ·have hb:=str_other hq
    have HQ:=J (no_next HNO.out hjl zb64)
    clear hq
    have y0:Ext wr _:=(kR (fun _=>False) wr).alloc (.cells (vcells x) 109)
    go_wp2_with fail
    refine (size_any x _).mono ?_
    rintro e w1 ⟨rfl,hx1⟩
    go_wp2_with fail
    go_roundw
    case rel=>exact ⟨j+1,hlt,by go_num,by rw [cells_take hjl,← HXE.out];simp only [w64_w64],HQ.out,HX.out.trans (y0.trans hx1)⟩
    case measure=>simp only [intOf];omega
  ·obtain rfl:j=n:=by omega
   go_wp2_with fail
   refine ret_ici Tryz.results84 rfl rfl aggVarS (by exact sizeVarS) (Blk.put_ hDr _ _) ⟨?_,?_⟩
   ·obtain ⟨q1,q2,q3⟩:=cell_no (l:=p.vars) (s:=s) (by have h:=HNO.out;rw [HN.out,List.take_length] at h;exact h)
    unfold cellRes
    rw [q1,q2,q3]
    simp [splice,E0]
   ·exact (HX0.out.trans HX.out).putAt _ _ _ (fun hlt=>absurd hlt zb85)
set_option maxRecDepth 100000 in
theorem rcell_any (c:Pc) (p:Pr) (s:Str) (N:Nat) (w:World) (hN:N≤w.heap.size) (h:PAt w N c p):Calls Tryz.prog 118 #[.agg c.cells,.string s] w fun e w'=>e=cellRes p.vars s∧Ext w w':=by
 obtain ⟨cn,cse,cst,⟨A,n,cc⟩,cs,ct,cpa,cpl,csi,cq,cpy⟩:=c
 have hx0:=((kR (fun _=>False) w).alloc (.cells (Pc.cells ⟨cn,cse,cst,⟨A,n,cc⟩,cs,ct,cpa,cpl,csi,cq,cpy⟩) 26)).alloc (.cells #[.string ⟨#[]⟩,.int .i64 0,.int .i64 0,.int .i64 0] 66)
 have hR:=Blk.new' (w.alloc (.cells (Pc.cells ⟨cn,cse,cst,⟨A,n,cc⟩,cs,ct,cpa,cpl,csi,cq,cpy⟩) 26)) 66 #[.string ⟨#[]⟩,.int .i64 0,.int .i64 0,.int .i64 0] (w.heap.size+1) zb86
 have hB:=(bN w 26 (Pc.cells ⟨cn,cse,cst,⟨A,n,cc⟩,cs,ct,cpa,cpl,csi,cq,cpy⟩)).alloc (.cells #[.string ⟨#[]⟩,.int .i64 0,.int .i64 0,.int .i64 0] 66)
 obtain ⟨hn,hf,hok,b,off,hA,hE⟩:=h.vars.ext hx0
 refine zy25 ?_;intro hm HN HA HE
 clear hn hA hE hok hf h
 go_enter Tryz.func118,Tryz.ntmps118
 go_upto_region 3 with (fail)
 obtain ⟨rb,hrb⟩:∃ rb,rb=w.heap.size+1:=⟨_,rfl⟩
 obtain ⟨pb,hpb⟩:∃ pb,pb=w.heap.size:=⟨_,rfl⟩
 rw [← hrb] at hR
 rw [← hpb] at hB
 simp only [← hrb]
 simp only [← hpb]
 have hne:¬ pb=rb:=by omega
 have HRW:=J (show w.heap.size≤rb by omega)
 have HBN:=J (show 0 < n→¬ b=rb from fun h0=>by have:=(HE.out h0).1;omega)
 generalize hW:((w.alloc (.cells (Pc.cells ⟨cn,cse,cst,⟨A,n,cc⟩,cs,ct,cpa,cpl,csi,cq,cpy⟩) 26)).alloc (.cells #[.string ⟨#[]⟩,.int .i64 0,.int .i64 0,.int .i64 0] 66))=W at hx0 hR HE hB ⊢
 clear hW hrb hpb
 have hD:=J hR
 have hC:=J hB
 have HX0:=J hx0
 have HNE:=J hne
 clear hR hx0 hB hne
 go_loopw [7,8] (fun t7 t8 wr=>∃ (j:Nat),j≤n∧t8=.int .i64 j∧t7=.int .i64 (w64 (cells (p.vars.take j)))∧(∀ v ∈ p.vars.take j,¬ v.name=s)∧Ext W wr) (fun _ t8 _=>n - (intOf t8).toNat)
 case atStart=>exact ⟨0,Nat.zero_le _,rfl,by simp [cells,w64_def],by simp,kR _ _⟩
 case round =>
  obtain ⟨j,hj,rfl,rfl,hno,hx⟩:=hrel
  have HX:=J hx
  have HNO:=J hno
  have hDr:=bX hD.out hx
  have hmr:=hDr.melts
  have hhr:=bH hDr
  have hlr:=hDr.lt
  have hcr:=bC (bX hC.out hx)
  have hlc:=(bX hC.out hx).lt
  clear hx hno
  by_cases hlt:j < n
  ·have hjl:j < p.vars.length:=by have:=HN.out;omega
   have hltI:(j:Int) < n:=by omega
   obtain rfl:=HA.out zb85
   refine zy70 ?_;intro hrow hh' hg' hbw
   obtain ⟨x,hxe⟩:∃ x,x=p.vars[j]:=⟨_,rfl⟩
   rw [← hxe] at hg'
   have hc0:=cell_gets0 hh' hg' zb85
   have HXE:=J hxe
   have HB2:=J (HBN.out zb85)
   clear hrow hxe
   by_cases hq:x.name=s
   ·have hb:=str_same hq
    have HQ:=J (cell_at HNO.out hjl zb64)
    clear hq
    go_upto_region 6 with (fail)
    have HH:=J hh'
    have HG:=J hg'
    have HCR:=J (bX hC.out HX.out)
    have HDR:=J hDr
    clear hh' hg' hmr hhr hlr hcr hlc hc0 hDr
    refine qr3 (fun w1=>Kept (·=rb) wr w1) [(0,2),(1,2),(2,1),(3,2),(4,2),(5,1),(6,2),(7,0),(8,2)] ?_;refine qrl ?_
    have HY0:=J (show Ext wr wr.drew from (kR _ wr).drew)
    (repeat first|refine qs3 ?_|refine qt3 (Kept.ext HY0.out) (by intro w1 hS;have d0:=bK HCR.out hS HNE.out;have d1:=bC d0;have d3:=d0.lt;have d4:=(has_keep (o:=off+j * 4) (n:=4) hS hbw HB2.out).trans HH.out;have d5:=(gets_keep (o:=off+j * 4) (n:=4) hS hbw HB2.out).trans HG.out;have d6:=Nat.lt_of_lt_of_le hbw hS.size;exact zgo) ?_|refine qp3 (Kept.ext HY0.out) ?_)
    have hm2:=(bX HDR.out HY0.out).melts
    have hh2:=bH (bX HDR.out HY0.out)
    (refine w3_act (fun K hK=>?_);go_simp)
    refine hK.out _ _ (fun _=>Kept.putAt (Kept.ext HY0.out) _ _ _ (fun _=>rfl)) ?_
    clear hK K
    refine qf3 ?_
    go_wp2_with fail
    refine ret_ici Tryz.results118 rfl rfl aggVarR (by exact sizeVarR) (Blk.put_ (bX HDR.out HY0.out) _ _) ⟨?_,?_⟩
    ·obtain ⟨q1,q2,q3⟩:=HQ.out
     unfold cellRes
     rw [q1,q2,q3,← HXE.out,w64_cells (by rw [List.length_take];omega)]
     simp [splice]
    ·exact ((HX0.out.trans HX.out).trans HY0.out).putAt _ _ _ (fun hlt=>absurd hlt zb70)
   ·have hb:=str_other hq
    have HQ:=J (no_next HNO.out hjl zb64)
    clear hq
    go_wp2_with fail
    refine (cells_any x _).mono ?_
    rintro e w1 ⟨rfl,hx1⟩
    go_wp2_with fail
    go_roundw
    case rel=>exact ⟨j+1,hlt,by go_num,by rw [cells_take hjl,← HXE.out];simp only [w64_w64],HQ.out,HX.out.trans hx1⟩
    case measure=>simp only [intOf];omega
  ·obtain rfl:j=n:=by omega
   go_wp2_with fail
   refine ret_ici Tryz.results118 rfl rfl aggVarR (by exact sizeVarR) (Blk.put_ hDr _ _) ⟨?_,?_⟩
   ·obtain ⟨q1,q2,q3⟩:=cell_no (l:=p.vars) (s:=s) (by have h:=HNO.out;rw [HN.out,List.take_length] at h;exact h)
    unfold cellRes
    rw [q1,q2,q3]
    simp [splice,E0]
   ·exact (HX0.out.trans HX.out).putAt _ _ _ (fun hlt=>absurd hlt zb70)
open Go.RowKit So
def StrSl (w:World) (N:Nat) (A:Option Addr) (n:Nat) (l:List Str):Prop:=n=l.length∧n≤100∧∃ b off,(0 < n→A=some ⟨b,off,none⟩)∧(0 < n→b < N∧Row w b off (l.map Value.string))
theorem StrSl.kept {S:Nat→Prop} {w w':World} {N:Nat} {A:Option Addr} {n:Nat} {l:List Str} (h:StrSl w N A n l) (hk:Kept S w w') (hs:∀ i,S i→N≤i):StrSl w' N A n l:=by
 obtain ⟨h1,h2,b,off,h4,h5⟩:=h
 exact ⟨h1,h2,b,off,h4,fun h0=>⟨(h5 h0).1,(h5 h0).2.kept hk (fun q=>by have:=hs b q;have:=(h5 h0).1;omega)⟩⟩
theorem StrSl.ext {w w':World} {N:Nat} {A:Option Addr} {n:Nat} {l:List Str} (h:StrSl w N A n l) (hk:Ext w w'):StrSl w' N A n l:=h.kept hk (fun _ f=>f.elim)
theorem StrSl.mono {w:World} {N N':Nat} {A:Option Addr} {n:Nat} {l:List Str} (h:StrSl w N A n l) (hN:N≤N'):StrSl w N' A n l:=by
 obtain ⟨h1,h2,b,off,h4,h5⟩:=h
 exact ⟨h1,h2,b,off,h4,fun h0=>⟨Nat.lt_of_lt_of_le (h5 h0).1 hN,(h5 h0).2⟩⟩
theorem str_at {w:World} {b off:Nat} {l:List Str} (h:Row w b off (l.map Value.string)) (j:Nat) (hj:j < l.length):w.cell? ⟨b,off+j,none⟩=some (.string l[j]):=by
 rw [h.cell j (by simpa using hj)]
 simp [hj]
abbrev knCells (c:Pc) (A:Option Addr) (n k:Nat):Array Value:=#[.string c.name,.int .i64 c.seats,c.stakes.v,c.vars.v,c.start.v,c.turn.v,c.params.v,c.play.v,.string c.silent,c.quiet.v,c.pays.v,.slice A n k]
theorem updAll_nil (κ:Kn):updAll κ []=κ:=by funext t;simp [updAll]
set_option maxRecDepth 100000 in
theorem sort_any (c:Pc) (p:Pr) (A:Option Addr) (n k:Nat) (l:List Str) (s:Str) (N:Nat) (w:World) (hN:N≤w.heap.size) (h:PAt w N c p) (hl:StrSl w N A n l):Calls Tryz.prog 169 #[.agg (knCells c A n k),.string s] w fun e w'=>e=.returned (.int .i64 (updAll (knV p.vars) l s))∧Ext w w':=by
 obtain ⟨r,hr⟩:∃ r,r=updAll (knV p.vars) l s:=⟨_,rfl⟩
 rw [← hr]
 have HR0:=J hr
 clear hr
 have hx0:=(kR (fun _=>False) w).alloc (.cells (knCells c A n k) 120)
 have hB:=bN w 120 (knCells c A n k)
 have HP:=J (h.ext hx0 hN)
 obtain ⟨hn,hm,b,off,hA,hE⟩:=hl.ext hx0
 have HN:=J hn
 have HA:=J hA
 have HE:=J hE
 have hNa:=J (Nat.le_trans hN hx0.size)
 clear hn hA hE h hl
 go_enter Tryz.func169,Tryz.ntmps169
 go_upto_region 1 with (fail)
 generalize hW:(w.alloc (.cells (knCells c A n k) 120))=W at hx0 hB HE HP hNa ⊢
 clear hW
 have HX0:=J hx0
 generalize w.heap.size=pb at hB ⊢
 have hC:=J hB
 clear hB hx0
 go_wp2_with fail
 go_loopw [5] (fun t5 wr=>∃ (j:Nat),j≤n∧t5=.int .i64 j∧(∀ v ∈ l.take j,¬ v=s)∧W=wr) (fun t5 _=>n - (intOf t5).toNat)
 case atStart=>exact ⟨0,Nat.zero_le _,rfl,by simp,rfl⟩
 case round =>
  obtain ⟨j,hj,rfl,hno,hw⟩:=hrel
  subst hw
  have HNO:=J hno
  clear hno
  have hcr:=bC hC.out
  have hlr:=hC.out.lt
  by_cases hlt:j < n
  ·have hjl:j < l.length:=by have:=HN.out;omega
   have hltI:(j:Int) < n:=by omega
   obtain rfl:=HA.out zb85
   have hrow:=(HE.out zb85).2
   have hc:=str_at hrow j hjl
   have hbw:=hrow.lt
   obtain ⟨x,hxe⟩:∃ x,x=l[j]:=⟨_,rfl⟩
   rw [← hxe] at hc
   have HX:=J hxe
   clear hrow hxe
   by_cases hq:x=s
   ·have hb:=str_same hq
    have HQ:=J hq
    clear hq
    go_wp2_with fail
    go_ret
    refine ⟨ret_int ?_,HX0.out⟩
    have:l.any (fun t=>decide (t=s))=true:=by
     rw [List.any_eq_true]
     exact ⟨x,by rw [HX.out];exact List.getElem_mem hjl,decide_eq_true HQ.out⟩
    rw [HR0.out]
    unfold updAll
    rw [if_pos this]
    rfl
   ·have hb:=str_other hq
    exact zz51
  ·obtain rfl:j=n:=by omega
   have hno:l.any (fun t=>decide (t=s))=false:=by
    rw [List.any_eq_false]
    intro v hv
    have:=HNO.out v zb50
    simpa using this
   have hrr:r=if p.vars.any (fun v=>decide (v.name=s))=true then (if 0 < (cellX p.vars s).size then 2 else 1) else 0:=by
    rw [HR0.out,← knV_cell]
    unfold updAll
    rw [if_neg (by rw [hno];exact Bool.false_ne_true)]
   have HR:=J hrr
   clear hno hrr
   have hgr:=bG hC.out
   have hhr:=bH hC.out
   go_wp2_with fail
   refine (rcell_any c p s N _ hNa.out HP.out).mono ?_
   rintro e w1 ⟨rfl,hx1⟩
   cases hq:p.vars.any (fun v=>decide (v.name=s))
   ·go_wp2_with fail
    go_ret
    refine ⟨ret_int ?_,?_⟩
    ·have h:=HR.out;rw [hq] at h;rw [h];rfl
    ·exact (HX0.out.trans hx1).alloc _
   ·by_cases hz:0 < (cellX p.vars s).size
    ·go_wp2_with fail
     go_ret
     refine ⟨ret_int ?_,?_⟩
     ·have h:=HR.out;rw [hq,if_pos rfl,if_pos zb85] at h;rw [h];rfl
     ·exact (HX0.out.trans hx1).alloc _
    ·go_wp2_with fail
     go_ret
     refine ⟨ret_int ?_,?_⟩
     ·have h:=HR.out;rw [hq,if_pos rfl,if_neg zb85] at h;rw [h];rfl
     ·exact (HX0.out.trans hx1).alloc _
open Go.RowKit So
theorem guardFaultR:Tryz.prog.eqGuardType Tryz.prog.depth 60=false:=by kernel_rfl
theorem stoodFaultR:Tryz.prog.stoodInHeld 60=false:=by kernel_rfl
theorem guardFaultS:Tryz.prog.eqGuardType Tryz.prog.depth 104=false:=by kernel_rfl
theorem stoodFaultS:Tryz.prog.stoodInHeld 104=false:=by kernel_rfl
theorem toList_iff (s t:ByteArray):s.toList=t.toList ↔ s=t:=by
 rw [ByteArray.toList_eq,ByteArray.toList_eq]
 exact ⟨fun h=>Go.WideShapes.bytes_inj h,fun h=>by rw [h]⟩
theorem eqFaultR (w:World) (a b:Int) (s t:ByteArray):(Op.equalIn 10000 60 (.agg #[.int .i64 a,.string s]) (.agg #[.int .i64 b,.string t])).run Tryz.prog w=.ok (a == b && decide (s=t)) w:=by
 rw [Op.equalIn]
 simp [run_underlying Tryz.underlying60,go_sem]
 by_cases h1:a=b <;> by_cases h2:s=t <;> simp [h1,h2,toList_iff]
theorem eqFaultS (w:World) (a b:Int) (s t:ByteArray):(Op.equalIn 10000 104 (.agg #[.int .i64 a,.string s]) (.agg #[.int .i64 b,.string t])).run Tryz.prog w=.ok (a == b && decide (s=t)) w:=by
 rw [Op.equalIn]
 simp [run_underlying Tryz.underlying104,go_sem]
 by_cases h1:a=b <;> by_cases h2:s=t <;> simp [h1,h2,toList_iff]
attribute [go_sem] guardFaultR guardFaultS eqFaultR eqFaultS
def fltC:Option Flt→Array Value
 | none=>#[.int .i64 0,.string ⟨#[]⟩]
 | some f=>#[.int .i64 f.e,.string f.name]
theorem fltC_none:fltC none=#[.int .i64 0,.string ⟨#[]⟩]:=rfl
theorem fltC_some (e:Int) (s:Str):fltC (some ⟨e,s⟩)=#[.int .i64 e,.string s]:=rfl
attribute [go_sem] fltC_none fltC_some
def NZ (o:Option Flt):Prop:=∀ f,o=some f→¬ f.e=0
theorem nat_beq (a b:Nat):((a:Int) == (b:Int))=(a == b):=by rw [Bool.eq_iff_iff];simp;omega
theorem meet {F M:World→Nat→Prop} {G:Prop} (h:(∀ W g,F W g→M W g)→G) (h2:∀ W g,F W g→M W g):G:=h h2
theorem NZ.none:NZ none:=fun _ h=>by cases h
theorem NZ.some {e:Int} {s:Str} (h:¬ e=0):NZ (some ⟨e,s⟩):=fun f hf=>by cases hf;exact h
theorem NZ.must {ok:Bool} {e:Int} {s:Str} (h:¬ e=0):NZ (must ok e s):=by cases ok <;> simp only [must_true,must_false];exact NZ.some h;exact NZ.none
theorem NZ.ored {a b:Option Flt} (ha:NZ a) (hb:NZ b):NZ (ored a b):=by cases a <;> simp only [ored_none,ored_some];exact hb;exact ha
theorem NZ.ite {c:Prop} [Decidable c] {a b:Option Flt} (ha:NZ a) (hb:NZ b):NZ (if c then a else b):=by split;exact ha;exact hb
theorem nz_head (κ:Kn) (op n:Int) (s:Str) (k:Nat):NZ (head1 κ op n s k):=by
 unfold head1
 exact NZ.ored (NZ.must zb84) (NZ.ite (NZ.must zb84) (NZ.ite (NZ.ored (NZ.must zb84) (NZ.must zb84)) NZ.none))
theorem nz_chkE (κ:Kn):∀ F:EF,NZ (chkE κ F)
 | .nil=>NZ.none
 | .cons op n s k r=>NZ.ored (NZ.ored (nz_head κ op n s k.len) (nz_chkE κ k)) (nz_chkE κ r)
def chk1 (κ:Kn) (op n:Int) (s:Str) (k:EF):Option Flt:=ored (head1 κ op n s k.len) (chkE κ k)
theorem nz_chk1 (κ:Kn) (op n:Int) (s:Str) (k:EF):NZ (chk1 κ op n s k):=NZ.ored (nz_head κ op n s k.len) (nz_chkE κ k)
theorem chkE_cons (κ:Kn) (op n:Int) (s:Str) (k r:EF):chkE κ (.cons op n s k r)=ored (chk1 κ op n s k) (chkE κ r):=rfl
abbrev ExRC (c:Pc) (κ:Kn) (A:Option Addr) (n k:Nat) (w:World) (F:EF):Prop:=∀ (op m:Int) (s:Str) (B:Option Addr) (kn kc N:Nat) (w':World),Ext w w'→N≤w.heap.size→ESl w N B kn F →
 Calls Tryz.prog 151 #[.agg (knCells c A n k),.agg (ecells op m s B kn kc)] w' fun e w2=>e=.returned (.agg (fltC (chk1 κ op m s F)))∧Ext w' w2
set_option maxRecDepth 100000 in
theorem rexpr_any (c:Pc) (p:Pr) (A:Option Addr) (n k:Nat) (l:List Str) (N:Nat) (w0:World) (hN:N≤w0.heap.size) (h:PAt w0 N c p) (hl:StrSl w0 N A n l) (F:EF):ExRC c (updAll (knV p.vars) l) A n k w0 F:=by
 refine ef_ind (C:=ExRC c (updAll (knV p.vars) l) A n k w0) ?_ F
 intro F IH op m s B kn kc N0 w hx0 hN0 hes
 obtain ⟨X,hX⟩:∃ X,X=chk1 (updAll (knV p.vars) l) op m s F:=⟨_,rfl⟩
 rw [← hX]
 obtain ⟨r,hr⟩:∃ r,r=chkE (updAll (knV p.vars) l) F:=⟨_,rfl⟩
 have hX2:X=ored (head1 (updAll (knV p.vars) l) op m s kn) r:=by rw [hX,hr,hes.1];rfl
 have HX2:=J hX2
 have HEQ:=J hr.symm
 clear hX hX2 hr
 obtain ⟨hn,hf,b,off,hA,hE⟩:=hes
 refine zy25 ?_;intro hm HN HA HE
 have HI:=J IH
 have HP:=J h
 have HL:=J hl
 clear hn hA hE IH hf h hl
 have hx1:=(((kR (fun _=>False) w).alloc (.cells (knCells c A n k) 120)).alloc (.cells (ecells op m s B kn kc) 84)).alloc (.cells #[.int .i64 0,.string ⟨#[]⟩] 60)
 have hK1:=((bN w 120 (knCells c A n k)).alloc (.cells (ecells op m s B kn kc) 84)).alloc (.cells #[.int .i64 0,.string ⟨#[]⟩] 60)
 have hE1:=(Blk.new' (w.alloc (.cells (knCells c A n k) 120)) 84 (ecells op m s B kn kc) (w.heap.size+1) zb86).alloc (.cells #[.int .i64 0,.string ⟨#[]⟩] 60)
 have hR1:=Blk.new' ((w.alloc (.cells (knCells c A n k) 120)).alloc (.cells (ecells op m s B kn kc) 84)) 60 #[.int .i64 0,.string ⟨#[]⟩] (w.heap.size+1+1) zb86
 go_enter Tryz.func151,Tryz.ntmps151
 go_upto_region 1 with (fail)
 obtain ⟨rb,hrb⟩:∃ rb,rb=w.heap.size+1+1:=⟨_,rfl⟩
 obtain ⟨eb,heb⟩:∃ eb,eb=w.heap.size+1:=⟨_,rfl⟩
 obtain ⟨pb,hpb⟩:∃ pb,pb=w.heap.size:=⟨_,rfl⟩
 simp only [← hrb]
 rw [← hrb] at hR1
 simp only [← heb]
 rw [← heb] at hE1
 simp only [← hpb]
 rw [← hpb] at hK1
 have HRW:=J (show w.heap.size≤rb by omega)
 generalize hW:(((w.alloc (.cells (knCells c A n k) 120)).alloc (.cells (ecells op m s B kn kc) 84)).alloc (.cells #[.int .i64 0,.string ⟨#[]⟩] 60))=W at hx1 hK1 hE1 hR1 ⊢
 clear hW hrb heb hpb
 have hK0:=J hK1
 have hE0:=J hE1
 have hR0:=J hR1
 have HX0:=J hx1
 have hcE:=bC hE1
 clear hK1 hE1 hR1 hx1
 refine zy72 ?_;intro HY0
 cases hb1:btw op 0 17
 ·have HR:=J (show X=some ⟨3,E0⟩ by rw [HX2.out];unfold head1;rw [hb1];rfl)
  refine zy63 ?_
  refine zy17 ?_
  (refine w3_act (fun K hK=>?_);go_simp)
  refine (in_any _ _ _ _).mono ?_
  rintro e w1 ⟨rfl,rfl⟩
  rw [hb1]
  refine hK.out _ _ (fun _=>HY0.out) ?_
  clear hK K
  refine zy17 ?_
  (refine w3_act (fun K hK=>?_);go_simp)
  refine hK.out _ _ (fun h=>h) ?_
  clear hK K
  exact zz28
 ·refine zy63 ?_
  refine zy17 ?_
  (refine w3_act (fun K hK=>?_);go_simp)
  refine (in_any _ _ _ _).mono ?_
  rintro e w1 ⟨rfl,rfl⟩
  rw [hb1]
  refine hK.out _ _ (fun _=>HY0.out) ?_
  clear hK K
  refine zy17 ?_
  (refine w3_act (fun K hK=>?_);go_simp)
  refine (operands_any _ _).mono ?_
  rintro e w1 ⟨rfl,rfl⟩
  refine hK.out _ _ (fun _=>HY0.out) ?_
  clear hK K
  cases hb2:((kn:Int) == (exprParts op:Int))
  ·have hb2n:((kn:Int) != (exprParts op:Int))=true:=by unfold bne;rw [hb2];rfl
   have HR:=J (show X=some ⟨3,E0⟩ by rw [HX2.out];unfold head1;rw [hb1,← nat_beq,hb2];rfl)
   exact zz28
  ·have hb2n:((kn:Int) != (exprParts op:Int))=false:=by unfold bne;rw [hb2];rfl
   have HX3:Hid (X=ored (if op=0 then must (word m) 2 E0 else if op=1 ∨ op=2 then ored (must (updAll (knV p.vars) l s != 0) 6 s) (must ((updAll (knV p.vars) l s == 2) == (op == 2)) 11 s) else none) r):=J (by rw [HX2.out];unfold head1;rw [hb1,← nat_beq,hb2];rfl)
   refine zy17 ?_
   refine qf3 ?_
   have ys:=HY0.out
   clear hb1 hb2 hb2n
   by_cases ho0:op=0
   ·subst ho0
    have HX4:Hid (X=ored (must (word m) 2 E0) r):=J zb78
    clear HX3
    go_wp2_with fail
    refine (word_any _ _).mono ?_
    rintro e w1 ⟨rfl,rfl⟩
    cases hw:word m
    ·have HR:=J (show X=some ⟨2,E0⟩ by rw [HX4.out,hw];rfl)
     have yr:=ys
     exact zz105
    ·have HXR:=J (show X=r by rw [HX4.out,hw];rfl)
     exact zz3
   ·have q0:(op == 0)=false:=by simpa using ho0
    by_cases ho1:op=1
    ·subst ho1
     have HX4:Hid (X=ored (ored (must (updAll (knV p.vars) l s != 0) 6 s) (must ((updAll (knV p.vars) l s == 2) == false) 11 s)) r):=J zb78
     clear HX3
     have yK:=bX hK0.out ys
     have hgK:=bG yK
     have hhK:=bH yK
     have hlK:=yK.lt
     go_wp2_with fail
     refine zy103 ?_;intro w1 hxs v hv HV yt hcE2
     clear hv hcE hgK hhK hlK yK
     by_cases hv0:v=0
     ·subst hv0
      exact zz42
     ·have qv0:((v:Int) == 0)=false:=by simp;omega
      by_cases hv2:v=2
      ·subst hv2
       have HR:=J (show X=some ⟨11,s⟩ by rw [HX4.out,← HV.out];rfl)
       exact zz54
      ·have qv2:((v:Int) == 2)=false:=by simp;omega
       have HXR:=J (show X=r by rw [HX4.out,← HV.out];have h1:(v == 0)=false:=(by simpa using hv0);have h2:(v == 2)=false:=(by simpa using hv2);simp [h1,h2,bne])
       exact zz2
    ·have q1:(op == 1)=false:=by simpa using ho1
     by_cases ho2:op=2
     ·subst ho2
      have HX4:Hid (X=ored (ored (must (updAll (knV p.vars) l s != 0) 6 s) (must ((updAll (knV p.vars) l s == 2) == true) 11 s)) r):=J zb78
      clear HX3
      have yK:=bX hK0.out ys
      have hgK:=bG yK
      have hhK:=bH yK
      have hlK:=yK.lt
      go_wp2_with fail
      refine zy103 ?_;intro w1 hxs v hv HV yt hcE2
      clear hv hcE hgK hhK hlK yK
      by_cases hv0:v=0
      ·subst hv0
       exact zz42
      ·have qv0:((v:Int) == 0)=false:=by simp;omega
       by_cases hv2:v=2
       ·subst hv2
        have HXR:=J (show X=r by rw [HX4.out,← HV.out];rfl)
        exact zz2
       ·have qv2:((v:Int) == 2)=false:=by simp;omega
        have HR:=J (show X=some ⟨11,s⟩ by rw [HX4.out,← HV.out];have h1:(v == 0)=false:=(by simpa using hv0);have h2:(v == 2)=false:=(by simpa using hv2);simp [h1,h2,bne])
        exact zz54
     ·have q2:(op == 2)=false:=by simpa using ho2
      have HXR:=J (show X=r by rw [HX3.out,if_neg ho0,if_neg zb85];rfl)
      exact zz3
end Go.Proofs.YtbfbabbcdochjaaGreatDoor
