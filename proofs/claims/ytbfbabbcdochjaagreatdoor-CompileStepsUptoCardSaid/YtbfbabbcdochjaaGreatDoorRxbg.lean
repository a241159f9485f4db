/- Several texts joined: Qzr, Ua, Ub, Uc. -/
import Derived.Test.YtbfbabbcdochjaaGreatDoorRows
import Derived.ProofKit
import Derived.OpenShut
import Derived.ShutString
import Derived.ChangeOld
import Derived.ChangeArms
import Derived.Below
import Derived.Deep.Slices
import Derived.Test.YtbfbabbcdochjaaGreatDoorRxpk
import Derived.Test.YtbfbabbcdochjaaGreatDoorRxbf
set_option maxHeartbeats 4000000
namespace Go.Proofs.YtbfbabbcdochjaaGreatDoor
open Go.RowKit Go.Deep Go.ChangeShapes Go.WideShapes So
section
variable {H:Type} {enc:TypeId × Value→H} {P:Program} {w:World} {base:Nat} {held:Bool}
def light (P:Program) (t:TypeId) (d:DataW H):Prop:=(d.weights P t).all (·≤reachBytes)=true
theorem light_all {E:TypeId}:∀ {l:List (DataW H)} (_:(DataW.weightsAll P E l).all (·≤reachBytes)=true),∀ d ∈ l,light P E d
 | [],_,d,hd=>absurd hd zb86
 | x :: l,h,d,hd=>by
  rw [DataW.weightsAll,List.all_append,Bool.and_eq_true] at h
  rcases List.mem_cons.1 hd with rfl | hd
  ·exact h.1
  ·exact light_all h.2 d hd
theorem light_each:∀ {ts:List TypeId} {l:List (DataW H)} (_:(DataW.weightsEach P ts l).all (·≤reachBytes)=true) (i:Nat) (t:TypeId) (d:DataW H),ts[i]?=some t→l[i]?=some d→light P t d
 | [],_,_,i,_,_,ht,_=>absurd ht zb86
 | _ :: _,[],_,i,_,_,_,hd=>absurd hd zb86
 | t :: ts,x :: l,h,i,t',d,ht,hd=>by
  rw [DataW.weightsEach,List.all_append,Bool.and_eq_true] at h
  cases i with
  | zero =>
   simp only [List.getElem?_cons_zero,Option.some.injEq] at ht hd
   subst ht hd
   exact h.1
  | succ i=>exact light_each h.2 i t' d (by simpa using ht) (by simpa using hd)
theorem open_rows2 {T E:TypeId} {sz fuel:Nat} {v:Value} {d:DataW H} {ps:List MemPlace} (hu:P.underlying T=some (.slice E)) (hsz:P.cellsOf E=sz) (hpos:0 < sz) (h:DataW.trod enc P w base (fun _=>true) held fuel T [v]=some (d,ps)) (hw:light P T d) :
 ∃ (A:Option Addr) (b off len cap:Nat) (css:List (List Value)),v=.slice A len cap∧(0 < len→A=some ⟨b,off,none⟩)∧css.length=len∧(0 < len→Row w b off css.flatten) ∧
  (∀ cs ∈ css,cs.length=sz∧∃ n d' ps',n < fuel∧DataW.trod enc P w base (fun _=>true) held n E cs=some (d',ps')∧light P E d')∧len * P.bytesOf E≤reachBytes:=by
 rcases DataW.trod_slice hu h with ⟨hcs,_⟩ | ⟨a,len,cap,elems,rest,n,hfu,hcs,hx,_,hl,hm,hlen,hel,hsp,_⟩
 ·simp at hcs
  exact ⟨none,0,0,0,0,[],hcs,fun h=>by omega,rfl,fun h=>by omega,fun _ h=>by simp at h,by omega⟩
 ·simp at hcs
  obtain ⟨hd,-⟩:=Prod.mk.inj hx
  subst hd
  unfold light at hw
  rw [DataW.weights] at hw
  simp only [hu,List.all_cons,List.all_append,Bool.and_eq_true,decide_eq_true_eq,List.length_map] at hw
  obtain ⟨hw1,hw2,-⟩:=hw
  have hla:=light_all hw2
  rw [hsz] at hel
  have hch:∀ i,∃ cs,i < len→cs.length=sz∧(∃ n d' ps',n < fuel∧DataW.trod enc P w base (fun _=>true) held n E cs=some (d',ps')∧light P E d')∧∀ j,j < sz→w.cell? ((a.add (i * sz)).add j)=cs[j]?:=fun i=>by
   by_cases hil:i < len
   ·have he:=hel i hil
    rw [List.getElem?_eq_getElem zb85,Option.bind_eq_some_iff] at he
    obtain ⟨cs,hc,ht⟩:=he
    obtain ⟨_,hcl,hat⟩:=World.cells?_some hc
    exact ⟨cs,fun _=>⟨hcl,⟨n,elems[i].1,elems[i].2,by omega,ht,hla _ (List.mem_map.2 ⟨elems[i],List.getElem_mem _,rfl⟩)⟩,hat⟩⟩
   ·exact ⟨[],fun h=>absurd h hil⟩
  obtain ⟨C,hC⟩:=Classical.axiomOfChoice hch
  have hsp:0 < len→a=⟨a.block,a.off,none⟩:=fun h0=>by
   exact zz76
  have hlen':∀ cs ∈ (List.range len).map C,cs.length=sz:=fun cs hcs=>by
   simp at hcs
   obtain ⟨i,hil,rfl⟩:=hcs
   exact (hC i hil).1
  refine ⟨some a,a.block,a.off,len,cap,(List.range len).map C,hcs,fun h=>by rw [← hsp h],by simp,fun h0=>?_,fun cs hcs=>⟨hlen' cs hcs,?_⟩,?_⟩
  ·have hfl:=flatten_len _ hlen'
   exact zz37
  ·simp at hcs
   obtain ⟨i,hil,rfl⟩:=hcs
   exact (hC i hil).2.1
  ·refine Nat.le_trans (Nat.mul_le_mul_right _ ?_) hw1
   omega
theorem fields_of {fs:Array Field} {t:TypeId} {fuel:Nat} {cs:List Value} {d:DataW H} {ps:List MemPlace} (hu:P.underlying t=some (.struct fs)) (h:DataW.trod enc P w base (fun _=>true) held fuel t cs=some (d,ps)) (hw:light P t d) :
 ∃ n,fuel=n+1∧cs.length=P.cellsOf t∧∀ (i:Nat) (f:Field),fs[i]?=some f→∃ d' ps',DataW.trod enc P w base (fun _=>true) held n f.type ((cs.drop f.offset).take (P.cellsOf f.type))=some (d',ps')∧light P f.type d':=by
 obtain ⟨xs,n,hfu,hx,hl,hxl,hf⟩:=DataW.trod_struct hu h
 obtain ⟨hd,-⟩:=Prod.mk.inj hx
 subst hd
 unfold light at hw
 rw [DataW.weights] at hw
 simp only [hu] at hw
 refine ⟨n,hfu,hl,fun i f hif=>?_⟩
 have hlt:i < xs.length:=by
  rw [hxl]
  exact (Array.getElem?_eq_some_iff.1 hif).1
 have h1:=hf i f hif
 rw [List.getElem?_eq_getElem hlt] at h1
 refine ⟨xs[i].1,xs[i].2,h1,light_each hw i f.type xs[i].1 ?_ ?_⟩
 ·rw [List.getElem?_map,Array.getElem?_toList,hif];rfl
 ·rw [List.getElem?_map,List.getElem?_eq_getElem hlt];rfl
end
theorem Row.tail {w:World} {b off:Nat} {c r:List Value} (h:Row w b off (c ++ r)):Row w b (off+c.length) r:=by
 obtain ⟨h1,h2⟩:=h.sub c.length r.length zb86
 refine ⟨h1,h2.trans ?_,h.lt⟩
 rw [List.drop_left,List.take_length]
theorem Row.head {w:World} {b off:Nat} {c r:List Value} (h:Row w b off (c ++ r)):Proofs.YtbfbabbcdochjaaGreatDoor.has w b off c.length=true∧gets w b off c.length=c.toArray:=by
 obtain ⟨h1,h2⟩:=h.sub 0 c.length zb86
 refine ⟨h1,h2.trans ?_⟩
 rw [List.drop_zero,List.take_left]
theorem oi64_of {n:Int} (h:Lit.wf (.int .i64 n)=true):i64ok n:=by
 simpa [Lit.wf,IntKind.min,IntKind.max,IntKind.signed,IntKind.bits,i64ok] using h
section
variable {H:Type} {enc:TypeId × Value→H} {w:World} {base:Nat} {held:Bool}
theorem cellsInt:Tryz.prog.cellsOf 3=1:=by kernel_rfl
theorem cellsStr:Tryz.prog.cellsOf 9=1:=by kernel_rfl
theorem cellsSlE:Tryz.prog.cellsOf 82=1:=by kernel_rfl
theorem cellsSlS:Tryz.prog.cellsOf 24=1:=by kernel_rfl
theorem cellsSlV:Tryz.prog.cellsOf 23=1:=by kernel_rfl
theorem cellsSlI:Tryz.prog.cellsOf 22=1:=by kernel_rfl
theorem cellsE:Tryz.prog.cellsOf 84=4:=by kernel_rfl
theorem cellsS:Tryz.prog.cellsOf 86=7:=by kernel_rfl
theorem cellsVr:Tryz.prog.cellsOf 66=4:=by kernel_rfl
theorem cellsP:Tryz.prog.cellsOf 26=11:=by kernel_rfl
theorem bytesE:Tryz.prog.bytesOf 84=56:=by kernel_rfl
theorem bytesS:Tryz.prog.bytesOf 86=112:=by kernel_rfl
theorem bytesV:Tryz.prog.bytesOf 66=40:=by kernel_rfl
theorem bytesI:Tryz.prog.bytesOf 3=8:=by kernel_rfl
abbrev Trd (w:World) (base:Nat) (held:Bool) (enc:TypeId × Value→H) (fuel:Nat) (t:TypeId) (cs:List Value) (d:DataW H) (ps:List MemPlace):Prop:=DataW.trod enc Tryz.prog w base (fun _=>true) held fuel t cs=some (d,ps)∧light Tryz.prog t d
theorem ints_flat:∀ (css:List (List Value)),(∀ cs ∈ css,∃ n:Int,i64ok n∧cs=[.int .i64 n])→∃ l:List Int,l.length=css.length∧(∀ i ∈ l,i64ok i)∧css.flatten=l.map (Value.int .i64)
 | [],_=>⟨[],rfl,by simp,rfl⟩
 | c :: r,h=>by
  obtain ⟨i,hi,rfl⟩:=h c zb86
  obtain ⟨l,hl,ho,he⟩:=ints_flat r (fun cs hcs=>h cs (by simp [hcs]))
  exact ⟨i :: l,by simp [hl],by simp;exact ⟨hi,ho⟩,by rw [List.flatten_cons,he];rfl⟩
theorem ints_of {fuel:Nat} {v:Value} {d:DataW H} {ps:List MemPlace} (hh:Trd w base held enc fuel 22 [v] d ps):∃ A n cap l,v=.slice A n cap∧ISl w w.heap.size A n l:=by
 obtain ⟨h,hw⟩:=hh
 obtain ⟨A,b,off,len,cap,css,rfl,hA,hl,hr,hc,hb⟩:=open_rows2 Tryz.underlying22 cellsInt zb85 h hw
 obtain ⟨l,hll,ho,he⟩:=ints_flat css (fun cs hcs=>by
  obtain ⟨hcl,n,d',ps',hlt,ht,hw'⟩:=hc cs hcs
  obtain ⟨k,e,_,wf⟩:=DataW.trod_int Tryz.underlying3 ht
  exact ⟨k,oi64_of wf,e⟩)
 rw [bytesI] at hb
 exact ⟨A,len,cap,l,rfl,by omega,by unfold Fits;unfold reachBytes at hb;omega,ho,b,off,hA,fun h0=>⟨(hr h0).lt,he ▸ hr h0⟩⟩
end
def exprTab:List Int:=[0,0,1,1,1,2,2,2,2,2,2,2,2,2,2,2,2,2]
def stmtTab:List Int:=[1,2,1,0,0,0,1,0,2,1]
theorem five_blocks {w:World} (h:w.ShapedOpen Tryz.prog):4 < w.heap.size:=by
 obtain ⟨h1,-⟩:=h
 have hs:(((begin Tryz.prog (fun _ _=>0) default).world.heap[4]?).bind Obj.row?).isSome=true:=by kernel_rfl
 obtain ⟨⟨zero,t⟩,hz⟩:=Option.isSome_iff_exists.1 hs
 obtain ⟨cs,hc,-⟩:=h1 4 zero t (of_decide_eq_true zb83) hz
 exact (Array.getElem?_eq_some_iff.1 hc).1
open Go.RowKit So
set_option maxRecDepth 100000 in
theorem names_any (w:World):Calls Tryz.prog 148 #[] w fun e w'=>e=.returned (.slice (some ⟨w.heap.size,0,none⟩) 5 5)∧Ext w w'∧Blk w' w.heap.size 9 #[.string sStart,.string sTurn,.string sPlay,.string sSilent,.string sPay]:=by
 go_enter Tryz.func148,Tryz.ntmps148
 go_wp2_with fail
 go_ret
 exact ⟨rfl,(kR _ w).alloc _,bN w _ _⟩
set_option maxRecDepth 100000 in
theorem rparts_any (k:Nat) (hk:k < 10) (w:World):Calls Tryz.prog 146 #[.int .i64 (k:Int)] w fun e w'=>e=.returned (.int .i64 (stmtParts (k:Int)))∧Ext w w':=by
 have hx:=(kR (fun _=>False) w).alloc (.cells #[.int .i64 1,.int .i64 2,.int .i64 1,.int .i64 0,.int .i64 0,.int .i64 0,.int .i64 1,.int .i64 0,.int .i64 2,.int .i64 1] 3)
 have hkI:(k:Int) < 10:=by omega
 have hc:(w.alloc (.cells #[.int .i64 1,.int .i64 2,.int .i64 1,.int .i64 0,.int .i64 0,.int .i64 0,.int .i64 1,.int .i64 0,.int .i64 2,.int .i64 1] 3)).cell? ⟨w.heap.size,k,none⟩=some (.int .i64 (stmtParts (k:Int))):=by
  rw [bC (bN w _ _)]
  have:∀ k,k < 10→stmtTab[k]?=some ((stmtParts (k:Nat):Nat):Int):=by decide
  have h2:=this k hk
  have h3:(#[Value.int .i64 1,.int .i64 2,.int .i64 1,.int .i64 0,.int .i64 0,.int .i64 0,.int .i64 1,.int .i64 0,.int .i64 2,.int .i64 1]:Array Value)=(stmtTab.map (Value.int .i64)).toArray:=rfl
  rw [h3,List.getElem?_toArray,List.getElem?_map,h2]
  rfl
 go_enter Tryz.func146,Tryz.ntmps146
 go_wp2_with fail
 go_ret
 exact ⟨rfl,hx⟩
open Go.RowKit So
theorem knV_zero (l:List Vr) (s:Str):(knV l s == 0)=!(l.any (fun v=>decide (v.name=s))):=by
 unfold knV
 cases hf:l.find? (fun v=>decide (v.name=s)) with
 | none =>
  have:l.any (fun v=>decide (v.name=s))=false:=by
   rw [List.any_eq_false];intro v hv;exact List.find?_eq_none.1 hf v hv
  rw [this];rfl
 | some v =>
  have:l.any (fun v=>decide (v.name=s))=true:=by
   rw [List.any_eq_true];exact ⟨v,List.mem_of_find?_eq_some hf,List.find?_some (p:=fun v:Vr=>decide (v.name=s)) hf⟩
  rw [this]
  simp only
  split <;> rfl
theorem VSl.take {w:World} {N:Nat} {A:Option Addr} {n:Nat} {l:List Vr} (h:VSl w N A n l) (j:Nat) (hj:j≤n):VSl w N A j (l.take j):=by
 obtain ⟨h1,h2,h3,b,off,h4,h5⟩:=h
 refine ⟨by rw [List.length_take];omega,?_,fun v hv=>h3 v (List.mem_of_mem_take hv),b,off,fun h0=>h4 zb85,fun h0=>⟨(h5 zb85).1,?_⟩⟩
 ·unfold Fits at h2 ⊢
  have:j * 40≤n * 40:=Nat.mul_le_mul_right _ hj
  omega
 ·have hr:=(h5 zb85).2
  have hs:=hr.sub 0 (j * 4) (by rw [rowsL_len (f:=vcells) (k:=4) (fun _=>rfl)];omega)
  have he:(rowsL vcells l).take (j * 4)=rowsL vcells (l.take j):=by
   have e1:rowsL vcells l=rowsL vcells (l.take j) ++ rowsL vcells (l.drop j):=by rw [rowsL_app,List.take_append_drop]
   have e2:(rowsL vcells (l.take j)).length=j * 4:=by rw [rowsL_len (f:=vcells) (k:=4) (fun _=>rfl),List.length_take];rw [Nat.min_eq_left zb85]
   rw [e1,← e2,List.take_left]
  have e3:(rowsL vcells (l.take j)).length=j * 4:=by rw [rowsL_len (f:=vcells) (k:=4) (fun _=>rfl),List.length_take];rw [Nat.min_eq_left zb85]
  rw [Nat.add_zero,List.drop_zero,he] at hs
  exact ⟨by rw [e3];exact hs.1,by rw [e3];exact hs.2,hr.lt⟩
set_option maxRecDepth 100000 in
theorem rvars_any (l:List Vr) (A:Option Addr) (n c N:Nat) (w:World) (hcap:n≤c) (hN:N≤w.heap.size) (h:VSl w N A n l):Calls Tryz.prog 51 #[.slice A n c] w fun e w'=>e=.returned (.agg (fltC (ored (chkVars [] l) (must (decide (cells l≤64)) 8 sVar))))∧Ext w w':=by
 obtain ⟨X,hX⟩:∃ X,X=ored (chkVars [] l) (must (decide (cells l≤64)) 8 sVar):=⟨_,rfl⟩
 rw [← hX]
 have HX:=J hX.symm
 clear hX
 have hx0:=(kR (fun _=>False) w).alloc (.cells #[.int .i64 0,.string ⟨#[]⟩] 60)
 have hD:=bN w 60 #[.int .i64 0,.string ⟨#[]⟩]
 have HV:=J (h.ext hx0)
 obtain ⟨hn,hf,hok,b,off,hA,hE⟩:=h.ext hx0
 refine zy25 ?_;intro hm HN HA HE
 have HOK:=J hok
 have HNW:=J (Nat.le_trans hN hx0.size)
 clear hn hA hE hok hf h
 go_enter Tryz.func51,Tryz.ntmps51
 go_upto_region 1 with (fail)
 generalize hW:(w.alloc (.cells #[.int .i64 0,.string ⟨#[]⟩] 60))=W at hx0 hD HE HV HNW ⊢
 clear hW
 obtain ⟨rb,hrb⟩:∃ rb,rb=w.heap.size:=⟨_,rfl⟩
 rw [← hrb] at hD ⊢
 have HRW:=J (show w.heap.size≤rb by omega)
 have HD:=J hD
 have HX0:=J hx0
 clear hD hx0 hrb
 go_wp2_with fail
 go_loopw [3,4] (fun t3 t4 wr=>∃ (j:Nat),j≤n∧t4=.int .i64 j∧t3=.int .i64 (w64 (cells (l.take j)))∧ored (chkVars (l.take j) (l.drop j)) (must (decide (cells l≤64)) 8 sVar)=X∧Ext W wr) (fun _ t4 _=>n - (intOf t4).toNat)
 case atStart=>exact ⟨0,Nat.zero_le _,rfl,by simp [cells,w64_def],HX.out,kR _ _⟩
 case round =>
  obtain ⟨j,hj,rfl,rfl,hacc,hx⟩:=hrel
  have HXC:=J hx
  have HACC:=J hacc
  clear hx hacc
  by_cases hlt:j < n
  ·have hjl:j < l.length:=by have:=HN.out;omega
   have hltI:(j:Int) < n:=by omega
   have hjc:(j:Int)≤c:=by omega
   have HJV:=J (HV.out.take j hj)
   obtain rfl:=HA.out zb85
   have hrow:=(HE.out zb85).2.ext HXC.out
   obtain ⟨hh',hg'⟩:=vr_at hrow j hjl
   have hbw:=hrow.lt
   obtain ⟨x,hxe⟩:∃ x,x=l[j]:=⟨_,rfl⟩
   have HVO:=J (HOK.out x zb52)
   have hdrop:l.drop j=x :: l.drop (j+1):=by rw [hxe];exact List.drop_eq_getElem_cons hjl
   have htake:l.take (j+1)=l.take j ++ [x]:=by rw [hxe,List.take_add_one,List.getElem?_eq_getElem hjl];rfl
   have HCT:=J (show cells (l.take (j+1))=cells (l.take j)+So.cellsV x by rw [cells_take hjl,← hxe])
   rw [← hxe] at hg'
   have hacc:=HACC.out
   rw [hdrop] at hacc
   have HTK:=J htake
   obtain ⟨Y,hY⟩:∃ Y,Y=ored (chkVars (l.take j ++ [x]) (l.drop (j+1))) (must (decide (cells l≤64)) 8 sVar):=⟨_,rfl⟩
   have HYE:=J hY
   have HX2:Hid (X=ored (must (isName x.name) 6 x.name) (ored (must (!((l.take j).any (fun v=>decide (v.name=x.name)))) 7 x.name) (ored (must (btw x.size 0 64 && span x) 2 x.name) Y))):=J (by
    rw [← hacc,hY,chkVars,ored_assoc,ored_assoc,ored_assoc,knV_zero])
   clear hrow hxe hacc hdrop htake hY HACC
   have y0:=(kR (fun _=>False) wr).alloc (.cells (vcells x) 66)
   have hV0:=bN wr 66 (vcells x)
   go_upto_region 6 with (fail)
   clear hh' hg' hbw
   have HZ:=J (HXC.out.trans y0)
   generalize hW1:(wr.alloc (.cells (vcells x) 66))=W1 at y0 hV0 HZ ⊢
   generalize wr.heap.size=eb at hV0 ⊢
   have HVB:=J hV0
   clear hW1 y0 hV0 HXC
   have hcV:=bC HVB.out
   have hlV:=HVB.out.lt
   go_wp2_with fail
   refine (risname_any x.name HVO.out.name _).mono ?_
   rintro e w1 ⟨rfl,hx1⟩
   have HXC:=J (HZ.out.trans hx1)
   have HV1:=J (bX HVB.out hx1)
   clear hcV hlV hx1 HVB HZ
   have hcV:=bC HV1.out
   have hlV:=HV1.out.lt
   refine zy84 ?_;intro hDr hmr hhr hlr
   cases hn:isName x.name
   ·have HR:=J (show X=some ⟨6,x.name⟩ by rw [HX2.out,hn,must_false,ored_some])
    exact zz62
   ·have HX3:=J (show X=ored (must (!((l.take j).any (fun v=>decide (v.name=x.name)))) 7 x.name) (ored (must (btw x.size 0 64 && span x) 2 x.name) Y) by rw [HX2.out,hn,must_true,ored_none])
    clear HX2 hn
    clear hDr hmr hhr hlr
    clear hcV hlV
    go_upto_region 8 with (fail)
    refine qr3 (fun w2=>Ext w1 w2) [(0,2),(1,2),(2,2),(3,2),(4,1),(5,0)] ?_;refine qrl ?_
    have HZ0:=J (show Ext w1 w1.drew from (kR _ w1).drew)
    (repeat first|refine qs3 ?_|refine qt3 HZ0.out (by intro w1 hS;have d4:=bX HV1.out hS;have d5:=bC d4;have d6:=d4.lt;exact zgo) ?_|refine qp3 HZ0.out ?_)
    (refine w3_act (fun K hK=>?_);go_simp)
    refine (find_any (l.take j) x.name _ j _ N _ (HJV.out.ext (HXC.out.trans HZ0.out))).mono ?_
    rintro e w2 ⟨rfl,rfl⟩
    refine hK.out _ _ (fun _=>HZ0.out) ?_
    clear hK K
    refine qf3 ?_
    have HXC:=J (HXC.out.trans HZ0.out)
    have HV2:=J (bX HV1.out HZ0.out)
    generalize w1.drew=W2 at HXC HV2 ⊢
    clear HZ0 HV1
    have hcV:=bC HV2.out
    have hlV:=HV2.out.lt
    refine zy84 ?_;intro hDr hmr hhr hlr
    obtain ⟨an,han⟩:∃ an,an=(l.take j).any (fun v=>decide (v.name=x.name)):=⟨_,rfl⟩
    rw [← han] at HX3 ⊢
    clear han
    cases an
    ·have HX4:=J (show X=ored (must (btw x.size 0 64 && (word x.low && word x.high && decide (x.low≤x.high))) 2 x.name) Y by rw [HX3.out,Bool.not_false,must_true,ored_none];rfl)
     clear HX3
     clear hDr hmr hhr hlr
     go_wp2_with fail
     refine (in_any x.size 0 64 _).mono ?_
     rintro e w3 ⟨rfl,rfl⟩
     cases hb:btw x.size 0 64
     ·have HR:=J (show X=some ⟨2,x.name⟩ by rw [HX4.out,hb,Bool.false_and,must_false,ored_some])
      exact zz50
     ·go_wp2_with fail
      refine (word_any x.low _).mono ?_
      rintro e w3 ⟨rfl,rfl⟩
      cases hw1:word x.low
      ·have HR:=J (show X=some ⟨2,x.name⟩ by rw [HX4.out,hb,hw1];rfl)
       exact zz50
      ·go_wp2_with fail
       refine (word_any x.high _).mono ?_
       rintro e w3 ⟨rfl,rfl⟩
       cases hw2:word x.high
       ·have HR:=J (show X=some ⟨2,x.name⟩ by rw [HX4.out,hb,hw1,hw2];rfl)
        exact zz50
       ·have HX5:=J (show X=ored (must (decide (x.low≤x.high)) 2 x.name) Y by rw [HX4.out,hb,hw1,hw2,Bool.true_and,Bool.true_and,Bool.true_and])
        clear HX4 hb hw1 hw2
        by_cases hgt:x.low > x.high
        ·have HR:=J (show X=some ⟨2,x.name⟩ by rw [HX5.out,decide_eq_false zb85,must_false,ored_some])
         exact zz50
        ·have HX6:=J (show X=Y by rw [HX5.out,decide_eq_true zb85,must_true,ored_none])
         have hhV:=bH HV2.out
         have hgV:=bG HV2.out
         go_wp2_with fail
         refine (cells_any x _).mono ?_
         rintro e w4 ⟨rfl,hx4⟩
         go_wp2_with fail
         go_roundw
         case rel=>exact ⟨j+1,hlt,by go_num,by rw [HCT.out];simp only [w64_w64],by rw [HTK.out,← HYE.out,HX6.out],HXC.out.trans hx4⟩
         case measure=>simp only [intOf];omega
    ·have HR:=J (show X=some ⟨7,x.name⟩ by rw [HX3.out,Bool.not_true,must_false,ored_some])
     exact zz62
  ·obtain rfl:j=n:=by omega
   have hXM:X=must (decide (cells l≤64)) 8 sVar:=by rw [← HACC.out,HN.out,List.drop_length];rfl
   have hz:w64 (cells (l.take j))=cells l:=by rw [HN.out,List.take_length,w64_cells (by have:=HN.out;omega)]
   rw [hz]
   have HXM:=J hXM
   obtain ⟨z,hze⟩:∃ z,z=cells l:=⟨_,rfl⟩
   rw [← hze] at HXM ⊢
   clear hz hXM HACC hze
   refine zy84 ?_;intro hDr hmr hhr hlr
   by_cases h64:z > 64
   ·have HR:=J (show X=some ⟨8,sVar⟩ by rw [HXM.out,decide_eq_false zb85,must_false])
    exact zz62
   ·have HR:=J (show X=none by rw [HXM.out,decide_eq_true zb85,must_true])
    clear hDr hmr hhr hlr
    go_wp2_with fail
    refine (fine_any _).mono ?_
    rintro e w2 ⟨rfl,hx2⟩
    have HXC:=J (HXC.out.trans hx2)
    refine zy84 ?_;intro hDr hmr hhr hlr
    clear hx2
    exact zz62
open Go.RowKit So
set_option maxRecDepth 100000 in
theorem rpars_any (c:Pc) (p:Pr) (N:Nat) (w:World) (hN:N≤w.heap.size) (h:PAt w N c p) (hcap:c.params.n≤c.params.c):Calls Tryz.prog 53 #[.agg c.cells] w fun e w'=>e=.returned (.agg (fltC (ored (must (decide (p.params.length≤4)) 8 sPlay) (ored (chkPars (knV p.vars) [] p.params) (ored (must (decide (menu p.params≤512)) 8 sPlay) (ored (must (isName p.silent) 6 p.silent) (must (knV p.vars p.silent == 0) 7 p.silent)))))))∧Ext w w':=by
 obtain ⟨cn,cse,cst,⟨vA,vn,vc⟩,cs,ct,⟨A,n,cc⟩,cpl,csi,cq,cpy⟩:=c
 obtain rfl:csi=p.silent:=h.silent
 obtain ⟨b1,hb1⟩:∃ b,b=isName p.silent:=⟨_,rfl⟩
 obtain ⟨b2,hb2⟩:∃ b,b=p.vars.any (fun v=>decide (v.name=p.silent)):=⟨_,rfl⟩
 obtain ⟨mn,hmn⟩:∃ m,m=menu p.params:=⟨_,rfl⟩
 obtain ⟨M,hM⟩:∃ M,M=ored (must (decide (mn≤512)) 8 sPlay) (ored (must b1 6 p.silent) (must (!b2) 7 p.silent)):=⟨_,rfl⟩
 obtain ⟨X,hX⟩:∃ X,X=ored (must (decide (p.params.length≤4)) 8 sPlay) (ored (chkPars (knV p.vars) [] p.params) M):=⟨_,rfl⟩
 have hXE:X=(ored (must (decide (p.params.length≤4)) 8 sPlay) (ored (chkPars (knV p.vars) [] p.params) (ored (must (decide (menu p.params≤512)) 8 sPlay) (ored (must (isName p.silent) 6 p.silent) (must (knV p.vars p.silent == 0) 7 p.silent))))):=by rw [hX,hM,hmn,hb1,hb2,knV_zero]
 rw [← hXE]
 clear hXE
 have HM:=J hM
 have HB1:=J hb1
 have HB2:=J hb2
 have HMN:=J hmn
 have HX:=J hX
 clear hX hM hb1 hb2 hmn
 have hcap:n≤cc:=hcap
 have hx0:=((kR (fun _=>False) w).alloc (.cells (Pc.cells (⟨cn,cse,cst,⟨vA,vn,vc⟩,cs,ct,⟨A,n,cc⟩,cpl,p.silent,cq,cpy⟩:Pc)) 26)).alloc (.cells #[.int .i64 0,.string ⟨#[]⟩] 60)
 have hB:=(bN w 26 (Pc.cells (⟨cn,cse,cst,⟨vA,vn,vc⟩,cs,ct,⟨A,n,cc⟩,cpl,p.silent,cq,cpy⟩:Pc))).alloc (.cells #[.int .i64 0,.string ⟨#[]⟩] 60)
 have hD:=Blk.new' (w.alloc (.cells (Pc.cells (⟨cn,cse,cst,⟨vA,vn,vc⟩,cs,ct,⟨A,n,cc⟩,cpl,p.silent,cq,cpy⟩:Pc)) 26)) 60 #[.int .i64 0,.string ⟨#[]⟩] (w.heap.size+1) zb86
 refine zy69 ?_;intro HPA HNW
 have HSO:=J h.silentOk
 obtain ⟨hn,hf,hok,b,off,hA,hE⟩:=h.params.ext hx0
 have hm:=hf.max zb85
 have HN:=J (show n=p.params.length from hn)
 have HA:=J hA
 have HE:=J hE
 have HOK:=J hok
 clear hn hA hE hok hf h
 go_enter Tryz.func53,Tryz.ntmps53
 go_upto_region 1 with (fail)
 generalize hW:((w.alloc (.cells (Pc.cells (⟨cn,cse,cst,⟨vA,vn,vc⟩,cs,ct,⟨A,n,cc⟩,cpl,p.silent,cq,cpy⟩:Pc)) 26)).alloc (.cells #[.int .i64 0,.string ⟨#[]⟩] 60))=W at hx0 hB hD HE HPA HNW ⊢
 clear hW
 obtain ⟨rb,hrb⟩:∃ rb,rb=w.heap.size+1:=⟨_,rfl⟩
 rw [← hrb] at hD ⊢
 have HRW:=J (show w.heap.size≤rb by omega)
 have HD:=J hD
 have HX0:=J hx0
 have HB:=J hB
 clear hD hx0 hrb hB
 generalize w.heap.size=pb at HB ⊢
 have HXC:=J (kR (fun _=>False) W)
 refine zy2 ?_;intro hDr hmr hhr hlr hcP hhP hgP hlP
 by_cases h4:(n:Int) > 4
 ·have HR:=J (show X=some ⟨8,sPlay⟩ by rw [HX.out,decide_eq_false (show ¬ p.params.length≤4 by have:=HN.out;omega),must_false,ored_some])
  exact zz63
 ·have HX1:=J (show X=ored (chkPars (knV p.vars) [] p.params) M by rw [HX.out,decide_eq_true (show p.params.length≤4 by have:=HN.out;omega),must_true,ored_none])
  clear HX
  go_wp2_with fail
  clear hDr hmr hhr hlr hcP hhP hgP hlP
  clear HXC
  go_loopw [3] (fun t3 wr=>∃ (j:Nat),j≤n∧t3=.int .i64 j∧ored (chkPars (knV p.vars) (p.params.take j) (p.params.drop j)) M=X∧Ext W wr) (fun t3 _=>n - (intOf t3).toNat)
  case atStart=>exact ⟨0,Nat.zero_le _,rfl,HX1.out.symm,kR _ _⟩
  case round =>
   obtain ⟨j,hj,rfl,hacc,hx⟩:=hrel
   have HXC:=J hx
   have HACC:=J hacc
   clear hx hacc
   refine zy2 ?_;intro hDr hmr hhr hlr hcP hhP hgP hlP
   by_cases hlt:j < n
   ·have hjl:j < p.params.length:=by have:=HN.out;omega
    have hltI:(j:Int) < n:=by omega
    have hjc:(j:Int)≤cc:=by omega
    have HJV:=J (HPA.out.params.take j hj)
    obtain rfl:=HA.out zb85
    have hrow:=(HE.out zb85).2.ext HXC.out
    obtain ⟨hh',hg'⟩:=vr_at hrow j hjl
    have hbw:=hrow.lt
    obtain ⟨x,hxe⟩:∃ x,x=p.params[j]:=⟨_,rfl⟩
    have HVO:=J (HOK.out x zb52)
    have hdrop:p.params.drop j=x :: p.params.drop (j+1):=by rw [hxe];exact List.drop_eq_getElem_cons hjl
    have htake:p.params.take (j+1)=p.params.take j ++ [x]:=by rw [hxe,List.take_add_one,List.getElem?_eq_getElem hjl];rfl
    rw [← hxe] at hg'
    have hacc:=HACC.out
    rw [hdrop] at hacc
    have HTK:=J htake
    obtain ⟨Y,hY⟩:∃ Y,Y=ored (chkPars (knV p.vars) (p.params.take j ++ [x]) (p.params.drop (j+1))) M:=⟨_,rfl⟩
    have HYE:=J hY
    obtain ⟨a1,ha1⟩:∃ a,a=p.vars.any (fun v=>decide (v.name=x.name)):=⟨_,rfl⟩
    obtain ⟨a2,ha2⟩:∃ a,a=(p.params.take j).any (fun v=>decide (v.name=x.name)):=⟨_,rfl⟩
    have HX2:Hid (X=ored (must (isName x.name) 6 x.name) (ored (must (!a1 && !a2) 7 x.name) (ored (must (x.size == 0) 3 x.name) (ored (must (span x) 2 x.name) Y)))):=J (by
     rw [← hacc,hY,chkPars,ored_assoc,ored_assoc,ored_assoc,ored_assoc,knV_zero,ha1,ha2])
    have HA1:=J ha1
    have HA2:=J ha2
    clear hrow hxe hacc hdrop htake hY HACC ha1 ha2
    have y0:=(kR (fun _=>False) wr).alloc (.cells (vcells x) 66)
    have hV0:=bN wr 66 (vcells x)
    go_upto_region 7 with (fail)
    clear hh' hg' hbw
    clear hDr hmr hhr hlr hcP hhP hgP hlP
    have HZ:=J (HXC.out.trans y0)
    generalize hW1:(wr.alloc (.cells (vcells x) 66))=W1 at y0 hV0 HZ ⊢
    generalize wr.heap.size=eb at hV0 ⊢
    have HVB:=J hV0
    clear hW1 y0 hV0 HXC
    have hcV:=bC HVB.out
    have hlV:=HVB.out.lt
    go_wp2_with fail
    refine (risname_any x.name HVO.out.name _).mono ?_
    rintro e w1 ⟨rfl,hx1⟩
    have HXC:=J (HZ.out.trans hx1)
    have HV1:=J (bX HVB.out hx1)
    clear hcV hlV hx1 HVB HZ
    have hcV:=bC HV1.out
    have hlV:=HV1.out.lt
    refine zy2 ?_;intro hDr hmr hhr hlr hcP hhP hgP hlP
    cases hn:isName x.name
    ·have HR:=J (show X=some ⟨6,x.name⟩ by rw [HX2.out,hn,must_false,ored_some])
     exact zz63
    ·have HX3:=J (show X=ored (must (!a1 && !a2) 7 x.name) (ored (must (x.size == 0) 3 x.name) (ored (must (span x) 2 x.name) Y)) by rw [HX2.out,hn,must_true,ored_none])
     clear HX2 hn
     clear hDr hmr hhr hlr hcP hhP hgP hlP
     clear hcV hlV
     go_upto_region 9 with (fail)
     cases a1
     ·refine zy65 ?_;intro HZ0 K hK
      rintro e w2 ⟨rfl,rfl⟩
      rw [← HA1.out]
      refine hK.out _ _ (fun _=>HZ0.out) ?_
      clear hK K
      (repeat first|refine qs3 ?_|refine qt3 HZ0.out zb8 ?_|refine qp3 HZ0.out ?_)
      (refine w3_act (fun K hK=>?_);go_simp)
      refine (find_any (p.params.take j) x.name _ j _ N _ (HJV.out.ext (HXC.out.trans HZ0.out))).mono ?_
      rintro e w2 ⟨rfl,rfl⟩
      rw [← HA2.out]
      refine hK.out _ _ (fun _=>HZ0.out) ?_
      clear hK K
      refine qf3 ?_
      have HXC:=J (HXC.out.trans HZ0.out)
      have HV2:=J (bX HV1.out HZ0.out)
      generalize w1.drew=W2 at HXC HV2 ⊢
      clear HZ0 HV1
      have hcV:=bC HV2.out
      have hlV:=HV2.out.lt
      refine zy2 ?_;intro hDr hmr hhr hlr hcP hhP hgP hlP
      cases a2
      ·have HX4:=J (show X=ored (must (x.size == 0) 3 x.name) (ored (must (word x.low && word x.high && decide (x.low≤x.high)) 2 x.name) Y) by rw [HX3.out];rfl)
       clear HX3
       by_cases hz:x.size=0
       ·have hzb:(x.size == 0)=true:=by simp [hz]
        have HX5:=J (show X=ored (must (word x.low && word x.high && decide (x.low≤x.high)) 2 x.name) Y by rw [HX4.out,hzb,must_true,ored_none])
        clear hzb
        go_wp2_with fail
        refine (word_any x.low _).mono ?_
        rintro e w3 ⟨rfl,rfl⟩
        cases hw1:word x.low
        ·have HR:=J (show X=some ⟨2,x.name⟩ by rw [HX5.out,hw1];rfl)
         exact zz63
        ·go_wp2_with fail
         refine (word_any x.high _).mono ?_
         rintro e w3 ⟨rfl,rfl⟩
         cases hw2:word x.high
         ·have HR:=J (show X=some ⟨2,x.name⟩ by rw [HX5.out,hw1,hw2];rfl)
          exact zz63
         ·have HX6:=J (show X=ored (must (decide (x.low≤x.high)) 2 x.name) Y by rw [HX5.out,hw1,hw2,Bool.true_and,Bool.true_and])
          clear HX4 HX5 hw1 hw2
          by_cases hgt:x.low > x.high
          ·have HR:=J (show X=some ⟨2,x.name⟩ by rw [HX6.out,decide_eq_false zb85,must_false,ored_some])
           exact zz63
          ·have HX7:=J (show X=Y by rw [HX6.out,decide_eq_true zb85,must_true,ored_none])
           go_wp2_with fail
           exact ⟨⟨j+1,hlt,by go_num,by rw [HTK.out,← HYE.out,HX7.out],HXC.out⟩,by simp only [intOf];omega⟩
       ·have hzb:(x.size == 0)=false:=by simp [hz]
        have HR:=J (show X=some ⟨3,x.name⟩ by rw [HX4.out,hzb,must_false,ored_some])
        exact zz63
      ·have HR:=J (show X=some ⟨7,x.name⟩ by rw [HX3.out];rfl)
       exact zz63
     ·refine zy65 ?_;intro HZ0 K hK
      rintro e w2 ⟨rfl,rfl⟩
      rw [← HA1.out]
      refine hK.out _ _ (fun _=>HZ0.out) ?_
      clear hK K
      (repeat first|refine qs3 ?_|refine qt3 HZ0.out zb8 ?_|refine qp3 HZ0.out ?_)
      (refine w3_act (fun K hK=>?_);go_simp)
      refine hK.out _ _ (fun h=>h) ?_
      clear hK K
      refine qf3 ?_
      have HXC:=J (HXC.out.trans HZ0.out)
      have HV2:=J (bX HV1.out HZ0.out)
      generalize w1.drew=W2 at HXC HV2 ⊢
      clear HZ0 HV1
      have hcV:=bC HV2.out
      have hlV:=HV2.out.lt
      refine zy2 ?_;intro hDr hmr hhr hlr hcP hhP hgP hlP
      have HR:=J (show X=some ⟨7,x.name⟩ by rw [HX3.out];rfl)
      exact zz63
   ·obtain rfl:j=n:=by omega
    have HXM:=J (show X=M by rw [← HACC.out,HN.out,List.drop_length];rfl)
    clear HACC
    go_wp2_with fail
    refine (rmenu_any (⟨cn,cse,cst,⟨vA,vn,vc⟩,cs,ct,⟨A,j,cc⟩,cpl,p.silent,cq,cpy⟩:Pc) p N _ (Nat.le_trans HNW.out HXC.out.size) (HPA.out.ext HXC.out HNW.out)).mono ?_
    rintro e w2 ⟨rfl,hx2⟩
    clear hDr hmr hhr hlr hcP hhP hgP hlP
    have HXC:=J (HXC.out.trans hx2)
    clear hx2
    rw [← HMN.out]
    refine zy2 ?_;intro hDr hmr hhr hlr hcP hhP hgP hlP
    by_cases h5:mn > 512
    ·have HR:=J (show X=some ⟨8,sPlay⟩ by rw [HXM.out,HM.out,decide_eq_false zb85,must_false,ored_some])
     exact zz63
    ·have HX5:=J (show X=ored (must b1 6 p.silent) (must (!b2) 7 p.silent) by rw [HXM.out,HM.out,decide_eq_true zb85,must_true,ored_none])
     clear HXM HM
     go_wp2_with fail
     refine (risname_any p.silent HSO.out _).mono ?_
     rintro e w3 ⟨rfl,hx3⟩
     clear hDr hmr hhr hlr hcP hhP hgP hlP
     have HXC:=J (HXC.out.trans hx3)
     clear hx3
     rw [← HB1.out]
     refine zy2 ?_;intro hDr hmr hhr hlr hcP hhP hgP hlP
     cases b1
     ·have HR:=J (show X=some ⟨6,p.silent⟩ by rw [HX5.out,must_false,ored_some])
      exact zz63
     ·have HX6:=J (show X=must (!b2) 7 p.silent by rw [HX5.out,must_true,ored_none])
      go_wp2_with fail
      refine (find_any p.vars p.silent vA vn vc N _ (HPA.out.ext HXC.out HNW.out).vars).mono ?_
      rintro e w4 ⟨rfl,rfl⟩
      rw [← HB2.out]
      cases b2
      ·have HR:=J (show X=none by rw [HX6.out,Bool.not_false,must_true])
       go_wp2_with fail
       refine (fine_any _).mono ?_
       rintro e w5 ⟨rfl,hx5⟩
       clear hDr hmr hhr hlr hcP hhP hgP hlP
       have HXC:=J (HXC.out.trans hx5)
       refine zy2 ?_;intro hDr hmr hhr hlr hcP hhP hgP hlP
       clear hx5
       exact zz63
      ·have HR:=J (show X=some ⟨7,p.silent⟩ by rw [HX6.out,Bool.not_true,must_false])
       exact zz63
end Go.Proofs.YtbfbabbcdochjaaGreatDoor
