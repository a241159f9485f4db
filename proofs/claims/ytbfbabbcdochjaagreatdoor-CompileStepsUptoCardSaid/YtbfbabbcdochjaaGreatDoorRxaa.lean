/- Several texts joined: Base, Ord, Ordo, Allo. -/
import Derived.Test.YtbfbabbcdochjaaGreatDoorRows
import Derived.WalkKit
import Derived.WalkSpells
import Derived.WalkLawsBesides
import Derived.RegionTactic
import Derived.BigRegion
import Derived.Deep.QuietTactic
import Derived.BigQuiet
import Derived.Outline
import Derived.Lib.Hide
import Derived.Deep.RegionWith
import Derived.Deep.LoopGhost
import Derived.Deep.DeepCutAuto
import Derived.StillTailTactics
import Derived.Deep.RegionHeld3
import Derived.OrdersHeld
import Derived.Deep.RegionHeld
import Derived.Test.YtbfbabbcdochjaaGreatDoorRxpk
set_option maxHeartbeats 4000000
namespace Go.Proofs.YtbfbabbcdochjaaGreatDoor
open Go.RowKit
structure Kept (S:Nat→Prop) (w w':World):Prop where
 os:w'.os=w.os
 tape:w'.tape=w.tape
 output:w'.output=w.output
 size:w.heap.size≤w'.heap.size
 block:∀ k,k < w.heap.size→¬ S k→w'.heap[k]?=w.heap[k]?
abbrev Ext (w w':World):Prop:=Kept (fun _=>False) w w'
section
variable {S S':Nat→Prop} {a w w':World}
theorem Kept.refl (S:Nat→Prop) (w:World):Kept S w w:=⟨rfl,rfl,rfl,Nat.le_refl _,fun _ _ _=>rfl⟩
theorem Kept.trans (h:Kept S a w) (k:Kept S w w'):Kept S a w' :=
 ⟨k.os.trans h.os,k.tape.trans h.tape,k.output.trans h.output,Nat.le_trans h.size k.size,
  fun i hi hs=>(k.block i (Nat.lt_of_lt_of_le hi h.size) hs).trans (h.block i hi hs)⟩
theorem Kept.trans' (h:Kept S a w) (k:Kept S' w w') (hs:∀ i,i < a.heap.size→S' i→S i):Kept S a w' :=
 ⟨k.os.trans h.os,k.tape.trans h.tape,k.output.trans h.output,Nat.le_trans h.size k.size,
  fun i hi hn=>(k.block i (Nat.lt_of_lt_of_le hi h.size) (fun e=>hn (hs i hi e))).trans (h.block i hi hn)⟩
theorem Kept.mono (h:Kept S w w') (hs:∀ i,i < w.heap.size→S i→S' i):Kept S' w w' :=
 ⟨h.os,h.tape,h.output,h.size,fun i hi hn=>h.block i hi (fun e=>hn (hs i hi e))⟩
theorem Kept.drew (h:Kept S a w):Kept S a w.drew:=⟨h.os,h.tape,h.output,h.size,h.block⟩
theorem Kept.drewN (h:Kept S a w) (n:Nat):Kept S a (w.drewN n):=⟨h.os,h.tape,h.output,h.size,h.block⟩
theorem Kept.alloc (h:Kept S a w) (o:Obj):Kept S a (w.alloc o) :=
 h.trans ⟨rfl,rfl,rfl,by simp,fun k hk _=>Below.heap_alloc _ _ _ hk⟩
theorem Kept.setCell (h:Kept S a w) (p:Addr) (u:Value) (hp:p.block < a.heap.size→S p.block):Kept S a (w.setCell p u) :=
 h.trans' (S':=(·=p.block)) ⟨rfl,rfl,rfl,by simp [World.setCell],fun k _ hn=>Below.heap_setCell _ _ _ _ hn⟩
  (fun i hi e=>by subst e;exact hp hi)
theorem Kept.ext (h:Ext w w'):Kept S w w':=h.mono fun _ _ f=>f.elim
theorem Kept.below (h:Ext w w'):Below w.heap.size w w':=⟨h.os,h.tape,h.output,h.size,fun k hk=>h.block k hk (fun f=>f)⟩
theorem Kept.of_below (h:Below w.heap.size w w'):Kept S w w':=⟨h.os,h.tape,h.output,h.size,fun k hk _=>h.block k hk⟩
theorem Kept.cell (h:Kept S w w') {p:Addr} (hp:p.block < w.heap.size) (hs:¬ S p.block):w'.cell? p=w.cell? p:=World.cell?_of_block (w:=w) (h.block p.block hp hs)
theorem Kept.frozen (h:Kept S w w') {p:Addr} (hp:p.block < w.heap.size) (hs:¬ S p.block):w'.frozen? p=w.frozen? p:=World.frozen?_of_block (w:=w) (h.block p.block hp hs)
end
def Blk (w:World) (g:Nat) (t:TypeId) (cs:Array Value):Prop:=w.heap[g]?=some (.cells cs t (0,0))
section
variable {w w':World} {g:Nat} {t:TypeId} {cs:Array Value}
theorem Blk.lt (h:Blk w g t cs):g < w.heap.size:=by
 rcases Nat.lt_or_ge g w.heap.size with hlt | hge
 ·exact hlt
 ·unfold Blk at h;rw [Array.getElem?_eq_none hge] at h;cases h
theorem Blk.cell (h:Blk w g t cs) (i:Nat):w.cell? ⟨g,i,none⟩=cs[i]?:=cell_of_row w g i cs t (0,0) h
theorem Blk.frozen (h:Blk w g t cs) (i:Nat):w.frozen? ⟨g,i,none⟩=false:=by
 unfold Blk at h
 simp [World.frozen?,h]
theorem Blk.new (w:World) (t:TypeId) (cs:Array Value):Blk (w.alloc (.cells cs t)) w.heap.size t cs:=heap_alloc_new w _
theorem Blk.new' (w:World) (t:TypeId) (cs:Array Value) (g:Nat) (hg:g=w.heap.size):Blk (w.alloc (.cells cs t)) g t cs:=by subst hg;exact heap_alloc_new w _
theorem Blk.drew (h:Blk w g t cs):Blk w.drew g t cs:=h
theorem Blk.drewN (h:Blk w g t cs) (n:Nat):Blk (w.drewN n) g t cs:=h
theorem Blk.alloc (h:Blk w g t cs) (o:Obj):Blk (w.alloc o) g t cs:=(Below.heap_alloc w o g h.lt).trans h
theorem Blk.set_ (h:Blk w g t cs) (i:Nat) (u:Value):Blk (w.setCell ⟨g,i,none⟩ u) g t (cs.setIfInBounds i u):=by
 unfold Blk at h ⊢
 simp [World.setCell,Array.getElem?_modify,h]
theorem Blk.far (h:Blk w g t cs) {p:Addr} (hp:g ≠ p.block) (u:Value):Blk (w.setCell p u) g t cs:=(Below.heap_setCell w p u g hp).trans h
theorem Blk.kept {S:Nat→Prop} (h:Blk w g t cs) (hk:Kept S w w') (hs:¬ S g):Blk w' g t cs:=(hk.block g h.lt hs).trans h
theorem Blk.ext (h:Blk w g t cs) (hk:Ext w w'):Blk w' g t cs:=h.kept hk (fun f=>f)
theorem Blk.uniq {t':TypeId} {cs':Array Value} (h:Blk w g t cs) (h':Blk w g t' cs'):cs=cs':=by
 unfold Blk at h h'
 rw [h] at h'
 injection h' with h'
 injection h' with h'
end
/-! ### Values of many cells, read and written in one step -/
def splice (c:Array Value) (off:Nat) (vs:Array Value):Array Value:=(c.toList.take off ++ vs.toList ++ c.toList.drop (off+vs.size)).toArray
def has (w:World) (g off n:Nat):Bool:=match w.heap[g]? with | some (.cells c _ _)=>decide (off+n≤c.size) | _=>false
def melts (w:World) (g:Nat):Bool:=match w.heap[g]? with | some (.cells _ _ (0,0))=>true | _=>false
def gets (w:World) (g off n:Nat):Array Value:=match w.heap[g]? with | some (.cells c _ _)=>((c.toList.drop off).take n).toArray | _=>#[]
def putAt (w:World) (g off:Nat) (vs:Array Value):World :=
 { w with heap:=w.heap.modify g fun | .cells c e fr=>.cells (splice c off vs) e fr | o=>o }
def isAt:Value→Bool | .pointer (some ⟨_,_,none⟩)=>true | _=>false
def blkOf:Value→Nat | .pointer (some a)=>a.block | _=>0
def offOf:Value→Nat | .pointer (some a)=>a.off | _=>0
def isAggV:Value→Bool | .agg _=>true | _=>false
def cellsV:Value→Array Value | .agg c=>c | _=>#[]
def flatL:List Value→Bool | []=>true | v :: r=>v.oneCell' && flatL r
theorem flatL_all:∀ {l:List Value},flatL l=true→∀ v ∈ l,v.oneCell'=true
 | [],_,v,hv=>by cases hv
 | x :: r,h,v,hv=>by
  simp only [flatL,Bool.and_eq_true] at h
  cases List.mem_cons.1 hv with
  | inl e=>rw [e];exact h.1
  | inr e=>exact flatL_all h.2 v e
def aggT (P:Program) (ty:TypeId):Bool:=match P.underlying ty with | some (.struct _) | some (.array _ _)=>true | _=>false
def sizeT (P:Program) (ty:TypeId):Option Nat:=(P.info? ty).map (·.size)
theorem putAt_heap_same {w:World} {g off:Nat} {vs c:Array Value} {t:TypeId} {fr:Nat × Nat} (h:w.heap[g]?=some (.cells c t fr)) :
 (putAt w g off vs).heap[g]?=some (.cells (splice c off vs) t fr):=by
 simp [putAt,Array.getElem?_modify,h]
theorem putAt_heap_other {w:World} {g off k:Nat} {vs:Array Value} (h:k ≠ g):(putAt w g off vs).heap[k]?=w.heap[k]?:=by
 simp only [putAt,Array.getElem?_modify];rw [if_neg (fun e=>h e.symm)]
theorem putAt_eq_setRow {w:World} {g off:Nat} {vs c:Array Value} {t:TypeId} {fr:Nat × Nat} (h:w.heap[g]?=some (.cells c t fr)) :
 putAt w g off vs=w.setRow g (splice c off vs):=by
 unfold putAt World.setRow
 congr 1
 apply Array.ext_getElem?
 intro k
 simp only [Array.getElem?_modify]
 by_cases hk:g=k
 ·subst hk;simp [h]
 ·simp [hk]
theorem run_storeAt_big (P:Program) (w:World) (ty:TypeId) (g off:Nat) (vs:Array Value) (hs:sizeT P ty=some vs.size) (hh:has w g off vs.size=true) (hm:melts w g=true)
 (h1:flatL vs.toList=true):(Instr.storeAt ty (.pointer (some ⟨g,off,none⟩)) (.agg vs)).run P w=.ok () (putAt w g off vs):=by
 unfold has at hh
 unfold melts at hm
 split at hh
 ·rename_i c t fr hg
  rw [hg] at hm
  have hfr:fr=(0,0):=by
   revert hm;obtain ⟨a,b⟩:=fr;cases a <;> cases b <;> simp
  subst hfr
  have hst:=run_storeCells_at P g off t vs.toList 0 c w hg (by simpa using of_decide_eq_true hh) (flatL_all h1)
  rw [putAt_eq_setRow hg]
  unfold sizeT at hs
  cases hq:P.info? ty with
  | none=>simp [hq] at hs
  | some i =>
   have hi:i.size=vs.size:=by simpa [hq] using hs
   simp only [Array.length_toList,Nat.add_zero] at hst
   simp [Instr.storeAt,Instr.sureAddr,storeVar,sizeOf,typeInfo,hq,hi,Value.cells,hst,splice]
 ·cases hh
theorem run_loadAt_big (P:Program) (w:World) (ty:TypeId) (g off n:Nat) (ha:aggT P ty=true) (hs:sizeT P ty=some n) (hh:has w g off n=true) :
 (Instr.loadAt ty (.pointer (some ⟨g,off,none⟩))).run P w=.ok (.agg (gets w g off n)) w:=by
 unfold has at hh
 split at hh
 ·rename_i c t fr hg
  have hfit:off+n≤c.size:=of_decide_eq_true hh
  have hl:=run_loadCells_list (P:=P) w ⟨g,off,none⟩ ((c.toList.drop off).take n) (fun j v hv=>by
   have hadd:(⟨g,off,none⟩:Addr).add j=⟨g,off+j,none⟩:=by unfold Addr.add;split <;> simp_all
   rw [hadd,cell_of_row w g _ c t fr hg]
   rw [List.getElem?_take] at hv
   split at hv
   ·rw [List.getElem?_drop] at hv;simpa using hv
   ·cases hv)
  have hlen:((c.toList.drop off).take n).length=n:=by simp;omega
  rw [hlen] at hl
  unfold sizeT at hs
  cases hq:P.info? ty with
  | none=>simp [hq] at hs
  | some i =>
   have hi:i.size=n:=by simpa [hq] using hs
   unfold aggT at ha
   have hagg:(isAgg ty).run P w=.ok true w:=by
    unfold isAgg
    cases hu:P.underlying ty with
    | none=>simp [hu] at ha
    | some d =>
     rw [Sem.run_bind,run_underlying hu w]
     cases d <;> simp_all
   simp [Instr.loadAt,Instr.sureAddr,loadVar,hagg,sizeOf,typeInfo,hq,hi,hl,gets,hg]
 ·cases hh
theorem run_loadVar_big (P:Program) (w:World) (ty:TypeId) (g off n:Nat) (ha:aggT P ty=true) (hs:sizeT P ty=some n) (hh:has w g off n=true) :
 (loadVar ty ⟨g,off,none⟩).run P w=.ok (.agg (gets w g off n)) w:=by
 have h:=run_loadAt_big P w ty g off n ha hs hh
 simpa [Instr.loadAt,Instr.sureAddr] using h
theorem wp_store_big {P:Program} {dst:Option Tmp} {ty ty':TypeId} {x y:Operand} {pos:String} {after:Array Edge} {guard:Option (Nat × Bool)} {a:Act} {w:World} {K:Act→World→Prop} {Q:Exit→Act→World→Prop}
 (hx:isAt (a.eval x)=true) (hy:isAggV (a.eval y)=true) (hs:sizeT P ty=some (cellsV (a.eval y)).size) (hh:has w (blkOf (a.eval x)) (offOf (a.eval x)) (cellsV (a.eval y)).size=true) (hm:melts w (blkOf (a.eval x))=true)
 (h1:flatL (cellsV (a.eval y)).toList=true) :
 Oper.wp P { dst:=dst,op:=.store ty x y,type:=ty',pos:=pos,after:=after,guard:=guard } a w K Q=K (a.put dst undef) (putAt w (blkOf (a.eval x)) (offOf (a.eval x)) (cellsV (a.eval y))):=by
 unfold Oper.wp execOp
 generalize ex:a.eval x=vx at *
 generalize ey:a.eval y=vy at *
 cases vy <;> simp [isAggV] at hy
 unfold isAt at hx
 split at hx
 ·rename_i g off
  have hr:=run_storeAt_big P w ty g off _ hs hh hm h1
  simp only [cellsV] at hr
  simp only [ex,ey,blkOf,offOf,cellsV,hr,Sem.run_bind,Result.andThen_ok,Sem.run_pure,Oper.upon]
 ·cases hx
theorem wp_load_big {P:Program} {dst:Option Tmp} {ty ty':TypeId} {x:Operand} {pos:String} {after:Array Edge} {guard:Option (Nat × Bool)} {a:Act} {w:World} {K:Act→World→Prop} {Q:Exit→Act→World→Prop}
 (n:Nat) (ha:aggT P ty=true) (hs:sizeT P ty=some n) (hx:isAt (a.eval x)=true) (hh:has w (blkOf (a.eval x)) (offOf (a.eval x)) n=true) :
 Oper.wp P { dst:=dst,op:=.load ty x,type:=ty',pos:=pos,after:=after,guard:=guard } a w K Q=K (a.put dst (.agg (gets w (blkOf (a.eval x)) (offOf (a.eval x)) n))) w:=by
 unfold Oper.wp execOp
 generalize ex:a.eval x=vx at *
 unfold isAt at hx
 split at hx
 ·rename_i g off
  have hr:=run_loadAt_big P w ty g off n ha hs hh
  simp only [ex,blkOf,offOf,hr,Sem.run_bind,Result.andThen_ok,Sem.run_pure,Oper.upon]
 ·cases hx
theorem run_exec_load_big {P:Program} {ρ:Operand→Value} {dst:Option Tmp} {ty ty':TypeId} {x:Operand} {pos:String} {after:Array Edge} {guard:Option (Nat × Bool)} {w:World}
 (n:Nat) (ha:aggT P ty=true) (hs:sizeT P ty=some n) (hx:isAt (ρ x)=true) (hh:has w (blkOf (ρ x)) (offOf (ρ x)) n=true) :
 (execOp ρ { dst:=dst,op:=.load ty x,type:=ty',pos:=pos,after:=after,guard:=guard }).run P w=.ok (.value (.agg (gets w (blkOf (ρ x)) (offOf (ρ x)) n))) w:=by
 unfold execOp
 generalize ex:ρ x=vx at *
 unfold isAt at hx
 split at hx
 ·rename_i g off
  have hr:=run_loadAt_big P w ty g off n ha hs hh
  simp only [ex,blkOf,offOf,hr,Sem.run_bind,Result.andThen_ok,Sem.run_pure]
 ·cases hx
section
variable {w w':World} {g off n:Nat} {t:TypeId} {cs vs:Array Value}
attribute [go_sem] isAt blkOf offOf isAggV cellsV flatL Value.oneCell'
@[go_sem] theorem has_alloc_at (hg:g=w.heap.size):has (w.alloc (.cells cs t)) g off n=decide (off+n≤cs.size):=by subst hg;unfold has;rw [heap_alloc_new]
@[go_sem] theorem has_alloc_past (o:Obj) (hg:g < w.heap.size):has (w.alloc o) g off n=has w g off n:=by unfold has;rw [Below.heap_alloc w o g hg]
@[go_sem] theorem has_drew:has w.drew g off n=has w g off n:=rfl
@[go_sem] theorem has_drewN (k:Nat):has (w.drewN k) g off n=has w g off n:=rfl
@[go_sem] theorem melts_alloc_at (hg:g=w.heap.size):melts (w.alloc (.cells cs t)) g=true:=by subst hg;unfold melts;rw [heap_alloc_new];rfl
@[go_sem] theorem melts_alloc_past (o:Obj) (hg:g < w.heap.size):melts (w.alloc o) g=melts w g:=by unfold melts;rw [Below.heap_alloc w o g hg]
@[go_sem] theorem melts_drew:melts w.drew g=melts w g:=rfl
@[go_sem] theorem melts_drewN (k:Nat):melts (w.drewN k) g=melts w g:=rfl
@[go_sem] theorem gets_alloc_at (hg:g=w.heap.size):gets (w.alloc (.cells cs t)) g off n=((cs.toList.drop off).take n).toArray:=by subst hg;unfold gets;rw [heap_alloc_new]
@[go_sem] theorem gets_alloc_past (o:Obj) (hg:g < w.heap.size):gets (w.alloc o) g off n=gets w g off n:=by unfold gets;rw [Below.heap_alloc w o g hg]
@[go_sem] theorem gets_drew:gets w.drew g off n=gets w g off n:=rfl
@[go_sem] theorem gets_drewN (k:Nat):gets (w.drewN k) g off n=gets w g off n:=rfl
@[go_sem] theorem putAt_size:(putAt w g off vs).heap.size=w.heap.size:=by simp [putAt]
@[go_sem] theorem putAt_drew:putAt w.drew g off vs=(putAt w g off vs).drew:=rfl
@[go_sem] theorem putAt_drewN (k:Nat):putAt (w.drewN k) g off vs=(putAt w g off vs).drewN k:=rfl
@[go_sem] theorem putAt_alloc_at (hg:g=w.heap.size):putAt (w.alloc (.cells cs t)) g off vs=w.alloc (.cells (splice cs off vs) t):=by
 subst hg
 unfold putAt World.alloc
 congr 1
 apply Array.ext_getElem?
 intro k
 simp only [Array.getElem?_modify,Array.getElem?_push]
 by_cases hk:k=w.heap.size
 ·subst hk;simp
 ·simp [hk,Ne.symm hk]
@[go_sem] theorem putAt_alloc_past (o:Obj) (hg:g < w.heap.size):putAt (w.alloc o) g off vs=(putAt w g off vs).alloc o:=by
 unfold putAt World.alloc
 congr 1
 apply Array.ext_getElem?
 intro k
 simp only [Array.getElem?_modify,Array.getElem?_push,Array.size_modify]
 by_cases hk:k=w.heap.size
 ·subst hk;simp [Nat.ne_of_lt hg]
 ·simp [hk]
@[go_sem] theorem splice_lit (l l':List Value):splice l.toArray off l'.toArray=(l.take off ++ l' ++ l.drop (off+l'.length)).toArray:=by simp [splice]
theorem splice_size (h:off+vs.size≤cs.size):(splice cs off vs).size=cs.size:=by simp [splice];omega
theorem splice_get_out {i:Nat} (h:off+vs.size≤cs.size) (hi:i < off ∨ off+vs.size≤i):(splice cs off vs)[i]?=cs[i]?:=by
 simp only [splice,List.getElem?_toArray]
 rcases hi with hi | hi
 ·rw [List.append_assoc,List.getElem?_append_left (by simp;omega),List.getElem?_take,if_pos hi];simp
 ·rw [List.getElem?_append_right (by simp;omega),List.getElem?_drop]
  simp only [List.length_append,List.length_take,Array.length_toList]
  rw [show off+vs.size+(i - (min off cs.size+vs.size))=i from by omega];simp
@[go_sem] theorem melts_putAt {k:Nat}:melts (putAt w g off vs) k=melts w k:=by
 by_cases h:k=g
 ·subst h
  simp only [melts,putAt,Array.getElem?_modify,if_true]
  cases hq:w.heap[k]? with
  | none=>rfl
  | some o =>
   cases o
   case cells c e fr=>obtain ⟨lo,hi⟩:=fr;cases lo <;> cases hi <;> rfl
   all_goals rfl
 ·simp only [melts,putAt_heap_other h]
@[go_sem] theorem has_putAt {k o n:Nat} (hh:has w g off vs.size=true):has (putAt w g off vs) k o n=has w k o n:=by
 by_cases h:k=g
 ·subst h
  unfold has at hh ⊢
  simp only [putAt,Array.getElem?_modify,if_true]
  cases hq:w.heap[k]? with
  | none=>simp
  | some ob =>
   rw [hq] at hh
   cases ob <;> simp at hh ⊢
   rw [splice_size hh]
 ·simp only [has,putAt_heap_other h]
@[go_sem] theorem cell_putAt_out {i:Nat} (hh:has w g off vs.size=true) (hi:i < off ∨ off+vs.size≤i):(putAt w g off vs).cell? ⟨g,i,none⟩=w.cell? ⟨g,i,none⟩:=by
 unfold has at hh
 simp only [World.cell?,putAt,Array.getElem?_modify,if_true]
 cases hq:w.heap[g]? with
 | none=>simp
 | some ob =>
  rw [hq] at hh
  cases ob <;> simp at hh ⊢
  rw [splice_get_out hh hi]
@[go_sem] theorem cell_putAt_far {p:Addr} (h:p.block ≠ g):(putAt w g off vs).cell? p=w.cell? p:=by simp only [World.cell?,putAt_heap_other h]
@[go_sem] theorem frozen_putAt {p:Addr}:(putAt w g off vs).frozen? p=w.frozen? p:=by
 by_cases h:p.block=g
 ·simp only [World.frozen?,putAt,Array.getElem?_modify,h,if_true]
  cases hq:w.heap[g]? with
  | none=>simp
  | some ob=>cases ob <;> simp
 ·simp only [World.frozen?,putAt_heap_other h]
theorem splice_drop_take_out {o:Nat} (h:off+vs.size≤cs.size) (hi:o+n≤off ∨ off+vs.size≤o):((splice cs off vs).toList.drop o).take n=(cs.toList.drop o).take n:=by
 apply List.ext_getElem?
 intro j
 rw [List.getElem?_take,List.getElem?_take]
 split
 ·rw [List.getElem?_drop,List.getElem?_drop]
  have:=splice_get_out (cs:=cs) (vs:=vs) (off:=off) (i:=o+j) h zb85
  simpa using this
 ·rfl
theorem splice_drop_take_in (h:off+vs.size≤cs.size) (hn:n=vs.size):((splice cs off vs).toList.drop off).take n=vs.toList:=by
 subst hn
 simp only [splice]
 rw [List.append_assoc,List.drop_append_of_le_length (by simp;omega),List.drop_of_length_le (by simp;omega),List.nil_append,List.take_append_of_le_length zb86,List.take_of_length_le zb86]
@[go_sem] theorem gets_putAt_out {o:Nat} (hh:has w g off vs.size=true) (hi:o+n≤off ∨ off+vs.size≤o):gets (putAt w g off vs) g o n=gets w g o n:=by
 unfold has at hh
 simp only [gets,putAt,Array.getElem?_modify,if_true]
 cases hq:w.heap[g]? with
 | none=>simp
 | some ob =>
  rw [hq] at hh
  cases ob <;> simp at hh ⊢
  have:=splice_drop_take_out (n:=n) hh hi
  simpa using this
@[go_sem] theorem gets_putAt_in (hh:has w g off vs.size=true) (hn:n=vs.size):gets (putAt w g off vs) g off n=vs:=by
 unfold has at hh
 simp only [gets,putAt,Array.getElem?_modify,if_true]
 cases hq:w.heap[g]? with
 | none=>rw [hq] at hh;simp at hh
 | some ob =>
  rw [hq] at hh
  cases ob <;> simp at hh ⊢
  have:=splice_drop_take_in (n:=n) hh hn
  rw [this]
@[go_sem] theorem gets_putAt_far {k o:Nat} (h:k ≠ g):gets (putAt w g off vs) k o n=gets w k o n:=by simp only [gets,putAt_heap_other h]
@[go_sem] theorem has_setCell {k o n:Nat} {p:Addr} {u:Value}:has (w.setCell p u) k o n=has w k o n:=by
 by_cases h:k=p.block
 ·subst h
  simp only [has,World.setCell,Array.getElem?_modify,if_true]
  cases hq:w.heap[p.block]? with
  | none=>simp
  | some ob =>
   cases ob <;> simp
   split <;> simp
 ·simp only [has,Below.heap_setCell w p u k h]
@[go_sem] theorem melts_setCell {k:Nat} {p:Addr} {u:Value}:melts (w.setCell p u) k=melts w k:=by
 by_cases h:k=p.block
 ·subst h
  simp only [melts,World.setCell,Array.getElem?_modify,if_true]
  cases hq:w.heap[p.block]? with
  | none=>simp
  | some ob =>
   cases ob
   case cells c e fr=>obtain ⟨lo,hi⟩:=fr;cases lo <;> cases hi <;> simp
   all_goals simp
 ·simp only [melts,Below.heap_setCell w p u k h]
theorem Blk.has (h:Blk w g t cs) (off n:Nat):has w g off n=decide (off+n≤cs.size):=by unfold Blk at h;simp [Proofs.YtbfbabbcdochjaaGreatDoor.has,h]
theorem Blk.melts (h:Blk w g t cs):melts w g=true:=by unfold Blk at h;simp [Proofs.YtbfbabbcdochjaaGreatDoor.melts,h]
theorem Blk.gets (h:Blk w g t cs) (off n:Nat):gets w g off n=((cs.toList.drop off).take n).toArray:=by unfold Blk at h;simp [Proofs.YtbfbabbcdochjaaGreatDoor.gets,h]
theorem Blk.put_ (h:Blk w g t cs) (off:Nat) (vs:Array Value):Blk (putAt w g off vs) g t (splice cs off vs):=putAt_heap_same h
theorem Blk.putFar (h:Blk w g t cs) {g':Nat} (hg:g ≠ g') (off:Nat) (vs:Array Value):Blk (putAt w g' off vs) g t cs:=(putAt_heap_other hg).trans h
theorem Kept.putAt {S:Nat→Prop} {a:World} (h:Kept S a w) (g off:Nat) (vs:Array Value) (hp:g < a.heap.size→S g):Kept S a (putAt w g off vs) :=
 h.trans' (S':=(·=g)) ⟨rfl,rfl,rfl,by simp [Proofs.YtbfbabbcdochjaaGreatDoor.putAt],fun k _ hn=>putAt_heap_other hn⟩ (fun i hi e=>by subst e;exact hp hi)
end
theorem run_loadVar_blk {P:Program} {w:World} {ty t:TypeId} {g:Nat} {cs:Array Value} (ha:aggT P ty=true) (hs:sizeT P ty=some cs.size) (hb:Blk w g t cs) :
 (loadVar ty ⟨g,0,none⟩).run P w=.ok (.agg cs) w:=by
 rw [run_loadVar_big P w ty g 0 cs.size ha hs (by rw [Blk.has hb];simp),Blk.gets hb]
 rw [List.drop_zero,List.take_of_length_le zb86,Array.toArray_toList]
theorem ret_cell {P:Program} {fn:Func} {R:Ending→World→Prop} {a:Act} {w:World} {p:Tmp} {ty t:TypeId} {g:Nat} {cs:Array Value}
 (hres:fn.results=#[.cell p ty]) (hd:a.defers=[]) (hp:a.tmps.getD p undef=.pointer (some ⟨g,0,none⟩)) (ha:aggT P ty=true) (hs:sizeT P ty=some cs.size) (hb:Blk w g t cs)
 (hR:R (.returned (.agg cs)) w):bodyPost P fn R .ret a w:=by
 exact zz86
/-! ### '==' of two arrays of integers -/
theorem sizeOf_run {P:Program} {e:TypeId} {n:Nat} (h:sizeT P e=some n) (w:World):(sizeOf e).run P w=.ok n w:=by
 unfold sizeT at h
 cases hq:P.info? e with
 | none=>simp [hq] at h
 | some i=>simp [hq] at h;simp [sizeOf,typeInfo,hq,h]
theorem ret_int {k:IntKind} {a b:Int} (h:a=b):Ending.returned (.int k a)=.returned (.int k b):=by rw [h]
section
variable {w w' : World} {g : Nat} {t : TypeId} {cs : Array Value}
theorem kR (S : Nat → Prop) (w : World) : Kept S w w := Kept.refl S w
theorem bX (h : Blk w g t cs) (hk : Ext w w') : Blk w' g t cs := h.ext hk
theorem bC (h : Blk w g t cs) (i : Nat) : w.cell? ⟨g, i, none⟩ = cs[i]? := h.cell i
theorem bH (h : Blk w g t cs) (off n : Nat) : has w g off n = decide (off + n ≤ cs.size) := h.has off n
theorem bG (h : Blk w g t cs) (off n : Nat) : gets w g off n = ((cs.toList.drop off).take n).toArray := h.gets off n
theorem bK {S : Nat → Prop} (h : Blk w g t cs) (hk : Kept S w w') (hs : ¬ S g) : Blk w' g t cs := h.kept hk hs
theorem bN (w : World) (t : TypeId) (cs : Array Value) : Blk (w.alloc (.cells cs t)) w.heap.size t cs := Blk.new w t cs
end
open Go.RowKit
section
variable {P:Program} {ops:Array Oper} {Q:Exit→Act→World→Prop} {S:World→Prop} {md:Region.Mode} {ex:Nat→Bool}
def Down (md:Region.Mode) (ops:Array Oper) (listed:Array Bool):Prop :=
 ∀ (j:Nat) (oj:Oper),ops[j]?=some oj→listed.getD j false=true→∀ e ∈ oj.after,Region.binds md e=true→listed.getD e.on false=true
def dpL (md:Region.Mode):List Edge→Nat | []=>0 | e :: r=>(if Region.binds md e then 2 ^ e.on else 0) ||| dpL md r
def dpMask (md:Region.Mode) (ops:Array Oper) (k:Nat):Nat:=match ops[k]? with | some o=>dpL md o.after.toList | none=>0
def downMask (md:Region.Mode) (ops:Array Oper):Nat→Nat→Nat
 | 0,m=>m
 | k+1,m=>downMask md ops k (if m.testBit k then m ||| dpMask md ops k else m)
theorem dpL_bit (md:Region.Mode):∀ {l:List Edge} {i:Nat},(dpL md l).testBit i=true→∃ e ∈ l,Region.binds md e=true∧e.on=i
 | [],i,h=>by simp [dpL] at h
 | e :: r,i,h=>by
  simp only [dpL,Nat.testBit_or,Bool.or_eq_true] at h
  rcases h with h | h
  ·split at h
   ·rename_i hb
    rw [Nat.testBit_two_pow] at h
    exact ⟨e,by simp,hb,by simpa using h⟩
   ·simp at h
  ·obtain ⟨e',he,hb,hi⟩:=dpL_bit md h
   exact ⟨e',by simp [he],hb,hi⟩
theorem dpMask_bit {md:Region.Mode} {ops:Array Oper} {k i:Nat} (h:(dpMask md ops k).testBit i=true):∃ o,ops[k]?=some o∧∃ e ∈ o.after,Region.binds md e=true∧e.on=i:=by
 unfold dpMask at h
 split at h
 ·rename_i o ho
  obtain ⟨e,he,hb,hi⟩:=dpL_bit md h
  exact ⟨o,ho,e,by simpa using he,hb,hi⟩
 ·simp at h
theorem downMask_listed {md:Region.Mode} {ops:Array Oper} {listed:Array Bool} (hd:Down md ops listed):∀ (k m:Nat),(∀ i,m.testBit i=true→listed.getD i false=true) →
 ∀ i,(downMask md ops k m).testBit i=true→listed.getD i false=true
 | 0,m,h=>h
 | k+1,m,h=>by
  refine downMask_listed hd k _ fun i hi=>?_
  split at hi
  ·rename_i hk
   rw [Nat.testBit_or,Bool.or_eq_true] at hi
   rcases hi with hi | hi
   ·exact h i hi
   ·obtain ⟨o,ho,e,he,hb,rfl⟩:=dpMask_bit hi
    exact hd k o ho (h k hk) e he hb
  ·exact h i hi
theorem Down.set {md:Region.Mode} {ops:Array Oper} {listed:Array Bool} {j:Nat} (hd:Down md ops listed) (hj:j ∈ Region.ready md ops listed):Down md ops (listed.setIfInBounds j true):=by
 obtain ⟨_,oj,hoj,hall⟩:=mem_ready.1 hj
 intro k ok hk hl e he hb
 by_cases hkj:j=k
 ·subst hkj
  rw [hoj] at hk
  injection hk with hk
  subst hk
  exact getD_set_true (hall e he hb)
 ·rw [getD_set_ne false hkj] at hl
  exact getD_set_true (hd k ok hk hl e he hb)
theorem Down.init {md:Region.Mode} {ops:Array Oper} (n:Nat):Down md ops (Array.replicate n false):=by
 intro j oj _ hl
 exfalso
 rcases Nat.lt_or_ge j n with h | h
 ·simp [h] at hl
 ·simp [Array.getElem?_eq_none (show (Array.replicate n false).size≤j by simpa using h)] at hl
def noP (Q:Exit→Act→World→Prop):Exit→Act→World→Prop
 | .normal,a,w=>Q .normal a w
 | _,_,_=>False
theorem noP.imp:∀ (e:Exit) (a:Act) (w:World),noP Q e a w→Q e a w:=fun e a w h=>by
 cases e <;> first | exact h | exact h.elim
variable {fs:List Bool} {k:Nat}
end
open Go.RowKit
section
variable {P:Program} {ops:Array Oper} {Q:Exit→Act→World→Prop} {S:World→Prop} {md:Region.Mode} {ex:Nat→Bool}
def nop : Oper := { dst := none, op := .load 0 (.tmp 0), type := 0, pos := "", after := #[], guard := none }
variable {od:List (Nat × Bool)} {k:Nat}
end
open Go.RowKit
section
variable {w:World} {off n g:Nat} {vs:Array Value}
@[go_sem high] theorem has_new_2_0 {o0 o1:Obj}:has ((w.alloc o0).alloc o1) (w.heap.size) off n=has (w.alloc o0) (w.heap.size) off n:=by
 have h:((w.alloc o0).alloc o1).heap[w.heap.size]?=(w.alloc o0).heap[w.heap.size]?:=by
  rw [Below.heap_alloc _ _ _ zb82]
 unfold has;rw [h]
@[go_sem high] theorem gets_new_2_0 {o0 o1:Obj}:gets ((w.alloc o0).alloc o1) (w.heap.size) off n=gets (w.alloc o0) (w.heap.size) off n:=by
 have h:((w.alloc o0).alloc o1).heap[w.heap.size]?=(w.alloc o0).heap[w.heap.size]?:=by
  rw [Below.heap_alloc _ _ _ zb82]
 unfold gets;rw [h]
@[go_sem high] theorem has_new_3_1 {o0 o1 o2:Obj}:has (((w.alloc o0).alloc o1).alloc o2) (w.heap.size+1) off n=has ((w.alloc o0).alloc o1) (w.heap.size+1) off n:=by
 have h:(((w.alloc o0).alloc o1).alloc o2).heap[w.heap.size+1]?=((w.alloc o0).alloc o1).heap[w.heap.size+1]?:=by
  rw [Below.heap_alloc _ _ _ zb82]
 unfold has;rw [h]
@[go_sem high] theorem gets_new_3_1 {o0 o1 o2:Obj}:gets (((w.alloc o0).alloc o1).alloc o2) (w.heap.size+1) off n=gets ((w.alloc o0).alloc o1) (w.heap.size+1) off n:=by
 have h:(((w.alloc o0).alloc o1).alloc o2).heap[w.heap.size+1]?=((w.alloc o0).alloc o1).heap[w.heap.size+1]?:=by
  rw [Below.heap_alloc _ _ _ zb82]
 unfold gets;rw [h]
@[go_sem high] theorem has_old_2 {o0 o1:Obj} (h:g < w.heap.size):has ((w.alloc o0).alloc o1) g off n=has w g off n:=by
 have e:((w.alloc o0).alloc o1).heap[g]?=w.heap[g]?:=by
  rw [Below.heap_alloc _ _ _ zb82];rw [Below.heap_alloc _ _ _ h]
 unfold has;rw [e]
@[go_sem high] theorem gets_old_2 {o0 o1:Obj} (h:g < w.heap.size):gets ((w.alloc o0).alloc o1) g off n=gets w g off n:=by
 have e:((w.alloc o0).alloc o1).heap[g]?=w.heap[g]?:=by
  rw [Below.heap_alloc _ _ _ zb82];rw [Below.heap_alloc _ _ _ h]
 unfold gets;rw [e]
@[go_sem] theorem gets_setCell_in {i:Nat} {v:Value} (h:off≤i):gets (w.setCell ⟨g,i,none⟩ v) g off n=(gets w g off n).setIfInBounds (i - off) v:=by
 simp only [gets,World.setCell,Array.getElem?_modify,if_true]
 cases hq:w.heap[g]? with
 | none=>simp
 | some ob =>
  cases ob <;> simp
  rw [List.drop_set,if_neg zb85,List.take_set]
@[go_sem] theorem gets_setCell_out {i:Nat} {v:Value} (h:i < off ∨ off+n≤i):gets (w.setCell ⟨g,i,none⟩ v) g off n=gets w g off n:=by
 simp only [gets,World.setCell,Array.getElem?_modify,if_true]
 cases hq:w.heap[g]? with
 | none=>simp
 | some ob =>
  cases ob <;> simp
  rw [List.drop_set]
  split
  ·rfl
  ·rw [List.take_set,List.set_eq_of_length_le (by simp;omega)]
@[go_sem] theorem gets_setCell_far {p:Addr} {v:Value} (h:g ≠ p.block):gets (w.setCell p v) g off n=gets w g off n:=by
 simp only [gets,Below.heap_setCell w p v g h]
end
end Go.Proofs.YtbfbabbcdochjaaGreatDoor
