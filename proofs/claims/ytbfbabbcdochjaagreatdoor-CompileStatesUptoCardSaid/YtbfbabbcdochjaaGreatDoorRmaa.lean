/- Several texts joined: Base, Ord, Ordo, Allo. -/
import Derived.Test.YtbfbabbcdochjaaGreatDoorRows
import Derived.WalkKit
import Derived.WalkSpells
import Derived.WalkLawsBesides
import Derived.RegionTactic
import Derived.BigRegion
import Derived.Deep.QuietTactic
import Derived.BigQuiet
import Derived.Outline
import Derived.Lib.Hide
import Derived.Deep.RegionWith
import Derived.Deep.LoopGhost
import Derived.Deep.DeepCutAuto
import Derived.StillTailTactics
import Derived.Deep.RegionHeld3
import Derived.OrdersHeld
import Derived.Deep.RegionHeld
import Derived.Test.YtbfbabbcdochjaaGreatDoorRmpk
set_option maxHeartbeats 4000000
set_option maxRecDepth 100000
namespace Go.Proofs.YtbfbabbcdochjaaGreatDoor
open Go.RowKit
structure Kept (S:Nat->Prop) (w w':World):Prop where
 os:w'.os=w.os
 tape:w'.tape=w.tape
 output:w'.output=w.output
 size:w.heap.size<=w'.heap.size
 block:∀k,k<w.heap.size->¬S k->w'.heap[k]?=w.heap[k]?
abbrev Ext (w w':World):Prop:=Kept (λ_=>False) w w'
section
variable {S S':Nat->Prop} {a w w':World}
theorem Kept.refl (S:Nat->Prop) (w:World):Kept S w w:=⟨rfl,rfl,rfl,Nat.le_refl _,λ_ _ _=>rfl⟩
theorem Kept.trans (h:Kept S a w) (k:Kept S w w'):Kept S a w':=
 ⟨k.os.trans h.os,k.tape.trans h.tape,k.output.trans h.output,Nat.le_trans h.size k.size,
  λi hi hs=>(k.block i (Nat.lt_of_lt_of_le hi h.size) hs).trans (h.block i hi hs)⟩
theorem Kept.trans' (h:Kept S a w) (k:Kept S' w w') (hs:∀i,i<a.heap.size->S' i->S i):Kept S a w':=
 ⟨k.os.trans h.os,k.tape.trans h.tape,k.output.trans h.output,Nat.le_trans h.size k.size,
  λi hi hn=>(k.block i (Nat.lt_of_lt_of_le hi h.size) (λe=>hn (hs i hi e))).trans (h.block i hi hn)⟩
theorem Kept.mono (h:Kept S w w') (hs:∀i,i<w.heap.size->S i->S' i):Kept S' w w':=
 ⟨h.os,h.tape,h.output,h.size,λi hi hn=>h.block i hi (λe=>hn (hs i hi e))⟩
theorem Kept.drew (h:Kept S a w):Kept S a w.drew:=⟨h.os,h.tape,h.output,h.size,h.block⟩
theorem Kept.drewN (h:Kept S a w) (n:Nat):Kept S a (w.drewN n):=⟨h.os,h.tape,h.output,h.size,h.block⟩
theorem Kept.alloc (h:Kept S a w) (o:Obj):Kept S a (w.alloc o):=
 h.trans ⟨rfl,rfl,rfl,by simp,λk hk _=>Below.heap_alloc _ _ _ hk⟩
theorem Kept.setCell (h:Kept S a w) (p:Addr) (u:Value) (hp:p.block<a.heap.size->S p.block):Kept S a (w.setCell p u):=
 h.trans' (S':=(·=p.block)) ⟨rfl,rfl,rfl,by simp [World.setCell],λk _ hn=>Below.heap_setCell _ _ _ _ hn⟩
  (λi hi e=>by subst e;exact hp hi)
theorem Kept.ext (h:Ext w w'):Kept S w w':=h.mono λ_ _ f=>f.elim
theorem Kept.below (h:Ext w w'):Below w.heap.size w w':=⟨h.os,h.tape,h.output,h.size,λk hk=>h.block k hk (λf=>f)⟩
theorem Kept.of_below (h:Below w.heap.size w w'):Kept S w w':=⟨h.os,h.tape,h.output,h.size,λk hk _=>h.block k hk⟩
theorem Kept.cell (h:Kept S w w') {p:Addr} (hp:p.block<w.heap.size) (hs:¬S p.block):w'.cell? p=w.cell? p:=World.cell?_of_block (w:=w) (h.block p.block hp hs)
theorem Kept.frozen (h:Kept S w w') {p:Addr} (hp:p.block<w.heap.size) (hs:¬S p.block):w'.frozen? p=w.frozen? p:=World.frozen?_of_block (w:=w) (h.block p.block hp hs)
end
def aH (w:World) (g:Nat) (t:TypeId) (cs:Array Value):Prop:=w.heap[g]?=some (.cells cs t (0,0))
section
variable {w w':World} {g:Nat} {t:TypeId} {cs:Array Value}
theorem aH.lt (h:aH w g t cs):g<w.heap.size:=by
 rcases Nat.lt_or_ge g w.heap.size with hlt|hge
 ·exact hlt
 ·unfold aH at h;rw [Array.getElem?_eq_none hge]at h;cases h
theorem aH.cell (h:aH w g t cs) (i:Nat):w.cell? ⟨g,i,none⟩=cs[i]?:=cell_of_row w g i cs t (0,0) h
theorem aH.frozen (h:aH w g t cs) (i:Nat):w.frozen? ⟨g,i,none⟩=false:=by
 unfold aH at h;simp [World.frozen?,h]
theorem aH.new (w:World) (t:TypeId) (cs:Array Value):aH (w.alloc (.cells cs t)) w.heap.size t cs:=heap_alloc_new w _
theorem aH.new' (w:World) (t:TypeId) (cs:Array Value) (g:Nat) (hg:g=w.heap.size):aH (w.alloc (.cells cs t)) g t cs:=by subst hg;exact heap_alloc_new w _
theorem aH.drew (h:aH w g t cs):aH w.drew g t cs:=h
theorem aH.drewN (h:aH w g t cs) (n:Nat):aH (w.drewN n) g t cs:=h
theorem aH.alloc (h:aH w g t cs) (o:Obj):aH (w.alloc o) g t cs:=(Below.heap_alloc w o g h.lt).trans h
theorem aH.gW (h:aH w g t cs) (i:Nat) (u:Value):aH (w.setCell ⟨g,i,none⟩ u) g t (cs.setIfInBounds i u):=by
 unfold aH at h⊢;simp [World.setCell,Array.getElem?_modify,h]
theorem aH.far (h:aH w g t cs) {p:Addr} (hp:g≠p.block) (u:Value):aH (w.setCell p u) g t cs:=(Below.heap_setCell w p u g hp).trans h
theorem aH.kept {S:Nat->Prop} (h:aH w g t cs) (hk:Kept S w w') (hs:¬S g):aH w' g t cs:=(hk.block g h.lt hs).trans h
theorem aH.ext (h:aH w g t cs) (hk:Ext w w'):aH w' g t cs:=h.kept hk (λf=>f)
theorem aH.uniq {t':TypeId} {cs':Array Value} (h:aH w g t cs) (h':aH w g t' cs'):cs=cs':=by
 unfold aH at h h';rw [h]at h';injection h' with h';injection h' with h'
end
/-! ### Values of many cells, read and written in one step -/
def splice (c:Array Value) (off:Nat) (vs:Array Value):Array Value:=(c.toList.take off++vs.toList++c.toList.drop (off+vs.size)).toArray
def has (w:World) (g off n:Nat):Bool:=match w.heap[g]? with|some (.cells c _ _)=>decide (off+n<=c.size)|_=>false
def bF (w:World) (g:Nat):Bool:=match w.heap[g]? with|some (.cells _ _ (0,0))=>true|_=>false
def gets (w:World) (g off n:Nat):Array Value:=match w.heap[g]? with|some (.cells c _ _)=>((c.toList.drop off).take n).toArray|_=>#[]
def putAt (w:World) (g off:Nat) (vs:Array Value):World:=
 {w with heap:=w.heap.modify g λ| .cells c e fr=>.cells (splice c off vs) e fr|o=>o}
def iy:Value->Bool| .pointer (some ⟨_,_,none⟩)=>true|_=>false
def bE:Value->Nat| .pointer (some a)=>a.block|_=>0
def bJ:Value->Nat| .pointer (some a)=>a.off|_=>0
def OU:Value->Bool| .agg _=>true|_=>false
def dD:Value->Array Value| .agg c=>c|_=>#[]
def iQ:List Value->Bool|[]=>true|v::r=>v.oneCell'&&iQ r
theorem qC:∀{l:List Value},iQ l=true->∀v∈l,v.oneCell'=true
 |[],_,v,hv=>by cases hv
 |x::r,h,v,hv=>by
  simp only [iQ,Bool.and_eq_true]at h
  cases List.mem_cons.1 hv with
  |inl e=>rw [e];exact h.1
  |inr e=>exact qC h.2 v e
def jQ (P:Program) (ty:TypeId):Bool:=match P.underlying ty with|some (.struct _)|some (.array _ _)=>true|_=>false
def sizeT (P:Program) (ty:TypeId):Option Nat:=(P.info? ty).map (·.size)
theorem BO {w:World} {g off:Nat} {vs c:Array Value} {t:TypeId} {fr:Nat×Nat} (h:w.heap[g]?=some (.cells c t fr)):
 (putAt w g off vs).heap[g]?=some (.cells (splice c off vs) t fr):=by
 simp [putAt,Array.getElem?_modify,h]
theorem gB {w:World} {g off k:Nat} {vs:Array Value} (h:k≠g):(putAt w g off vs).heap[k]?=w.heap[k]?:=by
 simp only [putAt,Array.getElem?_modify];rw [if_neg (λe=>h e.symm)]
theorem sO {w:World} {g off:Nat} {vs c:Array Value} {t:TypeId} {fr:Nat×Nat} (h:w.heap[g]?=some (.cells c t fr)):
 putAt w g off vs=w.setRow g (splice c off vs):=by
 unfold putAt World.setRow
 congr 1
 apply Array.ext_getElem?;intro k;simp only [Array.getElem?_modify]
 by_cases hk:g=k
 ·subst hk;simp [h]
 ·simp [hk]
theorem BQ (P:Program) (w:World) (ty:TypeId) (g off:Nat) (vs:Array Value) (hs:sizeT P ty=some vs.size) (hh:has w g off vs.size=true) (hm:bF w g=true)
 (h1:iQ vs.toList=true):(Instr.storeAt ty (.pointer (some ⟨g,off,none⟩)) (.agg vs)).run P w=.ok () (putAt w g off vs):=by
 unfold has at hh;unfold bF at hm
 split at hh
 ·rename_i c t fr hg
  rw [hg]at hm
  have hfr:fr=(0,0):=by
   revert hm;obtain⟨a,b⟩:=fr;cases a<;>cases b<;>simp
  subst hfr;have hst:=run_storeCells_at P g off t vs.toList 0 c w hg (by simpa using of_decide_eq_true hh) (qC h1);rw [sO hg];unfold sizeT at hs
  cases hq:P.info? ty with
  |none=>simp [hq]at hs
  |some i=>
   have hi:i.size=vs.size:=by simpa [hq]using hs
   simp only [Array.length_toList,Nat.add_zero]at hst;simp [Instr.storeAt,Instr.sureAddr,storeVar,sizeOf,typeInfo,hq,hi,Value.cells,hst,splice]
 ·cases hh
theorem oF (P:Program) (w:World) (ty:TypeId) (g off n:Nat) (ha:jQ P ty=true) (hs:sizeT P ty=some n) (hh:has w g off n=true):
 (Instr.loadAt ty (.pointer (some ⟨g,off,none⟩))).run P w=.ok (.agg (gets w g off n)) w:=by
 unfold has at hh
 split at hh
 ·rename_i c t fr hg
  have hfit:off+n<=c.size:=of_decide_eq_true hh
  have hl:=run_loadCells_list (P:=P) w ⟨g,off,none⟩ ((c.toList.drop off).take n) (λj v hv=>by
   have hadd:(⟨g,off,none⟩:Addr).add j=⟨g,off+j,none⟩:=by unfold Addr.add;split<;>simp_all
   rw [hadd,cell_of_row w g _ c t fr hg];rw [List.getElem?_take]at hv
   split at hv
   ·rw [List.getElem?_drop]at hv;simpa using hv
   ·cases hv)
  have hlen:((c.toList.drop off).take n).length=n:=by simp;omega
  rw [hlen]at hl;unfold sizeT at hs
  cases hq:P.info? ty with
  |none=>simp [hq]at hs
  |some i=>
   have hi:i.size=n:=by simpa [hq]using hs
   unfold jQ at ha
   have hagg:(isAgg ty).run P w=.ok true w:=by
    unfold isAgg
    cases hu:P.underlying ty with
    |none=>simp [hu]at ha
    |some d=>
     rw [Sem.run_bind,run_underlying hu w]
     cases d<;>simp_all
   simp [Instr.loadAt,Instr.sureAddr,loadVar,hagg,sizeOf,typeInfo,hq,hi,hl,gets,hg]
 ·cases hh
theorem jy (P:Program) (w:World) (ty:TypeId) (g off n:Nat) (ha:jQ P ty=true) (hs:sizeT P ty=some n) (hh:has w g off n=true):
 (loadVar ty ⟨g,off,none⟩).run P w=.ok (.agg (gets w g off n)) w:=by
 have h:=oF P w ty g off n ha hs hh
 simpa [Instr.loadAt,Instr.sureAddr]using h
theorem yQ {P:Program} {dst:Option Tmp} {ty ty':TypeId} {x y:Operand} {pos:String} {after:Array Edge} {guard:Option (Nat×Bool)} {a:Act} {w:World} {K:Act->World->Prop} {Q:Exit->Act->World->Prop}
 (hx:iy (a.eval x)=true) (hy:OU (a.eval y)=true) (hs:sizeT P ty=some (dD (a.eval y)).size) (hh:has w (bE (a.eval x)) (bJ (a.eval x)) (dD (a.eval y)).size=true) (hm:bF w (bE (a.eval x))=true)
 (h1:iQ (dD (a.eval y)).toList=true):
 Oper.wp P {dst:=dst,op:=.store ty x y,type:=ty',pos:=pos,after:=after,guard:=guard} a w K Q=K (a.put dst undef) (putAt w (bE (a.eval x)) (bJ (a.eval x)) (dD (a.eval y))):=by
 unfold Oper.wp execOp;generalize ex:a.eval x=vx at*;generalize ey:a.eval y=vy at*
 cases vy<;>simp [OU]at hy
 unfold iy at hx
 split at hx
 ·rename_i g off
  have hr:=BQ P w ty g off _ hs hh hm h1;simp only [dD]at hr;simp only [ex,ey,bE,bJ,dD,hr,Sem.run_bind,Result.andThen_ok,Sem.run_pure,Oper.upon]
 ·cases hx
theorem dJ {P:Program} {dst:Option Tmp} {ty ty':TypeId} {x:Operand} {pos:String} {after:Array Edge} {guard:Option (Nat×Bool)} {a:Act} {w:World} {K:Act->World->Prop} {Q:Exit->Act->World->Prop}
 (n:Nat) (ha:jQ P ty=true) (hs:sizeT P ty=some n) (hx:iy (a.eval x)=true) (hh:has w (bE (a.eval x)) (bJ (a.eval x)) n=true):
 Oper.wp P {dst:=dst,op:=.load ty x,type:=ty',pos:=pos,after:=after,guard:=guard} a w K Q=K (a.put dst (.agg (gets w (bE (a.eval x)) (bJ (a.eval x)) n))) w:=by
 unfold Oper.wp execOp;generalize ex:a.eval x=vx at*;unfold iy at hx
 split at hx
 ·rename_i g off
  have hr:=oF P w ty g off n ha hs hh;simp only [ex,bE,bJ,hr,Sem.run_bind,Result.andThen_ok,Sem.run_pure,Oper.upon]
 ·cases hx
theorem aZ {P:Program} {ρ:Operand->Value} {dst:Option Tmp} {ty ty':TypeId} {x:Operand} {pos:String} {after:Array Edge} {guard:Option (Nat×Bool)} {w:World}
 (n:Nat) (ha:jQ P ty=true) (hs:sizeT P ty=some n) (hx:iy (ρ x)=true) (hh:has w (bE (ρ x)) (bJ (ρ x)) n=true):
 (execOp ρ {dst:=dst,op:=.load ty x,type:=ty',pos:=pos,after:=after,guard:=guard}).run P w=.ok (.value (.agg (gets w (bE (ρ x)) (bJ (ρ x)) n))) w:=by
 unfold execOp;generalize ex:ρ x=vx at*;unfold iy at hx
 split at hx
 ·rename_i g off
  have hr:=oF P w ty g off n ha hs hh;simp only [ex,bE,bJ,hr,Sem.run_bind,Result.andThen_ok,Sem.run_pure]
 ·cases hx
section
variable {w w':World} {g off n:Nat} {t:TypeId} {cs vs:Array Value}
attribute [go_sem] iy bE bJ OU dD iQ Value.oneCell'
@[go_sem] theorem aaD (hg:g=w.heap.size):has (w.alloc (.cells cs t)) g off n=decide (off+n<=cs.size):=by subst hg;unfold has;rw [heap_alloc_new]
@[go_sem] theorem Xx (o:Obj) (hg:g<w.heap.size):has (w.alloc o) g off n=has w g off n:=by unfold has;rw [Below.heap_alloc w o g hg]
@[go_sem] theorem agC:has w.drew g off n=has w g off n:=rfl
@[go_sem] theorem afK (k:Nat):has (w.drewN k) g off n=has w g off n:=rfl
@[go_sem] theorem X_ (hg:g=w.heap.size):bF (w.alloc (.cells cs t)) g=true:=by subst hg;unfold bF;rw [heap_alloc_new];rfl
@[go_sem] theorem Uk (o:Obj) (hg:g<w.heap.size):bF (w.alloc o) g=bF w g:=by unfold bF;rw [Below.heap_alloc w o g hg]
@[go_sem] theorem aeB:bF w.drew g=bF w g:=rfl
@[go_sem] theorem acG (k:Nat):bF (w.drewN k) g=bF w g:=rfl
@[go_sem] theorem ZX (hg:g=w.heap.size):gets (w.alloc (.cells cs t)) g off n=((cs.toList.drop off).take n).toArray:=by subst hg;unfold gets;rw [heap_alloc_new]
@[go_sem] theorem VU (o:Obj) (hg:g<w.heap.size):gets (w.alloc o) g off n=gets w g off n:=by unfold gets;rw [Below.heap_alloc w o g hg]
@[go_sem] theorem afJ:gets w.drew g off n=gets w g off n:=rfl
@[go_sem] theorem aei (k:Nat):gets (w.drewN k) g off n=gets w g off n:=rfl
@[go_sem] theorem aeF:(putAt w g off vs).heap.size=w.heap.size:=by simp [putAt]
@[go_sem] theorem aeE:putAt w.drew g off vs=(putAt w g off vs).drew:=rfl
@[go_sem] theorem acM (k:Nat):putAt (w.drewN k) g off vs=(putAt w g off vs).drewN k:=rfl
@[go_sem] theorem Yi (hg:g=w.heap.size):putAt (w.alloc (.cells cs t)) g off vs=w.alloc (.cells (splice cs off vs) t):=by
 subst hg;unfold putAt World.alloc
 congr 1
 apply Array.ext_getElem?;intro k;simp only [Array.getElem?_modify,Array.getElem?_push]
 by_cases hk:k=w.heap.size
 ·subst hk;simp
 ·simp [hk,Ne.symm hk]
@[go_sem] theorem Uy (o:Obj) (hg:g<w.heap.size):putAt (w.alloc o) g off vs=(putAt w g off vs).alloc o:=by
 unfold putAt World.alloc
 congr 1
 apply Array.ext_getElem?;intro k;simp only [Array.getElem?_modify,Array.getElem?_push,Array.size_modify]
 by_cases hk:k=w.heap.size
 ·subst hk;simp [Nat.ne_of_lt hg]
 ·simp [hk]
@[go_sem] theorem aeM (l l':List Value):splice l.toArray off l'.toArray=(l.take off++l'++l.drop (off+l'.length)).toArray:=by simp [splice]
theorem AX (h:off+vs.size<=cs.size):(splice cs off vs).size=cs.size:=by simp [splice];omega
theorem uO {i:Nat} (h:off+vs.size<=cs.size) (hi:i<off∨off+vs.size<=i):(splice cs off vs)[i]?=cs[i]?:=by
 simp only [splice,List.getElem?_toArray]
 rcases hi with hi|hi
 ·rw [List.append_assoc,List.getElem?_append_left (by simp;omega),List.getElem?_take,if_pos hi];simp
 ·rw [List.getElem?_append_right (by simp;omega),List.getElem?_drop]
  simp only [List.length_append,List.length_take,Array.length_toList];rw [show off+vs.size+(i - (min off cs.size+vs.size))=i from by omega];simp
@[go_sem] theorem acH {k:Nat}:bF (putAt w g off vs) k=bF w k:=by
 by_cases h:k=g
 ·subst h
  simp only [bF,putAt,Array.getElem?_modify,if_true]
  cases hq:w.heap[k]? with
  |none=>rfl
  |some o=>
   cases o
   case cells c e fr=>obtain⟨lo,hi⟩:=fr;cases lo<;>cases hi<;>rfl
   all_goals rfl
 ·simp only [bF,gB h]
@[go_sem] theorem afM {k o n:Nat} (hh:has w g off vs.size=true):has (putAt w g off vs) k o n=has w k o n:=by
 by_cases h:k=g
 ·subst h
  unfold has at hh⊢;simp only [putAt,Array.getElem?_modify,if_true]
  cases hq:w.heap[k]? with
  |none=>simp
  |some ob=>
   rw [hq]at hh
   cases ob<;>simp at hh⊢
   rw [AX hh]
 ·simp only [has,gB h]
@[go_sem] theorem WV {i:Nat} (hh:has w g off vs.size=true) (hi:i<off∨off+vs.size<=i):(putAt w g off vs).cell? ⟨g,i,none⟩=w.cell? ⟨g,i,none⟩:=by
 unfold has at hh;simp only [World.cell?,putAt,Array.getElem?_modify,if_true]
 cases hq:w.heap[g]? with
 |none=>simp
 |some ob=>
  rw [hq]at hh
  cases ob<;>simp at hh⊢
  rw [uO hh hi]
@[go_sem] theorem WU {p:Addr} (h:p.block≠g):(putAt w g off vs).cell? p=w.cell? p:=by simp only [World.cell?,gB h]
@[go_sem] theorem aax {p:Addr}:(putAt w g off vs).frozen? p=w.frozen? p:=by
 by_cases h:p.block=g
 ·simp only [World.frozen?,putAt,Array.getElem?_modify,h,if_true]
  cases hq:w.heap[g]? with
  |none=>simp
  |some ob=>cases ob<;>simp
 ·simp only [World.frozen?,gB h]
theorem uN {o:Nat} (h:off+vs.size<=cs.size) (hi:o+n<=off∨off+vs.size<=o):((splice cs off vs).toList.drop o).take n=(cs.toList.drop o).take n:=by
 apply List.ext_getElem?;intro j;rw [List.getElem?_take,List.getElem?_take]
 split
 ·rw [List.getElem?_drop,List.getElem?_drop]
  have:=uO (cs:=cs) (vs:=vs) (off:=off) (i:=o+j) h aj
  simpa using this
 ·rfl
theorem vR (h:off+vs.size<=cs.size) (hn:n=vs.size):((splice cs off vs).toList.drop off).take n=vs.toList:=by
 subst hn;simp only [splice];rw [List.append_assoc,List.drop_append_of_le_length (by simp;omega),List.drop_of_length_le (by simp;omega),List.nil_append,List.take_append_of_le_length aG,List.take_of_length_le aG]
@[go_sem] theorem Xo {o:Nat} (hh:has w g off vs.size=true) (hi:o+n<=off∨off+vs.size<=o):gets (putAt w g off vs) g o n=gets w g o n:=by
 unfold has at hh;simp only [gets,putAt,Array.getElem?_modify,if_true]
 cases hq:w.heap[g]? with
 |none=>simp
 |some ob=>
  rw [hq]at hh
  cases ob<;>simp at hh⊢
  have:=uN (n:=n) hh hi
  simpa using this
@[go_sem] theorem ZY (hh:has w g off vs.size=true) (hn:n=vs.size):gets (putAt w g off vs) g off n=vs:=by
 unfold has at hh;simp only [gets,putAt,Array.getElem?_modify,if_true]
 cases hq:w.heap[g]? with
 |none=>rw [hq]at hh;simp at hh
 |some ob=>
  rw [hq]at hh
  cases ob<;>simp at hh⊢
  have:=vR (n:=n) hh hn;rw [this]
@[go_sem] theorem Xn {k o:Nat} (h:k≠g):gets (putAt w g off vs) k o n=gets w k o n:=by simp only [gets,gB h]
@[go_sem] theorem acB {k o n:Nat} {p:Addr} {u:Value}:has (w.setCell p u) k o n=has w k o n:=by
 by_cases h:k=p.block
 ·subst h
  simp only [has,World.setCell,Array.getElem?_modify,if_true]
  cases hq:w.heap[p.block]? with
  |none=>simp
  |some ob=>
   cases ob<;>simp
   split<;>simp
 ·simp only [has,Below.heap_setCell w p u k h]
@[go_sem] theorem aac {k:Nat} {p:Addr} {u:Value}:bF (w.setCell p u) k=bF w k:=by
 by_cases h:k=p.block
 ·subst h
  simp only [bF,World.setCell,Array.getElem?_modify,if_true]
  cases hq:w.heap[p.block]? with
  |none=>simp
  |some ob=>
   cases ob
   case cells c e fr=>obtain⟨lo,hi⟩:=fr;cases lo<;>cases hi<;>simp
   all_goals simp
 ·simp only [bF,Below.heap_setCell w p u k h]
theorem aH.has (h:aH w g t cs) (off n:Nat):has w g off n=decide (off+n<=cs.size):=by unfold aH at h;simp [Proofs.YtbfbabbcdochjaaGreatDoor.has,h]
theorem aH.bF (h:aH w g t cs):bF w g=true:=by unfold aH at h;simp [Proofs.YtbfbabbcdochjaaGreatDoor.bF,h]
theorem aH.gets (h:aH w g t cs) (off n:Nat):gets w g off n=((cs.toList.drop off).take n).toArray:=by unfold aH at h;simp [Proofs.YtbfbabbcdochjaaGreatDoor.gets,h]
theorem aH.gL (h:aH w g t cs) (off:Nat) (vs:Array Value):aH (putAt w g off vs) g t (splice cs off vs):=BO h
theorem aH.aeG (h:aH w g t cs) {g':Nat} (hg:g≠g') (off:Nat) (vs:Array Value):aH (putAt w g' off vs) g t cs:=(gB hg).trans h
theorem Kept.putAt {S:Nat->Prop} {a:World} (h:Kept S a w) (g off:Nat) (vs:Array Value) (hp:g<a.heap.size->S g):Kept S a (putAt w g off vs):=
 h.trans' (S':=(·=g)) ⟨rfl,rfl,rfl,by simp [Proofs.YtbfbabbcdochjaaGreatDoor.putAt],λk _ hn=>gB hn⟩ (λi hi e=>by subst e;exact hp hi)
end
theorem BP {P:Program} {w:World} {ty t:TypeId} {g:Nat} {cs:Array Value} (ha:jQ P ty=true) (hs:sizeT P ty=some cs.size) (hb:aH w g t cs):
 (loadVar ty ⟨g,0,none⟩).run P w=.ok (.agg cs) w:=by
 rw [jy P w ty g 0 cs.size ha hs (by rw [aH.has hb];simp),aH.gets hb];rw [List.drop_zero,List.take_of_length_le aG,Array.toArray_toList]
theorem fD {P:Program} {fn:Func} {R:Ending->World->Prop} {a:Act} {w:World} {p:Tmp} {ty t:TypeId} {g:Nat} {cs:Array Value}
 (hres:fn.results=#[.cell p ty]) (hd:a.defers=[]) (hp:a.tmps.getD p undef=.pointer (some ⟨g,0,none⟩)) (ha:jQ P ty=true) (hs:sizeT P ty=some cs.size) (hb:aH w g t cs)
 (hR:R (.returned (.agg cs)) w):bodyPost P fn R .ret a w:=by
 exact acj
/-! ### '==' of two arrays of integers -/
theorem wX {P:Program} {e:TypeId} {n:Nat} (h:sizeT P e=some n) (w:World):(sizeOf e).run P w=.ok n w:=by
 unfold sizeT at h
 cases hq:P.info? e with
 |none=>simp [hq]at h
 |some i=>simp [hq]at h;simp [sizeOf,typeInfo,hq,h]
theorem b_ {k:IntKind} {a b:Int} (h:a=b):Ending.returned (.int k a)=.returned (.int k b):=by rw [h]
section
variable {w w':World} {g:Nat} {t:TypeId} {cs:Array Value}
theorem kR (S:Nat->Prop) (w:World):Kept S w w:=Kept.refl S w
theorem bX (h:aH w g t cs) (hk:Ext w w'):aH w' g t cs:=h.ext hk
theorem bC (h:aH w g t cs) (i:Nat):w.cell? ⟨g,i,none⟩=cs[i]? :=h.cell i
theorem bH (h:aH w g t cs) (off n:Nat):has w g off n=decide (off+n<=cs.size):=h.has off n
theorem bG (h:aH w g t cs) (off n:Nat):gets w g off n=((cs.toList.drop off).take n).toArray:=h.gets off n
theorem bK {S:Nat->Prop} (h:aH w g t cs) (hk:Kept S w w') (hs:¬S g):aH w' g t cs:=h.kept hk hs
theorem bN (w:World) (t:TypeId) (cs:Array Value):aH (w.alloc (.cells cs t)) w.heap.size t cs:=aH.new w t cs
end
open Go.RowKit
section
variable {P:Program} {ops:Array Oper} {Q:Exit->Act->World->Prop} {S:World->Prop} {md:Region.Mode} {ex:Nat->Bool}
def Down (md:Region.Mode) (ops:Array Oper) (listed:Array Bool):Prop:=
 ∀(j:Nat) (oj:Oper),ops[j]?=some oj->listed.getD j false=true->∀e∈oj.after,Region.binds md e=true->listed.getD e.on false=true
def dpL (md:Region.Mode):List Edge->Nat|[]=>0|e::r=>(if Region.binds md e then 2^e.on else 0)|||dpL md r
def zK (md:Region.Mode) (ops:Array Oper) (k:Nat):Nat:=match ops[k]? with|some o=>dpL md o.after.toList|none=>0
def ug (md:Region.Mode) (ops:Array Oper):Nat->Nat->Nat
 |0,m=>m
 |k+1,m=>ug md ops k (if m.testBit k then m|||zK md ops k else m)
theorem Ro (md:Region.Mode):∀{l:List Edge} {i:Nat},(dpL md l).testBit i=true->∃e∈l,Region.binds md e=true/\e.on=i
 |[],i,h=>by simp [dpL]at h
 |e::r,i,h=>by
  simp only [dpL,Nat.testBit_or,Bool.or_eq_true]at h
  rcases h with h|h
  ·split at h
   ·rename_i hb
    rw [Nat.testBit_two_pow]at h;exact⟨e,by simp,hb,by simpa using h⟩
   ·simp at h
  ·obtain⟨e',he,hb,hi⟩:=Ro md h
   exact⟨e',by simp [he],hb,hi⟩
theorem DJ {md:Region.Mode} {ops:Array Oper} {k i:Nat} (h:(zK md ops k).testBit i=true):∃o,ops[k]?=some o/\∃e∈o.after,Region.binds md e=true/\e.on=i:=by
 unfold zK at h
 split at h
 ·rename_i o ho
  obtain⟨e,he,hb,hi⟩:=Ro md h;exact⟨o,ho,e,by simpa using he,hb,hi⟩
 ·simp at h
theorem sJ {md:Region.Mode} {ops:Array Oper} {listed:Array Bool} (hd:Down md ops listed):∀(k m:Nat),(∀i,m.testBit i=true->listed.getD i false=true)->
 ∀i,(ug md ops k m).testBit i=true->listed.getD i false=true
 |0,m,h=>h
 |k+1,m,h=>by
  refine sJ hd k _ λi hi=>?_
  split at hi
  ·rename_i hk
   rw [Nat.testBit_or,Bool.or_eq_true]at hi
   rcases hi with hi|hi
   ·exact h i hi
   ·obtain⟨o,ho,e,he,hb,rfl⟩:=DJ hi
    exact hd k o ho (h k hk) e he hb
  ·exact h i hi
theorem Down.set {md:Region.Mode} {ops:Array Oper} {listed:Array Bool} {j:Nat} (hd:Down md ops listed) (hj:j∈Region.ready md ops listed):Down md ops (listed.setIfInBounds j true):=by
 obtain⟨_,oj,hoj,hall⟩:=mem_ready.1 hj;intro k ok hk hl e he hb
 by_cases hkj:j=k
 ·subst hkj
  rw [hoj]at hk;injection hk with hk;subst hk;exact getD_set_true (hall e he hb)
 ·rw [getD_set_ne false hkj]at hl
  exact getD_set_true (hd k ok hk hl e he hb)
theorem Down.init {md:Region.Mode} {ops:Array Oper} (n:Nat):Down md ops (Array.replicate n false):=by
 intro j oj _ hl
 exfalso
 rcases Nat.lt_or_ge j n with h|h
 ·simp [h]at hl
 ·simp [Array.getElem?_eq_none (show(Array.replicate n false).size<=j by simpa using h)]at hl
def CG (Q:Exit->Act->World->Prop):Exit->Act->World->Prop
 | .normal,a,w=>Q .normal a w
 |_,_,_=>False
theorem CG.imp:∀(e:Exit) (a:Act) (w:World),CG Q e a w->Q e a w:=λe a w h=>by
 cases e<;>first|exact h|exact h.elim
variable {fs:List Bool} {k:Nat}
end
open Go.RowKit
section
variable {P:Program} {ops:Array Oper} {Q:Exit->Act->World->Prop} {S:World->Prop} {md:Region.Mode} {ex:Nat->Bool}
def nop : Oper := { dst := none, op := .load 0 (.tmp 0), type := 0, pos := "", after := #[], guard := none }
variable {od:List (Nat×Bool)} {k:Nat}
end
open Go.RowKit
section
variable {w:World} {off n g:Nat} {vs:Array Value}
@[go_sem high] theorem acz {o0 o1:Obj}:has ((w.alloc o0).alloc o1) (w.heap.size) off n=has (w.alloc o0) (w.heap.size) off n:=by
 have h:((w.alloc o0).alloc o1).heap[w.heap.size]?=(w.alloc o0).heap[w.heap.size]?:=by
  rw [Below.heap_alloc _ _ _ Vl]
 unfold has;rw [h]
@[go_sem high] theorem aaA {o0 o1:Obj}:gets ((w.alloc o0).alloc o1) (w.heap.size) off n=gets (w.alloc o0) (w.heap.size) off n:=by
 have h:((w.alloc o0).alloc o1).heap[w.heap.size]?=(w.alloc o0).heap[w.heap.size]?:=by
  rw [Below.heap_alloc _ _ _ Vl]
 unfold gets;rw [h]
@[go_sem high] theorem acA {o0 o1 o2:Obj}:has (((w.alloc o0).alloc o1).alloc o2) (w.heap.size+1) off n=has ((w.alloc o0).alloc o1) (w.heap.size+1) off n:=by
 have h:(((w.alloc o0).alloc o1).alloc o2).heap[w.heap.size+1]?=((w.alloc o0).alloc o1).heap[w.heap.size+1]?:=by
  rw [Below.heap_alloc _ _ _ Vl]
 unfold has;rw [h]
@[go_sem high] theorem aaB {o0 o1 o2:Obj}:gets (((w.alloc o0).alloc o1).alloc o2) (w.heap.size+1) off n=gets ((w.alloc o0).alloc o1) (w.heap.size+1) off n:=by
 have h:(((w.alloc o0).alloc o1).alloc o2).heap[w.heap.size+1]?=((w.alloc o0).alloc o1).heap[w.heap.size+1]?:=by
  rw [Below.heap_alloc _ _ _ Vl]
 unfold gets;rw [h]
@[go_sem high] theorem afL {o0 o1:Obj} (h:g<w.heap.size):has ((w.alloc o0).alloc o1) g off n=has w g off n:=by
 have e:((w.alloc o0).alloc o1).heap[g]?=w.heap[g]?:=by
  rw [Below.heap_alloc _ _ _ Vl];rw [Below.heap_alloc _ _ _ h]
 unfold has;rw [e]
@[go_sem high] theorem aej {o0 o1:Obj} (h:g<w.heap.size):gets ((w.alloc o0).alloc o1) g off n=gets w g off n:=by
 have e:((w.alloc o0).alloc o1).heap[g]?=w.heap[g]?:=by
  rw [Below.heap_alloc _ _ _ Vl];rw [Below.heap_alloc _ _ _ h]
 unfold gets;rw [e]
@[go_sem] theorem VW {i:Nat} {v:Value} (h:off<=i):gets (w.setCell ⟨g,i,none⟩ v) g off n=(gets w g off n).setIfInBounds (i - off) v:=by
 simp only [gets,World.setCell,Array.getElem?_modify,if_true]
 cases hq:w.heap[g]? with
 |none=>simp
 |some ob=>
  cases ob<;>simp
  rw [List.drop_set,if_neg aj,List.take_set]
@[go_sem] theorem TL {i:Nat} {v:Value} (h:i<off∨off+n<=i):gets (w.setCell ⟨g,i,none⟩ v) g off n=gets w g off n:=by
 simp only [gets,World.setCell,Array.getElem?_modify,if_true]
 cases hq:w.heap[g]? with
 |none=>simp
 |some ob=>
  cases ob<;>simp
  rw [List.drop_set]
  split
  ·rfl
  ·rw [List.take_set,List.set_eq_of_length_le (by simp;omega)]
@[go_sem] theorem TK {p:Addr} {v:Value} (h:g≠p.block):gets (w.setCell p v) g off n=gets w g off n:=by
 simp only [gets,Below.heap_setCell w p v g h]
end
end Go.Proofs.YtbfbabbcdochjaaGreatDoor
