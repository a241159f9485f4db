import Derived.Test.YtnhelcmddjbafaaGreatDoorRows
import Derived.OrdersHeld
import Derived.Deep.RegionHeld
import Derived.Test.YtnhelcmddjbafaaGreatDoorTppk
set_option maxHeartbeats 4000000
set_option maxRecDepth 100000
open Go.Proofs.Tryz
namespace Go.Proofs.YtnhelcmddjbafaaGreatDoor
open Go.RowKit
section
variable{ZR:Array Value}{pos:String}{after:Array Edge}{guard:Option (Nat×Bool)}{K:Act->World->Prop}{g':Nat}
structure Kept (S:Nat->Prop) (w w':World):Prop where
 os:w'.os=w.os
 tape:w'.tape=w.tape
 output:w'.output=w.output
 size:w.heap.size<=w'.heap.size
 block:∀k,k<w.heap.size->¬S k->w'.heap[k]?=w.heap[k]?
abbrev al (w w':World):Prop:=Kept (λ_=>False) w w'
section
variable {S S':Nat->Prop} {a w w':World}
theorem Kept.refl (S:Nat->Prop) (w:World):Kept S w w:=⟨rfl,rfl,rfl,cr _,λ_ _ _=>rfl⟩
theorem Kept.trans (h:Kept S a w) (k:Kept S w w'):Kept S a w':=
 ⟨k.os.trans h.os,k.tape.trans h.tape,k.output.trans h.output,ax h.size k.size,
  λi hi hs=>(k.block i (gK hi h.size) hs).trans (h.block i hi hs)⟩
theorem Kept.trans' (h:Kept S a w) (k:Kept S' w w') (hs:∀i,i<a.heap.size->S' i->S i):Kept S a w':=
 ⟨k.os.trans h.os,k.tape.trans h.tape,k.output.trans h.output,ax h.size k.size,
  λi hi hn=>(k.block i (gK hi h.size) (λe=>hn (hs i hi e))).trans (h.block i hi hn)⟩
theorem Kept.mono (h:Kept S w w') (hs:∀i,i<w.heap.size->S i->S' i):Kept S' w w':=
 ⟨h.os,h.tape,h.output,h.size,λi hi hn=>h.block i hi (λe=>hn (hs i hi e))⟩
theorem Kept.drew (h:Kept S a w):Kept S a w.drew:=⟨h.os,h.tape,h.output,h.size,h.block⟩
theorem Kept.drewN (h:Kept S a w) (n:Nat):Kept S a (w.drewN n):=⟨h.os,h.tape,h.output,h.size,h.block⟩
theorem Kept.alloc (h:Kept S a w) (o:Obj):Kept S a (w.alloc o):=
 h.trans ⟨rfl,rfl,rfl,by simp,λk hk _=>Below.heap_alloc _ _ _ hk⟩
theorem Kept.setCell (h:Kept S a w) (p:Addr) (u:Value) (hp:p.block<a.heap.size->S p.block):Kept S a (w.setCell p u):=
 h.trans' (S':=(·=p.block)) ⟨rfl,rfl,rfl,by simp [World.setCell],λk _ hn=>Below.heap_setCell _ _ _ _ hn⟩
  (λi hi e=>by subst e;exact hp hi)
theorem Kept.ext (h:al w w'):Kept S w w':=h.mono λ_ _ f=>f.elim
theorem Kept.below (h:al w w'):Below w.heap.size w w':=⟨h.os,h.tape,h.output,h.size,λk hk=>h.block k hk (λf=>f)⟩
theorem Kept.aiQ (h:Below w.heap.size w w'):Kept S w w':=⟨h.os,h.tape,h.output,h.size,λk hk _=>h.block k hk⟩
theorem Kept.cell (h:Kept S w w') {p:Addr} (hp:p.block<w.heap.size) (hs:¬S p.block):w'.cell? p=w.cell? p:=World.cell?_of_block (w:=w) (h.block p.block hp hs)
theorem Kept.frozen (h:Kept S w w') {p:Addr} (hp:p.block<w.heap.size) (hs:¬S p.block):w'.frozen? p=w.frozen? p:=World.frozen?_of_block (w:=w) (h.block p.block hp hs)
end
def ai (w:World) (g:Nat) (t:TypeId) (cs:Array Value):Prop:=w.heap[g]?=some (.cells cs t (0,0))
section
variable {w w':World} {g:Nat} {t:TypeId} {cs:Array Value}
theorem ai.lt (h:ai w g t cs):g<w.heap.size:=by
 rcases Nat.lt_or_ge g w.heap.size with aP|lE
 .exact aP
 .unfold ai at h;rw [Array.getElem?_eq_none lE]at h;cases h
theorem ai.cell (h:ai w g t cs) (i:Nat):w.cell? ⟨g,i,none⟩=cs[i]?:=cell_of_row w g i cs t (0,0) h
theorem ai.frozen (h:ai w g t cs) (i:Nat):w.frozen? ⟨g,i,none⟩=false:=by
 unfold ai at h;simp [World.frozen?,h]
theorem ai.new (w:World) (t:TypeId) (cs:Array Value):ai (w.alloc (.cells cs t)) w.heap.size t cs:=heap_alloc_new w _
theorem ai.ea (w:World) (t:TypeId) (cs:Array Value) (g:Nat) (hg:g=w.heap.size):ai (w.alloc (.cells cs t)) g t cs:=by subst hg;exact heap_alloc_new w _
theorem ai.drew (h:ai w g t cs):ai w.drew g t cs:=h
theorem ai.drewN (h:ai w g t cs) (n:Nat):ai (w.drewN n) g t cs:=h
theorem ai.alloc (h:ai w g t cs) (o:Obj):ai (w.alloc o) g t cs:=(Below.heap_alloc w o g h.lt).trans h
theorem ai.eK (h:ai w g t cs) (i:Nat) (u:Value):ai (w.setCell ⟨g,i,none⟩ u) g t (cs.setIfInBounds i u):=by
 unfold ai at h⊢;simp [World.setCell,Array.getElem?_modify,h]
theorem ai.kV (h:ai w g t cs) {p:Addr} (hp:g≠p.block) (u:Value):ai (w.setCell p u) g t cs:=(Below.heap_setCell w p u g hp).trans h
theorem ai.kept {S:Nat->Prop} (h:ai w g t cs) (hk:Kept S w w') (hs:¬S g):ai w' g t cs:=(hk.block g h.lt hs).trans h
theorem ai.ext (h:ai w g t cs) (hk:al w w'):ai w' g t cs:=h.kept hk (λf=>f)
theorem ai.anC {t':TypeId} (h:ai w g t cs) (h':ai w g t' ZR):cs=ZR:=by
 unfold ai at h h';rw [h]at h';injection h' with h';injection h' with h'
end
def splice (c:Array Value) (off:Nat) (vs:Array Value):Array Value:=(c.toList.take off++vs.toList++c.toList.drop (off+vs.size)).toArray
def has (w:World) (g off n:Nat):Bool:=match w.heap[g]? with|some (.cells c _ _)=>decide (off+n<=c.size)|_=>false
def aC (w:World) (g:Nat):Bool:=match w.heap[g]? with|some (.cells _ _ (0,0))=>true|_=>false
def gets (w:World) (g off n:Nat):Array Value:=match w.heap[g]? with|some (.cells c _ _)=>((c.toList.drop off).take n).toArray|_=>#[]
def putAt (w:World) (g off:Nat) (vs:Array Value):World:=
 {w with heap:=w.heap.modify g λ| .cells c e fr=>.cells (splice c off vs) e fr|o=>o}
def d':Value->Bool| .pointer (some ⟨_,_,none⟩)=>true|_=>false
def aG:Value->Nat| .pointer (some a)=>a.block|_=>0
def aH:Value->Nat| .pointer (some a)=>a.off|_=>0
def M2:Value->Bool| .agg _=>true|_=>false
def fq:Value->Array Value| .agg c=>c|_=>#[]
def eB:List Value->Bool|[]=>true|v::r=>v.oneCell'&&eB r
theorem mU:∀{l:List Value},eB l=true->∀v∈l,v.oneCell'=true
 |[],_,v,hv=>by cases hv
 |x::r,h,v,hv=>by
  simp only [eB,gR]at h
  cases List.mem_cons.1 hv with
  |inl e=>rw [e];exact h.1
  |inr e=>exact mU h.2 v e
def ga (P:Program) (ty:TypeId):Bool:=match P.underlying ty with|some (.struct _)|some (.array _ _)=>true|_=>false
def dr (P:Program) (ty:TypeId):Option Nat:=(P.info? ty).map (·.size)
theorem qE {w:World} {g off:Nat} {vs c:Array Value} {t:TypeId} {fr:Nat×Nat} (h:w.heap[g]?=some (.cells c t fr)):
 (putAt w g off vs).heap[g]?=some (.cells (splice c off vs) t fr):=by
 simp [putAt,Array.getElem?_modify,h]
theorem fa {w:World} {g off k:Nat} {vs:Array Value} (h:k≠g):(putAt w g off vs).heap[k]?=w.heap[k]?:=by
 simp only [putAt,Array.getElem?_modify];rw [af (λe=>h e.symm)]
theorem mr {w:World} {g off:Nat} {vs c:Array Value} {t:TypeId} {fr:Nat×Nat} (h:w.heap[g]?=some (.cells c t fr)):
 putAt w g off vs=w.setRow g (splice c off vs):=by
 unfold putAt World.setRow
 congr 1
 apply Array.ext_getElem?;intro k;simp only [Array.getElem?_modify]
 by_cases hk:g=k
 .subst hk;simp [h]
 .simp [hk]
theorem zN (P:Program) (w:World) (ty:TypeId) (g off:Nat) (vs:Array Value) (hs:dr P ty=some vs.size) (hh:has w g off vs.size=true) (hm:aC w g=true)
 (h1:eB vs.toList=true):(Instr.storeAt ty (.pointer (some ⟨g,off,none⟩)) (.agg vs)).run P w=.ok () (putAt w g off vs):=by
 unfold has at hh;unfold aC at hm
 split at hh
 .rename_i c t fr hg
  rw [hg]at hm
  have TQ:fr=(0,0):=by
   revert hm;obtain⟨a,b⟩:=fr;cases a<;>cases b<;>simp
  subst TQ;have dw:=run_storeCells_at P g off t vs.toList 0 c w hg (by simpa using of_decide_eq_true hh) (mU h1);rw [mr hg];unfold dr at hs
  cases hq:P.info? ty with
  |none=>simp [hq]at hs
  |some i=>
   have hi:i.size=vs.size:=by simpa [hq]using hs
   simp only [Array.length_toList,eW]at dw;simp [Instr.storeAt,Instr.sureAddr,storeVar,sizeOf,typeInfo,hq,hi,Value.cells,dw,splice]
 .cases hh
section
variable (P:Program) (w:World) (ty:TypeId) (g off n:Nat) (ha:ga P ty=true) (hs:dr P ty=some n) (hh:has w g off n=true)
include P w ty g off n ha hs hh
theorem nG:
 (Instr.loadAt ty (.pointer (some ⟨g,off,none⟩))).run P w=.ok (.agg (gets w g off n)) w:=by
 unfold has at hh
 split at hh
 .rename_i c t fr hg
  have Bx:off+n<=c.size:=of_decide_eq_true hh
  have hl:=run_loadCells_list (P:=P) w ⟨g,off,none⟩ ((c.toList.drop off).take n) (λj v hv=>by
   have aeh:(⟨g,off,none⟩:Addr).add j=⟨g,off+j,none⟩:=by unfold Addr.add;split<;>simp_all
   rw [aeh,cell_of_row w g _ c t fr hg];rw [List.getElem?_take]at hv
   split at hv
   .rw [List.getElem?_drop]at hv;simpa using hv
   .cases hv)
  have hlen:((c.toList.drop off).take n).length=n:=by simp;omega
  rw [hlen]at hl;unfold dr at hs
  cases hq:P.info? ty with
  |none=>simp [hq]at hs
  |some i=>
   have hi:i.size=n:=by simpa [hq]using hs
   unfold ga at ha
   have amj:(isAgg ty).run P w=.ok true w:=by
    unfold isAgg
    cases hu:P.underlying ty with
    |none=>simp [hu]at ha
    |some d=>
     rw [Sem.run_bind,run_underlying hu w]
     cases d<;>simp_all
   simp [Instr.loadAt,Instr.sureAddr,loadVar,amj,sizeOf,typeInfo,hq,hi,hl,gets,hg]
 .cases hh
theorem cD:
 (loadVar ty ⟨g,off,none⟩).run P w=.ok (.agg (gets w g off n)) w:=by
 have h:=nG P w ty g off n ha hs hh
 simpa [Instr.loadAt,Instr.sureAddr]using h
end
section
variable {P:Program} {dst:Option Tmp} {ty eD:TypeId}
include P dst ty eD
theorem mP {x y:Operand} {a:Act} {w:World} {Q:Exit->Act->World->Prop} (hx:d' (a.eval x)=true) (hy:M2 (a.eval y)=true) (hs:dr P ty=some (fq (a.eval y)).size) (hh:has w (aG (a.eval x)) (aH (a.eval x)) (fq (a.eval y)).size=true) (hm:aC w (aG (a.eval x))=true) (h1:eB (fq (a.eval y)).toList=true):
 Oper.wp P ⟨dst,.store ty x y,eD,pos,after,guard⟩ a w K Q=K (a.put dst undef) (putAt w (aG (a.eval x)) (aH (a.eval x)) (fq (a.eval y))):=by
 unfold Oper.wp execOp;generalize ex:a.eval x=vx at*;generalize ey:a.eval y=vy at*
 cases vy<;>simp [M2]at hy
 unfold d' at hx
 split at hx
 .rename_i g off
  have hr:=zN P w ty g off _ hs hh hm h1;simp only [fq]at hr;simp only [ex,ey,aG,aH,fq,hr,Sem.run_bind,Result.andThen_ok,Sem.run_pure,Oper.upon]
 .cases hx
theorem aY {x:Operand} {a:Act} {w:World} {Q:Exit->Act->World->Prop} (n:Nat) (ha:ga P ty=true) (hs:dr P ty=some n) (hx:d' (a.eval x)=true) (hh:has w (aG (a.eval x)) (aH (a.eval x)) n=true):
 Oper.wp P ⟨dst,.load ty x,eD,pos,after,guard⟩ a w K Q=K (a.put dst (.agg (gets w (aG (a.eval x)) (aH (a.eval x)) n))) w:=by
 unfold Oper.wp execOp;generalize ex:a.eval x=vx at*;unfold d' at hx
 split at hx
 .rename_i g off
  have hr:=nG P w ty g off n ha hs hh;simp only [ex,aG,aH,hr,Sem.run_bind,Result.andThen_ok,Sem.run_pure,Oper.upon]
 .cases hx
end
theorem aD {P:Program} {ρ:Operand->Value} {dst:Option Tmp} {ty eD:TypeId} {x:Operand} {w:World}
 (n:Nat) (ha:ga P ty=true) (hs:dr P ty=some n) (hx:d' (ρ x)=true) (hh:has w (aG (ρ x)) (aH (ρ x)) n=true):
 (execOp ρ ⟨dst,.load ty x,eD,pos,after,guard⟩).run P w=.ok (.value (.agg (gets w (aG (ρ x)) (aH (ρ x)) n))) w:=by
 unfold execOp;generalize ex:ρ x=vx at*;unfold d' at hx
 split at hx
 .rename_i g off
  have hr:=nG P w ty g off n ha hs hh;simp only [ex,aG,aH,hr,Sem.run_bind,Result.andThen_ok,Sem.run_pure]
 .cases hx
section
variable {w w':World} {g off n:Nat} {t:TypeId} {cs vs:Array Value}
attribute [go_sem] d' aG aH M2 fq eB Value.oneCell'
@[go_sem] theorem aac (hg:g=w.heap.size):has (w.alloc (.cells cs t)) g off n=decide (off+n<=cs.size):=by subst hg;unfold has;rw [heap_alloc_new]
@[go_sem] theorem Vp (o:Obj) (hg:g<w.heap.size):has (w.alloc o) g off n=has w g off n:=by unfold has;rw [Below.heap_alloc w o g hg]
@[go_sem] theorem Vq:has w.drew g off n=has w g off n:=rfl
@[go_sem] theorem afZ (k:Nat):has (w.drewN k) g off n=has w g off n:=rfl
@[go_sem] theorem Wy (hg:g=w.heap.size):aC (w.alloc (.cells cs t)) g=true:=by subst hg;unfold aC;rw [heap_alloc_new];rfl
@[go_sem] theorem RL (o:Obj) (hg:g<w.heap.size):aC (w.alloc o) g=aC w g:=by unfold aC;rw [Below.heap_alloc w o g hg]
@[go_sem] theorem aeP:aC w.drew g=aC w g:=rfl
@[go_sem] theorem acE (k:Nat):aC (w.drewN k) g=aC w g:=rfl
@[go_sem] theorem YE (hg:g=w.heap.size):gets (w.alloc (.cells cs t)) g off n=((cs.toList.drop off).take n).toArray:=by subst hg;unfold gets;rw [heap_alloc_new]
@[go_sem] theorem TK (o:Obj) (hg:g<w.heap.size):gets (w.alloc o) g off n=gets w g off n:=by unfold gets;rw [Below.heap_alloc w o g hg]
@[go_sem] theorem afY:gets w.drew g off n=gets w g off n:=rfl
@[go_sem] theorem adZ (k:Nat):gets (w.drewN k) g off n=gets w g off n:=rfl
@[go_sem] theorem aeX:(putAt w g off vs).heap.size=w.heap.size:=by simp [putAt]
@[go_sem] theorem aeW:putAt w.drew g off vs=(putAt w g off vs).drew:=rfl
@[go_sem] theorem acJ (k:Nat):putAt (w.drewN k) g off vs=(putAt w g off vs).drewN k:=rfl
@[go_sem] theorem WT (hg:g=w.heap.size):putAt (w.alloc (.cells cs t)) g off vs=w.alloc (.cells (splice cs off vs) t):=by
 subst hg;unfold putAt World.alloc
 congr 1
 apply Array.ext_getElem?;intro k;simp only [Array.getElem?_modify,Array.getElem?_push]
 by_cases hk:k=w.heap.size
 .subst hk;simp
 .simp [hk,Ne.symm hk]
@[go_sem] theorem Sd (o:Obj) (hg:g<w.heap.size):putAt (w.alloc o) g off vs=(putAt w g off vs).alloc o:=by
 unfold putAt World.alloc
 congr 1
 apply Array.ext_getElem?;intro k;simp only [Array.getElem?_modify,Array.getElem?_push,Array.size_modify]
 by_cases hk:k=w.heap.size
 .subst hk;simp [Nat.ne_of_lt hg]
 .simp [hk]
@[go_sem] theorem afe (l l':List Value):splice l.toArray off l'.toArray=(l.take off++l'++l.drop (off+l'.length)).toArray:=by simp [splice]
theorem rR (h:off+vs.size<=cs.size):(splice cs off vs).size=cs.size:=by simp [splice];omega
theorem rQ {i:Nat} (h:off+vs.size<=cs.size) (hi:i<off∨off+vs.size<=i):(splice cs off vs)[i]?=cs[i]?:=by
 simp only [splice,List.getElem?_toArray]
 rcases hi with hi|hi
 .rw [my,List.getElem?_append_left kr,List.getElem?_take,ak hi];simp
 .rw [List.getElem?_append_right kr,List.getElem?_drop]
  simp only [dn,mz,Array.length_toList];rw [show off+vs.size+(i - (min off cs.size+vs.size))=i from by omega];simp
@[go_sem] theorem acF {k:Nat}:aC (putAt w g off vs) k=aC w k:=by
 by_cases h:k=g
 .subst h
  simp only [aC,putAt,Array.getElem?_modify,if_true]
  cases hq:w.heap[k]? with
  |none=>rfl
  |some o=>
   cases o
   case cells c e fr=>obtain⟨lo,hi⟩:=fr;cases lo<;>cases hi<;>rfl
   all_goals rfl
 .simp only [aC,fa h]
@[go_sem] theorem agb {k o n:Nat} (hh:has w g off vs.size=true):has (putAt w g off vs) k o n=has w k o n:=by
 by_cases h:k=g
 .subst h
  unfold has at hh⊢;simp only [putAt,Array.getElem?_modify,if_true]
  cases hq:w.heap[k]? with
  |none=>simp
  |some ob=>
   rw [hq]at hh
   cases ob<;>simp at hh⊢
   rw [rR hh]
 .simp only [has,fa h]
@[go_sem] theorem UL {i:Nat} (hh:has w g off vs.size=true) (hi:i<off∨off+vs.size<=i):(putAt w g off vs).cell? ⟨g,i,none⟩=w.cell? ⟨g,i,none⟩:=by
 unfold has at hh;simp only [World.cell?,putAt,Array.getElem?_modify,if_true]
 cases hq:w.heap[g]? with
 |none=>simp
 |some ob=>
  rw [hq]at hh
  cases ob<;>simp at hh⊢
  rw [rQ hh hi]
@[go_sem] theorem UK {p:Addr} (h:p.block≠g):(putAt w g off vs).cell? p=w.cell? p:=by simp only [World.cell?,fa h]
@[go_sem] theorem ZY {p:Addr}:(putAt w g off vs).frozen? p=w.frozen? p:=by
 by_cases h:p.block=g
 .simp only [World.frozen?,putAt,Array.getElem?_modify,h,if_true]
  cases hq:w.heap[g]? with
  |none=>simp
  |some ob=>cases ob<;>simp
 .simp only [World.frozen?,fa h]
theorem rP {o:Nat} (h:off+vs.size<=cs.size) (hi:o+n<=off∨off+vs.size<=o):((splice cs off vs).toList.drop o).take n=(cs.toList.drop o).take n:=by
 apply List.ext_getElem?;intro j;rw [List.getElem?_take,List.getElem?_take]
 split
 .rw [List.getElem?_drop,List.getElem?_drop]
  have:=rQ (cs:=cs) (vs:=vs) (off:=off) (i:=o+j) h ad
  simpa using this
 .rfl
theorem th (h:off+vs.size<=cs.size) (hn:n=vs.size):((splice cs off vs).toList.drop off).take n=vs.toList:=by
 subst hn;simp only [splice];rw [my,List.drop_append_of_le_length kr,List.drop_of_length_le kr,qx,List.take_append_of_le_length aB,kI aB]
@[go_sem] theorem U9 {o:Nat} (hh:has w g off vs.size=true) (hi:o+n<=off∨off+vs.size<=o):gets (putAt w g off vs) g o n=gets w g o n:=by
 unfold has at hh;simp only [gets,putAt,Array.getElem?_modify,if_true]
 cases hq:w.heap[g]? with
 |none=>simp
 |some ob=>
  rw [hq]at hh
  cases ob<;>simp at hh⊢
  have:=rP (n:=n) hh hi
  simpa using this
@[go_sem] theorem YF (hh:has w g off vs.size=true) (hn:n=vs.size):gets (putAt w g off vs) g off n=vs:=by
 unfold has at hh;simp only [gets,putAt,Array.getElem?_modify,if_true]
 cases hq:w.heap[g]? with
 |none=>rw [hq]at hh;simp at hh
 |some ob=>
  rw [hq]at hh
  cases ob<;>simp at hh⊢
  have:=th (n:=n) hh hn;rw [this]
@[go_sem] theorem U8 {k o:Nat} (h:k≠g):gets (putAt w g off vs) k o n=gets w k o n:=by simp only [gets,fa h]
@[go_sem] theorem abZ {k o n:Nat} {p:Addr} {u:Value}:has (w.setCell p u) k o n=has w k o n:=by
 by_cases h:k=p.block
 .subst h
  simp only [has,World.setCell,Array.getElem?_modify,if_true]
  cases hq:w.heap[p.block]? with
  |none=>simp
  |some ob=>
   cases ob<;>simp
   split<;>simp
 .simp only [has,Below.heap_setCell w p u k h]
@[go_sem] theorem YY {k:Nat} {p:Addr} {u:Value}:aC (w.setCell p u) k=aC w k:=by
 by_cases h:k=p.block
 .subst h
  simp only [aC,World.setCell,Array.getElem?_modify,if_true]
  cases hq:w.heap[p.block]? with
  |none=>simp
  |some ob=>
   cases ob
   case cells c e fr=>obtain⟨lo,hi⟩:=fr;cases lo<;>cases hi<;>simp
   all_goals simp
 .simp only [aC,Below.heap_setCell w p u k h]
theorem ai.has (h:ai w g t cs) (off n:Nat):has w g off n=decide (off+n<=cs.size):=by unfold ai at h;simp [Proofs.YtnhelcmddjbafaaGreatDoor.has,h]
theorem ai.aC (h:ai w g t cs):aC w g=true:=by unfold ai at h;simp [Proofs.YtnhelcmddjbafaaGreatDoor.aC,h]
theorem ai.gets (h:ai w g t cs) (off n:Nat):gets w g off n=((cs.toList.drop off).take n).toArray:=by unfold ai at h;simp [Proofs.YtnhelcmddjbafaaGreatDoor.gets,h]
theorem ai.cw (h:ai w g t cs) (off:Nat) (vs:Array Value):ai (putAt w g off vs) g t (splice cs off vs):=qE h
theorem ai.Co (h:ai w g t cs) (hg:g≠g') (off:Nat) (vs:Array Value):ai (putAt w g' off vs) g t cs:=(fa hg).trans h
theorem Kept.putAt {S:Nat->Prop} {a:World} (h:Kept S a w) (g off:Nat) (vs:Array Value) (hp:g<a.heap.size->S g):Kept S a (putAt w g off vs):=
 h.trans' (S':=(·=g)) ⟨rfl,rfl,rfl,by simp [Proofs.YtnhelcmddjbafaaGreatDoor.putAt],λk _ hn=>fa hn⟩ (λi hi e=>by subst e;exact hp hi)
end
theorem mu {P:Program} {w:World} {ty t:TypeId} {g:Nat} {cs:Array Value} (ha:ga P ty=true) (hs:dr P ty=some cs.size) (hb:ai w g t cs):
 (loadVar ty ⟨g,0,none⟩).run P w=.ok (.agg cs) w:=by
 rw [cD P w ty g 0 cs.size ha hs (by rw [ai.has hb];simp),ai.gets hb];rw [re,kI aB,Array.toArray_toList]
section
variable {P:Program} {fn:Func} {R:Ending->World->Prop} {a:Act} {w:World}
include P fn R a w
theorem bu {p:Tmp} {ty t:TypeId} {g:Nat} {cs:Array Value} (D6:fn.results=#[.cell p ty]) (hd:a.defers=[]) (hp:a.tmps.getD p undef=.pointer (some ⟨g,0,none⟩)) (ha:ga P ty=true) (hs:dr P ty=some cs.size) (hb:ai w g t cs) (hR:R (.returned (.agg cs)) w):bodyPost P fn R .ret a w:=by
 exact Qd
theorem Ke {i j p q:Tmp} {ty eD t t':TypeId} {g:Nat} {cs:Array Value} (D6:fn.results=#[.tmp i,.tmp j,.cell p ty,.cell q eD]) (hd:a.defers=[]) (hp:a.tmps.getD p undef=.pointer (some ⟨g,0,none⟩)) (hq:a.tmps.getD q undef=.pointer (some ⟨g',0,none⟩)) (ha:ga P ty=true) (hs:dr P ty=some cs.size) (hb:ai w g t cs) (Bv:ga P eD=true) (LH:dr P eD=some ZR.size) (jw:ai w g' t' ZR) (hR:R (.returned (.tuple #[a.tmps.getD i undef,a.tmps.getD j undef,.agg cs,.agg ZR])) w):bodyPost P fn R .ret a w:=by
 have hp':a.tmps[p]?.getD undef=.pointer (some ⟨g,0,none⟩):=by simpa using hp
 have hq':a.tmps[q]?.getD undef=.pointer (some ⟨g',0,none⟩):=by simpa using hq
 exact bodyPost_ret (by simp [results,D6,hp',hq',asAddr,mu ha hs hb,mu Bv LH jw]) hd hR
end
theorem tu:∀(xs ys:List Int),xs.length=ys.length->(List.range xs.length).all (λi=>xs.getD i 0==ys.getD i 0)=(xs==ys)
 |[],[],_=>rfl
 |x::xs,y::ys,h=>by
  have ih:=tu xs ys rU;rw [iQ,List.range_succ_eq_map,List.all_cons,List.all_map];simp only [Function.comp_def,List.getD_cons_succ,List.getD_cons_zero];rw [ih];simp [List.cons_beq_cons]
 |[],_::_,h=>by simp at h
 |_::_,[],h=>by simp at h
theorem pC {P:Program} (w:World) (d:Nat) (t e:TypeId) (n:Nat) (k:IntKind) (ht:P.underlying t=some (.array n e)) (he:P.underlying e=some (.int k)) (hsz:∀w,(sizeOf e).run P w=.ok 1 w)
 (xs ys:List Int) (hx:xs.length=n) (hy:ys.length=n):
 (Op.equalIn (d+2) t (.agg (xs.map (Value.int k)).toArray) (.agg (ys.map (Value.int k)).toArray)).run P w=.ok (xs==ys) w:=by
 rw [<-tu xs ys (hx.trans hy.symm),hx,List.range_eq_range',Op.equalIn];simp only [Sem.run_bind,run_underlying ht,Result.andThen_ok,hsz,Std.Legacy.Range.forIn_eq_forIn_range',Std.Legacy.Range.size,Nat.sub_zero,Nat.add_sub_cancel,Nat.div_one];have hl:∀i∈List.range' 0 n 1,i<n:=λi hi=>by simpa using(List.mem_range'_1.1 hi).2
 generalize List.range' 0 n 1=l at hl⊢
 induction l with
 |nil=>simp
 |cons i l ih=>
  have hi:i<n:=hl i aB
  have px:(part e (xs.map (Value.int k)).toArray (i*1)).run P w=.ok (.int k (xs.getD i 0)) w:=by
   simp [part,isAgg,run_underlying he,List.getD,List.getElem?_eq_getElem (show i<xs.length by omega)]
  have py:(part e (ys.map (Value.int k)).toArray (i*1)).run P w=.ok (.int k (ys.getD i 0)) w:=by
   simp [part,isAgg,run_underlying he,List.getD,List.getElem?_eq_getElem (show i<ys.length by omega)]
  have pe:(Op.equalIn (d+1) e (.int k (xs.getD i 0)) (.int k (ys.getD i 0))).run P w=.ok (xs.getD i 0==ys.getD i 0) w:=run_equalIn_int w d e k k _ _ he;simp only [List.forIn_cons,Sem.run_bind,px,py,pe,Result.andThen_ok,List.all_cons]
  cases hb:(xs.getD i 0==ys.getD i 0)
  .simp
  .simp only [uM,Bool.false_eq_true,if_false,Sem.run_pure,Result.andThen_ok,rf]
   exact ih λj hj=>hl j (by simp [hj])
theorem qj {P:Program} {e:TypeId} {n:Nat} (h:dr P e=some n) (w:World):(sizeOf e).run P w=.ok n w:=by
 unfold dr at h
 cases hq:P.info? e with
 |none=>simp [hq]at h
 |some i=>simp [hq]at h;simp [sizeOf,typeInfo,hq,h]
theorem bB {k:IntKind} {a b:Int} (h:a=b):Ending.returned (.int k a)=.returned (.int k b):=by rw [h]
section
variable {w w':World} {g:Nat} {t:TypeId} {cs:Array Value}
theorem kR (S:Nat->Prop) (w:World):Kept S w w:=Kept.refl S w
theorem bX (h:ai w g t cs) (hk:al w w'):ai w' g t cs:=h.ext hk
theorem bC (h:ai w g t cs) (i:Nat):w.cell? ⟨g,i,none⟩=cs[i]? :=h.cell i
theorem bH (h:ai w g t cs) (off n:Nat):has w g off n=decide (off+n<=cs.size):=h.has off n
theorem bG (h:ai w g t cs) (off n:Nat):gets w g off n=((cs.toList.drop off).take n).toArray:=h.gets off n
theorem bK {S:Nat->Prop} (h:ai w g t cs) (hk:Kept S w w') (hs:¬S g):ai w' g t cs:=h.kept hk hs
theorem bN (w:World) (t:TypeId) (cs:Array Value):ai (w.alloc (.cells cs t)) w.heap.size t cs:=ai.new w t cs
theorem pg (w:World):al w w.drew:=(Kept.refl _ w).drew
theorem fU {S:Nat->Prop}:Kept S w w.drew:=(Kept.refl S w).drew
theorem dY (w:World) (o:Obj):Kept (λ_=>False) w (w.alloc o):=(Kept.refl _ w).alloc o
theorem dM {S:Nat->Prop} (w:World) (o:Obj):Kept S w (w.alloc o):=(Kept.refl S w).alloc o
end
end
namespace Mc
variable{pos:String}{after:Array Edge}{guard:Option (Nat×Bool)}{K:Act->World->Prop}{ρ:Operand->Value}
attribute [go_sem↓high] mP
attribute [go_sem high] mP
theorem dU:ga prog 25=true:=by kernel_rfl
theorem vM:dr prog 25=some 8:=by kernel_rfl
theorem Fw {dst:Option Tmp} {eD:TypeId} {x:Operand} {a:Act} {w:World} {Q:Exit->Act->World->Prop} (hx:d' (a.eval x)=true) (hh:has w (aG (a.eval x)) (aH (a.eval x)) 8=true):
 Oper.wp prog ⟨dst,.load 25 x,eD,pos,after,guard⟩ a w K Q=K (a.put dst (.agg (gets w (aG (a.eval x)) (aH (a.eval x)) 8))) w:=aY 8 dU vM hx hh
theorem NS {dst:Option Tmp} {eD:TypeId} {x:Operand} {w:World} (hx:d' (ρ x)=true) (hh:has w (aG (ρ x)) (aH (ρ x)) 8=true):
 (execOp ρ ⟨dst,.load 25 x,eD,pos,after,guard⟩).run prog w=.ok (.value (.agg (gets w (aG (ρ x)) (aH (ρ x)) 8))) w:=aD 8 dU vM hx hh
theorem M8 (w:World) (g off:Nat) (hh:has w g off 8=true):(loadVar 25 ⟨g,off,none⟩).run prog w=.ok (.agg (gets w g off 8)) w:=cD prog w _ g off 8 dU vM hh
attribute [go_sem] dU vM
attribute [go_sem↓high] Fw M8 NS
attribute [go_sem high] Fw
theorem z7:ga prog 24=true:=by kernel_rfl
theorem vL:dr prog 24=some 8:=by kernel_rfl
theorem CU {dst:Option Tmp} {eD:TypeId} {x:Operand} {a:Act} {w:World} {Q:Exit->Act->World->Prop} (hx:d' (a.eval x)=true) (hh:has w (aG (a.eval x)) (aH (a.eval x)) 8=true):
 Oper.wp prog ⟨dst,.load 24 x,eD,pos,after,guard⟩ a w K Q=K (a.put dst (.agg (gets w (aG (a.eval x)) (aH (a.eval x)) 8))) w:=aY 8 z7 vL hx hh
theorem Kk {dst:Option Tmp} {eD:TypeId} {x:Operand} {w:World} (hx:d' (ρ x)=true) (hh:has w (aG (ρ x)) (aH (ρ x)) 8=true):
 (execOp ρ ⟨dst,.load 24 x,eD,pos,after,guard⟩).run prog w=.ok (.value (.agg (gets w (aG (ρ x)) (aH (ρ x)) 8))) w:=aD 8 z7 vL hx hh
theorem JQ (w:World) (g off:Nat) (hh:has w g off 8=true):(loadVar 24 ⟨g,off,none⟩).run prog w=.ok (.agg (gets w g off 8)) w:=cD prog w _ g off 8 z7 vL hh
attribute [go_sem] z7 vL
attribute [go_sem↓high] CU JQ Kk
attribute [go_sem high] CU
theorem rY:ga prog 197=true:=by kernel_rfl
theorem pE:dr prog 197=some 18:=by kernel_rfl
theorem CV {dst:Option Tmp} {eD:TypeId} {x:Operand} {a:Act} {w:World} {Q:Exit->Act->World->Prop} (hx:d' (a.eval x)=true) (hh:has w (aG (a.eval x)) (aH (a.eval x)) 18=true):
 Oper.wp prog ⟨dst,.load 197 x,eD,pos,after,guard⟩ a w K Q=K (a.put dst (.agg (gets w (aG (a.eval x)) (aH (a.eval x)) 18))) w:=aY 18 rY pE hx hh
theorem Kl {dst:Option Tmp} {eD:TypeId} {x:Operand} {w:World} (hx:d' (ρ x)=true) (hh:has w (aG (ρ x)) (aH (ρ x)) 18=true):
 (execOp ρ ⟨dst,.load 197 x,eD,pos,after,guard⟩).run prog w=.ok (.value (.agg (gets w (aG (ρ x)) (aH (ρ x)) 18))) w:=aD 18 rY pE hx hh
theorem JR (w:World) (g off:Nat) (hh:has w g off 18=true):(loadVar 197 ⟨g,off,none⟩).run prog w=.ok (.agg (gets w g off 18)) w:=cD prog w _ g off 18 rY pE hh
attribute [go_sem] rY pE
attribute [go_sem↓high] CV JR Kl
attribute [go_sem high] CV
theorem uU:ga prog 199=true:=by kernel_rfl
theorem sP:dr prog 199=some 37:=by kernel_rfl
theorem zi {dst:Option Tmp} {eD:TypeId} {x:Operand} {a:Act} {w:World} {Q:Exit->Act->World->Prop} (hx:d' (a.eval x)=true) (hh:has w (aG (a.eval x)) (aH (a.eval x)) 37=true):
 Oper.wp prog ⟨dst,.load 199 x,eD,pos,after,guard⟩ a w K Q=K (a.put dst (.agg (gets w (aG (a.eval x)) (aH (a.eval x)) 37))) w:=aY 37 uU sP hx hh
theorem Hp {dst:Option Tmp} {eD:TypeId} {x:Operand} {w:World} (hx:d' (ρ x)=true) (hh:has w (aG (ρ x)) (aH (ρ x)) 37=true):
 (execOp ρ ⟨dst,.load 199 x,eD,pos,after,guard⟩).run prog w=.ok (.value (.agg (gets w (aG (ρ x)) (aH (ρ x)) 37))) w:=aD 37 uU sP hx hh
theorem Gx (w:World) (g off:Nat) (hh:has w g off 37=true):(loadVar 199 ⟨g,off,none⟩).run prog w=.ok (.agg (gets w g off 37)) w:=cD prog w _ g off 37 uU sP hh
attribute [go_sem] uU sP
attribute [go_sem↓high] zi Gx Hp
attribute [go_sem high] zi
structure Dg where (x0 x1 x2 x3 x4 x5 x6 x7:Int)
abbrev D (d:Dg):Value:=.agg #[.int .u8 d.x0,.int .u8 d.x1,.int .u8 d.x2,.int .u8 d.x3,.int .u8 d.x4,.int .u8 d.x5,.int .u8 d.x6,.int .u8 d.x7]
abbrev Dg.cells (d:Dg):Array Value:=#[.int .u8 d.x0,.int .u8 d.x1,.int .u8 d.x2,.int .u8 d.x3,.int .u8 d.x4,.int .u8 d.x5,.int .u8 d.x6,.int .u8 d.x7]
attribute [go_sem] D Dg.cells
theorem abT (w:World) (d:Nat) (a0 a1 a2 a3 a4 a5 a6 a7 b0 b1 b2 b3 b4 b5 b6 b7:Int):
 (Op.equalIn (d+2) 25 (.agg #[.int .u8 a0,.int .u8 a1,.int .u8 a2,.int .u8 a3,.int .u8 a4,.int .u8 a5,.int .u8 a6,.int .u8 a7]) (.agg #[.int .u8 b0,.int .u8 b1,.int .u8 b2,.int .u8 b3,.int .u8 b4,.int .u8 b5,.int .u8 b6,.int .u8 b7])).run prog w=
  .ok ([a0,a1,a2,a3,a4,a5,a6,a7]==[b0,b1,b2,b3,b4,b5,b6,b7]) w:=
 pC w d _ 5 8 .u8 underlying25 underlying5 (λw=>qj aV w) [a0,a1,a2,a3,a4,a5,a6,a7] [b0,b1,b2,b3,b4,b5,b6,b7] rfl rfl
theorem adX (w:World) (a0 a1 a2 a3 a4 a5 a6 a7 b0 b1 b2 b3 b4 b5 b6 b7:Int):
 (Op.equalIn 10000 25 (.agg #[.int .u8 a0,.int .u8 a1,.int .u8 a2,.int .u8 a3,.int .u8 a4,.int .u8 a5,.int .u8 a6,.int .u8 a7]) (.agg #[.int .u8 b0,.int .u8 b1,.int .u8 b2,.int .u8 b3,.int .u8 b4,.int .u8 b5,.int .u8 b6,.int .u8 b7])).run prog w=
  .ok ([a0,a1,a2,a3,a4,a5,a6,a7]==[b0,b1,b2,b3,b4,b5,b6,b7]) w:=abT w 9998 _ _ _ _ _ _ _ _ _ _ _ _ _ _ _ _
theorem U':prog.eqGuardType prog.depth 25=false:=by kernel_rfl
attribute [go_sem] adX U'
abbrev Dg.zero:Dg:=⟨0,0,0,0,0,0,0,0⟩
structure Tr where (from_ steps:Int) (before after program:Dg) (size turn:Int) (mid:Dg) (jl:Int)
abbrev Tr.cells (t:Tr):Array Value:=#[.int .i64 t.from_,.int .i64 t.steps,
 .int .u8 t.before.x0,.int .u8 t.before.x1,.int .u8 t.before.x2,.int .u8 t.before.x3,.int .u8 t.before.x4,.int .u8 t.before.x5,.int .u8 t.before.x6,.int .u8 t.before.x7,
 .int .u8 t.after.x0,.int .u8 t.after.x1,.int .u8 t.after.x2,.int .u8 t.after.x3,.int .u8 t.after.x4,.int .u8 t.after.x5,.int .u8 t.after.x6,.int .u8 t.after.x7,
 .int .u8 t.program.x0,.int .u8 t.program.x1,.int .u8 t.program.x2,.int .u8 t.program.x3,.int .u8 t.program.x4,.int .u8 t.program.x5,.int .u8 t.program.x6,.int .u8 t.program.x7,
 .int .i64 t.size,.int .i64 t.turn,
 .int .u8 t.mid.x0,.int .u8 t.mid.x1,.int .u8 t.mid.x2,.int .u8 t.mid.x3,.int .u8 t.mid.x4,.int .u8 t.mid.x5,.int .u8 t.mid.x6,.int .u8 t.mid.x7,
 .int .i64 t.jl]
attribute [go_sem] Tr.cells
abbrev At (w:World) (b:Nat) (t:Tr):Prop:=ai w b 199 t.cells
section
variable {w:World} {b:Nat} {t:Tr}
include w b t
theorem At.cell (h:At w b t) (i:Nat):w.cell? ⟨b,i,none⟩=t.cells[i]?:=bC h i
theorem At.frozen (h:At w b t) (i:Nat):w.frozen? ⟨b,i,none⟩=false:=ai.frozen h i
theorem At.of {cs:Array Value} (h:ai w b 199 cs) (e:cs=t.cells):At w b t:=by subst e;exact h
end
theorem Xw (b:Nat) (t:Tr) (w:World) (ht:At w b t):
 Calls prog 66 #[.pointer (some ⟨b,0,none⟩)] w λe w'=>e=.returned (.int .i64 t.turn)/\w=w':=by
 have hc:=ht.cell;go_enter func66,ntmps66
 go_wp2
 go_ret;exact⟨rfl,rfl⟩
section
variable (b:Nat) (t:Tr) (H5:Int) (one:Bool) (w:World) (ht:At w b t)
include b t H5 one w ht
theorem Ma (h:t.turn=-1):
 Calls prog 121 #[.pointer (some ⟨b,0,none⟩),.int .i64 H5,.bool one] w λe w'=>e=.returned (.int .i64 15)/\w=w':=by
 have hc:=ht.cell;go_enter func121,ntmps121
 go_wp2
 go_ret;exact⟨rfl,rfl⟩
theorem Qv (h:(t.turn== -1)=false) (h2:(t.turn !=H5)=true):
 Calls prog 121 #[.pointer (some ⟨b,0,none⟩),.int .i64 H5,.bool one] w λe w'=>e=.returned (.int .i64 10)/\w=w':=by
 have hc:=ht.cell;go_enter func121,ntmps121
 go_wp2
 go_ret;exact⟨rfl,rfl⟩
end
theorem Qw (b:Nat) (t:Tr) (H5:Int) (one s:Bool) (w:World) (ht:At w b t) (h:(t.turn== -1)=false) (h2:(t.turn !=H5)=false) (h3:(t.steps==1)=s):
 Calls prog 121 #[.pointer (some ⟨b,0,none⟩),.int .i64 H5,.bool one] w λe w'=>e=.returned (.int .i64 (if s !=one then 10 else 0))/\w=w':=by
 have hc:=ht.cell
 cases s<;>cases one
 all_goals
  go_enter func121,ntmps121
  go_wp2
  go_ret;exact⟨rfl,rfl⟩
def dL (t:Tr) (H5:Int) (one:Bool):Int:=if t.turn== -1 then 15 else if t.turn !=H5 then 10 else if (t.steps==1) !=one then 10 else 0
section
variable (b:Nat) (t:Tr)
include b t
theorem kP (H5:Int) (one:Bool) (w:World) (ht:At w b t):
 Calls prog 121 #[.pointer (some ⟨b,0,none⟩),.int .i64 H5,.bool one] w λe w'=>e=.returned (.int .i64 (dL t H5 one))/\w=w':=by
 unfold dL
 cases h:t.turn== -1
 .cases h2:t.turn !=H5
  .simpa using Qw b t H5 one _ w ht h h2 rfl
  .simpa using Qv b t H5 one w ht h h2
 .simpa using Ma b t H5 one w ht rU
theorem XG (H5:Int) (w:World) (ht:At w b t):
 Calls prog 119 #[.pointer (some ⟨b,0,none⟩),.int .i64 H5] w λe w'=>e=.returned (.tuple #[])/\At w' b {t with turn:=-1,jl:=H5}/\Kept (·=b) w w':=by
 have hc:=ht.cell;have hf:=ht.frozen;have hh:=bH ht;have hm:=ai.aC ht;have hg:=bG ht;go_enter func119,ntmps119
 go_wp2
 go_end0;refine⟨rfl,At.of ((ai.eK (ai.eK ht _ _) _ _)) rfl,?_⟩
 ((repeat' (with_reducible (first|apply Kept.drew|apply Kept.drewN|apply Kept.alloc|apply Kept.setCell|apply Kept.putAt|exact kR _ _)))<;>(intro aP;first|rfl|(simp at aP;done)|(exfalso;simp at aP;omega)|omega))
theorem aaQ (d:Dg) (w:World) (ht:At w b t) (h:(dL t 0 false==0)=false):
 Calls prog 63 #[.pointer (some ⟨b,0,none⟩),D d] w λe w'=>e=.returned (.int .i64 (dL t 0 false))/\At w' b t/\Kept (·=b) w w':=by
 go_enter func63,ntmps63;go_wp2_with (go_at_call 121;refine(kP b t _ _ _ (ai.alloc ht _)).mono ?_;rintro e w' ⟨rfl,rfl⟩);go_ret;exact⟨rfl,ai.alloc ht _,dM _ _⟩
theorem aaR (d:Dg) (w:World) (ht:At w b t) (h:dL t 0 false=0):
 Calls prog 63 #[.pointer (some ⟨b,0,none⟩),D d] w λe w'=>e=.returned (.int .i64 0)/\At w' b {t with mid:=d,turn:=1}/\Kept (·=b) w w':=by
 have aP:b<w.heap.size:=ai.lt ht;have hc:=ht.cell;have hf:=ht.frozen;have hh:=bH ht;have hm:=ai.aC ht;have hg:=bG ht;go_enter func63,ntmps63;go_wp2_with (go_at_call 121;refine(kP b t _ _ _ (ai.alloc ht _)).mono ?_;rintro e w' ⟨rfl,rfl⟩);go_ret;refine⟨rfl,?_,?_⟩
 ·(apply At.of;(· (repeat' (with_reducible (first|assumption|apply ai.eK|apply ai.cw|apply ai.alloc|apply ai.drew|apply ai.drewN))));(· kernel_rfl))
 ·((repeat' (with_reducible (first|apply Kept.drew|apply Kept.drewN|apply Kept.alloc|apply Kept.setCell|apply Kept.putAt|exact kR _ _)))<;>(intro aP;first|rfl|(simp at aP;done)|(exfalso;simp at aP;omega)|omega))
end
def CK (t:Tr) (d:Dg):Tr:=if dL t 0 false=0 then{t with mid:=d,turn:=1}else t
theorem Xr (b:Nat) (t:Tr) (d:Dg) (w:World) (ht:At w b t):
 Calls prog 63 #[.pointer (some ⟨b,0,none⟩),D d] w λe w'=>e=.returned (.int .i64 (dL t 0 false))/\At w' b (CK t d)/\Kept (·=b) w w':=by
 unfold CK
 by_cases h:dL t 0 false=0
 .rw [ak h,h];exact aaR b t d w ht h
 .rw [af h];exact aaQ b t d w ht rU
structure Sp where (from_ steps:Int) (before after:Dg)
abbrev Sp.cells (t:Sp):Array Value:=#[.int .i64 t.from_,.int .i64 t.steps,
 .int .u8 t.before.x0,.int .u8 t.before.x1,.int .u8 t.before.x2,.int .u8 t.before.x3,.int .u8 t.before.x4,.int .u8 t.before.x5,.int .u8 t.before.x6,.int .u8 t.before.x7,
 .int .u8 t.after.x0,.int .u8 t.after.x1,.int .u8 t.after.x2,.int .u8 t.after.x3,.int .u8 t.after.x4,.int .u8 t.after.x5,.int .u8 t.after.x6,.int .u8 t.after.x7]
attribute [go_sem] Sp.cells
section
variable (s:Sp) (m:Dg) (w:World) (h0:0<=s.steps) (h1:s.steps<=1048576)
include s m w h0 h1
theorem QX:
 Calls prog 122 #[.agg #[.int .i64 s.from_,.int .i64 s.steps,.int .u8 s.before.x0,.int .u8 s.before.x1,.int .u8 s.before.x2,.int .u8 s.before.x3,.int .u8 s.before.x4,.int .u8 s.before.x5,.int .u8 s.before.x6,.int .u8 s.before.x7,.int .u8 s.after.x0,.int .u8 s.after.x1,.int .u8 s.after.x2,.int .u8 s.after.x3,.int .u8 s.after.x4,.int .u8 s.after.x5,.int .u8 s.after.x6,.int .u8 s.after.x7],.agg #[.int .u8 m.x0,.int .u8 m.x1,.int .u8 m.x2,.int .u8 m.x3,.int .u8 m.x4,.int .u8 m.x5,.int .u8 m.x6,.int .u8 m.x7]] w λe w'=>e=.returned (.agg (Sp.cells ⟨s.from_,s.steps / 2,s.before,m⟩))/\al w w':=by
 go_enter func122,ntmps122
 go_wp2
 refine bu results122 rfl rfl rY (by exact pE) (ai.ea _ _ _ _ aB) ⟨rfl,?_⟩
 ((repeat' (with_reducible (first|apply Kept.drew|apply Kept.drewN|apply Kept.alloc|apply Kept.setCell|apply Kept.putAt|exact kR _ _)))<;>(intro aP;first|rfl|(simp at aP;done)|(exfalso;simp at aP;omega)|omega))
theorem N3 (h2:0<=s.from_) (h3:s.from_<=1048576):
 Calls prog 123 #[.agg #[.int .i64 s.from_,.int .i64 s.steps,.int .u8 s.before.x0,.int .u8 s.before.x1,.int .u8 s.before.x2,.int .u8 s.before.x3,.int .u8 s.before.x4,.int .u8 s.before.x5,.int .u8 s.before.x6,.int .u8 s.before.x7,.int .u8 s.after.x0,.int .u8 s.after.x1,.int .u8 s.after.x2,.int .u8 s.after.x3,.int .u8 s.after.x4,.int .u8 s.after.x5,.int .u8 s.after.x6,.int .u8 s.after.x7],.agg #[.int .u8 m.x0,.int .u8 m.x1,.int .u8 m.x2,.int .u8 m.x3,.int .u8 m.x4,.int .u8 m.x5,.int .u8 m.x6,.int .u8 m.x7]] w λe w'=>e=.returned (.agg (Sp.cells ⟨s.from_+s.steps / 2,s.steps - s.steps / 2,m,s.after⟩))/\al w w':=by
 go_enter func123,ntmps123
 go_wp2
 refine bu results123 rfl rfl rY (by exact pE) (ai.ea _ _ _ _ aB) ⟨rfl,?_⟩
 ((repeat' (with_reducible (first|apply Kept.drew|apply Kept.drewN|apply Kept.alloc|apply Kept.setCell|apply Kept.putAt|exact kR _ _)))<;>(intro aP;first|rfl|(simp at aP;done)|(exfalso;simp at aP;omega)|omega))
end
theorem Oj (b:Nat) (t:Tr) (w:World) (ht:At w b t):
 Calls prog 120 #[.pointer (some ⟨b,0,none⟩)] w λe w'=>e=.returned (.tuple #[.int .i64 t.jl,.bool (t.jl != -1)])/\al w w':=by
 have hc:=ht.cell;go_enter func120,ntmps120
 go_wp2
 go_quiet (fail)
 go_wp2
 go_ret2
 exact acY
theorem QH (b:Nat) (t:Tr) (f:Bool) (w:World) (ht:At w b t) (h:(dL t 1 false==0)=false):
 Calls prog 65 #[.pointer (some ⟨b,0,none⟩),.bool f] w λe w'=>e=.returned (.int .i64 (dL t 1 false))/\At w' b t/\Kept (·=b) w w':=by
 go_enter func65,ntmps65;go_wp2_with (go_at_call 121;refine(kP b t _ _ _ ht).mono ?_;rintro e w' ⟨rfl,rfl⟩);go_ret;exact⟨rfl,ht,kR _ _⟩
end Mc
section
variable{listed:Array Bool}{oi:Oper}{fuel:Nat}
section
variable {P:Program} {ops:Array Oper} {Q:Exit->Act->World->Prop} {S:World->Prop} {md:Region.Mode} {ex:Nat->Bool}
def Down (md:Region.Mode) (ops:Array Oper) (listed:Array Bool):Prop:=
 ∀(j:Nat) (oj:Oper),ops[j]?=some oj->listed.getD j false=true->∀e∈oj.after,Region.binds md e=true->listed.getD e.on false=true
def dpL (md:Region.Mode):List Edge->Nat|[]=>0|e::r=>(if Region.binds md e then 2^e.on else 0)|||dpL md r
def tS (md:Region.Mode) (ops:Array Oper) (k:Nat):Nat:=match ops[k]? with|some o=>dpL md o.after.toList|none=>0
def o3 (md:Region.Mode) (ops:Array Oper):Nat->Nat->Nat
 |0,m=>m
 |k+1,m=>o3 md ops k (if m.testBit k then m|||tS md ops k else m)
theorem O3 (md:Region.Mode):∀{l:List Edge} {i:Nat},(dpL md l).testBit i=true->∃e∈l,Region.binds md e=true/\e.on=i
 |[],i,h=>by simp [dpL]at h
 |e::r,i,h=>by
  simp only [dpL,Nat.testBit_or,Bool.or_eq_true]at h
  rcases h with h|h
  .split at h
   .rename_i hb
    rw [Nat.testBit_two_pow]at h;exact⟨e,by simp,hb,by simpa using h⟩
   .simp at h
  .obtain⟨e',he,hb,hi⟩:=O3 md h
   exact⟨e',by simp [he],hb,hi⟩
theorem tT {md:Region.Mode} {ops:Array Oper} {k i:Nat} (h:(tS md ops k).testBit i=true):∃o,ops[k]?=some o/\∃e∈o.after,Region.binds md e=true/\e.on=i:=by
 unfold tS at h
 split at h
 .rename_i o ho
  obtain⟨e,he,hb,hi⟩:=O3 md h;exact⟨o,ho,e,by simpa using he,hb,hi⟩
 .simp at h
theorem ml {md:Region.Mode} {ops:Array Oper} (hd:Down md ops listed):∀(k m:Nat),(∀i,m.testBit i=true->listed.getD i false=true)->
 ∀i,(o3 md ops k m).testBit i=true->listed.getD i false=true
 |0,m,h=>h
 |k+1,m,h=>by
  refine ml hd k _ λi hi=>?_
  split at hi
  .rename_i hk
   rw [Nat.testBit_or,Bool.or_eq_true]at hi
   rcases hi with hi|hi
   .exact h i hi
   .obtain⟨o,ho,e,he,hb,rfl⟩:=tT hi
    exact hd k o ho (h k hk) e he hb
  .exact h i hi
theorem Down.set {md:Region.Mode} {ops:Array Oper} {j:Nat} (hd:Down md ops listed) (hj:j∈Region.ready md ops listed):Down md ops (listed.setIfInBounds j true):=by
 obtain⟨_,oj,Rr,hall⟩:=mem_ready.1 hj;intro k ok hk hl e he hb
 by_cases hkj:j=k
 .subst hkj
  rw [Rr]at hk;injection hk with hk;subst hk;exact getD_set_true (hall e he hb)
 .rw [getD_set_ne false hkj]at hl
  exact getD_set_true (hd k ok hk hl e he hb)
theorem Down.init {md:Region.Mode} {ops:Array Oper} (n:Nat):Down md ops (Array.replicate n false):=by
 intro j oj _ hl
 exfalso
 rcases Nat.lt_or_ge j n with h|h
 .simp [h]at hl
 .simp [Array.getElem?_eq_none (show(Array.replicate n false).size<=j by simpa using h)]at hl
def oP (P:Program) (md:Region.Mode) (ops:Array Oper) (Q:Exit->Act->World->Prop) (S:World->Prop) (ex:Nat->Bool):Nat->Array Bool->Act->World->Prop
 |0,listed,a,w=>Region.ready md ops listed=[]/\Q .normal a w
 |fuel+1,listed,a,w=>
  (Region.ready md ops listed=[]->Q .normal a w)/\
  ∀i∈Region.ready md ops listed,wpOp P ops Q i (λa' w'=>(ex i=true∨S w')/\oP P md ops Q S ex fuel (listed.setIfInBounds i true) a' w') a w
theorem CT:∀(fuel:Nat) (listed:Array Bool) (a:Act) (w:World),oP P md ops Q S ex fuel listed a w->wpAny P md ops Q fuel listed a w
 |0,_,_,_,h=>h
 |fuel+1,_,_,_,h=>⟨h.1,λi hi=>wpOp_mono (λa' w' h'=>CT fuel _ a' w' h'.2) (h.2 i hi)⟩
theorem H' {i:Nat} {v:Value} (hi:ops[i]?=some oi) (aaj:∀(j:Nat) (o:Oper) cs b,ops[j]?=some o->o.op≠ .select cs b)
 (hQ:∀c a w,Q (.panic c) (a.put oi.dst v) w->Q (.panic c) a w)
 (hex:∀j listed,Down md ops listed->j∈Region.ready md ops listed->j≠i->ex j=true->listed.getD i false=true):
 ∀(fuel:Nat) (listed:Array Bool) (a:Act) (w:World),Down md ops listed->
  (∀j oj,ops[j]?=some oj->j≠i->listed.getD j true=false->(∀e∈oj.after,Region.binds md e=true->e.on≠i)->oi.apart ops oj=true)->
  i∈Region.ready md ops listed->YieldsIf P ops S oi v a->S w->
  oP P md ops Q S ex fuel (listed.setIfInBounds i true) (a.put oi.dst v) w->oP P md ops Q S ex (fuel+1) listed a w:=by
 intro fuel
 induction fuel with
 |zero=>
  intro listed a w _ _ hr hy hS H;refine⟨λh=>Ta,λj hj=>?_⟩
  by_cases yi:j=i
  .subst yi;exact hy.wpOp hi hS ⟨.inr hS,H⟩
  .have:=ready_mono hj yi
   rw [H.1]at this
   cases this
 |succ fuel ih=>
  intro listed a w qN Ph hr hy hS H;refine⟨λh=>Ta,λj hj=>?_⟩
  by_cases yi:j=i
  .subst yi;exact hy.wpOp hi hS ⟨.inr hS,H⟩
  .have h1:=H.2 j (ready_mono hj yi)
   obtain⟨aaf,oj,Rr,hall⟩:=mem_ready.1 hj
   have aeu:∀e∈oj.after,Region.binds md e=true->e.on≠i:=λe he hb heq=>by
    exact alh
   have aet:ex j=true->False:=λh=>by
    exact alj
   refine afB ?_;intro h2 ua a' w' h3;have qW:S w':=h3.2.1.elim (λh=>(aet h).elim) id;refine⟨.inr qW,ih (listed.setIfInBounds j true) a' w' (qN.set hj) ua (ready_mono hr (Ne.symm yi)) h3.1 qW ?_⟩;rw [Array.setIfInBounds_comm _ _ yi];exact h3.2.2
theorem K3 {i:Nat} {v:Value} {a:Act} {w:World} (qN:Down md ops listed) (hi:ops[i]?=some oi)
 (hs:Region.noSelect ops=true) (hf:Region.free md ops listed i=true) (hr:(Region.ready md ops listed).contains i=true)
 (hex:∀j listed,Down md ops listed->j∈Region.ready md ops listed->j≠i->ex j=true->listed.getD i false=true)
 (hQ:∀c a w,Q (.panic c) (a.put oi.dst v) w->Q (.panic c) a w) (hy:YieldsIf P ops S oi v a) (hS:S w)
 (h:oP P md ops Q S ex fuel (listed.setIfInBounds i true) (a.put oi.dst v) w):oP P md ops Q S ex (fuel+1) listed a w:=
 H' hi (Region.noSelect_spec hs) hQ hex fuel listed a w qN (Region.free_spec hi hf) (by simpa using hr) hy hS h
theorem Ol {rs:List Nat} {a:Act} {w:World} (hr:Region.ready md ops listed=rs) (iF:rs≠[])
 (h:∀i∈rs,wpOp P ops Q i (λa' w'=>(ex i=true∨S w')/\oP P md ops Q S ex fuel (listed.setIfInBounds i true) a' w') a w):oP P md ops Q S ex (fuel+1) listed a w:=
 ⟨λh0=>absurd (hr▸h0) iF,hr▸h⟩
theorem K2 {a:Act} {w:World} (hr:Region.ready md ops listed=[]) (h:Q .normal a w):
 ∀fuel,oP P md ops Q S ex fuel listed a w
 |0=>⟨hr,h⟩
 |_+1=>⟨λ_=>h,by rw [hr];simp⟩
def exB (md:Region.Mode) (ops:Array Oper) (fs:List Bool) (j:Nat):Bool:=
 (List.range fs.length).all λi=>!(fs.getD i false)||i==j||(o3 md ops j (tS md ops j)).testBit i
theorem U0 {fs:List Bool} {i j:Nat} (hf:fs[i]?=some true) (hd:Down md ops listed) (hj:j∈Region.ready md ops listed) (iF:j≠i) (h:exB md ops fs j=true):
 listed.getD i false=true:=by
 have hi:i<fs.length:=(List.getElem?_eq_some_iff.1 hf).1;have h1:=List.all_eq_true.1 h i (List.mem_range.2 hi);have hg:fs.getD i false=true:=by simp [List.getD,hf]
 simp only [hg,uM,Bool.false_or,Bool.or_eq_true,beq_iff_eq]at h1
 rcases h1 with h1|h1
 .exact absurd h1.symm iF
 .obtain⟨_,oj,Rr,hall⟩:=mem_ready.1 hj
  refine ml hd j _ (λx hx=>?_) i h1;obtain⟨o,ho,e,he,hb,rfl⟩:=tT hx;rw [Rr]at ho;injection ho with ho;subst ho;exact hall e he hb
def J6 (md:Region.Mode) (ops:Array Oper):List Bool->Nat->Array Bool->Bool
 |[],_,listed=>(Region.ready md ops listed).isEmpty
 |true::r,i,listed=>Region.free md ops listed i&&(Region.ready md ops listed).contains i&&J6 md ops r (i+1) (listed.setIfInBounds i true)
 |false::r,i,listed=>(Region.ready md ops listed==[i])&&J6 md ops r (i+1) (listed.setIfInBounds i true)
def tG (Q:Exit->Act->World->Prop):Exit->Act->World->Prop
 | .normal,a,w=>Q .normal a w
 |_,_,_=>False
def nY (P:Program) (ops:Array Oper) (Q:Exit->Act->World->Prop) (S:World->Prop) (fs:List Bool):Nat->List Oper->List Bool->Act->World->Prop
 |_,[],[],a,w=>Q .normal a w
 |k,o::l,true::r,a,w=>S w/\∃v,YieldsIf P ops S o v a/\nY P ops Q S fs (k+1) l r (a.put o.dst v) w
 |k,o::l,false::r,a,w=>
  if Region.wanted o (yielded ops a.tmps)then o.wp P a w (λa' w'=>(exB .any ops fs k=true∨S w')/\nY P ops Q S fs (k+1) l r a' w') (tG Q)∨(o.asks P a w/\LetsOut (tG Q))
  else(exB .any ops fs k=true∨S w)/\nY P ops Q S fs (k+1) l r (a.put o.dst undef) w
 |_,_,_,_,_=>False
theorem qp {fs:List Bool} (hs:Region.noSelect ops=true):∀(l:List Oper) (r:List Bool) (i fuel:Nat) (listed:Array Bool) (a:Act) (w:World),l.length<=fuel->(∀j,l[j]?=ops[i+j]?)->(∀j,r[j]?=fs[i+j]?)->Down .any ops listed->
 J6 .any ops r i listed=true->nY P ops Q S fs i l r a w->oP P .any ops (tG Q) S (exB .any ops fs) fuel listed a w
 |[],[],i,fuel,listed,a,w,_,_,_,_,hB,h=>K2 (Q:=tG Q) (by simpa [J6]using hB) h fuel
 |[],_::_,i,fuel,listed,a,w,_,_,_,_,_,h=>by simp [nY]at h
 |_::_,[],i,fuel,listed,a,w,_,_,_,_,_,h=>by simp [nY]at h
 |_::_,_::_,i,0,listed,a,w,hf,_,_,_,_,_=>by simp at hf
 |o::l,true::r,i,fuel+1,listed,a,w,hf,hl,hr,qN,hB,h=>by
  obtain⟨hS,v,hy,h⟩:=h;simp only [J6,gR]at hB;have ho:ops[i]?=some o:=by simpa using(hl 0).symm
  have hfi:fs[i]?=some true:=by simpa using(hr 0).symm
  exact K3 qN ho hs hB.1.1 hB.1.2 (λj l hd hj iF hx=>U0 hfi hd hj iF hx) (λ_ _ _ x=>x) hy hS (qp hs l r (i+1) fuel _ _ w (by simpa using hf)
   (λj=>by have:=hl (j+1);simpa [gw,Nat.add_comm 1 j]using this) (λj=>by have:=hr (j+1);simpa [gw,Nat.add_comm 1 j]using this) (qN.set XT) hB.2 h)
 |o::l,false::r,i,fuel+1,listed,a,w,hf,hl,hr,qN,hB,h=>by
  simp only [J6,gR,beq_iff_eq]at hB;have ho:ops[i]?=some o:=by simpa using(hl 0).symm
  have YO:∀j,l[j]?=ops[i+1+j]?:=λj=>by have:=hl (j+1);simpa [gw,Nat.add_comm 1 j]using this
  have Gk:∀j,r[j]?=fs[i+1+j]?:=λj=>by have:=hr (j+1);simpa [gw,Nat.add_comm 1 j]using this
  refine Ol hB.1 aB λj hj=>?_;obtain rfl:j=i:=by simpa using hj
  have h1:wpOp P ops (tG Q) j (λa' w'=>(exB .any ops fs j=true∨S w')/\nY P ops Q S fs (j+1) l r a' w') a w:=by
   unfold wpOp;rw [ho];exact h
  exact wpOp_mono (λa' w' h'=>⟨h'.1,qp hs l r (j+1) fuel _ a' w' (by simpa using hf) YO Gk (qN.set (by rw [hB.1];simp)) hB.2 h'.2⟩) h1
theorem tG.imp:∀(e:Exit) (a:Act) (w:World),tG Q e a w->Q e a w:=λe a w h=>by
 cases e<;>first|exact h|exact h.elim
theorem mO {id:Nat} {a:Act} {w:World} {l:List Oper} (S:World->Prop) (fs:List Bool) (hm:P.follows .mixedOrders=true) (hs:Region.noSelect l.toArray=true)
 (hB:J6 .any l.toArray fs 0 (Array.replicate l.toArray.size false)=true)
 (h:nY P l.toArray Q S fs 0 l fs a w.drew):(Code.region id l.toArray true).wp P Q a w:=
 Code.wp_mono tG.imp (wp_region_any hm (CT _ _ _ _ (qp hs l fs 0 _ _ a _ aB aB aB (Down.init _) hB h)))
theorem Ia {id:Nat} {a:Act} {w:World} {l:List Oper} (fs:List Bool) (hm:P.follows .mixedOrders=true) (hs:Region.noSelect l.toArray=true)
 (hB:J6 .any l.toArray fs 0 (Array.replicate l.toArray.size false)=true)
 (h:nY P l.toArray Q (λw1=>w1=w.drew) fs 0 l fs a w.drew):(Code.region id l.toArray true).wp P Q a w:=mO _ fs hm hs hB h
variable {fs:List Bool} {k:Nat}
theorem wi {a:Act} {w:World} (h:Q .normal a w):nY P ops Q S fs k [] [] a w:=h
theorem sV {l:List Oper} {r:List Bool} {a:Act} {w:World} {o:Oper} {v:Value} (hS:S w) (hw:Region.wanted o (yielded ops a.tmps)=true)
 (hy:∀w',S w'->(execOp a.eval o).run P w'=.ok (.value v) w') (h:∀K:Act->World->Prop,(∀a w,nY P ops Q S fs (k+1) l r a w->K a w)->K (a.put o.dst v) w):nY P ops Q S fs k (o::l) (true::r) a w:=
 ⟨hS,v,.inl ⟨hw,hy⟩,h _ (λ_ _ h=>h)⟩
theorem sU {l:List Oper} {r:List Bool} {a:Act} {w:World} {o:Oper} (hS:S w) (hw:Region.wanted o (yielded ops a.tmps)=false)
 (h:∀K:Act->World->Prop,(∀a w,nY P ops Q S fs (k+1) l r a w->K a w)->K (a.put o.dst undef) w):nY P ops Q S fs k (o::l) (true::r) a w:=
 ⟨hS,undef,.inr ⟨hw,rfl⟩,h _ (λ_ _ h=>h)⟩
theorem rT {l:List Oper} {r:List Bool} {a:Act} {w:World} {o:Oper}
 (h:∀K:Act->World->Prop,Shut (∀a' w',S w'->(S w'->nY P ops Q S fs (k+1) l r a' w')->K a' w')->if Region.wanted o (yielded ops a.tmps)=true then Oper.wp P o a w K (tG Q)else K (a.put o.dst undef) w):
 nY P ops Q S fs k (o::l) (false::r) a w:=by
 have h:=h (λa' w'=>(exB .any ops fs k=true∨S w')/\nY P ops Q S fs (k+1) l r a' w') (λa' w' hS h=>⟨.inr hS,h hS⟩);unfold nY
 split
 .rename_i hw;rw [ak hw]at h;exact .inl h
 .rename_i hw;rw [af hw]at h;exact h
theorem C0 {l:List Oper} {r:List Bool} {a:Act} {w:World} {o:Oper} (hx:exB .any ops fs k=true)
 (h:∀K:Act->World->Prop,Shut (∀a' w',nY P ops Q S fs (k+1) l r a' w'->K a' w')->if Region.wanted o (yielded ops a.tmps)=true then Oper.wp P o a w K (tG Q)else K (a.put o.dst undef) w):
 nY P ops Q S fs k (o::l) (false::r) a w:=by
 have h:=h (λa' w'=>(exB .any ops fs k=true∨S w')/\nY P ops Q S fs (k+1) l r a' w') (λa' w' h=>⟨.inl hx,h⟩);unfold nY
 split
 .rename_i hw;rw [ak hw]at h;exact .inl h
 .rename_i hw;rw [af hw]at h;exact h
end
end
namespace Mc
section
variable (b:Nat) (t:Tr) (w:World) (ht:At w b t) (h:dL t 1 false=0) (h0:0<=t.steps) (h1:t.steps<=1048576)
include b t w ht h h0 h1
theorem FX:
 Calls prog 65 #[.pointer (some ⟨b,0,none⟩),.bool true] w λe w'=>e=.returned (.int .i64 0)/\At w' b {t with steps:=t.steps / 2,after:=t.mid,mid:=Dg.zero,turn:=0}/\Kept (·=b) w w':=by
 have aP:b<w.heap.size:=ai.lt ht;go_enter func65,ntmps65;go_wp2_with (go_at_call 121;refine(kP b t _ _ _ ht).mono ?_;rintro e w' ⟨rfl,rfl⟩);refine ajQ ?_;refine rT (λK hK=>?_);go_simp;go_wp2_with (go_at_call 122;refine(QX ⟨t.from_,t.steps,t.before,t.after⟩ t.mid _ h0 h1).mono ?_;rintro e w' ⟨rfl,hx⟩);exact akm
theorem DR (h2:0<=t.from_) (h3:t.from_<=1048576):
 Calls prog 65 #[.pointer (some ⟨b,0,none⟩),.bool false] w λe w'=>e=.returned (.int .i64 0)/\At w' b {t with from_:=t.from_+t.steps / 2,steps:=t.steps - t.steps / 2,before:=t.mid,mid:=Dg.zero,turn:=0}/\Kept (·=b) w w':=by
 have aP:b<w.heap.size:=ai.lt ht;go_enter func65,ntmps65;go_wp2_with (go_at_call 121;refine(kP b t _ _ _ ht).mono ?_;rintro e w' ⟨rfl,rfl⟩);refine ajQ ?_;refine rT (λK hK=>?_);go_simp;go_wp2_with (go_at_call 123;refine(N3 ⟨t.from_,t.steps,t.before,t.after⟩ t.mid _ h0 h1 h2 h3).mono ?_;rintro e w' ⟨rfl,hx⟩);exact akm
end
def n8 (t:Tr) (f:Bool):Tr:=
 if dL t 1 false=0 then(if f then{t with steps:=t.steps / 2,after:=t.mid,mid:=Dg.zero,turn:=0}else{t with from_:=t.from_+t.steps / 2,steps:=t.steps - t.steps / 2,before:=t.mid,mid:=Dg.zero,turn:=0})else t
theorem Mj (b:Nat) (t:Tr) (f:Bool) (w:World) (ht:At w b t) (h0:0<=t.steps) (h1:t.steps<=1048576) (h2:0<=t.from_) (h3:t.from_<=1048576):
 Calls prog 65 #[.pointer (some ⟨b,0,none⟩),.bool f] w λe w'=>e=.returned (.int .i64 (dL t 1 false))/\At w' b (n8 t f)/\Kept (·=b) w w':=by
 unfold n8
 by_cases h:dL t 1 false=0
 .rw [ak h,h]
  cases f
  .exact DR b t w ht h h0 h1 h2 h3
  .exact FX b t w ht h h0 h1
 .rw [af h];exact QH b t f w ht rU
theorem vQ (b:Nat) (t:Tr) (w:World) (ht:At w b t):
 Calls prog 60 #[.pointer (some ⟨b,0,none⟩)] w λe w'=>e=.returned (.tuple #[.int .i64 t.from_,.int .i64 t.steps,.agg t.before.cells,.agg t.after.cells])/\al w w':=by
 have aP:b<w.heap.size:=ai.lt ht;go_enter func60,ntmps60
 go_wp2
 refine mO (λw1=>At w1 b t) [true,true,true,true,true,true,true,true,true,true,true,true,true,true,true,true,true,true,true,true,true,true,false,false] aV aV aV ?_
 (repeat (first|((apply sV);(· exact((ai.alloc (ai.alloc ht _) _)));(· go_simp);(· (intro w1 hS;have hh:=bH hS;have hg:=bG hS;have hc:=bC hS;go_simp;try with_reducible rfl));refine iJ ?_)|((apply sU);(· exact((ai.alloc (ai.alloc ht _) _)));(· go_simp);refine iJ ?_)))
 (repeat (refine rT (λK hK=>?_);go_simp;refine hK.out _ _ (by(repeat' (with_reducible (first|assumption|apply ai.eK|apply ai.cw|apply ai.alloc|apply ai.drew|apply ai.drewN)))) (λ_=>?_);clear hK K))
 refine wi ?_
 go_wp2
 refine Ke results60 rfl rfl rfl dU kH (ai.drew (ai.alloc (ai.ea _ _ _ _ aB) _)) dU kH (ai.drew (ai.ea _ _ _ _ aB)) ⟨rfl,?_⟩
 ((repeat' (with_reducible (first|apply Kept.drew|apply Kept.drewN|apply Kept.alloc|apply Kept.setCell|apply Kept.putAt|exact kR _ _)))<;>(intro aP;first|rfl|(simp at aP;done)|(exfalso;simp at aP;omega)|omega))
theorem aaH {n:Nat} (h:n<=20):(1:Int)<=2^n/\(2:Int)^n<=1048576:=by
 have h1:(2:Nat)^n<=2^20:=Nat.pow_le_pow_right ad h;have h2:1<=(2:Nat)^n:=Nat.one_le_two_pow;have e:((2^n:Nat):Int)=(2:Int)^n:=by simp
 omega
theorem aeQ (p a z:Dg) (size k:Int) (hk:0<=k) (eV:k<=20) (hs:1<=size) (td:size<=2048) (w:World):
 Calls prog 117 #[.agg #[.int .u8 p.x0,.int .u8 p.x1,.int .u8 p.x2,.int .u8 p.x3,.int .u8 p.x4,.int .u8 p.x5,.int .u8 p.x6,.int .u8 p.x7],.int .i64 size,.int .i64 k,.agg #[.int .u8 a.x0,.int .u8 a.x1,.int .u8 a.x2,.int .u8 a.x3,.int .u8 a.x4,.int .u8 a.x5,.int .u8 a.x6,.int .u8 a.x7],.agg #[.int .u8 z.x0,.int .u8 z.x1,.int .u8 z.x2,.int .u8 z.x3,.int .u8 z.x4,.int .u8 z.x5,.int .u8 z.x6,.int .u8 z.x7]] w λe w'=>∃g,w.heap.size<=g/\e=.returned (.tuple #[.pointer (some ⟨g,0,none⟩),.int .i64 0])/\At w' g ⟨0,2^k.toNat,a,z,p,size,0,Dg.zero,-1⟩/\al w w':=by
 go_enter func117,ntmps117
 go_wp2
 refine Ia [true,true,true,true,true,true,true,true,false] aV aV aV ?_
 (repeat (first|((apply sV);(· exact rfl);(· go_simp);(· (intro w1 hS;subst hS;go_simp;try with_reducible rfl));refine iJ ?_)|((apply sU);(· exact rfl);(· go_simp);refine iJ ?_)))
 (repeat (refine C0 aV (λK hK=>?_);go_simp;refine hK.out _ _ ?_;clear hK K));refine wi ?_
 go_wp2
 go_ret2
 refine⟨w.heap.size+1+1+1,by omega,rfl,?_,?_⟩
 .have hp:=aaH (n:=k.toNat) ad
  rw [show IntKind.i64.wrap (2^k.toNat)=2^k.toNat from IntWalk.i64_in _ ad];exact At.of (ai.drew (ai.ea _ _ _ _ aB)) rfl
 ·((repeat' (with_reducible (first|apply Kept.drew|apply Kept.drewN|apply Kept.alloc|apply Kept.setCell|apply Kept.putAt|exact kR _ _)))<;>(intro aP;first|rfl|(simp at aP;done)|(exfalso;simp at aP;omega)|omega))
def more (n e:Int):Int:=if e=0 then n+1 else n
theorem WS (b:Nat) (t:Tr) (cs:Array Value) (w:World) (ht:At w b t) (h:(dL t 0 true==0)=false):Calls prog 68 #[.pointer (some ⟨b,0,none⟩),.agg cs] w λe w'=>e=.returned (.int .i64 (dL t 0 true))/\al w w':=by
 go_enter func68,ntmps68;go_wp2_with (go_at_call 121;refine(kP b t _ _ _ (ai.alloc ht _)).mono ?_;rintro e w' ⟨rfl,rfl⟩);exact akT
end Mc
section
variable {P:Program} {ops:Array Oper} {Q:Exit->Act->World->Prop} {S:World->Prop} {md:Region.Mode} {ex:Nat->Bool}
def nop : Oper := { dst := none, op := .load 0 (.tmp 0), type := 0, pos := "", after := #[], guard := none }
variable {od:List (Nat×Bool)} {k:Nat}
end
section
variable{o0 o1 o2:Obj}
variable {w:World} {off n g:Nat} {vs:Array Value}
@[go_sem high] theorem abX:has ((w.alloc o0).alloc o1) (w.heap.size) off n=has (w.alloc o0) (w.heap.size) off n:=by
 have h:((w.alloc o0).alloc o1).heap[w.heap.size]?=(w.alloc o0).heap[w.heap.size]?:=by
  rw [Below.heap_alloc _ _ _ Ti]
 unfold has;rw [h]
@[go_sem high] theorem Z_:gets ((w.alloc o0).alloc o1) (w.heap.size) off n=gets (w.alloc o0) (w.heap.size) off n:=by
 have h:((w.alloc o0).alloc o1).heap[w.heap.size]?=(w.alloc o0).heap[w.heap.size]?:=by
  rw [Below.heap_alloc _ _ _ Ti]
 unfold gets;rw [h]
@[go_sem high] theorem abY:has (((w.alloc o0).alloc o1).alloc o2) (w.heap.size+1) off n=has ((w.alloc o0).alloc o1) (w.heap.size+1) off n:=by
 have h:(((w.alloc o0).alloc o1).alloc o2).heap[w.heap.size+1]?=((w.alloc o0).alloc o1).heap[w.heap.size+1]?:=by
  rw [Below.heap_alloc _ _ _ Ti]
 unfold has;rw [h]
@[go_sem high] theorem Z5:gets (((w.alloc o0).alloc o1).alloc o2) (w.heap.size+1) off n=gets ((w.alloc o0).alloc o1) (w.heap.size+1) off n:=by
 have h:(((w.alloc o0).alloc o1).alloc o2).heap[w.heap.size+1]?=((w.alloc o0).alloc o1).heap[w.heap.size+1]?:=by
  rw [Below.heap_alloc _ _ _ Ti]
 unfold gets;rw [h]
@[go_sem high] theorem aga (h:g<w.heap.size):has ((w.alloc o0).alloc o1) g off n=has w g off n:=by
 have e:((w.alloc o0).alloc o1).heap[g]?=w.heap[g]?:=by
  rw [Below.heap_alloc _ _ _ Ti];rw [Below.heap_alloc _ _ _ h]
 unfold has;rw [e]
@[go_sem high] theorem aea (h:g<w.heap.size):gets ((w.alloc o0).alloc o1) g off n=gets w g off n:=by
 have e:((w.alloc o0).alloc o1).heap[g]?=w.heap[g]?:=by
  rw [Below.heap_alloc _ _ _ Ti];rw [Below.heap_alloc _ _ _ h]
 unfold gets;rw [e]
@[go_sem] theorem TL {i:Nat} {v:Value} (h:off<=i):gets (w.setCell ⟨g,i,none⟩ v) g off n=(gets w g off n).setIfInBounds (i - off) v:=by
 simp only [gets,World.setCell,Array.getElem?_modify,if_true]
 cases hq:w.heap[g]? with
 |none=>simp
 |some ob=>
  cases ob<;>simp
  rw [List.drop_set,af ad,List.take_set]
@[go_sem] theorem Q6 {i:Nat} {v:Value} (h:i<off∨off+n<=i):gets (w.setCell ⟨g,i,none⟩ v) g off n=gets w g off n:=by
 simp only [gets,World.setCell,Array.getElem?_modify,if_true]
 cases hq:w.heap[g]? with
 |none=>simp
 |some ob=>
  cases ob<;>simp
  rw [List.drop_set]
  split
  .rfl
  .rw [List.take_set,List.set_eq_of_length_le kr]
@[go_sem] theorem Q5 {p:Addr} {v:Value} (h:g≠p.block):gets (w.setCell p v) g off n=gets w g off n:=by
 simp only [gets,Below.heap_setCell w p v g h]
end
section
variable{Q':Exit->Act->World->Prop}{K:Act->World->Prop}{listed:Array Bool}{oi:Oper}{G:Prop}
variable {P:Program} {ops:Array Oper} {Q:Exit->Act->World->Prop} {S:World->Prop} {md:Region.Mode} {ex:Nat->Bool}
theorem Oper.C1 {o:Oper} {a:Act} {w:World} (h:∀e a w,Q e a w->Q' e a w) (hh:o.wp P a w K Q):o.wp P a w K Q':=by
 unfold Oper.wp at*;generalize (execOp a.eval o).run P w=r at*
 cases r with
 |ok n w'=>
  cases n<;>simp only [Oper.upon]at hh⊢<;>
   first
    |exact hh
    |exact Calls.mono hh (λe Iz he=>by cases e<;>first|exact he|exact h _ _ _ he|exact he.imp λ_=>Exists.imp λ_=>h _ _ _)
 |halt x w'=>cases x<;>simp only [Oper.upon]at hh⊢<;>first|exact h _ _ _ hh|exact hh
theorem qs {i:Nat} {a:Act} {w:World} (h:∀e a w,Q e a w->Q' e a w) (hh:wpOp P ops Q i K a w):wpOp P ops Q' i K a w:=by
 unfold wpOp at*
 split
 .simpa [*]using hh
 .rename_i o ho
  simp only [ho]at hh
  split
  .rename_i hw;simp only [hw,if_true]at hh;exact hh.imp (Oper.C1 h) (λq=>⟨q.1,q.2.imp λ_=>Exists.imp λ_=>h _ _ _⟩)
  .rename_i hw;simp only [hw]at hh;exact hh
def QL (Q:Exit->Act->World->Prop) (wO:Nat->Bool) (j:Nat):Exit->Act->World->Prop:=if wO j=true then Q else tG Q
theorem QL.imp {wO:Nat->Bool} {j:Nat}:∀(e:Exit) (a:Act) (w:World),QL Q wO j e a w->Q e a w:=λe a w h=>by
 unfold QL at h
 split at h
 .exact h
 .exact tG.imp e a w h
theorem QL.of {wO:Nat->Bool} {j:Nat}:∀(e:Exit) (a:Act) (w:World),tG Q e a w->QL Q wO j e a w:=λe a w h=>by
 unfold QL
 split
 .exact tG.imp e a w h
 .exact h
variable {wO:Nat->Bool}
def wpAnyH (P:Program) (md:Region.Mode) (ops:Array Oper) (Q:Exit->Act->World->Prop) (S:World->Prop) (ex wO:Nat->Bool):Nat->Array Bool->Act->World->Prop
 |0,listed,a,w=>Region.ready md ops listed=[]/\Q .normal a w
 |fuel+1,listed,a,w=>
  (Region.ready md ops listed=[]->Q .normal a w)/\
  ∀i∈Region.ready md ops listed,wpOp P ops (QL Q wO i) i (λa' w'=>(ex i=true∨(S w->S w'))/\wpAnyH P md ops Q S ex wO fuel (listed.setIfInBounds i true) a' w') a w
theorem uu:∀(fuel:Nat) (listed:Array Bool) (a:Act) (w:World),wpAnyH P md ops Q S ex wO fuel listed a w->wpAny P md ops Q fuel listed a w
 |0,_,_,_,h=>h
 |fuel+1,_,_,_,h=>⟨h.1,λi hi=>wpOp_mono (λa' w' h'=>uu fuel _ a' w' h'.2) (qs QL.imp (h.2 i hi))⟩
theorem acG {i:Nat} {oj:Oper} (hr:i∈Region.ready md ops listed) (hall:∀e∈oj.after,Region.binds md e=true->listed.getD e.on false=true):
 ∀e∈oj.after,Region.binds md e=true->e.on≠i:=λe he hb heq=>by
 exact alh
theorem wpAnyH_first {i:Nat} {v:Value} (hi:ops[i]?=some oi) (aaj:∀(j:Nat) (o:Oper) cs b,ops[j]?=some o->o.op≠ .select cs b)
 (ahN:∀j listed,Down md ops listed->j∈Region.ready md ops listed->j≠i->wO j=true->listed.getD i false=true)
 (hex:∀j listed,Down md ops listed->j∈Region.ready md ops listed->j≠i->ex j=true->listed.getD i false=true):
 ∀(fuel:Nat) (listed:Array Bool) (a:Act) (w:World),Down md ops listed->
  (∀j oj,ops[j]?=some oj->j≠i->listed.getD j true=false->(∀e∈oj.after,Region.binds md e=true->e.on≠i)->oi.apart ops oj=true)->
  i∈Region.ready md ops listed->YieldsIf P ops S oi v a->S w->
  wpAnyH P md ops Q S ex wO fuel (listed.setIfInBounds i true) (a.put oi.dst v) w->wpAnyH P md ops Q S ex wO (fuel+1) listed a w:=by
 intro fuel
 induction fuel with
 |zero=>
  intro listed a w _ _ hr hy hS H;refine⟨λh=>Ta,λj hj=>?_⟩
  by_cases yi:j=i
  .subst yi;exact hy.wpOp hi hS ⟨.inr id,H⟩
  .have:=ready_mono hj yi
   rw [H.1]at this
   cases this
 |succ fuel ih=>
  intro listed a w qN Ph hr hy hS H;refine⟨λh=>Ta,λj hj=>?_⟩
  by_cases yi:j=i
  .subst yi;exact hy.wpOp hi hS ⟨.inr id,H⟩
  .have h1:=H.2 j (ready_mono hj yi)
   obtain⟨aaf,oj,Rr,hall⟩:=mem_ready.1 hj;have aeu:=acG hr hall
   have aet:ex j=true->False:=λh=>by
    exact alj
   have It:wO j=true->False:=λh=>by
    exact ali
   have hQ:∀c a w,QL Q wO j (.panic c) (a.put oi.dst v) w->QL Q wO j (.panic c) a w:=λc a w h=>by
    unfold QL at h⊢;rw [af (λe=>It e)]at h;exact h.elim
   refine afB ?_;intro h2 ua a' w' h3;have qW:S w':=h3.2.1.elim (λh=>(aet h).elim) (λh=>h hS);refine⟨.inr λ_=>qW,ih (listed.setIfInBounds j true) a' w' (qN.set hj) ua (ready_mono hr (Ne.symm yi)) h3.1 qW ?_⟩;rw [Array.setIfInBounds_comm _ _ yi];exact h3.2.2
theorem yT {i:Nat} {v:Value} (hi:ops[i]?=some oi) (aaj:∀(j:Nat) (o:Oper) cs b,ops[j]?=some o->o.op≠ .select cs b)
 (ahN:∀j listed,Down md ops listed->j∈Region.ready md ops listed->j≠i->wO j=true->listed.getD i false=true):
 ∀(fuel:Nat) (listed:Array Bool) (a:Act) (w:World),Down md ops listed->
  (∀j oj,ops[j]?=some oj->j≠i->listed.getD j true=false->(∀e∈oj.after,Region.binds md e=true->e.on≠i)->oi.apart ops oj=true)->
  i∈Region.ready md ops listed->YieldsIf P ops (λ_=>True) oi v a->
  wpAnyH P md ops Q S ex wO fuel (listed.setIfInBounds i true) (a.put oi.dst v) w->wpAnyH P md ops Q S ex wO (fuel+1) listed a w:=by
 intro fuel
 induction fuel with
 |zero=>
  intro listed a w _ _ hr hy H;refine⟨λh=>Ta,λj hj=>?_⟩
  by_cases yi:j=i
  .subst yi;exact hy.wpOp hi trivial ⟨.inr id,H⟩
  .have:=ready_mono hj yi
   rw [H.1]at this
   cases this
 |succ fuel ih=>
  intro listed a w qN Ph hr hy H;refine⟨λh=>Ta,λj hj=>?_⟩
  by_cases yi:j=i
  .subst yi;exact hy.wpOp hi trivial ⟨.inr id,H⟩
  .have h1:=H.2 j (ready_mono hj yi)
   obtain⟨aaf,oj,Rr,hall⟩:=mem_ready.1 hj;have aeu:=acG hr hall
   have It:wO j=true->False:=λh=>by
    exact ali
   have hQ:∀c a w,QL Q wO j (.panic c) (a.put oi.dst v) w->QL Q wO j (.panic c) a w:=λc a w h=>by
    unfold QL at h⊢;rw [af (λe=>It e)]at h;exact h.elim
   refine afB ?_;intro h2 ua a' w' h3;refine⟨h3.2.1,ih (listed.setIfInBounds j true) a' w' (qN.set hj) ua (ready_mono hr (Ne.symm yi)) h3.1 ?_⟩;rw [Array.setIfInBounds_comm _ _ yi];exact h3.2.2
theorem wpAnyH_all {rs:List Nat} {fuel:Nat} {a:Act} {w:World} (hr:Region.ready md ops listed=rs) (iF:rs≠[])
 (h:∀i∈rs,wpOp P ops (QL Q wO i) i (λa' w'=>(ex i=true∨(S w->S w'))/\wpAnyH P md ops Q S ex wO fuel (listed.setIfInBounds i true) a' w') a w):wpAnyH P md ops Q S ex wO (fuel+1) listed a w:=
 ⟨λh0=>absurd (hr▸h0) iF,hr▸h⟩
theorem wpAnyH_done {a:Act} {w:World} (hr:Region.ready md ops listed=[]) (h:Q .normal a w):
 ∀fuel,wpAnyH P md ops Q S ex wO fuel listed a w
 |0=>⟨hr,h⟩
 |_+1=>⟨λ_=>h,by rw [hr];simp⟩
def ZX (md:Region.Mode) (ops:Array Oper) (od:List (Nat×Nat)) (j:Nat):Bool:=
 od.all λp=>!(p.2==1)||p.1==j||(o3 md ops ops.size (tS md ops j)).testBit p.1
theorem U1 {od:List (Nat×Nat)} {i j:Nat} (hf:(i,1)∈od) (hd:Down md ops listed) (hj:j∈Region.ready md ops listed) (iF:j≠i) (h:ZX md ops od j=true):
 listed.getD i false=true:=by
 have h1:=List.all_eq_true.1 h _ hf;simp only [beq_self_eq_true,uM,Bool.false_or,Bool.or_eq_true,beq_iff_eq]at h1;exact acZ
def RJ (md:Region.Mode) (ops:Array Oper) (od:List (Nat×Nat)) (j:Nat):Bool:=
 od.all λp=>p.1==j||(o3 md ops ops.size (tS md ops j)).testBit p.1
theorem E_ {od:List (Nat×Nat)} {i k j:Nat} (hf:(i,k)∈od) (hd:Down md ops listed) (hj:j∈Region.ready md ops listed) (iF:j≠i) (h:RJ md ops od j=true):
 listed.getD i false=true:=by
 exact akN
def GN (md:Region.Mode) (ops:Array Oper):List (Nat×Nat)->Array Bool->Bool
 |[],listed=>(Region.ready md ops listed).isEmpty
 |(i,0)::r,listed=>(Region.ready md ops listed==[i])&&GN md ops r (listed.setIfInBounds i true)
 |(i,_+1)::r,listed=>Region.free md ops listed i&&(Region.ready md ops listed).contains i&&GN md ops r (listed.setIfInBounds i true)
def dZ (P:Program) (ops:Array Oper) (Q:Exit->Act->World->Prop) (S:World->Prop) (od:List (Nat×Nat)):List (Nat×Nat)->List Oper->Act->World->Prop
 |[],[],a,w=>Q .normal a w
 |(k,0)::r,o::l,a,w=>
  if Region.wanted o (yielded ops a.tmps)then o.wp P a w (λa' w'=>(ZX .any ops od k=true∨(S w->S w'))/\dZ P ops Q S od r l a' w') (QL Q (RJ .any ops od) k)∨(o.asks P a w/\LetsOut (QL Q (RJ .any ops od) k))
  else dZ P ops Q S od r l (a.put o.dst undef) w
 |(_,1)::r,o::l,a,w=>S w/\∃v,YieldsIf P ops S o v a/\dZ P ops Q S od r l (a.put o.dst v) w
 |(_,_+2)::r,o::l,a,w=>∃v,YieldsIf P ops (λ_=>True) o v a/\dZ P ops Q S od r l (a.put o.dst v) w
 |_,_,_,_=>False
theorem oC {od:List (Nat×Nat)} (hs:Region.noSelect ops=true):∀(r:List (Nat×Nat)) (l:List Oper) (fuel:Nat) (listed:Array Bool) (a:Act) (w:World),l.length<=fuel->l.map some=r.map (λp=>ops[p.1]?)->(∀p∈r,p∈od)->Down .any ops listed->
 GN .any ops r listed=true->dZ P ops Q S od r l a w->wpAnyH P .any ops Q S (ZX .any ops od) (RJ .any ops od) fuel listed a w
 |[],[],fuel,listed,a,w,_,_,_,_,hB,h=>wpAnyH_done (by simpa [GN]using hB) h fuel
 |_::_,[],fuel,listed,a,w,_,_,_,_,_,h=>by simp [dZ]at h
 |[],_::_,fuel,listed,a,w,_,_,_,_,_,h=>by simp [dZ]at h
 |_::_,_::_,0,listed,a,w,hf,_,_,_,_,_=>by simp at hf
 |(i,1)::r,o::l,fuel+1,listed,a,w,hf,hl,hr,qN,hB,h=>by
  obtain⟨hS,v,hy,h⟩:=h;simp only [GN,gR]at hB;simp only [tq,List.cons.injEq]at hl
  exact wpAnyH_first hl.1.symm (Region.noSelect_spec hs) (λj l hd hj iF hx=>E_ (hr _ (List.mem_cons_self ..)) hd hj iF hx) (λj l hd hj iF hx=>U1 (hr _ aB) hd hj iF hx) fuel listed a w qN (Region.free_spec hl.1.symm hB.1.1) XT hy hS
   (oC hs r l fuel _ _ w (by simpa using hf) hl.2 (λp hp=>hr p (by simp [hp])) (qN.set XT) hB.2 h)
 |(i,n+2)::r,o::l,fuel+1,listed,a,w,hf,hl,hr,qN,hB,h=>by
  obtain⟨v,hy,h⟩:=h;simp only [GN,gR]at hB;simp only [tq,List.cons.injEq]at hl
  exact yT hl.1.symm (Region.noSelect_spec hs) (λj l hd hj iF hx=>E_ (hr _ (List.mem_cons_self ..)) hd hj iF hx) fuel listed a w qN (Region.free_spec hl.1.symm hB.1.1) XT hy
   (oC hs r l fuel _ _ w (by simpa using hf) hl.2 (λp hp=>hr p (by simp [hp])) (qN.set XT) hB.2 h)
 |(i,0)::r,o::l,fuel+1,listed,a,w,hf,hl,hr,qN,hB,h=>by
  simp only [GN,gR,beq_iff_eq]at hB;simp only [tq,List.cons.injEq]at hl;refine wpAnyH_all hB.1 aB λj hj=>?_;obtain rfl:j=i:=by simpa using hj
  have h1:wpOp P ops (QL Q (RJ .any ops od) j) j (λa' w'=>(ZX .any ops od j=true∨(S w->S w'))/\dZ P ops Q S od r l a' w') a w:=by
   unfold wpOp;rw [<-hl.1];unfold dZ at h
   by_cases hw:Region.wanted o (yielded ops a.tmps)=true
   .rw [ak hw]at h
    simp only [ak hw];exact h
   .rw [af hw]at h
    simp only [af hw];exact⟨.inr id,h⟩
  exact wpOp_mono (λa' w' h'=>⟨h'.1,oC hs r l fuel _ a' w' (by simpa using hf) hl.2 (λp hp=>hr p (by simp [hp])) (qN.set (by rw [hB.1];simp)) hB.2 h'.2⟩) h1
def inP (n:Nat) (od:List (Nat×Nat)):Bool:=od.all λp=>decide (p.1<n)
theorem K5 {id:Nat} {a:Act} {w:World} {l:List Oper} (S:World->Prop) (od:List (Nat×Nat)) (hm:P.follows .mixedOrders=true) (hs:Region.noSelect l.toArray=true)
 (hB:GN .any l.toArray od (Array.replicate l.toArray.size false)=true) (ub:(inP l.length od&&decide (od.length<=l.length))=true)
 (h:∀l',l'=od.map (λp=>l.getD p.1 nop)->dZ P l.toArray Q S od od l' a w.drew):(Code.region id l.toArray true).wp P Q a w:=by
 simp only [gR,jP]at ub;refine(wp_region_any hm (uu _ _ _ _ (oC hs od _ _ _ a _ ?_ ?_ (λ_ h=>h) (Down.init _) hB (h _ rfl))))
 .simpa using ub.2
 .rw [List.map_map]
  refine List.map_congr_left λp hp=>?_;have aP:p.1<l.length:=of_decide_eq_true (List.all_eq_true.1 ub.1 p hp);simp [List.getD,List.getElem?_eq_getElem aP]
theorem fH {id:Nat} {a:Act} {w:World} {l:List Oper} (S:World->Prop) (od:List (Nat×Nat)) (h:∀l',l'=od.map (λp=>l.getD p.1 nop)->dZ P l.toArray Q S od od l' a w.drew) (hm:P.follows .mixedOrders=true:=by kernel_rfl) (hs:Region.noSelect l.toArray=true:=by kernel_rfl) (hB:GN .any l.toArray od (Array.replicate l.toArray.size false)=true:=by kernel_rfl) (ub:(inP l.length od&&decide (od.length<=l.length))=true:=by kernel_rfl):(Code.region id l.toArray true).wp P Q a w:=K5 S od hm hs hB ub h
variable {od:List (Nat×Nat)} {k:Nat}
theorem XD {a:Act} {w:World} (h:Q .normal a w):dZ P ops Q S od [] [] a w:=h
theorem abd {l:List Oper} {r:List (Nat×Nat)} {a:Act} {w:World} {o:Oper} {v:Value} (hS:S w) (hw:Region.wanted o (yielded ops a.tmps)=true)
 (hy:∀w',S w'->(execOp a.eval o).run P w'=.ok (.value v) w') (h:∀K:Act->World->Prop,(∀a w,dZ P ops Q S od r l a w->K a w)->K (a.put o.dst v) w):dZ P ops Q S od ((k,1)::r) (o::l) a w:=
 ⟨hS,v,.inl ⟨hw,hy⟩,h _ (λ_ _ h=>h)⟩
theorem aaY {l:List Oper} {r:List (Nat×Nat)} {a:Act} {w:World} {o:Oper} (hS:S w) (hw:Region.wanted o (yielded ops a.tmps)=false)
 (h:∀K:Act->World->Prop,(∀a w,dZ P ops Q S od r l a w->K a w)->K (a.put o.dst undef) w):dZ P ops Q S od ((k,1)::r) (o::l) a w:=
 ⟨hS,undef,.inr ⟨hw,rfl⟩,h _ (λ_ _ h=>h)⟩
theorem de {P:Program} {ops:Array Oper} {Q:Exit->Act->World->Prop} {S:World->Prop} {od r:List (Nat×Nat)} {k:Nat} {l:List Oper} {a:Act} {w:World} {o:Oper} {v:Value} (hS:S w) (hy:∀w',S w'->(execOp a.eval o).run P w'= .ok (.value v) w') (g:G) (hw:Region.wanted o (yielded ops a.tmps)=true:=by(go_simp;first|done|fail)) (h:G->∀K:Act->World->Prop,(∀a w,dZ P ops Q S od r l a w->K a w)->K (a.put o.dst v) w:=by(intro qq;have QQ:=J qq;clear qq;intro K hK;go_simp;refine hK _ _ ?_;clear hK K;exact QQ.o)):dZ P ops Q S od ((k,1)::r) (o::l) a w:=abd hS hw hy (h g)
theorem dc {P:Program} {ops:Array Oper} {Q:Exit->Act->World->Prop} {S:World->Prop} {od r:List (Nat×Nat)} {k:Nat} {l:List Oper} {a:Act} {w:World} {o:Oper} (hS:S w) (g:G) (hw:Region.wanted o (yielded ops a.tmps)=false:=by(go_simp;first|done|fail)) (h:G->∀K:Act->World->Prop,(∀a w,dZ P ops Q S od r l a w->K a w)->K (a.put o.dst undef) w:=by(intro qq;have QQ:=J qq;clear qq;intro K hK;go_simp;refine hK _ _ ?_;clear hK K;exact QQ.o)):dZ P ops Q S od ((k,1)::r) (o::l) a w:=aaY hS hw (h g)
theorem aaZ {l:List Oper} {r:List (Nat×Nat)} {a:Act} {w:World} {o:Oper} {v:Value} (hw:Region.wanted o (yielded ops a.tmps)=true)
 (hy:∀w',(execOp a.eval o).run P w'=.ok (.value v) w') (h:∀K:Act->World->Prop,(∀a w,dZ P ops Q S od r l a w->K a w)->K (a.put o.dst v) w):dZ P ops Q S od ((k,2)::r) (o::l) a w:=
 ⟨v,.inl ⟨hw,λw _=>hy w⟩,h _ (λ_ _ h=>h)⟩
theorem abb {l:List Oper} {r:List (Nat×Nat)} {a:Act} {w:World} {o:Oper} (hw:Region.wanted o (yielded ops a.tmps)=false)
 (h:∀K:Act->World->Prop,(∀a w,dZ P ops Q S od r l a w->K a w)->K (a.put o.dst undef) w):dZ P ops Q S od ((k,2)::r) (o::l) a w:=
 ⟨undef,.inr ⟨hw,rfl⟩,h _ (λ_ _ h=>h)⟩
theorem au {l:List Oper} {r:List (Nat×Nat)} {a:Act} {w:World} {o:Oper}
 (h:∀K:Act->World->Prop,Shut (∀a' w',(S w->S w')->dZ P ops Q S od r l a' w'->K a' w')->if Region.wanted o (yielded ops a.tmps)=true then Oper.wp P o a w K (tG Q)else K (a.put o.dst undef) w):
 dZ P ops Q S od ((k,0)::r) (o::l) a w:=by
 unfold dZ
 split
 .rename_i hw
  have h:=h (λa' w'=>(ZX .any ops od k=true∨(S w->S w'))/\dZ P ops Q S od r l a' w') (λa' w' hS h=>⟨.inr hS,h⟩);rw [ak hw]at h;exact .inl (Oper.C1 QL.of h)
 .rename_i hw
  have h:=h (λa' w'=>dZ P ops Q S od r l a' w') (λa' w' _ h=>h);rw [af hw]at h;exact h
theorem CN {l:List Oper} {r:List (Nat×Nat)} {a:Act} {w:World} {o:Oper} (hx:ZX .any ops od k=true)
 (h:∀K:Act->World->Prop,Shut (∀a' w',dZ P ops Q S od r l a' w'->K a' w')->if Region.wanted o (yielded ops a.tmps)=true then Oper.wp P o a w K (tG Q)else K (a.put o.dst undef) w):
 dZ P ops Q S od ((k,0)::r) (o::l) a w:=by
 unfold dZ
 split
 .rename_i hw
  have h:=h (λa' w'=>(ZX .any ops od k=true∨(S w->S w'))/\dZ P ops Q S od r l a' w') (λa' w' h=>⟨.inl hx,h⟩);rw [ak hw]at h;exact .inl (Oper.C1 QL.of h)
 .rename_i hw
  have h:=h (λa' w'=>dZ P ops Q S od r l a' w') (λa' w' h=>h);rw [af hw]at h;exact h
theorem dG {l:List Oper} {r:List (Nat×Nat)} {a:Act} {w:World} {o:Oper} (hx:RJ .any ops od k=true) (bd:ZX .any ops od k=true)
 (h:∀K:Act->World->Prop,Shut (∀a' w',dZ P ops Q S od r l a' w'->K a' w')->if Region.wanted o (yielded ops a.tmps)=true then Oper.wp P o a w K Q else K (a.put o.dst undef) w):
 dZ P ops Q S od ((k,0)::r) (o::l) a w:=by
 unfold dZ
 split
 .rename_i hw
  have h:=h (λa' w'=>(ZX .any ops od k=true∨(S w->S w'))/\dZ P ops Q S od r l a' w') (λa' w' h=>⟨.inl bd,h⟩);rw [ak hw]at h;unfold QL;rw [ak hx];exact .inl h
 .rename_i hw
  have h:=h (λa' w'=>dZ P ops Q S od r l a' w') (λa' w' h=>h);rw [af hw]at h;exact h
