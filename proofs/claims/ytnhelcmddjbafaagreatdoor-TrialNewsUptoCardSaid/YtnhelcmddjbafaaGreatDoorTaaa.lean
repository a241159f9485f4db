import Derived.Test.YtnhelcmddjbafaaGreatDoorRows
import Derived.OrdersHeld
import Derived.Deep.RegionHeld
import Derived.Test.YtnhelcmddjbafaaGreatDoorTapk
set_option maxHeartbeats 4000000
set_option maxRecDepth 100000
open Go.Proofs.Tryz
namespace Go.Proofs.YtnhelcmddjbafaaGreatDoor
open Go.RowKit
section
variable{cs':Array Value}{pos:String}{after:Array Edge}{guard:Option (Nat×Bool)}{K:Act->World->Prop}{g':Nat}
structure Kept (S:Nat->Prop) (w w':World):Prop where
 os:w'.os=w.os
 tape:w'.tape=w.tape
 output:w'.output=w.output
 size:w.heap.size<=w'.heap.size
 block:∀k,k<w.heap.size->¬S k->w'.heap[k]?=w.heap[k]?
abbrev al (w w':World):Prop:=Kept (λ_=>False) w w'
section
variable {S S':Nat->Prop} {a w w':World}
theorem Kept.refl (S) (w:World):Kept S w w:=⟨rfl,rfl,rfl,eH _,λ_ _ _=>rfl⟩
theorem Kept.trans (h:Kept S a w) (k:Kept S w w'):Kept S a w':=
 ⟨k.os.trans h.os,k.tape.trans h.tape,k.output.trans h.output,ay h.size k.size,
  λi hi hs=>(k.block i (gw hi h.size) hs).trans (h.block i hi hs)⟩
theorem Kept.trans' (h:Kept S a w) (k:Kept S' w w') (hs:∀i,i<a.heap.size->S' i->S i):Kept S a w':=
 ⟨k.os.trans h.os,k.tape.trans h.tape,k.output.trans h.output,ay h.size k.size,
  λi hi hn=>(k.block i (gw hi h.size) (λe=>hn (hs i hi e))).trans (h.block i hi hn)⟩
theorem Kept.mono (h:Kept S w w') (hs:∀i,i<w.heap.size->S i->S' i):Kept S' w w':=
 ⟨h.os,h.tape,h.output,h.size,λi hi hn=>h.block i hi (λe=>hn (hs i hi e))⟩
theorem Kept.drew (h:Kept S a w):Kept S a w.drew:=⟨h.os,h.tape,h.output,h.size,h.block⟩
theorem Kept.drewN (h:Kept S a w) (n:Nat):Kept S a (w.drewN n):=⟨h.os,h.tape,h.output,h.size,h.block⟩
theorem Kept.alloc (h:Kept S a w) (o:Obj):Kept S a (w.alloc o):=
 h.trans ⟨rfl,rfl,rfl,by simp,λk hk _=>Below.heap_alloc _ _ _ hk⟩
theorem Kept.setCell (h:Kept S a w) (p:Addr) (u:Value) (hp:p.block<a.heap.size->S p.block):Kept S a (w.setCell p u):=
 h.trans' (S':=(·=p.block)) ⟨rfl,rfl,rfl,by simp [World.setCell],λk _ hn=>Below.heap_setCell _ _ _ _ hn⟩
  (λi hi e=>by subst e;exact hp hi)
theorem Kept.ext (h:al w w'):Kept S w w':=h.mono λ_ _ f=>f.elim
theorem Kept.below (h:al w w'):Below w.heap.size w w':=⟨h.os,h.tape,h.output,h.size,λk hk=>h.block k hk (λf=>f)⟩
theorem Kept.alH (h:Below w.heap.size w w'):Kept S w w':=⟨h.os,h.tape,h.output,h.size,λk hk _=>h.block k hk⟩
theorem Kept.cell (h:Kept S w w') {p:Addr} (hp:p.block<w.heap.size) (hs:¬S p.block):w'.cell? p=w.cell? p:=World.cell?_of_block (w:=w) (h.block p.block hp hs)
theorem Kept.frozen (h:Kept S w w') {p:Addr} (hp:p.block<w.heap.size) (hs:¬S p.block):w'.frozen? p=w.frozen? p:=World.frozen?_of_block (w:=w) (h.block p.block hp hs)
end
def aj (w:World) (g:Nat) (t:TypeId) (cs:Array Value):Prop:=w.heap[g]?=some (.cells cs t (0,0))
section
variable {w w':World} {g:Nat} {t:TypeId} {cs:Array Value}
theorem aj.lt (h:aj w g t cs):g<w.heap.size:=by
 rcases Nat.lt_or_ge g w.heap.size with aX|mg
 .exact aX
 .unfold aj at h;rw [Array.getElem?_eq_none mg]at h;cases h
theorem aj.cell (h:aj w g t cs) (i:Nat):w.cell? ⟨g,i,none⟩=cs[i]?:=cell_of_row w g i cs t (0,0) h
theorem aj.frozen (h:aj w g t cs) (i:Nat):w.frozen? ⟨g,i,none⟩=false:=by
 unfold aj at h;simp [World.frozen?,h]
theorem aj.new (w:World) (t) (cs:Array Value):aj (w.alloc (.cells cs t)) w.heap.size t cs:=heap_alloc_new w _
theorem aj.d_ (w:World) (t:TypeId) (cs:Array Value) (g:Nat) (hg:g=w.heap.size):aj (w.alloc (.cells cs t)) g t cs:=by subst hg;exact heap_alloc_new w _
theorem aj.drew (h:aj w g t cs):aj w.drew g t cs:=h
theorem aj.drewN (h:aj w g t cs) (n:Nat):aj (w.drewN n) g t cs:=h
theorem aj.alloc (h:aj w g t cs) (o:Obj):aj (w.alloc o) g t cs:=(Below.heap_alloc w o g h.lt).trans h
theorem aj.fw (h:aj w g t cs) (i) (u:Value):aj (w.setCell ⟨g,i,none⟩ u) g t (cs.setIfInBounds i u):=by
 unfold aj at h⊢;simp [World.setCell,Array.getElem?_modify,h]
theorem aj.nI (h:aj w g t cs) {p:Addr} (hp:g≠p.block) (u:Value):aj (w.setCell p u) g t cs:=(Below.heap_setCell w p u g hp).trans h
theorem aj.kept {S} (h:aj w g t cs) (hk:Kept S w w') (hs:¬S g):aj w' g t cs:=(hk.block g h.lt hs).trans h
theorem aj.ext (h:aj w g t cs) (hk:al w w'):aj w' g t cs:=h.kept hk (λf=>f)
theorem aj.aqp {t'} (h:aj w g t cs) (h':aj w g t' cs'):cs=cs':=by
 unfold aj at h h';rw [h]at h';injection h' with h';injection h' with h'
end
def splice (c:Array Value) (off:Nat) (vs:Array Value):Array Value:=(c.toList.take off++vs.toList++c.toList.drop (off+vs.size)).toArray
def has (w:World) (g off n:Nat):Bool:=match w.heap[g]? with|some (.cells c _ _)=>decide (off+n<=c.size)|_=>false
def aJ (w:World) (g:Nat):Bool:=match w.heap[g]? with|some (.cells _ _ (0,0))=>true|_=>false
def gets (w:World) (g off n:Nat):Array Value:=match w.heap[g]? with|some (.cells c _ _)=>((c.toList.drop off).take n).toArray|_=>#[]
def putAt (w:World) (g off:Nat) (vs:Array Value):World:=
 {w with heap:=w.heap.modify g λ| .cells c e fr=>.cells (splice c off vs) e fr|o=>o}
def eG:Value->Bool| .pointer (some ⟨_,_,none⟩)=>true|_=>false
def aL:Value->Nat| .pointer (some a)=>a.block|_=>0
def aM:Value->Nat| .pointer (some a)=>a.off|_=>0
def OU:Value->Bool| .agg _=>true|_=>false
def fO:Value->Array Value| .agg c=>c|_=>#[]
def eI:List Value->Bool|[]=>true|v::r=>v.oneCell'&&eI r
theorem nj:∀{l:List Value},eI l=true->∀v∈l,v.oneCell'=true
 |[],_,v,hv=>by cases hv
 |x::r,h,v,hv=>by
  simp only [eI,fz]at h
  cases List.mem_cons.1 hv with
  |inl e=>rw [e];exact h.1
  |inr e=>exact nj h.2 v e
def gB (P:Program) (ty:TypeId):Bool:=match P.underlying ty with|some (.struct _)|some (.array _ _)=>true|_=>false
def dw (P:Program) (ty:TypeId):Option Nat:=(P.info? ty).map (·.size)
theorem q_ {w} {g off} {vs c} {t} {fr:Nat×Nat} (h:w.heap[g]?=some (.cells c t fr)):
 (putAt w g off vs).heap[g]?=some (.cells (splice c off vs) t fr):=by
 simp [putAt,Array.getElem?_modify,h]
theorem fu {w} {g off k} {vs} (h:k≠g):(putAt w g off vs).heap[k]?=w.heap[k]?:=by
 simp only [putAt,Array.getElem?_modify];rw [af (λe=>h e.symm)]
theorem mG {w} {g off} {vs c} {t} {fr:Nat×Nat} (h:w.heap[g]?=some (.cells c t fr)):
 putAt w g off vs=w.setRow g (splice c off vs):=by
 unfold putAt World.setRow
 congr 1
 apply Array.ext_getElem?;intro k;simp only [Array.getElem?_modify]
 by_cases hk:g=k
 .subst hk;simp [h]
 .simp [hk]
theorem AZ (P) (w) (ty) (g off) (vs:Array Value) (hs:dw P ty=some vs.size) (hh:has w g off vs.size=true) (hm:aJ w g=true)
 (h1:eI vs.toList=true):(Instr.storeAt ty (.pointer (some ⟨g,off,none⟩)) (.agg vs)).run P w=.ok () (putAt w g off vs):=by
 unfold has at hh;unfold aJ at hm
 split at hh
 .rename_i c t fr hg
  rw [hg]at hm
  have V8:fr=(0,0):=by
   revert hm;obtain⟨a,b⟩:=fr;cases a<;>cases b<;>simp
  subst V8;have dF:=run_storeCells_at P g off t vs.toList 0 c w hg (by simpa using of_decide_eq_true hh) (nj h1);rw [mG hg];unfold dw at hs
  cases hq:P.info? ty with
  |none=>simp [hq]at hs
  |some i=>
   have hi:i.size=vs.size:=by simpa [hq]using hs
   simp only [Array.length_toList,fC]at dF;simp [Instr.storeAt,Instr.sureAddr,storeVar,sizeOf,typeInfo,hq,hi,Value.cells,dF,splice]
 .cases hh
section
variable (P:Program) (w:World) (ty:TypeId) (g off n:Nat) (ha:gB P ty=true) (hs:dw P ty=some n) (hh:has w g off n=true)
include P w ty g off n ha hs hh
theorem nS:
 (Instr.loadAt ty (.pointer (some ⟨g,off,none⟩))).run P w=.ok (.agg (gets w g off n)) w:=by
 unfold has at hh
 split at hh
 .rename_i c t fr hg
  have rY:off+n<=c.size:=of_decide_eq_true hh
  have hl:=run_loadCells_list (P:=P) w ⟨g,off,none⟩ ((c.toList.drop off).take n) (λj v hv=>by
   have ajK:(⟨g,off,none⟩:Addr).add j=⟨g,off+j,none⟩:=by unfold Addr.add;split<;>simp_all
   rw [ajK,cell_of_row w g _ c t fr hg];rw [List.getElem?_take]at hv
   split at hv
   .rw [List.getElem?_drop]at hv;simpa using hv
   .cases hv)
  have hlen:((c.toList.drop off).take n).length=n:=by simp;omega
  rw [hlen]at hl;unfold dw at hs
  cases hq:P.info? ty with
  |none=>simp [hq]at hs
  |some i=>
   have hi:i.size=n:=by simpa [hq]using hs
   unfold gB at ha
   have aoX:(isAgg ty).run P w=.ok true w:=by
    unfold isAgg
    cases hu:P.underlying ty with
    |none=>simp [hu]at ha
    |some d=>
     rw [Sem.run_bind,run_underlying hu w]
     cases d<;>simp_all
   simp [Instr.loadAt,Instr.sureAddr,loadVar,aoX,sizeOf,typeInfo,hq,hi,hl,gets,hg]
 .cases hh
theorem cN:
 (loadVar ty ⟨g,off,none⟩).run P w=.ok (.agg (gets w g off n)) w:=by
 have h:=nS P w ty g off n ha hs hh
 simpa [Instr.loadAt,Instr.sureAddr]using h
end
section
variable {P:Program} {dst:Option Tmp} {ty eY:TypeId}
include P dst ty eY
theorem nh {x y} {a} {w} {Q} (hx:eG (a.eval x)=true) (hy:OU (a.eval y)=true) (hs:dw P ty=some (fO (a.eval y)).size) (hh:has w (aL (a.eval x)) (aM (a.eval x)) (fO (a.eval y)).size=true) (hm:aJ w (aL (a.eval x))=true) (h1:eI (fO (a.eval y)).toList=true):
 Oper.wp P ⟨dst,.store ty x y,eY,pos,after,guard⟩ a w K Q=K (a.put dst undef) (putAt w (aL (a.eval x)) (aM (a.eval x)) (fO (a.eval y))):=by
 unfold Oper.wp execOp;generalize ex:a.eval x=vx at*;generalize ey:a.eval y=vy at*
 cases vy<;>simp [OU]at hy
 unfold eG at hx
 split at hx
 .rename_i g off
  have hr:=AZ P w ty g off _ hs hh hm h1;simp only [fO]at hr;simp only [ex,ey,aL,aM,fO,hr,Sem.run_bind,Result.andThen_ok,Sem.run_pure,Oper.upon]
 .cases hx
theorem bB {x} {a} {w} {Q} (n:Nat) (ha:gB P ty=true) (hs:dw P ty=some n) (hx:eG (a.eval x)=true) (hh:has w (aL (a.eval x)) (aM (a.eval x)) n=true):
 Oper.wp P ⟨dst,.load ty x,eY,pos,after,guard⟩ a w K Q=K (a.put dst (.agg (gets w (aL (a.eval x)) (aM (a.eval x)) n))) w:=by
 unfold Oper.wp execOp;generalize ex:a.eval x=vx at*;unfold eG at hx
 split at hx
 .rename_i g off
  have hr:=nS P w ty g off n ha hs hh;simp only [ex,aL,aM,hr,Sem.run_bind,Result.andThen_ok,Sem.run_pure,Oper.upon]
 .cases hx
end
theorem aH {P} {ρ} {dst} {ty eY} {x} {w:World}
 (n:Nat) (ha:gB P ty=true) (hs:dw P ty=some n) (hx:eG (ρ x)=true) (hh:has w (aL (ρ x)) (aM (ρ x)) n=true):
 (execOp ρ ⟨dst,.load ty x,eY,pos,after,guard⟩).run P w=.ok (.value (.agg (gets w (aL (ρ x)) (aM (ρ x)) n))) w:=by
 unfold execOp;generalize ex:ρ x=vx at*;unfold eG at hx
 split at hx
 .rename_i g off
  have hr:=nS P w ty g off n ha hs hh;simp only [ex,aL,aM,hr,Sem.run_bind,Result.andThen_ok,Sem.run_pure]
 .cases hx
section
variable {w w':World} {g off n:Nat} {t:TypeId} {cs vs:Array Value}
attribute [go_sem] eG aL aM OU fO eI Value.oneCell'
@[go_sem] theorem abM (hg:g=w.heap.size):has (w.alloc (.cells cs t)) g off n=decide (off+n<=cs.size):=by subst hg;unfold has;rw [heap_alloc_new]
@[go_sem] theorem Yi (o) (hg:g<w.heap.size):has (w.alloc o) g off n=has w g off n:=by unfold has;rw [Below.heap_alloc w o g hg]
@[go_sem] theorem Yj:has w.drew g off n=has w g off n:=rfl
@[go_sem] theorem ais (k:Nat):has (w.drewN k) g off n=has w g off n:=rfl
@[go_sem] theorem Zj (hg:g=w.heap.size):aJ (w.alloc (.cells cs t)) g=true:=by subst hg;unfold aJ;rw [heap_alloc_new];rfl
@[go_sem] theorem Uk (o) (hg:g<w.heap.size):aJ (w.alloc o) g=aJ w g:=by unfold aJ;rw [Below.heap_alloc w o g hg]
@[go_sem] theorem ahb:aJ w.drew g=aJ w g:=rfl
@[go_sem] theorem aex (k:Nat):aJ (w.drewN k) g=aJ w g:=rfl
@[go_sem] theorem aaZ (hg:g=w.heap.size):gets (w.alloc (.cells cs t)) g off n=((cs.toList.drop off).take n).toArray:=by subst hg;unfold gets;rw [heap_alloc_new]
@[go_sem] theorem VZ (o) (hg:g<w.heap.size):gets (w.alloc o) g off n=gets w g off n:=by unfold gets;rw [Below.heap_alloc w o g hg]
@[go_sem] theorem air:gets w.drew g off n=gets w g off n:=rfl
@[go_sem] theorem agm (k:Nat):gets (w.drewN k) g off n=gets w g off n:=rfl
@[go_sem] theorem ahk:(putAt w g off vs).heap.size=w.heap.size:=by simp [putAt]
@[go_sem] theorem ahj:putAt w.drew g off vs=(putAt w g off vs).drew:=rfl
@[go_sem] theorem aeB (k:Nat):putAt (w.drewN k) g off vs=(putAt w g off vs).drewN k:=rfl
@[go_sem] theorem ZA (hg:g=w.heap.size):putAt (w.alloc (.cells cs t)) g off vs=w.alloc (.cells (splice cs off vs) t):=by
 subst hg;unfold putAt World.alloc
 congr 1
 apply Array.ext_getElem?;intro k;simp only [Array.getElem?_modify,Array.getElem?_push]
 by_cases hk:k=w.heap.size
 .subst hk;simp
 .simp [hk,Ne.symm hk]
@[go_sem] theorem UK (o) (hg:g<w.heap.size):putAt (w.alloc o) g off vs=(putAt w g off vs).alloc o:=by
 unfold putAt World.alloc
 congr 1
 apply Array.ext_getElem?;intro k;simp only [Array.getElem?_modify,Array.getElem?_push,Array.size_modify]
 by_cases hk:k=w.heap.size
 .subst hk;simp [Nat.ne_of_lt hg]
 .simp [hk]
@[go_sem] theorem ahr (l l':List Value):splice l.toArray off l'.toArray=(l.take off++l'++l.drop (off+l'.length)).toArray:=by simp [splice]
theorem sH (h:off+vs.size<=cs.size):(splice cs off vs).size=cs.size:=by simp [splice];omega
theorem sF {i} (h:off+vs.size<=cs.size) (hi:i<off∨off+vs.size<=i):(splice cs off vs)[i]?=cs[i]?:=by
 simp only [splice,List.getElem?_toArray]
 rcases hi with hi|hi
 .rw [fy,List.getElem?_append_left kQ,List.getElem?_take,av hi];simp
 .rw [List.getElem?_append_right kQ,List.getElem?_drop]
  simp only [cy,vR,Array.length_toList];rw [show off+vs.size+(i - (min off cs.size+vs.size))=i from by omega];simp
@[go_sem] theorem aey {k:Nat}:aJ (putAt w g off vs) k=aJ w k:=by
 by_cases h:k=g
 .subst h
  simp only [aJ,putAt,Array.getElem?_modify,if_true]
  cases hq:w.heap[k]? with
  |none=>rfl
  |some o=>
   cases o
   case cells c e fr=>obtain⟨lo,hi⟩:=fr;cases lo<;>cases hi<;>rfl
   all_goals rfl
 .simp only [aJ,fu h]
@[go_sem] theorem aiu {k o n} (hh:has w g off vs.size=true):has (putAt w g off vs) k o n=has w k o n:=by
 by_cases h:k=g
 .subst h
  unfold has at hh⊢;simp only [putAt,Array.getElem?_modify,if_true]
  cases hq:w.heap[k]? with
  |none=>simp
  |some ob=>
   rw [hq]at hh
   cases ob<;>simp at hh⊢
   rw [sH hh]
 .simp only [has,fu h]
@[go_sem] theorem Xy {i} (hh:has w g off vs.size=true) (hi:i<off∨off+vs.size<=i):(putAt w g off vs).cell? ⟨g,i,none⟩=w.cell? ⟨g,i,none⟩:=by
 unfold has at hh;simp only [World.cell?,putAt,Array.getElem?_modify,if_true]
 cases hq:w.heap[g]? with
 |none=>simp
 |some ob=>
  rw [hq]at hh
  cases ob<;>simp at hh⊢
  rw [sF hh hi]
@[go_sem] theorem Xx {p} (h:p.block≠g):(putAt w g off vs).cell? p=w.cell? p:=by simp only [World.cell?,fu h]
@[go_sem] theorem abG {p:Addr}:(putAt w g off vs).frozen? p=w.frozen? p:=by
 by_cases h:p.block=g
 .simp only [World.frozen?,putAt,Array.getElem?_modify,h,if_true]
  cases hq:w.heap[g]? with
  |none=>simp
  |some ob=>cases ob<;>simp
 .simp only [World.frozen?,fu h]
theorem sE {o} (h:off+vs.size<=cs.size) (hi:o+n<=off∨off+vs.size<=o):((splice cs off vs).toList.drop o).take n=(cs.toList.drop o).take n:=by
 apply List.ext_getElem?;intro j;rw [List.getElem?_take,List.getElem?_take]
 split
 .rw [List.getElem?_drop,List.getElem?_drop]
  have:=sF (cs:=cs) (vs:=vs) (off:=off) (i:=o+j) h ad
  simpa using this
 .rfl
theorem ud (h:off+vs.size<=cs.size) (hn:n=vs.size):((splice cs off vs).toList.drop off).take n=vs.toList:=by
 subst hn;simp only [splice];rw [fy,List.drop_append_of_le_length kQ,List.drop_of_length_le kQ,nB,List.take_append_of_le_length aC,lY aC]
@[go_sem] theorem X3 {o} (hh:has w g off vs.size=true) (hi:o+n<=off∨off+vs.size<=o):gets (putAt w g off vs) g o n=gets w g o n:=by
 unfold has at hh;simp only [gets,putAt,Array.getElem?_modify,if_true]
 cases hq:w.heap[g]? with
 |none=>simp
 |some ob=>
  rw [hq]at hh
  cases ob<;>simp at hh⊢
  have:=sE (n:=n) hh hi
  simpa using this
@[go_sem] theorem abb (hh:has w g off vs.size=true) (hn:n=vs.size):gets (putAt w g off vs) g off n=vs:=by
 unfold has at hh;simp only [gets,putAt,Array.getElem?_modify,if_true]
 cases hq:w.heap[g]? with
 |none=>rw [hq]at hh;simp at hh
 |some ob=>
  rw [hq]at hh
  cases ob<;>simp at hh⊢
  have:=ud (n:=n) hh hn;rw [this]
@[go_sem] theorem X2 {k o} (h:k≠g):gets (putAt w g off vs) k o n=gets w k o n:=by simp only [gets,fu h]
@[go_sem] theorem adR {k o n} {p} {u:Value}:has (w.setCell p u) k o n=has w k o n:=by
 by_cases h:k=p.block
 .subst h
  simp only [has,World.setCell,Array.getElem?_modify,if_true]
  cases hq:w.heap[p.block]? with
  |none=>simp
  |some ob=>
   cases ob<;>simp
   split<;>simp
 .simp only [has,Below.heap_setCell w p u k h]
@[go_sem] theorem abd {k} {p} {u:Value}:aJ (w.setCell p u) k=aJ w k:=by
 by_cases h:k=p.block
 .subst h
  simp only [aJ,World.setCell,Array.getElem?_modify,if_true]
  cases hq:w.heap[p.block]? with
  |none=>simp
  |some ob=>
   cases ob
   case cells c e fr=>obtain⟨lo,hi⟩:=fr;cases lo<;>cases hi<;>simp
   all_goals simp
 .simp only [aJ,Below.heap_setCell w p u k h]
theorem aj.has (h:aj w g t cs) (off n:Nat):has w g off n=decide (off+n<=cs.size):=by unfold aj at h;simp [Proofs.YtnhelcmddjbafaaGreatDoor.has,h]
theorem aj.aJ (h:aj w g t cs):aJ w g=true:=by unfold aj at h;simp [Proofs.YtnhelcmddjbafaaGreatDoor.aJ,h]
theorem aj.gets (h:aj w g t cs) (off n:Nat):gets w g off n=((cs.toList.drop off).take n).toArray:=by unfold aj at h;simp [Proofs.YtnhelcmddjbafaaGreatDoor.gets,h]
theorem aj.cI (h:aj w g t cs) (off) (vs:Array Value):aj (putAt w g off vs) g t (splice cs off vs):=q_ h
theorem aj.DA (h:aj w g t cs) (hg:g≠g') (off:Nat) (vs:Array Value):aj (putAt w g' off vs) g t cs:=(fu hg).trans h
theorem Kept.putAt {S} {a:World} (h:Kept S a w) (g off:Nat) (vs:Array Value) (hp:g<a.heap.size->S g):Kept S a (putAt w g off vs):=
 h.trans' (S':=(·=g)) ⟨rfl,rfl,rfl,by simp [Proofs.YtnhelcmddjbafaaGreatDoor.putAt],λk _ hn=>fu hn⟩ (λi hi e=>by subst e;exact hp hi)
end
theorem mH {P} {w} {ty t} {g} {cs:Array Value} (ha:gB P ty=true) (hs:dw P ty=some cs.size) (hb:aj w g t cs):
 (loadVar ty ⟨g,0,none⟩).run P w=.ok (.agg cs) w:=by
 rw [cN P w ty g 0 cs.size ha hs (by rw [aj.has hb];simp),aj.gets hb];rw [qW,lY aC,Array.toArray_toList]
section
variable {P:Program} {fn:Func} {R:Ending->World->Prop} {a:Act} {w:World}
include P fn R a w
theorem bQ {p} {ty t} {g:Nat} {cs:Array Value} (Fp:fn.results=#[.cell p ty]) (hd:a.defers=[]) (hp:a.tmps.getD p undef=.pointer (some ⟨g,0,none⟩)) (ha:gB P ty=true) (hs:dw P ty=some cs.size) (hb:aj w g t cs) (hR:R (.returned (.agg cs)) w):bodyPost P fn R .ret a w:=by
 exact Sn
theorem DE {i j p q} {ty eY t t'} {g} {cs:Array Value} (Fp:fn.results=#[.tmp i,.tmp j,.cell p ty,.cell q eY]) (hd:a.defers=[]) (hp:a.tmps.getD p undef=.pointer (some ⟨g,0,none⟩)) (hq:a.tmps.getD q undef=.pointer (some ⟨g',0,none⟩)) (ha:gB P ty=true) (hs:dw P ty=some cs.size) (hb:aj w g t cs) (CL:gB P eY=true) (K7:dw P eY=some cs'.size) (fJ:aj w g' t' cs') (hR:R (.returned (.tuple #[a.tmps.getD i undef,a.tmps.getD j undef,.agg cs,.agg cs'])) w):bodyPost P fn R .ret a w:=by
 have hp':a.tmps[p]?.getD undef=.pointer (some ⟨g,0,none⟩):=by simpa using hp
 have hq':a.tmps[q]?.getD undef=.pointer (some ⟨g',0,none⟩):=by simpa using hq
 exact bodyPost_ret (by simp [results,Fp,hp',hq',asAddr,mH ha hs hb,mH CL K7 fJ]) hd hR
end
theorem ul:∀(xs ys:List Int),xs.length=ys.length->(List.range xs.length).all (λi=>xs.getD i 0==ys.getD i 0)=(xs==ys)
 |[],[],_=>rfl
 |x::xs,y::ys,h=>by
  have ih:=ul xs ys Eg;rw [dT,List.range_succ_eq_map,List.all_cons,List.all_map];simp only [Function.comp_def,List.getD_cons_succ,List.getD_cons_zero];rw [ih];simp [List.cons_beq_cons]
 |[],_::_,h=>by simp at h
 |_::_,[],h=>by simp at h
theorem pS {P} (w) (d) (t e) (n) (k) (ht:P.underlying t=some (.array n e)) (he:P.underlying e=some (.int k)) (hsz:∀w,(sizeOf e).run P w=.ok 1 w)
 (xs ys:List Int) (hx:xs.length=n) (hy:ys.length=n):
 (Op.equalIn (d+2) t (.agg (xs.map (Value.int k)).toArray) (.agg (ys.map (Value.int k)).toArray)).run P w=.ok (xs==ys) w:=by
 rw [<-ul xs ys (hx.trans hy.symm),hx,List.range_eq_range',Op.equalIn];simp only [Sem.run_bind,run_underlying ht,Result.andThen_ok,hsz,Std.Legacy.Range.forIn_eq_forIn_range',Std.Legacy.Range.size,Nat.sub_zero,Nat.add_sub_cancel,Nat.div_one];have hl:∀i∈List.range' 0 n 1,i<n:=λi hi=>by simpa using(List.mem_range'_1.1 hi).2
 generalize List.range' 0 n 1=l at hl⊢
 induction l with
 |nil=>simp
 |cons i l ih=>
  have hi:i<n:=hl i aC
  have px:(part e (xs.map (Value.int k)).toArray (i*1)).run P w=.ok (.int k (xs.getD i 0)) w:=by
   simp [part,isAgg,run_underlying he,List.getD,List.getElem?_eq_getElem (show i<xs.length by omega)]
  have py:(part e (ys.map (Value.int k)).toArray (i*1)).run P w=.ok (.int k (ys.getD i 0)) w:=by
   simp [part,isAgg,run_underlying he,List.getD,List.getElem?_eq_getElem (show i<ys.length by omega)]
  have pe:(Op.equalIn (d+1) e (.int k (xs.getD i 0)) (.int k (ys.getD i 0))).run P w=.ok (xs.getD i 0==ys.getD i 0) w:=run_equalIn_int w d e k k _ _ he;simp only [List.forIn_cons,Sem.run_bind,px,py,pe,Result.andThen_ok,List.all_cons]
  cases hb:(xs.getD i 0==ys.getD i 0)
  .simp
  .simp only [vS,Bool.false_eq_true,if_false,Sem.run_pure,Result.andThen_ok,rG]
   exact ih λj hj=>hl j (by simp [hj])
theorem qN {P} {e} {n} (h:dw P e=some n) (w:World):(sizeOf e).run P w=.ok n w:=by
 unfold dw at h
 cases hq:P.info? e with
 |none=>simp [hq]at h
 |some i=>simp [hq]at h;simp [sizeOf,typeInfo,hq,h]
theorem cL {k} {a b} (h:a=b):Ending.returned (.int k a)=.returned (.int k b):=by rw [h]
section
variable {w w':World} {g:Nat} {t:TypeId} {cs:Array Value}
theorem kR (S) (w:World):Kept S w w:=Kept.refl S w
theorem bX (h:aj w g t cs) (hk:al w w'):aj w' g t cs:=h.ext hk
theorem bC (h:aj w g t cs) (i:Nat):w.cell? ⟨g,i,none⟩=cs[i]? :=h.cell i
theorem bH (h:aj w g t cs) (off n:Nat):has w g off n=decide (off+n<=cs.size):=h.has off n
theorem bG (h:aj w g t cs) (off n:Nat):gets w g off n=((cs.toList.drop off).take n).toArray:=h.gets off n
theorem bK {S} (h:aj w g t cs) (hk:Kept S w w') (hs:¬S g):aj w' g t cs:=h.kept hk hs
theorem bN (w:World) (t) (cs:Array Value):aj (w.alloc (.cells cs t)) w.heap.size t cs:=aj.new w t cs
theorem pj (w:World):al w w.drew:=(Kept.refl _ w).drew
theorem dQ {S:Nat->Prop}:Kept S w w.drew:=(Kept.refl S w).drew
theorem dz (w) (o:Obj):Kept (λ_=>False) w (w.alloc o):=(Kept.refl _ w).alloc o
theorem dS {S} (w:World) (o:Obj):Kept S w (w.alloc o):=(Kept.refl S w).alloc o
end
end
namespace Mc
variable{pos:String}{after:Array Edge}{guard:Option (Nat×Bool)}{K:Act->World->Prop}{ρ:Operand->Value}
attribute [go_sem↓high] nh
attribute [go_sem high] nh
theorem dK:gB prog 25=true:=by kernel_rfl
theorem xv:dw prog 25=some 8:=by kernel_rfl
theorem G9 {dst} {eY} {x} {a} {w} {Q} (hx:eG (a.eval x)=true) (hh:has w (aL (a.eval x)) (aM (a.eval x)) 8=true):
 Oper.wp prog ⟨dst,.load 25 x,eY,pos,after,guard⟩ a w K Q=K (a.put dst (.agg (gets w (aL (a.eval x)) (aM (a.eval x)) 8))) w:=bB 8 dK xv hx hh
theorem PY {dst} {eY} {x} {w} (hx:eG (ρ x)=true) (hh:has w (aL (ρ x)) (aM (ρ x)) 8=true):
 (execOp ρ ⟨dst,.load 25 x,eY,pos,after,guard⟩).run prog w=.ok (.value (.agg (gets w (aL (ρ x)) (aM (ρ x)) 8))) w:=aH 8 dK xv hx hh
theorem O4 (w) (g off) (hh:has w g off 8=true):(loadVar 25 ⟨g,off,none⟩).run prog w=.ok (.agg (gets w g off 8)) w:=cN prog w _ g off 8 dK xv hh
attribute [go_sem] dK xv
attribute [go_sem↓high] G9 O4 PY
attribute [go_sem high] G9
theorem Bl:gB prog 24=true:=by kernel_rfl
theorem xu:dw prog 24=some 8:=by kernel_rfl
theorem D5 {dst} {eY} {x} {a} {w} {Q} (hx:eG (a.eval x)=true) (hh:has w (aL (a.eval x)) (aM (a.eval x)) 8=true):
 Oper.wp prog ⟨dst,.load 24 x,eY,pos,after,guard⟩ a w K Q=K (a.put dst (.agg (gets w (aL (a.eval x)) (aM (a.eval x)) 8))) w:=bB 8 Bl xu hx hh
theorem LR {dst} {eY} {x} {w} (hx:eG (ρ x)=true) (hh:has w (aL (ρ x)) (aM (ρ x)) 8=true):
 (execOp ρ ⟨dst,.load 24 x,eY,pos,after,guard⟩).run prog w=.ok (.value (.agg (gets w (aL (ρ x)) (aM (ρ x)) 8))) w:=aH 8 Bl xu hx hh
theorem Lp (w) (g off) (hh:has w g off 8=true):(loadVar 24 ⟨g,off,none⟩).run prog w=.ok (.agg (gets w g off 8)) w:=cN prog w _ g off 8 Bl xu hh
attribute [go_sem] Bl xu
attribute [go_sem↓high] D5 Lp LR
attribute [go_sem high] D5
theorem sT:gB prog 197=true:=by kernel_rfl
theorem pV:dw prog 197=some 18:=by kernel_rfl
theorem D6 {dst} {eY} {x} {a} {w} {Q} (hx:eG (a.eval x)=true) (hh:has w (aL (a.eval x)) (aM (a.eval x)) 18=true):
 Oper.wp prog ⟨dst,.load 197 x,eY,pos,after,guard⟩ a w K Q=K (a.put dst (.agg (gets w (aL (a.eval x)) (aM (a.eval x)) 18))) w:=bB 18 sT pV hx hh
theorem LS {dst} {eY} {x} {w} (hx:eG (ρ x)=true) (hh:has w (aL (ρ x)) (aM (ρ x)) 18=true):
 (execOp ρ ⟨dst,.load 197 x,eY,pos,after,guard⟩).run prog w=.ok (.value (.agg (gets w (aL (ρ x)) (aM (ρ x)) 18))) w:=aH 18 sT pV hx hh
theorem Lq (w) (g off) (hh:has w g off 18=true):(loadVar 197 ⟨g,off,none⟩).run prog w=.ok (.agg (gets w g off 18)) w:=cN prog w _ g off 18 sT pV hh
attribute [go_sem] sT pV
attribute [go_sem↓high] D6 Lq LS
attribute [go_sem high] D6
theorem we:gB prog 199=true:=by kernel_rfl
theorem tE:dw prog 199=some 37:=by kernel_rfl
theorem As {dst} {eY} {x} {a} {w} {Q} (hx:eG (a.eval x)=true) (hh:has w (aL (a.eval x)) (aM (a.eval x)) 37=true):
 Oper.wp prog ⟨dst,.load 199 x,eY,pos,after,guard⟩ a w K Q=K (a.put dst (.agg (gets w (aL (a.eval x)) (aM (a.eval x)) 37))) w:=bB 37 we tE hx hh
theorem Jn {dst} {eY} {x} {w} (hx:eG (ρ x)=true) (hh:has w (aL (ρ x)) (aM (ρ x)) 37=true):
 (execOp ρ ⟨dst,.load 199 x,eY,pos,after,guard⟩).run prog w=.ok (.value (.agg (gets w (aL (ρ x)) (aM (ρ x)) 37))) w:=aH 37 we tE hx hh
theorem IM (w) (g off) (hh:has w g off 37=true):(loadVar 199 ⟨g,off,none⟩).run prog w=.ok (.agg (gets w g off 37)) w:=cN prog w _ g off 37 we tE hh
attribute [go_sem] we tE
attribute [go_sem↓high] As IM Jn
attribute [go_sem high] As
structure Dg where (x0 x1 x2 x3 x4 x5 x6 x7:Int)
abbrev D (d:Dg):Value:=.agg #[.int .u8 d.x0,.int .u8 d.x1,.int .u8 d.x2,.int .u8 d.x3,.int .u8 d.x4,.int .u8 d.x5,.int .u8 d.x6,.int .u8 d.x7]
abbrev Dg.cells (d:Dg):Array Value:=#[.int .u8 d.x0,.int .u8 d.x1,.int .u8 d.x2,.int .u8 d.x3,.int .u8 d.x4,.int .u8 d.x5,.int .u8 d.x6,.int .u8 d.x7]
attribute [go_sem] D Dg.cells
theorem adM (w) (d) (a0 a1 a2 a3 a4 a5 a6 a7 b0 b1 b2 b3 b4 b5 b6 b7:Int):
 (Op.equalIn (d+2) 25 (.agg #[.int .u8 a0,.int .u8 a1,.int .u8 a2,.int .u8 a3,.int .u8 a4,.int .u8 a5,.int .u8 a6,.int .u8 a7]) (.agg #[.int .u8 b0,.int .u8 b1,.int .u8 b2,.int .u8 b3,.int .u8 b4,.int .u8 b5,.int .u8 b6,.int .u8 b7])).run prog w=
  .ok ([a0,a1,a2,a3,a4,a5,a6,a7]==[b0,b1,b2,b3,b4,b5,b6,b7]) w:=
 pS w d _ 5 8 .u8 underlying25 underlying5 (λw=>qN bd w) [a0,a1,a2,a3,a4,a5,a6,a7] [b0,b1,b2,b3,b4,b5,b6,b7] rfl rfl
theorem agj (w) (a0 a1 a2 a3 a4 a5 a6 a7 b0 b1 b2 b3 b4 b5 b6 b7:Int):
 (Op.equalIn 10000 25 (.agg #[.int .u8 a0,.int .u8 a1,.int .u8 a2,.int .u8 a3,.int .u8 a4,.int .u8 a5,.int .u8 a6,.int .u8 a7]) (.agg #[.int .u8 b0,.int .u8 b1,.int .u8 b2,.int .u8 b3,.int .u8 b4,.int .u8 b5,.int .u8 b6,.int .u8 b7])).run prog w=
  .ok ([a0,a1,a2,a3,a4,a5,a6,a7]==[b0,b1,b2,b3,b4,b5,b6,b7]) w:=adM w 9998 _ _ _ _ _ _ _ _ _ _ _ _ _ _ _ _
theorem X5:prog.eqGuardType prog.depth 25=false:=by kernel_rfl
attribute [go_sem] agj X5
abbrev Dg.zero:Dg:=⟨0,0,0,0,0,0,0,0⟩
structure Tr where (from_ steps:Int) (before after program:Dg) (size turn:Int) (mid:Dg) (ff:Int)
abbrev Tr.cells (t:Tr):Array Value:=#[.int .i64 t.from_,.int .i64 t.steps,
 .int .u8 t.before.x0,.int .u8 t.before.x1,.int .u8 t.before.x2,.int .u8 t.before.x3,.int .u8 t.before.x4,.int .u8 t.before.x5,.int .u8 t.before.x6,.int .u8 t.before.x7,
 .int .u8 t.after.x0,.int .u8 t.after.x1,.int .u8 t.after.x2,.int .u8 t.after.x3,.int .u8 t.after.x4,.int .u8 t.after.x5,.int .u8 t.after.x6,.int .u8 t.after.x7,
 .int .u8 t.program.x0,.int .u8 t.program.x1,.int .u8 t.program.x2,.int .u8 t.program.x3,.int .u8 t.program.x4,.int .u8 t.program.x5,.int .u8 t.program.x6,.int .u8 t.program.x7,
 .int .i64 t.size,.int .i64 t.turn,
 .int .u8 t.mid.x0,.int .u8 t.mid.x1,.int .u8 t.mid.x2,.int .u8 t.mid.x3,.int .u8 t.mid.x4,.int .u8 t.mid.x5,.int .u8 t.mid.x6,.int .u8 t.mid.x7,
 .int .i64 t.ff]
attribute [go_sem] Tr.cells
abbrev At (w:World) (b:Nat) (t:Tr):Prop:=aj w b 199 t.cells
section
variable {w:World} {b:Nat} {t:Tr}
include w b t
theorem At.cell (h:At w b t) (i:Nat):w.cell? ⟨b,i,none⟩=t.cells[i]?:=bC h i
theorem At.frozen (h:At w b t) (i:Nat):w.frozen? ⟨b,i,none⟩=false:=aj.frozen h i
theorem At.of {cs} (h:aj w b 199 cs) (e:cs=t.cells):At w b t:=by subst e;exact h
end
theorem ZW (b) (t) (w) (ht:At w b t):
 Calls prog 66 #[.pointer (some ⟨b,0,none⟩)] w λe w'=>e=.returned (.int .i64 t.turn)/\w=w':=by
 have hc:=ht.cell;go_enter func66,ntmps66
 go_wp2
 go_ret;exact⟨rfl,rfl⟩
section
variable (b:Nat) (t:Tr) (BQ:Int) (one:Bool) (w:World) (ht:At w b t)
include b t BQ one w ht
theorem NP (h:t.turn=-1):
 Calls prog 121 #[.pointer (some ⟨b,0,none⟩),.int .i64 BQ,.bool one] w λe w'=>e=.returned (.int .i64 15)/\w=w':=by
 have hc:=ht.cell;go_enter func121,ntmps121
 go_wp2
 go_ret;exact⟨rfl,rfl⟩
theorem SZ (h:(t.turn== -1)=false) (h2:(t.turn !=BQ)=true):
 Calls prog 121 #[.pointer (some ⟨b,0,none⟩),.int .i64 BQ,.bool one] w λe w'=>e=.returned (.int .i64 10)/\w=w':=by
 have hc:=ht.cell;go_enter func121,ntmps121
 go_wp2
 go_ret;exact⟨rfl,rfl⟩
end
theorem S_ (b) (t) (BQ) (one s) (w:World) (ht:At w b t) (h:(t.turn== -1)=false) (h2:(t.turn !=BQ)=false) (h3:(t.steps==1)=s):
 Calls prog 121 #[.pointer (some ⟨b,0,none⟩),.int .i64 BQ,.bool one] w λe w'=>e=.returned (.int .i64 (if s !=one then 10 else 0))/\w=w':=by
 have hc:=ht.cell
 cases s<;>cases one
 all_goals
  go_enter func121,ntmps121
  go_wp2
  go_ret;exact⟨rfl,rfl⟩
def dP (t:Tr) (BQ:Int) (one:Bool):Int:=if t.turn== -1 then 15 else if t.turn !=BQ then 10 else if (t.steps==1) !=one then 10 else 0
section
variable (b:Nat) (t:Tr)
include b t
theorem lp (BQ) (one) (w) (ht:At w b t):
 Calls prog 121 #[.pointer (some ⟨b,0,none⟩),.int .i64 BQ,.bool one] w λe w'=>e=.returned (.int .i64 (dP t BQ one))/\w=w':=by
 unfold dP
 cases h:t.turn== -1
 .cases h2:t.turn !=BQ
  .simpa using S_ b t BQ one _ w ht h h2 rfl
  .simpa using SZ b t BQ one w ht h h2
 .simpa using NP b t BQ one w ht Eg
theorem D1 (BQ) (w) (ht:At w b t):
 Calls prog 119 #[.pointer (some ⟨b,0,none⟩),.int .i64 BQ] w λe w'=>e=.returned (.tuple #[])/\At w' b {t with turn:=-1,ff:=BQ}/\Kept (·=b) w w':=by
 have hc:=ht.cell;have hf:=ht.frozen;have hh:=bH ht;have hm:=aj.aJ ht;have hg:=bG ht;go_enter func119,ntmps119
 go_wp2
 go_end0;refine⟨rfl,At.of ((aj.fw (aj.fw ht _ _) _ _)) rfl,?_⟩
 ((repeat' (with_reducible (first|apply Kept.drew|apply Kept.drewN|apply Kept.alloc|apply Kept.setCell|apply Kept.putAt|exact kR _ _)))<;>(intro aX;first|rfl|(simp at aX;done)|(exfalso;simp at aX;omega)|omega))
theorem acI (d) (w) (ht:At w b t) (h:(dP t 0 false==0)=false):
 Calls prog 63 #[.pointer (some ⟨b,0,none⟩),D d] w λe w'=>e=.returned (.int .i64 (dP t 0 false))/\At w' b t/\Kept (·=b) w w':=by
 go_enter func63,ntmps63;go_wp2_with (go_at_call 121;refine(lp b t _ _ _ (aj.alloc ht _)).mono ?_;rintro e w' ⟨rfl,rfl⟩);go_ret;exact⟨rfl,aj.alloc ht _,dS _ _⟩
theorem acJ (d) (w) (ht:At w b t) (h:dP t 0 false=0):
 Calls prog 63 #[.pointer (some ⟨b,0,none⟩),D d] w λe w'=>e=.returned (.int .i64 0)/\At w' b {t with mid:=d,turn:=1}/\Kept (·=b) w w':=by
 have aX:b<w.heap.size:=aj.lt ht;have hc:=ht.cell;have hf:=ht.frozen;have hh:=bH ht;have hm:=aj.aJ ht;have hg:=bG ht;go_enter func63,ntmps63;go_wp2_with (go_at_call 121;refine(lp b t _ _ _ (aj.alloc ht _)).mono ?_;rintro e w' ⟨rfl,rfl⟩);go_ret;refine⟨rfl,?_,?_⟩
 ·(apply At.of;(· (repeat' (with_reducible (first|assumption|apply aj.fw|apply aj.cI|apply aj.alloc|apply aj.drew|apply aj.drewN))));(· kernel_rfl))
 ·((repeat' (with_reducible (first|apply Kept.drew|apply Kept.drewN|apply Kept.alloc|apply Kept.setCell|apply Kept.putAt|exact kR _ _)))<;>(intro aX;first|rfl|(simp at aX;done)|(exfalso;simp at aX;omega)|omega))
end
def DW (t:Tr) (d:Dg):Tr:=if dP t 0 false=0 then{t with mid:=d,turn:=1}else t
theorem ZT (b) (t) (d) (w:World) (ht:At w b t):
 Calls prog 63 #[.pointer (some ⟨b,0,none⟩),D d] w λe w'=>e=.returned (.int .i64 (dP t 0 false))/\At w' b (DW t d)/\Kept (·=b) w w':=by
 unfold DW
 by_cases h:dP t 0 false=0
 .rw [av h,h];exact acJ b t d w ht h
 .rw [af h];exact acI b t d w ht Eg
structure Sp where (from_ steps:Int) (before after:Dg)
abbrev Sp.cells (t:Sp):Array Value:=#[.int .i64 t.from_,.int .i64 t.steps,
 .int .u8 t.before.x0,.int .u8 t.before.x1,.int .u8 t.before.x2,.int .u8 t.before.x3,.int .u8 t.before.x4,.int .u8 t.before.x5,.int .u8 t.before.x6,.int .u8 t.before.x7,
 .int .u8 t.after.x0,.int .u8 t.after.x1,.int .u8 t.after.x2,.int .u8 t.after.x3,.int .u8 t.after.x4,.int .u8 t.after.x5,.int .u8 t.after.x6,.int .u8 t.after.x7]
attribute [go_sem] Sp.cells
section
variable (s:Sp) (m:Dg) (w:World) (h0:0<=s.steps) (h1:s.steps<=1048576)
include s m w h0 h1
theorem TG:
 Calls prog 122 #[.agg #[.int .i64 s.from_,.int .i64 s.steps,.int .u8 s.before.x0,.int .u8 s.before.x1,.int .u8 s.before.x2,.int .u8 s.before.x3,.int .u8 s.before.x4,.int .u8 s.before.x5,.int .u8 s.before.x6,.int .u8 s.before.x7,.int .u8 s.after.x0,.int .u8 s.after.x1,.int .u8 s.after.x2,.int .u8 s.after.x3,.int .u8 s.after.x4,.int .u8 s.after.x5,.int .u8 s.after.x6,.int .u8 s.after.x7],.agg #[.int .u8 m.x0,.int .u8 m.x1,.int .u8 m.x2,.int .u8 m.x3,.int .u8 m.x4,.int .u8 m.x5,.int .u8 m.x6,.int .u8 m.x7]] w λe w'=>e=.returned (.agg (Sp.cells ⟨s.from_,s.steps / 2,s.before,m⟩))/\al w w':=by
 go_enter func122,ntmps122
 go_wp2
 refine bQ results122 rfl rfl sT (by exact pV) (aj.d_ _ _ _ _ aC) ⟨rfl,?_⟩
 ((repeat' (with_reducible (first|apply Kept.drew|apply Kept.drewN|apply Kept.alloc|apply Kept.setCell|apply Kept.putAt|exact kR _ _)))<;>(intro aX;first|rfl|(simp at aX;done)|(exfalso;simp at aX;omega)|omega))
theorem P5 (h2:0<=s.from_) (h3:s.from_<=1048576):
 Calls prog 123 #[.agg #[.int .i64 s.from_,.int .i64 s.steps,.int .u8 s.before.x0,.int .u8 s.before.x1,.int .u8 s.before.x2,.int .u8 s.before.x3,.int .u8 s.before.x4,.int .u8 s.before.x5,.int .u8 s.before.x6,.int .u8 s.before.x7,.int .u8 s.after.x0,.int .u8 s.after.x1,.int .u8 s.after.x2,.int .u8 s.after.x3,.int .u8 s.after.x4,.int .u8 s.after.x5,.int .u8 s.after.x6,.int .u8 s.after.x7],.agg #[.int .u8 m.x0,.int .u8 m.x1,.int .u8 m.x2,.int .u8 m.x3,.int .u8 m.x4,.int .u8 m.x5,.int .u8 m.x6,.int .u8 m.x7]] w λe w'=>e=.returned (.agg (Sp.cells ⟨s.from_+s.steps / 2,s.steps - s.steps / 2,m,s.after⟩))/\al w w':=by
 go_enter func123,ntmps123
 go_wp2
 refine bQ results123 rfl rfl sT (by exact pV) (aj.d_ _ _ _ _ aC) ⟨rfl,?_⟩
 ((repeat' (with_reducible (first|apply Kept.drew|apply Kept.drewN|apply Kept.alloc|apply Kept.setCell|apply Kept.putAt|exact kR _ _)))<;>(intro aX;first|rfl|(simp at aX;done)|(exfalso;simp at aX;omega)|omega))
end
theorem Qp (b) (t) (w) (ht:At w b t):
 Calls prog 120 #[.pointer (some ⟨b,0,none⟩)] w λe w'=>e=.returned (.tuple #[.int .i64 t.ff,.bool (t.ff != -1)])/\al w w':=by
 have hc:=ht.cell;go_enter func120,ntmps120
 go_wp2
 go_quiet (fail)
 go_wp2
 go_ret2
 exact aeS
theorem Ti (b) (t) (f) (w) (ht:At w b t) (h:(dP t 1 false==0)=false):
 Calls prog 65 #[.pointer (some ⟨b,0,none⟩),.bool f] w λe w'=>e=.returned (.int .i64 (dP t 1 false))/\At w' b t/\Kept (·=b) w w':=by
 go_enter func65,ntmps65;go_wp2_with (go_at_call 121;refine(lp b t _ _ _ ht).mono ?_;rintro e w' ⟨rfl,rfl⟩);go_ret;exact⟨rfl,ht,kR _ _⟩
end Mc
section
variable{listed:Array Bool}{oi:Oper}{fuel:Nat}
section
variable {P:Program} {ops:Array Oper} {Q:Exit->Act->World->Prop} {S:World->Prop} {md:Region.Mode} {ex:Nat->Bool}
def Down (md:Region.Mode) (ops:Array Oper) (listed:Array Bool):Prop:=
 ∀(j:Nat) (oj:Oper),ops[j]?=some oj->listed.getD j false=true->∀e∈oj.after,Region.binds md e=true->listed.getD e.on false=true
def dpL (md:Region.Mode):List Edge->Nat|[]=>0|e::r=>(if Region.binds md e then 2^e.on else 0)|||dpL md r
def uJ (md:Region.Mode) (ops:Array Oper) (k:Nat):Nat:=match ops[k]? with|some o=>dpL md o.after.toList|none=>0
def pE (md:Region.Mode) (ops:Array Oper):Nat->Nat->Nat
 |0,m=>m
 |k+1,m=>pE md ops k (if m.testBit k then m|||uJ md ops k else m)
theorem Rl (md:Region.Mode):∀{l:List Edge} {i:Nat},(dpL md l).testBit i=true->∃e∈l,Region.binds md e=true/\e.on=i
 |[],i,h=>by simp [dpL]at h
 |e::r,i,h=>by
  simp only [dpL,Nat.testBit_or,Bool.or_eq_true]at h
  rcases h with h|h
  .split at h
   .rename_i hb
    rw [Nat.testBit_two_pow]at h;exact⟨e,by simp,hb,by simpa using h⟩
   .simp at h
  .obtain⟨e',he,hb,hi⟩:=Rl md h
   exact⟨e',by simp [he],hb,hi⟩
theorem uK {md} {ops} {k i} (h:(uJ md ops k).testBit i=true):∃o,ops[k]?=some o/\∃e∈o.after,Region.binds md e=true/\e.on=i:=by
 unfold uJ at h
 split at h
 .rename_i o ho
  obtain⟨e,he,hb,hi⟩:=Rl md h;exact⟨o,ho,e,by simpa using he,hb,hi⟩
 .simp at h
theorem mD {md:Region.Mode} {ops:Array Oper} (hd:Down md ops listed):∀(k m:Nat),(∀i,m.testBit i=true->listed.getD i false=true)->
 ∀i,(pE md ops k m).testBit i=true->listed.getD i false=true
 |0,m,h=>h
 |k+1,m,h=>by
  refine mD hd k _ λi hi=>?_
  split at hi
  .rename_i hk
   rw [Nat.testBit_or,Bool.or_eq_true]at hi
   rcases hi with hi|hi
   .exact h i hi
   .obtain⟨o,ho,e,he,hb,rfl⟩:=uK hi
    exact hd k o ho (h k hk) e he hb
  .exact h i hi
theorem Down.set {md} {ops} {j} (hd:Down md ops listed) (hj:j∈Region.ready md ops listed):Down md ops (listed.setIfInBounds j true):=by
 obtain⟨_,oj,T6,hall⟩:=mem_ready.1 hj;intro k ok hk hl e he hb
 by_cases hkj:j=k
 .subst hkj
  rw [T6]at hk;injection hk with hk;subst hk;exact getD_set_true (hall e he hb)
 .rw [getD_set_ne false hkj]at hl
  exact getD_set_true (hd k ok hk hl e he hb)
theorem Down.init {md} {ops} (n:Nat):Down md ops (Array.replicate n false):=by
 intro j oj _ hl
 exfalso
 rcases Nat.lt_or_ge j n with h|h
 .simp [h]at hl
 .simp [Array.getElem?_eq_none (show(Array.replicate n false).size<=j by simpa using h)]at hl
def o6 (P:Program) (md:Region.Mode) (ops:Array Oper) (Q:Exit->Act->World->Prop) (S:World->Prop) (ex:Nat->Bool):Nat->Array Bool->Act->World->Prop
 |0,listed,a,w=>Region.ready md ops listed=[]/\Q .normal a w
 |fuel+1,listed,a,w=>
  (Region.ready md ops listed=[]->Q .normal a w)/\
  ∀i∈Region.ready md ops listed,wpOp P ops Q i (λa' w'=>(ex i=true∨S w')/\o6 P md ops Q S ex fuel (listed.setIfInBounds i true) a' w') a w
theorem D4:∀(fuel:Nat) (listed:Array Bool) (a:Act) (w:World),o6 P md ops Q S ex fuel listed a w->wpAny P md ops Q fuel listed a w
 |0,_,_,_,h=>h
 |fuel+1,_,_,_,h=>⟨h.1,λi hi=>wpOp_mono (λa' w' h'=>D4 fuel _ a' w' h'.2) (h.2 i hi)⟩
theorem Jw {i:Nat} {v:Value} (hi:ops[i]?=some oi) (abW:∀(j:Nat) (o:Oper) cs b,ops[j]?=some o->o.op≠ .select cs b)
 (hQ:∀c a w,Q (.panic c) (a.put oi.dst v) w->Q (.panic c) a w)
 (hex:∀j listed,Down md ops listed->j∈Region.ready md ops listed->j≠i->ex j=true->listed.getD i false=true):
 ∀(fuel:Nat) (listed:Array Bool) (a:Act) (w:World),Down md ops listed->
  (∀j oj,ops[j]?=some oj->j≠i->listed.getD j true=false->(∀e∈oj.after,Region.binds md e=true->e.on≠i)->oi.apart ops oj=true)->
  i∈Region.ready md ops listed->YieldsIf P ops S oi v a->S w->
  o6 P md ops Q S ex fuel (listed.setIfInBounds i true) (a.put oi.dst v) w->o6 P md ops Q S ex (fuel+1) listed a w:=by
 intro fuel
 induction fuel with
 |zero=>
  intro listed a w _ _ hr hy hS H;refine⟨λh=>Vy,λj hj=>?_⟩
  by_cases zH:j=i
  .subst zH;exact hy.wpOp hi hS ⟨.inr hS,H⟩
  .have:=ready_mono hj zH
   rw [H.1]at this
   cases this
 |succ fuel ih=>
  intro listed a w pG Rz hr hy hS H;refine⟨λh=>Vy,λj hj=>?_⟩
  by_cases zH:j=i
  .subst zH;exact hy.wpOp hi hS ⟨.inr hS,H⟩
  .have h1:=H.2 j (ready_mono hj zH)
   obtain⟨abP,oj,T6,hall⟩:=mem_ready.1 hj
   have agG:∀e∈oj.after,Region.binds md e=true->e.on≠i:=λe he hb heq=>by
    exact anS
   have agE:ex j=true->False:=λh=>by
    exact aeG
   refine ahM ?_;intro h2 uQ a' w' h3;have zC:S w':=h3.2.1.elim (λh=>(agE h).elim) id;refine⟨.inr zC,ih (listed.setIfInBounds j true) a' w' (pG.set hj) uQ (ready_mono hr (Ne.symm zH)) h3.1 zC ?_⟩;rw [Array.setIfInBounds_comm _ _ zH];exact h3.2.2
theorem Mu {i} {v} {a} {w:World} (pG:Down md ops listed) (hi:ops[i]?=some oi)
 (hs:Region.noSelect ops=true) (hf:Region.free md ops listed i=true) (hr:(Region.ready md ops listed).contains i=true)
 (hex:∀j listed,Down md ops listed->j∈Region.ready md ops listed->j≠i->ex j=true->listed.getD i false=true)
 (hQ:∀c a w,Q (.panic c) (a.put oi.dst v) w->Q (.panic c) a w) (hy:YieldsIf P ops S oi v a) (hS:S w)
 (h:o6 P md ops Q S ex fuel (listed.setIfInBounds i true) (a.put oi.dst v) w):o6 P md ops Q S ex (fuel+1) listed a w:=
 Jw hi (Region.noSelect_spec hs) hQ hex fuel listed a w pG (Region.free_spec hi hf) (by simpa using hr) hy hS h
theorem Qq {rs} {a} {w} (hr:Region.ready md ops listed=rs) (gM:rs≠[])
 (h:∀i∈rs,wpOp P ops Q i (λa' w'=>(ex i=true∨S w')/\o6 P md ops Q S ex fuel (listed.setIfInBounds i true) a' w') a w):o6 P md ops Q S ex (fuel+1) listed a w:=
 ⟨λh0=>absurd (hr▸h0) gM,hr▸h⟩
theorem Mt {a:Act} {w:World} (hr:Region.ready md ops listed=[]) (h:Q .normal a w):
 ∀fuel,o6 P md ops Q S ex fuel listed a w
 |0=>⟨hr,h⟩
 |_+1=>⟨λ_=>h,by rw [hr];simp⟩
def exB (md:Region.Mode) (ops:Array Oper) (fs:List Bool) (j:Nat):Bool:=
 (List.range fs.length).all λi=>!(fs.getD i false)||i==j||(pE md ops j (uJ md ops j)).testBit i
theorem XR {fs} {i j:Nat} (hf:fs[i]?=some true) (hd:Down md ops listed) (hj:j∈Region.ready md ops listed) (gM:j≠i) (h:exB md ops fs j=true):
 listed.getD i false=true:=by
 have hi:i<fs.length:=(List.getElem?_eq_some_iff.1 hf).1;have h1:=List.all_eq_true.1 h i (List.mem_range.2 hi);have hg:fs.getD i false=true:=by simp [List.getD,hf]
 simp only [hg,vS,Bool.false_or,Bool.or_eq_true,beq_iff_eq]at h1
 rcases h1 with h1|h1
 .exact absurd h1.symm gM
 .obtain⟨_,oj,T6,hall⟩:=mem_ready.1 hj
  refine mD hd j _ (λx hx=>?_) i h1;obtain⟨o,ho,e,he,hb,rfl⟩:=uK hx;rw [T6]at ho;injection ho with ho;subst ho;exact hall e he hb
def LG (md:Region.Mode) (ops:Array Oper):List Bool->Nat->Array Bool->Bool
 |[],_,listed=>(Region.ready md ops listed).isEmpty
 |true::r,i,listed=>Region.free md ops listed i&&(Region.ready md ops listed).contains i&&LG md ops r (i+1) (listed.setIfInBounds i true)
 |false::r,i,listed=>(Region.ready md ops listed==[i])&&LG md ops r (i+1) (listed.setIfInBounds i true)
def uu (Q:Exit->Act->World->Prop):Exit->Act->World->Prop
 | .normal,a,w=>Q .normal a w
 |_,_,_=>False
def oo (P:Program) (ops:Array Oper) (Q:Exit->Act->World->Prop) (S:World->Prop) (fs:List Bool):Nat->List Oper->List Bool->Act->World->Prop
 |_,[],[],a,w=>Q .normal a w
 |k,o::l,true::r,a,w=>S w/\∃v,YieldsIf P ops S o v a/\oo P ops Q S fs (k+1) l r (a.put o.dst v) w
 |k,o::l,false::r,a,w=>
  if Region.wanted o (yielded ops a.tmps)then o.wp P a w (λa' w'=>(exB .any ops fs k=true∨S w')/\oo P ops Q S fs (k+1) l r a' w') (uu Q)∨(o.asks P a w/\LetsOut (uu Q))
  else(exB .any ops fs k=true∨S w)/\oo P ops Q S fs (k+1) l r (a.put o.dst undef) w
 |_,_,_,_,_=>False
theorem qS {fs:List Bool} (hs:Region.noSelect ops=true):∀(l:List Oper) (r:List Bool) (i fuel:Nat) (listed:Array Bool) (a:Act) (w:World),l.length<=fuel->(∀j,l[j]?=ops[i+j]?)->(∀j,r[j]?=fs[i+j]?)->Down .any ops listed->
 LG .any ops r i listed=true->oo P ops Q S fs i l r a w->o6 P .any ops (uu Q) S (exB .any ops fs) fuel listed a w
 |[],[],i,fuel,listed,a,w,_,_,_,_,hB,h=>Mt (Q:=uu Q) (by simpa [LG]using hB) h fuel
 |[],_::_,i,fuel,listed,a,w,_,_,_,_,_,h=>by simp [oo]at h
 |_::_,[],i,fuel,listed,a,w,_,_,_,_,_,h=>by simp [oo]at h
 |_::_,_::_,i,0,listed,a,w,hf,_,_,_,_,_=>by simp at hf
 |o::l,true::r,i,fuel+1,listed,a,w,hf,hl,hr,pG,hB,h=>by
  obtain⟨hS,v,hy,h⟩:=h;simp only [LG,fz]at hB;have ho:ops[i]?=some o:=by simpa using(hl 0).symm
  have hfi:fs[i]?=some true:=by simpa using(hr 0).symm
  exact Mu pG ho hs hB.1.1 hB.1.2 (λj l hd hj gM hx=>XR hfi hd hj gM hx) (λ_ _ _ x=>x) hy hS (qS hs l r (i+1) fuel _ _ w (by simpa using hf)
   (λj=>by have:=hl (j+1);simpa [gH,Nat.add_comm 1 j]using this) (λj=>by have:=hr (j+1);simpa [gH,Nat.add_comm 1 j]using this) (pG.set aam) hB.2 h)
 |o::l,false::r,i,fuel+1,listed,a,w,hf,hl,hr,pG,hB,h=>by
  simp only [LG,fz,beq_iff_eq]at hB;have ho:ops[i]?=some o:=by simpa using(hl 0).symm
  have hl':∀j,l[j]?=ops[i+1+j]?:=λj=>by have:=hl (j+1);simpa [gH,Nat.add_comm 1 j]using this
  have Iy:∀j,r[j]?=fs[i+1+j]?:=λj=>by have:=hr (j+1);simpa [gH,Nat.add_comm 1 j]using this
  refine Qq hB.1 aC λj hj=>?_;obtain rfl:j=i:=by simpa using hj
  have h1:wpOp P ops (uu Q) j (λa' w'=>(exB .any ops fs j=true∨S w')/\oo P ops Q S fs (j+1) l r a' w') a w:=by
   unfold wpOp;rw [ho];exact h
  exact wpOp_mono (λa' w' h'=>⟨h'.1,qS hs l r (j+1) fuel _ a' w' (by simpa using hf) hl' Iy (pG.set (by rw [hB.1];simp)) hB.2 h'.2⟩) h1
theorem uu.imp:∀e a (w:World),uu Q e a w->Q e a w:=λe a w h=>by
 cases e<;>first|exact h|exact h.elim
theorem ng {id} {a} {w} {l} (S) (fs) (hm:P.follows .mixedOrders=true) (hs:Region.noSelect l.toArray=true)
 (hB:LG .any l.toArray fs 0 (Array.replicate l.toArray.size false)=true)
 (h:oo P l.toArray Q S fs 0 l fs a w.drew):(Code.region id l.toArray true).wp P Q a w:=
 Code.wp_mono uu.imp (wp_region_any hm (D4 _ _ _ _ (qS hs l fs 0 _ _ a _ aC aC aC (Down.init _) hB h)))
theorem Jx {id} {a} {w} {l} (fs:List Bool) (hm:P.follows .mixedOrders=true) (hs:Region.noSelect l.toArray=true)
 (hB:LG .any l.toArray fs 0 (Array.replicate l.toArray.size false)=true)
 (h:oo P l.toArray Q (λw1=>w1=w.drew) fs 0 l fs a w.drew):(Code.region id l.toArray true).wp P Q a w:=ng _ fs hm hs hB h
variable {fs:List Bool} {k:Nat}
theorem xK {a} {w} (h:Q .normal a w):oo P ops Q S fs k [] [] a w:=h
theorem tL {l} {r} {a} {w} {o} {v:Value} (hS:S w) (hw:Region.wanted o (yielded ops a.tmps)=true)
 (hy:∀w',S w'->(execOp a.eval o).run P w'=.ok (.value v) w') (h:∀K:Act->World->Prop,(∀a w,oo P ops Q S fs (k+1) l r a w->K a w)->K (a.put o.dst v) w):oo P ops Q S fs k (o::l) (true::r) a w:=
 ⟨hS,v,.inl ⟨hw,hy⟩,h _ (λ_ _ h=>h)⟩
theorem tK {l} {r} {a} {w} {o:Oper} (hS:S w) (hw:Region.wanted o (yielded ops a.tmps)=false)
 (h:∀K:Act->World->Prop,(∀a w,oo P ops Q S fs (k+1) l r a w->K a w)->K (a.put o.dst undef) w):oo P ops Q S fs k (o::l) (true::r) a w:=
 ⟨hS,undef,.inr ⟨hw,rfl⟩,h _ (λ_ _ h=>h)⟩
theorem sK {l} {r} {a} {w} {o:Oper}
 (h:∀K:Act->World->Prop,Shut (∀a' w',S w'->(S w'->oo P ops Q S fs (k+1) l r a' w')->K a' w')->if Region.wanted o (yielded ops a.tmps)=true then Oper.wp P o a w K (uu Q)else K (a.put o.dst undef) w):
 oo P ops Q S fs k (o::l) (false::r) a w:=by
 have h:=h (λa' w'=>(exB .any ops fs k=true∨S w')/\oo P ops Q S fs (k+1) l r a' w') (λa' w' hS h=>⟨.inr hS,h hS⟩);unfold oo
 split
 .rename_i hw;rw [av hw]at h;exact .inl h
 .rename_i hw;rw [af hw]at h;exact h
theorem Ed {l} {r} {a} {w} {o} (hx:exB .any ops fs k=true)
 (h:∀K:Act->World->Prop,Shut (∀a' w',oo P ops Q S fs (k+1) l r a' w'->K a' w')->if Region.wanted o (yielded ops a.tmps)=true then Oper.wp P o a w K (uu Q)else K (a.put o.dst undef) w):
 oo P ops Q S fs k (o::l) (false::r) a w:=by
 have h:=h (λa' w'=>(exB .any ops fs k=true∨S w')/\oo P ops Q S fs (k+1) l r a' w') (λa' w' h=>⟨.inl hx,h⟩);unfold oo
 split
 .rename_i hw;rw [av hw]at h;exact .inl h
 .rename_i hw;rw [af hw]at h;exact h
end
end
namespace Mc
section
variable (b:Nat) (t:Tr) (w:World) (ht:At w b t) (h:dP t 1 false=0) (h0:0<=t.steps) (h1:t.steps<=1048576)
include b t w ht h h0 h1
theorem Ic:
 Calls prog 65 #[.pointer (some ⟨b,0,none⟩),.bool true] w λe w'=>e=.returned (.int .i64 0)/\At w' b {t with steps:=t.steps / 2,after:=t.mid,mid:=Dg.zero,turn:=0}/\Kept (·=b) w w':=by
 have aX:b<w.heap.size:=aj.lt ht;go_enter func65,ntmps65;go_wp2_with (go_at_call 121;refine(lp b t _ _ _ ht).mono ?_;rintro e w' ⟨rfl,rfl⟩);refine amE ?_;refine sK (λK hK=>?_);go_simp;go_wp2_with (go_at_call 122;refine(TG ⟨t.from_,t.steps,t.before,t.after⟩ t.mid _ h0 h1).mono ?_;rintro e w' ⟨rfl,hx⟩);exact amW
theorem Fb (h2:0<=t.from_) (h3:t.from_<=1048576):
 Calls prog 65 #[.pointer (some ⟨b,0,none⟩),.bool false] w λe w'=>e=.returned (.int .i64 0)/\At w' b {t with from_:=t.from_+t.steps / 2,steps:=t.steps - t.steps / 2,before:=t.mid,mid:=Dg.zero,turn:=0}/\Kept (·=b) w w':=by
 have aX:b<w.heap.size:=aj.lt ht;go_enter func65,ntmps65;go_wp2_with (go_at_call 121;refine(lp b t _ _ _ ht).mono ?_;rintro e w' ⟨rfl,rfl⟩);refine amE ?_;refine sK (λK hK=>?_);go_simp;go_wp2_with (go_at_call 123;refine(P5 ⟨t.from_,t.steps,t.before,t.after⟩ t.mid _ h0 h1 h2 h3).mono ?_;rintro e w' ⟨rfl,hx⟩);exact amW
end
def oy (t:Tr) (f:Bool):Tr:=
 if dP t 1 false=0 then(if f then{t with steps:=t.steps / 2,after:=t.mid,mid:=Dg.zero,turn:=0}else{t with from_:=t.from_+t.steps / 2,steps:=t.steps - t.steps / 2,before:=t.mid,mid:=Dg.zero,turn:=0})else t
theorem uG (b) (t) (f) (w) (ht:At w b t) (h0:0<=t.steps) (h1:t.steps<=1048576) (h2:0<=t.from_) (h3:t.from_<=1048576):
 Calls prog 65 #[.pointer (some ⟨b,0,none⟩),.bool f] w λe w'=>e=.returned (.int .i64 (dP t 1 false))/\At w' b (oy t f)/\Kept (·=b) w w':=by
 unfold oy
 by_cases h:dP t 1 false=0
 .rw [av h,h]
  cases f
  .exact Fb b t w ht h h0 h1 h2 h3
  .exact Ic b t w ht h h0 h1
 .rw [af h];exact Ti b t f w ht Eg
theorem xy (b) (t) (w) (ht:At w b t):
 Calls prog 60 #[.pointer (some ⟨b,0,none⟩)] w λe w'=>e=.returned (.tuple #[.int .i64 t.from_,.int .i64 t.steps,.agg t.before.cells,.agg t.after.cells])/\al w w':=by
 have aX:b<w.heap.size:=aj.lt ht;go_enter func60,ntmps60
 go_wp2
 refine ng (λw1=>At w1 b t) [true,true,true,true,true,true,true,true,true,true,true,true,true,true,true,true,true,true,true,true,true,true,false,false] bd bd bd ?_
 (repeat (first|((apply tL);(· exact((aj.alloc (aj.alloc ht _) _)));(· go_simp);(· (intro w1 hS;have hh:=bH hS;have hg:=bG hS;have hc:=bC hS;go_simp;try with_reducible rfl));refine iR ?_)|((apply tK);(· exact((aj.alloc (aj.alloc ht _) _)));(· go_simp);refine iR ?_)))
 (repeat (refine sK (λK hK=>?_);go_simp;refine hK.out _ _ (by(repeat' (with_reducible (first|assumption|apply aj.fw|apply aj.cI|apply aj.alloc|apply aj.drew|apply aj.drewN)))) (λ_=>?_);clear hK K))
 refine xK ?_
 go_wp2
 refine DE results60 rfl rfl rfl dK ke (aj.drew (aj.alloc (aj.d_ _ _ _ _ aC) _)) dK ke (aj.drew (aj.d_ _ _ _ _ aC)) ⟨rfl,?_⟩
 ((repeat' (with_reducible (first|apply Kept.drew|apply Kept.drewN|apply Kept.alloc|apply Kept.setCell|apply Kept.putAt|exact kR _ _)))<;>(intro aX;first|rfl|(simp at aX;done)|(exfalso;simp at aX;omega)|omega))
theorem acA {n} (h:n<=20):(1:Int)<=2^n/\(2:Int)^n<=1048576:=by
 have h1:(2:Nat)^n<=2^20:=Nat.pow_le_pow_right ad h;have h2:1<=(2:Nat)^n:=Nat.one_le_two_pow;have e:((2^n:Nat):Int)=(2:Int)^n:=by simp
 omega
theorem ahc (p a z) (size k:Int) (hk:0<=k) (eC:k<=20) (hs:1<=size) (pK:size<=2048) (w:World):
 Calls prog 117 #[.agg #[.int .u8 p.x0,.int .u8 p.x1,.int .u8 p.x2,.int .u8 p.x3,.int .u8 p.x4,.int .u8 p.x5,.int .u8 p.x6,.int .u8 p.x7],.int .i64 size,.int .i64 k,.agg #[.int .u8 a.x0,.int .u8 a.x1,.int .u8 a.x2,.int .u8 a.x3,.int .u8 a.x4,.int .u8 a.x5,.int .u8 a.x6,.int .u8 a.x7],.agg #[.int .u8 z.x0,.int .u8 z.x1,.int .u8 z.x2,.int .u8 z.x3,.int .u8 z.x4,.int .u8 z.x5,.int .u8 z.x6,.int .u8 z.x7]] w λe w'=>∃g,w.heap.size<=g/\e=.returned (.tuple #[.pointer (some ⟨g,0,none⟩),.int .i64 0])/\At w' g ⟨0,2^k.toNat,a,z,p,size,0,Dg.zero,-1⟩/\al w w':=by
 go_enter func117,ntmps117
 go_wp2
 refine Jx [true,true,true,true,true,true,true,true,false] bd bd bd ?_
 (repeat (first|((apply tL);(· exact rfl);(· go_simp);(· (intro w1 hS;subst hS;go_simp;try with_reducible rfl));refine iR ?_)|((apply tK);(· exact rfl);(· go_simp);refine iR ?_)))
 (repeat (refine Ed bd (λK hK=>?_);go_simp;refine hK.out _ _ ?_;clear hK K));refine xK ?_
 go_wp2
 go_ret2
 refine⟨w.heap.size+1+1+1,by omega,rfl,?_,?_⟩
 .have hp:=acA (n:=k.toNat) ad
  rw [show IntKind.i64.wrap (2^k.toNat)=2^k.toNat from IntWalk.i64_in _ ad];exact At.of (aj.drew (aj.d_ _ _ _ _ aC)) rfl
 ·((repeat' (with_reducible (first|apply Kept.drew|apply Kept.drewN|apply Kept.alloc|apply Kept.setCell|apply Kept.putAt|exact kR _ _)))<;>(intro aX;first|rfl|(simp at aX;done)|(exfalso;simp at aX;omega)|omega))
def EJ (K:Nat) (t:Tr) (n:Int):Prop:=
 0<=t.from_/\t.from_+t.steps<=2^K/\∃j:Nat,j<=K/\t.steps=2^j/\
  ((t.turn=0/\t.ff=-1/\n=2*((K:Int) - j))∨(t.turn=1/\1<=j/\t.ff=-1/\n=2*((K:Int) - j)+1)∨
   (t.turn=-1/\(t.ff=0∨t.ff=1)/\0<=n/\n<=2*K+1))
theorem EJ.start (K) (a z p) (s) (m:Dg):EJ K ⟨0,2^K,a,z,p,s,0,m,-1⟩ 0:=
 ⟨by simp,by simp,K,eH _,rfl,.inl ⟨rfl,rfl,by omega⟩⟩
def more (n e:Int):Int:=if e=0 then n+1 else n
theorem Zz (b) (t) (cs) (w) (ht:At w b t) (h:(dP t 0 true==0)=false):Calls prog 68 #[.pointer (some ⟨b,0,none⟩),.agg cs] w λe w'=>e=.returned (.int .i64 (dP t 0 true))/\al w w':=by
 go_enter func68,ntmps68;go_wp2_with (go_at_call 121;refine(lp b t _ _ _ (aj.alloc ht _)).mono ?_;rintro e w' ⟨rfl,rfl⟩);exact anG
end Mc
section
variable {P:Program} {ops:Array Oper} {Q:Exit->Act->World->Prop} {S:World->Prop} {md:Region.Mode} {ex:Nat->Bool}
def nop : Oper := { dst := none, op := .load 0 (.tmp 0), type := 0, pos := "", after := #[], guard := none }
variable {od:List (Nat×Bool)} {k:Nat}
end
section
variable{o0 o1 o2:Obj}
variable {w:World} {off n g:Nat} {vs:Array Value}
@[go_sem high] theorem adP:has ((w.alloc o0).alloc o1) (w.heap.size) off n=has (w.alloc o0) (w.heap.size) off n:=by
 have h:((w.alloc o0).alloc o1).heap[w.heap.size]?=(w.alloc o0).heap[w.heap.size]?:=by
  rw [Below.heap_alloc _ _ _ VD]
 unfold has;rw [h]
@[go_sem high] theorem abI:gets ((w.alloc o0).alloc o1) (w.heap.size) off n=gets (w.alloc o0) (w.heap.size) off n:=by
 have h:((w.alloc o0).alloc o1).heap[w.heap.size]?=(w.alloc o0).heap[w.heap.size]?:=by
  rw [Below.heap_alloc _ _ _ VD]
 unfold gets;rw [h]
@[go_sem high] theorem adQ:has (((w.alloc o0).alloc o1).alloc o2) (w.heap.size+1) off n=has ((w.alloc o0).alloc o1) (w.heap.size+1) off n:=by
 have h:(((w.alloc o0).alloc o1).alloc o2).heap[w.heap.size+1]?=((w.alloc o0).alloc o1).heap[w.heap.size+1]?:=by
  rw [Below.heap_alloc _ _ _ VD]
 unfold has;rw [h]
@[go_sem high] theorem abJ:gets (((w.alloc o0).alloc o1).alloc o2) (w.heap.size+1) off n=gets ((w.alloc o0).alloc o1) (w.heap.size+1) off n:=by
 have h:(((w.alloc o0).alloc o1).alloc o2).heap[w.heap.size+1]?=((w.alloc o0).alloc o1).heap[w.heap.size+1]?:=by
  rw [Below.heap_alloc _ _ _ VD]
 unfold gets;rw [h]
@[go_sem high] theorem ait (h:g<w.heap.size):has ((w.alloc o0).alloc o1) g off n=has w g off n:=by
 have e:((w.alloc o0).alloc o1).heap[g]?=w.heap[g]?:=by
  rw [Below.heap_alloc _ _ _ VD];rw [Below.heap_alloc _ _ _ h]
 unfold has;rw [e]
@[go_sem high] theorem agn (h:g<w.heap.size):gets ((w.alloc o0).alloc o1) g off n=gets w g off n:=by
 have e:((w.alloc o0).alloc o1).heap[g]?=w.heap[g]?:=by
  rw [Below.heap_alloc _ _ _ VD];rw [Below.heap_alloc _ _ _ h]
 unfold gets;rw [e]
@[go_sem] theorem V_ {i} {v} (h:off<=i):gets (w.setCell ⟨g,i,none⟩ v) g off n=(gets w g off n).setIfInBounds (i - off) v:=by
 simp only [gets,World.setCell,Array.getElem?_modify,if_true]
 cases hq:w.heap[g]? with
 |none=>simp
 |some ob=>
  cases ob<;>simp
  rw [List.drop_set,af ad,List.take_set]
@[go_sem] theorem TL {i} {v} (h:i<off∨off+n<=i):gets (w.setCell ⟨g,i,none⟩ v) g off n=gets w g off n:=by
 simp only [gets,World.setCell,Array.getElem?_modify,if_true]
 cases hq:w.heap[g]? with
 |none=>simp
 |some ob=>
  cases ob<;>simp
  rw [List.drop_set]
  split
  .rfl
  .rw [List.take_set,List.set_eq_of_length_le kQ]
@[go_sem] theorem TK {p} {v} (h:g≠p.block):gets (w.setCell p v) g off n=gets w g off n:=by
 simp only [gets,Below.heap_setCell w p v g h]
end
section
variable{Q':Exit->Act->World->Prop}{K:Act->World->Prop}{listed:Array Bool}{oi:Oper}{G:Prop}
variable {P:Program} {ops:Array Oper} {Q:Exit->Act->World->Prop} {S:World->Prop} {md:Region.Mode} {ex:Nat->Bool}
theorem Oper.Ee {o:Oper} {a:Act} {w:World} (h:∀e a w,Q e a w->Q' e a w) (hh:o.wp P a w K Q):o.wp P a w K Q':=by
 unfold Oper.wp at*;generalize (execOp a.eval o).run P w=r at*
 cases r with
 |ok n w'=>
  cases n<;>simp only [Oper.upon]at hh⊢<;>
   first
    |exact hh
    |exact Calls.mono hh (λe uf he=>by cases e<;>first|exact he|exact h _ _ _ he|exact he.imp λ_=>Exists.imp λ_=>h _ _ _)
 |halt x w'=>cases x<;>simp only [Oper.upon]at hh⊢<;>first|exact h _ _ _ hh|exact hh
theorem qT {i} {a} {w} (h:∀e a w,Q e a w->Q' e a w) (hh:wpOp P ops Q i K a w):wpOp P ops Q' i K a w:=by
 unfold wpOp at*
 split
 .simpa [*]using hh
 .rename_i o ho
  simp only [ho]at hh
  split
  .rename_i hw;simp only [hw,if_true]at hh;exact hh.imp (Oper.Ee h) (λq=>⟨q.1,q.2.imp λ_=>Exists.imp λ_=>h _ _ _⟩)
  .rename_i hw;simp only [hw]at hh;exact hh
def QL (Q:Exit->Act->World->Prop) (xT:Nat->Bool) (j:Nat):Exit->Act->World->Prop:=if xT j=true then Q else uu Q
theorem QL.imp {xT} {j}:∀e (a:Act) (w:World),QL Q xT j e a w->Q e a w:=λe a w h=>by
 unfold QL at h
 split at h
 .exact h
 .exact uu.imp e a w h
theorem QL.of {xT} {j}:∀(e:Exit) (a:Act) (w:World),uu Q e a w->QL Q xT j e a w:=λe a w h=>by
 unfold QL
 split
 .exact uu.imp e a w h
 .exact h
variable {xT:Nat->Bool}
def wpAnyH (P:Program) (md:Region.Mode) (ops:Array Oper) (Q:Exit->Act->World->Prop) (S:World->Prop) (ex xT:Nat->Bool):Nat->Array Bool->Act->World->Prop
 |0,listed,a,w=>Region.ready md ops listed=[]/\Q .normal a w
 |fuel+1,listed,a,w=>
  (Region.ready md ops listed=[]->Q .normal a w)/\
  ∀i∈Region.ready md ops listed,wpOp P ops (QL Q xT i) i (λa' w'=>(ex i=true∨(S w->S w'))/\wpAnyH P md ops Q S ex xT fuel (listed.setIfInBounds i true) a' w') a w
theorem vi:∀(fuel:Nat) (listed:Array Bool) (a:Act) (w:World),wpAnyH P md ops Q S ex xT fuel listed a w->wpAny P md ops Q fuel listed a w
 |0,_,_,_,h=>h
 |fuel+1,_,_,_,h=>⟨h.1,λi hi=>wpOp_mono (λa' w' h'=>vi fuel _ a' w' h'.2) (qT QL.imp (h.2 i hi))⟩
theorem aez {i:Nat} {oj:Oper} (hr:i∈Region.ready md ops listed) (hall:∀e∈oj.after,Region.binds md e=true->listed.getD e.on false=true):
 ∀e∈oj.after,Region.binds md e=true->e.on≠i:=λe he hb heq=>by
 exact anS
theorem wpAnyH_first {i} {v} (hi:ops[i]?=some oi) (abW:∀(j:Nat) (o:Oper) cs b,ops[j]?=some o->o.op≠ .select cs b)
 (akr:∀j listed,Down md ops listed->j∈Region.ready md ops listed->j≠i->xT j=true->listed.getD i false=true)
 (hex:∀j listed,Down md ops listed->j∈Region.ready md ops listed->j≠i->ex j=true->listed.getD i false=true):
 ∀(fuel:Nat) (listed:Array Bool) (a:Act) (w:World),Down md ops listed->
  (∀j oj,ops[j]?=some oj->j≠i->listed.getD j true=false->(∀e∈oj.after,Region.binds md e=true->e.on≠i)->oi.apart ops oj=true)->
  i∈Region.ready md ops listed->YieldsIf P ops S oi v a->S w->
  wpAnyH P md ops Q S ex xT fuel (listed.setIfInBounds i true) (a.put oi.dst v) w->wpAnyH P md ops Q S ex xT (fuel+1) listed a w:=by
 intro fuel
 induction fuel with
 |zero=>
  intro listed a w _ _ hr hy hS H;refine⟨λh=>Vy,λj hj=>?_⟩
  by_cases zH:j=i
  .subst zH;exact hy.wpOp hi hS ⟨.inr id,H⟩
  .have:=ready_mono hj zH
   rw [H.1]at this
   cases this
 |succ fuel ih=>
  intro listed a w pG Rz hr hy hS H;refine⟨λh=>Vy,λj hj=>?_⟩
  by_cases zH:j=i
  .subst zH;exact hy.wpOp hi hS ⟨.inr id,H⟩
  .have h1:=H.2 j (ready_mono hj zH)
   obtain⟨abP,oj,T6,hall⟩:=mem_ready.1 hj;have agG:=aez hr hall
   have agE:ex j=true->False:=λh=>by
    exact aeG
   have Ov:xT j=true->False:=λh=>by
    exact aeF
   have hQ:∀c a w,QL Q xT j (.panic c) (a.put oi.dst v) w->QL Q xT j (.panic c) a w:=λc a w h=>by
    unfold QL at h⊢;rw [af (λe=>Ov e)]at h;exact h.elim
   refine ahM ?_;intro h2 uQ a' w' h3;have zC:S w':=h3.2.1.elim (λh=>(agE h).elim) (λh=>h hS);refine⟨.inr λ_=>zC,ih (listed.setIfInBounds j true) a' w' (pG.set hj) uQ (ready_mono hr (Ne.symm zH)) h3.1 zC ?_⟩;rw [Array.setIfInBounds_comm _ _ zH];exact h3.2.2
theorem Af {i} {v} (hi:ops[i]?=some oi) (abW:∀(j:Nat) (o:Oper) cs b,ops[j]?=some o->o.op≠ .select cs b)
 (akr:∀j listed,Down md ops listed->j∈Region.ready md ops listed->j≠i->xT j=true->listed.getD i false=true):
 ∀(fuel:Nat) (listed:Array Bool) (a:Act) (w:World),Down md ops listed->
  (∀j oj,ops[j]?=some oj->j≠i->listed.getD j true=false->(∀e∈oj.after,Region.binds md e=true->e.on≠i)->oi.apart ops oj=true)->
  i∈Region.ready md ops listed->YieldsIf P ops (λ_=>True) oi v a->
  wpAnyH P md ops Q S ex xT fuel (listed.setIfInBounds i true) (a.put oi.dst v) w->wpAnyH P md ops Q S ex xT (fuel+1) listed a w:=by
 intro fuel
 induction fuel with
 |zero=>
  intro listed a w _ _ hr hy H;refine⟨λh=>Vy,λj hj=>?_⟩
  by_cases zH:j=i
  .subst zH;exact hy.wpOp hi trivial ⟨.inr id,H⟩
  .have:=ready_mono hj zH
   rw [H.1]at this
   cases this
 |succ fuel ih=>
  intro listed a w pG Rz hr hy H;refine⟨λh=>Vy,λj hj=>?_⟩
  by_cases zH:j=i
  .subst zH;exact hy.wpOp hi trivial ⟨.inr id,H⟩
  .have h1:=H.2 j (ready_mono hj zH)
   obtain⟨abP,oj,T6,hall⟩:=mem_ready.1 hj;have agG:=aez hr hall
   have Ov:xT j=true->False:=λh=>by
    exact aeF
   have hQ:∀c a w,QL Q xT j (.panic c) (a.put oi.dst v) w->QL Q xT j (.panic c) a w:=λc a w h=>by
    unfold QL at h⊢;rw [af (λe=>Ov e)]at h;exact h.elim
   refine ahM ?_;intro h2 uQ a' w' h3;refine⟨h3.2.1,ih (listed.setIfInBounds j true) a' w' (pG.set hj) uQ (ready_mono hr (Ne.symm zH)) h3.1 ?_⟩;rw [Array.setIfInBounds_comm _ _ zH];exact h3.2.2
theorem wpAnyH_all {rs} {fuel} {a} {w} (hr:Region.ready md ops listed=rs) (gM:rs≠[])
 (h:∀i∈rs,wpOp P ops (QL Q xT i) i (λa' w'=>(ex i=true∨(S w->S w'))/\wpAnyH P md ops Q S ex xT fuel (listed.setIfInBounds i true) a' w') a w):wpAnyH P md ops Q S ex xT (fuel+1) listed a w:=
 ⟨λh0=>absurd (hr▸h0) gM,hr▸h⟩
theorem wpAnyH_done {a:Act} {w:World} (hr:Region.ready md ops listed=[]) (h:Q .normal a w):
 ∀fuel,wpAnyH P md ops Q S ex xT fuel listed a w
 |0=>⟨hr,h⟩
 |_+1=>⟨λ_=>h,by rw [hr];simp⟩
def exP (md:Region.Mode) (ops:Array Oper) (od:List (Nat×Nat)) (j:Nat):Bool:=
 od.all λp=>!(p.2==1)||p.1==j||(pE md ops ops.size (uJ md ops j)).testBit p.1
theorem XS {od} {i j:Nat} (hf:(i,1)∈od) (hd:Down md ops listed) (hj:j∈Region.ready md ops listed) (gM:j≠i) (h:exP md ops od j=true):
 listed.getD i false=true:=by
 have h1:=List.all_eq_true.1 h _ hf;simp only [beq_self_eq_true,vS,Bool.false_or,Bool.or_eq_true,beq_iff_eq]at h1;exact aeT
def Uj (md:Region.Mode) (ops:Array Oper) (od:List (Nat×Nat)) (j:Nat):Bool:=
 od.all λp=>p.1==j||(pE md ops ops.size (uJ md ops j)).testBit p.1
theorem Gx {od} {i k j:Nat} (hf:(i,k)∈od) (hd:Down md ops listed) (hj:j∈Region.ready md ops listed) (gM:j≠i) (h:Uj md ops od j=true):
 listed.getD i false=true:=by
 exact anz
def I3 (md:Region.Mode) (ops:Array Oper):List (Nat×Nat)->Array Bool->Bool
 |[],listed=>(Region.ready md ops listed).isEmpty
 |(i,0)::r,listed=>(Region.ready md ops listed==[i])&&I3 md ops r (listed.setIfInBounds i true)
 |(i,_+1)::r,listed=>Region.free md ops listed i&&(Region.ready md ops listed).contains i&&I3 md ops r (listed.setIfInBounds i true)
def eu (P:Program) (ops:Array Oper) (Q:Exit->Act->World->Prop) (S:World->Prop) (od:List (Nat×Nat)):List (Nat×Nat)->List Oper->Act->World->Prop
 |[],[],a,w=>Q .normal a w
 |(k,0)::r,o::l,a,w=>
  if Region.wanted o (yielded ops a.tmps)then o.wp P a w (λa' w'=>(exP .any ops od k=true∨(S w->S w'))/\eu P ops Q S od r l a' w') (QL Q (Uj .any ops od) k)∨(o.asks P a w/\LetsOut (QL Q (Uj .any ops od) k))
  else eu P ops Q S od r l (a.put o.dst undef) w
 |(_,1)::r,o::l,a,w=>S w/\∃v,YieldsIf P ops S o v a/\eu P ops Q S od r l (a.put o.dst v) w
 |(_,_+2)::r,o::l,a,w=>∃v,YieldsIf P ops (λ_=>True) o v a/\eu P ops Q S od r l (a.put o.dst v) w
 |_,_,_,_=>False
theorem oM {od:List (Nat×Nat)} (hs:Region.noSelect ops=true):∀(r:List (Nat×Nat)) (l:List Oper) (fuel:Nat) (listed:Array Bool) (a:Act) (w:World),l.length<=fuel->l.map some=r.map (λp=>ops[p.1]?)->(∀p∈r,p∈od)->Down .any ops listed->
 I3 .any ops r listed=true->eu P ops Q S od r l a w->wpAnyH P .any ops Q S (exP .any ops od) (Uj .any ops od) fuel listed a w
 |[],[],fuel,listed,a,w,_,_,_,_,hB,h=>wpAnyH_done (by simpa [I3]using hB) h fuel
 |_::_,[],fuel,listed,a,w,_,_,_,_,_,h=>by simp [eu]at h
 |[],_::_,fuel,listed,a,w,_,_,_,_,_,h=>by simp [eu]at h
 |_::_,_::_,0,listed,a,w,hf,_,_,_,_,_=>by simp at hf
 |(i,1)::r,o::l,fuel+1,listed,a,w,hf,hl,hr,pG,hB,h=>by
  obtain⟨hS,v,hy,h⟩:=h;simp only [I3,fz]at hB;simp only [nC,List.cons.injEq]at hl
  exact wpAnyH_first hl.1.symm (Region.noSelect_spec hs) (λj l hd hj gM hx=>Gx (hr _ (List.mem_cons_self ..)) hd hj gM hx) (λj l hd hj gM hx=>XS (hr _ aC) hd hj gM hx) fuel listed a w pG (Region.free_spec hl.1.symm hB.1.1) aam hy hS
   (oM hs r l fuel _ _ w (by simpa using hf) hl.2 (λp hp=>hr p (by simp [hp])) (pG.set aam) hB.2 h)
 |(i,n+2)::r,o::l,fuel+1,listed,a,w,hf,hl,hr,pG,hB,h=>by
  obtain⟨v,hy,h⟩:=h;simp only [I3,fz]at hB;simp only [nC,List.cons.injEq]at hl
  exact Af hl.1.symm (Region.noSelect_spec hs) (λj l hd hj gM hx=>Gx (hr _ (List.mem_cons_self ..)) hd hj gM hx) fuel listed a w pG (Region.free_spec hl.1.symm hB.1.1) aam hy
   (oM hs r l fuel _ _ w (by simpa using hf) hl.2 (λp hp=>hr p (by simp [hp])) (pG.set aam) hB.2 h)
 |(i,0)::r,o::l,fuel+1,listed,a,w,hf,hl,hr,pG,hB,h=>by
  simp only [I3,fz,beq_iff_eq]at hB;simp only [nC,List.cons.injEq]at hl;refine wpAnyH_all hB.1 aC λj hj=>?_;obtain rfl:j=i:=by simpa using hj
  have h1:wpOp P ops (QL Q (Uj .any ops od) j) j (λa' w'=>(exP .any ops od j=true∨(S w->S w'))/\eu P ops Q S od r l a' w') a w:=by
   unfold wpOp;rw [<-hl.1];unfold eu at h
   by_cases hw:Region.wanted o (yielded ops a.tmps)=true
   .rw [av hw]at h
    simp only [av hw];exact h
   .rw [af hw]at h
    simp only [af hw];exact⟨.inr id,h⟩
  exact wpOp_mono (λa' w' h'=>⟨h'.1,oM hs r l fuel _ a' w' (by simpa using hf) hl.2 (λp hp=>hr p (by simp [hp])) (pG.set (by rw [hB.1];simp)) hB.2 h'.2⟩) h1
def inP (n:Nat) (od:List (Nat×Nat)):Bool:=od.all λp=>decide (p.1<n)
theorem Mw {id} {a} {w:World} {l:List Oper} (S:World->Prop) (od:List (Nat×Nat)) (hm:P.follows .mixedOrders=true) (hs:Region.noSelect l.toArray=true)
 (hB:I3 .any l.toArray od (Array.replicate l.toArray.size false)=true) (wV:(inP l.length od&&decide (od.length<=l.length))=true)
 (h:∀l',l'=od.map (λp=>l.getD p.1 nop)->eu P l.toArray Q S od od l' a w.drew):(Code.region id l.toArray true).wp P Q a w:=by
 simp only [fz,gZ]at wV;refine(wp_region_any hm (vi _ _ _ _ (oM hs od _ _ _ a _ ?_ ?_ (λ_ h=>h) (Down.init _) hB (h _ rfl))))
 .simpa using wV.2
 .rw [List.map_map]
  refine List.map_congr_left λp hp=>?_;have aX:p.1<l.length:=of_decide_eq_true (List.all_eq_true.1 wV.1 p hp);simp [List.getD,List.getElem?_eq_getElem aX]
theorem eW {id} {a} {w} {l:List Oper} (S:World->Prop) (od:List (Nat×Nat)) (h:∀l',l'=od.map (λp=>l.getD p.1 nop)->eu P l.toArray Q S od od l' a w.drew) (hm:P.follows .mixedOrders=true:=by kernel_rfl) (hs:Region.noSelect l.toArray=true:=by kernel_rfl) (hB:I3 .any l.toArray od (Array.replicate l.toArray.size false)=true:=by kernel_rfl) (wV:(inP l.length od&&decide (od.length<=l.length))=true:=by kernel_rfl):(Code.region id l.toArray true).wp P Q a w:=Mw S od hm hs hB wV h
variable {od:List (Nat×Nat)} {k:Nat}
theorem ZZ {a} {w} (h:Q .normal a w):eu P ops Q S od [] [] a w:=h
theorem acR {l} {r} {a} {w} {o} {v:Value} (hS:S w) (hw:Region.wanted o (yielded ops a.tmps)=true)
 (hy:∀w',S w'->(execOp a.eval o).run P w'=.ok (.value v) w') (h:∀K:Act->World->Prop,(∀a w,eu P ops Q S od r l a w->K a w)->K (a.put o.dst v) w):eu P ops Q S od ((k,1)::r) (o::l) a w:=
 ⟨hS,v,.inl ⟨hw,hy⟩,h _ (λ_ _ h=>h)⟩
theorem acO {l} {r} {a} {w} {o:Oper} (hS:S w) (hw:Region.wanted o (yielded ops a.tmps)=false)
 (h:∀K:Act->World->Prop,(∀a w,eu P ops Q S od r l a w->K a w)->K (a.put o.dst undef) w):eu P ops Q S od ((k,1)::r) (o::l) a w:=
 ⟨hS,undef,.inr ⟨hw,rfl⟩,h _ (λ_ _ h=>h)⟩
theorem cF {P} {ops} {Q} {S} {od r} {k} {l} {a} {w} {o} {v} (hS:S w) (hy:∀w',S w'->(execOp a.eval o).run P w'= .ok (.value v) w') (g:G) (hw:Region.wanted o (yielded ops a.tmps)=true:=by(go_simp;first|done|fail)) (h:G->∀K:Act->World->Prop,(∀a w,eu P ops Q S od r l a w->K a w)->K (a.put o.dst v) w:=by(intro qq;have QQ:=J qq;clear qq;intro K hK;go_simp;refine hK _ _ ?_;clear hK K;exact QQ.o)):eu P ops Q S od ((k,1)::r) (o::l) a w:=acR hS hw hy (h g)
theorem cD {P} {ops} {Q} {S} {od r} {k} {l} {a} {w} {o:Oper} (hS:S w) (g:G) (hw:Region.wanted o (yielded ops a.tmps)=false:=by(go_simp;first|done|fail)) (h:G->∀K:Act->World->Prop,(∀a w,eu P ops Q S od r l a w->K a w)->K (a.put o.dst undef) w:=by(intro qq;have QQ:=J qq;clear qq;intro K hK;go_simp;refine hK _ _ ?_;clear hK K;exact QQ.o)):eu P ops Q S od ((k,1)::r) (o::l) a w:=acO hS hw (h g)
theorem acP {l} {r} {a} {w} {o} {v} (hw:Region.wanted o (yielded ops a.tmps)=true)
 (hy:∀w',(execOp a.eval o).run P w'=.ok (.value v) w') (h:∀K:Act->World->Prop,(∀a w,eu P ops Q S od r l a w->K a w)->K (a.put o.dst v) w):eu P ops Q S od ((k,2)::r) (o::l) a w:=
 ⟨v,.inl ⟨hw,λw _=>hy w⟩,h _ (λ_ _ h=>h)⟩
theorem acQ {l} {r} {a} {w} {o} (hw:Region.wanted o (yielded ops a.tmps)=false)
 (h:∀K:Act->World->Prop,(∀a w,eu P ops Q S od r l a w->K a w)->K (a.put o.dst undef) w):eu P ops Q S od ((k,2)::r) (o::l) a w:=
 ⟨undef,.inr ⟨hw,rfl⟩,h _ (λ_ _ h=>h)⟩
theorem ap {l} {r} {a} {w} {o:Oper}
 (h:∀K:Act->World->Prop,Shut (∀a' w',(S w->S w')->eu P ops Q S od r l a' w'->K a' w')->if Region.wanted o (yielded ops a.tmps)=true then Oper.wp P o a w K (uu Q)else K (a.put o.dst undef) w):
 eu P ops Q S od ((k,0)::r) (o::l) a w:=by
 unfold eu
 split
 .rename_i hw
  have h:=h (λa' w'=>(exP .any ops od k=true∨(S w->S w'))/\eu P ops Q S od r l a' w') (λa' w' hS h=>⟨.inr hS,h⟩);rw [av hw]at h;exact .inl (Oper.Ee QL.of h)
 .rename_i hw
  have h:=h (λa' w'=>eu P ops Q S od r l a' w') (λa' w' _ h=>h);rw [af hw]at h;exact h
theorem DZ {l} {r} {a} {w} {o} (hx:exP .any ops od k=true)
 (h:∀K:Act->World->Prop,Shut (∀a' w',eu P ops Q S od r l a' w'->K a' w')->if Region.wanted o (yielded ops a.tmps)=true then Oper.wp P o a w K (uu Q)else K (a.put o.dst undef) w):
 eu P ops Q S od ((k,0)::r) (o::l) a w:=by
 unfold eu
 split
 .rename_i hw
  have h:=h (λa' w'=>(exP .any ops od k=true∨(S w->S w'))/\eu P ops Q S od r l a' w') (λa' w' h=>⟨.inl hx,h⟩);rw [av hw]at h;exact .inl (Oper.Ee QL.of h)
 .rename_i hw
  have h:=h (λa' w'=>eu P ops Q S od r l a' w') (λa' w' h=>h);rw [af hw]at h;exact h
theorem dJ {l} {r} {a} {w} {o:Oper} (hx:Uj .any ops od k=true) (bM:exP .any ops od k=true)
 (h:∀K:Act->World->Prop,Shut (∀a' w',eu P ops Q S od r l a' w'->K a' w')->if Region.wanted o (yielded ops a.tmps)=true then Oper.wp P o a w K Q else K (a.put o.dst undef) w):
 eu P ops Q S od ((k,0)::r) (o::l) a w:=by
 unfold eu
 split
 .rename_i hw
  have h:=h (λa' w'=>(exP .any ops od k=true∨(S w->S w'))/\eu P ops Q S od r l a' w') (λa' w' h=>⟨.inl bM,h⟩);rw [av hw]at h;unfold QL;rw [av hx];exact .inl h
 .rename_i hw
  have h:=h (λa' w'=>eu P ops Q S od r l a' w') (λa' w' h=>h);rw [af hw]at h;exact h
