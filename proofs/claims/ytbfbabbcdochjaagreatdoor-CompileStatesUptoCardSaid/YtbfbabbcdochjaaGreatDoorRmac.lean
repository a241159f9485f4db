/- Several texts joined: G, Sp, Sf. -/
import Derived.Laws.AppendOwn
import Derived.Laws.AppendOwnNone
import Derived.ProofKit
import Derived.OpenShut
import Derived.ShutString
import Derived.ChangeOld
import Derived.Below
import Derived.Deep.Slices
import Derived.Lib.Hide
import Derived.Test.YtbfbabbcdochjaaGreatDoorRmpk
import Derived.Test.YtbfbabbcdochjaaGreatDoorRmab
set_option maxHeartbeats 4000000
set_option maxRecDepth 100000
namespace Go.Proofs.YtbfbabbcdochjaaGreatDoor
open Go.RowKit
structure Row (w:World) (b off:Nat) (vs:List Value):Prop where
 has:has w b off vs.length=true
 get:gets w b off vs.length=vs.toArray
 lt:b<w.heap.size
section
variable {w w':World} {b off:Nat} {vs:List Value}
theorem Row.inv (h:Row w b off vs):∃c t fr,w.heap[b]?=some (.cells c t fr)/\off+vs.length<=c.size/\(c.toList.drop off).take vs.length=vs:=by
 have h1:=h.has;have h2:=h.get;unfold Proofs.YtbfbabbcdochjaaGreatDoor.has at h1;unfold gets at h2
 split at h1
 ·rename_i c t fr hq
  rw [hq]at h2;exact⟨c,t,fr,hq,of_decide_eq_true h1,by simpa using h2⟩
 ·cases h1
theorem Row.kept {S:Nat->Prop} (h:Row w b off vs) (hk:Kept S w w') (hs:¬S b):Row w' b off vs:=by
 have hb:=hk.block b h.lt hs;refine⟨?_,?_,Nat.lt_of_lt_of_le h.lt hk.size⟩
 ·have:=h.has;unfold Proofs.YtbfbabbcdochjaaGreatDoor.has at this⊢;rw [hb];exact this
 ·have:=h.get;unfold gets at this⊢;rw [hb];exact this
theorem Row.ext (h:Row w b off vs) (hk:Ext w w'):Row w' b off vs:=h.kept hk (λf=>f)
theorem Row.sub (h:Row w b off vs) (j m:Nat) (hj:j+m<=vs.length):Proofs.YtbfbabbcdochjaaGreatDoor.has w b (off+j) m=true/\gets w b (off+j) m=((vs.drop j).take m).toArray:=by
 obtain⟨c,t,fr,hq,hle,htk⟩:=h.inv;unfold Proofs.YtbfbabbcdochjaaGreatDoor.has gets;rw [hq];refine⟨by simp;omega,?_⟩;show((c.toList.drop (off+j)).take m).toArray=_;rw [<-htk,List.drop_take,List.take_take,List.drop_drop,Nat.min_eq_left aj]
theorem Row.cell (h:Row w b off vs) (i:Nat) (hi:i<vs.length):w.cell? ⟨b,off+i,none⟩=vs[i]?:=by
 obtain⟨c,t,fr,hq,hle,htk⟩:=h.inv;rw [cell_of_row w b (off+i) c t fr hq,<-htk,List.getElem?_take,if_pos hi,List.getElem?_drop];simp
theorem Row.eZ {t:TypeId} {cs:Array Value} (h:aH w b t cs):Row w b 0 cs.toList:=by
 refine⟨by rw [bH h];simp,?_,aH.lt h⟩;rw [bG h];simp [List.take_of_length_le]
end
theorem dU {P:Program} {fn:Func} {R:Ending->World->Prop} {a:Act} {w:World} {p j:Tmp} {ty t:TypeId} {g:Nat} {cs:Array Value}
 (hres:fn.results=#[.cell p ty,.tmp j]) (hd:a.defers=[]) (hp:a.tmps.getD p undef=.pointer (some ⟨g,0,none⟩)) (ha:jQ P ty=true) (hs:sizeT P ty=some cs.size) (hb:aH w g t cs)
 (hR:R (.returned (.tuple #[.agg cs,a.tmps.getD j undef])) w):bodyPost P fn R .ret a w:=by
 exact acj
theorem aW {a b:Bool} (h:a=b):Ending.returned (.bool a)=.returned (.bool b):=by rw [h]
theorem bD {w w':World} {base:Nat} {E:TypeId} {sz:Nat} {v:Value} {n:Nat} {xs:List Value} (h:w.ownsRow base E sz v n xs) (hk:Ext w w'):w'.ownsRow base E sz v n xs:=
 h.kept (row:=none) ⟨hk.os,hk.tape,hk.output,hk.size,λk hl _=>hk.block k hl (λf=>f)⟩ (by cases hv:v.ownBlock<;>simp)
theorem gZ {w:World} {b b':Nat} {E:TypeId} {sz:Nat} {v:Value} {n:Nat} {xs:List Value} (h:w.ownsRow b' E sz v n xs) (hb:b<=b'):w.ownsRow b E sz v n xs:=by
 refine⟨h.1,?_⟩
 rcases h.2 with h1|⟨g,c,cur,hv,hg,r⟩
 ·exact .inl h1
 ·exact .inr ⟨g,c,cur,hv,Nat.le_trans hb hg,r⟩
theorem bS {S:Nat->Prop} {w w':World} {base:Nat} {E:TypeId} {sz:Nat} {v:Value} {n:Nat} {xs:List Value} (h:w.ownsRow base E sz v n xs) (hk:Kept S w w') (hs:∀g,v.ownBlock=some g->¬S g):w'.ownsRow base E sz v n xs:=by
 refine⟨h.1,?_⟩
 rcases h.2 with h1|⟨g,c,cur,hv,hg,hc,r⟩
 ·exact .inl h1
 ·refine .inr ⟨g,c,cur,hv,hg,?_,r⟩
  rw [hk.block g (Array.getElem?_eq_some_iff.1 hc).1 (hs g (by rw [hv];rfl))];exact hc
theorem oC {w:World} {base:Nat} {E:TypeId} {sz:Nat} {v:Value} {n:Nat} {xs:List Value} (h:w.ownsRow base E sz v n xs) {i:Nat} (hi:v.ownBlock=some i):∃cur,w.heap[i]?=some (.cells cur E (0,0)):=by
 rcases h.2 with⟨hv,_⟩|⟨g,c,cur,hv,_,hc,_⟩
 ·rw [hv]at hi;simp [Value.ownBlock]at hi
 ·rw [hv]at hi
  simp [Value.ownBlock]at hi;subst hi;exact⟨cur,hc⟩
theorem dI {w:World} {base:Nat} {E E':TypeId} {sz:Nat} {v:Value} {n:Nat} {xs:List Value} (h:w.ownsRow base E sz v n xs) (hE:¬E=E'):∀i,v.ownBlock=some i->∀cur fr,¬w.heap[i]?=some (.cells cur E' fr):=λi hi cur fr e=>by
 obtain⟨cur',e'⟩:=oC h hi;rw [e]at e';injection e' with e';injection e' with _ e' _;exact hE e'.symm
theorem vv (w:World) (E:TypeId) (sz:Nat):(w.alloc (.cells #[] E)).ownsRow w.heap.size E sz (.slice (some ⟨w.heap.size,0,none⟩) 0 0) 0 []:=
 ⟨by simp,.inr ⟨w.heap.size,0,#[],rfl,Nat.le_refl _,heap_alloc_new w _,Nat.le_refl _,by simp,by simp,by simp⟩⟩
theorem Kept.uz {w w':World} {row:Option Nat} (h:w.grownBy w' row):Kept (λi=>row=some i) w w':=
 ⟨h.os,h.tape,h.output,h.size,λk hk hn=>h.block k hk (λe=>hn e.symm)⟩
theorem S_ (b off j:Nat):(⟨b,off,none⟩:Addr).add j=⟨b,off+j,none⟩:=by unfold Addr.add;split<;>simp_all
theorem Row.cells {w:World} {b off:Nat} {vs:List Value} (h:Row w b off vs):∀j u,vs[j]?=some u->w.cell? ((⟨b,off,none⟩:Addr).add j)=some u:=λj u hu=>by
 rw [S_,h.cell j (List.getElem?_eq_some_iff.1 hu).1,hu]
theorem Dy {P:Program} {T E:TypeId} {i:TypeInfo} {z:Value} {sz bytes:Nat} (ht:P.underlying T=some (.slice E)) (hi:P.info? E=some i) (hz:i.zero=some z) (h1:i.size=sz) (h2:i.bytes=bytes) (h3:z.cells.size=sz) (h4:0<sz)
 (w:World) (base:Nat) (v:Value) (n:Nat) (xs:List Value) (hown:w.ownsRow base E sz v n xs) (b off m c:Nat) (ys:List Value) (hl:ys.length=m*sz) (hr:Row w b off ys) (hf:iQ ys=true) (hn:n+m<=maxLen) (hb:(n+m)*bytes<=140737488355328) (hbase:base<=w.heap.size):
 ∃v' w',(Builtin.append_ #[T,T] T #[v,.slice (some ⟨b,off,none⟩) m c]).run P w=.ok v' w'/\w'.ownsRow base E sz v' (n+m) (xs++ys)/\Kept (λi=>v.ownBlock=some i) w w':=by
 obtain⟨v',w',hrun,ho,hg,_⟩:=run_append_own (P:=P) w base T T E i z sz bytes ht hi hz h1 h2 h3 h4 v n xs hown ⟨b,off,none⟩ m c ys hl hr.cells (qC hf) hn hb hbase;exact⟨v',w',hrun,ho,Kept.uz hg⟩
theorem fM {P:Program} {w:World} {ops:Array Oper} {rest:List Oper} {o:Oper} {a:Act} {Q:Exit->Act->World->Prop} (hgd:o.guard=none) (x y:Operand) (T:TypeId)
 (ho:o.op=.call {callee:=.builtin .append,args:=#[x,y],argTypes:=#[T,T]}) {ty:TypeId} (hty:o.type=ty) {v s v':Value} {w':World} (hx:a.eval x=v) (hy:a.eval y=s)
 (hrun:(Builtin.append_ #[T,T] ty #[v,s]).run P w=.ok v' w') (h:wpList P ops Q rest (a.put o.dst v') w'):wpList P ops Q (o::rest) a w:=
 wpList_plain hgd λ_ hK=>by
  subst hty;unfold Oper.wp execOp;simp only [ho,resolve,invoke,builtin,Sem.run_bind,Sem.run_pure,Result.andThen_ok,List.map_toArray,List.map_cons,List.map_nil,hx,hy,hrun];exact hK _ _ h
theorem MF {P:Program} {w:World} {ops:Array Oper} {rest:List Oper} {o:Oper} {a:Act} {Q:Exit->Act->World->Prop} (hgd:o.guard=none) (x y:Operand) (T:TypeId)
 (ho:o.op=.makeSlice T x y) {v s v':Value} {w':World} (hx:a.eval x=v) (hy:a.eval y=s)
 (hrun:(Instr.makeSlice T v s).run P w=.ok v' w') (h:wpList P ops Q rest (a.put o.dst v') w'):wpList P ops Q (o::rest) a w:=
 wpList_plain hgd λ_ hK=>by
  unfold Oper.wp execOp;simp only [ho,Sem.run_bind,Sem.run_pure,Result.andThen_ok,hx,hy,hrun];exact hK _ _ h
theorem ku {c:Bool} {p q:Prop} (hc:c=true) (h:p):if c=true then p else q:=by rw [if_pos hc];exact h
theorem iB {w w1:World} {g o n:Nat} (hS:Ext w w1) (hg:g<w.heap.size) (h:Proofs.YtbfbabbcdochjaaGreatDoor.has w g o n=true):Proofs.YtbfbabbcdochjaaGreatDoor.has w1 g o n=true:=by
 unfold Proofs.YtbfbabbcdochjaaGreatDoor.has at h⊢;rw [hS.block g hg (λf=>f)];exact h
theorem gH {w w1:World} {g o n:Nat} {c:Array Value} (hS:Ext w w1) (hg:g<w.heap.size) (h:gets w g o n=c):gets w1 g o n=c:=by
 unfold gets at h⊢;rw [hS.block g hg (λf=>f)];exact h
theorem gu {w:World} {base:Nat} {E:TypeId} {sz:Nat} {v:Value} {n:Nat} {xs:List Value} (h:w.ownsRow base E sz v n xs) (h0:0<n) (hz:0<sz):∃g c,v=.slice (some ⟨g,0,none⟩) n c/\Row w g 0 xs/\base<=g/\(∃cur,w.heap[g]?=some (.cells cur E (0,0))):=by
 have hl:=h.1
 rcases h.2 with⟨hv,e0⟩|⟨g,c,cur,hv,hb,hc,hnc,hcm,hcs,htk⟩
 ·subst e0
  have:=Nat.mul_pos h0 hz;simp at hl
  omega
 ·refine⟨g,c,hv,⟨?_,?_,(Array.getElem?_eq_some_iff.1 hc).1⟩,hb,cur,hc⟩
  ·unfold has;rw [hc,hl];simp only [Nat.zero_add,decide_eq_true_eq];rw [hcs];exact Nat.mul_le_mul_right _ hnc
  ·unfold gets;rw [hc,hl];simp only [List.drop_zero];rw [htk]
def aL (n:Int):Prop:=-9223372036854775808<=n/\n<=9223372036854775807
theorem jC {P:Program} {fn:Func} {R:Ending->World->Prop} {a:Act} {w:World} (hres:fn.results=#[]) (hd:a.defers=[]) (hR:R (.returned (.tuple #[])) w):bodyPost P fn R .ret a w:=
 bodyPost_ret (results_none hres _ _ _) hd hR
open Go.Deep Go.ChangeShapes Go.WideShapes
theorem GI (b off j:Nat):(⟨b,off,none⟩:Addr).add j=⟨b,off+j,none⟩:=by unfold Addr.add;split<;>simp_all
theorem FN {w:World} {a:Addr} {v:Value} (h:w.cell? a=some v):a.spot=none:=by
 unfold World.cell? at h
 split at h
 ·split at h
  ·cases h
  ·rename_i hn;cases hs:a.spot with
   |none=>rfl
   |some x=>simp [hs]at hn
 ·cases h
theorem I4 {w:World} {b o:Nat} (vs:List Value) (hne:0<vs.length) (h:∀j,j<vs.length->w.cell? ⟨b,o+j,none⟩=vs[j]?):Row w b o vs:=by
 have h0:=h 0 hne
 cases hq:w.heap[b]? with
 |none=>simp [World.cell?,hq,List.getElem?_eq_getElem hne]at h0
 |some ob=>
  cases ob with
  |cells c t fr=>
   have hc:∀j,j<vs.length->c[o+j]?=vs[j]?:=λj hj=>by have:=h j hj;simpa [World.cell?,hq]using this
   have hlast:=hc (vs.length - 1) aj
   have hlt:o+(vs.length - 1)<c.size:=by
    rw [List.getElem?_eq_getElem aj]at hlast;exact(Array.getElem?_eq_some_iff.1 hlast).1
   refine⟨by unfold Proofs.YtbfbabbcdochjaaGreatDoor.has;rw [hq];simp;omega,?_,(Array.getElem?_eq_some_iff.1 hq).1⟩;unfold gets;rw [hq];show((c.toList.drop o).take vs.length).toArray=vs.toArray
   congr 1
   apply List.ext_getElem?;intro j;rw [List.getElem?_take]
   split
   ·rename_i hj
    rw [List.getElem?_drop,<-hc j hj];simp
   ·rename_i hj
    rw [List.getElem?_eq_none aj]
  |_=>simp [World.cell?,hq,List.getElem?_eq_getElem hne]at h0
theorem Ap {sz:Nat} (hsz:0<sz):∀(css:List (List Value)) (_:∀cs∈css,cs.length=sz) (k:Nat),css.flatten[k]?=(css.getD (k / sz) [])[k%sz]?
 |[],_,k=>by simp
 |c::r,h,k=>by
  have hc:=h c aG;have ih:=Ap hsz r (λcs hcs=>h cs (by simp [hcs]));rw [List.flatten_cons]
  by_cases hk:k<sz
  ·rw [List.getElem?_append_left aj,Nat.div_eq_of_lt hk,Nat.mod_eq_of_lt hk]
   simp
  ·rw [List.getElem?_append_right aj,hc,ih (k - sz)]
   have e1:k / sz=(k - sz) / sz+1:=by rw [Nat.div_eq k sz,if_pos ⟨hsz,by omega⟩]
   have e2:k%sz=(k - sz)%sz:=by rw [Nat.mod_eq k sz,if_pos ⟨hsz,by omega⟩]
   rw [e1,e2];simp
theorem um {sz:Nat}:∀(css:List (List Value)) (_:∀cs∈css,cs.length=sz),css.flatten.length=css.length*sz
 |[],_=>by simp
 |c::r,h=>by
  have hc:=h c aG;have ih:=um r (λcs hcs=>h cs (by simp [hcs]));rw [List.flatten_cons,List.length_append,ih,hc,List.length_cons,Nat.succ_mul]
  omega
def aR {α:Type} (f:α->Array Value) (l:List α):List Value:=l.flatMap λd=>(f d).toList
section
variable {α:Type} {f:α->Array Value} {k:Nat}
theorem iV (hf:∀d,(f d).size=k) (l:List α):(aR f l).length=l.length*k:=by
 induction l with
 |nil=>simp [aR]
 |cons d l ih=>
  show((f d).toList++aR f l).length=_;rw [List.length_append,ih,Array.length_toList,hf,List.length_cons,Nat.succ_mul]
  omega
theorem L8 (hf:∀d,(f d).size=k):∀(l:List α) (j:Nat) (hj:j<l.length),((aR f l).drop (j*k)).take k=(f l[j]).toList
 |d::l,0,_=>by
  show(((f d).toList++aR f l).drop (0*k)).take k=_;rw [Nat.zero_mul,List.drop_zero,List.take_append,List.take_of_length_le (by rw [Array.length_toList,hf];exact Nat.le_refl _),Array.length_toList,hf];simp
 |d::l,j+1,hj=>by
  have ih:=L8 hf l j (by simpa using hj);show(((f d).toList++aR f l).drop ((j+1)*k)).take k=_;have hl:(f d).toList.length=k:=by rw [Array.length_toList,hf]
  rw [Nat.succ_mul,Nat.add_comm,<-hl,List.drop_append,List.drop_of_length_le (l:=(f d).toList) aj];simp only [Nat.add_sub_cancel_left,List.nil_append];rw [hl];exact ih
theorem vC (hf:∀d,(f d).size=k) {w:World} {b off:Nat} {l:List α} (h:Row w b off (aR f l)) (j:Nat) (hj:j<l.length):Proofs.YtbfbabbcdochjaaGreatDoor.has w b (off+j*k) k=true/\gets w b (off+j*k) k=f l[j]:=by
 have:=h.sub (j*k) k (by rw [iV hf];calc
  j*k+k=(j+1)*k:=by rw [Nat.succ_mul]
  _<=l.length*k:=Nat.mul_le_mul_right _ hj)
 rw [L8 hf l j hj]at this;exact this
theorem Gm:∀(a b:List Value),iQ (a++b)=(iQ a&&iQ b)
 |[],b=>by simp [iQ]
 |x::a,b=>by simp [iQ,Gm a b,Bool.and_assoc]
theorem Er (hf:∀d,iQ (f d).toList=true) (l:List α):iQ (aR f l)=true:=by
 induction l with
 |nil=>rfl
 |cons d l ih=>show iQ ((f d).toList++aR f l)=true;rw [Gm,hf,ih];rfl
theorem zU (l q:List α):aR f l++aR f q=aR f (l++q):=by simp [aR]
end
inductive zh {α β:Type} (V:World->α->β->Prop) (w:World):List α->List β->Prop where
 |nil:zh V w [] []
 |cons {a:α} {b:β} {xs:List α} {ys:List β}:V w a b->zh V w xs ys->zh V w (a::xs) (b::ys)
section
variable {α β:Type} {V:World->α->β->Prop} {w w':World}
theorem zh.mono (h:∀a b,V w a b->V w' a b):∀{xs:List α} {ys:List β},zh V w xs ys->zh V w' xs ys
 |_,_,.nil=>.nil
 |_,_,.cons x r=>.cons (h _ _ x) (r.mono h)
theorem zh.len:∀{xs:List α} {ys:List β},zh V w xs ys->xs.length=ys.length
 |_,_,.nil=>rfl
 |_,_,.cons _ r=>by simp [r.len]
theorem zh.snoc {a:α} {b:β} (h:V w a b):∀{xs:List α} {ys:List β},zh V w xs ys->zh V w (xs++[a]) (ys++[b])
 |_,_,.nil=>.cons h .nil
 |_,_,.cons x r=>.cons x (r.snoc h)
theorem zh.get:∀{xs:List α} {ys:List β} (_:zh V w xs ys) (j:Nat) (h1:j<xs.length) (h2:j<ys.length),V w xs[j] ys[j]
 |_,_,.cons x _,0,_,_=>x
 |_,_,.cons _ r,j+1,h1,h2=>r.get j (by simpa using h1) (by simpa using h2)
end
section
variable {H:Type} {enc:TypeId×Value->H} {P:Program} {w:World} {base:Nat} {spare:Nat->Bool} {held:Bool}
end
end Go.Proofs.YtbfbabbcdochjaaGreatDoor
namespace Go.Proofs.YtbfbabbcdochjaaGreatDoor.So
abbrev Str:=ByteArray
inductive EF|nil|cons (op n:Int) (name:Str) (kids rest:EF)
inductive SF|nil|cons (kind:Int) (name:Str) (e:EF) (low high:Int) (l els rest:SF)
structure Vr where (name:Str) (size low high:Int)
structure Pr where (name:Str) (seats:Int) (bY:List Int) (vars:List Vr) (start turn:SF) (params:List Vr) (play:SF) (silent:Str) (quiet pays:SF)
structure oW where (e:Int) (name:Str)
def EF.len:EF->Nat| .nil=>0| .cons _ _ _ _ r=>r.len+1
def SF.len:SF->Nat| .nil=>0| .cons _ _ _ _ _ _ _ r=>r.len+1
abbrev jW (x:Int):Int:=Go.RowKit.wrap64 x
theorem fF (x:Int):jW x=(x+9223372036854775808)%18446744073709551616 - 9223372036854775808:=by unfold jW Go.RowKit.wrap64;rfl
def EF.deep:EF->Int| .nil=>0| .cons _ _ _ k r=>max (jW (1+k.deep)) r.deep
def EF.size:EF->Nat| .nil=>0| .cons _ _ _ k r=>1+k.size+r.size
def SF.size:SF->Nat| .nil=>0| .cons _ _ e _ _ l x r=>1+e.size+l.size+x.size+r.size
def word (n:Int):Bool:=decide (-2147483648<=n)&&decide (n<=2147483647)
def jq (n a b:Int):Bool:=decide (a<=n)&&decide (n<=b)
def exprParts (op:Int):Nat:=if op<2 then 0 else if op<5 then 1 else 2
def stmtParts (k:Int):Nat:=if k=1∨k=8 then 2 else if k=3∨k=4∨k=5∨k=7 then 0 else 1
abbrev Kn:=Str->Nat
def upd (κ:Kn) (s:Str) (v:Nat):Kn:=λt=>if t=s then v else κ t
def aU (κ:Kn) (l:List Str):Kn:=λt=>if l.any (λs=>decide (s=t))then 3 else κ t
def ay (a:Option oW) (b:Option oW):Option oW:=match a with|some f=>some f|none=>b
@[simp] theorem aX (b:Option oW):ay none b=b:=rfl
@[simp] theorem aY (f:oW) (b:Option oW):ay (some f) b=some f:=rfl
@[simp] theorem aeD (a:Option oW):ay a none=a:=by cases a<;>rfl
theorem av {a b:Option oW}:ay a b=none↔a=none/\b=none:=by cases a<;>simp
theorem dY (a b c:Option oW):ay (ay a b) c=ay a (ay b c):=by cases a<;>rfl
def must (ok:Bool) (e:Int) (s:Str):Option oW:=if ok then none else some ⟨e,s⟩
@[simp] theorem bL (e:Int) (s:Str):must true e s=none:=rfl
@[simp] theorem aO (e:Int) (s:Str):must false e s=some ⟨e,s⟩:=rfl
theorem aP {ok:Bool} {e:Int} {s:Str}:must ok e s=none↔ok=true:=by cases ok<;>simp
def E0:Str:=⟨#[]⟩
def gY (κ:Kn) (op n:Int) (name:Str) (k:Nat):Option oW:=
 ay (must (jq op 0 17&&k==exprParts op) 3 E0)<|
 if op=0 then must (word n) 2 E0
 else if op=1∨op=2 then ay (must (κ name !=0) 6 name) (must ((κ name==2)==(op==2)) 11 name)
 else none
def gq (κ:Kn):EF->Option oW
 | .nil=>none
 | .cons op n name k r=>ay (ay (gY κ op n name k.len) (gq κ k)) (gq κ r)
def lu (κ:Kn):EF->Option oW
 | .nil=>none
 | .cons op n name k r=>ay (ay (must (decide (jW (1+k.deep)<=12)) 25 E0) (ay (gY κ op n name k.len) (gq κ k))) (lu κ r)
def stands (kind:Int) (part:Nat) (last:Bool):Bool:=
 if kind=4∨kind=5 then part==2 else if kind=6∨kind=7 then part==1 else if kind=8 then part==4 else if kind=9 then part==4&&last else true
def letter (c:UInt8):Bool:=(decide (97<=c)&&decide (c<=122))||(decide (65<=c)&&decide (c<=90))
def digit (c:UInt8):Bool:=decide (48<=c)&&decide (c<=57)
def inner (c:UInt8):Bool:=letter c||digit c||c==95
def words:List Str:=[⟨#[103,97,109,101]⟩,⟨#[115,101,97,116,115]⟩,⟨#[115,116,97,107,101]⟩,⟨#[118,97,114]⟩,⟨#[115,116,97,114,116]⟩,⟨#[116,117,114,110]⟩,⟨#[112,108,97,121]⟩,⟨#[115,105,108,101,110,116]⟩,⟨#[112,97,121]⟩,⟨#[101,110,100]⟩,⟨#[105,102]⟩,⟨#[116,104,101,110]⟩,⟨#[101,108,115,101]⟩,⟨#[102,111,114]⟩,⟨#[100,111]⟩,⟨#[114,101,102,117,115,101]⟩,⟨#[114,111,108,108]⟩,⟨#[115,101,97,116]⟩,⟨#[111,118,101,114]⟩,⟨#[114,101,115,116]⟩,⟨#[97,110,100]⟩,⟨#[111,114]⟩,⟨#[110,111,116]⟩]
def isName (s:Str):Bool:=decide (0<s.size)&&letter (s.data.getD 0 0)&&s.data.toList.all inner&&decide (s.size<=30)&&!(words.any (λt=>decide (t=s)))
def target (κ:Kn) (kind:Int) (name:Str) (low:Int):Option oW:=
 ay (must (κ name !=0) 6 name)<|ay (must (κ name==(if kind=1 then 2 else 1)) 11 name)<|
 if kind=5 then must (jq low 2 1000) 2 name else none
def loop (κ:Kn) (name:Str) (low high:Int) (aQ:Nat):Option oW:=
 ay (must (isName name) 6 name)<|ay (must (κ name==0) 7 name)<|ay (must (word low&&word high&&decide (high - low<=63)) 2 name) (must (decide (aQ<8)) 25 name)
def named (κ:Kn) (kind:Int) (name:Str) (low high:Int) (aQ:Nat):Option oW:=
 if kind=0∨kind=1∨kind=5 then target κ kind name low else if kind=3 then loop κ name low high aQ else none
def sStart:Str:=⟨#[115,116,97,114,116]⟩
def lU:Str:=⟨#[116,117,114,110]⟩
def gQ:Str:=⟨#[112,108,97,121]⟩
def JF:Str:=⟨#[115,105,108,101,110,116]⟩
def oU:Str:=⟨#[112,97,121]⟩
def wW:Str:=⟨#[115,101,97,116,115]⟩
def iH:Str:=⟨#[115,116,97,107,101]⟩
def tC:Str:=⟨#[118,97,114]⟩
def sIf:Str:=⟨#[105,102]⟩
def bZ:Nat->Str|0=>sStart|1=>lU|2=>gQ|3=>JF|_=>oU
def SF.isNil:SF->Bool| .nil=>true|_=>false
def bV (part:Nat):Kn->Nat->Bool->SF->Option oW
 |_,_,_,.nil=>none
 |κ,aQ,top,.cons kind name e low high l els r=>
  ay (ay (must (jq kind 0 9&&e.len==stmtParts kind) 3 E0)<|
   ay (must (stands kind part (top&&r.isNil)) 10 (bZ part))<|
   ay (named κ kind name low high aQ)<|
   ay (lu κ e)<|
   if kind=2 then ay (bV part κ aQ false l) (bV part κ aQ false els)
   else if kind=3 then bV part (upd κ name 3) (aQ+1) false l
   else none) (bV part κ aQ top r)
def nu (part:Nat) (κ:Kn) (aQ:Nat) (last:Bool) (kind:Int) (name:Str) (e:EF) (low high:Int) (l els:SF):Option oW:=
 ay (must (jq kind 0 9&&e.len==stmtParts kind) 3 E0)<|
  ay (must (stands kind part last) 10 (bZ part))<|
  ay (named κ kind name low high aQ)<|
  ay (lu κ e)<|
  if kind=2 then ay (bV part κ aQ false l) (bV part κ aQ false els)
  else if kind=3 then bV part (upd κ name 3) (aQ+1) false l
  else none
theorem jT (part:Nat) (κ:Kn) (aQ:Nat) (top:Bool) (kind:Int) (name:Str) (e:EF) (low high:Int) (l els r:SF):
 bV part κ aQ top (.cons kind name e low high l els r)=ay (nu part κ aQ (top&&r.isNil) kind name e low high l els) (bV part κ aQ top r):=by
 rw [bV];rfl
def ends:SF->Bool
 | .nil=>false
 | .cons kind _ _ _ _ l els r=>(kind==6||kind==7||(kind==2&&ends l&&ends els))||ends r
def kC:SF->Bool
 | .nil=>false
 | .cons kind _ _ _ _ _ _ .nil=>kind==9
 | .cons _ _ _ _ _ _ _ r=>kC r
def dD (v:Vr):Int:=if 1<=v.size/\v.size<=64 then v.size else 1
def cells:List Vr->Int|[]=>0|v::r=>dD v+cells r
def span (v:Vr):Bool:=word v.low&&word v.high&&decide (v.low<=v.high)
def fB (l:List Vr):Kn:=λt=>match l.find? (λv=>decide (v.name=t))with|none=>0|some v=>if 0<v.size then 2 else 1
def fJ:List Vr->List Vr->Option oW
 |_,[]=>none
 |pre,v::r=>ay (must (isName v.name) 6 v.name)<|ay (must (fB pre v.name==0) 7 v.name)<|ay (must (jq v.size 0 64&&span v) 2 v.name) (fJ (pre++[v]) r)
def d_ (κ:Kn):List Vr->List Vr->Option oW
 |_,[]=>none
 |pre,v::r=>ay (must (isName v.name) 6 v.name)<|ay (must (κ v.name==0&&!(pre.any (λu=>decide (u.name=v.name)))) 7 v.name)<|ay (must (v.size==0) 3 v.name)<|ay (must (span v) 2 v.name) (d_ κ (pre++[v]) r)
def yE:Int->List Vr->Int|n,[]=>n|n,v::r=>yE (min (n*(min (v.high - v.low) 512+1)) 513) r
def menu (l:List Vr):Int:=if l.any (λv=>decide (v.high<v.low))then 0 else yE 1 l
def nI (p:Pr):Option oW:=
 ay (must (isName p.name) 6 p.name)<|ay (must (jq p.seats 2 8) 2 wW)<|ay (must ((p.bY.length:Int)==p.seats) 3 iH) (must (p.bY.all (λn=>jq n 1 2147483647)) 2 iH)
def eT (p:Pr):Nat:=p.vars.length+p.params.length+p.start.size+p.turn.size+p.play.size+p.quiet.size+p.pays.size
def partOf (p:Pr):Nat->SF|0=>p.start|1=>p.turn|2=>p.play|3=>p.quiet|_=>p.pays
def jI (p:Pr):Nat->Kn|2=>aU (fB p.vars) (p.params.map Vr.name)|3=>aU (fB p.vars) [p.silent]|_=>fB p.vars
def mg (p:Pr) (i:Nat):Option oW:=bV i (jI p i) 0 true (partOf p i)
def lq (p:Pr):Option oW:=
 ay (nI p)<|ay (fJ [] p.vars)<|ay (must (decide (cells p.vars<=64)) 8 tC)<|
 ay (must (decide (p.params.length<=4)) 8 gQ)<|ay (d_ (fB p.vars) [] p.params)<|ay (must (decide (menu p.params<=512)) 8 gQ)<|
 ay (must (isName p.silent) 6 p.silent) (must (fB p.vars p.silent==0) 7 p.silent)
def check (p:Pr):Option oW:=
 ay (lq p)<|ay (must (decide (jW (eT p)<=1000)) 5 p.name)<|
 ay (mg p 0)<|ay (mg p 1)<|ay (mg p 2)<|ay (mg p 3)<|ay (mg p 4)<|
 ay (must (ends p.turn) 4 lU) (must (kC p.pays) 4 oU)
structure H9 where (kind:Int) (name:Str) (e:EF) (low high:Int) (l els:SF)
def H9.on (s:H9) (r:SF):SF:=.cons s.kind s.name s.e s.low s.high s.l s.els r
def part (p:Pr) (at_:Nat) (s:H9):Pr:=match at_ with
 |0=>{p with start:=s.on p.start}|1=>{p with turn:=s.on p.turn}|2=>{p with play:=s.on p.play}|3=>{p with quiet:=s.on p.quiet}|_=>{p with pays:=s.on p.pays}
def H9.size (s:H9):Nat:=1+s.e.size+s.l.size+s.els.size
def Ah (p:Pr) (i:Nat) (s:H9):Option oW:=nu i (jI p i) 0 (partOf p i).isNil s.kind s.name s.e s.low s.high s.l s.els
theorem Ei (p:Pr) (i:Nat) (s:H9):eT (part p i s)=eT p+s.size:=by
 unfold part
 split<;>simp only [eT,H9.on,SF.size,H9.size]<;>omega
theorem Dx (p:Pr) (i:Nat) (s:H9):lq (part p i s)=lq p:=by unfold part;split<;>rfl
theorem zQ (p:Pr) (i j:Nat) (s:H9):jI (part p i s) j=jI p j:=by unfold part;split<;>(unfold jI;split<;>rfl)
theorem LW (p:Pr) (i:Nat) (hi:i<5) (s:H9):partOf (part p i s) i=s.on (partOf p i):=by
 exact Sy
theorem yH (p:Pr) (i j:Nat) (hi:i<5) (hj:j<5) (h:¬i=j) (s:H9):partOf (part p i s) j=partOf p j:=by
 rcases(by omega:i=0∨i=1∨i=2∨i=3∨i=4)with rfl|rfl|rfl|rfl|rfl<;>rcases(by omega:j=0∨j=1∨j=2∨j=3∨j=4)with rfl|rfl|rfl|rfl|rfl<;>first|rfl|omega
theorem Gb (p:Pr) (i:Nat) (hi:i<5) (s:H9):mg (part p i s) i=ay (Ah p i s) (mg p i):=by
 unfold mg;rw [LW p i hi,zQ,H9.on,jT]
 rfl
theorem wK (p:Pr) (i j:Nat) (hi:i<5) (hj:j<5) (h:¬i=j) (s:H9):mg (part p i s) j=mg p j:=by
 unfold mg;rw [yH p i j hi hj h,zQ]
theorem wJ {p:Pr}:check p=none↔lq p=none/\jW (eT p)<=1000/\mg p 0=none/\mg p 1=none/\mg p 2=none/\mg p 3=none/\mg p 4=none/\ends p.turn=true/\kC p.pays=true:=by
 unfold check;simp only [av,aP,decide_eq_true_eq]
theorem Eh {p:Pr} (h:check p=none):∀i,i<5->mg p i=none:=λi hi=>by
 obtain⟨_,_,h0,h1,h2,h3,h4,_,_⟩:=wJ.1 h
 rcases(by omega:i=0∨i=1∨i=2∨i=3∨i=4)with rfl|rfl|rfl|rfl|rfl<;>assumption
theorem abB {n k:Nat} (h:jW n<=990) (hk:k<=10):jW ((n+k:Nat):Int)<=1000:=by simp only [fF]at*;omega
def bad (k:Int) (i:Nat):Bool:=(decide (k<6)&&i !=2)||((k==6||k==7)&&i !=1)||(k==8&&i !=4)
def IQ:H9:=⟨2,E0,.cons 99 0 E0 .nil .nil,0,0,.nil,.nil⟩
def yx:H9:=⟨3,sIf,.nil,0,0,.nil,.nil⟩
theorem WZ (p:Pr) (i:Nat):Ah p i IQ=some ⟨3,E0⟩:=by
 unfold Ah nu;simp [IQ,jq,EF.len,stmtParts,stands,named,lu,gY,exprParts,EF.deep,fF]
theorem Ti (p:Pr) (i:Nat):Ah p i yx=some ⟨6,sIf⟩:=by
 unfold Ah nu;have:isName sIf=false:=by decide
 simp [yx,jq,EF.len,stmtParts,stands,named,loop,this]
theorem Ot (p:Pr) (i j:Nat) (hi:i<5) (hj:j<5) (h:¬i=j) (s t:H9):Ah (part p i s) j t=Ah p j t:=by
 unfold Ah;rw [yH p i j hi hj h,zQ]
theorem first {p:Pr} (h:check p=none) (hs:jW (eT p)<=990) (x y:Nat) (hx:x<5) (hy:y<5) (hxy:¬x=y):
 check (part (part p x IQ) y yx)=some (if y<x then⟨6,sIf⟩else⟨3,E0⟩):=by
 obtain⟨ha,_,h0,h1,h2,h3,h4,he,hl⟩:=wJ.1 h
 have hz:jW ((eT (part (part p x IQ) y yx):Nat):Int)<=1000:=by
  rw [Ei,Ei,Nat.add_assoc];exact abB hs ak
 have hX:∀j,j<5->¬j=x->¬j=y->mg (part (part p x IQ) y yx) j=none:=λj hj a b=>by
  rw [wK _ y j hy hj (λe=>b e.symm),wK _ x j hx hj (λe=>a e.symm)];exact Eh h j hj
 have hPx:mg (part (part p x IQ) y yx) x=some ⟨3,E0⟩:=by
  rw [wK _ y x hy hx (λe=>hxy e.symm),Gb _ _ hx,WZ];rfl
 have hPy:mg (part (part p x IQ) y yx) y=some ⟨6,sIf⟩:=by
  rw [Gb _ _ hy,Ot p x y hx hy hxy,Ti];rfl
 unfold check;rw [Dx,Dx,ha,show decide (jW ((eT (part (part p x IQ) y yx):Nat):Int)<=1000)=true by simpa using hz];generalize part (part p x IQ) y yx=q at*;simp only [bL,aX]
 have go:∀j,j<5->mg q j=if j=x then some ⟨3,E0⟩else if j=y then some ⟨6,sIf⟩else none:=λj hj=>by
  split
  ·rename_i e;rw [e];exact hPx
  ·split
   ·rename_i e;rw [e];exact hPy
   ·exact hX j hj ‹_› ‹_›
 rw [go 0 aj,go 1 aj,go 2 aj,go 3 aj,go 4 aj]
 rcases(by omega:x=0∨x=1∨x=2∨x=3∨x=4)with rfl|rfl|rfl|rfl|rfl<;>rcases(by omega:y=0∨y=1∨y=2∨y=3∨y=4)with rfl|rfl|rfl|rfl|rfl<;>first|omega|simp
end Go.Proofs.YtbfbabbcdochjaaGreatDoor.So
namespace Go.Proofs.YtbfbabbcdochjaaGreatDoor
open Go.RowKit So
abbrev aI (op n:Int) (name:ByteArray) (A:Option Addr) (len cap:Nat):Array Value:=#[.int .i64 op,.int .i64 n,.string name,.slice A len cap]
abbrev aB (kind:Int) (name:ByteArray) (eA:Option Addr) (en ec:Nat) (low high:Int) (lA:Option Addr) (ln lc:Nat) (xA:Option Addr) (xn xc:Nat):Array Value:=#[.int .i64 kind,.string name,.slice eA en ec,.int .i64 low,.int .i64 high,.slice lA ln lc,.slice xA xn xc]
def Fits (n b:Nat):Prop:=n*b<=140737488355328
theorem Fits.max {n b:Nat} (h:Fits n b) (hb:8<=b):n<=17592186044416:=by
 unfold Fits at h;have:n*8<=n*b:=Nat.mul_le_mul_left _ hb
 omega
def mK (w:World) (N:Nat):EF->Nat->Nat->Prop
 | .nil,_,_=>True
 | .cons op n name k r,b,off=>b<N/\aL op/\aL n/\name.size<=maxLen/\(∃A cap b' off',Proofs.YtbfbabbcdochjaaGreatDoor.has w b off 4=true/\gets w b off 4=aI op n name A k.len cap/\Fits k.len 56/\(0<k.len->A=some ⟨b',off',none⟩)/\mK w N k b' off')/\mK w N r b (off+4)
def g_ (w:World) (N:Nat) (A:Option Addr) (n:Nat) (F:EF):Prop:=n=F.len/\Fits n 56/\∃b off,(0<n->A=some ⟨b,off,none⟩)/\mK w N F b off
def nk (w:World) (N:Nat):SF->Nat->Nat->Prop
 | .nil,_,_=>True
 | .cons kind name e low high l x r,b,off=>b<N/\aL kind/\aL low/\aL high/\name.size<=maxLen/\
  (∃eA ec lA lc xA xc be oe bl ol bx ox,Proofs.YtbfbabbcdochjaaGreatDoor.has w b off 7=true/\gets w b off 7=aB kind name eA e.len ec low high lA l.len lc xA x.len xc/\Fits e.len 56/\Fits l.len 112/\Fits x.len 112/\
   (0<e.len->eA=some ⟨be,oe,none⟩)/\(0<l.len->lA=some ⟨bl,ol,none⟩)/\(0<x.len->xA=some ⟨bx,ox,none⟩)/\mK w N e be oe/\nk w N l bl ol/\nk w N x bx ox)/\nk w N r b (off+7)
def iO (w:World) (N:Nat) (A:Option Addr) (n:Nat) (F:SF):Prop:=n=F.len/\Fits n 112/\∃b off,(0<n->A=some ⟨b,off,none⟩)/\nk w N F b off
theorem jS {S:Nat->Prop} {w w':World} (hk:Kept S w w') {g o n:Nat} (hg:g<w.heap.size) (hs:¬S g):Proofs.YtbfbabbcdochjaaGreatDoor.has w' g o n=Proofs.YtbfbabbcdochjaaGreatDoor.has w g o n:=by
 unfold Proofs.YtbfbabbcdochjaaGreatDoor.has;rw [hk.block g hg hs]
theorem iR {S:Nat->Prop} {w w':World} (hk:Kept S w w') {g o n:Nat} (hg:g<w.heap.size) (hs:¬S g):gets w' g o n=gets w g o n:=by
 unfold gets;rw [hk.block g hg hs]
section
variable {S:Nat->Prop} {w w':World} {N:Nat}
theorem mK.kept (hk:Kept S w w') (hN:N<=w.heap.size) (hs:∀i,S i->N<=i):∀{F:EF} {b off:Nat},mK w N F b off->mK w' N F b off
 | .nil,_,_,_=>trivial
 | .cons _ _ _ _ _,b,off,h=>by
  obtain⟨hb,h1,h2,h3,⟨A,cap,b',off',hh,hg,hl,hA,hk'⟩,hr⟩:=h;have hnb:¬S b:=λq=>by have:=hs b q;omega
  exact⟨hb,h1,h2,h3,⟨A,cap,b',off',by rw [jS hk aj hnb];exact hh,by rw [iR hk aj hnb];exact hg,hl,hA,hk'.kept hk hN hs⟩,hr.kept hk hN hs⟩
theorem nk.kept (hk:Kept S w w') (hN:N<=w.heap.size) (hs:∀i,S i->N<=i):∀{F:SF} {b off:Nat},nk w N F b off->nk w' N F b off
 | .nil,_,_,_=>trivial
 | .cons _ _ _ _ _ _ _ _,b,off,h=>by
  obtain⟨hb,h1,h2,h3,h4,⟨eA,ec,lA,lc,xA,xc,be,oe,bl,ol,bx,ox,hh,hg,n1,n2,n3,a1,a2,a3,he,hl,hx⟩,hr⟩:=h;have hnb:¬S b:=λq=>by have:=hs b q;omega
  exact⟨hb,h1,h2,h3,h4,⟨eA,ec,lA,lc,xA,xc,be,oe,bl,ol,bx,ox,by rw [jS hk aj hnb];exact hh,by rw [iR hk aj hnb];exact hg,n1,n2,n3,a1,a2,a3,he.kept hk hN hs,hl.kept hk hN hs,hx.kept hk hN hs⟩,hr.kept hk hN hs⟩
theorem mK.mono {N':Nat} (hN:N<=N'):∀{F:EF} {b off:Nat},mK w N F b off->mK w N' F b off
 | .nil,_,_,_=>trivial
 | .cons _ _ _ _ _,b,off,h=>by
  obtain⟨hb,h1,h2,h3,⟨A,cap,b',off',hh,hg,hl,hA,hk'⟩,hr⟩:=h;exact⟨by omega,h1,h2,h3,⟨A,cap,b',off',hh,hg,hl,hA,hk'.mono hN⟩,hr.mono hN⟩
theorem nk.mono {N':Nat} (hN:N<=N'):∀{F:SF} {b off:Nat},nk w N F b off->nk w N' F b off
 | .nil,_,_,_=>trivial
 | .cons _ _ _ _ _ _ _ _,b,off,h=>by
  obtain⟨hb,h1,h2,h3,h4,⟨eA,ec,lA,lc,xA,xc,be,oe,bl,ol,bx,ox,hh,hg,n1,n2,n3,a1,a2,a3,he,hl,hx⟩,hr⟩:=h;exact⟨by omega,h1,h2,h3,h4,⟨eA,ec,lA,lc,xA,xc,be,oe,bl,ol,bx,ox,hh,hg,n1,n2,n3,a1,a2,a3,he.mono hN,hl.mono hN,hx.mono hN⟩,hr.mono hN⟩
theorem g_.kept {A:Option Addr} {n:Nat} {F:EF} (h:g_ w N A n F) (hk:Kept S w w') (hN:N<=w.heap.size) (hs:∀i,S i->N<=i):g_ w' N A n F:=by
 obtain⟨h1,h2,b,off,h3,h4⟩:=h;exact⟨h1,h2,b,off,h3,h4.kept hk hN hs⟩
theorem iO.kept {A:Option Addr} {n:Nat} {F:SF} (h:iO w N A n F) (hk:Kept S w w') (hN:N<=w.heap.size) (hs:∀i,S i->N<=i):iO w' N A n F:=by
 obtain⟨h1,h2,b,off,h3,h4⟩:=h;exact⟨h1,h2,b,off,h3,h4.kept hk hN hs⟩
theorem g_.ext {A:Option Addr} {n:Nat} {F:EF} (h:g_ w N A n F) (hk:Ext w w') (hN:N<=w.heap.size):g_ w' N A n F:=h.kept hk hN (λ_ f=>f.elim)
theorem iO.ext {A:Option Addr} {n:Nat} {F:SF} (h:iO w N A n F) (hk:Ext w w') (hN:N<=w.heap.size):iO w' N A n F:=h.kept hk hN (λ_ f=>f.elim)
end
def Gw:EF->Nat| .nil=>0| .cons _ _ _ k r=>k.size+Gw r
def Gx:SF->Nat| .nil=>0| .cons _ _ e _ _ l x r=>e.size+l.size+x.size+Gx r
theorem Ez:∀F:EF,F.size=F.len+Gw F
 | .nil=>rfl
 | .cons _ _ _ k r=>by rw [EF.size,EF.len,Gw,Ez r];omega
theorem EA:∀F:SF,F.size=F.len+Gx F
 | .nil=>rfl
 | .cons _ _ e _ _ l x r=>by rw [SF.size,SF.len,Gx,EA r];omega
theorem jm (a b:Int):jW (jW a+b)=jW (a+b):=by simp only [fF];omega
theorem kF (a b:Int):jW (a+jW b)=jW (a+b):=by simp only [fF];omega
abbrev aJ (v:Vr):Array Value:=#[.string v.name,.int .i64 v.size,.int .i64 v.low,.int .i64 v.high]
structure N8 (v:Vr):Prop where
 name:v.name.size<=maxLen
 size:aL v.size
 low:aL v.low
 high:aL v.high
def tL (w:World) (N:Nat) (A:Option Addr) (n:Nat) (l:List Vr):Prop:=n=l.length/\Fits n 40/\(∀v∈l,N8 v)/\∃b off,(0<n->A=some ⟨b,off,none⟩)/\(0<n->b<N/\Row w b off (aR aJ l))
theorem tL.kept {S:Nat->Prop} {w w':World} {N:Nat} {A:Option Addr} {n:Nat} {l:List Vr} (h:tL w N A n l) (hk:Kept S w w') (hs:∀i,S i->N<=i):tL w' N A n l:=by
 obtain⟨h1,h2,h3,b,off,h4,h5⟩:=h;exact⟨h1,h2,h3,b,off,h4,λh0=>⟨(h5 h0).1,(h5 h0).2.kept hk (λq=>by have:=hs b q;have:=(h5 h0).1;omega)⟩⟩
def VR (w:World) (N:Nat) (A:Option Addr) (n:Nat) (l:List Int):Prop:=n=l.length/\Fits n 8/\(∀v∈l,aL v)/\∃b off,(0<n->A=some ⟨b,off,none⟩)/\(0<n->b<N/\Row w b off (l.map (Value.int .i64)))
theorem VR.kept {S:Nat->Prop} {w w':World} {N:Nat} {A:Option Addr} {n:Nat} {l:List Int} (h:VR w N A n l) (hk:Kept S w w') (hs:∀i,S i->N<=i):VR w' N A n l:=by
 obtain⟨h1,h2,h3,b,off,h4,h5⟩:=h;exact⟨h1,h2,h3,b,off,h4,λh0=>⟨(h5 h0).1,(h5 h0).2.kept hk (λq=>by have:=hs b q;have:=(h5 h0).1;omega)⟩⟩
structure jg where (A:Option Addr) (n c:Nat)
abbrev jg.v (s:jg):Value:=.slice s.A s.n s.c
structure Pc where (name:ByteArray) (seats:Int) (bY vars start turn params play:jg) (silent:ByteArray) (quiet pays:jg)
abbrev Pc.cells (c:Pc):Array Value:=#[.string c.name,.int .i64 c.seats,c.bY.v,c.vars.v,c.start.v,c.turn.v,c.params.v,c.play.v,.string c.silent,c.quiet.v,c.pays.v]
structure lT (w:World) (N:Nat) (c:Pc) (p:Pr):Prop where
 name:c.name=p.name
 D7:p.name.size<=maxLen
 seats:c.seats=p.seats
 CP:aL p.seats
 bY:VR w N c.bY.A c.bY.n p.bY
 vars:tL w N c.vars.A c.vars.n p.vars
 start:iO w N c.start.A c.start.n p.start
 turn:iO w N c.turn.A c.turn.n p.turn
 params:tL w N c.params.A c.params.n p.params
 play:iO w N c.play.A c.play.n p.play
 silent:c.silent=p.silent
 uH:p.silent.size<=maxLen
 quiet:iO w N c.quiet.A c.quiet.n p.quiet
 pays:iO w N c.pays.A c.pays.n p.pays
theorem lT.kept {S:Nat->Prop} {w w':World} {N:Nat} {c:Pc} {p:Pr} (h:lT w N c p) (hk:Kept S w w') (hN:N<=w.heap.size) (hs:∀i,S i->N<=i):lT w' N c p:=
 ⟨h.name,h.D7,h.seats,h.CP,h.bY.kept hk hs,h.vars.kept hk hs,h.start.kept hk hN hs,h.turn.kept hk hN hs,h.params.kept hk hs,h.play.kept hk hN hs,h.silent,h.uH,h.quiet.kept hk hN hs,h.pays.kept hk hN hs⟩
end Go.Proofs.YtbfbabbcdochjaaGreatDoor
