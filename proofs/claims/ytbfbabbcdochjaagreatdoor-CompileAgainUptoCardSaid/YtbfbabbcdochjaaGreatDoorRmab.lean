/- Several texts joined: Ordp, Ordq, Sm. -/
import Derived.MapKept
import Derived.Test.YtbfbabbcdochjaaGreatDoorRmpk
import Derived.Test.YtbfbabbcdochjaaGreatDoorRmaa
set_option maxHeartbeats 4000000
set_option maxRecDepth 100000
namespace Go.Proofs.YtbfbabbcdochjaaGreatDoor
open Go.RowKit
section
variable {P:Program} {ops:Array Oper} {Q:Exit->Act->World->Prop} {S:World->Prop} {md:Region.Mode} {ex:Nat->Bool}
theorem Oper.EL {Q':Exit->Act->World->Prop} {o:Oper} {a:Act} {w:World} {K:Act->World->Prop} (h:∀e a w,Q e a w->Q' e a w) (hh:o.wp P a w K Q):o.wp P a w K Q':=by
 unfold Oper.wp at*;generalize (execOp a.eval o).run P w=r at*
 cases r with
 |ok n w'=>
  cases n<;>simp only [Oper.upon]at hh⊢<;>
   first
    |exact hh
    |exact Calls.mono hh (λe w'' he=>by cases e<;>first|exact he|exact h _ _ _ he|exact he.imp λ_=>Exists.imp λ_=>h _ _ _)
 |halt x w'=>cases x<;>simp only [Oper.upon]at hh⊢<;>first|exact h _ _ _ hh|exact hh
theorem sD {Q':Exit->Act->World->Prop} {i:Nat} {a:Act} {w:World} {K:Act->World->Prop} (h:∀e a w,Q e a w->Q' e a w) (hh:wpOp P ops Q i K a w):wpOp P ops Q' i K a w:=by
 unfold wpOp at*
 split
 ·simpa [*]using hh
 ·rename_i o ho
  simp only [ho]at hh
  split
  ·rename_i hw;simp only [hw,if_true]at hh;exact hh.imp (Oper.EL h) (λq=>⟨q.1,q.2.imp λ_=>Exists.imp λ_=>h _ _ _⟩)
  ·rename_i hw;simp only [hw]at hh;exact hh
def QL (Q:Exit->Act->World->Prop) (BL:Nat->Bool) (j:Nat):Exit->Act->World->Prop:=if BL j=true then Q else CG Q
theorem QL.imp {BL:Nat->Bool} {j:Nat}:∀(e:Exit) (a:Act) (w:World),QL Q BL j e a w->Q e a w:=λe a w h=>by
 unfold QL at h
 split at h
 ·exact h
 ·exact CG.imp e a w h
theorem QL.of {BL:Nat->Bool} {j:Nat}:∀(e:Exit) (a:Act) (w:World),CG Q e a w->QL Q BL j e a w:=λe a w h=>by
 unfold QL
 split
 ·exact CG.imp e a w h
 ·exact h
variable {BL:Nat->Bool}
def wpAnyH (P:Program) (md:Region.Mode) (ops:Array Oper) (Q:Exit->Act->World->Prop) (S:World->Prop) (ex BL:Nat->Bool):Nat->Array Bool->Act->World->Prop
 |0,listed,a,w=>Region.ready md ops listed=[]/\Q .normal a w
 |fuel+1,listed,a,w=>
  (Region.ready md ops listed=[]->Q .normal a w)/\
  ∀i∈Region.ready md ops listed,wpOp P ops (QL Q BL i) i (λa' w'=>(ex i=true∨(S w->S w'))/\wpAnyH P md ops Q S ex BL fuel (listed.setIfInBounds i true) a' w') a w
theorem wZ:∀(fuel:Nat) (listed:Array Bool) (a:Act) (w:World),wpAnyH P md ops Q S ex BL fuel listed a w->wpAny P md ops Q fuel listed a w
 |0,_,_,_,h=>h
 |fuel+1,_,_,_,h=>⟨h.1,λi hi=>wpOp_mono (λa' w' h'=>wZ fuel _ a' w' h'.2) (sD QL.imp (h.2 i hi))⟩
theorem acJ {i:Nat} {listed:Array Bool} {oj:Oper} (hr:i∈Region.ready md ops listed) (hall:∀e∈oj.after,Region.binds md e=true->listed.getD e.on false=true):
 ∀e∈oj.after,Region.binds md e=true->e.on≠i:=λe he hb heq=>by
 have h1:=hall e he hb;have h0:=(mem_ready.1 hr).1;rw [heq]at h1;exact Zw
theorem wpAnyH_first {i:Nat} {oi:Oper} {v:Value} (hi:ops[i]?=some oi) (hsel:∀(j:Nat) (o:Oper) cs b,ops[j]?=some o->o.op≠ .select cs b)
 (agU:∀j listed,Down md ops listed->j∈Region.ready md ops listed->j≠i->BL j=true->listed.getD i false=true)
 (hex:∀j listed,Down md ops listed->j∈Region.ready md ops listed->j≠i->ex j=true->listed.getD i false=true):
 ∀(fuel:Nat) (listed:Array Bool) (a:Act) (w:World),Down md ops listed->
  (∀j oj,ops[j]?=some oj->j≠i->listed.getD j true=false->(∀e∈oj.after,Region.binds md e=true->e.on≠i)->oi.apart ops oj=true)->
  i∈Region.ready md ops listed->YieldsIf P ops S oi v a->S w->
  wpAnyH P md ops Q S ex BL fuel (listed.setIfInBounds i true) (a.put oi.dst v) w->wpAnyH P md ops Q S ex BL (fuel+1) listed a w:=by
 intro fuel
 induction fuel with
 |zero=>
  intro listed a w _ _ hr hy hS H;refine⟨λh=>(by rw [h]at hr;cases hr),λj hj=>?_⟩
  by_cases hji:j=i
  ·subst hji;exact hy.wpOp hi hS ⟨.inr id,H⟩
  ·have:=ready_mono hj hji
   rw [H.1]at this
   cases this
 |succ fuel ih=>
  intro listed a w hdn hfree hr hy hS H;refine⟨λh=>(by rw [h]at hr;cases hr),λj hj=>?_⟩
  by_cases hji:j=i
  ·subst hji;exact hy.wpOp hi hS ⟨.inr id,H⟩
  ·have h1:=H.2 j (ready_mono hj hji)
   obtain⟨hjun,oj,hoj,hall⟩:=mem_ready.1 hj;have hnot:=acJ hr hall
   have ale:ex j=true->False:=λh=>by
    have h1:=hex j listed hdn hj hji h;have h0:=(mem_ready.1 hr).1;exact Zw
   refine aiE ?_;intro hnl hQ h2 hfree';refine wpOp_mono (λa' w' h3=>?_) h2;have hS':S w':=h3.2.1.elim (λh=>(ale h).elim) (λh=>h hS);refine⟨.inr λ_=>hS',ih (listed.setIfInBounds j true) a' w' (hdn.set hj) hfree' (ready_mono hr (Ne.symm hji)) h3.1 hS' ?_⟩;rw [Array.setIfInBounds_comm _ _ hji];exact h3.2.2
theorem AZ {i:Nat} {oi:Oper} {v:Value} (hi:ops[i]?=some oi) (hsel:∀(j:Nat) (o:Oper) cs b,ops[j]?=some o->o.op≠ .select cs b)
 (agU:∀j listed,Down md ops listed->j∈Region.ready md ops listed->j≠i->BL j=true->listed.getD i false=true):
 ∀(fuel:Nat) (listed:Array Bool) (a:Act) (w:World),Down md ops listed->
  (∀j oj,ops[j]?=some oj->j≠i->listed.getD j true=false->(∀e∈oj.after,Region.binds md e=true->e.on≠i)->oi.apart ops oj=true)->
  i∈Region.ready md ops listed->YieldsIf P ops (λ_=>True) oi v a->
  wpAnyH P md ops Q S ex BL fuel (listed.setIfInBounds i true) (a.put oi.dst v) w->wpAnyH P md ops Q S ex BL (fuel+1) listed a w:=by
 intro fuel
 induction fuel with
 |zero=>
  intro listed a w _ _ hr hy H;refine⟨λh=>(by rw [h]at hr;cases hr),λj hj=>?_⟩
  by_cases hji:j=i
  ·subst hji;exact hy.wpOp hi trivial ⟨.inr id,H⟩
  ·have:=ready_mono hj hji
   rw [H.1]at this
   cases this
 |succ fuel ih=>
  intro listed a w hdn hfree hr hy H;refine⟨λh=>(by rw [h]at hr;cases hr),λj hj=>?_⟩
  by_cases hji:j=i
  ·subst hji;exact hy.wpOp hi trivial ⟨.inr id,H⟩
  ·have h1:=H.2 j (ready_mono hj hji)
   obtain⟨hjun,oj,hoj,hall⟩:=mem_ready.1 hj;have hnot:=acJ hr hall;refine aiE ?_;intro hnl hQ h2 hfree';refine wpOp_mono (λa' w' h3=>?_) h2;refine⟨h3.2.1,ih (listed.setIfInBounds j true) a' w' (hdn.set hj) hfree' (ready_mono hr (Ne.symm hji)) h3.1 ?_⟩;rw [Array.setIfInBounds_comm _ _ hji];exact h3.2.2
theorem wpAnyH_all {rs:List Nat} {fuel:Nat} {listed:Array Bool} {a:Act} {w:World} (hr:Region.ready md ops listed=rs) (hne:rs≠[])
 (h:∀i∈rs,wpOp P ops (QL Q BL i) i (λa' w'=>(ex i=true∨(S w->S w'))/\wpAnyH P md ops Q S ex BL fuel (listed.setIfInBounds i true) a' w') a w):wpAnyH P md ops Q S ex BL (fuel+1) listed a w:=
 ⟨λh0=>absurd (hr▸h0) hne,hr▸h⟩
theorem wpAnyH_done {listed:Array Bool} {a:Act} {w:World} (hr:Region.ready md ops listed=[]) (h:Q .normal a w):
 ∀fuel,wpAnyH P md ops Q S ex BL fuel listed a w
 |0=>⟨hr,h⟩
 |_+1=>⟨λ_=>h,by rw [hr];simp⟩
def exP (md:Region.Mode) (ops:Array Oper) (od:List (Nat×Nat)) (j:Nat):Bool:=
 od.all λp=>!(p.2==1)||p.1==j||(ug md ops ops.size (zK md ops j)).testBit p.1
theorem Xf {od:List (Nat×Nat)} {i j:Nat} {listed:Array Bool} (hf:(i,1)∈od) (hd:Down md ops listed) (hj:j∈Region.ready md ops listed) (hne:j≠i) (h:exP md ops od j=true):
 listed.getD i false=true:=by
 have h1:=List.all_eq_true.1 h _ hf;simp only [beq_self_eq_true,Bool.not_true,Bool.false_or,Bool.or_eq_true,beq_iff_eq]at h1;exact ade
def T9 (md:Region.Mode) (ops:Array Oper) (od:List (Nat×Nat)) (j:Nat):Bool:=
 od.all λp=>p.1==j||(ug md ops ops.size (zK md ops j)).testBit p.1
theorem Gz {od:List (Nat×Nat)} {i k j:Nat} {listed:Array Bool} (hf:(i,k)∈od) (hd:Down md ops listed) (hj:j∈Region.ready md ops listed) (hne:j≠i) (h:T9 md ops od j=true):
 listed.getD i false=true:=by
 exact ajv
def IV (md:Region.Mode) (ops:Array Oper):List (Nat×Nat)->Array Bool->Bool
 |[],listed=>(Region.ready md ops listed).isEmpty
 |(i,0)::r,listed=>(Region.ready md ops listed==[i])&&IV md ops r (listed.setIfInBounds i true)
 |(i,_+1)::r,listed=>Region.free md ops listed i&&(Region.ready md ops listed).contains i&&IV md ops r (listed.setIfInBounds i true)
def fO (P:Program) (ops:Array Oper) (Q:Exit->Act->World->Prop) (S:World->Prop) (od:List (Nat×Nat)):List (Nat×Nat)->List Oper->Act->World->Prop
 |[],[],a,w=>Q .normal a w
 |(k,0)::r,o::l,a,w=>
  if Region.wanted o (yielded ops a.tmps)then o.wp P a w (λa' w'=>(exP .any ops od k=true∨(S w->S w'))/\fO P ops Q S od r l a' w') (QL Q (T9 .any ops od) k)∨(o.asks P a w/\LetsOut (QL Q (T9 .any ops od) k))
  else fO P ops Q S od r l (a.put o.dst undef) w
 |(_,1)::r,o::l,a,w=>S w/\∃v,YieldsIf P ops S o v a/\fO P ops Q S od r l (a.put o.dst v) w
 |(_,_+2)::r,o::l,a,w=>∃v,YieldsIf P ops (λ_=>True) o v a/\fO P ops Q S od r l (a.put o.dst v) w
 |_,_,_,_=>False
theorem pF {od:List (Nat×Nat)} (hs:Region.noSelect ops=true):∀(r:List (Nat×Nat)) (l:List Oper) (fuel:Nat) (listed:Array Bool) (a:Act) (w:World),l.length<=fuel->l.map some=r.map (λp=>ops[p.1]?)->(∀p∈r,p∈od)->Down .any ops listed->
 IV .any ops r listed=true->fO P ops Q S od r l a w->wpAnyH P .any ops Q S (exP .any ops od) (T9 .any ops od) fuel listed a w
 |[],[],fuel,listed,a,w,_,_,_,_,hB,h=>wpAnyH_done (by simpa [IV]using hB) h fuel
 |_::_,[],fuel,listed,a,w,_,_,_,_,_,h=>by simp [fO]at h
 |[],_::_,fuel,listed,a,w,_,_,_,_,_,h=>by simp [fO]at h
 |_::_,_::_,0,listed,a,w,hf,_,_,_,_,_=>by simp at hf
 |(i,1)::r,o::l,fuel+1,listed,a,w,hf,hl,hr,hdn,hB,h=>by
  obtain⟨hS,v,hy,h⟩:=h;simp only [IV,Bool.and_eq_true]at hB;simp only [List.map_cons,List.cons.injEq]at hl
  exact wpAnyH_first hl.1.symm (Region.noSelect_spec hs) (λj l hd hj hne hx=>Gz (hr _ (List.mem_cons_self ..)) hd hj hne hx) (λj l hd hj hne hx=>Xf (hr _ aG) hd hj hne hx) fuel listed a w hdn (Region.free_spec hl.1.symm hB.1.1) (by simpa using hB.1.2) hy hS
   (pF hs r l fuel _ _ w (by simpa using hf) hl.2 (λp hp=>hr p (by simp [hp])) (hdn.set (by simpa using hB.1.2)) hB.2 h)
 |(i,n+2)::r,o::l,fuel+1,listed,a,w,hf,hl,hr,hdn,hB,h=>by
  obtain⟨v,hy,h⟩:=h;simp only [IV,Bool.and_eq_true]at hB;simp only [List.map_cons,List.cons.injEq]at hl
  exact AZ hl.1.symm (Region.noSelect_spec hs) (λj l hd hj hne hx=>Gz (hr _ (List.mem_cons_self ..)) hd hj hne hx) fuel listed a w hdn (Region.free_spec hl.1.symm hB.1.1) (by simpa using hB.1.2) hy
   (pF hs r l fuel _ _ w (by simpa using hf) hl.2 (λp hp=>hr p (by simp [hp])) (hdn.set (by simpa using hB.1.2)) hB.2 h)
 |(i,0)::r,o::l,fuel+1,listed,a,w,hf,hl,hr,hdn,hB,h=>by
  simp only [IV,Bool.and_eq_true,beq_iff_eq]at hB;simp only [List.map_cons,List.cons.injEq]at hl;refine wpAnyH_all hB.1 aG λj hj=>?_;obtain rfl:j=i:=by simpa using hj
  have h1:wpOp P ops (QL Q (T9 .any ops od) j) j (λa' w'=>(exP .any ops od j=true∨(S w->S w'))/\fO P ops Q S od r l a' w') a w:=by
   unfold wpOp;rw [<-hl.1];unfold fO at h
   by_cases hw:Region.wanted o (yielded ops a.tmps)=true
   ·rw [if_pos hw]at h
    simp only [if_pos hw];exact h
   ·rw [if_neg hw]at h
    simp only [if_neg hw];exact⟨.inr id,h⟩
  exact wpOp_mono (λa' w' h'=>⟨h'.1,pF hs r l fuel _ a' w' (by simpa using hf) hl.2 (λp hp=>hr p (by simp [hp])) (hdn.set (by rw [hB.1];simp)) hB.2 h'.2⟩) h1
def inP (n:Nat) (od:List (Nat×Nat)):Bool:=od.all λp=>decide (p.1<n)
theorem MH {id:Nat} {a:Act} {w:World} {l:List Oper} (S:World->Prop) (od:List (Nat×Nat)) (hm:P.follows .mixedOrders=true) (hs:Region.noSelect l.toArray=true)
 (hB:IV .any l.toArray od (Array.replicate l.toArray.size false)=true) (hin:(inP l.length od&&decide (od.length<=l.length))=true)
 (h:∀l',l'=od.map (λp=>l.getD p.1 nop)->fO P l.toArray Q S od od l' a w.drew):(Code.region id l.toArray true).wp P Q a w:=by
 simp only [Bool.and_eq_true,decide_eq_true_eq]at hin;refine(wp_region_any hm (wZ _ _ _ _ (pF hs od _ _ _ a _ ?_ ?_ (λ_ h=>h) (Down.init _) hB (h _ rfl))))
 ·simpa using hin.2
 ·rw [List.map_map]
  refine List.map_congr_left λp hp=>?_;have hlt:p.1<l.length:=of_decide_eq_true (List.all_eq_true.1 hin.1 p hp);simp [List.getD,List.getElem?_eq_getElem hlt]
theorem gM {id:Nat} {a:Act} {w:World} {l:List Oper} (S:World->Prop) (od:List (Nat×Nat)) (h:∀l',l'=od.map (λp=>l.getD p.1 nop)->fO P l.toArray Q S od od l' a w.drew) (hm:P.follows .mixedOrders=true:=by kernel_rfl) (hs:Region.noSelect l.toArray=true:=by kernel_rfl) (hB:IV .any l.toArray od (Array.replicate l.toArray.size false)=true:=by kernel_rfl) (hin:(inP l.length od&&decide (od.length<=l.length))=true:=by kernel_rfl):(Code.region id l.toArray true).wp P Q a w:=MH S od hm hs hB hin h
variable {od:List (Nat×Nat)} {k:Nat}
theorem aeR {a:Act} {w:World} (h:Q .normal a w):fO P ops Q S od [] [] a w:=h
theorem aby {l:List Oper} {r:List (Nat×Nat)} {a:Act} {w:World} {o:Oper} {v:Value} (hS:S w) (hw:Region.wanted o (yielded ops a.tmps)=true)
 (hy:∀w',S w'->(execOp a.eval o).run P w'=.ok (.value v) w') (h:∀K:Act->World->Prop,(∀a w,fO P ops Q S od r l a w->K a w)->K (a.put o.dst v) w):fO P ops Q S od ((k,1)::r) (o::l) a w:=
 ⟨hS,v,.inl ⟨hw,hy⟩,h _ (λ_ _ h=>h)⟩
theorem abv {l:List Oper} {r:List (Nat×Nat)} {a:Act} {w:World} {o:Oper} (hS:S w) (hw:Region.wanted o (yielded ops a.tmps)=false)
 (h:∀K:Act->World->Prop,(∀a w,fO P ops Q S od r l a w->K a w)->K (a.put o.dst undef) w):fO P ops Q S od ((k,1)::r) (o::l) a w:=
 ⟨hS,undef,.inr ⟨hw,rfl⟩,h _ (λ_ _ h=>h)⟩
theorem dL {P:Program} {ops:Array Oper} {Q:Exit->Act->World->Prop} {S:World->Prop} {od r:List (Nat×Nat)} {k:Nat} {l:List Oper} {a:Act} {w:World} {o:Oper} {v:Value} {G:Prop} (hS:S w) (hy:∀w',S w'->(execOp a.eval o).run P w'= .ok (.value v) w') (g:G) (hw:Region.wanted o (yielded ops a.tmps)=true:=by(go_simp;first|done|fail)) (h:G->∀K:Act->World->Prop,(∀a w,fO P ops Q S od r l a w->K a w)->K (a.put o.dst v) w:=by(intro qq;have QQ:=Go.Lib.hid qq;clear qq;intro K hK;go_simp;refine hK _ _ ?_;clear hK K;exact QQ.out)):fO P ops Q S od ((k,1)::r) (o::l) a w:=aby hS hw hy (h g)
theorem dK {P:Program} {ops:Array Oper} {Q:Exit->Act->World->Prop} {S:World->Prop} {od r:List (Nat×Nat)} {k:Nat} {l:List Oper} {a:Act} {w:World} {o:Oper} {G:Prop} (hS:S w) (g:G) (hw:Region.wanted o (yielded ops a.tmps)=false:=by(go_simp;first|done|fail)) (h:G->∀K:Act->World->Prop,(∀a w,fO P ops Q S od r l a w->K a w)->K (a.put o.dst undef) w:=by(intro qq;have QQ:=Go.Lib.hid qq;clear qq;intro K hK;go_simp;refine hK _ _ ?_;clear hK K;exact QQ.out)):fO P ops Q S od ((k,1)::r) (o::l) a w:=abv hS hw (h g)
theorem abw {l:List Oper} {r:List (Nat×Nat)} {a:Act} {w:World} {o:Oper} {v:Value} (hw:Region.wanted o (yielded ops a.tmps)=true)
 (hy:∀w',(execOp a.eval o).run P w'=.ok (.value v) w') (h:∀K:Act->World->Prop,(∀a w,fO P ops Q S od r l a w->K a w)->K (a.put o.dst v) w):fO P ops Q S od ((k,2)::r) (o::l) a w:=
 ⟨v,.inl ⟨hw,λw _=>hy w⟩,h _ (λ_ _ h=>h)⟩
theorem abx {l:List Oper} {r:List (Nat×Nat)} {a:Act} {w:World} {o:Oper} (hw:Region.wanted o (yielded ops a.tmps)=false)
 (h:∀K:Act->World->Prop,(∀a w,fO P ops Q S od r l a w->K a w)->K (a.put o.dst undef) w):fO P ops Q S od ((k,2)::r) (o::l) a w:=
 ⟨undef,.inr ⟨hw,rfl⟩,h _ (λ_ _ h=>h)⟩
theorem aC {l:List Oper} {r:List (Nat×Nat)} {a:Act} {w:World} {o:Oper}
 (h:∀K:Act->World->Prop,Shut (∀a' w',(S w->S w')->fO P ops Q S od r l a' w'->K a' w')->if Region.wanted o (yielded ops a.tmps)=true then Oper.wp P o a w K (CG Q)else K (a.put o.dst undef) w):
 fO P ops Q S od ((k,0)::r) (o::l) a w:=by
 unfold fO
 split
 ·rename_i hw
  have h:=h (λa' w'=>(exP .any ops od k=true∨(S w->S w'))/\fO P ops Q S od r l a' w') (λa' w' hS h=>⟨.inr hS,h⟩);rw [if_pos hw]at h;exact .inl (Oper.EL QL.of h)
 ·rename_i hw
  have h:=h (λa' w'=>fO P ops Q S od r l a' w') (λa' w' _ h=>h);rw [if_neg hw]at h;exact h
theorem QJ {l:List Oper} {r:List (Nat×Nat)} {a:Act} {w:World} {o:Oper} (hx:exP .any ops od k=true)
 (h:∀K:Act->World->Prop,Shut (∀a' w',fO P ops Q S od r l a' w'->K a' w')->if Region.wanted o (yielded ops a.tmps)=true then Oper.wp P o a w K (CG Q)else K (a.put o.dst undef) w):
 fO P ops Q S od ((k,0)::r) (o::l) a w:=by
 unfold fO
 split
 ·rename_i hw
  have h:=h (λa' w'=>(exP .any ops od k=true∨(S w->S w'))/\fO P ops Q S od r l a' w') (λa' w' h=>⟨.inl hx,h⟩);rw [if_pos hw]at h;exact .inl (Oper.EL QL.of h)
 ·rename_i hw
  have h:=h (λa' w'=>fO P ops Q S od r l a' w') (λa' w' h=>h);rw [if_neg hw]at h;exact h
theorem eu {l:List Oper} {r:List (Nat×Nat)} {a:Act} {w:World} {o:Oper} (hx:T9 .any ops od k=true) (hx2:exP .any ops od k=true)
 (h:∀K:Act->World->Prop,Shut (∀a' w',fO P ops Q S od r l a' w'->K a' w')->if Region.wanted o (yielded ops a.tmps)=true then Oper.wp P o a w K Q else K (a.put o.dst undef) w):
 fO P ops Q S od ((k,0)::r) (o::l) a w:=by
 unfold fO
 split
 ·rename_i hw
  have h:=h (λa' w'=>(exP .any ops od k=true∨(S w->S w'))/\fO P ops Q S od r l a' w') (λa' w' h=>⟨.inl hx2,h⟩);rw [if_pos hw]at h;unfold QL;rw [if_pos hx];exact .inl h
 ·rename_i hw
  have h:=h (λa' w'=>fO P ops Q S od r l a' w') (λa' w' h=>h);rw [if_neg hw]at h;exact h
end
open Go.RowKit
inductive vN where
 |nil
 |op (i k:Nat) (r:vN)
 |fork (i:Nat) (p:vN) (j:Nat) (q:vN)
inductive Pl where
 |nil
 |op (i k:Nat) (o:Oper) (r:Pl)
 |fork (i:Nat) (o:Oper) (p:Pl) (j:Nat) (o':Oper) (q:Pl)
def vN.fill (l:List Oper):vN->Pl
 | .nil=>.nil
 | .op i k r=>.op i k (l.getD i nop) (r.fill l)
 | .fork i p j q=>.fork i (l.getD i nop) (p.fill l) j (l.getD j nop) (q.fill l)
def vN.st:vN->List Nat
 | .nil=>[]
 | .op i k r=>if k=1 then i::r.st else r.st
 | .fork _ p _ q=>p.st++q.st
def vN.len:vN->Nat
 | .nil=>0
 | .op _ _ r=>r.len+1
 | .fork _ p _ q=>max p.len q.len+1
section
variable {P:Program} {ops:Array Oper} {Q:Exit->Act->World->Prop} {S:World->Prop}
def Xg (md:Region.Mode) (ops:Array Oper) (st:List Nat) (j:Nat):Bool:=
 st.all λi=>i==j||(ug md ops ops.size (zK md ops j)).testBit i
theorem Xh {md:Region.Mode} {st:List Nat} {i j:Nat} {listed:Array Bool} (hf:i∈st) (hd:Down md ops listed) (hj:j∈Region.ready md ops listed) (hne:j≠i) (h:Xg md ops st j=true):
 listed.getD i false=true:=by
 exact ajv
def vN.ok (md:Region.Mode) (ops:Array Oper):vN->Array Bool->Bool
 | .nil,listed=>(Region.ready md ops listed).isEmpty
 | .op i 0 r,listed=>(Region.ready md ops listed==[i])&&decide (i<ops.size)&&r.ok md ops (listed.setIfInBounds i true)
 | .op i (_+1) r,listed=>Region.free md ops listed i&&(Region.ready md ops listed).contains i&&decide (i<ops.size)&&r.ok md ops (listed.setIfInBounds i true)
 | .fork i p j q,listed=>(Region.ready md ops listed==[i,j])&&decide (i<ops.size)&&decide (j<ops.size)&&p.ok md ops (listed.setIfInBounds i true)&&q.ok md ops (listed.setIfInBounds j true)
def jA (P:Program) (ops:Array Oper) (Q:Exit->Act->World->Prop) (S:World->Prop) (st:List Nat):Pl->Act->World->Prop
 | .nil,a,w=>Q .normal a w
 | .op k 0 o r,a,w=>
  if Region.wanted o (yielded ops a.tmps)then o.wp P a w (λa' w'=>(Xg .any ops st k=true∨(S w->S w'))/\jA P ops Q S st r a' w') (CG Q)∨(o.asks P a w/\LetsOut (CG Q))
  else jA P ops Q S st r (a.put o.dst undef) w
 | .op _ 1 o r,a,w=>S w/\∃v,YieldsIf P ops S o v a/\jA P ops Q S st r (a.put o.dst v) w
 | .op _ (_+2) o r,a,w=>∃v,YieldsIf P ops (λ_=>True) o v a/\jA P ops Q S st r (a.put o.dst v) w
 | .fork k o r k' o' r',a,w=>
  (if Region.wanted o (yielded ops a.tmps)then o.wp P a w (λa' w'=>(Xg .any ops st k=true∨(S w->S w'))/\jA P ops Q S st r a' w') (CG Q)∨(o.asks P a w/\LetsOut (CG Q))
  else jA P ops Q S st r (a.put o.dst undef) w)/\
  (if Region.wanted o' (yielded ops a.tmps)then o'.wp P a w (λa' w'=>(Xg .any ops st k'=true∨(S w->S w'))/\jA P ops Q S st r' a' w') (CG Q)∨(o'.asks P a w/\LetsOut (CG Q))
  else jA P ops Q S st r' (a.put o'.dst undef) w)
theorem getD_some {l:List Oper} {i:Nat} (h:i<l.toArray.size):l.toArray[i]?=some (l.getD i nop):=by
 have h':i<l.length:=by simpa using h
 simp [List.getD,List.getElem?_eq_getElem h']
theorem Pm {BL:Nat->Bool} {j:Nat}:∀(e:Exit) (a:Act) (w:World),CG Q e a w->QL (CG Q) BL j e a w:=λe a w h=>by
 unfold QL
 split
 ·exact h
 ·cases e<;>exact h
theorem jX {l:List Oper} {st:List Nat} (hs:Region.noSelect l.toArray=true):∀(p:vN) (fuel:Nat) (listed:Array Bool) (a:Act) (w:World),p.len<=fuel->(∀i∈p.st,i∈st)->Down .any l.toArray listed->
 p.ok .any l.toArray listed=true->jA P l.toArray Q S st (p.fill l) a w->wpAnyH P .any l.toArray (CG Q) S (Xg .any l.toArray st) (λ_=>false) fuel listed a w
 | .nil,fuel,listed,a,w,_,_,_,hB,h=>wpAnyH_done (Q:=CG Q) (by simpa [vN.ok]using hB) h fuel
 | .op _ _ _,0,listed,a,w,hf,_,_,_,_=>by simp [vN.len]at hf
 | .fork _ _ _ _,0,listed,a,w,hf,_,_,_,_=>by simp [vN.len]at hf
 | .op i 1 r,fuel+1,listed,a,w,hf,hr,hdn,hB,h=>by
  obtain⟨hS,v,hy,h⟩:=h;simp only [vN.ok,Bool.and_eq_true,decide_eq_true_eq]at hB;simp only [vN.st,if_true]at hr;have ho:=getD_some hB.1.2
  exact wpAnyH_first ho (Region.noSelect_spec hs) (λ_ _ _ _ _ hx=>by cases hx) (λj l hd hj hne hx=>Xh (hr _ aG) hd hj hne hx) fuel listed a w hdn (Region.free_spec ho hB.1.1.1) (by simpa using hB.1.1.2) hy hS
   (jX hs r fuel _ _ w (by simpa [vN.len]using hf) (λp hp=>hr p (by simp [hp])) (hdn.set (by simpa using hB.1.1.2)) hB.2 h)
 | .op i (n+2) r,fuel+1,listed,a,w,hf,hr,hdn,hB,h=>by
  obtain⟨v,hy,h⟩:=h;simp only [vN.ok,Bool.and_eq_true,decide_eq_true_eq]at hB;have ho:=getD_some hB.1.2
  exact AZ ho (Region.noSelect_spec hs) (λ_ _ _ _ _ hx=>by cases hx) fuel listed a w hdn (Region.free_spec ho hB.1.1.1) (by simpa using hB.1.1.2) hy
   (jX hs r fuel _ _ w (by simpa [vN.len]using hf) (λp hp=>hr p (by simp [vN.st,hp])) (hdn.set (by simpa using hB.1.1.2)) hB.2 h)
 | .op i 0 r,fuel+1,listed,a,w,hf,hr,hdn,hB,h=>by
  simp only [vN.ok,Bool.and_eq_true,beq_iff_eq,decide_eq_true_eq]at hB;have ho:=getD_some hB.1.2;refine wpAnyH_all hB.1.1 aG λj hj=>?_;obtain rfl:j=i:=by simpa using hj
  have h1:wpOp P l.toArray (CG Q) j (λa' w'=>(Xg .any l.toArray st j=true∨(S w->S w'))/\jA P l.toArray Q S st (r.fill l) a' w') a w:=by
   unfold wpOp;rw [ho];unfold vN.fill jA at h
   by_cases hw:Region.wanted (l.getD j nop) (yielded l.toArray a.tmps)=true
   ·rw [if_pos hw]at h;simp only [if_pos hw];exact h
   ·rw [if_neg hw]at h;simp only [if_neg hw];exact⟨.inr id,h⟩
  exact wpOp_mono (λa' w' h'=>⟨h'.1,jX hs r fuel _ a' w' (by simpa [vN.len]using hf) (λp hp=>hr p (by simp [vN.st,hp])) (hdn.set (by rw [hB.1.1];simp)) hB.2 h'.2⟩) (sD Pm h1)
 | .fork i p j q,fuel+1,listed,a,w,hf,hr,hdn,hB,h=>by
  simp only [vN.ok,Bool.and_eq_true,beq_iff_eq,decide_eq_true_eq]at hB;obtain⟨⟨⟨⟨hrd,hi⟩,hj⟩,hp⟩,hq⟩:=hB;have hoi:=getD_some hi;have hoj:=getD_some hj;have hlen:max p.len q.len<=fuel:=by simpa [vN.len]using hf
  unfold vN.fill jA at h;refine wpAnyH_all hrd aG λk hk=>?_
  rcases(by simpa using hk:k=i∨k=j)with rfl|rfl
  ·have h1:wpOp P l.toArray (CG Q) k (λa' w'=>(Xg .any l.toArray st k=true∨(S w->S w'))/\jA P l.toArray Q S st (p.fill l) a' w') a w:=by
    unfold wpOp;rw [hoi];have h:=h.1;exact ajL
   exact wpOp_mono (λa' w' h'=>⟨h'.1,jX hs p fuel _ a' w' aj (λx hx=>hr x (by simp [vN.st,hx])) (hdn.set (by rw [hrd];simp)) hp h'.2⟩) (sD Pm h1)
  ·have h1:wpOp P l.toArray (CG Q) k (λa' w'=>(Xg .any l.toArray st k=true∨(S w->S w'))/\jA P l.toArray Q S st (q.fill l) a' w') a w:=by
    unfold wpOp;rw [hoj];have h:=h.2;exact ajL
   exact wpOp_mono (λa' w' h'=>⟨h'.1,jX hs q fuel _ a' w' aj (λx hx=>hr x (by simp [vN.st,hx])) (hdn.set (by rw [hrd];simp)) hq h'.2⟩) (sD Pm h1)
theorem MI {id:Nat} {a:Act} {w:World} {l:List Oper} (S:World->Prop) (p:vN) (hm:P.follows .mixedOrders=true) (hs:Region.noSelect l.toArray=true)
 (hB:p.ok .any l.toArray (Array.replicate l.toArray.size false)=true) (hin:decide (p.len<=l.length)=true)
 (h:∀p',p'=p.fill l->jA P l.toArray Q S p.st p' a w.drew):(Code.region id l.toArray true).wp P Q a w:=
 Code.wp_mono CG.imp (wp_region_any hm (wZ _ _ _ _ (jX hs p _ _ a _ (by simpa using hin) (λ_ h=>h) (Down.init _) hB (h _ rfl))))
theorem Uz {id:Nat} {a:Act} {w:World} {l:List Oper} (S:World->Prop) (p:vN) (h:∀p',p'=p.fill l->jA P l.toArray Q S p.st p' a w.drew) (hm:P.follows .mixedOrders=true:=by kernel_rfl) (hs:Region.noSelect l.toArray=true:=by kernel_rfl) (hB:p.ok .any l.toArray (Array.replicate l.toArray.size false)=true:=by kernel_rfl) (hin:decide (p.len<=l.length)=true:=by kernel_rfl):(Code.region id l.toArray true).wp P Q a w:=MI S p hm hs hB hin h
variable {st:List Nat} {k:Nat} {r:Pl} {a:Act} {w:World} {o:Oper}
theorem aeT (h:Q .normal a w):jA P ops Q S st .nil a w:=h
theorem ig {v:Value} (hS:S w) (hw:Region.wanted o (yielded ops a.tmps)=true)
 (hy:∀w',S w'->(execOp a.eval o).run P w'=.ok (.value v) w') (h:∀K:Act->World->Prop,(∀a w,jA P ops Q S st r a w->K a w)->K (a.put o.dst v) w):jA P ops Q S st (.op k 1 o r) a w:=
 ⟨hS,v,.inl ⟨hw,hy⟩,h _ (λ_ _ h=>h)⟩
theorem h_ (hS:S w) (hw:Region.wanted o (yielded ops a.tmps)=false)
 (h:∀K:Act->World->Prop,(∀a w,jA P ops Q S st r a w->K a w)->K (a.put o.dst undef) w):jA P ops Q S st (.op k 1 o r) a w:=
 ⟨hS,undef,.inr ⟨hw,rfl⟩,h _ (λ_ _ h=>h)⟩
theorem abz {v:Value} (hw:Region.wanted o (yielded ops a.tmps)=true)
 (hy:∀w',(execOp a.eval o).run P w'=.ok (.value v) w') (h:∀K:Act->World->Prop,(∀a w,jA P ops Q S st r a w->K a w)->K (a.put o.dst v) w):jA P ops Q S st (.op k 2 o r) a w:=
 ⟨v,.inl ⟨hw,λw _=>hy w⟩,h _ (λ_ _ h=>h)⟩
theorem abA (hw:Region.wanted o (yielded ops a.tmps)=false)
 (h:∀K:Act->World->Prop,(∀a w,jA P ops Q S st r a w->K a w)->K (a.put o.dst undef) w):jA P ops Q S st (.op k 2 o r) a w:=
 ⟨undef,.inr ⟨hw,rfl⟩,h _ (λ_ _ h=>h)⟩
theorem dz (h:∀K:Act->World->Prop,Shut (∀a' w',(S w->S w')->jA P ops Q S st r a' w'->K a' w')->if Region.wanted o (yielded ops a.tmps)=true then Oper.wp P o a w K (CG Q)else K (a.put o.dst undef) w):
 jA P ops Q S st (.op k 0 o r) a w:=by
 unfold jA
 split
 ·rename_i hw
  have h:=h (λa' w'=>(Xg .any ops st k=true∨(S w->S w'))/\jA P ops Q S st r a' w') (λa' w' hS h=>⟨.inr hS,h⟩);rw [if_pos hw]at h;exact .inl h
 ·rename_i hw
  have h:=h (λa' w'=>jA P ops Q S st r a' w') (λa' w' _ h=>h);rw [if_neg hw]at h;exact h
theorem aeS (hx:Xg .any ops st k=true)
 (h:∀K:Act->World->Prop,Shut (∀a' w',jA P ops Q S st r a' w'->K a' w')->if Region.wanted o (yielded ops a.tmps)=true then Oper.wp P o a w K (CG Q)else K (a.put o.dst undef) w):
 jA P ops Q S st (.op k 0 o r) a w:=by
 unfold jA
 split
 ·rename_i hw
  have h:=h (λa' w'=>(Xg .any ops st k=true∨(S w->S w'))/\jA P ops Q S st r a' w') (λa' w' h=>⟨.inl hx,h⟩);rw [if_pos hw]at h;exact .inl h
 ·rename_i hw
  have h:=h (λa' w'=>jA P ops Q S st r a' w') (λa' w' h=>h);rw [if_neg hw]at h;exact h
theorem iE {k':Nat} {o':Oper} {r':Pl} (h:jA P ops Q S st (.op k 0 o r) a w) (h':jA P ops Q S st (.op k' 0 o' r') a w):jA P ops Q S st (.fork k o r k' o' r') a w:=⟨h,h'⟩
end
open Go.RowKit
def SMap (w:World) (g:Nat) (f:ByteArray->Option Value):Prop:=
 ∃es clock,w.heap[g]?=some (.map es clock)/\(∀x∈es.toList,MapKept.IsKey .string x.key)/\(es.toList.map (·.key)).Nodup/\∀s v,f s=some v↔∃x∈es.toList,x.key=.string s/\x.val=v
section
variable {P:Program} {w w':World} {g:Nat} {f:ByteArray->Option Value} {mt kt et:TypeId}
theorem SMap.lt (h:SMap w g f):g<w.heap.size:=by
 obtain⟨_,_,hb,_⟩:=h;exact(Array.getElem?_eq_some_iff.1 hb).1
theorem SMap.kept {S:Nat->Prop} (h:SMap w g f) (hk:Kept S w w') (hs:¬S g):SMap w' g f:=by
 have hl:=h.lt;obtain⟨es,clock,hb,r⟩:=h;exact⟨es,clock,(hk.block g hl hs).trans hb,r⟩
theorem SMap.ext (h:SMap w g f) (hk:Ext w w'):SMap w' g f:=h.kept hk (λf=>f)
theorem SMap.qx {f':ByteArray->Option Value} (h:SMap w g f) (e:∀s,f s=f' s):SMap w g f':=by
 obtain⟨es,clock,hb,hk,hn,hm⟩:=h;exact⟨es,clock,hb,hk,hn,λs v=>by rw [<-e];exact hm s v⟩
theorem SMap.made (w:World):SMap (w.alloc (.map #[] 0)) w.heap.size (λ_=>none):=
 ⟨#[],0,(MapKept.heap_alloc w _).1,by simp,by simp,by simp⟩
theorem nL (s:ByteArray):MapKept.IsKey .string (.string s):=by simp [MapKept.IsKey]
theorem SMap.find (h:SMap w g f) (s:ByteArray):∃es clock,w.heap[g]?=some (.map es clock)/\(∀x∈es.toList,MapKept.IsKey .string x.key)/\(es.toList.map (·.key)).Nodup/\(∀s v,f s=some v↔∃x∈es.toList,x.key=.string s/\x.val=v)/\
 ((Instr.findNow .string (.string s) es.toList 0=some none/\f s=none/\∀x∈es.toList,x.key≠ .string s)∨∃j e,Instr.findNow .string (.string s) es.toList 0=some (some (j,e.val))/\es.toList[j]?=some e/\e.key=.string s/\f s=some e.val):=by
 obtain⟨es,clock,hb,hk,hn,hm⟩:=h;refine⟨es,clock,hb,hk,hn,hm,?_⟩
 rcases MapKept.findNow_spec (nL s) es.toList 0 hk with⟨h1,h2⟩|⟨j,e,h1,h2,h3⟩
 ·refine .inl ⟨h1,?_,h2⟩
  cases hf:f s with
  |none=>rfl
  |some v=>
   obtain⟨x,hx,he,_⟩:=(hm s v).1 hf;exact absurd he (h2 x hx)
 ·rw [Nat.zero_add]at h1
  exact .inr ⟨j,e,h1,h2,h3,(hm s e.val).2 ⟨e,List.mem_of_getElem? h2,h3,rfl⟩⟩
theorem SMap.look (h:SMap w g f) (hu:P.underlying mt=some (.map kt et)) (hk:P.underlying kt=some .string) {z:Value} (hz:∀w:World,(zeroValue et).run P w=.ok z w) (s:ByteArray):
 (Instr.lookup mt (.map (some g)) (.string s) false).run P w=.ok ((f s).getD z) w:=by
 exact ajq
theorem SMap.look_ok (h:SMap w g f) (hu:P.underlying mt=some (.map kt et)) (hk:P.underlying kt=some .string) {z:Value} (hz:∀w:World,(zeroValue et).run P w=.ok z w) (s:ByteArray):
 (Instr.lookup mt (.map (some g)) (.string s) true).run P w=.ok (.tuple #[(f s).getD z,.bool (f s).isSome]) w:=by
 exact ajq
theorem qJ {o:Obj}:Kept (·=g) w {w with heap:=w.heap.setIfInBounds g o}:=
 ⟨rfl,rfl,rfl,by simp,λj _ hn=>by
  show(w.heap.setIfInBounds g o)[j]?=_;rw [Array.getElem?_setIfInBounds_ne (λe=>hn e.symm)]⟩
theorem SMap.put (h:SMap w g f) (hu:P.underlying mt=some (.map kt et)) (hk:P.underlying kt=some .string) (s:ByteArray) (v:Value):
 ∃w',(Instr.mapUpdate mt (.map (some g)) (.string s) v).run P w=.ok () w'/\SMap w' g (λt=>if t=s then some v else f t)/\Kept (·=g) w w':=by
 obtain⟨es,clock,hb,hks,hn,hm,⟨h1,hf,hnew⟩|⟨j,e,h1,h2,h3,h4⟩⟩:=h.find s
 ·refine⟨{w with heap:=w.heap.setIfInBounds g (.map (es.push ⟨.string s,v,clock⟩) (clock+1))},?_,⟨_,_,(MapKept.heap_set hb).1,?_,?_,?_⟩,qJ⟩
  ·simp [Instr.mapUpdate,run_underlying hu,MapKept.run_getObj_map hb,MapKept.run_checkKey hk (nL s),MapKept.run_findKey hk h1,MapKept.run_setObj_map _ hb,Result.andThen]
  ·intro x hx
   simp only [Array.toList_push,List.mem_append,List.mem_singleton]at hx
   rcases hx with hx|rfl
   ·exact hks x hx
   ·exact nL s
  ·rw [Array.toList_push,List.map_append]
   refine List.nodup_append.2 ⟨hn,by simp,λa ha b hb' e=>?_⟩;obtain⟨x,hx,rfl⟩:=List.mem_map.1 ha;simp at hb';subst hb';exact hnew x hx e
  ·intro t u
   show(if t=s then some v else f t)=some u↔_;simp only [Array.toList_push,List.mem_append,List.mem_singleton]
   by_cases e:t=s
   ·subst e
    rw [if_pos rfl]
    constructor
    ·intro q
     cases q
     exact⟨_,.inr rfl,rfl,rfl⟩
    ·rintro⟨x,hx|rfl,hxk,hxv⟩
     ·exact absurd hxk (hnew x hx)
     ·rw [<-hxv]
   ·rw [if_neg e,hm]
    constructor
    ·rintro⟨x,hx,hxk,hxv⟩
     exact⟨x,.inl hx,hxk,hxv⟩
    ·rintro⟨x,hx|rfl,hxk,hxv⟩
     ·exact⟨x,hx,hxk,hxv⟩
     ·injection hxk with hxk
      exact absurd hxk.symm e
 ·have hj:es[j]?=some e:=by simpa using h2
  have hkey:∀e',es[j]?=some e'->({e' with key:=.string s,val:=v}:MapEntry).key=e'.key:=λe' he'=>by rw [hj]at he';cases he';exact h3.symm
  have hjl:j<es.size:=(Array.getElem?_eq_some_iff.1 hj).1;refine⟨{w with heap:=w.heap.setIfInBounds g (.map (es.modify j λe=>{e with key:=.string s,val:=v}) clock)},?_,⟨_,_,(MapKept.heap_set hb).1,MapKept.isKey_modify hks _ _ hkey,?_,?_⟩,qJ⟩
  ·simp [Instr.mapUpdate,run_underlying hu,MapKept.run_getObj_map hb,MapKept.run_checkKey hk (nL s),MapKept.run_findKey hk h1,hj,h3,MapKept.run_keyThatStays (nL s),MapKept.run_setObj_map _ hb,Result.andThen]
  ·rw [MapKept.modify_keys _ _ hkey]
   exact hn
  ·have hat:∀i,(es.modify j λe=>{e with key:=.string s,val:=v}).toList[i]?=if i=j then some ⟨.string s,v,e.born⟩else es.toList[i]?:=λi=>by
    rw [Array.getElem?_toList,Array.getElem?_modify]
    by_cases ei:i=j
    ·subst ei;simp [hj]
    ·rw [if_neg (λq=>ei q.symm),if_neg ei,Array.getElem?_toList]
   have XH:∀i x,es.toList[i]?=some x->x.key=.string s->i=j:=λi x hx hxk=>by
    exact afA
   intro t u;show(if t=s then some v else f t)=some u↔_
   by_cases NA:t=s
   ·subst NA
    rw [if_pos rfl]
    constructor
    ·intro q
     cases q
     exact⟨⟨.string t,v,e.born⟩,List.mem_of_getElem? (i:=j) (by rw [hat,if_pos rfl]),rfl,rfl⟩
    ·rintro⟨x,hx,hxk,hxv⟩
     obtain⟨i,hi⟩:=List.getElem?_of_mem hx;rw [hat]at hi
     split at hi
     ·cases hi
      rw [<-hxv]
     ·rename_i hne
      exact absurd (XH i x hi hxk) hne
   ·rw [if_neg NA,hm]
    constructor
    ·rintro⟨x,hx,hxk,hxv⟩
     obtain⟨i,hi⟩:=List.getElem?_of_mem hx
     have hne:¬i=j:=λq=>by
      subst q;rw [h2]at hi
      cases hi
      rw [h3]at hxk;injection hxk with hxk;exact NA hxk.symm
     exact⟨x,List.mem_of_getElem? (i:=i) (by rw [hat,if_neg hne];exact hi),hxk,hxv⟩
    ·rintro⟨x,hx,hxk,hxv⟩
     obtain⟨i,hi⟩:=List.getElem?_of_mem hx;rw [hat]at hi
     split at hi
     ·cases hi
      injection hxk with hxk;exact absurd hxk.symm NA
     ·exact⟨x,List.mem_of_getElem? hi,hxk,hxv⟩
theorem SMap.del (h:SMap w g f) (hu:P.underlying mt=some (.map kt et)) (hk:P.underlying kt=some .string) (ty:TypeId) (s:ByteArray):
 ∃w',(Builtin.delete_ #[mt,kt] ty #[.map (some g),.string s]).run P w=.ok (.tuple #[]) w'/\SMap w' g (λt=>if t=s then none else f t)/\Kept (·=g) w w':=by
 obtain⟨es,clock,hb,hks,hn,hm,⟨h1,hf,hnew⟩|⟨j,e,h1,h2,h3,h4⟩⟩:=h.find s
 ·refine⟨{w with heap:=w.heap.setIfInBounds g (.map es clock)},?_,⟨es,clock,(MapKept.heap_set hb).1,hks,hn,λt u=>?_⟩,qJ⟩
  ·simp [Builtin.delete_,run_underlying hu,MapKept.run_getObj_map hb,MapKept.run_checkKey hk (nL s),MapKept.run_findKey hk h1,MapKept.run_setObj_map _ hb,Result.andThen]
  ·show(if t=s then none else f t)=some u↔_
   by_cases NA:t=s
   ·subst NA
    rw [if_pos rfl,<-hf,hm]
   ·rw [if_neg NA,hm]
 ·have hjl:j<es.size:=by have:=(List.getElem?_eq_some_iff.1 h2).1;simpa using this
  have hel:(es.eraseIdxIfInBounds j).toList=es.toList.eraseIdx j:=by
   unfold Array.eraseIdxIfInBounds;rw [dif_pos hjl,Array.toList_eraseIdx]
  have hsub:(es.toList.eraseIdx j).Sublist es.toList:=List.eraseIdx_sublist _ _;refine⟨{w with heap:=w.heap.setIfInBounds g (.map (es.eraseIdxIfInBounds j) clock)},?_,⟨_,clock,(MapKept.heap_set hb).1,?_,?_,λt u=>?_⟩,qJ⟩
  ·simp [Builtin.delete_,run_underlying hu,MapKept.run_getObj_map hb,MapKept.run_checkKey hk (nL s),MapKept.run_findKey hk h1,MapKept.run_setObj_map _ hb,Result.andThen]
  ·rw [hel];exact λx hx=>hks x (hsub.subset hx)
  ·rw [hel];exact(hsub.map _).nodup hn
  ·rw [hel]
   have XH:∀i x,es.toList[i]?=some x->x.key=.string s->i=j:=λi x hx hxk=>by
    exact afA
   show(if t=s then none else f t)=some u↔_
   by_cases NA:t=s
   ·subst NA
    rw [if_pos rfl]
    constructor
    ·intro q;cases q
    ·rintro⟨x,hx,hxk,_⟩
     obtain⟨i,hij,hi⟩:=List.mem_eraseIdx_iff_getElem?.1 hx;exact absurd (XH i x hi hxk) hij
   ·rw [if_neg NA,hm]
    constructor
    ·rintro⟨x,hx,hxk,hxv⟩
     obtain⟨i,hi⟩:=List.getElem?_of_mem hx;refine⟨x,List.mem_eraseIdx_iff_getElem?.2 ⟨i,λq=>?_,hi⟩,hxk,hxv⟩;subst q;rw [h2]at hi
     cases hi
     rw [h3]at hxk;injection hxk with hxk;exact NA hxk.symm
    ·rintro⟨x,hx,hxk,hxv⟩
     exact⟨x,hsub.subset hx,hxk,hxv⟩
end
end Go.Proofs.YtbfbabbcdochjaaGreatDoor
