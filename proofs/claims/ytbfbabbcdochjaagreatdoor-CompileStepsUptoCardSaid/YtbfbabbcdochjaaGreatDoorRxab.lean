/- Several texts joined: Ordp, Ordq. -/
import Derived.Test.YtbfbabbcdochjaaGreatDoorRxpk
import Derived.Test.YtbfbabbcdochjaaGreatDoorRxaa
set_option maxHeartbeats 4000000
namespace Go.Proofs.YtbfbabbcdochjaaGreatDoor
open Go.RowKit
section
variable {P:Program} {ops:Array Oper} {Q:Exit→Act→World→Prop} {S:World→Prop} {md:Region.Mode} {ex:Nat→Bool}
theorem Oper.wp_exits {Q':Exit→Act→World→Prop} {o:Oper} {a:Act} {w:World} {K:Act→World→Prop} (h:∀ e a w,Q e a w→Q' e a w) (hh:o.wp P a w K Q):o.wp P a w K Q':=by
 unfold Oper.wp at *
 generalize (execOp a.eval o).run P w=r at *
 cases r with
 | ok n w' =>
  cases n <;> simp only [Oper.upon] at hh ⊢ <;>
   first
    | exact hh
    | exact Calls.mono hh (fun e w'' he=>by cases e <;> first | exact he | exact h _ _ _ he | exact he.imp fun _=>Exists.imp fun _=>h _ _ _)
 | halt x w'=>cases x <;> simp only [Oper.upon] at hh ⊢ <;> first | exact h _ _ _ hh | exact hh
theorem wpOp_exits {Q':Exit→Act→World→Prop} {i:Nat} {a:Act} {w:World} {K:Act→World→Prop} (h:∀ e a w,Q e a w→Q' e a w) (hh:wpOp P ops Q i K a w):wpOp P ops Q' i K a w:=by
 unfold wpOp at *
 split
 ·simpa [*] using hh
 ·rename_i o ho
  simp only [ho] at hh
  split
  ·rename_i hw;simp only [hw,if_true] at hh;exact hh.imp (Oper.wp_exits h) (fun q=>⟨q.1,q.2.imp fun _=>Exists.imp fun _=>h _ _ _⟩)
  ·rename_i hw;simp only [hw] at hh;exact hh
def QL (Q:Exit→Act→World→Prop) (lst:Nat→Bool) (j:Nat):Exit→Act→World→Prop:=if lst j=true then Q else noP Q
theorem QL.imp {lst:Nat→Bool} {j:Nat}:∀ (e:Exit) (a:Act) (w:World),QL Q lst j e a w→Q e a w:=fun e a w h=>by
 unfold QL at h
 split at h
 ·exact h
 ·exact noP.imp e a w h
theorem QL.of {lst:Nat→Bool} {j:Nat}:∀ (e:Exit) (a:Act) (w:World),noP Q e a w→QL Q lst j e a w:=fun e a w h=>by
 unfold QL
 split
 ·exact noP.imp e a w h
 ·exact h
variable {lst:Nat→Bool}
def wpAnyH (P:Program) (md:Region.Mode) (ops:Array Oper) (Q:Exit→Act→World→Prop) (S:World→Prop) (ex lst:Nat→Bool):Nat→Array Bool→Act→World→Prop
 | 0,listed,a,w=>Region.ready md ops listed=[]∧Q .normal a w
 | fuel+1,listed,a,w =>
  (Region.ready md ops listed=[]→Q .normal a w) ∧
  ∀ i ∈ Region.ready md ops listed,wpOp P ops (QL Q lst i) i (fun a' w'=>(ex i=true ∨ (S w→S w'))∧wpAnyH P md ops Q S ex lst fuel (listed.setIfInBounds i true) a' w') a w
theorem wpAny_of_H:∀ (fuel:Nat) (listed:Array Bool) (a:Act) (w:World),wpAnyH P md ops Q S ex lst fuel listed a w→wpAny P md ops Q fuel listed a w
 | 0,_,_,_,h=>h
 | fuel+1,_,_,_,h=>⟨h.1,fun i hi=>wpOp_mono (fun a' w' h'=>wpAny_of_H fuel _ a' w' h'.2) (wpOp_exits QL.imp (h.2 i hi))⟩
theorem notin {i:Nat} {listed:Array Bool} {oj:Oper} (hr:i ∈ Region.ready md ops listed) (hall:∀ e ∈ oj.after,Region.binds md e=true→listed.getD e.on false=true) :
 ∀ e ∈ oj.after,Region.binds md e=true→e.on ≠ i:=fun e he hb heq=>by
 have h1:=hall e he hb
 have h0:=(mem_ready.1 hr).1
 rw [heq] at h1
 exact zz112
theorem wpAnyH_first {i:Nat} {oi:Oper} {v:Value} (hi:ops[i]?=some oi) (hsel:∀ (j:Nat) (o:Oper) cs b,ops[j]?=some o→o.op ≠ .select cs b)
 (hlst:∀ j listed,Down md ops listed→j ∈ Region.ready md ops listed→j ≠ i→lst j=true→listed.getD i false=true)
 (hex:∀ j listed,Down md ops listed→j ∈ Region.ready md ops listed→j ≠ i→ex j=true→listed.getD i false=true) :
 ∀ (fuel:Nat) (listed:Array Bool) (a:Act) (w:World),Down md ops listed →
  (∀ j oj,ops[j]?=some oj→j ≠ i→listed.getD j true=false→(∀ e ∈ oj.after,Region.binds md e=true→e.on ≠ i)→oi.apart ops oj=true) →
  i ∈ Region.ready md ops listed→YieldsIf P ops S oi v a→S w →
  wpAnyH P md ops Q S ex lst fuel (listed.setIfInBounds i true) (a.put oi.dst v) w→wpAnyH P md ops Q S ex lst (fuel+1) listed a w:=by
 intro fuel
 induction fuel with
 | zero =>
  intro listed a w _ _ hr hy hS H
  refine ⟨fun h=>(by rw [h] at hr;cases hr),fun j hj=>?_⟩
  by_cases hji:j=i
  ·subst hji;exact hy.wpOp hi hS ⟨.inr id,H⟩
  ·have:=ready_mono hj hji
   rw [H.1] at this
   cases this
 | succ fuel ih =>
  intro listed a w hdn hfree hr hy hS H
  refine ⟨fun h=>(by rw [h] at hr;cases hr),fun j hj=>?_⟩
  by_cases hji:j=i
  ·subst hji;exact hy.wpOp hi hS ⟨.inr id,H⟩
  ·have h1:=H.2 j (ready_mono hj hji)
   obtain ⟨hjun,oj,hoj,hall⟩:=mem_ready.1 hj
   have hnot:=notin hr hall
   have hnex:ex j=true→False:=fun h=>by
    have h1:=hex j listed hdn hj hji h
    have h0:=(mem_ready.1 hr).1
    exact zz112
   refine zy31 ?_;intro hnl hQ h2 hfree'
   refine wpOp_mono (fun a' w' h3=>?_) h2
   have hS':S w':=h3.2.1.elim (fun h=>(hnex h).elim) (fun h=>h hS)
   refine ⟨.inr fun _=>hS',ih (listed.setIfInBounds j true) a' w' (hdn.set hj) hfree' (ready_mono hr (Ne.symm hji)) h3.1 hS' ?_⟩
   rw [Array.setIfInBounds_comm _ _ hji]
   exact h3.2.2
theorem wpAnyH_pure {i:Nat} {oi:Oper} {v:Value} (hi:ops[i]?=some oi) (hsel:∀ (j:Nat) (o:Oper) cs b,ops[j]?=some o→o.op ≠ .select cs b)
 (hlst:∀ j listed,Down md ops listed→j ∈ Region.ready md ops listed→j ≠ i→lst j=true→listed.getD i false=true) :
 ∀ (fuel:Nat) (listed:Array Bool) (a:Act) (w:World),Down md ops listed →
  (∀ j oj,ops[j]?=some oj→j ≠ i→listed.getD j true=false→(∀ e ∈ oj.after,Region.binds md e=true→e.on ≠ i)→oi.apart ops oj=true) →
  i ∈ Region.ready md ops listed→YieldsIf P ops (fun _=>True) oi v a →
  wpAnyH P md ops Q S ex lst fuel (listed.setIfInBounds i true) (a.put oi.dst v) w→wpAnyH P md ops Q S ex lst (fuel+1) listed a w:=by
 intro fuel
 induction fuel with
 | zero =>
  intro listed a w _ _ hr hy H
  refine ⟨fun h=>(by rw [h] at hr;cases hr),fun j hj=>?_⟩
  by_cases hji:j=i
  ·subst hji;exact hy.wpOp hi trivial ⟨.inr id,H⟩
  ·have:=ready_mono hj hji
   rw [H.1] at this
   cases this
 | succ fuel ih =>
  intro listed a w hdn hfree hr hy H
  refine ⟨fun h=>(by rw [h] at hr;cases hr),fun j hj=>?_⟩
  by_cases hji:j=i
  ·subst hji;exact hy.wpOp hi trivial ⟨.inr id,H⟩
  ·have h1:=H.2 j (ready_mono hj hji)
   obtain ⟨hjun,oj,hoj,hall⟩:=mem_ready.1 hj
   have hnot:=notin hr hall
   refine zy31 ?_;intro hnl hQ h2 hfree'
   refine wpOp_mono (fun a' w' h3=>?_) h2
   refine ⟨h3.2.1,ih (listed.setIfInBounds j true) a' w' (hdn.set hj) hfree' (ready_mono hr (Ne.symm hji)) h3.1 ?_⟩
   rw [Array.setIfInBounds_comm _ _ hji]
   exact h3.2.2
theorem wpAnyH_all {rs:List Nat} {fuel:Nat} {listed:Array Bool} {a:Act} {w:World} (hr:Region.ready md ops listed=rs) (hne:rs ≠ [])
 (h:∀ i ∈ rs,wpOp P ops (QL Q lst i) i (fun a' w'=>(ex i=true ∨ (S w→S w'))∧wpAnyH P md ops Q S ex lst fuel (listed.setIfInBounds i true) a' w') a w):wpAnyH P md ops Q S ex lst (fuel+1) listed a w :=
 ⟨fun h0=>absurd (hr ▸ h0) hne,hr ▸ h⟩
theorem wpAnyH_done {listed:Array Bool} {a:Act} {w:World} (hr:Region.ready md ops listed=[]) (h:Q .normal a w) :
 ∀ fuel,wpAnyH P md ops Q S ex lst fuel listed a w
 | 0=>⟨hr,h⟩
 | _+1=>⟨fun _=>h,by rw [hr];simp⟩
def exP (md:Region.Mode) (ops:Array Oper) (od:List (Nat × Nat)) (j:Nat):Bool :=
 od.all fun p=>!(p.2 == 1) || p.1 == j || (downMask md ops ops.size (dpMask md ops j)).testBit p.1
theorem exP_spec {od:List (Nat × Nat)} {i j:Nat} {listed:Array Bool} (hf:(i,1) ∈ od) (hd:Down md ops listed) (hj:j ∈ Region.ready md ops listed) (hne:j ≠ i) (h:exP md ops od j=true) :
 listed.getD i false=true:=by
 have h1:=List.all_eq_true.1 h _ hf
 simp only [beq_self_eq_true,Bool.not_true,Bool.false_or,Bool.or_eq_true,beq_iff_eq] at h1
 exact zz109
def lstP (md:Region.Mode) (ops:Array Oper) (od:List (Nat × Nat)) (j:Nat):Bool :=
 od.all fun p=>p.1 == j || (downMask md ops ops.size (dpMask md ops j)).testBit p.1
theorem lstP_spec {od:List (Nat × Nat)} {i k j:Nat} {listed:Array Bool} (hf:(i,k) ∈ od) (hd:Down md ops listed) (hj:j ∈ Region.ready md ops listed) (hne:j ≠ i) (h:lstP md ops od j=true) :
 listed.getD i false=true:=by
 exact zz56
def ordP (md:Region.Mode) (ops:Array Oper):List (Nat × Nat)→Array Bool→Bool
 | [],listed=>(Region.ready md ops listed).isEmpty
 | (i,0) :: r,listed=>(Region.ready md ops listed == [i]) && ordP md ops r (listed.setIfInBounds i true)
 | (i,_+1) :: r,listed=>Region.free md ops listed i && (Region.ready md ops listed).contains i && ordP md ops r (listed.setIfInBounds i true)
def wpOp3 (P:Program) (ops:Array Oper) (Q:Exit→Act→World→Prop) (S:World→Prop) (od:List (Nat × Nat)):List (Nat × Nat)→List Oper→Act→World→Prop
 | [],[],a,w=>Q .normal a w
 | (k,0) :: r,o :: l,a,w =>
  if Region.wanted o (yielded ops a.tmps) then o.wp P a w (fun a' w'=>(exP .any ops od k=true ∨ (S w→S w'))∧wpOp3 P ops Q S od r l a' w') (QL Q (lstP .any ops od) k) ∨ (o.asks P a w∧LetsOut (QL Q (lstP .any ops od) k))
  else wpOp3 P ops Q S od r l (a.put o.dst undef) w
 | (_,1) :: r,o :: l,a,w=>S w∧∃ v,YieldsIf P ops S o v a∧wpOp3 P ops Q S od r l (a.put o.dst v) w
 | (_,_+2) :: r,o :: l,a,w=>∃ v,YieldsIf P ops (fun _=>True) o v a∧wpOp3 P ops Q S od r l (a.put o.dst v) w
 | _,_,_,_=>False
theorem wpAnyH_of_3 {od:List (Nat × Nat)} (hs:Region.noSelect ops=true):∀ (r:List (Nat × Nat)) (l:List Oper) (fuel:Nat) (listed:Array Bool) (a:Act) (w:World),l.length≤fuel→l.map some=r.map (fun p=>ops[p.1]?)→(∀ p ∈ r,p ∈ od)→Down .any ops listed →
 ordP .any ops r listed=true→wpOp3 P ops Q S od r l a w→wpAnyH P .any ops Q S (exP .any ops od) (lstP .any ops od) fuel listed a w
 | [],[],fuel,listed,a,w,_,_,_,_,hB,h=>wpAnyH_done (by simpa [ordP] using hB) h fuel
 | _ :: _,[],fuel,listed,a,w,_,_,_,_,_,h=>by simp [wpOp3] at h
 | [],_ :: _,fuel,listed,a,w,_,_,_,_,_,h=>by simp [wpOp3] at h
 | _ :: _,_ :: _,0,listed,a,w,hf,_,_,_,_,_=>by simp at hf
 | (i,1) :: r,o :: l,fuel+1,listed,a,w,hf,hl,hr,hdn,hB,h=>by
  obtain ⟨hS,v,hy,h⟩:=h
  simp only [ordP,Bool.and_eq_true] at hB
  simp only [List.map_cons,List.cons.injEq] at hl
  exact wpAnyH_first hl.1.symm (Region.noSelect_spec hs) (fun j l hd hj hne hx=>lstP_spec (hr _ (List.mem_cons_self ..)) hd hj hne hx) (fun j l hd hj hne hx=>exP_spec (hr _ zb86) hd hj hne hx) fuel listed a w hdn (Region.free_spec hl.1.symm hB.1.1) (by simpa using hB.1.2) hy hS
   (wpAnyH_of_3 hs r l fuel _ _ w (by simpa using hf) hl.2 (fun p hp=>hr p (by simp [hp])) (hdn.set (by simpa using hB.1.2)) hB.2 h)
 | (i,n+2) :: r,o :: l,fuel+1,listed,a,w,hf,hl,hr,hdn,hB,h=>by
  obtain ⟨v,hy,h⟩:=h
  simp only [ordP,Bool.and_eq_true] at hB
  simp only [List.map_cons,List.cons.injEq] at hl
  exact wpAnyH_pure hl.1.symm (Region.noSelect_spec hs) (fun j l hd hj hne hx=>lstP_spec (hr _ (List.mem_cons_self ..)) hd hj hne hx) fuel listed a w hdn (Region.free_spec hl.1.symm hB.1.1) (by simpa using hB.1.2) hy
   (wpAnyH_of_3 hs r l fuel _ _ w (by simpa using hf) hl.2 (fun p hp=>hr p (by simp [hp])) (hdn.set (by simpa using hB.1.2)) hB.2 h)
 | (i,0) :: r,o :: l,fuel+1,listed,a,w,hf,hl,hr,hdn,hB,h=>by
  simp only [ordP,Bool.and_eq_true,beq_iff_eq] at hB
  simp only [List.map_cons,List.cons.injEq] at hl
  refine wpAnyH_all hB.1 zb86 fun j hj=>?_
  obtain rfl:j=i:=by simpa using hj
  have h1:wpOp P ops (QL Q (lstP .any ops od) j) j (fun a' w'=>(exP .any ops od j=true ∨ (S w→S w'))∧wpOp3 P ops Q S od r l a' w') a w:=by
   unfold wpOp
   rw [← hl.1]
   unfold wpOp3 at h
   by_cases hw:Region.wanted o (yielded ops a.tmps)=true
   ·rw [if_pos hw] at h
    simp only [if_pos hw]
    exact h
   ·rw [if_neg hw] at h
    simp only [if_neg hw]
    exact ⟨.inr id,h⟩
  exact wpOp_mono (fun a' w' h'=>⟨h'.1,wpAnyH_of_3 hs r l fuel _ a' w' (by simpa using hf) hl.2 (fun p hp=>hr p (by simp [hp])) (hdn.set (by rw [hB.1];simp)) hB.2 h'.2⟩) h1
def inP (n:Nat) (od:List (Nat × Nat)):Bool:=od.all fun p=>decide (p.1 < n)
theorem wp_region_3 {id:Nat} {a:Act} {w:World} {l:List Oper} (S:World→Prop) (od:List (Nat × Nat)) (hm:P.follows .mixedOrders=true) (hs:Region.noSelect l.toArray=true)
 (hB:ordP .any l.toArray od (Array.replicate l.toArray.size false)=true) (hin:(inP l.length od && decide (od.length≤l.length))=true)
 (h:∀ l',l'=od.map (fun p=>l.getD p.1 nop)→wpOp3 P l.toArray Q S od od l' a w.drew):(Code.region id l.toArray true).wp P Q a w:=by
 simp only [Bool.and_eq_true,decide_eq_true_eq] at hin
 refine (wp_region_any hm (wpAny_of_H _ _ _ _ (wpAnyH_of_3 hs od _ _ _ a _ ?_ ?_ (fun _ h=>h) (Down.init _) hB (h _ rfl))))
 ·simpa using hin.2
 ·rw [List.map_map]
  refine List.map_congr_left fun p hp=>?_
  have hlt:p.1 < l.length:=of_decide_eq_true (List.all_eq_true.1 hin.1 p hp)
  simp [List.getD,List.getElem?_eq_getElem hlt]
theorem qr3 {id:Nat} {a:Act} {w:World} {l:List Oper} (S:World→Prop) (od:List (Nat × Nat)) (h:∀ l',l'=od.map (fun p=>l.getD p.1 nop)→wpOp3 P l.toArray Q S od od l' a w.drew) (hm:P.follows .mixedOrders=true:=by kernel_rfl) (hs:Region.noSelect l.toArray=true:=by kernel_rfl) (hB:ordP .any l.toArray od (Array.replicate l.toArray.size false)=true:=by kernel_rfl) (hin:(inP l.length od && decide (od.length≤l.length))=true:=by kernel_rfl):(Code.region id l.toArray true).wp P Q a w:=wp_region_3 S od hm hs hB hin h
variable {od:List (Nat × Nat)} {k:Nat}
theorem w3_nil {a:Act} {w:World} (h:Q .normal a w):wpOp3 P ops Q S od [] [] a w:=h
theorem w3_take {l:List Oper} {r:List (Nat × Nat)} {a:Act} {w:World} {o:Oper} {v:Value} (hS:S w) (hw:Region.wanted o (yielded ops a.tmps)=true)
 (hy:∀ w',S w'→(execOp a.eval o).run P w'=.ok (.value v) w') (h:∀ K:Act→World→Prop,(∀ a w,wpOp3 P ops Q S od r l a w→K a w)→K (a.put o.dst v) w):wpOp3 P ops Q S od ((k,1) :: r) (o :: l) a w :=
 ⟨hS,v,.inl ⟨hw,hy⟩,h _ (fun _ _ h=>h)⟩
theorem w3_pass {l:List Oper} {r:List (Nat × Nat)} {a:Act} {w:World} {o:Oper} (hS:S w) (hw:Region.wanted o (yielded ops a.tmps)=false)
 (h:∀ K:Act→World→Prop,(∀ a w,wpOp3 P ops Q S od r l a w→K a w)→K (a.put o.dst undef) w):wpOp3 P ops Q S od ((k,1) :: r) (o :: l) a w :=
 ⟨hS,undef,.inr ⟨hw,rfl⟩,h _ (fun _ _ h=>h)⟩
theorem qt3 {P : Program} {ops : Array Oper} {Q : Exit → Act → World → Prop} {S : World → Prop} {od r : List (Nat × Nat)} {k : Nat} {l : List Oper} {a : Act} {w : World} {o : Oper} {v : Value} {G : Prop} (hS : S w) (hy : ∀ w', S w' → (execOp a.eval o).run P w' = .ok (.value v) w') (g : G) (hw : Region.wanted o (yielded ops a.tmps) = true := by (go_simp; first | done | fail)) (h : G → ∀ K : Act → World → Prop, (∀ a w, wpOp3 P ops Q S od r l a w → K a w) → K (a.put o.dst v) w := by (intro qq; have QQ := Go.Lib.hid qq; clear qq; intro K hK; go_simp; refine hK _ _ ?_; clear hK K; exact QQ.out)) : wpOp3 P ops Q S od ((k, 1) :: r) (o :: l) a w := w3_take hS hw hy (h g)
theorem qp3 {P : Program} {ops : Array Oper} {Q : Exit → Act → World → Prop} {S : World → Prop} {od r : List (Nat × Nat)} {k : Nat} {l : List Oper} {a : Act} {w : World} {o : Oper} {G : Prop} (hS : S w) (g : G) (hw : Region.wanted o (yielded ops a.tmps) = false := by (go_simp; first | done | fail)) (h : G → ∀ K : Act → World → Prop, (∀ a w, wpOp3 P ops Q S od r l a w → K a w) → K (a.put o.dst undef) w := by (intro qq; have QQ := Go.Lib.hid qq; clear qq; intro K hK; go_simp; refine hK _ _ ?_; clear hK K; exact QQ.out)) : wpOp3 P ops Q S od ((k, 1) :: r) (o :: l) a w := w3_pass hS hw (h g)
theorem w3_pure {l:List Oper} {r:List (Nat × Nat)} {a:Act} {w:World} {o:Oper} {v:Value} (hw:Region.wanted o (yielded ops a.tmps)=true)
 (hy:∀ w',(execOp a.eval o).run P w'=.ok (.value v) w') (h:∀ K:Act→World→Prop,(∀ a w,wpOp3 P ops Q S od r l a w→K a w)→K (a.put o.dst v) w):wpOp3 P ops Q S od ((k,2) :: r) (o :: l) a w :=
 ⟨v,.inl ⟨hw,fun w _=>hy w⟩,h _ (fun _ _ h=>h)⟩
theorem w3_skip {l:List Oper} {r:List (Nat × Nat)} {a:Act} {w:World} {o:Oper} (hw:Region.wanted o (yielded ops a.tmps)=false)
 (h:∀ K:Act→World→Prop,(∀ a w,wpOp3 P ops Q S od r l a w→K a w)→K (a.put o.dst undef) w):wpOp3 P ops Q S od ((k,2) :: r) (o :: l) a w :=
 ⟨undef,.inr ⟨hw,rfl⟩,h _ (fun _ _ h=>h)⟩
theorem w3_act {l:List Oper} {r:List (Nat × Nat)} {a:Act} {w:World} {o:Oper}
 (h:∀ K:Act→World→Prop,Shut (∀ a' w',(S w→S w')→wpOp3 P ops Q S od r l a' w'→K a' w')→if Region.wanted o (yielded ops a.tmps)=true then Oper.wp P o a w K (noP Q) else K (a.put o.dst undef) w) :
 wpOp3 P ops Q S od ((k,0) :: r) (o :: l) a w:=by
 unfold wpOp3
 split
 ·rename_i hw
  have h:=h (fun a' w'=>(exP .any ops od k=true ∨ (S w→S w'))∧wpOp3 P ops Q S od r l a' w') (fun a' w' hS h=>⟨.inr hS,h⟩)
  rw [if_pos hw] at h;exact .inl (Oper.wp_exits QL.of h)
 ·rename_i hw
  have h:=h (fun a' w'=>wpOp3 P ops Q S od r l a' w') (fun a' w' _ h=>h)
  rw [if_neg hw] at h;exact h
theorem w3_end {l:List Oper} {r:List (Nat × Nat)} {a:Act} {w:World} {o:Oper} (hx:exP .any ops od k=true)
 (h:∀ K:Act→World→Prop,Shut (∀ a' w',wpOp3 P ops Q S od r l a' w'→K a' w')→if Region.wanted o (yielded ops a.tmps)=true then Oper.wp P o a w K (noP Q) else K (a.put o.dst undef) w) :
 wpOp3 P ops Q S od ((k,0) :: r) (o :: l) a w:=by
 unfold wpOp3
 split
 ·rename_i hw
  have h:=h (fun a' w'=>(exP .any ops od k=true ∨ (S w→S w'))∧wpOp3 P ops Q S od r l a' w') (fun a' w' h=>⟨.inl hx,h⟩)
  rw [if_pos hw] at h;exact .inl (Oper.wp_exits QL.of h)
 ·rename_i hw
  have h:=h (fun a' w'=>wpOp3 P ops Q S od r l a' w') (fun a' w' h=>h)
  rw [if_neg hw] at h;exact h
theorem w3_last {l:List Oper} {r:List (Nat × Nat)} {a:Act} {w:World} {o:Oper} (hx:lstP .any ops od k=true) (hx2:exP .any ops od k=true)
 (h:∀ K:Act→World→Prop,Shut (∀ a' w',wpOp3 P ops Q S od r l a' w'→K a' w')→if Region.wanted o (yielded ops a.tmps)=true then Oper.wp P o a w K Q else K (a.put o.dst undef) w) :
 wpOp3 P ops Q S od ((k,0) :: r) (o :: l) a w:=by
 unfold wpOp3
 split
 ·rename_i hw
  have h:=h (fun a' w'=>(exP .any ops od k=true ∨ (S w→S w'))∧wpOp3 P ops Q S od r l a' w') (fun a' w' h=>⟨.inl hx2,h⟩)
  rw [if_pos hw] at h
  unfold QL
  rw [if_pos hx]
  exact .inl h
 ·rename_i hw
  have h:=h (fun a' w'=>wpOp3 P ops Q S od r l a' w') (fun a' w' h=>h)
  rw [if_neg hw] at h;exact h
end
open Go.RowKit
inductive Pl0 where
 | nil
 | op (i k:Nat) (r:Pl0)
 | fork (i:Nat) (p:Pl0) (j:Nat) (q:Pl0)
inductive Pl where
 | nil
 | op (i k:Nat) (o:Oper) (r:Pl)
 | fork (i:Nat) (o:Oper) (p:Pl) (j:Nat) (o':Oper) (q:Pl)
def Pl0.fill (l:List Oper):Pl0→Pl
 | .nil=>.nil
 | .op i k r=>.op i k (l.getD i nop) (r.fill l)
 | .fork i p j q=>.fork i (l.getD i nop) (p.fill l) j (l.getD j nop) (q.fill l)
def Pl0.st:Pl0→List Nat
 | .nil=>[]
 | .op i k r=>if k=1 then i :: r.st else r.st
 | .fork _ p _ q=>p.st ++ q.st
def Pl0.len:Pl0→Nat
 | .nil=>0
 | .op _ _ r=>r.len+1
 | .fork _ p _ q=>max p.len q.len+1
section
variable {P:Program} {ops:Array Oper} {Q:Exit→Act→World→Prop} {S:World→Prop}
def exQ (md:Region.Mode) (ops:Array Oper) (st:List Nat) (j:Nat):Bool :=
 st.all fun i=>i == j || (downMask md ops ops.size (dpMask md ops j)).testBit i
theorem exQ_spec {md:Region.Mode} {st:List Nat} {i j:Nat} {listed:Array Bool} (hf:i ∈ st) (hd:Down md ops listed) (hj:j ∈ Region.ready md ops listed) (hne:j ≠ i) (h:exQ md ops st j=true) :
 listed.getD i false=true:=by
 exact zz56
def Pl0.ok (md:Region.Mode) (ops:Array Oper):Pl0→Array Bool→Bool
 | .nil,listed=>(Region.ready md ops listed).isEmpty
 | .op i 0 r,listed=>(Region.ready md ops listed == [i]) && decide (i < ops.size) && r.ok md ops (listed.setIfInBounds i true)
 | .op i (_+1) r,listed=>Region.free md ops listed i && (Region.ready md ops listed).contains i && decide (i < ops.size) && r.ok md ops (listed.setIfInBounds i true)
 | .fork i p j q,listed=>(Region.ready md ops listed == [i,j]) && decide (i < ops.size) && decide (j < ops.size) && p.ok md ops (listed.setIfInBounds i true) && q.ok md ops (listed.setIfInBounds j true)
def wpPl (P:Program) (ops:Array Oper) (Q:Exit→Act→World→Prop) (S:World→Prop) (st:List Nat):Pl→Act→World→Prop
 | .nil,a,w=>Q .normal a w
 | .op k 0 o r,a,w =>
  if Region.wanted o (yielded ops a.tmps) then o.wp P a w (fun a' w'=>(exQ .any ops st k=true ∨ (S w→S w'))∧wpPl P ops Q S st r a' w') (noP Q) ∨ (o.asks P a w∧LetsOut (noP Q))
  else wpPl P ops Q S st r (a.put o.dst undef) w
 | .op _ 1 o r,a,w=>S w∧∃ v,YieldsIf P ops S o v a∧wpPl P ops Q S st r (a.put o.dst v) w
 | .op _ (_+2) o r,a,w=>∃ v,YieldsIf P ops (fun _=>True) o v a∧wpPl P ops Q S st r (a.put o.dst v) w
 | .fork k o r k' o' r',a,w =>
  (if Region.wanted o (yielded ops a.tmps) then o.wp P a w (fun a' w'=>(exQ .any ops st k=true ∨ (S w→S w'))∧wpPl P ops Q S st r a' w') (noP Q) ∨ (o.asks P a w∧LetsOut (noP Q))
  else wpPl P ops Q S st r (a.put o.dst undef) w) ∧
  (if Region.wanted o' (yielded ops a.tmps) then o'.wp P a w (fun a' w'=>(exQ .any ops st k'=true ∨ (S w→S w'))∧wpPl P ops Q S st r' a' w') (noP Q) ∨ (o'.asks P a w∧LetsOut (noP Q))
  else wpPl P ops Q S st r' (a.put o'.dst undef) w)
theorem getD_some {l:List Oper} {i:Nat} (h:i < l.toArray.size):l.toArray[i]?=some (l.getD i nop):=by
 have h':i < l.length:=by simpa using h
 simp [List.getD,List.getElem?_eq_getElem h']
theorem noP_QL {lst:Nat→Bool} {j:Nat}:∀ (e:Exit) (a:Act) (w:World),noP Q e a w→QL (noP Q) lst j e a w:=fun e a w h=>by
 unfold QL
 split
 ·exact h
 ·cases e <;> exact h
theorem wpAnyH_of_pl {l:List Oper} {st:List Nat} (hs:Region.noSelect l.toArray=true):∀ (p:Pl0) (fuel:Nat) (listed:Array Bool) (a:Act) (w:World),p.len≤fuel→(∀ i ∈ p.st,i ∈ st)→Down .any l.toArray listed →
 p.ok .any l.toArray listed=true→wpPl P l.toArray Q S st (p.fill l) a w→wpAnyH P .any l.toArray (noP Q) S (exQ .any l.toArray st) (fun _=>false) fuel listed a w
 | .nil,fuel,listed,a,w,_,_,_,hB,h=>wpAnyH_done (Q:=noP Q) (by simpa [Pl0.ok] using hB) h fuel
 | .op _ _ _,0,listed,a,w,hf,_,_,_,_=>by simp [Pl0.len] at hf
 | .fork _ _ _ _,0,listed,a,w,hf,_,_,_,_=>by simp [Pl0.len] at hf
 | .op i 1 r,fuel+1,listed,a,w,hf,hr,hdn,hB,h=>by
  obtain ⟨hS,v,hy,h⟩:=h
  simp only [Pl0.ok,Bool.and_eq_true,decide_eq_true_eq] at hB
  simp only [Pl0.st,if_true] at hr
  have ho:=getD_some hB.1.2
  exact wpAnyH_first ho (Region.noSelect_spec hs) (fun _ _ _ _ _ hx=>by cases hx) (fun j l hd hj hne hx=>exQ_spec (hr _ zb86) hd hj hne hx) fuel listed a w hdn (Region.free_spec ho hB.1.1.1) (by simpa using hB.1.1.2) hy hS
   (wpAnyH_of_pl hs r fuel _ _ w (by simpa [Pl0.len] using hf) (fun p hp=>hr p (by simp [hp])) (hdn.set (by simpa using hB.1.1.2)) hB.2 h)
 | .op i (n+2) r,fuel+1,listed,a,w,hf,hr,hdn,hB,h=>by
  obtain ⟨v,hy,h⟩:=h
  simp only [Pl0.ok,Bool.and_eq_true,decide_eq_true_eq] at hB
  have ho:=getD_some hB.1.2
  exact wpAnyH_pure ho (Region.noSelect_spec hs) (fun _ _ _ _ _ hx=>by cases hx) fuel listed a w hdn (Region.free_spec ho hB.1.1.1) (by simpa using hB.1.1.2) hy
   (wpAnyH_of_pl hs r fuel _ _ w (by simpa [Pl0.len] using hf) (fun p hp=>hr p (by simp [Pl0.st,hp])) (hdn.set (by simpa using hB.1.1.2)) hB.2 h)
 | .op i 0 r,fuel+1,listed,a,w,hf,hr,hdn,hB,h=>by
  simp only [Pl0.ok,Bool.and_eq_true,beq_iff_eq,decide_eq_true_eq] at hB
  have ho:=getD_some hB.1.2
  refine wpAnyH_all hB.1.1 zb86 fun j hj=>?_
  obtain rfl:j=i:=by simpa using hj
  have h1:wpOp P l.toArray (noP Q) j (fun a' w'=>(exQ .any l.toArray st j=true ∨ (S w→S w'))∧wpPl P l.toArray Q S st (r.fill l) a' w') a w:=by
   unfold wpOp
   rw [ho]
   unfold Pl0.fill wpPl at h
   by_cases hw:Region.wanted (l.getD j nop) (yielded l.toArray a.tmps)=true
   ·rw [if_pos hw] at h;simp only [if_pos hw];exact h
   ·rw [if_neg hw] at h;simp only [if_neg hw];exact ⟨.inr id,h⟩
  exact wpOp_mono (fun a' w' h'=>⟨h'.1,wpAnyH_of_pl hs r fuel _ a' w' (by simpa [Pl0.len] using hf) (fun p hp=>hr p (by simp [Pl0.st,hp])) (hdn.set (by rw [hB.1.1];simp)) hB.2 h'.2⟩) (wpOp_exits noP_QL h1)
 | .fork i p j q,fuel+1,listed,a,w,hf,hr,hdn,hB,h=>by
  simp only [Pl0.ok,Bool.and_eq_true,beq_iff_eq,decide_eq_true_eq] at hB
  obtain ⟨⟨⟨⟨hrd,hi⟩,hj⟩,hp⟩,hq⟩:=hB
  have hoi:=getD_some hi
  have hoj:=getD_some hj
  have hlen:max p.len q.len≤fuel:=by simpa [Pl0.len] using hf
  unfold Pl0.fill wpPl at h
  refine wpAnyH_all hrd zb86 fun k hk=>?_
  rcases (by simpa using hk:k=i ∨ k=j) with rfl | rfl
  ·have h1:wpOp P l.toArray (noP Q) k (fun a' w'=>(exQ .any l.toArray st k=true ∨ (S w→S w'))∧wpPl P l.toArray Q S st (p.fill l) a' w') a w:=by
    unfold wpOp
    rw [hoi]
    have h:=h.1
    exact zz84
   exact wpOp_mono (fun a' w' h'=>⟨h'.1,wpAnyH_of_pl hs p fuel _ a' w' zb85 (fun x hx=>hr x (by simp [Pl0.st,hx])) (hdn.set (by rw [hrd];simp)) hp h'.2⟩) (wpOp_exits noP_QL h1)
  ·have h1:wpOp P l.toArray (noP Q) k (fun a' w'=>(exQ .any l.toArray st k=true ∨ (S w→S w'))∧wpPl P l.toArray Q S st (q.fill l) a' w') a w:=by
    unfold wpOp
    rw [hoj]
    have h:=h.2
    exact zz84
   exact wpOp_mono (fun a' w' h'=>⟨h'.1,wpAnyH_of_pl hs q fuel _ a' w' zb85 (fun x hx=>hr x (by simp [Pl0.st,hx])) (hdn.set (by rw [hrd];simp)) hq h'.2⟩) (wpOp_exits noP_QL h1)
theorem wp_region_4 {id:Nat} {a:Act} {w:World} {l:List Oper} (S:World→Prop) (p:Pl0) (hm:P.follows .mixedOrders=true) (hs:Region.noSelect l.toArray=true)
 (hB:p.ok .any l.toArray (Array.replicate l.toArray.size false)=true) (hin:decide (p.len≤l.length)=true)
 (h:∀ p',p'=p.fill l→wpPl P l.toArray Q S p.st p' a w.drew):(Code.region id l.toArray true).wp P Q a w :=
 Code.wp_mono noP.imp (wp_region_any hm (wpAny_of_H _ _ _ _ (wpAnyH_of_pl hs p _ _ a _ (by simpa using hin) (fun _ h=>h) (Down.init _) hB (h _ rfl))))
theorem qr4 {id:Nat} {a:Act} {w:World} {l:List Oper} (S:World→Prop) (p:Pl0) (h:∀ p',p'=p.fill l→wpPl P l.toArray Q S p.st p' a w.drew) (hm:P.follows .mixedOrders=true:=by kernel_rfl) (hs:Region.noSelect l.toArray=true:=by kernel_rfl) (hB:p.ok .any l.toArray (Array.replicate l.toArray.size false)=true:=by kernel_rfl) (hin:decide (p.len≤l.length)=true:=by kernel_rfl):(Code.region id l.toArray true).wp P Q a w:=wp_region_4 S p hm hs hB hin h
variable {st:List Nat} {k:Nat} {r:Pl} {a:Act} {w:World} {o:Oper}
theorem w4_nil (h:Q .normal a w):wpPl P ops Q S st .nil a w:=h
theorem w4_take {v:Value} (hS:S w) (hw:Region.wanted o (yielded ops a.tmps)=true)
 (hy:∀ w',S w'→(execOp a.eval o).run P w'=.ok (.value v) w') (h:∀ K:Act→World→Prop,(∀ a w,wpPl P ops Q S st r a w→K a w)→K (a.put o.dst v) w):wpPl P ops Q S st (.op k 1 o r) a w :=
 ⟨hS,v,.inl ⟨hw,hy⟩,h _ (fun _ _ h=>h)⟩
theorem w4_pass (hS:S w) (hw:Region.wanted o (yielded ops a.tmps)=false)
 (h:∀ K:Act→World→Prop,(∀ a w,wpPl P ops Q S st r a w→K a w)→K (a.put o.dst undef) w):wpPl P ops Q S st (.op k 1 o r) a w :=
 ⟨hS,undef,.inr ⟨hw,rfl⟩,h _ (fun _ _ h=>h)⟩
theorem w4_pure {v:Value} (hw:Region.wanted o (yielded ops a.tmps)=true)
 (hy:∀ w',(execOp a.eval o).run P w'=.ok (.value v) w') (h:∀ K:Act→World→Prop,(∀ a w,wpPl P ops Q S st r a w→K a w)→K (a.put o.dst v) w):wpPl P ops Q S st (.op k 2 o r) a w :=
 ⟨v,.inl ⟨hw,fun w _=>hy w⟩,h _ (fun _ _ h=>h)⟩
theorem w4_skip (hw:Region.wanted o (yielded ops a.tmps)=false)
 (h:∀ K:Act→World→Prop,(∀ a w,wpPl P ops Q S st r a w→K a w)→K (a.put o.dst undef) w):wpPl P ops Q S st (.op k 2 o r) a w :=
 ⟨undef,.inr ⟨hw,rfl⟩,h _ (fun _ _ h=>h)⟩
theorem w4_act (h:∀ K:Act→World→Prop,Shut (∀ a' w',(S w→S w')→wpPl P ops Q S st r a' w'→K a' w')→if Region.wanted o (yielded ops a.tmps)=true then Oper.wp P o a w K (noP Q) else K (a.put o.dst undef) w) :
 wpPl P ops Q S st (.op k 0 o r) a w:=by
 unfold wpPl
 split
 ·rename_i hw
  have h:=h (fun a' w'=>(exQ .any ops st k=true ∨ (S w→S w'))∧wpPl P ops Q S st r a' w') (fun a' w' hS h=>⟨.inr hS,h⟩)
  rw [if_pos hw] at h;exact .inl h
 ·rename_i hw
  have h:=h (fun a' w'=>wpPl P ops Q S st r a' w') (fun a' w' _ h=>h)
  rw [if_neg hw] at h;exact h
theorem w4_end (hx:exQ .any ops st k=true)
 (h:∀ K:Act→World→Prop,Shut (∀ a' w',wpPl P ops Q S st r a' w'→K a' w')→if Region.wanted o (yielded ops a.tmps)=true then Oper.wp P o a w K (noP Q) else K (a.put o.dst undef) w) :
 wpPl P ops Q S st (.op k 0 o r) a w:=by
 unfold wpPl
 split
 ·rename_i hw
  have h:=h (fun a' w'=>(exQ .any ops st k=true ∨ (S w→S w'))∧wpPl P ops Q S st r a' w') (fun a' w' h=>⟨.inl hx,h⟩)
  rw [if_pos hw] at h;exact .inl h
 ·rename_i hw
  have h:=h (fun a' w'=>wpPl P ops Q S st r a' w') (fun a' w' h=>h)
  rw [if_neg hw] at h;exact h
theorem w4_fork {k':Nat} {o':Oper} {r':Pl} (h:wpPl P ops Q S st (.op k 0 o r) a w) (h':wpPl P ops Q S st (.op k' 0 o' r') a w):wpPl P ops Q S st (.fork k o r k' o' r') a w:=⟨h,h'⟩
end
end Go.Proofs.YtbfbabbcdochjaaGreatDoor
