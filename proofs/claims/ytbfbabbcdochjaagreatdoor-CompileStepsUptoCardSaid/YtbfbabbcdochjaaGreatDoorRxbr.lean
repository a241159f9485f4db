/- Several texts joined: Cr, Ct. -/
import Derived.Test.YtbfbabbcdochjaaGreatDoorRxpk
import Derived.Test.YtbfbabbcdochjaaGreatDoorRxav
import Derived.Test.YtbfbabbcdochjaaGreatDoorRxbp
set_option maxHeartbeats 4000000
namespace Go.Proofs.YtbfbabbcdochjaaGreatDoor
open Go.RowKit So Mc
section
variable {L b:Int}
theorem rt_set {a n:Int} (h1:0≤a∧a < b+49) (h2:i32ok n):rightI ⟨1,a,n,0⟩ L (b+49)=true:=by
 unfold i32ok at h2
 simp [rightI,isOp,hasN,okP,okN,i32B,nth3,rightE]
 omega
theorem rt_move {a n:Int} (h1:0≤a∧a < b+49) (h2:0≤n∧n < b+49):rightI ⟨2,a,n,0⟩ L (b+49)=true:=by
 simp [rightI,isOp,hasN,okP,okN,nth3,rightE]
 omega
theorem rt_three {op a c d:Int} (ho:3≤op∧op≤13 ∨ op=15 ∨ op=16) (h1:0≤a∧a < b+49) (h2:0≤c∧c < b+49) (h3:0≤d∧d < b+49):rightI ⟨op,a,c,d⟩ L (b+49)=true:=by
 have h:op=3 ∨ op=4 ∨ op=5 ∨ op=6 ∨ op=7 ∨ op=8 ∨ op=9 ∨ op=10 ∨ op=11 ∨ op=12 ∨ op=13 ∨ op=15 ∨ op=16:=by omega
 rcases h with rfl | rfl | rfl | rfl | rfl | rfl | rfl | rfl | rfl | rfl | rfl | rfl | rfl <;> (simp [rightI,isOp,hasN,okP,okN,nth3,rightE];omega)
theorem rt_not {a n:Int} (h1:0≤a∧a < b+49) (h2:0≤n∧n < b+49):rightI ⟨14,a,n,0⟩ L (b+49)=true:=by
 simp [rightI,isOp,hasN,okP,okN,nth3,rightE]
 omega
theorem rt_cut {a l h:Int} (h1:0≤a∧a < b+49) (h2:i32ok l) (h3:i32ok h) (h4:l≤h):rightI ⟨17,a,l,h⟩ L (b+49)=true:=by
 unfold i32ok at h2 h3
 simp [rightI,isOp,hasN,okP,okN,i32B,nth3,rightE]
 omega
theorem rt_within {a c n:Int} (h1:0≤a∧a < b+49) (h2:0≤c∧c < b+49) (h3:0≤n∧n≤2147483647):rightI ⟨18,a,c,n⟩ L (b+49)=true:=by
 simp [rightI,isOp,hasN,okP,okN,i32B,nth3,rightE]
 omega
theorem rt_jump {a:Int} (h1:0≤a∧a < L):rightI ⟨19,a,0,0⟩ L (b+49)=true:=by
 simp [rightI,isOp,hasN,okP,okN,nth3,rightE]
 omega
theorem rt_jz {op a c:Int} (ho:op=20 ∨ op=21) (h1:0≤a∧a < L) (h2:0≤c∧c < b+49):rightI ⟨op,a,c,0⟩ L (b+49)=true:=by
 rcases ho with rfl | rfl <;> (simp [rightI,isOp,hasN,okP,okN,nth3,rightE];omega)
theorem rt_halt {a:Int} (h1:a=0 ∨ a=1):rightI ⟨0,a,0,0⟩ L (b+49)=true:=by
 rcases h1 with rfl | rfl <;> simp [rightI,isOp,hasN,okP,okN,i32B,nth3,rightE]
def AllR (L b:Int) (l:List Ins):Prop:=∀ i ∈ l,rightI i L (b+49)=true
theorem AllR.nil:AllR L b []:=fun i h=>by simp at h
theorem AllR.cons {i:Ins} {l:List Ins} (h:rightI i L (b+49)=true) (h':AllR L b l):AllR L b (i :: l):=fun j hj=>by
 rcases List.mem_cons.1 hj with q | q
 ·rw [q];exact h
 ·exact h' j q
theorem AllR.app {l l':List Ins} (h:AllR L b l) (h':AllR L b l'):AllR L b (l ++ l'):=fun j hj=>by
 rcases List.mem_append.1 hj with q | q
 ·exact h j q
 ·exact h' j q
def WdR (b:Int) (W:Wd):Prop:=∀ s,0≤W s∧W s < b+33
theorem cellX_size {V:List Vr} (hv:∀ v ∈ V,0≤v.size∧v.size≤64∧i32ok v.low∧i32ok v.high∧v.low≤v.high) (s:Str):0≤(cellX V s).size∧(cellX V s).size≤64∧i32ok (cellX V s).low∧i32ok (cellX V s).high∧(cellX V s).low≤(cellX V s).high:=by
 unfold cellX
 cases h:V.find? (fun v=>decide (v.name=s)) with
 | none=>simp [i32ok]
 | some v=>exact hv v (List.mem_of_find?_eq_some h)
theorem frw_ok {u:Int} (hb:0≤b) (h0:0≤u) (h1:u < 16):0≤fr b u∧fr b u < b+49:=by unfold fr;omega
theorem right_cE (k:Mk) (W:Wd) (κ:Kn) (hb:0≤k.b) (hW:WdR k.b W) (hv:∀ v ∈ k.V,0≤v.size∧v.size≤64∧i32ok v.low∧i32ok v.high∧v.low≤v.high) :
 ∀ (F:EF) (j:Nat) (u:Int),chkE κ F=none→0≤u→u+dpN F j≤16→AllR L k.b (cE k W F j u)
 | .nil,_,_,_,_,_=>by rw [cE];exact AllR.nil
 | .cons _ _ _ _ r,j+1,u,hc,h0,h1=>by
  rw [cE]
  rw [chkE,ored_eq_none] at hc
  exact right_cE k W κ hb hW hv r j u hc.2 h0 (by simpa [dpN] using h1)
 | .cons op n name kids r,0,u,hc,h0,h1=>by
  rw [chkE,ored_eq_none,ored_eq_none] at hc
  obtain ⟨⟨hh,hkids⟩,-⟩:=hc
  simp only [dpN] at h1
  unfold head1 at hh
  rw [ored_eq_none,must_none,Bool.and_eq_true] at hh
  obtain ⟨⟨hop,hlen⟩,hrest⟩:=hh
  simp only [btw,Bool.and_eq_true,decide_eq_true_eq] at hop
  simp only [beq_iff_eq] at hlen
  have hk0:∀ (j:Nat) (u:Int),0≤u→u+dpN kids j≤16→AllR L k.b (cE k W kids j u):=fun j u a c=>right_cE k W κ hb hW hv kids j u hkids a c
  have hd:=dpN_le kids
  have hpos:=dpN_pos kids
  have hw:=hW name
  have hx:=cellX_size hv name
  unfold cE
  split
  ·rename_i e
   subst e
   simp only [if_true,must_none,word,Bool.and_eq_true,decide_eq_true_eq] at hrest
   exact AllR.cons (rt_set (frw_ok hb h0 zb85) hrest) AllR.nil
  split
  ·exact AllR.cons (rt_move (frw_ok hb h0 zb85) zb85) AllR.nil
  have hl1:1≤kids.len:=by
   rw [hlen]
   unfold exprParts
   split
   ·omega
   ·split <;> omega
  have hp0:=hpos 0 zb85
  have hd0:=hd 0
  have f0:=frw_ok (b:=k.b) hb h0 zb85
  have f1:=frw_ok (b:=k.b) (u:=u+1) hb zb85 zb85
  split
  ·refine AllR.app (hk0 0 u h0 zb85) (AllR.cons (rt_within f1 f0 zb85) (AllR.cons (rt_three zb85 f0 f0 f1) (AllR.cons (rt_three zb85 f0 zb85 f0) (AllR.cons (rt_three zb85 f0 f0 f1) AllR.nil))))
  split
  ·exact AllR.app (hk0 0 u h0 zb85) (AllR.cons (rt_set f1 zb73) (AllR.cons (rt_three zb85 f0 f1 f0) AllR.nil))
  split
  ·exact AllR.app (hk0 0 u h0 zb85) (AllR.cons (rt_not f0 f0) AllR.nil)
  have hd1:=hd 1
  have hop2:=twoOp_bd (op:=op) zb85
  split
  ·exact AllR.app (AllR.app (hk0 1 u h0 zb85) (hk0 0 (u+1) zb85 zb85)) (AllR.cons (rt_three zb85 f0 f0 f1) AllR.nil)
  ·exact AllR.app (AllR.app (hk0 0 u h0 zb85) (hk0 1 (u+1) zb85 zb85)) (AllR.cons (rt_three zb85 f0 f0 f1) AllR.nil)
theorem WdR.upd {W:Wd} (h:WdR b W) (s:Str) {v:Int} (h0:0≤v) (h1:v < b+33):WdR b (updW W s v):=fun t=>by
 unfold updW
 split
 ·omega
 ·exact h t
theorem right_cB (k:Mk) (part:Nat) (hb:0≤k.b) (hb2:k.b≤100) (hs2:0≤k.seats∧k.seats≤8) (hv:∀ v ∈ k.V,0≤v.size∧v.size≤64∧i32ok v.low∧i32ok v.high∧v.low≤v.high) :
 ∀ (F:SF) (κ:Kn) (W:Wd) (f:Nat) (top:Bool) (a:Int),chkB part κ f top F=none→F.size≤1099511627776→WdR k.b W→f≤8→0≤a→a+(cB k F W f a).length < L→AllR L k.b (cB k F W f a)
 | .nil,_,_,_,_,_,_,_,_,_,_,_=>by rw [cB];exact AllR.nil
 | .cons kind name e low high l els r,κ,W,f,top,a,hc,hz,hW,hf,ha,hL=>by
  rw [chkB_cons,ored_eq_none] at hc
  obtain ⟨hc1,hcr⟩:=hc
  rw [cB_cons] at hL ⊢
  rw [List.length_append] at hL
  simp only [SF.size] at hz
  refine AllR.app ?_ (right_cB k part hb hb2 hs2 hv r κ W f top _ hcr zb85 hW hf zb85 zb85)
  unfold chkS at hc1
  rw [ored_eq_none,ored_eq_none,ored_eq_none,ored_eq_none,must_none,Bool.and_eq_true,must_none] at hc1
  obtain ⟨⟨hkd,hlen⟩,-,hnm,hcd,hblk⟩:=hc1
  simp only [btw,Bool.and_eq_true,decide_eq_true_eq] at hkd
  simp only [beq_iff_eq] at hlen
  obtain ⟨hcE,hdp⟩:=chkD_E hcd zb85
  have hE:∀ (j:Nat) (u:Int),0≤u→u≤4→AllR L k.b (cE k W e j u):=fun j u a0 a4=>right_cE k W κ hb hW hv e j u hcE a0 (by have:=dpN_le e j;omega)
  have hx:=cellX_size hv name
  have hw:=hW name
  have F:∀ i:Int,0≤i→i < 16→0≤fr k.b i∧fr k.b i < k.b+49:=fun i h0 h1=>frw_ok hb h0 h1
  have F0:=F 0 zb85 zb85
  have F1:=F 1 zb85 zb85
  have F2:=F 2 zb85 zb85
  have hsm:∀ i:Int,0≤i→i < 15→AllR L k.b (someI k i):=fun i h0 h1=>AllR.cons (rt_within (F (i+1) zb85 zb85) (F i h0 zb85) zb85) (AllR.cons (rt_three zb85 (F i h0 zb85) (F i h0 zb85) (F (i+1) zb85 zb85)) AllR.nil)
  by_cases k2:kind=2
  ·subst k2
   simp only [if_true] at hblk
   rw [ored_eq_none] at hblk
   unfold cS at hL ⊢
   simp only [if_true] at hL ⊢
   cases hn:els.isNil
   ·simp only [hn,cIf,Bool.false_eq_true,if_false,List.length_append,List.length_cons,List.length_nil] at hL ⊢
    refine AllR.app (AllR.app (AllR.app (AllR.app (hE 0 0 zb85 zb85) (AllR.cons (rt_jz zb85 zb85 F0) AllR.nil)) (right_cB k part hb hb2 hs2 hv l κ W f false _ hblk.1 zb85 hW hf zb85 zb85)) (AllR.cons (rt_jump zb85) AllR.nil)) (right_cB k part hb hb2 hs2 hv els κ W f false _ hblk.2 zb85 hW hf zb85 zb85)
   ·simp only [hn,cIf1,if_true,List.length_append,List.length_cons,List.length_nil] at hL ⊢
    refine AllR.app (AllR.app (hE 0 0 zb85 zb85) (AllR.cons (rt_jz zb85 zb85 F0) AllR.nil)) (right_cB k part hb hb2 hs2 hv l κ W f false _ hblk.1 zb85 hW hf zb85 zb85)
  by_cases k3:kind=3
  ·subst k3
   simp only [show ¬ (3:Int)=2 by omega,if_false,if_true] at hblk
   unfold cS at hL ⊢
   simp only [show ¬ (3:Int)=2 by omega,if_false,if_true] at hL ⊢
   unfold named at hnm
   simp only [show ¬ ((3:Int)=0 ∨ (3:Int)=1 ∨ (3:Int)=5) by omega,if_false,if_true] at hnm
   unfold loop at hnm
   simp only [ored_eq_none,must_none,Bool.and_eq_true,decide_eq_true_eq,word] at hnm
   obtain ⟨-,-,⟨⟨hlo,hhi⟩,hdiff⟩,hf8⟩:=hnm
   split
   ·exact AllR.nil
   ·rename_i hlh
    rw [if_neg hlh] at hL
    simp only [cFor,List.length_append,List.length_cons,List.length_nil] at hL ⊢
    have hu:0≤upI k f∧upI k f+1 < k.b+33:=by unfold upI;omega
    refine AllR.app (AllR.app (AllR.cons (rt_set zb85 zb73) (AllR.cons (rt_set zb85 zb73) (AllR.cons (rt_set zb85 zb73) AllR.nil))) (right_cB k part hb hb2 hs2 hv l _ _ (f+1) false _ hblk zb85 (hW.upd name zb85 zb85) zb85 zb85 zb85)) (AllR.cons (rt_three zb85 zb85 zb85 zb85) (AllR.cons (rt_three zb85 zb85 zb85 zb85) (AllR.cons (rt_jz zb85 zb85 zb85) AllR.nil)))
  ·unfold cS at hL ⊢
   rw [if_neg k2,if_neg k3] at hL ⊢
   unfold cS0 at hL ⊢
   split
   ·exact AllR.app (hE 0 0 zb85 zb85) (AllR.cons (rt_cut F0 hx.2.2.1 hx.2.2.2.1 hx.2.2.2.2) (AllR.cons (rt_move zb85 F0) AllR.nil))
   split
   ·rename_i q0 q1
    rw [if_neg q0,if_pos q1] at hL
    simp only [List.length_append,List.length_cons,List.length_nil] at hL
    exact AllR.app (AllR.app (hE 0 0 zb85 zb85) (hE 1 1 zb85 zb85)) (AllR.cons (rt_within F2 F0 zb85) (AllR.cons (rt_jz zb85 zb85 F2) (AllR.cons (rt_cut F1 hx.2.2.1 hx.2.2.2.1 hx.2.2.2.2) (AllR.cons (rt_three zb85 zb85 F0 F1) AllR.nil))))
   split
   ·exact AllR.cons (rt_halt zb85) AllR.nil
   split
   ·rename_i q5
    unfold named at hnm
    rw [if_pos zb85] at hnm
    unfold target at hnm
    rw [ored_eq_none,ored_eq_none,if_pos q5,must_none] at hnm
    obtain ⟨-,-,hlw⟩:=hnm
    have hlw2:2≤low∧low≤1000:=by simpa [btw] using must_none.1 hlw
    exact AllR.cons (rt_set zb85 zb73) (AllR.cons (rt_set zb85 zb73) AllR.nil)
   split
   ·exact AllR.app (hE 0 0 zb85 zb85) (AllR.cons (rt_move zb85 F0) (AllR.cons (rt_halt zb85) AllR.nil))
   split
   ·exact AllR.cons (rt_set zb85 zb73) (AllR.cons (rt_halt zb85) AllR.nil)
   split
   ·exact AllR.app (AllR.app (AllR.app (hE 1 0 zb85 zb85) (hE 0 1 zb85 zb85)) (hsm 1 zb85 zb85)) (AllR.cons (rt_cut F0 zb73 zb73 zb85) (AllR.cons (rt_three zb85 F2 zb85 F1) (AllR.cons (rt_three zb85 F0 F0 F2) (AllR.cons (rt_cut F0 zb73 zb73 zb85) (AllR.cons (rt_three zb85 zb85 F1 F0) AllR.nil)))))
   ·exact AllR.app (AllR.app (hE 0 0 zb85 zb85) (hsm 0 zb85 zb85)) (AllR.cons (rt_move zb85 F0) AllR.nil)
end
theorem topW_R (p:Pr) (part:Nat) (hk:Chk p):WdR (cells p.vars) (topW p (cells p.vars) part):=by
 have h:=cellN_bd p.vars
 have h0:=cells_pos p.vars
 have hn:=hk.np
 intro s
 unfold topW
 split
 ·have:=parW_bd p.params (cellN p.vars) (cells p.vars) (cells p.vars+4) (fun t=>by have:=h t;omega) h0 zb85 s
  omega
 ·split
  ·unfold updW
   split
   ·omega
   ·have:=h s;omega
  ·have:=h s;omega
theorem codeP_right {p:Pr} (hk:Chk p) (i:Nat) (hi:i < 5):okC (codeP p i) (memN p):=by
 have h0:=cells_pos p.vars
 have h1:=hk.cells
 have hs:=hk.seats
 have hm:(memN p:Int)=cells p.vars+49:=by unfold memN;omega
 have hlen:((codeP p i).length:Int)=(codeB p i).length+1:=by unfold codeP;simp
 intro x hx
 rw [hm]
 have hB:AllR (codeP p i).length (cells p.vars) (codeB p i):=right_cB ⟨p.vars,p.seats,cells p.vars⟩ i h0 (by show cells p.vars≤100;omega) (by show 0≤p.seats∧p.seats≤8;omega) (chkVars_mem p.vars [] hk.vars) (partOf p i) (knOf p i) (topW p (cells p.vars) i) 0 true 0 (hk.part i hi) (by have:=hk.psz i hi;omega) (topW_R p i hk) zb85 (Int.le_refl _) (by rw [hlen];unfold codeB;omega)
 unfold codeP at hx
 rcases List.mem_append.1 hx with q | q
 ·exact hB x q
 ·simp at q
  subst q
  exact rt_halt zb85
open Go.RowKit So Mc
def bindsP (p:Pr) (i:Nat) (Ar:List Int):List (Str × Int):=if i=2 then (p.params.map Vr.name).zip Ar else if i=3 then [(p.silent,Ar.getD 0 0)] else []
def R0 (p:Pr) (i:Nat) (V Ar:List Int):RS:=⟨if i=0 then firsts p.vars else V,bindsP p i Ar,false,false,0,0,0,List.replicate p.seats.toNat 0,0⟩
def runR (p:Pr) (i:Nat) (V Ar:List Int):RS:=doB p.vars p.seats (partOf p i) (R0 p i V Ar)
abbrev mkP (p:Pr):Mk:=⟨p.vars,p.seats,cells p.vars⟩
theorem cellN_fit:∀ (l:List Vr) (s:Str),l.any (fun v=>decide (v.name=s))=true→cellN l s+So.cellsV (cellX l s)≤cells l
 | [],s,h=>by simp at h
 | v :: r,s,h=>by
  unfold cellN
  rw [if_pos h]
  by_cases e:v.name=s
  ·have e1:decide (v.name=s)=true:=decide_eq_true e
   have:=cells_pos r
   simp only [List.takeWhile_cons,e1,Bool.not_true,Bool.false_eq_true,if_false,cells,cellX,List.find?_cons,Option.getD_some]
   omega
  ·have e1:decide (v.name=s)=false:=decide_eq_false e
   have hr:r.any (fun v=>decide (v.name=s))=true:=by simpa [e] using h
   have ih:=cellN_fit r s hr
   unfold cellN at ih
   rw [if_pos hr] at ih
   have hx:cellX (v :: r) s=cellX r s:=by simp only [cellX,List.find?_cons,e1]
   rw [hx]
   simp only [List.takeWhile_cons,e1,Bool.not_false,if_true,cells]
   omega
theorem knV_cases (l:List Vr) (s:Str):knV l s=0 ∨ (l.any (fun v=>decide (v.name=s))=true∧((knV l s=1∧¬ 0 < (cellX l s).size) ∨ (knV l s=2∧0 < (cellX l s).size))):=by
 unfold knV cellX
 cases h:l.find? (fun v=>decide (v.name=s)) with
 | none=>exact Or.inl rfl
 | some v =>
  refine Or.inr ⟨?_,?_⟩
  ·rw [List.any_eq_true]
   exact ⟨v,List.mem_of_find?_eq_some h,by simpa using List.find?_some h⟩
  ·show (if 0 < v.size then 2 else 1)=1∧¬ 0 < v.size ∨ (if 0 < v.size then 2 else 1)=2∧0 < v.size
   split
   ·rename_i q;exact Or.inr ⟨rfl,q⟩
   ·rename_i q;exact Or.inl ⟨rfl,q⟩
theorem bind_none {l:List Vr} {a:List Int} {s:Str} (h:∀ v ∈ l,¬ v.name=s):bindG ((l.map Vr.name).zip a) s=none:=by
 unfold bindG
 rw [List.find?_eq_none.2,Option.map_none]
 intro x hx
 simp only [decide_eq_true_eq]
 have hm:=(List.of_mem_zip hx).1
 obtain ⟨v,hv,e⟩:=List.mem_map.1 hm
 rw [← e]
 exact h v hv
theorem par_ok (κ:Kn):∀ (l pre:List Vr),chkPars κ pre l=none→(∀ v ∈ l,κ v.name=0∧(∀ u ∈ pre,¬ u.name=v.name)∧i32ok v.low∧i32ok v.high∧v.low≤v.high)∧(l.map Vr.name).Nodup
 | [],_,_=>⟨fun v hv=>by simp at hv,by simp⟩
 | v :: r,pre,h=>by
  rw [chkPars] at h
  simp only [ored_eq_none,must_none,Bool.and_eq_true,Bool.not_eq_true',beq_iff_eq,span,word,decide_eq_true_eq] at h
  obtain ⟨-,⟨h1,h2⟩,-,h3,h4⟩:=h
  obtain ⟨i1,i2⟩:=par_ok κ r (pre ++ [v]) h4
  refine ⟨fun u hu=>?_,?_⟩
  ·rcases List.mem_cons.1 hu with q | q
   ·subst q
    refine ⟨h1,fun x hx e=>?_,by unfold i32ok;omega,by unfold i32ok;omega,by omega⟩
    rw [List.any_eq_false] at h2
    exact h2 x hx (decide_eq_true e)
   ·obtain ⟨a1,a2,a3⟩:=i1 u q
    exact ⟨a1,fun x hx=>a2 x (List.mem_append_left _ hx),a3⟩
  ·rw [List.map_cons,List.nodup_cons]
   refine ⟨fun hm=>?_,i2⟩
   obtain ⟨u,hu,e⟩:=List.mem_map.1 hm
   exact (i1 u hu).2.1 v (List.mem_append_right _ zb86) e.symm
theorem par_fix:∀ (l:List Vr) (a:List Int) (W:Wd) (b:Int) (s:Str),(l.map Vr.name).Nodup→a.length=l.length→(∃ v ∈ l,v.name=s)→∃ j:Nat,j < l.length∧parW W b l s=b+j∧bindG ((l.map Vr.name).zip a) s=some (a.getD j 0)
 | [],_,_,_,s,_,_,h=>by obtain ⟨v,hv,_⟩:=h;simp at hv
 | v :: r,[],_,_,_,_,hl,_=>by simp at hl
 | v :: r,x :: a,W,b,s,hn,hl,h=>by
  rw [List.map_cons,List.nodup_cons] at hn
  obtain ⟨hn1,hn2⟩:=hn
  by_cases e:v.name=s
  ·refine ⟨0,by simp,?_,?_⟩
   ·rw [parW,parW_other r _ _ s (fun u hu q=>hn1 (List.mem_map.2 ⟨u,hu,q.trans e.symm⟩)),updW,if_pos e.symm]
    omega
   ·simp [bindG,e]
  ·have h':∃ u ∈ r,u.name=s:=by
    obtain ⟨u,hu,q⟩:=h
    rcases List.mem_cons.1 hu with hu | hu
    ·subst hu;exact absurd q e
    ·exact ⟨u,hu,q⟩
   obtain ⟨j,h1,h2,h3⟩:=par_fix r a (updW W v.name b) (b+1) s hn2 (by simpa using hl) h'
   refine ⟨j+1,by simpa using h1,by rw [parW,h2];omega,?_⟩
   have e1:decide (v.name=s)=false:=decide_eq_false e
   unfold bindG at h3 ⊢
   simp only [List.map_cons,List.zip_cons_cons,List.find?_cons,e1]
   rw [h3]
   simp
theorem knOf_le (p:Pr) (i:Nat) (s:Str):knOf p i s≤3:=by
 have h:=knV_cases p.vars s
 unfold knOf
 split
 ·unfold updAll;split <;> omega
 ·unfold updAll;split <;> omega
 ·omega
theorem getD_left (a b:List Int) (j:Nat) (h:j < a.length):(a ++ b).getD j 0=a.getD j 0:=by simp [List.getD,List.getElem?_append_left h]
theorem getD_right (a b:List Int) (j:Nat) (h:a.length≤j):(a ++ b).getD j 0=b.getD (j - a.length) 0:=by simp [List.getD,List.getElem?_append_right h]
section
variable {p:Pr} {V Ar:List Int}
abbrev cells0 (p:Pr) (i:Nat) (V:List Int):List Int:=if i=0 then firsts p.vars else V
theorem cells0_len {i:Nat} (hf:fitsN p i V Ar=0):((cells0 p i V).length:Int)=cells p.vars:=by
 obtain ⟨_,_,h3,_,_⟩:=fitsN_zero hf
 unfold wantN at h3
 by_cases e:i=0
 ·rw [cells0,if_pos e];exact firsts_len _
 ·rw [cells0,if_neg e]
  rw [if_neg zb85] at h3
  exact h3
theorem mem0_eq (i:Nat):mem0 p i V Ar=cells0 p i V ++ (Ar ++ List.replicate (49 - Ar.length) 0):=by
 unfold mem0
 by_cases e:i=0
 ·rw [if_pos zb85,cells0,if_pos e]
 ·rw [if_neg zb85,cells0,if_neg e]
theorem mem0_low {i:Nat} (hf:fitsN p i V Ar=0) (j:Int) (h0:0≤j) (h1:j < cells p.vars):mget (mem0 p i V Ar) j=(cells0 p i V).getD j.toNat 0:=by
 have hl:=cells0_len hf
 rw [mem0_eq,mget,getD_left _ _ _ zb85]
theorem mem0_arg {i:Nat} (hf:fitsN p i V Ar=0) (j:Nat) (h1:j < Ar.length):mget (mem0 p i V Ar) (cells p.vars+j)=Ar.getD j 0:=by
 have hl:=cells0_len hf
 rw [mem0_eq,mget,getD_right _ _ _ zb85,getD_left _ _ _ zb85]
 congr 1
 omega
theorem mem0_zero {i:Nat} (hf:fitsN p i V Ar=0) (j:Int) (h1:(Ar.length:Int)≤j):mget (mem0 p i V Ar) (cells p.vars+j)=0:=by
 have hl:=cells0_len hf
 rw [mem0_eq,mget,getD_right _ _ _ zb85,getD_right _ _ _ zb85]
 rw [List.getD_eq_getElem?_getD,List.getElem?_replicate]
 split <;> rfl
theorem give_le {i:Nat} (hk:Chk p) (hf:fitsN p i V Ar=0):Ar.length≤4:=by
 obtain ⟨_,_,_,h4,_⟩:=fitsN_zero hf
 have:=hk.np
 unfold giveN at h4
 split at h4
 ·omega
 ·split at h4 <;> omega
theorem cinv0 {i:Nat} (hk:Chk p) (hf:fitsN p i V Ar=0) (hV:∀ x ∈ V,i32ok x) (hA:∀ x ∈ Ar,i32ok x):CInv (mkP p) (R0 p i V Ar) (mem0 p i V Ar):=by
 have h0:=cells_pos p.vars
 have hlen:=mem0_len hf hk
 have h4:=give_le hk hf
 have hs:=hk.seats
 have hz:=fun j (h:4≤j)=>mem0_zero hf j zb85
 refine ⟨by rw [hlen];show ((memN p:Nat):Int)=cells p.vars+49;unfold memN;omega,mem0_ok hk i hV hA,cells0_len hf,fun j a b=>mem0_low hf j a b,hz 4 zb85,hz 5 zb85,hz 6 zb85,hz 7 zb85,by show ((List.replicate p.seats.toNat (0:Int)).length:Int)=p.seats;rw [List.length_replicate];omega,fun j a b=>?_⟩
 have e:(R0 p i V Ar).asks.getD j.toNat 0=0:=by
  show (List.replicate p.seats.toNat (0:Int)).getD j.toNat 0=0
  rw [List.getD_eq_getElem?_getD,List.getElem?_replicate]
  split <;> rfl
 rw [e]
 refine ⟨?_,by omega,by omega⟩
 show mget _ (cells p.vars+8+j)=0
 rw [Int.add_assoc]
 exact hz (8+j) zb85
theorem kn_one {s:Str} (hk:Chk p) (h:knV p.vars s=1):0≤cellN p.vars s∧cellN p.vars s < cells p.vars∧VrR (cellX p.vars s):=by
 have hb:=cellN_bd p.vars s
 rcases knV_cases p.vars s with q | ⟨q1,q2⟩
 ·omega
 ·have hf:=cellN_fit p.vars s q1
  have hv:=vcell_pos (cellX p.vars s)
  have hx:=cellX_size (chkVars_mem p.vars [] hk.vars) s
  exact ⟨hb.1,by omega,⟨hx.2.2.1,hx.2.2.2.1,hx.2.2.2.2⟩⟩
theorem kn_two {s:Str} (hk:Chk p) (h:knV p.vars s=2):0≤cellN p.vars s∧0 < (cellX p.vars s).size∧cellN p.vars s+(cellX p.vars s).size≤cells p.vars∧VrR (cellX p.vars s):=by
 have hb:=cellN_bd p.vars s
 rcases knV_cases p.vars s with q | ⟨q1,q2⟩
 ·omega
 ·have hf:=cellN_fit p.vars s q1
  have hx:=cellX_size (chkVars_mem p.vars [] hk.vars) s
  have h0:0 < (cellX p.vars s).size:=by omega
  have hc:So.cellsV (cellX p.vars s)=(cellX p.vars s).size:=by unfold So.cellsV;rw [if_pos zb85]
  exact ⟨hb.1,h0,by omega,⟨hx.2.2.1,hx.2.2.2.1,hx.2.2.2.2⟩⟩
theorem updAll_cases (κ:Kn) (l:List Str) (s:Str):((∃ t ∈ l,t=s)∧updAll κ l s=3) ∨ ((∀ t ∈ l,¬ t=s)∧updAll κ l s=κ s):=by
 unfold updAll
 split
 ·rename_i h
  rw [List.any_eq_true] at h
  obtain ⟨t,ht,q⟩:=h
  exact Or.inl ⟨⟨t,ht,of_decide_eq_true q⟩,rfl⟩
 ·rename_i h
  exact Or.inr ⟨fun t ht q=>h (List.any_eq_true.2 ⟨t,ht,decide_eq_true q⟩),rfl⟩
theorem ninv0 {i:Nat} (hk:Chk p) (hi:i < 5) (hf:fitsN p i V Ar=0):NInv (mkP p) (knOf p i) (topW p (cells p.vars) i) 0 (bindsP p i Ar) (mem0 p i V Ar):=by
 have h0:=cells_pos p.vars
 obtain ⟨_,_,_,hgv,_⟩:=fitsN_zero hf
 obtain ⟨par1,par2⟩:=par_ok (knV p.vars) p.params [] hk.pars
 have k3:=fun s=>knV_cases p.vars s
 by_cases e2:i=2
 ·subst e2
  have hal:Ar.length=p.params.length:=by rw [hgv];rfl
  have hkn:∀ s,knOf p 2 s=updAll (knV p.vars) (p.params.map Vr.name) s:=fun _=>rfl
  have hbd:bindsP p 2 Ar=(p.params.map Vr.name).zip Ar:=rfl
  have htw:∀ s,topW p (cells p.vars) 2 s=parW (cellN p.vars) (cells p.vars) p.params s:=fun _=>rfl
  have hno:∀ s,(∀ t ∈ p.params.map Vr.name,¬ t=s)→topW p (cells p.vars) 2 s=cellN p.vars s∧bindG (bindsP p 2 Ar) s=none:=fun s h =>
   ⟨by rw [htw];exact parW_other _ _ _ s (fun v hv e=>h v.name (List.mem_map.2 ⟨v,hv,rfl⟩) e),by rw [hbd];exact bind_none (fun v hv e=>h v.name (List.mem_map.2 ⟨v,hv,rfl⟩) e)⟩
  refine ⟨knOf_le p 2,fun s h=>?_,fun s h=>?_,fun s h=>?_,fun s h=>?_⟩
  ·rw [hkn] at h
   rcases updAll_cases (knV p.vars) (p.params.map Vr.name) s with ⟨_,q⟩ | ⟨q1,q2⟩
   ·omega
   ·obtain ⟨a1,a2⟩:=hno s q1
    obtain ⟨b1,b2,b3⟩:=kn_one hk (show knV p.vars s=1 by omega)
    exact ⟨a1,b1,b2,a2,b3⟩
  ·rw [hkn] at h
   rcases updAll_cases (knV p.vars) (p.params.map Vr.name) s with ⟨_,q⟩ | ⟨q1,q2⟩
   ·omega
   ·obtain ⟨a1,a2⟩:=hno s q1
    obtain ⟨b1,b2,b3,b4⟩:=kn_two hk (show knV p.vars s=2 by omega)
    exact ⟨a1,b1,b2,b3,b4⟩
  ·rw [hkn] at h
   rcases updAll_cases (knV p.vars) (p.params.map Vr.name) s with ⟨⟨t,ht,q⟩,_⟩ | ⟨q1,q2⟩
   ·obtain ⟨v,hv,e⟩:=List.mem_map.1 ht
    obtain ⟨j,hj,e1,e2⟩:=par_fix p.params Ar (cellN p.vars) (cells p.vars) s par2 hal ⟨v,hv,e.trans q⟩
    have hn4:=hk.np
    rw [htw,hbd,e1]
    exact ⟨Or.inl (by show cells p.vars≤cells p.vars+j∧cells p.vars+j < cells p.vars+4;omega),_,e2,mem0_arg hf j zb85⟩
   ·have:=k3 s;omega
  ·rw [hkn] at h
   rcases updAll_cases (knV p.vars) (p.params.map Vr.name) s with ⟨_,q⟩ | ⟨q1,q2⟩
   ·omega
   ·exact (hno s q1).2
 by_cases e3:i=3
 ·subst e3
  have hal:Ar.length=1:=by rw [hgv];rfl
  have hkn:∀ s,knOf p 3 s=updAll (knV p.vars) [p.silent] s:=fun _=>rfl
  have hbd:bindsP p 3 Ar=[(p.silent,Ar.getD 0 0)]:=rfl
  have htw:∀ s,topW p (cells p.vars) 3 s=updW (cellN p.vars) p.silent (cells p.vars) s:=fun _=>rfl
  have hno:∀ s,(∀ t ∈ [p.silent],¬ t=s)→topW p (cells p.vars) 3 s=cellN p.vars s∧bindG (bindsP p 3 Ar) s=none:=fun s h=>by
   have h':=h p.silent zb86
   exact ⟨by rw [htw,updW,if_neg (fun e=>h' e.symm)],by rw [hbd];simp [bindG,h']⟩
  refine ⟨knOf_le p 3,fun s h=>?_,fun s h=>?_,fun s h=>?_,fun s h=>?_⟩
  ·rw [hkn] at h
   rcases updAll_cases (knV p.vars) [p.silent] s with ⟨_,q⟩ | ⟨q1,q2⟩
   ·omega
   ·obtain ⟨a1,a2⟩:=hno s q1
    obtain ⟨b1,b2,b3⟩:=kn_one hk (show knV p.vars s=1 by omega)
    exact ⟨a1,b1,b2,a2,b3⟩
  ·rw [hkn] at h
   rcases updAll_cases (knV p.vars) [p.silent] s with ⟨_,q⟩ | ⟨q1,q2⟩
   ·omega
   ·obtain ⟨a1,a2⟩:=hno s q1
    obtain ⟨b1,b2,b3,b4⟩:=kn_two hk (show knV p.vars s=2 by omega)
    exact ⟨a1,b1,b2,b3,b4⟩
  ·rw [hkn] at h
   rcases updAll_cases (knV p.vars) [p.silent] s with ⟨⟨t,ht,q⟩,_⟩ | ⟨q1,q2⟩
   ·have e:p.silent=s:=(List.mem_singleton.1 ht).symm.trans q
    have hm:=mem0_arg hf 0 zb85
    rw [htw,hbd,updW,if_pos e.symm]
    refine ⟨Or.inl (by show cells p.vars≤cells p.vars∧cells p.vars < cells p.vars+4;omega),Ar.getD 0 0,by simp [bindG,e],?_⟩
    simpa using hm
   ·have:=k3 s;omega
  ·rw [hkn] at h
   rcases updAll_cases (knV p.vars) [p.silent] s with ⟨_,q⟩ | ⟨q1,q2⟩
   ·omega
   ·exact (hno s q1).2
 ·have hkn:knOf p i=knV p.vars:=by
   unfold knOf
   split
   ·exact absurd rfl e2
   ·exact absurd rfl e3
   ·rfl
  have hbd:bindsP p i Ar=[]:=by unfold bindsP;rw [if_neg e2,if_neg e3]
  have htw:topW p (cells p.vars) i=cellN p.vars:=by unfold topW;rw [if_neg e2,if_neg e3]
  rw [hkn,hbd,htw]
  refine ⟨fun s=>by have:=k3 s;omega,fun s h=>?_,fun s h=>?_,fun s h=>?_,fun s h=>rfl⟩
  ·obtain ⟨b1,b2,b3⟩:=kn_one hk h
   exact ⟨rfl,b1,b2,rfl,b3⟩
  ·obtain ⟨b1,b2,b3,b4⟩:=kn_two hk h
   exact ⟨rfl,b1,b2,b3,b4⟩
  ·have:=k3 s;omega
end
theorem run_sim {p:Pr} (hk:Chk p) (i:Nat) (hi:i < 5) (hst:stepN p i≤65536) {V Ar:List Int} (hf:fitsN p i V Ar=0) (hV:∀ x ∈ V,i32ok x) (hA:∀ x ∈ Ar,i32ok x) :
 ∃ pc m,lastS p i V Ar=(pc,(if (runR p i V Ar).refused then 2 else 1),m)∧CInv (mkP p) (runR p i V Ar) m:=by
 have h0:=cells_pos p.vars
 have hC:=cinv0 hk hf hV hA
 have hN:=ninv0 hk hi hf
 have hok:okC (codeP p i) (mem0 p i V Ar).length:=by rw [mem0_len hf hk];exact codeP_right hk i hi
 have hP:Pre (codeP p i) (mem0 p i V Ar) (mkP p) (knOf p i) (topW p (cells p.vars) i) 0 (R0 p i V Ar):=⟨⟨h0,hk.seats.1,hk.seats.2⟩,by omega,hok,hC,hN,rfl⟩
 have hseg:Seg (codeP p i) 0 (cB (mkP p) (partOf p i) (topW p (cells p.vars) i) 0 0):=⟨Int.le_refl _,fun j hj=>by
  show (codeB p i ++ [_])[0+j]?=(codeB p i)[j]?
  rw [Nat.zero_add,List.getElem?_append_left (show j < (codeB p i).length from hj)]⟩
 obtain ⟨n,hn,ho⟩:=simB (mkP p) i (by show cells p.vars≤64;exact hk.cells) (partOf p i) (knOf p i) (topW p (cells p.vars) i) 0 true (codeP p i) 0 (mem0 p i V Ar) (R0 p i V Ar) (hk.part i hi) (by have:=hk.psz i hi;omega) hP rfl hseg
 have hst2:stepN p i=8+costB (partOf p i):=by
  unfold stepN satN at hst ⊢
  omega
 show ∃ pc m,itI (codeP p i) (stepN p i) (0,0,mem0 p i V Ar)=_∧_
 have hR:(runR p i V Ar)=doB (mkP p).V (mkP p).seats (partOf p i) (R0 p i V Ar):=rfl
 rw [← hR] at ho
 rw [hst2,show 8+costB (partOf p i)=n+(8+costB (partOf p i) - n) by omega,itI_add]
 cases hov:(runR p i V Ar).over with
 | true =>
  obtain ⟨pc',m',h1,h2⟩:=ho.2 hov
  refine ⟨pc',m',?_,h2⟩
  rw [h1,itI_halt]
  show ¬ (if (runR p i V Ar).refused=true then (2:Int) else 1)=0
  split <;> decide
 | false =>
  obtain ⟨m',h1,h2,-,-⟩:=ho.1 hov
  have hrf:(runR p i V Ar).refused=false:=by
   cases h:(runR p i V Ar).refused with
   | false=>rfl
   | true =>
    have:=doB_ref (mkP p).V (mkP p).seats (partOf p i) (R0 p i V Ar) (fun q=>by cases q) (by rw [← hR];exact h)
    rw [← hR,hov] at this
    cases this
  have hlen:(0:Int)+((cB (mkP p) (partOf p i) (topW p (cells p.vars) i) 0 0).length:Nat)=((codeB p i).length:Nat):=by rw [Int.zero_add];rfl
  have hget:(codeP p i)[((0:Int)+((cB (mkP p) (partOf p i) (topW p (cells p.vars) i) 0 0).length:Nat)).toNat]?=some ⟨0,0,0,0⟩:=by
   rw [hlen]
   show (codeB p i ++ [_])[_]?=_
   rw [List.getElem?_append_right zb85]
   simp
  have hl':(m'.length:Int)=cells p.vars+49:=h2.len
  have hm':m'.length=(mem0 p i V Ar).length:=by
   have:=hC.len
   have h3:((mem0 p i V Ar).length:Int)=cells p.vars+49:=this
   omega
  have hok':okC (codeP p i) m'.length:=by rw [hm'];exact hok
  have hone:=step_at (m:=m') hget hok' (step_lost m' zb84 zb84)
  refine ⟨0+((cB (mkP p) (partOf p i) (topW p (cells p.vars) i) 0 0).length:Nat),m',?_,h2⟩
  rw [h1,show 8+costB (partOf p i) - n=1+(7+costB (partOf p i) - n) by omega,itI_add,hone,hrf]
  rw [itI_halt]
  ·rfl
  ·show ¬ ((1:Int)+0)=0
   decide
end Go.Proofs.YtbfbabbcdochjaaGreatDoor
