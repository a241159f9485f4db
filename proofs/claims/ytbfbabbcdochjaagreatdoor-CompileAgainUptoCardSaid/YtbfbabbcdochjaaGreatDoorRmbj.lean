/- Several texts joined: Ct, Jx, Cu. -/
import Derived.Test.YtbfbabbcdochjaaGreatDoorRmpk
import Derived.Test.YtbfbabbcdochjaaGreatDoorRmbi
set_option maxHeartbeats 4000000
set_option maxRecDepth 100000
open Go.Proofs.Tryz
namespace Go.Proofs.YtbfbabbcdochjaaGreatDoor
open Go.RowKit So Mc
def dW (p:Pr) (i:Nat) (Ar:List Int):List (Str×Int):=if i=2 then(p.params.map Vr.name).zip Ar else if i=3 then [(p.silent,Ar.getD 0 0)]else []
def R0 (p:Pr) (i:Nat) (V Ar:List Int):RS:=⟨if i=0 then firsts p.vars else V,dW p i Ar,false,false,0,0,0,List.replicate p.seats.toNat 0,0⟩
def iG (p:Pr) (i:Nat) (V Ar:List Int):RS:=oL p.vars p.seats (partOf p i) (R0 p i V Ar)
abbrev RU (p:Pr):Mk:=⟨p.vars,p.seats,cells p.vars⟩
theorem zG:∀(l:List Vr) (s:Str),l.any (λv=>decide (v.name=s))=true->aS l s+So.dD (aD l s)<=cells l
 |[],s,h=>by simp at h
 |v::r,s,h=>by
  unfold aS;rw [if_pos h]
  by_cases e:v.name=s
  ·have e1:decide (v.name=s)=true:=decide_eq_true e
   have:=dS r;simp only [List.takeWhile_cons,e1,Bool.not_true,Bool.false_eq_true,if_false,cells,aD,List.find?_cons,Option.getD_some]
   omega
  ·have e1:decide (v.name=s)=false:=decide_eq_false e
   have hr:r.any (λv=>decide (v.name=s))=true:=by simpa [e]using h
   have ih:=zG r s hr;unfold aS at ih;rw [if_pos hr]at ih;have hx:aD (v::r) s=aD r s:=by simp only [aD,List.find?_cons,e1]
   rw [hx];simp only [List.takeWhile_cons,e1,Bool.not_false,if_true,cells]
   omega
theorem u_ (l:List Vr) (s:Str):fB l s=0∨(l.any (λv=>decide (v.name=s))=true/\((fB l s=1/\¬0<(aD l s).size)∨(fB l s=2/\0<(aD l s).size))):=by
 unfold fB aD
 cases h:l.find? (λv=>decide (v.name=s))with
 |none=>exact Or.inl rfl
 |some v=>
  refine Or.inr ⟨?_,?_⟩
  ·rw [List.any_eq_true]
   exact⟨v,List.mem_of_find?_eq_some h,by simpa using List.find?_some h⟩
  ·show(if 0<v.size then 2 else 1)=1/\¬0<v.size∨(if 0<v.size then 2 else 1)=2/\0<v.size
   split
   ·rename_i q;exact Or.inr ⟨rfl,q⟩
   ·rename_i q;exact Or.inl ⟨rfl,q⟩
theorem bind_none {l:List Vr} {a:List Int} {s:Str} (h:∀v∈l,¬v.name=s):iq ((l.map Vr.name).zip a) s=none:=by
 unfold iq;rw [List.find?_eq_none.2,Option.map_none];intro x hx;simp only [decide_eq_true_eq];have hm:=(List.of_mem_zip hx).1;obtain⟨v,hv,e⟩:=List.mem_map.1 hm;rw [<-e];exact h v hv
theorem Ef (κ:Kn):∀(l pre:List Vr),d_ κ pre l=none->(∀v∈l,κ v.name=0/\(∀u∈pre,¬u.name=v.name)/\au v.low/\au v.high/\v.low<=v.high)/\(l.map Vr.name).Nodup
 |[],_,_=>⟨λv hv=>by simp at hv,by simp⟩
 |v::r,pre,h=>by
  rw [d_]at h;simp only [av,aP,Bool.and_eq_true,Bool.not_eq_true',beq_iff_eq,span,word,decide_eq_true_eq]at h;obtain⟨-,⟨h1,h2⟩,-,h3,h4⟩:=h;obtain⟨i1,i2⟩:=Ef κ r (pre++[v]) h4;refine⟨λu hu=>?_,?_⟩
  ·rcases List.mem_cons.1 hu with q|q
   ·subst q
    refine⟨h1,λx hx e=>?_,by unfold au;omega,by unfold au;omega,by omega⟩;rw [List.any_eq_false]at h2;exact h2 x hx (decide_eq_true e)
   ·obtain⟨a1,a2,a3⟩:=i1 u q
    exact⟨a1,λx hx=>a2 x (List.mem_append_left _ hx),a3⟩
  ·rw [List.map_cons,List.nodup_cons]
   refine⟨λhm=>?_,i2⟩;obtain⟨u,hu,e⟩:=List.mem_map.1 hm;exact(i1 u hu).2.1 v (List.mem_append_right _ aG) e.symm
theorem R_:∀(l:List Vr) (a:List Int) (W:Wd) (b:Int) (s:Str),(l.map Vr.name).Nodup->a.length=l.length->(∃v∈l,v.name=s)->∃j:Nat,j<l.length/\pU W b l s=b+j/\iq ((l.map Vr.name).zip a) s=some (a.getD j 0)
 |[],_,_,_,s,_,_,h=>by obtain⟨v,hv,_⟩:=h;simp at hv
 |v::r,[],_,_,_,_,hl,_=>by simp at hl
 |v::r,x::a,W,b,s,hn,hl,h=>by
  rw [List.map_cons,List.nodup_cons]at hn;obtain⟨hn1,hn2⟩:=hn
  by_cases e:v.name=s
  ·refine⟨0,by simp,?_,?_⟩
   ·rw [pU,rW r _ _ s (λu hu q=>hn1 (List.mem_map.2 ⟨u,hu,q.trans e.symm⟩)),gG,if_pos e.symm]
    omega
   ·simp [iq,e]
  ·have h':∃u∈r,u.name=s:=by
    obtain⟨u,hu,q⟩:=h
    rcases List.mem_cons.1 hu with hu|hu
    ·subst hu;exact absurd q e
    ·exact⟨u,hu,q⟩
   obtain⟨j,h1,h2,h3⟩:=R_ r a (gG W v.name b) (b+1) s hn2 (by simpa using hl) h';refine⟨j+1,by simpa using h1,by rw [pU,h2];omega,?_⟩;have e1:decide (v.name=s)=false:=decide_eq_false e;unfold iq at h3⊢;simp only [List.map_cons,List.zip_cons_cons,List.find?_cons,e1];rw [h3];simp
theorem RL (p:Pr) (i:Nat) (s:Str):jI p i s<=3:=by
 have h:=u_ p.vars s;unfold jI
 split
 ·unfold aU;split<;>omega
 ·unfold aU;split<;>omega
 ·omega
theorem zM (a b:List Int) (j:Nat) (h:j<a.length):(a++b).getD j 0=a.getD j 0:=by simp [List.getD,List.getElem?_append_left h]
theorem wN (a b:List Int) (j:Nat) (h:a.length<=j):(a++b).getD j 0=b.getD (j - a.length) 0:=by simp [List.getD,List.getElem?_append_right h]
section
variable {p:Pr} {V Ar:List Int}
abbrev wI (p:Pr) (i:Nat) (V:List Int):List Int:=if i=0 then firsts p.vars else V
theorem rD {i:Nat} (hf:dO p i V Ar=0):((wI p i V).length:Int)=cells p.vars:=by
 obtain⟨_,_,h3,_,_⟩:=kL hf;unfold gK at h3
 by_cases e:i=0
 ·rw [wI,if_pos e];exact oh _
 ·rw [wI,if_neg e]
  rw [if_neg aj]at h3;exact h3
theorem IE (i:Nat):iT p i V Ar=wI p i V++(Ar++List.replicate (49 - Ar.length) 0):=by
 unfold iT
 by_cases e:i=0
 ·rw [if_pos aj,wI,if_pos e]
 ·rw [if_neg aj,wI,if_neg e]
theorem X3 {i:Nat} (hf:dO p i V Ar=0) (j:Int) (h0:0<=j) (h1:j<cells p.vars):aV (iT p i V Ar) j=(wI p i V).getD j.toNat 0:=by
 have hl:=rD hf;rw [IE,aV,zM _ _ _ aj]
theorem LM {i:Nat} (hf:dO p i V Ar=0) (j:Nat) (h1:j<Ar.length):aV (iT p i V Ar) (cells p.vars+j)=Ar.getD j 0:=by
 have hl:=rD hf;rw [IE,aV,wN _ _ _ aj,zM _ _ _ aj]
 congr 1
 omega
theorem Ul {i:Nat} (hf:dO p i V Ar=0) (j:Int) (h1:(Ar.length:Int)<=j):aV (iT p i V Ar) (cells p.vars+j)=0:=by
 have hl:=rD hf;rw [IE,aV,wN _ _ _ aj,wN _ _ _ aj];rw [List.getD_eq_getElem?_getD,List.getElem?_replicate]
 split<;>rfl
theorem aaC {i:Nat} (hk:tF p) (hf:dO p i V Ar=0):Ar.length<=4:=by
 obtain⟨_,_,_,h4,_⟩:=kL hf;have:=hk.np;unfold dZ at h4
 split at h4
 ·omega
 ·split at h4<;>omega
theorem acv {i:Nat} (hk:tF p) (hf:dO p i V Ar=0) (hV:∀x∈V,au x) (hA:∀x∈Ar,au x):nG (RU p) (R0 p i V Ar) (iT p i V Ar):=by
 have h0:=dS p.vars;have hlen:=qL hf hk;have h4:=aaC hk hf;have hs:=hk.seats;have hz:=λj (h:4<=j)=>Ul hf j aj;refine⟨by rw [hlen];show((bO p:Nat):Int)=cells p.vars+49;unfold bO;omega,RP hk i hV hA,rD hf,λj a b=>X3 hf j a b,hz 4 aj,hz 5 aj,hz 6 aj,hz 7 aj,by show((List.replicate p.seats.toNat (0:Int)).length:Int)=p.seats;rw [List.length_replicate];omega,λj a b=>?_⟩
 have e:(R0 p i V Ar).asks.getD j.toNat 0=0:=by
  show(List.replicate p.seats.toNat (0:Int)).getD j.toNat 0=0;rw [List.getD_eq_getElem?_getD,List.getElem?_replicate]
  split<;>rfl
 rw [e];refine⟨?_,by omega,by omega⟩;show aV _ (cells p.vars+8+j)=0;rw [Int.add_assoc];exact hz (8+j) aj
theorem O1 {s:Str} (hk:tF p) (h:fB p.vars s=1):0<=aS p.vars s/\aS p.vars s<cells p.vars/\VrR (aD p.vars s):=by
 have hb:=xU p.vars s
 rcases u_ p.vars s with q|⟨q1,q2⟩
 ·omega
 ·have hf:=zG p.vars s q1
  have hv:=jV (aD p.vars s);have hx:=rC (jR p.vars [] hk.vars) s;exact⟨hb.1,by omega,⟨hx.2.2.1,hx.2.2.2.1,hx.2.2.2.2⟩⟩
theorem O4 {s:Str} (hk:tF p) (h:fB p.vars s=2):0<=aS p.vars s/\0<(aD p.vars s).size/\aS p.vars s+(aD p.vars s).size<=cells p.vars/\VrR (aD p.vars s):=by
 have hb:=xU p.vars s
 rcases u_ p.vars s with q|⟨q1,q2⟩
 ·omega
 ·have hf:=zG p.vars s q1
  have hx:=rC (jR p.vars [] hk.vars) s;have h0:0<(aD p.vars s).size:=by omega
  have hc:So.dD (aD p.vars s)=(aD p.vars s).size:=by unfold So.dD;rw [if_pos aj]
  exact⟨hb.1,h0,by omega,⟨hx.2.2.1,hx.2.2.2.1,hx.2.2.2.2⟩⟩
theorem iD (κ:Kn) (l:List Str) (s:Str):((∃t∈l,t=s)/\aU κ l s=3)∨((∀t∈l,¬t=s)/\aU κ l s=κ s):=by
 unfold aU
 split
 ·rename_i h
  rw [List.any_eq_true]at h;obtain⟨t,ht,q⟩:=h;exact Or.inl ⟨⟨t,ht,of_decide_eq_true q⟩,rfl⟩
 ·rename_i h
  exact Or.inr ⟨λt ht q=>h (List.any_eq_true.2 ⟨t,ht,decide_eq_true q⟩),rfl⟩
theorem acI {i:Nat} (hk:tF p) (hi:i<5) (hf:dO p i V Ar=0):FE (RU p) (jI p i) (iC p (cells p.vars) i) 0 (dW p i Ar) (iT p i V Ar):=by
 have h0:=dS p.vars;obtain⟨_,_,_,hgv,_⟩:=kL hf;obtain⟨amy,alo⟩:=Ef (fB p.vars) p.params [] hk.aaY;have k3:=λs=>u_ p.vars s
 by_cases e2:i=2
 ·subst e2
  have hal:Ar.length=p.params.length:=by rw [hgv];rfl
  have hkn:∀s,jI p 2 s=aU (fB p.vars) (p.params.map Vr.name) s:=λ_=>rfl;have hbd:dW p 2 Ar=(p.params.map Vr.name).zip Ar:=rfl;have VZ:∀s,iC p (cells p.vars) 2 s=pU (aS p.vars) (cells p.vars) p.params s:=λ_=>rfl
  have hno:∀s,(∀t∈p.params.map Vr.name,¬t=s)->iC p (cells p.vars) 2 s=aS p.vars s/\iq (dW p 2 Ar) s=none:=λs h=>
   ⟨by rw [VZ];exact rW _ _ _ s (λv hv e=>h v.name (List.mem_map.2 ⟨v,hv,rfl⟩) e),by rw [hbd];exact bind_none (λv hv e=>h v.name (List.mem_map.2 ⟨v,hv,rfl⟩) e)⟩
  refine⟨RL p 2,λs h=>?_,λs h=>?_,λs h=>?_,λs h=>?_⟩
  ·rw [hkn]at h
   rcases iD (fB p.vars) (p.params.map Vr.name) s with⟨_,q⟩|⟨q1,q2⟩
   ·omega
   ·obtain⟨a1,a2⟩:=hno s q1
    obtain⟨b1,b2,b3⟩:=O1 hk (show fB p.vars s=1 by omega);exact⟨a1,b1,b2,a2,b3⟩
  ·rw [hkn]at h
   rcases iD (fB p.vars) (p.params.map Vr.name) s with⟨_,q⟩|⟨q1,q2⟩
   ·omega
   ·obtain⟨a1,a2⟩:=hno s q1
    obtain⟨b1,b2,b3,b4⟩:=O4 hk (show fB p.vars s=2 by omega);exact⟨a1,b1,b2,b3,b4⟩
  ·rw [hkn]at h
   rcases iD (fB p.vars) (p.params.map Vr.name) s with⟨⟨t,ht,q⟩,_⟩|⟨q1,q2⟩
   ·obtain⟨v,hv,e⟩:=List.mem_map.1 ht
    obtain⟨j,hj,e1,e2⟩:=R_ p.params Ar (aS p.vars) (cells p.vars) s alo hal ⟨v,hv,e.trans q⟩;have hn4:=hk.np;rw [VZ,hbd,e1];exact⟨Or.inl (by show cells p.vars<=cells p.vars+j/\cells p.vars+j<cells p.vars+4;omega),_,e2,LM hf j aj⟩
   ·have:=k3 s;omega
  ·rw [hkn]at h
   rcases iD (fB p.vars) (p.params.map Vr.name) s with⟨_,q⟩|⟨q1,q2⟩
   ·omega
   ·exact(hno s q1).2
 by_cases e3:i=3
 ·subst e3
  have hal:Ar.length=1:=by rw [hgv];rfl
  have hkn:∀s,jI p 3 s=aU (fB p.vars) [p.silent] s:=λ_=>rfl;have hbd:dW p 3 Ar=[(p.silent,Ar.getD 0 0)]:=rfl;have VZ:∀s,iC p (cells p.vars) 3 s=gG (aS p.vars) p.silent (cells p.vars) s:=λ_=>rfl
  have hno:∀s,(∀t∈[p.silent],¬t=s)->iC p (cells p.vars) 3 s=aS p.vars s/\iq (dW p 3 Ar) s=none:=λs h=>by
   have h':=h p.silent aG;exact⟨by rw [VZ,gG,if_neg (λe=>h' e.symm)],by rw [hbd];simp [iq,h']⟩
  refine⟨RL p 3,λs h=>?_,λs h=>?_,λs h=>?_,λs h=>?_⟩
  ·rw [hkn]at h
   rcases iD (fB p.vars) [p.silent] s with⟨_,q⟩|⟨q1,q2⟩
   ·omega
   ·obtain⟨a1,a2⟩:=hno s q1
    obtain⟨b1,b2,b3⟩:=O1 hk (show fB p.vars s=1 by omega);exact⟨a1,b1,b2,a2,b3⟩
  ·rw [hkn]at h
   rcases iD (fB p.vars) [p.silent] s with⟨_,q⟩|⟨q1,q2⟩
   ·omega
   ·obtain⟨a1,a2⟩:=hno s q1
    obtain⟨b1,b2,b3,b4⟩:=O4 hk (show fB p.vars s=2 by omega);exact⟨a1,b1,b2,b3,b4⟩
  ·rw [hkn]at h
   rcases iD (fB p.vars) [p.silent] s with⟨⟨t,ht,q⟩,_⟩|⟨q1,q2⟩
   ·have e:p.silent=s:=(List.mem_singleton.1 ht).symm.trans q
    have hm:=LM hf 0 aj;rw [VZ,hbd,gG,if_pos e.symm];refine⟨Or.inl (by show cells p.vars<=cells p.vars/\cells p.vars<cells p.vars+4;omega),Ar.getD 0 0,by simp [iq,e],?_⟩
    simpa using hm
   ·have:=k3 s;omega
  ·rw [hkn]at h
   rcases iD (fB p.vars) [p.silent] s with⟨_,q⟩|⟨q1,q2⟩
   ·omega
   ·exact(hno s q1).2
 ·have hkn:jI p i=fB p.vars:=by
   unfold jI
   split
   ·exact absurd rfl e2
   ·exact absurd rfl e3
   ·rfl
  have hbd:dW p i Ar=[]:=by unfold dW;rw [if_neg e2,if_neg e3]
  have VZ:iC p (cells p.vars) i=aS p.vars:=by unfold iC;rw [if_neg e2,if_neg e3]
  rw [hkn,hbd,VZ];refine⟨λs=>by have:=k3 s;omega,λs h=>?_,λs h=>?_,λs h=>?_,λs h=>rfl⟩
  ·obtain⟨b1,b2,b3⟩:=O1 hk h
   exact⟨rfl,b1,b2,rfl,b3⟩
  ·obtain⟨b1,b2,b3,b4⟩:=O4 hk h
   exact⟨rfl,b1,b2,b3,b4⟩
  ·have:=k3 s;omega
end
theorem R7 {p:Pr} (hk:tF p) (i:Nat) (hi:i<5) (hst:bB p i<=65536) {V Ar:List Int} (hf:dO p i V Ar=0) (hV:∀x∈V,au x) (hA:∀x∈Ar,au x):
 ∃pc m,iJ p i V Ar=(pc,(if (iG p i V Ar).refused then 2 else 1),m)/\nG (RU p) (iG p i V Ar) m:=by
 have h0:=dS p.vars;have hC:=acv hk hf hV hA;have hN:=acI hk hi hf;have hok:ND (dM p i) (iT p i V Ar).length:=by rw [qL hf hk];exact Aj hk i hi
 have hP:Pre (dM p i) (iT p i V Ar) (RU p) (jI p i) (iC p (cells p.vars) i) 0 (R0 p i V Ar):=⟨⟨h0,hk.seats.1,hk.seats.2⟩,by omega,hok,hC,hN,rfl⟩
 have hseg:Seg (dM p i) 0 (cB (RU p) (partOf p i) (iC p (cells p.vars) i) 0 0):=⟨Int.le_refl _,λj hj=>by
  show(sI p i++[_])[0+j]?=(sI p i)[j]?;rw [Nat.zero_add,List.getElem?_append_left (show j<(sI p i).length from hj)]⟩
 obtain⟨n,hn,ho⟩:=abn (RU p) i (by show cells p.vars<=64;exact hk.cells) (partOf p i) (jI p i) (iC p (cells p.vars) i) 0 true (dM p i) 0 (iT p i V Ar) (R0 p i V Ar) (hk.part i hi) (by have:=hk.V5 i hi;omega) hP rfl hseg
 have ali:bB p i=8+dG (partOf p i):=by
  unfold bB bW at hst⊢
  omega
 show∃pc m,jU (dM p i) (bB p i) (0,0,iT p i V Ar)=_/\_;have hR:(iG p i V Ar)=oL (RU p).V (RU p).seats (partOf p i) (R0 p i V Ar):=rfl;rw [<-hR]at ho;rw [ali,show 8+dG (partOf p i)=n+(8+dG (partOf p i) - n)by omega,gF]
 cases hov:(iG p i V Ar).over with
 |true=>
  obtain⟨pc',m',h1,h2⟩:=ho.2 hov;refine⟨pc',m',?_,h2⟩;rw [h1,uq];show¬(if (iG p i V Ar).refused=true then(2:Int)else 1)=0
  split<;>decide
 |false=>
  obtain⟨m',h1,h2,-,-⟩:=ho.1 hov
  have hrf:(iG p i V Ar).refused=false:=by
   cases h:(iG p i V Ar).refused with
   |false=>rfl
   |true=>
    have:=rH (RU p).V (RU p).seats (partOf p i) (R0 p i V Ar) (λq=>by cases q) (by rw [<-hR];exact h);rw [<-hR,hov]at this
    cases this
  have hlen:(0:Int)+((cB (RU p) (partOf p i) (iC p (cells p.vars) i) 0 0).length:Nat)=((sI p i).length:Nat):=by rw [Int.zero_add];rfl
  have hget:(dM p i)[((0:Int)+((cB (RU p) (partOf p i) (iC p (cells p.vars) i) 0 0).length:Nat)).toNat]?=some ⟨0,0,0,0⟩:=by
   rw [hlen];show(sI p i++[_])[_]?=_;rw [List.getElem?_append_right aj];simp
  have hl':(m'.length:Int)=cells p.vars+49:=h2.len
  have hm':m'.length=(iT p i V Ar).length:=by
   have:=hC.len;have h3:((iT p i V Ar).length:Int)=cells p.vars+49:=this
   omega
  have hok':ND (dM p i) m'.length:=by rw [hm'];exact hok
  have hone:=jl (m:=m') hget hok' (aT m' ak ak);refine⟨0+((cB (RU p) (partOf p i) (iC p (cells p.vars) i) 0 0).length:Nat),m',?_,h2⟩;rw [h1,show 8+dG (partOf p i) - n=1+(7+dG (partOf p i) - n)by omega,gF,hone,hrf];rw [uq]
  ·rfl
  ·show¬((1:Int)+0)=0
   decide
open Go.RowKit So Mc
inductive qd (p:Pr) (w':World):Ending->Prop
 |no:qd p w' (.returned (.tuple #[.pointer none,.bool false]))
 |ok (hf:TG p=true) (h:check p=none) (hl:¬rT p) (hs:∀i,i<5->bB p i<=65536) (cb:Nat) (k:Cd) (hc:jZ w' w'.heap.size cb k p):qd p w' (.returned (.tuple #[.pointer (some ⟨cb,0,none⟩),.bool true]))
theorem rQ (c:Pc) (p:Pr) (N:Nat) (w:World) (hN:N<=w.heap.size) (h:lT w N c p) (hL:fG w) (hz:eT p<=1099511627776):
 Calls prog 11 #[.agg c.cells] w λe w'=>Ext w w'/\qd p w' e:=by
 refine QY ?_;intro hx0 hB;go_enter func11,ntmps11;go_upto_region 1 with(fail);have iY:=J (h.ext hx0 hN);have dR:=J (Nat.le_trans hN hx0.size);have pI:=J (hL.ext hx0);have HZ:=J hz;generalize hW:w.alloc (.cells c.cells 26)=W at hx0 hB iY dR pI⊢;have HX0:=J hx0;have HB:=J hB;clear hW hx0 hB h hN hL hz;generalize w.heap.size=pb at HB⊢;have i1:=bH HB.out;have i2:=bG HB.out;have i3:=HB.out.lt;go_wp2_with fail;refine(Gg c p N _ dR.out iY.out).mono ?_;rintro e w1 ⟨rfl,hx1⟩;have eH:=J hx1;clear hx1 i1 i2 i3;obtain⟨r,hr⟩:∃r,r=TG p:=⟨_,rfl⟩;rw [<-hr];have vT:=J hr;clear hr
 cases r
 ·go_wp2_with fail
  go_ret2
  exact⟨HX0.out.trans eH.out,.no⟩
 ·have i1:=bH (HB.out.ext eH.out)
  have i2:=bG (HB.out.ext eH.out);have i3:=(HB.out.ext eH.out).lt;go_wp2_with fail;refine(Yc c p N _ (Nat.le_trans dR.out eH.out.size) (iY.out.ext eH.out dR.out)).mono ?_;rintro e w2 ⟨hx2,c1,rfl,hp1⟩;have eU:=J (eH.out.trans hx2);have HP1:=J hp1;have HL2:=J (pI.out.ext eU.out);clear hx2 hp1 i1 i2 i3;go_wp2_with fail;refine(Ak c1 p _ w2 HL2.out.lt (Nat.le_refl _) HP1.out HL2.out HZ.out).mono ?_;rintro e w3 ⟨hx3,ho⟩;have iZ:=J (eU.out.trans hx3);clear hx3
  cases ho with
  |bad f hf=>
   go_wp2_with fail
   go_ret2
   exact⟨HX0.out.trans iZ.out,.no⟩
  |long hc hl=>
   go_wp2_with fail
   go_ret2
   exact⟨HX0.out.trans iZ.out,.no⟩
  |steps hc hl hs=>
   go_wp2_with fail
   go_ret2
   exact⟨HX0.out.trans iZ.out,.no⟩
  |ok hc hl hs cb k hk=>
   have HC:=J hc;have HL:=J hl;have HS:=J hs;have HK:=J hk;clear hc hl hs hk;go_wp2_with fail
   go_ret2
   exact⟨HX0.out.trans iZ.out,.ok vT.out.symm HC.out HL.out HS.out cb k HK.out⟩
theorem Pb (c:Pc) (p:Pr) (N:Nat) (w:World) (hN:N<=w.heap.size) (h:lT w N c p) (hcap:J3 c) (hz:eT p<=1099511627776) (hf:TG p=true) (hc:check p=none) (hl:¬rT p):
 Calls prog 12 #[.agg c.cells] w λe w'=>e=.returned (.bool true)/\Ext w w':=by
 refine QY ?_;intro hx0 hB
 have hlb:vV p=false:=by
  cases h:vV p
  ·rfl
  ·exact absurd ((Gy p).1 h) hl
 go_enter func12,ntmps12;go_upto_region 1 with(fail);have iY:=J (h.ext hx0 hN);have dR:=J (Nat.le_trans hN hx0.size);have HCAP:=J hcap;have HZ:=J hz;have HF:=J hf;have HC:=J hc;have HLB:=J hlb;generalize hW:w.alloc (.cells c.cells 26)=W at hx0 hB iY dR⊢;have HX0:=J hx0;have HB:=J hB;clear hW hx0 hB h hN hcap hz hf hc hl hlb;generalize w.heap.size=pb at HB⊢;have i1:=bH HB.out;have i2:=bG HB.out;have i3:=HB.out.lt;go_wp2_with fail;refine(Gg c p N _ dR.out iY.out).mono ?_;rintro e w1 ⟨rfl,hx1⟩;rw [HF.out];have eH:=J hx1;clear hx1 i1 i2 i3;have i1:=bH (HB.out.ext eH.out);have i2:=bG (HB.out.ext eH.out);have i3:=(HB.out.ext eH.out).lt;go_wp2_with fail;refine(Px c p N _ (Nat.le_trans dR.out eH.out.size) (iY.out.ext eH.out dR.out) HCAP.out).mono ?_;rintro e w4 ⟨rfl,hx4⟩;have fZ:=J (eH.out.trans hx4);clear hx4 i1 i2 i3;rw [HC.out,show gU none=#[.int .i64 0,.string ⟨#[]⟩]from rfl];have i1:=bH (HB.out.ext fZ.out);have i2:=bG (HB.out.ext fZ.out);have i3:=(HB.out.ext fZ.out).lt;go_wp2_with fail;refine(UJ c p N _ (Nat.le_trans dR.out fZ.out.size) (iY.out.ext fZ.out dR.out) HZ.out).mono ?_;rintro e w5 ⟨rfl,hx5⟩;rw [HLB.out];have kg:=J (fZ.out.trans hx5);clear hx5 i1 i2 i3;go_wp2_with fail;go_ret;exact⟨rfl,HX0.out.trans kg.out⟩
def wM (p:Pr) (part:Nat) (V:List Int):List Int:=if part=0 then []else(List.range (jO p)).map (λi=>V.getD i 0)
def jH (v:Vr) (n:Int):Int:=v.low+(n%18446744073709551616)%(v.high - v.low+1)
def argN (p:Pr) (part:Nat) (A:List Int) (i:Nat):Int:=if part=2 then jH ((p.params[i]?).getD ⟨E0,0,0,0⟩) (A.getD i 0)else A.getD i 0
def uj (p:Pr) (part:Nat) (A:List Int):List Int:=(List.range (dZ p part)).map (argN p part A)
theorem wU {f:Nat->Int} (j:Nat):(List.range (j+1)).map f=(List.range j).map f++[f j]:=by rw [List.range_succ,List.map_append];rfl
theorem D5 (c:Pc) (p:Pr) (part:Nat) (hp:part<5) (vs ag:jg) (V A:List Int) (N:Nat) (w:World) (hN:N<=w.heap.size) (h:lT w N c p) (hv:j5 w N vs V) (ha:j5 w N ag A) (hk:tF p):
 Calls prog 14 #[.agg c.cells,.int .i64 part,vs.v,ag.v] w λe w'=>∃sv sa:jg,e=.returned (.tuple #[sv.v,sa.v])/\w'.ownsRow w.heap.size 21 1 sv.v sv.n (aM (wM p part V))/\w'.ownsRow w.heap.size 21 1 sa.v sa.n (aM (uj p part A))/\Ext w w':=by
 obtain⟨vA,vn,vc⟩:=vs;obtain⟨aA,an,ac⟩:=ag;change Calls prog _ #[.agg c.cells,.int .i64 part,.slice vA vn vc,.slice aA an ac] w _;obtain⟨kc,hkc⟩:∃kc,kc=jO p:=⟨_,rfl⟩;have agR:cells p.vars=(kc:Int):=by have:=dS p.vars;rw [hkc];unfold jO;omega
 have Rv:kc<=64:=by have:=hk.cells;omega
 have Bt:=J agR;have akb:=J hkc;have aaf:=J Rv;have HK:=J hk;have wE:=J hp;clear hkc agR Rv;obtain⟨nv,hnv⟩:∃nv,nv=if part=0 then 0 else kc:=⟨_,rfl⟩;have NS:=J hnv;have afY:=J (show nv<=kc by rw [hnv];split<;>omega);have HFV:=J (show wM p part V=(List.range nv).map (λi=>V.getD i 0)by unfold wM;rw [hnv,akb.out];split<;>rfl);clear hnv;refine QY ?_;intro hx0 hB;go_enter func14,ntmps14;go_upto_region 1 with(fail);have iY:=J (h.ext hx0 hN);have dR:=J (Nat.le_trans hN hx0.size);have HV:=J (hv.ext hx0);have HA:=J (ha.ext hx0);generalize hW:w.alloc (.cells c.cells 26)=W at hx0 hB iY dR HV HA⊢;have HX0:=J hx0;have HB:=J hB;clear hW hx0 hB h hN hv ha hk hp;generalize w.heap.size=pb at HB⊢;obtain⟨Fj,qH,vb,vo,J_,hvE⟩:=HV.out;obtain⟨han,hao,ab,ao,Io,Ip⟩:=HA.out;simp only at Fj J_ hvE han Io Ip;have xu:=J Fj;have Hy:=J J_;have Wy:=J hvE;have xq:=J han;have HAA:=J Io;have HAE:=J Ip;clear Fj qH J_ hvE han hao Io Ip;go_upto_region 3 with(fail)
 go_loopw [10,12] (λt10 t12 wr=>∃(j:Nat) (s:jg),j<=nv/\t12=.int .i64 j/\t10=s.v/\wr.ownsRow W.heap.size 21 1 s.v s.n (aM ((List.range j).map (λi=>V.getD i 0)))/\Ext W wr) (λ_ t12 _=>nv - (intOf t12).toNat)
 case atStart=>exact⟨0,⟨none,0,0⟩,Nat.zero_le _,rfl,rfl,⟨by simp [aM],.inl ⟨rfl,rfl⟩⟩,kR _ _⟩
 case round=>
  obtain⟨j,s,hj,rfl,rfl,ho,hk⟩:=hrel;have ZQ:=J ho;have oZ:=J hk;have HSN:=J (show s.n=j by have h:=ho.1;rw [dQ]at h;simp at h;omega);have HNJ:=J hj;clear ho hk;have i1:=bH (HB.out.ext oZ.out);have i2:=bG (HB.out.ext oZ.out);have i3:=(HB.out.ext oZ.out).lt;go_wp2_with fail;refine(oD c p N _ (Nat.le_trans dR.out oZ.out.size) (iY.out.ext oZ.out dR.out)).mono ?_;rintro e wc ⟨rfl,hyc⟩;have Ch:=J hyc;clear i1 i2 i3 hyc;rw [Bt.out];have Rv:=aaf.out;have ahf:=afY.out
  by_cases hlt:j<nv
  ·have hlk:(j:Int)<kc:=by omega
   have p0:((part:Int) !=0)=true:=bne_iff_ne.2 (λe=>by have h:=NS.out;rw [if_pos aj]at h;omega)
   by_cases hin:j<vn
   ·have Xz:(j:Int)<vn:=by omega
    have hjl:j<V.length:=by have:=xu.out;omega
    have yY:=Hy.out aj;have hr:=(Wy.out aj).2.ext (oZ.out.trans Ch.out);have hc:=Row.mem hr j hjl;have hcl:=hr.lt;have HXV:=J (show V.getD j 0=V[j]by simp [hjl]);generalize V[j]=x at hc HXV;clear hr;subst yY;go_upto_region 7 with(fail);go_upto_region 8 with(fail);have y1:=(kR (λ_=>False) wc).alloc (.cells #[.int .i32 x] 21);have pq:Row (wc.alloc (.cells #[.int .i32 x] 21)) wc.heap.size 0 (aM [x]):=Row.eZ (bN wc 21 #[.int .i32 x]);obtain⟨v',wa,hra,hoa,hka⟩:=FI _ W.heap.size s.v s.n _ (bD (bD ZQ.out Ch.out) y1) wc.heap.size 0 1 1 [x] rfl pq (by have:=HSN.out;omega) (Nat.le_trans oZ.out.size (Nat.le_trans Ch.out.size y1.size));exact aje
   ·have Xz:¬(j:Int)<vn:=by omega
    have HXV:=J (show V.getD j 0=0 by have:=xu.out;simp [show V.length<=j by omega]);go_upto_region 8 with(fail);have y1:=(kR (λ_=>False) wc).alloc (.cells #[.int .i32 0] 21);have pq:Row (wc.alloc (.cells #[.int .i32 0] 21)) wc.heap.size 0 (aM [0]):=Row.eZ (bN wc 21 #[.int .i32 0]);obtain⟨v',wa,hra,hoa,hka⟩:=FI _ W.heap.size s.v s.n _ (bD (bD ZQ.out Ch.out) y1) wc.heap.size 0 1 1 [0] rfl pq (by have:=HSN.out;omega) (Nat.le_trans oZ.out.size (Nat.le_trans Ch.out.size y1.size));exact aje
  ·obtain rfl:j=nv:=by omega
   have HOW:=J (show wc.ownsRow w.heap.size 21 1 s.v s.n (aM (wM p part V))from by rw [HFV.out];exact gZ (bD ZQ.out Ch.out) HX0.out.size);have NY:=J (oZ.out.trans Ch.out);clear hlt
   have hcase:((j:Int)<kc/\((part:Int) !=0)=false/\((part:Int)==2)=false/\((part:Int)==3)=false/\part=0)∨(¬(j:Int)<kc/\((part:Int) !=0)=false/\((part:Int)==2)=false/\((part:Int)==3)=false/\part=0)∨
    (¬(j:Int)<kc/\((part:Int)==2)=false/\((part:Int)==3)=false/\¬part=2/\¬part=3)∨(¬(j:Int)<kc/\((part:Int)==2)=false/\((part:Int)==3)=true/\part=3)∨(¬(j:Int)<kc/\((part:Int)==2)=true/\part=2):=by
    have h:=NS.out
    by_cases p0:part=0
    ·rw [if_pos p0]at h
     by_cases q:(j:Int)<kc
     ·exact Or.inl ⟨q,by simp [p0],by simp [p0],by simp [p0],p0⟩
     ·exact Or.inr (Or.inl ⟨q,by simp [p0],by simp [p0],by simp [p0],p0⟩)
    ·rw [if_neg p0]at h
     have q:¬(j:Int)<kc:=by omega
     by_cases p2:part=2
     ·exact Or.inr (Or.inr (Or.inr (Or.inr ⟨q,by simp [p2],p2⟩)))
     ·by_cases p3:part=3
      ·exact Or.inr (Or.inr (Or.inr (Or.inl ⟨q,by simp [p3],by simp [p3],p3⟩)))
      ·exact Or.inr (Or.inr (Or.inl ⟨q,by simp;omega,by simp;omega,p2,p3⟩))
   clear Rv ahf
   rcases hcase with⟨g1,g2,g3,g4,hp0⟩|⟨g1,g2,g3,g4,hp0⟩|⟨g1,g3,g4,hn2,hn3⟩|⟨g1,g3,g4,hp3⟩|⟨g1,g3,hp2⟩
   ·have HGV:=J (show dZ p part=0 by unfold dZ;rw [if_neg aj,if_neg aj])
    exact aiV
   ·have HGV:=J (show dZ p part=0 by unfold dZ;rw [if_neg aj,if_neg aj])
    exact aiV
   ·have HGV:=J (show dZ p part=0 by unfold dZ;rw [if_neg aj,if_neg aj])
    clear hn2 hn3;exact adj
   ·have HGV:=J (show dZ p part=1 by unfold dZ;rw [if_neg aj,if_pos aj])
    have HAG:=J (show∀i,argN p part A i=A.getD i 0 from λi=>by unfold argN;rw [if_neg aj]);clear hp3;go_wp2_with fail
    go_loopw [11,15] (λt11 YC wx=>∃(i:Nat) (q:jg),i<=1/\YC=.int .i64 i/\t11=q.v/\wx.ownsRow wc.heap.size 21 1 q.v q.n (aM ((List.range i).map (argN p part A)))/\Ext wc wx) (λ_ YC _=>1 - (intOf YC).toNat)
    case atStart=>exact⟨0,⟨none,0,0⟩,Nat.zero_le _,rfl,rfl,⟨by simp [aM],.inl ⟨rfl,rfl⟩⟩,kR _ _⟩
    case round=>
     obtain⟨i,q,hi,rfl,rfl,ho,hk⟩:=hrel;have E8:=J ho;have qg:=J hk;have HQN:=J (show q.n=i by have h:=ho.1;rw [dQ]at h;simp at h;omega);clear ho hk
     by_cases hli:i<1
     ·have aer:(i:Int)<1:=by omega
      by_cases hin:i<an
      ·have Xz:(i:Int)<an:=by omega
       have hjl:i<A.length:=by have:=xq.out;omega
       have yY:=HAA.out aj;have hr:=(HAE.out aj).2.ext (NY.out.trans qg.out);have hc:=Row.mem hr i hjl;have hcl:=hr.lt;have VQ:=J (show A.getD i 0=A[i]by simp [hjl]);generalize A[i]=x at hc VQ;clear hr;subst yY;have HXV:=J ((HAG.out i).trans VQ.out);go_upto_region 23 with(fail);have y1:=(kR (λ_=>False) wr).alloc (.cells #[.int .i32 x] 21);have pq:Row (wr.alloc (.cells #[.int .i32 x] 21)) wr.heap.size 0 (aM [x]):=Row.eZ (bN wr 21 #[.int .i32 x]);obtain⟨v',wa,hra,hoa,hka⟩:=FI _ wc.heap.size q.v q.n _ (bD E8.out y1) wr.heap.size 0 1 1 [x] rfl pq YT (Nat.le_trans qg.out.size y1.size);exact ajh
      ·have Xz:¬(i:Int)<an:=by omega
       have VQ:=J (show A.getD i 0=0 by have:=xq.out;simp [show A.length<=i by omega]);have HXV:=J ((HAG.out i).trans VQ.out);go_upto_region 23 with(fail);have y1:=(kR (λ_=>False) wr).alloc (.cells #[.int .i32 0] 21);have pq:Row (wr.alloc (.cells #[.int .i32 0] 21)) wr.heap.size 0 (aM [0]):=Row.eZ (bN wr 21 #[.int .i32 0]);obtain⟨v',wa,hra,hoa,hka⟩:=FI _ wc.heap.size q.v q.n _ (bD E8.out y1) wr.heap.size 0 1 1 [0] rfl pq YT (Nat.le_trans qg.out.size y1.size);exact ajh
     ·obtain rfl:i=1:=by omega
      exact afF
   ·have HGV:=J (show dZ p part=p.params.length by unfold dZ;rw [if_pos aj])
    have HAG:=J (show∀i,argN p part A i=jH ((p.params[i]?).getD ⟨E0,0,0,0⟩) (A.getD i 0)from λi=>by unfold argN;rw [if_pos hp2]);clear hp2;have i1:=bC (HB.out.ext NY.out);have i2:=(HB.out.ext NY.out).lt;go_wp2_with fail;clear i1 i2
    go_loopw [11,15] (λt11 YC wx=>∃(i:Nat) (q:jg),i<=c.params.n/\YC=.int .i64 i/\t11=q.v/\wx.ownsRow wc.heap.size 21 1 q.v q.n (aM ((List.range i).map (argN p part A)))/\Ext wc wx) (λ_ YC _=>c.params.n - (intOf YC).toNat)
    case atStart=>exact⟨0,⟨none,0,0⟩,Nat.zero_le _,rfl,rfl,⟨by simp [aM],.inl ⟨rfl,rfl⟩⟩,kR _ _⟩
    case round=>
     obtain⟨i,q,hi,rfl,rfl,ho,hk⟩:=hrel;have E8:=J ho;have qg:=J hk;have HQN:=J (show q.n=i by have h:=ho.1;rw [dQ]at h;simp at h;omega);clear ho hk;have Ca:=J iY.out.params.1;have amv:c.params.n<=4:=by have:=Ca.out;have:=HK.out.np;omega
     by_cases hli:i<c.params.n
     ·have aer:(i:Int)<c.params.n:=by omega
      have hil:i<p.params.length:=by have:=Ca.out;omega
      obtain⟨-,-,-,qb,qo,JZ,OM⟩:=iY.out.params;have hA:=JZ aj;have hrow:=(OM aj).2.ext (NY.out.trans qg.out);obtain⟨hh,hg⟩:=mZ hrow i hil;have HVI:=J (show(p.params[i]?).getD ⟨E0,0,0,0⟩=p.params[i]by simp [hil]);have HVR:=J ((Ef (fB p.vars) p.params [] HK.out.aaY).1 p.params[i] (List.getElem_mem hil));generalize p.params[i]=v at hg HVI HVR;have HLO:=J (show wr.cell? ⟨qb,qo+i*4+2,none⟩=some (.int .i64 v.low)from iP hh hg 2 aj);have HHI:=J (show wr.cell? ⟨qb,qo+i*4+3,none⟩=some (.int .i64 v.high)from iP hh hg 3 aj);have HQL:=J hrow.lt;have HA6:=J (show wr.cell? ⟨pb,6,none⟩=some (.slice (some ⟨qb,qo,none⟩) c.params.n c.params.c)from by rw [<-hA];exact bC (HB.out.ext (NY.out.trans qg.out)) 6);clear JZ OM hA hrow hh hg
      by_cases hin:i<an
      ·have Xz:(i:Int)<an:=by omega
       have hjl:i<A.length:=by have:=xq.out;omega
       have yY:=HAA.out aj;have hr:=(HAE.out aj).2.ext (NY.out.trans qg.out);have hc:=Row.mem hr i hjl;have hcl:=hr.lt;have VQ:=J (show A.getD i 0=A[i]by simp [hjl]);generalize A[i]=x at hc VQ;clear hr;subst yY;have HXV:=J ((HAG.out i).trans (show jH ((p.params[i]?).getD ⟨E0,0,0,0⟩) (A.getD i 0)=jH v x by rw [VQ.out,HVI.out]));have d1:=HA6.out;have d2:=HLO.out;have d3:=HHI.out;have d4:=HQL.out;have d5:=(HB.out.ext (NY.out.trans qg.out)).lt;go_upto_region 21 with(fail)
       go_quiet (fail)
       clear d1 d2 d3 d4 d5;have HOQ:=J (bD E8.out (show Ext wr (wr.drewN nq)from(kR _ wr).drewN nq));have Hu:=J (Kept.drewN qg.out nq);generalize (wr.drewN nq)=wq at HOQ Hu⊢;have hvr:=HVR.out.2.2;unfold au at hvr;have hd1:wrap64 (v.high - v.low)=v.high - v.low:=by unfold wrap64;omega
       have hd2:wrap64 (v.high - v.low+1)=v.high - v.low+1:=by unfold wrap64;omega
       have hd3:IntKind.u64.wrap (v.high - v.low+1)=v.high - v.low+1:=by rw [yN];omega
       have hne:¬(v.high - v.low+1=0):=by omega
       have hval:wrap32 (wrap64 (v.low+wrap64 ((IntKind.u64.wrap x).tmod (v.high - v.low+1))))=jH v x:=by
        rw [yN,Int.tmod_eq_emod_of_nonneg aj];unfold jH;have h1:=Int.emod_nonneg (x%18446744073709551616) hne;have h2:=Int.emod_lt_of_pos (x%18446744073709551616) (show 0<v.high - v.low+1 by omega);generalize x%18446744073709551616%(v.high - v.low+1)=y at h1 h2;unfold wrap32 wrap64
        omega
       clear hvr;go_upto_region 23 with(fail);rw [hval];clear hd1 hd2 hd3 hne hval;have y1:=(kR (λ_=>False) wq).alloc (.cells #[.int .i32 (jH v x)] 21);have pq:Row (wq.alloc (.cells #[.int .i32 (jH v x)] 21)) wq.heap.size 0 (aM [(jH v x)]):=Row.eZ (bN wq 21 #[.int .i32 (jH v x)]);obtain⟨v',wa,hra,hoa,hka⟩:=FI _ wc.heap.size q.v q.n _ (bD HOQ.out y1) wq.heap.size 0 1 1 [(jH v x)] rfl pq YT (Nat.le_trans Hu.out.size y1.size);exact ajg
      ·have Xz:¬(i:Int)<an:=by omega
       have VQ:=J (show A.getD i 0=0 by have:=xq.out;simp [show A.length<=i by omega]);have HXV:=J ((HAG.out i).trans (show jH ((p.params[i]?).getD ⟨E0,0,0,0⟩) (A.getD i 0)=v.low by rw [VQ.out,HVI.out];unfold jH;simp));have d1:=HA6.out;have d2:=HLO.out;have d3:=HHI.out;have d4:=HQL.out;have d5:=(HB.out.ext (NY.out.trans qg.out)).lt;go_upto_region 21 with(fail)
       go_quiet (fail)
       clear d1 d2 d3 d4 d5;have HOQ:=J (bD E8.out (show Ext wr (wr.drewN nq)from(kR _ wr).drewN nq));have Hu:=J (Kept.drewN qg.out nq);generalize (wr.drewN nq)=wq at HOQ Hu⊢;have hvr:=HVR.out.2.2;unfold au at hvr;have hd1:wrap64 (v.high - v.low)=v.high - v.low:=by unfold wrap64;omega
       have hd2:wrap64 (v.high - v.low+1)=v.high - v.low+1:=by unfold wrap64;omega
       have hd3:IntKind.u64.wrap (v.high - v.low+1)=v.high - v.low+1:=by rw [yN];omega
       have hne:¬(v.high - v.low+1=0):=by omega
       have hl1:wrap64 v.low=v.low:=by unfold wrap64;omega
       have hl2:wrap32 v.low=v.low:=by unfold wrap32;omega
       clear hvr;go_upto_region 23 with(fail);rw [hl2];clear hd1 hd2 hd3 hne hl1 hl2;have y1:=(kR (λ_=>False) wq).alloc (.cells #[.int .i32 v.low] 21);have pq:Row (wq.alloc (.cells #[.int .i32 v.low] 21)) wq.heap.size 0 (aM [v.low]):=Row.eZ (bN wq 21 #[.int .i32 v.low]);obtain⟨v',wa,hra,hoa,hka⟩:=FI _ wc.heap.size q.v q.n _ (bD HOQ.out y1) wq.heap.size 0 1 1 [v.low] rfl pq YT (Nat.le_trans Hu.out.size y1.size);exact ajg
     ·obtain rfl:i=c.params.n:=by omega
      have HGV:=J (show dZ p part=c.params.n by rw [HGV.out,Ca.out]);exact afF
open Go.RowKit So Mc
def SX (P:Int->Str->Int->Prop):SF->Prop
 | .nil=>True
 | .cons kind name _ low _ l x r=>P kind name low/\(kind=2∨kind=3->SX P l)/\(kind=2->SX P x)/\SX P r
theorem Eo (Q:RS->Prop) (g:Int->RS->RS) (hg:∀i R,Q R->Q (g i R)):∀(n:Nat) (i:Int) (R:RS),Q R->Q (f_ g n i R)
 |0,_,_,h=>h
 |n+1,i,R,h=>by
  rw [f_]
  split
  ·exact h
  ·exact Eo Q g hg n (i+1) _ (hg i R h)
theorem yg (P:Int->Str->Int->Prop) (Q:RS->Prop) (V:List Vr) (seats:Int) (h0:∀kind name e low R,P kind name low->Q R->Q (Al V seats kind name e low R)) (hb:∀R B,Q R->Q {R with binds:=B}):∀(F:SF) (R:RS),SX P F->Q R->Q (oL V seats F R)
 | .nil,R,_,h=>by rw [oL];exact h
 | .cons kind name e low high l x r,R,hk,h=>by
  obtain⟨k1,k2,k3,k4⟩:=hk;rw [ko]
  split
  ·exact h
  ·refine yg P Q V seats h0 hb r _ k4 ?_
   unfold doS
   split
   ·rename_i e2
    split
    ·exact yg P Q V seats h0 hb l R (k2 (Or.inl e2)) h
    ·exact yg P Q V seats h0 hb x R (k3 e2) h
   ·split
    ·rename_i e3
     exact hb _ _ (Eo Q _ (λi R' hR=>yg P Q V seats h0 hb l _ (k2 (Or.inr e3)) (hb _ _ hR)) _ _ R h)
    ·exact h0 _ _ _ _ _ k1 h
end Go.Proofs.YtbfbabbcdochjaaGreatDoor
