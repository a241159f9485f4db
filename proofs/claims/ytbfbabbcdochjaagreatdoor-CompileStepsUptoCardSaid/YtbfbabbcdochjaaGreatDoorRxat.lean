/- Several texts joined: Ce, Cb. -/
import Derived.Test.YtbfbabbcdochjaaGreatDoorRxpk
import Derived.Test.YtbfbabbcdochjaaGreatDoorRxas
set_option maxHeartbeats 4000000
namespace Go.Proofs.YtbfbabbcdochjaaGreatDoor.So
open Go.RowKit Mc
/-! ### steps -/
theorem itI_one (c:List Ins) (pc:Int) (m:List Int):itI c 1 (pc,0,m)=stepI c pc m:=rfl
def okC (c:List Ins) (k:Nat):Prop:=∀ i ∈ c,rightI i c.length k=true
def Seg (c:List Ins) (pc:Int) (l:List Ins):Prop:=0≤pc∧∀ j:Nat,j < l.length→c[pc.toNat+j]?=l[j]?
theorem Seg.left {c:List Ins} {pc:Int} {a b:List Ins} (h:Seg c pc (a ++ b)):Seg c pc a :=
 ⟨h.1,fun j hj=>by rw [h.2 j (by rw [List.length_append];omega),List.getElem?_append_left hj]⟩
theorem Seg.right {c:List Ins} {pc:Int} {a b:List Ins} (h:Seg c pc (a ++ b)):Seg c (pc+a.length) b :=
 ⟨by have:=h.1;omega,fun j hj=>by
  have h1:=h.1
  have:=h.2 (a.length+j) (by rw [List.length_append];omega)
  rw [List.getElem?_append_right zb85] at this
  rw [show (pc+a.length).toNat+j=pc.toNat+(a.length+j) by omega,this]
  congr 1
  omega⟩
theorem Seg.head {c:List Ins} {pc:Int} {i:Ins} {l:List Ins} (h:Seg c pc (i :: l)):c[pc.toNat]?=some i:=by
 have:=h.2 0 zb86
 simpa using this
theorem Seg.tail {c:List Ins} {pc:Int} {i:Ins} {l:List Ins} (h:Seg c pc (i :: l)):Seg c (pc+1) l:=by
 have:=Seg.right (a:=[i]) (b:=l) h
 simpa using this
theorem step_at {c:List Ins} {pc:Int} {m:List Int} {i:Ins} (hi:c[pc.toNat]?=some i) (hok:okC c m.length) (hl:lost i m=false):itI c 1 (pc,0,m)=execI i pc m:=by
 rw [itI_one]
 unfold stepI nextI
 rw [hi]
 have:=hok i (List.mem_of_getElem? hi)
 simp [this,hl]
theorem step_lost {i:Ins} (m:List Int) (h15:¬ i.op=15) (h16:¬ i.op=16):lost i m=false:=by simp [lost,h15,h16]
theorem mget_put {m:List Int} {i j:Int} (v:Int) (hi:0≤i) (hj:0≤j) (h:i < m.length):mget (mput m i v) j=if j=i then v else mget m j:=by
 unfold mget mput
 rw [List.getD_eq_getElem?_getD,List.getElem?_set]
 by_cases e:j=i
 ·subst e
  rw [if_pos rfl,if_pos rfl,if_pos zb85]
  rfl
 ·rw [if_neg e,if_neg zb85,List.getD_eq_getElem?_getD]
theorem mput_len (m:List Int) (i v:Int):(mput m i v).length=m.length:=by simp [mput]
theorem mput_ok {m:List Int} {i v:Int} (hm:∀ x ∈ m,i32ok x) (hv:i32ok v):∀ x ∈ mput m i v,i32ok x:=fun x hx=>by
 rcases List.mem_or_eq_of_mem_set hx with h | h
 ·exact hm x h
 ·rw [h];exact hv
theorem mget_ok {m:List Int} (hm:∀ x ∈ m,i32ok x) (i:Int):i32ok (mget m i):=by
 unfold mget
 rw [List.getD_eq_getElem?_getD]
 rcases Nat.lt_or_ge i.toNat m.length with h | h
 ·rw [List.getElem?_eq_getElem h];exact hm _ (List.getElem_mem h)
 ·rw [List.getElem?_eq_none h];unfold i32ok;simp
theorem w32_ok (x:Int):i32ok (w32 x):=by unfold i32ok;simp only [w32_def];omega
theorem w32_id {x:Int} (h:i32ok x):w32 x=x:=by unfold i32ok at h;simp only [w32_def];omega
theorem truth_ok (b:Bool):i32ok (truthI b):=by unfold truthI i32ok;split <;> omega
theorem tmod_ok {a:Int} (b:Int) (ha:i32ok a):i32ok (a.tmod b):=by
 unfold i32ok at *
 have h2:=Int.natAbs_tmod a b
 have h3:(a.tmod b).natAbs≤a.natAbs:=by rw [h2];exact Nat.mod_le _ _
 rcases Int.le_total 0 a with h | h
 ·have:=Int.tmod_nonneg b h
  omega
 ·have h4:=Int.tmod_nonneg (a:=-a) b zb85
  rw [Int.neg_tmod] at h4
  omega
theorem twoI_ok (k:Nat) {a b:Int} (ha:i32ok a):i32ok (twoI k a b):=by
 unfold twoI
 split <;> first | exact w32_ok _ | exact truth_ok _ | skip
 ·split
  ·unfold i32ok;omega
  ·exact w32_ok _
 ·split
  ·unfold i32ok;omega
  ·exact tmod_ok _ ha
structure Same (m m':List Int) (lo hi:Int):Prop where
 len:m'.length=m.length
 ok:(∀ x ∈ m,i32ok x)→∀ x ∈ m',i32ok x
 out:∀ i,0≤i→(i < lo ∨ hi≤i)→mget m' i=mget m i
theorem Same.refl (m:List Int) (lo hi:Int):Same m m lo hi:=⟨rfl,fun h=>h,fun _ _ _=>rfl⟩
theorem Same.trans {a b c:List Int} {lo hi:Int} (h:Same a b lo hi) (h':Same b c lo hi):Same a c lo hi :=
 ⟨h'.len.trans h.len,fun q=>h'.ok (h.ok q),fun i h0 q=>(h'.out i h0 q).trans (h.out i h0 q)⟩
theorem Same.mono {a b:List Int} {lo hi lo' hi':Int} (h:Same a b lo hi) (h1:lo'≤lo) (h2:hi≤hi'):Same a b lo' hi' :=
 ⟨h.len,h.ok,fun i h0 q=>h.out i h0 zb85⟩
theorem Same.put {m:List Int} {lo hi i v:Int} (h0:0≤i) (h1:lo≤i) (h2:i < hi) (h3:i < m.length) (hv:i32ok v):Same m (mput m i v) lo hi :=
 ⟨mput_len _ _ _,fun q=>mput_ok q hv,fun j hj q=>by rw [mget_put v h0 hj h3,if_neg zb85]⟩
structure EInv (k:Mk) (κ:Kn) (W:Wd) (R:RS) (m:List Int):Prop where
 b0:0≤k.b
 len:(m.length:Int)=k.b+49
 ok:∀ x ∈ m,i32ok x
 plain:∀ s,κ s ≠ 0∧κ s ≠ 2→0≤W s∧W s < k.b+33∧mget m (W s)=nameV k.V R s
 list:∀ s,κ s=2→0≤W s∧0 < (cellX k.V s).size∧W s+(cellX k.V s).size≤k.b∧∀ i,0≤i→i < (cellX k.V s).size→mget m (W s+i)=R.vars.getD (cellN k.V s+i).toNat 0
theorem EInv.same {k:Mk} {κ:Kn} {W:Wd} {R:RS} {m m':List Int} {hi:Int} (h:EInv k κ W R m) {lo:Int} (hs:Same m m' lo hi) (hlo:k.b+33≤lo):EInv k κ W R m' :=
 ⟨h.b0,by rw [hs.len];exact h.len,hs.ok h.ok,fun s q=>by
  obtain ⟨h1,h2,h3⟩:=h.plain s q
  exact ⟨h1,h2,by rw [hs.out _ h1 zb85];exact h3⟩,fun s q=>by
  obtain ⟨h1,h2,h3,h4⟩:=h.list s q
  exact ⟨h1,h2,h3,fun i hi0 hi1=>by rw [hs.out _ zb85 zb85];exact h4 i hi0 hi1⟩⟩
def dp:EF→Nat | .nil=>0 | .cons _ _ _ k r=>max (1+dp k) (dp r)
def dpN:EF→Nat→Nat | .nil,_=>0 | .cons _ _ _ _ r,j+1=>dpN r j | .cons _ _ _ k _,0=>1+dp k
theorem dpN_le:∀ (F:EF) (j:Nat),dpN F j≤dp F
 | .nil,_=>Nat.le_refl _
 | .cons _ _ _ k r,j+1=>by have:=dpN_le r j;simp only [dpN,dp];omega
 | .cons _ _ _ k r,0=>by simp only [dpN,dp];omega
theorem dpN_pos:∀ (F:EF) (j:Nat),j < F.len→1≤dpN F j
 | .nil,_,h=>by simp [EF.len] at h
 | .cons _ _ _ k r,j+1,h=>dpN_pos r j (by simpa [EF.len] using h)
 | .cons _ _ _ k r,0,_=>by simp only [dpN];omega
theorem join_two {op a b:Int} (ha:i32ok a) (_hb:i32ok b) (h:5≤op∧op≤17):(if op=14 ∨ op=15 then twoI (twoOp op).toNat b a else twoI (twoOp op).toNat a b)=join op a b:=by
 have h13:op=5 ∨ op=6 ∨ op=7 ∨ op=8 ∨ op=9 ∨ op=10 ∨ op=11 ∨ op=12 ∨ op=13 ∨ op=14 ∨ op=15 ∨ op=16 ∨ op=17:=by omega
 rcases h13 with rfl | rfl | rfl | rfl | rfl | rfl | rfl | rfl | rfl | rfl | rfl | rfl | rfl <;> simp [twoOp,join,twoI,divR]
 ·split
  ·rfl
  rename_i hb0
  have h1:=Int.mul_tdiv_add_tmod a b
  have h2:=tmod_ok b ha
  unfold i32ok at ha h2
  have e:a - w32 (a.tdiv b) * b=a.tmod b+(a.tdiv b - w32 (a.tdiv b)) * b:=by
   rw [Int.sub_mul,Int.mul_comm (a.tdiv b) b];omega
  rw [e]
  have hq:∃ q,a.tdiv b - w32 (a.tdiv b)=4294967296 * q:=⟨(a.tdiv b+2147483648) / 4294967296,by simp only [w32_def];omega⟩
  obtain ⟨q,hq⟩:=hq
  rw [hq,Int.mul_assoc]
  simp only [w32_def]
  omega
/-! ### one instruction, then the rest -/
theorem seq_cons {c:List Ins} {pc:Int} {m m1:List Int} {i:Ins} {l:List Ins} {t:Int × Int × List Int} (hs:Seg c pc (i :: l)) (hok:okC c m.length) (hl:lost i m=false) (he:execI i pc m=(pc+1,0,m1)) (h:itI c l.length (pc+1,0,m1)=t):itI c (i :: l).length (pc,0,m)=t:=by
 rw [List.length_cons,Nat.add_comm,itI_add,step_at hs.head hok hl,he]
 exact h
theorem seq_app {c:List Ins} {pc:Int} {m m1:List Int} {a b:List Ins} {t:Int × Int × List Int} (ha:itI c a.length (pc,0,m)=(pc+a.length,0,m1)) (h:itI c b.length (pc+a.length,0,m1)=t):itI c (a ++ b).length (pc,0,m)=t:=by
 rw [List.length_append,itI_add,ha]
 exact h
theorem ex1 (a b x pc:Int) (m:List Int):execI ⟨1,a,b,x⟩ pc m=(pc+1,0,mput m a b):=rfl
theorem ex2 (a b x pc:Int) (m:List Int):execI ⟨2,a,b,x⟩ pc m=(pc+1,0,mput m a (mget m b)):=rfl
theorem ex14 (a b x pc:Int) (m:List Int):execI ⟨14,a,b,x⟩ pc m=(pc+1,0,mput m a (truthI (mget m b == 0))):=rfl
theorem ex15 (a b x pc:Int) (m:List Int):execI ⟨15,a,b,x⟩ pc m=(pc+1,0,mput m a (mget m (farI ⟨15,a,b,x⟩ m))):=rfl
theorem ex16 (a b x pc:Int) (m:List Int):execI ⟨16,a,b,x⟩ pc m=(pc+1,0,mput m (farI ⟨16,a,b,x⟩ m) (mget m x)):=rfl
theorem ex17 (a b x pc:Int) (m:List Int):execI ⟨17,a,b,x⟩ pc m=(pc+1,0,mput m a (min (max (mget m a) b) x)):=rfl
theorem ex18 (a b x pc:Int) (m:List Int):execI ⟨18,a,b,x⟩ pc m=(pc+1,0,mput m a (truthI (decide (0≤mget m b) && decide (mget m b < x)))):=rfl
theorem ex20 (a b x pc:Int) (m:List Int):execI ⟨20,a,b,x⟩ pc m=(if mget m b=0 then a else pc+1,0,m):=rfl
theorem ex21 (a b x pc:Int) (m:List Int):execI ⟨21,a,b,x⟩ pc m=(if mget m b=0 then pc+1 else a,0,m):=rfl
theorem ex3 {op:Int} (h:3≤op∧op≤13) (a b x pc:Int) (m:List Int):execI ⟨op,a,b,x⟩ pc m=(pc+1,0,mput m a (twoI op.toNat (mget m b) (mget m x))):=by
 unfold execI
 simp only
 rw [if_neg zb85,if_neg zb85,if_neg zb85,if_neg zb85,if_neg zb85,if_neg zb85,if_neg zb85,if_neg zb85,if_neg zb85,if_neg zb85,if_neg zb85]
theorem far15 {a b x:Int} {m:List Int} (h:0≤b+mget m x) (h':b+mget m x < m.length):farI ⟨15,a,b,x⟩ m=b+mget m x∧lost ⟨15,a,b,x⟩ m=false:=by
 have e:farI ⟨15,a,b,x⟩ m=b+mget m x:=by
  unfold farI placeI
  simp only [if_true]
  change (if 0≤b+mget m x∧b+mget m x < m.length then b+mget m x else -1)=_
  rw [if_pos ⟨h,h'⟩]
 refine ⟨e,?_⟩
 unfold lost
 rw [e]
 simp
 omega
theorem far16 {a b x:Int} {m:List Int} (h:0≤a+mget m b) (h':a+mget m b < m.length):farI ⟨16,a,b,x⟩ m=a+mget m b∧lost ⟨16,a,b,x⟩ m=false:=by
 have e:farI ⟨16,a,b,x⟩ m=a+mget m b:=by
  unfold farI placeI
  simp only [if_true]
  change (if (16:Int)=15 then _ else if 0≤a+mget m b∧a+mget m b < m.length then a+mget m b else -1)=_
  rw [if_neg zb84,if_pos ⟨h,h'⟩]
 refine ⟨e,?_⟩
 unfold lost
 rw [e]
 simp
 omega
theorem twoOp_bd {op:Int} (h:5≤op∧op≤17):3≤twoOp op∧twoOp op≤13:=by
 have h13:op=5 ∨ op=6 ∨ op=7 ∨ op=8 ∨ op=9 ∨ op=10 ∨ op=11 ∨ op=12 ∨ op=13 ∨ op=14 ∨ op=15 ∨ op=16 ∨ op=17:=by omega
 rcases h13 with rfl | rfl | rfl | rfl | rfl | rfl | rfl | rfl | rfl | rfl | rfl | rfl | rfl <;> decide
abbrev two1 (b tw op:Int):Ins:=⟨twoOp op,fr b tw,fr b tw,fr b (tw+1)⟩
theorem sim_two {c:List Ins} {b tw pc op:Int} {m m1 m2:List Int} {A B:List Ins} {x y:Int} (h0:0≤tw) (hb0:0≤b) (hto:tw+1 < 16) (hlen:(m.length:Int)=b+49)
 (hop:5≤op∧op≤17) (hs:Seg c pc (A ++ B ++ [two1 b tw op])) (hok:okC c m.length) (hm:∀ z ∈ m,i32ok z)
 (hA:itI c A.length (pc,0,m)=(pc+A.length,0,m1)) (sA:Same m m1 (fr b tw) (fr b 16)) (vA:mget m1 (fr b tw)=x)
 (hB:itI c B.length (pc+A.length,0,m1)=(pc+A.length+B.length,0,m2)) (sB:Same m1 m2 (fr b (tw+1)) (fr b 16)) (vB:mget m2 (fr b (tw+1))=y) :
 ∃ m',itI c (A ++ B ++ [two1 b tw op]).length (pc,0,m)=(pc+(A ++ B ++ [two1 b tw op]).length,0,m')∧Same m m' (fr b tw) (fr b 16)∧mget m' (fr b tw)=twoI (twoOp op).toNat x y:=by
 have hx:mget m2 (fr b tw)=x:=by rw [sB.out _ zb80 zb80];exact vA
 have hok2:okC c m2.length:=by rw [sB.len,sA.len];exact hok
 refine ⟨mput m2 (fr b tw) (twoI (twoOp op).toNat x y),?_,?_,?_⟩
 ·rw [show pc+((A ++ B ++ [two1 b tw op]).length:Int)=pc+A.length+B.length+1 by simp only [List.length_append,List.length_cons,List.length_nil];omega]
  rw [List.append_assoc]
  rw [List.append_assoc] at hs
  refine seq_app hA (seq_app hB (seq_cons hs.right.right hok2 (step_lost _ (by have:=twoOp_bd hop;simp;omega) (by have:=twoOp_bd hop;simp;omega)) ?_ rfl))
  rw [show two1 b tw op=⟨twoOp op,fr b tw,fr b tw,fr b (tw+1)⟩ from rfl,ex3 (twoOp_bd hop),hx,vB]
 ·refine (sA.trans (sB.mono zb80 (Int.le_refl _))).trans (Same.put zb80 (Int.le_refl _) zb80 (by rw [sB.len,sA.len];unfold fr;omega) (twoI_ok _ ?_))
  rw [← hx]
  exact mget_ok (sB.ok (sA.ok hm)) _
 ·rw [mget_put _ zb80 zb80 (by rw [sB.len,sA.len];unfold fr;omega),if_pos rfl]
theorem simE {c:List Ins} {k:Mk} {κ:Kn} {W:Wd} {R:RS}:∀ (F:EF) (j:Nat) (tw pc:Int) (m:List Int),j < F.len→chkE κ F=none→0≤tw→tw+dpN F j≤16→Seg c pc (cE k W F j tw)→okC c m.length→EInv k κ W R m →
 ∃ m',itI c (cE k W F j tw).length (pc,0,m)=(pc+(cE k W F j tw).length,0,m')∧Same m m' (fr k.b tw) (fr k.b 16)∧mget m' (fr k.b tw)=ev k.V R F j
 | .nil,j,_,_,_,hj,_,_,_,_,_,_=>by simp [EF.len] at hj
 | .cons _ _ _ _ r,j+1,tw,pc,m,hj,hc,h0,hd,hs,hok,hI=>by
  rw [chkE,ored_eq_none,ored_eq_none] at hc
  exact simE r j tw pc m (by simpa [EF.len] using hj) hc.2 h0 hd hs hok hI
 | .cons op n name kids r,0,tw,pc,m,_,hc,h0,hd,hs,hok,hI=>by
  rw [chkE,ored_eq_none,ored_eq_none] at hc
  obtain ⟨⟨hh,hk⟩,-⟩:=hc
  unfold head1 at hh
  rw [ored_eq_none,must_none,Bool.and_eq_true] at hh
  obtain ⟨⟨hop,hlen⟩,hh⟩:=hh
  have hop':0≤op∧op≤17:=by simpa [btw] using hop
  have hlen':kids.len=exprParts op:=by simpa using hlen
  have hL:=hI.len
  have hb0:=hI.b0
  simp only [dpN] at hd
  rw [cE] at hs ⊢
  rw [ev]
  by_cases o0:op=0
  ·subst o0
   simp only [if_true] at hs hh ⊢
   rw [must_none] at hh
   have hw:i32ok n:=by simpa [word,i32ok] using hh
   refine ⟨mput m (fr k.b tw) n,seq_cons hs hok (step_lost _ zb86 zb86) (ex1 _ _ _ _ _) rfl,Same.put zb80 (Int.le_refl _) zb80 zb80 hw,?_⟩
   rw [mget_put _ zb80 zb80 zb80,if_pos rfl,w32_id hw]
  rw [if_neg o0] at hs hh ⊢
  rw [if_neg o0]
  by_cases o1:op=1
  ·subst o1
   simp only [if_true,true_or] at hs hh ⊢
   rw [ored_eq_none,must_none,must_none] at hh
   have hp:κ name ≠ 0∧κ name ≠ 2:=by simpa using hh
   obtain ⟨p1,p2,p3⟩:=hI.plain name hp
   refine ⟨mput m (fr k.b tw) (mget m (W name)),seq_cons hs hok (step_lost _ zb86 zb86) (ex2 _ _ _ _ _) rfl,Same.put zb80 (Int.le_refl _) zb80 zb80 (mget_ok hI.ok _),?_⟩
   rw [mget_put _ zb80 zb80 zb80,if_pos rfl,p3]
  rw [if_neg o1] at hs ⊢
  rw [if_neg o1]
  have hkd:∀ i,dpN kids i≤dp kids:=dpN_le kids
  have hkp:=dpN_pos kids 0
  by_cases o2:op=2
  ·subst o2
   simp only [if_true,or_true] at hs hh ⊢
   rw [ored_eq_none,must_none,must_none] at hh
   have hp:κ name=2:=by simpa using hh.2
   obtain ⟨l1,l2,l3,l4⟩:=hI.list name hp
   have h1:0 < kids.len:=by rw [hlen'];decide
   have hto:tw+1 < 16:=by have:=hkp h1;have:=hkd 0;omega
   obtain ⟨m1,r1,s1,v1⟩:=simE kids 0 tw pc m h1 hk h0 zb75 hs.left hok hI
   obtain ⟨x,hx⟩:∃ x,x=ev k.V R kids 0:=⟨_,rfl⟩
   rw [← hx] at v1 ⊢
   have hxok:i32ok x:=by rw [← v1];exact mget_ok (s1.ok hI.ok) _
   have hI1:=hI.same s1 zb80
   obtain ⟨-,-,-,l4'⟩:=hI1.list name hp
   have hm1:=s1.len
   obtain ⟨t,ht⟩:∃ t,t=truthI (decide (0≤x) && decide (x < (cellX k.V name).size)):=⟨_,rfl⟩
   have htok:i32ok t:=by rw [ht];exact truth_ok _
   -- the four instructions behind the place
   obtain ⟨m2,e2⟩:∃ m2,m2=mput m1 (fr k.b (tw+1)) t:=⟨_,rfl⟩
   have s2:Same m1 m2 (fr k.b tw) (fr k.b 16):=by rw [e2];exact Same.put zb80 zb80 zb80 zb80 htok
   have g2:mget m2 (fr k.b tw)=x∧mget m2 (fr k.b (tw+1))=t:=by
    exact zz75
   obtain ⟨y,hy⟩:∃ y,y=w32 (x * t):=⟨_,rfl⟩
   have hyv:y=if 0≤x∧x < (cellX k.V name).size then x else 0:=by
    rw [hy,ht]
    by_cases q:0≤x∧x < (cellX k.V name).size
    ·rw [if_pos q]
     simp [truthI,q.1,q.2]
     exact w32_id hxok
    ·rw [if_neg q]
     have:(decide (0≤x) && decide (x < (cellX k.V name).size))=false:=by
      rw [Bool.and_eq_false_iff];simp;omega
     rw [this]
     simp [truthI,w32_def]
   have hyb:0≤y∧y < (cellX k.V name).size:=by rw [hyv];split <;> omega
   obtain ⟨m3,e3⟩:∃ m3,m3=mput m2 (fr k.b tw) y:=⟨_,rfl⟩
   have hm2:=s2.len
   have s3:Same m2 m3 (fr k.b tw) (fr k.b 16):=by rw [e3];exact Same.put zb80 zb80 zb80 zb80 (by rw [hy];exact w32_ok _)
   have g3:mget m3 (fr k.b tw)=y∧mget m3 (fr k.b (tw+1))=t:=by
    rw [e3,mget_put _ zb80 zb80 zb80,if_pos rfl,mget_put _ zb80 zb80 zb80,if_neg zb80,g2.2]
    exact ⟨rfl,rfl⟩
   have hm3:=s3.len
   have hv3:mget m3 (W name+y)=R.vars.getD (cellN k.V name+y).toNat 0:=by
    rw [s3.out _ zb85 zb80,s2.out _ zb85 zb80]
    exact l4' y hyb.1 hyb.2
   obtain ⟨z,hz⟩:∃ z,z=R.vars.getD (cellN k.V name+y).toNat 0:=⟨_,rfl⟩
   rw [← hz] at hv3
   have hzok:i32ok z:=by rw [← hv3];exact mget_ok (s3.ok (s2.ok (s1.ok hI.ok))) _
   obtain ⟨f1,f2⟩:=far15 (a:=fr k.b tw) (b:=W name) (x:=fr k.b tw) (m:=m3) (by rw [g3.1];omega) (by rw [g3.1];omega)
   rw [g3.1] at f1
   obtain ⟨m4,e4⟩:∃ m4,m4=mput m3 (fr k.b tw) z:=⟨_,rfl⟩
   have s4:Same m3 m4 (fr k.b tw) (fr k.b 16):=by rw [e4];exact Same.put zb80 zb80 zb80 zb80 hzok
   have g4:mget m4 (fr k.b tw)=z∧mget m4 (fr k.b (tw+1))=t:=by
    rw [e4,mget_put _ zb80 zb80 zb80,if_pos rfl,mget_put _ zb80 zb80 zb80,if_neg zb80,g3.2]
    exact ⟨rfl,rfl⟩
   have hm4:=s4.len
   have ok1:okC c m1.length:=by rw [hm1];exact hok
   have ok2:okC c m2.length:=by rw [hm2];exact ok1
   have ok3:okC c m3.length:=by rw [hm3];exact ok2
   have ok4:okC c m4.length:=by rw [hm4];exact ok3
   have hsr:=hs.right
   refine ⟨mput m4 (fr k.b tw) (w32 (z * t)),?_,((s1.trans s2).trans (s3.trans s4)).trans (Same.put zb80 zb80 zb80 zb80 (w32_ok _)),?_⟩
   ·refine seq_app r1 ?_
    refine seq_cons hsr ok1 (step_lost _ zb86 zb86) (ex18 _ _ _ _ _) ?_
    rw [v1,← ht,← e2]
    refine seq_cons hsr.tail ok2 (step_lost _ zb86 zb86) (ex3 zb85 _ _ _ _ _) ?_
    rw [g2.1,g2.2,show twoI (5:Int).toNat x t=y from hy.symm,← e3]
    refine seq_cons hsr.tail.tail ok3 f2 (ex15 _ _ _ _ _) ?_
    rw [f1,hv3,← e4]
    refine seq_cons hsr.tail.tail.tail ok4 (step_lost _ zb86 zb86) (ex3 zb85 _ _ _ _ _) ?_
    rw [g4.1,g4.2]
    exact zz92
   ·rw [mget_put _ zb80 zb80 zb80,if_pos rfl]
    by_cases q:0≤x∧x < (cellX k.V name).size
    ·have t1:t=1:=by rw [ht];simp [truthI,q.1,q.2]
     rw [if_pos q] at hyv
     rw [if_neg zb85,t1,Int.mul_one,w32_id hzok,hz,hyv]
    ·have t0:t=0:=by
      rw [ht]
      have:(decide (0≤x) && decide (x < (cellX k.V name).size))=false:=by
       rw [Bool.and_eq_false_iff];simp;omega
      rw [this];rfl
     rw [if_pos zb85,t0,Int.mul_zero]
     rfl
  rw [if_neg o2] at hs ⊢
  rw [if_neg o2]
  have h1:0 < kids.len:=by rw [hlen'];unfold exprParts;rw [if_neg zb85];split <;> decide
  have hto:tw+1 < 16:=by have:=hkp h1;have:=hkd 0;omega
  by_cases o3:op=3
  ·subst o3
   simp only [if_true] at hs ⊢
   obtain ⟨m1,r1,s1,v1⟩:=simE kids 0 tw pc m h1 hk h0 zb75 hs.left hok hI
   obtain ⟨x,hx⟩:∃ x,x=ev k.V R kids 0:=⟨_,rfl⟩
   rw [← hx] at v1 ⊢
   have hxok:i32ok x:=by rw [← v1];exact mget_ok (s1.ok hI.ok) _
   have hm1:=s1.len
   obtain ⟨m2,e2⟩:∃ m2,m2=mput m1 (fr k.b (tw+1)) 0:=⟨_,rfl⟩
   have s2:Same m1 m2 (fr k.b tw) (fr k.b 16):=by rw [e2];exact Same.put zb80 zb80 zb80 zb80 zb73
   have g2:mget m2 (fr k.b tw)=x∧mget m2 (fr k.b (tw+1))=0:=by
    exact zz75
   have hm2:=s2.len
   have ok1:okC c m1.length:=by rw [hm1];exact hok
   refine ⟨mput m2 (fr k.b tw) (w32 (0 - x)),?_,(s1.trans s2).trans (Same.put zb80 zb80 zb80 zb80 (w32_ok _)),?_⟩
   ·refine seq_app r1 ?_
    refine seq_cons hs.right ok1 (step_lost _ zb86 zb86) (ex1 _ _ _ _ _) ?_
    rw [← e2]
    refine seq_cons hs.right.tail (by rw [hm2];exact ok1) (step_lost _ zb86 zb86) (ex3 zb85 _ _ _ _ _) ?_
    rw [g2.1,g2.2]
    exact zz92
   ·rw [mget_put _ zb80 zb80 zb80,if_pos rfl]
    simp [join]
  rw [if_neg o3] at hs ⊢
  rw [if_neg o3]
  by_cases o4:op=4
  ·subst o4
   simp only [if_true] at hs ⊢
   obtain ⟨m1,r1,s1,v1⟩:=simE kids 0 tw pc m h1 hk h0 zb75 hs.left hok hI
   have hm1:=s1.len
   refine ⟨mput m1 (fr k.b tw) (truthI (ev k.V R kids 0 == 0)),?_,s1.trans (Same.put zb80 zb80 zb80 zb80 (truth_ok _)),?_⟩
   ·refine seq_app r1 ?_
    refine seq_cons hs.right (by rw [hm1];exact hok) (step_lost _ zb86 zb86) (ex14 _ _ _ _ _) ?_
    rw [v1]
    exact zz92
   ·rw [mget_put _ zb80 zb80 zb80,if_pos rfl]
  rw [if_neg o4] at hs ⊢
  rw [if_neg o4]
  have h2:1 < kids.len:=by rw [hlen'];unfold exprParts;rw [if_neg zb85,if_neg zb85];decide
  have hop5:5≤op∧op≤17:=by omega
  by_cases o14:op=14 ∨ op=15
  ·rw [if_pos o14] at hs ⊢
   obtain ⟨m1,r1,s1,v1⟩:=simE kids 1 tw pc m h2 hk h0 (by have:=hkd 1;omega) hs.left.left hok hI
   have hI1:=hI.same s1 zb80
   obtain ⟨m2,r2,s2,v2⟩:=simE kids 0 (tw+1) _ m1 h1 hk zb85 zb75 hs.left.right (by rw [s1.len];exact hok) hI1
   obtain ⟨m',r',s',v'⟩:=sim_two h0 hb0 hto hL hop5 hs hok hI.ok r1 s1 v1 r2 s2 v2
   refine ⟨m',r',s',?_⟩
   rw [v',← join_two (by rw [← v2];exact mget_ok (s2.ok (s1.ok hI.ok)) _) (by rw [← v1];exact mget_ok (s1.ok hI.ok) _) hop5,if_pos o14]
  ·rw [if_neg o14] at hs ⊢
   obtain ⟨m1,r1,s1,v1⟩:=simE kids 0 tw pc m h1 hk h0 zb75 hs.left.left hok hI
   have hI1:=hI.same s1 zb80
   obtain ⟨m2,r2,s2,v2⟩:=simE kids 1 (tw+1) _ m1 h2 hk zb85 (by have:=hkd 1;omega) hs.left.right (by rw [s1.len];exact hok) hI1
   obtain ⟨m',r',s',v'⟩:=sim_two h0 hb0 hto hL hop5 hs hok hI.ok r1 s1 v1 r2 s2 v2
   refine ⟨m',r',s',?_⟩
   rw [v',← join_two (by rw [← v1];exact mget_ok (s1.ok hI.ok) _) (by rw [← v2];exact mget_ok (s2.ok (s1.ok hI.ok)) _) hop5,if_neg o14]
open Go.RowKit Mc
theorem deep_dp:∀ F:EF,F.size≤1099511627776→F.deep=dp F∧dp F≤F.size
 | .nil,_=>⟨rfl,Nat.le_refl _⟩
 | .cons _ _ _ k r,h=>by
  simp only [EF.size] at h
  obtain ⟨h1,h2⟩:=deep_dp k zb85
  obtain ⟨h3,h4⟩:=deep_dp r zb85
  refine ⟨?_,by simp only [dp,EF.size];omega⟩
  rw [EF.deep,dp,h1,h3]
  have:w64 (1+(dp k:Int))=1+dp k:=by simp only [w64_def];omega
  rw [this]
  omega
theorem chkD_E {κ:Kn}:∀ {F:EF},chkD κ F=none→F.size≤1099511627776→chkE κ F=none∧dp F≤12
 | .nil,_,_=>⟨rfl,by simp [dp]⟩
 | .cons _ _ _ k r,h,hz=>by
  rw [chkD,ored_eq_none,ored_eq_none,must_none,decide_eq_true_eq] at h
  simp only [EF.size] at hz
  obtain ⟨h1,h2⟩:=chkD_E h.2 zb85
  obtain ⟨h3,h4⟩:=deep_dp k zb85
  have h5:=h.1.1
  rw [h3,show w64 (1+(dp k:Int))=1+dp k by simp only [w64_def];omega] at h5
  refine ⟨?_,by simp only [dp];omega⟩
  rw [chkE,ored_eq_none]
  exact ⟨h.1.2,h1⟩
structure VrR (v:Vr):Prop where
 lo:i32ok v.low
 hi:i32ok v.high
 le:v.low≤v.high
theorem cut_eq {n lo hi:Int} (h1:i32ok lo) (h2:i32ok hi) (h:lo≤hi):min (max n lo) hi=cutR n lo hi:=by
 unfold cutR
 have e:max lo (min n hi)=min (max n lo) hi:=by omega
 rw [e]
 unfold i32ok at h1 h2
 exact (w32_id zb73).symm
theorem cutR_bd {n lo hi:Int} (h1:i32ok lo) (h2:i32ok hi) (h:lo≤hi):lo≤cutR n lo hi∧cutR n lo hi≤hi:=by
 rw [← cut_eq h1 h2 h]
 omega
structure Stat (k:Mk):Prop where
 b0:0≤k.b
 s2:2≤k.seats
 s8:k.seats≤8
structure CInv (k:Mk) (R:RS) (m:List Int):Prop where
 len:(m.length:Int)=k.b+49
 ok:∀ x ∈ m,i32ok x
 vlen:(R.vars.length:Int)=k.b
 vars:∀ i,0≤i→i < k.b→mget m i=R.vars.getD i.toNat 0
 seat:mget m (k.b+4)=R.seat
 cell:mget m (k.b+5)=R.cell
 sides:mget m (k.b+6)=R.sides
 rest:mget m (k.b+7)=R.rest
 alen:(R.asks.length:Int)=k.seats
 asks:∀ i,0≤i→i < k.seats→mget m (k.b+8+i)=R.asks.getD i.toNat 0∧0≤R.asks.getD i.toNat 0∧R.asks.getD i.toNat 0≤1073741823
structure NInv (k:Mk) (κ:Kn) (W:Wd) (f:Nat) (B:List (Str × Int)) (m:List Int):Prop where
 kn:∀ s,κ s≤3
 one:∀ s,κ s=1→W s=cellN k.V s∧0≤cellN k.V s∧cellN k.V s < k.b∧bindG B s=none∧VrR (cellX k.V s)
 two:∀ s,κ s=2→W s=cellN k.V s∧0≤cellN k.V s∧0 < (cellX k.V s).size∧cellN k.V s+(cellX k.V s).size≤k.b∧VrR (cellX k.V s)
 fix:∀ s,κ s=3→((k.b≤W s∧W s < k.b+4) ∨ (k.b+17≤W s∧W s < k.b+17+2 * f))∧∃ v,bindG B s=some v∧mget m (W s)=v
 no:∀ s,κ s=0→bindG B s=none
theorem EInv.of {k:Mk} {κ:Kn} {W:Wd} {f:Nat} {R:RS} {m:List Int} (hk:Stat k) (hf:f≤8) (hC:CInv k R m) (hN:NInv k κ W f R.binds m):EInv k κ W R m :=
 ⟨hk.b0,hC.len,hC.ok,fun s h=>by
  have h3:=hN.kn s
  have hb:=hk.b0
  rcases (by omega:κ s=1 ∨ κ s=3) with q | q
  ·obtain ⟨a1,a2,a3,a4,_⟩:=hN.one s q
   rw [a1]
   refine ⟨a2,by omega,?_⟩
   unfold nameV
   rw [a4]
   exact hC.vars _ a2 a3
  ·obtain ⟨a1,v,a2,a3⟩:=hN.fix s q
   refine ⟨by omega,by omega,?_⟩
   unfold nameV
   rw [a2,a3],fun s q=>by
  obtain ⟨a1,a2,a3,a4,_⟩:=hN.two s q
  rw [a1]
  exact ⟨a2,a3,a4,fun i h0 h1=>hC.vars _ zb85 zb85⟩⟩
structure Keep (k:Mk) (f:Nat) (m m':List Int):Prop where
 loops:∀ i,k.b+17≤i→i < k.b+17+2 * f→mget m' i=mget m i
 one:mget m (k.b+16)=1→mget m' (k.b+16)=1
 args:∀ i,k.b≤i→i < k.b+4→mget m' i=mget m i
theorem Keep.refl (k:Mk) (f:Nat) (m:List Int):Keep k f m m:=⟨fun _ _ _=>rfl,fun h=>h,fun _ _ _=>rfl⟩
theorem Keep.trans {k:Mk} {f:Nat} {a b c:List Int} (h:Keep k f a b) (h':Keep k f b c):Keep k f a c :=
 ⟨fun i h0 h1=>(h'.loops i h0 h1).trans (h.loops i h0 h1),fun q=>h'.one (h.one q),fun i h0 h1=>(h'.args i h0 h1).trans (h.args i h0 h1)⟩
theorem Keep.of_same {k:Mk} {f:Nat} {m m':List Int} {lo hi:Int} (hk:Stat k) (hf:f≤8) (h:Same m m' lo hi) (hlo:k.b+33≤lo):Keep k f m m':=by
 have hb:=hk.b0
 exact ⟨fun i h0 h1=>h.out i zb85 zb85,fun q=>by rw [h.out _ zb85 zb85];exact q,fun i h0 h1=>h.out i zb85 zb85⟩
theorem NInv.keep {k:Mk} {κ:Kn} {W:Wd} {f:Nat} {B:List (Str × Int)} {m m':List Int} (h:NInv k κ W f B m) (hk:Keep k f m m'):NInv k κ W f B m' :=
 ⟨h.kn,h.one,h.two,fun s q=>by
  obtain ⟨a1,v,a2,a3⟩:=h.fix s q
  refine ⟨a1,v,a2,?_⟩
  rcases a1 with a1 | a1
  ·rw [hk.args _ a1.1 a1.2];exact a3
  ·rw [hk.loops _ a1.1 a1.2];exact a3,h.no⟩
theorem CInv.same {k:Mk} {R:RS} {m m':List Int} {lo hi:Int} (hk:Stat k) (h:CInv k R m) (hs:Same m m' lo hi) (hlo:k.b+16≤lo):CInv k R m':=by
 have hb:=hk.b0
 have h8:=hk.s8
 have g:∀ i,0≤i→i < k.b+16→mget m' i=mget m i:=fun i h0 h1=>hs.out i h0 zb85
 exact ⟨by rw [hs.len];exact h.len,hs.ok h.ok,h.vlen,fun i h0 h1=>by rw [g i h0 zb85];exact h.vars i h0 h1,by rw [g _ zb85 zb85];exact h.seat,by rw [g _ zb85 zb85];exact h.cell,
  by rw [g _ zb85 zb85];exact h.sides,by rw [g _ zb85 zb85];exact h.rest,h.alen,fun i h0 h1=>by rw [g _ zb85 zb85];exact h.asks i h0 h1⟩
structure Out (c:List Ins) (pc:Int) (m:List Int) (n:Nat) (pe:Int) (k:Mk) (κ:Kn) (W:Wd) (f:Nat) (R':RS):Prop where
 go:R'.over=false→∃ m',itI c n (pc,0,m)=(pe,0,m')∧CInv k R' m'∧NInv k κ W f R'.binds m'∧Keep k f m m'
 halt:R'.over=true→∃ pc' m',itI c n (pc,0,m)=(pc',(if R'.refused then 2 else 1),m')∧CInv k R' m'
theorem getD_set (l:List Int) (i j:Nat) (v:Int) (h:i < l.length):(l.set i v).getD j 0=if j=i then v else l.getD j 0:=by
 rw [List.getD_eq_getElem?_getD,List.getElem?_set]
 by_cases e:j=i
 ·subst e
  rw [if_pos rfl,if_pos rfl,if_pos h]
  rfl
 ·rw [if_neg e,if_neg zb85,List.getD_eq_getElem?_getD]
theorem CInv.setVar {k:Mk} {R:RS} {m:List Int} (hk:Stat k) (h:CInv k R m) {j v:Int} (h0:0≤j) (h1:j < k.b) (hv:i32ok v):CInv k { R with vars:=R.vars.set j.toNat v } (mput m j v):=by
 have hb:=hk.b0
 have hl:=h.len
 have hvl:=h.vlen
 have g:∀ i,0≤i→¬ i=j→mget (mput m j v) i=mget m i:=fun i hi hn=>by rw [mget_put v h0 hi zb85,if_neg hn]
 refine ⟨by rw [mput_len];exact hl,mput_ok h.ok hv,by simpa using h.vlen,fun i hi0 hi1=>?_,by rw [g _ zb85 zb85];exact h.seat,by rw [g _ zb85 zb85];exact h.cell,by rw [g _ zb85 zb85];exact h.sides,by rw [g _ zb85 zb85];exact h.rest,h.alen,fun i hi0 hi1=>by rw [g _ zb85 zb85];exact h.asks i hi0 hi1⟩
 rw [mget_put v h0 hi0 zb85]
 show _=(R.vars.set j.toNat v).getD i.toNat 0
 rw [getD_set _ _ _ _ zb85]
 by_cases e:i=j
 ·rw [if_pos e,if_pos zb85]
 ·rw [if_neg e,if_neg zb85]
  exact h.vars i hi0 hi1
theorem Keep.put {k:Mk} {f:Nat} {m:List Int} (hk:Stat k) (hl:(m.length:Int)=k.b+49) {j v:Int} (h0:0≤j) (h1:j < k.b ∨ k.b+4≤j∧j < k.b+16 ∨ k.b+33≤j) (h2:j < k.b+49) (hf:f≤8):Keep k f m (mput m j v):=by
 have hb:=hk.b0
 have g:∀ i,0≤i→¬ i=j→mget (mput m j v) i=mget m i:=fun i hi hn=>by rw [mget_put v h0 hi zb85,if_neg hn]
 exact ⟨fun i _ _=>g i zb85 zb85,fun q=>by rw [g _ zb85 zb85];exact q,fun i _ _=>g i zb85 zb85⟩
end Go.Proofs.YtbfbabbcdochjaaGreatDoor.So
