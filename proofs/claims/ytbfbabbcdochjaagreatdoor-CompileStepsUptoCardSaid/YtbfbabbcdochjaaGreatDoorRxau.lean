/- Several texts joined: Cs, Cq, Cl. -/
import Derived.Test.YtbfbabbcdochjaaGreatDoorRxpk
import Derived.Test.YtbfbabbcdochjaaGreatDoorRxat
set_option maxHeartbeats 4000000
namespace Go.Proofs.YtbfbabbcdochjaaGreatDoor.So
open Go.RowKit Mc
def costN:EF→Nat→Nat
 | .nil,_=>0
 | .cons _ _ _ _ r,j+1=>costN r j
 | .cons op _ _ kids _,0=>ownE op+if op=0 ∨ op=1 then 0 else costF kids
theorem costN_zero (F:EF):costN F 0≤costF F:=by cases F <;> simp [costN,costF]
theorem costN_one:∀ F:EF,costN F 0+costN F 1≤costF F
 | .nil=>Nat.le_refl _
 | .cons op n name k r=>by have:=costN_zero r;simp only [costN,costF];omega
theorem len_le (k:Mk) (W:Wd):∀ (F:EF) (j:Nat) (tw:Int),(cE k W F j tw).length≤costN F j
 | .nil,_,_=>by simp [cE]
 | .cons _ _ _ _ r,j+1,tw=>by rw [cE,costN];exact len_le k W r j tw
 | .cons op n name kids r,0,tw=>by
  have h0:=len_le k W kids 0 tw
  have h1:=len_le k W kids 1 (tw+1)
  have h2:=len_le k W kids 1 tw
  have h3:=len_le k W kids 0 (tw+1)
  have h4:=costN_zero kids
  have h5:=costN_one kids
  rw [cE,costN]
  by_cases o0:op=0
  ·simp [o0,ownE]
  rw [if_neg o0]
  by_cases o1:op=1
  ·simp [o1,ownE]
  rw [if_neg o1,if_neg (show ¬ (op=0 ∨ op=1) by omega)]
  by_cases o2:op=2
  ·rw [if_pos o2,show ownE op=6 by unfold ownE;rw [if_neg zb85,if_pos o2]];simp only [List.length_append,List.length_cons,List.length_nil];omega
  rw [if_neg o2,show ownE op=2 by unfold ownE;rw [if_neg zb85,if_neg o2]]
  by_cases o3:op=3
  ·rw [if_pos o3];simp only [List.length_append,List.length_cons,List.length_nil];omega
  rw [if_neg o3]
  by_cases o4:op=4
  ·rw [if_pos o4];simp only [List.length_append,List.length_cons,List.length_nil];omega
  rw [if_neg o4]
  split <;> simp only [List.length_append,List.length_cons,List.length_nil] <;> omega
structure Pre (c:List Ins) (m:List Int) (k:Mk) (κ:Kn) (W:Wd) (f:Nat) (R:RS):Prop where
 st:Stat k
 f8:f≤8
 ok:okC c m.length
 C:CInv k R m
 N:NInv k κ W f R.binds m
 ov:R.over=false
theorem Pre.expr {c:List Ins} {m:List Int} {k:Mk} {κ:Kn} {W:Wd} {f:Nat} {R:RS} (h:Pre c m k κ W f R) {F:EF} {j:Nat} {tw pc:Int} (hj:j < F.len) (hc:chkE κ F=none) (hd:dp F≤12) (h0:0≤tw) (h4:tw≤4) (hs:Seg c pc (cE k W F j tw)) :
 ∃ m',itI c (cE k W F j tw).length (pc,0,m)=(pc+(cE k W F j tw).length,0,m')∧Pre c m' k κ W f R∧Keep k f m m'∧Same m m' (fr k.b tw) (fr k.b 16)∧mget m' (fr k.b tw)=ev k.V R F j:=by
 have hdj:=dpN_le F j
 obtain ⟨m',r,s,v⟩:=simE F j tw pc m hj hc h0 zb85 hs h.ok (EInv.of h.st h.f8 h.C h.N)
 have hK:=Keep.of_same h.st h.f8 s zb80
 exact ⟨m',r,⟨h.st,h.f8,by rw [s.len];exact h.ok,h.C.same h.st s zb80,h.N.keep hK,h.ov⟩,hK,s,v⟩
theorem Pre.put {c:List Ins} {m:List Int} {k:Mk} {κ:Kn} {W:Wd} {f:Nat} {R:RS} (h:Pre c m k κ W f R) {j v:Int} (h0:0≤j) (h1:j < 16) (hv:i32ok v):Pre c (mput m (fr k.b j) v) k κ W f R∧Keep k f m (mput m (fr k.b j) v)∧mget (mput m (fr k.b j) v) (fr k.b j)=v∧∀ i,0≤i→¬ i=fr k.b j→mget (mput m (fr k.b j) v) i=mget m i:=by
 have hb:=h.st.b0
 have hl:=h.C.len
 have s:Same m (mput m (fr k.b j) v) (fr k.b 0) (fr k.b 16):=Same.put zb80 zb80 zb80 zb80 hv
 have hK:=Keep.of_same h.st h.f8 s zb80
 refine ⟨⟨h.st,h.f8,by rw [s.len];exact h.ok,h.C.same h.st s zb80,h.N.keep hK,h.ov⟩,hK,?_,fun i hi hn=>?_⟩
 ·rw [mget_put v zb80 zb80 zb80,if_pos rfl]
 ·rw [mget_put v zb80 hi zb80,if_neg hn]
theorem Out.goes {c:List Ins} {pc:Int} {m:List Int} {n:Nat} {pe:Int} {k:Mk} {κ:Kn} {W:Wd} {f:Nat} {R':RS} {m':List Int} (h:itI c n (pc,0,m)=(pe,0,m')) (hP:Pre c m' k κ W f R') (hK:Keep k f m m'):Out c pc m n pe k κ W f R' :=
 ⟨fun _=>⟨m',h,hP.C,hP.N,hK⟩,fun q=>absurd q (by rw [hP.ov];decide)⟩
theorem Out.halts {c:List Ins} {pc:Int} {m:List Int} {n:Nat} {pe:Int} {k:Mk} {κ:Kn} {W:Wd} {f:Nat} {R':RS} {pc':Int} {m':List Int} (ho:R'.over=true) (h:itI c n (pc,0,m)=(pc',(if R'.refused then 2 else 1),m')) (hC:CInv k R' m'):Out c pc m n pe k κ W f R' :=
 ⟨fun q=>absurd q (by rw [ho];decide),fun _=>⟨pc',m',h,hC⟩⟩
theorem sim_some {c:List Ins} {m:List Int} {k:Mk} {κ:Kn} {W:Wd} {f:Nat} {R:RS} (h:Pre c m k κ W f R) {i pc x:Int} (h0:0≤i) (h1:i < 4) (hs:Seg c pc (someI k i)) (hx:mget m (fr k.b i)=x) :
 ∃ m',itI c (someI k i).length (pc,0,m)=(pc+(someI k i).length,0,m')∧Pre c m' k κ W f R∧Keep k f m m'∧mget m' (fr k.b i)=seatR k.seats x∧∀ j,0≤j→j < fr k.b i→mget m' j=mget m j:=by
 have hxok:i32ok x:=by rw [← hx];exact mget_ok h.C.ok _
 have hb:=h.st.b0
 obtain ⟨t,ht⟩:∃ t,t=truthI (decide (0≤x) && decide (x < k.seats)):=⟨_,rfl⟩
 have htok:i32ok t:=by rw [ht];exact truth_ok _
 obtain ⟨P1,K1,g1,o1⟩:=h.put (j:=i+1) zb85 zb85 htok
 obtain ⟨m1,e1⟩:∃ m1,m1=mput m (fr k.b (i+1)) t:=⟨_,rfl⟩
 rw [← e1] at P1 K1 g1 o1
 have hx1:mget m1 (fr k.b i)=x:=by rw [o1 _ zb80 zb80];exact hx
 have hv:w32 (x * t)=seatR k.seats x:=by
  rw [ht]
  unfold seatR
  by_cases q:0≤x∧x < k.seats
  ·rw [if_neg zb85]
   simp [truthI,q.1,q.2]
   exact w32_id hxok
  ·have:(decide (0≤x) && decide (x < k.seats))=false:=by
    rw [Bool.and_eq_false_iff];simp;omega
   rw [this,if_pos zb85]
   simp [truthI,w32_def]
 obtain ⟨P2,K2,g2,o2⟩:=P1.put (j:=i) (v:=w32 (x * t)) zb85 zb85 (w32_ok _)
 refine ⟨mput m1 (fr k.b i) (w32 (x * t)),?_,P2,K1.trans K2,by rw [g2,hv],fun j hj hj'=>by rw [o2 j hj zb85,o1 j hj (by unfold fr at *;omega)]⟩
 refine seq_cons hs h.ok (step_lost _ zb86 zb86) (ex18 _ _ _ _ _) ?_
 rw [hx,← ht,← e1]
 refine seq_cons hs.tail P1.ok (step_lost _ zb86 zb86) (ex3 zb85 _ _ _ _ _) ?_
 rw [hx1,g1]
 simp only [someI,List.length_cons,List.length_nil,itI]
 refine Prod.ext ?_ rfl
 simp only
 omega
theorem fin_ {c:List Ins} {n n':Nat} {s:Int × Int × List Int} {p p':Int} {m':List Int} (h:itI c n s=(p,0,m')) (hn:n'=n) (hp:p'=p):itI c n' s=(p',0,m'):=by rw [hn,hp];exact h
section
variable {c:List Ins} {m:List Int} {k:Mk} {κ:Kn} {W:Wd} {f:Nat} {R:RS} {pc:Int}
theorem sim_assign (h:Pre c m k κ W f R) {name:Str} {e:EF} (hj:0 < e.len) (hc:chkE κ e=none) (hd:dp e≤12) (hn:κ name=1)
 (hs:Seg c pc (cE k W e 0 0 ++ [⟨17,fr k.b 0,(cellX k.V name).low,(cellX k.V name).high⟩,⟨2,W name,fr k.b 0,0⟩])) :
 Out c pc m ((cE k W e 0 0).length+2) (pc+((cE k W e 0 0).length+2:Nat)) k κ W f { R with vars:=R.vars.set (cellN k.V name).toNat (cutR (ev k.V R e 0) (cellX k.V name).low (cellX k.V name).high) }:=by
 obtain ⟨m1,r1,P1,K1,_,v1⟩:=h.expr hj hc hd (Int.le_refl 0) zb85 hs.left
 obtain ⟨n1,n2,n3,n4,n5⟩:=h.N.one name hn
 obtain ⟨x,hx⟩:∃ x,x=ev k.V R e 0:=⟨_,rfl⟩
 rw [← hx] at v1 ⊢
 obtain ⟨y,hy⟩:∃ y,y=cutR x (cellX k.V name).low (cellX k.V name).high:=⟨_,rfl⟩
 have hyok:i32ok y:=by rw [hy];exact w32_ok _
 have hb:=h.st.b0
 obtain ⟨P2,K2,g2,o2⟩:=P1.put (j:=0) (v:=y) zb85 zb85 hyok
 obtain ⟨m2,e2⟩:∃ m2,m2=mput m1 (fr k.b 0) y:=⟨_,rfl⟩
 rw [← e2] at P2 K2 g2 o2
 have hC3:=P2.C.setVar h.st n2 n3 hyok
 have K3:Keep k f m2 (mput m2 (cellN k.V name) y):=Keep.put h.st P2.C.len n2 (.inl n3) zb85 h.f8
 rw [← hy]
 refine Out.goes (m':=mput m2 (cellN k.V name) y) ?_ ⟨h.st,h.f8,by rw [mput_len];exact P2.ok,hC3,P2.N.keep K3,h.ov⟩ ((K1.trans K2).trans K3)
 refine (fin_ (seq_app r1 (seq_cons (m1:=m2) hs.right P1.ok (step_lost _ zb86 zb86) (by rw [ex17,v1,cut_eq n5.lo n5.hi n5.le,← hy,← e2]) (seq_cons (m1:=mput m2 (cellN k.V name) y) hs.right.tail P2.ok (step_lost _ zb86 zb86) (by rw [ex2,n1,g2]) rfl)))) ?_ ?_
 ·simp
 ·simp;omega
theorem Pre.told (h:Pre c m k κ W f R) {R':RS} {j v:Int} (h0:4≤j) (h1:j < 8) (hv:i32ok v) (hvars:R'.vars=R.vars) (hasks:R'.asks=R.asks)
 (g4:R'.seat=if j=4 then v else R.seat) (g5:R'.cell=if j=5 then v else R.cell) (g6:R'.sides=if j=6 then v else R.sides) (g7:R'.rest=if j=7 then v else R.rest) :
 CInv k R' (mput m (k.b+j) v)∧Keep k f m (mput m (k.b+j) v):=by
 have hb:=h.st.b0
 have hl:=h.C.len
 have g:∀ i,0≤i→mget (mput m (k.b+j) v) i=if i=k.b+j then v else mget m i:=fun i hi=>mget_put v zb85 hi zb85
 refine ⟨⟨by rw [mput_len];exact hl,mput_ok h.C.ok hv,by rw [hvars];exact h.C.vlen,fun i h0 h1=>by rw [g i h0,if_neg zb85,hvars];exact h.C.vars i h0 h1,?_,?_,?_,?_,by rw [hasks];exact h.C.alen,fun i h0 h1=>?_⟩,Keep.put h.st hl zb85 (.inr (.inl zb85)) zb85 h.f8⟩
 ·rw [g _ zb85,g4,h.C.seat];congr 1;rw [eq_iff_iff];omega
 ·rw [g _ zb85,g5,h.C.cell];congr 1;rw [eq_iff_iff];omega
 ·rw [g _ zb85,g6,h.C.sides];congr 1;rw [eq_iff_iff];omega
 ·rw [g _ zb85,g7,h.C.rest];congr 1;rw [eq_iff_iff];omega
 ·have:=h.st.s8
  rw [g _ zb85,if_neg zb85,hasks]
  exact h.C.asks i h0 h1
theorem sim_refuse (h:Pre c m k κ W f R) (hs:Seg c pc [⟨0,1,0,0⟩]):Out c pc m 1 (pc+1) k κ W f { R with over:=true,refused:=true }:=by
 refine Out.halts (pc':=pc) (m':=m) rfl ?_ ?_
 ·rw [step_at hs.head h.ok (step_lost _ zb86 zb86)];rfl
 ·have:=h.C
  exact ⟨this.len,this.ok,this.vlen,this.vars,this.seat,this.cell,this.sides,this.rest,this.alen,this.asks⟩
theorem sim_roll (h:Pre c m k κ W f R) {name:Str} {low:Int} (hn:κ name=1) (hlow:i32ok low) (hs:Seg c pc [⟨1,k.b+5,W name,0⟩,⟨1,k.b+6,low,0⟩]) (hb64:k.b≤64) :
 Out c pc m 2 (pc+2) k κ W f { R with cell:=cellN k.V name,sides:=low }:=by
 obtain ⟨n1,n2,n3,n4,n5⟩:=h.N.one name hn
 have hw:i32ok (cellN k.V name):=by unfold i32ok;omega
 obtain ⟨C1,K1⟩:=h.told (R':={ R with cell:=cellN k.V name }) (j:=5) (v:=cellN k.V name) zb85 zb85 hw rfl rfl rfl rfl rfl rfl
 have P1:Pre c (mput m (k.b+5) (cellN k.V name)) k κ W f { R with cell:=cellN k.V name }:=⟨h.st,h.f8,by rw [mput_len];exact h.ok,C1,h.N.keep K1,h.ov⟩
 obtain ⟨C2,K2⟩:=P1.told (R':={ R with cell:=cellN k.V name,sides:=low }) (j:=6) (v:=low) zb85 zb85 hlow rfl rfl rfl rfl rfl rfl
 refine Out.goes (m':=mput (mput m (k.b+5) (cellN k.V name)) (k.b+6) low) ?_ ⟨h.st,h.f8,by rw [mput_len];exact P1.ok,C2,P1.N.keep K2,h.ov⟩ (K1.trans K2)
 refine fin_ (seq_cons (m1:=mput m (k.b+5) (cellN k.V name)) hs h.ok (step_lost _ zb86 zb86) (by rw [ex1,n1]) (seq_cons (m1:=mput (mput m (k.b+5) (cellN k.V name)) (k.b+6) low) hs.tail P1.ok (step_lost _ zb86 zb86) (ex1 _ _ _ _ _) rfl)) ?_ ?_
 ·simp
 ·omega
theorem sim_seat (h:Pre c m k κ W f R) {e:EF} (hj:0 < e.len) (hc:chkE κ e=none) (hd:dp e≤12) (hs:Seg c pc (cE k W e 0 0 ++ [⟨2,k.b+4,fr k.b 0,0⟩,⟨0,0,0,0⟩])) (hr:R.refused=false) :
 Out c pc m ((cE k W e 0 0).length+2) (pc+((cE k W e 0 0).length+2:Nat)) k κ W f { R with seat:=ev k.V R e 0,over:=true }:=by
 obtain ⟨m1,r1,P1,K1,_,v1⟩:=h.expr hj hc hd (Int.le_refl 0) zb85 hs.left
 have hxok:i32ok (ev k.V R e 0):=by rw [← v1];exact mget_ok P1.C.ok _
 obtain ⟨C2,K2⟩:=P1.told (R':={ R with seat:=ev k.V R e 0,over:=true }) (j:=4) (v:=ev k.V R e 0) zb85 zb85 hxok rfl rfl rfl rfl rfl rfl
 refine Out.halts (pc':=pc+(cE k W e 0 0).length+1) (m':=mput m1 (k.b+4) (ev k.V R e 0)) rfl ?_ C2
 have:=seq_app r1 (seq_cons (m1:=mput m1 (k.b+4) (ev k.V R e 0)) hs.right P1.ok (step_lost _ zb86 zb86) (by rw [ex2,v1]) (step_at hs.right.tail.head (by rw [mput_len];exact P1.ok) (step_lost _ zb86 zb86)))
 rw [List.length_append] at this
 refine this.trans ?_
 rw [show execI ⟨0,0,0,0⟩ (pc+(cE k W e 0 0).length+1) (mput m1 (k.b+4) (ev k.V R e 0))=(pc+(cE k W e 0 0).length+1,1,mput m1 (k.b+4) (ev k.V R e 0)) from rfl]
 simp [hr]
theorem sim_over (h:Pre c m k κ W f R) (hs:Seg c pc [⟨1,k.b+4,-1,0⟩,⟨0,0,0,0⟩]) (hr:R.refused=false):Out c pc m 2 (pc+2) k κ W f { R with seat:=-1,over:=true }:=by
 obtain ⟨C2,K2⟩:=h.told (R':={ R with seat:=-1,over:=true }) (j:=4) (v:=-1) zb85 zb85 zb73 rfl rfl rfl rfl rfl rfl
 refine Out.halts (pc':=pc+1) (m':=mput m (k.b+4) (-1)) rfl ?_ C2
 have:=seq_cons (m1:=mput m (k.b+4) (-1)) hs h.ok (step_lost _ zb86 zb86) (ex1 _ _ _ _ _) (step_at hs.tail.head (by rw [mput_len];exact h.ok) (step_lost _ zb86 zb86))
 refine this.trans ?_
 rw [show execI ⟨0,0,0,0⟩ (pc+1) (mput m (k.b+4) (-1))=(pc+1,1,mput m (k.b+4) (-1)) from rfl]
 simp [hr]
theorem seatR_bd {seats x:Int} (h:2≤seats):0≤seatR seats x∧seatR seats x < seats:=by unfold seatR;split <;> omega
theorem sim_rest (h:Pre c m k κ W f R) {e:EF} (hj:0 < e.len) (hc:chkE κ e=none) (hd:dp e≤12) (hs:Seg c pc (cE k W e 0 0 ++ someI k 0 ++ [⟨2,k.b+7,fr k.b 0,0⟩])) :
 Out c pc m ((cE k W e 0 0).length+3) (pc+((cE k W e 0 0).length+3:Nat)) k κ W f { R with rest:=seatR k.seats (ev k.V R e 0) }:=by
 obtain ⟨m1,r1,P1,K1,_,v1⟩:=h.expr hj hc hd (Int.le_refl 0) zb85 hs.left.left
 obtain ⟨m2,r2,P2,K2,v2,_⟩:=sim_some P1 (Int.le_refl 0) zb85 hs.left.right v1
 have hsb:=seatR_bd (x:=ev k.V R e 0) h.st.s2
 have h8:=h.st.s8
 obtain ⟨C3,K3⟩:=P2.told (R':={ R with rest:=seatR k.seats (ev k.V R e 0) }) (j:=7) (v:=seatR k.seats (ev k.V R e 0)) zb85 zb85 zb73 rfl rfl rfl rfl rfl rfl
 refine Out.goes (m':=mput m2 (k.b+7) (seatR k.seats (ev k.V R e 0))) ?_ ⟨h.st,h.f8,by rw [mput_len];exact P2.ok,C3,P2.N.keep K3,h.ov⟩ ((K1.trans K2).trans K3)
 have hs2:=hs
 rw [List.append_assoc] at hs2
 refine fin_ (seq_app r1 (seq_app r2 (seq_cons (m1:=mput m2 (k.b+7) (seatR k.seats (ev k.V R e 0))) hs2.right.right P2.ok (step_lost _ zb86 zb86) (by rw [ex2,v2]) rfl))) ?_ ?_
 ·simp [someI]
 ·simp [someI];omega
end
open Go.RowKit Mc
theorem CInv.setAsk {k:Mk} {R:RS} {m:List Int} (hk:Stat k) (h:CInv k R m) {j v:Int} (h0:0≤j) (h1:j < k.seats) (hv:0≤v∧v≤1073741823):CInv k { R with asks:=R.asks.set j.toNat v } (mput m (k.b+8+j) v):=by
 have hb:=hk.b0
 have h8:=hk.s8
 have hl:=h.len
 have ha:=h.alen
 have g:∀ i,0≤i→¬ i=k.b+8+j→mget (mput m (k.b+8+j) v) i=mget m i:=fun i hi hn=>by rw [mget_put v zb85 hi zb85,if_neg hn]
 refine ⟨by rw [mput_len];exact hl,mput_ok h.ok zb73,h.vlen,fun i hi0 hi1=>by rw [g _ hi0 zb85];exact h.vars i hi0 hi1,by rw [g _ zb85 zb85];exact h.seat,by rw [g _ zb85 zb85];exact h.cell,by rw [g _ zb85 zb85];exact h.sides,by rw [g _ zb85 zb85];exact h.rest,by simpa using ha,fun i hi0 hi1=>?_⟩
 show _=(R.asks.set j.toNat v).getD i.toNat 0∧0≤(R.asks.set j.toNat v).getD i.toNat 0∧(R.asks.set j.toNat v).getD i.toNat 0≤1073741823
 rw [getD_set _ _ _ _ zb85,mget_put v zb85 zb85 zb85]
 by_cases e:i=j
 ·rw [if_pos zb85,if_pos zb85]
  exact ⟨rfl,hv⟩
 ·rw [if_neg zb85,if_neg zb85]
  exact h.asks i hi0 hi1
section
variable {c:List Ins} {m:List Int} {k:Mk} {κ:Kn} {W:Wd} {f:Nat} {R:RS} {pc:Int}
theorem sim_pay (h:Pre c m k κ W f R) {e:EF} (hj:1 < e.len) (hc:chkE κ e=none) (hd:dp e≤12)
 (hs:Seg c pc (cE k W e 1 0 ++ cE k W e 0 1 ++ someI k 1 ++ [⟨17,fr k.b 0,0,1073741823⟩,⟨15,fr k.b 2,k.b+8,fr k.b 1⟩,⟨3,fr k.b 0,fr k.b 0,fr k.b 2⟩,⟨17,fr k.b 0,0,1073741823⟩,⟨16,k.b+8,fr k.b 1,fr k.b 0⟩])) :
 Out c pc m ((cE k W e 1 0).length+(cE k W e 0 1).length+7) (pc+((cE k W e 1 0).length+(cE k W e 0 1).length+7:Nat)) k κ W f
  { R with asks:=R.asks.set (seatR k.seats (ev k.V R e 0)).toNat (cutR (R.asks.getD (seatR k.seats (ev k.V R e 0)).toNat 0+cutR (ev k.V R e 1) 0 1073741823) 0 1073741823) }:=by
 have hb:=h.st.b0
 have h8:=h.st.s8
 obtain ⟨m1,r1,P1,K1,_,v1⟩:=h.expr hj hc hd (Int.le_refl 0) zb85 hs.left.left.left
 obtain ⟨m2,r2,P2,K2,S2,v2⟩:=P1.expr (j:=0) zb85 hc hd (tw:=1) zb85 zb85 hs.left.left.right
 have f2:mget m2 (fr k.b 0)=ev k.V R e 1:=by rw [S2.out _ zb80 zb80];exact v1
 have hs3:=hs.left.right
 rw [List.length_append] at hs3
 obtain ⟨m3,r3,P3,K3,v3,o3⟩:=sim_some P2 (i:=1) zb85 zb85 hs3 v2
 have f3:mget m3 (fr k.b 0)=ev k.V R e 1:=by rw [o3 _ zb80 zb80];exact f2
 obtain ⟨s,hse⟩:∃ s,s=seatR k.seats (ev k.V R e 0):=⟨_,rfl⟩
 have hsb:=seatR_bd (x:=ev k.V R e 0) h.st.s2
 rw [← hse] at v3 hsb ⊢
 have zok:i32ok 0:=by unfold i32ok;omega
 have mok:i32ok 1073741823:=by unfold i32ok;omega
 obtain ⟨a,ha⟩:∃ a,a=cutR (ev k.V R e 1) 0 1073741823:=⟨_,rfl⟩
 have hab:0≤a∧a≤1073741823:=by rw [ha];exact cutR_bd zok mok zb85
 rw [← ha]
 obtain ⟨P4,K4,g4,o4⟩:=P3.put (j:=0) (v:=a) zb85 zb85 zb73
 obtain ⟨m4,e4⟩:∃ m4,m4=mput m3 (fr k.b 0) a:=⟨_,rfl⟩
 rw [← e4] at P4 K4 g4 o4
 have f4:mget m4 (fr k.b 1)=s:=by rw [o4 _ zb80 zb80];exact v3
 obtain ⟨q1,q2,q3⟩:=P4.C.asks s hsb.1 hsb.2
 obtain ⟨z,hz⟩:∃ z,z=R.asks.getD s.toNat 0:=⟨_,rfl⟩
 rw [← hz] at q1 q2 q3 ⊢
 obtain ⟨y1,y2⟩:=far15 (a:=fr k.b 2) (b:=k.b+8) (x:=fr k.b 1) (m:=m4) (by rw [f4];omega) (by rw [f4];have:=P4.C.len;omega)
 rw [f4] at y1
 obtain ⟨P5,K5,g5,o5⟩:=P4.put (j:=2) (v:=z) zb85 zb85 zb73
 obtain ⟨m5,e5⟩:∃ m5,m5=mput m4 (fr k.b 2) z:=⟨_,rfl⟩
 rw [← e5] at P5 K5 g5 o5
 have a5:mget m5 (fr k.b 0)=a:=by rw [o5 _ zb80 zb80];exact g4
 have b5:mget m5 (fr k.b 1)=s:=by rw [o5 _ zb80 zb80];exact f4
 have hsum:twoI (3:Int).toNat a z=z+a:=by show w32 (a+z)=z+a;rw [w32_id zb73];omega
 obtain ⟨P6,K6,g6,o6⟩:=P5.put (j:=0) (v:=z+a) zb85 zb85 zb73
 obtain ⟨m6,e6⟩:∃ m6,m6=mput m5 (fr k.b 0) (z+a):=⟨_,rfl⟩
 rw [← e6] at P6 K6 g6 o6
 have b6:mget m6 (fr k.b 1)=s:=by rw [o6 _ zb80 zb80];exact b5
 obtain ⟨y,hy⟩:∃ y,y=cutR (z+a) 0 1073741823:=⟨_,rfl⟩
 have hyb:0≤y∧y≤1073741823:=by rw [hy];exact cutR_bd zok mok zb85
 rw [← hy]
 obtain ⟨P7,K7,g7,o7⟩:=P6.put (j:=0) (v:=y) zb85 zb85 zb73
 obtain ⟨m7,e7⟩:∃ m7,m7=mput m6 (fr k.b 0) y:=⟨_,rfl⟩
 rw [← e7] at P7 K7 g7 o7
 have b7:mget m7 (fr k.b 1)=s:=by rw [o7 _ zb80 zb80];exact b6
 obtain ⟨x1,x2⟩:=far16 (a:=k.b+8) (b:=fr k.b 1) (x:=fr k.b 0) (m:=m7) (by rw [b7];omega) (by rw [b7];have:=P7.C.len;omega)
 rw [b7] at x1
 have C8:=P7.C.setAsk h.st hsb.1 hsb.2 hyb
 have K8:Keep k f m7 (mput m7 (k.b+8+s) y):=Keep.put h.st P7.C.len zb85 (.inr (.inl zb85)) zb85 h.f8
 refine Out.goes (m':=mput m7 (k.b+8+s) y) ?_ ⟨h.st,h.f8,by rw [mput_len];exact P7.ok,C8,P7.N.keep K8,h.ov⟩ (((((((K1.trans K2).trans K3).trans K4).trans K5).trans K6).trans K7).trans K8)
 have hs2:=hs
 rw [List.append_assoc,List.append_assoc] at hs2
 have hz:=hs2.right.right.right
 refine fin_ (seq_app r1 (seq_app r2 (seq_app (by have:=r3;rwa [show pc+(((cE k W e 1 0).length+(cE k W e 0 1).length:Nat):Int)=pc+(cE k W e 1 0).length+(cE k W e 0 1).length by omega] at this)
  (seq_cons (m1:=m4) hz P3.ok (step_lost _ zb86 zb86) (by rw [ex17,f3,cut_eq zok mok zb85,← ha,← e4])
  (seq_cons (m1:=m5) hz.tail P4.ok y2 (by rw [ex15,y1,q1,← e5])
  (seq_cons (m1:=m6) hz.tail.tail P5.ok (step_lost _ zb86 zb86) (by rw [ex3 zb85,a5,g5,hsum,← e6])
  (seq_cons (m1:=m7) hz.tail.tail.tail P6.ok (step_lost _ zb86 zb86) (by rw [ex17,g6,cut_eq zok mok zb85,← hy,← e7])
  (seq_cons (m1:=mput m7 (k.b+8+s) y) hz.tail.tail.tail.tail P7.ok x2 (by rw [ex16,x1,g7]) rfl)))))))) ?_ ?_
 ·simp [someI];omega
 ·simp [someI];omega
theorem sim_put (h:Pre c m k κ W f R) {name:Str} {e:EF} (hj:1 < e.len) (hc:chkE κ e=none) (hd:dp e≤12) (hn:κ name=2)
 (hs:Seg c pc (cE k W e 0 0 ++ cE k W e 1 1 ++ [⟨18,fr k.b 2,fr k.b 0,(cellX k.V name).size⟩,⟨20,pc+(cE k W e 0 0).length+(cE k W e 1 1).length+4,fr k.b 2,0⟩,⟨17,fr k.b 1,(cellX k.V name).low,(cellX k.V name).high⟩,⟨16,W name,fr k.b 0,fr k.b 1⟩])) :
 ∃ n,n≤(cE k W e 0 0).length+(cE k W e 1 1).length+4∧Out c pc m n (pc+((cE k W e 0 0).length+(cE k W e 1 1).length+4:Nat)) k κ W f
  (if 0≤ev k.V R e 0∧ev k.V R e 0 < (cellX k.V name).size then { R with vars:=R.vars.set (cellN k.V name+ev k.V R e 0).toNat (cutR (ev k.V R e 1) (cellX k.V name).low (cellX k.V name).high) } else R):=by
 have hb:=h.st.b0
 obtain ⟨n1,n2,n3,n4,n5⟩:=h.N.two name hn
 obtain ⟨m1,r1,P1,K1,_,v1⟩:=h.expr (j:=0) zb85 hc hd (Int.le_refl 0) zb85 hs.left.left
 obtain ⟨m2,r2,P2,K2,S2,v2⟩:=P1.expr hj hc hd (tw:=1) zb85 zb85 hs.left.right
 obtain ⟨i,hi⟩:∃ i,i=ev k.V R e 0:=⟨_,rfl⟩
 have f2:mget m2 (fr k.b 0)=i:=by rw [S2.out _ zb80 zb80,hi];exact v1
 obtain ⟨x,hx⟩:∃ x,x=ev k.V R e 1:=⟨_,rfl⟩
 rw [← hx] at v2
 rw [← hi,← hx]
 obtain ⟨t,ht⟩:∃ t,t=truthI (decide (0≤i) && decide (i < (cellX k.V name).size)):=⟨_,rfl⟩
 obtain ⟨P3,K3,g3,o3⟩:=P2.put (j:=2) (v:=t) zb85 zb85 (by rw [ht];exact truth_ok _)
 obtain ⟨m3,e3⟩:∃ m3,m3=mput m2 (fr k.b 2) t:=⟨_,rfl⟩
 rw [← e3] at P3 K3 g3 o3
 have a3:mget m3 (fr k.b 0)=i:=by rw [o3 _ zb80 zb80];exact f2
 have b3:mget m3 (fr k.b 1)=x:=by rw [o3 _ zb80 zb80];exact v2
 have hs2:=hs
 rw [List.append_assoc] at hs2
 have hz:=hs2.right.right
 by_cases q:0≤i∧i < (cellX k.V name).size
 ·rw [if_pos q]
  have t1:t=1:=by rw [ht];simp [truthI,q.1,q.2]
  obtain ⟨y,hy⟩:∃ y,y=cutR x (cellX k.V name).low (cellX k.V name).high:=⟨_,rfl⟩
  have hyok:i32ok y:=by rw [hy];exact w32_ok _
  rw [← hy]
  obtain ⟨P4,K4,g4,o4⟩:=P3.put (j:=1) (v:=y) zb85 zb85 hyok
  obtain ⟨m4,e4⟩:∃ m4,m4=mput m3 (fr k.b 1) y:=⟨_,rfl⟩
  rw [← e4] at P4 K4 g4 o4
  have a4:mget m4 (fr k.b 0)=i:=by rw [o4 _ zb80 zb80];exact a3
  obtain ⟨x1,x2⟩:=far16 (a:=W name) (b:=fr k.b 0) (x:=fr k.b 1) (m:=m4) (by rw [a4,n1];omega) (by rw [a4,n1];have:=P4.C.len;omega)
  rw [a4] at x1
  have C5:=P4.C.setVar h.st (j:=cellN k.V name+i) (v:=y) zb85 zb85 hyok
  have K5:Keep k f m4 (mput m4 (cellN k.V name+i) y):=Keep.put h.st P4.C.len zb85 (.inl zb85) zb85 h.f8
  refine ⟨_,Nat.le_refl _,Out.goes (m':=mput m4 (cellN k.V name+i) y) ?_ ⟨h.st,h.f8,by rw [mput_len];exact P4.ok,C5,P4.N.keep K5,h.ov⟩ ((((K1.trans K2).trans K3).trans K4).trans K5)⟩
  refine fin_ (seq_app r1 (seq_app r2
   (seq_cons (m1:=m3) hz P2.ok (step_lost _ zb86 zb86) (by rw [ex18,f2,← ht,← e3])
   (seq_cons (m1:=m3) hz.tail P3.ok (step_lost _ zb86 zb86) (by rw [ex20,g3,t1,if_neg zb84])
   (seq_cons (m1:=m4) hz.tail.tail P3.ok (step_lost _ zb86 zb86) (by rw [ex17,b3,cut_eq n5.lo n5.hi n5.le,← hy,← e4])
   (seq_cons (m1:=mput m4 (cellN k.V name+i) y) hz.tail.tail.tail P4.ok x2 (by rw [ex16,x1,g4,n1]) rfl)))))) ?_ ?_
  ·simp only [List.length_append,List.length_cons,List.length_nil];omega
  ·first | omega | (simp;omega)
 ·rw [if_neg q]
  have t0:t=0:=by
   rw [ht]
   have:(decide (0≤i) && decide (i < (cellX k.V name).size))=false:=by
    rw [Bool.and_eq_false_iff];simp;omega
   rw [this];rfl
  refine ⟨(cE k W e 0 0).length+((cE k W e 1 1).length+2),by omega,Out.goes (m':=m3) ?_ P3 ((K1.trans K2).trans K3)⟩
  rw [itI_add,r1,itI_add,r2,show 2=1+1 from rfl,itI_add,step_at hz.head P2.ok (step_lost _ zb86 zb86),ex18,f2,← ht,← e3,step_at hz.tail.head P3.ok (step_lost _ zb86 zb86),ex20,g3,t0,if_pos rfl]
  refine Prod.ext ?_ rfl
  simp only
  omega
end
open Go.RowKit Mc
theorem rounds_over (g:Int→RS→RS) {R:RS} (h:R.over=true):∀ (n:Nat) (i:Int),roundsR g n i R=R
 | 0,_=>rfl
 | n+1,i=>by rw [roundsR,if_pos h]
def Ref (R:RS):Prop:=R.refused=true→R.over=true
theorem rounds_ref (g:Int→RS→RS) (hg:∀ i R,Ref R→Ref (g i R)):∀ (n:Nat) (i:Int) (R:RS),Ref R→Ref (roundsR g n i R)
 | 0,_,_,h=>h
 | n+1,i,R,h=>by
  rw [roundsR]
  split
  ·exact h
  ·exact rounds_ref g hg n _ _ (hg i R h)
theorem do0_ref (V:List Vr) (seats kind:Int) (name:Str) (e:EF) (low:Int) {R:RS} (h:Ref R):Ref (do0 V seats kind name e low R):=by
 unfold do0
 repeat' split
 all_goals first | exact h | exact fun _=>rfl
theorem doB_ref (V:List Vr) (seats:Int):∀ (F:SF) (R:RS),Ref R→Ref (doB V seats F R)
 | .nil,_,h=>h
 | .cons kind name e low high l els r,R,h=>by
  rw [doB_cons]
  split
  ·exact h
  ·refine doB_ref V seats r _ ?_
   unfold doS
   split
   ·split
    ·exact doB_ref V seats l R h
    ·exact doB_ref V seats els R h
   ·split
    ·exact rounds_ref _ (fun i R' h'=>doB_ref V seats l { R' with binds:=R.binds ++ [(name,w32 i)] } h') _ _ _ h
    ·exact do0_ref _ _ _ _ _ _ h
section
variable {c:List Ins} {m m1:List Int} {k:Mk} {κ:Kn} {W:Wd} {f:Nat} {R R':RS} {pc pc1 pe pe':Int} {n n1:Nat}
theorem Out.seq (h1:itI c n1 (pc,0,m)=(pc1,0,m1)) (hK:Keep k f m m1) (h:Out c pc1 m1 n pe k κ W f R'):Out c pc m (n1+n) pe k κ W f R' :=
 ⟨fun q=>by
  obtain ⟨m',a,b,d,e⟩:=h.go q
  exact ⟨m',by rw [itI_add,h1];exact a,b,d,hK.trans e⟩,fun q=>by
  obtain ⟨p',m',a,b⟩:=h.halt q
  exact ⟨p',m',by rw [itI_add,h1];exact a,b⟩⟩
theorem Out.jump (h:Out c pc m n pe k κ W f R') (hok:okC c m.length) (hlen:(m.length:Int)=k.b+49) (hs:Seg c pe [⟨19,pe',0,0⟩]):Out c pc m (n+1) pe' k κ W f R' :=
 ⟨fun q=>by
  obtain ⟨m',a,b,d,e⟩:=h.go q
  have hl:m'.length=m.length:=by have:=b.len;omega
  refine ⟨m',?_,b,d,e⟩
  rw [itI_add,a,step_at hs.head (by rw [hl];exact hok) (step_lost _ zb86 zb86)]
  rfl,fun q=>by
  obtain ⟨p',m',a,b⟩:=h.halt q
  refine ⟨p',m',?_,b⟩
  rw [itI_add,a,itI_halt]
  simp only
  split <;> decide⟩
theorem Out.cast (h:Out c pc m n pe k κ W f R') (e:pe=pe'):Out c pc m n pe' k κ W f R':=by rw [← e];exact h
end
def SimB (k:Mk) (part:Nat) (F:SF):Prop:=∀ (κ:Kn) (W:Wd) (f:Nat) (top:Bool) (c:List Ins) (pc:Int) (m:List Int) (R:RS),chkB part κ f top F=none→F.size≤1099511627776→Pre c m k κ W f R→R.refused=false→Seg c pc (cB k F W f pc) →
 ∃ n,n≤costB F∧Out c pc m n (pc+(cB k F W f pc).length) k κ W f (doB k.V k.seats F R)
section
variable {c:List Ins} {m:List Int} {k:Mk} {κ:Kn} {W:Wd} {f:Nat} {R:RS} {pc:Int} {part:Nat}
theorem sim_if (h:Pre c m k κ W f R) (hr:R.refused=false) {e:EF} {l els:SF} (il:SimB k part l) (ix:SimB k part els) (hj:0 < e.len) (hc:chkE κ e=none) (hd:dp e≤12) (hcl:chkB part κ f false l=none) (hcx:chkB part κ f false els=none) (zl:l.size≤1099511627776) (zx:els.size≤1099511627776)
 (code:List Ins) (hcode:code=if els.isNil then cIf1 k pc (cE k W e 0 0) (cB k l W f (pc+(cE k W e 0 0).length+1))
  else cIf k pc (cE k W e 0 0) (cB k l W f (pc+(cE k W e 0 0).length+1)) (cB k els W f (pc+(cE k W e 0 0).length+1+(cB k l W f (pc+(cE k W e 0 0).length+1)).length+1)))
 (hs:Seg c pc code):∃ n,n≤3+costF e+max (costB l) (costB els)∧Out c pc m n (pc+code.length) k κ W f (if ev k.V R e 0 ≠ 0 then doB k.V k.seats l R else doB k.V k.seats els R):=by
 have hle:=len_le k W e 0 0
 have hle2:=costN_zero e
 obtain ⟨E,hE⟩:∃ E,E=cE k W e 0 0:=⟨_,rfl⟩
 obtain ⟨L,hL⟩:∃ L,L=cB k l W f (pc+E.length+1):=⟨_,rfl⟩
 rw [← hE] at hcode hle
 rw [← hL] at hcode
 by_cases hx:els.isNil=true
 ·rw [if_pos hx] at hcode
  have hnil:els=.nil:=by cases els <;> simp [SF.isNil] at hx ⊢
  unfold cIf1 at hcode
  rw [hcode] at hs ⊢
  obtain ⟨m1,r1,P1,K1,_,v1⟩:=h.expr hj hc hd (Int.le_refl 0) zb85 (by rw [← hE];exact hs.left.left)
  rw [← hE] at r1
  have hz:=hs
  rw [List.append_assoc] at hz
  have hjz:=hz.right
  by_cases q:ev k.V R e 0=0
  ·rw [if_neg (by simpa using q),hnil,doB]
   refine ⟨E.length+1,by omega,Out.goes (m':=m1) ?_ P1 K1⟩
   rw [itI_add,r1,step_at hjz.head P1.ok (step_lost _ zb86 zb86),ex20,v1,if_pos q]
   refine Prod.ext ?_ rfl
   simp only [List.length_append,List.length_cons,List.length_nil]
   omega
  ·rw [if_pos (by simpa using q)]
   have r2:itI c (E.length+1) (pc,0,m)=(pc+E.length+1,0,m1):=by
    rw [itI_add,r1,step_at hjz.head P1.ok (step_lost _ zb86 zb86),ex20,v1,if_neg q]
   obtain ⟨n,hn,ho⟩:=il κ W f false c (pc+E.length+1) m1 R hcl zl P1 hr (by rw [← hL];exact hjz.tail)
   refine ⟨E.length+1+n,by omega,(Out.seq r2 K1 ho).cast ?_⟩
   rw [← hL]
   simp only [List.length_append,List.length_cons,List.length_nil]
   omega
 ·rw [if_neg hx] at hcode
  obtain ⟨X,hX⟩:∃ X,X=cB k els W f (pc+E.length+1+L.length+1):=⟨_,rfl⟩
  rw [← hX] at hcode
  unfold cIf at hcode
  rw [hcode] at hs ⊢
  obtain ⟨m1,r1,P1,K1,_,v1⟩:=h.expr hj hc hd (Int.le_refl 0) zb85 (by rw [← hE];exact hs.left.left.left.left)
  rw [← hE] at r1
  have hz:=hs
  simp only [List.append_assoc] at hz
  have hjz:=hz.right
  have hl:=hjz.right
  have hjmp:=hl.right
  have hxx:=hjmp.right
  simp only [List.length_cons,List.length_nil] at hl hjmp hxx
  by_cases q:ev k.V R e 0=0
  ·rw [if_neg (by simpa using q)]
   have r2:itI c (E.length+1) (pc,0,m)=(pc+E.length+1+L.length+1,0,m1):=by
    rw [itI_add,r1,step_at hjz.head P1.ok (step_lost _ zb86 zb86),ex20,v1,if_pos q]
   obtain ⟨n,hn,ho⟩:=ix κ W f false c (pc+E.length+1+L.length+1) m1 R hcx zx P1 hr (by rw [← hX];exact hxx)
   refine ⟨E.length+1+n,by omega,(Out.seq r2 K1 ho).cast ?_⟩
   rw [← hX]
   simp only [List.length_append,List.length_cons,List.length_nil]
   omega
  ·rw [if_pos (by simpa using q)]
   have r2:itI c (E.length+1) (pc,0,m)=(pc+E.length+1,0,m1):=by
    rw [itI_add,r1,step_at hjz.head P1.ok (step_lost _ zb86 zb86),ex20,v1,if_neg q]
   obtain ⟨n,hn,ho⟩:=il κ W f false c (pc+E.length+1) m1 R hcl zl P1 hr (by rw [← hL];exact hl.left)
   rw [← hL] at ho
   refine ⟨E.length+1+(n+1),by omega,(Out.seq r2 K1 (Out.jump ho P1.ok P1.C.len (hjmp.left (b:=X)))).cast ?_⟩
   simp only [List.length_append,List.length_cons,List.length_nil]
   omega
end
end Go.Proofs.YtbfbabbcdochjaaGreatDoor.So
