/- Several texts joined: Cf, Im. -/
import Derived.MapKept
import Derived.Test.YtbfbabbcdochjaaGreatDoorRxpk
import Derived.Test.YtbfbabbcdochjaaGreatDoorRxac
import Derived.Test.YtbfbabbcdochjaaGreatDoorRxau
set_option maxHeartbeats 4000000
namespace Go.Proofs.YtbfbabbcdochjaaGreatDoor.So
open Go.RowKit Mc
theorem bindG_app (B:List (Str × Int)) (s t:Str) (v:Int) (h:bindG B s=none):bindG (B ++ [(s,v)]) t=if t=s then some v else bindG B t:=by
 unfold bindG at *
 rw [List.find?_append]
 by_cases e:t=s
 ·subst e
  rw [if_pos rfl]
  have hn:B.find? (fun x=>decide (x.1=t))=none:=by
   cases q:B.find? (fun x=>decide (x.1=t)) with
   | none=>rfl
   | some x=>rw [q] at h;simp at h
  rw [hn]
  simp
 ·rw [if_neg e]
  cases q:B.find? (fun x=>decide (x.1=t)) with
  | none=>simp [Ne.symm e]
  | some x=>simp
section
variable {c:List Ins} {k:Mk} {κ:Kn} {W:Wd} {f:Nat} {pc:Int} {part:Nat}
theorem NInv.into {B:List (Str × Int)} {m:List Int} {name:Str} {i:Int} (h:NInv k κ W f B m) (hn:κ name=0) (hu:mget m (upI k f)=i):NInv k (upd κ name 3) (updW W name (upI k f)) (f+1) (B ++ [(name,i)]) m:=by
 have hb:=h.no name hn
 refine ⟨fun s=>by unfold upd;split;exact Nat.le_refl 3;exact h.kn s,fun s q=>?_,fun s q=>?_,fun s q=>?_,fun s q=>?_⟩ <;> unfold upd at q <;> (try unfold updW) <;> by_cases e:s=name <;> simp only [e,if_true,if_false] at q ⊢
 ·omega
 ·obtain ⟨a1,a2,a3,a4,a5⟩:=h.one s q
  rw [bindG_app _ _ _ _ hb,if_neg e]
  exact ⟨a1,a2,a3,a4,a5⟩
 ·omega
 ·exact h.two s q
 ·refine ⟨.inr (by unfold upI;omega),i,?_,hu⟩
  rw [bindG_app _ _ _ _ hb,if_pos rfl]
 ·obtain ⟨a1,v,a2,a3⟩:=h.fix s q
  refine ⟨by omega,v,?_,a3⟩
  rw [bindG_app _ _ _ _ hb,if_neg e]
  exact a2
 ·omega
 ·rw [bindG_app _ _ _ _ hb,if_neg e]
  exact h.no s q
theorem Keep.less {k:Mk} {f:Nat} {m m':List Int} (h:Keep k (f+1) m m'):Keep k f m m':=⟨fun i h0 h1=>h.loops i h0 zb85,h.one,h.args⟩
theorem Pre.loopw {m:List Int} {R:RS} (h:Pre c m k κ W f R) {j v:Int} (h0:j=k.b+16∧v=1 ∨ k.b+17+2 * f≤j∧j < k.b+33) (hv:i32ok v) :
 Pre c (mput m j v) k κ W f R∧Keep k f m (mput m j v)∧mget (mput m j v) j=v∧∀ i,0≤i→¬ i=j→mget (mput m j v) i=mget m i:=by
 have hb:=h.st.b0
 have hl:=h.C.len
 have s:Same m (mput m j v) (k.b+16) (k.b+33):=Same.put zb85 zb85 zb85 zb85 hv
 have g:∀ i,0≤i→mget (mput m j v) i=if i=j then v else mget m i:=fun i hi=>mget_put v zb85 hi zb85
 have hK:Keep k f m (mput m j v):=⟨fun i h0 h1=>by rw [g i zb85,if_neg zb85],fun q=>by
  rw [g _ zb85]
  split
  ·omega
  ·exact q,fun i h0 h1=>by rw [g i zb85,if_neg zb85]⟩
 exact ⟨⟨h.st,h.f8,by rw [mput_len];exact h.ok,h.C.same h.st s (Int.le_refl _),h.N.keep hK,h.ov⟩,hK,by rw [g _ zb85,if_pos rfl],fun i hi hn=>by rw [g i hi,if_neg hn]⟩
theorem CInv.binds {m:List Int} {R:RS} (h:CInv k R m) (B:List (Str × Int)):CInv k { R with binds:=B } m :=
 ⟨h.len,h.ok,h.vlen,h.vars,h.seat,h.cell,h.sides,h.rest,h.alen,h.asks⟩
theorem CInv.same_of {m:List Int} {R R':RS} (h:CInv k R m) (e1:R'.vars=R.vars) (e2:R'.seat=R.seat) (e3:R'.cell=R.cell) (e4:R'.sides=R.sides) (e5:R'.asks=R.asks) (e6:R'.rest=R.rest):CInv k R' m :=
 ⟨h.len,h.ok,by rw [e1];exact h.vlen,by rw [e1];exact h.vars,by rw [e2];exact h.seat,by rw [e3];exact h.cell,by rw [e4];exact h.sides,by rw [e6];exact h.rest,by rw [e5];exact h.alen,by rw [e5];exact h.asks⟩
theorem sim_rounds {name:Str} {l:SF} (il:SimB k part l) (hn:κ name=0) (f8:f < 8) (hcl:chkB part (upd κ name 3) (f+1) false l=none) (zl:l.size≤1099511627776) (B0:List (Str × Int)) (B:List Ins) (hB:B=cB k l (updW W name (upI k f)) (f+1) pc)
 (hs:Seg c pc (B ++ [⟨3,upI k f,upI k f,k.b+16⟩,⟨4,upI k f+1,upI k f+1,k.b+16⟩,⟨21,pc,upI k f+1,0⟩])):∀ (n:Nat) (i:Int) (m:List Int) (R:RS),1≤n→i32ok i→i+n - 1≤2147483647→n≤100→Pre c m k κ W f { R with binds:=B0 }→Ref R→mget m (upI k f)=i→mget m (upI k f+1)=n→mget m (k.b+16)=1 →
 ∃ t,t≤n * (3+costB l)∧Out c pc m t (pc+B.length+3) k κ W f { roundsR (fun i R'=>doB k.V k.seats l { R' with binds:=B0 ++ [(name,w32 i)] }) n i R with binds:=B0 }
 | 0,_,_,_,h1,_,_,_,_,_,_,_,_=>by omega
 | n+1,i,m,R,_,hi,hhi,hn100,hP,hR,hu,hl,ho=>by
  have hb:=hP.st.b0
  have hup:upI k f=k.b+17+2 * f:=rfl
  obtain ⟨g,hg⟩:∃ g:Int→RS→RS,g=(fun i R'=>doB k.V k.seats l { R' with binds:=B0 ++ [(name,w32 i)] }):=⟨_,rfl⟩
  rw [← hg]
  have hov:R.over=false:=hP.ov
  rw [roundsR,if_neg (by rw [hov];decide)]
  obtain ⟨R3,hR3⟩:∃ R3,R3=g i R:=⟨_,rfl⟩
  rw [← hR3]
  have hP2:Pre c m k (upd κ name 3) (updW W name (upI k f)) (f+1) { R with binds:=B0 ++ [(name,i)] } :=
   ⟨hP.st,by omega,hP.ok,hP.C.same_of rfl rfl rfl rfl rfl rfl,hP.N.into hn hu,hov⟩
  have hrf:R.refused=false:=by
   rw [← Bool.not_eq_true]
   intro q
   have:=hR q
   rw [hov] at this
   cases this
  obtain ⟨t1,ht1,hO⟩:=il (upd κ name 3) (updW W name (upI k f)) (f+1) false c pc m { R with binds:=B0 ++ [(name,i)] } hcl zl hP2 hrf (by rw [← hB];exact hs.left)
  rw [← hB] at hO
  have e3:doB k.V k.seats l { R with binds:=B0 ++ [(name,i)] }=R3:=by rw [hR3,hg];simp only [w32_id hi]
  rw [e3] at hO
  have hR3r:Ref R3:=by
   rw [← e3]
   exact doB_ref _ _ _ _ hR
  by_cases hov3:R3.over=true
  ·rw [rounds_over g hov3]
   obtain ⟨p',m',a,b⟩:=hO.halt hov3
   refine ⟨t1,?_,Out.halts (pc':=p') (m':=m') hov3 a (b.binds B0)⟩
   rw [Nat.succ_mul]
   omega
  ·have hov3':R3.over=false:=by simpa using hov3
   obtain ⟨m4,r4,C4,N4,K4⟩:=hO.go hov3'
   have u4:mget m4 (upI k f)=i:=by rw [K4.loops _ zb85 zb85];exact hu
   have l4:mget m4 (upI k f+1)=(n+1:Nat):=by rw [K4.loops _ zb85 zb85];exact hl
   have o4:mget m4 (k.b+16)=1:=K4.one ho
   have len4:m4.length=m.length:=by have:=C4.len;have:=hP.C.len;omega
   have P4:Pre c m4 k κ W f { R3 with binds:=B0 }:=⟨hP.st,hP.f8,by rw [len4];exact hP.ok,C4.binds B0,hP.N.keep K4.less,hov3'⟩
   have hz:=hs.right
   obtain ⟨P5,K5,g5,q5⟩:=P4.loopw (j:=upI k f) (v:=w32 (i+1)) (.inr zb85) (w32_ok _)
   obtain ⟨m5,e5⟩:∃ m5,m5=mput m4 (upI k f) (w32 (i+1)):=⟨_,rfl⟩
   rw [← e5] at P5 K5 g5 q5
   have l5:mget m5 (upI k f+1)=(n+1:Nat):=by rw [q5 _ zb85 zb85];exact l4
   have o5:mget m5 (k.b+16)=1:=by rw [q5 _ zb85 zb85];exact o4
   obtain ⟨P6,K6,g6,q6⟩:=P5.loopw (j:=upI k f+1) (v:=(n:Int)) (.inr zb85) zb73
   obtain ⟨m6,e6⟩:∃ m6,m6=mput m5 (upI k f+1) (n:Int):=⟨_,rfl⟩
   rw [← e6] at P6 K6 g6 q6
   have u6:mget m6 (upI k f)=w32 (i+1):=by rw [q6 _ zb85 zb85];exact g5
   have o6:mget m6 (k.b+16)=1:=by rw [q6 _ zb85 zb85];exact o5
   have s5:itI c 1 (pc+B.length,0,m4)=(pc+B.length+1,0,m5):=by
    rw [step_at hz.head P4.ok (step_lost _ zb86 zb86),ex3 zb85,u4,o4]
    rw [show twoI (3:Int).toNat i 1=w32 (i+1) from rfl,← e5]
   have s6:itI c 1 (pc+B.length+1,0,m5)=(pc+B.length+1+1,0,m6):=by
    rw [step_at hz.tail.head P5.ok (step_lost _ zb86 zb86),ex3 zb85,l5,o5]
    rw [show twoI (4:Int).toNat ((n+1:Nat):Int) 1=w32 (((n+1:Nat):Int) - 1) from rfl,show w32 (((n+1:Nat):Int) - 1)=n by rw [w32_id zb73];omega,← e6]
   have s7:itI c 1 (pc+B.length+1+1,0,m6)=((if (n:Int)=0 then pc+B.length+1+1+1 else pc),0,m6):=by
    rw [step_at hz.tail.tail.head P6.ok (step_lost _ zb86 zb86),ex21,g6]
   have sA:itI c (t1+3) (pc,0,m)=((if (n:Int)=0 then pc+B.length+1+1+1 else pc),0,m6):=by
    rw [itI_add,r4,show 3=1+(1+1) from rfl,itI_add,s5,itI_add,s6,s7]
   have KA:Keep k f m m6:=(K4.less.trans K5).trans K6
   by_cases hn0:n=0
   ·subst hn0
    rw [roundsR]
    refine ⟨t1+3,by omega,Out.goes (m':=m6) ?_ P6 KA⟩
    rw [sA,if_pos zb85]
    refine Prod.ext ?_ rfl
    simp only
    omega
   ·rw [if_neg zb85] at sA
    obtain ⟨t2,ht2,hO2⟩:=sim_rounds il hn f8 hcl zl B0 B hB hs n (i+1) m6 R3 zb85 (by unfold i32ok at *;omega) zb85 zb85 P6 hR3r (by rw [u6,w32_id (by unfold i32ok at *;omega)]) (by rw [g6]) o6
    rw [← hg] at hO2
    refine ⟨t1+3+t2,?_,Out.seq sA KA hO2⟩
    rw [Nat.succ_mul]
    omega
theorem sim_for {m:List Int} {R:RS} (h:Pre c m k κ W f R) (hr:Ref R) {name:Str} {low high:Int} {l:SF} (il:SimB k part l) (hn:κ name=0) (f8:f < 8) (hcl:chkB part (upd κ name 3) (f+1) false l=none) (zl:l.size≤1099511627776)
 (hlo:i32ok low) (hhi:i32ok high) (h63:high - low≤63) (code:List Ins) (hcode:code=if high < low then [] else cFor k f pc low high (cB k l (updW W name (upI k f)) (f+1) (pc+3))) (hs:Seg c pc code) :
 ∃ n,n≤3+(if low≤high then ((min (high - low) 65536).toNat+1) * (4+costB l) else 0)∧Out c pc m n (pc+code.length) k κ W f { roundsR (fun i R'=>doB k.V k.seats l { R' with binds:=R.binds ++ [(name,w32 i)] }) (high - low+1).toNat low R with binds:=R.binds }:=by
 have hb:=h.st.b0
 have hup:upI k f=k.b+17+2 * f:=rfl
 by_cases q:high < low
 ·rw [if_pos q] at hcode
  rw [show (high - low+1).toNat=0 by omega,roundsR,hcode]
  refine ⟨0,by omega,Out.goes (m':=m) ?_ h (Keep.refl _ _ _)⟩
  simp [itI]
 ·rw [if_neg q] at hcode
  rw [if_pos zb85]
  obtain ⟨B,hB⟩:∃ B,B=cB k l (updW W name (upI k f)) (f+1) (pc+3):=⟨_,rfl⟩
  rw [← hB] at hcode
  unfold cFor at hcode
  rw [hcode] at hs ⊢
  have hz:=hs
  rw [List.append_assoc] at hz
  have hh:=hz.left
  have hbody:=hz.right
  simp only [List.length_cons,List.length_nil] at hbody
  obtain ⟨P1,K1,g1,q1⟩:=h.loopw (j:=k.b+16) (v:=1) (.inl ⟨rfl,rfl⟩) zb73
  obtain ⟨m1,e1⟩:∃ m1,m1=mput m (k.b+16) 1:=⟨_,rfl⟩
  rw [← e1] at P1 K1 g1 q1
  obtain ⟨P2,K2,g2,q2⟩:=P1.loopw (j:=upI k f) (v:=low) (.inr zb85) hlo
  obtain ⟨m2,e2⟩:∃ m2,m2=mput m1 (upI k f) low:=⟨_,rfl⟩
  rw [← e2] at P2 K2 g2 q2
  have o2:mget m2 (k.b+16)=1:=by rw [q2 _ zb85 zb85];exact g1
  obtain ⟨P3,K3,g3,q3⟩:=P2.loopw (j:=upI k f+1) (v:=high - low+1) (.inr zb85) zb73
  obtain ⟨m3,e3⟩:∃ m3,m3=mput m2 (upI k f+1) (high - low+1):=⟨_,rfl⟩
  rw [← e3] at P3 K3 g3 q3
  have o3:mget m3 (k.b+16)=1:=by rw [q3 _ zb85 zb85];exact o2
  have u3:mget m3 (upI k f)=low:=by rw [q3 _ zb85 zb85];exact g2
  have s3:itI c 3 (pc,0,m)=(pc+3,0,m3):=by
   refine fin_ (seq_cons (m1:=m1) hh h.ok (step_lost _ zb86 zb86) (by rw [ex1,← e1]) (seq_cons (m1:=m2) hh.tail P1.ok (step_lost _ zb86 zb86) (by rw [ex1,← e2]) (seq_cons (m1:=m3) hh.tail.tail P2.ok (step_lost _ zb86 zb86) (by rw [ex1,← e3]) rfl))) ?_ ?_
   ·rfl
   ·omega
  unfold i32ok at hhi hlo
  obtain ⟨t,ht,hO⟩:=sim_rounds il hn f8 hcl zl R.binds B hB hbody (high - low+1).toNat low m3 R zb85 zb73 zb85 zb85 P3 hr u3 (by rw [g3];omega) o3
  refine ⟨3+t,?_,(Out.seq s3 ((K1.trans K2).trans K3) hO).cast ?_⟩
  ·have e:(high - low+1).toNat=(min (high - low) 65536).toNat+1:=by omega
   rw [e] at ht
   have:((min (high - low) 65536).toNat+1) * (3+costB l)≤((min (high - low) 65536).toNat+1) * (4+costB l):=Nat.mul_le_mul_left _ zb85
   omega
  ·simp only [List.length_append,List.length_cons,List.length_nil]
   omega
theorem named_get {kind low high:Int} {name:Str} (h:named κ kind name low high f=none):((kind=0 ∨ kind=5)→κ name=1)∧(kind=1→κ name=2)∧(kind=5→2≤low∧low≤1000)∧(kind=3→κ name=0∧i32ok low∧i32ok high∧high - low≤63∧f < 8):=by
 unfold named target loop at h
 refine ⟨fun q=>?_,fun q=>?_,fun q=>?_,fun q=>?_⟩
 ·rw [if_pos zb85,ored_eq_none,ored_eq_none,if_neg (show ¬ kind=1 by omega)] at h
  simpa using must_none.1 h.2.1
 ·rw [if_pos zb85,ored_eq_none,ored_eq_none,must_none,must_none,if_pos q] at h
  simpa using h.2.1
 ·rw [if_pos zb85,ored_eq_none,ored_eq_none,if_pos q,must_none,must_none,must_none] at h
  have:=h.2.2
  unfold btw at this
  simpa using this
 ·rw [if_neg zb85,if_pos q,ored_eq_none,ored_eq_none,ored_eq_none,must_none,must_none,must_none,must_none] at h
  obtain ⟨_,h1,h2,h3⟩:=h
  unfold word at h2
  simp at h1 h2 h3
  exact ⟨h1,by unfold i32ok;omega,by unfold i32ok;omega,h2.2,h3⟩
theorem sim_stmt {m:List Int} {R:RS} (h:Pre c m k κ W f R) (hr:Ref R) (hb64:k.b≤64) {last:Bool} {kind:Int} {name:Str} {e:EF} {low high:Int} {l els:SF} (hc:chkS part κ f last kind name e low high l els=none) (ze:e.size≤1099511627776) (zl:l.size≤1099511627776) (zx:els.size≤1099511627776)
 (il:SimB k part l) (ix:SimB k part els) (hs:Seg c pc (cS k W f pc kind name e low high l els)) :
 ∃ n,n≤(ownS kind+(if hasE kind then costF e else 0)+if kind=2 then max (costB l) (costB els) else if kind=3∧low≤high then ((min (high - low) 65536).toNat+1) * (4+costB l) else 0) ∧
  Out c pc m n (pc+(cS k W f pc kind name e low high l els).length) k κ W f (doS k.V k.seats kind name e low high l els R):=by
 unfold chkS at hc
 rw [ored_eq_none,ored_eq_none,ored_eq_none,ored_eq_none,must_none,Bool.and_eq_true] at hc
 obtain ⟨⟨hk,hlen⟩,_,hnm,hD,hrest⟩:=hc
 have hk':0≤kind∧kind≤9:=by simpa [btw] using hk
 have hlen':e.len=stmtParts kind:=by simpa using hlen
 obtain ⟨nm1,nm2,nm3,nm4⟩:=named_get hnm
 obtain ⟨hE,hd⟩:=chkD_E hD ze
 have hov:=h.ov
 have hrf:R.refused=false:=by
  rw [← Bool.not_eq_true]
  intro q
  have:=hr q
  rw [hov] at this
  cases this
 have L00:=len_le k W e 0 0
 have L11:=len_le k W e 1 1
 have L10:=len_le k W e 1 0
 have L01:=len_le k W e 0 1
 have cz:=costN_zero e
 have co:=costN_one e
 rcases (by omega:kind=0 ∨ kind=1 ∨ kind=2 ∨ kind=3 ∨ kind=4 ∨ kind=5 ∨ kind=6 ∨ kind=7 ∨ kind=8 ∨ kind=9) with rfl | rfl | rfl | rfl | rfl | rfl | rfl | rfl | rfl | rfl
 ·exact ⟨_,by simp [ownS,hasE];omega,(sim_assign h zb76 hE hd (nm1 (.inl rfl)) hs).cast (by simp [cS,cS0])⟩
 ·obtain ⟨n,hn,ho⟩:=sim_put h zb76 hE hd (nm2 rfl) hs
  exact ⟨n,by simp [ownS,hasE];omega,ho.cast (by simp [cS,cS0];omega)⟩
 ·simp only [if_true,ored_eq_none] at hrest
  obtain ⟨n,hn,ho⟩:=sim_if h hrf il ix zb76 hE hd hrest.1 hrest.2 zl zx _ rfl hs
  exact ⟨n,by simp only [ownS,hasE];simp;omega,ho⟩
 ·obtain ⟨a1,a2,a3,a4,a5⟩:=nm4 rfl
  have hrest':chkB part (upd κ name 3) (f+1) false l=none:=by simpa using hrest
  obtain ⟨n,hn,ho⟩:=sim_for h hr il a1 a5 hrest' zl a2 a3 a4 _ rfl hs
  refine ⟨n,?_,ho⟩
  simp only [ownS,hasE]
  simp
  omega
 ·exact ⟨1,by simp [ownS];omega,sim_refuse h hs⟩
 ·exact ⟨2,by simp [ownS];omega,sim_roll h (nm1 (.inr rfl)) (by have:=nm3 rfl;unfold i32ok;omega) hs hb64⟩
 ·exact ⟨_,by simp [ownS,hasE];omega,(sim_seat h zb76 hE hd hs hrf).cast (by simp [cS,cS0])⟩
 ·exact ⟨2,by simp [ownS],sim_over h hs hrf⟩
 ·exact ⟨_,by simp [ownS,hasE];omega,(sim_pay h zb76 hE hd hs).cast (by simp [cS,cS0,someI];omega)⟩
 ·exact ⟨_,by simp [ownS,hasE];omega,(sim_rest h zb76 hE hd hs).cast (by simp [cS,cS0,someI])⟩
theorem simB (k:Mk) (part:Nat) (hb64:k.b≤64):∀ F:SF,SimB k part F
 | .nil=>fun κ W f top c pc m R _ _ hP _ _=>⟨0,Nat.zero_le _,Out.goes (m':=m) (by simp [itI,cB]) hP (Keep.refl _ _ _)⟩
 | .cons kind name e low high l els r=>fun κ W f top c pc m R hc hz hP hrf hs=>by
  rw [chkB_cons,ored_eq_none] at hc
  simp only [SF.size] at hz
  rw [cB_cons] at hs ⊢
  have hR:Ref R:=fun q=>absurd q (by rw [hrf];decide)
  obtain ⟨n1,hn1,ho1⟩:=sim_stmt hP hR hb64 hc.1 zb85 zb85 zb85 (simB k part hb64 l) (simB k part hb64 els) hs.left
  rw [doB_cons,if_neg (by rw [hP.ov];decide)]
  obtain ⟨R1,hR1⟩:∃ R1,R1=doS k.V k.seats kind name e low high l els R:=⟨_,rfl⟩
  rw [← hR1] at ho1 ⊢
  have hRef1:Ref R1:=by
   have:=doB_ref k.V k.seats (.cons kind name e low high l els .nil) R hR
   rw [doB_cons,if_neg (by rw [hP.ov];decide),doB,← hR1] at this
   exact this
  rw [costB]
  by_cases q:R1.over=true
  ·have:doB k.V k.seats r R1=R1:=by
    cases r with
    | nil=>rfl
    | cons=>rw [doB_cons,if_pos q]
   rw [this]
   obtain ⟨p',m',a,b⟩:=ho1.halt q
   exact ⟨n1,by omega,Out.halts q a b⟩
  ·have q':R1.over=false:=by simpa using q
   obtain ⟨m1,r1,C1,N1,K1⟩:=ho1.go q'
   have P1:Pre c m1 k κ W f R1:=⟨hP.st,hP.f8,by
    have:m1.length=m.length:=by have:=C1.len;have:=hP.C.len;omega
    rw [this];exact hP.ok,C1,N1,q'⟩
   have hrf1:R1.refused=false:=by
    rw [← Bool.not_eq_true]
    intro hq
    exact q (hRef1 hq)
   obtain ⟨n2,hn2,ho2⟩:=simB k part hb64 r κ W f top c _ m1 R1 hc.2 zb85 P1 hrf1 hs.right
   refine ⟨n1+n2,by omega,(Out.seq r1 K1 ho2).cast ?_⟩
   rw [List.length_append]
   omega
end
end Go.Proofs.YtbfbabbcdochjaaGreatDoor.So
namespace Go.Proofs.YtbfbabbcdochjaaGreatDoor
open Go.RowKit
def IMap (w:World) (g:Nat) (f:Int→Option Value):Prop :=
 ∃ es clock,w.heap[g]?=some (.map es clock)∧(∀ x ∈ es.toList,MapKept.IsKey (.int .i64) x.key)∧(es.toList.map (·.key)).Nodup∧∀ s v,f s=some v ↔ ∃ x ∈ es.toList,x.key=.int .i64 s∧x.val=v
section
variable {P:Program} {w w':World} {g:Nat} {f:Int→Option Value} {mt kt et:TypeId}
theorem IMap.lt (h:IMap w g f):g < w.heap.size:=by
 obtain ⟨_,_,hb,_⟩:=h
 exact (Array.getElem?_eq_some_iff.1 hb).1
theorem IMap.kept {S:Nat→Prop} (h:IMap w g f) (hk:Kept S w w') (hs:¬ S g):IMap w' g f:=by
 have hl:=h.lt
 obtain ⟨es,clock,hb,r⟩:=h
 exact ⟨es,clock,(hk.block g hl hs).trans hb,r⟩
theorem IMap.ext (h:IMap w g f) (hk:Ext w w'):IMap w' g f:=h.kept hk (fun f=>f)
theorem IMap.cong {f':Int→Option Value} (h:IMap w g f) (e:∀ s,f s=f' s):IMap w g f':=by
 obtain ⟨es,clock,hb,hk,hn,hm⟩:=h
 exact ⟨es,clock,hb,hk,hn,fun s v=>by rw [← e];exact hm s v⟩
theorem IMap.made (w:World):IMap (w.alloc (.map #[] 0)) w.heap.size (fun _=>none) :=
 ⟨#[],0,(MapKept.heap_alloc w _).1,by simp,by simp,by simp⟩
theorem key_int (s:Int):MapKept.IsKey (.int .i64) (.int .i64 s):=by simp [MapKept.IsKey]
theorem IMap.find (h:IMap w g f) (s:Int):∃ es clock,w.heap[g]?=some (.map es clock)∧(∀ x ∈ es.toList,MapKept.IsKey (.int .i64) x.key)∧(es.toList.map (·.key)).Nodup∧(∀ s v,f s=some v ↔ ∃ x ∈ es.toList,x.key=.int .i64 s∧x.val=v) ∧
 ((Instr.findNow (.int .i64) (.int .i64 s) es.toList 0=some none∧f s=none∧∀ x ∈ es.toList,x.key ≠ .int .i64 s) ∨ ∃ j e,Instr.findNow (.int .i64) (.int .i64 s) es.toList 0=some (some (j,e.val))∧es.toList[j]?=some e∧e.key=.int .i64 s∧f s=some e.val):=by
 obtain ⟨es,clock,hb,hk,hn,hm⟩:=h
 refine ⟨es,clock,hb,hk,hn,hm,?_⟩
 rcases MapKept.findNow_spec (key_int s) es.toList 0 hk with ⟨h1,h2⟩ | ⟨j,e,h1,h2,h3⟩
 ·refine .inl ⟨h1,?_,h2⟩
  cases hf:f s with
  | none=>rfl
  | some v =>
   obtain ⟨x,hx,he,_⟩:=(hm s v).1 hf
   exact absurd he (h2 x hx)
 ·rw [Nat.zero_add] at h1
  exact .inr ⟨j,e,h1,h2,h3,(hm s e.val).2 ⟨e,List.mem_of_getElem? h2,h3,rfl⟩⟩
theorem IMap.look (h:IMap w g f) (hu:P.underlying mt=some (.map kt et)) (hk:P.underlying kt=some (.int .i64)) {z:Value} (hz:∀ w:World,(zeroValue et).run P w=.ok z w) (s:Int) :
 (Instr.lookup mt (.map (some g)) (.int .i64 s) false).run P w=.ok ((f s).getD z) w:=by
 exact zz49
theorem IMap.look_ok (h:IMap w g f) (hu:P.underlying mt=some (.map kt et)) (hk:P.underlying kt=some (.int .i64)) {z:Value} (hz:∀ w:World,(zeroValue et).run P w=.ok z w) (s:Int) :
 (Instr.lookup mt (.map (some g)) (.int .i64 s) true).run P w=.ok (.tuple #[(f s).getD z,.bool (f s).isSome]) w:=by
 exact zz49
theorem IMap.put (h:IMap w g f) (hu:P.underlying mt=some (.map kt et)) (hk:P.underlying kt=some (.int .i64)) (s:Int) (v:Value) :
 ∃ w',(Instr.mapUpdate mt (.map (some g)) (.int .i64 s) v).run P w=.ok () w'∧IMap w' g (fun t=>if t=s then some v else f t)∧Kept (·=g) w w':=by
 obtain ⟨es,clock,hb,hks,hn,hm,⟨h1,hf,hnew⟩ | ⟨j,e,h1,h2,h3,h4⟩⟩:=h.find s
 ·refine ⟨{ w with heap:=w.heap.setIfInBounds g (.map (es.push ⟨.int .i64 s,v,clock⟩) (clock+1)) },?_,⟨_,_,(MapKept.heap_set hb).1,?_,?_,?_⟩,keep_set⟩
  ·simp [Instr.mapUpdate,run_underlying hu,MapKept.run_getObj_map hb,MapKept.run_checkKey hk (key_int s),MapKept.run_findKey hk h1,MapKept.run_setObj_map _ hb,Result.andThen]
  ·intro x hx
   simp only [Array.toList_push,List.mem_append,List.mem_singleton] at hx
   rcases hx with hx | rfl
   ·exact hks x hx
   ·exact key_int s
  ·rw [Array.toList_push,List.map_append]
   refine List.nodup_append.2 ⟨hn,by simp,fun a ha b hb' e=>?_⟩
   obtain ⟨x,hx,rfl⟩:=List.mem_map.1 ha
   simp at hb'
   subst hb'
   exact hnew x hx e
  ·intro t u
   show (if t=s then some v else f t)=some u ↔ _
   simp only [Array.toList_push,List.mem_append,List.mem_singleton]
   by_cases e:t=s
   ·subst e
    rw [if_pos rfl]
    constructor
    ·intro q
     cases q
     exact ⟨_,.inr rfl,rfl,rfl⟩
    ·rintro ⟨x,hx | rfl,hxk,hxv⟩
     ·exact absurd hxk (hnew x hx)
     ·rw [← hxv]
   ·rw [if_neg e,hm]
    constructor
    ·rintro ⟨x,hx,hxk,hxv⟩
     exact ⟨x,.inl hx,hxk,hxv⟩
    ·rintro ⟨x,hx | rfl,hxk,hxv⟩
     ·exact ⟨x,hx,hxk,hxv⟩
     ·injection hxk with _ hxk
      exact absurd hxk.symm e
 ·have hj:es[j]?=some e:=by simpa using h2
  have hkey:∀ e',es[j]?=some e'→({ e' with key:=.int .i64 s,val:=v }:MapEntry).key=e'.key:=fun e' he'=>by rw [hj] at he';cases he';exact h3.symm
  have hjl:j < es.size:=(Array.getElem?_eq_some_iff.1 hj).1
  refine ⟨{ w with heap:=w.heap.setIfInBounds g (.map (es.modify j fun e=>{ e with key:=.int .i64 s,val:=v }) clock) },?_,⟨_,_,(MapKept.heap_set hb).1,MapKept.isKey_modify hks _ _ hkey,?_,?_⟩,keep_set⟩
  ·simp [Instr.mapUpdate,run_underlying hu,MapKept.run_getObj_map hb,MapKept.run_checkKey hk (key_int s),MapKept.run_findKey hk h1,hj,h3,MapKept.run_keyThatStays (key_int s),MapKept.run_setObj_map _ hb,Result.andThen]
  ·rw [MapKept.modify_keys _ _ hkey]
   exact hn
  ·have hat:∀ i,(es.modify j fun e=>{ e with key:=.int .i64 s,val:=v }).toList[i]?=if i=j then some ⟨.int .i64 s,v,e.born⟩ else es.toList[i]?:=fun i=>by
    rw [Array.getElem?_toList,Array.getElem?_modify]
    by_cases ei:i=j
    ·subst ei;simp [hj]
    ·rw [if_neg (fun q=>ei q.symm),if_neg ei,Array.getElem?_toList]
   have huni:∀ i x,es.toList[i]?=some x→x.key=.int .i64 s→i=j:=fun i x hx hxk=>by
    exact zz41
   intro t u
   show (if t=s then some v else f t)=some u ↔ _
   by_cases et':t=s
   ·subst et'
    rw [if_pos rfl]
    constructor
    ·intro q
     cases q
     exact ⟨⟨.int .i64 t,v,e.born⟩,List.mem_of_getElem? (i:=j) (by rw [hat,if_pos rfl]),rfl,rfl⟩
    ·rintro ⟨x,hx,hxk,hxv⟩
     obtain ⟨i,hi⟩:=List.getElem?_of_mem hx
     rw [hat] at hi
     split at hi
     ·cases hi
      rw [← hxv]
     ·rename_i hne
      exact absurd (huni i x hi hxk) hne
   ·rw [if_neg et',hm]
    constructor
    ·rintro ⟨x,hx,hxk,hxv⟩
     obtain ⟨i,hi⟩:=List.getElem?_of_mem hx
     have hne:¬ i=j:=fun q=>by
      subst q
      rw [h2] at hi
      cases hi
      rw [h3] at hxk
      injection hxk with _ hxk
      exact et' hxk.symm
     exact ⟨x,List.mem_of_getElem? (i:=i) (by rw [hat,if_neg hne];exact hi),hxk,hxv⟩
    ·rintro ⟨x,hx,hxk,hxv⟩
     obtain ⟨i,hi⟩:=List.getElem?_of_mem hx
     rw [hat] at hi
     split at hi
     ·cases hi
      injection hxk with _ hxk
      exact absurd hxk.symm et'
     ·exact ⟨x,List.mem_of_getElem? hi,hxk,hxv⟩
end
end Go.Proofs.YtbfbabbcdochjaaGreatDoor
