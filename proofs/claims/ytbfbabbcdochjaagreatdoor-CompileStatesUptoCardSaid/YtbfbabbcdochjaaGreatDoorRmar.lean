/- Several texts joined: Cs, Cq, Cl. -/
import Derived.Test.YtbfbabbcdochjaaGreatDoorRmpk
import Derived.Test.YtbfbabbcdochjaaGreatDoorRmaq
set_option maxHeartbeats 4000000
set_option maxRecDepth 100000
namespace Go.Proofs.YtbfbabbcdochjaaGreatDoor.So
open Go.RowKit Mc
def xX:EF->Nat->Nat
 | .nil,_=>0
 | .cons _ _ _ _ r,j+1=>xX r j
 | .cons op _ _ kids _,0=>FP op+if op=0∨op=1 then 0 else iA kids
theorem rE (F:EF):xX F 0<=iA F:=by cases F<;>simp [xX,iA]
theorem Gd:∀F:EF,xX F 0+xX F 1<=iA F
 | .nil=>Nat.le_refl _
 | .cons op n name k r=>by have:=rE r;simp only [xX,iA];omega
theorem pQ (k:Mk) (W:Wd):∀(F:EF) (j:Nat) (tw:Int),(cE k W F j tw).length<=xX F j
 | .nil,_,_=>by simp [cE]
 | .cons _ _ _ _ r,j+1,tw=>by rw [cE,xX];exact pQ k W r j tw
 | .cons op n name kids r,0,tw=>by
  have h0:=pQ k W kids 0 tw;have h1:=pQ k W kids 1 (tw+1);have h2:=pQ k W kids 1 tw;have h3:=pQ k W kids 0 (tw+1);have h4:=rE kids;have h5:=Gd kids;rw [cE,xX]
  by_cases o0:op=0
  ·simp [o0,FP]
  rw [if_neg o0]
  by_cases o1:op=1
  ·simp [o1,FP]
  rw [if_neg o1,if_neg (show¬(op=0∨op=1)by omega)]
  by_cases o2:op=2
  ·rw [if_pos o2,show FP op=6 by unfold FP;rw [if_neg aj,if_pos o2]];simp only [List.length_append,List.length_cons,List.length_nil];omega
  rw [if_neg o2,show FP op=2 by unfold FP;rw [if_neg aj,if_neg o2]]
  by_cases o3:op=3
  ·rw [if_pos o3];simp only [List.length_append,List.length_cons,List.length_nil];omega
  rw [if_neg o3]
  by_cases o4:op=4
  ·rw [if_pos o4];simp only [List.length_append,List.length_cons,List.length_nil];omega
  rw [if_neg o4]
  split<;>simp only [List.length_append,List.length_cons,List.length_nil]<;>omega
structure Pre (c:List Ins) (m:List Int) (k:Mk) (κ:Kn) (W:Wd) (f:Nat) (R:RS):Prop where
 st:Stat k
 f8:f<=8
 ok:ND c m.length
 C:nG k R m
 N:FE k κ W f R.binds m
 ov:R.over=false
theorem Pre.expr {c:List Ins} {m:List Int} {k:Mk} {κ:Kn} {W:Wd} {f:Nat} {R:RS} (h:Pre c m k κ W f R) {F:EF} {j:Nat} {tw pc:Int} (hj:j<F.len) (hc:gq κ F=none) (hd:dp F<=12) (h0:0<=tw) (h4:tw<=4) (hs:Seg c pc (cE k W F j tw)):
 ∃m',jU c (cE k W F j tw).length (pc,0,m)=(pc+(cE k W F j tw).length,0,m')/\Pre c m' k κ W f R/\Keep k f m m'/\Same m m' (fr k.b tw) (fr k.b 16)/\aV m' (fr k.b tw)=ev k.V R F j:=by
 have hdj:=DK F j;obtain⟨m',r,s,v⟩:=JI F j tw pc m hj hc h0 aj hs h.ok (NI.of h.st h.f8 h.C h.N);have hK:=Keep.of_same h.st h.f8 s bP;exact⟨m',r,⟨h.st,h.f8,by rw [s.len];exact h.ok,h.C.same h.st s bP,h.N.keep hK,h.ov⟩,hK,s,v⟩
theorem Pre.put {c:List Ins} {m:List Int} {k:Mk} {κ:Kn} {W:Wd} {f:Nat} {R:RS} (h:Pre c m k κ W f R) {j v:Int} (h0:0<=j) (h1:j<16) (hv:au v):Pre c (cO m (fr k.b j) v) k κ W f R/\Keep k f m (cO m (fr k.b j) v)/\aV (cO m (fr k.b j) v) (fr k.b j)=v/\∀i,0<=i->¬i=fr k.b j->aV (cO m (fr k.b j) v) i=aV m i:=by
 have hb:=h.st.b0;have hl:=h.C.len;have s:Same m (cO m (fr k.b j) v) (fr k.b 0) (fr k.b 16):=Same.put bP bP bP bP hv;have hK:=Keep.of_same h.st h.f8 s bP;refine⟨⟨h.st,h.f8,by rw [s.len];exact h.ok,h.C.same h.st s bP,h.N.keep hK,h.ov⟩,hK,?_,λi hi hn=>?_⟩
 ·rw [eP v bP bP bP,if_pos rfl]
 ·rw [eP v bP hi bP,if_neg hn]
theorem Out.goes {c:List Ins} {pc:Int} {m:List Int} {n:Nat} {pe:Int} {k:Mk} {κ:Kn} {W:Wd} {f:Nat} {R':RS} {m':List Int} (h:jU c n (pc,0,m)=(pe,0,m')) (hP:Pre c m' k κ W f R') (hK:Keep k f m m'):Out c pc m n pe k κ W f R':=
 ⟨λ_=>⟨m',h,hP.C,hP.N,hK⟩,λq=>absurd q (by rw [hP.ov];decide)⟩
theorem Out.Lr {c:List Ins} {pc:Int} {m:List Int} {n:Nat} {pe:Int} {k:Mk} {κ:Kn} {W:Wd} {f:Nat} {R':RS} {pc':Int} {m':List Int} (ho:R'.over=true) (h:jU c n (pc,0,m)=(pc',(if R'.refused then 2 else 1),m')) (hC:nG k R' m'):Out c pc m n pe k κ W f R':=
 ⟨λq=>absurd q (by rw [ho];decide),λ_=>⟨pc',m',h,hC⟩⟩
theorem Mg {c:List Ins} {m:List Int} {k:Mk} {κ:Kn} {W:Wd} {f:Nat} {R:RS} (h:Pre c m k κ W f R) {i pc x:Int} (h0:0<=i) (h1:i<4) (hs:Seg c pc (gT k i)) (hx:aV m (fr k.b i)=x):
 ∃m',jU c (gT k i).length (pc,0,m)=(pc+(gT k i).length,0,m')/\Pre c m' k κ W f R/\Keep k f m m'/\aV m' (fr k.b i)=iX k.seats x/\∀j,0<=j->j<fr k.b i->aV m' j=aV m j:=by
 have TT:au x:=by rw [<-hx];exact kI h.C.ok _
 have hb:=h.st.b0;obtain⟨t,ht⟩:∃t,t=bR (decide (0<=x)&&decide (x<k.seats)):=⟨_,rfl⟩;have aew:au t:=by rw [ht];exact kD _
 obtain⟨P1,K1,g1,o1⟩:=h.put (j:=i+1) aj aj aew;obtain⟨m1,e1⟩:∃m1,m1=cO m (fr k.b (i+1)) t:=⟨_,rfl⟩;rw [<-e1]at P1 K1 g1 o1;have hx1:aV m1 (fr k.b i)=x:=by rw [o1 _ bP bP];exact hx
 have hv:w32 (x*t)=iX k.seats x:=by
  rw [ht];unfold iX
  by_cases q:0<=x/\x<k.seats
  ·rw [if_neg aj]
   simp [bR,q.1,q.2];exact sw TT
  ·have:(decide (0<=x)&&decide (x<k.seats))=false:=by
    rw [Bool.and_eq_false_iff];simp;omega
   rw [this,if_pos aj];simp [bR,nO]
 obtain⟨P2,K2,g2,o2⟩:=P1.put (j:=i) (v:=w32 (x*t)) aj aj (lM _);refine⟨cO m1 (fr k.b i) (w32 (x*t)),?_,P2,K1.trans K2,by rw [g2,hv],λj hj hj'=>by rw [o2 j hj aj,o1 j hj (by unfold fr at*;omega)]⟩;refine dH hs h.ok (aT _ aG aG) (aau _ _ _ _ _) ?_;rw [hx,<-ht,<-e1];refine dH hs.tail P1.ok (aT _ aG aG) (ex3 aj _ _ _ _ _) ?_;rw [hx1,g1];simp only [gT,List.length_cons,List.length_nil,jU];refine Prod.ext ?_ rfl;simp only
 omega
theorem TH {c:List Ins} {n n':Nat} {s:Int×Int×List Int} {p p':Int} {m':List Int} (h:jU c n s=(p,0,m')) (hn:n'=n) (hp:p'=p):jU c n' s=(p',0,m'):=by rw [hn,hp];exact h
section
variable {c:List Ins} {m:List Int} {k:Mk} {κ:Kn} {W:Wd} {f:Nat} {R:RS} {pc:Int}
theorem PY (h:Pre c m k κ W f R) {name:Str} {e:EF} (hj:0<e.len) (hc:gq κ e=none) (hd:dp e<=12) (hn:κ name=1)
 (hs:Seg c pc (cE k W e 0 0++[⟨17,fr k.b 0,(aD k.V name).low,(aD k.V name).high⟩,⟨2,W name,fr k.b 0,0⟩])):
 Out c pc m ((cE k W e 0 0).length+2) (pc+((cE k W e 0 0).length+2:Nat)) k κ W f {R with vars:=R.vars.set (aS k.V name).toNat (mh (ev k.V R e 0) (aD k.V name).low (aD k.V name).high)}:=by
 obtain⟨m1,r1,P1,K1,_,v1⟩:=h.expr hj hc hd (Int.le_refl 0) aj hs.left;obtain⟨n1,n2,n3,n4,n5⟩:=h.N.one name hn;obtain⟨x,hx⟩:∃x,x=ev k.V R e 0:=⟨_,rfl⟩;rw [<-hx]at v1⊢;obtain⟨y,hy⟩:∃y,y=mh x (aD k.V name).low (aD k.V name).high:=⟨_,rfl⟩;have XK:au y:=by rw [hy];exact lM _
 have hb:=h.st.b0;obtain⟨P2,K2,g2,o2⟩:=P1.put (j:=0) (v:=y) aj aj XK;obtain⟨m2,e2⟩:∃m2,m2=cO m1 (fr k.b 0) y:=⟨_,rfl⟩;rw [<-e2]at P2 K2 g2 o2;have hC3:=P2.C.Ev h.st n2 n3 XK;have K3:Keep k f m2 (cO m2 (aS k.V name) y):=Keep.put h.st P2.C.len n2 (.inl n3) aj h.f8;rw [<-hy];refine Out.goes (m':=cO m2 (aS k.V name) y) ?_ ⟨h.st,h.f8,by rw [iU];exact P2.ok,hC3,P2.N.keep K3,h.ov⟩ ((K1.trans K2).trans K3);refine(TH (jL r1 (dH (m1:=m2) hs.right P1.ok (aT _ aG aG) (by rw [aat,v1,zJ n5.lo n5.hi n5.le,<-hy,<-e2]) (dH (m1:=cO m2 (aS k.V name) y) hs.right.tail P2.ok (aT _ aG aG) (by rw [ex2,n1,g2]) rfl)))) ?_ ?_
 ·simp
 ·simp;omega
theorem Pre.told (h:Pre c m k κ W f R) {R':RS} {j v:Int} (h0:4<=j) (h1:j<8) (hv:au v) (hvars:R'.vars=R.vars) (hasks:R'.asks=R.asks)
 (g4:R'.seat=if j=4 then v else R.seat) (g5:R'.cell=if j=5 then v else R.cell) (g6:R'.sides=if j=6 then v else R.sides) (g7:R'.rest=if j=7 then v else R.rest):
 nG k R' (cO m (k.b+j) v)/\Keep k f m (cO m (k.b+j) v):=by
 have hb:=h.st.b0;have hl:=h.C.len;have g:∀i,0<=i->aV (cO m (k.b+j) v) i=if i=k.b+j then v else aV m i:=λi hi=>eP v aj hi aj;refine⟨⟨by rw [iU];exact hl,CB h.C.ok hv,by rw [hvars];exact h.C.kE,λi h0 h1=>by rw [g i h0,if_neg aj,hvars];exact h.C.vars i h0 h1,?_,?_,?_,?_,by rw [hasks];exact h.C.lZ,λi h0 h1=>?_⟩,Keep.put h.st hl aj (.inr (.inl aj)) aj h.f8⟩
 ·rw [g _ aj,g4,h.C.seat];congr 1;rw [eq_iff_iff];omega
 ·rw [g _ aj,g5,h.C.cell];congr 1;rw [eq_iff_iff];omega
 ·rw [g _ aj,g6,h.C.sides];congr 1;rw [eq_iff_iff];omega
 ·rw [g _ aj,g7,h.C.rest];congr 1;rw [eq_iff_iff];omega
 ·have:=h.st.s8
  rw [g _ aj,if_neg aj,hasks];exact h.C.asks i h0 h1
theorem PZ (h:Pre c m k κ W f R) (hs:Seg c pc [⟨0,1,0,0⟩]):Out c pc m 1 (pc+1) k κ W f {R with over:=true,refused:=true}:=by
 refine Out.Lr (pc':=pc) (m':=m) rfl ?_ ?_
 ·rw [jl hs.head h.ok (aT _ aG aG)];rfl
 ·have:=h.C
  exact⟨this.len,this.ok,this.kE,this.vars,this.seat,this.cell,this.sides,this.rest,this.lZ,this.asks⟩
theorem Yv (h:Pre c m k κ W f R) {name:Str} {low:Int} (hn:κ name=1) (hlow:au low) (hs:Seg c pc [⟨1,k.b+5,W name,0⟩,⟨1,k.b+6,low,0⟩]) (OE:k.b<=64):
 Out c pc m 2 (pc+2) k κ W f {R with cell:=aS k.V name,sides:=low}:=by
 obtain⟨n1,n2,n3,n4,n5⟩:=h.N.one name hn;have hw:au (aS k.V name):=by unfold au;omega
 obtain⟨C1,K1⟩:=h.told (R':={R with cell:=aS k.V name}) (j:=5) (v:=aS k.V name) aj aj hw rfl rfl rfl rfl rfl rfl;have P1:Pre c (cO m (k.b+5) (aS k.V name)) k κ W f {R with cell:=aS k.V name}:=⟨h.st,h.f8,by rw [iU];exact h.ok,C1,h.N.keep K1,h.ov⟩;obtain⟨C2,K2⟩:=P1.told (R':={R with cell:=aS k.V name,sides:=low}) (j:=6) (v:=low) aj aj hlow rfl rfl rfl rfl rfl rfl;refine Out.goes (m':=cO (cO m (k.b+5) (aS k.V name)) (k.b+6) low) ?_ ⟨h.st,h.f8,by rw [iU];exact P1.ok,C2,P1.N.keep K2,h.ov⟩ (K1.trans K2);refine TH (dH (m1:=cO m (k.b+5) (aS k.V name)) hs h.ok (aT _ aG aG) (by rw [ex1,n1]) (dH (m1:=cO (cO m (k.b+5) (aS k.V name)) (k.b+6) low) hs.tail P1.ok (aT _ aG aG) (ex1 _ _ _ _ _) rfl)) ?_ ?_
 ·simp
 ·omega
theorem Yw (h:Pre c m k κ W f R) {e:EF} (hj:0<e.len) (hc:gq κ e=none) (hd:dp e<=12) (hs:Seg c pc (cE k W e 0 0++[⟨2,k.b+4,fr k.b 0,0⟩,⟨0,0,0,0⟩])) (hr:R.refused=false):
 Out c pc m ((cE k W e 0 0).length+2) (pc+((cE k W e 0 0).length+2:Nat)) k κ W f {R with seat:=ev k.V R e 0,over:=true}:=by
 obtain⟨m1,r1,P1,K1,_,v1⟩:=h.expr hj hc hd (Int.le_refl 0) aj hs.left;have TT:au (ev k.V R e 0):=by rw [<-v1];exact kI P1.C.ok _
 obtain⟨C2,K2⟩:=P1.told (R':={R with seat:=ev k.V R e 0,over:=true}) (j:=4) (v:=ev k.V R e 0) aj aj TT rfl rfl rfl rfl rfl rfl;refine Out.Lr (pc':=pc+(cE k W e 0 0).length+1) (m':=cO m1 (k.b+4) (ev k.V R e 0)) rfl ?_ C2;have:=jL r1 (dH (m1:=cO m1 (k.b+4) (ev k.V R e 0)) hs.right P1.ok (aT _ aG aG) (by rw [ex2,v1]) (jl hs.right.tail.head (by rw [iU];exact P1.ok) (aT _ aG aG)));rw [List.length_append]at this;refine this.trans ?_;rw [show bQ ⟨0,0,0,0⟩ (pc+(cE k W e 0 0).length+1) (cO m1 (k.b+4) (ev k.V R e 0))=(pc+(cE k W e 0 0).length+1,1,cO m1 (k.b+4) (ev k.V R e 0))from rfl];simp [hr]
theorem Yt (h:Pre c m k κ W f R) (hs:Seg c pc [⟨1,k.b+4,-1,0⟩,⟨0,0,0,0⟩]) (hr:R.refused=false):Out c pc m 2 (pc+2) k κ W f {R with seat:=-1,over:=true}:=by
 obtain⟨C2,K2⟩:=h.told (R':={R with seat:=-1,over:=true}) (j:=4) (v:=-1) aj aj kG rfl rfl rfl rfl rfl rfl;refine Out.Lr (pc':=pc+1) (m':=cO m (k.b+4) (-1)) rfl ?_ C2;have:=dH (m1:=cO m (k.b+4) (-1)) hs h.ok (aT _ aG aG) (ex1 _ _ _ _ _) (jl hs.tail.head (by rw [iU];exact h.ok) (aT _ aG aG));refine this.trans ?_;rw [show bQ ⟨0,0,0,0⟩ (pc+1) (cO m (k.b+4) (-1))=(pc+1,1,cO m (k.b+4) (-1))from rfl];simp [hr]
theorem Eu {seats x:Int} (h:2<=seats):0<=iX seats x/\iX seats x<seats:=by unfold iX;split<;>omega
theorem Yu (h:Pre c m k κ W f R) {e:EF} (hj:0<e.len) (hc:gq κ e=none) (hd:dp e<=12) (hs:Seg c pc (cE k W e 0 0++gT k 0++[⟨2,k.b+7,fr k.b 0,0⟩])):
 Out c pc m ((cE k W e 0 0).length+3) (pc+((cE k W e 0 0).length+3:Nat)) k κ W f {R with rest:=iX k.seats (ev k.V R e 0)}:=by
 obtain⟨m1,r1,P1,K1,_,v1⟩:=h.expr hj hc hd (Int.le_refl 0) aj hs.left.left;obtain⟨m2,r2,P2,K2,v2,_⟩:=Mg P1 (Int.le_refl 0) aj hs.left.right v1;have hsb:=Eu (x:=ev k.V R e 0) h.st.s2;have h8:=h.st.s8;obtain⟨C3,K3⟩:=P2.told (R':={R with rest:=iX k.seats (ev k.V R e 0)}) (j:=7) (v:=iX k.seats (ev k.V R e 0)) aj aj kG rfl rfl rfl rfl rfl rfl;refine Out.goes (m':=cO m2 (k.b+7) (iX k.seats (ev k.V R e 0))) ?_ ⟨h.st,h.f8,by rw [iU];exact P2.ok,C3,P2.N.keep K3,h.ov⟩ ((K1.trans K2).trans K3);have hs2:=hs;rw [List.append_assoc]at hs2;refine TH (jL r1 (jL r2 (dH (m1:=cO m2 (k.b+7) (iX k.seats (ev k.V R e 0))) hs2.right.right P2.ok (aT _ aG aG) (by rw [ex2,v2]) rfl))) ?_ ?_
 ·simp [gT]
 ·simp [gT];omega
end
open Go.RowKit Mc
theorem nG.PW {k:Mk} {R:RS} {m:List Int} (hk:Stat k) (h:nG k R m) {j v:Int} (h0:0<=j) (h1:j<k.seats) (hv:0<=v/\v<=1073741823):nG k {R with asks:=R.asks.set j.toNat v} (cO m (k.b+8+j) v):=by
 have hb:=hk.b0;have h8:=hk.s8;have hl:=h.len;have ha:=h.lZ;have g:∀i,0<=i->¬i=k.b+8+j->aV (cO m (k.b+8+j) v) i=aV m i:=λi hi hn=>by rw [eP v aj hi aj,if_neg hn]
 refine⟨by rw [iU];exact hl,CB h.ok kG,h.kE,λi hi0 hi1=>by rw [g _ hi0 aj];exact h.vars i hi0 hi1,by rw [g _ aj aj];exact h.seat,by rw [g _ aj aj];exact h.cell,by rw [g _ aj aj];exact h.sides,by rw [g _ aj aj];exact h.rest,by simpa using ha,λi hi0 hi1=>?_⟩;show _=(R.asks.set j.toNat v).getD i.toNat 0/\0<=(R.asks.set j.toNat v).getD i.toNat 0/\(R.asks.set j.toNat v).getD i.toNat 0<=1073741823;rw [KW _ _ _ _ aj,eP v aj aj aj]
 by_cases e:i=j
 ·rw [if_pos aj,if_pos aj]
  exact⟨rfl,hv⟩
 ·rw [if_neg aj,if_neg aj]
  exact h.asks i hi0 hi1
section
variable {c:List Ins} {m:List Int} {k:Mk} {κ:Kn} {W:Wd} {f:Nat} {R:RS} {pc:Int}
theorem abp (h:Pre c m k κ W f R) {e:EF} (hj:1<e.len) (hc:gq κ e=none) (hd:dp e<=12)
 (hs:Seg c pc (cE k W e 1 0++cE k W e 0 1++gT k 1++[⟨17,fr k.b 0,0,1073741823⟩,⟨15,fr k.b 2,k.b+8,fr k.b 1⟩,⟨3,fr k.b 0,fr k.b 0,fr k.b 2⟩,⟨17,fr k.b 0,0,1073741823⟩,⟨16,k.b+8,fr k.b 1,fr k.b 0⟩])):
 Out c pc m ((cE k W e 1 0).length+(cE k W e 0 1).length+7) (pc+((cE k W e 1 0).length+(cE k W e 0 1).length+7:Nat)) k κ W f
  {R with asks:=R.asks.set (iX k.seats (ev k.V R e 0)).toNat (mh (R.asks.getD (iX k.seats (ev k.V R e 0)).toNat 0+mh (ev k.V R e 1) 0 1073741823) 0 1073741823)}:=by
 have hb:=h.st.b0;have h8:=h.st.s8;obtain⟨m1,r1,P1,K1,_,v1⟩:=h.expr hj hc hd (Int.le_refl 0) aj hs.left.left.left;obtain⟨m2,r2,P2,K2,S2,v2⟩:=P1.expr (j:=0) aj hc hd (tw:=1) aj aj hs.left.left.right;have f2:aV m2 (fr k.b 0)=ev k.V R e 1:=by rw [S2.out _ bP bP];exact v1
 have hs3:=hs.left.right;rw [List.length_append]at hs3;obtain⟨m3,r3,P3,K3,v3,o3⟩:=Mg P2 (i:=1) aj aj hs3 v2;have f3:aV m3 (fr k.b 0)=ev k.V R e 1:=by rw [o3 _ bP bP];exact f2
 obtain⟨s,hse⟩:∃s,s=iX k.seats (ev k.V R e 0):=⟨_,rfl⟩;have hsb:=Eu (x:=ev k.V R e 0) h.st.s2;rw [<-hse]at v3 hsb⊢;have zok:au 0:=by unfold au;omega
 have vQ:au 1073741823:=by unfold au;omega
 obtain⟨a,ha⟩:∃a,a=mh (ev k.V R e 1) 0 1073741823:=⟨_,rfl⟩;have hab:0<=a/\a<=1073741823:=by rw [ha];exact Cn zok vQ aj
 rw [<-ha];obtain⟨P4,K4,g4,o4⟩:=P3.put (j:=0) (v:=a) aj aj kG;obtain⟨m4,e4⟩:∃m4,m4=cO m3 (fr k.b 0) a:=⟨_,rfl⟩;rw [<-e4]at P4 K4 g4 o4;have f4:aV m4 (fr k.b 1)=s:=by rw [o4 _ bP bP];exact v3
 obtain⟨q1,q2,q3⟩:=P4.C.asks s hsb.1 hsb.2;obtain⟨z,hz⟩:∃z,z=R.asks.getD s.toNat 0:=⟨_,rfl⟩;rw [<-hz]at q1 q2 q3⊢;obtain⟨y1,y2⟩:=acw (a:=fr k.b 2) (b:=k.b+8) (x:=fr k.b 1) (m:=m4) (by rw [f4];omega) (by rw [f4];have:=P4.C.len;omega);rw [f4]at y1;obtain⟨P5,K5,g5,o5⟩:=P4.put (j:=2) (v:=z) aj aj kG;obtain⟨m5,e5⟩:∃m5,m5=cO m4 (fr k.b 2) z:=⟨_,rfl⟩;rw [<-e5]at P5 K5 g5 o5;have a5:aV m5 (fr k.b 0)=a:=by rw [o5 _ bP bP];exact g4
 have b5:aV m5 (fr k.b 1)=s:=by rw [o5 _ bP bP];exact f4
 have hsum:gJ (3:Int).toNat a z=z+a:=by show w32 (a+z)=z+a;rw [sw kG];omega
 obtain⟨P6,K6,g6,o6⟩:=P5.put (j:=0) (v:=z+a) aj aj kG;obtain⟨m6,e6⟩:∃m6,m6=cO m5 (fr k.b 0) (z+a):=⟨_,rfl⟩;rw [<-e6]at P6 K6 g6 o6;have b6:aV m6 (fr k.b 1)=s:=by rw [o6 _ bP bP];exact b5
 obtain⟨y,hy⟩:∃y,y=mh (z+a) 0 1073741823:=⟨_,rfl⟩;have hyb:0<=y/\y<=1073741823:=by rw [hy];exact Cn zok vQ aj
 rw [<-hy];obtain⟨P7,K7,g7,o7⟩:=P6.put (j:=0) (v:=y) aj aj kG;obtain⟨m7,e7⟩:∃m7,m7=cO m6 (fr k.b 0) y:=⟨_,rfl⟩;rw [<-e7]at P7 K7 g7 o7;have b7:aV m7 (fr k.b 1)=s:=by rw [o7 _ bP bP];exact b6
 obtain⟨x1,x2⟩:=acy (a:=k.b+8) (b:=fr k.b 1) (x:=fr k.b 0) (m:=m7) (by rw [b7];omega) (by rw [b7];have:=P7.C.len;omega);rw [b7]at x1;have C8:=P7.C.PW h.st hsb.1 hsb.2 hyb;have K8:Keep k f m7 (cO m7 (k.b+8+s) y):=Keep.put h.st P7.C.len aj (.inr (.inl aj)) aj h.f8;refine Out.goes (m':=cO m7 (k.b+8+s) y) ?_ ⟨h.st,h.f8,by rw [iU];exact P7.ok,C8,P7.N.keep K8,h.ov⟩ (((((((K1.trans K2).trans K3).trans K4).trans K5).trans K6).trans K7).trans K8);have hs2:=hs;rw [List.append_assoc,List.append_assoc]at hs2;have hz:=hs2.right.right.right
 refine TH (jL r1 (jL r2 (jL (by have:=r3;rwa [show pc+(((cE k W e 1 0).length+(cE k W e 0 1).length:Nat):Int)=pc+(cE k W e 1 0).length+(cE k W e 0 1).length by omega]at this)
  (dH (m1:=m4) hz P3.ok (aT _ aG aG) (by rw [aat,f3,zJ zok vQ aj,<-ha,<-e4])
  (dH (m1:=m5) hz.tail P4.ok y2 (by rw [agt,y1,q1,<-e5])
  (dH (m1:=m6) hz.tail.tail P5.ok (aT _ aG aG) (by rw [ex3 aj,a5,g5,hsum,<-e6])
  (dH (m1:=m7) hz.tail.tail.tail P6.ok (aT _ aG aG) (by rw [aat,g6,zJ zok vQ aj,<-hy,<-e7])
  (dH (m1:=cO m7 (k.b+8+s) y) hz.tail.tail.tail.tail P7.ok x2 (by rw [agu,x1,g7]) rfl)))))))) ?_ ?_
 ·simp [gT];omega
 ·simp [gT];omega
theorem abq (h:Pre c m k κ W f R) {name:Str} {e:EF} (hj:1<e.len) (hc:gq κ e=none) (hd:dp e<=12) (hn:κ name=2)
 (hs:Seg c pc (cE k W e 0 0++cE k W e 1 1++[⟨18,fr k.b 2,fr k.b 0,(aD k.V name).size⟩,⟨20,pc+(cE k W e 0 0).length+(cE k W e 1 1).length+4,fr k.b 2,0⟩,⟨17,fr k.b 1,(aD k.V name).low,(aD k.V name).high⟩,⟨16,W name,fr k.b 0,fr k.b 1⟩])):
 ∃n,n<=(cE k W e 0 0).length+(cE k W e 1 1).length+4/\Out c pc m n (pc+((cE k W e 0 0).length+(cE k W e 1 1).length+4:Nat)) k κ W f
  (if 0<=ev k.V R e 0/\ev k.V R e 0<(aD k.V name).size then{R with vars:=R.vars.set (aS k.V name+ev k.V R e 0).toNat (mh (ev k.V R e 1) (aD k.V name).low (aD k.V name).high)}else R):=by
 have hb:=h.st.b0;obtain⟨n1,n2,n3,n4,n5⟩:=h.N.two name hn;obtain⟨m1,r1,P1,K1,_,v1⟩:=h.expr (j:=0) aj hc hd (Int.le_refl 0) aj hs.left.left;obtain⟨m2,r2,P2,K2,S2,v2⟩:=P1.expr hj hc hd (tw:=1) aj aj hs.left.right;obtain⟨i,hi⟩:∃i,i=ev k.V R e 0:=⟨_,rfl⟩;have f2:aV m2 (fr k.b 0)=i:=by rw [S2.out _ bP bP,hi];exact v1
 obtain⟨x,hx⟩:∃x,x=ev k.V R e 1:=⟨_,rfl⟩;rw [<-hx]at v2;rw [<-hi,<-hx];obtain⟨t,ht⟩:∃t,t=bR (decide (0<=i)&&decide (i<(aD k.V name).size)):=⟨_,rfl⟩;obtain⟨P3,K3,g3,o3⟩:=P2.put (j:=2) (v:=t) aj aj (by rw [ht];exact kD _);obtain⟨m3,e3⟩:∃m3,m3=cO m2 (fr k.b 2) t:=⟨_,rfl⟩;rw [<-e3]at P3 K3 g3 o3;have a3:aV m3 (fr k.b 0)=i:=by rw [o3 _ bP bP];exact f2
 have b3:aV m3 (fr k.b 1)=x:=by rw [o3 _ bP bP];exact v2
 have hs2:=hs;rw [List.append_assoc]at hs2;have hz:=hs2.right.right
 by_cases q:0<=i/\i<(aD k.V name).size
 ·rw [if_pos q]
  have t1:t=1:=by rw [ht];simp [bR,q.1,q.2]
  obtain⟨y,hy⟩:∃y,y=mh x (aD k.V name).low (aD k.V name).high:=⟨_,rfl⟩;have XK:au y:=by rw [hy];exact lM _
  rw [<-hy];obtain⟨P4,K4,g4,o4⟩:=P3.put (j:=1) (v:=y) aj aj XK;obtain⟨m4,e4⟩:∃m4,m4=cO m3 (fr k.b 1) y:=⟨_,rfl⟩;rw [<-e4]at P4 K4 g4 o4;have a4:aV m4 (fr k.b 0)=i:=by rw [o4 _ bP bP];exact a3
  obtain⟨x1,x2⟩:=acy (a:=W name) (b:=fr k.b 0) (x:=fr k.b 1) (m:=m4) (by rw [a4,n1];omega) (by rw [a4,n1];have:=P4.C.len;omega);rw [a4]at x1;have C5:=P4.C.Ev h.st (j:=aS k.V name+i) (v:=y) aj aj XK;have K5:Keep k f m4 (cO m4 (aS k.V name+i) y):=Keep.put h.st P4.C.len aj (.inl aj) aj h.f8;refine⟨_,Nat.le_refl _,Out.goes (m':=cO m4 (aS k.V name+i) y) ?_ ⟨h.st,h.f8,by rw [iU];exact P4.ok,C5,P4.N.keep K5,h.ov⟩ ((((K1.trans K2).trans K3).trans K4).trans K5)⟩
  refine TH (jL r1 (jL r2
   (dH (m1:=m3) hz P2.ok (aT _ aG aG) (by rw [aau,f2,<-ht,<-e3])
   (dH (m1:=m3) hz.tail P3.ok (aT _ aG aG) (by rw [Tz,g3,t1,if_neg ak])
   (dH (m1:=m4) hz.tail.tail P3.ok (aT _ aG aG) (by rw [aat,b3,zJ n5.lo n5.hi n5.le,<-hy,<-e4])
   (dH (m1:=cO m4 (aS k.V name+i) y) hz.tail.tail.tail P4.ok x2 (by rw [agu,x1,g4,n1]) rfl)))))) ?_ ?_
  ·simp only [List.length_append,List.length_cons,List.length_nil];omega
  ·first|omega|(simp;omega)
 ·rw [if_neg q]
  have t0:t=0:=by
   rw [ht]
   have:(decide (0<=i)&&decide (i<(aD k.V name).size))=false:=by
    rw [Bool.and_eq_false_iff];simp;omega
   rw [this];rfl
  refine⟨(cE k W e 0 0).length+((cE k W e 1 1).length+2),by omega,Out.goes (m':=m3) ?_ P3 ((K1.trans K2).trans K3)⟩;rw [gF,r1,gF,r2,show 2=1+1 from rfl,gF,jl hz.head P2.ok (aT _ aG aG),aau,f2,<-ht,<-e3,jl hz.tail.head P3.ok (aT _ aG aG),Tz,g3,t0,if_pos rfl];refine Prod.ext ?_ rfl;simp only
  omega
end
open Go.RowKit Mc
theorem AP (g:Int->RS->RS) {R:RS} (h:R.over=true):∀(n:Nat) (i:Int),f_ g n i R=R
 |0,_=>rfl
 |n+1,i=>by rw [f_,if_pos h]
theorem Tp (V:List Vr) (seats kind:Int) (name:Str) (e:EF) (low:Int) (R:RS):(Al V seats kind name e low R).binds=R.binds:=by
 unfold Al
 repeat' split
 all_goals rfl
theorem qz (V:List Vr) (seats:Int):∀(F:SF) (R:RS),(oL V seats F R).binds=R.binds
 | .nil,_=>rfl
 | .cons kind name e low high l els r,R=>by
  rw [ko]
  split
  ·rfl
  ·rw [qz V seats r]
   unfold doS
   split
   ·split
    ·exact qz V seats l R
    ·exact qz V seats els R
   ·split
    ·rfl
    ·exact Tp ..
def Ref (R:RS):Prop:=R.refused=true->R.over=true
theorem Ep (g:Int->RS->RS) (hg:∀i R,Ref R->Ref (g i R)):∀(n:Nat) (i:Int) (R:RS),Ref R->Ref (f_ g n i R)
 |0,_,_,h=>h
 |n+1,i,R,h=>by
  rw [f_]
  split
  ·exact h
  ·exact Ep g hg n _ _ (hg i R h)
theorem aas (V:List Vr) (seats kind:Int) (name:Str) (e:EF) (low:Int) {R:RS} (h:Ref R):Ref (Al V seats kind name e low R):=by
 unfold Al
 repeat' split
 all_goals first|exact h|exact λ_=>rfl
theorem rH (V:List Vr) (seats:Int):∀(F:SF) (R:RS),Ref R->Ref (oL V seats F R)
 | .nil,_,h=>h
 | .cons kind name e low high l els r,R,h=>by
  rw [ko]
  split
  ·exact h
  ·refine rH V seats r _ ?_
   unfold doS
   split
   ·split
    ·exact rH V seats l R h
    ·exact rH V seats els R h
   ·split
    ·exact Ep _ (λi R' h'=>rH V seats l {R' with binds:=R.binds++[(name,w32 i)]} h') _ _ _ h
    ·exact aas _ _ _ _ _ _ h
section
variable {c:List Ins} {m m1:List Int} {k:Mk} {κ:Kn} {W:Wd} {f:Nat} {R R':RS} {pc pc1 pe pe':Int} {n n1:Nat}
theorem Out.seq (h1:jU c n1 (pc,0,m)=(pc1,0,m1)) (hK:Keep k f m m1) (h:Out c pc1 m1 n pe k κ W f R'):Out c pc m (n1+n) pe k κ W f R':=
 ⟨λq=>by
  obtain⟨m',a,b,d,e⟩:=h.go q;exact⟨m',by rw [gF,h1];exact a,b,d,hK.trans e⟩,λq=>by
  obtain⟨p',m',a,b⟩:=h.halt q;exact⟨p',m',by rw [gF,h1];exact a,b⟩⟩
theorem Out.jump (h:Out c pc m n pe k κ W f R') (hok:ND c m.length) (hlen:(m.length:Int)=k.b+49) (hs:Seg c pe [⟨19,pe',0,0⟩]):Out c pc m (n+1) pe' k κ W f R':=
 ⟨λq=>by
  obtain⟨m',a,b,d,e⟩:=h.go q;have hl:m'.length=m.length:=by have:=b.len;omega
  refine⟨m',?_,b,d,e⟩;rw [gF,a,jl hs.head (by rw [hl];exact hok) (aT _ aG aG)]
  rfl,λq=>by
  obtain⟨p',m',a,b⟩:=h.halt q;refine⟨p',m',?_,b⟩;rw [gF,a,uq];simp only
  split<;>decide⟩
theorem Out.cast (h:Out c pc m n pe k κ W f R') (e:pe=pe'):Out c pc m n pe' k κ W f R':=by rw [<-e];exact h
end
def N7 (k:Mk) (part:Nat) (F:SF):Prop:=∀(κ:Kn) (W:Wd) (f:Nat) (top:Bool) (c:List Ins) (pc:Int) (m:List Int) (R:RS),bV part κ f top F=none->F.size<=1099511627776->Pre c m k κ W f R->R.refused=false->Seg c pc (cB k F W f pc)->
 ∃n,n<=dG F/\Out c pc m n (pc+(cB k F W f pc).length) k κ W f (oL k.V k.seats F R)
section
variable {c:List Ins} {m:List Int} {k:Mk} {κ:Kn} {W:Wd} {f:Nat} {R:RS} {pc:Int} {part:Nat}
theorem aeK (h:Pre c m k κ W f R) (hr:R.refused=false) {e:EF} {l els:SF} (il:N7 k part l) (ix:N7 k part els) (hj:0<e.len) (hc:gq κ e=none) (hd:dp e<=12) (hcl:bV part κ f false l=none) (hcx:bV part κ f false els=none) (zl:l.size<=1099511627776) (zx:els.size<=1099511627776)
 (code:List Ins) (hcode:code=if els.isNil then FJ k pc (cE k W e 0 0) (cB k l W f (pc+(cE k W e 0 0).length+1))
  else VT k pc (cE k W e 0 0) (cB k l W f (pc+(cE k W e 0 0).length+1)) (cB k els W f (pc+(cE k W e 0 0).length+1+(cB k l W f (pc+(cE k W e 0 0).length+1)).length+1)))
 (hs:Seg c pc code):∃n,n<=3+iA e+max (dG l) (dG els)/\Out c pc m n (pc+code.length) k κ W f (if ev k.V R e 0≠0 then oL k.V k.seats l R else oL k.V k.seats els R):=by
 have hle:=pQ k W e 0 0;have hle2:=rE e;obtain⟨E,hE⟩:∃E,E=cE k W e 0 0:=⟨_,rfl⟩;obtain⟨L,hL⟩:∃L,L=cB k l W f (pc+E.length+1):=⟨_,rfl⟩;rw [<-hE]at hcode hle;rw [<-hL]at hcode
 by_cases hx:els.isNil=true
 ·rw [if_pos hx]at hcode
  have hnil:els=.nil:=by cases els<;>simp [SF.isNil]at hx⊢
  unfold FJ at hcode;rw [hcode]at hs⊢;obtain⟨m1,r1,P1,K1,_,v1⟩:=h.expr hj hc hd (Int.le_refl 0) aj (by rw [<-hE];exact hs.left.left);rw [<-hE]at r1;have hz:=hs;rw [List.append_assoc]at hz;have hjz:=hz.right
  by_cases q:ev k.V R e 0=0
  ·rw [if_neg (by simpa using q),hnil,oL]
   refine⟨E.length+1,by omega,Out.goes (m':=m1) ?_ P1 K1⟩;rw [gF,r1,jl hjz.head P1.ok (aT _ aG aG),Tz,v1,if_pos q];refine Prod.ext ?_ rfl;simp only [List.length_append,List.length_cons,List.length_nil]
   omega
  ·rw [if_pos (by simpa using q)]
   have r2:jU c (E.length+1) (pc,0,m)=(pc+E.length+1,0,m1):=by
    rw [gF,r1,jl hjz.head P1.ok (aT _ aG aG),Tz,v1,if_neg q]
   obtain⟨n,hn,ho⟩:=il κ W f false c (pc+E.length+1) m1 R hcl zl P1 hr (by rw [<-hL];exact hjz.tail);refine⟨E.length+1+n,by omega,(Out.seq r2 K1 ho).cast ?_⟩;rw [<-hL];simp only [List.length_append,List.length_cons,List.length_nil]
   omega
 ·rw [if_neg hx]at hcode
  obtain⟨X,hX⟩:∃X,X=cB k els W f (pc+E.length+1+L.length+1):=⟨_,rfl⟩;rw [<-hX]at hcode;unfold VT at hcode;rw [hcode]at hs⊢;obtain⟨m1,r1,P1,K1,_,v1⟩:=h.expr hj hc hd (Int.le_refl 0) aj (by rw [<-hE];exact hs.left.left.left.left);rw [<-hE]at r1;have hz:=hs;simp only [List.append_assoc]at hz;have hjz:=hz.right;have hl:=hjz.right;have aeo:=hl.right;have Az:=aeo.right;simp only [List.length_cons,List.length_nil]at hl aeo Az
  by_cases q:ev k.V R e 0=0
  ·rw [if_neg (by simpa using q)]
   have r2:jU c (E.length+1) (pc,0,m)=(pc+E.length+1+L.length+1,0,m1):=by
    rw [gF,r1,jl hjz.head P1.ok (aT _ aG aG),Tz,v1,if_pos q]
   obtain⟨n,hn,ho⟩:=ix κ W f false c (pc+E.length+1+L.length+1) m1 R hcx zx P1 hr (by rw [<-hX];exact Az);refine⟨E.length+1+n,by omega,(Out.seq r2 K1 ho).cast ?_⟩;rw [<-hX];simp only [List.length_append,List.length_cons,List.length_nil]
   omega
  ·rw [if_pos (by simpa using q)]
   have r2:jU c (E.length+1) (pc,0,m)=(pc+E.length+1,0,m1):=by
    rw [gF,r1,jl hjz.head P1.ok (aT _ aG aG),Tz,v1,if_neg q]
   obtain⟨n,hn,ho⟩:=il κ W f false c (pc+E.length+1) m1 R hcl zl P1 hr (by rw [<-hL];exact hl.left);rw [<-hL]at ho;refine⟨E.length+1+(n+1),by omega,(Out.seq r2 K1 (Out.jump ho P1.ok P1.C.len (aeo.left (b:=X)))).cast ?_⟩;simp only [List.length_append,List.length_cons,List.length_nil]
   omega
end
end Go.Proofs.YtbfbabbcdochjaaGreatDoor.So
