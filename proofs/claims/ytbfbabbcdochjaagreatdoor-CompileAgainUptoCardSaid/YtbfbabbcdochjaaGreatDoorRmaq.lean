/- Several texts joined: Ce, Cb. -/
import Derived.Test.YtbfbabbcdochjaaGreatDoorRmpk
import Derived.Test.YtbfbabbcdochjaaGreatDoorRmap
set_option maxHeartbeats 4000000
set_option maxRecDepth 100000
namespace Go.Proofs.YtbfbabbcdochjaaGreatDoor.So
open Go.RowKit Mc
/-! ### steps -/
theorem aaL (c:List Ins) (pc:Int) (m:List Int):jU c 1 (pc,0,m)=lV c pc m:=rfl
def ND (c:List Ins) (k:Nat):Prop:=∀i∈c,bM i c.length k=true
def Seg (c:List Ins) (pc:Int) (l:List Ins):Prop:=0<=pc/\∀j:Nat,j<l.length->c[pc.toNat+j]?=l[j]?
theorem Seg.left {c:List Ins} {pc:Int} {a b:List Ins} (h:Seg c pc (a++b)):Seg c pc a:=
 ⟨h.1,λj hj=>by rw [h.2 j (by rw [List.length_append];omega),List.getElem?_append_left hj]⟩
theorem Seg.right {c:List Ins} {pc:Int} {a b:List Ins} (h:Seg c pc (a++b)):Seg c (pc+a.length) b:=
 ⟨by have:=h.1;omega,λj hj=>by
  have h1:=h.1;have:=h.2 (a.length+j) (by rw [List.length_append];omega);rw [List.getElem?_append_right aj]at this;rw [show(pc+a.length).toNat+j=pc.toNat+(a.length+j)by omega,this]
  congr 1
  omega⟩
theorem Seg.head {c:List Ins} {pc:Int} {i:Ins} {l:List Ins} (h:Seg c pc (i::l)):c[pc.toNat]?=some i:=by
 have:=h.2 0 aG
 simpa using this
theorem Seg.tail {c:List Ins} {pc:Int} {i:Ins} {l:List Ins} (h:Seg c pc (i::l)):Seg c (pc+1) l:=by
 have:=Seg.right (a:=[i]) (b:=l) h
 simpa using this
theorem jl {c:List Ins} {pc:Int} {m:List Int} {i:Ins} (hi:c[pc.toNat]?=some i) (hok:ND c m.length) (hl:lost i m=false):jU c 1 (pc,0,m)=bQ i pc m:=by
 rw [aaL];unfold lV fC;rw [hi];have:=hok i (List.mem_of_getElem? hi);simp [this,hl]
theorem aT {i:Ins} (m:List Int) (Z_:¬i.op=15) (h16:¬i.op=16):lost i m=false:=by simp [lost,Z_,h16]
theorem eP {m:List Int} {i j:Int} (v:Int) (hi:0<=i) (hj:0<=j) (h:i<m.length):aV (cO m i v) j=if j=i then v else aV m j:=by
 unfold aV cO;rw [List.getD_eq_getElem?_getD,List.getElem?_set]
 by_cases e:j=i
 ·subst e
  rw [if_pos rfl,if_pos rfl,if_pos aj]
  rfl
 ·rw [if_neg e,if_neg aj,List.getD_eq_getElem?_getD]
theorem iU (m:List Int) (i v:Int):(cO m i v).length=m.length:=by simp [cO]
theorem CB {m:List Int} {i v:Int} (hm:∀x∈m,au x) (hv:au v):∀x∈cO m i v,au x:=λx hx=>by
 rcases List.mem_or_eq_of_mem_set hx with h|h
 ·exact hm x h
 ·rw [h];exact hv
theorem kI {m:List Int} (hm:∀x∈m,au x) (i:Int):au (aV m i):=by
 unfold aV;rw [List.getD_eq_getElem?_getD]
 rcases Nat.lt_or_ge i.toNat m.length with h|h
 ·rw [List.getElem?_eq_getElem h];exact hm _ (List.getElem_mem h)
 ·rw [List.getElem?_eq_none h];unfold au;simp
theorem lM (x:Int):au (w32 x):=by unfold au;simp only [nO];omega
theorem sw {x:Int} (h:au x):w32 x=x:=by unfold au at h;simp only [nO];omega
theorem kD (b:Bool):au (bR b):=by unfold bR au;split<;>omega
theorem Si {a:Int} (b:Int) (ha:au a):au (a.tmod b):=by
 unfold au at*;have h2:=Int.natAbs_tmod a b;have h3:(a.tmod b).natAbs<=a.natAbs:=by rw [h2];exact Nat.mod_le _ _
 rcases Int.le_total 0 a with h|h
 ·have:=Int.tmod_nonneg b h
  omega
 ·have h4:=Int.tmod_nonneg (a:=-a) b aj
  rw [Int.neg_tmod]at h4
  omega
theorem JK (k:Nat) {a b:Int} (ha:au a):au (gJ k a b):=by
 unfold gJ
 split<;>first|exact lM _|exact kD _|skip
 ·split
  ·unfold au;omega
  ·exact lM _
 ·split
  ·unfold au;omega
  ·exact Si _ ha
structure Same (m m':List Int) (lo hi:Int):Prop where
 len:m'.length=m.length
 ok:(∀x∈m,au x)->∀x∈m',au x
 out:∀i,0<=i->(i<lo∨hi<=i)->aV m' i=aV m i
theorem Same.refl (m:List Int) (lo hi:Int):Same m m lo hi:=⟨rfl,λh=>h,λ_ _ _=>rfl⟩
theorem Same.trans {a b c:List Int} {lo hi:Int} (h:Same a b lo hi) (h':Same b c lo hi):Same a c lo hi:=
 ⟨h'.len.trans h.len,λq=>h'.ok (h.ok q),λi h0 q=>(h'.out i h0 q).trans (h.out i h0 q)⟩
theorem Same.mono {a b:List Int} {lo hi lo' hi':Int} (h:Same a b lo hi) (h1:lo'<=lo) (h2:hi<=hi'):Same a b lo' hi':=
 ⟨h.len,h.ok,λi h0 q=>h.out i h0 aj⟩
theorem Same.put {m:List Int} {lo hi i v:Int} (h0:0<=i) (h1:lo<=i) (h2:i<hi) (h3:i<m.length) (hv:au v):Same m (cO m i v) lo hi:=
 ⟨iU _ _ _,λq=>CB q hv,λj hj q=>by rw [eP v h0 hj h3,if_neg aj]⟩
structure NI (k:Mk) (κ:Kn) (W:Wd) (R:RS) (m:List Int):Prop where
 b0:0<=k.b
 len:(m.length:Int)=k.b+49
 ok:∀x∈m,au x
 plain:∀s,κ s≠0/\κ s≠2->0<=W s/\W s<k.b+33/\aV m (W s)=yF k.V R s
 list:∀s,κ s=2->0<=W s/\0<(aD k.V s).size/\W s+(aD k.V s).size<=k.b/\∀i,0<=i->i<(aD k.V s).size->aV m (W s+i)=R.vars.getD (aS k.V s+i).toNat 0
theorem NI.same {k:Mk} {κ:Kn} {W:Wd} {R:RS} {m m':List Int} {hi:Int} (h:NI k κ W R m) {lo:Int} (hs:Same m m' lo hi) (hlo:k.b+33<=lo):NI k κ W R m':=
 ⟨h.b0,by rw [hs.len];exact h.len,hs.ok h.ok,λs q=>by
  obtain⟨h1,h2,h3⟩:=h.plain s q;exact⟨h1,h2,by rw [hs.out _ h1 aj];exact h3⟩,λs q=>by
  obtain⟨h1,h2,h3,h4⟩:=h.list s q;exact⟨h1,h2,h3,λi hi0 hi1=>by rw [hs.out _ aj aj];exact h4 i hi0 hi1⟩⟩
def dp:EF->Nat| .nil=>0| .cons _ _ _ k r=>max (1+dp k) (dp r)
def Tt:EF->Nat->Nat| .nil,_=>0| .cons _ _ _ _ r,j+1=>Tt r j| .cons _ _ _ k _,0=>1+dp k
theorem DK:∀(F:EF) (j:Nat),Tt F j<=dp F
 | .nil,_=>Nat.le_refl _
 | .cons _ _ _ k r,j+1=>by have:=DK r j;simp only [Tt,dp];omega
 | .cons _ _ _ k r,0=>by simp only [Tt,dp];omega
theorem Ig:∀(F:EF) (j:Nat),j<F.len->1<=Tt F j
 | .nil,_,h=>by simp [EF.len]at h
 | .cons _ _ _ k r,j+1,h=>Ig r j (by simpa [EF.len]using h)
 | .cons _ _ _ k r,0,_=>by simp only [Tt];omega
theorem DZ {op a b:Int} (ha:au a) (_hb:au b) (h:5<=op/\op<=17):(if op=14∨op=15 then gJ (lW op).toNat b a else gJ (lW op).toNat a b)=join op a b:=by
 have h13:op=5∨op=6∨op=7∨op=8∨op=9∨op=10∨op=11∨op=12∨op=13∨op=14∨op=15∨op=16∨op=17:=by omega
 rcases h13 with rfl|rfl|rfl|rfl|rfl|rfl|rfl|rfl|rfl|rfl|rfl|rfl|rfl<;>simp [lW,join,gJ,KO]
 ·split
  ·rfl
  rename_i hb0;have h1:=Int.mul_tdiv_add_tmod a b;have h2:=Si b ha;unfold au at ha h2
  have e:a - w32 (a.tdiv b)*b=a.tmod b+(a.tdiv b - w32 (a.tdiv b))*b:=by
   rw [Int.sub_mul,Int.mul_comm (a.tdiv b) b];omega
  rw [e];have hq:∃q,a.tdiv b - w32 (a.tdiv b)=4294967296*q:=⟨(a.tdiv b+2147483648) / 4294967296,by simp only [nO];omega⟩;obtain⟨q,hq⟩:=hq;rw [hq,Int.mul_assoc];simp only [nO]
  omega
theorem RJ (op:Int) {a b:Int} (ha:au a) (hb:au b) (h:5<=op/\op<=17):au (join op a b):=by
 rw [<-DZ ha hb h]
 split
 ·exact JK _ hb
 ·exact JK _ ha
/-! ### one instruction, then the rest -/
theorem dH {c:List Ins} {pc:Int} {m m1:List Int} {i:Ins} {l:List Ins} {t:Int×Int×List Int} (hs:Seg c pc (i::l)) (hok:ND c m.length) (hl:lost i m=false) (he:bQ i pc m=(pc+1,0,m1)) (h:jU c l.length (pc+1,0,m1)=t):jU c (i::l).length (pc,0,m)=t:=by
 rw [List.length_cons,Nat.add_comm,gF,jl hs.head hok hl,he];exact h
theorem jL {c:List Ins} {pc:Int} {m m1:List Int} {a b:List Ins} {t:Int×Int×List Int} (ha:jU c a.length (pc,0,m)=(pc+a.length,0,m1)) (h:jU c b.length (pc+a.length,0,m1)=t):jU c (a++b).length (pc,0,m)=t:=by
 rw [List.length_append,gF,ha];exact h
theorem ex1 (a b x pc:Int) (m:List Int):bQ ⟨1,a,b,x⟩ pc m=(pc+1,0,cO m a b):=rfl
theorem ex2 (a b x pc:Int) (m:List Int):bQ ⟨2,a,b,x⟩ pc m=(pc+1,0,cO m a (aV m b)):=rfl
theorem akO (a b x pc:Int) (m:List Int):bQ ⟨14,a,b,x⟩ pc m=(pc+1,0,cO m a (bR (aV m b==0))):=rfl
theorem agt (a b x pc:Int) (m:List Int):bQ ⟨15,a,b,x⟩ pc m=(pc+1,0,cO m a (aV m (lC ⟨15,a,b,x⟩ m))):=rfl
theorem agu (a b x pc:Int) (m:List Int):bQ ⟨16,a,b,x⟩ pc m=(pc+1,0,cO m (lC ⟨16,a,b,x⟩ m) (aV m x)):=rfl
theorem aat (a b x pc:Int) (m:List Int):bQ ⟨17,a,b,x⟩ pc m=(pc+1,0,cO m a (min (max (aV m a) b) x)):=rfl
theorem aau (a b x pc:Int) (m:List Int):bQ ⟨18,a,b,x⟩ pc m=(pc+1,0,cO m a (bR (decide (0<=aV m b)&&decide (aV m b<x)))):=rfl
theorem Tz (a b x pc:Int) (m:List Int):bQ ⟨20,a,b,x⟩ pc m=(if aV m b=0 then a else pc+1,0,m):=rfl
theorem akP (a b x pc:Int) (m:List Int):bQ ⟨21,a,b,x⟩ pc m=(if aV m b=0 then pc+1 else a,0,m):=rfl
theorem ex3 {op:Int} (h:3<=op/\op<=13) (a b x pc:Int) (m:List Int):bQ ⟨op,a,b,x⟩ pc m=(pc+1,0,cO m a (gJ op.toNat (aV m b) (aV m x))):=by
 unfold bQ;simp only;rw [if_neg aj,if_neg aj,if_neg aj,if_neg aj,if_neg aj,if_neg aj,if_neg aj,if_neg aj,if_neg aj,if_neg aj,if_neg aj]
theorem acw {a b x:Int} {m:List Int} (h:0<=b+aV m x) (h':b+aV m x<m.length):lC ⟨15,a,b,x⟩ m=b+aV m x/\lost ⟨15,a,b,x⟩ m=false:=by
 have e:lC ⟨15,a,b,x⟩ m=b+aV m x:=by
  unfold lC rX;simp only [if_true];change (if 0<=b+aV m x/\b+aV m x<m.length then b+aV m x else -1)=_;rw [if_pos ⟨h,h'⟩]
 refine⟨e,?_⟩;unfold lost;rw [e];simp
 omega
theorem acy {a b x:Int} {m:List Int} (h:0<=a+aV m b) (h':a+aV m b<m.length):lC ⟨16,a,b,x⟩ m=a+aV m b/\lost ⟨16,a,b,x⟩ m=false:=by
 have e:lC ⟨16,a,b,x⟩ m=a+aV m b:=by
  unfold lC rX;simp only [if_true];change (if (16:Int)=15 then _ else if 0<=a+aV m b/\a+aV m b<m.length then a+aV m b else -1)=_;rw [if_neg ak,if_pos ⟨h,h'⟩]
 refine⟨e,?_⟩;unfold lost;rw [e];simp
 omega
theorem uP {op:Int} (h:5<=op/\op<=17):3<=lW op/\lW op<=13:=by
 have h13:op=5∨op=6∨op=7∨op=8∨op=9∨op=10∨op=11∨op=12∨op=13∨op=14∨op=15∨op=16∨op=17:=by omega
 rcases h13 with rfl|rfl|rfl|rfl|rfl|rfl|rfl|rfl|rfl|rfl|rfl|rfl|rfl<;>decide
abbrev YE (b tw op:Int):Ins:=⟨lW op,fr b tw,fr b tw,fr b (tw+1)⟩
theorem Sd {c:List Ins} {b tw pc op:Int} {m m1 m2:List Int} {A B:List Ins} {x y:Int} (h0:0<=tw) (hb0:0<=b) (hto:tw+1<16) (hlen:(m.length:Int)=b+49)
 (hop:5<=op/\op<=17) (hs:Seg c pc (A++B++[YE b tw op])) (hok:ND c m.length) (hm:∀z∈m,au z)
 (hA:jU c A.length (pc,0,m)=(pc+A.length,0,m1)) (sA:Same m m1 (fr b tw) (fr b 16)) (vA:aV m1 (fr b tw)=x)
 (hB:jU c B.length (pc+A.length,0,m1)=(pc+A.length+B.length,0,m2)) (sB:Same m1 m2 (fr b (tw+1)) (fr b 16)) (vB:aV m2 (fr b (tw+1))=y):
 ∃m',jU c (A++B++[YE b tw op]).length (pc,0,m)=(pc+(A++B++[YE b tw op]).length,0,m')/\Same m m' (fr b tw) (fr b 16)/\aV m' (fr b tw)=gJ (lW op).toNat x y:=by
 have hx:aV m2 (fr b tw)=x:=by rw [sB.out _ bP bP];exact vA
 have hok2:ND c m2.length:=by rw [sB.len,sA.len];exact hok
 refine⟨cO m2 (fr b tw) (gJ (lW op).toNat x y),?_,?_,?_⟩
 ·rw [show pc+((A++B++[YE b tw op]).length:Int)=pc+A.length+B.length+1 by simp only [List.length_append,List.length_cons,List.length_nil];omega]
  rw [List.append_assoc];rw [List.append_assoc]at hs;refine jL hA (jL hB (dH hs.right.right hok2 (aT _ (by have:=uP hop;simp;omega) (by have:=uP hop;simp;omega)) ?_ rfl));rw [show YE b tw op=⟨lW op,fr b tw,fr b tw,fr b (tw+1)⟩from rfl,ex3 (uP hop),hx,vB]
 ·refine(sA.trans (sB.mono bP (Int.le_refl _))).trans (Same.put bP (Int.le_refl _) bP (by rw [sB.len,sA.len];unfold fr;omega) (JK _ ?_))
  rw [<-hx];exact kI (sB.ok (sA.ok hm)) _
 ·rw [eP _ bP bP (by rw [sB.len,sA.len];unfold fr;omega),if_pos rfl]
theorem JI {c:List Ins} {k:Mk} {κ:Kn} {W:Wd} {R:RS}:∀(F:EF) (j:Nat) (tw pc:Int) (m:List Int),j<F.len->gq κ F=none->0<=tw->tw+Tt F j<=16->Seg c pc (cE k W F j tw)->ND c m.length->NI k κ W R m->
 ∃m',jU c (cE k W F j tw).length (pc,0,m)=(pc+(cE k W F j tw).length,0,m')/\Same m m' (fr k.b tw) (fr k.b 16)/\aV m' (fr k.b tw)=ev k.V R F j
 | .nil,j,_,_,_,hj,_,_,_,_,_,_=>by simp [EF.len]at hj
 | .cons _ _ _ _ r,j+1,tw,pc,m,hj,hc,h0,hd,hs,hok,hI=>by
  rw [gq,av,av]at hc;exact JI r j tw pc m (by simpa [EF.len]using hj) hc.2 h0 hd hs hok hI
 | .cons op n name kids r,0,tw,pc,m,_,hc,h0,hd,hs,hok,hI=>by
  rw [gq,av,av]at hc;obtain⟨⟨hh,hk⟩,-⟩:=hc;unfold gY at hh;rw [av,aP,Bool.and_eq_true]at hh;obtain⟨⟨hop,hlen⟩,hh⟩:=hh;have hop':0<=op/\op<=17:=by simpa [jq]using hop
  have hlen':kids.len=exprParts op:=by simpa using hlen
  have hL:=hI.len;have hb0:=hI.b0;simp only [Tt]at hd;rw [cE]at hs⊢;rw [ev]
  by_cases o0:op=0
  ·subst o0
   simp only [if_true]at hs hh⊢;rw [aP]at hh;have hw:au n:=by simpa [word,au]using hh
   refine⟨cO m (fr k.b tw) n,dH hs hok (aT _ aG aG) (ex1 _ _ _ _ _) rfl,Same.put bP (Int.le_refl _) bP bP hw,?_⟩;rw [eP _ bP bP bP,if_pos rfl,sw hw]
  rw [if_neg o0]at hs hh⊢;rw [if_neg o0]
  by_cases o1:op=1
  ·subst o1
   simp only [if_true,true_or]at hs hh⊢;rw [av,aP,aP]at hh;have hp:κ name≠0/\κ name≠2:=by simpa using hh
   obtain⟨p1,p2,p3⟩:=hI.plain name hp;refine⟨cO m (fr k.b tw) (aV m (W name)),dH hs hok (aT _ aG aG) (ex2 _ _ _ _ _) rfl,Same.put bP (Int.le_refl _) bP bP (kI hI.ok _),?_⟩;rw [eP _ bP bP bP,if_pos rfl,p3]
  rw [if_neg o1]at hs⊢;rw [if_neg o1];have hkd:∀i,Tt kids i<=dp kids:=DK kids;have hkp:=Ig kids 0
  by_cases o2:op=2
  ·subst o2
   simp only [if_true,or_true]at hs hh⊢;rw [av,aP,aP]at hh;have hp:κ name=2:=by simpa using hh.2
   obtain⟨l1,l2,l3,l4⟩:=hI.list name hp;have h1:0<kids.len:=by rw [hlen'];decide
   have hto:tw+1<16:=by have:=hkp h1;have:=hkd 0;omega
   obtain⟨m1,r1,s1,v1⟩:=JI kids 0 tw pc m h1 hk h0 YW hs.left hok hI;obtain⟨x,hx⟩:∃x,x=ev k.V R kids 0:=⟨_,rfl⟩;rw [<-hx]at v1⊢;have TT:au x:=by rw [<-v1];exact kI (s1.ok hI.ok) _
   have hI1:=hI.same s1 bP;obtain⟨-,-,-,l4'⟩:=hI1.list name hp;have hm1:=s1.len;obtain⟨t,ht⟩:∃t,t=bR (decide (0<=x)&&decide (x<(aD k.V name).size)):=⟨_,rfl⟩;have aew:au t:=by rw [ht];exact kD _
   -- the four instructions behind the place
   obtain⟨m2,e2⟩:∃m2,m2=cO m1 (fr k.b (tw+1)) t:=⟨_,rfl⟩;have s2:Same m1 m2 (fr k.b tw) (fr k.b 16):=by rw [e2];exact Same.put bP bP bP bP aew
   have g2:aV m2 (fr k.b tw)=x/\aV m2 (fr k.b (tw+1))=t:=by
    exact ajE
   obtain⟨y,hy⟩:∃y,y=w32 (x*t):=⟨_,rfl⟩
   have hyv:y=if 0<=x/\x<(aD k.V name).size then x else 0:=by
    rw [hy,ht]
    by_cases q:0<=x/\x<(aD k.V name).size
    ·rw [if_pos q]
     simp [bR,q.1,q.2];exact sw TT
    ·rw [if_neg q]
     have:(decide (0<=x)&&decide (x<(aD k.V name).size))=false:=by
      rw [Bool.and_eq_false_iff];simp;omega
     rw [this];simp [bR,nO]
   have hyb:0<=y/\y<(aD k.V name).size:=by rw [hyv];split<;>omega
   obtain⟨m3,e3⟩:∃m3,m3=cO m2 (fr k.b tw) y:=⟨_,rfl⟩;have hm2:=s2.len;have s3:Same m2 m3 (fr k.b tw) (fr k.b 16):=by rw [e3];exact Same.put bP bP bP bP (by rw [hy];exact lM _)
   have g3:aV m3 (fr k.b tw)=y/\aV m3 (fr k.b (tw+1))=t:=by
    rw [e3,eP _ bP bP bP,if_pos rfl,eP _ bP bP bP,if_neg bP,g2.2];exact⟨rfl,rfl⟩
   have Rz:=s3.len
   have hv3:aV m3 (W name+y)=R.vars.getD (aS k.V name+y).toNat 0:=by
    rw [s3.out _ aj bP,s2.out _ aj bP];exact l4' y hyb.1 hyb.2
   obtain⟨z,hz⟩:∃z,z=R.vars.getD (aS k.V name+y).toNat 0:=⟨_,rfl⟩;rw [<-hz]at hv3;have ahn:au z:=by rw [<-hv3];exact kI (s3.ok (s2.ok (s1.ok hI.ok))) _
   obtain⟨f1,f2⟩:=acw (a:=fr k.b tw) (b:=W name) (x:=fr k.b tw) (m:=m3) (by rw [g3.1];omega) (by rw [g3.1];omega);rw [g3.1]at f1;obtain⟨m4,e4⟩:∃m4,m4=cO m3 (fr k.b tw) z:=⟨_,rfl⟩;have s4:Same m3 m4 (fr k.b tw) (fr k.b 16):=by rw [e4];exact Same.put bP bP bP bP ahn
   have g4:aV m4 (fr k.b tw)=z/\aV m4 (fr k.b (tw+1))=t:=by
    rw [e4,eP _ bP bP bP,if_pos rfl,eP _ bP bP bP,if_neg bP,g3.2];exact⟨rfl,rfl⟩
   have Ay:=s4.len;have ok1:ND c m1.length:=by rw [hm1];exact hok
   have ok2:ND c m2.length:=by rw [hm2];exact ok1
   have ok3:ND c m3.length:=by rw [Rz];exact ok2
   have ok4:ND c m4.length:=by rw [Ay];exact ok3
   have hsr:=hs.right;refine⟨cO m4 (fr k.b tw) (w32 (z*t)),?_,((s1.trans s2).trans (s3.trans s4)).trans (Same.put bP bP bP bP (lM _)),?_⟩
   ·refine jL r1 ?_
    refine dH hsr ok1 (aT _ aG aG) (aau _ _ _ _ _) ?_;rw [v1,<-ht,<-e2];refine dH hsr.tail ok2 (aT _ aG aG) (ex3 aj _ _ _ _ _) ?_;rw [g2.1,g2.2,show gJ (5:Int).toNat x t=y from hy.symm,<-e3];refine dH hsr.tail.tail ok3 f2 (agt _ _ _ _ _) ?_;rw [f1,hv3,<-e4];refine dH hsr.tail.tail.tail ok4 (aT _ aG aG) (ex3 aj _ _ _ _ _) ?_;rw [g4.1,g4.2];exact Zr
   ·rw [eP _ bP bP bP,if_pos rfl]
    by_cases q:0<=x/\x<(aD k.V name).size
    ·have t1:t=1:=by rw [ht];simp [bR,q.1,q.2]
     rw [if_pos q]at hyv;rw [if_neg aj,t1,Int.mul_one,sw ahn,hz,hyv]
    ·have t0:t=0:=by
      rw [ht]
      have:(decide (0<=x)&&decide (x<(aD k.V name).size))=false:=by
       rw [Bool.and_eq_false_iff];simp;omega
      rw [this];rfl
     rw [if_pos aj,t0,Int.mul_zero]
     rfl
  rw [if_neg o2]at hs⊢;rw [if_neg o2];have h1:0<kids.len:=by rw [hlen'];unfold exprParts;rw [if_neg aj];split<;>decide
  have hto:tw+1<16:=by have:=hkp h1;have:=hkd 0;omega
  by_cases o3:op=3
  ·subst o3
   simp only [if_true]at hs⊢;obtain⟨m1,r1,s1,v1⟩:=JI kids 0 tw pc m h1 hk h0 YW hs.left hok hI;obtain⟨x,hx⟩:∃x,x=ev k.V R kids 0:=⟨_,rfl⟩;rw [<-hx]at v1⊢;have TT:au x:=by rw [<-v1];exact kI (s1.ok hI.ok) _
   have hm1:=s1.len;obtain⟨m2,e2⟩:∃m2,m2=cO m1 (fr k.b (tw+1)) 0:=⟨_,rfl⟩;have s2:Same m1 m2 (fr k.b tw) (fr k.b 16):=by rw [e2];exact Same.put bP bP bP bP kG
   have g2:aV m2 (fr k.b tw)=x/\aV m2 (fr k.b (tw+1))=0:=by
    exact ajE
   have hm2:=s2.len;have ok1:ND c m1.length:=by rw [hm1];exact hok
   refine⟨cO m2 (fr k.b tw) (w32 (0 - x)),?_,(s1.trans s2).trans (Same.put bP bP bP bP (lM _)),?_⟩
   ·refine jL r1 ?_
    refine dH hs.right ok1 (aT _ aG aG) (ex1 _ _ _ _ _) ?_;rw [<-e2];refine dH hs.right.tail (by rw [hm2];exact ok1) (aT _ aG aG) (ex3 aj _ _ _ _ _) ?_;rw [g2.1,g2.2];exact Zr
   ·rw [eP _ bP bP bP,if_pos rfl]
    simp [join]
  rw [if_neg o3]at hs⊢;rw [if_neg o3]
  by_cases o4:op=4
  ·subst o4
   simp only [if_true]at hs⊢;obtain⟨m1,r1,s1,v1⟩:=JI kids 0 tw pc m h1 hk h0 YW hs.left hok hI;have hm1:=s1.len;refine⟨cO m1 (fr k.b tw) (bR (ev k.V R kids 0==0)),?_,s1.trans (Same.put bP bP bP bP (kD _)),?_⟩
   ·refine jL r1 ?_
    refine dH hs.right (by rw [hm1];exact hok) (aT _ aG aG) (akO _ _ _ _ _) ?_;rw [v1];exact Zr
   ·rw [eP _ bP bP bP,if_pos rfl]
  rw [if_neg o4]at hs⊢;rw [if_neg o4];have h2:1<kids.len:=by rw [hlen'];unfold exprParts;rw [if_neg aj,if_neg aj];decide
  have aaH:5<=op/\op<=17:=by omega
  by_cases o14:op=14∨op=15
  ·rw [if_pos o14]at hs⊢
   obtain⟨m1,r1,s1,v1⟩:=JI kids 1 tw pc m h2 hk h0 (by have:=hkd 1;omega) hs.left.left hok hI;have hI1:=hI.same s1 bP;obtain⟨m2,r2,s2,v2⟩:=JI kids 0 (tw+1) _ m1 h1 hk aj YW hs.left.right (by rw [s1.len];exact hok) hI1;obtain⟨m',r',s',v'⟩:=Sd h0 hb0 hto hL aaH hs hok hI.ok r1 s1 v1 r2 s2 v2;refine⟨m',r',s',?_⟩;rw [v',<-DZ (by rw [<-v2];exact kI (s2.ok (s1.ok hI.ok)) _) (by rw [<-v1];exact kI (s1.ok hI.ok) _) aaH,if_pos o14]
  ·rw [if_neg o14]at hs⊢
   obtain⟨m1,r1,s1,v1⟩:=JI kids 0 tw pc m h1 hk h0 YW hs.left.left hok hI;have hI1:=hI.same s1 bP;obtain⟨m2,r2,s2,v2⟩:=JI kids 1 (tw+1) _ m1 h2 hk aj (by have:=hkd 1;omega) hs.left.right (by rw [s1.len];exact hok) hI1;obtain⟨m',r',s',v'⟩:=Sd h0 hb0 hto hL aaH hs hok hI.ok r1 s1 v1 r2 s2 v2;refine⟨m',r',s',?_⟩;rw [v',<-DZ (by rw [<-v1];exact kI (s1.ok hI.ok) _) (by rw [<-v2];exact kI (s2.ok (s1.ok hI.ok)) _) aaH,if_neg o14]
open Go.RowKit Mc
theorem Ie:∀F:EF,F.size<=1099511627776->F.deep=dp F/\dp F<=F.size
 | .nil,_=>⟨rfl,Nat.le_refl _⟩
 | .cons _ _ _ k r,h=>by
  simp only [EF.size]at h;obtain⟨h1,h2⟩:=Ie k aj;obtain⟨h3,h4⟩:=Ie r aj;refine⟨?_,by simp only [dp,EF.size];omega⟩;rw [EF.deep,dp,h1,h3];have:jW (1+(dp k:Int))=1+dp k:=by simp only [fF];omega
  rw [this]
  omega
theorem DF {κ:Kn}:∀{F:EF},lu κ F=none->F.size<=1099511627776->gq κ F=none/\dp F<=12
 | .nil,_,_=>⟨rfl,by simp [dp]⟩
 | .cons _ _ _ k r,h,hz=>by
  rw [lu,av,av,aP,decide_eq_true_eq]at h;simp only [EF.size]at hz;obtain⟨h1,h2⟩:=DF h.2 aj;obtain⟨h3,h4⟩:=Ie k aj;have h5:=h.1.1;rw [h3,show jW (1+(dp k:Int))=1+dp k by simp only [fF];omega]at h5;refine⟨?_,by simp only [dp];omega⟩;rw [gq,av];exact⟨h.1.2,h1⟩
structure VrR (v:Vr):Prop where
 lo:au v.low
 hi:au v.high
 le:v.low<=v.high
theorem zJ {n lo hi:Int} (h1:au lo) (h2:au hi) (h:lo<=hi):min (max n lo) hi=mh n lo hi:=by
 unfold mh;have e:max lo (min n hi)=min (max n lo) hi:=by omega
 rw [e];unfold au at h1 h2;exact(sw kG).symm
theorem Cn {n lo hi:Int} (h1:au lo) (h2:au hi) (h:lo<=hi):lo<=mh n lo hi/\mh n lo hi<=hi:=by
 rw [<-zJ h1 h2 h]
 omega
structure Stat (k:Mk):Prop where
 b0:0<=k.b
 s2:2<=k.seats
 s8:k.seats<=8
structure nG (k:Mk) (R:RS) (m:List Int):Prop where
 len:(m.length:Int)=k.b+49
 ok:∀x∈m,au x
 kE:(R.vars.length:Int)=k.b
 vars:∀i,0<=i->i<k.b->aV m i=R.vars.getD i.toNat 0
 seat:aV m (k.b+4)=R.seat
 cell:aV m (k.b+5)=R.cell
 sides:aV m (k.b+6)=R.sides
 rest:aV m (k.b+7)=R.rest
 lZ:(R.asks.length:Int)=k.seats
 asks:∀i,0<=i->i<k.seats->aV m (k.b+8+i)=R.asks.getD i.toNat 0/\0<=R.asks.getD i.toNat 0/\R.asks.getD i.toNat 0<=1073741823
structure FE (k:Mk) (κ:Kn) (W:Wd) (f:Nat) (B:List (Str×Int)) (m:List Int):Prop where
 kn:∀s,κ s<=3
 one:∀s,κ s=1->W s=aS k.V s/\0<=aS k.V s/\aS k.V s<k.b/\iq B s=none/\VrR (aD k.V s)
 two:∀s,κ s=2->W s=aS k.V s/\0<=aS k.V s/\0<(aD k.V s).size/\aS k.V s+(aD k.V s).size<=k.b/\VrR (aD k.V s)
 fix:∀s,κ s=3->((k.b<=W s/\W s<k.b+4)∨(k.b+17<=W s/\W s<k.b+17+2*f))/\∃v,iq B s=some v/\aV m (W s)=v
 no:∀s,κ s=0->iq B s=none
theorem NI.of {k:Mk} {κ:Kn} {W:Wd} {f:Nat} {R:RS} {m:List Int} (hk:Stat k) (hf:f<=8) (hC:nG k R m) (hN:FE k κ W f R.binds m):NI k κ W R m:=
 ⟨hk.b0,hC.len,hC.ok,λs h=>by
  have h3:=hN.kn s;have hb:=hk.b0
  rcases(by omega:κ s=1∨κ s=3)with q|q
  ·obtain⟨a1,a2,a3,a4,_⟩:=hN.one s q
   rw [a1];refine⟨a2,by omega,?_⟩;unfold yF;rw [a4];exact hC.vars _ a2 a3
  ·obtain⟨a1,v,a2,a3⟩:=hN.fix s q
   refine⟨by omega,by omega,?_⟩;unfold yF;rw [a2,a3],λs q=>by
  obtain⟨a1,a2,a3,a4,_⟩:=hN.two s q;rw [a1];exact⟨a2,a3,a4,λi h0 h1=>hC.vars _ aj aj⟩⟩
structure Keep (k:Mk) (f:Nat) (m m':List Int):Prop where
 loops:∀i,k.b+17<=i->i<k.b+17+2*f->aV m' i=aV m i
 one:aV m (k.b+16)=1->aV m' (k.b+16)=1
 args:∀i,k.b<=i->i<k.b+4->aV m' i=aV m i
theorem Keep.refl (k:Mk) (f:Nat) (m:List Int):Keep k f m m:=⟨λ_ _ _=>rfl,λh=>h,λ_ _ _=>rfl⟩
theorem Keep.trans {k:Mk} {f:Nat} {a b c:List Int} (h:Keep k f a b) (h':Keep k f b c):Keep k f a c:=
 ⟨λi h0 h1=>(h'.loops i h0 h1).trans (h.loops i h0 h1),λq=>h'.one (h.one q),λi h0 h1=>(h'.args i h0 h1).trans (h.args i h0 h1)⟩
theorem Keep.of_same {k:Mk} {f:Nat} {m m':List Int} {lo hi:Int} (hk:Stat k) (hf:f<=8) (h:Same m m' lo hi) (hlo:k.b+33<=lo):Keep k f m m':=by
 have hb:=hk.b0;exact⟨λi h0 h1=>h.out i aj aj,λq=>by rw [h.out _ aj aj];exact q,λi h0 h1=>h.out i aj aj⟩
theorem FE.keep {k:Mk} {κ:Kn} {W:Wd} {f:Nat} {B:List (Str×Int)} {m m':List Int} (h:FE k κ W f B m) (hk:Keep k f m m'):FE k κ W f B m':=
 ⟨h.kn,h.one,h.two,λs q=>by
  obtain⟨a1,v,a2,a3⟩:=h.fix s q;refine⟨a1,v,a2,?_⟩
  rcases a1 with a1|a1
  ·rw [hk.args _ a1.1 a1.2];exact a3
  ·rw [hk.loops _ a1.1 a1.2];exact a3,h.no⟩
theorem nG.same {k:Mk} {R:RS} {m m':List Int} {lo hi:Int} (hk:Stat k) (h:nG k R m) (hs:Same m m' lo hi) (hlo:k.b+16<=lo):nG k R m':=by
 have hb:=hk.b0;have h8:=hk.s8;have g:∀i,0<=i->i<k.b+16->aV m' i=aV m i:=λi h0 h1=>hs.out i h0 aj
 exact⟨by rw [hs.len];exact h.len,hs.ok h.ok,h.kE,λi h0 h1=>by rw [g i h0 aj];exact h.vars i h0 h1,by rw [g _ aj aj];exact h.seat,by rw [g _ aj aj];exact h.cell,
  by rw [g _ aj aj];exact h.sides,by rw [g _ aj aj];exact h.rest,h.lZ,λi h0 h1=>by rw [g _ aj aj];exact h.asks i h0 h1⟩
structure Out (c:List Ins) (pc:Int) (m:List Int) (n:Nat) (pe:Int) (k:Mk) (κ:Kn) (W:Wd) (f:Nat) (R':RS):Prop where
 go:R'.over=false->∃m',jU c n (pc,0,m)=(pe,0,m')/\nG k R' m'/\FE k κ W f R'.binds m'/\Keep k f m m'
 halt:R'.over=true->∃pc' m',jU c n (pc,0,m)=(pc',(if R'.refused then 2 else 1),m')/\nG k R' m'
theorem KW (l:List Int) (i j:Nat) (v:Int) (h:i<l.length):(l.set i v).getD j 0=if j=i then v else l.getD j 0:=by
 rw [List.getD_eq_getElem?_getD,List.getElem?_set]
 by_cases e:j=i
 ·subst e
  rw [if_pos rfl,if_pos rfl,if_pos h]
  rfl
 ·rw [if_neg e,if_neg aj,List.getD_eq_getElem?_getD]
theorem nG.Ev {k:Mk} {R:RS} {m:List Int} (hk:Stat k) (h:nG k R m) {j v:Int} (h0:0<=j) (h1:j<k.b) (hv:au v):nG k {R with vars:=R.vars.set j.toNat v} (cO m j v):=by
 have hb:=hk.b0;have hl:=h.len;have hvl:=h.kE;have g:∀i,0<=i->¬i=j->aV (cO m j v) i=aV m i:=λi hi hn=>by rw [eP v h0 hi aj,if_neg hn]
 refine⟨by rw [iU];exact hl,CB h.ok hv,by simpa using h.kE,λi hi0 hi1=>?_,by rw [g _ aj aj];exact h.seat,by rw [g _ aj aj];exact h.cell,by rw [g _ aj aj];exact h.sides,by rw [g _ aj aj];exact h.rest,h.lZ,λi hi0 hi1=>by rw [g _ aj aj];exact h.asks i hi0 hi1⟩;rw [eP v h0 hi0 aj];show _=(R.vars.set j.toNat v).getD i.toNat 0;rw [KW _ _ _ _ aj]
 by_cases e:i=j
 ·rw [if_pos e,if_pos aj]
 ·rw [if_neg e,if_neg aj]
  exact h.vars i hi0 hi1
theorem Keep.put {k:Mk} {f:Nat} {m:List Int} (hk:Stat k) (hl:(m.length:Int)=k.b+49) {j v:Int} (h0:0<=j) (h1:j<k.b∨k.b+4<=j/\j<k.b+16∨k.b+33<=j) (h2:j<k.b+49) (hf:f<=8):Keep k f m (cO m j v):=by
 have hb:=hk.b0;have g:∀i,0<=i->¬i=j->aV (cO m j v) i=aV m i:=λi hi hn=>by rw [eP v h0 hi aj,if_neg hn]
 exact⟨λi _ _=>g i aj aj,λq=>by rw [g _ aj aj];exact q,λi _ _=>g i aj aj⟩
end Go.Proofs.YtbfbabbcdochjaaGreatDoor.So
