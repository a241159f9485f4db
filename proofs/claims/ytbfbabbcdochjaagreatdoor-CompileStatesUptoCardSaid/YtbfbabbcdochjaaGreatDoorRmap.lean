/- Several texts joined: Kx, Km, Cp. -/
import Derived.Test.YtbfbabbcdochjaaGreatDoorRmpk
import Derived.Test.YtbfbabbcdochjaaGreatDoorRmao
set_option maxHeartbeats 4000000
set_option maxRecDepth 100000
open Go.Proofs.Tryz
namespace Go.Proofs.YtbfbabbcdochjaaGreatDoor.Mc
open Go.RowKit
theorem aay {m:List Int} (h:∀z∈m,au z) (k:Nat):au (m.getD k 0):=by
 by_cases hk:k<m.length
 ·simp [hk];exact h _ (List.getElem_mem hk)
 ·simp [hk];unfold au;omega
theorem aeC {i:Ins} (h:isOp i.op=true):∃k:Nat,k<22/\i.op=k:=by
 simp [isOp]at h;exact⟨i.op.toNat,by omega,by omega⟩
theorem abb {m:List Int} {x v:Int} (hm:∀z∈m,au z) (hv:au v):∀z∈cO m x v,au z:=λz hz=>by
 rcases List.mem_or_eq_of_mem_set hz with h|h
 ·exact hm z h
 ·rw [h];exact hv
theorem uV {m:List Int} {x:Int} (hm:∀z∈m,au z):au (aV m x):=aay hm _
theorem kD (b:Bool):au (bR b):=by cases b<;>simp [bR,au]
theorem vI (x:Int):au (IntKind.i32.wrap x):=by
 unfold au;simp only [IntKind.wrap,IntKind.signed,IntKind.bits];simp
 omega
theorem aeP (k:Nat) {b c:Int} (hb:au b) (_Fg:au c):au (gJ k b c):=by
 have h0:au 0:=by unfold au;omega
 unfold gJ
 split
 ·exact vI _
 ·exact vI _
 ·exact vI _
 ·split
  ·exact h0
  ·exact vI _
 ·split
  ·exact h0
  ·unfold au at hb⊢
   rename_i hc0;have h2:(b.tmod c).natAbs<=b.natAbs:=by rw [Int.natAbs_tmod];exact Nat.mod_le _ _
   rcases Int.lt_or_le b 0 with hn|hn
   ·have:=Int.tmod_nonneg (a:=-b) c aj;rw [Int.neg_tmod]at this;omega
   ·have:=Int.tmod_nonneg c hn;omega
 all_goals exact kD _
structure ql (pc halt:Int) (m:List Int):Prop where
 right:uF pc halt m.length=true
 vQ:∀z∈m,au z
theorem ql.mk' {pc halt:Int} {m:List Int} (k:Nat) (hk:k=m.length) (h1:1<=k) (h2:k<=256) (p0:0<=pc) (p1:pc<=2048) (a0:0<=halt) (a1:halt<=2) (hm:∀z∈m,au z):ql pc halt m:=
 ⟨by subst hk;simp [uF];omega,hm⟩
theorem R5 (m:List Int) (x v:Int):(cO m x v).length=m.length:=by simp [cO]
theorem TA {i:Ins} {pc:Int} {n:Nat} {m:List Int} (hr:bM i n m.length=true) (hn:n<=2048) (h:ql pc 0 m) (hp:pc<n):ql (bQ i pc m).1 (bQ i pc m).2.1 (bQ i pc m).2.2/\(bQ i pc m).2.2.length=m.length:=by
 obtain⟨h1,h2,h3,h4,_,_⟩:=jk h.right;obtain⟨o0,o1,ha,hb,hc,he⟩:=rY hr;obtain⟨k,hk,hop⟩:=aeC (i:=i) (by simp [isOp];omega);have hnn:i.op.toNat=k:=by omega
 rw [hnn]at ha hb hc
 have put:∀(x v:Int),au v->ql (pc+1) 0 (cO m x v)/\(cO m x v).length=m.length:=λx v hv=>
  ⟨ql.mk' m.length (R5 m x v).symm h1 h2 aj aj aj aj (abb h.vQ hv),R5 m x v⟩
 have go:∀q:Int,0<=q->q<=2048->ql q 0 m/\m.length=m.length:=λq q0 q1=>⟨ql.mk' m.length rfl h1 h2 q0 q1 aj aj h.vQ,rfl⟩;obtain⟨r,hx⟩:∃r,bQ i pc m=r:=⟨_,rfl⟩;rw [hx]
 delta bQ at hx
 by_cases e0:i.op=0
 ·rw [if_pos e0]at hx
  subst hx;simp [ji,e0]at he;exact⟨ql.mk' m.length rfl h1 h2 h3 h4 (by simp only;omega) (by simp only;omega) h.vQ,rfl⟩
 rw [if_neg e0]at hx
 by_cases e1:i.op=1
 ·rw [if_pos e1]at hx
  subst hx;have ek:k=1:=by omega
  subst ek;exact put _ _ (AJ (k:=1) rfl hb)
 rw [if_neg e1]at hx
 by_cases e2:i.op=2
 ·rw [if_pos e2]at hx
  subst hx;exact put _ _ (uV h.vQ)
 rw [if_neg e2]at hx
 by_cases e14:i.op=14
 ·rw [if_pos e14]at hx
  subst hx;exact put _ _ (kD _)
 rw [if_neg e14]at hx
 by_cases e15:i.op=15
 ·rw [if_pos e15]at hx
  subst hx;exact put _ _ (uV h.vQ)
 rw [if_neg e15]at hx
 by_cases e16:i.op=16
 ·rw [if_pos e16]at hx
  subst hx;exact put _ _ (uV h.vQ)
 rw [if_neg e16]at hx
 by_cases e17:i.op=17
 ·rw [if_pos e17]at hx
  subst hx;have ek:k=17:=by omega
  subst ek;have q0:=AJ (k:=1) rfl hb;have q1:=AJ (k:=2) rfl hc;have q2:=uV (x:=i.a) h.vQ;refine put _ _ ?_;unfold au at q2⊢
  omega
 rw [if_neg e17]at hx
 by_cases e18:i.op=18
 ·rw [if_pos e18]at hx
  subst hx;exact put _ _ (kD _)
 rw [if_neg e18]at hx
 by_cases e19:i.op=19
 ·rw [if_pos e19]at hx
  subst hx;have ek:k=19:=by omega
  subst ek;have q0:=GK (k:=0) rfl ha;exact go _ aj aj
 rw [if_neg e19]at hx
 by_cases e20:i.op=20
 ·rw [if_pos e20]at hx
  subst hx;have ek:k=20:=by omega
  subst ek;have q0:=GK (k:=0) rfl ha
  by_cases ez:aV m i.b=0
  ·rw [if_pos ez];exact go _ aj aj
  ·rw [if_neg ez];exact go _ aj aj
 rw [if_neg e20]at hx
 by_cases e21:i.op=21
 ·rw [if_pos e21]at hx
  subst hx;have ek:k=21:=by omega
  subst ek;have q0:=GK (k:=0) rfl ha
  by_cases ez:aV m i.b=0
  ·rw [if_pos ez];exact go _ aj aj
  ·rw [if_neg ez];exact go _ aj aj
 rw [if_neg e21]at hx;subst hx;exact put _ _ (aeP _ (uV h.vQ) (uV h.vQ))
theorem U7 {c:List Ins} {pc:Int} {m:List Int} (hc:c.length<=2048) (h:ql pc 0 m):ql (lV c pc m).1 (lV c pc m).2.1 (lV c pc m).2.2/\(lV c pc m).2.2.length=m.length:=by
 obtain⟨h1,h2,h3,h4,_,_⟩:=jk h.right;have no:ql pc 2 m/\m.length=m.length:=⟨ql.mk' m.length rfl h1 h2 h3 h4 aj aj h.vQ,rfl⟩;unfold lV
 cases hn:fC c pc m.length with
 |none=>exact no
 |some i=>
  simp only
  split
  ·exact no
  ·refine TA (AB hn) hc h ?_
   unfold fC at hn
   split at hn
   ·rename_i hg
    have:=(List.getElem?_eq_some_iff.1 hg).1
    omega
   ·cases hn
theorem Yo {c:List Ins} {pc halt:Int} {m:List Int} (hc:c.length<=2048) (h:ql pc halt m):ql (UN c pc halt m).1 (UN c pc halt m).2.1 (UN c pc halt m).2.2/\(UN c pc halt m).2.2.length=m.length:=by
 unfold UN
 by_cases h0:halt=0
 ·rw [if_pos h0];subst h0;exact U7 hc h
 ·rw [if_neg h0];exact⟨h,rfl⟩
open Go.RowKit
def jU (c:List Ins):Nat->Int×Int×List Int->Int×Int×List Int
 |0,s=>s
 |n+1,s=>jU c n (if s.2.1=0 then lV c s.1 s.2.2 else s)
theorem gF (c:List Ins):∀(a b:Nat) (s:Int×Int×List Int),jU c (a+b) s=jU c b (jU c a s)
 |0,b,s=>by rw [Nat.zero_add];rfl
 |a+1,b,s=>by rw [show a+1+b=(a+b)+1 by omega];exact gF c a b _
theorem uq (c:List Ins) (s:Int×Int×List Int) (h:¬s.2.1=0):∀n,jU c n s=s
 |0=>rfl
 |n+1=>by rw [jU,if_neg h];exact uq c s h n
theorem LD (c:List Ins) (n:Nat) (s:Int×Int×List Int):jU c (n+1) s=if (jU c n s).2.1=0 then lV c (jU c n s).1 (jU c n s).2.2 else jU c n s:=by
 rw [gF];rfl
theorem DY {c:List Ins} (hc:c.length<=2048) {s:Int×Int×List Int} (h:ql s.1 s.2.1 s.2.2):∀n,ql (jU c n s).1 (jU c n s).2.1 (jU c n s).2.2/\(jU c n s).2.2.length=s.2.2.length
 |0=>⟨h,rfl⟩
 |n+1=>by
  obtain⟨h1,h2⟩:=DY hc h n;obtain⟨h3,h4⟩:=Yo hc h1;rw [LD];unfold UN at h3 h4
  split at h3
  ·rename_i q
   rw [if_pos q]at h4⊢;exact⟨h3,h4.trans h2⟩
  ·rename_i q
   rw [if_neg q];exact⟨h1,h2⟩
theorem r_ (A:Option Addr) (b off cn cap:Nat) (c:List Ins) (pc halt:Int) (b' off' n cap':Nat) (m:List Int) (most:Nat) (LA:most<=1048576) (w:World) (h:H8 w A b off cn c b' off' n pc halt m):
 Calls prog 26 #[.slice A cn cap,.agg (aN pc (some ⟨b',off',none⟩) n cap' halt),.int .i64 most] w λe w'=>∃(v:Value) (k:Nat),e=.returned (.tuple #[v,.int .i64 k,.bool (!((jU c most (pc,halt,m)).2.1==0))])/\k<=most/\WG w w' v n (jU c most (pc,halt,m)).1 (jU c most (pc,halt,m)).2.1 (jU c most (pc,halt,m)).2.2:=by
 obtain⟨hops,hcA,hrow,hcn,lF,hn,hg,qG,acC⟩:=h;obtain⟨h1,h2,h3,h4,h5,h6⟩:=jk hg;have nV:=J (show ql (pc,halt,m).1 (pc,halt,m).2.1 (pc,halt,m).2.2 from⟨by rw [<-hn];exact hg,qG⟩);have NK:=J (show c.length<=2048 by omega);have nQ:=J hops;have HA:=J hcA;have HR:=J hrow;have wo:=J hcn;have HN:=J hn;have HG:=J hg;have HO:=J qG;clear hops hcA hrow hcn hn hg qG;have hx0:Ext w _:=((kR _ w).alloc (.cells (aN pc (some ⟨b',off',none⟩) n cap' halt) 49)).alloc (.cells (aN 0 none 0 0 0) 49);have hA0:aH _ w.heap.size 49 (aN pc (some ⟨b',off',none⟩) n cap' halt):=aH.alloc (bN w _ _) (.cells (aN 0 none 0 0 0) 49);have hR0:aH _ (w.heap.size+1) 49 (aN 0 none 0 0 0):=aH.new' (w.alloc (.cells (aN pc (some ⟨b',off',none⟩) n cap' halt) 49)) _ _ _ aG;have hr0:=acC.ext hx0;clear acC;go_enter func26,ntmps26;go_wp2_with fail;refine(PU pc halt b' off' cap' m n HN.out h1 aj _ hr0).mono ?_;rintro e w1 ⟨v1,rfl,g,kc,rfl,hM1,hx1⟩;have hA1:=bX hA0 hx1;have yB:=bX hR0 hx1;have lA:=hA0.lt;have lR:=hR0.lt;have hgb:=hM1.ge;have hh1:=bH hA1;have hm1:=aH.bF hA1;have hA2:aH (putAt w1 w.heap.size 0 (aN pc (some ⟨g,0,none⟩) n kc halt)) w.heap.size 49 (aN pc (some ⟨g,0,none⟩) n kc halt):=aH.gL hA1 _ _;have hR2:=aH.aeG yB (show w.heap.size+1≠w.heap.size by omega) 0 (aN pc (some ⟨g,0,none⟩) n kc halt);have hM2:eB (putAt w1 w.heap.size 0 (aN pc (some ⟨g,0,none⟩) n kc halt)) w.heap.size g n kc m:=gZ (hM1.kept (Kept.putAt (S:=(·=w.heap.size)) (kR _ w1) w.heap.size 0 (aN pc (some ⟨g,0,none⟩) n kc halt) (λ_=>rfl)) aj) aj;have y2:Ext w (putAt w1 w.heap.size 0 (aN pc (some ⟨g,0,none⟩) n kc halt)):=Kept.putAt (hx0.trans hx1) _ _ _ (λh=>by omega);go_upto_region 2 with(fail);clear hA0 hR0 hA1 yB hM1 hh1 hm1 hx0 hr0;generalize (putAt w1 w.heap.size 0 (aN pc (some ⟨g,0,none⟩) n kc halt))=W2 at hA2 hR2 hM2 y2⊢;have i1:=bH hA2;have i2:=bG hA2;go_wp2_with fail;refine(nS pc halt (some ⟨g,0,none⟩) n kc _).mono ?_;rintro e w3 ⟨rfl,hx3⟩;rw [HG.out];have hA3:=bX hA2 hx3;have Xt:=bX hR2 hx3;have Aq:=hM2.ext hx3;have y3:=y2.trans hx3;clear hA2 hR2 hM2 y2 hx3 i1 i2;go_wp2_with fail;refine(YG _).mono ?_;rintro e w4 ⟨rfl,hQ4,hx4⟩;have hA4:=bX hA3 hx4;have hR4:=bX Xt hx4;have hM4:=Aq.ext hx4;have y4:=y3.trans hx4;have lg:=Aq.lt;clear hA3 Xt Aq y3 hx4;generalize w3.heap.size=q at hQ4 lg⊢;have Gq:¬w.heap.size=g:=by omega
 go_wp2_with fail
 go_loopw [10] (λt10 wr=>∃(k:Nat),t10=.int .i64 k/\k<=most/\q8 wr w.heap.size 49 (jU c k (pc,halt,m)).1 (some ⟨g,0,none⟩) n kc (jU c k (pc,halt,m)).2.1/\eB wr w.heap.size g n kc (jU c k (pc,halt,m)).2.2/\Kept (λi=>i=w.heap.size∨i=g) w4 wr) (λt10 _=>most - (intOf t10).toNat)
 case atStart=>exact⟨0,rfl,Nat.zero_le _,hA4,hM4,kR _ _⟩
 case round=>
  obtain⟨k,rfl,hk,hA,hM,hK4⟩:=hrel;have hRr:=bK hR4 hK4 aj;have yr:Ext w wr:=y4.trans' hK4 (λi hi e=>by omega);obtain⟨hok,hlen⟩:=DY NK.out (s:=(pc,halt,m)) nV.out k;have hsucc:=LD c k (pc,halt,m);obtain⟨r,hr⟩:∃r,r=jU c k (pc,halt,m):=⟨_,rfl⟩;rw [<-hr]at hA hM hok hlen hsucc;have HRR:=J hr;clear hr;obtain⟨pc',oo,m'⟩:=r;simp only at hA hM hok hlen hsucc;have HLEN:=J hlen;have afZ:=J hok;have agc:=J hsucc;clear hok hlen hsucc
  by_cases hgo:k<most/\oo=0
  ·obtain⟨hlt,rfl⟩:=hgo
   obtain⟨_,_,p0,p1,_,_⟩:=jk afZ.out.right
   have hpre:eG wr w.heap.size w.heap.size g n kc q A b off cn c pc' m':=
    ⟨HN.out.trans HLEN.out.symm,h1,h2,afZ.out.vQ,nQ.out.ext yr,hA,hM,hQ4.kept hK4 aj,HA.out,λh0=>(HR.out h0).ext yr,wo.out,lF,p0,p1,Gq⟩
   have akl:=J hpre;clear hpre;have hcA:=bC hA;have jd:(k:Int)<min (most:Int) 1048576:=by omega
   go_wp2_with fail;refine(YB wr w.heap.size w.heap.size g n kc q A b off cn cap c pc' m' akl.out).mono ?_;rintro e w5 ⟨rfl,aev⟩;have e1:lV c pc' m'=jU c (k+1) (pc,halt,m):=by rw [agc.out];simp
   rw [e1]at aev;have HST:=J aev;clear aev e1;go_wp2_with fail;go_roundw
   case rel=>exact⟨k+1,by go_num,hlt,HST.out.st,HST.out.mem,hK4.trans HST.out.kept⟩
   case measure=>simp only [intOf];omega
  ·have hfin:jU c most (pc,halt,m)=(pc',oo,m'):=by
    rcases Nat.lt_or_ge k most with hlt|hge
    ·rw [show most=k+(most - k)by omega,gF,<-HRR.out,uq]
     exact λz=>hgo ⟨hlt,z⟩
    ·rw [show most=k by omega,HRR.out]
   have ajV:=J hfin
   have hstop:(k:Int)<min (most:Int) 1048576->(oo==0)=false:=λhq=>by
    have:¬oo=0:=λz=>hgo ⟨by omega,z⟩
    simpa using this
   clear hfin hgo;have hcA:=bC hA;have lA:=hA.lt;have lR:=hRr.lt;have hhR:=bH hRr;have hmR:=aH.bF hRr
   have fin:∀wz:World,aH wz (w.heap.size+1) 49 (aN pc' (some ⟨g,0,none⟩) n kc oo)->eB wz w.heap.size g n kc m'->Ext w wz->∃(v:Value) (k':Nat),Ending.returned (.tuple #[.agg (aN pc' (some ⟨g,0,none⟩) n kc oo),.int .i64 k,.bool (!(oo==0))])=.returned (.tuple #[v,.int .i64 k',.bool (!((jU c most (pc,halt,m)).2.1==0))])/\k'<=most/\WG w wz v n (jU c most (pc,halt,m)).1 (jU c most (pc,halt,m)).2.1 (jU c most (pc,halt,m)).2.2:=λwz _ hMz yz=>by
    rw [ajV.out];exact⟨_,k,rfl,hk,g,kc,rfl,hMz,yz⟩
   have FIN:=J fin;clear fin
   by_cases hlt:(k:Int)<min (most:Int) 1048576
   ·have hs0:=hstop hlt
    clear hstop;exact aiR
   ·clear hstop
    exact aiR
end Go.Proofs.YtbfbabbcdochjaaGreatDoor.Mc
namespace Go.Proofs.YtbfbabbcdochjaaGreatDoor.So
open Go.RowKit Mc
abbrev w32 (x:Int):Int:=IntKind.i32.wrap x
theorem nO (x:Int):w32 x=(x+2147483648)%4294967296 - 2147483648:=by
 unfold w32;simp only [IntKind.wrap,IntKind.signed,IntKind.bits];simp
 omega
structure Mk where (V:List Vr) (seats:Int) (b:Int)
def fr (b:Int) (i:Int):Int:=b+33+i
def lW (op:Int):Int:=if op=5∨op=6∨op=7 then op else if op=8 then 3 else if op=9 then 4 else if op=10 then 8 else if op=11 then 9 else if op=12∨op=14 then 10 else if op=13∨op=15 then 11 else if op=16 then 12 else if op=17 then 13 else 0
abbrev Wd:=Str->Int
def cE (k:Mk) (W:Wd):EF->Nat->Int->List Ins
 | .nil,_,_=>[]
 | .cons _ _ _ _ r,j+1,tw=>cE k W r j tw
 | .cons op n name kids _,0,tw=>
  if op=0 then [⟨1,fr k.b tw,n,0⟩]
  else if op=1 then [⟨2,fr k.b tw,W name,0⟩]
  else if op=2 then cE k W kids 0 tw++[⟨18,fr k.b (tw+1),fr k.b tw,(aD k.V name).size⟩,⟨5,fr k.b tw,fr k.b tw,fr k.b (tw+1)⟩,⟨15,fr k.b tw,W name,fr k.b tw⟩,⟨5,fr k.b tw,fr k.b tw,fr k.b (tw+1)⟩]
  else if op=3 then cE k W kids 0 tw++[⟨1,fr k.b (tw+1),0,0⟩,⟨4,fr k.b tw,fr k.b (tw+1),fr k.b tw⟩]
  else if op=4 then cE k W kids 0 tw++[⟨14,fr k.b tw,fr k.b tw,0⟩]
  else if op=14∨op=15 then cE k W kids 1 tw++cE k W kids 0 (tw+1)++[⟨lW op,fr k.b tw,fr k.b tw,fr k.b (tw+1)⟩]
  else cE k W kids 0 tw++cE k W kids 1 (tw+1)++[⟨lW op,fr k.b tw,fr k.b tw,fr k.b (tw+1)⟩]
def gG (W:Wd) (s:Str) (v:Int):Wd:=λt=>if t=s then v else W t
def gT (k:Mk) (i:Int):List Ins:=[⟨18,fr k.b (i+1),fr k.b i,k.seats⟩,⟨5,fr k.b i,fr k.b i,fr k.b (i+1)⟩]
def pJ (k:Mk) (W:Wd) (at_:Int) (kind:Int) (name:Str) (e:EF) (low:Int):List Ins:=
 if kind=0 then cE k W e 0 0++[⟨17,fr k.b 0,(aD k.V name).low,(aD k.V name).high⟩,⟨2,W name,fr k.b 0,0⟩]
 else if kind=1 then cE k W e 0 0++cE k W e 1 1++[⟨18,fr k.b 2,fr k.b 0,(aD k.V name).size⟩,⟨20,at_+(cE k W e 0 0).length+(cE k W e 1 1).length+4,fr k.b 2,0⟩,⟨17,fr k.b 1,(aD k.V name).low,(aD k.V name).high⟩,⟨16,W name,fr k.b 0,fr k.b 1⟩]
 else if kind=4 then [⟨0,1,0,0⟩]
 else if kind=5 then [⟨1,k.b+5,W name,0⟩,⟨1,k.b+6,low,0⟩]
 else if kind=6 then cE k W e 0 0++[⟨2,k.b+4,fr k.b 0,0⟩,⟨0,0,0,0⟩]
 else if kind=7 then [⟨1,k.b+4,-1,0⟩,⟨0,0,0,0⟩]
 else if kind=8 then cE k W e 1 0++cE k W e 0 1++gT k 1++[⟨17,fr k.b 0,0,1073741823⟩,⟨15,fr k.b 2,k.b+8,fr k.b 1⟩,⟨3,fr k.b 0,fr k.b 0,fr k.b 2⟩,⟨17,fr k.b 0,0,1073741823⟩,⟨16,k.b+8,fr k.b 1,fr k.b 0⟩]
 else cE k W e 0 0++gT k 0++[⟨2,k.b+7,fr k.b 0,0⟩]
def VT (k:Mk) (at_:Int) (E L X:List Ins):List Ins:=
 E++[⟨20,at_+E.length+1+L.length+1,fr k.b 0,0⟩]++L++[⟨19,at_+E.length+1+L.length+1+X.length,0,0⟩]++X
def FJ (k:Mk) (at_:Int) (E L:List Ins):List Ins:=E++[⟨20,at_+E.length+1+L.length,fr k.b 0,0⟩]++L
def oV (k:Mk) (f:Nat):Int:=k.b+17+2*f
def BI (k:Mk) (f:Nat) (at_ low high:Int) (B:List Ins):List Ins:=
 [⟨1,k.b+16,1,0⟩,⟨1,oV k f,low,0⟩,⟨1,oV k f+1,high - low+1,0⟩]++B++[⟨3,oV k f,oV k f,k.b+16⟩,⟨4,oV k f+1,oV k f+1,k.b+16⟩,⟨21,at_+3,oV k f+1,0⟩]
def cB (k:Mk):SF->Wd->Nat->Int->List Ins
 | .nil,_,_,_=>[]
 | .cons kind name e low high l els r,W,f,at_=>
  (if kind=2 then(if els.isNil then FJ k at_ (cE k W e 0 0) (cB k l W f (at_+(cE k W e 0 0).length+1))
   else VT k at_ (cE k W e 0 0) (cB k l W f (at_+(cE k W e 0 0).length+1)) (cB k els W f (at_+(cE k W e 0 0).length+1+(cB k l W f (at_+(cE k W e 0 0).length+1)).length+1)))
   else if kind=3 then(if high<low then []else BI k f at_ low high (cB k l (gG W name (oV k f)) (f+1) (at_+3)))
   else pJ k W at_ kind name e low)++
  cB k r W f (at_+(if kind=2 then(if els.isNil then FJ k at_ (cE k W e 0 0) (cB k l W f (at_+(cE k W e 0 0).length+1))
   else VT k at_ (cE k W e 0 0) (cB k l W f (at_+(cE k W e 0 0).length+1)) (cB k els W f (at_+(cE k W e 0 0).length+1+(cB k l W f (at_+(cE k W e 0 0).length+1)).length+1)))
   else if kind=3 then(if high<low then []else BI k f at_ low high (cB k l (gG W name (oV k f)) (f+1) (at_+3)))
   else pJ k W at_ kind name e low).length)
def cS (k:Mk) (W:Wd) (f:Nat) (at_:Int) (kind:Int) (name:Str) (e:EF) (low high:Int) (l els:SF):List Ins:=
 if kind=2 then(if els.isNil then FJ k at_ (cE k W e 0 0) (cB k l W f (at_+(cE k W e 0 0).length+1))
  else VT k at_ (cE k W e 0 0) (cB k l W f (at_+(cE k W e 0 0).length+1)) (cB k els W f (at_+(cE k W e 0 0).length+1+(cB k l W f (at_+(cE k W e 0 0).length+1)).length+1)))
  else if kind=3 then(if high<low then []else BI k f at_ low high (cB k l (gG W name (oV k f)) (f+1) (at_+3)))
  else pJ k W at_ kind name e low
theorem Cm (k:Mk) (W:Wd) (f:Nat) (at_:Int) (kind:Int) (name:Str) (e:EF) (low high:Int) (l els r:SF):
 cB k (.cons kind name e low high l els r) W f at_=cS k W f at_ kind name e low high l els++cB k r W f (at_+(cS k W f at_ kind name e low high l els).length):=by
 rw [cB];rfl
/-! ### what rules mean -/
structure RS where (vars:List Int) (binds:List (Str×Int)) (over refused:Bool) (seat cell sides:Int) (asks:List Int) (rest:Int)
def iq (l:List (Str×Int)) (s:Str):Option Int:=(l.find? (λx=>decide (x.1=s))).map (·.2)
def yF (V:List Vr) (R:RS) (s:Str):Int:=match iq R.binds s with|some v=>v|none=>R.vars.getD (aS V s).toNat 0
def mh (n lo hi:Int):Int:=w32 (max lo (min n hi))
def KO (a b:Int):Int:=if b=0 then 0 else w32 (a.tdiv b)
def join (op a b:Int):Int:=
 if op=5 then w32 (a*b)else if op=6 then KO a b else if op=7 then(if b=0 then 0 else w32 (a - KO a b*b))
 else if op=8 then w32 (a+b)else if op=9 then w32 (a - b)else if op=10 then bR (a==b)else if op=11 then bR (a !=b)
 else if op=12 then bR (decide (a<b))else if op=13 then bR (decide (a<=b))else if op=14 then bR (decide (a>b))else if op=15 then bR (decide (a≥b))
 else if op=16 then bR (a !=0&&b !=0)else bR (a !=0||b !=0)
def ev (V:List Vr) (R:RS):EF->Nat->Int
 | .nil,_=>0
 | .cons _ _ _ _ r,j+1=>ev V R r j
 | .cons op n name kids _,0=>
  if op=0 then w32 n
  else if op=1 then yF V R name
  else if op=2 then(if ev V R kids 0<0∨(aD V name).size<=ev V R kids 0 then 0 else R.vars.getD (aS V name+ev V R kids 0).toNat 0)
  else if op=3 then join 9 0 (ev V R kids 0)
  else if op=4 then bR (ev V R kids 0==0)
  else join op (ev V R kids 0) (ev V R kids 1)
def iX (seats n:Int):Int:=if n<0∨seats<=n then 0 else n
def f_ (g:Int->RS->RS):Nat->Int->RS->RS
 |0,_,R=>R
 |n+1,i,R=>if R.over then R else f_ g n (i+1) (g i R)
def Al (V:List Vr) (seats:Int) (kind:Int) (name:Str) (e:EF) (low:Int) (R:RS):RS:=
 if kind=0 then{R with vars:=R.vars.set (aS V name).toNat (mh (ev V R e 0) (aD V name).low (aD V name).high)}
 else if kind=1 then(if 0<=ev V R e 0/\ev V R e 0<(aD V name).size then{R with vars:=R.vars.set (aS V name+ev V R e 0).toNat (mh (ev V R e 1) (aD V name).low (aD V name).high)}else R)
 else if kind=4 then{R with over:=true,refused:=true}
 else if kind=5 then{R with cell:=aS V name,sides:=low}
 else if kind=6 then{R with seat:=ev V R e 0,over:=true}
 else if kind=7 then{R with seat:=-1,over:=true}
 else if kind=8 then{R with asks:=R.asks.set (iX seats (ev V R e 0)).toNat (mh (R.asks.getD (iX seats (ev V R e 0)).toNat 0+mh (ev V R e 1) 0 1073741823) 0 1073741823)}
 else if kind=9 then{R with rest:=iX seats (ev V R e 0)}
 else R
def oL (V:List Vr) (seats:Int):SF->RS->RS
 | .nil,R=>R
 | .cons kind name e low high l els r,R=>
  if R.over then R else oL V seats r
   (if kind=2 then(if ev V R e 0≠0 then oL V seats l R else oL V seats els R)
   else if kind=3 then{f_ (λi R'=>oL V seats l {R' with binds:=R.binds++[(name,w32 i)]}) (high - low+1).toNat low R with binds:=R.binds}
   else Al V seats kind name e low R)
def doS (V:List Vr) (seats:Int) (kind:Int) (name:Str) (e:EF) (low high:Int) (l els:SF) (R:RS):RS:=
 if kind=2 then(if ev V R e 0≠0 then oL V seats l R else oL V seats els R)
  else if kind=3 then{f_ (λi R'=>oL V seats l {R' with binds:=R.binds++[(name,w32 i)]}) (high - low+1).toNat low R with binds:=R.binds}
  else Al V seats kind name e low R
theorem ko (V:List Vr) (seats:Int) (kind:Int) (name:Str) (e:EF) (low high:Int) (l els r:SF) (R:RS):
 oL V seats (.cons kind name e low high l els r) R=if R.over then R else oL V seats r (doS V seats kind name e low high l els R):=by
 rw [oL];rfl
/-! ### how many steps -/
def FP (op:Int):Nat:=if op=0∨op=1 then 1 else if op=2 then 6 else 2
def iA:EF->Nat
 | .nil=>0
 | .cons op _ _ kids r=>(FP op+if op=0∨op=1 then 0 else iA kids)+iA r
def uD (kind:Int):Nat:=if kind=1 then 6 else if kind=4∨kind=7 then 2 else if kind=5 then 4 else if kind=8 then 8 else if 0<=kind/\kind<=9 then 3 else 1
def yC (kind:Int):Bool:=decide (kind=0∨kind=1∨kind=2∨kind=6∨kind=8∨kind=9)
def dG:SF->Nat
 | .nil=>0
 | .cons kind _ e low high l els r=>
  (uD kind+(if yC kind then iA e else 0)+if kind=2 then max (dG l) (dG els)else if kind=3/\low<=high then((min (high - low) 65536).toNat+1)*(4+dG l)else 0)+dG r
end Go.Proofs.YtbfbabbcdochjaaGreatDoor.So
