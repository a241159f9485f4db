import Derived.Test.YtnhelcmddjbafaaGreatDoorTpah
set_option maxHeartbeats 4000000
set_option maxRecDepth 100000
open Go.Proofs.Tryz
namespace Go.Proofs.YtnhelcmddjbafaaGreatDoor
open Go.RowKit
namespace Mc
theorem O6 {m:List Int} (h:∀z∈m,av z) (k:Nat):av (m.getD k 0):=by
 by_cases hk:k<m.length
 .simp [hk];exact h _ (ed hk)
 .simp [hk];unfold av;omega
theorem WK {i:Ins} (h:iu i.op=true):∃k:Nat,k<22/\i.op=k:=by
 simp [iu]at h;exact⟨i.op.toNat,by omega,by omega⟩
theorem aaI {m:List Int} {x v:Int} (hm:∀z∈m,av z) (hv:av v):∀z∈gV m x v,av z:=λz hz=>by
 rcases List.mem_or_eq_of_mem_set hz with h|h
 .exact hm z h
 .rw [h];exact hv
theorem si {m:List Int} {x:Int} (hm:∀z∈m,av z):av (eP m x):=O6 hm _
theorem vU (b:Bool):av (cN b):=by cases b<;>simp [cN,av]
theorem sX (x:Int):av (IntKind.i32.wrap x):=by
 unfold av;simp only [IntKind.wrap,IntKind.signed,IntKind.bits];simp
 omega
theorem afh (k:Nat) {b c:Int} (hb:av b) (_Dj:av c):av (gI k b c):=by
 have h0:av 0:=by unfold av;omega
 unfold gI
 split
 .exact sX _
 .exact sX _
 .exact sX _
 .split
  .exact h0
  .exact sX _
 .split
  .exact h0
  .unfold av at hb⊢
   rename_i hc0;have h2:(b.tmod c).natAbs<=b.natAbs:=by rw [Int.natAbs_tmod];exact Nat.mod_le _ _
   rcases Int.lt_or_le b 0 with hn|hn
   .have:=Int.tmod_nonneg (a:=-b) c ad;rw [Int.neg_tmod]at this;omega
   .have:=Int.tmod_nonneg c hn;omega
 all_goals exact vU _
structure jX (pc halt:Int) (m:List Int):Prop where
 right:cQ pc halt m.length=true
 B_:∀z∈m,av z
theorem jX.mk' {pc halt:Int} {m:List Int} (k:Nat) (hk:k=m.length) (h1:1<=k) (h2:k<=256) (p0:0<=pc) (p1:pc<=2048) (a0:0<=halt) (a1:halt<=2) (hm:∀z∈m,av z):jX pc halt m:=
 ⟨by subst hk;simp [cQ];omega,hm⟩
theorem GX (m:List Int) (x v:Int):(gV m x v).length=m.length:=by simp [gV]
theorem QV {i:Ins} {pc:Int} {n:Nat} {m:List Int} (hr:aQ i n m.length=true) (hn:n<=2048) (h:jX pc 0 m) (hp:pc<n):jX (aX i pc m).1 (aX i pc m).2.1 (aX i pc m).2.2/\(aX i pc m).2.2.length=m.length:=by
 obtain⟨h1,h2,h3,h4,_,_⟩:=cG h.right;obtain⟨o0,o1,ha,hb,hc,he⟩:=gy hr;obtain⟨k,hk,oM⟩:=WK (i:=i) (by simp [iu];omega);have hnn:i.op.toNat=k:=by omega
 rw [hnn]at ha hb hc
 have put:∀(x v:Int),av v->jX (pc+1) 0 (gV m x v)/\(gV m x v).length=m.length:=λx v hv=>
  ⟨jX.mk' m.length (GX m x v).symm h1 h2 ad ad ad ad (aaI h.B_ hv),GX m x v⟩
 have go:∀q:Int,0<=q->q<=2048->jX q 0 m/\m.length=m.length:=λq q0 q1=>⟨jX.mk' m.length rfl h1 h2 q0 q1 ad ad h.B_,rfl⟩;obtain⟨r,hx⟩:∃r,aX i pc m=r:=⟨_,rfl⟩;rw [hx]
 delta aX at hx
 by_cases e0:i.op=0
 .rw [ak e0]at hx
  subst hx;simp [ig,e0]at he;exact⟨jX.mk' m.length rfl h1 h2 h3 h4 (by simp only;omega) (by simp only;omega) h.B_,rfl⟩
 rw [af e0]at hx
 by_cases e1:i.op=1
 .rw [ak e1]at hx
  subst hx;have ek:k=1:=by omega
  subst ek;exact put _ _ (yH (k:=1) rfl hb)
 rw [af e1]at hx
 by_cases e2:i.op=2
 .rw [ak e2]at hx
  subst hx;exact put _ _ (si h.B_)
 rw [af e2]at hx
 by_cases e14:i.op=14
 .rw [ak e14]at hx
  subst hx;exact put _ _ (vU _)
 rw [af e14]at hx
 by_cases e15:i.op=15
 .rw [ak e15]at hx
  subst hx;exact put _ _ (si h.B_)
 rw [af e15]at hx
 by_cases e16:i.op=16
 .rw [ak e16]at hx
  subst hx;exact put _ _ (si h.B_)
 rw [af e16]at hx
 by_cases TJ:i.op=17
 .rw [ak TJ]at hx
  subst hx;have ek:k=17:=by omega
  subst ek;have q0:=yH (k:=1) rfl hb;have q1:=yH (k:=2) rfl hc;have q2:=si (x:=i.a) h.B_;refine put _ _ ?_;unfold av at q2⊢
  omega
 rw [af TJ]at hx
 by_cases UW:i.op=18
 .rw [ak UW]at hx
  subst hx;exact put _ _ (vU _)
 rw [af UW]at hx
 by_cases e19:i.op=19
 .rw [ak e19]at hx
  subst hx;have ek:k=19:=by omega
  subst ek;have q0:=E9 (k:=0) rfl ha;exact go _ ad ad
 rw [af e19]at hx
 by_cases e20:i.op=20
 .rw [ak e20]at hx
  subst hx;have ek:k=20:=by omega
  subst ek;have q0:=E9 (k:=0) rfl ha
  by_cases ez:eP m i.b=0
  .rw [ak ez];exact go _ ad ad
  .rw [af ez];exact go _ ad ad
 rw [af e20]at hx
 by_cases e21:i.op=21
 .rw [ak e21]at hx
  subst hx;have ek:k=21:=by omega
  subst ek;have q0:=E9 (k:=0) rfl ha
  by_cases ez:eP m i.b=0
  .rw [ak ez];exact go _ ad ad
  .rw [af ez];exact go _ ad ad
 rw [af e21]at hx;subst hx;exact put _ _ (afh _ (si h.B_) (si h.B_))
theorem Fs {c:List Ins} {pc:Int} {m:List Int} (hc:c.length<=2048) (h:jX pc 0 m):jX (gO c pc m).1 (gO c pc m).2.1 (gO c pc m).2.2/\(gO c pc m).2.2.length=m.length:=by
 obtain⟨h1,h2,h3,h4,_,_⟩:=cG h.right;have no:jX pc 2 m/\m.length=m.length:=⟨jX.mk' m.length rfl h1 h2 h3 h4 ad ad h.B_,rfl⟩;unfold gO
 cases hn:cW c pc m.length with
 |none=>exact no
 |some i=>
  simp only
  split
  .exact no
  .refine QV (ou hn) hc h ?_
   unfold cW at hn
   split at hn
   .rename_i hg
    have:=(List.getElem?_eq_some_iff.1 hg).1
    omega
   .cases hn
theorem Cu {c:List Ins} {pc halt:Int} {m:List Int} (hc:c.length<=2048) (h:jX pc halt m):jX (jB c pc halt m).1 (jB c pc halt m).2.1 (jB c pc halt m).2.2/\(jB c pc halt m).2.2.length=m.length:=by
 unfold jB
 by_cases h0:halt=0
 .rw [ak h0];subst h0;exact Fs hc h
 .rw [af h0];exact⟨h,rfl⟩
def kM (c:List Ins):Nat->Int×Int×List Int->Int×Int×List Int
 |0,s=>s
 |n+1,s=>kM c n (if s.2.1=0 then gO c s.1 s.2.2 else s)
theorem Gr (c:List Ins):∀(a b:Nat) (s:Int×Int×List Int),kM c (a+b) s=kM c b (kM c a s)
 |0,b,s=>by rw [dT];rfl
 |a+1,b,s=>by rw [show a+1+b=(a+b)+1 by omega];exact Gr c a b _
theorem JN (c:List Ins) (s:Int×Int×List Int) (h:¬s.2.1=0):∀n,kM c n s=s
 |0=>rfl
 |n+1=>by rw [kM,af h];exact JN c s h n
theorem BR (c:List Ins) (n:Nat) (s:Int×Int×List Int):kM c (n+1) s=if (kM c n s).2.1=0 then gO c (kM c n s).1 (kM c n s).2.2 else kM c n s:=by
 rw [Gr];rfl
theorem BQ {c:List Ins} (hc:c.length<=2048) {s:Int×Int×List Int} (h:jX s.1 s.2.1 s.2.2):∀n,jX (kM c n s).1 (kM c n s).2.1 (kM c n s).2.2/\(kM c n s).2.2.length=s.2.2.length
 |0=>⟨h,rfl⟩
 |n+1=>by
  obtain⟨h1,h2⟩:=BQ hc h n;obtain⟨h3,h4⟩:=Cu hc h1;rw [BR];unfold jB at h3 h4
  split at h3
  .rename_i q
   rw [ak q]at h4⊢;exact⟨h3,h4.trans h2⟩
  .rename_i q
   rw [af q];exact⟨h1,h2⟩
theorem Hr (A:Option Addr) (b off cn cap:Nat) (c:List Ins) (pc halt:Int) (b' bL n eF:Nat) (m:List Int) (most:Nat) (ahQ:most<=1048576) (w:World) (h:kO w A b off cn c b' bL n pc halt m):
 Calls prog 50 #[.slice A cn cap,.agg (ae pc (some ⟨b',bL,none⟩) n eF halt),.int .i64 most] w λe w'=>∃(v:Value) (k:Nat),e=.returned (.tuple #[v,.int .i64 k,.bool (!((kM c most (pc,halt,m)).2.1==0))])/\k<=most/\IP w w' v n (kM c most (pc,halt,m)).1 (kM c most (pc,halt,m)).2.1 (kM c most (pc,halt,m)).2.2:=by
 obtain⟨eH,sl,aE,sq,jj,hn,hg,ie,BG⟩:=h;obtain⟨h1,h2,h3,h4,h5,h6⟩:=cG hg;have⟨lm,IC,mD,HA,HR,qQ,HN,HG,HO⟩:=J9' (show jX (pc,halt,m).1 (pc,halt,m).2.1 (pc,halt,m).2.2 from⟨by rw [<-hn];exact hg,ie⟩) (show c.length<=2048 by omega) eH sl aE sq hn hg ie;clear eH sl aE sq hn hg ie;refine ajP ?_;clear BG;intro aF hA0 fz tE;go_wp21;refine(qg pc halt b' bL eF m n HN.o h1 ad _ tE).mono ?_;rintro e w1 ⟨v1,rfl,g,kc,rfl,eR,aw⟩;have oS:=bX hA0 aw;have g_:=bX fz aw;have lA:=hA0.lt;have lR:=fz.lt;have hgb:=eR.ge;have Jw:=bH oS;have EP:=ai.aC oS;have uC:ai (putAt w1 w.heap.size 0 (ae pc (some ⟨g,0,none⟩) n kc halt)) w.heap.size 47 (ae pc (some ⟨g,0,none⟩) n kc halt):=ai.cw oS _ _;have oK:=ai.Co g_ (show w.heap.size+1≠w.heap.size by omega) 0 (ae pc (some ⟨g,0,none⟩) n kc halt);refine ajW ?_;intro eN;have y2:al w (putAt w1 w.heap.size 0 (ae pc (some ⟨g,0,none⟩) n kc halt)):=Kept.putAt (aF.trans aw) _ _ _ (λh=>by omega);go_upto_region 2 with(fail);clear hA0 fz oS g_ eR Jw EP aF tE;generalize (putAt w1 w.heap.size 0 (ae pc (some ⟨g,0,none⟩) n kc halt))=W2 at uC oK eN y2⊢;have i1:=bH uC;have i2:=bG uC;go_wp21;refine aoS (fT pc halt (some ⟨g,0,none⟩) n kc _) λw3 dv=>?_;rw [HG.o];have LA:=bX uC dv;have o4:=bX oK dv;have xf:=eN.ext dv;have y3:=y2.trans dv;clear uC oK eN y2 dv i1 i2;go_wp21;refine(KW _).mono ?_;rintro e w4 ⟨rfl,hQ4,eS⟩;have hA4:=bX LA eS;have Jp:=bX o4 eS;have hM4:=xf.ext eS;have y4:=y3.trans eS;have lg:=xf.lt;clear LA o4 xf y3 eS;generalize w3.heap.size=q at hQ4 lg⊢;have Dk:¬w.heap.size=g:=by omega
 go_wp21
 go_loopw [10] (λt10 wr=>∃(k:Nat),t10=.int .i64 k/\k<=most/\oF wr w.heap.size 47 (kM c k (pc,halt,m)).1 (some ⟨g,0,none⟩) n kc (kM c k (pc,halt,m)).2.1/\eg wr w.heap.size g n kc (kM c k (pc,halt,m)).2.2/\Kept (λi=>i=w.heap.size∨i=g) w4 wr) (λt10 _=>most - (intOf t10).toNat)
 case atStart=>exact⟨0,rfl,cI _,hA4,hM4,kR _ _⟩
 case round=>
  obtain⟨k,rfl,hk,hA,hM,Z8⟩:=hrel;have O9:=bK Jp Z8 ad;have yr:al w wr:=y4.trans' Z8 (λi hi e=>by omega);obtain⟨hok,hlen⟩:=BQ IC.o (s:=(pc,halt,m)) lm.o k;have Py:=BR c k (pc,halt,m);obtain⟨r,hr⟩:=nm' (kM c k (pc,halt,m));rw [<-hr]at hA hM hok hlen Py;have mv:=J hr;clear hr;obtain⟨jk,bU,m'⟩:=r;simp only at hA hM hok hlen Py;have⟨wT,agn,agz⟩:=J3' hlen hok Py;clear hok hlen Py
  by_cases TS:k<most/\bU=0
  .obtain⟨aP,rfl⟩:=TS
   obtain⟨_,_,p0,p1,_,_⟩:=cG agn.o.right
   have xo:dD wr w.heap.size w.heap.size g n kc q A b off cn c jk m':=
    ⟨HN.o.trans wT.o.symm,h1,h2,agn.o.B_,mD.o.ext yr,hA,hM,hQ4.kept Z8 ad,HA.o,λh0=>(HR.o h0).ext yr,qQ.o,jj,p0,p1,Dk⟩
   have FO:=J xo;clear xo;have sl:=bC hA;have gD:(k:Int)<min (most:Int) 1048576:=by omega
   go_wp21;refine aoS (KD wr w.heap.size w.heap.size g n kc q A b off cn cap c jk m' FO.o) λw5 Rw=>?_;have e1:gO c jk m'=kM c (k+1) (pc,halt,m):=by rw [agz.o];simp
   rw [e1]at Rw;have qT:=J Rw;clear Rw e1;go_wp21;go_roundw
   case rel=>exact⟨k+1,by go_num,aP,qT.o.st,qT.o.mem,Z8.trans qT.o.kept⟩
   case measure=>simp only [intOf];omega
  .have ahA:kM c most (pc,halt,m)=(jk,bU,m'):=by
    rcases Nat.lt_or_ge k most with aP|lE
    .rw [show most=k+(most - k)by omega,Gr,<-mv.o,JN]
     exact λz=>TS ⟨aP,z⟩
    .rw [show most=k by omega,mv.o]
   have als:=J ahA
   have yw:(k:Int)<min (most:Int) 1048576->(bU==0)=false:=λhq=>by
    have:¬bU=0:=λz=>TS ⟨by omega,z⟩
    simpa using this
   clear ahA TS;have sl:=bC hA;have lA:=hA.lt;have lR:=O9.lt;have hhR:=bH O9;have hmR:=ai.aC O9
   have fin:∀wz:World,ai wz (w.heap.size+1) 47 (ae jk (some ⟨g,0,none⟩) n kc bU)->eg wz w.heap.size g n kc m'->al w wz->∃(v:Value) (k':Nat),Ending.returned (.tuple #[.agg (ae jk (some ⟨g,0,none⟩) n kc bU),.int .i64 k,.bool (!(bU==0))])=.returned (.tuple #[v,.int .i64 k',.bool (!((kM c most (pc,halt,m)).2.1==0))])/\k'<=most/\IP w wz v n (kM c most (pc,halt,m)).1 (kM c most (pc,halt,m)).2.1 (kM c most (pc,halt,m)).2.2:=λwz _ hMz yz=>by
    rw [als.o];exact⟨_,k,rfl,hk,g,kc,rfl,hMz,yz⟩
   have FIN:=J fin;clear fin
   by_cases aP:(k:Int)<min (most:Int) 1048576
   .have hs0:=yw aP
    clear yw;exact aki
   .clear yw
    exact aki
end Mc
namespace Sq
open Mc
abbrev w32 (x:Int):Int:=IntKind.i32.wrap x
structure Mk where (V:List Vr) (aL:Int) (b:Int)
def fr (b:Int) (i:Int):Int:=b+33+i
def P4 (op:Int):Int:=if op=5∨op=6∨op=7 then op else if op=8 then 3 else if op=9 then 4 else if op=10 then 8 else if op=11 then 9 else if op=12∨op=14 then 10 else if op=13∨op=15 then 11 else if op=16 then 12 else if op=17 then 13 else 0
abbrev Wd:=Str->Int
def cE (k:Mk) (W:Wd):EF->Nat->Int->List Ins
 | .nil,_,_=>[]
 | .cons _ _ _ _ r,j+1,tw=>cE k W r j tw
 | .cons op n name kids _,0,tw=>
  if op=0 then [⟨1,fr k.b tw,n,0⟩]
  else if op=1 then [⟨2,fr k.b tw,W name,0⟩]
  else if op=2 then cE k W kids 0 tw++[⟨18,fr k.b (tw+1),fr k.b tw,(iS k.V name).size⟩,⟨5,fr k.b tw,fr k.b tw,fr k.b (tw+1)⟩,⟨15,fr k.b tw,W name,fr k.b tw⟩,⟨5,fr k.b tw,fr k.b tw,fr k.b (tw+1)⟩]
  else if op=3 then cE k W kids 0 tw++[⟨1,fr k.b (tw+1),0,0⟩,⟨4,fr k.b tw,fr k.b (tw+1),fr k.b tw⟩]
  else if op=4 then cE k W kids 0 tw++[⟨14,fr k.b tw,fr k.b tw,0⟩]
  else if op=14∨op=15 then cE k W kids 1 tw++cE k W kids 0 (tw+1)++[⟨P4 op,fr k.b tw,fr k.b tw,fr k.b (tw+1)⟩]
  else cE k W kids 0 tw++cE k W kids 1 (tw+1)++[⟨P4 op,fr k.b tw,fr k.b tw,fr k.b (tw+1)⟩]
def lX (W:Wd) (s:Str) (v:Int):Wd:=λt=>if t=s then v else W t
def vP (k:Mk) (i:Int):List Ins:=[⟨18,fr k.b (i+1),fr k.b i,k.aL⟩,⟨5,fr k.b i,fr k.b i,fr k.b (i+1)⟩]
def QB (k:Mk) (W:Wd) (at_:Int) (kind:Int) (name:Str) (e:EF) (low:Int):List Ins:=
 if kind=0 then cE k W e 0 0++[⟨17,fr k.b 0,(iS k.V name).low,(iS k.V name).high⟩,⟨2,W name,fr k.b 0,0⟩]
 else if kind=1 then cE k W e 0 0++cE k W e 1 1++[⟨18,fr k.b 2,fr k.b 0,(iS k.V name).size⟩,⟨20,at_+(cE k W e 0 0).length+(cE k W e 1 1).length+4,fr k.b 2,0⟩,⟨17,fr k.b 1,(iS k.V name).low,(iS k.V name).high⟩,⟨16,W name,fr k.b 0,fr k.b 1⟩]
 else if kind=4 then [⟨0,1,0,0⟩]
 else if kind=5 then [⟨1,k.b+5,W name,0⟩,⟨1,k.b+6,low,0⟩]
 else if kind=6 then cE k W e 0 0++[⟨2,k.b+4,fr k.b 0,0⟩,⟨0,0,0,0⟩]
 else if kind=7 then [⟨1,k.b+4,-1,0⟩,⟨0,0,0,0⟩]
 else if kind=8 then cE k W e 1 0++cE k W e 0 1++vP k 1++[⟨17,fr k.b 0,0,1073741823⟩,⟨15,fr k.b 2,k.b+8,fr k.b 1⟩,⟨3,fr k.b 0,fr k.b 0,fr k.b 2⟩,⟨17,fr k.b 0,0,1073741823⟩,⟨16,k.b+8,fr k.b 1,fr k.b 0⟩]
 else cE k W e 0 0++vP k 0++[⟨2,k.b+7,fr k.b 0,0⟩]
def cIf (k:Mk) (at_:Int) (E L X:List Ins):List Ins:=
 E++[⟨20,at_+E.length+1+L.length+1,fr k.b 0,0⟩]++L++[⟨19,at_+E.length+1+L.length+1+X.length,0,0⟩]++X
def UJ (k:Mk) (at_:Int) (E L:List Ins):List Ins:=E++[⟨20,at_+E.length+1+L.length,fr k.b 0,0⟩]++L
def P8 (k:Mk) (f:Nat):Int:=k.b+17+2*f
def UI (k:Mk) (f:Nat) (at_ low high:Int) (B:List Ins):List Ins:=
 [⟨1,k.b+16,1,0⟩,⟨1,P8 k f,low,0⟩,⟨1,P8 k f+1,high - low+1,0⟩]++B++[⟨3,P8 k f,P8 k f,k.b+16⟩,⟨4,P8 k f+1,P8 k f+1,k.b+16⟩,⟨21,at_+3,P8 k f+1,0⟩]
def cB (k:Mk):SF->Wd->Nat->Int->List Ins
 | .nil,_,_,_=>[]
 | .cons kind name e low high l fi r,W,f,at_=>
  (if kind=2 then(if fi.isNil then UJ k at_ (cE k W e 0 0) (cB k l W f (at_+(cE k W e 0 0).length+1))
   else cIf k at_ (cE k W e 0 0) (cB k l W f (at_+(cE k W e 0 0).length+1)) (cB k fi W f (at_+(cE k W e 0 0).length+1+(cB k l W f (at_+(cE k W e 0 0).length+1)).length+1)))
   else if kind=3 then(if high<low then []else UI k f at_ low high (cB k l (lX W name (P8 k f)) (f+1) (at_+3)))
   else QB k W at_ kind name e low)++
  cB k r W f (at_+(if kind=2 then(if fi.isNil then UJ k at_ (cE k W e 0 0) (cB k l W f (at_+(cE k W e 0 0).length+1))
   else cIf k at_ (cE k W e 0 0) (cB k l W f (at_+(cE k W e 0 0).length+1)) (cB k fi W f (at_+(cE k W e 0 0).length+1+(cB k l W f (at_+(cE k W e 0 0).length+1)).length+1)))
   else if kind=3 then(if high<low then []else UI k f at_ low high (cB k l (lX W name (P8 k f)) (f+1) (at_+3)))
   else QB k W at_ kind name e low).length)
def cS (k:Mk) (W:Wd) (f:Nat) (at_:Int) (kind:Int) (name:Str) (e:EF) (low high:Int) (l fi:SF):List Ins:=
 if kind=2 then(if fi.isNil then UJ k at_ (cE k W e 0 0) (cB k l W f (at_+(cE k W e 0 0).length+1))
  else cIf k at_ (cE k W e 0 0) (cB k l W f (at_+(cE k W e 0 0).length+1)) (cB k fi W f (at_+(cE k W e 0 0).length+1+(cB k l W f (at_+(cE k W e 0 0).length+1)).length+1)))
  else if kind=3 then(if high<low then []else UI k f at_ low high (cB k l (lX W name (P8 k f)) (f+1) (at_+3)))
  else QB k W at_ kind name e low
theorem FV (k:Mk) (W:Wd) (f:Nat) (at_:Int) (kind:Int) (name:Str) (e:EF) (low high:Int) (l fi r:SF):
 cB k (.cons kind name e low high l fi r) W f at_=cS k W f at_ kind name e low high l fi++cB k r W f (at_+(cS k W f at_ kind name e low high l fi).length):=by
 rw [cB];rfl
structure RS where (vars:List Int) (binds:List (Str×Int)) (over refused:Bool) (gd cell aoc:Int) (asks:List Int) (rest:Int)
def agI (l:List (Str×Int)) (s:Str):Option Int:=(l.find? (λx=>decide (x.1=s))).map (·.2)
def aiN (V:List Vr) (R:RS) (s:Str):Int:=match agI R.binds s with|some v=>v|none=>R.vars.getD (gT V s).toNat 0
def agQ (a b:Int):Int:=if b=0 then 0 else w32 (a.tdiv b)
def join (op a b:Int):Int:=
 if op=5 then w32 (a*b)else if op=6 then agQ a b else if op=7 then(if b=0 then 0 else w32 (a - agQ a b*b))
 else if op=8 then w32 (a+b)else if op=9 then w32 (a - b)else if op=10 then cN (a==b)else if op=11 then cN (a !=b)
 else if op=12 then cN (decide (a<b))else if op=13 then cN (decide (a<=b))else if op=14 then cN (decide (a>b))else if op=15 then cN (decide (a≥b))
 else if op=16 then cN (a !=0&&b !=0)else cN (a !=0||b !=0)
def ev (V:List Vr) (R:RS):EF->Nat->Int
 | .nil,_=>0
 | .cons _ _ _ _ r,j+1=>ev V R r j
 | .cons op n name kids _,0=>
  if op=0 then w32 n
  else if op=1 then aiN V R name
  else if op=2 then(if ev V R kids 0<0∨(iS V name).size<=ev V R kids 0 then 0 else R.vars.getD (gT V name+ev V R kids 0).toNat 0)
  else if op=3 then join 9 0 (ev V R kids 0)
  else if op=4 then cN (ev V R kids 0==0)
  else join op (ev V R kids 0) (ev V R kids 1)
def aeU (op:Int):Nat:=if op=0∨op=1 then 1 else if op=2 then 6 else 2
def jf:EF->Nat
 | .nil=>0
 | .cons op _ _ kids r=>(aeU op+if op=0∨op=1 then 0 else jf kids)+jf r
def R2 (kind:Int):Nat:=if kind=1 then 6 else if kind=4∨kind=7 then 2 else if kind=5 then 4 else if kind=8 then 8 else if 0<=kind/\kind<=9 then 3 else 1
def Rk (kind:Int):Bool:=decide (kind=0∨kind=1∨kind=2∨kind=6∨kind=8∨kind=9)
def dH:SF->Nat
 | .nil=>0
 | .cons kind _ e low high l fi r=>
  (R2 kind+(if Rk kind then jf e else 0)+if kind=2 then max (dH l) (dH fi)else if kind=3/\low<=high then((min (high - low) 65536).toNat+1)*(4+dH l)else 0)+dH r
def okC (c:List Ins) (k:Nat):Prop:=∀i∈c,aQ i c.length k=true
theorem PK {m:List Int} {i v:Int} (hm:∀x∈m,av x) (hv:av v):∀x∈gV m i v,av x:=λx hx=>by
 rcases List.mem_or_eq_of_mem_set hx with h|h
 .exact hm x h
 .rw [h];exact hv
theorem PJ {m:List Int} (hm:∀x∈m,av x) (i:Int):av (eP m i):=by
 unfold eP;rw [List.getD_eq_getElem?_getD]
 rcases Nat.lt_or_ge i.toNat m.length with h|h
 .rw [List.getElem?_eq_getElem h];exact hm _ (ed h)
 .rw [List.getElem?_eq_none h];unfold av;simp
theorem vU (b:Bool):av (cN b):=by unfold cN av;split<;>omega
def dp:EF->Nat| .nil=>0| .cons _ _ _ k r=>max (1+dp k) (dp r)
def YC:EF->Nat->Nat| .nil,_=>0| .cons _ _ _ _ r,j+1=>YC r j| .cons _ _ _ k _,0=>1+dp k
theorem Ms:∀(F:EF) (j:Nat),YC F j<=dp F
 | .nil,_=>cr _
 | .cons _ _ _ k r,j+1=>by have:=Ms r j;simp only [YC,dp];omega
 | .cons _ _ _ k r,0=>by simp only [YC,dp];omega
theorem O4:∀(F:EF) (j:Nat),j<F.len->1<=YC F j
 | .nil,_,h=>by simp [EF.len]at h
 | .cons _ _ _ k r,j+1,h=>O4 r j (by simpa [EF.len]using h)
 | .cons _ _ _ k r,0,_=>by simp only [YC];omega
theorem Xx {op:Int} (h:5<=op/\op<=17):3<=P4 op/\P4 op<=13:=by
 have h13:op=5∨op=6∨op=7∨op=8∨op=9∨op=10∨op=11∨op=12∨op=13∨op=14∨op=15∨op=16∨op=17:=by omega
 rcases h13 with rfl|rfl|rfl|rfl|rfl|rfl|rfl|rfl|rfl|rfl|rfl|rfl|rfl<;>decide
theorem F_:∀F:EF,F.size<=1099511627776->F.deep=dp F/\dp F<=F.size
 | .nil,_=>⟨rfl,cr _⟩
 | .cons _ _ _ k r,h=>by
  simp only [EF.size]at h;obtain⟨h1,h2⟩:=F_ k ad;obtain⟨h3,h4⟩:=F_ r ad;refine⟨?_,by simp only [dp,EF.size];omega⟩;rw [EF.deep,dp,h1,h3];have:jc (1+(dp k:Int))=1+dp k:=by simp only [eu];omega
  rw [this]
  omega
theorem Mh {κ:Kn}:∀{F:EF},ke κ F=none->F.size<=1099511627776->mh κ F=none/\dp F<=12
 | .nil,_,_=>⟨rfl,by simp [dp]⟩
 | .cons _ _ _ k r,h,hz=>by
  rw [ke,ay,ay,dt,jP]at h;simp only [EF.size]at hz;obtain⟨h1,h2⟩:=Mh h.2 ad;obtain⟨h3,h4⟩:=F_ k ad;have h5:=h.1.1;rw [h3,show jc (1+(dp k:Int))=1+dp k by simp only [eu];omega]at h5;refine⟨?_,by simp only [dp];omega⟩;rw [mh,ay];exact⟨h.1.2,h1⟩
end Sq
def df (w:World) (g:Nat) (f:Int->Option Value):Prop:=
 ∃es clock,w.heap[g]?=some (.map es clock)/\(∀x∈es.toList,MapKept.IsKey (.int .i64) x.key)/\(es.toList.map (·.key)).Nodup/\∀s v,f s=some v↔∃x∈es.toList,x.key=.int .i64 s/\x.val=v
section
variable {P:Program} {w w':World} {g:Nat} {f:Int->Option Value} {mt kt et:TypeId}
theorem df.lt (h:df w g f):g<w.heap.size:=by
 obtain⟨_,_,hb,_⟩:=h;exact(Array.getElem?_eq_some_iff.1 hb).1
theorem df.kept {S:Nat->Prop} (h:df w g f) (hk:Kept S w w') (hs:¬S g):df w' g f:=by
 have hl:=h.lt;obtain⟨es,clock,hb,r⟩:=h;exact⟨es,clock,(hk.block g hl hs).trans hb,r⟩
theorem df.ext (h:df w g f) (hk:al w w'):df w' g f:=h.kept hk (λf=>f)
theorem df.nR {f':Int->Option Value} (h:df w g f) (e:∀s,f s=f' s):df w g f':=by
 obtain⟨es,clock,hb,hk,hn,hm⟩:=h;exact⟨es,clock,hb,hk,hn,λs v=>by rw [<-e];exact hm s v⟩
theorem df.made (w:World):df (w.alloc (.map #[] 0)) w.heap.size (λ_=>none):=
 ⟨#[],0,(MapKept.heap_alloc w _).1,by simp,by simp,by simp⟩
theorem pZ (s:Int):MapKept.IsKey (.int .i64) (.int .i64 s):=by simp [MapKept.IsKey]
theorem df.find (h:df w g f) (s:Int):∃es clock,w.heap[g]?=some (.map es clock)/\(∀x∈es.toList,MapKept.IsKey (.int .i64) x.key)/\(es.toList.map (·.key)).Nodup/\(∀s v,f s=some v↔∃x∈es.toList,x.key=.int .i64 s/\x.val=v)/\
 ((Instr.findNow (.int .i64) (.int .i64 s) es.toList 0=some none/\f s=none/\∀x∈es.toList,x.key≠ .int .i64 s)∨∃j e,Instr.findNow (.int .i64) (.int .i64 s) es.toList 0=some (some (j,e.val))/\es.toList[j]?=some e/\e.key=.int .i64 s/\f s=some e.val):=by
 obtain⟨es,clock,hb,hk,hn,hm⟩:=h;refine⟨es,clock,hb,hk,hn,hm,?_⟩
 rcases MapKept.findNow_spec (pZ s) es.toList 0 hk with⟨h1,h2⟩|⟨j,e,h1,h2,h3⟩
 .refine .inl ⟨h1,?_,h2⟩
  cases hf:f s with
  |none=>rfl
  |some v=>
   obtain⟨x,hx,he,_⟩:=(hm s v).1 hf;exact absurd he (h2 x hx)
 .rw [dT]at h1
  exact .inr ⟨j,e,h1,h2,h3,(hm s e.val).2 ⟨e,List.mem_of_getElem? h2,h3,rfl⟩⟩
theorem df.look (h:df w g f) (hu:P.underlying mt=some (.map kt et)) (hk:P.underlying kt=some (.int .i64)) {z:Value} (hz:∀w:World,(zeroValue et).run P w=.ok z w) (s:Int):
 (Instr.lookup mt (.map (some g)) (.int .i64 s) false).run P w=.ok ((f s).getD z) w:=by
 exact akJ
theorem df.look_ok (h:df w g f) (hu:P.underlying mt=some (.map kt et)) (hk:P.underlying kt=some (.int .i64)) {z:Value} (hz:∀w:World,(zeroValue et).run P w=.ok z w) (s:Int):
 (Instr.lookup mt (.map (some g)) (.int .i64 s) true).run P w=.ok (.tuple #[(f s).getD z,.bool (f s).isSome]) w:=by
 exact akJ
theorem df.put (h:df w g f) (hu:P.underlying mt=some (.map kt et)) (hk:P.underlying kt=some (.int .i64)) (s:Int) (v:Value):
 ∃w',(Instr.mapUpdate mt (.map (some g)) (.int .i64 s) v).run P w=.ok () w'/\df w' g (λt=>if t=s then some v else f t)/\Kept (·=g) w w':=by
 obtain⟨es,clock,hb,hks,hn,hm,⟨h1,hf,zH⟩|⟨j,e,h1,h2,h3,h4⟩⟩:=h.find s
 .refine⟨{w with heap:=w.heap.setIfInBounds g (.map (es.push ⟨.int .i64 s,v,clock⟩) (clock+1))},?_,⟨_,_,(MapKept.heap_set hb).1,?_,?_,?_⟩,pj⟩
  .simp [Instr.mapUpdate,run_underlying hu,MapKept.run_getObj_map hb,MapKept.run_checkKey hk (pZ s),MapKept.run_findKey hk h1,MapKept.run_setObj_map _ hb,Result.andThen]
  .intro x hx
   simp only [Array.toList_push,lr,List.mem_singleton]at hx
   rcases hx with hx|rfl
   .exact hks x hx
   .exact pZ s
  .rw [Array.toList_push,qy]
   refine List.nodup_append.2 ⟨hn,by simp,λa ha b jw e=>?_⟩;obtain⟨x,hx,rfl⟩:=List.mem_map.1 ha;simp at jw;subst jw;exact zH x hx e
  .intro t u
   show(if t=s then some v else f t)=some u↔_;simp only [Array.toList_push,lr,List.mem_singleton]
   by_cases e:t=s
   .subst e
    rw [ak rfl]
    constructor
    .intro q
     cases q
     exact⟨_,.inr rfl,rfl,rfl⟩
    .rintro⟨x,hx|rfl,iP,qY⟩
     .exact absurd iP (zH x hx)
     .rw [<-qY]
   .rw [af e,hm]
    constructor
    .rintro⟨x,hx,iP,qY⟩
     exact⟨x,.inl hx,iP,qY⟩
    .rintro⟨x,hx|rfl,iP,qY⟩
     .exact⟨x,hx,iP,qY⟩
     .injection iP with _ iP
      exact absurd iP.symm e
 .have hj:es[j]?=some e:=by simpa using h2
  have VH:∀e',es[j]?=some e'->({e' with key:=.int .i64 s,val:=v}:MapEntry).key=e'.key:=λe' Vx=>by rw [hj]at Vx;cases Vx;exact h3.symm
  have d_:j<es.size:=(Array.getElem?_eq_some_iff.1 hj).1;refine⟨{w with heap:=w.heap.setIfInBounds g (.map (es.modify j λe=>{e with key:=.int .i64 s,val:=v}) clock)},?_,⟨_,_,(MapKept.heap_set hb).1,MapKept.isKey_modify hks _ _ VH,?_,?_⟩,pj⟩
  .simp [Instr.mapUpdate,run_underlying hu,MapKept.run_getObj_map hb,MapKept.run_checkKey hk (pZ s),MapKept.run_findKey hk h1,hj,h3,MapKept.run_keyThatStays (pZ s),MapKept.run_setObj_map _ hb,Result.andThen]
  .rw [MapKept.modify_keys _ _ VH]
   exact hn
  .have l7:∀i,(es.modify j λe=>{e with key:=.int .i64 s,val:=v}).toList[i]?=if i=j then some ⟨.int .i64 s,v,e.born⟩else es.toList[i]?:=λi=>by
    rw [Array.getElem?_toList,Array.getElem?_modify]
    by_cases ei:i=j
    .subst ei;simp [hj]
    .rw [af (λq=>ei q.symm),af ei,Array.getElem?_toList]
   have V6:∀i x,es.toList[i]?=some x->x.key=.int .i64 s->i=j:=λi x hx iP=>by
    exact afQ
   intro t u;show(if t=s then some v else f t)=some u↔_
   by_cases Lz:t=s
   .subst Lz
    rw [ak rfl]
    constructor
    .intro q
     cases q
     exact⟨⟨.int .i64 t,v,e.born⟩,List.mem_of_getElem? (i:=j) (by rw [l7,ak rfl]),rfl,rfl⟩
    .rintro⟨x,hx,iP,qY⟩
     obtain⟨i,hi⟩:=List.getElem?_of_mem hx;rw [l7]at hi
     split at hi
     .cases hi
      rw [<-qY]
     .rename_i iF
      exact absurd (V6 i x hi iP) iF
   .rw [af Lz,hm]
    constructor
    .rintro⟨x,hx,iP,qY⟩
     obtain⟨i,hi⟩:=List.getElem?_of_mem hx
     have iF:¬i=j:=λq=>by
      subst q;rw [h2]at hi
      cases hi
      rw [h3]at iP;injection iP with _ iP;exact Lz iP.symm
     exact⟨x,List.mem_of_getElem? (i:=i) (by rw [l7,af iF];exact hi),iP,qY⟩
    .rintro⟨x,hx,iP,qY⟩
     obtain⟨i,hi⟩:=List.getElem?_of_mem hx;rw [l7]at hi
     split at hi
     .cases hi
      injection iP with _ iP;exact absurd iP.symm Lz
     .exact⟨x,List.mem_of_getElem? hi,iP,qY⟩
end
open Sq Mc
theorem UC:ga prog 303=true:=by kernel_rfl
theorem SJ:dr prog 303=some 17:=by kernel_rfl
attribute [go_sem] UC SJ
abbrev oq (A:Option Addr) (n cp:Nat) (c:Pc) (b:Int) (wm:Nat) (f:Int) (sm em:Nat):Array Value:=
 #[.slice A n cp,.string c.name,.int .i64 c.aL,.slice c.bY.A c.bY.n c.bY.c,.slice c.vars.A c.vars.n c.vars.c,.slice c.start.A c.start.n c.start.c,.slice c.turn.A c.turn.n c.turn.c,.slice c.params.A c.params.n c.params.c,.slice c.cd.A c.cd.n c.cd.c,.string c.silent,.slice c.quiet.A c.quiet.n c.quiet.c,.slice c.bO.A c.bO.n c.bO.c,.int .i64 b,.map (some wm),.int .i64 f,.map (some sm),.map (some em)]
attribute [go_sem] oq
def anh (wm i:Nat) (o:Option Obj):Prop:=(∃cV t fr,o=some (.cells cV t fr)/\¬t=303/\¬t=71)∨(¬i=wm/\∃es clock,o=some (.map es clock))
def KT (B wm:Nat) (w w':World):Prop:=Kept (λi=>B<=i/\¬anh wm i w.heap[i]?) w w'
section
variable {B wm:Nat} {w w' Iz:World}
theorem KT.refl (B wm:Nat) (w:World):KT B wm w w:=kR _ w
theorem KT.ext (h:al w w'):KT B wm w w':=Kept.ext h
theorem KT.size (h:KT B wm w w'):w.heap.size<=w'.heap.size:=Kept.size h
theorem KT.trans (h:KT B wm w w') (h':KT B wm w' Iz):KT B wm w Iz:=by
 refine Kept.trans' h h' λi hi q=>?_;refine⟨q.1,λhk=>q.2 ?_⟩;rw [Kept.block h i hi (λz=>z.2 hk)];exact hk
theorem KT.below (h:KT B wm w w'):Kept (λi=>B<=i) w w':=Kept.mono h λ_ _ q=>q.1
theorem KT.block (h:KT B wm w w') {g:Nat} {t:TypeId} {cs:Array Value} (hb:ai w g t cs) (h1:¬t=303) (h2:¬t=71):ai w' g t cs:=(Kept.block h g hb.lt (λq=>q.2 (.inl ⟨_,_,_,hb,h1,h2⟩))).trans hb
theorem KT.map (h:KT B wm w w') {g:Nat} {f:Int->Option Value} (hm:df w g f) (hg:¬g=wm):df w' g f:=by
 have hl:=hm.lt;obtain⟨es,clock,hb,r⟩:=hm;exact⟨es,clock,(Kept.block h g hl (λq=>q.2 (.inr ⟨hg,es,clock,hb⟩))).trans hb,r⟩
theorem KT.acI {mb:Nat} {cs:Array Value} (hb:ai w mb 303 cs) (hB:B<=mb) (hk:Kept (·=mb) w w'):KT B wm w w':=
 Kept.mono hk λi _ q=>by
  subst q;refine⟨hB,?_⟩;rintro(⟨cV,t,fr,e,h1,_⟩|⟨_,es,clock,e⟩)<;>rw [show w.heap[i]?=_ from hb]at e
  .injection e with e
   injection e with _ e _;exact h1 e.symm
  .cases e
theorem KT.eT {v:Value} {n:Nat} {xs:List Value} (h:w.ownsRow B 71 4 v n xs) (hk:Kept (λi=>v.ownBlock=some i) w w'):KT B wm w w':=
 Kept.mono hk λi _ q=>by
  refine⟨(h.lt i q).1,?_⟩;rintro(⟨cV,t,fr,e,_,h2⟩|⟨_,es,clock,e⟩)
  .exact dl h (λz=>h2 z.symm) i q cV fr e
  .obtain⟨cV,e'⟩:=GQ h q
   rw [e]at e'
   cases e'
theorem KT.of_map {es:Array MapEntry} {clock:Nat} (hb:w.heap[wm]?=some (.map es clock)) (hB:B<=wm) (hk:Kept (·=wm) w w'):KT B wm w w':=
 Kept.mono hk λi _ q=>by
  subst q;refine⟨hB,?_⟩;rintro(⟨cV,t,fr,e,_,_⟩|⟨h,_⟩)
  .rw [hb]at e
   cases e
  .exact h rfl
end
def qz (op:Int):Option Value:=
 if op=0 then some (.func (.func 263) #[] #[])else if op=1 then some (.func (.func 264) #[] #[])
 else if op=2 then some (.func (.func 265) #[] #[])else if op=3 then some (.func (.func 266) #[] #[])
 else if op=4 then some (.func (.func 267) #[] #[])else if op=14∨op=15 then some (.func (.func 268) #[] #[])else none
def yO (k:Int):Option Value:=
 if k=0 then some (.func (.func 253) #[] #[])else if k=1 then some (.func (.func 254) #[] #[])
 else if k=2 then some (.func (.func 255) #[] #[])else if k=3 then some (.func (.func 256) #[] #[])
 else if k=4 then some (.func (.func 257) #[] #[])else if k=5 then some (.func (.func 258) #[] #[])
 else if k=6 then some (.func (.func 259) #[] #[])else if k=7 then some (.func (.func 260) #[] #[])
 else if k=8 then some (.func (.func 261) #[] #[])else if k=9 then some (.func (.func 262) #[] #[])else none
structure MS (w:World) (B N mb:Nat) (p:Pr) (c:Pc) (b:Int) (wm sm em f:Nat) (W:Wd) (L:List Ins):Prop where
 blk:∃A n cp,ai w mb 303 (oq A n cp c b wm f sm em)/\w.ownsRow B 71 4 (.slice A n cp) n (db L)
 prog:nj w N c p
 words:∃F,dy w wm F/\∀s,(F s).getD (.int .i64 0)=.int .i64 (W s)
 Oa:df w sm yO
 SV:df w em qz
 hN:N<=B
 hB:B<=w.heap.size
 mbB:B<=mb
 wmB:B<=wm
 okL:∀i∈L,i.ok
section
variable {w w':World} {B N mb wm sm em f:Nat} {p:Pr} {c:Pc} {b:Int} {W:Wd} {L:List Ins}
theorem MS.ext (h:MS w B N mb p c b wm sm em f W L) (hx:al w w'):MS w' B N mb p c b wm sm em f W L:=by
 obtain⟨A,n,cp,h1,h2⟩:=h.blk;obtain⟨F,h3,h4⟩:=h.words;exact⟨⟨A,n,cp,bX h1 hx,aI h2 hx⟩,h.prog.kept hx (ax h.hN h.hB) (λ_ q=>q.elim),⟨F,h3.ext hx,h4⟩,h.Oa.ext hx,h.SV.ext hx,h.hN,ax h.hB hx.size,h.mbB,h.wmB,h.okL⟩
theorem MS.len (_h:MS w B N mb p c b wm sm em f W L) {A:Option Addr} {n cp:Nat} (ho:w.ownsRow B 71 4 (.slice A n cp) n (db L)):n=L.length:=by
 have:=ho.1;rw [lJ]at this
 omega
end
variable{κ:Kn}
theorem MX:(prog.info? 71).map (λi=>(i.zero,i.size,i.bytes))=some (some (.agg #[.int .i64 0,.int .i64 0,.int .i64 0,.int .i64 0]),4,32):=by kernel_rfl
theorem BK (l:List Ins):eB (db l)=true:=by
 induction l with
 |nil=>rfl
 |cons d l ih=>show eB (d.cells.toList++db l)=true;exact ih
theorem abS (w:World) (base:Nat) (v:Value) (n:Nat) (xs:List Ins) (gp:w.ownsRow base 71 4 v n (db xs)) (b off m c:Nat) (l:List Ins) (hm:m=l.length) (hr:Row w b off (db l)) (hn:n+m<=100000) (gL:base<=w.heap.size):
 ∃v' w',(Builtin.append_ #[48,48] 48 #[v,.slice (some ⟨b,off,none⟩) m c]).run prog w=.ok v' w'/\w'.ownsRow base 71 4 v' (n+m) (db (xs++l))/\Kept (λi=>v.ownBlock=some i) w w':=by
 obtain⟨i,hi,hz,h1,h2⟩:=info_parts MX;have:=oX (P:=prog) underlying48 hi hz h1 h2 fK ap w base v n (db xs) gp b off m c (db l) (by rw [lJ,hm]) hr (BK l) Ib ad gL;rw [show db xs++db l=db (xs++l)by simp [db]]at this;exact this
theorem Nz {w:World} {base:Nat} {v:Value} {n:Nat} {l:List Ins} (h:w.ownsRow base 71 4 v n (db l)):∃A c,v=.slice A n c:=by
 rcases h.2 with⟨hv,h0⟩|⟨g,c,cV,hv,_⟩
 .exact⟨none,0,by rw [hv,h0]⟩
 .exact⟨_,c,hv⟩
theorem nu (B N mb wm sm em f:Nat) (p:Pr) (c:Pc) (b:Int) (W:Wd) (L:List Ins) (i:Int) (w:World) (h:MS w B N mb p c b wm sm em f W L) (hb:0<=b/\b<=10000) (hi:0<=i/\i<=10000):
 Calls prog 300 #[.pointer (some ⟨mb,0,none⟩),.int .i64 i] w λe w'=>e=.returned (.int .i64 (fr b i))/\w=w':=by
 obtain⟨A,n,cp,h1,-⟩:=h.blk;have i1:=bC h1;have i2:=h1.lt;clear h h1;go_enter func300,ntmps300;go_wp21;go_ret;exact⟨rfl,rfl⟩
theorem MS.grow {w w1:World} {B N mb wm sm em f:Nat} {p:Pr} {c:Pc} {b:Int} {W:Wd} {L L':List Ins} {A A':Option Addr} {n cp n' uB:Nat} (h:MS w B N mb p c b wm sm em f W L) (hb:ai w mb 303 (oq A n cp c b wm f sm em)) (ho:w.ownsRow B 71 4 (.slice A n cp) n (db L))
 (hk:Kept (λi=>(Value.slice A n cp).ownBlock=some i) w w1) (oL:w1.ownsRow B 71 4 (.slice A' n' uB) n' (db L')) (hok:∀i∈L',i.ok):
 MS (w1.setCell ⟨mb,0,none⟩ (.slice A' n' uB)) B N mb p c b wm sm em f W L'/\KT B wm w (w1.setCell ⟨mb,0,none⟩ (.slice A' n' uB)):=by
 have YP:¬(Value.slice A n cp).ownBlock=some mb:=λq=>dl ho (E':=303) ap mb q _ _ hb;have hJ:=bK hb hk YP;have hbS:=ai.eK hJ 0 (.slice A' n' uB);have kS:Kept (·=mb) w1 (w1.setCell ⟨mb,0,none⟩ (.slice A' n' uB)):=Kept.setCell (kR _ w1) _ _ (λ_=>rfl)
 have dj:∀g es clock,w.heap[g]?=some (.map es clock)->¬(Value.slice A n cp).ownBlock=some g:=λg es clock e q=>by
  obtain⟨cV,e'⟩:=GQ ho q;rw [e]at e'
  cases e'
 have Dq:∀g es clock,w.heap[g]?=some (.map es clock)->¬g=mb:=λg es clock e q=>by
  subst q;rw [show w.heap[g]?=_ from hb]at e
  cases e
 have k2:KT B wm w w1:=KT.eT ho hk;have k3:KT B wm w1 (w1.setCell ⟨mb,0,none⟩ (.slice A' n' uB)):=KT.acI hJ h.mbB kS;have kk:=k2.trans k3;refine⟨⟨⟨A',n',uB,?_,cU oL kS (λg hg q=>by subst q;exact dl oL (E':=303) ap g hg _ _ hJ)⟩,h.prog.kept kk.below (ax h.hN h.hB) (λi q=>ax h.hN q),?_,?_,?_,h.hN,ax h.hB kk.size,h.mbB,h.wmB,hok⟩,kk⟩
 .simpa using hbS
 .obtain⟨F,h3,h4⟩:=h.words
  obtain⟨es,clock,he,r⟩:=h3;exact⟨F,(dy.kept (f:=F) ⟨es,clock,he,r⟩ hk (dj _ _ _ he)).kept kS (Dq _ _ _ he),h4⟩
 .obtain⟨es,clock,he,r⟩:=h.Oa
  exact(df.kept (f:=yO) ⟨es,clock,he,r⟩ hk (dj _ _ _ he)).kept kS (Dq _ _ _ he)
 .obtain⟨es,clock,he,r⟩:=h.SV
  exact(df.kept (f:=qz) ⟨es,clock,he,r⟩ hk (dj _ _ _ he)).kept kS (Dq _ _ _ he)
theorem qa (B N mb wm sm em f:Nat) (p:Pr) (c:Pc) (b:Int) (W:Wd) (L:List Ins) (x:Ins) (hx:x.ok) (hL:L.length<=5000) (w:World) (h:MS w B N mb p c b wm sm em f W L):
 Calls prog 208 #[.pointer (some ⟨mb,0,none⟩),.int .i64 x.op,.int .i64 x.a,.int .i64 x.b,.int .i64 x.c] w λe w'=>e=.returned (.int .i64 L.length)/\MS w' B N mb p c b wm sm em f W (L++[x])/\KT B wm w w':=by
 have HH:=J h;obtain⟨A,n,cp,h1,h2⟩:=h.blk;have hn:=h.len h2;have y1:al w (w.alloc (.cells x.cells 71)):=dM w _;obtain⟨v',w',hr,ho,hk⟩:=abS (w.alloc (.cells x.cells 71)) B _ n L (aI h2 y1) w.heap.size 0 1 1 [x] rfl (by simpa [db]using Row.cF (bN w 71 x.cells)) ad (ax h.hB y1.size);obtain⟨A',uB,rfl⟩:=Nz ho;have jR:Kept (λi=>(Value.slice A n cp).ownBlock=some i) w w':=(Kept.ext y1).trans hk
 obtain⟨DU,hKT⟩:=h.grow h1 h2 jR ho (λi hi=>by
  rcases lr.1 hi with q|q
  .exact h.okL i q
  .simp at q;subst q;exact hx)
 have YP:¬(Value.slice A n cp).ownBlock=some mb:=λq=>dl h2 (E':=303) ap mb q _ _ h1;have hJ:=bK h1 jR YP;have i1:=bC h1;have i2:=h1.lt;have i3:=hJ.lt;have i4:=ai.frozen hJ;have j1:=bC (ai.eK hJ 0 (.slice A' (n+1) uB));have⟨TA,HKT,HL,Ts⟩:=J4' DU hKT hn hJ;clear h h2 ho hk jR YP DU hKT HH hJ h1 hn;go_enter func208,ntmps208;go_upto_region 1 with(fail);go_step
 iterate 11 refine kE ?_
 refine cj rfl (.tmp 15) (.tmp 21) 48 rfl rfl rfl rfl hr ?_;clear hr i1;have i1:=bC Ts.o;have qX:n<=5000:=by have:=HL.o;omega
 go_wp21;go_ret;refine⟨?_,TA.o,HKT.o⟩;rw [<-HL.o]
 rfl
def Jj (L:List Ins) (j:Nat) (v:Int):List Ins:=L.set j ⟨(L.getD j ⟨0,0,0,0⟩).op,v,(L.getD j ⟨0,0,0,0⟩).b,(L.getD j ⟨0,0,0,0⟩).c⟩
theorem BL:∀(L:List Ins) (j:Nat) (v:Int),j<L.length->(db L).set (j*4+1) (.int .i64 v)=db (Jj L j v)
 |[],_,_,h=>by simp at h
 |x::L,0,v,_=>by simp [Jj,db]
 |x::L,j+1,v,h=>by
  have ih:=BL L j v rU;have e:db (Jj (x::L) (j+1) v)=x.cells.toList++db (Jj L j v):=by simp [Jj,db]
  rw [e,<-ih,show(j+1)*4+1=4+(j*4+1)by omega];show(x.cells.toList++db L).set (4+(j*4+1)) _=_;rw [List.set_append_right _ _ aB]
  congr 2
  simp
theorem MS.drew {w:World} {B N mb wm sm em f:Nat} {p:Pr} {c:Pc} {b:Int} {W:Wd} {L:List Ins} (h:MS w B N mb p c b wm sm em f W L):MS w.drew B N mb p c b wm sm em f W L:=h.ext (kR _ w).drew
def I_:EF->Nat->Option (Int×Int×Str×EF)
 | .nil,_=>none
 | .cons op n s k _,0=>some (op,n,s,k)
 | .cons _ _ _ _ r,j+1=>I_ r j
theorem I1:∀(F:EF) (j:Nat),j<F.len->∃op n s K,I_ F j=some (op,n,s,K)
 | .nil,_,h=>by simp [EF.len]at h
 | .cons op n s k _,0,_=>⟨op,n,s,k,rfl⟩
 | .cons _ _ _ _ r,j+1,h=>I1 r j (by simpa [EF.len]using h)
theorem I0 (k:Mk) (W:Wd) (tw:Int):∀(F:EF) (j:Nat) {op n:Int} {s:Str} {K:EF},I_ F j=some (op,n,s,K)->cE k W F j tw=cE k W (.cons op n s K .nil) 0 tw
 | .nil,_,_,_,_,_,h=>by simp [I_]at h
 | .cons op n s k _,0,_,_,_,_,h=>by
  simp only [I_,Option.some.injEq,Prod.mk.injEq]at h;obtain⟨rfl,rfl,rfl,rfl⟩:=h;rw [cE,cE]
 | .cons _ _ _ _ r,j+1,_,_,_,_,h=>by rw [cE];exact I0 k W tw r j h
theorem OU:∀{F:EF} {j:Nat} {op n:Int} {s:Str} {K:EF},I_ F j=some (op,n,s,K)->mh κ F=none->lD κ op n s K.len=none/\mh κ K=none/\1+dp K<=dp F
 | .nil,_,_,_,_,_,h,_=>by simp [I_]at h
 | .cons op n s k _,0,_,_,_,_,h,hc=>by
  simp only [I_,Option.some.injEq,Prod.mk.injEq]at h;obtain⟨rfl,rfl,rfl,rfl⟩:=h;rw [mh,ay,ay]at hc;exact⟨hc.1.1,hc.1.2,by simp only [dp];omega⟩
 | .cons _ _ _ _ r,j+1,_,_,_,_,h,hc=>by
  rw [mh,ay]at hc;obtain⟨a,b,c⟩:=OU (F:=r) (j:=j) h hc.2;exact⟨a,b,by simp only [dp];omega⟩
theorem Ep {w:World} {N:Nat}:∀{F:EF} {j:Nat} {op n:Int} {s:Str} {K:EF} {b off:Nat},I_ F j=some (op,n,s,K)->mc w N F b off->
 b<N/\br op/\br n/\s.size<=maxLen/\∃A cap,Proofs.YtnhelcmddjbafaaGreatDoor.has w b (off+j*4) 4=true/\gets w b (off+j*4) 4=bJ op n s A K.len cap/\me w N A K.len K
 | .nil,_,_,_,_,_,_,_,h,_=>by simp [I_]at h
 | .cons op n s k _,0,_,_,_,_,b,off,h,hE=>by
  simp only [I_,Option.some.injEq,Prod.mk.injEq]at h;obtain⟨rfl,rfl,rfl,rfl⟩:=h;obtain⟨hb,h1,h2,h3,⟨A,cap,b',bL,hh,hg,hl,hA,hk⟩,_⟩:=hE;exact⟨hb,h1,h2,h3,A,cap,by simpa using hh,by simpa using hg,rfl,hl,b',bL,hA,hk⟩
 | .cons _ _ _ _ r,j+1,_,_,_,_,b,off,h,hE=>by
  obtain⟨a1,a2,a3,a4,A,cap,a5,a6,a7⟩:=Ep (F:=r) (j:=j) h hE.2.2.2.2.2;refine⟨a1,a2,a3,a4,A,cap,?_,?_,a7⟩
  .rw [show off+(j+1)*4=off+4+j*4 by omega];exact a5
  .rw [show off+(j+1)*4=off+4+j*4 by omega];exact a6
structure zw where (B N mb:Nat) (p:Pr) (c:Pc) (b:Int) (wm sm em:Nat)
abbrev zw.k (x:zw):Mk:=⟨x.p.vars,x.p.aL,x.b⟩
abbrev zw.at (x:zw) (w:World) (f:Nat) (W:Wd) (L:List Ins):Prop:=MS w x.B x.N x.mb x.p x.c x.b x.wm x.sm x.em f W L
structure ZI (x:zw) (W:Wd):Prop where
 b0:0<=x.b
 b1:x.b<=100
 W0:∀s,0<=W s
 W1:∀s,W s<=1000
theorem fS {n:Int} (h:-100000<=n/\n<=100000):br n:=by unfold br;omega
theorem Bp {b i:Int} (h0:0<=b) (h1:b<=100) (i0:0<=i) (i1:i<=200):br (fr b i):=by unfold fr br;omega
def zE:EF->Prop| .nil=>True| .cons op _ _ _ r=>op=0/\zE r
theorem zE.at:∀{F:EF} {j:Nat} {op n:Int} {s:Str} {K:EF},I_ F j=some (op,n,s,K)->zE F->op=0
 | .nil,_,_,_,_,_,h,_=>by simp [I_]at h
 | .cons _ _ _ _ _,0,_,_,_,_,h,hA=>by
  simp only [I_,Option.some.injEq,Prod.mk.injEq]at h;obtain⟨rfl,rfl,rfl,rfl⟩:=h;exact hA.1
 | .cons _ _ _ _ r,j+1,_,_,_,_,h,hA=>zE.at (F:=r) (j:=j) h hA.2
structure Ex (w:World) (N:Nat) (κ:Kn) (op n:Int) (s:Str) (A:Option Addr) (F:EF) (tw:Int):Prop where
 op_:br op
 n_:br n
 s_:s.size<=maxLen
 kids:me w N A F.len F
 head:lD κ op n s F.len=none
 OY:mh κ F=none
 t0:0<=tw
 t1:tw+1+dp F<=100
 z:op=0
theorem Ex.kt {w w':World} {B wm N:Nat} {op n:Int} {s:Str} {A:Option Addr} {F:EF} {tw:Int} (h:Ex w N κ op n s A F tw) (hk:KT B wm w w') (hN:N<=B) (hB:B<=w.heap.size):Ex w' N κ op n s A F tw:=
 ⟨h.op_,h.n_,h.s_,h.kids.kept hk.below (ax hN hB) (λ_i q=>ax hN q),h.head,h.OY,h.t0,h.t1,h.z⟩
abbrev cX (x:zw) (W:Wd) (op n:Int) (s:Str) (F:EF) (tw:Int):List Ins:=cE x.k W (.cons op n s F .nil) 0 tw
abbrev ExM (x:zw) (f:Nat) (W:Wd) (κ:Kn) (F:EF):Prop:=∀(op n:Int) (s:Str) (A:Option Addr) (kc:Nat) (tw:Int) (L:List Ins) (w:World),x.at w f W L->Ex w x.N κ op n s A F tw->L.length+(cX x W op n s F tw).length<=4000->
 Calls prog 299 #[.pointer (some ⟨x.mb,0,none⟩),.agg (bJ op n s A F.len kc),.int .i64 tw] w λe w'=>e=.returned (.tuple #[])/\x.at w' f W (L++cX x W op n s F tw)/\KT x.B x.wm w w'
def FG (x:zw) (f:Nat) (W:Wd) (κ:Kn):EF->Prop| .nil=>True| .cons _ _ _ k r=>ExM x f W κ k/\FG x f W κ r
theorem FG.at {x:zw} {f:Nat} {W:Wd}:∀{F:EF} {j:Nat} {op n:Int} {s:Str} {K:EF},I_ F j=some (op,n,s,K)->FG x f W κ F->ExM x f W κ K
 | .nil,_,_,_,_,_,h,_=>by simp [I_]at h
 | .cons op n s k _,0,_,_,_,_,h,hA=>by
  simp only [I_,Option.some.injEq,Prod.mk.injEq]at h;obtain⟨rfl,rfl,rfl,rfl⟩:=h;exact hA.1
 | .cons _ _ _ _ r,j+1,_,_,_,_,h,hA=>FG.at (F:=r) (j:=j) h hA.2
theorem aeN {x:zw} {f:Nat} {W:Wd} {F:EF} {A:Option Addr} {w:World} (hA:FG x f W κ F) (hz:zE F) (hE:me w x.N A F.len F) (hc:mh κ F=none) {tw:Int} (h0:0<=tw) (h1:tw+dp F<=100) {j:Nat} (hj:j<F.len):
 ∃op n s K A' cap b off,A=some ⟨b,off,none⟩/\b<x.N/\Proofs.YtnhelcmddjbafaaGreatDoor.has w b (off+j*4) 4=true/\gets w b (off+j*4) 4=bJ op n s A' K.len cap/\Ex w x.N κ op n s A' K tw/\ExM x f W κ K/\cE x.k W F j tw=cX x W op n s K tw:=by
 obtain⟨op,n,s,K,ha⟩:=I1 F j hj;obtain⟨_,_,b,off,F9,hEF⟩:=hE;obtain⟨a1,a2,a3,a4,A',cap,a5,a6,a7⟩:=Ep ha hEF;obtain⟨c1,c2,c3⟩:=OU ha hc;exact⟨op,n,s,K,A',cap,b,off,F9 ad,a1,a5,a6,⟨a2,a3,a4,a7,c1,c2,h0,by omega,zE.at ha hz⟩,FG.at ha hA,I0 x.k W tw F j ha⟩
theorem MS.look {w:World} {B N mb wm sm em f:Nat} {p:Pr} {c:Pc} {b:Int} {W:Wd} {L:List Ins} (h:MS w B N mb p c b wm sm em f W L) (s:Str):
 (Instr.lookup 297 (.map (some wm)) (.string s) false).run Tryz.prog w=.ok (.int .i64 (W s)) w:=by
 obtain⟨F,h3,h4⟩:=h.words;have su:=dy.look (P:=Tryz.prog) h3 Tryz.underlying297 Tryz.underlying9 (z:=.int .i64 0) (λw=>by kernel_rfl) s;rw [su,h4]
def SM (x:zw) (f:Nat) (W:Wd) (w1 w2:World):Prop:=KT x.B x.wm w1 w2/\∃L,x.at w2 f W L
section
variable {B wm N:Nat} {w w':World} (h:KT B wm w w')
include B wm N w w' h
theorem aei (hN:N<=B) (hB:B<=w.heap.size) {g o n:Nat} (hg:g<N) (q:Proofs.YtnhelcmddjbafaaGreatDoor.has w g o n=true):Proofs.YtnhelcmddjbafaaGreatDoor.has w' g o n=true:=by
 rw [jv h.below ad ad];exact q
theorem ZZ (hN:N<=B) (hB:B<=w.heap.size) {g o n:Nat} (hg:g<N):gets w' g o n=gets w g o n:=iz h.below ad ad
theorem Gs (Mz:N<=B/\B<=w.heap.size) {b o n:Nat} {vs:Array Value} (hb:b<N) (hh:Proofs.YtnhelcmddjbafaaGreatDoor.has w b o n=true) (hg:gets w b o n=vs):Proofs.YtnhelcmddjbafaaGreatDoor.has w' b o n=true/\gets w' b o n=vs/\b<w'.heap.size:=
 ⟨aei h Mz.1 Mz.2 hb hh,(ZZ h Mz.1 Mz.2 hb).trans hg,by have:=h.size;omega⟩
end
theorem ug (x:zw) (f:Nat) (W:Wd) (hM:ZI x W) (κ:Kn) (n:Int) (s:Str) (A:Option Addr) (kc:Nat) (F:EF) (tw:Int) (L:List Ins) (w:World) (h:x.at w f W L) (hX:Ex w x.N κ 0 n s A F tw) (hL:L.length+(cX x W 0 n s F tw).length<=4000):
 Calls prog 263 #[.pointer (some ⟨x.mb,0,none⟩),.agg (bJ 0 n s A F.len kc),.int .i64 tw] w λe w'=>e=.returned (.tuple #[])/\x.at w' f W (L++cX x W 0 n s F tw)/\KT x.B x.wm w w':=by
 obtain⟨h0,h1,h2,h3⟩:=hM;have ht0:=hX.t0;have Iv:=hX.t1;have y1:al w (w.alloc (.cells (bJ 0 n s A F.len kc) 354)):=dM w _;have eY:=bN w 354 (bJ 0 n s A F.len kc);have DU:=h.ext y1;have wL:=hX.kt (KT.ext (B:=x.B) (wm:=x.wm) y1) h.hN h.hB;have qI:=J (ew h.hN h.hB);clear h hX;go_enter func263,ntmps263;go_upto_region 1 with(fail);generalize (w.alloc (.cells (bJ 0 n s A F.len kc) 354))=W1 at y1 eY DU wL⊢;generalize (w:World).heap.size=g at eY⊢;have⟨HB,HX,zY,HL,Y0,HS1⟩:=J6' eY wL DU hL (KT.refl x.B x.wm W1) (show x.B<=W1.heap.size from DU.hB);clear DU eY wL hL;have HBr:=J (KT.block Y0.o HB.o ap ap);refine fH (λwz=>SM x f W W1 wz) [(0,2),(1,2),(2,2),(4,2),(5,1),(3,0),(6,0)] ?_;refine fI ?_
 repeat first|refine cx ?_|refine de ⟨KT.ext fU,_,(zY.o).drew⟩ zb3 ?_|refine dc ⟨KT.ext fU,_,(zY.o).drew⟩ ?_
 have yd1:KT x.B x.wm W1 W1.drew:=KT.ext (kR _ W1).drew;have ZH:=J (zY.o).drew;refine au (λK hK=>?_);go_simp;go_wp21;refine aoT (nu x.B x.N x.mb x.wm x.sm x.em f x.p x.c x.b W (L) tw _ (ZH.o) ⟨h0,by omega⟩ ⟨ht0,by omega⟩) ?_;refine hK.out _ _ (λ_=>⟨yd1,_,(ZH.o)⟩) ?_;clear hK K;refine tj ?_;intro K hK;go_wp21;refine(qa x.B x.N x.mb x.wm x.sm x.em f x.p x.c x.b W (L) ⟨1,fr x.b tw,n,0⟩ ⟨(fS (n:=1) ap),(Bp h0 h1 ht0 ad),HX.o.n_,(fS (n:=0) ap)⟩ (by have:=HL.o;omega) _ (ZH.o)).mono ?_;rintro e w2 ⟨rfl,mB,eV⟩;have yk2:=(yd1).trans eV;have zr:=J mB;clear mB eV yd1;refine hK.out _ _ (λ_=>⟨yk2,_,(zr.o)⟩) ?_;clear hK K;refine fx ?_;have YR3:=J ((Y0.o).trans yk2);clear yk2 HBr;go_wp21;go_end0;refine⟨rfl,?_,(KT.ext y1).trans YR3.o⟩;exact(zr.o)
theorem xe (w:World):Calls prog 205 #[] w λe w'=>e=.returned (.map (some w.heap.size))/\df w' w.heap.size qz/\al w w':=by
 have Dq:=@run_makeMap prog;have hu:prog.underlying 300=some (.map 3 _):=underlying300;refine X2 ?_;intro b0 y0;go_enter func205,ntmps205;go_upto_region 1 with(fail);go_step
 iterate 1 refine kE ?_
 obtain⟨w1,r1,b1,k1⟩:=df.put b0 hu underlying3 (0) (.func (.func 263) #[] #[]);have y1:=y0.trans' k1 (λi hi e=>by omega);refine Mc.aJ rfl 300 (.tmp 1) (.const (.int .i64 0)) (.func 263) rfl rfl rfl rfl rfl r1 ?_;clear r1 k1 b0 y0;obtain⟨w2,r2,b2,k2⟩:=df.put b1 hu underlying3 (1) (.func (.func 264) #[] #[]);have y2:=y1.trans' k2 (λi hi e=>by omega);refine Mc.aJ rfl 300 (.tmp 1) (.const (.int .i64 1)) (.func 264) rfl rfl rfl rfl rfl r2 ?_;clear r2 k2 b1 y1;obtain⟨w3,r3,b3,k3⟩:=df.put b2 hu underlying3 (2) (.func (.func 265) #[] #[]);have y3:=y2.trans' k3 (λi hi e=>by omega);refine Mc.aJ rfl 300 (.tmp 1) (.const (.int .i64 2)) (.func 265) rfl rfl rfl rfl rfl r3 ?_;clear r3 k3 b2 y2;obtain⟨w4,r4,b4,k4⟩:=df.put b3 hu underlying3 (3) (.func (.func 266) #[] #[]);have y4:=y3.trans' k4 (λi hi e=>by omega);refine Mc.aJ rfl 300 (.tmp 1) (.const (.int .i64 3)) (.func 266) rfl rfl rfl rfl rfl r4 ?_;clear r4 k4 b3 y3;obtain⟨w5,r5,b5,k5⟩:=df.put b4 hu underlying3 (4) (.func (.func 267) #[] #[]);have y5:=y4.trans' k5 (λi hi e=>by omega);refine Mc.aJ rfl 300 (.tmp 1) (.const (.int .i64 4)) (.func 267) rfl rfl rfl rfl rfl r5 ?_;clear r5 k5 b4 y4;obtain⟨w6,r6,b6,k6⟩:=df.put b5 hu underlying3 (14) (.func (.func 268) #[] #[]);have y6:=y5.trans' k6 (λi hi e=>by omega);refine Mc.aJ rfl 300 (.tmp 1) (.const (.int .i64 14)) (.func 268) rfl rfl rfl rfl rfl r6 ?_;clear r6 k6 b5 y5;obtain⟨w7,r7,b7,k7⟩:=df.put b6 hu underlying3 (15) (.func (.func 268) #[] #[]);have y7:=y6.trans' k7 (λi hi e=>by omega);refine Mc.aJ rfl 300 (.tmp 1) (.const (.int .i64 15)) (.func 268) rfl rfl rfl rfl rfl r7 ?_;clear r7 k7 b6 y6;go_wp21;go_ret;refine⟨rfl,df.nR b7 (λt=>?_),y7⟩
 by_cases h:t=0∨t=1∨t=2∨t=3∨t=4∨t=14∨t=15
 .rcases h with rfl|rfl|rfl|rfl|rfl|rfl|rfl<;>rfl
 .unfold qz
  rw [af (show¬t=15 by omega),af (show¬t=14 by omega),af (show¬t=4 by omega),af (show¬t=3 by omega),af (show¬t=2 by omega),af (show¬t=1 by omega),af (show¬t=0 by omega)];rw [af (show¬t=0 by omega),af (show¬t=1 by omega),af (show¬t=2 by omega),af (show¬t=3 by omega),af (show¬t=4 by omega),af (show¬(t=14∨t=15)by omega)]
theorem Ft (w:World):Calls prog 204 #[] w λe w'=>e=.returned (.map (some w.heap.size))/\df w' w.heap.size yO/\al w w':=by
 have Dq:=@run_makeMap prog;have hu:prog.underlying 298=some (.map 3 _):=underlying298;refine X2 ?_;intro b0 y0;go_enter func204,ntmps204;go_upto_region 1 with(fail);go_step
 iterate 1 refine kE ?_
 obtain⟨w1,r1,b1,k1⟩:=df.put b0 hu underlying3 (0) (.func (.func 253) #[] #[]);have y1:=y0.trans' k1 (λi hi e=>by omega);refine Mc.aJ rfl 298 (.tmp 1) (.const (.int .i64 0)) (.func 253) rfl rfl rfl rfl rfl r1 ?_;clear r1 k1 b0 y0;obtain⟨w2,r2,b2,k2⟩:=df.put b1 hu underlying3 (1) (.func (.func 254) #[] #[]);have y2:=y1.trans' k2 (λi hi e=>by omega);refine Mc.aJ rfl 298 (.tmp 1) (.const (.int .i64 1)) (.func 254) rfl rfl rfl rfl rfl r2 ?_;clear r2 k2 b1 y1;obtain⟨w3,r3,b3,k3⟩:=df.put b2 hu underlying3 (2) (.func (.func 255) #[] #[]);have y3:=y2.trans' k3 (λi hi e=>by omega);refine Mc.aJ rfl 298 (.tmp 1) (.const (.int .i64 2)) (.func 255) rfl rfl rfl rfl rfl r3 ?_;clear r3 k3 b2 y2;obtain⟨w4,r4,b4,k4⟩:=df.put b3 hu underlying3 (3) (.func (.func 256) #[] #[]);have y4:=y3.trans' k4 (λi hi e=>by omega);refine Mc.aJ rfl 298 (.tmp 1) (.const (.int .i64 3)) (.func 256) rfl rfl rfl rfl rfl r4 ?_;clear r4 k4 b3 y3;obtain⟨w5,r5,b5,k5⟩:=df.put b4 hu underlying3 (4) (.func (.func 257) #[] #[]);have y5:=y4.trans' k5 (λi hi e=>by omega);refine Mc.aJ rfl 298 (.tmp 1) (.const (.int .i64 4)) (.func 257) rfl rfl rfl rfl rfl r5 ?_;clear r5 k5 b4 y4;obtain⟨w6,r6,b6,k6⟩:=df.put b5 hu underlying3 (5) (.func (.func 258) #[] #[]);have y6:=y5.trans' k6 (λi hi e=>by omega);refine Mc.aJ rfl 298 (.tmp 1) (.const (.int .i64 5)) (.func 258) rfl rfl rfl rfl rfl r6 ?_;clear r6 k6 b5 y5;obtain⟨w7,r7,b7,k7⟩:=df.put b6 hu underlying3 (6) (.func (.func 259) #[] #[]);have y7:=y6.trans' k7 (λi hi e=>by omega);refine Mc.aJ rfl 298 (.tmp 1) (.const (.int .i64 6)) (.func 259) rfl rfl rfl rfl rfl r7 ?_;clear r7 k7 b6 y6;obtain⟨w8,r8,b8,k8⟩:=df.put b7 hu underlying3 (7) (.func (.func 260) #[] #[]);have y8:=y7.trans' k8 (λi hi e=>by omega);refine Mc.aJ rfl 298 (.tmp 1) (.const (.int .i64 7)) (.func 260) rfl rfl rfl rfl rfl r8 ?_;clear r8 k8 b7 y7;obtain⟨w9,r9,b9,k9⟩:=df.put b8 hu underlying3 (8) (.func (.func 261) #[] #[]);have y9:=y8.trans' k9 (λi hi e=>by omega);refine Mc.aJ rfl 298 (.tmp 1) (.const (.int .i64 8)) (.func 261) rfl rfl rfl rfl rfl r9 ?_;clear r9 k9 b8 y8;obtain⟨IA,r10,TI,M5⟩:=df.put b9 hu underlying3 (9) (.func (.func 262) #[] #[]);have S7:=y9.trans' M5 (λi hi e=>by omega);refine Mc.aJ rfl 298 (.tmp 1) (.const (.int .i64 9)) (.func 262) rfl rfl rfl rfl rfl r10 ?_;clear r10 M5 b9 y9;go_wp21;go_ret;refine⟨rfl,df.nR TI (λt=>?_),S7⟩
 by_cases h:t=0∨t=1∨t=2∨t=3∨t=4∨t=5∨t=6∨t=7∨t=8∨t=9
 .rcases h with rfl|rfl|rfl|rfl|rfl|rfl|rfl|rfl|rfl|rfl<;>rfl
 .unfold yO
  rw [af (show¬t=9 by omega),af (show¬t=8 by omega),af (show¬t=7 by omega),af (show¬t=6 by omega),af (show¬t=5 by omega),af (show¬t=4 by omega),af (show¬t=3 by omega),af (show¬t=2 by omega),af (show¬t=1 by omega),af (show¬t=0 by omega)];exact akO
theorem wrap_i64 {n:Int} (h:br n):IntKind.i64.wrap n=n:=by
 unfold br at h;simp only [IntKind.wrap,IntKind.signed,IntKind.bits];simp
 omega
theorem RF {w:World} {g:Nat} (h:df w g qz) (op:Int) {fv:Value} {bv:Bool} (hf:(qz op).getD .nilFunc=fv) (hb:(qz op).isSome=bv):(Instr.lookup 300 (.map (some g)) (.int .i64 op) true).run prog w=.ok (.tuple #[fv,.bool bv]) w:=by
 have su:=df.look_ok (P:=prog) h underlying300 underlying3 (z:=.nilFunc) (λw=>by kernel_rfl) op;rw [su,hf,hb]
theorem Jd (x:zw) (f:Nat) (W:Wd) (κ:Kn) (op n:Int) (s:Str) (A:Option Addr) (kc:Nat) (F:EF) (tw:Int) (L:List Ins) (w:World) (h:x.at w f W L) (hX:Ex w x.N κ op n s A F tw) (hf:qz op=some (.func (.func 263) #[] #[]))
 (ye:∀w',x.at w' f W L->Ex w' x.N κ op n s A F tw->Calls prog 263 #[.pointer (some ⟨x.mb,0,none⟩),.agg (bJ op n s A F.len kc),.int .i64 tw] w' λe Iz=>e=.returned (.tuple #[])/\x.at Iz f W (L++cX x W op n s F tw)/\KT x.B x.wm w' Iz):
 Calls prog 299 #[.pointer (some ⟨x.mb,0,none⟩),.agg (bJ op n s A F.len kc),.int .i64 tw] w λe w'=>e=.returned (.tuple #[])/\x.at w' f W (L++cX x W op n s F tw)/\KT x.B x.wm w w':=by
 have y1:al w (w.alloc (.cells (bJ op n s A F.len kc) 354)):=dM w _;have eY:=bN w 354 (bJ op n s A F.len kc);have DU:=h.ext y1;have wL:=hX.kt (KT.ext (B:=x.B) (wm:=x.wm) y1) h.hN h.hB;have⟨qI,HF,HC⟩:=J3' (ew h.hN h.hB) (show(qz op).getD .nilFunc=.func (.func 263) #[] #[]/\(qz op).isSome=true from by rw [hf];exact⟨rfl,rfl⟩) ye;clear h hX hf ye;go_enter func299,ntmps299;go_upto_region 1 with(fail);generalize (w.alloc (.cells (bJ op n s A F.len kc) 354))=W1 at y1 eY DU wL⊢;generalize (w:World).heap.size=g at eY⊢;have⟨HB,HX,HM⟩:=J3' eY wL DU;clear DU eY wL;refine fH (λw2=>al W1 w2) [(0,2),(1,2),(2,2),(3,1),(4,2),(5,1),(6,1),(7,2),(8,2),(9,2),(10,2),(11,2)] ?_;refine fI ?_;have y2:al W1 W1.drew:=(kR _ W1).drew
 repeat first|refine cx ?_|refine de y2 (by intro w1 hS;have d0:=bX HB.o hS;have d1:=bC d0;have d2:=d0.lt;have qO:=HM.o.ext hS;obtain⟨A',n',uB,jw,_⟩:=qO.blk;have d3:=bC jw;have d4:=jw.lt;have d5:=RF qO.SV op HF.o.1 HF.o.2;exact fV) ?_|refine dc y2 ?_
 refine fx ?_;have nQ:=bX HB.o y2;have i1:=bH nQ;have i2:=bG nQ;have i3:=nQ.lt;clear nQ;go_wp21;refine(HC.o _ (HM.o.ext y2) (HX.o.kt (KT.ext (B:=x.B) (wm:=x.wm) y2) HM.o.hN HM.o.hB)).mono ?_;rintro e w2 ⟨rfl,mB,eV⟩;go_wp21;refine jA results299 rfl ?_;exact⟨rfl,mB,(KT.ext (y1.trans y2)).trans eV⟩
theorem EC (x:zw) (f:Nat) (W:Wd) (hM:ZI x W) (κ:Kn) (F:EF) (_hK:FG x f W κ F):ExM x f W κ F:=by
 intro op n s A kc tw L w h hX hL;obtain rfl:op=0:=hX.z;exact Jd x f W κ 0 n s A kc F tw L w h hX rfl λw' h' hX'=>ug x f W hM κ n s A kc F tw L w' h' hX' hL
theorem vg (x:zw) (f:Nat) (W:Wd) (hM:ZI x W) (κ:Kn):∀F:EF,ExM x f W κ F/\FG x f W κ F
 | .nil=>⟨EC x f W hM κ .nil trivial,trivial⟩
 | .cons op n s k r=>by
  have hA:FG x f W κ (.cons op n s k r):=⟨(vg x f W hM κ k).1,(vg x f W hM κ r).2⟩;exact⟨EC x f W hM κ _ hA,hA⟩
structure Sx (w:World) (N:Nat) (κ:Kn) (kind:Int) (s:Str) (A:Option Addr) (F:EF) (low high:Int):Prop where
 ane:br low
 ahF:br high
 s_:s.size<=maxLen
 kids:me w N A F.len F
 len:F.len=stmtParts kind
 OY:mh κ F=none
 dp_:dp F<=12
 z:zE F
theorem Sx.kt {w w':World} {B wm N:Nat} {κ:Kn} {kind:Int} {s:Str} {A:Option Addr} {F:EF} {low high:Int} (h:Sx w N κ kind s A F low high) (hk:KT B wm w w') (hN:N<=B) (hB:B<=w.heap.size):Sx w' N κ kind s A F low high:=
 ⟨h.ane,h.ahF,h.s_,h.kids.kept hk.below (ax hN hB) (λ_i q=>ax hN q),h.len,h.OY,h.dp_,h.z⟩
section
variable (x:zw) (f:Nat) (W:Wd) (hM:ZI x W)
include x f W hM
theorem WM (κ:Kn) (low high:Int) (s:Str) (A:Option Addr) (ec:Nat) (F:EF) (lA:Option Addr) (ln lc:Nat) (xA:Option Addr) (xn xc:Nat) (L:List Ins) (w:World) (h:x.at w f W L) (hX:Sx w x.N κ 7 s A F low high) (hL:L.length+(QB x.k W L.length 7 s F low).length<=4000):
 Calls prog 260 #[.pointer (some ⟨x.mb,0,none⟩),.agg (aN 7 s A F.len ec low high lA ln lc xA xn xc)] w λe w'=>e=.returned (.tuple #[])/\x.at w' f W (L++QB x.k W L.length 7 s F low)/\KT x.B x.wm w w':=by
 have hK:=(vg x f W hM κ F).2;obtain⟨h0,h1,h2,h3⟩:=hM;have hdp:=hX.dp_;have qI:=J (ew h.hN h.hB);have LR:=J (show QB x.k W L.length 7 s F low=[⟨1,x.b+4,-1,0⟩]++[⟨0,0,0,0⟩]from by rfl);have y1:al w (w.alloc (.cells (aN 7 s A F.len ec low high lA ln lc xA xn xc) 288)):=dM w _;have eY:=bN w 288 (aN 7 s A F.len ec low high lA ln lc xA xn xc);have DU:=h.ext y1;have wL:=hX.kt (KT.ext (B:=x.B) (wm:=x.wm) y1) h.hN h.hB;clear h hX hK;go_enter func260,ntmps260;go_upto_region 1 with(fail);generalize (w.alloc (.cells (aN 7 s A F.len ec low high lA ln lc xA xn xc) 288))=W1 at y1 eY DU wL⊢;generalize (w:World).heap.size=g at eY⊢;have⟨HB,HX,zY,HL,Y0,HS1⟩:=J6' eY wL DU hL (KT.refl x.B x.wm W1) (show x.B<=W1.heap.size from DU.hB);clear DU eY wL hL;have q0:=KT.block Y0.o HB.o ap ap;have i1:=bC q0;have i2:=q0.lt;obtain⟨_,_,_,m0,_⟩:=(zY.o).blk;have m1:=m0.lt;have m0:=bC m0;go_wp21;refine(qa x.B x.N x.mb x.wm x.sm x.em f x.p x.c x.b W (L) ⟨1,x.b+4,-1,0⟩ ⟨(fS (n:=1) ap),(by unfold br;show _<=x.b+4/\x.b+4<=_;omega),(fS (n:=-1) ap),(fS (n:=0) ap)⟩ ajv _ (zY.o)).mono ?_;rintro e w1 ⟨rfl,EP,jZ⟩;have⟨YK1,zq,alz⟩:=J3' ((Y0.o).trans jZ) EP jZ;clear EP jZ;go_wp21;refine(qa x.B x.N x.mb x.wm x.sm x.em f x.p x.c x.b W (L++[⟨1,x.b+4,-1,0⟩]) ⟨0,0,0,0⟩ ⟨(fS (n:=0) ap),(fS (n:=0) ap),(fS (n:=0) ap),(fS (n:=0) ap)⟩ ajv _ (zq.o)).mono ?_;rintro e w2 ⟨rfl,mB,eV⟩;have⟨YK2,zr,alA⟩:=J3' ((YK1.o).trans eV) mB eV;clear mB eV;go_wp21;go_end0;refine⟨rfl,?_,(KT.ext y1).trans YK2.o⟩;rw [LR.o];simp only [<-my];exact(zr.o)
theorem Kz (i:Int) (Vz:0<=i) (ma:i<=10) (L:List Ins) (w:World) (h:x.at w f W L) (hL:L.length<=4500):
 Calls prog 303 #[.pointer (some ⟨x.mb,0,none⟩),.int .i64 i] w λe w'=>e=.returned (.tuple #[])/\x.at w' f W (L++vP x.k i)/\KT x.B x.wm w w':=by
 obtain⟨h0,h1,h2,h3⟩:=hM;have hse:=h.prog.aL;have hso:=h.prog.An;rw [<-hse]at hso;have HSE:=J hse;have HSO:=J hso;have hwi:=wrap_i64 (n:=i+1) C8;have zY:=J h;have Y0:=J (KT.refl x.B x.wm w);clear h hse hso;go_enter func303,ntmps303;go_upto_region 0 with(fail);refine fH (λwz=>SM x f W w wz) [(0,2),(1,2),(2,2),(3,2),(5,2),(6,2),(8,2),(9,2),(10,2),(11,2),(12,1),(4,0),(7,0),(13,0)] ?_;refine fI ?_
 repeat first|refine cx ?_|refine de ⟨KT.ext fU,_,(zY.o).drew⟩ (by intro w1 hS;obtain⟨L',qO⟩:=hS.2;obtain⟨A',n',uB,jw,_⟩:=qO.blk;have d3:=bC jw;have d4:=jw.lt;exact fV) ?_|refine dc ⟨KT.ext fU,_,(zY.o).drew⟩ ?_
 have yd1:KT x.B x.wm w w.drew:=KT.ext (kR _ w).drew;have ZH:=J (zY.o).drew;refine au (λK hK=>?_);go_simp;go_wp21;refine aoT (nu x.B x.N x.mb x.wm x.sm x.em f x.p x.c x.b W (L) (i+1) _ (ZH.o) ⟨h0,by omega⟩ ⟨by omega,by omega⟩) ?_;refine hK.out _ _ (λ_=>⟨yd1,_,(ZH.o)⟩) ?_;clear hK K;refine tj ?_;intro K hK;go_wp21;refine aoT (nu x.B x.N x.mb x.wm x.sm x.em f x.p x.c x.b W (L) i _ (ZH.o) ⟨h0,by omega⟩ ⟨Vz,by omega⟩) ?_;refine hK.out _ _ (λ_=>⟨yd1,_,(ZH.o)⟩) ?_;clear hK K;refine tj ?_;intro K hK;go_wp21;refine(qa x.B x.N x.mb x.wm x.sm x.em f x.p x.c x.b W (L) ⟨18,fr x.b (i+1),fr x.b i,x.c.aL⟩ ⟨(fS (n:=18) ap),(Bp h0 h1 (i:=i+1) ad ad),(Bp h0 h1 (i:=i) Vz ad),HSO.o⟩ ajE _ (ZH.o)).mono ?_;rintro e w2 ⟨rfl,mB,eV⟩;have yk2:=(yd1).trans eV;have zr:=J mB;clear mB eV yd1;refine hK.out _ _ (λ_=>⟨yk2,_,(zr.o)⟩) ?_;clear hK K;refine fx ?_;have YR3:=J ((Y0.o).trans yk2);clear yk2;go_wp21;refine aoT (nu x.B x.N x.mb x.wm x.sm x.em f x.p x.c x.b W (L++[⟨18,fr x.b (i+1),fr x.b i,x.c.aL⟩]) i _ (zr.o) ⟨h0,by omega⟩ ⟨Vz,by omega⟩) ?_;go_wp21;refine aoT (nu x.B x.N x.mb x.wm x.sm x.em f x.p x.c x.b W (L++[⟨18,fr x.b (i+1),fr x.b i,x.c.aL⟩]) i _ (zr.o) ⟨h0,by omega⟩ ⟨Vz,by omega⟩) ?_;go_wp21;refine aoT (nu x.B x.N x.mb x.wm x.sm x.em f x.p x.c x.b W (L++[⟨18,fr x.b (i+1),fr x.b i,x.c.aL⟩]) (i+1) _ (zr.o) ⟨h0,by omega⟩ ⟨by omega,by omega⟩) ?_;go_wp21;refine(qa x.B x.N x.mb x.wm x.sm x.em f x.p x.c x.b W (L++[⟨18,fr x.b (i+1),fr x.b i,x.c.aL⟩]) ⟨5,fr x.b i,fr x.b i,fr x.b (i+1)⟩ ⟨(fS (n:=5) ap),(Bp h0 h1 (i:=i) Vz ad),(Bp h0 h1 (i:=i) Vz ad),(Bp h0 h1 (i:=i+1) ad ad)⟩ ajE _ (zr.o)).mono ?_;rintro e w4 ⟨rfl,D1,VG⟩;have⟨YK4,LW,aoe⟩:=J3' ((YR3.o).trans VG) D1 VG;clear D1 VG;go_wp21;go_end0;have hm:=LW.o;rw [HSE.o]at hm;refine⟨rfl,?_,YK4.o⟩;show MS _ _ _ _ _ _ _ _ _ _ _ _ (L++[_,_]);rw [show L++[(⟨18,fr x.b (i+1),fr x.b i,x.p.aL⟩:Ins),⟨5,fr x.b i,fr x.b i,fr x.b (i+1)⟩]=L++[⟨18,fr x.b (i+1),fr x.b i,x.p.aL⟩]++[⟨5,fr x.b i,fr x.b i,fr x.b (i+1)⟩]by simp];exact hm
theorem W_ (κ:Kn) (low high:Int) (s:Str) (A:Option Addr) (ec:Nat) (F:EF) (lA:Option Addr) (ln lc:Nat) (xA:Option Addr) (xn xc:Nat) (L:List Ins) (w:World) (h:x.at w f W L) (hX:Sx w x.N κ 9 s A F low high) (hL:L.length+(QB x.k W L.length 9 s F low).length<=4000):
 Calls prog 262 #[.pointer (some ⟨x.mb,0,none⟩),.agg (aN 9 s A F.len ec low high lA ln lc xA xn xc)] w λe w'=>e=.returned (.tuple #[])/\x.at w' f W (L++QB x.k W L.length 9 s F low)/\KT x.B x.wm w w':=by
 have hK:=(vg x f W hM κ F).2;obtain⟨h0,h1,h2,h3⟩:=hM;have hdp:=hX.dp_;have qI:=J (ew h.hN h.hB);have hw7:=wrap_i64 (n:=x.b+7) C8;have hl0:0<F.len:=by rw [hX.len];decide
 obtain⟨o0,n0,s0,K0,A0,c0,kb0,ko0,ka0,kl0,kh0,kg0,kx0,ke0,kc0⟩:=aeN hK hX.z hX.kids hX.OY (tw:=(0:Int)) ap ad (j:=0) hl0;simp only [Nat.zero_mul,eW]at kh0 kg0;have⟨KH0,KG0,KX0,KE0,KC0,KL0⟩:=J6' kh0 kg0 kx0 ke0 kc0 kl0;clear kh0 kg0 kx0 ke0 kc0 kl0;subst ka0;have aou:(0:Int)<F.len:=by omega
 have LR:=J (show QB x.k W L.length 9 s F low=cX x W o0 n0 s0 K0 0++vP x.k 0++[⟨2,x.b+7,fr x.b 0,0⟩]from by rw [<-KC0.o];rfl);have y1:al w (w.alloc (.cells (aN 9 s (some ⟨kb0,ko0,none⟩) F.len ec low high lA ln lc xA xn xc) 288)):=dM w _;have eY:=bN w 288 (aN 9 s (some ⟨kb0,ko0,none⟩) F.len ec low high lA ln lc xA xn xc);have DU:=h.ext y1;have wL:=hX.kt (KT.ext (B:=x.B) (wm:=x.wm) y1) h.hN h.hB;clear h hX hK;go_enter func262,ntmps262;go_upto_region 1 with(fail);generalize (w.alloc (.cells (aN 9 s (some ⟨kb0,ko0,none⟩) F.len ec low high lA ln lc xA xn xc) 288))=W1 at y1 eY DU wL⊢;generalize (w:World).heap.size=g at eY⊢;have⟨HB,HX,zY,HL,Y0,HS1⟩:=J6' eY wL DU hL (KT.refl x.B x.wm W1) (show x.B<=W1.heap.size from DU.hB);clear DU eY wL hL;have q0:=KT.block Y0.o HB.o ap ap;have i1:=bC q0;have i2:=q0.lt;obtain⟨_,_,_,m0,_⟩:=(zY.o).blk;have m1:=m0.lt;have m0:=bC m0;have u0:=Gs ((KT.ext y1).trans Y0.o) qI.o KL0.o KH0.o KG0.o;have u0a:=u0.1;have u0b:=u0.2.1;have u0c:=u0.2.2;clear u0;go_wp21;refine(KE0.o o0 n0 s0 A0 c0 0 (L) _ (zY.o) (KX0.o.kt ((KT.ext y1).trans Y0.o) qI.o.1 qI.o.2) afu).mono ?_;rintro e w1 ⟨rfl,EP,jZ⟩;have⟨YK1,zq,alz⟩:=J3' ((Y0.o).trans jZ) EP jZ;clear EP jZ u0a u0b u0c;go_wp21;refine(Kz x f W ⟨h0,h1,h2,h3⟩ 0 ap ap (L++cX x W o0 n0 s0 K0 0) _ (zq.o) afu).mono ?_;rintro e w2 ⟨rfl,mB,eV⟩;have⟨YK2,zr,alA⟩:=J3' ((YK1.o).trans eV) mB eV;clear mB eV q0 i1 i2 m0 m1;go_upto_region 3 with(fail);have HBr:=J (KT.block YK2.o HB.o ap ap);refine fH (λwz=>SM x f W w2 wz) [(0,2),(1,2),(2,2),(3,2),(4,1),(5,2),(6,2),(7,0),(8,0)] ?_;refine fI ?_
 repeat first|refine cx ?_|refine de ⟨KT.ext fU,_,(zr.o).drew⟩ zb3 ?_|refine dc ⟨KT.ext fU,_,(zr.o).drew⟩ ?_
 have yd3:KT x.B x.wm w2 w2.drew:=KT.ext (kR _ w2).drew;have MD3:=J (zr.o).drew;refine au (λK hK=>?_);go_simp;go_wp21;refine aoT (nu x.B x.N x.mb x.wm x.sm x.em f x.p x.c x.b W (L++cX x W o0 n0 s0 K0 0++vP x.k 0) 0 _ (MD3.o) ⟨h0,by omega⟩ ⟨by decide,by decide⟩) ?_;refine hK.out _ _ (λ_=>⟨yd3,_,(MD3.o)⟩) ?_;clear hK K;refine tj ?_;intro K hK;go_wp21;refine(qa x.B x.N x.mb x.wm x.sm x.em f x.p x.c x.b W (L++cX x W o0 n0 s0 K0 0++vP x.k 0) ⟨2,x.b+7,fr x.b 0,0⟩ ⟨(fS (n:=2) ap),(show br (x.b+7)from by unfold br;omega),(Bp h0 h1 (i:=0) ap ap),(fS (n:=0) ap)⟩ afu _ (MD3.o)).mono ?_;rintro e w4 ⟨rfl,D1,VG⟩;have yk4:=(yd3).trans VG;have LW:=J D1;clear D1 VG yd3;refine hK.out _ _ (λ_=>⟨yk4,_,(LW.o)⟩) ?_;clear hK K;refine fx ?_;have YR5:=J ((YK2.o).trans yk4);clear yk4 HBr;go_wp21;go_end0;refine⟨rfl,?_,(KT.ext y1).trans YR5.o⟩;rw [LR.o];simp only [<-my];exact(LW.o)
end
theorem jm.kt {w w':World} {B wm N:Nat} {A:Option Addr} {n:Nat} {F:SF} (h:jm w N A n F) (hk:KT B wm w w') (hN:N<=B) (hB:B<=w.heap.size):jm w' N A n F:=
 h.kept hk.below (ax hN hB) (λ_i q=>ax hN q)
def zS:SF->Prop| .nil=>True| .cons k _ e _ _ _ _ r=>(k=7∨k=9)/\zE e/\zS r
abbrev BkM (x:zw) (part:Nat) (F:SF):Prop:=∀(f:Nat) (W:Wd) (κ:Kn) (fy:Bool) (A:Option Addr) (cap:Nat) (L:List Ins) (w:World),ZI x W->zS F->(∀s,κ s=0->W s=0)->f<=8->x.at w f W L->jm w x.N A F.len F->cH part κ f fy F=none->F.size<=1099511627776->L.length+(cB x.k F W f L.length).length<=4000->
 Calls prog 207 #[.pointer (some ⟨x.mb,0,none⟩),.slice A F.len cap] w λe w'=>e=.returned (.tuple #[])/\x.at w' f W (L++cB x.k F W f L.length)/\KT x.B x.wm w w'
theorem BI {c:Bool} {A B:Prop} (hc:c=true) (h:A):if c=true then A else B:=by rw [ak hc];exact h
theorem On {P:Program} (w:World) {o:Oper} {a:Act} {K:Act->World->Prop} {Q:Exit->Act->World->Prop} (T:TypeId) (m k x:Operand)
 (ho:o.op=.mapUpdate T m k x) (_hd:o.dst=none) {vm vk vx:Value} {w':World} (hm:a.eval m=vm) (hk:a.eval k=vk) (hx:a.eval x=vx)
 (hr:(Instr.mapUpdate T vm vk vx).run P w=.ok () w') (h:K (a.put o.dst undef) w'):o.wp P a w K Q:=by
 unfold Oper.wp execOp;simp only [ho,Sem.run_bind,Sem.run_pure,Result.andThen_ok,hm,hk,hx,hr,Oper.upon];exact h
section
variable {w w1:World} {B N mb wm sm em f:Nat} {p:Pr} {c:Pc} {b:Int} {W:Wd} {L:List Ins}
theorem MS.aO (h:MS w B N mb p c b wm sm em f W L) (f':Nat):MS (w.setCell ⟨mb,14,none⟩ (.int .i64 f')) B N mb p c b wm sm em f' W L/\KT B wm w (w.setCell ⟨mb,14,none⟩ (.int .i64 f')):=by
 obtain⟨A,n,cp,hb,ho⟩:=h.blk;have kS:Kept (·=mb) w (w.setCell ⟨mb,14,none⟩ (.int .i64 f')):=Kept.setCell (kR _ w) _ _ (λ_=>rfl)
 have Dq:∀g es clock,w.heap[g]?=some (.map es clock)->¬g=mb:=λg es clock e q=>by
  subst q;rw [show w.heap[g]?=_ from hb]at e
  cases e
 have kk:KT B wm w (w.setCell ⟨mb,14,none⟩ (.int .i64 f')):=KT.acI hb h.mbB kS;refine⟨⟨⟨A,n,cp,by simpa using ai.eK hb 14 (.int .i64 f'),cU ho kS (λg hg q=>by subst q;exact dl ho (E':=303) ap g hg _ _ hb)⟩,h.prog.kept kk.below (ax h.hN h.hB) (λi q=>ax h.hN q),?_,?_,?_,h.hN,ax h.hB kk.size,h.mbB,h.wmB,h.okL⟩,kk⟩
 .obtain⟨F,h3,h4⟩:=h.words
  obtain⟨es,clock,he,r⟩:=h3;exact⟨F,dy.kept (f:=F) ⟨es,clock,he,r⟩ kS (Dq _ _ _ he),h4⟩
 .obtain⟨es,clock,he,r⟩:=h.Oa
  exact df.kept (f:=yO) ⟨es,clock,he,r⟩ kS (Dq _ _ _ he)
 .obtain⟨es,clock,he,r⟩:=h.SV
  exact df.kept (f:=qz) ⟨es,clock,he,r⟩ kS (Dq _ _ _ he)
theorem dy.PL {g g':Nat} {F:ByteArray->Option Value} {G:Int->Option Value} (h:dy w g F) (h':df w g' G) {v:Value} (hv:G 0=some v):¬g'=g:=λe=>by
 subst e;obtain⟨es,clock,hb,hk,_⟩:=h;obtain⟨es',amc,jw,_,_,hm⟩:=h';rw [hb]at jw;injection jw with jw;injection jw with e1 e2;subst e1;obtain⟨y,hy,hky,_⟩:=(hm 0 v).1 hv;have:=hk y hy;rw [hky]at this;simp [MapKept.IsKey]at this
theorem MS.word (h:MS w B N mb p c b wm sm em f W L) (hk:Kept (·=wm) w w1) {F':ByteArray->Option Value} (hm:dy w1 wm F') {W':Wd} (hF:∀s,(F' s).getD (.int .i64 0)=.int .i64 (W' s)):
 MS w1 B N mb p c b wm sm em f W' L/\KT B wm w w1:=by
 obtain⟨A,n,cp,hb,ho⟩:=h.blk;obtain⟨F,h3,h4⟩:=h.words;have h3':=h3;obtain⟨es,clock,he,r⟩:=h3';have kk:KT B wm w w1:=KT.of_map he h.wmB hk;refine⟨⟨⟨A,n,cp,bK hb hk (λq=>?_),cU ho hk (λg hg q=>?_)⟩,h.prog.kept kk.below (ax h.hN h.hB) (λi q=>ax h.hN q),⟨F',hm,hF⟩,h.Oa.kept hk (h3.PL h.Oa (v:=.func (.func 253) #[] #[]) rfl),h.SV.kept hk (h3.PL h.SV (v:=.func (.func 263) #[] #[]) rfl),h.hN,ax h.hB kk.size,h.mbB,h.wmB,h.okL⟩,kk⟩
 .subst q
  rw [show w.heap[mb]?=_ from hb]at he
  cases he
 .subst q
  obtain⟨cV,e'⟩:=GQ ho hg;rw [he]at e'
  cases e'
end
variable{κ:Kn}{lA xA:Option Addr}{fi:SF}
theorem H_ (W:Wd) (s:Str) (v:Int) (F:ByteArray->Option Value) (hF:∀t,(F t).getD (.int .i64 0)=.int .i64 (W t)):∀t,((λt=>if t=s then some (.int .i64 v)else F t) t).getD (.int .i64 0)=.int .i64 (lX W s v t):=by
 intro t
 by_cases e:t=s
 .subst e;simp [lX]
 .have:=hF t
  simp only [lX,af e,this]
structure StX (x:zw) (w:World) (part f:Nat) (κ:Kn) (kind low high:Int) (s:Str) (A:Option Addr) (F:EF) (lA:Option Addr) (l:SF) (xA:Option Addr) (fi:SF):Prop where
 sx:Sx w x.N κ kind s A F low high
 hl:jm w x.N lA l.len l
 hx:jm w x.N xA fi.len fi
 il:BkM x part l
 ix:BkM x part fi
 c2:kind=2->cH part κ f false l=none/\cH part κ f false fi=none
 c3:kind=3->κ s=0/\(-2147483648<=low/\low<=2147483647)/\(-2147483648<=high/\high<=2147483647)/\f<8/\cH part (pM κ s 3) (f+1) false l=none
 zl:l.size<=1099511627776
 zx:fi.size<=1099511627776
theorem StX.kt {x:zw} {w w':World} {part f:Nat} {kind low high:Int} {s:Str} {A:Option Addr} {F:EF} {l:SF} {B wm:Nat} (h:StX x w part f κ kind low high s A F lA l xA fi) (hk:KT B wm w w') (hN:x.N<=B) (hB:B<=w.heap.size):StX x w' part f κ kind low high s A F lA l xA fi:=
 ⟨h.sx.kt hk hN hB,h.hl.kt hk hN hB,h.hx.kt hk hN hB,h.il,h.ix,h.c2,h.c3,h.zl,h.zx⟩
theorem aff {x:zw} {w:World} {part f:Nat} {last:Bool} {kind low high:Int} {s:Str} {F:EF} {l:SF} {A:Option Addr} {be oe bl ol bx ox:Nat} (hc:oG part κ f last kind s F low high l fi=none) (hz:1+F.size+l.size+fi.size<=1099511627776)
 (i2:br low) (i3:br high) (i4:s.size<=maxLen) (n1:Fits F.len 56) (n2:Fits l.len 112) (n3:Fits fi.len 112) (a1:0<F.len->A=some ⟨be,oe,none⟩) (a2:0<l.len->lA=some ⟨bl,ol,none⟩) (a3:0<fi.len->xA=some ⟨bx,ox,none⟩) (he:mc w x.N F be oe) (hl:nk w x.N l bl ol) (hx:nk w x.N fi bx ox)
 (il:BkM x part l) (ix:BkM x part fi) (hz2:zE F):(0<=kind/\kind<=9)/\StX x w part f κ kind low high s A F lA l xA fi:=by
 unfold oG at hc;rw [ay,ay,ay,ay,dt,gR]at hc;obtain⟨⟨q1,q2⟩,-,q3,q4,q5⟩:=hc;have e:=Mh q4 ad;refine⟨by simpa [iL]using q1,⟨⟨i2,i3,i4,⟨rfl,n1,be,oe,a1,he⟩,by simpa using q2,e.1,e.2,hz2⟩,⟨rfl,n2,bl,ol,a2,hl⟩,⟨rfl,n3,bx,ox,a3,hx⟩,il,ix,λh=>?_,λh=>?_,by omega,by omega⟩⟩
 .rw [ak h,ay]at q5
  exact q5
 .subst h
  rw [af ap,ak rfl]at q5;unfold named at q3;rw [af ap,ak rfl]at q3;unfold loop at q3;rw [ay,ay,ay,dt,dt,dt,dt]at q3;obtain⟨-,r1,r2,r3⟩:=q3;simp only [word,gR,jP]at r2 r3;exact⟨by simpa using r1,r2.1.1,r2.1.2,r3,q5⟩
theorem EZ {w:World} {g:Nat} (h:df w g yO) (op:Int) {fv:Value} (hf:(yO op).getD .nilFunc=fv):(Instr.lookup 298 (.map (some g)) (.int .i64 op) false).run prog w=.ok fv w:=by
 have su:=df.look (P:=prog) h underlying298 underlying3 (z:=.nilFunc) (λw=>by kernel_rfl) op;rw [su,hf]
theorem adL (x:zw) (part f:Nat) (W:Wd) (hM:ZI x W) (κ:Kn) (_alY:∀s,κ s=0->W s=0) (_f8:f<=8) (low high:Int) (s:Str) (A:Option Addr) (ec:Nat) (F:EF) (lA:Option Addr) (lc:Nat) (l:SF) (xA:Option Addr) (xc:Nat) (fi:SF) (L:List Ins) (w:World) (h:x.at w f W L) (hX:StX x w part f κ 7 low high s A F lA l xA fi) (hL:L.length+(cS x.k W f L.length 7 s F low high l fi).length<=4000):
 Calls prog 260 #[.pointer (some ⟨x.mb,0,none⟩),.agg (aN 7 s A F.len ec low high lA l.len lc xA fi.len xc)] w λe w'=>e=.returned (.tuple #[])/\x.at w' f W (L++cS x.k W f L.length 7 s F low high l fi)/\KT x.B x.wm w w':=by
 have e:cS x.k W f L.length 7 s F low high l fi=QB x.k W L.length 7 s F low:=by unfold cS;rw [af ap,af ap]
 rw [e]at hL⊢;exact WM x f W hM κ low high s A ec F lA l.len lc xA fi.len xc L w h hX.sx hL
theorem adM (x:zw) (part f:Nat) (W:Wd) (hM:ZI x W) (κ:Kn) (_alY:∀s,κ s=0->W s=0) (_f8:f<=8) (low high:Int) (s:Str) (A:Option Addr) (ec:Nat) (F:EF) (lA:Option Addr) (lc:Nat) (l:SF) (xA:Option Addr) (xc:Nat) (fi:SF) (L:List Ins) (w:World) (h:x.at w f W L) (hX:StX x w part f κ 9 low high s A F lA l xA fi) (hL:L.length+(cS x.k W f L.length 9 s F low high l fi).length<=4000):
 Calls prog 262 #[.pointer (some ⟨x.mb,0,none⟩),.agg (aN 9 s A F.len ec low high lA l.len lc xA fi.len xc)] w λe w'=>e=.returned (.tuple #[])/\x.at w' f W (L++cS x.k W f L.length 9 s F low high l fi)/\KT x.B x.wm w w':=by
 have e:cS x.k W f L.length 9 s F low high l fi=QB x.k W L.length 9 s F low:=by unfold cS;rw [af ap,af ap]
 rw [e]at hL⊢;exact W_ x f W hM κ low high s A ec F lA l.len lc xA fi.len xc L w h hX.sx hL
theorem Nh (x:zw) (part:Nat) (F:SF):BkM x part F:=by
 refine qh (C:=BkM x part) ?_ F;clear F;intro F IH f W κ fy A cap L w hM hzs hWz f8 h oh hc hz hL;obtain⟨-,hf,b,off,hA,hE⟩:=oh;have hm:=hf.max ad;have⟨HA,HE,HI,HMk,L_⟩:=J5' hA hE IH hM hzs;clear hzs;have⟨HWz,HH,HC,HZ,HL,Tw,qI⟩:=J7' hWz h hc hz hL f8 (ew h.hN h.hB);obtain⟨CD,hCD⟩:=nm' (cB x.k F W f L.length);have Yp:=J hCD;obtain⟨n,hn⟩:=nm' F.len;have HN:=J hn;rw [<-hCD,<-hn];rw [<-hn]at hm;clear hf hA hE IH hM hWz h hc hz hL f8 hCD hn;go_enter func207,ntmps207;go_wp21
 go_loopw [8] (λt8 wr=>∃(m:Nat) (R:SF) (Lm:List Ins),m+R.len=n/\cH part κ f fy R=none/\R.size<=1099511627776/\zS R/\t8=.int .i64 m/\nk w x.N R b (off+m*7)/\SF.wG (BkM x part) R/\x.at wr f W Lm/\L++CD=Lm++cB x.k R W f Lm.length/\KT x.B x.wm w wr) (λt8 _=>n - (intOf t8).toNat)
 case atStart=>exact⟨0,F,L,by rw [HN.o,dT],HC.o,HZ.o,L_.o,rfl,by simpa using HE.o,HI.o,HH.o,by rw [Yp.o],KT.refl _ _ _⟩
 case round=>
  obtain⟨m,R,Lm,qO,tZ,hzr,hzq,rfl,hR,hall,l7,Pb,Ae⟩:=hrel;have⟨mv,IB,DC,fW,HCO,Zm,HZR,HZQ⟩:=J8' hR l7 tZ hall Pb Ae hzr hzq;clear hzq hR l7 tZ hall Pb Ae hzr
  cases R with
  |nil=>
   simp only [SF.len,eW]at qO;subst qO;go_wp21;go_end0;refine⟨rfl,?_,Zm.o⟩;rw [HCO.o,show cB x.k .nil W f Lm.length=[]from rfl,List.append_nil];exact IB.o
  |cons kind name es low high l fi r=>
   obtain⟨hb,h1,h2,h3,h4,⟨eA,ec,lA,lc,xA,xc,be,oe,bl,ol,bx,ox,hh,hg,n1,n2,n3,a1,a2,a3,he,hl,zL⟩,hr⟩:=mv.o;simp only [SF.len]at qO;have aP:(m:Int)<n:=by omega
   obtain rfl:=HA.o Te;have xi:=DC.o;rw [kT,ay]at xi;have hzc:=HZR.o;simp only [SF.size]at hzc;obtain⟨ahJ,dw⟩:=aff (x:=x) (w:=w) xi.1 ad h2 h3 h4 n1 n2 n3 a1 a2 a3 he hl zL fW.o.1 fW.o.2.1 HZQ.o.2.1;have HZK:=J HZQ.o.2.2;have Gi:=HZQ.o.1;have⟨qT,qQ,ZE,HRN,OB⟩:=J5' (dw.kt Zm.o qI.o.1 qI.o.2) xi.2 (show r.size<=1099511627776 by omega) hr fW.o.2.2;have u:=Gs Zm.o qI.o hb hh hg;have u1:=u.1;have u2:=u.2.1;have u3:=u.2.2;have yf:=HCO.o;rw [FV,<-my]at yf;obtain⟨SC,hSC⟩:=nm' (cS x.k W f Lm.length kind name es low high l fi);rw [<-hSC]at yf;have HSC:=J hSC;have zU:=J (show L++CD=Lm++SC++cB x.k r W f ((Lm++SC).length:Nat)from by rw [dn];exact yf)
   have HLC:=J (show Lm.length+SC.length<=4000 from by
    have e:=congrArg List.length yf;have:=HL.o;rw [<-Yp.o]at this;simp only [dn]at e
    omega)
   clear u xi hzc dw yf hSC hh hg n1 n2 n3 a1 a2 a3 he hl zL hb h1 h2 h3 h4 hr mv DC HZR fW HCO ahJ
   rcases Gi with rfl|rfl
   .skip
    have y0:=dY wr (.cells (aN 7 name eA es.len ec low high lA l.len lc xA fi.len xc) 288);have eY:=bN wr 288 (aN 7 name eA es.len ec low high lA l.len lc xA fi.len xc);go_upto_region 3 with(fail);generalize (wr.alloc (.cells (aN 7 name eA es.len ec low high lA l.len lc xA fi.len xc) 288))=W1 at y0 eY⊢;generalize wr.heap.size=g at eY⊢;have⟨HB,zq,ji,cC⟩:=J4' eY (IB.o.ext y0) (qT.o.kt (KT.ext (B:=x.B) (wm:=x.wm) y0) IB.o.hN IB.o.hB) (KT.ext (B:=x.B) (wm:=x.wm) y0);clear y0 eY u1 u2 u3;refine fH (λwz=>SM x f W W1 wz) [(0,2),(1,2),(2,2),(3,1),(4,2),(5,1),(6,1),(7,2),(8,1),(9,0)] ?_;refine fI ?_
    repeat first|refine cx ?_|refine de ⟨KT.ext fU,_,(zq.o).drew⟩ (by intro w1 hS;have d0:=KT.block hS.1 (HB.o) ap ap;have d1:=bC d0;have d2:=d0.lt;obtain⟨L',qO⟩:=hS.2;obtain⟨A',n',uB,jw,_⟩:=qO.blk;have d3:=bC jw;have d4:=jw.lt;have d5:=EZ qO.Oa 7 (fv:=.func (.func 260) #[] #[]) rfl;have d6:=bH d0;have d7:=bG d0;exact fV) ?_|refine dc ⟨KT.ext fU,_,(zq.o).drew⟩ ?_
    have yd:KT x.B x.wm W1 W1.drew:=KT.ext (kR _ W1).drew;refine au (λK hK=>?_);go_simp;go_wp21;refine(adL x part f W HMk.o κ HWz.o Tw.o low high name eA ec es lA lc l xA xc fi Lm _ (zq.o).drew (ji.o.kt yd zq.o.hN zq.o.hB) (by rw [<-HSC.o];exact HLC.o)).mono ?_;exact akB
   .skip
    have y0:=dY wr (.cells (aN 9 name eA es.len ec low high lA l.len lc xA fi.len xc) 288);have eY:=bN wr 288 (aN 9 name eA es.len ec low high lA l.len lc xA fi.len xc);go_upto_region 3 with(fail);generalize (wr.alloc (.cells (aN 9 name eA es.len ec low high lA l.len lc xA fi.len xc) 288))=W1 at y0 eY⊢;generalize wr.heap.size=g at eY⊢;have⟨HB,zq,ji,cC⟩:=J4' eY (IB.o.ext y0) (qT.o.kt (KT.ext (B:=x.B) (wm:=x.wm) y0) IB.o.hN IB.o.hB) (KT.ext (B:=x.B) (wm:=x.wm) y0);clear y0 eY u1 u2 u3;refine fH (λwz=>SM x f W W1 wz) [(0,2),(1,2),(2,2),(3,1),(4,2),(5,1),(6,1),(7,2),(8,1),(9,0)] ?_;refine fI ?_
    repeat first|refine cx ?_|refine de ⟨KT.ext fU,_,(zq.o).drew⟩ (by intro w1 hS;have d0:=KT.block hS.1 (HB.o) ap ap;have d1:=bC d0;have d2:=d0.lt;obtain⟨L',qO⟩:=hS.2;obtain⟨A',n',uB,jw,_⟩:=qO.blk;have d3:=bC jw;have d4:=jw.lt;have d5:=EZ qO.Oa 9 (fv:=.func (.func 262) #[] #[]) rfl;have d6:=bH d0;have d7:=bG d0;exact fV) ?_|refine dc ⟨KT.ext fU,_,(zq.o).drew⟩ ?_
    have yd:KT x.B x.wm W1 W1.drew:=KT.ext (kR _ W1).drew;refine au (λK hK=>?_);go_simp;go_wp21;refine(adM x part f W HMk.o κ HWz.o Tw.o low high name eA ec es lA lc l xA xc fi Lm _ (zq.o).drew (ji.o.kt yd zq.o.hN zq.o.hB) (by rw [<-HSC.o];exact HLC.o)).mono ?_;exact akB

