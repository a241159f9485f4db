import Derived.Test.YtnhelcmddjbafaaGreatDoorTaah
set_option maxHeartbeats 4000000
set_option maxRecDepth 100000
open Go.Proofs.Tryz
namespace Go.Proofs.YtnhelcmddjbafaaGreatDoor
open Go.RowKit
namespace Mc
theorem Rq {m:List Int} (h:∀z∈m,ax z) (k:Nat):ax (m.getD k 0):=by
 by_cases hk:k<m.length
 .simp [hk];exact h _ (cK hk)
 .simp [hk];unfold ax;omega
theorem Zr {i:Ins} (h:iL i.op=true):∃k:Nat,k<22/\i.op=k:=by
 simp [iL]at h;exact⟨i.op.toNat,by omega,by omega⟩
theorem acB {m} {x v} (hm:∀z∈m,ax z) (hv:ax v):∀z∈fp m x v,ax z:=λz hz=>by
 rcases List.mem_or_eq_of_mem_set hz with h|h
 .exact hm z h
 .rw [h];exact hv
theorem sZ {m} {x} (hm:∀z∈m,ax z):ax (cW m x):=Rq hm _
theorem xE (b:Bool):ax (cT b):=by cases b<;>simp [cT,ax]
theorem tM (x:Int):ax (IntKind.i32.wrap x):=by
 unfold ax;simp only [IntKind.wrap,IntKind.signed,IntKind.bits];simp
 omega
theorem ahu (k) {b c} (hb:ax b) (_Ew:ax c):ax (gR k b c):=by
 have h0:ax 0:=by unfold ax;omega
 unfold gR
 split
 .exact tM _
 .exact tM _
 .exact tM _
 .split
  .exact h0
  .exact tM _
 .split
  .exact h0
  .unfold ax at hb⊢
   rename_i hc0;have h2:(b.tmod c).natAbs<=b.natAbs:=by rw [Int.natAbs_tmod];exact Nat.mod_le _ _
   rcases Int.lt_or_le b 0 with hn|hn
   .have:=Int.tmod_nonneg (a:=-b) c ad;rw [Int.neg_tmod]at this;omega
   .have:=Int.tmod_nonneg c hn;omega
 all_goals exact xE _
structure kr (pc halt:Int) (m:List Int):Prop where
 right:dj pc halt m.length=true
 Dd:∀z∈m,ax z
theorem kr.mk' {pc halt} {m} (k:Nat) (hk:k=m.length) (h1:1<=k) (h2:k<=256) (p0:0<=pc) (p1:pc<=2048) (a0:0<=halt) (a1:halt<=2) (hm:∀z∈m,ax z):kr pc halt m:=
 ⟨by subst hk;simp [dj];omega,hm⟩
theorem I7 (m) (x v:Int):(fp m x v).length=m.length:=by simp [fp]
theorem TA {i} {pc} {n:Nat} {m:List Int} (hr:aW i n m.length=true) (hn:n<=2048) (h:kr pc 0 m) (hp:pc<n):kr (bt i pc m).1 (bt i pc m).2.1 (bt i pc m).2.2/\(bt i pc m).2.2.length=m.length:=by
 obtain⟨h1,h2,h3,h4,_,_⟩:=bU h.right;obtain⟨o0,o1,ha,hb,hc,he⟩:=gK hr;obtain⟨k,hk,nN⟩:=Zr (i:=i) (by simp [iL];omega);have hnn:i.op.toNat=k:=by omega
 rw [hnn]at ha hb hc
 have put:∀(x v:Int),ax v->kr (pc+1) 0 (fp m x v)/\(fp m x v).length=m.length:=λx v hv=>
  ⟨kr.mk' m.length (I7 m x v).symm h1 h2 ad ad ad ad (acB h.Dd hv),I7 m x v⟩
 have go:∀q:Int,0<=q->q<=2048->kr q 0 m/\m.length=m.length:=λq q0 q1=>⟨kr.mk' m.length rfl h1 h2 q0 q1 ad ad h.Dd,rfl⟩;obtain⟨r,hx⟩:∃r,bt i pc m=r:=⟨_,rfl⟩;rw [hx]
 delta bt at hx
 by_cases e0:i.op=0
 .rw [av e0]at hx
  subst hx;simp [iD,e0]at he;exact⟨kr.mk' m.length rfl h1 h2 h3 h4 (by simp only;omega) (by simp only;omega) h.Dd,rfl⟩
 rw [af e0]at hx
 by_cases e1:i.op=1
 .rw [av e1]at hx
  subst hx;have ek:k=1:=by omega
  subst ek;exact put _ _ (zZ (k:=1) rfl hb)
 rw [af e1]at hx
 by_cases e2:i.op=2
 .rw [av e2]at hx
  subst hx;exact put _ _ (sZ h.Dd)
 rw [af e2]at hx
 by_cases e14:i.op=14
 .rw [av e14]at hx
  subst hx;exact put _ _ (xE _)
 rw [af e14]at hx
 by_cases e15:i.op=15
 .rw [av e15]at hx
  subst hx;exact put _ _ (sZ h.Dd)
 rw [af e15]at hx
 by_cases e16:i.op=16
 .rw [av e16]at hx
  subst hx;exact put _ _ (sZ h.Dd)
 rw [af e16]at hx
 by_cases VY:i.op=17
 .rw [av VY]at hx
  subst hx;have ek:k=17:=by omega
  subst ek;have q0:=zZ (k:=1) rfl hb;have q1:=zZ (k:=2) rfl hc;have q2:=sZ (x:=i.a) h.Dd;refine put _ _ ?_;unfold ax at q2⊢
  omega
 rw [af VY]at hx
 by_cases XM:i.op=18
 .rw [av XM]at hx
  subst hx;exact put _ _ (xE _)
 rw [af XM]at hx
 by_cases e19:i.op=19
 .rw [av e19]at hx
  subst hx;have ek:k=19:=by omega
  subst ek;have q0:=GH (k:=0) rfl ha;exact go _ ad ad
 rw [af e19]at hx
 by_cases e20:i.op=20
 .rw [av e20]at hx
  subst hx;have ek:k=20:=by omega
  subst ek;have q0:=GH (k:=0) rfl ha
  by_cases ez:cW m i.b=0
  .rw [av ez];exact go _ ad ad
  .rw [af ez];exact go _ ad ad
 rw [af e20]at hx
 by_cases e21:i.op=21
 .rw [av e21]at hx
  subst hx;have ek:k=21:=by omega
  subst ek;have q0:=GH (k:=0) rfl ha
  by_cases ez:cW m i.b=0
  .rw [av ez];exact go _ ad ad
  .rw [af ez];exact go _ ad ad
 rw [af e21]at hx;subst hx;exact put _ _ (ahu _ (sZ h.Dd) (sZ h.Dd))
theorem G2 {c} {pc} {m} (hc:c.length<=2048) (h:kr pc 0 m):kr (gT c pc m).1 (gT c pc m).2.1 (gT c pc m).2.2/\(gT c pc m).2.2.length=m.length:=by
 obtain⟨h1,h2,h3,h4,_,_⟩:=bU h.right;have no:kr pc 2 m/\m.length=m.length:=⟨kr.mk' m.length rfl h1 h2 h3 h4 ad ad h.Dd,rfl⟩;unfold gT
 cases hn:da c pc m.length with
 |none=>exact no
 |some i=>
  simp only
  split
  .exact no
  .refine TA (oG hn) hc h ?_
   unfold da at hn
   split at hn
   .rename_i hg
    have:=(List.getElem?_eq_some_iff.1 hg).1
    omega
   .cases hn
theorem DH {c} {pc halt} {m} (hc:c.length<=2048) (h:kr pc halt m):kr (jO c pc halt m).1 (jO c pc halt m).2.1 (jO c pc halt m).2.2/\(jO c pc halt m).2.2.length=m.length:=by
 unfold jO
 by_cases h0:halt=0
 .rw [av h0];subst h0;exact G2 hc h
 .rw [af h0];exact⟨h,rfl⟩
def ky (c:List Ins):Nat->Int×Int×List Int->Int×Int×List Int
 |0,s=>s
 |n+1,s=>ky c n (if s.2.1=0 then gT c s.1 s.2.2 else s)
theorem IE (c:List Ins):∀(a b:Nat) (s:Int×Int×List Int),ky c (a+b) s=ky c b (ky c a s)
 |0,b,s=>by rw [dU];rfl
 |a+1,b,s=>by rw [show a+1+b=(a+b)+1 by omega];exact IE c a b _
theorem Lh (c:List Ins) (s:Int×Int×List Int) (h:¬s.2.1=0):∀n,ky c n s=s
 |0=>rfl
 |n+1=>by rw [ky,af h];exact Lh c s h n
theorem C4 (c) (n) (s:Int×Int×List Int):ky c (n+1) s=if (ky c n s).2.1=0 then gT c (ky c n s).1 (ky c n s).2.2 else ky c n s:=by
 rw [IE];rfl
theorem C3 {c:List Ins} (hc:c.length<=2048) {s:Int×Int×List Int} (h:kr s.1 s.2.1 s.2.2):∀n,kr (ky c n s).1 (ky c n s).2.1 (ky c n s).2.2/\(ky c n s).2.2.length=s.2.2.length
 |0=>⟨h,rfl⟩
 |n+1=>by
  obtain⟨h1,h2⟩:=C3 hc h n;obtain⟨h3,h4⟩:=DH hc h1;rw [C4];unfold jO at h3 h4
  split at h3
  .rename_i q
   rw [av q]at h4⊢;exact⟨h3,h4.trans h2⟩
  .rename_i q
   rw [af q];exact⟨h1,h2⟩
theorem Jp (A) (b off cn cap) (c) (pc halt) (b' bR n eD) (m) (most:Nat) (aqN:most<=1048576) (w:World) (h:lm w A b off cn c b' bR n pc halt m):
 Calls prog 50 #[.slice A cn cap,.agg (ai pc (some ⟨b',bR,none⟩) n eD halt),.int .i64 most] w λe w'=>∃(v:Value) (k:Nat),e=.returned (.tuple #[v,.int .i64 k,.bool (!((ky c most (pc,halt,m)).2.1==0))])/\k<=most/\J2 w w' v n (ky c most (pc,halt,m)).1 (ky c most (pc,halt,m)).2.1 (ky c most (pc,halt,m)).2.2:=by
 obtain⟨eN,tf,aG,tg,jD,hn,hg,iB,CV⟩:=h;obtain⟨h1,h2,h3,h4,h5,h6⟩:=bU hg;have⟨oN,JT,my,HA,HR,rv,HN,HG,HO⟩:=J9' (show kr (pc,halt,m).1 (pc,halt,m).2.1 (pc,halt,m).2.2 from⟨by rw [<-hn];exact hg,iB⟩) (show c.length<=2048 by omega) eN tf aG tg hn hg iB;clear eN tf aG tg hn hg iB;refine amD ?_;clear CV;intro aK hA0 fU zT;go_wp21;refine(lE pc halt b' bR eD m n HN.o h1 ad _ zT).mono ?_;rintro e w1 ⟨v1,rfl,g,kc,rfl,eT,aB⟩;have pd:=bX hA0 aB;have gW:=bX fU aB;have lA:=hA0.lt;have lR:=fU.lt;have hgb:=eT.ge;have KU:=bH pd;have Nd:=aj.aJ pd;have vC:aj (putAt w1 w.heap.size 0 (ai pc (some ⟨g,0,none⟩) n kc halt)) w.heap.size 47 (ai pc (some ⟨g,0,none⟩) n kc halt):=aj.cI pd _ _;have nL:=aj.DA gW (show w.heap.size+1≠w.heap.size by omega) 0 (ai pc (some ⟨g,0,none⟩) n kc halt);refine aeE ?_;intro eE;have y2:al w (putAt w1 w.heap.size 0 (ai pc (some ⟨g,0,none⟩) n kc halt)):=Kept.putAt (aK.trans aB) _ _ _ (λh=>by omega);go_upto_region 2 with(fail);clear hA0 fU pd gW eT KU Nd aK zT;generalize (putAt w1 w.heap.size 0 (ai pc (some ⟨g,0,none⟩) n kc halt))=W2 at vC nL eE y2⊢;have i1:=bH vC;have i2:=bG vC;go_wp21;refine kU (fM pc halt (some ⟨g,0,none⟩) n kc _) λw3 ea=>?_;rw [HG.o];have M':=bX vC ea;have oY:=bX nL ea;have vE:=eE.ext ea;have y3:=y2.trans ea;clear vC nL eE y2 ea i1 i2;go_wp21;refine(Mn _).mono ?_;rintro e w4 ⟨rfl,hQ4,eV⟩;have hA4:=bX M' eV;have KN:=bX oY eV;have hM4:=vE.ext eV;have y4:=y3.trans eV;have lg:=vE.lt;clear M' oY vE y3 eV;generalize w3.heap.size=q at hQ4 lg⊢;have Ey:¬w.heap.size=g:=by omega
 go_wp21
 go_loopw [10] (λt10 wr=>∃(k:Nat),t10=.int .i64 k/\k<=most/\oQ wr w.heap.size 47 (ky c k (pc,halt,m)).1 (some ⟨g,0,none⟩) n kc (ky c k (pc,halt,m)).2.1/\eo wr w.heap.size g n kc (ky c k (pc,halt,m)).2.2/\Kept (λi=>i=w.heap.size∨i=g) w4 wr) (λt10 _=>most - (intOf t10).toNat)
 case atStart=>exact⟨0,rfl,de _,hA4,hM4,kR _ _⟩
 case round=>
  obtain⟨k,rfl,hk,hA,hM,hK4⟩:=hrel;have Rv:=bK KN hK4 ad;have yr:al w wr:=y4.trans' hK4 (λi hi e=>by omega);obtain⟨hok,hlen⟩:=C3 JT.o (s:=(pc,halt,m)) oN.o k;have RN:=C4 c k (pc,halt,m);obtain⟨r,hr⟩:=nm' (ky c k (pc,halt,m));rw [<-hr]at hA hM hok hlen RN;have qd:=J hr;clear hr;obtain⟨fh,aN,m'⟩:=r;simp only at hA hM hok hlen RN;have⟨yg,aiH,aiT⟩:=J3' hlen hok RN;clear hok hlen RN
  by_cases JL:k<most/\aN=0
  .obtain⟨aX,rfl⟩:=JL
   obtain⟨_,_,p0,p1,_,_⟩:=bU aiH.o.right
   have yI:dG wr w.heap.size w.heap.size g n kc q A b off cn c fh m':=
    ⟨HN.o.trans yg.o.symm,h1,h2,aiH.o.Dd,my.o.ext yr,hA,hM,hQ4.kept hK4 ad,HA.o,λh0=>(HR.o h0).ext yr,rv.o,jD,p0,p1,Ey⟩
   have Hz:=J yI;clear yI;have tf:=bC hA;have iI:(k:Int)<min (most:Int) 1048576:=by omega
   go_wp21;refine kU (L7 wr w.heap.size w.heap.size g n kc q A b off cn cap c fh m' Hz.o) λw5 T8=>?_;have e1:gT c fh m'=ky c (k+1) (pc,halt,m):=by rw [aiT.o];simp
   rw [e1]at T8;have tQ:=J T8;clear T8 e1;go_wp21;go_roundw
   case rel=>exact⟨k+1,by go_num,aX,tQ.o.st,tQ.o.mem,hK4.trans tQ.o.kept⟩
   case measure=>simp only [intOf];omega
  .have ajZ:ky c most (pc,halt,m)=(fh,aN,m'):=by
    rcases Nat.lt_or_ge k most with aX|mg
    .rw [show most=k+(most - k)by omega,IE,<-qd.o,Lh]
     exact λz=>JL ⟨aX,z⟩
    .rw [show most=k by omega,qd.o]
   have abg:=J ajZ
   have zV:(k:Int)<min (most:Int) 1048576->(aN==0)=false:=λhq=>by
    have:¬aN=0:=λz=>JL ⟨by omega,z⟩
    simpa using this
   clear ajZ JL;have tf:=bC hA;have lA:=hA.lt;have lR:=Rv.lt;have hhR:=bH Rv;have hmR:=aj.aJ Rv
   have fin:∀wz:World,aj wz (w.heap.size+1) 47 (ai fh (some ⟨g,0,none⟩) n kc aN)->eo wz w.heap.size g n kc m'->al w wz->∃(v:Value) (k':Nat),Ending.returned (.tuple #[.agg (ai fh (some ⟨g,0,none⟩) n kc aN),.int .i64 k,.bool (!(aN==0))])=.returned (.tuple #[v,.int .i64 k',.bool (!((ky c most (pc,halt,m)).2.1==0))])/\k'<=most/\J2 w wz v n (ky c most (pc,halt,m)).1 (ky c most (pc,halt,m)).2.1 (ky c most (pc,halt,m)).2.2:=λwz _ hMz yz=>by
    rw [abg.o];exact⟨_,k,rfl,hk,g,kc,rfl,hMz,yz⟩
   have FIN:=J fin;clear fin
   by_cases aX:(k:Int)<min (most:Int) 1048576
   .have Oz:=zV aX
    clear zV;exact amS
   .clear zV
    exact amS
end Mc
namespace Sq
open Mc
abbrev w32 (x:Int):Int:=IntKind.i32.wrap x
structure Mk where (V:List Vr) (aP:Int) (b:Int)
def fr (b:Int) (i:Int):Int:=b+33+i
def sI (op:Int):Int:=if op=5∨op=6∨op=7 then op else if op=8 then 3 else if op=9 then 4 else if op=10 then 8 else if op=11 then 9 else if op=12∨op=14 then 10 else if op=13∨op=15 then 11 else if op=16 then 12 else if op=17 then 13 else 0
abbrev Wd:=Str->Int
def cE (k:Mk) (W:Wd):EF->Nat->Int->List Ins
 | .nil,_,_=>[]
 | .cons _ _ _ _ r,j+1,tw=>cE k W r j tw
 | .cons op n name kids _,0,tw=>
  if op=0 then [⟨1,fr k.b tw,n,0⟩]
  else if op=1 then [⟨2,fr k.b tw,W name,0⟩]
  else if op=2 then cE k W kids 0 tw++[⟨18,fr k.b (tw+1),fr k.b tw,(a_ k.V name).size⟩,⟨5,fr k.b tw,fr k.b tw,fr k.b (tw+1)⟩,⟨15,fr k.b tw,W name,fr k.b tw⟩,⟨5,fr k.b tw,fr k.b tw,fr k.b (tw+1)⟩]
  else if op=3 then cE k W kids 0 tw++[⟨1,fr k.b (tw+1),0,0⟩,⟨4,fr k.b tw,fr k.b (tw+1),fr k.b tw⟩]
  else if op=4 then cE k W kids 0 tw++[⟨14,fr k.b tw,fr k.b tw,0⟩]
  else if op=14∨op=15 then cE k W kids 1 tw++cE k W kids 0 (tw+1)++[⟨sI op,fr k.b tw,fr k.b tw,fr k.b (tw+1)⟩]
  else cE k W kids 0 tw++cE k W kids 1 (tw+1)++[⟨sI op,fr k.b tw,fr k.b tw,fr k.b (tw+1)⟩]
def gY (W:Wd) (s:Str) (v:Int):Wd:=λt=>if t=s then v else W t
def jP (k:Mk) (i:Int):List Ins:=[⟨18,fr k.b (i+1),fr k.b i,k.aP⟩,⟨5,fr k.b i,fr k.b i,fr k.b (i+1)⟩]
def qX (k:Mk) (W:Wd) (at_:Int) (kind:Int) (name:Str) (e:EF) (low:Int):List Ins:=
 if kind=0 then cE k W e 0 0++[⟨17,fr k.b 0,(a_ k.V name).low,(a_ k.V name).high⟩,⟨2,W name,fr k.b 0,0⟩]
 else if kind=1 then cE k W e 0 0++cE k W e 1 1++[⟨18,fr k.b 2,fr k.b 0,(a_ k.V name).size⟩,⟨20,at_+(cE k W e 0 0).length+(cE k W e 1 1).length+4,fr k.b 2,0⟩,⟨17,fr k.b 1,(a_ k.V name).low,(a_ k.V name).high⟩,⟨16,W name,fr k.b 0,fr k.b 1⟩]
 else if kind=4 then [⟨0,1,0,0⟩]
 else if kind=5 then [⟨1,k.b+5,W name,0⟩,⟨1,k.b+6,low,0⟩]
 else if kind=6 then cE k W e 0 0++[⟨2,k.b+4,fr k.b 0,0⟩,⟨0,0,0,0⟩]
 else if kind=7 then [⟨1,k.b+4,-1,0⟩,⟨0,0,0,0⟩]
 else if kind=8 then cE k W e 1 0++cE k W e 0 1++jP k 1++[⟨17,fr k.b 0,0,1073741823⟩,⟨15,fr k.b 2,k.b+8,fr k.b 1⟩,⟨3,fr k.b 0,fr k.b 0,fr k.b 2⟩,⟨17,fr k.b 0,0,1073741823⟩,⟨16,k.b+8,fr k.b 1,fr k.b 0⟩]
 else cE k W e 0 0++jP k 0++[⟨2,k.b+7,fr k.b 0,0⟩]
def cIf (k:Mk) (at_:Int) (E L X:List Ins):List Ins:=
 E++[⟨20,at_+E.length+1+L.length+1,fr k.b 0,0⟩]++L++[⟨19,at_+E.length+1+L.length+1+X.length,0,0⟩]++X
def Ke (k:Mk) (at_:Int) (E L:List Ins):List Ins:=E++[⟨20,at_+E.length+1+L.length,fr k.b 0,0⟩]++L
def Qm (k:Mk) (f:Nat):Int:=k.b+17+2*f
def Fa (k:Mk) (f:Nat) (at_ low high:Int) (B:List Ins):List Ins:=
 [⟨1,k.b+16,1,0⟩,⟨1,Qm k f,low,0⟩,⟨1,Qm k f+1,high - low+1,0⟩]++B++[⟨3,Qm k f,Qm k f,k.b+16⟩,⟨4,Qm k f+1,Qm k f+1,k.b+16⟩,⟨21,at_+3,Qm k f+1,0⟩]
def cB (k:Mk):SF->Wd->Nat->Int->List Ins
 | .nil,_,_,_=>[]
 | .cons kind name e low high l bY r,W,f,at_=>
  (if kind=2 then(if bY.isNil then Ke k at_ (cE k W e 0 0) (cB k l W f (at_+(cE k W e 0 0).length+1))
   else cIf k at_ (cE k W e 0 0) (cB k l W f (at_+(cE k W e 0 0).length+1)) (cB k bY W f (at_+(cE k W e 0 0).length+1+(cB k l W f (at_+(cE k W e 0 0).length+1)).length+1)))
   else if kind=3 then(if high<low then []else Fa k f at_ low high (cB k l (gY W name (Qm k f)) (f+1) (at_+3)))
   else qX k W at_ kind name e low)++
  cB k r W f (at_+(if kind=2 then(if bY.isNil then Ke k at_ (cE k W e 0 0) (cB k l W f (at_+(cE k W e 0 0).length+1))
   else cIf k at_ (cE k W e 0 0) (cB k l W f (at_+(cE k W e 0 0).length+1)) (cB k bY W f (at_+(cE k W e 0 0).length+1+(cB k l W f (at_+(cE k W e 0 0).length+1)).length+1)))
   else if kind=3 then(if high<low then []else Fa k f at_ low high (cB k l (gY W name (Qm k f)) (f+1) (at_+3)))
   else qX k W at_ kind name e low).length)
def cS (k:Mk) (W:Wd) (f:Nat) (at_:Int) (kind:Int) (name:Str) (e:EF) (low high:Int) (l bY:SF):List Ins:=
 if kind=2 then(if bY.isNil then Ke k at_ (cE k W e 0 0) (cB k l W f (at_+(cE k W e 0 0).length+1))
  else cIf k at_ (cE k W e 0 0) (cB k l W f (at_+(cE k W e 0 0).length+1)) (cB k bY W f (at_+(cE k W e 0 0).length+1+(cB k l W f (at_+(cE k W e 0 0).length+1)).length+1)))
  else if kind=3 then(if high<low then []else Fa k f at_ low high (cB k l (gY W name (Qm k f)) (f+1) (at_+3)))
  else qX k W at_ kind name e low
theorem Ia (k) (W) (f) (at_) (kind) (name) (e:EF) (low high:Int) (l bY r:SF):
 cB k (.cons kind name e low high l bY r) W f at_=cS k W f at_ kind name e low high l bY++cB k r W f (at_+(cS k W f at_ kind name e low high l bY).length):=by
 rw [cB];rfl
structure RS where (vars:List Int) (binds:List (Str×Int)) (over refused:Bool) (bw cell nT:Int) (asks:List Int) (rest:Int)
def Rb (l:List (Str×Int)) (s:Str):Option Int:=(l.find? (λx=>decide (x.1=s))).map (·.2)
def RZ (V:List Vr) (R:RS) (s:Str):Int:=match Rb R.binds s with|some v=>v|none=>R.vars.getD (fL V s).toNat 0
def ajn (a b:Int):Int:=if b=0 then 0 else w32 (a.tdiv b)
def join (op a b:Int):Int:=
 if op=5 then w32 (a*b)else if op=6 then ajn a b else if op=7 then(if b=0 then 0 else w32 (a - ajn a b*b))
 else if op=8 then w32 (a+b)else if op=9 then w32 (a - b)else if op=10 then cT (a==b)else if op=11 then cT (a !=b)
 else if op=12 then cT (decide (a<b))else if op=13 then cT (decide (a<=b))else if op=14 then cT (decide (a>b))else if op=15 then cT (decide (a≥b))
 else if op=16 then cT (a !=0&&b !=0)else cT (a !=0||b !=0)
def ev (V:List Vr) (R:RS):EF->Nat->Int
 | .nil,_=>0
 | .cons _ _ _ _ r,j+1=>ev V R r j
 | .cons op n name kids _,0=>
  if op=0 then w32 n
  else if op=1 then RZ V R name
  else if op=2 then(if ev V R kids 0<0∨(a_ V name).size<=ev V R kids 0 then 0 else R.vars.getD (fL V name+ev V R kids 0).toNat 0)
  else if op=3 then join 9 0 (ev V R kids 0)
  else if op=4 then cT (ev V R kids 0==0)
  else join op (ev V R kids 0) (ev V R kids 1)
def ahg (op:Int):Nat:=if op=0∨op=1 then 1 else if op=2 then 6 else 2
def jA:EF->Nat
 | .nil=>0
 | .cons op _ _ kids r=>(ahg op+if op=0∨op=1 then 0 else jA kids)+jA r
def UA (kind:Int):Nat:=if kind=1 then 6 else if kind=4∨kind=7 then 2 else if kind=5 then 4 else if kind=8 then 8 else if 0<=kind/\kind<=9 then 3 else 1
def TY (kind:Int):Bool:=decide (kind=0∨kind=1∨kind=2∨kind=6∨kind=8∨kind=9)
def dL:SF->Nat
 | .nil=>0
 | .cons kind _ e low high l bY r=>
  (UA kind+(if TY kind then jA e else 0)+if kind=2 then max (dL l) (dL bY)else if kind=3/\low<=high then((min (high - low) 65536).toNat+1)*(4+dL l)else 0)+dL r
def okC (c:List Ins) (k:Nat):Prop:=∀i∈c,aW i c.length k=true
def Seg (c:List Ins) (pc:Int) (l:List Ins):Prop:=0<=pc/\∀j:Nat,j<l.length->c[pc.toNat+j]?=l[j]?
theorem Seg.right {c} {pc} {a b} (h:Seg c pc (a++b)):Seg c (pc+a.length) b:=
 ⟨by have:=h.1;omega,λj hj=>by
  have h1:=h.1;have:=h.2 (a.length+j) (by rw [cy];omega);rw [List.getElem?_append_right ad]at this;rw [show(pc+a.length).toNat+j=pc.toNat+(a.length+j)by omega,this]
  congr 1
  omega⟩
theorem Seg.head {c} {pc} {i} {l:List Ins} (h:Seg c pc (i::l)):c[pc.toNat]?=some i:=by
 have:=h.2 0 aC
 simpa using this
theorem sk {m} {i j} (v) (hi:0<=i) (hj:0<=j) (h:i<m.length):cW (fp m i v) j=if j=i then v else cW m j:=by
 unfold cW fp;rw [List.getD_eq_getElem?_getD,List.getElem?_set]
 by_cases e:j=i
 .subst e
  rw [av rfl,av rfl,av ad]
  rfl
 .rw [af e,af ad,List.getD_eq_getElem?_getD]
theorem Lz (m) (i v:Int):(fp m i v).length=m.length:=by simp [fp]
theorem Bx {m} {i v} (hm:∀x∈m,ax x) (hv:ax v):∀x∈fp m i v,ax x:=λx hx=>by
 rcases List.mem_or_eq_of_mem_set hx with h|h
 .exact hm x h
 .rw [h];exact hv
theorem RY {m} (hm:∀x∈m,ax x) (i:Int):ax (cW m i):=by
 unfold cW;rw [List.getD_eq_getElem?_getD]
 rcases Nat.lt_or_ge i.toNat m.length with h|h
 .rw [List.getElem?_eq_getElem h];exact hm _ (cK h)
 .rw [List.getElem?_eq_none h];unfold ax;simp
theorem xE (b:Bool):ax (cT b):=by unfold cT ax;split<;>omega
structure tU (m m':List Int) (lo hi:Int):Prop where
 len:m'.length=m.length
 ok:(∀x∈m,ax x)->∀x∈m',ax x
 otw:∀i,0<=i->(i<lo∨hi<=i)->cW m' i=cW m i
theorem tU.refl (m) (lo hi:Int):tU m m lo hi:=⟨rfl,λh=>h,λ_ _ _=>rfl⟩
theorem tU.trans {a b c} {lo hi:Int} (h:tU a b lo hi) (h':tU b c lo hi):tU a c lo hi:=
 ⟨h'.len.trans h.len,λq=>h'.ok (h.ok q),λi h0 q=>(h'.otw i h0 q).trans (h.otw i h0 q)⟩
theorem tU.mono {a b} {lo hi lo' hi'} (h:tU a b lo hi) (h1:lo'<=lo) (h2:hi<=hi'):tU a b lo' hi':=
 ⟨h.len,h.ok,λi h0 q=>h.otw i h0 ad⟩
theorem tU.put {m:List Int} {lo hi i v:Int} (h0:0<=i) (h1:lo<=i) (h2:i<hi) (h3:i<m.length) (hv:ax v):tU m (fp m i v) lo hi:=
 ⟨Lz _ _ _,λq=>Bx q hv,λj hj q=>by rw [sk v h0 hj h3,af ad]⟩
structure EJ (k:Mk) (κ:Kn) (W:Wd) (R:RS) (m:List Int):Prop where
 b0:0<=k.b
 len:(m.length:Int)=k.b+49
 ok:∀x∈m,ax x
 plain:∀s,κ s≠0/\κ s≠2->0<=W s/\W s<k.b+33/\cW m (W s)=RZ k.V R s
 list:∀s,κ s=2->0<=W s/\0<(a_ k.V s).size/\W s+(a_ k.V s).size<=k.b/\∀i,0<=i->i<(a_ k.V s).size->cW m (W s+i)=R.vars.getD (fL k.V s+i).toNat 0
theorem EJ.same {k} {κ} {W} {R} {m m'} {hi:Int} (h:EJ k κ W R m) {lo:Int} (hs:tU m m' lo hi) (hlo:k.b+33<=lo):EJ k κ W R m':=
 ⟨h.b0,by rw [hs.len];exact h.len,hs.ok h.ok,λs q=>by
  obtain⟨h1,h2,h3⟩:=h.plain s q;exact⟨h1,h2,by rw [hs.otw _ h1 ad];exact h3⟩,λs q=>by
  obtain⟨h1,h2,h3,h4⟩:=h.list s q;exact⟨h1,h2,h3,λi Yq lP=>by rw [hs.otw _ ad ad];exact h4 i Yq lP⟩⟩
def dp:EF->Nat| .nil=>0| .cons _ _ _ k r=>max (1+dp k) (dp r)
def dpN:EF->Nat->Nat| .nil,_=>0| .cons _ _ _ _ r,j+1=>dpN r j| .cons _ _ _ k _,0=>1+dp k
theorem N6:∀(F:EF) (j:Nat),dpN F j<=dp F
 | .nil,_=>eH _
 | .cons _ _ _ k r,j+1=>by have:=N6 r j;simp only [dpN,dp];omega
 | .cons _ _ _ k r,0=>by simp only [dpN,dp];omega
theorem Rm:∀(F:EF) (j:Nat),j<F.len->1<=dpN F j
 | .nil,_,h=>by simp [EF.len]at h
 | .cons _ _ _ k r,j+1,h=>Rm r j (by simpa [EF.len]using h)
 | .cons _ _ _ k r,0,_=>by simp only [dpN];omega
theorem Mm {op} (h:5<=op/\op<=17):3<=sI op/\sI op<=13:=by
 have h13:op=5∨op=6∨op=7∨op=8∨op=9∨op=10∨op=11∨op=12∨op=13∨op=14∨op=15∨op=16∨op=17:=by omega
 rcases h13 with rfl|rfl|rfl|rfl|rfl|rfl|rfl|rfl|rfl|rfl|rfl|rfl|rfl<;>decide
theorem Ih:∀F:EF,F.size<=1099511627776->F.deep=dp F/\dp F<=F.size
 | .nil,_=>⟨rfl,eH _⟩
 | .cons _ _ _ k r,h=>by
  simp only [EF.size]at h;obtain⟨h1,h2⟩:=Ih k ad;obtain⟨h3,h4⟩:=Ih r ad;refine⟨?_,by simp only [dp,EF.size];omega⟩;rw [EF.deep,dp,h1,h3];have:jw (1+(dp k:Int))=1+dp k:=by simp only [eF];omega
  rw [this]
  omega
theorem NW {κ:Kn}:∀{F:EF},kG κ F=none->F.size<=1099511627776->mB κ F=none/\dp F<=12
 | .nil,_,_=>⟨rfl,by simp [dp]⟩
 | .cons _ _ _ k r,h,hz=>by
  rw [kG,aD,aD,di,gZ]at h;simp only [EF.size]at hz;obtain⟨h1,h2⟩:=NW h.2 ad;obtain⟨h3,h4⟩:=Ih k ad;have h5:=h.1.1;rw [h3,show jw (1+(dp k:Int))=1+dp k by simp only [eF];omega]at h5;refine⟨?_,by simp only [dp];omega⟩;rw [mB,aD];exact⟨h.1.2,h1⟩
structure VrR (v:Vr):Prop where
 lo:ax v.low
 hi:ax v.high
 le:v.low<=v.high
structure Stat (k:Mk):Prop where
 b0:0<=k.b
 s2:2<=k.aP
 s8:k.aP<=8
structure Az (k:Mk) (R:RS) (m:List Int):Prop where
 len:(m.length:Int)=k.b+49
 ok:∀x∈m,ax x
 ahw:(R.vars.length:Int)=k.b
 vars:∀i,0<=i->i<k.b->cW m i=R.vars.getD i.toNat 0
 bw:cW m (k.b+4)=R.bw
 cell:cW m (k.b+5)=R.cell
 nT:cW m (k.b+6)=R.nT
 rest:cW m (k.b+7)=R.rest
 afK:(R.asks.length:Int)=k.aP
 asks:∀i,0<=i->i<k.aP->cW m (k.b+8+i)=R.asks.getD i.toNat 0/\0<=R.asks.getD i.toNat 0/\R.asks.getD i.toNat 0<=1073741823
structure SV (k:Mk) (κ:Kn) (W:Wd) (f:Nat) (B:List (Str×Int)) (m:List Int):Prop where
 kn:∀s,κ s<=3
 one:∀s,κ s=1->W s=fL k.V s/\0<=fL k.V s/\fL k.V s<k.b/\Rb B s=none/\VrR (a_ k.V s)
 two:∀s,κ s=2->W s=fL k.V s/\0<=fL k.V s/\0<(a_ k.V s).size/\fL k.V s+(a_ k.V s).size<=k.b/\VrR (a_ k.V s)
 fix:∀s,κ s=3->((k.b<=W s/\W s<k.b+4)∨(k.b+17<=W s/\W s<k.b+17+2*f))/\∃v,Rb B s=some v/\cW m (W s)=v
 no:∀s,κ s=0->Rb B s=none
theorem EJ.of {k} {κ} {W} {f} {R} {m:List Int} (hk:Stat k) (hf:f<=8) (hC:Az k R m) (hN:SV k κ W f R.binds m):EJ k κ W R m:=
 ⟨hk.b0,hC.len,hC.ok,λs h=>by
  have h3:=hN.kn s;have hb:=hk.b0
  rcases(by omega:κ s=1∨κ s=3)with q|q
  .obtain⟨a1,a2,a3,a4,_⟩:=hN.one s q
   rw [a1];refine⟨a2,by omega,?_⟩;unfold RZ;rw [a4];exact hC.vars _ a2 a3
  .obtain⟨a1,v,a2,a3⟩:=hN.fix s q
   refine⟨by omega,by omega,?_⟩;unfold RZ;rw [a2,a3],λs q=>by
  obtain⟨a1,a2,a3,a4,_⟩:=hN.two s q;rw [a1];exact⟨a2,a3,a4,λi h0 h1=>hC.vars _ ad ad⟩⟩
structure tR (k:Mk) (f:Nat) (m m':List Int):Prop where
 loops:∀i,k.b+17<=i->i<k.b+17+2*f->cW m' i=cW m i
 one:cW m (k.b+16)=1->cW m' (k.b+16)=1
 args:∀i,k.b<=i->i<k.b+4->cW m' i=cW m i
theorem tR.refl (k) (f) (m:List Int):tR k f m m:=⟨λ_ _ _=>rfl,λh=>h,λ_ _ _=>rfl⟩
theorem tR.trans {k} {f:Nat} {a b c:List Int} (h:tR k f a b) (h':tR k f b c):tR k f a c:=
 ⟨λi h0 h1=>(h'.loops i h0 h1).trans (h.loops i h0 h1),λq=>h'.one (h.one q),λi h0 h1=>(h'.args i h0 h1).trans (h.args i h0 h1)⟩
theorem tR.of_same {k} {f} {m m'} {lo hi} (hk:Stat k) (hf:f<=8) (h:tU m m' lo hi) (hlo:k.b+33<=lo):tR k f m m':=by
 have hb:=hk.b0;exact⟨λi h0 h1=>h.otw i ad ad,λq=>by rw [h.otw _ ad ad];exact q,λi h0 h1=>h.otw i ad ad⟩
theorem SV.agZ {k} {κ} {W} {f} {B} {m m'} (h:SV k κ W f B m) (hk:tR k f m m'):SV k κ W f B m':=
 ⟨h.kn,h.one,h.two,λs q=>by
  obtain⟨a1,v,a2,a3⟩:=h.fix s q;refine⟨a1,v,a2,?_⟩
  rcases a1 with a1|a1
  .rw [hk.args _ a1.1 a1.2];exact a3
  .rw [hk.loops _ a1.1 a1.2];exact a3,h.no⟩
theorem Az.same {k} {R} {m m'} {lo hi} (hk:Stat k) (h:Az k R m) (hs:tU m m' lo hi) (hlo:k.b+16<=lo):Az k R m':=by
 have hb:=hk.b0;have h8:=hk.s8;have g:∀i,0<=i->i<k.b+16->cW m' i=cW m i:=λi h0 h1=>hs.otw i h0 ad
 exact⟨by rw [hs.len];exact h.len,hs.ok h.ok,h.ahw,λi h0 h1=>by rw [g i h0 ad];exact h.vars i h0 h1,by rw [g _ ad ad];exact h.bw,by rw [g _ ad ad];exact h.cell,
  by rw [g _ ad ad];exact h.nT,by rw [g _ ad ad];exact h.rest,h.afK,λi h0 h1=>by rw [g _ ad ad];exact h.asks i h0 h1⟩
structure Out (c:List Ins) (pc:Int) (m:List Int) (n:Nat) (pe:Int) (k:Mk) (κ:Kn) (W:Wd) (f:Nat) (R':RS):Prop where
 go:R'.over=false->∃m',ky c n (pc,0,m)=(pe,0,m')/\Az k R' m'/\SV k κ W f R'.binds m'/\tR k f m m'
 halt:R'.over=true->∃fh m',ky c n (pc,0,m)=(fh,(if R'.refused then 2 else 1),m')/\Az k R' m'
theorem tR.put {k:Mk} {f:Nat} {m:List Int} (hk:Stat k) (hl:(m.length:Int)=k.b+49) {j v:Int} (h0:0<=j) (h1:j<k.b∨k.b+4<=j/\j<k.b+16∨k.b+33<=j) (h2:j<k.b+49) (hf:f<=8):tR k f m (fp m j v):=by
 have hb:=hk.b0;have g:∀i,0<=i->¬i=j->cW (fp m j v) i=cW m i:=λi hi hn=>by rw [sk v h0 hi ad,af hn]
 exact⟨λi _ _=>g i ad ad,λq=>by rw [g _ ad ad];exact q,λi _ _=>g i ad ad⟩
structure Pre (c:List Ins) (m:List Int) (k:Mk) (κ:Kn) (W:Wd) (f:Nat) (R:RS):Prop where
 st:Stat k
 f8:f<=8
 ok:okC c m.length
 C:Az k R m
 N:SV k κ W f R.binds m
 ov:R.over=false
theorem Pre.put {c:List Ins} {m:List Int} {k:Mk} {κ:Kn} {W:Wd} {f:Nat} {R:RS} (h:Pre c m k κ W f R) {j v:Int} (h0:0<=j) (h1:j<16) (hv:ax v):Pre c (fp m (fr k.b j) v) k κ W f R/\tR k f m (fp m (fr k.b j) v)/\cW (fp m (fr k.b j) v) (fr k.b j)=v/\∀i,0<=i->¬i=fr k.b j->cW (fp m (fr k.b j) v) i=cW m i:=by
 have hb:=h.st.b0;have hl:=h.C.len;have s:tU m (fp m (fr k.b j) v) (fr k.b 0) (fr k.b 16):=tU.put Ek Ek Ek Ek hv;have hK:=tR.of_same h.st h.f8 s Ek;refine⟨⟨h.st,h.f8,by rw [s.len];exact h.ok,h.C.same h.st s Ek,h.N.agZ hK,h.ov⟩,hK,?_,λi hi hn=>?_⟩
 .rw [sk v Ek Ek Ek,av rfl]
 .rw [sk v Ek hi Ek,af hn]
theorem Out.Yg {c} {pc} {m} {n} {pe} {k} {κ} {W:Wd} {f:Nat} {R':RS} {fh:Int} {m':List Int} (ho:R'.over=true) (h:ky c n (pc,0,m)=(fh,(if R'.refused then 2 else 1),m')) (hC:Az k R' m'):Out c pc m n pe k κ W f R':=
 ⟨λq=>absurd q (by rw [ho];decide),λ_=>⟨fh,m',h,hC⟩⟩
section
variable {c:List Ins} {m:List Int} {k:Mk} {κ:Kn} {W:Wd} {f:Nat} {R:RS} {pc:Int}
theorem Pre.told (h:Pre c m k κ W f R) {R':RS} {j v:Int} (h0:4<=j) (h1:j<8) (hv:ax v) (aeo:R'.vars=R.vars) (adS:R'.asks=R.asks)
 (g4:R'.bw=if j=4 then v else R.bw) (g5:R'.cell=if j=5 then v else R.cell) (g6:R'.nT=if j=6 then v else R.nT) (g7:R'.rest=if j=7 then v else R.rest):
 Az k R' (fp m (k.b+j) v)/\tR k f m (fp m (k.b+j) v):=by
 have hb:=h.st.b0;have hl:=h.C.len;have g:∀i,0<=i->cW (fp m (k.b+j) v) i=if i=k.b+j then v else cW m i:=λi hi=>sk v ad hi ad;refine⟨⟨by rw [Lz];exact hl,Bx h.C.ok hv,by rw [aeo];exact h.C.ahw,λi h0 h1=>by rw [g i h0,af ad,aeo];exact h.C.vars i h0 h1,?_,?_,?_,?_,by rw [adS];exact h.C.afK,λi h0 h1=>?_⟩,tR.put h.st hl ad (.inr (.inl ad)) ad h.f8⟩
 .rw [g _ ad,g4,h.C.bw];congr 1;rw [eq_iff_iff];omega
 .rw [g _ ad,g5,h.C.cell];congr 1;rw [eq_iff_iff];omega
 .rw [g _ ad,g6,h.C.nT];congr 1;rw [eq_iff_iff];omega
 .rw [g _ ad,g7,h.C.rest];congr 1;rw [eq_iff_iff];omega
 .have:=h.st.s8
  rw [g _ ad,af ad,adS];exact h.C.asks i h0 h1
end
section
variable {c:List Ins} {k:Mk} {κ:Kn} {W:Wd} {f:Nat} {pc:Int} {part:Nat}
theorem Az.binds {m} {R} (h:Az k R m) (B:List (Str×Int)):Az k {R with binds:=B} m:=
 ⟨h.len,h.ok,h.ahw,h.vars,h.bw,h.cell,h.nT,h.rest,h.afK,h.asks⟩
end
end Sq
def cu (w:World) (g:Nat) (f:Int->Option Value):Prop:=
 ∃es clock,w.heap[g]?=some (.map es clock)/\(∀x∈es.toList,MapKept.IsKey (.int .i64) x.key)/\(es.toList.map (·.key)).Nodup/\∀s v,f s=some v↔∃x∈es.toList,x.key=.int .i64 s/\x.val=v
section
variable {P:Program} {w w':World} {g:Nat} {f:Int->Option Value} {mt kt et:TypeId}
theorem cu.lt (h:cu w g f):g<w.heap.size:=by
 obtain⟨_,_,hb,_⟩:=h;exact(Array.getElem?_eq_some_iff.1 hb).1
theorem cu.kept {S} (h:cu w g f) (hk:Kept S w w') (hs:¬S g):cu w' g f:=by
 have hl:=h.lt;obtain⟨es,clock,hb,r⟩:=h;exact⟨es,clock,(hk.block g hl hs).trans hb,r⟩
theorem cu.ext (h:cu w g f) (hk:al w w'):cu w' g f:=h.kept hk (λf=>f)
theorem cu.nH {f'} (h:cu w g f) (e:∀s,f s=f' s):cu w g f':=by
 obtain⟨es,clock,hb,hk,hn,hm⟩:=h;exact⟨es,clock,hb,hk,hn,λs v=>by rw [<-e];exact hm s v⟩
theorem cu.made (w:World):cu (w.alloc (.map #[] 0)) w.heap.size (λ_=>none):=
 ⟨#[],0,(MapKept.heap_alloc w _).1,by simp,by simp,by simp⟩
theorem qC (s:Int):MapKept.IsKey (.int .i64) (.int .i64 s):=by simp [MapKept.IsKey]
theorem cu.find (h:cu w g f) (s:Int):∃es clock,w.heap[g]?=some (.map es clock)/\(∀x∈es.toList,MapKept.IsKey (.int .i64) x.key)/\(es.toList.map (·.key)).Nodup/\(∀s v,f s=some v↔∃x∈es.toList,x.key=.int .i64 s/\x.val=v)/\
 ((Instr.findNow (.int .i64) (.int .i64 s) es.toList 0=some none/\f s=none/\∀x∈es.toList,x.key≠ .int .i64 s)∨∃j e,Instr.findNow (.int .i64) (.int .i64 s) es.toList 0=some (some (j,e.val))/\es.toList[j]?=some e/\e.key=.int .i64 s/\f s=some e.val):=by
 obtain⟨es,clock,hb,hk,hn,hm⟩:=h;refine⟨es,clock,hb,hk,hn,hm,?_⟩
 rcases MapKept.findNow_spec (qC s) es.toList 0 hk with⟨h1,h2⟩|⟨j,e,h1,h2,h3⟩
 .refine .inl ⟨h1,?_,h2⟩
  cases hf:f s with
  |none=>rfl
  |some v=>
   obtain⟨x,hx,he,_⟩:=(hm s v).1 hf;exact absurd he (h2 x hx)
 .rw [dU]at h1
  exact .inr ⟨j,e,h1,h2,h3,(hm s e.val).2 ⟨e,List.mem_of_getElem? h2,h3,rfl⟩⟩
theorem cu.look (h:cu w g f) (hu:P.underlying mt=some (.map kt et)) (hk:P.underlying kt=some (.int .i64)) {z:Value} (hz:∀w:World,(zeroValue et).run P w=.ok z w) (s:Int):
 (Instr.lookup mt (.map (some g)) (.int .i64 s) false).run P w=.ok ((f s).getD z) w:=by
 exact anu
theorem cu.look_ok (h:cu w g f) (hu:P.underlying mt=some (.map kt et)) (hk:P.underlying kt=some (.int .i64)) {z:Value} (hz:∀w:World,(zeroValue et).run P w=.ok z w) (s:Int):
 (Instr.lookup mt (.map (some g)) (.int .i64 s) true).run P w=.ok (.tuple #[(f s).getD z,.bool (f s).isSome]) w:=by
 exact anu
theorem cu.put (h:cu w g f) (hu:P.underlying mt=some (.map kt et)) (hk:P.underlying kt=some (.int .i64)) (s:Int) (v:Value):
 ∃w',(Instr.mapUpdate mt (.map (some g)) (.int .i64 s) v).run P w=.ok () w'/\cu w' g (λt=>if t=s then some v else f t)/\Kept (·=g) w w':=by
 obtain⟨es,clock,hb,hks,hn,hm,⟨h1,hf,AU⟩|⟨j,e,h1,h2,h3,h4⟩⟩:=h.find s
 .refine⟨{w with heap:=w.heap.setIfInBounds g (.map (es.push ⟨.int .i64 s,v,clock⟩) (clock+1))},?_,⟨_,_,(MapKept.heap_set hb).1,?_,?_,?_⟩,pN⟩
  .simp [Instr.mapUpdate,run_underlying hu,MapKept.run_getObj_map hb,MapKept.run_checkKey hk (qC s),MapKept.run_findKey hk h1,MapKept.run_setObj_map _ hb,Result.andThen]
  .intro x hx
   simp only [Array.toList_push,mK,List.mem_singleton]at hx
   rcases hx with hx|rfl
   .exact hks x hx
   .exact qC s
  .rw [Array.toList_push,vQ]
   refine List.nodup_append.2 ⟨hn,by simp,λa ha b fJ e=>?_⟩;obtain⟨x,hx,rfl⟩:=List.mem_map.1 ha;simp at fJ;subst fJ;exact AU x hx e
  .intro t u
   show(if t=s then some v else f t)=some u↔_;simp only [Array.toList_push,mK,List.mem_singleton]
   by_cases e:t=s
   .subst e
    rw [av rfl]
    constructor
    .intro q
     cases q
     exact⟨_,.inr rfl,rfl,rfl⟩
    .rintro⟨x,hx|rfl,je,rC⟩
     .exact absurd je (AU x hx)
     .rw [<-rC]
   .rw [af e,hm]
    constructor
    .rintro⟨x,hx,je,rC⟩
     exact⟨x,.inl hx,je,rC⟩
    .rintro⟨x,hx|rfl,je,rC⟩
     .exact⟨x,hx,je,rC⟩
     .injection je with _ je
      exact absurd je.symm e
 .have hj:es[j]?=some e:=by simpa using h2
  have Yx:∀e',es[j]?=some e'->({e' with key:=.int .i64 s,val:=v}:MapEntry).key=e'.key:=λe' Yn=>by rw [hj]at Yn;cases Yn;exact h3.symm
  have ft:j<es.size:=(Array.getElem?_eq_some_iff.1 hj).1;refine⟨{w with heap:=w.heap.setIfInBounds g (.map (es.modify j λe=>{e with key:=.int .i64 s,val:=v}) clock)},?_,⟨_,_,(MapKept.heap_set hb).1,MapKept.isKey_modify hks _ _ Yx,?_,?_⟩,pN⟩
  .simp [Instr.mapUpdate,run_underlying hu,MapKept.run_getObj_map hb,MapKept.run_checkKey hk (qC s),MapKept.run_findKey hk h1,hj,h3,MapKept.run_keyThatStays (qC s),MapKept.run_setObj_map _ hb,Result.andThen]
  .rw [MapKept.modify_keys _ _ Yx]
   exact hn
  .have kL:∀i,(es.modify j λe=>{e with key:=.int .i64 s,val:=v}).toList[i]?=if i=j then some ⟨.int .i64 s,v,e.born⟩else es.toList[i]?:=λi=>by
    rw [Array.getElem?_toList,Array.getElem?_modify]
    by_cases ei:i=j
    .subst ei;simp [hj]
    .rw [af (λq=>ei q.symm),af ei,Array.getElem?_toList]
   have YT:∀i x,es.toList[i]?=some x->x.key=.int .i64 s->i=j:=λi x hx je=>by
    exact aih
   intro t u;show(if t=s then some v else f t)=some u↔_
   by_cases M9:t=s
   .subst M9
    rw [av rfl]
    constructor
    .intro q
     cases q
     exact⟨⟨.int .i64 t,v,e.born⟩,List.mem_of_getElem? (i:=j) (by rw [kL,av rfl]),rfl,rfl⟩
    .rintro⟨x,hx,je,rC⟩
     obtain⟨i,hi⟩:=List.getElem?_of_mem hx;rw [kL]at hi
     split at hi
     .cases hi
      rw [<-rC]
     .rename_i gM
      exact absurd (YT i x hi je) gM
   .rw [af M9,hm]
    constructor
    .rintro⟨x,hx,je,rC⟩
     obtain⟨i,hi⟩:=List.getElem?_of_mem hx
     have gM:¬i=j:=λq=>by
      subst q;rw [h2]at hi
      cases hi
      rw [h3]at je;injection je with _ je;exact M9 je.symm
     exact⟨x,List.mem_of_getElem? (i:=i) (by rw [kL,af gM];exact hi),je,rC⟩
    .rintro⟨x,hx,je,rC⟩
     obtain⟨i,hi⟩:=List.getElem?_of_mem hx;rw [kL]at hi
     split at hi
     .cases hi
      injection je with _ je;exact absurd je.symm M9
     .exact⟨x,List.mem_of_getElem? hi,je,rC⟩
end
open Sq Mc
theorem Xs:gB prog 303=true:=by kernel_rfl
theorem U2:dw prog 303=some 17:=by kernel_rfl
attribute [go_sem] Xs U2
abbrev nd (A:Option Addr) (n cp:Nat) (c:Pc) (b:Int) (wm:Nat) (f:Int) (sm em:Nat):Array Value:=
 #[.slice A n cp,.string c.name,.int .i64 c.aP,.slice c.cd.A c.cd.n c.cd.c,.slice c.vars.A c.vars.n c.vars.c,.slice c.start.A c.start.n c.start.c,.slice c.turn.A c.turn.n c.turn.c,.slice c.params.A c.params.n c.params.c,.slice c.ci.A c.ci.n c.ci.c,.string c.silent,.slice c.quiet.A c.quiet.n c.quiet.c,.slice c.bP.A c.bP.n c.bP.c,.int .i64 b,.map (some wm),.int .i64 f,.map (some sm),.map (some em)]
attribute [go_sem] nd
def apU (wm i:Nat) (o:Option Obj):Prop:=(∃du t fr,o=some (.cells du t fr)/\¬t=303/\¬t=71)∨(¬i=wm/\∃es clock,o=some (.map es clock))
def KT (B wm:Nat) (w w':World):Prop:=Kept (λi=>B<=i/\¬apU wm i w.heap[i]?) w w'
section
variable {B wm:Nat} {w w' uf:World}
theorem KT.refl (B wm) (w:World):KT B wm w w:=kR _ w
theorem KT.ext (h:al w w'):KT B wm w w':=Kept.ext h
theorem KT.size (h:KT B wm w w'):w.heap.size<=w'.heap.size:=Kept.size h
theorem KT.trans (h:KT B wm w w') (h':KT B wm w' uf):KT B wm w uf:=by
 refine Kept.trans' h h' λi hi q=>?_;refine⟨q.1,λhk=>q.2 ?_⟩;rw [Kept.block h i hi (λz=>z.2 hk)];exact hk
theorem KT.below (h:KT B wm w w'):Kept (λi=>B<=i) w w':=Kept.mono h λ_ _ q=>q.1
theorem KT.block (h:KT B wm w w') {g:Nat} {t:TypeId} {cs:Array Value} (hb:aj w g t cs) (h1:¬t=303) (h2:¬t=71):aj w' g t cs:=(Kept.block h g hb.lt (λq=>q.2 (.inl ⟨_,_,_,hb,h1,h2⟩))).trans hb
theorem KT.map (h:KT B wm w w') {g:Nat} {f:Int->Option Value} (hm:cu w g f) (hg:¬g=wm):cu w' g f:=by
 have hl:=hm.lt;obtain⟨es,clock,hb,r⟩:=hm;exact⟨es,clock,(Kept.block h g hl (λq=>q.2 (.inr ⟨hg,es,clock,hb⟩))).trans hb,r⟩
theorem KT.aeA {mb} {cs} (hb:aj w mb 303 cs) (hB:B<=mb) (hk:Kept (·=mb) w w'):KT B wm w w':=
 Kept.mono hk λi _ q=>by
  subst q;refine⟨hB,?_⟩;rintro(⟨du,t,fr,e,h1,_⟩|⟨_,es,clock,e⟩)<;>rw [show w.heap[i]?=_ from hb]at e
  .injection e with e
   injection e with _ e _;exact h1 e.symm
  .cases e
theorem KT.gF {v} {n} {xs} (h:w.ownsRow B 71 4 v n xs) (hk:Kept (λi=>v.ownBlock=some i) w w'):KT B wm w w':=
 Kept.mono hk λi _ q=>by
  refine⟨(h.lt i q).1,?_⟩;rintro(⟨du,t,fr,e,_,h2⟩|⟨_,es,clock,e⟩)
  .exact cY h (λz=>h2 z.symm) i q du fr e
  .obtain⟨du,e'⟩:=Dt h q
   rw [e]at e'
   cases e'
theorem KT.of_map {es} {clock} (hb:w.heap[wm]?=some (.map es clock)) (hB:B<=wm) (hk:Kept (·=wm) w w'):KT B wm w w':=
 Kept.mono hk λi _ q=>by
  subst q;refine⟨hB,?_⟩;rintro(⟨du,t,fr,e,_,_⟩|⟨h,_⟩)
  .rw [hb]at e
   cases e
  .exact h rfl
end
def fV (op:Int):Option Value:=
 if op=0 then some (.func (.func 263) #[] #[])else if op=1 then some (.func (.func 264) #[] #[])
 else if op=2 then some (.func (.func 265) #[] #[])else if op=3 then some (.func (.func 266) #[] #[])
 else if op=4 then some (.func (.func 267) #[] #[])else if op=14∨op=15 then some (.func (.func 268) #[] #[])else none
def xC (k:Int):Option Value:=
 if k=0 then some (.func (.func 253) #[] #[])else if k=1 then some (.func (.func 254) #[] #[])
 else if k=2 then some (.func (.func 255) #[] #[])else if k=3 then some (.func (.func 256) #[] #[])
 else if k=4 then some (.func (.func 257) #[] #[])else if k=5 then some (.func (.func 258) #[] #[])
 else if k=6 then some (.func (.func 259) #[] #[])else if k=7 then some (.func (.func 260) #[] #[])
 else if k=8 then some (.func (.func 261) #[] #[])else if k=9 then some (.func (.func 262) #[] #[])else none
structure MS (w:World) (B N mb:Nat) (p:Pr) (c:Pc) (b:Int) (wm sm em f:Nat) (W:Wd) (L:List Ins):Prop where
 blk:∃A n cp,aj w mb 303 (nd A n cp c b wm f sm em)/\w.ownsRow B 71 4 (.slice A n cp) n (cM L)
 prog:lZ w N c p
 words:∃F,dt w wm F/\∀s,(F s).getD (.int .i64 0)=.int .i64 (W s)
 ue:cu w sm xC
 Qa:cu w em fV
 hN:N<=B
 hB:B<=w.heap.size
 mbB:B<=mb
 wmB:B<=wm
 okL:∀i∈L,i.ok
section
variable {w w':World} {B N mb wm sm em f:Nat} {p:Pr} {c:Pc} {b:Int} {W:Wd} {L:List Ins}
theorem MS.ext (h:MS w B N mb p c b wm sm em f W L) (hx:al w w'):MS w' B N mb p c b wm sm em f W L:=by
 obtain⟨A,n,cp,h1,h2⟩:=h.blk;obtain⟨F,h3,h4⟩:=h.words;exact⟨⟨A,n,cp,bX h1 hx,aQ h2 hx⟩,h.prog.kept hx (ay h.hN h.hB) (λ_ q=>q.elim),⟨F,h3.ext hx,h4⟩,h.ue.ext hx,h.Qa.ext hx,h.hN,ay h.hB hx.size,h.mbB,h.wmB,h.okL⟩
theorem MS.len (_h:MS w B N mb p c b wm sm em f W L) {A:Option Addr} {n cp:Nat} (ho:w.ownsRow B 71 4 (.slice A n cp) n (cM L)):n=L.length:=by
 have:=ho.1;rw [jk]at this
 omega
end
variable{base cp:Nat}{w1:World}{L':List Ins}
theorem OM:(prog.info? 71).map (λi=>(i.zero,i.size,i.bytes))=some (some (.agg #[.int .i64 0,.int .i64 0,.int .i64 0,.int .i64 0]),4,32):=by kernel_rfl
theorem C_ (l:List Ins):eI (cM l)=true:=by
 induction l with
 |nil=>rfl
 |cons d l ih=>show eI (d.cells.toList++cM l)=true;exact ih
theorem adL (w) (base) (v) (n:Nat) (xs:List Ins) (iC:w.ownsRow base 71 4 v n (cM xs)) (b off m c:Nat) (l:List Ins) (hm:m=l.length) (hr:Row w b off (cM l)) (hn:n+m<=100000) (iH:base<=w.heap.size):
 ∃v' w',(Builtin.append_ #[48,48] 48 #[v,.slice (some ⟨b,off,none⟩) m c]).run prog w=.ok v' w'/\w'.ownsRow base 71 4 v' (n+m) (cM (xs++l))/\Kept (λi=>v.ownBlock=some i) w w':=by
 obtain⟨i,hi,hz,h1,h2⟩:=info_parts OM;have:=pz (P:=prog) underlying48 hi hz h1 h2 dZ ae w base v n (cM xs) iC b off m c (cM l) (by rw [jk,hm]) hr (C_ l) MB ad iH;rw [show cM xs++cM l=cM (xs++l)by simp [cM]]at this;exact this
theorem PD {w:World} {v:Value} {n:Nat} {l:List Ins} (h:w.ownsRow base 71 4 v n (cM l)):∃A c,v=.slice A n c:=by
 rcases h.2 with⟨hv,h0⟩|⟨g,c,du,hv,_⟩
 .exact⟨none,0,by rw [hv,h0]⟩
 .exact⟨_,c,hv⟩
theorem cf (B N mb wm sm em f) (p) (c) (b) (W) (L) (i) (w) (h:MS w B N mb p c b wm sm em f W L) (hb:0<=b/\b<=10000) (hi:0<=i/\i<=10000):
 Calls prog 300 #[.pointer (some ⟨mb,0,none⟩),.int .i64 i] w λe w'=>e=.returned (.int .i64 (fr b i))/\w=w':=by
 obtain⟨A,n,cp,h1,-⟩:=h.blk;have i1:=bC h1;have i2:=h1.lt;go_enter func300,ntmps300;go_wp21;go_ret;exact⟨rfl,rfl⟩
theorem MS.grow {w} {B N mb wm sm em f} {p} {c} {b} {W} {L} {A A':Option Addr} {n n' oU:Nat} (h:MS w B N mb p c b wm sm em f W L) (hb:aj w mb 303 (nd A n cp c b wm f sm em)) (ho:w.ownsRow B 71 4 (.slice A n cp) n (cM L))
 (hk:Kept (λi=>(Value.slice A n cp).ownBlock=some i) w w1) (n8:w1.ownsRow B 71 4 (.slice A' n' oU) n' (cM L')) (hok:∀i∈L',i.ok):
 MS (w1.setCell ⟨mb,0,none⟩ (.slice A' n' oU)) B N mb p c b wm sm em f W L'/\KT B wm w (w1.setCell ⟨mb,0,none⟩ (.slice A' n' oU)):=by
 have Wo:¬(Value.slice A n cp).ownBlock=some mb:=λq=>cY ho (E':=303) ae mb q _ _ hb;have jq:=bK hb hk Wo;have hbS:=aj.fw jq 0 (.slice A' n' oU);have kS:Kept (·=mb) w1 (w1.setCell ⟨mb,0,none⟩ (.slice A' n' oU)):=Kept.setCell (kR _ w1) _ _ (λ_=>rfl)
 have dl:∀g es clock,w.heap[g]?=some (.map es clock)->¬(Value.slice A n cp).ownBlock=some g:=λg es clock e q=>by
  obtain⟨du,e'⟩:=Dt ho q;rw [e]at e'
  cases e'
 have CU:∀g es clock,w.heap[g]?=some (.map es clock)->¬g=mb:=λg es clock e q=>by
  subst q;rw [show w.heap[g]?=_ from hb]at e
  cases e
 have k2:KT B wm w w1:=KT.gF ho hk;have k3:KT B wm w1 (w1.setCell ⟨mb,0,none⟩ (.slice A' n' oU)):=KT.aeA jq h.mbB kS;have kk:=k2.trans k3;refine⟨⟨⟨A',n',oU,?_,dy n8 kS (λg hg q=>by subst q;exact cY n8 (E':=303) ae g hg _ _ jq)⟩,h.prog.kept kk.below (ay h.hN h.hB) (λi q=>ay h.hN q),?_,?_,?_,h.hN,ay h.hB kk.size,h.mbB,h.wmB,hok⟩,kk⟩
 .simpa using hbS
 .obtain⟨F,h3,h4⟩:=h.words
  obtain⟨es,clock,he,r⟩:=h3;exact⟨F,(dt.kept (f:=F) ⟨es,clock,he,r⟩ hk (dl _ _ _ he)).kept kS (CU _ _ _ he),h4⟩
 .obtain⟨es,clock,he,r⟩:=h.ue
  exact(cu.kept (f:=xC) ⟨es,clock,he,r⟩ hk (dl _ _ _ he)).kept kS (CU _ _ _ he)
 .obtain⟨es,clock,he,r⟩:=h.Qa
  exact(cu.kept (f:=fV) ⟨es,clock,he,r⟩ hk (dl _ _ _ he)).kept kS (CU _ _ _ he)
theorem cj (B N mb wm sm em f) (p) (c) (b) (W) (L:List Ins) (x:Ins) (hx:x.ok) (hL:L.length<=5000) (w:World) (h:MS w B N mb p c b wm sm em f W L):
 Calls prog 208 #[.pointer (some ⟨mb,0,none⟩),.int .i64 x.op,.int .i64 x.a,.int .i64 x.b,.int .i64 x.c] w λe w'=>e=.returned (.int .i64 L.length)/\MS w' B N mb p c b wm sm em f W (L++[x])/\KT B wm w w':=by
 have HH:=J h;obtain⟨A,n,cp,h1,h2⟩:=h.blk;have hn:=h.len h2;have y1:al w (w.alloc (.cells x.cells 71)):=dS w _;obtain⟨v',w',hr,ho,hk⟩:=adL (w.alloc (.cells x.cells 71)) B _ n L (aQ h2 y1) w.heap.size 0 1 1 [x] rfl (by simpa [cM]using Row.cR (bN w 71 x.cells)) ad (ay h.hB y1.size);obtain⟨A',oU,rfl⟩:=PD ho;have kh:Kept (λi=>(Value.slice A n cp).ownBlock=some i) w w':=(Kept.ext y1).trans hk
 obtain⟨ja,hKT⟩:=h.grow h1 h2 kh ho (λi hi=>by
  rcases mK.1 hi with q|q
  .exact h.okL i q
  .simp at q;subst q;exact hx)
 have Wo:¬(Value.slice A n cp).ownBlock=some mb:=λq=>cY h2 (E':=303) ae mb q _ _ h1;have jq:=bK h1 kh Wo;have i1:=bC h1;have i2:=h1.lt;have i3:=jq.lt;have i4:=aj.frozen jq;have j1:=bC (aj.fw jq 0 (.slice A' (n+1) oU));have⟨QM,HKT,HL,Jy⟩:=J4' ja hKT hn jq;clear h h2 ho hk kh Wo ja hKT HH jq h1 hn;go_enter func208,ntmps208;go_upto_region 1 with(fail);go_step
 iterate 11 refine kT ?_
 refine cJ rfl (.tmp 15) (.tmp 21) 48 rfl rfl rfl rfl hr ?_;clear hr i1;have i1:=bC Jy.o;have oC:n<=5000:=by have:=HL.o;omega
 go_wp21;go_ret;refine⟨?_,QM.o,HKT.o⟩;rw [<-HL.o]
 rfl
def nK (L:List Ins) (j:Nat) (v:Int):List Ins:=L.set j ⟨(L.getD j ⟨0,0,0,0⟩).op,v,(L.getD j ⟨0,0,0,0⟩).b,(L.getD j ⟨0,0,0,0⟩).c⟩
theorem wW:∀(L:List Ins) (j:Nat) (v:Int),j<L.length->(cM L).set (j*4+1) (.int .i64 v)=cM (nK L j v)
 |[],_,_,h=>by simp at h
 |x::L,0,v,_=>by simp [nK,cM]
 |x::L,j+1,v,h=>by
  have ih:=wW L j v Eg;have e:cM (nK (x::L) (j+1) v)=x.cells.toList++cM (nK L j v):=by simp [nK,cM]
  rw [e,<-ih,show(j+1)*4+1=4+(j*4+1)by omega];show(x.cells.toList++cM L).set (4+(j*4+1)) _=_;rw [List.set_append_right _ _ aC]
  congr 2
  simp
theorem Zt {w:World} {g n:Nat} {L:List Ins} (h:w.ownsRow base 71 4 (.slice (some ⟨g,0,none⟩) n cp) n (cM L)) (hn:n=L.length) (j:Nat) (hj:j<n) (v:Int):
 (w.setCell ⟨g,j*4+1,none⟩ (.int .i64 v)).ownsRow base 71 4 (.slice (some ⟨g,0,none⟩) n cp) n (cM (nK L j v)):=by
 rcases h.2 with⟨hv,h0⟩|⟨g',c',du,hv,hb,hc,zM,vG,gu,mN⟩
 .omega
 .obtain⟨rfl,rfl⟩:g=g'/\cp=c':=by simpa using hv
  refine⟨by rw [jk];simp [nK,hn],.inr ⟨g,cp,du.setIfInBounds (j*4+1) (.int .i64 v),rfl,hb,?_,zM,vG,by simpa using gu,?_⟩⟩
  .simp [World.setCell,Array.getElem?_modify,hc]
  .rw [Array.toList_setIfInBounds,List.take_set,mN,wW _ _ _ ad]
theorem UC {w} {A} {n} {L} (h:w.ownsRow base 71 4 (.slice A n cp) n (cM L)) (hn:0<n):∃g,A=some ⟨g,0,none⟩/\base<=g/\g<w.heap.size/\(∀k,w.frozen? ⟨g,k,none⟩=false)/\Row w g 0 (cM L):=by
 rcases h.2 with⟨hv,h0⟩|⟨g,c,du,hv,hb,hc,zM,vG,gu,mN⟩
 .omega
 .refine⟨g,by injection hv,hb,(Array.getElem?_eq_some_iff.1 hc).1,λk=>by simp [World.frozen?,hc],?_⟩
  have hl:=h.1;refine⟨?_,?_,(Array.getElem?_eq_some_iff.1 hc).1⟩
  .unfold Proofs.YtnhelcmddjbafaaGreatDoor.has;rw [hc,hl];simp;rw [gu];exact Nat.mul_le_mul_right 4 zM
  .unfold gets;rw [hc,hl];simp only [qW];rw [mN]
theorem X4 {L} {j} {v} (h:∀i∈L,i.ok) (hj:j<L.length) (hv:aI v):∀i∈nK L j v,i.ok:=λi hi=>by
 rcases List.mem_or_eq_of_mem_set hi with q|q
 .exact h i q
 .have:=h _ (cK hj)
  subst q;simp only [List.getD_eq_getElem?_getD,List.getElem?_eq_getElem hj,Option.getD_some];exact⟨this.op,hv,this.b,this.c⟩
theorem MS.acb {w} {B N mb wm sm em f} {p} {c} {b} {W} {L} {A:Option Addr} {n:Nat} (h:MS w B N mb p c b wm sm em f W L) (hb:aj w mb 303 (nd A n cp c b wm f sm em)) (ho:w.ownsRow B 71 4 (.slice A n cp) n (cM L))
 (hk:Kept (λi=>(Value.slice A n cp).ownBlock=some i) w w1) (n8:w1.ownsRow B 71 4 (.slice A n cp) n (cM L')) (hok:∀i∈L',i.ok):
 MS w1 B N mb p c b wm sm em f W L'/\KT B wm w w1:=by
 have Wo:¬(Value.slice A n cp).ownBlock=some mb:=λq=>cY ho (E':=303) ae mb q _ _ hb;have jq:=bK hb hk Wo
 have dl:∀g es clock,w.heap[g]?=some (.map es clock)->¬(Value.slice A n cp).ownBlock=some g:=λg es clock e q=>by
  obtain⟨du,e'⟩:=Dt ho q;rw [e]at e'
  cases e'
 have kk:KT B wm w w1:=KT.gF ho hk;refine⟨⟨⟨A,n,cp,jq,n8⟩,h.prog.kept kk.below (ay h.hN h.hB) (λi q=>ay h.hN q),?_,?_,?_,h.hN,ay h.hB kk.size,h.mbB,h.wmB,hok⟩,kk⟩
 .obtain⟨F,h3,h4⟩:=h.words
  obtain⟨es,clock,he,r⟩:=h3;exact⟨F,dt.kept (f:=F) ⟨es,clock,he,r⟩ hk (dl _ _ _ he),h4⟩
 .obtain⟨es,clock,he,r⟩:=h.ue
  exact cu.kept (f:=xC) ⟨es,clock,he,r⟩ hk (dl _ _ _ he)
 .obtain⟨es,clock,he,r⟩:=h.Qa
  exact cu.kept (f:=fV) ⟨es,clock,he,r⟩ hk (dl _ _ _ he)
theorem MS.drew {w} {B N mb wm sm em f} {p} {c} {b} {W} {L:List Ins} (h:MS w B N mb p c b wm sm em f W L):MS w.drew B N mb p c b wm sm em f W L:=h.ext (kR _ w).drew
theorem wT (B N mb wm sm em f) (p) (c) (b) (W) (L:List Ins) (j:Nat) (hj:j<L.length) (hL:L.length<=5000) (w:World) (h:MS w B N mb p c b wm sm em f W L):
 Calls prog 301 #[.pointer (some ⟨mb,0,none⟩),.int .i64 j] w λe w'=>e=.returned (.tuple #[])/\MS w' B N mb p c b wm sm em f W (nK L j L.length)/\KT B wm w w':=by
 obtain⟨A,n,cp,h1,h2⟩:=h.blk;have hn:=h.len h2;obtain⟨g,rfl,hgB,AP,hgf,aG⟩:=UC h2 ad;have gM:¬mb=g:=λq=>cY h2 (E':=303) ae g rfl _ _ (by rw [<-q];exact h1);have mw:=J gM;have hog:=Zt h2 hn j ad L.length;have KY:Kept (λi=>(Value.slice (some ⟨g,0,none⟩) n cp).ownBlock=some i) w (w.setCell ⟨g,j*4+1,none⟩ (.int .i64 L.length)):=Kept.setCell (kR _ _) _ _ (λ_=>rfl);obtain⟨ja,hKT⟩:=h.acb h1 h2 KY hog (X4 h.okL hj mu);have⟨QM,HKT,H1,HN⟩:=J4' ja.drew (hKT.trans (KT.ext (kR (λ_=>False) (w.setCell ⟨g,j*4+1,none⟩ (.int .i64 L.length))).drew)) h1 hn;have T0:j<n:=by omega
 have hjI:(j:Int)<n:=by omega
 have hj0:(0:Int)<=j:=by omega
 have oC:n<=5000:=by omega
 have CP:w.drew.frozen? ⟨g,j*4+1,none⟩=false:=hgf _;have apl:g<w.drew.heap.size:=AP
 obtain⟨v0,jB⟩:∃v0,w.cell? ⟨g,j*4+1,none⟩=some v0:=by
  have hl:j*4+1<(cM L).length:=by rw [jk];omega
  have:=aG.cell (j*4+1) hl;rw [dU,List.getElem?_eq_getElem hl]at this;exact⟨_,this⟩
 clear h h2 ja hKT KY hog aG h1 hn hj hL gM;go_enter func301,ntmps301;go_upto_region 0 with(fail);refine eW (λw2=>Kept (·=g) w w2) [(0,2),(1,2),(2,2),(3,1),(4,2),(5,2),(6,2),(7,2),(8,1),(9,2),(10,2),(11,2),(12,0)] ?_;refine eX ?_
 repeat first|refine bV ?_|refine cF dQ (by intro w1 hS;have d1:=bC (bK H1.o hS mw.o);have d2:=(bK H1.o hS mw.o).lt;exact fE) ?_|refine cD dQ ?_
 refine ap (λK hK=>?_);go_simp;refine hK.out _ _ (λ_=>(Kept.setCell (S:=(·=g)) (kR _ w) ⟨g,j*4+1,none⟩ (.int .i64 n) (λ_=>rfl)).drew) ?_;clear hK K;refine fc ?_;go_wp21;go_end0;have hm:=QM.o;have hkt:=HKT.o;have e1:=HN.o;rw [<-e1]at hm hkt⊢;exact⟨rfl,hm,hkt⟩
def Q8:EF->Nat->Option (Int×Int×Str×EF)
 | .nil,_=>none
 | .cons op n s k _,0=>some (op,n,s,k)
 | .cons _ _ _ _ r,j+1=>Q8 r j
theorem Kb:∀(F:EF) (j:Nat),j<F.len->∃op n s K,Q8 F j=some (op,n,s,K)
 | .nil,_,h=>by simp [EF.len]at h
 | .cons op n s k _,0,_=>⟨op,n,s,k,rfl⟩
 | .cons _ _ _ _ r,j+1,h=>Kb r j (by simpa [EF.len]using h)
theorem Ka (k:Mk) (W:Wd) (tw:Int):∀(F:EF) (j:Nat) {op n:Int} {s:Str} {K:EF},Q8 F j=some (op,n,s,K)->cE k W F j tw=cE k W (.cons op n s K .nil) 0 tw
 | .nil,_,_,_,_,_,h=>by simp [Q8]at h
 | .cons op n s k _,0,_,_,_,_,h=>by
  simp only [Q8,Option.some.injEq,Prod.mk.injEq]at h;obtain⟨rfl,rfl,rfl,rfl⟩:=h;rw [cE,cE]
 | .cons _ _ _ _ r,j+1,_,_,_,_,h=>by rw [cE];exact Ka k W tw r j h
theorem Q9 {κ:Kn}:∀{F:EF} {j:Nat} {op n:Int} {s:Str} {K:EF},Q8 F j=some (op,n,s,K)->mB κ F=none->jL κ op n s K.len=none/\mB κ K=none/\1+dp K<=dp F
 | .nil,_,_,_,_,_,h,_=>by simp [Q8]at h
 | .cons op n s k _,0,_,_,_,_,h,hc=>by
  simp only [Q8,Option.some.injEq,Prod.mk.injEq]at h;obtain⟨rfl,rfl,rfl,rfl⟩:=h;rw [mB,aD,aD]at hc;exact⟨hc.1.1,hc.1.2,by simp only [dp];omega⟩
 | .cons _ _ _ _ r,j+1,_,_,_,_,h,hc=>by
  rw [mB,aD]at hc;obtain⟨a,b,c⟩:=Q9 (F:=r) (j:=j) h hc.2;exact⟨a,b,by simp only [dp];omega⟩
theorem FU {w:World} {N:Nat}:∀{F:EF} {j:Nat} {op n:Int} {s:Str} {K:EF} {b off:Nat},Q8 F j=some (op,n,s,K)->lU w N F b off->
 b<N/\aI op/\aI n/\s.size<=maxLen/\∃A cap,Proofs.YtnhelcmddjbafaaGreatDoor.has w b (off+j*4) 4=true/\gets w b (off+j*4) 4=aF op n s A K.len cap/\lJ w N A K.len K
 | .nil,_,_,_,_,_,_,_,h,_=>by simp [Q8]at h
 | .cons op n s k _,0,_,_,_,_,b,off,h,hE=>by
  simp only [Q8,Option.some.injEq,Prod.mk.injEq]at h;obtain⟨rfl,rfl,rfl,rfl⟩:=h;obtain⟨hb,h1,h2,h3,⟨A,cap,b',bR,hh,hg,hl,hA,hk⟩,_⟩:=hE;exact⟨hb,h1,h2,h3,A,cap,by simpa using hh,by simpa using hg,rfl,hl,b',bR,hA,hk⟩
 | .cons _ _ _ _ r,j+1,_,_,_,_,b,off,h,hE=>by
  obtain⟨a1,a2,a3,a4,A,cap,a5,a6,a7⟩:=FU (F:=r) (j:=j) h hE.2.2.2.2.2;refine⟨a1,a2,a3,a4,A,cap,?_,?_,a7⟩
  .rw [show off+(j+1)*4=off+4+j*4 by omega];exact a5
  .rw [show off+(j+1)*4=off+4+j*4 by omega];exact a6
structure lj where (B N mb:Nat) (p:Pr) (c:Pc) (b:Int) (wm sm em:Nat)
abbrev lj.k (x:lj):Mk:=⟨x.p.vars,x.p.aP,x.b⟩
abbrev lj.at (x:lj) (w:World) (f:Nat) (W:Wd) (L:List Ins):Prop:=MS w x.B x.N x.mb x.p x.c x.b x.wm x.sm x.em f W L
structure tS (x:lj) (W:Wd):Prop where
 b0:0<=x.b
 b1:x.b<=100
 W0:∀s,0<=W s
 W1:∀s,W s<=1000
theorem aw {n} (h:-100000<=n/\n<=100000):aI n:=by unfold aI;omega
theorem dO {b i} (h0:0<=b) (h1:b<=100) (i0:0<=i) (i1:i<=200):aI (fr b i):=by unfold fr aI;omega
structure Ex (w:World) (N:Nat) (κ:Kn) (op n:Int) (s:Str) (A:Option Addr) (F:EF) (tw:Int):Prop where
 op_:aI op
 n_:aI n
 s_:s.size<=maxLen
 kids:lJ w N A F.len F
 head:jL κ op n s F.len=none
 uE:mB κ F=none
 t0:0<=tw
 t1:tw+1+dp F<=100
theorem Ex.kt {w w'} {B wm N} {κ} {op n} {s} {A} {F:EF} {tw:Int} (h:Ex w N κ op n s A F tw) (hk:KT B wm w w') (hN:N<=B) (hB:B<=w.heap.size):Ex w' N κ op n s A F tw:=
 ⟨h.op_,h.n_,h.s_,h.kids.kept hk.below (ay hN hB) (λ_i q=>ay hN q),h.head,h.uE,h.t0,h.t1⟩
abbrev cX (x:lj) (W:Wd) (op n:Int) (s:Str) (F:EF) (tw:Int):List Ins:=cE x.k W (.cons op n s F .nil) 0 tw
abbrev ExM (x:lj) (f:Nat) (W:Wd) (κ:Kn) (F:EF):Prop:=∀(op n:Int) (s:Str) (A:Option Addr) (kc:Nat) (tw:Int) (L:List Ins) (w:World),x.at w f W L->Ex w x.N κ op n s A F tw->L.length+(cX x W op n s F tw).length<=4000->
 Calls prog 299 #[.pointer (some ⟨x.mb,0,none⟩),.agg (aF op n s A F.len kc),.int .i64 tw] w λe w'=>e=.returned (.tuple #[])/\x.at w' f W (L++cX x W op n s F tw)/\KT x.B x.wm w w'
def vI (x:lj) (f:Nat) (W:Wd) (κ:Kn):EF->Prop| .nil=>True| .cons _ _ _ k r=>ExM x f W κ k/\vI x f W κ r
theorem vI.at {x:lj} {f:Nat} {W:Wd} {κ:Kn}:∀{F:EF} {j:Nat} {op n:Int} {s:Str} {K:EF},Q8 F j=some (op,n,s,K)->vI x f W κ F->ExM x f W κ K
 | .nil,_,_,_,_,_,h,_=>by simp [Q8]at h
 | .cons op n s k _,0,_,_,_,_,h,hA=>by
  simp only [Q8,Option.some.injEq,Prod.mk.injEq]at h;obtain⟨rfl,rfl,rfl,rfl⟩:=h;exact hA.1
 | .cons _ _ _ _ r,j+1,_,_,_,_,h,hA=>vI.at (F:=r) (j:=j) h hA.2
theorem nQ {x} {f} {W} {κ} {F} {A} {w} (hA:vI x f W κ F) (hE:lJ w x.N A F.len F) (hc:mB κ F=none) {tw:Int} (h0:0<=tw) (h1:tw+dp F<=100) {j:Nat} (hj:j<F.len):
 ∃op n s K A' cap b off,A=some ⟨b,off,none⟩/\b<x.N/\Proofs.YtnhelcmddjbafaaGreatDoor.has w b (off+j*4) 4=true/\gets w b (off+j*4) 4=aF op n s A' K.len cap/\Ex w x.N κ op n s A' K tw/\ExM x f W κ K/\cE x.k W F j tw=cX x W op n s K tw:=by
 obtain⟨op,n,s,K,ha⟩:=Kb F j hj;obtain⟨_,_,b,off,Im,hEF⟩:=hE;obtain⟨a1,a2,a3,a4,A',cap,a5,a6,a7⟩:=FU ha hEF;obtain⟨c1,c2,c3⟩:=Q9 ha hc;exact⟨op,n,s,K,A',cap,b,off,Im ad,a1,a5,a6,⟨a2,a3,a4,a7,c1,c2,h0,by omega⟩,vI.at ha hA,Ka x.k W tw F j ha⟩
theorem MS.look {w:World} {B N mb wm sm em f:Nat} {p:Pr} {c:Pc} {b:Int} {W:Wd} {L:List Ins} (h:MS w B N mb p c b wm sm em f W L) (s:Str):
 (Instr.lookup 297 (.map (some wm)) (.string s) false).run Tryz.prog w=.ok (.int .i64 (W s)) w:=by
 obtain⟨F,h3,h4⟩:=h.words;have ur:=dt.look (P:=Tryz.prog) h3 Tryz.underlying297 Tryz.underlying9 (z:=.int .i64 0) (λw=>by kernel_rfl) s;rw [ur,h4]
def SM (x:lj) (f:Nat) (W:Wd) (w1 w2:World):Prop:=KT x.B x.wm w1 w2/\∃L,x.at w2 f W L
section
variable {B wm N:Nat} {w w':World} (h:KT B wm w w') (hN:N<=B) (hB:B<=w.heap.size) {g o n:Nat} (hg:g<N)
include B wm N w w' h hN hB g o n hg
theorem agv (q:Proofs.YtnhelcmddjbafaaGreatDoor.has w g o n=true):Proofs.YtnhelcmddjbafaaGreatDoor.has w' g o n=true:=by
 rw [jK h.below ad ad];exact q
theorem abH:gets w' g o n=gets w g o n:=iO h.below ad ad
end
section
variable {κ:Kn} {op n:Int} {s:Str} {m:Nat} (h:jL κ op n s m=none)
include κ op n s m h
theorem rX:m=exprParts op:=by
 unfold jL at h;rw [aD,di,fz]at h
 simpa using h.1.2
theorem Ry:0<=op/\op<=17:=by
 unfold jL at h;rw [aD,di,fz]at h
 simpa [iX]using h.1.1
end
theorem kP {B wm N} {w w'} (h:KT B wm w w') (Od:N<=B/\B<=w.heap.size) {b o n:Nat} {vs:Array Value} (hb:b<N) (hh:Proofs.YtnhelcmddjbafaaGreatDoor.has w b o n=true) (hg:gets w b o n=vs):Proofs.YtnhelcmddjbafaaGreatDoor.has w' b o n=true/\gets w' b o n=vs/\b<w'.heap.size:=
 ⟨agv h Od.1 Od.2 hb hh,(abH h Od.1 Od.2 hb).trans hg,by have:=h.size;omega⟩
theorem Cp {w} {N} {c} {p} (h:lZ w N c p) (s:Str):SW (a_ p.vars s):=by
 unfold a_
 cases q:p.vars.find? (λv=>decide (v.name=s))with
 |none=>exact⟨de _,aw (n:=0) ae,aw (n:=0) ae,aw (n:=0) ae⟩
 |some v=>exact h.vars.2.2.1 v (List.mem_of_find?_eq_some q)
section
variable (x:lj) (f:Nat) (W:Wd) (hM:tS x W) (κ:Kn) (n:Int) (s:Str) (A:Option Addr) (kc:Nat) (F:EF) (tw:Int) (L:List Ins) (w:World) (h:x.at w f W L)
include x f W hM κ n s A kc F tw L w h
theorem uY (hX:Ex w x.N κ 0 n s A F tw) (hL:L.length+(cX x W 0 n s F tw).length<=4000):
 Calls prog 263 #[.pointer (some ⟨x.mb,0,none⟩),.agg (aF 0 n s A F.len kc),.int .i64 tw] w λe w'=>e=.returned (.tuple #[])/\x.at w' f W (L++cX x W 0 n s F tw)/\KT x.B x.wm w w':=by
 obtain⟨h0,h1,h2,h3⟩:=hM;have tm:=hX.t0;have zW:=hX.t1;have y1:al w (w.alloc (.cells (aF 0 n s A F.len kc) 354)):=dS w _;have cG:=bN w 354 (aF 0 n s A F.len kc);refine xN ?_;intro ja jh;have eJ:=J (df h.hN h.hB);clear h hX;go_enter func263,ntmps263;go_upto_region 1 with(fail);generalize (w.alloc (.cells (aF 0 n s A F.len kc) 354))=W1 at y1 cG ja jh⊢;refine QD ?_;clear cG ja jh hL;intro g HB HX kz HL Y0 Jz;have pq:=J (KT.block Y0.o HB.o ae ae);refine eW (λwz=>SM x f W W1 wz) [(0,2),(1,2),(2,2),(4,2),(5,1),(3,0),(6,0)] ?_;refine eX ?_;refine adr ?_;intro My H6 K hK;go_wp21;refine uW (cf x.B x.N x.mb x.wm x.sm x.em f x.p x.c x.b W (L) tw _ (H6.o) ⟨h0,by omega⟩ ⟨tm,by omega⟩) ?_;refine hK.out _ _ (λ_=>⟨My,_,(H6.o)⟩) ?_;clear hK K;refine kZ ?_;intro K hK;go_wp21;refine(cj x.B x.N x.mb x.wm x.sm x.em f x.p x.c x.b W (L) ⟨1,fr x.b tw,n,0⟩ ⟨(aw (n:=1) ae),(dO h0 h1 tm ad),HX.o.n_,(aw (n:=0) ae)⟩ (by have:=HL.o;omega) _ (H6.o)).mono ?_;exact anA
theorem Zn (hX:Ex w x.N κ 1 n s A F tw) (hL:L.length+(cX x W 1 n s F tw).length<=4000):
 Calls prog 264 #[.pointer (some ⟨x.mb,0,none⟩),.agg (aF 1 n s A F.len kc),.int .i64 tw] w λe w'=>e=.returned (.tuple #[])/\x.at w' f W (L++cX x W 1 n s F tw)/\KT x.B x.wm w w':=by
 obtain⟨h0,h1,h2,h3⟩:=hM;have tm:=hX.t0;have zW:=hX.t1;have y1:al w (w.alloc (.cells (aF 1 n s A F.len kc) 354)):=dS w _;have cG:=bN w 354 (aF 1 n s A F.len kc);refine xN ?_;intro ja jh;have eJ:=J (df h.hN h.hB);clear h hX;go_enter func264,ntmps264;go_upto_region 1 with(fail);generalize (w.alloc (.cells (aF 1 n s A F.len kc) 354))=W1 at y1 cG ja jh⊢;refine QD ?_;clear cG ja jh hL;intro g HB HX kz HL Y0 Jz;have KP:aI (W s):=by have:=h2 s;have:=h3 s;unfold aI;omega
 have pq:=J (KT.block Y0.o HB.o ae ae);refine eW (λwz=>SM x f W W1 wz) [(0,2),(1,2),(2,2),(4,2),(5,2),(6,2),(7,1),(8,2),(9,1),(10,1),(3,0),(11,0)] ?_;refine eX ?_;refine adr ?_;intro My H6 K hK;go_wp21;refine uW (cf x.B x.N x.mb x.wm x.sm x.em f x.p x.c x.b W (L) tw _ (H6.o) ⟨h0,by omega⟩ ⟨tm,by omega⟩) ?_;refine hK.out _ _ (λ_=>⟨My,_,(H6.o)⟩) ?_;clear hK K;refine kZ ?_;intro K hK;go_wp21;refine(cj x.B x.N x.mb x.wm x.sm x.em f x.p x.c x.b W (L) ⟨2,fr x.b tw,W s,0⟩ ⟨(aw (n:=2) ae),(dO h0 h1 tm ad),KP,(aw (n:=0) ae)⟩ (by have:=HL.o;omega) _ (H6.o)).mono ?_;exact anA
theorem acp (hX:Ex w x.N κ 4 n s A F tw) (hL:L.length+(cX x W 4 n s F tw).length<=4000) (hK:vI x f W κ F):
 Calls prog 267 #[.pointer (some ⟨x.mb,0,none⟩),.agg (aF 4 n s A F.len kc),.int .i64 tw] w λe w'=>e=.returned (.tuple #[])/\x.at w' f W (L++cX x W 4 n s F tw)/\KT x.B x.wm w w':=by
 obtain⟨h0,h1,h2,h3⟩:=hM;have tm:=hX.t0;have zW:=hX.t1;have y1:al w (w.alloc (.cells (aF 4 n s A F.len kc) 354)):=dS w _;have cG:=bN w 354 (aF 4 n s A F.len kc);refine xN ?_;intro ja jh;have eJ:=J (df h.hN h.hB);have AQ:0<F.len:=by rw [rX hX.head];decide
 have hd0:=hX.t1;obtain⟨o0,n0,s0,K0,A0,c0,qY,qZ,Bw,O0,Gt,Gs,O1,OY,OX⟩:=nQ hK hX.kids hX.uE (tw:=tw) hX.t0 ad (j:=0) AQ;refine VF ?_;clear Gt Gs O1 OY OX O0;intro EY EX AE AC B6 Ev;have rD:=J (show cX x W 4 n s F tw=cX x W o0 n0 s0 K0 tw++[⟨14,fr x.b tw,fr x.b tw,0⟩]from by rw [cX,cE];rw [af ae,af ae,af ae,af ae,av rfl,B6.o]);subst Bw;have hlI:(0:Int)<F.len:=by omega
 clear h hX;go_enter func267,ntmps267;go_upto_region 1 with(fail);generalize (w.alloc (.cells (aF 4 n s (some ⟨qY,qZ,none⟩) F.len kc) 354))=W1 at y1 cG ja jh⊢;refine QD ?_;clear cG ja jh hL;intro g HB HX kz HL Y0 Jz;refine QF ?_;intro q0 i1 i2;obtain⟨_,_,_,m0,_⟩:=(kz.o).blk;refine MH ?_;intro m1 m0 Fx Fy Fz;go_wp21;refine(AC.o o0 n0 s0 A0 c0 tw (L) _ (kz.o) (AE.o.kt ((KT.ext y1).trans Y0.o) eJ.o.1 eJ.o.2) qa).mono ?_;refine ahP ?_;intro w1 JE fj Hu;clear Fx Fy Fz q0 i1 i2 m0 m1;have q0:=KT.block JE.o HB.o ae ae;have i1:=bC q0;have i2:=q0.lt;obtain⟨_,_,_,m0,_⟩:=(fj.o).blk;have m1:=m0.lt;have m0:=bC m0;go_wp21;refine uW (cf x.B x.N x.mb x.wm x.sm x.em f x.p x.c x.b W (L++cX x W o0 n0 s0 K0 tw) tw _ (fj.o) ⟨h0,by omega⟩ ⟨tm,by omega⟩) ?_;go_wp21;refine uW (cf x.B x.N x.mb x.wm x.sm x.em f x.p x.c x.b W (L++cX x W o0 n0 s0 K0 tw) tw _ (fj.o) ⟨h0,by omega⟩ ⟨tm,by omega⟩) ?_;go_wp21;refine(cj x.B x.N x.mb x.wm x.sm x.em f x.p x.c x.b W (L++cX x W o0 n0 s0 K0 tw) ⟨14,fr x.b tw,fr x.b tw,0⟩ ⟨(aw (n:=14) ae),(dO h0 h1 tm ad),(dO h0 h1 tm ad),(aw (n:=0) ae)⟩ qa _ (fj.o)).mono ?_;refine VK ?_;intro w2 Bk jT yf;go_wp21;go_end0;refine⟨rfl,?_,(KT.ext y1).trans Bk.o⟩;rw [rD.o,<-fy];exact(jT.o)
theorem acn (hX:Ex w x.N κ 3 n s A F tw) (hL:L.length+(cX x W 3 n s F tw).length<=4000) (hK:vI x f W κ F):
 Calls prog 266 #[.pointer (some ⟨x.mb,0,none⟩),.agg (aF 3 n s A F.len kc),.int .i64 tw] w λe w'=>e=.returned (.tuple #[])/\x.at w' f W (L++cX x W 3 n s F tw)/\KT x.B x.wm w w':=by
 obtain⟨h0,h1,h2,h3⟩:=hM;have tm:=hX.t0;have zW:=hX.t1;have y1:al w (w.alloc (.cells (aF 3 n s A F.len kc) 354)):=dS w _;have cG:=bN w 354 (aF 3 n s A F.len kc);refine xN ?_;intro ja jh;have eJ:=J (df h.hN h.hB);have AQ:0<F.len:=by rw [rX hX.head];decide
 have hd0:=hX.t1;obtain⟨o0,n0,s0,K0,A0,c0,qY,qZ,Bw,O0,Gt,Gs,O1,OY,OX⟩:=nQ hK hX.kids hX.uE (tw:=tw) hX.t0 ad (j:=0) AQ;refine VF ?_;clear Gt Gs O1 OY OX O0;intro EY EX AE AC B6 Ev;have rD:=J (show cX x W 3 n s F tw=cX x W o0 n0 s0 K0 tw++[⟨1,fr x.b (tw+1),0,0⟩]++[⟨4,fr x.b tw,fr x.b (tw+1),fr x.b tw⟩]from by rw [cX,cE];rw [af ae,af ae,af ae,av rfl,B6.o,fy];rfl);subst Bw;have hlI:(0:Int)<F.len:=by omega
 clear h hX;go_enter func266,ntmps266;go_upto_region 1 with(fail);generalize (w.alloc (.cells (aF 3 n s (some ⟨qY,qZ,none⟩) F.len kc) 354))=W1 at y1 cG ja jh⊢;refine QD ?_;clear cG ja jh hL;intro g HB HX kz HL Y0 Jz;refine QF ?_;intro q0 i1 i2;obtain⟨_,_,_,m0,_⟩:=(kz.o).blk;refine MH ?_;intro m1 m0 Fx Fy Fz;go_wp21;refine(AC.o o0 n0 s0 A0 c0 tw (L) _ (kz.o) (AE.o.kt ((KT.ext y1).trans Y0.o) eJ.o.1 eJ.o.2) qa).mono ?_;refine ahP ?_;intro w1 JE fj Hu;clear Fx Fy Fz q0 i1 i2 m0 m1;have q0:=KT.block JE.o HB.o ae ae;have i1:=bC q0;have i2:=q0.lt;obtain⟨_,_,_,m0,_⟩:=(fj.o).blk;have m1:=m0.lt;have m0:=bC m0;go_wp21;refine uW (cf x.B x.N x.mb x.wm x.sm x.em f x.p x.c x.b W (L++cX x W o0 n0 s0 K0 tw) (tw+1) _ (fj.o) ⟨h0,by omega⟩ ⟨by omega,by omega⟩) ?_;go_wp21;refine(cj x.B x.N x.mb x.wm x.sm x.em f x.p x.c x.b W (L++cX x W o0 n0 s0 K0 tw) ⟨1,fr x.b (tw+1),0,0⟩ ⟨(aw (n:=1) ae),(dO h0 h1 (i:=tw+1) ad ad),(aw (n:=0) ae),(aw (n:=0) ae)⟩ qa _ (fj.o)).mono ?_;refine VK ?_;intro w2 Bk jT yf;clear q0 i1 i2 m0 m1;have q0:=KT.block Bk.o HB.o ae ae;have i1:=bC q0;have i2:=q0.lt;obtain⟨_,_,_,m0,_⟩:=(jT.o).blk;have m1:=m0.lt;have m0:=bC m0;go_wp21;refine uW (cf x.B x.N x.mb x.wm x.sm x.em f x.p x.c x.b W (L++cX x W o0 n0 s0 K0 tw++[⟨1,fr x.b (tw+1),0,0⟩]) tw _ (jT.o) ⟨h0,by omega⟩ ⟨tm,by omega⟩) ?_;go_wp21;refine uW (cf x.B x.N x.mb x.wm x.sm x.em f x.p x.c x.b W (L++cX x W o0 n0 s0 K0 tw++[⟨1,fr x.b (tw+1),0,0⟩]) (tw+1) _ (jT.o) ⟨h0,by omega⟩ ⟨by omega,by omega⟩) ?_;go_wp21;refine uW (cf x.B x.N x.mb x.wm x.sm x.em f x.p x.c x.b W (L++cX x W o0 n0 s0 K0 tw++[⟨1,fr x.b (tw+1),0,0⟩]) tw _ (jT.o) ⟨h0,by omega⟩ ⟨tm,by omega⟩) ?_;go_wp21;refine(cj x.B x.N x.mb x.wm x.sm x.em f x.p x.c x.b W (L++cX x W o0 n0 s0 K0 tw++[⟨1,fr x.b (tw+1),0,0⟩]) ⟨4,fr x.b tw,fr x.b (tw+1),fr x.b tw⟩ ⟨(aw (n:=4) ae),(dO h0 h1 tm ad),(dO h0 h1 (i:=tw+1) ad ad),(dO h0 h1 tm ad)⟩ qa _ (jT.o)).mono ?_;refine aaJ ?_;intro w3 ND xP JU;go_wp21;go_end0;refine⟨rfl,?_,(KT.ext y1).trans ND.o⟩;rw [rD.o,<-fy,<-fy];exact(xP.o)
end
def ZX (t:Int):Option Value:=if 5<=t/\t<=17 then some (.int .i64 (sI t))else none
theorem Tj (w:World):Calls prog 322 #[] w λe w'=>e=.returned (.map (some w.heap.size))/\cu w' w.heap.size ZX/\al w w':=by
 have CU:=@run_makeMap prog;have hu:prog.underlying 394=some (.map 3 _):=underlying394;refine aaA ?_;intro b0 y0;go_enter func322,ntmps322;go_upto_region 1 with(fail);go_step
 iterate 1 refine kT ?_
 obtain⟨w1,r1,b1,k1⟩:=cu.put b0 hu underlying3 (5) (.int .i64 5);have y1:=y0.trans' k1 (λi hi e=>by omega);refine Mc.aE rfl 394 (.tmp 1) (.const (.int .i64 5)) (.const (.int .i64 5)) rfl rfl rfl rfl rfl r1 ?_;obtain⟨w2,r2,b2,k2⟩:=cu.put b1 hu underlying3 (6) (.int .i64 6);have y2:=y1.trans' k2 (λi hi e=>by omega);refine Mc.aE rfl 394 (.tmp 1) (.const (.int .i64 6)) (.const (.int .i64 6)) rfl rfl rfl rfl rfl r2 ?_;obtain⟨w3,r3,b3,k3⟩:=cu.put b2 hu underlying3 (7) (.int .i64 7);have y3:=y2.trans' k3 (λi hi e=>by omega);refine Mc.aE rfl 394 (.tmp 1) (.const (.int .i64 7)) (.const (.int .i64 7)) rfl rfl rfl rfl rfl r3 ?_;obtain⟨w4,r4,b4,k4⟩:=cu.put b3 hu underlying3 (8) (.int .i64 3);have y4:=y3.trans' k4 (λi hi e=>by omega);refine Mc.aE rfl 394 (.tmp 1) (.const (.int .i64 8)) (.const (.int .i64 3)) rfl rfl rfl rfl rfl r4 ?_;obtain⟨w5,r5,b5,k5⟩:=cu.put b4 hu underlying3 (9) (.int .i64 4);have y5:=y4.trans' k5 (λi hi e=>by omega);refine Mc.aE rfl 394 (.tmp 1) (.const (.int .i64 9)) (.const (.int .i64 4)) rfl rfl rfl rfl rfl r5 ?_;obtain⟨w6,r6,b6,k6⟩:=cu.put b5 hu underlying3 (10) (.int .i64 8);have y6:=y5.trans' k6 (λi hi e=>by omega);refine Mc.aE rfl 394 (.tmp 1) (.const (.int .i64 10)) (.const (.int .i64 8)) rfl rfl rfl rfl rfl r6 ?_;obtain⟨w7,r7,b7,k7⟩:=cu.put b6 hu underlying3 (11) (.int .i64 9);have y7:=y6.trans' k7 (λi hi e=>by omega);refine Mc.aE rfl 394 (.tmp 1) (.const (.int .i64 11)) (.const (.int .i64 9)) rfl rfl rfl rfl rfl r7 ?_;obtain⟨w8,r8,b8,k8⟩:=cu.put b7 hu underlying3 (12) (.int .i64 10);have y8:=y7.trans' k8 (λi hi e=>by omega);refine Mc.aE rfl 394 (.tmp 1) (.const (.int .i64 12)) (.const (.int .i64 10)) rfl rfl rfl rfl rfl r8 ?_;obtain⟨w9,r9,b9,k9⟩:=cu.put b8 hu underlying3 (13) (.int .i64 11);have y9:=y8.trans' k9 (λi hi e=>by omega);refine Mc.aE rfl 394 (.tmp 1) (.const (.int .i64 13)) (.const (.int .i64 11)) rfl rfl rfl rfl rfl r9 ?_;obtain⟨G7,r10,S6,xS⟩:=cu.put b9 hu underlying3 (14) (.int .i64 10);have JR:=y9.trans' xS (λi hi e=>by omega);refine Mc.aE rfl 394 (.tmp 1) (.const (.int .i64 14)) (.const (.int .i64 10)) rfl rfl rfl rfl rfl r10 ?_;obtain⟨w11,r11,b11,Y4⟩:=cu.put S6 hu underlying3 (15) (.int .i64 11);have WD:=JR.trans' Y4 (λi hi e=>by omega);refine Mc.aE rfl 394 (.tmp 1) (.const (.int .i64 15)) (.const (.int .i64 11)) rfl rfl rfl rfl rfl r11 ?_;obtain⟨w12,r12,b12,k12⟩:=cu.put b11 hu underlying3 (16) (.int .i64 12);have BR:=WD.trans' k12 (λi hi e=>by omega);refine Mc.aE rfl 394 (.tmp 1) (.const (.int .i64 16)) (.const (.int .i64 12)) rfl rfl rfl rfl rfl r12 ?_;obtain⟨w13,r13,b13,k13⟩:=cu.put b12 hu underlying3 (17) (.int .i64 13);have y13:=BR.trans' k13 (λi hi e=>by omega);refine Mc.aE rfl 394 (.tmp 1) (.const (.int .i64 17)) (.const (.int .i64 13)) rfl rfl rfl rfl rfl r13 ?_;go_wp21;go_ret;refine⟨rfl,cu.nH b13 (λt=>?_),y13⟩
 by_cases h:t=5∨t=6∨t=7∨t=8∨t=9∨t=10∨t=11∨t=12∨t=13∨t=14∨t=15∨t=16∨t=17
 .rcases h with rfl|rfl|rfl|rfl|rfl|rfl|rfl|rfl|rfl|rfl|rfl|rfl|rfl<;>rfl
 .unfold ZX
  rw [af (show¬t=17 by omega),af (show¬t=16 by omega),af (show¬t=15 by omega),af (show¬t=14 by omega),af (show¬t=13 by omega),af (show¬t=12 by omega),af (show¬t=11 by omega),af (show¬t=10 by omega),af (show¬t=9 by omega),af (show¬t=8 by omega),af (show¬t=7 by omega),af (show¬t=6 by omega),af (show¬t=5 by omega)];rw [af ad]
theorem yu (w:World):Calls prog 205 #[] w λe w'=>e=.returned (.map (some w.heap.size))/\cu w' w.heap.size fV/\al w w':=by
 have CU:=@run_makeMap prog;have hu:prog.underlying 300=some (.map 3 _):=underlying300;refine aaA ?_;intro b0 y0;go_enter func205,ntmps205;go_upto_region 1 with(fail);go_step
 iterate 1 refine kT ?_
 obtain⟨w1,r1,b1,k1⟩:=cu.put b0 hu underlying3 (0) (.func (.func 263) #[] #[]);have y1:=y0.trans' k1 (λi hi e=>by omega);refine Mc.aE rfl 300 (.tmp 1) (.const (.int .i64 0)) (.func 263) rfl rfl rfl rfl rfl r1 ?_;obtain⟨w2,r2,b2,k2⟩:=cu.put b1 hu underlying3 (1) (.func (.func 264) #[] #[]);have y2:=y1.trans' k2 (λi hi e=>by omega);refine Mc.aE rfl 300 (.tmp 1) (.const (.int .i64 1)) (.func 264) rfl rfl rfl rfl rfl r2 ?_;obtain⟨w3,r3,b3,k3⟩:=cu.put b2 hu underlying3 (2) (.func (.func 265) #[] #[]);have y3:=y2.trans' k3 (λi hi e=>by omega);refine Mc.aE rfl 300 (.tmp 1) (.const (.int .i64 2)) (.func 265) rfl rfl rfl rfl rfl r3 ?_;obtain⟨w4,r4,b4,k4⟩:=cu.put b3 hu underlying3 (3) (.func (.func 266) #[] #[]);have y4:=y3.trans' k4 (λi hi e=>by omega);refine Mc.aE rfl 300 (.tmp 1) (.const (.int .i64 3)) (.func 266) rfl rfl rfl rfl rfl r4 ?_;obtain⟨w5,r5,b5,k5⟩:=cu.put b4 hu underlying3 (4) (.func (.func 267) #[] #[]);have y5:=y4.trans' k5 (λi hi e=>by omega);refine Mc.aE rfl 300 (.tmp 1) (.const (.int .i64 4)) (.func 267) rfl rfl rfl rfl rfl r5 ?_;obtain⟨w6,r6,b6,k6⟩:=cu.put b5 hu underlying3 (14) (.func (.func 268) #[] #[]);have y6:=y5.trans' k6 (λi hi e=>by omega);refine Mc.aE rfl 300 (.tmp 1) (.const (.int .i64 14)) (.func 268) rfl rfl rfl rfl rfl r6 ?_;obtain⟨w7,r7,b7,k7⟩:=cu.put b6 hu underlying3 (15) (.func (.func 268) #[] #[]);have y7:=y6.trans' k7 (λi hi e=>by omega);refine Mc.aE rfl 300 (.tmp 1) (.const (.int .i64 15)) (.func 268) rfl rfl rfl rfl rfl r7 ?_;go_wp21;go_ret;refine⟨rfl,cu.nH b7 (λt=>?_),y7⟩
 by_cases h:t=0∨t=1∨t=2∨t=3∨t=4∨t=14∨t=15
 .rcases h with rfl|rfl|rfl|rfl|rfl|rfl|rfl<;>rfl
 .unfold fV
  rw [af (show¬t=15 by omega),af (show¬t=14 by omega),af (show¬t=4 by omega),af (show¬t=3 by omega),af (show¬t=2 by omega),af (show¬t=1 by omega),af (show¬t=0 by omega)];rw [af (show¬t=0 by omega),af (show¬t=1 by omega),af (show¬t=2 by omega),af (show¬t=3 by omega),af (show¬t=4 by omega),af (show¬(t=14∨t=15)by omega)]
theorem G3 (w:World):Calls prog 204 #[] w λe w'=>e=.returned (.map (some w.heap.size))/\cu w' w.heap.size xC/\al w w':=by
 have CU:=@run_makeMap prog;have hu:prog.underlying 298=some (.map 3 _):=underlying298;refine aaA ?_;intro b0 y0;go_enter func204,ntmps204;go_upto_region 1 with(fail);go_step
 iterate 1 refine kT ?_
 obtain⟨w1,r1,b1,k1⟩:=cu.put b0 hu underlying3 (0) (.func (.func 253) #[] #[]);have y1:=y0.trans' k1 (λi hi e=>by omega);refine Mc.aE rfl 298 (.tmp 1) (.const (.int .i64 0)) (.func 253) rfl rfl rfl rfl rfl r1 ?_;obtain⟨w2,r2,b2,k2⟩:=cu.put b1 hu underlying3 (1) (.func (.func 254) #[] #[]);have y2:=y1.trans' k2 (λi hi e=>by omega);refine Mc.aE rfl 298 (.tmp 1) (.const (.int .i64 1)) (.func 254) rfl rfl rfl rfl rfl r2 ?_;obtain⟨w3,r3,b3,k3⟩:=cu.put b2 hu underlying3 (2) (.func (.func 255) #[] #[]);have y3:=y2.trans' k3 (λi hi e=>by omega);refine Mc.aE rfl 298 (.tmp 1) (.const (.int .i64 2)) (.func 255) rfl rfl rfl rfl rfl r3 ?_;obtain⟨w4,r4,b4,k4⟩:=cu.put b3 hu underlying3 (3) (.func (.func 256) #[] #[]);have y4:=y3.trans' k4 (λi hi e=>by omega);refine Mc.aE rfl 298 (.tmp 1) (.const (.int .i64 3)) (.func 256) rfl rfl rfl rfl rfl r4 ?_;obtain⟨w5,r5,b5,k5⟩:=cu.put b4 hu underlying3 (4) (.func (.func 257) #[] #[]);have y5:=y4.trans' k5 (λi hi e=>by omega);refine Mc.aE rfl 298 (.tmp 1) (.const (.int .i64 4)) (.func 257) rfl rfl rfl rfl rfl r5 ?_;obtain⟨w6,r6,b6,k6⟩:=cu.put b5 hu underlying3 (5) (.func (.func 258) #[] #[]);have y6:=y5.trans' k6 (λi hi e=>by omega);refine Mc.aE rfl 298 (.tmp 1) (.const (.int .i64 5)) (.func 258) rfl rfl rfl rfl rfl r6 ?_;obtain⟨w7,r7,b7,k7⟩:=cu.put b6 hu underlying3 (6) (.func (.func 259) #[] #[]);have y7:=y6.trans' k7 (λi hi e=>by omega);refine Mc.aE rfl 298 (.tmp 1) (.const (.int .i64 6)) (.func 259) rfl rfl rfl rfl rfl r7 ?_;obtain⟨w8,r8,b8,k8⟩:=cu.put b7 hu underlying3 (7) (.func (.func 260) #[] #[]);have y8:=y7.trans' k8 (λi hi e=>by omega);refine Mc.aE rfl 298 (.tmp 1) (.const (.int .i64 7)) (.func 260) rfl rfl rfl rfl rfl r8 ?_;obtain⟨w9,r9,b9,k9⟩:=cu.put b8 hu underlying3 (8) (.func (.func 261) #[] #[]);have y9:=y8.trans' k9 (λi hi e=>by omega);refine Mc.aE rfl 298 (.tmp 1) (.const (.int .i64 8)) (.func 261) rfl rfl rfl rfl rfl r9 ?_;obtain⟨G7,r10,S6,xS⟩:=cu.put b9 hu underlying3 (9) (.func (.func 262) #[] #[]);have JR:=y9.trans' xS (λi hi e=>by omega);refine Mc.aE rfl 298 (.tmp 1) (.const (.int .i64 9)) (.func 262) rfl rfl rfl rfl rfl r10 ?_;go_wp21;go_ret;refine⟨rfl,cu.nH S6 (λt=>?_),JR⟩
 by_cases h:t=0∨t=1∨t=2∨t=3∨t=4∨t=5∨t=6∨t=7∨t=8∨t=9
 .rcases h with rfl|rfl|rfl|rfl|rfl|rfl|rfl|rfl|rfl|rfl<;>rfl
 .unfold xC
  rw [af (show¬t=9 by omega),af (show¬t=8 by omega),af (show¬t=7 by omega),af (show¬t=6 by omega),af (show¬t=5 by omega),af (show¬t=4 by omega),af (show¬t=3 by omega),af (show¬t=2 by omega),af (show¬t=1 by omega),af (show¬t=0 by omega)];exact anB

