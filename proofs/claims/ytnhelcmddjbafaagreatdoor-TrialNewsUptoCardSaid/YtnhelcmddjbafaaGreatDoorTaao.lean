import Derived.Sort.OwnSortedInts
import Derived.Lib.OthersKept
import Derived.Test.YtnhelcmddjbafaaGreatDoorTaan
set_option maxHeartbeats 4000000
set_option maxRecDepth 100000
open Go.Proofs.Tryz
namespace Go.Proofs.YtnhelcmddjbafaaGreatDoor
open Go.RowKit
namespace Mc
variable{pos:Nat}{dst:Option Tmp}{after:Array Edge}{guard:Option (Nat×Bool)}
def ints (l:List Int):List Value:=l.map (Value.int .i64)
theorem Lf (l:List Int):(ints l).length=l.length:=by simp [ints]
theorem aca:(prog.info? 3).map (λi=>(i.zero,i.size,i.bytes))=some (some (.int .i64 0),1,8):=by kernel_rfl
theorem OR (l:List Int):eI (ints l)=true:=by
 induction l with
 |nil=>rfl
 |cons d l ih=>show eI (.int .i64 d::ints l)=true;simpa [eI,Value.oneCell']using ih
theorem Cj (w) (base) (v) (n:Nat) (xs:List Int) (iC:w.ownsRow base 3 1 v n (ints xs)) (b off m c:Nat) (l:List Int) (hm:m=l.length) (hr:Row w b off (ints l)) (hn:n+m<=100000) (iH:base<=w.heap.size):
 ∃v' w',(Builtin.append_ #[35,35] 35 #[v,.slice (some ⟨b,off,none⟩) m c]).run prog w=.ok v' w'/\w'.ownsRow base 3 1 v' (n+m) (ints (xs++l))/\Kept (λi=>v.ownBlock=some i) w w':=by
 obtain⟨i,hi,hz,h1,h2⟩:=info_parts aca;have:=pz (P:=prog) underlying35 hi hz h1 h2 dZ ae w base v n (ints xs) iC b off m c (ints l) (by rw [Lf,hm,Nat.mul_one]) hr (OR l) MB ad iH;rw [show ints xs++ints l=ints (xs++l)by simp [ints]]at this;exact this
theorem Ds {w:World} {base:Nat} {v:Value} {n:Nat} {l:List Int} (h:w.ownsRow base 3 1 v n (ints l)):n=l.length/\((v=.slice none 0 0/\l=[])∨∃g c du,v=.slice (some ⟨g,0,none⟩) n c/\base<=g/\w.heap[g]?=some (.cells du 3 (0,0))/\n<=c/\c<=maxLen/\du.size=c/\du.toList.take n=ints l):=by
 have hl:=h.1;rw [Lf,Nat.mul_one]at hl;refine⟨hl.symm,?_⟩
 rcases h.2 with⟨hv,h0⟩|⟨g,c,du,hv,hb,hc,zM,vG,gu,mN⟩
 .exact .inl ⟨hv,List.eq_nil_of_length_eq_zero ad⟩
 .rw [Nat.mul_one]at gu mN
  exact .inr ⟨g,c,du,hv,hb,hc,zM,vG,gu,mN⟩
theorem oH {w:World} {g:Nat} {du:Array Value} {n:Nat} {l:List Int} (hc:w.heap[g]?=some (.cells du 3 (0,0))) (hn:n=l.length) (mN:du.toList.take n=ints l) (j:Nat) (hj:j<l.length):w.cell? ⟨g,j,none⟩=some (.int .i64 (l.getD j 0)):=by
 have h1:(du.toList.take n)[j]?=(ints l)[j]?:=by rw [mN]
 rw [List.getElem?_take_of_lt ad]at h1;simp only [World.cell?,hc];simp only [Option.isSome_none,Bool.false_eq_true,if_false];rw [<-Array.getElem?_toList,h1];simp [ints,hj]
theorem mU {w} {base} {v} {n} {l} (x) (h:w.ownsRow base 3 1 v n (ints l)) (hn:n<=100000):
 Calls prog 163 #[v,.int .i64 x] w λe w'=>e=.returned (.bool (l.contains x))/\w=w':=by
 obtain⟨hl,hc⟩:=Ds h
 rcases hc with⟨rfl,rfl⟩|⟨g,c,du,rfl,_,Fj,_,_,_,mN⟩
 .exact(slices_Contains_int_empty none 0 x w).mono λe w' ⟨h1,h2⟩=>⟨h1,h2.symm⟩
 .refine(slices_Contains_int g 0 n c l x w ad ad (λj hj=>by rw [dU];exact oH Fj hl mN j hj)).mono λe w' ⟨h1,h2⟩=>⟨?_,h2.symm⟩
  rw [h1,lY ad]
def nU (l:List Int):List Int:=l.mergeSort λx y=>decide (x<=y)
theorem L5 {w} {base} {v} {n} {l} (h:w.ownsRow base 3 1 v n (ints l)) (hn:n<=100000):
 Calls prog 164 #[v] w λe w'=>e=.returned (.tuple #[])/\w'.ownsRow base 3 1 v n (ints (nU l))/\Kept (λi=>v.ownBlock=some i) w w':=by
 obtain⟨hl,hc⟩:=Ds h
 rcases hc with⟨rfl,rfl⟩|⟨g,c,du,rfl,hb,Fj,h1,h2,h3,mN⟩
 .have hn0:n=0:=by simpa using hl
  subst hn0;exact(slices_Sort_int_none none 0 w).mono λe w' ⟨h1,h2⟩=>⟨h1,by rw [h2,show ints (nU [])=[]by simp [nU,ints]];exact World.ownsRow_nil _ _ _ _,by rw [h2];exact kR _ _⟩
 .subst hl
  refine(slices_Sort_int g 0 c l w (holds_of_blockI Fj mN) (Array.getElem?_eq_some_iff.1 Fj).1 ad).mono λe w' ⟨h4,k,os,h5⟩=>⟨h4,?_,?_⟩
  .rw [h5];exact ownsRow_sortedI aC hb Fj h1 h2 ad
  .rw [h5];exact Kept.sl (grownBy_sortedI _)
def pv (w:World) (k:Nat) (s:ByteArray) (pos:Nat):Prop:=w.heap[k]?=some (.stringIter s pos)
theorem pv.lt {w} {k} {s} (h:pv w k s pos):k<w.heap.size:=(Array.getElem?_eq_some_iff.1 h).1
theorem pv.kept {S} {w w'} {k} {s:ByteArray} (h:pv w k s pos) (hk:Kept S w w') (hs:¬S k):pv w' k s pos:=(hk.block k h.lt hs).trans h
theorem pv.next {w} {k} {s} (h:pv w k s pos) (hp:pos<s.size) (ha:(s[pos]'hp).toNat<128):
 ∃w',(∀ty,(Instr.next (.pointer (some ⟨k,0,none⟩)) true ty).run prog w=.ok (.tuple #[.bool true,.int .i64 pos,.int .i32 (s[pos]'hp).toNat]) w')/\pv w' k s (pos+1)/\Kept (·=k) w w':=by
 refine⟨w.iterAt k s (pos+1),λty=>Lib.run_next_ascii_at w k s pos ty h hp ha,?_,?_⟩
 .unfold pv World.iterAt
  simp [h.lt]
 .refine⟨rfl,rfl,rfl,by simp [World.iterAt],λj hj hn=>?_⟩
  unfold World.iterAt;simp only;rw [Array.getElem?_setIfInBounds];rw [af (λe=>hn e.symm)]
theorem pv.done {w} {k} {s} (h:pv w k s pos) (hp:¬pos<s.size) (ty:TypeId):(Instr.next (.pointer (some ⟨k,0,none⟩)) true ty).run prog w=.ok (.tuple #[.bool false]) w:=Lib.run_next_end_at w k s pos ty h hp
def gS (i:Ins) (c:UInt8) (k:Nat):Bool:=c !=119||(k==0&&i.op !=17)||(k==1&&i.op==15)
def cx (i:Ins) (h:List UInt8):Nat->List Int
 |0=>[]
 |k+1=>if gS i (h.getD k 0) k=true∨(cx i h k).contains (gl i k)=true then cx i h k else cx i h k++[gl i k]
theorem kl {i} {h} {k} (hs:gS i (h.getD k 0) k=true∨(cx i h k).contains (gl i k)=true):cx i h (k+1)=cx i h k:=av hs
theorem vd {i} {h} {k:Nat} (hs:¬(gS i (h.getD k 0) k=true∨(cx i h k).contains (gl i k)=true)):cx i h (k+1)=cx i h k++[gl i k]:=af hs
theorem jl (i:Ins) (h:List UInt8):∀k,(cx i h k).length<=k
 |0=>by simp [cx]
 |k+1=>by
  have:=jl i h k;unfold cx
  split
  .omega
  .simp;omega
def dY (i:Ins):List Int:=if iL i.op=true then cx i (fP i.op.toNat) (fP i.op.toNat).length else []
def J1 (w w':World) (e:Ending) (l:List Int):Prop:=∃v,e=.returned v/\w'.ownsRow w.heap.size 3 1 v l.length (ints l)/\al w w'
theorem Oi (k:Nat):∀c∈fP k,c.toNat<128:=by
 unfold fP
 split<;>decide
theorem OS (i) (w) (eN:OpsAt w) (nN:iL i.op=true):Calls prog 160 #[.agg i.cells] w λe w'=>J1 w w' e (dY i):=by
 have aK:al w _:=dS w (.cells i.cells 71);have Iq:=bN w 71 i.cells;have my:=J (eN.ext aK);clear eN;have HO:=J nN;clear nN;obtain⟨h,hh⟩:=nm' (fP i.op.toNat);obtain⟨R,hR⟩:=nm' (dY i);rw [<-hR];have hRR:R=cx i h h.length:=by rw [hR,dY,av HO.o,hh]
 have hlen:h.length<=3:=by rw [hh];exact wQ _
 have HAS:gq (∀c∈h,c.toNat<128):=J (by rw [hh];exact Oi _);have HH:=J hh;have HR:=J hRR;clear hh hR hRR;go_enter func160,ntmps160;go_wp21;refine kU (G4 i _) λw1 aB=>?_;have K':=aB.alloc (.cells #[.int .i64 i.a,.int .i64 i.b,.int .i64 i.c] 322);have dW:=bX Iq K';have Oh:=bN w1 322 #[.int .i64 i.a,.int .i64 i.b,.int .i64 i.c];have y1:=aK.trans K';have lI:=(bX Iq aB).lt;have hh0:=bH (bX Iq aB);have hg0:=bG (bX Iq aB);have aiJ:=J (my.o.ext K');clear Iq aK my aB K';go_upto_region 3 with(fail);generalize (w1.alloc (.cells #[.int .i64 i.a,.int .i64 i.b,.int .i64 i.c] 322))=W1 at dW Oh y1 aiJ⊢;clear hh0 hg0;generalize w1.heap.size=tb at Oh lI⊢;have KU:=bH dW;have Nc:=bG dW;go_wp21;refine(wR i _ aiJ.o).mono ?_;rintro e w2 ⟨e2,bM⟩;replace e2:e=.returned (.string ⟨h.toArray⟩):=by rw [e2,AK,av HO.o,HH.o];rfl
 subst e2;have kI:=bX dW bM;have hT2:=bX Oh bM;have y2:=y1.trans bM;have hI3:=aj.alloc kI (.stringIter ⟨h.toArray⟩ 0);have hT3:=aj.alloc hT2 (.stringIter ⟨h.toArray⟩ 0);have y3:=y2.alloc (.stringIter ⟨h.toArray⟩ 0);have it3:pv (w2.alloc (.stringIter ⟨h.toArray⟩ 0)) w2.heap.size ⟨h.toArray⟩ 0:=heap_alloc_new w2 _;have lT:=hT2.lt;clear KU Nc dW Oh y1 kI hT2 y2 bM;go_wp21;have hw3:w2.iter ⟨h.toArray⟩ 0=w2.alloc (.stringIter ⟨h.toArray⟩ 0):=rfl;rw [hw3];clear hw3;generalize (w2.alloc (.stringIter ⟨h.toArray⟩ 0))=W3 at hI3 hT3 y3 it3⊢;generalize w2.heap.size=it at it3 lT⊢
 go_loopg [3] h.length (λgk t3 wr=>∃p,gk=h.length - p/\p<=h.length/\pv wr it ⟨h.toArray⟩ p/\wr.ownsRow (it+1) 3 1 t3 (cx i h p).length (ints (cx i h p))/\aj wr w.heap.size 71 i.cells/\aj wr tb 322 #[.int .i64 i.a,.int .i64 i.b,.int .i64 i.c]/\al w wr)
 case atStart=>exact⟨0,by omega,by omega,it3,World.ownsRow_nil _ _ _ _,hI3,hT3,y3⟩
 case round=>
  obtain⟨p,hgk,hp,hit,ho,hI,hT,hx⟩:=hrel;have HGK:=J hgk;have Nr:=J (λj hj=>(ho.lt j hj).1);clear hgk
  by_cases aX:p<h.length
  .have hps:p<(⟨h.toArray⟩:ByteArray).size:=show p<h.toArray.size by simpa using aX
   obtain⟨c,hc⟩:=nm' (h[p]);have hcN:((⟨h.toArray⟩:ByteArray)[p]'hps).toNat=c.toNat:=by rw [hc];rfl
   have hca:c.toNat<128:=by rw [hc];exact HAS.o _ (cK aX)
   have CP:h.getD p 0=c:=by simp [aX,hc]
   obtain⟨wn,eU,yw,Wg⟩:=hit.next hps (by rw [hcN];exact hca);rw [hcN]at eU;have HGD:=J CP;have n8:=dy ho Wg (λj hj e=>by have:=Nr.o j hj;omega);have X8:=bK hI Wg ad;have TW:=bK hT Wg ad;have aqZ:=bC X8;have yn:al w wn:=hx.trans' Wg (λj hj e=>by omega);clear hc hcN CP hit ho hI hT hx Wg;obtain⟨cn,tg⟩:=nm' c.toNat;rw [<-tg]at eU
   have HC:gq ((c !=119)=((cn:Int) !=119)):=J (by
    by_cases e:c=119
    .subst e;rw [tg];rfl
    .have h1:¬cn=119:=λf=>e (UInt8.toNat_inj.1 (by rw [<-tg,f];rfl))
     rw [show(c !=119)=true by simpa using e,show((cn:Int) !=119)=true by simp;omega])
   clear tg hca
   rcases(by omega:p=0∨p=1∨p=2)with rfl|rfl|rfl
   .cases ie:((cn:Int) !=119)
    .cases aqY:(i.op !=17)
     .have AW:gS i c 0=false:=by simp [*,gS,HC.o]
      have HSK:=J AW;clear AW;have qx:=bC TW;have HO':=J n8;go_wp21;refine(mU (gl i 0) n8 (by have:=jl i h 0;omega)).mono ?_;rintro e w4 ⟨rfl,rfl⟩
      cases CN:(cx i h 0).contains (gl i 0)
      .have zU:cx i h (0+1)=cx i h 0++[gl i 0]:=vd (by rw [HGD.o,HSK.o,CN];simp)
       have JY:=J zU;clear zU CN;go_upto_region 10 with(fail);go_step
       iterate 5 refine kT ?_
       obtain⟨v2,w5,Wr,Gm,mY⟩:=Cj (wn.alloc (.cells #[.int .i64 (gl i 0)] 3)) _ _ _ (cx i h 0) (n8.alloc _) wn.heap.size 0 1 1 [gl i 0] rfl (by simpa [ints]using Row.cR (bN wn 3 #[.int .i64 (gl i 0)])) (by have:=jl i h 0;omega) (by have:=yw.lt;simp;omega);have V8:=Nr.o;have hlI:=X8.lt;have hlT:=TW.lt;have Ot:=yw.lt;have k5:Kept (λj=>it<j) wn w5:=(dS wn (.cells #[.int .i64 (gl i 0)] 3)).trans' mY (λj hj e=>by have:=V8 j e;omega);refine ahW ?_;intro Oo hI5 hT5 y5;clear Wr V8;go_wp21
       go_roundg (h.length - (0+1))
       case measure=>have:=HGK.o;omega
       case rel=>exact⟨0+1,rfl,aX,Oo,by rw [JY.o,cy];exact Gm,hI5,hT5,y5⟩
      .have zU:cx i h (0+1)=cx i h 0:=kl (.inr CN)
       have JY:=J zU;clear zU CN;go_wp21
       go_roundg (h.length - (0+1))
       case measure=>have:=HGK.o;omega
       case rel=>exact⟨0+1,rfl,aX,yw,by rw [JY.o];exact n8,X8,TW,yn⟩
     .have AW:gS i c 0=true:=by simp [*,gS,HC.o]
      exact anE
    .have AW:gS i c 0=true:=by simp [*,gS,HC.o]
     exact anE
   .cases ie:((cn:Int) !=119)
    .cases aqX:(i.op==15)
     .have AW:gS i c 1=false:=by simp [*,gS,HC.o]
      have HSK:=J AW;clear AW;have qx:=bC TW;have HO':=J n8;go_wp21;refine(mU (gl i 1) n8 (by have:=jl i h 1;omega)).mono ?_;rintro e w4 ⟨rfl,rfl⟩
      cases CN:(cx i h 1).contains (gl i 1)
      .have zU:cx i h (1+1)=cx i h 1++[gl i 1]:=vd (by rw [HGD.o,HSK.o,CN];simp)
       have JY:=J zU;clear zU CN;go_upto_region 10 with(fail);go_step
       iterate 5 refine kT ?_
       obtain⟨v2,w5,Wr,Gm,mY⟩:=Cj (wn.alloc (.cells #[.int .i64 (gl i 1)] 3)) _ _ _ (cx i h 1) (n8.alloc _) wn.heap.size 0 1 1 [gl i 1] rfl (by simpa [ints]using Row.cR (bN wn 3 #[.int .i64 (gl i 1)])) (by have:=jl i h 1;omega) (by have:=yw.lt;simp;omega);have V8:=Nr.o;have hlI:=X8.lt;have hlT:=TW.lt;have Ot:=yw.lt;have k5:Kept (λj=>it<j) wn w5:=(dS wn (.cells #[.int .i64 (gl i 1)] 3)).trans' mY (λj hj e=>by have:=V8 j e;omega);refine ahW ?_;intro Oo hI5 hT5 y5;clear Wr V8;go_wp21
       go_roundg (h.length - (1+1))
       case measure=>have:=HGK.o;omega
       case rel=>exact⟨1+1,rfl,aX,Oo,by rw [JY.o,cy];exact Gm,hI5,hT5,y5⟩
      .have zU:cx i h (1+1)=cx i h 1:=kl (.inr CN)
       have JY:=J zU;clear zU CN;go_wp21
       go_roundg (h.length - (1+1))
       case measure=>have:=HGK.o;omega
       case rel=>exact⟨1+1,rfl,aX,yw,by rw [JY.o];exact n8,X8,TW,yn⟩
     .have AW:gS i c 1=true:=by simp [*,gS,HC.o]
      exact anF
    .have AW:gS i c 1=true:=by simp [*,gS,HC.o]
     exact anF
   .cases ie:((cn:Int) !=119)
    .have AW:gS i c 2=false:=by simp [*,gS,HC.o]
     have HSK:=J AW;clear AW;have qx:=bC TW;have HO':=J n8;go_wp21;refine(mU (gl i 2) n8 (by have:=jl i h 2;omega)).mono ?_;rintro e w4 ⟨rfl,rfl⟩
     cases CN:(cx i h 2).contains (gl i 2)
     .have zU:cx i h (2+1)=cx i h 2++[gl i 2]:=vd (by rw [HGD.o,HSK.o,CN];simp)
      have JY:=J zU;clear zU CN;go_upto_region 10 with(fail);go_step
      iterate 5 refine kT ?_
      obtain⟨v2,w5,Wr,Gm,mY⟩:=Cj (wn.alloc (.cells #[.int .i64 (gl i 2)] 3)) _ _ _ (cx i h 2) (n8.alloc _) wn.heap.size 0 1 1 [gl i 2] rfl (by simpa [ints]using Row.cR (bN wn 3 #[.int .i64 (gl i 2)])) (by have:=jl i h 2;omega) (by have:=yw.lt;simp;omega);have V8:=Nr.o;have hlI:=X8.lt;have hlT:=TW.lt;have Ot:=yw.lt;have k5:Kept (λj=>it<j) wn w5:=(dS wn (.cells #[.int .i64 (gl i 2)] 3)).trans' mY (λj hj e=>by have:=V8 j e;omega);refine ahW ?_;intro Oo hI5 hT5 y5;clear Wr V8;go_wp21
      go_roundg (h.length - (2+1))
      case measure=>have:=HGK.o;omega
      case rel=>exact⟨2+1,rfl,aX,Oo,by rw [JY.o,cy];exact Gm,hI5,hT5,y5⟩
     .have zU:cx i h (2+1)=cx i h 2:=kl (.inr CN)
      have JY:=J zU;clear zU CN;go_wp21
      go_roundg (h.length - (2+1))
      case measure=>have:=HGK.o;omega
      case rel=>exact⟨2+1,rfl,aX,yw,by rw [JY.o];exact n8,X8,TW,yn⟩
    .have AW:gS i c 2=true:=by simp [*,gS,HC.o]
     have zU:cx i h (2+1)=cx i h 2:=kl (.inl (by rw [HGD.o];exact AW));have JY:=J zU;clear AW zU;go_wp21
     go_roundg (h.length - (2+1))
     case measure=>have:=HGK.o;omega
     case rel=>exact⟨2+1,rfl,aX,yw,by rw [JY.o];exact n8,X8,TW,yn⟩
  .have eU:=λty=>hit.done (show¬p<h.toArray.size by simpa using aX) ty
   have ep:p=h.length:=by omega
   rw [ep,<-HR.o]at ho;clear ep;go_wp21;go_ret;exact⟨_,rfl,ii ho ad,hx⟩
def jW (i:Ins):Int:=if Lib.hasPrefix (AK i).data.toList [119]=true/\¬i.op=16 then i.a else -1
theorem Li (i) (w) (eN:OpsAt w):Calls prog 161 #[.agg i.cells] w λe w'=>e=.returned (.int .i64 (jW i))/\al w w':=by
 have aK:al w _:=dS w (.cells i.cells 71);have Iq:=bN w 71 i.cells;have my:=J (eN.ext aK);clear eN;obtain⟨P,hP⟩:=nm' (Lib.hasPrefix (AK i).data.toList [119]);obtain⟨W,hW⟩:=nm' (jW i);rw [<-hW];have HW:gq (W=if P=true/\¬i.op=16 then i.a else -1):=J (by rw [hW,hP];rfl);have HP:=J hP;clear hP hW;go_enter func161,ntmps161;go_wp21;refine kU (wR i _ my.o) λw1 aB=>?_;go_wp21;refine(strings_HasPrefix (AK i) ⟨#[119]⟩ _).mono ?_;rintro e w2 ⟨e2,rfl⟩;replace e2:e=.returned (.bool P):=by rw [e2,HP.o]
 subst e2;have dW:=bX Iq aB;have hc1:=bC dW;have Bt:=dW.lt;have y1:=aK.trans aB;clear Iq aK aB
 cases P
 .go_wp21
  go_ret;exact⟨cL (by rw [HW.o];simp),y1⟩
 .cases CJ:(i.op !=16)
  .go_wp21
   go_ret;exact⟨cL (by rw [HW.o];simp at CJ;simp [CJ]),y1⟩
  .go_wp21
   go_ret;exact⟨cL (by rw [HW.o];simp at CJ;simp [CJ]),y1⟩
def fS (i:Ins) (m:List Int):List Int:=if i.op=15/\0<=gC i m/\(dY i).contains (gC i m)=false then dY i++[gC i m]else dY i
def dI (i:Ins) (m:List Int):Int:=if i.op=16 then gC i m else if i.op=15/\gC i m<0 then -1 else jW i
def dq (c:List Ins) (pc halt:Int) (m:List Int):List Int×Int:=
 if halt=0 then(match da c pc m.length with|none=>([],-1)|some i=>(nU (fS i m),dI i m))else([],-1)
theorem Ut {i} {m} (h:(i.op==15)=false):fS i m=dY i:=af (λf=>by rw [f.1]at h;cases h)
theorem Ly {i} {m} (h:¬0<=gC i m):fS i m=dY i:=af (λf=>h f.2.1)
theorem Pj {i} {m} (h:(dY i).contains (gC i m)=true):fS i m=dY i:=af (λf=>by rw [f.2.2]at h;cases h)
theorem Ph {i} {m} (Gg:(i.op==15)=true) (h0:0<=gC i m) (h:(dY i).contains (gC i m)=false):fS i m=dY i++[gC i m]:=av ⟨by simpa using Gg,h0,h⟩
theorem Ur {i} {m} (h:(i.op==16)=true):fS i m=dY i:=af (λf=>by rw [f.1]at h;cases h)
theorem Pn {i} {m} (h:(i.op==16)=true):dI i m=gC i m:=av Eg
theorem De {i} {m} (CJ:(i.op==16)=false) (h:(i.op==15)=false∨0<=gC i m):dI i m=jW i:=by
 have h1:¬i.op=16:=by simpa using CJ
 unfold dI;rw [af h1,af];rintro⟨e,f⟩
 rcases h with h|h
 .rw [e]at h;cases h
 .omega
theorem IU {i} {m} (CJ:(i.op==16)=false) (Gg:(i.op==15)=true) (h:¬0<=gC i m):dI i m=-1:=by
 have h1:¬i.op=16:=by simpa using CJ
 unfold dI;rw [af h1,av ⟨by simpa using Gg,by omega⟩]
theorem DD (i:Ins):(dY i).length<=3:=by
 unfold dY
 split
 .exact ay (jl _ _ _) (wQ _)
 .simp
def yj (w w':World) (e:Ending) (r:List Int×Int):Prop:=∃v,e=.returned (.tuple #[v,.int .i64 r.2])/\w'.ownsRow w.heap.size 3 1 v r.1.length (ints r.1)/\al w w'
theorem LA (A) (cn cap) (pc halt) (M) (n eD:Nat) (w:World) (hg:dj pc halt n=true) (hh:¬halt=0):
 Calls prog 110 #[.slice A cn cap,.agg (ai pc M n eD halt)] w λe w'=>yj w w' e ([],-1):=by
 have aK:al w _:=dS w (.cells (ai pc M n eD halt) 47);have kV:=bN w 47 (ai pc M n eD halt);have HG:=J hg;have bh:(halt !=0)=true:=by simpa using hh
 clear hg hh;go_enter func110,ntmps110;go_wp21;refine kU (fM pc halt M n eD _) λw1 aB=>?_;rw [HG.o];have hc1:=bC (bX kV aB);have Bt:=(bX kV aB).lt;go_wp21
 go_ret2
 exact⟨_,rfl,World.ownsRow_nil _ _ _ _,aK.trans aB⟩
theorem Uu (A) (b off cn cap) (c) (pc) (b' bR n eD) (m) (w:World) (h:lm w A b off cn c b' bR n pc 0 m):
 Calls prog 110 #[.slice A cn cap,.agg (ai pc (some ⟨b',bR,none⟩) n eD 0)] w λe w'=>yj w w' e (dq c pc 0 m):=by
 obtain⟨eN,tf,aG,tg,jD,hn,hg,iB,CV⟩:=h;obtain⟨h1,h2,h3,h4,h5,h6⟩:=bU hg;have⟨my,HA,HR,rv,HN,HG,HO,VS⟩:=J8' eN tf aG tg hn hg iB CV;clear eN tf aG tg hn hg iB CV;have aK:al w _:=dS w (.cells (ai pc (some ⟨b',bR,none⟩) n eD 0) 47);have kV:=bN w 47 (ai pc (some ⟨b',bR,none⟩) n eD 0);go_enter func110,ntmps110;go_wp21;refine kU (fM pc 0 (some ⟨b',bR,none⟩) n eD _) λw1 aB=>?_;rw [HG.o];have ed:=bX kV aB;have hc1:=bC ed;have Bt:=ed.lt;have y1:=aK.trans aB;clear kV aK aB;go_wp21;refine(LD w.heap.size pc 0 (some ⟨b',bR,none⟩) n eD A b off c cn cap _ rv.o jD h3 HA.o (my.o.ext y1) ed (λh0=>(HR.o h0).ext y1)).mono ?_;rintro e w2 ⟨e2,bM⟩
 cases eU:da c pc n with
 |none=>
  replace e2:e=.returned (.tuple #[.agg (Ins.cells ⟨0,0,0,0⟩),.bool false]):=by rw [e2,eU];rfl
  subst e2;have HRS:gq (dq c pc 0 m=([],-1)):=J (by simp [dq,<-HN.o,eU]);clear eU;go_wp21
  go_ret2
  exact⟨.slice none 0 0,by rw [HRS.o];rfl,by rw [HRS.o];exact World.ownsRow_nil _ _ _ _,(y1.trans bM).alloc _⟩
 |some i=>
  replace e2:e=.returned (.tuple #[.agg i.cells,.bool true]):=by rw [e2,eU];rfl
  subst e2;have YN:=oG eU;rw [<-rv.o]at YN;have HRI:=J YN;have HRS:gq (dq c pc 0 m=(nU (fS i m),dI i m)):=J (by simp [dq,<-HN.o,eU]);have HIS:gq (iL i.op=true):=J (by have:=gK YN;simp [iL];omega);clear eU YN;have x2:=bM.alloc (.cells i.cells 71);have kI:=bN w2 71 i.cells;have gX:=bX ed x2;have y2:=y1.trans x2;have Iw:=(bX ed bM).lt;clear hc1 ed bM x2;go_upto_region 6 with(fail);generalize (w2.alloc (.cells i.cells 71))=W2 at kI gX y2⊢;generalize w2.heap.size=ic at kI Iw⊢;have lI:=kI.lt;refine eW (λw3=>al W2 w3) [(0,1),(2,1),(1,0),(3,0),(4,2),(5,2)] ?_;refine eX ?_
  repeat first|refine bV ?_|refine cF dQ amr ?_|refine cD dQ ?_
  refine ap (λK hK=>?_);go_simp;go_wp21;refine(OS i _ ((my.o.ext y2).ext ((kR _ W2).drew)) HIS.o).mono ?_;rintro e w3 ⟨v3,rfl,RG,ea⟩;have x3:al W2 w3:=((kR _ W2).drew).trans ea;refine hK.out _ _ (λ_=>x3) ?_;clear hK K
  repeat first|refine bV ?_|refine cF x3 amr ?_|refine cD x3 ?_
  refine ap (λK hK=>?_);go_simp;go_wp21;refine kU (Li i _ ((my.o.ext y2).ext x3)) λw4 eV=>?_;have x4:=x3.trans eV;refine hK.out _ _ (λ_=>x4) ?_;clear hK K;refine fc ?_;have Ow:=aQ RG eV;have hI4:=bX kI x4;have rU:=bX gX x4;have y4:=y2.trans x4;have mg:∀j,v3.ownBlock=some j->W2.heap.size<=j:=λj hj=>(RG.lt j hj).1;have sM:=J mg;clear kI gX ea eV RG mg;have hh4:=bH hI4;have hg4:=bG hI4;have lW:=x4.size;clear x3 x4;go_wp21;refine(eh i cn w.heap.size pc 0 b' bR n eD m _ HN.o h2 HRI.o HO.o rU (VS.o.ext y4)).mono ?_;rintro e w5 ⟨e5,iY⟩;obtain⟨F,hF⟩:=nm' (gC i m);rw [<-hF]at e5;subst e5;have HF:=J hF;clear hF;have Gm:=aQ Ow iY;have hI5:=bX hI4 iY;have y5:=y4.trans iY;have l5:=iY.size;clear hI4 rU y4 hh4 hg4 Ow iY;have hc5:=bC hI5;have lI5:=hI5.lt
  cases b16:(i.op==16)
  .cases b15:(i.op==15)
   .have HMP:gq (fS i m=dY i):=J (Ut b15)
    have HMW:gq (dI i m=jW i):=J (De b16 (.inl b15));exact adB
   .by_cases hF0:0<=F
    .have HMW:gq (dI i m=jW i):=J (De b16 (.inr adp))
     have bF:decide (F<0)=false:=by simp;omega
     go_wp21;refine(mU F Gm ado).mono ?_;rintro e w6 ⟨rfl,rfl⟩
     cases CN:(dY i).contains F
     .have HMP:gq (fS i m=dY i++[F]):=J (by rw [HF.o];exact Ph b15 adp (by rw [<-HF.o];exact CN))
      clear CN;go_upto_region 13 with(fail);go_step
      iterate 3 refine kT ?_
      obtain⟨v7,w7,hr7,RH,nM⟩:=Cj (w5.alloc (.cells #[.int .i64 F] 3)) _ _ _ (dY i) (Gm.alloc _) w5.heap.size 0 1 1 [F] rfl (by simpa [ints]using Row.cR (bN w5 3 #[.int .i64 F])) ado kQ;refine cJ rfl (.tmp 55) (.tmp 57) 35 rfl rfl rfl rfl hr7 ?_;clear hr7;have y7:al w w7:=(y5.alloc _).trans' nM (λj hj e=>by have:=sM.o j e;omega);have akb:∀j,v7.ownBlock=some j->W2.heap.size<=j:=λj hj=>(RH.lt j hj).1;have aoc:=J akb;clear akb nM Gm;go_wp21;refine(L5 RH ado).mono ?_;rintro e w8 ⟨rfl,ho8,zJ⟩;have y8:al w w8:=y7.trans' zJ (λj hj e=>by have:=aoc.o j e;omega);have ho9:=ii ho8 (show w.heap.size<=W2.heap.size by omega);clear zJ ho8 RH;go_wp21
      go_ret2
      refine⟨v7,by rw [HRS.o,HMW.o];rfl,?_,y8⟩;rw [HRS.o,HMP.o]
      simpa [nU]using ho9
     .have HMP:gq (fS i m=dY i):=J (Pj (by rw [<-HF.o];exact CN))
      clear CN;exact adB
    .have HMP:gq (fS i m=dY i):=J (Ly adp)
     have HMW:gq (dI i m=-1):=J (IU b16 b15 adp);have bF:decide (F<0)=true:=by simp;omega
     exact adB
  .have HMP:gq (fS i m=dY i):=J (Ur b16)
   have HMW:gq (dI i m=F):=J (by rw [HF.o];exact Pn b16);exact adB
theorem uX (A) (b off cn cap) (c) (pc halt) (b' bR n eD) (m) (w:World) (h:lm w A b off cn c b' bR n pc halt m):
 Calls prog 110 #[.slice A cn cap,.agg (ai pc (some ⟨b',bR,none⟩) n eD halt)] w λe w'=>yj w w' e (dq c pc halt m):=by
 by_cases hh:halt=0
 .subst hh
  exact Uu A b off cn cap c pc b' bR n eD m w h
 .rw [show dq c pc halt m=([],-1)by simp [dq,hh]]
  exact LA A cn cap pc halt _ n eD w h.right hh
theorem ww:gB prog 271=true:=by kernel_rfl
theorem tG:dw prog 271=some 3:=by kernel_rfl
theorem Au {eY} {x} {pos} {a} {w} {K} {Q:Exit->Act->World->Prop} (hx:eG (a.eval x)=true) (hh:has w (aL (a.eval x)) (aM (a.eval x)) 3=true):
 Oper.wp prog ⟨dst,.load 271 x,eY,pos,after,guard⟩ a w K Q=K (a.put dst (.agg (gets w (aL (a.eval x)) (aM (a.eval x)) 3))) w:=bB 3 ww tG hx hh
theorem Jo {ρ} {eY} {x} {pos} {w} (hx:eG (ρ x)=true) (hh:has w (aL (ρ x)) (aM (ρ x)) 3=true):
 (execOp ρ ⟨dst,.load 271 x,eY,pos,after,guard⟩).run prog w=.ok (.value (.agg (gets w (aL (ρ x)) (aM (ρ x)) 3))) w:=aH 3 ww tG hx hh
theorem IP (w) (g off) (hh:has w g off 3=true):(loadVar 271 ⟨g,off,none⟩).run prog w=.ok (.agg (gets w g off 3)) w:=cN prog w _ g off 3 ww tG hh
attribute [go_sem] ww tG
attribute [go_sem↓high] Au IP Jo
attribute [go_sem high] Au
structure Wd where (at_ Wz:Int) (pa:Option Addr) (pn pk:Nat)
abbrev Wd.cells (d:Wd):Array Value:=#[.int .i64 d.at_,.int .i32 d.Wz,.slice d.pa d.pn d.pk]
attribute [go_sem] Wd.cells
structure Wl where (at_ Wz:Int) (path:List Dg)
def EH (l:List Wd):List Value:=l.flatMap λd=>d.cells.toList
theorem qR (l:List Wd):(EH l).length=l.length*3:=by
 induction l with
 |nil=>rfl
 |cons d l ih=>show(d.cells.toList++EH l).length=_;rw [cy,ih];simp;omega
theorem Z_:∀(l:List Wd) (k:Nat) (hk:k<l.length),((EH l).drop (k*3)).take 3=(l[k]).cells.toList
 |d::l,0,_=>by simp [EH]
 |d::l,k+1,hk=>by
  have ih:=Z_ l k (by simpa using hk);show((d.cells.toList++EH l).drop ((k+1)*3)).take 3=_;rw [show(k+1)*3=d.cells.toList.length+k*3 by simp;omega,List.drop_append,List.drop_of_length_le ad]
  simpa using ih
end Mc
section
open Mc
theorem Row.wd {w} {b off} {l} (h:Row w b off (EH l)) (k:Nat) (hk:k<l.length):Proofs.YtnhelcmddjbafaaGreatDoor.has w b (off+k*3) 3=true/\gets w b (off+k*3) 3=(l[k]).cells:=by
 have:=h.sub (k*3) 3 (by rw [qR];omega);rw [Z_ l k hk]at this;exact this
end
namespace Mc
variable{ls:List Wl}{b' bR:Nat}
def mL (w:World) (A:Option Addr) (n:Nat) (path:List Dg):Prop:=∃b off,oP w A b off n path
theorem mL.ext {w w'} {A:Option Addr} {n:Nat} {path:List Dg} (h:mL w A n path) (hx:al w w'):mL w' A n path:=by
 obtain⟨b,off,h⟩:=h;exact⟨b,off,h.ext hx⟩
theorem mL.kept {S} {w w'} {A} {n} {path:List Dg} (h:mL w A n path) (hx:Kept S w w') (hs:∀i,S i->∀du fr,¬w.heap[i]?=some (.cells du 25 fr)):mL w' A n path:=by
 obtain⟨b,off,h⟩:=h;exact⟨b,off,h.kept hx hs⟩
structure zr (w:World) (d:Wd) (l:Wl):Prop where
 at_:d.at_=l.at_
 Wz:d.Wz=l.Wz
 path:mL w d.pa d.pn l.path
theorem zr.ext {w w'} {d:Wd} {l:Wl} (h:zr w d l) (hx:al w w'):zr w' d l:=⟨h.at_,h.Wz,h.path.ext hx⟩
inductive h_ (w:World):List Wd->List Wl->Prop where
 |nil:h_ w [] []
 |cons {d:Wd} {l:Wl} {ds:List Wd} {ls:List Wl}:zr w d l->h_ w ds ls->h_ w (d::ds) (l::ls)
theorem h_.ext {w w':World} (hx:al w w'):∀{ds:List Wd} {ls:List Wl},h_ w ds ls->h_ w' ds ls
 |_,_,.nil=>.nil
 |_,_,.cons h r=>.cons (h.ext hx) (r.ext hx)
theorem h_.kept {S:Nat->Prop} {w w':World} (hx:Kept S w w') (hs:∀i,S i->∀du fr,¬w.heap[i]?=some (.cells du 25 fr)):∀{ds:List Wd} {ls:List Wl},h_ w ds ls->h_ w' ds ls
 |_,_,.nil=>.nil
 |_,_,.cons h r=>.cons ⟨h.at_,h.Wz,h.path.kept hx hs⟩ (r.kept hx hs)
theorem h_.len {w:World}:∀{ds:List Wd} {ls:List Wl},h_ w ds ls->ds.length=ls.length
 |_,_,.nil=>rfl
 |_,_,.cons _ r=>by simp [r.len]
theorem h_.snoc {w:World} {d:Wd} {l:Wl} (h:zr w d l):∀{ds:List Wd} {ls:List Wl},h_ w ds ls->h_ w (ds++[d]) (ls++[l])
 |_,_,.nil=>.cons h .nil
 |_,_,.cons h' r=>.cons h' (r.snoc h)
theorem h_.get {w:World}:∀{ds:List Wd} {ls:List Wl} (_:h_ w ds ls) (k:Nat) (h1:k<ds.length) (h2:k<ls.length),zr w ds[k] ls[k]
 |_,_,.cons h _,0,_,_=>h
 |_,_,.cons _ r,k+1,h1,h2=>r.get k (by simpa using h1) (by simpa using h2)
theorem Vo (l:List Wd):eI (EH l)=true:=by
 induction l with
 |nil=>rfl
 |cons d l ih=>show eI (d.cells.toList++EH l)=true;simpa [eI,Value.oneCell']using ih
theorem aoP (w) (base) (v) (n:Nat) (xs:List Wd) (iC:w.ownsRow base 271 3 v n (EH xs)) (b off m c:Nat) (l:List Wd) (hm:m=l.length) (hr:Row w b off (EH l)) (hn:n+m<=100000) (iH:base<=w.heap.size):
 ∃v' w',(Builtin.append_ #[72,72] 72 #[v,.slice (some ⟨b,off,none⟩) m c]).run prog w=.ok v' w'/\w'.ownsRow base 271 3 v' (n+m) (EH (xs++l))/\Kept (λi=>v.ownBlock=some i) w w':=by
 obtain⟨i,hi,hz,h1,h2⟩:=info_parts agV;have:=pz (P:=prog) underlying72 hi hz h1 h2 dZ ae w base v n (EH xs) iC b off m c (EH l) (by rw [qR,hm]) hr (Vo l) MB ad iH;rw [show EH xs++EH l=EH (xs++l)by simp [EH]]at this;exact this
structure hJ (w:World) (A:Option Addr) (n:Nat) (ls:List Wl):Prop where
 len:n=ls.length
 row:∃b off ds,(0<n->A=some ⟨b,off,none⟩)/\(0<n->Row w b off (EH ds))/\(0<n->∃du fr,w.heap[b]?=some (.cells du 271 fr))/\h_ w ds ls
theorem hJ.kept {S} {w w'} {A} {n} (h:hJ w A n ls) (hx:Kept S w w') (hs:∀i,S i->∀du fr,¬w.heap[i]?=some (.cells du 25 fr)) (K7:∀i,S i->∀du fr,¬w.heap[i]?=some (.cells du 271 fr)):hJ w' A n ls:=by
 obtain⟨hl,b,off,ds,h1,h2,h3,h4⟩:=h
 have hb:0<n->¬S b:=λh0 hS=>by
  obtain⟨du,fr,e⟩:=h3 h0;exact K7 b hS du fr e
 refine⟨hl,b,off,ds,h1,λh0=>(h2 h0).kept hx (hb h0),λh0=>?_,h4.kept hx hs⟩;obtain⟨du,fr,e⟩:=h3 h0;exact⟨du,fr,(hx.block b (h2 h0).lt (hb h0)).trans e⟩
theorem hJ.ext {w w'} {A:Option Addr} {n:Nat} (h:hJ w A n ls) (hx:al w w'):hJ w' A n ls:=h.kept hx (λ_ f=>f.elim) (λ_ f=>f.elim)
theorem hJ.none (w:World):hJ w none 0 []:=⟨rfl,0,0,[],λh=>by omega,λh=>by omega,λh=>by omega,.nil⟩
theorem hJ.gF {w} {base} {v} {n} {ds} (h:w.ownsRow base 271 3 v n (EH ds)) (hw:h_ w ds ls):∃A c,v=.slice A n c/\hJ w A n ls:=by
 have hl:=h.1;rw [qR]at hl;have hlen:=hw.len
 rcases h.2 with⟨hv,h0⟩|⟨g,c,du,hv,hb,hc,zM,vG,gu,mN⟩
 .subst h0
  exact⟨_,0,hv,by omega,0,0,ds,λh=>by omega,λh=>by omega,λh=>by omega,hw⟩
 .refine⟨_,c,hv,by omega,g,0,ds,λ_=>rfl,λ_=>?_,λ_=>⟨du,(0,0),hc⟩,hw⟩
  have hln:(EH ds).length=n*3:=by rw [qR,hl]
  exact aaM
theorem mL.gF {w} {base} {v} {n} {l} (h:w.ownsRow base 25 8 v n (dc l)) (hok:∀d∈l,d.ok):∃A c,v=.slice A n c/\mL w A n l:=by
 have hl:=h.1;rw [eZ]at hl
 rcases h.2 with⟨hv,h0⟩|⟨g,c,du,hv,hb,hc,zM,vG,gu,mN⟩
 .subst h0
  exact⟨_,0,hv,0,0,by omega,hok,λh=>by omega,λh=>by omega,λh=>by omega⟩
 .refine⟨_,c,hv,g,0,by omega,hok,λ_=>rfl,λ_=>?_,λ_=>⟨du,(0,0),hc⟩⟩
  have hln:(dc l).length=n*8:=by rw [eZ,hl]
  exact aaM
def gp (m:List Int) (x:Int):Wl:=⟨x,cW m x,iw (m.map dD) (jb m.length) x.toNat⟩
def abn (w w':World) (e:Ending) (ls:List Wl):Prop:=∃A n c,e=.returned (.slice A n c)/\hJ w' A n ls/\al w w'
theorem GX (v) (base k) (pl) (tb sb q) (pc halt:Int) (b' bR n eD:Nat) (m:List Int) (w:World) (Cm:Nat) (ho:w.ownsRow base 3 1 v k (ints pl)) (hk:k<=1000) (qf:∀x∈pl,0<=x/\x<n)
 (hn:n=m.length) (h1:1<=n) (h2:n<=256) (hT:jY w Cm q (m.map dD)) (hq:aj w tb 178 #[.pointer (some ⟨q,0,none⟩)]) (hS:oQ w sb 47 pc (some ⟨b',bR,none⟩) n eD halt) (hr:Row w b' bR (bJ m)):
 Calls prog 181 #[v,.pointer (some ⟨tb,0,none⟩),.pointer (some ⟨sb,0,none⟩)] w λe w'=>abn w w' e (pl.map (gp m)):=by
 obtain⟨pf,iC⟩:=Ds ho
 obtain⟨A,g,c,hvv,hA,wS⟩:∃A g c,v=.slice A k c/\(0<k->A=some ⟨g,0,none⟩)/\(∀j,j<pl.length->w.cell? ⟨g,j,none⟩=some (.int .i64 (pl.getD j 0))/\g<w.heap.size):=by
  rcases iC with⟨hv,agF⟩|⟨g,c,du,hv,_,Fj,_,_,_,mN⟩
  .subst agF
   have:k=0:=by simpa using pf
   subst this;exact⟨none,0,0,hv,λh=>by omega,λj hj=>by simp at hj⟩
  .exact⟨_,g,c,hv,λ_=>rfl,λj hj=>⟨oH Fj pf mN j hj,(Array.getElem?_eq_some_iff.1 Fj).1⟩⟩
 subst hvv;have⟨HKL,HA,HC,HPL,HN,HT⟩:=J6' pf hA wS qf hn hT;clear pf iC ho hA wS qf hn hT;have lT:=hq.lt;have lS:=hS.lt;have lM:=hr.lt;go_enter func181,ntmps181;go_wp21
 go_loopw [5,12] (λt5 t12 wr=>∃(j:Nat) (ds:List Wd),j<=k/\t12=.int .i64 j/\wr.ownsRow w.heap.size 271 3 t5 j (EH ds)/\h_ wr ds ((pl.take j).map (gp m))/\al w wr) (λ_ t12 _=>k - (intOf t12).toNat)
 case atStart=>exact⟨0,[],by omega,rfl,World.ownsRow_nil _ _ _ _,.nil,kR _ _⟩
 case round=>
  obtain⟨j,ds,hj,rfl,ho,hw,hx⟩:=hrel;have uR:∀i,i<w.heap.size->(u5:Value).ownBlock=some i->False:=λi hi e=>by have:=(ho.lt i e).1;omega
  have vN:=J uR;have HW:=J hw;clear uR hw
  by_cases aX:j<k
  .have iI:(j:Int)<k:=by omega
   have ft:j<pl.length:=by have:=HKL.o;omega
   obtain rfl:=HA.o ad;obtain⟨hc,AP⟩:=HC.o j ft;have hcj:=(Kept.cell hx (p:=⟨g,j,none⟩) AP (λf=>f)).trans hc;obtain⟨x,rC⟩:=nm' (pl[j]);have CP:pl.getD j 0=x:=by simp [ft,rC]
   rw [CP]at hcj;obtain⟨aK,hxn⟩:=HPL.o x (by rw [rC];exact cK ft);obtain⟨a,rfl⟩:∃a:Nat,x=a:=⟨x.toNat,by omega⟩;have han:a<n:=by omega
   have HX:=J rC;clear hc CP rC aK hxn;have hcq:=(Kept.cell hx (p:=⟨tb,0,none⟩) lT (λf=>f)).trans (bC hq 0);simp at hcq;go_upto_region 5 with(fail);go_wp21;refine(Mj Cm q (m.map dD) a _ adg adj (by rw [fm,<-HN.o];exact han) (HT.o.ext hx)).mono ?_;rintro e w1 ⟨v1,rfl,zN,aB⟩;obtain⟨pA,pc1,rfl,hpv⟩:=mL.gF zN (LL _ _ _);obtain⟨Hh,hHh⟩:∃Hh,jb (m.map dD).length=Hh:=⟨_,rfl⟩;rw [hHh]at hpv⊢;have HHH:=J hHh;have QR:=J hpv;clear hpv zN hHh hcj hcq;have x1:=hx.trans aB;have jZ:=bC (bX hS x1);have lS1:=(bX hS x1).lt;have nl:a<m.length:=by have:=HN.o;omega
   have JJ:(a:Int)<n:=by omega
   have Gl:=(hr.ext x1).mem a nl;have lM1:=(hr.ext x1).lt;obtain⟨y,hy⟩:=nm' (m[a]);rw [<-hy]at Gl;have HY:=J hy;clear hy;go_upto_region 7 with(fail);go_step
   iterate 10 refine kT ?_
   have hWd:zr w1 ⟨a,y,pA,Hh,pc1⟩ (gp m a):=⟨rfl,by rw [HY.o];simp [gp,cW,nl],by
    have:=QR.o;rw [<-HHH.o]at this⊢
    simpa [gp]using this⟩
   have HWd:=J hWd;clear hWd;obtain⟨v2,w2,ki,n9,eC⟩:=aoP (w1.alloc (.cells (Wd.cells ⟨a,y,pA,Hh,pc1⟩) 271)) _ _ _ ds ((aQ ho aB).alloc _) w1.heap.size 0 1 1 [⟨a,y,pA,Hh,pc1⟩] rfl (by simpa [EH]using Row.cR (bN w1 271 (Wd.cells ⟨a,y,pA,Hh,pc1⟩))) ad (by have:=x1.size;simp;omega);refine cJ rfl (.tmp 24) (.tmp 33) 72 rfl rfl rfl rfl ki ?_;clear ki jZ Gl;have k2:Kept (λi=>(u5:Value).ownBlock=some i) w1 w2:=(dS w1 _).trans eC;have mO:=HW.o.ext aB
   have rB:h_ w2 (ds++[⟨a,y,pA,Hh,pc1⟩]) ((pl.take (j+1)).map (gp m)):=by
    rw [List.take_succ_eq_append_getElem ft,vQ];have hwd:=HWd.o;rw [show((a:Nat):Int)=pl[j]from HX.o]at hwd;rw [show((a:Nat):Int)=pl[j]from HX.o];exact(mO.snoc hwd).kept k2 (cY (aQ ho aB) ae)
   have HW2:=J rB;clear mO rB;go_wp21;go_roundw
   case rel=>exact⟨j+1,_,aX,by go_num,n9,HW2.o,x1.trans' k2 vN.o⟩
   case measure=>simp only [intOf];omega
  .have ej:j=k:=by omega
   subst ej;have hw:=HW.o;rw [lY (Nat.le_of_eq HKL.o.symm)]at hw;obtain⟨A',c',rfl,zC⟩:=hJ.gF ho hw;have HS':=J zC;clear hw zC;go_wp21;go_ret;exact⟨_,_,_,rfl,HS'.o,hx⟩
structure Sl where (pc halt words:Int) (mem:Dg) (ins:Ins) (path:List Dg) (reads writes:List Wl)
structure pw (w:World) (s:Ws) (L:Sl):Prop where
 pc:s.pc=L.pc
 halt:s.halt=L.halt
 words:s.words=L.words
 mem:s.mem=L.mem
 ins:s.ins=L.ins
 path:mL w s.pa s.pn L.path
 reads:hJ w s.ra s.rn L.reads
 writes:hJ w s.wa s.wn L.writes
theorem pw.ext {w w'} {s:Ws} {L:Sl} (h:pw w s L) (hx:al w w'):pw w' s L:=
 ⟨h.pc,h.halt,h.words,h.mem,h.ins,h.path.ext hx,h.reads.ext hx,h.writes.ext hx⟩
theorem mL.none (w:World):mL w none 0 []:=⟨0,0,rfl,by simp,λh=>by omega,λh=>by omega,λh=>by omega⟩
def jC (l:List Ins) (pc halt:Int) (m:List Int):Sl:=
 if¬halt=0∨(l.length:Int)<=pc then⟨pc,halt,m.length,kX m,⟨0,0,0,0⟩,[],[],[]⟩
 else⟨pc,halt,m.length,kX m,l.getD pc.toNat ⟨0,0,0,0⟩,iw (l.map iJ) (jb l.length) pc.toNat,(dq l pc halt m).1.map (gp m),if 0<=(dq l pc halt m).2 then [gp m (dq l pc halt m).2]else []⟩
theorem UP {i} {size words} (h:aW i size words=true) (j:Nat) (hj:j<3):n6 (fP i.op.toNat) j (gl i j) size words=true:=by
 obtain⟨_,_,h0,h1,h2,_⟩:=gK h
 rcases(by omega:j=0∨j=1∨j=2)with rfl|rfl|rfl
 .exact h0
 .exact h1
 .exact h2
theorem yT {i:Ins} {size:Int} {n:Nat} (h:aW i size n=true):∀k,k<=(fP i.op.toNat).length->∀x∈cx i (fP i.op.toNat) k,0<=x/\x<n
 |0,_,x,hx=>by simp [cx]at hx
 |k+1,hk,x,hx=>by
  unfold cx at hx
  split at hx
  .exact yT h k ad x hx
  .rename_i hns
   rcases mK.1 hx with hx|hx
   .exact yT h k ad x hx
   .simp at hx
    subst hx;have hl:=wQ i.op.toNat;have hok:=UP h k ad
    have hg:(fP i.op.toNat)[k]?=some 119:=by
     have aX:k<(fP i.op.toNat).length:=by omega
     rw [List.getElem?_eq_getElem aX]
     have:gS i ((fP i.op.toNat).getD k 0) k=false:=by
      cases hs:gS i ((fP i.op.toNat).getD k 0) k
      .rfl
      .exact absurd (.inl hs) hns
     simp [gS,aX]at this;rw [this.1.1]
    exact cV hg hok
theorem GM {i} {size} {n:Nat} (h:aW i size n=true):∀x∈dY i,0<=x/\x<n:=by
 intro x hx;unfold dY at hx
 split at hx
 .exact yT h _ (eH _) x hx
 .simp at hx
theorem Us {i} {size} {m} (h:aW i size m.length=true):∀x∈fS i m,0<=x/\x<m.length:=by
 intro x hx;unfold fS at hx
 split at hx
 .rename_i hc
  rcases mK.1 hx with hx|hx
  .exact GM h x hx
  .simp at hx
   subst hx;exact⟨hc.2.1,Ij i m⟩
 .exact GM h x hx
theorem Qt {i} {size} {n:Nat} (h:aW i size n=true):jW i<n:=by
 unfold jW
 split
 .rename_i hc
  have hr:=gK h;have nN:iL i.op=true:=by simp [iL];omega
  have h0:(fP i.op.toNat)[0]?=some 119:=by
   have hp:=hc.1;rw [AK,av nN]at hp;show(fP i.op.toNat)[0]?=some 119;have e:(It i.op.toNat).data.toList=fP i.op.toNat:=by simp [It]
   rw [e]at hp
   cases hq:fP i.op.toNat with
   |nil=>rw [hq]at hp;simp [Lib.hasPrefix]at hp
   |cons x r=>rw [hq]at hp;simp [Lib.hasPrefix]at hp;simp [hp]
  exact(cV h0 hr.2.2.1).2
 .omega
theorem Po {i} {size} {m} (h:aW i size m.length=true):dI i m<m.length:=by
 unfold dI
 split
 .exact Ij i m
 .split
  .omega
  .exact Qt h
theorem U7 {l} {x} (h:x∈nU l):x∈l:=by
 unfold nU at h;exact(List.mergeSort_perm l _).mem_iff.1 h
theorem yP (c) (pc halt) (m:List Int):(∀x∈(dq c pc halt m).1,0<=x/\x<m.length)/\(dq c pc halt m).2<m.length/\(dq c pc halt m).1.length<=4:=by
 unfold dq
 split
 .cases eU:da c pc m.length with
  |none=>simp;omega
  |some i=>
   have hr:=oG eU;refine⟨λx hx=>Us hr x (U7 hx),Po hr,?_⟩;show(nU (fS i m)).length<=4;have h3:=DD i;unfold nU fS;rw [List.length_mergeSort]
   split
   .simp;omega
   .omega
 .simp;omega
theorem jY.Xq {w w'} {base p} {l} (h:jY w base p l) (hk:Kept (λi=>w.heap.size<=i) w w'):jY w' base p l:=by
 obtain⟨cg,cc,f,G,h⟩:=h;have h1:=h.blk.lt;have h2:=h.cgl;exact⟨cg,cc,f,G,bK h.blk hk ad,h.f0,dy h.own hk (λg hg=>by simp [Value.ownBlock]at hg;omega),h.fl,λu hu=>bK (h.lv u hu) hk (by have:=(h.lv u hu).lt;omega),h.inj,h.nI,h.bp,h.pc⟩
theorem ga {w} {g} {cs} {E E'} (h:aj w g E cs) (hE:¬E=E'):∀du fr,¬w.heap[g]?=some (.cells du E' fr):=λdu fr e=>by
 rw [h]at e;injection e with e;injection e with _ e _;exact hE e
theorem Lu {l} {x n:Nat} {m:List Int} (hl:(l.length:Int)=n) (h:(x:Int)<n):jC l x 0 m=⟨x,0,m.length,kX m,l.getD x ⟨0,0,0,0⟩,iw (l.map iJ) (jb l.length) x,(dq l x 0 m).1.map (gp m),if 0<=(dq l x 0 m).2 then [gp m (dq l x 0 m).2]else []⟩:=by
 unfold jC;rw [af ad]
 rfl
def Xd (w w':World) (e:Ending) (L:Sl):Prop:=∃s:Ws,e=.returned (.tuple #[.agg s.cells,.int .i64 0])/\pw w' s L/\al w w'
theorem aci (A:Option Addr) (b off cap:Nat) (l:List Ins) (n:Nat) (hn:n=l.length) (h2:n<=2048) (hok:∀i∈l,i.ok) (hA:0<n->A=some ⟨b,off,none⟩)
 (x:Nat) (b' bR eD:Nat) (m:List Int) (k:Nat) (hk:k=m.length) (hg:dj x 0 k=true) (hxn:x<n) (iB:∀z∈m,ax z) (w:World) (eN:OpsAt w) (hr:0<n->Row w b off (cM l)) (Iy:Row w b' bR (bJ m)):
 Calls prog 118 #[.slice A n cap,.agg (ai x (some ⟨b',bR,none⟩) k eD 0)] w λe w'=>Xd w w' e (jC l x 0 m):=by
 have h1:1<=n:=by omega
 have tX:0<k->some (⟨b',bR,none⟩:Addr)=some ⟨b',bR,none⟩:=λ_=>rfl;have WU:=J eN;have abj:=J iB;have hrr:lm w A b off n l b' bR k x 0 m:=⟨eN,hA,hr,hn,h2,hk,hg,iB,Iy⟩;have qd:=J hrr;have akM:0<k->Row w b' bR (bJ m):=λ_=>Iy;clear eN iB hrr Iy;obtain⟨k1,k2,h3,h4,h5,h6⟩:=bU hg;have⟨HG,HN,HO,HA,HR,WN,HA',HR'⟩:=J8' hg hn hok hA hr hk tX akM;clear hn hA hr hg hok hk tX akM;obtain⟨M,hM⟩:=nm' (kX m);have HM:=J hM;clear hM;have aK:al w _:=(dS w (.cells (ai x (some ⟨b',bR,none⟩) k eD 0) 47)).alloc (.cells nY 74);have hA0:aj _ w.heap.size 47 (ai x (some ⟨b',bR,none⟩) k eD 0):=aj.alloc (bN w _ _) (.cells nY 74);have fU:aj _ (w.heap.size+1) 74 nY:=aj.d_ (w.alloc (.cells (ai x (some ⟨b',bR,none⟩) k eD 0) 47)) _ _ _ aC;go_enter func118,ntmps118;go_wp21;refine(rM A b off cap l n HN.o h1 h2 HO.o HA.o _ (λh=>(HR.o h).ext aK)).mono ?_;rintro e w1 ⟨p,rfl,ht,aB⟩;have pd:=bX hA0 aB;have gW:=bX fU aB;have hc1:=bC pd;have y1:=aK.trans aB;clear aK aB hA0 fU;go_wp21;refine(qF x 0 (some ⟨b',bR,none⟩) b' bR eD m k WN.o HG.o (λ_=>rfl) _ (λh=>(HR'.o h).ext y1)).mono ?_;rintro e w2 ⟨q,rfl,hq,bM⟩;have vC:=bX pd bM;have nL:=bX gW bM;have y2:=y1.trans bM;have JG:=bN w2 178 #[.pointer (some ⟨q,0,none⟩)];have ea:=dz w2 (.cells #[.pointer (some ⟨q,0,none⟩)] 178);have M':=bX vC ea;have oY:=bX nL ea;have YL:=hq.ext ea;have y3:=y2.trans ea;clear hc1;go_wp21;generalize (w2.alloc (.cells #[.pointer (some ⟨q,0,none⟩)] 178))=W at JG M' oY YL y3 ea⊢;have hlA:=aj.lt M';have hlR:=aj.lt oY;have ig:=aj.lt JG;generalize w2.heap.size=h2s at JG ig⊢;have ht3:=ht.ext (bM.trans ea);clear vC nL pd gW ea hq ht y1 y2 bM;refine ahN ?_;intro y;refine gL ?_ ?_
 .refine cw (λK hK=>?_);go_simp
  go_wp21;refine(jm _ q (m.map dD) _ adf adh (YL.ext y)).mono ?_;rintro e w4 ⟨e4,eV⟩;replace e4:e=.returned (.agg M.cells):=by rw [e4,HM.o];rfl
  subst e4;have y4:al W w4:=y.trans eV;refine hK.out _ _ (λ_=>y4) ?_;clear hK K;refine o8 ?_;intro K hK;refine hK.out _ _ (λ_=>y4.alloc _) ?_;clear hK K;refine JQ ?_;have TN:=bX M' (y4.alloc (.cells (jJ x 0 k M) 74));have uM:=bX oY (y4.alloc (.cells (jJ x 0 k M) 74));have y5:=y3.trans (y4.alloc (.cells (jJ x 0 k M) 74));have xW:=y4.alloc (.cells (jJ x 0 k M) 74);have hP5:=bX JG (y4.alloc (.cells (jJ x 0 k M) 74));have hlW:=y4.size;have AJ:=bN w4 74 (jJ x 0 k M);have Wi:=aj.lt AJ;generalize (w4.alloc (.cells (jJ x 0 k M) 74))=W5 at TN uM y5 AJ Wi xW hP5⊢;generalize w4.heap.size=c9 at AJ Wi hlW⊢;exact zz4
 .refine cw (λK hK=>?_);go_simp
  refine hK.out _ _ (λ_=>y.alloc _) ?_;clear hK K;refine o8 ?_;intro K hK;go_wp21;refine(jm _ q (m.map dD) _ adf adh (YL.ext (y.alloc _))).mono ?_;rintro e w4 ⟨e4,eV⟩;replace e4:e=.returned (.agg M.cells):=by rw [e4,HM.o];rfl
  subst e4;have y4:al W w4:=(y.alloc _).trans eV;refine hK.out _ _ (λ_=>y4) ?_;clear hK K;have rT:aj w4 W.heap.size 74 nY:=bX (bN W.drew 74 nY) eV;have hh4:=bH rT;have t_:=aj.aJ rT;have hl4:=aj.lt rT;refine JQ ?_;have yp:al W (putAt w4 W.heap.size 0 (jJ x 0 k M)):=Kept.putAt y4 _ _ _ (λh=>by omega);have TN:=bX M' yp;have uM:=bX oY yp;have y5:=y3.trans yp;have xW:=yp;have hP5:=bX JG yp;have AJ:aj (putAt w4 W.heap.size 0 (jJ x 0 k M)) W.heap.size 74 (jJ x 0 k M):=aj.cI rT _ _;have Wi:=aj.lt AJ;generalize (putAt w4 W.heap.size 0 (jJ x 0 k M))=W5 at TN uM y5 AJ Wi xW hP5⊢;generalize apk:W.heap.size=c9 at AJ Wi⊢;have hlW:W.heap.size<=c9:=by omega
  clear apk;exact zz4
theorem acj (A:Option Addr) (b off cap:Nat) (l:List Ins) (n:Nat) (hn:n=l.length) (h1:1<=n) (h2:n<=2048) (hok:∀i∈l,i.ok) (hA:0<n->A=some ⟨b,off,none⟩)
 (pc halt:Int) (A':Option Addr) (b' bR eD:Nat) (m:List Int) (k:Nat) (hk:k=m.length) (hg:dj pc halt k=true) (tX:0<k->A'=some ⟨b',bR,none⟩) (iB:∀z∈m,ax z) (w:World) (eN:OpsAt w) (hr:0<n->Row w b off (cM l)) (Iy:0<k->Row w b' bR (bJ m)):
 Calls prog 118 #[.slice A n cap,.agg (ai pc A' k eD halt)] w λe w'=>Xd w w' e (jC l pc halt m):=by
 by_cases dF:¬halt=0∨(n:Int)<=pc
 .refine kU (O' A b off cap l n hn h1 h2 hok hA pc halt A' b' bR eD m k hk hg tX dF w hr Iy) λw' hx=>?_;refine⟨Kc pc halt m,rfl,?_,hx⟩;unfold jC;rw [av (by rw [<-hn];exact dF)];exact⟨rfl,rfl,rfl,rfl,rfl,mL.none _,hJ.none _,hJ.none _⟩
 .obtain⟨k1,k2,h3,h4,h5,h6⟩:=bU hg
  obtain⟨x,rfl⟩:∃x:Nat,pc=x:=⟨pc.toNat,by omega⟩;obtain rfl:halt=0:=by omega
  obtain rfl:=tX k1;exact aci A b off cap l n hn h2 hok hA x b' bR eD m k hk hg ad iB w eN hr (Iy k1)
theorem PN {i} {h} {x} {k:Nat} (hx:x∈cx i h k):x∈cx i h (k+1):=by
 unfold cx
 split
 .exact hx
 .exact List.mem_append_left _ hx
theorem qJ {i:Ins} {h:List UInt8} {k:Nat} (hs:gS i (h.getD k 0) k=false):∀n,k<n->gl i k∈cx i h n
 |0,hn=>by omega
 |n+1,hn=>by
  by_cases hk:k<n
  .exact PN (qJ hs n hk)
  .obtain rfl:k=n:=by omega
   unfold cx
   by_cases hc:(cx i h k).contains (gl i k)=true
   .rw [av (.inr hc)];simpa using hc
   .rw [af (λf=>f.elim (λf=>by rw [hs]at f;cases f) hc)]
    simp
theorem qK {i:Ins} {k:Nat} (hk:i.op=k) (h:k=2∨k=14∨k=16∨k=18∨k=20∨k=21∨(3<=k/\k<=13)):i.b∈dY i:=by
 have ho:iL i.op=true:=by simp [iL];omega
 unfold dY;rw [av ho,hk];have:=λh' hs hl=>qJ (i:=i) (h:=h') (k:=1) hs h'.length hl
 rcases h with rfl|rfl|rfl|rfl|rfl|rfl|⟨h1,h2⟩
 iterate 6 exact this _ (by simp [gS,hk,fP]) (by simp [fP])
 rcases(by omega:k=3∨k=4∨k=5∨k=6∨k=7∨k=8∨k=9∨k=10∨k=11∨k=12∨k=13)with rfl|rfl|rfl|rfl|rfl|rfl|rfl|rfl|rfl|rfl|rfl<;>exact this _ (by simp [gS,hk,fP]) (by simp [fP])
theorem I' {i:Ins} {k:Nat} (hk:i.op=k) (h:k=15∨k=16∨(3<=k/\k<=13)):i.c∈dY i:=by
 have ho:iL i.op=true:=by simp [iL];omega
 unfold dY;rw [av ho,hk];have:=λh' hs hl=>qJ (i:=i) (h:=h') (k:=2) hs h'.length hl
 rcases h with rfl|rfl|⟨h1,h2⟩
 iterate 2 exact this _ (by simp [gS,fP]) (by simp [fP])
 rcases(by omega:k=3∨k=4∨k=5∨k=6∨k=7∨k=8∨k=9∨k=10∨k=11∨k=12∨k=13)with rfl|rfl|rfl|rfl|rfl|rfl|rfl|rfl|rfl|rfl|rfl<;>exact this _ (by simp [gS,fP]) (by simp [fP])
theorem acD {i} (hk:i.op=17):i.a∈dY i:=by
 have ho:iL i.op=true:=by simp [iL];omega
 unfold dY;rw [av ho,hk];exact qJ (i:=i) (h:=fP 17) (k:=0) (by simp [gS,hk,fP]) _ (by simp [fP])
structure qU (i:Ins) (m m':List Int):Prop where
 len:m'.length=m.length
 at_:∀x∈fS i m,cW m' x=cW m x
theorem Pk {i} {m} {x} (h:x∈dY i):x∈fS i m:=by
 unfold fS
 split
 .exact List.mem_append_left _ h
 .exact h
theorem qU.reads {i} {m m'} (h:qU i m m') {x:Int} (hx:x∈dY i):cW m' x=cW m x:=h.at_ x (Pk hx)
theorem qU.nI {i} {m m'} (h:qU i m m'):gC i m'=gC i m:=by
 unfold gC
 by_cases Gg:i.op=15
 .have:=h.reads (I' (k:=15) Gg aC)
  unfold cW at this;rw [av Gg,av Gg,this,h.len]
 .rw [af Gg,af Gg]
  by_cases CJ:i.op=16
  .have:=h.reads (qK (k:=16) CJ aC)
   unfold cW at this;rw [av CJ,av CJ,this,h.len]
  .rw [af CJ,af CJ]
theorem qU.place {i} {m m'} (h:qU i m m'):fS i m'=fS i m:=by unfold fS;rw [h.nI]
theorem qU.writes {i} {m m'} (h:qU i m m'):dI i m'=dI i m:=by unfold dI;rw [h.nI]
theorem qU.lost {i} {m m'} (h:qU i m m'):lost i m'=lost i m:=by unfold Proofs.YtnhelcmddjbafaaGreatDoor.Mc.lost;rw [h.nI]
theorem Qu {i:Ins} {k:Nat} (hk:i.op=k) (aX:k<22):jW i=if k=0∨k=16∨k=19∨k=20∨k=21 then -1 else i.a:=by
 have ho:iL i.op=true:=by simp [iL];omega
 have hn:i.op.toNat=k:=by omega
 unfold jW AK;rw [av ho,hn]
 rcases(by omega:k=0∨k=1∨k=2∨k=3∨k=4∨k=5∨k=6∨k=7∨k=8∨k=9∨k=10∨k=11∨k=12∨k=13∨k=14∨k=15∨k=16∨k=17∨k=18∨k=19∨k=20∨k=21)with rfl|rfl|rfl|rfl|rfl|rfl|rfl|rfl|rfl|rfl|rfl|rfl|rfl|rfl|rfl|rfl|rfl|rfl|rfl|rfl|rfl|rfl<;>simp [hk,It,fP,Lib.hasPrefix]
def oK (x v:Int) (m:List Int):List Int:=if 0<=x then fp m x v else m
theorem N8 {i} {m m'} (pc size) (hr:aW i size m.length=true) (h:qU i m m') (hl:lost i m=false):
 ∃p hh v,bt i pc m=(p,hh,oK (dI i m) v m)/\bt i pc m'=(p,hh,oK (dI i m) v m'):=by
 obtain⟨h0,h22,ha,hb,hc,_⟩:=gK hr;obtain⟨k,hk,nN⟩:=Zr (i:=i) (by simp [iL];omega);have hn:i.op.toNat=k:=by omega
 have hw:=Qu nN hk;have ef:=h.nI;rw [hn]at ha;have CW:oK (-1)=λ_ m=>m:=by funext v m;simp [oK]
 have lz:∀{x:Int},0<=x->∀v m,oK x v m=fp m x v:=λhx v m=>av hx
 have RO:(k=1∨k=2∨k=14∨k=15∨k=17∨k=18∨(3<=k/\k<=13))->0<=i.a:=λhh=>by
  have h1:(fP k)[0]?=some 119:=by
   rcases hh with rfl|rfl|rfl|rfl|rfl|rfl|⟨h1,h2⟩
   iterate 6 rfl
   rcases(by omega:k=3∨k=4∨k=5∨k=6∨k=7∨k=8∨k=9∨k=10∨k=11∨k=12∨k=13)with rfl|rfl|rfl|rfl|rfl|rfl|rfl|rfl|rfl|rfl|rfl<;>rfl
  exact(cV h1 ha).1
 have zK:¬k=15->¬k=16->dI i m=jW i:=λe1 e2=>by
  unfold dI;rw [af ad,af ad]
 by_cases e0:k=0
 .subst e0;exact⟨pc,1+i.a,0,by simp [bt,nN,zK,hw,CW],by simp [bt,nN,zK,hw,CW]⟩
 by_cases e1:k=1
 .subst e1;exact⟨pc+1,0,i.b,by simp [bt,nN,zK,hw,lz (RO aC)],by simp [bt,nN,zK,hw,lz (RO aC)]⟩
 by_cases e2:k=2
 .subst e2
  have q:=h.reads (qK nN aC);exact⟨pc+1,0,cW m i.b,by simp [bt,nN,zK,hw,lz (RO aC)],by simp [bt,nN,zK,hw,lz (RO aC),q]⟩
 by_cases e14:k=14
 .subst e14
  have q:=h.reads (qK nN aC);exact⟨pc+1,0,cT (cW m i.b==0),by simp [bt,nN,zK,hw,lz (RO aC)],by simp [bt,nN,zK,hw,lz (RO aC),q]⟩
 by_cases e15:k=15
 .subst e15
  have hf:0<=gC i m:=by simp [lost,nN]at hl;exact hl
  have YE:dI i m=i.a:=by unfold dI;rw [af ad,af ad,hw];simp
  have q:cW m' (gC i m)=cW m (gC i m):=h.at_ _ (by
   unfold fS
   split
   .simp
   .rename_i hc
    by_cases yv:(dY i).contains (gC i m)=true
    .simpa using yv
    .exact absurd ⟨nN,hf,by simpa using yv⟩ hc)
  exact⟨pc+1,0,cW m (gC i m),by simp [bt,nN,YE,lz (RO aC)],by simp [bt,nN,YE,lz (RO aC),ef,q]⟩
 by_cases e16:k=16
 .subst e16
  have hf:0<=gC i m:=by simp [lost,nN]at hl;exact hl
  have YE:dI i m=gC i m:=by unfold dI;rw [av ad]
  have q:=h.reads (I' nN aC);exact⟨pc+1,0,cW m i.c,by simp [bt,nN,YE,lz hf],by simp [bt,nN,YE,lz hf,ef,q]⟩
 by_cases VY:k=17
 .subst VY
  have q:=h.reads (acD nN);exact⟨pc+1,0,min (max (cW m i.a) i.b) i.c,by simp [bt,nN,zK,hw,lz (RO aC)],by simp [bt,nN,zK,hw,lz (RO aC),q]⟩
 by_cases XM:k=18
 .subst XM
  have q:=h.reads (qK nN aC);exact⟨pc+1,0,cT (decide (0<=cW m i.b)&&decide (cW m i.b<i.c)),by simp [bt,nN,zK,hw,lz (RO aC)],by simp [bt,nN,zK,hw,lz (RO aC),q]⟩
 by_cases e19:k=19
 .subst e19;exact⟨i.a,0,0,by simp [bt,nN,zK,hw,CW],by simp [bt,nN,zK,hw,CW]⟩
 by_cases e20:k=20
 .subst e20
  have q:=h.reads (qK nN aC);exact⟨if cW m i.b=0 then i.a else pc+1,0,0,by simp [bt,nN,zK,hw,CW],by simp [bt,nN,zK,hw,CW,q]⟩
 by_cases e21:k=21
 .subst e21
  have q:=h.reads (qK nN aC);exact⟨if cW m i.b=0 then pc+1 else i.a,0,0,by simp [bt,nN,zK,hw,CW],by simp [bt,nN,zK,hw,CW,q]⟩
 have h3:3<=k/\k<=13:=by omega
 have q1:=h.reads (qK nN ad);have q2:=h.reads (I' nN ad);have uT:jW i=i.a:=by rw [hw,af ad]
 have hex:∀m,bt i pc m=(pc+1,0,fp m i.a (gR i.op.toNat (cW m i.b) (cW m i.c))):=λm=>by
  unfold bt
  iterate 11 rw [af ad]
 exact⟨pc+1,0,gR i.op.toNat (cW m i.b) (cW m i.c),by rw [hex,zK e15 e16,uT,lz (RO ad)],by rw [hex,zK e15 e16,uT,lz (RO ad),q1,q2]⟩
theorem Ac {l c'} {pc} {m m'} {i} (hn:da l pc m.length=some i) (hc:c'.length=l.length) (hci:c'[pc.toNat]?=l[pc.toNat]?) (hlen:m'.length=m.length) (hag:∀x∈(dq l pc 0 m).1,cW m' x=cW m x):
 dq c' pc 0 m'=dq l pc 0 m/\∃p hh v,gT l pc m=(p,hh,oK (dq l pc 0 m).2 v m)/\gT c' pc m'=(p,hh,oK (dq l pc 0 m).2 v m'):=by
 have hn':da c' pc m'.length=some i:=by
  unfold da at hn⊢;rw [hci,hlen,hc];exact hn
 have hr:aW i l.length m.length=true:=by
  unfold da at hn
  split at hn
  .split at hn
   .injection hn with hn;subst hn;assumption
   .cases hn
  .cases hn
 have hm:dq l pc 0 m=(nU (fS i m),dI i m):=by simp only [dq,hn];rfl
 have hA:qU i m m':=⟨hlen,λx hx=>hag x (by rw [hm];show x∈nU _;unfold nU;exact List.mem_mergeSort.2 hx)⟩;have iP:dq c' pc 0 m'=(nU (fS i m'),dI i m'):=by simp only [dq,hn'];rfl
 refine⟨by rw [iP,hm,hA.place,hA.writes],?_⟩;rw [hm];unfold gT;rw [hn,hn'];simp only [hA.lost]
 by_cases hl:lost i m=true
 .rw [av hl,av hl]
  have hw:dI i m<0:=by
   simp [lost]at hl;unfold dI
   rcases hl.2 with Gg|CJ
   .rw [af ad,av ⟨Gg,hl.1⟩];omega
   .rw [av CJ];exact hl.1
  exact⟨pc,2,0,by simp only [oK];rw [af ad],by simp only [oK];rw [af ad]⟩
 .rw [af hl,af hl]
  exact N8 pc _ hr hA (by simpa using hl)
def nV (m:List Int) (rs:List Int) (a:List Int):List Int:=rs.foldl (λa x=>fp a x (cW m x)) a
theorem zf (m:List Int):∀(rs a:List Int),(nV m rs a).length=a.length
 |[],a=>rfl
 |x::rs,a=>by show(nV m rs _).length=_;rw [zf m rs];simp [fp]
theorem Um {m} {x y v} (hx:0<=x) (hy:0<=y) (hl:x<m.length):cW (fp m x v) y=if y=x then v else cW m y:=by
 unfold cW fp
 by_cases h:y=x
 .subst h
  rw [av rfl];simp [show y.toNat<m.length by omega]
 .rw [af h]
  simp only [List.getD_eq_getElem?_getD];rw [List.getElem?_set_ne ad]
theorem GZ (m:List Int):∀(rs a:List Int) (_:∀x∈rs,0<=x/\x<a.length) (y:Int) (_:0<=y),cW (nV m rs a) y=if y∈rs then cW m y else cW a y
 |[],a,_,y,_=>by simp [nV]
 |x::rs,a,h,y,hy=>by
  have hx:=h x aC;show cW (nV m rs (fp a x (cW m x))) y=_;rw [GZ m rs _ (λz hz=>by have:=h z (by simp [hz]);simpa [fp]using this) y hy,Um hx.1 hy hx.2]
  by_cases e:y=x
  .subst e;simp
  .simp [e]
theorem P8 (m) (rs) (x) (a:List Int):nV m (rs++[x]) a=fp (nV m rs a) x (cW m x):=by simp [nV]
theorem tx (l:List Dg) (i:Nat) (d:Dg):∀v k,¬k=i / 2^v->fD (l.set i d) v k=fD l v k
 |0,k,h=>by
  unfold fD;rw [List.getElem?_set_ne (λe=>h (by simp [e]))]
 |v+1,k,h=>by
  have e:i / 2^(v+1)=i / 2^v / 2:=by rw [Nat.pow_succ,Nat.div_div_eq_div_mul]
  rw [e]at h;unfold fD;rw [tx l i d v _ ad,tx l i d v _ ad]
theorem aho (x:Nat):¬LZ x=x:=by unfold LZ;split<;>omega
theorem UH (l) (H i) (d:Dg):iw (l.set i d) H i=iw l H i:=by
 unfold iw;apply List.map_congr_left;intro v _;exact tx l i d v _ (aho _)
theorem Vp (l) (i) (d) (hi:i<l.length) (h2:l.length<=4096):xH i d (iw l (jb l.length) i)=xk (l.set i d):=by
 have:=D2 (l.set i d) i (by simpa using hi) (by simpa using h2)
 simpa [UH]using this
theorem Zk (m) (x v) (h0:0<=x) (hl:x<m.length) (h2:m.length<=256):xH x.toNat (dD v) (iw (m.map dD) (jb m.length) x.toNat)=kX (fp m x v):=by
 have:=Vp (m.map dD) x.toNat (dD v) kQ kQ
 simpa [kX,fp,List.map_set]using this
theorem Mf (c vs:List Value) (o N:Nat) (h:o+vs.length<=N) (hN:N<=c.length):(c.take o++vs++c.drop (o+vs.length)).take N=(c.take N).take o++vs++(c.take N).drop (o+vs.length):=by
 rw [List.take_append,lY kQ];rw [List.take_take,Nat.min_eq_left ad,List.drop_take]
 congr 2
 simp
 omega
theorem Zv {w} {base n cg cc} {l} (h:w.ownsRow base 25 8 (.slice (some ⟨cg,0,none⟩) n cc) n (dc l)) (i) (hi:i<l.length) (d:Dg):
 (putAt w cg (i*8) d.cells).ownsRow base 25 8 (.slice (some ⟨cg,0,none⟩) n cc) n (dc (l.set i d)):=by
 have hl:=h.1;rw [eZ]at hl;refine⟨by rw [eZ,List.length_set];exact hl,?_⟩
 rcases h.2 with⟨hv,_⟩|⟨g',c',du,hv,hb,hc,zM,vG,gu,mN⟩
 .simp at hv
 .simp at hv
  obtain⟨rfl,rfl⟩:=hv;have hsz:(d.cells:Array Value).size=8:=rfl;have rY:i*8+8<=n*8:=by omega
  have aka:n*8<=du.size:=by omega
  refine .inr ⟨cg,cc,splice du (i*8) d.cells,rfl,hb,q_ hc,zM,vG,?_,?_⟩
  .rw [sH (by rw [hsz];omega)];exact gu
  .show(du.toList.take (i*8)++d.cells.toList++du.toList.drop (i*8+d.cells.toList.length)).take (n*8)=_
   rw [Mf du.toList d.cells.toList (i*8) (n*8) kQ (by simpa using aka),mN];exact oX l i hi d
theorem Zu {w} {base n cg cc} {l} (h:w.ownsRow base 25 8 (.slice (some ⟨cg,0,none⟩) n cc) n (dc l)) (i:Nat) (hi:i<n):Proofs.YtnhelcmddjbafaaGreatDoor.has w cg (i*8) 8=true/\aJ w cg=true/\cg<w.heap.size:=by
 rcases h.2 with⟨hv,_⟩|⟨g',c',du,hv,hb,hc,zM,vG,gu,mN⟩
 .simp at hv
 .simp at hv
  obtain⟨rfl,rfl⟩:=hv;refine⟨?_,?_,(Array.getElem?_eq_some_iff.1 hc).1⟩
  .unfold Proofs.YtnhelcmddjbafaaGreatDoor.has;rw [hc];simp;omega
  .unfold aJ;rw [hc];rfl
def IR (l l':List Dg) (H:Nat) (v:Nat) (u:Nat):List Dg:=if u<v then qE l' H u else qE l H u
theorem acm (l l') (H u) (h:u<=H):IR l l' H (H+1) u=qE l' H u:=by unfold IR;rw [av ad]
theorem C9 (l) (i) (d) (H v) (x:Dg) (hx:fD (l.set i d) v (i / 2^v)=x):(qE l H v).set (i / 2^v) x=qE (l.set i d) H v:=by
 apply List.ext_getElem
 .simp [qE]
 .intro j h1 h2
  simp [qE]at h1⊢;rw [List.getElem_set]
  by_cases e:i / 2^v=j
  .rw [av e,<-e,hx]
  .rw [af e]
   simp;exact(tx l i d v j (λq=>e q.symm)).symm
structure H5 (w:World) (base p cg cc:Nat) (f:Nat->Value) (G:Nat->Nat) (l:List Dg) (H:Nat) (L:Nat->List Dg):Prop where
 blk:lh w p f
 f0:f 0=.slice (some ⟨cg,0,none⟩) l.length cc
 own:w.ownsRow base 25 8 (.slice (some ⟨cg,0,none⟩) l.length cc) l.length (dc l)
 fl:∀u,u<=H->f (1+u)=.slice (some ⟨G u,0,none⟩) (2^(H - u)) (2^(H - u))
 lv:∀u,u<=H->aj w (G u) 25 (dc (L u)).toArray
 inj:∀u u',u<=H->u'<=H->G u=G u'->u=u'
 nI:∀u,u<=H->base<=G u/\¬G u=p/\¬G u=cg
 bp:base<=p
 pc:¬p=cg
section
variable {w w':World} {base p cg cc:Nat} {f:Nat->Value} {G:Nat->Nat} {l:List Dg} {H:Nat} {L:Nat->List Dg}
theorem Lv.toX (h:Lv w base p cg cc f G l H H):H5 w base p cg cc f G l H (qE l H):=⟨h.blk,h.f0,h.own,h.fl,h.lv,h.inj,h.nI,h.bp,h.pc⟩
theorem H5.toL (h:H5 w base p cg cc f G l H L) (hL:∀u,u<=H->L u=qE l H u):Lv w base p cg cc f G l H H:=⟨h.blk,h.f0,h.own,h.fl,λu hu=>by rw [<-hL u hu];exact h.lv u hu,h.inj,h.nI,h.bp,h.pc⟩
theorem H5.ext (h:H5 w base p cg cc f G l H L) (hx:al w w'):H5 w' base p cg cc f G l H L:=
 ⟨h.blk.ext hx,h.f0,aQ h.own hx,h.fl,λu hu=>bX (h.lv u hu) hx,h.inj,h.nI,h.bp,h.pc⟩
theorem H5.aet (h:H5 w base p cg cc f G l H L) (v:Nat) (hv:v<=H) (hk:Kept (·=G v) w w') (x:List Dg) (hb:aj w' (G v) 25 (dc x).toArray):H5 w' base p cg cc f G l H (λu=>if u=v then x else L u):=by
 have hf:=h.nI v hv;refine⟨bK h.blk hk (λe=>hf.2.1 e.symm),h.f0,dy h.own hk (λg hg e=>?_),h.fl,λu hu=>?_,h.inj,h.nI,h.bp,h.pc⟩
 .simp [Value.ownBlock]at hg
  exact hf.2.2 ad
 .by_cases e:u=v
  .subst e;simp only [if_true];exact hb
  .simp only [af e]
   exact bK (h.lv u hu) hk (λq=>e (h.inj u v hu hv q))
theorem H5.leaf (h:H5 w base p cg cc f G l H L) (i:Nat) (hi:i<l.length) (d:Dg):H5 (putAt w cg (i*8) d.cells) base p cg cc f G (l.set i d) H L:=by
 have hk:Kept (·=cg) w (putAt w cg (i*8) d.cells):=Kept.putAt (kR _ w) _ _ _ (λ_=>rfl);refine⟨bK h.blk hk h.pc,by rw [List.length_set];exact h.f0,by rw [List.length_set];exact Zv h.own i hi d,h.fl,λu hu=>bK (h.lv u hu) hk (h.nI u hu).2.2,h.inj,h.nI,h.bp,h.pc⟩
theorem H5.nH {L'} (h:H5 w base p cg cc f G l H L) (e:∀u,u<=H->L u=L' u):H5 w base p cg cc f G l H L':=
 ⟨h.blk,h.f0,h.own,h.fl,λu hu=>by rw [<-e u hu];exact h.lv u hu,h.inj,h.nI,h.bp,h.pc⟩
end
def g_ (w:World) (base fT p:Nat) (l:List Dg):Prop:=p<fT/\∃cg cc f G,Lv w base p cg cc f G l (jb l.length) (jb l.length)/\cg<fT/\∀u,u<=jb l.length->G u<fT
theorem g_.of {w} {base p} {l} (h:jY w base p l):g_ w base w.heap.size p l:=by
 obtain⟨cg,cc,f,G,h⟩:=h;exact⟨h.blk.lt,cg,cc,f,G,h,h.cgl,λu hu=>(h.lv u hu).lt⟩
theorem g_.ok {w} {base fT p} {l} (h:g_ w base fT p l):jY w base p l:=by
 obtain⟨_,cg,cc,f,G,h,_⟩:=h;exact⟨cg,cc,f,G,h⟩
theorem g_.ext {w w'} {base fT p:Nat} {l:List Dg} (h:g_ w base fT p l) (hx:al w w'):g_ w' base fT p l:=by
 obtain⟨h0,cg,cc,f,G,h,h1,h2⟩:=h;exact⟨h0,cg,cc,f,G,h.ext hx,h1,h2⟩
theorem Lv.kept {S} {w w'} {base p cg cc} {f} {G} {l} {H v:Nat} (h:Lv w base p cg cc f G l H v) (hx:Kept S w w') (hp:¬S p) (hc:¬S cg) (hG:∀u,u<=v->¬S (G u)):Lv w' base p cg cc f G l H v:=
 ⟨bK h.blk hx hp,h.f0,dy h.own hx (λg hg=>by simp [Value.ownBlock]at hg;subst hg;exact hc),h.fl,λu hu=>bK (h.lv u hu) hx (hG u hu),h.inj,h.nI,h.bp,h.pc⟩
section
variable {S:Nat->Prop} {w w':World} {base fT p:Nat} {l:List Dg} (h:g_ w base fT p l) (hx:Kept S w w')
include S w w' base fT p l h hx
theorem g_.kept (hs:∀i,S i->fT<=i):g_ w' base fT p l:=by
 obtain⟨h0,cg,cc,f,G,h,h1,h2⟩:=h;exact⟨h0,cg,cc,f,G,h.kept hx (λq=>by have:=hs _ q;omega) (λq=>by have:=hs _ q;omega) (λu hu q=>by have:=hs _ q;have:=h2 u hu;omega),h1,h2⟩
theorem g_.apart (hs:∀i,S i->i<base∨fT<=i):g_ w' base fT p l:=by
 obtain⟨h0,cg,cc,f,G,h,h1,h2⟩:=h
 have zF:base<=cg:=by
  rcases h.own.2 with⟨hv,_⟩|⟨g',c',du,hv,hb,_⟩
  .simp at hv
  .simp at hv;omega
 have zR:=h.bp;exact⟨h0,cg,cc,f,G,h.kept hx (λq=>by have:=hs _ q;omega) (λq=>by have:=hs _ q;omega) (λu hu q=>by have:=hs _ q;have:=h2 u hu;have:=(h.nI u hu).1;omega),h1,h2⟩
end
def abo (w w':World) (e:Ending) (base fT p:Nat) (l:List Dg):Prop:=e=.returned (.int .i64 0)/\g_ w' base fT p l/\Kept (λj=>base<=j/\j<fT) w w'
theorem acL (base fT p) (l) (i:Nat) (d:Dg) (hd:d.ok) (w:World) (h1:1<=l.length) (h2:l.length<=4096) (hi:i<l.length) (h:g_ w base fT p l):
 Calls prog 112 #[.pointer (some ⟨p,0,none⟩),.int .i64 i,.agg #[.int .u8 d.x0,.int .u8 d.x1,.int .u8 d.x2,.int .u8 d.x3,.int .u8 d.x4,.int .u8 d.x5,.int .u8 d.x6,.int .u8 d.x7]] w λe w'=>abo w w' e base fT p (l.set i d):=by
 obtain⟨hpt,cg,cc,f,G,h,CN,hGt⟩:=h;have hb:=qw l.length h1 h2;obtain⟨H,hH⟩:=nm' (jb l.length);rw [<-hH]at hb h hGt;obtain⟨X7,hnH⟩:=hb;have HP:gq (i<2^H):=J ad;have x0:al w _:=dS w (.cells d.cells 25);have Gh:=bN w 25 d.cells;have hX0:=h.toX.ext x0;have hdw:¬w.heap.size=cg:=by have:=h.cgl;omega
 have yv:=hX0.blk.cell 0 ad;rw [hX0.f0]at yv;have hc1:=hX0.blk.cell 1 ad;have e1:=hX0.fl 0 (de _);simp only [fC,Nat.sub_zero]at e1;rw [e1]at hc1;obtain⟨n,hn⟩:=nm' l.length;obtain⟨N,hN⟩:=nm' (2^H);rw [<-hn]at yv h1 h2 hi hH;rw [<-hN]at hc1;have hiN:i<N:=by rw [hN];exact HP.o
 have Xw:(decide ((0:Int)<=i)&&decide ((i:Int)<n))=true:=by simp;omega
 obtain⟨ch,cm,cl⟩:=Zu hX0.own i ad;have qf:=hX0.blk.lt;have jh:=hX0.leaf i ad d;have hpc:=h.pc
 have zF:base<=cg:=by
  rcases h.own.2 with⟨hv,_⟩|⟨g',c',du,hv,hb,_⟩
  .simp at hv
  .simp at hv;omega
 have⟨HB,HN,sO,HH,dX,gN,HGT,HD,Nr⟩:=J9' Xw hn hN hH hX0 jh hGt hd h.nI;have hdl:w.heap.size<fT∨fT<=w.heap.size:=by omega
 have wV:(i:Int)<n:=by omega
 have arc:(i:Int)<N:=by omega
 have Yq:(0:Int)<=i:=by omega
 clear Xw hn hN hH hX0 jh hGt hd h hnH e1 hdl;go_enter func112,ntmps112;go_upto_region 3 with(fail);generalize (w.alloc (.cells d.cells 25))=W at x0 Gh yv hc1 ch cm cl qf dX gN⊢;obtain⟨q,hq⟩:=nm' w.heap.size;rw [<-hq]at Gh hdw⊢;have HQ:=J hq;clear hq;go_wp21;refine uW (Mi p n cc _ i _ yv) ?_;rw [HB.o];go_upto_region 5 with(fail);refine eW (λw2=>al W w2) [(0,2),(1,2),(2,2),(3,1),(4,2),(5,1),(6,2),(7,0)] ?_;refine eX ?_
 repeat first|refine bV ?_|refine cF dQ (by intro w1 hS;have d1:=(Kept.cell hS (p:=⟨p,0,none⟩) qf (λf=>f)).trans yv;have d2:=gw qf hS.size;have d3:=bH (bX Gh hS);have d4:=bG (bX Gh hS);have d5:=(bX Gh hS).lt;exact fE) ?_|refine cD dQ ?_
 refine fc ?_;have kx:Kept (·=cg) W (putAt W cg (i*8) d.cells).drew:=(Kept.putAt (kR (·=cg) W) cg _ _ (λ_=>rfl)).drew;have jh:H5 (putAt W cg (i*8) d.cells).drew base p cg cc f G (l.set i d) H (qE l H):=gN.o.ext ((kR _ _).drew);have hD1:=bK Gh kx hdw;have k1:Kept (λj=>base<=j/\j<fT) w (putAt W cg (i*8) d.cells).drew:=(Kept.ext x0).trans' kx (λj _ e=>by omega);generalize (putAt W cg (i*8) d.cells).drew=W1 at kx jh hD1 k1⊢;clear yv hc1 ch cm cl qf dX gN kx Gh x0;have hc1:=jh.blk.cell 1 ad;have e1:=jh.fl 0 (de _);simp only [fC,Nat.sub_zero]at e1;rw [e1,<-sO.o]at hc1;have yv:=jh.blk.cell 0 ad;rw [jh.f0,List.length_set,<-HN.o]at yv;have qf:=jh.blk.lt;have hB:=jh.lv 0 (de _);have gN:=J jh;have EM:=J yv;clear jh e1 yv;obtain⟨g0,hg0⟩:=nm' (G 0);rw [<-hg0]at hc1 hB;have VP:=J hg0;clear hg0;go_upto_region 6 with(fail);refine eW (λw2=>al W1 w2) [(0,2),(1,2),(2,2),(3,2),(4,1),(5,2),(6,1),(7,0),(8,2),(9,0)] ?_;refine eX ?_
 repeat first|refine bV ?_|refine cF dQ (by intro w1 hS;have d1:=(Kept.cell hS (p:=⟨p,1,none⟩) qf (λf=>f)).trans hc1;have d2:=gw qf hS.size;have d3:=bH (bX hD1 hS);have d4:=bG (bX hD1 hS);have d5:=(bX hD1 hS).lt;exact fE) ?_|refine cD dQ ?_
 refine ap (λK hK=>?_);go_simp;go_wp21;refine(IQ d HD.o _).mono ?_;rintro e w2 ⟨e2,bM⟩;obtain⟨V,hV⟩:=nm' (TP d);rw [<-hV]at e2;subst e2;have HV:=J hV;clear hV;have y2:al W1 w2:=((kR _ W1).drew).trans bM;refine hK.out _ _ (λ_=>y2) ?_;clear hK K;have hkM:i*8+8<=(dc (qE l H 0)).length:=by rw [eZ,tp,Nat.sub_zero,<-sO.o];omega
 have zB:=bX hB y2;have Wb:=bH zB (i*8) 8;rw [cO (by simpa using hkM)]at Wb;have jG:=aj.aJ zB;have Iw:=zB.lt;have Io:=aj.cI zB (i*8) V.cells;have fQ:=C9 l i d H 0 V (by simp [fD,HV.o,show i<l.length by have:=HN.o;omega]);simp only [Nat.pow_zero,Nat.div_one]at fQ;rw [wK _ i (by rw [tp,Nat.sub_zero,<-sO.o];exact hiN) V,fQ]at Io;have ot:=J Io;clear Io fQ hB hc1
 repeat refine bV ?_
 refine fc ?_;have k3:Kept (·=G 0) w2 (putAt w2 g0 (i*8) V.cells):=Kept.putAt (kR _ w2) _ _ _ (λ_=>VP.o)
 have hX3:H5 (putAt w2 g0 (i*8) V.cells) base p cg cc f G (l.set i d) H (IR l (l.set i d) H 1):=by
  refine((gN.o.ext y2).aet 0 (de _) k3 _ (by rw [<-VP.o];exact ot.o)).nH (λu hu=>?_);unfold IR
  by_cases e:u=0
  .subst e;simp
  .rw [af e,af ad]
 have kk:Kept (λj=>base<=j/\j<fT) w (putAt w2 g0 (i*8) V.cells):=(k1.trans (Kept.ext y2)).trans' k3 (λj _ e=>by
  have h3:=(Nr.o 0 (de _)).1;have h4:=HGT.o 0 (de _);rw [e];exact⟨h3,h4⟩)
 generalize (putAt w2 g0 (i*8) V.cells)=W3 at k3 hX3 kk⊢;clear Wb jG Iw zB ot k3 k1 hD1 y2 bM qf;have yv:=hX3.blk.cell 0 ad;rw [hX3.f0,List.length_set,<-HN.o]at yv;have gO:=J hX3;clear hX3;go_wp21;refine(qP p n cc _ _ h1 h2 yv).mono ?_;rintro e w4 ⟨e4,rfl⟩;replace e4:e=.returned (.int .i64 H):=by rw [e4,HH.o]
 subst e4;clear yv EM gN;go_wp21
 go_loopw [1,34] (λt1 t34 wr=>∃(v:Nat),v<=H/\t34=.int .i64 v/\t1=.int .i64 (i / 2^v:Nat)/\H5 wr base p cg cc f G (l.set i d) H (IR l (l.set i d) H (v+1))/\Kept (λj=>base<=j/\j<fT) w wr) (λ_ t34 _=>H - (intOf t34).toNat)
 case atStart=>exact⟨0,by omega,rfl,by simp,gO.o,kk⟩
 case round=>
  obtain⟨v,hv,rfl,rfl,hX,hk⟩:=hrel;clear gO kk;obtain⟨x,je⟩:=nm' (i / 2^v);rw [<-je]
  by_cases aX:v<H
  .obtain⟨N2,Gi⟩:=nm' (2^(H - v))
   obtain⟨M,hM⟩:=nm' (2^(H - (v+1)));have hNM:N2=2*M:=by rw [Gi,hM];exact pQ H v aX
   have abL:N2<=4096:=by rw [Gi];exact ay (Nat.pow_le_pow_right ad (show H - v<=12 by omega)) ae
   have o_:x<N2:=by rw [je,Gi];exact Cz HP.o ad
   obtain⟨k,eC⟩:=nm' (x / 2);have hkM:k<M:=by omega
   have hke:k=i / 2^(v+1):=by rw [eC,je,mV]
   obtain⟨v1,oE⟩:=nm' (v+1);have Wq:(x:Int).tdiv 2=(k:Nat):=by rw [Int.tdiv_eq_ediv_of_nonneg ad,eC];omega
   have V7:=hX.blk.cell (1+v) ad;rw [hX.fl v ad,<-Gi]at V7
   have ajW:wr.cell? ⟨p,1+v1,none⟩=some (.slice (some ⟨G (v+1),0,none⟩) M M):=by
    have:=hX.blk.cell (1+(v+1)) ad;rw [hX.fl (v+1) ad,<-hM]at this;rw [oE];exact this
   have hBv:=hX.lv v ad;have agp:=hX.lv (v+1) ad;rw [show IR l (l.set i d) H (v+1) v=qE (l.set i d) H v from av ad]at hBv;rw [show IR l (l.set i d) H (v+1) (v+1)=qE l H (v+1)from af ad]at agp;have agM:=hX.blk.lt;have T0:=Lj p (G v) (G (v+1)) v v1 k N2 M N2 M (qE (l.set i d) H v) (qE l H (v+1)) wr oE ad (by rw [tp];exact Gi) (by rw [tp];exact hM) ad hkM abL (RT _ H v) V7 ajW hBv agp agM
   have fQ:(qE l H (v+1)).set k (uN ((qE (l.set i d) H v).getD (2*k) Dg.zero) ((qE (l.set i d) H v).getD (2*k+1) Dg.zero))=qE (l.set i d) H (v+1):=by
    rw [sf _ H v _ ad,sf _ H v _ ad,hke];exact C9 l i d H (v+1) _ rfl
   rw [fQ]at T0;have mO:IntKind.i64.wrap ((v:Int)+1)=v1:=by rw [jH];omega
   have⟨HX,HJ,jy,QT⟩:=J4' hX T0 hke oE;have akU:(v1:Int)<13:=by omega
   have zI:k<=4096:=by omega
   have arf:(k:Int)<=4096:=by omega
   clear hX T0 fQ hke V7 ajW hBv agp Gi hM hNM je eC oE;go_wp21;refine HJ.o.mono ?_;rintro e w5 ⟨rfl,hB5,mY⟩
   have hX5:H5 w5 base p cg cc f G (l.set i d) H (IR l (l.set i d) H (v+1+1)):=by
    refine(HX.o.aet (v+1) ad mY _ hB5).nH (λu hu=>?_);unfold IR
    by_cases e:u=v+1
    .subst e;simp
    .rw [af e]
     by_cases e2:u<v+1
     .rw [av e2,av ad]
     .rw [af e2,af ad]
   have kk5:Kept (λj=>base<=j/\j<fT) w w5:=hk.trans' mY (λj _ e=>by
    have h3:=(Nr.o (v+1) aX).1;have h4:=HGT.o (v+1) aX;rw [e];exact⟨h3,h4⟩)
   have k_:=J hX5;clear hX5 hB5 mY HJ HX hk mO Wq;go_wp21;go_roundw
   case rel=>exact⟨v+1,aX,by go_num,by rw [jy.o],k_.o,kk5⟩
   case measure=>simp only [intOf];omega
  .obtain rfl:v=H:=by omega
   have HX:=J hX;clear hX je;go_wp21;go_ret;refine⟨rfl,⟨hpt,cg,cc,f,G,?_,CN,?_⟩,hk⟩
   .rw [List.length_set,<-HN.o,<-HH.o]
    exact HX.o.toL (λu hu=>acm l _ v u hu)
   .rw [List.length_set,<-HN.o,<-HH.o]
    exact HGT.o
def zY (c:List Ins) (pc halt:Int) (m:List Int):Dg:=mM (jO c pc halt m).1 (jO c pc halt m).2.1 m.length (kX (jO c pc halt m).2.2)
theorem LC {c} {pc halt} {m} (hc:c.length<=2048) (h:kr pc halt m):zY c pc halt m=j0 (jO c pc halt m).1 (jO c pc halt m).2.1 (jO c pc halt m).2.2:=by
 unfold zY j0;rw [(DH hc h).2]
structure Sm where (pc halt:Int) (g n c:Nat)
abbrev Sm.cells (s:Sm):Array Value:=#[.int .i64 s.pc,.slice (some ⟨s.g,0,none⟩) s.n s.c,.int .i64 s.halt]
attribute [go_sem] Sm.cells
abbrev MX:=Int×Int×List Int
structure StV (w:World) (s:Sm) (r:MX):Prop where
 pc:s.pc=r.1
 halt:s.halt=r.2.1
 len:s.n=r.2.2.length
 mem:∃base,eo w base s.g s.n s.c r.2.2
theorem StV.ext {w w'} {s:Sm} {r:MX} (h:StV w s r) (hx:al w w'):StV w' s r:=by
 obtain⟨h1,h2,h3,b,h4⟩:=h;exact⟨h1,h2,h3,b,h4.ext hx⟩
theorem StV.kept {S} {w w'} {s} {r:MX} (h:StV w s r) (hx:Kept S w w') (hs:∀i,S i->∀du fr,¬w.heap[i]?=some (.cells du 21 fr)):StV w' s r:=by
 obtain⟨h1,h2,h3,b,h4⟩:=h;obtain⟨_,du,_,hc,_⟩:=h4.inv;exact⟨h1,h2,h3,b,h4.kept hx (λhS=>hs _ hS _ _ hc)⟩
theorem pw.kept {S} {w w'} {s} {L} (h:pw w s L) (hx:Kept S w w') (hs:∀i,S i->∀du fr,¬w.heap[i]?=some (.cells du 25 fr)) (K7:∀i,S i->∀du fr,¬w.heap[i]?=some (.cells du 271 fr)):pw w' s L:=
 ⟨h.pc,h.halt,h.words,h.mem,h.ins,h.path.kept hx hs,h.reads.kept hx hs K7,h.writes.kept hx hs K7⟩
abbrev abA (A:Option Addr) (n cap:Nat) (pc:Int) (A':Option Addr) (k eD:Nat) (halt:Int):Array Value:=#[.slice A n cap,.int .i64 pc,.slice A' k eD,.int .i64 halt]
attribute [go_sem] abA
def qO (n k:Nat) (pc halt:Int):Bool:=decide (1<=n)&&decide (n<=40)&&decide (k<=12)&&dj pc halt k
def gU (c:List Ins) (r:MX):Nat->MX
 |0=>r
 |j+1=>jO c (gU c r j).1 (gU c r j).2.1 (gU c r j).2.2
theorem nw {c:List Ins} {r:MX} (hc:c.length<=2048) (h:kr r.1 r.2.1 r.2.2):∀j,kr (gU c r j).1 (gU c r j).2.1 (gU c r j).2.2/\(gU c r j).2.2.length=r.2.2.length
 |0=>⟨h,rfl⟩
 |j+1=>by
  have ih:=nw hc h j;have:=DH hc ih.1;exact⟨this.1,this.2.trans ih.2⟩
structure nx (w:World) (A:Option Addr) (b off n:Nat) (l:List Ins) (pc halt:Int) (b' bR k:Nat) (m:List Int):Prop where
 at_:A=some ⟨b,off,none⟩
 row:Row w b off (cM l)
 LB:n=l.length
 n1:1<=n
 n2:n<=2048
 iok:∀i∈l,i.ok
 OW:k=m.length
 right:dj pc halt k=true
 Dd:∀z∈m,ax z
 Uv:Row w b' bR (bJ m)
 ops:OpsAt w
theorem nx.ext {w w'} {A} {b off n:Nat} {l:List Ins} {pc halt:Int} {k:Nat} {m:List Int} (h:nx w A b off n l pc halt b' bR k m) (hx:al w w'):nx w' A b off n l pc halt b' bR k m:=
 ⟨h.at_,h.row.ext hx,h.LB,h.n1,h.n2,h.iok,h.OW,h.right,h.Dd,h.Uv.ext hx,h.ops.ext hx⟩
theorem nx.apV {w} {A} {b off n} {l} {pc halt} {k} {m:List Int} (h:nx w A b off n l pc halt b' bR k m):kr pc halt m:=⟨by rw [<-h.OW];exact h.right,h.Dd⟩
