/- Several texts joined: Jb, Jc, Jd, Je. -/
import Derived.Test.YtbfbabbcdochjaaGreatDoorRmpk
import Derived.Test.YtbfbabbcdochjaaGreatDoorRmax
set_option maxHeartbeats 4000000
set_option maxRecDepth 100000
open Go.Proofs.Tryz
namespace Go.Proofs.YtbfbabbcdochjaaGreatDoor
open Go.RowKit So Mc
abbrev alC (nb:Nat):Value:=.func (.func 98) #[] #[.pointer (some ⟨nb,0,none⟩)]
theorem fK (n:Nat):bW n<=65537:=Nat.min_le_right _ _
theorem yJ (a b:Nat):bW (bW a+b)=bW (a+b):=by unfold bW;omega
theorem qQ (a b:Nat):bW (a+bW b)=bW (a+b):=by unfold bW;omega
theorem jD {a:Nat} (h:a<=65537):bW a=a:=by unfold bW;omega
theorem Q_.ext {w w':World} {ex st:Nat} (h:Q_ w ex st) (hx:Ext w w'):Q_ w' ex st:=⟨h.1.ext hx,h.2.ext hx⟩
theorem Q_.ne {w:World} {ex st b:Nat} {t:TypeId} {cs:Array Value} (h:Q_ w ex st) (hb:aH w b t cs):¬ex=b/\¬st=b:=by
 constructor<;>intro e<;>subst e
 ·obtain⟨es,clock,hq,_⟩:=h.1
  rw [show w.heap[_]?=_ from hb]at hq
  cases hq
 ·obtain⟨es,clock,hq,_⟩:=h.2
  rw [show w.heap[_]?=_ from hb]at hq
  cases hq
theorem Q_.kept {w w':World} {ex st b:Nat} (h:Q_ w ex st) (hk:Kept (·=b) w w') (h1:¬ex=b) (h2:¬st=b):Q_ w' ex st:=⟨h.1.kept hk h1,h.2.kept hk h2⟩
abbrev aad (F:EF):Prop:=∀(ex st N:Nat) (A:Option Addr) (c nb n:Nat) (w:World),Q_ w ex st->g_ w N A F.len F->n<=65537->aH w nb 3 #[.int .i64 n]->N<=nb->
 Calls prog 152 #[.agg (cnt ex st),alC nb,.slice A F.len c] w λe w'=>e=.returned (.tuple #[])/\aH w' nb 3 #[.int .i64 (bW (n+iA F):Nat)]/\Kept (·=nb) w w'
def t_ (op:Int) (F:EF):Nat:=FP op+if op=0∨op=1 then 0 else iA F
theorem u7 {w:World} {g:Nat} {f:Int->Option Value} (h:dx w g f) (op:Int) {fv:Value} {bv:Bool} (hf:(f op).getD (.agg #[.int .i64 0,.bool false])=fv) (hb:(f op).isSome=bv):(Instr.lookup 124 (.map (some g)) (.int .i64 op) true).run prog w=.ok (.tuple #[fv,.bool bv]) w:=by
 have hlk:=dx.look_ok (P:=prog) h underlying124 underlying3 (z:=.agg #[.int .i64 0,.bool false]) (λw=>by kernel_rfl) op;rw [hlk,hf,hb]
theorem S9 (F:EF) (IH:aad F) (ex st N:Nat) (op n:Int) (s:Str) (A:Option Addr) (kc:Nat) (w:World) (hC:Q_ w ex st) (hE:g_ w N A F.len F) (hN:N<=w.heap.size):
 Calls prog 171 #[.agg (cnt ex st),.agg (aI op n s A F.len kc)] w λe w'=>e=.returned (.int .i64 (bW (t_ op F):Nat))/\Ext w w':=by
 obtain⟨W1,hW1⟩:∃W1,W1=(w.alloc (.cells (cnt ex st) 126)).alloc (.cells (aI op n s A F.len kc) 200):=⟨_,rfl⟩;have y1:Ext w W1:=by rw [hW1];exact((kR _ w).alloc _).alloc _
 have h4:aH W1 w.heap.size 126 (cnt ex st):=by rw [hW1];exact(bN w _ _).alloc _
 have h7:aH W1 (w.heap.size+1) 200 (aI op n s A F.len kc):=by
  rw [hW1];exact aH.new' _ _ _ _ aG
 have hsz:(w.alloc (.cells (cnt ex st) 126)).heap.size=w.heap.size+1:=by simp
 have HI:=J IH;have HC:=J (hC.ext y1);have HE:=J (hE.kept y1 hN (λ_ f=>f.elim));clear IH hC hE;go_enter func171,ntmps171;go_upto_region 1 with(fail);rw [<-hW1]
 try rw [hsz]
 clear hsz;have HW1:=J hW1;clear hW1;generalize uY:(w:World).heap.size=p4 at h4 h7 hN⊢;have C9:=J uY;clear uY;have H4:=J h4;have H7:=J h7;have i1:=bC h4;have i2:=h4.lt;have j1:=bC h7;have j2:=h7.lt;clear h4 h7;have nQ:=J (show(op=0∨op=1)∨op=2∨¬(op=0∨op=1∨op=2)from by omega);obtain⟨p6,XF⟩:∃p6,p6=W1.heap.size:=⟨_,rfl⟩;have VN:=J XF;clear XF
 rcases nQ.out with ho|ho|ho
 ·skip
  have hlk:=u7 (HC.out).1 op (fv:=(.agg #[.int .i64 1,.bool false])) (bv:=true) (by rcases ho with rfl|rfl<;>rfl) (by rcases ho with rfl|rfl<;>rfl);have Ko:=J (show t_ op F=1 from by rcases ho with rfl|rfl<;>rfl);clear ho;have y2:Ext W1 (W1.alloc (.cells #[.int .i64 1,.bool false] 207)):=(kR _ W1).alloc _;have b2:=bN W1 207 #[.int .i64 1,.bool false];rw [<-VN.out]at b2;have hl6:¬W1.heap.size<W1.heap.size:=by omega
  go_upto_region 4 with(fail);rw [<-VN.out];generalize (W1.alloc (.cells #[.int .i64 1,.bool false] 207))=W2 at y2 b2⊢;clear i1 i2 j1 j2 hlk hl6;have B2:=J b2;have Y2:=J y2;have i1:=bC B2.out;have i2:=B2.out.lt;go_wp2_with fail;refine(qm 1 _).mono ?_;rintro e w3 ⟨rfl,b3,y3⟩;obtain⟨nb,hnb⟩:∃nb,nb=W2.heap.size:=⟨_,rfl⟩;refine afo ?_;clear b3 i1 i2 y2 y3 hnb;intro B3 Y3 fP i1 i2 j1 j2 l1 l2 l3;go_wp2_with fail;refine(fT nb 1 0 _ aj aj B3.out).mono ?_;rintro e w5 ⟨rfl,b5,k5⟩;go_wp2_with fail;go_ret;refine⟨congrArg (λz:Nat=>Ending.returned (.int .i64 z)) (by rw [Ko.out]),?_⟩;exact(y1.trans Y3.out).trans' k5 (λi hi e=>by have:=(y1.trans Y2.out).size;have:=fP.out;omega)
 ·skip
  have hlk:=u7 (HC.out).1 op (fv:=(.agg #[.int .i64 6,.bool true])) (bv:=true) (by subst ho;rfl) (by subst ho;rfl);have Ko:=J (show t_ op F=6+iA F from by subst ho;rfl);clear ho;have y2:Ext W1 (W1.alloc (.cells #[.int .i64 6,.bool true] 207)):=(kR _ W1).alloc _;have b2:=bN W1 207 #[.int .i64 6,.bool true];rw [<-VN.out]at b2;have hl6:¬W1.heap.size<W1.heap.size:=by omega
  go_upto_region 4 with(fail);rw [<-VN.out];generalize (W1.alloc (.cells #[.int .i64 6,.bool true] 207))=W2 at y2 b2⊢;clear i1 i2 j1 j2 hlk hl6;have B2:=J b2;have Y2:=J y2;have i1:=bC B2.out;have i2:=B2.out.lt;go_wp2_with fail;refine(qm 6 _).mono ?_;rintro e w3 ⟨rfl,b3,y3⟩;obtain⟨nb,hnb⟩:∃nb,nb=W2.heap.size:=⟨_,rfl⟩;refine afo ?_;clear b3 i1 i2 y2 y3 hnb;intro B3 Y3 fP i1 i2 j1 j2 l1 l2 l3;go_wp2_with fail;have hnl:w.heap.size<=nb:=by rw [fP.out];exact(y1.trans Y2.out).size
  refine(HI.out ex st N A _ nb 6 _ (HC.out.ext Y3.out) (HE.out.kept Y3.out (by have a:=y1.size;have b:=C9.out;omega) (λ_ f=>f.elim)) aj B3.out (by have b:=C9.out;omega)).mono ?_;rintro e w4 ⟨rfl,b4,k4⟩;clear i1 i2 j1 j2 l1 l2 l3;go_wp2_with fail;refine(fT nb (bW (6+iA F)) 0 _ (fK _) aj b4).mono ?_;exact ajB
 ·skip
  have hlk:=u7 (HC.out).1 op (fv:=(.agg #[.int .i64 0,.bool false])) (bv:=false) aix aix;have Ko:=J (show t_ op F=2+iA F from by unfold t_ FP;rw [if_neg aj,if_neg aj,if_neg aj]);clear ho;have y2:Ext W1 (W1.alloc (.cells #[.int .i64 0,.bool false] 207)):=(kR _ W1).alloc _;have b2:=bN W1 207 #[.int .i64 0,.bool false];rw [<-VN.out]at b2;have hl6:¬W1.heap.size<W1.heap.size:=by omega
  have k1:=bH b2;have k2:=aH.bF b2;have k3:=b2.lt;go_upto_region 2 with(fail);rw [<-VN.out];have y3:=y2.putAt p6 0 #[.int .i64 2,.bool true] (λh=>absurd h (by rw [VN.out];omega));have b3:aH (putAt (W1.alloc (.cells #[.int .i64 0,.bool false] 207)) p6 0 #[.int .i64 2,.bool true]) p6 207 #[.int .i64 2,.bool true]:=aH.gL b2 0 _;generalize (W1.alloc (.cells #[.int .i64 0,.bool false] 207))=W2 at y2 b2 k1 k2 k3 y3 b3⊢;go_upto_region 4 with(fail);clear i1 i2 j1 j2 hlk hl6 y2 b2 k1 k2 k3;generalize (putAt W2 p6 0 #[.int .i64 2,.bool true])=W3 at y3 b3⊢;have y2:=y3;clear y3;have B2:=J b3;clear b3;have Y2:=J y2;have i1:=bC B2.out;have i2:=B2.out.lt;go_wp2_with fail;refine(qm 2 _).mono ?_;rintro e w3 ⟨rfl,b3,y3⟩;obtain⟨nb,hnb⟩:∃nb,nb=W3.heap.size:=⟨_,rfl⟩;refine afo ?_;clear b3 i1 i2 y2 y3 hnb;intro B3 Y3 fP i1 i2 j1 j2 l1 l2 l3;go_wp2_with fail;have hnl:w.heap.size<=nb:=by rw [fP.out];exact(y1.trans Y2.out).size
  refine(HI.out ex st N A _ nb 2 _ (HC.out.ext Y3.out) (HE.out.kept Y3.out (by have a:=y1.size;have b:=C9.out;omega) (λ_ f=>f.elim)) aj B3.out (by have b:=C9.out;omega)).mono ?_;rintro e w4 ⟨rfl,b4,k4⟩;clear i1 i2 j1 j2 l1 l2 l3;go_wp2_with fail;refine(fT nb (bW (2+iA F)) 0 _ (fK _) aj b4).mono ?_;exact ajB
open Go.RowKit So Mc
theorem WR (F:EF):aad F:=by
 refine uh (C:=aad) ?_ F;clear F;intro F IH ex st N A c nb n w hC hE hn hb hNn;obtain⟨-,hf,b,off,hA,hEF⟩:=hE;have hm:=hf.max aj;obtain⟨W1,hW1⟩:∃W1,W1=w.alloc (.cells (cnt ex st) 126):=⟨_,rfl⟩;have y1:Ext w W1:=by rw [hW1];exact(kR _ w).alloc _
 have h4:aH W1 w.heap.size 126 (cnt ex st):=by rw [hW1];exact bN w _ _
 have hN:N<=w.heap.size:=by have:=hb.lt;omega
 have HB:=J (bX hb y1);have nD:=J (show¬w.heap.size=nb by have:=hb.lt;omega);have hce:=hC.ne hb;have kK:=J hce;have HC:=J (hC.ext y1);have HEF:=J (hEF.kept y1 hN (λ_ f=>f.elim));have HI:=J IH;have HA:=J hA;have H4:=J h4;have Bu:=J (show N<=W1.heap.size from Nat.le_trans hN y1.size);have xH:=J hNn;obtain⟨len,hlen⟩:∃len,len=F.len:=⟨_,rfl⟩;have HLEN:=J hlen;rw [<-hlen]at hm hA⊢;obtain⟨T,hT⟩:∃T,T=n+iA F:=⟨_,rfl⟩;have HT:=J hT;rw [<-hT];have hNS:=jD hn;have HNS:=J hNS;clear hC hEF IH hA h4 hb hf hNn hlen hT hce hNS;go_enter func152,ntmps152;go_upto_region 1 with(fail);refine wp_scope_straight ?_
 repeat (first|(refine wp_label ?_;simp only [Exit.then])|go_step)
 rw [<-hW1];generalize uY:(w:World).heap.size=p4 at nD H4 hN⊢;clear hW1
 go_loopw [10] (λt10 wr=>∃(j:Nat) (R:EF) (m:Nat),j+R.len=len/\t10=.int .i64 j/\mK W1 N R b (off+j*4)/\EF.All aad R/\m<=65537/\bW (m+iA R)=bW T/\aH wr nb 3 #[.int .i64 m]/\Kept (·=nb) W1 wr) (λt10 _=>len - (intOf t10).toNat)
 case atStart=>exact⟨0,F,n,by rw [HLEN.out,Nat.zero_add],rfl,by simpa using HEF.out,HI.out,hn,by rw [HT.out],HB.out,kR _ _⟩
 case round=>
  obtain⟨j,R,m,hj,rfl,hR,hall,RA,hsum,Au,hkm⟩:=hrel;have HRR:=J hR;have iL:=J hall;have Wv:=J hsum;have VH:=J Au;have Ht:=J hkm;clear hR hall hsum Au hkm
  cases R with
  |nil=>
   simp only [EF.len,Nat.add_zero]at hj;subst hj;go_wp2_with fail;simp only [Exit.noGoto];go_end0;have hs:=Wv.out;rw [show iA .nil=0 from rfl,Nat.add_zero,jD RA]at hs;exact⟨rfl,hs▸VH.out,(y1.mono (λ_ _ f=>f.elim)).trans Ht.out⟩
  |cons op' n' s' K r=>
   obtain⟨hbN,-,-,-,⟨A',cap,b',off',hh,hg,hfk,hAk,hek⟩,hr⟩:=HRR.out;simp only [EF.len]at hj;have hlt:(j:Int)<len:=by omega
   obtain rfl:=HA.out (by have:=HLEN.out;omega);have hnb:¬b=nb:=by have:=xH.out;omega
   have hh':=(jS Ht.out (by have:=Bu.out;omega) hnb).trans hh;have hg':=(iR Ht.out (by have:=Bu.out;omega) hnb).trans hg;have hbw:b<wr.heap.size:=by have:=Bu.out;have:=Ht.out.size;omega
   have HK:=J (show g_ W1 N A' K.len K from⟨rfl,hfk,b',off',hAk,hek⟩);have HR2:=J hr;have HA1:=J iL.out.1;have HA2:=J iL.out.2;clear hh hg hfk hAk hek hbN hr HRR iL;have y3:=(kR (λ_=>False) wr).alloc (.cells (aI op' n' s' A' K.len cap) 200);have b3:=bN wr 200 (aI op' n' s' A' K.len cap);have q4:=bK H4.out Ht.out nD.out;go_upto_region 4 with(fail);clear hh' hg';generalize (wr.alloc (.cells (aI op' n' s' A' K.len cap) 200))=W3 at y3 b3⊢;generalize wr.heap.size=g at b3 hbw⊢;have q5:=bX q4 y3;have l1:=bH q5;have l2:=bG q5;have l3:=q5.lt;have l4:=bH b3;have l5:=bG b3;have l6:=b3.lt;have eX:=J y3;clear q4 q5 b3 y3;go_wp2_with fail;have Z6:Kept (·=nb) W1 W3:=Ht.out.trans (eX.out.mono (λ_ _ f=>f.elim));refine(S9 K HA1.out ex st N op' n' s' A' cap _ ((HC.out.kept Ht.out kK.out.1 kK.out.2).ext eX.out) (HK.out.kept Z6 Bu.out (λi e=>by have:=xH.out;omega)) (by have:=Bu.out;have:=Z6.size;omega)).mono ?_;rintro e w4 ⟨rfl,y4⟩;go_wp2_with fail;refine(fT nb m (bW (t_ op' K)) _ RA (by have:=fK (t_ op' K);omega) (bX (bX VH.out eX.out) y4)).mono ?_;rintro e w5 ⟨rfl,b5,k5⟩
   have HS2:=J (show bW (bW (m+bW (t_ op' K))+iA r)=bW T from by
    rw [<-Wv.out,yJ,show iA (.cons op' n' s' K r)=t_ op' K+iA r from rfl,<-Nat.add_assoc];unfold bW
    omega)
   have hz6:=fK (m+bW (t_ op' K));generalize bW (m+bW (t_ op' K))=z at b5 HS2 hz6⊢;have nC:=J b5;have pG:=J (Z6.trans ((y4.mono (λ_ _ f=>f.elim)).trans k5));clear b5 k5 y4 l1 l2 l3 l4 l5 l6
   by_cases hbig:65536<z
   ·have hg:decide ((65536:Int)<(z:Int))=true:=decide_eq_true aj
    have kY:=J hbig;clear hbig;go_wp2_with fail;simp only [Exit.noGoto];go_end0;have hs:=HS2.out;rw [show bW (z+iA r)=z by have:=kY.out;unfold bW;omega]at hs;exact⟨rfl,hs▸nC.out,(y1.mono (λ_ _ f=>f.elim)).trans pG.out⟩
   ·have hg:decide ((65536:Int)<(z:Int))=false:=decide_eq_false aj
    clear hbig;go_wp2_with fail;go_roundw
    case rel=>exact⟨j+1,r,z,by omega,by go_num,by rw [Nat.add_mul,<-Nat.add_assoc];exact HR2.out,HA2.out,hz6,HS2.out,nC.out,pG.out⟩
    case measure=>simp only [intOf];omega
open Go.RowKit So Mc
abbrev ado (F:SF):Prop:=∀(ex st N:Nat) (A:Option Addr) (c:Nat) (w:World),Q_ w ex st->iO w N A F.len F->N<=w.heap.size->
 Calls prog 59 #[.agg (cnt ex st),.slice A F.len c] w λe w'=>e=.returned (.int .i64 (bW (dG F):Nat))/\Ext w w'
def jF (kind:Int) (e:EF) (low high:Int) (l els:SF):Nat:=
 uD kind+(if yC kind then iA e else 0)+if kind=2 then max (dG l) (dG els)else if kind=3/\low<=high then((min (high - low) 65536).toNat+1)*(4+dG l)else 0
theorem Ow (kind:Int) (s:Str) (e:EF) (low high:Int) (l els r:SF):dG (.cons kind s e low high l els r)=jF kind e low high l els+dG r:=rfl
theorem YA {kind:Int} (h:0<=kind/\kind<=9):stC kind=some (.agg #[.int .i64 (uD kind),.bool (yC kind)]):=by
 have hk:kind=0∨kind=1∨kind=2∨kind=3∨kind=4∨kind=5∨kind=6∨kind=7∨kind=8∨kind=9:=by omega
 rcases hk with rfl|rfl|rfl|rfl|rfl|rfl|rfl|rfl|rfl|rfl<;>rfl
theorem aaU (kind:Int):uD kind<=8:=by
 unfold uD
 repeat' split
 all_goals omega
theorem Yq (a r z:Nat):bW (a+(r+1)*(4+bW z))=bW (a+(r+1)*(4+z)):=by
 by_cases h:z<=65537
 ·rw [jD h]
 ·have h1:bW z=65537:=by unfold bW;omega
  rw [h1];have h2:4+65537<=(r+1)*(4+65537):=Nat.le_mul_of_pos_left _ aj;have h3:4+z<=(r+1)*(4+z):=Nat.le_mul_of_pos_left _ aj;unfold bW
  omega
theorem Yp (a y z:Nat):bW (a+max (bW y) (bW z))=bW (a+max y z):=by unfold bW;omega
theorem Td (l els:SF) (ex st N:Nat) (kind low high:Int) (IL:kind=2∨kind=3->ado l) (IX:kind=2->ado els) (hk:0<=kind/\kind<=9) (ilo:aL low) (ihi:aL high) (s:Str) (A:Option Addr) (ec:Nat) (F:EF) (lA:Option Addr) (lc:Nat) (xA:Option Addr) (xc:Nat) (w:World) (hC:Q_ w ex st) (hE:g_ w N A F.len F) (hl:iO w N lA l.len l) (hx:iO w N xA els.len els) (hN:N<=w.heap.size):
 Calls prog 99 #[.agg (cnt ex st),.agg (aB kind s A F.len ec low high lA l.len lc xA els.len xc)] w λe w'=>e=.returned (.int .i64 (bW (jF kind F low high l els):Nat))/\Ext w w':=by
 obtain⟨W1,hW1⟩:∃W1,W1=(w.alloc (.cells (cnt ex st) 126)).alloc (.cells (aB kind s A F.len ec low high lA l.len lc xA els.len xc) 151):=⟨_,rfl⟩;have y1:Ext w W1:=by rw [hW1];exact((kR _ w).alloc _).alloc _
 have h4:aH W1 w.heap.size 126 (cnt ex st):=by rw [hW1];exact(bN w _ _).alloc _
 have h7:aH W1 (w.heap.size+1) 151 (aB kind s A F.len ec low high lA l.len lc xA els.len xc):=by
  rw [hW1];exact aH.new' _ _ _ _ aG
 have hsz:(w.alloc (.cells (cnt ex st) 126)).heap.size=w.heap.size+1:=by simp
 obtain⟨own,how⟩:∃own,own=uD kind:=⟨_,rfl⟩;obtain⟨prt,hpr⟩:∃prt,prt=yC kind:=⟨_,rfl⟩;have hlk:=u7 (hC.ext y1).2 kind (fv:=.agg #[.int .i64 own,.bool prt]) (bv:=true) (by rw [YA hk,how,hpr];rfl) (by rw [YA hk];rfl);have h8:own<=8:=by rw [how];exact aaU _
 have ZL:=J IL;have HIX:=J IX;have HC:=J (hC.ext y1);have HE:=J (hE.kept y1 hN (λ_ f=>f.elim));have HL:=J (hl.kept y1 hN (λ_ f=>f.elim));have HX:=J (hx.kept y1 hN (λ_ f=>f.elim));have Bu:=J (show N<=W1.heap.size from Nat.le_trans hN y1.size);have HK:=J hk;have HOW:=J how;have Ki:=J hpr;have HLH:=J (And.intro ilo ihi);clear IL IX hC hE hl hx hk how hpr ilo ihi;go_enter func99,ntmps99;go_upto_region 1 with(fail);rw [<-hW1]
 try rw [hsz]
 clear hsz hW1;obtain⟨p6,XF⟩:∃p6,p6=W1.heap.size:=⟨_,rfl⟩;have VN:=J XF;clear XF;have Hz:=J y1.size;generalize uY:(w:World).heap.size=p4 at h4 h7⊢;have C9:=J uY;clear uY;have H4:=J h4;have H7:=J h7;have i1:=bC h4;have i2:=h4.lt;have j1:=bC h7;have j2:=h7.lt;clear h4 h7;have y2:Ext W1 (W1.alloc (.cells #[.int .i64 own,.bool prt] 207)):=(kR _ W1).alloc _;have b2:=bN W1 207 #[.int .i64 own,.bool prt];rw [<-VN.out]at b2;go_upto_region 4 with(fail);rw [<-VN.out];generalize (W1.alloc (.cells #[.int .i64 own,.bool prt] 207))=W2 at y2 b2⊢;clear i1 i2 j1 j2 hlk;have B2:=J b2;have Y2:=J y2;have i1:=bC b2;have i2:=b2.lt;clear b2;go_wp2_with fail;refine(qm own _).mono ?_;rintro e w3 ⟨rfl,b3,y3⟩;obtain⟨nb,hnb⟩:∃nb,nb=W2.heap.size:=⟨_,rfl⟩;rw [<-hnb]at b3⊢;clear i1 i2;have B3:=J b3;have Y3:=J (Y2.out.trans y3);have B2b:=J (bX B2.out y3);have Wm:=J (show N<=nb/\w.heap.size<=nb from by have a:=y2.size;have b:=Bu.out;have c:=Hz.out;omega);have HQ:=J (show¬p4=nb/\¬p4+1=nb/\¬p6=nb from by have a:=y2.size;have b:=H7.out.lt;have c:=B2.out.lt;omega);clear b3 y2 y3 hnb;have tH:=J (HC.out.ext Y3.out);have hce:=tH.out.ne B3.out;have kK:=J hce;clear hce;have hwx:=y1;have hmx:∀a b:Nat,max (a:Int) (b:Int)=((max a b:Nat):Int):=λa b=>by omega
 have e1:=bC B2b.out;have e2:=B2b.out.lt;have SS:=J (show N<=w3.heap.size from Nat.le_trans Bu.out Y3.out.size);have HEV:=J (HE.out.kept Y3.out Bu.out (λ_ f=>f.elim))
 cases prt
 ·skip
  obtain⟨m,hm⟩:∃m,m=own:=⟨_,rfl⟩;have BM:=J (show aH w3 nb 3 #[.int .i64 (m:Int)]from by rw [hm];exact B3.out);have KM:=J (show Kept (·=nb) w3 w3 from kR _ _);have oO:=J (show m<=65537 by omega);have Ad:=J (show m=bW (own+if yC kind=true then iA F else 0)from by rw [<-Ki.out,hm];exact(jD aj).symm);clear hm;go_upto_region 7 with(fail);clear e1 e2;have hk2:¬kind=2:=λh=>by have:=Ki.out;rw [h]at this;cases this
  have he2:(kind==2)=false:=by simpa using hk2
  refine aft ?_;intro i1 i2 i3 i4 i5;go_upto_region 9 with(fail)
  by_cases hk3:kind=3
  ·skip
   have he3:(kind==3)=true:=by rw [hk3];rfl
   by_cases hlh:low<=high
   ·skip
    have hle:decide (low<=high)=true:=decide_eq_true hlh;have adx:=J (ZL.out (.inr hk3));have ilo:=HLH.out.1;have ihi:=HLH.out.2;unfold aL at ilo ihi;have hu:IntKind.u64.wrap (IntKind.u64.wrap high - IntKind.u64.wrap low)=high - low:=by simp only [IntKind.wrap_u64];omega
    obtain⟨Q0,hQ0⟩:∃Q0:Int,Q0=min (high - low) 65536:=⟨_,rfl⟩;have hmn:min (high - low) 65536=Q0:=hQ0.symm;have hQb:0<=Q0/\Q0<=65536:=by omega
    have hw1:IntKind.i64.wrap Q0=Q0:=wrap_i64 jP;have hw2:IntKind.i64.wrap (Q0+1)=Q0+1:=wrap_i64 jP;have hzl:=fK (dG l);have hw3:IntKind.i64.wrap (4+(bW (dG l):Int))=4+(bW (dG l):Int):=wrap_i64 jP;obtain⟨M,hM⟩:∃M:Nat,M=(Q0.toNat+1)*(4+bW (dG l)):=⟨_,rfl⟩
    have hMI:(Q0+1)*(4+(bW (dG l):Int))=(M:Int):=by
     rw [hM,Int.natCast_mul,Int.natCast_add,Int.natCast_add]
     congr 1
     omega
    have hMb:M<=65537*65541:=by rw [hM];exact Nat.mul_le_mul aj aj
    have hw4:IntKind.i64.wrap ((Q0+1)*(4+(bW (dG l):Int)))=(M:Int):=by rw [hMI];exact wrap_i64 jP
    have SN:=J hMb
    have ZV:=J (show bW (bW (m+M))=bW (jF kind F low high l els)from by
     unfold jF;rw [jD (fK _),if_neg hk2,if_pos (And.intro hk3 hlh),<-hQ0,hM,Yq,Ad.out,yJ,HOW.out])
    clear hk2 hk3 hlh hQ0 hQb hzl hM hMI hMb ilo ihi;go_wp2_with fail;refine(adx.out ex st N lA _ _ (tH.out.kept (KM.out) kK.out.1 kK.out.2) ((HL.out.kept Y3.out Bu.out (λ_ f=>f.elim)).kept (KM.out) SS.out (λi e=>by have:=Wm.out.1;omega)) (Nat.le_trans SS.out (KM.out).size)).mono ?_;rintro e w5 ⟨rfl,y5⟩;clear i1 i2 i3 i4 i5;go_wp2_with fail;refine(fT nb m M _ oO.out (by have:=SN.out;omega) (bX BM.out y5)).mono ?_;rintro e w7 ⟨rfl,b7,k7⟩;have BF:=J b7;have KF:=J (KM.out.trans ((y5.mono (λ_ _ f=>f.elim)).trans k7));have oO:=J (fK (m+M));clear hmn hu hw1 hw2 hw3 hw4 b7 k7 y5;generalize bW (m+M)=z at BF oO ZV⊢;exact aju
   ·skip
    have ZV:=J (show bW m=bW (jF kind F low high l els)from by
     unfold jF;rw [Ad.out,if_neg hk2,if_neg (show¬(kind=3/\low<=high)from λh=>hlh h.2),Nat.add_zero,HOW.out,jD (fK _)])
    have hle:decide (low<=high)=false:=decide_eq_false hlh;clear hk2 hk3 hlh;exact afB
  ·skip
   have ZV:=J (show bW m=bW (jF kind F low high l els)from by
    unfold jF;rw [Ad.out,if_neg hk2,if_neg (show¬(kind=3/\low<=high)from λh=>hk3 h.1),Nat.add_zero,HOW.out,jD (fK _)])
   have he3:(kind==3)=false:=by simpa using hk3
   clear hk2 hk3;exact afB
 ·skip
  have JO:=J (show Kept (·=nb) w3 w3 from kR _ _);have q4:=bK (bX H4.out Y3.out) JO.out HQ.out.1;have q7:=bK (bX H7.out Y3.out) JO.out HQ.out.2.1;have i1:=bC q7;have i2:=q7.lt;have i3:=bH q4;have i4:=bG q4;have i5:=q4.lt;clear q4 q7;go_wp2_with fail;clear i1 i2 i3 i4 i5 e1 e2;refine(WR F ex st N A _ nb own _ tH.out HEV.out aj B3.out Wm.out.1).mono ?_;rintro e wc ⟨rfl,b4,k4⟩;have BM:=J b4;have KM:=J k4;have oO:=J (fK (own+iA F));have Ad:=J (show bW (own+iA F)=bW (own+if yC kind=true then iA F else 0)from by rw [<-Ki.out];rfl);clear b4 k4;generalize bW (own+iA F)=m at BM oO Ad⊢
  by_cases hk2:kind=2
  ·skip
   have HSS:=J (show bW (m+max (dG l) (dG els))=bW (jF kind F low high l els)from by
    unfold jF;rw [Ad.out,yJ,if_pos hk2,HOW.out])
   have he2:(kind==2)=true:=by rw [hk2];rfl
   have adx:=J (ZL.out (.inl hk2));have ajY:=J (HIX.out hk2);clear hk2;refine aft ?_;intro i1 i2 i3 i4 i5;go_upto_region 8 with(fail);clear i1 i2 i3 i4 i5;refine gM (λwz=>Kept (·=nb) wc wz) [(0,2),(1,1),(2,2),(3,1),(5,1),(6,2),(7,1),(4,0),(8,0),(9,1),(10,0)] ?_;refine gN ?_
   (repeat first|refine cu ?_|refine dL (Kept.drew (kR _ _)) (by intro w1 hS;have q4:=bK (bX H4.out Y3.out) (KM.out.trans hS) HQ.out.1;have q7:=bK (bX H7.out Y3.out) (KM.out.trans hS) HQ.out.2.1;have i1:=bC q7;have i2:=q7.lt;have i3:=bH q4;have i4:=bG q4;have i5:=q4.lt;exact gX) ?_|refine dK (Kept.drew (kR _ _)) ?_)
   have kd:Kept (·=nb) wc wc.drew:=(kR _ wc).drew
   (refine aC (λK hK=>?_);go_simp)
   go_wp2_with fail;refine(adx.out ex st N lA _ _ (tH.out.kept (KM.out.trans kd) kK.out.1 kK.out.2) ((HL.out.kept Y3.out Bu.out (λ_ f=>f.elim)).kept (KM.out.trans kd) SS.out (λi e=>by have:=Wm.out.1;omega)) (Nat.le_trans SS.out (KM.out.trans kd).size)).mono ?_;rintro e w5 ⟨rfl,y5⟩;have k5:=kd.trans (y5.mono (λ_ _ f=>f.elim));refine hK.out _ _ (λ_=>k5) ?_;clear hK K;refine qX ?_;intro K hK;go_wp2_with fail;refine(ajY.out ex st N xA _ _ (tH.out.kept (KM.out.trans k5) kK.out.1 kK.out.2) ((HX.out.kept Y3.out Bu.out (λ_ f=>f.elim)).kept (KM.out.trans k5) SS.out (λi e=>by have:=Wm.out.1;omega)) (Nat.le_trans SS.out (KM.out.trans k5).size)).mono ?_;rintro e w6 ⟨rfl,y6⟩;have k6:=k5.trans (y6.mono (λ_ _ f=>f.elim));refine hK.out _ _ (λ_=>k6) ?_;clear hK K
   (repeat first|refine cu ?_|refine dL k6 (by intro w1 hS;exact gX) ?_|refine dK k6 ?_)
   (refine aC (λK hK=>?_);go_simp)
   go_wp2_with fail;refine(fT nb m (max (bW (dG l)) (bW (dG els))) _ oO.out (by have a:=fK (dG l);have b:=fK (dG els);omega) (bX (bX (aH.drew BM.out) y5) y6)).mono ?_;rintro e w7 ⟨rfl,b7,k7⟩;refine hK.out _ _ (λ_=>k6.trans k7) ?_;clear hK K;refine gI ?_;have BF:=J b7;have KF:=J (KM.out.trans (k6.trans k7));have oO:=J (fK (m+max (bW (dG l)) (bW (dG els))));have ZV:=J (show bW (bW (m+max (bW (dG l)) (bW (dG els))))=bW (jF kind F low high l els)from by rw [jD (fK _),Yp];exact HSS.out);generalize bW (m+max (bW (dG l)) (bW (dG els)))=z at BF oO ZV b7⊢;clear b7 k7 k6 k5 kd y5 y6;exact aju
  ·skip
   have hk3:¬kind=3:=λh=>by have:=Ki.out;rw [h]at this;cases this
   have ZV:=J (show bW m=bW (jF kind F low high l els)from by
    unfold jF;rw [Ad.out,if_neg hk2,if_neg (show¬(kind=3/\low<=high)from λh=>hk3 h.1),Nat.add_zero,HOW.out,jD (fK _)])
   have he2:(kind==2)=false:=by simpa using hk2
   have he3:(kind==3)=false:=by simpa using hk3
   clear hk2 hk3;refine aft ?_;intro i1 i2 i3 i4 i5;exact afB
open Go.RowKit So Mc
def okK:SF->Prop
 | .nil=>True
 | .cons kind _ _ _ _ l x r=>(0<=kind/\kind<=9)/\(kind=2∨kind=3->okK l)/\(kind=2->okK x)/\okK r
theorem Ee {part:Nat}:∀{F:SF} {κ:Kn} {f:Nat} {top:Bool},bV part κ f top F=none->okK F
 | .nil,_,_,_,_=>trivial
 | .cons kind s e low high l x r,κ,f,top,h=>by
  rw [jT,av]at h;obtain⟨h1,h2⟩:=h;unfold nu at h1;rw [av,av,av,av,aP,Bool.and_eq_true]at h1;obtain⟨⟨q1,_⟩,-,-,-,q5⟩:=h1;refine⟨by simpa [jq]using q1,λhk=>?_,λhk=>?_,Ee h2⟩
  ·rcases hk with hk|hk
   ·rw [if_pos hk,av]at q5
    exact Ee q5.1
   ·rw [if_neg aj,if_pos hk]at q5
    exact Ee q5
  ·rw [if_pos hk,av]at q5
   exact Ee q5.2
abbrev adp (F:SF):Prop:=okK F->ado F
theorem nX (F:SF):adp F:=by
 refine sj (C:=adp) ?_ F;clear F;intro F IH hok ex st N A c w hC hE hN;obtain⟨-,hf,b,off,hA,hEF⟩:=hE;have hm:=hf.max aj;obtain⟨W1,hW1⟩:∃W1,W1=w.alloc (.cells (cnt ex st) 126):=⟨_,rfl⟩;have y1:Ext w W1:=by rw [hW1];exact(kR _ w).alloc _
 have h4:aH W1 w.heap.size 126 (cnt ex st):=by rw [hW1];exact bN w _ _
 have HC:=J (hC.ext y1);have HEF:=J (hEF.kept y1 hN (λ_ f=>f.elim));have HI:=J IH;have nV:=J hok;have HA:=J hA;have H4:=J h4;have Bu:=J (show N<=W1.heap.size from Nat.le_trans hN y1.size);obtain⟨len,hlen⟩:∃len,len=F.len:=⟨_,rfl⟩;have HLEN:=J hlen;rw [<-hlen]at hm hA⊢;obtain⟨T,hT⟩:∃T,T=dG F:=⟨_,rfl⟩;have HT:=J hT;rw [<-hT];clear hC hEF IH hA h4 hf hlen hT hok;go_enter func59,ntmps59;go_upto_region 1 with(fail);rw [<-hW1];have Hz:=J y1.size;generalize uY:(w:World).heap.size=p4 at H4⊢;have C9:=J uY;clear hW1 uY;refine wp_scope_straight ?_;go_wp2_with fail;refine(qm 0 _).mono ?_;rintro e W2 ⟨rfl,b2,y2⟩;generalize hnb:(W1:World).heap.size=nb at b2⊢;have nD:=J (show¬p4=nb by have:=H4.out.lt;omega);have xH:=J (show N<=nb/\w.heap.size<=nb from by have a:=Bu.out;have b:=Hz.out;omega);clear hnb;have HB:=J b2;have NK:=J (HC.out.ext y2);have kK:=J (NK.out.ne b2);have fH:=J y2;have H42:=J (bX H4.out y2);have ajU:=J (HEF.out.kept y2 Bu.out (λ_ f=>f.elim));have HN2:=J (show N<=W2.heap.size from Nat.le_trans Bu.out y2.size);clear b2 y2;go_wp2_with fail
 repeat (first|(refine wp_label ?_;simp only [Exit.then])|go_step)
 go_loopw [11] (λt11 wr=>∃(j:Nat) (R:SF) (m:Nat),j+R.len=len/\t11=.int .i64 j/\nk W2 N R b (off+j*7)/\SF.All adp R/\okK R/\m<=65537/\bW (m+dG R)=bW T/\aH wr nb 3 #[.int .i64 m]/\Kept (·=nb) W2 wr) (λt11 _=>len - (intOf t11).toNat)
 case atStart=>exact⟨0,F,0,by rw [HLEN.out,Nat.zero_add],rfl,by simpa using ajU.out,HI.out,nV.out,by omega,by rw [HT.out,Nat.zero_add],HB.out,kR _ _⟩
 case round=>
  obtain⟨j,R,m,hj,rfl,hR,hall,hok,RA,hsum,Au,hkm⟩:=hrel;have HRR:=J hR;have iL:=J hall;have aai:=J hok;have Wv:=J hsum;have VH:=J Au;have Ht:=J hkm;have oO:=J RA;clear hR hall hok hsum Au hkm RA
  cases R with
  |nil=>
   simp only [SF.len,Nat.add_zero]at hj;subst hj;go_wp2_with fail;refine(fT nb m 0 _ oO.out aj VH.out).mono ?_;rintro e w9 ⟨rfl,b9,k9⟩;go_wp2_with fail;simp only [Exit.noGoto];go_ret;refine⟨congrArg (λz:Nat=>Ending.returned (.int .i64 z)) Wv.out,?_⟩;exact(y1.trans fH.out).trans' (Ht.out.trans k9) (λi hi e=>by have:=xH.out.2;omega)
  |cons kind s es low high l x r=>
   obtain⟨hbN,-,i2,i3,-,⟨eA,ec,lA,lc,xA,xc,be,oe,bl,ol,bx,ox,hh,hg,n1,n2,n3,a1,a2,a3,he,hl,Az⟩,hr⟩:=HRR.out;simp only [SF.len]at hj;have hlt:(j:Int)<len:=by omega
   obtain rfl:=HA.out (by have:=HLEN.out;omega);have hnb:¬b=nb:=by have:=xH.out;omega
   have hh':=(jS Ht.out (by have:=HN2.out;omega) hnb).trans hh;have hg':=(iR Ht.out (by have:=HN2.out;omega) hnb).trans hg;have hbw:b<wr.heap.size:=by have:=HN2.out;have:=Ht.out.size;omega
   have KE:=J (show g_ W2 N eA es.len es from⟨rfl,n1,be,oe,a1,he⟩);have KL:=J (show iO W2 N lA l.len l from⟨rfl,n2,bl,ol,a2,hl⟩);have KX:=J (show iO W2 N xA x.len x from⟨rfl,n3,bx,ox,a3,Az⟩);have HR2:=J hr;have HI2:=J (And.intro i2 i3);clear hh hg n1 n2 n3 a1 a2 a3 he hl Az hbN hr HRR i2 i3;have y3:=(kR (λ_=>False) wr).alloc (.cells (aB kind s eA es.len ec low high lA l.len lc xA x.len xc) 151);have b3:=bN wr 151 (aB kind s eA es.len ec low high lA l.len lc xA x.len xc);have q4:=bK H42.out Ht.out nD.out;go_upto_region 5 with(fail);clear hh' hg';generalize (wr.alloc (.cells (aB kind s eA es.len ec low high lA l.len lc xA x.len xc) 151))=W3 at y3 b3⊢;generalize wr.heap.size=g at b3 hbw⊢;have q5:=bX q4 y3;have l1:=bH q5;have l2:=bG q5;have l3:=q5.lt;have l4:=bH b3;have l5:=bG b3;have l6:=b3.lt;have eX:=J y3;clear q4 q5 b3 y3;go_wp2_with fail;have Z6:Kept (·=nb) W2 W3:=Ht.out.trans (eX.out.mono (λ_ _ f=>f.elim));have hSN:∀i,i=nb->N<=i:=λi e=>by have:=xH.out.1;omega
   refine(Td l x ex st N kind low high (λh=>iL.out.1 (aai.out.2.1 h)) (λh=>iL.out.2.1 (aai.out.2.2.1 h)) aai.out.1 HI2.out.1 HI2.out.2 s eA ec es lA lc xA xc _ ((NK.out.kept Ht.out kK.out.1 kK.out.2).ext eX.out) (KE.out.kept Z6 HN2.out hSN) (KL.out.kept Z6 HN2.out hSN) (KX.out.kept Z6 HN2.out hSN) (Nat.le_trans HN2.out Z6.size)).mono ?_;rintro e w4 ⟨rfl,y4⟩;go_wp2_with fail;refine(fT nb m (bW (jF kind es low high l x)) _ oO.out (by have:=fK (jF kind es low high l x);omega) (bX (bX VH.out eX.out) y4)).mono ?_;rintro e w5 ⟨rfl,b5,k5⟩
   have HS2:=J (show bW (bW (m+bW (jF kind es low high l x))+dG r)=bW T from by
    rw [<-Wv.out,yJ,Ow,<-Nat.add_assoc];unfold bW
    omega)
   have hz6:=fK (m+bW (jF kind es low high l x));generalize bW (m+bW (jF kind es low high l x))=z at b5 HS2 hz6⊢;have HZ6:=J hz6;have nC:=J b5;have pG:=J (Z6.trans ((y4.mono (λ_ _ f=>f.elim)).trans k5));clear b5 k5 y4 l1 l2 l3 l4 l5 l6 Z6 hSN
   by_cases hbig:65536<z
   ·have hg:decide ((65536:Int)<(z:Int))=true:=decide_eq_true aj
    have kY:=J hbig;clear hbig hz6;go_wp2_with fail;refine(fT nb z 0 _ HZ6.out aj nC.out).mono ?_;rintro e w9 ⟨rfl,b9,k9⟩;go_wp2_with fail;simp only [Exit.noGoto];go_ret;refine⟨congrArg (λz:Nat=>Ending.returned (.int .i64 z)) ?_,?_⟩
    ·rw [<-HS2.out]
     have:=kY.out;unfold bW
     omega
    ·exact(y1.trans fH.out).trans' (pG.out.trans k9) (λi hi e=>by have:=xH.out.2;omega)
   ·have hg:decide ((65536:Int)<(z:Int))=false:=decide_eq_false aj
    clear hbig;go_wp2_with fail;go_roundw
    case rel=>exact⟨j+1,r,z,by omega,by go_num,by rw [Nat.add_mul,<-Nat.add_assoc];exact HR2.out,iL.out.2.2,aai.out.2.2.2,hz6,HS2.out,nC.out,pG.out⟩
    case measure=>simp only [intOf];omega
end Go.Proofs.YtbfbabbcdochjaaGreatDoor
