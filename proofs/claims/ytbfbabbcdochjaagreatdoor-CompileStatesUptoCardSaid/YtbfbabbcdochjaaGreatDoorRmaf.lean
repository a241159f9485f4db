/- Several texts joined: Qi, Qj, Qk, Qm. -/
import Derived.Lib.AppendZeros
import Derived.Test.YtbfbabbcdochjaaGreatDoorRmpk
import Derived.Test.YtbfbabbcdochjaaGreatDoorRmae
set_option maxHeartbeats 4000000
set_option maxRecDepth 100000
open Go.Proofs.Tryz
namespace Go.Proofs.YtbfbabbcdochjaaGreatDoor
open Go.RowKit So
abbrev Eb (w:World) (F:SF):Prop:=∀(A:Option Addr) (n c N:Nat) (w':World),Ext w w'->N<=w.heap.size->iO w N A n F->Calls prog 48 #[.slice A n c] w' λe w2=>Ext w' w2/\∃A' c',e=.returned (.slice A' n c')/\BG w2 (λi=>w'.heap.size<=i/\i<w2.heap.size) A' n F
theorem mV (w0:World) (F:SF):Eb w0 F:=by
 refine sj (C:=Eb w0) ?_ F;intro F IH A n c N w hx0 hN h;obtain⟨hn,hf,b,off,hA,hE⟩:=h;have hm:=hf.max aj;have hm2:=hf;unfold Fits at hm2;have HM:=J hm2;have HF:=J hf;have HN:=J hn;have HA:=J hA;have HE:=J hE;have HI:=J IH;clear hn hA hE IH hf hm2;go_enter func48,ntmps48;go_wp2_with fail
 go_loopw [3,8] (λt3 t8 wr=>∃(j:Nat) (P R:SF) (l:List Sc),j+R.len=n/\P.app R=F/\l.length=j/\t8=.int .i64 j/\wr.ownsRow w.heap.size 151 7 t3 j (aR Sc.cells l)/\mO wr (λi=>w.heap.size<=i/\i<wr.heap.size/\¬t3.ownBlock=some i) l P/\nk w0 N R b (off+j*7)/\SF.All (Eb w0) R/\Ext w wr) (λ_ t8 _=>n - (intOf t8).toNat)
 case atStart=>exact⟨0,.nil,F,[],by rw [HN.out,Nat.zero_add],rfl,rfl,rfl,World.ownsRow_nil _ _ _ _,trivial,by simpa using HE.out,HI.out,kR _ _⟩
 case round=>
  obtain⟨j,P,R,l,hj,hacc,hlen,rfl,ho,hec,hR,hI,hx⟩:=hrel;have HR:=J hR;have HI2:=J hI;have HX:=J hx;have HO:=J ho;have HEC:=J hec;have HLEN:=J hlen;have dw:=J hacc;clear hR hI hx ho hec hlen hacc
  cases R with
  |nil=>
   simp only [SF.len,Nat.add_zero]at hj;subst hj;have hacc:=dw.out;rw [Ew]at hacc;subst hacc;go_wp2_with fail;go_ret;refine⟨HX.out,?_⟩;exact aaW HO.out HEC.out HN.out HF.out HLEN.out
  |cons kind name es low high q x r=>
   obtain⟨hb,h1,h2,h3,h4,⟨eA,ec,lA,lc,xA,xc,be,oe,bl,ol,bx,ox,hh,hg,n1,n2,n3,a1,a2,a3,he,hl,Az⟩,hr⟩:=HR.out;simp only [SF.len]at hj;have hlt:(j:Int)<n:=by omega
   obtain rfl:=HA.out aj;have jN:=hx0.trans HX.out;refine FY ?_;intro hbl hh' hg' hbw;have KE:=J (show g_ w0 N eA es.len es from⟨rfl,n1,be,oe,a1,he⟩);have KL:=J (show iO w0 N lA q.len q from⟨rfl,n2,bl,ol,a2,hl⟩);have KX:=J (show iO w0 N xA x.len x from⟨rfl,n3,bx,ox,a3,Az⟩);have IL:=J HI2.out.1;have IX:=J HI2.out.2.1;have HX0:=J jN;have HR2:=J hr;have nV:=J (show aL kind/\aL low/\aL high/\name.size<=maxLen from⟨h1,h2,h3,h4⟩);clear hh hg n1 n2 n3 a1 a2 a3 he hl Az h1 h2 h3 h4 HR hbl jN hr hb;go_upto_region 5 with(fail);have y0:Ext wr _:=(kR _ wr).alloc (.cells (aB kind name eA es.len ec low high lA q.len lc xA x.len xc) 86);have hB:=bN wr 86 (aB kind name eA es.len ec low high lA q.len lc xA x.len xc);have Z7:∀i,u3.ownBlock=some i->w.heap.size<=i/\i<wr.heap.size:=HO.out.lt;have hpo:¬u3.ownBlock=some wr.heap.size:=λe=>by have:=(Z7 _ e).2;omega
   have hWs:(wr.alloc (.cells (aB kind name eA es.len ec low high lA q.len lc xA x.len xc) 86)).heap.size=wr.heap.size+1:=by simp
   have HOW:=J (bD HO.out y0);generalize hW:(wr.alloc (.cells (aB kind name eA es.len ec low high lA q.len lc xA x.len xc) 86))=W at y0 hB hWs HOW⊢;clear hW hh' hg';have Hz:=J hWs;have HOB:=J Z7;have HPO:=J hpo;have eH:=J (HX0.out.trans y0);have HXr:=J (HX.out.trans y0);have HY:=J y0;have HWR:=J (show w.heap.size<=wr.heap.size from HX.out.size);clear hWs Z7 hpo y0 HX;obtain⟨pb,hpb⟩:∃pb,pb=wr.heap.size:=⟨_,rfl⟩;rw [<-hpb]at hB⊢;have lN:=J hpb;clear hpb;have hC:=J hB;clear hB;refine gM (λw1=>Kept (λi=>u3.ownBlock=some i) W w1) [(0,2),(1,2),(2,1),(3,2),(4,1),(5,2),(6,1),(8,2),(9,1),(10,2),(11,1),(12,2),(13,1),(15,2),(16,1),(7,0),(14,0),(17,0),(18,2),(19,0),(20,0),(21,2)] ?_;refine gN ?_;refine ET ?_;intro bU
   (repeat first|refine cu ?_|refine dL (Kept.ext bU.out) abG ?_|refine dK (Kept.ext bU.out) ?_)
   (refine aC (λK hK=>?_);go_simp)
   refine(LP w0 es _ _ _ N _ (eH.out.trans bU.out) hN KE.out).mono ?_;rintro e w1 ⟨hx1,A1,c1,rfl,hk1⟩;have dX:=J (bU.out.trans hx1);have Nv:=J hk1;clear hx1 hk1;refine hK.out _ _ (λ_=>Kept.ext dX.out) ?_;clear hK K
   (repeat refine cu ?_)
   (repeat first|refine cu ?_|refine dL (Kept.ext dX.out) abG ?_|refine dK (Kept.ext dX.out) ?_)
   (refine aC (λK hK=>?_);go_simp)
   refine(IL.out _ _ _ N _ (eH.out.trans dX.out) hN KL.out).mono ?_;rintro e w2 ⟨hx2,A2,c2,rfl,hk2⟩;have HZ2:=J hx2;have fH:=J (dX.out.trans hx2);have sQ:=J hk2;clear hx2 hk2;refine hK.out _ _ (λ_=>Kept.ext fH.out) ?_;clear hK K
   (repeat refine cu ?_)
   (repeat first|refine cu ?_|refine dL (Kept.ext fH.out) abG ?_|refine dK (Kept.ext fH.out) ?_)
   (refine aC (λK hK=>?_);go_simp)
   refine(IX.out _ _ _ N _ (eH.out.trans fH.out) hN KX.out).mono ?_;rintro e w3 ⟨hx3,A3,c3,rfl,hk3⟩;have HZ3:=J hx3;have eX:=J (fH.out.trans hx3);have JO:=J hk3;clear hx3 hk3;refine hK.out _ _ (λ_=>Kept.ext eX.out) ?_;clear hK K;refine qX ?_;intro K hK;have y2:Ext W _:=eX.out.alloc (.cells (aB kind name A1 es.len c1 low high A2 q.len c2 A3 x.len c3) 151);have NG:Ext w3 _:=(kR _ w3).alloc (.cells (aB kind name A1 es.len c1 low high A2 q.len c2 A3 x.len c3) 151);have hB2:=Row.eZ (bN w3 151 (aB kind name A1 es.len c1 low high A2 q.len c2 A3 x.len c3));generalize hW2:(w3.alloc (.cells (aB kind name A1 es.len c1 low high A2 q.len c2 A3 x.len c3) 151))=W2 at y2 NG hB2⊢;clear hW2;refine hK.out _ _ (λ_=>Kept.ext y2) ?_;clear hK K
   (repeat refine cu ?_)
   obtain⟨v',w',hrun,ho',hk',hnew⟩:=Oe (f:=Sc.cells) Tx (λ_=>rfl) (λ_=>rfl) W2 w.heap.size u3 j l (bD HOW.out y2) w3.heap.size 0 1 1 [⟨kind,name,A1,es.len,c1,low,high,A2,q.len,c2,A3,x.len,c3⟩] rfl hB2 (by have:=HM.out;omega) (by have:=y2.size;have:=Hz.out;have:=HWR.out;omega);refine aC (λK hK=>?_);refine Vz ?_;refine hK.out _ _ (λ_=>Kept.trans (Kept.ext y2) hk') ?_;clear hK K;refine gI ?_;go_wp2_with fail;go_roundw
   case rel=>
    have e0:=bU.out.size;have e1:=dX.out.size;have e7:=HZ2.out.size;have e8:=HZ3.out.size;have e2:=NG.size;have e3:=hk'.size;have e4:=Hz.out;have e5:=lN.out;have e6:=HWR.out;have hxw:Ext w w':=(HXr.out.trans y2).trans' hk' (λi hi e=>by have:=(HOB.out i e).1;omega)
    have zN:∀i,W.heap.size<=i->i<w3.heap.size->w.heap.size<=i/\i<w'.heap.size/\¬v'.ownBlock=some i:=λi h1 h2=>by
     refine⟨by omega,by omega,λe=>?_⟩
     rcases hnew i e with q|q
     ·have:=(HOB.out i q).2;omega
     ·omega
    have hoff:∀i,W.heap.size<=i->¬u3.ownBlock=some i:=λi h1 e=>by have:=(HOB.out i e).2;omega
    refine⟨j+1,P.app (.cons kind name es low high q x .nil),r,l++[⟨kind,name,A1,es.len,c1,low,high,A2,q.len,c2,A3,x.len,c3⟩],by omega,by rw [AQ];exact dw.out,by rw [List.length_append,HLEN.out];rfl,by go_num,ho',?_,by rw [Nat.add_mul,<-Nat.add_assoc];exact HR2.out,HI2.out.2.2,hxw⟩;refine mO.snoc ⟨rfl,rfl,rfl,rfl,nV.out.1,nV.out.2.1,nV.out.2.2.1,nV.out.2.2.2,?_,?_,?_⟩ ?_
    ·exact((Nv.out.kept ((HZ2.out.trans HZ3.out).trans NG) (λi hi=>⟨hi.2,λf=>f⟩)).kept hk' (λi hi=>⟨by omega,hoff i aj⟩)).mono (λi hi=>zN i aj aj)
    ·exact((sQ.out.kept (HZ3.out.trans NG) (λi hi=>⟨hi.2,λf=>f⟩)).kept hk' (λi hi=>⟨by omega,hoff i aj⟩)).mono (λi hi=>zN i aj aj)
    ·exact((JO.out.kept NG (λi hi=>⟨hi.2,λf=>f⟩)).kept hk' (λi hi=>⟨by have:=fH.out.size;omega,hoff i (by have:=fH.out.size;omega)⟩)).mono (λi hi=>zN i (by have:=fH.out.size;omega) aj)
    ·refine((HEC.out.kept (HY.out.trans y2) (λi hi=>⟨hi.2.1,λf=>f⟩)).kept hk' (λi hi=>⟨by omega,hi.2.2⟩)).mono (λi hi=>?_)
     refine⟨hi.1,by omega,λe=>?_⟩
     rcases hnew i e with q|q
     ·exact hi.2.2 q
     ·omega
   case measure=>simp only [intOf];omega
open Go.RowKit So
def FH (w:World) (D:Nat->Prop) (A:Option Addr) (n:Nat) (l:List Vr):Prop:=n=l.length/\Fits n 40/\(∀v∈l,N8 v)/\∃b off,(0<n->A=some ⟨b,off,none⟩)/\(0<n->D b/\Row w b off (aR aJ l))
theorem FH.at_ {w:World} {D:Nat->Prop} {N:Nat} {A:Option Addr} {n:Nat} {l:List Vr} (h:FH w D A n l) (hD:∀i,D i->i<N):tL w N A n l:=by
 obtain⟨h1,h2,h3,b,off,h4,h5⟩:=h;exact⟨h1,h2,h3,b,off,h4,λh0=>⟨hD _ (h5 h0).1,(h5 h0).2⟩⟩
theorem FH.kept {S:Nat->Prop} {w w':World} {D:Nat->Prop} {A:Option Addr} {n:Nat} {l:List Vr} (h:FH w D A n l) (hk:Kept S w w') (hD:∀i,D i->¬S i):FH w' D A n l:=by
 obtain⟨h1,h2,h3,b,off,h4,h5⟩:=h;exact⟨h1,h2,h3,b,off,h4,λh0=>⟨(h5 h0).1,(h5 h0).2.kept hk (hD _ (h5 h0).1)⟩⟩
theorem FH.ext {w w':World} {D:Nat->Prop} {A:Option Addr} {n:Nat} {l:List Vr} (h:FH w D A n l) (hk:Ext w w'):FH w' D A n l:=by
 obtain⟨h1,h2,h3,b,off,h4,h5⟩:=h;exact⟨h1,h2,h3,b,off,h4,λh0=>⟨(h5 h0).1,(h5 h0).2.ext hk⟩⟩
theorem aaX {w w':World} {T:TypeId} {v:Value} {n:Nat} {l:List Vr} (ho:w'.ownsRow w.heap.size T 4 v n (aR aJ l)) (hn:n=l.length) (hf:Fits n 40) (hok:∀v∈l,N8 v):
 ∃A' c',Ending.returned v=.returned (.slice A' n c')/\FH w' (λi=>w.heap.size<=i/\i<w'.heap.size) A' n l:=by
 by_cases h0:0<n
 ·obtain⟨g,c,rfl,hr,hg,_⟩:=gu ho h0 aj
  exact⟨some ⟨g,0,none⟩,c,rfl,hn,hf,hok,g,0,λ_=>rfl,λ_=>⟨⟨hg,hr.lt⟩,hr⟩⟩
 ·obtain rfl:n=0:=by omega
  rcases ho.2 with⟨hv,_⟩|⟨g,c,cur,hv,_⟩
  ·exact⟨none,0,by rw [hv],hn,hf,hok,0,0,λq=>by omega,λq=>by omega⟩
  ·exact⟨some ⟨g,0,none⟩,c,by rw [hv],hn,hf,hok,0,0,λq=>by omega,λq=>by omega⟩
theorem tL.mono {w:World} {N N':Nat} {A:Option Addr} {n:Nat} {l:List Vr} (h:tL w N A n l) (hN:N<=N'):tL w N' A n l:=by
 obtain⟨h1,h2,h3,b,off,h4,h5⟩:=h;exact⟨h1,h2,h3,b,off,h4,λh0=>⟨Nat.lt_of_lt_of_le (h5 h0).1 hN,(h5 h0).2⟩⟩
theorem VR.mono {w:World} {N N':Nat} {A:Option Addr} {n:Nat} {l:List Int} (h:VR w N A n l) (hN:N<=N'):VR w N' A n l:=by
 obtain⟨h1,h2,h3,b,off,h4,h5⟩:=h;exact⟨h1,h2,h3,b,off,h4,λh0=>⟨Nat.lt_of_lt_of_le (h5 h0).1 hN,(h5 h0).2⟩⟩
theorem VR.ext {w w':World} {N:Nat} {A:Option Addr} {n:Nat} {l:List Int} (h:VR w N A n l) (hk:Ext w w'):VR w' N A n l:=h.kept hk (λ_ f=>f.elim)
theorem tL.ext {w w':World} {N:Nat} {A:Option Addr} {n:Nat} {l:List Vr} (h:tL w N A n l) (hk:Ext w w'):tL w' N A n l:=h.kept hk (λ_ f=>f.elim)
theorem mZ {w:World} {b off:Nat} {l:List Vr} (h:Row w b off (aR aJ l)) (j:Nat) (hj:j<l.length):Proofs.YtbfbabbcdochjaaGreatDoor.has w b (off+j*4) 4=true/\gets w b (off+j*4) 4=aJ l[j]:=vC (f:=aJ) (k:=4) (λ_=>rfl) h j hj
theorem Ed (l:List Vr) (A:Option Addr) (n c N:Nat) (w:World) (_hN:N<=w.heap.size) (h:tL w N A n l):Calls prog 47 #[.slice A n c] w λe w2=>Ext w w2/\∃A' c',e=.returned (.slice A' n c')/\FH w2 (λi=>w.heap.size<=i/\i<w2.heap.size) A' n l:=by
 obtain⟨hn,hf,hok,b,off,hA,hE⟩:=h;have hm:=hf.max aj;have hm2:=hf;unfold Fits at hm2;have HM:=J hm2;have HF:=J hf;have HN:=J hn;have HA:=J hA;have HE:=J hE;have nV:=J hok;clear hn hA hE hok hf hm2;go_enter func47,ntmps47;go_wp2_with fail
 go_loopw [3,8] (λt3 t8 wr=>∃(j:Nat),j<=n/\t8=.int .i64 j/\wr.ownsRow w.heap.size 109 4 t3 j (aR aJ (l.take j))/\Ext w wr) (λ_ t8 _=>n - (intOf t8).toNat)
 case atStart=>exact⟨0,Nat.zero_le _,rfl,World.ownsRow_nil _ _ _ _,kR _ _⟩
 case round=>
  obtain⟨j,hj,rfl,ho,hx⟩:=hrel;have HX:=J hx;have HO:=J ho;clear hx ho
  by_cases hlt:j<n
  ·have hjl:j<l.length:=by have:=HN.out;omega
   have jd:(j:Int)<n:=by omega
   obtain rfl:=HA.out aj;refine M9 ?_;intro hrow hh' hg' hbw;obtain⟨x,hxe⟩:∃x,x=l[j]:=⟨_,rfl⟩;rw [<-hxe]at hg';have htk:l.take (j+1)=l.take j++[x]:=by rw [hxe];simp
   have Dp:=J htk;clear hrow hxe htk;have y0:Ext wr _:=((kR (λ_=>False) wr).alloc (.cells (aJ x) 66)).alloc (.cells (aJ x) 109);obtain⟨v',w',hrun,ho',hk',_⟩:=Oe (f:=aJ) KP (λ_=>rfl) (λ_=>rfl) ((wr.alloc (.cells (aJ x) 66)).alloc (.cells (aJ x) 109)) w.heap.size u3 j (l.take j) (bD HO.out y0) (wr.heap.size+1) 0 1 1 [x] rfl (Row.eZ (aH.new' _ _ _ _ aG)) (by have:=HM.out;omega) (by have:=y0.size;have:=HX.out.size;omega);rw [<-Dp.out]at ho';have HO':=J ho';have Bw:=J (show Ext w w' from(HX.out.trans y0).trans' hk' (λi hi e=>by have:=(HO.out.lt i e).1;omega));clear ho' hk' y0;go_upto_region 5 with(fail);go_step
   iterate 3 refine qY ?_
   refine fM rfl (.tmp 12) (.tmp 14) 54 rfl rfl rfl rfl hrun ?_;clear hrun;go_wp2_with fail;go_roundw
   case rel=>exact⟨j+1,hlt,by go_num,HO'.out,Bw.out⟩
   case measure=>simp only [intOf];omega
  ·obtain rfl:j=n:=by omega
   go_wp2_with fail;go_ret;refine⟨HX.out,?_⟩;have ho:=HO.out;rw [HN.out,List.take_length,<-HN.out]at ho;exact aaX ho HN.out HF.out nV.out
open Go.RowKit So
theorem Yc (c:Pc) (p:Pr) (N:Nat) (w:World) (hN:N<=w.heap.size) (h:lT w N c p):Calls prog 22 #[.agg c.cells] w λe w'=>Ext w w'/\∃c':Pc,e=.returned (.agg c'.cells)/\lT w' w'.heap.size c' p:=by
 refine QY ?_;intro hx0 hB;have hP:=J (h.ext hx0 hN);have vP:=Nat.le_trans hN hx0.size;clear h;go_enter func22,ntmps22;go_upto_region 1 with(fail);have hR:=bN (w.alloc (.cells c.cells 26)) 57 #[.string ⟨#[]⟩,.int .i64 0,.slice none 0 0,.slice none 0 0,.slice none 0 0,.slice none 0 0,.slice none 0 0,.slice none 0 0,.string ⟨#[]⟩,.slice none 0 0,.slice none 0 0];have hR':aH ((w.alloc (.cells c.cells 26)).alloc (.cells #[.string ⟨#[]⟩,.int .i64 0,.slice none 0 0,.slice none 0 0,.slice none 0 0,.slice none 0 0,.slice none 0 0,.slice none 0 0,.string ⟨#[]⟩,.slice none 0 0,.slice none 0 0] 57)) (w.heap.size+1) 57 #[.string ⟨#[]⟩,.int .i64 0,.slice none 0 0,.slice none 0 0,.slice none 0 0,.slice none 0 0,.slice none 0 0,.slice none 0 0,.string ⟨#[]⟩,.slice none 0 0,.slice none 0 0]:=by simpa using hR
 have hx1:=hx0.alloc (.cells #[.string ⟨#[]⟩,.int .i64 0,.slice none 0 0,.slice none 0 0,.slice none 0 0,.slice none 0 0,.slice none 0 0,.slice none 0 0,.string ⟨#[]⟩,.slice none 0 0,.slice none 0 0] 57);have hxq:=(kR (λ_=>False) (w.alloc (.cells c.cells 26))).alloc (.cells #[.string ⟨#[]⟩,.int .i64 0,.slice none 0 0,.slice none 0 0,.slice none 0 0,.slice none 0 0,.slice none 0 0,.slice none 0 0,.string ⟨#[]⟩,.slice none 0 0,.slice none 0 0] 57);have hP1:=J (hP.out.ext hxq vP);have hB1:=bX hB hxq;have hNb:=Nat.le_trans vP hxq.size;generalize hW:((w.alloc (.cells c.cells 26)).alloc (.cells #[.string ⟨#[]⟩,.int .i64 0,.slice none 0 0,.slice none 0 0,.slice none 0 0,.slice none 0 0,.slice none 0 0,.slice none 0 0,.string ⟨#[]⟩,.slice none 0 0,.slice none 0 0] 57))=W at hx1 hB1 hP1 hNb hR'⊢;clear hW hx0 hB hP vP hR hxq;have vT:=J (show¬w.heap.size=w.heap.size+1 by omega);generalize hrb:w.heap.size+1=rb at hR' vT⊢;generalize hpb:w.heap.size=pb at hB1 vT hrb⊢;have eH:=J hx1;have HRW:=J (show w.heap.size<=rb by omega);clear hx1 hpb hrb;have hC:=J hB1;have hD:=J hR';clear hB1 hR';refine gM (λw1=>Kept (·=rb) W w1) [(0,2),(1,1),(2,2),(3,1),(4,2),(5,1),(6,2),(7,1),(9,2),(10,1),(12,2),(13,1),(15,2),(16,1),(18,2),(19,1),(21,2),(22,1),(23,2),(24,1),(26,2),(27,1),(8,0),(11,0),(14,0),(17,0),(20,0),(25,0),(28,0),(29,2),(30,0)] ?_;refine gN ?_;refine ET ?_;intro bU
 (repeat first|refine cu ?_|refine dL (Kept.ext bU.out) QN ?_|refine dK (Kept.ext bU.out) ?_)
 (refine aC (λK hK=>?_);go_simp)
 refine(Ed p.vars _ _ _ N _ (Nat.le_trans hNb bU.out.size) (hP1.out.vars.ext bU.out)).mono ?_;rintro e w1 ⟨hx1,A1,c1,rfl,hk1⟩;have HZ1:=J hx1;have dX:=J (bU.out.trans hx1);have Nv:=J hk1;clear hx1 hk1;refine hK.out _ _ (λ_=>Kept.ext dX.out) ?_;clear hK K
 (repeat refine cu ?_)
 (repeat first|refine cu ?_|refine dL (Kept.ext dX.out) QN ?_|refine dK (Kept.ext dX.out) ?_)
 (refine aC (λK hK=>?_);go_simp)
 refine(mV _ p.start _ _ _ N _ (kR _ _) (Nat.le_trans hNb dX.out.size) (hP1.out.start.ext dX.out hNb)).mono ?_;rintro e w2 ⟨hx1,A2,c2,rfl,hk1⟩;have HZ2:=J hx1;have fH:=J (dX.out.trans hx1);have sQ:=J hk1;clear hx1 hk1;refine hK.out _ _ (λ_=>Kept.ext fH.out) ?_;clear hK K
 (repeat refine cu ?_)
 (repeat first|refine cu ?_|refine dL (Kept.ext fH.out) QN ?_|refine dK (Kept.ext fH.out) ?_)
 (refine aC (λK hK=>?_);go_simp)
 refine(mV _ p.turn _ _ _ N _ (kR _ _) (Nat.le_trans hNb fH.out.size) (hP1.out.turn.ext fH.out hNb)).mono ?_;rintro e w3 ⟨hx1,A3,c3,rfl,hk1⟩;have HZ3:=J hx1;have eX:=J (fH.out.trans hx1);have JO:=J hk1;clear hx1 hk1;refine hK.out _ _ (λ_=>Kept.ext eX.out) ?_;clear hK K
 (repeat refine cu ?_)
 (repeat first|refine cu ?_|refine dL (Kept.ext eX.out) QN ?_|refine dK (Kept.ext eX.out) ?_)
 (refine aC (λK hK=>?_);go_simp)
 refine(Ed p.params _ _ _ N _ (Nat.le_trans hNb eX.out.size) (hP1.out.params.ext eX.out)).mono ?_;rintro e w4 ⟨hx1,A4,c4,rfl,hk1⟩;have JV:=J hx1;have o_:=J (eX.out.trans hx1);have xG:=J hk1;clear hx1 hk1;refine hK.out _ _ (λ_=>Kept.ext o_.out) ?_;clear hK K
 (repeat refine cu ?_)
 (repeat first|refine cu ?_|refine dL (Kept.ext o_.out) QN ?_|refine dK (Kept.ext o_.out) ?_)
 (refine aC (λK hK=>?_);go_simp)
 refine(mV _ p.play _ _ _ N _ (kR _ _) (Nat.le_trans hNb o_.out.size) (hP1.out.play.ext o_.out hNb)).mono ?_;rintro e w5 ⟨hx1,A5,c5,rfl,hk1⟩;have HZ5:=J hx1;have kX:=J (o_.out.trans hx1);have pG:=J hk1;clear hx1 hk1;refine hK.out _ _ (λ_=>Kept.ext kX.out) ?_;clear hK K
 (repeat refine cu ?_)
 (repeat first|refine cu ?_|refine dL (Kept.ext kX.out) QN ?_|refine dK (Kept.ext kX.out) ?_)
 (refine aC (λK hK=>?_);go_simp)
 refine(mV _ p.quiet _ _ _ N _ (kR _ _) (Nat.le_trans hNb kX.out.size) (hP1.out.quiet.ext kX.out hNb)).mono ?_;rintro e w6 ⟨hx1,A6,c6,rfl,hk1⟩;have HZ6:=J hx1;have jc:=J (kX.out.trans hx1);have JQ:=J hk1;clear hx1 hk1;refine hK.out _ _ (λ_=>Kept.ext jc.out) ?_;clear hK K
 (repeat refine cu ?_)
 (repeat first|refine cu ?_|refine dL (Kept.ext jc.out) QN ?_|refine dK (Kept.ext jc.out) ?_)
 (refine aC (λK hK=>?_);go_simp)
 refine(mV _ p.pays _ _ _ N _ (kR _ _) (Nat.le_trans hNb jc.out.size) (hP1.out.pays.ext jc.out hNb)).mono ?_;rintro e w7 ⟨hx1,A7,c7,rfl,hk1⟩;have HZ7:=J hx1;have lX:=J (jc.out.trans hx1);have NQ:=J hk1;clear hx1 hk1;refine hK.out _ _ (λ_=>Kept.ext lX.out) ?_;clear hK K
 (repeat refine cu ?_)
 have fq:=bX hD.out lX.out;have hm:=aH.bF fq;have hh:=bH fq
 (refine aC (λK hK=>?_);go_simp)
 refine hK.out _ _ (λ_=>Kept.putAt (Kept.ext lX.out) _ _ _ (λ_=>rfl)) ?_;clear hK K;refine gI ?_;go_wp2_with fail;refine fD results22 rfl rfl xO (by exact vF) (aH.gL fq _ _) ?_;refine⟨(eH.out.trans lX.out).putAt _ _ _ (λhlt=>absurd hlt MN),⟨c.name,c.seats,c.bY,⟨A1,c.vars.n,c1⟩,⟨A2,c.start.n,c2⟩,⟨A3,c.turn.n,c3⟩,⟨A4,c.params.n,c4⟩,⟨A5,c.play.n,c5⟩,c.silent,⟨A6,c.quiet.n,c6⟩,⟨A7,c.pays.n,c7⟩⟩,rfl,?_⟩;have hkp:Kept (·=rb) w7 (putAt w7 rb 0 #[.string c.name,.int .i64 c.seats,c.bY.v,.slice A1 c.vars.n c1,.slice A2 c.start.n c2,.slice A3 c.turn.n c3,.slice A4 c.params.n c4,.slice A5 c.play.n c5,.string c.silent,.slice A6 c.quiet.n c6,.slice A7 c.pays.n c7]):=Kept.putAt (kR _ _) _ _ _ (λ_=>rfl);have hws:=hkp.size;have E6:=HZ7.out;have E5:=HZ6.out.trans E6;have E4:=HZ5.out.trans E5;have E3:=JV.out.trans E4;have E2:=HZ3.out.trans E3;have E1:=HZ2.out.trans E2;have k0:=bU.out.size;have k1:=dX.out.size;have k2:=fH.out.size;have k3:=eX.out.size;have k4:=o_.out.size;have k5:=kX.out.size;have k6:=jc.out.size;have k7:=lX.out.size;have s1:=E1.size;have s2:=E2.size;have s3:=E3.size;have s4:=E4.size;have s5:=E5.size;have s6:=E6.size;have hrb:=hD.out.lt;have hNr:N<=rb:=Nat.le_trans hN HRW.out;refine⟨hP1.out.name,hP1.out.D7,hP1.out.seats,hP1.out.CP,((hP1.out.bY.ext lX.out).kept hkp (λi e=>by omega)).mono aj,?_,?_,?_,?_,?_,hP1.out.silent,hP1.out.uH,?_,?_⟩
 ·exact((Nv.out.ext E1).kept hkp (λi hi e=>by omega)).at_ (λi hi=>by omega)
 ·exact((sQ.out.kept E2 (λi hi=>⟨hi.2,λf=>f⟩)).kept hkp (λi hi=>⟨by omega,by omega⟩)).at_ (λi hi=>by omega)
 ·exact((JO.out.kept E3 (λi hi=>⟨hi.2,λf=>f⟩)).kept hkp (λi hi=>⟨by omega,by omega⟩)).at_ (λi hi=>by omega)
 ·exact((xG.out.ext E4).kept hkp (λi hi e=>by omega)).at_ (λi hi=>by omega)
 ·exact((pG.out.kept E5 (λi hi=>⟨hi.2,λf=>f⟩)).kept hkp (λi hi=>⟨by omega,by omega⟩)).at_ (λi hi=>by omega)
 ·exact((JQ.out.kept E6 (λi hi=>⟨hi.2,λf=>f⟩)).kept hkp (λi hi=>⟨by omega,by omega⟩)).at_ (λi hi=>by omega)
 ·exact(NQ.out.kept hkp (λi hi=>⟨hi.2,by omega⟩)).at_ (λi hi=>by omega)
open Go.RowKit So
attribute [go_sem] jg.v
theorem yw (l:List Vr) (s:Str) (A:Option Addr) (n c N:Nat) (w:World) (h:tL w N A n l):Calls prog 91 #[.slice A n c,.string s] w λe w'=>e=.returned (.bool (l.any (λv=>decide (v.name=s))))/\w=w':=by
 obtain⟨hn,hf,hok,b,off,hA,hE⟩:=h;refine Ab ?_;intro hm HN HA HE;clear hn hA hE hok hf;go_enter func91,ntmps91;go_wp2_with fail
 go_loopw [5] (λt5 wr=>∃(j:Nat),j<=n/\t5=.int .i64 j/\(∀v∈l.take j,¬v.name=s)/\w=wr) (λt5 _=>n - (intOf t5).toNat)
 case atStart=>exact⟨0,Nat.zero_le _,rfl,by simp,rfl⟩
 case round=>
  obtain⟨j,hj,rfl,hno,hw⟩:=hrel;subst hw;have C_:=J hno;clear hno
  by_cases hlt:j<n
  ·have hjl:j<l.length:=by have:=HN.out;omega
   have jd:(j:Int)<n:=by omega
   obtain rfl:=HA.out aj;have hrow:=(HE.out aj).2;obtain⟨hh',hg'⟩:=mZ hrow j hjl;have hc:=nY hh' hg' aj;obtain⟨x,hxe⟩:∃x,x=l[j]:=⟨_,rfl⟩;rw [<-hxe]at hc;have HX:=J hxe;clear hrow hxe hh' hg'
   by_cases hq:x.name=s
   ·have hb:=oG hq
    have HQ:=J hq;clear hq;go_wp2_with fail;go_ret;refine⟨aW ?_,rfl⟩;rw [eq_comm,List.any_eq_true];exact⟨x,by rw [HX.out];exact List.getElem_mem hjl,decide_eq_true HQ.out⟩
   ·have hb:=mG hq
    exact afC
  ·obtain rfl:j=n:=by omega
   go_wp2_with fail;go_ret;refine⟨aW ?_,rfl⟩;rw [eq_comm,List.any_eq_false];intro v hv;have:=C_.out v afg
   simpa using this
theorem Ga:∀a b:List Vr,cells (a++b)=cells a+cells b
 |[],b=>by simp [cells]
 |v::a,b=>by simp [cells,Ga a b];omega
theorem Te (v:Vr):1<=So.dD v/\So.dD v<=64:=by unfold So.dD;split<;>omega
theorem KH:∀l:List Vr,0<=cells l/\cells l<=64*l.length
 |[]=>by simp [cells]
 |v::l=>by
  have:=KH l;have:=Te v;simp only [cells,List.length_cons]
  omega
theorem nZ {l:List Vr} {j:Nat} (h:j<l.length):cells (l.take (j+1))=cells (l.take j)+So.dD l[j]:=by
 rw [List.take_add_one,List.getElem?_eq_getElem h,Ga];simp [cells]
theorem qV {l:List Vr} (h:l.length<=17592186044416):jW (cells l)=cells l:=by
 have:=KH l;simp only [fF]
 omega
def aS (l:List Vr) (s:Str):Int:=if l.any (λv=>decide (v.name=s))=true then cells (l.takeWhile (λv=>!decide (v.name=s)))else 0
def aD (l:List Vr) (s:Str):Vr:=(l.find? (λv=>decide (v.name=s))).getD ⟨E0,0,0,0⟩
theorem QF {α:Type} (p:α->Bool) (b:List α):∀(a:List α) (x:α) (_:∀v∈a,p v=false) (_:p x=true),(a++x::b).takeWhile (λv=>!p v)=a/\(a++x::b).find? p=some x
 |[],x,_,hx=>by simp [hx]
 |y::a,x,h,hx=>by
  have hy:=h y aG;obtain⟨h1,h2⟩:=QF p b a x (λv hv=>h v (by simp [hv])) hx;exact⟨by simp [hy,h1],by simp [hy,h2]⟩
theorem Rk:∀{l:List Vr} {j:Nat} {s:Str} (_:∀v∈l.take j,¬v.name=s) (hj:j<l.length) (_:l[j].name=s),aS l s=cells (l.take j)/\aD l s=l[j]/\l.any (λv=>decide (v.name=s))=true:=by
 intro l j s h hj hq;have hsp:l=l.take j++l[j]::l.drop (j+1):=by rw [<-List.drop_eq_getElem_cons hj,List.take_append_drop]
 have hany:l.any (λv=>decide (v.name=s))=true:=by
  rw [List.any_eq_true];exact⟨l[j],List.getElem_mem hj,decide_eq_true hq⟩
 have VZ:l.takeWhile (λv=>!decide (v.name=s))=l.take j:=by
  have:=QF (λv:Vr=>decide (v.name=s)) (l.drop (j+1)) (l.take j) l[j] (λv hv=>by simpa using h v hv) (by simpa using hq);rw [<-hsp]at this;exact this.1
 have hfd:l.find? (λv=>decide (v.name=s))=some l[j]:=by
  have:=QF (λv:Vr=>decide (v.name=s)) (l.drop (j+1)) (l.take j) l[j] (λv hv=>by simpa using h v hv) (by simpa using hq);rw [<-hsp]at this;exact this.2
 exact⟨by unfold aS;rw [if_pos hany,VZ],by unfold aD;rw [hfd];rfl,hany⟩
theorem Rl {l:List Vr} {s:Str} (h:∀v∈l,¬v.name=s):aS l s=0/\aD l s=⟨E0,0,0,0⟩/\l.any (λv=>decide (v.name=s))=false:=by
 have hany:l.any (λv=>decide (v.name=s))=false:=by
  rw [List.any_eq_false];intro v hv;simpa using h v hv
 refine⟨by unfold aS;rw [hany];rfl,?_,hany⟩;unfold aD;rw [List.find?_eq_none.2 (λv hv=>by simpa using h v hv)]
 rfl
theorem XQ (l:List Vr) (s:Str):fB l s=if l.any (λv=>decide (v.name=s))=true then(if 0<(aD l s).size then 2 else 1)else 0:=by
 unfold fB aD
 cases hf:l.find? (λv=>decide (v.name=s))with
 |none=>
  have:l.any (λv=>decide (v.name=s))=false:=by
   rw [List.any_eq_false];intro v hv;exact List.find?_eq_none.1 hf v hv
  rw [this];rfl
 |some v=>
  have:l.any (λv=>decide (v.name=s))=true:=by
   rw [List.any_eq_true];exact⟨v,List.mem_of_find?_eq_some hf,List.find?_some (p:=λv:Vr=>decide (v.name=s)) hf⟩
  rw [if_pos this];rfl
theorem RX {l:List Vr} {j:Nat} {s:Str} (h:∀v∈l.take j,¬v.name=s) (hj:j<l.length) (hq:¬l[j].name=s):∀v∈l.take (j+1),¬v.name=s:=by
 intro v hv;rw [List.take_add_one,List.getElem?_eq_getElem hj]at hv;simp only [Option.toList_some,List.mem_append,List.mem_singleton]at hv
 rcases hv with hv|rfl
 ·exact h v hv
 ·exact hq
theorem Et (c:Pc) (p:Pr) (N:Nat) (w:World) (_hN:N<=w.heap.size) (h:lT w N c p):Calls prog 44 #[.agg c.cells] w λe w'=>e=.returned (.int .i64 (cells p.vars))/\Ext w w':=by
 obtain⟨cn,cse,cst,⟨A,n,cc⟩,cs,ct,uf,jG,ny,cq,pK⟩:=c;have hx0:=(kR (λ_=>False) w).alloc (.cells (Pc.cells ⟨cn,cse,cst,⟨A,n,cc⟩,cs,ct,uf,jG,ny,cq,pK⟩) 57);obtain⟨hn,hf,hok,b,off,hA,hE⟩:=h.vars.ext hx0;refine Ab ?_;intro hm HN HA HE;have HX0:=J hx0;clear hn hA hE hok hf h;go_enter func44,ntmps44;go_wp2_with fail
 go_loopw [3,9] (λt3 t9 wr=>∃(j:Nat),j<=n/\t9=.int .i64 j/\t3=.int .i64 (jW (cells (p.vars.take j)))/\Ext (w.alloc (.cells (Pc.cells ⟨cn,cse,cst,⟨A,n,cc⟩,cs,ct,uf,jG,ny,cq,pK⟩) 57)) wr) (λ_ t9 _=>n - (intOf t9).toNat)
 case atStart=>exact⟨0,Nat.zero_le _,rfl,by simp [cells,fF],kR _ _⟩
 case round=>
  obtain⟨j,hj,rfl,rfl,hx⟩:=hrel;have HX:=J hx;clear hx
  by_cases hlt:j<n
  ·have hjl:j<p.vars.length:=by have:=HN.out;omega
   have jd:(j:Int)<n:=by omega
   obtain rfl:=HA.out aj;refine M9 ?_;intro hrow hh' hg' hbw;obtain⟨x,hxe⟩:∃x,x=p.vars[j]:=⟨_,rfl⟩;rw [<-hxe]at hg';have jo:=J hxe;clear hrow hxe;have y0:Ext wr _:=(kR (λ_=>False) wr).alloc (.cells (aJ x) 109);go_wp2_with fail;refine(Mj x _).mono ?_;rintro e w1 ⟨rfl,hx1⟩;go_wp2_with fail;go_roundw
   case rel=>exact⟨j+1,hlt,by go_num,by rw [nZ hjl,<-jo.out];simp only [jm],HX.out.trans (y0.trans hx1)⟩
   case measure=>simp only [intOf];omega
  ·obtain rfl:j=n:=by omega
   go_wp2_with fail;go_ret;refine⟨b_ ?_,HX0.out.trans HX.out⟩;rw [HN.out,List.take_length,qV (by have:=HN.out;omega)]
theorem oD (c:Pc) (p:Pr) (N:Nat) (w:World) (_hN:N<=w.heap.size) (h:lT w N c p):Calls prog 34 #[.agg c.cells] w λe w'=>e=.returned (.int .i64 (cells p.vars))/\Ext w w':=by
 obtain⟨cn,cse,cst,⟨A,n,cc⟩,cs,ct,uf,jG,ny,cq,pK⟩:=c;have hx0:=(kR (λ_=>False) w).alloc (.cells (Pc.cells ⟨cn,cse,cst,⟨A,n,cc⟩,cs,ct,uf,jG,ny,cq,pK⟩) 26);have hB:=bN w 26 (Pc.cells ⟨cn,cse,cst,⟨A,n,cc⟩,cs,ct,uf,jG,ny,cq,pK⟩);obtain⟨hn,hf,hok,b,off,hA,hE⟩:=h.vars.ext hx0;refine Ab ?_;intro hm HN HA HE;clear hn hA hE hok hf h;go_enter func34,ntmps34;go_upto_region 1 with(fail);generalize hW:(w.alloc (.cells (Pc.cells ⟨cn,cse,cst,⟨A,n,cc⟩,cs,ct,uf,jG,ny,cq,pK⟩) 26))=W at hx0 hB HE⊢;clear hW;generalize w.heap.size=pb at hB⊢;have hC:=J hB;have HX0:=J hx0;clear hB hx0;go_wp2_with fail
 go_loopw [3,4] (λt3 t4 wr=>∃(j:Nat),j<=n/\t4=.int .i64 j/\t3=.int .i64 (jW (cells (p.vars.take j)))/\Ext W wr) (λ_ t4 _=>n - (intOf t4).toNat)
 case atStart=>exact⟨0,Nat.zero_le _,rfl,by simp [cells,fF],kR _ _⟩
 case round=>
  obtain⟨j,hj,rfl,rfl,hx⟩:=hrel;have HX:=J hx;have hcr:=bC (bX hC.out hx);have hlr:=(bX hC.out hx).lt;clear hx
  by_cases hlt:j<n
  ·have hjl:j<p.vars.length:=by have:=HN.out;omega
   have jd:(j:Int)<n:=by omega
   obtain rfl:=HA.out aj;refine M9 ?_;intro hrow hh' hg' hbw;obtain⟨x,hxe⟩:∃x,x=p.vars[j]:=⟨_,rfl⟩;rw [<-hxe]at hg';have jo:=J hxe;clear hrow hxe;go_wp2_with fail;refine(zH x _).mono ?_;rintro e w1 ⟨rfl,hx1⟩;go_wp2_with fail;go_roundw
   case rel=>exact⟨j+1,hlt,by go_num,by rw [nZ hjl,<-jo.out];simp only [jm],HX.out.trans hx1⟩
   case measure=>simp only [intOf];omega
  ·obtain rfl:j=n:=by omega
   go_wp2_with fail;go_ret;refine⟨b_ ?_,HX0.out.trans HX.out⟩;rw [HN.out,List.take_length,qV (by have:=HN.out;omega)]
end Go.Proofs.YtbfbabbcdochjaaGreatDoor
