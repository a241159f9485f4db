import Derived.Laws.BytesString
import Derived.ChangeSame
import Derived.Test.YtnhelcmddjbafaaGreatDoorTpar
set_option maxHeartbeats 4000000
set_option maxRecDepth 100000
open Go.Proofs.Tryz
namespace Go.Proofs.YtnhelcmddjbafaaGreatDoor
open Go.RowKit Sq
namespace Mc
theorem WQ {w:World} {base:Nat} {v:Value} {xs:List Int} (h:w.ownsRow base 5 1 v xs.length (cu xs)) (hn:0<xs.length):∃g c,v=.slice (some ⟨g,0,none⟩) xs.length c/\base<=g/\Row w g 0 (cu xs):=by
 obtain⟨g,c,h1,h2,h3,_⟩:=nD h hn;exact⟨g,c,h1,h2,h3⟩
theorem Row.take {w:World} {b off:Nat} {vs:List Value} (h:Row w b off vs) (k:Nat):Row w b off (vs.take k):=by
 obtain⟨h1,h2⟩:=h.sub 0 (min k vs.length) ad;have e:(vs.take k).length=min k vs.length:=mz;refine⟨by rw [e];exact h1,?_,h.lt⟩;rw [e];show gets w b (off+0) _=_;rw [h2,re]
 congr 1
 rw [List.take_eq_take_iff]
 omega
theorem agN (w:World) (A:Option Addr) (b off n c:Nat) (l:List Int) (hn:n=l.length) (hA:0<n->A=some ⟨b,off,none⟩) (hr:0<n->Row w b off (cu l)):
 (convert 89 9 (.slice A n c)).run prog w=.ok (.string (strOfNums l)) w:=by
 by_cases h0:0<n
 .obtain rfl:=hA h0
  exact run_convert_bytes_arg (P:=prog) w 89 5 underlying89 underlying5 b off n c l hn.symm (λi hi=>by
   have yh:i<l.length:=by omega
   have:=(hr h0).cell i (by rw [dR];exact yh);rw [this];simp [cu,yh]) _ underlying9
 .obtain rfl:n=0:=by omega
  obtain rfl:l=[]:=List.eq_nil_of_length_eq_zero hn.symm;rw [run_convert_bytes_string (P:=prog) w _ _ _ A 0 c underlying89 underlying5 underlying9]
  rcases A with _|a
  .simp [Conv.bytesToString,strOfNums]
   rfl
  .have hl:(loadCells a 0).run prog w=.ok (([]:List Int).map (Value.int .u8)).toArray w:=by simp [loadCells,loadCellsFrom]
   rw [run_bytesToString (P:=prog) w a 0 c [] hl]
   rfl
structure qZ (w:World) (A:Option Addr) (n:Nat) (l:List Int):Prop where
 len:n=l.length
 row:∃b off,(0<n->A=some ⟨b,off,none⟩)/\(0<n->Row w b off (cu l))
theorem qZ.ext {w w':World} {A:Option Addr} {n:Nat} {l:List Int} (h:qZ w A n l) (hx:al w w'):qZ w' A n l:=by
 obtain⟨h1,b,off,h2,h3⟩:=h;exact⟨h1,b,off,h2,λh0=>(h3 h0).ext hx⟩
section
variable {w:World} {A:Option Addr} {n:Nat} {l:List Int} (h:qZ w A n l)
include w A n l h
theorem qZ.conv (c:Nat):(convert 89 9 (.slice A n c)).run prog w=.ok (.string (strOfNums l)) w:=by
 obtain⟨h1,b,off,h2,h3⟩:=h;exact agN w A b off n c l h1 h2 h3
theorem qZ.bsl (hb:bI l) (hn:n<=100000) {c:Nat} (hc:n<=c):Ic w w.heap.size A n c l:=by
 obtain⟨h1,b,off,h2,h3⟩:=h;exact⟨h1,hc,hn,hb,b,off,h2,λh0=>⟨(h3 h0).lt,h3 h0⟩⟩
end
theorem qZ.eT {w:World} {base:Nat} {v:Value} {l:List Int} (h:w.ownsRow base 5 1 v l.length (cu l)):∃A c,v=.slice A l.length c/\l.length<=c/\qZ w A l.length l:=by
 by_cases h0:0<l.length
 .obtain⟨g,c,rfl,hg,hr⟩:=WQ h h0
  exact⟨_,c,rfl,(aaC h h0).2.2,rfl,g,0,λ_=>rfl,λ_=>hr⟩
 .have e:l.length=0:=by omega
  rcases h.2 with⟨hv,_⟩|⟨g,c,cV,hv,_,_,rB,_⟩
  .exact⟨none,0,by rw [hv,e],by omega,rfl,0,0,λq=>absurd q h0,λq=>absurd q h0⟩
  .exact⟨_,c,hv,rB,rfl,g,0,λ_=>rfl,λq=>absurd q h0⟩
theorem qZ.take {w:World} {A:Option Addr} {n:Nat} {l:List Int} (h:qZ w A n l) (k:Nat) (hk:k<=n):qZ w A k (l.take k):=by
 obtain⟨h1,b,off,h2,h3⟩:=h;refine⟨by rw [mz];omega,b,off,λh0=>h2 ad,λh0=>?_⟩;rw [show cu (l.take k)=(cu l).take k by simp [cu,List.map_take]];exact Row.take (h3 ad) k
theorem mT.take {w:World} {N:Nat} {A:Option Addr} {n c:Nat} {l:List Int} (h:mT w N ⟨A,n,c⟩ l) (k:Nat) (hk:k<=n):mT w N ⟨A,k,c⟩ (l.take k):=by
 obtain⟨h1,h2,b,off,h3,h4⟩:=h;simp only at h1 h3 h4;refine⟨by show k=_;rw [mz];omega,λx hx=>h2 x (List.mem_of_mem_take hx),b,off,λh0=>h3 (by simp only at h0;omega),λh0=>⟨(h4 (by simp only at h0;omega)).1,?_⟩⟩;rw [show bj (l.take k)=(bj l).take k by simp [bj,List.map_take]];exact Row.take (h4 (by simp only at h0;omega)).2 k
def XB (b:List Int):Int×Int×List Int:=if nX b=0 then(Xy b,T' b,Av b (nd b) (uN b))else(0,0,[])
def agG (w w':World) (b:List Int) (e:Ending):Prop:=∃A n c,e=.returned (.tuple #[.agg (ae (XB b).1 A n c (XB b).2.1),.int .i64 (nX b)])/\mT w' w'.heap.size ⟨A,n,c⟩ (XB b).2.2/\al w w'
theorem anD (b:List Int) (h:nX b=0):∀x∈Av b (nd b) (uN b),av x:=by
 unfold nX at h
 split at h
 .split at h
  .rename_i hF
   exact Xz hF
  .contradiction
 .contradiction
theorem Og {w w':World} {b:List Int} {e:Ending} (h:∃(pc:Int) (A':Option Addr) (n' c':Nat) (dJ:Int),e=.returned (.tuple #[.agg (ae pc A' n' c' dJ),.int .i64 (nX b)])/\al w w'/\
 (nX b=0->pc=Xy b/\dJ=T' b/\w'.ownsRow w.heap.size 21 1 (.slice A' n' c') (uN b) (bj (Av b (nd b) (uN b))))/\(¬nX b=0->pc=0/\A'=none/\n'=0/\c'=0/\dJ=0)):agG w w' b e:=by
 obtain⟨pc,A,n,c,dJ,rfl,hx,h0,h1⟩:=h;refine⟨A,n,c,?_⟩;unfold XB
 by_cases he:nX b=0
 .rw [ak he]
  obtain⟨rfl,rfl,ho⟩:=h0 he;refine⟨rfl,?_,hx⟩
  have hn:n=uN b:=by
   rcases ho.2 with⟨hv,h0⟩|⟨g,c,cV,hv,_⟩
   .injection hv with _ q;omega
   .injection hv
  subst hn;exact mT.eT (s:=⟨A,uN b,c⟩) ho (anD b he)
 .rw [af he]
  obtain⟨rfl,rfl,rfl,rfl,rfl⟩:=h1 he;exact⟨rfl,GA _ _,hx⟩
theorem aaG {p dJ:Nat} {l x:List Int} (hx:x=iW p dJ l) (hp:p<=2048) (hh:dJ<=2) (h1:1<=l.length) (hn:l.length<=256) (hok:∀y∈l,av y):nX x=0/\XB x=((p:Int),(dJ:Int),l)/\bI x/\x.length<=100000:=by
 subst hx;obtain⟨a1,a2,a3,a4,a5⟩:=R5 hp hh h1 hn hok;refine⟨a1,by unfold XB;rw [ak a1,a2,a3,a5],J8 p dJ l,?_⟩;have q1:=xC hp hh hn;have q2:=vD hok l.length (cr _);rw [jr]at q2;unfold iW;rw [dn]
 omega
theorem aaU (b:List Int):(XB b).2.2.length<=256:=by
 unfold XB
 split
 .show(Av _ _ _).length<=256
  rw [Hz];exact P7 b
 .exact cI _
theorem afk {b:List Int} (hb:bI b) (h:nX b=0):∃(p dJ:Nat) (L:List Int),XB b=((p:Int),(dJ:Int),L)/\iW p dJ L=b/\cQ p dJ L.length=true:=by
 obtain⟨a1,a2,a3,a4,a5,a6,a7,a8⟩:=R4 hb h;refine⟨(Xy b).toNat,(T' b).toNat,_,?_,a1,?_⟩
 .unfold XB
  rw [ak h,Int.toNat_of_nonneg a2,Int.toNat_of_nonneg a4]
 .rw [Int.toNat_of_nonneg a2,Int.toNat_of_nonneg a4,Hz]
  simp [cQ]
  omega
theorem Nc (pc halt:Int) (A:Option Addr) (n cap:Nat) (l:List Int) (bA:Option Addr) (bn bc:Nat) (bl:List Int) (w:World) (hm:mT w w.heap.size ⟨A,n,cap⟩ l) (hc:n<=cap) (hb:qZ w bA bn bl) (hbo:bI bl) (Rl:bn<=bc) (hL:eQ w) (hO:OpsAt w):
 Calls prog 8 #[.agg (ae pc A n cap halt),.slice bA bn bc] w λe w'=>e=.returned (.bool true)/\al w w':=by
 have⟨HM,HB,HBO,HL,HO⟩:=J5' hm hb hbo hL hO;have y0:al w _:=dM w (.cells (ae pc A n cap halt) 47);have hB:=bN w 47 (ae pc A n cap halt);clear hm hb hbo hL hO;go_enter func8,ntmps8;go_upto_region 1 with(fail);generalize (w.alloc (.cells (ae pc A n cap halt) 47))=W at y0 hB⊢;have HY:=J y0;have HS:=J hB;generalize mV:w.heap.size=pb at hB HS⊢;have ku:=J mV;clear y0 mV;obtain⟨k,hk⟩:∃k:Nat,min (n:Int) 300=k:=⟨min n 300,by omega⟩;obtain⟨m,yl⟩:∃m:Nat,min (bn:Int) 600=m:=⟨min bn 600,by omega⟩;have jZ:k<=cap:=by omega
 have EP:m<=bc:=by omega
 have Ie:=J (show k<=n/\k<=300 by omega);have zq:=J (show m<=bn/\m<=600 by omega);clear hc Rl;refine fH (λw2=>al W w2) [(0,2),(1,1),(2,2),(3,1),(4,2),(5,2),(6,2),(7,2),(8,2),(9,2),(10,2),(11,2),(12,2),(13,0),(14,2)] ?_;refine fI ?_
 repeat first|refine cx ?_|refine de fU (by intro w1 hS;have d1:=bX HS.o hS;have d2:=bC d1;have d3:=d1.lt;have d4:=ai.frozen d1;exact fV) ?_|refine dc fU ?_
 have hBd:=bX HS.o ((kR _ W).drew);have e1:=bC hBd;have e2:=hBd.lt;have e3:=ai.frozen hBd;refine fx ?_;have pJ:=(ai.eK HS.o 1 (.slice A k cap)).drew;have y2:al w (W.setCell ⟨pb,1,none⟩ (.slice A k cap)).drew:=(HY.o.trans' (Kept.setCell (S:=(·=pb)) (kR _ W) ⟨pb,1,none⟩ (.slice A k cap) (λ_=>rfl)) (λi hi q=>by have:=ku.o;omega)).drew;generalize (W.setCell ⟨pb,1,none⟩ (.slice A k cap)).drew=V at pJ y2⊢;have⟨oQ,zr,nQ,Zh,HL2,Zs,fp⟩:=J7' (show ai V pb 47 (ae pc A k cap halt)from pJ) ((mT.take HM.o k Ie.o.1).ext y2) ((HB.o.take m zq.o.1).ext y2) (show bI (bl.take m)from λx hx=>HBO.o x (List.mem_of_mem_take hx)) (HL.o.ext y2) (HO.o.ext y2) y2;generalize l.take k=l' at zr;generalize bl.take m=b' at nQ Zh;clear hB hBd e1 e2 e3 y2 pJ hk yl jZ HS HY HM HB HBO HL HO;have d1:=bH oQ.o;have d2:=bG oQ.o;have d3:=oQ.o.lt
 by_cases hr:cQ pc halt k=true
 case' pos=>
  obtain⟨n1,n2,p1,p2,h1,h2⟩:=cG hr;obtain⟨p,rfl⟩:=Int.eq_ofNat_of_zero_le p1;obtain⟨dJ,rfl⟩:=Int.eq_ofNat_of_zero_le h1;obtain⟨x,hx⟩:=nm' (iW p dJ l');have nS:k=l'.length:=zr.o.1;have⟨HPK,gZ,HR⟩:=J3' (aaG hx ad ad ad ad zr.o.2.1) hx hr;have q1:=KU p dJ A k cap l' w.heap.size V hr zr.o;rw [<-hx]at q1;clear n1 n2 p1 p2 h1 h2 hx nS hr;go_wp21;refine q1.mono ?_;rintro e w1 ⟨v,rfl,qD,aw⟩;obtain⟨xA,xc,rfl,hxc,hbx⟩:=qZ.eT qD;have HBX:=J hbx;have cy:=J hxc;have dK:=bX oQ.o aw;clear d1 d2 d3 q1 qD hbx hxc;have d1:=bH dK;have d2:=bG dK;have d3:=dK.lt;go_wp21;refine aoS (jT p dJ A k cap w1) λw2 bd=>?_;clear d1 d2 d3;go_wp21;refine aoS (vJ p dJ A k cap w2) λw3 dv=>?_;rw [HR.o];have gq:=J ((aw.trans bd).trans dv);have ads:=J (HBX.o.ext (bd.trans dv));clear aw bd dv dK HBX;go_wp21;refine((yQ xA x.length xc x _ w3 (ads.o.bsl HPK.o.2.2.1 HPK.o.2.2.2 cy.o)).mono (λ_ _=>Og)).mono ?_;rintro e w4 ⟨A4,n4,c4,rfl,D1,eS⟩;rw [HPK.o.1];rw [HPK.o.2.1]at D1⊢;have LW:=J D1;clear D1;go_upto_region 7 with(fail);have b5:=bN w4 47 (ae p A4 n4 c4 dJ);have y5:al w3 (w4.alloc (.cells (ae p A4 n4 c4 dJ) 47)):=eS.alloc _;have Ig:=J (LW.o.ext (dY w4 (.cells (ae p A4 n4 c4 dJ) 47)));generalize (w4.alloc (.cells (ae p A4 n4 c4 dJ) 47))=w5 at b5 y5 Ig⊢;generalize w4.heap.size=qb at b5 Ig⊢;have⟨tN,uJ,OM,alo,Zo⟩:=J5' b5 (gq.o.trans y5) (bX oQ.o (gq.o.trans y5)) (ads.o.ext y5) (zr.o.ext (gq.o.trans y5));obtain⟨sx,hsx⟩:=nm' (strOfNums x);have LR:=J (show∀w2,al w5 w2->(convert 89 9 (.slice xA x.length xc)).run prog w2=.ok (.string sx) w2 from λw2 hx=>by rw [hsx];exact(alo.o.ext hx).conv xc);have HSX:=J hsx;clear b5 y5 eS LW gq ads hsx;refine fH (λw2=>al w5 w2) [(0,2),(1,2),(2,2),(3,2),(4,1),(5,1),(6,0),(7,0),(8,0),(9,2),(10,2),(11,2),(12,1),(14,1),(13,0),(15,0),(16,0),(17,2),(18,2)] ?_;refine fI ?_;have q0:al w5 w5.drew:=(kR _ w5).drew
  repeat first|refine cx ?_|refine de q0 zb5 ?_|refine dc q0 ?_
  refine au (λK hK=>?_);go_simp;go_wp21;refine aoS (jT p dJ A k cap _) λw6 nU=>?_;have q6:al w5 w6:=q0.trans nU;refine hK.out _ _ (λ_=>q6) ?_;clear hK K nU q0;refine au (λK hK=>?_);go_simp;go_wp21;refine(Ki p dJ A k cap l' _ w6 HR.o (Zo.o.ext q6)).mono ?_;rintro e w7 ⟨v7,rfl,D4,zK⟩;rw [<-gZ.o]at D4;obtain⟨zA,zc,rfl,-,Vt⟩:=qZ.eT D4;have q7:al w5 w7:=q6.trans zK;have Zi:=J (show∀w2,al w7 w2->(convert 89 9 (.slice zA x.length zc)).run prog w2=.ok (.string sx) w2 from λw2 hx=>by rw [HSX.o];exact(Vt.ext hx).conv zc);have c7:=Zi.o w7 (kR _ _);refine hK.out _ _ (λ_=>q7) ?_;clear hK K zK q6 D4 Vt;refine au (λK hK=>?_);go_simp;go_wp21;refine hK.out _ _ (λh=>h) ?_;clear hK K
  repeat first|refine cx ?_|refine de q7 zb5 ?_|refine dc q7 ?_
  clear c7;refine au (λK hK=>?_);go_simp;go_wp21;refine aoS (jT p dJ A4 n4 c4 _) λw8 oo=>?_;have q8:al w5 w8:=q7.trans oo;refine hK.out _ _ (λ_=>q8) ?_;clear hK K oo q7 Zi;refine au (λK hK=>?_);go_simp;go_wp21;refine aoS (jT p dJ A k cap _) λw9 tF=>?_;have q9:al w5 w9:=q8.trans tF;refine hK.out _ _ (λ_=>q9) ?_;clear hK K tF q8;obtain rfl:n4=k:=Ig.o.1.trans Zo.o.1.symm;refine au (λK hK=>?_);go_simp;go_wp21;refine(yJ p dJ A4 A n4 c4 cap l' _ _ w9 (Ig.o.ext q9) (Zo.o.ext q9) (by have:=Zo.o.1;have:=Ie.o;simp only at*;omega)).mono ?_;rintro e wz ⟨rfl,zJ⟩;have HX:=J (uJ.o.trans (q9.trans zJ));refine hK.out _ _ (λ_=>q9.trans zJ) ?_;clear hK K zJ q9;refine fx ?_;go_upto_region 9 with(fail);clear zr HR gZ HPK
 case' neg=>
  have hr:cQ pc halt k=false:=by simpa using hr
  go_wp21;refine aoS (Xs pc halt A k cap V hr) λw1 aw=>?_;have dK:=bX oQ.o aw;clear d1 d2 d3;have d1:=bH dK;have d2:=bG dK;have d3:=dK.lt;go_wp21;refine aoS (jT pc halt A k cap w1) λw2 bd=>?_;clear d1 d2 d3;go_wp21;refine aoS (vJ pc halt A k cap w2) λwz dv=>?_;rw [hr];have HX:=J ((aw.trans bd).trans dv);clear aw bd dv dK;go_upto_region 9 with(fail);clear hr zr
 all_goals
  obtain⟨E,hE⟩:=nm' (nX b');obtain⟨P,H,L,hU⟩:∃P H L,XB b'=(P,H,L):=⟨_,_,_,rfl⟩;have HE:=J hE;have HU:=J hU;clear hE hU;have gB:=J (nQ.o.ext HX.o);go_wp21;refine((yQ bA m bc b' _ wz (gB.o.bsl Zh.o (by have:=zq.o;omega) EP)).mono (λ_ _=>Og)).mono ?_;rintro e u1 ⟨A1,n1,c1,rfl,g1,x1⟩;rw [HU.o]at g1⊢;rw [<-HE.o];have G1:=J g1;clear g1;go_upto_region 10 with(fail);have b2:=bN u1 47 (ae P A1 n1 c1 H);have z2:al wz (u1.alloc (.cells (ae P A1 n1 c1 H) 47)):=x1.alloc _;have G2:=J (G1.o.ext (dY u1 (.cells (ae P A1 n1 c1 H) 47)));generalize (u1.alloc (.cells (ae P A1 n1 c1 H) 47))=u2 at b2 z2 G2⊢;generalize u1.heap.size=yb at b2 G2⊢;have B2:=J b2;have Z2:=J z2;clear b2 z2 x1 G1;go_wp21;refine((Kt bA m bc b' _ u2 (cr _) ((gB.o.ext Z2.o).bsl Zh.o (by have:=zq.o;omega) EP)).mono (λ_ _=>Og)).mono ?_;rintro e u3 ⟨A3,n3,c3,rfl,g3,x3⟩;rw [HU.o]at g3⊢;rw [<-HE.o];have G3:=J g3;clear g3;go_upto_region 11 with(fail);have b4:=bN u3 93 (ae P A3 n3 c3 H);have z4:al u2 (u3.alloc (.cells (ae P A3 n3 c3 H) 93)):=x3.alloc _;have G4:=J (G3.o.ext (dY u3 (.cells (ae P A3 n3 c3 H) 93)));generalize (u3.alloc (.cells (ae P A3 n3 c3 H) 93))=u4 at b4 z4 G4⊢;generalize u3.heap.size=rb at b4 G4⊢;have⟨B4,B24,G24,Y4,uy⟩:=J5' b4 (bX B2.o z4) (G2.o.ext z4) (HX.o.trans (Z2.o.trans z4)) (gB.o.ext (Z2.o.trans z4));clear b4 z4 x3 G3 G2 B2 Z2 gB;have q0:al u4 u4.drew:=(kR _ u4).drew;refine fH (λw2=>al u4 w2) [(0,2),(1,2),(2,2),(3,2),(4,1),(6,1),(5,0),(7,0),(8,2),(9,2)] ?_;refine fI ?_
  repeat first|refine cx ?_|refine de q0 (by intro w1 hS;have d3:=bX B24.o hS;have d4:=bH d3;have d5:=bG d3;have d6:=d3.lt;have d7:=bX B4.o hS;have d8:=bH d7;have d9:=bG d7;have d10:=d7.lt;exact fV) ?_|refine dc q0 ?_
  refine au (λK hK=>?_);go_simp;go_wp21;refine aoS (jT P H A1 n1 c1 _) λu5 x5=>?_;have q5:al u4 u5:=q0.trans x5;refine hK.out _ _ (λ_=>q5) ?_;clear hK K x5 q0;obtain rfl:n3=n1:=G4.o.1.trans G24.o.1.symm
  repeat refine cx ?_
  refine au (λK hK=>?_);go_simp;go_wp21;refine(yJ P H A1 A3 n3 c1 c3 L _ _ u5 (G24.o.ext q5) (G4.o.ext q5) (by have:=aaU b';rw [HU.o]at this;simp only at this;omega)).mono ?_;rintro e u6 ⟨rfl,x6⟩;have q6:=q5.trans x6;refine hK.out _ _ (λ_=>q6) ?_;clear hK K x6 q5;refine fx ?_;have⟨Y6,B6,G6,HB6⟩:=J4' (Y4.o.trans q6) (bX B24.o q6) (G24.o.ext q6) (uy.o.ext q6);clear q6 B4 G4 B24 G24 Y4 uy
  by_cases h0:E=0
  .obtain⟨p',aho,L',e1,e2,e3⟩:=afk Zh.o (HE.o.symm.trans h0)
   obtain⟨rfl,rfl,rfl⟩:P=p'/\H=aho/\L=L':=by
    have q:=HU.o.symm.trans e1
    simpa using q
   have aof:=J e2;have f1:=bH B6.o;have f2:=bG B6.o;have f3:=B6.o.lt;subst h0;have It:n3=L.length:=G6.o.1;have q1:=KU p' aho A1 n3 c1 L _ u6 (by rw [It];exact e3) G6.o;rw [e2]at q1;clear e1 e2 e3 It;go_wp21;refine q1.mono ?_;rintro e u7 ⟨v7,rfl,o7,x7⟩;obtain⟨tA,tc,rfl,-,hbt⟩:=qZ.eT o7;clear q1 o7 f1 f2 f3;go_wp21;refine aoS (CM _ (HL2.o.ext (Y6.o.trans x7)) (Zs.o.ext (Y6.o.trans x7))) λu8 x8=>?_;have k1:=(hbt.ext x8).conv tc;have k2:=(HB6.o.ext (x7.trans x8)).conv bc;have uI:=J (fp.o.trans (Y6.o.trans (x7.trans x8)));clear hbt x7 x8;generalize strOfNums b'=sy at k1 k2;go_wp21;go_ret;exact⟨by simp,uI.o⟩
  .have q0:(E !=0)=true:=by simp [h0]
   clear h0;go_wp21;refine aoS (CM _ (HL2.o.ext Y6.o) (Zs.o.ext Y6.o)) λu8 x8=>?_;go_wp21;go_ret;exact⟨rfl,fp.o.trans (Y6.o.trans x8)⟩
end Mc
open Go.Deep Go.ChangeShapes Go.WideShapes Go.ChangeAt Mc
def opD (k:Nat):Option (List UInt8):=match (Rows.laid_baize_code_operations:DataW Unit)with
 | .agg l=>match l[k]? with|some (.agg [_,.lit (.string s)])=>some s|_=>none
 |_=>none
theorem aay:∀k,k<22->opD k=some (ft k):=by decide
theorem opsAt_of {w : World} {cs : Array Value} {fuel : Nat} {p : List MemPlace} {enc : TypeId × Value → Unit} {held : Bool} (hv : w.var? prog "baize/code.operations" = some cs) (h : DataW.trod enc prog w 0 (fun _ => true) held fuel 364 cs.toList = some (Rows.laid_baize_code_operations, p)) : OpsAt w := by
 obtain⟨xs,m,rfl,hx,hl,hn,hall⟩:=DataW.trod_array underlying364 h;have hD:(Rows.laid_baize_code_operations:DataW Unit)=.agg (xs.map (·.1)):=congrArg Prod.fst hx;have hce:prog.cellsOf 363=2:=by kernel_rfl
 have Bw:prog.cellsOf 9=1:=by kernel_rfl
 have key:∀k,k<22->cs[k*2+1]?=some (.string (Gf k)):=λk hk=>by
  have h1:=hall k hk;rw [hce]at h1;have iP:xs[k]?=some xs[k]:=List.getElem?_eq_getElem ad;rw [iP]at h1;obtain⟨y0,y1,n',e1,_,_,e2⟩:=trod_struct2 underlying363 h1;obtain⟨s,e3,e4,_⟩:=DataW.trod_string underlying9 e2;have h2:=aay k hk;unfold opD at h2;rw [hD]at h2;simp only [List.getElem?_map,iP,Option.map_some,e1,e4,Option.some.injEq]at h2;rw [Bw]at e3;have e5:=congrArg (·[0]?) e3;simp [List.getElem?_drop]at e5;rw [e5];unfold Gf;rw [<-h2]
 have hg : prog.globalNamed "baize/code.operations" = some 0 := by kernel_rfl
 have yg:=λi=>World.var?_cell hg hv i;have l7:∀k,k<22->w.cell? ⟨0,k*2+1,none⟩=some (.string (Gf k)):=λk hk=>(yg _).trans (key k hk);refine⟨?_,l7⟩
 rcases Nat.lt_or_ge 0 w.heap.size with h0|h0
 .exact h0
 .have:=l7 0 ad
  unfold World.cell? at this;rw [Array.getElem?_eq_none h0]at this
  cases this
theorem Wj {w:World} (h:laidMetH prog Rows.trialMiddlesRow.laid w) (h4:5<w.heap.size):eQ w/\OpsAt w:=by
 have h':laidMet prog Rows.trialMiddlesRow.laid w:=h;obtain⟨ps,⟨_,_,_,_,_,_,_,_,_,_,⟨_,_,_,_,_,_,_,_,_,_,⟨_,_,_,_,_,_,_,_,_,_,⟨_,_,_,_,_,_,_,_,_,_,⟨g1,t1,cs1,f1,p1,q1,Rn,Iv,mJ,Pf,⟨go,to_,cso,fo,po,qo,TS,hto,Ds,hdo,⟨g2,t2,cs2,f2,p2,q2,Pj,Iw,LJ,Vu,⟨g3,t3,cs3,f3,p3,q3,hg3,ht3,hv3,Vv,_⟩,_⟩,_⟩,_⟩,_⟩,_⟩,_⟩,_⟩,_⟩:=h'
 have e1 : prog.globalNamed "strings.asciiSpace" = some 1 := by kernel_rfl
 have e2 : prog.globalNamed "baize/sorts.stmtParts" = some 2 := by kernel_rfl
 have e3 : prog.globalNamed "baize/sorts.exprParts" = some 5 := by kernel_rfl
 obtain rfl:=Option.some.inj (e1.symm.trans Rn);obtain rfl:=Option.some.inj (e2.symm.trans Pj);obtain rfl:=Option.some.inj (e3.symm.trans hg3);obtain rfl:=Option.some.inj ((show(prog.globals[1]?).map (·.type)=some 405 by kernel_rfl).symm.trans Iv);obtain rfl:=Option.some.inj ((show(prog.globals[2]?).map (·.type)=some 408 by kernel_rfl).symm.trans Iw);obtain rfl:=Option.some.inj ((show(prog.globals[5]?).map (·.type)=some 419 by kernel_rfl).symm.trans ht3);have c1:=Lib.cells_of_tab (zs:=Lib.asciiSpaceTab) (k:=.u8) underlying405 underlying5 aV aV Pf;have c2:=Lib.cells_of_tab (zs:=Aq) (k:=.i64) underlying408 underlying3 aV aV Vu;have c3:=Lib.cells_of_tab (zs:=O5) (k:=.i64) underlying419 underlying3 aV aV Vv
 have e0 : prog.globalNamed "baize/code.operations" = some 0 := by kernel_rfl
 obtain rfl:=Option.some.inj (e0.symm.trans TS);obtain rfl:=Option.some.inj ((show(prog.globals[0]?).map (·.type)=some 364 by kernel_rfl).symm.trans hto);refine⟨?_,opsAt_of Ds hdo⟩;refine⟨?_,λk hk=>?_,λk hk=>?_,h4⟩
 .unfold Lib.TabIs
  rw [mJ,<-c1]
 .rw [World.var?_cell e2 LJ k,<-Array.getElem?_toList,c2]
  have:∀k,k<10->Aq[k]?=some ((stmtParts (k:Nat):Nat):Int):=by decide
  rw [List.getElem?_map,this k hk]
  rfl
 .rw [World.var?_cell e3 hv3 k,<-Array.getElem?_toList,c3]
  have:∀k,k<18->O5[k]?=some ((exprParts (k:Nat):Nat):Int):=by decide
  rw [List.getElem?_map,this k hk]
  rfl
set_option maxRecDepth 100000
section
variable {H:Type} {enc:TypeId×Value->H} {W:World} {base:Nat}
theorem adI {T:TypeId} {v:Value} {fs:Array Field} (hu:prog.underlying T=some (.struct fs)) (o:Value.okWide prog W .any base T v):∃cs,v=.agg cs:=by
 simp only [Value.okWide,hu]at o;obtain⟨cs,h1,_⟩:=o;exact⟨cs,h1⟩
theorem U5 {α:Type} (f:α->Value) (P:α->Prop):∀(DS:List (List Value)),(∀cs∈DS,∃k,P k/\cs=[f k])->∃l:List α,l.length=DS.length/\(∀k∈l,P k)/\DS.flatten=l.map f
 |[],_=>⟨[],rfl,by simp,rfl⟩
 |c::r,h=>by
  obtain⟨i,hi,rfl⟩:=h c aB;obtain⟨l,hl,ho,he⟩:=U5 f P r (λcs kL=>h cs (by simp [kL]));exact⟨i::l,by simp [hl],by simp;exact⟨hi,ho⟩,by rw [List.flatten_cons,he];rfl⟩
end
namespace trialPacks
theorem adN:prog.cellsOf 5=1:=by kernel_rfl
theorem adO:prog.cellsOf 21=1:=by kernel_rfl
theorem UM:prog.cellsOf 47=3:=by kernel_rfl
theorem adP:prog.cellsOf 40=1:=by kernel_rfl
theorem adQ:prog.cellsOf 3=1:=by kernel_rfl
section
variable {H:Type} {enc:TypeId×Value->H} {W:World} {fuel:Nat} {x:DataW H×List MemPlace} {v:Value}
theorem words (h:DataW.trod enc prog W 0 (λ_=>true) true fuel 40 [v]=some x):∃A n cap l,v=.slice A n cap/\mT W W.heap.size ⟨A,n,cap⟩ l/\n<=cap:=by
 obtain⟨A,b,off,n,cap,DS,rfl,hA,nw,hr,hc,h1,-⟩:=Fb underlying40 adO ad h
 obtain⟨l,hl,hk,he⟩:=U5 (λk:Int=>.int .i32 k) av DS (λcs kL=>by
  obtain⟨_,m,y,ht⟩:=hc cs kL;obtain⟨k,e,_,wf⟩:=DataW.trod_int underlying21 ht;exact⟨k,by simpa [Lit.wf,IntKind.min,IntKind.max,IntKind.signed,IntKind.bits,av]using wf,e⟩)
 exact⟨A,n,cap,l,rfl,⟨by show n=_;omega,hk,b,off,hA,λh=>⟨(hr h).lt,(show DS.flatten=bj l from he)▸hr h⟩⟩,h1⟩
theorem bytes (h:DataW.trod enc prog W 0 (λ_=>true) true fuel 89 [v]=some x):∃A n cap l,v=.slice A n cap/\qZ W A n l/\bI l/\n<=cap:=by
 obtain⟨A,b,off,n,cap,DS,rfl,hA,nw,hr,hc,h1,-⟩:=Fb underlying89 adN ad h
 obtain⟨l,hl,hk,he⟩:=U5 (λk:Int=>.int .u8 k) (λk=>0<=k/\k<=255) DS (λcs kL=>by
  obtain⟨_,m,y,ht⟩:=hc cs kL;obtain⟨k,e,_,wf⟩:=DataW.trod_int underlying5 ht;exact⟨k,by simpa [Lit.wf,IntKind.min,IntKind.max,IntKind.signed,IntKind.bits]using wf,e⟩)
 exact⟨A,n,cap,l,rfl,⟨by omega,b,off,hA,λh=>(show DS.flatten=cu l from he)▸hr h⟩,hk,h1⟩
end
theorem walk {H:Type} {enc:TypeId×Value->H} (W:World) (base:Nat) (v0 v1:Value) (d0:DataW H) (p0:List MemPlace) (d1:DataW H) (p1:List MemPlace)
 (o0:Value.okWide prog W .any base 47 v0) (o1:Value.okWide prog W .any base 89 v1)
 (h0:DataW.Trod enc prog W 0 (λ_=>true) true 47 v0 d0 p0) (h1:DataW.Trod enc prog W 0 (λ_=>true) true 89 v1 d1 p1) (hL:laidMetH prog Rows.trialPacksRow.laid W)
 (_z0:light prog 47 d0) (_z1:light prog 89 d1) (hS:W.ShapedOpen prog):
 Calls prog 8 #[v0,v1] W λe w'=>e=.returned (.bool true)/\al W w':=by
 obtain⟨f1,h1⟩:=h1;obtain⟨bA,bn,bc,bl,rfl,hb,hbo,Rl⟩:=bytes (v:=v1) (by cases v1<;>first|exact h1|(simp [Value.okWide,Cell.okWide,Cell.ok,underlying89]at o1));obtain⟨cs,rfl⟩:=adI underlying47 o0;obtain⟨fuel,hf⟩:=h0;obtain⟨xs,n,_,_,hl,Ag,hf⟩:=DataW.trod_struct underlying47 hf;rw [UM]at hl;obtain⟨cs⟩:=cs;have dv:xs.length=3:=Ag;have e0:DataW.trod enc prog W 0 (λ_=>true) true n 3 ((cs.drop 0).take (prog.cellsOf 3))=some xs[0]:=(hf 0 _ rfl).trans (List.getElem?_eq_getElem _);have e1:DataW.trod enc prog W 0 (λ_=>true) true n 40 ((cs.drop 1).take (prog.cellsOf 40))=some xs[1]:=(hf 1 _ rfl).trans (List.getElem?_eq_getElem _);have e2:DataW.trod enc prog W 0 (λ_=>true) true n 3 ((cs.drop 2).take (prog.cellsOf 3))=some xs[2]:=(hf 2 _ rfl).trans (List.getElem?_eq_getElem _);rw [adQ]at e0 e2;rw [adP]at e1;simp only [Value.cells]at hl;obtain⟨hLA,hOA⟩:=Wj hL (Jh hS)
 match cs,hl with
 |[c0,c1,c2],_=>
  obtain⟨a,e,-⟩:=DataW.trod_int underlying3 e0;obtain⟨b,e',-⟩:=DataW.trod_int underlying3 e2;obtain⟨A,k,cap,l,e'',hm,hc⟩:=words (v:=c1) e1;simp at e e';subst e e' e'';exact Nc a b A k cap l bA bn bc bl W hm hc hb hbo Rl hLA hOA
