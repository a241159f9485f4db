import Derived.Lib.SlBuf
import Derived.Test.YtnhelcmddjbafaaGreatDoorTaao
set_option maxHeartbeats 4000000
set_option maxRecDepth 100000
open Go.Proofs.Tryz
namespace Go.Proofs.YtnhelcmddjbafaaGreatDoor
open Go.RowKit
namespace Mc
variable{w0:World}{fT:Nat}{what:Nat->Int}{dg:Nat->Dg}{v':Value}{r0:MX}{ss:List Ws}
theorem ZQ (l) (pc) (m:List Int):∃v,(gT l pc m).2.2=oK (dq l pc 0 m).2 v m:=by
 cases hn:da l pc m.length with
 |none=>
  refine⟨0,?_⟩;unfold gT;rw [hn];have:dq l pc 0 m=([],-1):=by simp only [dq,hn];rfl
  rw [this];simp [oK]
 |some i=>
  obtain⟨_,p,hh,v,h1,_⟩:=Ac (m':=m) hn rfl rfl rfl (λ_ _=>rfl);exact⟨v,by rw [h1]⟩
def ru (l:List Ins) (r:MX) (j:Nat):Dg:=j0 (gU l r j).1 (gU l r j).2.1 (gU l r j).2.2
def abm (w w':World) (e:Ending) (n:Nat) (f:Nat->Dg):Prop:=∃v,e=.returned (.tuple #[v,.int .i64 0])/\w'.ownsRow w.heap.size 25 8 v n (dc ((List.range n).map f))/\al w w'
structure EZ (w0 w:World) (fT g off:Nat) (m:List Int):Prop where
 row:Row w g off (bJ m)
 at_:g<w0.heap.size∨(fT<=g/\∃du fr,w.heap[g]?=some (.cells du 21 fr))
theorem EZ.ext {w w'} {g off} {m} (h:EZ w0 w fT g off m) (hx:al w w'):EZ w0 w' fT g off m:=
 ⟨h.row.ext hx,h.at_.imp id (λ⟨a,du,fr,e⟩=>⟨a,du,fr,(hx.block g h.row.lt (λf=>f)).trans e⟩)⟩
theorem EZ.kept {S} {w w'} {g off} {m} (h:EZ w0 w fT g off m) (hx:Kept S w w') (h1:∀i,S i->w0.heap.size<=i) (h2:∀i,S i->fT<=i->∀du fr,¬w.heap[i]?=some (.cells du 21 fr)):EZ w0 w' fT g off m:=by
 have hg:¬S g:=λhS=>by
  rcases h.at_ with h3|⟨h3,du,fr,e⟩
  .have:=h1 g hS;omega
  .exact h2 g hS h3 du fr e
 exact⟨h.row.kept hx hg,h.at_.imp id (λ⟨a,du,fr,e⟩=>⟨a,du,fr,(hx.block g h.row.lt hg).trans e⟩)⟩
theorem ZU (A) (b off n cap) (l) (pc halt) (b' bR k eD) (m:List Int) (steps:Nat) (hs:steps<=65536) (w:World) (hc:nx w A b off n l pc halt b' bR k m):
 Calls prog 49 #[.slice A n cap,.agg (ai pc (some ⟨b',bR,none⟩) k eD halt),.int .i64 steps] w λe w'=>abm w w' e (steps+1) (ru l (pc,halt,m)):=by
 obtain⟨k1,k2,h3,h4,h5,h6⟩:=bU hc.right;obtain rfl:=hc.at_;have n1:=hc.n1;have n2:=hc.n2;have x0:al w _:=dS w (.cells (ai pc (some ⟨b',bR,none⟩) k eD halt) 47);have kV:=bN w 47 (ai pc (some ⟨b',bR,none⟩) k eD halt);have HC:=J hc;have aiI:=J (nw (r:=(pc,halt,m)) (by rw [<-hc.LB];exact n2) hc.apV);obtain⟨C,hCe⟩:=nm' (jz l);have pr:=J hCe;clear hc hCe;go_enter func49,ntmps49;go_upto_region 1 with(fail);generalize (w.alloc (.cells (ai pc (some ⟨b',bR,none⟩) k eD halt) 47))=W at x0 kV⊢;obtain⟨sb,Gn⟩:=nm' w.heap.size;rw [<-Gn]at kV⊢;have arx:w.heap.size<=sb:=by omega
 clear Gn;go_wp2_with fail;have agS:=Mr (some ⟨b,off,none⟩) b off cap l n HC.o.LB n1 n2 HC.o.iok (λ_=>rfl) W (λ_=>HC.o.row.ext x0);rw [<-pr.o]at agS;refine agS.mono ?_;rintro e w1 ⟨rfl,aB⟩;clear agS;go_upto_region 4 with(fail);have x2:al w (w1.alloc (.cells C.cells 25)):=(x0.trans aB).alloc _;have gX:=aj.alloc (bX kV aB) (.cells C.cells 25);generalize (w1.alloc (.cells C.cells 25))=W2 at x2 gX⊢;generalize (w1:World).heap.size=cbk at⊢;clear kV aB x0;have i1:=bH gX;have i2:=bG gX;have i3:=gX.lt;go_wp2_with fail;refine(qF pc halt (some ⟨b',bR,none⟩) b' bR eD m k HC.o.OW HC.o.right (λ_=>rfl) _ (λ_=>HC.o.Uv.ext x2)).mono ?_;rintro e w3 ⟨q,rfl,hq,ea⟩;have rj:=bX gX ea;have x3:=x2.trans ea;have hT3:=g_.of (hq.low x2.size);have apK:sb<W2.heap.size:=gX.lt;obtain⟨base,iH⟩:=nm' W2.heap.size;have hTI:g_ w3 base w3.heap.size q (m.map dD):=by rw [iH];exact g_.of hq
 rw [<-iH]at apK;have ie:w.heap.size<=base:=by rw [iH];exact x2.size
 clear i1 i2 i3 gX x2 ea hq hT3 iH;obtain⟨fT,abY⟩:=nm' w3.heap.size;rw [<-abY]at hTI;have YR:base<=fT:=by have:=hTI.1;obtain⟨_,cg,cc,f,G,h,_⟩:=hTI;have:=h.bp;omega
 obtain⟨w4,hr4,Ow,eV⟩:=RW w3 (steps+1) ad;have arp:(0:Int)<=steps:=by omega
 have aqP:(steps:Int)<=65536:=by omega
 have IA:((steps+1:Nat):Int)=(steps:Int)+1:=by omega
 rw [IA]at hr4;clear IA;go_upto_region 9 with(fail);go_step
 iterate 2 refine kT ?_
 refine iy rfl _ _ 23 rfl rfl rfl hr4 ?_;clear hr4;have rU:=bX rj eV;have x4:=x3.trans eV;have Yb:=hTI.ext eV;have hM4:EZ w w4 fT b' bR m:=⟨HC.o.Uv.ext x4,.inl HC.o.Uv.lt⟩;obtain⟨v4,hv4⟩:=nm' (Value.slice (some ⟨w3.heap.size,0,none⟩) 0 (steps+1));rw [<-hv4]at Ow⊢;rw [<-abY]at Ow;have hs4:fT<=w4.heap.size:=by rw [abY];exact eV.size
 have⟨QN,HT4,vB⟩:=J3' Ow Yb hM4;clear hv4 Ow Yb hM4 rj x3 hTI eV abY;obtain⟨D0,Gh⟩:=nm' (ru l (pc,halt,m) 0);obtain⟨M0,X9⟩:=nm' (kX m);have hDM:D0=mM pc halt k M0:=by rw [Gh,X9,HC.o.OW];rfl
 have⟨HD0,kz,HDM⟩:=J3' Gh X9 hDM;clear Gh X9 hDM;go_upto_region 10 with(fail);refine eW (λw2=>al w4 w2) [(0,2),(1,2),(2,1),(3,2),(4,1),(5,2),(6,1),(7,2),(8,2),(9,0),(10,0),(11,0),(12,0),(13,2)] ?_;refine eX ?_
 repeat first|refine bV ?_|refine cF dQ (by intro w1 hS;have d1:=bC (bX rU hS);have d2:=(bX rU hS).lt;exact fE) ?_|refine cD dQ ?_
 have yW:al w4 w4.drew:=(kR _ w4).drew;refine ap (λK hK=>?_);go_simp;go_wp2_with fail;have hrt:=jm base q (m.map dD) w4.drew (by rw [fm,<-HC.o.OW];exact k1) (by rw [fm,<-HC.o.OW];omega) (HT4.o.ok.ext yW);rw [show xk (m.map dD)=M0 from kz.o.symm]at hrt;refine hrt.mono ?_;rintro e w5 ⟨rfl,iY⟩;have y5:al w4 w5:=yW.trans iY;refine hK.out _ _ (λ_=>y5) ?_;clear hK K hrt;refine kZ ?_;intro K hK;go_wp2_with fail;have Wc:=ji pc halt k M0 (by rw [kz.o];exact kJ _ _) ad ad ad w5;rw [<-HDM.o]at Wc;refine Wc.mono ?_;rintro e w6 ⟨rfl,qz⟩;have y6:al w4 w6:=y5.trans qz;refine hK.out _ _ (λ_=>y6) ?_;clear hK K Wc;refine kZ ?_;intro K hK;have y7:al w4 (w6.alloc (.cells D0.cells 25)):=y6.alloc _;refine hK.out _ _ (λ_=>y7) ?_;clear hK K;have hs6:=y6.size;obtain⟨v8,w8,hr8,ho8,zJ⟩:=J9 (w6.alloc (.cells D0.cells 25)) fT v4 0 [] (aQ QN.o y7) w6.heap.size 0 1 1 [D0] rfl (by simpa [dc]using Row.cR (bN w6 25 D0.cells)) ad kQ;have RI:∀i,(v4:Value).ownBlock=some i->fT<=i:=λi e=>(QN.o.lt i e).1;have hoi:=cY (aQ QN.o y7) (E':=21) ae;have Bu:=cY (aQ QN.o y7) (E':=47) ae;have hS8:=bK (bX rU y7) zJ (λe=>Bu sb e _ _ (bX rU y7));have hT8:=(HT4.o.ext y7).kept zJ RI;have hM8:=(vB.o.ext y7).kept zJ (λi e=>by have:=RI i e;omega) (λi e _=>hoi i e);have x8:al w w8:=(x4.trans y7).trans' zJ (λi hi e=>by have:=RI i e;omega)
 have akG:w8.ownsRow fT 25 8 v8 (0+1) (dc ((List.range (0+1)).map (ru l (pc,halt,m)))):=by
  have e:(List.range (0+1)).map (ru l (pc,halt,m))=[]++[D0]:=by rw [HD0.o];rfl
  rw [e];exact ho8
 have⟨HO8,HT8,JV⟩:=J3' akG hT8 hM8;have hs8:fT<=w8.heap.size:=by have h7:=y7.size;have h8:=zJ.size;omega
 clear ho8 akG hT8 hM8 zJ RI hoi Bu;refine DZ bd (λK hK=>?_);refine CZ rfl ?_;refine Lib.wp_append_run _ _ _ _ _ rfl _ _ rfl rfl _ _ hr8 ?_;refine hK.out _ _ ?_;clear hK K hr8;refine fc ?_;clear QN HT4 vB rU x4 yW y5 y6 y7 iY qz hs6;go_wp2_with fail
 go_loopw [12] (λt12 wr=>∃(j:Nat) (g o c:Nat),j<=steps/\wr.ownsRow fT 25 8 t12 (j+1) (dc ((List.range (j+1)).map (ru l (pc,halt,m))))/\aj wr sb 47 (ai (gU l (pc,halt,m) j).1 (some ⟨g,o,none⟩) k c (gU l (pc,halt,m) j).2.1)/\EZ w wr fT g o (gU l (pc,halt,m) j).2.2/\g_ wr base fT q ((gU l (pc,halt,m) j).2.2.map dD)/\al w wr/\fT<=wr.heap.size) (λt12 _=>match t12 with| .slice _ n _=>steps+1 - n|_=>0)
 case atStart=>exact⟨0,b',bR,eD,de _,HO8.o,hS8,JV.o,HT8.o,x8,hs8⟩
 case round=>
  obtain⟨j,g,o,c,hj,ho,hS,hM,hT,hx,hts⟩:=hrel;clear HO8 HT8 JV hS8 x8 hs8 HD0 kz HDM;obtain⟨hok,YI⟩:=aiI.o j;obtain⟨r,hr⟩:=nm' (gU l (pc,halt,m) j);have eU:gU l (pc,halt,m) (j+1)=jO l r.1 r.2.1 r.2.2:=by rw [hr];rfl
  rw [<-hr]at hS hM hT hok YI;obtain⟨rpc,rha,rm⟩:=r;simp only at hS hM hT hok YI eU;rw [<-HC.o.OW]at YI;obtain⟨g12,c12,apL,aG,Nb,hty⟩:=fq ho ad ad;subst apL;obtain⟨_,_,r3,r4,r5,r6⟩:=bU hok.right;have⟨HR,HO,HM,HT,oN,Er,zm⟩:=J7' hr ho hM hT hok YI eU;clear hr ho hM hT hok YI eU hty
  by_cases aX:j+1<=steps
  .have iI:(j:Int)+1<=steps:=by omega
   have i1:=bC hS;have i2:=hS.lt
   by_cases h0:rha=0
   .subst h0
    have i3:=bH hS;have i4:=bG hS;have yI:lm wr (some ⟨b,off,none⟩) b off n l g o k rpc 0 rm:=⟨HC.o.ops.ext hx,λ_=>rfl,λ_=>HC.o.row.ext hx,HC.o.LB,n2,Er.o.symm,by rw [<-Er.o];exact oN.o.right,oN.o.Dd,HM.o.row⟩;have Hz:=J yI;obtain⟨rs,wx,Ni⟩:∃rs wx,dq l rpc 0 rm=(rs,wx):=⟨_,_,rfl⟩;obtain⟨_,Wv,_⟩:=yP l rpc 0 rm;have fY:=uX (some ⟨b,off,none⟩) b off n cap l rpc 0 g o k c rm wr yI;obtain⟨v,K8⟩:=ZQ l rpc rm;rw [Ni]at Wv fY K8;simp only at Wv K8;rw [Er.o]at Wv;have dr:jO l rpc 0 rm=gT l rpc rm:=av rfl;have hms:=λw h=>GF (some ⟨b,off,none⟩) b off n cap l rpc 0 g o k c rm w h;rw [dr]at hms;have eU:=zm.o;rw [dr]at eU;obtain⟨q',hq'⟩:=nm' (gT l rpc rm);rw [<-hq']at hms K8 eU;obtain⟨p',h',m'⟩:=q';simp only at hms K8;have⟨VS,QM,HUP,WS⟩:=J4' fY hms K8 eU;clear yI fY hms K8 eU dr hq' Ni zm;go_wp2_with fail;refine VS.o.mono ?_;rintro e w2 ⟨v2,rfl,-,bM⟩;simp only;have gX:=bX hS bM;clear VS i1 i2 i3 i4;have i1:=bH gX;have i2:=bG gX;have i3:=gX.lt;go_wp2_with fail;refine(QM.o w2 (Hz.o.ext bM)).mono ?_;rintro e w3 ⟨v3,rfl,g3,c3,rfl,Fl,ea⟩;simp only [ai];have rj:=bX gX ea;have y3:al wr w3:=bM.trans ea;clear i1 i2 i3;have i1:=bH rj;have i2:=aj.aJ rj;have i3:=rj.lt;go_upto_region 16 with(fail);have kp:Kept (·=sb) w3 (putAt w3 sb 0 (ai p' (some ⟨g3,0,none⟩) k c3 h')):=Kept.putAt (kR (·=sb) w3) sb _ _ (λ_=>rfl);have rU:aj (putAt w3 sb 0 (ai p' (some ⟨g3,0,none⟩) k c3 h')) sb 47 (ai p' (some ⟨g3,0,none⟩) k c3 h'):=aj.cI rj _ _;have hg3:w2.heap.size<=g3:=by obtain⟨_,du,hb,_⟩:=Fl.inv;exact hb
    have arv:wr.heap.size<=w2.heap.size:=bM.size
    have t_:EZ w (putAt w3 sb 0 (ai p' (some ⟨g3,0,none⟩) k c3 h')) fT g3 0 m':=by
     obtain⟨_,du,_,Fj,_⟩:=(Fl.kept kp ad).inv;exact⟨(Fl.kept kp ad).row,.inr ⟨by omega,du,_,Fj⟩⟩
    have Yb:=(HT.o.ext y3).apart kp (λi e=>by omega);have Ow:=dy (aQ HO.o y3) kp (λi hi e=>by have:=(HO.o.lt i hi).1;omega);have x4:al w (putAt w3 sb 0 (ai p' (some ⟨g3,0,none⟩) k c3 h')):=(hx.trans y3).trans' kp (λi hi e=>by omega);have agC:=Fl.kept kp ad;have agP:fT<=(putAt w3 sb 0 (ai p' (some ⟨g3,0,none⟩) k c3 h')).heap.size:=by have h1:=y3.size;have h2:=kp.size;omega
    generalize (putAt w3 sb 0 (ai p' (some ⟨g3,0,none⟩) k c3 h'))=W4 at kp rU t_ Yb Ow x4 agC agP⊢;have⟨QN,HT4,vB,HMC⟩:=J4' Ow Yb t_ agC;clear Ow Yb t_ agC kp i1 i2 i3 rj Fl gX hS y3 ea bM HO HM HT Hz QM aG
    by_cases qg:0<=wx
    .obtain⟨a,rfl⟩:∃a:Nat,wx=a:=⟨wx.toNat,by omega⟩
     have hak:a<k:=by omega
     have ajL:(a:Int)<k:=by omega
     have xR:m'.length=k:=by rw [HUP.o];unfold oK;rw [av qg];rw [I7,Er.o]
     have wS:=HMC.o.cell a ad
     have hval:m'[a]=v:=by
      have:=HUP.o;subst this;simp [oK,fp]
     rw [hval]at wS
     have YC:(rm.map dD).set a (dD v)=m'.map dD:=by
      rw [HUP.o];unfold oK;rw [av qg];simp [fp,List.map_set]
     have AP:=HMC.o.lt;have i1:=bC rU;have i2:=rU.lt;have HEQ:=J YC;have QK:=J xR;clear hval YC xR;go_wp2_with fail;refine kU (wZ v _) λw5 iY=>?_;clear i1 wS;go_wp2_with fail;have fQ:=acL base fT q (rm.map dD) a (dD v) (wY _) w5 (by rw [fm,Er.o];exact k1) (by rw [fm,Er.o];omega) (by rw [fm,Er.o];exact hak) (HT4.o.ext iY);rw [HEQ.o]at fQ;refine fQ.mono ?_;rintro e w6 ⟨rfl,hT6,rp⟩;have Oe:=bK (bX rU iY) rp (λe=>by omega);have hM6:=(vB.o.ext iY).kept rp (λi e=>by omega) (λi e h=>by omega);have zO:=dy (aQ QN.o iY) rp (λi hi e=>by have:=(QN.o.lt i hi).1;omega);have x6:al w w6:=(x4.trans iY).trans' rp (λi hi e=>by omega);have agQ:fT<=w6.heap.size:=by have h1:=iY.size;have h2:=rp.size;omega
     have⟨ER,HT6,uh⟩:=J3' zO hT6 hM6;clear zO hT6 hM6 fQ rp iY QN HT4 vB HMC x4 rU HEQ i2 AP;exact amJ
    .have K8:=HUP.o
     unfold oK at K8;rw [af qg]at K8;have hT6:=HT4.o;rw [<-K8]at hT6;have xR:m'.length=k:=by rw [K8];exact Er.o
     obtain⟨w6,hw6⟩:=nm' W4;have ER:=J (show w6.ownsRow _ _ _ _ _ _ from by rw [hw6];exact QN.o);have HT6:=J (show g_ w6 _ _ _ _ from by rw [hw6];exact hT6);have uh:=J (show EZ w w6 _ _ _ _ from by rw [hw6];exact vB.o);have Oe:aj w6 sb 47 (ai p' (some ⟨g3,0,none⟩) k c3 h'):=by rw [hw6];exact rU
     have x6:al w w6:=by rw [hw6];exact x4
     have agQ:fT<=w6.heap.size:=by rw [hw6];exact agP
     have QK:=J xR;rw [<-hw6];clear K8 hT6 xR QN HT4 vB HMC x4 rU agP hw6;exact amJ
   .have JK:(rha !=0)=true:=by simpa using h0
    have HH0:=J h0;clear h0;obtain⟨dh,dgt⟩:=aG.dig j aC;simp only [List.getElem_map,List.getElem_range,dU]at dh dgt;obtain⟨D,hD⟩:=nm' (ru l (pc,halt,m) j);rw [<-hD]at dgt;have AP:=aG.lt;have agH:gU l (pc,halt,m) (j+1)=(rpc,rha,rm):=by rw [zm.o];unfold jO;rw [af HH0.o]
    have hD1:ru l (pc,halt,m) (j+1)=D:=by rw [hD];unfold ru;rw [agH,<-HR.o]
    have HD1:=J hD1;have HNT:=J agH;clear hD hD1 agH aG;have hj0:(0:Int)<=j:=by omega
    have ft:(j:Int)<(j:Int)+1:=by omega
    have T0:j<j+1:=by omega
    have mX:(j:Int)+1 - 1=j:=by omega
    go_upto_region 13 with(fail);go_step
    iterate 8 refine kT ?_
    have y5:al wr (wr.alloc (.cells D.cells 25)):=dS wr _;obtain⟨v6,w6,Wu,zO,rp⟩:=J9 (wr.alloc (.cells D.cells 25)) fT (.slice (some ⟨g12,0,none⟩) (j+1) c12) (j+1) _ (aQ HO.o y5) wr.heap.size 0 1 1 [D] rfl (by simpa [dc]using Row.cR (bN wr 25 D.cells)) ad kQ;have RI:∀i,(Value.slice (some ⟨g12,0,none⟩) (j+1) c12).ownBlock=some i->fT<=i:=λi e=>(HO.o.lt i e).1;have hoi:=cY (aQ HO.o y5) (E':=21) ae;have Bu:=cY (aQ HO.o y5) (E':=47) ae;have Oe:=bK (bX hS y5) rp (λe=>Bu sb e _ _ (bX hS y5));have hT6:=(HT.o.ext y5).kept rp RI;have hM6:=(HM.o.ext y5).kept rp (λi e=>by have:=RI i e;omega) (λi e _=>hoi i e);have x6:al w w6:=(hx.trans y5).trans' rp (λi hi e=>by have:=RI i e;omega);have agQ:fT<=w6.heap.size:=by have h1:=y5.size;have h2:=rp.size;omega
    have agI:w6.ownsRow fT 25 8 v6 (j+1+1) (dc ((List.range (j+1+1)).map (ru l (pc,halt,m)))):=by
     rw [List.range_succ,vQ,show List.map (ru l (pc,halt,m)) [j+1]=[D]by rw [<-HD1.o];rfl];exact zO
    obtain⟨g6,c6,hv6,_⟩:=fq agI ad ad;subst hv6;refine cJ rfl (.tmp 60) (.tmp 67) 23 rfl rfl rfl rfl Wu ?_;have⟨ER,HT6,uh⟩:=J3' agI hT6 hM6;clear Wu zO agI hT6 hM6 rp RI hoi Bu dh dgt i1;go_wp2_with fail;go_roundw
    case rel=>exact⟨j+1,g,o,c,aX,ER.o,by rw [HNT.o];exact Oe,by rw [HNT.o];exact uh.o,by rw [HNT.o];exact HT6.o,x6,agQ⟩
    case measure=>simp only;omega
  .have iI:¬(j:Int)+1<=steps:=by omega
   have ej:j=steps:=by omega
   subst ej;go_wp2_with fail
   go_ret2
   exact⟨_,rfl,ii HO.o ad,hx⟩
abbrev aao:Array Value:=#[.int .i64 0,.int .i64 0,.int .i64 0,.int .u8 0,.int .u8 0,.int .u8 0,.int .u8 0,.int .u8 0,.int .u8 0,.int .u8 0,.int .u8 0,.int .i64 0,.int .i64 0,.int .i64 0,.int .i64 0,.slice none 0 0,.slice none 0 0,.slice none 0 0]
attribute [go_sem] aao
def u9 (t:Tr) (e:Int):Int:=if dP t 0 true=0 then e else dP t 0 true
def qI (t:Tr) (e:Int):Tr:=if dP t 0 true=0/\e=0 then{t with turn:=-1,ff:=0}else t
section
variable (b:Nat) (t:Tr) (cs:Array Value) (e0:Int) (w:World) (ht:At w b t) (gu:(cs.toList.take 18).toArray=cs) (hn:18<=cs.size)
include b t cs e0 w ht gu hn
theorem UJ (ha:dP t 0 true=0) (hk:∀w',al w w'->Calls prog 81 #[.agg #[.int .u8 t.program.x0,.int .u8 t.program.x1,.int .u8 t.program.x2,.int .u8 t.program.x3,.int .u8 t.program.x4,.int .u8 t.program.x5,.int .u8 t.program.x6,.int .u8 t.program.x7],.int .i64 t.size,.agg #[.int .u8 t.before.x0,.int .u8 t.before.x1,.int .u8 t.before.x2,.int .u8 t.before.x3,.int .u8 t.before.x4,.int .u8 t.before.x5,.int .u8 t.before.x6,.int .u8 t.before.x7],.agg #[.int .u8 t.after.x0,.int .u8 t.after.x1,.int .u8 t.after.x2,.int .u8 t.after.x3,.int .u8 t.after.x4,.int .u8 t.after.x5,.int .u8 t.after.x6,.int .u8 t.after.x7],.agg cs] w' λe uf=>e=.returned (.int .i64 e0)/\al w' uf):
 Calls prog 68 #[.pointer (some ⟨b,0,none⟩),.agg cs] w λe w'=>e=.returned (.int .i64 e0)/\At w' b (qI t e0)/\Kept (·=b) w w':=by
 have HK:=J hk;clear hk;have rV:=aj.lt ht;obtain⟨t',ht'⟩:∃t',qI t e0=t':=⟨_,rfl⟩;rw [ht'];have HT:=J ht';clear ht';go_enter func68,ntmps68;go_wp2_with (go_at_call 121;refine(lp b t _ _ _ (aj.alloc ht _)).mono ?_;rintro e w' ⟨rfl,rfl⟩);have hc1:=aj.alloc ht (.cells cs 74);have hd1:=bN w 74 cs;refine ng (λw'=>al (w.alloc (.cells cs 74)) w') [true,true,true,true,true,true,true,true,true,true,true,true,true,true,true,true,true,true,true,false,false] bd bd bd ?_
 (repeat (first|((apply tL);(· exact dQ);(· go_simp);(· (intro w1 hS;have c1:=bX hc1 hS;have d1:=bX hd1 hS;have hh:=bH c1;have hg:=bG c1;have yv:=bC c1;have Wc:=bH d1;have CP:=bG d1;go_simp;try with_reducible rfl));refine iR ?_)|((apply tK);(· exact dQ);(· go_simp);refine iR ?_)))
 refine sK (λK hK=>?_);go_simp;go_wp21;refine kU (HK.o _ ((dS w _).drew)) λw2 bM=>?_;have CY:al (w.alloc (.cells cs 74)) w2:=((kR _ _).drew).trans bM;refine hK.out _ _ CY (λ_=>?_);clear hK K
 (repeat (refine Ed bd (λK hK=>?_);go_simp;refine hK.out _ _ ?_;clear hK K));refine xK ?_
 have vC:At w2 b t:=bX hc1 CY;have ea:Kept (·=b) w w2:=Kept.ext ((dS w _).trans CY)
 by_cases he:e0=0
 .subst he
  have HT2:=J (HT.o.symm.trans (av ⟨ha,rfl⟩));go_wp2_with (go_at_call 119;refine(D1 b t _ _ vC).mono ?_;rintro e w' ⟨rfl,hA,hK⟩);go_ret;exact⟨rfl,HT2.o▸hA,ea.trans hK⟩
 .have HT2:=J (HT.o.symm.trans (af (λh=>he h.2)))
  have Yn:(e0 !=0)=true:=by simpa using he
  clear he;go_wp21;go_ret;exact⟨rfl,HT2.o▸vC,ea⟩
theorem UI (hk:∀w',al w w'->Calls prog 81 #[.agg #[.int .u8 t.program.x0,.int .u8 t.program.x1,.int .u8 t.program.x2,.int .u8 t.program.x3,.int .u8 t.program.x4,.int .u8 t.program.x5,.int .u8 t.program.x6,.int .u8 t.program.x7],.int .i64 t.size,.agg #[.int .u8 t.before.x0,.int .u8 t.before.x1,.int .u8 t.before.x2,.int .u8 t.before.x3,.int .u8 t.before.x4,.int .u8 t.before.x5,.int .u8 t.before.x6,.int .u8 t.before.x7],.agg #[.int .u8 t.after.x0,.int .u8 t.after.x1,.int .u8 t.after.x2,.int .u8 t.after.x3,.int .u8 t.after.x4,.int .u8 t.after.x5,.int .u8 t.after.x6,.int .u8 t.after.x7],.agg cs] w' λe uf=>e=.returned (.int .i64 e0)/\al w' uf):
 Calls prog 68 #[.pointer (some ⟨b,0,none⟩),.agg cs] w λe w'=>e=.returned (.int .i64 (u9 t e0))/\At w' b (qI t e0)/\Kept (·=b) w w':=by
 unfold u9
 by_cases h:dP t 0 true=0
 .rw [av h];exact UJ b t cs e0 w ht gu hn h hk
 .rw [af h,show qI t e0=t from af (λx=>h x.1)]
  refine(Zz b t cs w ht Eg).mono ?_;rintro e w' ⟨rfl,hx⟩;exact⟨rfl,bX ht hx,Kept.ext hx⟩
end
open Go.Deep Go.ChangeShapes Go.WideShapes
structure WG (w:World) (b off len:Nat) (what:Nat->Int) (dg:Nat->Dg) (first:Nat->Bool):Prop where
 ami:∀i,i<len->w.cell? ⟨b,off+i*11,none⟩=some (.int .u8 (what i))
 Z5:∀i,i<len->0<=what i/\what i<=255
 agu:∀i,i<len->has w b (off+i*11+1) 8=true
 dg_:∀i,i<len->gets w b (off+i*11+1) 8=(dg i).cells
 agl:∀i,i<len->w.cell? ⟨b,off+i*11+9,none⟩=some (.bool (first i))
 lt:0<len->b<w.heap.size
theorem WG.agZ {w w'} {b off len} {first} (h:WG w b off len what dg first) (hk:al w w'):WG w' b off len what dg first:=by
 have hc:∀o,0<len->w'.cell? ⟨b,o,none⟩=w.cell? ⟨b,o,none⟩:=λo hl=>hk.cell (p:=⟨b,o,none⟩) (h.lt hl) (λf=>f);have hb:0<len->w'.heap[b]?=w.heap[b]?:=λhl=>hk.block b (h.lt hl) (λf=>f);refine⟨λi hi=>(hc _ ad).trans (h.ami i hi),h.Z5,λi hi=>?_,λi hi=>?_,λi hi=>(hc _ ad).trans (h.agl i hi),λhl=>gw (h.lt hl) hk.size⟩
 .have:=h.agu i hi;unfold has at this⊢;rw [hb ad];exact this
 .have:=h.dg_ i hi;unfold gets at this⊢;rw [hb ad];exact this
attribute [go_sem] adM
theorem TM:prog.eqGuardType prog.depth 197=false:=by kernel_rfl
theorem Va:prog.stoodInHeld 197=false:=by kernel_rfl
attribute [go_sem] TM Va
abbrev Rt.tr (r:Rt) (p:Dg) (sz:Int):Tr:=⟨r.from_,r.steps,r.ahead,r.behind,p,sz,r.turn,r.mid,r.won⟩
abbrev F5 (wh:Int) (x:Dg) (f:Bool) (u:Value):Array Value:=#[.int .u8 wh,.int .u8 x.x0,.int .u8 x.x1,.int .u8 x.x2,.int .u8 x.x3,.int .u8 x.x4,.int .u8 x.x5,.int .u8 x.x6,.int .u8 x.x7,.bool f,u]
attribute [go_sem] F5
structure Hp (w:World) (b off len:Nat) (what:Nat->Int) (dg:Nat->Dg) (first:Nat->Bool) (last:Nat->Value):Prop where
 agu:∀i,i<len->has w b (off+i*11) 11=true
 aoS:∀i,i<len->gets w b (off+i*11) 11=F5 (what i) (dg i) (first i) (last i)
 Z5:∀i,i<len->0<=what i/\what i<=255
 lt:0<len->b<w.heap.size
theorem Hp.agZ {w w'} {b off len} {first} {last} (h:Hp w b off len what dg first last) (hk:al w w'):Hp w' b off len what dg first last:=by
 have hb:0<len->w'.heap[b]?=w.heap[b]?:=λhl=>hk.block b (h.lt hl) (λf=>f);refine⟨λi hi=>?_,λi hi=>?_,h.Z5,λhl=>gw (h.lt hl) hk.size⟩
 .have:=h.agu i hi;unfold has at this⊢;rw [hb ad];exact this
 .have:=h.aoS i hi;unfold gets at this⊢;rw [hb ad];exact this
theorem EJ.won {K} {t} {n} (h:EJ K t n):t.ff=-1∨t.ff=0∨t.ff=1:=by
 obtain⟨_,_,j,_,_,hc⟩:=h
 rcases hc with⟨_,h,_⟩|⟨_,_,h,_⟩|⟨_,h,_⟩<;>omega
theorem G1 (d) (x) (sb) (s:Ws) (k:Nat) (hk:s.words=k) (h1:1<=k) (h2:k<=256) (w:World) (hS:aj w sb 74 s.cells) (hd:zr w d x) (hlen:x.path.length=jb k) (KR:qm s.mem x.at_ (dD x.Wz) x.path=true):
 Calls prog 238 #[.agg d.cells,.pointer (some ⟨sb,0,none⟩)] w λe w'=>e=.returned (.bool true)/\al w w':=by
 have aK:al w _:=dS w (.cells d.cells 271);have Gh:=bN w 271 d.cells;have kV:=aj.alloc hS (.cells d.cells 271);obtain⟨pb,po,hp⟩:=hd.path;obtain⟨Hk,hHk⟩:=nm' (jb k);have JN:d.pn=Hk:=by rw [hp.len,hlen,hHk]
 have ajS:qm s.mem d.at_ (dD d.Wz) x.path=true:=by rw [hd.at_,hd.Wz];exact KR
 have⟨HP,HHK,lX⟩:=J3' hp hHk ajS;have hkI:s.words=(k:Int):=hk;clear hp hlen hHk KR ajS hd hk;obtain⟨dat,Rk,Tq,Tv,Ts⟩:=d;obtain⟨spc,aeC,ZS,ahq,alO,EC,BK,ED,Fv,xB,EE,DU,rc,EG⟩:=s;simp only at JN hkI lX;subst JN hkI;go_enter func238,ntmps238;go_upto_region 1 with(fail);generalize (w.alloc (.cells (Wd.cells ⟨dat,Rk,Tq,Tv,Ts⟩) 271))=W at aK Gh kV⊢;generalize (w:World).heap.size=p at Gh⊢;refine eW (λw2=>al W w2) [(0,2),(1,1),(2,2),(3,2),(4,1),(5,0),(6,2),(7,2),(8,2),(9,1),(10,2),(11,1),(12,2),(13,1),(15,2),(16,1),(14,0),(17,0),(18,2),(19,2)] ?_;refine eX ?_
 repeat first|refine bV ?_|refine cF dQ zb5 ?_|refine cD dQ ?_
 have yW:al W W.drew:=(kR _ W).drew;refine ap (λK hK=>?_);go_simp;go_wp21;refine(th k h1 ad _).mono ?_;rintro e w1 ⟨rfl,rfl⟩;rw [<-HHK.o];refine hK.out _ _ (λ_=>yW) ?_;clear hK K
 repeat first|refine bV ?_|refine cF yW zb5 ?_|refine cD yW ?_
 refine ap (λK hK=>?_);go_simp;go_wp21;refine kU (wZ Rk _) λw2 bM=>?_;have y2:al W w2:=yW.trans bM;refine hK.out _ _ (λ_=>y2) ?_;clear hK K;refine kZ ?_;intro K hK;go_wp21;refine kU (DV ahq dat (dD Rk) (wY _) Tq pb po Tv Ts x.path _ (HP.o.ext (aK.trans y2))) λw3 ea=>?_;rw [lX.o];have y3:al W w3:=y2.trans ea;refine hK.out _ _ (λ_=>y3) ?_;clear hK K;refine fc ?_;go_wp21;go_ret;exact⟨rfl,aK.trans y3⟩
theorem Ra (A) (n c) (ls) (w) (hp:hJ w A n ls) (hn:n<=4):
 Calls prog 239 #[.slice A n c] w λe w'=>J1 w w' e (ls.map Wl.at_):=by
 obtain⟨Ov,b,off,ds,h1,h2,h3,h4⟩:=hp;have⟨Bi,HD,H1,H2,H4⟩:=J5' Ov h4.len h1 h2 h4;clear Ov h1 h2 h3 h4;go_enter func239,ntmps239;go_wp2_with fail
 go_loopw [3,8] (λt3 t8 wr=>∃(j:Nat),j<=n/\t8=.int .i64 j/\wr.ownsRow w.heap.size 3 1 t3 j (ints ((ls.take j).map Wl.at_))/\al w wr) (λ_ t8 _=>n - (intOf t8).toNat)
 case atStart=>exact⟨0,by omega,rfl,World.ownsRow_nil _ _ _ _,kR _ _⟩
 case round=>
  obtain⟨j,hj,rfl,ho,hx⟩:=hrel
  by_cases aX:j<n
  .have ft:j<ls.length:=by have:=Bi.o;omega
   have Yv:j<ds.length:=by have:=HD.o;omega
   have iI:(j:Int)<n:=by omega
   obtain rfl:=H1.o ad;have aG:=(H2.o ad).ext hx;obtain⟨YM,Nh⟩:=aG.wd j Yv;have rV:=aG.lt;have kL:=(H4.o.get j Yv ft).at_;obtain⟨d,Yl⟩:=nm' (ds[j]);rw [<-Yl]at Nh kL;have EK:=J kL;have HO:=J ho;clear aG Yl kL ho;go_upto_region 5 with(fail);have x1:=hx.alloc (.cells d.cells 271);have hW:=bN wr 271 d.cells;have Gm:=HO.o.alloc (.cells d.cells 271);have uR:∀i,i<w.heap.size->(u3:Value).ownBlock=some i->False:=λi hi e=>by have:=(HO.o.lt i e).1;omega
   have vN:=J uR;have HO5:=J Gm;clear Gm HO uR;generalize hgW:(wr.alloc (.cells d.cells 271))=W at x1 hW HO5⊢;generalize (wr:World).heap.size=p at hW⊢;clear hgW YM Nh;have d1:=bC hW;have d2:=hW.lt;go_step
   iterate 4 refine kT ?_
   have hsz:w.heap.size<=W.heap.size:=x1.size;obtain⟨v2,w2,ki,n9,eC⟩:=Cj (W.alloc (.cells #[.int .i64 d.at_] 3)) _ _ _ ((ls.take j).map Wl.at_) (HO5.o.alloc _) W.heap.size 0 1 1 [d.at_] rfl (by simpa [ints]using Row.cR (bN W 3 #[.int .i64 d.at_])) ad kQ;refine cJ rfl (.tmp 12) (.tmp 15) 35 rfl rfl rfl rfl ki ?_;have k2:Kept (λi=>(u3:Value).ownBlock=some i) W w2:=(dS W _).trans eC
   have RG:w2.ownsRow w.heap.size 3 1 v2 (j+1) (ints ((ls.take (j+1)).map Wl.at_)):=by
    rw [List.take_succ_eq_append_getElem ft,vQ];have:=n9;rw [EK.o]at this;exact this
   have HO3:=J RG;clear ki n9 RG d1;go_wp2_with fail;go_roundw
   case rel=>exact⟨j+1,aX,by go_num,HO3.o,x1.trans' k2 vN.o⟩
   case measure=>simp only [intOf];omega
  .have ej:j=n:=by omega
   subst ej;have e1:(ls.take j)=ls:=lY (Nat.le_of_eq Bi.o.symm);rw [e1]at ho;have e2:(ls.map Wl.at_).length=j:=by simp [Bi.o]
   have HO:=J ho;have HE:=J e2;clear ho e1 e2;go_wp2_with fail;go_ret;exact⟨_,rfl,by rw [HE.o];exact HO.o,hx⟩
theorem Sk {c} {p q:Prop} (hc:c=true) (h:p):if c=true then p else q:=by rw [av hc];exact h
theorem Av {P} {o} {a} {w} {K} {Q} (x y) (T:TypeId) (ho:o.op=.makeSlice T x y) {v s:Value} {w':World} (hx:a.eval x=v) (hy:a.eval y=s)
 (dr:(Instr.makeSlice T v s).run P w=.ok v' w') (h:K (a.put o.dst v') w'):Oper.wp P o a w K Q:=by
 unfold Oper.wp execOp;simp only [ho,Sem.run_bind,Sem.run_pure,Result.andThen_ok,hx,hy,dr];exact h
theorem alu (n:Nat):(madeCells #[.int .i32 0] n)=(bJ (List.replicate n 0)).toArray:=by
 apply Array.ext
 .simp [madeCells,bJ]
 .intro i h1 h2
  simp [madeCells,bJ,Nat.mod_one]
theorem RX (w) (n:Nat) (h:n<=100000):
 ∃w',(Instr.makeSlice 40 (.int .i64 (n:Int)) (.int .i64 (n:Int))).run prog w=.ok (.slice (some ⟨w.heap.size,0,none⟩) n n) w'/\aj w' w.heap.size 21 (bJ (List.replicate n 0)).toArray/\al w w':=by
 obtain⟨i,hi,hz,h1,h2⟩:=info_parts ID;have hr:=run_makeSlice (P:=prog) w 40 21 i _ underlying40 hi hz .i64 .i64 n n ad (Int.le_refl _) (by rw [h1];simp;omega) Hf ad;simp only [rF]at hr;rw [h1,Nat.mul_one]at hr;refine⟨_,hr,?_,dS w _⟩;have:(madeCells (Value.int .i32 0).cells n)=(bJ (List.replicate n 0)).toArray:=alu n;rw [this];exact bN w _ _
theorem Le (n:Nat):cM (List.replicate n ⟨0,0,0,0⟩)=List.replicate (n*4) (.int .i64 0):=by
 induction n with
 |zero=>simp [cM]
 |succ n ih=>rw [List.replicate_succ,show(n+1)*4=4+n*4 by omega,<-List.replicate_append_replicate,<-ih];rfl
theorem als (n:Nat):(madeCells (Ins.cells ⟨0,0,0,0⟩) (n*4))=(cM (List.replicate n ⟨0,0,0,0⟩)).toArray:=by
 rw [Le];apply Array.ext
 .simp [madeCells]
 .intro i h1 h2
  have h8:i%4<4:=Nat.mod_lt _ ad;simp only [madeCells,List.getElem_toArray,List.getElem_replicate,Array.getElem_map,Array.getElem_range];show((Ins.cells ⟨0,0,0,0⟩)[i%4]!)=_;generalize i%4=j at h8
  rcases(by omega:j=0∨j=1∨j=2∨j=3)with rfl|rfl|rfl|rfl<;>rfl
theorem alw (w) (n:Nat) (h:n<=100000):
 ∃w',(Instr.makeSlice 48 (.int .i64 (n:Int)) (.int .i64 (n:Int))).run prog w=.ok (.slice (some ⟨w.heap.size,0,none⟩) n n) w'/\aj w' w.heap.size 71 (cM (List.replicate n ⟨0,0,0,0⟩)).toArray/\al w w':=by
 obtain⟨i,hi,hz,h1,h2⟩:=info_parts OM;have hr:=run_makeSlice (P:=prog) w 48 71 i _ underlying48 hi hz .i64 .i64 n n ad (Int.le_refl _) (by rw [h1];simp;omega) Hf ad;simp only [rF]at hr;rw [h1]at hr;refine⟨_,hr,?_,dS w _⟩;have:(madeCells (Value.agg (Ins.cells ⟨0,0,0,0⟩)).cells (n*4))=(cM (List.replicate n ⟨0,0,0,0⟩)).toArray:=als n;rw [this];exact bN w _ _
theorem F7 {w} {base Cm} {v} {l:List Int} (h:w.ownsRow base 3 1 v l.length (ints l)) (h':w.ownsRow Cm 3 1 v' l.length (ints l)) (hn:l.length<=100000):
 Calls prog 240 #[v,v'] w λe w'=>e=.returned (.bool true)/\al w w':=by
 obtain⟨_,ho⟩:=Ds h;obtain⟨_,n8⟩:=Ds h'
 by_cases h0:l=[]
 .subst h0
  obtain⟨a1,c1,rfl⟩:∃a1 c1,v=.slice a1 0 c1:=by
   rcases ho with⟨hv,_⟩|⟨g,c,du,hv,_⟩
   .exact⟨_,_,hv⟩
   .exact⟨_,_,hv⟩
  obtain⟨a2,c2,rfl⟩:∃a2 c2,v'=.slice a2 0 c2:=by
   rcases n8 with⟨hv,_⟩|⟨g,c,du,hv,_⟩
   .exact⟨_,_,hv⟩
   .exact⟨_,_,hv⟩
  refine(slices_Equal_int_empty a1 a2 c1 0 c2 w ad).mono ?_;rintro e w1 ⟨rfl,rfl⟩;exact⟨rfl,kR _ _⟩
 .rcases ho with⟨_,e⟩|⟨g,c,du,rfl,_,hc,_,_,_,ht⟩
  .exact absurd e h0
  rcases n8 with⟨_,e⟩|⟨g',c',aoR,rfl,_,Bq,_,_,_,ht'⟩
  .exact absurd e h0
  refine(slices_Equal_int g 0 l.length c g' 0 l.length c' l l w (eH _) (eH _) ad ad (λj hj=>by simpa using oH hc rfl ht j hj) (λj hj=>by simpa using oH Bq rfl ht' j hj)).mono ?_;rintro e w1 ⟨rfl,q,rfl⟩;exact⟨by simp,(kR _ w).drewN q⟩
theorem Zh {l:List Dg} {i:Int} (h0:0<=i) (hi:i<l.length) (h2:l.length<=4096):Db i (jb l.length)=true:=by
 have hb:=qw l.length ad h2;have e:(2:Int)^jb l.length=((2^jb l.length:Nat):Int):=by simp
 simp only [Db,fz,gZ];refine⟨⟨hb.1,h0⟩,?_⟩;rw [e]
 omega
theorem Cr {l} {i} (h0:0<=i) (hi:i<l.length) (h2:l.length<=4096):qm (xk l) i (l.getD i.toNat Dg.zero) (iw l (jb l.length) i.toNat)=true:=by
 have hl:i.toNat<l.length:=by omega
 unfold qm re;rw [kj,Zh h0 hi h2,av rfl,show l.getD i.toNat Dg.zero=l[i.toNat]by simp [hl],D2 l i.toNat hl h2,Cw]
 rfl
theorem DM {m} {x} (h0:0<=x) (hx:x<m.length) (h2:m.length<=256):qm (kX m) (gp m x).at_ (dD (gp m x).Wz) (gp m x).path=true:=by
 have:=Cr (l:=m.map dD) (i:=x) h0 (by simpa using hx) kQ;rw [fm]at this
 have e:(m.map dD).getD x.toNat Dg.zero=dD (cW m x):=by
  have hl:x.toNat<m.length:=by omega
  simp [cW,hl]
 rw [e]at this;exact this
theorem U0 {m} {x v} (h0:0<=x) (hx:x<m.length) (h2:m.length<=256):re x (dD v) (gp m x).path=kX (fp m x v):=by
 have e:(gp m x).path=iw (m.map dD) (jb m.length) x.toNat:=rfl;have hm:=Zh (l:=m.map dD) (i:=x) h0 (by simpa using hx) kQ;rw [fm]at hm;rw [e];unfold re;rw [kj,hm,av rfl];exact Zk m x v h0 hx h2
theorem Zl (m) (y) (v:Int):(bJ m).toArray.setIfInBounds y (.int .i32 v)=(bJ (m.set y v)).toArray:=by
 simp [bJ,List.map_set]
theorem wW (l) (x) (i) (hx:x<l.length):splice (cM l).toArray (x*4) i.cells=(cM (l.set x i)).toArray:=by
 have key:∀(l:List Ins) (x:Nat),x<l.length->(cM l).take (x*4)++i.cells.toList++(cM l).drop (x*4+4)=cM (l.set x i):=by
  intro l
  induction l with
  |nil=>intro x hx;simp at hx
  |cons a l ih=>
   intro x hx
   cases x with
   |zero=>simp [cM]
   |succ x=>
    have:=ih x (by simpa using hx);show((a.cells.toList++cM l).take ((x+1)*4))++i.cells.toList++((a.cells.toList++cM l).drop ((x+1)*4+4))=a.cells.toList++cM (l.set x i);rw [<-this,show(x+1)*4=4+x*4 by omega,show 4+x*4+4=4+(x*4+4)by omega,List.take_append,List.drop_append,lY (l:=a.cells.toList) aC,List.drop_of_length_le (l:=a.cells.toList) aC];simp
 unfold splice
 simpa using congrArg List.toArray (key l x hx)
theorem Bx {m} {x v} (hm:∀z∈m,ax z) (hv:ax v):∀z∈fp m x v,ax z:=λz hz=>by
 rcases List.mem_or_eq_of_mem_set hz with h|h
 .exact hm z h
 .rw [h];exact hv
theorem RY {m} {x} (hm:∀z∈m,ax z):ax (cW m x):=Rq hm _
theorem L6 {m:List Int} (hm:∀z∈m,ax z):∀(rs a:List Int),(∀z∈a,ax z)->∀z∈nV m rs a,ax z
 |[],_,ha=>ha
 |_::rs,_,ha=>L6 hm rs _ (Bx ha (RY hm))
theorem Lx (m rs:List Int):(rs.map (gp m)).map Wl.at_=rs:=by
 rw [List.map_map];exact List.map_id' rs
theorem abD (s:Ws) (l:List Ins) (n:Nat) (hn:n=l.length) (h2:n<=2048) (x:Nat) (hxn:x<n) (m:List Int) (k:Nat) (hk:k=m.length) (hg:dj x 0 k=true) (i:Ins) (eU:da l x m.length=some i) (Ot:l.getD x ⟨0,0,0,0⟩=i) (iB:∀z∈m,ax z) (w:World) (eN:OpsAt w) (hv:pw w s (jC l x 0 m))
 (p hh:Int) (m1:List Int) (dF:gT l x m=(p,hh,m1)) (zR:0<=p/\p<=1000000) (hhb:0<=hh/\hh<=1000000):
 Calls prog 189 #[.agg s.cells,.int .i64 n] w λe w'=>e=.returned (.tuple #[.agg (mM p hh k (kX m1)).cells,.int .i64 0])/\al w w':=by
 obtain⟨k1,k2,_⟩:=bU hg;obtain⟨R,hR⟩:=nm' (mM p hh k (kX m1));rw [<-hR];have aox:=J hR;clear hR;obtain⟨rs,wx,Ni⟩:∃rs wx,dq l x 0 m=(rs,wx):=⟨_,_,rfl⟩;obtain⟨wV,Wv,YO⟩:=yP l x 0 m;rw [Ni]at wV Wv YO;simp only at wV Wv YO;rw [<-hk]at wV Wv
 have hL:jC l x 0 m=⟨x,0,k,kX m,i,iw (l.map iJ) (jb l.length) x,rs.map (gp m),if 0<=wx then [gp m wx]else []⟩:=by
  unfold jC;rw [af ad,Ni,rF,Ot,hk]
 rw [hL]at hv;obtain⟨e1,e2,e3,e4,e5,_,vr,vw⟩:=hv;obtain⟨spc,aeC,ZS,ahq,alO,EC,BK,ED,Fv,xB,EE,DU,rc,EG⟩:=s;simp only at e1 e2 e3 e4 e5 vr vw;replace e5:=e5.symm;subst e1 e2 e3 e4 e5;have hrn:xB=rs.length:=by simpa using vr.len
 have hwn:rc<=1:=by have:=vw.len;split at this<;>simp at this<;>omega
 obtain⟨M,hM⟩:=nm' (kX m);rw [<-hM];have HMM:=J hM;have HRN:=J hrn;have apJ:xB<=4:=by omega
 have⟨HVR,HVW,WM,HK,HN,zm,HLI,abj,WU,tQ,B_,HG⟩:=J12 vr vw wV hk hn eU Ot iB eN dF Ni hg;clear hL hrn vr vw wV hk hn eU Ot iB eN dF Ni hM YO hg;have x0:al w _:=(dS w (.cells (Ws.cells ⟨x,0,k,M,i,EC,BK,ED,Fv,xB,EE,DU,rc,EG⟩) 74)).alloc (.cells Dg.zero.cells 25);have kV:=aj.alloc (bN w 74 (Ws.cells ⟨x,0,k,M,i,EC,BK,ED,Fv,xB,EE,DU,rc,EG⟩)) (.cells Dg.zero.cells 25);have fU:=aj.d_ (w.alloc (.cells (Ws.cells ⟨x,0,k,M,i,EC,BK,ED,Fv,xB,EE,DU,rc,EG⟩) 74)) 25 Dg.zero.cells (w.heap.size+1) aC;go_enter func189,ntmps189;go_upto_region 3 with(fail);generalize ((w.alloc (.cells (Ws.cells ⟨x,0,k,M,i,EC,BK,ED,Fv,xB,EE,DU,rc,EG⟩) 74)).alloc (.cells Dg.zero.cells 25))=W0 at x0 kV fU⊢;obtain⟨sb,Gn⟩:=nm' w.heap.size;rw [<-Gn]at kV fU⊢;have HSB:=J Gn;clear Gn;refine WB (λw2=>al W0 w2) (.op 0 2 (.op 1 1 (.op 2 2 (.op 3 1 (.op 5 2 (.op 6 1 (.fork 4 (.op 7 2 (.op 8 0 (.op 9 0 .nil))) 8 (.op 4 0 (.op 7 2 (.op 9 0 .nil)))))))))) ?_;refine WC ?_
 (repeat (first|refine oh ?_|((apply c_);(· exact dQ);(· go_simp);(· (intro w1 hS;have d1:=bC (bX kV hS);have d2:=(bX kV hS).lt;go_simp;try with_reducible rfl));refine iR ?_)|((apply cZ);(· exact dQ);(· go_simp);refine iR ?_)))
 have y:al W0 W0.drew:=(kR _ W0).drew;refine gL ?_ ?_
 .obtain⟨w1,Iz,hG1,aB⟩:=RX W0.drew k ad
  refine cw (λK hK=>?_);refine Sk rfl ?_;refine Av (.tmp 25) (.tmp 25) 40 rfl rfl rfl Iz ?_;have y1:al W0 w1:=y.trans aB;refine hK.out _ _ (λ_=>y1) ?_;clear hK K Iz;have AP:W0.heap.size<=W0.drew.heap.size:=eH _;generalize W0.drew.heap.size=gm at hG1 AP⊢;have lG:=hG1.lt;refine o8 ?_;intro K hK;refine hK.out _ _ (λ_=>Kept.alloc y1 _) ?_;clear hK K;refine JQ ?_;have x1:al W0 _:=Kept.alloc y1 (.cells (ai x (some ⟨gm,0,none⟩) k k 0) 47);have hP:=bN w1 47 (ai x (some ⟨gm,0,none⟩) k k 0);have hG:=aj.alloc hG1 (.cells (ai x (some ⟨gm,0,none⟩) k k 0) 47);have qf:W0.heap.size<=w1.heap.size:=y1.size;generalize (w1.alloc (.cells (ai x (some ⟨gm,0,none⟩) k k 0) 47))=W at x1 hP hG⊢;obtain⟨pb,YK⟩:=nm' w1.heap.size;rw [<-YK]at hP qf⊢;have gM:¬pb=gm:=by omega
  clear YK lG hG1;exact aeK
 .refine cw (λK hK=>?_);go_simp
  have y0:al W0 (W0.alloc (.cells (ai 0 none 0 0 0) 47)).drew:=(dS W0 _).drew;have hP0:=aj.drew (bN W0 47 (ai 0 none 0 0 0));refine hK.out _ _ (λ_=>y0) ?_;clear hK K
  repeat refine oh ?_
  obtain⟨w1,Iz,hG1,aB⟩:=RX (W0.alloc (.cells (ai 0 none 0 0 0) 47)).drew k ad;refine cw (λK hK=>?_);refine Sk rfl ?_;refine Av (.tmp 25) (.tmp 25) 40 rfl rfl rfl Iz ?_;have y1:al W0 w1:=y0.trans aB;refine hK.out _ _ (λ_=>y1) ?_;clear hK K Iz;have AP:W0.heap.size<(W0.alloc (.cells (ai 0 none 0 0 0) 47)).drew.heap.size:=by show _<(W0.alloc _).heap.size;simp
  have Fe:=bX hP0 aB;generalize (W0.alloc (.cells (ai 0 none 0 0 0) 47)).drew.heap.size=gm at hG1 AP⊢;have lG:=hG1.lt;have i1:=bH Fe;have i2:=aj.aJ Fe;have i3:=aj.lt Fe;refine JQ ?_;have x1:al W0 (putAt w1 W0.heap.size 0 (ai x (some ⟨gm,0,none⟩) k k 0)):=Kept.putAt y1 _ _ _ (λh=>by omega);have hP:aj (putAt w1 W0.heap.size 0 (ai x (some ⟨gm,0,none⟩) k k 0)) W0.heap.size 47 (ai x (some ⟨gm,0,none⟩) k k 0):=aj.cI Fe _ _;have hG:=bK hG1 (Kept.putAt (kR (·=W0.heap.size) w1) W0.heap.size 0 (ai x (some ⟨gm,0,none⟩) k k 0) (λ_=>rfl)) ad;generalize (putAt w1 W0.heap.size 0 (ai x (some ⟨gm,0,none⟩) k k 0))=W at x1 hP hG⊢;obtain⟨pb,YK⟩:=nm' W0.heap.size;have qf:W0.heap.size<=pb:=by omega
  have gM:¬pb=gm:=by omega
  replace AP:W0.heap.size<=gm:=by omega
  rw [<-YK]at hP⊢;clear YK lG hG1 i1 i2 i3 hP0 Fe;exact aeK
theorem Kr {H B} (h:Rh H B=false):(!H.x0==B.x0||(!H.x1==B.x1||(!H.x2==B.x2||(!H.x3==B.x3||(!H.x4==B.x4||(!H.x5==B.x5||(!H.x6==B.x6||!H.x7==B.x7)))))))=true:=by
 unfold Rh at h;rw [<-Bool.not_eq_true']at h
 simpa [Bool.not_and]using h
theorem J4 (s:Ws) (p B:Dg) (size:Int) (w:World) (hm:s.mem.ok) (IA:1<=size) (pK:size<=2048) (hr:dj s.pc s.halt s.words=true) (gM:Rh (mM s.pc s.halt s.words s.mem) B=false):
 Calls prog 126 #[.agg #[.int .u8 p.x0,.int .u8 p.x1,.int .u8 p.x2,.int .u8 p.x3,.int .u8 p.x4,.int .u8 p.x5,.int .u8 p.x6,.int .u8 p.x7],.int .i64 size,.agg B.cells,.agg s.cells] w λe w'=>e=.returned (.tuple #[.agg Dg.zero.cells,.int .i64 23])/\al w w':=by
 obtain⟨h1,h2,h3,h4,h5,h6⟩:1<=s.words/\s.words<=256/\0<=s.pc/\s.pc<=2048/\0<=s.halt/\s.halt<=2:=by
  simp [dj]at hr
  omega
 have HM:=J hm;have HR:=J hr;clear hm hr;obtain⟨H,hH⟩:=nm' (mM s.pc s.halt s.words s.mem);rw [<-hH]at gM;have HH:=J hH;have mw:=J gM;clear hH gM;refine amw ?_;intro aK cG kV fU;go_wp21;refine kU (vg s _) λw1 aB=>?_;rw [HR.o];have y1:=aK.trans aB;have tY:=bX cG aB;have ed:=bX kV aB;have gW:=bX fU aB;clear aK aB cG kV fU;have pJ:=aj.lt ed;have hlR:=aj.lt gW;go_wp21;refine MG ?_;intro K hK;go_wp21;refine(ji s.pc s.halt s.words s.mem HM.o ad ad ad _).mono ?_;rintro e w2 ⟨e2,bM⟩;replace e2:e=.returned (.agg H.cells):=by rw [e2,HH.o]
 subst e2;have y2:al w1 w2:=((kR _ w1).drew).trans bM;refine hK.out _ _ (λ_=>y2) ?_;clear hK K;refine fc ?_;have nL:=bX gW y2;have Wb:=bH nL;have jG:=aj.aJ nL;rw [Kr mw.o];go_wp21;refine eB results126 rfl rfl dK ke (aj.cI nL _ _) ⟨rfl,?_⟩;exact Kept.putAt (y1.trans y2) _ _ _ (λh=>by omega)
theorem NI (s:Ws) (l:List Ins) (n:Nat) (hn:n=l.length) (h2:n<=2048) (x:Nat) (hxn:x<n) (m:List Int) (k:Nat) (hk:k=m.length) (hg:dj x 0 k=true) (hok:∀i∈l,i.ok) (iB:∀z∈m,ax z) (w:World) (eN:OpsAt w) (hv:pw w s (jC l x 0 m)):
 Calls prog 126 #[.agg (jz l).cells,.int .i64 n,.agg (mM x 0 k (kX m)).cells,.agg s.cells] w λe w'=>e=.returned (.tuple #[.agg (zY l x 0 m).cells,.int .i64 0])/\al w w':=by
 obtain⟨k1,k2,_⟩:=bU hg;have akI:kr (x:Int) 0 m:=⟨by rw [<-hk];exact hg,iB⟩;have eU:=G2 (c:=l) (by rw [<-hn];exact h2) akI;obtain⟨p,hh,m1,dF⟩:∃p hh m1,gT l x m=(p,hh,m1):=⟨_,_,_,rfl⟩;rw [dF]at eU;obtain⟨YH,adW⟩:=eU;obtain⟨_,_,q3,q4,q5,q6⟩:=bU YH.right;simp only at q3 q4 q5 q6 adW;obtain⟨R,hR⟩:=nm' (zY l x 0 m);have hR':R=mM p hh k (kX m1):=by rw [hR,zY,jO,av rfl,dF,hk]
 rw [<-hR];clear hR akI YH;have o_:x<l.length:=by omega
 obtain⟨i,Ot⟩:∃i,l.getD x ⟨0,0,0,0⟩=i:=⟨_,rfl⟩;have hlx:l[x]=i:=by rw [<-Ot];simp [o_]
 have Yt:i.ok:=by rw [<-hlx];exact hok _ (cK o_)
 have hL:jC l x 0 m=⟨x,0,k,kX m,i,iw (l.map iJ) (jb l.length) x,(dq l x 0 m).1.map (gp m),if 0<=(dq l x 0 m).2 then [gp m (dq l x 0 m).2]else []⟩:=by
  unfold jC;rw [af ad,rF,Ot,hk]
 have hvv:=hv;rw [hL]at hv;obtain⟨e1,e2,e3,e4,e5,vp,vr,vw⟩:=hv;obtain⟨spc,aeC,ZS,ahq,alO,EC,BK,ED,Fv,xB,EE,DU,rc,EG⟩:=s;simp only at e1 e2 e3 e4 e5 vp vr vw;replace e5:=e5.symm;obtain⟨M,hM⟩:=nm' (kX m);rw [<-hM]at e4⊢;replace e4:=e4.symm;subst e1 e2 e3 e4 e5;obtain⟨pb,po,hp⟩:=vp;have JN:BK=jb n:=by rw [hp.len,kj,hn]
 have KR:qm (jz l) (x:Int) (iJ i) (iw (l.map iJ) (jb l.length) x)=true:=by
  have:=Cr (l:=l.map iJ) (i:=(x:Int)) ad (by simpa using o_) kQ;rw [fm,rF]at this;rw [show(l.map iJ).getD x Dg.zero=iJ i by simp [o_,hlx]]at this;exact this
 obtain⟨C,hC⟩:=nm' (jz l);rw [<-hC]at KR⊢;obtain⟨Pt,hPt⟩:=nm' (iw (l.map iJ) (jb l.length) x);rw [<-hPt]at KR hp;have⟨HIL,lX,iq,FL,HM,HG,HVV,HVR,HVW,HK,HN,HLX,HLI,abj,WU,tQ,HR⟩:=J17 Yt KR hp JN hM hg hvv vr vw hk hn hlx Ot iB eN dF hR';have ajy:M.ok:=by rw [hM];exact kJ _ _
 have HMO:=J ajy;clear Yt KR hp JN hM hg hvv vr vw hk hn hlx Ot iB eN dF hR' ajy hL hC hPt adW hok;obtain⟨s,hs⟩:∃s:Ws,s=⟨x,0,k,M,i,EC,BK,ED,Fv,xB,EE,DU,rc,EG⟩:=⟨_,rfl⟩;obtain⟨B,hB⟩:=nm' (mM x 0 k M);rw [<-hB];have HB:=J hB;clear hB hs;have aK:al w _:=(((dS w (.cells C.cells 25)).alloc (.cells B.cells 25)).alloc (.cells (Ws.cells ⟨x,0,k,M,i,EC,BK,ED,Fv,xB,EE,DU,rc,EG⟩) 74)).alloc (.cells Dg.zero.cells 25);have hC0:aj _ w.heap.size 25 C.cells:=aj.alloc (aj.alloc (aj.alloc (bN w _ C.cells) (.cells B.cells 25)) (.cells (Ws.cells ⟨x,0,k,M,i,EC,BK,ED,Fv,xB,EE,DU,rc,EG⟩) 74)) (.cells Dg.zero.cells 25);have cG:aj _ (w.heap.size+1) 25 B.cells:=aj.alloc (aj.alloc (aj.d_ (w.alloc (.cells C.cells 25)) _ B.cells _ aC) (.cells (Ws.cells ⟨x,0,k,M,i,EC,BK,ED,Fv,xB,EE,DU,rc,EG⟩) 74)) (.cells Dg.zero.cells 25);have kV:aj _ (w.heap.size+1+1) 74 (Ws.cells ⟨x,0,k,M,i,EC,BK,ED,Fv,xB,EE,DU,rc,EG⟩):=aj.alloc (aj.d_ ((w.alloc (.cells C.cells 25)).alloc (.cells B.cells 25)) _ (Ws.cells ⟨x,0,k,M,i,EC,BK,ED,Fv,xB,EE,DU,rc,EG⟩) _ aC) (.cells Dg.zero.cells 25);have fU:aj _ (w.heap.size+1+1+1) 25 Dg.zero.cells:=aj.d_ (((w.alloc (.cells C.cells 25)).alloc (.cells B.cells 25)).alloc (.cells (Ws.cells ⟨x,0,k,M,i,EC,BK,ED,Fv,xB,EE,DU,rc,EG⟩) 74)) _ _ _ aC;go_enter func126,ntmps126;go_wp21;refine kU (vg ⟨x,0,k,M,i,EC,BK,ED,Fv,xB,EE,DU,rc,EG⟩ _) λw1 aB=>?_;simp only;rw [HG.o];have y1:=aK.trans aB;have hC1:=bX hC0 aB;have tY:=bX cG aB;have ed:=bX kV aB;have gW:=bX fU aB;clear aK aB cG kV fU hC0;have pJ:=aj.lt ed;have hlR:=aj.lt gW;go_wp21;refine MG ?_;intro K hK;go_wp21;refine(ji x 0 k M HMO.o ad ad ad _).mono ?_;rintro e w2 ⟨e2,bM⟩;replace e2:e=.returned (.agg B.cells):=by rw [e2,HB.o]
 subst e2;have y2:al w1 w2:=((kR _ w1).drew).trans bM;refine hK.out _ _ (λ_=>y2) ?_;clear hK K;refine fc ?_;have TO:=bX hC1 y2;have gX:=bX ed y2;have nL:=bX gW y2;have BR:=y1.trans y2;have hc2:=bC gX;have apO:(x:Int)<n:=by omega
 clear tY hC1 ed gW y1 y2 bM;go_upto_region 9 with(fail);clear hc2;obtain⟨Hn,hHn⟩:=nm' (jb n);have apI:BK=Hn:=FL.o.trans hHn.symm;have HHN:=J hHn;clear hHn;subst apI;obtain⟨sb,Gn⟩:=nm' w.heap.size;rw [<-Gn]at TO gX nL pJ hlR⊢;have HSB:=J Gn;clear Gn;have hlC:=TO.lt;refine eW (λw3=>al w2 w3) [(0,2),(1,1),(2,2),(3,2),(4,0),(5,2),(6,2),(7,1),(8,2),(9,1),(10,2),(11,1),(13,2),(14,1),(12,0),(15,0),(16,2),(17,2)] ?_;refine eX ?_
 repeat first|refine bV ?_|refine cF dQ zb1 ?_|refine cD dQ ?_
 have yW:al w2 w2.drew:=(kR _ w2).drew;refine ap (λK hK=>?_);go_simp;go_wp21;refine(th n ad ad _).mono ?_;rintro e w3 ⟨rfl,rfl⟩;rw [<-HHN.o];refine hK.out _ _ (λ_=>yW) ?_;clear hK K
 repeat first|refine bV ?_|refine cF yW zb1 ?_|refine cD yW ?_
 refine ap (λK hK=>?_);go_simp;go_wp21;refine kU (Gp i HIL.o _) λw3 ea=>?_;have y3:al w2 w3:=yW.trans ea;refine hK.out _ _ (λ_=>y3) ?_;clear hK K;refine kZ ?_;intro K hK;go_wp21;refine kU (DV C x (iJ i) (Ld _) EC pb po BK ED Pt _ (iq.o.ext (BR.trans y3))) λw4 eV=>?_;rw [lX.o];have y4:al w2 w4:=y3.trans eV;refine hK.out _ _ (λ_=>y4) ?_;clear hK K;refine fc ?_;have rU:=bX gX y4;have KN:=bX nL y4;have y14:=BR.trans y4;have i1:=bC rU;have i2:=bH rU;have i3:=bG rU;clear TO gX nL BR ea y3 eV yW;go_wp21;have Wf:=C1 i n k w4 (WU.o.ext y14)
 cases YN:aW i n k
 .rw [YN]at Wf
  have HRI:=J YN;clear YN;refine Wf.mono ?_;rintro e w5 ⟨rfl,iY⟩;clear Wf;have hS5:=bX rU iY;have uM:=bX KN iY
  have K2:da l x m.length=none:=by
   unfold da;rw [rF,List.getElem?_eq_getElem o_,HLX.o,<-HN.o,<-HK.o];show(if aW i n k=true then some i else none)=_;rw [af (by rw [HRI.o];simp)]
  have fY:dq l x 0 m=([],-1):=by simp only [dq,K2];rfl
  have akR:(p,hh,m1)=((x:Int),(2:Int),m):=by
   rw [<-tQ.o];unfold gT;rw [K2]
  have hvr:=HVR.o.len;have hvw:=HVW.o.len;rw [fY]at hvr hvw;simp at hvr hvw
  have hRR:R=Ws.same ⟨x,0,k,M,i,EC,BK,ED,Fv,xB,EE,DU,rc,EG⟩:=by
   rw [HR.o];injection akR with e1 e2;injection e2 with e2 e3;rw [e1,e2,e3,<-HM.o]
   rfl
  have adT:Ws.bare ⟨x,0,k,M,i,EC,BK,ED,Fv,xB,EE,DU,rc,EG⟩=true:=by
   simp [Ws.bare,hvr,hvw]
  have qd:=J hRR;have HBA:=J adT;clear K2 fY akR hvr hvw hRR adT i1 i2 i3;have i2:=bH hS5;have i3:=bG hS5;go_wp21;refine kU (GV ⟨x,0,k,M,i,EC,BK,ED,Fv,xB,EE,DU,rc,EG⟩ _) λw6 qz=>?_;rw [HBA.o];have Oe:=bX hS5 qz;have JH:=bX uM qz;clear i2 i3;have i2:=bH Oe;have i3:=bG Oe;go_wp21;have YP:=G_ ⟨x,0,k,M,i,EC,BK,ED,Fv,xB,EE,DU,rc,EG⟩ HMO.o HG.o w6;rw [<-qd.o]at YP;refine YP.mono ?_;rintro e w7 ⟨rfl,Bv⟩;have V5:=bX JH Bv;have i4:=bH V5;have i5:=aj.aJ V5;clear i2 i3 YP;go_wp21;refine eB results126 rfl rfl dK ke (aj.cI V5 _ _) ⟨rfl,?_⟩;exact Kept.putAt (((y14.trans iY).trans qz).trans Bv) _ _ _ (λh=>by have:=HSB.o;omega)
 .rw [YN]at Wf
  have HRI:=J YN;clear YN;refine Wf.mono ?_;rintro e w5 ⟨rfl,iY⟩;clear Wf;have hS5:=bX rU iY;have uM:=bX KN iY
  have aen:da l x m.length=some i:=by
   unfold da;rw [rF,List.getElem?_eq_getElem o_,HLX.o,<-HN.o,<-HK.o];show(if aW i n k=true then some i else none)=_;rw [av HRI.o]
  have y15:=y14.trans iY;have pG:=abD ⟨x,0,k,M,i,EC,BK,ED,Fv,xB,EE,DU,rc,EG⟩ l n HN.o h2 x hxn m k HK.o HG.o i aen HLI.o abj.o w5 (WU.o.ext y15) (HVV.o.ext y15) p hh m1 tQ.o ad ad;rw [<-HR.o]at pG;have HDN:=J pG;clear aen pG i1 i2 i3;have i2:=bH hS5;have i3:=bG hS5;go_wp21;refine HDN.o.mono ?_;rintro e w6 ⟨rfl,qz⟩;have JH:=bX uM qz;have i4:=bH JH;have i5:=aj.aJ JH;clear i2 i3;go_wp21;refine eB results126 rfl rfl dK ke (aj.cI JH _ _) ⟨rfl,?_⟩;exact Kept.putAt (y15.trans qz) _ _ _ (λh=>by have:=HSB.o;omega)
def NH (l:List Ins) (pc halt:Int) (m:List Int) (B:Dg):Dg×Int:=if Rh (j0 pc halt m) B=true then(zY l pc halt m,0)else(Dg.zero,23)
theorem NJ (s:Ws) (l:List Ins) (n:Nat) (hn:n=l.length) (h1:1<=n) (h2:n<=2048) (pc halt:Int) (m:List Int) (B:Dg) (hO:kr pc halt m) (hok:∀i∈l,i.ok) (w:World) (eN:OpsAt w) (hv:pw w s (jC l pc halt m)):
 Calls prog 126 #[.agg (jz l).cells,.int .i64 n,.agg B.cells,.agg s.cells] w λe w'=>e=.returned (.tuple #[.agg (NH l pc halt m B).1.cells,.int .i64 (NH l pc halt m B).2])/\al w w':=by
 obtain⟨_,_,h3,h4,h5,h6⟩:=bU hO.right;have hvv:=hv;obtain⟨e1,e2,e3,e4,e5,vp,vr,vw⟩:=hv
 have hq:(jC l pc halt m).pc=pc/\(jC l pc halt m).halt=halt/\(jC l pc halt m).words=m.length/\(jC l pc halt m).mem=kX m:=by
  unfold jC
  split<;>exact⟨rfl,rfl,rfl,rfl⟩
 rw [hq.1]at e1;rw [hq.2.1]at e2;rw [hq.2.2.1]at e3;rw [hq.2.2.2]at e4;have bS:dj s.pc s.halt s.words=true:=by rw [e1,e2,e3];exact hO.right
 have hm:s.mem.ok:=by rw [e4];exact kJ _ _
 have adV:mM s.pc s.halt s.words s.mem=j0 pc halt m:=by rw [e1,e2,e3,e4];rfl
 unfold NH
 cases hb:Rh (j0 pc halt m) B
 .rw [af aC]
  exact J4 s (jz l) B n w hm ad ad bS (by rw [adV];exact hb)
 .rw [av rfl]
  obtain rfl:=(Ii _ _).1 hb
  by_cases dF:¬halt=0∨(l.length:Int)<=pc
  .have hL:jC l pc halt m=⟨pc,halt,m.length,kX m,⟨0,0,0,0⟩,[],[],[]⟩:=by unfold jC;rw [av dF]
   rw [hL]at vp vr vw e5;have hp:s.pn=0:=by obtain⟨_,_,hp⟩:=vp;exact hp.len
   have zT:s.rn=0:=vr.len;have qg:s.wn=0:=vw.len
   have akO:s.same=zY l pc halt m:=by
    unfold Ws.same zY jO;rw [e1,e2,e3,e4]
    by_cases h0:halt=0
    .subst h0
     have K2:da l pc m.length=none:=by
      unfold da;rw [List.getElem?_eq_none ad]
     simp only [av,gT,K2]
    .rw [af h0,af h0]
   have:=J5 s (jz l) n w hm ad ad bS (by unfold Ws.stays;rw [e1,e2,hn];exact dF) e5 hp (by simp [Ws.bare,zT,qg]);rw [adV,akO]at this;exact this
  .obtain⟨x,rfl⟩:∃x:Nat,pc=x:=⟨pc.toNat,by omega⟩
   obtain rfl:halt=0:=by omega
   exact NI s l n hn h2 x ad m m.length rfl hO.right hok hO.Dd w eN hvv
theorem XE (p:Dg) (size:Int) (B Z:Dg) (cs:Array Value) (gu:(cs.toList.take 18).toArray=cs) (hn:18<=cs.size) (D:Dg) (e0:Int) (w:World)
 (hA:∀w',al w w'->Calls prog 126 #[.agg #[.int .u8 p.x0,.int .u8 p.x1,.int .u8 p.x2,.int .u8 p.x3,.int .u8 p.x4,.int .u8 p.x5,.int .u8 p.x6,.int .u8 p.x7],.int .i64 size,.agg #[.int .u8 B.x0,.int .u8 B.x1,.int .u8 B.x2,.int .u8 B.x3,.int .u8 B.x4,.int .u8 B.x5,.int .u8 B.x6,.int .u8 B.x7],.agg cs] w' λe uf=>e=.returned (.tuple #[.agg D.cells,.int .i64 e0])/\al w' uf):
 Calls prog 81 #[.agg #[.int .u8 p.x0,.int .u8 p.x1,.int .u8 p.x2,.int .u8 p.x3,.int .u8 p.x4,.int .u8 p.x5,.int .u8 p.x6,.int .u8 p.x7],.int .i64 size,.agg #[.int .u8 B.x0,.int .u8 B.x1,.int .u8 B.x2,.int .u8 B.x3,.int .u8 B.x4,.int .u8 B.x5,.int .u8 B.x6,.int .u8 B.x7],.agg #[.int .u8 Z.x0,.int .u8 Z.x1,.int .u8 Z.x2,.int .u8 Z.x3,.int .u8 Z.x4,.int .u8 Z.x5,.int .u8 Z.x6,.int .u8 Z.x7],.agg cs] w λe w'=>e=.returned (.int .i64 (if e0=0 then(if Rh D Z=true then 0 else 23)else e0))/\al w w':=by
 have HA:=J hA;clear hA;obtain⟨r,hr⟩:∃r:Int,r=(if e0=0 then(if Rh D Z=true then 0 else 23)else e0):=⟨_,rfl⟩;rw [<-hr];have HR:=J hr;clear hr;have aK:al w _:=(((dS w (.cells #[.int .u8 p.x0,.int .u8 p.x1,.int .u8 p.x2,.int .u8 p.x3,.int .u8 p.x4,.int .u8 p.x5,.int .u8 p.x6,.int .u8 p.x7] 25)).alloc (.cells B.cells 25)).alloc (.cells Z.cells 25)).alloc (.cells cs 74);have hZ0:aj _ (w.heap.size+1+1) 25 Z.cells:=aj.alloc (aj.d_ ((w.alloc (.cells #[.int .u8 p.x0,.int .u8 p.x1,.int .u8 p.x2,.int .u8 p.x3,.int .u8 p.x4,.int .u8 p.x5,.int .u8 p.x6,.int .u8 p.x7] 25)).alloc (.cells B.cells 25)) _ Z.cells _ aC) (.cells cs 74);go_enter func81,ntmps81;go_wp21;refine kU (HA.o _ aK) λw1 aB=>?_;have Yf:=bX hZ0 aB;have KU:=bH Yf;have Nc:=bG Yf;have Bt:=aj.lt Yf
 by_cases he:e0=0
 .subst he
  by_cases hb:Rh D Z=true
  .have hr:=HR.o
   rw [av rfl,av hb]at hr;obtain rfl:=(Ii _ _).1 hb;subst hr;clear hb HR;go_wp21;go_ret;exact⟨rfl,(aK.trans aB).alloc _⟩
  .have hr:=HR.o
   rw [av rfl,af hb]at hr;subst hr;have HB:=J (Kr (H:=D) (B:=Z) (by simpa using hb));clear hb HR
   go_upto_if 26 with(fail)
   rw [HB.o];go_wp21;go_ret;exact⟨rfl,(aK.trans aB).alloc _⟩
 .have hr:=HR.o
  rw [af he]at hr;subst hr;have Yn:(r !=0)=true:=by simpa using he
  clear he HR;go_wp21;go_ret;exact⟨rfl,(aK.trans aB).alloc _⟩
theorem Bn {w} {p} {T E} {cs} (hb:aj w p T cs) (hE:¬T=E):∀du fr,¬w.heap[p]?=some (.cells du E fr):=λdu fr e=>by
 unfold aj at hb;rw [e]at hb;injection hb with hb;injection hb with _ hb _;exact hE hb.symm
def aby (l:List Ins) (r:MX) (B Z:Dg):Int:=if (NH l r.1 r.2.1 r.2.2 B).2=0 then(if Rh (NH l r.1 r.2.1 r.2.2 B).1 Z=true then 0 else 23)else(NH l r.1 r.2.1 r.2.2 B).2
theorem NV (s:Ws) (l:List Ins) (n:Nat) (hn:n=l.length) (h1:1<=n) (h2:n<=2048) (r:MX) (B Z:Dg) (hO:kr r.1 r.2.1 r.2.2) (hok:∀i∈l,i.ok) (w:World) (eN:OpsAt w) (hv:pw w s (jC l r.1 r.2.1 r.2.2)):
 Calls prog 81 #[.agg (jz l).cells,.int .i64 n,.agg B.cells,.agg Z.cells,.agg s.cells] w λe w'=>e=.returned (.int .i64 (aby l r B Z))/\al w w':=
 XE (jz l) n B Z s.cells rfl aC _ _ w (λw' hx=>NJ s l n hn h1 h2 r.1 r.2.1 r.2.2 B hO hok w' (eN.ext hx) (hv.ext hx))
abbrev aiZ (l:List Ins):World->Ws->MX->Prop:=λw s r=>pw w s (jC l r.1 r.2.1 r.2.2)
structure sS (w:World) (l:List Ins) (r0:MX) (g k:Nat) (ss:List Ws):Prop where
 row:Row w g 0 (b_ Ws.cells ss)
 ty:∃du,w.heap[g]?=some (.cells du 74 (0,0))
 all:vJ (aiZ l) w ss ((List.range k).map (gU l r0))
theorem sS.kept {S} {w w'} {l} {g k} (h:sS w l r0 g k ss) (hx:Kept S w w') (hs:∀i,S i->∀du fr,¬w.heap[i]?=some (.cells du 25 fr)) (K7:∀i,S i->∀du fr,¬w.heap[i]?=some (.cells du 271 fr)) (pK:∀i,S i->∀du fr,¬w.heap[i]?=some (.cells du 74 fr)):sS w' l r0 g k ss:=by
 obtain⟨h1,⟨du,h2⟩,h3⟩:=h;have hg:¬S g:=λhS=>pK g hS _ _ h2;exact⟨h1.kept hx hg,⟨du,(hx.block g h1.lt hg).trans h2⟩,h3.mono (λa b h=>h.kept hx hs K7)⟩
theorem sS.ext {w w'} {l} {g k} (h:sS w l r0 g k ss) (hx:al w w'):sS w' l r0 g k ss:=
 h.kept hx (λ_ f=>f.elim) (λ_ f=>f.elim) (λ_ f=>f.elim)
section
variable (l:List Ins) (hl:l.length<=2048) (r:MX) (hO:kr r.1 r.2.1 r.2.2)
include l hl r hO
theorem XF:aby l r (j0 r.1 r.2.1 r.2.2) (j0 (jO l r.1 r.2.1 r.2.2).1 (jO l r.1 r.2.1 r.2.2).2.1 (jO l r.1 r.2.1 r.2.2).2.2)=0:=by
 unfold aby NH;rw [Cw,av rfl,LC hl hO,av rfl,Cw,av rfl]
theorem Tg (j:Nat):aby l (gU l r j) (ru l r j) (ru l r (j+1))=0:=XF l hl _ (nw hl hO j).1
end
end Mc
section
open Sq Mc
variable{Ar:List Int}
theorem alC (a b:List Int):bJ (a++b)=bJ a++bJ b:=by simp [bJ]
theorem Lc:(prog.info? 21).map (·.size)=some 1:=by kernel_rfl
theorem Rf (w) (g o wI Ie) (du:List Int) (hb:aj w g 21 (bJ du).toArray) (N:Nat) (s:iu) (l:List Int) (hm:mR w N s l) (rY:o+l.length<=du.length) (hd:l.length<=wI):
 ∃w',(∀ty,(Builtin.copy_ #[40,40] ty #[.slice (some ⟨g,o,none⟩) wI Ie,s.v]).run prog w=.ok (goInt l.length) w')/\aj w' g 21 (bJ (du.take o++l++du.drop (o+l.length))).toArray/\Kept (·=g) w w':=by
 obtain⟨h1,h2,b,off,h3,h4⟩:=hm;obtain⟨A,n,c⟩:=s;simp only at h1 h3 h4
 by_cases h0:0<n
 .obtain⟨-,hr⟩:=h4 h0
  rw [h3 h0];refine⟨putAt w g o (bJ l).toArray,λty=>?_,?_,Kept.putAt (kR _ _) _ _ _ (λ_=>rfl)⟩
  .have hlen:(bJ l).length=Nat.min n wI:=by rw [fZ];show l.length=min n wI;omega
   have h:=run_copy_row prog w 40 40 ty 21 g o wI Ie ⟨b,off,none⟩ n c (bJ du).toArray 21 (bJ l) underlying40 Lc hb hlen (λj v hv=>by
    have hj:j<l.length:=by
     have:=(List.getElem?_eq_some_iff.1 hv).1
     rwa [fZ]at this
    have hq:=hr.mem j hj;have e:(⟨b,off,none⟩:Addr).add j=⟨b,off+j,none⟩:=by unfold Addr.add;split<;>simp_all
    rw [e,hq,<-hv];simp [bJ,hj]) (by simpa [fZ]using rY) (nj (Dc l))
   rw [fZ]at h;show(Builtin.copy_ #[40,40] ty #[.slice (some ⟨g,o,none⟩) wI Ie,.slice (some ⟨b,off,none⟩) n c]).run prog w=_;rw [h,mG hb];simp [splice,fZ]
  .have hp:=aj.cI hb o (bJ l).toArray
   have e:splice (bJ du).toArray o (bJ l).toArray=(bJ (du.take o++l++du.drop (o+l.length))).toArray:=by
    simp [splice,bJ,List.map_take,List.map_drop]
   rw [e]at hp;exact hp
 .have AQ:l=[]:=List.length_eq_zero_iff.1 ad
  subst AQ;have hn:n=0:=by omega
  subst hn;refine⟨w,λty=>?_,?_,kR _ _⟩
  .exact run_copy_none (P:=prog) w 40 40 ty 21 _ _ _ _ _ _ underlying40 Lc (by show min 0 wI=0;omega)
  .have e:du.take o++[]++du.drop (o+([]:List Int).length)=du:=by simp
   rw [e];exact hb
theorem Se (W) (g n l) (h:l<n):(Instr.slice 40 (.slice (some ⟨g,0,none⟩) n n) (some (.int .i64 (l:Int))) none none).run prog W=.ok (.slice (some ⟨g,l,none⟩) (n - l) (n - l)) W:=by
 rw [Lib.run_slice_tailV W 40 21 underlying40 (λw=>qN bd w) g n l ad];unfold Lib.tailV;rw [af ad]
def fR (p:Pr) (part:Int) (V Ar:List Int):List Int:=(if part=0 then dM p.vars else V)++(Ar++List.replicate (49 - Ar.length) 0)
def bI (p:Pr):Nat:=(cells p.vars+49).toNat
inductive rH (p:Pr) (part:Int) (V Ar:List Int) (w w':World):Ending->Prop
 |bad (h:¬gx p part V Ar=0):rH p part V Ar w w' (.returned (.tuple #[.agg (ai 0 none 0 0 0),.int .i64 (gx p part V Ar)]))
 |ok (h:gx p part V Ar=0) (g:Nat) (hg:w.heap.size<=g) (hb:aj w' g 21 (bJ (fR p part V Ar)).toArray):
  rH p part V Ar w w' (.returned (.tuple #[.agg (ai 0 (some ⟨g,0,none⟩) (bI p) (bI p) 0),.int .i64 0]))
theorem rH.ajf {p} {part} {V} {w w'} {F} (e:F=gx p part V Ar) (h:¬F=0):rH p part V Ar w w' (.returned (.tuple #[.agg (ai 0 none 0 0 0),.int .i64 F])):=by
 subst e;exact .bad h
theorem Gb {p} (h:Bd p):∀x∈dM p.vars,ax x:=by
 have hv:=ow p.vars [] h.vars;generalize p.vars=l at hv
 induction l with
 |nil=>intro x hx;simp [dM]at hx
 |cons v r ih=>
  intro x hx;rw [dM,mK,List.mem_replicate]at hx
  rcases hx with⟨-,e⟩|hx
  .have:=hv v (List.mem_cons_self ..)
   subst e;unfold ax at*
   omega
  .exact ih (λu hu=>hv u (List.mem_cons_of_mem _ hu)) x hx
theorem CF {p} {part} {V} (h:gx p part V Ar=0):0<=part/\part<=4/\(V.length:Int)=jS p part/\Ar.length=fX p part/\(part=2->E8 p.params Ar=false):=by
 unfold gx at h
 split at h
 .omega
 .split at h
  .omega
  .rename_i h1 h2
   refine⟨by omega,by omega,Classical.byContradiction λq=>h2 (Or.inl q),Classical.byContradiction λq=>h2 (Or.inr q),λe=>?_⟩
   split at h
   .omega
   .rename_i h3
    cases hb:E8 p.params Ar with
    |false=>rfl
    |true=>exact absurd ⟨e,hb⟩ h3
theorem qp (cb N) (k) (p) (part) (vs ag) (V Ar) (w:World) (hN:N<=w.heap.size) (hC:gj w N cb k p) (hv:mR w N vs V) (ha:mR w N ag Ar) (hk:Bd p):
 Calls prog 46 #[.pointer (some ⟨cb,0,none⟩),.int .i64 part,vs.v,ag.v] w λe w'=>al w w'/\rH p part V Ar w w' e:=by
 have⟨HC,HV,HA,HN,HK⟩:=J5' hC hv ha hN hk;have rY:=λw' (y:al w w')=>Te cb N k p part vs ag V Ar w' (ay hN y.size) (hC.ext y) (hv.ext y) (ha.ext y) hk.np;obtain⟨F,hF⟩:=nm' (gx p part V Ar);rw [<-hF]at rY;have HF:=J hF;clear hC hv ha hN hF hk;have y0:=dz w (.cells #[.int .i64 0,.slice none 0 0,.int .i64 0] 47);have b0:=bN w 47 #[.int .i64 0,.slice none 0 0,.int .i64 0];go_enter func46,ntmps46;go_upto_region 1 with(fail);generalize (w.alloc (.cells #[.int .i64 0,.slice none 0 0,.int .i64 0] 47))=W1 at y0 b0⊢;generalize pg:(w:World).heap.size=rb at b0⊢;have⟨ET,vt,bT⟩:=J3' pg b0 y0;clear b0 y0 pg;go_wp21;refine kU (rY _ bT.o) λw2 y2=>?_;clear rY;have fg:=J y2;have mP:=J (bX vt.o y2);clear y2
 by_cases h0:F=0
 rotate_left
 .have gM:(F !=0)=true:=bne_iff_ne.2 h0
  have HF0:=J h0;clear h0;have l1:=bH mP.o;have l2:=aj.aJ mP.o;have l3:=mP.o.lt;go_wp21;have kp:Kept (·=rb) w2 (putAt w2 rb 0 #[.int .i64 0,.slice none 0 0,.int .i64 0]):=Kept.putAt (kR _ _) _ 0 _ (λ_=>rfl);refine eB (t:=47) (g:=rb) (cs:=ai 0 none 0 0 0) results46 rfl rfl nE Aw (by exact aj.cI mP.o 0 _) ⟨?_,.ajf HF.o HF0.o⟩;exact(bT.o.trans fg.o).trans' kp (λi hi e=>by have:=ET.o;omega)
 have HF0:=J (show gx p part V Ar=0 by rw [<-HF.o];exact h0);rw [h0];clear h0;obtain⟨Ng,zQ,hVl,hAl,hAb⟩:=CF HF0.o;have HVL:=J hVl;have Hq:=J (show Ar.length<=4 by have:=HK.o.np;unfold fX at hAl;split at hAl;omega;split at hAl<;>omega);clear hVl hAl hAb Ng zQ;have hcp:=eS p.vars;have ajO:=HK.o.cells;have hn:k.cells+49=((bI p:Nat):Int):=by rw [HC.o.kc];unfold bI;omega
 have⟨Nu,zj,BT⟩:=J3' (show(bI p:Int)=cells p.vars+49 by unfold bI;omega) HC.o.kc (df hcp ajO);have apx:=HC.o.kc;clear hcp ajO;have SN:=J hn;clear hn apx;have c2:=HC.o.ext (bT.o.trans fg.o);go_upto_region 4 with(fail);have OC:=uH cb k w2 c2.box (by have:=BT.o;have:=zj.o;omega);rw [SN.o]at OC;go_wp21;refine OC.mono ?_;rintro e w3 ⟨rfl,rfl⟩;clear OC;go_wp21;refine(Zm (bI p) (by have:=Nu.o;have:=BT.o;omega) (by have:=Nu.o;have:=BT.o;omega) _).mono ?_;rintro e w3 ⟨g,rfl,Nb,y3,AP⟩;have y4:=dz w3 (.cells #[.int .i64 0,.slice (some ⟨g,0,none⟩) (bI p) (bI p),.int .i64 0] 47);have b4:=bN w3 47 #[.int .i64 0,.slice (some ⟨g,0,none⟩) (bI p) (bI p),.int .i64 0];go_upto_region 5 with(fail);generalize (w3.alloc (.cells #[.int .i64 0,.slice (some ⟨g,0,none⟩) (bI p) (bI p),.int .i64 0] 47))=w4 at y4 b4⊢;have HGL:=J (show g<w3.heap.size from Nb.lt);have mv:=J (bX Nb y4);generalize Gn:(w3:World).heap.size=sb at b4 HGL⊢;have⟨kB,ug,HSB,sM,HRL⟩:=J5' (y3.trans y4) (bX mP.o (y3.trans y4)) b4 (show w.heap.size<=g by have:=bT.o.size;have:=fg.o.size;omega) (show rb<g by have:=mP.o.lt;omega);clear Nb y3 AP y4 b4 Gn c2;have i1:=bC HSB.o;have i2:=HSB.o.lt
 by_cases Ng:part=0
 .have HP0:=J Ng
  have hpe:(part==0)=true:=by simp [Ng]
  clear Ng;have q1:=bC (HC.o.ext ((bT.o.trans fg.o).trans kB.o)).box;have q2:=(HC.o.ext ((bT.o.trans fg.o).trans kB.o)).box.lt;go_upto_region 9 with(fail);clear q1 q2;have o_:((dM p.vars).length:Int)=cells p.vars:=qs p.vars;have Nf:mR w4 N k.first (dM p.vars):=vP.words (HC.o.ext ((bT.o.trans fg.o).trans kB.o)).first (Gb HK.o);obtain⟨w5,Wr,Fi,mY⟩:=Rf w4 g 0 (bI p) (bI p) (List.replicate (bI p) 0) mv.o N k.first (dM p.vars) Nf (by have:=Nu.o;simp;omega) (by have:=Nu.o;omega)
  have e5:(List.replicate (bI p) (0:Int)).take 0++(dM p.vars)++(List.replicate (bI p) 0).drop (0+(dM p.vars).length)=(dM p.vars)++List.replicate 49 0:=by
   have:=Nu.o;rw [List.drop_replicate,List.take_zero,nB,show bI p - (0+(dM p.vars).length)=49 by omega]
  rw [e5]at Fi;have⟨Bg,HXL,tN,vz⟩:=J4' (show fR p part V Ar=(dM p.vars)++(Ar++List.replicate (49 - Ar.length) 0)from by unfold fR;rw [av HP0.o]) o_ Fi mY;have vH:¬sb=g:=by have:=HGL.o;omega
  clear Nf e5 Fi mY o_;go_upto_region 9 with(fail);go_step
  iterate 3 refine kT ?_
  refine Lib.wpList_copy_run _ rfl _ _ 40 40 rfl _ _ rfl rfl (Wr _) ?_;clear Wr i1 i2;have⟨QS,MZ,HA5⟩:=J3' (bK HSB.o vz.o vH) (bK (HC.o.ext ((bT.o.trans fg.o).trans kB.o)).box vz.o (by have:=sM.o;have:=HC.o.lt;have:=HN.o;omega)) (mR.kept (HA.o.ext ((bT.o.trans fg.o).trans kB.o)) vz.o (λi hi e=>by have:=sM.o;have:=HN.o;omega));go_upto_region 10 with(fail);refine eW (λwz=>al w5 wz) [(0,2),(1,1),(2,2),(3,2),(4,2),(5,1),(6,2),(7,2),(8,2),(9,0)] ?_;refine eX ?_;have yd:al w5 w5.drew:=(kR _ w5).drew;have hkw:IntKind.i64.wrap k.cells=k.cells:=wrap_i64 (by have:=BT.o;have:=zj.o;unfold aI;omega)
  repeat first|refine bV ?_|refine cF yd amj ?_|refine cD yd ?_
  have hXC:∃kc:Nat,k.cells=(kc:Int)/\bI p=kc+49/\(dM p.vars).length=kc:=⟨k.cells.toNat,by have:=BT.o;have:=zj.o;omega,by have:=BT.o;have:=zj.o;have:=Nu.o;omega,by have:=HXL.o;have:=BT.o;have:=zj.o;omega⟩;obtain⟨kc,mF,eC,iz⟩:=hXC;have oZ:=λW=>Se W g (bI p) kc ad;rw [show bI p - kc=49 by omega,<-mF]at oZ;have Ep:=J (df mF (df eC iz));clear mF eC iz
  repeat refine bV ?_
  clear oZ;obtain⟨mF,eC,iz⟩:=Ep.o;clear mF;obtain⟨w6,Wu,hb6,rp⟩:=Rf w5.drew g kc 49 49 ((dM p.vars)++List.replicate 49 0) tN.o.drew N ag Ar (HA5.o.ext yd) (by have:=Hq.o;simp;omega) (by have:=Hq.o;omega)
  have e6:((dM p.vars)++List.replicate 49 (0:Int)).take kc++Ar++((dM p.vars)++List.replicate 49 0).drop (kc+Ar.length)=fR p part V Ar:=by
   rw [Bg.o,<-iz,List.take_left,<-List.drop_drop,List.drop_left,List.drop_replicate,fy]
  exact amT
 .have HP0:=J Ng
  have hpe:(part==0)=false:=by simp [Ng]
  clear Ng;go_upto_region 9 with(fail);have o_:(V.length:Int)=cells p.vars:=by have h:=HVL.o;unfold jS at h;rw [af HP0.o]at h;exact h
  have Nf:mR w4 N vs V:=HV.o.ext ((bT.o.trans fg.o).trans kB.o);obtain⟨w5,Wr,Fi,mY⟩:=Rf w4 g 0 (bI p) (bI p) (List.replicate (bI p) 0) mv.o N vs V Nf (by have:=Nu.o;simp;omega) (by have:=Nu.o;omega)
  have e5:(List.replicate (bI p) (0:Int)).take 0++V++(List.replicate (bI p) 0).drop (0+V.length)=V++List.replicate 49 0:=by
   have:=Nu.o;rw [List.drop_replicate,List.take_zero,nB,show bI p - (0+V.length)=49 by omega]
  rw [e5]at Fi;have⟨Bg,HXL,tN,vz⟩:=J4' (show fR p part V Ar=V++(Ar++List.replicate (49 - Ar.length) 0)from by unfold fR;rw [af HP0.o]) o_ Fi mY;have vH:¬sb=g:=by have:=HGL.o;omega
  clear Nf e5 Fi mY o_;go_upto_region 9 with(fail);go_step
  iterate 3 refine kT ?_
  refine Lib.wpList_copy_run _ rfl _ _ 40 40 rfl _ _ rfl rfl (Wr _) ?_;clear Wr i1 i2;have⟨QS,MZ,HA5⟩:=J3' (bK HSB.o vz.o vH) (bK (HC.o.ext ((bT.o.trans fg.o).trans kB.o)).box vz.o (by have:=sM.o;have:=HC.o.lt;have:=HN.o;omega)) (mR.kept (HA.o.ext ((bT.o.trans fg.o).trans kB.o)) vz.o (λi hi e=>by have:=sM.o;have:=HN.o;omega));go_upto_region 10 with(fail);refine eW (λwz=>al w5 wz) [(0,2),(1,1),(2,2),(3,2),(4,2),(5,1),(6,2),(7,2),(8,2),(9,0)] ?_;refine eX ?_;have yd:al w5 w5.drew:=(kR _ w5).drew;have hkw:IntKind.i64.wrap k.cells=k.cells:=wrap_i64 (by have:=BT.o;have:=zj.o;unfold aI;omega)
  repeat first|refine bV ?_|refine cF yd amj ?_|refine cD yd ?_
  have hXC:∃kc:Nat,k.cells=(kc:Int)/\bI p=kc+49/\V.length=kc:=⟨k.cells.toNat,by have:=BT.o;have:=zj.o;omega,by have:=BT.o;have:=zj.o;have:=Nu.o;omega,by have:=HXL.o;have:=BT.o;have:=zj.o;omega⟩;obtain⟨kc,mF,eC,iz⟩:=hXC;have oZ:=λW=>Se W g (bI p) kc ad;rw [show bI p - kc=49 by omega,<-mF]at oZ;have Ep:=J (df mF (df eC iz));clear mF eC iz
  repeat refine bV ?_
  clear oZ;obtain⟨mF,eC,iz⟩:=Ep.o;clear mF;obtain⟨w6,Wu,hb6,rp⟩:=Rf w5.drew g kc 49 49 (V++List.replicate 49 0) tN.o.drew N ag Ar (HA5.o.ext yd) (by have:=Hq.o;simp;omega) (by have:=Hq.o;omega)
  have e6:(V++List.replicate 49 (0:Int)).take kc++Ar++(V++List.replicate 49 0).drop (kc+Ar.length)=fR p part V Ar:=by
   rw [Bg.o,<-iz,List.take_left,<-List.drop_drop,List.drop_left,List.drop_replicate,fy]
  exact amT
end
namespace Mc
variable{dst:Option Tmp}{pos:String}{after:Array Edge}{guard:Option (Nat×Bool)}{K:Act->World->Prop}{ρ:Operand->Value}
theorem mc:gB prog 50=true:=by kernel_rfl
theorem ko:dw prog 50=some 13:=by kernel_rfl
theorem Ap {eY} {x} {a} {w} {Q} (hx:eG (a.eval x)=true) (hh:has w (aL (a.eval x)) (aM (a.eval x)) 13=true):
 Oper.wp prog ⟨dst,.load 50 x,eY,pos,after,guard⟩ a w K Q=K (a.put dst (.agg (gets w (aL (a.eval x)) (aM (a.eval x)) 13))) w:=bB 13 mc ko hx hh
theorem Jl {eY} {x} {w} (hx:eG (ρ x)=true) (hh:has w (aL (ρ x)) (aM (ρ x)) 13=true):
 (execOp ρ ⟨dst,.load 50 x,eY,pos,after,guard⟩).run prog w=.ok (.value (.agg (gets w (aL (ρ x)) (aM (ρ x)) 13))) w:=aH 13 mc ko hx hh
theorem II (w) (g off) (hh:has w g off 13=true):(loadVar 50 ⟨g,off,none⟩).run prog w=.ok (.agg (gets w g off 13)) w:=cN prog w _ g off 13 mc ko hh
attribute [go_sem] mc ko
attribute [go_sem↓high] Ap II Jl
attribute [go_sem high] Ap
theorem vZ:gB prog 117=true:=by kernel_rfl
theorem tD:dw prog 117=some 10:=by kernel_rfl
theorem Aq {eY} {x} {a} {w} {Q} (hx:eG (a.eval x)=true) (hh:has w (aL (a.eval x)) (aM (a.eval x)) 10=true):
 Oper.wp prog ⟨dst,.load 117 x,eY,pos,after,guard⟩ a w K Q=K (a.put dst (.agg (gets w (aL (a.eval x)) (aM (a.eval x)) 10))) w:=bB 10 vZ tD hx hh
theorem Jm {eY} {x} {w} (hx:eG (ρ x)=true) (hh:has w (aL (ρ x)) (aM (ρ x)) 10=true):
 (execOp ρ ⟨dst,.load 117 x,eY,pos,after,guard⟩).run prog w=.ok (.value (.agg (gets w (aL (ρ x)) (aM (ρ x)) 10))) w:=aH 10 vZ tD hx hh
theorem IJ (w) (g off) (hh:has w g off 10=true):(loadVar 117 ⟨g,off,none⟩).run prog w=.ok (.agg (gets w g off 10)) w:=cN prog w _ g off 10 vZ tD hh
attribute [go_sem] vZ tD
attribute [go_sem↓high] Aq IJ Jm
attribute [go_sem high] Aq
theorem Bm:gB prog 120=true:=by kernel_rfl
theorem xx:dw prog 120=some 14:=by kernel_rfl
theorem D8 {eY} {x} {a} {w} {Q} (hx:eG (a.eval x)=true) (hh:has w (aL (a.eval x)) (aM (a.eval x)) 14=true):
 Oper.wp prog ⟨dst,.load 120 x,eY,pos,after,guard⟩ a w K Q=K (a.put dst (.agg (gets w (aL (a.eval x)) (aM (a.eval x)) 14))) w:=bB 14 Bm xx hx hh
theorem LV {eY} {x} {w} (hx:eG (ρ x)=true) (hh:has w (aL (ρ x)) (aM (ρ x)) 14=true):
 (execOp ρ ⟨dst,.load 120 x,eY,pos,after,guard⟩).run prog w=.ok (.value (.agg (gets w (aL (ρ x)) (aM (ρ x)) 14))) w:=aH 14 Bm xx hx hh
theorem Ls (w) (g off) (hh:has w g off 14=true):(loadVar 120 ⟨g,off,none⟩).run prog w=.ok (.agg (gets w g off 14)) w:=cN prog w _ g off 14 Bm xx hh
attribute [go_sem] Bm xx
attribute [go_sem↓high] D8 Ls LV
attribute [go_sem high] D8
structure Tt where (pc:Int) (A:Option Addr) (n k:Nat) (halt:Int) (iA:Option Addr) (iN iK:Nat) (depth:Int) (fh:Int) (A':Option Addr) (n' k':Nat) (aN:Int) (bw window phase gd mW:Int) (hv:Option Addr)
abbrev Tt.made (t:Tt):Array Value:=#[.int .i64 t.pc,.slice t.A t.n t.k,.int .i64 t.halt,.slice t.iA t.iN t.iK,.int .i64 t.depth,.int .i64 t.fh,.slice t.A' t.n' t.k',.int .i64 t.aN,.int .i64 t.bw,.int .i64 t.window]
abbrev Tt.cells (t:Tt):Array Value:=#[.int .i64 t.pc,.slice t.A t.n t.k,.int .i64 t.halt,.slice t.iA t.iN t.iK,.int .i64 t.depth,.int .i64 t.fh,.slice t.A' t.n' t.k',.int .i64 t.aN,.int .i64 t.bw,.int .i64 t.window,.int .i64 t.phase,.int .i64 t.gd,.int .i64 t.mW,.pointer t.hv]
attribute [go_sem] Tt.made Tt.cells
abbrev TB (w:World) (b:Nat) (t:Tt):Prop:=aj w b 120 t.cells
def og (n:Int):Bool:=decide (0<=n)&&decide (n<=1099511627776)
def Lg (n:Int):Bool:=decide (0<=n)&&decide (n<=7)
theorem gJ (n) (w:World):Calls prog 52 #[.int .i64 n] w λe w'=>e=.returned (.bool (og n))/\w=w':=by
 unfold og
 by_cases h:0<=n
 .go_enter func52,ntmps52
  go_wp21;go_ret;exact⟨by simp [h],rfl⟩
 .go_enter func52,ntmps52
  go_wp21;go_ret;exact⟨by simp;omega,rfl⟩
theorem uV (n) (w:World):Calls prog 51 #[.int .i64 n] w λe w'=>e=.returned (.bool (Lg n))/\w=w':=by
 unfold Lg
 by_cases h:0<=n
 .go_enter func51,ntmps51
  go_wp21;go_ret;exact⟨by simp [h],rfl⟩
 .go_enter func51,ntmps51
  go_wp21;go_ret;exact⟨by simp;omega,rfl⟩
section
variable (b:Nat) (t:Tt) (w:World) (ht:TB w b t)
include b t w ht
theorem lD:Calls prog 17 #[.pointer (some ⟨b,0,none⟩)] w λe w'=>e=.returned (.int .i64 t.phase)/\w=w':=by
 have hc:=bC ht;go_enter func17,ntmps17;go_wp21;go_ret;exact⟨rfl,rfl⟩
theorem jv:Calls prog 24 #[.pointer (some ⟨b,0,none⟩)] w λe w'=>e=.returned (.int .i64 t.gd)/\w=w':=by
 have hc:=bC ht;go_enter func24,ntmps24;go_wp21;go_ret;exact⟨rfl,rfl⟩
end
def qk (t:Tt) (r:Tr):Int:=if t.phase=1 then(if r.turn=0 then t.bw else t.mW)else -1
theorem SY (b c) (t) (r) (w) (ht:TB w b t) (hv:t.hv=some ⟨c,0,none⟩) (hr:At w c r) (hp:t.phase=1):Calls prog 26 #[.pointer (some ⟨b,0,none⟩)] w λe w'=>e=.returned (.int .i64 (if r.turn=0 then t.bw else t.mW))/\w=w':=by
 have hc:=bC ht;go_enter func26,ntmps26;go_wp21;refine uW (ZW c r _ hr) ?_
 by_cases h0:r.turn=0
 .go_wp21
  go_ret;exact⟨by first|rfl|simp [*],rfl⟩
 .go_wp21
  go_ret;exact⟨by first|rfl|simp [*],rfl⟩
theorem lH (b c) (t) (r) (w) (ht:TB w b t) (hv:t.hv=some ⟨c,0,none⟩) (hr:At w c r) (hp:t.phase=1):Calls prog 26 #[.pointer (some ⟨b,0,none⟩)] w λe w'=>e=.returned (.int .i64 (qk t r))/\w=w':=by
 unfold qk;rw [av hp];exact SY b c t r w ht hv hr hp
theorem yN (b c) (t) (w) (ht:TB w b t) (hv:t.hv=some ⟨c,0,none⟩):Calls prog 18 #[.pointer (some ⟨b,0,none⟩)] w λe w'=>e=.returned (.int .i64 (if t.phase=2 then t.mW else if t.phase=3 then t.bw else -1))/\w=w':=by
 have hc:=bC ht
 by_cases h2:t.phase=2
 .go_enter func18,ntmps18
  go_wp21;go_ret;exact⟨by first|rfl|simp [*],rfl⟩
 .by_cases h3:t.phase=3
  .go_enter func18,ntmps18
   go_wp21;go_ret;exact⟨by first|rfl|simp [*],rfl⟩
  .go_enter func18,ntmps18
   go_wp21;go_ret;exact⟨by first|rfl|simp [*],rfl⟩
