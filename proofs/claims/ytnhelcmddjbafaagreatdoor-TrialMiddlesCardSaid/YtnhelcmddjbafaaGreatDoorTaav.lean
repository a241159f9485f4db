import Derived.Test.YtnhelcmddjbafaaGreatDoorTaas
import Derived.Test.YtnhelcmddjbafaaGreatDoorTaau
set_option maxHeartbeats 4000000
set_option maxRecDepth 100000
open Go.Proofs.Tryz
namespace Go.Proofs.YtnhelcmddjbafaaGreatDoor
open Go.RowKit Sq
namespace Mc
def xe (n:Nat) (a s:Int):Bool:=decide (0<=a)&&(decide (2<=s)&&(decide (a<n)&&decide (s / 2<n - a)))
def Un (a s:Int):Nat:=(a+s / 2).toNat
def atD (l:List Dg) (i:Nat):Dg:=l.getD i Dg.zero
abbrev dN (a b:Dg):Bool:=(!a.x0==b.x0||(!a.x1==b.x1||(!a.x2==b.x2||(!a.x3==b.x3||(!a.x4==b.x4||(!a.x5==b.x5||(!a.x6==b.x6||(!a.x7==b.x7))))))))
theorem abB (a):dN a a=false:=by simp [dN]
theorem Gz {n} {a s} (h:xe n a s=true):∃a' s':Nat,a=a'/\s=s'/\2<=s'/\a'+s' / 2<n/\Un a s=a'+s' / 2:=by
 simp only [xe,fz,gZ]at h;refine⟨a.toNat,s.toNat,by omega,by omega,by omega,by omega,by unfold Un;omega⟩
theorem GA {n} {a s} (h:xe n a s=false):decide (a<0)=true∨(decide (a<0)=false/\decide (s<2)=true)∨(∃a' s':Nat,a=a'/\s=s'/\2<=s'/\n<=a')∨(∃a' s':Nat,a=a'/\s=s'/\2<=s'/\a'<n/\n<=a'+s' / 2):=by
 simp only [gZ,decide_eq_false_iff_not]
 rcases(by omega:a<0∨0<=a)with h1|h1
 .exact .inl h1
 rcases(by omega:s<2∨2<=s)with h2|h2
 .exact .inr (.inl ⟨by omega,h2⟩)
 rcases(by omega:a<n∨n<=a)with h3|h3
 .refine .inr (.inr (.inr ⟨a.toNat,s.toNat,by omega,by omega,by omega,by omega,?_⟩))
  rcases Nat.lt_or_ge (a.toNat+s.toNat / 2) n with h4|h4
  .have:xe n a s=true:=by
    simp only [xe,fz,gZ]
    omega
   rw [this]at h
   cases h
  .exact h4
 .exact .inr (.inr (.inl ⟨a.toNat,s.toNat,by omega,by omega,by omega,by omega⟩))
theorem GD (A) (n cap:Nat) (hn:n<=1000) (a s:Int) (hs:aI s) (h:xe n a s=false) (w:World):
 Calls prog 10 #[.slice A n cap,.int .i64 a,.int .i64 s] w λe w'=>e=.returned (.tuple #[.agg Dg.zero.cells,.int .i64 2])/\al w w':=by
 have aK:=dz w (.cells Dg.zero.cells 25);have hA0:=bN w 25 Dg.zero.cells;have q6:∀a':Nat,a'<n->wrap64 ((n:Int) - a')=(n:Int) - a':=λa' h=>ld _ ad;have q7:∀a':Nat,decide ((a':Int)<0)=false:=λa'=>by simp
 have q8:∀a':Nat,2<=a'->decide ((a':Int)<2)=false:=λa' h=>by simp;omega
 go_enter func10,ntmps10;go_upto_region 1 with(fail);generalize (w.alloc (.cells Dg.zero.cells 25))=W1 at aK hA0⊢;generalize hgg:(w:World).heap.size=g at hA0⊢;have HG:=J hgg;have dX:=J aK;have a1:=bH hA0;have a2:=aj.aJ hA0;have a3:=hA0.lt;clear hgg aK
 have fin:∀W,W=putAt W1 g 0 Dg.zero.cells->al w W:=λW e=>by
  subst e;exact Kept.putAt dX.o _ _ _ (λh=>by have:=HG.o;omega)
 rcases GA h with p1|⟨p1,p2⟩|⟨a',s',rfl,rfl,p1,p2⟩|⟨a',s',rfl,rfl,p1,p2,p3⟩
 .clear h q6 q7 q8
  exact Sr
 .clear h q6 q7 q8
  exact Sr
 .have c1:=q7 a'
  have c2:=q8 s' p1;have c3:decide (n<=a')=true:=by simpa using p2
  clear h q6 q7 q8 p1 p2;exact Sr
 .have c1:=q7 a'
  have c2:=q8 s' p1;have c3:decide (n<=a')=false:=by simp;omega
  have c4:=q6 a' p2;have c6:wrap64 ((s':Int) / 2)=(s':Int) / 2:=ld _ (by unfold aI at hs;omega);have c5:decide ((n:Int) - a'<=(s':Int) / 2)=true:=by simp;omega
  clear h q6 q7 q8 p1 p2 p3;exact Sr
def rQ (l:List Dg) (a s:Int) (t:Dg):Bool:=xe l.length a s&&dN (atD l (Un a s)) t
theorem vh (A) (b n cap) (l:List Dg) (hn:n=l.length) (hm:n<=1000) (a s:Int) (hs:aI s) (t:Dg) (w:World) (hA:0<n->A=some ⟨b,0,none⟩) (hr:0<n->Row w b 0 (dc l)):
 Calls prog 11 #[.slice A n cap,.int .i64 a,.int .i64 s,.agg t.cells] w λe w'=>e=.returned (.bool (rQ l a s t))/\al w w':=by
 have y0:=dz w (.cells t.cells 25);have b0:=bN w 25 t.cells;have⟨HN,HA,HR⟩:=J3' hn hA hr;obtain⟨r,hq⟩:=nm' (rQ l a s t);rw [<-hq];have HQ:=J hq;clear hA hr hq hn;go_enter func11,ntmps11;go_upto_region 1 with(fail);generalize (w.alloc (.cells t.cells 25))=W1 at y0 b0⊢;generalize (w:World).heap.size=g at b0⊢;have vt:=J b0;have bT:=J y0;clear b0 y0
 cases jG:xe n a s with
 |true=>
  obtain⟨a',s',rfl,rfl,h2,h3,h4⟩:=Gz jG
  have hd:l[a'+s' / 2]?=some (atD l (Un a' s')):=by
   rw [h4];unfold atD;rw [List.getD_eq_getElem?_getD,List.getElem?_eq_getElem aal]
   rfl
  have HF:=J (show r=dN (atD l (Un a' s')) t by
   rw [HQ.o];unfold rQ;rw [<-HN.o,jG]
   rfl)
  have hA:=HA.o ad;subst hA;generalize atD l (Un a' s')=d at hd HF⊢;obtain⟨i,hi⟩:=nm' (a'+s' / 2);rw [<-hi]at hd h3;have hw:=(HR.o ad).ext bT.o;have pK:s'<=17592186044416:=by omega
  have HI:=J hi;clear hi;go_wp21;refine(tt b 0 n cap l HN.o ad a' s' i h2 pK HI.o h3 _ hw d hd).mono ?_;rintro e w2 ⟨rfl,hx⟩;have b2:=bX vt.o hx;have y3:=dz w2 (.cells d.cells 25);have d3:=bN w2 25 d.cells;clear jG hd h2 h3 h4 hw pK;go_upto_region 2 with(fail);generalize (w2.alloc (.cells d.cells 25))=W3 at y3 d3⊢;generalize (w2:World).heap.size=q at d3⊢;have b3:=bX b2 y3;have i1:=bH b3;have i2:=bG b3;have i3:=b3.lt;have j1:=bH d3;have j2:=bG d3;have j3:=d3.lt;go_wp21;go_ret;exact⟨aV HF.o.symm,bT.o.trans (hx.trans y3)⟩
 |false=>
  have HF:=J (show r=false by
   rw [HQ.o];unfold rQ;rw [<-HN.o,jG]
   rfl)
  go_wp21;refine kU (GD A n cap hm a s hs jG _) λw2 hx=>?_;have y3:=dz w2 (.cells Dg.zero.cells 25);clear jG;go_wp21;go_ret;exact⟨aV HF.o.symm,bT.o.trans (hx.trans y3)⟩
theorem ahh {w} {base} {E} {sz} {v} {n} {xs:List Value} (h:w.ownsRow base E sz v n xs) (hz:0<sz):∃g c A,v=.slice A n c/\(0<n->A=some ⟨g,0,none⟩)/\(0<n->Row w g 0 xs):=by
 rcases Nat.eq_zero_or_pos n with e|e
 .subst e
  rcases h.2 with⟨hv,_⟩|⟨g,c,du,hv,_⟩
  .exact⟨0,0,none,hv,λh=>absurd h ad,λh=>absurd h ad⟩
  .exact⟨g,c,_,hv,λh=>absurd h ad,λh=>absurd h ad⟩
 .obtain⟨g,c,h1,h2,_⟩:=fq h e hz
  exact⟨g,c,_,h1,λ_=>rfl,λ_=>h2⟩
theorem Vt (x):aI (wrap64 x):=by
 unfold aI;have:=jH x;simp only [wrap64]at*
 omega
theorem Uo {i a s x:Nat} (hi:i<=1000) (h2:2<=s) (h3:x<i) (hx:x=a+s / 2):decide (2<=(s:Int))=true/\decide (a<i)=true/\wrap64 ((i:Int) - a)=(i:Int) - a/\decide ((s:Int) / 2<(i:Int) - a)=true/\wrap64 ((a:Int)+(s:Int) / 2)=(x:Int)/\(x:Int)<i/\wrap64 ((s:Int) / 2)=(s:Int) / 2:=
 ⟨by simp;omega,by simp;omega,ld _ ad,by simp;omega,by rw [ld _ ad];omega,by omega,ld _ ad⟩
theorem ajm {w} {b x} {L} {d} (h:Row w b 0 (dc L)) (hd:L[x]?=some d):Proofs.YtnhelcmddjbafaaGreatDoor.has w b (x*8) 8=true/\gets w b (x*8) 8=d.cells:=by
 obtain⟨hx,e⟩:=List.getElem?_eq_some_iff.1 hd;have q:=h.dig x hx;rw [dU,e]at q;exact q
theorem To (l:List Int) (i) (hi):(l.take (i+1)).map uo=(l.take i).map uo++[uo (l[i])]:=by
 rw [List.take_add_one,vQ,List.getElem?_eq_getElem hi]
 rfl
theorem IG (nA) (nb no nn nk) (l:List Int) (hl:nn=l.length) (hr:∀k∈l,0<=k/\k<65536) (from_ steps:Int) (hs:aI steps) (w:World) (hA:0<nn->nA=some ⟨nb,no,none⟩/\Row w nb no (l.map (.int .u16 ·))) (hL:ew w) (hO:OpsAt w):
 Calls prog 3 #[.slice nA nn nk,.int .i64 from_,.int .i64 steps] w λe w'=>e=.returned (.bool true)/\al w w':=by
 have⟨HA,HL,HO,HN,HR,HS⟩:=J6' hA hL hO hl hr hs;clear hA hL hO hl hr hs;go_enter func3,ntmps3;go_upto_region 3 with(fail)
 go_loopw [7,8] (λt7 t8 wr=>al w wr/\∃i:Nat,i<=nn/\i<=100/\t8=.int .i64 i/\wr.ownsRow w.heap.size 25 8 t7 i (dc ((l.take i).map uo))) (λt7 t8 _=>101 - (intOf t8).toNat)
 case atStart=>exact⟨kR _ _,0,de _,de _,rfl,rfl,.inl ⟨rfl,rfl⟩⟩
 case round=>
  obtain⟨hx,i,hi,On,rfl,ho⟩:=hrel;have⟨HX,HO1,HI⟩:=J3' hx ho (df hi On);clear hx ho
  by_cases aX:i<nn/\i<100
  .obtain⟨h1,h2⟩:=aX
   obtain⟨hnA,aG⟩:=HA.o ad;have aG:=aG.ext HX.o;have hiL:i<l.length:=by have:=HN.o;omega
   obtain⟨k,hk⟩:=nm' (l[i]);have eC:0<=k/\k<65536:=by rw [hk];exact HR.o _ (cK _)
   have wS:wr.cell? ⟨nb,no+i,none⟩=some (.int .u16 k):=by
    rw [aG.cell i (by simpa using hiL),List.getElem?_map,List.getElem?_eq_getElem hiL,hk]
    rfl
   have Wk:=aG.lt;subst hnA;have mO:IntKind.u64.wrap k=k:=u64_in ad ad;have hiI:(i:Int)<nn:=by omega
   have arb:(i:Int)<100:=by omega
   have HK:=J hk;have Bf:=J eC;clear aG hk eC;go_upto_region 5 with(fail);go_step
   iterate 6 refine kT ?_
   refine wpList_step (λK hK=>?_);go_wp21;refine kU (gI k _ Bf.o.1) λw1 aB=>?_;have y2:al wr (w1.alloc (.cells (uo k).cells 25)):=aB.alloc _;obtain⟨v3,w3,dr,RG,iz⟩:=J9 (w1.alloc (.cells (uo k).cells 25)) w.heap.size _ i _ (aQ HO1.o y2) w1.heap.size 0 1 1 [uo k] rfl (by simpa [dc]using Row.cR (bN w1 25 (uo k).cells)) ad (by have:=HX.o.size;have:=y2.size;omega);refine hK _ _ ?_;clear hK K;refine kT ?_;refine cJ rfl (.tmp 25) (.tmp 32) 23 rfl rfl rfl rfl dr ?_;have e:=To l i hiL;rw [<-HK.o]at e;rw [<-e]at RG;go_wp21;go_roundw
   case rel=>exact⟨(HX.o.trans y2).trans' iz (λi hi e=>by have:=(HO1.o.lt i e).1;omega),i+1,by omega,by omega,by go_num,RG⟩
   case measure=>simp only [intOf];omega
  .have hor:¬(i:Int)<nn∨((i:Int)<nn/\¬(i:Int)<100):=by omega
   obtain⟨g,c,A,rfl,hA,hr⟩:=ahh HO1.o ae;obtain⟨L,hL⟩:=nm' ((l.take i).map uo);have hiL:i=L.length:=by rw [hL,fm,vR];have:=HN.o;omega
   rw [<-hL]at hr;have⟨HR,M4,HAA⟩:=J3' hr hiL hA;clear hr hA hL hiL aX HO1
   rcases hor with q|⟨q,q2⟩
   all_goals
    go_upto_region 7 with(fail)
    go_loopw [9] (λt9 wz=>al wr wz/\∃j:Nat,j<=2/\t9=.int .i64 j) (λt9 _=>3 - (intOf t9).toNat)
    case atStart=>exact⟨kR _ _,0,by omega,rfl⟩
    case round=>
     obtain⟨hz,j,hj,rfl⟩:=hrel;have HZ:=J hz;clear hz
     by_cases hj2:j<2
     .obtain⟨a,b,hb,hab⟩:∃a b:Int,aI b/\((j=0/\a=from_/\b=steps)∨(j=1/\wrap64 ((IntKind.u64.wrap from_).tmod 40)=a/\wrap64 ((IntKind.u64.wrap steps).tmod 40)=b)):=by
       rcases(by omega:j=0∨j=1)with rfl|rfl
       .exact⟨_,_,HS.o,.inl ⟨rfl,rfl,rfl⟩⟩
       .exact⟨_,_,Vt _,.inr ⟨rfl,rfl,rfl⟩⟩
      have HB:=J hb;clear hb hj hj2
      rcases hab with⟨rfl,rfl,rfl⟩|⟨rfl,e1,e2⟩
      all_goals
       go_upto_region 12 with(fail)
       cases hm:xe i a b with
       |true=>
        obtain⟨a',s',rfl,rfl,h2,h3,h4⟩:=Gz hm;obtain⟨x,hx⟩:=nm' (a'+s' / 2);rw [<-hx]at h3;have hAx:=HAA.o ad;subst hAx;have hw:=(HR.o ad).ext HZ.o;have hxL:x<L.length:=by have:=M4.o;omega
        obtain⟨d,hd⟩:=nm' (L[x])
        have HFD:=J (show∀t,rQ L a' s' t=dN d t from λt=>by
         unfold rQ atD;rw [<-M4.o,hm,h4,<-hx,List.getD_eq_getElem?_getD,List.getElem?_eq_getElem hxL,hd]
         rfl)
        have⟨HD,HW,fN,gO⟩:=J4' (show L[x]?=some d by rw [hd];exact List.getElem?_eq_getElem hxL) hw hx hxL;obtain⟨q1,q2,q3,q4,q5,q6,q7⟩:=Uo (by have:=HI.o.2;omega) h2 h3 hx;clear hm h4 hw hd hx;go_wp21;refine(tt g 0 i c L M4.o ad a' s' x h2 (by have:=fN.o;have:=HI.o.2;omega) fN.o h3 _ HW.o d HD.o).mono ?_;rintro e w2 ⟨rfl,bM⟩;have y3:=bM.alloc (.cells d.cells 25);have b3:=bN w2 25 d.cells;go_upto_region 13 with(fail);generalize (w2.alloc (.cells d.cells 25))=w3 at y3 b3⊢;generalize (w2:World).heap.size=db at b3⊢;have⟨ot,HW3,kB⟩:=J3' b3 (HW.o.ext y3) y3;clear bM y3 b3;go_upto_region 16 with(fail);have r1:IntKind.i64.wrap ((s':Int) / 2)=(s':Int) / 2:=by rw [jH];have:=fN.o;have:=HI.o.2;omega
        have r2:IntKind.i64.wrap ((a':Int)+(s':Int) / 2)=(x:Int):=by rw [jH];have:=fN.o;omega
        refine eW (λwz=>al w3 wz) [(0,2),(1,2),(2,1),(3,2),(4,2),(5,2),(6,2),(7,2),(8,2),(9,1),(10,2),(11,2),(12,2),(13,2),(14,2),(15,1),(16,0),(17,2),(18,2),(19,2),(20,2),(21,2),(24,1),(22,0),(23,0),(25,0),(26,2),(27,2),(28,2),(29,2)] ?_;refine eX ?_;have yd:al w3 w3.drew:=(kR _ w3).drew
        repeat first|refine bV ?_|refine cF yd zb7 ?_|refine cD yd ?_
        refine ap (λK hK=>?_);go_simp;go_wp21;refine(vh (some ⟨g,0,none⟩) g i c L M4.o (by have:=HI.o.2;omega) _ _ HB.o d _ (λ_=>rfl) (λ_=>HW3.o.ext yd)).mono ?_;rintro e w4 ⟨rfl,eV⟩;rw [HFD.o,abB];have y4:=yd.trans eV;refine hK.out _ _ (λ_=>y4) ?_;clear hK K
        repeat first|refine bV ?_|refine cF y4 zb7 ?_|refine cD y4 ?_
        refine ap (λK hK=>?_);go_simp;refine(gI 9 _ ae).mono ?_;rintro e w5 ⟨rfl,iY⟩;have y5:=y4.trans iY;refine hK.out _ _ (λ_=>y5) ?_;clear hK K
        repeat first|refine bV ?_|refine cF y5 zb7 ?_|refine cD y5 ?_
        refine ap (λK hK=>?_);go_simp;go_wp21;refine(vh (some ⟨g,0,none⟩) g i c L M4.o (by have:=HI.o.2;omega) _ _ HB.o (uo 9) _ (λ_=>rfl) (λ_=>HW3.o.ext y5)).mono ?_;rintro e w6 ⟨rfl,qz⟩;rw [HFD.o];have y6:=y5.trans qz;refine hK.out _ _ (λ_=>y6) ?_;clear hK K
        repeat first|refine bV ?_|refine cF y6 zb7 ?_|refine cD y6 ?_
        refine ap (λK hK=>?_);go_simp;refine(gI 9 _ ae).mono ?_;rintro e w7 ⟨rfl,Bv⟩;have y7:=y6.trans Bv;refine hK.out _ _ (λ_=>y7) ?_;clear hK K;refine fc ?_;go_wp21;go_roundw
        case rel=>
         refine⟨HZ.o.trans (kB.o.trans y7),?_⟩
         first|exact⟨1,by omega,by go_num⟩|exact⟨2,by omega,by go_num⟩
        case measure=>simp only [intOf];omega
       |false=>
        have HFF:=J (show∀t,rQ L a b t=false from λt=>by
         unfold rQ;rw [<-M4.o,hm]
         rfl)
        have On:=HI.o.2;go_wp21;refine(GD A i c ad a b HB.o hm _).mono ?_;rintro e w2 ⟨rfl,bM⟩;have y3:=bM.alloc (.cells Dg.zero.cells 25);have b3:=bN w2 25 Dg.zero.cells;go_upto_region 13 with(fail);generalize (w2.alloc (.cells Dg.zero.cells 25))=w3 at y3 b3⊢;generalize (w2:World).heap.size=db at b3⊢;have j1:=bH b3;have j2:=bG b3;have j3:=b3.lt;have eP:=J y3;have HMI:=J (GA hm);clear bM y3 b3 hm
        have hq:decide (0<=a)=false∨(decide (0<=a)=true/\decide (2<=b)=false)∨(∃a' s':Nat,a=a'/\b=s'/\decide (2<=(s':Int))=true/\decide (a'<i)=false)∨(∃a' s':Nat,a=a'/\b=s'/\decide (2<=(s':Int))=true/\decide (a'<i)=true/\wrap64 ((i:Int) - a')=(i:Int) - a'/\wrap64 ((s':Int) / 2)=(s':Int) / 2/\decide ((s':Int) / 2<(i:Int) - a')=false):=by
         have hb:=HB.o;unfold aI at hb
         rcases HMI.o with p1|⟨p1,p2⟩|⟨a',s',p0,p1,p2,p3⟩|⟨a',s',p0,p1,p2,p3,p4⟩
         .exact .inl (by simpa using p1)
         .exact .inr (.inl ⟨by simpa using p1,by simpa using p2⟩)
         .exact .inr (.inr (.inl ⟨a',s',p0,p1,by simp;omega,by simp;omega⟩))
         .exact .inr (.inr (.inr ⟨a',s',p0,p1,by simp;omega,by simp;omega,ld _ ad,ld _ ad,by simp;omega⟩))
        rcases hq with p1|⟨p1,p2⟩|⟨a',s',rfl,rfl,p1,p2⟩|⟨a',s',rfl,rfl,p1,p2,p3,p4,p5⟩
        all_goals
         go_wp21;refine(gI 9 _ ae).mono ?_;rintro e w4 ⟨rfl,eV⟩;go_wp21;refine(vh A g i c L M4.o ad _ _ HB.o (uo 9) _ HAA.o (λh=>(HR.o h).ext (HZ.o.trans (eP.o.trans eV)))).mono ?_;rintro e w5 ⟨rfl,iY⟩;rw [HFF.o];clear j1 j2 j3;go_upto_region 16 with(fail)
         go_quiet (fail)
         go_wp21;go_roundw
         case rel=>
          refine⟨Kept.drewN (HZ.o.trans (eP.o.trans (eV.trans iY))) _,?_⟩
          first|exact⟨1,by omega,by go_num⟩|exact⟨2,by omega,by go_num⟩
         case measure=>simp only [intOf];omega
     .obtain rfl:j=2:=by omega
      go_wp21;refine kU (j' _ (HL.o.ext (HX.o.trans HZ.o)) (HO.o.ext (HX.o.trans HZ.o))) λw' hx=>?_;go_wp21;go_ret;exact⟨rfl,HX.o.trans (HZ.o.trans hx)⟩
end Mc
open Go.Deep Go.ChangeShapes Go.WideShapes Mc
theorem XC:prog.cellsOf 28=1:=by kernel_rfl
namespace trialMiddles
theorem walk {H} {enc} (W) (base) (v0 v1 v2) (d0:DataW H) (p0:List MemPlace) (d1:DataW H) (p1:List MemPlace) (d2:DataW H) (p2:List MemPlace)
 (o0:Value.okWide prog W .any base 22 v0) (o1:Value.okWide prog W .any base 3 v1) (o2:Value.okWide prog W .any base 3 v2)
 (h0:DataW.Trod enc prog W 0 (λ_=>true) true 22 v0 d0 p0) (h1:DataW.Trod enc prog W 0 (λ_=>true) true 3 v1 d1 p1) (h2:DataW.Trod enc prog W 0 (λ_=>true) true 3 v2 d2 p2) (hL:laidMetH prog Rows.trialMiddlesRow.laid W)
 (_z0:light prog 22 d0) (_z1:light prog 3 d1) (_z2:light prog 3 d2) (hS:W.ShapedOpen prog):
 Calls prog 3 #[v0,v1,v2] W λe w'=>e=.returned (.bool true)/\al W w':=by
 obtain⟨f,rfl,-⟩:=wX o1 h1;obtain⟨s,rfl,hs⟩:=wX o2 h2;obtain⟨fuel,h0⟩:=h0;obtain⟨A,b,off,n,cap,tW,rfl,hA,jd,hr,hc,-⟩:=GJ (v:=v0) underlying22 XC ad (by cases v0<;>first|exact h0|(simp [Value.okWide,Cell.okWide,Cell.ok,underlying22]at o0))
 obtain⟨l,hl,hk,he⟩:=XZ (λk:Int=>.int .u16 k) (λk=>0<=k/\k<65536) tW (λcs gu=>by
  obtain⟨_,m,y,ht⟩:=hc cs gu;obtain⟨k,e,_,wf⟩:=DataW.trod_int underlying28 ht;have hk:0<=k/\k<=65535:=by simpa [Lit.wf,IntKind.min,IntKind.max,IntKind.signed,IntKind.bits]using wf
  exact⟨k,⟨hk.1,by omega⟩,e⟩)
 obtain⟨hLA,hOA⟩:=Lk hL (zz hS);exact IG A b off n cap l ad hk f s hs W (λh=>⟨hA h,he▸hr h⟩) hLA hOA
