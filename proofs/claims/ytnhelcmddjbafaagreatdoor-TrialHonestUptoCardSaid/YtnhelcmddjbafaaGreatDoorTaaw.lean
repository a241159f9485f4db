import Derived.Test.YtnhelcmddjbafaaGreatDoorTaat
import Derived.Test.YtnhelcmddjbafaaGreatDoorTaau
set_option maxHeartbeats 4000000
set_option maxRecDepth 100000
open Go.Proofs.Tryz
namespace Go.Proofs.YtnhelcmddjbafaaGreatDoor
open Go.RowKit
namespace Mc
theorem Tz (b o c b' o' c' n) (l:List Int) (hn:n=l.length) (kM:n<=4096) (w:World) (h:Row w b o (bJ l)) (h':Row w b' o' (bJ l)):
 Calls prog 57 #[.slice (some ⟨b,o,none⟩) n c,.slice (some ⟨b',o',none⟩) n c'] w λe w'=>e=.returned (.bool true)/\al w w':=by
 have⟨HR,HR',HN⟩:=J3' h h' (df hn kM);clear h h' hn kM;go_enter func57,ntmps57;go_wp21
 go_loopw [13] (λt13 wr=>al w wr/\∃i:Nat,i<=n/\t13=.int .i64 i) (λt13 _=>n+1 - (intOf t13).toNat)
 case atStart=>exact⟨kR _ _,0,de _,rfl⟩
 case round=>
  obtain⟨hx,i,hi,rfl⟩:=hrel;have HX:=J hx
  by_cases aX:i<n
  .have wU:i<l.length:=by have:=HN.o.1;omega
   have c1:=Row.mem (HR.o.ext HX.o) i wU;have c2:=Row.mem (HR'.o.ext HX.o) i wU;have l1:=(HR.o.ext HX.o).lt;have l2:=(HR'.o.ext HX.o).lt;have hiI:(i:Int)<n:=by omega
   have hb:=HN.o.2;generalize l[i]=x at c1 c2;have q1:(x !=x)=false:=by simp
   clear hx;go_upto_region 6 with(fail)
   go_quiet (fail)
   go_wp21;go_roundw
   case rel=>exact⟨Kept.drewN HX.o _,i+1,aX,by go_num⟩
   case measure=>simp only [intOf];omega
  .have hiI:¬(i:Int)<n:=by omega
   go_wp21;go_ret;exact⟨rfl,HX.o⟩
theorem Pm (pc halt) (b o c b' o' c' n) (l:List Int) (hn:n=l.length) (kM:n<=4096) (w:World) (h:Row w b o (bJ l)) (h':Row w b' o' (bJ l)):
 Calls prog 19 #[.agg (ai pc (some ⟨b,o,none⟩) n c halt),.agg (ai pc (some ⟨b',o',none⟩) n c' halt)] w λe w'=>e=.returned (.bool true)/\al w w':=by
 have y0:=(dz w (.cells (ai pc (some ⟨b,o,none⟩) n c halt) 47)).alloc (.cells (ai pc (some ⟨b',o',none⟩) n c' halt) 47);have b0:aj _ w.heap.size 47 (ai pc (some ⟨b,o,none⟩) n c halt):=aj.alloc (bN w _ _) (.cells (ai pc (some ⟨b',o',none⟩) n c' halt) 47);have b1:aj _ (w.heap.size+1) 47 (ai pc (some ⟨b',o',none⟩) n c' halt):=aj.d_ (w.alloc (.cells (ai pc (some ⟨b,o,none⟩) n c halt) 47)) _ _ _ aC;have r0:=h.ext y0;have r1:=h'.ext y0;have HN:=J (df hn kM);clear hn kM;go_enter func19,ntmps19;go_upto_region 1 with(fail);generalize ((w.alloc (.cells (ai pc (some ⟨b,o,none⟩) n c halt) 47)).alloc (.cells (ai pc (some ⟨b',o',none⟩) n c' halt) 47))=W1 at y0 b0 b1 r0 r1⊢;generalize (w:World).heap.size=g at b0 b1⊢;have i1:=bC b0;have i2:=b0.lt;have i3:=bC b1;have i4:=b1.lt;have p1:(pc==pc)=true:=by simp
 have p2:(halt==halt)=true:=by simp
 go_wp21;refine kU (Tz b o c b' o' c' n l HN.o.1 HN.o.2 _ r0 r1) λw2 hx=>?_;go_wp21;go_ret;exact⟨rfl,y0.trans hx⟩
theorem Ve (b) (t) (l) (m0 m1) (ib io fb fo gb go) (w) (ht:TB w b t) (hm:QX w t l m0 m1 ib io fb fo gb go):
 Calls prog 20 #[.pointer (some ⟨b,0,none⟩)] w λe w'=>∃g c,e=.returned (.agg (ai t.fh (some ⟨g,0,none⟩) t.n' c t.aN))/\Row w' g 0 (bJ m1)/\w.heap.size<=g/\al w w':=by
 have hgA:=hm.gA;have hb:=bU hm.gr;have HM:=J hm;have y0:=dz w (.cells (ai 0 none 0 0 0) 47);have b0:=bN w 47 (ai 0 none 0 0 0);have t0:=bX ht y0;go_enter func20,ntmps20;go_upto_region 1 with(fail);generalize (w.alloc (.cells (ai 0 none 0 0 0) 47))=W1 at y0 b0 t0⊢;generalize hq:(w:World).heap.size=q at b0⊢;have i1:=bH t0;have i2:=bG t0;have i3:=t0.lt;have⟨HB,vt,HY⟩:=J3' hb b0 y0;clear hm b0 t0 y0 hb;go_wp21;refine(lE t.fh t.aN gb go t.k' m1 t.n' HM.o.gn (by have:=HB.o.1;omega) (by have:=HB.o.2.1;omega) _ (HM.o.grow.ext HY.o)).mono ?_;rintro e w2 ⟨v,rfl,g,c,rfl,zL,hx⟩;have b2:=bX vt.o hx;have hg:=zL.ge;have aX:=vt.o.lt;have j1:=bH b2;have j2:=aj.aJ b2;have j3:=b2.lt;have hs:=HY.o.size;go_wp21;exact bQ results20 rfl rfl nE Aw (aj.cI b2 0 (ai t.fh (some ⟨g,0,none⟩) t.n' c t.aN)) ⟨g,c,rfl,zL.row.kept (Kept.putAt (S:=(·=q)) (kR _ w2) q 0 _ (λ_=>rfl)) ad,by omega,(HY.o.trans hx).putAt _ _ _ (λh=>by omega)⟩
open Sq
theorem YZ {a:Nat} (h:a<8):Lg a=true:=by simp [Lg];omega
theorem Ln (c:Pc) (p:Pr) (part:Int) (j:Nat) (Br:j<5) (hj:wrap64 ((IntKind.u64.wrap part).tmod 5)=(j:Int)) (vs ag:iu) (V A:List Int) (s0 s1:Int) (XD:Option Addr) (Kk uE bb bo:Nat) (bs:List Bool) (jd:Kk=bs.length) (w:World) (Iu:0<Kk->XD=some ⟨bb,bo,none⟩/\Row w bb bo (bs.map .bool))
 (h:lZ w w.heap.size c p) (hL:ew w) (hO:OpsAt w) (mE:Ho c) (hz:dE p<=1099511627776) (hv:mR w w.heap.size vs V) (ha:mR w w.heap.size ag A):
 Calls prog 4 #[.agg (BB c part vs ag),.slice XD Kk uE,.agg #[.int .i64 s0,.int .i64 s1]] w λe w'=>e=.returned (.bool true)/\al w w':=by
 have y0:=(dz w (.cells (BB c part vs ag) 42)).alloc (.cells #[.int .i64 s0,.int .i64 s1] 44);have b0:aj _ w.heap.size 42 (BB c part vs ag):=aj.alloc (bN w _ _) (.cells #[.int .i64 s0,.int .i64 s1] 44);have b1:aj _ (w.heap.size+1) 44 #[.int .i64 s0,.int .i64 s1]:=aj.d_ (w.alloc (.cells (BB c part vs ag) 42)) _ _ _ aC;have VO:=J jd;have HCH:=J (show∀w',al w w'->0<Kk->XD=some ⟨bb,bo,none⟩/\bb<w'.heap.size/\Row w' bb bo (bs.map .bool)from λw' hx q=>⟨(Iu q).1,((Iu q).2.ext hx).lt,(Iu q).2.ext hx⟩);refine aap ?_;intro iq fx HL HO HV HA HZ BU HJ;clear h hL hO mE hz hv ha hj Br jd Iu;go_enter func4,ntmps4;go_upto_region 1 with(fail);generalize ((w.alloc (.cells (BB c part vs ag) 42)).alloc (.cells #[.int .i64 s0,.int .i64 s1] 44))=W1 at y0 b0 b1 iq fx HL HO HV HA⊢;generalize uR:(w:World).heap.size=ob at b0 b1 iq fx HV HA⊢;have Jy:=J b1;have bT:=J y0;have i1:=bH b0;have i2:=bG b0;have i3:=b0.lt;clear b1 y0;go_wp21;refine(xi c p part j HJ.o.1 HJ.o.2 vs ag V A ob W1 fx.o iq.o HL.o HO.o BU.o HZ.o HV.o HA.o).mono ?_;rintro e w2 ⟨y2,ho⟩;have⟨fg,fN,mP⟩:=J3' (bT.o.trans y2) y2 (bX Jy.o y2);clear y2 i1 i2 i3 b0
 rcases Bo HJ.o.1 HZ.o ho with⟨P,fi,fs,AV,rfl⟩|⟨k,x,m0,m1,l,V',A',n,N,L,dd,hc,rfl⟩
 .have y3:=fN.o.alloc (.cells (c13 P fi fs) 50)
  exact anI
 clear ho;refine adx ?_;intro y3 b3;go_upto_region 4 with(fail);generalize (w2.alloc (.cells (x.cells n N L dd) 50))=w3 at y3 b3⊢;generalize (w2:World).heap.size=cb at b3⊢;have⟨n7,ot,gO,eP⟩:=J4' (hc.ext y3) b3 (fN.o.trans y3) (fg.o.trans y3);have jF:=bX mP.o y3;have i1:=bC jF;have i2:=jF.lt;obtain⟨a,ha8,ha⟩:=Uq s0 8 ae ae;obtain⟨b,hb8,hb⟩:=Uq s1 8 ae ae;simp only [Int.cast_ofNat_Int]at ha hb;have HA8:=J (df ha8 hb8);clear b3 y3 hc jF ha8 hb8;go_upto_region 4 with(fail)
 go_quiet (fail)
 rw [ha,hb];have y4:=Kept.drewN (kR (λ_=>False) w3) nq;generalize w3.drewN nq=w4 at y4⊢;have⟨FG,ug,eK,kB⟩:=J4' (n7.o.ext y4) (bX ot.o y4) (gO.o.trans y4) (eP.o.trans y4);clear ha hb i1 i2 y4;obtain⟨q,hq⟩:=nm' ((if a=b then(a+1)%8 else b));have HQ:=J (show q<8/\¬q=a by rw [hq];have:=HA8.o;split<;>omega)
 have hab:(a=b/\wrap64 ((a:Int)+1)=(a:Int)+1/\((a:Int)+1)%8=(q:Int))∨(¬a=b/\q=b):=by
  have:=HA8.o
  by_cases e:a=b
  .rw [av e]at hq
   exact .inl ⟨e,ld _ ad,by omega⟩
  .rw [af e]at hq
   exact .inr ⟨e,hq⟩
 clear hq;have CM:=ug.o;have j1:=bC CM;have j2:=bH CM;have j3:=bG CM;have j4:=CM.lt;clear CM
 rcases hab with⟨rfl,e1,e2⟩|⟨gM,rfl⟩
 all_goals
  go_wp21;refine(xf FG.o x.gk a 10 5 (YZ HA8.o.1) dZ ae).mono ?_;rintro e w5 ⟨tb,t,ib,fb,zb,rfl,hn⟩;have HN:=J hn;clear hn j1 j2 j3 j4;go_wp21;refine(uI HN.o ae 12 q dZ ae (YZ HQ.o.1) (by have:=HQ.o.2;omega)).mono ?_;rintro e w6 ⟨g,hg,rfl,ht,hr,hk⟩;have⟨HT,HR,pu,HG⟩:=J4' ht hr (show Kept (·=tb) w4 w6 from(Kept.ext HN.o.xt).trans hk) (show tb<g by have:=HN.o.tb.lt;omega);have HL6:=J ((HL.o.ext eK.o).kept pu.o (λi hi e=>by have:=HN.o.ge;have:=(HL.o.ext eK.o).lt;omega));have ER:=J ((HO.o.ext eK.o).kept pu.o (λe=>by have:=HN.o.ge;have:=(HO.o.ext eK.o).lt;omega))
  have uh:=J (show∀w',Kept (λi=>i=tb∨i=g) w6 w'->∀(ph T s u:Int) h,QX w' {t with phase:=ph,gd:=T,mW:=s,hv:=h} l m0 m1 ib 0 fb 0 zb 0 from λw' hx ph T s u h=>by
   have gM:=HN.o.m.ne HN.o.tb;have h1:=HN.o.m.OT.lt;have h2:=HN.o.m.rS.lt;have h3:=HN.o.m.grow.lt;have q:=(HN.o.m.kept hk gM.1 gM.2.1 gM.2.2).kept hx ad ad ad;exact{q with})
  have HB6:=J (bK ug.o pu.o (by have:=HN.o.ge;have:=ug.o.lt;omega));have vu:=J (show¬cb=tb/\cb<tb by have:=HN.o.ge;have:=ug.o.lt;omega);clear hg ht hr hk;go_upto_region 10 with(fail);refine eW (λwz=>Kept (λi=>i=tb∨i=g) w6 wz) [(0,0),(1,2),(2,2),(3,1),(4,2),(5,0),(6,2),(7,2),(8,2),(9,0),(10,2),(11,2),(12,2),(13,2),(15,2),(14,0),(16,2),(17,2),(18,2),(19,2),(21,2),(22,1),(20,0),(23,0),(24,2),(25,2)] ?_;refine eX ?_;have yd:al w6 w6.drew:=(kR _ w6).drew
  repeat first|refine bV ?_|refine cF (Kept.ext yd) Vu ?_|refine cD (Kept.ext yd) ?_
  refine ap (λK hK=>?_);go_simp;refine kU (j' _ (HL6.o.ext yd) (ER.o.ext yd)) λw7 y7=>?_;have k7:=yd.trans y7;refine hK.out _ _ (λ_=>Kept.ext k7) ?_;clear hK K
  repeat first|refine bV ?_|refine cF (Kept.ext k7) Vu ?_|refine cD (Kept.ext k7) ?_
  refine ap (λK hK=>?_);go_simp;go_wp21;refine(zP FG.o HN.o.ge HG.o (pu.o.trans (Kept.ext k7)) (bX HT.o k7) rfl rfl (by simp [HN.o.window]) (by simp [HN.o.window]) (bX HR.o k7) XD Kk uE bb bo bs VO.o (HCH.o _ kB.o)).mono ?_;rintro e w8 ⟨rfl,⟨T,ht8⟩,zJ⟩;have HT8:=J ht8;have k8:=(Kept.ext (S:=λi=>i=tb∨i=g) k7).trans zJ;refine hK.out _ _ (λ_=>k8) ?_;clear hK K ht8
  repeat first|refine bV ?_|refine cF k8 Vu ?_|refine cD k8 ?_
  refine ap (λK hK=>?_);go_simp;go_wp21;refine uW (lD tb _ _ HT8.o) ?_;refine hK.out _ _ (λ_=>k8) ?_;clear hK K
  repeat first|refine bV ?_|refine cF k8 Vu ?_|refine cD k8 ?_
  refine ap (λK hK=>?_);go_simp;go_wp21;refine uW (yN tb g _ _ HT8.o rfl) ?_;refine hK.out _ _ (λ_=>k8) ?_;clear hK K
  repeat first|refine bV ?_|refine cF k8 Vu ?_|refine cD k8 ?_
  refine ap (λK hK=>?_);go_simp;go_wp21;have Wn:=uh.o w8 k8 2 T q 0 (some ⟨g,0,none⟩);refine(Ve tb _ l m0 m1 ib 0 fb 0 zb 0 _ HT8.o Wn).mono ?_;rintro e w9 ⟨z,zc,rfl,hz,hzg,y9⟩;rw [show({lx t 12 q g with gd:=T,phase:=2}:Tt).fh=x.fh from HN.o.pc,show({lx t 12 q g with gd:=T,phase:=2}:Tt).n'=n from HN.o.nn,show({lx t 12 q g with gd:=T,phase:=2}:Tt).aN=x.aN from HN.o.ha];have HZ9:=J hz;have k9:=k8.trans (Kept.ext y9);refine hK.out _ _ (λ_=>k9) ?_;clear hK K Wn hz
  repeat first|refine bV ?_|refine cF k9 Vu ?_|refine cD k9 ?_
  refine ap (λK hK=>?_);go_simp;go_wp21;refine(Pm x.fh x.aN z 0 zc x.gb 0 x.gk n m1 FG.o.at_.gn (by have:=(bU FG.o.gr).2.1;omega) _ HZ9.o ((FG.o.at_.grow.kept pu.o (by have:=FG.o.at_.grow.lt;have:=HN.o.ge;omega)).kept k9 (by have:=FG.o.at_.grow.lt;have:=HN.o.ge;have:=HG.o;omega))).mono ?_;rintro e G7 ⟨rfl,JR⟩;have xS:=k9.trans (Kept.ext JR);refine hK.out _ _ (λ_=>xS) ?_;clear hK K;refine fc ?_;go_wp21;go_ret;exact⟨rfl,kB.o.trans' ((pu.o.mono (λ_ _ e=>Or.inl e)).trans xS) (λi hi e=>by have:=kB.o.size;have:=HN.o.ge;have:=HG.o;omega)⟩
end Mc
open Go.Deep Go.ChangeShapes Go.WideShapes Sq Mc
theorem abv:prog.cellsOf 4=1:=by kernel_rfl
theorem ale {H} {enc} {W} {base} {v:Value} {d:DataW H} {p:List MemPlace} (o:Value.okWide prog W .any base 44 v) (h:DataW.Trod enc prog W 0 (λ_=>true) true 44 v d p):∃a b,v=.agg #[.int .i64 a,.int .i64 b]:=by
 obtain⟨cs,rfl⟩:∃cs,v=.agg cs:=by
  simp only [Value.okWide,underlying44]at o;obtain⟨cs,h1,_⟩:=o;exact⟨cs,h1⟩
 obtain⟨fuel,hf⟩:=h;obtain⟨xs,m,_,hx,hl,o_,hz⟩:=DataW.trod_array underlying44 hf;have g0:=hz 0 ad;have g1:=hz 1 ad;rw [jf]at g0 g1;have Iw:(Value.agg cs).cells.toList.length=2:=hl;simp only [Value.cells]at g0 g1 Iw;obtain⟨l⟩:=cs
 match l,Iw with
 |[a,b],_=>
  obtain⟨x,e0,-⟩:=DataW.trod_int underlying3 (show DataW.trod enc prog W 0 (λ_=>true) true m 3 [a]=some xs[0]by simpa [List.getElem?_eq_getElem (show 0<xs.length by omega)]using g0);obtain⟨y,e1,-⟩:=DataW.trod_int underlying3 (show DataW.trod enc prog W 0 (λ_=>true) true m 3 [b]=some xs[1]by simpa [List.getElem?_eq_getElem (show 1<xs.length by omega)]using g1);injection e0 with e0;injection e1 with e1;subst e0 e1;exact⟨x,y,rfl⟩
namespace trialHonest
theorem walk {H} {enc} (W) (base) (v0 v1 v2) (d0) (p0:List MemPlace) (d1:DataW H) (p1:List MemPlace) (d2:DataW H) (p2:List MemPlace)
 (o0:Value.okWide prog W .any base 42 v0) (o1:Value.okWide prog W .any base 43 v1) (o2:Value.okWide prog W .any base 44 v2)
 (h0:DataW.Trod enc prog W 0 (λ_=>true) true 42 v0 d0 p0) (h1:DataW.Trod enc prog W 0 (λ_=>true) true 43 v1 d1 p1) (h2:DataW.Trod enc prog W 0 (λ_=>true) true 44 v2 d2 p2) (hL:laidMetH prog Rows.trialHonestUptoRow.laid W)
 {gs:List (DataW H)} (hk:Rows.uptoSmall H ([d0,d1,d2]++gs)=true)
 (z0:light prog 42 d0) (_z1:light prog 43 d1) (_z2:light prog 44 d2) (hS:W.ShapedOpen prog):
 Calls prog 4 #[v0,v1,v2] W λe w'=>e=.returned (.bool true)/\al W w':=by
 obtain⟨c,q,n,s,t,V,A,rfl,hp,hc,hs,hV,hA⟩:=Zq o0 h0 z0;obtain⟨a,b,rfl⟩:=ale o2 h2;obtain⟨fuel,h1⟩:=h1;obtain⟨B,bb,off,m,cap,tW,rfl,hB,jd,hr,gu,-⟩:=GJ (v:=v1) underlying43 abv ad (by cases v1<;>first|exact h1|(simp [Value.okWide,Cell.okWide,Cell.ok,underlying43]at o1))
 obtain⟨l,hl,_,he⟩:=XZ (λk:Bool=>.bool k) (λ_=>True) tW (λcs hq=>by
  obtain⟨_,m,y,ht⟩:=gu cs hq;obtain⟨k,e,_⟩:=DataW.trod_bool underlying4 ht;exact⟨k,trivial,e⟩)
 refine ahX ?_;intro hk hLA hOA j hj hj2;exact Ln c q n j hj hj2 s t V A a b B m cap bb off l ad W (λh=>⟨hB h,he▸hr h⟩) hp hLA hOA hc ad hV hA
