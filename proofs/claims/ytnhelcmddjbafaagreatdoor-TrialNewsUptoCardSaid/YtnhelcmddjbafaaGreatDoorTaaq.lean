import Derived.Test.YtnhelcmddjbafaaGreatDoorTaap
set_option maxHeartbeats 4000000
set_option maxRecDepth 100000
open Go.Proofs.Tryz
namespace Go.Proofs.YtnhelcmddjbafaaGreatDoor
open Go.RowKit
namespace Mc
theorem TB.of {w} {b} {t} {cs} (h:aj w b 120 cs) (e:cs=t.cells):TB w b t:=by subst e;exact h
def ju (t:Tt) (r:Tr):Tt:=if r.ff=-1 then t else if r.ff=0 then{t with phase:=2}else{t with phase:=3}
theorem DK (b c:Nat) (V6:¬b=c) (t:Tt) (r:Tr) (w:World) (ht:TB w b t) (hv:t.hv=some ⟨c,0,none⟩) (hr:At w c r):
 Calls prog 59 #[.pointer (some ⟨b,0,none⟩)] w λe w'=>e=.returned (.tuple #[])/\TB w' b (ju t r)/\At w' c r/\Kept (·=b) w w':=by
 obtain⟨pc,A,n,k,halt,iA,iN,iK,depth,fh,A',n',k',aN,bw,window,phase,gd,mW,hv'⟩:=t;simp only at hv;subst hv;unfold ju;have HT:=J ht;have HR:=J hr;have hc:=bC ht;go_enter func59,ntmps59;go_wp21;refine kU (Qp c r _ hr) λw1 hx=>?_;have HX:=J hx;have zW:=bX HT.o hx;have H_:=J (bX HR.o hx);have VU:=J zW;clear hc hr ht hx;have hc:=bC zW;have hf:=aj.frozen zW
 by_cases h1:r.ff=-1
 .go_wp21
  go_end0;refine⟨rfl,?_,H_.o,Kept.ext HX.o⟩
  first|exact VU.o|(rw [av h1];exact VU.o)
 .by_cases h0:r.ff=0
  .go_wp21
   go_end0;refine⟨rfl,?_,bK H_.o (Kept.setCell (S:=(·=b)) (kR _ w1) _ _ (λ_=>rfl)) (λ(q:c=b)=>V6 q.symm),(Kept.ext HX.o).setCell _ _ (λ_=>rfl)⟩
   first|exact TB.of (aj.fw VU.o _ _) rfl|(rw [af h1,av h0];exact TB.of (aj.fw VU.o _ _) rfl)
  .have b1:(r.ff != -1)=true:=by simp [h1]
   have b0:(r.ff==0)=false:=by simp [h0]
   go_wp21;go_end0;refine⟨rfl,?_,bK H_.o (Kept.setCell (S:=(·=b)) (kR _ w1) _ _ (λ_=>rfl)) (λ(q:c=b)=>V6 q.symm),(Kept.ext HX.o).setCell _ _ (λ_=>rfl)⟩
   first|exact TB.of (aj.fw VU.o _ _) rfl|(rw [af h1,af h0];exact TB.of (aj.fw VU.o _ _) rfl)
def zw (t:Tt) (r:Tr) (h:Int):Tt:=if (ju t r).phase=1 then{ju t r with gd:=h+t.window}else ju t r
theorem DJ (t) (r:Tr):(ju t r).window=t.window/\(ju t r).hv=t.hv:=by unfold ju;split;exact⟨rfl,rfl⟩;split<;>exact⟨rfl,rfl⟩
theorem Cv (b c xb F:Nat) (V6:¬b=c) (t:Tt) (r r':Tr) (h s res:Int) (w:World) (ht:TB w b t) (hv:t.hv=some ⟨c,0,none⟩) (hr:At w c r) (hp:t.phase=1) (hh:og h=true) (hs:s=qk t r) (hl:h<=t.gd) (hw:0<=t.window/\t.window<=1048576)
 (hE:∀(vs:Array Value) (W:World),(callFunc F vs).run prog W=.ok (.enter F vs) W)
 (hF:∀W,al w W->Calls prog F #[.pointer (some ⟨c,0,none⟩),.pointer (some ⟨xb,0,none⟩)] W λe W'=>e=.returned (.int .i64 res)/\At W' c r'/\Kept (·=c) W W'):
 Calls prog 61 #[.pointer (some ⟨b,0,none⟩),.int .i64 h,.int .i64 s,.func (.func F) #[] #[.pointer (some ⟨xb,0,none⟩)]] w λe w'=>e=.returned (.int .i64 res)/\TB w' b (if res=0 then zw t r' h else t)/\At w' c r'/\Kept (λi=>i=b∨i=c) w w':=by
 have⟨HT,HR,HF,HV,HB,HW⟩:=J6' ht hr hF hv (show 0<=h/\h<=1099511627776 by simpa [og]using hh) hw;have p1:(t.phase !=1)=false:=by simp [hp]
 have p2:decide (t.gd<h)=false:=by simp;omega
 have p3:(s !=qk t r)=false:=by rw [hs];simp
 have hc:=bC ht;have HP:=J hp;have aX:=aj.lt ht;have HL:=J (aj.lt hr);clear hr hF hp hs hl hw ht;go_enter func61,ntmps61;go_wp21;refine uW (gJ h _) ?_;go_wp21;refine uW (lH b c t r _ HT.o HV.o HR.o HP.o) ?_;go_wp21;refine(HF.o _ (kR _ _)).mono ?_;rintro e w1 ⟨rfl,Iz,mF⟩;have zW:=bK HT.o mF V6;have⟨VU,H_,FJ⟩:=J3' zW Iz mF;clear hc Iz mF
 by_cases h0:res=0
 .subst h0
  go_wp21;refine(DK b c V6 t r' _ VU.o HV.o H_.o).mono ?_;rintro e w2 ⟨rfl,JO,ki,eC⟩;have⟨HT2,sP,Bf⟩:=J3' JO ki eC;have hc:=bC JO;have hf:=aj.frozen JO;have HQ:=J (DJ t r');clear ki eC JO zW;obtain⟨u,hu⟩:=nm' (ju t r');rw [<-hu]at hc;have HU:=J hu;have hwn:=HQ.o.1;rw [<-hu]at hwn;clear hu
  by_cases h1:u.phase=1
  .go_wp21
   go_ret;refine⟨rfl,?_,?_,?_⟩
   .unfold zw
    rw [<-HU.o,av h1,ld _ (by have:=HB.o;have:=HW.o;omega)];have q:=HT2.o;rw [<-HU.o]at q;exact TB.of (t:={u with gd:=h+t.window}) (aj.fw q 11 (.int .i64 (h+t.window))) rfl
   .exact bK sP.o (Kept.setCell (S:=(·=b)) (kR _ w2) _ _ (λ_=>rfl)) (λ(q:c=b)=>V6 q.symm)
   .exact((FJ.o.mono (λ_ _ q=>.inr q)).trans (Bf.o.mono (λ_ _ q=>.inl q))).setCell _ _ (λ_=>.inl rfl)
  .go_wp21
   go_ret;refine⟨rfl,?_,sP.o,?_⟩
   .unfold zw
    rw [<-HU.o,af h1,HU.o];exact HT2.o
   .exact(FJ.o.mono (λ_ _ q=>.inr q)).trans (Bf.o.mono (λ_ _ q=>.inl q))
 .go_wp21
  go_ret;refine⟨rfl,?_,H_.o,FJ.o.mono (λ_ _ q=>.inr q)⟩
  first|exact VU.o|(rw [af h0];exact VU.o)
theorem Vc (c xb) (r) (d) (w) (hr:At w c r) (hx:aj w xb 25 d.cells):
 Calls prog 62 #[.pointer (some ⟨c,0,none⟩),.pointer (some ⟨xb,0,none⟩)] w λe w'=>e=.returned (.int .i64 (dP r 0 false))/\At w' c (DW r d)/\Kept (·=c) w w':=by
 have h1:=bH hx;have h2:=bG hx;have h3:=bC hx;go_enter func62,ntmps62;go_wp21;refine(ZT c r d _ hr).mono ?_;rintro e w' ⟨rfl,Iy,hk⟩;go_wp21;go_ret;exact⟨rfl,Iy,hk⟩
theorem Kl (c xb) (r) (f:Bool) (w:World) (hr:At w c r) (hx:aj w xb 4 #[.bool f]) (h0:0<=r.steps) (h1:r.steps<=1048576) (h2:0<=r.from_) (h3:r.from_<=1048576):
 Calls prog 64 #[.pointer (some ⟨c,0,none⟩),.pointer (some ⟨xb,0,none⟩)] w λe w'=>e=.returned (.int .i64 (dP r 1 false))/\At w' c (oy r f)/\Kept (·=c) w w':=by
 have hc:=bC hx;go_enter func64,ntmps64;go_wp21;refine(uG c r f _ hr h0 h1 h2 h3).mono ?_;rintro e w' ⟨rfl,Iy,hk⟩;go_wp21;go_ret;exact⟨rfl,Iy,hk⟩
theorem PH (c xb) (r) (cs) (e0) (w:World) (hr:At w c r) (hx:aj w xb 74 cs) (gu:(cs.toList.take 18).toArray=cs) (hn:18<=cs.size)
 (hk:∀w',al w w'->Calls prog 81 #[.agg r.program.cells,.int .i64 r.size,.agg r.before.cells,.agg r.after.cells,.agg cs] w' λe uf=>e=.returned (.int .i64 e0)/\al w' uf):
 Calls prog 67 #[.pointer (some ⟨c,0,none⟩),.pointer (some ⟨xb,0,none⟩)] w λe w'=>e=.returned (.int .i64 (u9 r e0))/\At w' c (qI r e0)/\Kept (·=c) w w':=by
 have h1:=bH hx;have h2:=bG hx;have h3:=bC hx;have h4:=hx.lt;go_enter func67,ntmps67;go_wp21;refine(UI c r cs e0 _ hr gu hn hk).mono ?_;rintro e w' ⟨rfl,Iy,hk⟩;go_wp21;go_ret;exact⟨rfl,Iy,hk⟩
structure vV (w:World) (b c:Nat) (t:Tt) (r:Tr) (h s:Int):Prop where
 ne:¬b=c
 tb:TB w b t
 hv:t.hv=some ⟨c,0,none⟩
 at_:At w c r
 ph:t.phase=1
 hh:og h=true
 hs:s=qk t r
 hl:h<=t.gd
 hw:0<=t.window/\t.window<=1048576
theorem vV.ext {w w'} {b c} {t} {r} {h s} (p:vV w b c t r h s) (hx:al w w'):vV w' b c t r h s:=⟨p.ne,bX p.tb hx,p.hv,bX p.at_ hx,p.ph,p.hh,p.hs,p.hl,p.hw⟩
def Np (w w':World) (b c:Nat) (t:Tt) (r':Tr) (h res:Int) (e:Ending):Prop:=e=.returned (.int .i64 res)/\TB w' b (if res=0 then zw t r' h else t)/\At w' c r'/\Kept (λi=>i=b∨i=c) w w'
theorem Vk (b c) (t) (r) (h s) (d) (w:World) (hp:vV w b c t r h s):
 Calls prog 23 #[.pointer (some ⟨b,0,none⟩),.int .i64 h,.int .i64 s,.agg d.cells] w λe w'=>Np w w' b c t (DW r d) h (dP r 0 false) e:=by
 have HP:=J hp;clear hp;have y0:=dz w (.cells d.cells 25);have hB:=bN w 25 d.cells;go_enter func23,ntmps23;go_upto_region 1 with(fail);generalize (w.alloc (.cells d.cells 25))=w1 at y0 hB⊢;generalize w.heap.size=xb at hB⊢;have⟨HY,HB,HQ⟩:=J3' y0 hB (HP.o.ext y0);clear y0 hB;go_wp21;refine(Cv b c xb _ HQ.o.ne t r (DW r d) h s (dP r 0 false) _ HQ.o.tb HQ.o.hv HQ.o.at_ HQ.o.ph HQ.o.hh HQ.o.hs HQ.o.hl HQ.o.hw (λ_ _=>rfl) (λW hW=>Vc c xb r d W (bX HQ.o.at_ hW) (bX HB.o hW))).mono ?_;exact aaQ
theorem Mg (b c) (t) (r) (h s) (f) (w:World) (hp:vV w b c t r h s) (h0:0<=r.steps) (h1:r.steps<=1048576) (h2:0<=r.from_) (h3:r.from_<=1048576):
 Calls prog 25 #[.pointer (some ⟨b,0,none⟩),.int .i64 h,.int .i64 s,.bool f] w λe w'=>Np w w' b c t (oy r f) h (dP r 1 false) e:=by
 have HP:=J hp;have HS:=J (df h0 (df h1 (df h2 h3)));clear hp h0 h1 h2 h3;have y0:=dz w (.cells #[.bool f] 4);have hB:=bN w 4 #[.bool f];go_enter func25,ntmps25;go_upto_region 1 with(fail);generalize (w.alloc (.cells #[.bool f] 4))=w1 at y0 hB⊢;generalize w.heap.size=xb at hB⊢;have⟨HY,HB,HQ⟩:=J3' y0 hB (HP.o.ext y0);clear y0 hB;go_wp21;refine(Cv b c xb _ HQ.o.ne t r (oy r f) h s (dP r 1 false) _ HQ.o.tb HQ.o.hv HQ.o.at_ HQ.o.ph HQ.o.hh HQ.o.hs HQ.o.hl HQ.o.hw (λ_ _=>rfl) (λW hW=>Kl c xb r f W (bX HQ.o.at_ hW) (bX HB.o hW) HS.o.1 HS.o.2.1 HS.o.2.2.1 HS.o.2.2.2)).mono ?_;exact aaQ
theorem Qg (b c) (t) (r) (h s) (x:Ws) (e0:Int) (w:World) (hp:vV w b c t r h s)
 (hk:∀w',al w w'->Calls prog 81 #[.agg r.program.cells,.int .i64 r.size,.agg r.before.cells,.agg r.after.cells,.agg x.cells] w' λe uf=>e=.returned (.int .i64 e0)/\al w' uf):
 Calls prog 27 #[.pointer (some ⟨b,0,none⟩),.int .i64 h,.int .i64 s,.agg x.cells] w λe w'=>Np w w' b c t (qI r e0) h (u9 r e0) e:=by
 have HP:=J hp;have HK:=J hk;clear hp hk;have y0:=dz w (.cells x.cells 74);have hB:=bN w 74 x.cells;go_enter func27,ntmps27;go_upto_region 1 with(fail);generalize (w.alloc (.cells x.cells 74))=w1 at y0 hB⊢;generalize w.heap.size=xb at hB⊢;have⟨HY,HB,HQ⟩:=J3' y0 hB (HP.o.ext y0);clear y0 hB;go_wp21;refine(Cv b c xb _ HQ.o.ne t r (qI r e0) h s (u9 r e0) _ HQ.o.tb HQ.o.hv HQ.o.at_ HQ.o.ph HQ.o.hh HQ.o.hs HQ.o.hl HQ.o.hw (λ_ _=>rfl) (λW hW=>PH c xb r x.cells e0 W (bX HQ.o.at_ hW) (bX HB.o hW) rfl aC (λW' hW'=>HK.o W' ((HY.o.trans hW).trans hW')))).mono ?_;exact aaQ
structure QX (w:World) (t:Tt) (l:List Ins) (m0 m1:List Int) (ib io fb fo gb go:Nat):Prop where
 iA:t.iA=some ⟨ib,io,none⟩
 OT:Row w ib io (cM l)
 iN:t.iN=l.length
 i1:1<=t.iN
 i2:t.iN<=2048
 iok:∀i∈l,i.ok
 fA:t.A=some ⟨fb,fo,none⟩
 rS:Row w fb fo (bJ m0)
 fn:t.n=m0.length
 fr:dj t.pc t.halt t.n=true
 gA:t.A'=some ⟨gb,go,none⟩
 grow:Row w gb go (bJ m1)
 gn:t.n'=m1.length
 gr:dj t.fh t.aN t.n'=true
 d0:0<=t.depth
 d1:t.depth<=20
theorem QX.ext {w w'} {t} {l} {m0 m1} {ib io fb fo gb go} (h:QX w t l m0 m1 ib io fb fo gb go) (hx:al w w'):QX w' t l m0 m1 ib io fb fo gb go:=
 {h with OT:=h.OT.ext hx,rS:=h.rS.ext hx,grow:=h.grow.ext hx}
def Gk (t:Tt) (l:List Ins) (m0 m1:List Int):Tr:=⟨0,2^t.depth.toNat,j0 t.pc t.halt m0,j0 t.fh t.aN m1,jz l,t.iN,0,Dg.zero,-1⟩
theorem Xv (b) (t) (l) (m0 m1) (ib io fb fo gb go) (w) (ht:TB w b t) (hm:QX w t l m0 m1 ib io fb fo gb go):
 Calls prog 55 #[.pointer (some ⟨b,0,none⟩)] w λe w'=>∃g,w.heap.size<=g/\e=.returned (.tuple #[.pointer (some ⟨g,0,none⟩),.int .i64 0])/\At w' g (Gk t l m0 m1)/\al w w':=by
 unfold Gk;have HT:=J ht;have HM:=J hm;have hc:=bC ht;have aX:=aj.lt ht;obtain⟨C,hC⟩:=nm' (jz l);obtain⟨S0,kV⟩:=nm' (j0 t.pc t.halt m0);obtain⟨S1,ed⟩:=nm' (j0 t.fh t.aN m1);rw [<-hC,<-kV,<-ed];have⟨HC,HS0,Jz⟩:=J3' hC kV ed;clear hm hC kV ed ht;go_enter func55,ntmps55;go_wp21;have q:=Mr t.iA ib io t.iK l t.iN HM.o.iN HM.o.i1 HM.o.i2 HM.o.iok (λ_=>HM.o.iA) w (λ_=>HM.o.OT);rw [<-HC.o]at q;refine q.mono ?_;rintro e w1 ⟨rfl,aB⟩;clear q hc;go_upto_region 2 with(fail);have y2:al w (w1.alloc (.cells C.cells 25)):=aB.alloc _;have JG:=bN w1 25 C.cells;have jF:b<w1.heap.size:=(bX HT.o aB).lt;generalize (w1.alloc (.cells C.cells 25))=w2 at y2 JG⊢;generalize (w1:World).heap.size=pb at JG jF⊢;have⟨fg,HP2,mP⟩:=J3' y2 JG jF;have JO:=bX HT.o y2;have hc:=bC JO;have hh:=bH JO;have hg:=bG JO;have Iw:=JO.lt;clear aB y2 JG jF JO aX;go_wp21;have q:=Hd t.pc t.halt t.A fb fo t.k m0 t.n HM.o.fn HM.o.fr (λ_=>HM.o.fA) w2 (λ_=>HM.o.rS.ext fg.o);rw [<-HS0.o]at q;refine q.mono ?_;rintro e w3 ⟨rfl,ea⟩;clear q hc hh hg Iw;go_upto_region 5 with(fail);have y4:al w2 (w3.alloc (.cells S0.cells 25)):=ea.alloc _;have hP4:=bN w3 25 S0.cells;have CM:b<w3.heap.size/\pb<w3.heap.size:=⟨(bX HT.o (fg.o.trans ea)).lt,(bX HP2.o ea).lt⟩;generalize (w3.alloc (.cells S0.cells 25))=w4 at y4 hP4⊢;generalize (w3:World).heap.size=sb at hP4 CM⊢;have⟨kB,Et,aiN,ug⟩:=J4' (fg.o.trans y4) hP4 (bX HP2.o y4) CM;have JO:=bX HT.o kB.o;have hc:=bC JO;have hh:=bH JO;have hg:=bG JO;have Iw:=JO.lt;clear ea y4 hP4 CM JO;go_wp21;have q:=Hd t.fh t.aN t.A' gb go t.k' m1 t.n' HM.o.gn HM.o.gr (λ_=>HM.o.gA) w4 (λ_=>HM.o.grow.ext kB.o);rw [<-Jz.o]at q;refine q.mono ?_;rintro e w5 ⟨rfl,iY⟩;clear q hc hh hg Iw;go_upto_region 8 with(fail);have y6:al w4 (w5.alloc (.cells S1.cells 25)):=iY.alloc _;have TT:=bN w5 25 S1.cells;have hb6:b<w5.heap.size/\pb<w5.heap.size/\sb<w5.heap.size:=⟨(bX HT.o (kB.o.trans iY)).lt,(bX aiN.o iY).lt,(bX Et.o iY).lt⟩;generalize (w5.alloc (.cells S1.cells 25))=w6 at y6 TT⊢;generalize (w5:World).heap.size=zb at TT hb6⊢;have⟨sQ,VT,aou,aov⟩:=J4' (kB.o.trans y6) TT (bX aiN.o y6) (bX Et.o y6);have HT6:=J (bX HT.o sQ.o);clear iY y6 TT hb6;go_upto_region 10 with(fail);refine eW (λwz=>al w6 wz) [(0,1),(1,2),(2,2),(3,2),(4,1),(5,2),(6,2),(7,2),(8,2),(9,1),(10,1),(11,1),(12,0),(13,2),(14,2),(15,2),(16,2)] ?_;refine eX ?_;have yd:al w6 w6.drew:=(kR _ w6).drew
 repeat first|refine bV ?_|refine cF yd (by intro w1 hS;have t0:=bX HT6.o hS;have t1:=bC t0;have t2:=t0.lt;have p0:=bX aou.o hS;have p1:=bH p0;have p2:=bG p0;have p3:=p0.lt;have s0:=bX aov.o hS;have s1:=bH s0;have s2:=bG s0;have s3:=s0.lt;have z0:=bX VT.o hS;have z1:=bH z0;have z2:=bG z0;have z3:=z0.lt;exact fE) ?_|refine cD yd ?_
 refine ap (λK hK=>?_);go_simp;go_wp21;refine(ahc C S0 S1 t.iN t.depth HM.o.d0 HM.o.d1 (by have:=HM.o.i1;omega) (by have:=HM.o.i2;omega) _).mono ?_;rintro e w7 ⟨g,hg,rfl,hA,Bv⟩;have y7:=yd.trans Bv;refine hK.out _ _ (λ_=>y7) ?_;clear hK K;refine fc ?_;go_wp21
 go_ret2
 exact⟨g,ay sQ.o.size (ay yd.size hg),rfl,hA,sQ.o.trans y7⟩
abbrev lx (t:Tt) (h s:Int) (g:Nat):Tt:={t with phase:=1,gd:=h+t.window,mW:=s,hv:=some ⟨g,0,none⟩}
theorem XL (b) (t) (l) (m0 m1) (ib io fb fo gb go) (h s) (w) (ht:TB w b t) (hm:QX w t l m0 m1 ib io fb fo gb go) (hp:t.phase=0) (hh:og h=true) (hl:h<=t.gd) (hs:Lg s=true) (pK:¬s=t.bw) (hw:0<=t.window/\t.window<=1048576):
 Calls prog 15 #[.pointer (some ⟨b,0,none⟩),.int .i64 h,.int .i64 s] w λe w'=>∃g,w.heap.size<=g/\e=.returned (.int .i64 0)/\TB w' b (lx t h s g)/\At w' g (Gk t l m0 m1)/\Kept (·=b) w w':=by
 have⟨HT,HM,HB,HW⟩:=J4' ht hm (show 0<=h/\h<=1099511627776 by simpa [og]using hh) hw;have p1:(t.phase !=0)=false:=by simp [hp]
 have p2:decide (t.gd<h)=false:=by simp;omega
 have p3:(s==t.bw)=false:=by simp [pK]
 have hc:=bC ht;have aX:=aj.lt ht;clear hm hp hl pK hw ht;go_enter func15,ntmps15;go_wp21;refine uW (gJ h _) ?_;go_wp21;refine uW (uV s _) ?_;go_wp21;refine(Xv b t l m0 m1 ib io fb fo gb go _ HT.o HM.o).mono ?_;rintro e w1 ⟨g,hg,rfl,hA,hx⟩;have HX:=J hx;have zW:=bX HT.o hx;have⟨VU,HA,HG,gM⟩:=J4' zW hA hg (show¬g=b by omega);clear hc hA hx aX hg;have hc:=bC zW;have hf:=aj.frozen zW;have aX:=zW.lt;go_wp21;go_ret;rw [ld _ (by have:=HB.o;have:=HW.o;omega)];have k:=((((kR (·=b) w1).setCell ⟨b,13,none⟩ (.pointer (some ⟨g,0,none⟩)) (λ_=>rfl)).setCell ⟨b,12,none⟩ (.int .i64 s) (λ_=>rfl)).setCell ⟨b,10,none⟩ (.int .i64 1) (λ_=>rfl)).setCell ⟨b,11,none⟩ (.int .i64 (h+t.window)) (λ_=>rfl);exact⟨g,HG.o,rfl,TB.of (aj.fw (aj.fw (aj.fw (aj.fw VU.o 13 (.pointer (some ⟨g,0,none⟩))) 12 (.int .i64 s)) 10 (.int .i64 1)) 11 (.int .i64 (h+t.window))) rfl,bK HA.o k gM.o,(Kept.ext HX.o).trans k⟩
end Mc
section
open Sq Mc
variable{Ar:List Int}
structure Ou where (vars:List Int) (refused:Bool) (bw cell nT:Int) (asks:List Int) (rest:Int)
structure NC where (vars:iu) (refused:Bool) (bw cell nT:Int) (asks:iu) (rest:Int)
abbrev NC.c (v:NC):Array Value:=#[v.vars.v,.bool v.refused,.int .i64 v.bw,.int .i64 v.cell,.int .i64 v.nT,v.asks.v,.int .i64 v.rest]
abbrev ahf:NC:=⟨⟨none,0,0⟩,false,0,0,0,⟨none,0,0⟩,0⟩
structure uA (w w':World) (v:NC) (o:Ou):Prop where
 vars:w'.ownsRow w.heap.size 21 1 v.vars.v v.vars.n (bJ o.vars)
 asks:w'.ownsRow w.heap.size 21 1 v.asks.v v.asks.n (bJ o.asks)
 refused:v.refused=o.refused
 bw:v.bw=o.bw
 cell:v.cell=o.cell
 nT:v.nT=o.nT
 rest:v.rest=o.rest
def WA (p:Pr):Nat:=(cells p.vars).toNat
def apW (p:Pr) (part:Nat) (halt:Int) (m:List Int):Ou:=
 if halt=2 then⟨[],true,0,0,0,[],0⟩
 else if part=1 then⟨[],false,m.getD (WA p+4) 0,0,0,[],0⟩
 else if part=4 then⟨[],false,0,0,0,(m.drop (WA p+8)).take p.aP.toNat,m.getD (WA p+7) 0⟩
 else if part=2 then⟨m.take (WA p),false,0,m.getD (WA p+5) 0,m.getD (WA p+6) 0,[],0⟩
 else⟨m.take (WA p),false,0,0,0,[],0⟩
theorem Rp {l:List Int} (h:∀x∈l,ax x) (k:Nat):ax (l.getD k 0):=by
 by_cases hk:k<l.length
 .simp [hk];exact h _ (cK hk)
 .simp [hk];unfold ax;omega
def RR (p:Pr) (part:Nat) (V Ar:List Int):Int×Int×List Int:=ky (aR p part) (br p part) (0,0,fR p part V Ar)
theorem ack {p} (h:Bd p) (part:Int) {V:List Int} (hV:∀x∈V,ax x) (hA:∀x∈Ar,ax x):∀x∈fR p part V Ar,ax x:=λx hx=>by
 unfold fR at hx;rw [mK,mK,List.mem_replicate]at hx
 rcases hx with hx|hx|⟨-,e⟩
 .split at hx
  .exact Gb h x hx
  .exact hV x hx
 .exact hA x hx
 .subst e;unfold ax;omega
theorem w_ {p} {part} {V} (h:gx p part V Ar=0) (hk:Bd p):(fR p part V Ar).length=bI p:=by
 obtain⟨_,_,h3,h4,_⟩:=CF h;have hc:=qs p.vars;have h0:=eS p.vars;have hp:=hk.np;unfold fR bI;rw [cy,cy,List.length_replicate];unfold jS at h3;unfold fX at h4
 split at h3
 .rename_i e
  rw [av e]
  split at h4
  .omega
  .split at h4<;>omega
 .rename_i e
  rw [af e]
  split at h4
  .omega
  .split at h4<;>omega
theorem F4 {p} {i} (h:(partOf p i).size<=256):(aR p i).length<=1793:=by
 have:=F3 h;unfold aR;rw [cy];simp only [dT,fB]
 omega
theorem Oa {p} {part} {V} (h:gx p part V Ar=0) (hk:Bd p) (hV:∀x∈V,ax x) (hA:∀x∈Ar,ax x):kr 0 0 (fR p part V Ar):=by
 refine⟨?_,ack hk part hV hA⟩;rw [w_ h hk];have h0:=eS p.vars;have h1:=hk.cells;have hn:(bI p:Int)=cells p.vars+49:=by unfold bI;omega
 simp [dj]
 omega
theorem uA.from_ {w w5 w'} {v} {o} (h:uA w5 w' v o) (hw:w.heap.size<=w5.heap.size):uA w w' v o:=
 ⟨ii h.vars hw,ii h.asks hw,h.refused,h.bw,h.cell,h.nT,h.rest⟩
theorem uA.kept {S} {w w' w2} {v:NC} {o:Ou} (h:uA w w' v o) (hk:Kept S w' w2) (h1:∀g,v.vars.v.ownBlock=some g->¬S g) (h2:∀g,v.asks.v.ownBlock=some g->¬S g):uA w w2 v o:=
 ⟨dy h.vars hk h1,dy h.asks hk h2,h.refused,h.bw,h.cell,h.nT,h.rest⟩
inductive Ca (p:Pr) (part:Int) (V Ar:List Int) (w w':World):Ending->Prop
 |bad (h:¬gx p part V Ar=0):Ca p part V Ar w w' (.returned (.tuple #[.agg ahf.c,.int .i64 (gx p part V Ar)]))
 |runs (K:Nat) (hK:part=K) (h:gx p part V Ar=0) (hh:(RR p K V Ar).2.1=0):Ca p part V Ar w w' (.returned (.tuple #[.agg ahf.c,.int .i64 10]))
 |ok (K:Nat) (hK:part=K) (h:gx p part V Ar=0) (hh:¬(RR p K V Ar).2.1=0) (v:NC) (hv:uA w w' v (apW p K (RR p K V Ar).2.1 (RR p K V Ar).2.2)):
  Ca p part V Ar w w' (.returned (.tuple #[.agg v.c,.int .i64 0]))
theorem Ca.ajf {p} {part} {V} {w w'} {F} (e:F=gx p part V Ar) (h:¬F=0):Ca p part V Ar w w' (.returned (.tuple #[.agg ahf.c,.int .i64 F])):=by
 subst e;exact .bad h
end
namespace Mc
open Sq
variable{G:Prop}{m0 m1:List Int}{L:Nat}
theorem ve (n:Nat) (h1:1<=n) (h2:n<=4096) (w:World):Calls prog 48 #[.int .i64 n] w λe w'=>e=.returned (.int .i64 (jb n))/\w=w':=by
 by_cases h:n<=1
 .have h':(n:Int)<=1:=by omega
  go_enter func48,ntmps48;go_wp21;go_ret;refine⟨?_,rfl⟩;unfold jb;rw [show n - 1=0 by omega]
  rfl
 .have h':¬(n:Int)<=1:=by omega
  have hb:(jb n:Int)<=62:=by have:=(qw n h1 h2).1;omega
  unfold jb at hb;have hw:IntKind.u64.wrap ((n:Int) - 1)=(n:Int) - 1:=u64_in ad ad;go_enter func48,ntmps48;go_wp21;refine(bits_Len64 _ _ ad ad).mono ?_;rintro e w1 ⟨rfl,rfl⟩;go_wp21;go_ret;refine⟨cL ?_,rfl⟩;unfold jb
  omega
abbrev yO (p:Pr) (part ib ik fb:Nat) (fh:Int) (zb gn zk:Nat) (aN bw window:Int) (M:Nat):Array Value:=#[.int .i64 0,.slice (some ⟨fb,0,none⟩) (bI p) (bI p),.int .i64 0,.slice (some ⟨ib,0,none⟩) (aR p part).length ik,.int .i64 (jb M),.int .i64 fh,.slice (some ⟨zb,0,none⟩) gn zk,.int .i64 aN,.int .i64 bw,.int .i64 window]
def apT (w0:World) (p:Pr) (part fb:Nat) (fh:Int) (gn:Nat) (aN bw window:Int) (M:Nat) (m1:List Int) (w:World) (mb ib ik zb zk:Nat):Prop:=
 al w0 w/\aj w mb 117 (yO p part ib ik fb fh zb gn zk aN bw window M)/\Row w ib 0 (cM (aR p part))/\Row w zb 0 (bJ m1)/\w0.heap.size<=mb
abbrev R0 (p:Pr) (part M fb ib ik:Nat) (fh:Int) (zb gn zk:Nat) (aN bw window aS:Int):Tt:=⟨0,some ⟨fb,0,none⟩,bI p,bI p,0,some ⟨ib,0,none⟩,(aR p part).length,ik,jb M,fh,some ⟨zb,0,none⟩,gn,zk,aN,bw,window,0,aS+window,-1,none⟩
def aoG (p:Pr) (part:Nat) (V Ar:List Int) (M:Nat) (fh:Int) (gn:Nat) (aN:Int) (m1:List Int) (bw aS window:Int) (w w':World) (e:Ending):Prop:=
 ∃tb ib ik fb zb zk,w.heap.size<=tb/\e=.returned (.tuple #[.pointer (some ⟨tb,0,none⟩),.int .i64 0])/\TB w' tb (R0 p part M fb ib ik fh zb gn zk aN bw window aS)
  /\QX w' (R0 p part M fb ib ik fh zb gn zk aN bw window aS) (aR p part) (fR p part V Ar) m1 ib 0 fb 0 zb 0/\al w w'
abbrev iZ:Array Value:=#[.int .i64 0,.slice none 0 0,.int .i64 0,.slice none 0 0,.int .i64 0,.int .i64 0,.slice none 0 0,.int .i64 0,.int .i64 0,.int .i64 0]
theorem alz {F M:World->Nat->Prop} (h:(∀W a,F W a->M W a)->G) (h2:∀W a,F W a->M W a):G:=h h2
theorem Zi {F M:World->Nat->Nat->Nat->Prop} (h:(∀W a b c,F W a b c->M W a b c)->G) (h2:∀W a b c,F W a b c->M W a b c):G:=h h2
theorem aew {F M:World->Nat->Nat->Nat->Nat->Nat->Prop} (h:(∀W a b c d e,F W a b c d e->M W a b c d e)->G) (h2:∀W a b c d e,F W a b c d e->M W a b c d e):G:=h h2
theorem Ml (cb N:Nat) (k:Cd) (p:Pr) (part:Nat) (hp5:part<5) (vs ag:iu) (V Ar:List Int) (fh:Int) (gb go gn gk:Nat) (aN:Int) (m1:List Int) (bw aS window:Int) (w:World) (hN:N<=w.heap.size) (hC:gj w N cb k p) (hv:mR w N vs V) (ha:mR w N ag Ar) (hk:Bd p) (rY:gx p part V Ar=0) (hl:¬nR p) (dF:br p part<=4096) (Yt:∀i∈aR p part,i.ok) (dm:kr 0 0 (fR p part V Ar))
 (aG:Row w gb go (bJ m1)) (hgn:gn=m1.length) (hgr:dj fh aN gn=true) (hgw:gn=bI p) (jM:¬aN=0) (hs:Lg bw=true) (hh:og aS=true) (hw:1<=window/\window<=1048576):
 Calls prog 14 #[.pointer (some ⟨cb,0,none⟩),.int .i64 part,vs.v,ag.v,.agg (ai fh (some ⟨gb,go,none⟩) gn gk aN),.int .i64 bw,.int .i64 aS,.int .i64 window] w λe w'=>aoG p part V Ar (br p part) fh gn aN m1 bw aS window w w' e:=by
 obtain⟨M,hM⟩:=nm' (br p part);have EA:k.m part=(M:Int):=by rw [hM,hC.most part hp5]
 have HM:=J (show 1<=M/\M<=4096/\k.m part=(M:Int)from⟨by rw [hM];unfold br bW;omega,by rw [hM];exact dF,EA⟩);rw [<-hM];clear hM EA;have⟨HC,HV,HA,HN,HK,HL,tQ,WK,abh,aoo,aiP,HGN,HB,HW⟩:=J14 hC hv ha hN hk hl dF rY Yt dm aG (df hgn (df hgr hgw)) (show 0<=aS/\aS<=1099511627776 by simpa [og]using hh) hw;have p1:(aN==0)=false:=by simp [jM]
 have p2:decide (window<1)=false:=by simp;omega
 have p3:decide (window>1048576)=false:=by simp;omega
 clear hC hv ha hN hk hl dF rY Yt dm aG hgn hgr hgw hw jM;have y0:=dz w (.cells (ai fh (some ⟨gb,go,none⟩) gn gk aN) 47);have b0:=bN w 47 (ai fh (some ⟨gb,go,none⟩) gn gk aN);go_enter func14,ntmps14;go_upto_region 1 with(fail);generalize (w.alloc (.cells (ai fh (some ⟨gb,go,none⟩) gn gk aN) 47))=W1 at y0 b0⊢;generalize Wk:(w:World).heap.size=lb at b0⊢;have⟨HLB,vt,bT⟩:=J3' Wk b0 y0;clear b0 y0 Wk;go_wp21;refine(qp cb N k p part vs ag V Ar _ (ay HN.o bT.o.size) (HC.o.ext bT.o) (HV.o.ext bT.o) (HA.o.ext bT.o) HK.o).mono ?_;rintro e w2 ⟨y2,ho⟩;have fg:=J (bT.o.trans y2);have mP:=J (bX vt.o y2);clear y2
 cases ho with
 |bad abU=>exact absurd WK.o abU
 |ok _ fb qt hF=>
  have HF2:=J hF;clear hF qt;have y3:=dz w2 (.cells (ai 0 (some ⟨fb,0,none⟩) (bI p) (bI p) 0) 47);have b3:=bN w2 47 (ai 0 (some ⟨fb,0,none⟩) (bI p) (bI p) 0);go_upto_region 4 with(fail);generalize (w2.alloc (.cells (ai 0 (some ⟨fb,0,none⟩) (bI p) (bI p) 0) 47))=w3 at y3 b3⊢;generalize (w2:World).heap.size=sb at b3⊢;have⟨eP,ot,HS3,HF3⟩:=J4' (fg.o.trans y3) (bX mP.o y3) b3 (bX HF2.o y3);clear y3 b3;go_wp21;refine uW (uV bw _) ?_;go_wp21;refine uW (gJ aS _) ?_;go_upto_region 10 with(fail);have r1:=HGN.o.2.1
  have Fk:0<=k.cells/\k.cells<=1000:=by
   have:=HK.o.cells;have:=eS p.vars;rw [HC.o.kc];omega
  have zj:=J Fk
  have g1:((gn:Int) !=k.cells+49)=false:=by
   have:=HGN.o.2.2;unfold bI at this;rw [HC.o.kc]at Fk⊢;have e:(gn:Int)=cells p.vars+49:=by omega
   rw [e];simp
  clear Fk;refine aaz ?_;have yd:al w3 w3.drew:=(kR _ w3).drew
  repeat first|refine bV ?_|refine cF yd Qv ?_|refine cD yd ?_
  refine ap (λK hK=>?_);go_simp;go_wp21;refine kU (fM fh aN (some ⟨gb,go,none⟩) gn gk _) λw4 eV=>?_;have y4:=yd.trans eV;refine hK.out _ _ (λ_=>y4) ?_;clear hK K
  repeat first|refine bV ?_|refine cF y4 Qv ?_|refine cD y4 ?_
  refine ap (λK hK=>?_);go_simp;go_wp21;refine uW (uH cb k _ (bX HC.o.box (eP.o.trans y4)) zj.o) ?_;refine hK.out _ _ (λ_=>y4) ?_;clear hK K
  repeat first|refine bV ?_|refine cF y4 Qv ?_|refine cD y4 ?_
  refine fc ?_;go_upto_region 12 with(fail);have⟨kB,ug,ry,HF4⟩:=J4' (eP.o.trans y4) (bX ot.o y4) (bX HS3.o y4) (bX HF3.o y4);obtain⟨wV,ib0,hiA,hib,KV⟩:=HC.o.ins part hp5
  have hsz:(partOf p part).size<=256:=by
   rcases Nat.lt_or_ge 256 (partOf p part).size with q|q
   .exact absurd ⟨part,hp5,q⟩ HL.o
   .exact q
  have Bt:=F4 hsz;have AQ:1<=(aR p part).length:=by unfold aR;simp
  have WM:=J (df wV (df hiA KV));have Er:=J (df AQ Bt);clear y4 wV hiA hib KV hsz Bt AQ r1 g1;apply aew (F:=apT w4 p part fb fh gn aN bw window M m1)
  case h=>
   intro jX;have EW:=J jX;clear jX
  -- anV
   apply aew (F:=(λW mb ib ik zb zk=>al w4 W/\aj W mb 117 iZ/\w4.heap.size<=mb/\Row W ib 0 (cM (aR p part))/\¬ib=mb/\Row W zb 0 (bJ m1)/\¬zb=mb))
   case h=>
    intro KK;have aiY:=J KK;clear KK;apply Zi (F:=(λW mb ib ik=>al w4 W/\aj W mb 117 iZ/\w4.heap.size<=mb/\Row W ib 0 (cM (aR p part))/\¬ib=mb))
    case h=>
     intro KK;have aiX:=J KK;clear KK;apply Zi (F:=(λW mb ib ik=>al w4 W/\aj W mb 117 iZ/\w4.heap.size<=mb/\Row W ib 0 (cM (aR p part))/\¬ib=mb))
     case h=>
      intro KK;have aiW:=J KK;clear KK;apply Zi (F:=(λW mb ib ik=>al w4 W/\aj W mb 117 iZ/\w4.heap.size<=mb/\Row W ib 0 (cM (aR p part))/\¬ib=mb))
      case h=>
       intro KK;have aiV:=J KK;clear KK;apply alz (F:=(λW mb=>al w4 W/\aj W mb 117 iZ/\w4.heap.size<=mb))
       case h=>
        intro KK;have jX:=J KK;clear KK;refine WB (λwz=>al w4 wz) (.op 0 1 (.op 1 2 (.op 2 2 (.op 4 2 (.op 5 2 (.op 8 1 (.op 10 2 (.op 11 2 (.fork 3 (.fork 6 (.fork 7 (.fork 9 (.op 12 2 (.op 13 0 (.op 14 0 .nil))) 13 (.op 9 0 (.op 12 2 (.op 14 0 .nil)))) 13 (.op 7 0 (.op 9 0 (.op 12 2 (.op 14 0 .nil))))) 13 (.op 6 0 (.op 7 0 (.op 9 0 (.op 12 2 (.op 14 0 .nil)))))) 13 (.op 3 0 (.op 6 0 (.op 7 0 (.op 9 0 (.op 12 2 (.op 14 0 .nil))))))))))))))) ?_;refine WC ?_;have YD:=J (pj w4)
        (repeat (first|refine oh ?_|((apply c_);(· exact YD.o);(· go_simp);(· (intro w1 hS;have d0:=bX ry.o hS;have d1:=bH d0;have d2:=bG d0;have d4:=d0.lt;have e0:=bX ug.o hS;have e1:=bH e0;have e2:=bG e0;have e4:=e0.lt;go_simp;try with_reducible rfl));refine iR ?_)|((apply cZ);(· exact YD.o);(· go_simp);refine iR ?_)))
        refine gL ?_ ?_
        rotate_left
        .skip
         refine cw (λK hK=>?_);go_simp;have y1:al w4 (w4.alloc (.cells iZ 117)).drew:=(dz w4 _).drew;have z2:=aj.drew (bN w4 117 iZ);refine hK.out _ _ (λ_=>y1) ?_;clear hK K;generalize (w4.alloc (.cells iZ 117)).drew=wq at y1 z2⊢;generalize hq:w4.heap.size=mb at z2⊢;have mg:=Nat.le_of_eq hq;clear hq
         (repeat (first|refine oh ?_|((apply c_);(· exact y1);(· go_simp);(· (intro w1 hS;have d0:=bX ry.o hS;have d1:=bH d0;have d2:=bG d0;have d4:=d0.lt;have e0:=bX ug.o hS;have e1:=bH e0;have e2:=bG e0;have e4:=e0.lt;go_simp;try with_reducible rfl));refine iR ?_)|((apply cZ);(· exact y1);(· go_simp);refine iR ?_)))
         exact jX.o _ mb ⟨y1,z2,mg⟩
        refine cw (λK hK=>?_);go_simp;go_wp21;refine(rL cb k _ (bX HC.o.box (kB.o.trans (YD.o))) part hp5 ib0 0 (aR p part) WM.o.1 adi adi WM.o.2.1 (WM.o.2.2.ext (kB.o.trans (YD.o)))).mono ?_;rintro e w3 ⟨v,rfl,hov,hx⟩;have y4:=(YD.o).trans hx;obtain⟨ib,ik,rfl,Wf,hig,_⟩:=fq hov Er.o.1 ae;have sN:=J Wf;refine hK.out _ _ (λ_=>y4) ?_;clear hK K hov Wf hx hig
        (repeat (first|refine oh ?_|((apply c_);(· exact y4);(· go_simp);(· (intro w1 hS;have d0:=bX ry.o hS;have d1:=bH d0;have d2:=bG d0;have d4:=d0.lt;have e0:=bX ug.o hS;have e1:=bH e0;have e2:=bG e0;have e4:=e0.lt;go_simp;try with_reducible rfl));refine iR ?_)|((apply cZ);(· exact y4);(· go_simp);refine iR ?_)))
        refine gL ?_ ?_
        rotate_left
        .skip
         refine cw (λK hK=>?_);go_simp;have y5:al w4 (w3.alloc (.cells iZ 117)):=(y4).alloc _;have z6:=bN w3 117 iZ;have sx:al w3 (w3.alloc (.cells iZ 117)):=dz w3 _;have jI:=J (show¬ib=w3.heap.size by have:=sN.o.lt;omega);replace sN:=J (sN.o.ext sx);refine hK.out _ _ (λ_=>y5) ?_;clear hK K;have mg:w4.heap.size<=w3.heap.size:=(y4).size;generalize (w3.alloc (.cells iZ 117))=wq at y5 z6 sN⊢;generalize w3.heap.size=mb at z6 mg jI⊢
         (repeat (first|refine oh ?_|((apply c_);(· exact y5);(· go_simp);(· (intro w1 hS;have d0:=bX ry.o hS;have d1:=bH d0;have d2:=bG d0;have d4:=d0.lt;have e0:=bX ug.o hS;have e1:=bH e0;have e2:=bG e0;have e4:=e0.lt;go_simp;try with_reducible rfl));refine iR ?_)|((apply cZ);(· exact y5);(· go_simp);refine iR ?_)))
         exact aiV.o _ mb ib ik ⟨y5,z6,mg,sN.o,jI.o⟩
        refine cw (λK hK=>?_);go_simp;go_wp21;refine uW (sY cb k _ (bX HC.o.box (kB.o.trans (y4))) part hp5) ?_;rw [HM.o.2.2];refine hK.out _ _ (λ_=>y4) ?_;clear hK K
        (repeat (first|refine oh ?_|((apply c_);(· exact y4);(· go_simp);(· (intro w1 hS;have d0:=bX ry.o hS;have d1:=bH d0;have d2:=bG d0;have d4:=d0.lt;have e0:=bX ug.o hS;have e1:=bH e0;have e2:=bG e0;have e4:=e0.lt;go_simp;try with_reducible rfl));refine iR ?_)|((apply cZ);(· exact y4);(· go_simp);refine iR ?_)))
        refine gL ?_ ?_
        rotate_left
        .skip
         refine cw (λK hK=>?_);go_simp;have y9:al w4 (w3.alloc (.cells iZ 117)):=(y4).alloc _;have z10:=bN w3 117 iZ;have sx:al w3 (w3.alloc (.cells iZ 117)):=dz w3 _;have jI:=J (show¬ib=w3.heap.size by have:=sN.o.lt;omega);replace sN:=J (sN.o.ext sx);refine hK.out _ _ (λ_=>y9) ?_;clear hK K;have mg:w4.heap.size<=w3.heap.size:=(y4).size;generalize (w3.alloc (.cells iZ 117))=wq at y9 z10 sN⊢;generalize w3.heap.size=mb at z10 mg jI⊢
         (repeat (first|refine oh ?_|((apply c_);(· exact y9);(· go_simp);(· (intro w1 hS;have d0:=bX ry.o hS;have d1:=bH d0;have d2:=bG d0;have d4:=d0.lt;have e0:=bX ug.o hS;have e1:=bH e0;have e2:=bG e0;have e4:=e0.lt;go_simp;try with_reducible rfl));refine iR ?_)|((apply cZ);(· exact y9);(· go_simp);refine iR ?_)))
         exact aiW.o _ mb ib ik ⟨y9,z10,mg,sN.o,jI.o⟩
        refine cw (λK hK=>?_);go_simp;go_wp21;refine uW (ve M HM.o.1 HM.o.2.1 _) ?_;refine hK.out _ _ (λ_=>y4) ?_;clear hK K
        (repeat (first|refine oh ?_|((apply c_);(· exact y4);(· go_simp);(· (intro w1 hS;have d0:=bX ry.o hS;have d1:=bH d0;have d2:=bG d0;have d4:=d0.lt;have e0:=bX ug.o hS;have e1:=bH e0;have e2:=bG e0;have e4:=e0.lt;go_simp;try with_reducible rfl));refine iR ?_)|((apply cZ);(· exact y4);(· go_simp);refine iR ?_)))
        refine gL ?_ ?_
        rotate_left
        .skip
         refine cw (λK hK=>?_);go_simp;have y13:al w4 (w3.alloc (.cells iZ 117)):=(y4).alloc _;have z14:=bN w3 117 iZ;have sx:al w3 (w3.alloc (.cells iZ 117)):=dz w3 _;have jI:=J (show¬ib=w3.heap.size by have:=sN.o.lt;omega);replace sN:=J (sN.o.ext sx);refine hK.out _ _ (λ_=>y13) ?_;clear hK K;have mg:w4.heap.size<=w3.heap.size:=(y4).size;generalize (w3.alloc (.cells iZ 117))=wq at y13 z14 sN⊢;generalize w3.heap.size=mb at z14 mg jI⊢
         (repeat (first|refine oh ?_|((apply c_);(· exact y13);(· go_simp);(· (intro w1 hS;have d0:=bX ry.o hS;have d1:=bH d0;have d2:=bG d0;have d4:=d0.lt;have e0:=bX ug.o hS;have e1:=bH e0;have e2:=bG e0;have e4:=e0.lt;go_simp;try with_reducible rfl));refine iR ?_)|((apply cZ);(· exact y13);(· go_simp);refine iR ?_)))
         exact aiX.o _ mb ib ik ⟨y13,z14,mg,sN.o,jI.o⟩
        refine cw (λK hK=>?_);go_simp;go_wp21;refine(lE fh aN gb go gk m1 gn HGN.o.1 (bU HGN.o.2.1).1 (by have:=(bU HGN.o.2.1).2.1;omega) _ (aiP.o.ext (kB.o.trans (y4)))).mono ?_;rintro e w15 ⟨v,rfl,zb,zk,rfl,zL,hx⟩;have y16:=(y4).trans hx;replace sN:=J (sN.o.ext hx);have BX:=J zL.row;have hmg:=zL.ge;refine hK.out _ _ (λ_=>y16) ?_;clear hK K zL hx hmg
        (repeat (first|refine oh ?_|((apply c_);(· exact y16);(· go_simp);(· (intro w1 hS;have d0:=bX ry.o hS;have d1:=bH d0;have d2:=bG d0;have d4:=d0.lt;have e0:=bX ug.o hS;have e1:=bH e0;have e2:=bG e0;have e4:=e0.lt;go_simp;try with_reducible rfl));refine iR ?_)|((apply cZ);(· exact y16);(· go_simp);refine iR ?_)))
        refine cw (λK hK=>?_);go_simp;have y17:al w4 (w15.alloc (.cells iZ 117)):=(y16).alloc _;have z18:=bN w15 117 iZ;have sx:al w15 (w15.alloc (.cells iZ 117)):=dz w15 _;have jI:=J (show¬ib=w15.heap.size by have:=sN.o.lt;omega);replace sN:=J (sN.o.ext sx);have uk:=J (show¬zb=w15.heap.size by have:=BX.o.lt;omega);replace BX:=J (BX.o.ext sx);refine hK.out _ _ (λ_=>y17) ?_;clear hK K;have mg:w4.heap.size<=w15.heap.size:=(y16).size;generalize (w15.alloc (.cells iZ 117))=wq at y17 z18 sN BX⊢;generalize w15.heap.size=mb at z18 mg jI uk⊢
        (repeat (first|refine oh ?_|((apply c_);(· exact y17);(· go_simp);(· (intro w1 hS;have d0:=bX ry.o hS;have d1:=bH d0;have d2:=bG d0;have d4:=d0.lt;have e0:=bX ug.o hS;have e1:=bH e0;have e2:=bG e0;have e4:=e0.lt;go_simp;try with_reducible rfl));refine iR ?_)|((apply cZ);(· exact y17);(· go_simp);refine iR ?_)))
        exact aiY.o _ mb ib ik zb zk ⟨y17,z18,mg,sN.o,jI.o,BX.o,uk.o⟩
       intro W mb hF;obtain⟨y,z,mg⟩:=hF;have⟨HZ,sM,HY⟩:=J3' z mg y;clear y z mg;refine cw (λK hK=>?_);go_simp;go_wp21;have sd:=HZ.o.lt;refine(rL cb k _ (bX HC.o.box (kB.o.trans (HY.o))) part hp5 ib0 0 (aR p part) WM.o.1 adi adi WM.o.2.1 (WM.o.2.2.ext (kB.o.trans (HY.o)))).mono ?_;rintro e w19 ⟨v,rfl,hov,hx⟩;have y20:=(HY.o).trans hx;replace HZ:=J (bX HZ.o hx);obtain⟨ib,ik,rfl,Wf,hig,_⟩:=fq hov Er.o.1 ae;have sN:=J Wf;have jI:=J (show¬ib=mb by have:=hig;omega);clear sd;refine hK.out _ _ (λ_=>y20) ?_;clear hK K hov Wf hx hig
       (repeat (first|refine oh ?_|((apply c_);(· exact y20);(· go_simp);(· (intro w1 hS;have d0:=bX ry.o hS;have d1:=bH d0;have d2:=bG d0;have d4:=d0.lt;have e0:=bX ug.o hS;have e1:=bH e0;have e2:=bG e0;have e4:=e0.lt;go_simp;try with_reducible rfl));refine iR ?_)|((apply cZ);(· exact y20);(· go_simp);refine iR ?_)))
       exact aiV.o _ mb ib ik ⟨y20,HZ.o,sM.o,sN.o,jI.o⟩
      intro W mb ib ik hF;obtain⟨y,z,mg,BW,nD⟩:=hF;have⟨HZ,sM,HY,sN,jI⟩:=J5' z mg y BW nD;clear y z mg BW nD;refine cw (λK hK=>?_);go_simp;go_wp21;refine uW (sY cb k _ (bX HC.o.box (kB.o.trans (HY.o))) part hp5) ?_;rw [HM.o.2.2];refine hK.out _ _ (λ_=>HY.o) ?_;clear hK K
      (repeat (first|refine oh ?_|((apply c_);(· exact HY.o);(· go_simp);(· (intro w1 hS;have d0:=bX ry.o hS;have d1:=bH d0;have d2:=bG d0;have d4:=d0.lt;have e0:=bX ug.o hS;have e1:=bH e0;have e2:=bG e0;have e4:=e0.lt;go_simp;try with_reducible rfl));refine iR ?_)|((apply cZ);(· exact HY.o);(· go_simp);refine iR ?_)))
      exact aiW.o _ mb ib ik ⟨HY.o,HZ.o,sM.o,sN.o,jI.o⟩
     intro W mb ib ik hF;obtain⟨y,z,mg,BW,nD⟩:=hF;have⟨HZ,sM,HY,sN,jI⟩:=J5' z mg y BW nD;clear y z mg BW nD;refine cw (λK hK=>?_);go_simp;go_wp21;refine uW (ve M HM.o.1 HM.o.2.1 _) ?_;refine hK.out _ _ (λ_=>HY.o) ?_;clear hK K
     (repeat (first|refine oh ?_|((apply c_);(· exact HY.o);(· go_simp);(· (intro w1 hS;have d0:=bX ry.o hS;have d1:=bH d0;have d2:=bG d0;have d4:=d0.lt;have e0:=bX ug.o hS;have e1:=bH e0;have e2:=bG e0;have e4:=e0.lt;go_simp;try with_reducible rfl));refine iR ?_)|((apply cZ);(· exact HY.o);(· go_simp);refine iR ?_)))
     exact aiX.o _ mb ib ik ⟨HY.o,HZ.o,sM.o,sN.o,jI.o⟩
    intro W mb ib ik hF;obtain⟨y,z,mg,BW,nD⟩:=hF;have⟨HZ,sM,HY,sN,jI⟩:=J5' z mg y BW nD;clear y z mg BW nD;refine cw (λK hK=>?_);go_simp;go_wp21;have sd:=HZ.o.lt;refine(lE fh aN gb go gk m1 gn HGN.o.1 (bU HGN.o.2.1).1 (by have:=(bU HGN.o.2.1).2.1;omega) _ (aiP.o.ext (kB.o.trans (HY.o)))).mono ?_;rintro e w25 ⟨v,rfl,zb,zk,rfl,zL,hx⟩;have y26:=(HY.o).trans hx;replace sN:=J (sN.o.ext hx);replace HZ:=J (bX HZ.o hx);have BX:=J zL.row;have hmg:=zL.ge;have uk:=J (show¬zb=mb by have:=hmg;omega);clear sd;refine hK.out _ _ (λ_=>y26) ?_;clear hK K zL hx hmg
    (repeat (first|refine oh ?_|((apply c_);(· exact y26);(· go_simp);(· (intro w1 hS;have d0:=bX ry.o hS;have d1:=bH d0;have d2:=bG d0;have d4:=d0.lt;have e0:=bX ug.o hS;have e1:=bH e0;have e2:=bG e0;have e4:=e0.lt;go_simp;try with_reducible rfl));refine iR ?_)|((apply cZ);(· exact y26);(· go_simp);refine iR ?_)))
    exact aiY.o _ mb ib ik zb zk ⟨y26,HZ.o,sM.o,sN.o,jI.o,BX.o,uk.o⟩
   intro W mb ib ik zb zk hF;obtain⟨y,z,mg,BW,nD,aiE,Xk⟩:=hF;have⟨HZ,sM,HY,sN,jI,BX,uk⟩:=J7' z mg y BW nD aiE Xk;clear y z mg BW nD aiE Xk;have hz1:=bH HZ.o;have hz2:=aj.aJ HZ.o;have hz3:=HZ.o.lt;refine JQ ?_;have dF:=Kept.putAt (S:=(·=mb)) (kR _ W) mb 0 (yO p part ib ik fb fh zb gn zk aN bw window M) (λ_=>rfl);have hyz:al w4 (putAt W mb 0 (yO p part ib ik fb fh zb gn zk aN bw window M)):=Kept.putAt HY.o _ _ _ (λh=>by have:=sM.o;omega);have hbz:aj (putAt W mb 0 (yO p part ib ik fb fh zb gn zk aN bw window M)) mb 117 (yO p part ib ik fb fh zb gn zk aN bw window M):=aj.cI HZ.o 0 _;have aei:=sN.o.kept dF jI.o;have zS:=BX.o.kept dF uk.o;clear dF;generalize (putAt W mb 0 (yO p part ib ik fb fh zb gn zk aN bw window M))=wF at hyz hbz aei zS⊢;exact EW.o _ _ _ _ _ _ ⟨hyz,hbz,aei,zS,sM.o⟩
  -- END
  intro w5 mb ib ik zb zk YB;obtain⟨y5,Fi,hi5,hz5,apj⟩:=YB;have h1:=bH Fi;have h2:=bG Fi;have h3:=bC Fi;have h4:=Fi.lt;have⟨uz,HI5,HZ5,HF5⟩:=J4' (kB.o.trans y5) hi5 hz5 (bX HF4.o y5);clear y5 Fi hi5 hz5 apj;go_wp21
  go_ret2
  rw [ld _ (by have:=HB.o;have:=HW.o;omega)];have ya:=dz w5 (.cells (R0 p part M fb ib ik fh zb gn zk aN bw window aS).cells 120);refine⟨w5.heap.size,ib,ik,fb,zb,zk,uz.o.size,rfl,bN w5 _ _,?_,uz.o.trans ya⟩;have hl:=Er.o;have hb:=qw M HM.o.1 HM.o.2.1;exact⟨rfl,HI5.o.ext ya,rfl,hl.1,by show(aR p part).length<=2048;omega,abh.o,rfl,(Row.cR HF5.o).ext ya,(w_ WK.o HK.o).symm,by have:=aoo.o.right;rw [w_ WK.o HK.o]at this;exact this,rfl,HZ5.o.ext ya,HGN.o.1,HGN.o.2.1,by show(0:Int)<=(jb M:Int);omega,by show(jb M:Int)<=20;omega⟩
theorem zh (b c) (t) (r) (w:World) (ht:TB w b t) (hv:t.hv=some ⟨c,0,none⟩) (hr:At w c r):
 Calls prog 22 #[.pointer (some ⟨b,0,none⟩)] w λe w'=>e=.returned (.tuple #[.int .i64 r.from_,.int .i64 r.steps,.agg r.before.cells,.agg r.after.cells])/\al w w':=by
 have HT:=J ht;have HR:=J hr;have aK:al w _:=(dS w (.cells Dg.zero.cells 25)).alloc (.cells Dg.zero.cells 25);have hA0:aj _ w.heap.size 25 Dg.zero.cells:=aj.alloc (bN w 25 Dg.zero.cells) (.cells Dg.zero.cells 25);have fU:aj _ (w.heap.size+1) 25 Dg.zero.cells:=aj.d_ (w.alloc (.cells Dg.zero.cells 25)) _ _ _ aC;clear ht hr;go_enter func22,ntmps22;go_upto_region 1 with(fail);generalize ((w.alloc (.cells Dg.zero.cells 25)).alloc (.cells Dg.zero.cells 25))=W1 at aK hA0 fU⊢;generalize hg:(w:World).heap.size=g at hA0 fU⊢;have⟨HG,dX,HA0,HR0⟩:=J4' hg aK hA0 fU;have zW:=bX HT.o aK;have hc:=bC zW;have hl:=zW.lt;clear aK hA0 fU hg;go_wp21;refine kU (xy c r _ (bX HR.o dX.o)) λw2 bM=>?_;have b1:=bX HA0.o bM;have b2:=bX HR0.o bM;have⟨Jy,mP,fN⟩:=J3' b1 b2 (dX.o.trans bM);have a1:=bH b1;have a2:=aj.aJ b1;have a3:=b1.lt;have c1:=bH b2;have c2:=aj.aJ b2;have c3:=b2.lt;clear hc hl zW bM b1 b2;go_wp21;have k1:Kept (λi=>i=g∨i=g+1) w2 (putAt (putAt w2 g 0 r.before.cells) (g+1) 0 r.after.cells):=Kept.putAt (Kept.putAt (kR _ w2) _ _ _ (λ_=>.inl rfl)) _ _ _ (λ_=>.inr rfl);refine DE results22 rfl rfl rfl dK ke (bK (aj.cI Jy.o 0 r.before.cells) (Kept.putAt (S:=(·=g+1)) (kR _ _) (g+1) 0 r.after.cells (λ_=>rfl)) ad) dK ke (aj.cI (bK mP.o (Kept.putAt (S:=(·=g)) (kR _ _) g 0 r.before.cells (λ_=>rfl)) ad) 0 r.after.cells) ⟨rfl,?_⟩;exact Kept.putAt (Kept.putAt fN.o _ _ _ (λh=>by have:=HG.o;omega)) _ _ _ (λh=>by have:=HG.o;omega)
theorem tt (b off n cap:Nat) (l:List Dg) (hn:n=l.length) (hm:n<=17592186044416) (a s i:Nat) (h2:2<=s) (hs:s<=17592186044416) (hi:i=a+s / 2) (wV:i<n) (w:World) (hr:Row w b off (dc l)) (d:Dg) (hd:l[i]?=some d):
 Calls prog 10 #[.slice (some ⟨b,off,none⟩) n cap,.int .i64 a,.int .i64 s] w λe w'=>e=.returned (.tuple #[.agg d.cells,.int .i64 0])/\al w w':=by
 have aK:=dz w (.cells Dg.zero.cells 25);have hA0:=bN w 25 Dg.zero.cells;have wU:i<l.length:=by omega
 obtain⟨hh,hg⟩:=(hr.ext aK).dig i wU;rw [List.getElem?_eq_getElem wU]at hd;injection hd with hd;rw [hd]at hg;have aX:=(hr.ext aK).lt;have q1:decide ((s:Int)<2)=false:=by simp;omega
 have q0:decide ((a:Int)<0)=false:=by simp
 have q2:decide (n<=a)=false:=by simp;omega
 have q6:wrap64 ((n:Int) - a)=(n:Int) - a:=ld _ ad;have q3:decide ((n:Int) - a<=(s:Int) / 2)=false:=by simp;omega
 have q4:wrap64 ((a:Int)+(s:Int) / 2)=(i:Int):=by rw [ld _ ad];omega
 have q5:(i:Int)<n:=by omega
 have HR:=J hr;have HI:=J (df hn (df hm (df hs wV)));clear hr hd hn hm wV h2 hi wU;go_enter func10,ntmps10;go_upto_region 1 with(fail);generalize (w.alloc (.cells Dg.zero.cells 25))=W1 at aK hA0 hh hg aX⊢;generalize hgg:(w:World).heap.size=g at hA0⊢;have HG:=J hgg;have dX:=J aK;have a1:=bH hA0;have a2:=aj.aJ hA0;have a3:=hA0.lt;clear hgg aK;go_wp21;refine eB (t:=25) (g:=g) (cs:=d.cells) results10 rfl rfl dK ke (by exact aj.cI hA0 0 _) ⟨rfl,?_⟩;exact Kept.putAt dX.o _ _ _ (λh=>by have:=HG.o;omega)
theorem BN (c:List Ins) (r:MX):∀j,gU c r j=ky c j r
 |0=>rfl
 |j+1=>by
  rw [C4,<-BN c r j]
  rfl
structure Ks where (cb part:Nat) (vs ag:iu) (fb fk gb gk tb tk lb lk:Nat) (fh aN:Int)
abbrev Ks.cells (x:Ks) (n N L:Nat) (d:Int):Array Value:=#[.pointer (some ⟨x.cb,0,none⟩),.int .i64 x.part,x.vs.v,x.ag.v,.int .i64 0,.slice (some ⟨x.fb,0,none⟩) n x.fk,.int .i64 0,.int .i64 x.fh,.slice (some ⟨x.gb,0,none⟩) n x.gk,.int .i64 x.aN,.slice (some ⟨x.tb,0,none⟩) (N+1) x.tk,.int .i64 d,.slice (some ⟨x.lb,0,none⟩) L x.lk]
structure NA (w:World) (x:Ks) (l:List Ins) (m0 m1:List Int) (n N L:Nat):Prop where
 ops:OpsAt w
 Fq:Row w x.lb 0 (cM l)
 ll:L=l.length
 l1:1<=L
 l2:L<=2048
 iok:∀i∈l,i.ok
 rS:Row w x.fb 0 (bJ m0)
 fn:n=m0.length
 fok:kr 0 0 m0
 grow:Row w x.gb 0 (bJ m1)
 gn:n=m1.length
 tl:N<=128
 last:(x.fh,x.aN,m1)=gU l (0,0,m0) N
 Fw:Row w x.tb 0 (dc ((List.range (N+1)).map (ru l (0,0,m0))))
theorem NA.ext {w w'} {x} {l} {n N} (h:NA w x l m0 m1 n N L) (hx:al w w'):NA w' x l m0 m1 n N L:=
 {h with ops:=h.ops.ext hx,Fq:=h.Fq.ext hx,rS:=h.rS.ext hx,grow:=h.grow.ext hx,Fw:=h.Fw.ext hx}
theorem NA.kept {S} {w w'} {x} {l:List Ins} {n N:Nat} (h:NA w x l m0 m1 n N L) (hx:Kept S w w') (h0:¬S 0) (h1:¬S x.lb) (h2:¬S x.fb) (h3:¬S x.gb) (h4:¬S x.tb):NA w' x l m0 m1 n N L:=
 {h with ops:=h.ops.kept hx h0,Fq:=h.Fq.kept hx h1,rS:=h.rS.kept hx h2,grow:=h.grow.kept hx h3,Fw:=h.Fw.kept hx h4}
theorem NA.agc {w} {x} {l} {n N:Nat} (h:NA w x l m0 m1 n N L):lm w (some ⟨x.lb,0,none⟩) x.lb 0 L l x.fb 0 n 0 0 m0:=
 ⟨h.ops,λ_=>rfl,λ_=>h.Fq,h.ll,h.l2,h.fn,by rw [h.fn];exact h.fok.right,h.fok.Dd,h.rS⟩
theorem L8 (x) (l) (m0 m1) (n N L) (d) (j:Nat) (hj:j<=1048576) (w:World) (hk:NA w x l m0 m1 n N L):
 Calls prog 56 #[.agg (x.cells n N L d),.int .i64 j] w λe w'=>∃s:Ws,e=.returned (.agg s.cells)/\pw w' s (jC l (gU l (0,0,m0) j).1 (gU l (0,0,m0) j).2.1 (gU l (0,0,m0) j).2.2)/\al w w':=by
 have HK:=J hk;obtain⟨r,hr⟩:=nm' (gU l (0,0,m0) j);rw [<-hr];have HR:=J (hr.trans (BN l (0,0,m0) j));have hok:=(nw (c:=l) (r:=(0,0,m0)) (by rw [<-hk.ll];exact hk.l2) hk.fok) j;rw [<-hr]at hok;have oN:=J hok;have y0:=(dz w (.cells (x.cells n N L d) 50)).alloc (.cells nY 74);have b0:aj _ w.heap.size 50 (x.cells n N L d):=aj.alloc (bN w _ _) (.cells nY 74);have s0:aj _ (w.heap.size+1) 74 nY:=aj.d_ (w.alloc (.cells (x.cells n N L d) 50)) _ _ _ aC;clear hk hr hok;go_enter func56,ntmps56;go_upto_region 1 with(fail);generalize ((w.alloc (.cells (x.cells n N L d) 50)).alloc (.cells nY 74))=W1 at y0 b0 s0⊢;generalize zF:(w:World).heap.size=kb at b0 s0⊢;have⟨EP,vt,HS0,bT⟩:=J4' zF b0 s0 y0;have i1:=bC b0;have i2:=bH b0;have i3:=bG b0;have i4:=b0.lt;clear b0 s0 y0 zF;go_wp21;refine(Jp (some ⟨x.lb,0,none⟩) x.lb 0 L x.lk l 0 0 x.fb 0 n x.fk m0 j hj _ (HK.o.ext bT.o).agc).mono ?_;rintro e w2 ⟨v,k,rfl,hkj,g,c,rfl,hm,bM⟩;rw [<-HR.o]at hm⊢;have⟨HM,fg,mP,tP⟩:=J4' hm (bT.o.trans bM) (bX vt.o bM) (bX HS0.o bM);clear i1 i2 i3 i4 hm bM;have y3:=dz w2 (.cells (ai r.1 (some ⟨g,0,none⟩) n c r.2.1) 47);have b3:=bN w2 47 (ai r.1 (some ⟨g,0,none⟩) n c r.2.1);go_upto_region 2 with(fail);generalize (w2.alloc (.cells (ai r.1 (some ⟨g,0,none⟩) n c r.2.1) 47))=w3 at y3 b3⊢;generalize (w2:World).heap.size=sb at b3⊢;have⟨ot,HS3,eP,xP⟩:=J4' (bX mP.o y3) (bX tP.o y3) (fg.o.trans y3) (HM.o.ext y3);have i1:=bC ot.o;have i4:=ot.o.lt;have j1:=bH b3;have j2:=bG b3;have j4:=b3.lt;clear y3 b3;go_wp21;refine(acj (some ⟨x.lb,0,none⟩) x.lb 0 x.lk l L HK.o.ll HK.o.l1 HK.o.l2 HK.o.iok (λ_=>rfl) r.1 r.2.1 (some ⟨g,0,none⟩) g 0 c r.2.2 n (by rw [oN.o.2,HK.o.fn]) (by rw [HK.o.fn,<-oN.o.2];exact oN.o.1.right) (λ_=>rfl) oN.o.1.Dd _ (HK.o.ops.ext eP.o) (λ_=>HK.o.Fq.ext eP.o) (λ_=>xP.o.row)).mono ?_;rintro e w4 ⟨s,rfl,hv,eV⟩;have⟨HV,ry,kB⟩:=J3' hv (bX HS3.o eV) (eP.o.trans eV);clear i1 i4 j1 j2 j4 hv eV;have y5:=dz w4 (.cells s.cells 74);have b5:=bN w4 74 s.cells;go_upto_region 3 with(fail);generalize (w4.alloc (.cells s.cells 74))=w5 at y5 b5⊢;generalize (w4:World).heap.size=qb at b5⊢;have QS:=J (bX ry.o y5);have j1:=bH b5;have j2:=bG b5;have j4:=b5.lt;have k1:=bH QS.o;have k2:=aj.aJ QS.o;have k4:=QS.o.lt;go_wp21;refine bQ results56 rfl rfl ou (by exact mr) (by exact aj.cI QS.o 0 s.cells) ⟨s,rfl,?_,?_⟩
 .exact(HV.o.ext y5).kept (S:=(·=kb+1)) (Kept.putAt (kR _ w5) (kb+1) 0 s.cells (λ_=>rfl)) (λi q=>by subst q;exact Bn QS.o ae) (λi q=>by subst q;exact Bn QS.o ae)
 .exact Kept.putAt (kB.o.trans y5) _ _ _ (λh=>by have:=EP.o;omega)
def fI (F s:Nat) (a z p d:Dg) (sz turn won:Int):Tr:=⟨F,s,a,z,p,sz,turn,d,won⟩
theorem Cu {t} {r} {h} (hp:t.phase=1) (hw:r.ff=-1):zw t r h={t with gd:=h+t.window}:=by
 unfold zw ju;rw [av hw,av hp]
theorem Ig {t} {r} {h} (hw:r.ff=0):zw t r h={t with phase:=2}:=by
 unfold zw ju;rw [af (show¬r.ff=-1 by omega),av hw,af (show¬(2:Int)=1 by decide)]
theorem K5 (b c) (t) (F s:Nat) (h2:2<=s) (a z p d:Dg) (sz h q:Int) (w:World) (hp:vV w b c t (fI F s a z p Dg.zero sz 0 (-1)) h q):
 Calls prog 23 #[.pointer (some ⟨b,0,none⟩),.int .i64 h,.int .i64 q,.agg d.cells] w λe w'=>e=.returned (.int .i64 0)/\TB w' b {t with gd:=h+t.window}/\At w' c (fI F s a z p d sz 1 (-1))/\Kept (λi=>i=b∨i=c) w w':=by
 have e:dP (fI F s a z p Dg.zero sz 0 (-1)) 0 false=0:=by
  have:¬(s:Int)=1:=by omega
  simp [dP,fI,this]
 have e2:DW (fI F s a z p Dg.zero sz 0 (-1)) d=fI F s a z p d sz 1 (-1):=by
  unfold DW;rw [av e]
  rfl
 refine(Vk b c t _ h q d w hp).mono ?_;rintro e' w' ⟨rfl,h1,h3,h4⟩;rw [e,av rfl,e2,Cu hp.ph rfl]at h1;rw [e2]at h3;exact⟨by rw [e],h1,h3,h4⟩
theorem CX (b c) (t) (F s hf) (hs:s=2*hf) (h1:1<=hf) (pK:s<=1000) (hF:F<=1000) (a z p d:Dg) (sz h q:Int) (f:Bool) (w:World) (hp:vV w b c t (fI F s a z p d sz 1 (-1)) h q):
 Calls prog 25 #[.pointer (some ⟨b,0,none⟩),.int .i64 h,.int .i64 q,.bool f] w λe w'=>e=.returned (.int .i64 0)/\TB w' b {t with gd:=h+t.window}/\At w' c (if f=true then fI F hf a d p Dg.zero sz 0 (-1)else fI (F+hf) hf d z p Dg.zero sz 0 (-1))/\Kept (λi=>i=b∨i=c) w w':=by
 have e:dP (fI F s a z p d sz 1 (-1)) 1 false=0:=by
  have:¬(s:Int)=1:=by omega
  simp [dP,fI,this]
 have e2:oy (fI F s a z p d sz 1 (-1)) f=(if f=true then fI F hf a d p Dg.zero sz 0 (-1)else fI (F+hf) hf d z p Dg.zero sz 0 (-1)):=by
  unfold oy;rw [av e];have e1:(s:Int) / 2=hf:=by omega
  have e3:(s:Int) - hf=hf:=by omega
  have e4:(F:Int)+hf=((F+hf:Nat):Int):=by omega
  simp only [fI,e1,e3,e4]
 have hwn:(oy (fI F s a z p d sz 1 (-1)) f).ff=-1:=by rw [e2];split<;>rfl
 refine(Mg b c t _ h q f w hp (by show(0:Int)<=s;omega) (by show(s:Int)<=1048576;omega) (by show(0:Int)<=F;omega) (by show(F:Int)<=1048576;omega)).mono ?_;rintro e' w' ⟨rfl,h1,h3,h4⟩;rw [e,av rfl,Cu hp.ph hwn]at h1;rw [e2]at h3;exact⟨by rw [e],h1,h3,h4⟩
theorem T7 (b c) (t) (F) (a z p) (sz h q:Int) (x:Ws) (w:World) (hp:vV w b c t (fI F 1 a z p Dg.zero sz 0 (-1)) h q)
 (hk:∀w',al w w'->Calls prog 81 #[.agg p.cells,.int .i64 sz,.agg a.cells,.agg z.cells,.agg x.cells] w' λe uf=>e=.returned (.int .i64 0)/\al w' uf):
 Calls prog 27 #[.pointer (some ⟨b,0,none⟩),.int .i64 h,.int .i64 q,.agg x.cells] w λe w'=>e=.returned (.int .i64 0)/\TB w' b {t with phase:=2}/\(∃r,At w' c r)/\Kept (λi=>i=b∨i=c) w w':=by
 have e:dP (fI F 1 a z p Dg.zero sz 0 (-1)) 0 true=0:=by simp [dP,fI]
 have e1:u9 (fI F 1 a z p Dg.zero sz 0 (-1)) 0=0:=by unfold u9;rw [av e]
 have e2:(qI (fI F 1 a z p Dg.zero sz 0 (-1)) 0).ff=0:=by
  unfold qI;rw [av ⟨e,rfl⟩]
 refine(Qg b c t _ h q x 0 w hp hk).mono ?_;rintro e' w' ⟨rfl,h1,h3,h4⟩;rw [e1,av rfl,Ig e2]at h1;exact⟨by rw [e1],h1,⟨_,h3⟩,h4⟩
def adH (w0 wr:World) (b c dd N:Nat) (t:Tt) (tr:Nat->Dg) (C:Dg) (L:Nat) (v:Value):Prop:=
 Kept (λi=>i=b∨i=c) w0 wr/\
 ((∃(i F s:Nat) (T:Int),i<=dd/\v=.int .i64 i/\s=2^(dd - i)/\F+s<=N/\0<=T/\T<=1000+20*i/\TB wr b {t with gd:=T}/\At wr c (fI F s (tr F) (tr (F+s)) C Dg.zero L 0 (-1)))∨
  (∃(T:Int),v=.int .i64 ((dd:Int)+1)/\TB wr b {t with gd:=T,phase:=2}/\∃r,At wr c r))
theorem Oy (b c:Nat) (V6:¬b=c) (t:Tt) (x:Ks) (l:List Ins) (m0 m1:List Int) (n N L dd:Nat) (hd7:dd<=7) (hN:N=2^dd) (w:World) (hk:NA w x l m0 m1 n N L) (ht:TB w b t) (hv:t.hv=some ⟨c,0,none⟩) (hp:t.phase=1) (hT:0<=t.gd/\t.gd<=1000) (hw:0<=t.window/\t.window<=10)
 (hr:At w c (fI 0 N (ru l (0,0,m0) 0) (ru l (0,0,m0) N) (jz l) Dg.zero L 0 (-1))) (h00:0<b/\0<c) (tZ:¬x.tb=b/\¬x.tb=c/\¬x.lb=b/\¬x.lb=c/\¬x.fb=b/\¬x.fb=c/\¬x.gb=b/\¬x.gb=c)
 (XD:Option Addr) (Kk uE bb bo:Nat) (bs:List Bool) (jd:Kk=bs.length) (Iu:0<Kk->XD=some ⟨bb,bo,none⟩/\Row w bb bo (bs.map .bool)/\¬bb=b/\¬bb=c):
 Calls prog 16 #[.pointer (some ⟨b,0,none⟩),.agg (x.cells n N L dd),.slice XD Kk uE] w λe w'=>e=.returned (.bool true)/\(∃T,TB w' b {t with gd:=T,phase:=2})/\(∃r,At w' c r)/\Kept (λi=>i=b∨i=c) w w':=by
 obtain⟨tr,htr⟩:=nm' (ru l (0,0,m0));obtain⟨C,hC⟩:=nm' (jz l);rw [<-htr,<-hC]at hr;have⟨HTR,HC,HK,HT,HV,HR,HP,HTT,HW,HN,HF,HCH,VO,HBC,H00⟩:=J15 htr hC hk ht hv hr hp hT hw hN tZ Iu jd V6 h00;have y0:=dz w (.cells (x.cells n N L dd) 50);have b0:=bN w 50 (x.cells n N L dd);have Bs:¬w.heap.size=b/\¬w.heap.size=c:=⟨by have:=ht.lt;omega,by have:=hr.lt;omega⟩;clear htr hC hk ht hv hr hp hT hw hN tZ Iu jd V6 h00;go_enter func16,ntmps16;go_upto_region 1 with(fail);generalize (w.alloc (.cells (x.cells n N L dd) 50))=W1 at y0 b0⊢;generalize zF:(w:World).heap.size=kb at b0 Bs⊢;have⟨EP,vt,bT⟩:=J3' Bs b0 y0;clear b0 y0 zF Bs;have h0:adH W1 W1 b c dd N t tr C L (.int .i64 0):=⟨kR _ _,.inl ⟨0,0,N,t.gd,de _,rfl,HN.o,by omega,HTT.o.1,by have:=HTT.o.2;omega,bX HT.o bT.o,by rw [dU];exact bX HR.o bT.o⟩⟩;have H0:=J h0;clear h0;go_wp21
 go_loopw [7] (λt7 wr=>adH W1 wr b c dd N t tr C L t7) (λt7 _=>dd+2 - (intOf t7).toNat)
 case atStart=>exact H0.o
 case round=>
  obtain⟨yG,hor⟩:=hrel;have SI:=J yG;have HKK:=J (Kept.trans (Kept.ext bT.o) yG);clear yG
  rcases hor with⟨i,F,s,T,hi,rfl,hs,hFs,Og,Oh,YR,kL⟩|⟨T,rfl,YR,r,kL⟩
  .obtain⟨Da,hDa⟩:=nm' (tr F)
   obtain⟨Dz,hDz⟩:=nm' (tr (F+s));rw [<-hDa,<-hDz]at kL;have⟨HDa,HDz,JA,EK,SR,WL,HS⟩:=J7' hDa hDz YR kL (df Og Oh) hFs hs;have hi6:(i:Int)<60:=by omega
   have p1:(t.phase==1)=true:=by simp [HP.o]
   clear YR kL hDa hDz Og Oh hs;go_wp21;refine uW (lD b _ _ JA.o) ?_;go_wp21;refine kU (zh b c _ _ _ JA.o HV.o EK.o) λw8 EB=>?_;simp only [fI];go_upto_region 5 with(fail);have y9:al wr ((w8.alloc (.cells Da.cells 25)).alloc (.cells Dz.cells 25)):=(EB.alloc _).alloc _;generalize ((w8.alloc (.cells Da.cells 25)).alloc (.cells Dz.cells 25))=W9 at y9⊢;generalize (w8:World).heap.size=q8;have⟨JZ,SA,Hv,afp⟩:=J4' (bX JA.o y9) (bX EK.o y9) (Kept.trans SI.o (Kept.ext y9)) (Kept.trans HKK.o (Kept.ext y9));have Hr:=J (bK vt.o Hv.o (by have:=EP.o;intro q;omega))
   have HK9:=J (show NA W9 x l m0 m1 n N L from by
    have hf:=HF.o;have h0:=H00.o;exact HK.o.kept afp.o He He He He He)
   clear y9 EB
   by_cases aX:i<dd
   .obtain⟨hf,zG⟩:=nm' (2^(dd - (i+1)))
    have pK:s=2*hf:=by rw [HS.o,zG];exact pQ dd i aX
    have hf1:1<=hf:=by rw [zG];exact Nat.one_le_two_pow
    have VQ:=J zG;have tP:=J pK;have Ru:=HK.o.tl;have apC:((s:Int)==1)=false:=by simp;omega
    obtain⟨Dm,hDm⟩:=nm' (tr (F+hf));have HDm:=J hDm;have i1:=bC Hr.o;have i4:=Hr.o.lt;clear zG pK p1 hDm;go_wp21
    refine(tt x.tb 0 (N+1) x.tk ((List.range (N+1)).map (ru l (0,0,m0))) aC ad F s (F+hf) (by have:=tP.o;omega) Vz (by have:=tP.o;omega) (by have:=WL.o;have:=tP.o;omega) _ HK9.o.Fw Dm (by
     rw [HDm.o,HTR.o,List.getElem?_map,List.getElem?_range (by have:=WL.o;have:=tP.o;omega)]
     rfl)).mono ?_
    rintro e wa ⟨rfl,OG⟩;clear i1 i4 apC;go_upto_region 9 with(fail);have ya:al W9 (wa.alloc (.cells Dm.cells 25)):=OG.alloc _;have bq:=bN wa 25 Dm.cells;have hqq:b<wa.heap.size/\c<wa.heap.size:=⟨(bX JZ.o OG).lt,(bX SA.o OG).lt⟩;generalize (wa.alloc (.cells Dm.cells 25))=Wa at ya bq⊢;generalize (wa:World).heap.size=qb at bq hqq⊢;have⟨SQ,abf,afq,aoi,HD,HQ⟩:=J6' (bX JZ.o ya) (bX SA.o ya) (Kept.trans Hv.o (Kept.ext ya)) (Kept.trans afp.o (Kept.ext ya)) bq hqq;clear OG ya bq hqq;refine eW (λwz=>Kept (λi=>i=b∨i=c) Wa wz) [(0,2),(1,2),(2,2),(3,2),(4,2),(6,2),(8,1),(5,0),(7,0),(9,0),(10,2),(11,2)] ?_;refine eX ?_;have yd:al Wa Wa.drew:=(kR _ Wa).drew;refine aaB ?_;intro K hK;go_wp21;refine uW (jv b _ _ (bX SQ.o yd)) ?_;refine hK.out _ _ (λ_=>Kept.ext yd) ?_;clear hK K;refine aaB ?_;intro K hK;go_wp21;refine uW (lH b c _ _ _ (bX SQ.o yd) HV.o (bX abf.o yd) HP.o) ?_;refine hK.out _ _ (λ_=>Kept.ext yd) ?_;clear hK K;refine aaB ?_;intro K hK;go_wp21;refine(K5 b c _ F s (by have:=tP.o;omega) Da Dz C Dm L T _ _ ⟨HBC.o,bX SQ.o yd,HV.o,bX abf.o yd,HP.o,by have:=SR.o;simp [og];omega,rfl,Int.le_refl _,by have:=HW.o;exact⟨this.1,by show t.window<=1048576;omega⟩⟩).mono ?_;rintro e wc ⟨rfl,htc,hac,Fk⟩;have⟨afE,aiv,aok,aoj⟩:=J4' htc hac (afq.o.trans ((Kept.ext yd).trans Fk)) (aoi.o.trans ((Kept.ext yd).trans Fk));refine hK.out _ _ (λ_=>(Kept.ext yd).trans Fk) ?_;clear hK K htc hac;refine fc ?_;clear Fk
    by_cases hci:i<Kk
    .obtain⟨hA,aG,jq,jF⟩:=HCH.o ad
     have hrc:=aG.kept aoj.o He
     have wS:wc.cell? ⟨bb,bo+i,none⟩=some (.bool (bs[i]'(by have:=VO.o;omega))):=by
      rw [hrc.cell i (by have:=VO.o;simp;omega),List.getElem?_map,List.getElem?_eq_getElem amv]
      rfl
     have Wk:=hrc.lt;subst hA;have xQ:(i:Int)<Kk:=by omega
     clear aG hrc jq jF;exact amV
    .have xQ:¬(i:Int)<Kk:=by omega
     exact amV
   .have ei:i=dd:=by omega
    have IA:s=1:=by rw [HS.o,ei];simp
    subst IA;subst ei;clear aX;have KR:=Tg l (by rw [<-HK.o.ll];exact HK.o.l2) (0,0,m0) HK.o.fok F;rw [<-HTR.o,<-HDa.o,<-HDz.o]at KR;have lX:=J KR;clear KR p1;have hF0:F<=1048576:=by have:=WL.o;have:=HK.o.tl;omega
    go_upto_region 6 with(fail);refine eW (λwz=>Kept (λi=>i=b∨i=c) W9 wz) [(0,2),(1,2),(3,2),(5,1),(6,2),(2,0),(4,0),(7,0),(8,0),(9,2)] ?_;refine eX ?_;have yd:al W9 W9.drew:=(kR _ W9).drew
    repeat first|refine bV ?_|refine cF (Kept.ext yd) acZ ?_|refine cD (Kept.ext yd) ?_
    refine ap (λK hK=>?_);go_simp;go_wp21;refine uW (jv b _ _ (bX JZ.o yd)) ?_;refine hK.out _ _ (λ_=>Kept.ext yd) ?_;clear hK K
    repeat first|refine bV ?_|refine cF (Kept.ext yd) acZ ?_|refine cD (Kept.ext yd) ?_
    refine ap (λK hK=>?_);go_simp;go_wp21;refine uW (lH b c _ _ _ (bX JZ.o yd) HV.o (bX SA.o yd) HP.o) ?_;refine hK.out _ _ (λ_=>Kept.ext yd) ?_;clear hK K
    repeat first|refine bV ?_|refine cF (Kept.ext yd) acZ ?_|refine cD (Kept.ext yd) ?_
    refine ap (λK hK=>?_);go_simp;go_wp21;refine(L8 x l m0 m1 n N L i F hF0 _ (HK9.o.ext yd)).mono ?_;rintro e wa ⟨sx,rfl,hsv,OG⟩;have ya:=yd.trans OG;have HSV:=J hsv;refine hK.out _ _ (λ_=>Kept.ext ya) ?_;clear hK K hsv OG
    repeat first|refine bV ?_|refine cF (Kept.ext ya) acZ ?_|refine cD (Kept.ext ya) ?_
    refine ap (λK hK=>?_);go_simp;go_wp21
    refine(T7 b c _ F Da Dz C L T _ sx _ ⟨HBC.o,bX JZ.o ya,HV.o,bX SA.o ya,HP.o,by have:=SR.o;simp [og];omega,rfl,Int.le_refl _,by have:=HW.o;exact⟨this.1,by show t.window<=1048576;omega⟩⟩ (λw' K9=>by
     have q:=NV sx l L HK.o.ll HK.o.l1 HK.o.l2 (gU l (0,0,m0) F) Da Dz ((nw (c:=l) (r:=(0,0,m0)) (by rw [<-HK.o.ll];exact HK.o.l2) HK.o.fok) F).1 HK.o.iok w' (HK9.o.ops.ext (ya.trans K9)) (HSV.o.ext K9);rw [lX.o,<-HC.o]at q;exact q)).mono ?_
    rintro e wb ⟨rfl,YR,⟨r,hr⟩,Bs⟩;refine hK.out _ _ (λ_=>(Kept.ext ya).trans Bs) ?_;clear hK K;refine fc ?_;go_wp21;go_roundw
    case rel=>exact⟨Hv.o.trans ((Kept.ext ya).trans Bs),.inr ⟨T,by go_num,YR,r,hr⟩⟩
    case measure=>simp only [intOf];omega
  .have JA:=J YR
   have EK:=J kL;have hd0:(dd:Int)+1<60:=by omega
   clear YR kL;go_wp21;refine uW (lD b _ _ JA.o) ?_;go_wp21;refine uW (lD b _ _ JA.o) ?_;go_wp21;go_ret;exact⟨rfl,⟨T,JA.o⟩,⟨r,EK.o⟩,HKK.o⟩
theorem PU {w} {b off z} {v} {vs} {T} {cs} (h:Row w b off (v::vs)) (hz:aj w z T cs) (hn:¬cs[off]?=some v):¬b=z:=λe=>by
 subst e;have q:=h.cell 0 aC;rw [fC,bC hz off]at q;exact hn q
theorem gj.alg {w w'} {N cb z} {k} {p} {T} {cs} (h:gj w N cb k p) (hk:Kept (·=z) w w') (hz:aj w z T cs) (h0:cs[0]?=some (.pointer none)) (hs:∀(i:Nat) (s:Str),¬cs[i]?=some (Value.string s)) (hT:¬T=171):gj w' N cb k p:=by
 refine⟨h.lt,ay h.le hk.size,bK h.box hk ?_,h.kc,h.ks,?_,?_,λi hi=>?_,h.most⟩
 .intro e
  have q:=h.box;unfold aj at q hz;rw [e]at q;rw [q]at hz;injection hz with hz;injection hz with _ hz _;exact hT hz.symm
 .refine⟨h.first.1,λhn=>?_⟩
  obtain⟨b,hA,hb,hr⟩:=h.first.2 hn;refine⟨b,hA,hb,hr.kept hk ?_⟩;have hl:=h.first.1
  cases hf:dM p.vars with
  |nil=>rw [hf]at hl;simp at hl;omega
  |cons x xs=>
   rw [hf]at hr;exact PU (v:=.int .i32 x) (vs:=bJ xs) hr hz (by rw [h0];intro q;cases q)
 .obtain⟨h1,h2,h3,b,off,h4,h5⟩:=h.params
  refine⟨h1,h2,h3,b,off,h4,λhn=>⟨(h5 hn).1,(h5 hn).2.kept hk ?_⟩⟩;have hr:=(h5 hn).2
  cases hf:p.params with
  |nil=>rw [hf]at h1;simp at h1;omega
  |cons x xs=>
   rw [hf]at hr;exact PU (v:=.string x.name) (vs:=[.int .i64 x.size,.int .i64 x.low,.int .i64 x.high]++b_ aO xs) hr hz (hs _ _)
 .obtain⟨h1,b,hA,hb,hr⟩:=h.ins i hi
  refine⟨h1,b,hA,hb,hr.kept hk ?_⟩
  cases hf:aR p i with
  |nil=>unfold aR at hf;simp at hf
  |cons x xs=>
   rw [hf]at hr;exact PU (v:=.int .i64 x.op) (vs:=[.int .i64 x.a,.int .i64 x.b,.int .i64 x.c]++cM xs) hr hz (by rw [h0];intro q;cases q)
theorem I0 {h} {k} {n size words} (hs:0<=size/\size<=4096) (hw:0<=words/\words<=4096) (h1:n6 h k n size words=true):aI n:=by
 unfold n6 at h1;unfold aI
 split at h1
 .unfold Fs at h1
  repeat' split at h1
  all_goals simp [ub]at h1
  all_goals omega
 .simp at h1
  omega
theorem agW {i} {size words} (hs:0<=size/\size<=4096) (hw:0<=words/\words<=4096) (h:aW i size words=true):i.ok:=by
 obtain⟨h0,h22,ha,hb,hc,_⟩:=gK h;exact⟨by unfold aI;omega,I0 hs hw ha,I0 hs hw hb,I0 hs hw hc⟩
end Mc
open Sq Mc
theorem F9 (c) (p) (N) (w) (hN:N<=w.heap.size) (h:lZ w N c p):Calls prog 97 #[.agg c.cells] w λe w'=>e=.returned (.bool (Ky p))/\al w w':=by
 obtain⟨cn,kv,⟨sA,sn,sc⟩,cv,cs,ct,rO,iV,mC,cq,oV⟩:=c;obtain⟨r,hr⟩:=nm' (Ky p);rw [<-hr];have HR:=J (show r=(decide (jw (dE p)<=1200)&&decide ((sn:Int)<=20))by rw [hr,Ky,<-h.cd.1]);clear hr;have aK:=dz w (.cells (Pc.cells ⟨cn,kv,⟨sA,sn,sc⟩,cv,cs,ct,rO,iV,mC,cq,oV⟩) 39);have hB:=bN w 39 (Pc.cells ⟨cn,kv,⟨sA,sn,sc⟩,cv,cs,ct,rO,iV,mC,cq,oV⟩);go_enter func97,ntmps97;go_upto_region 1 with(fail);have HP:=J (h.ext aK hN);have fx:=J (ay hN aK.size);generalize hW:(w.alloc (.cells (Pc.cells ⟨cn,kv,⟨sA,sn,sc⟩,cv,cs,ct,rO,iV,mC,cq,oV⟩) 39))=W at aK hB HP fx⊢;clear hW h;have dX:=J aK;have HB:=J hB;clear aK hB;generalize w.heap.size=pb at HB⊢;have hc:=bC HB.o;have hl:=HB.o.lt;have hh:=bH HB.o;have hg:=bG HB.o;go_wp2_with fail;refine(GR _ p N _ fx.o HP.o).mono λe w1 hq=>?_;obtain⟨rfl,aB⟩:=hq;have hc1:=bC (bX HB.o aB);have Bt:=(bX HB.o aB).lt;have gN:=J (dX.o.trans aB);clear hc hl hh hg aB;obtain⟨z,hz⟩:=nm' (jw (dE p));rw [<-hz]at HR⊢;clear hz
 by_cases h1:z<=1200
 .by_cases h2:(sn:Int)<=20
  .have H_:=J (show r=true by rw [HR.o,cO h1,cO h2];rfl)
   go_wp2_with fail;go_ret;exact⟨aV H_.o.symm,gN.o⟩
  .have H_:=J (show r=false by rw [HR.o,cO h1,cU h2];rfl)
   go_wp2_with fail;go_ret;exact⟨aV (by rw [H_.o];simp;omega),gN.o⟩
 .have H_:=J (show r=false by rw [HR.o,cU h1];rfl)
  go_wp2_with fail;go_ret;exact⟨aV (by rw [H_.o]),gN.o⟩
theorem LQ (c) (part:Nat) (hp:part<5) (w:World):Calls prog 152 #[.agg c.cells,.int .i64 part] w λe w'=>e=.returned (U3 c part).v/\al w w':=by
 have y0:=dz w (.cells c.cells 39);have hB:=bN w 39 c.cells;have hj:part=0∨part=1∨part=2∨part=3∨part=4:=by omega
 clear hp
 rcases hj with rfl|rfl|rfl|rfl|rfl
 all_goals
  go_enter func152,ntmps152;go_upto_region 1 with(fail);generalize (w.alloc (.cells c.cells 39))=W1 at y0 hB⊢;generalize w.heap.size=pb at hB⊢;have i1:=bC hB;have i2:=hB.lt;have HY:=J y0;clear y0 hB;go_wp21;go_ret;exact⟨rfl,HY.o.trans (dz W1 _)⟩
def us (p:Pr):Bool:=decide (256<p.start.size)||decide (256<p.turn.size)||decide (256<p.ci.size)||decide (256<p.quiet.size)||decide (256<p.bP.size)
theorem C' {p} (i) (hi:i<5) (h:256<(partOf p i).size):us p=true:=by
 rcases(by omega:i=0∨i=1∨i=2∨i=3∨i=4)with rfl|rfl|rfl|rfl|rfl<;>simp only [partOf]at h<;>simp [us,h]
theorem zX {p} (h:∀i,i<5->¬256<(partOf p i).size):us p=false:=by
 have h0:=h 0 ad;have h1:=h 1 ad;have h2:=h 2 ad;have h3:=h 3 ad;have h4:=h 4 ad;simp only [partOf]at h0 h1 h2 h3 h4;simp only [us,cU h0,cU h1,cU h2,cU h3,cU h4,Bool.or_false]
theorem Gw (p:Pr):us p=true↔nR p:=by
 constructor
 .intro h
  refine Classical.byContradiction λq=>?_;rw [zX (λi hi h'=>q ⟨i,hi,h'⟩)]at h
  cases h
 .rintro⟨i,hi,h⟩
  exact C' i hi h
theorem UQ (c) (p) (N) (w:World) (hN:N<=w.heap.size) (h:lZ w N c p) (hz:dE p<=1099511627776):Calls prog 101 #[.agg c.cells] w λe w'=>e=.returned (.bool (us p))/\al w w':=by
 obtain⟨r,hr⟩:=nm' (us p);rw [<-hr];have HR:=J hr;have HZ:=J hz;have y0:=dz w (.cells c.cells 39);have hB:=bN w 39 c.cells;have HP:=J (h.ext y0 hN);have HN:=J (ay hN y0.size);clear hr hz h hN;go_enter func101,ntmps101;go_upto_region 1 with(fail);generalize (w.alloc (.cells c.cells 39))=W1 at y0 hB HP HN⊢;generalize w.heap.size=pb at hB⊢;have HB:=J hB;have HY:=J y0;clear y0 hB;go_upto_region 2 with(fail)
 go_loopw [3] (λt3 wr=>∃j:Nat,j<=5/\t3=.int .i64 j/\(∀i,i<j->¬256<(partOf p i).size)/\al W1 wr) (λt3 _=>5 - (intOf t3).toNat)
 case atStart=>exact⟨0,by omega,rfl,λi h=>by omega,kR _ _⟩
 case round=>
  obtain⟨j,hj,rfl,hall,hk⟩:=hrel;have i':=J hall;have HK:=J hk;clear hall hk
  by_cases aX:j<5
  .have iI:(j:Int)<5:=by omega
   have d0:=bX HB.o HK.o;have d1:=bH d0;have d2:=bG d0;have d3:=d0.lt;clear d0;go_wp21;refine kU (LQ c j aX _) λw4 y4=>?_;clear d1 d2 d3;have oZ:=((HP.o.part j).ext HK.o HN.o).ext y4 (ay HN.o HK.o.size);have xZ:=J (HK.o.trans y4);have pF:=nr (partOf p j) (U3 c j).A (U3 c j).n (U3 c j).c N w4 (ay HN.o xZ.o.size) oZ
   have hw:jw (((partOf p j).size:Nat):Int)=((partOf p j).size:Nat):=by
    have h1:=uv p j aX;have h2:=HZ.o;rw [eF]
    omega
   rw [hw]at pF;have HTR:=J (C' (p:=p) j aX)
   have HGO:=J (show¬256<(partOf p j).size->∀i,i<j+1->¬256<(partOf p i).size from λh i hi=>by
    rcases(by omega:i<j∨i=j)with q|q
    .exact i'.o i q
    .subst q;exact h)
   generalize (partOf p j).size=z at pF HTR HGO;generalize U3 c j=s at pF⊢;clear oZ hw y4;go_wp21;refine pF.mono ?_;rintro e w5 ⟨rfl,y5⟩;have vz:=J (xZ.o.trans y5);clear y5 pF
   by_cases hb:256<z
   .have hg:decide ((256:Int)<(z:Int))=true:=cO ad
    have H_:=J (show r=true by rw [HR.o];exact HTR.o hb);clear hb;go_wp21;go_ret;exact⟨aV H_.o.symm,HY.o.trans vz.o⟩
   .have hg:decide ((256:Int)<(z:Int))=false:=cU ad
    have HG:=J (HGO.o hb);clear hb;go_wp21;go_roundw
    case rel=>exact⟨j+1,aX,by go_num,HG.o,vz.o⟩
    case measure=>simp only [intOf];omega
  .obtain rfl:j=5:=by omega
   have H_:=J (show r=false by rw [HR.o];exact zX i'.o);go_wp21;go_ret;exact⟨aV H_.o.symm,HY.o.trans HK.o⟩
structure afG (w:World) (n:Nat):Prop where
 b2:aj w (n+1+1) 3 #[.int .i64 1,.int .i64 1]
 b3:aj w (n+1+1+1) 174 #[.string sA,.int .i64 0,.int .i64 0,.int .i64 1,.string sL,.int .i64 3,.int .i64 0,.int .i64 1]
 b4:aj w (n+1+1+1+1) 223 (au 7 E0 none 0 0 0 0 none 0 0 none 0 0)
 b5:aj w (n+1+1+1+1+1) 221 (aF 0 0 E0 none 0 0)
 b6:aj w (n+1+1+1+1+1+1) 223 (au 9 E0 (some ⟨n+1+1+1+1+1,0,none⟩) 1 1 0 0 none 0 0 none 0 0)
theorem U4 (w:World):Calls prog 96 #[] w λe w'=>al w w'/\e=.returned (.agg (qO w.heap.size).cells)/\afG w' w.heap.size:=by
 go_enter func96,ntmps96;go_upto_region 2 with(fail);go_wp21;obtain⟨W,hW⟩:=nm' (((((((w.alloc (.cells (qO w.heap.size).cells 39)).alloc (.cells (aF 0 0 E0 none 0 0) 221)).alloc (.cells #[.int .i64 1,.int .i64 1] 3)).alloc (.cells #[.string sA,.int .i64 0,.int .i64 0,.int .i64 1,.string sL,.int .i64 3,.int .i64 0,.int .i64 1] 174)).alloc (.cells (au 7 E0 none 0 0 0 0 none 0 0 none 0 0) 223)).alloc (.cells (aF 0 0 E0 none 0 0) 221)).alloc (.cells (au 9 E0 (some ⟨w.heap.size+1+1+1+1+1,0,none⟩) 1 1 0 0 none 0 0 none 0 0) 223));have hx:al w W:=by rw [hW];exact((((((dS w _).alloc _).alloc _).alloc _).alloc _).alloc _).alloc _
 have b0:aj W w.heap.size 39 (qO w.heap.size).cells:=by rw [hW];exact((((((bN w _ _).alloc _).alloc _).alloc _).alloc _).alloc _).alloc _
 have b2:aj W (w.heap.size+1+1) 3 #[.int .i64 1,.int .i64 1]:=by rw [hW];exact((((aj.d_ _ _ _ _ aC).alloc _).alloc _).alloc _).alloc _
 have b3:aj W (w.heap.size+1+1+1) 174 #[.string sA,.int .i64 0,.int .i64 0,.int .i64 1,.string sL,.int .i64 3,.int .i64 0,.int .i64 1]:=by rw [hW];exact(((aj.d_ _ _ _ _ aC).alloc _).alloc _).alloc _
 have b4:aj W (w.heap.size+1+1+1+1) 223 (au 7 E0 none 0 0 0 0 none 0 0 none 0 0):=by rw [hW];exact((aj.d_ _ _ _ _ aC).alloc _).alloc _
 have b5:aj W (w.heap.size+1+1+1+1+1) 221 (aF 0 0 E0 none 0 0):=by rw [hW];exact(aj.d_ _ _ _ _ aC).alloc _
 have b6:aj W (w.heap.size+1+1+1+1+1+1) 223 (au 9 E0 (some ⟨w.heap.size+1+1+1+1+1,0,none⟩) 1 1 0 0 none 0 0 none 0 0):=by rw [hW];exact aj.d_ _ _ _ _ aC
 have hsz:w.heap.size+7<=W.heap.size:=by have:=b6.lt;omega
 show bodyPost _ _ _ _ _ (((((((w.alloc (.cells (qO w.heap.size).cells 39)).alloc (.cells (aF 0 0 E0 none 0 0) 221)).alloc (.cells #[.int .i64 1,.int .i64 1] 3)).alloc (.cells #[.string sA,.int .i64 0,.int .i64 0,.int .i64 1,.string sL,.int .i64 3,.int .i64 0,.int .i64 1] 174)).alloc (.cells (au 7 E0 none 0 0 0 0 none 0 0 none 0 0) 223)).alloc (.cells (aF 0 0 E0 none 0 0) 221)).alloc (.cells (au 9 E0 (some ⟨w.heap.size+1+1+1+1+1,0,none⟩) 1 1 0 0 none 0 0 none 0 0) 223));rw [<-hW];exact bQ results96 rfl rfl vX (by exact tB) b0 ⟨hx,rfl,b2,b3,b4,b5,b6⟩
abbrev A2 (q:Nat):Array Value:=#[.int .i64 6,.int .i64 0,.string ⟨#[]⟩,.slice (some ⟨q,0,none⟩) 2 2,.int .i64 0,.int .i64 5,.string ⟨#[]⟩,.slice none 0 0]
abbrev A3 (q:Nat):Array Value:=#[.int .i64 8,.int .i64 0,.string ⟨#[]⟩,.slice (some ⟨q+1,0,none⟩) 2 2]
abbrev A4 (q:Nat):Array Value:=#[.int .i64 0,.string ⟨#[97]⟩,.slice (some ⟨q+1+1,0,none⟩) 1 1,.int .i64 0,.int .i64 0,.slice none 0 0,.slice none 0 0]
abbrev B1:Array Value:=#[.int .i64 0,.int .i64 9,.string ⟨#[]⟩,.slice none 0 0,.int .i64 0,.int .i64 4,.string ⟨#[]⟩,.slice none 0 0]
abbrev B2 (q:Nat):Array Value:=#[.int .i64 8,.string ⟨#[]⟩,.slice (some ⟨q,0,none⟩) 2 2,.int .i64 0,.int .i64 0,.slice none 0 0,.slice none 0 0]
theorem RV (w) (N:Nat):mR w N ⟨none,0,0⟩ []:=⟨rfl,λx hx=>by simp at hx,0,0,λh=>absurd h aC,λh=>absurd h aC⟩
theorem mR.gF {w} {base} {s} {l} (h:w.ownsRow base 21 1 s.v s.n (bJ l)) (hl:∀x∈l,ax x):mR w w.heap.size s l:=(vP.gF h).words hl
abbrev A1:Array Value:=#[.int .i64 0,.int .i64 7,.string ⟨#[]⟩,.slice none 0 0,.int .i64 0,.int .i64 0,.string ⟨#[]⟩,.slice none 0 0]
theorem Kz (w) (a) (s:Str):(Instr.field 166 (.agg #[.int .i64 a,.string s]) 0).run prog w=.ok (.int .i64 a) w:=by kernel_rfl
attribute [go_sem] Kz

