import Derived.Test.YtnhelcmddjbafaaGreatDoorTaas
import Derived.Test.YtnhelcmddjbafaaGreatDoorTaat
set_option maxHeartbeats 4000000
set_option maxRecDepth 100000
open Go.Proofs.Tryz
namespace Go.Proofs.YtnhelcmddjbafaaGreatDoor
open Go.RowKit
namespace Mc
section
variable (b:Nat) (t:Tr) (w:World) (ht:At w b t)
include b t w ht
theorem Js (h0:(t.turn==0)=false) (h1:(t.turn==1)=false):
 Calls prog 58 #[.pointer (some ⟨b,0,none⟩)] w λe w'=>e=.returned (.int .i64 15)/\At w' b t/\Kept (·=b) w w':=by
 have hc:=ht.cell;go_enter func58,ntmps58;go_wp21;go_ret;exact⟨rfl,ht,kR _ _⟩
theorem DN (h0:(t.turn==0)=true):
 Calls prog 58 #[.pointer (some ⟨b,0,none⟩)] w λe w'=>e=.returned (.int .i64 0)/\At w' b {t with turn:=-1,ff:=1}/\Kept (·=b) w w':=by
 have hc:=ht.cell;go_enter func58,ntmps58;go_wp2_with (go_at_call 119;refine(D1 b t _ _ ht).mono ?_;rintro e w' ⟨rfl,hA,hK⟩);go_ret;exact⟨rfl,hA,hK⟩
theorem A8 (h0:(t.turn==0)=false) (h1:(t.turn==1)=true):
 Calls prog 58 #[.pointer (some ⟨b,0,none⟩)] w λe w'=>e=.returned (.int .i64 0)/\At w' b {t with turn:=-1,ff:=0}/\Kept (·=b) w w':=by
 have hc:=ht.cell;go_enter func58,ntmps58;go_wp2_with (go_at_call 119;refine(D1 b t _ _ ht).mono ?_;rintro e w' ⟨rfl,hA,hK⟩);go_ret;exact⟨rfl,hA,hK⟩
end
def xq (t:Tr):Int:=if t.turn==0 then 0 else if t.turn==1 then 0 else 15
def pU (t:Tr):Tr:=if t.turn==0 then{t with turn:=-1,ff:=1}else if t.turn==1 then{t with turn:=-1,ff:=0}else t
theorem L_ (b) (t) (w) (ht:At w b t):
 Calls prog 58 #[.pointer (some ⟨b,0,none⟩)] w λe w'=>e=.returned (.int .i64 (xq t))/\At w' b (pU t)/\Kept (·=b) w w':=by
 unfold xq pU
 cases h0:t.turn==0
 .cases h1:t.turn==1
  .simpa using Js b t w ht h0 h1
  .simpa using A8 b t w ht h0 h1
 .simpa using DN b t w ht h0
section
variable (b:Nat) (t:Tt) (w:World) (ht:TB w b t)
include b t w ht
theorem NN (hp:¬t.phase=1):Calls prog 26 #[.pointer (some ⟨b,0,none⟩)] w λe w'=>e=.returned (.int .i64 (-1))/\w=w':=by
 have hc:=bC ht;go_enter func26,ntmps26;go_wp21;go_ret;exact⟨rfl,rfl⟩
theorem O7 (hv:t.hv=none):Calls prog 18 #[.pointer (some ⟨b,0,none⟩)] w λe w'=>e=.returned (.int .i64 (-1))/\w=w':=by
 have hc:=bC ht;go_enter func18,ntmps18;go_wp21;go_ret;exact⟨rfl,rfl⟩
end
section
variable (b:Nat) (t:Tt) (h:Int) (w:World) (ht:TB w b t)
include b t h w ht
theorem C8 (hp:t.phase=0∨t.phase=1) (hh:og h=true) (hl:h<=t.gd):Calls prog 21 #[.pointer (some ⟨b,0,none⟩),.int .i64 h] w λe w'=>e=.returned (.int .i64 20)/\w=w':=by
 have hc:=bC ht;have p2:decide (h<=t.gd)=true:=by simp [hl]
 rcases hp with hp|hp
 all_goals
  have p0:=hp;clear ht hp hl;go_enter func21,ntmps21;exact Ss
theorem Uf (hp:2<=t.phase) (hh:og h=true):Calls prog 21 #[.pointer (some ⟨b,0,none⟩),.int .i64 h] w λe w'=>e=.returned (.int .i64 10)/\w=w':=by
 have hc:=bC ht;have p1:(t.phase !=0)=true:=by simp;omega
 have p2:(t.phase !=1)=true:=by simp;omega
 clear hp;go_enter func21,ntmps21;exact Ss
theorem O2 (hp:t.phase=0) (hh:og h=true) (hl:t.gd<h):Calls prog 21 #[.pointer (some ⟨b,0,none⟩),.int .i64 h] w λe w'=>e=.returned (.int .i64 0)/\TB w' b {t with phase:=2}/\Kept (·=b) w w':=by
 have hc:=bC ht;have hf:=aj.frozen ht;have aX:=ht.lt;have p2:decide (h<=t.gd)=false:=by simp;omega
 have HT:=J ht;clear ht hl;go_enter func21,ntmps21;go_wp21;refine uW (gJ h _) ?_;go_wp21;go_ret;exact⟨rfl,TB.of (aj.fw HT.o 10 (.int .i64 2)) rfl,(kR (·=b) w).setCell ⟨b,10,none⟩ (.int .i64 2) (λ_=>rfl)⟩
end
theorem Ll (b c:Nat) (V6:¬b=c) (t:Tt) (r:Tr) (h:Int) (w:World) (ht:TB w b t) (hv:t.hv=some ⟨c,0,none⟩) (hr:At w c r) (hp:t.phase=1) (Iz:r.turn=0∨r.turn=1) (hh:og h=true) (hl:t.gd<h) (ph:Int) (hph:ph=if r.turn=0 then 3 else 2):
 Calls prog 21 #[.pointer (some ⟨b,0,none⟩),.int .i64 h] w λe w'=>e=.returned (.int .i64 0)/\TB w' b {t with phase:=ph}/\At w' c (pU r)/\Kept (λi=>i=b∨i=c) w w':=by
 have⟨HT,HR,HV⟩:=J3' ht hr hv;have p2:decide (h<=t.gd)=false:=by simp;omega
 have he:xq r=0:=by rcases Iz with q|q<;>simp [xq,q]
 have hs:ju t (pU r)={t with phase:=ph}:=by rw [hph];rcases Iz with q|q<;>simp [ju,pU,q]
 have hc:=bC ht;clear ht hl hr Iz hph hv;go_enter func21,ntmps21;go_wp21;refine uW (gJ h _) ?_;go_wp21;rw [HV.o];refine(L_ c r _ HR.o).mono ?_;rintro e w1 ⟨rfl,h1,hk⟩;rw [he];have zW:=bK HT.o hk V6;clear hc;go_wp21;refine(DK b c V6 t (pU r) w1 zW HV.o h1).mono ?_;rintro e w2 ⟨rfl,h2,h3,eC⟩;rw [hs]at h2;go_wp21;go_ret;exact⟨rfl,h2,h3,(hk.mono (λ_ _ e=>Or.inr e)).trans (eC.mono (λ_ _ e=>Or.inl e))⟩
section
variable (b:Nat) (t:Tt) (h s:Int) (w:World) (ht:TB w b t)
include b t h s w ht
theorem Ku (hp:(t.phase !=0)=true) (hh:og h=true):Calls prog 15 #[.pointer (some ⟨b,0,none⟩),.int .i64 h,.int .i64 s] w λe w'=>e=.returned (.int .i64 10)/\w=w':=by
 have hc:=bC ht;go_enter func15,ntmps15;exact Ss
theorem N5 (hp:t.phase=0) (hh:og h=true) (hl:t.gd<h):Calls prog 15 #[.pointer (some ⟨b,0,none⟩),.int .i64 h,.int .i64 s] w λe w'=>e=.returned (.int .i64 19)/\w=w':=by
 have hc:=bC ht;have p2:decide (t.gd<h)=true:=by simp [hl]
 go_enter func15,ntmps15;exact Ss
end
open Sq
def aja (w0 wr:World) (b c dd N:Nat) (t:Tt) (tr:Nat->Dg) (C:Dg) (L:Nat) (v:Value) (n:Nat):Prop:=
 Kept (λi=>i=b∨i=c) w0 wr/\∃(i F s:Nat) (T:Int),i<=n/\v=.int .i64 i/\s=2^(dd - i / 2)/\F+s<=N/\0<=T/\T<=1000+20*i/\TB wr b {t with gd:=T}/\
  ((i%2=0/\At wr c (fI F s (tr F) (tr (F+s)) C Dg.zero L 0 (-1)))∨(i%2=1/\At wr c (fI F s (tr F) (tr (F+s)) C (tr (F+s / 2)) L 1 (-1))))
theorem Lt (c:Pc) (p:Pr) (part:Int) (j:Nat) (Br:j<5) (hj:wrap64 ((IntKind.u64.wrap part).tmod 5)=(j:Int)) (vs ag:iu) (V A:List Int) (rounds early:Int) (w:World)
 (h:lZ w w.heap.size c p) (hL:ew w) (hO:OpsAt w) (mE:Ho c) (hz:dE p<=1099511627776) (hv:mR w w.heap.size vs V) (ha:mR w w.heap.size ag A):
 Calls prog 5 #[.agg (BB c part vs ag),.int .i64 rounds,.int .i64 early] w λe w'=>e=.returned (.bool true)/\al w w':=by
 have y0:=dz w (.cells (BB c part vs ag) 42);have b0:=bN w 42 (BB c part vs ag);refine aap ?_;intro iq fx HL HO HV HA HZ BU HJ;clear h hL hO mE hz hv ha hj Br;go_enter func5,ntmps5;go_upto_region 1 with(fail);generalize (w.alloc (.cells (BB c part vs ag) 42))=W1 at y0 b0 iq fx HL HO HV HA⊢;generalize uR:(w:World).heap.size=ob at b0 iq fx HV HA⊢;have bT:=J y0;have i1:=bH b0;have i2:=bG b0;have i3:=b0.lt;clear y0;go_wp21;refine(xi c p part j HJ.o.1 HJ.o.2 vs ag V A ob W1 fx.o iq.o HL.o HO.o BU.o HZ.o HV.o HA.o).mono ?_;rintro e w2 ⟨y2,ho⟩;have fg:=J (bT.o.trans y2);have fN:=J y2;clear y2 i1 i2 i3 b0
 rcases Bo HJ.o.1 HZ.o ho with⟨P,fi,fs,AV,rfl⟩|⟨k,x,m0,m1,l,V',A',n,N,L,dd,hc,rfl⟩
 .have y3:=fN.o.alloc (.cells (c13 P fi fs) 50)
  exact anI
 clear ho;refine adx ?_;intro y3 b3;go_upto_region 4 with(fail);generalize (w2.alloc (.cells (x.cells n N L dd) 50))=w3 at y3 b3⊢;generalize (w2:World).heap.size=cb at b3⊢;have⟨n7,ot,gO,eP⟩:=J4' (hc.ext y3) b3 (fN.o.trans y3) (fg.o.trans y3);obtain⟨e16,ajY,he⟩:=Uq early 16 ae ae;simp only [Int.cast_ofNat_Int]at he;have HE:=J ajY;have i1:=bC b3;have i2:=bH b3;have i3:=bG b3;have i4:=b3.lt;clear b3 y3 hc ajY;go_wp21;refine(xf n7.o x.gk 0 10 5 dZ dZ ae).mono ?_;rintro e w4 ⟨ta,t,ia,fa,za,rfl,hna⟩;have Bh:=J hna;have CM:=bX ot.o hna.xt;clear hna i1 i2 i3 i4;have i1:=bC CM;have i2:=bH CM;have i3:=bG CM;have i4:=CM.lt;go_wp21;refine(xf (n7.o.ext Bh.o.xt) x.gk 0 10 5 dZ dZ ae).mono ?_;rintro e w5 ⟨tb,u,ib,fb,zb,rfl,oC⟩;have⟨eJ,aoB,uz,k_,HAB⟩:=J5' oC (bX Bh.o.tb oC.xt) (eP.o.trans (Bh.o.xt.trans oC.xt)) (gO.o.trans (Bh.o.xt.trans oC.xt)) (show ta<tb by have:=oC.ge;have:=Bh.o.tb.lt;omega);clear oC i1 i2 i3 i4 CM;go_wp21;refine kU (j' _ (HL.o.ext k_.o) (HO.o.ext k_.o)) λw6 y6=>?_;have⟨sQ,afD,aoC⟩:=J3' y6 (bX aoB.o y6) (bX eJ.o.tb y6);clear y6;go_wp21;refine(C8 ta t e16 _ afD.o (.inl Bh.o.phase) (by have:=HE.o;simp [og];omega) (by rw [Bh.o.gd];have:=HE.o;omega)).mono ?_;rintro e w' ⟨rfl,rfl⟩;go_wp21;refine(O2 ta t 16 _ afD.o Bh.o.phase dZ (by rw [Bh.o.gd];decide)).mono ?_;rintro e w7 ⟨rfl,abX,k7⟩;go_wp21;refine uW (lD ta _ _ abX) ?_;go_wp21;refine uW (O7 ta _ _ abX Bh.o.hv) ?_;go_wp21;refine(Ku ta _ 16 1 _ abX dZ dZ).mono ?_;rintro e w' ⟨rfl,rfl⟩;go_wp21;have gM:¬tb=ta:=by have:=HAB.o;omega
 have agO:=bK aoC.o k7 gM;refine(N5 tb u 16 1 _ agO eJ.o.phase dZ (by rw [eJ.o.gd];decide)).mono ?_;rintro e w' ⟨rfl,rfl⟩;have Fm:=eJ.o.m.ext sQ.o;have abV:=Fm.ne afD.o;have HN7:=J (show NewAt w3 w7 tb u ib fb zb l m0 m1 N L 0 10 5 x n from{eJ.o with ge:=by have:=Bh.o.ge;have:=HAB.o;omega,tb:=agO,m:=Fm.kept k7 abV.1 abV.2.1 abV.2.2,xt:=(Bh.o.xt.trans (eJ.o.xt.trans sQ.o)).trans' k7 (λi hi e=>by have:=Bh.o.ge;omega)});have HXL:=J (show 0<w3.heap.size/\x.lb<w3.heap.size/\x.fb<w3.heap.size/\x.gb<w3.heap.size/\x.tb<w3.heap.size from⟨n7.o.at_.ops.1,n7.o.at_.Fq.lt,n7.o.at_.rS.lt,n7.o.at_.grow.lt,n7.o.at_.Fw.lt⟩);go_wp21;refine(uI HN7.o ae 15 1 dZ ae dZ ae).mono ?_;rintro e w8 ⟨g,hg,rfl,ht,hr,hk⟩;have⟨HT,HR,HG,Xc,WI⟩:=J5' ht hr (show tb<g by have:=HN7.o.tb.lt;omega) (show Kept (λi=>i=ta∨i=tb) w5 w8 from((Kept.ext sQ.o).trans (k7.mono (λ_ _ e=>Or.inl e))).trans (hk.mono (λ_ _ e=>Or.inr e))) (show w3.heap.size<=ta from Bh.o.ge);have⟨HB8,HA8,HUW⟩:=J3' (bK (bX ot.o (Bh.o.xt.trans eJ.o.xt)) Xc.o (by have:=ot.o.lt;have:=WI.o;have:=HAB.o;omega)) (n7.o.at_.ext (Bh.o.xt.trans eJ.o.xt)|>.kept Xc.o aah aah aah aah aah) (show u.window=5 from eJ.o.window);obtain⟨m,hm,jG⟩:=Uq rounds (2*dd+1) ad (by have:=n7.o.d7;omega);have hd7:=n7.o.d7;have a1:wrap64 (2*(dd:Int))=2*(dd:Int):=ld _ ad;have a2:wrap64 (2*(dd:Int)+1)=2*(dd:Int)+1:=ld _ ad;have a3:IntKind.u64.wrap (2*(dd:Int)+1)=2*(dd:Int)+1:=u64_in ad ad;have a4:¬(2*(dd:Int)+1=0):=by omega
 rw [show((2*dd+1:Nat):Int)=2*(dd:Int)+1 by omega]at jG;have HM:=J hm;clear hm hd7 Fm abV abX k7 gM agO hg ht hr hk;have hb8:=HB8.o;have i1:=bC hb8;have i4:=hb8.lt;clear hb8;go_upto_region 12 with(fail);rw [jG];clear a1 a2 a3 a4 jG i1 i4;go_wp21
 go_loopw [15] (λt15 wr=>aja w8 wr tb g dd N (lx u 15 1 g) (ru l (0,0,m0)) (jz l) L t15 m) (λt15 _=>m+1 - (intOf t15).toNat)
 case atStart=>exact⟨kR _ _,0,0,N,20,de _,rfl,n7.o.hN,by omega,by omega,by omega,(by have e:({lx u 15 1 g with gd:=20}:Tt)=lx u 15 1 g:=(by simp [lx,HUW.o]);rw [e];exact HT.o),.inl ⟨rfl,by rw [dU];exact HR.o⟩⟩
 case round=>
  obtain⟨yG,i,F,s,T,hi,rfl,hs,hFs,Og,Oh,YR,hor⟩:=hrel;have⟨SI,JA,SR,WL,HS,mw,HPO⟩:=J7' yG YR (show 0<=T/\T<=2000/\T<=1000+20*i from⟨Og,by have:=HM.o;have:=n7.o.d7;omega,Oh⟩) hFs hs (show¬cb=tb/\¬cb=g/\¬tb=g by have:=HB8.o.lt;have:=ot.o.lt;have:=WI.o;have:=HAB.o;have:=HG.o;omega) (show∀r,qk {lx u 15 1 g with gd:=T} r=if r.turn=0 then 0 else 1 from λr=>by simp [qk,HN7.o.bw]);clear yG YR Og Oh hFs hs;have abT:i<=20:=by have:=HM.o;have:=n7.o.d7;omega
  by_cases aX:i<m
  .have iI:(i:Int)<m:=by omega
   have hq:i / 2<dd:=by have:=HM.o;omega
   obtain⟨hf,zG⟩:=nm' (2^(dd - (i / 2+1)));have pK:s=2*hf:=by rw [HS.o,zG];exact pQ dd (i / 2) hq
   have hf1:1<=hf:=by rw [zG];exact Nat.one_le_two_pow
   obtain⟨Da,hDa⟩:=nm' (ru l (0,0,m0) F);obtain⟨Dz,hDz⟩:=nm' (ru l (0,0,m0) (F+s));obtain⟨Dm,hDm⟩:=nm' (ru l (0,0,m0) (F+hf));rw [show s / 2=hf by omega,<-hDa,<-hDz,<-hDm]at hor;have⟨VQ,HDa,HDz,HDm⟩:=J4' (df zG (df pK hf1)) hDa hDz hDm;have Ru:=n7.o.at_.tl;clear zG pK hDa hDz hDm hq
   rcases hor with⟨he,kL⟩|⟨he,kL⟩
   .have EK:=J kL
    have HE:=J he;have e1:(i:Int)%2=0:=by omega
    clear kL he;go_wp21;refine kU (zh tb g _ _ _ JA.o rfl EK.o) λw9 r_=>?_;simp only [fI];go_upto_region 16 with(fail);have y9:al wr ((w9.alloc (.cells Da.cells 25)).alloc (.cells Dz.cells 25)):=(r_.alloc _).alloc _;generalize ((w9.alloc (.cells Da.cells 25)).alloc (.cells Dz.cells 25))=W9 at y9⊢;generalize (w9:World).heap.size=q9;have Hv:=J (SI.o.trans (Kept.ext y9));have Hr:=J (bK HB8.o Hv.o (by have:=mw.o;omega));have HA9:=J (HA8.o.kept Hv.o aac aac aac aac aac);have i1:=bC Hr.o;have i4:=Hr.o.lt;have sR:=J y9;clear y9 r_;go_wp21
    refine(tt x.tb 0 (N+1) x.tk ((List.range (N+1)).map (ru l (0,0,m0))) aC ad F s (F+hf) (by have:=VQ.o;omega) Vz (by have:=VQ.o;omega) (by have:=WL.o;have:=VQ.o;omega) _ HA9.o.Fw Dm (by
     rw [HDm.o,List.getElem?_map,List.getElem?_range (by have:=WL.o;have:=VQ.o;omega)]
     rfl)).mono ?_
    rintro e wa ⟨rfl,OG⟩;clear i1 i4;go_upto_region 18 with(fail);have ya:al W9 (wa.alloc (.cells Dm.cells 25)):=OG.alloc _;have bq:=bN wa 25 Dm.cells;have hqq:tb<wa.heap.size/\g<wa.heap.size:=⟨(bX JA.o (sR.o.trans OG)).lt,(bX EK.o (sR.o.trans OG)).lt⟩;generalize (wa.alloc (.cells Dm.cells 25))=Wa at ya bq⊢;generalize (wa:World).heap.size=qb at bq hqq⊢;have⟨SQ,abf,afq,HD,HQ⟩:=J5' (bX JA.o (sR.o.trans ya)) (bX EK.o (sR.o.trans ya)) (Hv.o.trans (Kept.ext ya)) bq hqq;clear OG ya bq hqq;refine eW (λwz=>Kept (λi=>i=tb∨i=g) Wa wz) [(0,2),(1,2),(3,1),(2,0),(4,0),(5,2)] ?_;refine eX ?_;have yd:al Wa Wa.drew:=(kR _ Wa).drew;refine aaB ?_;intro K hK;go_wp21;refine uW (jv tb _ _ (bX SQ.o yd)) ?_;refine hK.out _ _ (λ_=>Kept.ext yd) ?_;clear hK K;refine aaB ?_;intro K hK;go_wp21;refine(K5 tb g {lx u 15 1 g with gd:=T} F s (by have:=VQ.o;omega) Da Dz (jz l) Dm L T 0 _ ⟨mw.o.2.2,bX SQ.o yd,rfl,bX abf.o yd,rfl,by have:=SR.o;simp [og];omega,by rw [HPO.o];rfl,Int.le_refl _,by show 0<=u.window/\u.window<=1048576;rw [HUW.o];decide⟩).mono ?_;rintro e wc ⟨rfl,htc,hac,Fk⟩;refine hK.out _ _ (λ_=>(Kept.ext yd).trans Fk) ?_;clear hK K;refine fc ?_;go_wp21;go_roundw
    case rel=>
     have hti:=SR.o;have hw:=HUW.o;refine⟨afq.o.trans ((Kept.ext yd).trans Fk),i+1,F,s,T+u.window,by omega,by go_num,by rw [HS.o,show(i+1) / 2=i / 2 by have:=HE.o;omega],WL.o,by omega,by rw [hw];push_cast;omega,htc,.inr ⟨by have:=HE.o;omega,?_⟩⟩;rw [show s / 2=hf by have:=VQ.o;omega,<-HDa.o,<-HDz.o,<-HDm.o];exact hac
    case measure=>simp only [intOf];omega
   .have EK:=J kL
    have HE:=J he;have e1:¬(i:Int)%2=0:=by omega
    clear kL he;go_wp21;refine kU (zh tb g _ _ _ JA.o rfl EK.o) λw9 r_=>?_;simp only [fI];go_upto_region 16 with(fail);have y9:al wr ((w9.alloc (.cells Da.cells 25)).alloc (.cells Dz.cells 25)):=(r_.alloc _).alloc _;generalize ((w9.alloc (.cells Da.cells 25)).alloc (.cells Dz.cells 25))=W9 at y9⊢;generalize (w9:World).heap.size=q9;have⟨JZ,SA,Hv⟩:=J3' (bX JA.o y9) (bX EK.o y9) (SI.o.trans (Kept.ext y9));clear y9 r_;obtain⟨f,hf4⟩:∃f:Bool,f=((i:Int)%4==1):=⟨_,rfl⟩;go_wp21;refine uW (jv tb _ _ JZ.o) ?_;go_wp21;rw [<-hf4];refine(CX tb g {lx u 15 1 g with gd:=T} F s hf VQ.o.2.1 VQ.o.2.2 Vz Vz Da Dz (jz l) Dm L T 1 f _ ⟨mw.o.2.2,JZ.o,rfl,SA.o,rfl,by have:=SR.o;simp [og];omega,by rw [HPO.o];rfl,Int.le_refl _,by show 0<=u.window/\u.window<=1048576;rw [HUW.o];decide⟩).mono ?_;rintro e wd ⟨rfl,htd,had,hkd⟩;have HAD:=J had;clear had;go_wp21;go_roundw
    case rel=>
     have hti:=SR.o;have hw:=HUW.o;have hA:=HAD.o;have hq:=HE.o;have hh:=VQ.o;have K7:=WL.o;have e2:(i+1) / 2=i / 2+1:=by omega
     refine⟨Hv.o.trans hkd,?_⟩
     split at hA
     .refine⟨i+1,F,hf,T+u.window,by omega,by go_num,by rw [e2];exact hh.1,by omega,by omega,by rw [hw];push_cast;omega,htd,.inl ⟨by omega,?_⟩⟩
      rw [<-HDa.o,<-HDm.o];exact hA
     .refine⟨i+1,F+hf,hf,T+u.window,by omega,by go_num,by rw [e2];exact hh.1,by omega,by omega,by rw [hw];push_cast;omega,htd,.inl ⟨by omega,?_⟩⟩
      rw [<-HDm.o,show F+hf+hf=F+s by omega,<-HDz.o];exact hA
    case measure=>simp only [intOf];omega
  .obtain rfl:i=m:=by omega
   have apF:∃Y,At wr g Y/\(Y.turn=0∨Y.turn=1)/\Y.ff=-1:=by
    rcases hor with⟨_,kL⟩|⟨_,kL⟩
    .exact⟨_,kL,.inl rfl,rfl⟩
    .exact⟨_,kL,.inr rfl,rfl⟩
   obtain⟨Y,kL,YS,_⟩:=apF;have EK:=J kL;have HTU:=J YS
   obtain⟨BQ,ph,akV,hph,apG⟩:∃BQ ph:Int,BQ=(if Y.turn=0 then 0 else 1)/\ph=(if Y.turn=0 then 3 else 2)/\((BQ=0/\ph=3)∨(BQ=1/\ph=2)):=by
    rcases YS with q|q
    .exact⟨_,_,rfl,rfl,.inl ⟨by rw [q];rfl,by rw [q];rfl⟩⟩
    .exact⟨_,_,rfl,rfl,.inr ⟨by rw [q];rfl,by rw [q];rfl⟩⟩
   have agw:=HPO.o Y;rw [<-akV]at agw;have HAK:=J agw;have HPH:=J hph;have Oh:wrap64 (T+1)=T+1:=ld _ (by have:=SR.o;omega);clear hor kL YS akV agw hph
   rcases apG with⟨rfl,rfl⟩|⟨rfl,rfl⟩
   all_goals
    go_wp21;refine uW (lH tb g _ _ _ JA.o rfl EK.o rfl) ?_;rw [HAK.o];go_wp21;refine uW (jv tb _ _ JA.o) ?_;go_wp21;refine(C8 tb _ T _ JA.o (.inr rfl) (by have:=SR.o;simp [og];omega) (Int.le_refl _)).mono ?_;rintro e w' ⟨rfl,rfl⟩;go_wp21;refine uW (jv tb _ _ JA.o) ?_;go_wp21;refine(Ll tb g mw.o.2.2 _ Y (T+1) _ JA.o rfl EK.o rfl HTU.o (by have:=SR.o;simp [og];omega) (by show T<T+1;omega) _ HPH.o).mono ?_;rintro e wx ⟨rfl,htx,hax,hkx⟩;have VV:=J htx;clear htx hax;go_wp21;refine uW (yN tb g _ _ VV.o rfl) ?_;have hse:u.bw=0:=HN7.o.bw;go_wp21;refine(NN tb _ _ VV.o aC).mono ?_;rintro e w' ⟨rfl,rfl⟩;go_wp21;refine uW (lD tb _ _ VV.o) ?_;go_wp21;refine uW (jv tb _ _ VV.o) ?_;go_wp21;refine(Uf tb _ (T+1) _ VV.o aC (by have:=SR.o;simp [og];omega)).mono ?_;rintro e w' ⟨rfl,rfl⟩;go_wp21;go_ret;exact⟨rfl,uz.o.trans' ((Xc.o.mono (λi _ e=>(show i=ta∨i=tb∨i=g by rcases e with e|e<;>simp [e]))).trans ((SI.o.trans hkx).mono (λi _ e=>(show i=ta∨i=tb∨i=g by rcases e with e|e<;>simp [e])))) (λi hi e=>by have:=eP.o.size;have:=WI.o;have:=HAB.o;have:=HG.o;omega)⟩
end Mc
open Go.Deep Go.ChangeShapes Go.WideShapes Sq Mc
namespace trialSilent
theorem walk {H} {enc} (W) (base) (v0 v1 v2) (d0) (p0:List MemPlace) (d1:DataW H) (p1:List MemPlace) (d2:DataW H) (p2:List MemPlace)
 (o0:Value.okWide prog W .any base 42 v0) (o1:Value.okWide prog W .any base 3 v1) (o2:Value.okWide prog W .any base 3 v2)
 (h0:DataW.Trod enc prog W 0 (λ_=>true) true 42 v0 d0 p0) (h1:DataW.Trod enc prog W 0 (λ_=>true) true 3 v1 d1 p1) (h2:DataW.Trod enc prog W 0 (λ_=>true) true 3 v2 d2 p2) (hL:laidMetH prog Rows.trialSilentUptoRow.laid W)
 {gs:List (DataW H)} (hk:Rows.uptoSmall H ([d0,d1,d2]++gs)=true)
 (z0:light prog 42 d0) (_z1:light prog 3 d1) (_z2:light prog 3 d2) (hS:W.ShapedOpen prog):
 Calls prog 5 #[v0,v1,v2] W λe w'=>e=.returned (.bool true)/\al W w':=by
 obtain⟨c,q,n,s,t,V,A,rfl,hp,hc,hs,hV,hA⟩:=Zq o0 h0 z0;obtain⟨a,rfl,_⟩:=wX o1 h1;obtain⟨b,rfl,_⟩:=wX o2 h2;refine ahX ?_;intro hk hLA hOA j hj hj2;exact Lt c q n j hj hj2 s t V A a b W hp hLA hOA hc ad hV hA
