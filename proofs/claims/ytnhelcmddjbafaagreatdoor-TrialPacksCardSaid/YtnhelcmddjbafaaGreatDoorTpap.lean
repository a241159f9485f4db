import Derived.Test.YtnhelcmddjbafaaGreatDoorTpao
set_option maxHeartbeats 4000000
set_option maxRecDepth 100000
open Go.Proofs.Tryz
namespace Go.Proofs.YtnhelcmddjbafaaGreatDoor
open Go.RowKit Sq
namespace Mc
variable{m0 m1:List Int}
theorem As (c:List Ins) (r:Zd):∀j,gX c r j=kM c j r
 |0=>rfl
 |j+1=>by
  rw [BR,<-As c r j]
  rfl
structure Ks where (cb part:Nat) (vs ag:i_) (fb fk gb gk tb tk lb lk:Nat) (jk bU:Int)
abbrev Ks.cells (x:Ks) (n N L:Nat) (d:Int):Array Value:=#[.pointer (some ⟨x.cb,0,none⟩),.int .i64 x.part,x.vs.v,x.ag.v,.int .i64 0,.slice (some ⟨x.fb,0,none⟩) n x.fk,.int .i64 0,.int .i64 x.jk,.slice (some ⟨x.gb,0,none⟩) n x.gk,.int .i64 x.bU,.slice (some ⟨x.tb,0,none⟩) (N+1) x.tk,.int .i64 d,.slice (some ⟨x.lb,0,none⟩) L x.lk]
structure L1 (w:World) (x:Ks) (l:List Ins) (m0 m1:List Int) (n N L:Nat):Prop where
 ops:OpsAt w
 JV:Row w x.lb 0 (db l)
 ll:L=l.length
 l1:1<=L
 l2:L<=2048
 iok:∀i∈l,i.ok
 Bq:Row w x.fb 0 (bj m0)
 fn:n=m0.length
 fok:jX 0 0 m0
 grow:Row w x.gb 0 (bj m1)
 gn:n=m1.length
 tl:N<=128
 last:(x.jk,x.bU,m1)=gX l (0,0,m0) N
 Od:Row w x.tb 0 (cY ((List.range (N+1)).map (tI l (0,0,m0))))
theorem L1.ext {w w':World} {x:Ks} {l:List Ins} {n N L:Nat} (h:L1 w x l m0 m1 n N L) (hx:al w w'):L1 w' x l m0 m1 n N L:=
 {h with ops:=h.ops.ext hx,JV:=h.JV.ext hx,Bq:=h.Bq.ext hx,grow:=h.grow.ext hx,Od:=h.Od.ext hx}
theorem L1.kept {S:Nat->Prop} {w w':World} {x:Ks} {l:List Ins} {n N L:Nat} (h:L1 w x l m0 m1 n N L) (hx:Kept S w w') (h0:¬S 0) (h1:¬S x.lb) (h2:¬S x.fb) (h3:¬S x.gb) (h4:¬S x.tb):L1 w' x l m0 m1 n N L:=
 {h with ops:=h.ops.kept hx h0,JV:=h.JV.kept hx h1,Bq:=h.Bq.kept hx h2,grow:=h.grow.kept hx h3,Od:=h.Od.kept hx h4}
theorem L1.adR {w:World} {x:Ks} {l:List Ins} {n N L:Nat} (h:L1 w x l m0 m1 n N L):kO w (some ⟨x.lb,0,none⟩) x.lb 0 L l x.fb 0 n 0 0 m0:=
 ⟨h.ops,λ_=>rfl,λ_=>h.JV,h.ll,h.l2,h.fn,by rw [h.fn];exact h.fok.right,h.fok.B_,h.Bq⟩
theorem KG (x:Ks) (l:List Ins) (m0 m1:List Int) (n N L:Nat) (d:Int) (j:Nat) (hj:j<=1048576) (w:World) (hk:L1 w x l m0 m1 n N L):
 Calls prog 56 #[.agg (x.cells n N L d),.int .i64 j] w λe w'=>∃s:Ws,e=.returned (.agg s.cells)/\nl w' s (jy l (gX l (0,0,m0) j).1 (gX l (0,0,m0) j).2.1 (gX l (0,0,m0) j).2.2)/\al w w':=by
 have HK:=J hk;obtain⟨r,hr⟩:=nm' (gX l (0,0,m0) j);rw [<-hr];have HR:=J (hr.trans (As l (0,0,m0) j));have hok:=(nc (c:=l) (r:=(0,0,m0)) (by rw [<-hk.ll];exact hk.l2) hk.fok) j;rw [<-hr]at hok;have lm:=J hok;have y0:=(dY w (.cells (x.cells n N L d) 50)).alloc (.cells nN 74);have b0:ai _ w.heap.size 50 (x.cells n N L d):=ai.alloc (bN w _ _) (.cells nN 74);have s0:ai _ (w.heap.size+1) 74 nN:=ai.ea (w.alloc (.cells (x.cells n N L d) 50)) _ _ _ aB;clear hk hr hok;go_enter func56,ntmps56;go_upto_region 1 with(fail);generalize ((w.alloc (.cells (x.cells n N L d) 50)).alloc (.cells nN 74))=W1 at y0 b0 s0⊢;generalize yf:(w:World).heap.size=kb at b0 s0⊢;have⟨DD,LP,HS0,cC⟩:=J4' yf b0 s0 y0;have i1:=bC b0;have i2:=bH b0;have i3:=bG b0;have i4:=b0.lt;clear b0 s0 y0 yf;go_wp21;refine(Hr (some ⟨x.lb,0,none⟩) x.lb 0 L x.lk l 0 0 x.fb 0 n x.fk m0 j hj _ (HK.o.ext cC.o).adR).mono ?_;rintro e w2 ⟨v,k,rfl,hkj,g,c,rfl,hm,bd⟩;rw [<-HR.o]at hm⊢;have⟨HM,fp,nQ,oQ⟩:=J4' hm (cC.o.trans bd) (bX LP.o bd) (bX HS0.o bd);clear i1 i2 i3 i4 hm bd;have y3:=dY w2 (.cells (ae r.1 (some ⟨g,0,none⟩) n c r.2.1) 47);have b3:=bN w2 47 (ae r.1 (some ⟨g,0,none⟩) n c r.2.1);go_upto_region 2 with(fail);generalize (w2.alloc (.cells (ae r.1 (some ⟨g,0,none⟩) n c r.2.1) 47))=w3 at y3 b3⊢;generalize (w2:World).heap.size=sb at b3⊢;have⟨tM,HS3,fL,HM3⟩:=J4' (bX nQ.o y3) (bX oQ.o y3) (fp.o.trans y3) (HM.o.ext y3);have i1:=bC tM.o;have i4:=tM.o.lt;have j1:=bH b3;have j2:=bG b3;have j4:=b3.lt;clear y3 b3;go_wp21;refine(aas (some ⟨x.lb,0,none⟩) x.lb 0 x.lk l L HK.o.ll HK.o.l1 HK.o.l2 HK.o.iok (λ_=>rfl) r.1 r.2.1 (some ⟨g,0,none⟩) g 0 c r.2.2 n (by rw [lm.o.2,HK.o.fn]) (by rw [HK.o.fn,<-lm.o.2];exact lm.o.1.right) (λ_=>rfl) lm.o.1.B_ _ (HK.o.ops.ext fL.o) (λ_=>HK.o.JV.ext fL.o) (λ_=>HM3.o.row)).mono ?_;rintro e w4 ⟨s,rfl,hv,eS⟩;have⟨HV,qS,lp⟩:=J3' hv (bX HS3.o eS) (fL.o.trans eS);clear i1 i4 j1 j2 j4 hv eS;have y5:=dY w4 (.cells s.cells 74);have b5:=bN w4 74 s.cells;go_upto_region 3 with(fail);generalize (w4.alloc (.cells s.cells 74))=w5 at y5 b5⊢;generalize (w4:World).heap.size=qb at b5⊢;have OM:=J (bX qS.o y5);have j1:=bH b5;have j2:=bG b5;have j4:=b5.lt;have k1:=bH OM.o;have k2:=ai.aC OM.o;have k4:=OM.o.lt;go_wp21;refine bu results56 rfl rfl n6 (by exact lV) (by exact ai.cw OM.o 0 s.cells) ⟨s,rfl,?_,?_⟩
 .exact(HV.o.ext y5).kept (S:=(·=kb+1)) (Kept.putAt (kR _ w5) (kb+1) 0 s.cells (λ_=>rfl)) (λi q=>by subst q;exact Aa OM.o ap) (λi q=>by subst q;exact Aa OM.o ap)
 .exact Kept.putAt (lp.o.trans y5) _ _ _ (λh=>by have:=DD.o;omega)
def fY (F s:Nat) (a z p d:Dg) (sz turn won:Int):Tr:=⟨F,s,a,z,p,sz,turn,d,won⟩
theorem Bd {t:Tt} {r:Tr} {h:Int} (hp:t.phase=1) (hw:r.jl=-1):xU t r h={t with kG:=h+t.window}:=by
 unfold xU kq;rw [ak hw,ak hp]
theorem FZ {t:Tt} {r:Tr} {h:Int} (hw:r.jl=0):xU t r h={t with phase:=2}:=by
 unfold xU kq;rw [af (show¬r.jl=-1 by omega),ak hw,af (show¬(2:Int)=1 by decide)]
theorem VS (b c:Nat) (t:Tt) (F s:Nat) (h2:2<=s) (a z p d:Dg) (sz h q:Int) (w:World) (hp:uQ w b c t (fY F s a z p Dg.zero sz 0 (-1)) h q):
 Calls prog 23 #[.pointer (some ⟨b,0,none⟩),.int .i64 h,.int .i64 q,.agg d.cells] w λe w'=>e=.returned (.int .i64 0)/\TB w' b {t with kG:=h+t.window}/\At w' c (fY F s a z p d sz 1 (-1))/\Kept (λi=>i=b∨i=c) w w':=by
 have e:dL (fY F s a z p Dg.zero sz 0 (-1)) 0 false=0:=by
  have:¬(s:Int)=1:=by omega
  simp [dL,fY,this]
 have e2:CK (fY F s a z p Dg.zero sz 0 (-1)) d=fY F s a z p d sz 1 (-1):=by
  unfold CK;rw [ak e]
  rfl
 refine(SZ b c t _ h q d w hp).mono ?_;rintro e' w' ⟨rfl,h1,h3,h4⟩;rw [e,ak rfl,e2,Bd hp.ph rfl]at h1;rw [e2]at h3;exact⟨by rw [e],h1,h3,h4⟩
theorem ML (b c:Nat) (t:Tt) (F s hf:Nat) (hs:s=2*hf) (h1:1<=hf) (td:s<=1000) (hF:F<=1000) (a z p d:Dg) (sz h q:Int) (f:Bool) (w:World) (hp:uQ w b c t (fY F s a z p d sz 1 (-1)) h q):
 Calls prog 25 #[.pointer (some ⟨b,0,none⟩),.int .i64 h,.int .i64 q,.bool f] w λe w'=>e=.returned (.int .i64 0)/\TB w' b {t with kG:=h+t.window}/\At w' c (if f=true then fY F hf a d p Dg.zero sz 0 (-1)else fY (F+hf) hf d z p Dg.zero sz 0 (-1))/\Kept (λi=>i=b∨i=c) w w':=by
 have e:dL (fY F s a z p d sz 1 (-1)) 1 false=0:=by
  have:¬(s:Int)=1:=by omega
  simp [dL,fY,this]
 have e2:n8 (fY F s a z p d sz 1 (-1)) f=(if f=true then fY F hf a d p Dg.zero sz 0 (-1)else fY (F+hf) hf d z p Dg.zero sz 0 (-1)):=by
  unfold n8;rw [ak e];have e1:(s:Int) / 2=hf:=by omega
  have e3:(s:Int) - hf=hf:=by omega
  have e4:(F:Int)+hf=((F+hf:Nat):Int):=by omega
  simp only [fY,e1,e3,e4]
 have hwn:(n8 (fY F s a z p d sz 1 (-1)) f).jl=-1:=by rw [e2];split<;>rfl
 refine(KR b c t _ h q f w hp (by show(0:Int)<=s;omega) (by show(s:Int)<=1048576;omega) (by show(0:Int)<=F;omega) (by show(F:Int)<=1048576;omega)).mono ?_;rintro e' w' ⟨rfl,h1,h3,h4⟩;rw [e,ak rfl,Bd hp.ph hwn]at h1;rw [e2]at h3;exact⟨by rw [e],h1,h3,h4⟩
theorem Rs (b c:Nat) (t:Tt) (F:Nat) (a z p:Dg) (sz h q:Int) (x:Ws) (w:World) (hp:uQ w b c t (fY F 1 a z p Dg.zero sz 0 (-1)) h q)
 (hk:∀w',al w w'->Calls prog 81 #[.agg p.cells,.int .i64 sz,.agg a.cells,.agg z.cells,.agg x.cells] w' λe Iz=>e=.returned (.int .i64 0)/\al w' Iz):
 Calls prog 27 #[.pointer (some ⟨b,0,none⟩),.int .i64 h,.int .i64 q,.agg x.cells] w λe w'=>e=.returned (.int .i64 0)/\TB w' b {t with phase:=2}/\(∃r,At w' c r)/\Kept (λi=>i=b∨i=c) w w':=by
 have e:dL (fY F 1 a z p Dg.zero sz 0 (-1)) 0 true=0:=by simp [dL,fY]
 have e1:uk (fY F 1 a z p Dg.zero sz 0 (-1)) 0=0:=by unfold uk;rw [ak e]
 have e2:(p9 (fY F 1 a z p Dg.zero sz 0 (-1)) 0).jl=0:=by
  unfold p9;rw [ak ⟨e,rfl⟩]
 refine(Oc b c t _ h q x 0 w hp hk).mono ?_;rintro e' w' ⟨rfl,h1,h3,h4⟩;rw [e1,ak rfl,FZ e2]at h1;exact⟨by rw [e1],h1,⟨_,h3⟩,h4⟩
def abP (w0 wr:World) (b c dd N:Nat) (t:Tt) (tr:Nat->Dg) (C:Dg) (L:Nat) (v:Value):Prop:=
 Kept (λi=>i=b∨i=c) w0 wr/\
 ((∃(i F s:Nat) (T:Int),i<=dd/\v=.int .i64 i/\s=2^(dd - i)/\F+s<=N/\0<=T/\T<=1000+20*i/\TB wr b {t with kG:=T}/\At wr c (fY F s (tr F) (tr (F+s)) C Dg.zero L 0 (-1)))∨
  (∃(T:Int),v=.int .i64 ((dd:Int)+1)/\TB wr b {t with kG:=T,phase:=2}/\∃r,At wr c r))
theorem MM (b c:Nat) (Rl:¬b=c) (t:Tt) (x:Ks) (l:List Ins) (m0 m1:List Int) (n N L dd:Nat) (hd7:dd<=7) (hN:N=2^dd) (w:World) (hk:L1 w x l m0 m1 n N L) (ht:TB w b t) (hv:t.hv=some ⟨c,0,none⟩) (hp:t.phase=1) (hT:0<=t.kG/\t.kG<=1000) (hw:0<=t.window/\t.window<=10)
 (hr:At w c (fY 0 N (tI l (0,0,m0) 0) (tI l (0,0,m0) N) (kg l) Dg.zero L 0 (-1))) (h00:0<b/\0<c) (s8:¬x.tb=b/\¬x.tb=c/\¬x.lb=b/\¬x.lb=c/\¬x.fb=b/\¬x.fb=c/\¬x.gb=b/\¬x.gb=c)
 (chA:Option Addr) (UQ OY bb bo:Nat) (bs:List Bool) (nw:UQ=bs.length) (YN:0<UQ->chA=some ⟨bb,bo,none⟩/\Row w bb bo (bs.map .bool)/\¬bb=b/\¬bb=c):
 Calls prog 16 #[.pointer (some ⟨b,0,none⟩),.agg (x.cells n N L dd),.slice chA UQ OY] w λe w'=>e=.returned (.bool true)/\(∃T,TB w' b {t with kG:=T,phase:=2})/\(∃r,At w' c r)/\Kept (λi=>i=b∨i=c) w w':=by
 obtain⟨tr,htr⟩:=nm' (tI l (0,0,m0));obtain⟨C,hC⟩:=nm' (kg l);rw [<-htr,<-hC]at hr;have⟨HTR,HC,HK,HT,HV,HR,HP,HTT,HW,HN,HF,HCH,Yq,HBC,H00⟩:=J15 htr hC hk ht hv hr hp hT hw hN s8 YN nw Rl h00;have y0:=dY w (.cells (x.cells n N L dd) 50);have b0:=bN w 50 (x.cells n N L dd);have yl:¬w.heap.size=b/\¬w.heap.size=c:=⟨by have:=ht.lt;omega,by have:=hr.lt;omega⟩;clear htr hC hk ht hv hr hp hT hw hN s8 YN nw Rl h00;go_enter func16,ntmps16;go_upto_region 1 with(fail);generalize (w.alloc (.cells (x.cells n N L dd) 50))=W1 at y0 b0⊢;generalize yf:(w:World).heap.size=kb at b0 yl⊢;have⟨DD,LP,cC⟩:=J3' yl b0 y0;clear b0 y0 yf yl;have h0:abP W1 W1 b c dd N t tr C L (.int .i64 0):=⟨kR _ _,.inl ⟨0,0,N,t.kG,cI _,rfl,HN.o,by omega,HTT.o.1,by have:=HTT.o.2;omega,bX HT.o cC.o,by rw [dT];exact bX HR.o cC.o⟩⟩;have H0:=J h0;clear h0;go_wp21
 go_loopw [7] (λt7 wr=>abP W1 wr b c dd N t tr C L t7) (λt7 _=>dd+2 - (intOf t7).toNat)
 case atStart=>exact H0.o
 case round=>
  obtain⟨Ae,hor⟩:=hrel;have Zm:=J Ae;have HKK:=J (Kept.trans (Kept.ext cC.o) Ae);clear Ae
  rcases hor with⟨i,F,s,T,hi,rfl,hs,hFs,TN,Vi,htb,l7⟩|⟨T,rfl,htb,r,l7⟩
  .obtain⟨Da,hDa⟩:=nm' (tr F)
   obtain⟨Dz,hDz⟩:=nm' (tr (F+s));rw [<-hDa,<-hDz]at l7;have⟨HDa,HDz,HTB,IB,HTi,HFs,HS⟩:=J7' hDa hDz htb l7 (ew TN Vi) hFs hs;have hi6:(i:Int)<60:=by omega
   have p1:(t.phase==1)=true:=by simp [HP.o]
   clear htb l7 hDa hDz TN Vi hs;go_wp21;refine aoT (sH b _ _ HTB.o) ?_;go_wp21;refine aoS (SY b c _ _ _ HTB.o HV.o IB.o) λw8 oo=>?_;simp only [fY];go_upto_region 5 with(fail);have y9:al wr ((w8.alloc (.cells Da.cells 25)).alloc (.cells Dz.cells 25)):=(oo.alloc _).alloc _;generalize ((w8.alloc (.cells Da.cells 25)).alloc (.cells Dz.cells 25))=W9 at y9⊢;generalize (w8:World).heap.size=q8;have⟨Uo,Zf,adx,agh⟩:=J4' (bX HTB.o y9) (bX IB.o y9) (Kept.trans Zm.o (Kept.ext y9)) (Kept.trans HKK.o (Kept.ext y9));have HB9:=J (bK LP.o adx.o (by have:=DD.o;intro q;omega))
   have HK9:=J (show L1 W9 x l m0 m1 n N L from by
    have hf:=HF.o;have h0:=H00.o;exact HK.o.kept agh.o Tj Tj Tj Tj Tj)
   clear y9 oo
   by_cases aP:i<dd
   .obtain⟨hf,Jx⟩:=nm' (2^(dd - (i+1)))
    have td:s=2*hf:=by rw [HS.o,Jx];exact sI dd i aP
    have hf1:1<=hf:=by rw [Jx];exact Nat.one_le_two_pow
    have HHF:=J Jx;have oQ:=J td;have Vg:=HK.o.tl;have amM:((s:Int)==1)=false:=by simp;omega
    obtain⟨Dm,hDm⟩:=nm' (tr (F+hf));have HDm:=J hDm;have i1:=bC HB9.o;have i4:=HB9.o.lt;clear Jx td p1 hDm;go_wp21
    refine(RO x.tb 0 (N+1) x.tk ((List.range (N+1)).map (tI l (0,0,m0))) aB ad F s (F+hf) (by have:=oQ.o;omega) (by have:=HFs.o;omega) (by have:=oQ.o;omega) (by have:=HFs.o;have:=oQ.o;omega) _ HK9.o.Od Dm (by
     rw [HDm.o,HTR.o,List.getElem?_map,List.getElem?_range (by have:=HFs.o;have:=oQ.o;omega)]
     rfl)).mono ?_
    rintro e wa ⟨rfl,hxa⟩;clear i1 i4 amM;go_upto_region 9 with(fail);have ya:al W9 (wa.alloc (.cells Dm.cells 25)):=hxa.alloc _;have bq:=bN wa 25 Dm.cells;have hqq:b<wa.heap.size/\c<wa.heap.size:=⟨(bX Uo.o hxa).lt,(bX Zf.o hxa).lt⟩;generalize (wa.alloc (.cells Dm.cells 25))=Wa at ya bq⊢;generalize (wa:World).heap.size=qb at bq hqq⊢;have⟨adB,agd,alD,alB,HD,HQ⟩:=J6' (bX Uo.o ya) (bX Zf.o ya) (Kept.trans adx.o (Kept.ext ya)) (Kept.trans agh.o (Kept.ext ya)) bq hqq;clear hxa ya bq hqq;refine fH (λwz=>Kept (λi=>i=b∨i=c) Wa wz) [(0,2),(1,2),(2,2),(3,2),(4,2),(6,2),(8,1),(5,0),(7,0),(9,0),(10,2),(11,2)] ?_;refine fI ?_;have yd:al Wa Wa.drew:=(kR _ Wa).drew
    repeat first|refine cx ?_|refine de (Kept.ext yd) afr ?_|refine dc (Kept.ext yd) ?_
    refine au (λK hK=>?_);go_simp;go_wp21;refine aoT (sS b _ _ (bX adB.o yd)) ?_;refine hK.out _ _ (λ_=>Kept.ext yd) ?_;clear hK K
    repeat first|refine cx ?_|refine de (Kept.ext yd) afr ?_|refine dc (Kept.ext yd) ?_
    refine au (λK hK=>?_);go_simp;go_wp21;refine aoT (nK b c _ _ _ (bX adB.o yd) HV.o (bX agd.o yd) HP.o) ?_;refine hK.out _ _ (λ_=>Kept.ext yd) ?_;clear hK K
    repeat first|refine cx ?_|refine de (Kept.ext yd) afr ?_|refine dc (Kept.ext yd) ?_
    refine au (λK hK=>?_);go_simp;go_wp21;refine(VS b c _ F s (by have:=oQ.o;omega) Da Dz C Dm L T _ _ ⟨HBC.o,bX adB.o yd,HV.o,bX agd.o yd,HP.o,by have:=HTi.o;simp [M3];omega,rfl,Int.le_refl _,by have:=HW.o;exact⟨this.1,by show t.window<=1048576;omega⟩⟩).mono ?_;rintro e wc ⟨rfl,htc,hac,Pn⟩;have⟨adC,age,alE,alC⟩:=J4' htc hac (alD.o.trans ((Kept.ext yd).trans Pn)) (alB.o.trans ((Kept.ext yd).trans Pn));refine hK.out _ _ (λ_=>(Kept.ext yd).trans Pn) ?_;clear hK K htc hac;refine fx ?_;clear Pn
    by_cases hci:i<UQ
    .obtain⟨hA,aE,hJ,jo⟩:=HCH.o ad
     have hrc:=aE.kept alC.o Tj
     have yg:wc.cell? ⟨bb,bo+i,none⟩=some (.bool (bs[i]'(by have:=Yq.o;omega))):=by
      rw [hrc.cell i (by have:=Yq.o;simp;omega),List.getElem?_map,List.getElem?_eq_getElem ajH]
      rfl
     have hlb:=hrc.lt;subst hA;have wM:(i:Int)<UQ:=by omega
     clear aE hrc hJ jo;exact akl
    .have wM:¬(i:Int)<UQ:=by omega
     exact akl
   .have ei:i=dd:=by omega
    have xp:s=1:=by rw [HS.o,ei];simp
    subst xp;subst ei;clear aP;have Ju:=QG l (by rw [<-HK.o.ll];exact HK.o.l2) (0,0,m0) HK.o.fok F;rw [<-HTR.o,<-HDa.o,<-HDz.o]at Ju;have lj:=J Ju;clear Ju p1;have hF0:F<=1048576:=by have:=HFs.o;have:=HK.o.tl;omega
    go_upto_region 6 with(fail);refine fH (λwz=>Kept (λi=>i=b∨i=c) W9 wz) [(0,2),(1,2),(3,2),(5,1),(6,2),(2,0),(4,0),(7,0),(8,0),(9,2)] ?_;refine fI ?_;have yd:al W9 W9.drew:=(kR _ W9).drew
    repeat first|refine cx ?_|refine de (Kept.ext yd) abj ?_|refine dc (Kept.ext yd) ?_
    refine au (λK hK=>?_);go_simp;go_wp21;refine aoT (sS b _ _ (bX Uo.o yd)) ?_;refine hK.out _ _ (λ_=>Kept.ext yd) ?_;clear hK K
    repeat first|refine cx ?_|refine de (Kept.ext yd) abj ?_|refine dc (Kept.ext yd) ?_
    refine au (λK hK=>?_);go_simp;go_wp21;refine aoT (nK b c _ _ _ (bX Uo.o yd) HV.o (bX Zf.o yd) HP.o) ?_;refine hK.out _ _ (λ_=>Kept.ext yd) ?_;clear hK K
    repeat first|refine cx ?_|refine de (Kept.ext yd) abj ?_|refine dc (Kept.ext yd) ?_
    refine au (λK hK=>?_);go_simp;go_wp21;refine(KG x l m0 m1 n N L i F hF0 _ (HK9.o.ext yd)).mono ?_;rintro e wa ⟨sx,rfl,hsv,hxa⟩;have ya:=yd.trans hxa;have HSV:=J hsv;refine hK.out _ _ (λ_=>Kept.ext ya) ?_;clear hK K hsv hxa
    repeat first|refine cx ?_|refine de (Kept.ext ya) abj ?_|refine dc (Kept.ext ya) ?_
    refine au (λK hK=>?_);go_simp;go_wp21
    refine(Rs b c _ F Da Dz C L T _ sx _ ⟨HBC.o,bX Uo.o ya,HV.o,bX Zf.o ya,HP.o,by have:=HTi.o;simp [M3];omega,rfl,Int.le_refl _,by have:=HW.o;exact⟨this.1,by show t.window<=1048576;omega⟩⟩ (λw' YV=>by
     have q:=Mg sx l L HK.o.ll HK.o.l1 HK.o.l2 (gX l (0,0,m0) F) Da Dz ((nc (c:=l) (r:=(0,0,m0)) (by rw [<-HK.o.ll];exact HK.o.l2) HK.o.fok) F).1 HK.o.iok w' (HK9.o.ops.ext (ya.trans YV)) (HSV.o.ext YV);rw [lj.o,<-HC.o]at q;exact q)).mono ?_
    rintro e wb ⟨rfl,htb,⟨r,hr⟩,yl⟩;refine hK.out _ _ (λ_=>(Kept.ext ya).trans yl) ?_;clear hK K;refine fx ?_;go_wp21;go_roundw
    case rel=>exact⟨adx.o.trans ((Kept.ext ya).trans yl),.inr ⟨T,by go_num,htb,r,hr⟩⟩
    case measure=>simp only [intOf];omega
  .have HTB:=J htb
   have IB:=J l7;have hd0:(dd:Int)+1<60:=by omega
   clear htb l7;go_wp21;refine aoT (sH b _ _ HTB.o) ?_;go_wp21;refine aoT (sH b _ _ HTB.o) ?_;go_wp21;go_ret;exact⟨rfl,⟨T,HTB.o⟩,⟨r,IB.o⟩,HKK.o⟩
theorem NN {w:World} {b off z:Nat} {v:Value} {vs:List Value} {T:TypeId} {cs:Array Value} (h:Row w b off (v::vs)) (hz:ai w z T cs) (hn:¬cs[off]?=some v):¬b=z:=λe=>by
 subst e;have q:=h.cell 0 aB;rw [eW,bC hz off]at q;exact hn q
theorem gC.air {w w':World} {N cb z:Nat} {k:Cd} {p:Pr} {T:TypeId} {cs:Array Value} (h:gC w N cb k p) (hk:Kept (·=z) w w') (hz:ai w z T cs) (h0:cs[0]?=some (.pointer none)) (hs:∀(i:Nat) (s:Str),¬cs[i]?=some (Value.string s)) (hT:¬T=171):gC w' N cb k p:=by
 refine⟨h.lt,ax h.le hk.size,bK h.box hk ?_,h.kc,h.ks,?_,?_,λi hi=>?_,h.most⟩
 .intro e
  have q:=h.box;unfold ai at q hz;rw [e]at q;rw [q]at hz;injection hz with hz;injection hz with _ hz _;exact hT hz.symm
 .refine⟨h.first.1,λhn=>?_⟩
  obtain⟨b,hA,hb,hr⟩:=h.first.2 hn;refine⟨b,hA,hb,hr.kept hk ?_⟩;have hl:=h.first.1
  cases hf:dI p.vars with
  |nil=>rw [hf]at hl;simp at hl;omega
  |cons x xs=>
   rw [hf]at hr;exact NN (v:=.int .i32 x) (vs:=bj xs) hr hz (by rw [h0];intro q;cases q)
 .obtain⟨h1,h2,h3,b,off,h4,h5⟩:=h.params
  refine⟨h1,h2,h3,b,off,h4,λhn=>⟨(h5 hn).1,(h5 hn).2.kept hk ?_⟩⟩;have hr:=(h5 hn).2
  cases hf:p.params with
  |nil=>rw [hf]at h1;simp at h1;omega
  |cons x xs=>
   rw [hf]at hr;exact NN (v:=.string x.name) (vs:=[.int .i64 x.size,.int .i64 x.low,.int .i64 x.high]++bZ aZ xs) hr hz (hs _ _)
 .obtain⟨h1,b,hA,hb,hr⟩:=h.ins i hi
  refine⟨h1,b,hA,hb,hr.kept hk ?_⟩
  cases hf:aK p i with
  |nil=>unfold aK at hf;simp at hf
  |cons x xs=>
   rw [hf]at hr;exact NN (v:=.int .i64 x.op) (vs:=[.int .i64 x.a,.int .i64 x.b,.int .i64 x.c]++db xs) hr hz (by rw [h0];intro q;cases q)
theorem GK {h:List UInt8} {k:Nat} {n size words:Int} (hs:0<=size/\size<=4096) (hw:0<=words/\words<=4096) (h1:nP h k n size words=true):br n:=by
 unfold nP at h1;unfold br
 split at h1
 .unfold D7 at h1
  repeat' split at h1
  all_goals simp [tg]at h1
  all_goals omega
 .simp at h1
  omega
theorem aeJ {i:Ins} {size words:Int} (hs:0<=size/\size<=4096) (hw:0<=words/\words<=4096) (h:aQ i size words=true):i.ok:=by
 obtain⟨h0,h22,ha,hb,hc,_⟩:=gy h;exact⟨by unfold br;omega,GK hs hw ha,GK hs hw hb,GK hs hw hc⟩
end Mc
open Mc
theorem ED (c:Pc) (p:Pr) (N:Nat) (w:World) (hN:N<=w.heap.size) (h:nj w N c p):Calls prog 97 #[.agg c.cells] w λe w'=>e=.returned (.bool (Je p))/\al w w':=by
 obtain⟨cn,jY,⟨sA,sn,sc⟩,cv,cs,ct,ry,iD,mj,cq,oH⟩:=c;obtain⟨r,hr⟩:=nm' (Je p);rw [<-hr];have HR:=J (show r=(decide (jc (eo p)<=1200)&&decide ((sn:Int)<=20))by rw [hr,Je,<-h.bY.1]);clear hr;have aF:=dY w (.cells (Pc.cells ⟨cn,jY,⟨sA,sn,sc⟩,cv,cs,ct,ry,iD,mj,cq,oH⟩) 39);have hB:=bN w 39 (Pc.cells ⟨cn,jY,⟨sA,sn,sc⟩,cv,cs,ct,ry,iD,mj,cq,oH⟩);go_enter func97,ntmps97;go_upto_region 1 with(fail);have HP:=J (h.ext aF hN);have fX:=J (ax hN aF.size);generalize hW:(w.alloc (.cells (Pc.cells ⟨cn,jY,⟨sA,sn,sc⟩,cv,cs,ct,ry,iD,mj,cq,oH⟩) 39))=W at aF hB HP fX⊢;clear hW h;have dS:=J aF;have HB:=J hB;clear aF hB;generalize w.heap.size=pb at HB⊢;have hc:=bC HB.o;have hl:=HB.o.lt;have hh:=bH HB.o;have hg:=bG HB.o;go_wp2_with fail;refine(Fi _ p N _ fX.o HP.o).mono λe w1 hq=>?_;obtain⟨rfl,aw⟩:=hq;have hc1:=bC (bX HB.o aw);have LD:=(bX HB.o aw).lt;have ji:=J (dS.o.trans aw);clear hc hl hh hg aw;obtain⟨z,hz⟩:=nm' (jc (eo p));rw [<-hz]at HR⊢;clear hz
 by_cases h1:z<=1200
 .by_cases h2:(sn:Int)<=20
  .have FP:=J (show r=true by rw [HR.o,cJ h1,cJ h2];rfl)
   go_wp2_with fail;go_ret;exact⟨aR FP.o.symm,ji.o⟩
  .have FP:=J (show r=false by rw [HR.o,cJ h1,cT h2];rfl)
   go_wp2_with fail;go_ret;exact⟨aR (by rw [FP.o];simp;omega),ji.o⟩
 .have FP:=J (show r=false by rw [HR.o,cT h1];rfl)
  go_wp2_with fail;go_ret;exact⟨aR (by rw [FP.o]),ji.o⟩
theorem Kj (c:Pc) (part:Nat) (hp:part<5) (w:World):Calls prog 152 #[.agg c.cells,.int .i64 part] w λe w'=>e=.returned (Y8 c part).v/\al w w':=by
 have y0:=dY w (.cells c.cells 39);have hB:=bN w 39 c.cells;have hj:part=0∨part=1∨part=2∨part=3∨part=4:=by omega
 clear hp
 rcases hj with rfl|rfl|rfl|rfl|rfl
 all_goals
  go_enter func152,ntmps152;go_upto_region 1 with(fail);generalize (w.alloc (.cells c.cells 39))=W1 at y0 hB⊢;generalize w.heap.size=pb at hB⊢;have i1:=bC hB;have i2:=hB.lt;have HY:=J y0;clear y0 hB;go_wp21;go_ret;exact⟨rfl,HY.o.trans (dY W1 _)⟩
def nC (p:Pr):Bool:=decide (256<p.start.size)||decide (256<p.turn.size)||decide (256<p.cd.size)||decide (256<p.quiet.size)||decide (256<p.bO.size)
theorem BU {p:Pr} (i:Nat) (hi:i<5) (h:256<(partOf p i).size):nC p=true:=by
 rcases(by omega:i=0∨i=1∨i=2∨i=3∨i=4)with rfl|rfl|rfl|rfl|rfl<;>simp only [partOf]at h<;>simp [nC,h]
theorem yB {p:Pr} (h:∀i,i<5->¬256<(partOf p i).size):nC p=false:=by
 have h0:=h 0 ad;have h1:=h 1 ad;have h2:=h 2 ad;have h3:=h 3 ad;have h4:=h 4 ad;simp only [partOf]at h0 h1 h2 h3 h4;simp only [nC,cT h0,cT h1,cT h2,cT h3,cT h4,Bool.or_false]
theorem pq (p:Pr):nC p=true↔nB p:=by
 constructor
 .intro h
  refine Classical.byContradiction λq=>?_;rw [yB (λi hi h'=>q ⟨i,hi,h'⟩)]at h
  cases h
 .rintro⟨i,hi,h⟩
  exact BU i hi h
theorem Sn (c:Pc) (p:Pr) (N:Nat) (w:World) (hN:N<=w.heap.size) (h:nj w N c p) (hz:eo p<=1099511627776):Calls prog 101 #[.agg c.cells] w λe w'=>e=.returned (.bool (nC p))/\al w w':=by
 obtain⟨r,hr⟩:=nm' (nC p);rw [<-hr];have HR:=J hr;have HZ:=J hz;have y0:=dY w (.cells c.cells 39);have hB:=bN w 39 c.cells;have HP:=J (h.ext y0 hN);have HN:=J (ax hN y0.size);clear hr hz h hN;go_enter func101,ntmps101;go_upto_region 1 with(fail);generalize (w.alloc (.cells c.cells 39))=W1 at y0 hB HP HN⊢;generalize w.heap.size=pb at hB⊢;have HB:=J hB;have HY:=J y0;clear y0 hB;go_upto_region 2 with(fail)
 go_loopw [3] (λt3 wr=>∃j:Nat,j<=5/\t3=.int .i64 j/\(∀i,i<j->¬256<(partOf p i).size)/\al W1 wr) (λt3 _=>5 - (intOf t3).toNat)
 case atStart=>exact⟨0,by omega,rfl,λi h=>by omega,kR _ _⟩
 case round=>
  obtain⟨j,hj,rfl,hall,hk⟩:=hrel;have fW:=J hall;have HK:=J hk;clear hall hk
  by_cases aP:j<5
  .have gD:(j:Int)<5:=by omega
   have d0:=bX HB.o HK.o;have d1:=bH d0;have d2:=bG d0;have d3:=d0.lt;clear d0;go_wp21;refine aoS (Kj c j aP _) λw4 y4=>?_;clear d1 d2 d3;have oh:=((HP.o.part j).ext HK.o HN.o).ext y4 (ax HN.o HK.o.size);have wS:=J (HK.o.trans y4);have ye:=mY (partOf p j) (Y8 c j).A (Y8 c j).n (Y8 c j).c N w4 (ax HN.o wS.o.size) oh
   have hw:jc (((partOf p j).size:Nat):Int)=((partOf p j).size:Nat):=by
    have h1:=tH p j aP;have h2:=HZ.o;rw [eu]
    omega
   rw [hw]at ye;have HTR:=J (BU (p:=p) j aP)
   have HGO:=J (show¬256<(partOf p j).size->∀i,i<j+1->¬256<(partOf p i).size from λh i hi=>by
    rcases(by omega:i<j∨i=j)with q|q
    .exact fW.o i q
    .subst q;exact h)
   generalize (partOf p j).size=z at ye HTR HGO;generalize Y8 c j=s at ye⊢;clear oh hw y4;go_wp21;refine ye.mono ?_;rintro e w5 ⟨rfl,y5⟩;have uz:=J (wS.o.trans y5);clear y5 ye
   by_cases hb:256<z
   .have hg:decide ((256:Int)<(z:Int))=true:=cJ ad
    have FP:=J (show r=true by rw [HR.o];exact HTR.o hb);clear hb;go_wp21;go_ret;exact⟨aR FP.o.symm,HY.o.trans uz.o⟩
   .have hg:decide ((256:Int)<(z:Int))=false:=cT ad
    have HG:=J (HGO.o hb);clear hb;go_wp21;go_roundw
    case rel=>exact⟨j+1,aP,by go_num,HG.o,uz.o⟩
    case measure=>simp only [intOf];omega
  .obtain rfl:j=5:=by omega
   have FP:=J (show r=false by rw [HR.o];exact yB fW.o);go_wp21;go_ret;exact⟨aR FP.o.symm,HY.o.trans HK.o⟩
structure adE (w:World) (n:Nat):Prop where
 b2:ai w (n+1+1) 3 #[.int .i64 1,.int .i64 1]
 b3:ai w (n+1+1+1) 174 #[.string sA,.int .i64 0,.int .i64 0,.int .i64 1,.string sL,.int .i64 3,.int .i64 0,.int .i64 1]
 b4:ai w (n+1+1+1+1) 223 (aN 7 E0 none 0 0 0 0 none 0 0 none 0 0)
 b5:ai w (n+1+1+1+1+1) 221 (bJ 0 0 E0 none 0 0)
 b6:ai w (n+1+1+1+1+1+1) 223 (aN 9 E0 (some ⟨n+1+1+1+1+1,0,none⟩) 1 1 0 0 none 0 0 none 0 0)
theorem SK (w:World):Calls prog 96 #[] w λe w'=>al w w'/\e=.returned (.agg (qk w.heap.size).cells)/\adE w' w.heap.size:=by
 go_enter func96,ntmps96;go_upto_region 2 with(fail);go_wp21;obtain⟨W,hW⟩:=nm' (((((((w.alloc (.cells (qk w.heap.size).cells 39)).alloc (.cells (bJ 0 0 E0 none 0 0) 221)).alloc (.cells #[.int .i64 1,.int .i64 1] 3)).alloc (.cells #[.string sA,.int .i64 0,.int .i64 0,.int .i64 1,.string sL,.int .i64 3,.int .i64 0,.int .i64 1] 174)).alloc (.cells (aN 7 E0 none 0 0 0 0 none 0 0 none 0 0) 223)).alloc (.cells (bJ 0 0 E0 none 0 0) 221)).alloc (.cells (aN 9 E0 (some ⟨w.heap.size+1+1+1+1+1,0,none⟩) 1 1 0 0 none 0 0 none 0 0) 223));have hx:al w W:=by rw [hW];exact((((((dM w _).alloc _).alloc _).alloc _).alloc _).alloc _).alloc _
 have b0:ai W w.heap.size 39 (qk w.heap.size).cells:=by rw [hW];exact((((((bN w _ _).alloc _).alloc _).alloc _).alloc _).alloc _).alloc _
 have b2:ai W (w.heap.size+1+1) 3 #[.int .i64 1,.int .i64 1]:=by rw [hW];exact((((ai.ea _ _ _ _ aB).alloc _).alloc _).alloc _).alloc _
 have b3:ai W (w.heap.size+1+1+1) 174 #[.string sA,.int .i64 0,.int .i64 0,.int .i64 1,.string sL,.int .i64 3,.int .i64 0,.int .i64 1]:=by rw [hW];exact(((ai.ea _ _ _ _ aB).alloc _).alloc _).alloc _
 have b4:ai W (w.heap.size+1+1+1+1) 223 (aN 7 E0 none 0 0 0 0 none 0 0 none 0 0):=by rw [hW];exact((ai.ea _ _ _ _ aB).alloc _).alloc _
 have b5:ai W (w.heap.size+1+1+1+1+1) 221 (bJ 0 0 E0 none 0 0):=by rw [hW];exact(ai.ea _ _ _ _ aB).alloc _
 have b6:ai W (w.heap.size+1+1+1+1+1+1) 223 (aN 9 E0 (some ⟨w.heap.size+1+1+1+1+1,0,none⟩) 1 1 0 0 none 0 0 none 0 0):=by rw [hW];exact ai.ea _ _ _ _ aB
 have hsz:w.heap.size+7<=W.heap.size:=by have:=b6.lt;omega
 show bodyPost _ _ _ _ _ (((((((w.alloc (.cells (qk w.heap.size).cells 39)).alloc (.cells (bJ 0 0 E0 none 0 0) 221)).alloc (.cells #[.int .i64 1,.int .i64 1] 3)).alloc (.cells #[.string sA,.int .i64 0,.int .i64 0,.int .i64 1,.string sL,.int .i64 3,.int .i64 0,.int .i64 1] 174)).alloc (.cells (aN 7 E0 none 0 0 0 0 none 0 0 none 0 0) 223)).alloc (.cells (bJ 0 0 E0 none 0 0) 221)).alloc (.cells (aN 9 E0 (some ⟨w.heap.size+1+1+1+1+1,0,none⟩) 1 1 0 0 none 0 0 none 0 0) 223));rw [<-hW];exact bu results96 rfl rfl uR (by exact sM) b0 ⟨hx,rfl,b2,b3,b4,b5,b6⟩
abbrev A2 (q:Nat):Array Value:=#[.int .i64 6,.int .i64 0,.string ⟨#[]⟩,.slice (some ⟨q,0,none⟩) 2 2,.int .i64 0,.int .i64 5,.string ⟨#[]⟩,.slice none 0 0]
abbrev A3 (q:Nat):Array Value:=#[.int .i64 8,.int .i64 0,.string ⟨#[]⟩,.slice (some ⟨q+1,0,none⟩) 2 2]
abbrev A4 (q:Nat):Array Value:=#[.int .i64 0,.string ⟨#[97]⟩,.slice (some ⟨q+1+1,0,none⟩) 1 1,.int .i64 0,.int .i64 0,.slice none 0 0,.slice none 0 0]
abbrev B1:Array Value:=#[.int .i64 0,.int .i64 9,.string ⟨#[]⟩,.slice none 0 0,.int .i64 0,.int .i64 4,.string ⟨#[]⟩,.slice none 0 0]
abbrev B2 (q:Nat):Array Value:=#[.int .i64 8,.string ⟨#[]⟩,.slice (some ⟨q,0,none⟩) 2 2,.int .i64 0,.int .i64 0,.slice none 0 0,.slice none 0 0]
theorem GA (w:World) (N:Nat):mT w N ⟨none,0,0⟩ []:=⟨rfl,λx hx=>by simp at hx,0,0,λh=>absurd h aB,λh=>absurd h aB⟩
theorem mT.eT {w:World} {base:Nat} {s:i_} {l:List Int} (h:w.ownsRow base 21 1 s.v s.n (bj l)) (hl:∀x∈l,av x):mT w w.heap.size s l:=(uL.eT h).words hl
abbrev A1:Array Value:=#[.int .i64 0,.int .i64 7,.string ⟨#[]⟩,.slice none 0 0,.int .i64 0,.int .i64 0,.string ⟨#[]⟩,.slice none 0 0]
theorem Jf (w:World) (a:Int) (s:Str):(Instr.field 166 (.agg #[.int .i64 a,.string s]) 0).run prog w=.ok (.int .i64 a) w:=by kernel_rfl
attribute [go_sem] Jf
def xM (p:Pr):Bool:=(List.range 5).all λi=>decide (aU p i<=65536)
theorem KH {p:Pr} (h:∀i,i<5->aU p i<=65536):xM p=true:=by
 unfold xM;rw [List.all_eq_true];exact λi hi=>cJ (h i (List.mem_range.1 hi))
theorem Hu {p:Pr} (h:∃i,i<5/\65536<aU p i):xM p=false:=by
 obtain⟨i,hi,q⟩:=h
 cases hb:xM p
 .rfl
 .unfold xM at hb
  rw [List.all_eq_true]at hb;have:=of_decide_eq_true (hb i (List.mem_range.2 hi))
  omega
def CO (p:Pr):Int:=match check p with
 |some f=>f.e
 |none=>if nC p then 5 else if xM p then 0 else 12
structure agc (p:Pr) (w':World) (a:Option Addr) (e:Int):Prop where
 err:e=CO p
 some_:a.isSome=(e==0)
theorem pN.err {p:Pr} {w':World} {e:Ending} (h:pN p w' e):∃a n,e=.returned (.tuple #[.pointer a,.int .i64 n])/\agc p w' a n:=by
 cases h with
 |bad f hf=>
  refine⟨none,f.e,rfl,by unfold CO;rw [hf],?_⟩;have:=acH p f hf;simp [this]
 |long hc hl=>exact⟨none,5,rfl,by unfold CO;rw [hc];simp only [(pq p).2 hl,if_true],rfl⟩
 |steps hc hl hs=>
  refine⟨none,12,rfl,?_,rfl⟩
  have hb:nC p=false:=by
   cases h:nC p
   .rfl
   .exact absurd ((pq p).1 h) hl
  unfold CO;rw [hc,hb];simp only [Hu hs]
  rfl
 |ok hc hl hs cb k hk=>
  refine⟨some ⟨cb,0,none⟩,0,rfl,?_,rfl⟩
  have hb:nC p=false:=by
   cases h:nC p
   .rfl
   .exact absurd ((pq p).1 h) hl
  unfold CO;rw [hc,hb];simp only [KH hs]
  rfl
section
variable {L b:Int}
theorem rK {a n:Int} (h1:0<=a/\a<b+49) (h2:av n):aQ ⟨1,a,n,0⟩ L (b+49)=true:=by
 unfold av at h2;simp [aQ,iu,ft,nP,D7,tg,fZ,ig]
 omega
theorem Am {a n:Int} (h1:0<=a/\a<b+49) (h2:0<=n/\n<b+49):aQ ⟨2,a,n,0⟩ L (b+49)=true:=by
 simp [aQ,iu,ft,nP,D7,fZ,ig]
 omega
theorem gW {op a c d:Int} (ho:3<=op/\op<=13∨op=15∨op=16) (h1:0<=a/\a<b+49) (h2:0<=c/\c<b+49) (h3:0<=d/\d<b+49):aQ ⟨op,a,c,d⟩ L (b+49)=true:=by
 have h:op=3∨op=4∨op=5∨op=6∨op=7∨op=8∨op=9∨op=10∨op=11∨op=12∨op=13∨op=15∨op=16:=by omega
 rcases h with rfl|rfl|rfl|rfl|rfl|rfl|rfl|rfl|rfl|rfl|rfl|rfl|rfl<;>(simp [aQ,iu,ft,nP,D7,fZ,ig];omega)
theorem aeZ {a n:Int} (h1:0<=a/\a<b+49) (h2:0<=n/\n<b+49):aQ ⟨14,a,n,0⟩ L (b+49)=true:=by
 simp [aQ,iu,ft,nP,D7,fZ,ig]
 omega
theorem Ha {a l h:Int} (h1:0<=a/\a<b+49) (h2:av l) (h3:av h) (h4:l<=h):aQ ⟨17,a,l,h⟩ L (b+49)=true:=by
 unfold av at h2 h3;simp [aQ,iu,ft,nP,D7,tg,fZ,ig]
 omega
theorem xF {a c n:Int} (h1:0<=a/\a<b+49) (h2:0<=c/\c<b+49) (h3:0<=n/\n<=2147483647):aQ ⟨18,a,c,n⟩ L (b+49)=true:=by
 simp [aQ,iu,ft,nP,D7,tg,fZ,ig]
 omega
theorem aaL {a:Int} (h1:0<=a/\a<L):aQ ⟨19,a,0,0⟩ L (b+49)=true:=by
 simp [aQ,iu,ft,nP,D7,fZ,ig]
 omega
theorem PX {op a c:Int} (ho:op=20∨op=21) (h1:0<=a/\a<L) (h2:0<=c/\c<b+49):aQ ⟨op,a,c,0⟩ L (b+49)=true:=by
 rcases ho with rfl|rfl<;>(simp [aQ,iu,ft,nP,D7,fZ,ig];omega)
theorem Al {a:Int} (h1:a=0∨a=1):aQ ⟨0,a,0,0⟩ L (b+49)=true:=by
 rcases h1 with rfl|rfl<;>simp [aQ,iu,ft,nP,D7,tg,fZ,ig]
def bW (L b:Int) (l:List Ins):Prop:=∀i∈l,aQ i L (b+49)=true
theorem bW.nil:bW L b []:=λi h=>by simp at h
theorem bW.cons {i:Ins} {l:List Ins} (h:aQ i L (b+49)=true) (h':bW L b l):bW L b (i::l):=λj hj=>by
 rcases List.mem_cons.1 hj with q|q
 .rw [q];exact h
 .exact h' j q
theorem bW.app {l l':List Ins} (h:bW L b l) (h':bW L b l'):bW L b (l++l'):=λj hj=>by
 rcases lr.1 hj with q|q
 .exact h j q
 .exact h' j q
def WdR (b:Int) (W:Sq.Wd):Prop:=∀s,0<=W s/\W s<b+33
theorem AZ {V:List Vr} (hv:∀v∈V,0<=v.size/\v.size<=64/\av v.low/\av v.high/\v.low<=v.high) (s:Str):0<=(iS V s).size/\(iS V s).size<=64/\av (iS V s).low/\av (iS V s).high/\(iS V s).low<=(iS V s).high:=by
 unfold iS
 cases h:V.find? (λv=>decide (v.name=s))with
 |none=>simp [av]
 |some v=>exact hv v (List.mem_of_find?_eq_some h)
theorem Br {u:Int} (hb:0<=b) (h0:0<=u) (h1:u<16):0<=fr b u/\fr b u<b+49:=by unfold fr;omega
theorem Cs (k:Mk) (W:Sq.Wd) (κ:Kn) (hb:0<=k.b) (hW:WdR k.b W) (hv:∀v∈k.V,0<=v.size/\v.size<=64/\av v.low/\av v.high/\v.low<=v.high):
 ∀(F:EF) (j:Nat) (u:Int),mh κ F=none->0<=u->u+YC F j<=16->bW L k.b (cE k W F j u)
 | .nil,_,_,_,_,_=>by rw [cE];exact bW.nil
 | .cons _ _ _ _ r,j+1,u,hc,h0,h1=>by
  rw [cE];rw [mh,ay]at hc;exact Cs k W κ hb hW hv r j u hc.2 h0 (by simpa [YC]using h1)
 | .cons op n name kids r,0,u,hc,h0,h1=>by
  rw [mh,ay,ay]at hc;obtain⟨⟨hh,ahI⟩,-⟩:=hc;simp only [YC]at h1;unfold lD at hh;rw [ay,dt,gR]at hh;obtain⟨⟨oM,hlen⟩,acr⟩:=hh;simp only [iL,gR,jP]at oM;simp only [beq_iff_eq]at hlen;have JA:∀(j:Nat) (u:Int),0<=u->u+YC kids j<=16->bW L k.b (cE k W kids j u):=λj u a c=>Cs k W κ hb hW hv kids j u ahI a c;have hd:=Ms kids;have nx:=O4 kids;have hw:=hW name;have hx:=AZ hv name;unfold cE
  split
  .rename_i e
   subst e;simp only [if_true,dt,word,gR,jP]at acr;exact bW.cons (rK (Br hb h0 ad) acr) bW.nil
  split
  .exact bW.cons (Am (Br hb h0 ad) ad) bW.nil
  have LD:1<=kids.len:=by
   rw [hlen];unfold exprParts
   split
   .omega
   .split<;>omega
  have Iu:=nx 0 ad;have hd0:=hd 0;have f0:=Br (b:=k.b) hb h0 ad;have f1:=Br (b:=k.b) (u:=u+1) hb ad ad
  split
  .refine bW.app (JA 0 u h0 ad) (bW.cons (xF f1 f0 ad) (bW.cons (gW ad f0 f0 f1) (bW.cons (gW ad f0 ad f0) (bW.cons (gW ad f0 f0 f1) bW.nil))))
  split
  .exact bW.app (JA 0 u h0 ad) (bW.cons (rK f1 C7) (bW.cons (gW ad f0 f1 f0) bW.nil))
  split
  .exact bW.app (JA 0 u h0 ad) (bW.cons (aeZ f0 f0) bW.nil)
  have Pf:=hd 1;have aoB:=Xx (op:=op) ad
  split
  .exact bW.app (bW.app (JA 1 u h0 ad) (JA 0 (u+1) ad ad)) (bW.cons (gW ad f0 f0 f1) bW.nil)
  .exact bW.app (bW.app (JA 0 u h0 ad) (JA 1 (u+1) ad ad)) (bW.cons (gW ad f0 f0 f1) bW.nil)
theorem WdR.pM {W:Sq.Wd} (h:WdR b W) (s:Str) {v:Int} (h0:0<=v) (h1:v<b+33):WdR b (lX W s v):=λt=>by
 unfold lX
 split
 .omega
 .exact h t
theorem pB (k:Mk) (part:Nat) (hb:0<=k.b) (jo:k.b<=100) (td:0<=k.aL/\k.aL<=8) (hv:∀v∈k.V,0<=v.size/\v.size<=64/\av v.low/\av v.high/\v.low<=v.high):
 ∀(F:SF) (κ:Kn) (W:Sq.Wd) (f:Nat) (fy:Bool) (a:Int),cH part κ f fy F=none->F.size<=1099511627776->WdR k.b W->f<=8->0<=a->a+(cB k F W f a).length<L->bW L k.b (cB k F W f a)
 | .nil,_,_,_,_,_,_,_,_,_,_,_=>by rw [cB];exact bW.nil
 | .cons kind name e low high l fi r,κ,W,f,fy,a,hc,hz,hW,hf,ha,hL=>by
  rw [kT,ay]at hc;obtain⟨hc1,tZ⟩:=hc;rw [FV]at hL⊢;rw [dn]at hL;simp only [SF.size]at hz;refine bW.app ?_ (pB k part hb jo td hv r κ W f fy _ tZ ad hW hf ad ad);unfold oG at hc1;rw [ay,ay,ay,ay,dt,gR,dt]at hc1;obtain⟨⟨hkd,hlen⟩,-,hnm,hcd,hblk⟩:=hc1;simp only [iL,gR,jP]at hkd;simp only [beq_iff_eq]at hlen;obtain⟨x9,hdp⟩:=Mh hcd ad;have hE:∀(j:Nat) (u:Int),0<=u->u<=4->bW L k.b (cE k W e j u):=λj u a0 a4=>Cs k W κ hb hW hv e j u x9 a0 (by have:=Ms e j;omega);have hx:=AZ hv name;have hw:=hW name;have F:∀i:Int,0<=i->i<16->0<=fr k.b i/\fr k.b i<k.b+49:=λi h0 h1=>Br hb h0 h1;have F0:=F 0 ad ad;have F1:=F 1 ad ad;have F2:=F 2 ad ad;have V0:∀i:Int,0<=i->i<15->bW L k.b (vP k i):=λi h0 h1=>bW.cons (xF (F (i+1) ad ad) (F i h0 ad) ad) (bW.cons (gW ad (F i h0 ad) (F i h0 ad) (F (i+1) ad ad)) bW.nil)
  by_cases k2:kind=2
  .subst k2
   simp only [if_true]at hblk;rw [ay]at hblk;unfold cS at hL⊢;simp only [if_true]at hL⊢
   cases hn:fi.isNil
   .simp only [hn,cIf,Bool.false_eq_true,if_false,dn,iQ,oW]at hL⊢
    refine bW.app (bW.app (bW.app (bW.app (hE 0 0 ad ad) (bW.cons (PX ad ad F0) bW.nil)) (pB k part hb jo td hv l κ W f false _ hblk.1 ad hW hf ad ad)) (bW.cons (aaL ad) bW.nil)) (pB k part hb jo td hv fi κ W f false _ hblk.2 ad hW hf ad ad)
   .simp only [hn,UJ,if_true,dn,iQ,oW]at hL⊢
    refine bW.app (bW.app (hE 0 0 ad ad) (bW.cons (PX ad ad F0) bW.nil)) (pB k part hb jo td hv l κ W f false _ hblk.1 ad hW hf ad ad)
  by_cases k3:kind=3
  .subst k3
   simp only [show¬(3:Int)=2 by omega,if_false,if_true]at hblk;unfold cS at hL⊢;simp only [show¬(3:Int)=2 by omega,if_false,if_true]at hL⊢;unfold named at hnm;simp only [show¬((3:Int)=0∨(3:Int)=1∨(3:Int)=5)by omega,if_false,if_true]at hnm;unfold loop at hnm;simp only [ay,dt,gR,jP,word]at hnm;obtain⟨-,-,⟨⟨hlo,hhi⟩,anR⟩,hf8⟩:=hnm
   split
   .exact bW.nil
   .rename_i hlh
    rw [af hlh]at hL;simp only [UI,dn,iQ,oW]at hL⊢;have hu:0<=P8 k f/\P8 k f+1<k.b+33:=by unfold P8;omega
    refine bW.app (bW.app (bW.cons (rK ad C7) (bW.cons (rK ad C7) (bW.cons (rK ad C7) bW.nil))) (pB k part hb jo td hv l _ _ (f+1) false _ hblk ad (hW.pM name ad ad) ad ad ad)) (bW.cons (gW ad ad ad ad) (bW.cons (gW ad ad ad ad) (bW.cons (PX ad ad ad) bW.nil)))
  .unfold cS at hL⊢
   rw [af k2,af k3]at hL⊢;unfold QB at hL⊢
   split
   .exact bW.app (hE 0 0 ad ad) (bW.cons (Ha F0 hx.2.2.1 hx.2.2.2.1 hx.2.2.2.2) (bW.cons (Am ad F0) bW.nil))
   split
   .rename_i q0 q1
    rw [af q0,ak q1]at hL;simp only [dn,iQ,oW]at hL;exact bW.app (bW.app (hE 0 0 ad ad) (hE 1 1 ad ad)) (bW.cons (xF F2 F0 ad) (bW.cons (PX ad ad F2) (bW.cons (Ha F1 hx.2.2.1 hx.2.2.2.1 hx.2.2.2.2) (bW.cons (gW ad ad F0 F1) bW.nil))))
   split
   .exact bW.cons (Al ad) bW.nil
   split
   .rename_i q5
    unfold named at hnm;rw [ak ad]at hnm;unfold target at hnm;rw [ay,ay,ak q5,dt]at hnm;obtain⟨-,-,hlw⟩:=hnm;have aoz:2<=low/\low<=1000:=by simpa [iL]using dt.1 hlw
    exact bW.cons (rK ad C7) (bW.cons (rK ad C7) bW.nil)
   split
   .exact bW.app (hE 0 0 ad ad) (bW.cons (Am ad F0) (bW.cons (Al ad) bW.nil))
   split
   .exact bW.cons (rK ad C7) (bW.cons (Al ad) bW.nil)
   split
   .exact bW.app (bW.app (bW.app (hE 1 0 ad ad) (hE 0 1 ad ad)) (V0 1 ad ad)) (bW.cons (Ha F0 C7 C7 ad) (bW.cons (gW ad F2 ad F1) (bW.cons (gW ad F0 F0 F2) (bW.cons (Ha F0 C7 C7 ad) (bW.cons (gW ad ad F1 F0) bW.nil)))))
   .exact bW.app (bW.app (hE 0 0 ad ad) (V0 0 ad ad)) (bW.cons (Am ad F0) bW.nil)
end
theorem afg (p:Pr) (part:Nat) (hk:Dd p):WdR (cells p.vars) (jO p (cells p.vars) part):=by
 have h:=I4 p.vars;have h0:=eZ p.vars;have hn:=hk.np;intro s;unfold jO
 split
 .have:=GU p.params (gT p.vars) (cells p.vars) (cells p.vars+4) (λt=>by have:=h t;omega) h0 ad s
  omega
 .split
  .unfold lX
   split
   .omega
   .have:=h s;omega
  .have:=h s;omega
theorem I8 {p:Pr} (hk:Dd p) (i:Nat) (hi:i<5):okC (aK p i) (bR p):=by
 have h0:=eZ p.vars;have h1:=hk.cells;have hs:=hk.aL;have hm:(bR p:Int)=cells p.vars+49:=by unfold bR;omega
 have hlen:((aK p i).length:Int)=(Ba p i).length+1:=by unfold aK;simp
 intro x hx;rw [hm];have hB:bW (aK p i).length (cells p.vars) (Ba p i):=pB ⟨p.vars,p.aL,cells p.vars⟩ i h0 (by show cells p.vars<=100;omega) (by show 0<=p.aL/\p.aL<=8;omega) (n7 p.vars [] hk.vars) (partOf p i) (oN p i) (jO p (cells p.vars) i) 0 true 0 (hk.part i hi) (by have:=hk.psz i hi;omega) (afg p i hk) ad (Int.le_refl _) (by rw [hlen];unfold Ba;omega);unfold aK at hx
 rcases lr.1 hx with q|q
 .exact hB x q
 .simp at q
  subst q;exact Al ad
theorem GV (κ:Kn):∀(l pre:List Vr),dE κ pre l=none->(∀v∈l,κ v.name=0/\(∀u∈pre,¬u.name=v.name)/\av v.low/\av v.high/\v.low<=v.high)/\(l.map Vr.name).Nodup
 |[],_,_=>⟨λv hv=>by simp at hv,by simp⟩
 |v::r,pre,h=>by
  rw [dE]at h;simp only [ay,dt,gR,Bool.not_eq_true',beq_iff_eq,span,word,jP]at h;obtain⟨-,⟨h1,h2⟩,-,h3,h4⟩:=h;obtain⟨i1,i2⟩:=GV κ r (pre++[v]) h4;refine⟨λu hu=>?_,?_⟩
  .rcases List.mem_cons.1 hu with q|q
   .subst q
    refine⟨h1,λx hx e=>?_,by unfold av;omega,by unfold av;omega,by omega⟩;rw [List.any_eq_false]at h2;exact h2 x hx (cJ e)
   .obtain⟨a1,a2,a3⟩:=i1 u q
    exact⟨a1,λx hx=>a2 x (List.mem_append_left _ hx),a3⟩
  .rw [tq,List.nodup_cons]
   refine⟨λhm=>?_,i2⟩;obtain⟨u,hu,e⟩:=List.mem_map.1 hm;exact(i1 u hu).2.1 v (List.mem_append_right _ aB) e.symm
inductive Aw (p:Pr) (w':World):Ending->Prop
 |no (h:¬(Je p=true/\check p=none/\¬nB p/\∀i,i<5->aU p i<=65536)):Aw p w' (.returned (.tuple #[.pointer none,.bool false]))
 |ok (hf:Je p=true) (h:check p=none) (hl:¬nB p) (hs:∀i,i<5->aU p i<=65536) (cb:Nat) (k:Cd) (hc:gC w' w'.heap.size cb k p):Aw p w' (.returned (.tuple #[.pointer (some ⟨cb,0,none⟩),.bool true]))
theorem M7 (c:Pc) (p:Pr) (N:Nat) (w:World) (hzs:∀i,i<5->zS (partOf p i)) (hN:N<=w.heap.size) (h:nj w N c p) (hL:eQ w) (hz:eo p<=1099511627776):
 Calls prog 42 #[.agg c.cells] w λe w'=>al w w'/\Aw p w' e:=by
 have L_:=J hzs;clear hzs;refine X9 ?_;intro aF hB;go_enter func42,ntmps42;go_upto_region 1 with(fail);have⟨jh,fX,wU,HZ⟩:=J4' (h.ext aF hN) (ax hN aF.size) (hL.ext aF) hz;generalize hW:w.alloc (.cells c.cells 39)=W at aF hB jh fX wU⊢;have dS:=J aF;have HB:=J hB;clear hW aF hB h hN hL hz;generalize w.heap.size=pb at HB⊢;have i1:=bH HB.o;have i2:=bG HB.o;have i3:=HB.o.lt;go_wp21;refine aoS (ED c p N _ fX.o jh.o) λw1 aw=>?_;have ji:=J aw;clear aw i1 i2 i3;obtain⟨r,hr⟩:=nm' (Je p);rw [<-hr];have wW:=J hr;clear hr
 cases r
 .go_wp21
  go_ret2
  exact⟨dS.o.trans ji.o,.no (λq=>by have:=q.1;rw [<-wW.o]at this;cases this)⟩
 .have i1:=bH (HB.o.ext ji.o)
  have i2:=bG (HB.o.ext ji.o);have i3:=(HB.o.ext ji.o).lt;go_wp21;refine(Nu c p N _ (ax fX.o ji.o.size) (jh.o.ext ji.o fX.o)).mono ?_;rintro e w2 ⟨bd,c1,rfl,hp1⟩;have gf:=J (ji.o.trans bd);have HP1:=J hp1;have HL2:=J (wU.o.ext gf.o);clear bd hp1 i1 i2 i3;go_wp21;refine(I9 c1 p _ w2 L_.o HL2.o.lt (cr _) HP1.o HL2.o HZ.o).mono ?_;rintro e w3 ⟨dv,ho⟩;have gq:=J (gf.o.trans dv);clear dv
  cases ho with
  |bad f hf=>
   go_wp21
   go_ret2
   exact⟨dS.o.trans gq.o,.no (λq=>by rw [hf]at q;cases q.2.1)⟩
  |long hc hl=>
   go_wp21
   go_ret2
   exact⟨dS.o.trans gq.o,.no (λq=>q.2.2.1 hl)⟩
  |steps hc hl hs=>
   go_wp21
   go_ret2
   exact⟨dS.o.trans gq.o,.no (λq=>by obtain⟨i,hi,hs⟩:=hs;have:=q.2.2.2 i hi;omega)⟩
  |ok hc hl hs cb k hk=>
   have⟨HC,HL,HS,HK⟩:=J4' hc hl hs hk;clear hc hl hs hk;go_wp21
   go_ret2
   exact⟨dS.o.trans gq.o,.ok wW.o.symm HC.o HL.o HS.o cb k HK.o⟩
theorem Nd (c:Pc) (p:Pr) (N:Nat) (w:World) (hN:N<=w.heap.size) (h:nj w N c p) (qM:Zc c) (hz:eo p<=1099511627776) (hf:Je p=true) (hc:check p=none) (hl:¬nB p):
 Calls prog 43 #[.agg c.cells] w λe w'=>e=.returned (.bool true)/\al w w':=by
 refine X9 ?_;intro aF hB
 have hlb:nC p=false:=by
  cases h:nC p
  .rfl
  .exact absurd ((pq p).1 h) hl
 go_enter func43,ntmps43;go_upto_region 1 with(fail);have⟨jh,fX,adt,HZ,HF,HC,HLB⟩:=J7' (h.ext aF hN) (ax hN aF.size) qM hz hf hc hlb;generalize hW:w.alloc (.cells c.cells 39)=W at aF hB jh fX⊢;have dS:=J aF;have HB:=J hB;clear hW aF hB h hN qM hz hf hc hl hlb;generalize w.heap.size=pb at HB⊢;have i1:=bH HB.o;have i2:=bG HB.o;have i3:=HB.o.lt;go_wp21;refine aoS (ED c p N _ fX.o jh.o) λw1 aw=>?_;rw [HF.o];have ji:=J aw;clear aw i1 i2 i3;have i1:=bH (HB.o.ext ji.o);have i2:=bG (HB.o.ext ji.o);have i3:=(HB.o.ext ji.o).lt;go_wp21;refine aoS (NF c p N _ (ax fX.o ji.o.size) (jh.o.ext ji.o fX.o) adt.o) λw4 eS=>?_;have eU:=J (ji.o.trans eS);clear eS i1 i2 i3;rw [HC.o,show fM none=#[.int .i64 0,.string ⟨#[]⟩]from rfl];have i1:=bH (HB.o.ext eU.o);have i2:=bG (HB.o.ext eU.o);have i3:=(HB.o.ext eU.o).lt;go_wp21;refine aoS (Sn c p N _ (ax fX.o eU.o.size) (jh.o.ext eU.o fX.o) HZ.o) λw5 iG=>?_;rw [HLB.o];have kv:=J (eU.o.trans iG);clear iG i1 i2 i3;go_wp21;go_ret;exact⟨rfl,dS.o.trans kv.o⟩
def fQ (p:Pr) (part:Nat) (V:List Int):List Int:=if part=0 then []else(List.range (kcN p)).map (λi=>V.getD i 0)
def iE (v:Vr) (n:Int):Int:=v.low+(n%18446744073709551616)%(v.high - v.low+1)
def argN (p:Pr) (part:Nat) (A:List Int) (i:Nat):Int:=if part=2 then iE ((p.params[i]?).getD ⟨E0,0,0,0⟩) (A.getD i 0)else A.getD i 0
def fC (p:Pr) (part:Nat) (A:List Int):List Int:=(List.range (fD p part)).map (argN p part A)
theorem ul {f:Nat->Int} (j:Nat):(List.range (j+1)).map f=(List.range j).map f++[f j]:=by rw [List.range_succ,qy];rfl
theorem Wk (c:Pc) (p:Pr) (part:Nat) (hp:part<5) (vs ag:i_) (V A:List Int) (N:Nat) (w:World) (hN:N<=w.heap.size) (h:nj w N c p) (hv:mT w N vs V) (ha:mT w N ag A) (hk:Dd p):
 Calls prog 45 #[.agg c.cells,.int .i64 part,vs.v,ag.v] w λe w'=>∃sv sa:i_,e=.returned (.tuple #[sv.v,sa.v])/\w'.ownsRow w.heap.size 21 1 sv.v sv.n (bj (fQ p part V))/\w'.ownsRow w.heap.size 21 1 sa.v sa.n (bj (fC p part A))/\al w w':=by
 obtain⟨vA,vn,vc⟩:=vs;obtain⟨aA,an,ac⟩:=ag;change Calls prog _ #[.agg c.cells,.int .i64 part,.slice vA vn vc,.slice aA an ac] w _;obtain⟨kc,Pn⟩:=nm' (kcN p);have ahH:cells p.vars=(kc:Int):=by have:=eZ p.vars;rw [Pn];unfold kcN;omega
 have Po:kc<=64:=by have:=hk.cells;omega
 have⟨zW,aly,alx,HK,Lx⟩:=J5' ahH Pn Po hk hp;clear Pn ahH Po;obtain⟨nv,hnv⟩:=nm' (if part=0 then 0 else kc);have⟨LY,agl,HFV⟩:=J3' hnv (show nv<=kc by rw [hnv];split<;>omega) (show fQ p part V=(List.range nv).map (λi=>V.getD i 0)by unfold fQ;rw [hnv,aly.o];split<;>rfl);clear hnv;refine X9 ?_;intro aF hB;go_enter func45,ntmps45;go_upto_region 1 with(fail);have⟨jh,fX,HV,HA⟩:=J4' (h.ext aF hN) (ax hN aF.size) (hv.ext aF) (ha.ext aF);generalize hW:w.alloc (.cells c.cells 39)=W at aF hB jh fX HV HA⊢;have dS:=J aF;have HB:=J hB;clear hW aF hB h hN hv ha hk hp;generalize w.heap.size=pb at HB⊢;obtain⟨hvn,Ds,vb,vo,YT,hvE⟩:=HV.o;obtain⟨Vo,hao,ab,ao,haA,haE⟩:=HA.o;simp only at hvn YT hvE Vo haA haE;have⟨HVN,HVA,HVE,OB,HAA,HAE⟩:=J6' hvn YT hvE Vo haA haE;clear hvn Ds YT hvE Vo hao haA haE;go_upto_region 3 with(fail)
 go_loopw [10,12] (λt10 t12 wr=>∃(j:Nat) (s:i_),j<=nv/\t12=.int .i64 j/\t10=s.v/\wr.ownsRow W.heap.size 21 1 s.v s.n (bj ((List.range j).map (λi=>V.getD i 0)))/\al W wr) (λ_ t12 _=>nv - (intOf t12).toNat)
 case atStart=>exact⟨0,⟨none,0,0⟩,cI _,rfl,rfl,⟨by simp [bj],.inl ⟨rfl,rfl⟩⟩,kR _ _⟩
 case round=>
  obtain⟨j,s,hj,rfl,rfl,ho,hk⟩:=hrel;have⟨HOJ,uH,HSN,HNJ⟩:=J4' ho hk (show s.n=j by have h:=ho.1;rw [fG]at h;simp at h;omega) hj;clear ho hk;have i1:=bH (HB.o.ext uH.o);have i2:=bG (HB.o.ext uH.o);have i3:=(HB.o.ext uH.o).lt;go_wp2_with fail;refine aoS (NE c p N _ (ax fX.o uH.o.size) (jh.o.ext uH.o fX.o)) λwc hyc=>?_;have ZD:=J hyc;clear i1 i2 i3 hyc;rw [zW.o];have Po:=alx.o;have ahU:=agl.o
  by_cases aP:j<nv
  .have su:(j:Int)<kc:=by omega
   have p0:((part:Int) !=0)=true:=bne_iff_ne.2 (λe=>by have h:=LY.o;rw [ak ad]at h;omega)
   by_cases ub:j<vn
   .have VC:(j:Int)<vn:=by omega
    have d_:j<V.length:=by have:=HVN.o;omega
    have F9:=HVA.o ad;have hr:=(HVE.o ad).2.ext (uH.o.trans ZD.o);have hc:=Row.mem hr j d_;have nw:=hr.lt;have ZC:=J (show V.getD j 0=V[j]by simp [d_]);generalize V[j]=x at hc ZC;clear hr;subst F9;go_upto_region 7 with(fail);go_upto_region 8 with(fail);have y1:=dY wc (.cells #[.int .i32 x] 21);have og:Row (wc.alloc (.cells #[.int .i32 x] 21)) wc.heap.size 0 (bj [x]):=Row.cF (bN wc 21 #[.int .i32 x]);obtain⟨v',wa,Pw,D5,Pm⟩:=DO _ W.heap.size s.v s.n _ (aI (aI HOJ.o ZD.o) y1) wc.heap.size 0 1 1 [x] rfl og (by have:=HSN.o;omega) (ax uH.o.size (ax ZD.o.size y1.size));exact akv
   .have VC:¬(j:Int)<vn:=by omega
    have ZC:=J (show V.getD j 0=0 by have:=HVN.o;simp [show V.length<=j by omega]);go_upto_region 8 with(fail);have y1:=dY wc (.cells #[.int .i32 0] 21);have og:Row (wc.alloc (.cells #[.int .i32 0] 21)) wc.heap.size 0 (bj [0]):=Row.cF (bN wc 21 #[.int .i32 0]);obtain⟨v',wa,Pw,D5,Pm⟩:=DO _ W.heap.size s.v s.n _ (aI (aI HOJ.o ZD.o) y1) wc.heap.size 0 1 1 [0] rfl og (by have:=HSN.o;omega) (ax uH.o.size (ax ZD.o.size y1.size));exact akv
  .obtain rfl:j=nv:=by omega
   have FN:=J (show wc.ownsRow w.heap.size 21 1 s.v s.n (bj (fQ p part V))from by rw [HFV.o];exact eI (aI HOJ.o ZD.o) dS.o.size);have YB:=J (uH.o.trans ZD.o);clear aP
   have ahs:((j:Int)<kc/\((part:Int) !=0)=false/\((part:Int)==2)=false/\((part:Int)==3)=false/\part=0)∨(¬(j:Int)<kc/\((part:Int) !=0)=false/\((part:Int)==2)=false/\((part:Int)==3)=false/\part=0)∨
    (¬(j:Int)<kc/\((part:Int)==2)=false/\((part:Int)==3)=false/\¬part=2/\¬part=3)∨(¬(j:Int)<kc/\((part:Int)==2)=false/\((part:Int)==3)=true/\part=3)∨(¬(j:Int)<kc/\((part:Int)==2)=true/\part=2):=by
    have h:=LY.o
    by_cases p0:part=0
    .rw [ak p0]at h
     by_cases q:(j:Int)<kc
     .exact Or.inl ⟨q,by simp [p0],by simp [p0],by simp [p0],p0⟩
     .exact Or.inr (Or.inl ⟨q,by simp [p0],by simp [p0],by simp [p0],p0⟩)
    .rw [af p0]at h
     have q:¬(j:Int)<kc:=by omega
     by_cases p2:part=2
     .exact Or.inr (Or.inr (Or.inr (Or.inr ⟨q,by simp [p2],p2⟩)))
     .by_cases p3:part=3
      .exact Or.inr (Or.inr (Or.inr (Or.inl ⟨q,by simp [p3],by simp [p3],p3⟩)))
      .exact Or.inr (Or.inr (Or.inl ⟨q,by simp;omega,by simp;omega,p2,p3⟩))
   clear Po ahU
   rcases ahs with⟨g1,g2,g3,g4,Iu⟩|⟨g1,g2,g3,g4,Iu⟩|⟨g1,g3,g4,lF,hn3⟩|⟨g1,g3,g4,hp3⟩|⟨g1,g3,T3⟩
   .have HGV:=J (show fD p part=0 by unfold fD;rw [af ad,af ad])
    exact ako
   .have HGV:=J (show fD p part=0 by unfold fD;rw [af ad,af ad])
    exact ako
   .have HGV:=J (show fD p part=0 by unfold fD;rw [af ad,af ad])
    clear lF hn3;exact adg
   .have HGV:=J (show fD p part=1 by unfold fD;rw [af ad,ak ad])
    have HAG:=J (show∀i,argN p part A i=A.getD i 0 from λi=>by unfold argN;rw [af ad]);clear hp3;go_wp2_with fail
    go_loopw [11,15] (λt11 t15 wx=>∃(i:Nat) (q:i_),i<=1/\t15=.int .i64 i/\t11=q.v/\wx.ownsRow wc.heap.size 21 1 q.v q.n (bj ((List.range i).map (argN p part A)))/\al wc wx) (λ_ t15 _=>1 - (intOf t15).toNat)
    case atStart=>exact⟨0,⟨none,0,0⟩,cI _,rfl,rfl,⟨by simp [bj],.inl ⟨rfl,rfl⟩⟩,kR _ _⟩
    case round=>
     obtain⟨i,q,hi,rfl,rfl,ho,hk⟩:=hrel;have⟨LZ,qu,HQN⟩:=J3' ho hk (show q.n=i by have h:=ho.1;rw [fG]at h;simp at h;omega);clear ho hk
     by_cases MJ:i<1
     .have ahM:(i:Int)<1:=by omega
      by_cases ub:i<an
      .have VC:(i:Int)<an:=by omega
       have d_:i<A.length:=by have:=OB.o;omega
       have F9:=HAA.o ad;have hr:=(HAE.o ad).2.ext (YB.o.trans qu.o);have hc:=Row.mem hr i d_;have nw:=hr.lt;have TG:=J (show A.getD i 0=A[i]by simp [d_]);generalize A[i]=x at hc TG;clear hr;subst F9;have ZC:=J ((HAG.o i).trans TG.o);go_upto_region 23 with(fail);have y1:=dY wr (.cells #[.int .i32 x] 21);have og:Row (wr.alloc (.cells #[.int .i32 x] 21)) wr.heap.size 0 (bj [x]):=Row.cF (bN wr 21 #[.int .i32 x]);obtain⟨v',wa,Pw,D5,Pm⟩:=DO _ wc.heap.size q.v q.n _ (aI LZ.o y1) wr.heap.size 0 1 1 [x] rfl og XQ (ax qu.o.size y1.size);exact aky
      .have VC:¬(i:Int)<an:=by omega
       have TG:=J (show A.getD i 0=0 by have:=OB.o;simp [show A.length<=i by omega]);have ZC:=J ((HAG.o i).trans TG.o);go_upto_region 23 with(fail);have y1:=dY wr (.cells #[.int .i32 0] 21);have og:Row (wr.alloc (.cells #[.int .i32 0] 21)) wr.heap.size 0 (bj [0]):=Row.cF (bN wr 21 #[.int .i32 0]);obtain⟨v',wa,Pw,D5,Pm⟩:=DO _ wc.heap.size q.v q.n _ (aI LZ.o y1) wr.heap.size 0 1 1 [0] rfl og XQ (ax qu.o.size y1.size);exact aky
     .obtain rfl:i=1:=by omega
      exact afV
   .have HGV:=J (show fD p part=p.params.length by unfold fD;rw [ak ad])
    have HAG:=J (show∀i,argN p part A i=iE ((p.params[i]?).getD ⟨E0,0,0,0⟩) (A.getD i 0)from λi=>by unfold argN;rw [ak T3]);clear T3;have i1:=bC (HB.o.ext YB.o);have i2:=(HB.o.ext YB.o).lt;go_wp2_with fail;clear i1 i2
    go_loopw [11,15] (λt11 t15 wx=>∃(i:Nat) (q:i_),i<=c.params.n/\t15=.int .i64 i/\t11=q.v/\wx.ownsRow wc.heap.size 21 1 q.v q.n (bj ((List.range i).map (argN p part A)))/\al wc wx) (λ_ t15 _=>c.params.n - (intOf t15).toNat)
    case atStart=>exact⟨0,⟨none,0,0⟩,cI _,rfl,rfl,⟨by simp [bj],.inl ⟨rfl,rfl⟩⟩,kR _ _⟩
    case round=>
     obtain⟨i,q,hi,rfl,rfl,ho,hk⟩:=hrel;have⟨LZ,qu,HQN⟩:=J3' ho hk (show q.n=i by have h:=ho.1;rw [fG]at h;simp at h;omega);clear ho hk;have Ei:=J jh.o.params.1;have aoC:c.params.n<=4:=by have:=Ei.o;have:=HK.o.np;omega
     by_cases MJ:i<c.params.n
     .have ahM:(i:Int)<c.params.n:=by omega
      have yh:i<p.params.length:=by have:=Ei.o;omega
      obtain⟨-,-,-,qb,qo,hpA,hpE⟩:=jh.o.params;have hA:=hpA ad;have aE:=(hpE ad).2.ext (YB.o.trans qu.o);obtain⟨hh,hg⟩:=oB aE i yh;have HVI:=J (show(p.params[i]?).getD ⟨E0,0,0,0⟩=p.params[i]by simp [yh]);have HVR:=J ((GV (fm p.vars) p.params [] HK.o.aeV).1 p.params[i] (ed yh));generalize p.params[i]=v at hg HVI HVR;have⟨HLO,HHI,HQL,HA6⟩:=J4' (show wr.cell? ⟨qb,qo+i*4+2,none⟩=some (.int .i64 v.low)from kQ hh hg 2 ad) (show wr.cell? ⟨qb,qo+i*4+3,none⟩=some (.int .i64 v.high)from kQ hh hg 3 ad) aE.lt (show wr.cell? ⟨pb,6,none⟩=some (.slice (some ⟨qb,qo,none⟩) c.params.n c.params.c)from by rw [<-hA];exact bC (HB.o.ext (YB.o.trans qu.o)) 6);clear hpA hpE hA aE hh hg
      by_cases ub:i<an
      .have VC:(i:Int)<an:=by omega
       have d_:i<A.length:=by have:=OB.o;omega
       have F9:=HAA.o ad;have hr:=(HAE.o ad).2.ext (YB.o.trans qu.o);have hc:=Row.mem hr i d_;have nw:=hr.lt;have TG:=J (show A.getD i 0=A[i]by simp [d_]);generalize A[i]=x at hc TG;clear hr;subst F9;have ZC:=J ((HAG.o i).trans (show iE ((p.params[i]?).getD ⟨E0,0,0,0⟩) (A.getD i 0)=iE v x by rw [TG.o,HVI.o]));have d1:=HA6.o;have d2:=HLO.o;have d3:=HHI.o;have d4:=HQL.o;have d5:=(HB.o.ext (YB.o.trans qu.o)).lt;go_upto_region 21 with(fail)
       go_quiet (fail)
       clear d1 d2 d3 d4 d5;have HOQ:=J (aI LZ.o (show al wr (wr.drewN nq)from(kR _ wr).drewN nq));have Lu:=J (Kept.drewN qu.o nq);generalize (wr.drewN nq)=wq at HOQ Lu⊢;have YU:=HVR.o.2.2;unfold av at YU;have Pf:wrap64 (v.high - v.low)=v.high - v.low:=by unfold wrap64;omega
       have Vu:wrap64 (v.high - v.low+1)=v.high - v.low+1:=by unfold wrap64;omega
       have Vv:IntKind.u64.wrap (v.high - v.low+1)=v.high - v.low+1:=by rw [yR];omega
       have iF:¬(v.high - v.low+1=0):=by omega
       have hval:wrap32 (wrap64 (v.low+wrap64 ((IntKind.u64.wrap x).tmod (v.high - v.low+1))))=iE v x:=by
        rw [yR,Int.tmod_eq_emod_of_nonneg ad];unfold iE;have h1:=Int.emod_nonneg (x%18446744073709551616) iF;have h2:=Int.emod_lt_of_pos (x%18446744073709551616) (show 0<v.high - v.low+1 by omega);generalize x%18446744073709551616%(v.high - v.low+1)=y at h1 h2;unfold wrap32 wrap64
        omega
       clear YU;go_upto_region 23 with(fail);rw [hval];clear Pf Vu Vv iF hval;have y1:=dY wq (.cells #[.int .i32 (iE v x)] 21);have og:Row (wq.alloc (.cells #[.int .i32 (iE v x)] 21)) wq.heap.size 0 (bj [(iE v x)]):=Row.cF (bN wq 21 #[.int .i32 (iE v x)]);obtain⟨v',wa,Pw,D5,Pm⟩:=DO _ wc.heap.size q.v q.n _ (aI HOQ.o y1) wq.heap.size 0 1 1 [(iE v x)] rfl og XQ (ax Lu.o.size y1.size);exact akx
      .have VC:¬(i:Int)<an:=by omega
       have TG:=J (show A.getD i 0=0 by have:=OB.o;simp [show A.length<=i by omega]);have ZC:=J ((HAG.o i).trans (show iE ((p.params[i]?).getD ⟨E0,0,0,0⟩) (A.getD i 0)=v.low by rw [TG.o,HVI.o];unfold iE;simp));have d1:=HA6.o;have d2:=HLO.o;have d3:=HHI.o;have d4:=HQL.o;have d5:=(HB.o.ext (YB.o.trans qu.o)).lt;go_upto_region 21 with(fail)
       go_quiet (fail)
       clear d1 d2 d3 d4 d5;have HOQ:=J (aI LZ.o (show al wr (wr.drewN nq)from(kR _ wr).drewN nq));have Lu:=J (Kept.drewN qu.o nq);generalize (wr.drewN nq)=wq at HOQ Lu⊢;have YU:=HVR.o.2.2;unfold av at YU;have Pf:wrap64 (v.high - v.low)=v.high - v.low:=by unfold wrap64;omega
       have Vu:wrap64 (v.high - v.low+1)=v.high - v.low+1:=by unfold wrap64;omega
       have Vv:IntKind.u64.wrap (v.high - v.low+1)=v.high - v.low+1:=by rw [yR];omega
       have iF:¬(v.high - v.low+1=0):=by omega
       have LD:wrap64 v.low=v.low:=by unfold wrap64;omega
       have Ro:wrap32 v.low=v.low:=by unfold wrap32;omega
       clear YU;go_upto_region 23 with(fail);rw [Ro];clear Pf Vu Vv iF LD Ro;have y1:=dY wq (.cells #[.int .i32 v.low] 21);have og:Row (wq.alloc (.cells #[.int .i32 v.low] 21)) wq.heap.size 0 (bj [v.low]):=Row.cF (bN wq 21 #[.int .i32 v.low]);obtain⟨v',wa,Pw,D5,Pm⟩:=DO _ wc.heap.size q.v q.n _ (aI HOQ.o y1) wq.heap.size 0 1 1 [v.low] rfl og XQ (ax Lu.o.size y1.size);exact akx
     .obtain rfl:i=c.params.n:=by omega
      have HGV:=J (show fD p part=c.params.n by rw [HGV.o,Ei.o]);exact afV
theorem EH {v:Vr} (h1:av v.low) (h2:av v.high) (h3:v.low<=v.high) (n:Int):v.low<=iE v n/\iE v n<=v.high/\av (iE v n):=by
 unfold iE;have a:=Int.emod_nonneg (n%18446744073709551616) (show v.high - v.low+1≠0 by omega);have b:=Int.emod_lt_of_pos (n%18446744073709551616) (show 0<v.high - v.low+1 by omega);generalize n%18446744073709551616%(v.high - v.low+1)=y at a b;unfold av at*
 omega
theorem F6 {p:Pr} {i:Nat} {V:List Int} (h:∀x∈V,av x):∀x∈fQ p i V,av x:=λx hx=>by
 unfold fQ at hx
 split at hx
 .simp at hx
 .obtain⟨j,-,e⟩:=List.mem_map.1 hx
  rw [<-e];exact F7 h j
theorem F5 {p:Pr} (hk:Dd p) {i:Nat} {A:List Int} (h:∀x∈A,av x):∀x∈fC p i A,av x:=λx hx=>by
 unfold fC at hx;obtain⟨j,hj,e⟩:=List.mem_map.1 hx;rw [List.mem_range]at hj;rw [<-e];unfold argN
 split
 .rename_i e2
  have VE:j<p.params.length:=by unfold fD at hj;rw [ak ad]at hj;exact hj
  obtain⟨-,-,a1,a2,a3⟩:=(GV (fm p.vars) p.params [] hk.aeV).1 p.params[j] (ed VE);rw [show(p.params[j]?).getD ⟨E0,0,0,0⟩=p.params[j]by simp [VE]];exact(EH a1 a2 a3 _).2.2
 .exact F7 h j
theorem vi {p:Pr} (hk:Dd p) {i:Nat} (hi:i<5) (V A:List Int):jg p i (fQ p i V) (fC p i A)=0:=by
 have h0:=eZ p.vars;have Pn:(kcN p:Int)=cells p.vars:=by unfold kcN;omega
 have h1:((fQ p i V).length:Int)=jF p i:=by
  unfold fQ jF
  by_cases e:i=0
  .rw [ak e,ak ad];rfl
  .rw [af e,af ad,gu,List.length_range];exact Pn
 have h2:(fC p i A).length=fD p i:=by unfold fC;rw [gu,List.length_range]
 unfold jg;rw [af ad,af (by rw [h1,h2];simp)]
 by_cases e:i=2
 .subst e
  have hb:DP p.params (fC p 2 A)=false:=AU (λj a b=>by
   obtain⟨-,-,a1,a2,a3⟩:=(GV (fm p.vars) p.params [] hk.aeV).1 p.params[j] (ed a)
   have e:(fC p 2 A)[j]=iE p.params[j] (A.getD j 0):=by
    simp only [fC,List.getElem_map,List.getElem_range,argN,if_true];rw [show(p.params[j]?).getD ⟨E0,0,0,0⟩=p.params[j]by simp [a]]
   rw [e];have:=EH a1 a2 a3 (A.getD j 0)
   omega)
  rw [hb,af aB]
 .rw [af ad]

