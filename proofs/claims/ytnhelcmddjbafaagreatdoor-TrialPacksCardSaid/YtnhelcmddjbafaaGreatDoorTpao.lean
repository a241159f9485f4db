import Derived.Lib.SlBuf
import Derived.Test.YtnhelcmddjbafaaGreatDoorTpan
set_option maxHeartbeats 4000000
set_option maxRecDepth 100000
open Go.Proofs.Tryz
namespace Go.Proofs.YtnhelcmddjbafaaGreatDoor
open Go.RowKit
namespace Mc
theorem Ja {H B:Dg} (h:O_ H B=false):(!H.x0==B.x0||(!H.x1==B.x1||(!H.x2==B.x2||(!H.x3==B.x3||(!H.x4==B.x4||(!H.x5==B.x5||(!H.x6==B.x6||!H.x7==B.x7)))))))=true:=by
 unfold O_ at h;rw [<-Bool.not_eq_true']at h
 simpa [Bool.not_and]using h
theorem IU (s:Ws) (p B:Dg) (size:Int) (w:World) (hm:s.mem.ok) (xp:1<=size) (td:size<=2048) (hr:cQ s.pc s.halt s.words=true) (iF:O_ (mA s.pc s.halt s.words s.mem) B=false):
 Calls prog 126 #[.agg #[.int .u8 p.x0,.int .u8 p.x1,.int .u8 p.x2,.int .u8 p.x3,.int .u8 p.x4,.int .u8 p.x5,.int .u8 p.x6,.int .u8 p.x7],.int .i64 size,.agg B.cells,.agg s.cells] w λe w'=>e=.returned (.tuple #[.agg Dg.zero.cells,.int .i64 23])/\al w w':=by
 obtain⟨h1,h2,h3,h4,h5,h6⟩:1<=s.words/\s.words<=256/\0<=s.pc/\s.pc<=2048/\0<=s.halt/\s.halt<=2:=by
  simp [cQ]at hr
  omega
 have HM:=J hm;have HR:=J hr;clear hm hr;obtain⟨H,hH⟩:=nm' (mA s.pc s.halt s.words s.mem);rw [<-hH]at iF;have HH:=J hH;have mS:=J iF;clear hH iF;refine ajI ?_;intro aF eY kB fz;go_wp21;refine aoS (us s _) λw1 aw=>?_;rw [HR.o];have y1:=aF.trans aw;have wK:=bX eY aw;have dK:=bX kB aw;have g_:=bX fz aw;clear aF aw eY kB fz;have o8:=ai.lt dK;have hlR:=ai.lt g_;go_wp21;refine afE ?_;intro K hK;go_wp21;refine(iU s.pc s.halt s.words s.mem HM.o ad ad ad _).mono ?_;rintro e w2 ⟨e2,bd⟩;replace e2:e=.returned (.agg H.cells):=by rw [e2,HH.o]
 subst e2;have y2:al w1 w2:=((kR _ w1).drew).trans bd;refine hK.out _ _ (λ_=>y2) ?_;clear hK K;refine fx ?_;have oK:=bX g_ y2;have TT:=bH oK;have mB:=ai.aC oK;rw [Ja mS.o];go_wp21;refine di results126 rfl rfl dU kH (ai.cw oK _ _) ⟨rfl,?_⟩;exact Kept.putAt (y1.trans y2) _ _ _ (λh=>by omega)
theorem L4 (s:Ws) (l:List Ins) (n:Nat) (hn:n=l.length) (h2:n<=2048) (x:Nat) (hxn:x<n) (m:List Int) (k:Nat) (hk:k=m.length) (hg:cQ x 0 k=true) (hok:∀i∈l,i.ok) (ie:∀z∈m,av z) (w:World) (eH:OpsAt w) (hv:nl w s (jy l x 0 m)):
 Calls prog 126 #[.agg (kg l).cells,.int .i64 n,.agg (mA x 0 k (kC m)).cells,.agg s.cells] w λe w'=>e=.returned (.tuple #[.agg (yG l x 0 m).cells,.int .i64 0])/\al w w':=by
 obtain⟨k1,k2,_⟩:=cG hg;have ahX:jX (x:Int) 0 m:=⟨by rw [<-hk];exact hg,ie⟩;have eO:=Fs (c:=l) (by rw [<-hn];exact h2) ahX;obtain⟨p,hh,m1,dw⟩:∃p hh m1,gO l x m=(p,hh,m1):=⟨_,_,_,rfl⟩;rw [dw]at eO;obtain⟨VQ,ace⟩:=eO;obtain⟨_,_,q3,q4,q5,q6⟩:=cG VQ.right;simp only at q3 q4 q5 q6 ace;obtain⟨R,hR⟩:=nm' (yG l x 0 m);have hR':R=mA p hh k (kC m1):=by rw [hR,yG,jB,ak rfl,dw,hk]
 rw [<-hR];clear hR ahX VQ;have Ag:x<l.length:=by omega
 obtain⟨i,MJ⟩:∃i,l.getD x ⟨0,0,0,0⟩=i:=⟨_,rfl⟩;have hlx:l[x]=i:=by rw [<-MJ];simp [Ag]
 have VD:i.ok:=by rw [<-hlx];exact hok _ (ed Ag)
 have hL:jy l x 0 m=⟨x,0,k,kC m,i,h_ (l.map iq) (iM l.length) x,(dm l x 0 m).1.map (f_ m),if 0<=(dm l x 0 m).2 then [f_ m (dm l x 0 m).2]else []⟩:=by
  unfold jy;rw [af ad,rc,MJ,hk]
 have hvv:=hv;rw [hL]at hv;obtain⟨e1,e2,e3,e4,e5,vp,vr,vw⟩:=hv;obtain⟨spc,acK,Xq,afd,aiY,Dt,Ap,Du,Ea,vR,Dv,CI,qF,Dw⟩:=s;simp only at e1 e2 e3 e4 e5 vp vr vw;replace e5:=e5.symm;obtain⟨M,hM⟩:=nm' (kC m);rw [<-hM]at e4⊢;replace e4:=e4.symm;subst e1 e2 e3 e4 e5;obtain⟨pb,po,hp⟩:=vp;have yq:Ap=iM n:=by rw [hp.len,jS,hn]
 have Ju:pR (kg l) (x:Int) (iq i) (h_ (l.map iq) (iM l.length) x)=true:=by
  have:=A_ (l:=l.map iq) (i:=(x:Int)) ad (by simpa using Ag) kr;rw [gu,rc]at this;rw [show(l.map iq).getD x Dg.zero=iq i by simp [Ag,hlx]]at this;exact this
 obtain⟨C,hC⟩:=nm' (kg l);rw [<-hC]at Ju⊢;obtain⟨Pt,hPt⟩:=nm' (h_ (l.map iq) (iM l.length) x);rw [<-hPt]at Ju hp;have⟨HIL,lj,jh,Ei,HM,HG,Qp,HVR,HVW,HK,HN,HLX,HLI,Zq,Uj,qT,HR⟩:=J17 VD Ju hp yq hM hg hvv vr vw hk hn hlx MJ ie eH dw hR';have ahb:M.ok:=by rw [hM];exact kj _ _
 have HMO:=J ahb;clear VD Ju hp yq hM hg hvv vr vw hk hn hlx MJ ie eH dw hR' ahb hL hC hPt ace hok;obtain⟨s,hs⟩:∃s:Ws,s=⟨x,0,k,M,i,Dt,Ap,Du,Ea,vR,Dv,CI,qF,Dw⟩:=⟨_,rfl⟩;obtain⟨B,hB⟩:=nm' (mA x 0 k M);rw [<-hB];have HB:=J hB;clear hB hs;have aF:al w _:=(((dM w (.cells C.cells 25)).alloc (.cells B.cells 25)).alloc (.cells (Ws.cells ⟨x,0,k,M,i,Dt,Ap,Du,Ea,vR,Dv,CI,qF,Dw⟩) 74)).alloc (.cells Dg.zero.cells 25);have hC0:ai _ w.heap.size 25 C.cells:=ai.alloc (ai.alloc (ai.alloc (bN w _ C.cells) (.cells B.cells 25)) (.cells (Ws.cells ⟨x,0,k,M,i,Dt,Ap,Du,Ea,vR,Dv,CI,qF,Dw⟩) 74)) (.cells Dg.zero.cells 25);have eY:ai _ (w.heap.size+1) 25 B.cells:=ai.alloc (ai.alloc (ai.ea (w.alloc (.cells C.cells 25)) _ B.cells _ aB) (.cells (Ws.cells ⟨x,0,k,M,i,Dt,Ap,Du,Ea,vR,Dv,CI,qF,Dw⟩) 74)) (.cells Dg.zero.cells 25);have kB:ai _ (w.heap.size+1+1) 74 (Ws.cells ⟨x,0,k,M,i,Dt,Ap,Du,Ea,vR,Dv,CI,qF,Dw⟩):=ai.alloc (ai.ea ((w.alloc (.cells C.cells 25)).alloc (.cells B.cells 25)) _ (Ws.cells ⟨x,0,k,M,i,Dt,Ap,Du,Ea,vR,Dv,CI,qF,Dw⟩) _ aB) (.cells Dg.zero.cells 25);have fz:ai _ (w.heap.size+1+1+1) 25 Dg.zero.cells:=ai.ea (((w.alloc (.cells C.cells 25)).alloc (.cells B.cells 25)).alloc (.cells (Ws.cells ⟨x,0,k,M,i,Dt,Ap,Du,Ea,vR,Dv,CI,qF,Dw⟩) 74)) _ _ _ aB;go_enter func126,ntmps126;go_wp21;refine aoS (us ⟨x,0,k,M,i,Dt,Ap,Du,Ea,vR,Dv,CI,qF,Dw⟩ _) λw1 aw=>?_;simp only;rw [HG.o];have y1:=aF.trans aw;have hC1:=bX hC0 aw;have wK:=bX eY aw;have dK:=bX kB aw;have g_:=bX fz aw;clear aF aw eY kB fz hC0;have o8:=ai.lt dK;have hlR:=ai.lt g_;go_wp21;refine afE ?_;intro K hK;go_wp21;refine(iU x 0 k M HMO.o ad ad ad _).mono ?_;rintro e w2 ⟨e2,bd⟩;replace e2:e=.returned (.agg B.cells):=by rw [e2,HB.o]
 subst e2;have y2:al w1 w2:=((kR _ w1).drew).trans bd;refine hK.out _ _ (λ_=>y2) ?_;clear hK K;refine fx ?_;have Q9:=bX hC1 y2;have gx:=bX dK y2;have oK:=bX g_ y2;have Dx:=y1.trans y2;have hc2:=bC gx;have amY:(x:Int)<n:=by omega
 clear wK hC1 dK g_ y1 y2 bd;go_upto_region 9 with(fail);clear hc2;obtain⟨Hn,hHn⟩:=nm' (iM n);have amS:Ap=Hn:=Ei.o.trans hHn.symm;have HHN:=J hHn;clear hHn;subst amS;obtain⟨sb,EU⟩:=nm' w.heap.size;rw [<-EU]at Q9 gx oK o8 hlR⊢;have Yy:=J EU;clear EU;have hlC:=Q9.lt;refine fH (λw3=>al w2 w3) [(0,2),(1,1),(2,2),(3,2),(4,0),(5,2),(6,2),(7,1),(8,2),(9,1),(10,2),(11,1),(13,2),(14,1),(12,0),(15,0),(16,2),(17,2)] ?_;refine fI ?_
 repeat first|refine cx ?_|refine de fU zb1 ?_|refine dc fU ?_
 have yW:al w2 w2.drew:=(kR _ w2).drew;refine au (λK hK=>?_);go_simp;go_wp21;refine(sr n ad ad _).mono ?_;rintro e w3 ⟨rfl,rfl⟩;rw [<-HHN.o];refine hK.out _ _ (λ_=>yW) ?_;clear hK K
 repeat first|refine cx ?_|refine de yW zb1 ?_|refine dc yW ?_
 refine au (λK hK=>?_);go_simp;go_wp21;refine aoS (EV i HIL.o _) λw3 dv=>?_;have y3:al w2 w3:=yW.trans dv;refine hK.out _ _ (λ_=>y3) ?_;clear hK K;refine tj ?_;intro K hK;go_wp21;refine aoS (CJ C x (iq i) (JK _) Dt pb po Ap Du Pt _ (jh.o.ext (Dx.trans y3))) λw4 eS=>?_;rw [lj.o];have y4:al w2 w4:=y3.trans eS;refine hK.out _ _ (λ_=>y4) ?_;clear hK K;refine fx ?_;have xg:=bX gx y4;have Jp:=bX oK y4;have y14:=Dx.trans y4;have i1:=bC xg;have i2:=bH xg;have i3:=bG xg;clear Q9 gx oK Dx dv y3 eS yW;go_wp21;have TW:=BO i n k w4 (Uj.o.ext y14)
 cases VZ:aQ i n k
 .rw [VZ]at TW
  have HRI:=J VZ;clear VZ;refine TW.mono ?_;rintro e w5 ⟨rfl,iG⟩;clear TW;have hS5:=bX xg iG;have tV:=bX Jp iG
  have JD:cW l x m.length=none:=by
   unfold cW;rw [rc,List.getElem?_eq_getElem Ag,HLX.o,<-HN.o,<-HK.o];show(if aQ i n k=true then some i else none)=_;rw [af (by rw [HRI.o];simp)]
  have fE:dm l x 0 m=([],-1):=by simp only [dm,JD];rfl
  have aif:(p,hh,m1)=((x:Int),(2:Int),m):=by
   rw [<-qT.o];unfold gO;rw [JD]
  have YU:=HVR.o.len;have hvw:=HVW.o.len;rw [fE]at YU hvw;simp at YU hvw
  have Vh:R=Ws.same ⟨x,0,k,M,i,Dt,Ap,Du,Ea,vR,Dv,CI,qF,Dw⟩:=by
   rw [HR.o];injection aif with e1 e2;injection e2 with e2 e3;rw [e1,e2,e3,<-HM.o]
   rfl
  have aca:Ws.bare ⟨x,0,k,M,i,Dt,Ap,Du,Ea,vR,Dv,CI,qF,Dw⟩=true:=by
   simp [Ws.bare,YU,hvw]
  have mv:=J Vh;have HBA:=J aca;clear JD fE aif YU hvw Vh aca i1 i2 i3;have i2:=bH hS5;have i3:=bG hS5;go_wp21;refine aoS (Fk ⟨x,0,k,M,i,Dt,Ap,Du,Ea,vR,Dv,CI,qF,Dw⟩ _) λw6 nU=>?_;rw [HBA.o];have MA:=bX hS5 nU;have Ip:=bX tV nU;clear i2 i3;have i2:=bH MA;have i3:=bG MA;go_wp21;have V0:=Fp ⟨x,0,k,M,i,Dt,Ap,Du,Ea,vR,Dv,CI,qF,Dw⟩ HMO.o HG.o w6;rw [<-mv.o]at V0;refine V0.mono ?_;rintro e w7 ⟨rfl,zK⟩;have TM:=bX Ip zK;have i4:=bH TM;have i5:=ai.aC TM;clear i2 i3 V0;go_wp21;refine di results126 rfl rfl dU kH (ai.cw TM _ _) ⟨rfl,?_⟩;exact Kept.putAt (((y14.trans iG).trans nU).trans zK) _ _ _ (λh=>by have:=Yy.o;omega)
 .rw [VZ]at TW
  have HRI:=J VZ;clear VZ;refine TW.mono ?_;rintro e w5 ⟨rfl,iG⟩;clear TW;have hS5:=bX xg iG;have tV:=bX Jp iG
  have acw:cW l x m.length=some i:=by
   unfold cW;rw [rc,List.getElem?_eq_getElem Ag,HLX.o,<-HN.o,<-HK.o];show(if aQ i n k=true then some i else none)=_;rw [ak HRI.o]
  have y15:=y14.trans iG;have qN:=ZU ⟨x,0,k,M,i,Dt,Ap,Du,Ea,vR,Dv,CI,qF,Dw⟩ l n HN.o h2 x hxn m k HK.o HG.o i acw HLI.o Zq.o w5 (Uj.o.ext y15) (Qp.o.ext y15) p hh m1 qT.o ad ad;rw [<-HR.o]at qN;have HDN:=J qN;clear acw qN i1 i2 i3;have i2:=bH hS5;have i3:=bG hS5;go_wp21;refine HDN.o.mono ?_;rintro e w6 ⟨rfl,nU⟩;have Ip:=bX tV nU;have i4:=bH Ip;have i5:=ai.aC Ip;clear i2 i3;go_wp21;refine di results126 rfl rfl dU kH (ai.cw Ip _ _) ⟨rfl,?_⟩;exact Kept.putAt (y15.trans nU) _ _ _ (λh=>by have:=Yy.o;omega)
def L3 (l:List Ins) (pc halt:Int) (m:List Int) (B:Dg):Dg×Int:=if O_ (jN pc halt m) B=true then(yG l pc halt m,0)else(Dg.zero,23)
theorem L5 (s:Ws) (l:List Ins) (n:Nat) (hn:n=l.length) (h1:1<=n) (h2:n<=2048) (pc halt:Int) (m:List Int) (B:Dg) (hO:jX pc halt m) (hok:∀i∈l,i.ok) (w:World) (eH:OpsAt w) (hv:nl w s (jy l pc halt m)):
 Calls prog 126 #[.agg (kg l).cells,.int .i64 n,.agg B.cells,.agg s.cells] w λe w'=>e=.returned (.tuple #[.agg (L3 l pc halt m B).1.cells,.int .i64 (L3 l pc halt m B).2])/\al w w':=by
 obtain⟨_,_,h3,h4,h5,h6⟩:=cG hO.right;have hvv:=hv;obtain⟨e1,e2,e3,e4,e5,vp,vr,vw⟩:=hv
 have hq:(jy l pc halt m).pc=pc/\(jy l pc halt m).halt=halt/\(jy l pc halt m).words=m.length/\(jy l pc halt m).mem=kC m:=by
  unfold jy
  split<;>exact⟨rfl,rfl,rfl,rfl⟩
 rw [hq.1]at e1;rw [hq.2.1]at e2;rw [hq.2.2.1]at e3;rw [hq.2.2.2]at e4;have bS:cQ s.pc s.halt s.words=true:=by rw [e1,e2,e3];exact hO.right
 have hm:s.mem.ok:=by rw [e4];exact kj _ _
 have acd:mA s.pc s.halt s.words s.mem=jN pc halt m:=by rw [e1,e2,e3,e4];rfl
 unfold L3
 cases hb:O_ (jN pc halt m) B
 .rw [af aB]
  exact IU s (kg l) B n w hm ad ad bS (by rw [acd];exact hb)
 .rw [ak rfl]
  obtain rfl:=(F3 _ _).1 hb
  by_cases dw:¬halt=0∨(l.length:Int)<=pc
  .have hL:jy l pc halt m=⟨pc,halt,m.length,kC m,⟨0,0,0,0⟩,[],[],[]⟩:=by unfold jy;rw [ak dw]
   rw [hL]at vp vr vw e5;have hp:s.pn=0:=by obtain⟨_,_,hp⟩:=vp;exact hp.len
   have tE:s.rn=0:=vr.len;have pK:s.wn=0:=vw.len
   have aic:s.same=yG l pc halt m:=by
    unfold Ws.same yG jB;rw [e1,e2,e3,e4]
    by_cases h0:halt=0
    .subst h0
     have JD:cW l pc m.length=none:=by
      unfold cW;rw [List.getElem?_eq_none ad]
     simp only [ak,gO,JD]
    .rw [af h0,af h0]
   have:=IV s (kg l) n w hm ad ad bS (by unfold Ws.stays;rw [e1,e2,hn];exact dw) e5 hp (by simp [Ws.bare,tE,pK]);rw [acd,aic]at this;exact this
  .obtain⟨x,rfl⟩:∃x:Nat,pc=x:=⟨pc.toNat,by omega⟩
   obtain rfl:halt=0:=by omega
   exact L4 s l n hn h2 x ad m m.length rfl hO.right hok hO.B_ w eH hvv
theorem UN (p:Dg) (size:Int) (B Z:Dg) (cs:Array Value) (kL:(cs.toList.take 18).toArray=cs) (hn:18<=cs.size) (D:Dg) (e0:Int) (w:World)
 (hA:∀w',al w w'->Calls prog 126 #[.agg #[.int .u8 p.x0,.int .u8 p.x1,.int .u8 p.x2,.int .u8 p.x3,.int .u8 p.x4,.int .u8 p.x5,.int .u8 p.x6,.int .u8 p.x7],.int .i64 size,.agg #[.int .u8 B.x0,.int .u8 B.x1,.int .u8 B.x2,.int .u8 B.x3,.int .u8 B.x4,.int .u8 B.x5,.int .u8 B.x6,.int .u8 B.x7],.agg cs] w' λe Iz=>e=.returned (.tuple #[.agg D.cells,.int .i64 e0])/\al w' Iz):
 Calls prog 81 #[.agg #[.int .u8 p.x0,.int .u8 p.x1,.int .u8 p.x2,.int .u8 p.x3,.int .u8 p.x4,.int .u8 p.x5,.int .u8 p.x6,.int .u8 p.x7],.int .i64 size,.agg #[.int .u8 B.x0,.int .u8 B.x1,.int .u8 B.x2,.int .u8 B.x3,.int .u8 B.x4,.int .u8 B.x5,.int .u8 B.x6,.int .u8 B.x7],.agg #[.int .u8 Z.x0,.int .u8 Z.x1,.int .u8 Z.x2,.int .u8 Z.x3,.int .u8 Z.x4,.int .u8 Z.x5,.int .u8 Z.x6,.int .u8 Z.x7],.agg cs] w λe w'=>e=.returned (.int .i64 (if e0=0 then(if O_ D Z=true then 0 else 23)else e0))/\al w w':=by
 have HA:=J hA;clear hA;obtain⟨r,hr⟩:∃r:Int,r=(if e0=0 then(if O_ D Z=true then 0 else 23)else e0):=⟨_,rfl⟩;rw [<-hr];have HR:=J hr;clear hr;have aF:al w _:=(((dM w (.cells #[.int .u8 p.x0,.int .u8 p.x1,.int .u8 p.x2,.int .u8 p.x3,.int .u8 p.x4,.int .u8 p.x5,.int .u8 p.x6,.int .u8 p.x7] 25)).alloc (.cells B.cells 25)).alloc (.cells Z.cells 25)).alloc (.cells cs 74);have hZ0:ai _ (w.heap.size+1+1) 25 Z.cells:=ai.alloc (ai.ea ((w.alloc (.cells #[.int .u8 p.x0,.int .u8 p.x1,.int .u8 p.x2,.int .u8 p.x3,.int .u8 p.x4,.int .u8 p.x5,.int .u8 p.x6,.int .u8 p.x7] 25)).alloc (.cells B.cells 25)) _ Z.cells _ aB) (.cells cs 74);go_enter func81,ntmps81;go_wp21;refine aoS (HA.o _ aF) λw1 aw=>?_;have Vm:=bX hZ0 aw;have Jw:=bH Vm;have Rn:=bG Vm;have LD:=ai.lt Vm
 by_cases he:e0=0
 .subst he
  by_cases hb:O_ D Z=true
  .have hr:=HR.o
   rw [ak rfl,ak hb]at hr;obtain rfl:=(F3 _ _).1 hb;subst hr;clear hb HR;go_wp21;go_ret;exact⟨rfl,(aF.trans aw).alloc _⟩
  .have hr:=HR.o
   rw [ak rfl,af hb]at hr;subst hr;have HB:=J (Ja (H:=D) (B:=Z) (by simpa using hb));clear hb HR
   go_upto_if 26 with(fail)
   rw [HB.o];go_wp21;go_ret;exact⟨rfl,(aF.trans aw).alloc _⟩
 .have hr:=HR.o
  rw [af he]at hr;subst hr;have Vx:(r !=0)=true:=by simpa using he
  clear he HR;go_wp21;go_ret;exact⟨rfl,(aF.trans aw).alloc _⟩
theorem Aa {w:World} {p:Nat} {T E:TypeId} {cs:Array Value} (hb:ai w p T cs) (hE:¬T=E):∀cV fr,¬w.heap[p]?=some (.cells cV E fr):=λcV fr e=>by
 unfold ai at hb;rw [e]at hb;injection hb with hb;injection hb with _ hb _;exact hE hb.symm
def ZO (l:List Ins) (r:Zd) (B Z:Dg):Int:=if (L3 l r.1 r.2.1 r.2.2 B).2=0 then(if O_ (L3 l r.1 r.2.1 r.2.2 B).1 Z=true then 0 else 23)else(L3 l r.1 r.2.1 r.2.2 B).2
theorem Mg (s:Ws) (l:List Ins) (n:Nat) (hn:n=l.length) (h1:1<=n) (h2:n<=2048) (r:Zd) (B Z:Dg) (hO:jX r.1 r.2.1 r.2.2) (hok:∀i∈l,i.ok) (w:World) (eH:OpsAt w) (hv:nl w s (jy l r.1 r.2.1 r.2.2)):
 Calls prog 81 #[.agg (kg l).cells,.int .i64 n,.agg B.cells,.agg Z.cells,.agg s.cells] w λe w'=>e=.returned (.int .i64 (ZO l r B Z))/\al w w':=
 UN (kg l) n B Z s.cells rfl aB _ _ w (λw' hx=>L5 s l n hn h1 h2 r.1 r.2.1 r.2.2 B hO hok w' (eH.ext hx) (hv.ext hx))
section
variable (l:List Ins) (hl:l.length<=2048) (r:Zd) (hO:jX r.1 r.2.1 r.2.2)
include l hl r hO
theorem UO:ZO l r (jN r.1 r.2.1 r.2.2) (jN (jB l r.1 r.2.1 r.2.2).1 (jB l r.1 r.2.1 r.2.2).2.1 (jB l r.1 r.2.1 r.2.2).2.2)=0:=by
 unfold ZO L3;rw [Bf,ak rfl,J3 hl hO,ak rfl,Bf,ak rfl]
theorem QG (j:Nat):ZO l (gX l r j) (tI l r j) (tI l r (j+1))=0:=UO l hl _ (nc hl hO j).1
end
end Mc
section
open Sq Mc
variable{Ar:List Int}
theorem aiL (a b:List Int):bj (a++b)=bj a++bj b:=by simp [bj]
theorem JJ:(prog.info? 21).map (·.size)=some 1:=by kernel_rfl
theorem OZ (w:World) (g o va FY:Nat) (cV:List Int) (hb:ai w g 21 (bj cV).toArray) (N:Nat) (s:i_) (l:List Int) (hm:mT w N s l) (Bx:o+l.length<=cV.length) (hd:l.length<=va):
 ∃w',(∀ty,(Builtin.copy_ #[40,40] ty #[.slice (some ⟨g,o,none⟩) va FY,s.v]).run prog w=.ok (goInt l.length) w')/\ai w' g 21 (bj (cV.take o++l++cV.drop (o+l.length))).toArray/\Kept (·=g) w w':=by
 obtain⟨h1,h2,b,off,h3,h4⟩:=hm;obtain⟨A,n,c⟩:=s;simp only at h1 h3 h4
 by_cases h0:0<n
 .obtain⟨-,hr⟩:=h4 h0
  rw [h3 h0];refine⟨putAt w g o (bj l).toArray,λty=>?_,?_,Kept.putAt (kR _ _) _ _ _ (λ_=>rfl)⟩
  .have hlen:(bj l).length=Nat.min n va:=by rw [fG];show l.length=min n va;omega
   have h:=run_copy_row prog w 40 40 ty 21 g o va FY ⟨b,off,none⟩ n c (bj cV).toArray 21 (bj l) underlying40 JJ hb hlen (λj v hv=>by
    have hj:j<l.length:=by
     have:=(List.getElem?_eq_some_iff.1 hv).1
     rwa [fG]at this
    have hq:=hr.mem j hj;have e:(⟨b,off,none⟩:Addr).add j=⟨b,off+j,none⟩:=by unfold Addr.add;split<;>simp_all
    rw [e,hq,<-hv];simp [bj,hj]) (by simpa [fG]using Bx) (mU (BZ l))
   rw [fG]at h;show(Builtin.copy_ #[40,40] ty #[.slice (some ⟨g,o,none⟩) va FY,.slice (some ⟨b,off,none⟩) n c]).run prog w=_;rw [h,mr hb];simp [splice,fG]
  .have hp:=ai.cw hb o (bj l).toArray
   have e:splice (bj cV).toArray o (bj l).toArray=(bj (cV.take o++l++cV.drop (o+l.length))).toArray:=by
    simp [splice,bj,List.map_take,List.map_drop]
   rw [e]at hp;exact hp
 .have hl0:l=[]:=List.length_eq_zero_iff.1 ad
  subst hl0;have hn:n=0:=by omega
  subst hn;refine⟨w,λty=>?_,?_,kR _ _⟩
  .exact run_copy_none (P:=prog) w 40 40 ty 21 _ _ _ _ _ _ underlying40 JJ (by show min 0 va=0;omega)
  .have e:cV.take o++[]++cV.drop (o+([]:List Int).length)=cV:=by simp
   rw [e];exact hb
theorem P_ (W:World) (g n l:Nat) (h:l<n):(Instr.slice 40 (.slice (some ⟨g,0,none⟩) n n) (some (.int .i64 (l:Int))) none none).run prog W=.ok (.slice (some ⟨g,l,none⟩) (n - l) (n - l)) W:=by
 rw [Lib.run_slice_tailV W 40 21 underlying40 (λw=>qj aV w) g n l ad];unfold Lib.tailV;rw [af ad]
def fF (p:Pr) (part:Int) (V Ar:List Int):List Int:=(if part=0 then dI p.vars else V)++(Ar++List.replicate (49 - Ar.length) 0)
def bR (p:Pr):Nat:=(cells p.vars+49).toNat
inductive rh (p:Pr) (part:Int) (V Ar:List Int) (w w':World):Ending->Prop
 |bad (h:¬jg p part V Ar=0):rh p part V Ar w w' (.returned (.tuple #[.agg (ae 0 none 0 0 0),.int .i64 (jg p part V Ar)]))
 |ok (h:jg p part V Ar=0) (g:Nat) (hg:w.heap.size<=g) (hb:ai w' g 21 (bj (fF p part V Ar)).toArray):
  rh p part V Ar w w' (.returned (.tuple #[.agg (ae 0 (some ⟨g,0,none⟩) (bR p) (bR p) 0),.int .i64 0]))
theorem rh.amb {p:Pr} {part:Int} {V:List Int} {w w':World} {F:Int} (e:F=jg p part V Ar) (h:¬F=0):rh p part V Ar w w' (.returned (.tuple #[.agg (ae 0 none 0 0 0),.int .i64 F])):=by
 subst e;exact .bad h
theorem EG {p:Pr} (h:Dd p):∀x∈dI p.vars,av x:=by
 have hv:=n7 p.vars [] h.vars;generalize p.vars=l at hv
 induction l with
 |nil=>intro x hx;simp [dI]at hx
 |cons v r ih=>
  intro x hx;rw [dI,lr,List.mem_replicate]at hx
  rcases hx with⟨-,e⟩|hx
  .have:=hv v (List.mem_cons_self ..)
   subst e;unfold av at*
   omega
  .exact ih (λu hu=>hv u (List.mem_cons_of_mem _ hu)) x hx
theorem Bl {p:Pr} {part:Int} {V:List Int} (h:jg p part V Ar=0):0<=part/\part<=4/\(V.length:Int)=jF p part/\Ar.length=fD p part/\(part=2->DP p.params Ar=false):=by
 unfold jg at h
 split at h
 .omega
 .split at h
  .omega
  .rename_i h1 h2
   refine⟨by omega,by omega,Classical.byContradiction λq=>h2 (Or.inl q),Classical.byContradiction λq=>h2 (Or.inr q),λe=>?_⟩
   split at h
   .omega
   .rename_i h3
    cases hb:DP p.params Ar with
    |false=>rfl
    |true=>exact absurd ⟨e,hb⟩ h3
theorem Bb (cb N:Nat) (k:Cd) (p:Pr) (part:Int) (vs ag:i_) (V Ar:List Int) (w:World) (hN:N<=w.heap.size) (hC:gC w N cb k p) (hv:mT w N vs V) (ha:mT w N ag Ar) (hk:Dd p):
 Calls prog 46 #[.pointer (some ⟨cb,0,none⟩),.int .i64 part,vs.v,ag.v] w λe w'=>al w w'/\rh p part V Ar w w' e:=by
 have⟨HC,HV,HA,HN,HK⟩:=J5' hC hv ha hN hk;have Bx:=λw' (y:al w w')=>QE cb N k p part vs ag V Ar w' (ax hN y.size) (hC.ext y) (hv.ext y) (ha.ext y) hk.np;obtain⟨F,hF⟩:=nm' (jg p part V Ar);rw [<-hF]at Bx;have HF:=J hF;clear hC hv ha hN hF hk;have y0:=dY w (.cells #[.int .i64 0,.slice none 0 0,.int .i64 0] 47);have b0:=bN w 47 #[.int .i64 0,.slice none 0 0,.int .i64 0];go_enter func46,ntmps46;go_upto_region 1 with(fail);generalize (w.alloc (.cells #[.int .i64 0,.slice none 0 0,.int .i64 0] 47))=W1 at y0 b0⊢;generalize mC:(w:World).heap.size=rb at b0⊢;have⟨wW,LP,cC⟩:=J3' mC b0 y0;clear b0 y0 mC;go_wp21;refine aoS (Bx _ cC.o) λw2 y2=>?_;clear Bx;have fp:=J y2;have nQ:=J (bX LP.o y2);clear y2
 by_cases h0:F=0
 rotate_left
 .have iF:(F !=0)=true:=bne_iff_ne.2 h0
  have HF0:=J h0;clear h0;have l1:=bH nQ.o;have l2:=ai.aC nQ.o;have l3:=nQ.o.lt;go_wp21;have kp:Kept (·=rb) w2 (putAt w2 rb 0 #[.int .i64 0,.slice none 0 0,.int .i64 0]):=Kept.putAt (kR _ _) _ 0 _ (λ_=>rfl);refine di (t:=47) (g:=rb) (cs:=ae 0 none 0 0 0) results46 rfl rfl jK zQ (by exact ai.cw nQ.o 0 _) ⟨?_,.amb HF.o HF0.o⟩;exact(cC.o.trans fp.o).trans' kp (λi hi e=>by have:=wW.o;omega)
 have HF0:=J (show jg p part V Ar=0 by rw [<-HF.o];exact h0);rw [h0];clear h0;obtain⟨Iu,ES,hVl,hAl,hAb⟩:=Bl HF0.o;have HVL:=J hVl;have FI:=J (show Ar.length<=4 by have:=HK.o.np;unfold fD at hAl;split at hAl;omega;split at hAl<;>omega);clear hVl hAl hAb Iu ES;have hcp:=eZ p.vars;have ahq:=HK.o.cells;have hn:k.cells+49=((bR p:Nat):Int):=by rw [HC.o.kc];unfold bR;omega
 have⟨Ty,zW,Ax⟩:=J3' (show(bR p:Int)=cells p.vars+49 by unfold bR;omega) HC.o.kc (ew hcp ahq);have amH:=HC.o.kc;clear hcp ahq;have Qn:=J hn;clear hn amH;have c2:=HC.o.ext (cC.o.trans fp.o);go_upto_region 4 with(fail);have MO:=Bc cb k w2 c2.box (by have:=Ax.o;have:=zW.o;omega);rw [Qn.o]at MO;go_wp21;refine MO.mono ?_;rintro e w3 ⟨rfl,rfl⟩;clear MO;go_wp21;refine(WB (bR p) (by have:=Ty.o;have:=Ax.o;omega) (by have:=Ty.o;have:=Ax.o;omega) _).mono ?_;rintro e w3 ⟨g,rfl,YM,y3,Bz⟩;have y4:=dY w3 (.cells #[.int .i64 0,.slice (some ⟨g,0,none⟩) (bR p) (bR p),.int .i64 0] 47);have b4:=bN w3 47 #[.int .i64 0,.slice (some ⟨g,0,none⟩) (bR p) (bR p),.int .i64 0];go_upto_region 5 with(fail);generalize (w3.alloc (.cells #[.int .i64 0,.slice (some ⟨g,0,none⟩) (bR p) (bR p),.int .i64 0] 47))=w4 at y4 b4⊢;have HGL:=J (show g<w3.heap.size from YM.lt);have mR:=J (bX YM y4);generalize EU:(w3:World).heap.size=sb at b4 HGL⊢;have⟨lp,uy,Yy,rV,Zv⟩:=J5' (y3.trans y4) (bX nQ.o (y3.trans y4)) b4 (show w.heap.size<=g by have:=cC.o.size;have:=fp.o.size;omega) (show rb<g by have:=nQ.o.lt;omega);clear YM y3 Bz y4 b4 EU c2;have i1:=bC Yy.o;have i2:=Yy.o.lt
 by_cases Iu:part=0
 .have HP0:=J Iu
  have hpe:(part==0)=true:=by simp [Iu]
  clear Iu;have q1:=bC (HC.o.ext ((cC.o.trans fp.o).trans lp.o)).box;have q2:=(HC.o.ext ((cC.o.trans fp.o).trans lp.o)).box.lt;go_upto_region 9 with(fail);clear q1 q2;have Ag:((dI p.vars).length:Int)=cells p.vars:=pS p.vars;have zG:mT w4 N k.first (dI p.vars):=uL.words (HC.o.ext ((cC.o.trans fp.o).trans lp.o)).first (EG HK.o);obtain⟨w5,Gl,DY,ss⟩:=OZ w4 g 0 (bR p) (bR p) (List.replicate (bR p) 0) mR.o N k.first (dI p.vars) zG (by have:=Ty.o;simp;omega) (by have:=Ty.o;omega)
  have e5:(List.replicate (bR p) (0:Int)).take 0++(dI p.vars)++(List.replicate (bR p) 0).drop (0+(dI p.vars).length)=(dI p.vars)++List.replicate 49 0:=by
   have:=Ty.o;rw [List.drop_replicate,List.take_zero,qx,show bR p - (0+(dI p.vars).length)=49 by omega]
  rw [e5]at DY;have⟨Ig,HXL,tN,uz⟩:=J4' (show fF p part V Ar=(dI p.vars)++(Ar++List.replicate (49 - Ar.length) 0)from by unfold fF;rw [ak HP0.o]) Ag DY ss;have uG:¬sb=g:=by have:=HGL.o;omega
  clear zG e5 DY ss Ag;go_upto_region 9 with(fail);go_step
  iterate 3 refine kE ?_
  refine Lib.wpList_copy_run _ rfl _ _ 40 40 rfl _ _ rfl rfl (Gl _) ?_;clear Gl i1 i2;have⟨OM,OC,Ze⟩:=J3' (bK Yy.o uz.o uG) (bK (HC.o.ext ((cC.o.trans fp.o).trans lp.o)).box uz.o (by have:=rV.o;have:=HC.o.lt;have:=HN.o;omega)) (mT.kept (HA.o.ext ((cC.o.trans fp.o).trans lp.o)) uz.o (λi hi e=>by have:=rV.o;have:=HN.o;omega));go_upto_region 10 with(fail);refine fH (λwz=>al w5 wz) [(0,2),(1,1),(2,2),(3,2),(4,2),(5,1),(6,2),(7,2),(8,2),(9,0)] ?_;refine fI ?_;have yd:al w5 w5.drew:=(kR _ w5).drew;have hkw:IntKind.i64.wrap k.cells=k.cells:=wrap_i64 (by have:=Ax.o;have:=zW.o;unfold br;omega)
  repeat first|refine cx ?_|refine de yd ajs ?_|refine dc yd ?_
  have hXC:∃kc:Nat,k.cells=(kc:Int)/\bR p=kc+49/\(dI p.vars).length=kc:=⟨k.cells.toNat,by have:=Ax.o;have:=zW.o;omega,by have:=Ax.o;have:=zW.o;have:=Ty.o;omega,by have:=HXL.o;have:=Ax.o;have:=zW.o;omega⟩;obtain⟨kc,jZ,eV,jq⟩:=hXC;have oh:=λW=>P_ W g (bR p) kc ad;rw [show bR p - kc=49 by omega,<-jZ]at oh;have Dh:=J (ew jZ (ew eV jq));clear jZ eV jq
  repeat refine cx ?_
  clear oh;obtain⟨jZ,eV,jq⟩:=Dh.o;clear jZ;obtain⟨w6,T5,hb6,yj⟩:=OZ w5.drew g kc 49 49 ((dI p.vars)++List.replicate 49 0) tN.o.drew N ag Ar (Ze.o.ext yd) (by have:=FI.o;simp;omega) (by have:=FI.o;omega)
  have e6:((dI p.vars)++List.replicate 49 (0:Int)).take kc++Ar++((dI p.vars)++List.replicate 49 0).drop (kc+Ar.length)=fF p part V Ar:=by
   rw [Ig.o,<-jq,List.take_left,<-List.drop_drop,List.drop_left,List.drop_replicate,my]
  exact akj
 .have HP0:=J Iu
  have hpe:(part==0)=false:=by simp [Iu]
  clear Iu;go_upto_region 9 with(fail);have Ag:(V.length:Int)=cells p.vars:=by have h:=HVL.o;unfold jF at h;rw [af HP0.o]at h;exact h
  have zG:mT w4 N vs V:=HV.o.ext ((cC.o.trans fp.o).trans lp.o);obtain⟨w5,Gl,DY,ss⟩:=OZ w4 g 0 (bR p) (bR p) (List.replicate (bR p) 0) mR.o N vs V zG (by have:=Ty.o;simp;omega) (by have:=Ty.o;omega)
  have e5:(List.replicate (bR p) (0:Int)).take 0++V++(List.replicate (bR p) 0).drop (0+V.length)=V++List.replicate 49 0:=by
   have:=Ty.o;rw [List.drop_replicate,List.take_zero,qx,show bR p - (0+V.length)=49 by omega]
  rw [e5]at DY;have⟨Ig,HXL,tN,uz⟩:=J4' (show fF p part V Ar=V++(Ar++List.replicate (49 - Ar.length) 0)from by unfold fF;rw [af HP0.o]) Ag DY ss;have uG:¬sb=g:=by have:=HGL.o;omega
  clear zG e5 DY ss Ag;go_upto_region 9 with(fail);go_step
  iterate 3 refine kE ?_
  refine Lib.wpList_copy_run _ rfl _ _ 40 40 rfl _ _ rfl rfl (Gl _) ?_;clear Gl i1 i2;have⟨OM,OC,Ze⟩:=J3' (bK Yy.o uz.o uG) (bK (HC.o.ext ((cC.o.trans fp.o).trans lp.o)).box uz.o (by have:=rV.o;have:=HC.o.lt;have:=HN.o;omega)) (mT.kept (HA.o.ext ((cC.o.trans fp.o).trans lp.o)) uz.o (λi hi e=>by have:=rV.o;have:=HN.o;omega));go_upto_region 10 with(fail);refine fH (λwz=>al w5 wz) [(0,2),(1,1),(2,2),(3,2),(4,2),(5,1),(6,2),(7,2),(8,2),(9,0)] ?_;refine fI ?_;have yd:al w5 w5.drew:=(kR _ w5).drew;have hkw:IntKind.i64.wrap k.cells=k.cells:=wrap_i64 (by have:=Ax.o;have:=zW.o;unfold br;omega)
  repeat first|refine cx ?_|refine de yd ajs ?_|refine dc yd ?_
  have hXC:∃kc:Nat,k.cells=(kc:Int)/\bR p=kc+49/\V.length=kc:=⟨k.cells.toNat,by have:=Ax.o;have:=zW.o;omega,by have:=Ax.o;have:=zW.o;have:=Ty.o;omega,by have:=HXL.o;have:=Ax.o;have:=zW.o;omega⟩;obtain⟨kc,jZ,eV,jq⟩:=hXC;have oh:=λW=>P_ W g (bR p) kc ad;rw [show bR p - kc=49 by omega,<-jZ]at oh;have Dh:=J (ew jZ (ew eV jq));clear jZ eV jq
  repeat refine cx ?_
  clear oh;obtain⟨jZ,eV,jq⟩:=Dh.o;clear jZ;obtain⟨w6,T5,hb6,yj⟩:=OZ w5.drew g kc 49 49 (V++List.replicate 49 0) tN.o.drew N ag Ar (Ze.o.ext yd) (by have:=FI.o;simp;omega) (by have:=FI.o;omega)
  have e6:(V++List.replicate 49 (0:Int)).take kc++Ar++(V++List.replicate 49 0).drop (kc+Ar.length)=fF p part V Ar:=by
   rw [Ig.o,<-jq,List.take_left,<-List.drop_drop,List.drop_left,List.drop_replicate,my]
  exact akj
end
namespace Mc
variable{dst:Option Tmp}{pos:String}{after:Array Edge}{guard:Option (Nat×Bool)}{K:Act->World->Prop}{ρ:Operand->Value}
theorem lx:ga prog 50=true:=by kernel_rfl
theorem jV:dr prog 50=some 13:=by kernel_rfl
theorem zg {eD:TypeId} {x:Operand} {a:Act} {w:World} {Q:Exit->Act->World->Prop} (hx:d' (a.eval x)=true) (hh:has w (aG (a.eval x)) (aH (a.eval x)) 13=true):
 Oper.wp prog ⟨dst,.load 50 x,eD,pos,after,guard⟩ a w K Q=K (a.put dst (.agg (gets w (aG (a.eval x)) (aH (a.eval x)) 13))) w:=aY 13 lx jV hx hh
theorem Hm {eD:TypeId} {x:Operand} {w:World} (hx:d' (ρ x)=true) (hh:has w (aG (ρ x)) (aH (ρ x)) 13=true):
 (execOp ρ ⟨dst,.load 50 x,eD,pos,after,guard⟩).run prog w=.ok (.value (.agg (gets w (aG (ρ x)) (aH (ρ x)) 13))) w:=aD 13 lx jV hx hh
theorem Gv (w:World) (g off:Nat) (hh:has w g off 13=true):(loadVar 50 ⟨g,off,none⟩).run prog w=.ok (.agg (gets w g off 13)) w:=cD prog w _ g off 13 lx jV hh
attribute [go_sem] lx jV
attribute [go_sem↓high] zg Gv Hm
attribute [go_sem high] zg
theorem uT:ga prog 117=true:=by kernel_rfl
theorem sO:dr prog 117=some 10:=by kernel_rfl
theorem zh {eD:TypeId} {x:Operand} {a:Act} {w:World} {Q:Exit->Act->World->Prop} (hx:d' (a.eval x)=true) (hh:has w (aG (a.eval x)) (aH (a.eval x)) 10=true):
 Oper.wp prog ⟨dst,.load 117 x,eD,pos,after,guard⟩ a w K Q=K (a.put dst (.agg (gets w (aG (a.eval x)) (aH (a.eval x)) 10))) w:=aY 10 uT sO hx hh
theorem Ho {eD:TypeId} {x:Operand} {w:World} (hx:d' (ρ x)=true) (hh:has w (aG (ρ x)) (aH (ρ x)) 10=true):
 (execOp ρ ⟨dst,.load 117 x,eD,pos,after,guard⟩).run prog w=.ok (.value (.agg (gets w (aG (ρ x)) (aH (ρ x)) 10))) w:=aD 10 uT sO hx hh
theorem Gw (w:World) (g off:Nat) (hh:has w g off 10=true):(loadVar 117 ⟨g,off,none⟩).run prog w=.ok (.agg (gets w g off 10)) w:=cD prog w _ g off 10 uT sO hh
attribute [go_sem] uT sO
attribute [go_sem↓high] zh Gw Ho
attribute [go_sem high] zh
theorem z':ga prog 120=true:=by kernel_rfl
theorem vO:dr prog 120=some 14:=by kernel_rfl
theorem CX {eD:TypeId} {x:Operand} {a:Act} {w:World} {Q:Exit->Act->World->Prop} (hx:d' (a.eval x)=true) (hh:has w (aG (a.eval x)) (aH (a.eval x)) 14=true):
 Oper.wp prog ⟨dst,.load 120 x,eD,pos,after,guard⟩ a w K Q=K (a.put dst (.agg (gets w (aG (a.eval x)) (aH (a.eval x)) 14))) w:=aY 14 z' vO hx hh
theorem Ko {eD:TypeId} {x:Operand} {w:World} (hx:d' (ρ x)=true) (hh:has w (aG (ρ x)) (aH (ρ x)) 14=true):
 (execOp ρ ⟨dst,.load 120 x,eD,pos,after,guard⟩).run prog w=.ok (.value (.agg (gets w (aG (ρ x)) (aH (ρ x)) 14))) w:=aD 14 z' vO hx hh
theorem JT (w:World) (g off:Nat) (hh:has w g off 14=true):(loadVar 120 ⟨g,off,none⟩).run prog w=.ok (.agg (gets w g off 14)) w:=cD prog w _ g off 14 z' vO hh
attribute [go_sem] z' vO
attribute [go_sem↓high] CX JT Ko
attribute [go_sem high] CX
structure Tt where (pc:Int) (A:Option Addr) (n k:Nat) (halt:Int) (iA:Option Addr) (iN iK:Nat) (depth:Int) (jk:Int) (A':Option Addr) (n' k':Nat) (bU:Int) (gd window phase kG sf:Int) (hv:Option Addr)
abbrev Tt.made (t:Tt):Array Value:=#[.int .i64 t.pc,.slice t.A t.n t.k,.int .i64 t.halt,.slice t.iA t.iN t.iK,.int .i64 t.depth,.int .i64 t.jk,.slice t.A' t.n' t.k',.int .i64 t.bU,.int .i64 t.gd,.int .i64 t.window]
abbrev Tt.cells (t:Tt):Array Value:=#[.int .i64 t.pc,.slice t.A t.n t.k,.int .i64 t.halt,.slice t.iA t.iN t.iK,.int .i64 t.depth,.int .i64 t.jk,.slice t.A' t.n' t.k',.int .i64 t.bU,.int .i64 t.gd,.int .i64 t.window,.int .i64 t.phase,.int .i64 t.kG,.int .i64 t.sf,.pointer t.hv]
attribute [go_sem] Tt.made Tt.cells
abbrev TB (w:World) (b:Nat) (t:Tt):Prop:=ai w b 120 t.cells
def M3 (n:Int):Bool:=decide (0<=n)&&decide (n<=1099511627776)
def isS (n:Int):Bool:=decide (0<=n)&&decide (n<=7)
theorem pY (n:Int) (w:World):Calls prog 52 #[.int .i64 n] w λe w'=>e=.returned (.bool (M3 n))/\w=w':=by
 unfold M3
 by_cases h:0<=n
 .go_enter func52,ntmps52
  go_wp21;go_ret;exact⟨by simp [h],rfl⟩
 .go_enter func52,ntmps52
  go_wp21;go_ret;exact⟨by simp;omega,rfl⟩
theorem BP (n:Int) (w:World):Calls prog 51 #[.int .i64 n] w λe w'=>e=.returned (.bool (isS n))/\w=w':=by
 unfold isS
 by_cases h:0<=n
 .go_enter func51,ntmps51
  go_wp21;go_ret;exact⟨by simp [h],rfl⟩
 .go_enter func51,ntmps51
  go_wp21;go_ret;exact⟨by simp;omega,rfl⟩
section
variable (b:Nat) (t:Tt) (w:World) (ht:TB w b t)
include b t w ht
theorem sH:Calls prog 17 #[.pointer (some ⟨b,0,none⟩)] w λe w'=>e=.returned (.int .i64 t.phase)/\w=w':=by
 have hc:=bC ht;go_enter func17,ntmps17;go_wp21;go_ret;exact⟨rfl,rfl⟩
theorem sS:Calls prog 24 #[.pointer (some ⟨b,0,none⟩)] w λe w'=>e=.returned (.int .i64 t.kG)/\w=w':=by
 have hc:=bC ht;go_enter func24,ntmps24;go_wp21;go_ret;exact⟨rfl,rfl⟩
end
def tO (t:Tt) (r:Tr):Int:=if t.phase=1 then(if r.turn=0 then t.gd else t.sf)else -1
theorem Qu (b c:Nat) (t:Tt) (r:Tr) (w:World) (ht:TB w b t) (hv:t.hv=some ⟨c,0,none⟩) (hr:At w c r) (hp:t.phase=1):Calls prog 26 #[.pointer (some ⟨b,0,none⟩)] w λe w'=>e=.returned (.int .i64 (if r.turn=0 then t.gd else t.sf))/\w=w':=by
 have hc:=bC ht;go_enter func26,ntmps26;go_wp21;refine aoT (Xw c r _ hr) ?_
 by_cases h0:r.turn=0
 .go_wp21
  go_ret;exact⟨by first|rfl|simp [*],rfl⟩
 .go_wp21
  go_ret;exact⟨by first|rfl|simp [*],rfl⟩
theorem nK (b c:Nat) (t:Tt) (r:Tr) (w:World) (ht:TB w b t) (hv:t.hv=some ⟨c,0,none⟩) (hr:At w c r) (hp:t.phase=1):Calls prog 26 #[.pointer (some ⟨b,0,none⟩)] w λe w'=>e=.returned (.int .i64 (tO t r))/\w=w':=by
 unfold tO;rw [ak hp];exact Qu b c t r w ht hv hr hp
theorem RI (b c:Nat) (t:Tt) (w:World) (ht:TB w b t) (hv:t.hv=some ⟨c,0,none⟩):Calls prog 18 #[.pointer (some ⟨b,0,none⟩)] w λe w'=>e=.returned (.int .i64 (if t.phase=2 then t.sf else if t.phase=3 then t.gd else -1))/\w=w':=by
 have hc:=bC ht
 by_cases h2:t.phase=2
 .go_enter func18,ntmps18
  go_wp21;go_ret;exact⟨by first|rfl|simp [*],rfl⟩
 .by_cases h3:t.phase=3
  .go_enter func18,ntmps18
   go_wp21;go_ret;exact⟨by first|rfl|simp [*],rfl⟩
  .go_enter func18,ntmps18
   go_wp21;go_ret;exact⟨by first|rfl|simp [*],rfl⟩
theorem TB.of {w:World} {b:Nat} {t:Tt} {cs:Array Value} (h:ai w b 120 cs) (e:cs=t.cells):TB w b t:=by subst e;exact h
def kq (t:Tt) (r:Tr):Tt:=if r.jl=-1 then t else if r.jl=0 then{t with phase:=2}else{t with phase:=3}
theorem N4 (b c:Nat) (Rl:¬b=c) (t:Tt) (r:Tr) (w:World) (ht:TB w b t) (hv:t.hv=some ⟨c,0,none⟩) (hr:At w c r):
 Calls prog 59 #[.pointer (some ⟨b,0,none⟩)] w λe w'=>e=.returned (.tuple #[])/\TB w' b (kq t r)/\At w' c r/\Kept (·=b) w w':=by
 obtain⟨pc,A,n,k,halt,iA,iN,iK,depth,jk,A',n',k',bU,gd,window,phase,kG,sf,hv'⟩:=t;simp only at hv;subst hv;unfold kq;have HT:=J ht;have HR:=J hr;have hc:=bC ht;go_enter func59,ntmps59;go_wp21;refine aoS (Oj c r _ hr) λw1 hx=>?_;have HX:=J hx;have Iv:=bX HT.o hx;have FP:=J (bX HR.o hx);have TF:=J Iv;clear hc hr ht hx;have hc:=bC Iv;have hf:=ai.frozen Iv
 by_cases h1:r.jl=-1
 .go_wp21
  go_end0;refine⟨rfl,?_,FP.o,Kept.ext HX.o⟩
  first|exact TF.o|(rw [ak h1];exact TF.o)
 .by_cases h0:r.jl=0
  .go_wp21
   go_end0;refine⟨rfl,?_,bK FP.o (Kept.setCell (S:=(·=b)) (kR _ w1) _ _ (λ_=>rfl)) (λ(q:c=b)=>Rl q.symm),(Kept.ext HX.o).setCell _ _ (λ_=>rfl)⟩
   first|exact TB.of (ai.eK TF.o _ _) rfl|(rw [af h1,ak h0];exact TB.of (ai.eK TF.o _ _) rfl)
  .have b1:(r.jl != -1)=true:=by simp [h1]
   have b0:(r.jl==0)=false:=by simp [h0]
   go_wp21;go_end0;refine⟨rfl,?_,bK FP.o (Kept.setCell (S:=(·=b)) (kR _ w1) _ _ (λ_=>rfl)) (λ(q:c=b)=>Rl q.symm),(Kept.ext HX.o).setCell _ _ (λ_=>rfl)⟩
   first|exact TB.of (ai.eK TF.o _ _) rfl|(rw [af h1,af h0];exact TB.of (ai.eK TF.o _ _) rfl)
def xU (t:Tt) (r:Tr) (h:Int):Tt:=if (kq t r).phase=1 then{kq t r with kG:=h+t.window}else kq t r
theorem Cw (t:Tt) (r:Tr):(kq t r).window=t.window/\(kq t r).hv=t.hv:=by unfold kq;split;exact⟨rfl,rfl⟩;split<;>exact⟨rfl,rfl⟩
theorem Be (b c xb F:Nat) (Rl:¬b=c) (t:Tt) (r r':Tr) (h s res:Int) (w:World) (ht:TB w b t) (hv:t.hv=some ⟨c,0,none⟩) (hr:At w c r) (hp:t.phase=1) (hh:M3 h=true) (hs:s=tO t r) (hl:h<=t.kG) (hw:0<=t.window/\t.window<=1048576)
 (hE:∀(vs:Array Value) (W:World),(callFunc F vs).run prog W=.ok (.enter F vs) W)
 (hF:∀W,al w W->Calls prog F #[.pointer (some ⟨c,0,none⟩),.pointer (some ⟨xb,0,none⟩)] W λe W'=>e=.returned (.int .i64 res)/\At W' c r'/\Kept (·=c) W W'):
 Calls prog 61 #[.pointer (some ⟨b,0,none⟩),.int .i64 h,.int .i64 s,.func (.func F) #[] #[.pointer (some ⟨xb,0,none⟩)]] w λe w'=>e=.returned (.int .i64 res)/\TB w' b (if res=0 then xU t r' h else t)/\At w' c r'/\Kept (λi=>i=b∨i=c) w w':=by
 have⟨HT,HR,HF,HV,HB,HW⟩:=J6' ht hr hF hv (show 0<=h/\h<=1099511627776 by simpa [M3]using hh) hw;have p1:(t.phase !=1)=false:=by simp [hp]
 have p2:decide (t.kG<h)=false:=by simp;omega
 have p3:(s !=tO t r)=false:=by rw [hs];simp
 have hc:=bC ht;have HP:=J hp;have aP:=ai.lt ht;have HL:=J (ai.lt hr);clear hr hF hp hs hl hw ht;go_enter func61,ntmps61;go_wp21;refine aoT (pY h _) ?_;go_wp21;refine aoT (nK b c t r _ HT.o HV.o HR.o HP.o) ?_;go_wp21;refine(HF.o _ (kR _ _)).mono ?_;rintro e w1 ⟨rfl,ET,jZ⟩;have Iv:=bK HT.o jZ Rl;have⟨TF,FP,Ie⟩:=J3' Iv ET jZ;clear hc ET jZ
 by_cases h0:res=0
 .subst h0
  go_wp21;refine(N4 b c Rl t r' _ TF.o HV.o FP.o).mono ?_;rintro e w2 ⟨rfl,Iw,iV,eV⟩;have⟨HT2,qR,Eg⟩:=J3' Iw iV eV;have hc:=bC Iw;have hf:=ai.frozen Iw;have HQ:=J (Cw t r');clear iV eV Iw Iv;obtain⟨u,hu⟩:=nm' (kq t r');rw [<-hu]at hc;have HU:=J hu;have hwn:=HQ.o.1;rw [<-hu]at hwn;clear hu
  by_cases h1:u.phase=1
  .go_wp21
   go_ret;refine⟨rfl,?_,?_,?_⟩
   .unfold xU
    rw [<-HU.o,ak h1,IntWalk.wrap64_in _ (by have:=HB.o;have:=HW.o;omega)];have q:=HT2.o;rw [<-HU.o]at q;exact TB.of (t:={u with kG:=h+t.window}) (ai.eK q 11 (.int .i64 (h+t.window))) rfl
   .exact bK qR.o (Kept.setCell (S:=(·=b)) (kR _ w2) _ _ (λ_=>rfl)) (λ(q:c=b)=>Rl q.symm)
   .exact((Ie.o.mono (λ_ _ q=>.inr q)).trans (Eg.o.mono (λ_ _ q=>.inl q))).setCell _ _ (λ_=>.inl rfl)
  .go_wp21
   go_ret;refine⟨rfl,?_,qR.o,?_⟩
   .unfold xU
    rw [<-HU.o,af h1,HU.o];exact HT2.o
   .exact(Ie.o.mono (λ_ _ q=>.inr q)).trans (Eg.o.mono (λ_ _ q=>.inl q))
 .go_wp21
  go_ret;refine⟨rfl,?_,FP.o,Ie.o.mono (λ_ _ q=>.inr q)⟩
  first|exact TF.o|(rw [af h0];exact TF.o)
theorem SW (c xb:Nat) (r:Tr) (d:Dg) (w:World) (hr:At w c r) (hx:ai w xb 25 d.cells):
 Calls prog 62 #[.pointer (some ⟨c,0,none⟩),.pointer (some ⟨xb,0,none⟩)] w λe w'=>e=.returned (.int .i64 (dL r 0 false))/\At w' c (CK r d)/\Kept (·=c) w w':=by
 have h1:=bH hx;have h2:=bG hx;have h3:=bC hx;go_enter func62,ntmps62;go_wp21;refine(Xr c r d _ hr).mono ?_;rintro e w' ⟨rfl,Gk,hk⟩;go_wp21;go_ret;exact⟨rfl,Gk,hk⟩
theorem I7 (c xb:Nat) (r:Tr) (f:Bool) (w:World) (hr:At w c r) (hx:ai w xb 4 #[.bool f]) (h0:0<=r.steps) (h1:r.steps<=1048576) (h2:0<=r.from_) (h3:r.from_<=1048576):
 Calls prog 64 #[.pointer (some ⟨c,0,none⟩),.pointer (some ⟨xb,0,none⟩)] w λe w'=>e=.returned (.int .i64 (dL r 1 false))/\At w' c (n8 r f)/\Kept (·=c) w w':=by
 have hc:=bC hx;go_enter func64,ntmps64;go_wp21;refine(Mj c r f _ hr h0 h1 h2 h3).mono ?_;rintro e w' ⟨rfl,Gk,hk⟩;go_wp21;go_ret;exact⟨rfl,Gk,hk⟩
theorem ND (c xb:Nat) (r:Tr) (cs:Array Value) (e0:Int) (w:World) (hr:At w c r) (hx:ai w xb 74 cs) (kL:(cs.toList.take 18).toArray=cs) (hn:18<=cs.size)
 (hk:∀w',al w w'->Calls prog 81 #[.agg r.program.cells,.int .i64 r.size,.agg r.before.cells,.agg r.after.cells,.agg cs] w' λe Iz=>e=.returned (.int .i64 e0)/\al w' Iz):
 Calls prog 67 #[.pointer (some ⟨c,0,none⟩),.pointer (some ⟨xb,0,none⟩)] w λe w'=>e=.returned (.int .i64 (uk r e0))/\At w' c (p9 r e0)/\Kept (·=c) w w':=by
 have h1:=bH hx;have h2:=bG hx;have h3:=bC hx;have h4:=hx.lt;go_enter func67,ntmps67;go_wp21;refine(R' c r cs e0 _ hr kL hn hk).mono ?_;rintro e w' ⟨rfl,Gk,hk⟩;go_wp21;go_ret;exact⟨rfl,Gk,hk⟩
structure uQ (w:World) (b c:Nat) (t:Tt) (r:Tr) (h s:Int):Prop where
 ne:¬b=c
 tb:TB w b t
 hv:t.hv=some ⟨c,0,none⟩
 at_:At w c r
 ph:t.phase=1
 hh:M3 h=true
 hs:s=tO t r
 hl:h<=t.kG
 hw:0<=t.window/\t.window<=1048576
theorem uQ.ext {w w':World} {b c:Nat} {t:Tt} {r:Tr} {h s:Int} (p:uQ w b c t r h s) (hx:al w w'):uQ w' b c t r h s:=⟨p.ne,bX p.tb hx,p.hv,bX p.at_ hx,p.ph,p.hh,p.hs,p.hl,p.hw⟩
def LO (w w':World) (b c:Nat) (t:Tt) (r':Tr) (h res:Int) (e:Ending):Prop:=e=.returned (.int .i64 res)/\TB w' b (if res=0 then xU t r' h else t)/\At w' c r'/\Kept (λi=>i=b∨i=c) w w'
theorem SZ (b c:Nat) (t:Tt) (r:Tr) (h s:Int) (d:Dg) (w:World) (hp:uQ w b c t r h s):
 Calls prog 23 #[.pointer (some ⟨b,0,none⟩),.int .i64 h,.int .i64 s,.agg d.cells] w λe w'=>LO w w' b c t (CK r d) h (dL r 0 false) e:=by
 have HP:=J hp;clear hp;have y0:=dY w (.cells d.cells 25);have hB:=bN w 25 d.cells;go_enter func23,ntmps23;go_upto_region 1 with(fail);generalize (w.alloc (.cells d.cells 25))=w1 at y0 hB⊢;generalize w.heap.size=xb at hB⊢;have⟨HY,HB,HQ⟩:=J3' y0 hB (HP.o.ext y0);clear y0 hB;go_wp21;refine(Be b c xb _ HQ.o.ne t r (CK r d) h s (dL r 0 false) _ HQ.o.tb HQ.o.hv HQ.o.at_ HQ.o.ph HQ.o.hh HQ.o.hs HQ.o.hl HQ.o.hw (λ_ _=>rfl) (λW hW=>SW c xb r d W (bX HQ.o.at_ hW) (bX HB.o hW))).mono ?_;exact Yd
theorem KR (b c:Nat) (t:Tt) (r:Tr) (h s:Int) (f:Bool) (w:World) (hp:uQ w b c t r h s) (h0:0<=r.steps) (h1:r.steps<=1048576) (h2:0<=r.from_) (h3:r.from_<=1048576):
 Calls prog 25 #[.pointer (some ⟨b,0,none⟩),.int .i64 h,.int .i64 s,.bool f] w λe w'=>LO w w' b c t (n8 r f) h (dL r 1 false) e:=by
 have HP:=J hp;have HS:=J (ew h0 (ew h1 (ew h2 h3)));clear hp h0 h1 h2 h3;have y0:=dY w (.cells #[.bool f] 4);have hB:=bN w 4 #[.bool f];go_enter func25,ntmps25;go_upto_region 1 with(fail);generalize (w.alloc (.cells #[.bool f] 4))=w1 at y0 hB⊢;generalize w.heap.size=xb at hB⊢;have⟨HY,HB,HQ⟩:=J3' y0 hB (HP.o.ext y0);clear y0 hB;go_wp21;refine(Be b c xb _ HQ.o.ne t r (n8 r f) h s (dL r 1 false) _ HQ.o.tb HQ.o.hv HQ.o.at_ HQ.o.ph HQ.o.hh HQ.o.hs HQ.o.hl HQ.o.hw (λ_ _=>rfl) (λW hW=>I7 c xb r f W (bX HQ.o.at_ hW) (bX HB.o hW) HS.o.1 HS.o.2.1 HS.o.2.2.1 HS.o.2.2.2)).mono ?_;exact Yd
theorem Oc (b c:Nat) (t:Tt) (r:Tr) (h s:Int) (x:Ws) (e0:Int) (w:World) (hp:uQ w b c t r h s)
 (hk:∀w',al w w'->Calls prog 81 #[.agg r.program.cells,.int .i64 r.size,.agg r.before.cells,.agg r.after.cells,.agg x.cells] w' λe Iz=>e=.returned (.int .i64 e0)/\al w' Iz):
 Calls prog 27 #[.pointer (some ⟨b,0,none⟩),.int .i64 h,.int .i64 s,.agg x.cells] w λe w'=>LO w w' b c t (p9 r e0) h (uk r e0) e:=by
 have HP:=J hp;have HK:=J hk;clear hp hk;have y0:=dY w (.cells x.cells 74);have hB:=bN w 74 x.cells;go_enter func27,ntmps27;go_upto_region 1 with(fail);generalize (w.alloc (.cells x.cells 74))=w1 at y0 hB⊢;generalize w.heap.size=xb at hB⊢;have⟨HY,HB,HQ⟩:=J3' y0 hB (HP.o.ext y0);clear y0 hB;go_wp21;refine(Be b c xb _ HQ.o.ne t r (p9 r e0) h s (uk r e0) _ HQ.o.tb HQ.o.hv HQ.o.at_ HQ.o.ph HQ.o.hh HQ.o.hs HQ.o.hl HQ.o.hw (λ_ _=>rfl) (λW hW=>ND c xb r x.cells e0 W (bX HQ.o.at_ hW) (bX HB.o hW) rfl aB (λW' hW'=>HK.o W' ((HY.o.trans hW).trans hW')))).mono ?_;exact Yd
structure M36 (w:World) (t:Tt) (l:List Ins) (m0 m1:List Int) (ib io fb fo gb go:Nat):Prop where
 iA:t.iA=some ⟨ib,io,none⟩
 aeK:Row w ib io (db l)
 iN:t.iN=l.length
 i1:1<=t.iN
 i2:t.iN<=2048
 iok:∀i∈l,i.ok
 fA:t.A=some ⟨fb,fo,none⟩
 Bq:Row w fb fo (bj m0)
 fn:t.n=m0.length
 fr:cQ t.pc t.halt t.n=true
 gA:t.A'=some ⟨gb,go,none⟩
 grow:Row w gb go (bj m1)
 gn:t.n'=m1.length
 gr:cQ t.jk t.bU t.n'=true
 d0:0<=t.depth
 d1:t.depth<=20
theorem M36.ext {w w':World} {t:Tt} {l:List Ins} {m0 m1:List Int} {ib io fb fo gb go:Nat} (h:M36 w t l m0 m1 ib io fb fo gb go) (hx:al w w'):M36 w' t l m0 m1 ib io fb fo gb go:=
 {h with aeK:=h.aeK.ext hx,Bq:=h.Bq.ext hx,grow:=h.grow.ext hx}
def EN (t:Tt) (l:List Ins) (m0 m1:List Int):Tr:=⟨0,2^t.depth.toNat,jN t.pc t.halt m0,jN t.jk t.bU m1,kg l,t.iN,0,Dg.zero,-1⟩
theorem UG (b:Nat) (t:Tt) (l:List Ins) (m0 m1:List Int) (ib io fb fo gb go:Nat) (w:World) (ht:TB w b t) (hm:M36 w t l m0 m1 ib io fb fo gb go):
 Calls prog 55 #[.pointer (some ⟨b,0,none⟩)] w λe w'=>∃g,w.heap.size<=g/\e=.returned (.tuple #[.pointer (some ⟨g,0,none⟩),.int .i64 0])/\At w' g (EN t l m0 m1)/\al w w':=by
 unfold EN;have HT:=J ht;have HM:=J hm;have hc:=bC ht;have aP:=ai.lt ht;obtain⟨C,hC⟩:=nm' (kg l);obtain⟨S0,kB⟩:=nm' (jN t.pc t.halt m0);obtain⟨S1,dK⟩:=nm' (jN t.jk t.bU m1);rw [<-hC,<-kB,<-dK];have⟨HC,HS0,HS1⟩:=J3' hC kB dK;clear hm hC kB dK ht;go_enter func55,ntmps55;go_wp21;have q:=K_ t.iA ib io t.iK l t.iN HM.o.iN HM.o.i1 HM.o.i2 HM.o.iok (λ_=>HM.o.iA) w (λ_=>HM.o.aeK);rw [<-HC.o]at q;refine q.mono ?_;rintro e w1 ⟨rfl,aw⟩;clear q hc;go_upto_region 2 with(fail);have y2:al w (w1.alloc (.cells C.cells 25)):=aw.alloc _;have Io:=bN w1 25 C.cells;have jo:b<w1.heap.size:=(bX HT.o aw).lt;generalize (w1.alloc (.cells C.cells 25))=w2 at y2 Io⊢;generalize (w1:World).heap.size=pb at Io jo⊢;have⟨fp,HP2,nQ⟩:=J3' y2 Io jo;have Iw:=bX HT.o y2;have hc:=bC Iw;have hh:=bH Iw;have hg:=bG Iw;have Ro:=Iw.lt;clear aw y2 Io jo Iw aP;go_wp21;have q:=FA t.pc t.halt t.A fb fo t.k m0 t.n HM.o.fn HM.o.fr (λ_=>HM.o.fA) w2 (λ_=>HM.o.Bq.ext fp.o);rw [<-HS0.o]at q;refine q.mono ?_;rintro e w3 ⟨rfl,dv⟩;clear q hc hh hg Ro;go_upto_region 5 with(fail);have y4:al w2 (w3.alloc (.cells S0.cells 25)):=dv.alloc _;have hP4:=bN w3 25 S0.cells;have Vs:b<w3.heap.size/\pb<w3.heap.size:=⟨(bX HT.o (fp.o.trans dv)).lt,(bX HP2.o dv).lt⟩;generalize (w3.alloc (.cells S0.cells 25))=w4 at y4 hP4⊢;generalize (w3:World).heap.size=sb at hP4 Vs⊢;have⟨lp,Di,agt,uy⟩:=J4' (fp.o.trans y4) hP4 (bX HP2.o y4) Vs;have Iw:=bX HT.o lp.o;have hc:=bC Iw;have hh:=bH Iw;have hg:=bG Iw;have Ro:=Iw.lt;clear dv y4 hP4 Vs Iw;go_wp21;have q:=FA t.jk t.bU t.A' gb go t.k' m1 t.n' HM.o.gn HM.o.gr (λ_=>HM.o.gA) w4 (λ_=>HM.o.grow.ext lp.o);rw [<-HS1.o]at q;refine q.mono ?_;rintro e w5 ⟨rfl,iG⟩;clear q hc hh hg Ro;go_upto_region 8 with(fail);have y6:al w4 (w5.alloc (.cells S1.cells 25)):=iG.alloc _;have Rf:=bN w5 25 S1.cells;have hb6:b<w5.heap.size/\pb<w5.heap.size/\sb<w5.heap.size:=⟨(bX HT.o (lp.o.trans iG)).lt,(bX agt.o iG).lt,(bX Di.o iG).lt⟩;generalize (w5.alloc (.cells S1.cells 25))=w6 at y6 Rf⊢;generalize (w5:World).heap.size=zb at Rf hb6⊢;have⟨wJ,TC,alL,alM⟩:=J4' (lp.o.trans y6) Rf (bX agt.o y6) (bX Di.o y6);have HT6:=J (bX HT.o wJ.o);clear iG y6 Rf hb6;go_upto_region 10 with(fail);refine fH (λwz=>al w6 wz) [(0,1),(1,2),(2,2),(3,2),(4,1),(5,2),(6,2),(7,2),(8,2),(9,1),(10,1),(11,1),(12,0),(13,2),(14,2),(15,2),(16,2)] ?_;refine fI ?_;have yd:al w6 w6.drew:=(kR _ w6).drew
 repeat first|refine cx ?_|refine de yd (by intro w1 hS;have t0:=bX HT6.o hS;have t1:=bC t0;have t2:=t0.lt;have p0:=bX alL.o hS;have p1:=bH p0;have p2:=bG p0;have p3:=p0.lt;have s0:=bX alM.o hS;have s1:=bH s0;have s2:=bG s0;have s3:=s0.lt;have z0:=bX TC.o hS;have z1:=bH z0;have z2:=bG z0;have z3:=z0.lt;exact fV) ?_|refine dc yd ?_
 refine au (λK hK=>?_);go_simp;go_wp21;refine(aeQ C S0 S1 t.iN t.depth HM.o.d0 HM.o.d1 (by have:=HM.o.i1;omega) (by have:=HM.o.i2;omega) _).mono ?_;rintro e w7 ⟨g,hg,rfl,hA,zK⟩;have y7:=yd.trans zK;refine hK.out _ _ (λ_=>y7) ?_;clear hK K;refine fx ?_;go_wp21
 go_ret2
 exact⟨g,ax wJ.o.size (ax yd.size hg),rfl,hA,wJ.o.trans y7⟩
abbrev Mq (t:Tt) (h s:Int) (g:Nat):Tt:={t with phase:=1,kG:=h+t.window,sf:=s,hv:=some ⟨g,0,none⟩}
theorem UU (b:Nat) (t:Tt) (l:List Ins) (m0 m1:List Int) (ib io fb fo gb go:Nat) (h s:Int) (w:World) (ht:TB w b t) (hm:M36 w t l m0 m1 ib io fb fo gb go) (hp:t.phase=0) (hh:M3 h=true) (hl:h<=t.kG) (hs:isS s=true) (td:¬s=t.gd) (hw:0<=t.window/\t.window<=1048576):
 Calls prog 15 #[.pointer (some ⟨b,0,none⟩),.int .i64 h,.int .i64 s] w λe w'=>∃g,w.heap.size<=g/\e=.returned (.int .i64 0)/\TB w' b (Mq t h s g)/\At w' g (EN t l m0 m1)/\Kept (·=b) w w':=by
 have⟨HT,HM,HB,HW⟩:=J4' ht hm (show 0<=h/\h<=1099511627776 by simpa [M3]using hh) hw;have p1:(t.phase !=0)=false:=by simp [hp]
 have p2:decide (t.kG<h)=false:=by simp;omega
 have p3:(s==t.gd)=false:=by simp [td]
 have hc:=bC ht;have aP:=ai.lt ht;clear hm hp hl td hw ht;go_enter func15,ntmps15;go_wp21;refine aoT (pY h _) ?_;go_wp21;refine aoT (BP s _) ?_;go_wp21;refine(UG b t l m0 m1 ib io fb fo gb go _ HT.o HM.o).mono ?_;rintro e w1 ⟨g,hg,rfl,hA,hx⟩;have HX:=J hx;have Iv:=bX HT.o hx;have⟨TF,HA,HG,iF⟩:=J4' Iv hA hg (show¬g=b by omega);clear hc hA hx aP hg;have hc:=bC Iv;have hf:=ai.frozen Iv;have aP:=Iv.lt;go_wp21;go_ret;rw [IntWalk.wrap64_in _ (by have:=HB.o;have:=HW.o;omega)];have k:=((((kR (·=b) w1).setCell ⟨b,13,none⟩ (.pointer (some ⟨g,0,none⟩)) (λ_=>rfl)).setCell ⟨b,12,none⟩ (.int .i64 s) (λ_=>rfl)).setCell ⟨b,10,none⟩ (.int .i64 1) (λ_=>rfl)).setCell ⟨b,11,none⟩ (.int .i64 (h+t.window)) (λ_=>rfl);exact⟨g,HG.o,rfl,TB.of (ai.eK (ai.eK (ai.eK (ai.eK TF.o 13 (.pointer (some ⟨g,0,none⟩))) 12 (.int .i64 s)) 10 (.int .i64 1)) 11 (.int .i64 (h+t.window))) rfl,bK HA.o k iF.o,(Kept.ext HX.o).trans k⟩
end Mc
section
open Sq Mc
variable{Ar:List Int}
def kcN (p:Pr):Nat:=(cells p.vars).toNat
theorem F7 {l:List Int} (h:∀x∈l,av x) (k:Nat):av (l.getD k 0):=by
 by_cases hk:k<l.length
 .simp [hk];exact h _ (ed hk)
 .simp [hk];unfold av;omega
theorem aau {p:Pr} (h:Dd p) (part:Int) {V:List Int} (hV:∀x∈V,av x) (hA:∀x∈Ar,av x):∀x∈fF p part V Ar,av x:=λx hx=>by
 unfold fF at hx;rw [lr,lr,List.mem_replicate]at hx
 rcases hx with hx|hx|⟨-,e⟩
 .split at hx
  .exact EG h x hx
  .exact hV x hx
 .exact hA x hx
 .subst e;unfold av;omega
theorem vC {p:Pr} {part:Int} {V:List Int} (h:jg p part V Ar=0) (hk:Dd p):(fF p part V Ar).length=bR p:=by
 obtain⟨_,_,h3,h4,_⟩:=Bl h;have hc:=pS p.vars;have h0:=eZ p.vars;have hp:=hk.np;unfold fF bR;rw [dn,dn,List.length_replicate];unfold jF at h3;unfold fD at h4
 split at h3
 .rename_i e
  rw [ak e]
  split at h4
  .omega
  .split at h4<;>omega
 .rename_i e
  rw [af e]
  split at h4
  .omega
  .split at h4<;>omega
theorem Ez {p:Pr} {i:Nat} (h:(partOf p i).size<=256):(aK p i).length<=1793:=by
 have:=Ey h;unfold aK;rw [dn];simp only [iQ,oW]
 omega
theorem Mv {p:Pr} {part:Int} {V:List Int} (h:jg p part V Ar=0) (hk:Dd p) (hV:∀x∈V,av x) (hA:∀x∈Ar,av x):jX 0 0 (fF p part V Ar):=by
 refine⟨?_,aau hk part hV hA⟩;rw [vC h hk];have h0:=eZ p.vars;have h1:=hk.cells;have hn:(bR p:Int)=cells p.vars+49:=by unfold bR;omega
 simp [cQ]
 omega
end
namespace Mc
open Sq
variable{G:Prop}
theorem uq (n:Nat) (h1:1<=n) (h2:n<=4096) (w:World):Calls prog 48 #[.int .i64 n] w λe w'=>e=.returned (.int .i64 (iM n))/\w=w':=by
 by_cases h:n<=1
 .have h':(n:Int)<=1:=by omega
  go_enter func48,ntmps48;go_wp21;go_ret;refine⟨?_,rfl⟩;unfold iM;rw [show n - 1=0 by omega]
  rfl
 .have h':¬(n:Int)<=1:=by omega
  have hb:(iM n:Int)<=62:=by have:=(pT n h1 h2).1;omega
  unfold iM at hb;have hw:IntKind.u64.wrap ((n:Int) - 1)=(n:Int) - 1:=u64_in ad ad;go_enter func48,ntmps48;go_wp21;refine(bits_Len64 _ _ ad ad).mono ?_;rintro e w1 ⟨rfl,rfl⟩;go_wp21;go_ret;refine⟨bB ?_,rfl⟩;unfold iM
  omega
abbrev xv (p:Pr) (part ib ik fb:Nat) (jk:Int) (zb gn zk:Nat) (bU gd window:Int) (M:Nat):Array Value:=#[.int .i64 0,.slice (some ⟨fb,0,none⟩) (bR p) (bR p),.int .i64 0,.slice (some ⟨ib,0,none⟩) (aK p part).length ik,.int .i64 (iM M),.int .i64 jk,.slice (some ⟨zb,0,none⟩) gn zk,.int .i64 bU,.int .i64 gd,.int .i64 window]
def ang (w0:World) (p:Pr) (part fb:Nat) (jk:Int) (gn:Nat) (bU gd window:Int) (M:Nat) (m1:List Int) (w:World) (mb ib ik zb zk:Nat):Prop:=
 al w0 w/\ai w mb 117 (xv p part ib ik fb jk zb gn zk bU gd window M)/\Row w ib 0 (db (aK p part))/\Row w zb 0 (bj m1)/\w0.heap.size<=mb
abbrev PN (p:Pr) (part M fb ib ik:Nat) (jk:Int) (zb gn zk:Nat) (bU gd window fN:Int):Tt:=⟨0,some ⟨fb,0,none⟩,bR p,bR p,0,some ⟨ib,0,none⟩,(aK p part).length,ik,iM M,jk,some ⟨zb,0,none⟩,gn,zk,bU,gd,window,0,fN+window,-1,none⟩
def alX (p:Pr) (part:Nat) (V Ar:List Int) (M:Nat) (jk:Int) (gn:Nat) (bU:Int) (m1:List Int) (gd fN window:Int) (w w':World) (e:Ending):Prop:=
 ∃tb ib ik fb zb zk,w.heap.size<=tb/\e=.returned (.tuple #[.pointer (some ⟨tb,0,none⟩),.int .i64 0])/\TB w' tb (PN p part M fb ib ik jk zb gn zk bU gd window fN)
  /\M36 w' (PN p part M fb ib ik jk zb gn zk bU gd window fN) (aK p part) (fF p part V Ar) m1 ib 0 fb 0 zb 0/\al w w'
abbrev iH:Array Value:=#[.int .i64 0,.slice none 0 0,.int .i64 0,.slice none 0 0,.int .i64 0,.int .i64 0,.slice none 0 0,.int .i64 0,.int .i64 0,.int .i64 0]
theorem aiI {F M:World->Nat->Prop} (h:(∀W a,F W a->M W a)->G) (h2:∀W a,F W a->M W a):G:=h h2
theorem Wx {F M:World->Nat->Nat->Nat->Prop} (h:(∀W a b c,F W a b c->M W a b c)->G) (h2:∀W a b c,F W a b c->M W a b c):G:=h h2
theorem acD {F M:World->Nat->Nat->Nat->Nat->Nat->Prop} (h:(∀W a b c d e,F W a b c d e->M W a b c d e)->G) (h2:∀W a b c d e,F W a b c d e->M W a b c d e):G:=h h2
theorem Xu (cb N:Nat) (k:Cd) (p:Pr) (part:Nat) (hp5:part<5) (vs ag:i_) (V Ar:List Int) (jk:Int) (gb go gn gk:Nat) (bU:Int) (m1:List Int) (gd fN window:Int) (w:World) (hN:N<=w.heap.size) (hC:gC w N cb k p) (hv:mT w N vs V) (ha:mT w N ag Ar) (hk:Dd p) (Bx:jg p part V Ar=0) (hl:¬nB p) (dw:aU p part<=4096) (VD:∀i∈aK p part,i.ok) (da:jX 0 0 (fF p part V Ar))
 (aE:Row w gb go (bj m1)) (hgn:gn=m1.length) (hgr:cQ jk bU gn=true) (hgw:gn=bR p) (jx:¬bU=0) (hs:isS gd=true) (hh:M3 fN=true) (hw:1<=window/\window<=1048576):
 Calls prog 14 #[.pointer (some ⟨cb,0,none⟩),.int .i64 part,vs.v,ag.v,.agg (ae jk (some ⟨gb,go,none⟩) gn gk bU),.int .i64 gd,.int .i64 fN,.int .i64 window] w λe w'=>alX p part V Ar (aU p part) jk gn bU m1 gd fN window w w' e:=by
 obtain⟨M,hM⟩:=nm' (aU p part);have Dp:k.m part=(M:Int):=by rw [hM,hC.most part hp5]
 have HM:=J (show 1<=M/\M<=4096/\k.m part=(M:Int)from⟨by rw [hM];unfold aU bT;omega,by rw [hM];exact dw,Dp⟩);rw [<-hM];clear hM Dp;have⟨HC,HV,HA,HN,HK,HL,qT,adv,Zl,alG,agv,Ys,HB,HW⟩:=J14 hC hv ha hN hk hl dw Bx VD da aE (ew hgn (ew hgr hgw)) (show 0<=fN/\fN<=1099511627776 by simpa [M3]using hh) hw;have p1:(bU==0)=false:=by simp [jx]
 have p2:decide (window<1)=false:=by simp;omega
 have p3:decide (window>1048576)=false:=by simp;omega
 clear hC hv ha hN hk hl dw Bx VD da aE hgn hgr hgw hw jx;have y0:=dY w (.cells (ae jk (some ⟨gb,go,none⟩) gn gk bU) 47);have b0:=bN w 47 (ae jk (some ⟨gb,go,none⟩) gn gk bU);go_enter func14,ntmps14;go_upto_region 1 with(fail);generalize (w.alloc (.cells (ae jk (some ⟨gb,go,none⟩) gn gk bU) 47))=W1 at y0 b0⊢;generalize hlb:(w:World).heap.size=lb at b0⊢;have⟨HLB,LP,cC⟩:=J3' hlb b0 y0;clear b0 y0 hlb;go_wp21;refine(Bb cb N k p part vs ag V Ar _ (ax HN.o cC.o.size) (HC.o.ext cC.o) (HV.o.ext cC.o) (HA.o.ext cC.o) HK.o).mono ?_;rintro e w2 ⟨y2,ho⟩;have fp:=J (cC.o.trans y2);have nQ:=J (bX LP.o y2);clear y2
 cases ho with
 |bad amL=>exact absurd adv.o amL
 |ok _ fb t_ hF=>
  have HF2:=J hF;clear hF t_;have y3:=dY w2 (.cells (ae 0 (some ⟨fb,0,none⟩) (bR p) (bR p) 0) 47);have b3:=bN w2 47 (ae 0 (some ⟨fb,0,none⟩) (bR p) (bR p) 0);go_upto_region 4 with(fail);generalize (w2.alloc (.cells (ae 0 (some ⟨fb,0,none⟩) (bR p) (bR p) 0) 47))=w3 at y3 b3⊢;generalize (w2:World).heap.size=sb at b3⊢;have⟨fL,tM,HS3,HF3⟩:=J4' (fp.o.trans y3) (bX nQ.o y3) b3 (bX HF2.o y3);clear y3 b3;go_wp21;refine aoT (BP gd _) ?_;go_wp21;refine aoT (pY fN _) ?_;go_upto_region 10 with(fail);have r1:=Ys.o.2.1
  have Pn:0<=k.cells/\k.cells<=1000:=by
   have:=HK.o.cells;have:=eZ p.vars;rw [HC.o.kc];omega
  have zW:=J Pn
  have g1:((gn:Int) !=k.cells+49)=false:=by
   have:=Ys.o.2.2;unfold bR at this;rw [HC.o.kc]at Pn⊢;have e:(gn:Int)=cells p.vars+49:=by omega
   rw [e];simp
  clear Pn;refine fH (λwz=>al w3 wz) [(0,1),(1,0),(2,2),(3,2),(4,2),(5,1),(6,2),(7,2),(8,0),(9,2),(10,2),(11,2),(12,2),(13,1),(14,2),(15,2)] ?_;refine fI ?_;have yd:al w3 w3.drew:=(kR _ w3).drew
  repeat first|refine cx ?_|refine de yd afs ?_|refine dc yd ?_
  refine au (λK hK=>?_);go_simp;go_wp21;refine aoS (fT jk bU (some ⟨gb,go,none⟩) gn gk _) λw4 eS=>?_;have y4:=yd.trans eS;refine hK.out _ _ (λ_=>y4) ?_;clear hK K
  repeat first|refine cx ?_|refine de y4 afs ?_|refine dc y4 ?_
  refine au (λK hK=>?_);go_simp;go_wp21;refine aoT (Bc cb k _ (bX HC.o.box (fL.o.trans y4)) zW.o) ?_;refine hK.out _ _ (λ_=>y4) ?_;clear hK K
  repeat first|refine cx ?_|refine de y4 afs ?_|refine dc y4 ?_
  refine fx ?_;go_upto_region 12 with(fail);have⟨lp,uy,qS,HF4⟩:=J4' (fL.o.trans y4) (bX tM.o y4) (bX HS3.o y4) (bX HF3.o y4);obtain⟨ub,ib0,hiA,hib,Jy⟩:=HC.o.ins part hp5
  have hsz:(partOf p part).size<=256:=by
   rcases Nat.lt_or_ge 256 (partOf p part).size with q|q
   .exact absurd ⟨part,hp5,q⟩ HL.o
   .exact q
  have LD:=Ez hsz;have hl0:1<=(aK p part).length:=by unfold aK;simp
  have Ub:=J (ew ub (ew hiA Jy));have zX:=J (ew hl0 LD);clear y4 ub hiA hib Jy hsz LD hl0 r1 g1;apply acD (F:=ang w4 p part fb jk gn bU gd window M m1)
  case h=>
   intro ky;have Ik:=J ky;clear ky
  -- aln
   apply acD (F:=(λW mb ib ik zb zk=>al w4 W/\ai W mb 117 iH/\w4.heap.size<=mb/\Row W ib 0 (db (aK p part))/\¬ib=mb/\Row W zb 0 (bj m1)/\¬zb=mb))
   case h=>
    intro KK;have agE:=J KK;clear KK;apply Wx (F:=(λW mb ib ik=>al w4 W/\ai W mb 117 iH/\w4.heap.size<=mb/\Row W ib 0 (db (aK p part))/\¬ib=mb))
    case h=>
     intro KK;have agD:=J KK;clear KK;apply Wx (F:=(λW mb ib ik=>al w4 W/\ai W mb 117 iH/\w4.heap.size<=mb/\Row W ib 0 (db (aK p part))/\¬ib=mb))
     case h=>
      intro KK;have agC:=J KK;clear KK;apply Wx (F:=(λW mb ib ik=>al w4 W/\ai W mb 117 iH/\w4.heap.size<=mb/\Row W ib 0 (db (aK p part))/\¬ib=mb))
      case h=>
       intro KK;have agB:=J KK;clear KK;apply aiI (F:=(λW mb=>al w4 W/\ai W mb 117 iH/\w4.heap.size<=mb))
       case h=>
        intro KK;have ky:=J KK;clear KK;refine WU (λwz=>al w4 wz) (.op 0 1 (.op 1 2 (.op 2 2 (.op 4 2 (.op 5 2 (.op 8 1 (.op 10 2 (.op 11 2 (.fork 3 (.fork 6 (.fork 7 (.fork 9 (.op 12 2 (.op 13 0 (.op 14 0 .nil))) 13 (.op 9 0 (.op 12 2 (.op 14 0 .nil)))) 13 (.op 7 0 (.op 9 0 (.op 12 2 (.op 14 0 .nil))))) 13 (.op 6 0 (.op 7 0 (.op 9 0 (.op 12 2 (.op 14 0 .nil)))))) 13 (.op 3 0 (.op 6 0 (.op 7 0 (.op 9 0 (.op 12 2 (.op 14 0 .nil))))))))))))))) ?_;refine WV ?_;have YD:=J (pg w4)
        (repeat (first|refine nV ?_|((apply c_);(· exact YD.o);(· go_simp);(· (intro w1 hS;have d0:=bX qS.o hS;have d1:=bH d0;have d2:=bG d0;have d4:=d0.lt;have e0:=bX uy.o hS;have e1:=bH e0;have e2:=bG e0;have e4:=e0.lt;go_simp;try with_reducible rfl));refine iJ ?_)|((apply cZ);(· exact YD.o);(· go_simp);refine iJ ?_)))
        refine gQ ?_ ?_
        rotate_left
        .skip
         refine ci (λK hK=>?_);go_simp;have y1:al w4 (w4.alloc (.cells iH 117)).drew:=(dY w4 _).drew;have z2:=ai.drew (bN w4 117 iH);refine hK.out _ _ (λ_=>y1) ?_;clear hK K;generalize (w4.alloc (.cells iH 117)).drew=wq at y1 z2⊢;generalize hq:w4.heap.size=mb at z2⊢;have lE:=Nat.le_of_eq hq;clear hq
         (repeat (first|refine nV ?_|((apply c_);(· exact y1);(· go_simp);(· (intro w1 hS;have d0:=bX qS.o hS;have d1:=bH d0;have d2:=bG d0;have d4:=d0.lt;have e0:=bX uy.o hS;have e1:=bH e0;have e2:=bG e0;have e4:=e0.lt;go_simp;try with_reducible rfl));refine iJ ?_)|((apply cZ);(· exact y1);(· go_simp);refine iJ ?_)))
         exact ky.o _ mb ⟨y1,z2,lE⟩
        refine ci (λK hK=>?_);go_simp;go_wp21;refine(rq cb k _ (bX HC.o.box (lp.o.trans (YD.o))) part hp5 ib0 0 (aK p part) Ub.o.1 abq abq Ub.o.2.1 (Ub.o.2.2.ext (lp.o.trans (YD.o)))).mono ?_;rintro e w3 ⟨v,rfl,hov,hx⟩;have y4:=(YD.o).trans hx;obtain⟨ib,ik,rfl,TW,hig,_⟩:=fh hov zX.o.1 ap;have rW:=J TW;refine hK.out _ _ (λ_=>y4) ?_;clear hK K hov TW hx hig
        (repeat (first|refine nV ?_|((apply c_);(· exact y4);(· go_simp);(· (intro w1 hS;have d0:=bX qS.o hS;have d1:=bH d0;have d2:=bG d0;have d4:=d0.lt;have e0:=bX uy.o hS;have e1:=bH e0;have e2:=bG e0;have e4:=e0.lt;go_simp;try with_reducible rfl));refine iJ ?_)|((apply cZ);(· exact y4);(· go_simp);refine iJ ?_)))
        refine gQ ?_ ?_
        rotate_left
        .skip
         refine ci (λK hK=>?_);go_simp;have y5:al w4 (w3.alloc (.cells iH 117)):=(y4).alloc _;have z6:=bN w3 117 iH;have sx:al w3 (w3.alloc (.cells iH 117)):=dY w3 _;have jt:=J (show¬ib=w3.heap.size by have:=rW.o.lt;omega);replace rW:=J (rW.o.ext sx);refine hK.out _ _ (λ_=>y5) ?_;clear hK K;have lE:w4.heap.size<=w3.heap.size:=(y4).size;generalize (w3.alloc (.cells iH 117))=wq at y5 z6 rW⊢;generalize w3.heap.size=mb at z6 lE jt⊢
         (repeat (first|refine nV ?_|((apply c_);(· exact y5);(· go_simp);(· (intro w1 hS;have d0:=bX qS.o hS;have d1:=bH d0;have d2:=bG d0;have d4:=d0.lt;have e0:=bX uy.o hS;have e1:=bH e0;have e2:=bG e0;have e4:=e0.lt;go_simp;try with_reducible rfl));refine iJ ?_)|((apply cZ);(· exact y5);(· go_simp);refine iJ ?_)))
         exact agB.o _ mb ib ik ⟨y5,z6,lE,rW.o,jt.o⟩
        refine ci (λK hK=>?_);go_simp;go_wp21;refine aoT (se cb k _ (bX HC.o.box (lp.o.trans (y4))) part hp5) ?_;rw [HM.o.2.2];refine hK.out _ _ (λ_=>y4) ?_;clear hK K
        (repeat (first|refine nV ?_|((apply c_);(· exact y4);(· go_simp);(· (intro w1 hS;have d0:=bX qS.o hS;have d1:=bH d0;have d2:=bG d0;have d4:=d0.lt;have e0:=bX uy.o hS;have e1:=bH e0;have e2:=bG e0;have e4:=e0.lt;go_simp;try with_reducible rfl));refine iJ ?_)|((apply cZ);(· exact y4);(· go_simp);refine iJ ?_)))
        refine gQ ?_ ?_
        rotate_left
        .skip
         refine ci (λK hK=>?_);go_simp;have y9:al w4 (w3.alloc (.cells iH 117)):=(y4).alloc _;have z10:=bN w3 117 iH;have sx:al w3 (w3.alloc (.cells iH 117)):=dY w3 _;have jt:=J (show¬ib=w3.heap.size by have:=rW.o.lt;omega);replace rW:=J (rW.o.ext sx);refine hK.out _ _ (λ_=>y9) ?_;clear hK K;have lE:w4.heap.size<=w3.heap.size:=(y4).size;generalize (w3.alloc (.cells iH 117))=wq at y9 z10 rW⊢;generalize w3.heap.size=mb at z10 lE jt⊢
         (repeat (first|refine nV ?_|((apply c_);(· exact y9);(· go_simp);(· (intro w1 hS;have d0:=bX qS.o hS;have d1:=bH d0;have d2:=bG d0;have d4:=d0.lt;have e0:=bX uy.o hS;have e1:=bH e0;have e2:=bG e0;have e4:=e0.lt;go_simp;try with_reducible rfl));refine iJ ?_)|((apply cZ);(· exact y9);(· go_simp);refine iJ ?_)))
         exact agC.o _ mb ib ik ⟨y9,z10,lE,rW.o,jt.o⟩
        refine ci (λK hK=>?_);go_simp;go_wp21;refine aoT (uq M HM.o.1 HM.o.2.1 _) ?_;refine hK.out _ _ (λ_=>y4) ?_;clear hK K
        (repeat (first|refine nV ?_|((apply c_);(· exact y4);(· go_simp);(· (intro w1 hS;have d0:=bX qS.o hS;have d1:=bH d0;have d2:=bG d0;have d4:=d0.lt;have e0:=bX uy.o hS;have e1:=bH e0;have e2:=bG e0;have e4:=e0.lt;go_simp;try with_reducible rfl));refine iJ ?_)|((apply cZ);(· exact y4);(· go_simp);refine iJ ?_)))
        refine gQ ?_ ?_
        rotate_left
        .skip
         refine ci (λK hK=>?_);go_simp;have y13:al w4 (w3.alloc (.cells iH 117)):=(y4).alloc _;have z14:=bN w3 117 iH;have sx:al w3 (w3.alloc (.cells iH 117)):=dY w3 _;have jt:=J (show¬ib=w3.heap.size by have:=rW.o.lt;omega);replace rW:=J (rW.o.ext sx);refine hK.out _ _ (λ_=>y13) ?_;clear hK K;have lE:w4.heap.size<=w3.heap.size:=(y4).size;generalize (w3.alloc (.cells iH 117))=wq at y13 z14 rW⊢;generalize w3.heap.size=mb at z14 lE jt⊢
         (repeat (first|refine nV ?_|((apply c_);(· exact y13);(· go_simp);(· (intro w1 hS;have d0:=bX qS.o hS;have d1:=bH d0;have d2:=bG d0;have d4:=d0.lt;have e0:=bX uy.o hS;have e1:=bH e0;have e2:=bG e0;have e4:=e0.lt;go_simp;try with_reducible rfl));refine iJ ?_)|((apply cZ);(· exact y13);(· go_simp);refine iJ ?_)))
         exact agD.o _ mb ib ik ⟨y13,z14,lE,rW.o,jt.o⟩
        refine ci (λK hK=>?_);go_simp;go_wp21;refine(qg jk bU gb go gk m1 gn Ys.o.1 (cG Ys.o.2.1).1 (by have:=(cG Ys.o.2.1).2.1;omega) _ (agv.o.ext (lp.o.trans (y4)))).mono ?_;rintro e Y9 ⟨v,rfl,zb,zk,rfl,EQ,hx⟩;have y16:=(y4).trans hx;replace rW:=J (rW.o.ext hx);have DF:=J EQ.row;have hmg:=EQ.ge;refine hK.out _ _ (λ_=>y16) ?_;clear hK K EQ hx hmg
        (repeat (first|refine nV ?_|((apply c_);(· exact y16);(· go_simp);(· (intro w1 hS;have d0:=bX qS.o hS;have d1:=bH d0;have d2:=bG d0;have d4:=d0.lt;have e0:=bX uy.o hS;have e1:=bH e0;have e2:=bG e0;have e4:=e0.lt;go_simp;try with_reducible rfl));refine iJ ?_)|((apply cZ);(· exact y16);(· go_simp);refine iJ ?_)))
        refine ci (λK hK=>?_);go_simp;have y17:al w4 (Y9.alloc (.cells iH 117)):=(y16).alloc _;have z18:=bN Y9 117 iH;have sx:al Y9 (Y9.alloc (.cells iH 117)):=dY Y9 _;have jt:=J (show¬ib=Y9.heap.size by have:=rW.o.lt;omega);replace rW:=J (rW.o.ext sx);have tt:=J (show¬zb=Y9.heap.size by have:=DF.o.lt;omega);replace DF:=J (DF.o.ext sx);refine hK.out _ _ (λ_=>y17) ?_;clear hK K;have lE:w4.heap.size<=Y9.heap.size:=(y16).size;generalize (Y9.alloc (.cells iH 117))=wq at y17 z18 rW DF⊢;generalize Y9.heap.size=mb at z18 lE jt tt⊢
        (repeat (first|refine nV ?_|((apply c_);(· exact y17);(· go_simp);(· (intro w1 hS;have d0:=bX qS.o hS;have d1:=bH d0;have d2:=bG d0;have d4:=d0.lt;have e0:=bX uy.o hS;have e1:=bH e0;have e2:=bG e0;have e4:=e0.lt;go_simp;try with_reducible rfl));refine iJ ?_)|((apply cZ);(· exact y17);(· go_simp);refine iJ ?_)))
        exact agE.o _ mb ib ik zb zk ⟨y17,z18,lE,rW.o,jt.o,DF.o,tt.o⟩
       intro W mb hF;obtain⟨y,z,lE⟩:=hF;have⟨HZ,rV,HY⟩:=J3' z lE y;clear y z lE;refine ci (λK hK=>?_);go_simp;go_wp21;have rC:=HZ.o.lt;refine(rq cb k _ (bX HC.o.box (lp.o.trans (HY.o))) part hp5 ib0 0 (aK p part) Ub.o.1 abq abq Ub.o.2.1 (Ub.o.2.2.ext (lp.o.trans (HY.o)))).mono ?_;rintro e w19 ⟨v,rfl,hov,hx⟩;have y20:=(HY.o).trans hx;replace HZ:=J (bX HZ.o hx);obtain⟨ib,ik,rfl,TW,hig,_⟩:=fh hov zX.o.1 ap;have rW:=J TW;have jt:=J (show¬ib=mb by have:=hig;omega);clear rC;refine hK.out _ _ (λ_=>y20) ?_;clear hK K hov TW hx hig
       (repeat (first|refine nV ?_|((apply c_);(· exact y20);(· go_simp);(· (intro w1 hS;have d0:=bX qS.o hS;have d1:=bH d0;have d2:=bG d0;have d4:=d0.lt;have e0:=bX uy.o hS;have e1:=bH e0;have e2:=bG e0;have e4:=e0.lt;go_simp;try with_reducible rfl));refine iJ ?_)|((apply cZ);(· exact y20);(· go_simp);refine iJ ?_)))
       exact agB.o _ mb ib ik ⟨y20,HZ.o,rV.o,rW.o,jt.o⟩
      intro W mb ib ik hF;obtain⟨y,z,lE,Az,ni⟩:=hF;have⟨HZ,rV,HY,rW,jt⟩:=J5' z lE y Az ni;clear y z lE Az ni;refine ci (λK hK=>?_);go_simp;go_wp21;refine aoT (se cb k _ (bX HC.o.box (lp.o.trans (HY.o))) part hp5) ?_;rw [HM.o.2.2];refine hK.out _ _ (λ_=>HY.o) ?_;clear hK K
      (repeat (first|refine nV ?_|((apply c_);(· exact HY.o);(· go_simp);(· (intro w1 hS;have d0:=bX qS.o hS;have d1:=bH d0;have d2:=bG d0;have d4:=d0.lt;have e0:=bX uy.o hS;have e1:=bH e0;have e2:=bG e0;have e4:=e0.lt;go_simp;try with_reducible rfl));refine iJ ?_)|((apply cZ);(· exact HY.o);(· go_simp);refine iJ ?_)))
      exact agC.o _ mb ib ik ⟨HY.o,HZ.o,rV.o,rW.o,jt.o⟩
     intro W mb ib ik hF;obtain⟨y,z,lE,Az,ni⟩:=hF;have⟨HZ,rV,HY,rW,jt⟩:=J5' z lE y Az ni;clear y z lE Az ni;refine ci (λK hK=>?_);go_simp;go_wp21;refine aoT (uq M HM.o.1 HM.o.2.1 _) ?_;refine hK.out _ _ (λ_=>HY.o) ?_;clear hK K
     (repeat (first|refine nV ?_|((apply c_);(· exact HY.o);(· go_simp);(· (intro w1 hS;have d0:=bX qS.o hS;have d1:=bH d0;have d2:=bG d0;have d4:=d0.lt;have e0:=bX uy.o hS;have e1:=bH e0;have e2:=bG e0;have e4:=e0.lt;go_simp;try with_reducible rfl));refine iJ ?_)|((apply cZ);(· exact HY.o);(· go_simp);refine iJ ?_)))
     exact agD.o _ mb ib ik ⟨HY.o,HZ.o,rV.o,rW.o,jt.o⟩
    intro W mb ib ik hF;obtain⟨y,z,lE,Az,ni⟩:=hF;have⟨HZ,rV,HY,rW,jt⟩:=J5' z lE y Az ni;clear y z lE Az ni;refine ci (λK hK=>?_);go_simp;go_wp21;have rC:=HZ.o.lt;refine(qg jk bU gb go gk m1 gn Ys.o.1 (cG Ys.o.2.1).1 (by have:=(cG Ys.o.2.1).2.1;omega) _ (agv.o.ext (lp.o.trans (HY.o)))).mono ?_;rintro e w25 ⟨v,rfl,zb,zk,rfl,EQ,hx⟩;have y26:=(HY.o).trans hx;replace rW:=J (rW.o.ext hx);replace HZ:=J (bX HZ.o hx);have DF:=J EQ.row;have hmg:=EQ.ge;have tt:=J (show¬zb=mb by have:=hmg;omega);clear rC;refine hK.out _ _ (λ_=>y26) ?_;clear hK K EQ hx hmg
    (repeat (first|refine nV ?_|((apply c_);(· exact y26);(· go_simp);(· (intro w1 hS;have d0:=bX qS.o hS;have d1:=bH d0;have d2:=bG d0;have d4:=d0.lt;have e0:=bX uy.o hS;have e1:=bH e0;have e2:=bG e0;have e4:=e0.lt;go_simp;try with_reducible rfl));refine iJ ?_)|((apply cZ);(· exact y26);(· go_simp);refine iJ ?_)))
    exact agE.o _ mb ib ik zb zk ⟨y26,HZ.o,rV.o,rW.o,jt.o,DF.o,tt.o⟩
   intro W mb ib ik zb zk hF;obtain⟨y,z,lE,Az,ni,agk,Uv⟩:=hF;have⟨HZ,rV,HY,rW,jt,DF,tt⟩:=J7' z lE y Az ni agk Uv;clear y z lE Az ni agk Uv;have hz1:=bH HZ.o;have hz2:=ai.aC HZ.o;have hz3:=HZ.o.lt;refine LL ?_;have dw:=Kept.putAt (S:=(·=mb)) (kR _ W) mb 0 (xv p part ib ik fb jk zb gn zk bU gd window M) (λ_=>rfl);have hyz:al w4 (putAt W mb 0 (xv p part ib ik fb jk zb gn zk bU gd window M)):=Kept.putAt HY.o _ _ _ (λh=>by have:=rV.o;omega);have Vt:ai (putAt W mb 0 (xv p part ib ik fb jk zb gn zk bU gd window M)) mb 117 (xv p part ib ik fb jk zb gn zk bU gd window M):=ai.cw HZ.o 0 _;have acq:=rW.o.kept dw jt.o;have yu:=DF.o.kept dw tt.o;clear dw;generalize (putAt W mb 0 (xv p part ib ik fb jk zb gn zk bU gd window M))=wF at hyz Vt acq yu⊢;exact Ik.o _ _ _ _ _ _ ⟨hyz,Vt,acq,yu,rV.o⟩
  -- END
  intro w5 mb ib ik zb zk VI;obtain⟨y5,DY,hi5,hz5,amw⟩:=VI;have h1:=bH DY;have h2:=bG DY;have h3:=bC DY;have h4:=DY.lt;have⟨uJ,HI5,HZ5,HF5⟩:=J4' (lp.o.trans y5) hi5 hz5 (bX HF4.o y5);clear y5 DY hi5 hz5 amw;go_wp21
  go_ret2
  rw [IntWalk.wrap64_in _ (by have:=HB.o;have:=HW.o;omega)];have ya:=dY w5 (.cells (PN p part M fb ib ik jk zb gn zk bU gd window fN).cells 120);refine⟨w5.heap.size,ib,ik,fb,zb,zk,uJ.o.size,rfl,bN w5 _ _,?_,uJ.o.trans ya⟩;have hl:=zX.o;have hb:=pT M HM.o.1 HM.o.2.1;exact⟨rfl,HI5.o.ext ya,rfl,hl.1,by show(aK p part).length<=2048;omega,Zl.o,rfl,(Row.cF HF5.o).ext ya,(vC adv.o HK.o).symm,by have:=alG.o.right;rw [vC adv.o HK.o]at this;exact this,rfl,HZ5.o.ext ya,Ys.o.1,Ys.o.2.1,by show(0:Int)<=(iM M:Int);omega,by show(iM M:Int)<=20;omega⟩
theorem SY (b c:Nat) (t:Tt) (r:Tr) (w:World) (ht:TB w b t) (hv:t.hv=some ⟨c,0,none⟩) (hr:At w c r):
 Calls prog 22 #[.pointer (some ⟨b,0,none⟩)] w λe w'=>e=.returned (.tuple #[.int .i64 r.from_,.int .i64 r.steps,.agg r.before.cells,.agg r.after.cells])/\al w w':=by
 have HT:=J ht;have HR:=J hr;have aF:al w _:=(dM w (.cells Dg.zero.cells 25)).alloc (.cells Dg.zero.cells 25);have hA0:ai _ w.heap.size 25 Dg.zero.cells:=ai.alloc (bN w 25 Dg.zero.cells) (.cells Dg.zero.cells 25);have fz:ai _ (w.heap.size+1) 25 Dg.zero.cells:=ai.ea (w.alloc (.cells Dg.zero.cells 25)) _ _ _ aB;clear ht hr;go_enter func22,ntmps22;go_upto_region 1 with(fail);generalize ((w.alloc (.cells Dg.zero.cells 25)).alloc (.cells Dg.zero.cells 25))=W1 at aF hA0 fz⊢;generalize hg:(w:World).heap.size=g at hA0 fz⊢;have⟨HG,dS,HA0,Zu⟩:=J4' hg aF hA0 fz;have Iv:=bX HT.o aF;have hc:=bC Iv;have hl:=Iv.lt;clear aF hA0 fz hg;go_wp21;refine aoS (vQ c r _ (bX HR.o dS.o)) λw2 bd=>?_;have b1:=bX HA0.o bd;have b2:=bX Zu.o bd;have⟨Ts,nQ,gf⟩:=J3' b1 b2 (dS.o.trans bd);have a1:=bH b1;have a2:=ai.aC b1;have a3:=b1.lt;have c1:=bH b2;have c2:=ai.aC b2;have c3:=b2.lt;clear hc hl Iv bd b1 b2;go_wp21;have k1:Kept (λi=>i=g∨i=g+1) w2 (putAt (putAt w2 g 0 r.before.cells) (g+1) 0 r.after.cells):=Kept.putAt (Kept.putAt (kR _ w2) _ _ _ (λ_=>.inl rfl)) _ _ _ (λ_=>.inr rfl);refine Ke results22 rfl rfl rfl dU kH (bK (ai.cw Ts.o 0 r.before.cells) (Kept.putAt (S:=(·=g+1)) (kR _ _) (g+1) 0 r.after.cells (λ_=>rfl)) ad) dU kH (ai.cw (bK nQ.o (Kept.putAt (S:=(·=g)) (kR _ _) g 0 r.before.cells (λ_=>rfl)) ad) 0 r.after.cells) ⟨rfl,?_⟩;exact Kept.putAt (Kept.putAt gf.o _ _ _ (λh=>by have:=HG.o;omega)) _ _ _ (λh=>by have:=HG.o;omega)
theorem RO (b off n cap:Nat) (l:List Dg) (hn:n=l.length) (hm:n<=17592186044416) (a s i:Nat) (h2:2<=s) (hs:s<=17592186044416) (hi:i=a+s / 2) (ub:i<n) (w:World) (hr:Row w b off (cY l)) (d:Dg) (hd:l[i]?=some d):
 Calls prog 10 #[.slice (some ⟨b,off,none⟩) n cap,.int .i64 a,.int .i64 s] w λe w'=>e=.returned (.tuple #[.agg d.cells,.int .i64 0])/\al w w':=by
 have aF:=dY w (.cells Dg.zero.cells 25);have hA0:=bN w 25 Dg.zero.cells;have yh:i<l.length:=by omega
 obtain⟨hh,hg⟩:=(hr.ext aF).ZT i yh;rw [List.getElem?_eq_getElem yh]at hd;injection hd with hd;rw [hd]at hg;have aP:=(hr.ext aF).lt;have q1:decide ((s:Int)<2)=false:=by simp;omega
 have q0:decide ((a:Int)<0)=false:=by simp
 have q2:decide (n<=a)=false:=by simp;omega
 have q6:wrap64 ((n:Int) - a)=(n:Int) - a:=IntWalk.wrap64_in _ ad;have q3:decide ((n:Int) - a<=(s:Int) / 2)=false:=by simp;omega
 have q4:wrap64 ((a:Int)+(s:Int) / 2)=(i:Int):=by rw [IntWalk.wrap64_in _ ad];omega
 have q5:(i:Int)<n:=by omega
 have HR:=J hr;have HI:=J (ew hn (ew hm (ew hs ub)));clear hr hd hn hm ub h2 hi yh;go_enter func10,ntmps10;go_upto_region 1 with(fail);generalize (w.alloc (.cells Dg.zero.cells 25))=W1 at aF hA0 hh hg aP⊢;generalize hgg:(w:World).heap.size=g at hA0⊢;have HG:=J hgg;have dS:=J aF;have a1:=bH hA0;have a2:=ai.aC hA0;have a3:=hA0.lt;clear hgg aF;go_wp21;refine di (t:=25) (g:=g) (cs:=d.cells) results10 rfl rfl dU kH (by exact ai.cw hA0 0 _) ⟨rfl,?_⟩;exact Kept.putAt dS.o _ _ _ (λh=>by have:=HG.o;omega)
