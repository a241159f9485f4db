/- Several texts joined: Lp, Ln, Vx. -/
import Derived.Test.YtbfbabbcdochjaaGreatDoorRmpk
import Derived.Test.YtbfbabbcdochjaaGreatDoorRmbq
import Derived.Test.YtbfbabbcdochjaaGreatDoorRmbr
set_option maxHeartbeats 4000000
set_option maxRecDepth 100000
open Go.Proofs.Tryz
namespace Go.Proofs.YtbfbabbcdochjaaGreatDoor
open Go.RowKit So Mc
theorem Oy (w:World):Calls prog 30 #[.pointer none] w λe w'=>e=.returned (.int .i64 0)/\w=w':=by
 go_enter func30,ntmps30;go_wp2_with fail;go_ret;exact⟨rfl,rfl⟩
theorem Tj (w:World):Calls prog 28 #[.pointer none,.int .i64 0] w λe w'=>e=.returned (.int .i64 0)/\w=w':=by
 go_enter func28,ntmps28;go_wp2_with fail;go_ret;exact⟨rfl,rfl⟩
theorem KJ (w:World):Calls prog 27 #[.pointer none,.int .i64 0] w λe w'=>e=.returned (.slice none 0 0)/\w=w':=by
 go_enter func27,ntmps27;go_wp2_with fail;go_ret;exact⟨rfl,rfl⟩
theorem Tg (w:World):Calls prog 39 #[.pointer none,.int .i64 0,.slice none 0 0,.slice none 0 0] w λe w'=>e=.returned (.int .i64 1)/\w=w':=by
 go_enter func39,ntmps39;go_wp2_with fail;go_ret;exact⟨rfl,rfl⟩
theorem DI (w:World):Calls prog 19 #[.pointer none,.int .i64 0,.slice none 0 0,.slice none 0 0] w λe w'=>e=.returned (.tuple #[.agg (aN 0 none 0 0 0),.int .i64 1])/\Ext w w':=by
 have y0:=(kR (λ_=>False) w).alloc (.cells #[.int .i64 0,.slice none 0 0,.int .i64 0] 49);have b0:=bN w 49 #[.int .i64 0,.slice none 0 0,.int .i64 0];go_enter func19,ntmps19;go_upto_region 1 with(fail);generalize (w.alloc (.cells #[.int .i64 0,.slice none 0 0,.int .i64 0] 49))=W1 at y0 b0⊢;generalize hrb:(w:World).heap.size=rb at b0⊢;have vT:=J hrb;have HB0:=J b0;have bU:=J y0;clear b0 y0 hrb;go_wp2_with fail;refine(Tg _).mono ?_;rintro e w2 ⟨rfl,rfl⟩;have l1:=bH HB0.out;have l2:=aH.bF HB0.out;have l3:=HB0.out.lt;go_wp2_with fail;have kp:Kept (·=rb) W1 (putAt W1 rb 0 #[.int .i64 0,.slice none 0 0,.int .i64 0]):=Kept.putAt (kR _ _) _ 0 _ (λ_=>rfl);refine dU (t:=49) (g:=rb) (cs:=aN 0 none 0 0 0) results19 rfl rfl rz Vm (by exact aH.gL HB0.out 0 _) ⟨rfl,?_⟩;exact bU.out.trans' kp (λi hi e=>by have:=vT.out;omega)
theorem Xc (w:World):Calls prog 15 #[.pointer none,.int .i64 0,.slice none 0 0,.slice none 0 0] w λe w'=>e=.returned (.tuple #[.agg fu.c,.int .i64 1])/\Ext w w':=by
 have y0:=(kR (λ_=>False) w).alloc (.cells fu.c 38);have b0:=bN w 38 fu.c;go_enter func15,ntmps15;go_upto_region 1 with(fail);generalize (w.alloc (.cells fu.c 38))=W1 at y0 b0⊢;generalize hrb:(w:World).heap.size=rb at b0⊢;have vT:=J hrb;have HB0:=J b0;have bU:=J y0;clear b0 y0 hrb;go_wp2_with fail;refine(DI _).mono ?_;rintro e w2 ⟨rfl,y2⟩;have fH:=J y2;have HB2:=J (bX HB0.out y2);clear y2;have y3:=(kR (λ_=>False) w2).alloc (.cells #[.int .i64 0,.slice none 0 0,.int .i64 0] 49);have b3:=HB2.out.ext y3;go_upto_region 2 with(fail);generalize (w2.alloc (.cells #[.int .i64 0,.slice none 0 0,.int .i64 0] 49))=w3 at y3 b3⊢;have eX:=J y3;have l1:=bH b3;have l2:=aH.bF b3;have l3:=b3.lt;have HB3:=J b3;clear b3 y3;go_wp2_with fail;have kp:Kept (·=rb) w3 (putAt w3 rb 0 fu.c):=Kept.putAt (kR _ _) _ 0 _ (λ_=>rfl);refine dU (t:=38) (g:=rb) (cs:=fu.c) results15 rfl rfl fI sF (by exact aH.gL HB3.out 0 _) ⟨rfl,?_⟩;exact((bU.out.trans fH.out).trans eX.out).trans' kp (λi hi e=>by have:=vT.out;omega)
theorem Xa (w:World):Calls prog 29 #[.pointer none,.int .i64 0,.agg (aN 0 none 0 0 0)] w λe w'=>e=.returned (.tuple #[.agg fu.c,.int .i64 1])/\Ext w w':=by
 obtain⟨W1,hW1⟩:∃W1,W1=(w.alloc (.cells (aN 0 none 0 0 0) 49)).alloc (.cells fu.c 38):=⟨_,rfl⟩;have y1:Ext w W1:=by rw [hW1];exact((kR _ w).alloc _).alloc _
 have hz1:(w.alloc (.cells (aN 0 none 0 0 0) 49)).heap.size=w.heap.size+1:=by simp
 have b2:aH W1 (w.heap.size+1) 38 fu.c:=by rw [hW1];exact aH.new' _ _ _ _ aG
 go_enter func29,ntmps29;go_upto_region 1 with(fail)
 try rw [hz1]
 rw [<-hW1];clear hz1 hW1;generalize hsb:(w:World).heap.size=sb at b2⊢;have Bv:=J hsb;have HB2:=J b2;have dX:=J y1;clear b2 y1 hsb;have l4:=bH HB2.out;have l5:=aH.bF HB2.out;have l6:=HB2.out.lt;go_wp2_with fail;have kp:Kept (·=sb+1) W1 (putAt W1 (sb+1) 0 fu.c):=Kept.putAt (kR _ _) _ 0 _ (λ_=>rfl);refine dU (t:=38) (g:=sb+1) (cs:=fu.c) results29 rfl rfl fI sF (by exact aH.gL HB2.out 0 _) ⟨rfl,?_⟩;exact dX.out.trans' kp (λi hi e=>by have:=Bv.out;omega)
open Go.RowKit So Mc
theorem qd.ext {p:Pr} {w w':World} {e:Ending} (h:qd p w e) (y:Ext w w'):qd p w' e:=by
 cases h with
 |no=>exact .no
 |ok hf h hl hs cb k hc=>exact .ok hf h hl hs cb k ((hc.ext y).up y.size (Nat.le_refl _))
theorem aaw {p:Pr} {part:Int} {V Ar:List Int} (h:dO p part V Ar=0) (hk:tF p):V.length<=100000/\Ar.length<=100000:=by
 obtain⟨_,_,h3,h4,_⟩:=kL h;have h0:=dS p.vars;have h5:=hk.cells;have hp:=hk.np;unfold gK at h3;unfold dZ at h4
 constructor
 ·split at h3<;>omega
 ·split at h4
  ·omega
  ·split at h4<;>omega
theorem O6 (c:Pc) (p:Pr) (part:Int) (s0 s1:jg) (V0 V1:List Int) (N:Nat) (w:World) (hN:N<=w.heap.size) (h:lT w N c p) (hL:fG w) (hO:OpsAt w) (hcap:J3 c) (hz:eT p<=1099511627776) (hv0:j5 w N s0 V0) (hv1:j5 w N s1 V1):
 Calls prog 9 #[.agg c.cells,.int .i64 part,.agg #[s0.v,s1.v]] w λe w'=>e=.returned (.bool true)/\Ext w w':=by
 have hx0:=((kR (λ_=>False) w).alloc (.cells c.cells 26)).alloc (.cells #[s0.v,s1.v] 28);have hB:=(bN w 26 c.cells).alloc (.cells #[s0.v,s1.v] 28);have hD:=bN (w.alloc (.cells c.cells 26)) 28 #[s0.v,s1.v];go_enter func9,ntmps9;go_upto_region 1 with(fail);have iY:=J (h.ext hx0 hN);have dR:=J (Nat.le_trans hN hx0.size);have pI:=J (hL.ext hx0);have HOW:=J (hO.ext hx0);have j4:=J (hv0.ext hx0);have qh:=J (hv1.ext hx0);have HCAP:=J hcap;have HZ:=J hz;rw [show(w.alloc (.cells c.cells 26)).heap.size=w.heap.size+1 by simp]at hD;generalize hW:(w.alloc (.cells c.cells 26)).alloc (.cells #[s0.v,s1.v] 28)=W at hx0 hB hD iY dR pI HOW j4 qh⊢;have HX0:=J hx0;have HB:=J hB;have HD:=J hD;clear hW hx0 hB hD h hN hL hO hcap hz hv0 hv1;generalize w.heap.size=pb at HB HD⊢;have i1:=bH HB.out;have i2:=bG HB.out;have i3:=HB.out.lt;go_wp2_with fail;refine(rQ c p N _ dR.out iY.out pI.out HZ.out).mono ?_;rintro e wb ⟨hxb,hb⟩;have HXB:=J hxb;clear hxb i1 i2 i3;obtain⟨cp,b,rfl⟩:∃cp b,e=.returned (.tuple #[.pointer cp,.bool b]):=by cases hb<;>exact⟨_,_,rfl⟩
 have CV:=J hb;clear hb;go_upto_region 3 with(fail);go_wp2_with fail;refine(Xc _).mono ?_;rintro e a1 ⟨rfl,x1⟩;have q1:=(kR (λ_=>False) a1).alloc (.cells fu.c 38);go_upto_region 4 with(fail);generalize (a1.alloc (.cells fu.c 38))=wc at q1⊢;generalize a1.heap.size=nwc at⊢;have Hwc:=J (x1.trans q1);clear x1 q1 a1;go_wp2_with fail;refine(DI _).mono ?_;rintro e a1 ⟨rfl,x1⟩;have q1:=(kR (λ_=>False) a1).alloc (.cells #[.int .i64 0,.slice none 0 0,.int .i64 0] 49);go_upto_region 5 with(fail);generalize (a1.alloc (.cells #[.int .i64 0,.slice none 0 0,.int .i64 0] 49))=wd at q1⊢;generalize a1.heap.size=nwd at⊢;have Hwd:=J (Hwc.out.trans (x1.trans q1));clear x1 q1 a1;go_wp2_with fail;refine(Xa _).mono ?_;rintro e a1 ⟨rfl,x1⟩;have q1:=(kR (λ_=>False) a1).alloc (.cells fu.c 38);go_upto_region 6 with(fail);generalize (a1.alloc (.cells fu.c 38))=w1 at q1⊢;generalize a1.heap.size=nw1 at⊢;have Hw1:=J (Hwd.out.trans (x1.trans q1));clear x1 q1 a1;go_wp2_with fail;refine(Oy _).mono ?_;rintro e wz ⟨rfl,rfl⟩;go_wp2_with fail;refine(Tj _).mono ?_;rintro e wz ⟨rfl,rfl⟩;go_wp2_with fail;refine(KJ _).mono ?_;rintro e wz ⟨rfl,rfl⟩;have eH:=J (HXB.out.trans Hw1.out);have hb:=CV.out.ext Hw1.out;clear CV
 cases hb with
 |no=>
  exact aci
 |ok hf hc hl hs cb k hk=>
  refine abV ?_;clear hf hc hl hs hk;intro HF HC uS HST HK gD i1 i2 i3;go_wp2_with fail;refine abO ?_;clear i1 i2 i3;intro w2 eU sQ;go_upto_region 11 with(fail);obtain⟨j,hj,hje⟩:=Yg part;rw [hje];have wC:=J hj;clear hje;have zm:=J (HB.out.ext eU.out);have V8:=J (HD.out.ext eU.out);have i1:=bH zm.out;have i2:=bG zm.out;have i3:=zm.out.lt;have i4:w2.cell? ⟨pb+1,0,none⟩=some (.slice s0.A s0.n s0.c):=bC V8.out 0;have i5:w2.cell? ⟨pb+1,1,none⟩=some (.slice s1.A s1.n s1.c):=bC V8.out 1;have i6:=V8.out.lt;go_wp2_with fail;refine(D5 c p j wC.out s0 s1 V0 V1 N w2 (Nat.le_trans dR.out eU.out.size) (iY.out.ext eU.out dR.out) (j4.out.ext eU.out) (qh.out.ext eU.out) gD.out).mono ?_;rintro e wf ⟨sv,sa,rfl,hov,hoa,RH⟩;obtain⟨svA,svn,svc⟩:=sv;obtain⟨saA,san,sac⟩:=sa;have F7:=J (j5.gy hov (Ij j4.out.2.1));have Fa:=J (j5.gy hoa (Ii gD.out qh.out.2.1));have HXF:=J (eU.out.trans RH);have tJ:=J (show dO p (j:Nat) (wM p j V0) (uj p j V1)=0 from DR gD.out hj V0 V1);have HKF:=J ((sQ.out.ext RH).up RH.size (Nat.le_refl _));clear i1 i2 i3 i4 i5 i6 hov hoa RH hj;generalize wM p j V0=V at F7 tJ;generalize uj p j V1=Ar at Fa tJ;have HFW:=J (aaw tJ.out gD.out);go_upto_region 12 with(fail);obtain⟨Fj,-,vb,vo,J_,hvR⟩:=F7.out;obtain⟨han,-,ab,ao,Io,haR⟩:=Fa.out;have z1:Ext wf (wf.alloc (.cells #[] 21)):=(kR _ wf).alloc _;obtain⟨cA,cc,w3,hr3,ho3,hk3,-⟩:=Ky (wf.alloc (.cells #[] 21)) wf.heap.size wf.heap.size (vv wf 21 1) svA vb vo svn svc V Fj J_ (λh0=>(hvR h0).2.ext z1) (by rw [show svn=_ from Fj];exact HFW.out.1) z1.size;have z2:Ext wf w3:=z1.trans' hk3 (λi hi e=>by omega);have z3:Ext w3 (w3.alloc (.cells #[] 21)):=(kR _ w3).alloc _;obtain⟨dA,dc,w4,hr4,ho4,hk4,-⟩:=Ky (w3.alloc (.cells #[] 21)) w3.heap.size w3.heap.size (vv w3 21 1) saA ab ao san sac Ar han Io (λh0=>((haR h0).2.ext z2).ext z3) (by rw [show san=_ from han];exact HFW.out.2) z3.size;have z4:Ext w3 w4:=z3.trans' hk4 (λi hi e=>by omega);have HCV:=J ((j5.gy (s:=⟨cA,svn,cc⟩) ho3 F7.out.2.1).ext z4);have HDV:=J (j5.gy (s:=⟨dA,san,dc⟩) ho4 Fa.out.2.1);have JV:=J (z2.trans z4);clear Fj J_ hvR han Io haR z1 z2 z3 z4 hk3 hk4 ho3 ho4;go_step
  iterate 2 refine qY ?_
  refine fM rfl (.tmp 99) (.tmp 100) 27 rfl rfl rfl rfl hr3 ?_;clear hr3
  iterate 2 refine qY ?_
  refine fM rfl (.tmp 102) (.tmp 103) 27 rfl rfl rfl rfl hr4 ?_;clear hr4;go_upto_region 13 with(fail);have fZ:=J (HXF.out.trans JV.out);have xG:=J ((HKF.out.ext JV.out).up JV.out.size (Nat.le_refl _));go_wp2_with fail;refine(qy cb _ k p j wC.out ⟨svA,svn,svc⟩ ⟨saA,san,sac⟩ V Ar w4 (Nat.le_refl _) xG.out ((F7.out.ext JV.out).mono JV.out.size) ((Fa.out.ext JV.out).mono JV.out.size) gD.out uS.out HST.out (HOW.out.ext fZ.out) tJ.out).mono ?_;rintro e w5 ⟨hx5,o,rfl,qH⟩;obtain⟨⟨oA,on,oc⟩,or,os,ok,od,oq,ot⟩:=o;have Nz:=J qH.vars
  have hon:on<=100000:=by
   have h1:=qH.vars.1;have h2:=(LQ gD.out wC.out tJ.out F7.out.2.1 Fa.out.2.1).2.2.1;rw [dQ]at h1;simp only [Nat.mul_one]at h1;have h3:(fU.vars ⟨⟨oA,on,oc⟩,or,os,ok,od,oq,ot⟩).n=on:=rfl
   omega
  have yb:=(kR (λ_=>False) w5).alloc (.cells (fU.c ⟨⟨oA,on,oc⟩,or,os,ok,od,oq,ot⟩) 38);have bb:=bN w5 38 (fU.c ⟨⟨oA,on,oc⟩,or,os,ok,od,oq,ot⟩);go_upto_region 14 with(fail);generalize (w5.alloc (.cells (fU.c ⟨⟨oA,on,oc⟩,or,os,ok,od,oq,ot⟩) 38))=w6 at yb bb⊢;generalize w5.heap.size=ob at bb⊢;have NJ:=J bb;have jc:=J (hx5.trans yb);have Fx:=J (bD Nz.out yb);clear hx5 qH yb bb Nz;generalize (vX j (iG p j V Ar)).vars=L0 at Fx;go_wp2_with fail
  go_loopw [23] (λt23 wr=>∃i:Nat,i<=on/\t23=.int .i64 (i:Int)/\(∃L,wr.ownsRow w4.heap.size 21 1 (.slice oA on oc) on (aM L))/\Kept (λg=>(Value.slice oA on oc).ownBlock=some g) w6 wr) (λt23 _=>on - (intOf t23).toNat)
  case atStart=>exact⟨0,Nat.zero_le _,rfl,⟨L0,Fx.out⟩,kR _ _⟩
  case round=>
   obtain⟨i,hi,rfl,⟨L,how⟩,hkw⟩:=hrel;have J9:=J how;have HKW:=J hkw;have hne:¬(Value.slice oA on oc).ownBlock=some ob:=λq=>dI Fx.out (E':=38) ak _ q _ _ NJ.out;have SE:=J (NJ.out.kept hkw hne);clear how hkw hne
   by_cases hlt:i<on
   ·have jd:(i:Int)<on:=by omega
    have i1:=bC SE.out;have i2:=SE.out.lt;obtain⟨g,cc2,hvv,-,-,-⟩:=gu J9.out aj ak;injection hvv with e1 e2 e3;subst e1;subst e3;have hLn:on=L.length:=(eB.inv (m:=L) J9.out).1;have ZL:=J (show i<L.length by omega);clear hLn;have hpi:i<=100000:=by omega
    go_upto_region 17 with(fail);refine gM (λwz=>Ext wr wz) [(0,2),(1,1),(2,2),(3,2),(4,1),(5,2),(6,2),(7,1),(8,2),(9,2),(10,0)] ?_;refine gN ?_;have yd:Ext wr wr.drew:=(kR _ wr).drew
    (repeat first|refine cu ?_|refine dL yd (by intro w1 hS;have d1:=bC (bX SE.out hS);have d2:=(bX SE.out hS).lt;have e1:=(eB.ext (m:=L) J9.out hS).cell i ZL.out;have e2:=(eB.ext (m:=L) J9.out hS).lt;exact gX) ?_|refine dK yd ?_)
    have f0:=eB.cell (m:=L) J9.out i ZL.out;have f1:=eB.frozen (m:=L) J9.out i;have f2:=eB.lt (m:=L) J9.out;refine gI ?_;clear i1 i2 f0 f1 f2;have hm2:=(eB.set (m:=L) J9.out i ZL.out (IntKind.i32.wrap (L[i]+1))).ext (show Ext _ (wr.setCell ⟨g,i,none⟩ (.int .i32 (IntKind.i32.wrap (L[i]+1)))).drew from(kR _ _).drew);have hk2:Kept (λq=>(Value.slice (some ⟨g,0,none⟩) on oc).ownBlock=some q) w6 (wr.setCell ⟨g,i,none⟩ (.int .i32 (IntKind.i32.wrap (L[i]+1)))).drew:=(Kept.setCell HKW.out ⟨g,i,none⟩ _ (λ_=>rfl)).drew;generalize (wr.setCell ⟨g,i,none⟩ (.int .i32 (IntKind.i32.wrap (L[i]+1)))).drew=wn at hm2 hk2⊢;generalize IntKind.i32.wrap (L[i]+1)=xv at hm2⊢;go_wp2_with fail;go_roundw
    case rel=>exact⟨i+1,hlt,by go_num,⟨L.set i xv,hm2⟩,hk2⟩
    case measure=>simp only [intOf];omega
   ·obtain rfl:i=on:=by omega
    have i1:=bC SE.out;have i2:=SE.out.lt;have NY:=J (show Ext w4 wr from jc.out.trans' HKW.out (λq hq e=>by have:=(Fx.out.lt q e).1;omega));have sU:=J (fZ.out.trans NY.out);have NQ:=J ((xG.out.ext NY.out).up NY.out.size (Nat.le_refl _));have xJ:=J (show(partOf p j).size<=256 from Nat.le_of_not_lt (λh=>uS.out ⟨j,wC.out,h⟩));have Nr:=J (show 1<=(dM p j).length/\(dM p j).length<=2048 from⟨by unfold dM;simp,Nat.le_trans (kP xJ.out) ak⟩);obtain⟨hin,bI,hA,OH,Fh⟩:=NQ.out.ins j wC.out;clear hlt;go_wp2_with fail;refine(Ai cb k _ NQ.out.box j wC.out bI 0 (dM p j) hin abL abL hA Fh).mono ?_;rintro e w8 ⟨vi,rfl,hoi,hyi⟩;obtain⟨gi,ci,rfl,hri,hgi,cur,hcur⟩:=gu hoi afj ak;have SA:=J (show aH w8 gi 77 cur from hcur)
    have ZU:=J (show(dM p j).length*4<=cur.size from by
     have h1:=hri.1;rw [bH SA.out,je]at h1
     simpa using h1)
    have HGI:=J hgi;have Kr:=J hyi;clear hin hA OH Fh hri hgi hoi hyi hcur;go_upto_region 19 with(fail);go_wp2_with fail
    go_loopw [25] (λt25 wr=>∃(q:Nat) (c2:Array Value),q<=(dM p j).length/\t25=.int .i64 (q:Int)/\aH wr gi 77 c2/\c2.size=cur.size/\Kept (·=gi) w8 wr) (λt25 _=>(dM p j).length - (intOf t25).toNat)
    case atStart=>exact⟨0,cur,Nat.zero_le _,rfl,SA.out,rfl,kR _ _⟩
    case round=>
     obtain⟨q,c2,hq,rfl,hb2,hs2,hkq⟩:=hrel;have HB2:=J hb2;have HS2:=J hs2;have Hu:=J hkq;clear hb2 hs2 hkq
     by_cases hlt:q<(dM p j).length
     ·have jd:(q:Int)<(dM p j).length:=by omega
      have l1:Proofs.YtbfbabbcdochjaaGreatDoor.has wr gi (q*4) 4=true:=by rw [bH HB2.out];have:=ZU.out;have:=HS2.out;exact decide_eq_true aj
      have l2:=aH.bF HB2.out;have l3:=HB2.out.lt;have hpi:q<=2048:=by have:=Nr.out;omega
      go_wp2_with fail;clear l1 l2 l3;go_roundw
      case rel=>exact⟨q+1,_,hlt,by go_num,aH.gL HB2.out _ _,by rw [AX (by have:=ZU.out;have:=HS2.out;simp;omega)];exact HS2.out,Kept.putAt Hu.out _ _ _ (λ_=>rfl)⟩
      case measure=>simp only [intOf];omega
     ·obtain rfl:q=(dM p j).length:=by omega
      clear hlt i1 i2 hon;have HYQ:=J (show Ext w4 wr from NY.out.trans (Kr.out.trans' Hu.out (λq hq e=>by have:=HGI.out;omega)));have Fy:=J (fZ.out.trans HYQ.out);have Bt:=J ((xG.out.ext HYQ.out).up HYQ.out.size (Nat.le_refl _));have adO:=J ((F7.out.ext (JV.out.trans HYQ.out)).mono (JV.out.trans HYQ.out).size);have adN:=J ((Fa.out.ext (JV.out.trans HYQ.out)).mono (JV.out.trans HYQ.out).size);have ajS:=J (HCV.out.ext HYQ.out);have ajT:=J (HDV.out.ext HYQ.out);go_wp2_with fail;refine(qy cb _ k p j wC.out ⟨svA,svn,svc⟩ ⟨saA,san,sac⟩ V Ar wr (Nat.le_refl _) Bt.out adO.out adN.out gD.out uS.out HST.out (HOW.out.ext Fy.out) tJ.out).mono ?_;rintro e w9 ⟨Gr,v,rfl,Fj⟩;have xu:=J Fj;have yb:=(kR (λ_=>False) w9).alloc (.cells v.c 38);have bb:=bN w9 38 v.c;have HV5:=J yb;have Fb:=J (Gr.trans yb);go_upto_region 24 with(fail);generalize (w9.alloc (.cells v.c 38))=wA at yb bb HV5 Fb⊢;generalize w9.heap.size=vb2 at bb⊢;have HB1:=J bb;have VP:=J (Fy.out.trans Fb.out);clear Gr Fj yb bb;have i1:=bH (HB.out.ext VP.out);have i2:=bG (HB.out.ext VP.out);have i3:=(HB.out.ext VP.out).lt;go_wp2_with fail;refine(rZ c p (j:Nat) ⟨svA,svn,svc⟩ ⟨saA,san,sac⟩ V Ar N wA.heap.size wA (Nat.le_trans dR.out VP.out.size) (Nat.le_refl _) (iY.out.ext VP.out dR.out) ((adO.out.ext Fb.out).mono Fb.out.size) ((adN.out.ext Fb.out).mono Fb.out.size) gD.out).mono ?_;rintro e wB ⟨hxB,ho⟩
      obtain⟨u,rfl,huo⟩:∃u,e=.returned (.tuple #[.agg u.c,.int .i64 0])/\jE wA wB u (vX j (iG p j V Ar)):=by
       cases ho with
       |bad h=>exact absurd tJ.out h
       |ok i hi h5 h0 u hu=>
        have:j=i:=by omega
        subst this;exact⟨u,rfl,hu⟩
      clear ho i1 i2 i3;have HUO:=J huo;have yb:=(kR (λ_=>False) wB).alloc (.cells u.c 42);have bb:=bN wB 42 u.c;have HU5:=J yb;have Ch:=J (hxB.trans yb);go_upto_region 25 with(fail);generalize (wB.alloc (.cells u.c 42))=w6 at yb bb HU5 Ch⊢;generalize wB.heap.size=ub at bb⊢;have HB2:=J bb;have NW:=J (VP.out.trans Ch.out);have adv:=J (HB1.out.ext Ch.out);have HYL:=J (Fb.out.trans Ch.out);clear hxB huo yb bb;have NT:=J (LQ gD.out wC.out tJ.out F7.out.2.1 Fa.out.2.1);refine gM (λwz=>Ext w6 wz) [(0,0),(1,2),(2,2),(3,2),(4,2),(5,2),(6,2),(7,2),(8,2),(9,2),(10,2),(11,2),(12,0),(13,2),(14,2),(15,2),(16,2),(17,0),(18,2),(19,2),(20,1),(22,1),(21,0),(23,0),(24,2),(25,2)] ?_;refine gN ?_;have yd:Ext w6 w6.drew:=(kR _ w6).drew
      (repeat first|refine cu ?_|refine dL yd zb8 ?_|refine dK yd ?_)
      (refine aC (λK hK=>?_);go_simp)
      go_wp2_with fail;refine(kN _ (pI.out.ext (NW.out.trans yd)) (HOW.out.ext (NW.out.trans yd))).mono ?_;rintro e wa ⟨rfl,hxa⟩;have ya:=yd.trans hxa;refine hK.out _ _ (λ_=>ya) ?_;clear hK K
      (repeat first|refine cu ?_|refine dL ya zb8 ?_|refine dK ya ?_)
      (refine aC (λK hK=>?_);go_simp)
      go_wp2_with fail;refine(kU ⟨svA,svn,svc⟩ ⟨cA,svn,cc⟩ V V _ _ _ (adO.out.ext (HYL.out.trans ya)) (ajS.out.ext (HYL.out.trans ya)) HFW.out.1).mono ?_;rintro e wb2 ⟨rfl,hxb⟩;rw [decide_eq_true (rfl:V=V)];have yb:=ya.trans hxb;refine hK.out _ _ (λ_=>yb) ?_;clear hK K
      (repeat first|refine cu ?_|refine dL yb zb8 ?_|refine dK yb ?_)
      (refine aC (λK hK=>?_);go_simp)
      go_wp2_with fail;refine(kU ⟨saA,san,sac⟩ ⟨dA,san,dc⟩ Ar Ar _ _ _ (adN.out.ext (HYL.out.trans yb)) (ajT.out.ext (HYL.out.trans yb)) HFW.out.2).mono ?_;rintro e wc2 ⟨rfl,hxc⟩;rw [decide_eq_true (rfl:Ar=Ar)];have yc:=yb.trans hxc;refine hK.out _ _ (λ_=>yc) ?_;clear hK K
      (repeat first|refine cu ?_|refine dL yc zb8 ?_|refine dK yc ?_)
      (refine aC (λK hK=>?_);go_simp)
      go_wp2_with fail;refine(mF v _).mono ?_;rintro e wd2 ⟨rfl,hxd⟩;have ye:=yc.trans hxd;refine hK.out _ _ (λ_=>ye) ?_;clear hK K
      (repeat first|refine cu ?_|refine dL ye zb8 ?_|refine dK ye ?_)
      (refine aC (λK hK=>?_);go_simp)
      go_wp2_with fail;refine(vw xu.out HUO.out (HV5.out.trans (Ch.out.trans ye)) (HU5.out.trans ye) NT.out).mono ?_;rintro e we2 ⟨rfl,hxe⟩;have yf:=ye.trans hxe;refine hK.out _ _ (λ_=>yf) ?_;clear hK K
      (repeat first|refine cu ?_|refine dL yf zb8 ?_|refine dK yf ?_)
      refine gI ?_;go_wp2_with fail;go_ret;exact⟨rfl,HX0.out.trans (NW.out.trans yf)⟩
open Go.RowKit Go.Deep Go.ChangeShapes Go.WideShapes So Mc
namespace compileAgain
theorem walk {H:Type} {enc:TypeId×Value->H} (W:World) (base:Nat) (v0 v1 v2:Value) (d0:DataW H) (p0:List MemPlace) (d1:DataW H) (p1:List MemPlace) (d2:DataW H) (p2:List MemPlace)
 (o0:Value.okWide prog W .any base 26 v0) (o1:Value.okWide prog W .any base 3 v1) (o2:Value.okWide prog W .any base 28 v2)
 (h0:DataW.Trod enc prog W 0 (λ_=>true) true 26 v0 d0 p0) (_h1:DataW.Trod enc prog W 0 (λ_=>true) true 3 v1 d1 p1) (h2:DataW.Trod enc prog W 0 (λ_=>true) true 28 v2 d2 p2) (hL:laidMetH prog Rows.compileAgainUptoRow.laid W)
 {gs:List (DataW H)} (hk:Rows.uptoSmall H ([d0,d1,d2]++gs)=true)
 (z0:light prog 26 d0) (_z1:light prog 3 d1) (z2:light prog 28 d2) (hS:W.ShapedOpen prog):
 Calls prog 9 #[v0,v1,v2] W λe w'=>e=.returned (.bool true)/\Ext W w':=by
 obtain⟨c,q,rfl,hp,hc,hs⟩:=yI o0 h0 z0;obtain⟨n,rfl⟩:=Iz o1;obtain⟨s,t,l,m,rfl,hm,hn⟩:=Cz o2 h2 z2;refine abR ?_;intro hk hLA hOA;exact O6 c q n s t l m W.heap.size W (Nat.le_refl _) hp hLA hOA hc aj hm hn
end compileAgain
end Go.Proofs.YtbfbabbcdochjaaGreatDoor
