/- Several texts joined: Lk, Ll, Ui, Uj, Uo, Us, Vq. -/
import Derived.ChangeMaps5
import Derived.Test.YtbfbabbcdochjaaGreatDoorRmpk
import Derived.Test.YtbfbabbcdochjaaGreatDoorRmaz
import Derived.Test.YtbfbabbcdochjaaGreatDoorRmbf
import Derived.Test.YtbfbabbcdochjaaGreatDoorRmbh
import Derived.Test.YtbfbabbcdochjaaGreatDoorRmbp
set_option maxHeartbeats 4000000
set_option maxRecDepth 100000
open Go.Proofs.Tryz
namespace Go.Proofs.YtbfbabbcdochjaaGreatDoor
open Go.RowKit So Mc
theorem mF (v:fU) (w:World):Calls prog 18 #[.agg v.c] w λe w'=>e=.returned (.agg v.c)/\Ext w w':=by
 have y0:=((kR (λ_=>False) w).alloc (.cells v.c 38)).alloc (.cells fu.c 42);have hB:=(bN w 38 v.c).alloc (.cells fu.c 42);have hD:=bN (w.alloc (.cells v.c 38)) 42 fu.c;go_enter func18,ntmps18;go_upto_region 1 with(fail);rw [show(w.alloc (.cells v.c 38)).heap.size=w.heap.size+1 by simp]at hD;generalize (w.alloc (.cells v.c 38)).alloc (.cells fu.c 42)=W at y0 hB hD⊢;have HY:=J y0;have HD:=J hD;generalize hpb:w.heap.size=pb at hB hD HD⊢;have lN:=J hpb;have i1:=bC hB;have i2:=hB.lt;have j1:=bH hD;have j2:=aH.bF hD;have j3:=hD.lt;clear y0 hB hD hpb;go_wp2_with fail;refine fD (t:=42) (g:=pb+1) (cs:=v.c) results18 rfl rfl iN BU (by exact aH.gL HD.out 0 _) ⟨rfl,?_⟩;exact HY.out.putAt _ _ _ (λhlt=>absurd hlt (by have:=lN.out;omega))
theorem Ej (v u:fU) (L A:List Int) (N M:Nat) (w:World) (h1:j5 w N v.vars L) (h2:j5 w M u.vars L) (h3:j5 w N v.asks A) (h4:j5 w M u.asks A) (hL:L.length<=100000) (hA:A.length<=100000)
 (e1:v.refused=u.refused) (e2:v.seat=u.seat) (e3:v.cell=u.cell) (e4:v.sides=u.sides) (e5:v.rest=u.rest):
 Calls prog 17 #[.agg v.c,.agg u.c] w λe w'=>e=.returned (.bool true)/\Ext w w':=by
 obtain⟨⟨vA,vn,vc⟩,vr,vs,vk,vd,⟨aA,an,ac⟩,vt⟩:=v;obtain⟨⟨uA,un,uc⟩,ur,us,uk,ud,⟨bA,bn,bc⟩,ut⟩:=u;simp only at e1 e2 e3 e4 e5;subst e1 e2 e3 e4 e5;have y0:=((kR (λ_=>False) w).alloc (.cells (fU.c ⟨⟨vA,vn,vc⟩,vr,vs,vk,vd,⟨aA,an,ac⟩,vt⟩) 42)).alloc (.cells (fU.c ⟨⟨uA,un,uc⟩,vr,vs,vk,vd,⟨bA,bn,bc⟩,vt⟩) 42);have hB:=(bN w 42 (fU.c ⟨⟨vA,vn,vc⟩,vr,vs,vk,vd,⟨aA,an,ac⟩,vt⟩)).alloc (.cells (fU.c ⟨⟨uA,un,uc⟩,vr,vs,vk,vd,⟨bA,bn,bc⟩,vt⟩) 42);have hD:=bN (w.alloc (.cells (fU.c ⟨⟨vA,vn,vc⟩,vr,vs,vk,vd,⟨aA,an,ac⟩,vt⟩) 42)) 42 (fU.c ⟨⟨uA,un,uc⟩,vr,vs,vk,vd,⟨bA,bn,bc⟩,vt⟩);go_enter func17,ntmps17;go_upto_region 1 with(fail);rw [show(w.alloc (.cells (fU.c ⟨⟨vA,vn,vc⟩,vr,vs,vk,vd,⟨aA,an,ac⟩,vt⟩) 42)).heap.size=w.heap.size+1 by simp]at hD;have H1:=J (h1.ext y0);have H2:=J (h2.ext y0);have H3:=J (h3.ext y0);have H4:=J (h4.ext y0);generalize (w.alloc (.cells (fU.c ⟨⟨vA,vn,vc⟩,vr,vs,vk,vd,⟨aA,an,ac⟩,vt⟩) 42)).alloc (.cells (fU.c ⟨⟨uA,un,uc⟩,vr,vs,vk,vd,⟨bA,bn,bc⟩,vt⟩) 42)=W at y0 hB hD H1 H2 H3 H4⊢;generalize w.heap.size=pb at hB hD⊢;have HY:=J y0;have HB:=J hB;have HD:=J hD;have i1:=bC hB;have i2:=hB.lt;have j1:=bC hD;have j2:=hD.lt;clear y0 hB hD h1 h2 h3 h4;go_wp2_with fail;refine(kU ⟨vA,vn,vc⟩ ⟨uA,un,uc⟩ L L N M _ H1.out H2.out hL).mono ?_;rintro e w1 ⟨rfl,hx1⟩;have eH:=J hx1;have hD1:=HD.out.ext hx1;have hB1:=HB.out.ext hx1;clear i1 i2 j1 j2 hx1;have i1:=bC hB1;have i2:=hB1.lt;have j1:=bC hD1;have j2:=hD1.lt;clear hB1 hD1;rw [decide_eq_true (rfl:L=L)];go_wp2_with fail;refine(kU ⟨aA,an,ac⟩ ⟨bA,bn,bc⟩ A A N M _ (H3.out.ext eH.out) (H4.out.ext eH.out) hA).mono ?_;rintro e w2 ⟨rfl,hx2⟩;have eU:=J (eH.out.trans hx2);have hD1:=HD.out.ext eU.out;have hB1:=HB.out.ext eU.out;clear i1 i2 j1 j2 hx2;have i1:=bC hB1;have i2:=hB1.lt;have j1:=bC hD1;have j2:=hD1.lt;clear hB1 hD1;rw [decide_eq_true (rfl:A=A)];go_wp2_with fail;go_ret;exact⟨rfl,HY.out.trans eU.out⟩
theorem LQ {p:Pr} {i:Nat} {V Ar:List Int} (hk:tF p) (hi:i<5) (hf:dO p i V Ar=0) (hV:∀x∈V,au x) (hA:∀x∈Ar,au x):
 (∀x∈(vX i (iG p i V Ar)).vars,au x)/\(∀x∈(vX i (iG p i V Ar)).asks,au x)/\(vX i (iG p i V Ar)).vars.length<=100000/\(vX i (iG p i V Ar)).asks.length<=100000:=by
 have h:RInv p.vars p.seats (jI p i) (iG p i V Ar):=L6 (GR hk hi hf hV hA) (partOf p i);have h1:=h.kE;have h2:=h.lZ;have h3:=h.hs;have h4:∀x∈(iG p i V Ar).asks,au x:=λx hx=>by have:=h.Kw x hx;unfold au;omega
 unfold vX
 split
 ·exact⟨λx hx=>by simp at hx,λx hx=>by simp at hx,by simp,by simp⟩
 ·split
  ·exact⟨λx hx=>by simp at hx,λx hx=>by simp at hx,by simp,by simp⟩
  ·split
   ·exact⟨λx hx=>by simp at hx,h4,by simp,by show(iG p i V Ar).asks.length<=100000;omega⟩
   ·split<;>exact⟨h.J2,λx hx=>by simp at hx,by show(iG p i V Ar).vars.length<=100000;omega,by simp⟩
theorem vw {wv wu wa wb w:World} {v u:fU} {o:Ou} (hv:jE wv wa v o) (hu:jE wu wb u o) (ha:Ext wa w) (hb:Ext wb w) (ho:(∀x∈o.vars,au x)/\(∀x∈o.asks,au x)/\o.vars.length<=100000/\o.asks.length<=100000):
 Calls prog 17 #[.agg v.c,.agg u.c] w λe w'=>e=.returned (.bool true)/\Ext w w':=
 Ej v u o.vars o.asks w.heap.size w.heap.size w (j5.gy (bD hv.vars ha) ho.1) (j5.gy (bD hu.vars hb) ho.1) (j5.gy (bD hv.asks ha) ho.2.1) (j5.gy (bD hu.asks hb) ho.2.1) ho.2.2.1 ho.2.2.2
  (hv.refused.trans hu.refused.symm) (hv.seat.trans hu.seat.symm) (hv.cell.trans hu.cell.symm) (hv.sides.trans hu.sides.symm) (hv.rest.trans hu.rest.symm)
open Go.RowKit So Mc
theorem Yg (part:Int):∃j:Nat,j<5/\wrap64 ((IntKind.u64.wrap part).tmod 5)=(j:Int):=by
 have h0:0<=IntKind.u64.wrap part:=by rw [yN];omega
 have h1:(IntKind.u64.wrap part).tmod 5=IntKind.u64.wrap part%5:=Int.tmod_eq_emod_of_nonneg h0;refine⟨(IntKind.u64.wrap part%5).toNat,by omega,?_⟩;rw [h1];unfold wrap64
 omega
theorem O8 (c:Pc) (p:Pr) (part:Int) (s0 s1:jg) (V0 V1:List Int) (N:Nat) (w:World) (hN:N<=w.heap.size) (h:lT w N c p) (hL:fG w) (hO:OpsAt w) (hcap:J3 c) (hz:eT p<=1099511627776) (hv0:j5 w N s0 V0) (hv1:j5 w N s1 V1):
 Calls prog 3 #[.agg c.cells,.int .i64 part,.agg #[s0.v,s1.v]] w λe w'=>e=.returned (.bool true)/\Ext w w':=by
 have hx0:=((kR (λ_=>False) w).alloc (.cells c.cells 26)).alloc (.cells #[s0.v,s1.v] 28);have hB:=(bN w 26 c.cells).alloc (.cells #[s0.v,s1.v] 28);have hD:=bN (w.alloc (.cells c.cells 26)) 28 #[s0.v,s1.v];go_enter func3,ntmps3;go_upto_region 1 with(fail);have iY:=J (h.ext hx0 hN);have dR:=J (Nat.le_trans hN hx0.size);have pI:=J (hL.ext hx0);have HOW:=J (hO.ext hx0);have j4:=J (hv0.ext hx0);have qh:=J (hv1.ext hx0);have HCAP:=J hcap;have HZ:=J hz;rw [show(w.alloc (.cells c.cells 26)).heap.size=w.heap.size+1 by simp]at hD;generalize hW:(w.alloc (.cells c.cells 26)).alloc (.cells #[s0.v,s1.v] 28)=W at hx0 hB hD iY dR pI HOW j4 qh⊢;have HX0:=J hx0;have HB:=J hB;have HD:=J hD;clear hW hx0 hB hD h hN hL hO hcap hz hv0 hv1;generalize w.heap.size=pb at HB HD⊢;have i1:=bH HB.out;have i2:=bG HB.out;have i3:=HB.out.lt;go_wp2_with fail;refine(rQ c p N _ dR.out iY.out pI.out HZ.out).mono ?_;rintro e w1 ⟨hx1,hb⟩;have eH:=J hx1;clear hx1 i1 i2 i3
 cases hb with
 |no=>
  exact aci
 |ok hf hc hl hs cb k hk=>
  refine abV ?_;clear hf hc hl hs hk;intro HF HC uS HST HK gD i1 i2 i3;go_wp2_with fail;refine abO ?_;clear i1 i2 i3;intro w2 eU sQ;go_wp2_with fail;refine(kN w2 (pI.out.ext eU.out) (HOW.out.ext eU.out)).mono ?_;rintro e w3 ⟨rfl,hx3⟩;have iZ:=J (eU.out.trans hx3);have JO:=J ((sQ.out.ext hx3).up hx3.size (Nat.le_refl _));clear hx3;go_upto_region 5 with(fail);obtain⟨j,hj,hje⟩:=Yg part;rw [hje];have wC:=J hj;clear hje;have zm:=J (HB.out.ext iZ.out);have V8:=J (HD.out.ext iZ.out);have i1:=bH zm.out;have i2:=bG zm.out;have i3:=zm.out.lt;have i4:w3.cell? ⟨pb+1,0,none⟩=some (.slice s0.A s0.n s0.c):=bC V8.out 0;have i5:w3.cell? ⟨pb+1,1,none⟩=some (.slice s1.A s1.n s1.c):=bC V8.out 1;have i6:=V8.out.lt;go_wp2_with fail;refine(D5 c p j wC.out s0 s1 V0 V1 N w3 (Nat.le_trans dR.out iZ.out.size) (iY.out.ext iZ.out dR.out) (j4.out.ext iZ.out) (qh.out.ext iZ.out) gD.out).mono ?_;rintro e wf ⟨sv,sa,rfl,hov,hoa,RH⟩;have F7:=J (j5.gy hov (Ij j4.out.2.1));have Fa:=J (j5.gy hoa (Ii gD.out qh.out.2.1));have HXF:=J (iZ.out.trans RH);have tJ:=J (show dO p (j:Nat) (wM p j V0) (uj p j V1)=0 from DR gD.out hj V0 V1);have HKF:=J ((JO.out.ext RH).up RH.size (Nat.le_refl _));clear i1 i2 i3 i4 i5 i6 hov hoa RH;generalize wM p j V0=V at F7 tJ;generalize uj p j V1=Ar at Fa tJ;go_wp2_with fail;refine(qy cb wf.heap.size k p j wC.out sv sa V Ar wf (Nat.le_refl _) HKF.out F7.out Fa.out gD.out uS.out HST.out (HOW.out.ext HXF.out) tJ.out).mono ?_;rintro e w4 ⟨hx4,v,rfl,hv4⟩;have y5:=(kR (λ_=>False) w4).alloc (.cells v.c 38);have b5:=bN w4 38 v.c;have HYF:=J (hx4.trans y5);have Nz:=J hv4;have HZ5:=J y5;go_upto_region 7 with(fail);generalize (w4.alloc (.cells v.c 38))=w5 at y5 b5 HYF HZ5⊢;generalize w4.heap.size=ob at b5⊢;have nC:=J b5;have kg:=J (HXF.out.trans HYF.out);clear hx4 hv4 y5 b5;have HBK:=J (HB.out.ext kg.out);have i1:=bH HBK.out;have i2:=bG HBK.out;have i3:=HBK.out.lt;go_wp2_with fail;refine(rZ c p (j:Nat) sv sa V Ar N wf.heap.size w5 (Nat.le_trans dR.out kg.out.size) HYF.out.size (iY.out.ext kg.out dR.out) (F7.out.ext HYF.out) (Fa.out.ext HYF.out) gD.out).mono ?_;rintro e w6 ⟨hx6,ho⟩
  cases ho with
  |bad hne=>exact absurd tJ.out hne
  |ok i hi h5 h0 u hu=>
   obtain rfl:i=j:=by omega
   have y7:=(kR (λ_=>False) w6).alloc (.cells u.c 42);have b7:=bN w6 42 u.c;have HUO:=J hu;have jc:=J hx6;have HZ7:=J y7;clear hu hi h5 h0 i1 i2 i3;go_upto_region 8 with(fail);generalize (w6.alloc (.cells u.c 42))=w7 at y7 b7 HZ7⊢;generalize w6.heap.size=ub at b7⊢;have Fq:=J b7;have lX:=J (hx6.trans y7);have sU:=J (kg.out.trans (hx6.trans y7));have HV7:=J (nC.out.ext (hx6.trans y7));clear y7 b7 hx6;have nV:=J (LQ gD.out wC.out tJ.out F7.out.2.1 Fa.out.2.1);refine gM (λwz=>Ext w7 wz) [(0,2),(1,2),(2,2),(3,2),(4,1),(6,1),(5,0),(7,0),(8,2),(9,2)] ?_;refine gN ?_;have yd:Ext w7 w7.drew:=(kR _ w7).drew
   (repeat first|refine cu ?_|refine dL yd zb9 ?_|refine dK yd ?_)
   (refine aC (λK hK=>?_);go_simp)
   go_wp2_with fail;refine(mF v _).mono ?_;rintro e w8 ⟨rfl,Iy⟩;have y8:=yd.trans Iy;refine hK.out _ _ (λ_=>y8) ?_;clear hK K
   (repeat first|refine cu ?_|refine dL y8 zb9 ?_|refine dK y8 ?_)
   (refine aC (λK hK=>?_);go_simp)
   go_wp2_with fail;refine(vw Nz.out HUO.out (HZ5.out.trans (lX.out.trans y8)) (HZ7.out.trans y8) nV.out).mono ?_;rintro e w9 ⟨rfl,Gr⟩;have y9:=y8.trans Gr;refine hK.out _ _ (λ_=>y9) ?_;clear hK K;refine gI ?_;go_wp2_with fail;go_ret;exact⟨rfl,HX0.out.trans (sU.out.trans y9)⟩
open Go.RowKit So
theorem Roomy.set {c c':Pc} {k:Nat} (h:Roomy c (k+1)) (hc:∀j,(za c' j).n<=(za c j).n+1):Roomy c' k:=λj=>by
 have:=h j;have:=hc j
 omega
open Go.RowKit So
open Go.RowKit Go.Deep Go.ChangeShapes Go.WideShapes So
section
variable {H:Type} {enc:TypeId×Value->H} {P:Program} {w:World} {base:Nat} {held:Bool}
theorem kM {T E:TypeId} {fuel:Nat} {A:Option Addr} {n cap:Nat} {d:DataW H} {ps:List MemPlace} (hu:P.underlying T=some (.slice E)) (h:DataW.trod enc P w base (λ_=>true) held fuel T [.slice A n cap]=some (d,ps)) (hw:light P T d):
 n<=cap/\(A=none->cap=0)/\n*P.bytesOf E<=reachBytes:=by
 rcases DataW.trod_slice hu h with⟨hcs,_⟩|⟨a,len,cap',elems,rest,m,hfu,hcs,hx,_,hl,hm,hlen,hel,hsp,_⟩
 ·simp only [List.cons.injEq,Value.slice.injEq,and_true]at hcs
  obtain⟨rfl,rfl,rfl⟩:=hcs;exact⟨Nat.le_refl _,λ_=>rfl,by simp⟩
 ·simp only [List.cons.injEq,Value.slice.injEq,and_true]at hcs
  obtain⟨rfl,rfl,rfl⟩:=hcs;obtain⟨hd,-⟩:=Prod.mk.inj hx;subst hd;unfold light at hw;rw [DataW.weights]at hw;simp only [hu,List.all_cons,Bool.and_eq_true,decide_eq_true_eq,List.length_map]at hw;refine⟨hl,(λe=>nomatch e),Nat.le_trans (Nat.mul_le_mul_right _ ?_) hw.1⟩
  omega
end
section
variable {H:Type} {enc:TypeId×Value->H} {w:World} {base:Nat} {held:Bool}
theorem aao {fuel:Nat} {c:Pc} {d:DataW H} {ps:List MemPlace} (hh:Trd w base held enc fuel 26 c.cells.toList d ps):J3 c/\Roomy c 2:=by
 obtain⟨h,hw⟩:=hh;obtain⟨m,rfl,hcl,hf⟩:=fields_of underlying26 h hw;obtain⟨d3,p3,k3,l3⟩:=hf 3 _ rfl;have k3:DataW.trod enc prog w base (λ_=>true) held m 23 ((c.cells.toList.drop 3).take (prog.cellsOf 23))=some (d3,p3):=k3;rw [xV]at k3;have l3:light prog 23 d3:=l3;obtain⟨d4,p4,k4,l4⟩:=hf 4 _ rfl;have k4:DataW.trod enc prog w base (λ_=>true) held m 24 ((c.cells.toList.drop 4).take (prog.cellsOf 24))=some (d4,p4):=k4;rw [jv]at k4;have l4:light prog 24 d4:=l4;obtain⟨d5,p5,k5,l5⟩:=hf 5 _ rfl;have k5:DataW.trod enc prog w base (λ_=>true) held m 24 ((c.cells.toList.drop 5).take (prog.cellsOf 24))=some (d5,p5):=k5;rw [jv]at k5;have l5:light prog 24 d5:=l5;obtain⟨d6,p6,k6,l6⟩:=hf 6 _ rfl;have k6:DataW.trod enc prog w base (λ_=>true) held m 23 ((c.cells.toList.drop 6).take (prog.cellsOf 23))=some (d6,p6):=k6;rw [xV]at k6;have l6:light prog 23 d6:=l6;obtain⟨d7,p7,k7,l7⟩:=hf 7 _ rfl;have k7:DataW.trod enc prog w base (λ_=>true) held m 24 ((c.cells.toList.drop 7).take (prog.cellsOf 24))=some (d7,p7):=k7;rw [jv]at k7;have l7:light prog 24 d7:=l7;obtain⟨d9,p9,k9,l9⟩:=hf 9 _ rfl;have k9:DataW.trod enc prog w base (λ_=>true) held m 24 ((c.cells.toList.drop 9).take (prog.cellsOf 24))=some (d9,p9):=k9;rw [jv]at k9;have l9:light prog 24 d9:=l9;obtain⟨d10,p10,k10,l10⟩:=hf 10 _ rfl;have k10:DataW.trod enc prog w base (λ_=>true) held m 24 ((c.cells.toList.drop 10).take (prog.cellsOf 24))=some (d10,p10):=k10;rw [jv]at k10;have l10:light prog 24 d10:=l10;have q3:=kM underlying23 (show DataW.trod enc prog w base (λ_=>true) held m 23 [.slice c.vars.A c.vars.n c.vars.c]=_ from k3) l3;have q4:=kM underlying24 (show DataW.trod enc prog w base (λ_=>true) held m 24 [.slice c.start.A c.start.n c.start.c]=_ from k4) l4;have q5:=kM underlying24 (show DataW.trod enc prog w base (λ_=>true) held m 24 [.slice c.turn.A c.turn.n c.turn.c]=_ from k5) l5;have q6:=kM underlying23 (show DataW.trod enc prog w base (λ_=>true) held m 23 [.slice c.params.A c.params.n c.params.c]=_ from k6) l6;have q7:=kM underlying24 (show DataW.trod enc prog w base (λ_=>true) held m 24 [.slice c.play.A c.play.n c.play.c]=_ from k7) l7;have q9:=kM underlying24 (show DataW.trod enc prog w base (λ_=>true) held m 24 [.slice c.quiet.A c.quiet.n c.quiet.c]=_ from k9) l9;have q10:=kM underlying24 (show DataW.trod enc prog w base (λ_=>true) held m 24 [.slice c.pays.A c.pays.n c.pays.c]=_ from k10) l10;rw [WT]at q4 q5 q7 q9 q10;refine⟨⟨⟨q3.1,q3.2.1⟩,⟨q4.1,q4.2.1⟩,⟨q5.1,q5.2.1⟩,⟨q6.1,q6.2.1⟩,⟨q7.1,q7.2.1⟩,⟨q9.1,q9.2.1⟩,⟨q10.1,q10.2.1⟩⟩,λi=>?_⟩;have hrb:reachBytes=140737488351232:=rfl;rw [hrb]at q4 q5 q7 q9 q10
 match i with
 |0=>show c.start.n*112+2*112<=_;omega
 |1=>show c.turn.n*112+2*112<=_;omega
 |2=>show c.play.n*112+2*112<=_;omega
 |3=>show c.quiet.n*112+2*112<=_;omega
 |_+4=>show c.pays.n*112+2*112<=_;omega
end
open Go.RowKit Go.Deep Go.ChangeShapes Go.WideShapes So
section
variable {H:Type} {enc:TypeId×Value->H} {P:Program} {w:World} {base:Nat} {held:Bool}
theorem XZ {α:Type} (x:α) (ds:List α):(List.range ds.length).map (λi=>(ds[i]?).getD x)=ds:=
 List.ext_getElem aG (λi h1 h2=>by simp [List.getElem?_eq_getElem h2])
theorem rV {T E:TypeId} {sz fuel:Nat} {v:Value} {d:DataW H} {ps:List MemPlace} (hu:P.underlying T=some (.slice E)) (hsz:P.cellsOf E=sz) (hpos:0<sz) (h:DataW.trod enc P w base (λ_=>true) held fuel T [v]=some (d,ps)) (hw:light P T d):
 ∃(A:Option Addr) (b off len cap:Nat) (rs:List (List Value×DataW H)),v=.slice A len cap/\(0<len->A=some ⟨b,off,none⟩)/\rs.length=len/\(0<len->Row w b off (rs.map (·.1)).flatten)/\
  (∀r∈rs,r.1.length=sz/\∃n ps',n<fuel/\DataW.trod enc P w base (λ_=>true) held n E r.1=some (r.2,ps')/\light P E r.2)/\len*P.bytesOf E<=reachBytes/\Rows.uptoBulkAll (rs.map (·.2))<=Rows.uptoBulk d:=by
 rcases DataW.trod_slice hu h with⟨hcs,_⟩|⟨a,len,cap,elems,rest,n,hfu,hcs,hx,_,hl,hm,hlen,hel,hsp,_⟩
 ·simp at hcs
  exact⟨none,0,0,0,0,[],hcs,λh=>by omega,rfl,λh=>by omega,λ_ h=>by simp at h,by omega,by simp [Rows.uptoBulkAll]⟩
 ·simp at hcs
  obtain⟨hd,-⟩:=Prod.mk.inj hx;subst hd;unfold light at hw;rw [DataW.weights]at hw;simp only [hu,List.all_cons,List.all_append,Bool.and_eq_true,decide_eq_true_eq,List.length_map]at hw;obtain⟨hw1,hw2,-⟩:=hw;have hla:=qK hw2;rw [hsz]at hel;obtain⟨ds,hds⟩:∃ds,ds=elems.map (·.1):=⟨_,rfl⟩;have hdl:ds.length=len:=by rw [hds,List.length_map,hlen]
  have hch:∀i,∃cs,i<len->cs.length=sz/\(∃ps',DataW.trod enc P w base (λ_=>true) held n E cs=some ((ds[i]?).getD .nil,ps')/\light P E ((ds[i]?).getD .nil))/\∀j,j<sz->w.cell? ((a.add (i*sz)).add j)=cs[j]?:=λi=>by
   by_cases hil:i<len
   ·have hie:i<elems.length:=by rw [hlen];exact hil
    have he:=hel i hil;rw [List.getElem?_eq_getElem hie,Option.bind_eq_some_iff]at he;obtain⟨cs,hc,ht⟩:=he;obtain⟨_,hcl,hat⟩:=World.cells?_some hc;have hg:(ds[i]?).getD .nil=(elems[i]'hie).1:=by rw [hds,List.getElem?_map,List.getElem?_eq_getElem hie];rfl
    exact⟨cs,λ_=>⟨hcl,⟨(elems[i]'hie).2,by rw [hg];exact ht,by rw [hg];exact hla _ (List.mem_map.2 ⟨elems[i]'hie,List.getElem_mem _,rfl⟩)⟩,hat⟩⟩
   ·exact⟨[],λh=>absurd h hil⟩
  obtain⟨C,hC⟩:=Classical.axiomOfChoice hch
  have hsp:0<len->a=⟨a.block,a.off,none⟩:=λh0=>by
   exact ajG
  have hlen':∀cs∈(List.range len).map C,cs.length=sz:=λcs hcs=>by
   simp at hcs;obtain⟨i,hil,rfl⟩:=hcs;exact(hC i hil).1
  have hm1:((List.range len).map (λi=>(C i,(ds[i]?).getD (.nil:DataW H)))).map (·.1)=(List.range len).map C:=by rw [List.map_map];rfl
  have hm2:((List.range len).map (λi=>(C i,(ds[i]?).getD (.nil:DataW H)))).map (·.2)=ds:=by
   rw [List.map_map,<-hdl];exact XZ _ ds
  refine⟨some a,a.block,a.off,len,cap,(List.range len).map (λi=>(C i,(ds[i]?).getD .nil)),hcs,λh=>by rw [<-hsp h],by simp,λh0=>?_,λr hr=>?_,?_,?_⟩
  ·rw [hm1]
   have hfl:=um _ hlen';exact ajk
  ·obtain⟨i,hi,rfl⟩:=List.mem_map.1 hr
   obtain⟨h1,⟨ps',h2,h3⟩,-⟩:=hC i (by simpa using hi);exact⟨h1,n,ps',by omega,h2,h3⟩
  ·refine Nat.le_trans (Nat.mul_le_mul_right _ ?_) hw1
   omega
  ·rw [hm2,hds,Rows.uptoBulk]
   omega
theorem rJ {fs:Array Field} {t:TypeId} {fuel:Nat} {cs:List Value} {d:DataW H} {ps:List MemPlace} (hu:P.underlying t=some (.struct fs)) (h:DataW.trod enc P w base (λ_=>true) held fuel t cs=some (d,ps)) (hw:light P t d):
 ∃n xs,fuel=n+1/\cs.length=P.cellsOf t/\d=.agg xs/\xs.length=fs.size/\∀(i:Nat) (f:Field),fs[i]?=some f->∃d' ps',xs[i]?=some d'/\DataW.trod enc P w base (λ_=>true) held n f.type ((cs.drop f.offset).take (P.cellsOf f.type))=some (d',ps')/\light P f.type d':=by
 obtain⟨xs,n,hfu,hx,hl,hxl,hf⟩:=DataW.trod_struct hu h;obtain⟨hd,-⟩:=Prod.mk.inj hx;subst hd;unfold light at hw;rw [DataW.weights]at hw;simp only [hu]at hw;refine⟨n,xs.map (·.1),hfu,hl,rfl,by rw [List.length_map,hxl],λi f hif=>?_⟩
 have hlt:i<xs.length:=by
  rw [hxl];exact(Array.getElem?_eq_some_iff.1 hif).1
 have h1:=hf i f hif;rw [List.getElem?_eq_getElem hlt]at h1;refine⟨xs[i].1,xs[i].2,by rw [List.getElem?_map,List.getElem?_eq_getElem hlt];rfl,h1,light_each hw i f.type xs[i].1 ?_ ?_⟩
 ·rw [List.getElem?_map,Array.getElem?_toList,hif];rfl
 ·rw [List.getElem?_map,List.getElem?_eq_getElem hlt];rfl
end
section
variable {H:Type} {enc:TypeId×Value->H} {w:World} {base:Nat} {held:Bool}
def acn (w:World) (cs:List Value) (s:Nat):Prop:=∃(op n:Int) (name:Str) (A:Option Addr) (cap:Nat) (F:EF),cs=(aI op n name A F.len cap).toList/\aL op/\aL n/\name.size<=maxLen/\g_ w w.heap.size A F.len F/\F.size+1<=s
theorem Rp:∀(rs:List (List Value×DataW H)) (_:∀r∈rs,acn w r.1 (Rows.uptoBulk r.2)) (b off:Nat) (_:0<rs.length->Row w b off (rs.map (·.1)).flatten),∃F:EF,F.len=rs.length/\mK w w.heap.size F b off/\F.size<=Rows.uptoBulkAll (rs.map (·.2))
 |[],_,_,_,_=>⟨.nil,rfl,trivial,Nat.zero_le _⟩
 |(cs,d)::r,h,b,off,hr=>by
  have hrow:=hr aG;rw [List.map_cons,List.flatten_cons]at hrow;obtain⟨op,n,name,A,cap,K,e,h1,h2,h3,h4,h5⟩:=h (cs,d) aG;obtain rfl:cs=(aI op n name A K.len cap).toList:=e;obtain⟨-,hf,b',off',hA,hE⟩:=h4;obtain⟨R,yB,hR2,Xt⟩:=Rp r (λx hx=>h x (by simp [hx])) b (off+4) (λ_=>hrow.tail);obtain⟨hh,hg⟩:=hrow.head;refine⟨.cons op n name K R,by simp [EF.len,yB],⟨hrow.lt,h1,h2,h3,⟨A,cap,b',off',hh,hg,hf,hA,hE⟩,hR2⟩,?_⟩;rw [List.map_cons,Rows.uptoBulkAll,EF.size];have h5:K.size+1<=Rows.uptoBulk d:=h5;show 1+K.size+R.size<=Rows.uptoBulk d+_
  omega
theorem TD:∀(fuel:Nat) (v:Value) (d:DataW H) (ps:List MemPlace),Trd w base held enc fuel 82 [v] d ps->∃A n cap F,v=.slice A n cap/\g_ w w.heap.size A n F/\F.size<=Rows.uptoBulk d:=by
 intro fuel
 induction fuel using Nat.strongRecOn with
 |ind fuel IH=>
  intro v d ps ⟨h,hw⟩;obtain⟨A,b,off,len,cap,rs,rfl,hA,hl,hr,hc,hb,hbk⟩:=rV underlying82 cellsE aj h hw
  have hok:∀r∈rs,acn w r.1 (Rows.uptoBulk r.2):=λr hrs=>by
   obtain⟨hcl,n,ps',hlt,ht,hw'⟩:=hc r hrs;obtain⟨cs,dd⟩:=r;obtain⟨m,xs,rfl,_,hdx,hxl,hf⟩:=rJ underlying84 ht hw';obtain⟨d0,p0,g0,k0,l0⟩:=hf 0 _ rfl;have k0:DataW.trod enc prog w base (λ_=>true) held m 3 ((cs.drop 0).take (prog.cellsOf 3))=some (d0,p0):=k0;rw [mR]at k0;refine Y6 ?_;intro d1 p1 g1 l1 k1;obtain⟨d2,p2,g2,k2,l2⟩:=hf 2 _ rfl;have k2:DataW.trod enc prog w base (λ_=>true) held m 9 ((cs.drop 2).take (prog.cellsOf 9))=some (d2,p2):=k2;rw [tZ]at k2;obtain⟨d3,p3,g3,k3,l3⟩:=hf 3 _ rfl;have k3:DataW.trod enc prog w base (λ_=>true) held m 82 ((cs.drop 3).take (prog.cellsOf 82))=some (d3,p3):=k3;rw [KG]at k3;have l3:light prog 82 d3:=l3;obtain⟨n0,e0,_,w0⟩:=DataW.trod_int underlying3 k0;obtain⟨n1,e1,_,w1⟩:=DataW.trod_int underlying3 k1;obtain⟨s2,e2,_,w2⟩:=DataW.trod_string underlying9 k2;have hxl:xs.length=4:=hxl
   match cs,hcl,xs,hxl with
   |[c0,c1,c2,c3],_,[x0,x1,x2,x3],_=>
    simp at e0 e1 e2 k3 g3;subst e0 e1 e2 g3;obtain⟨A',n',cap',F,rfl,hE,hS⟩:=IH m aj c3 x3 p3 ⟨k3,l3⟩;have hn:=hE.1;subst hn;refine⟨n0,n1,s2,A',cap',F,rfl,mJ w0,mJ w1,w2,hE,?_⟩;show F.size+1<=Rows.uptoBulk dd;rw [show dd=.agg [x0,x1,x2,x3]from hdx];simp only [Rows.uptoBulk,Rows.uptoBulkAll]
    omega
  obtain⟨F,hF1,hF2,hF3⟩:=Rp rs hok b off (λh0=>hr aj);rw [adT]at hb;exact⟨A,len,cap,F,rfl,⟨by omega,by unfold Fits;unfold reachBytes at hb;omega,b,off,hA,hF2⟩,Nat.le_trans hF3 hbk⟩
def acs (w:World) (cs:List Value) (s:Nat):Prop:=∃(kind:Int) (name:Str) (e:EF) (low high:Int) (l x:SF) (eA:Option Addr) (ec:Nat) (lA:Option Addr) (lc:Nat) (xA:Option Addr) (xc:Nat),cs=(aB kind name eA e.len ec low high lA l.len lc xA x.len xc).toList/\aL kind/\aL low/\aL high/\name.size<=maxLen/\g_ w w.heap.size eA e.len e/\iO w w.heap.size lA l.len l/\iO w w.heap.size xA x.len x/\e.size+l.size+x.size+1<=s
theorem Sb:∀(rs:List (List Value×DataW H)) (_:∀r∈rs,acs w r.1 (Rows.uptoBulk r.2)) (b off:Nat) (_:0<rs.length->Row w b off (rs.map (·.1)).flatten),∃F:SF,F.len=rs.length/\nk w w.heap.size F b off/\F.size<=Rows.uptoBulkAll (rs.map (·.2))
 |[],_,_,_,_=>⟨.nil,rfl,trivial,Nat.zero_le _⟩
 |(cs,d)::r,h,b,off,hr=>by
  have hrow:=hr aG;rw [List.map_cons,List.flatten_cons]at hrow;obtain⟨kind,name,e,low,high,l,x,eA,ec,lA,lc,xA,xc,q,h1,h2,h3,h4,h5,h6,h7,h8⟩:=h (cs,d) aG;obtain rfl:cs=(aB kind name eA e.len ec low high lA l.len lc xA x.len xc).toList:=q;obtain⟨-,f1,be,oe,a1,e1⟩:=h5;obtain⟨-,f2,bl,ol,a2,e2⟩:=h6;obtain⟨-,f3,bx,ox,a3,e3⟩:=h7;obtain⟨R,yB,hR2,Xt⟩:=Sb r (λy hy=>h y (by simp [hy])) b (off+7) (λ_=>hrow.tail);obtain⟨hh,hg⟩:=hrow.head;refine⟨.cons kind name e low high l x R,by simp [SF.len,yB],⟨hrow.lt,h1,h2,h3,h4,⟨eA,ec,lA,lc,xA,xc,be,oe,bl,ol,bx,ox,hh,hg,f1,f2,f3,a1,a2,a3,e1,e2,e3⟩,hR2⟩,?_⟩;rw [List.map_cons,Rows.uptoBulkAll,SF.size];have h8:e.size+l.size+x.size+1<=Rows.uptoBulk d:=h8;show 1+e.size+l.size+x.size+R.size<=Rows.uptoBulk d+_
  omega
theorem qR:∀(fuel:Nat) (v:Value) (d:DataW H) (ps:List MemPlace),Trd w base held enc fuel 24 [v] d ps->∃A n cap F,v=.slice A n cap/\iO w w.heap.size A n F/\F.size<=Rows.uptoBulk d:=by
 intro fuel
 induction fuel using Nat.strongRecOn with
 |ind fuel IH=>
  intro v d ps ⟨h,hw⟩;obtain⟨A,b,off,len,cap,rs,rfl,hA,hl,hr,hc,hb,hbk⟩:=rV underlying24 cellsS aj h hw
  have hok:∀r∈rs,acs w r.1 (Rows.uptoBulk r.2):=λr hrs=>by
   obtain⟨hcl,n,ps',hlt,ht,hw'⟩:=hc r hrs;obtain⟨cs,dd⟩:=r;obtain⟨m,xs,rfl,_,hdx,hxl,hf⟩:=rJ underlying86 ht hw';obtain⟨d0,p0,g0,k0,l0⟩:=hf 0 _ rfl;have k0:DataW.trod enc prog w base (λ_=>true) held m 3 ((cs.drop 0).take (prog.cellsOf 3))=some (d0,p0):=k0;rw [mR]at k0;obtain⟨d1,p1,g1,k1,l1⟩:=hf 1 _ rfl;have k1:DataW.trod enc prog w base (λ_=>true) held m 9 ((cs.drop 1).take (prog.cellsOf 9))=some (d1,p1):=k1;rw [tZ]at k1;obtain⟨d2,p2,g2,k2,l2⟩:=hf 2 _ rfl;have k2:DataW.trod enc prog w base (λ_=>true) held m 82 ((cs.drop 2).take (prog.cellsOf 82))=some (d2,p2):=k2;rw [KG]at k2;have l2:light prog 82 d2:=l2;obtain⟨d3,p3,g3,k3,l3⟩:=hf 3 _ rfl;have k3:DataW.trod enc prog w base (λ_=>true) held m 3 ((cs.drop 3).take (prog.cellsOf 3))=some (d3,p3):=k3;rw [mR]at k3;obtain⟨d4,p4,g4,k4,l4⟩:=hf 4 _ rfl;have k4:DataW.trod enc prog w base (λ_=>true) held m 3 ((cs.drop 4).take (prog.cellsOf 3))=some (d4,p4):=k4;rw [mR]at k4;obtain⟨d5,p5,g5,k5,l5⟩:=hf 5 _ rfl;have k5:DataW.trod enc prog w base (λ_=>true) held m 24 ((cs.drop 5).take (prog.cellsOf 24))=some (d5,p5):=k5;rw [jv]at k5;have l5:light prog 24 d5:=l5;obtain⟨d6,p6,g6,k6,l6⟩:=hf 6 _ rfl;have k6:DataW.trod enc prog w base (λ_=>true) held m 24 ((cs.drop 6).take (prog.cellsOf 24))=some (d6,p6):=k6;rw [jv]at k6;have l6:light prog 24 d6:=l6;obtain⟨n0,e0,_,w0⟩:=DataW.trod_int underlying3 k0;obtain⟨s1,e1,_,w1⟩:=DataW.trod_string underlying9 k1;obtain⟨n3,e3,_,w3⟩:=DataW.trod_int underlying3 k3;obtain⟨n4,e4,_,w4⟩:=DataW.trod_int underlying3 k4;have hxl:xs.length=7:=hxl
   match cs,hcl,xs,hxl with
   |[c0,c1,c2,c3,c4,c5,c6],_,[x0,x1,x2,x3,x4,x5,x6],_=>
    simp at e0 e1 e3 e4 k2 k5 k6 g2 g5 g6;subst e0 e1 e3 e4 g2 g5 g6;obtain⟨eA,en,ec,e,rfl,hE,z1⟩:=TD _ c2 x2 p2 ⟨k2,l2⟩;obtain⟨lA,ln,lc,l,rfl,hL,z2⟩:=IH m aj c5 x5 p5 ⟨k5,l5⟩;obtain⟨xA,xn,xc,x,rfl,hX,z3⟩:=IH m aj c6 x6 p6 ⟨k6,l6⟩;have q1:=hE.1;have q2:=hL.1;have q3:=hX.1;subst q1 q2 q3;refine⟨n0,s1,e,n3,n4,l,x,eA,ec,lA,lc,xA,xc,rfl,mJ w0,mJ w3,mJ w4,w1,hE,hL,hX,?_⟩;show e.size+l.size+x.size+1<=Rows.uptoBulk dd;rw [show dd=.agg [x0,x1,x2,x3,x4,x5,x6]from hdx];simp only [Rows.uptoBulk,Rows.uptoBulkAll]
    omega
  obtain⟨F,hF1,hF2,hF3⟩:=Sb rs hok b off (λh0=>hr aj);rw [WT]at hb;exact⟨A,len,cap,F,rfl,⟨by omega,by unfold Fits;unfold reachBytes at hb;omega,b,off,hA,hF2⟩,Nat.le_trans hF3 hbk⟩
theorem G6:∀(rs:List (List Value×DataW H)),(∀r∈rs,(∃v:Vr,N8 v/\r.1=(aJ v).toList)/\1<=Rows.uptoBulk r.2)->∃l:List Vr,l.length=rs.length/\(∀v∈l,N8 v)/\(rs.map (·.1)).flatten=aR aJ l/\l.length<=Rows.uptoBulkAll (rs.map (·.2))
 |[],_=>⟨[],rfl,by simp,rfl,Nat.zero_le _⟩
 |(c,d)::r,h=>by
  obtain⟨⟨i,hi,e⟩,h1⟩:=h (c,d) aG;obtain rfl:c=(aJ i).toList:=e;obtain⟨l,hl,ho,he,hs⟩:=G6 r (λcs hcs=>h cs (by simp [hcs]));refine⟨i::l,by simp [hl],by simp;exact⟨hi,ho⟩,by rw [List.map_cons,List.flatten_cons,he];rfl,?_⟩;rw [List.map_cons,Rows.uptoBulkAll,List.length_cons];have h1:1<=Rows.uptoBulk d:=h1;show _<=Rows.uptoBulk d+_
  omega
theorem Sl {fuel:Nat} {v:Value} {d:DataW H} {ps:List MemPlace} (hh:Trd w base held enc fuel 23 [v] d ps):∃A n cap l,v=.slice A n cap/\tL w w.heap.size A n l/\l.length<=Rows.uptoBulk d:=by
 obtain⟨h,hw⟩:=hh;obtain⟨A,b,off,len,cap,rs,rfl,hA,hl,hr,hc,hb,hbk⟩:=rV underlying23 aap aj h hw
 obtain⟨l,hll,ho,he,hs⟩:=G6 rs (λr hrs=>by
  obtain⟨hcl,n,ps',hlt,ht,hw'⟩:=hc r hrs;obtain⟨cs,dd⟩:=r;obtain⟨m,xs,rfl,_,hdx,hxl,hf⟩:=rJ underlying66 ht hw';obtain⟨d0,p0,g0,k0,l0⟩:=hf 0 _ rfl;have k0:DataW.trod enc prog w base (λ_=>true) held m 9 ((cs.drop 0).take (prog.cellsOf 9))=some (d0,p0):=k0;rw [tZ]at k0;refine Y6 ?_;intro d1 p1 g1 l1 k1;obtain⟨d2,p2,g2,k2,l2⟩:=hf 2 _ rfl;have k2:DataW.trod enc prog w base (λ_=>true) held m 3 ((cs.drop 2).take (prog.cellsOf 3))=some (d2,p2):=k2;rw [mR]at k2;obtain⟨d3,p3,g3,k3,l3⟩:=hf 3 _ rfl;have k3:DataW.trod enc prog w base (λ_=>true) held m 3 ((cs.drop 3).take (prog.cellsOf 3))=some (d3,p3):=k3;rw [mR]at k3;obtain⟨s0,e0,_,w0⟩:=DataW.trod_string underlying9 k0;obtain⟨n1,e1,_,w1⟩:=DataW.trod_int underlying3 k1;obtain⟨n2,e2,_,w2⟩:=DataW.trod_int underlying3 k2;obtain⟨n3,e3,_,w3⟩:=DataW.trod_int underlying3 k3
  match cs,hcl with
  |[c0,c1,c2,c3],_=>
   simp at e0 e1 e2 e3;subst e0 e1 e2 e3;refine⟨⟨⟨s0,n1,n2,n3⟩,⟨w0,mJ w1,mJ w2,mJ w3⟩,rfl⟩,?_⟩;show 1<=Rows.uptoBulk dd;rw [show dd=.agg xs from hdx,Rows.uptoBulk]
   omega)
 rw [adV]at hb;exact⟨A,len,cap,l,rfl,⟨by omega,by unfold Fits;unfold reachBytes at hb;omega,ho,b,off,hA,λh0=>⟨(hr h0).lt,he▸hr h0⟩⟩,Nat.le_trans hs hbk⟩
theorem Yh {fuel:Nat} {cs:List Value} {d:DataW H} {ps:List MemPlace} (hh:Trd w base held enc fuel 26 cs d ps):∃(c:Pc) (p:Pr),cs=c.cells.toList/\lT w w.heap.size c p/\eT p<=Rows.uptoBulk d:=by
 obtain⟨h,hw⟩:=hh;obtain⟨m,xs,rfl,hcl,hdx,hxl,hf⟩:=rJ underlying26 h hw;rw [aeg]at hcl;obtain⟨d0,p0,g0,k0,l0⟩:=hf 0 _ rfl;have k0:DataW.trod enc prog w base (λ_=>true) held m 9 ((cs.drop 0).take (prog.cellsOf 9))=some (d0,p0):=k0;rw [tZ]at k0;refine Y6 ?_;intro d1 p1 g1 l1 k1;obtain⟨d2,p2,g2,k2,l2⟩:=hf 2 _ rfl;have k2:DataW.trod enc prog w base (λ_=>true) held m 22 ((cs.drop 2).take (prog.cellsOf 22))=some (d2,p2):=k2;rw [WY]at k2;have l2:light prog 22 d2:=l2;obtain⟨d3,p3,g3,k3,l3⟩:=hf 3 _ rfl;have k3:DataW.trod enc prog w base (λ_=>true) held m 23 ((cs.drop 3).take (prog.cellsOf 23))=some (d3,p3):=k3;rw [xV]at k3;have l3:light prog 23 d3:=l3;obtain⟨d4,p4,g4,k4,l4⟩:=hf 4 _ rfl;have k4:DataW.trod enc prog w base (λ_=>true) held m 24 ((cs.drop 4).take (prog.cellsOf 24))=some (d4,p4):=k4;rw [jv]at k4;have l4:light prog 24 d4:=l4;obtain⟨d5,p5,g5,k5,l5⟩:=hf 5 _ rfl;have k5:DataW.trod enc prog w base (λ_=>true) held m 24 ((cs.drop 5).take (prog.cellsOf 24))=some (d5,p5):=k5;rw [jv]at k5;have l5:light prog 24 d5:=l5;obtain⟨d6,p6,g6,k6,l6⟩:=hf 6 _ rfl;have k6:DataW.trod enc prog w base (λ_=>true) held m 23 ((cs.drop 6).take (prog.cellsOf 23))=some (d6,p6):=k6;rw [xV]at k6;have l6:light prog 23 d6:=l6;obtain⟨d7,p7,g7,k7,l7⟩:=hf 7 _ rfl;have k7:DataW.trod enc prog w base (λ_=>true) held m 24 ((cs.drop 7).take (prog.cellsOf 24))=some (d7,p7):=k7;rw [jv]at k7;have l7:light prog 24 d7:=l7;obtain⟨d8,p8,g8,k8,l8⟩:=hf 8 _ rfl;have k8:DataW.trod enc prog w base (λ_=>true) held m 9 ((cs.drop 8).take (prog.cellsOf 9))=some (d8,p8):=k8;rw [tZ]at k8;obtain⟨d9,p9,g9,k9,l9⟩:=hf 9 _ rfl;have k9:DataW.trod enc prog w base (λ_=>true) held m 24 ((cs.drop 9).take (prog.cellsOf 24))=some (d9,p9):=k9;rw [jv]at k9;have l9:light prog 24 d9:=l9;obtain⟨d10,p10,g10,k10,l10⟩:=hf 10 _ rfl;have k10:DataW.trod enc prog w base (λ_=>true) held m 24 ((cs.drop 10).take (prog.cellsOf 24))=some (d10,p10):=k10;rw [jv]at k10;have l10:light prog 24 d10:=l10;obtain⟨s0,e0,_,w0⟩:=DataW.trod_string underlying9 k0;obtain⟨n1,e1,_,w1⟩:=DataW.trod_int underlying3 k1;obtain⟨s8,e8,_,w8⟩:=DataW.trod_string underlying9 k8;have hxl:xs.length=11:=hxl
 match cs,hcl,xs,hxl with
 |[c0,c1,c2,c3,c4,c5,c6,c7,c8,c9,c10],_,[x0,x1,x2,x3,x4,x5,x6,x7,x8,x9,x10],_=>
  simp at e0 e1 e8 k2 k3 k4 k5 k6 k7 k9 k10 g2 g3 g4 g5 g6 g7 g9 g10;subst e0 e1 e8 g2 g3 g4 g5 g6 g7 g9 g10;obtain⟨A2,q2,r2,y2,rfl,h2⟩:=aaK ⟨k2,l2⟩;obtain⟨A3,q3,r3,y3,rfl,h3,z3⟩:=Sl ⟨k3,l3⟩;obtain⟨A4,q4,r4,y4,rfl,h4,z4⟩:=qR _ c4 x4 p4 ⟨k4,l4⟩;obtain⟨A5,q5,r5,y5,rfl,h5,z5⟩:=qR _ c5 x5 p5 ⟨k5,l5⟩;obtain⟨A6,q6,r6,y6,rfl,h6,z6⟩:=Sl ⟨k6,l6⟩;obtain⟨A7,q7,r7,y7,rfl,h7,z7⟩:=qR _ c7 x7 p7 ⟨k7,l7⟩;obtain⟨A9,q9,r9,y9,rfl,h9,z9⟩:=qR _ c9 x9 p9 ⟨k9,l9⟩;obtain⟨A10,q10,UC,Sq,rfl,h10,z10⟩:=qR _ c10 x10 p10 ⟨k10,l10⟩
  refine⟨⟨s0,n1,⟨A2,q2,r2⟩,⟨A3,q3,r3⟩,⟨A4,q4,r4⟩,⟨A5,q5,r5⟩,⟨A6,q6,r6⟩,⟨A7,q7,r7⟩,s8,⟨A9,q9,r9⟩,⟨A10,q10,UC⟩⟩,⟨s0,n1,y2,y3,y4,y5,y6,y7,s8,y9,Sq⟩,rfl,
   ⟨rfl,w0,rfl,mJ w1,h2,h3,h4,h5,h6,h7,rfl,w8,h9,h10⟩,?_⟩
  rw [hdx];simp only [Rows.uptoBulk,Rows.uptoBulkAll,eT]
  omega
end
theorem yI {H:Type} {enc:TypeId×Value->H} {W:World} {base:Nat} {v:Value} {d:DataW H} {p:List MemPlace} (o:Value.okWide prog W .any base 26 v) (h:DataW.Trod enc prog W 0 (λ_=>true) true 26 v d p) (z:light prog 26 d):
 ∃(c:Pc) (q:Pr),v=.agg c.cells/\lT W W.heap.size c q/\J3 c/\eT q<=Rows.uptoBulk d:=by
 obtain⟨cs,rfl⟩:∃cs,v=.agg cs:=by
  simp only [Value.okWide,underlying26]at o;obtain⟨cs,h1,_⟩:=o;exact⟨cs,h1⟩
 obtain⟨fuel,hf⟩:=h;obtain⟨c,q,e,hp,hs⟩:=Yh ⟨hf,z⟩;have hf2:DataW.trod enc prog W 0 (λ_=>true) true fuel 26 c.cells.toList=some (d,p):=e▸hf;obtain⟨hc,hr⟩:=aao ⟨hf2,z⟩;refine⟨c,q,?_,hp,hc,hs⟩
 cases cs
 simpa [Value.cells]using e
open Go.RowKit Go.Deep Go.ChangeShapes Go.WideShapes So Mc
section
variable {H:Type} {enc:TypeId×Value->H} {w:World} {base:Nat} {held:Bool}
theorem WW:prog.cellsOf 21=1:=by kernel_rfl
theorem WX:prog.cellsOf 27=1:=by kernel_rfl
theorem GD:∀(css:List (List Value)),(∀cs∈css,∃n:Int,au n/\cs=[.int .i32 n])->∃l:List Int,l.length=css.length/\(∀i∈l,au i)/\css.flatten=aM l
 |[],_=>⟨[],rfl,by simp,rfl⟩
 |c::r,h=>by
  obtain⟨i,hi,rfl⟩:=h c aG;obtain⟨l,hl,ho,he⟩:=GD r (λcs hcs=>h cs (by simp [hcs]));exact⟨i::l,by simp [hl],by simp;exact⟨hi,ho⟩,by rw [List.flatten_cons,he];rfl⟩
theorem mem_of {fuel:Nat} {v:Value} {d:DataW H} {ps:List MemPlace} (h:DataW.trod enc prog w base (λ_=>true) held fuel 27 [v]=some (d,ps)) (hw:light prog 27 d):
 ∃(s:jg) (l:List Int),v=s.v/\j5 w w.heap.size s l:=by
 obtain⟨A,b,off,len,cap,rs,rfl,hA,hl,hr,hc,-,-⟩:=rV underlying27 WW aj h hw
 obtain⟨l,hll,ho,he⟩:=GD (rs.map (·.1)) (λcs hcs=>by
  obtain⟨r,hr,rfl⟩:=List.mem_map.1 hcs;obtain⟨_,n,ps',_,ht,_⟩:=hc r hr;obtain⟨k,e,_,wf⟩:=DataW.trod_int underlying21 ht;exact⟨k,by simpa [Lit.wf,IntKind.min,IntKind.max,IntKind.signed,IntKind.bits,au]using wf,e⟩)
 rw [List.length_map]at hll;exact⟨⟨A,len,cap⟩,l,rfl,show len=l.length by omega,ho,b,off,hA,λh0=>⟨(hr h0).lt,he▸hr h0⟩⟩
theorem Cz {v:Value} {d:DataW H} {ps:List MemPlace} (o:Value.okWide prog w .any base 28 v) (h:DataW.Trod enc prog w 0 (λ_=>true) held 28 v d ps) (hw:light prog 28 d):
 ∃(s t:jg) (l m:List Int),v=.agg #[s.v,t.v]/\j5 w w.heap.size s l/\j5 w w.heap.size t m:=by
 obtain⟨cs,rfl⟩:∃cs,v=.agg cs:=by
  simp only [Value.okWide,underlying28]at o;obtain⟨cs,h1,_⟩:=o;exact⟨cs,h1⟩
 obtain⟨fuel,hf⟩:=h;obtain⟨xs,m,_,hx,hl,hxl,hz⟩:=DataW.trod_array underlying28 hf;obtain⟨hd,-⟩:=Prod.mk.inj hx;subst hd;unfold light at hw;rw [DataW.weights]at hw;simp only [underlying28]at hw
 match xs,hxl with
 |[x0,x1],_=>
  have g0:=hz 0 aj;have g1:=hz 1 aj;rw [WX]at g0 g1;have hl2:(Value.agg cs).cells.toList.length=2:=hl;simp only [Value.cells]at g0 g1 hl2;have hsz:cs.size=2:=by simpa using hl2
  obtain⟨a,b,rfl⟩:∃a b,cs=#[a,b]:=by
   obtain⟨l⟩:=cs
   match l,hsz with
   |[a,b],_=>exact⟨a,b,rfl⟩
  have l0:light prog 27 x0.1:=qK (E:=27) (l:=[x0.1,x1.1]) (by first|exact hw|exact hw.2|simpa using hw) _ aG;have l1:light prog 27 x1.1:=qK (E:=27) (l:=[x0.1,x1.1]) (by first|exact hw|exact hw.2|simpa using hw) _ aG;obtain⟨s,l,rfl,hs⟩:=mem_of (d:=x0.1) (ps:=x0.2) (v:=a) (by simpa using g0) l0;obtain⟨t,m',rfl,ht⟩:=mem_of (d:=x1.1) (ps:=x1.2) (v:=b) (by simpa using g1) l1;exact⟨s,t,l,m',rfl,hs,ht⟩
end
end Go.Proofs.YtbfbabbcdochjaaGreatDoor
