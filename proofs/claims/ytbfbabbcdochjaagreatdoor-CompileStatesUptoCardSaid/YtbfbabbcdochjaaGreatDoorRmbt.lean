/- Several texts joined: Jz, Cv, Na, Nb, Lo, Vw. -/
import Derived.Test.YtbfbabbcdochjaaGreatDoorRmpk
import Derived.Test.YtbfbabbcdochjaaGreatDoorRmbj
import Derived.Test.YtbfbabbcdochjaaGreatDoorRmbk
import Derived.Test.YtbfbabbcdochjaaGreatDoorRmbq
import Derived.Test.YtbfbabbcdochjaaGreatDoorRmbr
set_option maxHeartbeats 4000000
set_option maxRecDepth 100000
open Go.Proofs.Tryz
namespace Go.Proofs.YtbfbabbcdochjaaGreatDoor
open Go.RowKit So Mc
open Go.RowKit So Mc
def Rg:List Vr->List Int->Prop
 |[],L=>L=[]
 |v::r,L=>(So.dD v).toNat<=L.length/\(∀j,j<(So.dD v).toNat->v.low<=L.getD j 0/\L.getD j 0<=v.high)/\Rg r (L.drop (So.dD v).toNat)
theorem Rg.len:∀{V:List Vr} {L:List Int},Rg V L->(L.length:Int)=cells V
 |[],L,h=>by
  have h:L=[]:=h;rw [h];rfl
 |v::r,L,h=>by
  obtain⟨h1,-,h2⟩:=h;have:=h2.len;have:=jV v;rw [List.length_drop]at*;simp only [cells]
  omega
theorem Rg.firsts:∀{V:List Vr},(∀v∈V,v.low<=v.high)->Rg V (firsts V)
 |[],_=>rfl
 |v::r,h=>by
  have hv:=h v aG;refine⟨by simp [Proofs.YtbfbabbcdochjaaGreatDoor.firsts],λj hj=>?_,?_⟩
  ·have e:(Proofs.YtbfbabbcdochjaaGreatDoor.firsts (v::r)).getD j 0=min (max 0 v.low) v.high:=by
    show(List.replicate (So.dD v).toNat (min (max 0 v.low) v.high)++Proofs.YtbfbabbcdochjaaGreatDoor.firsts r).getD j 0=_;rw [zM _ _ _ (by simpa using hj)];simp [List.getD,hj]
   rw [e]
   omega
  ·show Rg r ((List.replicate (So.dD v).toNat (min (max 0 v.low) v.high)++Proofs.YtbfbabbcdochjaaGreatDoor.firsts r).drop (So.dD v).toNat)
   rw [List.drop_left' aG];exact Rg.firsts (λu hu=>h u (by simp [hu]))
theorem Rg.set:∀{V:List Vr} {L:List Int} {s:Str} {k x:Int},Rg V L->V.any (λv=>decide (v.name=s))=true->0<=k->k<So.dD (aD V s)->(aD V s).low<=x->x<=(aD V s).high->Rg V (L.set (aS V s+k).toNat x)
 |[],L,s,k,x,_,ha,_,_,_,_=>by simp at ha
 |v::r,L,s,k,x,h,ha,h0,h1,h2,h3=>by
  obtain⟨q1,q2,q3⟩:=h;have hvp:=jV v;unfold aS;rw [if_pos ha]
  by_cases e:v.name=s
  ·have e1:decide (v.name=s)=true:=decide_eq_true e
   have hx:aD (v::r) s=v:=by simp only [aD,List.find?_cons,e1,Option.getD_some]
   rw [hx]at h1 h2 h3;simp only [List.takeWhile_cons,e1,Bool.not_true,Bool.false_eq_true,if_false,cells,Int.zero_add];refine⟨by rw [List.length_set];exact q1,λj hj=>?_,?_⟩
   ·have:=q2 j hj
    by_cases ej:j=k.toNat
    ·subst ej
     have:(L.set k.toNat x).getD k.toNat 0=x:=by simp [List.getD,show k.toNat<L.length by omega]
     rw [this];exact⟨h2,h3⟩
    ·have:(L.set k.toNat x).getD j 0=L.getD j 0:=by simp [List.getD,Ne.symm ej]
     rw [this]
     assumption
   ·rw [List.drop_set,if_pos aj]
    exact q3
  ·have e1:decide (v.name=s)=false:=decide_eq_false e
   have hr:r.any (λv=>decide (v.name=s))=true:=by simpa [e]using ha
   have hx:aD (v::r) s=aD r s:=by simp only [aD,List.find?_cons,e1]
   rw [hx]at h1 h2 h3;have ih:=Rg.set q3 hr h0 h1 h2 h3;have hc:aS r s=cells (r.takeWhile (λv=>!decide (v.name=s))):=by unfold aS;rw [if_pos hr]
   rw [hc]at ih;simp only [List.takeWhile_cons,e1,Bool.not_false,if_true,cells];have hcp:=dS (r.takeWhile (λv=>!decide (v.name=s)));generalize cells (r.takeWhile (λv=>!decide (v.name=s)))=y at ih hcp⊢;have e2:(So.dD v+y+k).toNat=(So.dD v).toNat+(y+k).toNat:=by omega
   rw [e2];refine⟨by rw [List.length_set];exact q1,λj hj=>?_,?_⟩
   ·have:(L.set ((So.dD v).toNat+(y+k).toNat) x).getD j 0=L.getD j 0:=by simp [List.getD,show¬(So.dD v).toNat+(y+k).toNat=j by omega]
    rw [this];exact q2 j hj
   ·rw [List.drop_set,if_neg aj,Nat.add_sub_cancel_left]
    exact ih
theorem Rg.cell:∀{V:List Vr} {L:List Int},Rg V L->∀(j:Nat) (hj:j<V.length) (m:Nat),m<(So.dD V[j]).toNat->(cells (V.take j)).toNat+m<L.length/\V[j].low<=L.getD ((cells (V.take j)).toNat+m) 0/\L.getD ((cells (V.take j)).toNat+m) 0<=V[j].high
 |[],_,_,j,hj,_,_=>by simp at hj
 |v::r,L,h,0,_,m,hm=>by
  obtain⟨q1,q2,-⟩:=h;have hm:m<(So.dD v).toNat:=hm;have e:(cells ((v::r).take 0)).toNat+m=m:=by simp [cells]
  rw [e];exact⟨by omega,q2 m hm⟩
 |v::r,L,h,j+1,hj,m,hm=>by
  obtain⟨q1,-,q3⟩:=h;have hj':j<r.length:=by simpa using hj
  obtain⟨i1,i2,i3⟩:=Rg.cell q3 j hj' m hm
  have e:(cells ((v::r).take (j+1))).toNat+m=(So.dD v).toNat+((cells (r.take j)).toNat+m):=by
   have:=jV v;have:=dS (r.take j);simp only [List.take_succ_cons,cells]
   omega
  rw [e];have g:L.getD ((So.dD v).toNat+((cells (r.take j)).toNat+m)) 0=(L.drop (So.dD v).toNat).getD ((cells (r.take j)).toNat+m) 0:=by simp [List.getD]
  rw [List.length_drop]at i1;rw [g];exact⟨by omega,i2,i3⟩
open Go.RowKit So Mc
theorem Rg.ok:∀{V:List Vr} {L:List Int},Rg V L->(∀v∈V,au v.low/\au v.high)->∀x∈L,au x
 |[],L,h,_,x,hx=>by
  have h:L=[]:=h;rw [h]at hx;simp at hx
 |v::r,L,h,hv,x,hx=>by
  obtain⟨h1,h2,h3⟩:=h;rw [<-List.take_append_drop (So.dD v).toNat L]at hx
  rcases List.mem_append.1 hx with q|q
  ·obtain⟨j,hj,e⟩:=List.mem_iff_getElem.1 q
   rw [List.length_take]at hj;have a:=h2 j aj;have b:=hv v aG;rw [List.getElem_take]at e;have e2:L.getD j 0=x:=by rw [<-e];simp [show j<L.length by omega]
   rw [e2]at a;unfold au at*
   omega
  ·exact Rg.ok h3 (λu hu=>hv u (by simp [hu])) x q
open Go.RowKit So Mc
theorem ahB {F M:World->Nat->Nat->Nat->Nat->Nat->Nat->Prop} {G:Prop} (h:(∀W a b c d e f,F W a b c d e f->M W a b c d e f)->G) (h2:∀W a b c d e f,F W a b c d e f->M W a b c d e f):G:=h h2
open Go.RowKit So Mc
theorem Oq (g n cap:Nat) (l:List Ins) (words:Nat) (hw:1<=words/\words<=256) (hn:n=l.length) (hl:1<=l.length/\l.length<=2048) (hr:ND l words) (w:World) (hrow:Row w g 0 (fV l)) (hops:OpsAt w):
 Calls prog 32 #[.slice (some ⟨g,0,none⟩) n cap,.int .i64 words] w λe w'=>e=.returned (.tuple #[.int .i64 (-1),.int .i64 0])/\Ext w w':=by
 have HRW:=J hrow;have nQ:=J hops;have ng:=J hr;have HN:=J hn;have g1:decide ((words:Int)<1)=false:=decide_eq_false aj;have g2:decide ((256:Int)<words)=false:=decide_eq_false aj;have g3:decide ((n:Int)<1)=false:=decide_eq_false aj;have g4:decide ((2048:Int)<n)=false:=decide_eq_false aj;have hn2:n<=2048:=by omega
 clear hrow hops hr hn hl hw;go_enter func32,ntmps32;go_upto_region 4 with(fail);clear g1 g2 g3 g4
 go_loopw [26] (λt26 wr=>∃j:Nat,j<=n/\t26=.int .i64 (j:Int)/\Ext w wr) (λt26 _=>n - (intOf t26).toNat)
 case atStart=>exact⟨0,Nat.zero_le _,rfl,kR _ _⟩
 case round=>
  obtain⟨j,hj,rfl,hx⟩:=hrel;have HX:=J hx;clear hx
  by_cases hlt:j<n
  ·have jd:(j:Int)<n:=by omega
   have hjl:j<l.length:=by have:=HN.out;omega
   have hrj:=HRW.out.ext HX.out;obtain⟨u1,u2⟩:=hrj.ins j hjl;rw [Nat.zero_add]at u1 u2;have u3:=hrj.lt;have HIN:=J (ng.out l[j] (List.getElem_mem hjl));rw [<-HN.out]at HIN;generalize l[j]=i at u2 HIN;have y0:=(kR (λ_=>False) wr).alloc (.cells i.cells 77);have b0:=bN wr 77 i.cells;go_upto_region 6 with(fail);generalize (wr.alloc (.cells i.cells 77))=W1 at y0 b0⊢;generalize wr.heap.size=bb at b0⊢;have i1:=bH b0;have i2:=bG b0;have i3:=b0.lt;have HY:=J (HX.out.trans y0);clear u1 u2 u3 hrj y0 b0;go_wp2_with fail;refine(Mc.DX i n words _ (nQ.out.ext HY.out)).mono ?_;rintro e w2 ⟨rfl,hx2⟩;rw [HIN.out];clear i1 i2 i3;go_wp2_with fail;go_roundw
   case rel=>exact⟨j+1,hlt,by go_num,HY.out.trans hx2⟩
   case measure=>simp only [intOf];omega
  ·obtain rfl:j=n:=by omega
   go_wp2_with fail
   go_ret2
   exact⟨rfl,HX.out⟩
theorem LK (c:Pc) (p:Pr) (part:Int) (s0 s1:jg) (V0 V1:List Int) (N:Nat) (w:World) (hN:N<=w.heap.size) (h:lT w N c p) (hL:fG w) (hO:OpsAt w) (hcap:J3 c) (hz:eT p<=1099511627776) (hv0:j5 w N s0 V0) (hv1:j5 w N s1 V1):
 Calls prog 10 #[.agg c.cells,.int .i64 part,.agg #[s0.v,s1.v]] w λe w'=>e=.returned (.bool true)/\Ext w w':=by
 have hx0:=((kR (λ_=>False) w).alloc (.cells c.cells 26)).alloc (.cells #[s0.v,s1.v] 28);have hB:=(bN w 26 c.cells).alloc (.cells #[s0.v,s1.v] 28);have hD:=bN (w.alloc (.cells c.cells 26)) 28 #[s0.v,s1.v];go_enter func10,ntmps10;go_upto_region 1 with(fail);have iY:=J (h.ext hx0 hN);have dR:=J (Nat.le_trans hN hx0.size);have pI:=J (hL.ext hx0);have HOW:=J (hO.ext hx0);have j4:=J (hv0.ext hx0);have qh:=J (hv1.ext hx0);have HCAP:=J hcap;have HZ:=J hz;rw [show(w.alloc (.cells c.cells 26)).heap.size=w.heap.size+1 by simp]at hD;generalize hW:(w.alloc (.cells c.cells 26)).alloc (.cells #[s0.v,s1.v] 28)=W at hx0 hB hD iY dR pI HOW j4 qh⊢;have HX0:=J hx0;have HB:=J hB;have HD:=J hD;clear hW hx0 hB hD h hN hL hO hcap hz hv0 hv1;generalize w.heap.size=pb at HB HD⊢;have i1:=bH HB.out;have i2:=bG HB.out;have i3:=HB.out.lt;go_wp2_with fail;refine(rQ c p N _ dR.out iY.out pI.out HZ.out).mono ?_;rintro e w1 ⟨hx1,hb⟩;have eH:=J hx1;clear hx1 i1 i2 i3
 cases hb with
 |no=>
  exact aci
 |ok hf hc hl hs cb k hk=>
  refine abV ?_;clear hf hc hl hs hk;intro HF HC uS HST HK gD i1 i2 i3;go_wp2_with fail;refine abO ?_;clear i1 i2 i3;intro w2 eU sQ;go_upto_region 5 with(fail);obtain⟨j,hj,hje⟩:=Yg part;rw [hje];have wC:=J hj;clear hje;have zm:=J (HB.out.ext eU.out);have V8:=J (HD.out.ext eU.out);have i1:=bH zm.out;have i2:=bG zm.out;have i3:=zm.out.lt;have i4:w2.cell? ⟨pb+1,0,none⟩=some (.slice s0.A s0.n s0.c):=bC V8.out 0;have i5:w2.cell? ⟨pb+1,1,none⟩=some (.slice s1.A s1.n s1.c):=bC V8.out 1;have i6:=V8.out.lt;go_wp2_with fail;refine(D5 c p j wC.out s0 s1 V0 V1 N w2 (Nat.le_trans dR.out eU.out.size) (iY.out.ext eU.out dR.out) (j4.out.ext eU.out) (qh.out.ext eU.out) gD.out).mono ?_;rintro e wf ⟨sv,sa,rfl,hov,hoa,RH⟩;have F7:=J (j5.gy hov (Ij j4.out.2.1));have Fa:=J (j5.gy hoa (Ii gD.out qh.out.2.1));have HXF:=J (eU.out.trans RH);have tJ:=J (show dO p (j:Nat) (wM p j V0) (uj p j V1)=0 from DR gD.out hj V0 V1);have HKF:=J ((sQ.out.ext RH).up RH.size (Nat.le_refl _));clear i1 i2 i3 i4 i5 i6 hov hoa RH hj;generalize wM p j V0=V at F7 tJ;generalize uj p j V1=Ar at Fa tJ;have xJ:=J (show(partOf p j).size<=256 from Nat.le_of_not_lt (λh=>uS.out ⟨j,wC.out,h⟩));have nV:=J (wL (V:=V) (Ar:=Ar) tJ.out gD.out F7.out.2.1 Fa.out.2.1);have Q6:=J (qL (V:=V) (Ar:=Ar) tJ.out gD.out)
  have HWN:=J (show(1<=bO p/\bO p<=256)/\k.cells+49=(bO p:Nat)/\0<=k.cells/\k.cells<=1000 from by
   have h1:=HK.out.kc;have h2:=dS p.vars;have h3:=gD.out.cells;unfold bO
   omega)
  have Nr:=J (show 1<=(dM p j).length/\(dM p j).length<=2048 from⟨by unfold dM;simp,Nat.le_trans (kP xJ.out) ak⟩);obtain⟨hin,bI,hA,OH,Fh⟩:=HKF.out.ins j wC.out;go_wp2_with fail;refine(Ai cb k _ HKF.out.box j wC.out bI 0 (dM p j) hin abL abL hA Fh).mono ?_;rintro e wi ⟨vi,rfl,hoi,hyi⟩;obtain⟨gi,ci,rfl,hri,hgi,-⟩:=gu hoi afj ak;have HRI:=J hri;have HYI:=J hyi;have qg:=J ((HKF.out.ext hyi).up hyi.size (Nat.le_refl _));clear hin hA OH Fh hri hgi hoi hyi;go_wp2_with fail;refine(rF cb wi.heap.size k p j sv sa V Ar wi (Nat.le_refl _) qg.out ((F7.out.ext HYI.out).mono HYI.out.size) ((Fa.out.ext HYI.out).mono HYI.out.size) gD.out).mono ?_;rintro e w6 ⟨hx6,ho⟩
  cases ho with
  |bad hne=>exact absurd tJ.out hne
  |ok h0 g hg hbg=>
   have y7:=(kR (λ_=>False) w6).alloc (.cells #[.int .i64 0,.slice (some ⟨g,0,none⟩) (bO p) (bO p),.int .i64 0] 49);have b7:=bN w6 49 #[.int .i64 0,.slice (some ⟨g,0,none⟩) (bO p) (bO p),.int .i64 0];have HG7:=J (hbg.ext y7);have lX:=J (HYI.out.trans (hx6.trans y7));have E9:=J (HRI.out.ext (hx6.trans y7));have NQ:=J ((qg.out.ext (hx6.trans y7)).up (hx6.trans y7).size (Nat.le_refl _));go_upto_region 8 with(fail);generalize (w6.alloc (.cells #[.int .i64 0,.slice (some ⟨g,0,none⟩) (bO p) (bO p),.int .i64 0] 49))=w7 at y7 b7 HG7 lX E9 NQ⊢;generalize (w6:World).heap.size=sb at b7⊢;have HS7:=J b7;have sU:=J (HXF.out.trans lX.out);have hyy:=hx6.trans y7;clear h0 hg hbg y7 b7 hx6;go_wp2_with fail;refine(rG cb k _ NQ.out.box HWN.out.2.2).mono ?_;rintro e w8 ⟨rfl,rfl⟩;rw [HWN.out.2.1];go_wp2_with fail;refine(Oq gi _ ci (dM p j) (bO p) HWN.out.1 rfl Nr.out (Aj gD.out j wC.out) _ E9.out (HOW.out.ext sU.out)).mono ?_;rintro e w8 ⟨rfl,Iy⟩;have Kr:=J Iy;have HX8:=J (sU.out.trans Iy);have HS8:=J (HS7.out.ext Iy);have Ac:=J ((NQ.out.ext Iy).up Iy.size (Nat.le_refl _));have hcl:=Nr.out;clear Iy;go_upto_region 9 with(fail);refine gM (λwz=>Ext w8 wz) [(0,2),(1,2),(2,2),(3,2),(4,2),(5,2),(6,2),(7,2),(8,2),(9,2),(10,2),(11,2),(12,2),(13,2),(14,1),(15,2),(16,2),(17,0),(18,2),(19,2),(20,2),(21,2),(22,1),(23,2),(24,2)] ?_;refine gN ?_;have yd:Ext w8 w8.drew:=(kR _ w8).drew;have q1:decide ((-1:Int)≥((dM p j).length:Nat))=false:=decide_eq_false aj
   (repeat first|refine cu ?_|refine dL yd aiu ?_|refine dK yd ?_)
   (refine aC (λK hK=>?_);go_simp)
   go_wp2_with fail;refine(rG cb k _ (Ac.out.box.ext yd) HWN.out.2.2).mono ?_;rintro e wz ⟨rfl,rfl⟩;rw [HWN.out.2.1];refine hK.out _ _ (λ_=>yd) ?_;clear hK K
   (repeat first|refine cu ?_|refine dL yd aiu ?_|refine dK yd ?_)
   refine gI ?_;have Y9:=J (Kr.out.trans yd);have zw:=J (HX8.out.trans yd);have HS9:=J (HS8.out.ext yd);have HK9:=J ((Ac.out.ext yd).up yd.size (Nat.le_refl _));have HG9:=J (HG7.out.ext Y9.out);have HR9:=J (E9.out.ext Y9.out);have adL:=J (HOW.out.ext zw.out);have HWF:=J (HYI.out.trans (hyy.trans Y9.out));have HV9:=J (F7.out.ext (HYI.out.trans (hyy.trans Y9.out)));have HA9:=J (Fa.out.ext (HYI.out.trans (hyy.trans Y9.out)));generalize w8.drew=w9 at yd Y9 zw HS9 HK9 HG9 HR9 adL HV9 HA9 HWF⊢;clear yd q1 hcl;obtain⟨pc,m,hls,hci⟩:=R7 gD.out j wC.out (HST.out j wC.out) tJ.out F7.out.2.1 Fa.out.2.1;have Br:=J hci;have HSD:iJ p j V Ar=(pc,(if (iG p j V Ar).refused then 2 else 1),m):=hls;obtain⟨sh,hsh⟩:∃sh:Int,sh=(if (iG p j V Ar).refused then 2 else 1):=⟨_,rfl⟩;rw [<-hsh]at hls;have HSH:=J (show(sh==0)=false/\¬sh=0/\(sh=0∨sh=1∨sh=2)from by rw [hsh];split<;>decide);have ako:=J hsh;have HIT:=J (show jU (dM p j) (bB p j) (0,0,iT p j V Ar)=(pc,sh,m)from hls)
   have HOL:=J (show(∀x∈m,au x)/\m.length=bO p from by
    have h9:=mE (part:=j) tJ.out gD.out xJ.out F7.out.2.1 Fa.out.2.1;rw [HSD]at h9;exact⟨h9.1.vQ,h9.2⟩)
   clear hls hsh HSD hci;go_upto_region 11 with(fail);apply ahB (F:=λW gi ci q g5 c5 b=>Ext w9 W/\q<=bB p j/\aH W b 49 (aN pc (some ⟨g5,0,none⟩) (bO p) c5 sh)/\Row W g5 0 (aM m)/\bO p<=c5)
   case h=>
    intro jr;have KEY:=J jr;clear jr;refine Uz (λwz=>Ext w9 wz) (.op 0 2 (.op 1 1 (.op 2 2 (.op 3 2 (.fork 4 (.fork 5 (.op 6 2 (.op 7 2 (.op 8 2 (.op 9 2 (.op 10 0 (.op 11 0 (.op 12 2 (.op 13 2 .nil)))))))) 10 (.op 5 0 (.op 6 2 (.op 7 2 (.op 8 2 (.op 9 2 (.op 11 0 (.op 12 2 (.op 13 2 .nil))))))))) 10 (.op 4 0 (.op 5 0 (.op 6 2 (.op 7 2 (.op 8 2 (.op 9 2 (.op 11 0 (.op 12 2 (.op 13 2 .nil)))))))))))))) ?_;refine UA ?_;have yd:Ext w9 w9.drew:=(kR _ w9).drew
    (repeat (first|refine zS ?_|((apply ig);(· exact yd);(· go_simp);(· (intro w1 hS;have d0:=bX HS9.out hS;have d1:=bH d0;have d2:=bG d0;have d3:=d0.lt;go_simp;try with_reducible rfl));refine tO ?_)|((apply h_);(· exact yd);(· go_simp);refine tO ?_)))
    have hml:=Q6.out;have hcl:=Nr.out;have hit:=HIT.out;have ahh:=HSH.out.1;have LA:=HK9.out.most j wC.out;generalize w9.drew=wd at yd⊢;refine iE ?_ ?_
    ·skip
     (refine dz (λK hK=>?_);go_simp)
     go_wp2_with fail;refine(zI cb k _ (HK9.out.box.ext yd) j wC.out).mono ?_;rintro e wz ⟨rfl,rfl⟩;rw [LA];refine hK.out _ _ (λ_=>yd) ?_;clear hK K;refine iE ?_ ?_
     ·skip
      (refine dz (λK hK=>?_);go_simp)
      go_wp2_with fail;have hrun:=Mc.r_ (some ⟨gi,0,none⟩) gi 0 (dM p j).length ci (dM p j) 0 0 g 0 (bO p) (bO p) (iT p j V Ar) (bB p j) (by have:=HST.out j wC.out;omega) wd ⟨adL.out.ext yd,λ_=>rfl,λ_=>(HR9.out.ext yd),rfl,by omega,hml.symm,by rw [<-hml];exact nV.out.right,nV.out.vQ,(aH.row HG9.out).ext yd⟩;simp only [hit,ahh,Bool.not_false]at hrun;refine hrun.mono ?_;clear hrun;rintro e w5 ⟨v5,q5,rfl,VY,g5,c5,rfl,yZ,y5⟩;have yr:=(yd).trans y5;refine hK.out _ _ (λ_=>yr) ?_;clear hK K;refine m_ ?_;intro K hK;have yl:Ext w9 (w5.alloc (.cells #[.int .i64 0,.slice none 0 0,.int .i64 0] 49)):=(yr).alloc _;refine hK.out _ _ (λ_=>yl) ?_;clear hK K;have bb:=bN w5 49 #[.int .i64 0,.slice none 0 0,.int .i64 0];have xl:Ext w5 (w5.alloc (.cells #[.int .i64 0,.slice none 0 0,.int .i64 0] 49)):=(kR _ w5).alloc _;generalize (w5.alloc (.cells #[.int .i64 0,.slice none 0 0,.int .i64 0] 49))=wl at yl bb xl⊢;generalize hbn:(w5:World).heap.size=bn at bb⊢;have agD:w9.heap.size<=bn:=by rw [<-hbn];exact(yr).size
      have l1:=bH bb;have l2:=aH.bF bb;have l3:=(bb).lt;refine LY ?_;have ks:Kept (·=bn) wl (putAt wl bn 0 (aN pc (some ⟨g5,0,none⟩) (bO p) c5 sh)):=Kept.putAt (kR _ _) _ 0 _ (λ_=>rfl);have ye:Ext w9 (putAt wl bn 0 (aN pc (some ⟨g5,0,none⟩) (bO p) c5 sh)):=Kept.trans' yl ks (λi hi e=>by omega);have be:aH (putAt wl bn 0 (aN pc (some ⟨g5,0,none⟩) (bO p) c5 sh)) bn 49 (aN pc (some ⟨g5,0,none⟩) (bO p) c5 sh):=aH.gL bb 0 _;have me:=(yZ.ext xl).kept ks (λe=>by have:=yZ.lt;omega);clear l1 l2 l3 ks;generalize (putAt wl bn 0 (aN pc (some ⟨g5,0,none⟩) (bO p) c5 sh))=we at ye be me⊢;exact adg
     ·skip
      refine aiH ?_;intro wl yl xl bn hbn bb;have agD:w9.heap.size<=bn:=by rw [<-hbn];exact(yd).size
      exact aiP
    ·skip
     refine aiH ?_;intro wl yl xl bn hbn bb;have agD:w9.heap.size<=bn:=by rw [<-hbn];exact(yd).size
     (refine dz (λK hK=>?_);go_simp)
     go_wp2_with fail;refine(zI cb k _ (HK9.out.box.ext yl) j wC.out).mono ?_;rintro e wz ⟨rfl,rfl⟩;rw [LA];refine hK.out _ _ (λ_=>yl) ?_;clear hK K;exact aiP
   intro W0 gx cx q g5 c5 sb2 h0;obtain⟨y0,hq0,hb0,hr0,hcap0⟩:=h0;have HW0:=J y0;have HQ0:=J hq0;have HB0:=J hb0;have lQ:=J hr0;have ajR:=J hcap0;have akt:=J (zw.out.trans y0);have ady:=J ((HK9.out.ext y0).up y0.size (Nat.le_refl _));clear y0 hq0 hb0 hr0 hcap0;have d1:=bH HB0.out;have d2:=bG HB0.out;have d3:=HB0.out.lt;go_upto_region 12 with(fail);go_wp2_with fail;refine(og cb _ k p j (by have:=wC.out;omega) pc sh HSH.out.2.2 g5 c5 m HOL.out.2 ajR.out HOL.out.1 _ lQ.out (Nat.le_refl _) ady.out gD.out).mono ?_;rintro e w1 ⟨hx1,ho⟩
   obtain⟨v,rfl,qH⟩:∃v,e=.returned (.tuple #[.agg v.c,.int .i64 0])/\jE W0 w1 v (vX j (iG p j V Ar)):=by
    cases ho with
    |runs h=>exact absurd h HSH.out.2.1
    |ok h v hv=>exact⟨v,rfl,by rw [<-RZ gD.out j Br.out,<-ako.out];exact hv⟩
   clear ho d1 d2 d3;have Nz:=J qH;have yb:=(kR (λ_=>False) w1).alloc (.cells v.c 38);have bb:=bN w1 38 v.c;have HV5:=J yb;have Fb:=J (hx1.trans yb);go_upto_region 13 with(fail);generalize (w1.alloc (.cells v.c 38))=w2 at yb bb HV5 Fb⊢;generalize w1.heap.size=vb at bb⊢;have HB1:=J bb;have agd:=J (akt.out.trans Fb.out);have afR:=J ((ady.out.ext Fb.out).up Fb.out.size (Nat.le_refl _));clear hx1 qH yb bb;go_wp2_with fail;refine(qy cb _ k p j wC.out sv sa V Ar w2 (Nat.le_refl _) afR.out ((HV9.out.ext (HW0.out.trans Fb.out)).mono (HWF.out.trans (HW0.out.trans Fb.out)).size) ((HA9.out.ext (HW0.out.trans Fb.out)).mono (HWF.out.trans (HW0.out.trans Fb.out)).size) gD.out uS.out HST.out (HOW.out.ext agd.out) tJ.out).mono ?_;rintro e w3 ⟨hx3,u,rfl,huo⟩;have HUO:=J huo;have yb:=(kR (λ_=>False) w3).alloc (.cells u.c 38);have bb:=bN w3 38 u.c;have HU5:=J yb;have Ch:=J (hx3.trans yb);go_upto_region 14 with(fail);generalize (w3.alloc (.cells u.c 38))=w4 at yb bb HU5 Ch⊢;generalize w3.heap.size=ub at bb⊢;have HB2:=J bb;have aku:=J (agd.out.trans Ch.out);have afS:=J ((afR.out.ext Ch.out).up Ch.out.size (Nat.le_refl _));have adM:=J (HS9.out.ext (HW0.out.trans (Fb.out.trans Ch.out)));have ajX:=J (HG9.out.ext (HW0.out.trans (Fb.out.trans Ch.out)));clear hx3 huo yb bb;have d1:=bH adM.out;have d2:=bG adM.out;have d3:=adM.out.lt;go_wp2_with fail;refine(og cb _ k p j (by have:=wC.out;omega) 0 0 (.inl rfl) g (bO p) (iT p j V Ar) Q6.out (Nat.le_refl _) nV.out.vQ _ (aH.row ajX.out) (Nat.le_refl _) afS.out gD.out).mono ?_;rintro e w5 ⟨hx5,ho⟩
   obtain rfl:e=.returned (.tuple #[.agg fu.c,.int .i64 10]):=by
    cases ho with
    |runs h=>rfl
    |ok h v hv=>exact absurd rfl h
   clear ho d1 d2 d3;have yb:=(kR (λ_=>False) w5).alloc (.cells fu.c 38);have HYD:=J (hx5.trans yb);go_upto_region 15 with(fail);generalize (w5.alloc (.cells fu.c 38))=w6 at yb HYD⊢;generalize w5.heap.size=zb at⊢;have NW:=J (aku.out.trans HYD.out);have ajZ:=J (afS.out.box.ext HYD.out);have adv:=J (HB1.out.ext (Ch.out.trans HYD.out));have ajO:=J (HB2.out.ext HYD.out);clear hx5 yb;have NT:=J (LQ gD.out wC.out tJ.out F7.out.2.1 Fa.out.2.1);have g9:decide ((q:Int)<=(bB p j:Nat))=true:=decide_eq_true (by have:=HQ0.out;omega);have g10:q<=bB p j:=HQ0.out;have LA:=HK9.out.most j wC.out;refine gM (λwz=>Ext w6 wz) [(0,0),(1,2),(2,2),(3,2),(4,2),(5,2),(6,2),(7,2),(8,0),(9,2),(10,2),(11,2),(12,2),(13,2),(14,2),(15,2),(16,2),(17,2),(18,2),(19,2),(20,1),(22,1),(21,0),(23,0),(24,0),(25,2),(26,2),(27,2),(28,2),(29,2),(30,2)] ?_;refine gN ?_;have yd:Ext w6 w6.drew:=(kR _ w6).drew
   (repeat first|refine cu ?_|refine dL yd zb7 ?_|refine dK yd ?_)
   (refine aC (λK hK=>?_);go_simp)
   go_wp2_with fail;refine(kN _ (pI.out.ext (NW.out.trans yd)) (HOW.out.ext (NW.out.trans yd))).mono ?_;rintro e wa ⟨rfl,hxa⟩;have ya:=yd.trans hxa;refine hK.out _ _ (λ_=>ya) ?_;clear hK K
   (repeat first|refine cu ?_|refine dL ya zb7 ?_|refine dK ya ?_)
   (refine aC (λK hK=>?_);go_simp)
   go_wp2_with fail;refine(zI cb k _ (ajZ.out.ext ya) j wC.out).mono ?_;rintro e wz ⟨rfl,rfl⟩;rw [LA];refine hK.out _ _ (λ_=>ya) ?_;clear hK K
   (repeat first|refine cu ?_|refine dL ya zb7 ?_|refine dK ya ?_)
   (refine aC (λK hK=>?_);go_simp)
   go_wp2_with fail;refine(mF v _).mono ?_;rintro e wb ⟨rfl,hxb⟩;have yb:=ya.trans hxb;refine hK.out _ _ (λ_=>yb) ?_;clear hK K
   (repeat first|refine cu ?_|refine dL yb zb7 ?_|refine dK yb ?_)
   (refine aC (λK hK=>?_);go_simp)
   go_wp2_with fail;refine(mF u _).mono ?_;rintro e wc ⟨rfl,hxc⟩;have yc:=yb.trans hxc;refine hK.out _ _ (λ_=>yc) ?_;clear hK K
   (repeat first|refine cu ?_|refine dL yc zb7 ?_|refine dK yc ?_)
   (refine aC (λK hK=>?_);go_simp)
   go_wp2_with fail;refine(vw Nz.out HUO.out (HV5.out.trans (Ch.out.trans (HYD.out.trans yc))) (HU5.out.trans (HYD.out.trans yc)) NT.out).mono ?_;rintro e we ⟨rfl,hxe⟩;have ye:=yc.trans hxe;refine hK.out _ _ (λ_=>ye) ?_;clear hK K
   (repeat first|refine cu ?_|refine dL ye zb7 ?_|refine dK ye ?_)
   refine gI ?_;go_wp2_with fail;go_ret;exact⟨rfl,HX0.out.trans (NW.out.trans ye)⟩
open Go.RowKit Go.Deep Go.ChangeShapes Go.WideShapes So Mc
namespace compileStates
theorem walk {H:Type} {enc:TypeId×Value->H} (W:World) (base:Nat) (v0 v1 v2:Value) (d0:DataW H) (p0:List MemPlace) (d1:DataW H) (p1:List MemPlace) (d2:DataW H) (p2:List MemPlace)
 (o0:Value.okWide prog W .any base 26 v0) (o1:Value.okWide prog W .any base 3 v1) (o2:Value.okWide prog W .any base 28 v2)
 (h0:DataW.Trod enc prog W 0 (λ_=>true) true 26 v0 d0 p0) (_h1:DataW.Trod enc prog W 0 (λ_=>true) true 3 v1 d1 p1) (h2:DataW.Trod enc prog W 0 (λ_=>true) true 28 v2 d2 p2) (hL:laidMetH prog Rows.compileStatesUptoRow.laid W)
 {gs:List (DataW H)} (hk:Rows.uptoSmall H ([d0,d1,d2]++gs)=true)
 (z0:light prog 26 d0) (_z1:light prog 3 d1) (z2:light prog 28 d2) (hS:W.ShapedOpen prog):
 Calls prog 10 #[v0,v1,v2] W λe w'=>e=.returned (.bool true)/\Ext W w':=by
 obtain⟨c,q,rfl,hp,hc,hs⟩:=yI o0 h0 z0;obtain⟨n,rfl⟩:=Iz o1;obtain⟨s,t,l,m,rfl,hm,hn⟩:=Cz o2 h2 z2;refine abR ?_;intro hk hLA hOA;exact LK c q n s t l m W.heap.size W (Nat.le_refl _) hp hLA hOA hc aj hm hn
end compileStates
end Go.Proofs.YtbfbabbcdochjaaGreatDoor
