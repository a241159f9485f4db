/- Several texts joined: Lh, Li. -/
import Derived.Test.YtbfbabbcdochjaaGreatDoorRmpk
import Derived.Test.YtbfbabbcdochjaaGreatDoorRmbn
set_option maxHeartbeats 4000000
set_option maxRecDepth 100000
open Go.Proofs.Tryz
namespace Go.Proofs.YtbfbabbcdochjaaGreatDoor
open Go.RowKit So Mc
theorem akN (w:World) (base:Nat) (q:jg) (xs:List Int) (z:Int) (hown:w.ownsRow base 21 1 q.v q.n (aM xs)) (hn:q.n<=1000) (hbase:base<=w.heap.size):
 ∃q' w',(Builtin.append_ #[27,27] 27 #[q.v,.slice (some ⟨w.heap.size,0,none⟩) 1 1]).run prog (w.alloc (.cells #[.int .i32 z] 21))=.ok (jg.v q') w'/\w'.ownsRow base 21 1 q'.v q'.n (aM (xs++[z]))/\Kept (λi=>q.v.ownBlock=some i) w w':=by
 have yA:Ext w (w.alloc (.cells #[.int .i32 z] 21)):=(kR _ w).alloc _;obtain⟨v',wa,hra,hoa,hka⟩:=FI _ base q.v q.n _ (bD hown yA) w.heap.size 0 1 1 [z] rfl (Row.eZ (bN w 21 #[.int .i32 z])) aj (Nat.le_trans hbase yA.size);obtain⟨A',cp',rfl⟩:=kQ hoa;exact⟨⟨A',q.n+1,cp'⟩,wa,hra,hoa,(Kept.ext yA).trans hka⟩
theorem PE (c:Pc) (p:Pr) (N:Nat) (w:World) (hN:N<=w.heap.size) (h:lT w N c p) (hk:tF p):
 Calls prog 36 #[.agg c.cells] w λe w'=>∃s:jg,e=.returned s.v/\w'.ownsRow w.heap.size 21 1 s.v s.n (aM (firsts p.vars))/\Ext w w':=by
 refine QY ?_;intro hx0 hB;obtain⟨hn,hft,hok,b,off,hA,hE⟩:=h.vars;have XC:=hft.max aj;have xu:=J hn;have Hy:=J hA;have Wy:=J hE;have gD:=J hk;have dR:=J hN;clear hn hA hE hft hok h hk;go_enter func36,ntmps36;go_upto_region 3 with(fail);generalize hW:(w.alloc (.cells c.cells 26))=W at hx0 hB⊢;clear hW;obtain⟨B,hBB⟩:∃B,B=w.heap.size:=⟨_,rfl⟩;rw [<-hBB]at hB dR hN⊢;have HBB:=J hBB;have HX0:=J hx0;have HB:=J hB;have SE:=J (show B<=W.heap.size by rw [hBB];exact hx0.size);clear hx0 hB hBB
 go_loopw [3,4] (λt3 t4 wr=>∃(j:Nat) (s:jg),j<=c.vars.n/\t4=.int .i64 (j:Int)/\t3=s.v/\wr.ownsRow B 21 1 s.v s.n (aM (firsts (p.vars.take j)))/\aH wr B 26 c.cells/\Ext w wr) (λ_ t4 _=>c.vars.n - (intOf t4).toNat)
 case atStart=>exact⟨0,⟨none,0,0⟩,Nat.zero_le _,rfl,rfl,⟨by simp [aM,firsts],.inl ⟨rfl,rfl⟩⟩,HB.out,HX0.out⟩
 case round=>
  obtain⟨j,s,hj,rfl,rfl,ho,hb,hx⟩:=hrel;have ZQ:=J ho;have zm:=J hb;have HXJ:=J hx;have e1:=bC hb;have e2:=hb.lt;clear ho hb hx
  by_cases hlt:j<c.vars.n
  ·have hjl:j<p.vars.length:=by have:=xu.out;omega
   have jd:(j:Int)<c.vars.n:=by omega
   have yY:=Hy.out aj;obtain⟨hvb,hrow⟩:=Wy.out aj;have hrw:=hrow.ext HXJ.out;obtain⟨u2,u3⟩:=mZ hrw j hjl;have u1:=hrw.lt;have Dp:=J (Ao hjl);have HVK:=J (jR p.vars [] gD.out.vars p.vars[j] (List.getElem_mem _));generalize p.vars[j]=v at u3 Dp HVK;clear hrow hrw hvb;have y0:=(kR (λ_=>False) wr).alloc (.cells (aJ v) 66);have hB0:=bN wr 66 (aJ v);replace e1:wr.cell? ⟨B,3,none⟩=some (.slice (some ⟨b,off,none⟩) c.vars.n c.vars.c):=by rw [<-yY];exact e1 3
   go_upto_region 6 with(fail);generalize (wr.alloc (.cells (aJ v) 66))=W6 at y0 hB0⊢;generalize wr.heap.size=g at hB0⊢;have HG6:=J hB0;have Fx:=J (bD ZQ.out y0);have NJ:=J (zm.out.ext y0);have qj:=J (HXJ.out.trans y0);clear y0 hB0 u1 u2 u3 yY e1 e2
   obtain⟨m,hm,hm2⟩:∃m:Nat,max v.size 1=(m:Int)/\m=(So.dD v).toNat:=by
    have:=HVK.out;refine⟨(So.dD v).toNat,?_,rfl⟩;have:=jV v;unfold So.dD at*
    split at this<;>omega
   have HM:=J hm2;have HMX:=J hm;obtain⟨z,hz0⟩:∃z,z=min (max 0 v.low) v.high:=⟨_,rfl⟩;have HZV:=J hz0;have Wj:=J (show m<=64 by have:=HVK.out;omega);clear hm2 hz0 hm;go_upto_region 7 with(fail)
   go_loopw [3,6] (λt3 t6 wr=>∃(i:Nat) (q:jg),i<=m/\t6=.int .i64 (i:Int)/\t3=q.v/\wr.ownsRow B 21 1 q.v q.n (aM (firsts (p.vars.take j)++List.replicate i z))/\aH wr B 26 c.cells/\aH wr g 66 (aJ v)/\Ext w wr) (λ_ t6 _=>m - (intOf t6).toNat)
   case atStart=>exact⟨0,s,Nat.zero_le _,rfl,rfl,by simpa using Fx.out,NJ.out,HG6.out,qj.out⟩
   case round=>
    obtain⟨i,q,hi,rfl,rfl,ho,hc,hg,hk⟩:=hrel;have E8:=J ho;have HBI:=J hc;have HGI:=J hg;have HXI:=J hk;have g1:=bC hg;have g2:=hg.lt;have hmx:=HMX.out;clear ho hc hg hk
    by_cases hli:i<m
    ·have aer:(i:Int)<m:=by omega
     have hqn:q.n<=1000:=by
      have h1:=E8.out.1;have h2:=sK (l:=p.vars) j gD.out.cells;have h3:=Wj.out;rw [dQ,List.length_append,List.length_replicate]at h1
      omega
     have hcv:mh 0 v.low v.high=z:=by
      have h:=HVK.out;have h1:=zJ (n:=0) (lo:=v.low) (hi:=v.high) h.2.2.1 h.2.2.2.1 aj;rw [<-h1,HZV.out]
     have HCV:=J hcv;have HQN:=J hqn;clear hqn hcv;go_upto_region 9 with(fail);clear hmx;go_step
     iterate 5 refine qY ?_
     refine wpList_step (λK hK=>?_);go_simp;go_wp2_with fail;refine(uE _ _ _ _).mono ?_;rintro e w1 ⟨rfl,rfl⟩;rw [HCV.out];refine hK _ _ ?_;clear hK K;refine qY ?_;obtain⟨q',wa,hra,hoa,hka⟩:=akN wr B q _ z E8.out HQN.out (by rw [HBB.out];exact HXI.out.size);refine fM rfl (.tmp 26) (.tmp 32) 27 rfl rfl rfl rfl hra ?_;clear hra;have ZP:=J hoa;have HBA:=J (HBI.out.kept hka (λe=>dI E8.out (E':=26) ak _ e _ _ HBI.out));have HGA:=J (HGI.out.kept hka (λe=>dI E8.out (E':=66) ak _ e _ _ HGI.out));have VP:=J (HXI.out.trans' (S':=λi=>q.v.ownBlock=some i) hka (λx hx e=>by have:=(E8.out.lt x e).1;have:=HBB.out;omega));clear hoa hka g1 g2;have ald:=Wj.out;go_wp2_with fail;go_roundw
     case rel=>exact⟨i+1,q',hli,by go_num,rfl,by rw [List.replicate_succ',<-List.append_assoc];exact ZP.out,HBA.out,HGA.out,VP.out⟩
     case measure=>simp only [intOf];omega
    ·obtain rfl:i=m:=by omega
     have HOE:=J (show wr.ownsRow B 21 1 q.v q.n (aM (firsts (p.vars.take (j+1))))from by rw [Dp.out,<-HZV.out,<-HM.out];exact E8.out);go_wp2_with fail;go_roundw
     case rel=>exact⟨j+1,q,hlt,by go_num,rfl,HOE.out,HBI.out,HXI.out⟩
     case measure=>simp only [intOf];omega
  ·obtain rfl:j=c.vars.n:=by omega
   have HOF:=J (show wr.ownsRow B 21 1 s.v s.n (aM (firsts p.vars))from by have h:=ZQ.out;rw [xu.out,List.take_length]at h;exact h);go_wp2_with fail;go_ret;rw [<-HBB.out];exact⟨s,rfl,HOF.out,HXJ.out⟩
theorem PO (c:Pc) (p:Pr) (part:Int) (vs ag:jg) (V Ar:List Int) (N Na:Nat) (w:World) (hN:N<=w.heap.size) (h:lT w N c p) (hv:j5 w Na vs V) (ha:j5 w Na ag Ar) (hk:p.params.length<=4):
 Calls prog 35 #[.agg c.cells,.int .i64 part,vs.v,ag.v] w λe w'=>e=.returned (.int .i64 (dO p part V Ar))/\Ext w w':=by
 obtain⟨F,hF⟩:∃F,F=dO p part V Ar:=⟨_,rfl⟩;rw [<-hF];have HF:=J hF;refine QY ?_;intro hx0 hB;have hB2:=J hB;have HP:=J (h.ext hx0 hN);have HPP:=J (h.ext hx0 hN).params;have Ca:=J h.params.1;have HA:=J (ha.ext hx0);have HN:=J (Nat.le_trans hN hx0.size);have C9:=J hk;have xu:=J hv.1;have xq:=J ha.1;clear hF h hv ha hk hN
 by_cases hpart:0<=part/\part<=4
 ·have hp1:decide (part<0)=false:=decide_eq_false aj
  have hp2:decide (4<part)=false:=decide_eq_false aj
  rcases(by omega:part=0∨part=2∨part=3∨(part=1∨part=4))with hq|hq|hq|hq
  ·skip
   have q0:(part==0)=true:=by simp;omega
   have q2:(part==2)=false:=by simp;omega
   have q3:(part==3)=false:=by simp;omega
   have hw:gK p part=0:=by unfold gK;rw [if_pos aj]
   have hm:dZ p part=0:=by unfold dZ;rw [if_neg aj,if_neg aj]
   have HW:=J hw;have zu:=J hm;clear hw hm;go_enter func35,ntmps35;go_upto_region 3 with(fail);have i1:=bH hB;have i2:=bG hB;have i3:=hB.lt;go_wp2_with fail;refine(oD c p N _ HN.out HP.out).mono ?_;rintro e w1 ⟨rfl,hx1⟩;have eH:=J hx1;have HB1:=J (hB.ext hx1);have HX0:=J hx0;clear i1 i2 i3 hx1 hB hx0;have i1:=bC HB1.out;have i2:=HB1.out.lt
   by_cases e1:(vs.n:Int)=0
   rotate_left
   ·have z1:((vs.n:Int) !=0)=true:=bne_iff_ne.2 e1
    refine abZ ?_;intro vK;clear e1;go_wp2_with fail
    all_goals go_ret
    all_goals exact⟨b_ vK.out.symm,Kept.trans HX0.out eH.out⟩
   have z1:((vs.n:Int) !=0)=false:=by rw [e1];simp
   have J6:=J e1;clear e1
   by_cases e2:(ag.n:Int)=0
   rotate_left
   ·have z2:((ag.n:Int) !=0)=true:=bne_iff_ne.2 e2
    refine abT ?_;intro vK;clear e2;go_wp2_with fail
    all_goals go_ret
    all_goals exact⟨b_ vK.out.symm,Kept.trans HX0.out eH.out⟩
   exact aiX
  ·skip
   have q0:(part==0)=false:=by simp;omega
   have q2:(part==2)=true:=by simp;omega
   have q3:(part==3)=false:=by simp;omega
   have hw:gK p part=cells p.vars:=by unfold gK;rw [if_neg aj]
   have hm:dZ p part=p.params.length:=by unfold dZ;rw [if_pos aj]
   have HW:=J hw;have zu:=J hm;clear hw hm;go_enter func35,ntmps35;go_upto_region 3 with(fail);have i1:=bH hB;have i2:=bG hB;have i3:=hB.lt;go_wp2_with fail;refine(oD c p N _ HN.out HP.out).mono ?_;rintro e w1 ⟨rfl,hx1⟩;have eH:=J hx1;have HB1:=J (hB.ext hx1);have HX0:=J hx0;clear i1 i2 i3 hx1 hB hx0;have i1:=bC HB1.out;have i2:=HB1.out.lt
   by_cases e1:(vs.n:Int)=cells p.vars
   rotate_left
   ·have z1:((vs.n:Int) !=cells p.vars)=true:=bne_iff_ne.2 e1
    refine abZ ?_;intro vK;clear e1;go_wp2_with fail
    all_goals go_ret
    all_goals exact⟨b_ vK.out.symm,Kept.trans HX0.out eH.out⟩
   have z1:((vs.n:Int) !=cells p.vars)=false:=by rw [e1];simp
   have J6:=J e1;clear e1
   by_cases e2:(ag.n:Int)=(c.params.n:Int)
   rotate_left
   ·have z2:((ag.n:Int) !=(c.params.n:Int))=true:=bne_iff_ne.2 e2
    refine abT ?_;intro vK;clear e2;go_wp2_with fail
    all_goals go_ret
    all_goals exact⟨b_ vK.out.symm,Kept.trans HX0.out eH.out⟩
   have z2:((ag.n:Int) !=(c.params.n:Int))=false:=by rw [e2];simp
   have HE2:=J e2;clear e2
   have xE:=J (show F=if part=2/\BH p.params Ar=true then 2 else 0 from by
    have h1:=xu.out;have h2:=xq.out;have h3:=J6.out;have h4:=HE2.out;have h5:=Ca.out;rw [HF.out];unfold dO;rw [if_neg aj,if_neg (by rw [HW.out,zu.out];omega)])
   go_upto_region 13 with(fail);clear z1 z2 i1 i2
   go_loopw [11] (λt11 wr=>∃j:Nat,j<=ag.n/\t11=.int .i64 (j:Int)/\(∀i (h1:i<p.params.length) (h2:i<Ar.length),i<j->p.params[i].low<=Ar[i]/\Ar[i]<=p.params[i].high)/\Ext (w.alloc (.cells c.cells 26)) wr) (λt11 _=>ag.n - (intOf t11).toNat)
   case atStart=>exact⟨0,Nat.zero_le _,rfl,λi _ _ h=>absurd h (Nat.not_lt_zero _),eH.out⟩
   case round=>
    obtain⟨j,hj,rfl,hall,hx⟩:=hrel;have iL:=J hall;have eU:=J hx;have hag:ag.n<=1000:=by have:=HE2.out;have:=Ca.out;have:=C9.out;omega
    clear hall hx
    by_cases hlt:j<ag.n
    ·have jd:(j:Int)<ag.n:=by omega
     have hja:j<Ar.length:=by have:=xq.out;omega
     have hjp:j<p.params.length:=by have:=HE2.out;have:=Ca.out;have:=xq.out;omega
     have agV:(j:Int)<c.params.n:=by have:=HE2.out;omega
     obtain⟨hpn,_,_,pb,po,JZ,OM⟩:=HPP.out;have JZ:=JZ aj;have hpr:=((OM aj).2.ext eU.out);obtain⟨hh',hg'⟩:=mZ hpr j hjp;have c2:=iP hh' hg' 2 aj;have c3:=iP hh' hg' 3 aj;have c4:=hpr.lt;obtain⟨_,hav,ab,ao,Io,Ip⟩:=HA.out;have Io:=Io aj;have har:=((Ip aj).2.ext eU.out);have a1:=Row.mem har j hja;have a2:=har.lt;have agH:=hav Ar[j] (List.getElem_mem hja);obtain⟨x,hx⟩:∃x,x=Ar[j]:=⟨_,rfl⟩;obtain⟨v,hv⟩:∃v,v=p.params[j]:=⟨_,rfl⟩;rw [<-hx]at a1 agH;rw [<-hv]at c2 c3;have HXX:=J hx;have Ko:=J hv;unfold au at agH;have b1:=bC ((hB2.out).ext eU.out);have b3:wr.cell? ⟨w.heap.size,6,none⟩=some (.slice (some ⟨pb,po,none⟩) c.params.n c.params.c):=by rw [<-JZ];exact b1 6
     have b2:=((hB2.out).ext eU.out).lt;obtain⟨aA,an,ac⟩:=ag;obtain rfl:aA=some ⟨ab,ao,none⟩:=Io;clear hpr hh' hg' har hav Ip OM hx hv b1 JZ;have t1:=wrap_i64 (n:=x) jP;go_upto_region 15 with(fail)
     by_cases hlo:x<v.low
     ·have g1:decide (x<v.low)=true:=decide_eq_true hlo
      have vK:=J (show F=2 from by rw [xE.out,if_pos ⟨by omega,zD j hjp hja (.inl (by rw [<-HXX.out,<-Ko.out];exact hlo))⟩])
      go_quiet (fail)
      go_wp2_with fail;go_ret;exact⟨b_ vK.out.symm,Kept.trans HX0.out (Kept.drewN eU.out nq)⟩
     ·have g1:decide (x<v.low)=false:=decide_eq_false hlo
      by_cases hhi:v.high<x
      ·have g2:decide (v.high<x)=true:=decide_eq_true hhi
       have vK:=J (show F=2 from by rw [xE.out,if_pos ⟨by omega,zD j hjp hja (.inr (by rw [<-HXX.out,<-Ko.out];exact hhi))⟩])
       go_quiet (fail)
       go_wp2_with fail;go_ret;exact⟨b_ vK.out.symm,Kept.trans HX0.out (Kept.drewN eU.out nq)⟩
      ·have g2:decide (v.high<x)=false:=decide_eq_false hhi
       have HG:=J (show v.low<=x/\x<=v.high by omega);clear hlo hhi
       go_quiet (fail)
       clear g1 g2 c2 c3 c4 a1 a2 b2 b3 t1;have sQ:=J (Kept.drewN eU.out nq);generalize (wr.drewN nq)=wq at sQ⊢;go_wp2_with fail;go_roundw
       case rel=>
        refine⟨j+1,hlt,by go_num,λi h1 h2 h3=>?_,sQ.out⟩
        by_cases e:i=j
        ·subst e;rw [<-HXX.out,<-Ko.out];exact HG.out
        ·exact iL.out i h1 h2 aj
       case measure=>simp only [intOf];have h':j<an:=hlt;omega
    ·obtain rfl:j=ag.n:=by omega
     have vK:=J (show F=0 from by
      rw [xE.out,wG (λi h1 h2=>by have:=iL.out i h1 h2 (by have:=xq.out;omega);omega),if_neg aG])
     go_wp2_with fail
     all_goals go_ret
     all_goals exact⟨b_ vK.out.symm,Kept.trans HX0.out eU.out⟩
  ·skip
   have q0:(part==0)=false:=by simp;omega
   have q2:(part==2)=false:=by simp;omega
   have q3:(part==3)=true:=by simp;omega
   have hw:gK p part=cells p.vars:=by unfold gK;rw [if_neg aj]
   have hm:dZ p part=1:=by unfold dZ;rw [if_neg aj,if_pos aj]
   have HW:=J hw;have zu:=J hm;clear hw hm;go_enter func35,ntmps35;go_upto_region 3 with(fail);have i1:=bH hB;have i2:=bG hB;have i3:=hB.lt;go_wp2_with fail;refine(oD c p N _ HN.out HP.out).mono ?_;rintro e w1 ⟨rfl,hx1⟩;have eH:=J hx1;have HB1:=J (hB.ext hx1);have HX0:=J hx0;clear i1 i2 i3 hx1 hB hx0;have i1:=bC HB1.out;have i2:=HB1.out.lt
   by_cases e1:(vs.n:Int)=cells p.vars
   rotate_left
   ·have z1:((vs.n:Int) !=cells p.vars)=true:=bne_iff_ne.2 e1
    refine abZ ?_;intro vK;clear e1;go_wp2_with fail
    all_goals go_ret
    all_goals exact⟨b_ vK.out.symm,Kept.trans HX0.out eH.out⟩
   have z1:((vs.n:Int) !=cells p.vars)=false:=by rw [e1];simp
   have J6:=J e1;clear e1
   by_cases e2:(ag.n:Int)=1
   rotate_left
   ·have z2:((ag.n:Int) !=1)=true:=bne_iff_ne.2 e2
    refine abT ?_;intro vK;clear e2;go_wp2_with fail
    all_goals go_ret
    all_goals exact⟨b_ vK.out.symm,Kept.trans HX0.out eH.out⟩
   have z2:((ag.n:Int) !=1)=false:=by rw [e2];simp
   exact acX
  ·skip
   have q0:(part==0)=false:=by simp;omega
   have q2:(part==2)=false:=by simp;omega
   have q3:(part==3)=false:=by simp;omega
   have hw:gK p part=cells p.vars:=by unfold gK;rw [if_neg aj]
   have hm:dZ p part=0:=by unfold dZ;rw [if_neg aj,if_neg aj]
   have HW:=J hw;have zu:=J hm;clear hw hm;go_enter func35,ntmps35;go_upto_region 3 with(fail);have i1:=bH hB;have i2:=bG hB;have i3:=hB.lt;go_wp2_with fail;refine(oD c p N _ HN.out HP.out).mono ?_;rintro e w1 ⟨rfl,hx1⟩;have eH:=J hx1;have HB1:=J (hB.ext hx1);have HX0:=J hx0;clear i1 i2 i3 hx1 hB hx0;have i1:=bC HB1.out;have i2:=HB1.out.lt
   by_cases e1:(vs.n:Int)=cells p.vars
   rotate_left
   ·have z1:((vs.n:Int) !=cells p.vars)=true:=bne_iff_ne.2 e1
    refine abZ ?_;intro vK;clear e1;go_wp2_with fail
    all_goals go_ret
    all_goals exact⟨b_ vK.out.symm,Kept.trans HX0.out eH.out⟩
   have z1:((vs.n:Int) !=cells p.vars)=false:=by rw [e1];simp
   have J6:=J e1;clear e1
   by_cases e2:(ag.n:Int)=0
   rotate_left
   ·have z2:((ag.n:Int) !=0)=true:=bne_iff_ne.2 e2
    refine abT ?_;intro vK;clear e2;go_wp2_with fail
    all_goals go_ret
    all_goals exact⟨b_ vK.out.symm,Kept.trans HX0.out eH.out⟩
   exact aiX
 ·have hFv:F=1:=by rw [HF.out];unfold dO;rw [if_pos aj]
  subst hFv
  by_cases hp0:part<0
  ·have hp1:decide (part<0)=true:=decide_eq_true hp0
   go_enter func35,ntmps35;go_wp2_with fail
   all_goals go_ret
   all_goals exact⟨rfl,hx0⟩
  ·have hp1:decide (part<0)=false:=decide_eq_false hp0
   have hp2:decide (4<part)=true:=decide_eq_true aj;go_enter func35,ntmps35;go_wp2_with fail
   all_goals go_ret
   all_goals exact⟨rfl,hx0⟩
open Go.RowKit So Mc
theorem Ky (w:World) (base g:Nat) (hown:w.ownsRow base 21 1 (.slice (some ⟨g,0,none⟩) 0 0) 0 (aM [])) (A:Option Addr) (b off m c:Nat) (l:List Int) (hm:m=l.length) (hA:0<m->A=some ⟨b,off,none⟩) (hr:0<m->Row w b off (aM l)) (hn:m<=100000) (hbase:base<=w.heap.size):
 ∃vA vc w',(Builtin.append_ #[27,27] 27 #[.slice (some ⟨g,0,none⟩) 0 0,.slice A m c]).run prog w=.ok (.slice vA m vc) w'/\w'.ownsRow base 21 1 (.slice vA m vc) m (aM l)/\Kept (λi=>i=g) w w'/\∀k,(Value.slice vA m vc).ownBlock=some k->k=g∨k=w.heap.size:=by
 obtain⟨i,hi,hz,h1,h2⟩:=info_parts Cx
 by_cases h0:0<m
 ·obtain rfl:=hA h0
  obtain⟨v',w',hrun,ho,hk⟩:=akM w base _ 0 [] hown (some ⟨b,off,none⟩) b off m c l hm (λ_=>rfl) hr aj hbase;have hg:=run_append_grow (P:=prog) (w:=w) 27 27 21 i _ underlying27 hi hz ⟨g,0,none⟩ 0 0 [] aG (λj u h=>by simp at h) ⟨b,off,none⟩ m c (aM l) (by rw [dQ,h1,hm,Nat.mul_one]) (hr h0).cells aj aj (by rw [Nat.zero_add,nextslicecap_zero h0,h2];omega);rw [hrun]at hg;injection hg with e1 e2;rw [Nat.zero_add]at e1 ho;subst e1;exact⟨_,_,w',hrun,by simpa using ho,hk.mono (λi _ q=>by simpa [Value.ownBlock]using q.symm),λk q=>by simp [Value.ownBlock]at q;omega⟩
 ·have hm0:m=0:=by omega
  subst hm0;have hl:l=[]:=List.eq_nil_of_length_eq_zero hm.symm;subst hl;refine⟨some ⟨g,0,none⟩,0,w,?_,hown,kR _ w,λk q=>by simp [Value.ownBlock]at q;omega⟩
  rcases A with _|a<;>simp [Builtin.append_,run_underlying underlying27,sizeOf,typeInfo,hi,Builtin.lenOf,Builtin.firstCells,storeCells,loadCells,loadCellsFrom]
theorem uR {P:Program} {o:Oper} {a:Act} {w:World} {K:Act->World->Prop} {Q:Exit->Act->World->Prop} (x y:Operand) (T:TypeId) (ho:o.op=.makeSlice T x y) {v s v':Value} {w':World} (hx:a.eval x=v) (hy:a.eval y=s)
 (hrun:(Instr.makeSlice T v s).run P w=.ok v' w') (h:K (a.put o.dst v') w'):Oper.wp P o a w K Q:=by
 unfold Oper.wp execOp;simp only [ho,Sem.run_bind,Sem.run_pure,Result.andThen_ok,hx,hy,hrun];exact h
section
variable {x:Rx} {w w2:World} {R:RS}
theorem jJ.rebind (h:jJ x w R) {bA:Option Addr} {bn bc:Nat} (hb:aH w x.mb 95 (rmC x.c x.vA x.vn x.vc bA bn bc x.aA x.an x.ac R)) (ho:w.ownsRow x.B 98 2 (.slice bA bn bc) bn (aR Cj R.binds))
 (hk:Kept (λi=>(Value.slice bA bn bc).ownBlock=some i) w w2) {l:List (Str×Int)} {A:Option Addr} {n cp:Nat} (ho2:w2.ownsRow x.B 98 2 (.slice A n cp) n (aR Cj l)) (hl:l.length<=100):
 jJ x (w2.setCell ⟨x.mb,12,none⟩ (.slice A n cp)) {R with binds:=l}:=by
 have hnb:=Rx.Ib h ho;have hmb:¬(Value.slice bA bn bc).ownBlock=some x.mb:=λq=>hnb _ q (.inl rfl);have hb2:=hb.kept hk hmb;have hk2:Kept (·=x.mb) w2 (w2.setCell ⟨x.mb,12,none⟩ (.slice A n cp)):=Kept.setCell (kR (·=x.mb) _) _ _ (λ_=>rfl);have hne:∀{E:TypeId} {sz:Nat} {v:Value} {n:Nat} {xs:List Value},w2.ownsRow x.B E sz v n xs->¬E=95->∀g,v.ownBlock=some g->¬g=x.mb:=λho hE g hg q=>by subst q;exact dI ho hE _ hg _ _ hb2
 have hv:=bS h.vars hk (λg hg q=>hnb g q (.inr (.inl hg)));have ha:=bS h.asks hk (λg hg q=>hnb g q (.inr (.inr hg)));have hnp:∀i,(Value.slice bA bn bc).ownBlock=some i->x.N<=i:=λi q=>Nat.le_trans h.hN (ho.lt i q).1;exact⟨⟨A,n,cp,by simpa using aH.gW hb2 12 (.slice A n cp),bS ho2 hk2 (hne ho2 ak)⟩,bS hv hk2 (hne hv ak),bS ha hk2 (hne ha ak),(h.prog.kept hk (Nat.le_trans h.hN h.hB) hnp).kept hk2 (Nat.le_trans (Nat.le_trans h.hN h.hB) hk.size) (λi q=>by rw [q];exact Nat.le_trans h.hN h.GA),h.sep,h.hN,Nat.le_trans h.hB (Nat.le_trans hk.size hk2.size),h.GA,hl⟩
theorem jJ.newVars (h:jJ x w R) (hx:Ext w w2) {s:jg} {L:List Int} (ho:w2.ownsRow w.heap.size 21 1 s.v s.n (aM L)):jJ {x with vA:=s.A,vn:=s.n,vc:=s.c} (w2.setCell ⟨x.mb,11,none⟩ s.v) {R with vars:=L}:=by
 have h2:=h.ext hx;obtain⟨bA,bn,bc,hb,hbo⟩:=h2.box;have hk2:Kept (·=x.mb) w2 (w2.setCell ⟨x.mb,11,none⟩ s.v):=Kept.setCell (kR (·=x.mb) _) _ _ (λ_=>rfl);have hne:∀{B:Nat} {E:TypeId} {sz:Nat} {v:Value} {n:Nat} {xs:List Value},w2.ownsRow B E sz v n xs->¬E=95->∀g,v.ownBlock=some g->¬g=x.mb:=λho hE g hg q=>by subst q;exact dI ho hE _ hg _ _ hb
 exact⟨⟨bA,bn,bc,by simpa using aH.gW hb 11 s.v,bS hbo hk2 (hne hbo ak)⟩,gZ (bS ho hk2 (hne ho ak)) h.hB,bS h2.asks hk2 (hne h2.asks ak),h2.prog.kept hk2 (Nat.le_trans h2.hN h2.hB) (λi q=>by rw [q];exact Nat.le_trans h.hN h.GA),λg hg q=>by have h1:=(ho.lt g hg).1;have h3:=(h.asks.lt g q).2;omega,h.hN,Nat.le_trans h2.hB hk2.size,h.GA,h.len⟩
end
theorem GR {p:Pr} {i:Nat} {V Ar:List Int} (hk:tF p) (hi:i<5) (hf:dO p i V Ar=0) (hV:∀x∈V,au x) (hA:∀x∈Ar,au x):RInv p.vars p.seats (jI p i) (R0 p i V Ar):=by
 have hn:=acI hk hi hf;have hc:=acv hk hf hV hA;have hl:((R0 p i V Ar).vars.length:Int)=cells p.vars:=hc.kE;have h64:=hk.cells;refine⟨hn.kn,λs q=>?_,λs q=>?_,λs q=>?_,λv hv=>?_,by omega,λb hb=>?_,hk.seats,hc.lZ,λv hv=>?_⟩
 ·obtain⟨_,h1,h2,_⟩:=hn.one s q
  exact⟨h1,by rw [hl];exact h2⟩
 ·obtain⟨_,h1,h2,h3,_⟩:=hn.two s q
  exact⟨h1,by rw [hl];exact h3⟩
 ·obtain⟨_,v,hv,_⟩:=hn.fix s q
  exact⟨v,hv⟩
 ·obtain⟨j,hj,e⟩:=List.mem_iff_getElem.1 hv
  have h1:=hc.vars j aj (by show(j:Int)<cells p.vars;omega);have e2:(R0 p i V Ar).vars.getD j 0=v:=by rw [<-e];simp [hj]
  simp only [Int.toNat_natCast]at h1;rw [e2]at h1;rw [<-h1];exact kI hc.ok _
 ·have hb:b∈dW p i Ar:=hb
  unfold dW at hb
  split at hb
  ·exact hA _ (List.of_mem_zip hb).2
  ·split at hb
   ·simp at hb;rw [hb];exact nK hA 0
   ·simp at hb
 ·have:v∈List.replicate p.seats.toNat 0:=hv
  have:=List.eq_of_mem_replicate this
  omega
end Go.Proofs.YtbfbabbcdochjaaGreatDoor
