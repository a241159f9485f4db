/- Several texts joined: Ub, Uc, Ud. -/
import Derived.Test.YtbfbabbcdochjaaGreatDoorRmpk
import Derived.Test.YtbfbabbcdochjaaGreatDoorRmaz
set_option maxHeartbeats 4000000
set_option maxRecDepth 100000
open Go.Proofs.Tryz
namespace Go.Proofs.YtbfbabbcdochjaaGreatDoor
open Go.RowKit So
theorem D_ (l:List Vr) (s:Str):(fB l s==0)=!(l.any (λv=>decide (v.name=s))):=by
 unfold fB
 cases hf:l.find? (λv=>decide (v.name=s))with
 |none=>
  have:l.any (λv=>decide (v.name=s))=false:=by
   rw [List.any_eq_false];intro v hv;exact List.find?_eq_none.1 hf v hv
  rw [this];rfl
 |some v=>
  have:l.any (λv=>decide (v.name=s))=true:=by
   rw [List.any_eq_true];exact⟨v,List.mem_of_find?_eq_some hf,List.find?_some (p:=λv:Vr=>decide (v.name=s)) hf⟩
  rw [this];simp only
  split<;>rfl
theorem tL.take {w:World} {N:Nat} {A:Option Addr} {n:Nat} {l:List Vr} (h:tL w N A n l) (j:Nat) (hj:j<=n):tL w N A j (l.take j):=by
 obtain⟨h1,h2,h3,b,off,h4,h5⟩:=h;refine⟨by rw [List.length_take];omega,?_,λv hv=>h3 v (List.mem_of_mem_take hv),b,off,λh0=>h4 aj,λh0=>⟨(h5 aj).1,?_⟩⟩
 ·unfold Fits at h2⊢
  have:j*40<=n*40:=Nat.mul_le_mul_right _ hj
  omega
 ·have hr:=(h5 aj).2
  have hs:=hr.sub 0 (j*4) (by rw [iV (f:=aJ) (k:=4) (λ_=>rfl)];omega)
  have he:(aR aJ l).take (j*4)=aR aJ (l.take j):=by
   have e1:aR aJ l=aR aJ (l.take j)++aR aJ (l.drop j):=by rw [zU,List.take_append_drop]
   have e2:(aR aJ (l.take j)).length=j*4:=by rw [iV (f:=aJ) (k:=4) (λ_=>rfl),List.length_take];rw [Nat.min_eq_left aj]
   rw [e1,<-e2,List.take_left]
  have e3:(aR aJ (l.take j)).length=j*4:=by rw [iV (f:=aJ) (k:=4) (λ_=>rfl),List.length_take];rw [Nat.min_eq_left aj]
  rw [Nat.add_zero,List.drop_zero,he]at hs;exact⟨by rw [e3];exact hs.1,by rw [e3];exact hs.2,hr.lt⟩
theorem UR (l:List Vr) (A:Option Addr) (n c N:Nat) (w:World) (hcap:n<=c) (hN:N<=w.heap.size) (h:tL w N A n l):Calls prog 51 #[.slice A n c] w λe w'=>e=.returned (.agg (gU (ay (fJ [] l) (must (decide (cells l<=64)) 8 tC))))/\Ext w w':=by
 obtain⟨X,hX⟩:∃X,X=ay (fJ [] l) (must (decide (cells l<=64)) 8 tC):=⟨_,rfl⟩;rw [<-hX];have HX:=J hX.symm;clear hX;have hx0:=(kR (λ_=>False) w).alloc (.cells #[.int .i64 0,.string ⟨#[]⟩] 60);have hD:=bN w 60 #[.int .i64 0,.string ⟨#[]⟩];have HV:=J (h.ext hx0);obtain⟨hn,hf,hok,b,off,hA,hE⟩:=h.ext hx0;refine Ab ?_;intro hm HN HA HE;have nV:=J hok;have dR:=J (Nat.le_trans hN hx0.size);clear hn hA hE hok hf h;go_enter func51,ntmps51;go_upto_region 1 with(fail);generalize hW:(w.alloc (.cells #[.int .i64 0,.string ⟨#[]⟩] 60))=W at hx0 hD HE HV dR⊢;clear hW;obtain⟨rb,hrb⟩:∃rb,rb=w.heap.size:=⟨_,rfl⟩;rw [<-hrb]at hD⊢;have HRW:=J (show w.heap.size<=rb by omega);have HD:=J hD;have HX0:=J hx0;clear hD hx0 hrb;go_wp2_with fail
 go_loopw [3,4] (λt3 t4 wr=>∃(j:Nat),j<=n/\t4=.int .i64 j/\t3=.int .i64 (jW (cells (l.take j)))/\ay (fJ (l.take j) (l.drop j)) (must (decide (cells l<=64)) 8 tC)=X/\Ext W wr) (λ_ t4 _=>n - (intOf t4).toNat)
 case atStart=>exact⟨0,Nat.zero_le _,rfl,by simp [cells,fF],HX.out,kR _ _⟩
 case round=>
  obtain⟨j,hj,rfl,rfl,hacc,hx⟩:=hrel;have dF:=J hx;have dw:=J hacc;clear hx hacc
  by_cases hlt:j<n
  ·have hjl:j<l.length:=by have:=HN.out;omega
   have jd:(j:Int)<n:=by omega
   have hjc:(j:Int)<=c:=by omega
   have HJV:=J (HV.out.take j hj);obtain rfl:=HA.out aj;have hrow:=(HE.out aj).2.ext dF.out;obtain⟨hh',hg'⟩:=mZ hrow j hjl;have hbw:=hrow.lt;obtain⟨x,hxe⟩:∃x,x=l[j]:=⟨_,rfl⟩;have Nz:=J (nV.out x abI);have hdrop:l.drop j=x::l.drop (j+1):=by rw [hxe];exact List.drop_eq_getElem_cons hjl
   have htake:l.take (j+1)=l.take j++[x]:=by rw [hxe,List.take_add_one,List.getElem?_eq_getElem hjl];rfl
   have HCT:=J (show cells (l.take (j+1))=cells (l.take j)+So.dD x by rw [nZ hjl,<-hxe]);rw [<-hxe]at hg';have hacc:=dw.out;rw [hdrop]at hacc;have Dp:=J htake;obtain⟨Y,hY⟩:∃Y,Y=ay (fJ (l.take j++[x]) (l.drop (j+1))) (must (decide (cells l<=64)) 8 tC):=⟨_,rfl⟩;have HYE:=J hY
   have eU:Hid (X=ay (must (isName x.name) 6 x.name) (ay (must (!((l.take j).any (λv=>decide (v.name=x.name)))) 7 x.name) (ay (must (jq x.size 0 64&&span x) 2 x.name) Y))):=J (by
    rw [<-hacc,hY,fJ,dY,dY,dY,D_])
   clear hrow hxe hacc hdrop htake hY dw;have y0:=(kR (λ_=>False) wr).alloc (.cells (aJ x) 66);have Il:=bN wr 66 (aJ x);go_upto_region 6 with(fail);clear hh' hg' hbw;have HZ:=J (dF.out.trans y0);generalize hW1:(wr.alloc (.cells (aJ x) 66))=W1 at y0 Il HZ⊢;generalize wr.heap.size=eb at Il⊢;have Af:=J Il;clear hW1 y0 Il dF;have OI:=bC Af.out;have OL:=Af.out.lt;go_wp2_with fail;refine(mX x.name Nz.out.name _).mono ?_;rintro e w1 ⟨rfl,hx1⟩;have dF:=J (HZ.out.trans hx1);have qh:=J (bX Af.out hx1);clear OI OL hx1 Af HZ;have OI:=bC qh.out;have OL:=qh.out.lt;refine ER ?_;intro fq hmr iw hlr
   cases hn:isName x.name
   ·have HR:=J (show X=some ⟨6,x.name⟩by rw [eU.out,hn,aO,aY])
    exact Zz
   ·have iZ:=J (show X=ay (must (!((l.take j).any (λv=>decide (v.name=x.name)))) 7 x.name) (ay (must (jq x.size 0 64&&span x) 2 x.name) Y)by rw [eU.out,hn,bL,aX])
    clear eU hn;clear fq hmr iw hlr;clear OI OL;go_upto_region 8 with(fail);refine gM (λw2=>Ext w1 w2) [(0,2),(1,2),(2,2),(3,2),(4,1),(5,0)] ?_;refine gN ?_;have HZ0:=J (show Ext w1 w1.drew from(kR _ w1).drew)
    (repeat first|refine cu ?_|refine dL HZ0.out (by intro w1 hS;have d4:=bX qh.out hS;have d5:=bC d4;have d6:=d4.lt;exact gX) ?_|refine dK HZ0.out ?_)
    (refine aC (λK hK=>?_);go_simp)
    refine(yw (l.take j) x.name _ j _ N _ (HJV.out.ext (dF.out.trans HZ0.out))).mono ?_;rintro e w2 ⟨rfl,rfl⟩;refine hK.out _ _ (λ_=>HZ0.out) ?_;clear hK K;refine gI ?_;have dF:=J (dF.out.trans HZ0.out);have SV:=J (bX qh.out HZ0.out);generalize w1.drew=W2 at dF SV⊢;clear HZ0 qh;have OI:=bC SV.out;have OL:=SV.out.lt;refine ER ?_;intro fq hmr iw hlr;obtain⟨an,han⟩:∃an,an=(l.take j).any (λv=>decide (v.name=x.name)):=⟨_,rfl⟩;rw [<-han]at iZ⊢;clear han
    cases an
    ·have fZ:=J (show X=ay (must (jq x.size 0 64&&(word x.low&&word x.high&&decide (x.low<=x.high))) 2 x.name) Y by rw [iZ.out,Bool.not_false,bL,aX];rfl)
     clear iZ;clear fq hmr iw hlr;go_wp2_with fail;refine(rO x.size 0 64 _).mono ?_;rintro e w3 ⟨rfl,rfl⟩
     cases hb:jq x.size 0 64
     ·have HR:=J (show X=some ⟨2,x.name⟩by rw [fZ.out,hb,Bool.false_and,aO,aY])
      exact acg
     ·go_wp2_with fail
      refine(oJ x.low _).mono ?_;rintro e w3 ⟨rfl,rfl⟩
      cases hw1:word x.low
      ·have HR:=J (show X=some ⟨2,x.name⟩by rw [fZ.out,hb,hw1];rfl)
       exact acg
      ·go_wp2_with fail
       refine(oJ x.high _).mono ?_;rintro e w3 ⟨rfl,rfl⟩
       cases hw2:word x.high
       ·have HR:=J (show X=some ⟨2,x.name⟩by rw [fZ.out,hb,hw1,hw2];rfl)
        exact acg
       ·have kg:=J (show X=ay (must (decide (x.low<=x.high)) 2 x.name) Y by rw [fZ.out,hb,hw1,hw2,Bool.true_and,Bool.true_and,Bool.true_and])
        clear fZ hb hw1 hw2
        by_cases hgt:x.low>x.high
        ·have HR:=J (show X=some ⟨2,x.name⟩by rw [kg.out,decide_eq_false aj,aO,aY])
         exact acg
        ·have qj:=J (show X=Y by rw [kg.out,decide_eq_true aj,bL,aX])
         have hhV:=bH SV.out;have hgV:=bG SV.out;go_wp2_with fail;refine(zH x _).mono ?_;rintro e w4 ⟨rfl,hx4⟩;go_wp2_with fail;go_roundw
         case rel=>exact⟨j+1,hlt,by go_num,by rw [HCT.out];simp only [jm],by rw [Dp.out,<-HYE.out,qj.out],dF.out.trans hx4⟩
         case measure=>simp only [intOf];omega
    ·have HR:=J (show X=some ⟨7,x.name⟩by rw [iZ.out,Bool.not_true,aO,aY])
     exact Zz
  ·obtain rfl:j=n:=by omega
   have hXM:X=must (decide (cells l<=64)) 8 tC:=by rw [<-dw.out,HN.out,List.drop_length];rfl
   have hz:jW (cells (l.take j))=cells l:=by rw [HN.out,List.take_length,qV (by have:=HN.out;omega)]
   rw [hz];have JU:=J hXM;obtain⟨z,hze⟩:∃z,z=cells l:=⟨_,rfl⟩;rw [<-hze]at JU⊢;clear hz hXM dw hze;refine ER ?_;intro fq hmr iw hlr
   by_cases h64:z>64
   ·have HR:=J (show X=some ⟨8,tC⟩by rw [JU.out,decide_eq_false aj,aO])
    exact Zz
   ·have HR:=J (show X=none by rw [JU.out,decide_eq_true aj,bL])
    clear fq hmr iw hlr;go_wp2_with fail;refine(lD _).mono ?_;rintro e w2 ⟨rfl,hx2⟩;have dF:=J (dF.out.trans hx2);refine ER ?_;intro fq hmr iw hlr;clear hx2;exact Zz
open Go.RowKit So
theorem UM (c:Pc) (p:Pr) (N:Nat) (w:World) (hN:N<=w.heap.size) (h:lT w N c p) (hcap:c.params.n<=c.params.c):Calls prog 53 #[.agg c.cells] w λe w'=>e=.returned (.agg (gU (ay (must (decide (p.params.length<=4)) 8 gQ) (ay (d_ (fB p.vars) [] p.params) (ay (must (decide (menu p.params<=512)) 8 gQ) (ay (must (isName p.silent) 6 p.silent) (must (fB p.vars p.silent==0) 7 p.silent)))))))/\Ext w w':=by
 obtain⟨cn,cse,cst,⟨vA,vn,vc⟩,cs,ct,⟨A,n,cc⟩,jG,ny,cq,pK⟩:=c;obtain rfl:ny=p.silent:=h.silent;obtain⟨b1,hb1⟩:∃b,b=isName p.silent:=⟨_,rfl⟩;obtain⟨b2,hb2⟩:∃b,b=p.vars.any (λv=>decide (v.name=p.silent)):=⟨_,rfl⟩;obtain⟨mn,hmn⟩:∃m,m=menu p.params:=⟨_,rfl⟩;obtain⟨M,hM⟩:∃M,M=ay (must (decide (mn<=512)) 8 gQ) (ay (must b1 6 p.silent) (must (!b2) 7 p.silent)):=⟨_,rfl⟩;obtain⟨X,hX⟩:∃X,X=ay (must (decide (p.params.length<=4)) 8 gQ) (ay (d_ (fB p.vars) [] p.params) M):=⟨_,rfl⟩;have hXE:X=(ay (must (decide (p.params.length<=4)) 8 gQ) (ay (d_ (fB p.vars) [] p.params) (ay (must (decide (menu p.params<=512)) 8 gQ) (ay (must (isName p.silent) 6 p.silent) (must (fB p.vars p.silent==0) 7 p.silent))))):=by rw [hX,hM,hmn,hb1,hb2,D_]
 rw [<-hXE];clear hXE;have HM:=J hM;have HB1:=J hb1;have HB2:=J hb2;have zu:=J hmn;have HX:=J hX;clear hX hM hb1 hb2 hmn;have hcap:n<=cc:=hcap;have hx0:=((kR (λ_=>False) w).alloc (.cells (Pc.cells (⟨cn,cse,cst,⟨vA,vn,vc⟩,cs,ct,⟨A,n,cc⟩,jG,p.silent,cq,pK⟩:Pc)) 26)).alloc (.cells #[.int .i64 0,.string ⟨#[]⟩] 60);have hB:=(bN w 26 (Pc.cells (⟨cn,cse,cst,⟨vA,vn,vc⟩,cs,ct,⟨A,n,cc⟩,jG,p.silent,cq,pK⟩:Pc))).alloc (.cells #[.int .i64 0,.string ⟨#[]⟩] 60);have hD:=aH.new' (w.alloc (.cells (Pc.cells (⟨cn,cse,cst,⟨vA,vn,vc⟩,cs,ct,⟨A,n,cc⟩,jG,p.silent,cq,pK⟩:Pc)) 26)) 60 #[.int .i64 0,.string ⟨#[]⟩] (w.heap.size+1) aG;have iY:=J (h.ext hx0 hN);have dR:=J (Nat.le_trans hN hx0.size);have HSO:=J h.uH;obtain⟨hn,hf,hok,b,off,hA,hE⟩:=h.params.ext hx0;have hm:=hf.max aj;have HN:=J (show n=p.params.length from hn);have HA:=J hA;have HE:=J hE;have nV:=J hok;clear hn hA hE hok hf h;go_enter func53,ntmps53;go_upto_region 1 with(fail);generalize hW:((w.alloc (.cells (Pc.cells (⟨cn,cse,cst,⟨vA,vn,vc⟩,cs,ct,⟨A,n,cc⟩,jG,p.silent,cq,pK⟩:Pc)) 26)).alloc (.cells #[.int .i64 0,.string ⟨#[]⟩] 60))=W at hx0 hB hD HE iY dR⊢;clear hW;obtain⟨rb,hrb⟩:∃rb,rb=w.heap.size+1:=⟨_,rfl⟩;rw [<-hrb]at hD⊢;have HRW:=J (show w.heap.size<=rb by omega);have HD:=J hD;have HX0:=J hx0;have HB:=J hB;clear hD hx0 hrb hB;generalize w.heap.size=pb at HB⊢;have dF:=J (kR (λ_=>False) W);refine He ?_;intro fq hmr iw hlr hcP mI mH jh
 by_cases h4:(n:Int)>4
 ·have HR:=J (show X=some ⟨8,gQ⟩by rw [HX.out,decide_eq_false (show¬p.params.length<=4 by have:=HN.out;omega),aO,aY])
  exact BZ
 ·have eH:=J (show X=ay (d_ (fB p.vars) [] p.params) M by rw [HX.out,decide_eq_true (show p.params.length<=4 by have:=HN.out;omega),bL,aX])
  clear HX;go_wp2_with fail;clear fq hmr iw hlr hcP mI mH jh;clear dF
  go_loopw [3] (λt3 wr=>∃(j:Nat),j<=n/\t3=.int .i64 j/\ay (d_ (fB p.vars) (p.params.take j) (p.params.drop j)) M=X/\Ext W wr) (λt3 _=>n - (intOf t3).toNat)
  case atStart=>exact⟨0,Nat.zero_le _,rfl,eH.out.symm,kR _ _⟩
  case round=>
   obtain⟨j,hj,rfl,hacc,hx⟩:=hrel;have dF:=J hx;have dw:=J hacc;clear hx hacc;refine He ?_;intro fq hmr iw hlr hcP mI mH jh
   by_cases hlt:j<n
   ·have hjl:j<p.params.length:=by have:=HN.out;omega
    have jd:(j:Int)<n:=by omega
    have hjc:(j:Int)<=cc:=by omega
    have HJV:=J (iY.out.params.take j hj);obtain rfl:=HA.out aj;have hrow:=(HE.out aj).2.ext dF.out;obtain⟨hh',hg'⟩:=mZ hrow j hjl;have hbw:=hrow.lt;obtain⟨x,hxe⟩:∃x,x=p.params[j]:=⟨_,rfl⟩;have Nz:=J (nV.out x abI);have hdrop:p.params.drop j=x::p.params.drop (j+1):=by rw [hxe];exact List.drop_eq_getElem_cons hjl
    have htake:p.params.take (j+1)=p.params.take j++[x]:=by rw [hxe,List.take_add_one,List.getElem?_eq_getElem hjl];rfl
    rw [<-hxe]at hg';have hacc:=dw.out;rw [hdrop]at hacc;have Dp:=J htake;obtain⟨Y,hY⟩:∃Y,Y=ay (d_ (fB p.vars) (p.params.take j++[x]) (p.params.drop (j+1))) M:=⟨_,rfl⟩;have HYE:=J hY;obtain⟨a1,ha1⟩:∃a,a=p.vars.any (λv=>decide (v.name=x.name)):=⟨_,rfl⟩;obtain⟨a2,ha2⟩:∃a,a=(p.params.take j).any (λv=>decide (v.name=x.name)):=⟨_,rfl⟩
    have eU:Hid (X=ay (must (isName x.name) 6 x.name) (ay (must (!a1&&!a2) 7 x.name) (ay (must (x.size==0) 3 x.name) (ay (must (span x) 2 x.name) Y)))):=J (by
     rw [<-hacc,hY,d_,dY,dY,dY,dY,D_,ha1,ha2])
    have HA1:=J ha1;have HA2:=J ha2;clear hrow hxe hacc hdrop htake hY dw ha1 ha2;have y0:=(kR (λ_=>False) wr).alloc (.cells (aJ x) 66);have Il:=bN wr 66 (aJ x);go_upto_region 7 with(fail);clear hh' hg' hbw;clear fq hmr iw hlr hcP mI mH jh;have HZ:=J (dF.out.trans y0);generalize hW1:(wr.alloc (.cells (aJ x) 66))=W1 at y0 Il HZ⊢;generalize wr.heap.size=eb at Il⊢;have Af:=J Il;clear hW1 y0 Il dF;have OI:=bC Af.out;have OL:=Af.out.lt;go_wp2_with fail;refine(mX x.name Nz.out.name _).mono ?_;rintro e w1 ⟨rfl,hx1⟩;have dF:=J (HZ.out.trans hx1);have qh:=J (bX Af.out hx1);clear OI OL hx1 Af HZ;have OI:=bC qh.out;have OL:=qh.out.lt;refine He ?_;intro fq hmr iw hlr hcP mI mH jh
    cases hn:isName x.name
    ·have HR:=J (show X=some ⟨6,x.name⟩by rw [eU.out,hn,aO,aY])
     exact BZ
    ·have iZ:=J (show X=ay (must (!a1&&!a2) 7 x.name) (ay (must (x.size==0) 3 x.name) (ay (must (span x) 2 x.name) Y))by rw [eU.out,hn,bL,aX])
     clear eU hn;clear fq hmr iw hlr hcP mI mH jh;clear OI OL;go_upto_region 9 with(fail)
     cases a1
     ·refine aiJ ?_;intro HZ0 K hK
      rintro e w2 ⟨rfl,rfl⟩;rw [<-HA1.out];refine hK.out _ _ (λ_=>HZ0.out) ?_;clear hK K
      (repeat first|refine cu ?_|refine dL HZ0.out aeW ?_|refine dK HZ0.out ?_)
      (refine aC (λK hK=>?_);go_simp)
      refine(yw (p.params.take j) x.name _ j _ N _ (HJV.out.ext (dF.out.trans HZ0.out))).mono ?_;rintro e w2 ⟨rfl,rfl⟩;rw [<-HA2.out];refine hK.out _ _ (λ_=>HZ0.out) ?_;clear hK K;refine gI ?_;have dF:=J (dF.out.trans HZ0.out);have SV:=J (bX qh.out HZ0.out);generalize w1.drew=W2 at dF SV⊢;clear HZ0 qh;have OI:=bC SV.out;have OL:=SV.out.lt;refine He ?_;intro fq hmr iw hlr hcP mI mH jh
      cases a2
      ·have fZ:=J (show X=ay (must (x.size==0) 3 x.name) (ay (must (word x.low&&word x.high&&decide (x.low<=x.high)) 2 x.name) Y)by rw [iZ.out];rfl)
       clear iZ
       by_cases hz:x.size=0
       ·have hzb:(x.size==0)=true:=by simp [hz]
        have kg:=J (show X=ay (must (word x.low&&word x.high&&decide (x.low<=x.high)) 2 x.name) Y by rw [fZ.out,hzb,bL,aX]);clear hzb;go_wp2_with fail;refine(oJ x.low _).mono ?_;rintro e w3 ⟨rfl,rfl⟩
        cases hw1:word x.low
        ·have HR:=J (show X=some ⟨2,x.name⟩by rw [kg.out,hw1];rfl)
         exact BZ
        ·go_wp2_with fail
         refine(oJ x.high _).mono ?_;rintro e w3 ⟨rfl,rfl⟩
         cases hw2:word x.high
         ·have HR:=J (show X=some ⟨2,x.name⟩by rw [kg.out,hw1,hw2];rfl)
          exact BZ
         ·have qj:=J (show X=ay (must (decide (x.low<=x.high)) 2 x.name) Y by rw [kg.out,hw1,hw2,Bool.true_and,Bool.true_and])
          clear fZ kg hw1 hw2
          by_cases hgt:x.low>x.high
          ·have HR:=J (show X=some ⟨2,x.name⟩by rw [qj.out,decide_eq_false aj,aO,aY])
           exact BZ
          ·have sU:=J (show X=Y by rw [qj.out,decide_eq_true aj,bL,aX])
           go_wp2_with fail;exact⟨⟨j+1,hlt,by go_num,by rw [Dp.out,<-HYE.out,sU.out],dF.out⟩,by simp only [intOf];omega⟩
       ·have hzb:(x.size==0)=false:=by simp [hz]
        have HR:=J (show X=some ⟨3,x.name⟩by rw [fZ.out,hzb,aO,aY]);exact BZ
      ·have HR:=J (show X=some ⟨7,x.name⟩by rw [iZ.out];rfl)
       exact BZ
     ·refine aiJ ?_;intro HZ0 K hK
      rintro e w2 ⟨rfl,rfl⟩;rw [<-HA1.out];refine hK.out _ _ (λ_=>HZ0.out) ?_;clear hK K
      (repeat first|refine cu ?_|refine dL HZ0.out aeW ?_|refine dK HZ0.out ?_)
      (refine aC (λK hK=>?_);go_simp)
      refine hK.out _ _ (λh=>h) ?_;clear hK K;refine gI ?_;have dF:=J (dF.out.trans HZ0.out);have SV:=J (bX qh.out HZ0.out);generalize w1.drew=W2 at dF SV⊢;clear HZ0 qh;have OI:=bC SV.out;have OL:=SV.out.lt;refine He ?_;intro fq hmr iw hlr hcP mI mH jh;have HR:=J (show X=some ⟨7,x.name⟩by rw [iZ.out];rfl);exact BZ
   ·obtain rfl:j=n:=by omega
    have JU:=J (show X=M by rw [<-dw.out,HN.out,List.drop_length];rfl);clear dw;go_wp2_with fail;refine(UK (⟨cn,cse,cst,⟨vA,vn,vc⟩,cs,ct,⟨A,j,cc⟩,jG,p.silent,cq,pK⟩:Pc) p N _ (Nat.le_trans dR.out dF.out.size) (iY.out.ext dF.out dR.out)).mono ?_;rintro e w2 ⟨rfl,hx2⟩;clear fq hmr iw hlr hcP mI mH jh;have dF:=J (dF.out.trans hx2);clear hx2;rw [<-zu.out];refine He ?_;intro fq hmr iw hlr hcP mI mH jh
    by_cases h5:mn>512
    ·have HR:=J (show X=some ⟨8,gQ⟩by rw [JU.out,HM.out,decide_eq_false aj,aO,aY])
     exact BZ
    ·have kg:=J (show X=ay (must b1 6 p.silent) (must (!b2) 7 p.silent)by rw [JU.out,HM.out,decide_eq_true aj,bL,aX])
     clear JU HM;go_wp2_with fail;refine(mX p.silent HSO.out _).mono ?_;rintro e w3 ⟨rfl,hx3⟩;clear fq hmr iw hlr hcP mI mH jh;have dF:=J (dF.out.trans hx3);clear hx3;rw [<-HB1.out];refine He ?_;intro fq hmr iw hlr hcP mI mH jh
     cases b1
     ·have HR:=J (show X=some ⟨6,p.silent⟩by rw [kg.out,aO,aY])
      exact BZ
     ·have qj:=J (show X=must (!b2) 7 p.silent by rw [kg.out,bL,aX])
      go_wp2_with fail;refine(yw p.vars p.silent vA vn vc N _ (iY.out.ext dF.out dR.out).vars).mono ?_;rintro e w4 ⟨rfl,rfl⟩;rw [<-HB2.out]
      cases b2
      ·have HR:=J (show X=none by rw [qj.out,Bool.not_false,bL])
       go_wp2_with fail;refine(lD _).mono ?_;rintro e w5 ⟨rfl,hx5⟩;clear fq hmr iw hlr hcP mI mH jh;have dF:=J (dF.out.trans hx5);refine He ?_;intro fq hmr iw hlr hcP mI mH jh;clear hx5;exact BZ
      ·have HR:=J (show X=some ⟨7,p.silent⟩by rw [qj.out,Bool.not_true,aO])
       exact BZ
open Go.RowKit So
theorem PG (c:Pc) (p:Pr) (A:Option Addr) (n k:Nat) (l:List Str) (kind:Int) (name:Str) (eA:Option Addr) (en ec:Nat) (low high:Int) (lA:Option Addr) (ln lc:Nat) (xA:Option Addr) (xn xc:Nat) (deep:Nat) (hs:name.size<=maxLen) (N:Nat) (w:World) (hN:N<=w.heap.size) (h:lT w N c p) (hl:eO w N A n l):
 Calls prog 149 #[.agg (dP c A n k),.agg (aB kind name eA en ec low high lA ln lc xA xn xc),.int .i64 (deep:Int)] w λe w'=>e=.returned (.agg (gU (named (aU (fB p.vars) l) kind name low high deep)))/\Ext w w':=by
 obtain⟨X,hX⟩:∃X,X=named (aU (fB p.vars) l) kind name low high deep:=⟨_,rfl⟩;rw [<-hX];obtain⟨v,hv⟩:∃v,v=aU (fB p.vars) l name:=⟨_,rfl⟩;have HV:=J hv;have HX:Hid (X=if kind=0∨kind=1∨kind=5 then ay (must (v !=0) 6 name) (ay (must (v==(if kind=1 then 2 else 1)) 11 name) (if kind=5 then must (jq low 2 1000) 2 name else none))else if kind=3 then ay (must (isName name) 6 name) (ay (must (v==0) 7 name) (ay (must (word low&&word high&&decide (high - low<=63)) 2 name) (must (decide (deep<8)) 25 name)))else none):=J (by rw [hX,hv];rfl);clear hX hv;have ZO:=J hs;clear hs;have hx0:=(((kR (λ_=>False) w).alloc (.cells (dP c A n k) 120)).alloc (.cells (aB kind name eA en ec low high lA ln lc xA xn xc) 86)).alloc (.cells #[.int .i64 0,.string ⟨#[]⟩] 60);have hK:=((bN w 120 (dP c A n k)).alloc (.cells (aB kind name eA en ec low high lA ln lc xA xn xc) 86)).alloc (.cells #[.int .i64 0,.string ⟨#[]⟩] 60);have hS:=(aH.new' (w.alloc (.cells (dP c A n k) 120)) 86 (aB kind name eA en ec low high lA ln lc xA xn xc) (w.heap.size+1) aG).alloc (.cells #[.int .i64 0,.string ⟨#[]⟩] 60);have hD:=aH.new' ((w.alloc (.cells (dP c A n k) 120)).alloc (.cells (aB kind name eA en ec low high lA ln lc xA xn xc) 86)) 60 #[.int .i64 0,.string ⟨#[]⟩] (w.heap.size+1+1) aG;go_enter func149,ntmps149;go_upto_region 1 with(fail);have iY:=J (h.ext hx0 hN);have HSL:=J (hl.ext hx0);have dR:=J (Nat.le_trans hN hx0.size);generalize hW:(((w.alloc (.cells (dP c A n k) 120)).alloc (.cells (aB kind name eA en ec low high lA ln lc xA xn xc) 86)).alloc (.cells #[.int .i64 0,.string ⟨#[]⟩] 60))=W at hx0 hK hS hD iY HSL dR⊢;clear hW h hl;obtain⟨rb,hrb⟩:∃rb,rb=w.heap.size+1+1:=⟨_,rfl⟩;rw [<-hrb]at hD⊢;obtain⟨sb,hsb⟩:∃sb,sb=w.heap.size+1:=⟨_,rfl⟩;rw [<-hsb]at hS⊢;have HRW:=J (show w.heap.size<=rb by omega);have HD:=J hD;have HX0:=J hx0;have HK:=J hK;have HS:=J hS;clear hD hx0 hrb hsb hK hS;generalize w.heap.size=kb at HK⊢;have dF:=J (kR (λ_=>False) W);refine QV ?_;intro fq hmr iw hlr kW sZ qE qD oM
 by_cases h0:kind=0
 ·subst h0
  have eU:=J (show X=ay (must (v !=0) 6 name) (must (v==1) 11 name)by rw [HX.out];simp);clear HX;go_wp2_with fail;refine abP ?_;clear fq hmr iw hlr kW sZ qE qD oM;intro w2 dF;refine QV ?_;intro fq hmr iw hlr kW sZ qE qD oM
  by_cases hv0:v=0
  ·have q0:((v:Int)==0)=true:=by simp [hv0]
   exact afE
  ·have q0:((v:Int)==0)=false:=by simp;omega
   have n0:(v !=0)=true:=by simp [hv0]
   have iZ:=J (show X=must (v==1) 11 name by rw [eU.out,n0,bL,aX]);clear hv0
   by_cases hv1:v=1
   ·have q1:((v:Int)==1)=true:=by simp [hv1]
    exact aiW
   ·have q1:((v:Int)==1)=false:=by simp;omega
    have n1:(v==1)=false:=by simp [hv1]
    exact ajt
 ·by_cases h1:kind=1
  ·subst h1
   have eU:=J (show X=ay (must (v !=0) 6 name) (must (v==2) 11 name)by rw [HX.out];simp);clear HX;go_wp2_with fail;refine abP ?_;clear fq hmr iw hlr kW sZ qE qD oM;intro w2 dF;refine QV ?_;intro fq hmr iw hlr kW sZ qE qD oM
   by_cases hv0:v=0
   ·have q0:((v:Int)==0)=true:=by simp [hv0]
    exact afE
   ·have q0:((v:Int)==0)=false:=by simp;omega
    have n0:(v !=0)=true:=by simp [hv0]
    have iZ:=J (show X=must (v==2) 11 name by rw [eU.out,n0,bL,aX]);clear hv0
    by_cases hv1:v=2
    ·have q1:((v:Int)==2)=true:=by simp [hv1]
     have q2:((v:Int) !=2)=false:=by simp [hv1]
     exact aiW
    ·have q1:((v:Int)==2)=false:=by simp;omega
     have q2:((v:Int) !=2)=true:=by simp;omega
     have n1:(v==2)=false:=by simp [hv1]
     exact ajt
  ·by_cases h5:kind=5
   ·subst h5
    have eU:=J (show X=ay (must (v !=0) 6 name) (ay (must (v==1) 11 name) (must (jq low 2 1000) 2 name))by rw [HX.out];simp);clear HX;go_wp2_with fail;refine abP ?_;clear fq hmr iw hlr kW sZ qE qD oM;intro w2 dF;refine QV ?_;intro fq hmr iw hlr kW sZ qE qD oM
    by_cases hv0:v=0
    ·have q0:((v:Int)==0)=true:=by simp [hv0]
     exact afE
    ·have q0:((v:Int)==0)=false:=by simp;omega
     have n0:(v !=0)=true:=by simp [hv0]
     have iZ:=J (show X=ay (must (v==1) 11 name) (must (jq low 2 1000) 2 name)by rw [eU.out,n0,bL,aX]);clear hv0
     by_cases hv1:v=1
     ·have q1:((v:Int)==1)=true:=by simp [hv1]
      have fZ:=J (show X=must (jq low 2 1000) 2 name by rw [iZ.out,hv1];rfl);clear hv1;go_wp2_with fail;refine(rO low 2 1000 _).mono ?_;rintro e w3 ⟨rfl,rfl⟩
      cases hb:jq low 2 1000
      ·have HR:=J (show X=some ⟨2,name⟩by rw [fZ.out,hb,aO])
       exact EW
      ·have HR:=J (show X=none by rw [fZ.out,hb,bL])
       exact acf
     ·have q1:((v:Int)==1)=false:=by simp;omega
      have n1:(v==1)=false:=by simp [hv1]
      have HR:=J (show X=some ⟨11,name⟩by rw [iZ.out,n1,aO,aY]);clear hv1;exact EW
   ·by_cases h3:kind=3
    ·subst h3
     have eU:=J (show X=ay (must (isName name) 6 name) (ay (must (v==0) 7 name) (ay (must (word low&&word high&&decide (high - low<=63)) 2 name) (must (decide (deep<8)) 25 name)))by rw [HX.out];simp);clear HX;go_wp2_with fail;refine(mX name ZO.out _).mono ?_;rintro e w2 ⟨rfl,hx2⟩;clear fq hmr iw hlr kW sZ qE qD oM;have dF:=J (dF.out.trans hx2);clear hx2;refine QV ?_;intro fq hmr iw hlr kW sZ qE qD oM
     cases hn:isName name
     ·have HR:=J (show X=some ⟨6,name⟩by rw [eU.out,hn,aO,aY])
      exact EW
     ·have iZ:=J (show X=ay (must (v==0) 7 name) (ay (must (word low&&word high&&decide (high - low<=63)) 2 name) (must (decide (deep<8)) 25 name))by rw [eU.out,hn,bL,aX])
      clear eU;go_wp2_with fail;refine abP ?_;clear fq hmr iw hlr kW sZ qE qD oM;intro w2 dF;refine QV ?_;intro fq hmr iw hlr kW sZ qE qD oM
      by_cases hv0:v=0
      ·have q0:((v:Int)==0)=true:=by simp [hv0]
       have fZ:=J (show X=ay (must (word low&&word high&&decide (high - low<=63)) 2 name) (must (decide (deep<8)) 25 name)by rw [iZ.out,hv0];rfl);clear hv0 iZ;go_wp2_with fail;refine(oJ low _).mono ?_;rintro e w3 ⟨rfl,rfl⟩
       cases hw1:word low
       ·have HR:=J (show X=some ⟨2,name⟩by rw [fZ.out,hw1];rfl)
        exact EW
       ·go_wp2_with fail
        refine(oJ high _).mono ?_;rintro e w3 ⟨rfl,rfl⟩
        cases hw2:word high
        ·have HR:=J (show X=some ⟨2,name⟩by rw [fZ.out,hw1,hw2];rfl)
         exact EW
        ·have hb1:-2147483648<=low/\low<=2147483647:=by simpa [word]using hw1
         have kg:=J (show X=ay (must (decide (high - low<=63)) 2 name) (must (decide (deep<8)) 25 name)by rw [fZ.out,hw1,hw2,Bool.true_and,Bool.true_and]);clear fZ hw1 hw2;have hwr:IntKind.i64.wrap (low+63)=low+63:=by rw [IntKind.wrap_i64];omega
         by_cases hgt:high>low+63
         ·have HR:=J (show X=some ⟨2,name⟩by rw [kg.out,decide_eq_false aj,aO,aY])
          exact EW
         ·have qj:=J (show X=must (decide (deep<8)) 25 name by rw [kg.out,decide_eq_true aj,bL,aX])
          by_cases hd8:(deep:Int)≥8
          ·have HR:=J (show X=some ⟨25,name⟩by rw [qj.out,decide_eq_false aj,aO])
           exact EW
          ·have HR:=J (show X=none by rw [qj.out,decide_eq_true aj,bL])
           exact acf
      ·have q0:((v:Int)==0)=false:=by simp;omega
       have n0:(v==0)=false:=by simp [hv0]
       have HR:=J (show X=some ⟨7,name⟩by rw [iZ.out,n0,aO,aY]);clear hv0;exact EW
    ·have HR:=J (show X=none by rw [HX.out,if_neg aj,if_neg h3])
     exact acf
end Go.Proofs.YtbfbabbcdochjaaGreatDoor
