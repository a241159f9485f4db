/- Several texts joined: Qzn, Qzo, Kz, Ka, Kb. -/
import Derived.Recover
import Derived.Test.YtbfbabbcdochjaaGreatDoorRmpk
import Derived.Test.YtbfbabbcdochjaaGreatDoorRmak
set_option maxHeartbeats 4000000
set_option maxRecDepth 100000
open Go.Proofs.Tryz
namespace Go.Proofs.YtbfbabbcdochjaaGreatDoor
open Go.RowKit So
theorem xW (κ:Kn):∀(l pre:List Vr) (_:d_ κ pre l=none),∀v∈l,κ v.name=0
 |[],_,_,v,hv=>absurd hv aG
 |x::l,pre,h,v,hv=>by
  rw [d_,av,av,av,av]at h;obtain⟨-,h2,-,-,h5⟩:=h
  rcases List.mem_cons.1 hv with rfl|hv
  ·have:=aP.1 h2
   simp at this;exact this.1
  ·exact xW κ l _ h5 v hv
theorem IZ {w:World} {N:Nat}:∀{F:SF} {b off:Nat} (_:nk w N F b off) (_:0<F.len),∃k:Int,w.cell? ⟨b,off+(F.len - 1)*7,none⟩=some (.int .i64 k)/\kC F=(k==9)/\b<N
 | .cons kind name e low high l x .nil,b,off,h,_=>by
  obtain⟨hb,h1,h2,h3,h4,⟨eA,ec,lA,lc,xA,xc,be,oe,bl,ol,bx,ox,hh,hg,-⟩,-⟩:=h;refine⟨kind,?_,rfl,hb⟩;have:=nY hh hg aj
  simpa [SF.len]using this
 | .cons kind name e low high l x (.cons k' n' e' lo' hi' l' x' r),b,off,h,_=>by
  obtain⟨hb,h1,h2,h3,h4,-,hr⟩:=h;obtain⟨k,hk,hr',hb'⟩:=IZ hr (by simp [SF.len]);refine⟨k,?_,hr',hb'⟩;simp only [SF.len]at hk⊢;rw [<-hk]
  congr 2
  omega
theorem ahs (p:Pr):jI p 2=aU (fB p.vars) (p.params.map Vr.name):=rfl
theorem aht (p:Pr):jI p 3=aU (fB p.vars) [p.silent]:=rfl
theorem ahq (p:Pr):jI p 0=fB p.vars:=rfl
theorem ahr (p:Pr):jI p 1=fB p.vars:=rfl
theorem ahu (p:Pr):jI p 4=fB p.vars:=rfl
theorem KI (p:Pr):check p=ay (nI p) (ay (ay (fJ [] p.vars) (must (decide (cells p.vars<=64)) 8 tC)) (ay (ay (must (decide (p.params.length<=4)) 8 gQ) (ay (d_ (fB p.vars) [] p.params) (must (decide (menu p.params<=512)) 8 gQ))) (ay (must (isName p.silent) 6 p.silent) (ay (must (fB p.vars p.silent==0) 7 p.silent) (ay (must (decide (jW (eT p)<=1000)) 5 p.name) (ay (ay (bV 0 (fB p.vars) 0 true p.start) (ay (bV 1 (fB p.vars) 0 true p.turn) (ay (bV 2 (aU (fB p.vars) (p.params.map Vr.name)) 0 true p.play) (ay (bV 3 (aU (fB p.vars) [p.silent]) 0 true p.quiet) (bV 4 (fB p.vars) 0 true p.pays))))) (ay (must (ends p.turn) 4 lU) (must (kC p.pays) 4 oU)))))))):=by
 rw [check,lq];simp only [dY,mg,ahq,ahr,ahs,aht,ahu,partOf]
theorem PS (c:Pc) (p:Pr) (N:Nat) (w:World) (FK:4<N) (hN:N<=w.heap.size) (h:lT w N c p) (hL:fG w):
 Calls prog 42 #[.agg c.cells] w λe w'=>e=.returned (.agg (gU (check p)))/\Ext w w':=by
 obtain⟨X,hX⟩:∃X,X=check p:=⟨_,rfl⟩;rw [<-hX];have HX0:Hid (X=ay (nI p) (ay (ay (fJ [] p.vars) (must (decide (cells p.vars<=64)) 8 tC)) (ay (ay (must (decide (p.params.length<=4)) 8 gQ) (ay (d_ (fB p.vars) [] p.params) (must (decide (menu p.params<=512)) 8 gQ))) (ay (must (isName p.silent) 6 p.silent) (ay (must (fB p.vars p.silent==0) 7 p.silent) (ay (must (decide (jW (eT p)<=1000)) 5 p.name) (ay (ay (bV 0 (fB p.vars) 0 true p.start) (ay (bV 1 (fB p.vars) 0 true p.turn) (ay (bV 2 (aU (fB p.vars) (p.params.map Vr.name)) 0 true p.play) (ay (bV 3 (aU (fB p.vars) [p.silent]) 0 true p.quiet) (bV 4 (fB p.vars) 0 true p.pays))))) (ay (must (ends p.turn) 4 lU) (must (kC p.pays) 4 oU))))))))):=J (hX.trans (KI p));clear hX;obtain⟨H,hH⟩:∃H,H=nI p:=⟨_,rfl⟩;obtain⟨V,hV⟩:∃V,V=(ay (fJ [] p.vars) (must (decide (cells p.vars<=64)) 8 tC)):=⟨_,rfl⟩;obtain⟨P,hP⟩:∃P,P=(ay (must (decide (p.params.length<=4)) 8 gQ) (ay (d_ (fB p.vars) [] p.params) (must (decide (menu p.params<=512)) 8 gQ))):=⟨_,rfl⟩;obtain⟨T,hT⟩:∃T,T=(ay (bV 0 (fB p.vars) 0 true p.start) (ay (bV 1 (fB p.vars) 0 true p.turn) (ay (bV 2 (aU (fB p.vars) (p.params.map Vr.name)) 0 true p.play) (ay (bV 3 (aU (fB p.vars) [p.silent]) 0 true p.quiet) (bV 4 (fB p.vars) 0 true p.pays))))):=⟨_,rfl⟩;obtain⟨b1,hb1⟩:∃b,b=isName p.silent:=⟨_,rfl⟩;obtain⟨b2,hb2⟩:∃b,b=(fB p.vars p.silent==0):=⟨_,rfl⟩;obtain⟨b3,hb3⟩:∃b,b=decide (jW (eT p)<=1000):=⟨_,rfl⟩;obtain⟨b4,hb4⟩:∃b,b=ends p.turn:=⟨_,rfl⟩;obtain⟨b5,hb5⟩:∃b,b=kC p.pays:=⟨_,rfl⟩;have eH:=J (show X=ay H (ay V (ay P (ay (must b1 6 p.silent) (ay (must b2 7 p.silent) (ay (must b3 5 p.name) (ay T (ay (must b4 4 lU) (must b5 4 oU))))))))by rw [hH,hV,hP,hT,hb1,hb2,hb3,hb4,hb5];exact HX0.out);have HH:=J hH;have HV:=J hV;have HP:=J hP;have HT:=J hT;have HB1:=J hb1;have HB2:=J hb2;have HB3:=J hb3;have ZH:=J hb4;have nC:=J hb5;clear HX0 hH hV hP hT hb1 hb2 hb3 hb4 hb5;obtain⟨cn,cse,cst,cv,cs,⟨tA,tn,tc⟩,uf,jG,ny,cq,⟨zA,zn,zc⟩⟩:=c;obtain rfl:cn=p.name:=h.name;obtain rfl:ny=p.silent:=h.silent;refine abX ?_;intro oN;have hmm:=@run_makeMap prog
 go_enter_defers func42,ntmps42
 go_upto_region 3 with(fail);clear oN hmm;obtain⟨W0,hW0⟩:∃W0,W0=((((w.alloc (.cells (Pc.cells (⟨p.name,cse,cst,cv,cs,⟨tA,tn,tc⟩,uf,jG,p.silent,cq,⟨zA,zn,zc⟩⟩:Pc)) 57)).alloc (.cells #[.int .i64 0,.string ⟨#[]⟩] 104)).alloc (.map #[] 0)).alloc (.cells #[.map (some (w.heap.size+1+1)),.string ⟨#[]⟩,.int .i64 0] 145)):=⟨_,rfl⟩;have hx0:Ext w W0:=by rw [hW0];exact((((kR _ w).alloc _).alloc _).alloc _).alloc _
 have hPB:aH W0 w.heap.size 57 (Pc.cells (⟨p.name,cse,cst,cv,cs,⟨tA,tn,tc⟩,uf,jG,p.silent,cq,⟨zA,zn,zc⟩⟩:Pc)):=by rw [hW0];exact(((bN w _ _).alloc _).alloc _).alloc _
 have hRB:aH W0 (w.heap.size+1) 104 #[.int .i64 0,.string ⟨#[]⟩]:=by rw [hW0];exact((aH.new' _ _ _ _ aG).alloc _).alloc _
 have hMB:SMap W0 (w.heap.size+1+1) (λ_=>none):=by
  rw [hW0];have q:=SMap.made ((w.alloc (.cells (Pc.cells (⟨p.name,cse,cst,cv,cs,⟨tA,tn,tc⟩,uf,jG,p.silent,cq,⟨zA,zn,zc⟩⟩:Pc)) 57)).alloc (.cells #[.int .i64 0,.string ⟨#[]⟩] 104));have q2:((w.alloc (.cells (Pc.cells (⟨p.name,cse,cst,cv,cs,⟨tA,tn,tc⟩,uf,jG,p.silent,cq,⟨zA,zn,zc⟩⟩:Pc)) 57)).alloc (.cells #[.int .i64 0,.string ⟨#[]⟩] 104)).heap.size=w.heap.size+1+1:=by simp
  rw [q2]at q;exact q.ext ((kR _ _).alloc _)
 have hCB:aH W0 (w.heap.size+1+1+1) 145 #[.map (some (w.heap.size+1+1)),.string ⟨#[]⟩,.int .i64 0]:=by rw [hW0];exact aH.new' _ _ _ _ aG
 rw [<-hW0];obtain⟨pb,hpb⟩:∃pb,pb=w.heap.size:=⟨_,rfl⟩;obtain⟨rb,hrb⟩:∃rb,rb=pb+1:=⟨_,rfl⟩;obtain⟨g,hg⟩:∃g,g=rb+1:=⟨_,rfl⟩;obtain⟨cb,hcb⟩:∃cb,cb=g+1:=⟨_,rfl⟩;rw [<-hpb]at hPB hRB hMB hCB⊢;rw [<-hrb]at hRB hMB hCB⊢;rw [<-hg]at hMB hCB⊢;rw [<-hcb]at hCB⊢;have K_:N<=g:=by omega
 have hNc:N<=cb:=by omega
 have lN:=J hPB;have vT:=J hRB;have gD:=J (show Ck W0 cb g (λ_=>0) E0 0 from⟨hCB,hMB.qx (λt=>rfl)⟩);have nD:=J (show¬SG cb g pb/\¬SG cb g rb by constructor<;>(rintro(h|h)<;>omega));have JR:=J (show∀w',Kept (SG cb g) W0 w'->N<=w'.heap.size from λw' hk=>Nat.le_trans (Nat.le_trans hN hx0.size) hk.size);have NU:=J (show∀j,SG cb g j->N<=j from λj h=>by rcases h with h|h<;>omega);have iY:=J (show∀w',Kept (SG cb g) W0 w'->lT w' N (⟨p.name,cse,cst,cv,cs,⟨tA,tn,tc⟩,uf,jG,p.silent,cq,⟨zA,zn,zc⟩⟩:Pc) p from λw' hk=>(h.ext hx0 hN).kept hk (Nat.le_trans hN hx0.size) NU.out);have Wi:=J (show∀w',Kept (SG cb g) W0 w'->fG w' from λw' hk=>(hL.ext hx0).kept hk (λk hk h=>by have:=NU.out k h;omega));have HOWN:=J (show∀wz w9,Kept (SG cb g) W0 wz->Kept (·=rb) wz w9->Ext w w9 from λwz w9 h1 h2=>(hx0.trans' h1 (λi hi q=>by rcases q with q|q<;>omega)).trans' h2 (λi hi q=>by omega));have j_:=J (kR (SG cb g) W0);have HZN:=J (show zn=p.pays.len from h.pays.1);have HZM:=J (show zn<=17592186044416 from Fits.max h.pays.2.1 aj);clear hPB hRB hMB hCB hW0 hpb hrb hg hcb h hL hx0;refine Vp ?_;intro hcP jh mI mH;go_wp2_with fail;refine(Xy _ (⟨p.name,cse,cst,cv,cs,⟨tA,tn,tc⟩,uf,jG,p.silent,cq,⟨zA,zn,zc⟩⟩:Pc) p N _ (JR.out _ j_.out) (iY.out _ j_.out) (Wi.out _ j_.out)).mono ?_;rintro e w1 ⟨he,hx1⟩;clear hcP jh mI mH;rw [<-HH.out]at he;have SH:=J (gD.out.ext hx1);have j_:=J (j_.out.trans (Kept.ext hx1));clear hx1
 cases H with
 |some f=>
  have he:=dN.some he;subst he;have HR:=J (show X=some f by rw [eH.out,aY]);exact Zy
 |none=>
  have he:=dN.none he;subst he;have eU:=J (show X=ay V (ay P (ay (must b1 6 p.silent) (ay (must b2 7 p.silent) (ay (must b3 5 p.name) (ay T (ay (must b4 4 lU) (must b5 4 oU)))))))by rw [eH.out,aX]);clear eH HH;refine Vp ?_;intro hcP jh mI mH;go_wp2_with fail;refine(YI cb g (⟨p.name,cse,cst,cv,cs,⟨tA,tn,tc⟩,uf,jG,p.silent,cq,⟨zA,zn,zc⟩⟩:Pc) p N FK K_ hNc _ (JR.out _ j_.out) (iY.out _ j_.out) (Wi.out _ j_.out) SH.out).mono ?_;rintro e w2 ⟨hb,hk⟩;clear hcP jh mI mH;rw [<-HV.out]at hb;have j_:=J (j_.out.trans hk);clear hk SH
  cases V with
  |some f=>
   obtain⟨he,-⟩:=hb;subst he;have HR:=J (show X=some f by rw [eU.out,aY]);exact Zy
  |none=>
   obtain⟨he,hc⟩:=hb;subst he;have NK:=J hc;have iZ:=J (show X=ay P (ay (must b1 6 p.silent) (ay (must b2 7 p.silent) (ay (must b3 5 p.name) (ay T (ay (must b4 4 lU) (must b5 4 oU))))))by rw [eU.out,aX]);clear eU HV hc;refine Vp ?_;intro hcP jh mI mH;go_wp2_with fail;refine(Yf cb g (fB p.vars) (⟨p.name,cse,cst,cv,cs,⟨tA,tn,tc⟩,uf,jG,p.silent,cq,⟨zA,zn,zc⟩⟩:Pc) p N FK _ (JR.out _ j_.out) (iY.out _ j_.out) (Wi.out _ j_.out) NK.out).mono ?_;rintro e w3 ⟨hb,hx3⟩;clear hcP jh mI mH;rw [<-HP.out]at hb;have j_:=J (j_.out.trans (Kept.ext hx3));clear hx3 NK
   cases P with
   |some f=>
    obtain⟨he,-⟩:=hb;subst he;have HR:=J (show X=some f by rw [iZ.out,aY]);exact Zy
   |none=>
    obtain⟨he,hc⟩:=hb;subst he;have tH:=J hc;have hp:=av.1 HP.out.symm;have C9:=J (show p.params.length<=4 from of_decide_eq_true (aP.1 hp.1));have Ki:=J (xW _ _ _ (av.1 hp.2).1);have fZ:=J (show X=ay (must b1 6 p.silent) (ay (must b2 7 p.silent) (ay (must b3 5 p.name) (ay T (ay (must b4 4 lU) (must b5 4 oU)))))by rw [iZ.out,aX]);clear iZ HP hc hp;go_upto_region 6 with(fail);refine gM (λw1=>Ext w3 w1) [(0,2),(1,1),(3,2),(4,1),(2,0),(5,0)] ?_;refine gN ?_;have bU:=J (show Ext w3 w3.drew from(kR _ w3).drew)
    (repeat first|refine cu ?_|refine dL bU.out abF ?_|refine dK bU.out ?_)
    (refine aC (λK hK=>?_);go_simp)
    refine(mY p.silent (iY.out _ j_.out).uH _ (Wi.out _ (j_.out.trans (Kept.ext bU.out)))).mono ?_;rintro e w4 ⟨rfl,hx4⟩;have dX:=J (bU.out.trans hx4);clear hx4;refine hK.out _ _ (λ_=>dX.out) ?_;clear hK K
    (repeat first|refine cu ?_|refine dL dX.out abF ?_|refine dK dX.out ?_)
    (refine eu bT bT (λK hK=>?_);go_simp)
    have Nu:=j_;have j_:=J (Nu.out.trans (Kept.ext dX.out));rw [<-HB1.out]
    cases b1
    ·have HR:=J (show X=some ⟨6,p.silent⟩by rw [fZ.out,aO,aY])
     exact Zx
    ·have kg:=J (show X=ay (must b2 7 p.silent) (ay (must b3 5 p.name) (ay T (ay (must b4 4 lU) (must b5 4 oU))))by rw [fZ.out,bL,aX])
     refine(bq true _ _ _).mono ?_;rintro e w8 ⟨he,rfl⟩;have he:=dN.none he;subst he;refine hK.out _ _ ?_;clear hK K;refine gI ?_;have HC4:=J (tH.out.ext dX.out);clear fZ tH bU dX Nu;go_upto_region 7 with(fail);obtain⟨v,hv⟩:∃v,v=fB p.vars p.silent:=⟨_,rfl⟩;have HV:=J hv;clear hv;refine gM (λw1=>Ext w4 w1) [(0,2),(1,2),(2,1),(5,2),(6,1),(3,0),(4,2),(7,0)] ?_;refine gN ?_;have bU:=J (show Ext w4 w4.drew from(kR _ w4).drew)
     (repeat first|refine cu ?_|refine dL bU.out abF ?_|refine dK bU.out ?_)
     (refine aC (λK hK=>?_);go_simp)
     refine(mD cb g (fB p.vars) E0 0 p.silent _ (HC4.out.ext bU.out)).mono ?_;rintro e w5 ⟨rfl,rfl⟩;rw [<-HV.out];refine hK.out _ _ (λ_=>bU.out) ?_;clear hK K
     (repeat first|refine cu ?_|refine dL bU.out abF ?_|refine dK bU.out ?_)
     (refine eu bT bT (λK hK=>?_);go_simp)
     have Nu:=j_;have j_:=J (Nu.out.trans (Kept.ext bU.out))
     by_cases hv0:v=0
     ·have qv:(v !=0)=false:=by simp [hv0]
      have qj:=J (show X=ay (must b3 5 p.name) (ay T (ay (must b4 4 lU) (must b5 4 oU)))by rw [kg.out,show b2=true by rw [HB2.out,<-HV.out,hv0];rfl,bL,aX])
      try rw [qv]
      try simp only [Bool.not_false]
      refine(bq true _ _ _).mono ?_;rintro e w8 ⟨he,rfl⟩;have he:=dN.none he;subst he;refine hK.out _ _ ?_;clear hK K;refine gI ?_;have HSK:=J (show fB p.vars p.silent=0 by rw [<-HV.out,hv0]);have HC5:=J (HC4.out.ext bU.out);generalize w4.drew=w5 at j_ HC5⊢;clear kg hv0 qv HC4 bU Nu HV;go_upto_region 8 with(fail);obtain⟨z,hz⟩:∃z,z=jW (eT p):=⟨_,rfl⟩;have HZ:=J hz;clear hz;refine gM (λw1=>Ext w5 w1) [(0,1),(3,2),(4,1),(1,0),(2,2),(5,0)] ?_;refine gN ?_;have bU:=J (show Ext w5 w5.drew from(kR _ w5).drew)
      (repeat first|refine cu ?_|refine dL bU.out aeX ?_|refine dK bU.out ?_)
      (refine aC (λK hK=>?_);go_simp)
      refine(nU (⟨p.name,cse,cst,cv,cs,⟨tA,tn,tc⟩,uf,jG,p.silent,cq,⟨zA,zn,zc⟩⟩:Pc) p N _ (JR.out _ (j_.out.trans (Kept.ext bU.out))) (iY.out _ (j_.out.trans (Kept.ext bU.out)))).mono ?_;rintro e w6 ⟨rfl,hx6⟩;rw [<-HZ.out];have dX:=J (bU.out.trans hx6);clear hx6;refine hK.out _ _ (λ_=>dX.out) ?_;clear hK K;have Nu:=j_
      by_cases hz:z<=1000
      ·have sU:=J (show X=ay T (ay (must b4 4 lU) (must b5 4 oU))by rw [qj.out,show b3=true by rw [HB3.out,<-HZ.out];exact decide_eq_true hz,bL,aX])
       (repeat first|refine cu ?_|refine dL dX.out aeX ?_|refine dK dX.out ?_)
       (refine eu bT bT (λK hK=>?_);go_simp)
       have j_:=J (Nu.out.trans (Kept.ext dX.out));refine(bq true _ _ _).mono ?_;rintro e w8 ⟨he,rfl⟩;have he:=dN.none he;subst he;refine hK.out _ _ ?_;clear hK K;refine gI ?_;have J4:=J (HC5.out.ext dX.out);clear qj hz HC5 bU dX Nu HZ;refine Vp ?_;intro hcP jh mI mH;go_wp2_with fail;refine(Ux cb g (fB p.vars) (⟨p.name,cse,cst,cv,cs,⟨tA,tn,tc⟩,uf,jG,p.silent,cq,⟨zA,zn,zc⟩⟩:Pc) p N FK K_ hNc _ (JR.out _ j_.out) (iY.out _ j_.out) (Wi.out _ j_.out) J4.out C9.out Ki.out HSK.out).mono ?_;rintro e w7 ⟨he,hk⟩;clear hcP jh mI mH;rw [<-HT.out]at he;have j_:=J (j_.out.trans hk);clear hk J4
       cases T with
       |some f=>
        have he:=dN.some he;subst he;have HR:=J (show X=some f by rw [sU.out,aY]);exact Zy
       |none=>
        have he:=dN.none he;subst he;have HX8:=J (show X=ay (must b4 4 lU) (must b5 4 oU)by rw [sU.out,aX]);clear sU HT;refine Vp ?_;intro hcP jh mI mH;go_wp2_with fail;refine(UW w7 p.turn tA tn tc N _ (kR _ _) (JR.out _ j_.out) (iY.out _ j_.out).turn).mono ?_;rintro e w8 ⟨rfl,Iy⟩;clear hcP jh mI mH;have j_:=J (j_.out.trans (Kept.ext Iy));clear Iy;go_wp2_with fail;rw [<-ZH.out]
        cases b4
        ·have HR:=J (show X=some ⟨4,lU⟩by rw [HX8.out,aO,aY])
         exact Zx
        ·have zw:=J (show X=must b5 4 oU by rw [HX8.out,bL,aX])
         refine(bq true _ _ _).mono ?_;rintro e w8 ⟨he,rfl⟩;have he:=dN.none he;subst he;clear HX8;refine Vp ?_;intro hcP jh mI mH;obtain⟨-,-,b,off,hA,hE⟩:=(iY.out _ j_.out).pays;have HA:=J hA;have HE:=J hE;clear hA hE;have hcR:=bC (bK vT.out j_.out nD.out.2);have hzR:=aH.frozen (bK vT.out j_.out nD.out.2);have hlR:=(bK vT.out j_.out nD.out.2).lt;have hmR:=(bK vT.out j_.out nD.out.2).bF;have hhR:=bH (bK vT.out j_.out nD.out.2)
         cases zn with
         |zero=>
          have HR:=J (show X=some ⟨4,oU⟩by
           have:p.pays=.nil:=by
            have hz:=HZN.out
            cases hq:p.pays with
            |nil=>rfl
            |cons=>rw [hq]at hz;simp [SF.len]at hz
           rw [zw.out,show b5=false by rw [nC.out,this];rfl,aO])
          exact aji
         |succ m=>
          obtain⟨k,hk,hrl,hbN⟩:=IZ HE.out (by rw [<-HZN.out];exact Nat.succ_pos m);obtain rfl:=HA.out (Nat.succ_pos m);rw [<-HZN.out]at hk;have hm:=HZM.out;have hbw:=JR.out _ j_.out;simp only [Nat.add_sub_cancel]at hk;have hi1:(m:Int)<((m:Int)+1):=by omega
          have hi0:(0:Int)<(m:Int)+1:=by omega
          have Q8:=J hrl;clear hrl
          cases hq:(k==9)
          ·have HR:=J (show X=some ⟨4,oU⟩by rw [zw.out,show b5=false by rw [nC.out,Q8.out,hq],aO])
           exact aji
          ·have HR:=J (show X=none by rw [zw.out,show b5=true by rw [nC.out,Q8.out,hq],bL])
           go_wp2_with fail;refine(bq true _ _ _).mono ?_;rintro e w8 ⟨he,rfl⟩;have he:=dN.none he;subst he;clear hk hbw hcP jh mI mH;go_wp2_with fail;refine leaves_cons (f:=71) (args:=#[.pointer (some ⟨rb,0,none⟩)]) aG (by simp [go_sem]) ?_;refine(Oo ⟨rb,0,none⟩ _).mono ?_;rintro e u' w9 ⟨rfl,rfl,Aw⟩;have hre:=bX (aH.gL (bK vT.out j_.out nD.out.2) 0 #[.int .i64 0,.string ⟨#[]⟩]) Aw;refine⟨_,results_cell_row results42 _ _ rb _ _ _ _ rfl hre underlying104 rfl su,?_⟩;rw [HR.out];exact⟨rfl,HOWN.out _ _ j_.out ((Kept.putAt (kR (·=rb) _) _ _ _ (λ_=>rfl)).trans (Kept.ext Aw))⟩
      ·have HR:=J (show X=some ⟨5,p.name⟩by rw [qj.out,show b3=false by rw [HB3.out,<-HZ.out];exact decide_eq_false hz,aO,aY])
       (repeat first|refine cu ?_|refine dL dX.out aeX ?_|refine dK dX.out ?_)
       (refine eu bT bT (λK hK=>?_);go_simp)
       have j_:=J (Nu.out.trans (Kept.ext dX.out));exact Zx
     ·have qv:(v !=0)=true:=by simp [hv0]
      have qn:(v==0)=false:=by simp [hv0]
      have HR:=J (show X=some ⟨7,p.silent⟩by rw [kg.out,show b2=false by rw [HB2.out,<-HV.out,qn],aO,aY])
      try rw [qv]
      try simp only [Bool.not_true]
      exact Zx
open Go.RowKit So
theorem g_.nil (w:World) (N:Nat) (A:Option Addr):g_ w N A 0 .nil:=⟨rfl,by unfold Fits;omega,0,0,λh=>absurd h aj,trivial⟩
theorem iO.nil (w:World) (N:Nat) (A:Option Addr):iO w N A 0 .nil:=⟨rfl,by unfold Fits;omega,0,0,λh=>absurd h aj,trivial⟩
theorem tL.nil (w:World) (N:Nat) (A:Option Addr):tL w N A 0 []:=⟨rfl,by unfold Fits;omega,λv hv=>absurd hv aG,0,0,λh=>absurd h aj,λh=>absurd h aj⟩
theorem OA {w:World} {N b:Nat} {t:TypeId} {op n:Int} {name:Str} {A:Option Addr} {cap:Nat} {k:EF} (hB:aH w b t (aI op n name A k.len cap)) (hb:b<N) (h1:aL op) (h2:aL n) (h3:name.size<=maxLen) (hk:g_ w N A k.len k):g_ w N (some ⟨b,0,none⟩) 1 (.cons op n name k .nil):=by
 obtain⟨-,hf,b',off',hA,hE⟩:=hk;refine⟨rfl,by unfold Fits;omega,b,0,λ_=>rfl,hb,h1,h2,h3,⟨A,cap,b',off',?_,?_,hf,hA,hE⟩,trivial⟩
 ·rw [bH hB];simp
 ·rw [bG hB];rfl
theorem PX {w:World} {N b:Nat} {t:TypeId} {kind:Int} {name:Str} {e:EF} {low high:Int} {l x:SF} {eA:Option Addr} {ec:Nat} {lA:Option Addr} {lc:Nat} {xA:Option Addr} {xc:Nat} (hB:aH w b t (aB kind name eA e.len ec low high lA l.len lc xA x.len xc)) (hb:b<N)
 (h1:aL kind) (h2:aL low) (h3:aL high) (h4:name.size<=maxLen) (he:g_ w N eA e.len e) (hl:iO w N lA l.len l) (hx:iO w N xA x.len x):iO w N (some ⟨b,0,none⟩) 1 (.cons kind name e low high l x .nil):=by
 obtain⟨-,f1,be,oe,a1,e1⟩:=he;obtain⟨-,f2,bl,ol,a2,e2⟩:=hl;obtain⟨-,f3,bx,ox,a3,e3⟩:=hx;refine⟨rfl,by unfold Fits;omega,b,0,λ_=>rfl,hb,h1,h2,h3,h4,⟨eA,ec,lA,lc,xA,xc,be,oe,bl,ol,bx,ox,?_,?_,f1,f2,f3,a1,a2,a3,e1,e2,e3⟩,trivial⟩
 ·rw [bH hB];simp
 ·rw [bG hB];rfl
def sG:Str:=⟨#[103]⟩
def sA:Str:=⟨#[97]⟩
def sL:Str:=⟨#[108]⟩
def sW:Str:=⟨#[119]⟩
def e0F:EF:=.cons 0 0 E0 .nil .nil
def aeL:SF:=.cons 7 E0 .nil 0 0 .nil .nil .nil
def TG (p:Pr):Bool:=decide (jW (eT p)<=1200)&&decide ((p.bY.length:Int)<=20)
abbrev pV (n:Nat):Pc:=⟨sG,2,⟨some ⟨n+1+1,0,none⟩,2,2⟩,⟨some ⟨n+1+1+1,0,none⟩,2,2⟩,⟨none,0,0⟩,⟨some ⟨n+1+1+1+1,0,none⟩,1,1⟩,⟨none,0,0⟩,⟨none,0,0⟩,sW,⟨none,0,0⟩,⟨some ⟨n+1+1+1+1+1+1,0,none⟩,1,1⟩⟩
theorem jw {n:Int} (h:-10<=n/\n<=10):aL n:=by unfold aL;omega
theorem gV (s:Str) (h:s.size<=10):s.size<=maxLen:=by unfold maxLen;omega
open Go.RowKit
structure Ins where (op a b c:Int)
abbrev Ins.cells (i:Ins):Array Value:=#[.int .i64 i.op,.int .i64 i.a,.int .i64 i.b,.int .i64 i.c]
attribute [go_sem] Ins.cells
theorem xS:jQ prog 77=true:=by kernel_rfl
theorem uM:sizeT prog 77=some 4:=by kernel_rfl
theorem EK {dst:Option Tmp} {ty':TypeId} {x:Operand} {pos:String} {after:Array Edge} {guard:Option (Nat×Bool)} {a:Act} {w:World} {K:Act->World->Prop} {Q:Exit->Act->World->Prop} (hx:iy (a.eval x)=true) (hh:has w (bE (a.eval x)) (bJ (a.eval x)) 4=true):
 Oper.wp prog {dst:=dst,op:=.load 77 x,type:=ty',pos:=pos,after:=after,guard:=guard} a w K Q=K (a.put dst (.agg (gets w (bE (a.eval x)) (bJ (a.eval x)) 4))) w:=dJ 4 xS uM hx hh
theorem Mf {ρ:Operand->Value} {dst:Option Tmp} {ty':TypeId} {x:Operand} {pos:String} {after:Array Edge} {guard:Option (Nat×Bool)} {w:World} (hx:iy (ρ x)=true) (hh:has w (bE (ρ x)) (bJ (ρ x)) 4=true):
 (execOp ρ {dst:=dst,op:=.load 77 x,type:=ty',pos:=pos,after:=after,guard:=guard}).run prog w=.ok (.value (.agg (gets w (bE (ρ x)) (bJ (ρ x)) 4))) w:=aZ 4 xS uM hx hh
attribute [go_sem] xS uM
attribute [go_sem↓high] EK Mf
attribute [go_sem high] EK
theorem rz:jQ prog 49=true:=by kernel_rfl
theorem CQ:sizeT prog 49=some 3:=by kernel_rfl
theorem G7 {dst:Option Tmp} {ty':TypeId} {x:Operand} {pos:String} {after:Array Edge} {guard:Option (Nat×Bool)} {a:Act} {w:World} {K:Act->World->Prop} {Q:Exit->Act->World->Prop} (hx:iy (a.eval x)=true) (hh:has w (bE (a.eval x)) (bJ (a.eval x)) 3=true):
 Oper.wp prog {dst:=dst,op:=.load 49 x,type:=ty',pos:=pos,after:=after,guard:=guard} a w K Q=K (a.put dst (.agg (gets w (bE (a.eval x)) (bJ (a.eval x)) 3))) w:=dJ 3 rz CQ hx hh
theorem PL {ρ:Operand->Value} {dst:Option Tmp} {ty':TypeId} {x:Operand} {pos:String} {after:Array Edge} {guard:Option (Nat×Bool)} {w:World} (hx:iy (ρ x)=true) (hh:has w (bE (ρ x)) (bJ (ρ x)) 3=true):
 (execOp ρ {dst:=dst,op:=.load 49 x,type:=ty',pos:=pos,after:=after,guard:=guard}).run prog w=.ok (.value (.agg (gets w (bE (ρ x)) (bJ (ρ x)) 3))) w:=aZ 3 rz CQ hx hh
attribute [go_sem] rz CQ
attribute [go_sem↓high] G7 PL
attribute [go_sem high] G7
structure Ins.ok (i:Ins):Prop where
 op:aL i.op
 a:aL i.a
 b:aL i.b
 c:aL i.c
def fV (l:List Ins):List Value:=l.flatMap λd=>d.cells.toList
theorem je (l:List Ins):(fV l).length=l.length*4:=by
 induction l with
 |nil=>rfl
 |cons d l ih=>simp only [fV,List.flatMap_cons,List.length_append]at ih⊢;rw [ih];simp;omega
theorem RI:∀(l:List Ins) (k:Nat) (hk:k<l.length),((fV l).drop (k*4)).take 4=(l[k]).cells.toList
 |d::l,0,_=>by simp [fV]
 |d::l,k+1,hk=>by
  have ih:=RI l k (by simpa using hk)
  have e:(fV (d::l)).drop ((k+1)*4)=(fV l).drop (k*4):=by
   rw [show(k+1)*4=4+k*4 by omega,<-List.drop_drop]
   rfl
  rw [e,ih];simp
theorem Row.ins {w:World} {b off:Nat} {l:List Ins} (h:Row w b off (fV l)) (k:Nat) (hk:k<l.length):Proofs.YtbfbabbcdochjaaGreatDoor.has w b (off+k*4) 4=true/\gets w b (off+k*4) 4=(l[k]).cells:=by
 have:=h.sub (k*4) 4 (by rw [je];omega);rw [RI l k hk]at this
 simpa using this
def aM (l:List Int):List Value:=l.map λx=>.int .i32 x
theorem Row.mem {w:World} {b off:Nat} {l:List Int} (h:Row w b off (aM l)) (k:Nat) (hk:k<l.length):w.cell? ⟨b,off+k,none⟩=some (.int .i32 l[k]):=by
 rw [h.cell k (by simpa [aM]using hk)];simp [aM,hk]
def uF (pc halt n:Int):Bool:=decide (1<=n)&&decide (n<=256)&&decide (0<=pc)&&decide (pc<=2048)&&decide (0<=halt)&&decide (halt<=2)
abbrev aN (pc:Int) (A:Option Addr) (n cap:Nat) (halt:Int):Array Value:=#[.int .i64 pc,.slice A n cap,.int .i64 halt]
attribute [go_sem] aN
theorem jk {pc halt:Int} {n:Nat} (h:uF pc halt n=true):1<=n/\n<=256/\0<=pc/\pc<=2048/\0<=halt/\halt<=2:=by
 simp [uF]at h
 omega
theorem aH.row {w:World} {g:Nat} {E:TypeId} {l:List Value} (h:aH w g E l.toArray):Row w g 0 l:=by simpa using Row.eZ h
def Ins.at (i:Ins):Nat->Int|0=>i.op|1=>i.a|2=>i.b|_=>i.c
def au (n:Int):Prop:=-2147483648<=n/\n<=2147483647
end Go.Proofs.YtbfbabbcdochjaaGreatDoor
namespace Go.Proofs.YtbfbabbcdochjaaGreatDoor.Mc
open Go.RowKit
def oP (k:Nat):List UInt8:=match k with
 |0=>[110]|1=>[119,110]|2=>[119,119]|14=>[119,119]|17=>[119,110,110]|18=>[119,119,110]|19=>[112]|20=>[112,119]|21=>[112,119]|_=>[119,119,119]
def TP (k:Nat):ByteArray:=⟨(oP k).toArray⟩
structure OpsAt (w:World):Prop where
 lt:0<w.heap.size
 at_:∀k,k<22->w.cell? ⟨0,k*2+1,none⟩=some (.string (TP k))
theorem OpsAt.ext {w w':World} (h:OpsAt w) (hx:Ext w w'):OpsAt w':=
 ⟨Nat.lt_of_lt_of_le h.lt hx.size,λk hk=>(Kept.cell hx (p:=⟨0,k*2+1,none⟩) h.lt (λf=>f)).trans (h.at_ k hk)⟩
theorem OpsAt.kept {S:Nat->Prop} {w w':World} (h:OpsAt w) (hx:Kept S w w') (hs:¬S 0):OpsAt w':=
 ⟨Nat.lt_of_lt_of_le h.lt hx.size,λk hk=>(Kept.cell hx (p:=⟨0,k*2+1,none⟩) h.lt hs).trans (h.at_ k hk)⟩
def isOp (op:Int):Bool:=decide (0<=op)&&decide (op<22)
theorem XM (op:Int) (w:World):Calls prog 114 #[.int .i64 op] w λe w'=>e=.returned (.bool (isOp op))/\w=w':=by
 go_enter func114,ntmps114;go_wp2_with fail
 all_goals go_ret
 all_goals refine⟨aW ?_,rfl⟩
 all_goals (rw [Bool.eq_iff_iff];simp [isOp];omega)
def wO (n:Int):Bool:=decide (-2147483648<=n)&&decide (n<=2147483647)
theorem Ox (n:Int) (w:World):Calls prog 117 #[.int .i64 n] w λe w'=>e=.returned (.bool (wO n))/\w=w':=by
 go_enter func117,ntmps117;go_wp2_with fail
 all_goals go_ret
 all_goals refine⟨aW ?_,rfl⟩
 all_goals (rw [Bool.eq_iff_iff];simp [wO];omega)
theorem Rf:jQ prog 180=true:=by kernel_rfl
theorem Mh:sizeT prog 180=some 3:=by kernel_rfl
attribute [go_sem] Rf Mh
theorem Va (i:Ins) (w:World):Calls prog 116 #[.agg i.cells] w λe w'=>e=.returned (.agg #[.int .i64 i.a,.int .i64 i.b,.int .i64 i.c])/\Ext w w':=by
 go_enter func116,ntmps116;go_wp2_with fail;refine fD results116 rfl rfl Rf (by exact Mh) (aH.new' _ _ _ _ aG) ⟨rfl,?_⟩;exact((kR _ w).alloc _).alloc _
def TN (i:Ins):ByteArray:=if isOp i.op=true then TP i.op.toNat else⟨#[]⟩
theorem Iq (i:Ins) (w:World) (hops:OpsAt w):Calls prog 115 #[.agg i.cells] w λe w'=>e=.returned (.string (TN i))/\Ext w w':=by
 have hx0:Ext w _:=(kR _ w).alloc (.cells i.cells 77);have nQ:=J (hops.ext hx0);clear hops
 by_cases h:isOp i.op=true
 ·have hb:=h
  simp [isOp]at hb;obtain⟨op,a,b,c⟩:=i;obtain⟨k,rfl⟩:∃k:Nat,op=k:=⟨op.toNat,by simp at hb;omega⟩;simp at hb;have hk:k<22:=by omega
  have XB:(k:Int)<22:=by omega
  have hq:TN ⟨k,a,b,c⟩=TP k:=by simp only [TN,if_pos h];rfl
  rw [hq];have HH:=J h;have hcl:=nQ.out.at_ k hk;clear h hq hb;go_enter func115,ntmps115;exact afI
 ·have hf:isOp i.op=false:=by simpa using h
  have hq:TN i=⟨#[]⟩:=by simp only [TN,if_neg h]
  rw [hq];have HH:=J hf;clear h hf hq;go_enter func115,ntmps115;exact afI
open Go.RowKit
def GJ (c:UInt8) (n size words:Int):Bool:=if c=119 then decide (0<=n)&&decide (n<words)else if c=112 then decide (0<=n)&&decide (n<size)else wO n
def pR (h:List UInt8) (k:Nat) (n size words:Int):Bool:=match h[k]? with|some c=>GJ c n size words|none=>n==0
def tq (i:Ins):Nat->Int|0=>i.a|1=>i.b|_=>i.c
def ji (i:Ins):Bool:=if i.op=0 then(i.a==0||i.a==1)else if i.op=17 then decide (i.b<=i.c)else if i.op=18 then decide (0<=i.c)else true
def bM (i:Ins) (size words:Int):Bool:=isOp i.op&&(pR (oP i.op.toNat) 0 (tq i 0) size words&&pR (oP i.op.toNat) 1 (tq i 1) size words&&pR (oP i.op.toNat) 2 (tq i 2) size words)&&ji i
theorem I_ {i:Ins} {size words:Int} {j:Nat} (hj:j<3) (h:pR (oP i.op.toNat) j (tq i j) size words=false):bM i size words=false:=by
 unfold bM
 rcases(by omega:j=0∨j=1∨j=2)with rfl|rfl|rfl<;>simp [h]
theorem L_ {i:Ins} {size words:Int} (ho:isOp i.op=true) (h:∀j,j<3->pR (oP i.op.toNat) j (tq i j) size words=true):bM i size words=ji i:=by
 unfold bM;rw [ho,h 0 aj,h 1 aj,h 2 aj];simp
theorem alj (i:Ins) (k:Nat) (hk:k<3) (w:World):(Instr.index 180 (.agg #[.int .i64 i.a,.int .i64 i.b,.int .i64 i.c]) (.int .i64 k)).run prog w=.ok (.int .i64 (tq i k)) w:=by
 rcases(by omega:k=0∨k=1∨k=2)with rfl|rfl|rfl<;>kernel_rfl
theorem Xw (k:Nat):(oP k).length<=3:=by
 unfold oP
 split<;>simp
theorem DX (i:Ins) (size words:Int) (w:World) (hops:OpsAt w):Calls prog 67 #[.agg i.cells,.int .i64 size,.int .i64 words] w λe w'=>e=.returned (.bool (bM i size words))/\Ext w w':=by
 have hx0:Ext w _:=(kR _ w).alloc (.cells i.cells 77);have hI0:=bN w 77 i.cells;have nQ:=J (hops.ext hx0);clear hops
 by_cases h:isOp i.op=true
 ·have HH:=J h
  clear h;obtain⟨R,hR⟩:∃R,R=bM i size words:=⟨_,rfl⟩;rw [<-hR];have HR:=J hR;clear hR;go_enter func67,ntmps67;go_wp2_with fail;refine(XM _ _).mono ?_;rintro e w1 ⟨rfl,rfl⟩;rw [HH.out];go_wp2_with fail;refine(Iq i _ nQ.out).mono ?_;rintro e w2 ⟨e2,hx2⟩;obtain⟨h,hh⟩:∃h,h=oP i.op.toNat:=⟨_,rfl⟩;replace e2:e=.returned (.string ⟨h.toArray⟩):=by rw [e2,TN,if_pos HH.out,hh];rfl
  subst e2;have hlen:h.length<=3:=by rw [hh];exact Xw _
  have HHN:=J hh;clear hh;have hI2:=bX hI0 hx2;have hh2:=bH hI2;have hg2:=bG hI2;go_wp2_with fail;refine(Va i _).mono ?_;rintro e w3 ⟨rfl,hx3⟩;have y3:=(hx0.trans hx2).trans hx3;have hI3:=bX hI2 hx3;clear hI0 hI2 hh2 hg2 hx0 hx2 hx3;go_wp2_with fail
  go_loop [19] (λt19=>∃(k:Nat),k<=3/\t19=.int .i64 k/\(∀j,j<k->pR h j (tq i j) size words=true)) (λt19=>3 - (intOf t19).toNat)
  case atStart=>exact⟨0,by omega,rfl,λj hj=>by omega⟩
  case round=>
   obtain⟨k,hk,rfl,acE⟩:=hrel;have HP:=J acE;clear acE
   by_cases hlt:k<3
   ·have hix:=alj i k hlt
    obtain⟨n,hn⟩:∃n,n=tq i k:=⟨_,rfl⟩;rw [<-hn]at hix;have HNn:=J hn;clear hn
    have next:pR h k n size words=true->∀j,j<k+1->pR h j (tq i j) size words=true:=λhq j hj=>by
     by_cases e:j=k
     ·subst e;rw [<-HNn.out];exact hq
     ·exact HP.out j aj
    have stop:pR h k n size words=false->R=false:=λhq=>by
     rw [HR.out];exact I_ hlt (by rw [<-HHN.out,<-HNn.out];exact hq)
    have NX:=J next
    have SP:=J stop;clear next stop
    by_cases hkl:k<h.length
    ·have akZ:(k:Int)<h.length:=by omega
     obtain⟨c,hc⟩:∃c,c=h[k]:=⟨_,rfl⟩;have hget:h[k]?=some c:=by rw [List.getElem?_eq_getElem hkl,hc]
     have hcN:((⟨h.toArray⟩:ByteArray)[k]'(show k<h.toArray.size by simpa using hkl)).toNat=c.toNat:=by rw [hc];rfl
     have HG:=J hget;clear hget hc
     by_cases h1:c=119
     ·subst h1
      replace hcN:((⟨h.toArray⟩:ByteArray)[k]'(show k<h.toArray.size by simpa using hkl)).toNat=119:=hcN
      by_cases hn0:0<=n
      ·by_cases hn1:n<words
       ·have ok:pR h k n size words=true:=by simp [pR,GJ,HG.out,hn0,hn1]
        have OK:=J ok;clear ok;go_wp2_with fail
        go_round
        case rel=>exact⟨k+1,hlt,by go_num,NX.out OK.out⟩
        case measure=>simp only [intOf];omega
       ·have ok:pR h k n size words=false:=by simp [pR,GJ,HG.out,hn1]
        exact Sz
      ·have ok:pR h k n size words=false:=by simp [pR,GJ,HG.out,hn0]
       exact Sz
     ·by_cases h2:c=112
      ·subst h2
       replace hcN:((⟨h.toArray⟩:ByteArray)[k]'(show k<h.toArray.size by simpa using hkl)).toNat=112:=hcN
       by_cases hn0:0<=n
       ·by_cases hn1:n<size
        ·have ok:pR h k n size words=true:=by simp [pR,GJ,HG.out,hn0,hn1]
         have OK:=J ok;clear ok;go_wp2_with fail
         go_round
         case rel=>exact⟨k+1,hlt,by go_num,NX.out OK.out⟩
         case measure=>simp only [intOf];omega
        ·have ok:pR h k n size words=false:=by simp [pR,GJ,HG.out,hn1]
         exact Sz
       ·have ok:pR h k n size words=false:=by simp [pR,GJ,HG.out,hn0]
        exact Sz
      ·have ok:pR h k n size words=wO n:=by simp [pR,GJ,HG.out,h1,h2]
       have hc1:¬c.toNat=119:=λe=>h1 (UInt8.toNat_inj.1 e);have hc2:¬c.toNat=112:=λe=>h2 (UInt8.toNat_inj.1 e);generalize c.toNat=cn at hcN hc1 hc2;have b1:(cn==119)=false:=by simpa using hc1
       have b2:(cn==112)=false:=by simpa using hc2
       have b1':((cn:Int)==119)=false:=by simp;omega
       have b2':((cn:Int)==112)=false:=by simp;omega
       have OK:=J ok;clear ok hc1 hc2 h1 h2;go_wp2_with fail;refine(Ox n _).mono ?_;rintro e w4 ⟨rfl,rfl⟩
       cases hi:wO n
       ·have HI:=J hi
        clear hi;go_wp2_with fail;go_ret;exact⟨aW (SP.out (OK.out.trans HI.out)).symm,y3⟩
       ·have HI:=J hi
        clear hi;go_wp2_with fail
        go_round
        case rel=>exact⟨k+1,hlt,by go_num,NX.out (OK.out.trans HI.out)⟩
        case measure=>simp only [intOf];omega
    ·have akZ:¬(k:Int)<h.length:=by omega
     have ok:pR h k n size words=(n==0):=by simp [pR,List.getElem?_eq_none (show h.length<=k by omega)]
     have OK:=J ok;clear ok
     cases hi:(n==0)
     ·have HI:=J hi
      go_wp2_with fail;go_ret;exact⟨aW (SP.out (OK.out.trans HI.out)).symm,y3⟩
     ·have HI:=J hi
      go_wp2_with fail
      go_round
      case rel=>exact⟨k+1,hlt,by go_num,NX.out (OK.out.trans HI.out)⟩
      case measure=>simp only [intOf];omega
   ·obtain rfl:k=3:=by omega
    have Xt:=L_ HH.out (by rw [<-HHN.out];exact HP.out);rw [<-HR.out]at Xt;have HR3:=J Xt;clear Xt;have hc3:=bC hI3;have e0:(i.op==0)=true∨(i.op==0)=false:=by cases(i.op==0)<;>simp
    have e17:(i.op==17)=true∨(i.op==17)=false:=by cases(i.op==17)<;>simp
    have e18:(i.op==18)=true∨(i.op==18)=false:=by cases(i.op==18)<;>simp
    have E17:=J e17;have E18:=J e18;clear e17 e18
    rcases e0 with e0|e0
    ·go_wp2_with fail
     all_goals go_ret
     all_goals refine⟨aW ?_,y3⟩
     all_goals (rw [HR3.out,ji,if_pos (by simpa using e0)]<;>simp [*])
    ·rcases E17.out with e17|e17
     ·go_wp2_with fail
      go_ret;refine⟨aW ?_,y3⟩;rw [HR3.out,ji,if_neg (by simpa using e0),if_pos (by simpa using e17)]
     ·rcases E18.out with e18|e18
      ·go_wp2_with fail
       go_ret;refine⟨aW ?_,y3⟩;rw [HR3.out,ji,if_neg (by simpa using e0),if_neg (by simpa using e17),if_pos (by simpa using e18)]
      ·go_wp2_with fail
       go_ret;refine⟨aW ?_,y3⟩;rw [HR3.out,ji,if_neg (by simpa using e0),if_neg (by simpa using e17),if_neg (by simpa using e18)]
 ·have hf:isOp i.op=false:=by simpa using h
  have hq:bM i size words=false:=by simp [bM,hf]
  rw [hq];have HH:=J hf;clear h hf hq;go_enter func67,ntmps67;exact afI
end Go.Proofs.YtbfbabbcdochjaaGreatDoor.Mc
