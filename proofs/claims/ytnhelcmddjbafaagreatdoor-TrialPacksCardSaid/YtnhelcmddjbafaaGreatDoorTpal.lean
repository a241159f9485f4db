import Derived.Test.YtnhelcmddjbafaaGreatDoorTpak
set_option maxHeartbeats 4000000
set_option maxRecDepth 100000
open Go.Proofs.Tryz
namespace Go.Proofs.YtnhelcmddjbafaaGreatDoor
open Go.RowKit Sq
variable{base:Nat}
def LN (s:i_):Prop:=s.n<=s.c/\(s.A=none->s.c=0)
structure Zc (c:Pc):Prop where
 vars:LN c.vars
 start:LN c.start
 turn:LN c.turn
 params:LN c.params
 cd:LN c.cd
 quiet:LN c.quiet
 bO:LN c.bO
def Y8 (c:Pc):Nat->i_|0=>c.start|1=>c.turn|2=>c.cd|3=>c.quiet|_=>c.bO
def zM (p:Pr):Nat->List Str|2=>p.params.map Vr.name|3=>[p.silent]|_=>[]
theorem nj.part {w:World} {N:Nat} {c:Pc} {p:Pr} (h:nj w N c p) (i:Nat):jm w N (Y8 c i).A (Y8 c i).n (partOf p i):=by
 unfold Y8 partOf
 split
 .exact h.start
 .exact h.turn
 .exact h.cd
 .exact h.quiet
 .rename_i h0 h1 h2 h3
  split
  .exact absurd rfl h0
  .exact absurd rfl h1
  .exact absurd rfl h2
  .exact absurd rfl h3
  .exact h.bO
theorem aap (p:Pr) (i:Nat):oN p i=a_ (fm p.vars) (zM p i):=by
 match i with
 |0=>rfl
 |1=>rfl
 |2=>rfl
 |3=>rfl
 |_+4=>rfl
def EK (p:Pr) (M:Option nZ) (i:Nat):Option nZ:=(List.range' i (5 - i)).foldr (λj r=>aj (kU p j) r) M
theorem U7 (p:Pr) (M:Option nZ) (i:Nat) (hi:i<5):EK p M i=aj (kU p i) (EK p M (i+1)):=by
 exact Qg
theorem GZ (p:Pr):check p=aj (must (dq p.name) 6 p.name) (aj (must (iL p.aL 2 8) 2 ur) (aj (must ((p.bY.length:Int)==p.aL) 3 gF) (aj (must (p.bY.all (λn=>iL n 1 2147483647)) 2 gF) (aj (aj (eG [] p.vars) (must (decide (cells p.vars<=64)) 8 qP))
 (aj (aj (must (decide (p.params.length<=4)) 8 fJ) (aj (dE (fm p.vars) [] p.params) (aj (must (decide (mL p.params<=512)) 8 fJ) (aj (must (dq p.silent) 6 p.silent) (must (fm p.vars p.silent==0) 7 p.silent))))) (aj (must (decide (jc (eo p)<=1000)) 5 p.name) (EK p (aj (must (ends p.turn) 4 kN) (must (jz p.bO) 4 nW)) 0))))))):=by
 rw [check,ka,mF];simp only [du]
 rfl
theorem ui:∀(l pre:List Vr),NZ (eG pre l)
 |[],_=>by rw [eG];exact NZ.none
 |v::r,pre=>by
  rw [eG];exact NZ.aj (NZ.must ap) (NZ.aj (NZ.must ap) (NZ.aj (NZ.must ap) (ui r _)))
theorem uh (κ:Kn):∀(l pre:List Vr),NZ (dE κ pre l)
 |[],_=>by rw [dE];exact NZ.none
 |v::r,pre=>by
  rw [dE];exact NZ.aj (NZ.must ap) (NZ.aj (NZ.must ap) (NZ.aj (NZ.must ap) (NZ.aj (NZ.must ap) (uh κ r _))))
theorem R3 {w:World} {T:TypeId} {A:Option Addr} {n c:Nat} {l:List Str} (ho:w.ownsRow base T 1 (.slice A n c) n (bZ xN l)) (hn:n=l.length) (h4:n<=100):dN w w.heap.size A n l/\(A=none->c=0):=by
 obtain⟨B,bc,e,hB,hS⟩:=J7 ho hn h4;injection e with e1 e2 e3;subst e1 e3;refine⟨hS,λh=>?_⟩
 rcases ho.2 with⟨hv,_⟩|⟨g,c',cV,hv,_⟩
 .injection hv
 .injection hv with q1
  rw [h]at q1
  cases q1
theorem Kc (p:Pr) (i:Nat) (h:p.params.length<=4):(zM p i).length<=40+0:=by
 unfold zM
 split
 .rw [gu];omega
 .simp
 .simp
theorem dN.agS {w w':World} {A:Option Addr} {n:Nat} {l:List Str} (h:dN w w.heap.size A n l) (hx:al w w'):dN w' w'.heap.size A n l:=(h.ext hx).mono hx.size
abbrev pv (c:Pc):Array Value:=#[c.start.v,c.turn.v,c.cd.v,c.quiet.v,c.bO.v]
theorem R7 (c:Pc) (i:Nat) (hi:i<5):(pv c)[i]?=some ((Y8 c i).v):=by
 exact Qg
theorem NF (c:Pc) (p:Pr) (N:Nat) (w:World) (hN:N<=w.heap.size) (h:nj w N c p) (qM:Zc c):Calls prog 100 #[.agg c.cells] w λe w'=>e=.returned (.agg (fM (check p)))/\al w w':=by
 obtain⟨X,hX⟩:=nm' (check p);rw [<-hX];replace hX:=hX.trans (GZ p);obtain⟨b0,tB⟩:=nm' (dq p.name);obtain⟨b1,hJ⟩:=nm' (iL p.aL 2 8);obtain⟨b2,jo⟩:=nm' (((p.bY.length:Int)==p.aL));obtain⟨V,hV⟩:=nm' (aj (eG [] p.vars) (must (decide (cells p.vars<=64)) 8 qP));obtain⟨P,hP⟩:=nm' (aj (must (decide (p.params.length<=4)) 8 fJ) (aj (dE (fm p.vars) [] p.params) (aj (must (decide (mL p.params<=512)) 8 fJ) (aj (must (dq p.silent) 6 p.silent) (must (fm p.vars p.silent==0) 7 p.silent)))));obtain⟨b3,Pa⟩:=nm' (decide (jc (eo p)<=1000));obtain⟨b4,Vs⟩:=nm' (ends p.turn);obtain⟨b5,DY⟩:=nm' (jz p.bO);obtain⟨M,hM⟩:=nm' (aj (must b4 4 kN) (must b5 4 nW));obtain⟨T,hT⟩:=nm' (EK p M 0);obtain⟨R1,g_⟩:=nm' (aj V (aj P (aj (must b3 5 p.name) T)));rw [<-tB,<-hJ,<-jo,<-Pa,<-Vs,<-DY,<-hV,<-hP,<-hM,<-hT,<-g_]at hX;have LY:=J (show NZ V by rw [hV];exact NZ.aj (ui _ _) (NZ.must ap));have HNP:=J (show NZ P by rw [hP];exact NZ.aj (NZ.must ap) (NZ.aj (uh _ _ _) (NZ.aj (NZ.must ap) (NZ.aj (NZ.must ap) (NZ.must ap)))))
 have Di:=J (show P=none->p.params.length<=4 by
  intro e;rw [hP,ay]at e
  simpa using dt.1 e.1)
 have⟨HX,LP,Ts,nQ,HV,HP,tM,uy,tN,HM,HT,FP⟩:=J12 hX tB hJ jo hV hP Pa Vs DY hM hT g_;clear hX tB hJ jo Pa Vs DY hV hP hM hT g_;have Ef:=J qM;obtain⟨cn,jY,⟨kA,kn,kc⟩,⟨vA,vn,vc⟩,cs,⟨tA,tn,tc⟩,⟨A,n,cc⟩,iD,mj,cq,⟨zA,zn,zc⟩⟩:=c;obtain rfl:cn=p.name:=h.name;obtain rfl:mj=p.silent:=h.silent;obtain rfl:jY=p.aL:=h.aL;have aF:=(dY w (.cells (Pc.cells (⟨p.name,p.aL,⟨kA,kn,kc⟩,⟨vA,vn,vc⟩,cs,⟨tA,tn,tc⟩,⟨A,n,cc⟩,iD,p.silent,cq,⟨zA,zn,zc⟩⟩:Pc)) 39)).alloc (.cells #[.int .i64 0,.string ⟨#[]⟩] 166);have hB:=(bN w 39 (Pc.cells (⟨p.name,p.aL,⟨kA,kn,kc⟩,⟨vA,vn,vc⟩,cs,⟨tA,tn,tc⟩,⟨A,n,cc⟩,iD,p.silent,cq,⟨zA,zn,zc⟩⟩:Pc))).alloc (.cells #[.int .i64 0,.string ⟨#[]⟩] 166);have hD:=ai.ea (w.alloc (.cells (Pc.cells (⟨p.name,p.aL,⟨kA,kn,kc⟩,⟨vA,vn,vc⟩,cs,⟨tA,tn,tc⟩,⟨A,n,cc⟩,iD,p.silent,cq,⟨zA,zn,zc⟩⟩:Pc)) 39)) 166 #[.int .i64 0,.string ⟨#[]⟩] (w.heap.size+1) aB;have⟨jh,fX,AA⟩:=J3' (h.ext aF hN) (ax hN aF.size) h.B7;obtain⟨hn,hf,hok,b,off,hA,hE⟩:=h.bY.ext aF;have hm:=hf.max ad;have⟨HN,HA,HE,rX⟩:=J4' (show kn=p.bY.length from hn) hA hE (show n=p.params.length from h.params.1);have hnm:=Fits.max (show Fits n 40 from h.params.2.1) ad;have hzm:=Fits.max (show Fits zn 112 from h.bO.2.1) ad;have ZE:=J (show zn=p.bO.len from h.bO.1);clear hn hA hE hok hf h qM;go_enter func100,ntmps100;go_upto_region 1 with(fail);generalize hW:((w.alloc (.cells (Pc.cells (⟨p.name,p.aL,⟨kA,kn,kc⟩,⟨vA,vn,vc⟩,cs,⟨tA,tn,tc⟩,⟨A,n,cc⟩,iD,p.silent,cq,⟨zA,zn,zc⟩⟩:Pc)) 39)).alloc (.cells #[.int .i64 0,.string ⟨#[]⟩] 166))=W at aF hB hD HE jh fX⊢;clear hW;obtain⟨rb,mC⟩:=nm' (w.heap.size+1);rw [<-mC]at hD⊢;have⟨AB,HD,dS,HB⟩:=J4' (show w.heap.size<=rb by omega) hD aF hB;clear hD aF mC hB;generalize w.heap.size=pb at HB⊢;have cy:=J (kR (λ_=>False) W);refine FD ?_;intro dW fE gl gg gY lh lf gU;go_wp2_with fail;refine aoS (lQ p.name AA.o _) λw1 aw=>?_;clear dW fE gl gg gY lh lf gU;have cy:=J (cy.o.trans aw);clear aw;rw [<-LP.o];refine FD ?_;intro dW fE gl gg gY lh lf gU
 cases b0
 .have HR:=J (show X=some ⟨6,p.name⟩by rw [HX.o,aM,aT])
  exact Dc
 .have ji:=J (show X=aj (must b1 2 ur) (aj (must b2 3 gF) (aj (must (p.bY.all (λn=>iL n 1 2147483647)) 2 gF) R1))by rw [HX.o,bt,aS])
  clear HX;go_wp2_with fail;refine aoT (pX _ _ _ _) ?_;rw [<-Ts.o]
  cases b1
  .have HR:=J (show X=some ⟨2,ur⟩by rw [ji.o,aM,aT])
   exact Dc
  .have gf:=J (show X=aj (must b2 3 gF) (aj (must (p.bY.all (λn=>iL n 1 2147483647)) 2 gF) R1)by rw [ji.o,bt,aS])
   clear ji;have jo:((kn:Int)==p.aL)=b2:=by rw [nQ.o,HN.o]
   have MC:((kn:Int) !=p.aL)=!b2:=by unfold bne;rw [jo]
   cases b2
   .have HR:=J (show X=some ⟨3,gF⟩by rw [gf.o,aM,aT])
    exact Dc
   .have gq:=J (show X=aj (must (p.bY.all (λn=>iL n 1 2147483647)) 2 gF) R1 by rw [gf.o,bt,aS])
    clear gf LP Ts nQ;go_wp2_with fail;clear jo MC dW fE gl gg gY lh lf gU;have HXS:=cy;clear cy
    go_loopw [3] (λt3 wr=>∃(j:Nat),j<=kn/\t3=.int .i64 j/\aj (must ((p.bY.drop j).all (λn=>iL n 1 2147483647)) 2 gF) R1=X/\al W wr) (λt3 _=>kn - (intOf t3).toNat)
    case atStart=>exact⟨0,cI _,rfl,gq.o.symm,HXS.o⟩
    case round=>
     obtain⟨j,hj,rfl,bw,hx⟩:=hrel;have cy:=J hx;have ca:=J bw;clear hx bw HXS gq;refine FD ?_;intro dW fE gl gg gY lh lf gU
     by_cases aP:j<kn
     .have d_:j<p.bY.length:=by have:=HN.o;omega
      have gD:(j:Int)<kn:=by omega
      obtain rfl:=HA.o ad;have aE:=(HE.o ad).2.ext cy.o;have hci:=Wc aE j d_;have gB:=aE.lt;obtain⟨x,fj⟩:=nm' (p.bY[j]);have oc:p.bY.drop j=x::p.bY.drop (j+1):=by rw [fj];exact q_ d_
      rw [<-fj]at hci;have bw:=ca.o;rw [oc,List.all_cons]at bw;have ca:=J bw;clear aE fj oc bw;go_wp2_with fail;refine aoT (pX _ _ _ _) ?_;obtain⟨q,hq⟩:=nm' (iL x 1 2147483647);rw [<-hq]at ca⊢;clear hq
      cases q
      .have HR:=J (show X=some ⟨2,gF⟩by rw [<-ca.o,Bool.false_and,aM,aT])
       exact Dc
      .have HA2:=J ca.o
       go_wp2_with fail;exact⟨⟨j+1,aP,by go_num,by rw [rf]at HA2;exact HA2.o,cy.o⟩,by simp only [intOf];omega⟩
     .obtain rfl:j=kn:=by omega
      have eU:=J (show X=aj V (aj P (aj (must b3 5 p.name) T))by rw [<-FP.o,<-ca.o,HN.o,tp,List.all_nil,bt,aS]);clear ca FP aP hj;go_wp2_with fail;refine aoS (Sy p.vars vA vn vc N _ Ef.o.vars.1 (ax fX.o cy.o.size) (jh.o.ext cy.o fX.o).vars) λw2 bd=>?_;clear dW fE gl gg gY lh lf gU;have cy:=J (cy.o.trans bd);clear bd;rw [<-HV.o]
      cases V with
      |some f=>
       obtain⟨fe,fn⟩:=f;have HNF:=J (NZ.o LY.o rfl);have HR:=J (show X=some ⟨fe,fn⟩by rw [eU.o,aT]);refine afI ?_;intro y3 hV;go_upto_region 13 with(fail);exact akg
      |none=>
       have kv:=J (show X=aj P (aj (must b3 5 p.name) T)by rw [eU.o,aS]);clear eU HV LY;refine Lb ?_;intro y3 hV;go_upto_region 13 with(fail);generalize (w2.alloc (.cells #[.int .i64 0,.string ⟨#[]⟩] 166))=W3 at y3 hV⊢;refine zy7 ?_;clear hV y3 cy;intro fb fL zV eE K hK;rintro e2 w4 ⟨rfl,eS⟩;refine abH ?_;clear hK K eS;intro nh cy;clear fL eE nh zV;refine FD ?_;intro dW fE gl gg gY lh lf gU;go_wp2_with fail;refine aoS (Ss (⟨p.name,p.aL,⟨kA,j,kc⟩,⟨vA,vn,vc⟩,cs,⟨tA,tn,tc⟩,⟨A,n,cc⟩,iD,p.silent,cq,⟨zA,zn,zc⟩⟩:Pc) p N _ (ax fX.o cy.o.size) (jh.o.ext cy.o fX.o) Ef.o.params.1) λw2 bd=>?_;clear dW fE gl gg gY lh lf gU;have cy:=J (cy.o.trans bd);clear bd;rw [<-HP.o]
       cases P with
       |some f=>
        obtain⟨fe,fn⟩:=f;have HNF:=J (NZ.o HNP.o rfl);have HR:=J (show X=some ⟨fe,fn⟩by rw [kv.o,aT]);refine afI ?_;intro y3 hV;go_upto_region 16 with(fail);exact akg
       |none=>
        have tm:=J (show X=aj (must b3 5 p.name) T by rw [kv.o,aS]);have Lx:=J (show n<=4 by have:=Di.o rfl;have:=rX.o;omega);clear kv HP HNP Di;refine Lb ?_;intro y3 hV;go_upto_region 16 with(fail);generalize (w2.alloc (.cells #[.int .i64 0,.string ⟨#[]⟩] 166))=W3 at y3 hV⊢;refine zy7 ?_;clear hV y3 cy;intro fb fL zV eE K hK;rintro e2 w4 ⟨rfl,eS⟩;refine abH ?_;clear hK K eS;intro nh cy;clear fL eE nh zV;refine FD ?_;intro dW fE gl gg gY lh lf gU;go_wp2_with fail;refine aoS (Fi (⟨p.name,p.aL,⟨kA,j,kc⟩,⟨vA,vn,vc⟩,cs,⟨tA,tn,tc⟩,⟨A,n,cc⟩,iD,p.silent,cq,⟨zA,zn,zc⟩⟩:Pc) p N _ (ax fX.o cy.o.size) (jh.o.ext cy.o fX.o)) λw2 bd=>?_;clear dW fE gl gg gY lh lf gU;have cy:=J (cy.o.trans bd);clear bd;obtain⟨sz,hsz⟩:=nm' (jc (eo p));rw [<-hsz]at tM⊢;refine FD ?_;intro dW fE gl gg gY lh lf gU
        by_cases agU:sz>1000
        .have HR:=J (show X=some ⟨5,p.name⟩by rw [tm.o,tM.o,cT ad,aM,aT])
         exact Dc
        .have Ih:=J (show X=T by rw [tm.o,tM.o,cJ ad,bt,aS])
         clear tm tM hsz;obtain⟨-,-,-,pb2,po2,uC,hE2⟩:=jh.o.params;have HA2:=J uC;have OD:=J hE2;clear uC hE2;go_wp2_with fail;have y0:=dY w2 (.cells (pv (⟨p.name,p.aL,⟨kA,j,kc⟩,⟨vA,vn,vc⟩,cs,⟨tA,tn,tc⟩,⟨A,n,cc⟩,iD,p.silent,cq,⟨zA,zn,zc⟩⟩:Pc)) 37);have hab:=bN w2 37 (pv (⟨p.name,p.aL,⟨kA,j,kc⟩,⟨vA,vn,vc⟩,cs,⟨tA,tn,tc⟩,⟨A,n,cc⟩,iD,p.silent,cq,⟨zA,zn,zc⟩⟩:Pc));clear dW fE gl gg gY lh lf gU;generalize hW5:(w2.alloc (.cells (pv (⟨p.name,p.aL,⟨kA,j,kc⟩,⟨vA,vn,vc⟩,cs,⟨tA,tn,tc⟩,⟨A,n,cc⟩,iD,p.silent,cq,⟨zA,zn,zc⟩⟩:Pc)) 37))=W5 at y0 hab⊢;generalize w2.heap.size=ab at hab⊢;have HAB:=J hab;have HXS:=J (cy.o.trans y0);clear hW5 hab y0 cy agU
         go_loopw [7] (λt7 wr=>∃(i:Nat),i<=5/\t7=.int .i64 i/\EK p M i=X/\al W5 wr) (λt7 _=>5 - (intOf t7).toNat)
         case atStart=>exact⟨0,by omega,rfl,by rw [<-HT.o];exact Ih.o.symm,kR _ _⟩
         case round=>
          obtain⟨i,hi5,rfl,bw,hx⟩:=hrel;have⟨zv,cy,ca⟩:=J3' hx (HXS.o.trans hx) bw;clear hx bw
          by_cases aP:i<5
          .have gD:(i:Int)<5:=by omega
           have HLT:=J aP;have HAW:=J (bX HAB.o zv.o);obtain⟨kb,yl⟩:=nm' wr.heap.size;have y1:=dY wr (.cells (cL (⟨p.name,p.aL,⟨kA,j,kc⟩,⟨vA,vn,vc⟩,cs,⟨tA,tn,tc⟩,⟨A,n,cc⟩,iD,p.silent,cq,⟨zA,zn,zc⟩⟩:Pc) none 0 0) 243);have Dn:=bN wr 243 (cL (⟨p.name,p.aL,⟨kA,j,kc⟩,⟨vA,vn,vc⟩,cs,⟨tA,tn,tc⟩,⟨A,n,cc⟩,iD,p.silent,cq,⟨zA,zn,zc⟩⟩:Pc) none 0 0);rw [<-yl]at Dn;refine FD ?_;intro dW fE gl gg gY lh lf gU;go_wp2_with fail;clear dW fE gl gg gY lh lf gU
           try rw [<-yl]
           generalize hW6:(wr.alloc (.cells (cL (⟨p.name,p.aL,⟨kA,j,kc⟩,⟨vA,vn,vc⟩,cs,⟨tA,tn,tc⟩,⟨A,n,cc⟩,iD,p.silent,cq,⟨zA,zn,zc⟩⟩:Pc) none 0 0) 243))=W6 at y1 Dn⊢;have⟨dQ,DD,je⟩:=J3' y1 Dn yl;clear hW6 y1 Dn yl
           go_loopw [9] (λt9 wq=>∃(q:Nat) (B:Option Addr) (bc:Nat),q<=n/\(¬i=2->q=0)/\t9=.int .i64 q/\ai wq kb 243 (cL (⟨p.name,p.aL,⟨kA,j,kc⟩,⟨vA,vn,vc⟩,cs,⟨tA,tn,tc⟩,⟨A,n,cc⟩,iD,p.silent,cq,⟨zA,zn,zc⟩⟩:Pc) B q bc)/\wq.ownsRow (kb+1) 9 1 (.slice B q bc) q (bZ xN ((p.params.map Vr.name).take q))/\al wr wq) (λt9 _=>n - (intOf t9).toNat)
           case atStart=>exact⟨0,none,0,cI _,λ_=>rfl,rfl,DD.o,World.ownsRow_nil _ _ _ _,dQ.o⟩
           case round=>
            obtain⟨q,B,bc,hq,T4,rfl,hkq,how,hx⟩:=hrel;have⟨Lu,FN,Ij,z_,HQ2⟩:=J5' hkq how hx (cy.o.trans hx) T4;clear hkq how hx T4;have gY:=bC (bX HB.o z_.o);have gU:=(bX HB.o z_.o).lt
            by_cases hqn:q<n
            .have hqI:(q:Int)<n:=by omega
             by_cases TV:i=2
             .have amA:((i:Int)==2)=true:=by simp [TV]
              have oD:=J TV;clear TV;have hql:q<p.params.length:=by have:=rX.o;omega
              obtain rfl:=HA2.o ad;have aE:=((OD.o ad).2.ext z_.o);obtain⟨jx,hg'⟩:=oB aE q hql;have gB:=aE.lt;obtain⟨x,fj⟩:=nm' (p.params[q]);rw [<-fj]at hg'
              have mX:(p.params.map Vr.name).take (q+1)=(p.params.map Vr.name).take q++[x.name]:=by
               rw [lq,List.getElem?_map,List.getElem?_eq_getElem hql,fj]
               rfl
              have⟨Ej,HH,HG⟩:=J3' mX jx hg'
              have HOL:=J (show¬kb<pb2/\¬kb<pb/\pb2<wr.heap.size/\pb<wr.heap.size/\kb<wr.heap.size from⟨by
               have h1:=(OD.o ad).1;have h2:=fX.o;have h3:=cy.o.size;have h4:=je.o
               omega,by
               have h1:=(bX HB.o cy.o).lt;have h4:=je.o
               omega,gB,gU,Lu.o.lt⟩)
              clear aE fj mX jx hg' gB;go_upto_region 28 with(fail);clear gY gU;refine fH (λw1=>Kept (λg=>kb<g) wr w1) [(0,2),(1,1),(2,2),(3,1),(4,2),(5,2),(6,2),(7,1),(8,0),(9,0),(10,2),(11,0)] ?_;refine fI ?_;have eE:=J (show Kept (λg=>kb<g) wr wr.drew from(kR _ wr).drew)
              repeat first|refine cx ?_|refine de eE.o (by intro w1 hS;have d0:=bK Lu.o hS (Nat.lt_irrefl _);have d1:=bC d0;have d3:=d0.lt;have d4:=bK (bX HB.o z_.o) hS HOL.o.2.1;have d5:=bC d4;have d6:=d4.lt;have d7:=(jv hS HOL.o.2.2.1 HOL.o.1).trans HH.o;have d8:=(iz hS HOL.o.2.2.1 HOL.o.1).trans HG.o;have d9:=gK HOL.o.2.2.1 hS.size;have d10:w1.cell? ⟨pb2,po2+q*4,none⟩=some (.string x.name):=pQ d7 d8 ad;exact fV) ?_|refine dc eE.o ?_
              refine au (λK hK=>?_);go_simp;have y1:Kept (λg=>kb<g) wr (wr.alloc (.cells #[.string x.name] 9)).drew:=(dM wr _).drew;have q6:ai (wr.alloc (.cells #[.string x.name] 9)).drew wr.heap.size 9 #[.string x.name]:=(bN wr _ _).drew;have own:=aI FN.o (show al wr (wr.alloc (.cells #[.string x.name] 9)).drew from(dM wr _).drew);refine hK.out _ _ (λ_=>y1) ?_;clear hK K;generalize (wr.alloc (.cells #[.string x.name] 9)).drew=V3 at y1 q6 own⊢;obtain⟨u6,hu6⟩:=nm' wr.heap.size;rw [<-hu6]at q6⊢;obtain⟨v',V4,dz,oL,jR,-⟩:=L8 (f:=xN) vf (λ_=>rfl) (λ_=>rfl) V3 (kb+1) (.slice B q bc) q ((p.params.map Vr.name).take q) own u6 0 1 1 [x.name] rfl (Row.cF q6) (by have:=Lx.o;omega) (by have:=HOL.o.2.2.2.2;have:=y1.size;omega);have y4:Kept (λg=>kb<g) wr V4:=y1.trans (jR.mono (λi _ e=>by have:=(own.lt i e).1;omega));refine au (λK hK=>?_);refine Tp ?_;refine hK.out _ _ (λ_=>y4) ?_;clear hK K dz;have Dn:=bK Lu.o y4 (Nat.lt_irrefl _);have hcK:=bC Dn;have hzK:=ai.frozen Dn;have nO:=Dn.lt;rw [<-Ej.o]at oL;obtain⟨g2,c2,rfl,anZ,Pj,-⟩:=fh oL ad ad;refine fx ?_;have yk:Kept (λg=>kb<=g) wr (V4.setCell ⟨kb,11,none⟩ (.slice (some ⟨g2,0,none⟩) (q+1) c2)):=(y4.mono (λi _ h=>Nat.le_of_lt h)).setCell _ _ (λ_=>cr _)
              have Jt:ai (V4.setCell ⟨kb,11,none⟩ (.slice (some ⟨g2,0,none⟩) (q+1) c2)) kb 243 (cL (⟨p.name,p.aL,⟨kA,j,kc⟩,⟨vA,vn,vc⟩,cs,⟨tA,tn,tc⟩,⟨some ⟨pb2,po2,none⟩,n,cc⟩,iD,p.silent,cq,⟨zA,zn,zc⟩⟩:Pc) (some ⟨g2,0,none⟩) (q+1) c2):=by
               have q:=ai.eK Dn 11 (.slice (some ⟨g2,0,none⟩) (q+1) c2);exact q
              have ER:=cU oL ((kR (·=kb) V4).setCell ⟨kb,11,none⟩ (.slice (some ⟨g2,0,none⟩) (q+1) c2) (λ_=>rfl)) (λg e=>by
               have e2:g2=g:=Option.some.inj e
               omega)
              generalize V4.setCell ⟨kb,11,none⟩ (.slice (some ⟨g2,0,none⟩) (q+1) c2)=V9 at yk Jt ER⊢;have zu:=J (Ij.o.trans' yk (λi hi q=>by have:=je.o;omega));clear hcK hzK nO Dn;go_wp2_with fail;go_roundw
              case rel=>exact⟨q+1,some ⟨g2,0,none⟩,c2,hqn,λh=>absurd oD.o h,by go_num,Jt,ER,zu.o⟩
              case measure=>simp only [intOf];omega
             .have amA:((i:Int)==2)=false:=by simp;omega
              have HPL:=J (show¬i=3->(p.params.map Vr.name).take q=zM p i from λh3=>by
               rw [HQ2.o TV]
               rcases(by omega:i=0∨i=1∨i=4)with rfl|rfl|rfl<;>rfl)
              exact zz1
            .have HPL:=J (show¬i=3->(p.params.map Vr.name).take q=zM p i from λh3=>by
              by_cases TV:i=2
              .subst TV
               exact kI (by rw [gu];have:=rX.o;omega)
              .rw [HQ2.o TV]
               rcases(by omega:i=0∨i=1∨i=4)with rfl|rfl|rfl<;>rfl)
             exact zz1
          .obtain rfl:i=5:=by omega
           have uI:=J (show X=M by rw [<-ca.o];rfl);refine FD ?_;intro dW fE gl gg gY lh lf gU;go_wp2_with fail;refine aoS (Sg wr p.turn tA tn tc N wr (kR _ _) (ax fX.o cy.o.size) (jh.o.ext cy.o fX.o).turn) λw3 dv=>?_;clear dW fE gl gg gY lh lf gU;have cy:=J (cy.o.trans dv);clear dv;rw [<-uy.o];refine FD ?_;intro dW fE gl gg gY lh lf gU
           cases b4
           .have HR:=J (show X=some ⟨4,kN⟩by rw [uI.o,HM.o,aM,aT])
            exact Dc
           .have zu:=J (show X=must b5 4 nW by rw [uI.o,HM.o,bt,aS])
            clear uI HM;obtain⟨-,-,b9,o9,hA9,hE9⟩:=(jh.o.ext cy.o fX.o).bO
            cases zn with
            |zero=>
             have HR:=J (show X=some ⟨4,nW⟩by
              have:p.bO=.nil:=by
               have hz:=ZE.o
               cases hq:p.bO with
               |nil=>rfl
               |cons=>rw [hq]at hz;simp [SF.len]at hz
              rw [zu.o,show b5=false by rw [tN.o,this];rfl,aM])
             clear hA9 hE9;exact Dc
            |succ m=>
             obtain⟨k,hk,V_,hbN⟩:=G7 hE9 (by rw [<-ZE.o];exact Nat.succ_pos m);obtain rfl:=hA9 (Nat.succ_pos m);rw [<-ZE.o]at hk;have gB:=gK hbN (ax fX.o cy.o.size);simp only [Nat.add_sub_cancel]at hk;have ma:(m:Int)<((m:Int)+1):=by omega
             have Vz:(0:Int)<(m:Int)+1:=by omega
             have Zv:=J V_;clear V_ hE9 hbN
             cases hq:(k==9)
             .have HR:=J (show X=some ⟨4,nW⟩by rw [zu.o,show b5=false by rw [tN.o,Zv.o,hq],aM])
              have hqn:(k !=9)=true:=by unfold bne;rw [hq];rfl
              exact Dc
             .have HR:=J (show X=none by rw [zu.o,show b5=true by rw [tN.o,Zv.o,hq],bt])
              have hqn:(k !=9)=false:=by unfold bne;rw [hq];rfl
              go_wp2_with fail;refine aoS (kh _) λw4 eS=>?_;clear dW fE gl gg gY lh lf gU hk gB;have cy:=J (cy.o.trans eS);refine FD ?_;intro dW fE gl gg gY lh lf gU;clear eS;exact Dc
open Mc
theorem Me (k:Mk) (W:Wd):∀(F:EF),(∀(j:Nat) (t:Int),(cE k W F j t).length<=4*F.size)/\(∀t q:Int,(cE k W F 0 t).length+(cE k W F 1 q).length<=4*F.size)
 | .nil=>by simp [cE]
 | .cons op n name kids r=>by
  obtain⟨hk,eV⟩:=Me k W kids;obtain⟨hr,-⟩:=Me k W r
  have h0:∀t,(cE k W (.cons op n name kids r) 0 t).length<=4*(1+kids.size):=λt=>by
   have a:=hk 0 t;have b1:=eV t (t+1);have b2:=eV (t+1) t;unfold cE
   repeat' split
   all_goals simp only [dn,iQ,oW]
   all_goals omega
  refine⟨λj t=>?_,λt q=>?_⟩
  .cases j with
   |zero=>have:=h0 t;simp only [EF.size];omega
   |succ j=>have:=hr j t;rw [cE];simp only [EF.size];omega
  .have a:=h0 t
   have b:=hr 0 q;have e:cE k W (.cons op n name kids r) 1 q=cE k W r 0 q:=by rw [cE]
   rw [e];simp only [EF.size]
   omega
theorem FW (k:Mk):∀(F:SF) (W:Wd) (f:Nat) (a:Int),(cB k F W f a).length<=7*F.size
 | .nil,_,_,_=>by simp [cB]
 | .cons kind name e low high l fi r,W,f,a=>by
  rw [FV,dn];have hr:=FW k r W f (a+(cS k W f a kind name e low high l fi).length);have hl:=λW f a=>FW k l W f a;have hx:=λW f a=>FW k fi W f a;obtain⟨he,Rm⟩:=Me k W e
  have hS:(cS k W f a kind name e low high l fi).length<=7*(1+e.size+l.size+fi.size):=by
   have a0:=he 0 0;have a1:=Rm 0 1;have a2:(cE k W e 1 0).length+(cE k W e 0 1).length<=4*e.size:=by have:=Rm 1 0;omega
   unfold cS
   split
   .split
    .have b:=hl W f (a+(cE k W e 0 0).length+1)
     simp only [UJ,dn,iQ,oW]
     omega
    .have b:=hl W f (a+(cE k W e 0 0).length+1)
     have c:=hx W f (a+(cE k W e 0 0).length+1+(cB k l W f (a+(cE k W e 0 0).length+1)).length+1);simp only [cIf,dn,iQ,oW]
     omega
   .split
    .split
     .simp
     .have b:=hl (lX W name (P8 k f)) (f+1) (a+3)
      simp only [UI,dn,iQ,oW]
      omega
    .unfold QB
     repeat' split
     all_goals simp only [vP,dn,iQ,oW]
     all_goals omega
  simp only [SF.size]
  omega
theorem sT (v:Vr):1<=Sq.fq v:=by unfold Sq.fq;split<;>omega
theorem eZ:∀(l:List Vr),0<=cells l
 |[]=>by simp [cells]
 |v::r=>by have:=sT v;have:=eZ r;simp only [cells];omega
theorem xS (q:Vr->Bool):∀(l:List Vr),cells (l.takeWhile q)<=cells l
 |[]=>by simp [cells]
 |v::r=>by
  have:=xS q r;have:=eZ r;have:=sT v;rw [List.takeWhile_cons]
  split<;>simp only [cells]<;>omega
theorem I4 (l:List Vr) (s:Str):0<=gT l s/\gT l s<=cells l:=by
 unfold gT
 split
 .exact⟨eZ _,xS _ l⟩
 .exact⟨by omega,eZ l⟩
theorem RC {l:List Vr} {s:Str} (h:fm l s=0):∀v∈l,¬v.name=s:=λv hv e=>by
 unfold fm at h
 split at h
 .rename_i q
  have:=List.find?_eq_none.1 q v hv;simp at this;exact this e
 .split at h<;>omega
theorem tP {l:List Vr} {s:Str} (h:fm l s=0):gT l s=0:=by
 unfold gT;rw [af];intro e;rw [List.any_eq_true]at e;obtain⟨v,hv,q⟩:=e;exact RC h v hv (of_decide_eq_true q)
theorem Cj:∀(l:List Vr) (W:Wd) (a:Int) (s:Str),(∀v∈l,¬v.name=s)->rI W a l s=W s
 |[],_,_,_,_=>rfl
 |v::r,W,a,s,h=>by
  rw [rI,Cj r _ _ s (λu hu=>h u (List.mem_cons_of_mem _ hu)),lX,af (λe=>h v (List.mem_cons_self ..) e.symm)]
theorem GU:∀(l:List Vr) (W:Wd) (a b:Int) (_:∀s,0<=W s/\W s<=b) (_:0<=a) (_:a+l.length<=b) (s:Str),0<=rI W a l s/\rI W a l s<=b
 |[],W,_,_,h,_,_,s=>h s
 |v::r,W,a,b,h,h0,h1,s=>by
  rw [rI];simp only [iQ]at h1;refine GU r _ (a+1) b (λt=>?_) ad ad s;unfold lX
  split
  .omega
  .exact h t
theorem vS (p:Pr) (b:Int) (part:Nat) (tB:0<=b) (hb:b<=100) (hc:cells p.vars<=100) (hp:p.params.length<=4) (s:Str):0<=jO p b part s/\jO p b part s<=1000:=by
 have h:=I4 p.vars;unfold jO
 split
 .exact GU _ _ _ 1000 (λt=>by have:=h t;omega) tB ad s
 .split
  .unfold lX
   split
   .omega
   .have:=h s;omega
  .have:=h s;omega
theorem yS {κ:Kn} {l:List Str} {s:Str} (h:a_ κ l s=0):κ s=0/\∀t∈l,¬t=s:=by
 unfold a_ at h
 split at h
 .omega
 .rename_i q
  refine⟨h,λt ht e=>q ?_⟩;rw [List.any_eq_true];exact⟨t,ht,cJ e⟩
theorem pG (p:Pr) (b:Int) (part:Nat) (s:Str) (h:oN p part s=0):jO p b part s=0:=by
 unfold jO
 split
 .rename_i e
  subst e;obtain⟨h1,h2⟩:=yS h;rw [Cj _ _ _ s (λv hv e=>h2 v.name (List.mem_map.2 ⟨v,hv,rfl⟩) e)];exact tP h1
 .split
  .rename_i e
   subst e;obtain⟨h1,h2⟩:=yS h;rw [lX,af (λe=>h2 p.silent aB e.symm)];exact tP h1
  .rename_i e1 e2
   have e3:oN p part=fm p.vars:=by
    unfold oN
    split
    .exact absurd rfl e1
    .exact absurd rfl e2
    .rfl
   rw [e3]at h;exact tP h
theorem WE (p:Pr):NZ (ka p):=by
 unfold ka mF;exact NZ.aj (NZ.aj (NZ.must ap) (NZ.aj (NZ.must ap) (NZ.aj (NZ.must ap) (NZ.must ap)))) (NZ.aj (ui _ _) (NZ.aj (NZ.must ap) (NZ.aj (NZ.must ap) (NZ.aj (uh _ _ _) (NZ.aj (NZ.must ap) (NZ.aj (NZ.must ap) (NZ.must ap)))))))
theorem acH (p:Pr):NZ (check p):=by
 unfold check;exact NZ.aj (WE p) (NZ.aj (NZ.must ap) (NZ.aj (iI _ _ _ _ _) (NZ.aj (iI _ _ _ _ _) (NZ.aj (iI _ _ _ _ _) (NZ.aj (iI _ _ _ _ _) (NZ.aj (iI _ _ _ _ _) (NZ.aj (NZ.must ap) (NZ.must ap))))))))
structure Dd (p:Pr):Prop where
 aL:2<=p.aL/\p.aL<=8
 vars:eG [] p.vars=none
 cells:cells p.vars<=64
 np:p.params.length<=4
 aeV:dE (fm p.vars) [] p.params=none
 silent:fm p.vars p.silent=0
 size:eo p<=1000
 part:∀i,i<5->cH i (oN p i) 0 true (partOf p i)=none
 ends:ends p.turn=true
 last:jz p.bO=true
theorem tH (p:Pr) (i:Nat) (hi:i<5):(partOf p i).size<=eo p:=by
 rcases(by omega:i=0∨i=1∨i=2∨i=3∨i=4)with rfl|rfl|rfl|rfl|rfl<;>simp only [partOf,eo]<;>omega
theorem Dd.of {p:Pr} (h:check p=none) (hz:eo p<=1099511627776):Dd p:=by
 obtain⟨h1,h2,h3,h4,h5,h6,h7,h8,h9⟩:=tQ.1 h;unfold ka mF at h1;simp only [ay,dt,jP,beq_iff_eq,iL,gR]at h1;obtain⟨⟨_,q1,_,_⟩,q2,q3,q4,q5,_,_,q6⟩:=h1;exact⟨q1,q2,q3,q4,q5,q6,by rw [eu]at h2;omega,Cm h,h8,h9⟩
theorem Dd.Y_ {p:Pr} (h:Dd p) (i:Nat) (hi:i<5):Y_ (partOf p i):=Ch (h.part i hi)
theorem Dd.psz {p:Pr} (h:Dd p) (i:Nat) (hi:i<5):(partOf p i).size<=1000:=ax (tH p i hi) h.size
def Ba (p:Pr) (i:Nat):List Ins:=cB ⟨p.vars,p.aL,cells p.vars⟩ (partOf p i) (jO p (cells p.vars) i) 0 0
def aK (p:Pr) (i:Nat):List Ins:=Ba p i++[⟨0,0,0,0⟩]
theorem Ey {p:Pr} {i:Nat} (h:(partOf p i).size<=256):(Ba p i).length<=1792:=by
 have:=FW ⟨p.vars,p.aL,cells p.vars⟩ (partOf p i) (jO p (cells p.vars) i) 0 0;unfold Ba
 omega
def dI:List Vr->List Int
 |[]=>[]
 |v::r=>List.replicate (Sq.fq v).toNat (min (max 0 v.low) v.high)++dI r
theorem pS:∀l:List Vr,((dI l).length:Int)=cells l
 |[]=>rfl
 |v::r=>by
  have:=sT v;have:=pS r;simp only [dI,dn,List.length_replicate,cells]
  omega
theorem Bk:∀a b:List Vr,dI (a++b)=dI a++dI b
 |[],b=>rfl
 |v::r,b=>by rw [List.cons_append,dI,dI,Bk r b,my]
theorem Jg {l:List Vr} {j:Nat} (hj:j<l.length):dI (l.take (j+1))=dI (l.take j)++List.replicate (Sq.fq l[j]).toNat (min (max 0 l[j].low) l[j].high):=by
 rw [lq,List.getElem?_eq_getElem hj,Bk];simp [dI]
theorem tx:∀(l:List Vr) (j:Nat),cells (l.take j)<=cells l
 |[],j=>by simp [cells]
 |v::r,0=>by have:=eZ (v::r);simpa [cells]using this
 |v::r,j+1=>by have:=tx r j;simp only [List.take_succ_cons,cells];omega
theorem zB {l:List Vr} (j:Nat) (h:cells l<=64):(dI (l.take j)).length<=64:=by
 have:=pS (l.take j);have:=tx l j
 omega
theorem n7:∀(l pre:List Vr),eG pre l=none->∀v∈l,0<=v.size/\v.size<=64/\av v.low/\av v.high/\v.low<=v.high
 |[],_,_,v,hv=>by simp at hv
 |u::r,pre,h,v,hv=>by
  rw [eG]at h;simp only [ay,dt,gR,iL,span,word,jP]at h;obtain⟨-,-,h3,h4⟩:=h
  rcases List.mem_cons.1 hv with q|q
  .subst q
   unfold av
   omega
  .exact n7 r _ h4 v q
theorem oy {w:World} {v:Value} {n:Nat} {l:List Int} (h:w.ownsRow base 21 1 v n (bj l)):∃A c,v=.slice A n c:=by
 rcases h.2 with⟨hv,h0⟩|⟨g,c,cV,hv,_⟩
 .exact⟨none,0,by rw [hv,h0]⟩
 .exact⟨_,c,hv⟩
theorem S5 {x:Int} (h:av x):IntKind.i32.wrap x=x:=by
 unfold av at h;simp [IntKind.wrap_i32]
 try unfold Go.RowKit.wrap32
 omega
def DK (w:World) (N:Nat) (s:i_) (l:List Ins):Prop:=s.n=l.length/\∃b,s.A=some ⟨b,0,none⟩/\b<N/\Row w b 0 (db l)
def uL (w:World) (N:Nat) (s:i_) (l:List Int):Prop:=s.n=l.length/\(0<s.n->∃b,s.A=some ⟨b,0,none⟩/\b<N/\Row w b 0 (bj l))
section
variable {S:Nat->Prop} {w w':World} {N:Nat} {s:i_}
include S w w' N s
theorem DK.kept {l:List Ins} (h:DK w N s l) (hk:Kept S w w') (hS:∀i,i<N->¬S i):DK w' N s l:=by
 obtain⟨h1,b,h2,h3,h4⟩:=h;exact⟨h1,b,h2,h3,h4.kept hk (hS b h3)⟩
theorem uL.kept {l:List Int} (h:uL w N s l) (hk:Kept S w w') (hS:∀i,i<N->¬S i):uL w' N s l:=by
 obtain⟨h1,h2⟩:=h;exact⟨h1,λh0=>by obtain⟨b,a1,a2,a3⟩:=h2 h0;exact⟨b,a1,a2,a3.kept hk (hS b a2)⟩⟩
end
section
variable{base:Nat}
variable {w:World}
include w
theorem DK.eT {s:i_} {l:List Ins} (h:w.ownsRow base 71 4 s.v s.n (db l)) (hl:0<l.length):DK w w.heap.size s l:=by
 have hn:s.n=l.length:=by
  have:=h.1;rw [lJ]at this
  omega
 obtain⟨g,c,e,hr,-,-⟩:=fh h ad ap;obtain⟨A,n,cc⟩:=s;simp only [i_.v,Value.slice.injEq]at e;exact⟨hn,g,e.1,hr.lt,hr⟩
theorem uL.eT {s:i_} {l:List Int} (h:w.ownsRow base 21 1 s.v s.n (bj l)):uL w w.heap.size s l:=by
 have hn:s.n=l.length:=by
  have:=h.1;rw [fG]at this
  omega
 refine⟨hn,λh0=>?_⟩;obtain⟨g,c,e,hr,-,-⟩:=fh h h0 ap;obtain⟨A,n,cc⟩:=s;simp only [i_.v,Value.slice.injEq]at e;exact⟨g,e.1,hr.lt,hr⟩
theorem DK.mono {N N':Nat} {s:i_} {l:List Ins} (h:DK w N s l) (hN:N<=N'):DK w N' s l:=by
 obtain⟨h1,b,h2,h3,h4⟩:=h;exact⟨h1,b,h2,by omega,h4⟩
theorem uL.mono {N N':Nat} {s:i_} {l:List Int} (h:uL w N s l) (hN:N<=N'):uL w N' s l:=by
 obtain⟨h1,h2⟩:=h;exact⟨h1,λh0=>by obtain⟨b,a1,a2,a3⟩:=h2 h0;exact⟨b,a1,by omega,a3⟩⟩
theorem ri.up {N N':Nat} {A:Option Addr} {n:Nat} {l:List Vr} (h:ri w N A n l) (hN:N<=N'):ri w N' A n l:=by
 obtain⟨h1,h2,h3,b,off,h4,h5⟩:=h;exact⟨h1,h2,h3,b,off,h4,λh0=>⟨by have:=(h5 h0).1;omega,(h5 h0).2⟩⟩
end
structure gC (w:World) (N cb:Nat) (k:Cd) (p:Pr):Prop where
 lt:cb<N
 le:N<=w.heap.size
 box:ai w cb 171 k.c
 kc:k.cells=cells p.vars
 ks:k.aL=p.aL
 first:uL w N k.first (dI p.vars)
 params:ri w N k.params.A k.params.n p.params
 ins:∀i,i<5->DK w N (k.i i) (aK p i)
 most:∀i,i<5->k.m i=aU p i
theorem gC.kept {S:Nat->Prop} {w w':World} {N cb:Nat} {k:Cd} {p:Pr} (h:gC w N cb k p) (hk:Kept S w w') (hS:∀i,i<N->¬S i):gC w' N cb k p:=
 ⟨h.lt,ax h.le hk.size,bK h.box hk (hS cb h.lt),h.kc,h.ks,h.first.kept hk hS,h.params.kept hk (λi hi=>Nat.le_of_not_lt (λq=>hS i q hi)),λi hi=>(h.ins i hi).kept hk hS,h.most⟩
theorem gC.ext {w w':World} {N cb:Nat} {k:Cd} {p:Pr} (h:gC w N cb k p) (hk:al w w'):gC w' N cb k p:=h.kept hk (λ_ _ f=>f)
theorem gC.up {w:World} {N N' cb:Nat} {k:Cd} {p:Pr} (h:gC w N cb k p) (hN:N<=N') (hw:N'<=w.heap.size):gC w N' cb k p:=
 ⟨by have:=h.lt;omega,hw,h.box,h.kc,h.ks,h.first.mono hN,ri.up h.params hN,λi hi=>(h.ins i hi).mono hN,h.most⟩
def nB (p:Pr):Prop:=∃i,i<5/\256<(partOf p i).size
inductive pN (p:Pr) (w':World):Ending->Prop
 |bad (f:nZ) (h:check p=some f):pN p w' (.returned (.tuple #[.pointer none,.int .i64 f.e]))
 |long (h:check p=none) (hl:nB p):pN p w' (.returned (.tuple #[.pointer none,.int .i64 5]))
 |steps (h:check p=none) (hl:¬nB p) (hs:∃i,i<5/\65536<aU p i):pN p w' (.returned (.tuple #[.pointer none,.int .i64 12]))
 |ok (h:check p=none) (hl:¬nB p) (hs:∀i,i<5->aU p i<=65536) (cb:Nat) (k:Cd) (hc:gC w' w'.heap.size cb k p):pN p w' (.returned (.tuple #[.pointer (some ⟨cb,0,none⟩),.int .i64 0]))
theorem UB:ga prog 171=true:=by kernel_rfl
theorem SI:dr prog 171=some 14:=by kernel_rfl
attribute [go_sem] UB SI
theorem IW:ga prog 227=true:=by kernel_rfl
theorem Fm:dr prog 227=some 5:=by kernel_rfl
theorem yU {dst:Option Tmp} {eD:TypeId} {x:Operand} {pos:String} {after:Array Edge} {guard:Option (Nat×Bool)} {a:Act} {w:World} {K:Act->World->Prop} {Q:Exit->Act->World->Prop} (hx:d' (a.eval x)=true) (hh:has w (aG (a.eval x)) (aH (a.eval x)) 5=true):
 Oper.wp prog ⟨dst,.load 227 x,eD,pos,after,guard⟩ a w K Q=K (a.put dst (.agg (gets w (aG (a.eval x)) (aH (a.eval x)) 5))) w:=aY 5 IW Fm hx hh
attribute [go_sem] IW Fm
attribute [go_sem↓high] yU
attribute [go_sem high] yU
def only (F:SF):Pr:=⟨⟨#[]⟩,0,[],[],F,.nil,[],.nil,⟨#[]⟩,.nil,.nil⟩
theorem pu (F:SF):eo (only F)=F.size:=by simp [eo,only,SF.size]
abbrev Fa (s:i_):Pc:=⟨⟨#[]⟩,0,⟨none,0,0⟩,⟨none,0,0⟩,s,⟨none,0,0⟩,⟨none,0,0⟩,⟨none,0,0⟩,⟨#[]⟩,⟨none,0,0⟩,⟨none,0,0⟩⟩
theorem vF {w:World} {N:Nat} {s:i_} {F:SF} (h:jm w N s.A s.n F):nj w N (Fa s) (only F):=by
 have f (k:Nat):Fits 0 k:=by unfold Fits;omega
 have hI:Ut w N none 0 []:=⟨rfl,f 8,λv hv=>by simp at hv,0,0,λh=>by omega,λh=>by omega⟩;have hV:ri w N none 0 []:=⟨rfl,f 40,λv hv=>by simp at hv,0,0,λh=>by omega,λh=>by omega⟩;have hS:jm w N none 0 .nil:=⟨rfl,f 112,0,0,λh=>by omega,trivial⟩;exact⟨rfl,cI _,rfl,by show br 0;unfold br;omega,hI,hV,h,hS,hV,hS,rfl,cI _,hS,hS⟩
abbrev st5 (p:Pr):Array Value:=#[.int .i64 (aU p 0:Nat),.int .i64 (aU p 1:Nat),.int .i64 (aU p 2:Nat),.int .i64 (aU p 3:Nat),.int .i64 (aU p 4:Nat)]
abbrev w_ (c:Pc):Array Value:=#[c.start.v,c.turn.v,c.cd.v,c.quiet.v,c.bO.v]
theorem aiJ {F M:World->Option Addr->Nat->Nat->Prop} {G:Prop} (h:(∀W A a b,F W A a b->M W A a b)->G) (h2:∀W A a b,F W A a b->M W A a b):G:=h h2
abbrev kd0 (p:Pr) (aL:Int) (A:Option Addr) (n cp:Nat) (s:i_):Cd:=⟨cells p.vars,aL,s,⟨A,n,cp⟩,⟨none,0,0⟩,⟨none,0,0⟩,⟨none,0,0⟩,⟨none,0,0⟩,⟨none,0,0⟩,aU p⟩
def qJ (w:World) (lo:Nat) (s:i_) (l:List Ins):Prop:=s.n=l.length/\∃b,s.A=some ⟨b,0,none⟩/\lo<b/\Row w b 0 (db l)
theorem qJ.kept {S:Nat->Prop} {w w':World} {lo:Nat} {s:i_} {l:List Ins} (h:qJ w lo s l) (hk:Kept S w w') (hS:∀i,S i->i<=lo):qJ w' lo s l:=by
 obtain⟨h1,b,h2,h3,h4⟩:=h;exact⟨h1,b,h2,h3,h4.kept hk (λq=>by have:=hS b q;omega)⟩
theorem qJ.below {w:World} {lo:Nat} {s:i_} {l:List Ins} (h:qJ w lo s l):DK w w.heap.size s l:=by
 obtain⟨h1,b,h2,h3,h4⟩:=h;exact⟨h1,b,h2,h4.lt,h4⟩
theorem qJ.eT {w:World} {base lo:Nat} {s:i_} {l:List Ins} (h:w.ownsRow base 71 4 s.v s.n (db l)) (hl:0<l.length) (hb:lo<base):qJ w lo s l:=by
 have hn:s.n=l.length:=by
  have:=h.1;rw [lJ]at this
  omega
 obtain⟨g,c,e,hr,hg,-⟩:=fh h ad ap;obtain⟨A,n,cc⟩:=s;simp only [i_.v,Value.slice.injEq]at e;exact⟨hn,g,e.1,by omega,hr⟩
abbrev kdI (p:Pr) (aL:Int) (A:Option Addr) (n cp:Nat) (s:i_) (I:Nat->i_):Cd:=⟨cells p.vars,aL,s,⟨A,n,cp⟩,I 0,I 1,I 2,I 3,I 4,aU p⟩
def aiB (W7:World) (p:Pr) (aL:Int) (n:Nat) (W:World) (A:Option Addr) (cp cb:Nat):Prop:=
 al W7 W/\ri W cb A n p.params/\ai W cb 171 (kd0 p aL A n cp ⟨none,0,0⟩).c/\W7.heap.size<=cb
theorem I9 (c:Pc) (p:Pr) (N:Nat) (w:World) (hzs:∀i,i<5->zS (partOf p i)) (rA:5<N) (hN:N<=w.heap.size) (hP:nj w N c p) (hL:eQ w) (hz:eo p<=1099511627776):
 Calls prog 98 #[.agg c.cells] w λe w'=>al w w'/\pN p w' e:=by
 have L_:=J hzs;clear hzs;have y0:=dY w (.cells c.cells 163);have hB:=bN w 163 c.cells;have HP:=J (hP.ext y0 hN);have Zn:=J (hL.ext y0);have Bt:=ax hN y0.size;obtain⟨X,hX⟩:=nm' (check p);have HX:=J hX;have HZ:=J hz;clear hP hL hX hz;go_enter func98,ntmps98;go_upto_region 1 with(fail);generalize (w.alloc (.cells c.cells 163))=W1 at y0 hB HP Zn Bt⊢;generalize w.heap.size=pb at hB⊢;have HB:=J hB;have i1:=bH hB;have i2:=bG hB;have i3:=hB.lt;have cC:=J y0;have FL:=J Bt;clear hB;go_wp2_with fail;refine aoS (N_ c p N _ rA Bt HP.o Zn.o) λW2 y2=>?_;clear i1 i2 i3 y0;rw [<-HX.o];have fp:=J y2
 cases X with
 |some f=>
  have iF:(f.e !=0)=true:=bne_iff_ne.2 (acH p f HX.o.symm);have y3:=dY W2 (.cells #[.int .i64 f.e,.string f.name] 225);have hF:=bN W2 225 #[.int .i64 f.e,.string f.name];clear y2;rw [show fM (some f)=#[.int .i64 f.e,.string f.name]from rfl];go_upto_region 2 with(fail);generalize (W2.alloc (.cells #[.int .i64 f.e,.string f.name] 225))=W3 at y3 hF⊢;generalize W2.heap.size=fb at hF⊢;have j1:=bC hF;have j2:=hF.lt;have fL:=J y3;clear y3;go_upto_region 3 with(fail)
  go_quiet (fail)
  go_wp2_with fail
  go_ret2
  exact⟨(cC.o.trans fp.o).trans (Kept.drewN fL.o _),.bad f HX.o.symm⟩
 |none=>
  have lj:=J (Dd.of HX.o.symm HZ.o);have y3:=dY W2 (.cells #[.int .i64 0,.string ⟨#[]⟩] 225);have hF:=bN W2 225 #[.int .i64 0,.string ⟨#[]⟩];rw [show fM none=#[.int .i64 0,.string ⟨#[]⟩]from rfl];go_upto_region 2 with(fail);generalize (W2.alloc (.cells #[.int .i64 0,.string ⟨#[]⟩] 225))=W3 at y3 hF⊢;have fL:=J (y2.trans y3);clear y2;generalize W2.heap.size=fb at hF⊢;have j1:=bC hF;have j2:=hF.lt;have tM:=J (HB.o.ext fL.o);clear y3;have i1:=bC tM.o;have i2:=tM.o.lt;go_upto_region 4 with(fail);have y5:=dY W3 (.cells (w_ c) 227);have hA:=bN W3 227 (w_ c);clear j1 j2;go_upto_region 5 with(fail);generalize (W3.alloc (.cells (w_ c) 227))=W5 at y5 hA⊢;generalize W3.heap.size=ab at hA⊢;have uJ:=J (fL.o.trans y5);have⟨tN,Lx,HL5,Ze,Lw⟩:=J5' (tM.o.ext y5) (HP.o.ext uJ.o FL.o) (Zn.o.ext uJ.o) hA (ax FL.o uJ.o.size);clear y5 hA i1 i2;have i1:=bH Ze.o;have i2:=bG Ze.o;have i3:=Ze.o.lt;clear Bt;go_upto_region 6 with(fail);clear i1 i2 i3
  go_loopw [34] (λt34 wr=>∃(j:Nat),j<=5/\t34=.int .i64 j/\(∀i,i<j->(partOf p i).size<=256)/\al W5 wr) (λt34 _=>5 - (intOf t34).toNat)
  case atStart=>exact⟨0,by omega,rfl,λi hi=>by omega,kR _ _⟩
  case round=>
   obtain⟨j,hj,rfl,hall,hk⟩:=hrel;have fW:=J hall;have HK:=J hk;clear hall hk
   by_cases Jz:j=5
   .subst Jz
    have i1:=bH (tN.o.ext HK.o);have i2:=bG (tN.o.ext HK.o);have i3:=(tN.o.ext HK.o).lt;go_wp2_with fail;refine(Md c p N _ (ax Lw.o HK.o.size) (Lx.o.ext HK.o Lw.o) lj.o.Y_).mono ?_;rintro e w6 ⟨hd,y6⟩;clear i1 i2 i3;have FJ:=J (HK.o.trans y6);have uA:=J (show¬nB p from λ⟨i,hi,h⟩=>by have:=fW.o i hi;omega);clear y6
    rcases hd with⟨hall,rfl⟩|⟨hex,rfl⟩
    rotate_left
    .have HEX:=J hex
     clear hex;have y7:=dY w6 (.cells #[.int .i64 0,.int .i64 0,.int .i64 0,.int .i64 0,.int .i64 0] 169);go_upto_region 12 with(fail);generalize (w6.alloc (.cells #[.int .i64 0,.int .i64 0,.int .i64 0,.int .i64 0,.int .i64 0] 169))=w7 at y7⊢;have El:=J y7;clear y7;go_wp2_with fail
     go_ret2
     exact⟨(cC.o.trans uJ.o).trans (FJ.o.trans El.o),.steps HX.o.symm uA.o HEX.o⟩
    have alQ:=J hall;clear hall;have y7:=dY w6 (.cells (st5 p) 169);have hM:=bN w6 169 (st5 p);go_upto_region 12 with(fail);generalize (w6.alloc (.cells (st5 p) 169))=w7 at y7 hM⊢;generalize w6.heap.size=sb at hM⊢;have El:=J (FJ.o.trans y7);have Zp:=J hM;clear y7 hM;go_upto_region 14 with(fail);apply aiJ (F:=aiB w7 p c.aL c.params.n)
    case h=>
     intro ky;have Ik:=J ky;clear ky;refine WU (λwz=>al w7 wz) (.op 0 1 (.op 2 2 (.op 3 1 (.op 4 2 (.op 5 1 (.op 7 1 (.op 1 0 (.op 6 0 (.op 8 2 (.op 9 0 (.op 10 2 .nil))))))))))) ?_;refine WV ?_;have⟨OO,LQ,HP7,HN7⟩:=J4' (pg w7) (tN.o.ext El.o) (Lx.o.ext El.o Lw.o) (ax Lw.o El.o.size)
     (repeat (first|refine nV ?_|((apply c_);(· exact OO.o);(· go_simp);(· (intro w1 hS;have d0:=bX LQ.o hS;have d1:=bH d0;have d2:=bG d0;have d3:=d0.lt;have d4:=bC d0;have e0:=bX Zp.o hS;have e1:=bH e0;have e2:=bG e0;have e3:=e0.lt;go_simp;try with_reducible rfl));refine iJ ?_)|((apply cZ);(· exact OO.o);(· go_simp);refine iJ ?_)))
     refine ci (λK hK=>?_);go_simp;go_wp2_with fail;refine aoS (Cv c p N _ (ax HN7.o (OO.o).size) (HP7.o.ext (OO.o) HN7.o)) λw8 oo=>?_;have y8:=(OO.o).trans oo;refine hK.out _ _ (λ_=>y8) ?_;clear hK K
     (repeat (first|refine nV ?_|((apply c_);(· exact y8);(· go_simp);(· (intro w1 hS;have d0:=bX LQ.o hS;have d1:=bH d0;have d2:=bG d0;have d3:=d0.lt;have d4:=bC d0;have e0:=bX Zp.o hS;have e1:=bH e0;have e2:=bG e0;have e3:=e0.lt;go_simp;try with_reducible rfl));refine iJ ?_)|((apply cZ);(· exact y8);(· go_simp);refine iJ ?_)))
     refine ci (λK hK=>?_);go_simp;go_wp2_with fail;refine(Oi c.params.A c.params.c N p.params c.params.n _ (ri.kept HP7.o.params (y8) (λ_ q=>q.elim)) (by have:=HP7.o.params.1;have:=lj.o.np;omega)).mono ?_;rintro e w9 ⟨A',c',rfl,hv9,tF⟩;have y9:=(y8).trans tF;refine hK.out _ _ (λ_=>y9) ?_;clear hK K
     (repeat (first|refine nV ?_|((apply c_);(· exact y9);(· go_simp);(· (intro w1 hS;have d0:=bX LQ.o hS;have d1:=bH d0;have d2:=bG d0;have d3:=d0.lt;have d4:=bC d0;have e0:=bX Zp.o hS;have e1:=bH e0;have e2:=bG e0;have e3:=e0.lt;go_simp;try with_reducible rfl));refine iJ ?_)|((apply cZ);(· exact y9);(· go_simp);refine iJ ?_)))
     refine LL ?_;have ya:al w9 (w9.alloc (.cells (kd0 p c.aL A' c.params.n c' ⟨none,0,0⟩).c 171)):=dY w9 _;have xZ:=bN w9 171 (kd0 p c.aL A' c.params.n c' ⟨none,0,0⟩).c;have wN:w7.heap.size<=w9.heap.size:=y9.size;have hv:=ri.kept (hv9) ya (λ_ q=>q.elim);have yb:=y9.trans ya;clear ya;generalize (w9.alloc (.cells (kd0 p c.aL A' c.params.n c' ⟨none,0,0⟩).c 171))=W9 at yb xZ hv⊢;generalize w9.heap.size=cb at xZ wN hv⊢;exact Ik.o _ _ _ _ ⟨yb,hv,xZ,wN⟩
    intro w9 pA pc cb VI;obtain⟨y9,hv9,xZ,nw⟩:=VI;have⟨HB9,HP9,HA9,DI,HV9,Yo,Yw,qI⟩:=J8' (tN.o.ext (El.o.trans y9)) (Lx.o.ext (El.o.trans y9) Lw.o) (Ze.o.ext (El.o.trans y9)) (El.o.trans y9) hv9 xZ (show N<=cb by have:=Lw.o;have:=El.o.size;omega) (show ab<cb/\pb<cb/\cb<w9.heap.size/\w.heap.size<=cb by have:=El.o.size;have:=Ze.o.lt;have:=tN.o.lt;have:=xZ.lt;have:=cC.o.size;have:=uJ.o.size;omega);obtain⟨B,hB⟩:=nm' w9.heap.size;have HBB:=J hB;clear y9 hv9 xZ nw hB;obtain⟨hvn,hvf,Ds,vb,vo,YT,hvE⟩:=HP9.o.vars;have hvm:=hvf.max ad;have⟨HVN,HVA,HVE⟩:=J3' hvn YT hvE;clear hvn hvf Ds YT hvE;have a1:=bC HB9.o;have a2:=HB9.o.lt;go_wp2_with fail;clear a1 a2
    go_loopw [63] (λt63 wr=>∃(j:Nat) (s:i_),j<=c.vars.n/\t63=.int .i64 j/\wr.ownsRow B 21 1 s.v s.n (bj (dI (p.vars.take j)))/\ai wr cb 171 (kd0 p c.aL pA c.params.n pc s).c/\Kept (·=cb) w9 wr) (λt63 _=>c.vars.n - (intOf t63).toNat)
    case atStart=>exact⟨0,⟨none,0,0⟩,cI _,rfl,⟨by simp [bj,dI],.inl ⟨rfl,rfl⟩⟩,Yo.o,kR _ _⟩
    case round=>
     obtain⟨j,s,hj,rfl,ho,hc,hk⟩:=hrel;have⟨HOJ,HCJ,uH⟩:=J3' ho hc hk;clear ho hc hk
     by_cases aP:j<c.vars.n
     .have d_:j<p.vars.length:=by have:=HVN.o;omega
      have gD:(j:Int)<c.vars.n:=by omega
      have F9:=HVA.o ad;obtain⟨hvb,aE⟩:=HVE.o ad;have LG:=aE.kept uH.o (by have:=Yw.o;omega);obtain⟨u2,u3⟩:=oB LG j d_;have u1:=LG.lt;have Ej:=J (Jg d_);have HVK:=J (n7 p.vars [] lj.o.vars p.vars[j] (ed _));generalize p.vars[j]=v at u3 Ej HVK;clear aE LG hvb;have y0:=dY wr (.cells (aZ v) 232);have eY:=bN wr 232 (aZ v);rw [F9];go_upto_region 18 with(fail);generalize (wr.alloc (.cells (aZ v) 232))=W6 at y0 eY⊢;generalize wr.heap.size=g at eY⊢;have⟨HG6,DG,DA,FJ⟩:=J4' eY (aI HOJ.o y0) (HCJ.o.ext y0) (uH.o.trans (Kept.ext y0));clear y0 eY u1 u2 u3 F9
      obtain⟨m,hm,mB⟩:∃m:Nat,max v.size 1=(m:Int)/\m=(Sq.fq v).toNat:=by
       have:=HVK.o;refine⟨(Sq.fq v).toNat,?_,rfl⟩;have:=sT v;unfold Sq.fq at*
       split at this<;>omega
      have HM:=J mB;obtain⟨z,hz0⟩:=nm' (min (max 0 v.low) v.high);have HZV:=J hz0;have agi:=J (show m<=64 by have:=HVK.o;omega);clear mB hz0;have g1:=bC HG6.o;have g2:=HG6.o.lt;go_upto_region 19 with(fail)
      try rw [hm]
      clear g1 g2 hm
      go_loopw [70] (λt70 wr=>∃(i:Nat) (s:i_),i<=m/\t70=.int .i64 i/\wr.ownsRow B 21 1 s.v s.n (bj (dI (p.vars.take j)++List.replicate i z))/\ai wr cb 171 (kd0 p c.aL pA c.params.n pc s).c/\ai wr g 232 (aZ v)/\Kept (·=cb) w9 wr) (λt70 _=>m - (intOf t70).toNat)
      case atStart=>exact⟨0,s,cI _,rfl,by simpa using DG.o,DA.o,HG6.o,FJ.o⟩
      case round=>
       obtain⟨i,q,hi,rfl,ho,hc,hg,hk⟩:=hrel;have⟨LZ,Ay,HGI,qu⟩:=J4' ho hc hg hk;clear ho hc hg hk
       by_cases MJ:i<m
       .have ahM:(i:Int)<m:=by omega
        go_upto_region 20 with(fail)
        have TO:IntKind.i32.wrap (min (max 0 v.low) v.high)=z:=by
         have h:=HVK.o;rw [HZV.o];refine S5 ?_;unfold av at*
         omega
        have ahS:¬q.v.ownBlock=some cb:=λe=>dl LZ.o (E':=171) ap cb e _ _ Ay.o;have hng:¬q.v.ownBlock=some g:=λe=>dl LZ.o (E':=232) ap g e _ _ HGI.o;have AA:=J (ew ahS hng);clear ahS hng
        have hqn:q.n<=128:=by
         have h1:=LZ.o.1;have h2:=zB (l:=p.vars) j lj.o.cells;have h3:=agi.o;rw [fG,dn,List.length_replicate]at h1
         omega
        have HQN:=J hqn;clear hqn;refine fH (λwz=>Kept (λi=>q.v.ownBlock=some i) wr wz) [(0,2),(1,2),(2,2),(3,2),(4,1),(5,2),(6,1),(7,2),(8,2),(9,1),(10,2),(11,1),(12,0),(13,0),(14,2),(15,2),(16,0)] ?_;refine fI ?_;have yd:Kept (λi=>q.v.ownBlock=some i) wr wr.drew:=(kR _ wr).drew
        repeat first|refine cx ?_|refine de yd (by intro w1 hS;have d0:=bK Ay.o hS AA.o.1;have d1:=bC d0;have d2:=d0.lt;have e0:=bK HGI.o hS AA.o.2;have e1:=bC e0;have e2:=e0.lt;exact fV) ?_|refine dc yd ?_
        refine au (λK hK=>?_);go_simp;have yA:al wr (wr.alloc (.cells #[.int .i32 z] 21)).drew:=(dM wr _).drew;refine hK.out _ _ (λ_=>Kept.ext yA) ?_;clear hK K
        have hrz:Row (wr.alloc (.cells #[.int .i32 z] 21)).drew wr.heap.size 0 (bj [z]):=by
         have h:=Row.cF (bN wr 21 #[.int .i32 z]);exact h.ext (kR _ _).drew
        obtain⟨v',wa,Pw,D5,Pm⟩:=DO _ B q.v q.n _ (aI LZ.o yA) wr.heap.size 0 1 1 [z] rfl hrz XQ (by rw [HBB.o];exact ax qu.o.size yA.size);obtain⟨A',uB,rfl⟩:=oy D5;have yb:Kept (λi=>q.v.ownBlock=some i) wr wa:=(Kept.ext yA).trans Pm;have Uh:=J D5;have HYB:=J yb;clear D5 Pm yA hrz yd;refine au (λK hK=>?_);refine BI rfl ?_;refine Lib.wp_append_run _ _ _ _ _ rfl _ _ rfl rfl _ _ Pw ?_;refine hK.out _ _ (λ_=>yb) ?_;clear hK K Pw yb;have hcw:=bK Ay.o HYB.o AA.o.1;have c1:=bC hcw;have c2:=hcw.lt;have c3:=ai.frozen hcw;have sY:=J hcw;clear hcw;refine fx ?_;have hna:¬(Value.slice A' (q.n+1) uB).ownBlock=some cb:=λe=>dl Uh.o (E':=171) ap cb e _ _ sY.o;have fu:Kept (·=cb) wa (wa.setCell ⟨cb,2,none⟩ (.slice A' (q.n+1) uB)):=Kept.setCell (kR _ _) _ _ (λ_=>rfl);have wV:=J (cU Uh.o fu (λx hx e=>by subst e;exact hna hx));have Df:=J (show ai (wa.setCell ⟨cb,2,none⟩ (.slice A' (q.n+1) uB)) cb 171 (kd0 p c.aL pA c.params.n pc ⟨A',q.n+1,uB⟩).c from ai.eK sY.o 2 _);have hgc:¬g=cb:=λe=>by have h1:=HGI.o;have h2:=Ay.o;rw [e]at h1;unfold ai at h1 h2;rw [h1]at h2;injection h2 with h2;injection h2 with _ h2;exact absurd h2 ap
        have HG8:=J (bK (bK HGI.o HYB.o AA.o.2) fu hgc);have ID:=J ((qu.o.trans' (S':=λi=>q.v.ownBlock=some i) HYB.o (λx hx e=>by have:=(LZ.o.lt x e).1;have:=HBB.o;omega)).trans fu);clear c1 c2 c3 hna fu hgc TO;generalize (wa.setCell ⟨cb,2,none⟩ (.slice A' (q.n+1) uB))=w8 at wV Df HG8 ID⊢;have ahO:=agi.o;go_wp2_with fail;go_roundw
        case rel=>exact⟨i+1,⟨A',q.n+1,uB⟩,MJ,by go_num,by rw [List.replicate_succ',<-my];exact wV.o,Df.o,HG8.o,ID.o⟩
        case measure=>simp only [intOf];omega
       .obtain rfl:i=m:=by omega
        have HOE:=J (show wr.ownsRow B 21 1 q.v q.n (bj (dI (p.vars.take (j+1))))from by rw [Ej.o,<-HZV.o,<-HM.o];exact LZ.o);go_wp2_with fail;go_roundw
        case rel=>exact⟨j+1,q,aP,by go_num,HOE.o,Ay.o,qu.o⟩
        case measure=>simp only [intOf];omega
     .obtain rfl:j=c.vars.n:=by omega
      have⟨HOF,HBJ,HAJ,HPJ,HVJ⟩:=J5' (show wr.ownsRow B 21 1 s.v s.n (bj (dI p.vars))from by have h:=HOJ.o;rw [HVN.o,jr]at h;exact h) (bK HB9.o uH.o Ow) (bK HA9.o uH.o Ow) (HP9.o.kept uH.o (by have:=Yw.o;have:=qI.o;omega) (λi e=>by have:=Yw.o;omega)) (ri.kept HV9.o uH.o (λi e=>by omega));have a1:=bH HAJ.o;have a2:=bG HAJ.o;have a3:=HAJ.o.lt;go_wp2_with fail;clear a1 a2 a3
      go_loopw [91] (λt91 wx=>∃(k:Nat) (I:Nat->i_),k<=5/\t91=.int .i64 k/\ai wx cb 171 (kdI p c.aL pA c.params.n pc s I).c/\(∀i,i<k->qJ wx cb (I i) (aK p i))/\Kept (·=cb) wr wx) (λt91 _=>5 - (intOf t91).toNat)
      case atStart=>exact⟨0,λ_=>⟨none,0,0⟩,by omega,rfl,HCJ.o,λi hi=>by omega,kR _ _⟩
      case round=>
       obtain⟨k,I,hk,rfl,hc,hi,Gi⟩:=hrel;have⟨Ay,Yt,qu⟩:=J3' hc hi Gi;clear hc hi Gi
       by_cases ss:k=5
       .subst ss
        have HFI:=J (cU HOF.o qu.o (λx hx e=>by subst e;exact dl HOF.o (E':=171) ap _ hx _ _ HCJ.o));go_wp2_with fail
        go_ret2
        have h9:al w wr:=((cC.o.trans uJ.o).trans DI.o).trans' (uH.o.trans qu.o) (λi hi e=>by have:=qI.o;omega)
        exact⟨h9,.ok HX.o.symm uA.o alQ.o cb _ ⟨Ay.o.lt,cr _,Ay.o,rfl,HP9.o.aL,uL.eT HFI.o,ri.up (ri.kept HVJ.o qu.o (λi e=>by omega)) (Nat.le_of_lt Ay.o.lt),λi hi=>by
         rcases(by omega:i=0∨i=1∨i=2∨i=3∨i=4)with rfl|rfl|rfl|rfl|rfl
         .exact(Yt.o 0 ad).below
         .exact(Yt.o 1 ad).below
         .exact(Yt.o 2 ad).below
         .exact(Yt.o 3 ad).below
         .exact(Yt.o 4 ad).below,λi hi=>rfl⟩⟩
       have VE:k=0∨k=1∨k=2∨k=3∨k=4:=by omega
       clear hk ss
       rcases VE with rfl|rfl|rfl|rfl|rfl
       .skip
        have pU:(Instr.index 227 (.agg (w_ c)) (.int .i64 0)).run prog wr=.ok c.start.v wr:=pf c.start c.turn c.cd c.quiet c.bO 0 ad wr;go_upto_region 26 with(fail);clear pU;have HBI:=J (bK HBJ.o qu.o Ow);refine Ya ?_;intro Ly DB;have wI:=J (show(partOf p 0).size<=256 from Nat.le_of_not_lt (λh=>uA.o ⟨0,by omega,h⟩));refine XX ?_;intro Ef yd K hK;go_wp2_with fail;refine(rG 0 ad cb N c p (cells p.vars) c.start.A c.start.n c.start.c (partOf p 0) (oN p 0) _ (L_.o 0 ad) (ax uw yd.size) (Ly.o.ext yd uw) ((Kept.cell yd (p:=⟨cb,0,none⟩) Ay.o.lt (λf=>f)).trans DB.o) Ef.o.1 ux ((Ly.o.ext yd uw).start) (lj.o.part 0 ad) XR (vS p (cells p.vars) 0 Ef.o.1 ux ux lj.o.np) (pG p (cells p.vars) 0) XL lj.o.np).mono ?_;rintro e w6 ⟨A',n',c',rfl,nU,tD,Gj⟩;have y6:=yd.trans nU;refine hK.out _ _ (λ_=>y6) ?_;clear hK K;have⟨DA,DG,wJ⟩:=J3' (bX Ay.o y6) (show w6.ownsRow (wr.drew.heap.size+1) 71 4 (i_.v ⟨A',n',c'⟩) (i_.n ⟨A',n',c'⟩) (db (aK p 0))from tD) y6;clear tD nU Gj y6 yd;refine X0 ?_;have fu:Kept (·=cb) w6 (w6.setCell ⟨cb,4,none⟩ (.slice A' n' c')):=Kept.setCell (kR _ _) _ _ (λ_=>rfl);have HL6:=J (qJ.eT (lo:=cb) DG.o XU XM);have Df:=J (show ai (w6.setCell ⟨cb,4,none⟩ (.slice A' n' c')) cb 171 (kdI p c.aL pA c.params.n pc s (λi=>if i=0 then⟨A',n',c'⟩else I i)).c from ai.eK DA.o 4 _)
        have OH:=J (show∀i,i<0+1->qJ (w6.setCell ⟨cb,4,none⟩ (.slice A' n' c')) cb ((λi=>if i=0 then⟨A',n',c'⟩else I i) i) (aK p i)from λi hi=>by
         by_cases e:i=0
         .subst e
          exact Ll
         .simp only [e,if_false]
          exact((Yt.o i ad).kept wJ.o (λ_ f=>f.elim)).kept fu (λi e=>by omega))
        have ID:=J ((qu.o.trans (Kept.ext wJ.o)).trans fu);clear fu;generalize (w6.setCell ⟨cb,4,none⟩ (.slice A' n' c'))=w8 at Df OH ID⊢;go_wp2_with fail;go_roundw
        case rel=>exact⟨0+1,_,by omega,by go_num,Df.o,OH.o,ID.o⟩
        case measure=>simp only [intOf];omega
       .skip
        have pU:(Instr.index 227 (.agg (w_ c)) (.int .i64 1)).run prog wr=.ok c.turn.v wr:=pf c.start c.turn c.cd c.quiet c.bO 1 ad wr;go_upto_region 26 with(fail);clear pU;have HBI:=J (bK HBJ.o qu.o Ow);refine Ya ?_;intro Ly DB;have wI:=J (show(partOf p 1).size<=256 from Nat.le_of_not_lt (λh=>uA.o ⟨1,by omega,h⟩));refine XX ?_;intro Ef yd K hK;go_wp2_with fail;refine(rG 1 ad cb N c p (cells p.vars) c.turn.A c.turn.n c.turn.c (partOf p 1) (oN p 1) _ (L_.o 1 ad) (ax uw yd.size) (Ly.o.ext yd uw) ((Kept.cell yd (p:=⟨cb,0,none⟩) Ay.o.lt (λf=>f)).trans DB.o) Ef.o.1 ux ((Ly.o.ext yd uw).turn) (lj.o.part 1 ad) XR (vS p (cells p.vars) 1 Ef.o.1 ux ux lj.o.np) (pG p (cells p.vars) 1) XL lj.o.np).mono ?_;rintro e w6 ⟨A',n',c',rfl,nU,tD,Gj⟩;have y6:=yd.trans nU;refine hK.out _ _ (λ_=>y6) ?_;clear hK K;have⟨DA,DG,wJ⟩:=J3' (bX Ay.o y6) (show w6.ownsRow (wr.drew.heap.size+1) 71 4 (i_.v ⟨A',n',c'⟩) (i_.n ⟨A',n',c'⟩) (db (aK p 1))from tD) y6;clear tD nU Gj y6 yd;refine X0 ?_;have fu:Kept (·=cb) w6 (w6.setCell ⟨cb,5,none⟩ (.slice A' n' c')):=Kept.setCell (kR _ _) _ _ (λ_=>rfl);have HL6:=J (qJ.eT (lo:=cb) DG.o XU XM);have Df:=J (show ai (w6.setCell ⟨cb,5,none⟩ (.slice A' n' c')) cb 171 (kdI p c.aL pA c.params.n pc s (λi=>if i=1 then⟨A',n',c'⟩else I i)).c from ai.eK DA.o 5 _)
        have OH:=J (show∀i,i<1+1->qJ (w6.setCell ⟨cb,5,none⟩ (.slice A' n' c')) cb ((λi=>if i=1 then⟨A',n',c'⟩else I i) i) (aK p i)from λi hi=>by
         by_cases e:i=1
         .subst e
          exact Ll
         .simp only [e,if_false]
          exact((Yt.o i ad).kept wJ.o (λ_ f=>f.elim)).kept fu (λi e=>by omega))
        have ID:=J ((qu.o.trans (Kept.ext wJ.o)).trans fu);clear fu;generalize (w6.setCell ⟨cb,5,none⟩ (.slice A' n' c'))=w8 at Df OH ID⊢;go_wp2_with fail;go_roundw
        case rel=>exact⟨1+1,_,by omega,by go_num,Df.o,OH.o,ID.o⟩
        case measure=>simp only [intOf];omega
       .skip
        have pU:(Instr.index 227 (.agg (w_ c)) (.int .i64 2)).run prog wr=.ok c.cd.v wr:=pf c.start c.turn c.cd c.quiet c.bO 2 ad wr;go_upto_region 26 with(fail);clear pU;have HBI:=J (bK HBJ.o qu.o Ow);refine Ya ?_;intro Ly DB;have wI:=J (show(partOf p 2).size<=256 from Nat.le_of_not_lt (λh=>uA.o ⟨2,by omega,h⟩));refine XX ?_;intro Ef yd K hK;go_wp2_with fail;refine(rG 2 ad cb N c p (cells p.vars) c.cd.A c.cd.n c.cd.c (partOf p 2) (oN p 2) _ (L_.o 2 ad) (ax uw yd.size) (Ly.o.ext yd uw) ((Kept.cell yd (p:=⟨cb,0,none⟩) Ay.o.lt (λf=>f)).trans DB.o) Ef.o.1 ux ((Ly.o.ext yd uw).cd) (lj.o.part 2 ad) XR (vS p (cells p.vars) 2 Ef.o.1 ux ux lj.o.np) (pG p (cells p.vars) 2) XL lj.o.np).mono ?_;rintro e w6 ⟨A',n',c',rfl,nU,tD,Gj⟩;have y6:=yd.trans nU;refine hK.out _ _ (λ_=>y6) ?_;clear hK K;have⟨DA,DG,wJ⟩:=J3' (bX Ay.o y6) (show w6.ownsRow (wr.drew.heap.size+1) 71 4 (i_.v ⟨A',n',c'⟩) (i_.n ⟨A',n',c'⟩) (db (aK p 2))from tD) y6;clear tD nU Gj y6 yd;refine X0 ?_;have fu:Kept (·=cb) w6 (w6.setCell ⟨cb,6,none⟩ (.slice A' n' c')):=Kept.setCell (kR _ _) _ _ (λ_=>rfl);have HL6:=J (qJ.eT (lo:=cb) DG.o XU XM);have Df:=J (show ai (w6.setCell ⟨cb,6,none⟩ (.slice A' n' c')) cb 171 (kdI p c.aL pA c.params.n pc s (λi=>if i=2 then⟨A',n',c'⟩else I i)).c from ai.eK DA.o 6 _)
        have OH:=J (show∀i,i<2+1->qJ (w6.setCell ⟨cb,6,none⟩ (.slice A' n' c')) cb ((λi=>if i=2 then⟨A',n',c'⟩else I i) i) (aK p i)from λi hi=>by
         by_cases e:i=2
         .subst e
          exact Ll
         .simp only [e,if_false]
          exact((Yt.o i ad).kept wJ.o (λ_ f=>f.elim)).kept fu (λi e=>by omega))
        have ID:=J ((qu.o.trans (Kept.ext wJ.o)).trans fu);clear fu;generalize (w6.setCell ⟨cb,6,none⟩ (.slice A' n' c'))=w8 at Df OH ID⊢;go_wp2_with fail;go_roundw
        case rel=>exact⟨2+1,_,by omega,by go_num,Df.o,OH.o,ID.o⟩
        case measure=>simp only [intOf];omega
       .skip
        have pU:(Instr.index 227 (.agg (w_ c)) (.int .i64 3)).run prog wr=.ok c.quiet.v wr:=pf c.start c.turn c.cd c.quiet c.bO 3 ad wr;go_upto_region 26 with(fail);clear pU;have HBI:=J (bK HBJ.o qu.o Ow);refine Ya ?_;intro Ly DB;have wI:=J (show(partOf p 3).size<=256 from Nat.le_of_not_lt (λh=>uA.o ⟨3,by omega,h⟩));refine XX ?_;intro Ef yd K hK;go_wp2_with fail;refine(rG 3 ad cb N c p (cells p.vars) c.quiet.A c.quiet.n c.quiet.c (partOf p 3) (oN p 3) _ (L_.o 3 ad) (ax uw yd.size) (Ly.o.ext yd uw) ((Kept.cell yd (p:=⟨cb,0,none⟩) Ay.o.lt (λf=>f)).trans DB.o) Ef.o.1 ux ((Ly.o.ext yd uw).quiet) (lj.o.part 3 ad) XR (vS p (cells p.vars) 3 Ef.o.1 ux ux lj.o.np) (pG p (cells p.vars) 3) XL lj.o.np).mono ?_;rintro e w6 ⟨A',n',c',rfl,nU,tD,Gj⟩;have y6:=yd.trans nU;refine hK.out _ _ (λ_=>y6) ?_;clear hK K;have⟨DA,DG,wJ⟩:=J3' (bX Ay.o y6) (show w6.ownsRow (wr.drew.heap.size+1) 71 4 (i_.v ⟨A',n',c'⟩) (i_.n ⟨A',n',c'⟩) (db (aK p 3))from tD) y6;clear tD nU Gj y6 yd;refine X0 ?_;have fu:Kept (·=cb) w6 (w6.setCell ⟨cb,7,none⟩ (.slice A' n' c')):=Kept.setCell (kR _ _) _ _ (λ_=>rfl);have HL6:=J (qJ.eT (lo:=cb) DG.o XU XM);have Df:=J (show ai (w6.setCell ⟨cb,7,none⟩ (.slice A' n' c')) cb 171 (kdI p c.aL pA c.params.n pc s (λi=>if i=3 then⟨A',n',c'⟩else I i)).c from ai.eK DA.o 7 _)
        have OH:=J (show∀i,i<3+1->qJ (w6.setCell ⟨cb,7,none⟩ (.slice A' n' c')) cb ((λi=>if i=3 then⟨A',n',c'⟩else I i) i) (aK p i)from λi hi=>by
         by_cases e:i=3
         .subst e
          exact Ll
         .simp only [e,if_false]
          exact((Yt.o i ad).kept wJ.o (λ_ f=>f.elim)).kept fu (λi e=>by omega))
        have ID:=J ((qu.o.trans (Kept.ext wJ.o)).trans fu);clear fu;generalize (w6.setCell ⟨cb,7,none⟩ (.slice A' n' c'))=w8 at Df OH ID⊢;go_wp2_with fail;go_roundw
        case rel=>exact⟨3+1,_,by omega,by go_num,Df.o,OH.o,ID.o⟩
        case measure=>simp only [intOf];omega
       .skip
        have pU:(Instr.index 227 (.agg (w_ c)) (.int .i64 4)).run prog wr=.ok c.bO.v wr:=pf c.start c.turn c.cd c.quiet c.bO 4 ad wr;go_upto_region 26 with(fail);clear pU;have HBI:=J (bK HBJ.o qu.o Ow);refine Ya ?_;intro Ly DB;have wI:=J (show(partOf p 4).size<=256 from Nat.le_of_not_lt (λh=>uA.o ⟨4,by omega,h⟩));refine XX ?_;intro Ef yd K hK;go_wp2_with fail;refine(rG 4 ad cb N c p (cells p.vars) c.bO.A c.bO.n c.bO.c (partOf p 4) (oN p 4) _ (L_.o 4 ad) (ax uw yd.size) (Ly.o.ext yd uw) ((Kept.cell yd (p:=⟨cb,0,none⟩) Ay.o.lt (λf=>f)).trans DB.o) Ef.o.1 ux ((Ly.o.ext yd uw).bO) (lj.o.part 4 ad) XR (vS p (cells p.vars) 4 Ef.o.1 ux ux lj.o.np) (pG p (cells p.vars) 4) XL lj.o.np).mono ?_;rintro e w6 ⟨A',n',c',rfl,nU,tD,Gj⟩;have y6:=yd.trans nU;refine hK.out _ _ (λ_=>y6) ?_;clear hK K;have⟨DA,DG,wJ⟩:=J3' (bX Ay.o y6) (show w6.ownsRow (wr.drew.heap.size+1) 71 4 (i_.v ⟨A',n',c'⟩) (i_.n ⟨A',n',c'⟩) (db (aK p 4))from tD) y6;clear tD nU Gj y6 yd;refine X0 ?_;have fu:Kept (·=cb) w6 (w6.setCell ⟨cb,8,none⟩ (.slice A' n' c')):=Kept.setCell (kR _ _) _ _ (λ_=>rfl);have HL6:=J (qJ.eT (lo:=cb) DG.o XU XM);have Df:=J (show ai (w6.setCell ⟨cb,8,none⟩ (.slice A' n' c')) cb 171 (kdI p c.aL pA c.params.n pc s (λi=>if i=4 then⟨A',n',c'⟩else I i)).c from ai.eK DA.o 8 _)
        have OH:=J (show∀i,i<4+1->qJ (w6.setCell ⟨cb,8,none⟩ (.slice A' n' c')) cb ((λi=>if i=4 then⟨A',n',c'⟩else I i) i) (aK p i)from λi hi=>by
         by_cases e:i=4
         .subst e
          exact Ll
         .simp only [e,if_false]
          exact((Yt.o i ad).kept wJ.o (λ_ f=>f.elim)).kept fu (λi e=>by omega))
        have ID:=J ((qu.o.trans (Kept.ext wJ.o)).trans fu);clear fu;generalize (w6.setCell ⟨cb,8,none⟩ (.slice A' n' c'))=w8 at Df OH ID⊢;go_wp2_with fail;go_roundw
        case rel=>exact⟨4+1,_,by omega,by go_num,Df.o,OH.o,ID.o⟩
        case measure=>simp only [intOf];omega
   have VE:j=0∨j=1∨j=2∨j=3∨j=4:=by omega
   clear hj Jz
   rcases VE with rfl|rfl|rfl|rfl|rfl
   .skip
    have pU:(Instr.index 227 (.agg (w_ c)) (.int .i64 0)).run prog wr=.ok c.start.v wr:=pf c.start c.turn c.cd c.quiet c.bO 0 ad wr;go_wp2_with fail;refine aoS (mZ (Fa c.start) (only p.start) N _ (ax Lw.o HK.o.size) (vF (Lx.o.start.ext HK.o Lw.o))) λw4 y4=>?_;have wS:=J (HK.o.trans y4)
    have hw:jc ((eo (only p.start):Nat):Int)=(p.start.size:Nat):=by
     rw [pu,eu];have:=lj.o.psz 0 ad;simp only [partOf]at this
     omega
    rw [hw];clear hw pU y4
    by_cases hbig:256<p.start.size
    .have hg:decide ((256:Int)<(p.start.size:Int))=true:=cJ ad
     have mR:=J hbig;clear hbig;go_wp2_with fail
     go_ret2
     exact⟨(cC.o.trans uJ.o).trans wS.o,.long HX.o.symm ⟨0,by omega,mR.o⟩⟩
    .have hg:decide ((256:Int)<(p.start.size:Int))=false:=cT ad
     have mR:=J hbig;clear hbig;go_wp2_with fail;go_roundw
     case rel=>exact⟨0+1,by omega,by go_num,λi hi=>by rcases(by omega:i<0∨i=0)with q|q;exact fW.o i q;rw [q];have:=mR.o;simp only [partOf];omega,wS.o⟩
     case measure=>simp only [intOf];omega
   .skip
    have pU:(Instr.index 227 (.agg (w_ c)) (.int .i64 1)).run prog wr=.ok c.turn.v wr:=pf c.start c.turn c.cd c.quiet c.bO 1 ad wr;go_wp2_with fail;refine aoS (mZ (Fa c.turn) (only p.turn) N _ (ax Lw.o HK.o.size) (vF (Lx.o.turn.ext HK.o Lw.o))) λw4 y4=>?_;have wS:=J (HK.o.trans y4)
    have hw:jc ((eo (only p.turn):Nat):Int)=(p.turn.size:Nat):=by
     rw [pu,eu];have:=lj.o.psz 1 ad;simp only [partOf]at this
     omega
    rw [hw];clear hw pU y4
    by_cases hbig:256<p.turn.size
    .have hg:decide ((256:Int)<(p.turn.size:Int))=true:=cJ ad
     have mR:=J hbig;clear hbig;go_wp2_with fail
     go_ret2
     exact⟨(cC.o.trans uJ.o).trans wS.o,.long HX.o.symm ⟨1,by omega,mR.o⟩⟩
    .have hg:decide ((256:Int)<(p.turn.size:Int))=false:=cT ad
     have mR:=J hbig;clear hbig;go_wp2_with fail;go_roundw
     case rel=>exact⟨1+1,by omega,by go_num,λi hi=>by rcases(by omega:i<1∨i=1)with q|q;exact fW.o i q;rw [q];have:=mR.o;simp only [partOf];omega,wS.o⟩
     case measure=>simp only [intOf];omega
   .skip
    have pU:(Instr.index 227 (.agg (w_ c)) (.int .i64 2)).run prog wr=.ok c.cd.v wr:=pf c.start c.turn c.cd c.quiet c.bO 2 ad wr;go_wp2_with fail;refine aoS (mZ (Fa c.cd) (only p.cd) N _ (ax Lw.o HK.o.size) (vF (Lx.o.cd.ext HK.o Lw.o))) λw4 y4=>?_;have wS:=J (HK.o.trans y4)
    have hw:jc ((eo (only p.cd):Nat):Int)=(p.cd.size:Nat):=by
     rw [pu,eu];have:=lj.o.psz 2 ad;simp only [partOf]at this
     omega
    rw [hw];clear hw pU y4
    by_cases hbig:256<p.cd.size
    .have hg:decide ((256:Int)<(p.cd.size:Int))=true:=cJ ad
     have mR:=J hbig;clear hbig;go_wp2_with fail
     go_ret2
     exact⟨(cC.o.trans uJ.o).trans wS.o,.long HX.o.symm ⟨2,by omega,mR.o⟩⟩
    .have hg:decide ((256:Int)<(p.cd.size:Int))=false:=cT ad
     have mR:=J hbig;clear hbig;go_wp2_with fail;go_roundw
     case rel=>exact⟨2+1,by omega,by go_num,λi hi=>by rcases(by omega:i<2∨i=2)with q|q;exact fW.o i q;rw [q];have:=mR.o;simp only [partOf];omega,wS.o⟩
     case measure=>simp only [intOf];omega
   .skip
    have pU:(Instr.index 227 (.agg (w_ c)) (.int .i64 3)).run prog wr=.ok c.quiet.v wr:=pf c.start c.turn c.cd c.quiet c.bO 3 ad wr;go_wp2_with fail;refine aoS (mZ (Fa c.quiet) (only p.quiet) N _ (ax Lw.o HK.o.size) (vF (Lx.o.quiet.ext HK.o Lw.o))) λw4 y4=>?_;have wS:=J (HK.o.trans y4)
    have hw:jc ((eo (only p.quiet):Nat):Int)=(p.quiet.size:Nat):=by
     rw [pu,eu];have:=lj.o.psz 3 ad;simp only [partOf]at this
     omega
    rw [hw];clear hw pU y4
    by_cases hbig:256<p.quiet.size
    .have hg:decide ((256:Int)<(p.quiet.size:Int))=true:=cJ ad
     have mR:=J hbig;clear hbig;go_wp2_with fail
     go_ret2
     exact⟨(cC.o.trans uJ.o).trans wS.o,.long HX.o.symm ⟨3,by omega,mR.o⟩⟩
    .have hg:decide ((256:Int)<(p.quiet.size:Int))=false:=cT ad
     have mR:=J hbig;clear hbig;go_wp2_with fail;go_roundw
     case rel=>exact⟨3+1,by omega,by go_num,λi hi=>by rcases(by omega:i<3∨i=3)with q|q;exact fW.o i q;rw [q];have:=mR.o;simp only [partOf];omega,wS.o⟩
     case measure=>simp only [intOf];omega
   .skip
    have pU:(Instr.index 227 (.agg (w_ c)) (.int .i64 4)).run prog wr=.ok c.bO.v wr:=pf c.start c.turn c.cd c.quiet c.bO 4 ad wr;go_wp2_with fail;refine aoS (mZ (Fa c.bO) (only p.bO) N _ (ax Lw.o HK.o.size) (vF (Lx.o.bO.ext HK.o Lw.o))) λw4 y4=>?_;have wS:=J (HK.o.trans y4)
    have hw:jc ((eo (only p.bO):Nat):Int)=(p.bO.size:Nat):=by
     rw [pu,eu];have:=lj.o.psz 4 ad;simp only [partOf]at this
     omega
    rw [hw];clear hw pU y4
    by_cases hbig:256<p.bO.size
    .have hg:decide ((256:Int)<(p.bO.size:Int))=true:=cJ ad
     have mR:=J hbig;clear hbig;go_wp2_with fail
     go_ret2
     exact⟨(cC.o.trans uJ.o).trans wS.o,.long HX.o.symm ⟨4,by omega,mR.o⟩⟩
    .have hg:decide ((256:Int)<(p.bO.size:Int))=false:=cT ad
     have mR:=J hbig;clear hbig;go_wp2_with fail;go_roundw
     case rel=>exact⟨4+1,by omega,by go_num,λi hi=>by rcases(by omega:i<4∨i=4)with q|q;exact fW.o i q;rw [q];have:=mR.o;simp only [partOf];omega,wS.o⟩
     case measure=>simp only [intOf];omega

