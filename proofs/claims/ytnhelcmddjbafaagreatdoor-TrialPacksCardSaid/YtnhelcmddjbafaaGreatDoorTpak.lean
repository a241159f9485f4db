import Derived.Test.YtnhelcmddjbafaaGreatDoorTpaj
set_option maxHeartbeats 4000000
set_option maxRecDepth 100000
open Go.Proofs.Tryz
namespace Go.Proofs.YtnhelcmddjbafaaGreatDoor
open Go.RowKit Sq
variable{G:Prop}
theorem Ss (c:Pc) (p:Pr) (N:Nat) (w:World) (hN:N<=w.heap.size) (h:nj w N c p) (qM:c.params.n<=c.params.c):Calls prog 148 #[.agg c.cells] w λe w'=>e=.returned (.agg (fM (aj (must (decide (p.params.length<=4)) 8 fJ) (aj (dE (fm p.vars) [] p.params) (aj (must (decide (mL p.params<=512)) 8 fJ) (aj (must (dq p.silent) 6 p.silent) (must (fm p.vars p.silent==0) 7 p.silent)))))))/\al w w':=by
 obtain⟨cn,jY,ld,⟨vA,vn,vc⟩,cs,ct,⟨A,n,cc⟩,iD,mj,cq,oH⟩:=c;obtain rfl:mj=p.silent:=h.silent;obtain⟨b1,hJ⟩:=nm' (dq p.silent);obtain⟨b2,jo⟩:=nm' (p.vars.any (λv=>decide (v.name=p.silent)));obtain⟨mn,VK⟩:=nm' (mL p.params);obtain⟨M,hM⟩:=nm' (aj (must (decide (mn<=512)) 8 fJ) (aj (must b1 6 p.silent) (must (!b2) 7 p.silent)));obtain⟨X,hX⟩:=nm' (aj (must (decide (p.params.length<=4)) 8 fJ) (aj (dE (fm p.vars) [] p.params) M));have hXE:X=(aj (must (decide (p.params.length<=4)) 8 fJ) (aj (dE (fm p.vars) [] p.params) (aj (must (decide (mL p.params<=512)) 8 fJ) (aj (must (dq p.silent) 6 p.silent) (must (fm p.vars p.silent==0) 7 p.silent))))):=by rw [hX,hM,VK,hJ,jo,BS]
 rw [<-hXE];clear hXE;have⟨HM,Ts,nQ,Ty,HX⟩:=J5' hM hJ jo VK hX;clear hX hM hJ jo VK;have qM:n<=cc:=qM;have aF:=(dY w (.cells (Pc.cells (⟨cn,jY,ld,⟨vA,vn,vc⟩,cs,ct,⟨A,n,cc⟩,iD,p.silent,cq,oH⟩:Pc)) 39)).alloc (.cells #[.int .i64 0,.string ⟨#[]⟩] 166);have hB:=(bN w 39 (Pc.cells (⟨cn,jY,ld,⟨vA,vn,vc⟩,cs,ct,⟨A,n,cc⟩,iD,p.silent,cq,oH⟩:Pc))).alloc (.cells #[.int .i64 0,.string ⟨#[]⟩] 166);have hD:=ai.ea (w.alloc (.cells (Pc.cells (⟨cn,jY,ld,⟨vA,vn,vc⟩,cs,ct,⟨A,n,cc⟩,iD,p.silent,cq,oH⟩:Pc)) 39)) 166 #[.int .i64 0,.string ⟨#[]⟩] (w.heap.size+1) aB;have⟨jh,fX,HSO⟩:=J3' (h.ext aF hN) (ax hN aF.size) h.rL;obtain⟨hn,hf,hok,b,off,hA,hE⟩:=h.params.ext aF;have hm:=hf.max ad;have⟨HN,HA,HE,lm⟩:=J4' (show n=p.params.length from hn) hA hE hok;clear hn hA hE hok hf h;go_enter func148,ntmps148;go_upto_region 1 with(fail);generalize hW:((w.alloc (.cells (Pc.cells (⟨cn,jY,ld,⟨vA,vn,vc⟩,cs,ct,⟨A,n,cc⟩,iD,p.silent,cq,oH⟩:Pc)) 39)).alloc (.cells #[.int .i64 0,.string ⟨#[]⟩] 166))=W at aF hB hD HE jh fX⊢;clear hW;obtain⟨rb,mC⟩:=nm' (w.heap.size+1);rw [<-mC]at hD⊢;have⟨AB,HD,dS,HB⟩:=J4' (show w.heap.size<=rb by omega) hD aF hB;clear hD aF mC hB;generalize w.heap.size=pb at HB⊢;have cy:=J (kR (λ_=>False) W);refine FD ?_;intro dW fE gl gg gY lh lf gU
 by_cases h4:(n:Int)>4
 .have HR:=J (show X=some ⟨8,fJ⟩by rw [HX.o,cT (show¬p.params.length<=4 by have:=HN.o;omega),aM,aT])
  exact zT
 .have ji:=J (show X=aj (dE (fm p.vars) [] p.params) M by rw [HX.o,cJ (show p.params.length<=4 by have:=HN.o;omega),bt,aS])
  clear HX;go_wp21;clear dW fE gl gg gY lh lf gU cy
  go_loopw [3] (λt3 wr=>∃(j:Nat),j<=n/\t3=.int .i64 j/\aj (dE (fm p.vars) (p.params.take j) (p.params.drop j)) M=X/\al W wr) (λt3 _=>n - (intOf t3).toNat)
  case atStart=>exact⟨0,cI _,rfl,ji.o.symm,kR _ _⟩
  case round=>
   obtain⟨j,hj,rfl,bw,hx⟩:=hrel;have cy:=J hx;have ca:=J bw;clear hx bw;refine FD ?_;intro dW fE gl gg gY lh lf gU
   by_cases aP:j<n
   .have d_:j<p.params.length:=by have:=HN.o;omega
    have gD:(j:Int)<n:=by omega
    have hjc:(j:Int)<=cc:=by omega
    have HJV:=J (jh.o.params.take j hj);obtain rfl:=HA.o ad;have aE:=(HE.o ad).2.ext cy.o;obtain⟨jx,hg'⟩:=oB aE j d_;have gB:=aE.lt;obtain⟨x,fj⟩:=nm' (p.params[j]);have HVO:=J (lm.o x abt);have oc:p.params.drop j=x::p.params.drop (j+1):=by rw [fj];exact q_ d_
    have pd:p.params.take (j+1)=p.params.take j++[x]:=by rw [fj,lq,List.getElem?_eq_getElem d_];rfl
    rw [<-fj]at hg';have bw:=ca.o;rw [oc]at bw;have Ej:=J pd;obtain⟨Y,hY⟩:=nm' (aj (dE (fm p.vars) (p.params.take j++[x]) (p.params.drop (j+1))) M);have YA:=J hY;obtain⟨a1,Iq⟩:=nm' (p.vars.any (λv=>decide (v.name=x.name)));obtain⟨a2,Js⟩:=nm' ((p.params.take j).any (λv=>decide (v.name=x.name)))
    have gf:aoR (X=aj (must (dq x.name) 6 x.name) (aj (must (!a1&&!a2) 7 x.name) (aj (must (x.size==0) 3 x.name) (aj (must (span x) 2 x.name) Y)))):=J (by
     rw [<-bw,hY,dE,du,du,du,du,BS,Iq,Js])
    have HA1:=J Iq;have HA2:=J Js;clear aE fj bw oc pd hY ca Iq Js;have y0:=dY wr (.cells (aZ x) 174);have Ge:=bN wr 174 (aZ x);go_upto_region 7 with(fail);clear jx hg' gB dW fE gl gg gY lh lf gU;have HZ:=J (cy.o.trans y0);generalize kX:(wr.alloc (.cells (aZ x) 174))=W1 at y0 Ge HZ⊢;generalize wr.heap.size=eb at Ge⊢;have Zz:=J Ge;clear kX y0 Ge cy;have MF:=bC Zz.o;have MI:=Zz.o.lt;go_wp21;refine aoS (lQ x.name HVO.o.name _) λw1 aw=>?_;have cy:=J (HZ.o.trans aw);have Ek:=J (bX Zz.o aw);clear MF MI aw Zz HZ;have MF:=bC Ek.o;have MI:=Ek.o.lt;refine FD ?_;intro dW fE gl gg gY lh lf gU
    cases hn:dq x.name
    .have HR:=J (show X=some ⟨6,x.name⟩by rw [gf.o,hn,aM,aT])
     exact zT
    .have gq:=J (show X=aj (must (!a1&&!a2) 7 x.name) (aj (must (x.size==0) 3 x.name) (aj (must (span x) 2 x.name) Y))by rw [gf.o,hn,bt,aS])
     clear gf hn dW fE gl gg gY lh lf gU MF MI;go_upto_region 9 with(fail)
     cases a1
     .refine ajS ?_;intro eE K hK
      rintro e w2 ⟨rfl,rfl⟩;rw [<-HA1.o];refine hK.out _ _ (λ_=>eE.o) ?_;clear hK K
      repeat first|refine cx ?_|refine de eE.o afp ?_|refine dc eE.o ?_
      refine au (λK hK=>?_);go_simp;refine aoT (vh (p.params.take j) x.name _ j _ N _ (HJV.o.ext (cy.o.trans eE.o))) ?_;rw [<-HA2.o];refine hK.out _ _ (λ_=>eE.o) ?_;clear hK K;refine fx ?_;have cy:=J (cy.o.trans eE.o);have zt:=J (bX Ek.o eE.o);generalize w1.drew=W2 at cy zt⊢;clear eE Ek;have MF:=bC zt.o;have MI:=zt.o.lt;refine FD ?_;intro dW fE gl gg gY lh lf gU
      cases a2
      .have eU:=J (show X=aj (must (x.size==0) 3 x.name) (aj (must (word x.low&&word x.high&&decide (x.low<=x.high)) 2 x.name) Y)by rw [gq.o];rfl)
       clear gq
       by_cases hz:x.size=0
       .have hzb:(x.size==0)=true:=by simp [hz]
        have kv:=J (show X=aj (must (word x.low&&word x.high&&decide (x.low<=x.high)) 2 x.name) Y by rw [eU.o,hzb,bt,aS]);clear hzb;go_wp21;refine aoT (iZ x.low _) ?_
        cases om:word x.low
        .have HR:=J (show X=some ⟨2,x.name⟩by rw [kv.o,om];rfl)
         exact zT
        .go_wp21
         refine aoT (iZ x.high _) ?_
         cases tf:word x.high
         .have HR:=J (show X=some ⟨2,x.name⟩by rw [kv.o,om,tf];rfl)
          exact zT
         .have tm:=J (show X=aj (must (decide (x.low<=x.high)) 2 x.name) Y by rw [kv.o,om,tf,rf,rf])
          clear eU kv om tf
          by_cases iM:x.low>x.high
          .have HR:=J (show X=some ⟨2,x.name⟩by rw [tm.o,cT ad,aM,aT])
           exact zT
          .have Ih:=J (show X=Y by rw [tm.o,cJ ad,bt,aS])
           go_wp21;exact⟨⟨j+1,aP,by go_num,by rw [Ej.o,<-YA.o,Ih.o],cy.o⟩,by simp only [intOf];omega⟩
       .have hzb:(x.size==0)=false:=by simp [hz]
        have HR:=J (show X=some ⟨3,x.name⟩by rw [eU.o,hzb,aM,aT]);exact zT
      .have HR:=J (show X=some ⟨7,x.name⟩by rw [gq.o];rfl)
       exact zT
     .refine ajS ?_;intro eE K hK
      rintro e w2 ⟨rfl,rfl⟩;rw [<-HA1.o];refine hK.out _ _ (λ_=>eE.o) ?_;clear hK K
      repeat first|refine cx ?_|refine de eE.o afp ?_|refine dc eE.o ?_
      refine au (λK hK=>?_);go_simp;refine hK.out _ _ (λh=>h) ?_;clear hK K;refine fx ?_;have cy:=J (cy.o.trans eE.o);have zt:=J (bX Ek.o eE.o);generalize w1.drew=W2 at cy zt⊢;clear eE Ek;have MF:=bC zt.o;have MI:=zt.o.lt;refine FD ?_;intro dW fE gl gg gY lh lf gU;have HR:=J (show X=some ⟨7,x.name⟩by rw [gq.o];rfl);exact zT
   .obtain rfl:j=n:=by omega
    have Ii:=J (show X=M by rw [<-ca.o,HN.o,tp];rfl);clear ca;go_wp21;refine aoS (Sr (⟨cn,jY,ld,⟨vA,vn,vc⟩,cs,ct,⟨A,j,cc⟩,iD,p.silent,cq,oH⟩:Pc) p N _ (ax fX.o cy.o.size) (jh.o.ext cy.o fX.o)) λw2 bd=>?_;clear dW fE gl gg gY lh lf gU;have cy:=J (cy.o.trans bd);clear bd;rw [<-Ty.o];refine FD ?_;intro dW fE gl gg gY lh lf gU
    by_cases h5:mn>512
    .have HR:=J (show X=some ⟨8,fJ⟩by rw [Ii.o,HM.o,cT ad,aM,aT])
     exact zT
    .have kv:=J (show X=aj (must b1 6 p.silent) (must (!b2) 7 p.silent)by rw [Ii.o,HM.o,cJ ad,bt,aS])
     clear Ii HM;go_wp21;refine aoS (lQ p.silent HSO.o _) λw3 dv=>?_;clear dW fE gl gg gY lh lf gU;have cy:=J (cy.o.trans dv);clear dv;rw [<-Ts.o];refine FD ?_;intro dW fE gl gg gY lh lf gU
     cases b1
     .have HR:=J (show X=some ⟨6,p.silent⟩by rw [kv.o,aM,aT])
      exact zT
     .have tm:=J (show X=must (!b2) 7 p.silent by rw [kv.o,bt,aS])
      go_wp21;refine aoT (vh p.vars p.silent vA vn vc N _ (jh.o.ext cy.o fX.o).vars) ?_;rw [<-nQ.o]
      cases b2
      .have HR:=J (show X=none by rw [tm.o,Bool.not_false,bt])
       go_wp21;refine aoS (kh _) λw5 iG=>?_;clear dW fE gl gg gY lh lf gU;have cy:=J (cy.o.trans iG);refine FD ?_;intro dW fE gl gg gY lh lf gU;clear iG;exact zT
      .have HR:=J (show X=some ⟨7,p.silent⟩by rw [tm.o,uM,aM])
       exact zT
theorem NK (c:Pc) (p:Pr) (A:Option Addr) (n k:Nat) (l:List Str) (kind:Int) (name:Str) (eA:Option Addr) (en ec:Nat) (low high:Int) (lA:Option Addr) (ln lc:Nat) (xA:Option Addr) (xn xc:Nat) (deep:Nat) (hs:name.size<=maxLen) (N:Nat) (w:World) (hN:N<=w.heap.size) (h:nj w N c p) (hl:dN w N A n l):
 Calls prog 274 #[.agg (cL c A n k),.agg (aN kind name eA en ec low high lA ln lc xA xn xc),.int .i64 (deep:Int)] w λe w'=>e=.returned (.agg (fM (named (a_ (fm p.vars) l) kind name low high deep)))/\al w w':=by
 obtain⟨X,hX⟩:=nm' (named (a_ (fm p.vars) l) kind name low high deep);rw [<-hX];obtain⟨v,hv⟩:=nm' (a_ (fm p.vars) l name);have HV:=J hv;have HX:aoR (X=if kind=0∨kind=1∨kind=5 then aj (must (v !=0) 6 name) (aj (must (v==(if kind=1 then 2 else 1)) 11 name) (if kind=5 then must (iL low 2 1000) 2 name else none))else if kind=3 then aj (must (dq name) 6 name) (aj (must (v==0) 7 name) (aj (must (word low&&word high&&decide (high - low<=63)) 2 name) (must (decide (deep<8)) 25 name)))else none):=J (by rw [hX,hv];rfl);clear hX hv;have Qn:=J hs;clear hs;have aF:=((dY w (.cells (cL c A n k) 243)).alloc (.cells (aN kind name eA en ec low high lA ln lc xA xn xc) 223)).alloc (.cells #[.int .i64 0,.string ⟨#[]⟩] 166);have hK:=((bN w 243 (cL c A n k)).alloc (.cells (aN kind name eA en ec low high lA ln lc xA xn xc) 223)).alloc (.cells #[.int .i64 0,.string ⟨#[]⟩] 166);have hS:=(ai.ea (w.alloc (.cells (cL c A n k) 243)) 223 (aN kind name eA en ec low high lA ln lc xA xn xc) (w.heap.size+1) aB).alloc (.cells #[.int .i64 0,.string ⟨#[]⟩] 166);have hD:=ai.ea ((w.alloc (.cells (cL c A n k) 243)).alloc (.cells (aN kind name eA en ec low high lA ln lc xA xn xc) 223)) 166 #[.int .i64 0,.string ⟨#[]⟩] (w.heap.size+1+1) aB;go_enter func274,ntmps274;go_upto_region 1 with(fail);have⟨jh,wI,fX⟩:=J3' (h.ext aF hN) (hl.ext aF) (ax hN aF.size);generalize hW:(((w.alloc (.cells (cL c A n k) 243)).alloc (.cells (aN kind name eA en ec low high lA ln lc xA xn xc) 223)).alloc (.cells #[.int .i64 0,.string ⟨#[]⟩] 166))=W at aF hK hS hD jh wI fX⊢;clear hW h hl;obtain⟨rb,mC⟩:=nm' (w.heap.size+1+1);rw [<-mC]at hD⊢;obtain⟨sb,EU⟩:=nm' (w.heap.size+1);rw [<-EU]at hS⊢;have⟨AB,HD,dS,HK,HS⟩:=J5' (show w.heap.size<=rb by omega) hD aF hK hS;clear hD aF mC EU hK hS;generalize w.heap.size=kb at HK⊢;have cy:=J (kR (λ_=>False) W);refine Oy ?_;intro dW fE gl gg jL o8 o6 o5 nO
 by_cases h0:kind=0
 .subst h0
  have gf:=J (show X=aj (must (v !=0) 6 name) (must (v==1) 11 name)by rw [HX.o];simp);clear HX;go_wp21;refine abA ?_;clear dW fE gl gg jL o8 o6 o5 nO;intro w2 cy;refine Oy ?_;intro dW fE gl gg jL o8 o6 o5 nO
  by_cases i':v=0
  .have q0:((v:Int)==0)=true:=by simp [i']
   exact afU
  .have q0:((v:Int)==0)=false:=by simp;omega
   have n0:(v !=0)=true:=by simp [i']
   have gq:=J (show X=must (v==1) 11 name by rw [gf.o,n0,bt,aS]);clear i'
   by_cases mJ:v=1
   .have q1:((v:Int)==1)=true:=by simp [mJ]
    exact akp
   .have q1:((v:Int)==1)=false:=by simp;omega
    have n1:(v==1)=false:=by simp [mJ]
    exact akL
 .by_cases h1:kind=1
  .subst h1
   have gf:=J (show X=aj (must (v !=0) 6 name) (must (v==2) 11 name)by rw [HX.o];simp);clear HX;go_wp21;refine abA ?_;clear dW fE gl gg jL o8 o6 o5 nO;intro w2 cy;refine Oy ?_;intro dW fE gl gg jL o8 o6 o5 nO
   by_cases i':v=0
   .have q0:((v:Int)==0)=true:=by simp [i']
    exact afU
   .have q0:((v:Int)==0)=false:=by simp;omega
    have n0:(v !=0)=true:=by simp [i']
    have gq:=J (show X=must (v==2) 11 name by rw [gf.o,n0,bt,aS]);clear i'
    by_cases mJ:v=2
    .have q1:((v:Int)==2)=true:=by simp [mJ]
     have q2:((v:Int) !=2)=false:=by simp [mJ]
     exact akp
    .have q1:((v:Int)==2)=false:=by simp;omega
     have q2:((v:Int) !=2)=true:=by simp;omega
     have n1:(v==2)=false:=by simp [mJ]
     exact akL
  .by_cases h5:kind=5
   .subst h5
    have gf:=J (show X=aj (must (v !=0) 6 name) (aj (must (v==1) 11 name) (must (iL low 2 1000) 2 name))by rw [HX.o];simp);clear HX;go_wp21;refine abA ?_;clear dW fE gl gg jL o8 o6 o5 nO;intro w2 cy;refine Oy ?_;intro dW fE gl gg jL o8 o6 o5 nO
    by_cases i':v=0
    .have q0:((v:Int)==0)=true:=by simp [i']
     exact afU
    .have q0:((v:Int)==0)=false:=by simp;omega
     have n0:(v !=0)=true:=by simp [i']
     have gq:=J (show X=aj (must (v==1) 11 name) (must (iL low 2 1000) 2 name)by rw [gf.o,n0,bt,aS]);clear i'
     by_cases mJ:v=1
     .have q1:((v:Int)==1)=true:=by simp [mJ]
      have eU:=J (show X=must (iL low 2 1000) 2 name by rw [gq.o,mJ];rfl);clear mJ;go_wp21;refine aoT (pX low 2 1000 _) ?_
      cases hb:iL low 2 1000
      .have HR:=J (show X=some ⟨2,name⟩by rw [eU.o,hb,aM])
       exact Db
      .have HR:=J (show X=none by rw [eU.o,hb,bt])
       exact abJ
     .have q1:((v:Int)==1)=false:=by simp;omega
      have n1:(v==1)=false:=by simp [mJ]
      have HR:=J (show X=some ⟨11,name⟩by rw [gq.o,n1,aM,aT]);clear mJ;exact Db
   .by_cases h3:kind=3
    .subst h3
     have gf:=J (show X=aj (must (dq name) 6 name) (aj (must (v==0) 7 name) (aj (must (word low&&word high&&decide (high - low<=63)) 2 name) (must (decide (deep<8)) 25 name)))by rw [HX.o];simp);clear HX;go_wp21;refine aoS (lQ name Qn.o _) λw2 bd=>?_;clear dW fE gl gg jL o8 o6 o5 nO;have cy:=J (cy.o.trans bd);clear bd;refine Oy ?_;intro dW fE gl gg jL o8 o6 o5 nO
     cases hn:dq name
     .have HR:=J (show X=some ⟨6,name⟩by rw [gf.o,hn,aM,aT])
      exact Db
     .have gq:=J (show X=aj (must (v==0) 7 name) (aj (must (word low&&word high&&decide (high - low<=63)) 2 name) (must (decide (deep<8)) 25 name))by rw [gf.o,hn,bt,aS])
      clear gf;go_wp21;refine abA ?_;clear dW fE gl gg jL o8 o6 o5 nO;intro w2 cy;refine Oy ?_;intro dW fE gl gg jL o8 o6 o5 nO
      by_cases i':v=0
      .have q0:((v:Int)==0)=true:=by simp [i']
       have eU:=J (show X=aj (must (word low&&word high&&decide (high - low<=63)) 2 name) (must (decide (deep<8)) 25 name)by rw [gq.o,i'];rfl);clear i' gq;go_wp21;refine aoT (iZ low _) ?_
       cases om:word low
       .have HR:=J (show X=some ⟨2,name⟩by rw [eU.o,om];rfl)
        exact Db
       .go_wp21
        refine aoT (iZ high _) ?_
        cases tf:word high
        .have HR:=J (show X=some ⟨2,name⟩by rw [eU.o,om,tf];rfl)
         exact Db
        .have hJ:-2147483648<=low/\low<=2147483647:=by simpa [word]using om
         have kv:=J (show X=aj (must (decide (high - low<=63)) 2 name) (must (decide (deep<8)) 25 name)by rw [eU.o,om,tf,rf,rf]);clear eU om tf;have hwr:IntKind.i64.wrap (low+63)=low+63:=by rw [im];omega
         by_cases iM:high>low+63
         .have HR:=J (show X=some ⟨2,name⟩by rw [kv.o,cT ad,aM,aT])
          exact Db
         .have tm:=J (show X=must (decide (deep<8)) 25 name by rw [kv.o,cJ ad,bt,aS])
          by_cases hd8:(deep:Int)≥8
          .have HR:=J (show X=some ⟨25,name⟩by rw [tm.o,cT ad,aM])
           exact Db
          .have HR:=J (show X=none by rw [tm.o,cJ ad,bt])
           exact abJ
      .have q0:((v:Int)==0)=false:=by simp;omega
       have n0:(v==0)=false:=by simp [i']
       have HR:=J (show X=some ⟨7,name⟩by rw [gq.o,n0,aM,aT]);clear i';exact Db
    .have HR:=J (show X=none by rw [HX.o,af ad,af h3])
     exact abJ
theorem Cb (κ:Kn) (kind:Int) (s:Str) (low high:Int) (aO:Nat):NZ (named κ kind s low high aO):=by
 unfold named target loop;exact NZ.ite (NZ.aj (NZ.must ap) (NZ.aj (NZ.must ap) (NZ.ite (NZ.must ap) NZ.none))) (NZ.ite (NZ.aj (NZ.must ap) (NZ.aj (NZ.must ap) (NZ.aj (NZ.must ap) (NZ.must ap)))) NZ.none)
theorem GI (κ:Kn):∀F:EF,NZ (ke κ F)
 | .nil=>NZ.none
 | .cons op n s k r=>by
  rw [oZ];exact NZ.aj (NZ.aj (NZ.must ap) (GH κ op n s k)) (GI κ r)
theorem iI (part:Nat):∀(F:SF) (κ:Kn) (aO:Nat) (fy:Bool),NZ (cH part κ aO fy F)
 | .nil,_,_,_=>by rw [cH];exact NZ.none
 | .cons kind name e low high l fi r,κ,aO,fy=>by
  rw [cH];exact NZ.aj (NZ.aj (NZ.must ap) (NZ.aj (NZ.must ap) (NZ.aj (Cb κ kind name low high aO) (NZ.aj (GI κ e) (NZ.ite (NZ.aj (iI part l κ aO false) (iI part fi κ aO false)) (NZ.ite (iI part l _ _ false) NZ.none)))))) (iI part r κ aO fy)
theorem aax (part:Nat) (κ:Kn) (aO:Nat) (last:Bool) (kind:Int) (name:Str) (e:EF) (low high:Int) (l fi:SF):NZ (oG part κ aO last kind name e low high l fi):=by
 unfold oG;exact NZ.aj (NZ.must ap) (NZ.aj (NZ.must ap) (NZ.aj (Cb κ kind name low high aO) (NZ.aj (GI κ e) (NZ.ite (NZ.aj (iI part l κ aO false) (iI part fi κ aO false)) (NZ.ite (iI part l _ _ false) NZ.none)))))
theorem KZ (κ:Kn) (l:List Str) (s:Str):a_ κ (l++[s])=pM (a_ κ l) s 3:=by
 funext t
 unfold a_ pM;rw [List.any_append]
 by_cases h:t=s
 .subst h;simp
 .have h2:decide (s=t)=false:=cT (λe=>h e.symm)
  simp only [List.any_cons,List.any_nil,h2,Bool.or_false];rw [af h]
theorem NZ.o {o:Option nZ} (h:NZ o) {fe:Int} {fn:Str} (e:o=.some ⟨fe,fn⟩):(fe==0)=false:=by simpa using h ⟨fe,fn⟩ e
theorem adK {α:Type} {f:α->Array Value} {P:Program} {T E:TypeId} {sz bytes:Nat} (hE:tL P T E sz bytes) (hf:∀d,(f d).size=sz) (D_:∀d,eB (f d).toList=true) (w:World) (base:Nat) (v:Value) (n:Nat) (xs:List α) (gp:w.ownsRow base E sz v n (bZ f xs))
 (A:Option Addr) (m c:Nat) (l:List α) (hm:m=l.length) (hA:A=none->c=0) (hr:0<m->∃b off,A=some ⟨b,off,none⟩/\Row w b off (bZ f l)) (hn:(n+m)*bytes<=140737488355328) (gL:base<=w.heap.size) (h8:8<=bytes:=by omega):
 ∃v' w',(Builtin.append_ #[T,T] T #[v,.slice A m c]).run P w=.ok v' w'/\w'.ownsRow base E sz v' (n+m) (bZ f (xs++l))/\Kept (λi=>v.ownBlock=some i) w w'/\(∀i,v'.ownBlock=some i->v.ownBlock=some i∨w.heap.size<=i):=by
 by_cases h0:0<m
 .obtain⟨b,off,rfl,aE⟩:=hr h0
  exact L8 hE hf D_ w base v n xs gp b off m c l hm aE hn gL h8
 .obtain rfl:m=0:=by omega
  have hl:l=[]:=List.eq_nil_of_length_eq_zero hm.symm;subst hl;obtain⟨ht,i,z,hi,hz,h1,h2,h3,h4⟩:=hE;have aF:xs++([]:List α)=xs:=List.append_nil xs;rw [aF]
  cases A with
  |none=>
   obtain rfl:=hA rfl;exact⟨v,w,run_append_owned_none (P:=P) (w:=w) base T T E i sz ht hi v n (bZ f xs) gp,gp,kR _ w,λi h=>.inl h⟩
  |some a=>
   rcases gp.2 with⟨rfl,rfl⟩|⟨g,cap,cV,rfl,YM,hgc,rB,vu,kL,pd⟩
   .have zG:(0:Nat)+0<=maxLen:=by unfold maxLen;omega
    have hx:bZ f xs=[]:=List.eq_nil_of_length_eq_zero (by simpa using gp.1);obtain⟨v',w',dz,ho,hg,amC⟩:=run_append_own (P:=P) w base T T E i z sz bytes ht hi hz h1 h2 h3 h4 (.slice none 0 0) 0 (bZ f xs) gp a 0 c [] aB (λj u h=>by simp at h) (λu h=>by simp at h) zG hn gL;have hv:v'=.slice none 0 0:=amC.2 ⟨rfl,rfl⟩;subst hv;refine⟨_,w',dz,?_,Kept.pr hg,λi h=>.inl h⟩
    simpa using ho
   .have iV:=run_append_room (P:=P) w T T E i ht hi g n cap cV hgc a 0 c [] aB (λj u h=>by simp at h) (λu h=>by simp at h) ad (by rw [h1,kL];simp;exact Nat.mul_le_mul_right _ rB)
    obtain⟨v',w',dz,ho,hg,-⟩:=run_append_own (P:=P) w base T T E i z sz bytes ht hi hz h1 h2 h3 h4 (.slice (some ⟨g,0,none⟩) n cap) n (bZ f xs) gp a 0 c [] aB (λj u h=>by simp at h) (λu h=>by simp at h) ad hn gL;rw [dz]at iV;injection iV with e1 e2;subst e1;refine⟨_,w',dz,?_,Kept.pr hg,λi h=>.inl h⟩
    simpa using ho
theorem aiH {F M:World->Value->Value->Value->Nat->Nat->Prop} (h:(∀W a b c d e,F W a b c d e->M W a b c d e)->G) (h2:∀W a b c d e,F W a b c d e->M W a b c d e):G:=h h2
abbrev Uw (c:Pc) (p:Pr) (i N:Nat) (w0:World) (F:SF):Prop:=∀(deep:Nat) (fy:Bool) (A:Option Addr) (n k:Nat) (pl:List Str) (B:Option Addr) (bn bc:Nat) (w':World),al w0 w'->dN w' w'.heap.size A n pl->(A=none->k=0)->pl.length<=40+deep->deep<=8->jm w0 N B bn F->
 Calls prog 149 #[.agg (cL c A n k),.slice B bn bc,.int .i64 (i:Int),.int .i64 (deep:Int),.bool fy] w' λe w2=>e=.returned (.agg (fM (cH i (a_ (fm p.vars) pl) deep fy F)))/\al w' w2
theorem Fj (c:Pc) (p:Pr) (i:Nat) (hi:i<5) (N:Nat) (w0:World) (hN:N<=w0.heap.size) (h:nj w0 N c p) (deep:Nat) (hd8:deep<=8) (kind:Int) (name:Str) (e:EF) (low high:Int) (l x:SF) (eA:Option Addr) (ec:Nat) (lA:Option Addr) (lc:Nat) (xA:Option Addr) (xc:Nat) (last:Bool) (hs:name.size<=maxLen)
 (he:me w0 N eA e.len e) (hl:jm w0 N lA l.len l) (hx:jm w0 N xA x.len x) (HBL:Uw c p i N w0 l) (HBX:Uw c p i N w0 x) (A:Option Addr) (n kc:Nat) (pl:List Str) (w:World) (hw:al w0 w) (mW:dN w w.heap.size A n pl) (hAk:A=none->kc=0) (yq:pl.length<=40+deep):
 Calls prog 216 #[.agg (cL c A n kc),.agg (aN kind name eA e.len ec low high lA l.len lc xA x.len xc),.int .i64 (i:Int),.int .i64 (deep:Int),.bool last] w λe2 w'=>e2=.returned (.agg (fM (oG i (a_ (fm p.vars) pl) deep last kind name e low high l x)))/\al w w':=by
 obtain⟨κ,T9⟩:=nm' (a_ (fm p.vars) pl);obtain⟨nm,hnm⟩:=nm' (named κ kind name low high deep);obtain⟨D,EM⟩:=nm' (ke κ e);obtain⟨st,dw⟩:=nm' (stands kind i last);obtain⟨R,fz⟩:=nm' ((if kind=2 then aj (cH i κ deep false l) (cH i κ deep false x)else if kind=3 then cH i (pM κ name 3) (deep+1) false l else none));obtain⟨X,hX⟩:=nm' (aj (must (iL kind 0 9&&e.len==stmtParts kind) 3 E0) (aj (must st 10 (bV i)) (aj nm (aj D R))));have hXE:X=oG i (a_ (fm p.vars) pl) deep last kind name e low high l x:=by rw [hX,dw,hnm,EM,fz,T9];rfl
 rw [<-hXE];have⟨HX,LV,Qn,HDE,qT,HRE⟩:=J6' hX T9 hnm EM dw fz;clear hXE hX T9 hnm EM dw fz;have⟨HS0,agf,alp,Ei,HAK⟩:=J5' hs HBL HBX (ew yq hd8) hAk;clear hAk;have⟨HWW,HL0,alT⟩:=J3' hw hl hx;clear hs HBL HBX yq hd8 hl hx;have aF:=((dY w (.cells (cL c A n kc) 243)).alloc (.cells (aN kind name eA e.len ec low high lA l.len lc xA x.len xc) 223)).alloc (.cells #[.int .i64 0,.string ⟨#[]⟩] 166);have hK:=((bN w 243 (cL c A n kc)).alloc (.cells (aN kind name eA e.len ec low high lA l.len lc xA x.len xc) 223)).alloc (.cells #[.int .i64 0,.string ⟨#[]⟩] 166);have hS:=(ai.ea (w.alloc (.cells (cL c A n kc) 243)) 223 (aN kind name eA e.len ec low high lA l.len lc xA x.len xc) (w.heap.size+1) aB).alloc (.cells #[.int .i64 0,.string ⟨#[]⟩] 166);have hD:=ai.ea ((w.alloc (.cells (cL c A n kc) 243)).alloc (.cells (aN kind name eA e.len ec low high lA l.len lc xA x.len xc) 223)) 166 #[.int .i64 0,.string ⟨#[]⟩] (w.heap.size+1+1) aB;go_enter func216,ntmps216;go_upto_region 1 with(fail);have FM:=J (show N<=w.heap.size from ax hN hw.size);have⟨jh,wI,fX,HES,HWZ⟩:=J5' (((h.ext hw hN).ext aF FM.o).mono (show N<=w.heap.size from FM.o)) (mW.ext aF) (show w.heap.size<=_ from aF.size) ((he.ext hw hN).ext aF FM.o) (hw.trans aF);generalize hW:(((w.alloc (.cells (cL c A n kc) 243)).alloc (.cells (aN kind name eA e.len ec low high lA l.len lc xA x.len xc) 223)).alloc (.cells #[.int .i64 0,.string ⟨#[]⟩] 166))=W at aF hK hS hD jh wI fX HES HWZ⊢;clear hW h mW he hw;obtain⟨rb,mC⟩:=nm' (w.heap.size+1+1);rw [<-mC]at hD⊢;obtain⟨sb,EU⟩:=nm' (w.heap.size+1);rw [<-EU]at hS⊢;obtain⟨kb,yl⟩:=nm' w.heap.size;rw [<-yl]at hK⊢;have⟨AB,HD,dS,HK,HS⟩:=J5' (show w.heap.size<=rb/\w.heap.size<=kb/\¬sb=kb/\¬rb=kb from⟨by omega,by omega,by omega,by omega⟩) hD aF hK hS;clear hD aF mC EU hK hS yl;refine abE ?_;intro cC
 cases hJ:iL kind 0 9
 .have HR:=J (show X=some ⟨3,E0⟩by rw [HX.o,hJ,Bool.false_and,aM,aT])
  refine abC ?_;refine X6 ?_;refine au (λK hK=>?_);go_simp;refine aoT (pX _ _ _ _) ?_;rw [hJ];refine hK.out _ _ (λ_=>cC.o) ?_;clear hK K;refine X6 ?_;refine au (λK hK=>?_);go_simp;refine hK.out _ _ (λh=>h) ?_;clear hK K;refine X6 ?_;refine fx ?_;have cy:=cC;exact akr
 .obtain⟨k,rfl⟩:∃k:Nat,kind=k:=⟨kind.toNat,by
   have:0<=kind/\kind<=9:=by simpa [iL]using hJ
   omega⟩
  have ta:k<10:=by
   have:(0:Int)<=k/\(k:Int)<=9:=by simpa [iL]using hJ
   omega
  have aod:=J ta;refine abC ?_;refine X6 ?_;refine au (λK hK=>?_);go_simp;refine aoT (pX _ _ _ _) ?_;rw [hJ];refine hK.out _ _ (λ_=>cC.o) ?_;clear hK K;refine X6 ?_;refine au (λK hK=>?_);go_simp;refine(NQ k ta _).mono ?_;refine To ?_;intro w1 dQ;clear hK K;have cy:=dQ;obtain⟨en,hen⟩:=nm' e.len;have HEN:=J hen
  cases jo:((e.len:Int)==(stmtParts (k:Int):Int))
  .have MC:((e.len:Int) !=(stmtParts (k:Int):Int))=true:=by unfold bne;rw [jo];rfl
   have HR:=J (show X=some ⟨3,E0⟩by rw [HX.o,hJ,<-ot,jo,Bool.and_false,aM,aT])
   repeat first|refine cx ?_|refine de dQ.o afx ?_|refine dc dQ.o ?_
   refine fx ?_;exact akr
  .have MC:((e.len:Int) !=(stmtParts (k:Int):Int))=false:=by unfold bne;rw [jo];rfl
   have gf:=J (show X=aj (must st 10 (bV i)) (aj nm (aj D R))by rw [HX.o,hJ,<-ot,jo,Bool.and_true,bt,aS])
   repeat first|refine cx ?_|refine de dQ.o afx ?_|refine dc dQ.o ?_
   refine fx ?_;clear HX hJ jo MC ta hen;refine zy5 ?_;intro dW fE gl gg jL Is Dk o8 o6 o5 nO;go_wp21;refine aoT (NB (k:Int) i hi last _) ?_;rw [<-qT.o]
   cases st
   ·
    have HR:=J (show X=some ⟨10,bV i⟩by rw [gf.o,aM,aT]);go_wp21;refine(RV _).mono ?_;rintro e2 w3 ⟨rfl,dv,ME⟩;clear dW fE gl gg jL Is Dk o8 o6 o5 nO;have hlb:=ME.lt;obtain⟨nb,qX⟩:=nm' w1.heap.size;rw [<-qX]at ME hlb⊢;clear qX
    have sq:w3.cell? ⟨nb,i,none⟩=some (.string (bV i)):=by
     rw [bC ME i];exact Qg
    have hi5:(i:Int)<5:=by omega
    have cy:=J (cy.o.trans dv);refine zy5 ?_;intro dW fE gl gg jL Is Dk o8 o6 o5 nO;clear dv ME;exact Yl
   .have gq:=J (show X=aj nm (aj D R)by rw [gf.o,bt,aS])
    clear gf qT;go_wp21;refine aoS (NK c p A n kc pl (k:Int) name eA e.len ec low high lA l.len lc xA x.len xc deep HS0.o w.heap.size _ (ax fX.o cy.o.size) (jh.o.ext cy.o fX.o) (wI.o.ext cy.o)) λw2 bd=>?_;clear dW fE gl gg jL Is Dk o8 o6 o5 nO;have cy:=J (cy.o.trans bd);clear bd;rw [<-LV.o,<-Qn.o]
    cases nm with
    |some f=>
     obtain⟨fe,fn⟩:=f;have HNF:=J (NZ.o (Cb _ _ _ _ _ _) Qn.o.symm);have HR:=J (show X=some ⟨fe,fn⟩by rw [gq.o,aT]);refine afI ?_;intro y3 hV;go_upto_region 6 with(fail);exact akf
    |none=>
     have eU:=J (show X=aj D R by rw [gq.o,aS]);clear gq;refine Lb ?_;intro y3 hV;go_upto_region 6 with(fail);generalize (w2.alloc (.cells #[.int .i64 0,.string ⟨#[]⟩] 166))=W3 at y3 hV⊢;refine zy7 ?_;clear hV y3 cy;intro fb fL zV eE K hK;rintro e2 w4 ⟨rfl,eS⟩;refine abH ?_;clear hK K eS;intro nh cy;obtain⟨hn,hf,b,off,hA,hE⟩:=HES.o;have hm:=hf.max ad;have HA:=J hA;have HE:=J hE;clear hA hE hn hf;have HXS:=cy;go_wp21
     go_loopw [12] (λt12 wr=>∃(j:Nat) (Q:EF),j+Q.len=e.len/\aj (ke κ Q) R=X/\t12=.int .i64 j/\mc W N Q b (off+j*4)/\al W wr) (λt12 _=>e.len - (intOf t12).toNat)
     case atStart=>exact⟨0,e,by rw [dT],by rw [<-HDE.o];exact eU.o.symm,rfl,by simpa using HE.o,HXS.o⟩
     case round=>
      obtain⟨j,Q,hj,bw,rfl,hQ,hx⟩:=hrel;have⟨cy,ca,HQ⟩:=J3' hx bw hQ;clear hx bw hQ HXS;refine zy5 ?_;intro dW fE gl gg jL Is Dk o8 o6 o5 nO
      cases Q with
      |nil=>
       have d_:j=e.len:=by simpa [EF.len]using hj
       have hjI:(j:Int)=e.len:=by omega
       have kv:=J (show X=R by rw [<-ca.o];rfl);clear ca hj d_
       by_cases jq:k=3
       .have q3:((k:Int)==3)=true:=by simp [jq]
        have tm:=J (show X=cH i (pM κ name 3) (deep+1) false l by rw [kv.o,HRE.o,af ad,ak ad]);have HDL:=J (PE (show loop κ name low high deep=none by have h:=Qn.o;unfold named at h;rw [af ad,ak ad]at h;exact h.symm)).2.2;clear kv HRE jq;go_upto_region 17 with(fail);clear dW fE gl gg jL Is Dk o8 o6 o5 nO;obtain⟨xp,td,sb2,so2,MN,hs4⟩:=wI.o;have Um:=J (show n=pl.length/\n<=60/\∀w',al wr w'->0<n->∃b off,A=some ⟨b,off,none⟩/\Row w' b off (bZ xN pl)from⟨xp,by have:=Ei.o;omega,λw' hk h0=>⟨sb2,so2,MN h0,by rw [sR];exact((hs4 h0).2.ext cy.o).ext hk⟩⟩);have HLP:=J HDL.o;clear xp td MN hs4;apply aiH (F:=λW2 v77 v80 v83 g2 c2=>Kept (·=kb) wr W2/\ai W2 kb 243 (cL c (some ⟨g2,0,none⟩) (n+1) c2)/\dN W2 W2.heap.size (some ⟨g2,0,none⟩) (n+1) (pl++[name]))
        case h=>
         intro ky;have Ik:=J ky;clear ky;refine WU (λw1=>al wr w1) (.op 1 2 (.op 2 1 (.op 4 2 (.op 5 1 (.fork 0 (.fork 3 (.op 6 0 (.op 7 0 (.op 8 2 (.op 9 0 .nil)))) 6 (.op 3 0 (.op 7 0 (.op 8 2 (.op 9 0 .nil))))) 6 (.op 0 0 (.op 3 0 (.op 7 0 (.op 8 2 (.op 9 0 .nil)))))))))) ?_;refine WV ?_;have DI:=J (pg wr)
         (repeat (first|refine nV ?_|((apply c_);(· exact DI.o);(· go_simp);(· (intro w1 hS;have d0:=bX HK.o (cy.o.trans hS);have d1:=bC d0;have d3:=d0.lt;have d4:=bX HS.o (cy.o.trans hS);have d5:=bC d4;have d6:=d4.lt;go_simp;try with_reducible rfl));refine iJ ?_)|((apply cZ);(· exact DI.o);(· go_simp);refine iJ ?_)))
         refine gQ ?_ ?_
         .refine ci (λK hK=>?_);go_simp
          have y1:al wr (wr.alloc (.cells #[] 9)).drew:=(dM wr _).drew;have q0:ai (wr.alloc (.cells #[] 9)).drew wr.heap.size 9 #[]:=(bN wr _ _).drew;have n0:wr.heap.size<=wr.heap.size:=cr _;refine hK.out _ _ (λ_=>y1) ?_;clear hK K;generalize (wr.alloc (.cells #[] 9)).drew=V1 at y1 q0⊢;obtain⟨u0,hu0⟩:=nm' wr.heap.size;rw [<-hu0]at q0⊢;have n0:wr.heap.size<=u0:=by omega
          clear hu0;have own:V1.ownsRow wr.heap.size 9 1 (.slice (some ⟨u0,0,none⟩) 0 0) 0 (bZ xN []):=⟨by simp [bZ],.inr ⟨u0,0,#[],rfl,n0,q0,cr _,by unfold maxLen;omega,by simp,by simp [bZ]⟩⟩
          repeat refine nV ?_
          refine gQ ?_ ?_
          .obtain⟨v80,V2,dz,Rq,aag,-⟩:=adK (f:=xN) vf (λ_=>rfl) (λ_=>rfl) V1 wr.heap.size (.slice (some ⟨u0,0,none⟩) 0 0) 0 [] own A n kc pl Um.o.1 HAK.o (Um.o.2.2 V1 y1) (by have:=Um.o.2.1;omega) y1.size
           have y2:al wr V2:=y1.trans' aag (λi hi e=>by have e2:u0=i:=Option.some.inj e;omega);refine ci (λK hK=>?_);refine Tp ?_;refine hK.out _ _ (λ_=>y2) ?_;clear hK K dz;refine ww ?_;intro K hK;have y3:al wr (V2.alloc (.cells #[.string name] 9)):=y2.alloc _;have q6:ai (V2.alloc (.cells #[.string name] 9)) V2.heap.size 9 #[.string name]:=bN V2 _ _;have Rq:=aI Rq (dY V2 (.cells #[.string name] 9));refine hK.out _ _ (λ_=>y3) ?_;clear hK K;generalize (V2.alloc (.cells #[.string name] 9))=V3 at y3 q6 Rq⊢;generalize V2.heap.size=u6 at q6⊢;exact acQ
          .refine ci (λK hK=>?_);go_simp
           have y2:al wr (V1.alloc (.cells #[.string name] 9)):=y1.alloc _;have q6:ai (V1.alloc (.cells #[.string name] 9)) V1.heap.size 9 #[.string name]:=bN V1 _ _;have q0:=q0.alloc (.cells #[.string name] 9);have own:=aI own (dY V1 (.cells #[.string name] 9));refine hK.out _ _ (λ_=>y2) ?_;clear hK K;generalize (V1.alloc (.cells #[.string name] 9))=V2 at y2 q6 own q0⊢;generalize V1.heap.size=u6 at q6⊢;exact akd
         .refine ci (λK hK=>?_);go_simp
          have y1:al wr (wr.alloc (.cells #[.string name] 9)).drew:=(dM wr _).drew;have q6:ai (wr.alloc (.cells #[.string name] 9)).drew wr.heap.size 9 #[.string name]:=(bN wr _ _).drew;refine hK.out _ _ (λ_=>y1) ?_;clear hK K;generalize (wr.alloc (.cells #[.string name] 9)).drew=V1 at y1 q6⊢;obtain⟨u6,hu6⟩:=nm' wr.heap.size;rw [<-hu6]at q6⊢;clear hu6;refine ww ?_;intro K hK;have y2:al wr (V1.alloc (.cells #[] 9)):=y1.alloc _;have q0:ai (V1.alloc (.cells #[] 9)) V1.heap.size 9 #[]:=bN V1 _ _;have n0:wr.heap.size<=V1.heap.size:=y1.size;have q6:=q6.alloc (.cells #[] 9);refine hK.out _ _ (λ_=>y2) ?_;clear hK K;generalize (V1.alloc (.cells #[] 9))=V2 at y2 q0 q6⊢;generalize V1.heap.size=u0 at q0 n0⊢;have own:V2.ownsRow wr.heap.size 9 1 (.slice (some ⟨u0,0,none⟩) 0 0) 0 (bZ xN []):=⟨by simp [bZ],.inr ⟨u0,0,#[],rfl,n0,q0,cr _,by unfold maxLen;omega,by simp,by simp [bZ]⟩⟩;exact akd
        case h2=>
         rintro W2 v77 v80 v83 g2 c2 ⟨yk,Jt,hr9⟩;have⟨zv,HD9,HS9,HR9⟩:=J4' (show al w W2 from(dS.o.trans cy.o).trans' yk (λi hi e=>by have:=AB.o.2.1;omega)) (bK (bX HD.o cy.o) yk AB.o.2.2.2) (bK (bX HS.o cy.o) yk AB.o.2.2.1) hr9;have jL:=bC HS9.o;have o8:=HS9.o.lt;have o6:=bH Jt;have o5:=bG Jt;have nO:=Jt.lt;have hd7:=HLP.o;have hwr:IntKind.i64.wrap ((deep:Int)+1)=((deep+1:Nat):Int):=by rw [im];omega
         clear yk Jt hr9;go_wp21;refine(agf.o (deep+1) false (some ⟨g2,0,none⟩) (n+1) c2 (pl++[name]) lA l.len lc W2 (HWW.o.trans zv.o) HR9.o (λh=>nomatch h) (by rw [dn];have:=Ei.o.1;simp;omega) ad HL0.o).mono ?_;rintro e2 w5 ⟨rfl,iG⟩;rw [KZ,<-LV.o,<-tm.o];have dW:=bX HD9.o iG;have fE:=dW.aC;have gl:=bH dW;have gg:=dW.lt;have zu:=J (zv.o.trans iG);clear jL o8 o6 o5 nO iG
         cases X with
         |none=>
          go_wp21;exact bu results216 rfl rfl eL (by exact gH) (ai.cw dW 0 _) ⟨rfl,zu.o.putAt _ _ _ (λaP=>absurd aP (by have:=AB.o.1;omega))⟩
         |some f=>
          obtain⟨fe,fn⟩:=f;go_wp21;exact bu results216 rfl rfl eL (by exact gH) (ai.cw dW 0 _) ⟨rfl,zu.o.putAt _ _ _ (λaP=>absurd aP (by have:=AB.o.1;omega))⟩
       .have q3:((k:Int)==3)=false:=by simp;omega
        by_cases eV:k=2
        .have q2:((k:Int)==2)=true:=by simp [eV]
         have tm:=J (show X=aj (cH i κ deep false l) (cH i κ deep false x)by rw [kv.o,HRE.o,ak ad]);clear kv HRE eV jq;obtain⟨Z1,Vm⟩:=nm' (cH i κ deep false l);obtain⟨Z2,hZ2⟩:=nm' (cH i κ deep false x);rw [<-Vm,<-hZ2]at tm;have nh:=J Vm;have HZ2:=J hZ2;clear Vm hZ2;go_wp21;refine aoS (agf.o deep false A n kc pl lA l.len lc _ (HWZ.o.trans cy.o) ((wI.o.ext cy.o).mono (ax fX.o cy.o.size)) HAK.o Ei.o.1 Ei.o.2 HL0.o) λw2 bd=>?_;clear dW fE gl gg jL Is Dk o8 o6 o5 nO;have cy:=J (cy.o.trans bd);clear bd;rw [<-LV.o,<-nh.o]
         cases Z1 with
         |some f=>
          obtain⟨fe,fn⟩:=f;have HNF:=J (NZ.o (iI _ _ _ _ _) nh.o.symm);have HR:=J (show X=some ⟨fe,fn⟩by rw [tm.o,aT]);refine afI ?_;intro y3 hV;go_upto_region 21 with(fail);exact akf
         |none=>
          have Ih:=J (show X=Z2 by rw [tm.o,aS]);clear tm nh;refine Lb ?_;intro y3 hV;go_upto_region 21 with(fail);generalize (w2.alloc (.cells #[.int .i64 0,.string ⟨#[]⟩] 166))=W3 at y3 hV⊢;refine zy7 ?_;clear hV y3 cy;intro fb fL zV eE K hK;rintro e2 w4 ⟨rfl,eS⟩;refine abH ?_;clear hK K eS;intro nh cy;refine zy5 ?_;intro dW fE gl gg jL Is Dk o8 o6 o5 nO;go_wp21;refine aoS (alp.o deep false A n kc pl xA x.len xc _ (HWZ.o.trans cy.o) ((wI.o.ext cy.o).mono (ax fX.o cy.o.size)) HAK.o Ei.o.1 Ei.o.2 alT.o) λw5 iG=>?_;clear dW fE gl gg jL Is Dk o8 o6 o5 nO;have cy:=J (cy.o.trans iG);clear iG;rw [<-LV.o,<-HZ2.o,<-Ih.o];refine zy5 ?_;intro dW fE gl gg jL Is Dk o8 o6 o5 nO
          cases X with
          |none=>
           have HR:=J (show(none:Option nZ)=none from rfl);exact alg
          |some f=>
           obtain⟨fe,fn⟩:=f;exact alg
        .have q2:((k:Int)==2)=false:=by simp;omega
         have HR:=J (show X=none by rw [kv.o,HRE.o,af ad,af ad]);clear kv HRE eV jq;go_wp21;refine aoS (kh _) λw9 tF=>?_;clear dW fE gl gg jL Is Dk o8 o6 o5 nO;have cy:=J (cy.o.trans tF);refine zy5 ?_;intro dW fE gl gg jL Is Dk o8 o6 o5 nO;clear tF;exact Yl
      |cons rH m' name' q rr=>
       obtain⟨hb,h1,h2,h3,⟨A',cap,b',bL,hh,hg,hl,qK,hk⟩,hr⟩:=HQ.o;simp only [EF.len]at hj;have aP:(j:Int)<e.len:=by omega
       obtain rfl:=HA.o ad;have qB:=cy.o.size;have ahd:N<=W.heap.size:=ax FM.o fX.o;have jx:=kl cy.o ad hh;have hg':=iT cy.o ad hg;have gB:b<wr.heap.size:=by omega
       have⟨KE,qR,LY,HH0,Tx⟩:=J5' (show me W N A' q.len q from⟨rfl,hl,b',bL,qK,hk⟩) hr ahd jx hg';clear hh hg hl qK hk h1 h2 h3 HQ qB hr hb ahd;go_wp21;refine aoS (Sf W q _ _ _ N _ _ _ _ cy.o LY.o KE.o) λw5 iG=>?_;clear dW fE gl gg jL Is Dk o8 o6 o5 nO jx hg';obtain⟨d,hd⟩:=nm' (jc (1+q.deep));rw [<-hd];have bw:=ca.o;rw [oZ,<-hd]at bw;obtain⟨f,hf⟩:=nm' (A8 κ rH m' name' q);rw [<-hf]at bw;have HF:=J hf;have HXA:=J (show X=aj (must (decide (d<=12)) 25 E0) (aj f (aj (ke κ rr) R))by rw [<-bw,du,du]);clear hd hf bw ca;have HH:=J (kl iG gB HH0.o);have HG:=J (iT iG gB Tx.o);have gB:=gK gB iG.size;have cy:=J (cy.o.trans iG);clear iG HH0 Tx;refine zy5 ?_;intro dW fE gl gg jL Is Dk o8 o6 o5 nO
       by_cases aae:d>12
       .have HR:=J (show X=some ⟨25,E0⟩by rw [HXA.o,cT ad,aM,aT])
        exact Yl
       .have z_:=J (show X=aj f (aj (ke κ rr) R)by rw [HXA.o,cJ ad,bt,aS])
        clear HXA dW fE gl gg jL Is Dk o8 o6 o5 nO;go_upto_region 13 with(fail);clear aae;have Yu:=J (Sh c p A n kc pl w.heap.size W fX.o jh.o wI.o q);apply aat (F:=λW2 fb=>al w5 W2/\ai W2 fb 166 (fM f))
        case h=>
         intro ky;have Ik:=J ky;clear ky;refine WU (λw1=>al w5 w1) (.op 0 1 (.op 1 2 (.op 2 1 (.op 3 2 (.op 4 2 (.op 5 1 (.fork 6 (.op 7 0 (.op 8 0 .nil)) 7 (.op 6 0 (.op 8 0 .nil))))))))) ?_;refine WV ?_;have DI:=J (pg w5)
         (repeat (first|refine nV ?_|((apply c_);(· exact DI.o);(· go_simp);(· (intro w1 hS;have d0:=bX HK.o (cy.o.trans hS);have d1:=bG d0;have d2:=bH d0;have d3:=d0.lt;have d4:=bX HS.o (cy.o.trans hS);have d5:=bC d4;have d6:=d4.lt;have d7:=kl hS gB HH.o;have d8:=iT hS gB HG.o;have d9:=gK gB hS.size;go_simp;try with_reducible rfl));refine iJ ?_)|((apply cZ);(· exact DI.o);(· go_simp);refine iJ ?_)))
         refine gQ ?_ ?_
         .refine ci (λK hK=>?_);go_simp
          refine aoS (Yu.o rH m' name' A' q.len cap N _ (cy.o.trans DI.o) LY.o KE.o) λw1 aw=>?_;rw [<-LV.o,<-HF.o];have y1:=DI.o.trans aw;refine afC ?_;clear hK K;intro W2 y2 t_;have D_:w5.heap.size<=w1.heap.size:=y1.size;exact acT
         .refine ci (λK hK=>?_);go_simp
          have y1:al w5 (w5.alloc (.cells #[.int .i64 0,.string ⟨#[]⟩] 166)).drew:=(dM w5 _).drew;refine hK.out _ _ (λ_=>y1) ?_;clear hK K;generalize kX:(w5.alloc (.cells #[.int .i64 0,.string ⟨#[]⟩] 166)).drew=W1 at y1⊢;have s9:ai W1 w5.heap.size 166 #[.int .i64 0,.string ⟨#[]⟩]:=by rw [<-kX];exact ai.drew (bN w5 _ _)
          clear kX;have D_:w5.heap.size<=w5.heap.size:=cr _;generalize aem:(w5.heap.size:Nat)=fb at s9 D_⊢;have HFL:=J (show w5.heap.size<=fb by omega);clear D_ aem;have dQ:=J y1
          repeat refine nV ?_
          (repeat (first|refine nV ?_|((apply c_);(· exact dQ.o);(· go_simp);(· (intro w1 hS;have d0:=bX HK.o (cy.o.trans hS);have d1:=bG d0;have d2:=bH d0;have d3:=d0.lt;have d4:=bX HS.o (cy.o.trans hS);have d5:=bC d4;have d6:=d4.lt;have d7:=kl hS gB HH.o;have d8:=iT hS gB HG.o;have d9:=gK gB hS.size;go_simp;try with_reducible rfl));refine iJ ?_)|((apply cZ);(· exact dQ.o);(· go_simp);refine iJ ?_)))
          refine ci (λK hK=>?_);go_simp;refine aoS (Yu.o rH m' name' A' q.len cap N _ (cy.o.trans dQ.o) LY.o KE.o) λw1 aw=>?_;rw [<-LV.o,<-HF.o];exact acS
        case h2=>
         rintro W2 fb ⟨y2,t_⟩;have zV:=J t_;have fp:=J (cy.o.trans y2);clear t_ y2 cy
         cases f with
         |none=>
          go_upto_region 14 with(fail);refine K9 ?_;intro eE;refine K' ?_;refine ajT ?_;intro K hK;rintro e4 w1 ⟨rfl,aw⟩;refine La ?_;clear hK K aw;intro nh;go_wp21;go_roundw
          case rel=>exact⟨j+1,rr,by omega,by rw [z_.o,aS],by go_num,by rw [Nat.add_mul,<-gw];exact qR.o,fp.o.trans nh.o⟩
          case measure=>simp only [intOf];omega
         |some f=>
          obtain⟨fe,fn⟩:=f;have hnz:=NZ.o (GH κ rH m' name' q) HF.o.symm;have HR:=J (show X=some ⟨fe,fn⟩by rw [z_.o,aT]);go_upto_region 14 with(fail);refine K9 ?_;intro eE;refine K' ?_;refine ajT ?_;intro K hK;rintro e4 w1 ⟨rfl,aw⟩;refine La ?_;clear hK K aw;intro nh;have cy:=J (fp.o.trans nh.o);exact adi
open Mc
theorem ajr (d:Vr):eB (aZ d).toList=true:=rfl
theorem Oi (A:Option Addr) (cap N:Nat) (l:List Vr) (n:Nat) (w:World) (hv:ri w N A n l) (lF:n<=1000):
 Calls prog 140 #[.slice A n cap] w λe w'=>∃A' c',e=.returned (.slice A' n c')/\ri w' w'.heap.size A' n l/\al w w':=by
 obtain⟨hn,hf,hok,b,off,hA,hE⟩:=hv
 cases A with
 |none=>
  have h0:n=0:=by
   rcases Nat.eq_zero_or_pos n with h|h
   .exact h
   .cases hA h
  subst h0;have heq:=λw=>Lib.run_eql_slice_nil (P:=prog) w 160 232 none 0 cap 0 0 underlying160;simp only [Option.isNone_none]at heq;have HN:=J hn;have HF:=J hf;clear hn hf hA hE;go_enter func140,ntmps140;go_wp21;go_ret;exact⟨none,0,rfl,⟨HN.o,HF.o,hok,0,0,λh=>by omega,λh=>by omega⟩,kR _ _⟩
 |some a=>
  obtain⟨v2,w2,iV,mq,eV,Pj⟩:=adK (f:=aZ) Jc (λ_=>rfl) ajr (w.alloc (.cells #[] 232)) w.heap.size (.slice (some ⟨w.heap.size,0,none⟩) 0 0) 0 [] (Ai w 232 4) (some a) n cap l hn (λh=>by cases h) (λh=>⟨b,off,hA h,((hE h).2).ext (dM w _)⟩) ad aB;have heq:=λw=>Lib.run_eql_slice_nil (P:=prog) w 160 232 (some a) n cap 0 0 underlying160;simp only [Option.isNone_some]at heq;have HN:=J hn;have HF:=J hf;clear hn hf hA hE;go_enter func140,ntmps140;go_upto_region 3 with(fail);go_step
  iterate 2 refine kE ?_
  refine cj rfl (.tmp 5) (.tmp 6) 160 rfl rfl rfl rfl iV ?_;clear iV;go_wp21;go_ret;rw [dT,qx]at mq;have hx:al w w2:=(dM w _).trans' eV (λi hi e=>by simp [Value.ownBlock]at e;omega)
  by_cases hz:0<n
  .obtain⟨g,c,rfl,aE,-,-⟩:=fh mq hz ap
   exact⟨_,c,rfl,⟨HN.o,HF.o,hok,g,0,λ_=>rfl,λ_=>⟨aE.lt,aE⟩⟩,hx⟩
  .rcases mq.2 with⟨hv,h0⟩|⟨g,c,cV,hv,_⟩
   .subst hv
    have h0:n=0:=by omega
    subst h0;exact⟨none,0,rfl,⟨HN.o,HF.o,hok,0,0,λh=>by omega,λh=>by omega⟩,hx⟩
   .subst hv
    exact⟨_,c,rfl,⟨HN.o,HF.o,hok,0,0,λh=>absurd h hz,λh=>absurd h hz⟩,hx⟩
theorem aiG {F M:World->Nat->Nat->Nat->Nat->Prop} (h:(∀W a b c d,F W a b c d->M W a b c d)->G) (h2:∀W a b c d,F W a b c d->M W a b c d):G:=h h2
def rI:Wd->Int->List Vr->Wd
 |W,_,[]=>W
 |W,a,v::r=>rI (lX W v.name a) (a+1) r
def jO (p:Pr) (b:Int) (part:Nat):Wd:=if part=2 then rI (gT p.vars) b p.params else if part=3 then lX (gT p.vars) p.silent b else gT p.vars
def aeO (W1:World) (c:Pc) (b:Int) (W3:World) (wm sm em mb:Nat):Prop:=
 al W1 W3/\dy W3 wm (λ_=>none)/\df W3 sm yO/\df W3 em qz/\ai W3 mb 303 (oq none 0 0 c b wm 0 sm em)/\W1.heap.size<=wm/\W1.heap.size<=mb
def vW (l:List Vr) (j:Nat):Wd:=λs=>if (l.take j).any (λv=>decide (v.name=s))=true then gT l s else 0
theorem aaW (l:List Vr):vW l 0=λ_=>0:=by funext s;simp [vW]
theorem afl (l:List Vr):vW l l.length=gT l:=by
 funext s
 unfold vW gT;rw [jr]
 split<;>rfl
theorem aaV (l:List Vr) (j:Nat) (hj:j<l.length) (x:Vr) (hx:x=l[j]):lX (vW l j) x.name (gT l x.name)=vW l (j+1):=by
 funext s
 unfold lX vW;rw [lq,List.getElem?_eq_getElem hj,<-hx];simp only [Option.toList_some,List.any_append,List.any_cons,List.any_nil,Bool.or_false]
 by_cases e:s=x.name
 .subst e;simp
 .have:decide (x.name=s)=false:=cT (λh=>e h.symm)
  rw [af e,this,Bool.or_false]
theorem Fe:∀(l:List Vr) (W:Wd) (a:Int) (v:Vr),rI W a (l++[v])=lX (rI W a l) v.name (a+l.length)
 |[],W,a,v=>by simp [rI]
 |u::l,W,a,v=>by
  show rI (lX W u.name a) (a+1) (l++[v])=_;rw [Fe l _ _ v];show lX (rI (lX W u.name a) (a+1) l) v.name _=lX (rI (lX W u.name a) (a+1) l) v.name _
  congr 1
  simp only [iQ]
  omega
theorem rG (part:Nat) (_anY:part<=4) (cb N:Nat) (c:Pc) (p:Pr) (b:Int) (A:Option Addr) (n cap:Nat) (F:SF) (κ:Kn) (w:World) (hzs:zS F) (hN:N<=w.heap.size) (hP:nj w N c p) (yf:w.cell? ⟨cb,0,none⟩=some (.int .i64 b)) (b0:0<=b) (b1:b<=100)
 (hs:jm w N A n F) (hc:cH part κ 0 true F=none) (hz:F.size<=1099511627776) (LC:∀s,0<=jO p b part s/\jO p b part s<=1000) (hWz:∀s,κ s=0->jO p b part s=0) (hL:(cB ⟨p.vars,p.aL,b⟩ F (jO p b part) 0 0).length<=3900) (mW:p.params.length<=4):
 Calls prog 141 #[.pointer (some ⟨cb,0,none⟩),.int .i64 part,.slice A n cap,.agg c.cells] w λe w'=>∃A' n' c',e=.returned (.slice A' n' c')/\al w w'/\w'.ownsRow (w.heap.size+1) 71 4 (.slice A' n' c') n' (db (cB ⟨p.vars,p.aL,b⟩ F (jO p b part) 0 0++[⟨0,0,0,0⟩]))/\∀i∈cB ⟨p.vars,p.aL,b⟩ F (jO p b part) 0 0++[⟨0,0,0,0⟩],i.ok:=by
 have L_:=J hzs;clear hzs;have y1:al w (w.alloc (.cells c.cells 163)):=dM w _;have eY:=bN w 163 c.cells;have nw:cb<w.heap.size:=Nat.lt_of_not_le (λh=>by unfold World.cell? at yf;rw [Array.getElem?_eq_none h]at yf;cases yf);have⟨zU,HP,HS,HC,OO,HWz,HL,fX⟩:=J8' (show∀w',al w w'->w'.cell? ⟨cb,0,none⟩=some (.int .i64 b)/\cb<w'.heap.size from λw' hx=>⟨(Kept.cell hx (p:=⟨cb,0,none⟩) nw (λf=>f)).trans yf,gK nw hx.size⟩) hP hs hc LC hWz hL (show w.heap.size+1=(w.alloc (.cells c.cells 163)).heap.size by simp);have hbb:=ew b0 b1;have Dq:=@run_makeMap prog;clear hP yf nw hs hc LC hWz hL;go_enter func141,ntmps141;go_upto_region 1 with(fail);generalize kX:(w.alloc (.cells c.cells 163))=W1 at y1 eY fX⊢;clear kX;generalize mV:(w:World).heap.size=pb at eY fX hN⊢;have⟨ku,HB,dQ⟩:=J3' mV eY y1;clear eY y1 mV;apply aiG (F:=aeO W1 c b)
 case h=>
  intro ky;have Ik:=J ky;clear ky;refine WU (λwz=>al W1 wz) (.op 0 1 (.op 1 2 (.op 2 2 (.op 3 2 (.op 4 1 (.fork 5 (.op 6 0 (.op 7 0 (.op 8 2 (.op 9 0 (.op 10 2 .nil))))) 6 (.fork 5 (.op 7 0 (.op 8 2 (.op 9 0 (.op 10 2 .nil)))) 7 (.op 5 0 (.op 8 2 (.op 9 0 (.op 10 2 .nil))))))))))) ?_;refine WV ?_;have cC:=J (pg W1)
  (repeat (first|refine nV ?_|((apply c_);(· exact cC.o);(· go_simp);(· (intro w1 hS;have d0:=bX HB.o hS;have d1:=bH d0;have d2:=bG d0;have d3:=d0.lt;have d4:=(zU.o _ (dQ.o.trans hS)).1;have d5:=(zU.o _ (dQ.o.trans hS)).2;go_simp;try with_reducible rfl));refine iJ ?_)|((apply cZ);(· exact cC.o);(· go_simp);refine iJ ?_)))
  refine gQ ?_ ?_
  .skip
   refine ci (λK hK=>?_);go_simp;have ym:al W1 (W1.alloc (.map #[] 0)).drew:=(dY W1 _).drew;have y2:al W1 (W1.alloc (.map #[] 0)).drew:=(kR (λ_=>False) W1).trans ym;have mB:dy (W1.alloc (.map #[] 0)).drew W1.heap.size (λ_=>none):=(dy.made W1).ext (kR _ _).drew;refine hK.out _ _ (λ_=>y2) ?_;clear hK K;generalize hWq:(W1.alloc (.map #[] 0)).drew=w2 at ym y2 mB⊢;clear hWq;generalize hwm:W1.heap.size=wm at mB⊢;have T7:W1.heap.size<=wm:=by rw [<-hwm];exact(kR (λ_=>False) W1).size
   clear hwm;refine ww ?_;intro K hK;go_wp21;refine(Ft _).mono ?_;rintro e w3 ⟨rfl,VA,dv⟩;have y3:=(y2).trans dv;refine hK.out _ _ (λ_=>y3) ?_;clear hK K
   repeat refine nV ?_
   generalize V0:w2.heap.size=sm at VA⊢;clear V0;refine ci (λK hK=>?_);go_simp;go_wp21;refine(xe _).mono ?_;rintro e w4 ⟨rfl,hi4,eS⟩;have y4:=(y3).trans eS;refine hK.out _ _ (λ_=>y4) ?_;clear hK K;generalize hem:w3.heap.size=em at hi4⊢;clear hem;refine afD ?_;intro y9 xZ wN ya;have hm9:=(mB.ext (dv.trans eS)).ext ya;have hs9:=(VA.ext eS).ext ya;exact ala
  .skip
   refine ci (λK hK=>?_);go_simp;go_wp21;refine(Ft _).mono ?_;rintro e w2 ⟨rfl,TV,bd⟩;have y2:=(cC.o).trans bd;refine hK.out _ _ (λ_=>y2) ?_;clear hK K;generalize V0:W1.drew.heap.size=sm at TV⊢;clear V0
   repeat refine nV ?_
   refine gQ ?_ ?_
   .skip
    refine ci (λK hK=>?_);go_simp;have ym:al w2 (w2.alloc (.map #[] 0)):=(dY w2 _);have y3:al W1 (w2.alloc (.map #[] 0)):=(y2).trans ym;have T0:dy (w2.alloc (.map #[] 0)) w2.heap.size (λ_=>none):=(dy.made w2);refine hK.out _ _ (λ_=>y3) ?_;clear hK K;generalize hWq:(w2.alloc (.map #[] 0))=w3 at ym y3 T0⊢;clear hWq;generalize hwm:w2.heap.size=wm at T0⊢;have T7:W1.heap.size<=wm:=by rw [<-hwm];exact(y2).size
    clear hwm;refine ww ?_;intro K hK;go_wp21;refine(xe _).mono ?_;rintro e w4 ⟨rfl,hi4,eS⟩;have y4:=(y3).trans eS;refine hK.out _ _ (λ_=>y4) ?_;clear hK K;generalize hem:w3.heap.size=em at hi4⊢;clear hem;refine afD ?_;intro y9 xZ wN ya;have hm9:=(T0.ext eS).ext ya;have hs9:=(TV.ext (ym.trans eS)).ext ya;exact ala
   .skip
    refine ci (λK hK=>?_);go_simp;go_wp21;refine(xe _).mono ?_;rintro e w3 ⟨rfl,VA,dv⟩;have y3:=(y2).trans dv;refine hK.out _ _ (λ_=>y3) ?_;clear hK K;generalize hem:w2.heap.size=em at VA⊢;clear hem;refine ww ?_;intro K hK;have ym:al w3 (w3.alloc (.map #[] 0)):=(dY w3 _);have y4:al W1 (w3.alloc (.map #[] 0)):=(y3).trans ym;have D1:dy (w3.alloc (.map #[] 0)) w3.heap.size (λ_=>none):=(dy.made w3);refine hK.out _ _ (λ_=>y4) ?_;clear hK K;generalize hWq:(w3.alloc (.map #[] 0))=w4 at ym y4 D1⊢;clear hWq;generalize hwm:w3.heap.size=wm at D1⊢;have T7:W1.heap.size<=wm:=by rw [<-hwm];exact(y3).size
    clear hwm;refine afD ?_;intro y9 xZ wN ya;have hm9:=(D1).ext ya;have hs9:=(TV.ext (dv.trans ym)).ext ya;have he9:=(VA.ext ym).ext ya;exact adb
 case h2=>
  intro W3 wm sm em mb hmk;obtain⟨y3,hm0,hs0,Pg,xZ,T7,wN⟩:=hmk;obtain⟨B,hBd⟩:=nm' W1.heap.size;rw [<-hBd]at T7 wN fX;have Pq:=J (show B<=W3.heap.size by rw [hBd];exact y3.size);have Mz:N<=B:=by have:=hN;have:=fX.o;omega
  have zY:=J (show MS W3 B N mb p c b wm sm em 0 (vW p.vars 0) []from⟨⟨none,0,0,xZ,⟨by simp [db],.inl ⟨rfl,rfl⟩⟩⟩,HP.o.kept (dQ.o.trans y3) (by rw [ku.o];exact hN) (λ_ f=>f.elim),⟨_,hm0,λs=>by simp [aaW]⟩,hs0,Pg,Mz,Pq.o,wN,T7,by simp⟩);have HPG:=J (bX HB.o y3);have HWX:=J (dQ.o.trans y3);have hcw:=(zU.o _ HWX.o).1;have nw:=(zU.o _ (kR _ w)).2;have⟨De,HVS,HPS⟩:=J3' (ew hcw (show cb<B by rw [ku.o]at nw;have:=fX.o;omega)) (zY.o.prog.vars) (zY.o.prog.params);clear y3 hm0 hs0 Pg xZ T7 wN hBd hcw nw HP HB dQ zU;have aoH:IntKind.i64.wrap (b+0)=b:=by rw [Int.add_zero];exact wrap_i64 C8
  obtain⟨hvn,hvf,Ds,vb,vo,YT,hvE⟩:=HVS.o;have hvm:=hvf.max ad;have⟨HVN,HVA,HVE⟩:=J3' hvn YT hvE;clear hvn hvf Ds YT hvE;obtain⟨vA,YT⟩:=nm' c.vars.A;have a1:=bC HPG.o;have a2:=HPG.o.lt;go_wp21;clear a1 a2
  go_loopw [28] (λt28 wr=>∃(j:Nat),j<=c.vars.n/\t28=.int .i64 j/\MS wr B N mb p c b wm sm em 0 (vW p.vars j) []/\KT B wm W3 wr) (λt28 _=>c.vars.n - (intOf t28).toNat)
  case atStart=>exact⟨0,cI _,rfl,zY.o,KT.refl _ _ _⟩
  case round=>
   obtain⟨j,hj,rfl,hmj,hkj⟩:=hrel;have HMJ:=J hmj;have uH:=J hkj;clear hmj hkj
   by_cases aP:j<c.vars.n
   .have d_:j<p.vars.length:=by have:=HVN.o;omega
    have gD:(j:Int)<c.vars.n:=by omega
    have F9:=HVA.o ad;obtain⟨hvb,aE⟩:=HVE.o ad;obtain⟨jx,hg'⟩:=oB aE j d_;obtain⟨u1,u2,u3⟩:=Gs uH.o ⟨Mz,Pq.o⟩ hvb jx hg';obtain⟨v,hve⟩:=nm' (p.vars[j]);rw [<-hve]at u2;have Qp:=J hve;clear aE hve jx hg' hvb;have y0:=dY wr (.cells (aZ v) 232);have eY:=bN wr 232 (aZ v);rw [F9];go_upto_region 5 with(fail);generalize (wr.alloc (.cells (aZ v) 232))=W5 at y0 eY⊢;generalize wr.heap.size=g at eY⊢;have⟨tN,Ig,uz⟩:=J3' eY (HMJ.o.ext y0) (uH.o.trans (KT.ext (B:=B) (wm:=wm) y0));clear y0 eY u1 u2 u3 F9;have Lx:=J (KT.block uz.o HPG.o ap ap);refine fH (λwz=>al W5 wz) [(0,2),(1,2),(2,2),(3,1),(4,2),(5,1),(6,1),(7,2),(8,1),(9,0),(10,2),(11,2),(12,2),(13,2),(14,0)] ?_;refine fI ?_;have yd:al W5 W5.drew:=(kR _ W5).drew
    repeat first|refine cx ?_|refine de yd (by intro w1 hS;have d0:=bX tN.o hS;have d1:=bC d0;have d2:=d0.lt;have qO:=Ig.o.ext hS;obtain⟨A',n',uB,jw,_⟩:=qO.blk;have d3:=bC jw;have d4:=jw.lt;have d9:=bX Lx.o hS;have dA:=bH d9;have dB:=bG d9;have dC:=d9.lt;exact fV) ?_|refine dc yd ?_
    refine au (λK hK=>?_);go_simp;go_wp21;refine aoS (Sz c p v.name N _ (ax Mz (Ig.o.ext yd).hB) (Ig.o.ext yd).prog) λw6 nU=>?_;have y6:=yd.trans nU;refine hK.out _ _ (λ_=>y6) ?_;clear hK K
    repeat refine cx ?_
    have DE:=J (Ig.o.ext y6);obtain⟨G,hG,hGW⟩:=DE.o.words;obtain⟨w7,dz,O7,qC⟩:=dy.put (P:=prog) hG underlying297 underlying9 v.name (.int .i64 (gT p.vars v.name));obtain⟨Ve,hK7⟩:=DE.o.word qC O7 (H_ _ v.name _ G hGW);rw [aaV p.vars j d_ v Qp.o]at Ve;have Zp:=J Ve;have HK7:=J (uz.o.trans ((KT.ext (B:=B) (wm:=wm) y6).trans hK7));clear Ve hK7 qC O7 hG hGW;refine anN ?_;clear dz;go_wp21;go_roundw
    case rel=>exact⟨j+1,aP,by go_num,Zp.o,HK7.o⟩
    case measure=>simp only [intOf];omega
   .obtain rfl:j=c.vars.n:=by omega
    have hm8:=HMJ.o;rw [HVN.o,afl]at hm8;have Ql:=J hm8;clear hm8;have hc8:=(Kept.cell uH.o.below (p:=⟨cb,0,none⟩) (by have:=De.o.2;have:=Pq.o;show cb<W3.heap.size;omega) (by have:=De.o.2;show¬B<=cb;omega)).trans De.o.1;have hc9:cb<wr.heap.size:=by have:=De.o.2;have:=Ql.o.hB;omega
    have b0:=bC (KT.block uH.o HPG.o ap ap);have b2:=(KT.block uH.o HPG.o ap ap).lt;have hwb:IntKind.i64.wrap b=b:=wrap_i64 C8;have alN:=J (KT.block uH.o HPG.o ap ap)
    by_cases T3:part=2
    .have Rm:((part:Int)==2)=true:=by simp [T3]
     have HTW:=J (show jO p b part=rI (gT p.vars) b p.params from by rw [T3];unfold jO;rw [ak rfl]);clear T3;obtain⟨yq,hpf,hpo,qb,qo,hpA,hpE⟩:=HPS.o;have hpm:=hpf.max ad;have⟨Ei,jh,HPE⟩:=J3' yq hpA hpE;clear yq hpf hpo hpA hpE;go_wp21;clear b0 b2 hc8 hc9
     go_loopw [58] (λt58 wq=>∃(j:Nat),j<=c.params.n/\t58=.int .i64 j/\MS wq B N mb p c b wm sm em 0 (rI (gT p.vars) b (p.params.take j)) []/\KT B wm W3 wq) (λt58 _=>c.params.n - (intOf t58).toNat)
     case atStart=>exact⟨0,cI _,rfl,Ql.o,uH.o⟩
     case round=>
      obtain⟨i,hi,rfl,hmi,hki⟩:=hrel;have HMI:=J hmi;have qu:=J hki;clear hmi hki
      by_cases aP:i<c.params.n
      .have d_:i<p.params.length:=by have:=Ei.o;omega
       have gD:(i:Int)<c.params.n:=by omega
       have F9:=jh.o ad;obtain⟨hvb,aE⟩:=HPE.o ad;obtain⟨jx,hg'⟩:=oB aE i d_;obtain⟨u1,u2,u3⟩:=Gs qu.o ⟨Mz,Pq.o⟩ hvb jx hg';obtain⟨v,hve⟩:=nm' (p.params[i]);rw [<-hve]at u2;have Qp:=J hve;clear aE hve jx hg' hvb;have hwj:IntKind.i64.wrap (b+(i:Int))=b+i:=wrap_i64 C8;have y0:=dY wr (.cells (aZ v) 232);have eY:=bN wr 232 (aZ v);rw [F9];go_upto_region 13 with(fail);generalize (wr.alloc (.cells (aZ v) 232))=W5 at y0 eY⊢;generalize wr.heap.size=g at eY⊢;have⟨tN,Ig,uz⟩:=J3' eY (HMI.o.ext y0) (qu.o.trans (KT.ext (B:=B) (wm:=wm) y0));clear y0 eY u1 u2 u3 F9;refine fH (λwz=>al W5 wz) [(0,2),(1,2),(2,2),(3,1),(4,2),(5,1),(6,2),(7,2),(8,2),(9,0)] ?_;refine fI ?_;have yd:al W5 W5.drew:=(kR _ W5).drew
       repeat first|refine cx ?_|refine de yd (by intro w1 hS;have qO:=Ig.o.ext hS;obtain⟨A',n',uB,jw,_⟩:=qO.blk;have d3:=bC jw;have d4:=jw.lt;have d0:=bX tN.o hS;have d1:=bC d0;have d2:=d0.lt;exact fV) ?_|refine dc yd ?_
       have HMd:=J (Ig.o.ext yd);obtain⟨G,hG,hGW⟩:=HMd.o.words;obtain⟨w7,dz,O7,qC⟩:=dy.put (P:=prog) hG underlying297 underlying9 v.name (.int .i64 (b+(i:Int)));obtain⟨Ve,hK7⟩:=HMd.o.word qC O7 (H_ _ v.name _ G hGW);have hpe:lX (rI (gT p.vars) b (p.params.take i)) v.name (b+(i:Int))=rI (gT p.vars) b (p.params.take (i+1)):=by rw [lq,List.getElem?_eq_getElem d_,<-Qp.o,Option.toList_some,Fe,mz,Nat.min_eq_left ad]
       rw [hpe]at Ve;clear hpe;have Zp:=J Ve;have ady:=J ((KT.ext (B:=B) (wm:=wm) yd).trans hK7);clear Ve hK7 qC O7 hG hGW yd HMd;refine anN ?_;clear dz;go_wp21;go_roundw
       case rel=>exact⟨i+1,aP,by go_num,Zp.o,uz.o.trans ady.o⟩
       case measure=>simp only [intOf];omega
      .obtain rfl:i=c.params.n:=by omega
       have hm9:=HMI.o;rw [Ei.o,jr]at hm9;have HM9:=J hm9;clear hm9;have HTX:=HTW.o;have HMa:=J (show MS wr B N mb p c b wm sm em 0 (jO p b part) []from by rw [HTX];exact HM9.o);have HKa:=J (qu.o);exact afP
    by_cases hp3:part=3
    .have Rm:((part:Int)==2)=false:=by simp [hp3]
     have he3:((part:Int)==3)=true:=by simp [hp3]
     have HTW:=J (show jO p b part=lX (gT p.vars) p.silent b from by rw [hp3];unfold jO;rw [af ap,ak rfl]);clear T3 hp3;have hsi:=J Ql.o.prog.silent;go_upto_region 16 with(fail);clear b0 b2 hc8 hc9;refine fH (λwz=>al wr wz) [(0,2),(1,2),(2,2),(3,1),(4,2),(5,1),(6,2),(7,0)] ?_;refine fI ?_;have yd:al wr wr.drew:=(kR _ wr).drew
     repeat first|refine cx ?_|refine de yd (by intro w1 hS;have qO:=Ql.o.ext hS;obtain⟨A',n',uB,jw,_⟩:=qO.blk;have d3:=bC jw;have d4:=jw.lt;have d9:=bX alN.o hS;have dA:=bC d9;have dC:=d9.lt;exact fV) ?_|refine dc yd ?_
     have HMd:=J (Ql.o.ext yd);obtain⟨G,hG,hGW⟩:=HMd.o.words;obtain⟨w7,dz,O7,qC⟩:=dy.put (P:=prog) hG underlying297 underlying9 c.silent (.int .i64 (b));obtain⟨Ve,hK7⟩:=HMd.o.word qC O7 (H_ _ c.silent _ G hGW);rw [hsi.o]at Ve;have Zp:=J Ve;have ady:=J ((KT.ext (B:=B) (wm:=wm) yd).trans hK7);clear Ve hK7 qC O7 hG hGW yd HMd;refine anN ?_;clear dz;have Dh:=J (uH.o.trans ady.o);have HTX:=HTW.o;have HMa:=J (show MS w7 B N mb p c b wm sm em 0 (jO p b part) []from by rw [HTX];exact Zp.o);have HKa:=J (Dh.o);exact afP
    have Rm:((part:Int)==2)=false:=by simp;omega
    have he3:((part:Int)==3)=false:=by simp;omega
    have htw:jO p b part=gT p.vars:=by unfold jO;rw [af T3,af hp3]
    have HTW:=J htw;clear T3 hp3 htw;go_upto_region 17 with(fail);clear b0 b2 hc8 hc9;have HTX:=HTW.o;have HMa:=J (show MS wr B N mb p c b wm sm em 0 (jO p b part) []from by rw [HTX];exact Ql.o);have HKa:=J (uH.o);exact afP
theorem Ji (f:Option nZ):(fM f).size=2:=by cases f<;>rfl
theorem EJ (f:Option nZ):eB (fM f).toList=true:=by cases f<;>rfl
theorem ai.PS {w:World} {b:Nat} {t:TypeId} (h:ai w b t #[.int .i64 0,.string ⟨#[]⟩]) (f:Option nZ):ai (putAt w b 0 (fM f)) b t (fM f):=by
 have:=ai.cw h 0 (fM f)
 cases f<;>exact this
theorem Cq (c:Pc) (p:Pr) (i:Nat) (hi:i<5) (N:Nat) (w0:World) (hN:N<=w0.heap.size) (h:nj w0 N c p) (F:SF):Uw c p i N w0 F:=by
 refine qh (C:=Uw c p i N w0) ?_ F;clear F;intro F IH deep fy A n kc pl B bn bc w hw mW hAk yq hd8 oh;obtain⟨hn,hf,b,off,hA,hE⟩:=oh;have hm:=hf.max ad;obtain⟨κ,T9⟩:=nm' (a_ (fm p.vars) pl);obtain⟨Z,hZ⟩:=nm' (cH i κ deep fy F);rw [<-T9,<-hZ];have⟨LV,HZ,HN,HA,HE,HI,Ei,HAK,OO,HN0,HP0⟩:=J11 T9 hZ.symm hn hA hE IH (ew yq hd8) hAk hw hN h;clear T9 hZ hn hf hA hE IH yq hd8 hAk;have aF:=(dY w (.cells (cL c A n kc) 243)).alloc (.cells #[.int .i64 0,.string ⟨#[]⟩] 166);have hK:=(bN w 243 (cL c A n kc)).alloc (.cells #[.int .i64 0,.string ⟨#[]⟩] 166);have hD:=ai.ea (w.alloc (.cells (cL c A n kc) 243)) 166 #[.int .i64 0,.string ⟨#[]⟩] (w.heap.size+1) aB;go_enter func149,ntmps149;go_upto_region 1 with(fail);have⟨fX,HPL,HWZ⟩:=J3' (show w.heap.size<=_ from aF.size) (mW.ext aF) (hw.trans aF);generalize hW:((w.alloc (.cells (cL c A n kc) 243)).alloc (.cells #[.int .i64 0,.string ⟨#[]⟩] 166))=W at aF hK hD fX HPL HWZ⊢;clear hW h mW hw hN;obtain⟨rb,mC⟩:=nm' (w.heap.size+1);rw [<-mC]at hD⊢;obtain⟨kb,yl⟩:=nm' w.heap.size;rw [<-yl]at hK⊢;have⟨AB,HD,dS,HK⟩:=J4' (show w.heap.size<=rb/\¬rb=kb from⟨by omega,by omega⟩) hD aF hK;clear hD aF mC hK yl;go_wp21
 go_loopw [11] (λt11 wr=>∃(m:Nat) (R:SF),m+R.len=bn/\cH i κ deep fy R=Z/\t11=.int .i64 m/\nk w0 N R b (off+m*7)/\SF.wG (Uw c p i N w0) R/\al W wr) (λt11 _=>bn - (intOf t11).toNat)
 case atStart=>exact⟨0,F,by rw [HN.o,dT],HZ.o,rfl,by simpa using HE.o,HI.o,kR _ _⟩
 case round=>
  obtain⟨m,R,qO,bw,rfl,hR,hall,hx⟩:=hrel;have⟨mv,cy,ca,fW⟩:=J4' hR hx bw hall;clear hR hx bw hall
  cases R with
  |nil=>
   simp only [SF.len,eW]at qO;subst qO;have HR:=J (show Z=none by rw [<-ca.o];rfl);go_wp21;refine aoS (kh _) λw9 tF=>?_;have cy:=J (cy.o.trans tF);refine afK ?_;intro dW fE gl gg;have o6:=bH (bX HK.o cy.o);have o5:=bG (bX HK.o cy.o);have nO:=(bX HK.o cy.o).lt;clear tF;exact acX
  |cons kind name es low high l x r=>
   obtain⟨hb,h1,h2,h3,h4,⟨eA,ec,lA,lc,xA,xc,be,oe,bl,ol,bx,ox,hh,hg,n1,n2,n3,a1,a2,a3,he,hl,zL⟩,hr⟩:=mv.o;simp only [SF.len]at qO;have aP:(m:Int)<bn:=by omega
   obtain rfl:=HA.o ad;have pK:=HWZ.o.trans cy.o;have HH0:=J (kl pK (by have:=HN0.o;omega) hh);have Tx:=J (iT pK (by have:=HN0.o;omega) hg);have gB:b<wr.heap.size:=by have:=pK.size;have:=HN0.o;omega
   have KE:=J (show me w0 N eA es.len es from⟨rfl,n1,be,oe,a1,he⟩);refine Tn ?_;intro KL KX;have⟨qR,FI,TE,HWQ,HHW⟩:=J5' hr fW.o h4 pK gB;clear hh hg n1 n2 n3 a1 a2 a3 he hl zL hb h1 h2 h3 h4 hr mv pK;have HHa:=HH0.o;have HGa:=Tx.o;have ca:=J (show Z=aj (oG i κ deep (fy&&r.isNil) kind name es low high l x) (cH i κ deep fy r)from ca.o▸kT i κ deep fy kind name es low high l x r)
   have pV:((m:Int)==(bn:Int) - 1)=r.isNil:=by
    cases r with
    |nil=>simp only [SF.len]at qO;simp [SF.isNil];omega
    |cons=>simp only [SF.len]at qO;simp [SF.isNil];omega
   obtain⟨la,hla⟩:=nm' r.isNil;rw [<-hla]at pV;have HLS:=J (show((m:Int)==IntKind.i64.wrap ((bn:Int) - 1))=la by rw [<-pV];congr 1;rw [im];omega);clear pV
   cases fy
   .have Yu:=J (λw' (YV:al w0 w') (LH:dN w' w'.heap.size A n pl)=>Fj c p i hi N w0 HN0.o HP0.o deep Ei.o.2 kind name es low high l x eA ec lA lc xA xc false TE.o KE.o KL.o KX.o FI.o.1 FI.o.2.1 A n kc pl w' YV LH HAK.o Ei.o.1)
    obtain⟨f,hf⟩:=nm' (oG i κ deep false kind name es low high l x);have z_:=J (show Z=aj f (cH i κ deep false r)from hf▸ca.o);clear HLS ca hla la;exact zz7
   .have Yu:=J (λw' (YV:al w0 w') (LH:dN w' w'.heap.size A n pl)=>Fj c p i hi N w0 HN0.o HP0.o deep Ei.o.2 kind name es low high l x eA ec lA lc xA xc la TE.o KE.o KL.o KX.o FI.o.1 FI.o.2.1 A n kc pl w' YV LH HAK.o Ei.o.1)
    obtain⟨f,hf⟩:=nm' (oG i κ deep la kind name es low high l x);have z_:=J (show Z=aj f (cH i κ deep true r)from hf▸hla▸ca.o);clear ca hla;exact zz7

