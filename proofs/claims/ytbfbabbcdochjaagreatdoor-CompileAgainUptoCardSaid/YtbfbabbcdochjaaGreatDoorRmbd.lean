/- Several texts joined: Ug, Jn, Jo. -/
import Derived.Test.YtbfbabbcdochjaaGreatDoorRmpk
import Derived.Test.YtbfbabbcdochjaaGreatDoorRmal
import Derived.Test.YtbfbabbcdochjaaGreatDoorRmbb
import Derived.Test.YtbfbabbcdochjaaGreatDoorRmbc
set_option maxHeartbeats 4000000
set_option maxRecDepth 100000
open Go.Proofs.Tryz
namespace Go.Proofs.YtbfbabbcdochjaaGreatDoor
open Go.RowKit So
def NH (s:jg):Prop:=s.n<=s.c/\(s.A=none->s.c=0)
structure J3 (c:Pc):Prop where
 vars:NH c.vars
 start:NH c.start
 turn:NH c.turn
 params:NH c.params
 play:NH c.play
 quiet:NH c.quiet
 pays:NH c.pays
def za (c:Pc):Nat->jg|0=>c.start|1=>c.turn|2=>c.play|3=>c.quiet|_=>c.pays
def BN (p:Pr):Nat->List Str|2=>p.params.map Vr.name|3=>[p.silent]|_=>[]
theorem lT.part {w:World} {N:Nat} {c:Pc} {p:Pr} (h:lT w N c p) (i:Nat):iO w N (za c i).A (za c i).n (partOf p i):=by
 unfold za partOf
 split
 ·exact h.start
 ·exact h.turn
 ·exact h.play
 ·exact h.quiet
 ·rename_i h0 h1 h2 h3
  split
  ·exact absurd rfl h0
  ·exact absurd rfl h1
  ·exact absurd rfl h2
  ·exact absurd rfl h3
  ·exact h.pays
theorem aaN (p:Pr) (i:Nat):jI p i=aU (fB p.vars) (BN p i):=by
 match i with
 |0=>rfl
 |1=>rfl
 |2=>rfl
 |3=>rfl
 |_+4=>rfl
def Gp (p:Pr) (M:Option oW) (i:Nat):Option oW:=(List.range' i (5 - i)).foldr (λj r=>ay (mg p j) r) M
theorem Xm (p:Pr) (M:Option oW) (i:Nat) (hi:i<5):Gp p M i=ay (mg p i) (Gp p M (i+1)):=by
 exact Sy
theorem IY (p:Pr):check p=ay (must (isName p.name) 6 p.name) (ay (must (jq p.seats 2 8) 2 wW) (ay (must ((p.bY.length:Int)==p.seats) 3 iH) (ay (must (p.bY.all (λn=>jq n 1 2147483647)) 2 iH) (ay (ay (fJ [] p.vars) (must (decide (cells p.vars<=64)) 8 tC))
 (ay (ay (must (decide (p.params.length<=4)) 8 gQ) (ay (d_ (fB p.vars) [] p.params) (ay (must (decide (menu p.params<=512)) 8 gQ) (ay (must (isName p.silent) 6 p.silent) (must (fB p.vars p.silent==0) 7 p.silent))))) (ay (must (decide (jW (eT p)<=1000)) 5 p.name) (Gp p (ay (must (ends p.turn) 4 lU) (must (kC p.pays) 4 oU)) 0))))))):=by
 rw [check,lq,nI];simp only [dY]
 rfl
theorem wS:∀(l pre:List Vr),NZ (fJ pre l)
 |[],_=>by rw [fJ];exact NZ.none
 |v::r,pre=>by
  rw [fJ];exact NZ.ay (NZ.must ak) (NZ.ay (NZ.must ak) (NZ.ay (NZ.must ak) (wS r _)))
theorem wR (κ:Kn):∀(l pre:List Vr),NZ (d_ κ pre l)
 |[],_=>by rw [d_];exact NZ.none
 |v::r,pre=>by
  rw [d_];exact NZ.ay (NZ.must ak) (NZ.ay (NZ.must ak) (NZ.ay (NZ.must ak) (NZ.ay (NZ.must ak) (wR κ r _))))
theorem Uv {w:World} {base:Nat} {T:TypeId} {A:Option Addr} {n c:Nat} {l:List Str} (ho:w.ownsRow base T 1 (.slice A n c) n (aR Aa l)) (hn:n=l.length) (h4:n<=100):eO w w.heap.size A n l/\(A=none->c=0):=by
 obtain⟨B,bc,e,hB,hS⟩:=LV ho hn h4;injection e with e1 e2 e3;subst e1 e3;refine⟨hS,λh=>?_⟩
 rcases ho.2 with⟨hv,_⟩|⟨g,c',cur,hv,_⟩
 ·injection hv
 ·injection hv with q1
  rw [h]at q1
  cases q1
theorem LX (p:Pr) (i:Nat) (h:p.params.length<=4):(BN p i).length<=40+0:=by
 unfold BN
 split
 ·rw [List.length_map];omega
 ·simp
 ·simp
theorem eO.agv {w w':World} {A:Option Addr} {n:Nat} {l:List Str} (h:eO w w.heap.size A n l) (hx:Ext w w'):eO w' w'.heap.size A n l:=(h.ext hx).mono hx.size
abbrev qO (c:Pc):Array Value:=#[c.start.v,c.turn.v,c.play.v,c.quiet.v,c.pays.v]
theorem Uw (c:Pc) (i:Nat) (hi:i<5):(qO c)[i]?=some ((za c i).v):=by
 exact Sy
theorem Px (c:Pc) (p:Pr) (N:Nat) (w:World) (hN:N<=w.heap.size) (h:lT w N c p) (hcap:J3 c):Calls prog 23 #[.agg c.cells] w λe w'=>e=.returned (.agg (gU (check p)))/\Ext w w':=by
 obtain⟨X,hX⟩:∃X,X=check p:=⟨_,rfl⟩;rw [<-hX];replace hX:=hX.trans (IY p);obtain⟨b0,hb0⟩:∃b,b=isName p.name:=⟨_,rfl⟩;obtain⟨b1,hb1⟩:∃b,b=jq p.seats 2 8:=⟨_,rfl⟩;obtain⟨b2,hb2⟩:∃b,b=((p.bY.length:Int)==p.seats):=⟨_,rfl⟩;obtain⟨V,hV⟩:∃V,V=ay (fJ [] p.vars) (must (decide (cells p.vars<=64)) 8 tC):=⟨_,rfl⟩;obtain⟨P,hP⟩:∃P,P=ay (must (decide (p.params.length<=4)) 8 gQ) (ay (d_ (fB p.vars) [] p.params) (ay (must (decide (menu p.params<=512)) 8 gQ) (ay (must (isName p.silent) 6 p.silent) (must (fB p.vars p.silent==0) 7 p.silent)))):=⟨_,rfl⟩;obtain⟨b3,hb3⟩:∃b,b=decide (jW (eT p)<=1000):=⟨_,rfl⟩;obtain⟨b4,hb4⟩:∃b,b=ends p.turn:=⟨_,rfl⟩;obtain⟨b5,hb5⟩:∃b,b=kC p.pays:=⟨_,rfl⟩;obtain⟨M,hM⟩:∃M,M=ay (must b4 4 lU) (must b5 4 oU):=⟨_,rfl⟩;obtain⟨T,hT⟩:∃T,T=Gp p M 0:=⟨_,rfl⟩;obtain⟨R1,yB⟩:∃R,R=ay V (ay P (ay (must b3 5 p.name) T)):=⟨_,rfl⟩;rw [<-hb0,<-hb1,<-hb2,<-hb3,<-hb4,<-hb5,<-hV,<-hP,<-hM,<-hT,<-yB]at hX;have NS:=J (show NZ V by rw [hV];exact NZ.ay (wS _ _) (NZ.must ak));have HNP:=J (show NZ P by rw [hP];exact NZ.ay (NZ.must ak) (NZ.ay (wR _ _ _) (NZ.ay (NZ.must ak) (NZ.ay (NZ.must ak) (NZ.must ak)))))
 have C9:=J (show P=none->p.params.length<=4 by
  intro e;rw [hP,av]at e
  simpa using aP.1 e.1)
 have HX:=J hX;have HB0:=J hb0;have HB1:=J hb1;have HB2:=J hb2;have HV:=J hV;have HP:=J hP;have HB3:=J hb3;have ZH:=J hb4;have nC:=J hb5;have HM:=J hM;have HT:=J hT;have HR1:=J yB;clear hX hb0 hb1 hb2 hb3 hb4 hb5 hV hP hM hT yB;have F5:=J hcap;obtain⟨cn,cse,⟨kA,kn,kc⟩,⟨vA,vn,vc⟩,cs,⟨tA,tn,tc⟩,⟨A,n,cc⟩,jG,ny,cq,⟨zA,zn,zc⟩⟩:=c;obtain rfl:cn=p.name:=h.name;obtain rfl:ny=p.silent:=h.silent;obtain rfl:cse=p.seats:=h.seats;have hx0:=((kR (λ_=>False) w).alloc (.cells (Pc.cells (⟨p.name,p.seats,⟨kA,kn,kc⟩,⟨vA,vn,vc⟩,cs,⟨tA,tn,tc⟩,⟨A,n,cc⟩,jG,p.silent,cq,⟨zA,zn,zc⟩⟩:Pc)) 26)).alloc (.cells #[.int .i64 0,.string ⟨#[]⟩] 60);have hB:=(bN w 26 (Pc.cells (⟨p.name,p.seats,⟨kA,kn,kc⟩,⟨vA,vn,vc⟩,cs,⟨tA,tn,tc⟩,⟨A,n,cc⟩,jG,p.silent,cq,⟨zA,zn,zc⟩⟩:Pc))).alloc (.cells #[.int .i64 0,.string ⟨#[]⟩] 60);have hD:=aH.new' (w.alloc (.cells (Pc.cells (⟨p.name,p.seats,⟨kA,kn,kc⟩,⟨vA,vn,vc⟩,cs,⟨tA,tn,tc⟩,⟨A,n,cc⟩,jG,p.silent,cq,⟨zA,zn,zc⟩⟩:Pc)) 26)) 60 #[.int .i64 0,.string ⟨#[]⟩] (w.heap.size+1) aG;have iY:=J (h.ext hx0 hN);have dR:=J (Nat.le_trans hN hx0.size);have C_:=J h.D7;obtain⟨hn,hf,hok,b,off,hA,hE⟩:=h.bY.ext hx0;have hm:=hf.max aj;have HN:=J (show kn=p.bY.length from hn);have HA:=J hA;have HE:=J hE;have xH:=J (show n=p.params.length from h.params.1);have hnm:=Fits.max (show Fits n 40 from h.params.2.1) aj;have hzm:=Fits.max (show Fits zn 112 from h.pays.2.1) aj;have HZN:=J (show zn=p.pays.len from h.pays.1);clear hn hA hE hok hf h hcap;go_enter func23,ntmps23;go_upto_region 1 with(fail);generalize hW:((w.alloc (.cells (Pc.cells (⟨p.name,p.seats,⟨kA,kn,kc⟩,⟨vA,vn,vc⟩,cs,⟨tA,tn,tc⟩,⟨A,n,cc⟩,jG,p.silent,cq,⟨zA,zn,zc⟩⟩:Pc)) 26)).alloc (.cells #[.int .i64 0,.string ⟨#[]⟩] 60))=W at hx0 hB hD HE iY dR⊢;clear hW;obtain⟨rb,hrb⟩:∃rb,rb=w.heap.size+1:=⟨_,rfl⟩;rw [<-hrb]at hD⊢;have HRW:=J (show w.heap.size<=rb by omega);have HD:=J hD;have HX0:=J hx0;have HB:=J hB;clear hD hx0 hrb hB;generalize w.heap.size=pb at HB⊢;have dF:=J (kR (λ_=>False) W);refine He ?_;intro fq hmr iw hlr hcP mI mH jh;go_wp2_with fail;refine(mX p.name C_.out _).mono ?_;rintro e w1 ⟨rfl,hx1⟩;clear fq hmr iw hlr hcP mI mH jh;have dF:=J (dF.out.trans hx1);clear hx1;rw [<-HB0.out];refine He ?_;intro fq hmr iw hlr hcP mI mH jh
 cases b0
 ·have HR:=J (show X=some ⟨6,p.name⟩by rw [HX.out,aO,aY])
  exact EX
 ·have eH:=J (show X=ay (must b1 2 wW) (ay (must b2 3 iH) (ay (must (p.bY.all (λn=>jq n 1 2147483647)) 2 iH) R1))by rw [HX.out,bL,aX])
  clear HX;go_wp2_with fail;refine(rO _ _ _ _).mono ?_;rintro e w2 ⟨rfl,rfl⟩;rw [<-HB1.out]
  cases b1
  ·have HR:=J (show X=some ⟨2,wW⟩by rw [eH.out,aO,aY])
   exact EX
  ·have eU:=J (show X=ay (must b2 3 iH) (ay (must (p.bY.all (λn=>jq n 1 2147483647)) 2 iH) R1)by rw [eH.out,bL,aX])
   clear eH;have hb2:((kn:Int)==p.seats)=b2:=by rw [HB2.out,HN.out]
   have OD:((kn:Int) !=p.seats)=!b2:=by unfold bne;rw [hb2]
   cases b2
   ·have HR:=J (show X=some ⟨3,iH⟩by rw [eU.out,aO,aY])
    exact EX
   ·have iZ:=J (show X=ay (must (p.bY.all (λn=>jq n 1 2147483647)) 2 iH) R1 by rw [eU.out,bL,aX])
    clear eU HB0 HB1 HB2;go_wp2_with fail;clear hb2 OD;clear fq hmr iw hlr hcP mI mH jh;have HXS:=dF;clear dF
    go_loopw [3] (λt3 wr=>∃(j:Nat),j<=kn/\t3=.int .i64 j/\ay (must ((p.bY.drop j).all (λn=>jq n 1 2147483647)) 2 iH) R1=X/\Ext W wr) (λt3 _=>kn - (intOf t3).toNat)
    case atStart=>exact⟨0,Nat.zero_le _,rfl,iZ.out.symm,HXS.out⟩
    case round=>
     obtain⟨j,hj,rfl,hacc,hx⟩:=hrel;have dF:=J hx;have dw:=J hacc;clear hx hacc HXS iZ;refine He ?_;intro fq hmr iw hlr hcP mI mH jh
     by_cases hlt:j<kn
     ·have hjl:j<p.bY.length:=by have:=HN.out;omega
      have jd:(j:Int)<kn:=by omega
      obtain rfl:=HA.out aj;have hrow:=(HE.out aj).2.ext dF.out;have hci:=XL hrow j hjl;have hbw:=hrow.lt;obtain⟨x,hxe⟩:∃x,x=p.bY[j]:=⟨_,rfl⟩;have hdrop:p.bY.drop j=x::p.bY.drop (j+1):=by rw [hxe];exact List.drop_eq_getElem_cons hjl
      rw [<-hxe]at hci;have hacc:=dw.out;rw [hdrop,List.all_cons]at hacc;have dw:=J hacc;clear hrow hxe hdrop hacc;go_wp2_with fail;refine(rO _ _ _ _).mono ?_;rintro e w2 ⟨rfl,rfl⟩;obtain⟨q,hq⟩:∃q,q=jq x 1 2147483647:=⟨_,rfl⟩;rw [<-hq]at dw⊢;clear hq
      cases q
      ·have HR:=J (show X=some ⟨2,iH⟩by rw [<-dw.out,Bool.false_and,aO,aY])
       exact EX
      ·have HA2:=J dw.out
       go_wp2_with fail;exact⟨⟨j+1,hlt,by go_num,by rw [Bool.true_and]at HA2;exact HA2.out,dF.out⟩,by simp only [intOf];omega⟩
     ·obtain rfl:j=kn:=by omega
      have fZ:=J (show X=ay V (ay P (ay (must b3 5 p.name) T))by rw [<-HR1.out,<-dw.out,HN.out,List.drop_length,List.all_nil,bL,aX]);clear dw HR1 hlt hj;go_wp2_with fail;refine(UR p.vars vA vn vc N _ F5.out.vars.1 (Nat.le_trans dR.out dF.out.size) (iY.out.ext dF.out dR.out).vars).mono ?_;rintro e w2 ⟨rfl,hx2⟩;clear fq hmr iw hlr hcP mI mH jh;have dF:=J (dF.out.trans hx2);clear hx2;rw [<-HV.out]
      cases V with
      |some f=>
       obtain⟨fe,fn⟩:=f;have HNF:=J (NZ.out NS.out rfl);have HR:=J (show X=some ⟨fe,fn⟩by rw [fZ.out,aY]);refine acd ?_;intro y3 hV;go_upto_region 13 with(fail);exact aiQ
      |none=>
       have kg:=J (show X=ay P (ay (must b3 5 p.name) T)by rw [fZ.out,aX]);clear fZ HV NS;refine abY ?_;intro y3 hV;go_upto_region 13 with(fail);generalize (w2.alloc (.cells #[.int .i64 0,.string ⟨#[]⟩] 60))=W3 at y3 hV⊢;refine zy9 ?_;clear hV y3 dF;intro fb eX xE HZ0 K hK;rintro e2 w4 ⟨rfl,hx4⟩;refine Sr ?_;clear hK K hx4;intro HZ1 dF;clear eX HZ0 HZ1 xE;refine He ?_;intro fq hmr iw hlr hcP mI mH jh;go_wp2_with fail;refine(UM (⟨p.name,p.seats,⟨kA,j,kc⟩,⟨vA,vn,vc⟩,cs,⟨tA,tn,tc⟩,⟨A,n,cc⟩,jG,p.silent,cq,⟨zA,zn,zc⟩⟩:Pc) p N _ (Nat.le_trans dR.out dF.out.size) (iY.out.ext dF.out dR.out) F5.out.params.1).mono ?_;rintro e w2 ⟨rfl,hx2⟩;clear fq hmr iw hlr hcP mI mH jh;have dF:=J (dF.out.trans hx2);clear hx2;rw [<-HP.out]
       cases P with
       |some f=>
        obtain⟨fe,fn⟩:=f;have HNF:=J (NZ.out HNP.out rfl);have HR:=J (show X=some ⟨fe,fn⟩by rw [kg.out,aY]);refine acd ?_;intro y3 hV;go_upto_region 16 with(fail);exact aiQ
       |none=>
        have qj:=J (show X=ay (must b3 5 p.name) T by rw [kg.out,aX]);have wE:=J (show n<=4 by have:=C9.out rfl;have:=xH.out;omega);clear kg HP HNP C9;refine abY ?_;intro y3 hV;go_upto_region 16 with(fail);generalize (w2.alloc (.cells #[.int .i64 0,.string ⟨#[]⟩] 60))=W3 at y3 hV⊢;refine zy9 ?_;clear hV y3 dF;intro fb eX xE HZ0 K hK;rintro e2 w4 ⟨rfl,hx4⟩;refine Sr ?_;clear hK K hx4;intro HZ1 dF;clear eX HZ0 HZ1 xE;refine He ?_;intro fq hmr iw hlr hcP mI mH jh;go_wp2_with fail;refine(GX (⟨p.name,p.seats,⟨kA,j,kc⟩,⟨vA,vn,vc⟩,cs,⟨tA,tn,tc⟩,⟨A,n,cc⟩,jG,p.silent,cq,⟨zA,zn,zc⟩⟩:Pc) p N _ (Nat.le_trans dR.out dF.out.size) (iY.out.ext dF.out dR.out)).mono ?_;rintro e w2 ⟨rfl,hx2⟩;clear fq hmr iw hlr hcP mI mH jh;have dF:=J (dF.out.trans hx2);clear hx2;obtain⟨sz,hsz⟩:∃sz,sz=jW (eT p):=⟨_,rfl⟩;rw [<-hsz]at HB3⊢;refine He ?_;intro fq hmr iw hlr hcP mI mH jh
        by_cases agw:sz>1000
        ·have HR:=J (show X=some ⟨5,p.name⟩by rw [qj.out,HB3.out,decide_eq_false aj,aO,aY])
         exact EX
        ·have sU:=J (show X=T by rw [qj.out,HB3.out,decide_eq_true aj,bL,aX])
         clear qj HB3 hsz;obtain⟨-,-,-,pb2,po2,hA2,hE2⟩:=iY.out.params;have HA2:=J hA2;have HE2:=J hE2;clear hA2 hE2;go_wp2_with fail;have y0:=(kR (λ_=>False) w2).alloc (.cells (qO (⟨p.name,p.seats,⟨kA,j,kc⟩,⟨vA,vn,vc⟩,cs,⟨tA,tn,tc⟩,⟨A,n,cc⟩,jG,p.silent,cq,⟨zA,zn,zc⟩⟩:Pc)) 24);have hab:=bN w2 24 (qO (⟨p.name,p.seats,⟨kA,j,kc⟩,⟨vA,vn,vc⟩,cs,⟨tA,tn,tc⟩,⟨A,n,cc⟩,jG,p.silent,cq,⟨zA,zn,zc⟩⟩:Pc));clear fq hmr iw hlr hcP mI mH jh;generalize hW5:(w2.alloc (.cells (qO (⟨p.name,p.seats,⟨kA,j,kc⟩,⟨vA,vn,vc⟩,cs,⟨tA,tn,tc⟩,⟨A,n,cc⟩,jG,p.silent,cq,⟨zA,zn,zc⟩⟩:Pc)) 24))=W5 at y0 hab⊢;generalize w2.heap.size=ab at hab⊢;have HAB:=J hab;have HXS:=J (dF.out.trans y0);clear hW5 hab y0 dF agw
         go_loopw [7] (λt7 wr=>∃(i:Nat),i<=5/\t7=.int .i64 i/\Gp p M i=X/\Ext W5 wr) (λt7 _=>5 - (intOf t7).toNat)
         case atStart=>exact⟨0,by omega,rfl,by rw [<-HT.out];exact sU.out.symm,kR _ _⟩
         case round=>
          obtain⟨i,hi5,rfl,hacc,hx⟩:=hrel;have Bw:=J hx;have dF:=J (HXS.out.trans hx);have dw:=J hacc;clear hx hacc
          by_cases hlt:i<5
          ·have jd:(i:Int)<5:=by omega
           have HLT:=J hlt;have HAW:=J (bX HAB.out Bw.out);obtain⟨kb,hkb⟩:∃kb,kb=wr.heap.size:=⟨_,rfl⟩;have y1:=(kR (λ_=>False) wr).alloc (.cells (dP (⟨p.name,p.seats,⟨kA,j,kc⟩,⟨vA,vn,vc⟩,cs,⟨tA,tn,tc⟩,⟨A,n,cc⟩,jG,p.silent,cq,⟨zA,zn,zc⟩⟩:Pc) none 0 0) 120);have hkB:=bN wr 120 (dP (⟨p.name,p.seats,⟨kA,j,kc⟩,⟨vA,vn,vc⟩,cs,⟨tA,tn,tc⟩,⟨A,n,cc⟩,jG,p.silent,cq,⟨zA,zn,zc⟩⟩:Pc) none 0 0);rw [<-hkb]at hkB;refine He ?_;intro fq hmr iw hlr hcP mI mH jh;go_wp2_with fail;clear fq hmr iw hlr hcP mI mH jh
           try rw [<-hkb]
           generalize hW6:(wr.alloc (.cells (dP (⟨p.name,p.seats,⟨kA,j,kc⟩,⟨vA,vn,vc⟩,cs,⟨tA,tn,tc⟩,⟨A,n,cc⟩,jG,p.silent,cq,⟨zA,zn,zc⟩⟩:Pc) none 0 0) 120))=W6 at y1 hkB⊢;have dX:=J y1;have HKB:=J hkB;have j_:=J hkb;clear hW6 y1 hkB hkb
           go_loopw [9] (λt9 wq=>∃(q:Nat) (B:Option Addr) (bc:Nat),q<=n/\(¬i=2->q=0)/\t9=.int .i64 q/\aH wq kb 120 (dP (⟨p.name,p.seats,⟨kA,j,kc⟩,⟨vA,vn,vc⟩,cs,⟨tA,tn,tc⟩,⟨A,n,cc⟩,jG,p.silent,cq,⟨zA,zn,zc⟩⟩:Pc) B q bc)/\wq.ownsRow (kb+1) 9 1 (.slice B q bc) q (aR Aa ((p.params.map Vr.name).take q))/\Ext wr wq) (λt9 _=>n - (intOf t9).toNat)
           case atStart=>exact⟨0,none,0,Nat.zero_le _,λ_=>rfl,rfl,HKB.out,World.ownsRow_nil _ _ _ _,dX.out⟩
           case round=>
            obtain⟨q,B,bc,hq,hq2,rfl,hkq,how,hx⟩:=hrel;have Hu:=J hkq;have HOW:=J how;have Fy:=J hx;have HXB:=J (dF.out.trans hx);have HQ2:=J hq2;clear hkq how hx hq2;have hcP:=bC (bX HB.out HXB.out);have jh:=(bX HB.out HXB.out).lt
            by_cases hqn:q<n
            ·have hqI:(q:Int)<n:=by omega
             by_cases hi2:i=2
             ·have akV:((i:Int)==2)=true:=by simp [hi2]
              have HI2:=J hi2;clear hi2;have hql:q<p.params.length:=by have:=xH.out;omega
              obtain rfl:=HA2.out aj;have hrow:=((HE2.out aj).2.ext HXB.out);obtain⟨hh',hg'⟩:=mZ hrow q hql;have hbw:=hrow.lt;obtain⟨x,hxe⟩:∃x,x=p.params[q]:=⟨_,rfl⟩;rw [<-hxe]at hg'
              have htk:(p.params.map Vr.name).take (q+1)=(p.params.map Vr.name).take q++[x.name]:=by
               rw [List.take_add_one,List.getElem?_map,List.getElem?_eq_getElem hql,hxe]
               rfl
              have Dp:=J htk;have HH:=J hh';have HG:=J hg'
              have HOL:=J (show¬kb<pb2/\¬kb<pb/\pb2<wr.heap.size/\pb<wr.heap.size/\kb<wr.heap.size from⟨by
               have h1:=(HE2.out aj).1;have h2:=dR.out;have h3:=dF.out.size;have h4:=j_.out
               omega,by
               have h1:=(bX HB.out dF.out).lt;have h4:=j_.out
               omega,hbw,jh,Hu.out.lt⟩)
              clear hrow hxe htk hh' hg' hbw;go_upto_region 28 with(fail);clear hcP jh;refine gM (λw1=>Kept (λg=>kb<g) wr w1) [(0,2),(1,1),(2,2),(3,1),(4,2),(5,2),(6,2),(7,1),(8,0),(9,0),(10,2),(11,0)] ?_;refine gN ?_;have HZ0:=J (show Kept (λg=>kb<g) wr wr.drew from(kR _ wr).drew)
              (repeat first|refine cu ?_|refine dL HZ0.out (by intro w1 hS;have d0:=bK Hu.out hS (Nat.lt_irrefl _);have d1:=bC d0;have d3:=d0.lt;have d4:=bK (bX HB.out HXB.out) hS HOL.out.2.1;have d5:=bC d4;have d6:=d4.lt;have d7:=(jS hS HOL.out.2.2.1 HOL.out.1).trans HH.out;have d8:=(iR hS HOL.out.2.2.1 HOL.out.1).trans HG.out;have d9:=Nat.lt_of_lt_of_le HOL.out.2.2.1 hS.size;have d10:w1.cell? ⟨pb2,po2+q*4,none⟩=some (.string x.name):=nY d7 d8 aj;exact gX) ?_|refine dK HZ0.out ?_)
              (refine aC (λK hK=>?_);go_simp)
              have y1:Kept (λg=>kb<g) wr (wr.alloc (.cells #[.string x.name] 9)).drew:=((kR _ wr).alloc _).drew;have q6:aH (wr.alloc (.cells #[.string x.name] 9)).drew wr.heap.size 9 #[.string x.name]:=(bN wr _ _).drew;have own:=bD HOW.out (show Ext wr (wr.alloc (.cells #[.string x.name] 9)).drew from((kR _ wr).alloc _).drew);refine hK.out _ _ (λ_=>y1) ?_;clear hK K;generalize (wr.alloc (.cells #[.string x.name] 9)).drew=V3 at y1 q6 own⊢;obtain⟨u6,hu6⟩:∃u,u=wr.heap.size:=⟨_,rfl⟩;rw [<-hu6]at q6⊢;obtain⟨v',V4,hrun,ho',hk',-⟩:=Oe (f:=Aa) yh (λ_=>rfl) (λ_=>rfl) V3 (kb+1) (.slice B q bc) q ((p.params.map Vr.name).take q) own u6 0 1 1 [x.name] rfl (Row.eZ q6) (by have:=wE.out;omega) (by have:=HOL.out.2.2.2.2;have:=y1.size;omega);have y4:Kept (λg=>kb<g) wr V4:=y1.trans (hk'.mono (λi _ e=>by have:=(own.lt i e).1;omega));refine aC (λK hK=>?_);refine Vz ?_;refine hK.out _ _ (λ_=>y4) ?_;clear hK K hrun;have hkB:=bK Hu.out y4 (Nat.lt_irrefl _);have hcK:=bC hkB;have hzK:=aH.frozen hkB;have oM:=hkB.lt;rw [<-Dp.out]at ho';obtain⟨g2,c2,rfl,hrow2,hg2,-⟩:=gu ho' aj aj;refine gI ?_;have Aw:Kept (λg=>kb<=g) wr (V4.setCell ⟨kb,11,none⟩ (.slice (some ⟨g2,0,none⟩) (q+1) c2)):=(y4.mono (λi _ h=>Nat.le_of_lt h)).setCell _ _ (λ_=>Nat.le_refl _)
              have Ls:aH (V4.setCell ⟨kb,11,none⟩ (.slice (some ⟨g2,0,none⟩) (q+1) c2)) kb 120 (dP (⟨p.name,p.seats,⟨kA,j,kc⟩,⟨vA,vn,vc⟩,cs,⟨tA,tn,tc⟩,⟨some ⟨pb2,po2,none⟩,n,cc⟩,jG,p.silent,cq,⟨zA,zn,zc⟩⟩:Pc) (some ⟨g2,0,none⟩) (q+1) c2):=by
               have q:=aH.gW hkB 11 (.slice (some ⟨g2,0,none⟩) (q+1) c2);exact q
              have ho9:=bS ho' ((kR (·=kb) V4).setCell ⟨kb,11,none⟩ (.slice (some ⟨g2,0,none⟩) (q+1) c2) (λ_=>rfl)) (λg e=>by
               have e2:g2=g:=Option.some.inj e
               omega)
              generalize V4.setCell ⟨kb,11,none⟩ (.slice (some ⟨g2,0,none⟩) (q+1) c2)=V9 at Aw Ls ho9⊢;have zw:=J (Fy.out.trans' Aw (λi hi q=>by have:=j_.out;omega));clear hcK hzK oM hkB;go_wp2_with fail;go_roundw
              case rel=>exact⟨q+1,some ⟨g2,0,none⟩,c2,hqn,λh=>absurd HI2.out h,by go_num,Ls,ho9,zw.out⟩
              case measure=>simp only [intOf];omega
             ·have akV:((i:Int)==2)=false:=by simp;omega
              have HPL:=J (show¬i=3->(p.params.map Vr.name).take q=BN p i from λh3=>by
               rw [HQ2.out hi2]
               rcases(by omega:i=0∨i=1∨i=4)with rfl|rfl|rfl<;>rfl)
              exact zz1
            ·have HPL:=J (show¬i=3->(p.params.map Vr.name).take q=BN p i from λh3=>by
              by_cases hi2:i=2
              ·subst hi2
               exact List.take_of_length_le (by rw [List.length_map];have:=xH.out;omega)
              ·rw [HQ2.out hi2]
               rcases(by omega:i=0∨i=1∨i=4)with rfl|rfl|rfl<;>rfl)
             exact zz1
          ·obtain rfl:i=5:=by omega
           have HX8:=J (show X=M by rw [<-dw.out];rfl);refine He ?_;intro fq hmr iw hlr hcP mI mH jh;go_wp2_with fail;refine(UE wr p.turn tA tn tc N wr (kR _ _) (Nat.le_trans dR.out dF.out.size) (iY.out.ext dF.out dR.out).turn).mono ?_;rintro e w3 ⟨rfl,hx3⟩;clear fq hmr iw hlr hcP mI mH jh;have dF:=J (dF.out.trans hx3);clear hx3;rw [<-ZH.out];refine He ?_;intro fq hmr iw hlr hcP mI mH jh
           cases b4
           ·have HR:=J (show X=some ⟨4,lU⟩by rw [HX8.out,HM.out,aO,aY])
            exact EX
           ·have zw:=J (show X=must b5 4 oU by rw [HX8.out,HM.out,bL,aX])
            clear HX8 HM;obtain⟨-,-,b9,o9,hA9,hE9⟩:=(iY.out.ext dF.out dR.out).pays
            cases zn with
            |zero=>
             have HR:=J (show X=some ⟨4,oU⟩by
              have:p.pays=.nil:=by
               have hz:=HZN.out
               cases hq:p.pays with
               |nil=>rfl
               |cons=>rw [hq]at hz;simp [SF.len]at hz
              rw [zw.out,show b5=false by rw [nC.out,this];rfl,aO])
             clear hA9 hE9;exact EX
            |succ m=>
             obtain⟨k,hk,hrl,hbN⟩:=IZ hE9 (by rw [<-HZN.out];exact Nat.succ_pos m);obtain rfl:=hA9 (Nat.succ_pos m);rw [<-HZN.out]at hk;have hbw:=Nat.lt_of_lt_of_le hbN (Nat.le_trans dR.out dF.out.size);simp only [Nat.add_sub_cancel]at hk;have hi1:(m:Int)<((m:Int)+1):=by omega
             have hi0:(0:Int)<(m:Int)+1:=by omega
             have Q8:=J hrl;clear hrl hE9 hbN
             cases hq:(k==9)
             ·have HR:=J (show X=some ⟨4,oU⟩by rw [zw.out,show b5=false by rw [nC.out,Q8.out,hq],aO])
              have hqn:(k !=9)=true:=by unfold bne;rw [hq];rfl
              exact EX
             ·have HR:=J (show X=none by rw [zw.out,show b5=true by rw [nC.out,Q8.out,hq],bL])
              have hqn:(k !=9)=false:=by unfold bne;rw [hq];rfl
              go_wp2_with fail;refine(lD _).mono ?_;rintro e w4 ⟨rfl,hx4⟩;clear fq hmr iw hlr hcP mI mH jh;clear hk hbw;have dF:=J (dF.out.trans hx4);refine He ?_;intro fq hmr iw hlr hcP mI mH jh;clear hx4;exact EX
open Go.RowKit So Mc
theorem Om (k:Mk) (W:Wd):∀(F:EF),(∀(j:Nat) (t:Int),(cE k W F j t).length<=4*F.size)/\(∀t q:Int,(cE k W F 0 t).length+(cE k W F 1 q).length<=4*F.size)
 | .nil=>by simp [cE]
 | .cons op n name kids r=>by
  obtain⟨hk,hk2⟩:=Om k W kids;obtain⟨hr,-⟩:=Om k W r
  have h0:∀t,(cE k W (.cons op n name kids r) 0 t).length<=4*(1+kids.size):=λt=>by
   have a:=hk 0 t;have b1:=hk2 t (t+1);have b2:=hk2 (t+1) t;unfold cE
   repeat' split
   all_goals simp only [List.length_append,List.length_cons,List.length_nil]
   all_goals omega
  refine⟨λj t=>?_,λt q=>?_⟩
  ·cases j with
   |zero=>have:=h0 t;simp only [EF.size];omega
   |succ j=>have:=hr j t;rw [cE];simp only [EF.size];omega
  ·have a:=h0 t
   have b:=hr 0 q;have e:cE k W (.cons op n name kids r) 1 q=cE k W r 0 q:=by rw [cE]
   rw [e];simp only [EF.size]
   omega
theorem Ic (k:Mk):∀(F:SF) (W:Wd) (f:Nat) (a:Int),(cB k F W f a).length<=7*F.size
 | .nil,_,_,_=>by simp [cB]
 | .cons kind name e low high l els r,W,f,a=>by
  rw [Cm,List.length_append];have hr:=Ic k r W f (a+(cS k W f a kind name e low high l els).length);have hl:=λW f a=>Ic k l W f a;have hx:=λW f a=>Ic k els W f a;obtain⟨he,he2⟩:=Om k W e
  have hS:(cS k W f a kind name e low high l els).length<=7*(1+e.size+l.size+els.size):=by
   have a0:=he 0 0;have a1:=he2 0 1;have a2:(cE k W e 1 0).length+(cE k W e 0 1).length<=4*e.size:=by have:=he2 1 0;omega
   unfold cS
   split
   ·split
    ·have b:=hl W f (a+(cE k W e 0 0).length+1)
     simp only [FJ,List.length_append,List.length_cons,List.length_nil]
     omega
    ·have b:=hl W f (a+(cE k W e 0 0).length+1)
     have c:=hx W f (a+(cE k W e 0 0).length+1+(cB k l W f (a+(cE k W e 0 0).length+1)).length+1);simp only [VT,List.length_append,List.length_cons,List.length_nil]
     omega
   ·split
    ·split
     ·simp
     ·have b:=hl (gG W name (oV k f)) (f+1) (a+3)
      simp only [BI,List.length_append,List.length_cons,List.length_nil]
      omega
    ·unfold pJ
     repeat' split
     all_goals simp only [gT,List.length_append,List.length_cons,List.length_nil]
     all_goals omega
  simp only [SF.size]
  omega
theorem jV (v:Vr):1<=So.dD v:=by unfold So.dD;split<;>omega
theorem dS:∀(l:List Vr),0<=cells l
 |[]=>by simp [cells]
 |v::r=>by have:=jV v;have:=dS r;simp only [cells];omega
theorem Ag (q:Vr->Bool):∀(l:List Vr),cells (l.takeWhile q)<=cells l
 |[]=>by simp [cells]
 |v::r=>by
  have:=Ag q r;have:=dS r;have:=jV v;rw [List.takeWhile_cons]
  split<;>simp only [cells]<;>omega
theorem xU (l:List Vr) (s:Str):0<=aS l s/\aS l s<=cells l:=by
 unfold aS
 split
 ·exact⟨dS _,Ag _ l⟩
 ·exact⟨by omega,dS l⟩
theorem TW {l:List Vr} {s:Str} (h:fB l s=0):∀v∈l,¬v.name=s:=λv hv e=>by
 unfold fB at h
 split at h
 ·rename_i q
  have:=List.find?_eq_none.1 q v hv;simp at this;exact this e
 ·split at h<;>omega
theorem wH {l:List Vr} {s:Str} (h:fB l s=0):aS l s=0:=by
 unfold aS;rw [if_neg];intro e;rw [List.any_eq_true]at e;obtain⟨v,hv,q⟩:=e;exact TW h v hv (of_decide_eq_true q)
theorem rW:∀(l:List Vr) (W:Wd) (a:Int) (s:Str),(∀v∈l,¬v.name=s)->pU W a l s=W s
 |[],_,_,_,_=>rfl
 |v::r,W,a,s,h=>by
  rw [pU,rW r _ _ s (λu hu=>h u (List.mem_cons_of_mem _ hu)),gG,if_neg (λe=>h v (List.mem_cons_self ..) e.symm)]
theorem IW:∀(l:List Vr) (W:Wd) (a b:Int) (_:∀s,0<=W s/\W s<=b) (_:0<=a) (_:a+l.length<=b) (s:Str),0<=pU W a l s/\pU W a l s<=b
 |[],W,_,_,h,_,_,s=>h s
 |v::r,W,a,b,h,h0,h1,s=>by
  rw [pU];simp only [List.length_cons]at h1;refine IW r _ (a+1) b (λt=>?_) aj aj s;unfold gG
  split
  ·omega
  ·exact h t
theorem yM (p:Pr) (b:Int) (part:Nat) (hb0:0<=b) (hb:b<=100) (hc:cells p.vars<=100) (hp:p.params.length<=4) (s:Str):0<=iC p b part s/\iC p b part s<=1000:=by
 have h:=xU p.vars;unfold iC
 split
 ·exact IW _ _ _ 1000 (λt=>by have:=h t;omega) hb0 aj s
 ·split
  ·unfold gG
   split
   ·omega
   ·have:=h s;omega
  ·have:=h s;omega
theorem AY {κ:Kn} {l:List Str} {s:Str} (h:aU κ l s=0):κ s=0/\∀t∈l,¬t=s:=by
 unfold aU at h
 split at h
 ·omega
 ·rename_i q
  refine⟨h,λt ht e=>q ?_⟩;rw [List.any_eq_true];exact⟨t,ht,decide_eq_true e⟩
theorem qU (p:Pr) (b:Int) (part:Nat) (s:Str) (h:jI p part s=0):iC p b part s=0:=by
 unfold iC
 split
 ·rename_i e
  subst e;obtain⟨h1,h2⟩:=AY h;rw [rW _ _ _ s (λv hv e=>h2 v.name (List.mem_map.2 ⟨v,hv,rfl⟩) e)];exact wH h1
 ·split
  ·rename_i e
   subst e;obtain⟨h1,h2⟩:=AY h;rw [gG,if_neg (λe=>h2 p.silent aG e.symm)];exact wH h1
  ·rename_i e1 e2
   have e3:jI p part=fB p.vars:=by
    unfold jI
    split
    ·exact absurd rfl e1
    ·exact absurd rfl e2
    ·rfl
   rw [e3]at h;exact wH h
theorem Yb (p:Pr):NZ (lq p):=by
 unfold lq nI;exact NZ.ay (NZ.ay (NZ.must ak) (NZ.ay (NZ.must ak) (NZ.ay (NZ.must ak) (NZ.must ak)))) (NZ.ay (wS _ _) (NZ.ay (NZ.must ak) (NZ.ay (NZ.must ak) (NZ.ay (wR _ _ _) (NZ.ay (NZ.must ak) (NZ.ay (NZ.must ak) (NZ.must ak)))))))
theorem ahF (p:Pr):NZ (check p):=by
 unfold check;exact NZ.ay (Yb p) (NZ.ay (NZ.must ak) (NZ.ay (jK _ _ _ _ _) (NZ.ay (jK _ _ _ _ _) (NZ.ay (jK _ _ _ _ _) (NZ.ay (jK _ _ _ _ _) (NZ.ay (jK _ _ _ _ _) (NZ.ay (NZ.must ak) (NZ.must ak))))))))
structure tF (p:Pr):Prop where
 seats:2<=p.seats/\p.seats<=8
 vars:fJ [] p.vars=none
 cells:cells p.vars<=64
 np:p.params.length<=4
 aaY:d_ (fB p.vars) [] p.params=none
 silent:fB p.vars p.silent=0
 size:eT p<=1000
 part:∀i,i<5->bV i (jI p i) 0 true (partOf p i)=none
 ends:ends p.turn=true
 last:kC p.pays=true
theorem vY (p:Pr) (i:Nat) (hi:i<5):(partOf p i).size<=eT p:=by
 rcases(by omega:i=0∨i=1∨i=2∨i=3∨i=4)with rfl|rfl|rfl|rfl|rfl<;>simp only [partOf,eT]<;>omega
theorem tF.of {p:Pr} (h:check p=none) (hz:eT p<=1099511627776):tF p:=by
 obtain⟨h1,h2,h3,h4,h5,h6,h7,h8,h9⟩:=wJ.1 h;unfold lq nI at h1;simp only [av,aP,decide_eq_true_eq,beq_iff_eq,jq,Bool.and_eq_true]at h1;obtain⟨⟨_,q1,_,_⟩,q2,q3,q4,q5,_,_,q6⟩:=h1;exact⟨q1,q2,q3,q4,q5,q6,by rw [fF]at h2;omega,Eh h,h8,h9⟩
theorem tF.okK {p:Pr} (h:tF p) (i:Nat) (hi:i<5):okK (partOf p i):=Ee (h.part i hi)
theorem tF.V5 {p:Pr} (h:tF p) (i:Nat) (hi:i<5):(partOf p i).size<=1000:=Nat.le_trans (vY p i hi) h.size
def sI (p:Pr) (i:Nat):List Ins:=cB ⟨p.vars,p.seats,cells p.vars⟩ (partOf p i) (iC p (cells p.vars) i) 0 0
def dM (p:Pr) (i:Nat):List Ins:=sI p i++[⟨0,0,0,0⟩]
theorem Gc {p:Pr} {i:Nat} (h:(partOf p i).size<=256):(sI p i).length<=1792:=by
 have:=Ic ⟨p.vars,p.seats,cells p.vars⟩ (partOf p i) (iC p (cells p.vars) i) 0 0;unfold sI
 omega
open Go.RowKit So Mc
def firsts:List Vr->List Int
 |[]=>[]
 |v::r=>List.replicate (So.dD v).toNat (min (max 0 v.low) v.high)++firsts r
theorem oh:∀l:List Vr,((firsts l).length:Int)=cells l
 |[]=>rfl
 |v::r=>by
  have:=jV v;have:=oh r;simp only [firsts,List.length_append,List.length_replicate,cells]
  omega
theorem DN:∀a b:List Vr,firsts (a++b)=firsts a++firsts b
 |[],b=>rfl
 |v::r,b=>by rw [List.cons_append,firsts,firsts,DN r b,List.append_assoc]
theorem Ao {l:List Vr} {j:Nat} (hj:j<l.length):firsts (l.take (j+1))=firsts (l.take j)++List.replicate (So.dD l[j]).toNat (min (max 0 l[j].low) l[j].high):=by
 rw [List.take_add_one,List.getElem?_eq_getElem hj,DN];simp [firsts]
theorem vU:∀(l:List Vr) (j:Nat),cells (l.take j)<=cells l
 |[],j=>by simp [cells]
 |v::r,0=>by have:=dS (v::r);simpa [cells]using this
 |v::r,j+1=>by have:=vU r j;simp only [List.take_succ_cons,cells];omega
theorem sK {l:List Vr} (j:Nat) (h:cells l<=64):(firsts (l.take j)).length<=64:=by
 have:=oh (l.take j);have:=vU l j
 omega
theorem jR:∀(l pre:List Vr),fJ pre l=none->∀v∈l,0<=v.size/\v.size<=64/\au v.low/\au v.high/\v.low<=v.high
 |[],_,_,v,hv=>by simp at hv
 |u::r,pre,h,v,hv=>by
  rw [fJ]at h;simp only [av,aP,Bool.and_eq_true,jq,span,word,decide_eq_true_eq]at h;obtain⟨-,-,h3,h4⟩:=h
  rcases List.mem_cons.1 hv with q|q
  ·subst q
   unfold au
   omega
  ·exact jR r _ h4 v q
theorem kQ {w:World} {base:Nat} {v:Value} {n:Nat} {l:List Int} (h:w.ownsRow base 21 1 v n (aM l)):∃A c,v=.slice A n c:=by
 exact Zt
theorem Vd {x:Int} (h:au x):IntKind.i32.wrap x=x:=by
 unfold au at h;simp [IntKind.wrap_i32]
 try unfold Go.RowKit.wrap32
 omega
def FB (w:World) (N:Nat) (s:jg) (l:List Ins):Prop:=s.n=l.length/\∃b,s.A=some ⟨b,0,none⟩/\b<N/\Row w b 0 (fV l)
def xL (w:World) (N:Nat) (s:jg) (l:List Int):Prop:=s.n=l.length/\(0<s.n->∃b,s.A=some ⟨b,0,none⟩/\b<N/\Row w b 0 (aM l))
theorem FB.kept {S:Nat->Prop} {w w':World} {N:Nat} {s:jg} {l:List Ins} (h:FB w N s l) (hk:Kept S w w') (hS:∀i,i<N->¬S i):FB w' N s l:=by
 obtain⟨h1,b,h2,h3,h4⟩:=h;exact⟨h1,b,h2,h3,h4.kept hk (hS b h3)⟩
theorem xL.kept {S:Nat->Prop} {w w':World} {N:Nat} {s:jg} {l:List Int} (h:xL w N s l) (hk:Kept S w w') (hS:∀i,i<N->¬S i):xL w' N s l:=by
 obtain⟨h1,h2⟩:=h;exact⟨h1,λh0=>by obtain⟨b,a1,a2,a3⟩:=h2 h0;exact⟨b,a1,a2,a3.kept hk (hS b a2)⟩⟩
theorem FB.gy {w:World} {base:Nat} {s:jg} {l:List Ins} (h:w.ownsRow base 77 4 s.v s.n (fV l)) (hl:0<l.length):FB w w.heap.size s l:=by
 have hn:s.n=l.length:=by
  have:=h.1;rw [je]at this
  omega
 obtain⟨g,c,e,hr,-,-⟩:=gu h aj ak;obtain⟨A,n,cc⟩:=s;simp only [jg.v,Value.slice.injEq]at e;exact⟨hn,g,e.1,hr.lt,hr⟩
theorem xL.gy {w:World} {base:Nat} {s:jg} {l:List Int} (h:w.ownsRow base 21 1 s.v s.n (aM l)):xL w w.heap.size s l:=by
 have hn:s.n=l.length:=by
  have:=h.1;rw [dQ]at this
  omega
 refine⟨hn,λh0=>?_⟩;obtain⟨g,c,e,hr,-,-⟩:=gu h h0 ak;obtain⟨A,n,cc⟩:=s;simp only [jg.v,Value.slice.injEq]at e;exact⟨g,e.1,hr.lt,hr⟩
theorem FB.mono {w:World} {N N':Nat} {s:jg} {l:List Ins} (h:FB w N s l) (hN:N<=N'):FB w N' s l:=by
 obtain⟨h1,b,h2,h3,h4⟩:=h;exact⟨h1,b,h2,by omega,h4⟩
theorem xL.mono {w:World} {N N':Nat} {s:jg} {l:List Int} (h:xL w N s l) (hN:N<=N'):xL w N' s l:=by
 obtain⟨h1,h2⟩:=h;exact⟨h1,λh0=>by obtain⟨b,a1,a2,a3⟩:=h2 h0;exact⟨b,a1,by omega,a3⟩⟩
theorem tL.up {w:World} {N N':Nat} {A:Option Addr} {n:Nat} {l:List Vr} (h:tL w N A n l) (hN:N<=N'):tL w N' A n l:=by
 obtain⟨h1,h2,h3,b,off,h4,h5⟩:=h;exact⟨h1,h2,h3,b,off,h4,λh0=>⟨by have:=(h5 h0).1;omega,(h5 h0).2⟩⟩
structure jZ (w:World) (N cb:Nat) (k:Cd) (p:Pr):Prop where
 lt:cb<N
 le:N<=w.heap.size
 box:aH w cb 90 k.c
 kc:k.cells=cells p.vars
 ks:k.seats=p.seats
 first:xL w N k.first (firsts p.vars)
 params:tL w N k.params.A k.params.n p.params
 ins:∀i,i<5->FB w N (k.i i) (dM p i)
 most:∀i,i<5->k.m i=bB p i
theorem jZ.kept {S:Nat->Prop} {w w':World} {N cb:Nat} {k:Cd} {p:Pr} (h:jZ w N cb k p) (hk:Kept S w w') (hS:∀i,i<N->¬S i):jZ w' N cb k p:=
 ⟨h.lt,Nat.le_trans h.le hk.size,bK h.box hk (hS cb h.lt),h.kc,h.ks,h.first.kept hk hS,h.params.kept hk (λi hi=>Nat.le_of_not_lt (λq=>hS i q hi)),λi hi=>(h.ins i hi).kept hk hS,h.most⟩
theorem jZ.ext {w w':World} {N cb:Nat} {k:Cd} {p:Pr} (h:jZ w N cb k p) (hk:Ext w w'):jZ w' N cb k p:=h.kept hk (λ_ _ f=>f)
theorem jZ.up {w:World} {N N' cb:Nat} {k:Cd} {p:Pr} (h:jZ w N cb k p) (hN:N<=N') (hw:N'<=w.heap.size):jZ w N' cb k p:=
 ⟨by have:=h.lt;omega,hw,h.box,h.kc,h.ks,h.first.mono hN,tL.up h.params hN,λi hi=>(h.ins i hi).mono hN,h.most⟩
def rT (p:Pr):Prop:=∃i,i<5/\256<(partOf p i).size
inductive xD (p:Pr) (w':World):Ending->Prop
 |bad (f:oW) (h:check p=some f):xD p w' (.returned (.tuple #[.pointer none,.int .i64 f.e]))
 |long (h:check p=none) (hl:rT p):xD p w' (.returned (.tuple #[.pointer none,.int .i64 5]))
 |steps (h:check p=none) (hl:¬rT p) (hs:∃i,i<5/\65536<bB p i):xD p w' (.returned (.tuple #[.pointer none,.int .i64 12]))
 |ok (h:check p=none) (hl:¬rT p) (hs:∀i,i<5->bB p i<=65536) (cb:Nat) (k:Cd) (hc:jZ w' w'.heap.size cb k p):xD p w' (.returned (.tuple #[.pointer (some ⟨cb,0,none⟩),.int .i64 0]))
end Go.Proofs.YtbfbabbcdochjaaGreatDoor
