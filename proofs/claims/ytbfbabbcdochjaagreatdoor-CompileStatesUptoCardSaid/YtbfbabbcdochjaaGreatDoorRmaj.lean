/- Several texts joined: Qzf, Qzg, Qzh, Qzi, Qzj, Qzk. -/
import Derived.Test.YtbfbabbcdochjaaGreatDoorRmpk
import Derived.Test.YtbfbabbcdochjaaGreatDoorRmai
set_option maxHeartbeats 4000000
set_option maxRecDepth 100000
open Go.Proofs.Tryz
namespace Go.Proofs.YtbfbabbcdochjaaGreatDoor
open Go.RowKit So
theorem XL {w:World} {b off:Nat} {l:List Int} (h:Row w b off (l.map (Value.int .i64))) (j:Nat) (hj:j<l.length):w.cell? ⟨b,off+j,none⟩=some (.int .i64 l[j]):=by
 rw [h.cell j (by simpa using hj)];simp [hj]
theorem Xy (ck:Value) (c:Pc) (p:Pr) (N:Nat) (w:World) (_hN:N<=w.heap.size) (h:lT w N c p) (hL:fG w):Calls prog 72 #[ck,.agg c.cells] w λe w'=>dN (nI p) e/\Ext w w':=by
 obtain⟨X,hX⟩:∃X,X=nI p:=⟨_,rfl⟩;rw [<-hX];have eU:Hid (X=ay (must (isName p.name) 6 p.name) (ay (must (jq p.seats 2 8) 2 wW) (ay (must ((p.bY.length:Int)==p.seats) 3 iH) (must (p.bY.all (λn=>jq n 1 2147483647)) 2 iH)))):=J (by rw [hX];rfl);clear hX;have hx1:=(kR (λ_=>False) w).alloc (.cells c.cells 57);have hE1:=bN w 57 c.cells;obtain⟨hsl,hsf,hso,sb,so,hsA,hsR⟩:=h.bY;have hsm:=hsf.max aj;have HSL:=J hsl;have Fa:=J hsA;have Wu:=J hsR;have ZO:=J (And.intro h.name h.D7);have HST:=J h.seats;clear hsl hsf hso hsA hsR h;go_enter func72,ntmps72;go_upto_region 1 with(fail);generalize hW:(w.alloc (.cells c.cells 57))=W at hx1 hE1⊢;generalize w.heap.size=eb at hE1⊢;clear hW;have hE0:=J hE1;have HX0:=J hx1;have pI:=J (hL.ext hx1);clear hE1 hx1 hL;refine gM (λw1=>Ext W w1) [(0,2),(1,1),(3,2),(4,1),(2,0),(5,0)] ?_;refine gN ?_;refine ET ?_;intro bU;refine yT ?_
 (refine aC (λK hK=>?_);go_simp)
 rw [ZO.out.1];refine(mY p.name ZO.out.2 _ (pI.out.ext bU.out)).mono ?_;refine Vy ?_;intro w1 dX;clear hK K
 (repeat first|refine cu ?_|refine dL dX.out afa ?_|refine dK dX.out ?_)
 (refine eu bT bT (λK hK=>?_);go_simp)
 have HX:=J (HX0.out.trans dX.out)
 cases hn:isName p.name
 ·have HR:=J (show X=some ⟨6,p.name⟩by rw [eU.out,hn];rfl)
  exact B_
 ·have iZ:=J (show X=ay (must (jq p.seats 2 8) 2 wW) (ay (must ((p.bY.length:Int)==p.seats) 3 iH) (must (p.bY.all (λn=>jq n 1 2147483647)) 2 iH))by rw [eU.out,hn];rfl)
  clear eU hn;refine(bq true _ _ _).mono ?_;rintro e w1 ⟨he,rfl⟩;have he:=dN.none he;subst he;refine hK.out _ _ ?_;clear hK K;refine gI ?_;have Av:=bC (bX hE0.out dX.out);have DV:=(bX hE0.out dX.out).lt;go_wp2_with fail;rw [HST.out];refine(mP _ _ _ _).mono ?_;rintro e w2 ⟨rfl,rfl⟩
  cases hb:jq p.seats 2 8
  ·have HR:=J (show X=some ⟨2,wW⟩by rw [iZ.out,hb];rfl)
   go_wp2_with fail;exact B_
  ·have fZ:=J (show X=ay (must ((c.bY.n:Int)==c.seats) 3 iH) (must (p.bY.all (λn=>jq n 1 2147483647)) 2 iH)by rw [iZ.out,hb,HSL.out,HST.out];rfl)
   clear iZ hb;go_wp2_with fail;refine(bq true _ _ _).mono ?_;rintro e w2 ⟨he,rfl⟩;have he:=dN.none he;subst he;go_wp2_with fail
   cases hq:((c.bY.n:Int)==c.seats)
   ·have HR:=J (show X=some ⟨3,iH⟩by rw [fZ.out,hq];rfl)
    exact B_
   ·obtain⟨A0,hA0⟩:∃A0,A0=p.bY.all (λn=>jq n 1 2147483647):=⟨_,rfl⟩
    have kg:=J (show X=must A0 2 iH by rw [fZ.out,hq,hA0];rfl);have HA0:=J hA0;clear fZ hA0;refine(bq true _ _ _).mono ?_;rintro e w2 ⟨he,rfl⟩;have he:=dN.none he;subst he;clear hq;go_wp2_with fail
    go_loopw [26] (λt26 wr=>∃(j:Nat),j<=c.bY.n/\t26=.int .i64 j/\(p.bY.drop j).all (λn=>jq n 1 2147483647)=A0/\Ext w wr) (λt26 _=>c.bY.n - (intOf t26).toNat)
    case atStart=>exact⟨0,Nat.zero_le _,rfl,HA0.out.symm,HX.out⟩
    case round=>
     obtain⟨j,hj,rfl,hacc,hx⟩:=hrel;have dw:=J hacc;have HX:=J hx;clear hacc hx Av DV
     by_cases hlt:j<c.bY.n
     ·have hjl:j<p.bY.length:=by have:=HSL.out;omega
      have jd:(j:Int)<c.bY.n:=by omega
      have hsA:=Fa.out aj;have hrow:=(Wu.out aj).2.kept HX.out (λf=>f);have hc:=XL hrow j hjl;have hbw:=hrow.lt;obtain⟨x,hxe⟩:∃x,x=p.bY[j]:=⟨_,rfl⟩;rw [<-hxe]at hc
      have yV:=J (show(jq x 1 2147483647&&(p.bY.drop (j+1)).all (λn=>jq n 1 2147483647))=A0 by
       rw [<-dw.out,List.drop_eq_getElem_cons hjl,List.all_cons,hxe])
      clear hrow hxe;go_wp2_with fail;refine(mP _ _ _ _).mono ?_;rintro e w2 ⟨rfl,rfl⟩
      cases hb:jq x 1 2147483647
      ·have HR:=J (show X=some ⟨2,iH⟩by rw [kg.out,<-yV.out,hb];rfl)
       go_wp2_with fail;exact B_
      ·have yV:=J (show(p.bY.drop (j+1)).all (λn=>jq n 1 2147483647)=A0 by rw [<-yV.out,hb];rfl)
       clear hb hc;go_wp2_with fail;refine(bq true _ _ _).mono ?_;rintro e w2 ⟨he,rfl⟩;have he:=dN.none he;subst he;go_wp2_with fail;go_roundw
       case rel=>
        rw [hsA];exact⟨_,_,_,_,_,_,_,_,_,⟨j+1,hlt,by go_num,yV.out,HX.out⟩,rfl⟩
       case measure=>simp [intOf];omega
     ·obtain rfl:j=c.bY.n:=by omega
      go_wp2_with fail;go_end0;rw [kg.out,<-dw.out,HSL.out,List.drop_length];exact⟨rfl,HX.out⟩
open Go.RowKit So
theorem Oo (p:Addr) (w:World):
 CallsD prog 71 #[.pointer (some p)] .returning w λe u' w'=>e=.returned (.tuple #[])/\u'=.returning/\Ext w w':=by
 refine callsD_of_wpS func71 rfl λc₀ cs hu=>?_;apply wpS_seq;apply wpS_region;simp [wpOpsS,go_sem,recoverD,hu,ntmps71,Exit.thenS];refine wpS_of_wp ?_;go_wp2_with fail
 cases c₀
 simp_all [bodyPostS,results,results71]
 exact kR _ _
theorem BJ (rb:Nat) (f:oW) (w:World) (hb:aH w rb 104 #[.int .i64 0,.string ⟨#[]⟩]):
 CallsD prog 71 #[.pointer (some ⟨rb,0,none⟩)] (.panicking (U9 f)) w λe u' w'=>
  e=.returned (.tuple #[])/\settle u'=.returning/\aH w' rb 104 #[.int .i64 f.e,.string f.name]/\Kept (·=rb) w w':=by
 refine callsD_of_wpS func71 rfl λc₀ cs hu=>?_;unfold U9 at hu;apply wpS_seq;apply wpS_region;simp [wpOpsS,go_sem,recoverD,hu,ntmps71,Exit.thenS];refine wpS_of_wp ?_;obtain⟨v,hv⟩:∃v,v=(Value.iface 104 (.agg #[.int .i64 f.e,.string f.name])):=⟨_,rfl⟩;rw [<-hv];have e1:(#[Value.pointer (some ⟨rb,0,none⟩)]++((Array.replicate 15 undef).setIfInBounds 3 v).setIfInBounds 0 v)=#[Value.pointer (some ⟨rb,0,none⟩),v,undef,undef,v,undef,undef,undef,undef,undef,undef,undef,undef,undef,undef,undef]:=rfl;rw [e1,hv];clear e1 hv v;have hcb:=bC hb;have hlb:=hb.lt;have hta:∀(v:Value) (w:World),(Instr.typeAssert (.iface 104 v) 20 104 true).run prog w=.ok (.tuple #[v,.bool true]) w:=λv w=>by rfl
 have hzb:=aH.frozen hb;go_wp2_with fail
 have HB:=J (show aH (((w.setCell ⟨rb,0,none⟩ (.int .i64 f.e)).setCell ⟨rb,1,none⟩ (.string f.name)).alloc (.cells #[.int .i64 f.e,.string f.name] 104)) rb 104 #[.int .i64 f.e,.string f.name]/\Kept (·=rb) w (((w.setCell ⟨rb,0,none⟩ (.int .i64 f.e)).setCell ⟨rb,1,none⟩ (.string f.name)).alloc (.cells #[.int .i64 f.e,.string f.name] 104))from
  ⟨((hb.gW 0 (.int .i64 f.e)).gW 1 (.string f.name)).alloc _,(((kR (·=rb) w).setCell ⟨rb,0,none⟩ _ (λ_=>rfl)).setCell ⟨rb,1,none⟩ _ (λ_=>rfl)).alloc _⟩)
 generalize (((w.setCell ⟨rb,0,none⟩ (.int .i64 f.e)).setCell ⟨rb,1,none⟩ (.string f.name)).alloc (.cells #[.int .i64 f.e,.string f.name] 104))=W2 at HB⊢;clear hzb hcb hta
 cases c₀
 simp [bodyPostS,results,results71,settle]at hu⊢;exact HB.out
open Go.RowKit So
theorem yN (x:Int):IntKind.u64.wrap x=x%18446744073709551616:=by simp [IntKind.wrap_u64]
theorem Sk (a b:Int) (ha:aL a) (hb:aL b) (h:b<=a):IntKind.u64.wrap (IntKind.u64.wrap a - IntKind.u64.wrap b)=a - b:=by
 rw [yN,yN,yN];unfold aL at ha hb
 omega
theorem Um (acc:Nat) (d:Int) (h:acc<=513) (hd:0<=d):min (IntKind.u64.wrap ((acc:Int)*IntKind.u64.wrap (min d 512+1))) 513=min ((acc:Int)*(min d 512+1)) 513:=by
 have h1:0<=min d 512+1:=by omega
 have h2:min d 512+1<=513:=by omega
 obtain⟨k,hk⟩:∃k:Nat,(k:Int)=min d 512+1:=⟨(min d 512+1).toNat,by omega⟩;rw [<-hk]at h1 h2⊢;have h3:acc*k<=513*513:=Nat.mul_le_mul h aj;have h4:((acc*k:Nat):Int)=(acc:Int)*k:=by push_cast;rfl
 have h5:IntKind.u64.wrap (k:Int)=k:=by rw [yN];omega
 rw [h5,<-h4,yN]
 congr 1
 omega
theorem U2 (c:Pc) (p:Pr) (N:Nat) (w:World) (_hN:N<=w.heap.size) (h:lT w N c p):Calls prog 123 #[.agg c.cells] w λe w'=>e=.returned (.int .i64 (menu p.params))/\Ext w w':=by
 obtain⟨X,hX⟩:∃X,X=menu p.params:=⟨_,rfl⟩;rw [<-hX];have JU:=J hX;clear hX;obtain⟨cn,cse,cst,cv,cs,ct,⟨A,n,cc⟩,jG,ny,cq,pK⟩:=c;have hx0:=(kR (λ_=>False) w).alloc (.cells (Pc.cells ⟨cn,cse,cst,cv,cs,ct,⟨A,n,cc⟩,jG,ny,cq,pK⟩) 57);have hB0:=J (bN w 57 (Pc.cells ⟨cn,cse,cst,cv,cs,ct,⟨A,n,cc⟩,jG,ny,cq,pK⟩));obtain⟨hn,hf,hok,b,off,hA,hE⟩:=h.params.ext hx0;refine Ab ?_;intro hm HN HA HE;have HX0:=J hx0;have nV:=J hok;clear hn hA hE hok hf h;go_enter func123,ntmps123;go_wp2_with fail
 go_loopw [12] (λt12 wr=>∃(j:Nat),j<=n/\t12=.int .i64 j/\(p.params.take j).any (λv=>decide (v.high<v.low))=false/\Ext (w.alloc (.cells (Pc.cells ⟨cn,cse,cst,cv,cs,ct,⟨A,n,cc⟩,jG,ny,cq,pK⟩) 57)) wr) (λt12 _=>n - (intOf t12).toNat)
 case atStart=>exact⟨0,Nat.zero_le _,rfl,rfl,kR _ _⟩
 case round=>
  obtain⟨j,hj,rfl,hacc,hx⟩:=hrel;have HX:=J hx;have dw:=J hacc;clear hx hacc
  by_cases hlt:j<n
  ·have hjl:j<p.params.length:=by have:=HN.out;omega
   have jd:(j:Int)<n:=by omega
   obtain rfl:=HA.out aj;refine M9 ?_;intro hrow hh' hg' hbw;obtain⟨x,hxe⟩:∃x,x=p.params[j]:=⟨_,rfl⟩;rw [<-hxe]at hg';have jo:=J hxe;clear hrow hxe;have y0:=J (show Ext wr _ from(kR (λ_=>False) wr).alloc (.cells (aJ x) 109));exact ajc
  ·obtain rfl:j=n:=by omega
   have hany:p.params.any (λv=>decide (v.high<v.low))=false:=by
    have h:=dw.out
    rwa [HN.out,List.take_length]at h
   have HM:=J (show yE 1 p.params=X by rw [JU.out];unfold menu;rw [hany];rfl);have xq:=J hany;clear hany;have hcB:=bC (bX hB0.out HX.out);have hlB:=(bX hB0.out HX.out).lt;go_wp2_with fail
   go_loopw [5,25] (λt5 t25 wq=>∃(m:Nat) (acc:Nat),m<=j/\acc<=513/\t25=.int .i64 m/\t5=.int .u64 acc/\yE acc (p.params.drop m)=X/\Ext wr wq) (λ_ t25 _=>j - (intOf t25).toNat)
   case atStart=>exact⟨0,1,Nat.zero_le _,by omega,rfl,rfl,HM.out,kR _ _⟩
   case round=>
    obtain⟨m,acc,hmj,Ru,rfl,rfl,oN,hy⟩:=hrel;have HY:=J hy;have HMF:=J oN;clear hy oN hcB hlB
    by_cases hlt2:m<j
    ·have hjl:m<p.params.length:=by have:=HN.out;omega
     have jd:(m:Int)<j:=by omega
     obtain rfl:=HA.out aj;have hrow:=(HE.out aj).2.ext (HX.out.trans HY.out);obtain⟨hh',hg'⟩:=mZ hrow m hjl;have hbw:=hrow.lt;obtain⟨x,hxe⟩:∃x,x=p.params[m]:=⟨_,rfl⟩;rw [<-hxe]at hg';have jo:=J hxe;clear hrow hxe;obtain⟨xn,xs,xl,xh⟩:=x;go_wp2_with fail;have hvm:(⟨xn,xs,xl,xh⟩:Vr)∈p.params:=by rw [jo.out];exact List.getElem_mem hjl
     have qH:=nV.out _ hvm
     have hge:xl<=xh:=by
      refine Int.not_lt.1 λh=>?_;have:=List.any_eq_false.1 xq.out _ hvm;exact this (decide_eq_true h)
     have hne:p.params.drop m=⟨xn,xs,xl,xh⟩::p.params.drop (m+1):=by rw [jo.out];exact List.drop_eq_getElem_cons hjl
     have hsub:=Sk xh xl aiy (by have:=qH;first|exact qH.low|exact qH.2.2.1|exact qH.2.1) hge;rw [hsub,Um acc (xh - xl) Ru aj]
     obtain⟨k,hk⟩:∃k:Nat,(k:Int)=min ((acc:Int)*(min (xh - xl) 512+1)) 513:=by
      have:0<=(acc:Int)*(min (xh - xl) 512+1):=Int.mul_nonneg aj aj;exact⟨(min ((acc:Int)*(min (xh - xl) 512+1)) 513).toNat,by omega⟩
     have TQ:=HMF.out;rw [hne]at TQ;exact⟨⟨m+1,k,hlt2,by omega,by go_num,by rw [hk],by rw [hk];exact TQ,HY.out.trans ((kR (λ_=>False) _).alloc _)⟩,by simp only [intOf];omega⟩
    ·obtain rfl:m=j:=by omega
     go_wp2_with fail;go_ret;refine⟨b_ ?_,HX0.out.trans (HX.out.trans HY.out)⟩;rw [<-HMF.out,HN.out,List.drop_length];simp [yE]
open Go.RowKit So
abbrev WI (w0:World) (F:SF):Prop:=∀(A:Option Addr) (n c N:Nat) (w:World),Ext w0 w->N<=w0.heap.size->iO w0 N A n F->Calls prog 55 #[.slice A n c] w λe w'=>e=.returned (.bool (ends F))/\Ext w w'
theorem UE (w0:World) (F:SF):WI w0 F:=by
 refine sj (C:=WI w0) ?_ F;clear F;intro F IH A n c N w hx0 hN h;obtain⟨Z,hZ⟩:∃Z,Z=ends F:=⟨_,rfl⟩;rw [<-hZ];have HZ:=J hZ.symm;clear hZ;refine Bp ?_;clear h IH;intro b off hm HN HA HE HI;go_enter func55,ntmps55;go_wp2_with fail
 go_loopw [3] (λt7 wr=>∃(j:Nat) (R:SF),j+R.len=n/\ends R=Z/\t7=.int .i64 j/\nk w0 N R b (off+j*7)/\SF.All (WI w0) R/\Ext w wr) (λt7 _=>n - (intOf t7).toNat)
 case atStart=>exact⟨0,F,by rw [HN.out,Nat.zero_add],HZ.out,rfl,by simpa using HE.out,HI.out,kR _ _⟩
 case round=>
  obtain⟨j,R,hj,hacc,rfl,hR,hI,hx⟩:=hrel;have HR:=J hR;have HI2:=J hI;have HX:=J hx;have dw:=J hacc;clear hR hI hx hacc
  cases R with
  |nil=>
   simp only [SF.len,Nat.add_zero]at hj;subst hj;go_wp2_with fail;go_ret;exact⟨by rw [<-dw.out];rfl,HX.out⟩
  |cons kind name es low high l x r=>
   obtain⟨hb,h1,h2,h3,h4,⟨eA,ec,lA,lc,xA,xc,be,oe,bl,ol,bx,ox,hh,hg,n1,n2,n3,a1,a2,a3,he,hl,Az⟩,hr⟩:=HR.out;simp only [SF.len]at hj;have hlt:(j:Int)<n:=by omega
   obtain rfl:=HA.out aj;have jN:=hx0.trans HX.out;refine FY ?_;intro hbl hh' hg' hbw;refine Vs ?_;intro KL KX;have HR2:=J hr;have y0:=(kR (λ_=>False) wr).alloc (.cells (aB kind name eA es.len ec low high lA l.len lc xA x.len xc) 86);have HB:=J (bN wr 86 (aB kind name eA es.len ec low high lA l.len lc xA x.len xc));exact aiM
open Go.RowKit So
theorem UK (c:Pc) (p:Pr) (N:Nat) (w:World) (_hN:N<=w.heap.size) (h:lT w N c p):Calls prog 93 #[.agg c.cells] w λe w'=>e=.returned (.int .i64 (menu p.params))/\Ext w w':=by
 obtain⟨X,hX⟩:∃X,X=menu p.params:=⟨_,rfl⟩;rw [<-hX];have JU:=J hX;clear hX;obtain⟨cn,cse,cst,cv,cs,ct,⟨A,n,cc⟩,jG,ny,cq,pK⟩:=c;have hx0:=(kR (λ_=>False) w).alloc (.cells (Pc.cells ⟨cn,cse,cst,cv,cs,ct,⟨A,n,cc⟩,jG,ny,cq,pK⟩) 26);have hB0:=J (bN w 26 (Pc.cells ⟨cn,cse,cst,cv,cs,ct,⟨A,n,cc⟩,jG,ny,cq,pK⟩));obtain⟨hn,hf,hok,b,off,hA,hE⟩:=h.params.ext hx0;refine Ab ?_;intro hm HN HA HE;have HX0:=J hx0;have nV:=J hok;clear hn hA hE hok hf h hx0;go_enter func93,ntmps93;go_upto_region 1 with(fail);generalize hW:(w.alloc (.cells (Pc.cells ⟨cn,cse,cst,cv,cs,ct,⟨A,n,cc⟩,jG,ny,cq,pK⟩) 26))=W at hB0 HE HX0⊢;clear hW;generalize w.heap.size=pb at hB0⊢;go_wp2_with fail
 go_loopw [4] (λt12 wr=>∃(j:Nat),j<=n/\t12=.int .i64 j/\(p.params.take j).any (λv=>decide (v.high<v.low))=false/\Ext W wr) (λt12 _=>n - (intOf t12).toNat)
 case atStart=>exact⟨0,Nat.zero_le _,rfl,rfl,kR _ _⟩
 case round=>
  obtain⟨j,hj,rfl,hacc,hx⟩:=hrel;have HX:=J hx;have dw:=J hacc;clear hx hacc;have hcB:=bC (bX hB0.out HX.out);have hlB:=(bX hB0.out HX.out).lt
  by_cases hlt:j<n
  ·have hjl:j<p.params.length:=by have:=HN.out;omega
   have jd:(j:Int)<n:=by omega
   obtain rfl:=HA.out aj;refine M9 ?_;intro hrow hh' hg' hbw;obtain⟨x,hxe⟩:∃x,x=p.params[j]:=⟨_,rfl⟩;rw [<-hxe]at hg';have jo:=J hxe;clear hrow hxe;have y0:=J (show Ext wr _ from(kR (λ_=>False) wr).alloc (.cells (aJ x) 66));exact ajc
  ·obtain rfl:j=n:=by omega
   have hany:p.params.any (λv=>decide (v.high<v.low))=false:=by
    have h:=dw.out
    rwa [HN.out,List.take_length]at h
   have HM:=J (show yE 1 p.params=X by rw [JU.out];unfold menu;rw [hany];rfl);have xq:=J hany;clear hany;go_wp2_with fail
   go_loopw [3,6] (λt5 t25 wq=>∃(m:Nat) (acc:Nat),m<=j/\(1<=acc/\acc<=513)/\t25=.int .i64 m/\t5=.int .i64 acc/\yE acc (p.params.drop m)=X/\Ext wr wq) (λ_ t25 _=>j - (intOf t25).toNat)
   case atStart=>exact⟨0,1,Nat.zero_le _,by omega,rfl,rfl,HM.out,kR _ _⟩
   case round=>
    obtain⟨m,acc,hmj,Ru,rfl,rfl,oN,hy⟩:=hrel;have HY:=J hy;have HMF:=J oN;clear hy oN hcB hlB;have hcB:=bC (bX hB0.out (HX.out.trans HY.out));have hlB:=(bX hB0.out (HX.out.trans HY.out)).lt
    by_cases hlt2:m<j
    ·have hjl:m<p.params.length:=by have:=HN.out;omega
     have jd:(m:Int)<j:=by omega
     obtain rfl:=HA.out aj;have hrow:=(HE.out aj).2.ext (HX.out.trans HY.out);obtain⟨hh',hg'⟩:=mZ hrow m hjl;have hbw:=hrow.lt;obtain⟨x,hxe⟩:∃x,x=p.params[m]:=⟨_,rfl⟩;rw [<-hxe]at hg';have jo:=J hxe;clear hrow hxe;obtain⟨xn,xs,xl,xh⟩:=x;have hvm:(⟨xn,xs,xl,xh⟩:Vr)∈p.params:=by rw [jo.out];exact List.getElem_mem hjl
     have qH:=nV.out _ hvm
     have hge:xl<=xh:=by
      refine Int.not_lt.1 λh=>?_;have:=List.any_eq_false.1 xq.out _ hvm;exact this (decide_eq_true h)
     have hne:p.params.drop m=⟨xn,xs,xl,xh⟩::p.params.drop (m+1):=by rw [jo.out];exact List.drop_eq_getElem_cons hjl
     have agb:=J (Sk xh xl aiy (by have:=qH;first|exact qH.low|exact qH.2.2.1|exact qH.2.1) hge);have TQ:=HMF.out;rw [hne]at TQ;have iF:=J (show yE (min ((acc:Int)*(min (xh - xl) 512+1)) 513) (p.params.drop (m+1))=X from TQ);have VK:=J hge;clear TQ hne qH hvm hge;go_wp2_with fail
     ·rename_i h6
      rw [agb.out]at h6;have hm2:=iF.out;rw [show min (xh - xl) 512=512 by omega,show min ((acc:Int)*(512+1)) 513=((513:Nat):Int)by omega]at hm2;exact⟨⟨m+1,513,hlt2,⟨by omega,by omega⟩,by go_num,rfl,hm2,HY.out.trans ((kR (λ_=>False) _).alloc _)⟩,by simp only [intOf];omega⟩
     ·rename_i h6
      rw [agb.out]at h6;have hge:=VK.out;have hw:∀x:Int,-9223372036854775808<=x->x<=9223372036854775807->wrap64 x=x:=λx a b=>by unfold wrap64;omega
      obtain⟨d,hd⟩:∃d:Nat,(d:Int)=xh - xl:=⟨(xh - xl).toNat,by omega⟩;have hm2:=iF.out;rw [<-hd]at h6 hm2⊢;have h3:acc*(d+1)<=513*601:=Nat.mul_le_mul Ru.2 aj;have h4:((acc*(d+1):Nat):Int)=(acc:Int)*((d:Int)+1):=by push_cast;rfl
      have h7:1*(d+1)<=acc*(d+1):=Nat.mul_le_mul_right _ Ru.1
      have h8:min ((acc:Int)*(min (d:Int) 512+1)) 513=((min (acc*(d+1)) 513:Nat):Int):=by
       by_cases h9:d<=512
       ·rw [show min (d:Int) 512=d by omega,<-h4];omega
       ·rw [show min (d:Int) 512=512 by omega];omega
      rw [h8]at hm2;rw [hw d aj aj,hw ((d:Int)+1) aj aj,<-h4,hw _ aj aj];exact⟨⟨m+1,min (acc*(d+1)) 513,hlt2,⟨by omega,by omega⟩,by go_num,by congr 1;omega,hm2,HY.out.trans ((kR (λ_=>False) _).alloc _)⟩,by simp only [intOf];omega⟩
    ·obtain rfl:m=j:=by omega
     go_wp2_with fail;go_ret;refine⟨b_ ?_,HX0.out.trans (HX.out.trans HY.out)⟩;rw [<-HMF.out,HN.out,List.drop_length];simp [yE]
open Go.RowKit So
theorem XR (l:List Vr) (s:Str) (h:fB l s=0):l.find? (λv=>decide (v.name=s))=none:=by
 unfold fB at h
 cases hf:l.find? (λv=>decide (v.name=s))with
 |none=>rfl
 |some v=>rw [hf]at h;simp only at h;split at h<;>omega
theorem XT (l:List Vr) (v:Vr) (h:fB l v.name=0):∀t,(λt=>if t=v.name then some (Value.int .i64 (if 0<v.size then 1 else 0))else IB (fB l) t) t=IB (fB (l++[v])) t:=by
 intro t;have hf:=XR l v.name h
 by_cases e:t=v.name
 ·subst e
  have:fB (l++[v]) v.name=if 0<v.size then 2 else 1:=by
   unfold fB;rw [List.find?_append,hf];simp
  simp only [if_true];unfold IB;rw [this]
  split<;>simp
 ·have e2:¬v.name=t:=λq=>e q.symm
  have:fB (l++[v]) t=fB l t:=by
   unfold fB;rw [List.find?_append];simp [e2]
  simp only [if_neg e];unfold IB;rw [this]
theorem YI (cb g:Nat) (c:Pc) (p:Pr) (N:Nat) (FK:4<N) (K_:N<=g) (hNc:N<=cb) (w:World) (hN:N<=w.heap.size) (h:lT w N c p) (hL:fG w) (hC:Ck w cb g (λ_=>0) E0 0):
 Calls prog 73 #[.pointer (some ⟨cb,0,none⟩),.agg c.cells] w λe w'=>V6 cb g (fB p.vars) E0 0 (ay (fJ [] p.vars) (must (decide (cells p.vars<=64)) 8 tC)) e w'/\Kept (SG cb g) w w':=by
 obtain⟨X,hX⟩:∃X,X=ay (fJ [] p.vars) (must (decide (cells p.vars<=64)) 8 tC):=⟨_,rfl⟩;rw [<-hX];have HX:=J hX.symm;clear hX;have NU:=J (show∀j,SG cb g j->N<=j from λj h=>by rcases h with h|h<;>omega);have hcl:=hC.map.lt;have hc2:=hC.lt;obtain⟨cn,cse,cst,⟨A,n,cc⟩,cs,ct,uf,jG,ny,cq,pK⟩:=c;have hx0:=(kR (λ_=>False) w).alloc (.cells (Pc.cells ⟨cn,cse,cst,⟨A,n,cc⟩,cs,ct,uf,jG,ny,cq,pK⟩) 57);have hB0:=bN w 57 (Pc.cells ⟨cn,cse,cst,⟨A,n,cc⟩,cs,ct,uf,jG,ny,cq,pK⟩);have iY:=J (h.ext hx0 hN);have dR:=J (Nat.le_trans hN hx0.size);obtain⟨hn,hf,hok,b,off,hA,hE⟩:=h.vars.ext hx0;refine Ab ?_;intro hm HN HA HE;have nV:=J hok;have pI:=J (hL.ext hx0);have vJ:=J (hC.ext hx0);have lN:=J (show¬SG cb g w.heap.size by rintro(h|h)<;>omega);clear hn hA hE hok hf h hL hC hcl hc2;go_enter func73,ntmps73;go_upto_region 1 with(fail);generalize hW:(w.alloc (.cells (Pc.cells ⟨cn,cse,cst,⟨A,n,cc⟩,cs,ct,uf,jG,ny,cq,pK⟩) 57))=W at hx0 hB0 HE pI vJ iY dR⊢;clear hW;generalize w.heap.size=pb at hB0 lN⊢;have hB0:=J hB0;have HX0:=J hx0;have hcP:=bC hB0.out;have jh:=hB0.out.lt;clear hx0;go_wp2_with fail
 go_loopw [9] (λt9 wr=>∃(j:Nat),j<=n/\t9=.int .i64 j/\ay (fJ (p.vars.take j) (p.vars.drop j)) (must (decide (cells p.vars<=64)) 8 tC)=X/\Ck wr cb g (fB (p.vars.take j)) E0 0/\Kept (SG cb g) W wr) (λt9 _=>n - (intOf t9).toNat)
 case atStart=>exact⟨0,Nat.zero_le _,rfl,HX.out,⟨vJ.out.blk,vJ.out.map.qx (λt=>rfl)⟩,kR _ _⟩
 case round=>
  obtain⟨j,hj,rfl,hacc,hck,hx⟩:=hrel;have dw:=J hacc;have nE:=J hx;have Fu:=J hck;clear hacc hx hck hcP jh;have hcP:=bC (bK hB0.out nE.out lN.out);have jh:=(bK hB0.out nE.out lN.out).lt
  by_cases hlt:j<n
  ·have hjl:j<p.vars.length:=by have:=HN.out;omega
   have jd:(j:Int)<n:=by omega
   obtain rfl:=HA.out aj;have ow:=(HE.out aj);have hrow:=ow.2.kept nE.out (λq=>by have:=NU.out _ q;have:=ow.1;omega);obtain⟨hh',hg'⟩:=mZ hrow j hjl;have hbw:=hrow.lt;obtain⟨x,hxe⟩:∃x,x=p.vars[j]:=⟨_,rfl⟩;have Nz:=J (nV.out x abI);have hdrop:p.vars.drop j=x::p.vars.drop (j+1):=by rw [hxe];exact List.drop_eq_getElem_cons hjl
   have htake:p.vars.take (j+1)=p.vars.take j++[x]:=by rw [hxe,List.take_add_one,List.getElem?_eq_getElem hjl];rfl
   rw [<-hxe]at hg';have hacc:=dw.out;rw [hdrop]at hacc;have Dp:=J htake;obtain⟨Y,hY⟩:∃Y,Y=ay (fJ (p.vars.take j++[x]) (p.vars.drop (j+1))) (must (decide (cells p.vars<=64)) 8 tC):=⟨_,rfl⟩;obtain⟨κ,V_⟩:∃κ,κ=fB (p.vars.take j):=⟨_,rfl⟩;have HYE:=J hY;rw [<-V_]at Fu;have j_:=J V_;obtain⟨v,hv⟩:∃v,v=κ x.name:=⟨_,rfl⟩;have HV:=J hv
   have eU:Hid (X=ay (must (isName x.name) 6 x.name) (ay (must (v==0) 7 x.name) (ay (must (jq x.size 0 64&&span x) 2 x.name) Y))):=J (by
    rw [<-hacc,hY,hv,V_,fJ,dY,dY,dY])
   clear hrow ow hxe hacc hdrop htake hY V_ hv dw;have y0:=(kR (λ_=>False) wr).alloc (.cells (aJ x) 109);have Il:=bN wr 109 (aJ x);go_upto_region 4 with(fail);clear hh' hg' hbw hcP jh;have HZ:=J (nE.out.trans (Kept.ext y0));have HCZ:=J (Fu.out.ext y0)
   have HEB:=J (show¬SG cb g wr.heap.size by
    have h1:=Fu.out.map.lt;have h2:=Fu.out.lt;rintro(h|h)<;>omega)
   generalize hW1:(wr.alloc (.cells (aJ x) 109))=W1 at y0 Il HZ HCZ⊢;generalize wr.heap.size=eb at Il HEB⊢;have hV:=J Il;clear hW1 y0 Il nE Fu;have HLZ:=J (pI.out.kept HZ.out (λk hk h=>by have:=NU.out k h;omega));refine gM (λw1=>Ext W1 w1) [(0,2),(1,1),(3,2),(4,1),(2,0),(5,0)] ?_;refine gN ?_;have bU:=J (show Ext W1 W1.drew from(kR _ W1).drew)
   (repeat first|refine cu ?_|refine dL bU.out abH ?_|refine dK bU.out ?_)
   (refine aC (λK hK=>?_);go_simp)
   refine(mY x.name Nz.out.name _ (HLZ.out.ext bU.out)).mono ?_;refine Vy ?_;intro w1 dX;clear hK K
   (repeat first|refine cu ?_|refine dL dX.out abH ?_|refine dK dX.out ?_)
   (refine eu bT bT (λK hK=>?_);go_simp)
   have jo:=J ((Kept.ext (S:=SG cb g) HX0.out).trans (HZ.out.trans (Kept.ext dX.out)));have kK:=J (HCZ.out.ext dX.out)
   cases hn:isName x.name
   ·have HR:=J (show X=some ⟨6,x.name⟩by rw [eU.out,hn];rfl)
    exact ZE
   ·have iZ:=J (show X=ay (must (v==0) 7 x.name) (ay (must (jq x.size 0 64&&span x) 2 x.name) Y)by rw [eU.out,hn];rfl)
    clear eU hn;refine(bq true _ _ _).mono ?_;rintro e w8 ⟨he,rfl⟩;have he:=dN.none he;subst he;refine hK.out _ _ ?_;clear hK K;refine gI ?_;clear jo kK;go_upto_region 5 with(fail);refine gM (λw2=>Ext w1 w2) [(0,2),(1,2),(2,1),(5,2),(6,1),(3,0),(4,2),(7,0)] ?_;refine gN ?_;have HZ0:=J (show Ext w1 w1.drew from(kR _ w1).drew)
    (repeat first|refine cu ?_|refine dL HZ0.out air ?_|refine dK HZ0.out ?_)
    (refine aC (λK hK=>?_);go_simp)
    refine(mD cb g κ E0 0 x.name _ (HCZ.out.ext (dX.out.trans HZ0.out))).mono ?_;rintro e w2 ⟨rfl,rfl⟩;rw [<-HV.out];refine hK.out _ _ (λ_=>HZ0.out) ?_;clear hK K
    (repeat first|refine cu ?_|refine dL HZ0.out air ?_|refine dK HZ0.out ?_)
    (refine eu bT bT (λK hK=>?_);go_simp)
    have fH:=J (dX.out.trans HZ0.out);have jo:=J ((Kept.ext (S:=SG cb g) HX0.out).trans (HZ.out.trans (Kept.ext fH.out)));have kK:=J (HCZ.out.ext fH.out)
    by_cases hv0:v=0
    ·have qv:(v !=0)=false:=by simp [hv0]
     have fZ:=J (show X=ay (must (jq x.size 0 64&&span x) 2 x.name) Y by rw [iZ.out,hv0];rfl)
     try rw [qv]
     try simp only [Bool.not_false]
     refine(bq true _ _ _).mono ?_;rintro e w8 ⟨he,rfl⟩;have he:=dN.none he;subst he;refine hK.out _ _ ?_;clear hK K;refine gI ?_;clear jo kK iZ;have j4:=J (show fB (p.vars.take j) x.name=0 by rw [<-j_.out,<-HV.out,hv0]);clear qv hv0;go_upto_region 6 with(fail);generalize hW2:w1.drew=W2 at fH⊢;clear hW2
     cases hb:jq x.size 0 64
     ·have HR:=J (show X=some ⟨2,x.name⟩by rw [fZ.out,hb];rfl)
      refine gM (λw2=>Ext W2 w2) [(0,2),(1,1),(7,2),(8,1),(2,0),(3,2),(4,1),(5,0),(6,2),(9,0)] ?_;refine gN ?_;have tK:=J (show Ext W2 W2.drew from(kR _ W2).drew);refine MP ?_;refine QZ ?_;intro K hK;rintro e w2 ⟨rfl,rfl⟩;rw [hb];refine hK.out _ _ (λ_=>tK.out) ?_;clear hK K;refine MP ?_
      (refine aC (λK hK=>?_);go_simp)
      refine hK.out _ _ (λh=>h) ?_;clear hK K;refine MP ?_
      (refine eu bT bT (λK hK=>?_);go_simp)
      have jo:=J ((Kept.ext (S:=SG cb g) HX0.out).trans (HZ.out.trans (Kept.ext (fH.out.trans tK.out))));have kK:=J (HCZ.out.ext (fH.out.trans tK.out));exact ZE
     ·refine gM (λw2=>Ext W2 w2) [(0,2),(1,1),(7,2),(8,1),(2,0),(3,2),(4,1),(5,0),(6,2),(9,0)] ?_;refine gN ?_
      have tK:=J (show Ext W2 W2.drew from(kR _ W2).drew);refine MP ?_;refine QZ ?_;intro K hK;rintro e w2 ⟨rfl,rfl⟩;rw [hb];refine hK.out _ _ (λ_=>tK.out) ?_;clear hK K;refine MP ?_
      (refine aC (λK hK=>?_);go_simp)
      refine(Mr x _).mono ?_;rintro e w2 ⟨rfl,hx2⟩;have Ww:=J (tK.out.trans hx2);clear hx2;refine hK.out _ _ (λ_=>Ww.out) ?_;clear hK K
      (repeat first|refine cu ?_|refine dL Ww.out ail ?_|refine dK Ww.out ?_)
      (refine eu bT bT (λK hK=>?_);go_simp)
      have eX:=J (fH.out.trans Ww.out);have jo:=J ((Kept.ext (S:=SG cb g) HX0.out).trans (HZ.out.trans (Kept.ext eX.out)));have kK:=J (HCZ.out.ext eX.out)
      cases hsp:span x
      ·have HR:=J (show X=some ⟨2,x.name⟩by rw [fZ.out,hb,hsp];rfl)
       exact ZE
      ·have kg:=J (show X=Y by rw [fZ.out,hb,hsp];rfl)
       refine(bq true _ _ _).mono ?_;rintro e w8 ⟨he,rfl⟩;have he:=dN.none he;subst he;refine hK.out _ _ ?_;clear hK K;refine gI ?_;clear jo fZ hb hsp;go_upto_region 7 with(fail);have Ns:=kK;clear kK;obtain⟨w3,hrun,hS',hk'⟩:=SMap.put (P:=prog) (Ns.out.map.ext (show Ext w2 w2.drew from(kR _ w2).drew)) underlying143 underlying9 x.name (.int .i64 0);have HS':=J hS';have NP:=J ((Kept.ext (S:=(·=g)) (show Ext w2 w2.drew from(kR _ w2).drew)).trans hk');have nD:=J Ns.out.ne;have HEG:=J (show¬eb=g from λe=>HEB.out (Or.inl e));clear hS' hk';refine gM (λw4=>Kept (·=g) w2 w4) [(0,2),(1,2),(2,2),(3,1),(4,2),(5,1),(6,0)] ?_;refine gN ?_;have HT0:=J (show Kept (·=g) w2 w2.drew from(kR _ w2).drew)
       (repeat first|refine cu ?_|refine dL HT0.out (by intro w1 hS;have c4:=bK Ns.out.blk hS nD.out;have c5:=bC c4;have c6:=c4.lt;have d4:=bK (bX hV.out eX.out) hS HEG.out;have d5:=bC d4;have d6:=d4.lt;exact gX) ?_|refine dK HT0.out ?_)
       (refine aC (λK hK=>?_);go_simp)
       refine hK.out _ _ (λ_=>NP.out) ?_;clear hK K;refine gI ?_;clear hrun;have OI:=bC (bK (bX hV.out eX.out) NP.out HEG.out);have OL:=(bK (bX hV.out eX.out) NP.out HEG.out).lt;have HSN:=J (XT (p.vars.take j) x j4.out)
       by_cases hz:x.size>0
       ·go_upto_region 9 with(fail)
        clear OI OL;have HZS:=J hz;clear hz;obtain⟨w5,hrun,hS',hk'⟩:=SMap.put (P:=prog) (HS'.out.ext (show Ext w3 w3.drew from(kR _ w3).drew)) underlying143 underlying9 x.name (.int .i64 1);have HS2:=J hS';have sQ:=J ((Kept.ext (S:=(·=g)) (show Ext w3 w3.drew from(kR _ w3).drew)).trans hk');clear hS' hk';refine gM (λw4=>Kept (·=g) w3 w4) [(0,2),(1,2),(2,2),(3,1),(4,2),(5,1),(6,0)] ?_;refine gN ?_;have HT0:=J (show Kept (·=g) w3 w3.drew from(kR _ w3).drew)
        (repeat first|refine cu ?_|refine dL HT0.out (by intro w1 hS;have c4:=bK Ns.out.blk (NP.out.trans hS) nD.out;have c5:=bC c4;have c6:=c4.lt;have d4:=bK (bX hV.out eX.out) (NP.out.trans hS) HEG.out;have d5:=bC d4;have d6:=d4.lt;exact gX) ?_|refine dK HT0.out ?_)
        (refine aC (λK hK=>?_);go_simp)
        refine hK.out _ _ (λ_=>sQ.out) ?_;clear hK K;refine gI ?_;clear hrun;go_wp2_with fail
        exact⟨⟨j+1,hlt,by go_num,by rw [Dp.out,<-HYE.out,kg.out],⟨bK Ns.out.blk (NP.out.trans sQ.out) nD.out,HS2.out.qx (λt=>by
         rw [Dp.out,<-HSN.out t,if_pos HZS.out,j_.out]
         by_cases e:t=x.name
         ·simp only [if_pos e]
         ·simp only [if_neg e])⟩,HZ.out.trans ((Kept.ext eX.out).trans ((NP.out.trans sQ.out).mono (λ_ _ h=>Or.inl h)))⟩,by simp only [intOf];omega⟩
       ·go_wp2_with fail
        exact⟨⟨j+1,hlt,by go_num,by rw [Dp.out,<-HYE.out,kg.out],⟨bK Ns.out.blk NP.out nD.out,HS'.out.qx (λt=>by
         rw [Dp.out,<-HSN.out t,if_neg (show¬0<x.size from hz),j_.out])⟩,HZ.out.trans ((Kept.ext eX.out).trans (NP.out.mono (λ_ _ h=>Or.inl h)))⟩,by simp only [intOf];omega⟩
    ·have qv:(v !=0)=true:=by simp [hv0]
     have qn:(v==0)=false:=by simp [hv0]
     have HR:=J (show X=some ⟨7,x.name⟩by rw [iZ.out,qn];rfl)
     try rw [qv]
     try simp only [Bool.not_true]
     exact ZE
  ·obtain rfl:j=n:=by omega
   have JU:=J (show X=must (decide (cells p.vars<=64)) 8 tC by
    rw [<-dw.out,HN.out,List.drop_length];rfl)
   have Nr:=J (show Ck wr cb g (fB p.vars) E0 0 from by have h:=Fu.out;rwa [HN.out,List.take_length]at h);have mH:=bG (bK hB0.out nE.out lN.out);have mI:=bH (bK hB0.out nE.out lN.out);clear dw Fu;go_wp2_with fail;refine(Et ⟨cn,cse,cst,⟨A,j,cc⟩,cs,ct,uf,jG,ny,cq,pK⟩ p N _ (Nat.le_trans dR.out nE.out.size) (iY.out.kept nE.out dR.out NU.out)).mono ?_;rintro e w1 ⟨rfl,hx1⟩;have jo:=J ((Kept.ext (S:=SG cb g) HX0.out).trans (nE.out.trans (Kept.ext hx1)));have kK:=J (Nr.out.ext hx1);clear mH mI hcP jh hx1
   by_cases h64:cells p.vars<=64
   ·have HR:=J (show X=none by rw [JU.out,decide_eq_true h64];rfl)
    go_wp2_with fail;refine(bq true _ _ _).mono ?_;rintro e w2 ⟨he,rfl⟩;have he:=dN.none he;subst he;go_wp2_with fail;go_end0;rw [HR.out];exact⟨⟨rfl,kK.out⟩,jo.out⟩
   ·have HR:=J (show X=some ⟨8,tC⟩by rw [JU.out,decide_eq_false h64];rfl)
    go_wp2_with fail;rw [decide_eq_false (show¬cells p.vars<=64 by omega)];exact ZE
end Go.Proofs.YtbfbabbcdochjaaGreatDoor
