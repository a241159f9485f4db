/- Several texts joined: Jm. -/
import Derived.Test.YtbfbabbcdochjaaGreatDoorRmpk
import Derived.Test.YtbfbabbcdochjaaGreatDoorRmbd
set_option maxHeartbeats 4000000
set_option maxRecDepth 100000
open Go.Proofs.Tryz
namespace Go.Proofs.YtbfbabbcdochjaaGreatDoor
open Go.RowKit So Mc
theorem WL:jQ prog 90=true:=by kernel_rfl
theorem U_:sizeT prog 90=some 14:=by kernel_rfl
attribute [go_sem] WL U_
theorem Ku:jQ prog 106=true:=by kernel_rfl
theorem GZ:sizeT prog 106=some 5:=by kernel_rfl
theorem A_ {dst:Option Tmp} {ty':TypeId} {x:Operand} {pos:String} {after:Array Edge} {guard:Option (Nat×Bool)} {a:Act} {w:World} {K:Act->World->Prop} {Q:Exit->Act->World->Prop} (hx:iy (a.eval x)=true) (hh:has w (bE (a.eval x)) (bJ (a.eval x)) 5=true):
 Oper.wp prog {dst:=dst,op:=.load 106 x,type:=ty',pos:=pos,after:=after,guard:=guard} a w K Q=K (a.put dst (.agg (gets w (bE (a.eval x)) (bJ (a.eval x)) 5))) w:=dJ 5 Ku GZ hx hh
attribute [go_sem] Ku GZ
attribute [go_sem↓high] A_
attribute [go_sem high] A_
def only (F:SF):Pr:=⟨⟨#[]⟩,0,[],[],F,.nil,[],.nil,⟨#[]⟩,.nil,.nil⟩
theorem qM (F:SF):eT (only F)=F.size:=by simp [eT,only,SF.size]
abbrev GL (s:jg):Pc:=⟨⟨#[]⟩,0,⟨none,0,0⟩,⟨none,0,0⟩,s,⟨none,0,0⟩,⟨none,0,0⟩,⟨none,0,0⟩,⟨#[]⟩,⟨none,0,0⟩,⟨none,0,0⟩⟩
theorem yG {w:World} {N:Nat} {s:jg} {F:SF} (h:iO w N s.A s.n F):lT w N (GL s) (only F):=by
 have f (k:Nat):Fits 0 k:=by unfold Fits;omega
 have hI:VR w N none 0 []:=⟨rfl,f 8,λv hv=>by simp at hv,0,0,λh=>by omega,λh=>by omega⟩;have hV:tL w N none 0 []:=⟨rfl,f 40,λv hv=>by simp at hv,0,0,λh=>by omega,λh=>by omega⟩;have hS:iO w N none 0 .nil:=⟨rfl,f 112,0,0,λh=>by omega,trivial⟩;exact⟨rfl,Nat.zero_le _,rfl,by show aL 0;unfold aL;omega,hI,hV,h,hS,hV,hS,rfl,Nat.zero_le _,hS,hS⟩
abbrev st5 (p:Pr):Array Value:=#[.int .i64 (bB p 0:Nat),.int .i64 (bB p 1:Nat),.int .i64 (bB p 2:Nat),.int .i64 (bB p 3:Nat),.int .i64 (bB p 4:Nat)]
abbrev zF (c:Pc):Array Value:=#[c.start.v,c.turn.v,c.play.v,c.quiet.v,c.pays.v]
theorem ahA {F M:World->Option Addr->Nat->Nat->Prop} {G:Prop} (h:(∀W A a b,F W A a b->M W A a b)->G) (h2:∀W A a b,F W A a b->M W A a b):G:=h h2
abbrev kd0 (p:Pr) (seats:Int) (A:Option Addr) (n cp:Nat) (s:jg):Cd:=⟨cells p.vars,seats,s,⟨A,n,cp⟩,⟨none,0,0⟩,⟨none,0,0⟩,⟨none,0,0⟩,⟨none,0,0⟩,⟨none,0,0⟩,bB p⟩
def sV (w:World) (lo:Nat) (s:jg) (l:List Ins):Prop:=s.n=l.length/\∃b,s.A=some ⟨b,0,none⟩/\lo<b/\Row w b 0 (fV l)
theorem sV.kept {S:Nat->Prop} {w w':World} {lo:Nat} {s:jg} {l:List Ins} (h:sV w lo s l) (hk:Kept S w w') (hS:∀i,S i->i<=lo):sV w' lo s l:=by
 obtain⟨h1,b,h2,h3,h4⟩:=h;exact⟨h1,b,h2,h3,h4.kept hk (λq=>by have:=hS b q;omega)⟩
theorem sV.below {w:World} {lo:Nat} {s:jg} {l:List Ins} (h:sV w lo s l):FB w w.heap.size s l:=by
 obtain⟨h1,b,h2,h3,h4⟩:=h;exact⟨h1,b,h2,h4.lt,h4⟩
theorem sV.gy {w:World} {base lo:Nat} {s:jg} {l:List Ins} (h:w.ownsRow base 77 4 s.v s.n (fV l)) (hl:0<l.length) (hb:lo<base):sV w lo s l:=by
 have hn:s.n=l.length:=by
  have:=h.1;rw [je]at this
  omega
 obtain⟨g,c,e,hr,hg,-⟩:=gu h aj ak;obtain⟨A,n,cc⟩:=s;simp only [jg.v,Value.slice.injEq]at e;exact⟨hn,g,e.1,by omega,hr⟩
abbrev kdI (p:Pr) (seats:Int) (A:Option Addr) (n cp:Nat) (s:jg) (I:Nat->jg):Cd:=⟨cells p.vars,seats,s,⟨A,n,cp⟩,I 0,I 1,I 2,I 3,I 4,bB p⟩
def ahw (W7:World) (p:Pr) (seats:Int) (n:Nat) (W:World) (A:Option Addr) (cp cb:Nat):Prop:=
 Ext W7 W/\tL W cb A n p.params/\aH W cb 90 (kd0 p seats A n cp ⟨none,0,0⟩).c/\W7.heap.size<=cb
theorem Ak (c:Pc) (p:Pr) (N:Nat) (w:World) (FK:4<N) (hN:N<=w.heap.size) (hP:lT w N c p) (hL:fG w) (hz:eT p<=1099511627776):
 Calls prog 21 #[.agg c.cells] w λe w'=>Ext w w'/\xD p w' e:=by
 have y0:=(kR (λ_=>False) w).alloc (.cells c.cells 57);have hB:=bN w 57 c.cells;have HP:=J (hP.ext y0 hN);have Wi:=J (hL.ext y0);have hN1:=Nat.le_trans hN y0.size;obtain⟨X,hX⟩:∃X,X=check p:=⟨_,rfl⟩;have HX:=J hX;have HZ:=J hz;clear hP hL hX hz;go_enter func21,ntmps21;go_upto_region 1 with(fail);generalize (w.alloc (.cells c.cells 57))=W1 at y0 hB HP Wi hN1⊢;generalize w.heap.size=pb at hB⊢;have HB:=J hB;have i1:=bH hB;have i2:=bG hB;have i3:=hB.lt;have bU:=J y0;have Bu:=J hN1;clear hB;go_wp2_with fail;refine(PS c p N _ FK hN1 HP.out Wi.out).mono ?_;rintro e W2 ⟨rfl,y2⟩;clear i1 i2 i3 y0;rw [<-HX.out];have fH:=J y2
 cases X with
 |some f=>
  have hne:(f.e !=0)=true:=bne_iff_ne.2 (ahF p f HX.out.symm);have y3:=(kR (λ_=>False) W2).alloc (.cells #[.int .i64 f.e,.string f.name] 104);have hF:=bN W2 104 #[.int .i64 f.e,.string f.name];clear y2;rw [show gU (some f)=#[.int .i64 f.e,.string f.name]from rfl];go_upto_region 2 with(fail);generalize (W2.alloc (.cells #[.int .i64 f.e,.string f.name] 104))=W3 at y3 hF⊢;generalize W2.heap.size=fb at hF⊢;have j1:=bC hF;have j2:=hF.lt;have eX:=J y3;clear y3;go_upto_region 3 with(fail)
  go_quiet (fail)
  go_wp2_with fail
  go_ret2
  exact⟨(bU.out.trans fH.out).trans (Kept.drewN eX.out _),.bad f HX.out.symm⟩
 |none=>
  have gD:=J (tF.of HX.out.symm HZ.out);have y3:=(kR (λ_=>False) W2).alloc (.cells #[.int .i64 0,.string ⟨#[]⟩] 104);have hF:=bN W2 104 #[.int .i64 0,.string ⟨#[]⟩];rw [show gU none=#[.int .i64 0,.string ⟨#[]⟩]from rfl];go_upto_region 2 with(fail);generalize (W2.alloc (.cells #[.int .i64 0,.string ⟨#[]⟩] 104))=W3 at y3 hF⊢;have eX:=J (y2.trans y3);clear y2;generalize W2.heap.size=fb at hF⊢;have j1:=bC hF;have j2:=hF.lt;have HB3:=J (HB.out.ext eX.out);clear y3;have i1:=bC HB3.out;have i2:=HB3.out.lt;go_upto_region 4 with(fail);have y5:=(kR (λ_=>False) W3).alloc (.cells (zF c) 106);have hA:=bN W3 106 (zF c);clear j1 j2;go_upto_region 5 with(fail);generalize (W3.alloc (.cells (zF c) 106))=W5 at y5 hA⊢;generalize W3.heap.size=ab at hA⊢;have kX:=J (eX.out.trans y5);have nC:=J (HB3.out.ext y5);have wE:=J (HP.out.ext kX.out Bu.out);have HL5:=J (Wi.out.ext kX.out);have HA5:=J hA;have CZ:=J (Nat.le_trans Bu.out kX.out.size);clear y5 hA i1 i2;have i1:=bH HA5.out;have i2:=bG HA5.out;have i3:=HA5.out.lt;clear hN1;go_upto_region 6 with(fail);clear i1 i2 i3
  go_loopw [34] (λt34 wr=>∃(j:Nat),j<=5/\t34=.int .i64 j/\(∀i,i<j->(partOf p i).size<=256)/\Ext W5 wr) (λt34 _=>5 - (intOf t34).toNat)
  case atStart=>exact⟨0,by omega,rfl,λi hi=>by omega,kR _ _⟩
  case round=>
   obtain⟨j,hj,rfl,hall,hk⟩:=hrel;have iL:=J hall;have HK:=J hk;clear hall hk
   by_cases hj5:j=5
   ·subst hj5
    have i1:=bH (nC.out.ext HK.out);have i2:=bG (nC.out.ext HK.out);have i3:=(nC.out.ext HK.out).lt;go_wp2_with fail;refine(Ol c p N _ (Nat.le_trans CZ.out HK.out.size) (wE.out.ext HK.out CZ.out) gD.out.okK).mono ?_;rintro e w6 ⟨hd,y6⟩;clear i1 i2 i3;have JQ:=J (HK.out.trans y6);have uS:=J (show¬rT p from λ⟨i,hi,h⟩=>by have:=iL.out i hi;omega);clear y6
    rcases hd with⟨hall,rfl⟩|⟨hex,rfl⟩
    rotate_left
    ·have HEX:=J hex
     clear hex;have y7:=(kR (λ_=>False) w6).alloc (.cells #[.int .i64 0,.int .i64 0,.int .i64 0,.int .i64 0,.int .i64 0] 62);go_upto_region 12 with(fail);generalize (w6.alloc (.cells #[.int .i64 0,.int .i64 0,.int .i64 0,.int .i64 0,.int .i64 0] 62))=w7 at y7⊢;have lX:=J y7;clear y7;go_wp2_with fail
     go_ret2
     exact⟨(bU.out.trans kX.out).trans (JQ.out.trans lX.out),.steps HX.out.symm uS.out HEX.out⟩
    have akp:=J hall;clear hall;have y7:=(kR (λ_=>False) w6).alloc (.cells (st5 p) 62);have hM:=bN w6 62 (st5 p);go_upto_region 12 with(fail);generalize (w6.alloc (.cells (st5 p) 62))=w7 at y7 hM⊢;generalize w6.heap.size=sb at hM⊢;have lX:=J (JQ.out.trans y7);have Fw:=J hM;clear y7 hM;go_upto_region 14 with(fail);apply ahA (F:=ahw w7 p c.seats c.params.n)
    case h=>
     intro jr;have KEY:=J jr;clear jr;refine Uz (λwz=>Ext w7 wz) (.op 0 1 (.op 2 2 (.op 3 1 (.op 4 2 (.op 5 1 (.op 7 1 (.op 1 0 (.op 6 0 (.op 8 2 (.op 9 0 (.op 10 2 .nil))))))))))) ?_;refine UA ?_;have HW0:=J (show Ext w7 w7.drew from(kR _ w7).drew);have Fq:=J (nC.out.ext lX.out);have HP7:=J (wE.out.ext lX.out CZ.out);have HN7:=J (Nat.le_trans CZ.out lX.out.size)
     (repeat (first|refine zS ?_|((apply ig);(· exact HW0.out);(· go_simp);(· (intro w1 hS;have d0:=bX Fq.out hS;have d1:=bH d0;have d2:=bG d0;have d3:=d0.lt;have d4:=bC d0;have e0:=bX Fw.out hS;have e1:=bH e0;have e2:=bG e0;have e3:=e0.lt;go_simp;try with_reducible rfl));refine tO ?_)|((apply h_);(· exact HW0.out);(· go_simp);refine tO ?_)))
     (refine dz (λK hK=>?_);go_simp)
     go_wp2_with fail;refine(Et c p N _ (Nat.le_trans HN7.out (HW0.out).size) (HP7.out.ext (HW0.out) HN7.out)).mono ?_;rintro e w8 ⟨rfl,Iy⟩;have y8:=(HW0.out).trans Iy;refine hK.out _ _ (λ_=>y8) ?_;clear hK K
     (repeat (first|refine zS ?_|((apply ig);(· exact y8);(· go_simp);(· (intro w1 hS;have d0:=bX Fq.out hS;have d1:=bH d0;have d2:=bG d0;have d3:=d0.lt;have d4:=bC d0;have e0:=bX Fw.out hS;have e1:=bH e0;have e2:=bG e0;have e3:=e0.lt;go_simp;try with_reducible rfl));refine tO ?_)|((apply h_);(· exact y8);(· go_simp);refine tO ?_)))
     (refine dz (λK hK=>?_);go_simp)
     go_wp2_with fail;refine(QI c.params.A c.params.c N p.params c.params.n _ (tL.kept HP7.out.params (y8) (λ_ q=>q.elim)) (by have:=HP7.out.params.1;have:=gD.out.np;omega)).mono ?_;rintro e w9 ⟨A',c',rfl,hv9,Gr⟩;have y9:=(y8).trans Gr;refine hK.out _ _ (λ_=>y9) ?_;clear hK K
     (repeat (first|refine zS ?_|((apply ig);(· exact y9);(· go_simp);(· (intro w1 hS;have d0:=bX Fq.out hS;have d1:=bH d0;have d2:=bG d0;have d3:=d0.lt;have d4:=bC d0;have e0:=bX Fw.out hS;have e1:=bH e0;have e2:=bG e0;have e3:=e0.lt;go_simp;try with_reducible rfl));refine tO ?_)|((apply h_);(· exact y9);(· go_simp);refine tO ?_)))
     refine LY ?_;have ya:Ext w9 (w9.alloc (.cells (kd0 p c.seats A' c.params.n c' ⟨none,0,0⟩).c 90)):=(kR (λ_=>False) w9).alloc _;have Au:=bN w9 90 (kd0 p c.seats A' c.params.n c' ⟨none,0,0⟩).c;have hml:w7.heap.size<=w9.heap.size:=y9.size;have hv:=tL.kept (hv9) ya (λ_ q=>q.elim);have yb:=y9.trans ya;clear ya;generalize (w9.alloc (.cells (kd0 p c.seats A' c.params.n c' ⟨none,0,0⟩).c 90))=W9 at yb Au hv⊢;generalize w9.heap.size=cb at Au hml hv⊢;exact KEY.out _ _ _ _ ⟨yb,hv,Au,hml⟩
    intro w9 pA pc cb ahd;obtain⟨y9,hv9,Au,hcl⟩:=ahd;have HB9:=J (nC.out.ext (lX.out.trans y9));have HP9:=J (wE.out.ext (lX.out.trans y9) CZ.out);have HA9:=J (HA5.out.ext (lX.out.trans y9));have tT:=J (lX.out.trans y9);have HV9:=J hv9;have HC9:=J Au;have E_:=J (show N<=cb by have:=CZ.out;have:=lX.out.size;omega);have fP:=J (show ab<cb/\pb<cb/\cb<w9.heap.size/\w.heap.size<=cb by have:=lX.out.size;have:=HA5.out.lt;have:=nC.out.lt;have:=Au.lt;have:=bU.out.size;have:=kX.out.size;omega);obtain⟨B,hB⟩:∃B,B=w9.heap.size:=⟨_,rfl⟩;have HBB:=J hB;clear y9 hv9 Au hcl hB;obtain⟨Fj,hvf,qH,vb,vo,J_,hvE⟩:=HP9.out.vars;have hvm:=hvf.max aj;have xu:=J Fj;have Hy:=J J_;have Wy:=J hvE;clear Fj hvf qH J_ hvE;have a1:=bC HB9.out;have a2:=HB9.out.lt;go_wp2_with fail;clear a1 a2
    go_loopw [63] (λt63 wr=>∃(j:Nat) (s:jg),j<=c.vars.n/\t63=.int .i64 j/\wr.ownsRow B 21 1 s.v s.n (aM (firsts (p.vars.take j)))/\aH wr cb 90 (kd0 p c.seats pA c.params.n pc s).c/\Kept (·=cb) w9 wr) (λt63 _=>c.vars.n - (intOf t63).toNat)
    case atStart=>exact⟨0,⟨none,0,0⟩,Nat.zero_le _,rfl,⟨by simp [aM,firsts],.inl ⟨rfl,rfl⟩⟩,HC9.out,kR _ _⟩
    case round=>
     obtain⟨j,s,hj,rfl,ho,hc,hk⟩:=hrel;have ZQ:=J ho;have HCJ:=J hc;have oZ:=J hk;clear ho hc hk
     by_cases hlt:j<c.vars.n
     ·have hjl:j<p.vars.length:=by have:=xu.out;omega
      have jd:(j:Int)<c.vars.n:=by omega
      have yY:=Hy.out aj;obtain⟨hvb,hrow⟩:=Wy.out aj;have hrw:=hrow.kept oZ.out (by have:=E_.out;omega);obtain⟨u2,u3⟩:=mZ hrw j hjl;have u1:=hrw.lt;have Dp:=J (Ao hjl);have HVK:=J (jR p.vars [] gD.out.vars p.vars[j] (List.getElem_mem _));generalize p.vars[j]=v at u3 Dp HVK;clear hrow hrw hvb;have y0:=(kR (λ_=>False) wr).alloc (.cells (aJ v) 109);have hB0:=bN wr 109 (aJ v);rw [yY];go_upto_region 18 with(fail);generalize (wr.alloc (.cells (aJ v) 109))=W6 at y0 hB0⊢;generalize wr.heap.size=g at hB0⊢;have HG6:=J hB0;have Fx:=J (bD ZQ.out y0);have J4:=J (HCJ.out.ext y0);have JQ:=J (oZ.out.trans (Kept.ext y0));clear y0 hB0 u1 u2 u3 yY
      obtain⟨m,hm,hm2⟩:∃m:Nat,max v.size 1=(m:Int)/\m=(So.dD v).toNat:=by
       have:=HVK.out;refine⟨(So.dD v).toNat,?_,rfl⟩;have:=jV v;unfold So.dD at*
       split at this<;>omega
      have HM:=J hm2;obtain⟨z,hz0⟩:∃z,z=min (max 0 v.low) v.high:=⟨_,rfl⟩;have HZV:=J hz0;have Wj:=J (show m<=64 by have:=HVK.out;omega);clear hm2 hz0;have g1:=bC HG6.out;have g2:=HG6.out.lt;go_upto_region 19 with(fail)
      try rw [hm]
      clear g1 g2 hm
      go_loopw [70] (λt70 wr=>∃(i:Nat) (s:jg),i<=m/\t70=.int .i64 i/\wr.ownsRow B 21 1 s.v s.n (aM (firsts (p.vars.take j)++List.replicate i z))/\aH wr cb 90 (kd0 p c.seats pA c.params.n pc s).c/\aH wr g 109 (aJ v)/\Kept (·=cb) w9 wr) (λt70 _=>m - (intOf t70).toNat)
      case atStart=>exact⟨0,s,Nat.zero_le _,rfl,by simpa using Fx.out,J4.out,HG6.out,JQ.out⟩
      case round=>
       obtain⟨i,q,hi,rfl,ho,hc,hg,hk⟩:=hrel;have E8:=J ho;have Br:=J hc;have HGI:=J hg;have qg:=J hk;clear ho hc hg hk
       by_cases hli:i<m
       ·have aer:(i:Int)<m:=by omega
        go_upto_region 20 with(fail)
        have hcv:IntKind.i32.wrap (min (max 0 v.low) v.high)=z:=by
         have h:=HVK.out;rw [HZV.out];refine Vd ?_;unfold au at*
         omega
        have ahe:¬q.v.ownBlock=some cb:=λe=>dI E8.out (E':=90) ak cb e _ _ Br.out;have hng:¬q.v.ownBlock=some g:=λe=>dI E8.out (E':=109) ak g e _ _ HGI.out;have C_:=J (And.intro ahe hng);clear ahe hng
        have hqn:q.n<=128:=by
         have h1:=E8.out.1;have h2:=sK (l:=p.vars) j gD.out.cells;have h3:=Wj.out;rw [dQ,List.length_append,List.length_replicate]at h1
         omega
        have HQN:=J hqn;clear hqn;refine gM (λwz=>Kept (λi=>q.v.ownBlock=some i) wr wz) [(0,2),(1,2),(2,2),(3,2),(4,1),(5,2),(6,1),(7,1),(8,2),(9,1),(10,1),(11,1),(12,0),(13,0),(14,2),(15,2),(16,0)] ?_;refine gN ?_;have yd:Kept (λi=>q.v.ownBlock=some i) wr wr.drew:=(kR _ wr).drew
        (repeat first|refine cu ?_|refine dL yd (by intro w1 hS;have d0:=bK Br.out hS C_.out.1;have d1:=bC d0;have d2:=d0.lt;have e0:=bK HGI.out hS C_.out.2;have e1:=bC e0;have e2:=e0.lt;exact gX) ?_|refine dK yd ?_)
        (refine aC (λK hK=>?_);go_simp)
        have yA:Ext wr (wr.alloc (.cells #[.int .i32 z] 21)).drew:=((kR _ wr).alloc _).drew;refine hK.out _ _ (λ_=>Kept.ext yA) ?_;clear hK K
        have hrz:Row (wr.alloc (.cells #[.int .i32 z] 21)).drew wr.heap.size 0 (aM [z]):=by
         have h:=Row.eZ (bN wr 21 #[.int .i32 z]);exact h.ext (kR _ _).drew
        obtain⟨v',wa,hra,hoa,hka⟩:=FI _ B q.v q.n _ (bD E8.out yA) wr.heap.size 0 1 1 [z] rfl hrz YT (by rw [HBB.out];exact Nat.le_trans qg.out.size yA.size);obtain⟨A',cp',rfl⟩:=kQ hoa;have yb:Kept (λi=>q.v.ownBlock=some i) wr wa:=(Kept.ext yA).trans hka;have ZP:=J hoa;have Fb:=J yb;clear hoa hka yA hrz yd;refine aC (λK hK=>?_);refine uo rfl ?_;refine Lib.wp_append_run _ _ _ _ _ rfl _ _ rfl rfl _ _ hra ?_;refine hK.out _ _ (λ_=>yb) ?_;clear hK K hra yb;have hcw:=bK Br.out Fb.out C_.out.1;have c1:=bC hcw;have c2:=hcw.lt;have c3:=aH.frozen hcw;have vJ:=J hcw;clear hcw;refine gI ?_;have hna:¬(Value.slice A' (q.n+1) cp').ownBlock=some cb:=λe=>dI ZP.out (E':=90) ak cb e _ _ vJ.out;have hset:Kept (·=cb) wa (wa.setCell ⟨cb,2,none⟩ (.slice A' (q.n+1) cp')):=Kept.setCell (kR _ _) _ _ (λ_=>rfl);have Wn:=J (bS ZP.out hset (λx hx e=>by subst e;exact hna hx));have J5:=J (show aH (wa.setCell ⟨cb,2,none⟩ (.slice A' (q.n+1) cp')) cb 90 (kd0 p c.seats pA c.params.n pc ⟨A',q.n+1,cp'⟩).c from aH.gW vJ.out 2 _);have hgc:¬g=cb:=λe=>by have h1:=HGI.out;have h2:=Br.out;rw [e]at h1;unfold aH at h1 h2;rw [h1]at h2;injection h2 with h2;injection h2 with _ h2;exact absurd h2 ak
        have HG8:=J (bK (bK HGI.out Fb.out C_.out.2) hset hgc);have Ac:=J ((qg.out.trans' (S':=λi=>q.v.ownBlock=some i) Fb.out (λx hx e=>by have:=(E8.out.lt x e).1;have:=HBB.out;omega)).trans hset);clear c1 c2 c3 hna hset hgc hcv;generalize (wa.setCell ⟨cb,2,none⟩ (.slice A' (q.n+1) cp'))=w8 at Wn J5 HG8 Ac⊢;have ald:=Wj.out;go_wp2_with fail;go_roundw
        case rel=>exact⟨i+1,⟨A',q.n+1,cp'⟩,hli,by go_num,by rw [List.replicate_succ',<-List.append_assoc];exact Wn.out,J5.out,HG8.out,Ac.out⟩
        case measure=>simp only [intOf];omega
       ·obtain rfl:i=m:=by omega
        have HOE:=J (show wr.ownsRow B 21 1 q.v q.n (aM (firsts (p.vars.take (j+1))))from by rw [Dp.out,<-HZV.out,<-HM.out];exact E8.out);go_wp2_with fail;go_roundw
        case rel=>exact⟨j+1,q,hlt,by go_num,HOE.out,Br.out,qg.out⟩
        case measure=>simp only [intOf];omega
     ·obtain rfl:j=c.vars.n:=by omega
      have HOF:=J (show wr.ownsRow B 21 1 s.v s.n (aM (firsts p.vars))from by have h:=ZQ.out;rw [xu.out,List.take_length]at h;exact h);have zm:=J (bK HB9.out oZ.out QT);have HAJ:=J (bK HA9.out oZ.out QT);have HPJ:=J (HP9.out.kept oZ.out (by have:=E_.out;have:=fP.out;omega) (λi e=>by have:=E_.out;omega));have HVJ:=J (tL.kept HV9.out oZ.out (λi e=>by omega));have a1:=bH HAJ.out;have a2:=bG HAJ.out;have a3:=HAJ.out.lt;go_wp2_with fail;clear a1 a2 a3
      go_loopw [91] (λt91 wx=>∃(k:Nat) (I:Nat->jg),k<=5/\t91=.int .i64 k/\aH wx cb 90 (kdI p c.seats pA c.params.n pc s I).c/\(∀i,i<k->sV wx cb (I i) (dM p i))/\Kept (·=cb) wr wx) (λt91 _=>5 - (intOf t91).toNat)
      case atStart=>exact⟨0,λ_=>⟨none,0,0⟩,by omega,rfl,HCJ.out,λi hi=>by omega,kR _ _⟩
      case round=>
       obtain⟨k,I,hk,rfl,hc,hi,hkk⟩:=hrel;have Br:=J hc;have ZJ:=J hi;have qg:=J hkk;clear hc hi hkk
       by_cases hk5:k=5
       ·subst hk5
        have tJ:=J (bS HOF.out qg.out (λx hx e=>by subst e;exact dI HOF.out (E':=90) ak _ hx _ _ HCJ.out));go_wp2_with fail
        go_ret2
        have h9:Ext w wr:=((bU.out.trans kX.out).trans tT.out).trans' (oZ.out.trans qg.out) (λi hi e=>by have:=fP.out;omega)
        exact⟨h9,.ok HX.out.symm uS.out akp.out cb _ ⟨Br.out.lt,Nat.le_refl _,Br.out,rfl,HP9.out.seats,xL.gy tJ.out,tL.up (tL.kept HVJ.out qg.out (λi e=>by omega)) (Nat.le_of_lt Br.out.lt),λi hi=>by
         rcases(by omega:i=0∨i=1∨i=2∨i=3∨i=4)with rfl|rfl|rfl|rfl|rfl
         ·exact(ZJ.out 0 aj).below
         ·exact(ZJ.out 1 aj).below
         ·exact(ZJ.out 2 aj).below
         ·exact(ZJ.out 3 aj).below
         ·exact(ZJ.out 4 aj).below,λi hi=>rfl⟩⟩
       have hj':k=0∨k=1∨k=2∨k=3∨k=4:=by omega
       clear hk hk5
       rcases hj' with rfl|rfl|rfl|rfl|rfl
       ·skip
        have hix:(Instr.index 106 (.agg (zF c)) (.int .i64 0)).run prog wr=.ok c.start.v wr:=qI c.start c.turn c.play c.quiet c.pays 0 aj wr;go_upto_region 26 with(fail);clear hix;have HBI:=J (bK zm.out qg.out QT);refine M0 ?_;intro Nw Nq;have HSL:=J (show(partOf p 0).size<=256 from Nat.le_of_not_lt (λh=>uS.out ⟨0,by omega,h⟩));refine Y7 ?_;intro F5 yd K hK;go_wp2_with fail;refine(uy 0 aj cb N c p (cells p.vars) c.start.A c.start.n c.start.c (partOf p 0) (jI p 0) _ (Nat.le_trans xg yd.size) (Nw.out.ext yd xg) ((Kept.cell yd (p:=⟨cb,0,none⟩) Br.out.lt (λf=>f)).trans Nq.out) F5.out.1 xk ((Nw.out.ext yd xg).start) (gD.out.part 0 aj) YU (yM p (cells p.vars) 0 F5.out.1 xk xk gD.out.np) (qU p (cells p.vars) 0) YP gD.out.np).mono ?_;rintro e w6 ⟨A',n',c',rfl,hx6,RD,Iw⟩;have y6:=yd.trans hx6;refine hK.out _ _ (λ_=>y6) ?_;clear hK K;have J4:=J (bX Br.out y6);have Fx:=J (show w6.ownsRow (wr.drew.heap.size+1) 77 4 (jg.v ⟨A',n',c'⟩) (jg.n ⟨A',n',c'⟩) (fV (dM p 0))from RD);have jc:=J y6;clear RD hx6 Iw y6 yd;refine Zm ?_;have hset:Kept (·=cb) w6 (w6.setCell ⟨cb,4,none⟩ (.slice A' n' c')):=Kept.setCell (kR _ _) _ _ (λ_=>rfl);have HL6:=J (sV.gy (lo:=cb) Fx.out YX YQ);have J5:=J (show aH (w6.setCell ⟨cb,4,none⟩ (.slice A' n' c')) cb 90 (kdI p c.seats pA c.params.n pc s (λi=>if i=0 then⟨A',n',c'⟩else I i)).c from aH.gW J4.out 4 _)
        have Q5:=J (show∀i,i<0+1->sV (w6.setCell ⟨cb,4,none⟩ (.slice A' n' c')) cb ((λi=>if i=0 then⟨A',n',c'⟩else I i) i) (dM p i)from λi hi=>by
         by_cases e:i=0
         ·subst e
          exact Nk
         ·simp only [e,if_false]
          exact((ZJ.out i aj).kept jc.out (λ_ f=>f.elim)).kept hset (λi e=>by omega))
        have Ac:=J ((qg.out.trans (Kept.ext jc.out)).trans hset);clear hset;generalize (w6.setCell ⟨cb,4,none⟩ (.slice A' n' c'))=w8 at J5 Q5 Ac⊢;go_wp2_with fail;go_roundw
        case rel=>exact⟨0+1,_,by omega,by go_num,J5.out,Q5.out,Ac.out⟩
        case measure=>simp only [intOf];omega
       ·skip
        have hix:(Instr.index 106 (.agg (zF c)) (.int .i64 1)).run prog wr=.ok c.turn.v wr:=qI c.start c.turn c.play c.quiet c.pays 1 aj wr;go_upto_region 26 with(fail);clear hix;have HBI:=J (bK zm.out qg.out QT);refine M0 ?_;intro Nw Nq;have HSL:=J (show(partOf p 1).size<=256 from Nat.le_of_not_lt (λh=>uS.out ⟨1,by omega,h⟩));refine Y7 ?_;intro F5 yd K hK;go_wp2_with fail;refine(uy 1 aj cb N c p (cells p.vars) c.turn.A c.turn.n c.turn.c (partOf p 1) (jI p 1) _ (Nat.le_trans xg yd.size) (Nw.out.ext yd xg) ((Kept.cell yd (p:=⟨cb,0,none⟩) Br.out.lt (λf=>f)).trans Nq.out) F5.out.1 xk ((Nw.out.ext yd xg).turn) (gD.out.part 1 aj) YU (yM p (cells p.vars) 1 F5.out.1 xk xk gD.out.np) (qU p (cells p.vars) 1) YP gD.out.np).mono ?_;rintro e w6 ⟨A',n',c',rfl,hx6,RD,Iw⟩;have y6:=yd.trans hx6;refine hK.out _ _ (λ_=>y6) ?_;clear hK K;have J4:=J (bX Br.out y6);have Fx:=J (show w6.ownsRow (wr.drew.heap.size+1) 77 4 (jg.v ⟨A',n',c'⟩) (jg.n ⟨A',n',c'⟩) (fV (dM p 1))from RD);have jc:=J y6;clear RD hx6 Iw y6 yd;refine Zm ?_;have hset:Kept (·=cb) w6 (w6.setCell ⟨cb,5,none⟩ (.slice A' n' c')):=Kept.setCell (kR _ _) _ _ (λ_=>rfl);have HL6:=J (sV.gy (lo:=cb) Fx.out YX YQ);have J5:=J (show aH (w6.setCell ⟨cb,5,none⟩ (.slice A' n' c')) cb 90 (kdI p c.seats pA c.params.n pc s (λi=>if i=1 then⟨A',n',c'⟩else I i)).c from aH.gW J4.out 5 _)
        have Q5:=J (show∀i,i<1+1->sV (w6.setCell ⟨cb,5,none⟩ (.slice A' n' c')) cb ((λi=>if i=1 then⟨A',n',c'⟩else I i) i) (dM p i)from λi hi=>by
         by_cases e:i=1
         ·subst e
          exact Nk
         ·simp only [e,if_false]
          exact((ZJ.out i aj).kept jc.out (λ_ f=>f.elim)).kept hset (λi e=>by omega))
        have Ac:=J ((qg.out.trans (Kept.ext jc.out)).trans hset);clear hset;generalize (w6.setCell ⟨cb,5,none⟩ (.slice A' n' c'))=w8 at J5 Q5 Ac⊢;go_wp2_with fail;go_roundw
        case rel=>exact⟨1+1,_,by omega,by go_num,J5.out,Q5.out,Ac.out⟩
        case measure=>simp only [intOf];omega
       ·skip
        have hix:(Instr.index 106 (.agg (zF c)) (.int .i64 2)).run prog wr=.ok c.play.v wr:=qI c.start c.turn c.play c.quiet c.pays 2 aj wr;go_upto_region 26 with(fail);clear hix;have HBI:=J (bK zm.out qg.out QT);refine M0 ?_;intro Nw Nq;have HSL:=J (show(partOf p 2).size<=256 from Nat.le_of_not_lt (λh=>uS.out ⟨2,by omega,h⟩));refine Y7 ?_;intro F5 yd K hK;go_wp2_with fail;refine(uy 2 aj cb N c p (cells p.vars) c.play.A c.play.n c.play.c (partOf p 2) (jI p 2) _ (Nat.le_trans xg yd.size) (Nw.out.ext yd xg) ((Kept.cell yd (p:=⟨cb,0,none⟩) Br.out.lt (λf=>f)).trans Nq.out) F5.out.1 xk ((Nw.out.ext yd xg).play) (gD.out.part 2 aj) YU (yM p (cells p.vars) 2 F5.out.1 xk xk gD.out.np) (qU p (cells p.vars) 2) YP gD.out.np).mono ?_;rintro e w6 ⟨A',n',c',rfl,hx6,RD,Iw⟩;have y6:=yd.trans hx6;refine hK.out _ _ (λ_=>y6) ?_;clear hK K;have J4:=J (bX Br.out y6);have Fx:=J (show w6.ownsRow (wr.drew.heap.size+1) 77 4 (jg.v ⟨A',n',c'⟩) (jg.n ⟨A',n',c'⟩) (fV (dM p 2))from RD);have jc:=J y6;clear RD hx6 Iw y6 yd;refine Zm ?_;have hset:Kept (·=cb) w6 (w6.setCell ⟨cb,6,none⟩ (.slice A' n' c')):=Kept.setCell (kR _ _) _ _ (λ_=>rfl);have HL6:=J (sV.gy (lo:=cb) Fx.out YX YQ);have J5:=J (show aH (w6.setCell ⟨cb,6,none⟩ (.slice A' n' c')) cb 90 (kdI p c.seats pA c.params.n pc s (λi=>if i=2 then⟨A',n',c'⟩else I i)).c from aH.gW J4.out 6 _)
        have Q5:=J (show∀i,i<2+1->sV (w6.setCell ⟨cb,6,none⟩ (.slice A' n' c')) cb ((λi=>if i=2 then⟨A',n',c'⟩else I i) i) (dM p i)from λi hi=>by
         by_cases e:i=2
         ·subst e
          exact Nk
         ·simp only [e,if_false]
          exact((ZJ.out i aj).kept jc.out (λ_ f=>f.elim)).kept hset (λi e=>by omega))
        have Ac:=J ((qg.out.trans (Kept.ext jc.out)).trans hset);clear hset;generalize (w6.setCell ⟨cb,6,none⟩ (.slice A' n' c'))=w8 at J5 Q5 Ac⊢;go_wp2_with fail;go_roundw
        case rel=>exact⟨2+1,_,by omega,by go_num,J5.out,Q5.out,Ac.out⟩
        case measure=>simp only [intOf];omega
       ·skip
        have hix:(Instr.index 106 (.agg (zF c)) (.int .i64 3)).run prog wr=.ok c.quiet.v wr:=qI c.start c.turn c.play c.quiet c.pays 3 aj wr;go_upto_region 26 with(fail);clear hix;have HBI:=J (bK zm.out qg.out QT);refine M0 ?_;intro Nw Nq;have HSL:=J (show(partOf p 3).size<=256 from Nat.le_of_not_lt (λh=>uS.out ⟨3,by omega,h⟩));refine Y7 ?_;intro F5 yd K hK;go_wp2_with fail;refine(uy 3 aj cb N c p (cells p.vars) c.quiet.A c.quiet.n c.quiet.c (partOf p 3) (jI p 3) _ (Nat.le_trans xg yd.size) (Nw.out.ext yd xg) ((Kept.cell yd (p:=⟨cb,0,none⟩) Br.out.lt (λf=>f)).trans Nq.out) F5.out.1 xk ((Nw.out.ext yd xg).quiet) (gD.out.part 3 aj) YU (yM p (cells p.vars) 3 F5.out.1 xk xk gD.out.np) (qU p (cells p.vars) 3) YP gD.out.np).mono ?_;rintro e w6 ⟨A',n',c',rfl,hx6,RD,Iw⟩;have y6:=yd.trans hx6;refine hK.out _ _ (λ_=>y6) ?_;clear hK K;have J4:=J (bX Br.out y6);have Fx:=J (show w6.ownsRow (wr.drew.heap.size+1) 77 4 (jg.v ⟨A',n',c'⟩) (jg.n ⟨A',n',c'⟩) (fV (dM p 3))from RD);have jc:=J y6;clear RD hx6 Iw y6 yd;refine Zm ?_;have hset:Kept (·=cb) w6 (w6.setCell ⟨cb,7,none⟩ (.slice A' n' c')):=Kept.setCell (kR _ _) _ _ (λ_=>rfl);have HL6:=J (sV.gy (lo:=cb) Fx.out YX YQ);have J5:=J (show aH (w6.setCell ⟨cb,7,none⟩ (.slice A' n' c')) cb 90 (kdI p c.seats pA c.params.n pc s (λi=>if i=3 then⟨A',n',c'⟩else I i)).c from aH.gW J4.out 7 _)
        have Q5:=J (show∀i,i<3+1->sV (w6.setCell ⟨cb,7,none⟩ (.slice A' n' c')) cb ((λi=>if i=3 then⟨A',n',c'⟩else I i) i) (dM p i)from λi hi=>by
         by_cases e:i=3
         ·subst e
          exact Nk
         ·simp only [e,if_false]
          exact((ZJ.out i aj).kept jc.out (λ_ f=>f.elim)).kept hset (λi e=>by omega))
        have Ac:=J ((qg.out.trans (Kept.ext jc.out)).trans hset);clear hset;generalize (w6.setCell ⟨cb,7,none⟩ (.slice A' n' c'))=w8 at J5 Q5 Ac⊢;go_wp2_with fail;go_roundw
        case rel=>exact⟨3+1,_,by omega,by go_num,J5.out,Q5.out,Ac.out⟩
        case measure=>simp only [intOf];omega
       ·skip
        have hix:(Instr.index 106 (.agg (zF c)) (.int .i64 4)).run prog wr=.ok c.pays.v wr:=qI c.start c.turn c.play c.quiet c.pays 4 aj wr;go_upto_region 26 with(fail);clear hix;have HBI:=J (bK zm.out qg.out QT);refine M0 ?_;intro Nw Nq;have HSL:=J (show(partOf p 4).size<=256 from Nat.le_of_not_lt (λh=>uS.out ⟨4,by omega,h⟩));refine Y7 ?_;intro F5 yd K hK;go_wp2_with fail;refine(uy 4 aj cb N c p (cells p.vars) c.pays.A c.pays.n c.pays.c (partOf p 4) (jI p 4) _ (Nat.le_trans xg yd.size) (Nw.out.ext yd xg) ((Kept.cell yd (p:=⟨cb,0,none⟩) Br.out.lt (λf=>f)).trans Nq.out) F5.out.1 xk ((Nw.out.ext yd xg).pays) (gD.out.part 4 aj) YU (yM p (cells p.vars) 4 F5.out.1 xk xk gD.out.np) (qU p (cells p.vars) 4) YP gD.out.np).mono ?_;rintro e w6 ⟨A',n',c',rfl,hx6,RD,Iw⟩;have y6:=yd.trans hx6;refine hK.out _ _ (λ_=>y6) ?_;clear hK K;have J4:=J (bX Br.out y6);have Fx:=J (show w6.ownsRow (wr.drew.heap.size+1) 77 4 (jg.v ⟨A',n',c'⟩) (jg.n ⟨A',n',c'⟩) (fV (dM p 4))from RD);have jc:=J y6;clear RD hx6 Iw y6 yd;refine Zm ?_;have hset:Kept (·=cb) w6 (w6.setCell ⟨cb,8,none⟩ (.slice A' n' c')):=Kept.setCell (kR _ _) _ _ (λ_=>rfl);have HL6:=J (sV.gy (lo:=cb) Fx.out YX YQ);have J5:=J (show aH (w6.setCell ⟨cb,8,none⟩ (.slice A' n' c')) cb 90 (kdI p c.seats pA c.params.n pc s (λi=>if i=4 then⟨A',n',c'⟩else I i)).c from aH.gW J4.out 8 _)
        have Q5:=J (show∀i,i<4+1->sV (w6.setCell ⟨cb,8,none⟩ (.slice A' n' c')) cb ((λi=>if i=4 then⟨A',n',c'⟩else I i) i) (dM p i)from λi hi=>by
         by_cases e:i=4
         ·subst e
          exact Nk
         ·simp only [e,if_false]
          exact((ZJ.out i aj).kept jc.out (λ_ f=>f.elim)).kept hset (λi e=>by omega))
        have Ac:=J ((qg.out.trans (Kept.ext jc.out)).trans hset);clear hset;generalize (w6.setCell ⟨cb,8,none⟩ (.slice A' n' c'))=w8 at J5 Q5 Ac⊢;go_wp2_with fail;go_roundw
        case rel=>exact⟨4+1,_,by omega,by go_num,J5.out,Q5.out,Ac.out⟩
        case measure=>simp only [intOf];omega
   have hj':j=0∨j=1∨j=2∨j=3∨j=4:=by omega
   clear hj hj5
   rcases hj' with rfl|rfl|rfl|rfl|rfl
   ·skip
    have hix:(Instr.index 106 (.agg (zF c)) (.int .i64 0)).run prog wr=.ok c.start.v wr:=qI c.start c.turn c.play c.quiet c.pays 0 aj wr;go_wp2_with fail;refine(nU (GL c.start) (only p.start) N _ (Nat.le_trans CZ.out HK.out.size) (yG (wE.out.start.ext HK.out CZ.out))).mono ?_;rintro e w4 ⟨rfl,y4⟩;have xG:=J (HK.out.trans y4)
    have hw:jW ((eT (only p.start):Nat):Int)=(p.start.size:Nat):=by
     rw [qM,fF];have:=gD.out.V5 0 aj;simp only [partOf]at this
     omega
    rw [hw];clear hw hix y4
    by_cases hbig:256<p.start.size
    ·have hg:decide ((256:Int)<(p.start.size:Int))=true:=decide_eq_true aj
     have kY:=J hbig;clear hbig;go_wp2_with fail
     go_ret2
     exact⟨(bU.out.trans kX.out).trans xG.out,.long HX.out.symm ⟨0,by omega,kY.out⟩⟩
    ·have hg:decide ((256:Int)<(p.start.size:Int))=false:=decide_eq_false aj
     have kY:=J hbig;clear hbig;go_wp2_with fail;go_roundw
     case rel=>exact⟨0+1,by omega,by go_num,λi hi=>by rcases(by omega:i<0∨i=0)with q|q;exact iL.out i q;rw [q];have:=kY.out;simp only [partOf];omega,xG.out⟩
     case measure=>simp only [intOf];omega
   ·skip
    have hix:(Instr.index 106 (.agg (zF c)) (.int .i64 1)).run prog wr=.ok c.turn.v wr:=qI c.start c.turn c.play c.quiet c.pays 1 aj wr;go_wp2_with fail;refine(nU (GL c.turn) (only p.turn) N _ (Nat.le_trans CZ.out HK.out.size) (yG (wE.out.turn.ext HK.out CZ.out))).mono ?_;rintro e w4 ⟨rfl,y4⟩;have xG:=J (HK.out.trans y4)
    have hw:jW ((eT (only p.turn):Nat):Int)=(p.turn.size:Nat):=by
     rw [qM,fF];have:=gD.out.V5 1 aj;simp only [partOf]at this
     omega
    rw [hw];clear hw hix y4
    by_cases hbig:256<p.turn.size
    ·have hg:decide ((256:Int)<(p.turn.size:Int))=true:=decide_eq_true aj
     have kY:=J hbig;clear hbig;go_wp2_with fail
     go_ret2
     exact⟨(bU.out.trans kX.out).trans xG.out,.long HX.out.symm ⟨1,by omega,kY.out⟩⟩
    ·have hg:decide ((256:Int)<(p.turn.size:Int))=false:=decide_eq_false aj
     have kY:=J hbig;clear hbig;go_wp2_with fail;go_roundw
     case rel=>exact⟨1+1,by omega,by go_num,λi hi=>by rcases(by omega:i<1∨i=1)with q|q;exact iL.out i q;rw [q];have:=kY.out;simp only [partOf];omega,xG.out⟩
     case measure=>simp only [intOf];omega
   ·skip
    have hix:(Instr.index 106 (.agg (zF c)) (.int .i64 2)).run prog wr=.ok c.play.v wr:=qI c.start c.turn c.play c.quiet c.pays 2 aj wr;go_wp2_with fail;refine(nU (GL c.play) (only p.play) N _ (Nat.le_trans CZ.out HK.out.size) (yG (wE.out.play.ext HK.out CZ.out))).mono ?_;rintro e w4 ⟨rfl,y4⟩;have xG:=J (HK.out.trans y4)
    have hw:jW ((eT (only p.play):Nat):Int)=(p.play.size:Nat):=by
     rw [qM,fF];have:=gD.out.V5 2 aj;simp only [partOf]at this
     omega
    rw [hw];clear hw hix y4
    by_cases hbig:256<p.play.size
    ·have hg:decide ((256:Int)<(p.play.size:Int))=true:=decide_eq_true aj
     have kY:=J hbig;clear hbig;go_wp2_with fail
     go_ret2
     exact⟨(bU.out.trans kX.out).trans xG.out,.long HX.out.symm ⟨2,by omega,kY.out⟩⟩
    ·have hg:decide ((256:Int)<(p.play.size:Int))=false:=decide_eq_false aj
     have kY:=J hbig;clear hbig;go_wp2_with fail;go_roundw
     case rel=>exact⟨2+1,by omega,by go_num,λi hi=>by rcases(by omega:i<2∨i=2)with q|q;exact iL.out i q;rw [q];have:=kY.out;simp only [partOf];omega,xG.out⟩
     case measure=>simp only [intOf];omega
   ·skip
    have hix:(Instr.index 106 (.agg (zF c)) (.int .i64 3)).run prog wr=.ok c.quiet.v wr:=qI c.start c.turn c.play c.quiet c.pays 3 aj wr;go_wp2_with fail;refine(nU (GL c.quiet) (only p.quiet) N _ (Nat.le_trans CZ.out HK.out.size) (yG (wE.out.quiet.ext HK.out CZ.out))).mono ?_;rintro e w4 ⟨rfl,y4⟩;have xG:=J (HK.out.trans y4)
    have hw:jW ((eT (only p.quiet):Nat):Int)=(p.quiet.size:Nat):=by
     rw [qM,fF];have:=gD.out.V5 3 aj;simp only [partOf]at this
     omega
    rw [hw];clear hw hix y4
    by_cases hbig:256<p.quiet.size
    ·have hg:decide ((256:Int)<(p.quiet.size:Int))=true:=decide_eq_true aj
     have kY:=J hbig;clear hbig;go_wp2_with fail
     go_ret2
     exact⟨(bU.out.trans kX.out).trans xG.out,.long HX.out.symm ⟨3,by omega,kY.out⟩⟩
    ·have hg:decide ((256:Int)<(p.quiet.size:Int))=false:=decide_eq_false aj
     have kY:=J hbig;clear hbig;go_wp2_with fail;go_roundw
     case rel=>exact⟨3+1,by omega,by go_num,λi hi=>by rcases(by omega:i<3∨i=3)with q|q;exact iL.out i q;rw [q];have:=kY.out;simp only [partOf];omega,xG.out⟩
     case measure=>simp only [intOf];omega
   ·skip
    have hix:(Instr.index 106 (.agg (zF c)) (.int .i64 4)).run prog wr=.ok c.pays.v wr:=qI c.start c.turn c.play c.quiet c.pays 4 aj wr;go_wp2_with fail;refine(nU (GL c.pays) (only p.pays) N _ (Nat.le_trans CZ.out HK.out.size) (yG (wE.out.pays.ext HK.out CZ.out))).mono ?_;rintro e w4 ⟨rfl,y4⟩;have xG:=J (HK.out.trans y4)
    have hw:jW ((eT (only p.pays):Nat):Int)=(p.pays.size:Nat):=by
     rw [qM,fF];have:=gD.out.V5 4 aj;simp only [partOf]at this
     omega
    rw [hw];clear hw hix y4
    by_cases hbig:256<p.pays.size
    ·have hg:decide ((256:Int)<(p.pays.size:Int))=true:=decide_eq_true aj
     have kY:=J hbig;clear hbig;go_wp2_with fail
     go_ret2
     exact⟨(bU.out.trans kX.out).trans xG.out,.long HX.out.symm ⟨4,by omega,kY.out⟩⟩
    ·have hg:decide ((256:Int)<(p.pays.size:Int))=false:=decide_eq_false aj
     have kY:=J hbig;clear hbig;go_wp2_with fail;go_roundw
     case rel=>exact⟨4+1,by omega,by go_num,λi hi=>by rcases(by omega:i<4∨i=4)with q|q;exact iL.out i q;rw [q];have:=kY.out;simp only [partOf];omega,xG.out⟩
     case measure=>simp only [intOf];omega
end Go.Proofs.YtbfbabbcdochjaaGreatDoor
