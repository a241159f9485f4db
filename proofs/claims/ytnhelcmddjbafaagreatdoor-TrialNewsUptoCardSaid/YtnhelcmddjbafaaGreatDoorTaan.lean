import Derived.Test.YtnhelcmddjbafaaGreatDoorTaam
set_option maxHeartbeats 4000000
set_option maxRecDepth 100000
open Go.Proofs.Tryz
namespace Go.Proofs.YtnhelcmddjbafaaGreatDoor
open Go.RowKit
section
open Sq Mc
theorem Xr:gB prog 171=true:=by kernel_rfl
theorem U1:dw prog 171=some 14:=by kernel_rfl
attribute [go_sem] Xr U1
theorem J6:gB prog 227=true:=by kernel_rfl
theorem GY:dw prog 227=some 5:=by kernel_rfl
theorem Ag {dst} {eY} {x} {pos} {after} {guard} {a} {w} {K} {Q:Exit->Act->World->Prop} (hx:eG (a.eval x)=true) (hh:has w (aL (a.eval x)) (aM (a.eval x)) 5=true):
 Oper.wp prog ⟨dst,.load 227 x,eY,pos,after,guard⟩ a w K Q=K (a.put dst (.agg (gets w (aL (a.eval x)) (aM (a.eval x)) 5))) w:=bB 5 J6 GY hx hh
attribute [go_sem] J6 GY
attribute [go_sem↓high] Ag
attribute [go_sem high] Ag
def only (F:SF):Pr:=⟨⟨#[]⟩,0,[],[],F,.nil,[],.nil,⟨#[]⟩,.nil,.nil⟩
theorem pO (F:SF):dE (only F)=F.size:=by simp [dE,only,SF.size]
abbrev GI (s:iu):Pc:=⟨⟨#[]⟩,0,⟨none,0,0⟩,⟨none,0,0⟩,s,⟨none,0,0⟩,⟨none,0,0⟩,⟨none,0,0⟩,⟨#[]⟩,⟨none,0,0⟩,⟨none,0,0⟩⟩
theorem xg {w} {N} {s} {F:SF} (h:jc w N s.A s.n F):lZ w N (GI s) (only F):=by
 have f (k:Nat):Fits 0 k:=by unfold Fits;omega
 have hI:VX w N none 0 []:=⟨rfl,f 8,λv hv=>by simp at hv,0,0,λh=>by omega,λh=>by omega⟩;have hV:rA w N none 0 []:=⟨rfl,f 40,λv hv=>by simp at hv,0,0,λh=>by omega,λh=>by omega⟩;have hS:jc w N none 0 .nil:=⟨rfl,f 112,0,0,λh=>by omega,trivial⟩;exact⟨rfl,de _,rfl,by show aI 0;unfold aI;omega,hI,hV,h,hS,hV,hS,rfl,de _,hS,hS⟩
abbrev st5 (p:Pr):Array Value:=#[.int .i64 (br p 0:Nat),.int .i64 (br p 1:Nat),.int .i64 (br p 2:Nat),.int .i64 (br p 3:Nat),.int .i64 (br p 4:Nat)]
abbrev yo (c:Pc):Array Value:=#[c.start.v,c.turn.v,c.ci.v,c.quiet.v,c.bP.v]
theorem alA {F M:World->Option Addr->Nat->Nat->Prop} {G:Prop} (h:(∀W A a b,F W A a b->M W A a b)->G) (h2:∀W A a b,F W A a b->M W A a b):G:=h h2
abbrev kd0 (p:Pr) (aP:Int) (A:Option Addr) (n cp:Nat) (s:iu):Cd:=⟨cells p.vars,aP,s,⟨A,n,cp⟩,⟨none,0,0⟩,⟨none,0,0⟩,⟨none,0,0⟩,⟨none,0,0⟩,⟨none,0,0⟩,br p⟩
def ri (w:World) (lo:Nat) (s:iu) (l:List Ins):Prop:=s.n=l.length/\∃b,s.A=some ⟨b,0,none⟩/\lo<b/\Row w b 0 (cM l)
theorem ri.kept {S} {w w'} {lo} {s} {l:List Ins} (h:ri w lo s l) (hk:Kept S w w') (hS:∀i,S i->i<=lo):ri w' lo s l:=by
 obtain⟨h1,b,h2,h3,h4⟩:=h;exact⟨h1,b,h2,h3,h4.kept hk (λq=>by have:=hS b q;omega)⟩
theorem ri.below {w} {lo} {s} {l:List Ins} (h:ri w lo s l):EV w w.heap.size s l:=by
 obtain⟨h1,b,h2,h3,h4⟩:=h;exact⟨h1,b,h2,h4.lt,h4⟩
theorem ri.gF {w} {base lo} {s} {l:List Ins} (h:w.ownsRow base 71 4 s.v s.n (cM l)) (hl:0<l.length) (hb:lo<base):ri w lo s l:=by
 have hn:s.n=l.length:=by
  have:=h.1;rw [jk]at this
  omega
 obtain⟨g,c,e,hr,hg,-⟩:=fq h ad ae;obtain⟨A,n,cc⟩:=s;simp only [iu.v,Value.slice.injEq]at e;exact⟨hn,g,e.1,by omega,hr⟩
abbrev kdI (p:Pr) (aP:Int) (A:Option Addr) (n cp:Nat) (s:iu) (I:Nat->iu):Cd:=⟨cells p.vars,aP,s,⟨A,n,cp⟩,I 0,I 1,I 2,I 3,I 4,br p⟩
def alr (W7:World) (p:Pr) (aP:Int) (n:Nat) (W:World) (A:Option Addr) (cp cb:Nat):Prop:=
 al W7 W/\rA W cb A n p.params/\aj W cb 171 (kd0 p aP A n cp ⟨none,0,0⟩).c/\W7.heap.size<=cb
theorem Kp (c) (p) (N) (w) (rT:5<N) (hN:N<=w.heap.size) (hP:lZ w N c p) (hL:ew w) (hz:dE p<=1099511627776):
 Calls prog 98 #[.agg c.cells] w λe w'=>al w w'/\vK p w' e:=by
 have y0:=dz w (.cells c.cells 163);have hB:=bN w 163 c.cells;have HP:=J (hP.ext y0 hN);have VR:=J (hL.ext y0);have CK:=ay hN y0.size;obtain⟨X,hX⟩:=nm' (check p);have HX:=J hX;have HZ:=J hz;clear hP hL hX hz;go_enter func98,ntmps98;go_upto_region 1 with(fail);generalize (w.alloc (.cells c.cells 163))=W1 at y0 hB HP VR CK⊢;generalize w.heap.size=pb at hB⊢;have HB:=J hB;have i1:=bH hB;have i2:=bG hB;have i3:=hB.lt;have bT:=J y0;have Hw:=J CK;clear hB;go_wp2_with fail;refine kU (P3 c p N _ rT CK HP.o VR.o) λW2 y2=>?_;clear i1 i2 i3 y0;rw [<-HX.o];have fg:=J y2
 cases X with
 |some f=>
  have gM:(f.e !=0)=true:=bne_iff_ne.2 (alG p f HX.o.symm);have y3:=dz W2 (.cells #[.int .i64 f.e,.string f.name] 225);have hF:=bN W2 225 #[.int .i64 f.e,.string f.name];clear y2;rw [show gf (some f)=#[.int .i64 f.e,.string f.name]from rfl];go_upto_region 2 with(fail);generalize (W2.alloc (.cells #[.int .i64 f.e,.string f.name] 225))=W3 at y3 hF⊢;generalize W2.heap.size=fb at hF⊢;have j1:=bC hF;have j2:=hF.lt;have eP:=J y3;clear y3;go_upto_region 3 with(fail)
  go_quiet (fail)
  go_wp2_with fail
  go_ret2
  exact⟨(bT.o.trans fg.o).trans (Kept.drewN eP.o _),.bad f HX.o.symm⟩
 |none=>
  have lX:=J (Bd.of HX.o.symm HZ.o);have y3:=dz W2 (.cells #[.int .i64 0,.string ⟨#[]⟩] 225);have hF:=bN W2 225 #[.int .i64 0,.string ⟨#[]⟩];rw [show gf none=#[.int .i64 0,.string ⟨#[]⟩]from rfl];go_upto_region 2 with(fail);generalize (W2.alloc (.cells #[.int .i64 0,.string ⟨#[]⟩] 225))=W3 at y3 hF⊢;have eP:=J (y2.trans y3);clear y2;generalize W2.heap.size=fb at hF⊢;have j1:=bC hF;have j2:=hF.lt;have ot:=J (HB.o.ext eP.o);clear y3;have i1:=bC ot.o;have i2:=ot.o.lt;go_upto_region 4 with(fail);have y5:=dz W3 (.cells (yo c) 227);have hA:=bN W3 227 (yo c);clear j1 j2;go_upto_region 5 with(fail);generalize (W3.alloc (.cells (yo c) 227))=W5 at y5 hA⊢;generalize W3.heap.size=ab at hA⊢;have uz:=J (eP.o.trans y5);have⟨tN,M6,HL5,HA5,M5⟩:=J5' (ot.o.ext y5) (HP.o.ext uz.o Hw.o) (VR.o.ext uz.o) hA (ay Hw.o uz.o.size);clear y5 hA i1 i2;have i1:=bH HA5.o;have i2:=bG HA5.o;have i3:=HA5.o.lt;clear CK;go_upto_region 6 with(fail);clear i1 i2 i3
  go_loopw [34] (λt34 wr=>∃(j:Nat),j<=5/\t34=.int .i64 j/\(∀i,i<j->(partOf p i).size<=256)/\al W5 wr) (λt34 _=>5 - (intOf t34).toNat)
  case atStart=>exact⟨0,by omega,rfl,λi hi=>by omega,kR _ _⟩
  case round=>
   obtain⟨j,hj,rfl,hall,hk⟩:=hrel;have i':=J hall;have HK:=J hk;clear hall hk
   by_cases Br:j=5
   .subst Br
    have i1:=bH (tN.o.ext HK.o);have i2:=bG (tN.o.ext HK.o);have i3:=(tN.o.ext HK.o).lt;go_wp2_with fail;refine(NS c p N _ (ay M5.o HK.o.size) (M6.o.ext HK.o M5.o) lX.o.okK).mono ?_;rintro e w6 ⟨hd,y6⟩;clear i1 i2 i3;have Ht:=J (HK.o.trans y6);have Bi:=J (show¬nR p from λ⟨i,hi,h⟩=>by have:=i'.o i hi;omega);clear y6
    rcases hd with⟨hall,rfl⟩|⟨hex,rfl⟩
    rotate_left
    .have HEX:=J hex
     clear hex;have y7:=dz w6 (.cells #[.int .i64 0,.int .i64 0,.int .i64 0,.int .i64 0,.int .i64 0] 169);go_upto_region 12 with(fail);generalize (w6.alloc (.cells #[.int .i64 0,.int .i64 0,.int .i64 0,.int .i64 0,.int .i64 0] 169))=w7 at y7⊢;have Eu:=J y7;clear y7;go_wp2_with fail
     go_ret2
     exact⟨(bT.o.trans uz.o).trans (Ht.o.trans Eu.o),.steps HX.o.symm Bi.o HEX.o⟩
    have aoz:=J hall;clear hall;have y7:=dz w6 (.cells (st5 p) 169);have hM:=bN w6 169 (st5 p);go_upto_region 12 with(fail);generalize (w6.alloc (.cells (st5 p) 169))=w7 at y7 hM⊢;generalize w6.heap.size=sb at hM⊢;have Eu:=J (Ht.o.trans y7);have EQ:=J hM;clear y7 hM;go_upto_region 14 with(fail);apply alA (F:=alr w7 p c.aP c.params.n)
    case h=>
     intro jX;have EW:=J jX;clear jX;refine WB (λwz=>al w7 wz) (.op 0 1 (.op 2 2 (.op 3 1 (.op 4 2 (.op 5 1 (.op 7 1 (.op 1 0 (.op 6 0 (.op 8 2 (.op 9 0 (.op 10 2 .nil))))))))))) ?_;refine WC ?_;have⟨QU,EL,HP7,HN7⟩:=J4' (pj w7) (tN.o.ext Eu.o) (M6.o.ext Eu.o M5.o) (ay M5.o Eu.o.size)
     (repeat (first|refine oh ?_|((apply c_);(· exact QU.o);(· go_simp);(· (intro w1 hS;have d0:=bX EL.o hS;have d1:=bH d0;have d2:=bG d0;have d3:=d0.lt;have d4:=bC d0;have e0:=bX EQ.o hS;have e1:=bH e0;have e2:=bG e0;have e3:=e0.lt;go_simp;try with_reducible rfl));refine iR ?_)|((apply cZ);(· exact QU.o);(· go_simp);refine iR ?_)))
     refine cw (λK hK=>?_);go_simp;go_wp2_with fail;refine kU (DI c p N _ (ay HN7.o (QU.o).size) (HP7.o.ext (QU.o) HN7.o)) λw8 EB=>?_;have y8:=(QU.o).trans EB;refine hK.out _ _ (λ_=>y8) ?_;clear hK K
     (repeat (first|refine oh ?_|((apply c_);(· exact y8);(· go_simp);(· (intro w1 hS;have d0:=bX EL.o hS;have d1:=bH d0;have d2:=bG d0;have d3:=d0.lt;have d4:=bC d0;have e0:=bX EQ.o hS;have e1:=bH e0;have e2:=bG e0;have e3:=e0.lt;go_simp;try with_reducible rfl));refine iR ?_)|((apply cZ);(· exact y8);(· go_simp);refine iR ?_)))
     refine cw (λK hK=>?_);go_simp;go_wp2_with fail;refine(Qo c.params.A c.params.c N p.params c.params.n _ (rA.kept HP7.o.params (y8) (λ_ q=>q.elim)) (by have:=HP7.o.params.1;have:=lX.o.np;omega)).mono ?_;rintro e w9 ⟨A',c',rfl,hv9,r_⟩;have y9:=(y8).trans r_;refine hK.out _ _ (λ_=>y9) ?_;clear hK K
     (repeat (first|refine oh ?_|((apply c_);(· exact y9);(· go_simp);(· (intro w1 hS;have d0:=bX EL.o hS;have d1:=bH d0;have d2:=bG d0;have d3:=d0.lt;have d4:=bC d0;have e0:=bX EQ.o hS;have e1:=bH e0;have e2:=bG e0;have e3:=e0.lt;go_simp;try with_reducible rfl));refine iR ?_)|((apply cZ);(· exact y9);(· go_simp);refine iR ?_)))
     refine JQ ?_;have ya:al w9 (w9.alloc (.cells (kd0 p c.aP A' c.params.n c' ⟨none,0,0⟩).c 171)):=dz w9 _;have zD:=bN w9 171 (kd0 p c.aP A' c.params.n c' ⟨none,0,0⟩).c;have xR:w7.heap.size<=w9.heap.size:=y9.size;have hv:=rA.kept (hv9) ya (λ_ q=>q.elim);have yb:=y9.trans ya;clear ya;generalize (w9.alloc (.cells (kd0 p c.aP A' c.params.n c' ⟨none,0,0⟩).c 171))=W9 at yb zD hv⊢;generalize w9.heap.size=cb at zD xR hv⊢;exact EW.o _ _ _ _ ⟨yb,hv,zD,xR⟩
    intro w9 pA pc cb YB;obtain⟨y9,hv9,zD,jd⟩:=YB;have⟨Hr,HP9,HA9,sR,HV9,HC9,HNC,eJ⟩:=J8' (tN.o.ext (Eu.o.trans y9)) (M6.o.ext (Eu.o.trans y9) M5.o) (HA5.o.ext (Eu.o.trans y9)) (Eu.o.trans y9) hv9 zD (show N<=cb by have:=M5.o;have:=Eu.o.size;omega) (show ab<cb/\pb<cb/\cb<w9.heap.size/\w.heap.size<=cb by have:=Eu.o.size;have:=HA5.o.lt;have:=tN.o.lt;have:=zD.lt;have:=bT.o.size;have:=uz.o.size;omega);obtain⟨B,hB⟩:=nm' w9.heap.size;have HBB:=J hB;clear y9 hv9 zD jd hB;obtain⟨hvn,hvf,uS,vb,vo,hvA,hvE⟩:=HP9.o.vars;have hvm:=hvf.max ad;have⟨HVN,HVA,HVE⟩:=J3' hvn hvA hvE;clear hvn hvf uS hvA hvE;have a1:=bC Hr.o;have a2:=Hr.o.lt;go_wp2_with fail;clear a1 a2
    go_loopw [63] (λt63 wr=>∃(j:Nat) (s:iu),j<=c.vars.n/\t63=.int .i64 j/\wr.ownsRow B 21 1 s.v s.n (bJ (dM (p.vars.take j)))/\aj wr cb 171 (kd0 p c.aP pA c.params.n pc s).c/\Kept (·=cb) w9 wr) (λt63 _=>c.vars.n - (intOf t63).toNat)
    case atStart=>exact⟨0,⟨none,0,0⟩,de _,rfl,⟨by simp [bJ,dM],.inl ⟨rfl,rfl⟩⟩,HC9.o,kR _ _⟩
    case round=>
     obtain⟨j,s,hj,rfl,ho,hc,hk⟩:=hrel;have⟨HOJ,HCJ,vM⟩:=J3' ho hc hk;clear ho hc hk
     by_cases aX:j<c.vars.n
     .have ft:j<p.vars.length:=by have:=HVN.o;omega
      have iI:(j:Int)<c.vars.n:=by omega
      have Im:=HVA.o ad;obtain⟨hvb,aG⟩:=HVE.o ad;have Ni:=aG.kept vM.o (by have:=HNC.o;omega);obtain⟨u2,u3⟩:=oL Ni j ft;have u1:=Ni.lt;have FM:=J (KA ft);have HVK:=J (ow p.vars [] lX.o.vars p.vars[j] (cK _));generalize p.vars[j]=v at u3 FM HVK;clear aG Ni hvb;have y0:=dz wr (.cells (aO v) 232);have cG:=bN wr 232 (aO v);rw [Im];go_upto_region 18 with(fail);generalize (wr.alloc (.cells (aO v) 232))=W6 at y0 cG⊢;generalize wr.heap.size=g at cG⊢;have⟨HG6,ER,xX,Ht⟩:=J4' cG (aQ HOJ.o y0) (HCJ.o.ext y0) (vM.o.trans (Kept.ext y0));clear y0 cG u1 u2 u3 Im
      obtain⟨m,hm,jG⟩:∃m:Nat,max v.size 1=(m:Int)/\m=(Sq.fO v).toNat:=by
       have:=HVK.o;refine⟨(Sq.fO v).toNat,?_,rfl⟩;have:=tJ v;unfold Sq.fO at*
       split at this<;>omega
      have HM:=J jG;obtain⟨z,hz0⟩:=nm' (min (max 0 v.low) v.high);have HZV:=J hz0;have aiC:=J (show m<=64 by have:=HVK.o;omega);clear jG hz0;have g1:=bC HG6.o;have g2:=HG6.o.lt;go_upto_region 19 with(fail)
      try rw [hm]
      clear g1 g2 hm
      go_loopw [70] (λt70 wr=>∃(i:Nat) (s:iu),i<=m/\t70=.int .i64 i/\wr.ownsRow B 21 1 s.v s.n (bJ (dM (p.vars.take j)++List.replicate i z))/\aj wr cb 171 (kd0 p c.aP pA c.params.n pc s).c/\aj wr g 232 (aO v)/\Kept (·=cb) w9 wr) (λt70 _=>m - (intOf t70).toNat)
      case atStart=>exact⟨0,s,de _,rfl,by simpa using ER.o,xX.o,HG6.o,Ht.o⟩
      case round=>
       obtain⟨i,q,hi,rfl,ho,hc,hg,hk⟩:=hrel;have⟨Nx,BV,HGI,qV⟩:=J4' ho hc hg hk;clear ho hc hg hk
       by_cases Ot:i<m
       .have akq:(i:Int)<m:=by omega
        go_upto_region 20 with(fail)
        have V7:IntKind.i32.wrap (min (max 0 v.low) v.high)=z:=by
         have h:=HVK.o;rw [HZV.o];refine Vq ?_;unfold ax at*
         omega
        have akB:¬q.v.ownBlock=some cb:=λe=>cY Nx.o (E':=171) ae cb e _ _ BV.o;have hng:¬q.v.ownBlock=some g:=λe=>cY Nx.o (E':=232) ae g e _ _ HGI.o;have BZ:=J (df akB hng);clear akB hng
        have hqn:q.n<=128:=by
         have h1:=Nx.o.1;have h2:=AH (l:=p.vars) j lX.o.cells;have h3:=aiC.o;rw [fZ,cy,List.length_replicate]at h1
         omega
        have HQN:=J hqn;clear hqn;refine eW (λwz=>Kept (λi=>q.v.ownBlock=some i) wr wz) [(0,2),(1,2),(2,2),(3,2),(4,1),(5,2),(6,1),(7,1),(8,2),(9,1),(10,1),(11,1),(12,0),(13,0),(14,2),(15,2),(16,0)] ?_;refine eX ?_;have yd:Kept (λi=>q.v.ownBlock=some i) wr wr.drew:=(kR _ wr).drew
        repeat first|refine bV ?_|refine cF yd (by intro w1 hS;have d0:=bK BV.o hS BZ.o.1;have d1:=bC d0;have d2:=d0.lt;have e0:=bK HGI.o hS BZ.o.2;have e1:=bC e0;have e2:=e0.lt;exact fE) ?_|refine cD yd ?_
        refine ap (λK hK=>?_);go_simp;have yA:al wr (wr.alloc (.cells #[.int .i32 z] 21)).drew:=(dS wr _).drew;refine hK.out _ _ (λ_=>Kept.ext yA) ?_;clear hK K
        have hrz:Row (wr.alloc (.cells #[.int .i32 z] 21)).drew wr.heap.size 0 (bJ [z]):=by
         have h:=Row.cR (bN wr 21 #[.int .i32 z]);exact h.ext (kR _ _).drew
        obtain⟨v',wa,RL,Fo,RB⟩:=J' _ B q.v q.n _ (aQ Nx.o yA) wr.heap.size 0 1 1 [z] rfl hrz aaj (by rw [HBB.o];exact ay qV.o.size yA.size);obtain⟨A',oU,rfl⟩:=oI Fo;have yb:Kept (λi=>q.v.ownBlock=some i) wr wa:=(Kept.ext yA).trans RB;have QO:=J Fo;have HYB:=J yb;clear Fo RB yA hrz yd;refine ap (λK hK=>?_);refine se rfl ?_;refine Lib.wp_append_run _ _ _ _ _ rfl _ _ rfl rfl _ _ RL ?_;refine hK.out _ _ (λ_=>yb) ?_;clear hK K RL yb;have hcw:=bK BV.o HYB.o BZ.o.1;have c1:=bC hcw;have c2:=hcw.lt;have c3:=aj.frozen hcw;have tO:=J hcw;clear hcw;refine fc ?_;have hna:¬(Value.slice A' (q.n+1) oU).ownBlock=some cb:=λe=>cY QO.o (E':=171) ae cb e _ _ tO.o;have fQ:Kept (·=cb) wa (wa.setCell ⟨cb,2,none⟩ (.slice A' (q.n+1) oU)):=Kept.setCell (kR _ _) _ _ (λ_=>rfl);have HO8:=J (dy QO.o fQ (λx hx e=>by subst e;exact hna hx));have vL:=J (show aj (wa.setCell ⟨cb,2,none⟩ (.slice A' (q.n+1) oU)) cb 171 (kd0 p c.aP pA c.params.n pc ⟨A',q.n+1,oU⟩).c from aj.fw tO.o 2 _);have hgc:¬g=cb:=λe=>by have h1:=HGI.o;have h2:=BV.o;rw [e]at h1;unfold aj at h1 h2;rw [h1]at h2;injection h2 with h2;injection h2 with _ h2;exact absurd h2 ae
        have HG8:=J (bK (bK HGI.o HYB.o BZ.o.2) fQ hgc);have EO:=J ((qV.o.trans' (S':=λi=>q.v.ownBlock=some i) HYB.o (λx hx e=>by have:=(Nx.o.lt x e).1;have:=HBB.o;omega)).trans fQ);clear c1 c2 c3 hna fQ hgc V7;generalize (wa.setCell ⟨cb,2,none⟩ (.slice A' (q.n+1) oU))=w8 at HO8 vL HG8 EO⊢;have apB:=aiC.o;go_wp2_with fail;go_roundw
        case rel=>exact⟨i+1,⟨A',q.n+1,oU⟩,Ot,by go_num,by rw [List.replicate_succ',<-fy];exact HO8.o,vL.o,HG8.o,EO.o⟩
        case measure=>simp only [intOf];omega
       .obtain rfl:i=m:=by omega
        have HOE:=J (show wr.ownsRow B 21 1 q.v q.n (bJ (dM (p.vars.take (j+1))))from by rw [FM.o,<-HZV.o,<-HM.o];exact Nx.o);go_wp2_with fail;go_roundw
        case rel=>exact⟨j+1,q,aX,by go_num,HOE.o,BV.o,qV.o⟩
        case measure=>simp only [intOf];omega
     .obtain rfl:j=c.vars.n:=by omega
      have⟨HOF,HBJ,HAJ,HPJ,HVJ⟩:=J5' (show wr.ownsRow B 21 1 s.v s.n (bJ (dM p.vars))from by have h:=HOJ.o;rw [HVN.o,lf]at h;exact h) (bK Hr.o vM.o Qz) (bK HA9.o vM.o Qz) (HP9.o.kept vM.o (by have:=HNC.o;have:=eJ.o;omega) (λi e=>by have:=HNC.o;omega)) (rA.kept HV9.o vM.o (λi e=>by omega));have a1:=bH HAJ.o;have a2:=bG HAJ.o;have a3:=HAJ.o.lt;go_wp2_with fail;clear a1 a2 a3
      go_loopw [91] (λt91 wx=>∃(k:Nat) (I:Nat->iu),k<=5/\t91=.int .i64 k/\aj wx cb 171 (kdI p c.aP pA c.params.n pc s I).c/\(∀i,i<k->ri wx cb (I i) (aR p i))/\Kept (·=cb) wr wx) (λt91 _=>5 - (intOf t91).toNat)
      case atStart=>exact⟨0,λ_=>⟨none,0,0⟩,by omega,rfl,HCJ.o,λi hi=>by omega,kR _ _⟩
      case round=>
       obtain⟨k,I,hk,rfl,hc,hi,KY⟩:=hrel;have⟨BV,HII,qV⟩:=J3' hc hi KY;clear hc hi KY
       by_cases mY:k=5
       .subst mY
        have HFI:=J (dy HOF.o qV.o (λx hx e=>by subst e;exact cY HOF.o (E':=171) ae _ hx _ _ HCJ.o));go_wp2_with fail
        go_ret2
        have h9:al w wr:=((bT.o.trans uz.o).trans sR.o).trans' (vM.o.trans qV.o) (λi hi e=>by have:=eJ.o;omega)
        exact⟨h9,.ok HX.o.symm Bi.o aoz.o cb _ ⟨BV.o.lt,eH _,BV.o,rfl,HP9.o.aP,vP.gF HFI.o,rA.up (rA.kept HVJ.o qV.o (λi e=>by omega)) (Nat.le_of_lt BV.o.lt),λi hi=>by
         rcases(by omega:i=0∨i=1∨i=2∨i=3∨i=4)with rfl|rfl|rfl|rfl|rfl
         .exact(HII.o 0 ad).below
         .exact(HII.o 1 ad).below
         .exact(HII.o 2 ad).below
         .exact(HII.o 3 ad).below
         .exact(HII.o 4 ad).below,λi hi=>rfl⟩⟩
       have Yu:k=0∨k=1∨k=2∨k=3∨k=4:=by omega
       clear hk mY
       rcases Yu with rfl|rfl|rfl|rfl|rfl
       .skip
        have qx:(Instr.index 227 (.agg (yo c)) (.int .i64 0)).run prog wr=.ok c.start.v wr:=pM c.start c.turn c.ci c.quiet c.bP 0 ad wr;go_upto_region 26 with(fail);clear qx;have HBI:=J (bK HBJ.o qV.o Qz);refine ME ?_;intro M7 EM;have zp:=J (show(partOf p 0).size<=256 from Nat.le_of_not_lt (λh=>Bi.o ⟨0,by omega,h⟩));refine aau ?_;intro FH yd K hK;go_wp2_with fail;refine(sj 0 ad cb N c p (cells p.vars) c.start.A c.start.n c.start.c (partOf p 0) (o5 p 0) _ (ay vl yd.size) (M7.o.ext yd vl) ((Kept.cell yd (p:=⟨cb,0,none⟩) BV.o.lt (λf=>f)).trans EM.o) FH.o.1 vq ((M7.o.ext yd vl).start) (lX.o.part 0 ad) aak (xD p (cells p.vars) 0 FH.o.1 vq vq lX.o.np) (pY p (cells p.vars) 0) aaf lX.o.np).mono ?_;rintro e w6 ⟨A',n',c',rfl,qz,zO,Ix⟩;have y6:=yd.trans qz;refine hK.out _ _ (λ_=>y6) ?_;clear hK K;have⟨xX,ER,sQ⟩:=J3' (bX BV.o y6) (show w6.ownsRow (wr.drew.heap.size+1) 71 4 (iu.v ⟨A',n',c'⟩) (iu.n ⟨A',n',c'⟩) (cM (aR p 0))from zO) y6;clear zO qz Ix y6 yd;refine aaC ?_;have fQ:Kept (·=cb) w6 (w6.setCell ⟨cb,4,none⟩ (.slice A' n' c')):=Kept.setCell (kR _ _) _ _ (λ_=>rfl);have HL6:=J (ri.gF (lo:=cb) ER.o aan aag);have vL:=J (show aj (w6.setCell ⟨cb,4,none⟩ (.slice A' n' c')) cb 171 (kdI p c.aP pA c.params.n pc s (λi=>if i=0 then⟨A',n',c'⟩else I i)).c from aj.fw xX.o 4 _)
        have QJ:=J (show∀i,i<0+1->ri (w6.setCell ⟨cb,4,none⟩ (.slice A' n' c')) cb ((λi=>if i=0 then⟨A',n',c'⟩else I i) i) (aR p i)from λi hi=>by
         by_cases e:i=0
         .subst e
          exact MU
         .simp only [e,if_false]
          exact((HII.o i ad).kept sQ.o (λ_ f=>f.elim)).kept fQ (λi e=>by omega))
        have EO:=J ((qV.o.trans (Kept.ext sQ.o)).trans fQ);clear fQ;generalize (w6.setCell ⟨cb,4,none⟩ (.slice A' n' c'))=w8 at vL QJ EO⊢;go_wp2_with fail;go_roundw
        case rel=>exact⟨0+1,_,by omega,by go_num,vL.o,QJ.o,EO.o⟩
        case measure=>simp only [intOf];omega
       .skip
        have qx:(Instr.index 227 (.agg (yo c)) (.int .i64 1)).run prog wr=.ok c.turn.v wr:=pM c.start c.turn c.ci c.quiet c.bP 1 ad wr;go_upto_region 26 with(fail);clear qx;have HBI:=J (bK HBJ.o qV.o Qz);refine ME ?_;intro M7 EM;have zp:=J (show(partOf p 1).size<=256 from Nat.le_of_not_lt (λh=>Bi.o ⟨1,by omega,h⟩));refine aau ?_;intro FH yd K hK;go_wp2_with fail;refine(sj 1 ad cb N c p (cells p.vars) c.turn.A c.turn.n c.turn.c (partOf p 1) (o5 p 1) _ (ay vl yd.size) (M7.o.ext yd vl) ((Kept.cell yd (p:=⟨cb,0,none⟩) BV.o.lt (λf=>f)).trans EM.o) FH.o.1 vq ((M7.o.ext yd vl).turn) (lX.o.part 1 ad) aak (xD p (cells p.vars) 1 FH.o.1 vq vq lX.o.np) (pY p (cells p.vars) 1) aaf lX.o.np).mono ?_;rintro e w6 ⟨A',n',c',rfl,qz,zO,Ix⟩;have y6:=yd.trans qz;refine hK.out _ _ (λ_=>y6) ?_;clear hK K;have⟨xX,ER,sQ⟩:=J3' (bX BV.o y6) (show w6.ownsRow (wr.drew.heap.size+1) 71 4 (iu.v ⟨A',n',c'⟩) (iu.n ⟨A',n',c'⟩) (cM (aR p 1))from zO) y6;clear zO qz Ix y6 yd;refine aaC ?_;have fQ:Kept (·=cb) w6 (w6.setCell ⟨cb,5,none⟩ (.slice A' n' c')):=Kept.setCell (kR _ _) _ _ (λ_=>rfl);have HL6:=J (ri.gF (lo:=cb) ER.o aan aag);have vL:=J (show aj (w6.setCell ⟨cb,5,none⟩ (.slice A' n' c')) cb 171 (kdI p c.aP pA c.params.n pc s (λi=>if i=1 then⟨A',n',c'⟩else I i)).c from aj.fw xX.o 5 _)
        have QJ:=J (show∀i,i<1+1->ri (w6.setCell ⟨cb,5,none⟩ (.slice A' n' c')) cb ((λi=>if i=1 then⟨A',n',c'⟩else I i) i) (aR p i)from λi hi=>by
         by_cases e:i=1
         .subst e
          exact MU
         .simp only [e,if_false]
          exact((HII.o i ad).kept sQ.o (λ_ f=>f.elim)).kept fQ (λi e=>by omega))
        have EO:=J ((qV.o.trans (Kept.ext sQ.o)).trans fQ);clear fQ;generalize (w6.setCell ⟨cb,5,none⟩ (.slice A' n' c'))=w8 at vL QJ EO⊢;go_wp2_with fail;go_roundw
        case rel=>exact⟨1+1,_,by omega,by go_num,vL.o,QJ.o,EO.o⟩
        case measure=>simp only [intOf];omega
       .skip
        have qx:(Instr.index 227 (.agg (yo c)) (.int .i64 2)).run prog wr=.ok c.ci.v wr:=pM c.start c.turn c.ci c.quiet c.bP 2 ad wr;go_upto_region 26 with(fail);clear qx;have HBI:=J (bK HBJ.o qV.o Qz);refine ME ?_;intro M7 EM;have zp:=J (show(partOf p 2).size<=256 from Nat.le_of_not_lt (λh=>Bi.o ⟨2,by omega,h⟩));refine aau ?_;intro FH yd K hK;go_wp2_with fail;refine(sj 2 ad cb N c p (cells p.vars) c.ci.A c.ci.n c.ci.c (partOf p 2) (o5 p 2) _ (ay vl yd.size) (M7.o.ext yd vl) ((Kept.cell yd (p:=⟨cb,0,none⟩) BV.o.lt (λf=>f)).trans EM.o) FH.o.1 vq ((M7.o.ext yd vl).ci) (lX.o.part 2 ad) aak (xD p (cells p.vars) 2 FH.o.1 vq vq lX.o.np) (pY p (cells p.vars) 2) aaf lX.o.np).mono ?_;rintro e w6 ⟨A',n',c',rfl,qz,zO,Ix⟩;have y6:=yd.trans qz;refine hK.out _ _ (λ_=>y6) ?_;clear hK K;have⟨xX,ER,sQ⟩:=J3' (bX BV.o y6) (show w6.ownsRow (wr.drew.heap.size+1) 71 4 (iu.v ⟨A',n',c'⟩) (iu.n ⟨A',n',c'⟩) (cM (aR p 2))from zO) y6;clear zO qz Ix y6 yd;refine aaC ?_;have fQ:Kept (·=cb) w6 (w6.setCell ⟨cb,6,none⟩ (.slice A' n' c')):=Kept.setCell (kR _ _) _ _ (λ_=>rfl);have HL6:=J (ri.gF (lo:=cb) ER.o aan aag);have vL:=J (show aj (w6.setCell ⟨cb,6,none⟩ (.slice A' n' c')) cb 171 (kdI p c.aP pA c.params.n pc s (λi=>if i=2 then⟨A',n',c'⟩else I i)).c from aj.fw xX.o 6 _)
        have QJ:=J (show∀i,i<2+1->ri (w6.setCell ⟨cb,6,none⟩ (.slice A' n' c')) cb ((λi=>if i=2 then⟨A',n',c'⟩else I i) i) (aR p i)from λi hi=>by
         by_cases e:i=2
         .subst e
          exact MU
         .simp only [e,if_false]
          exact((HII.o i ad).kept sQ.o (λ_ f=>f.elim)).kept fQ (λi e=>by omega))
        have EO:=J ((qV.o.trans (Kept.ext sQ.o)).trans fQ);clear fQ;generalize (w6.setCell ⟨cb,6,none⟩ (.slice A' n' c'))=w8 at vL QJ EO⊢;go_wp2_with fail;go_roundw
        case rel=>exact⟨2+1,_,by omega,by go_num,vL.o,QJ.o,EO.o⟩
        case measure=>simp only [intOf];omega
       .skip
        have qx:(Instr.index 227 (.agg (yo c)) (.int .i64 3)).run prog wr=.ok c.quiet.v wr:=pM c.start c.turn c.ci c.quiet c.bP 3 ad wr;go_upto_region 26 with(fail);clear qx;have HBI:=J (bK HBJ.o qV.o Qz);refine ME ?_;intro M7 EM;have zp:=J (show(partOf p 3).size<=256 from Nat.le_of_not_lt (λh=>Bi.o ⟨3,by omega,h⟩));refine aau ?_;intro FH yd K hK;go_wp2_with fail;refine(sj 3 ad cb N c p (cells p.vars) c.quiet.A c.quiet.n c.quiet.c (partOf p 3) (o5 p 3) _ (ay vl yd.size) (M7.o.ext yd vl) ((Kept.cell yd (p:=⟨cb,0,none⟩) BV.o.lt (λf=>f)).trans EM.o) FH.o.1 vq ((M7.o.ext yd vl).quiet) (lX.o.part 3 ad) aak (xD p (cells p.vars) 3 FH.o.1 vq vq lX.o.np) (pY p (cells p.vars) 3) aaf lX.o.np).mono ?_;rintro e w6 ⟨A',n',c',rfl,qz,zO,Ix⟩;have y6:=yd.trans qz;refine hK.out _ _ (λ_=>y6) ?_;clear hK K;have⟨xX,ER,sQ⟩:=J3' (bX BV.o y6) (show w6.ownsRow (wr.drew.heap.size+1) 71 4 (iu.v ⟨A',n',c'⟩) (iu.n ⟨A',n',c'⟩) (cM (aR p 3))from zO) y6;clear zO qz Ix y6 yd;refine aaC ?_;have fQ:Kept (·=cb) w6 (w6.setCell ⟨cb,7,none⟩ (.slice A' n' c')):=Kept.setCell (kR _ _) _ _ (λ_=>rfl);have HL6:=J (ri.gF (lo:=cb) ER.o aan aag);have vL:=J (show aj (w6.setCell ⟨cb,7,none⟩ (.slice A' n' c')) cb 171 (kdI p c.aP pA c.params.n pc s (λi=>if i=3 then⟨A',n',c'⟩else I i)).c from aj.fw xX.o 7 _)
        have QJ:=J (show∀i,i<3+1->ri (w6.setCell ⟨cb,7,none⟩ (.slice A' n' c')) cb ((λi=>if i=3 then⟨A',n',c'⟩else I i) i) (aR p i)from λi hi=>by
         by_cases e:i=3
         .subst e
          exact MU
         .simp only [e,if_false]
          exact((HII.o i ad).kept sQ.o (λ_ f=>f.elim)).kept fQ (λi e=>by omega))
        have EO:=J ((qV.o.trans (Kept.ext sQ.o)).trans fQ);clear fQ;generalize (w6.setCell ⟨cb,7,none⟩ (.slice A' n' c'))=w8 at vL QJ EO⊢;go_wp2_with fail;go_roundw
        case rel=>exact⟨3+1,_,by omega,by go_num,vL.o,QJ.o,EO.o⟩
        case measure=>simp only [intOf];omega
       .skip
        have qx:(Instr.index 227 (.agg (yo c)) (.int .i64 4)).run prog wr=.ok c.bP.v wr:=pM c.start c.turn c.ci c.quiet c.bP 4 ad wr;go_upto_region 26 with(fail);clear qx;have HBI:=J (bK HBJ.o qV.o Qz);refine ME ?_;intro M7 EM;have zp:=J (show(partOf p 4).size<=256 from Nat.le_of_not_lt (λh=>Bi.o ⟨4,by omega,h⟩));refine aau ?_;intro FH yd K hK;go_wp2_with fail;refine(sj 4 ad cb N c p (cells p.vars) c.bP.A c.bP.n c.bP.c (partOf p 4) (o5 p 4) _ (ay vl yd.size) (M7.o.ext yd vl) ((Kept.cell yd (p:=⟨cb,0,none⟩) BV.o.lt (λf=>f)).trans EM.o) FH.o.1 vq ((M7.o.ext yd vl).bP) (lX.o.part 4 ad) aak (xD p (cells p.vars) 4 FH.o.1 vq vq lX.o.np) (pY p (cells p.vars) 4) aaf lX.o.np).mono ?_;rintro e w6 ⟨A',n',c',rfl,qz,zO,Ix⟩;have y6:=yd.trans qz;refine hK.out _ _ (λ_=>y6) ?_;clear hK K;have⟨xX,ER,sQ⟩:=J3' (bX BV.o y6) (show w6.ownsRow (wr.drew.heap.size+1) 71 4 (iu.v ⟨A',n',c'⟩) (iu.n ⟨A',n',c'⟩) (cM (aR p 4))from zO) y6;clear zO qz Ix y6 yd;refine aaC ?_;have fQ:Kept (·=cb) w6 (w6.setCell ⟨cb,8,none⟩ (.slice A' n' c')):=Kept.setCell (kR _ _) _ _ (λ_=>rfl);have HL6:=J (ri.gF (lo:=cb) ER.o aan aag);have vL:=J (show aj (w6.setCell ⟨cb,8,none⟩ (.slice A' n' c')) cb 171 (kdI p c.aP pA c.params.n pc s (λi=>if i=4 then⟨A',n',c'⟩else I i)).c from aj.fw xX.o 8 _)
        have QJ:=J (show∀i,i<4+1->ri (w6.setCell ⟨cb,8,none⟩ (.slice A' n' c')) cb ((λi=>if i=4 then⟨A',n',c'⟩else I i) i) (aR p i)from λi hi=>by
         by_cases e:i=4
         .subst e
          exact MU
         .simp only [e,if_false]
          exact((HII.o i ad).kept sQ.o (λ_ f=>f.elim)).kept fQ (λi e=>by omega))
        have EO:=J ((qV.o.trans (Kept.ext sQ.o)).trans fQ);clear fQ;generalize (w6.setCell ⟨cb,8,none⟩ (.slice A' n' c'))=w8 at vL QJ EO⊢;go_wp2_with fail;go_roundw
        case rel=>exact⟨4+1,_,by omega,by go_num,vL.o,QJ.o,EO.o⟩
        case measure=>simp only [intOf];omega
   have Yu:j=0∨j=1∨j=2∨j=3∨j=4:=by omega
   clear hj Br
   rcases Yu with rfl|rfl|rfl|rfl|rfl
   .skip
    have qx:(Instr.index 227 (.agg (yo c)) (.int .i64 0)).run prog wr=.ok c.start.v wr:=pM c.start c.turn c.ci c.quiet c.bP 0 ad wr;go_wp2_with fail;refine kU (nt (GI c.start) (only p.start) N _ (ay M5.o HK.o.size) (xg (M6.o.start.ext HK.o M5.o))) λw4 y4=>?_;have xZ:=J (HK.o.trans y4)
    have hw:jw ((dE (only p.start):Nat):Int)=(p.start.size:Nat):=by
     rw [pO,eF];have:=lX.o.psz 0 ad;simp only [partOf]at this
     omega
    rw [hw];clear hw qx y4
    by_cases hbig:256<p.start.size
    .have hg:decide ((256:Int)<(p.start.size:Int))=true:=cO ad
     have mv:=J hbig;clear hbig;go_wp2_with fail
     go_ret2
     exact⟨(bT.o.trans uz.o).trans xZ.o,.long HX.o.symm ⟨0,by omega,mv.o⟩⟩
    .have hg:decide ((256:Int)<(p.start.size:Int))=false:=cU ad
     have mv:=J hbig;clear hbig;go_wp2_with fail;go_roundw
     case rel=>exact⟨0+1,by omega,by go_num,λi hi=>by rcases(by omega:i<0∨i=0)with q|q;exact i'.o i q;rw [q];have:=mv.o;simp only [partOf];omega,xZ.o⟩
     case measure=>simp only [intOf];omega
   .skip
    have qx:(Instr.index 227 (.agg (yo c)) (.int .i64 1)).run prog wr=.ok c.turn.v wr:=pM c.start c.turn c.ci c.quiet c.bP 1 ad wr;go_wp2_with fail;refine kU (nt (GI c.turn) (only p.turn) N _ (ay M5.o HK.o.size) (xg (M6.o.turn.ext HK.o M5.o))) λw4 y4=>?_;have xZ:=J (HK.o.trans y4)
    have hw:jw ((dE (only p.turn):Nat):Int)=(p.turn.size:Nat):=by
     rw [pO,eF];have:=lX.o.psz 1 ad;simp only [partOf]at this
     omega
    rw [hw];clear hw qx y4
    by_cases hbig:256<p.turn.size
    .have hg:decide ((256:Int)<(p.turn.size:Int))=true:=cO ad
     have mv:=J hbig;clear hbig;go_wp2_with fail
     go_ret2
     exact⟨(bT.o.trans uz.o).trans xZ.o,.long HX.o.symm ⟨1,by omega,mv.o⟩⟩
    .have hg:decide ((256:Int)<(p.turn.size:Int))=false:=cU ad
     have mv:=J hbig;clear hbig;go_wp2_with fail;go_roundw
     case rel=>exact⟨1+1,by omega,by go_num,λi hi=>by rcases(by omega:i<1∨i=1)with q|q;exact i'.o i q;rw [q];have:=mv.o;simp only [partOf];omega,xZ.o⟩
     case measure=>simp only [intOf];omega
   .skip
    have qx:(Instr.index 227 (.agg (yo c)) (.int .i64 2)).run prog wr=.ok c.ci.v wr:=pM c.start c.turn c.ci c.quiet c.bP 2 ad wr;go_wp2_with fail;refine kU (nt (GI c.ci) (only p.ci) N _ (ay M5.o HK.o.size) (xg (M6.o.ci.ext HK.o M5.o))) λw4 y4=>?_;have xZ:=J (HK.o.trans y4)
    have hw:jw ((dE (only p.ci):Nat):Int)=(p.ci.size:Nat):=by
     rw [pO,eF];have:=lX.o.psz 2 ad;simp only [partOf]at this
     omega
    rw [hw];clear hw qx y4
    by_cases hbig:256<p.ci.size
    .have hg:decide ((256:Int)<(p.ci.size:Int))=true:=cO ad
     have mv:=J hbig;clear hbig;go_wp2_with fail
     go_ret2
     exact⟨(bT.o.trans uz.o).trans xZ.o,.long HX.o.symm ⟨2,by omega,mv.o⟩⟩
    .have hg:decide ((256:Int)<(p.ci.size:Int))=false:=cU ad
     have mv:=J hbig;clear hbig;go_wp2_with fail;go_roundw
     case rel=>exact⟨2+1,by omega,by go_num,λi hi=>by rcases(by omega:i<2∨i=2)with q|q;exact i'.o i q;rw [q];have:=mv.o;simp only [partOf];omega,xZ.o⟩
     case measure=>simp only [intOf];omega
   .skip
    have qx:(Instr.index 227 (.agg (yo c)) (.int .i64 3)).run prog wr=.ok c.quiet.v wr:=pM c.start c.turn c.ci c.quiet c.bP 3 ad wr;go_wp2_with fail;refine kU (nt (GI c.quiet) (only p.quiet) N _ (ay M5.o HK.o.size) (xg (M6.o.quiet.ext HK.o M5.o))) λw4 y4=>?_;have xZ:=J (HK.o.trans y4)
    have hw:jw ((dE (only p.quiet):Nat):Int)=(p.quiet.size:Nat):=by
     rw [pO,eF];have:=lX.o.psz 3 ad;simp only [partOf]at this
     omega
    rw [hw];clear hw qx y4
    by_cases hbig:256<p.quiet.size
    .have hg:decide ((256:Int)<(p.quiet.size:Int))=true:=cO ad
     have mv:=J hbig;clear hbig;go_wp2_with fail
     go_ret2
     exact⟨(bT.o.trans uz.o).trans xZ.o,.long HX.o.symm ⟨3,by omega,mv.o⟩⟩
    .have hg:decide ((256:Int)<(p.quiet.size:Int))=false:=cU ad
     have mv:=J hbig;clear hbig;go_wp2_with fail;go_roundw
     case rel=>exact⟨3+1,by omega,by go_num,λi hi=>by rcases(by omega:i<3∨i=3)with q|q;exact i'.o i q;rw [q];have:=mv.o;simp only [partOf];omega,xZ.o⟩
     case measure=>simp only [intOf];omega
   .skip
    have qx:(Instr.index 227 (.agg (yo c)) (.int .i64 4)).run prog wr=.ok c.bP.v wr:=pM c.start c.turn c.ci c.quiet c.bP 4 ad wr;go_wp2_with fail;refine kU (nt (GI c.bP) (only p.bP) N _ (ay M5.o HK.o.size) (xg (M6.o.bP.ext HK.o M5.o))) λw4 y4=>?_;have xZ:=J (HK.o.trans y4)
    have hw:jw ((dE (only p.bP):Nat):Int)=(p.bP.size:Nat):=by
     rw [pO,eF];have:=lX.o.psz 4 ad;simp only [partOf]at this
     omega
    rw [hw];clear hw qx y4
    by_cases hbig:256<p.bP.size
    .have hg:decide ((256:Int)<(p.bP.size:Int))=true:=cO ad
     have mv:=J hbig;clear hbig;go_wp2_with fail
     go_ret2
     exact⟨(bT.o.trans uz.o).trans xZ.o,.long HX.o.symm ⟨4,by omega,mv.o⟩⟩
    .have hg:decide ((256:Int)<(p.bP.size:Int))=false:=cU ad
     have mv:=J hbig;clear hbig;go_wp2_with fail;go_roundw
     case rel=>exact⟨4+1,by omega,by go_num,λi hi=>by rcases(by omega:i<4∨i=4)with q|q;exact i'.o i q;rw [q];have:=mv.o;simp only [partOf];omega,xZ.o⟩
     case measure=>simp only [intOf];omega
def mR (w:World) (N:Nat) (s:iu) (l:List Int):Prop:=s.n=l.length/\(∀x∈l,ax x)/\∃b off,(0<s.n->s.A=some ⟨b,off,none⟩)/\(0<s.n->b<N/\Row w b off (bJ l))
theorem mR.kept {S} {w w'} {N} {s} {l:List Int} (h:mR w N s l) (hk:Kept S w w') (hS:∀i,i<N->¬S i):mR w' N s l:=by
 obtain⟨h1,h2,b,off,h3,h4⟩:=h;exact⟨h1,h2,b,off,h3,λh0=>⟨(h4 h0).1,(h4 h0).2.kept hk (hS b (h4 h0).1)⟩⟩
theorem mR.ext {w w'} {N} {s} {l} (h:mR w N s l) (hk:al w w'):mR w' N s l:=h.kept hk (λ_ _ f=>f)
theorem mR.mono {w} {N N'} {s} {l} (h:mR w N s l) (hN:N<=N'):mR w N' s l:=by
 obtain⟨h1,h2,b,off,h3,h4⟩:=h;exact⟨h1,h2,b,off,h3,λh0=>⟨by have:=(h4 h0).1;omega,(h4 h0).2⟩⟩
theorem vP.words {w} {N} {s} {l} (h:vP w N s l) (hl:∀x∈l,ax x):mR w N s l:=by
 obtain⟨h1,h2⟩:=h
 by_cases h0:0<s.n
 .obtain⟨b,a1,a2,a3⟩:=h2 h0
  exact⟨h1,hl,b,0,λ_=>a1,λ_=>⟨a2,a3⟩⟩
 .exact⟨h1,hl,0,0,λh=>absurd h h0,λh=>absurd h h0⟩
def E8 (l:List Vr) (a:List Int):Bool:=(l.zip a).any λx=>decide (x.2<x.1.low)||decide (x.1.high<x.2)
theorem S7 {l} {a} (i) (h1) (h2:i<a.length) (h:a[i]<l[i].low∨l[i].high<a[i]):E8 l a=true:=by
 unfold E8;rw [List.any_eq_true];have hz:i<(l.zip a).length:=by rw [List.length_zip];omega
 refine⟨(l.zip a)[i],cK hz,?_⟩;rw [List.getElem_zip]
 rcases h with h|h
 .simp [h]
 .simp [h]
theorem Cl {l} {a} (h:∀i h1 (h2:i<a.length),¬(a[i]<l[i].low∨l[i].high<a[i])):E8 l a=false:=by
 unfold E8;rw [List.any_eq_false];intro x hx;obtain⟨i,hi,e⟩:=List.mem_iff_getElem.1 hx;rw [List.length_zip]at hi;rw [List.getElem_zip]at e;have hq:=h i ad ad;subst e;simp only [Bool.or_eq_true,gZ];exact hq
def jS (p:Pr) (part:Int):Int:=if part=0 then 0 else cells p.vars
def fX (p:Pr) (part:Int):Nat:=if part=2 then p.params.length else if part=3 then 1 else 0
def gx (p:Pr) (part:Int) (V Ar:List Int):Int:=
 if part<0∨4<part then 1 else if¬(V.length:Int)=jS p part∨¬Ar.length=fX p part then 3
 else if part=2/\E8 p.params Ar=true then 2 else 0
theorem Te (cb N) (k) (p) (part) (vs ag) (V Ar) (w:World) (hN:N<=w.heap.size) (hC:gj w N cb k p) (hv:mR w N vs V) (ha:mR w N ag Ar) (hp:p.params.length<=4):
 Calls prog 104 #[.pointer (some ⟨cb,0,none⟩),.int .i64 part,vs.v,ag.v] w λe w'=>e=.returned (.int .i64 (gx p part V Ar))/\al w w':=by
 obtain⟨F,hF⟩:=nm' (gx p part V Ar);rw [<-hF];have⟨HC,HV,HA,HN,HF,Et,zj,SH⟩:=J8' hC hv ha hN hF hp hC.kc hC.params.1;clear hC hv ha hF hN hp
 by_cases hr:0<=part/\part<5
 rotate_left
 .have hb:(decide (0<=part)&&decide (part<5))=false:=by
   rw [Bool.and_eq_false_iff,decide_eq_false_iff_not,decide_eq_false_iff_not]
   omega
  have HF1:=J (show F=1 by rw [HF.o];unfold gx;rw [av ad]);clear hr;go_enter func104,ntmps104;go_wp21;refine uW (oz _ _) ?_;rw [hb];go_wp21;go_ret;exact⟨cL HF1.o.symm,kR _ _⟩
 have hj:part=0∨part=1∨part=2∨part=3∨part=4:=by omega
 clear hr
 rcases hj with rfl|rfl|rfl|rfl|rfl
 .skip
  go_enter func104,ntmps104;go_wp21;refine uW (oz _ _) ?_;go_upto_region 3 with(fail);refine aaw ?_;have yd:al w w.drew:=(kR _ w).drew
  repeat first|refine bV ?_|refine cF yd Z' ?_|refine cD yd ?_
  refine ap (λK hK=>?_);go_simp;refine aas ?_;clear hK K;intro wA yA bA;generalize hg:(w:World).heap.size=g at bA⊢;have HG:=J hg;clear hg;have l1:=bH bA;have l2:=aj.aJ bA;have l3:=bA.lt;have BA:=J bA;clear bA yd;refine MD ?_;clear l1 l2 l3 yA;intro w4 HB HY
  by_cases e1:(vs.n:Int)=0
  rotate_left
  .have q1:((vs.n:Int) !=0)=true:=bne_iff_ne.2 e1
   have Oc:F=3:=by
    have hl:=HV.o.1;have hc:=zj.o;have hw:jS p 0=0:=rfl;exact MQ
   exact MP
  have q1:((vs.n:Int) !=0)=false:=by rw [e1];simp
  have WJ:=J e1;clear e1
  by_cases e2:(ag.n:Int)=0
  rotate_left
  .have q2:((ag.n:Int) !=0)=true:=bne_iff_ne.2 e2
   have Oc:F=3:=by
    have hl:=HA.o.1;have hc:=SH.o;have hw:fX p 0=0:=rfl;exact MR
   exact MO
  have q2:((ag.n:Int) !=0)=false:=by rw [e2];simp
  have QI:=J e2;clear e2
  have hok:¬(¬(V.length:Int)=jS p 0∨¬Ar.length=fX p 0):=by
   have h1:=HV.o.1;have h2:=HA.o.1;have h3:=zj.o;have h4:=SH.o;have h5:=WJ.o;have h6:=QI.o;have h7:jS p 0=0:=rfl;have h8:fX p 0=0:=rfl;rw [h7,h8]
   omega
  exact adD
 .skip
  go_enter func104,ntmps104;go_wp21;refine uW (oz _ _) ?_;go_upto_region 3 with(fail);refine aaw ?_;have yd:al w w.drew:=(kR _ w).drew
  repeat first|refine bV ?_|refine cF yd Z' ?_|refine cD yd ?_
  refine ap (λK hK=>?_);go_simp;refine aas ?_;clear hK K;intro wA yA bA;generalize hg:(w:World).heap.size=g at bA⊢;have HG:=J hg;clear hg;have l1:=bH bA;have l2:=aj.aJ bA;have l3:=bA.lt;have BA:=J bA;clear bA yd;refine MD ?_;clear l1 l2 l3 yA;intro w4 HB HY
  by_cases e1:(vs.n:Int)=k.cells
  rotate_left
  .have q1:((vs.n:Int) !=k.cells)=true:=bne_iff_ne.2 e1
   have Oc:F=3:=by
    have hl:=HV.o.1;have hc:=zj.o;have hw:jS p 1=cells p.vars:=rfl;exact MQ
   exact MP
  have q1:((vs.n:Int) !=k.cells)=false:=by rw [e1];simp
  have WJ:=J e1;clear e1
  by_cases e2:(ag.n:Int)=0
  rotate_left
  .have q2:((ag.n:Int) !=0)=true:=bne_iff_ne.2 e2
   have Oc:F=3:=by
    have hl:=HA.o.1;have hc:=SH.o;have hw:fX p 1=0:=rfl;exact MR
   exact MO
  have q2:((ag.n:Int) !=0)=false:=by rw [e2];simp
  have QI:=J e2;clear e2
  have hok:¬(¬(V.length:Int)=jS p 1∨¬Ar.length=fX p 1):=by
   have h1:=HV.o.1;have h2:=HA.o.1;have h3:=zj.o;have h4:=SH.o;have h5:=WJ.o;have h6:=QI.o;have h7:jS p 1=cells p.vars:=rfl;have h8:fX p 1=0:=rfl;rw [h7,h8]
   omega
  exact adD
 .skip
  go_enter func104,ntmps104;go_wp21;refine uW (oz _ _) ?_;go_upto_region 3 with(fail);refine aaw ?_;have yd:al w w.drew:=(kR _ w).drew
  repeat first|refine bV ?_|refine cF yd Z' ?_|refine cD yd ?_
  refine ap (λK hK=>?_);go_simp;refine aas ?_;clear hK K;intro wA yA bA;generalize hg:(w:World).heap.size=g at bA⊢;have HG:=J hg;clear hg;have l1:=bH bA;have l2:=aj.aJ bA;have l3:=bA.lt;have BA:=J bA;clear bA yd;refine MD ?_;clear l1 l2 l3 yA;intro w4 HB HY
  by_cases e1:(vs.n:Int)=k.cells
  rotate_left
  .have q1:((vs.n:Int) !=k.cells)=true:=bne_iff_ne.2 e1
   have Oc:F=3:=by
    have hl:=HV.o.1;have hc:=zj.o;have hw:jS p 2=cells p.vars:=rfl;exact MQ
   exact MP
  have q1:((vs.n:Int) !=k.cells)=false:=by rw [e1];simp
  have WJ:=J e1;clear e1
  by_cases e2:(ag.n:Int)=(k.params.n:Nat)
  rotate_left
  .have q2:((ag.n:Int) !=(k.params.n:Nat))=true:=bne_iff_ne.2 e2
   have Oc:F=3:=by
    have hl:=HA.o.1;have hc:=SH.o;have hw:fX p 2=p.params.length:=rfl;exact MR
   exact MO
  have q2:((ag.n:Int) !=(k.params.n:Nat))=false:=by rw [e2];simp
  have QI:=J e2;clear e2
  have hok:¬(¬(V.length:Int)=jS p 2∨¬Ar.length=fX p 2):=by
   have h1:=HV.o.1;have h2:=HA.o.1;have h3:=zj.o;have h4:=SH.o;have h5:=WJ.o;have h6:=QI.o;have h7:jS p 2=cells p.vars:=rfl;have h8:fX p 2=p.params.length:=rfl;rw [h7,h8]
   omega
  have l1:=bC HB.o;have l2:=HB.o.lt
  have Be:=J (show F=if E8 p.params Ar=true then 2 else 0 by
   rw [HF.o];unfold gx;rw [af ad,af hok]
   cases E8 p.params Ar<;>simp)
  clear hok;obtain⟨JN,hpf,hpo,pb,po,hpA,hpE⟩:=HC.o.params;obtain⟨han,hao,ab,ao,haA,haE⟩:=HA.o;have⟨iq,HPE,VN,HAO,HAA,HAE,sO⟩:=J7' hpA hpE (show Ar.length=p.params.length by have:=QI.o;omega) hao haA haE (show ag.n=k.params.n by have:=QI.o;omega);have hpm:k.params.n<=4:=by have:=SH.o;have:=Et.o;omega
  clear JN hpf hpo hpA hpE han hao haA haE;have i1:=bC (bX HC.o.box HY.o);have i2:=(bX HC.o.box HY.o).lt;go_wp21;clear i1 i2 l1 l2
  go_loopw [51] (λt51 wr=>∃j:Nat,j<=k.params.n/\t51=.int .i64 j/\(∀i (h1:i<p.params.length) (h2:i<Ar.length),i<j->¬(Ar[i]<p.params[i].low∨p.params[i].high<Ar[i]))/\al w wr) (λt51 _=>k.params.n - (intOf t51).toNat)
  case atStart=>exact⟨0,de _,rfl,λi _ _ h=>by omega,HY.o⟩
  case round=>
   obtain⟨j,hj,rfl,hall,hk⟩:=hrel;have i':=J hall;have HK:=J hk;clear hall hk
   by_cases aX:j<k.params.n
   .have ft:j<p.params.length:=by have:=SH.o;omega
    have hja:j<Ar.length:=by have:=VN.o;omega
    have iI:(j:Int)<k.params.n:=by omega
    have arj:(j:Int)<ag.n:=by have:=sO.o;omega
    have ark:j<ag.n:=by have:=sO.o;omega
    have Im:=iq.o ad;have aG:=(HPE.o ad).2.ext HK.o;obtain⟨u2,u3⟩:=oL aG j ft;have u1:=aG.lt;have hrA:=(HAE.o ad).2.ext HK.o;have vC:=HAA.o ad;have VW:=J (HAO.o Ar[j] (cK hja));have SB:=J (S7 j ft hja)
    have HGO:=J (show¬(Ar[j]<p.params[j].low∨p.params[j].high<Ar[j])->∀i (h1:i<p.params.length) (h2:i<Ar.length),i<j+1->¬(Ar[i]<p.params[i].low∨p.params[i].high<Ar[i])from λh i h1 h2 hi=>by
     rcases(by omega:i<j∨i=j)with q|q
     .exact i'.o i h1 h2 q
     .subst q;exact h)
    have hAc:=Row.mem hrA j hja;generalize p.params[j]=v at u3 SB HGO;generalize Ar[j]=x at VW SB HGO hAc;have y0:=dz wr (.cells (aO v) 232);have cG:=bN wr 232 (aO v);have HAC:=J ((Kept.cell y0 (p:=⟨ab,ao+j,none⟩) hrA.lt (λf=>f)).trans hAc);have Hq:=J (gw hrA.lt y0.size);clear aG hrA hAc;rw [Im,vC];go_upto_region 12 with(fail);generalize (wr.alloc (.cells (aO v) 232))=W6 at y0 cG HAC Hq⊢;generalize wr.heap.size=g2 at cG⊢;have HG6:=J cG;have Ht:=J (HK.o.trans y0);clear y0 cG u1 u2 u3 Im vC;have b1:=bC HG6.o;have b2:=HG6.o.lt;have b3:=HAC.o;have b4:=Hq.o;have Wv:IntKind.i64.wrap x=x:=wrap_i64 (by have:=VW.o;unfold ax at this;unfold aI;omega)
    by_cases c1:x<v.low
    .have d1:decide (x<v.low)=true:=cO c1
     have HF2:=J (show F=2 by rw [Be.o,SB.o (Or.inl c1)];rfl);clear c1
     go_quiet (fail)
     go_wp21;go_ret;exact⟨cL HF2.o.symm,Kept.drewN Ht.o _⟩
    .have d1:decide (x<v.low)=false:=cU c1
     by_cases c2:v.high<x
     .have d2:decide (v.high<x)=true:=cO c2
      have HF2:=J (show F=2 by rw [Be.o,SB.o (Or.inr c2)];rfl);clear c1 c2
      go_quiet (fail)
      go_wp21;go_ret;exact⟨cL HF2.o.symm,Kept.drewN Ht.o _⟩
     .have d2:decide (v.high<x)=false:=cU c2
      have zm:=J (HGO.o (λh=>h.elim c1 c2));clear c1 c2
      go_quiet (fail)
      go_wp21;go_roundw
      case rel=>exact⟨j+1,aX,by go_num,zm.o,Kept.drewN Ht.o _⟩
      case measure=>simp only [intOf];omega
   .obtain rfl:j=k.params.n:=by omega
    have HF0:=J (show F=0 by
     rw [Be.o,Cl (λi h1 h2=>i'.o i h1 h2 (by have:=SH.o;omega))];rfl)
    go_wp21;go_ret;exact⟨cL HF0.o.symm,HK.o⟩
 .skip
  go_enter func104,ntmps104;go_wp21;refine uW (oz _ _) ?_;go_upto_region 3 with(fail);refine aaw ?_;have yd:al w w.drew:=(kR _ w).drew
  repeat first|refine bV ?_|refine cF yd Z' ?_|refine cD yd ?_
  refine ap (λK hK=>?_);go_simp;refine aas ?_;clear hK K;intro wA yA bA;generalize hg:(w:World).heap.size=g at bA⊢;have HG:=J hg;clear hg;have l1:=bH bA;have l2:=aj.aJ bA;have l3:=bA.lt;have BA:=J bA;clear bA yd;refine MD ?_;clear l1 l2 l3 yA;intro w4 HB HY
  by_cases e1:(vs.n:Int)=k.cells
  rotate_left
  .have q1:((vs.n:Int) !=k.cells)=true:=bne_iff_ne.2 e1
   have Oc:F=3:=by
    have hl:=HV.o.1;have hc:=zj.o;have hw:jS p 3=cells p.vars:=rfl;exact MQ
   exact MP
  have q1:((vs.n:Int) !=k.cells)=false:=by rw [e1];simp
  have WJ:=J e1;clear e1
  by_cases e2:(ag.n:Int)=1
  rotate_left
  .have q2:((ag.n:Int) !=1)=true:=bne_iff_ne.2 e2
   have Oc:F=3:=by
    have hl:=HA.o.1;have hc:=SH.o;have hw:fX p 3=1:=rfl;exact MR
   exact MO
  have q2:((ag.n:Int) !=1)=false:=by rw [e2];simp
  have QI:=J e2;clear e2
  have hok:¬(¬(V.length:Int)=jS p 3∨¬Ar.length=fX p 3):=by
   have h1:=HV.o.1;have h2:=HA.o.1;have h3:=zj.o;have h4:=SH.o;have h5:=WJ.o;have h6:=QI.o;have h7:jS p 3=cells p.vars:=rfl;have h8:fX p 3=1:=rfl;rw [h7,h8]
   omega
  exact adD
 .skip
  go_enter func104,ntmps104;go_wp21;refine uW (oz _ _) ?_;go_upto_region 3 with(fail);refine aaw ?_;have yd:al w w.drew:=(kR _ w).drew
  repeat first|refine bV ?_|refine cF yd Z' ?_|refine cD yd ?_
  refine ap (λK hK=>?_);go_simp;refine aas ?_;clear hK K;intro wA yA bA;generalize hg:(w:World).heap.size=g at bA⊢;have HG:=J hg;clear hg;have l1:=bH bA;have l2:=aj.aJ bA;have l3:=bA.lt;have BA:=J bA;clear bA yd;refine MD ?_;clear l1 l2 l3 yA;intro w4 HB HY
  by_cases e1:(vs.n:Int)=k.cells
  rotate_left
  .have q1:((vs.n:Int) !=k.cells)=true:=bne_iff_ne.2 e1
   have Oc:F=3:=by
    have hl:=HV.o.1;have hc:=zj.o;have hw:jS p 4=cells p.vars:=rfl;exact MQ
   exact MP
  have q1:((vs.n:Int) !=k.cells)=false:=by rw [e1];simp
  have WJ:=J e1;clear e1
  by_cases e2:(ag.n:Int)=0
  rotate_left
  .have q2:((ag.n:Int) !=0)=true:=bne_iff_ne.2 e2
   have Oc:F=3:=by
    have hl:=HA.o.1;have hc:=SH.o;have hw:fX p 4=0:=rfl;exact MR
   exact MO
  have q2:((ag.n:Int) !=0)=false:=by rw [e2];simp
  have QI:=J e2;clear e2
  have hok:¬(¬(V.length:Int)=jS p 4∨¬Ar.length=fX p 4):=by
   have h1:=HV.o.1;have h2:=HA.o.1;have h3:=zj.o;have h4:=SH.o;have h5:=WJ.o;have h6:=QI.o;have h7:jS p 4=cells p.vars:=rfl;have h8:fX p 4=0:=rfl;rw [h7,h8]
   omega
  exact adD
def Roomy (c:Pc) (k:Nat):Prop:=∀i,(U3 c i).n*112+k*112<=140737488355328
theorem Roomy.le {c} {k k'} (h:Roomy c k) (hk:k'<=k):Roomy c k':=λi=>by have:=h i;omega
theorem Roomy.set {c c'} {k} (h:Roomy c (k+1)) (hc:∀j,(U3 c' j).n<=(U3 c j).n+1):Roomy c' k:=λj=>by
 have:=h j;have:=hc j
 omega
end
namespace Mc
theorem OM:(prog.info? 71).map (λi=>(i.zero,i.size,i.bytes))=some (some (.agg (Ins.cells ⟨0,0,0,0⟩)),4,32):=by kernel_rfl
theorem C_ (l:List Ins):eI (cM l)=true:=by
 induction l with
 |nil=>rfl
 |cons d l ih=>show eI (d.cells.toList++cM l)=true;simpa [eI,Value.oneCell']using ih
open Go.ChangeShapes Go.WideShapes
theorem abF (w) (d) (a0 a1 a2 a3 a4 a5 a6 a7 b0 b1 b2 b3 b4 b5 b6 b7):
 (Op.equalIn (d+2) 24 (.agg #[.int .u8 a0,.int .u8 a1,.int .u8 a2,.int .u8 a3,.int .u8 a4,.int .u8 a5,.int .u8 a6,.int .u8 a7]) (.agg #[.int .u8 b0,.int .u8 b1,.int .u8 b2,.int .u8 b3,.int .u8 b4,.int .u8 b5,.int .u8 b6,.int .u8 b7])).run prog w=
  .ok ([a0,a1,a2,a3,a4,a5,a6,a7]==[b0,b1,b2,b3,b4,b5,b6,b7]) w:=
 pS w d _ 5 8 .u8 underlying24 underlying5 (λw=>qN bd w) [a0,a1,a2,a3,a4,a5,a6,a7] [b0,b1,b2,b3,b4,b5,b6,b7] rfl rfl
theorem XO (w) (a0 a1 a2 a3 a4 a5 a6 a7 b0 b1 b2 b3 b4 b5 b6 b7):
 (Op.equalIn 10000 24 (.agg #[.int .u8 a0,.int .u8 a1,.int .u8 a2,.int .u8 a3,.int .u8 a4,.int .u8 a5,.int .u8 a6,.int .u8 a7]) (.agg #[.int .u8 b0,.int .u8 b1,.int .u8 b2,.int .u8 b3,.int .u8 b4,.int .u8 b5,.int .u8 b6,.int .u8 b7])).run prog w=
  .ok ([a0,a1,a2,a3,a4,a5,a6,a7]==[b0,b1,b2,b3,b4,b5,b6,b7]) w:=abF w 9998 _ _ _ _ _ _ _ _ _ _ _ _ _ _ _ _
theorem Ob:prog.eqGuardType prog.depth 24=false:=by kernel_rfl
attribute [go_sem] XO Ob
namespace D3
end D3
theorem agV:(prog.info? 271).map (λi=>(i.zero,i.size,i.bytes))=some (some (.agg #[.int .i64 0,.int .i32 0,.slice none 0 0]),3,40):=by kernel_rfl
end Mc
section
open Mc
open Go.ChangeShapes Go.WideShapes
end
namespace Mc
open Go.ChangeShapes Go.WideShapes
abbrev alD (pc halt:Int) (k:Nat) (M:Dg) (g c:Nat):Array Value:=#[.int .i64 pc,.int .i64 halt,.int .i64 k,.int .u8 M.x0,.int .u8 M.x1,.int .u8 M.x2,.int .u8 M.x3,.int .u8 M.x4,.int .u8 M.x5,.int .u8 M.x6,.int .u8 M.x7,.int .i64 0,.int .i64 0,.int .i64 0,.int .i64 0,.slice none 0 0,.slice (some ⟨g,0,none⟩) 1 c,.slice none 0 0]
attribute [go_sem] alD
namespace Jv
end Jv
theorem ZE (A) (b off cn cap) (c) (pc halt) (b' bR n eD) (m) (w:World) (h:lm w A b off cn c b' bR n pc halt m):
 Calls prog 50 #[.slice A cn cap,.agg (ai pc (some ⟨b',bR,none⟩) n eD halt),.int .i64 1] w λe w'=>∃v k t,e=.returned (.tuple #[v,k,t])/\J2 w w' v n (jO c pc halt m).1 (jO c pc halt m).2.1 (jO c pc halt m).2.2:=by
 obtain⟨eN,tf,aG,tg,jD,hn,hg,iB,CV⟩:=h;obtain⟨h1,h2,h3,h4,h5,h6⟩:=bU hg;have⟨my,HA,HR,rv,HN,HG,HO⟩:=J7' eN tf aG tg hn hg iB;clear eN tf aG tg hn hg iB;refine amD ?_;clear CV;intro aK hA0 fU zT;go_wp21;refine(lE pc halt b' bR eD m n HN.o h1 ad _ zT).mono ?_;rintro e w1 ⟨v1,rfl,g,kc,rfl,eT,aB⟩;have pd:=bX hA0 aB;have gW:=bX fU aB;have lA:=hA0.lt;have lR:=fU.lt;have hgb:=eT.ge;have KU:=bH pd;have Nd:=aj.aJ pd;have vC:aj (putAt w1 w.heap.size 0 (ai pc (some ⟨g,0,none⟩) n kc halt)) w.heap.size 47 (ai pc (some ⟨g,0,none⟩) n kc halt):=aj.cI pd _ _;have nL:=aj.DA gW (show w.heap.size+1≠w.heap.size by omega) 0 (ai pc (some ⟨g,0,none⟩) n kc halt);refine aeE ?_;intro eE;have y2:al w (putAt w1 w.heap.size 0 (ai pc (some ⟨g,0,none⟩) n kc halt)):=Kept.putAt (aK.trans aB) _ _ _ (λh=>by omega);go_upto_region 2 with(fail);clear hA0 fU pd gW eT KU Nd aK zT;generalize (putAt w1 w.heap.size 0 (ai pc (some ⟨g,0,none⟩) n kc halt))=W2 at vC nL eE y2⊢;have i1:=bH vC;have i2:=bG vC;go_wp21;refine kU (fM pc halt (some ⟨g,0,none⟩) n kc _) λw3 ea=>?_;rw [HG.o];have M':=bX vC ea;have oY:=bX nL ea;have vE:=eE.ext ea;have y3:=y2.trans ea;clear vC nL eE y2 ea i1 i2;go_wp21;refine(Mn _).mono ?_;rintro e w4 ⟨rfl,hQ4,eV⟩;have hA4:=bX M' eV;have KN:=bX oY eV;have hM4:=vE.ext eV;have y4:=y3.trans eV;have lg:=vE.lt;clear M' oY vE y3 eV;generalize w3.heap.size=q at hQ4 lg⊢;go_wp21;have Ey:¬w.heap.size=g:=by omega
 go_loopw [10] (λt10 wr=>∃(k:Nat) (r:Int×Int×List Int),t10=.int .i64 k/\((k=0/\r=(pc,halt,m))∨(k=1/\halt=0/\r=gT c pc m))/\oQ wr w.heap.size 47 r.1 (some ⟨g,0,none⟩) n kc r.2.1/\eo wr w.heap.size g n kc r.2.2/\Kept (λi=>i=w.heap.size∨i=g) w4 wr) (λt10 _=>1 - (intOf t10).toNat)
 case atStart=>exact⟨0,(pc,halt,m),rfl,.inl ⟨rfl,rfl⟩,hA4,hM4,kR _ _⟩
 case round=>
  obtain⟨k,r,rfl,yG,hA,hM,hK4⟩:=hrel;have Rv:=bK KN hK4 ad;have yr:al w wr:=y4.trans' hK4 (λi hi e=>by omega)
  by_cases JL:k=0/\halt=0
  .obtain⟨rfl,hz⟩:=JL
   have zT:r=(pc,halt,m):=by
    rcases yG with h|h
    .exact h.2
    .omega
   subst zT;subst hz;clear yG
   have yI:dG wr w.heap.size w.heap.size g n kc q A b off cn c pc m:=
    ⟨HN.o,h1,h2,HO.o,my.o.ext yr,hA,hM,hQ4.kept hK4 ad,HA.o,λh0=>(HR.o h0).ext yr,rv.o,jD,h3,h4,Ey⟩
   have Hz:=J yI;clear yI;have tf:=bC hA;go_wp21;refine kU (L7 wr w.heap.size w.heap.size g n kc q A b off cn cap c pc m Hz.o) λw5 T8=>?_;have tQ:=J T8;clear T8;go_wp21;go_roundw
   case rel=>exact⟨1,_,by go_num,.inr ⟨rfl,trivial,rfl⟩,tQ.o.st,tQ.o.mem,hK4.trans tQ.o.kept⟩
   case measure=>simp only [intOf];omega
  .have dr:r=jO c pc halt m:=by
    unfold jO
    rcases yG with⟨h,e⟩|⟨h,hz,e⟩
    .rw [af (λz=>JL ⟨h,z⟩)];exact e
    .rw [av hz];exact e
   have zV:(k:Int)<1->(r.2.1==0)=false:=by
    intro hk
    rcases yG with⟨h,e⟩|⟨h,hz,e⟩
    .rw [e];simp;exact λz=>JL ⟨h,z⟩
    .omega
   have apt:k=0∨k=1:=by rcases yG with h|h<;>omega
   obtain⟨fh,aN,m'⟩:=r;simp only at hA hM zV;have WW:=J dr;clear yG dr JL;have tf:=bC hA;have lA:=hA.lt;have lR:=Rv.lt;have hhR:=bH Rv;have hmR:=aj.aJ Rv
   rcases apt with rfl|rfl
   .have Oz:=zV ad
    clear zV;exact amR
   .clear zV
    exact amR
theorem GF (A) (b off cn cap) (c) (pc halt) (b' bR n eD) (m) (w:World) (h:lm w A b off cn c b' bR n pc halt m):
 Calls prog 111 #[.slice A cn cap,.agg (ai pc (some ⟨b',bR,none⟩) n eD halt)] w λe w'=>∃v,e=.returned v/\J2 w w' v n (jO c pc halt m).1 (jO c pc halt m).2.1 (jO c pc halt m).2.2:=by
 have HP:=J h;clear h;have aK:al w _:=(dS w (.cells (ai pc (some ⟨b',bR,none⟩) n eD halt) 47)).alloc (.cells (ai 0 none 0 0 0) 47);have fU:aj _ (w.heap.size+1) 47 (ai 0 none 0 0 0):=aj.d_ (w.alloc (.cells (ai pc (some ⟨b',bR,none⟩) n eD halt) 47)) _ _ _ aC;obtain⟨r,hr⟩:=nm' (jO c pc halt m);rw [<-hr];have HRr:=J hr;clear hr;go_enter func111,ntmps111;go_wp21;refine(ZE A b off cn cap c pc halt b' bR n eD m _ (HP.o.ext aK)).mono ?_;rintro e w1 ⟨v1,k1,t1,rfl,oE⟩;rw [<-HRr.o]at oE;obtain⟨g,kc,rfl,eT,aB⟩:=oE;obtain⟨fh,aN,m'⟩:=r;simp only at eT;have gW:=aj.alloc (bX fU aB) (.cells (ai fh (some ⟨g,0,none⟩) n kc aN) 47);have CK:=bN w1 47 (ai fh (some ⟨g,0,none⟩) n kc aN);have y1:=(aK.trans aB).alloc (.cells (ai fh (some ⟨g,0,none⟩) n kc aN) 47);have eE:=eT.ext (dS w1 (.cells (ai fh (some ⟨g,0,none⟩) n kc aN) 47));have mg:=eT.ge;have ls:=aK.size;simp at mg;have lR:=(bX fU aB).lt;clear fU eT aB aK;go_upto_region 2 with(fail);generalize (w1.alloc (.cells (ai fh (some ⟨g,0,none⟩) n kc aN) 47))=W1 at gW CK y1 eE⊢;generalize w1.heap.size=c1 at CK lR⊢;have i1:=bH CK;have i2:=bG CK;have i3:=bH gW;have i4:=aj.aJ gW;go_wp21;refine bQ results111 rfl rfl nE Aw (aj.cI gW _ _) ⟨_,rfl,g,kc,rfl,?_,Kept.putAt y1 _ _ _ (λh=>by omega)⟩;exact ii (eE.kept (Kept.putAt (S:=(·=w.heap.size+1)) (kR _ _) _ _ _ (λ_=>rfl)) ad) kQ
theorem acK (p n c) (A) (w:World) (hc:w.cell? ⟨p,0,none⟩=some (.slice A n c)):
 Calls prog 231 #[.pointer (some ⟨p,0,none⟩)] w λe w'=>e=.returned (.int .i64 n)/\w=w':=by
 go_enter func231,ntmps231;go_wp21;go_ret;exact⟨rfl,rfl⟩
theorem Mi (p n c) (A) (i) (w:World) (hc:w.cell? ⟨p,0,none⟩=some (.slice A n c)):
 Calls prog 165 #[.pointer (some ⟨p,0,none⟩),.int .i64 i] w λe w'=>e=.returned (.bool (decide (0<=i)&&decide (i<n)))/\w=w':=by
 have HC:=J hc;clear hc
 by_cases h0:0<=i
 .have b0:decide (0<=i)=true:=by simpa using h0
  go_enter func165,ntmps165;go_wp21;refine uW (acK p n c A _ HC.o) ?_;go_wp21;go_ret;exact⟨by first|rfl|(rw [b0];rfl),rfl⟩
 .have b0:decide (0<=i)=false:=by simpa using h0
  go_enter func165,ntmps165;go_wp21;go_ret;exact⟨by first|rfl|(rw [b0];rfl),rfl⟩
def LZ (x:Nat):Nat:=if x%2=0 then x+1 else x - 1
theorem ahn {x n} (h:x<2*n):LZ x<2*n:=by
 unfold LZ
 split<;>omega
theorem ZK:∀a:Fin 65,∀b:Fin 64,bits .xor .i64 ((a.val*64+b.val:Nat):Int) 1=(LZ (a.val*64+b.val):Int):=by decide+kernel
theorem acF (x:Nat) (h:x<=4096):bits .xor .i64 (x:Int) 1=(LZ x:Int):=by
 have:=ZK ⟨x / 64,by omega⟩ ⟨x%64,by omega⟩;simp only at this
 rwa [show x / 64*64+x%64=x by omega]at this
def iw (l:List Dg) (H i:Nat):List Dg:=(List.range H).map λv=>fD l v (LZ (i / 2^v))
theorem kj (l) (H i):(iw l H i).length=H:=by simp [iw]
theorem LL (l) (H i):∀d∈iw l H i,d.ok:=by
 intro d hd;simp [iw]at hd;obtain⟨v,_,rfl⟩:=hd;exact Di l v _
def LJ (l:List Dg) (i k:Nat):List Dg:=(List.range k).map λv=>fD l v (LZ (i / 2^v))
theorem PE (l) (i k):LJ l i (k+1)=LJ l i k++[fD l k (LZ (i / 2^k))]:=by simp [LJ,List.range_succ]
theorem Cz {i H k} (hi:i<2^H) (hk:k<=H):i / 2^k<2^(H - k):=by
 apply Nat.div_lt_of_lt_mul;rw [<-Nat.pow_add,Nat.add_sub_cancel' hk];exact hi
theorem mV (i k:Nat):i / 2^k / 2=i / 2^(k+1):=by rw [Nat.div_div_eq_div_mul,Nat.pow_succ]
def afF (w w':World) (e:Ending) (n:Nat) (l:List Dg):Prop:=∃v,e=.returned (.tuple #[v,.int .i64 0])/\w'.ownsRow w.heap.size 25 8 v n (dc l)/\al w w'
theorem Mj (base p) (l) (i:Nat) (w:World) (h1:1<=l.length) (h2:l.length<=4096) (hi:i<l.length) (h:jY w base p l):
 Calls prog 180 #[.pointer (some ⟨p,0,none⟩),.int .i64 i] w λe w'=>afF w w' e (jb l.length) (iw l (jb l.length) i):=by
 obtain⟨cg,cc,f,G,h⟩:=h;have hb:=qw l.length h1 h2;have hc:=h.blk.cell 0 ad;rw [h.f0]at hc;obtain⟨H,hH⟩:=nm' (jb l.length);rw [<-hH]at hb h⊢;obtain⟨n,hn⟩:=nm' l.length;rw [<-hn]at hc h1 h2 hi hb hH;obtain⟨X7,hnH⟩:=hb;have HP:gq (i<2^H):=J ad;have⟨HC,HH,HL,HN⟩:=J4' hc hH h hn;have qf:=h.blk.lt;have wV:(i:Int)<n:=by omega
 have Xw:(decide ((0:Int)<=i)&&decide ((i:Int)<n))=true:=by simp;omega
 have HB:=J Xw;obtain⟨w0,zT,YF,aK⟩:=RW w H ad;clear hc hH h hn hnH Xw;go_enter func180,ntmps180;go_wp21;refine uW (Mi p n cc _ i _ HC.o) ?_;rw [HB.o];go_upto_region 5 with(fail);go_step
 iterate 1 refine kT ?_
 refine wpList_step (λK hK=>?_);go_wp21;refine(qP p n cc _ _ h1 h2 HC.o).mono ?_;rintro e w1 ⟨e1,rfl⟩;replace e1:e=.returned (.int .i64 H):=by rw [e1,HH.o]
 subst e1;refine hK _ _ ?_;clear hK K;refine iy rfl _ _ 23 rfl rfl rfl zT ?_;clear zT;go_wp21;refine(qP p n cc _ _ h1 h2 ((Kept.cell aK (p:=⟨p,0,none⟩) qf (λf=>f)).trans HC.o)).mono ?_;rintro e w1 ⟨e1,rfl⟩;replace e1:e=.returned (.int .i64 H):=by rw [e1,HH.o]
 subst e1;go_wp21
 go_loopw [1,6,21] (λt1 t6 t21 wr=>∃(k:Nat),k<=H/\t21=.int .i64 k/\t1=.int .i64 (i / 2^k:Nat)/\wr.ownsRow w.heap.size 25 8 t6 k (dc (LJ l i k))/\al w wr) (λ_ _ t21 _=>H - (intOf t21).toNat)
 case atStart=>exact⟨0,by omega,rfl,by simp,YF,aK⟩
 case round=>
  obtain⟨k,hk,rfl,rfl,ho,hx⟩:=hrel;have uR:∀i,i<w.heap.size->(u6:Value).ownBlock=some i->False:=λi hi e=>by have:=(ho.lt i e).1;omega
  have vN:=J uR;clear uR;obtain⟨x,je⟩:=nm' (i / 2^k);rw [<-je]
  by_cases aX:k<H
  .have hL:=HL.o.ext hx
   obtain⟨N2,Gi⟩:=nm' (2^(H - k));have o_:x<N2:=by rw [je,Gi];exact Cz HP.o ad
   have hNM:N2=2*2^(H - (k+1)):=by rw [Gi];exact pQ H k aX
   have abL:N2<=4096:=by rw [Gi];exact ay (Nat.pow_le_pow_right ad (show H - k<=12 by omega)) ae
   obtain⟨y,hy⟩:=nm' (LZ x);have qh:y<N2:=by rw [hy,hNM];exact ahn ad
   have hyx:bits .xor .i64 (x:Int) 1=(y:Int):=by rw [hy];exact acF x ad
   have Nk:(y:Int)<N2:=by omega
   have V7:=hL.blk.cell (1+k) ad;rw [hL.fl k ad,<-Gi]at V7;have hBl:=hL.lv k ad;have alc:y<(qE l H k).length:=by rw [tp,<-Gi];exact qh
   obtain⟨Rw,TX⟩:=(aj.row hBl).dig y alc;rw [dU]at Rw TX;have AP:=hBl.lt;obtain⟨D,hD⟩:=nm' (fD l k y)
   have hD':(qE l H k)[y]=D:=by
    have:=sf l H k y (by rw [<-Gi];exact qh);rw [hD,<-this];simp [alc]
   rw [hD']at TX;have agz:(k:Int)<13:=by omega
   have⟨HX,HY,HD⟩:=J3' je hy hD;clear je Gi hNM hy hD hD' hL hBl;go_upto_region 9 with(fail);go_step
   iterate 12 refine kT ?_
   obtain⟨v2,w2,ki,n9,eC⟩:=J9 (wr.alloc (.cells D.cells 25)) _ _ _ (LJ l i k) (ho.alloc _) wr.heap.size 0 1 1 [D] rfl (by simpa [dc]using Row.cR (bN wr 25 D.cells)) ad (by have:=hx.size;simp;omega);refine cJ rfl (.tmp 24) (.tmp 35) 23 rfl rfl rfl rfl ki ?_;clear ki;have Wq:(x:Int).tdiv 2=(x / 2:Nat):=by rw [Int.tdiv_eq_ediv_of_nonneg ad];omega
   clear hyx;go_wp21;go_roundw
   case rel=>
    refine⟨k+1,aX,by go_num,?_,by rw [PE,<-HX.o,<-HY.o,<-HD.o];exact n9,(hx.alloc _).trans' eC vN.o⟩;rw [<-mV,<-HX.o]
    go_num
   case measure=>simp only [intOf];omega
  .obtain rfl:k=H:=by omega
   clear je;go_wp21
   go_ret2
   exact⟨_,rfl,ho,hx⟩
def uq:Nat->Dg->List Dg->Dg
 |_,d,[]=>d
 |i,d,o::r=>uq (i / 2) (if i%2=0 then uN d o else uN o d) r
theorem uL (i) (d) (r:List Dg) (k) (hk):uq i d (r.drop k)=uq (i / 2) (if i%2=0 then uN d r[k]else uN r[k] d) (r.drop (k+1)):=by
 rw [ui hk,uq]
def xH (i:Nat) (leaf:Dg) (path:List Dg):Dg:=Yc (uq i (TP leaf) path) path.length
def Db (i:Int) (h:Nat):Bool:=decide (h<=12)&&decide (0<=i)&&decide (i<2^h)
def re (i:Int) (leaf:Dg) (path:List Dg):Dg:=if Db i path.length=true then xH i.toNat leaf path else Dg.zero
theorem acV (i) (leaf:Dg) (A:Option Addr) (h cap:Nat) (w:World) (hm:Db i h=false):
 Calls prog 235 #[.int .i64 i,.agg #[.int .u8 leaf.x0,.int .u8 leaf.x1,.int .u8 leaf.x2,.int .u8 leaf.x3,.int .u8 leaf.x4,.int .u8 leaf.x5,.int .u8 leaf.x6,.int .u8 leaf.x7],.slice A h cap] w λe w'=>e=.returned (.tuple #[.agg Dg.zero.cells,.bool false])/\al w w':=by
 refine amC ?_;intro aK fU
 by_cases h12:h<=12
 .have c12:¬(12:Int)<h:=by omega
  by_cases h0:0<=i
  .obtain⟨N,hN⟩:=nm' (2^h)
   have hNi:(N:Int)<=i:=by
    simp [Db,h12,h0]at hm;have:((2^h:Nat):Int)=(2:Int)^h:=by simp
    rw [hN];omega
   have rT:N<=4096:=by rw [hN];exact ay (Nat.pow_le_pow_right ad h12) ae
   have Ng:(2:Int)^h=(N:Int):=by rw [hN];simp
   have hp1:(2:Int)^h<=4096:=by omega
   have Wp:(2:Int)^h<=i:=by omega
   clear Ng;have hq0:(2:Int)^h=(N:Int):=by rw [hN];simp
   have Ng:0<=(2:Int)^h:=by omega
   clear hq0 hm hN hNi rT;exact aaN
  .clear hm
   exact aaN
 .have c12:(12:Int)<h:=by omega
  clear hm;exact aaN
theorem acW (i:Nat) (leaf:Dg) (hl:leaf.ok) (A) (b off h cap) (path) (hh:h=path.length) (hok:∀d∈path,d.ok) (h12:h<=12) (hi:i<2^h) (hA:0<h->A=some ⟨b,off,none⟩) (w:World) (hr:0<h->Row w b off (dc path)):
 Calls prog 235 #[.int .i64 i,.agg #[.int .u8 leaf.x0,.int .u8 leaf.x1,.int .u8 leaf.x2,.int .u8 leaf.x3,.int .u8 leaf.x4,.int .u8 leaf.x5,.int .u8 leaf.x6,.int .u8 leaf.x7],.slice A h cap] w λe w'=>e=.returned (.tuple #[.agg (xH i leaf path).cells,.bool true])/\al w w':=by
 refine amC ?_;intro aK fU;have c12:¬(12:Int)<h:=by omega
 have JN:(2:Int)^h=((2^h:Nat):Int):=by simp
 have h4:2^h<=4096:=ay (Nat.pow_le_pow_right ad h12) ae;have hp1:(2:Int)^h<=4096:=by omega
 have Wp:(i:Int)<(2:Int)^h:=by omega
 have hi4:i<4096:=by omega
 have⟨HIh,HHl,HO,HA,HR,HLf⟩:=J6' hi hh hok hA hr hl;clear JN h4 hi hh hok hA hr hl;obtain⟨D,hD⟩:=nm' (xH i leaf path);rw [<-hD];have HD:=J hD;clear hD;go_enter func235,ntmps235;go_wp21;refine(IQ leaf HLf.o _).mono ?_;rintro e w1 ⟨e1,aB⟩;obtain⟨Z,hZ⟩:=nm' (TP leaf);rw [<-hZ]at e1;subst e1;have hZk:Z.ok:=by rw [hZ];exact kJ _ _
 have HZ:=J hZ;have HZk:=J hZk;clear hZ hZk;have gW:=aj.alloc (bX fU aB) (.cells Z.cells 25);have CK:=bN w1 25 Z.cells;have y1:=(aK.trans aB).alloc (.cells Z.cells 25);have lR:=(bX fU aB).lt;have lw:=(aK.trans aB).size;clear fU aB aK hp1 Wp;go_wp21;generalize (w1.alloc (.cells #[.int .u8 Z.x0,.int .u8 Z.x1,.int .u8 Z.x2,.int .u8 Z.x3,.int .u8 Z.x4,.int .u8 Z.x5,.int .u8 Z.x6,.int .u8 Z.x7] 25))=W1 at gW CK y1⊢;generalize w1.heap.size=c9 at CK lR lw⊢
 go_loopw [0,31] (λt0 t31 wr=>∃(k x:Nat) (d:Dg),k<=h/\x<=i/\t31=.int .i64 k/\t0=.int .i64 x/\d.ok/\aj wr c9 25 d.cells/\uq x d (path.drop k)=uq i (TP leaf) path/\Kept (·=c9) W1 wr) (λ_ t31 _=>h - (intOf t31).toNat)
 case atStart=>exact⟨0,i,Z,by omega,by omega,rfl,rfl,HZk.o,CK,by rw [HZ.o];simp,kR _ _⟩
 case round=>
  obtain⟨k,x,d,hk,hxi,rfl,rfl,hdk,hB,hfo,V0⟩:=hrel;have HF:=J hfo;have HDK:=J hdk;clear hfo hdk;have yr:al w wr:=y1.trans' V0 (λi hi e=>by omega)
  by_cases aX:k<h
  .have iI:(k:Int)<h:=by omega
   have pf:k<path.length:=by have:=HHl.o;omega
   obtain rfl:=HA.o ad;have aG:=(HR.o ad).ext yr;obtain⟨Rw,TX⟩:=aG.dig k pf;have rV:=aG.lt;obtain⟨o,ho⟩:=nm' (path[k]);rw [<-ho]at TX;have hok:o.ok:=by rw [ho];exact HO.o _ (cK pf)
   have oN:=J hok;have HOo:=J ho;clear hok ho;have hc9:=hB.lt;have tY:=aj.alloc hB (.cells o.cells 25);have hO1:=bN wr 25 o.cells;have aB:=(kR (·=c9) wr).alloc (.cells o.cells 25);go_upto_region 8 with(fail);generalize (wr.alloc (.cells #[.int .u8 o.x0,.int .u8 o.x1,.int .u8 o.x2,.int .u8 o.x3,.int .u8 o.x4,.int .u8 o.x5,.int .u8 o.x6,.int .u8 o.x7] 25))=W2 at tY hO1 aB⊢;clear Rw TX rV;generalize wr.heap.size=c11 at hO1 hc9⊢;have i1:=bH tY;have i2:=bG tY;have i3:=bH hO1;have i4:=bG hO1;have hxd:(x:Int).tdiv 2=(x / 2:Nat):=by rw [Int.tdiv_eq_ediv_of_nonneg ad];omega
   have hxm:(x:Int).tmod 2=(x%2:Nat):=by rw [Int.tmod_eq_emod_of_nonneg ad];omega
   by_cases he:x%2=0
   .have JK:((x:Int)%2==0)=true:=by simp;omega
    have jq:(((x%2:Nat):Int)==0)=true:=by simp;omega
    have jF:((x%2:Nat)==0)=true:=by simp;omega
    have HE:=J he;clear he;go_wp21;refine kU (tI d o HDK.o oN.o _) λw3 ea=>?_;have Io:=bX tY ea;have j1:=bH Io;have j2:=aj.aJ Io;clear i1 i2 i3 i4;go_wp21;go_roundw
    case rel=>
     refine⟨k+1,x / 2,uN d o,aX,by omega,by go_num,by go_num,Ir _ _,aj.cI Io _ _,?_,Kept.putAt ((V0.trans aB).trans (Kept.ext ea)) _ _ _ (λ_=>rfl)⟩;rw [<-HF.o,uL x d path k pf,av HE.o,HOo.o]
    case measure=>simp only [intOf];omega
   .have JK:((x:Int)%2==0)=false:=by simp;omega
    have jq:(((x%2:Nat):Int)==0)=false:=by simp;omega
    have jF:((x%2:Nat)==0)=false:=by simp;omega
    have HE:=J he;clear he;go_wp21;refine kU (tI o d oN.o HDK.o _) λw3 ea=>?_;have Io:=bX tY ea;have j1:=bH Io;have j2:=aj.aJ Io;clear i1 i2 i3 i4;go_wp21;go_roundw
    case rel=>
     refine⟨k+1,x / 2,uN o d,aX,by omega,by go_num,by go_num,Ir _ _,aj.cI Io _ _,?_,Kept.putAt ((V0.trans aB).trans (Kept.ext ea)) _ _ _ (λ_=>rfl)⟩;rw [<-HF.o,uL x d path k pf,af HE.o,HOo.o]
    case measure=>simp only [intOf];omega
  .have ek:k=h:=by omega
   have hdD:Yc d h=D:=by
    have:=HF.o;rw [ek,HHl.o,uj,uq]at this;rw [HD.o,xH,<-this,<-HHl.o]
   have HDD:=J hdD;clear hdD;have Rv:=bK gW V0 ad;have i1:=bH hB;have i2:=bG hB;go_wp21;refine(Sg d HDK.o h h12 _).mono ?_;rintro e w3 ⟨e3,ea⟩;rw [HDD.o]at e3;subst e3;have oY:=bX Rv ea;have j1:=bH oY;have j2:=aj.aJ oY;go_wp21;refine eB results235 rfl rfl dK ke (aj.cI oY _ _) ⟨rfl,?_⟩;exact Kept.putAt (yr.trans ea) _ _ _ (λh=>by omega)
structure oP (w:World) (A:Option Addr) (b off h:Nat) (path:List Dg):Prop where
 len:h=path.length
 ok:∀d∈path,d.ok
 at_:0<h->A=some ⟨b,off,none⟩
 row:0<h->Row w b off (dc path)
 ty:0<h->∃du fr,w.heap[b]?=some (.cells du 25 fr)
theorem oP.kept {S} {w w'} {A} {b off h} {path:List Dg} (hp:oP w A b off h path) (hx:Kept S w w') (hs:∀i,S i->∀du fr,¬w.heap[i]?=some (.cells du 25 fr)):oP w' A b off h path:=by
 have hb:0<h->¬S b:=λh0 hS=>by
  obtain⟨du,fr,e⟩:=hp.ty h0;exact hs b hS du fr e
 refine⟨hp.len,hp.ok,hp.at_,λh0=>(hp.row h0).kept hx (hb h0),λh0=>?_⟩;obtain⟨du,fr,e⟩:=hp.ty h0;exact⟨du,fr,(hx.block b (hp.row h0).lt (hb h0)).trans e⟩
theorem oP.ext {w w'} {A} {b off h} {path} (hp:oP w A b off h path) (hx:al w w'):oP w' A b off h path:=
 hp.kept hx (λ_ f=>f.elim)
theorem Zg {i} {h} (hm:Db i h=true):h<=12/\0<=i/\i.toNat<2^h/\i=i.toNat:=by
 simp [Db]at hm;obtain⟨⟨h1,h2⟩,h3⟩:=hm;have e:(2:Int)^h=((2^h:Nat):Int):=by simp
 exact⟨h1,h2,by omega,by omega⟩
theorem Ms (i) (leaf) (hl:leaf.ok) (A:Option Addr) (b off h cap:Nat) (path:List Dg) (w:World) (hp:oP w A b off h path):
 Calls prog 235 #[.int .i64 i,.agg #[.int .u8 leaf.x0,.int .u8 leaf.x1,.int .u8 leaf.x2,.int .u8 leaf.x3,.int .u8 leaf.x4,.int .u8 leaf.x5,.int .u8 leaf.x6,.int .u8 leaf.x7],.slice A h cap] w λe w'=>e=.returned (.tuple #[.agg (re i leaf path).cells,.bool (Db i h)])/\al w w':=by
 cases hm:Db i h
 .rw [show re i leaf path=Dg.zero by simp [re,<-hp.len,hm]]
  exact acV i leaf A h cap w hm
 .obtain⟨h1,h2,h3,h4⟩:=Zg hm
  obtain⟨k,rfl⟩:∃k:Nat,i=k:=⟨_,h4⟩;rw [show re k leaf path=xH k leaf path by simp only [re,<-hp.len,av hm,rF]];exact acW k leaf hl A b off h cap path hp.len hp.ok h1 (by simpa using h3) hp.at_ w hp.row
def Rh (a b:Dg):Bool:=a.x0==b.x0&&(a.x1==b.x1&&(a.x2==b.x2&&(a.x3==b.x3&&(a.x4==b.x4&&(a.x5==b.x5&&(a.x6==b.x6&&a.x7==b.x7))))))
theorem Ii (a b:Dg):Rh a b=true↔a=b:=by
 obtain⟨a0,a1,a2,a3,a4,a5,a6,a7⟩:=a;obtain⟨b0,b1,b2,b3,b4,b5,b6,b7⟩:=b;simp [Rh]
theorem Cw (a:Dg):Rh a a=true:=(Ii a a).2 rfl
def qm (root:Dg) (i:Int) (leaf:Dg) (path:List Dg):Bool:=Db i path.length&&Rh (re i leaf path) root
theorem DV (root) (i) (leaf:Dg) (hl:leaf.ok) (A:Option Addr) (b off h cap:Nat) (path:List Dg) (w:World) (hp:oP w A b off h path):
 Calls prog 187 #[.agg #[.int .u8 root.x0,.int .u8 root.x1,.int .u8 root.x2,.int .u8 root.x3,.int .u8 root.x4,.int .u8 root.x5,.int .u8 root.x6,.int .u8 root.x7],.int .i64 i,.agg #[.int .u8 leaf.x0,.int .u8 leaf.x1,.int .u8 leaf.x2,.int .u8 leaf.x3,.int .u8 leaf.x4,.int .u8 leaf.x5,.int .u8 leaf.x6,.int .u8 leaf.x7],.slice A h cap] w λe w'=>e=.returned (.bool (qm root i leaf path))/\al w w':=by
 obtain⟨R,hR⟩:=nm' (qm root i leaf path);rw [<-hR];obtain⟨D,hD⟩:=nm' (re i leaf path);obtain⟨B,hB⟩:=nm' (Db i h);have hRR:R=(B&&Rh D root):=by rw [hR,qm,hB,hD,hp.len]
 have⟨HD,HB,HP,HL,qd⟩:=J5' hD hB hp hl hRR;clear hR hD hB hRR hp hl;have aK:al w _:=(dS w (.cells root.cells 25)).alloc (.cells leaf.cells 25);have Og:aj _ w.heap.size 25 root.cells:=aj.alloc (bN w _ _) (.cells leaf.cells 25);go_enter func187,ntmps187;go_wp21;refine(Ms i leaf HL.o A b off h cap path _ (HP.o.ext aK)).mono ?_;rintro e w1 ⟨e1,aB⟩;replace e1:e=.returned (.tuple #[.agg D.cells,.bool B]):=by rw [e1,HD.o,HB.o]
 subst e1;have Oh:=aj.alloc (bX Og aB) (.cells D.cells 25);have CK:=bN w1 25 D.cells;have y1:=(aK.trans aB).alloc (.cells D.cells 25);have l1:=(bX Og aB).lt;clear aK Og aB;go_upto_region 2 with(fail);generalize (w1.alloc (.cells #[.int .u8 D.x0,.int .u8 D.x1,.int .u8 D.x2,.int .u8 D.x3,.int .u8 D.x4,.int .u8 D.x5,.int .u8 D.x6,.int .u8 D.x7] 25))=W1 at Oh CK y1⊢;generalize w1.heap.size=c9 at CK l1⊢;have i1:=bH Oh;have i2:=bG Oh;have i3:=bH CK;have i4:=bG CK
 cases B
 .go_wp21
  go_ret;exact⟨aV qd.o.symm,y1⟩
 .go_wp21
  go_ret;exact⟨aV (by rw [qd.o,rG];rfl),y1⟩
theorem Vm (i) (leaf) (hl:leaf.ok) (A:Option Addr) (b off h cap:Nat) (path:List Dg) (w:World) (hp:oP w A b off h path):
 Calls prog 241 #[.int .i64 i,.agg #[.int .u8 leaf.x0,.int .u8 leaf.x1,.int .u8 leaf.x2,.int .u8 leaf.x3,.int .u8 leaf.x4,.int .u8 leaf.x5,.int .u8 leaf.x6,.int .u8 leaf.x7],.slice A h cap] w λe w'=>e=.returned (.agg (re i leaf path).cells)/\al w w':=by
 obtain⟨D,hD⟩:=nm' (re i leaf path);rw [<-hD];have⟨HD,HP,HL⟩:=J3' hD hp hl;clear hD hp hl;have aK:al w _:=(dS w (.cells leaf.cells 25)).alloc (.cells Dg.zero.cells 25);have fU:aj _ (w.heap.size+1) 25 Dg.zero.cells:=aj.d_ (w.alloc (.cells leaf.cells 25)) _ _ _ aC;go_enter func241,ntmps241;go_wp21;refine(Ms i leaf HL.o A b off h cap path _ (HP.o.ext aK)).mono ?_;rintro e w1 ⟨e1,aB⟩;rw [<-HD.o]at e1;subst e1;have gW:=aj.alloc (bX fU aB) (.cells D.cells 25);have CK:=bN w1 25 D.cells;have y1:=(aK.trans aB).alloc (.cells D.cells 25);have l1:=(bX fU aB).lt;clear aK fU aB;go_upto_region 2 with(fail);generalize (w1.alloc (.cells #[.int .u8 D.x0,.int .u8 D.x1,.int .u8 D.x2,.int .u8 D.x3,.int .u8 D.x4,.int .u8 D.x5,.int .u8 D.x6,.int .u8 D.x7] 25))=W1 at gW CK y1⊢;generalize w1.heap.size=c9 at CK l1⊢;have i1:=bH gW;have i2:=aj.aJ gW;have i3:=bH CK;have i4:=bG CK;go_wp21;refine bQ results241 rfl rfl dK ke (aj.cI gW _ _) ⟨rfl,?_⟩;exact Kept.putAt y1 _ _ _ (λh=>by omega)
theorem CG (l:List Dg) (H i:Nat) (hi:i<2^H):∀k,k<=H->uq (i / 2^(H - k)) (fD l (H - k) (i / 2^(H - k))) ((iw l H i).drop (H - k))=fD l H 0
 |0,_=>by
  rw [Nat.sub_zero,List.drop_of_length_le (by rw [kj];exact eH _),uq,Nat.div_eq_of_lt hi]
 |k+1,hk=>by
  have ih:=CG l H i hi k ad;have aX:H - (k+1)<(iw l H i).length:=by rw [kj];omega
  rw [uL _ _ _ _ aX,mV,show H - (k+1)+1=H - k by omega];have hg:(iw l H i)[H - (k+1)]=fD l (H - (k+1)) (LZ (i / 2^(H - (k+1)))):=by simp [iw]
  rw [hg]
  have hn:(if i / 2^(H - (k+1))%2=0 then uN (fD l (H - (k+1)) (i / 2^(H - (k+1)))) (fD l (H - (k+1)) (LZ (i / 2^(H - (k+1)))))else uN (fD l (H - (k+1)) (LZ (i / 2^(H - (k+1))))) (fD l (H - (k+1)) (i / 2^(H - (k+1)))))=fD l (H - k) (i / 2^(H - k)):=by
   rw [show H - k=H - (k+1)+1 by omega,fD,<-mV];generalize i / 2^(H - (k+1))=x
   by_cases he:x%2=0
   .rw [av he,show LZ x=x+1 by simp [LZ,he],show 2*(x / 2)=x by omega]
   .rw [af he,show LZ x=x - 1 by simp [LZ,he],show 2*(x / 2)=x - 1 by omega,show x - 1+1=x by omega]
  rw [hn];exact ih
theorem D2 (l) (i) (hi) (h2:l.length<=4096):xH i l[i] (iw l (jb l.length) i)=xk l:=by
 have hb:=qw l.length ad h2;have:=CG l (jb l.length) i ad (jb l.length) (eH _);rw [Nat.sub_self,Nat.pow_zero,Nat.div_one,qW]at this;unfold xH xk;rw [kj,<-this];simp [fD,List.getElem?_eq_getElem hi]
