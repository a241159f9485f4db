/- Several texts joined: Jf, Jg, Jh, Ji, Jj, Jk, Qzp, Qzr, Ua. -/
import Derived.Laws.MakeOwn
import Derived.Test.YtbfbabbcdochjaaGreatDoorRows
import Derived.ProofKit
import Derived.OpenShut
import Derived.ShutString
import Derived.ChangeOld
import Derived.ChangeArms
import Derived.Below
import Derived.Deep.Slices
import Derived.Test.YtbfbabbcdochjaaGreatDoorRmpk
import Derived.Test.YtbfbabbcdochjaaGreatDoorRmal
import Derived.Test.YtbfbabbcdochjaaGreatDoorRmay
set_option maxHeartbeats 4000000
set_option maxRecDepth 100000
open Go.Proofs.Tryz
namespace Go.Proofs.YtbfbabbcdochjaaGreatDoor
open Go.RowKit So Mc
theorem kZ:jQ prog 62=true:=by kernel_rfl
theorem vD:sizeT prog 62=some 5:=by kernel_rfl
theorem A8 {dst:Option Tmp} {ty':TypeId} {x:Operand} {pos:String} {after:Array Edge} {guard:Option (Nat×Bool)} {a:Act} {w:World} {K:Act->World->Prop} {Q:Exit->Act->World->Prop} (hx:iy (a.eval x)=true) (hh:has w (bE (a.eval x)) (bJ (a.eval x)) 5=true):
 Oper.wp prog {dst:=dst,op:=.load 62 x,type:=ty',pos:=pos,after:=after,guard:=guard} a w K Q=K (a.put dst (.agg (gets w (bE (a.eval x)) (bJ (a.eval x)) 5))) w:=dJ 5 kZ vD hx hh
theorem I6 {ρ:Operand->Value} {dst:Option Tmp} {ty':TypeId} {x:Operand} {pos:String} {after:Array Edge} {guard:Option (Nat×Bool)} {w:World} (hx:iy (ρ x)=true) (hh:has w (bE (ρ x)) (bJ (ρ x)) 5=true):
 (execOp ρ {dst:=dst,op:=.load 62 x,type:=ty',pos:=pos,after:=after,guard:=guard}).run prog w=.ok (.value (.agg (gets w (bE (ρ x)) (bJ (ρ x)) 5))) w:=aZ 5 kZ vD hx hh
attribute [go_sem] kZ vD
attribute [go_sem↓high] A8 I6
attribute [go_sem high] A8
def bB (p:Pr) (i:Nat):Nat:=bW (8+dG (partOf p i))
abbrev vO (v:Nat->Nat) (j:Nat):Array Value:=#[.int .i64 (if 0<j then v 0 else 0:Nat),.int .i64 (if 1<j then v 1 else 0:Nat),.int .i64 (if 2<j then v 2 else 0:Nat),.int .i64 (if 3<j then v 3 else 0:Nat),.int .i64 (if 4<j then v 4 else 0:Nat)]
theorem Ol (c:Pc) (p:Pr) (N:Nat) (w:World) (hN:N<=w.heap.size) (hP:lT w N c p) (hk:∀i,i<5->okK (partOf p i)):
 Calls prog 25 #[.agg c.cells] w λe w'=>((∀i,i<5->bB p i<=65536)/\e=.returned (.tuple #[.agg (vO (bB p) 5),.int .i64 0])∨(∃i,i<5/\65536<bB p i)/\e=.returned (.tuple #[.agg (vO (bB p) 0),.int .i64 12]))/\Ext w w':=by
 obtain⟨W1,hW1⟩:∃W1,W1=((w.alloc (.cells c.cells 57)).alloc (.cells #[.int .i64 0,.int .i64 0,.int .i64 0,.int .i64 0,.int .i64 0] 62)).alloc (.cells #[.int .i64 0,.int .i64 0,.int .i64 0,.int .i64 0,.int .i64 0] 62):=⟨_,rfl⟩;have y1:Ext w W1:=by rw [hW1];exact(((kR _ w).alloc _).alloc _).alloc _
 have hz:((w.alloc (.cells c.cells 57)).alloc (.cells #[.int .i64 0,.int .i64 0,.int .i64 0,.int .i64 0,.int .i64 0] 62)).heap.size=w.heap.size+2:=by simp
 have hz1:(w.alloc (.cells c.cells 57)).heap.size=w.heap.size+1:=by simp
 have hpB:aH W1 w.heap.size 57 c.cells:=by rw [hW1];exact((bN w _ _).alloc _).alloc _
 have hrB:aH W1 (w.heap.size+1) 62 (vO (bB p) 0):=by rw [hW1];exact(aH.new' _ _ _ _ aG).alloc _
 have hsB:aH W1 (w.heap.size+2) 62 (vO (bB p) 0):=by rw [hW1];exact aH.new' _ _ _ _ aG
 have HP:=J (hP.kept y1 hN (λ_ f=>f.elim));have Wo:=J hk;clear hP hk;go_enter func25,ntmps25;go_upto_region 2 with(fail)
 try rw [hz]
 try rw [hz1]
 rw [<-hW1];clear hz hz1 hW1;have Hz:=J y1.size;have Bv:=J hsB.lt;generalize uY:(w:World).heap.size=p4 at hpB hrB hsB⊢;have C9:=J uY;clear uY;have lN:=J hpB;have vT:=J hrB;have aga:=J hsB;clear hpB hrB hsB;go_wp2_with fail;refine(Oj _).mono ?_;rintro e W2 ⟨ex,st,rfl,hC,y2,he1,he2⟩;have hsl:p4+2<W1.heap.size:=aga.out.lt;have yc:Ext W2 (W2.alloc (.cells (cnt ex st) 126)):=(kR _ W2).alloc _;have bc:=bN W2 126 (cnt ex st);go_upto_region 3 with(fail);generalize (W2.alloc (.cells (cnt ex st) 126))=W3 at yc bc⊢;have hcl:p4+2<W2.heap.size:=by have:=y2.size;omega
 generalize W2.heap.size=cb at bc hcl⊢;have Y3:=J (y2.trans yc);have tH:=J (hC.ext yc);have Hq:=J bc;have HES:=J (show¬ex=p4+2/\¬st=p4+2 by omega);have ZR:=J (bX lN.out Y3.out);have VO:=J (HP.out.kept Y3.out (by have:=Hz.out;omega) (λ_ f=>f.elim));have HRC:=J (bX vT.out Y3.out);have ZU:=J (bX aga.out Y3.out);have uS:=J (show N<=p4 by have:=C9.out;omega);have Wm:=J (show p4+2<W3.heap.size from(ZU.out).lt);have Nr:=J hcl;clear y2 yc bc hC he1 he2 hsl hcl;have i1:=bC ZR.out;have i2:=ZR.out.lt;go_wp2_with fail;clear i1 i2
 go_loopw [21] (λt21 wr=>∃(j:Nat),j<=5/\t21=.int .i64 j/\(∀i,i<j->bB p i<=65536)/\aH wr (p4+2) 62 (vO (bB p) j)/\Kept (·=p4+2) W3 wr) (λt21 _=>5 - (intOf t21).toNat)
 case atStart=>exact⟨0,by omega,rfl,λi hi=>by omega,ZU.out,kR _ _⟩
 case round=>
  obtain⟨j,hj,rfl,hall,hB,hk⟩:=hrel;have iL:=J hall;have HB:=J hB;have HK:=J hk;clear hall hB hk
  by_cases hj5:j=5
  ·subst hj5
   have hr:=bK HRC.out HK.out aj;have l1:=bH HB.out;have l2:=bG HB.out;have l3:=HB.out.lt;have l4:=bH hr;have l5:=aH.bF hr;have l6:=hr.lt;have HR:=J hr;clear hr;go_wp2_with fail;refine dU (t:=62) (g:=p4+1) (cs:=vO (bB p) 5) results25 rfl rfl kZ Vk Vi ⟨Or.inl ⟨iL.out,rfl⟩,?_⟩;have hq:=C9.out;exact(y1.trans Y3.out).trans' ((HK.out.mono (λ_ _ e=>Or.inr e)).trans (Kept.putAt (S:=λi=>i=p4+1∨i=p4+2) (kR _ _) _ 0 _ (λ_=>Or.inl rfl))) (λi hi e=>by omega)
  have hj':j=0∨j=1∨j=2∨j=3∨j=4:=by omega
  clear hj hj5
  rcases hj' with rfl|rfl|rfl|rfl|rfl
  ·skip
   have hix:(Instr.index 106 (.agg #[c.start.v,c.turn.v,c.play.v,c.quiet.v,c.pays.v]) (.int .i64 0)).run prog wr=.ok c.start.v wr:=qI c.start c.turn c.play c.quiet c.pays 0 aj wr;have hsl:=VO.out.start;go_wp2_with fail;refine Y8 ?_;clear hix;intro w4 y4 nb b4 fP hkl l1 l2 l3;go_wp2_with fail;have OC:¬cb=nb:=by have a:=Hq.out.lt;have b:=fP.out;omega
   refine Zo ?_;intro hcr;have hsr:iO wr N c.start.A c.start.n p.start:=hsl.kept HK.out YO (λi e=>by have a:=uS.out;omega);have Hw:=J (show c.start.n=p.start.len from hsl.1);rw [Hw.out]at hsr;have hbk:=nX p.start (Wo.out 0 aj) ex st N c.start.A c.start.c w4 (hcr.ext y4) (hsr.kept y4 YR (λ_ f=>f.elim)) YN;rw [<-Hw.out]at hbk;refine hbk.mono ?_;rintro e w5 ⟨rfl,y5⟩;go_wp2_with fail;refine(fT nb 8 (bW (dG p.start)) _ aj (by have:=fK (dG p.start);omega) (bX b4 y5)).mono ?_;rintro e w6 ⟨rfl,b6,k6⟩;have hsn:bW (8+bW (dG p.start))=bB p 0:=qQ _ _;refine Y_ ?_;clear b6;intro b6 OG m1 m2 m3 Fq ou;have hset:=aH.gW Fq.out 0 (.int .i64 (bB p 0:Nat));have EY:=J (ou.trans (Kept.setCell (S:=(·=p4+2)) (kR _ w6) ⟨p4+2,0,none⟩ (.int .i64 (bB p 0:Nat)) (λ_=>rfl)));have nH:=J (show aH (w6.setCell ⟨p4+2,0,none⟩ (.int .i64 (bB p 0:Nat))) (p4+2) 62 (vO (bB p) (0+1))from hset);clear OG l1 l2 l3 hset ou hbk hsr hcr b4 y4 y5 b6 k6 hsl hsn;go_upto_region 8 with(fail);generalize (w6.setCell ⟨p4+2,0,none⟩ (.int .i64 (bB p 0:Nat)))=w8 at EY nH⊢;clear m1 m2 m3;have m1:=bC nH.out;have m2:=nH.out.lt
   by_cases hbig:65536<bB p 0
   ·have hg:decide ((65536:Int)<(bB p 0:Int))=true:=decide_eq_true aj
    refine Zp ?_;clear hbig;intro kY l4 l5 l6 HR;go_wp2_with fail;refine dU (t:=62) (g:=p4+1) (cs:=vO (bB p) 0) results25 rfl rfl kZ Vk Vi ⟨Or.inr ⟨⟨0,by omega,kY.out⟩,rfl⟩,?_⟩;exact ZC
   ·have hg:decide ((65536:Int)<(bB p 0:Int))=false:=decide_eq_false aj
    have kY:=J hbig;clear hbig;go_wp2_with fail;go_roundw
    case rel=>exact⟨0+1,by omega,by go_num,λi hi=>by rcases(by omega:i<0∨i=0)with q|q;exact iL.out i q;rw [q];have:=kY.out;omega,nH.out,EY.out⟩
    case measure=>simp only [intOf];omega
  ·skip
   have hix:(Instr.index 106 (.agg #[c.start.v,c.turn.v,c.play.v,c.quiet.v,c.pays.v]) (.int .i64 1)).run prog wr=.ok c.turn.v wr:=qI c.start c.turn c.play c.quiet c.pays 1 aj wr;have hsl:=VO.out.turn;go_wp2_with fail;refine Y8 ?_;clear hix;intro w4 y4 nb b4 fP hkl l1 l2 l3;go_wp2_with fail;have OC:¬cb=nb:=by have a:=Hq.out.lt;have b:=fP.out;omega
   refine Zo ?_;intro hcr;have hsr:iO wr N c.turn.A c.turn.n p.turn:=hsl.kept HK.out YO (λi e=>by have a:=uS.out;omega);have Hw:=J (show c.turn.n=p.turn.len from hsl.1);rw [Hw.out]at hsr;have hbk:=nX p.turn (Wo.out 1 aj) ex st N c.turn.A c.turn.c w4 (hcr.ext y4) (hsr.kept y4 YR (λ_ f=>f.elim)) YN;rw [<-Hw.out]at hbk;refine hbk.mono ?_;rintro e w5 ⟨rfl,y5⟩;go_wp2_with fail;refine(fT nb 8 (bW (dG p.turn)) _ aj (by have:=fK (dG p.turn);omega) (bX b4 y5)).mono ?_;rintro e w6 ⟨rfl,b6,k6⟩;have hsn:bW (8+bW (dG p.turn))=bB p 1:=qQ _ _;refine Y_ ?_;clear b6;intro b6 OG m1 m2 m3 Fq ou;have hset:=aH.gW Fq.out 1 (.int .i64 (bB p 1:Nat));have EY:=J (ou.trans (Kept.setCell (S:=(·=p4+2)) (kR _ w6) ⟨p4+2,1,none⟩ (.int .i64 (bB p 1:Nat)) (λ_=>rfl)));have nH:=J (show aH (w6.setCell ⟨p4+2,1,none⟩ (.int .i64 (bB p 1:Nat))) (p4+2) 62 (vO (bB p) (1+1))from hset);clear OG l1 l2 l3 hset ou hbk hsr hcr b4 y4 y5 b6 k6 hsl hsn;go_upto_region 8 with(fail);generalize (w6.setCell ⟨p4+2,1,none⟩ (.int .i64 (bB p 1:Nat)))=w8 at EY nH⊢;clear m1 m2 m3;have m1:=bC nH.out;have m2:=nH.out.lt
   by_cases hbig:65536<bB p 1
   ·have hg:decide ((65536:Int)<(bB p 1:Int))=true:=decide_eq_true aj
    refine Zp ?_;clear hbig;intro kY l4 l5 l6 HR;go_wp2_with fail;refine dU (t:=62) (g:=p4+1) (cs:=vO (bB p) 0) results25 rfl rfl kZ Vk Vi ⟨Or.inr ⟨⟨1,by omega,kY.out⟩,rfl⟩,?_⟩;exact ZC
   ·have hg:decide ((65536:Int)<(bB p 1:Int))=false:=decide_eq_false aj
    have kY:=J hbig;clear hbig;go_wp2_with fail;go_roundw
    case rel=>exact⟨1+1,by omega,by go_num,λi hi=>by rcases(by omega:i<1∨i=1)with q|q;exact iL.out i q;rw [q];have:=kY.out;omega,nH.out,EY.out⟩
    case measure=>simp only [intOf];omega
  ·skip
   have hix:(Instr.index 106 (.agg #[c.start.v,c.turn.v,c.play.v,c.quiet.v,c.pays.v]) (.int .i64 2)).run prog wr=.ok c.play.v wr:=qI c.start c.turn c.play c.quiet c.pays 2 aj wr;have hsl:=VO.out.play;go_wp2_with fail;refine Y8 ?_;clear hix;intro w4 y4 nb b4 fP hkl l1 l2 l3;go_wp2_with fail;have OC:¬cb=nb:=by have a:=Hq.out.lt;have b:=fP.out;omega
   refine Zo ?_;intro hcr;have hsr:iO wr N c.play.A c.play.n p.play:=hsl.kept HK.out YO (λi e=>by have a:=uS.out;omega);have Hw:=J (show c.play.n=p.play.len from hsl.1);rw [Hw.out]at hsr;have hbk:=nX p.play (Wo.out 2 aj) ex st N c.play.A c.play.c w4 (hcr.ext y4) (hsr.kept y4 YR (λ_ f=>f.elim)) YN;rw [<-Hw.out]at hbk;refine hbk.mono ?_;rintro e w5 ⟨rfl,y5⟩;go_wp2_with fail;refine(fT nb 8 (bW (dG p.play)) _ aj (by have:=fK (dG p.play);omega) (bX b4 y5)).mono ?_;rintro e w6 ⟨rfl,b6,k6⟩;have hsn:bW (8+bW (dG p.play))=bB p 2:=qQ _ _;refine Y_ ?_;clear b6;intro b6 OG m1 m2 m3 Fq ou;have hset:=aH.gW Fq.out 2 (.int .i64 (bB p 2:Nat));have EY:=J (ou.trans (Kept.setCell (S:=(·=p4+2)) (kR _ w6) ⟨p4+2,2,none⟩ (.int .i64 (bB p 2:Nat)) (λ_=>rfl)));have nH:=J (show aH (w6.setCell ⟨p4+2,2,none⟩ (.int .i64 (bB p 2:Nat))) (p4+2) 62 (vO (bB p) (2+1))from hset);clear OG l1 l2 l3 hset ou hbk hsr hcr b4 y4 y5 b6 k6 hsl hsn;go_upto_region 8 with(fail);generalize (w6.setCell ⟨p4+2,2,none⟩ (.int .i64 (bB p 2:Nat)))=w8 at EY nH⊢;clear m1 m2 m3;have m1:=bC nH.out;have m2:=nH.out.lt
   by_cases hbig:65536<bB p 2
   ·have hg:decide ((65536:Int)<(bB p 2:Int))=true:=decide_eq_true aj
    refine Zp ?_;clear hbig;intro kY l4 l5 l6 HR;go_wp2_with fail;refine dU (t:=62) (g:=p4+1) (cs:=vO (bB p) 0) results25 rfl rfl kZ Vk Vi ⟨Or.inr ⟨⟨2,by omega,kY.out⟩,rfl⟩,?_⟩;exact ZC
   ·have hg:decide ((65536:Int)<(bB p 2:Int))=false:=decide_eq_false aj
    have kY:=J hbig;clear hbig;go_wp2_with fail;go_roundw
    case rel=>exact⟨2+1,by omega,by go_num,λi hi=>by rcases(by omega:i<2∨i=2)with q|q;exact iL.out i q;rw [q];have:=kY.out;omega,nH.out,EY.out⟩
    case measure=>simp only [intOf];omega
  ·skip
   have hix:(Instr.index 106 (.agg #[c.start.v,c.turn.v,c.play.v,c.quiet.v,c.pays.v]) (.int .i64 3)).run prog wr=.ok c.quiet.v wr:=qI c.start c.turn c.play c.quiet c.pays 3 aj wr;have hsl:=VO.out.quiet;go_wp2_with fail;refine Y8 ?_;clear hix;intro w4 y4 nb b4 fP hkl l1 l2 l3;go_wp2_with fail;have OC:¬cb=nb:=by have a:=Hq.out.lt;have b:=fP.out;omega
   refine Zo ?_;intro hcr;have hsr:iO wr N c.quiet.A c.quiet.n p.quiet:=hsl.kept HK.out YO (λi e=>by have a:=uS.out;omega);have Hw:=J (show c.quiet.n=p.quiet.len from hsl.1);rw [Hw.out]at hsr;have hbk:=nX p.quiet (Wo.out 3 aj) ex st N c.quiet.A c.quiet.c w4 (hcr.ext y4) (hsr.kept y4 YR (λ_ f=>f.elim)) YN;rw [<-Hw.out]at hbk;refine hbk.mono ?_;rintro e w5 ⟨rfl,y5⟩;go_wp2_with fail;refine(fT nb 8 (bW (dG p.quiet)) _ aj (by have:=fK (dG p.quiet);omega) (bX b4 y5)).mono ?_;rintro e w6 ⟨rfl,b6,k6⟩;have hsn:bW (8+bW (dG p.quiet))=bB p 3:=qQ _ _;refine Y_ ?_;clear b6;intro b6 OG m1 m2 m3 Fq ou;have hset:=aH.gW Fq.out 3 (.int .i64 (bB p 3:Nat));have EY:=J (ou.trans (Kept.setCell (S:=(·=p4+2)) (kR _ w6) ⟨p4+2,3,none⟩ (.int .i64 (bB p 3:Nat)) (λ_=>rfl)));have nH:=J (show aH (w6.setCell ⟨p4+2,3,none⟩ (.int .i64 (bB p 3:Nat))) (p4+2) 62 (vO (bB p) (3+1))from hset);clear OG l1 l2 l3 hset ou hbk hsr hcr b4 y4 y5 b6 k6 hsl hsn;go_upto_region 8 with(fail);generalize (w6.setCell ⟨p4+2,3,none⟩ (.int .i64 (bB p 3:Nat)))=w8 at EY nH⊢;clear m1 m2 m3;have m1:=bC nH.out;have m2:=nH.out.lt
   by_cases hbig:65536<bB p 3
   ·have hg:decide ((65536:Int)<(bB p 3:Int))=true:=decide_eq_true aj
    refine Zp ?_;clear hbig;intro kY l4 l5 l6 HR;go_wp2_with fail;refine dU (t:=62) (g:=p4+1) (cs:=vO (bB p) 0) results25 rfl rfl kZ Vk Vi ⟨Or.inr ⟨⟨3,by omega,kY.out⟩,rfl⟩,?_⟩;exact ZC
   ·have hg:decide ((65536:Int)<(bB p 3:Int))=false:=decide_eq_false aj
    have kY:=J hbig;clear hbig;go_wp2_with fail;go_roundw
    case rel=>exact⟨3+1,by omega,by go_num,λi hi=>by rcases(by omega:i<3∨i=3)with q|q;exact iL.out i q;rw [q];have:=kY.out;omega,nH.out,EY.out⟩
    case measure=>simp only [intOf];omega
  ·skip
   have hix:(Instr.index 106 (.agg #[c.start.v,c.turn.v,c.play.v,c.quiet.v,c.pays.v]) (.int .i64 4)).run prog wr=.ok c.pays.v wr:=qI c.start c.turn c.play c.quiet c.pays 4 aj wr;have hsl:=VO.out.pays;go_wp2_with fail;refine Y8 ?_;clear hix;intro w4 y4 nb b4 fP hkl l1 l2 l3;go_wp2_with fail;have OC:¬cb=nb:=by have a:=Hq.out.lt;have b:=fP.out;omega
   refine Zo ?_;intro hcr;have hsr:iO wr N c.pays.A c.pays.n p.pays:=hsl.kept HK.out YO (λi e=>by have a:=uS.out;omega);have Hw:=J (show c.pays.n=p.pays.len from hsl.1);rw [Hw.out]at hsr;have hbk:=nX p.pays (Wo.out 4 aj) ex st N c.pays.A c.pays.c w4 (hcr.ext y4) (hsr.kept y4 YR (λ_ f=>f.elim)) YN;rw [<-Hw.out]at hbk;refine hbk.mono ?_;rintro e w5 ⟨rfl,y5⟩;go_wp2_with fail;refine(fT nb 8 (bW (dG p.pays)) _ aj (by have:=fK (dG p.pays);omega) (bX b4 y5)).mono ?_;rintro e w6 ⟨rfl,b6,k6⟩;have hsn:bW (8+bW (dG p.pays))=bB p 4:=qQ _ _;refine Y_ ?_;clear b6;intro b6 OG m1 m2 m3 Fq ou;have hset:=aH.gW Fq.out 4 (.int .i64 (bB p 4:Nat));have EY:=J (ou.trans (Kept.setCell (S:=(·=p4+2)) (kR _ w6) ⟨p4+2,4,none⟩ (.int .i64 (bB p 4:Nat)) (λ_=>rfl)));have nH:=J (show aH (w6.setCell ⟨p4+2,4,none⟩ (.int .i64 (bB p 4:Nat))) (p4+2) 62 (vO (bB p) (4+1))from hset);clear OG l1 l2 l3 hset ou hbk hsr hcr b4 y4 y5 b6 k6 hsl hsn;go_upto_region 8 with(fail);generalize (w6.setCell ⟨p4+2,4,none⟩ (.int .i64 (bB p 4:Nat)))=w8 at EY nH⊢;clear m1 m2 m3;have m1:=bC nH.out;have m2:=nH.out.lt
   by_cases hbig:65536<bB p 4
   ·have hg:decide ((65536:Int)<(bB p 4:Int))=true:=decide_eq_true aj
    refine Zp ?_;clear hbig;intro kY l4 l5 l6 HR;go_wp2_with fail;refine dU (t:=62) (g:=p4+1) (cs:=vO (bB p) 0) results25 rfl rfl kZ Vk Vi ⟨Or.inr ⟨⟨4,by omega,kY.out⟩,rfl⟩,?_⟩;exact ZC
   ·have hg:decide ((65536:Int)<(bB p 4:Int))=false:=decide_eq_false aj
    have kY:=J hbig;clear hbig;go_wp2_with fail;go_roundw
    case rel=>exact⟨4+1,by omega,by go_num,λi hi=>by rcases(by omega:i<4∨i=4)with q|q;exact iL.out i q;rw [q];have:=kY.out;omega,nH.out,EY.out⟩
    case measure=>simp only [intOf];omega
open Go.RowKit So Mc
theorem nJ (n:Int) (w:World):Calls prog 64 #[.int .i64 n] w λe w'=>e=.returned (.bool (decide (0<=n)&&decide (n<5)))/\w=w':=by
 by_cases h0:0<=n
 ·have g0:decide (0<=n)=true:=decide_eq_true h0
  clear h0
  by_cases h5:n<5
  ·have g5:decide (n<5)=true:=decide_eq_true h5
   clear h5;rw [g0,g5];go_enter func64,ntmps64;go_wp2_with fail;go_ret;exact⟨rfl,rfl⟩
  ·have g5:decide (n<5)=false:=decide_eq_false h5
   clear h5;rw [g0,g5];go_enter func64,ntmps64;go_wp2_with fail;go_ret;exact⟨rfl,rfl⟩
 ·have g0:decide (0<=n)=false:=decide_eq_false h0
  clear h0;rw [g0,Bool.false_and];go_enter func64,ntmps64;go_wp2_with fail;go_ret;exact⟨rfl,rfl⟩
open Go.RowKit So Mc
theorem RO (n:Nat) (hn:n<=4096) (w:World):(Instr.makeSlice 27 (.int .i64 n) (.int .i64 n)).run prog w=.ok (.slice (some ⟨w.heap.size,0,none⟩) n n) (w.alloc (.cells (aM (List.replicate n 0)).toArray 21)):=by
 obtain⟨i,hi,hz,h1,h2⟩:=info_parts Cx;have hr:=run_make (P:=prog) w 27 21 i _ underlying27 hi hz .i64 .i64 n n aj (Int.le_refl _) (by rw [h2];omega) aj;rw [hr,h1]
 have e:madeCells (Value.cells (.int .i32 0)) (((n:Int)).toNat*1)=(aM (List.replicate n 0)).toArray:=by
  apply Array.ext
  ·simp [madeCells,aM]
  ·intro j hj hj'
   simp [madeCells,aM,Value.cells,Nat.mod_one]
 rw [e];simp
theorem X5 (n:Nat) (h1:1<=n) (h2:n<=256) (w:World):Calls prog 40 #[.int .i64 n] w λe w'=>∃g,e=.returned (.tuple #[.agg (aN 0 (some ⟨g,0,none⟩) n n 0),.int .i64 0])/\aH w' g 21 (aM (List.replicate n 0)).toArray/\Ext w w'/\w.heap.size<=g:=by
 have g1:decide ((n:Int)<1)=false:=decide_eq_false aj;have g2:decide ((256:Int)<n)=false:=decide_eq_false aj;have hmk:=RO n aj;clear h1 h2;have y0:=(kR (λ_=>False) w).alloc (.cells #[.int .i64 0,.slice none 0 0,.int .i64 0] 49);have b0:=bN w 49 #[.int .i64 0,.slice none 0 0,.int .i64 0];go_enter func40,ntmps40;go_upto_region 1 with(fail);generalize (w.alloc (.cells #[.int .i64 0,.slice none 0 0,.int .i64 0] 49))=W1 at y0 b0⊢;generalize hg:(w:World).heap.size=g at b0⊢;have HG:=J hg;clear hg;go_upto_region 3 with(fail);go_step
 iterate 1 refine qY ?_
 refine MF rfl _ _ 27 rfl rfl rfl (hmk W1) ?_;have y1:Ext W1 (W1.alloc (.cells (aM (List.replicate n 0)).toArray 21)):=(kR _ W1).alloc _;have bm:=bN W1 21 (aM (List.replicate n 0)).toArray;have hgl:g<W1.heap.size:=b0.lt;have b1:=bX b0 y1;generalize (W1.alloc (.cells (aM (List.replicate n 0)).toArray 21))=W2 at y1 bm b1⊢;have hyl:=y0.size;generalize W1.heap.size=gm at bm hgl hyl⊢;have l1:=bH b1;have l2:=aH.bF b1;have l3:=b1.lt;clear hmk;have B1:=J b1;have BM:=J bm;go_wp2_with fail;have kp:Kept (·=g) W2 (putAt W2 g 0 #[.int .i64 0,.slice (some ⟨gm,0,none⟩) n n,.int .i64 0]):=Kept.putAt (kR _ _) _ 0 _ (λ_=>rfl);refine dU (t:=49) (g:=g) (cs:=aN 0 (some ⟨gm,0,none⟩) n n 0) results40 rfl rfl rz Vm (by exact aH.gL B1.out 0 _) ⟨gm,rfl,bK BM.out kp aj,?_,hyl⟩;exact(y0.trans y1).trans' kp (λi hi e=>by have:=HG.out;omega)
open Go.RowKit So Mc
structure Cd where (cells seats:Int) (first params i0 i1 i2 i3 i4:jg) (m:Nat->Nat)
abbrev Cd.c (k:Cd):Array Value:=#[.int .i64 k.cells,.int .i64 k.seats,k.first.v,k.params.v,k.i0.v,k.i1.v,k.i2.v,k.i3.v,k.i4.v,.int .i64 (k.m 0),.int .i64 (k.m 1),.int .i64 (k.m 2),.int .i64 (k.m 3),.int .i64 (k.m 4)]
theorem rG (cb:Nat) (k:Cd) (w:World) (hb:aH w cb 90 k.c) (h0:0<=k.cells/\k.cells<=1000):Calls prog 30 #[.pointer (some ⟨cb,0,none⟩)] w λe w'=>e=.returned (.int .i64 (k.cells+49))/\w=w':=by
 have i1:=bC hb;have i2:=hb.lt;have hw:=wrap_i64 (n:=k.cells+49) jP;clear hb;go_enter func30,ntmps30;go_wp2_with fail;go_ret;exact⟨rfl,rfl⟩
theorem zI (cb:Nat) (k:Cd) (w:World) (hb:aH w cb 90 k.c) (part:Nat) (hp:part<5):Calls prog 28 #[.pointer (some ⟨cb,0,none⟩),.int .i64 part] w λe w'=>e=.returned (.int .i64 (k.m part))/\w=w':=by
 have i1:=bC hb;have i2:=hb.lt;clear hb;have hj:part=0∨part=1∨part=2∨part=3∨part=4:=by omega
 clear hp
 rcases hj with rfl|rfl|rfl|rfl|rfl
 all_goals
  go_enter func28,ntmps28;go_wp2_with fail;refine(nJ _ _).mono ?_;rintro e w1 ⟨rfl,rfl⟩;go_wp2_with fail;go_ret;exact⟨rfl,rfl⟩
open Go.RowKit So Mc
theorem OQ (b off cap:Nat) (l:List Ins) (n:Nat) (hn:n=l.length) (h1:1<=n) (h2:n<=50000) (w:World) (hr:Row w b off (fV l)):
 Calls prog 65 #[.slice (some ⟨b,off,none⟩) n cap] w λe w'=>∃v,e=.returned v/\w'.ownsRow w.heap.size 77 4 v n (fV l)/\Ext w w':=by
 obtain⟨v2,w2,hr2,ho2,hk2⟩:=acu (w.alloc (.cells #[] 77)) _ _ 0 [] (vv w 77 4) b off n cap l hn (hr.ext ((kR _ w).alloc _)) aj aG;have HN:=J hn;clear hn;have heq:=λw=>Lib.run_eql_slice_nil (P:=prog) w 71 77 (some ⟨b,off,none⟩) n cap 0 0 underlying71;simp only [Option.isNone_some]at heq;go_enter func65,ntmps65;go_upto_region 3 with(fail);go_step
 iterate 2 refine qY ?_
 refine fM rfl (.tmp 5) (.tmp 6) 71 rfl rfl rfl rfl hr2 ?_;clear hr2;go_wp2_with fail;go_ret;rw [Nat.zero_add,List.nil_append]at ho2;exact⟨_,rfl,ho2,((kR _ w).alloc _).trans' hk2 (λi hi e=>by simp [Value.ownBlock]at e;omega)⟩
open Go.RowKit So Mc
def Cd.i (k:Cd):Nat->jg|0=>k.i0|1=>k.i1|2=>k.i2|3=>k.i3|_=>k.i4
theorem Ai (cb:Nat) (k:Cd) (w:World) (hb:aH w cb 90 k.c) (part:Nat) (hp:part<5) (b off:Nat) (l:List Ins) (hn:(k.i part).n=l.length) (h1:1<=(k.i part).n) (h2:(k.i part).n<=50000) (hA:(k.i part).A=some ⟨b,off,none⟩) (hr:Row w b off (fV l)):
 Calls prog 27 #[.pointer (some ⟨cb,0,none⟩),.int .i64 part] w λe w'=>∃v,e=.returned v/\w'.ownsRow w.heap.size 77 4 v l.length (fV l)/\Ext w w':=by
 have i1:=bC hb;have i2:=hb.lt;have hcl:=OQ b off (k.i part).c l (k.i part).n hn h1 h2 w hr;rw [<-hA,hn]at hcl;have HN:=J hn;clear hb hA hr h1 h2;have hj:part=0∨part=1∨part=2∨part=3∨part=4:=by omega
 clear hp hn;have Nr:=J hcl;clear hcl
 rcases hj with rfl|rfl|rfl|rfl|rfl
 all_goals
  go_enter func27,ntmps27;go_wp2_with fail;refine(nJ _ _).mono ?_;rintro e w1 ⟨rfl,rfl⟩;go_wp2_with fail;have hcl:=Nr.out;rw [<-HN.out]at hcl;refine(hcl:_).mono ?_;rintro e w2 ⟨v,rfl,ho,hx⟩;go_wp2_with fail;go_ret;exact⟨v,rfl,by rw [<-HN.out];exact ho,hx⟩
open Go.RowKit So
section
variable {w:World} {N:Nat} {c:Pc} {p:Pr} {A:Option Addr} {n cap:Nat} {F:SF}
theorem g_.mono {M:Nat} {F:EF} (h:g_ w N A n F) (hM:N<=M):g_ w M A n F:=by
 obtain⟨h1,h2,b,off,h3,h4⟩:=h;exact⟨h1,h2,b,off,h3,h4.mono hM⟩
theorem iO.mono {M:Nat} (h:iO w N A n F) (hM:N<=M):iO w M A n F:=by
 obtain⟨h1,h2,b,off,h3,h4⟩:=h;exact⟨h1,h2,b,off,h3,h4.mono hM⟩
theorem lT.mono {M:Nat} (h:lT w N c p) (hM:N<=M):lT w M c p:=⟨h.name,h.D7,h.seats,h.CP,h.bY.mono hM,h.vars.mono hM,h.start.mono hM,h.turn.mono hM,h.params.mono hM,h.play.mono hM,h.silent,h.uH,h.quiet.mono hM,h.pays.mono hM⟩
end
open Go.RowKit Go.Deep Go.ChangeShapes Go.WideShapes So
section
variable {H:Type} {enc:TypeId×Value->H} {P:Program} {w:World} {base:Nat} {held:Bool}
def light (P:Program) (t:TypeId) (d:DataW H):Prop:=(d.weights P t).all (·<=reachBytes)=true
theorem qK {E:TypeId}:∀{l:List (DataW H)} (_:(DataW.weightsAll P E l).all (·<=reachBytes)=true),∀d∈l,light P E d
 |[],_,d,hd=>absurd hd aG
 |x::l,h,d,hd=>by
  rw [DataW.weightsAll,List.all_append,Bool.and_eq_true]at h
  rcases List.mem_cons.1 hd with rfl|hd
  ·exact h.1
  ·exact qK h.2 d hd
theorem light_each:∀{ts:List TypeId} {l:List (DataW H)} (_:(DataW.weightsEach P ts l).all (·<=reachBytes)=true) (i:Nat) (t:TypeId) (d:DataW H),ts[i]?=some t->l[i]?=some d->light P t d
 |[],_,_,i,_,_,ht,_=>absurd ht aG
 |_::_,[],_,i,_,_,_,hd=>absurd hd aG
 |t::ts,x::l,h,i,t',d,ht,hd=>by
  rw [DataW.weightsEach,List.all_append,Bool.and_eq_true]at h
  cases i with
  |zero=>
   simp only [List.getElem?_cons_zero,Option.some.injEq]at ht hd;subst ht hd;exact h.1
  |succ i=>exact light_each h.2 i t' d (by simpa using ht) (by simpa using hd)
theorem Pq {T E:TypeId} {sz fuel:Nat} {v:Value} {d:DataW H} {ps:List MemPlace} (hu:P.underlying T=some (.slice E)) (hsz:P.cellsOf E=sz) (hpos:0<sz) (h:DataW.trod enc P w base (λ_=>true) held fuel T [v]=some (d,ps)) (hw:light P T d):
 ∃(A:Option Addr) (b off len cap:Nat) (css:List (List Value)),v=.slice A len cap/\(0<len->A=some ⟨b,off,none⟩)/\css.length=len/\(0<len->Row w b off css.flatten)/\
  (∀cs∈css,cs.length=sz/\∃n d' ps',n<fuel/\DataW.trod enc P w base (λ_=>true) held n E cs=some (d',ps')/\light P E d')/\len*P.bytesOf E<=reachBytes:=by
 rcases DataW.trod_slice hu h with⟨hcs,_⟩|⟨a,len,cap,elems,rest,n,hfu,hcs,hx,_,hl,hm,hlen,hel,hsp,_⟩
 ·simp at hcs
  exact⟨none,0,0,0,0,[],hcs,λh=>by omega,rfl,λh=>by omega,λ_ h=>by simp at h,by omega⟩
 ·simp at hcs
  obtain⟨hd,-⟩:=Prod.mk.inj hx;subst hd;unfold light at hw;rw [DataW.weights]at hw;simp only [hu,List.all_cons,List.all_append,Bool.and_eq_true,decide_eq_true_eq,List.length_map]at hw;obtain⟨hw1,hw2,-⟩:=hw;have hla:=qK hw2;rw [hsz]at hel
  have hch:∀i,∃cs,i<len->cs.length=sz/\(∃n d' ps',n<fuel/\DataW.trod enc P w base (λ_=>true) held n E cs=some (d',ps')/\light P E d')/\∀j,j<sz->w.cell? ((a.add (i*sz)).add j)=cs[j]?:=λi=>by
   by_cases hil:i<len
   ·have he:=hel i hil
    rw [List.getElem?_eq_getElem aj,Option.bind_eq_some_iff]at he;obtain⟨cs,hc,ht⟩:=he;obtain⟨_,hcl,hat⟩:=World.cells?_some hc;exact⟨cs,λ_=>⟨hcl,⟨n,elems[i].1,elems[i].2,by omega,ht,hla _ (List.mem_map.2 ⟨elems[i],List.getElem_mem _,rfl⟩)⟩,hat⟩⟩
   ·exact⟨[],λh=>absurd h hil⟩
  obtain⟨C,hC⟩:=Classical.axiomOfChoice hch
  have hsp:0<len->a=⟨a.block,a.off,none⟩:=λh0=>by
   exact ajG
  have hlen':∀cs∈(List.range len).map C,cs.length=sz:=λcs hcs=>by
   simp at hcs;obtain⟨i,hil,rfl⟩:=hcs;exact(hC i hil).1
  refine⟨some a,a.block,a.off,len,cap,(List.range len).map C,hcs,λh=>by rw [<-hsp h],by simp,λh0=>?_,λcs hcs=>⟨hlen' cs hcs,?_⟩,?_⟩
  ·have hfl:=um _ hlen'
   exact ajk
  ·simp at hcs
   obtain⟨i,hil,rfl⟩:=hcs;exact(hC i hil).2.1
  ·refine Nat.le_trans (Nat.mul_le_mul_right _ ?_) hw1
   omega
theorem fields_of {fs:Array Field} {t:TypeId} {fuel:Nat} {cs:List Value} {d:DataW H} {ps:List MemPlace} (hu:P.underlying t=some (.struct fs)) (h:DataW.trod enc P w base (λ_=>true) held fuel t cs=some (d,ps)) (hw:light P t d):
 ∃n,fuel=n+1/\cs.length=P.cellsOf t/\∀(i:Nat) (f:Field),fs[i]?=some f->∃d' ps',DataW.trod enc P w base (λ_=>true) held n f.type ((cs.drop f.offset).take (P.cellsOf f.type))=some (d',ps')/\light P f.type d':=by
 obtain⟨xs,n,hfu,hx,hl,hxl,hf⟩:=DataW.trod_struct hu h;obtain⟨hd,-⟩:=Prod.mk.inj hx;subst hd;unfold light at hw;rw [DataW.weights]at hw;simp only [hu]at hw;refine⟨n,hfu,hl,λi f hif=>?_⟩
 have hlt:i<xs.length:=by
  rw [hxl];exact(Array.getElem?_eq_some_iff.1 hif).1
 have h1:=hf i f hif;rw [List.getElem?_eq_getElem hlt]at h1;refine⟨xs[i].1,xs[i].2,h1,light_each hw i f.type xs[i].1 ?_ ?_⟩
 ·rw [List.getElem?_map,Array.getElem?_toList,hif];rfl
 ·rw [List.getElem?_map,List.getElem?_eq_getElem hlt];rfl
end
theorem Row.tail {w:World} {b off:Nat} {c r:List Value} (h:Row w b off (c++r)):Row w b (off+c.length) r:=by
 obtain⟨h1,h2⟩:=h.sub c.length r.length aG;refine⟨h1,h2.trans ?_,h.lt⟩;rw [List.drop_left,List.take_length]
theorem Row.head {w:World} {b off:Nat} {c r:List Value} (h:Row w b off (c++r)):Proofs.YtbfbabbcdochjaaGreatDoor.has w b off c.length=true/\gets w b off c.length=c.toArray:=by
 obtain⟨h1,h2⟩:=h.sub 0 c.length aG;refine⟨h1,h2.trans ?_⟩;rw [List.drop_zero,List.take_left]
theorem mJ {n:Int} (h:Lit.wf (.int .i64 n)=true):aL n:=by
 simpa [Lit.wf,IntKind.min,IntKind.max,IntKind.signed,IntKind.bits,aL]using h
section
variable {H:Type} {enc:TypeId×Value->H} {w:World} {base:Nat} {held:Bool}
theorem mR:prog.cellsOf 3=1:=by kernel_rfl
theorem tZ:prog.cellsOf 9=1:=by kernel_rfl
theorem KG:prog.cellsOf 82=1:=by kernel_rfl
theorem jv:prog.cellsOf 24=1:=by kernel_rfl
theorem xV:prog.cellsOf 23=1:=by kernel_rfl
theorem WY:prog.cellsOf 22=1:=by kernel_rfl
theorem cellsE:prog.cellsOf 84=4:=by kernel_rfl
theorem cellsS:prog.cellsOf 86=7:=by kernel_rfl
theorem aap:prog.cellsOf 66=4:=by kernel_rfl
theorem aeg:prog.cellsOf 26=11:=by kernel_rfl
theorem adT:prog.bytesOf 84=56:=by kernel_rfl
theorem WT:prog.bytesOf 86=112:=by kernel_rfl
theorem adV:prog.bytesOf 66=40:=by kernel_rfl
theorem adU:prog.bytesOf 3=8:=by kernel_rfl
abbrev Trd (w:World) (base:Nat) (held:Bool) (enc:TypeId×Value->H) (fuel:Nat) (t:TypeId) (cs:List Value) (d:DataW H) (ps:List MemPlace):Prop:=DataW.trod enc prog w base (λ_=>true) held fuel t cs=some (d,ps)/\light prog t d
theorem Gs:∀(css:List (List Value)),(∀cs∈css,∃n:Int,aL n/\cs=[.int .i64 n])->∃l:List Int,l.length=css.length/\(∀i∈l,aL i)/\css.flatten=l.map (Value.int .i64)
 |[],_=>⟨[],rfl,by simp,rfl⟩
 |c::r,h=>by
  obtain⟨i,hi,rfl⟩:=h c aG;obtain⟨l,hl,ho,he⟩:=Gs r (λcs hcs=>h cs (by simp [hcs]));exact⟨i::l,by simp [hl],by simp;exact⟨hi,ho⟩,by rw [List.flatten_cons,he];rfl⟩
theorem aaK {fuel:Nat} {v:Value} {d:DataW H} {ps:List MemPlace} (hh:Trd w base held enc fuel 22 [v] d ps):∃A n cap l,v=.slice A n cap/\VR w w.heap.size A n l:=by
 obtain⟨h,hw⟩:=hh;obtain⟨A,b,off,len,cap,css,rfl,hA,hl,hr,hc,hb⟩:=Pq underlying22 mR aj h hw
 obtain⟨l,hll,ho,he⟩:=Gs css (λcs hcs=>by
  obtain⟨hcl,n,d',ps',hlt,ht,hw'⟩:=hc cs hcs;obtain⟨k,e,_,wf⟩:=DataW.trod_int underlying3 ht;exact⟨k,mJ wf,e⟩)
 rw [adU]at hb;exact⟨A,len,cap,l,rfl,by omega,by unfold Fits;unfold reachBytes at hb;omega,ho,b,off,hA,λh0=>⟨(hr h0).lt,he▸hr h0⟩⟩
end
def Rq:List Int:=[0,0,1,1,1,2,2,2,2,2,2,2,2,2,2,2,2,2]
def CS:List Int:=[1,2,1,0,0,0,1,0,2,1]
theorem KU {w:World} (h:w.ShapedOpen prog):4<w.heap.size:=by
 obtain⟨h1,-⟩:=h;have hs:(((begin prog (λ_ _=>0) default).world.heap[4]?).bind Obj.row?).isSome=true:=by kernel_rfl
 obtain⟨⟨zero,t⟩,hz⟩:=Option.isSome_iff_exists.1 hs;obtain⟨cs,hc,-⟩:=h1 4 zero t (of_decide_eq_true bT) hz;exact(Array.getElem?_eq_some_iff.1 hc).1
open Go.RowKit So
theorem Uq (w:World):Calls prog 148 #[] w λe w'=>e=.returned (.slice (some ⟨w.heap.size,0,none⟩) 5 5)/\Ext w w'/\aH w' w.heap.size 9 #[.string sStart,.string lU,.string gQ,.string JF,.string oU]:=by
 go_enter func148,ntmps148;go_wp2_with fail;go_ret;exact⟨rfl,(kR _ w).alloc _,bN w _ _⟩
theorem PI (k:Nat) (hk:k<10) (w:World):Calls prog 146 #[.int .i64 (k:Int)] w λe w'=>e=.returned (.int .i64 (stmtParts (k:Int)))/\Ext w w':=by
 have hx:=(kR (λ_=>False) w).alloc (.cells #[.int .i64 1,.int .i64 2,.int .i64 1,.int .i64 0,.int .i64 0,.int .i64 0,.int .i64 1,.int .i64 0,.int .i64 2,.int .i64 1] 3);have XB:(k:Int)<10:=by omega
 have hc:(w.alloc (.cells #[.int .i64 1,.int .i64 2,.int .i64 1,.int .i64 0,.int .i64 0,.int .i64 0,.int .i64 1,.int .i64 0,.int .i64 2,.int .i64 1] 3)).cell? ⟨w.heap.size,k,none⟩=some (.int .i64 (stmtParts (k:Int))):=by
  rw [bC (bN w _ _)];have:∀k,k<10->CS[k]?=some ((stmtParts (k:Nat):Nat):Int):=by decide
  have h2:=this k hk;have h3:(#[Value.int .i64 1,.int .i64 2,.int .i64 1,.int .i64 0,.int .i64 0,.int .i64 0,.int .i64 1,.int .i64 0,.int .i64 2,.int .i64 1]:Array Value)=(CS.map (Value.int .i64)).toArray:=rfl;rw [h3,List.getElem?_toArray,List.getElem?_map,h2]
  rfl
 go_enter func146,ntmps146;go_wp2_with fail;go_ret;exact⟨rfl,hx⟩
end Go.Proofs.YtbfbabbcdochjaaGreatDoor
