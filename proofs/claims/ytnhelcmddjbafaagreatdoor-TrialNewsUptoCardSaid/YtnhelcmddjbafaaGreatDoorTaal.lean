import Derived.Test.YtnhelcmddjbafaaGreatDoorTaak
set_option maxHeartbeats 4000000
set_option maxRecDepth 100000
open Go.Proofs.Tryz
namespace Go.Proofs.YtnhelcmddjbafaaGreatDoor
open Go.RowKit Mc Sq
variable{dst:Option Tmp}{pos:String}{after:Array Edge}{guard:Option (Nat×Bool)}
theorem kC:gB prog 169=true:=by kernel_rfl
theorem tz:dw prog 169=some 5:=by kernel_rfl
theorem Ah {eY} {x} {a} {w} {K} {Q} (hx:eG (a.eval x)=true) (hh:has w (aL (a.eval x)) (aM (a.eval x)) 5=true):
 Oper.wp prog ⟨dst,.load 169 x,eY,pos,after,guard⟩ a w K Q=K (a.put dst (.agg (gets w (aL (a.eval x)) (aM (a.eval x)) 5))) w:=bB 5 kC tz hx hh
theorem Jd {ρ} {eY} {x} {w} (hx:eG (ρ x)=true) (hh:has w (aL (ρ x)) (aM (ρ x)) 5=true):
 (execOp ρ ⟨dst,.load 169 x,eY,pos,after,guard⟩).run prog w=.ok (.value (.agg (gets w (aL (ρ x)) (aM (ρ x)) 5))) w:=aH 5 kC tz hx hh
attribute [go_sem] kC tz
attribute [go_sem↓high] Ah Jd
attribute [go_sem high] Ah
def br (p:Pr) (i:Nat):Nat:=bW (8+dL (partOf p i))
abbrev tV (v:Nat->Nat) (j:Nat):Array Value:=#[.int .i64 (if 0<j then v 0 else 0:Nat),.int .i64 (if 1<j then v 1 else 0:Nat),.int .i64 (if 2<j then v 2 else 0:Nat),.int .i64 (if 3<j then v 3 else 0:Nat),.int .i64 (if 4<j then v 4 else 0:Nat)]
theorem NS (c) (p) (N) (w:World) (hN:N<=w.heap.size) (hP:lZ w N c p) (hk:∀i,i<5->okK (partOf p i)):
 Calls prog 138 #[.agg c.cells] w λe w'=>((∀i,i<5->br p i<=65536)/\e=.returned (.tuple #[.agg (tV (br p) 5),.int .i64 0])∨(∃i,i<5/\65536<br p i)/\e=.returned (.tuple #[.agg (tV (br p) 0),.int .i64 12]))/\al w w':=by
 obtain⟨W1,ku⟩:=nm' (((w.alloc (.cells c.cells 163)).alloc (.cells #[.int .i64 0,.int .i64 0,.int .i64 0,.int .i64 0,.int .i64 0] 169)).alloc (.cells #[.int .i64 0,.int .i64 0,.int .i64 0,.int .i64 0,.int .i64 0] 169));have y1:al w W1:=by rw [ku];exact((dS w _).alloc _).alloc _
 have hz:((w.alloc (.cells c.cells 163)).alloc (.cells #[.int .i64 0,.int .i64 0,.int .i64 0,.int .i64 0,.int .i64 0] 169)).heap.size=w.heap.size+2:=by simp
 have hz1:(w.alloc (.cells c.cells 163)).heap.size=w.heap.size+1:=by simp
 have hpB:aj W1 w.heap.size 163 c.cells:=by rw [ku];exact((bN w _ _).alloc _).alloc _
 have hrB:aj W1 (w.heap.size+1) 169 (tV (br p) 0):=by rw [ku];exact(aj.d_ _ _ _ _ aC).alloc _
 have hsB:aj W1 (w.heap.size+2) 169 (tV (br p) 0):=by rw [ku];exact aj.d_ _ _ _ _ aC
 have HP:=J (hP.kept y1 hN (λ_ f=>f.elim));have WT:=J hk;clear hP hk;go_enter func138,ntmps138;go_upto_region 2 with(fail)
 try rw [hz]
 try rw [hz1]
 rw [<-ku];clear hz hz1 ku;have WZ:=J y1.size;have HSB:=J hsB.lt;generalize zQ:(w:World).heap.size=p4 at hpB hrB hsB⊢;have Et:=J zQ;clear zQ;have⟨oO,ET,aiQ⟩:=J3' hpB hrB hsB;clear hpB hrB hsB;go_wp21;refine(NR _).mono ?_;rintro e W2 ⟨ex,st,rfl,hC,y2,he1,T_⟩;have oZ:p4+2<W1.heap.size:=aiQ.o.lt;have yc:al W2 (W2.alloc (.cells (JF ex st) 292)):=dS W2 _;have bc:=bN W2 292 (JF ex st);go_upto_region 3 with(fail);generalize (W2.alloc (.cells (JF ex st) 292))=W3 at yc bc⊢;have jd:p4+2<W2.heap.size:=by have:=y2.size;omega
 generalize W2.heap.size=cb at bc jd⊢;have⟨Y3,n7,vu,HES⟩:=J4' (y2.trans yc) (hC.ext yc) bc (show¬ex=p4+2/\¬st=p4+2 by omega);have⟨HPC,QR,HRC,HSC,Bi⟩:=J5' (bX oO.o Y3.o) (HP.o.kept Y3.o (by have:=WZ.o;omega) (λ_ f=>f.elim)) (bX ET.o Y3.o) (bX aiQ.o Y3.o) (show N<=p4 by have:=Et.o;omega);have WR:=J (show p4+2<W3.heap.size from(HSC.o).lt);have VO:=J jd;clear y2 yc bc hC he1 T_ oZ jd;have i1:=bC HPC.o;have i2:=HPC.o.lt;go_wp21;clear i1 i2
 go_loopw [21] (λt21 wr=>∃(j:Nat),j<=5/\t21=.int .i64 j/\(∀i,i<j->br p i<=65536)/\aj wr (p4+2) 169 (tV (br p) j)/\Kept (·=p4+2) W3 wr) (λt21 _=>5 - (intOf t21).toNat)
 case atStart=>exact⟨0,by omega,rfl,λi hi=>by omega,HSC.o,kR _ _⟩
 case round=>
  obtain⟨j,hj,rfl,hall,hB,hk⟩:=hrel;have⟨i',HB,HK⟩:=J3' hall hB hk;clear hall hB hk
  by_cases Br:j=5
  .subst Br
   have hr:=bK HRC.o HK.o ad;have l1:=bH HB.o;have l2:=bG HB.o;have l3:=HB.o.lt;have l4:=bH hr;have l5:=aj.aJ hr;have l6:=hr.lt;have HR:=J hr;clear hr;go_wp21;refine eB (t:=169) (g:=p4+1) (cs:=tV (br p) 5) results138 rfl rfl kC VC Vx ⟨Or.inl ⟨i'.o,rfl⟩,?_⟩;have hq:=Et.o;exact(y1.trans Y3.o).trans' ((HK.o.mono (λ_ _ e=>Or.inr e)).trans (Kept.putAt (S:=λi=>i=p4+1∨i=p4+2) (kR _ _) _ 0 _ (λ_=>Or.inl rfl))) (λi hi e=>by omega)
  have Yu:j=0∨j=1∨j=2∨j=3∨j=4:=by omega
  clear hj Br
  rcases Yu with rfl|rfl|rfl|rfl|rfl
  .skip
   have qx:(Instr.index 227 (.agg #[c.start.v,c.turn.v,c.ci.v,c.quiet.v,c.bP.v]) (.int .i64 0)).run prog wr=.ok c.start.v wr:=pM c.start c.turn c.ci c.quiet c.bP 0 ad wr;have oZ:=QR.o.start;go_wp21;refine aav ?_;clear qx;intro w4 y4 nb b4 eJ pf l1 l2 l3;go_wp21;have Od:¬cb=nb:=by have a:=vu.o.lt;have b:=eJ.o;omega
   refine aaD ?_;intro uP;have IB:jc wr N c.start.A c.start.n p.start:=oZ.kept HK.o aae (λi e=>by have a:=Bi.o;omega);have Hx:=J (show c.start.n=p.start.len from oZ.1);rw [Hx.o]at IB;have AL:=nF p.start (WT.o 0 ad) ex st N c.start.A c.start.c w4 (uP.ext y4) (IB.kept y4 aai (λ_ f=>f.elim)) aad;rw [<-Hx.o]at AL;refine AL.mono ?_;rintro e w5 ⟨rfl,y5⟩;go_wp21;refine(eR nb 8 (bW (dL p.start)) _ ad (by have:=eO (dL p.start);omega) (bX b4 y5)).mono ?_;rintro e w6 ⟨rfl,b6,k6⟩;have RM:bW (8+bW (dL p.start))=br p 0:=pT _ _;refine aat ?_;clear b6;intro b6 Ol m1 m2 m3 EL nM;have fQ:=aj.fw EL.o 0 (.int .i64 (br p 0:Nat));have Ep:=J (nM.trans (Kept.setCell (S:=(·=p4+2)) (kR _ w6) ⟨p4+2,0,none⟩ (.int .i64 (br p 0:Nat)) (λ_=>rfl)));have mQ:=J (show aj (w6.setCell ⟨p4+2,0,none⟩ (.int .i64 (br p 0:Nat))) (p4+2) 169 (tV (br p) (0+1))from fQ);clear Ol l1 l2 l3 fQ nM AL IB uP b4 y4 y5 b6 k6 oZ RM;go_upto_region 8 with(fail);generalize (w6.setCell ⟨p4+2,0,none⟩ (.int .i64 (br p 0:Nat)))=w8 at Ep mQ⊢;clear m1 m2 m3;have m1:=bC mQ.o;have m2:=mQ.o.lt
   by_cases hbig:65536<br p 0
   .have hg:decide ((65536:Int)<(br p 0:Int))=true:=cO ad
    refine aaE ?_;clear hbig;intro mv l4 l5 l6 HR;go_wp21;refine eB (t:=169) (g:=p4+1) (cs:=tV (br p) 0) results138 rfl rfl kC VC Vx ⟨Or.inr ⟨⟨0,by omega,mv.o⟩,rfl⟩,?_⟩;exact aaY
   .have hg:decide ((65536:Int)<(br p 0:Int))=false:=cU ad
    have mv:=J hbig;clear hbig;go_wp21;go_roundw
    case rel=>exact⟨0+1,by omega,by go_num,λi hi=>by rcases(by omega:i<0∨i=0)with q|q;exact i'.o i q;rw [q];have:=mv.o;omega,mQ.o,Ep.o⟩
    case measure=>simp only [intOf];omega
  .skip
   have qx:(Instr.index 227 (.agg #[c.start.v,c.turn.v,c.ci.v,c.quiet.v,c.bP.v]) (.int .i64 1)).run prog wr=.ok c.turn.v wr:=pM c.start c.turn c.ci c.quiet c.bP 1 ad wr;have oZ:=QR.o.turn;go_wp21;refine aav ?_;clear qx;intro w4 y4 nb b4 eJ pf l1 l2 l3;go_wp21;have Od:¬cb=nb:=by have a:=vu.o.lt;have b:=eJ.o;omega
   refine aaD ?_;intro uP;have IB:jc wr N c.turn.A c.turn.n p.turn:=oZ.kept HK.o aae (λi e=>by have a:=Bi.o;omega);have Hx:=J (show c.turn.n=p.turn.len from oZ.1);rw [Hx.o]at IB;have AL:=nF p.turn (WT.o 1 ad) ex st N c.turn.A c.turn.c w4 (uP.ext y4) (IB.kept y4 aai (λ_ f=>f.elim)) aad;rw [<-Hx.o]at AL;refine AL.mono ?_;rintro e w5 ⟨rfl,y5⟩;go_wp21;refine(eR nb 8 (bW (dL p.turn)) _ ad (by have:=eO (dL p.turn);omega) (bX b4 y5)).mono ?_;rintro e w6 ⟨rfl,b6,k6⟩;have RM:bW (8+bW (dL p.turn))=br p 1:=pT _ _;refine aat ?_;clear b6;intro b6 Ol m1 m2 m3 EL nM;have fQ:=aj.fw EL.o 1 (.int .i64 (br p 1:Nat));have Ep:=J (nM.trans (Kept.setCell (S:=(·=p4+2)) (kR _ w6) ⟨p4+2,1,none⟩ (.int .i64 (br p 1:Nat)) (λ_=>rfl)));have mQ:=J (show aj (w6.setCell ⟨p4+2,1,none⟩ (.int .i64 (br p 1:Nat))) (p4+2) 169 (tV (br p) (1+1))from fQ);clear Ol l1 l2 l3 fQ nM AL IB uP b4 y4 y5 b6 k6 oZ RM;go_upto_region 8 with(fail);generalize (w6.setCell ⟨p4+2,1,none⟩ (.int .i64 (br p 1:Nat)))=w8 at Ep mQ⊢;clear m1 m2 m3;have m1:=bC mQ.o;have m2:=mQ.o.lt
   by_cases hbig:65536<br p 1
   .have hg:decide ((65536:Int)<(br p 1:Int))=true:=cO ad
    refine aaE ?_;clear hbig;intro mv l4 l5 l6 HR;go_wp21;refine eB (t:=169) (g:=p4+1) (cs:=tV (br p) 0) results138 rfl rfl kC VC Vx ⟨Or.inr ⟨⟨1,by omega,mv.o⟩,rfl⟩,?_⟩;exact aaY
   .have hg:decide ((65536:Int)<(br p 1:Int))=false:=cU ad
    have mv:=J hbig;clear hbig;go_wp21;go_roundw
    case rel=>exact⟨1+1,by omega,by go_num,λi hi=>by rcases(by omega:i<1∨i=1)with q|q;exact i'.o i q;rw [q];have:=mv.o;omega,mQ.o,Ep.o⟩
    case measure=>simp only [intOf];omega
  .skip
   have qx:(Instr.index 227 (.agg #[c.start.v,c.turn.v,c.ci.v,c.quiet.v,c.bP.v]) (.int .i64 2)).run prog wr=.ok c.ci.v wr:=pM c.start c.turn c.ci c.quiet c.bP 2 ad wr;have oZ:=QR.o.ci;go_wp21;refine aav ?_;clear qx;intro w4 y4 nb b4 eJ pf l1 l2 l3;go_wp21;have Od:¬cb=nb:=by have a:=vu.o.lt;have b:=eJ.o;omega
   refine aaD ?_;intro uP;have IB:jc wr N c.ci.A c.ci.n p.ci:=oZ.kept HK.o aae (λi e=>by have a:=Bi.o;omega);have Hx:=J (show c.ci.n=p.ci.len from oZ.1);rw [Hx.o]at IB;have AL:=nF p.ci (WT.o 2 ad) ex st N c.ci.A c.ci.c w4 (uP.ext y4) (IB.kept y4 aai (λ_ f=>f.elim)) aad;rw [<-Hx.o]at AL;refine AL.mono ?_;rintro e w5 ⟨rfl,y5⟩;go_wp21;refine(eR nb 8 (bW (dL p.ci)) _ ad (by have:=eO (dL p.ci);omega) (bX b4 y5)).mono ?_;rintro e w6 ⟨rfl,b6,k6⟩;have RM:bW (8+bW (dL p.ci))=br p 2:=pT _ _;refine aat ?_;clear b6;intro b6 Ol m1 m2 m3 EL nM;have fQ:=aj.fw EL.o 2 (.int .i64 (br p 2:Nat));have Ep:=J (nM.trans (Kept.setCell (S:=(·=p4+2)) (kR _ w6) ⟨p4+2,2,none⟩ (.int .i64 (br p 2:Nat)) (λ_=>rfl)));have mQ:=J (show aj (w6.setCell ⟨p4+2,2,none⟩ (.int .i64 (br p 2:Nat))) (p4+2) 169 (tV (br p) (2+1))from fQ);clear Ol l1 l2 l3 fQ nM AL IB uP b4 y4 y5 b6 k6 oZ RM;go_upto_region 8 with(fail);generalize (w6.setCell ⟨p4+2,2,none⟩ (.int .i64 (br p 2:Nat)))=w8 at Ep mQ⊢;clear m1 m2 m3;have m1:=bC mQ.o;have m2:=mQ.o.lt
   by_cases hbig:65536<br p 2
   .have hg:decide ((65536:Int)<(br p 2:Int))=true:=cO ad
    refine aaE ?_;clear hbig;intro mv l4 l5 l6 HR;go_wp21;refine eB (t:=169) (g:=p4+1) (cs:=tV (br p) 0) results138 rfl rfl kC VC Vx ⟨Or.inr ⟨⟨2,by omega,mv.o⟩,rfl⟩,?_⟩;exact aaY
   .have hg:decide ((65536:Int)<(br p 2:Int))=false:=cU ad
    have mv:=J hbig;clear hbig;go_wp21;go_roundw
    case rel=>exact⟨2+1,by omega,by go_num,λi hi=>by rcases(by omega:i<2∨i=2)with q|q;exact i'.o i q;rw [q];have:=mv.o;omega,mQ.o,Ep.o⟩
    case measure=>simp only [intOf];omega
  .skip
   have qx:(Instr.index 227 (.agg #[c.start.v,c.turn.v,c.ci.v,c.quiet.v,c.bP.v]) (.int .i64 3)).run prog wr=.ok c.quiet.v wr:=pM c.start c.turn c.ci c.quiet c.bP 3 ad wr;have oZ:=QR.o.quiet;go_wp21;refine aav ?_;clear qx;intro w4 y4 nb b4 eJ pf l1 l2 l3;go_wp21;have Od:¬cb=nb:=by have a:=vu.o.lt;have b:=eJ.o;omega
   refine aaD ?_;intro uP;have IB:jc wr N c.quiet.A c.quiet.n p.quiet:=oZ.kept HK.o aae (λi e=>by have a:=Bi.o;omega);have Hx:=J (show c.quiet.n=p.quiet.len from oZ.1);rw [Hx.o]at IB;have AL:=nF p.quiet (WT.o 3 ad) ex st N c.quiet.A c.quiet.c w4 (uP.ext y4) (IB.kept y4 aai (λ_ f=>f.elim)) aad;rw [<-Hx.o]at AL;refine AL.mono ?_;rintro e w5 ⟨rfl,y5⟩;go_wp21;refine(eR nb 8 (bW (dL p.quiet)) _ ad (by have:=eO (dL p.quiet);omega) (bX b4 y5)).mono ?_;rintro e w6 ⟨rfl,b6,k6⟩;have RM:bW (8+bW (dL p.quiet))=br p 3:=pT _ _;refine aat ?_;clear b6;intro b6 Ol m1 m2 m3 EL nM;have fQ:=aj.fw EL.o 3 (.int .i64 (br p 3:Nat));have Ep:=J (nM.trans (Kept.setCell (S:=(·=p4+2)) (kR _ w6) ⟨p4+2,3,none⟩ (.int .i64 (br p 3:Nat)) (λ_=>rfl)));have mQ:=J (show aj (w6.setCell ⟨p4+2,3,none⟩ (.int .i64 (br p 3:Nat))) (p4+2) 169 (tV (br p) (3+1))from fQ);clear Ol l1 l2 l3 fQ nM AL IB uP b4 y4 y5 b6 k6 oZ RM;go_upto_region 8 with(fail);generalize (w6.setCell ⟨p4+2,3,none⟩ (.int .i64 (br p 3:Nat)))=w8 at Ep mQ⊢;clear m1 m2 m3;have m1:=bC mQ.o;have m2:=mQ.o.lt
   by_cases hbig:65536<br p 3
   .have hg:decide ((65536:Int)<(br p 3:Int))=true:=cO ad
    refine aaE ?_;clear hbig;intro mv l4 l5 l6 HR;go_wp21;refine eB (t:=169) (g:=p4+1) (cs:=tV (br p) 0) results138 rfl rfl kC VC Vx ⟨Or.inr ⟨⟨3,by omega,mv.o⟩,rfl⟩,?_⟩;exact aaY
   .have hg:decide ((65536:Int)<(br p 3:Int))=false:=cU ad
    have mv:=J hbig;clear hbig;go_wp21;go_roundw
    case rel=>exact⟨3+1,by omega,by go_num,λi hi=>by rcases(by omega:i<3∨i=3)with q|q;exact i'.o i q;rw [q];have:=mv.o;omega,mQ.o,Ep.o⟩
    case measure=>simp only [intOf];omega
  .skip
   have qx:(Instr.index 227 (.agg #[c.start.v,c.turn.v,c.ci.v,c.quiet.v,c.bP.v]) (.int .i64 4)).run prog wr=.ok c.bP.v wr:=pM c.start c.turn c.ci c.quiet c.bP 4 ad wr;have oZ:=QR.o.bP;go_wp21;refine aav ?_;clear qx;intro w4 y4 nb b4 eJ pf l1 l2 l3;go_wp21;have Od:¬cb=nb:=by have a:=vu.o.lt;have b:=eJ.o;omega
   refine aaD ?_;intro uP;have IB:jc wr N c.bP.A c.bP.n p.bP:=oZ.kept HK.o aae (λi e=>by have a:=Bi.o;omega);have Hx:=J (show c.bP.n=p.bP.len from oZ.1);rw [Hx.o]at IB;have AL:=nF p.bP (WT.o 4 ad) ex st N c.bP.A c.bP.c w4 (uP.ext y4) (IB.kept y4 aai (λ_ f=>f.elim)) aad;rw [<-Hx.o]at AL;refine AL.mono ?_;rintro e w5 ⟨rfl,y5⟩;go_wp21;refine(eR nb 8 (bW (dL p.bP)) _ ad (by have:=eO (dL p.bP);omega) (bX b4 y5)).mono ?_;rintro e w6 ⟨rfl,b6,k6⟩;have RM:bW (8+bW (dL p.bP))=br p 4:=pT _ _;refine aat ?_;clear b6;intro b6 Ol m1 m2 m3 EL nM;have fQ:=aj.fw EL.o 4 (.int .i64 (br p 4:Nat));have Ep:=J (nM.trans (Kept.setCell (S:=(·=p4+2)) (kR _ w6) ⟨p4+2,4,none⟩ (.int .i64 (br p 4:Nat)) (λ_=>rfl)));have mQ:=J (show aj (w6.setCell ⟨p4+2,4,none⟩ (.int .i64 (br p 4:Nat))) (p4+2) 169 (tV (br p) (4+1))from fQ);clear Ol l1 l2 l3 fQ nM AL IB uP b4 y4 y5 b6 k6 oZ RM;go_upto_region 8 with(fail);generalize (w6.setCell ⟨p4+2,4,none⟩ (.int .i64 (br p 4:Nat)))=w8 at Ep mQ⊢;clear m1 m2 m3;have m1:=bC mQ.o;have m2:=mQ.o.lt
   by_cases hbig:65536<br p 4
   .have hg:decide ((65536:Int)<(br p 4:Int))=true:=cO ad
    refine aaE ?_;clear hbig;intro mv l4 l5 l6 HR;go_wp21;refine eB (t:=169) (g:=p4+1) (cs:=tV (br p) 0) results138 rfl rfl kC VC Vx ⟨Or.inr ⟨⟨4,by omega,mv.o⟩,rfl⟩,?_⟩;exact aaY
   .have hg:decide ((65536:Int)<(br p 4:Int))=false:=cU ad
    have mv:=J hbig;clear hbig;go_wp21;go_roundw
    case rel=>exact⟨4+1,by omega,by go_num,λi hi=>by rcases(by omega:i<4∨i=4)with q|q;exact i'.o i q;rw [q];have:=mv.o;omega,mQ.o,Ep.o⟩
    case measure=>simp only [intOf];omega
theorem oz (n) (w):Calls prog 102 #[.int .i64 n] w λe w'=>e=.returned (.bool (decide (0<=n)&&decide (n<5)))/\w=w':=by
 by_cases h0:0<=n
 .have g0:decide (0<=n)=true:=cO h0
  clear h0
  by_cases h5:n<5
  .have g5:decide (n<5)=true:=cO h5
   clear h5;rw [g0,g5];go_enter func102,ntmps102;go_wp21;go_ret;exact⟨rfl,rfl⟩
  .have g5:decide (n<5)=false:=cU h5
   clear h5;rw [g0,g5];go_enter func102,ntmps102;go_wp21;go_ret;exact⟨rfl,rfl⟩
 .have g0:decide (0<=n)=false:=cU h0
  clear h0;rw [g0,Bool.false_and];go_enter func102,ntmps102;go_wp21;go_ret;exact⟨rfl,rfl⟩
theorem RX (n:Nat) (hn:n<=4096) (w):(Instr.makeSlice 40 (.int .i64 n) (.int .i64 n)).run prog w=.ok (.slice (some ⟨w.heap.size,0,none⟩) n n) (w.alloc (.cells (bJ (List.replicate n 0)).toArray 21)):=by
 obtain⟨i,hi,hz,h1,h2⟩:=info_parts ID;have hr:=run_make (P:=prog) w 40 21 i _ underlying40 hi hz .i64 .i64 n n ad (Int.le_refl _) Hf ad;rw [hr,h1]
 have e:madeCells (Value.cells (.int .i32 0)) (((n:Int)).toNat*1)=(bJ (List.replicate n 0)).toArray:=by
  apply Array.ext
  .simp [madeCells,bJ]
  .intro j hj Yu
   simp [madeCells,bJ,Value.cells,Nat.mod_one]
 rw [e];simp
theorem Zm (n:Nat) (h1:1<=n) (h2:n<=256) (w:World):Calls prog 105 #[.int .i64 n] w λe w'=>∃g,e=.returned (.tuple #[.agg (ai 0 (some ⟨g,0,none⟩) n n 0),.int .i64 0])/\aj w' g 21 (bJ (List.replicate n 0)).toArray/\al w w'/\w.heap.size<=g:=by
 have g1:decide ((n:Int)<1)=false:=cU ad;have g2:decide ((256:Int)<n)=false:=cU ad;have hmk:=RX n ad;clear h1 h2;have y0:=dz w (.cells #[.int .i64 0,.slice none 0 0,.int .i64 0] 47);have b0:=bN w 47 #[.int .i64 0,.slice none 0 0,.int .i64 0];go_enter func105,ntmps105;go_upto_region 1 with(fail);generalize (w.alloc (.cells #[.int .i64 0,.slice none 0 0,.int .i64 0] 47))=W1 at y0 b0⊢;generalize hg:(w:World).heap.size=g at b0⊢;have HG:=J hg;clear hg;go_upto_region 3 with(fail);go_step
 iterate 1 refine kT ?_
 refine iy rfl _ _ 40 rfl rfl rfl (hmk W1) ?_;have y1:al W1 (W1.alloc (.cells (bJ (List.replicate n 0)).toArray 21)):=dS W1 _;have bm:=bN W1 21 (bJ (List.replicate n 0)).toArray;have AP:g<W1.heap.size:=b0.lt;have b1:=bX b0 y1;generalize (W1.alloc (.cells (bJ (List.replicate n 0)).toArray 21))=W2 at y1 bm b1⊢;have qh:=y0.size;generalize W1.heap.size=gm at bm AP qh⊢;have l1:=bH b1;have l2:=aj.aJ b1;have l3:=b1.lt;clear hmk;have B1:=J b1;have BM:=J bm;go_wp21;have kp:Kept (·=g) W2 (putAt W2 g 0 #[.int .i64 0,.slice (some ⟨gm,0,none⟩) n n,.int .i64 0]):=Kept.putAt (kR _ _) _ 0 _ (λ_=>rfl);refine eB (t:=47) (g:=g) (cs:=ai 0 (some ⟨gm,0,none⟩) n n 0) results105 rfl rfl nE Aw (by exact aj.cI B1.o 0 _) ⟨gm,rfl,bK BM.o kp ad,?_,qh⟩;exact(y0.trans y1).trans' kp (λi hi e=>by have:=HG.o;omega)
structure Cd where (cells aP:Int) (first params i0 i1 i2 i3 i4:iu) (m:Nat->Nat)
abbrev Cd.c (k:Cd):Array Value:=#[.int .i64 k.cells,.int .i64 k.aP,k.first.v,k.params.v,k.i0.v,k.i1.v,k.i2.v,k.i3.v,k.i4.v,.int .i64 (k.m 0),.int .i64 (k.m 1),.int .i64 (k.m 2),.int .i64 (k.m 3),.int .i64 (k.m 4)]
theorem uH (cb) (k:Cd) (w:World) (hb:aj w cb 171 k.c) (h0:0<=k.cells/\k.cells<=1000):Calls prog 54 #[.pointer (some ⟨cb,0,none⟩)] w λe w'=>e=.returned (.int .i64 (k.cells+49))/\w=w':=by
 have i1:=bC hb;have i2:=hb.lt;have hw:=wrap_i64 (n:=k.cells+49) mu;clear hb;go_enter func54,ntmps54;go_wp21;go_ret;exact⟨rfl,rfl⟩
theorem sY (cb) (k:Cd) (w:World) (hb:aj w cb 171 k.c) (part:Nat) (hp:part<5):Calls prog 44 #[.pointer (some ⟨cb,0,none⟩),.int .i64 part] w λe w'=>e=.returned (.int .i64 (k.m part))/\w=w':=by
 have i1:=bC hb;have i2:=hb.lt;clear hb;have hj:part=0∨part=1∨part=2∨part=3∨part=4:=by omega
 clear hp
 rcases hj with rfl|rfl|rfl|rfl|rfl
 all_goals
  go_enter func44,ntmps44;go_wp21;refine uW (oz _ _) ?_;go_wp21;go_ret;exact⟨rfl,rfl⟩
theorem OJ (b off cap) (l) (n:Nat) (hn:n=l.length) (h1:1<=n) (h2:n<=50000) (w:World) (hr:Row w b off (cM l)):
 Calls prog 69 #[.slice (some ⟨b,off,none⟩) n cap] w λe w'=>∃v,e=.returned v/\w'.ownsRow w.heap.size 71 4 v n (cM l)/\al w w':=by
 obtain⟨v2,w2,ki,n9,eC⟩:=adL (w.alloc (.cells #[] 71)) _ _ 0 [] (BD w 71 4) b off n cap l hn (hr.ext (dS w _)) ad aC;have HN:=J hn;clear hn;have heq:=λw=>Lib.run_eql_slice_nil (P:=prog) w 48 71 (some ⟨b,off,none⟩) n cap 0 0 underlying48;simp only [Option.isNone_some]at heq;go_enter func69,ntmps69;go_upto_region 3 with(fail);go_step
 iterate 2 refine kT ?_
 refine cJ rfl (.tmp 5) (.tmp 6) 48 rfl rfl rfl rfl ki ?_;clear ki;go_wp21;go_ret;rw [dU,nB]at n9;exact⟨_,rfl,n9,(dS w _).trans' eC (λi hi e=>by simp [Value.ownBlock]at e;omega)⟩
def Cd.i (k:Cd):Nat->iu|0=>k.i0|1=>k.i1|2=>k.i2|3=>k.i3|_=>k.i4
theorem rL (cb:Nat) (k:Cd) (w:World) (hb:aj w cb 171 k.c) (part:Nat) (hp:part<5) (b off:Nat) (l:List Ins) (hn:(k.i part).n=l.length) (h1:1<=(k.i part).n) (h2:(k.i part).n<=50000) (hA:(k.i part).A=some ⟨b,off,none⟩) (hr:Row w b off (cM l)):
 Calls prog 47 #[.pointer (some ⟨cb,0,none⟩),.int .i64 part] w λe w'=>∃v,e=.returned v/\w'.ownsRow w.heap.size 71 4 v l.length (cM l)/\al w w':=by
 have i1:=bC hb;have i2:=hb.lt;have jd:=OJ b off (k.i part).c l (k.i part).n hn h1 h2 w hr;rw [<-hA,hn]at jd;have HN:=J hn;clear hb hA hr h1 h2;have hj:part=0∨part=1∨part=2∨part=3∨part=4:=by omega
 clear hp hn;have VO:=J jd;clear jd
 rcases hj with rfl|rfl|rfl|rfl|rfl
 all_goals
  go_enter func47,ntmps47;go_wp21;refine uW (oz _ _) ?_;go_wp21;have jd:=VO.o;rw [<-HN.o]at jd;refine(jd:_).mono ?_;rintro e w2 ⟨v,rfl,ho,hx⟩;go_wp21;go_ret;exact⟨v,rfl,by rw [<-HN.o];exact ho,hx⟩
theorem Uw (w):Calls prog 273 #[] w λe w'=>e=.returned (.slice (some ⟨w.heap.size,0,none⟩) 5 5)/\al w w'/\aj w' w.heap.size 9 #[.string P2,.string li,.string f_,.string Jq,.string om]:=by
 go_enter func273,ntmps273;go_wp21;go_ret;exact⟨rfl,dS w _,bN w _ _⟩
theorem PW (k:Nat) (hk:k<10) (w):Calls prog 271 #[.int .i64 (k:Int)] w λe w'=>e=.returned (.int .i64 (stmtParts (k:Int)))/\al w w':=by
 have hx:=dz w (.cells #[.int .i64 1,.int .i64 2,.int .i64 1,.int .i64 0,.int .i64 0,.int .i64 0,.int .i64 1,.int .i64 0,.int .i64 2,.int .i64 1] 3);have hkI:(k:Int)<10:=by omega
 have hc:(w.alloc (.cells #[.int .i64 1,.int .i64 2,.int .i64 1,.int .i64 0,.int .i64 0,.int .i64 0,.int .i64 1,.int .i64 0,.int .i64 2,.int .i64 1] 3)).cell? ⟨w.heap.size,k,none⟩=some (.int .i64 (stmtParts (k:Int))):=by
  rw [bC (bN w _ _)];have:∀k,k<10->BL[k]?=some ((stmtParts (k:Nat):Nat):Int):=by decide
  have h2:=this k hk;have h3:(#[Value.int .i64 1,.int .i64 2,.int .i64 1,.int .i64 0,.int .i64 0,.int .i64 0,.int .i64 1,.int .i64 0,.int .i64 2,.int .i64 1]:Array Value)=(BL.map (Value.int .i64)).toArray:=rfl;rw [h3,List.getElem?_toArray,List.getElem?_map,h2]
  rfl
 go_enter func271,ntmps271;go_wp21;go_ret;exact⟨rfl,hx⟩
theorem C7 (l) (s):(fK l s==0)=!(l.any (λv=>decide (v.name=s))):=by
 unfold fK
 cases hf:l.find? (λv=>decide (v.name=s))with
 |none=>
  have:l.any (λv=>decide (v.name=s))=false:=by
   rw [List.any_eq_false];intro v hv;exact List.find?_eq_none.1 hf v hv
  rw [this];rfl
 |some v=>
  have:l.any (λv=>decide (v.name=s))=true:=by
   rw [List.any_eq_true];exact⟨v,List.mem_of_find?_eq_some hf,List.find?_some (p:=λv:Vr=>decide (v.name=s)) hf⟩
  rw [this];simp only
  split<;>rfl
theorem rA.take {w} {N} {A} {n} {l:List Vr} (h:rA w N A n l) (j:Nat) (hj:j<=n):rA w N A j (l.take j):=by
 obtain⟨h1,h2,h3,b,off,h4,h5⟩:=h;refine⟨by rw [vR];omega,?_,λv hv=>h3 v (List.mem_of_mem_take hv),b,off,λh0=>h4 ad,λh0=>⟨(h5 ad).1,?_⟩⟩
 .unfold Fits at h2⊢
  have:j*40<=n*40:=Nat.mul_le_mul_right _ hj
  omega
 .have hr:=(h5 ad).2
  have hs:=hr.sub 0 (j*4) (by rw [jt (f:=aO) (k:=4) (λ_=>rfl)];omega)
  have he:(b_ aO l).take (j*4)=b_ aO (l.take j):=by
   have e1:b_ aO l=b_ aO (l.take j)++b_ aO (l.drop j):=by rw [GQ,List.take_append_drop]
   have e2:(b_ aO (l.take j)).length=j*4:=by rw [jt (f:=aO) (k:=4) (λ_=>rfl),vR];rw [Nat.min_eq_left ad]
   rw [e1,<-e2,List.take_left]
  have e3:(b_ aO (l.take j)).length=j*4:=by rw [jt (f:=aO) (k:=4) (λ_=>rfl),vR];rw [Nat.min_eq_left ad]
  rw [fC,qW,he]at hs;exact⟨by rw [e3];exact hs.1,by rw [e3];exact hs.2,hr.lt⟩
theorem UW (l) (A) (n c N) (w:World) (mE:n<=c) (hN:N<=w.heap.size) (h:rA w N A n l):Calls prog 146 #[.slice A n c] w λe w'=>e=.returned (.agg (gf (ak (eM [] l) (must (decide (cells l<=64)) 8 rq))))/\al w w':=by
 obtain⟨X,hX⟩:=nm' (ak (eM [] l) (must (decide (cells l<=64)) 8 rq));rw [<-hX];have HX:=J hX.symm;clear hX;have aK:=dz w (.cells #[.int .i64 0,.string ⟨#[]⟩] 166);have hD:=bN w 166 #[.int .i64 0,.string ⟨#[]⟩];have HV:=J (h.ext aK);obtain⟨hn,hf,hok,b,off,hA,hE⟩:=h.ext aK;refine zi ?_;intro hm HN HA HE;have oN:=J hok;have fx:=J (ay hN aK.size);clear hn hA hE hok hf h;go_enter func146,ntmps146;go_upto_region 1 with(fail);generalize hW:(w.alloc (.cells #[.int .i64 0,.string ⟨#[]⟩] 166))=W at aK hD HE HV fx⊢;clear hW;obtain⟨rb,pg⟩:=nm' w.heap.size;rw [<-pg]at hD⊢;have⟨B_,HD,dX⟩:=J3' (show w.heap.size<=rb by omega) hD aK;clear hD aK pg;go_wp21
 go_loopw [3,4] (λt3 t4 wr=>∃(j:Nat),j<=n/\t4=.int .i64 j/\t3=.int .i64 (jw (cells (l.take j)))/\ak (eM (l.take j) (l.drop j)) (must (decide (cells l<=64)) 8 rq)=X/\al W wr) (λ_ t4 _=>n - (intOf t4).toNat)
 case atStart=>exact⟨0,de _,rfl,by simp [cells,eF],HX.o,kR _ _⟩
 case round=>
  obtain⟨j,hj,rfl,rfl,bO,hx⟩:=hrel;have cH:=J hx;have cr:=J bO;clear hx bO
  by_cases aX:j<n
  .have ft:j<l.length:=by have:=HN.o;omega
   have iI:(j:Int)<n:=by omega
   have hjc:(j:Int)<=c:=by omega
   have HJV:=J (HV.o.take j hj);obtain rfl:=HA.o ad;have aG:=(HE.o ad).2.ext cH.o;obtain⟨jM,hg'⟩:=oL aG j ft;have ie:=aG.lt;obtain⟨x,gi⟩:=nm' (l[j]);have HVO:=J (oN.o x adk);have oB:l.drop j=x::l.drop (j+1):=by rw [gi];exact ui ft
   have pL:l.take (j+1)=l.take j++[x]:=by rw [gi,mJ,List.getElem?_eq_getElem ft];rfl
   have HCT:=J (show cells (l.take (j+1))=cells (l.take j)+Sq.fO x by rw [nG ft,<-gi]);rw [<-gi]at hg';have bO:=cr.o;rw [oB]at bO;have FM:=J pL;obtain⟨Y,hY⟩:=nm' (ak (eM (l.take j++[x]) (l.drop (j+1))) (must (decide (cells l<=64)) 8 rq));have HYE:=J hY
   have fN:gq (X=ak (must (dv x.name) 6 x.name) (ak (must (!((l.take j).any (λv=>decide (v.name=x.name)))) 7 x.name) (ak (must (iX x.size 0 64&&span x) 2 x.name) Y))):=J (by
    rw [<-bO,hY,eM,dx,dx,dx,C7])
   clear aG gi bO oB pL hY cr;have y0:=dz wr (.cells (aO x) 174);have Is:=bN wr 174 (aO x);go_upto_region 6 with(fail);clear jM hg' ie;have HZ:=J (cH.o.trans y0);generalize ku:(wr.alloc (.cells (aO x) 174))=W1 at y0 Is HZ⊢;generalize wr.heap.size=eb at Is⊢;have JB:=J Is;clear ku y0 Is cH;have Om:=bC JB.o;have Oq:=JB.o.lt;go_wp21;refine kU (ml x.name HVO.o.name _) λw1 aB=>?_;have cH:=J (HZ.o.trans aB);have QT:=J (bX JB.o aB);clear Om Oq aB JB HZ;have Om:=bC QT.o;have Oq:=QT.o.lt;refine QE ?_;intro eg fY gD gy
   cases hn:dv x.name
   .have HR:=J (show X=some ⟨6,x.name⟩by rw [fN.o,hn,aT,aZ])
    exact aaW
   .have gO:=J (show X=ak (must (!((l.take j).any (λv=>decide (v.name=x.name)))) 7 x.name) (ak (must (iX x.size 0 64&&span x) 2 x.name) Y)by rw [fN.o,hn,bL,aY])
    clear fN hn eg fY gD gy Om Oq;go_upto_region 8 with(fail);refine eW (λw2=>al w1 w2) [(0,2),(1,2),(2,2),(3,2),(4,1),(5,0)] ?_;refine eX ?_;have eL:=J (pj w1)
    repeat first|refine bV ?_|refine cF eL.o (by intro w1 hS;have d4:=bX QT.o hS;have d5:=bC d4;have d6:=d4.lt;exact fE) ?_|refine cD eL.o ?_
    refine ap (λK hK=>?_);go_simp;refine uW (wN (l.take j) x.name _ j _ N _ (HJV.o.ext (cH.o.trans eL.o))) ?_;refine hK.out _ _ (λ_=>eL.o) ?_;clear hK K;refine fc ?_;have cH:=J (cH.o.trans eL.o);have SS:=J (bX QT.o eL.o);generalize w1.drew=W2 at cH SS⊢;clear eL QT;have Om:=bC SS.o;have Oq:=SS.o.lt;refine QE ?_;intro eg fY gD gy;obtain⟨an,han⟩:=nm' ((l.take j).any (λv=>decide (v.name=x.name)));rw [<-han]at gO⊢;clear han
    cases an
    .have eK:=J (show X=ak (must (iX x.size 0 64&&(word x.low&&word x.high&&decide (x.low<=x.high))) 2 x.name) Y by rw [gO.o,Bool.not_false,bL,aY];rfl)
     clear gO eg fY gD gy;go_wp21;refine uW (qB x.size 0 64 _) ?_
     cases hb:iX x.size 0 64
     .have HR:=J (show X=some ⟨2,x.name⟩by rw [eK.o,hb,Bool.false_and,aT,aZ])
      exact adC
     .go_wp21
      refine uW (jo x.low _) ?_
      cases mO:word x.low
      .have HR:=J (show X=some ⟨2,x.name⟩by rw [eK.o,hb,mO];rfl)
       exact adC
      .go_wp21
       refine uW (jo x.high _) ?_
       cases rB:word x.high
       .have HR:=J (show X=some ⟨2,x.name⟩by rw [eK.o,hb,mO,rB];rfl)
        exact adC
       .have k_:=J (show X=ak (must (decide (x.low<=x.high)) 2 x.name) Y by rw [eK.o,hb,mO,rB,rG,rG,rG])
        clear eK hb mO rB
        by_cases jb:x.low>x.high
        .have HR:=J (show X=some ⟨2,x.name⟩by rw [k_.o,cU ad,aT,aZ])
         exact adC
        .have pu:=J (show X=Y by rw [k_.o,cO ad,bL,aY])
         have hhV:=bH SS.o;have hgV:=bG SS.o;go_wp21;refine kU (yq x _) λw4 eV=>?_;go_wp21;go_roundw
         case rel=>exact⟨j+1,aX,by go_num,by rw [HCT.o];simp only [iE],by rw [FM.o,<-HYE.o,pu.o],cH.o.trans eV⟩
         case measure=>simp only [intOf];omega
    .have HR:=J (show X=some ⟨7,x.name⟩by rw [gO.o,vS,aT,aZ])
     exact aaW
  .obtain rfl:j=n:=by omega
   have hXM:X=must (decide (cells l<=64)) 8 rq:=by rw [<-cr.o,HN.o,uj];rfl
   have hz:jw (cells (l.take j))=cells l:=by rw [HN.o,lf,p_ aal]
   rw [hz];have JC:=J hXM;obtain⟨z,hze⟩:=nm' (cells l);rw [<-hze]at JC⊢;clear hz hXM cr hze;refine QE ?_;intro eg fY gD gy
   by_cases h64:z>64
   .have HR:=J (show X=some ⟨8,rq⟩by rw [JC.o,cU ad,aT])
    exact aaW
   .have HR:=J (show X=none by rw [JC.o,cO ad,bL])
    clear eg fY gD gy;go_wp21;refine kU (kH _) λw2 bM=>?_;have cH:=J (cH.o.trans bM);refine QE ?_;intro eg fY gD gy;clear bM;exact aaW
theorem US (c) (p) (N) (w:World) (hN:N<=w.heap.size) (h:lZ w N c p) (mE:c.params.n<=c.params.c):Calls prog 148 #[.agg c.cells] w λe w'=>e=.returned (.agg (gf (ak (must (decide (p.params.length<=4)) 8 f_) (ak (dH (fK p.vars) [] p.params) (ak (must (decide (na p.params<=512)) 8 f_) (ak (must (dv p.silent) 6 p.silent) (must (fK p.vars p.silent==0) 7 p.silent)))))))/\al w w':=by
 obtain⟨cn,kv,lK,⟨vA,vn,vc⟩,cs,ct,⟨A,n,cc⟩,iV,mC,cq,oV⟩:=c;obtain rfl:mC=p.silent:=h.silent;obtain⟨b1,jq⟩:=nm' (dv p.silent);obtain⟨b2,jF⟩:=nm' (p.vars.any (λv=>decide (v.name=p.silent)));obtain⟨mn,hmn⟩:=nm' (na p.params);obtain⟨M,hM⟩:=nm' (ak (must (decide (mn<=512)) 8 f_) (ak (must b1 6 p.silent) (must (!b2) 7 p.silent)));obtain⟨X,hX⟩:=nm' (ak (must (decide (p.params.length<=4)) 8 f_) (ak (dH (fK p.vars) [] p.params) M));have hXE:X=(ak (must (decide (p.params.length<=4)) 8 f_) (ak (dH (fK p.vars) [] p.params) (ak (must (decide (na p.params<=512)) 8 f_) (ak (must (dv p.silent) 6 p.silent) (must (fK p.vars p.silent==0) 7 p.silent))))):=by rw [hX,hM,hmn,jq,jF,C7]
 rw [<-hXE];clear hXE;have⟨HM,Jy,mP,Nu,HX⟩:=J5' hM jq jF hmn hX;clear hX hM jq jF hmn;have mE:n<=cc:=mE;have aK:=(dz w (.cells (Pc.cells (⟨cn,kv,lK,⟨vA,vn,vc⟩,cs,ct,⟨A,n,cc⟩,iV,p.silent,cq,oV⟩:Pc)) 39)).alloc (.cells #[.int .i64 0,.string ⟨#[]⟩] 166);have hB:=(bN w 39 (Pc.cells (⟨cn,kv,lK,⟨vA,vn,vc⟩,cs,ct,⟨A,n,cc⟩,iV,p.silent,cq,oV⟩:Pc))).alloc (.cells #[.int .i64 0,.string ⟨#[]⟩] 166);have hD:=aj.d_ (w.alloc (.cells (Pc.cells (⟨cn,kv,lK,⟨vA,vn,vc⟩,cs,ct,⟨A,n,cc⟩,iV,p.silent,cq,oV⟩:Pc)) 39)) 166 #[.int .i64 0,.string ⟨#[]⟩] (w.heap.size+1) aC;have⟨iq,fx,HSO⟩:=J3' (h.ext aK hN) (ay hN aK.size) h.sy;obtain⟨hn,hf,hok,b,off,hA,hE⟩:=h.params.ext aK;have hm:=hf.max ad;have⟨HN,HA,HE,oN⟩:=J4' (show n=p.params.length from hn) hA hE hok;clear hn hA hE hok hf h;go_enter func148,ntmps148;go_upto_region 1 with(fail);generalize hW:((w.alloc (.cells (Pc.cells (⟨cn,kv,lK,⟨vA,vn,vc⟩,cs,ct,⟨A,n,cc⟩,iV,p.silent,cq,oV⟩:Pc)) 39)).alloc (.cells #[.int .i64 0,.string ⟨#[]⟩] 166))=W at aK hB hD HE iq fx⊢;clear hW;obtain⟨rb,pg⟩:=nm' (w.heap.size+1);rw [<-pg]at hD⊢;have⟨B_,HD,dX,HB⟩:=J4' (show w.heap.size<=rb by omega) hD aK hB;clear hD aK pg hB;generalize w.heap.size=pb at HB⊢;have cH:=J (kR (λ_=>False) W);refine Hj ?_;intro eg fY gD gy im lO lL ig
 by_cases h4:(n:Int)>4
 .have HR:=J (show X=some ⟨8,f_⟩by rw [HX.o,cU (show¬p.params.length<=4 by have:=HN.o;omega),aT,aZ])
  exact Bb
 .have gN:=J (show X=ak (dH (fK p.vars) [] p.params) M by rw [HX.o,cO (show p.params.length<=4 by have:=HN.o;omega),bL,aY])
  clear HX;go_wp21;clear eg fY gD gy im lO lL ig cH
  go_loopw [3] (λt3 wr=>∃(j:Nat),j<=n/\t3=.int .i64 j/\ak (dH (fK p.vars) (p.params.take j) (p.params.drop j)) M=X/\al W wr) (λt3 _=>n - (intOf t3).toNat)
  case atStart=>exact⟨0,de _,rfl,gN.o.symm,kR _ _⟩
  case round=>
   obtain⟨j,hj,rfl,bO,hx⟩:=hrel;have cH:=J hx;have cr:=J bO;clear hx bO;refine Hj ?_;intro eg fY gD gy im lO lL ig
   by_cases aX:j<n
   .have ft:j<p.params.length:=by have:=HN.o;omega
    have iI:(j:Int)<n:=by omega
    have hjc:(j:Int)<=cc:=by omega
    have HJV:=J (iq.o.params.take j hj);obtain rfl:=HA.o ad;have aG:=(HE.o ad).2.ext cH.o;obtain⟨jM,hg'⟩:=oL aG j ft;have ie:=aG.lt;obtain⟨x,gi⟩:=nm' (p.params[j]);have HVO:=J (oN.o x adk);have oB:p.params.drop j=x::p.params.drop (j+1):=by rw [gi];exact ui ft
    have pL:p.params.take (j+1)=p.params.take j++[x]:=by rw [gi,mJ,List.getElem?_eq_getElem ft];rfl
    rw [<-gi]at hg';have bO:=cr.o;rw [oB]at bO;have FM:=J pL;obtain⟨Y,hY⟩:=nm' (ak (dH (fK p.vars) (p.params.take j++[x]) (p.params.drop (j+1))) M);have HYE:=J hY;obtain⟨a1,Rw⟩:=nm' (p.vars.any (λv=>decide (v.name=x.name)));obtain⟨a2,TX⟩:=nm' ((p.params.take j).any (λv=>decide (v.name=x.name)))
    have fN:gq (X=ak (must (dv x.name) 6 x.name) (ak (must (!a1&&!a2) 7 x.name) (ak (must (x.size==0) 3 x.name) (ak (must (span x) 2 x.name) Y)))):=J (by
     rw [<-bO,hY,dH,dx,dx,dx,dx,C7,Rw,TX])
    have HA1:=J Rw;have HA2:=J TX;clear aG gi bO oB pL hY cr Rw TX;have y0:=dz wr (.cells (aO x) 174);have Is:=bN wr 174 (aO x);go_upto_region 7 with(fail);clear jM hg' ie eg fY gD gy im lO lL ig;have HZ:=J (cH.o.trans y0);generalize ku:(wr.alloc (.cells (aO x) 174))=W1 at y0 Is HZ⊢;generalize wr.heap.size=eb at Is⊢;have JB:=J Is;clear ku y0 Is cH;have Om:=bC JB.o;have Oq:=JB.o.lt;go_wp21;refine kU (ml x.name HVO.o.name _) λw1 aB=>?_;have cH:=J (HZ.o.trans aB);have QT:=J (bX JB.o aB);clear Om Oq aB JB HZ;have Om:=bC QT.o;have Oq:=QT.o.lt;refine Hj ?_;intro eg fY gD gy im lO lL ig
    cases hn:dv x.name
    .have HR:=J (show X=some ⟨6,x.name⟩by rw [fN.o,hn,aT,aZ])
     exact Bb
    .have gO:=J (show X=ak (must (!a1&&!a2) 7 x.name) (ak (must (x.size==0) 3 x.name) (ak (must (span x) 2 x.name) Y))by rw [fN.o,hn,bL,aY])
     clear fN hn eg fY gD gy im lO lL ig Om Oq;go_upto_region 9 with(fail)
     cases a1
     .refine amG ?_;intro eL K hK
      rintro e w2 ⟨rfl,rfl⟩;rw [<-HA1.o];refine hK.out _ _ (λ_=>eL.o) ?_;clear hK K
      repeat first|refine bV ?_|refine cF eL.o ahB ?_|refine cD eL.o ?_
      refine ap (λK hK=>?_);go_simp;refine uW (wN (p.params.take j) x.name _ j _ N _ (HJV.o.ext (cH.o.trans eL.o))) ?_;rw [<-HA2.o];refine hK.out _ _ (λ_=>eL.o) ?_;clear hK K;refine fc ?_;have cH:=J (cH.o.trans eL.o);have SS:=J (bX QT.o eL.o);generalize w1.drew=W2 at cH SS⊢;clear eL QT;have Om:=bC SS.o;have Oq:=SS.o.lt;refine Hj ?_;intro eg fY gD gy im lO lL ig
      cases a2
      .have eK:=J (show X=ak (must (x.size==0) 3 x.name) (ak (must (word x.low&&word x.high&&decide (x.low<=x.high)) 2 x.name) Y)by rw [gO.o];rfl)
       clear gO
       by_cases hz:x.size=0
       .have hzb:(x.size==0)=true:=by simp [hz]
        have k_:=J (show X=ak (must (word x.low&&word x.high&&decide (x.low<=x.high)) 2 x.name) Y by rw [eK.o,hzb,bL,aY]);clear hzb;go_wp21;refine uW (jo x.low _) ?_
        cases mO:word x.low
        .have HR:=J (show X=some ⟨2,x.name⟩by rw [k_.o,mO];rfl)
         exact Bb
        .go_wp21
         refine uW (jo x.high _) ?_
         cases rB:word x.high
         .have HR:=J (show X=some ⟨2,x.name⟩by rw [k_.o,mO,rB];rfl)
          exact Bb
         .have pu:=J (show X=ak (must (decide (x.low<=x.high)) 2 x.name) Y by rw [k_.o,mO,rB,rG,rG])
          clear eK k_ mO rB
          by_cases jb:x.low>x.high
          .have HR:=J (show X=some ⟨2,x.name⟩by rw [pu.o,cU ad,aT,aZ])
           exact Bb
          .have M8:=J (show X=Y by rw [pu.o,cO ad,bL,aY])
           go_wp21;exact⟨⟨j+1,aX,by go_num,by rw [FM.o,<-HYE.o,M8.o],cH.o⟩,by simp only [intOf];omega⟩
       .have hzb:(x.size==0)=false:=by simp [hz]
        have HR:=J (show X=some ⟨3,x.name⟩by rw [eK.o,hzb,aT,aZ]);exact Bb
      .have HR:=J (show X=some ⟨7,x.name⟩by rw [gO.o];rfl)
       exact Bb
     .refine amG ?_;intro eL K hK
      rintro e w2 ⟨rfl,rfl⟩;rw [<-HA1.o];refine hK.out _ _ (λ_=>eL.o) ?_;clear hK K
      repeat first|refine bV ?_|refine cF eL.o ahB ?_|refine cD eL.o ?_
      refine QG ?_;intro K hK;clear hK K;refine fc ?_;have cH:=J (cH.o.trans eL.o);have SS:=J (bX QT.o eL.o);generalize w1.drew=W2 at cH SS⊢;clear eL QT;have Om:=bC SS.o;have Oq:=SS.o.lt;refine Hj ?_;intro eg fY gD gy im lO lL ig;have HR:=J (show X=some ⟨7,x.name⟩by rw [gO.o];rfl);exact Bb
   .obtain rfl:j=n:=by omega
    have JC:=J (show X=M by rw [<-cr.o,HN.o,uj];rfl);clear cr;go_wp21;refine kU (UR (⟨cn,kv,lK,⟨vA,vn,vc⟩,cs,ct,⟨A,j,cc⟩,iV,p.silent,cq,oV⟩:Pc) p N _ (ay fx.o cH.o.size) (iq.o.ext cH.o fx.o)) λw2 bM=>?_;clear eg fY gD gy im lO lL ig;have cH:=J (cH.o.trans bM);clear bM;rw [<-Nu.o];refine Hj ?_;intro eg fY gD gy im lO lL ig
    by_cases h5:mn>512
    .have HR:=J (show X=some ⟨8,f_⟩by rw [JC.o,HM.o,cU ad,aT,aZ])
     exact Bb
    .have k_:=J (show X=ak (must b1 6 p.silent) (must (!b2) 7 p.silent)by rw [JC.o,HM.o,cO ad,bL,aY])
     clear JC HM;go_wp21;refine kU (ml p.silent HSO.o _) λw3 ea=>?_;clear eg fY gD gy im lO lL ig;have cH:=J (cH.o.trans ea);clear ea;rw [<-Jy.o];refine Hj ?_;intro eg fY gD gy im lO lL ig
     cases b1
     .have HR:=J (show X=some ⟨6,p.silent⟩by rw [k_.o,aT,aZ])
      exact Bb
     .have pu:=J (show X=must (!b2) 7 p.silent by rw [k_.o,bL,aY])
      go_wp21;refine uW (wN p.vars p.silent vA vn vc N _ (iq.o.ext cH.o fx.o).vars) ?_;rw [<-mP.o]
      cases b2
      .have HR:=J (show X=none by rw [pu.o,Bool.not_false,bL])
       go_wp21;refine kU (kH _) λw5 iY=>?_;clear eg fY gD gy im lO lL ig;have cH:=J (cH.o.trans iY);refine Hj ?_;intro eg fY gD gy im lO lL ig;clear iY;exact Bb
      .have HR:=J (show X=some ⟨7,p.silent⟩by rw [pu.o,vS,aT])
       exact Bb
theorem PQ (c) (p) (A) (n k) (l) (kind:Int) (name:Str) (eA:Option Addr) (en ec:Nat) (low high:Int) (lA:Option Addr) (ln lc:Nat) (xA:Option Addr) (xn xc:Nat) (deep:Nat) (hs:name.size<=maxLen) (N:Nat) (w:World) (hN:N<=w.heap.size) (h:lZ w N c p) (hl:dV w N A n l):
 Calls prog 274 #[.agg (cQ c A n k),.agg (au kind name eA en ec low high lA ln lc xA xn xc),.int .i64 (deep:Int)] w λe w'=>e=.returned (.agg (gf (named (bu (fK p.vars) l) kind name low high deep)))/\al w w':=by
 obtain⟨X,hX⟩:=nm' (named (bu (fK p.vars) l) kind name low high deep);rw [<-hX];obtain⟨v,hv⟩:=nm' (bu (fK p.vars) l name);have HV:=J hv;have HX:gq (X=if kind=0∨kind=1∨kind=5 then ak (must (v !=0) 6 name) (ak (must (v==(if kind=1 then 2 else 1)) 11 name) (if kind=5 then must (iX low 2 1000) 2 name else none))else if kind=3 then ak (must (dv name) 6 name) (ak (must (v==0) 7 name) (ak (must (word low&&word high&&decide (high - low<=63)) 2 name) (must (decide (deep<8)) 25 name)))else none):=J (by rw [hX,hv];rfl);clear hX hv;have SN:=J hs;clear hs;have aK:=((dz w (.cells (cQ c A n k) 243)).alloc (.cells (au kind name eA en ec low high lA ln lc xA xn xc) 223)).alloc (.cells #[.int .i64 0,.string ⟨#[]⟩] 166);have hK:=((bN w 243 (cQ c A n k)).alloc (.cells (au kind name eA en ec low high lA ln lc xA xn xc) 223)).alloc (.cells #[.int .i64 0,.string ⟨#[]⟩] 166);have hS:=(aj.d_ (w.alloc (.cells (cQ c A n k) 243)) 223 (au kind name eA en ec low high lA ln lc xA xn xc) (w.heap.size+1) aC).alloc (.cells #[.int .i64 0,.string ⟨#[]⟩] 166);have hD:=aj.d_ ((w.alloc (.cells (cQ c A n k) 243)).alloc (.cells (au kind name eA en ec low high lA ln lc xA xn xc) 223)) 166 #[.int .i64 0,.string ⟨#[]⟩] (w.heap.size+1+1) aC;go_enter func274,ntmps274;go_upto_region 1 with(fail);have⟨iq,zp,fx⟩:=J3' (h.ext aK hN) (hl.ext aK) (ay hN aK.size);generalize hW:(((w.alloc (.cells (cQ c A n k) 243)).alloc (.cells (au kind name eA en ec low high lA ln lc xA xn xc) 223)).alloc (.cells #[.int .i64 0,.string ⟨#[]⟩] 166))=W at aK hK hS hD iq zp fx⊢;clear hW h hl;obtain⟨rb,pg⟩:=nm' (w.heap.size+1+1);rw [<-pg]at hD⊢;obtain⟨sb,Gn⟩:=nm' (w.heap.size+1);rw [<-Gn]at hS⊢;have⟨B_,HD,dX,HK,HS⟩:=J5' (show w.heap.size<=rb by omega) hD aK hK hS;clear hD aK pg Gn hK hS;generalize w.heap.size=kb at HK⊢;have cH:=J (kR (λ_=>False) W);refine QB ?_;intro eg fY gD gy jZ pJ pI pH nZ
 by_cases h0:kind=0
 .subst h0
  have fN:=J (show X=ak (must (v !=0) 6 name) (must (v==1) 11 name)by rw [HX.o];simp);clear HX;go_wp21;refine ahO ?_;clear eg fY gD gy jZ pJ pI pH nZ;intro w2 cH;refine QB ?_;intro eg fY gD gy jZ pJ pI pH nZ
  by_cases jB:v=0
  .have q0:((v:Int)==0)=true:=by simp [jB]
   exact aim
  .have q0:((v:Int)==0)=false:=by simp;omega
   have n0:(v !=0)=true:=by simp [jB]
   have gO:=J (show X=must (v==1) 11 name by rw [fN.o,n0,bL,aY]);clear jB
   by_cases oE:v=1
   .have q1:((v:Int)==1)=true:=by simp [oE]
    exact ana
   .have q1:((v:Int)==1)=false:=by simp;omega
    have n1:(v==1)=false:=by simp [oE]
    exact anw
 .by_cases h1:kind=1
  .subst h1
   have fN:=J (show X=ak (must (v !=0) 6 name) (must (v==2) 11 name)by rw [HX.o];simp);clear HX;go_wp21;refine ahO ?_;clear eg fY gD gy jZ pJ pI pH nZ;intro w2 cH;refine QB ?_;intro eg fY gD gy jZ pJ pI pH nZ
   by_cases jB:v=0
   .have q0:((v:Int)==0)=true:=by simp [jB]
    exact aim
   .have q0:((v:Int)==0)=false:=by simp;omega
    have n0:(v !=0)=true:=by simp [jB]
    have gO:=J (show X=must (v==2) 11 name by rw [fN.o,n0,bL,aY]);clear jB
    by_cases oE:v=2
    .have q1:((v:Int)==2)=true:=by simp [oE]
     have q2:((v:Int) !=2)=false:=by simp [oE]
     exact ana
    .have q1:((v:Int)==2)=false:=by simp;omega
     have q2:((v:Int) !=2)=true:=by simp;omega
     have n1:(v==2)=false:=by simp [oE]
     exact anw
  .by_cases h5:kind=5
   .subst h5
    have fN:=J (show X=ak (must (v !=0) 6 name) (ak (must (v==1) 11 name) (must (iX low 2 1000) 2 name))by rw [HX.o];simp);clear HX;go_wp21;refine ahO ?_;clear eg fY gD gy jZ pJ pI pH nZ;intro w2 cH;refine QB ?_;intro eg fY gD gy jZ pJ pI pH nZ
    by_cases jB:v=0
    .have q0:((v:Int)==0)=true:=by simp [jB]
     exact aim
    .have q0:((v:Int)==0)=false:=by simp;omega
     have n0:(v !=0)=true:=by simp [jB]
     have gO:=J (show X=ak (must (v==1) 11 name) (must (iX low 2 1000) 2 name)by rw [fN.o,n0,bL,aY]);clear jB
     by_cases oE:v=1
     .have q1:((v:Int)==1)=true:=by simp [oE]
      have eK:=J (show X=must (iX low 2 1000) 2 name by rw [gO.o,oE];rfl);clear oE;go_wp21;refine uW (qB low 2 1000 _) ?_
      cases hb:iX low 2 1000
      .have HR:=J (show X=some ⟨2,name⟩by rw [eK.o,hb,aT])
       exact En
      .have HR:=J (show X=none by rw [eK.o,hb,bL])
       exact adA
     .have q1:((v:Int)==1)=false:=by simp;omega
      have n1:(v==1)=false:=by simp [oE]
      have HR:=J (show X=some ⟨11,name⟩by rw [gO.o,n1,aT,aZ]);clear oE;exact En
   .by_cases h3:kind=3
    .subst h3
     have fN:=J (show X=ak (must (dv name) 6 name) (ak (must (v==0) 7 name) (ak (must (word low&&word high&&decide (high - low<=63)) 2 name) (must (decide (deep<8)) 25 name)))by rw [HX.o];simp);clear HX;go_wp21;refine kU (ml name SN.o _) λw2 bM=>?_;clear eg fY gD gy jZ pJ pI pH nZ;have cH:=J (cH.o.trans bM);clear bM;refine QB ?_;intro eg fY gD gy jZ pJ pI pH nZ
     cases hn:dv name
     .have HR:=J (show X=some ⟨6,name⟩by rw [fN.o,hn,aT,aZ])
      exact En
     .have gO:=J (show X=ak (must (v==0) 7 name) (ak (must (word low&&word high&&decide (high - low<=63)) 2 name) (must (decide (deep<8)) 25 name))by rw [fN.o,hn,bL,aY])
      clear fN;go_wp21;refine ahO ?_;clear eg fY gD gy jZ pJ pI pH nZ;intro w2 cH;refine QB ?_;intro eg fY gD gy jZ pJ pI pH nZ
      by_cases jB:v=0
      .have q0:((v:Int)==0)=true:=by simp [jB]
       have eK:=J (show X=ak (must (word low&&word high&&decide (high - low<=63)) 2 name) (must (decide (deep<8)) 25 name)by rw [gO.o,jB];rfl);clear jB gO;go_wp21;refine uW (jo low _) ?_
       cases mO:word low
       .have HR:=J (show X=some ⟨2,name⟩by rw [eK.o,mO];rfl)
        exact En
       .go_wp21
        refine uW (jo high _) ?_
        cases rB:word high
        .have HR:=J (show X=some ⟨2,name⟩by rw [eK.o,mO,rB];rfl)
         exact En
        .have jq:-2147483648<=low/\low<=2147483647:=by simpa [word]using mO
         have k_:=J (show X=ak (must (decide (high - low<=63)) 2 name) (must (decide (deep<8)) 25 name)by rw [eK.o,mO,rB,rG,rG]);clear eK mO rB;have hwr:IntKind.i64.wrap (low+63)=low+63:=by rw [jH];omega
         by_cases jb:high>low+63
         .have HR:=J (show X=some ⟨2,name⟩by rw [k_.o,cU ad,aT,aZ])
          exact En
         .have pu:=J (show X=must (decide (deep<8)) 25 name by rw [k_.o,cO ad,bL,aY])
          by_cases hd8:(deep:Int)≥8
          .have HR:=J (show X=some ⟨25,name⟩by rw [pu.o,cU ad,aT])
           exact En
          .have HR:=J (show X=none by rw [pu.o,cO ad,bL])
           exact adA
      .have q0:((v:Int)==0)=false:=by simp;omega
       have n0:(v==0)=false:=by simp [jB]
       have HR:=J (show X=some ⟨7,name⟩by rw [gO.o,n0,aT,aZ]);clear jB;exact En
    .have HR:=J (show X=none by rw [HX.o,af ad,af h3])
     exact adA
theorem Dl (κ) (kind) (s) (low high) (aU):NZ (named κ kind s low high aU):=by
 unfold named target loop;exact NZ.ite (NZ.ak (NZ.must ae) (NZ.ak (NZ.must ae) (NZ.ite (NZ.must ae) NZ.none))) (NZ.ite (NZ.ak (NZ.must ae) (NZ.ak (NZ.must ae) (NZ.ak (NZ.must ae) (NZ.must ae)))) NZ.none)
theorem IZ (κ:Kn):∀F:EF,NZ (kG κ F)
 | .nil=>NZ.none
 | .cons op n s k r=>by
  rw [pC];exact NZ.ak (NZ.ak (NZ.must ae) (IY κ op n s k)) (IZ κ r)
theorem i_ (part:Nat):∀(F:SF) (κ:Kn) (aU:Nat) (fT:Bool),NZ (cC part κ aU fT F)
 | .nil,_,_,_=>by rw [cC];exact NZ.none
 | .cons kind name e low high l bY r,κ,aU,fT=>by
  rw [cC];exact NZ.ak (NZ.ak (NZ.must ae) (NZ.ak (NZ.must ae) (NZ.ak (Dl κ kind name low high aU) (NZ.ak (IZ κ e) (NZ.ite (NZ.ak (i_ part l κ aU false) (i_ part bY κ aU false)) (NZ.ite (i_ part l _ _ false) NZ.none)))))) (i_ part r κ aU fT)
theorem acq (part) (κ) (aU) (last) (kind) (name) (e) (low high) (l bY):NZ (oS part κ aU last kind name e low high l bY):=by
 unfold oS;exact NZ.ak (NZ.must ae) (NZ.ak (NZ.must ae) (NZ.ak (Dl κ kind name low high aU) (NZ.ak (IZ κ e) (NZ.ite (NZ.ak (i_ part l κ aU false) (i_ part bY κ aU false)) (NZ.ite (i_ part l _ _ false) NZ.none)))))
theorem Mp (κ) (l) (s):bu κ (l++[s])=oK (bu κ l) s 3:=by
 funext t
 unfold bu oK;rw [List.any_append]
 by_cases h:t=s
 .subst h;simp
 .have h2:decide (s=t)=false:=cU (λe=>h e.symm)
  simp only [List.any_cons,List.any_nil,h2,Bool.or_false];rw [af h]
theorem NZ.o {o} (h:NZ o) {fe:Int} {fn:Str} (e:o=.some ⟨fe,fn⟩):(fe==0)=false:=by simpa using h ⟨fe,fn⟩ e
theorem afL {α} {f} {P} {T E} {sz bytes} (hE:uy P T E sz bytes) (hf:∀d,(f d).size=sz) (tj:∀d,eI (f d).toList=true) (w:World) (base:Nat) (v:Value) (n:Nat) (xs:List α) (iC:w.ownsRow base E sz v n (b_ f xs))
 (A:Option Addr) (m c:Nat) (l:List α) (hm:m=l.length) (hA:A=none->c=0) (hr:0<m->∃b off,A=some ⟨b,off,none⟩/\Row w b off (b_ f l)) (hn:(n+m)*bytes<=140737488355328) (iH:base<=w.heap.size) (h8:8<=bytes:=by omega):
 ∃v' w',(Builtin.append_ #[T,T] T #[v,.slice A m c]).run P w=.ok v' w'/\w'.ownsRow base E sz v' (n+m) (b_ f (xs++l))/\Kept (λi=>v.ownBlock=some i) w w'/\(∀i,v'.ownBlock=some i->v.ownBlock=some i∨w.heap.size<=i):=by
 by_cases h0:0<m
 .obtain⟨b,off,rfl,aG⟩:=hr h0
  exact NL hE hf tj w base v n xs iC b off m c l hm aG hn iH h8
 .obtain rfl:m=0:=by omega
  have hl:l=[]:=List.eq_nil_of_length_eq_zero hm.symm;subst hl;obtain⟨ht,i,z,hi,hz,h1,h2,h3,h4⟩:=hE;have aK:xs++([]:List α)=xs:=List.append_nil xs;rw [aK]
  cases A with
  |none=>
   obtain rfl:=hA rfl;exact⟨v,w,run_append_owned_none (P:=P) (w:=w) base T T E i sz ht hi v n (b_ f xs) iC,iC,kR _ w,λi h=>.inl h⟩
  |some a=>
   rcases iC.2 with⟨rfl,rfl⟩|⟨g,cap,du,rfl,Nb,hgc,zM,vG,gu,pL⟩
   .have Nf:(0:Nat)+0<=maxLen:=by unfold maxLen;omega
    have hx:b_ f xs=[]:=List.eq_nil_of_length_eq_zero (by simpa using iC.1);obtain⟨v',w',dr,ho,hg,apr⟩:=run_append_own (P:=P) w base T T E i z sz bytes ht hi hz h1 h2 h3 h4 (.slice none 0 0) 0 (b_ f xs) iC a 0 c [] aC (λj u h=>by simp at h) (λu h=>by simp at h) Nf hn iH;have hv:v'=.slice none 0 0:=apr.2 ⟨rfl,rfl⟩;subst hv;refine⟨_,w',dr,?_,Kept.sl hg,λi h=>.inl h⟩
    simpa using ho
   .have ki:=run_append_room (P:=P) w T T E i ht hi g n cap du hgc a 0 c [] aC (λj u h=>by simp at h) (λu h=>by simp at h) ad (by rw [h1,gu];simp;exact Nat.mul_le_mul_right _ zM)
    obtain⟨v',w',dr,ho,hg,-⟩:=run_append_own (P:=P) w base T T E i z sz bytes ht hi hz h1 h2 h3 h4 (.slice (some ⟨g,0,none⟩) n cap) n (b_ f xs) iC a 0 c [] aC (λj u h=>by simp at h) (λu h=>by simp at h) ad hn iH;rw [dr]at ki;injection ki with e1 e2;subst e1;refine⟨_,w',dr,?_,Kept.sl hg,λi h=>.inl h⟩
    simpa using ho
theorem aly {F M:World->Value->Value->Value->Nat->Nat->Prop} {G:Prop} (h:(∀W a b c d e,F W a b c d e->M W a b c d e)->G) (h2:∀W a b c d e,F W a b c d e->M W a b c d e):G:=h h2
abbrev Xm (c:Pc) (p:Pr) (i N:Nat) (w0:World) (F:SF):Prop:=∀(deep:Nat) (fT:Bool) (A:Option Addr) (n k:Nat) (pl:List Str) (B:Option Addr) (bn bc:Nat) (w':World),al w0 w'->dV w' w'.heap.size A n pl->(A=none->k=0)->pl.length<=40+deep->deep<=8->jc w0 N B bn F->
 Calls prog 149 #[.agg (cQ c A n k),.slice B bn bc,.int .i64 (i:Int),.int .i64 (deep:Int),.bool fT] w' λe w2=>e=.returned (.agg (gf (cC i (bu (fK p.vars) pl) deep fT F)))/\al w' w2
theorem GU (c:Pc) (p:Pr) (i:Nat) (hi:i<5) (N:Nat) (w0:World) (hN:N<=w0.heap.size) (h:lZ w0 N c p) (deep:Nat) (hd8:deep<=8) (kind:Int) (name:Str) (e:EF) (low high:Int) (l x:SF) (eA:Option Addr) (ec:Nat) (lA:Option Addr) (lc:Nat) (xA:Option Addr) (xc:Nat) (last:Bool) (hs:name.size<=maxLen)
 (he:lJ w0 N eA e.len e) (hl:jc w0 N lA l.len l) (hx:jc w0 N xA x.len x) (HBL:Xm c p i N w0 l) (HBX:Xm c p i N w0 x) (A:Option Addr) (n kc:Nat) (pl:List Str) (w:World) (hw:al w0 w) (qf:dV w w.heap.size A n pl) (hAk:A=none->kc=0) (JN:pl.length<=40+deep):
 Calls prog 216 #[.agg (cQ c A n kc),.agg (au kind name eA e.len ec low high lA l.len lc xA x.len xc),.int .i64 (i:Int),.int .i64 (deep:Int),.bool last] w λe2 w'=>e2=.returned (.agg (gf (oS i (bu (fK p.vars) pl) deep last kind name e low high l x)))/\al w w':=by
 obtain⟨κ,Wy⟩:=nm' (bu (fK p.vars) pl);obtain⟨nm,hnm⟩:=nm' (named κ kind name low high deep);obtain⟨D,Gh⟩:=nm' (kG κ e);obtain⟨st,dF⟩:=nm' (stands kind i last);obtain⟨R,fU⟩:=nm' ((if kind=2 then ak (cC i κ deep false l) (cC i κ deep false x)else if kind=3 then cC i (oK κ name 3) (deep+1) false l else none));obtain⟨X,hX⟩:=nm' (ak (must (iX kind 0 9&&e.len==stmtParts kind) 3 E0) (ak (must st 10 (bZ i)) (ak nm (ak D R))));have hXE:X=oS i (bu (fK p.vars) pl) deep last kind name e low high l x:=by rw [hX,dF,hnm,Gh,fU,Wy];rfl
 rw [<-hXE];have⟨HX,Nt,SN,HDE,tQ,HRE⟩:=J6' hX Wy hnm Gh dF fU;clear hXE hX Wy hnm Gh dF fU;have⟨HS0,aiw,anY,FL,HAK⟩:=J5' hs HBL HBX (df JN hd8) hAk;clear hAk;have⟨HWW,HL0,aoE⟩:=J3' hw hl hx;clear hs HBL HBX JN hd8 hl hx;have aK:=((dz w (.cells (cQ c A n kc) 243)).alloc (.cells (au kind name eA e.len ec low high lA l.len lc xA x.len xc) 223)).alloc (.cells #[.int .i64 0,.string ⟨#[]⟩] 166);have hK:=((bN w 243 (cQ c A n kc)).alloc (.cells (au kind name eA e.len ec low high lA l.len lc xA x.len xc) 223)).alloc (.cells #[.int .i64 0,.string ⟨#[]⟩] 166);have hS:=(aj.d_ (w.alloc (.cells (cQ c A n kc) 243)) 223 (au kind name eA e.len ec low high lA l.len lc xA x.len xc) (w.heap.size+1) aC).alloc (.cells #[.int .i64 0,.string ⟨#[]⟩] 166);have hD:=aj.d_ ((w.alloc (.cells (cQ c A n kc) 243)).alloc (.cells (au kind name eA e.len ec low high lA l.len lc xA x.len xc) 223)) 166 #[.int .i64 0,.string ⟨#[]⟩] (w.heap.size+1+1) aC;go_enter func216,ntmps216;go_upto_region 1 with(fail);have Hx:=J (show N<=w.heap.size from ay hN hw.size);have⟨iq,zp,fx,HES,HWZ⟩:=J5' (((h.ext hw hN).ext aK Hx.o).mono (show N<=w.heap.size from Hx.o)) (qf.ext aK) (show w.heap.size<=_ from aK.size) ((he.ext hw hN).ext aK Hx.o) (hw.trans aK);generalize hW:(((w.alloc (.cells (cQ c A n kc) 243)).alloc (.cells (au kind name eA e.len ec low high lA l.len lc xA x.len xc) 223)).alloc (.cells #[.int .i64 0,.string ⟨#[]⟩] 166))=W at aK hK hS hD iq zp fx HES HWZ⊢;clear hW h qf he hw;obtain⟨rb,pg⟩:=nm' (w.heap.size+1+1);rw [<-pg]at hD⊢;obtain⟨sb,Gn⟩:=nm' (w.heap.size+1);rw [<-Gn]at hS⊢;obtain⟨kb,Bs⟩:=nm' w.heap.size;rw [<-Bs]at hK⊢;have⟨B_,HD,dX,HK,HS⟩:=J5' (show w.heap.size<=rb/\w.heap.size<=kb/\¬sb=kb/\¬rb=kb from⟨by omega,by omega,by omega,by omega⟩) hD aK hK hS;clear hD aK pg Gn hK hS Bs;refine El ?_;intro bT
 cases jq:iX kind 0 9
 .have HR:=J (show X=some ⟨3,E0⟩by rw [HX.o,jq,Bool.false_and,aT,aZ])
  refine adu ?_;refine aaI ?_;refine ap (λK hK=>?_);go_simp;refine uW (qB _ _ _ _) ?_;rw [jq];refine hK.out _ _ (λ_=>bT.o) ?_;clear hK K;refine aaI ?_;refine QG ?_;intro K hK;clear hK K;refine aaI ?_;refine fc ?_;have cH:=bT;exact anc
 .obtain⟨k,rfl⟩:∃k:Nat,kind=k:=⟨kind.toNat,by
   have:0<=kind/\kind<=9:=by simpa [iX]using jq
   omega⟩
  have rZ:k<10:=by
   have:(0:Int)<=k/\(k:Int)<=9:=by simpa [iX]using jq
   omega
  have aqR:=J rZ;refine adu ?_;refine aaI ?_;refine ap (λK hK=>?_);go_simp;refine uW (qB _ _ _ _) ?_;rw [jq];refine hK.out _ _ (λ_=>bT.o) ?_;clear hK K;refine aaI ?_;refine ap (λK hK=>?_);go_simp;refine(PW k rZ _).mono ?_;refine VI ?_;intro w1 dR;clear hK K;have cH:=dR;obtain⟨en,hen⟩:=nm' e.len;have HEN:=J hen
  cases jF:((e.len:Int)==(stmtParts (k:Int):Int))
  .have Oj:((e.len:Int) !=(stmtParts (k:Int):Int))=true:=by unfold bne;rw [jF];rfl
   have HR:=J (show X=some ⟨3,E0⟩by rw [HX.o,jq,<-oF,jF,Bool.and_false,aT,aZ])
   repeat first|refine bV ?_|refine cF dR.o ahG ?_|refine cD dR.o ?_
   refine fc ?_;exact anc
  .have Oj:((e.len:Int) !=(stmtParts (k:Int):Int))=false:=by unfold bne;rw [jF];rfl
   have fN:=J (show X=ak (must st 10 (bZ i)) (ak nm (ak D R))by rw [HX.o,jq,<-oF,jF,Bool.and_true,bL,aY])
   repeat first|refine bV ?_|refine cF dR.o ahG ?_|refine cD dR.o ?_
   refine fc ?_;clear HX jq jF Oj rZ hen;refine zy6 ?_;intro eg fY gD gy jZ JM Ey pJ pI pH nZ;go_wp21;refine uW (PF (k:Int) i hi last _) ?_;rw [<-tQ.o]
   cases st
   ·
    have HR:=J (show X=some ⟨10,bZ i⟩by rw [fN.o,aT,aZ]);go_wp21;refine(Uw _).mono ?_;rintro e2 w3 ⟨rfl,ea,Yk⟩;clear eg fY gD gy jZ JM Ey pJ pI pH nZ;have Wk:=Yk.lt;obtain⟨nb,oC⟩:=nm' w1.heap.size;rw [<-oC]at Yk Wk⊢;clear oC
    have tg:w3.cell? ⟨nb,i,none⟩=some (.string (bZ i)):=by
     rw [bC Yk i];exact Sw
    have hi5:(i:Int)<5:=by omega
    have cH:=J (cH.o.trans ea);refine zy6 ?_;intro eg fY gD gy jZ JM Ey pJ pI pH nZ;clear ea Yk;exact aaX
   .have gO:=J (show X=ak nm (ak D R)by rw [fN.o,bL,aY])
    clear fN tQ;go_wp21;refine kU (PQ c p A n kc pl (k:Int) name eA e.len ec low high lA l.len lc xA x.len xc deep HS0.o w.heap.size _ (ay fx.o cH.o.size) (iq.o.ext cH.o fx.o) (zp.o.ext cH.o)) λw2 bM=>?_;clear eg fY gD gy jZ JM Ey pJ pI pH nZ;have cH:=J (cH.o.trans bM);clear bM;rw [<-Nt.o,<-SN.o]
    cases nm with
    |some f=>
     obtain⟨fe,fn⟩:=f;have HNF:=J (NZ.o (Dl _ _ _ _ _ _) SN.o.symm);have HR:=J (show X=some ⟨fe,fn⟩by rw [gO.o,aZ]);refine adw ?_;intro y3 hV;go_upto_region 6 with(fail);exact amP
    |none=>
     have eK:=J (show X=ak D R by rw [gO.o,aY]);clear gO;refine adv ?_;intro y3 hV;go_upto_region 6 with(fail);generalize (w2.alloc (.cells #[.int .i64 0,.string ⟨#[]⟩] 166))=W3 at y3 hV⊢;refine zy9 ?_;clear hV y3 cH;intro fb eP Be eL K hK;rintro e2 w4 ⟨rfl,eV⟩;refine ady ?_;clear hK K eV;intro ny cH;obtain⟨hn,hf,b,off,hA,hE⟩:=HES.o;have hm:=hf.max ad;have HA:=J hA;have HE:=J hE;clear hA hE hn hf;have HXS:=cH;go_wp21
     go_loopw [12] (λt12 wr=>∃(j:Nat) (Q:EF),j+Q.len=e.len/\ak (kG κ Q) R=X/\t12=.int .i64 j/\lU W N Q b (off+j*4)/\al W wr) (λt12 _=>e.len - (intOf t12).toNat)
     case atStart=>exact⟨0,e,by rw [dU],by rw [<-HDE.o];exact eK.o.symm,rfl,by simpa using HE.o,HXS.o⟩
     case round=>
      obtain⟨j,Q,hj,bO,rfl,hQ,hx⟩:=hrel;have⟨cH,cr,HQ⟩:=J3' hx bO hQ;clear hx bO hQ HXS;refine zy6 ?_;intro eg fY gD gy jZ JM Ey pJ pI pH nZ
      cases Q with
      |nil=>
       have ft:j=e.len:=by simpa [EF.len]using hj
       have hjI:(j:Int)=e.len:=by omega
       have k_:=J (show X=R by rw [<-cr.o];rfl);clear cr hj ft
       by_cases iz:k=3
       .have q3:((k:Int)==3)=true:=by simp [iz]
        have pu:=J (show X=cC i (oK κ name 3) (deep+1) false l by rw [k_.o,HRE.o,af ad,av ad]);have HDL:=J (RU (show loop κ name low high deep=none by have h:=SN.o;unfold named at h;rw [af ad,av ad]at h;exact h.symm)).2.2;clear k_ HRE iz;go_upto_region 17 with(fail);clear eg fY gD gy jZ JM Ey pJ pI pH nZ;obtain⟨IA,pK,sb2,so2,OA,hs4⟩:=zp.o;have WX:=J (show n=pl.length/\n<=60/\∀w',al wr w'->0<n->∃b off,A=some ⟨b,off,none⟩/\Row w' b off (b_ zg pl)from⟨IA,by have:=FL.o;omega,λw' hk h0=>⟨sb2,so2,OA h0,by rw [tH];exact((hs4 h0).2.ext cH.o).ext hk⟩⟩);have HLP:=J HDL.o;clear IA pK OA hs4;apply aly (F:=λW2 v77 v80 v83 g2 c2=>Kept (·=kb) wr W2/\aj W2 kb 243 (cQ c (some ⟨g2,0,none⟩) (n+1) c2)/\dV W2 W2.heap.size (some ⟨g2,0,none⟩) (n+1) (pl++[name]))
        case h=>
         intro jX;have EW:=J jX;clear jX;refine WB (λw1=>al wr w1) (.op 1 2 (.op 2 1 (.op 4 2 (.op 5 1 (.fork 0 (.fork 3 (.op 6 0 (.op 7 0 (.op 8 2 (.op 9 0 .nil)))) 6 (.op 3 0 (.op 7 0 (.op 8 2 (.op 9 0 .nil))))) 6 (.op 0 0 (.op 3 0 (.op 7 0 (.op 8 2 (.op 9 0 .nil)))))))))) ?_;refine WC ?_;have sR:=J (pj wr)
         (repeat (first|refine oh ?_|((apply c_);(· exact sR.o);(· go_simp);(· (intro w1 hS;have d0:=bX HK.o (cH.o.trans hS);have d1:=bC d0;have d3:=d0.lt;have d4:=bX HS.o (cH.o.trans hS);have d5:=bC d4;have d6:=d4.lt;go_simp;try with_reducible rfl));refine iR ?_)|((apply cZ);(· exact sR.o);(· go_simp);refine iR ?_)))
         refine gL ?_ ?_
         .refine cw (λK hK=>?_);go_simp
          have y1:al wr (wr.alloc (.cells #[] 9)).drew:=(dS wr _).drew;have q0:aj (wr.alloc (.cells #[] 9)).drew wr.heap.size 9 #[]:=(bN wr _ _).drew;have n0:wr.heap.size<=wr.heap.size:=eH _;refine hK.out _ _ (λ_=>y1) ?_;clear hK K;generalize (wr.alloc (.cells #[] 9)).drew=V1 at y1 q0⊢;obtain⟨u0,hu0⟩:=nm' wr.heap.size;rw [<-hu0]at q0⊢;have n0:wr.heap.size<=u0:=by omega
          clear hu0;have own:V1.ownsRow wr.heap.size 9 1 (.slice (some ⟨u0,0,none⟩) 0 0) 0 (b_ zg []):=⟨by simp [b_],.inr ⟨u0,0,#[],rfl,n0,q0,eH _,by unfold maxLen;omega,by simp,by simp [b_]⟩⟩
          repeat refine oh ?_
          refine gL ?_ ?_
          .obtain⟨v80,V2,dr,T5,abQ,-⟩:=afL (f:=zg) wL (λ_=>rfl) (λ_=>rfl) V1 wr.heap.size (.slice (some ⟨u0,0,none⟩) 0 0) 0 [] own A n kc pl WX.o.1 HAK.o (WX.o.2.2 V1 y1) (by have:=WX.o.2.1;omega) y1.size
           have y2:al wr V2:=y1.trans' abQ (λi hi e=>by have e2:u0=i:=Option.some.inj e;omega);refine cw (λK hK=>?_);refine VJ ?_;refine hK.out _ _ (λ_=>y2) ?_;clear hK K dr;refine o8 ?_;intro K hK;have y3:al wr (V2.alloc (.cells #[.string name] 9)):=y2.alloc _;have q6:aj (V2.alloc (.cells #[.string name] 9)) V2.heap.size 9 #[.string name]:=bN V2 _ _;have T5:=aQ T5 (dz V2 (.cells #[.string name] 9));refine hK.out _ _ (λ_=>y3) ?_;clear hK K;generalize (V2.alloc (.cells #[.string name] 9))=V3 at y3 q6 T5⊢;generalize V2.heap.size=u6 at q6⊢;exact aeL
          .refine cw (λK hK=>?_);go_simp
           have y2:al wr (V1.alloc (.cells #[.string name] 9)):=y1.alloc _;have q6:aj (V1.alloc (.cells #[.string name] 9)) V1.heap.size 9 #[.string name]:=bN V1 _ _;have q0:=q0.alloc (.cells #[.string name] 9);have own:=aQ own (dz V1 (.cells #[.string name] 9));refine hK.out _ _ (λ_=>y2) ?_;clear hK K;generalize (V1.alloc (.cells #[.string name] 9))=V2 at y2 q6 own q0⊢;generalize V1.heap.size=u6 at q6⊢;exact amN
         .refine cw (λK hK=>?_);go_simp
          have y1:al wr (wr.alloc (.cells #[.string name] 9)).drew:=(dS wr _).drew;have q6:aj (wr.alloc (.cells #[.string name] 9)).drew wr.heap.size 9 #[.string name]:=(bN wr _ _).drew;refine hK.out _ _ (λ_=>y1) ?_;clear hK K;generalize (wr.alloc (.cells #[.string name] 9)).drew=V1 at y1 q6⊢;obtain⟨u6,hu6⟩:=nm' wr.heap.size;rw [<-hu6]at q6⊢;clear hu6;refine o8 ?_;intro K hK;have y2:al wr (V1.alloc (.cells #[] 9)):=y1.alloc _;have q0:aj (V1.alloc (.cells #[] 9)) V1.heap.size 9 #[]:=bN V1 _ _;have n0:wr.heap.size<=V1.heap.size:=y1.size;have q6:=q6.alloc (.cells #[] 9);refine hK.out _ _ (λ_=>y2) ?_;clear hK K;generalize (V1.alloc (.cells #[] 9))=V2 at y2 q0 q6⊢;generalize V1.heap.size=u0 at q0 n0⊢;have own:V2.ownsRow wr.heap.size 9 1 (.slice (some ⟨u0,0,none⟩) 0 0) 0 (b_ zg []):=⟨by simp [b_],.inr ⟨u0,0,#[],rfl,n0,q0,eH _,by unfold maxLen;omega,by simp,by simp [b_]⟩⟩;exact amN
        case h2=>
         rintro W2 v77 v80 v83 g2 c2 ⟨yx,KQ,hr9⟩;have⟨AB,HD9,HS9,HR9⟩:=J4' (show al w W2 from(dX.o.trans cH.o).trans' yx (λi hi e=>by have:=B_.o.2.1;omega)) (bK (bX HD.o cH.o) yx B_.o.2.2.2) (bK (bX HS.o cH.o) yx B_.o.2.2.1) hr9;have jZ:=bC HS9.o;have pJ:=HS9.o.lt;have pI:=bH KQ;have pH:=bG KQ;have nZ:=KQ.lt;have hd7:=HLP.o;have hwr:IntKind.i64.wrap ((deep:Int)+1)=((deep+1:Nat):Int):=by rw [jH];omega
         clear yx KQ hr9;go_wp21;refine(aiw.o (deep+1) false (some ⟨g2,0,none⟩) (n+1) c2 (pl++[name]) lA l.len lc W2 (HWW.o.trans AB.o) HR9.o (λh=>nomatch h) (by rw [cy];have:=FL.o.1;simp;omega) ad HL0.o).mono ?_;rintro e2 w5 ⟨rfl,iY⟩;rw [Mp,<-Nt.o,<-pu.o];have eg:=bX HD9.o iY;have fY:=eg.aJ;have gD:=bH eg;have gy:=eg.lt;have AA:=J (AB.o.trans iY);clear jZ pJ pI pH nZ iY
         cases X with
         |none=>
          go_wp21;exact bQ results216 rfl rfl eQ (by exact gQ) (aj.cI eg 0 _) ⟨rfl,AA.o.putAt _ _ _ (λaX=>absurd aX (by have:=B_.o.1;omega))⟩
         |some f=>
          obtain⟨fe,fn⟩:=f;go_wp21;exact bQ results216 rfl rfl eQ (by exact gQ) (aj.cI eg 0 _) ⟨rfl,AA.o.putAt _ _ _ (λaX=>absurd aX (by have:=B_.o.1;omega))⟩
       .have q3:((k:Int)==3)=false:=by simp;omega
        by_cases eC:k=2
        .have q2:((k:Int)==2)=true:=by simp [eC]
         have pu:=J (show X=ak (cC i κ deep false l) (cC i κ deep false x)by rw [k_.o,HRE.o,av ad]);clear k_ HRE eC iz;obtain⟨Z1,Yf⟩:=nm' (cC i κ deep false l);obtain⟨Z2,hZ2⟩:=nm' (cC i κ deep false x);rw [<-Yf,<-hZ2]at pu;have ny:=J Yf;have HZ2:=J hZ2;clear Yf hZ2;go_wp21;refine kU (aiw.o deep false A n kc pl lA l.len lc _ (HWZ.o.trans cH.o) ((zp.o.ext cH.o).mono (ay fx.o cH.o.size)) HAK.o FL.o.1 FL.o.2 HL0.o) λw2 bM=>?_;clear eg fY gD gy jZ JM Ey pJ pI pH nZ;have cH:=J (cH.o.trans bM);clear bM;rw [<-Nt.o,<-ny.o]
         cases Z1 with
         |some f=>
          obtain⟨fe,fn⟩:=f;have HNF:=J (NZ.o (i_ _ _ _ _ _) ny.o.symm);have HR:=J (show X=some ⟨fe,fn⟩by rw [pu.o,aZ]);refine adw ?_;intro y3 hV;go_upto_region 21 with(fail);exact amP
         |none=>
          have M8:=J (show X=Z2 by rw [pu.o,aY]);clear pu ny;refine adv ?_;intro y3 hV;go_upto_region 21 with(fail);generalize (w2.alloc (.cells #[.int .i64 0,.string ⟨#[]⟩] 166))=W3 at y3 hV⊢;refine zy9 ?_;clear hV y3 cH;intro fb eP Be eL K hK;rintro e2 w4 ⟨rfl,eV⟩;refine ady ?_;clear hK K eV;intro ny cH;refine zy6 ?_;intro eg fY gD gy jZ JM Ey pJ pI pH nZ;go_wp21;refine kU (anY.o deep false A n kc pl xA x.len xc _ (HWZ.o.trans cH.o) ((zp.o.ext cH.o).mono (ay fx.o cH.o.size)) HAK.o FL.o.1 FL.o.2 aoE.o) λw5 iY=>?_;clear eg fY gD gy jZ JM Ey pJ pI pH nZ;have cH:=J (cH.o.trans iY);clear iY;rw [<-Nt.o,<-HZ2.o,<-M8.o];refine zy6 ?_;intro eg fY gD gy jZ JM Ey pJ pI pH nZ
          cases X with
          |none=>
           have HR:=J (show(none:Option oq)=none from rfl);exact anR
          |some f=>
           obtain⟨fe,fn⟩:=f;exact anR
        .have q2:((k:Int)==2)=false:=by simp;omega
         have HR:=J (show X=none by rw [k_.o,HRE.o,af ad,af ad]);clear k_ HRE eC iz;go_wp21;refine kU (kH _) λw9 r_=>?_;clear eg fY gD gy jZ JM Ey pJ pI pH nZ;have cH:=J (cH.o.trans r_);refine zy6 ?_;intro eg fY gD gy jZ JM Ey pJ pI pH nZ;clear r_;exact aaX
      |cons sq m' name' q rr=>
       obtain⟨hb,h1,h2,h3,⟨A',cap,b',bR,hh,hg,hl,tX,hk⟩,hr⟩:=HQ.o;simp only [EF.len]at hj;have aX:(j:Int)<e.len:=by omega
       obtain rfl:=HA.o ad;have rV:=cH.o.size;have ajA:N<=W.heap.size:=ay Hx.o fx.o;have jM:=kK cH.o ad hh;have hg':=jg cH.o ad hg;have ie:b<wr.heap.size:=by omega
       have⟨KE,sP,Nw,HH0,VP⟩:=J5' (show lJ W N A' q.len q from⟨rfl,hl,b',bR,tX,hk⟩) hr ajA jM hg';clear hh hg hl tX hk h1 h2 h3 HQ rV hr hb ajA;go_wp21;refine kU (UM W q _ _ _ N _ _ _ _ cH.o Nw.o KE.o) λw5 iY=>?_;clear eg fY gD gy jZ JM Ey pJ pI pH nZ jM hg';obtain⟨d,hd⟩:=nm' (jw (1+q.deep));rw [<-hd];have bO:=cr.o;rw [pC,<-hd]at bO;obtain⟨f,hf⟩:=nm' (Cs κ sq m' name' q);rw [<-hf]at bO;have HF:=J hf;have HXA:=J (show X=ak (must (decide (d<=12)) 25 E0) (ak f (ak (kG κ rr) R))by rw [<-bO,dx,dx]);clear hd hf bO cr;have HH:=J (kK iY ie HH0.o);have HG:=J (jg iY ie VP.o);have ie:=gw ie iY.size;have cH:=J (cH.o.trans iY);clear iY HH0 VP;refine zy6 ?_;intro eg fY gD gy jZ JM Ey pJ pI pH nZ
       by_cases abO:d>12
       .have HR:=J (show X=some ⟨25,E0⟩by rw [HXA.o,cU ad,aT,aZ])
        exact aaX
       .have H3:=J (show X=ak f (ak (kG κ rr) R)by rw [HXA.o,cO ad,bL,aY])
        clear HXA eg fY gD gy jZ JM Ey pJ pI pH nZ;go_upto_region 13 with(fail);clear abO;have HIK:=J (UO c p A n kc pl w.heap.size W fx.o iq.o zp.o q);apply Pg (F:=λW2 fb=>al w5 W2/\aj W2 fb 166 (gf f))
        case h=>
         intro jX;have EW:=J jX;clear jX;refine WB (λw1=>al w5 w1) (.op 0 1 (.op 1 2 (.op 2 1 (.op 3 2 (.op 4 2 (.op 5 1 (.fork 6 (.op 7 0 (.op 8 0 .nil)) 7 (.op 6 0 (.op 8 0 .nil))))))))) ?_;refine WC ?_;have sR:=J (pj w5)
         (repeat (first|refine oh ?_|((apply c_);(· exact sR.o);(· go_simp);(· (intro w1 hS;have d0:=bX HK.o (cH.o.trans hS);have d1:=bG d0;have d2:=bH d0;have d3:=d0.lt;have d4:=bX HS.o (cH.o.trans hS);have d5:=bC d4;have d6:=d4.lt;have d7:=kK hS ie HH.o;have d8:=jg hS ie HG.o;have d9:=gw ie hS.size;go_simp;try with_reducible rfl));refine iR ?_)|((apply cZ);(· exact sR.o);(· go_simp);refine iR ?_)))
         refine gL ?_ ?_
         .refine cw (λK hK=>?_);go_simp
          refine kU (HIK.o sq m' name' A' q.len cap N _ (cH.o.trans sR.o) Nw.o KE.o) λw1 aB=>?_;rw [<-Nt.o,<-HF.o];have y1:=sR.o.trans aB;refine hK.out _ _ (λ_=>y1) ?_;clear hK K;refine o8 ?_;intro K hK;refine ahU ?_;clear hK K;intro W2 y2 qt;have tj:w5.heap.size<=w1.heap.size:=y1.size;exact aeN
         .refine cw (λK hK=>?_);go_simp
          have y1:al w5 (w5.alloc (.cells #[.int .i64 0,.string ⟨#[]⟩] 166)).drew:=(dS w5 _).drew;refine hK.out _ _ (λ_=>y1) ?_;clear hK K;generalize ku:(w5.alloc (.cells #[.int .i64 0,.string ⟨#[]⟩] 166)).drew=W1 at y1⊢;have qu:aj W1 w5.heap.size 166 #[.int .i64 0,.string ⟨#[]⟩]:=by rw [<-ku];exact aj.drew (bN w5 _ _)
          clear ku;have tj:w5.heap.size<=w5.heap.size:=eH _;generalize Yp:(w5.heap.size:Nat)=fb at qu tj⊢;have HFL:=J (show w5.heap.size<=fb by omega);clear tj Yp;have dR:=J y1
          repeat refine oh ?_
          (repeat (first|refine oh ?_|((apply c_);(· exact dR.o);(· go_simp);(· (intro w1 hS;have d0:=bX HK.o (cH.o.trans hS);have d1:=bG d0;have d2:=bH d0;have d3:=d0.lt;have d4:=bX HS.o (cH.o.trans hS);have d5:=bC d4;have d6:=d4.lt;have d7:=kK hS ie HH.o;have d8:=jg hS ie HG.o;have d9:=gw ie hS.size;go_simp;try with_reducible rfl));refine iR ?_)|((apply cZ);(· exact dR.o);(· go_simp);refine iR ?_)))
          refine cw (λK hK=>?_);go_simp;refine kU (HIK.o sq m' name' A' q.len cap N _ (cH.o.trans dR.o) Nw.o KE.o) λw1 aB=>?_;rw [<-Nt.o,<-HF.o];exact aeM
        case h2=>
         rintro W2 fb ⟨y2,qt⟩;have Be:=J qt;have fg:=J (cH.o.trans y2);clear qt y2 cH
         cases f with
         |none=>
          go_upto_region 14 with(fail);refine MF ?_;intro eL;refine ahS ?_;refine MM ?_;intro K hK;rintro e4 w1 ⟨rfl,aB⟩;refine MI ?_;clear hK K aB;intro ny;go_wp21;go_roundw
          case rel=>exact⟨j+1,rr,by omega,by rw [H3.o,aY],by go_num,by rw [Nat.add_mul,<-gH];exact sP.o,fg.o.trans ny.o⟩
          case measure=>simp only [intOf];omega
         |some f=>
          obtain⟨fe,fn⟩:=f;have hnz:=NZ.o (IY κ sq m' name' q) HF.o.symm;have HR:=J (show X=some ⟨fe,fn⟩by rw [H3.o,aZ]);go_upto_region 14 with(fail);refine MF ?_;intro eL;refine ahS ?_;refine MM ?_;intro K hK;rintro e4 w1 ⟨rfl,aB⟩;refine MI ?_;clear hK K aB;intro ny;have cH:=J (fg.o.trans ny.o);exact afc
theorem amh (d):eI (aO d).toList=true:=rfl
theorem Qo (A) (cap N) (l) (n) (w) (hv:rA w N A n l) (kM:n<=1000):
 Calls prog 140 #[.slice A n cap] w λe w'=>∃A' c',e=.returned (.slice A' n c')/\rA w' w'.heap.size A' n l/\al w w':=by
 obtain⟨hn,hf,hok,b,off,hA,hE⟩:=hv
 cases A with
 |none=>
  have h0:n=0:=by
   rcases Nat.eq_zero_or_pos n with h|h
   .exact h
   .cases hA h
  subst h0;have heq:=λw=>Lib.run_eql_slice_nil (P:=prog) w 160 232 none 0 cap 0 0 underlying160;simp only [Option.isNone_none]at heq;have HN:=J hn;have HF:=J hf;clear hn hf hA hE;go_enter func140,ntmps140;go_wp21;go_ret;exact⟨none,0,rfl,⟨HN.o,HF.o,hok,0,0,λh=>by omega,λh=>by omega⟩,kR _ _⟩
 |some a=>
  obtain⟨v2,w2,ki,n9,eC,RA⟩:=afL (f:=aO) Kv (λ_=>rfl) amh (w.alloc (.cells #[] 232)) w.heap.size (.slice (some ⟨w.heap.size,0,none⟩) 0 0) 0 [] (BD w 232 4) (some a) n cap l hn (λh=>by cases h) (λh=>⟨b,off,hA h,((hE h).2).ext (dS w _)⟩) ad aC;have heq:=λw=>Lib.run_eql_slice_nil (P:=prog) w 160 232 (some a) n cap 0 0 underlying160;simp only [Option.isNone_some]at heq;have HN:=J hn;have HF:=J hf;clear hn hf hA hE;go_enter func140,ntmps140;go_upto_region 3 with(fail);go_step
  iterate 2 refine kT ?_
  refine cJ rfl (.tmp 5) (.tmp 6) 160 rfl rfl rfl rfl ki ?_;clear ki;go_wp21;go_ret;rw [dU,nB]at n9;have hx:al w w2:=(dS w _).trans' eC (λi hi e=>by simp [Value.ownBlock]at e;omega)
  by_cases hz:0<n
  .obtain⟨g,c,rfl,aG,-,-⟩:=fq n9 hz ae
   exact⟨_,c,rfl,⟨HN.o,HF.o,hok,g,0,λ_=>rfl,λ_=>⟨aG.lt,aG⟩⟩,hx⟩
  .rcases n9.2 with⟨hv,h0⟩|⟨g,c,du,hv,_⟩
   .subst hv
    have h0:n=0:=by omega
    subst h0;exact⟨none,0,rfl,⟨HN.o,HF.o,hok,0,0,λh=>by omega,λh=>by omega⟩,hx⟩
   .subst hv
    exact⟨_,c,rfl,⟨HN.o,HF.o,hok,0,0,λh=>absurd h hz,λh=>absurd h hz⟩,hx⟩

