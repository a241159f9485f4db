/- Several texts joined: Lj. -/
import Derived.Test.YtbfbabbcdochjaaGreatDoorRmpk
import Derived.Test.YtbfbabbcdochjaaGreatDoorRmbo
set_option maxHeartbeats 4000000
set_option maxRecDepth 100000
open Go.Proofs.Tryz
namespace Go.Proofs.YtbfbabbcdochjaaGreatDoor
open Go.RowKit So Mc
theorem ahC {F M:World->Nat->Nat->Nat->Option Addr->Nat->Prop} {G:Prop} (h:(∀W a b c d e,F W a b c d e->M W a b c d e)->G) (h2:∀W a b c d e,F W a b c d e->M W a b c d e):G:=h h2
theorem iN:jQ prog 42=true:=by kernel_rfl
theorem uJ:sizeT prog 42=some 7:=by kernel_rfl
theorem EH {dst:Option Tmp} {ty':TypeId} {x:Operand} {pos:String} {after:Array Edge} {guard:Option (Nat×Bool)} {a:Act} {w:World} {K:Act->World->Prop} {Q:Exit->Act->World->Prop} (hx:iy (a.eval x)=true) (hh:has w (bE (a.eval x)) (bJ (a.eval x)) 7=true):
 Oper.wp prog {dst:=dst,op:=.load 42 x,type:=ty',pos:=pos,after:=after,guard:=guard} a w K Q=K (a.put dst (.agg (gets w (bE (a.eval x)) (bJ (a.eval x)) 7))) w:=dJ 7 iN uJ hx hh
theorem Ma {ρ:Operand->Value} {dst:Option Tmp} {ty':TypeId} {x:Operand} {pos:String} {after:Array Edge} {guard:Option (Nat×Bool)} {w:World} (hx:iy (ρ x)=true) (hh:has w (bE (ρ x)) (bJ (ρ x)) 7=true):
 (execOp ρ {dst:=dst,op:=.load 42 x,type:=ty',pos:=pos,after:=after,guard:=guard}).run prog w=.ok (.value (.agg (gets w (bE (ρ x)) (bJ (ρ x)) 7))) w:=aZ 7 iN uJ hx hh
theorem LH (w:World) (g off:Nat) (hh:has w g off 7=true):(loadVar 42 ⟨g,off,none⟩).run prog w=.ok (.agg (gets w g off 7)) w:=jy prog w _ g off 7 iN uJ hh
attribute [go_sem] iN uJ
attribute [go_sem↓high] EH LH Ma
attribute [go_sem high] EH
theorem Gl {p:Pr} (hk:tF p) {part:Int} {V Ar:List Int} (h:dO p part V Ar=0):∃i:Nat,part=i/\i<5/\((V.length:Int)=gK p part/\V.length<=64)/\Ar.length=dZ p part:=by
 unfold dO at h
 by_cases h1:part<0∨4<part
 ·rw [if_pos h1]at h;omega
 ·rw [if_neg h1]at h
  by_cases h2:¬(V.length:Int)=gK p part∨¬Ar.length=dZ p part
  ·rw [if_pos h2]at h;omega
  ·have h3:=hk.cells
   have h4:(V.length:Int)=gK p part:=by omega
   refine⟨part.toNat,by omega,by omega,⟨h4,?_⟩,by omega⟩;unfold gK at h4
   split at h4<;>omega
inductive H6 (p:Pr) (part:Int) (V Ar:List Int) (w w':World):Ending->Prop where
 |bad (h:¬dO p part V Ar=0):H6 p part V Ar w w' (.returned (.tuple #[.agg fu.c,.int .i64 (dO p part V Ar)]))
 |ok (i:Nat) (hi:part=i) (h5:i<5) (h:dO p part V Ar=0) (v:fU) (hv:jE w w' v (vX i (iG p i V Ar))):H6 p part V Ar w w' (.returned (.tuple #[.agg v.c,.int .i64 0]))
theorem rZ (c:Pc) (p:Pr) (part:Int) (vs ag0:jg) (V Ar:List Int) (N Na:Nat) (w:World) (hN:N<=w.heap.size) (vP:Na<=w.heap.size) (h:lT w N c p) (hv:j5 w Na vs V) (ha:j5 w Na ag0 Ar) (hk:tF p):
 Calls prog 16 #[.agg c.cells,.int .i64 part,vs.v,ag0.v] w λe w'=>Ext w w'/\H6 p part V Ar w w' e:=by
 obtain⟨gA,gn,gc⟩:=ag0;have hx0:=((kR (λ_=>False) w).alloc (.cells c.cells 26)).alloc (.cells fu.c 42);have hB:=(bN w 26 c.cells).alloc (.cells fu.c 42);have hD:=bN (w.alloc (.cells c.cells 26)) 42 fu.c;go_enter func16,ntmps16;go_upto_region 1 with(fail);have HPW:=J (h.ext hx0 hN);have dR:=J (Nat.le_trans hN hx0.size);have HVM:=J (hv.ext hx0);have HAM:=J (ha.ext hx0);have gD:=J hk;have HN0:=J hN;have adK:=J (Nat.le_trans vP hx0.size);rw [show(w.alloc (.cells c.cells 26)).heap.size=w.heap.size+1 by simp]at hD;generalize hW:(w.alloc (.cells c.cells 26)).alloc (.cells fu.c 42)=W at hx0 hB hD HPW dR adK HVM HAM⊢;have HX0:=J hx0;have HB:=J hB;have HD:=J hD;clear hW hx0 hB hD h hN vP hv ha hk;generalize hpb:w.heap.size=pb at HB HD HN0⊢;have akk:=J hpb;clear hpb;have i1:=bH HB.out;have i2:=bG HB.out;have i3:=HB.out.lt;go_wp2_with fail;refine(PO c p part vs ⟨gA,gn,gc⟩ V Ar N Na _ dR.out HPW.out HVM.out HAM.out gD.out.np).mono ?_;rintro e Wc ⟨rfl,hx1⟩;have eH:=J hx1;obtain⟨F,hF⟩:∃F,F=dO p part V Ar:=⟨_,rfl⟩;rw [<-hF];have HF:=J hF;clear hx1 hF i1 i2 i3
 by_cases h0:F=0
 rotate_left
 ·have q:(F !=0)=true:=bne_iff_ne.2 h0
  have HDW:=J (HD.out.ext eH.out);have j1:=bH HDW.out;have j2:=aH.bF HDW.out;have j3:=HDW.out.lt;have H0:=J h0;clear h0;go_wp2_with fail;refine dU (t:=42) (g:=pb+1) (cs:=fu.c) results16 rfl rfl iN BU (by exact aH.gL HDW.out 0 _) ⟨(HX0.out.trans eH.out).putAt _ _ _ (λhlt=>absurd hlt EP),?_⟩;show H6 p part V Ar w _ (.returned (.tuple #[.agg fu.c,.int .i64 F]));rw [HF.out];exact .bad (by rw [<-HF.out];exact H0.out)
 have H0:=J (show dO p part V Ar=0 from by rw [<-HF.out];exact h0);subst h0;clear HF;obtain⟨i,hi,hi5,hVl,hAl⟩:=Gl gD.out H0.out;subst hi;have HI5:=J hi5;have HVL:=J hVl;have sH:=J hAl;have lN:=J (HB.out.ext eH.out);have ZR:=J (HPW.out.ext eH.out dR.out);have E_:=J (Nat.le_trans dR.out eH.out.size);have hse:=gD.out.seats;obtain⟨S,hS⟩:∃S:Nat,p.seats=(S:Int):=⟨p.seats.toNat,by omega⟩;have HS:=J (show S<=8 by omega);have HSP:=J hS;have ZU:=J (show c.cells[1]?=some (.int .i64 (S:Int))from by show some (Value.int .i64 c.seats)=_;rw [ZR.out.seats,hS]);obtain⟨Fj,-,vb,vo,hva,RG⟩:=HVM.out.ext eH.out;have xu:=J Fj;have Hy:=J hva;have Wy:=J (show 0<vs.n->Row Wc vb vo (aM V)from λh0=>(RG h0).2);have qh:=J (show V.length<=64 from hVl.2);clear hVl hAl hse hS Fj hva RG hi5;go_upto_region 4 with(fail);apply ahC (F:=λWz g1 ag mb vA vc=>Ext Wc Wz/\jJ ⟨Wc.heap.size,N,mb,c,p,vA,vs.n,vc,some ⟨ag,0,none⟩,S,S⟩ Wz ⟨V,[],false,false,0,0,0,List.replicate S 0,0⟩)
 case h=>
  intro jr;have KEY:=J jr;clear jr;refine Uz (λwz=>Ext Wc wz) (.op 0 1 (.op 2 2 (.op 4 2 (.op 5 1 (.fork 1 (.fork 3 (.op 6 0 (.op 7 2 (.op 8 0 (.op 9 2 .nil)))) 6 (.op 3 0 (.op 7 2 (.op 8 0 (.op 9 2 .nil))))) 6 (.op 1 0 (.op 3 0 (.op 7 2 (.op 8 0 (.op 9 2 .nil)))))))))) ?_;refine UA ?_;have YD:=J (show Ext Wc Wc.drew from(kR _ Wc).drew)
  (repeat (first|refine zS ?_|((apply ig);(· exact YD.out);(· go_simp);(· (intro w1 hS;have a0:=bX lN.out hS;have a1:=bH a0;have a2:=bG a0;have a3:=a0.lt;have a4:w1.cell? ⟨pb,1,none⟩=some (.int .i64 (S:Nat)):=(bC a0 1).trans ZU.out;go_simp;try with_reducible rfl));refine tO ?_)|((apply h_);(· exact YD.out);(· go_simp);refine tO ?_)))
  refine iE ?_ ?_
  ·skip
   (refine dz (λK hK=>?_);go_simp)
   have x1:Ext Wc.drew (Wc.alloc (.cells #[] 21)).drew:=(show Ext Wc.drew (Wc.alloc _).drew from⟨rfl,rfl,rfl,by simp,λk hk _=>Below.heap_alloc _ _ _ hk⟩);have y1:Ext Wc (Wc.alloc (.cells #[] 21)).drew:=YD.out.trans x1;refine hK.out _ _ (λ_=>y1) ?_;clear hK K;have b1:aH (Wc.alloc (.cells #[] 21)).drew Wc.heap.size 21 #[]:=aH.drew (bN _ _ _);generalize hW:(Wc.alloc (.cells #[] 21)).drew=nW at x1 y1 b1⊢;clear hW;generalize hg:Wc.heap.size=g1 at b1⊢;have s1:Wc.heap.size<=g1:=by rw [<-hg];exact Nat.le_refl _
   have G1:=J hg;clear hg;have ho:nW.ownsRow Wc.heap.size 21 1 (.slice (some ⟨g1,0,none⟩) 0 0) 0 (aM []):=⟨rfl,.inr ⟨g1,0,#[],rfl,s1,b1,Nat.le_refl _,by unfold maxLen;omega,by simp,by simp [aM]⟩⟩;refine iE ?_ ?_
   ·skip
    obtain⟨vA,vc,tX,hr2,ho3,hk2,hfr⟩:=Ky nW Wc.heap.size g1 ho vs.A vb vo vs.n vs.c V xu.out Hy.out (λh0=>(Wy.out h0).ext y1) afi y1.size;have y2:Ext Wc tX:=y1.trans' hk2 (λi hi e=>by have:=s1;omega);refine dz (λK hK=>?_);refine ku rfl ?_;refine Lib.wp_append_run _ _ _ _ _ rfl _ _ rfl rfl _ _ hr2 ?_;refine hK.out _ _ (λ_=>y2) ?_;clear hK K hr2;have hmk:(Instr.makeSlice 27 (.int .i64 (S:Nat)) (.int .i64 (S:Nat))).run prog tX=.ok (.slice (some ⟨tX.heap.size,0,none⟩) S S) (tX.alloc (.cells (aM (List.replicate S 0)).toArray 21)):=RO S (by have:=HS.out;omega) tX;refine dz (λK hK=>?_);refine ku rfl ?_;refine uR _ _ 27 rfl rfl rfl hmk ?_;clear hmk;have x3:Ext tX (tX.alloc (.cells (aM (List.replicate S 0)).toArray 21)):=(kR _ _).alloc _;have y3:Ext Wc (tX.alloc (.cells (aM (List.replicate S 0)).toArray 21)):=y2.trans x3;refine hK.out _ _ (λ_=>y3) ?_;clear hK K;have b3:aH (tX.alloc (.cells (aM (List.replicate S 0)).toArray 21)) tX.heap.size 21 (aM (List.replicate S 0)).toArray:=bN _ _ _;generalize hW:(tX.alloc (.cells (aM (List.replicate S 0)).toArray 21))=JW at x3 y3 b3⊢;clear hW;generalize hg:tX.heap.size=ag at b3⊢;have s3:Wc.heap.size<=ag:=by rw [<-hg];exact y2.size
    have G3:=J hg;clear hg;have hoa:JW.ownsRow Wc.heap.size 21 1 (.slice (some ⟨ag,0,none⟩) S S) S (aM (List.replicate S 0)):=⟨by simp [aM],.inr ⟨ag,S,_,rfl,s3,b3,Nat.le_refl _,by have:=HS.out;unfold maxLen;omega,by simp [aM],by simp [aM]⟩⟩;have hsep:∀g,(Value.slice vA vs.n vc).ownBlock=some g->¬ag=g:=λg hg e=>by have h1:=(ho3.lt g hg).2;have h2:=G3.out;omega
    have ho3:=bD ho3 x3;exact afz
   ·skip
    have hmk:(Instr.makeSlice 27 (.int .i64 (S:Nat)) (.int .i64 (S:Nat))).run prog nW=.ok (.slice (some ⟨nW.heap.size,0,none⟩) S S) (nW.alloc (.cells (aM (List.replicate S 0)).toArray 21)):=RO S (by have:=HS.out;omega) nW;refine dz (λK hK=>?_);refine ku rfl ?_;refine uR _ _ 27 rfl rfl rfl hmk ?_;clear hmk;have x2:Ext nW (nW.alloc (.cells (aM (List.replicate S 0)).toArray 21)):=(kR _ _).alloc _;have y2:Ext Wc (nW.alloc (.cells (aM (List.replicate S 0)).toArray 21)):=y1.trans x2;refine hK.out _ _ (λ_=>y2) ?_;clear hK K;have b2:aH (nW.alloc (.cells (aM (List.replicate S 0)).toArray 21)) nW.heap.size 21 (aM (List.replicate S 0)).toArray:=bN _ _ _;generalize hW:(nW.alloc (.cells (aM (List.replicate S 0)).toArray 21))=tX at x2 y2 b2⊢;clear hW;generalize hg:nW.heap.size=ag at b2⊢;have s2:Wc.heap.size<=ag:=by rw [<-hg];exact y1.size
    have G2:=J hg;clear hg;have hoa:tX.ownsRow Wc.heap.size 21 1 (.slice (some ⟨ag,0,none⟩) S S) S (aM (List.replicate S 0)):=⟨by simp [aM],.inr ⟨ag,S,_,rfl,s2,b2,Nat.le_refl _,by have:=HS.out;unfold maxLen;omega,by simp [aM],by simp [aM]⟩⟩;have ho:=bD ho x2;obtain⟨vA,vc,JW,hr3,ho3,hk3,hfr⟩:=Ky tX Wc.heap.size g1 ho vs.A vb vo vs.n vs.c V xu.out Hy.out (λh0=>(Wy.out h0).ext y2) afi y2.size;have y3:Ext Wc JW:=y2.trans' hk3 (λi hi e=>by have:=s1;omega);refine afv ?_;clear hr3;have hoa:=bS hoa hk3 (λg hg q=>by simp [Value.ownBlock]at hg;have:=b1.lt;have:=G2.out;omega);have hsep:∀g,(Value.slice vA vs.n vc).ownBlock=some g->¬ag=g:=λg hg e=>by have h0:=hfr g hg;have h1:=b1.lt;have h2:=G2.out;have h3:=b2.lt;omega
    exact afz
  ·skip
   have hmk:(Instr.makeSlice 27 (.int .i64 (S:Nat)) (.int .i64 (S:Nat))).run prog Wc.drew=.ok (.slice (some ⟨Wc.heap.size,0,none⟩) S S) (Wc.alloc (.cells (aM (List.replicate S 0)).toArray 21)).drew:=RO S (by have:=HS.out;omega) Wc.drew;refine dz (λK hK=>?_);refine ku rfl ?_;refine uR _ _ 27 rfl rfl rfl hmk ?_;clear hmk;have x1:Ext Wc.drew (Wc.alloc (.cells (aM (List.replicate S 0)).toArray 21)).drew:=(show Ext Wc.drew (Wc.alloc _).drew from⟨rfl,rfl,rfl,by simp,λk hk _=>Below.heap_alloc _ _ _ hk⟩);have y1:Ext Wc (Wc.alloc (.cells (aM (List.replicate S 0)).toArray 21)).drew:=YD.out.trans x1;refine hK.out _ _ (λ_=>y1) ?_;clear hK K;have b1:aH (Wc.alloc (.cells (aM (List.replicate S 0)).toArray 21)).drew Wc.heap.size 21 (aM (List.replicate S 0)).toArray:=aH.drew (bN _ _ _);generalize hW:(Wc.alloc (.cells (aM (List.replicate S 0)).toArray 21)).drew=nW at x1 y1 b1⊢;clear hW;generalize hg:Wc.heap.size=ag at b1⊢;have s1:Wc.heap.size<=ag:=by rw [<-hg];exact Nat.le_refl _
   have G1:=J hg;clear hg;have hoa:nW.ownsRow Wc.heap.size 21 1 (.slice (some ⟨ag,0,none⟩) S S) S (aM (List.replicate S 0)):=⟨by simp [aM],.inr ⟨ag,S,_,rfl,s1,b1,Nat.le_refl _,by have:=HS.out;unfold maxLen;omega,by simp [aM],by simp [aM]⟩⟩
   (refine dz (λK hK=>?_);go_simp)
   have x2:Ext nW (nW.alloc (.cells #[] 21)):=(kR _ _).alloc _;have y2:Ext Wc (nW.alloc (.cells #[] 21)):=y1.trans x2;refine hK.out _ _ (λ_=>y2) ?_;clear hK K;have b2:aH (nW.alloc (.cells #[] 21)) nW.heap.size 21 #[]:=bN _ _ _;generalize hW:(nW.alloc (.cells #[] 21))=tX at x2 y2 b2⊢;clear hW;generalize hg:nW.heap.size=g1 at b2⊢;have s2:Wc.heap.size<=g1:=by rw [<-hg];exact y1.size
   have G2:=J hg;clear hg;have ho:tX.ownsRow Wc.heap.size 21 1 (.slice (some ⟨g1,0,none⟩) 0 0) 0 (aM []):=⟨rfl,.inr ⟨g1,0,#[],rfl,s2,b2,Nat.le_refl _,by unfold maxLen;omega,by simp,by simp [aM]⟩⟩;have hoa:=bD hoa x2;obtain⟨vA,vc,JW,hr3,ho3,hk3,hfr⟩:=Ky tX Wc.heap.size g1 ho vs.A vb vo vs.n vs.c V xu.out Hy.out (λh0=>(Wy.out h0).ext y2) afi y2.size;have y3:Ext Wc JW:=y2.trans' hk3 (λi hi e=>by have:=s2;omega);refine afv ?_;clear hr3;have hoa:=bS hoa hk3 (λg hg q=>by simp [Value.ownBlock]at hg;have:=b1.lt;have:=G2.out;omega);have hsep:∀g,(Value.slice vA vs.n vc).ownBlock=some g->¬ag=g:=λg hg e=>by have h0:=hfr g hg;have h1:=b1.lt;have h2:=G2.out;have h3:=x2.size;omega
   exact afz
 rintro Wz g1 ag mb vA vc ⟨hyz,hra⟩;have Ra:=J hyz;have Wt:=J hra;clear hyz hra;have Ho:=J (HAM.out.ext eH.out);have Nt:=J (HD.out.ext eH.out);have hi5:=HI5.out
 rcases(by omega:i=0∨i=1∨i=2∨i=3∨i=4)with rfl|rfl|rfl|rfl|rfl
 ·skip
  have i1:=bH (lN.out.ext Ra.out);have i2:=bG (lN.out.ext Ra.out);have i3:=(lN.out.ext Ra.out).lt;have HPZ:=J (ZR.out.ext Ra.out E_.out);have HNZ:=J (Nat.le_trans E_.out Ra.out.size);go_wp2_with fail;refine(PE c p N Wz HNZ.out HPZ.out gD.out).mono ?_;rintro e w2 ⟨⟨fA,fn,fc⟩,rfl,hos,hx2⟩;have HR2:=J (Wt.out.newVars hx2 hos);obtain⟨uA,un,uc,hb2,-⟩:=(Wt.out.ext hx2).box;have fH:=J ((Ra.out.trans hx2).setCell ⟨mb,11,none⟩ (.slice fA fn fc) (λhlt=>absurd hlt (by have:=Wt.out.GA;simp only at this⊢;omega)));clear i1 i2 i3 hos hx2;have j1:=bC hb2;have j2:=hb2.lt;have j3:=aH.frozen hb2;clear hb2;go_upto_region 8 with(fail);clear j1 j2 j3;generalize (w2.setCell ⟨mb,11,none⟩ (.slice fA fn fc))=Wq at HR2 fH⊢;have Xv:gn=0:=by have h1:gn=Ar.length:=Ho.out.1;rw [h1,sH.out];rfl
  rw [Xv]
  go_loopw [12] (λt12 wr=>t12=.int .i64 0/\Wq=wr) (λ_ _=>0)
  case atStart=>exact⟨rfl,rfl⟩
  case round=>
   obtain⟨rfl,rfl⟩:=hrel
   have HR3:=J (show jJ ⟨Wc.heap.size,N,mb,c,p,fA,fn,fc,some ⟨ag,0,none⟩,S,S⟩ Wq (R0 p 0 V Ar)from by
    have h:=HR2.out;have h1:Ar=[]:=List.eq_nil_of_length_eq_zero sH.out;unfold R0 dW;rw [show p.seats.toNat=S by have:=HSP.out;omega];exact h)
   have eX:=fH;refine Zh ?_;intro HPY i1 i2 i3;go_wp2_with fail;refine(kT c 0 aj _).mono ?_;refine Zf ?_;clear i1 i2 i3;intro w5 hx5 kX CZ wE xI;have hss:=wE.out.part 0;have hn:=hss.1
   have hcall:Calls prog 37 #[.pointer (some ⟨mb,0,none⟩),.slice (za c 0).A (za c 0).n (za c 0).c] w5 λe w'=>e=.returned (.tuple #[])/\jJ ⟨Wc.heap.size,N,mb,c,p,fA,fn,fc,some ⟨ag,0,none⟩,S,S⟩ w' (iG p 0 V Ar)/\Kept (Rx.S ⟨Wc.heap.size,N,mb,c,p,fA,fn,fc,some ⟨ag,0,none⟩,S,S⟩) w5 w':=by
    rw [hn]at hss⊢;exact(mW ⟨Wc.heap.size,N,mb,c,p,fA,fn,fc,some ⟨ag,0,none⟩,S,S⟩ 0 (partOf p 0)).1 (jI p 0) 0 true _ _ (R0 p 0 V Ar) w5 xI.out (GR gD.out aj H0.out HVM.out.2.1 HAM.out.2.1) (by have h1:=sH.out;have h2:=gD.out.np;show(dW p 0 Ar).length<=0+4;simp [dW]) (gD.out.part 0 aj) (by have:=gD.out.V5 0 aj;omega) hss
   clear hss hn hx5;go_wp2_with fail;refine Zl ?_;clear hcall;intro w6 xB xw jc;obtain⟨R,hR⟩:∃R,R=iG p 0 V Ar:=⟨_,rfl⟩;refine Zc ?_;clear xB hR xw;intro Ae yX uA un uc sS i1 i2 HD6 j1 j2 j3
   cases hrf:R.refused
   rotate_left
   ·have F6:=J hrf
    go_wp2_with fail;refine dU (t:=42) (g:=pb+1) (cs:=fU.c ⟨⟨none,0,0⟩,true,0,0,0,⟨none,0,0⟩,0⟩) results16 rfl rfl iN BU ML ⟨(HX0.out.trans (eH.out.trans jc.out)).putAt _ _ _ (λhlt=>absurd hlt EP),.ok 0 rfl aj H0.out ⟨⟨none,0,0⟩,true,0,0,0,⟨none,0,0⟩,0⟩ ?_⟩;refine Za ?_;intro hkp hlt hbw;rw [show iG p 0 V Ar=R from Ae.out.symm];rw [show vX 0 R=⟨[],true,0,0,0,[],0⟩from by unfold vX;rw [if_pos F6.out]];exact⟨eD _ _,eD _ _,rfl,rfl,rfl,rfl,rfl⟩
   have F6:=J hrf;go_wp2_with fail;refine dU (t:=42) (g:=pb+1) (cs:=fU.c ⟨⟨fA,fn,fc⟩,false,0,0,0,⟨none,0,0⟩,0⟩) results16 rfl rfl iN BU ML ⟨(HX0.out.trans (eH.out.trans jc.out)).putAt _ _ _ (λhlt=>absurd hlt EP),.ok 0 rfl aj H0.out ⟨⟨fA,fn,fc⟩,false,0,0,0,⟨none,0,0⟩,0⟩ ?_⟩;have hkp:Kept (·=pb+1) w6 (putAt w6 (pb+1) 0 (fU.c ⟨⟨fA,fn,fc⟩,false,0,0,0,⟨none,0,0⟩,0⟩)):=Kept.putAt (kR _ _) _ _ _ (λ_=>rfl);have hlt:=Nt.out.lt;have hbw:=(HX0.out.trans eH.out).size;rw [show iG p 0 V Ar=R from Ae.out.symm];rw [show vX 0 R=⟨R.vars,false,0,0,0,[],0⟩from by unfold vX;rw [if_neg YV];rfl];exact⟨gZ (bS yX.out.vars hkp (λg hg q=>by have:=(yX.out.vars.lt g hg).1;simp only at this;omega)) hbw,eD _ _,rfl,rfl,rfl,rfl,rfl⟩
 ·skip
  have HR2:=Wt;have fH:=Ra;generalize TM:Wz=Wq at HR2 fH⊢;clear TM Ra Wt;go_upto_region 8 with(fail);have Xv:gn=0:=by have h1:gn=Ar.length:=Ho.out.1;rw [h1,sH.out];rfl
  rw [Xv]
  go_loopw [12] (λt12 wr=>t12=.int .i64 0/\Wq=wr) (λ_ _=>0)
  case atStart=>exact⟨rfl,rfl⟩
  case round=>
   obtain⟨rfl,rfl⟩:=hrel
   have HR3:=J (show jJ ⟨Wc.heap.size,N,mb,c,p,vA,vs.n,vc,some ⟨ag,0,none⟩,S,S⟩ Wq (R0 p 1 V Ar)from by
    have h:=HR2.out;have h1:Ar=[]:=List.eq_nil_of_length_eq_zero sH.out;unfold R0 dW;rw [show p.seats.toNat=S by have:=HSP.out;omega];exact h)
   have eX:=fH;refine Zh ?_;intro HPY i1 i2 i3;go_wp2_with fail;refine(kT c 1 aj _).mono ?_;refine Zf ?_;clear i1 i2 i3;intro w5 hx5 kX CZ wE xI;have hss:=wE.out.part 1;have hn:=hss.1
   have hcall:Calls prog 37 #[.pointer (some ⟨mb,0,none⟩),.slice (za c 1).A (za c 1).n (za c 1).c] w5 λe w'=>e=.returned (.tuple #[])/\jJ ⟨Wc.heap.size,N,mb,c,p,vA,vs.n,vc,some ⟨ag,0,none⟩,S,S⟩ w' (iG p 1 V Ar)/\Kept (Rx.S ⟨Wc.heap.size,N,mb,c,p,vA,vs.n,vc,some ⟨ag,0,none⟩,S,S⟩) w5 w':=by
    rw [hn]at hss⊢;exact(mW ⟨Wc.heap.size,N,mb,c,p,vA,vs.n,vc,some ⟨ag,0,none⟩,S,S⟩ 1 (partOf p 1)).1 (jI p 1) 0 true _ _ (R0 p 1 V Ar) w5 xI.out (GR gD.out aj H0.out HVM.out.2.1 HAM.out.2.1) (by have h1:=sH.out;have h2:=gD.out.np;show(dW p 1 Ar).length<=0+4;simp [dW]) (gD.out.part 1 aj) (by have:=gD.out.V5 1 aj;omega) hss
   clear hss hn hx5;go_wp2_with fail;refine Zl ?_;clear hcall;intro w6 xB xw jc;obtain⟨R,hR⟩:∃R,R=iG p 1 V Ar:=⟨_,rfl⟩;refine Zc ?_;clear xB hR xw;intro Ae yX uA un uc sS i1 i2 HD6 j1 j2 j3
   cases hrf:R.refused
   rotate_left
   ·have F6:=J hrf
    go_wp2_with fail;refine dU (t:=42) (g:=pb+1) (cs:=fU.c ⟨⟨none,0,0⟩,true,0,0,0,⟨none,0,0⟩,0⟩) results16 rfl rfl iN BU ML ⟨(HX0.out.trans (eH.out.trans jc.out)).putAt _ _ _ (λhlt=>absurd hlt EP),.ok 1 rfl aj H0.out ⟨⟨none,0,0⟩,true,0,0,0,⟨none,0,0⟩,0⟩ ?_⟩;refine Za ?_;intro hkp hlt hbw;rw [show iG p 1 V Ar=R from Ae.out.symm];rw [show vX 1 R=⟨[],true,0,0,0,[],0⟩from by unfold vX;rw [if_pos F6.out]];exact⟨eD _ _,eD _ _,rfl,rfl,rfl,rfl,rfl⟩
   have F6:=J hrf;go_wp2_with fail;refine dU (t:=42) (g:=pb+1) (cs:=fU.c ⟨⟨none,0,0⟩,false,R.seat,0,0,⟨none,0,0⟩,0⟩) results16 rfl rfl iN BU ML ⟨(HX0.out.trans (eH.out.trans jc.out)).putAt _ _ _ (λhlt=>absurd hlt EP),.ok 1 rfl aj H0.out ⟨⟨none,0,0⟩,false,R.seat,0,0,⟨none,0,0⟩,0⟩ ?_⟩;have hkp:Kept (·=pb+1) w6 (putAt w6 (pb+1) 0 (fU.c ⟨⟨none,0,0⟩,false,R.seat,0,0,⟨none,0,0⟩,0⟩)):=Kept.putAt (kR _ _) _ _ _ (λ_=>rfl);have hlt:=Nt.out.lt;have hbw:=(HX0.out.trans eH.out).size;rw [show iG p 1 V Ar=R from Ae.out.symm];rw [show vX 1 R=⟨[],false,R.seat,0,0,[],0⟩from by unfold vX;rw [if_neg YV];rfl];exact⟨eD _ _,eD _ _,rfl,rfl,rfl,rfl,rfl⟩
 ·skip
  have HR2:=Wt;have fH:=Ra;generalize TM:Wz=Wq at HR2 fH⊢;clear TM Ra Wt;go_upto_region 8 with(fail);have hal:=sH.out
  have JR:=J (show gn=(dW p 2 Ar).length/\gn<=4 from by
   have h1:gn=Ar.length:=Ho.out.1;have h2:=gD.out.np;have h3:dZ p (2:Nat)=p.params.length:=rfl;refine⟨?_,by omega⟩;rw [show dW p 2 Ar=(p.params.map Vr.name).zip Ar from rfl,List.length_zip,List.length_map]
   omega)
  clear hal
  go_loopw [12] (λt12 wr=>∃j:Nat,j<=gn/\t12=.int .i64 (j:Int)/\jJ ⟨Wc.heap.size,N,mb,c,p,vA,vs.n,vc,some ⟨ag,0,none⟩,S,S⟩ wr {R0 p 2 V Ar with binds:=(dW p 2 Ar).take j}/\Ext Wc wr) (λt12 _=>gn - (intOf t12).toNat)
  case atStart=>
   refine⟨0,Nat.zero_le _,rfl,?_,fH.out⟩;have h:=HR2.out;unfold R0;rw [show p.seats.toNat=S by have:=HSP.out;omega];exact h
  case round=>
   obtain⟨j,hj,rfl,hr,hx⟩:=hrel;have Ws:=J hr;have eX:=J hx;have hn4:=JR.out.2;clear hr hx
   by_cases hlt:j<gn
   ·have jd:(j:Int)<gn:=by omega
    have hja:j<Ar.length:=by have h1:gn=Ar.length:=Ho.out.1;omega
    obtain⟨hq1,hav,ab,ao,Io,Ip⟩:=Ho.out;simp only at Io Ip;have har:=(Ip aj).2.ext eX.out;have hbN:=(Ip aj).1;obtain rfl:=Io aj;have a1:=Row.mem har j hja;have HA1:=J a1;have HA2:=J har.lt;have HA3:=J (show ab<Wc.heap.size from Nat.lt_of_lt_of_le hbN (Nat.le_trans adK.out eH.out.size));have i1:wr.cell? ⟨pb,8,none⟩=some (.string c.silent):=bC (lN.out.ext eX.out) 8;have i2:=(lN.out.ext eX.out).lt;obtain⟨hpn,_,_,pb2,po,JZ,OM⟩:=ZR.out.params;have hjp:j<p.params.length:=by have h1:=sH.out;have h2:dZ p (2:Nat)=p.params.length:=rfl;omega
    have agV:(j:Int)<c.params.n:=by omega
    have JZ:=JZ aj;obtain⟨hh',hg'⟩:=mZ ((OM aj).2.ext eX.out) j hjp;have c0:=nY hh' hg' aj;have c1:=((OM aj).2.ext eX.out).lt;have i6:wr.cell? ⟨pb,6,none⟩=some (.slice (some ⟨pb2,po,none⟩) c.params.n c.params.c):=by rw [<-JZ];exact bC (lN.out.ext eX.out) 6
    clear OM hh' hg' hpn JZ;clear a1 har Ip hav hbN hq1;go_upto_region 13 with(fail);clear i1 i2 c0 c1 i6 agV;refine aiD ?_;intro uA un uc sS CV HUB VH kY xq yd K hK;have x1:Ext wr (wr.alloc (.cells (#[.string p.params[j].name,.int .i32 Ar[j]]:Array Value) 98)).drew:=((kR _ wr).alloc _).drew;refine hK.out _ _ (λ_=>Kept.ext x1) ?_;clear hK K;have b1:aH (wr.alloc (.cells (#[.string p.params[j].name,.int .i32 Ar[j]]:Array Value) 98)).drew wr.heap.size 98 (#[.string p.params[j].name,.int .i32 Ar[j]]:Array Value):=aH.drew (bN _ _ _);generalize (wr.alloc (.cells (#[.string p.params[j].name,.int .i32 Ar[j]]:Array Value) 98)).drew=nW at x1 b1⊢;generalize wr.heap.size=g9 at b1⊢;have hrow:Row nW g9 0 (aR Cj [(p.params[j].name,Ar[j])]):=Row.eZ b1;obtain⟨v3,tX,hr2,ho2,hk2⟩:=WO nW Wc.heap.size (.slice uA un uc) un _ (bD CV.out x1) (some ⟨g9,0,none⟩) g9 0 1 1 [(p.params[j].name,Ar[j])] rfl (λ_=>rfl) (λ_=>hrow) aiw (eX.out.trans x1).size;refine aC (λK hK=>?_);refine ku rfl ?_;refine Lib.wp_append_run _ _ _ _ _ rfl _ _ rfl rfl _ _ hr2 ?_;refine hK.out _ _ (λ_=>(Kept.ext x1).trans hk2) ?_;clear hK K hr2 yd;obtain⟨vA2,vc2,rfl⟩:=wT ho2;have Iu:=(sS.out.ext x1).kept hk2 VH.out;have d1:=bC Iu;have d2:=Iu.lt;have d3:=aH.frozen Iu;clear Iu;refine gI ?_
    have htk:(dW p 2 Ar).take j++[(p.params[j].name,Ar[j])]=(dW p 2 Ar).take (j+1):=by
     have hjb:j<(dW p 2 Ar).length:=by have:=JR.out;omega
     rw [List.take_succ_eq_append_getElem hjb]
     congr 2
     simp only [show dW p 2 Ar=(p.params.map Vr.name).zip Ar from rfl,List.getElem_zip,List.getElem_map]
    exact ajd
   ·obtain rfl:j=gn:=by omega
    have HR3:=J (show jJ ⟨Wc.heap.size,N,mb,c,p,vA,vs.n,vc,some ⟨ag,0,none⟩,S,S⟩ wr (R0 p 2 V Ar)from by
     have h:=Ws.out;rw [JR.out.1,List.take_length]at h;exact h)
    refine Zh ?_;intro HPY i1 i2 i3;go_wp2_with fail;refine(kT c 2 aj _).mono ?_;refine Zf ?_;clear i1 i2 i3;intro w5 hx5 kX CZ wE xI;have hss:=wE.out.part 2;have hn:=hss.1
    have hcall:Calls prog 37 #[.pointer (some ⟨mb,0,none⟩),.slice (za c 2).A (za c 2).n (za c 2).c] w5 λe w'=>e=.returned (.tuple #[])/\jJ ⟨Wc.heap.size,N,mb,c,p,vA,vs.n,vc,some ⟨ag,0,none⟩,S,S⟩ w' (iG p 2 V Ar)/\Kept (Rx.S ⟨Wc.heap.size,N,mb,c,p,vA,vs.n,vc,some ⟨ag,0,none⟩,S,S⟩) w5 w':=by
     rw [hn]at hss⊢;exact(mW ⟨Wc.heap.size,N,mb,c,p,vA,vs.n,vc,some ⟨ag,0,none⟩,S,S⟩ 2 (partOf p 2)).1 (jI p 2) 0 true _ _ (R0 p 2 V Ar) w5 xI.out (GR gD.out aj H0.out HVM.out.2.1 HAM.out.2.1) (by have h1:=sH.out;have h2:=gD.out.np;show(dW p 2 Ar).length<=0+4;simp [dW];omega) (gD.out.part 2 aj) (by have:=gD.out.V5 2 aj;omega) hss
    clear hss hn hx5;go_wp2_with fail;refine Zl ?_;clear hcall;intro w6 xB xw jc;obtain⟨R,hR⟩:∃R,R=iG p 2 V Ar:=⟨_,rfl⟩;refine Zc ?_;clear xB hR xw;intro Ae yX uA un uc sS i1 i2 HD6 j1 j2 j3
    cases hrf:R.refused
    rotate_left
    ·have F6:=J hrf
     go_wp2_with fail;refine dU (t:=42) (g:=pb+1) (cs:=fU.c ⟨⟨none,0,0⟩,true,0,0,0,⟨none,0,0⟩,0⟩) results16 rfl rfl iN BU ML ⟨(HX0.out.trans (eH.out.trans jc.out)).putAt _ _ _ (λhlt=>absurd hlt EP),.ok 2 rfl aj H0.out ⟨⟨none,0,0⟩,true,0,0,0,⟨none,0,0⟩,0⟩ ?_⟩;refine Za ?_;intro hkp hlt hbw;rw [show iG p 2 V Ar=R from Ae.out.symm];rw [show vX 2 R=⟨[],true,0,0,0,[],0⟩from by unfold vX;rw [if_pos F6.out]];exact⟨eD _ _,eD _ _,rfl,rfl,rfl,rfl,rfl⟩
    have F6:=J hrf;go_upto_region 21 with(fail);clear i1 i2 j1 j2 j3;refine gM (λwz=>Ext w6 wz) [(0,2),(1,2),(2,2),(3,1),(4,2),(5,2),(6,2),(7,1),(8,2),(9,2),(10,2),(11,1),(12,2),(13,0),(14,2)] ?_;refine gN ?_;have yd:Ext w6 w6.drew:=(kR _ w6).drew
    (repeat first|refine cu ?_|refine dL yd ait ?_|refine dK yd ?_)
    have lX:=J (jc.out.trans yd);have E9:=J (yX.out.ext yd);have j1:=bH (Nt.out.ext lX.out);have j2:=aH.bF (Nt.out.ext lX.out);have j3:=(Nt.out.ext lX.out).lt;refine gI ?_;go_wp2_with fail;refine dU (t:=42) (g:=pb+1) (cs:=fU.c ⟨⟨vA,vs.n,vc⟩,false,0,R.cell,R.sides,⟨none,0,0⟩,0⟩) results16 rfl rfl iN BU (by exact aH.gL (Nt.out.ext lX.out) 0 _) ⟨(HX0.out.trans (eH.out.trans lX.out)).putAt _ _ _ (λhlt=>absurd hlt EP),.ok 2 rfl aj H0.out ⟨⟨vA,vs.n,vc⟩,false,0,R.cell,R.sides,⟨none,0,0⟩,0⟩ ?_⟩;have hkp:Kept (·=pb+1) w6.drew (putAt w6.drew (pb+1) 0 (fU.c ⟨⟨vA,vs.n,vc⟩,false,0,R.cell,R.sides,⟨none,0,0⟩,0⟩)):=Kept.putAt (kR _ _) _ _ _ (λ_=>rfl);have hlt:=Nt.out.lt;have hbw:=(HX0.out.trans eH.out).size;rw [show iG p 2 V Ar=R from Ae.out.symm];rw [show vX 2 R=⟨R.vars,false,0,R.cell,R.sides,[],0⟩from by unfold vX;rw [if_neg YV];rfl];exact⟨gZ (bS E9.out.vars hkp (λg hg q=>by have:=(E9.out.vars.lt g hg).1;simp only at this;omega)) hbw,eD _ _,rfl,rfl,rfl,rfl,rfl⟩
 ·skip
  have HR2:=Wt;have fH:=Ra;generalize TM:Wz=Wq at HR2 fH⊢;clear TM Ra Wt;go_upto_region 8 with(fail);have hal:=sH.out
  have JR:=J (show gn=(dW p 3 Ar).length/\gn<=4 from by
   have h1:gn=Ar.length:=Ho.out.1;have h2:=gD.out.np;have h3:dZ p (3:Nat)=1:=rfl;exact⟨by rw [show dW p 3 Ar=[(p.silent,Ar.getD 0 0)]from rfl];show gn=1;omega,by omega⟩)
  clear hal
  go_loopw [12] (λt12 wr=>∃j:Nat,j<=gn/\t12=.int .i64 (j:Int)/\jJ ⟨Wc.heap.size,N,mb,c,p,vA,vs.n,vc,some ⟨ag,0,none⟩,S,S⟩ wr {R0 p 3 V Ar with binds:=(dW p 3 Ar).take j}/\Ext Wc wr) (λt12 _=>gn - (intOf t12).toNat)
  case atStart=>
   refine⟨0,Nat.zero_le _,rfl,?_,fH.out⟩;have h:=HR2.out;unfold R0;rw [show p.seats.toNat=S by have:=HSP.out;omega];exact h
  case round=>
   obtain⟨j,hj,rfl,hr,hx⟩:=hrel;have Ws:=J hr;have eX:=J hx;have hn4:=JR.out.2;clear hr hx
   by_cases hlt:j<gn
   ·have jd:(j:Int)<gn:=by omega
    have hja:j<Ar.length:=by have h1:gn=Ar.length:=Ho.out.1;omega
    obtain⟨hq1,hav,ab,ao,Io,Ip⟩:=Ho.out;simp only at Io Ip;have har:=(Ip aj).2.ext eX.out;have hbN:=(Ip aj).1;obtain rfl:=Io aj;have a1:=Row.mem har j hja;have HA1:=J a1;have HA2:=J har.lt;have HA3:=J (show ab<Wc.heap.size from Nat.lt_of_lt_of_le hbN (Nat.le_trans adK.out eH.out.size));have i1:wr.cell? ⟨pb,8,none⟩=some (.string c.silent):=bC (lN.out.ext eX.out) 8;have i2:=(lN.out.ext eX.out).lt;clear a1 har Ip hav hbN hq1;go_upto_region 13 with(fail);clear i1 i2;refine aiD ?_;intro uA un uc sS CV HUB VH kY xq yd K hK;have x1:Ext wr (wr.alloc (.cells (#[.string c.silent,.int .i32 Ar[j]]:Array Value) 98)).drew:=((kR _ wr).alloc _).drew;refine hK.out _ _ (λ_=>Kept.ext x1) ?_;clear hK K;have b1:aH (wr.alloc (.cells (#[.string c.silent,.int .i32 Ar[j]]:Array Value) 98)).drew wr.heap.size 98 (#[.string c.silent,.int .i32 Ar[j]]:Array Value):=aH.drew (bN _ _ _);generalize (wr.alloc (.cells (#[.string c.silent,.int .i32 Ar[j]]:Array Value) 98)).drew=nW at x1 b1⊢;generalize wr.heap.size=g9 at b1⊢;have hrow:Row nW g9 0 (aR Cj [(c.silent,Ar[j])]):=Row.eZ b1;obtain⟨v3,tX,hr2,ho2,hk2⟩:=WO nW Wc.heap.size (.slice uA un uc) un _ (bD CV.out x1) (some ⟨g9,0,none⟩) g9 0 1 1 [(c.silent,Ar[j])] rfl (λ_=>rfl) (λ_=>hrow) aiw (eX.out.trans x1).size;refine aC (λK hK=>?_);refine ku rfl ?_;refine Lib.wp_append_run _ _ _ _ _ rfl _ _ rfl rfl _ _ hr2 ?_;refine hK.out _ _ (λ_=>(Kept.ext x1).trans hk2) ?_;clear hK K hr2 yd;obtain⟨vA2,vc2,rfl⟩:=wT ho2;have Iu:=(sS.out.ext x1).kept hk2 VH.out;have d1:=bC Iu;have d2:=Iu.lt;have d3:=aH.frozen Iu;clear Iu;refine gI ?_
    have htk:(dW p 3 Ar).take j++[(c.silent,Ar[j])]=(dW p 3 Ar).take (j+1):=by
     have hjb:j<(dW p 3 Ar).length:=by have:=JR.out;omega
     rw [List.take_succ_eq_append_getElem hjb]
     congr 2
     rw [ZR.out.silent];have h1:=JR.out.1;have h2:(dW p 3 Ar).length=1:=rfl;obtain rfl:j=0:=by omega
     simp only [show dW p 3 Ar=[(p.silent,Ar.getD 0 0)]from rfl,List.getElem_cons_zero];simp [hja]
    exact ajd
   ·obtain rfl:j=gn:=by omega
    have HR3:=J (show jJ ⟨Wc.heap.size,N,mb,c,p,vA,vs.n,vc,some ⟨ag,0,none⟩,S,S⟩ wr (R0 p 3 V Ar)from by
     have h:=Ws.out;rw [JR.out.1,List.take_length]at h;exact h)
    refine Zh ?_;intro HPY i1 i2 i3;go_wp2_with fail;refine(kT c 3 aj _).mono ?_;refine Zf ?_;clear i1 i2 i3;intro w5 hx5 kX CZ wE xI;have hss:=wE.out.part 3;have hn:=hss.1
    have hcall:Calls prog 37 #[.pointer (some ⟨mb,0,none⟩),.slice (za c 3).A (za c 3).n (za c 3).c] w5 λe w'=>e=.returned (.tuple #[])/\jJ ⟨Wc.heap.size,N,mb,c,p,vA,vs.n,vc,some ⟨ag,0,none⟩,S,S⟩ w' (iG p 3 V Ar)/\Kept (Rx.S ⟨Wc.heap.size,N,mb,c,p,vA,vs.n,vc,some ⟨ag,0,none⟩,S,S⟩) w5 w':=by
     rw [hn]at hss⊢;exact(mW ⟨Wc.heap.size,N,mb,c,p,vA,vs.n,vc,some ⟨ag,0,none⟩,S,S⟩ 3 (partOf p 3)).1 (jI p 3) 0 true _ _ (R0 p 3 V Ar) w5 xI.out (GR gD.out aj H0.out HVM.out.2.1 HAM.out.2.1) (by have h1:=sH.out;have h2:=gD.out.np;show(dW p 3 Ar).length<=0+4;simp [dW]) (gD.out.part 3 aj) (by have:=gD.out.V5 3 aj;omega) hss
    clear hss hn hx5;go_wp2_with fail;refine Zl ?_;clear hcall;intro w6 xB xw jc;obtain⟨R,hR⟩:∃R,R=iG p 3 V Ar:=⟨_,rfl⟩;refine Zc ?_;clear xB hR xw;intro Ae yX uA un uc sS i1 i2 HD6 j1 j2 j3
    cases hrf:R.refused
    rotate_left
    ·have F6:=J hrf
     go_wp2_with fail;refine dU (t:=42) (g:=pb+1) (cs:=fU.c ⟨⟨none,0,0⟩,true,0,0,0,⟨none,0,0⟩,0⟩) results16 rfl rfl iN BU ML ⟨(HX0.out.trans (eH.out.trans jc.out)).putAt _ _ _ (λhlt=>absurd hlt EP),.ok 3 rfl aj H0.out ⟨⟨none,0,0⟩,true,0,0,0,⟨none,0,0⟩,0⟩ ?_⟩;refine Za ?_;intro hkp hlt hbw;rw [show iG p 3 V Ar=R from Ae.out.symm];rw [show vX 3 R=⟨[],true,0,0,0,[],0⟩from by unfold vX;rw [if_pos F6.out]];exact⟨eD _ _,eD _ _,rfl,rfl,rfl,rfl,rfl⟩
    have F6:=J hrf;go_wp2_with fail;refine dU (t:=42) (g:=pb+1) (cs:=fU.c ⟨⟨vA,vs.n,vc⟩,false,0,0,0,⟨none,0,0⟩,0⟩) results16 rfl rfl iN BU ML ⟨(HX0.out.trans (eH.out.trans jc.out)).putAt _ _ _ (λhlt=>absurd hlt EP),.ok 3 rfl aj H0.out ⟨⟨vA,vs.n,vc⟩,false,0,0,0,⟨none,0,0⟩,0⟩ ?_⟩;have hkp:Kept (·=pb+1) w6 (putAt w6 (pb+1) 0 (fU.c ⟨⟨vA,vs.n,vc⟩,false,0,0,0,⟨none,0,0⟩,0⟩)):=Kept.putAt (kR _ _) _ _ _ (λ_=>rfl);have hlt:=Nt.out.lt;have hbw:=(HX0.out.trans eH.out).size;rw [show iG p 3 V Ar=R from Ae.out.symm];rw [show vX 3 R=⟨R.vars,false,0,0,0,[],0⟩from by unfold vX;rw [if_neg YV];rfl];exact⟨gZ (bS yX.out.vars hkp (λg hg q=>by have:=(yX.out.vars.lt g hg).1;simp only at this;omega)) hbw,eD _ _,rfl,rfl,rfl,rfl,rfl⟩
 ·skip
  have HR2:=Wt;have fH:=Ra;generalize TM:Wz=Wq at HR2 fH⊢;clear TM Ra Wt;go_upto_region 8 with(fail);have Xv:gn=0:=by have h1:gn=Ar.length:=Ho.out.1;rw [h1,sH.out];rfl
  rw [Xv]
  go_loopw [12] (λt12 wr=>t12=.int .i64 0/\Wq=wr) (λ_ _=>0)
  case atStart=>exact⟨rfl,rfl⟩
  case round=>
   obtain⟨rfl,rfl⟩:=hrel
   have HR3:=J (show jJ ⟨Wc.heap.size,N,mb,c,p,vA,vs.n,vc,some ⟨ag,0,none⟩,S,S⟩ Wq (R0 p 4 V Ar)from by
    have h:=HR2.out;have h1:Ar=[]:=List.eq_nil_of_length_eq_zero sH.out;unfold R0 dW;rw [show p.seats.toNat=S by have:=HSP.out;omega];exact h)
   have eX:=fH;refine Zh ?_;intro HPY i1 i2 i3;go_wp2_with fail;refine(kT c 4 aj _).mono ?_;refine Zf ?_;clear i1 i2 i3;intro w5 hx5 kX CZ wE xI;have hss:=wE.out.part 4;have hn:=hss.1
   have hcall:Calls prog 37 #[.pointer (some ⟨mb,0,none⟩),.slice (za c 4).A (za c 4).n (za c 4).c] w5 λe w'=>e=.returned (.tuple #[])/\jJ ⟨Wc.heap.size,N,mb,c,p,vA,vs.n,vc,some ⟨ag,0,none⟩,S,S⟩ w' (iG p 4 V Ar)/\Kept (Rx.S ⟨Wc.heap.size,N,mb,c,p,vA,vs.n,vc,some ⟨ag,0,none⟩,S,S⟩) w5 w':=by
    rw [hn]at hss⊢;exact(mW ⟨Wc.heap.size,N,mb,c,p,vA,vs.n,vc,some ⟨ag,0,none⟩,S,S⟩ 4 (partOf p 4)).1 (jI p 4) 0 true _ _ (R0 p 4 V Ar) w5 xI.out (GR gD.out aj H0.out HVM.out.2.1 HAM.out.2.1) (by have h1:=sH.out;have h2:=gD.out.np;show(dW p 4 Ar).length<=0+4;simp [dW]) (gD.out.part 4 aj) (by have:=gD.out.V5 4 aj;omega) hss
   clear hss hn hx5;go_wp2_with fail;refine Zl ?_;clear hcall;intro w6 xB xw jc;obtain⟨R,hR⟩:∃R,R=iG p 4 V Ar:=⟨_,rfl⟩;refine Zc ?_;clear xB hR xw;intro Ae yX uA un uc sS i1 i2 HD6 j1 j2 j3
   cases hrf:R.refused
   rotate_left
   ·have F6:=J hrf
    go_wp2_with fail;refine dU (t:=42) (g:=pb+1) (cs:=fU.c ⟨⟨none,0,0⟩,true,0,0,0,⟨none,0,0⟩,0⟩) results16 rfl rfl iN BU ML ⟨(HX0.out.trans (eH.out.trans jc.out)).putAt _ _ _ (λhlt=>absurd hlt EP),.ok 4 rfl aj H0.out ⟨⟨none,0,0⟩,true,0,0,0,⟨none,0,0⟩,0⟩ ?_⟩;refine Za ?_;intro hkp hlt hbw;rw [show iG p 4 V Ar=R from Ae.out.symm];rw [show vX 4 R=⟨[],true,0,0,0,[],0⟩from by unfold vX;rw [if_pos F6.out]];exact⟨eD _ _,eD _ _,rfl,rfl,rfl,rfl,rfl⟩
   have F6:=J hrf;go_upto_region 23 with(fail);clear i1 i2 j1 j2 j3;refine gM (λwz=>Ext w6 wz) [(0,2),(1,2),(2,2),(3,1),(4,2),(5,2),(6,2),(7,1),(8,2),(9,0),(10,2)] ?_;refine gN ?_;have yd:Ext w6 w6.drew:=(kR _ w6).drew
   (repeat first|refine cu ?_|refine dL yd ait ?_|refine dK yd ?_)
   have lX:=J (jc.out.trans yd);have E9:=J (yX.out.ext yd);have j1:=bH (Nt.out.ext lX.out);have j2:=aH.bF (Nt.out.ext lX.out);have j3:=(Nt.out.ext lX.out).lt;refine gI ?_;go_wp2_with fail;refine dU (t:=42) (g:=pb+1) (cs:=fU.c ⟨⟨none,0,0⟩,false,0,0,0,⟨some ⟨ag,0,none⟩,S,S⟩,R.rest⟩) results16 rfl rfl iN BU (by exact aH.gL (Nt.out.ext lX.out) 0 _) ⟨(HX0.out.trans (eH.out.trans lX.out)).putAt _ _ _ (λhlt=>absurd hlt EP),.ok 4 rfl aj H0.out ⟨⟨none,0,0⟩,false,0,0,0,⟨some ⟨ag,0,none⟩,S,S⟩,R.rest⟩ ?_⟩;have hkp:Kept (·=pb+1) w6.drew (putAt w6.drew (pb+1) 0 (fU.c ⟨⟨none,0,0⟩,false,0,0,0,⟨some ⟨ag,0,none⟩,S,S⟩,R.rest⟩)):=Kept.putAt (kR _ _) _ _ _ (λ_=>rfl);have hlt:=Nt.out.lt;have hbw:=(HX0.out.trans eH.out).size;rw [show iG p 4 V Ar=R from Ae.out.symm];rw [show vX 4 R=⟨[],false,0,0,0,R.asks,R.rest⟩from by unfold vX;rw [if_neg YV];rfl];exact⟨eD _ _,gZ (bS E9.out.asks hkp (λg hg q=>by have:=(E9.out.asks.lt g hg).1;simp only at this;omega)) hbw,rfl,rfl,rfl,rfl,rfl⟩
end Go.Proofs.YtbfbabbcdochjaaGreatDoor
