/- Several texts joined: Qf, Qg, Qh. -/
import Derived.Lib.AppendZeros
import Derived.Test.YtbfbabbcdochjaaGreatDoorRmpk
import Derived.Test.YtbfbabbcdochjaaGreatDoorRmad
set_option maxHeartbeats 4000000
set_option maxRecDepth 100000
open Go.Proofs.Tryz
namespace Go.Proofs.YtbfbabbcdochjaaGreatDoor
open Go.RowKit So
def preS (p:Pr):Nat->Nat
 |0=>p.vars.length+p.params.length
 |1=>p.vars.length+p.params.length+p.start.size
 |2=>p.vars.length+p.params.length+p.start.size+p.turn.size
 |3=>p.vars.length+p.params.length+p.start.size+p.turn.size+p.play.size
 |4=>p.vars.length+p.params.length+p.start.size+p.turn.size+p.play.size+p.quiet.size
 |_=>eT p
theorem qI (a b c d f:jg) (k:Nat) (hk:k<5) (w:World):(Instr.index 106 (.agg #[a.v,b.v,c.v,d.v,f.v]) (.int .i64 k)).run prog w=.ok ([a.v,b.v,c.v,d.v,f.v].getD k undef) w:=by
 have hs:∀w,(sizeOf 55).run prog w=.ok 1 w:=λw=>wX bT w
 rcases(by omega:k=0∨k=1∨k=2∨k=3∨k=4)with rfl|rfl|rfl|rfl|rfl<;>
  simp [Instr.index,run_underlying underlying106,asIntOf,hs,part,isAgg,run_underlying underlying55,go_sem]
theorem nU (c:Pc) (p:Pr) (N:Nat) (w:World) (hN:N<=w.heap.size) (h:lT w N c p):Calls prog 43 #[.agg c.cells] w λe w'=>e=.returned (.int .i64 (jW (eT p)))/\Ext w w':=by
 have hx0:=(kR (λ_=>False) w).alloc (.cells c.cells 57);have hB:=bN w 57 c.cells;have hP:=J (h.ext hx0 hN);have hv:=Fits.max h.vars.2.1 aj;have hq:=Fits.max h.params.2.1 aj;have ev:=J h.vars.1;have eq:=J h.params.1;have vP:=Nat.le_trans hN hx0.size;clear h;go_enter func43,ntmps43;go_upto_region 1 with(fail);generalize hW:(w.alloc (.cells c.cells 57))=W at hx0 hB hP vP⊢;clear hW;have hc1:=bC hB;have hlt:=hB.lt;generalize w.heap.size=pb at hB hc1 hlt⊢;have hC:=J hB;clear hB;go_wp2_with fail
 go_loopw [3,24] (λt3 t24 wr=>∃(j:Nat),j<=5/\t24=.int .i64 j/\t3=.int .i64 (jW (preS p j))/\Ext W wr) (λ_ t24 _=>5 - (intOf t24).toNat)
 case atStart=>exact⟨0,by omega,rfl,by simp only [preS,ev.out,eq.out];rw [JM (by have:=ev.out;have:=eq.out;omega)];simp,kR _ _⟩
 case round=>
  obtain⟨j,hj,rfl,rfl,hx⟩:=hrel;have HX:=J hx;clear hx
  rcases(by omega:j=0∨j=1∨j=2∨j=3∨j=4∨j=5)with rfl|rfl|rfl|rfl|rfl|rfl
  ·have hix:(Instr.index 106 (.agg #[c.start.v,c.turn.v,c.play.v,c.quiet.v,c.pays.v]) (.int .i64 0)).run prog wr=.ok c.start.v wr:=qI c.start c.turn c.play c.quiet c.pays 0 aj wr
   go_wp2_with fail;refine(oH p.start _ _ _ N _ (Nat.le_trans vP HX.out.size) (hP.out.start.ext HX.out vP)).mono ?_;rintro e w1 ⟨rfl,hx1⟩;go_wp2_with fail;go_roundw
   case rel=>exact⟨1,by omega,rfl,by simp only [jm,kF,preS];congr 2,HX.out.trans hx1⟩
   case measure=>simp [intOf]
  ·have hix:(Instr.index 106 (.agg #[c.start.v,c.turn.v,c.play.v,c.quiet.v,c.pays.v]) (.int .i64 1)).run prog wr=.ok c.turn.v wr:=qI c.start c.turn c.play c.quiet c.pays 1 aj wr
   go_wp2_with fail;refine(oH p.turn _ _ _ N _ (Nat.le_trans vP HX.out.size) (hP.out.turn.ext HX.out vP)).mono ?_;rintro e w1 ⟨rfl,hx1⟩;go_wp2_with fail;go_roundw
   case rel=>exact⟨2,by omega,rfl,by simp only [jm,kF,preS];congr 2,HX.out.trans hx1⟩
   case measure=>simp [intOf]
  ·have hix:(Instr.index 106 (.agg #[c.start.v,c.turn.v,c.play.v,c.quiet.v,c.pays.v]) (.int .i64 2)).run prog wr=.ok c.play.v wr:=qI c.start c.turn c.play c.quiet c.pays 2 aj wr
   go_wp2_with fail;refine(oH p.play _ _ _ N _ (Nat.le_trans vP HX.out.size) (hP.out.play.ext HX.out vP)).mono ?_;rintro e w1 ⟨rfl,hx1⟩;go_wp2_with fail;go_roundw
   case rel=>exact⟨3,by omega,rfl,by simp only [jm,kF,preS];congr 2,HX.out.trans hx1⟩
   case measure=>simp [intOf]
  ·have hix:(Instr.index 106 (.agg #[c.start.v,c.turn.v,c.play.v,c.quiet.v,c.pays.v]) (.int .i64 3)).run prog wr=.ok c.quiet.v wr:=qI c.start c.turn c.play c.quiet c.pays 3 aj wr
   go_wp2_with fail;refine(oH p.quiet _ _ _ N _ (Nat.le_trans vP HX.out.size) (hP.out.quiet.ext HX.out vP)).mono ?_;rintro e w1 ⟨rfl,hx1⟩;go_wp2_with fail;go_roundw
   case rel=>exact⟨4,by omega,rfl,by simp only [jm,kF,preS];congr 2,HX.out.trans hx1⟩
   case measure=>simp [intOf]
  ·have hix:(Instr.index 106 (.agg #[c.start.v,c.turn.v,c.play.v,c.quiet.v,c.pays.v]) (.int .i64 4)).run prog wr=.ok c.pays.v wr:=qI c.start c.turn c.play c.quiet c.pays 4 aj wr
   go_wp2_with fail;refine(oH p.pays _ _ _ N _ (Nat.le_trans vP HX.out.size) (hP.out.pays.ext HX.out vP)).mono ?_;rintro e w1 ⟨rfl,hx1⟩;go_wp2_with fail;go_roundw
   case rel=>exact⟨5,by omega,rfl,by simp only [jm,kF,preS,eT];congr 2,HX.out.trans hx1⟩
   case measure=>simp [intOf]
  ·go_wp2_with fail
   go_ret;exact⟨rfl,hx0.trans HX.out⟩
theorem xZ:∀F:EF,0<=F.deep/\F.deep<=9223372036854775807
 | .nil=>by simp [EF.deep]
 | .cons _ _ _ k r=>by
  have:=xZ r;have:-9223372036854775808<=jW (1+k.deep)/\jW (1+k.deep)<=9223372036854775807:=by rw [fF];omega
  rw [EF.deep]
  omega
abbrev adq (w:World) (F:EF):Prop:=∀(A:Option Addr) (n c N:Nat) (op m:Int) (name:ByteArray) (w':World),Ext w w'->N<=w.heap.size->g_ w N A n F->Calls prog 150 #[.agg (aI op m name A n c)] w' λe w2=>e=.returned (.int .i64 (jW (1+F.deep)))/\Ext w' w2
theorem UD (w0:World) (F:EF):adq w0 F:=by
 refine uh (C:=adq w0) ?_ F;intro F IH A n c N op m name w hx0 hN h;refine Bp ?_;clear h IH;intro b off hm HN HA HE HI;have hx1:=(kR (λ_=>False) w).alloc (.cells (aI op m name A n c) 84);have hB:=bN w 84 (aI op m name A n c);go_enter func150,ntmps150;go_upto_region 1 with(fail);have HX0:=J (hx0.trans hx1);have eH:=J hx1;generalize hW:(w.alloc (.cells (aI op m name A n c) 84))=W at hB HX0 eH⊢;clear hW hx1;generalize w.heap.size=pb at hB⊢;have hC:=J hB;clear hB;go_wp2_with fail
 go_loopw [3,4] (λt3 t4 wr=>∃(j:Nat) (acc:Int) (R:EF),j+R.len=n/\max acc R.deep=F.deep/\0<=acc/\t4=.int .i64 j/\t3=.int .i64 acc/\mK w0 N R b (off+j*4)/\EF.All (adq w0) R/\Ext W wr) (λ_ t4 _=>n - (intOf t4).toNat)
 case atStart=>exact⟨0,0,F,by rw [HN.out,Nat.zero_add],by have:=xZ F;omega,Int.le_refl _,rfl,rfl,by simpa using HE.out,HI.out,kR _ _⟩
 case round=>
  obtain⟨j,acc,R,hj,hacc,hnn,rfl,rfl,hR,hI,hx⟩:=hrel;have xH:=J hnn;clear hnn;have HR:=J hR;have HI2:=J hI;have HX:=J hx;have hcr:=bC (bX hC.out hx);have hlr:=(bX hC.out hx).lt;clear hR hI hx
  cases R with
  |nil=>
   simp only [EF.len,EF.deep,Nat.add_zero]at hj hacc;subst hj;have dw:=J hacc;clear hacc;go_wp2_with fail;go_ret;refine⟨b_ ?_,eH.out.trans HX.out⟩;have h1:=dw.out;have h3:=xH.out;have h2:=(xZ F).1;rw [show acc=F.deep by omega];show jW _=_
   congr 1<;>omega
  |cons op' m' name' k r=>
   obtain⟨hb,h1,h2,h3,⟨A',cap,b',off',hh,hg,hl,hA',hk⟩,hr⟩:=HR.out;simp only [EF.len,EF.deep]at hj hacc;have dw:=J hacc;clear hacc;have hlt:(j:Int)<n:=by omega
   obtain rfl:=HA.out aj;have jN:=HX0.out.trans HX.out;refine FY ?_;intro hbl hh' hg' hbw;have KE:=J (show g_ w0 N A' k.len k from⟨rfl,hl,b',off',hA',hk⟩);have IK:=J HI2.out.1;have Kq:=J jN;have HR2:=J hr;clear hh hg hl hA' hk h1 h2 h3 HR hbl jN hr;go_wp2_with fail;refine(IK.out _ _ _ N _ _ _ _ Kq.out hN KE.out).mono ?_;rintro e w2 ⟨rfl,hx2⟩;obtain⟨d,hd⟩:∃d,d=jW (1+k.deep):=⟨_,rfl⟩;rw [<-hd];have HD:=J hd;clear hd
   by_cases hgt:acc<d
   ·go_wp2_with fail
    go_roundw
    case rel=>exact⟨j+1,d,r,by omega,by have:=dw.out;have:=HD.out;omega,by have:=xH.out;omega,by go_num,rfl,by rw [Nat.add_mul,<-Nat.add_assoc];exact HR2.out,HI2.out.2,HX.out.trans hx2⟩
    case measure=>simp only [intOf];omega
   ·go_wp2_with fail
    go_roundw
    case rel=>exact⟨j+1,acc,r,by omega,by have:=dw.out;have:=HD.out;omega,by have:=xH.out;omega,by go_num,rfl,by rw [Nat.add_mul,<-Nat.add_assoc];exact HR2.out,HI2.out.2,HX.out.trans hx2⟩
    case measure=>simp only [intOf];omega
abbrev adr (w:World) (F:EF):Prop:=∀(A:Option Addr) (n c N:Nat) (op m:Int) (name:ByteArray) (w':World),Ext w w'->N<=w.heap.size->g_ w N A n F->Calls prog 183 #[.agg (aI op m name A n c)] w' λe w2=>e=.returned (.int .i64 (jW (1+F.deep)))/\Ext w' w2
theorem UU (w0:World) (F:EF):adr w0 F:=by
 refine uh (C:=adr w0) ?_ F;intro F IH A n c N op m name w hx0 hN h;refine Bp ?_;clear h IH;intro b off hm HN HA HE HI;have hx1:=(kR (λ_=>False) w).alloc (.cells (aI op m name A n c) 200);have HX0:=J (hx0.trans hx1);have eH:=J hx1;clear hx1;go_enter func183,ntmps183;go_upto_region 1 with(fail);go_wp2_with fail
 go_loopw [3,9] (λt3 t9 wr=>∃(j:Nat) (acc:Int) (R:EF),j+R.len=n/\max acc R.deep=F.deep/\0<=acc/\t9=.int .i64 j/\t3=.int .i64 acc/\mK w0 N R b (off+j*4)/\EF.All (adr w0) R/\Ext (w.alloc (.cells (aI op m name A n c) 200)) wr) (λ_ t9 _=>n - (intOf t9).toNat)
 case atStart=>exact⟨0,0,F,by rw [HN.out,Nat.zero_add],by have:=xZ F;omega,Int.le_refl _,rfl,rfl,by simpa using HE.out,HI.out,kR _ _⟩
 case round=>
  obtain⟨j,acc,R,hj,hacc,hnn,rfl,rfl,hR,hI,hx⟩:=hrel;have xH:=J hnn;clear hnn;have HR:=J hR;have HI2:=J hI;have HX:=J hx;clear hR hI hx
  cases R with
  |nil=>
   simp only [EF.len,EF.deep,Nat.add_zero]at hj hacc;subst hj;have dw:=J hacc;clear hacc;go_wp2_with fail;go_ret;refine⟨b_ ?_,eH.out.trans HX.out⟩;have h1:=dw.out;have h3:=xH.out;have h2:=(xZ F).1;rw [show acc=F.deep by omega]
  |cons op' m' name' k r=>
   obtain⟨hb,h1,h2,h3,⟨A',cap,b',off',hh,hg,hl,hA',hk⟩,hr⟩:=HR.out;simp only [EF.len,EF.deep]at hj hacc;have dw:=J hacc;clear hacc;have hlt:(j:Int)<n:=by omega
   obtain rfl:=HA.out aj;have jN:=HX0.out.trans HX.out;refine FY ?_;intro hbl hh' hg' hbw;have KE:=J (show g_ w0 N A' k.len k from⟨rfl,hl,b',off',hA',hk⟩);have IK:=J HI2.out.1;have Kq:=J jN;have HR2:=J hr;clear hh hg hl hA' hk h1 h2 h3 HR hbl jN hr;go_wp2_with fail;have y0:Ext wr _:=(kR _ wr).alloc (.cells (aI op' m' name' A' k.len cap) 200);refine(IK.out _ _ _ N _ _ _ _ (Kq.out.trans y0) hN KE.out).mono ?_;rintro e w2 ⟨rfl,hx2⟩;obtain⟨d,hd⟩:∃d,d=jW (1+k.deep):=⟨_,rfl⟩;rw [<-hd];have HD:=J hd;clear hd;go_wp2_with fail;go_roundw
   case rel=>exact⟨j+1,max acc d,r,by omega,by have:=dw.out;have:=HD.out;omega,by have:=xH.out;omega,by go_num,by congr 1;split<;>omega,by rw [Nat.add_mul,<-Nat.add_assoc];exact HR2.out,HI2.out.2,HX.out.trans (y0.trans hx2)⟩
   case measure=>simp only [intOf];omega
open Go.RowKit So
def zi (w:World) (D:Nat->Prop):EF->Nat->Nat->Prop
 | .nil,_,_=>True
 | .cons op n name k r,b,off=>D b/\aL op/\aL n/\name.size<=maxLen/\(∃A cap b' off',Proofs.YtbfbabbcdochjaaGreatDoor.has w b off 4=true/\gets w b off 4=aI op n name A k.len cap/\Fits k.len 56/\(0<k.len->A=some ⟨b',off',none⟩)/\zi w D k b' off')/\zi w D r b (off+4)
def zk (w:World) (D:Nat->Prop) (A:Option Addr) (n:Nat) (F:EF):Prop:=n=F.len/\Fits n 56/\∃b off,(0<n->A=some ⟨b,off,none⟩)/\zi w D F b off
def zB (w:World) (D:Nat->Prop):SF->Nat->Nat->Prop
 | .nil,_,_=>True
 | .cons kind name e low high l x r,b,off=>D b/\aL kind/\aL low/\aL high/\name.size<=maxLen/\
  (∃eA ec lA lc xA xc be oe bl ol bx ox,Proofs.YtbfbabbcdochjaaGreatDoor.has w b off 7=true/\gets w b off 7=aB kind name eA e.len ec low high lA l.len lc xA x.len xc/\Fits e.len 56/\Fits l.len 112/\Fits x.len 112/\
   (0<e.len->eA=some ⟨be,oe,none⟩)/\(0<l.len->lA=some ⟨bl,ol,none⟩)/\(0<x.len->xA=some ⟨bx,ox,none⟩)/\zi w D e be oe/\zB w D l bl ol/\zB w D x bx ox)/\zB w D r b (off+7)
def BG (w:World) (D:Nat->Prop) (A:Option Addr) (n:Nat) (F:SF):Prop:=n=F.len/\Fits n 112/\∃b off,(0<n->A=some ⟨b,off,none⟩)/\zB w D F b off
section
variable {S:Nat->Prop} {w w':World} {D D':Nat->Prop}
theorem zi.kept (hk:Kept S w w') (hD:∀i,D i->i<w.heap.size/\¬S i):∀{F:EF} {b off:Nat},zi w D F b off->zi w' D F b off
 | .nil,_,_,_=>trivial
 | .cons _ _ _ _ _,b,off,h=>by
  obtain⟨hb,h1,h2,h3,⟨A,cap,b',off',hh,hg,hl,hA,hk'⟩,hr⟩:=h;obtain⟨q1,q2⟩:=hD b hb;exact⟨hb,h1,h2,h3,⟨A,cap,b',off',by rw [jS hk q1 q2];exact hh,by rw [iR hk q1 q2];exact hg,hl,hA,hk'.kept hk hD⟩,hr.kept hk hD⟩
theorem zi.mono (hD:∀i,D i->D' i):∀{F:EF} {b off:Nat},zi w D F b off->zi w D' F b off
 | .nil,_,_,_=>trivial
 | .cons _ _ _ _ _,b,off,h=>by
  obtain⟨hb,h1,h2,h3,⟨A,cap,b',off',hh,hg,hl,hA,hk'⟩,hr⟩:=h;exact⟨hD b hb,h1,h2,h3,⟨A,cap,b',off',hh,hg,hl,hA,hk'.mono hD⟩,hr.mono hD⟩
theorem zi.at_ {N:Nat} (hD:∀i,D i->i<N):∀{F:EF} {b off:Nat},zi w D F b off->mK w N F b off
 | .nil,_,_,_=>trivial
 | .cons _ _ _ _ _,b,off,h=>by
  obtain⟨hb,h1,h2,h3,⟨A,cap,b',off',hh,hg,hl,hA,hk'⟩,hr⟩:=h;exact⟨hD b hb,h1,h2,h3,⟨A,cap,b',off',hh,hg,hl,hA,hk'.at_ hD⟩,hr.at_ hD⟩
theorem zB.kept (hk:Kept S w w') (hD:∀i,D i->i<w.heap.size/\¬S i):∀{F:SF} {b off:Nat},zB w D F b off->zB w' D F b off
 | .nil,_,_,_=>trivial
 | .cons _ _ _ _ _ _ _ _,b,off,h=>by
  obtain⟨hb,h1,h2,h3,h4,⟨eA,ec,lA,lc,xA,xc,be,oe,bl,ol,bx,ox,hh,hg,n1,n2,n3,a1,a2,a3,he,hl,hx⟩,hr⟩:=h;obtain⟨q1,q2⟩:=hD b hb;exact⟨hb,h1,h2,h3,h4,⟨eA,ec,lA,lc,xA,xc,be,oe,bl,ol,bx,ox,by rw [jS hk q1 q2];exact hh,by rw [iR hk q1 q2];exact hg,n1,n2,n3,a1,a2,a3,he.kept hk hD,hl.kept hk hD,hx.kept hk hD⟩,hr.kept hk hD⟩
theorem zB.mono (hD:∀i,D i->D' i):∀{F:SF} {b off:Nat},zB w D F b off->zB w D' F b off
 | .nil,_,_,_=>trivial
 | .cons _ _ _ _ _ _ _ _,b,off,h=>by
  obtain⟨hb,h1,h2,h3,h4,⟨eA,ec,lA,lc,xA,xc,be,oe,bl,ol,bx,ox,hh,hg,n1,n2,n3,a1,a2,a3,he,hl,hx⟩,hr⟩:=h;exact⟨hD b hb,h1,h2,h3,h4,⟨eA,ec,lA,lc,xA,xc,be,oe,bl,ol,bx,ox,hh,hg,n1,n2,n3,a1,a2,a3,he.mono hD,hl.mono hD,hx.mono hD⟩,hr.mono hD⟩
theorem zB.at_ {N:Nat} (hD:∀i,D i->i<N):∀{F:SF} {b off:Nat},zB w D F b off->nk w N F b off
 | .nil,_,_,_=>trivial
 | .cons _ _ _ _ _ _ _ _,b,off,h=>by
  obtain⟨hb,h1,h2,h3,h4,⟨eA,ec,lA,lc,xA,xc,be,oe,bl,ol,bx,ox,hh,hg,n1,n2,n3,a1,a2,a3,he,hl,hx⟩,hr⟩:=h;exact⟨hD b hb,h1,h2,h3,h4,⟨eA,ec,lA,lc,xA,xc,be,oe,bl,ol,bx,ox,hh,hg,n1,n2,n3,a1,a2,a3,he.at_ hD,hl.at_ hD,hx.at_ hD⟩,hr.at_ hD⟩
theorem zk.kept {A:Option Addr} {n:Nat} {F:EF} (h:zk w D A n F) (hk:Kept S w w') (hD:∀i,D i->i<w.heap.size/\¬S i):zk w' D A n F:=by
 obtain⟨h1,h2,b,off,h3,h4⟩:=h;exact⟨h1,h2,b,off,h3,h4.kept hk hD⟩
theorem zk.mono {A:Option Addr} {n:Nat} {F:EF} (h:zk w D A n F) (hD:∀i,D i->D' i):zk w D' A n F:=by
 obtain⟨h1,h2,b,off,h3,h4⟩:=h;exact⟨h1,h2,b,off,h3,h4.mono hD⟩
theorem zk.at_ {N:Nat} {A:Option Addr} {n:Nat} {F:EF} (h:zk w D A n F) (hD:∀i,D i->i<N):g_ w N A n F:=by
 obtain⟨h1,h2,b,off,h3,h4⟩:=h;exact⟨h1,h2,b,off,h3,h4.at_ hD⟩
theorem BG.kept {A:Option Addr} {n:Nat} {F:SF} (h:BG w D A n F) (hk:Kept S w w') (hD:∀i,D i->i<w.heap.size/\¬S i):BG w' D A n F:=by
 obtain⟨h1,h2,b,off,h3,h4⟩:=h;exact⟨h1,h2,b,off,h3,h4.kept hk hD⟩
theorem BG.mono {A:Option Addr} {n:Nat} {F:SF} (h:BG w D A n F) (hD:∀i,D i->D' i):BG w D' A n F:=by
 obtain⟨h1,h2,b,off,h3,h4⟩:=h;exact⟨h1,h2,b,off,h3,h4.mono hD⟩
theorem BG.at_ {N:Nat} {A:Option Addr} {n:Nat} {F:SF} (h:BG w D A n F) (hD:∀i,D i->i<N):iO w N A n F:=by
 obtain⟨h1,h2,b,off,h3,h4⟩:=h;exact⟨h1,h2,b,off,h3,h4.at_ hD⟩
end
/-! ### those side by side, as a list of heads -/
structure Ec where (op n:Int) (name:ByteArray) (A:Option Addr) (len cap:Nat)
abbrev Ec.cells (c:Ec):Array Value:=aI c.op c.n c.name c.A c.len c.cap
structure Sc where (kind:Int) (name:ByteArray) (eA:Option Addr) (en ec:Nat) (low high:Int) (lA:Option Addr) (ln lc:Nat) (xA:Option Addr) (xn xc:Nat)
abbrev Sc.cells (c:Sc):Array Value:=aB c.kind c.name c.eA c.en c.ec c.low c.high c.lA c.ln c.lc c.xA c.xn c.xc
def So.EF.app:EF->EF->EF| .nil,b=>b| .cons o n s k r,b=>.cons o n s k (EF.app r b)
def So.SF.app:SF->SF->SF| .nil,b=>b| .cons k n e a c l x r,b=>.cons k n e a c l x (SF.app r b)
theorem Am (o n:Int) (s:Str) (k r:EF):∀P:EF,(P.app (.cons o n s k .nil)).app r=P.app (.cons o n s k r)
 | .nil=>rfl
 | .cons _ _ _ _ q=>by simp only [EF.app];rw [Am o n s k r q]
theorem AQ (k:Int) (n:Str) (e:EF) (a c:Int) (l x r:SF):∀P:SF,(P.app (.cons k n e a c l x .nil)).app r=P.app (.cons k n e a c l x r)
 | .nil=>rfl
 | .cons _ _ _ _ _ _ _ q=>by simp only [SF.app];rw [AQ k n e a c l x r q]
theorem DL:∀P:EF,P.app .nil=P| .nil=>rfl| .cons _ _ _ _ q=>by rw [EF.app,DL q]
theorem Ew:∀P:SF,P.app .nil=P| .nil=>rfl| .cons _ _ _ _ _ _ _ q=>by rw [SF.app,Ew q]
def mM (w:World) (D:Nat->Prop):List Ec->EF->Prop
 |[],.nil=>True
 |c::l,.cons op n name k r=>c.op=op/\c.n=n/\c.name=name/\aL op/\aL n/\name.size<=maxLen/\zk w D c.A c.len k/\mM w D l r
 |_,_=>False
structure Kt (w:World) (D:Nat->Prop) (c:Sc) (kind:Int) (name:Str) (e:EF) (low high:Int) (l x:SF):Prop where
 k:c.kind=kind
 n:c.name=name
 a:c.low=low
 b:c.high=high
 k1:aL kind
 a1:aL low
 b1:aL high
 n1:name.size<=maxLen
 e:zk w D c.eA c.en e
 l:BG w D c.lA c.ln l
 x:BG w D c.xA c.xn x
def mO (w:World) (D:Nat->Prop):List Sc->SF->Prop
 |[],.nil=>True
 |c::t,.cons kind name e low high l x r=>Kt w D c kind name e low high l x/\mO w D t r
 |_,_=>False
section
variable {S:Nat->Prop} {w w':World} {D D':Nat->Prop}
theorem mM.len:∀{l:List Ec} {F:EF},mM w D l F->l.length=F.len
 |[],.nil,_=>rfl
 |_::_,.cons _ _ _ _ _,h=>by simp [EF.len,(h.2.2.2.2.2.2.2).len]
 |[],.cons _ _ _ _ _,h=>h.elim
 |_::_,.nil,h=>h.elim
theorem mO.len:∀{l:List Sc} {F:SF},mO w D l F->l.length=F.len
 |[],.nil,_=>rfl
 |_::_,.cons _ _ _ _ _ _ _ _,h=>by simp [SF.len,h.2.len]
 |[],.cons _ _ _ _ _ _ _ _,h=>h.elim
 |_::_,.nil,h=>h.elim
theorem mM.kept (hk:Kept S w w') (hD:∀i,D i->i<w.heap.size/\¬S i):∀{l:List Ec} {F:EF},mM w D l F->mM w' D l F
 |[],.nil,_=>trivial
 |_::_,.cons _ _ _ _ _,h=>⟨h.1,h.2.1,h.2.2.1,h.2.2.2.1,h.2.2.2.2.1,h.2.2.2.2.2.1,h.2.2.2.2.2.2.1.kept hk hD,(h.2.2.2.2.2.2.2).kept hk hD⟩
 |[],.cons _ _ _ _ _,h=>h.elim
 |_::_,.nil,h=>h.elim
theorem mM.mono (hD:∀i,D i->D' i):∀{l:List Ec} {F:EF},mM w D l F->mM w D' l F
 |[],.nil,_=>trivial
 |_::_,.cons _ _ _ _ _,h=>⟨h.1,h.2.1,h.2.2.1,h.2.2.2.1,h.2.2.2.2.1,h.2.2.2.2.2.1,h.2.2.2.2.2.2.1.mono hD,(h.2.2.2.2.2.2.2).mono hD⟩
 |[],.cons _ _ _ _ _,h=>h.elim
 |_::_,.nil,h=>h.elim
theorem Kt.kept {c:Sc} {kind:Int} {name:Str} {e:EF} {low high:Int} {l x:SF} (hk:Kept S w w') (hD:∀i,D i->i<w.heap.size/\¬S i) (h:Kt w D c kind name e low high l x):Kt w' D c kind name e low high l x:=
 ⟨h.k,h.n,h.a,h.b,h.k1,h.a1,h.b1,h.n1,h.e.kept hk hD,h.l.kept hk hD,h.x.kept hk hD⟩
theorem Kt.mono {c:Sc} {kind:Int} {name:Str} {e:EF} {low high:Int} {l x:SF} (hD:∀i,D i->D' i) (h:Kt w D c kind name e low high l x):Kt w D' c kind name e low high l x:=
 ⟨h.k,h.n,h.a,h.b,h.k1,h.a1,h.b1,h.n1,h.e.mono hD,h.l.mono hD,h.x.mono hD⟩
theorem mO.kept (hk:Kept S w w') (hD:∀i,D i->i<w.heap.size/\¬S i):∀{l:List Sc} {F:SF},mO w D l F->mO w' D l F
 |[],.nil,_=>trivial
 |_::_,.cons _ _ _ _ _ _ _ _,h=>⟨h.1.kept hk hD,h.2.kept hk hD⟩
 |[],.cons _ _ _ _ _ _ _ _,h=>h.elim
 |_::_,.nil,h=>h.elim
theorem mO.mono (hD:∀i,D i->D' i):∀{l:List Sc} {F:SF},mO w D l F->mO w D' l F
 |[],.nil,_=>trivial
 |_::_,.cons _ _ _ _ _ _ _ _,h=>⟨h.1.mono hD,h.2.mono hD⟩
 |[],.cons _ _ _ _ _ _ _ _,h=>h.elim
 |_::_,.nil,h=>h.elim
theorem mM.snoc {c:Ec} {op n:Int} {name:Str} {k:EF} (h1:c.op=op/\c.n=n/\c.name=name/\aL op/\aL n/\name.size<=maxLen/\zk w D c.A c.len k):∀{l:List Ec} {F:EF},mM w D l F->mM w D (l++[c]) (F.app (.cons op n name k .nil))
 |[],.nil,_=>⟨h1.1,h1.2.1,h1.2.2.1,h1.2.2.2.1,h1.2.2.2.2.1,h1.2.2.2.2.2.1,h1.2.2.2.2.2.2,trivial⟩
 |_::_,.cons _ _ _ _ _,h=>⟨h.1,h.2.1,h.2.2.1,h.2.2.2.1,h.2.2.2.2.1,h.2.2.2.2.2.1,h.2.2.2.2.2.2.1,(h.2.2.2.2.2.2.2).snoc h1⟩
 |[],.cons _ _ _ _ _,h=>h.elim
 |_::_,.nil,h=>h.elim
theorem mO.snoc {c:Sc} {kind:Int} {name:Str} {e:EF} {low high:Int} {l x:SF} (h1:Kt w D c kind name e low high l x):∀{t:List Sc} {F:SF},mO w D t F->mO w D (t++[c]) (F.app (.cons kind name e low high l x .nil))
 |[],.nil,_=>⟨h1,trivial⟩
 |_::_,.cons _ _ _ _ _ _ _ _,h=>⟨h.1,h.2.snoc h1⟩
 |[],.cons _ _ _ _ _ _ _ _,h=>h.elim
 |_::_,.nil,h=>h.elim
theorem mM.shut {b:Nat} (hb:D b):∀{l:List Ec} {F:EF} {off:Nat},mM w D l F->(0<l.length->Row w b off (aR Ec.cells l))->zi w D F b off
 |[],.nil,_,_,_=>trivial
 |c::t,.cons op n name k r,off,h,hr=>by
  obtain⟨rfl,rfl,rfl,h4,h5,h6,⟨e1,e2,b',off',e3,e4⟩,h8⟩:=h;have hrow:=hr aG;have h0:=vC (f:=Ec.cells) (k:=4) (λ_=>rfl) hrow 0 aG;simp only [Nat.zero_mul,Nat.add_zero,List.getElem_cons_zero]at h0;refine⟨hb,h4,h5,h6,⟨c.A,c.cap,b',off',h0.1,?_,by rw [<-e1];exact e2,λq=>e3 (by rw [e1];exact q),e4⟩,h8.shut hb (λh0t=>?_)⟩
  ·rw [h0.2,<-e1]
  ·have hs:=hrow.sub 4 (aR Ec.cells t).length (by show 4+_<=(aR Ec.cells (c::t)).length;rw [iV (k:=4) (λ_=>rfl),iV (k:=4) (λ_=>rfl),List.length_cons];omega)
   refine⟨hs.1,?_,hrow.lt⟩;rw [hs.2]
   congr 1
   show((c.cells.toList++aR Ec.cells t).drop 4).take _=_;rw [List.drop_append_of_le_length aG];simp
 |[],.cons _ _ _ _ _,_,h,_=>h.elim
 |_::_,.nil,_,h,_=>h.elim
theorem mO.shut {b:Nat} (hb:D b):∀{l:List Sc} {F:SF} {off:Nat},mO w D l F->(0<l.length->Row w b off (aR Sc.cells l))->zB w D F b off
 |[],.nil,_,_,_=>trivial
 |c::t,.cons kind name e low high l x r,off,h,hr=>by
  obtain⟨⟨rfl,rfl,rfl,rfl,h4,h5,h6,h7,⟨e1,e2,be,oe,e3,e4⟩,⟨l1,l2,bl,ol,l3,l4⟩,⟨x1,x2,bx,ox,x3,x4⟩⟩,h8⟩:=h;have hrow:=hr aG;have h0:=vC (f:=Sc.cells) (k:=7) (λ_=>rfl) hrow 0 aG;simp only [Nat.zero_mul,Nat.add_zero,List.getElem_cons_zero]at h0;refine⟨hb,h4,h5,h6,h7,⟨c.eA,c.ec,c.lA,c.lc,c.xA,c.xc,be,oe,bl,ol,bx,ox,h0.1,?_,by rw [<-e1];exact e2,by rw [<-l1];exact l2,by rw [<-x1];exact x2,λq=>e3 (by rw [e1];exact q),λq=>l3 (by rw [l1];exact q),λq=>x3 (by rw [x1];exact q),e4,l4,x4⟩,h8.shut hb (λh0t=>?_)⟩
  ·rw [h0.2,<-e1,<-l1,<-x1]
  ·have hs:=hrow.sub 7 (aR Sc.cells t).length (by show 7+_<=(aR Sc.cells (c::t)).length;rw [iV (k:=7) (λ_=>rfl),iV (k:=7) (λ_=>rfl),List.length_cons];omega)
   refine⟨hs.1,?_,hrow.lt⟩;rw [hs.2]
   congr 1
   show((c.cells.toList++aR Sc.cells t).drop 7).take _=_;rw [List.drop_append_of_le_length aG];simp
 |[],.cons _ _ _ _ _ _ _ _,_,h,_=>h.elim
 |_::_,.nil,_,h,_=>h.elim
end
open Go.RowKit So
def tQ (P:Program) (T E:TypeId) (sz bytes:Nat):Prop:=P.underlying T=some (.slice E)/\∃i z,P.info? E=some i/\i.zero=some z/\i.size=sz/\i.bytes=bytes/\z.cells.size=sz/\0<sz
theorem yj {P:Program} {T E:TypeId} {sz bytes:Nat} (ht:P.underlying T=some (.slice E)) (h:(P.info? E).map (λi=>(i.zero.map (λz=>z.cells.size),i.size,i.bytes))=some (some sz,sz,bytes)) (h0:0<sz):tQ P T E sz bytes:=by
 refine⟨ht,?_⟩
 cases hi:P.info? E with
 |none=>rw [hi]at h;cases h
 |some i=>
  rw [hi]at h;simp only [Option.map_some,Option.some.injEq,Prod.mk.injEq]at h;obtain⟨h1,h2,h3⟩:=h
  cases hz:i.zero with
  |none=>rw [hz]at h1;cases h1
  |some z=>
   rw [hz]at h1;simp only [Option.map_some,Option.some.injEq]at h1;exact⟨i,z,rfl,hz,h2,h3,h1,h0⟩
theorem Oe {α:Type} {f:α->Array Value} {P:Program} {T E:TypeId} {sz bytes:Nat} (hE:tQ P T E sz bytes) (hf:∀d,(f d).size=sz) (hfl:∀d,iQ (f d).toList=true) (w:World) (base:Nat) (v:Value) (n:Nat) (xs:List α) (hown:w.ownsRow base E sz v n (aR f xs))
 (b off m c:Nat) (l:List α) (hm:m=l.length) (hr:Row w b off (aR f l)) (hn:(n+m)*bytes<=140737488355328) (hbase:base<=w.heap.size) (h8:8<=bytes:=by omega):
 ∃v' w',(Builtin.append_ #[T,T] T #[v,.slice (some ⟨b,off,none⟩) m c]).run P w=.ok v' w'/\w'.ownsRow base E sz v' (n+m) (aR f (xs++l))/\Kept (λi=>v.ownBlock=some i) w w'/\(∀i,v'.ownBlock=some i->v.ownBlock=some i∨w.heap.size<=i):=by
 obtain⟨ht,i,z,hi,hz,h1,h2,h3,h4⟩:=hE
 have hmx:n+m<=maxLen:=by
  have:(n+m)*8<=(n+m)*bytes:=Nat.mul_le_mul_left _ h8;unfold maxLen
  omega
 have aen:=qC (Er hfl l);have hlen:(aR f l).length=m*sz:=by rw [iV hf,hm]
 obtain⟨v',w',hrun,ho,hg,_⟩:=run_append_own (P:=P) w base T T E i z sz bytes ht hi hz h1 h2 h3 h4 v n (aR f xs) hown ⟨b,off,none⟩ m c (aR f l) hlen hr.cells aen hmx hn hbase;rw [zU]at ho;refine⟨v',w',hrun,ho,Kept.uz hg,?_⟩
 rcases hown.2 with⟨rfl,rfl⟩|⟨g,cap,cur,rfl,hbg,hgc,hnc,hcm,hcs,htake⟩
 ·have hx:aR f xs=[]:=List.eq_nil_of_length_eq_zero (by simpa using hown.1)
  obtain⟨v2,w2,acF,ho2,_,_⟩:=run_append_own (P:=P) w w.heap.size T T E i z sz bytes ht hi hz h1 h2 h3 h4 (.slice none 0 0) 0 [] (World.ownsRow_nil _ _ _ _) ⟨b,off,none⟩ m c (aR f l) hlen hr.cells aen hmx hn (Nat.le_refl _);rw [hrun]at acF;injection acF with e1 e2;subst e1;subst e2;exact λi hi=>.inr (ho2.lt i hi).1
 ·by_cases hroom:n+m<=cap
  ·have hr2:=run_append_room (P:=P) w T T E i ht hi g n cap cur hgc ⟨b,off,none⟩ m c (aR f l) (by rw [h1];exact hlen) hr.cells aen hroom (by rw [h1,hlen,hcs,<-Nat.add_mul];exact Nat.mul_le_mul_right _ hroom)
   rw [hrun]at hr2;injection hr2 with e1 e2;subst e1;exact λi hi=>.inl hi
  ·have hr2:=run_append_grow (P:=P) w T T E i z ht hi hz ⟨g,0,none⟩ n cap (aR f xs) (by rw [h1];exact hown.1) (hown.cells (g:=g) rfl) ⟨b,off,none⟩ m c (aR f l) (by rw [h1];exact hlen) hr.cells aj (by unfold maxLen at hmx;omega) (growslice_fits aj (by rw [h2];exact hn))
   rw [hrun]at hr2;injection hr2 with e1 e2;subst e1;intro i hi;simp only [Value.ownBlock,Option.some.injEq]at hi;exact .inr aj
theorem aaV {w w':World} {T:TypeId} {v:Value} {n:Nat} {l:List Ec} {F:EF} (ho:w'.ownsRow w.heap.size T 4 v n (aR Ec.cells l)) (he:mM w' (λi=>w.heap.size<=i/\i<w'.heap.size/\¬v.ownBlock=some i) l F) (hn:n=F.len) (hf:Fits n 56) (hl:l.length=n):
 ∃A' c',Ending.returned v=.returned (.slice A' n c')/\zk w' (λi=>w.heap.size<=i/\i<w'.heap.size) A' n F:=by
 have he':=he.mono (D':=λi=>w.heap.size<=i/\i<w'.heap.size) (λi hi=>⟨hi.1,hi.2.1⟩)
 by_cases h0:0<n
 ·obtain⟨g,c,rfl,hr,hg,_⟩:=gu ho h0 aj
  refine⟨some ⟨g,0,none⟩,c,rfl,hn,hf,g,0,λ_=>rfl,he'.shut ⟨hg,hr.lt⟩ (λ_=>hr)⟩
 ·obtain rfl:n=0:=by omega
  have hF:F=.nil:=by cases F with
   |nil=>rfl
   |cons _ _ _ _ _=>simp [EF.len]at hn
  exact ajH
theorem aaW {w w':World} {T:TypeId} {v:Value} {n:Nat} {l:List Sc} {F:SF} (ho:w'.ownsRow w.heap.size T 7 v n (aR Sc.cells l)) (he:mO w' (λi=>w.heap.size<=i/\i<w'.heap.size/\¬v.ownBlock=some i) l F) (hn:n=F.len) (hf:Fits n 112) (hl:l.length=n):
 ∃A' c',Ending.returned v=.returned (.slice A' n c')/\BG w' (λi=>w.heap.size<=i/\i<w'.heap.size) A' n F:=by
 have he':=he.mono (D':=λi=>w.heap.size<=i/\i<w'.heap.size) (λi hi=>⟨hi.1,hi.2.1⟩)
 by_cases h0:0<n
 ·obtain⟨g,c,rfl,hr,hg,_⟩:=gu ho h0 aj
  refine⟨some ⟨g,0,none⟩,c,rfl,hn,hf,g,0,λ_=>rfl,he'.shut ⟨hg,hr.lt⟩ (λ_=>hr)⟩
 ·obtain rfl:n=0:=by omega
  have hF:F=.nil:=by cases F with
   |nil=>rfl
   |cons _ _ _ _ _ _ _ _=>simp [SF.len]at hn
  exact ajH
theorem Tv:tQ prog 149 200 4 56:=yj underlying149 bT aj
theorem Tw:tQ prog 24 86 7 112:=yj underlying24 bT aj
theorem Tx:tQ prog 55 151 7 112:=yj underlying55 bT aj
theorem KP:tQ prog 54 109 4 40:=yj underlying54 bT aj
theorem yh:tQ prog 118 9 1 16:=yj underlying118 bT aj
abbrev Ea (w:World) (F:EF):Prop:=∀(A:Option Addr) (n c N:Nat) (w':World),Ext w w'->N<=w.heap.size->g_ w N A n F->Calls prog 87 #[.slice A n c] w' λe w2=>Ext w' w2/\∃A' c',e=.returned (.slice A' n c')/\zk w2 (λi=>w'.heap.size<=i/\i<w2.heap.size) A' n F
theorem LP (w0:World) (F:EF):Ea w0 F:=by
 refine uh (C:=Ea w0) ?_ F;intro F IH A n c N w hx0 hN h;obtain⟨hn,hf,b,off,hA,hE⟩:=h;have hm:=hf.max aj;have hm2:=hf;unfold Fits at hm2;have HM:=J hm2;have HF:=J hf;have HN:=J hn;have HA:=J hA;have HE:=J hE;have HI:=J IH;clear hn hA hE IH hf hm2;go_enter func87,ntmps87;go_wp2_with fail
 go_loopw [3,8] (λt3 t8 wr=>∃(j:Nat) (P R:EF) (l:List Ec),j+R.len=n/\P.app R=F/\l.length=j/\t8=.int .i64 j/\wr.ownsRow w.heap.size 200 4 t3 j (aR Ec.cells l)/\mM wr (λi=>w.heap.size<=i/\i<wr.heap.size/\¬t3.ownBlock=some i) l P/\mK w0 N R b (off+j*4)/\EF.All (Ea w0) R/\Ext w wr) (λ_ t8 _=>n - (intOf t8).toNat)
 case atStart=>exact⟨0,.nil,F,[],by rw [HN.out,Nat.zero_add],rfl,rfl,rfl,World.ownsRow_nil _ _ _ _,trivial,by simpa using HE.out,HI.out,kR _ _⟩
 case round=>
  obtain⟨j,P,R,l,hj,hacc,hlen,rfl,ho,hec,hR,hI,hx⟩:=hrel;have HR:=J hR;have HI2:=J hI;have HX:=J hx;have HO:=J ho;have HEC:=J hec;have HLEN:=J hlen;have dw:=J hacc;clear hR hI hx ho hec hlen hacc
  cases R with
  |nil=>
   simp only [EF.len,Nat.add_zero]at hj;subst hj;have hacc:=dw.out;rw [DL]at hacc;subst hacc;go_wp2_with fail;go_ret;refine⟨HX.out,?_⟩;exact aaV HO.out HEC.out HN.out HF.out HLEN.out
  |cons op m name k r=>
   obtain⟨hb,h1,h2,h3,⟨A',cap,b',off',hh,hg,hl,hA',hk⟩,hr⟩:=HR.out;simp only [EF.len]at hj;have hlt:(j:Int)<n:=by omega
   obtain rfl:=HA.out aj;have jN:=hx0.trans HX.out;refine FY ?_;intro hbl hh' hg' hbw;have KE:=J (show g_ w0 N A' k.len k from⟨rfl,hl,b',off',hA',hk⟩);have IK:=J HI2.out.1;have HX0:=J jN;have HR2:=J hr;have nV:=J (show aL op/\aL m/\name.size<=maxLen from⟨h1,h2,h3⟩);clear hh hg hl hA' hk h1 h2 h3 HR hbl jN hr hb;go_upto_region 5 with(fail);have y0:Ext wr _:=(kR _ wr).alloc (.cells (aI op m name A' k.len cap) 84);have hB:=bN wr 84 (aI op m name A' k.len cap);have Z7:∀i,u3.ownBlock=some i->w.heap.size<=i/\i<wr.heap.size:=HO.out.lt;have hpo:¬u3.ownBlock=some wr.heap.size:=λe=>by have:=(Z7 _ e).2;omega
   have hWs:(wr.alloc (.cells (aI op m name A' k.len cap) 84)).heap.size=wr.heap.size+1:=by simp
   have HOW:=J (bD HO.out y0);generalize hW:(wr.alloc (.cells (aI op m name A' k.len cap) 84))=W at y0 hB hWs HOW⊢;clear hW hh' hg';have Hz:=J hWs;have HOB:=J Z7;have HPO:=J hpo;have eH:=J (HX0.out.trans y0);have HXr:=J (HX.out.trans y0);have HY:=J y0;have HWR:=J (show w.heap.size<=wr.heap.size from HX.out.size);clear hWs Z7 hpo y0 HX;obtain⟨pb,hpb⟩:∃pb,pb=wr.heap.size:=⟨_,rfl⟩;rw [<-hpb]at hB⊢;have lN:=J hpb;clear hpb;have hC:=J hB;clear hB;refine gM (λw1=>Kept (λi=>u3.ownBlock=some i) W w1) [(0,2),(1,2),(2,1),(3,2),(4,1),(5,2),(6,1),(7,2),(8,1),(9,0),(10,2),(11,0),(12,0),(13,2)] ?_;refine gN ?_;refine ET ?_;intro bU
   (repeat first|refine cu ?_|refine dL (Kept.ext bU.out) abG ?_|refine dK (Kept.ext bU.out) ?_)
   (refine aC (λK hK=>?_);go_simp)
   refine(IK.out _ _ _ N _ (eH.out.trans bU.out) hN KE.out).mono ?_;rintro e w1 ⟨hx1,A1,c1,rfl,hk1⟩;have dX:=J (bU.out.trans hx1);have Nv:=J hk1;clear hx1 hk1;refine hK.out _ _ (λ_=>Kept.ext dX.out) ?_;clear hK K;refine qX ?_;intro K hK;have y2:Ext W _:=dX.out.alloc (.cells (aI op m name A1 k.len c1) 200);have NG:Ext w1 _:=(kR _ w1).alloc (.cells (aI op m name A1 k.len c1) 200);have hB2:=Row.eZ (bN w1 200 (aI op m name A1 k.len c1));generalize hW2:(w1.alloc (.cells (aI op m name A1 k.len c1) 200))=W2 at y2 NG hB2⊢;clear hW2;refine hK.out _ _ (λ_=>Kept.ext y2) ?_;clear hK K
   (repeat refine cu ?_)
   obtain⟨v',w',hrun,ho',hk',hnew⟩:=Oe (f:=Ec.cells) Tv (λ_=>rfl) (λ_=>rfl) W2 w.heap.size u3 j l (bD HOW.out y2) w1.heap.size 0 1 1 [⟨op,m,name,A1,k.len,c1⟩] rfl hB2 (by have:=HM.out;omega) (by have:=y2.size;have:=Hz.out;have:=HWR.out;omega);refine aC (λK hK=>?_);refine Vz ?_;refine hK.out _ _ (λ_=>Kept.trans (Kept.ext y2) hk') ?_;clear hK K;refine gI ?_;go_wp2_with fail;go_roundw
   case rel=>
    have e1:=dX.out.size;have e2:=NG.size;have e3:=hk'.size;have e4:=Hz.out;have e5:=lN.out;have e6:=HWR.out;have hxw:Ext w w':=(HXr.out.trans y2).trans' hk' (λi hi e=>by have:=(HOB.out i e).1;omega);refine⟨j+1,P.app (.cons op m name k .nil),r,l++[⟨op,m,name,A1,k.len,c1⟩],by omega,by rw [Am];exact dw.out,by rw [List.length_append,HLEN.out];rfl,by go_num,ho',?_,by rw [Nat.add_mul,<-Nat.add_assoc];exact HR2.out,HI2.out.2,hxw⟩;refine mM.snoc ⟨rfl,rfl,rfl,nV.out.1,nV.out.2.1,nV.out.2.2,?_⟩ ?_
    ·refine((Nv.out.kept NG (λi hi=>⟨hi.2,λf=>f⟩)).kept hk' (λi hi=>⟨by omega,λe=>by have:=(HOB.out i e).2;have:=hi.1;have:=bU.out.size;omega⟩)).mono (λi hi=>?_)
     have:=bU.out.size;refine⟨by omega,by omega,λe=>?_⟩
     rcases hnew i e with q|q
     ·have:=(HOB.out i q).2;omega
     ·omega
    ·refine((HEC.out.kept (HY.out.trans y2) (λi hi=>⟨hi.2.1,λf=>f⟩)).kept hk' (λi hi=>⟨by omega,hi.2.2⟩)).mono (λi hi=>?_)
     refine⟨hi.1,by omega,λe=>?_⟩
     rcases hnew i e with q|q
     ·exact hi.2.2 q
     ·omega
   case measure=>simp only [intOf];omega
end Go.Proofs.YtbfbabbcdochjaaGreatDoor
