/- Several texts joined: Qza, Qzb, Qzc, Qzd, Qze. -/
import Derived.Defers
import Derived.Recover
import Derived.Test.YtbfbabbcdochjaaGreatDoorRmpk
import Derived.Test.YtbfbabbcdochjaaGreatDoorRmah
set_option maxHeartbeats 4000000
set_option maxRecDepth 100000
open Go.Proofs.Tryz
namespace Go.Proofs.YtbfbabbcdochjaaGreatDoor
open Go.RowKit So
theorem QK {P:Program} {w:World} {ops:Array Oper} {rest:List Oper} {o:Oper} {a:Act} {Q:Exit->Act->World->Prop} (hgd:o.guard=none) (x y:Operand) (T1 T2:TypeId)
 (ho:o.op=.call {callee:=.builtin .delete,args:=#[x,y],argTypes:=#[T1,T2]}) {ty:TypeId} (hty:o.type=ty) {v s v':Value} {w':World} (hx:a.eval x=v) (hy:a.eval y=s)
 (hrun:(Builtin.delete_ #[T1,T2] ty #[v,s]).run P w=.ok v' w') (h:wpList P ops Q rest (a.put o.dst v') w'):wpList P ops Q (o::rest) a w:=
 wpList_plain hgd λ_ hK=>by
  subst hty;unfold Oper.wp execOp;simp only [ho,resolve,invoke,builtin,Sem.run_bind,Sem.run_pure,Result.andThen_ok,List.map_toArray,List.map_cons,List.map_nil,hx,hy,hrun];exact hK _ _ h
theorem SMap.CF {w:World} {g:Nat} {f:ByteArray->Option Value} (h:SMap w g f) {p:Addr} {v:Value} (hc:w.cell? p=some v):¬p.block=g:=λe=>by
 obtain⟨es,clock,hb,_⟩:=h;unfold World.cell? at hc;rw [e,hb]at hc
 cases hc
theorem SMap.Pj {w:World} {g b off:Nat} {f:ByteArray->Option Value} {vs:List Value} (h:SMap w g f) (hr:Row w b off vs):¬b=g:=λe=>by
 obtain⟨es,clock,hb,_⟩:=h;obtain⟨c,t,fr,hq,_⟩:=hr.inv;rw [e,hb]at hq
 cases hq
def KN (f:ByteArray->Option Value) (l:List Str):ByteArray->Option Value:=λt=>if l.any (λu=>decide (u=t))=true then none else f t
theorem Tm (f:ByteArray->Option Value) (l:List Str) (x:Str):∀t,(λt=>if t=x then none else KN f l t) t=KN f (l++[x]) t:=by
 intro t;unfold KN;exact afH
theorem DT (nb pb cb g:Nat) (A:Option Addr) (n c:Nat) (l:List Str) (f:ByteArray->Option Value) (part:Str) (aQ:Int) (u:FrameMode) (N:Nat) (w:World)
 (h1:w.cell? ⟨nb,0,none⟩=some (.slice A n c)) (h2:w.cell? ⟨pb,0,none⟩=some (.pointer (some ⟨cb,0,none⟩))) (hb:aH w cb 145 #[.map (some g),.string part,.int .i64 aQ]) (hM:SMap w g f) (hS:eO w N A n l):
 CallsD prog 175 #[.pointer (some ⟨nb,0,none⟩),.pointer (some ⟨pb,0,none⟩)] u w λe u' w'=>u'=u/\(e=.returned (.tuple #[])/\SMap w' g (KN f l)/\Kept (·=g) w w'):=by
 obtain⟨hn,hm,b,off,hA,hE⟩:=hS;have HN:=J hn;have HA:=J hA;have HE:=J hE;have HM:=J hM;have n1:=J (hM.CF h1);have n2:=J (hM.CF h2);have hcb:=bC hb;have n3:=J (hM.CF (p:=⟨cb,0,none⟩) (hcb 0));have l1:=J (Nat.lt_of_not_le (λh=>by unfold World.cell? at h1;rw [Array.getElem?_eq_none h]at h1;cases h1):nb<w.heap.size);have l2:=J (Nat.lt_of_not_le (λh=>by unfold World.cell? at h2;rw [Array.getElem?_eq_none h]at h2;cases h2):pb<w.heap.size);have HB:=J hb;have H2:=J h2;clear hn hA hE hM hcb hb
 go_enter_d func175,ntmps175
 go_wp2_with fail
 go_loopw [6] (λt6 wr=>∃(j:Nat),j<=n/\t6=.int .i64 j/\SMap wr g (KN f (l.take j))/\Kept (·=g) w wr) (λt6 _=>n - (intOf t6).toNat)
 case atStart=>exact⟨0,Nat.zero_le _,rfl,HM.out.qx (λt=>by simp [KN]),kR _ _⟩
 case round=>
  obtain⟨j,hj,rfl,hS,hx⟩:=hrel;have HS:=J hS;have HX:=J hx;clear hS hx h2
  by_cases hlt:j<n
  ·have hjl:j<l.length:=by have:=HN.out;omega
   have jd:(j:Int)<n:=by omega
   obtain rfl:=HA.out aj;have ow:=(HE.out aj).2;have hrow:=ow.kept HX.out (HM.out.Pj ow);have hc:=EB hrow j hjl;have hbw:=hrow.lt;have c2:=(Kept.cell HX.out (p:=⟨pb,0,none⟩) l2.out n2.out).trans H2.out;have bk:=bK HB.out HX.out n3.out;have cb0:=bC bk;have lcb:=bk.lt;obtain⟨x,hxe⟩:∃x,x=l[j]:=⟨_,rfl⟩;rw [<-hxe]at hc;have jo:=J hxe;clear hrow ow hxe bk;obtain⟨w',hrun,hS',hk'⟩:=SMap.del (P:=prog) HS.out underlying143 underlying9 0 x;have HS':=J hS';have NP:=J hk';clear hS' hk';go_upto_region 3 with(fail);go_step
   iterate 5 refine qY ?_
   refine QK rfl (.tmp 13) (.tmp 14) _ _ rfl rfl rfl rfl hrun ?_;clear hrun;go_wp2_with fail;go_roundw
   case rel=>exact⟨j+1,hlt,by go_num,HS'.out.qx (λt=>by rw [List.take_add_one,List.getElem?_eq_getElem hjl,<-jo.out];exact Tm f (l.take j) x t),HX.out.trans NP.out⟩
   case measure=>simp only [intOf];omega
  ·obtain rfl:j=n:=by omega
   go_wp2_with fail;go_end0;have hS:=HS.out;rw [HN.out,List.take_length]at hS;exact⟨rfl,hS,HX.out⟩
open Go.RowKit So
def V6 (cb g:Nat) (κ:Kn) (part:Str) (aQ:Nat):Option oW->Ending->World->Prop
 |none,e,w=>e=.returned (.tuple #[])/\Ck w cb g κ part aQ
 |some f,e,w=>e=.panicked (U9 f)/\∃(m:ByteArray->Option Value) (k:Int),SMap w g m/\aH w cb 145 #[.map (some g),.string part,.int .i64 k]
abbrev SG (cb g:Nat):Nat->Prop:=λi=>i=g∨i=cb
abbrev BlC (cb g i:Nat) (w0:World) (N:Nat) (F:SF):Prop:=∀(κ:Kn) (aQ:Nat) (top:Bool) (A:Option Addr) (n c:Nat) (B:Option Addr) (bn bc:Nat) (ns:List Str) (w':World),Kept (SG cb g) w0 w'->Ck w' cb g κ (bZ i) aQ->aQ<=8->iO w0 N A n F->
 eO w' w'.heap.size B bn ns->(∀x,B=some x->¬x.block=cb)->(∀s∈ns,κ s=0)->
 Calls prog 162 #[.pointer (some ⟨cb,0,none⟩),.slice A n c,.bool top,.slice B bn bc] w' λe w2=>V6 cb g κ (bZ i) aQ (bV i (aU κ ns) aQ top F) e w2/\Kept (SG cb g) w' w2
theorem QH (κ:Kn) (s:Str):aU κ [s]=upd κ s 3:=by
 funext t
 unfold aU upd
 by_cases h:t=s
 ·subst h;simp
 ·have:¬s=t:=λe=>h e.symm
  simp [h,this]
theorem Ck.lt {w:World} {cb g:Nat} {κ:Kn} {part:Str} {aQ:Nat} (h:Ck w cb g κ part aQ):cb<w.heap.size:=h.blk.lt
theorem Ck.ne {w:World} {cb g:Nat} {κ:Kn} {part:Str} {aQ:Nat} (h:Ck w cb g κ part aQ):¬cb=g:=h.map.CF (p:=⟨cb,0,none⟩) (bC h.blk 0)
theorem qw (κ:Kn) (op n:Int) (s:Str) (k r:EF):lu κ (.cons op n s k r)=ay (ay (must (decide (jW (1+k.deep)<=12)) 25 E0) (DC κ op n s k)) (lu κ r):=rfl
theorem Ck.R8 {w:World} {cb g:Nat} {κ:Kn} {part:Str} {aQ:Nat} (h:Ck w cb g κ part aQ) (m:Nat):Ck (w.setCell ⟨cb,2,none⟩ (.int .i64 m)) cb g κ part m:=
 ⟨aH.gW h.blk 2 (.int .i64 m),h.map.kept (S:=(·=cb)) (Kept.setCell (kR _ w) ⟨cb,2,none⟩ _ (λ_=>rfl)) (λe=>h.ne e.symm)⟩
theorem RN {κ:Kn} {s:Str} {low high:Int} {aQ:Nat} (h:loop κ s low high aQ=none):isName s=true/\κ s=0/\aQ<8:=by
 unfold loop must at h
 cases h1:isName s<;>cases h2:(κ s==0)<;>cases h3:(word low&&word high&&decide (high - low<=63))<;>simp [h1,h2,h3,ay]at h⊢
 ·simp at h2
  exact⟨h2,h⟩
theorem Ms (cb g i:Nat) (hi:i<5) (w0:World) (N:Nat) (FK:4<N) (K_:N<=g) (hNc:N<=cb) (hN0:N<=w0.heap.size) (κ:Kn) (aQ:Nat) (VX:aQ<=8) (kind:Int) (name:Str) (es:EF) (low high:Int) (l x:SF) (eA:Option Addr) (en ec:Nat) (lA:Option Addr) (ln lc:Nat) (xA:Option Addr) (xn xc:Nat) (last:Bool)
 (hsz:name.size<=maxLen) (he:g_ w0 N eA en es) (hl:iO w0 N lA ln l) (Az:iO w0 N xA xn x) (hBl:BlC cb g i w0 N l) (hBx:BlC cb g i w0 N x) (w:World) (hw:Kept (SG cb g) w0 w) (hC:Ck w cb g κ (bZ i) aQ) (hL:fG w):
 Calls prog 176 #[.pointer (some ⟨cb,0,none⟩),.agg (aB kind name eA en ec low high lA ln lc xA xn xc),.bool last] w λe w2=>V6 cb g κ (bZ i) aQ (nu i κ aQ last kind name es low high l x) e w2/\Kept (SG cb g) w w2:=by
 have NU:=J (show∀j,SG cb g j->N<=j from λj h=>by rcases h with h|h<;>omega);obtain⟨X,hX⟩:∃X,X=nu i κ aQ last kind name es low high l x:=⟨_,rfl⟩;rw [<-hX];have hel:=he.1;have eU:Hid (X=ay (must (jq kind 0 9&&en==stmtParts kind) 3 E0) (ay (must (stands kind i last) 10 (bZ i)) (ay (named κ kind name low high aQ) (ay (lu κ es) (if kind=2 then ay (bV i κ aQ false l) (bV i κ aQ false x)else if kind=3 then bV i (upd κ name 3) (aQ+1) false l else none))))):=J (by rw [hX,hel];rfl);clear hX;have hx1:=(kR (λ_=>False) w).alloc (.cells (aB kind name eA en ec low high lA ln lc xA xn xc) 151);have hE1:=bN w 151 (aB kind name eA en ec low high lA ln lc xA xn xc);have dR:=J (Nat.le_trans (Nat.le_trans hN0 hw.size) hx1.size);obtain⟨hn,hf,b,off,hA,hE⟩:=(he.kept hw hN0 NU.out).ext hx1 (Nat.le_trans hN0 hw.size);refine Ab ?_;intro hm HN HA HE;have HSL:=J hl;have HSX:=J Az;have HBL:=J hBl;have HBX:=J hBx;have xJ:=J hsz;have Fv:=J VX;have ZN:=J (And.intro FK (And.intro K_ hNc));clear hn hA hE hf he hl Az hBl hBx hel hsz VX FK K_ hNc;go_enter func176,ntmps176;go_upto_region 1 with(fail);generalize hW:(w.alloc (.cells (aB kind name eA en ec low high lA ln lc xA xn xc) 151))=W at hx1 hE1 HE dR⊢
 have nD:=J (show¬SG cb g w.heap.size from by
  rintro(h|h)
  ·have:=hC.map.lt;omega
  ·have:=hC.lt;omega)
 generalize w.heap.size=eb at hE1 nD⊢;clear hW;have hE0:=J hE1;have HX0:=J hx1;have vJ:=J (hC.ext hx1);have pI:=J (hL.ext hx1);refine ET ?_;intro bU;have HWW:=J hw;clear hE1 hx1 hC hL hw
 cases hb1:jq kind 0 9
 ·have HR:=J (show X=some ⟨3,E0⟩by rw [eU.out,hb1];rfl)
  refine abU ?_;refine yT ?_;refine QZ ?_;intro K hK;rintro e w1 ⟨rfl,rfl⟩;rw [hb1];refine hK.out _ _ (λ_=>bU.out) ?_;clear hK K;refine yT ?_;exact ajp
 ·obtain⟨k,rfl⟩:∃k:Nat,kind=k:=⟨kind.toNat,by simp [jq]at hb1;omega⟩
  have hk10:k<10:=by simp [jq]at hb1;omega
  have XB:(k:Int)<10:=by omega
  have HT:=J (pI.out.sm k hk10);have Bq:=J hb1;refine abU ?_
  (repeat first|refine cu ?_|refine dL bU.out aeU ?_|refine dK bU.out ?_)
  refine QZ ?_;intro K hK;rintro e w1 ⟨rfl,rfl⟩;rw [hb1];refine hK.out _ _ (λ_=>bU.out) ?_;clear hK K
  cases hb2:((en:Int)==(stmtParts k:Int))
  ·have HR:=J (show X=some ⟨3,E0⟩by rw [eU.out,Bq.out,<-pz,hb2];rfl)
   (repeat first|refine cu ?_|refine dL bU.out aeU ?_|refine dK bU.out ?_)
   exact ajp
  ·have iZ:=J (show X=ay (must (stands k i last) 10 (bZ i)) (ay (named κ k name low high aQ) (ay (lu κ es) (if (k:Int)=2 then ay (bV i κ aQ false l) (bV i κ aQ false x)else if (k:Int)=3 then bV i (upd κ name 3) (aQ+1) false l else none)))by rw [eU.out,Bq.out,<-pz,hb2];rfl)
   (repeat first|refine cu ?_|refine dL bU.out aeU ?_|refine dK bU.out ?_)
   (refine eu bT bT (λK hK=>?_);go_simp)
   refine(bq true _ _ _).mono ?_;rintro e w1 ⟨he,rfl⟩;have he:=dN.none he;subst he;refine hK.out _ _ ?_;clear hK K;refine gI ?_;go_upto_region 2 with(fail);clear hb1 hb2;generalize hW1:W.drew=W1 at bU⊢;clear hW1;have dX:=bU;refine gM (λw1=>Ext W1 w1) [(0,2),(1,2),(2,1),(3,2),(5,2),(6,2),(7,2),(8,1),(4,0),(9,0)] ?_;refine gN ?_;have HZ0:=J (show Ext W1 W1.drew from(kR _ W1).drew)
   (repeat first|refine cu ?_|refine dL HZ0.out zb6 ?_|refine dK HZ0.out ?_)
   (refine aC (λK hK=>?_);go_simp)
   refine(P8 cb g κ i aQ hi k last _ (vJ.out.ext (dX.out.trans HZ0.out))).mono ?_;rintro e w1 ⟨rfl,rfl⟩;refine hK.out _ _ (λ_=>HZ0.out) ?_;clear hK K
   (repeat first|refine cu ?_|refine dL HZ0.out zb6 ?_|refine dK HZ0.out ?_)
   cases hst:stands k i last
   ·have HR:=J (show X=some ⟨10,bZ i⟩by rw [iZ.out,hst];rfl)
    (refine eu bT bT (λK hK=>?_);go_simp)
    refine(bq false _ _ _).mono ?_;rintro e w1 ⟨he,rfl⟩;have he:e=.panicked (U9 ⟨10,bZ i⟩):=he;subst he;have kK:=J (vJ.out.ext (dX.out.trans HZ0.out));have jo:=J (Kept.ext (S:=SG cb g) (HX0.out.trans (dX.out.trans HZ0.out)));exact Nl
   ·have fZ:=J (show X=ay (named κ k name low high aQ) (ay (lu κ es) (if (k:Int)=2 then ay (bV i κ aQ false l) (bV i κ aQ false x)else if (k:Int)=3 then bV i (upd κ name 3) (aQ+1) false l else none))by rw [iZ.out,hst];rfl)
    clear hst
    (refine eu bT bT (λK hK=>?_);go_simp)
    refine(bq true _ _ _).mono ?_;rintro e w1 ⟨he,rfl⟩;have he:=dN.none he;subst he;refine hK.out _ _ ?_;clear hK K;refine gI ?_;have ys:=dX.out.trans HZ0.out;clear hk10 XB HT Bq iZ eU;have Av:=bC (bX hE0.out ys)
    by_cases hk0:k=0
    ·have q0:((k:Int)==0)=true:=by simp;omega
     refine afp ?_;intro fZ;have q2:((k:Int)==2)=false:=by simp;omega
     have q3:((k:Int)==3)=false:=by simp;omega
     have hkk:=J (show(k:Int)=0∨(k:Int)=1∨(k:Int)=5 by omega);clear hk0;exact zz5
    ·have q0:((k:Int)==0)=false:=by simp;omega
     by_cases hk5:k=5
     ·have q5:((k:Int)==5)=true:=by simp;omega
      refine afp ?_;intro fZ;have q2:((k:Int)==2)=false:=by simp;omega
      have q3:((k:Int)==3)=false:=by simp;omega
      have hkk:=J (show(k:Int)=0∨(k:Int)=1∨(k:Int)=5 by omega);clear hk0 hk5;exact zz5
     ·have q5:((k:Int)==5)=false:=by simp;omega
      by_cases hk1:k=1
      ·have q1:((k:Int)==1)=true:=by simp;omega
       refine afp ?_;intro fZ;have q2:((k:Int)==2)=false:=by simp;omega
       have q3:((k:Int)==3)=false:=by simp;omega
       have hkk:=J (show(k:Int)=0∨(k:Int)=1∨(k:Int)=5 by omega);clear hk0 hk5 hk1;exact zz5
      ·have q1:((k:Int)==1)=false:=by simp;omega
       by_cases hk3:k=3
       ·have q3:((k:Int)==3)=true:=by simp;omega
        have q2:((k:Int)==2)=false:=by simp;omega
        have fZ:=J (show X=ay (loop κ name low high aQ) (ay (lu κ es) (bV i (upd κ name 3) (aQ+1) false l))by
         have hn:named κ k name low high aQ=loop κ name low high aQ:=by unfold named;rw [if_neg aj,if_pos aj]
         have h:=fZ.out;rw [hn,if_neg aj,if_pos aj]at h;exact h)
        clear hk0 hk5 hk1 hk3;have hgE:=bG (bX hE0.out ys);have hhE:=bH (bX hE0.out ys);have DV:=(bX hE0.out ys).lt;go_wp2_with fail;obtain⟨t,ht⟩:∃t,t=loop κ name low high aQ:=⟨_,rfl⟩;have HK:=J (XY cb g κ (bZ i) aQ k name eA en ec low high lA ln lc xA xn xc xJ.out _ (vJ.out.ext ys) (pI.out.ext ys));rw [<-ht]at HK fZ;have HLT:=J (show t=none->_ from λh=>RN (ht.symm.trans h));clear ht hgE hhE DV;refine HK.out.mono ?_;rintro e w2 ⟨he,hx2⟩
        cases t with
        |some f=>
         exact ada
        |none=>
         have he:=dN.none he;subst he;have HLT:=J (HLT.out rfl);have nE:=J (show X=ay (lu κ es) (bV i (upd κ name 3) (aQ+1) false l)from fZ.out);have ys:=ys.trans hx2;clear hx2 HK;have HYS:=J ys;have Av:=bC (bX hE0.out ys);have DV:=(bX hE0.out ys).lt;obtain⟨Z,hZ⟩:∃Z,Z=lu κ es:=⟨_,rfl⟩;rw [<-hZ]at nE;have HZ:=J hZ.symm;clear hZ ys;go_wp2_with fail
         go_loopw [49] (λt49 wr=>∃(j:Nat) (R:EF),j+R.len=en/\lu κ R=Z/\t49=.int .i64 j/\mK W N R b (off+j*4)/\Ext W wr) (λt49 _=>en - (intOf t49).toNat)
         case atStart=>exact⟨0,es,by rw [HN.out,Nat.zero_add],HZ.out,rfl,by simpa using HE.out,HYS.out⟩
         case round=>
          obtain⟨j,R,hj,hacc,rfl,hR,hx⟩:=hrel;have HRR:=J hR;have HX:=J hx;have dw:=J hacc;have Av:=bC (bX hE0.out hx);have DV:=(bX hE0.out hx).lt;clear hR hx hacc
          cases R with
          |nil=>
           simp only [EF.len,Nat.add_zero]at hj;subst hj;have hz0:Z=none:=by rw [<-dw.out];rfl
           rw [hz0]at nE;have Fy:=J (show X=bV i (upd κ name 3) (aQ+1) false l from nE.out);clear hz0 nE;have Fu:=J (vJ.out.ext HX.out);have hcC:=bC Fu.out.blk;have hzC:=aH.frozen Fu.out.blk;have hlC:=Fu.out.lt;have VX:=Fv.out;go_upto_region 22 with(fail);have Ns:=J (show Ck (wr.setCell ⟨cb,2,none⟩ (.int .i64 ((aQ:Int)+1))) cb g κ (bZ i) (aQ+1)from Fu.out.R8 (aQ+1));have Bw:=J (show Kept (SG cb g) w (wr.setCell ⟨cb,2,none⟩ (.int .i64 ((aQ:Int)+1)))from(Kept.ext (HX0.out.trans HX.out)).setCell ⟨cb,2,none⟩ _ (λ_=>Or.inr rfl));have VI:=J (show aH (wr.setCell ⟨cb,2,none⟩ (.int .i64 ((aQ:Int)+1))) eb _ _ from(bX hE0.out HX.out).far (p:=⟨cb,2,none⟩) (λe=>nD.out (Or.inr e)) _);generalize (wr.setCell ⟨cb,2,none⟩ (.int .i64 ((aQ:Int)+1)))=wq at Ns Bw VI⊢;clear hcC hzC hlC Av DV Fu HX VX;have he2:=bC VI.out;have hl2:=VI.out.lt;go_wp2_with fail;obtain⟨hl3,hl4,hl5⟩:=HLT.out trivial;have Gr:=(kR (λ_=>False) wq).alloc (.cells #[.string name] 9);have hE9:=bN wq 9 #[.string name];have hqc:=Ns.out.lt;have hb:=HBL.out κ (aQ+1) false lA ln lc (some ⟨wq.heap.size,0,none⟩) 1 1 [name] _ (HWW.out.trans (Bw.out.trans (Kept.ext Gr))) (Ns.out.ext Gr) aj HSL.out ⟨rfl,by omega,wq.heap.size,0,λ_=>rfl,λ_=>⟨hE9.lt,by simpa using Row.eZ hE9⟩⟩ (λx h=>by cases h;show¬wq.heap.size=cb;omega) (by intro s hs;rw [List.mem_singleton.1 hs];exact hl4);rw [QH,<-Fy.out]at hb;refine hb.mono ?_;rintro e w2 ⟨hb2,hk2⟩;have eU:=J (Bw.out.trans ((Kept.ext Gr).trans hk2))
           cases X with
           |some f=>
            obtain⟨he,hm⟩:=hb2;subst he;show _/\_;exact⟨rfl,⟨rfl,hm⟩,eU.out⟩
           |none=>
            obtain⟨he,hc2⟩:=hb2;subst he;have NK:=J hc2;have hcC:=bC hc2.blk;have hzC:=aH.frozen hc2.blk;have hlC:=hc2.lt;clear hc2 hb hk2 Gr hE9 hqc he2 hl2;have VX:=Fv.out;go_wp2_with fail;go_end0;exact⟨⟨rfl,NK.out.R8 aQ⟩,eU.out.setCell ⟨cb,2,none⟩ _ (λ_=>Or.inr rfl)⟩
          |cons op' m' name' q rr=>
           exact zz8
       ·have q3:((k:Int)==3)=false:=by simp;omega
        by_cases hk2:k=2
        ·have q2:((k:Int)==2)=true:=by simp;omega
         have nE:=J (show X=ay (lu κ es) (ay (bV i κ aQ false l) (bV i κ aQ false x))by
          have hn:named κ k name low high aQ=none:=by unfold named;rw [if_neg aj,if_neg aj]
          have h:=fZ.out;rw [hn,if_pos aj]at h;exact h)
         clear fZ hk0 hk5 hk1 hk3 hk2;have HYS:=J ys;have Av:=bC (bX hE0.out ys);have DV:=(bX hE0.out ys).lt;obtain⟨Z,hZ⟩:∃Z,Z=lu κ es:=⟨_,rfl⟩;rw [<-hZ]at nE;have HZ:=J hZ.symm;clear hZ ys;go_wp2_with fail
         go_loopw [49] (λt49 wr=>∃(j:Nat) (R:EF),j+R.len=en/\lu κ R=Z/\t49=.int .i64 j/\mK W N R b (off+j*4)/\Ext W wr) (λt49 _=>en - (intOf t49).toNat)
         case atStart=>exact⟨0,es,by rw [HN.out,Nat.zero_add],HZ.out,rfl,by simpa using HE.out,HYS.out⟩
         case round=>
          obtain⟨j,R,hj,hacc,rfl,hR,hx⟩:=hrel;have HRR:=J hR;have HX:=J hx;have dw:=J hacc;have Av:=bC (bX hE0.out hx);have DV:=(bX hE0.out hx).lt;clear hR hx hacc
          cases R with
          |nil=>
           simp only [EF.len,Nat.add_zero]at hj;subst hj;have hz0:Z=none:=by rw [<-dw.out];rfl
           rw [hz0]at nE;have Fy:=J (show X=ay (bV i κ aQ false l) (bV i κ aQ false x)from nE.out);clear hz0 nE;have Bw:=J (Kept.ext (S:=SG cb g) (HX0.out.trans HX.out));have Fu:=J (vJ.out.ext HX.out);have adw:=J (bX hE0.out HX.out);go_wp2_with fail;have hb:=HBL.out κ aQ false lA ln lc none 0 0 [] wr (HWW.out.trans Bw.out) Fu.out Fv.out HSL.out ⟨rfl,by omega,0,0,λh=>absurd h aj,λh=>absurd h aj⟩ (by nofun) aG;rw [oI]at hb;obtain⟨v,hv⟩:∃v,v=bV i κ aQ false l:=⟨_,rfl⟩;rw [<-hv]at hb Fy;clear hv;refine hb.mono ?_;rintro e w2 ⟨hb2,hk2⟩
           cases v with
           |some f=>
            obtain⟨he,hm⟩:=hb2;subst he;show _/\_;refine⟨rfl,?_,Bw.out.trans hk2⟩;rw [show X=some f from Fy.out];exact⟨rfl,hm⟩
           |none=>
            obtain⟨he,hc2⟩:=hb2;subst he;have Fy:=J (show X=bV i κ aQ false x from Fy.out);have Bw:=J (Bw.out.trans hk2);have NK:=J hc2;have he2:=bC (bK adw.out hk2 nD.out);have hl2:=(bK adw.out hk2 nD.out).lt;clear hk2 hc2 hb adw Fu Av DV;go_wp2_with fail;have hb:=HBX.out κ aQ false xA xn xc none 0 0 [] w2 (HWW.out.trans Bw.out) NK.out Fv.out HSX.out ⟨rfl,by omega,0,0,λh=>absurd h aj,λh=>absurd h aj⟩ (by nofun) aG;rw [oI]at hb;rw [<-Fy.out]at hb;clear Fy;refine hb.mono ?_;rintro e w3 ⟨hb3,hk3⟩
            cases X with
            |some f=>
             obtain⟨he,hm⟩:=hb3;subst he;show _/\_;exact⟨rfl,⟨rfl,hm⟩,Bw.out.trans hk3⟩
            |none=>
             obtain⟨he,hc3⟩:=hb3;subst he;go_wp2_with fail;go_end0;exact⟨⟨rfl,hc3⟩,Bw.out.trans hk3⟩
          |cons op' m' name' q rr=>
           exact zz8
        ·have q2:((k:Int)==2)=false:=by simp;omega
         have nE:=J (show X=ay (lu κ es) none by
          have hn:named κ k name low high aQ=none:=by unfold named;rw [if_neg aj,if_neg aj]
          have h:=fZ.out;rw [hn,if_neg aj,if_neg aj]at h;exact h)
         clear fZ hk0 hk5 hk1 hk3 hk2;exact adi
open Go.RowKit So
def Oc (f:ByteArray->Option Value) (l:List Str):ByteArray->Option Value:=λt=>if l.any (λu=>decide (u=t))=true then some (.int .i64 2)else f t
theorem SY (f:ByteArray->Option Value) (l:List Str) (x:Str):∀t,(λt=>if t=x then some (.int .i64 2)else Oc f l t) t=Oc f (l++[x]) t:=by
 intro t;unfold Oc;exact afH
theorem aal (κ:Kn) (l:List Str):∀t,Oc (IB κ) l t=IB (aU κ l) t:=by
 intro t;unfold Oc IB aU
 cases h:l.any (λu=>decide (u=t))
 ·simp
 ·simp
theorem aaq (κ:Kn) (l:List Str) (h0:∀s∈l,κ s=0):∀t,KN (IB (aU κ l)) l t=IB κ t:=by
 intro t;unfold KN IB aU
 cases h:l.any (λu=>decide (u=t))
 ·simp
 ·obtain⟨u,hu,hut⟩:=List.any_eq_true.1 h
  have:κ t=0:=of_decide_eq_true hut▸h0 u hu;simp [this]
theorem Tc (cb g i:Nat) (hi:i<5) (w0:World) (N:Nat) (FK:4<N) (K_:N<=g) (hNc:N<=cb) (hN0:N<=w0.heap.size) (hL:fG w0) (F:SF):BlC cb g i w0 N F:=by
 have NU:=J (show∀j,SG cb g j->N<=j from λj h=>by rcases h with h|h<;>omega);refine sj (C:=BlC cb g i w0 N) ?_ F;clear F;intro F IH κ aQ top A n c B bn bc ns w hw hC VX hsl hns agx hk0;obtain⟨hn,hf,b,off,hA,hE⟩:=hsl;have hm:=hf.max aj;obtain⟨hbn,Au,bb,bo,hB,hR⟩:=hns;have HN:=J hn;have HA:=J hA;have HE:=J hE;have HI:=J IH;have Bq:=J hbn;have HB:=J hB;have HR:=J hR;have HBC:=J agx;have Nu:=J hk0;have HW:=J hw;have HC:=J hC;have Fv:=J VX;have HL:=J hL;have ZN:=J (And.intro FK (And.intro K_ hNc));clear hn hA hE IH hf hbn hB hR agx hk0 hw hC VX hL FK K_ hNc;obtain⟨Np,hk'⟩:∃Np,Np=aU κ ns:=⟨_,rfl⟩;obtain⟨Z,hZ⟩:∃Z,Z=bV i Np aQ top F:=⟨_,rfl⟩;rw [<-hk',<-hZ];have j_:=J hk';have HZ:=J hZ.symm;clear hk' hZ;refine abX ?_;intro oN
 go_enter_defers func162,ntmps162
 go_upto_region 1 with(fail);obtain⟨p4,uY⟩:∃p4,p4=w.heap.size:=⟨_,rfl⟩;obtain⟨W,hW⟩:∃W,W=(w.alloc (.cells #[.pointer (some ⟨cb,0,none⟩)] 142)).alloc (.cells #[.slice B bn bc] 118):=⟨_,rfl⟩;have hx0:Ext w W:=by rw [hW];exact((kR _ w).alloc _).alloc _
 have h4:aH W p4 142 #[.pointer (some ⟨cb,0,none⟩)]:=by rw [hW,uY];exact(bN w _ _).alloc _
 have h7:aH W (p4+1) 118 #[.slice B bn bc]:=by
  rw [hW,uY];exact aH.new' _ _ _ _ aG
 rw [<-hW,<-uY];have XG:(w.alloc (.cells #[.pointer (some ⟨cb,0,none⟩)] 142)).heap.size=p4+1:=by rw [uY];simp
 have C9:=J (show w.heap.size<=p4 from by omega)
 have NE4:¬SG cb g p4/\¬SG cb g (p4+1):=by
  have h1:=HC.out.map.lt;have h2:=HC.out.lt
  constructor<;>(rintro(h|h)<;>omega)
 clear hW uY
 try rw [XG]
 clear XG;have HX0:=J hx0;have H4:=J h4;have H7:=J h7;have nD:=J NE4;have h7c:=bC h7;clear hx0 h4 h7 NE4;go_wp2_with fail
 go_loopw [14] (λt14 wr=>∃(j:Nat),j<=bn/\t14=.int .i64 j/\SMap wr g (Oc (IB κ) (ns.take j))/\Kept (·=g) W wr) (λt14 _=>bn - (intOf t14).toNat)
 case atStart=>exact⟨0,Nat.zero_le _,rfl,(HC.out.map.ext HX0.out).qx (λt=>by simp [Oc]),kR _ _⟩
 case round=>
  obtain⟨j,hj,rfl,hS,hx⟩:=hrel;have HS:=J hS;have HX:=J hx;have agG:=bK (bX HC.out.blk HX0.out) hx HC.out.ne;have H4B:=J (bK H4.out hx (λe=>nD.out.1 (Or.inl e)));have H7B:=J (bK H7.out hx (λe=>nD.out.2 (Or.inl e)));have Hq:=J agG;clear hS hx agG h7c;have c4:=bC H4B.out;have cb0:=bC Hq.out;have lcb:=Hq.out.lt
  by_cases hlt:j<bn
  ·have hjl:j<ns.length:=by have:=Bq.out;omega
   have jd:(j:Int)<bn:=by omega
   obtain rfl:=HB.out aj;have ow:=(HR.out aj).2;have hrow:=(ow.kept HX0.out (λf=>f)).kept HX.out (HC.out.map.Pj ow);have hc:=EB hrow j hjl;have hbw:=hrow.lt;obtain⟨x,hxe⟩:∃x,x=ns[j]:=⟨_,rfl⟩;rw [<-hxe]at hc;have jo:=J hxe;clear hrow ow hxe;obtain⟨w',hrun,hS',hk'⟩:=SMap.put (P:=prog) HS.out underlying143 underlying9 x (.int .i64 2);have HS':=J hS';have NP:=J hk';clear hS' hk';go_wp2_with fail;exact⟨⟨j+1,hlt,by go_num,HS'.out.qx (λt=>by rw [List.take_add_one,List.getElem?_eq_getElem hjl,<-jo.out];exact SY (IB κ) (ns.take j) x t),HX.out.trans NP.out⟩,by simp only [intOf];omega⟩
  ·obtain rfl:j=bn:=by omega
   have HSL:=J (show∀w',Kept (SG cb g) wr w'->eO w' p4 B j ns from λw' hk=>⟨Bq.out,Au,bb,bo,HB.out,λh=>by
    have hr:=HR.out h;have hg:=HC.out.map.Pj hr.2;have hc:=HBC.out _ (HB.out h);refine⟨by have:=C9.out;omega,(((hr.2.kept HX0.out (λf=>f)).kept HX.out hg).kept hk ?_)⟩;rintro(e|e)
    ·exact hg e
    ·exact hc e⟩)
   have gD:=J (show Ck wr cb g (aU κ ns) (bZ i) aQ from⟨Hq.out,HS.out.qx (λt=>by rw [Bq.out,List.take_length];exact aal κ ns t)⟩);have HWR:=J (show Kept (SG cb g) w wr from(Kept.ext HX0.out).trans (HX.out.mono (λ_ _ h=>Or.inl h)));rw [<-j_.out]at gD;have sP:=J HC.out;clear HS HX Hq c4 cb0 lcb HB HR HX0 H4 H7 HC;have HWQ:=J (HW.out.trans HWR.out);have HLR:=J (HL.out.kept HWQ.out (λk hk h=>by have:=NU.out k h;have:=ZN.out.1;omega));have J8:=J (Nat.le_trans hN0 HWQ.out.size);go_wp2_with fail
   go_loopw [27] (λt27 wq=>∃(m:Nat) (R:SF),m+R.len=n/\bV i Np aQ top R=Z/\t27=.int .i64 m/\nk w0 N R b (off+m*7)/\SF.All (BlC cb g i w0 N) R/\Ck wq cb g Np (bZ i) aQ/\Kept (SG cb g) wr wq) (λt27 _=>n - (intOf t27).toNat)
   case atStart=>exact⟨0,F,by rw [HN.out,Nat.zero_add],HZ.out,rfl,by simpa using HE.out,HI.out,gD.out,kR _ _⟩
   case round=>
    obtain⟨m,R,hm',hacc,rfl,hR,hall,hck,hx⟩:=hrel;have HRR:=J hR;have HX:=J hx;have dw:=J hacc;have iL:=J hall;have Ns:=J hck;clear hR hx hacc hall hck
    cases R with
    |nil=>
     simp only [SF.len,Nat.add_zero]at hm';subst hm';have hz0:Z=none:=by rw [<-dw.out];rfl
     subst hz0;go_wp2_with fail;have hk4:=bC (bK H4B.out HX.out nD.out.1) 0;have ou:=bC (bK H7B.out HX.out nD.out.2) 0;refine leaves_cons (f:=175) (args:=#[.pointer (some ⟨p4+1,0,none⟩),.pointer (some ⟨p4,0,none⟩)]) aG (by simp [go_sem]) ?_;refine(DT (p4+1) p4 cb g B j bc ns (IB Np) (bZ i) aQ .returning p4 _ ou hk4 Ns.out.blk Ns.out.map (HSL.out _ HX.out)).mono ?_;rintro e u' w2 ⟨rfl,rfl,hM2,hk2⟩;refine⟨_,results_none rfl _ _ _,⟨rfl,bK Ns.out.blk hk2 sP.out.ne,hM2.qx λt=>?_⟩,HWR.out.trans (HX.out.trans (hk2.mono λ_ _ h=>Or.inl h))⟩;rw [j_.out];exact aaq κ ns Nu.out t
    |cons kind name es low high l x r=>
     obtain⟨hb,h1,h2,h3,h4,⟨eA,ec,lA,lc,xA,xc,be,oe,bl,ol,bx,ox,hh,hg,n1,n2,n3,a1,a2,a3,he,hl,Az⟩,hr⟩:=HRR.out;simp only [SF.len]at hm';have hlt:(m:Int)<n:=by omega
     obtain rfl:=HA.out aj;have hw0:Kept (SG cb g) w0 _:=HWQ.out.trans HX.out;have hnb:¬SG cb g b:=λh=>by have:=NU.out b h;omega
     have hh':=(jS hw0 aj hnb).trans hh;have hg':=(iR hw0 aj hnb).trans hg;have hbw:b<wr.heap.size:=by have:=hw0.size;omega
     have KE:=J (show g_ w0 N eA es.len es from⟨rfl,n1,be,oe,a1,he⟩);refine Vs ?_;intro KL KX;have HR2:=J hr;have sH:=J iL.out;have xJ:=J h4;have c4:=bC (bK H4B.out HX.out nD.out.1);have l4:=(bK H4B.out HX.out nD.out.1).lt;have HW0:=J hw0;clear hh hg n1 n2 n3 a1 a2 a3 he hl Az hb h1 h2 h3 h4 hr HRR hw0 hnb;have y0:=(kR (λ_=>False) wr).alloc (.cells (aB kind name eA es.len ec low high lA l.len lc xA x.len xc) 151);have bU:=J y0;clear y0
     cases top
     ·have dw:=J (show ay (nu i Np aQ false kind name es low high l x) (bV i Np aQ false r)=Z from dw.out▸(jT i Np aQ false kind name es low high l x r).symm)
      go_wp2_with fail;have HK:=J (Ms cb g i hi w0 N ZN.out.1 ZN.out.2.1 ZN.out.2.2 hN0 Np aQ Fv.out kind name es low high l x eA es.len ec lA l.len lc xA x.len xc false xJ.out KE.out KL.out KX.out sH.out.1 sH.out.2.1 _ (HW0.out.trans (Kept.ext bU.out)) (Ns.out.ext bU.out) (HL.out.kept (HW0.out.trans (Kept.ext bU.out)) (λk hk h=>by have:=NU.out k h;have:=ZN.out.1;omega)));obtain⟨v,hv⟩:∃v,v=nu i Np aQ false kind name es low high l x:=⟨_,rfl⟩;rw [<-hv]at HK dw;clear hv;exact aiT
     ·have hls:((m:Int)==(n:Int) - 1)=r.isNil:=by
       cases r with
       |nil=>simp only [SF.len]at hm';simp [SF.isNil];omega
       |cons=>simp only [SF.len]at hm';simp [SF.isNil];omega
      obtain⟨la,hla⟩:∃la,la=r.isNil:=⟨_,rfl⟩;have dw:=J (show ay (nu i Np aQ la kind name es low high l x) (bV i Np aQ true r)=Z from by rw [hla];exact dw.out▸(jT i Np aQ true kind name es low high l x r).symm);rw [<-hla]at hls;have HLS:=J hls;clear hla hls;go_wp2_with fail;rw [HLS.out];have HK:=J (Ms cb g i hi w0 N ZN.out.1 ZN.out.2.1 ZN.out.2.2 hN0 Np aQ Fv.out kind name es low high l x eA es.len ec lA l.len lc xA x.len xc la xJ.out KE.out KL.out KX.out sH.out.1 sH.out.2.1 _ (HW0.out.trans (Kept.ext bU.out)) (Ns.out.ext bU.out) (HL.out.kept (HW0.out.trans (Kept.ext bU.out)) (λk hk h=>by have:=NU.out k h;have:=ZN.out.1;omega)));obtain⟨v,hv⟩:∃v,v=nu i Np aQ la kind name es low high l x:=⟨_,rfl⟩;rw [<-hv]at HK dw;clear hv HLS;exact aiT
open Go.RowKit So
abbrev ads (w0:World) (F:SF):Prop:=∀(A:Option Addr) (n c N:Nat) (w:World),Ext w0 w->N<=w0.heap.size->iO w0 N A n F->Calls prog 79 #[.slice A n c] w λe w'=>e=.returned (.bool (ends F))/\Ext w w'
theorem UW (w0:World) (F:SF):ads w0 F:=by
 refine sj (C:=ads w0) ?_ F;clear F;intro F IH A n c N w hx0 hN h;obtain⟨Z,hZ⟩:∃Z,Z=ends F:=⟨_,rfl⟩;rw [<-hZ];have HZ:=J hZ.symm;clear hZ;refine Bp ?_;clear h IH;intro b off hm HN HA HE HI;go_enter func79,ntmps79;go_wp2_with fail
 go_loopw [7] (λt7 wr=>∃(j:Nat) (R:SF),j+R.len=n/\ends R=Z/\t7=.int .i64 j/\nk w0 N R b (off+j*7)/\SF.All (ads w0) R/\Ext w wr) (λt7 _=>n - (intOf t7).toNat)
 case atStart=>exact⟨0,F,by rw [HN.out,Nat.zero_add],HZ.out,rfl,by simpa using HE.out,HI.out,kR _ _⟩
 case round=>
  obtain⟨j,R,hj,hacc,rfl,hR,hI,hx⟩:=hrel;have HR:=J hR;have HI2:=J hI;have HX:=J hx;have dw:=J hacc;clear hR hI hx hacc
  cases R with
  |nil=>
   simp only [SF.len,Nat.add_zero]at hj;subst hj;go_wp2_with fail;go_ret;exact⟨by rw [<-dw.out];rfl,HX.out⟩
  |cons kind name es low high l x r=>
   obtain⟨hb,h1,h2,h3,h4,⟨eA,ec,lA,lc,xA,xc,be,oe,bl,ol,bx,ox,hh,hg,n1,n2,n3,a1,a2,a3,he,hl,Az⟩,hr⟩:=HR.out;simp only [SF.len]at hj;have hlt:(j:Int)<n:=by omega
   obtain rfl:=HA.out aj;have jN:=hx0.trans HX.out;refine FY ?_;intro hbl hh' hg' hbw;refine Vs ?_;intro KL KX;have HR2:=J hr;have y0:=(kR (λ_=>False) wr).alloc (.cells (aB kind name eA es.len ec low high lA l.len lc xA x.len xc) 151);have HB:=J (bN wr 151 (aB kind name eA es.len ec low high lA l.len lc xA x.len xc));exact aiM
open Go.RowKit So
theorem uQ (cb g i:Nat) (hi:i<5) (w0:World) (N:Nat) (FK:4<N) (K_:N<=g) (hNc:N<=cb) (hN0:N<=w0.heap.size) (hL:fG w0) (F:SF) (κ:Kn) (p0:Str) (A:Option Addr) (n c:Nat) (B:Option Addr) (bn bc:Nat) (ns:List Str) (w:World) (hw:Kept (SG cb g) w0 w) (hC:Ck w cb g κ p0 0)
 (hs:iO w0 N A n F) (hS:∀w',Kept (SG cb g) w w'->eO w' w'.heap.size B bn ns) (hB:∀x,B=some x->¬x.block=cb) (hk:∀s∈ns,κ s=0):
 Calls prog 126 #[.pointer (some ⟨cb,0,none⟩),.string (bZ i),.slice A n c,.slice B bn bc] w λe w2=>V6 cb g κ (bZ i) 0 (bV i (aU κ ns) 0 true F) e w2/\Kept (SG cb g) w w2:=by
 have HC:=J hC;have HS:=J hS;have HSS:=J hs;have hcC:=bC hC.blk;have hzC:=aH.frozen hC.blk;have hlC:=hC.lt;clear hC hS hs;go_enter func126,ntmps126;go_upto_region 1 with(fail);have HK:=J ((kR (SG cb g) w).setCell ⟨cb,1,none⟩ (.string (bZ i)) (λ_=>Or.inr rfl));have gD:=J (show Ck (w.setCell ⟨cb,1,none⟩ (.string (bZ i))) cb g κ (bZ i) 0 from⟨aH.gW HC.out.blk 1 (.string (bZ i)),HC.out.map.kept (S:=(·=cb)) (Kept.setCell (kR _ w) ⟨cb,1,none⟩ _ (λ_=>rfl)) (λe=>HC.out.ne e.symm)⟩);generalize w.setCell ⟨cb,1,none⟩ (.string (bZ i))=W at HK gD⊢;clear hcC hzC hlC;go_wp2_with fail;refine(Tc cb g i hi w0 N FK K_ hNc hN0 hL F κ 0 true A n c B bn bc ns W (hw.trans HK.out) gD.out aj HSS.out (HS.out _ HK.out) hB hk).mono ?_;rintro e w2 ⟨hb,hk2⟩;obtain⟨Z,hZ⟩:∃Z,Z=bV i (aU κ ns) 0 true F:=⟨_,rfl⟩;rw [<-hZ]at hb
 cases Z with
 |none=>
  obtain⟨he,hc2⟩:=hb;subst he;go_wp2_with fail;go_end0;rw [<-hZ];exact⟨⟨rfl,hc2⟩,HK.out.trans hk2⟩
 |some f=>
  obtain⟨he,hm⟩:=hb;subst he;show _/\_;refine⟨rfl,?_,HK.out.trans hk2⟩;rw [<-hZ];exact⟨rfl,hm⟩
end Go.Proofs.YtbfbabbcdochjaaGreatDoor
