/- Several texts joined: Qn, Qo, Qp, Qr, Qs. -/
import Derived.Test.YtbfbabbcdochjaaGreatDoorRmpk
import Derived.Test.YtbfbabbcdochjaaGreatDoorRmaf
set_option maxHeartbeats 4000000
set_option maxRecDepth 100000
open Go.Proofs.Tryz
namespace Go.Proofs.YtbfbabbcdochjaaGreatDoor
open Go.RowKit So
theorem CJ {P:Program} {fn:Func} {R:Ending->World->Prop} {a:Act} {w:World} {i p k:Tmp} {ty t:TypeId} {g:Nat} {cs:Array Value}
 (hres:fn.results=#[.tmp i,.cell p ty,.tmp k]) (hd:a.defers=[]) (hp:a.tmps.getD p undef=.pointer (some ⟨g,0,none⟩)) (ha:jQ P ty=true) (hs:sizeT P ty=some cs.size) (hb:aH w g t cs)
 (hR:R (.returned (.tuple #[a.tmps.getD i undef,.agg cs,a.tmps.getD k undef])) w):bodyPost P fn R .ret a w:=by
 exact acj
abbrev rA (l:List Vr) (s:Str):Ending:=.returned (.tuple #[.int .i64 (aS l s),.agg (aJ (aD l s)),.bool (l.any (λv=>decide (v.name=s)))])
theorem zW (c:Pc) (p:Pr) (s:Str) (N:Nat) (w:World) (_hN:N<=w.heap.size) (h:lT w N c p):Calls prog 84 #[.agg c.cells,.string s] w λe w'=>e=rA p.vars s/\Ext w w':=by
 obtain⟨cn,cse,cst,⟨A,n,cc⟩,cs,ct,uf,jG,ny,cq,pK⟩:=c;have hx0:=((kR (λ_=>False) w).alloc (.cells (Pc.cells ⟨cn,cse,cst,⟨A,n,cc⟩,cs,ct,uf,jG,ny,cq,pK⟩) 57)).alloc (.cells #[.string ⟨#[]⟩,.int .i64 0,.int .i64 0,.int .i64 0] 109);have hR:=aH.new' (w.alloc (.cells (Pc.cells ⟨cn,cse,cst,⟨A,n,cc⟩,cs,ct,uf,jG,ny,cq,pK⟩) 57)) 109 #[.string ⟨#[]⟩,.int .i64 0,.int .i64 0,.int .i64 0] (w.heap.size+1) aG;obtain⟨hn,hf,hok,b,off,hA,hE⟩:=h.vars.ext hx0;refine Ab ?_;intro hm HN HA HE;clear hn hA hE hok hf h;go_enter func84,ntmps84;go_upto_region 3 with(fail);have HRW:=J (show w.heap.size<=w.heap.size+1 by omega);generalize hW:((w.alloc (.cells (Pc.cells ⟨cn,cse,cst,⟨A,n,cc⟩,cs,ct,uf,jG,ny,cq,pK⟩) 57)).alloc (.cells #[.string ⟨#[]⟩,.int .i64 0,.int .i64 0,.int .i64 0] 109))=W at hx0 hR HE⊢;clear hW;have hD:=J hR;have HX0:=J hx0;clear hR hx0
 go_loopw [7,13] (λt7 t13 wr=>∃(j:Nat),j<=n/\t13=.int .i64 j/\t7=.int .i64 (jW (cells (p.vars.take j)))/\(∀v∈p.vars.take j,¬v.name=s)/\Ext W wr) (λ_ t13 _=>n - (intOf t13).toNat)
 case atStart=>exact⟨0,Nat.zero_le _,rfl,by simp [cells,fF],by simp,kR _ _⟩
 case round=>
  obtain⟨j,hj,rfl,rfl,hno,hx⟩:=hrel;have HX:=J hx;have C_:=J hno;have fq:=bX hD.out hx;have hmr:=fq.bF;have iw:=bH fq;have hlr:=fq.lt;clear hx hno
  by_cases hlt:j<n
  ·have hjl:j<p.vars.length:=by have:=HN.out;omega
   have jd:(j:Int)<n:=by omega
   obtain rfl:=HA.out aj;refine M9 ?_;intro hrow hh' hg' hbw;obtain⟨x,hxe⟩:∃x,x=p.vars[j]:=⟨_,rfl⟩;rw [<-hxe]at hg';have jo:=J hxe;clear hrow hxe
   by_cases hq:x.name=s
   ·have hb:=oG hq
    have HQ:=J (Rk C_.out hjl abN);clear hq;go_upto_region 6 with(fail);have y0:Ext wr _:=(kR (λ_=>False) wr).alloc (.cells (aJ x) 109);have hV:=bN wr 109 (aJ x);have hne:¬wr.heap.size=w.heap.size+1:=by omega
    generalize hW2:(wr.alloc (.cells (aJ x) 109))=W2 at y0 hV⊢;clear hW2 hmr iw hlr fq hh' hg';obtain⟨rb,hrb⟩:∃rb,rb=w.heap.size+1:=⟨_,rfl⟩;generalize wr.heap.size=vb at hV hne⊢;have hV2:=J hV;have vT:=J hrb;rw [<-hrb]at hne⊢;have nD:=J hne;have HY:=J (HX.out.trans y0);have hDy:=bX hD.out HY.out;rw [<-hrb]at hDy;have HDY:=J hDy;clear hV hrb hne y0 hDy;refine gM (λw1=>Kept (·=rb) W2 w1) [(0,2),(1,1),(2,2),(3,0),(4,2)] ?_;refine gN ?_;have bU:=J (show Ext W2 W2.drew from(kR _ W2).drew)
    (repeat first|refine cu ?_|refine dL (Kept.ext bU.out) (by intro w1 hS;have d0:=bK hV2.out hS nD.out;have d1:=bG d0;have d2:=bH d0;have d3:=d0.lt;exact gX) ?_|refine dK (Kept.ext bU.out) ?_)
    have hm2:=(bX HDY.out bU.out).bF;have hh2:=bH (bX HDY.out bU.out)
    (refine aC (λK hK=>?_);go_simp)
    refine hK.out _ _ (λ_=>Kept.putAt (Kept.ext bU.out) _ _ _ (λ_=>rfl)) ?_;clear hK K;refine gI ?_;go_wp2_with fail;refine CJ results84 rfl rfl xR (by exact uL) (aH.gL (bX HDY.out bU.out) _ _) ⟨?_,?_⟩
    ·obtain⟨q1,q2,q3⟩:=HQ.out
     unfold rA;rw [q1,q2,q3,<-jo.out,qV (by rw [List.length_take];omega)];simp [splice]
    ·exact((HX0.out.trans HY.out).trans bU.out).putAt _ _ _ (λhlt=>absurd hlt (by have:=vT.out;omega))
   ·have hb:=mG hq
    have HQ:=J (RX C_.out hjl abN);clear hq;have y0:Ext wr _:=(kR (λ_=>False) wr).alloc (.cells (aJ x) 109);go_wp2_with fail;refine(Mj x _).mono ?_;rintro e w1 ⟨rfl,hx1⟩;go_wp2_with fail;go_roundw
    case rel=>exact⟨j+1,hlt,by go_num,by rw [nZ hjl,<-jo.out];simp only [jm],HQ.out,HX.out.trans (y0.trans hx1)⟩
    case measure=>simp only [intOf];omega
  ·obtain rfl:j=n:=by omega
   go_wp2_with fail;refine CJ results84 rfl rfl xR (by exact uL) (aH.gL fq _ _) ⟨?_,?_⟩
   ·obtain⟨q1,q2,q3⟩:=Rl (l:=p.vars) (s:=s) afe
    unfold rA;rw [q1,q2,q3];simp [splice,E0]
   ·exact(HX0.out.trans HX.out).putAt _ _ _ (λhlt=>absurd hlt aj)
theorem nR (c:Pc) (p:Pr) (s:Str) (N:Nat) (w:World) (hN:N<=w.heap.size) (h:lT w N c p):Calls prog 118 #[.agg c.cells,.string s] w λe w'=>e=rA p.vars s/\Ext w w':=by
 obtain⟨cn,cse,cst,⟨A,n,cc⟩,cs,ct,uf,jG,ny,cq,pK⟩:=c;have hx0:=((kR (λ_=>False) w).alloc (.cells (Pc.cells ⟨cn,cse,cst,⟨A,n,cc⟩,cs,ct,uf,jG,ny,cq,pK⟩) 26)).alloc (.cells #[.string ⟨#[]⟩,.int .i64 0,.int .i64 0,.int .i64 0] 66);have hR:=aH.new' (w.alloc (.cells (Pc.cells ⟨cn,cse,cst,⟨A,n,cc⟩,cs,ct,uf,jG,ny,cq,pK⟩) 26)) 66 #[.string ⟨#[]⟩,.int .i64 0,.int .i64 0,.int .i64 0] (w.heap.size+1) aG;have hB:=(bN w 26 (Pc.cells ⟨cn,cse,cst,⟨A,n,cc⟩,cs,ct,uf,jG,ny,cq,pK⟩)).alloc (.cells #[.string ⟨#[]⟩,.int .i64 0,.int .i64 0,.int .i64 0] 66);obtain⟨hn,hf,hok,b,off,hA,hE⟩:=h.vars.ext hx0;refine Ab ?_;intro hm HN HA HE;clear hn hA hE hok hf h;go_enter func118,ntmps118;go_upto_region 3 with(fail);obtain⟨rb,hrb⟩:∃rb,rb=w.heap.size+1:=⟨_,rfl⟩;obtain⟨pb,hpb⟩:∃pb,pb=w.heap.size:=⟨_,rfl⟩;rw [<-hrb]at hR;rw [<-hpb]at hB;simp only [<-hrb];simp only [<-hpb];have hne:¬pb=rb:=by omega
 have HRW:=J (show w.heap.size<=rb by omega);have Bq:=J (show 0<n->¬b=rb from λh0=>by have:=(HE.out h0).1;omega);generalize hW:((w.alloc (.cells (Pc.cells ⟨cn,cse,cst,⟨A,n,cc⟩,cs,ct,uf,jG,ny,cq,pK⟩) 26)).alloc (.cells #[.string ⟨#[]⟩,.int .i64 0,.int .i64 0,.int .i64 0] 66))=W at hx0 hR HE hB⊢;clear hW hrb hpb;have hD:=J hR;have hC:=J hB;have HX0:=J hx0;have nD:=J hne;clear hR hx0 hB hne
 go_loopw [7,8] (λt7 t8 wr=>∃(j:Nat),j<=n/\t8=.int .i64 j/\t7=.int .i64 (jW (cells (p.vars.take j)))/\(∀v∈p.vars.take j,¬v.name=s)/\Ext W wr) (λ_ t8 _=>n - (intOf t8).toNat)
 case atStart=>exact⟨0,Nat.zero_le _,rfl,by simp [cells,fF],by simp,kR _ _⟩
 case round=>
  obtain⟨j,hj,rfl,rfl,hno,hx⟩:=hrel;have HX:=J hx;have C_:=J hno;have fq:=bX hD.out hx;have hmr:=fq.bF;have iw:=bH fq;have hlr:=fq.lt;have hcr:=bC (bX hC.out hx);have hlc:=(bX hC.out hx).lt;clear hx hno
  by_cases hlt:j<n
  ·have hjl:j<p.vars.length:=by have:=HN.out;omega
   have jd:(j:Int)<n:=by omega
   obtain rfl:=HA.out aj;refine M9 ?_;intro hrow hh' hg' hbw;obtain⟨x,hxe⟩:∃x,x=p.vars[j]:=⟨_,rfl⟩;rw [<-hxe]at hg';have hc0:=nY hh' hg' aj;have jo:=J hxe;have HB2:=J (Bq.out aj);clear hrow hxe
   by_cases hq:x.name=s
   ·have hb:=oG hq
    have HQ:=J (Rk C_.out hjl abN);clear hq;go_upto_region 6 with(fail);have HH:=J hh';have HG:=J hg';have Fu:=J (bX hC.out HX.out);have HDR:=J fq;clear hh' hg' hmr iw hlr hcr hlc hc0 fq;refine gM (λw1=>Kept (·=rb) wr w1) [(0,2),(1,2),(2,1),(3,2),(4,2),(5,1),(6,2),(7,0),(8,2)] ?_;refine gN ?_;have bU:=J (show Ext wr wr.drew from(kR _ wr).drew)
    (repeat first|refine cu ?_|refine dL (Kept.ext bU.out) (by intro w1 hS;have d0:=bK Fu.out hS nD.out;have d1:=bC d0;have d3:=d0.lt;have d4:=(jS (o:=off+j*4) (n:=4) hS hbw HB2.out).trans HH.out;have d5:=(iR (o:=off+j*4) (n:=4) hS hbw HB2.out).trans HG.out;have d6:=Nat.lt_of_lt_of_le hbw hS.size;exact gX) ?_|refine dK (Kept.ext bU.out) ?_)
    have hm2:=(bX HDR.out bU.out).bF;have hh2:=bH (bX HDR.out bU.out)
    (refine aC (λK hK=>?_);go_simp)
    refine hK.out _ _ (λ_=>Kept.putAt (Kept.ext bU.out) _ _ _ (λ_=>rfl)) ?_;clear hK K;refine gI ?_;go_wp2_with fail;refine CJ results118 rfl rfl xQ (by exact uK) (aH.gL (bX HDR.out bU.out) _ _) ⟨?_,?_⟩
    ·obtain⟨q1,q2,q3⟩:=HQ.out
     unfold rA;rw [q1,q2,q3,<-jo.out,qV (by rw [List.length_take];omega)];simp [splice]
    ·exact((HX0.out.trans HX.out).trans bU.out).putAt _ _ _ (λhlt=>absurd hlt MN)
   ·have hb:=mG hq
    have HQ:=J (RX C_.out hjl abN);clear hq;go_wp2_with fail;refine(zH x _).mono ?_;rintro e w1 ⟨rfl,hx1⟩;go_wp2_with fail;go_roundw
    case rel=>exact⟨j+1,hlt,by go_num,by rw [nZ hjl,<-jo.out];simp only [jm],HQ.out,HX.out.trans hx1⟩
    case measure=>simp only [intOf];omega
  ·obtain rfl:j=n:=by omega
   go_wp2_with fail;refine CJ results118 rfl rfl xQ (by exact uK) (aH.gL fq _ _) ⟨?_,?_⟩
   ·obtain⟨q1,q2,q3⟩:=Rl (l:=p.vars) (s:=s) afe
    unfold rA;rw [q1,q2,q3];simp [splice,E0]
   ·exact(HX0.out.trans HX.out).putAt _ _ _ (λhlt=>absurd hlt MN)
open Go.RowKit So
def eO (w:World) (N:Nat) (A:Option Addr) (n:Nat) (l:List Str):Prop:=n=l.length/\n<=100/\∃b off,(0<n->A=some ⟨b,off,none⟩)/\(0<n->b<N/\Row w b off (l.map Value.string))
theorem eO.kept {S:Nat->Prop} {w w':World} {N:Nat} {A:Option Addr} {n:Nat} {l:List Str} (h:eO w N A n l) (hk:Kept S w w') (hs:∀i,S i->N<=i):eO w' N A n l:=by
 obtain⟨h1,h2,b,off,h4,h5⟩:=h;exact⟨h1,h2,b,off,h4,λh0=>⟨(h5 h0).1,(h5 h0).2.kept hk (λq=>by have:=hs b q;have:=(h5 h0).1;omega)⟩⟩
theorem eO.ext {w w':World} {N:Nat} {A:Option Addr} {n:Nat} {l:List Str} (h:eO w N A n l) (hk:Ext w w'):eO w' N A n l:=h.kept hk (λ_ f=>f.elim)
theorem eO.mono {w:World} {N N':Nat} {A:Option Addr} {n:Nat} {l:List Str} (h:eO w N A n l) (hN:N<=N'):eO w N' A n l:=by
 obtain⟨h1,h2,b,off,h4,h5⟩:=h;exact⟨h1,h2,b,off,h4,λh0=>⟨Nat.lt_of_lt_of_le (h5 h0).1 hN,(h5 h0).2⟩⟩
theorem EB {w:World} {b off:Nat} {l:List Str} (h:Row w b off (l.map Value.string)) (j:Nat) (hj:j<l.length):w.cell? ⟨b,off+j,none⟩=some (.string l[j]):=by
 rw [h.cell j (by simpa using hj)];simp [hj]
abbrev dP (c:Pc) (A:Option Addr) (n k:Nat):Array Value:=#[.string c.name,.int .i64 c.seats,c.bY.v,c.vars.v,c.start.v,c.turn.v,c.params.v,c.play.v,.string c.silent,c.quiet.v,c.pays.v,.slice A n k]
theorem oI (κ:Kn):aU κ []=κ:=by funext t;simp [aU]
theorem Mq (c:Pc) (p:Pr) (A:Option Addr) (n k:Nat) (l:List Str) (s:Str) (N:Nat) (w:World) (hN:N<=w.heap.size) (h:lT w N c p) (hl:eO w N A n l):Calls prog 169 #[.agg (dP c A n k),.string s] w λe w'=>e=.returned (.int .i64 (aU (fB p.vars) l s))/\Ext w w':=by
 obtain⟨r,hr⟩:∃r,r=aU (fB p.vars) l s:=⟨_,rfl⟩;rw [<-hr];have HR0:=J hr;clear hr;have hx0:=(kR (λ_=>False) w).alloc (.cells (dP c A n k) 120);have hB:=bN w 120 (dP c A n k);have HP:=J (h.ext hx0 hN);obtain⟨hn,hm,b,off,hA,hE⟩:=hl.ext hx0;have HN:=J hn;have HA:=J hA;have HE:=J hE;have vP:=J (Nat.le_trans hN hx0.size);clear hn hA hE h hl;go_enter func169,ntmps169;go_upto_region 1 with(fail);generalize hW:(w.alloc (.cells (dP c A n k) 120))=W at hx0 hB HE HP vP⊢;clear hW;have HX0:=J hx0;generalize w.heap.size=pb at hB⊢;have hC:=J hB;clear hB hx0;go_wp2_with fail
 go_loopw [5] (λt5 wr=>∃(j:Nat),j<=n/\t5=.int .i64 j/\(∀v∈l.take j,¬v=s)/\W=wr) (λt5 _=>n - (intOf t5).toNat)
 case atStart=>exact⟨0,Nat.zero_le _,rfl,by simp,rfl⟩
 case round=>
  obtain⟨j,hj,rfl,hno,hw⟩:=hrel;subst hw;have C_:=J hno;clear hno;have hcr:=bC hC.out;have hlr:=hC.out.lt
  by_cases hlt:j<n
  ·have hjl:j<l.length:=by have:=HN.out;omega
   have jd:(j:Int)<n:=by omega
   obtain rfl:=HA.out aj;have hrow:=(HE.out aj).2;have hc:=EB hrow j hjl;have hbw:=hrow.lt;obtain⟨x,hxe⟩:∃x,x=l[j]:=⟨_,rfl⟩;rw [<-hxe]at hc;have HX:=J hxe;clear hrow hxe
   by_cases hq:x=s
   ·have hb:=oG hq
    have HQ:=J hq;clear hq;go_wp2_with fail;go_ret;refine⟨b_ ?_,HX0.out⟩
    have:l.any (λt=>decide (t=s))=true:=by
     rw [List.any_eq_true];exact⟨x,by rw [HX.out];exact List.getElem_mem hjl,decide_eq_true HQ.out⟩
    rw [HR0.out];unfold aU;rw [if_pos this]
    rfl
   ·have hb:=mG hq
    exact afC
  ·obtain rfl:j=n:=by omega
   have hno:l.any (λt=>decide (t=s))=false:=by
    rw [List.any_eq_false];intro v hv;have:=C_.out v afg
    simpa using this
   have hrr:r=if p.vars.any (λv=>decide (v.name=s))=true then(if 0<(aD p.vars s).size then 2 else 1)else 0:=by
    rw [HR0.out,<-XQ];unfold aU;rw [if_neg (by rw [hno];exact Bool.false_ne_true)]
   have HR:=J hrr;clear hno hrr;have hgr:=bG hC.out;have iw:=bH hC.out;go_wp2_with fail;refine(nR c p s N _ vP.out HP.out).mono ?_;rintro e w1 ⟨rfl,hx1⟩
   cases hq:p.vars.any (λv=>decide (v.name=s))
   ·go_wp2_with fail
    go_ret;refine⟨b_ ?_,?_⟩
    ·have h:=HR.out;rw [hq]at h;rw [h];rfl
    ·exact(HX0.out.trans hx1).alloc _
   ·by_cases hz:0<(aD p.vars s).size
    ·go_wp2_with fail
     go_ret;refine⟨b_ ?_,?_⟩
     ·have h:=HR.out;rw [hq,if_pos rfl,if_pos aj]at h;rw [h];rfl
     ·exact(HX0.out.trans hx1).alloc _
    ·go_wp2_with fail
     go_ret;refine⟨b_ ?_,?_⟩
     ·have h:=HR.out;rw [hq,if_pos rfl,if_neg aj]at h;rw [h];rfl
     ·exact(HX0.out.trans hx1).alloc _
open Go.RowKit So
theorem KY:prog.eqGuardType prog.depth 60=false:=by kernel_rfl
theorem acN:prog.stoodInHeld 60=false:=by kernel_rfl
theorem KZ:prog.eqGuardType prog.depth 104=false:=by kernel_rfl
theorem acO:prog.stoodInHeld 104=false:=by kernel_rfl
theorem ED (s t:ByteArray):s.toList=t.toList↔s=t:=by
 rw [ByteArray.toList_eq,ByteArray.toList_eq];exact⟨λh=>Go.WideShapes.bytes_inj h,λh=>by rw [h]⟩
theorem Xd (w:World) (a b:Int) (s t:ByteArray):(Op.equalIn 10000 60 (.agg #[.int .i64 a,.string s]) (.agg #[.int .i64 b,.string t])).run prog w=.ok (a==b&&decide (s=t)) w:=by
 rw [Op.equalIn];simp [run_underlying underlying60,go_sem]
 by_cases h1:a=b<;>by_cases h2:s=t<;>simp [h1,h2,ED]
theorem Xe (w:World) (a b:Int) (s t:ByteArray):(Op.equalIn 10000 104 (.agg #[.int .i64 a,.string s]) (.agg #[.int .i64 b,.string t])).run prog w=.ok (a==b&&decide (s=t)) w:=by
 rw [Op.equalIn];simp [run_underlying underlying104,go_sem]
 by_cases h1:a=b<;>by_cases h2:s=t<;>simp [h1,h2,ED]
attribute [go_sem] KY KZ Xd Xe
def gU:Option oW->Array Value
 |none=>#[.int .i64 0,.string ⟨#[]⟩]
 |some f=>#[.int .i64 f.e,.string f.name]
theorem TI:gU none=#[.int .i64 0,.string ⟨#[]⟩]:=rfl
theorem TJ (e:Int) (s:Str):gU (some ⟨e,s⟩)=#[.int .i64 e,.string s]:=rfl
attribute [go_sem] TI TJ
def NZ (o:Option oW):Prop:=∀f,o=some f->¬f.e=0
theorem pz (a b:Nat):((a:Int)==(b:Int))=(a==b):=by rw [Bool.eq_iff_iff];simp;omega
theorem meet {F M:World->Nat->Prop} {G:Prop} (h:(∀W g,F W g->M W g)->G) (h2:∀W g,F W g->M W g):G:=h h2
theorem NZ.none:NZ none:=λ_ h=>by cases h
theorem NZ.some {e:Int} {s:Str} (h:¬e=0):NZ (some ⟨e,s⟩):=λf hf=>by cases hf;exact h
theorem NZ.must {ok:Bool} {e:Int} {s:Str} (h:¬e=0):NZ (must ok e s):=by cases ok<;>simp only [bL,aO];exact NZ.some h;exact NZ.none
theorem NZ.ay {a b:Option oW} (ha:NZ a) (hb:NZ b):NZ (ay a b):=by cases a<;>simp only [aX,aY];exact hb;exact ha
theorem NZ.ite {c:Prop} [Decidable c] {a b:Option oW} (ha:NZ a) (hb:NZ b):NZ (if c then a else b):=by split;exact ha;exact hb
theorem RY (κ:Kn) (op n:Int) (s:Str) (k:Nat):NZ (gY κ op n s k):=by
 unfold gY;exact NZ.ay (NZ.must ak) (NZ.ite (NZ.must ak) (NZ.ite (NZ.ay (NZ.must ak) (NZ.must ak)) NZ.none))
theorem IJ (κ:Kn):∀F:EF,NZ (gq κ F)
 | .nil=>NZ.none
 | .cons op n s k r=>NZ.ay (NZ.ay (RY κ op n s k.len) (IJ κ k)) (IJ κ r)
def DC (κ:Kn) (op n:Int) (s:Str) (k:EF):Option oW:=ay (gY κ op n s k.len) (gq κ k)
theorem IG (κ:Kn) (op n:Int) (s:Str) (k:EF):NZ (DC κ op n s k):=NZ.ay (RY κ op n s k.len) (IJ κ k)
theorem uU (κ:Kn) (op n:Int) (s:Str) (k r:EF):gq κ (.cons op n s k r)=ay (DC κ op n s k) (gq κ r):=rfl
abbrev adt (c:Pc) (κ:Kn) (A:Option Addr) (n k:Nat) (w:World) (F:EF):Prop:=∀(op m:Int) (s:Str) (B:Option Addr) (kn kc N:Nat) (w':World),Ext w w'->N<=w.heap.size->g_ w N B kn F->
 Calls prog 151 #[.agg (dP c A n k),.agg (aI op m s B kn kc)] w' λe w2=>e=.returned (.agg (gU (DC κ op m s F)))/\Ext w' w2
theorem UG (c:Pc) (p:Pr) (A:Option Addr) (n k:Nat) (l:List Str) (N:Nat) (w0:World) (hN:N<=w0.heap.size) (h:lT w0 N c p) (hl:eO w0 N A n l) (F:EF):adt c (aU (fB p.vars) l) A n k w0 F:=by
 refine uh (C:=adt c (aU (fB p.vars) l) A n k w0) ?_ F;intro F IH op m s B kn kc N0 w hx0 hN0 hes;obtain⟨X,hX⟩:∃X,X=DC (aU (fB p.vars) l) op m s F:=⟨_,rfl⟩;rw [<-hX];obtain⟨r,hr⟩:∃r,r=gq (aU (fB p.vars) l) F:=⟨_,rfl⟩;have hX2:X=ay (gY (aU (fB p.vars) l) op m s kn) r:=by rw [hX,hr,hes.1];rfl
 have eU:=J hX2;have VI:=J hr.symm;clear hX hX2 hr;obtain⟨hn,hf,b,off,hA,hE⟩:=hes;refine Ab ?_;intro hm HN HA HE;have HI:=J IH;have HP:=J h;have HL:=J hl;clear hn hA hE IH hf h hl;have hx1:=(((kR (λ_=>False) w).alloc (.cells (dP c A n k) 120)).alloc (.cells (aI op m s B kn kc) 84)).alloc (.cells #[.int .i64 0,.string ⟨#[]⟩] 60);have hK1:=((bN w 120 (dP c A n k)).alloc (.cells (aI op m s B kn kc) 84)).alloc (.cells #[.int .i64 0,.string ⟨#[]⟩] 60);have hE1:=(aH.new' (w.alloc (.cells (dP c A n k) 120)) 84 (aI op m s B kn kc) (w.heap.size+1) aG).alloc (.cells #[.int .i64 0,.string ⟨#[]⟩] 60);have yB:=aH.new' ((w.alloc (.cells (dP c A n k) 120)).alloc (.cells (aI op m s B kn kc) 84)) 60 #[.int .i64 0,.string ⟨#[]⟩] (w.heap.size+1+1) aG;go_enter func151,ntmps151;go_upto_region 1 with(fail);obtain⟨rb,hrb⟩:∃rb,rb=w.heap.size+1+1:=⟨_,rfl⟩;obtain⟨eb,heb⟩:∃eb,eb=w.heap.size+1:=⟨_,rfl⟩;obtain⟨pb,hpb⟩:∃pb,pb=w.heap.size:=⟨_,rfl⟩;simp only [<-hrb];rw [<-hrb]at yB;simp only [<-heb];rw [<-heb]at hE1;simp only [<-hpb];rw [<-hpb]at hK1;have HRW:=J (show w.heap.size<=rb by omega);generalize hW:(((w.alloc (.cells (dP c A n k) 120)).alloc (.cells (aI op m s B kn kc) 84)).alloc (.cells #[.int .i64 0,.string ⟨#[]⟩] 60))=W at hx1 hK1 hE1 yB⊢;clear hW hrb heb hpb;have Xq:=J hK1;have hE0:=J hE1;have hR0:=J yB;have HX0:=J hx1;have Av:=bC hE1;clear hK1 hE1 yB hx1;refine ET ?_;intro bU
 cases hb1:jq op 0 17
 ·have HR:=J (show X=some ⟨3,E0⟩by rw [eU.out];unfold gY;rw [hb1];rfl)
  refine abW ?_;refine yT ?_
  (refine aC (λK hK=>?_);go_simp)
  refine(rO _ _ _ _).mono ?_;rintro e w1 ⟨rfl,rfl⟩;rw [hb1];refine hK.out _ _ (λ_=>bU.out) ?_;clear hK K;refine yT ?_
  (refine aC (λK hK=>?_);go_simp)
  refine hK.out _ _ (λh=>h) ?_;clear hK K;exact ajb
 ·refine abW ?_
  refine yT ?_
  (refine aC (λK hK=>?_);go_simp)
  refine(rO _ _ _ _).mono ?_;rintro e w1 ⟨rfl,rfl⟩;rw [hb1];refine hK.out _ _ (λ_=>bU.out) ?_;clear hK K;refine yT ?_
  (refine aC (λK hK=>?_);go_simp)
  refine(IU _ _).mono ?_;rintro e w1 ⟨rfl,rfl⟩;refine hK.out _ _ (λ_=>bU.out) ?_;clear hK K
  cases hb2:((kn:Int)==(exprParts op:Int))
  ·have OD:((kn:Int) !=(exprParts op:Int))=true:=by unfold bne;rw [hb2];rfl
   have HR:=J (show X=some ⟨3,E0⟩by rw [eU.out];unfold gY;rw [hb1,<-pz,hb2];rfl);exact ajb
  ·have OD:((kn:Int) !=(exprParts op:Int))=false:=by unfold bne;rw [hb2];rfl
   have iZ:Hid (X=ay (if op=0 then must (word m) 2 E0 else if op=1∨op=2 then ay (must (aU (fB p.vars) l s !=0) 6 s) (must ((aU (fB p.vars) l s==2)==(op==2)) 11 s)else none) r):=J (by rw [eU.out];unfold gY;rw [hb1,<-pz,hb2];rfl);refine yT ?_;refine gI ?_;have ys:=bU.out;clear hb1 hb2 OD
   by_cases ho0:op=0
   ·subst ho0
    have fZ:Hid (X=ay (must (word m) 2 E0) r):=J Vj;clear iZ;go_wp2_with fail;refine(oJ _ _).mono ?_;rintro e w1 ⟨rfl,rfl⟩
    cases hw:word m
    ·have HR:=J (show X=some ⟨2,E0⟩by rw [fZ.out,hw];rfl)
     have yr:=ys;exact Zu
    ·have nE:=J (show X=r by rw [fZ.out,hw];rfl)
     exact zz3
   ·have q0:(op==0)=false:=by simpa using ho0
    by_cases ho1:op=1
    ·subst ho1
     have fZ:Hid (X=ay (ay (must (aU (fB p.vars) l s !=0) 6 s) (must ((aU (fB p.vars) l s==2)==false) 11 s)) r):=J Vj;clear iZ;have yK:=bX Xq.out ys;have qD:=bG yK;have qE:=bH yK;have oM:=yK.lt;go_wp2_with fail;refine acT ?_;intro w1 hxs v hv HV yt aaE;clear hv Av qD qE oM yK
     by_cases hv0:v=0
     ·subst hv0
      exact ajm
     ·have qv0:((v:Int)==0)=false:=by simp;omega
      by_cases hv2:v=2
      ·subst hv2
       have HR:=J (show X=some ⟨11,s⟩by rw [fZ.out,<-HV.out];rfl);exact afD
      ·have LZ:((v:Int)==2)=false:=by simp;omega
       have nE:=J (show X=r by rw [fZ.out,<-HV.out];have h1:(v==0)=false:=(by simpa using hv0);have h2:(v==2)=false:=(by simpa using hv2);simp [h1,h2,bne]);exact zz2
    ·have q1:(op==1)=false:=by simpa using ho1
     by_cases ho2:op=2
     ·subst ho2
      have fZ:Hid (X=ay (ay (must (aU (fB p.vars) l s !=0) 6 s) (must ((aU (fB p.vars) l s==2)==true) 11 s)) r):=J Vj;clear iZ;have yK:=bX Xq.out ys;have qD:=bG yK;have qE:=bH yK;have oM:=yK.lt;go_wp2_with fail;refine acT ?_;intro w1 hxs v hv HV yt aaE;clear hv Av qD qE oM yK
      by_cases hv0:v=0
      ·subst hv0
       exact ajm
      ·have qv0:((v:Int)==0)=false:=by simp;omega
       by_cases hv2:v=2
       ·subst hv2
        have nE:=J (show X=r by rw [fZ.out,<-HV.out];rfl);exact zz2
       ·have LZ:((v:Int)==2)=false:=by simp;omega
        have HR:=J (show X=some ⟨11,s⟩by rw [fZ.out,<-HV.out];have h1:(v==0)=false:=(by simpa using hv0);have h2:(v==2)=false:=(by simpa using hv2);simp [h1,h2,bne]);exact afD
     ·have q2:(op==2)=false:=by simpa using ho2
      have nE:=J (show X=r by rw [iZ.out,if_neg ho0,if_neg aj];rfl);exact zz3
open Go.RowKit So
def kH (c:Int):Bool:=(decide (97<=c)&&decide (c<=122))||(decide (65<=c)&&decide (c<=90))
def pO (c:Int):Bool:=decide (48<=c)&&decide (c<=57)
theorem rR (c:UInt8):kH (c.toNat:Int)=letter c:=by
 unfold kH letter;simp only [UInt8.le_iff_toNat_le];rw [Bool.eq_iff_iff];simp
 omega
theorem Tn (c:UInt8):pO (c.toNat:Int)=digit c:=by
 unfold pO digit;simp only [UInt8.le_iff_toNat_le];rw [Bool.eq_iff_iff];simp
 omega
theorem AO (c:Int) (w:World):Calls prog 144 #[.int .u8 c] w λe w'=>e=.returned (.bool (kH c))/\w=w':=by
 go_enter func144,ntmps144;go_wp2_with fail
 all_goals go_ret
 all_goals refine⟨aW ?_,rfl⟩
 all_goals (rw [Bool.eq_iff_iff];simp [kH];omega)
theorem Py (c:Int) (w:World):Calls prog 145 #[.int .u8 c] w λe w'=>e=.returned (.bool (pO c))/\w=w':=by
 go_enter func145,ntmps145;go_wp2_with fail
 all_goals go_ret
 all_goals refine⟨aW ?_,rfl⟩
 all_goals (rw [Bool.eq_iff_iff];simp [pO];omega)
theorem AU (c:Int) (w:World):Calls prog 159 #[.int .u8 c] w λe w'=>e=.returned (.bool (kH c))/\w=w':=by
 go_enter func159,ntmps159;go_wp2_with fail
 all_goals go_ret
 all_goals refine⟨aW ?_,rfl⟩
 all_goals (rw [Bool.eq_iff_iff];simp [kH];omega)
theorem PV (c:Int) (w:World):Calls prog 174 #[.int .u8 c] w λe w'=>e=.returned (.bool (pO c))/\w=w':=by
 go_enter func174,ntmps174;go_wp2_with fail
 all_goals go_ret
 all_goals refine⟨aW ?_,rfl⟩
 all_goals (rw [Bool.eq_iff_iff];simp [pO];omega)
def wP (c:Int):Bool:=kH c||pO c||c==95
theorem TV (c:Int) (w:World):Calls prog 161 #[.int .u8 c] w λe w'=>e=.returned (.bool (wP c))/\w=w':=by
 go_enter func161,ntmps161;go_wp2_with fail;refine(AU _ _).mono ?_;rintro e w1 ⟨rfl,rfl⟩
 cases hl:kH c
 ·go_wp2_with fail
  refine(PV _ _).mono ?_;rintro e w1 ⟨rfl,rfl⟩
  cases hd:pO c
  ·go_wp2_with fail
   all_goals go_ret
   all_goals exact⟨aW (by unfold wP;simp [hl,hd]),rfl⟩
  ·go_wp2_with fail
   all_goals go_ret
   all_goals exact⟨aW (by unfold wP;simp [hl,hd]),rfl⟩
 ·go_wp2_with fail
  all_goals go_ret
  all_goals exact⟨aW (by unfold wP;simp [hl]),rfl⟩
def kJ (s:Str):Bool:=decide (0<s.size)&&letter (s.data.getD 0 0)&&s.data.toList.all inner
theorem OV (s:Str):isName s=(kJ s&&decide (s.size<=30)&&!(words.any (λt=>decide (t=s)))):=rfl
theorem zP (c:UInt8):wP (c.toNat:Int)=inner c:=by
 unfold wP inner;rw [rR,Tn]
 congr 1
 rw [Bool.eq_iff_iff];simp only [beq_iff_eq];exact⟨λh=>UInt8.toNat_inj.1 (by simpa using(by omega:c.toNat=95)),λh=>by rw [h];rfl⟩
theorem D8 (s:Str):(!(ByteArray.toList s).isEmpty)=decide (0<s.size):=by
 rw [ByteArray.toList_eq,Bool.eq_iff_iff];have:s.data.toList.length=s.size:=Array.length_toList
 cases h:s.data.toList with
 |nil=>rw [h]at this;rw [<-this];simp
 |cons a b=>rw [h]at this;rw [<-this];simp
theorem EC {s:Str} (h:0<s.size):s.data.getD 0 0=s[0]:=by
 have h':0<s.data.size:=h;unfold Array.getD;rw [dif_pos h']
 rfl
theorem Ut {s:Str} (h0:0<s.size) (h:letter s[0]=false):kJ s=false:=by
 unfold kJ;rw [EC h0,h];simp
theorem Ya {s:Str} {i:Nat} (hi:i<s.size) (h:inner s[i]=false):kJ s=false:=by
 unfold kJ
 have:s.data.toList.all inner=false:=by
  rw [List.all_eq_false];exact⟨s[i],Array.mem_toList_iff.2 (Array.getElem_mem (xs:=s.data) hi),by rw [h];exact Bool.false_ne_true⟩
 rw [this,Bool.and_false]
theorem ahE {s:Str} (h0:0<s.size) (h1:letter s[0]=true) (h2:∀i (h:i<s.size),inner s[i]=true):kJ s=true:=by
 unfold kJ;rw [EC h0,h1,decide_eq_true h0];simp only [Bool.true_and,List.all_eq_true];intro x hx;obtain⟨i,hi,rfl⟩:=List.getElem_of_mem hx;exact h2 i (by simpa using hi)
theorem Yn (s:Str) (hs:s.size<=maxLen) (w:World):Calls prog 88 #[.string s] w λe w'=>e=.returned (.bool (kJ s))/\w=w':=by
 have hmx:s.size<=9223372036854775807:=by unfold maxLen at hs;omega
 go_enter func88,ntmps88;go_wp2_with fail
 go_loopw [3] (λt3 wr=>∃(j:Nat),j<=s.size/\t3=.int .i64 j/\(∀i (h:i<s.size),i<j->inner s[i]=true)/\(∀h:0<s.size,0<j->letter s[0]=true)/\w=wr) (λt3 _=>s.size - (intOf t3).toNat)
 case atStart=>exact⟨0,Nat.zero_le _,rfl,λi _ h=>by omega,λ_ h=>by omega,rfl⟩
 case round=>
  obtain⟨j,hj,rfl,h1,h2,hw⟩:=hrel;subst hw;have H1:=J h1;have H2:=J h2;clear h1 h2
  by_cases hlt:j<s.size
  ·have jd:(j:Int)<s.size:=by omega
   have hb:inner s[j]=(kH (s[j].toNat:Int)||pO (s[j].toNat:Int)||(s[j].toNat:Int)==95):=(zP s[j]).symm;have hlet:=rR s[j]
   by_cases hj0:j=0
   ·subst hj0
    have HB:=J hb;have HLT:=J hlet;clear hb hlet;go_wp2_with fail;refine(AO _ _).mono ?_;rintro e w1 ⟨rfl,rfl⟩
    cases hl:kH (s[0].toNat:Int)
    ·have J8:=J (Ut hlt (by rw [<-HLT.out];exact hl))
     clear hl;go_wp2_with fail;go_ret;exact⟨aW J8.out.symm,rfl⟩
    ·have HL:=J hl
     go_wp2_with fail;go_roundw
     case rel=>exact⟨1,hlt,rfl,λi hi h=>by
      obtain rfl:i=0:=by omega
      rw [HB.out,HL.out];rfl,λ_ _=>by rw [<-HLT.out];exact HL.out,by trivial⟩
     case measure=>simp only [intOf];omega
   ·have q0:((j:Int)==0)=false:=by simp;omega
    have HB:=J hb;clear hb hlet;go_wp2_with fail;refine(AO _ _).mono ?_;rintro e w1 ⟨rfl,rfl⟩
    cases hl:kH (s[j].toNat:Int)
    ·have HL:=J hl
     go_wp2_with fail;refine(Py _ _).mono ?_;rintro e w1 ⟨rfl,rfl⟩
     cases hd:pO (s[j].toNat:Int)
     ·have HD:=J hd
      cases hu:((s[j].toNat:Int)==95)
      ·have hun:((s[j].toNat:Int) !=95)=true:=by unfold bne;rw [hu];rfl
       have J8:=J (Ya hlt (by rw [HB.out,HL.out,HD.out,hu];rfl));go_wp2_with fail;go_ret;exact⟨aW J8.out.symm,rfl⟩
      ·have hun:((s[j].toNat:Int) !=95)=false:=by unfold bne;rw [hu];rfl
       have nV:=J (show inner s[j]=true by rw [HB.out,HL.out,HD.out,hu];rfl);exact afG
     ·have nV:=J (show inner s[j]=true by rw [HB.out,HL.out,hd];rfl)
      exact afG
    ·have nV:=J (show inner s[j]=true by rw [HB.out,hl];rfl)
     exact afG
  ·obtain rfl:j=s.size:=by omega
   have J8:=J (show kJ s=decide (0<s.size)by
    by_cases h0:0<s.size
    ·rw [ahE h0 (H2.out h0 h0) (λi hi=>H1.out i hi hi),decide_eq_true h0]
    ·unfold kJ;simp [h0])
   go_wp2_with fail;go_ret;exact⟨aW (by rw [J8.out];exact D8 s),rfl⟩
open Go.RowKit So
theorem Iq (l:List Str) (s:Str) (A:Option Addr) (n c N:Nat) (w:World) (h:eO w N A n l):Calls prog 89 #[.slice A n c,.string s] w λe w'=>e=.returned (.bool (l.any (λt=>decide (t=s))))/\w=w':=by
 obtain⟨hn,hm,b,off,hA,hE⟩:=h;have HN:=J hn;have HA:=J hA;have HE:=J hE;clear hn hA hE;go_enter func89,ntmps89;go_wp2_with fail
 go_loopw [5] (λt5 wr=>∃(j:Nat),j<=n/\t5=.int .i64 j/\(∀v∈l.take j,¬v=s)/\w=wr) (λt5 _=>n - (intOf t5).toNat)
 case atStart=>exact⟨0,Nat.zero_le _,rfl,by simp,rfl⟩
 case round=>
  obtain⟨j,hj,rfl,hno,hw⟩:=hrel;subst hw;have C_:=J hno;clear hno
  by_cases hlt:j<n
  ·have hjl:j<l.length:=by have:=HN.out;omega
   have jd:(j:Int)<n:=by omega
   obtain rfl:=HA.out aj;have hrow:=(HE.out aj).2;have hc:=EB hrow j hjl;have hbw:=hrow.lt;obtain⟨x,hxe⟩:∃x,x=l[j]:=⟨_,rfl⟩;rw [<-hxe]at hc;have HX:=J hxe;clear hrow hxe
   by_cases hq:x=s
   ·have hb:=oG hq
    have HQ:=J hq;clear hq;go_wp2_with fail;go_ret;refine⟨aW ?_,rfl⟩;rw [eq_comm,List.any_eq_true];exact⟨x,by rw [HX.out];exact List.getElem_mem hjl,decide_eq_true HQ.out⟩
   ·have hb:=mG hq
    exact afC
  ·obtain rfl:j=n:=by omega
   go_wp2_with fail;go_ret;refine⟨aW ?_,rfl⟩;rw [eq_comm,List.any_eq_false];intro v hv;have:=C_.out v afg
   simpa using this
theorem PN (w:World):Calls prog 90 #[] w λe w'=>Ext w w'/\∃A c,e=.returned (.slice A 23 c)/\eO w' w'.heap.size A 23 words:=by
 go_enter func90,ntmps90;go_wp2_with fail;go_ret;refine⟨(kR _ w).alloc _,_,_,rfl,rfl,by omega,w.heap.size,0,λ_=>rfl,λ_=>⟨by simp,?_⟩⟩;exact Row.eZ (bN w _ _)
theorem mX (s:Str) (hs:s.size<=maxLen) (w:World):Calls prog 49 #[.string s] w λe w'=>e=.returned (.bool (isName s))/\Ext w w':=by
 have hmx:s.size<=9223372036854775807:=by unfold maxLen at hs;omega
 rw [OV];obtain⟨r,hr⟩:∃r,r=(kJ s&&decide (s.size<=30)&&!(words.any (λt=>decide (t=s)))):=⟨_,rfl⟩;rw [<-hr];have HR:=J hr;clear hr;go_enter func49,ntmps49;go_wp2_with fail;refine(Yn s hs _).mono ?_;rintro e w1 ⟨rfl,rfl⟩
 cases hn:kJ s
 ·have HF:=J (show r=false by rw [HR.out,hn];rfl)
  go_wp2_with fail;go_ret;exact⟨aW HF.out.symm,kR _ _⟩
 ·by_cases hz:s.size<=30
  ·have OP:(s.size:Int)<=30:=by omega
   have HF:=J (show r=!(words.any (λt=>decide (t=s)))by rw [HR.out,hn,decide_eq_true hz];rfl);go_wp2_with fail;refine(PN _).mono ?_;rintro e w1 ⟨hx1,A,c,rfl,hS⟩;have HS:=J hS;clear hS;go_wp2_with fail;refine(Iq words s _ _ _ _ _ HS.out).mono ?_;rintro e w2 ⟨rfl,rfl⟩;go_wp2_with fail;go_ret;exact⟨aW (by rw [HF.out]),hx1⟩
  ·have OP:¬(s.size:Int)<=30:=by omega
   have HF:=J (show r=false by rw [HR.out,decide_eq_false hz];simp);go_wp2_with fail;go_ret;exact⟨aW HF.out.symm,kR _ _⟩
end Go.Proofs.YtbfbabbcdochjaaGreatDoor
