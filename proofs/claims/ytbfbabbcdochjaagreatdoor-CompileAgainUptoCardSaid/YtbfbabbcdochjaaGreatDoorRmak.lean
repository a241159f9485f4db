/- Several texts joined: Qzl, Qzm. -/
import Derived.Test.YtbfbabbcdochjaaGreatDoorRmpk
import Derived.Test.YtbfbabbcdochjaaGreatDoorRmaj
set_option maxHeartbeats 4000000
set_option maxRecDepth 100000
open Go.Proofs.Tryz
namespace Go.Proofs.YtbfbabbcdochjaaGreatDoor
open Go.RowKit So
def tY (l:List Vr):ByteArray->Option Value:=λt=>if l.any (λu=>decide (u.name=t))=true then some (.bool true)else none
theorem Kv (l:List Vr) (x:Vr):∀t,(λt=>if t=x.name then some (.bool true)else tY l t) t=tY (l++[x]) t:=by
 intro t;unfold tY;rw [List.any_append]
 by_cases h:t=x.name
 ·subst h;simp
 ·have:¬x.name=t:=λe=>h e.symm
  have h2:decide (x.name=t)=false:=decide_eq_false this;simp only [List.any_cons,List.any_nil,h2,Bool.or_false];rw [if_neg h]
theorem Od (l:List Vr) (s:Str):(tY l s).getD (.bool false)=.bool (l.any (λu=>decide (u.name=s))):=by
 unfold tY
 cases h:l.any (λu=>decide (u.name=s))<;>rfl
theorem QU (w:World):(zeroValue 4).run prog w=.ok (.bool false) w:=by
 first|kernel_rfl|rfl
theorem agq {w:World} {mb:Nat} {l:List Vr} (h:SMap w mb (tY l)) (s:Str):(Instr.lookup 188 (.map (some mb)) (.string s) false).run prog w=.ok (.bool (l.any (λu=>decide (u.name=s)))) w:=by
 have hlk:=SMap.look (P:=prog) h underlying188 underlying9 (z:=.bool false) QU s;rw [hlk,Od]
theorem Ck.kept {S:Nat->Prop} {w w':World} {cb g:Nat} {κ:Kn} {part:Str} {aQ:Nat} (h:Ck w cb g κ part aQ) (hk:Kept S w w') (h1:¬S cb) (h2:¬S g):Ck w' cb g κ part aQ:=⟨bK h.blk hk h1,h.map.kept hk h2⟩
theorem Yf (cb g:Nat) (κ:Kn) (c:Pc) (p:Pr) (N:Nat) (FK:4<N) (w:World) (hN:N<=w.heap.size) (h:lT w N c p) (hL:fG w) (hC:Ck w cb g κ E0 0):
 Calls prog 74 #[.pointer (some ⟨cb,0,none⟩),.agg c.cells] w λe w'=>V6 cb g κ E0 0 (ay (must (decide (p.params.length<=4)) 8 gQ) (ay (d_ κ [] p.params) (must (decide (menu p.params<=512)) 8 gQ))) e w'/\Ext w w':=by
 obtain⟨X,hX⟩:∃X,X=ay (must (decide (p.params.length<=4)) 8 gQ) (ay (d_ κ [] p.params) (must (decide (menu p.params<=512)) 8 gQ)):=⟨_,rfl⟩;rw [<-hX];have HX:=J hX;clear hX;obtain⟨cn,cse,cst,cv,cs,ct,⟨A,n,cc⟩,jG,ny,cq,pK⟩:=c;have hx0:=(kR (λ_=>False) w).alloc (.cells (Pc.cells ⟨cn,cse,cst,cv,cs,ct,⟨A,n,cc⟩,jG,ny,cq,pK⟩) 57);have hB0:=bN w 57 (Pc.cells ⟨cn,cse,cst,cv,cs,ct,⟨A,n,cc⟩,jG,ny,cq,pK⟩);have iY:=J (h.ext hx0 hN);have dR:=J (Nat.le_trans hN hx0.size);obtain⟨hn,hf,hok,b,off,hA,hE⟩:=h.params.ext hx0;have hm:=hf.max aj;have HN:=J (show n=p.params.length from hn);have HA:=J hA;have HE:=J hE;have nV:=J hok;have pI:=J (hL.ext hx0);have sP:=J hC;clear hn hA hE hok hf h hL hC;have hmm:=@run_makeMap prog;go_enter func74,ntmps74;go_upto_region 1 with(fail);generalize hW:(w.alloc (.cells (Pc.cells ⟨cn,cse,cst,cv,cs,ct,⟨A,n,cc⟩,jG,ny,cq,pK⟩) 57))=W at hx0 hB0 HE pI iY dR⊢;clear hW;generalize w.heap.size=pb at hB0⊢;have hB0:=J hB0;have HX0:=J hx0;have hcP:=bC hB0.out;have jh:=hB0.out.lt;clear hx0
 by_cases h4:(n:Int)<=4
 ·have eH:=J (show X=ay (d_ κ [] p.params) (must (decide (menu p.params<=512)) 8 gQ)by
   rw [HX.out,decide_eq_true (show p.params.length<=4 by have:=HN.out;omega)];rfl)
  go_wp2_with fail;refine(bq true _ _ _).mono ?_;rintro e w8 ⟨he,rfl⟩;have he:=dN.none he;subst he;clear h4 HX;go_upto_region 3 with(fail);have hM:=SMap.made W;have y0:=(kR (λ_=>False) W).alloc (.map #[] 0);generalize hW1:(W.alloc (.map #[] 0))=W1 at hM y0⊢;clear hW1;have lQ:=J (hM.qx (f':=tY []) (λt=>rfl));have SN:=J (show N<=W.heap.size/\w.heap.size<=W.heap.size from⟨dR.out,HX0.out.size⟩);have lN:=J (show¬pb=W.heap.size from λe=>by have:=hB0.out.lt;omega);generalize W.heap.size=mb at lQ SN lN⊢;have bU:=J y0;clear hM y0 hcP jh;have hcP:=bC (bX hB0.out bU.out);have jh:=(bX hB0.out bU.out).lt;go_wp2_with fail
  go_loopw [16] (λt16 wr=>∃(j:Nat),j<=n/\t16=.int .i64 j/\ay (d_ κ (p.params.take j) (p.params.drop j)) (must (decide (menu p.params<=512)) 8 gQ)=X/\SMap wr mb (tY (p.params.take j))/\Kept (·=mb) W1 wr) (λt16 _=>n - (intOf t16).toNat)
  case atStart=>exact⟨0,Nat.zero_le _,rfl,eH.out.symm,lQ.out,kR _ _⟩
  case round=>
   obtain⟨j,hj,rfl,hacc,hmp,hx⟩:=hrel;have dw:=J hacc;have nE:=J hx;have HMR:=J hmp;have Bw:=J (show Ext w wr from(HX0.out.trans bU.out).trans' hx (λi hi e=>by have:=SN.out.2;omega));clear hacc hx hmp hcP jh;have hcP:=bC (bK (bX hB0.out bU.out) nE.out lN.out);have jh:=(bK (bX hB0.out bU.out) nE.out lN.out).lt
   by_cases hlt:j<n
   ·have hjl:j<p.params.length:=by have:=HN.out;omega
    have jd:(j:Int)<n:=by omega
    obtain rfl:=HA.out aj;have ow:=(HE.out aj);have hrow:=(ow.2.ext bU.out).kept nE.out (λq=>by have:=SN.out;have:=ow.1;omega);obtain⟨hh',hg'⟩:=mZ hrow j hjl;have hbw:=hrow.lt;obtain⟨x,hxe⟩:∃x,x=p.params[j]:=⟨_,rfl⟩;have Nz:=J (nV.out x abI);have hdrop:p.params.drop j=x::p.params.drop (j+1):=by rw [hxe];exact List.drop_eq_getElem_cons hjl
    have htake:p.params.take (j+1)=p.params.take j++[x]:=by rw [hxe,List.take_add_one,List.getElem?_eq_getElem hjl];rfl
    rw [<-hxe]at hg';have hacc:=dw.out;rw [hdrop]at hacc;have Dp:=J htake;obtain⟨Y,hY⟩:∃Y,Y=ay (d_ κ (p.params.take j++[x]) (p.params.drop (j+1))) (must (decide (menu p.params<=512)) 8 gQ):=⟨_,rfl⟩;have HYE:=J hY;obtain⟨v,hv⟩:∃v,v=κ x.name:=⟨_,rfl⟩;have HV:=J hv;obtain⟨ah,hah⟩:∃ah,ah=(p.params.take j).any (λu=>decide (u.name=x.name)):=⟨_,rfl⟩;have HAH:=J hah
    have eU:Hid (X=ay (must (isName x.name) 6 x.name) (ay (must (v==0&&!ah) 7 x.name) (ay (must (x.size==0) 3 x.name) (ay (must (span x) 2 x.name) Y)))):=J (by
     rw [<-hacc,hY,hv,hah,d_,dY,dY,dY,dY])
    clear hrow ow hxe hacc hdrop htake hY hv hah dw;have y1:=(kR (λ_=>False) wr).alloc (.cells (aJ x) 109);have Il:=bN wr 109 (aJ x);go_upto_region 6 with(fail);clear hh' hg' hbw hcP jh;have HZ:=J (nE.out.trans (Kept.ext y1));have HZW:=J (Bw.out.trans y1);have HMZ:=J (HMR.out.ext y1)
    have HEB:=J (show¬wr.heap.size=mb by
     have h1:=HMR.out.lt
     omega)
    generalize hW2:(wr.alloc (.cells (aJ x) 109))=W2 at y1 Il HZ HZW HMZ⊢;generalize wr.heap.size=eb at Il HEB⊢;have hV:=J Il;clear hW2 y1 Il nE HMR Bw;have HLZ:=J ((pI.out.ext bU.out).kept HZ.out (λk hk h=>by have:=SN.out;omega));refine gM (λw1=>Ext W2 w1) [(0,2),(1,1),(3,2),(4,1),(2,0),(5,0)] ?_;refine gN ?_;have dX:=J (show Ext W2 W2.drew from(kR _ W2).drew)
    (repeat first|refine cu ?_|refine dL dX.out abH ?_|refine dK dX.out ?_)
    (refine aC (λK hK=>?_);go_simp)
    refine(mY x.name Nz.out.name _ (HLZ.out.ext dX.out)).mono ?_;rintro e w1 ⟨rfl,hx1⟩;have fH:=J (dX.out.trans hx1);clear hx1;refine hK.out _ _ (λ_=>fH.out) ?_;clear hK K
    (repeat first|refine cu ?_|refine dL fH.out abH ?_|refine dK fH.out ?_)
    (refine eu bT bT (λK hK=>?_);go_simp)
    have jo:=J (HZW.out.trans fH.out)
    cases hn:isName x.name
    ·have HR:=J (show X=some ⟨6,x.name⟩by rw [eU.out,hn];rfl)
     exact VD
    ·have iZ:=J (show X=ay (must (v==0&&!ah) 7 x.name) (ay (must (x.size==0) 3 x.name) (ay (must (span x) 2 x.name) Y))by rw [eU.out,hn];rfl)
     clear eU hn;refine(bq true _ _ _).mono ?_;rintro e w8 ⟨he,rfl⟩;have he:=dN.none he;subst he;refine hK.out _ _ ?_;clear hK K;refine gI ?_;clear jo;go_upto_region 7 with(fail);have HLK:=J (show∀w',Ext w1 w'->(Instr.lookup 188 (.map (some mb)) (.string x.name) false).run prog w'=.ok (.bool ah) w' from λw' hk=>by rw [agq (HMZ.out.ext (fH.out.trans hk)),HAH.out])
     by_cases hv0:v=0
     ·have qv:(v !=0)=false:=by simp [hv0]
      have fZ:=J (show X=ay (must (!ah) 7 x.name) (ay (must (x.size==0) 3 x.name) (ay (must (span x) 2 x.name) Y))by rw [iZ.out,hv0];rfl);refine aiI ?_;intro HZ0 K hK;rintro e w2 ⟨rfl,rfl⟩;rw [<-HV.out,qv];refine hK.out _ _ (λ_=>HZ0.out) ?_;clear hK K
      (repeat first|refine cu ?_|refine dL HZ0.out aeY ?_|refine dK HZ0.out ?_)
      (refine eu bT bT (λK hK=>?_);go_simp)
      have eX:=J (fH.out.trans HZ0.out);have jo:=J (HZW.out.trans eX.out)
      cases ah
      ·have kg:=J (show X=ay (must (x.size==0) 3 x.name) (ay (must (span x) 2 x.name) Y)from fZ.out)
       try simp only [Bool.not_false]
       refine(bq true _ _ _).mono ?_;rintro e w8 ⟨he,rfl⟩;have he:=dN.none he;subst he;refine hK.out _ _ ?_;clear hK K;refine gI ?_;clear iZ fZ jo;go_upto_region 8 with(fail);generalize hW3:w1.drew=W3 at eX⊢;clear hW3;have OI:=bC (bX hV.out eX.out);have OL:=(bX hV.out eX.out).lt;have jo:=J (HZW.out.trans eX.out);go_wp2_with fail
       cases hq:(x.size==0)
       ·have HR:=J (show X=some ⟨3,x.name⟩by rw [kg.out,hq];rfl)
        exact VD
       ·have qj:=J (show X=ay (must (span x) 2 x.name) Y by rw [kg.out,hq];rfl)
        refine(bq true _ _ _).mono ?_;rintro e w8 ⟨he,rfl⟩;have he:=dN.none he;subst he;clear OI OL hq kg jo;go_upto_region 9 with(fail);refine gM (λw2=>Ext W3 w2) [(0,1),(2,2),(3,1),(1,0),(4,0)] ?_;refine gN ?_;have tK:=J (show Ext W3 W3.drew from(kR _ W3).drew)
        (repeat first|refine cu ?_|refine dL tK.out ain ?_|refine dK tK.out ?_)
        (refine aC (λK hK=>?_);go_simp)
        refine(Mr x _).mono ?_;rintro e w2 ⟨rfl,hx2⟩;have Ww:=J (tK.out.trans hx2);clear hx2;refine hK.out _ _ (λ_=>Ww.out) ?_;clear hK K
        (repeat first|refine cu ?_|refine dL Ww.out ain ?_|refine dK Ww.out ?_)
        (refine eu bT bT (λK hK=>?_);go_simp)
        have o_:=J (eX.out.trans Ww.out);have jo:=J (HZW.out.trans o_.out)
        cases hsp:span x
        ·have HR:=J (show X=some ⟨2,x.name⟩by rw [qj.out,hsp];rfl)
         exact VD
        ·have sU:=J (show X=Y by rw [qj.out,hsp];rfl)
         refine(bq true _ _ _).mono ?_;rintro e w8 ⟨he,rfl⟩;have he:=dN.none he;subst he;refine hK.out _ _ ?_;clear hK K;refine gI ?_;clear hsp qj;have OI:=bC (bX hV.out o_.out);have OL:=(bX hV.out o_.out).lt;obtain⟨w5,hrun,hS',hk'⟩:=SMap.put (P:=prog) (HMZ.out.ext o_.out) underlying188 underlying9 x.name (.bool true);have HS2:=J hS';have sQ:=J hk';clear hS' hk';go_wp2_with fail;exact⟨⟨j+1,hlt,by go_num,by rw [Dp.out,<-HYE.out,sU.out],HS2.out.qx (λt=>by rw [Dp.out];exact Kv (p.params.take j) x t),HZ.out.trans ((Kept.ext o_.out).trans sQ.out)⟩,by simp only [intOf];omega⟩
      ·have HR:=J (show X=some ⟨7,x.name⟩from fZ.out)
       exact ajA
     ·have qv:(v !=0)=true:=by simp [hv0]
      have qn:(v==0)=false:=by simp [hv0]
      have HR:=J (show X=some ⟨7,x.name⟩by rw [iZ.out,qn];rfl);refine aiI ?_;intro HZ0 K hK;rintro e w2 ⟨rfl,rfl⟩;rw [<-HV.out,qv];refine hK.out _ _ (λ_=>HZ0.out) ?_;clear hK K
      (repeat first|refine cu ?_|refine dL HZ0.out aeY ?_|refine dK HZ0.out ?_)
      (refine eu bT bT (λK hK=>?_);go_simp)
      have jo:=J (HZW.out.trans (fH.out.trans HZ0.out));exact ajA
   ·obtain rfl:j=n:=by omega
    have JU:=J (show X=must (decide (menu p.params<=512)) 8 gQ by
     rw [<-dw.out,HN.out,List.drop_length];rfl)
    have mH:=bG (bK (bX hB0.out bU.out) nE.out lN.out);have mI:=bH (bK (bX hB0.out bU.out) nE.out lN.out);clear dw HMR;go_wp2_with fail;have J8:=J (show N<=W1.heap.size from Nat.le_trans dR.out bU.out.size);refine(U2 ⟨cn,cse,cst,cv,cs,ct,⟨A,j,cc⟩,jG,ny,cq,pK⟩ p N _ (Nat.le_trans J8.out nE.out.size) ((iY.out.ext bU.out dR.out).kept nE.out J8.out (λi hi=>by have:=SN.out;omega))).mono ?_;rintro e w1 ⟨rfl,hx1⟩;have jo:=J (Bw.out.trans hx1);clear mH mI hcP jh hx1
    by_cases h64:menu p.params<=512
    ·have HR:=J (show X=none by rw [JU.out,decide_eq_true h64];rfl)
     go_wp2_with fail;refine(bq true _ _ _).mono ?_;rintro e w8 ⟨he,rfl⟩;have he:=dN.none he;subst he;go_wp2_with fail;go_end0;rw [HR.out];exact⟨⟨rfl,sP.out.ext jo.out⟩,jo.out⟩
    ·have HR:=J (show X=some ⟨8,gQ⟩by rw [JU.out,decide_eq_false h64];rfl)
     go_wp2_with fail;rw [decide_eq_false (show¬menu p.params<=512 by omega)];exact VD
 ·have HR:=J (show X=some ⟨8,gQ⟩by rw [HX.out,decide_eq_false (show¬p.params.length<=4 by have:=HN.out;omega)];rfl)
  have jo:=HX0;go_wp2_with fail
  try rw [decide_eq_false (show¬(n:Int)<=4 by omega)]
  exact VD
open Go.RowKit So
def Aa (s:Str):Array Value:=#[.string s]
theorem vH:∀l:List Str,aR Aa l=l.map Value.string
 |[]=>rfl
 |s::l=>by
  have:=vH l;unfold aR at this⊢;rw [List.flatMap_cons,this]
  rfl
theorem LV {w:World} {base:Nat} {T:TypeId} {v:Value} {n:Nat} {l:List Str} (ho:w.ownsRow base T 1 v n (aR Aa l)) (hn:n=l.length) (h4:n<=100):
 ∃B bc,v=.slice B n bc/\(∀x,B=some x->base<=x.block/\x.block<w.heap.size)/\eO w w.heap.size B n l:=by
 rw [vH]at ho
 by_cases h0:0<n
 ·obtain⟨g,c,rfl,hr,hg,_⟩:=gu ho h0 aj
  exact⟨some ⟨g,0,none⟩,c,rfl,λx hx=>by cases hx;exact⟨hg,hr.lt⟩,hn,h4,g,0,λ_=>rfl,λ_=>⟨hr.lt,hr⟩⟩
 ·obtain rfl:n=0:=by omega
  rcases ho.2 with⟨hv,_⟩|⟨g,c,cur,hv,hb,hc,_⟩
  ·exact⟨none,0,hv,λx hx=>(nomatch hx),hn,h4,0,0,λq=>by omega,λq=>by omega⟩
  ·exact⟨some ⟨g,0,none⟩,c,hv,λx hx=>by cases hx;exact⟨hb,(Array.getElem?_eq_some_iff.1 hc).1⟩,hn,h4,0,0,λq=>by omega,λq=>by omega⟩
theorem eO.none (w:World) (N:Nat):eO w N none 0 []:=⟨rfl,by omega,0,0,λh=>absurd h aj,λh=>absurd h aj⟩
theorem eO.ahp {S:Nat->Prop} {w w':World} {N M:Nat} {A:Option Addr} {n:Nat} {l:List Str} (h:eO w N A n l) (hk:Kept S w w') (hs:∀x,A=some x->¬S x.block) (hM:N<=M):eO w' M A n l:=by
 obtain⟨h1,h2,b,off,h3,h4⟩:=h;exact⟨h1,h2,b,off,h3,λh0=>⟨Nat.lt_of_lt_of_le (h4 h0).1 hM,(h4 h0).2.kept hk (hs _ (h3 h0))⟩⟩
theorem Ux (cb g:Nat) (κ:Kn) (c:Pc) (p:Pr) (N:Nat) (FK:4<N) (K_:N<=g) (hNc:N<=cb) (w:World) (hN:N<=w.heap.size) (h:lT w N c p) (hL:fG w) (hC:Ck w cb g κ E0 0) (h4:p.params.length<=4) (hpar:∀v∈p.params,κ v.name=0) (ahi:κ p.silent=0):
 Calls prog 78 #[.pointer (some ⟨cb,0,none⟩),.agg c.cells] w λe w'=>dN (ay (bV 0 κ 0 true p.start) (ay (bV 1 κ 0 true p.turn) (ay (bV 2 (aU κ (p.params.map Vr.name)) 0 true p.play) (ay (bV 3 (aU κ [p.silent]) 0 true p.quiet) (bV 4 κ 0 true p.pays))))) e/\Kept (SG cb g) w w':=by
 obtain⟨X,hX⟩:∃X,X=ay (bV 0 κ 0 true p.start) (ay (bV 1 κ 0 true p.turn) (ay (bV 2 (aU κ (p.params.map Vr.name)) 0 true p.play) (ay (bV 3 (aU κ [p.silent]) 0 true p.quiet) (bV 4 κ 0 true p.pays)))):=⟨_,rfl⟩;rw [<-hX];obtain⟨Z0,hZ0⟩:∃Z,Z=bV 0 κ 0 true p.start:=⟨_,rfl⟩;obtain⟨Z1,hZ1⟩:∃Z,Z=bV 1 κ 0 true p.turn:=⟨_,rfl⟩;obtain⟨Z2,hZ2⟩:∃Z,Z=bV 2 (aU κ (p.params.map Vr.name)) 0 true p.play:=⟨_,rfl⟩;obtain⟨Z3,hZ3⟩:∃Z,Z=bV 3 (aU κ [p.silent]) 0 true p.quiet:=⟨_,rfl⟩;obtain⟨Z4,hZ4⟩:∃Z,Z=bV 4 κ 0 true p.pays:=⟨_,rfl⟩;rw [<-hZ0,<-hZ1,<-hZ2,<-hZ3,<-hZ4]at hX;have HX0:=J hX;have HZ0:=J hZ0;have HZ1:=J hZ1;have HZ2:=J hZ2;have HZ3:=J hZ3;have JV:=J hZ4;clear hX hZ0 hZ1 hZ2 hZ3 hZ4;obtain⟨cn,cse,cst,cv,⟨sA,sn,sc⟩,⟨tA,tn,tc⟩,⟨A,n,cc⟩,⟨yA,yn,yc⟩,ny,⟨qA,qn,qc⟩,⟨zA,zn,zc⟩⟩:=c;have hx0:=(kR (λ_=>False) w).alloc (.cells (Pc.cells ⟨cn,cse,cst,cv,⟨sA,sn,sc⟩,⟨tA,tn,tc⟩,⟨A,n,cc⟩,⟨yA,yn,yc⟩,ny,⟨qA,qn,qc⟩,⟨zA,zn,zc⟩⟩) 57);have hB0:=bN w 57 (Pc.cells ⟨cn,cse,cst,cv,⟨sA,sn,sc⟩,⟨tA,tn,tc⟩,⟨A,n,cc⟩,⟨yA,yn,yc⟩,ny,⟨qA,qn,qc⟩,⟨zA,zn,zc⟩⟩);have iY:=J (h.ext hx0 hN);have HSI:=J (show ny=p.silent from h.silent);have dR:=J (Nat.le_trans hN hx0.size);obtain⟨hn,hf,hok,b,off,hA,hE⟩:=h.params.ext hx0;have hn4:n<=4:=by have:n=p.params.length:=hn;omega
 have hm:=hf.max aj;have HN:=J (show n=p.params.length from hn);have HA:=J hA;have HE:=J hE;have pI:=J (hL.ext hx0);have vJ:=J (hC.ext hx0)
 have lN:=J (show¬SG cb g w.heap.size by
  have h1:=hC.map.lt;have h2:=hC.lt;rintro(h|h)<;>omega)
 have HCG:=J (show cb<w.heap.size/\g<w.heap.size from⟨hC.lt,hC.map.lt⟩);have Ki:=J hpar;have HSK:=J ahi;clear hn hA hE hok hf h hL hC hpar ahi;go_enter func78,ntmps78;go_upto_region 1 with(fail);generalize hW:(w.alloc (.cells (Pc.cells ⟨cn,cse,cst,cv,⟨sA,sn,sc⟩,⟨tA,tn,tc⟩,⟨A,n,cc⟩,⟨yA,yn,yc⟩,ny,⟨qA,qn,qc⟩,⟨zA,zn,zc⟩⟩) 57))=W at hx0 hB0 HE pI vJ iY dR⊢;clear hW;have SE:=J (show w.heap.size<=W.heap.size from hx0.size);have Bw:=J hx0;generalize w.heap.size=pb at hB0 lN HCG SE⊢;have hB0:=J hB0;have hcP:=bC hB0.out;have jh:=hB0.out.lt;clear hx0;go_wp2_with fail
 go_loopw [4,10] (λt4 t10 wr=>∃(j:Nat),j<=n/\t10=.int .i64 j/\wr.ownsRow W.heap.size 9 1 t4 j (aR Aa ((p.params.map Vr.name).take j))/\Ext W wr) (λ_ t10 _=>n - (intOf t10).toNat)
 case atStart=>exact⟨0,Nat.zero_le _,rfl,World.ownsRow_nil _ _ _ _,kR _ _⟩
 case round=>
  obtain⟨j,hj,rfl,ho,hx⟩:=hrel;have HX:=J hx;have HO:=J ho;clear hx ho hcP jh
  by_cases hlt:j<n
  ·have hjl:j<p.params.length:=by have:=HN.out;omega
   have jd:(j:Int)<n:=by omega
   obtain rfl:=HA.out aj;refine M9 ?_;intro hrow hh' hg' hbw;obtain⟨x,hxe⟩:∃x,x=p.params[j]:=⟨_,rfl⟩;rw [<-hxe]at hg'
   have htk:(p.params.map Vr.name).take (j+1)=(p.params.map Vr.name).take j++[x.name]:=by
    rw [List.take_add_one,List.getElem?_map,List.getElem?_eq_getElem hjl,hxe]
    rfl
   have Dp:=J htk;clear hrow hxe htk;have y0:Ext wr _:=((kR (λ_=>False) wr).alloc (.cells (aJ x) 109)).alloc (.cells #[.string x.name] 9);obtain⟨v',w',hrun,ho',hk',_⟩:=Oe (f:=Aa) yh (λ_=>rfl) (λ_=>rfl) ((wr.alloc (.cells (aJ x) 109)).alloc (.cells #[.string x.name] 9)) W.heap.size u4 j ((p.params.map Vr.name).take j) (bD HO.out y0) (wr.heap.size+1) 0 1 1 [x.name] rfl (Row.eZ (aH.new' _ _ _ _ aG)) aj (by have:=y0.size;have:=HX.out.size;have:=SE.out;omega);rw [<-Dp.out]at ho';have HO':=J ho';have akx:=J (show Ext W w' from(HX.out.trans y0).trans' hk' (λi hi e=>by have:=(HO.out.lt i e).1;omega));clear ho' hk' y0;go_upto_region 5 with(fail);go_step
   iterate 4 refine qY ?_
   refine fM rfl (.tmp 14) (.tmp 17) 118 rfl rfl rfl rfl hrun ?_;clear hrun;go_wp2_with fail;go_roundw
   case rel=>exact⟨j+1,hlt,by go_num,HO'.out,akx.out⟩
   case measure=>simp only [intOf];omega
  ·obtain rfl:j=n:=by omega
   have ho:=HO.out;rw [show(p.params.map Vr.name).take j=p.params.map Vr.name from by rw [List.take_of_length_le (by rw [List.length_map,HN.out];omega)]]at ho;obtain⟨B,bc,rfl,hBB,hBS⟩:=LV ho (by rw [List.length_map];exact HN.out) aj
   have HBB:=J (show∀x,B=some x->¬SG cb g x.block from λx hx=>by
    have h1:=(hBB x hx).1;have h2:=HCG.out;have h3:=SE.out;rintro(h|h)<;>omega)
   have HBS:=J hBS;have NS:=J (Nat.le_trans dR.out HX.out.size);have VO:=J (iY.out.ext HX.out dR.out);have HLV:=J (pI.out.ext HX.out);have ZI:=J (bX hB0.out HX.out);have Nu:=J (kR (SG cb g) wr);have wh:=J (vJ.out.ext HX.out);have HWV:=J (Bw.out.trans HX.out);clear ho hBB hBS HO iY pI vJ HE HA;have hcP:=bC (bK ZI.out Nu.out lN.out);have jh:=(bK ZI.out Nu.out lN.out).lt;go_wp2_with fail;clear hcP jh;refine(uQ cb g 0 aj wr N FK K_ hNc NS.out HLV.out p.start κ E0 sA sn sc none 0 0 [] _ Nu.out wh.out VO.out.start (λw' _=>eO.none w' _) (λx hx=>(nomatch hx)) (λs hs=>(nomatch hs))).mono ?_;rintro e w1 ⟨hb,hk⟩;have Nv:=J (Nu.out.trans hk);rw [oI,<-HZ0.out]at hb;clear hk
   cases Z0 with
   |some f=>
    obtain⟨he,-⟩:=hb;subst he;have HR:=J (show X=some f by rw [HX0.out]<;>rfl);have jo:=J ((Kept.ext (S:=SG cb g) HWV.out).trans Nv.out);show _/\_;refine⟨rfl,?_,jo.out⟩;rw [HR.out]
    rfl
   |none=>
    obtain⟨he,hc⟩:=hb;subst he;have SH:=J hc;have eH:=J (show X=ay Z1 (ay Z2 (ay Z3 Z4))by rw [HX0.out]<;>rfl);clear hc HX0;have hcP:=bC (bK ZI.out Nv.out lN.out);have jh:=(bK ZI.out Nv.out lN.out).lt;go_wp2_with fail;clear hcP jh;refine(uQ cb g 1 aj wr N FK K_ hNc NS.out HLV.out p.turn κ (bZ 0) tA tn tc none 0 0 [] _ Nv.out SH.out VO.out.turn (λw' _=>eO.none w' _) (λx hx=>(nomatch hx)) (λs hs=>(nomatch hs))).mono ?_;rintro e w2 ⟨hb,hk⟩;have sQ:=J (Nv.out.trans hk);rw [oI,<-HZ1.out]at hb;clear hk
    cases Z1 with
    |some f=>
     obtain⟨he,-⟩:=hb;subst he;have HR:=J (show X=some f by rw [eH.out]<;>rfl);have jo:=J ((Kept.ext (S:=SG cb g) HWV.out).trans sQ.out);show _/\_;refine⟨rfl,?_,jo.out⟩;rw [HR.out]
     rfl
    |none=>
     obtain⟨he,hc⟩:=hb;subst he;have NK:=J hc;have eU:=J (show X=ay Z2 (ay Z3 Z4)by rw [eH.out]<;>rfl);clear hc eH;have hcP:=bC (bK ZI.out sQ.out lN.out);have jh:=(bK ZI.out sQ.out lN.out).lt;go_wp2_with fail;clear hcP jh;refine(uQ cb g 2 aj wr N FK K_ hNc NS.out HLV.out p.play κ (bZ 1) yA yn yc B j bc (p.params.map Vr.name) _ sQ.out NK.out VO.out.play (λw' hk=>HBS.out.ahp (sQ.out.trans hk) HBB.out (sQ.out.trans hk).size) (λx hx e=>HBB.out x hx (Or.inr e)) (λs hs=>by obtain⟨v,hv,rfl⟩:=List.mem_map.1 hs;exact Ki.out v hv)).mono ?_;rintro e w3 ⟨hb,hk⟩;have JO:=J (sQ.out.trans hk);rw [<-HZ2.out]at hb;clear hk
     cases Z2 with
     |some f=>
      obtain⟨he,-⟩:=hb;subst he;have HR:=J (show X=some f by rw [eU.out]<;>rfl);have jo:=J ((Kept.ext (S:=SG cb g) HWV.out).trans JO.out);show _/\_;refine⟨rfl,?_,jo.out⟩;rw [HR.out]
      rfl
     |none=>
      obtain⟨he,hc⟩:=hb;subst he;have tH:=J hc;have iZ:=J (show X=ay Z3 Z4 by rw [eU.out]<;>rfl);clear hc eU;have hcP:=bC (bK ZI.out JO.out lN.out);have jh:=(bK ZI.out JO.out lN.out).lt;go_wp2_with fail;clear hcP jh;have y3:=(kR (λ_=>False) w3).alloc (.cells #[.string ny] 9);have HB3:=J (show¬SG cb g w3.heap.size by have h1:=tH.out.map.lt;have h2:=tH.out.lt;rintro(h|h)<;>omega);have HRW:=J (Row.eZ (bN w3 9 #[.string ny]));refine(uQ cb g 3 aj wr N FK K_ hNc NS.out HLV.out p.quiet κ (bZ 2) qA qn qc (some ⟨w3.heap.size,0,none⟩) 1 1 [ny] _ (JO.out.trans (Kept.ext y3)) (tH.out.ext y3) VO.out.quiet (λw' hk=>⟨rfl,by omega,w3.heap.size,0,λ_=>rfl,λ_=>⟨(HRW.out.kept hk HB3.out).lt,HRW.out.kept hk HB3.out⟩⟩) (λx hx e=>by cases hx;exact HB3.out (Or.inr e)) (λs hs=>by rw [List.mem_singleton.1 hs,HSI.out];exact HSK.out)).mono ?_;rintro e w4 ⟨hb,hk⟩;have xG:=J ((JO.out.trans (Kept.ext y3)).trans hk);rw [HSI.out,<-HZ3.out]at hb;clear hk y3
      cases Z3 with
      |some f=>
       obtain⟨he,-⟩:=hb;subst he;have HR:=J (show X=some f by rw [iZ.out]<;>rfl);have jo:=J ((Kept.ext (S:=SG cb g) HWV.out).trans xG.out);show _/\_;refine⟨rfl,?_,jo.out⟩;rw [HR.out]
       rfl
      |none=>
       obtain⟨he,hc⟩:=hb;subst he;have HC4:=J hc;have fZ:=J (show X=Z4 by rw [iZ.out]<;>rfl);clear hc iZ;have hcP:=bC (bK ZI.out xG.out lN.out);have jh:=(bK ZI.out xG.out lN.out).lt;go_wp2_with fail;clear hcP jh;refine(uQ cb g 4 aj wr N FK K_ hNc NS.out HLV.out p.pays κ (bZ 3) zA zn zc none 0 0 [] _ xG.out HC4.out VO.out.pays (λw' _=>eO.none w' _) (λx hx=>(nomatch hx)) (λs hs=>(nomatch hs))).mono ?_;rintro e w5 ⟨hb,hk⟩;have pG:=J (xG.out.trans hk);rw [oI,<-JV.out]at hb;clear hk
       cases Z4 with
       |some f=>
        obtain⟨he,-⟩:=hb;subst he;have HR:=J (show X=some f by rw [fZ.out]<;>rfl);have jo:=J ((Kept.ext (S:=SG cb g) HWV.out).trans pG.out);show _/\_;refine⟨rfl,?_,jo.out⟩;rw [HR.out]
        rfl
       |none=>
        obtain⟨he,hc⟩:=hb;subst he;have HC5:=J hc;have kg:=J (show X=none by rw [fZ.out]<;>rfl);clear hc fZ;go_wp2_with fail;go_end0;rw [kg.out];exact⟨rfl,(Kept.ext (S:=SG cb g) HWV.out).trans pG.out⟩
end Go.Proofs.YtbfbabbcdochjaaGreatDoor
