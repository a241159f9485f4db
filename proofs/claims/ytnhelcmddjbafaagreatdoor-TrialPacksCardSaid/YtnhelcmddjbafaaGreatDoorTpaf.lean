import Derived.Laws.MakeOwn
import Derived.Laws.OwnMore
import Derived.Test.YtnhelcmddjbafaaGreatDoorTpae
set_option maxHeartbeats 4000000
set_option maxRecDepth 100000
open Go.Proofs.Tryz
namespace Go.Proofs.YtnhelcmddjbafaaGreatDoor
open Go.RowKit
section
open Sq
variable{dst:Option Tmp}{pos:String}{after:Array Edge}{guard:Option (Nat×Bool)}{K:Act->World->Prop}{ρ:Operand->Value}
theorem Wh (l:List Vr) (s:Str) (h:fm l s=0):l.find? (λv=>decide (v.name=s))=none:=by
 unfold fm at h
 cases hf:l.find? (λv=>decide (v.name=s))with
 |none=>rfl
 |some v=>rw [hf]at h;simp only at h;split at h<;>omega
theorem Wi (l:List Vr) (v:Vr) (h:fm l v.name=0):∀t,(λt=>if t=v.name then some (Value.int .i64 (if 0<v.size then 1 else 0))else Gt (fm l) t) t=Gt (fm (l++[v])) t:=by
 intro t;have hf:=Wh l v.name h
 by_cases e:t=v.name
 .subst e
  have:fm (l++[v]) v.name=if 0<v.size then 2 else 1:=by
   unfold fm;rw [List.find?_append,hf];simp
  simp only [if_true];unfold Gt;rw [this]
  split<;>simp
 .have e2:¬v.name=t:=λq=>e q.symm
  have:fm (l++[v]) t=fm l t:=by
   unfold fm;rw [List.find?_append];simp [e2]
  simp only [af e];unfold Gt;rw [this]
theorem XC (cb g:Nat) (c:Pc) (p:Pr) (N:Nat) (rA:5<N) (Jo:N<=g) (Jn:N<=cb) (w:World) (hN:N<=w.heap.size) (h:nj w N c p) (hL:eQ w) (hC:Ck w cb g (λ_=>0) E0 0):
 Calls prog 192 #[.pointer (some ⟨cb,0,none⟩),.agg c.cells] w λe w'=>Ua cb g (fm p.vars) E0 0 (aj (eG [] p.vars) (must (decide (cells p.vars<=64)) 8 qP)) e w'/\Kept (SG cb g) w w':=by
 obtain⟨X,hX⟩:=nm' (aj (eG [] p.vars) (must (decide (cells p.vars<=64)) 8 qP));rw [<-hX];have HX:=J hX.symm;clear hX;have qS:=J (show∀j,SG cb g j->N<=j from λj h=>by rcases h with h|h<;>omega);have nw:=hC.map.lt;have hc2:=hC.lt;obtain⟨cn,jY,ld,⟨A,n,cc⟩,cs,ct,ry,iD,mj,cq,oH⟩:=c;have aF:=dY w (.cells (Pc.cells ⟨cn,jY,ld,⟨A,n,cc⟩,cs,ct,ry,iD,mj,cq,oH⟩) 163);have eY:=bN w 163 (Pc.cells ⟨cn,jY,ld,⟨A,n,cc⟩,cs,ct,ry,iD,mj,cq,oH⟩);have jh:=J (h.ext aF hN);have fX:=J (ax hN aF.size);obtain⟨hn,hf,hok,b,off,hA,hE⟩:=h.vars.ext aF;refine xP ?_;intro hm HN HA HE;have⟨lm,wU,sY,ku⟩:=J4' hok (hL.ext aF) (hC.ext aF) (show¬SG cb g w.heap.size by rintro(h|h)<;>omega);clear hn hA hE hok hf h hL hC nw hc2;go_enter func192,ntmps192;go_upto_region 1 with(fail);generalize hW:(w.alloc (.cells (Pc.cells ⟨cn,jY,ld,⟨A,n,cc⟩,cs,ct,ry,iD,mj,cq,oH⟩) 163))=W at aF eY HE wU sY jh fX⊢;clear hW;generalize w.heap.size=pb at eY ku⊢;have eY:=J eY;have dS:=J aF;have gY:=bC eY.o;have gU:=eY.o.lt;clear aF;go_wp2_with fail
 go_loopw [9] (λt9 wr=>∃(j:Nat),j<=n/\t9=.int .i64 j/\aj (eG (p.vars.take j) (p.vars.drop j)) (must (decide (cells p.vars<=64)) 8 qP)=X/\Ck wr cb g (fm (p.vars.take j)) E0 0/\Kept (SG cb g) W wr) (λt9 _=>n - (intOf t9).toNat)
 case atStart=>exact⟨0,cI _,rfl,HX.o,⟨sY.o.blk,sY.o.map.nR (λt=>rfl)⟩,kR _ _⟩
 case round=>
  obtain⟨j,hj,rfl,bw,Ju,hx⟩:=hrel;have⟨ca,mw,DC⟩:=J3' bw hx Ju;clear bw hx Ju gY gU;have gY:=bC (bK eY.o mw.o ku.o);have gU:=(bK eY.o mw.o ku.o).lt
  by_cases aP:j<n
  .have d_:j<p.vars.length:=by have:=HN.o;omega
   have gD:(j:Int)<n:=by omega
   obtain rfl:=HA.o ad;have ny:=(HE.o ad);have aE:=ny.2.kept mw.o (λq=>by have:=qS.o _ q;have:=ny.1;omega);obtain⟨jx,hg'⟩:=oB aE j d_;have gB:=aE.lt;obtain⟨x,fj⟩:=nm' (p.vars[j]);have HVO:=J (lm.o x abt);have oc:p.vars.drop j=x::p.vars.drop (j+1):=by rw [fj];exact q_ d_
   have pd:p.vars.take (j+1)=p.vars.take j++[x]:=by rw [fj,lq,List.getElem?_eq_getElem d_];rfl
   rw [<-fj]at hg';have bw:=ca.o;rw [oc]at bw;have Ej:=J pd;obtain⟨Y,hY⟩:=nm' (aj (eG (p.vars.take j++[x]) (p.vars.drop (j+1))) (must (decide (cells p.vars<=64)) 8 qP));obtain⟨κ,T9⟩:=nm' (fm (p.vars.take j));have YA:=J hY;rw [<-T9]at DC;have je:=J T9;obtain⟨v,hv⟩:=nm' (κ x.name);have HV:=J hv
   have gf:aoR (X=aj (must (dq x.name) 6 x.name) (aj (must (v==0) 7 x.name) (aj (must (iL x.size 0 64&&span x) 2 x.name) Y))):=J (by
    rw [<-bw,hY,hv,T9,eG,du,du,du])
   clear aE ny fj bw oc pd hY T9 hv ca;have y0:=dY wr (.cells (aZ x) 232);have Ge:=bN wr 232 (aZ x);go_upto_region 4 with(fail);clear jx hg' gB gY gU;have HZ:=J (mw.o.trans (Kept.ext y0));have Zi:=J (DC.o.ext y0)
   have HEB:=J (show¬SG cb g wr.heap.size by
    have h1:=DC.o.map.lt;have h2:=DC.o.lt;rintro(h|h)<;>omega)
   generalize kX:(wr.alloc (.cells (aZ x) 232))=W1 at y0 Ge HZ Zi⊢;generalize wr.heap.size=eb at Ge HEB⊢;have hV:=J Ge;clear kX y0 Ge mw DC;have HLZ:=J (wU.o.kept HZ.o (λk hk h=>by have:=qS.o k h;omega));refine fH (λw1=>al W1 w1) [(0,2),(1,1),(3,2),(4,1),(2,0),(5,0)] ?_;refine fI ?_;have cC:=J (pg W1)
   repeat first|refine cx ?_|refine de cC.o abm ?_|refine dc cC.o ?_
   refine au (λK hK=>?_);go_simp;refine(lU x.name HVO.o.name _ (HLZ.o.ext cC.o)).mono ?_;refine To ?_;intro w1 dQ;clear hK K
   repeat first|refine cx ?_|refine de dQ.o abm ?_|refine dc dQ.o ?_
   refine dG aV aV (λK hK=>?_);go_simp;have gZ:=J ((Kept.ext (S:=SG cb g) dS.o).trans (HZ.o.trans (Kept.ext dQ.o)));have pO:=J (Zi.o.ext dQ.o)
   cases hn:dq x.name
   .have HR:=J (show X=some ⟨6,x.name⟩by rw [gf.o,hn];rfl)
    exact Lf
   .have gq:=J (show X=aj (must (v==0) 7 x.name) (aj (must (iL x.size 0 64&&span x) 2 x.name) Y)by rw [gf.o,hn];rfl)
    clear gf hn;refine(aW true _ _ _).mono ?_;rintro e w8 ⟨he,rfl⟩;have he:=cK.none he;subst he;refine hK.out _ _ ?_;clear hK K;refine fx ?_;clear gZ pO;go_upto_region 5 with(fail);refine fH (λw2=>al w1 w2) [(0,2),(1,2),(2,1),(5,2),(6,1),(3,0),(4,2),(7,0)] ?_;refine fI ?_;have eE:=J (pg w1)
    repeat first|refine cx ?_|refine de eE.o ajz ?_|refine dc eE.o ?_
    refine au (λK hK=>?_);go_simp;refine aoT (kZ cb g κ E0 0 x.name _ (Zi.o.ext (dQ.o.trans eE.o))) ?_;rw [<-HV.o];refine hK.out _ _ (λ_=>eE.o) ?_;clear hK K
    repeat first|refine cx ?_|refine de eE.o ajz ?_|refine dc eE.o ?_
    refine dG aV aV (λK hK=>?_);go_simp;have fp:=J (dQ.o.trans eE.o);have gZ:=J ((Kept.ext (S:=SG cb g) dS.o).trans (HZ.o.trans (Kept.ext fp.o)));have pO:=J (Zi.o.ext fp.o)
    by_cases i':v=0
    .have qv:(v !=0)=false:=by simp [i']
     have eU:=J (show X=aj (must (iL x.size 0 64&&span x) 2 x.name) Y by rw [gq.o,i'];rfl)
     try rw [qv]
     try simp only [Bool.not_false]
     refine(aW true _ _ _).mono ?_;rintro e w8 ⟨he,rfl⟩;have he:=cK.none he;subst he;refine hK.out _ _ ?_;clear hK K;refine fx ?_;clear gZ pO gq;have qV:=J (show fm (p.vars.take j) x.name=0 by rw [<-je.o,<-HV.o,i']);clear qv i';go_upto_region 6 with(fail);generalize Jq:w1.drew=W2 at fp⊢;clear Jq
     cases hb:iL x.size 0 64
     .have HR:=J (show X=some ⟨2,x.name⟩by rw [eU.o,hb];rfl)
      refine fH (λw2=>al W2 w2) [(0,2),(1,1),(7,2),(8,1),(2,0),(3,2),(4,1),(5,0),(6,2),(9,0)] ?_;refine fI ?_;have qU:=J (pg W2);refine X5 ?_;refine au (λK hK=>?_);go_simp;refine aoT (fg _ _ _ _) ?_;rw [hb];refine hK.out _ _ (λ_=>qU.o) ?_;clear hK K;refine X5 ?_;refine au (λK hK=>?_);go_simp;refine hK.out _ _ (λh=>h) ?_;clear hK K;refine X5 ?_;refine dG aV aV (λK hK=>?_);go_simp;have gZ:=J ((Kept.ext (S:=SG cb g) dS.o).trans (HZ.o.trans (Kept.ext (fp.o.trans qU.o))));have pO:=J (Zi.o.ext (fp.o.trans qU.o));exact Lf
     .refine fH (λw2=>al W2 w2) [(0,2),(1,1),(7,2),(8,1),(2,0),(3,2),(4,1),(5,0),(6,2),(9,0)] ?_;refine fI ?_
      have qU:=J (pg W2);refine X5 ?_;refine au (λK hK=>?_);go_simp;refine aoT (fg _ _ _ _) ?_;rw [hb];refine hK.out _ _ (λ_=>qU.o) ?_;clear hK K;refine X5 ?_;refine au (λK hK=>?_);go_simp;refine aoS (vQ x _) λw2 bd=>?_;have Zy:=J (qU.o.trans bd);clear bd;refine hK.out _ _ (λ_=>Zy.o) ?_;clear hK K
      repeat first|refine cx ?_|refine de Zy.o ajt ?_|refine dc Zy.o ?_
      refine dG aV aV (λK hK=>?_);go_simp;have fL:=J (fp.o.trans Zy.o);have gZ:=J ((Kept.ext (S:=SG cb g) dS.o).trans (HZ.o.trans (Kept.ext fL.o)));have pO:=J (Zi.o.ext fL.o)
      cases hsp:span x
      .have HR:=J (show X=some ⟨2,x.name⟩by rw [eU.o,hb,hsp];rfl)
       exact Lf
      .have kv:=J (show X=Y by rw [eU.o,hb,hsp];rfl)
       refine(aW true _ _ _).mono ?_;rintro e w8 ⟨he,rfl⟩;have he:=cK.none he;subst he;refine hK.out _ _ ?_;clear hK K;refine fx ?_;clear gZ eU hb hsp;go_upto_region 7 with(fail);have Lr:=pO;clear pO;obtain⟨w3,dz,qW,jR⟩:=dy.put (P:=prog) (Lr.o.map.ext (pg w2)) underlying280 underlying9 x.name (.int .i64 0);have⟨Yx,LU,mS,HEG⟩:=J4' qW ((Kept.ext (S:=(·=g)) (pg w2)).trans jR) Lr.o.ne (show¬eb=g from λe=>HEB.o (Or.inl e));clear qW jR;refine fH (λw4=>Kept (·=g) w2 w4) [(0,2),(1,2),(2,2),(3,1),(4,2),(5,1),(6,0)] ?_;refine fI ?_;have HT0:=J (show Kept (·=g) w2 w2.drew from(kR _ w2).drew)
       repeat first|refine cx ?_|refine de HT0.o (by intro w1 hS;have c4:=bK Lr.o.blk hS mS.o;have c5:=bC c4;have c6:=c4.lt;have d4:=bK (bX hV.o fL.o) hS HEG.o;have d5:=bC d4;have d6:=d4.lt;exact fV) ?_|refine dc HT0.o ?_
       refine au (λK hK=>?_);go_simp;refine hK.out _ _ (λ_=>LU.o) ?_;clear hK K;refine fx ?_;clear dz;have MF:=bC (bK (bX hV.o fL.o) LU.o HEG.o);have MI:=(bK (bX hV.o fL.o) LU.o HEG.o).lt;have HSN:=J (Wi (p.vars.take j) x qV.o)
       by_cases hz:x.size>0
       .go_upto_region 9 with(fail)
        clear MF MI;have L_:=J hz;clear hz;obtain⟨w5,dz,qW,jR⟩:=dy.put (P:=prog) (Yx.o.ext (pg w3)) underlying280 underlying9 x.name (.int .i64 1);have oQ:=J qW;have Eg:=J ((Kept.ext (S:=(·=g)) (pg w3)).trans jR);clear qW jR;refine fH (λw4=>Kept (·=g) w3 w4) [(0,2),(1,2),(2,2),(3,1),(4,2),(5,1),(6,0)] ?_;refine fI ?_;have HT0:=J (show Kept (·=g) w3 w3.drew from(kR _ w3).drew)
        repeat first|refine cx ?_|refine de HT0.o (by intro w1 hS;have c4:=bK Lr.o.blk (LU.o.trans hS) mS.o;have c5:=bC c4;have c6:=c4.lt;have d4:=bK (bX hV.o fL.o) (LU.o.trans hS) HEG.o;have d5:=bC d4;have d6:=d4.lt;exact fV) ?_|refine dc HT0.o ?_
        refine au (λK hK=>?_);go_simp;refine hK.out _ _ (λ_=>Eg.o) ?_;clear hK K;refine fx ?_;clear dz;go_wp2_with fail
        exact⟨⟨j+1,aP,by go_num,by rw [Ej.o,<-YA.o,kv.o],⟨bK Lr.o.blk (LU.o.trans Eg.o) mS.o,oQ.o.nR (λt=>by
         rw [Ej.o,<-HSN.o t,ak L_.o,je.o]
         by_cases e:t=x.name
         .simp only [ak e]
         .simp only [af e])⟩,HZ.o.trans ((Kept.ext fL.o).trans ((LU.o.trans Eg.o).mono (λ_ _ h=>Or.inl h)))⟩,by simp only [intOf];omega⟩
       .go_wp2_with fail
        exact⟨⟨j+1,aP,by go_num,by rw [Ej.o,<-YA.o,kv.o],⟨bK Lr.o.blk LU.o mS.o,Yx.o.nR (λt=>by
         rw [Ej.o,<-HSN.o t,af (show¬0<x.size from hz),je.o])⟩,HZ.o.trans ((Kept.ext fL.o).trans (LU.o.mono (λ_ _ h=>Or.inl h)))⟩,by simp only [intOf];omega⟩
    .have qv:(v !=0)=true:=by simp [i']
     have qn:(v==0)=false:=by simp [i']
     have HR:=J (show X=some ⟨7,x.name⟩by rw [gq.o,qn];rfl)
     try rw [qv]
     try simp only [uM]
     exact Lf
  .obtain rfl:j=n:=by omega
   have Ii:=J (show X=must (decide (cells p.vars<=64)) 8 qP by
    rw [<-ca.o,HN.o,tp];rfl)
   have Yq:=J (show Ck wr cb g (fm p.vars) E0 0 from by have h:=DC.o;rwa [HN.o,jr]at h);have lf:=bG (bK eY.o mw.o ku.o);have lh:=bH (bK eY.o mw.o ku.o);clear ca DC;go_wp2_with fail;refine aoS (Cv ⟨cn,jY,ld,⟨A,j,cc⟩,cs,ct,ry,iD,mj,cq,oH⟩ p N _ (ax fX.o mw.o.size) (jh.o.kept mw.o fX.o qS.o)) λw1 aw=>?_;have gZ:=J ((Kept.ext (S:=SG cb g) dS.o).trans (mw.o.trans (Kept.ext aw)));have pO:=J (Yq.o.ext aw);clear lf lh gY gU aw
   by_cases h64:cells p.vars<=64
   .have HR:=J (show X=none by rw [Ii.o,cJ h64];rfl)
    go_wp2_with fail;refine(aW true _ _ _).mono ?_;rintro e w2 ⟨he,rfl⟩;have he:=cK.none he;subst he;go_wp2_with fail;go_end0;rw [HR.o];exact⟨⟨rfl,pO.o⟩,gZ.o⟩
   .have HR:=J (show X=some ⟨8,qP⟩by rw [Ii.o,cT h64];rfl)
    go_wp2_with fail;rw [cT (show¬cells p.vars<=64 by omega)];exact Lf
def rp (l:List Vr):ByteArray->Option Value:=λt=>if l.any (λu=>decide (u.name=t))=true then some (.bool true)else none
theorem IZ (l:List Vr) (x:Vr):∀t,(λt=>if t=x.name then some (.bool true)else rp l t) t=rp (l++[x]) t:=by
 intro t;unfold rp;rw [List.any_append]
 by_cases h:t=x.name
 .subst h;simp
 .have:¬x.name=t:=λe=>h e.symm
  have h2:decide (x.name=t)=false:=cT this;simp only [List.any_cons,List.any_nil,h2,Bool.or_false];rw [af h]
theorem L6 (l:List Vr) (s:Str):(rp l s).getD (.bool false)=.bool (l.any (λu=>decide (u.name=s))):=by
 unfold rp
 cases h:l.any (λu=>decide (u.name=s))<;>rfl
theorem Ox (w:World):(zeroValue 4).run prog w=.ok (.bool false) w:=by
 first|kernel_rfl|rfl
theorem agH {w:World} {mb:Nat} {l:List Vr} (h:dy w mb (rp l)) (s:Str):(Instr.lookup 340 (.map (some mb)) (.string s) false).run prog w=.ok (.bool (l.any (λu=>decide (u.name=s)))) w:=by
 have su:=dy.look (P:=prog) h underlying340 underlying9 (z:=.bool false) Ox s;rw [su,L6]
theorem Ck.kept {S:Nat->Prop} {w w':World} {cb g:Nat} {κ:Kn} {part:Str} {aO:Nat} (h:Ck w cb g κ part aO) (hk:Kept S w w') (h1:¬S cb) (h2:¬S g):Ck w' cb g κ part aO:=⟨bK h.blk hk h1,h.map.kept hk h2⟩
theorem WR (cb g:Nat) (κ:Kn) (c:Pc) (p:Pr) (N:Nat) (rA:5<N) (w:World) (hN:N<=w.heap.size) (h:nj w N c p) (hL:eQ w) (hC:Ck w cb g κ E0 0):
 Calls prog 193 #[.pointer (some ⟨cb,0,none⟩),.agg c.cells] w λe w'=>Ua cb g κ E0 0 (aj (must (decide (p.params.length<=4)) 8 fJ) (aj (dE κ [] p.params) (must (decide (mL p.params<=512)) 8 fJ))) e w'/\al w w':=by
 obtain⟨X,hX⟩:=nm' (aj (must (decide (p.params.length<=4)) 8 fJ) (aj (dE κ [] p.params) (must (decide (mL p.params<=512)) 8 fJ)));rw [<-hX];have HX:=J hX;clear hX;obtain⟨cn,jY,ld,cv,cs,ct,⟨A,n,cc⟩,iD,mj,cq,oH⟩:=c;have aF:=dY w (.cells (Pc.cells ⟨cn,jY,ld,cv,cs,ct,⟨A,n,cc⟩,iD,mj,cq,oH⟩) 163);have eY:=bN w 163 (Pc.cells ⟨cn,jY,ld,cv,cs,ct,⟨A,n,cc⟩,iD,mj,cq,oH⟩);have jh:=J (h.ext aF hN);have fX:=J (ax hN aF.size);obtain⟨hn,hf,hok,b,off,hA,hE⟩:=h.params.ext aF;have hm:=hf.max ad;have⟨HN,HA,HE,lm,wU,LR⟩:=J6' (show n=p.params.length from hn) hA hE hok (hL.ext aF) hC;clear hn hA hE hok hf h hL hC;have Dq:=@run_makeMap prog;go_enter func193,ntmps193;go_upto_region 1 with(fail);generalize hW:(w.alloc (.cells (Pc.cells ⟨cn,jY,ld,cv,cs,ct,⟨A,n,cc⟩,iD,mj,cq,oH⟩) 163))=W at aF eY HE wU jh fX⊢;clear hW;generalize w.heap.size=pb at eY⊢;have eY:=J eY;have dS:=J aF;have gY:=bC eY.o;have gU:=eY.o.lt;clear aF
 by_cases h4:(n:Int)<=4
 .have ji:=J (show X=aj (dE κ [] p.params) (must (decide (mL p.params<=512)) 8 fJ)by
   rw [HX.o,cJ (show p.params.length<=4 by have:=HN.o;omega)];rfl)
  go_wp21;refine(aW true _ _ _).mono ?_;rintro e w8 ⟨he,rfl⟩;have he:=cK.none he;subst he;clear h4 HX;go_upto_region 3 with(fail);have hM:=dy.made W;have y0:=dY W (.map #[] 0);generalize kX:(W.alloc (.map #[] 0))=W1 at hM y0⊢;clear kX;have⟨zY,Ud,ku⟩:=J3' (hM.nR (f':=rp []) (λt=>rfl)) (show N<=W.heap.size/\w.heap.size<=W.heap.size from⟨fX.o,dS.o.size⟩) (show¬pb=W.heap.size from λe=>by have:=eY.o.lt;omega);generalize W.heap.size=mb at zY Ud ku⊢;have cC:=J y0;clear hM y0 gY gU;have gY:=bC (bX eY.o cC.o);have gU:=(bX eY.o cC.o).lt;go_wp21
  go_loopw [16] (λt16 wr=>∃(j:Nat),j<=n/\t16=.int .i64 j/\aj (dE κ (p.params.take j) (p.params.drop j)) (must (decide (mL p.params<=512)) 8 fJ)=X/\dy wr mb (rp (p.params.take j))/\Kept (·=mb) W1 wr) (λt16 _=>n - (intOf t16).toNat)
  case atStart=>exact⟨0,cI _,rfl,ji.o.symm,zY.o,kR _ _⟩
  case round=>
   obtain⟨j,hj,rfl,bw,hmp,hx⟩:=hrel;have⟨ca,mw,Tz,zv⟩:=J4' bw hx hmp (show al w wr from(dS.o.trans cC.o).trans' hx (λi hi e=>by have:=Ud.o.2;omega));clear bw hx hmp gY gU;have gY:=bC (bK (bX eY.o cC.o) mw.o ku.o);have gU:=(bK (bX eY.o cC.o) mw.o ku.o).lt
   by_cases aP:j<n
   .have d_:j<p.params.length:=by have:=HN.o;omega
    have gD:(j:Int)<n:=by omega
    obtain rfl:=HA.o ad;have ny:=(HE.o ad);have aE:=(ny.2.ext cC.o).kept mw.o (λq=>by have:=Ud.o;have:=ny.1;omega);obtain⟨jx,hg'⟩:=oB aE j d_;have gB:=aE.lt;obtain⟨x,fj⟩:=nm' (p.params[j]);have HVO:=J (lm.o x abt);have oc:p.params.drop j=x::p.params.drop (j+1):=by rw [fj];exact q_ d_
    have pd:p.params.take (j+1)=p.params.take j++[x]:=by rw [fj,lq,List.getElem?_eq_getElem d_];rfl
    rw [<-fj]at hg';have bw:=ca.o;rw [oc]at bw;have Ej:=J pd;obtain⟨Y,hY⟩:=nm' (aj (dE κ (p.params.take j++[x]) (p.params.drop (j+1))) (must (decide (mL p.params<=512)) 8 fJ));have YA:=J hY;obtain⟨v,hv⟩:=nm' (κ x.name);have HV:=J hv;obtain⟨ah,hah⟩:=nm' ((p.params.take j).any (λu=>decide (u.name=x.name)));have HAH:=J hah
    have gf:aoR (X=aj (must (dq x.name) 6 x.name) (aj (must (v==0&&!ah) 7 x.name) (aj (must (x.size==0) 3 x.name) (aj (must (span x) 2 x.name) Y)))):=J (by
     rw [<-bw,hY,hv,hah,dE,du,du,du,du])
    clear aE ny fj bw oc pd hY hv hah ca;have y1:=dY wr (.cells (aZ x) 232);have Ge:=bN wr 232 (aZ x);go_upto_region 6 with(fail);clear jx hg' gB gY gU;have⟨HZ,HZW,DF⟩:=J3' (mw.o.trans (Kept.ext y1)) (zv.o.trans y1) (Tz.o.ext y1)
    have HEB:=J (show¬wr.heap.size=mb by
     have h1:=Tz.o.lt
     omega)
    generalize Jq:(wr.alloc (.cells (aZ x) 232))=W2 at y1 Ge HZ HZW DF⊢;generalize wr.heap.size=eb at Ge HEB⊢;have hV:=J Ge;clear Jq y1 Ge mw Tz zv;have HLZ:=J ((wU.o.ext cC.o).kept HZ.o (λk hk h=>by have:=Ud.o;omega));refine fH (λw1=>al W2 w1) [(0,2),(1,1),(3,2),(4,1),(2,0),(5,0)] ?_;refine fI ?_;have dQ:=J (pg W2)
    repeat first|refine cx ?_|refine de dQ.o abm ?_|refine dc dQ.o ?_
    refine au (λK hK=>?_);go_simp;refine aoS (lU x.name HVO.o.name _ (HLZ.o.ext dQ.o)) λw1 aw=>?_;have fp:=J (dQ.o.trans aw);clear aw;refine hK.out _ _ (λ_=>fp.o) ?_;clear hK K
    repeat first|refine cx ?_|refine de fp.o abm ?_|refine dc fp.o ?_
    refine dG aV aV (λK hK=>?_);go_simp;have gZ:=J (HZW.o.trans fp.o)
    cases hn:dq x.name
    .have HR:=J (show X=some ⟨6,x.name⟩by rw [gf.o,hn];rfl)
     exact Tq
    .have gq:=J (show X=aj (must (v==0&&!ah) 7 x.name) (aj (must (x.size==0) 3 x.name) (aj (must (span x) 2 x.name) Y))by rw [gf.o,hn];rfl)
     clear gf hn;refine(aW true _ _ _).mono ?_;rintro e w8 ⟨he,rfl⟩;have he:=cK.none he;subst he;refine hK.out _ _ ?_;clear hK K;refine fx ?_;clear gZ;go_upto_region 7 with(fail);have HLK:=J (show∀w',al w1 w'->(Instr.lookup 340 (.map (some mb)) (.string x.name) false).run prog w'=.ok (.bool ah) w' from λw' hk=>by rw [agH (DF.o.ext (fp.o.trans hk)),HAH.o])
     by_cases i':v=0
     .have qv:(v !=0)=false:=by simp [i']
      have eU:=J (show X=aj (must (!ah) 7 x.name) (aj (must (x.size==0) 3 x.name) (aj (must (span x) 2 x.name) Y))by rw [gq.o,i'];rfl);refine ajR ?_;intro eE K hK;rintro e w2 ⟨rfl,rfl⟩;rw [<-HV.o,qv];refine hK.out _ _ (λ_=>eE.o) ?_;clear hK K
      repeat first|refine cx ?_|refine de eE.o aft ?_|refine dc eE.o ?_
      refine dG aV aV (λK hK=>?_);go_simp;have fL:=J (fp.o.trans eE.o);have gZ:=J (HZW.o.trans fL.o)
      cases ah
      .have kv:=J (show X=aj (must (x.size==0) 3 x.name) (aj (must (span x) 2 x.name) Y)from eU.o)
       try simp only [Bool.not_false]
       refine(aW true _ _ _).mono ?_;rintro e w8 ⟨he,rfl⟩;have he:=cK.none he;subst he;refine hK.out _ _ ?_;clear hK K;refine fx ?_;clear gq eU gZ;go_upto_region 8 with(fail);generalize Vl:w1.drew=W3 at fL⊢;clear Vl;have MF:=bC (bX hV.o fL.o);have MI:=(bX hV.o fL.o).lt;have gZ:=J (HZW.o.trans fL.o);go_wp21
       cases hq:(x.size==0)
       .have HR:=J (show X=some ⟨3,x.name⟩by rw [kv.o,hq];rfl)
        exact Tq
       .have tm:=J (show X=aj (must (span x) 2 x.name) Y by rw [kv.o,hq];rfl)
        refine(aW true _ _ _).mono ?_;rintro e w8 ⟨he,rfl⟩;have he:=cK.none he;subst he;clear MF MI hq kv gZ;go_upto_region 9 with(fail);refine fH (λw2=>al W3 w2) [(0,1),(2,2),(3,1),(1,0),(4,0)] ?_;refine fI ?_;have qU:=J (pg W3)
        repeat first|refine cx ?_|refine de qU.o aju ?_|refine dc qU.o ?_
        refine au (λK hK=>?_);go_simp;refine aoS (vQ x _) λw2 bd=>?_;have Zy:=J (qU.o.trans bd);clear bd;refine hK.out _ _ (λ_=>Zy.o) ?_;clear hK K
        repeat first|refine cx ?_|refine de Zy.o aju ?_|refine dc Zy.o ?_
        refine dG aV aV (λK hK=>?_);go_simp;have lp:=J (fL.o.trans Zy.o);have gZ:=J (HZW.o.trans lp.o)
        cases hsp:span x
        .have HR:=J (show X=some ⟨2,x.name⟩by rw [tm.o,hsp];rfl)
         exact Tq
        .have Ih:=J (show X=Y by rw [tm.o,hsp];rfl)
         refine(aW true _ _ _).mono ?_;rintro e w8 ⟨he,rfl⟩;have he:=cK.none he;subst he;refine hK.out _ _ ?_;clear hK K;refine fx ?_;clear hsp tm;have MF:=bC (bX hV.o lp.o);have MI:=(bX hV.o lp.o).lt;obtain⟨w5,dz,qW,jR⟩:=dy.put (P:=prog) (DF.o.ext lp.o) underlying340 underlying9 x.name (.bool true);have oQ:=J qW;have Eg:=J jR;clear qW jR;go_wp21;exact⟨⟨j+1,aP,by go_num,by rw [Ej.o,<-YA.o,Ih.o],oQ.o.nR (λt=>by rw [Ej.o];exact IZ (p.params.take j) x t),HZ.o.trans ((Kept.ext lp.o).trans Eg.o)⟩,by simp only [intOf];omega⟩
      .have HR:=J (show X=some ⟨7,x.name⟩from eU.o)
       exact akW
     .have qv:(v !=0)=true:=by simp [i']
      have qn:(v==0)=false:=by simp [i']
      have HR:=J (show X=some ⟨7,x.name⟩by rw [gq.o,qn];rfl);refine ajR ?_;intro eE K hK;rintro e w2 ⟨rfl,rfl⟩;rw [<-HV.o,qv];refine hK.out _ _ (λ_=>eE.o) ?_;clear hK K
      repeat first|refine cx ?_|refine de eE.o aft ?_|refine dc eE.o ?_
      refine dG aV aV (λK hK=>?_);go_simp;have gZ:=J (HZW.o.trans (fp.o.trans eE.o));exact akW
   .obtain rfl:j=n:=by omega
    have Ii:=J (show X=must (decide (mL p.params<=512)) 8 fJ by
     rw [<-ca.o,HN.o,tp];rfl)
    have lf:=bG (bK (bX eY.o cC.o) mw.o ku.o);have lh:=bH (bK (bX eY.o cC.o) mw.o ku.o);clear ca Tz;go_wp21;have Zr:=J (show N<=W1.heap.size from ax fX.o cC.o.size);refine(SL ⟨cn,jY,ld,cv,cs,ct,⟨A,j,cc⟩,iD,mj,cq,oH⟩ p N _ (ax Zr.o mw.o.size) ((jh.o.ext cC.o fX.o).kept mw.o Zr.o (λi hi=>by have:=Ud.o;omega))).mono ?_;rintro e w1 ⟨rfl,aw⟩;have gZ:=J (zv.o.trans aw);clear lf lh gY gU aw
    by_cases h64:mL p.params<=512
    .have HR:=J (show X=none by rw [Ii.o,cJ h64];rfl)
     go_wp21;refine(aW true _ _ _).mono ?_;rintro e w8 ⟨he,rfl⟩;have he:=cK.none he;subst he;go_wp21;go_end0;rw [HR.o];exact⟨⟨rfl,LR.o.ext gZ.o⟩,gZ.o⟩
    .have HR:=J (show X=some ⟨8,fJ⟩by rw [Ii.o,cT h64];rfl)
     go_wp21;rw [cT (show¬mL p.params<=512 by omega)];exact Tq
 .have HR:=J (show X=some ⟨8,fJ⟩by rw [HX.o,cT (show¬p.params.length<=4 by have:=HN.o;omega)];rfl)
  have gZ:=dS;go_wp21
  try rw [cT (show¬(n:Int)<=4 by omega)]
  exact Tq
def xN (s:Str):Array Value:=#[.string s]
theorem sR:∀l:List Str,bZ xN l=l.map Value.string
 |[]=>rfl
 |s::l=>by
  have:=sR l;unfold bZ at this⊢;rw [List.flatMap_cons,this]
  rfl
theorem J7 {w:World} {base:Nat} {T:TypeId} {v:Value} {n:Nat} {l:List Str} (ho:w.ownsRow base T 1 v n (bZ xN l)) (hn:n=l.length) (h4:n<=100):
 ∃B bc,v=.slice B n bc/\(∀x,B=some x->base<=x.block/\x.block<w.heap.size)/\dN w w.heap.size B n l:=by
 rw [sR]at ho
 by_cases h0:0<n
 .obtain⟨g,c,rfl,hr,hg,_⟩:=fh ho h0 ad
  exact⟨some ⟨g,0,none⟩,c,rfl,λx hx=>by cases hx;exact⟨hg,hr.lt⟩,hn,h4,g,0,λ_=>rfl,λ_=>⟨hr.lt,hr⟩⟩
 .obtain rfl:n=0:=by omega
  rcases ho.2 with⟨hv,_⟩|⟨g,c,cV,hv,hb,hc,_⟩
  .exact⟨none,0,hv,λx hx=>(nomatch hx),hn,h4,0,0,λq=>by omega,λq=>by omega⟩
  .exact⟨some ⟨g,0,none⟩,c,hv,λx hx=>by cases hx;exact⟨hb,(Array.getElem?_eq_some_iff.1 hc).1⟩,hn,h4,0,0,λq=>by omega,λq=>by omega⟩
theorem dN.none (w:World) (N:Nat):dN w N none 0 []:=⟨rfl,by omega,0,0,λh=>absurd h ad,λh=>absurd h ad⟩
theorem dN.yx {S:Nat->Prop} {w w':World} {N M:Nat} {A:Option Addr} {n:Nat} {l:List Str} (h:dN w N A n l) (hk:Kept S w w') (hs:∀x,A=some x->¬S x.block) (hM:N<=M):dN w' M A n l:=by
 obtain⟨h1,h2,b,off,h3,h4⟩:=h;exact⟨h1,h2,b,off,h3,λh0=>⟨gK (h4 h0).1 hM,(h4 h0).2.kept hk (hs _ (h3 h0))⟩⟩
theorem R8 (cb g:Nat) (κ:Kn) (c:Pc) (p:Pr) (N:Nat) (rA:5<N) (Jo:N<=g) (Jn:N<=cb) (w:World) (hN:N<=w.heap.size) (h:nj w N c p) (hL:eQ w) (hC:Ck w cb g κ E0 0) (h4:p.params.length<=4) (ahZ:∀v∈p.params,κ v.name=0) (aid:κ p.silent=0):
 Calls prog 197 #[.pointer (some ⟨cb,0,none⟩),.agg c.cells] w λe w'=>cK (aj (cH 0 κ 0 true p.start) (aj (cH 1 κ 0 true p.turn) (aj (cH 2 (a_ κ (p.params.map Vr.name)) 0 true p.cd) (aj (cH 3 (a_ κ [p.silent]) 0 true p.quiet) (cH 4 κ 0 true p.bO))))) e/\Kept (SG cb g) w w':=by
 obtain⟨X,hX⟩:=nm' (aj (cH 0 κ 0 true p.start) (aj (cH 1 κ 0 true p.turn) (aj (cH 2 (a_ κ (p.params.map Vr.name)) 0 true p.cd) (aj (cH 3 (a_ κ [p.silent]) 0 true p.quiet) (cH 4 κ 0 true p.bO)))));rw [<-hX];obtain⟨Z0,hZ0⟩:=nm' (cH 0 κ 0 true p.start);obtain⟨Z1,Vm⟩:=nm' (cH 1 κ 0 true p.turn);obtain⟨Z2,hZ2⟩:=nm' (cH 2 (a_ κ (p.params.map Vr.name)) 0 true p.cd);obtain⟨Z3,hZ3⟩:=nm' (cH 3 (a_ κ [p.silent]) 0 true p.quiet);obtain⟨Z4,hZ4⟩:=nm' (cH 4 κ 0 true p.bO);rw [<-hZ0,<-Vm,<-hZ2,<-hZ3,<-hZ4]at hX;have⟨dS,eE,nh,HZ2,HZ3,HZ4⟩:=J6' hX hZ0 Vm hZ2 hZ3 hZ4;clear hX hZ0 Vm hZ2 hZ3 hZ4;obtain⟨cn,jY,ld,cv,⟨sA,sn,sc⟩,⟨tA,tn,tc⟩,⟨A,n,cc⟩,⟨yA,yn,yc⟩,mj,⟨qA,qn,qc⟩,⟨zA,zn,zc⟩⟩:=c;have aF:=dY w (.cells (Pc.cells ⟨cn,jY,ld,cv,⟨sA,sn,sc⟩,⟨tA,tn,tc⟩,⟨A,n,cc⟩,⟨yA,yn,yc⟩,mj,⟨qA,qn,qc⟩,⟨zA,zn,zc⟩⟩) 163);have eY:=bN w 163 (Pc.cells ⟨cn,jY,ld,cv,⟨sA,sn,sc⟩,⟨tA,tn,tc⟩,⟨A,n,cc⟩,⟨yA,yn,yc⟩,mj,⟨qA,qn,qc⟩,⟨zA,zn,zc⟩⟩);have⟨jh,HSI,fX⟩:=J3' (h.ext aF hN) (show mj=p.silent from h.silent) (ax hN aF.size);obtain⟨hn,hf,hok,b,off,hA,hE⟩:=h.params.ext aF;have hn4:n<=4:=by have:n=p.params.length:=hn;omega
 have hm:=hf.max ad;have⟨HN,HA,HE,wU,sY⟩:=J5' (show n=p.params.length from hn) hA hE (hL.ext aF) (hC.ext aF)
 have ku:=J (show¬SG cb g w.heap.size by
  have h1:=hC.map.lt;have h2:=hC.lt;rintro(h|h)<;>omega)
 have⟨HCG,HPR,Zw⟩:=J3' (show cb<w.heap.size/\g<w.heap.size from⟨hC.lt,hC.map.lt⟩) ahZ aid;clear hn hA hE hok hf h hL hC ahZ aid;go_enter func197,ntmps197;go_upto_region 1 with(fail);generalize hW:(w.alloc (.cells (Pc.cells ⟨cn,jY,ld,cv,⟨sA,sn,sc⟩,⟨tA,tn,tc⟩,⟨A,n,cc⟩,⟨yA,yn,yc⟩,mj,⟨qA,qn,qc⟩,⟨zA,zn,zc⟩⟩) 163))=W at aF eY HE wU sY jh fX⊢;clear hW;have HBW:=J (show w.heap.size<=W.heap.size from aF.size);have zv:=J aF;generalize w.heap.size=pb at eY ku HCG HBW⊢;have eY:=J eY;have gY:=bC eY.o;have gU:=eY.o.lt;clear aF;go_wp21
 go_loopw [4,10] (λt4 t10 wr=>∃(j:Nat),j<=n/\t10=.int .i64 j/\wr.ownsRow W.heap.size 9 1 t4 j (bZ xN ((p.params.map Vr.name).take j))/\al W wr) (λ_ t10 _=>n - (intOf t10).toNat)
 case atStart=>exact⟨0,cI _,rfl,World.ownsRow_nil _ _ _ _,kR _ _⟩
 case round=>
  obtain⟨j,hj,rfl,ho,hx⟩:=hrel;have HX:=J hx;have HO:=J ho;clear hx ho gY gU
  by_cases aP:j<n
  .have d_:j<p.params.length:=by have:=HN.o;omega
   have gD:(j:Int)<n:=by omega
   obtain rfl:=HA.o ad;have aE:=(HE.o ad).2.ext HX.o;obtain⟨jx,hg'⟩:=oB aE j d_;have gB:=aE.lt;obtain⟨x,fj⟩:=nm' (p.params[j]);rw [<-fj]at hg'
   have mX:(p.params.map Vr.name).take (j+1)=(p.params.map Vr.name).take j++[x.name]:=by
    rw [lq,List.getElem?_map,List.getElem?_eq_getElem d_,fj]
    rfl
   have Ej:=J mX;clear aE fj mX;have y0:al wr _:=(dY wr (.cells (aZ x) 232)).alloc (.cells #[.string x.name] 9);obtain⟨v',w',dz,oL,jR,_⟩:=L8 (f:=xN) vf (λ_=>rfl) (λ_=>rfl) ((wr.alloc (.cells (aZ x) 232)).alloc (.cells #[.string x.name] 9)) W.heap.size u4 j ((p.params.map Vr.name).take j) (aI HO.o y0) (wr.heap.size+1) 0 1 1 [x.name] rfl (Row.cF (ai.ea _ _ _ _ aB)) ad (by have:=y0.size;have:=HX.o.size;have:=HBW.o;omega);rw [<-Ej.o]at oL;have HO':=J oL;have alV:=J (show al W w' from(HX.o.trans y0).trans' jR (λi hi e=>by have:=(HO.o.lt i e).1;omega));clear oL jR y0;go_upto_region 5 with(fail);go_step
   iterate 4 refine kE ?_
   refine cj rfl (.tmp 14) (.tmp 17) 241 rfl rfl rfl rfl dz ?_;clear dz;go_wp21;go_roundw
   case rel=>exact⟨j+1,aP,by go_num,HO'.o,alV.o⟩
   case measure=>simp only [intOf];omega
  .obtain rfl:j=n:=by omega
   have ho:=HO.o;rw [show(p.params.map Vr.name).take j=p.params.map Vr.name from by rw [kI (by rw [gu,HN.o];omega)]]at ho;obtain⟨B,bc,rfl,hBB,hBS⟩:=J7 ho (by rw [gu];exact HN.o) ad
   have HBB:=J (show∀x,B=some x->¬SG cb g x.block from λx hx=>by
    have h1:=(hBB x hx).1;have h2:=HCG.o;have h3:=HBW.o;rintro(h|h)<;>omega)
   have⟨HBS,LY,OL,HLV,Yn,Ls,HC0,ZB⟩:=J8' hBS (ax fX.o HX.o.size) (jh.o.ext HX.o fX.o) (wU.o.ext HX.o) (bX eY.o HX.o) (kR (SG cb g) wr) (sY.o.ext HX.o) (zv.o.trans HX.o);clear ho hBB hBS HO jh wU sY HE HA;have gY:=bC (bK Yn.o Ls.o ku.o);have gU:=(bK Yn.o Ls.o ku.o).lt;go_wp21;clear gY gU;refine(rS cb g 0 ad wr N rA Jo Jn LY.o HLV.o p.start κ E0 sA sn sc none 0 0 [] _ Ls.o HC0.o OL.o.start (λw' _=>dN.none w' _) (λx hx=>(nomatch hx)) (λs hs=>(nomatch hs))).mono ?_;rintro e w1 ⟨hb,hk⟩;have Ie:=J (Ls.o.trans hk);rw [nL,<-eE.o]at hb;clear hk
   cases Z0 with
   |some f=>
    obtain⟨he,-⟩:=hb;subst he;have HR:=J (show X=some f by rw [dS.o]<;>rfl);have gZ:=J ((Kept.ext (S:=SG cb g) ZB.o).trans Ie.o);show _/\_;refine⟨rfl,?_,gZ.o⟩;rw [HR.o]
    rfl
   |none=>
    obtain⟨he,hc⟩:=hb;subst he;have HC1:=J hc;have ji:=J (show X=aj Z1 (aj Z2 (aj Z3 Z4))by rw [dS.o]<;>rfl);clear hc dS;have gY:=bC (bK Yn.o Ie.o ku.o);have gU:=(bK Yn.o Ie.o ku.o).lt;go_wp21;clear gY gU;refine(rS cb g 1 ad wr N rA Jo Jn LY.o HLV.o p.turn κ (bV 0) tA tn tc none 0 0 [] _ Ie.o HC1.o OL.o.turn (λw' _=>dN.none w' _) (λx hx=>(nomatch hx)) (λs hs=>(nomatch hs))).mono ?_;rintro e w2 ⟨hb,hk⟩;have Eg:=J (Ie.o.trans hk);rw [nL,<-nh.o]at hb;clear hk
    cases Z1 with
    |some f=>
     obtain⟨he,-⟩:=hb;subst he;have HR:=J (show X=some f by rw [ji.o]<;>rfl);have gZ:=J ((Kept.ext (S:=SG cb g) ZB.o).trans Eg.o);show _/\_;refine⟨rfl,?_,gZ.o⟩;rw [HR.o]
     rfl
    |none=>
     obtain⟨he,hc⟩:=hb;subst he;have IC:=J hc;have gf:=J (show X=aj Z2 (aj Z3 Z4)by rw [ji.o]<;>rfl);clear hc ji;have gY:=bC (bK Yn.o Eg.o ku.o);have gU:=(bK Yn.o Eg.o ku.o).lt;go_wp21;clear gY gU;refine(rS cb g 2 ad wr N rA Jo Jn LY.o HLV.o p.cd κ (bV 1) yA yn yc B j bc (p.params.map Vr.name) _ Eg.o IC.o OL.o.cd (λw' hk=>HBS.o.yx (Eg.o.trans hk) HBB.o (Eg.o.trans hk).size) (λx hx e=>HBB.o x hx (Or.inr e)) (λs hs=>by obtain⟨v,hv,rfl⟩:=List.mem_map.1 hs;exact HPR.o v hv)).mono ?_;rintro e w3 ⟨hb,hk⟩;have Lt:=J (Eg.o.trans hk);rw [<-HZ2.o]at hb;clear hk
     cases Z2 with
     |some f=>
      obtain⟨he,-⟩:=hb;subst he;have HR:=J (show X=some f by rw [gf.o]<;>rfl);have gZ:=J ((Kept.ext (S:=SG cb g) ZB.o).trans Lt.o);show _/\_;refine⟨rfl,?_,gZ.o⟩;rw [HR.o]
      rfl
     |none=>
      obtain⟨he,hc⟩:=hb;subst he;have De:=J hc;have gq:=J (show X=aj Z3 Z4 by rw [gf.o]<;>rfl);clear hc gf;have gY:=bC (bK Yn.o Lt.o ku.o);have gU:=(bK Yn.o Lt.o ku.o).lt;go_wp21;clear gY gU;have y3:=dY w3 (.cells #[.string mj] 9);have tM:=J (show¬SG cb g w3.heap.size by have h1:=De.o.map.lt;have h2:=De.o.lt;rintro(h|h)<;>omega);have AB:=J (Row.cF (bN w3 9 #[.string mj]));refine(rS cb g 3 ad wr N rA Jo Jn LY.o HLV.o p.quiet κ (bV 2) qA qn qc (some ⟨w3.heap.size,0,none⟩) 1 1 [mj] _ (Lt.o.trans (Kept.ext y3)) (De.o.ext y3) OL.o.quiet (λw' hk=>⟨rfl,by omega,w3.heap.size,0,λ_=>rfl,λ_=>⟨(AB.o.kept hk tM.o).lt,AB.o.kept hk tM.o⟩⟩) (λx hx e=>by cases hx;exact tM.o (Or.inr e)) (λs hs=>by rw [List.mem_singleton.1 hs,HSI.o];exact Zw.o)).mono ?_;rintro e w4 ⟨hb,hk⟩;have wS:=J ((Lt.o.trans (Kept.ext y3)).trans hk);rw [HSI.o,<-HZ3.o]at hb;clear hk y3
      cases Z3 with
      |some f=>
       obtain⟨he,-⟩:=hb;subst he;have HR:=J (show X=some f by rw [gq.o]<;>rfl);have gZ:=J ((Kept.ext (S:=SG cb g) ZB.o).trans wS.o);show _/\_;refine⟨rfl,?_,gZ.o⟩;rw [HR.o]
       rfl
      |none=>
       obtain⟨he,hc⟩:=hb;subst he;have Tv:=J hc;have eU:=J (show X=Z4 by rw [gq.o]<;>rfl);clear hc gq;have gY:=bC (bK Yn.o wS.o ku.o);have gU:=(bK Yn.o wS.o ku.o).lt;go_wp21;clear gY gU;refine(rS cb g 4 ad wr N rA Jo Jn LY.o HLV.o p.bO κ (bV 3) zA zn zc none 0 0 [] _ wS.o Tv.o OL.o.bO (λw' _=>dN.none w' _) (λx hx=>(nomatch hx)) (λs hs=>(nomatch hs))).mono ?_;rintro e w5 ⟨hb,hk⟩;have uz:=J (wS.o.trans hk);rw [nL,<-HZ4.o]at hb;clear hk
       cases Z4 with
       |some f=>
        obtain⟨he,-⟩:=hb;subst he;have HR:=J (show X=some f by rw [eU.o]<;>rfl);have gZ:=J ((Kept.ext (S:=SG cb g) ZB.o).trans uz.o);show _/\_;refine⟨rfl,?_,gZ.o⟩;rw [HR.o]
        rfl
       |none=>
        obtain⟨he,hc⟩:=hb;subst he;have OC:=J hc;have kv:=J (show X=none by rw [eU.o]<;>rfl);clear hc eU;go_wp21;go_end0;rw [kv.o];exact⟨rfl,(Kept.ext (S:=SG cb g) ZB.o).trans uz.o⟩
theorem u9 (κ:Kn):∀(l pre:List Vr) (_:dE κ pre l=none),∀v∈l,κ v.name=0
 |[],_,_,v,hv=>absurd hv aB
 |x::l,pre,h,v,hv=>by
  rw [dE,ay,ay,ay,ay]at h;obtain⟨-,h2,-,-,h5⟩:=h
  rcases List.mem_cons.1 hv with rfl|hv
  .have:=dt.1 h2
   simp at this;exact this.1
  .exact u9 κ l _ h5 v hv
theorem G7 {w:World} {N:Nat}:∀{F:SF} {b off:Nat} (_:nk w N F b off) (_:0<F.len),∃k:Int,w.cell? ⟨b,off+(F.len - 1)*7,none⟩=some (.int .i64 k)/\jz F=(k==9)/\b<N
 | .cons kind name e low high l x .nil,b,off,h,_=>by
  obtain⟨hb,h1,h2,h3,h4,⟨eA,ec,lA,lc,xA,xc,be,oe,bl,ol,bx,ox,hh,hg,-⟩,-⟩:=h;refine⟨kind,?_,rfl,hb⟩;have:=pQ hh hg ad
  simpa [SF.len]using this
 | .cons kind name e low high l x (.cons k' n' e' lo' hi' l' x' r),b,off,h,_=>by
  obtain⟨hb,h1,h2,h3,h4,-,hr⟩:=h;obtain⟨k,hk,Gk,jw⟩:=G7 hr (by simp [SF.len]);refine⟨k,?_,Gk,jw⟩;simp only [SF.len]at hk⊢;rw [<-hk]
  congr 2
  omega
section
variable (p:Pr)
include p
theorem aiu:oN p 2=a_ (fm p.vars) (p.params.map Vr.name):=rfl
theorem aiv:oN p 3=a_ (fm p.vars) [p.silent]:=rfl
theorem ais:oN p 0=fm p.vars:=rfl
theorem ait:oN p 1=fm p.vars:=rfl
theorem aiw:oN p 4=fm p.vars:=rfl
theorem I6:check p=aj (mF p) (aj (aj (eG [] p.vars) (must (decide (cells p.vars<=64)) 8 qP)) (aj (aj (must (decide (p.params.length<=4)) 8 fJ) (aj (dE (fm p.vars) [] p.params) (must (decide (mL p.params<=512)) 8 fJ))) (aj (must (dq p.silent) 6 p.silent) (aj (must (fm p.vars p.silent==0) 7 p.silent) (aj (must (decide (jc (eo p)<=1000)) 5 p.name) (aj (aj (cH 0 (fm p.vars) 0 true p.start) (aj (cH 1 (fm p.vars) 0 true p.turn) (aj (cH 2 (a_ (fm p.vars) (p.params.map Vr.name)) 0 true p.cd) (aj (cH 3 (a_ (fm p.vars) [p.silent]) 0 true p.quiet) (cH 4 (fm p.vars) 0 true p.bO))))) (aj (must (ends p.turn) 4 kN) (must (jz p.bO) 4 nW)))))))):=by
 rw [check,ka];simp only [du,kU,ais,ait,aiu,aiv,aiw,partOf]
end
theorem N_ (c:Pc) (p:Pr) (N:Nat) (w:World) (rA:5<N) (hN:N<=w.heap.size) (h:nj w N c p) (hL:eQ w):
 Calls prog 136 #[.agg c.cells] w λe w'=>e=.returned (.agg (fM (check p)))/\al w w':=by
 obtain⟨X,hX⟩:=nm' (check p);rw [<-hX];have dS:aoR (X=aj (mF p) (aj (aj (eG [] p.vars) (must (decide (cells p.vars<=64)) 8 qP)) (aj (aj (must (decide (p.params.length<=4)) 8 fJ) (aj (dE (fm p.vars) [] p.params) (must (decide (mL p.params<=512)) 8 fJ))) (aj (must (dq p.silent) 6 p.silent) (aj (must (fm p.vars p.silent==0) 7 p.silent) (aj (must (decide (jc (eo p)<=1000)) 5 p.name) (aj (aj (cH 0 (fm p.vars) 0 true p.start) (aj (cH 1 (fm p.vars) 0 true p.turn) (aj (cH 2 (a_ (fm p.vars) (p.params.map Vr.name)) 0 true p.cd) (aj (cH 3 (a_ (fm p.vars) [p.silent]) 0 true p.quiet) (cH 4 (fm p.vars) 0 true p.bO))))) (aj (must (ends p.turn) 4 kN) (must (jz p.bO) 4 nW))))))))):=J (hX.trans (I6 p));clear hX;obtain⟨H,hH⟩:=nm' (mF p);obtain⟨V,hV⟩:=nm' ((aj (eG [] p.vars) (must (decide (cells p.vars<=64)) 8 qP)));obtain⟨P,hP⟩:=nm' ((aj (must (decide (p.params.length<=4)) 8 fJ) (aj (dE (fm p.vars) [] p.params) (must (decide (mL p.params<=512)) 8 fJ))));obtain⟨T,hT⟩:=nm' ((aj (cH 0 (fm p.vars) 0 true p.start) (aj (cH 1 (fm p.vars) 0 true p.turn) (aj (cH 2 (a_ (fm p.vars) (p.params.map Vr.name)) 0 true p.cd) (aj (cH 3 (a_ (fm p.vars) [p.silent]) 0 true p.quiet) (cH 4 (fm p.vars) 0 true p.bO))))));obtain⟨b1,hJ⟩:=nm' (dq p.silent);obtain⟨b2,jo⟩:=nm' ((fm p.vars p.silent==0));obtain⟨b3,Pa⟩:=nm' (decide (jc (eo p)<=1000));obtain⟨b4,Vs⟩:=nm' (ends p.turn);obtain⟨b5,DY⟩:=nm' (jz p.bO);have⟨ji,HH,HV,HP,HT,Ts,nQ,tM,uy,tN⟩:=J10 (show X=aj H (aj V (aj P (aj (must b1 6 p.silent) (aj (must b2 7 p.silent) (aj (must b3 5 p.name) (aj T (aj (must b4 4 kN) (must b5 4 nW))))))))by rw [hH,hV,hP,hT,hJ,jo,Pa,Vs,DY];exact dS.o) hH hV hP hT hJ jo Pa Vs DY;clear dS hH hV hP hT hJ jo Pa Vs DY;obtain⟨cn,jY,ld,cv,cs,⟨tA,tn,tc⟩,ry,iD,mj,cq,⟨zA,zn,zc⟩⟩:=c;obtain rfl:cn=p.name:=h.name;obtain rfl:mj=p.silent:=h.silent;refine abD ?_;intro D2;have Dq:=@run_makeMap prog
 go_enter_defers func136,ntmps136
 go_upto_region 3 with(fail);clear D2 Dq;obtain⟨W0,LC⟩:=nm' (((((w.alloc (.cells (Pc.cells (⟨p.name,jY,ld,cv,cs,⟨tA,tn,tc⟩,ry,iD,p.silent,cq,⟨zA,zn,zc⟩⟩:Pc)) 163)).alloc (.cells #[.int .i64 0,.string ⟨#[]⟩] 225)).alloc (.map #[] 0)).alloc (.cells #[.map (some (w.heap.size+1+1)),.string ⟨#[]⟩,.int .i64 0] 282)));have aF:al w W0:=by rw [LC];exact(((dM w _).alloc _).alloc _).alloc _
 have hPB:ai W0 w.heap.size 163 (Pc.cells (⟨p.name,jY,ld,cv,cs,⟨tA,tn,tc⟩,ry,iD,p.silent,cq,⟨zA,zn,zc⟩⟩:Pc)):=by rw [LC];exact(((bN w _ _).alloc _).alloc _).alloc _
 have hRB:ai W0 (w.heap.size+1) 225 #[.int .i64 0,.string ⟨#[]⟩]:=by rw [LC];exact((ai.ea _ _ _ _ aB).alloc _).alloc _
 have hMB:dy W0 (w.heap.size+1+1) (λ_=>none):=by
  rw [LC];have q:=dy.made ((w.alloc (.cells (Pc.cells (⟨p.name,jY,ld,cv,cs,⟨tA,tn,tc⟩,ry,iD,p.silent,cq,⟨zA,zn,zc⟩⟩:Pc)) 163)).alloc (.cells #[.int .i64 0,.string ⟨#[]⟩] 225));have q2:((w.alloc (.cells (Pc.cells (⟨p.name,jY,ld,cv,cs,⟨tA,tn,tc⟩,ry,iD,p.silent,cq,⟨zA,zn,zc⟩⟩:Pc)) 163)).alloc (.cells #[.int .i64 0,.string ⟨#[]⟩] 225)).heap.size=w.heap.size+1+1:=by simp
  rw [q2]at q;exact q.ext (dM _ _)
 have hCB:ai W0 (w.heap.size+1+1+1) 282 #[.map (some (w.heap.size+1+1)),.string ⟨#[]⟩,.int .i64 0]:=by rw [LC];exact ai.ea _ _ _ _ aB
 rw [<-LC];obtain⟨pb,mV⟩:=nm' w.heap.size;obtain⟨rb,mC⟩:=nm' (pb+1);obtain⟨g,hg⟩:=nm' (rb+1);obtain⟨cb,yf⟩:=nm' (g+1);rw [<-mV]at hPB hRB hMB hCB⊢;rw [<-mC]at hRB hMB hCB⊢;rw [<-hg]at hMB hCB⊢;rw [<-yf]at hCB⊢;have Jo:N<=g:=by omega
 have Jn:N<=cb:=by omega
 have⟨ku,wW,lj,mS,HNA,qS⟩:=J6' hPB hRB (show Ck W0 cb g (λ_=>0) E0 0 from⟨hCB,hMB.nR (λt=>rfl)⟩) (show¬SG cb g pb/\¬SG cb g rb by constructor<;>(rintro(h|h)<;>omega)) (show∀w',Kept (SG cb g) W0 w'->N<=w'.heap.size from λw' hk=>ax (ax hN aF.size) hk.size) (show∀j,SG cb g j->N<=j from λj h=>by rcases h with h|h<;>omega);have⟨jh,Zn,ags,je,ZE,HZM⟩:=J6' (show∀w',Kept (SG cb g) W0 w'->nj w' N (⟨p.name,jY,ld,cv,cs,⟨tA,tn,tc⟩,ry,iD,p.silent,cq,⟨zA,zn,zc⟩⟩:Pc) p from λw' hk=>(h.ext aF hN).kept hk (ax hN aF.size) qS.o) (show∀w',Kept (SG cb g) W0 w'->eQ w' from λw' hk=>(hL.ext aF).kept hk (λk hk h=>by have:=qS.o k h;omega)) (show∀wz w9,Kept (SG cb g) W0 wz->Kept (·=rb) wz w9->al w w9 from λwz w9 h1 h2=>(aF.trans' h1 (λi hi q=>by rcases q with q|q<;>omega)).trans' h2 (λi hi q=>by omega)) (kR (SG cb g) W0) (show zn=p.bO.len from h.bO.1) (show zn<=17592186044416 from Fits.max h.bO.2.1 ad);clear hPB hRB hMB hCB LC mV mC hg yf h hL aF;refine Tm ?_;intro gY gU lh lf;go_wp21;refine(iU _ (⟨p.name,jY,ld,cv,cs,⟨tA,tn,tc⟩,ry,iD,p.silent,cq,⟨zA,zn,zc⟩⟩:Pc) p N _ (HNA.o _ je.o) (jh.o _ je.o) (Zn.o _ je.o)).mono ?_;rintro e w1 ⟨he,aw⟩;clear gY gU lh lf;rw [<-HH.o]at he;have HC1:=J (lj.o.ext aw);have je:=J (je.o.trans (Kept.ext aw));clear aw
 cases H with
 |some f=>
  have he:=cK.some he;subst he;have HR:=J (show X=some f by rw [ji.o,aT]);exact Yj
 |none=>
  have he:=cK.none he;subst he;have gf:=J (show X=aj V (aj P (aj (must b1 6 p.silent) (aj (must b2 7 p.silent) (aj (must b3 5 p.name) (aj T (aj (must b4 4 kN) (must b5 4 nW)))))))by rw [ji.o,aS]);clear ji HH;refine Tm ?_;intro gY gU lh lf;go_wp21;refine(XC cb g (⟨p.name,jY,ld,cv,cs,⟨tA,tn,tc⟩,ry,iD,p.silent,cq,⟨zA,zn,zc⟩⟩:Pc) p N rA Jo Jn _ (HNA.o _ je.o) (jh.o _ je.o) (Zn.o _ je.o) HC1.o).mono ?_;rintro e w2 ⟨hb,hk⟩;clear gY gU lh lf;rw [<-HV.o]at hb;have je:=J (je.o.trans hk);clear hk HC1
  cases V with
  |some f=>
   obtain⟨he,-⟩:=hb;subst he;have HR:=J (show X=some f by rw [gf.o,aT]);exact Yj
  |none=>
   obtain⟨he,hc⟩:=hb;subst he;have IC:=J hc;have gq:=J (show X=aj P (aj (must b1 6 p.silent) (aj (must b2 7 p.silent) (aj (must b3 5 p.name) (aj T (aj (must b4 4 kN) (must b5 4 nW))))))by rw [gf.o,aS]);clear gf HV hc;refine Tm ?_;intro gY gU lh lf;go_wp21;refine(WR cb g (fm p.vars) (⟨p.name,jY,ld,cv,cs,⟨tA,tn,tc⟩,ry,iD,p.silent,cq,⟨zA,zn,zc⟩⟩:Pc) p N rA _ (HNA.o _ je.o) (jh.o _ je.o) (Zn.o _ je.o) IC.o).mono ?_;rintro e w3 ⟨hb,dv⟩;clear gY gU lh lf;rw [<-HP.o]at hb;have je:=J (je.o.trans (Kept.ext dv));clear dv IC
   cases P with
   |some f=>
    obtain⟨he,-⟩:=hb;subst he;have HR:=J (show X=some f by rw [gq.o,aT]);exact Yj
   |none=>
    obtain⟨he,hc⟩:=hb;subst he;have De:=J hc;have hp:=ay.1 HP.o.symm;have⟨Di,HPR,eU⟩:=J3' (show p.params.length<=4 from of_decide_eq_true (dt.1 hp.1)) (u9 _ _ _ (ay.1 hp.2).1) (show X=aj (must b1 6 p.silent) (aj (must b2 7 p.silent) (aj (must b3 5 p.name) (aj T (aj (must b4 4 kN) (must b5 4 nW)))))by rw [gq.o,aS]);clear gq HP hc hp;go_upto_region 6 with(fail);refine fH (λw1=>al w3 w1) [(0,2),(1,1),(3,2),(4,1),(2,0),(5,0)] ?_;refine fI ?_;have cC:=J (pg w3)
    repeat first|refine cx ?_|refine de cC.o abk ?_|refine dc cC.o ?_
    refine au (λK hK=>?_);go_simp;refine aoS (lU p.silent (jh.o _ je.o).rL _ (Zn.o _ (je.o.trans (Kept.ext cC.o)))) λw4 eS=>?_;have dQ:=J (cC.o.trans eS);clear eS;refine hK.out _ _ (λ_=>dQ.o) ?_;clear hK K
    repeat first|refine cx ?_|refine de dQ.o abk ?_|refine dc dQ.o ?_
    refine dG aV aV (λK hK=>?_);go_simp;have Ls:=je;have je:=J (Ls.o.trans (Kept.ext dQ.o));rw [<-Ts.o]
    cases b1
    .have HR:=J (show X=some ⟨6,p.silent⟩by rw [eU.o,aM,aT])
     exact Yi
    .have kv:=J (show X=aj (must b2 7 p.silent) (aj (must b3 5 p.name) (aj T (aj (must b4 4 kN) (must b5 4 nW))))by rw [eU.o,bt,aS])
     refine(aW true _ _ _).mono ?_;rintro e w8 ⟨he,rfl⟩;have he:=cK.none he;subst he;refine hK.out _ _ ?_;clear hK K;refine fx ?_;have Tv:=J (De.o.ext dQ.o);clear eU De cC dQ Ls;go_upto_region 7 with(fail);obtain⟨v,hv⟩:=nm' (fm p.vars p.silent);have HV:=J hv;clear hv;refine fH (λw1=>al w4 w1) [(0,2),(1,2),(2,1),(5,2),(6,1),(3,0),(4,2),(7,0)] ?_;refine fI ?_;have cC:=J (pg w4)
     repeat first|refine cx ?_|refine de cC.o abk ?_|refine dc cC.o ?_
     refine au (λK hK=>?_);go_simp;refine aoT (kZ cb g (fm p.vars) E0 0 p.silent _ (Tv.o.ext cC.o)) ?_;rw [<-HV.o];refine hK.out _ _ (λ_=>cC.o) ?_;clear hK K
     repeat first|refine cx ?_|refine de cC.o abk ?_|refine dc cC.o ?_
     refine dG aV aV (λK hK=>?_);go_simp;have Ls:=je;have je:=J (Ls.o.trans (Kept.ext cC.o))
     by_cases i':v=0
     .have qv:(v !=0)=false:=by simp [i']
      have tm:=J (show X=aj (must b3 5 p.name) (aj T (aj (must b4 4 kN) (must b5 4 nW)))by rw [kv.o,show b2=true by rw [nQ.o,<-HV.o,i'];rfl,bt,aS])
      try rw [qv]
      try simp only [Bool.not_false]
      refine(aW true _ _ _).mono ?_;rintro e w8 ⟨he,rfl⟩;have he:=cK.none he;subst he;refine hK.out _ _ ?_;clear hK K;refine fx ?_;have Zw:=J (show fm p.vars p.silent=0 by rw [<-HV.o,i']);have OC:=J (Tv.o.ext cC.o);generalize w4.drew=w5 at je OC⊢;clear kv i' qv Tv cC Ls HV;go_upto_region 8 with(fail);obtain⟨z,hz⟩:=nm' (jc (eo p));have HZ:=J hz;clear hz;refine fH (λw1=>al w5 w1) [(0,1),(3,2),(4,1),(1,0),(2,2),(5,0)] ?_;refine fI ?_;have cC:=J (pg w5)
      repeat first|refine cx ?_|refine de cC.o afq ?_|refine dc cC.o ?_
      refine au (λK hK=>?_);go_simp;refine aoS (mZ (⟨p.name,jY,ld,cv,cs,⟨tA,tn,tc⟩,ry,iD,p.silent,cq,⟨zA,zn,zc⟩⟩:Pc) p N _ (HNA.o _ (je.o.trans (Kept.ext cC.o))) (jh.o _ (je.o.trans (Kept.ext cC.o)))) λw6 nU=>?_;rw [<-HZ.o];have dQ:=J (cC.o.trans nU);clear nU;refine hK.out _ _ (λ_=>dQ.o) ?_;clear hK K;have Ls:=je
      by_cases hz:z<=1000
      .have Ih:=J (show X=aj T (aj (must b4 4 kN) (must b5 4 nW))by rw [tm.o,show b3=true by rw [tM.o,<-HZ.o];exact cJ hz,bt,aS])
       repeat first|refine cx ?_|refine de dQ.o afq ?_|refine dc dQ.o ?_
       refine dG aV aV (λK hK=>?_);go_simp;have je:=J (Ls.o.trans (Kept.ext dQ.o));refine(aW true _ _ _).mono ?_;rintro e w8 ⟨he,rfl⟩;have he:=cK.none he;subst he;refine hK.out _ _ ?_;clear hK K;refine fx ?_;have DA:=J (OC.o.ext dQ.o);clear tm hz OC cC dQ Ls HZ;refine Tm ?_;intro gY gU lh lf;go_wp21;refine(R8 cb g (fm p.vars) (⟨p.name,jY,ld,cv,cs,⟨tA,tn,tc⟩,ry,iD,p.silent,cq,⟨zA,zn,zc⟩⟩:Pc) p N rA Jo Jn _ (HNA.o _ je.o) (jh.o _ je.o) (Zn.o _ je.o) DA.o Di.o HPR.o Zw.o).mono ?_;rintro e w7 ⟨he,hk⟩;clear gY gU lh lf;rw [<-HT.o]at he;have je:=J (je.o.trans hk);clear hk DA
       cases T with
       |some f=>
        have he:=cK.some he;subst he;have HR:=J (show X=some f by rw [Ih.o,aT]);exact Yj
       |none=>
        have he:=cK.none he;subst he;have uI:=J (show X=aj (must b4 4 kN) (must b5 4 nW)by rw [Ih.o,aS]);clear Ih HT;refine Tm ?_;intro gY gU lh lf;go_wp21;refine aoS (SB w7 p.turn tA tn tc N _ (kR _ _) (HNA.o _ je.o) (jh.o _ je.o).turn) λw8 oo=>?_;clear gY gU lh lf;have je:=J (je.o.trans (Kept.ext oo));clear oo;go_wp21;rw [<-uy.o]
        cases b4
        .have HR:=J (show X=some ⟨4,kN⟩by rw [uI.o,aM,aT])
         exact Yi
        .have zu:=J (show X=must b5 4 nW by rw [uI.o,bt,aS])
         refine(aW true _ _ _).mono ?_;rintro e w8 ⟨he,rfl⟩;have he:=cK.none he;subst he;clear uI;refine Tm ?_;intro gY gU lh lf;obtain⟨-,-,b,off,hA,hE⟩:=(jh.o _ je.o).bO;have HA:=J hA;have HE:=J hE;clear hA hE;have hcR:=bC (bK wW.o je.o mS.o.2);have hzR:=ai.frozen (bK wW.o je.o mS.o.2);have hlR:=(bK wW.o je.o mS.o.2).lt;have hmR:=(bK wW.o je.o mS.o.2).aC;have hhR:=bH (bK wW.o je.o mS.o.2)
         cases zn with
         |zero=>
          have HR:=J (show X=some ⟨4,nW⟩by
           have:p.bO=.nil:=by
            have hz:=ZE.o
            cases hq:p.bO with
            |nil=>rfl
            |cons=>rw [hq]at hz;simp [SF.len]at hz
           rw [zu.o,show b5=false by rw [tN.o,this];rfl,aM])
          exact akz
         |succ m=>
          obtain⟨k,hk,V_,hbN⟩:=G7 HE.o (by rw [<-ZE.o];exact Nat.succ_pos m);obtain rfl:=HA.o (Nat.succ_pos m);rw [<-ZE.o]at hk;have hm:=HZM.o;have gB:=HNA.o _ je.o;simp only [Nat.add_sub_cancel]at hk;have ma:(m:Int)<((m:Int)+1):=by omega
          have Vz:(0:Int)<(m:Int)+1:=by omega
          have Zv:=J V_;clear V_
          cases hq:(k==9)
          .have HR:=J (show X=some ⟨4,nW⟩by rw [zu.o,show b5=false by rw [tN.o,Zv.o,hq],aM])
           exact akz
          .have HR:=J (show X=none by rw [zu.o,show b5=true by rw [tN.o,Zv.o,hq],bt])
           go_wp21;refine(aW true _ _ _).mono ?_;rintro e w8 ⟨he,rfl⟩;have he:=cK.none he;subst he;clear hk gB gY gU lh lf;go_wp21;refine leaves_cons (f:=190) (args:=#[.pointer (some ⟨rb,0,none⟩)]) aB (by simp [go_sem]) ?_;refine(Mf ⟨rb,0,none⟩ _).mono ?_;rintro e u' w9 ⟨rfl,rfl,yk⟩;have hre:=bX (ai.cw (bK wW.o je.o mS.o.2) 0 #[.int .i64 0,.string ⟨#[]⟩]) yk;refine⟨_,results_cell_row results136 _ _ rb _ _ _ _ rfl hre underlying225 rfl qi,?_⟩;rw [HR.o];exact⟨rfl,ags.o _ _ je.o ((Kept.putAt (kR (·=rb) _) _ _ _ (λ_=>rfl)).trans (Kept.ext yk))⟩
      .have HR:=J (show X=some ⟨5,p.name⟩by rw [tm.o,show b3=false by rw [tM.o,<-HZ.o];exact cT hz,aM,aT])
       repeat first|refine cx ?_|refine de dQ.o afq ?_|refine dc dQ.o ?_
       refine dG aV aV (λK hK=>?_);go_simp;have je:=J (Ls.o.trans (Kept.ext dQ.o));exact Yi
     .have qv:(v !=0)=true:=by simp [i']
      have qn:(v==0)=false:=by simp [i']
      have HR:=J (show X=some ⟨7,p.silent⟩by rw [kv.o,show b2=false by rw [nQ.o,<-HV.o,qn],aM,aT])
      try rw [qv]
      try simp only [uM]
      exact Yi
section
variable (w:World) (N:Nat) (A:Option Addr)
include w N A
theorem me.nil:me w N A 0 .nil:=⟨rfl,by unfold Fits;omega,0,0,λh=>absurd h ad,trivial⟩
theorem jm.nil:jm w N A 0 .nil:=⟨rfl,by unfold Fits;omega,0,0,λh=>absurd h ad,trivial⟩
theorem ri.nil:ri w N A 0 []:=⟨rfl,by unfold Fits;omega,λv hv=>absurd hv aB,0,0,λh=>absurd h ad,λh=>absurd h ad⟩
end
theorem adW {w:World} {N b:Nat} {t:TypeId} {op n:Int} {name:Str} {A:Option Addr} {cap:Nat} {k:EF} (hB:ai w b t (bJ op n name A k.len cap)) (hb:b<N) (h1:br op) (h2:br n) (h3:name.size<=maxLen) (hk:me w N A k.len k):me w N (some ⟨b,0,none⟩) 1 (.cons op n name k .nil):=by
 obtain⟨-,hf,b',bL,hA,hE⟩:=hk;refine⟨rfl,by unfold Fits;omega,b,0,λ_=>rfl,hb,h1,h2,h3,⟨A,cap,b',bL,?_,?_,hf,hA,hE⟩,trivial⟩
 .rw [bH hB];simp
 .rw [bG hB];rfl
theorem Xg {w:World} {N b:Nat} {t:TypeId} {kind:Int} {name:Str} {e:EF} {low high:Int} {l x:SF} {eA:Option Addr} {ec:Nat} {lA:Option Addr} {lc:Nat} {xA:Option Addr} {xc:Nat} (hB:ai w b t (aN kind name eA e.len ec low high lA l.len lc xA x.len xc)) (hb:b<N)
 (h1:br kind) (h2:br low) (h3:br high) (h4:name.size<=maxLen) (he:me w N eA e.len e) (hl:jm w N lA l.len l) (hx:jm w N xA x.len x):jm w N (some ⟨b,0,none⟩) 1 (.cons kind name e low high l x .nil):=by
 obtain⟨-,f1,be,oe,a1,e1⟩:=he;obtain⟨-,f2,bl,ol,a2,e2⟩:=hl;obtain⟨-,f3,bx,ox,a3,e3⟩:=hx;refine⟨rfl,by unfold Fits;omega,b,0,λ_=>rfl,hb,h1,h2,h3,h4,⟨eA,ec,lA,lc,xA,xc,be,oe,bl,ol,bx,ox,?_,?_,f1,f2,f3,a1,a2,a3,e1,e2,e3⟩,trivial⟩
 .rw [bH hB];simp
 .rw [bG hB];rfl
def sG:Str:=⟨#[103]⟩
def sA:Str:=⟨#[97]⟩
def sL:Str:=⟨#[108]⟩
def sW:Str:=⟨#[119]⟩
def e0F:EF:=.cons 0 0 E0 .nil .nil
def Xj:SF:=.cons 7 E0 .nil 0 0 .nil .nil .nil
def jM:Pr:=⟨sG,2,[1,1],[⟨sA,0,0,1⟩,⟨sL,3,0,1⟩],.nil,Xj,[],.nil,sW,.nil,.cons 9 E0 e0F 0 0 .nil .nil .nil⟩
theorem Xl:check jM=none:=by kernel_rfl
def Je (p:Pr):Bool:=decide (jc (eo p)<=1200)&&decide ((p.bY.length:Int)<=20)
abbrev qk (n:Nat):Pc:=⟨sG,2,⟨some ⟨n+1+1,0,none⟩,2,2⟩,⟨some ⟨n+1+1+1,0,none⟩,2,2⟩,⟨none,0,0⟩,⟨some ⟨n+1+1+1+1,0,none⟩,1,1⟩,⟨none,0,0⟩,⟨none,0,0⟩,sW,⟨none,0,0⟩,⟨some ⟨n+1+1+1+1+1+1,0,none⟩,1,1⟩⟩
theorem xy {n:Int} (h:-10<=n/\n<=10):br n:=by unfold br;omega
theorem sD (s:Str) (h:s.size<=10):s.size<=maxLen:=by unfold maxLen;omega
theorem Xk {w:World} {N n:Nat} {ti tv ts te:TypeId} (hN:n+7<=N) (h2:ai w (n+1+1) ti #[.int .i64 1,.int .i64 1])
 (h3:ai w (n+1+1+1) tv #[.string sA,.int .i64 0,.int .i64 0,.int .i64 1,.string sL,.int .i64 3,.int .i64 0,.int .i64 1])
 (h4:ai w (n+1+1+1+1) ts (aN 7 E0 none 0 0 0 0 none 0 0 none 0 0)) (h5:ai w (n+1+1+1+1+1) te (bJ 0 0 E0 none 0 0))
 (h6:ai w (n+1+1+1+1+1+1) ts (aN 9 E0 (some ⟨n+1+1+1+1+1,0,none⟩) 1 1 0 0 none 0 0 none 0 0)):nj w N (qk n) jM:=by
 refine⟨rfl,sD _ ap,rfl,xy ap,⟨rfl,show Fits 2 8 by unfold Fits;omega,?_,n+1+1,0,λ_=>rfl,λ_=>⟨by omega,Row.cF h2⟩⟩,⟨rfl,show Fits 2 40 by unfold Fits;omega,?_,n+1+1+1,0,λ_=>rfl,λ_=>⟨by omega,Row.cF h3⟩⟩,jm.nil _ _ _,
  Xg (e:=.nil) (l:=.nil) (x:=.nil) h4 ad (xy ap) (xy ap) (xy ap) (sD _ ap) (me.nil _ _ _) (jm.nil _ _ _) (jm.nil _ _ _),ri.nil _ _ _,jm.nil _ _ _,rfl,sD _ ap,jm.nil _ _ _,
  Xg (e:=e0F) (l:=.nil) (x:=.nil) h6 ad (xy ap) (xy ap) (xy ap) (sD _ ap) (adW (k:=.nil) h5 ad (xy ap) (xy ap) (sD _ ap) (me.nil _ _ _)) (jm.nil _ _ _) (jm.nil _ _ _)⟩
 .intro v hv
  have:v=1:=by simpa [jM]using hv
  subst this;exact xy ap
 .intro v hv
  have:v=⟨sA,0,0,1⟩∨v=⟨sL,3,0,1⟩:=by simpa [jM]using hv
  rcases this with rfl|rfl<;>exact⟨sD _ ap,xy ap,xy ap,xy ap⟩
structure Ins where (op a b c:Int)
abbrev Ins.cells (i:Ins):Array Value:=#[.int .i64 i.op,.int .i64 i.a,.int .i64 i.b,.int .i64 i.c]
attribute [go_sem] Ins.cells
theorem uY:ga prog 71=true:=by kernel_rfl
theorem rO:dr prog 71=some 4:=by kernel_rfl
theorem C_ {eD:TypeId} {x:Operand} {a:Act} {w:World} {Q:Exit->Act->World->Prop} (hx:d' (a.eval x)=true) (hh:has w (aG (a.eval x)) (aH (a.eval x)) 4=true):
 Oper.wp prog ⟨dst,.load 71 x,eD,pos,after,guard⟩ a w K Q=K (a.put dst (.agg (gets w (aG (a.eval x)) (aH (a.eval x)) 4))) w:=aY 4 uY rO hx hh
theorem Kr {eD:TypeId} {x:Operand} {w:World} (hx:d' (ρ x)=true) (hh:has w (aG (ρ x)) (aH (ρ x)) 4=true):
 (execOp ρ ⟨dst,.load 71 x,eD,pos,after,guard⟩).run prog w=.ok (.value (.agg (gets w (aG (ρ x)) (aH (ρ x)) 4))) w:=aD 4 uY rO hx hh
attribute [go_sem] uY rO
attribute [go_sem↓high] C_ Kr
attribute [go_sem high] C_
theorem jK:ga prog 47=true:=by kernel_rfl
theorem Ao:dr prog 47=some 3:=by kernel_rfl
theorem Fx {eD:TypeId} {x:Operand} {a:Act} {w:World} {Q:Exit->Act->World->Prop} (hx:d' (a.eval x)=true) (hh:has w (aG (a.eval x)) (aH (a.eval x)) 3=true):
 Oper.wp prog ⟨dst,.load 47 x,eD,pos,after,guard⟩ a w K Q=K (a.put dst (.agg (gets w (aG (a.eval x)) (aH (a.eval x)) 3))) w:=aY 3 jK Ao hx hh
theorem NT {eD:TypeId} {x:Operand} {w:World} (hx:d' (ρ x)=true) (hh:has w (aG (ρ x)) (aH (ρ x)) 3=true):
 (execOp ρ ⟨dst,.load 47 x,eD,pos,after,guard⟩).run prog w=.ok (.value (.agg (gets w (aG (ρ x)) (aH (ρ x)) 3))) w:=aD 3 jK Ao hx hh
attribute [go_sem] jK Ao
attribute [go_sem↓high] Fx NT
attribute [go_sem high] Fx
structure Ins.ok (i:Ins):Prop where
 op:br i.op
 a:br i.a
 b:br i.b
 c:br i.c
def db (l:List Ins):List Value:=l.flatMap λd=>d.cells.toList
theorem lJ (l:List Ins):(db l).length=l.length*4:=by
 induction l with
 |nil=>rfl
 |cons d l ih=>simp only [db,List.flatMap_cons,dn]at ih⊢;rw [ih];simp;omega
theorem PB:∀(l:List Ins) (k:Nat) (hk:k<l.length),((db l).drop (k*4)).take 4=(l[k]).cells.toList
 |d::l,0,_=>by simp [db]
 |d::l,k+1,hk=>by
  have ih:=PB l k (by simpa using hk)
  have e:(db (d::l)).drop ((k+1)*4)=(db l).drop (k*4):=by
   rw [show(k+1)*4=4+k*4 by omega,<-List.drop_drop]
   rfl
  rw [e,ih];simp
theorem Row.ins {w:World} {b off:Nat} {l:List Ins} (h:Row w b off (db l)) (k:Nat) (hk:k<l.length):Proofs.YtnhelcmddjbafaaGreatDoor.has w b (off+k*4) 4=true/\gets w b (off+k*4) 4=(l[k]).cells:=by
 have:=h.sub (k*4) 4 (by rw [lJ];omega);rw [PB l k hk]at this
 simpa using this
def bj (l:List Int):List Value:=l.map λx=>.int .i32 x
theorem Row.mem {w:World} {b off:Nat} {l:List Int} (h:Row w b off (bj l)) (k:Nat) (hk:k<l.length):w.cell? ⟨b,off+k,none⟩=some (.int .i32 l[k]):=by
 rw [h.cell k (by simpa [bj]using hk)];simp [bj,hk]
def cQ (pc halt n:Int):Bool:=decide (1<=n)&&decide (n<=256)&&decide (0<=pc)&&decide (pc<=2048)&&decide (0<=halt)&&decide (halt<=2)
abbrev ae (pc:Int) (A:Option Addr) (n cap:Nat) (halt:Int):Array Value:=#[.int .i64 pc,.slice A n cap,.int .i64 halt]
attribute [go_sem] ae
theorem cG {pc halt:Int} {n:Nat} (h:cQ pc halt n=true):1<=n/\n<=256/\0<=pc/\pc<=2048/\0<=halt/\halt<=2:=by
 simp [cQ]at h
 omega
theorem ai.row {w:World} {g:Nat} {E:TypeId} {l:List Value} (h:ai w g E l.toArray):Row w g 0 l:=by simpa using Row.cF h
def Ins.at (i:Ins):Nat->Int|0=>i.op|1=>i.a|2=>i.b|_=>i.c
theorem UE {i:Ins} (h:i.ok):∀j,br (i.at j)
 |0=>h.op
 |1=>h.a
 |2=>h.b
 |_+3=>h.c
def av (n:Int):Prop:=-2147483648<=n/\n<=2147483647
end
namespace Mc
variable{base:Nat}
theorem aaC {w:World} {g c n:Nat} {xs:List Int} (h:w.ownsRow base 5 1 (.slice (some ⟨g,0,none⟩) n c) n (cu xs)) (hn:0<n):base<=g/\Row w g 0 (cu xs)/\n<=c:=by
 obtain⟨g',c',e,hb,hr,hc,_⟩:=nD h hn;obtain⟨rfl,rfl⟩:g=g'/\c=c':=by simpa using e
 exact⟨hb,hr,hc⟩
attribute [go_sem] Ins.cells
def nA (i:Ins):List Int:=b_ (eX i.op)++b_ (eX i.a)++b_ (eX i.b)++b_ (eX i.c)
def iq (i:Ins):Dg:=hOf (nA i)
theorem pH {n:Int} (h:br n):(b_ (eX n)).length<=10:=jD 10 _ (by have:=Bm h.1 h.2;omega) ad
theorem iR {l q:List Int} (h:bI l) (h':bI q):bI (l++q):=λx hx=>(lr.1 hx).elim (h x) (h' x)
theorem RB (i:Ins):bI (nA i):=iR (iR (iR (mN _) (mN _)) (mN _)) (mN _)
theorem MY {i:Ins} (h:i.ok):0<(nA i).length/\(nA i).length<=40:=by
 have h1:=pH h.op;have h2:=pH h.a;have h3:=pH h.b;have h4:=pH h.c;have h5:=lZ (eX i.op);unfold nA;simp only [dn]
 omega
theorem QN (l:List Dg):eB (cY l)=true:=by
 induction l with
 |nil=>rfl
 |cons d l ih=>show eB (d.cells.toList++cY l)=true;exact ih
def vI (l:List Dg):Dg:=Vk (fc l (iM l.length) 0) (iM l.length)
def kg (l:List Ins):Dg:=vI (l.map iq)
def kC (l:List Int):Dg:=vI (l.map dx)
theorem JK (i:Ins):(iq i).ok:=aee _
theorem vz (x:Int):(dx x).ok:=Bg _
attribute [go_sem] ae
def jN (pc halt:Int) (l:List Int):Dg:=mA pc halt l.length (kC l)
theorem Wq (w:World) (c:Nat) (h:c<=100000):
 ∃w',(Instr.makeSlice 89 (.int .i64 0) (.int .i64 (c:Int))).run prog w=.ok (.slice (some ⟨w.heap.size,0,none⟩) 0 c) w'/\w'.ownsRow w.heap.size 5 1 (.slice (some ⟨w.heap.size,0,none⟩) 0 c) 0 (cu [])/\al w w':=by
 obtain⟨i,hi,hz,h1,h2⟩:=info_parts Gq;obtain⟨w',hr,ho,hg⟩:=run_make_own (P:=prog) w w.heap.size 89 5 i _ 1 underlying89 hi hz h1 .i64 .i64 c Tk Ib (cr _);exact⟨w',hr,ho,hg.os,hg.tape,hg.output,hg.size,λk hk _=>hg.block k hk aB⟩
theorem Fc {w:World} {v:Value} {n:Nat} {xs:List Int} (h:w.ownsRow base 5 1 v n (cu xs)):(v=.slice none 0 0/\n=0/\xs=[])∨∃g c,v=.slice (some ⟨g,0,none⟩) n c/\base<=g/\Row w g 0 (cu xs)/\n<=c/\n=xs.length:=by
 have hl:=h.1;rw [dR,Nat.mul_one]at hl
 rcases h.2 with⟨h1,h0⟩|⟨g,c,cV,hv,hb,hc,rB,vu,kL,mX⟩
 .exact .inl ⟨h1,h0,List.eq_nil_of_length_eq_zero ad⟩
 .refine .inr ⟨g,c,hv,hb,?_,rB,hl.symm⟩
  exact akY
theorem Q_ (base:Nat) (v:Value) (n:Nat) (xs:List Int) (more:Nat) (w:World) (gp:w.ownsRow base 5 1 v n (cu xs)) (hn:n<=5000) (hm:more<=1000):
 Calls prog 128 #[v,.int .i64 more] w λe w'=>∃v',e=.returned v'/\w'.ownsRow w.heap.size 5 1 v' n (cu xs)/\al w w':=by
 rcases Fc gp with⟨rfl,rfl,rfl⟩|⟨g,c,rfl,hg,aE,hc,hl⟩
 .obtain⟨w1,ET,qD,aw⟩:=Wq w more ad
  obtain⟨i,hi,_⟩:=info_parts Gq;have iV:=run_append_owned_none (P:=prog) (w:=w1) _ 89 89 5 i 1 underlying89 hi _ _ _ qD;clear hi;go_enter func128,ntmps128;go_upto_region 1 with(fail);go_step
  iterate 4 refine kE ?_
  refine ia rfl _ _ 89 rfl rfl rfl ET ?_;clear ET
  iterate 1 refine kE ?_
  refine cj rfl (.tmp 9) (.tmp 10) 89 rfl rfl rfl rfl iV ?_;clear iV;go_wp21;go_ret;exact⟨_,rfl,qD,aw⟩
 .obtain⟨w1,ET,qD,aw⟩:=Wq w (n+more) ad
  obtain⟨v2,w2,iV,mq,eV⟩:=FT w1 _ _ _ [] qD g 0 n c xs hl (aE.ext aw) ad aw.size;rw [Int.natCast_add]at ET;have HL:=J hl;clear hl hc;exact akE
theorem aeR:∀x:Fin 256,bits .or .u8 (x.val:Int) 128=128+(x.val:Int)%128:=by decide+kernel
theorem aiR (m:Nat):bits .or .u8 ((m:Int)%256) 128=128+(m:Int)%128:=by
 have h:=aeR ⟨m%256,Nat.mod_lt _ ad⟩;rw [show(((m%256:Nat):Int))=(m:Int)%256 by omega]at h;rw [h]
 omega
theorem ug (base:Nat) (v:Value) (k:Nat) (xs:List Int) (n:Nat) (w:World) (hn:n<18446744073709551616) (gp:w.ownsRow base 5 1 v k (cu xs)) (hk:k<=5000) (gL:base<=w.heap.size):
 Calls prog 127 #[v,.int .u64 n] w λe w'=>∃v' m,e=.returned v'/\m=k+(b_ n).length/\w'.ownsRow base 5 1 v' m (cu (xs++b_ n))/\Kept (λi=>base<=i) w w':=by
 have hlen:(b_ n).length<=10:=jD 10 n ad ad;have HL:=J hlen;have HB:=J hn;clear hlen hn;go_enter func127,ntmps127;go_wp21
 go_loopw [0,1] (λt0 t1 wr=>∃(m:Nat) (done:List Int),aoR (m<=n)/\t1=.int .u64 m/\aoR (done++b_ m=b_ n)/\wr.ownsRow base 5 1 t0 (k+done.length) (cu (xs++done))/\Kept (λi=>base<=i) w wr) (λ_ t1 _=>(intOf t1).toNat)
 case atStart=>exact⟨n,[],J (cr _),rfl,J rfl,by simpa using gp,kR _ _⟩
 case round=>
  obtain⟨m,done,VK,rfl,hd,ho,hx⟩:=hrel;have hdl:done.length+(b_ m).length<=10:=by have h:=congrArg List.length hd.o;simp at h;have:=HL.o;omega
  have hvp:=lZ m;have pW:∀i,(u0:Value).ownBlock=some i->base<=i:=λi e=>(ho.lt i e).1;have qw:=J pW;clear pW
  by_cases aP:m<128
  .have hq:decide ((128:Int)<=m)=false:=by simp;omega
   have hw:(m:Int)%256=m:=by omega
   obtain⟨v2,w2,iV,mq,eV⟩:=FT (wr.alloc (.cells #[.int .u8 (m:Int)] 5)) _ _ _ (xs++done) (ho.alloc _) wr.heap.size 0 1 1 [(m:Int)] rfl (Row.cF (bN wr _ _)) ad XO;go_upto_region 4 with(fail);go_step
   iterate 4 refine kE ?_
   refine cj rfl (.tmp 15) (.tmp 18) 89 rfl rfl rfl rfl iV ?_;clear iV;go_wp21;go_ret;have hv:done++[(m:Int)]=b_ n:=by rw [<-hd.o,ii aP]
   rw [my,hv]at mq;exact⟨_,_,rfl,by rw [<-hv];simp;omega,mq,(hx.alloc _).trans' eV (λi _ e=>qw.o i e)⟩
  .have hq:decide ((128:Int)<=m)=true:=by simp;omega
   have ahO:(m:Int)<18446744073709551616:=by have:=HB.o;have:=VK.o;omega
   have hor:bits .or .u8 ((m:Int)%256) 128=128+(m:Int)%128:=aiR m;obtain⟨v2,w2,iV,mq,eV⟩:=FT (wr.alloc (.cells #[.int .u8 (128+(m:Int)%128)] 5)) _ _ _ (xs++done) (ho.alloc _) wr.heap.size 0 1 1 [128+(m:Int)%128] rfl (Row.cF (bN wr _ _)) ad XO;have aep:Kept (λi=>base<=i) w w2:=(hx.alloc _).trans' eV (λi _ e=>qw.o i e);go_upto_region 2 with(fail);go_step
   iterate 5 refine kE ?_
   refine cj rfl (.tmp 7) (.tmp 11) 89 rfl rfl rfl rfl iV ?_;clear iV ho;go_wp21;go_roundw
   case rel=>exact⟨m / 128,done++[128+(m:Int)%128],J (by have:=VK.o;omega),by go_num,J (by rw [<-hd.o,lY aP];simp),by rw [dn,<-my,<-gw];exact mq,aep⟩
   case measure=>simp only [intOf];omega
def OP (w w':World) (e:Ending) (k:Nat) (l:List Int):Prop:=
 ∃v,e=.returned v/\w'.ownsRow w.heap.size 5 1 v k (cu l)/\al w w'
theorem nE (base:Nat) (v:Value) (k:Nat) (xs:List Int) (n:Nat) (m:Nat) (w:World) (hm:m=k+(b_ n).length) (hn:n<18446744073709551616) (gp:w.ownsRow base 5 1 v k (cu xs)) (hk:k<=5000):
 Calls prog 84 #[v,.int .u64 n] w λe w'=>OP w w' e m (xs++b_ n):=by
 have⟨HM,HN,HO⟩:=J3' hm hn gp;clear hm hn gp;go_enter func84,ntmps84;go_wp21;refine(Q_ base v k xs 10 w HO.o hk ad).mono ?_;rintro e w1 ⟨v1,rfl,qD,aw⟩;go_wp21;refine(ug w.heap.size v1 k xs n w1 HN.o qD hk aw.size).mono ?_;rintro e w2 ⟨v2,m2,rfl,rfl,mq,eV⟩;go_wp21;go_ret;rw [<-HM.o]at mq;exact⟨_,rfl,mq,aw.trans' eV (λi hi h=>by omega)⟩
theorem MT (n:Int) (h:n<0) (h0:-9223372036854775808<=n):bits .xor .i64 (-1) n=-(n+1):=by
 exact akV
theorem aaz (x:Nat) (h:2*x+1<18446744073709551616):bits .or .u64 (2*(x:Int)) 1=2*(x:Int)+1:=by
 have:=u64_or_nat (2*x) 1 ad ad
 have e:2*x|||1=2*x+1:=by
  have:=Nat.two_pow_add_eq_or_of_lt (show 1<2^1 by decide) x;rw [Nat.pow_one]at this;exact this.symm
 rw [e]at this
 simpa using this
theorem aaJ (n:Int) (h:n<0) (h0:-9223372036854775808<=n):bits .or .u64 (IntKind.u64.wrap (IntKind.u64.wrap (bits .xor .i64 (-1) n)*2)) 1=((eX n:Nat):Int):=by
 rw [MT n h h0,u64_in (x:=-(n+1)) ad ad,u64_in ad ad];obtain⟨x,hx⟩:∃x:Nat,-(n+1)=x:=⟨(-(n+1)).toNat,by omega⟩;rw [hx,Int.mul_comm,aaz x ad];unfold eX;rw [ak h]
 omega
theorem Cp (base:Nat) (v:Value) (k:Nat) (xs:List Int) (n:Int) (m:Nat) (w:World) (hm:m=k+(b_ (eX n)).length) (h0:-9223372036854775808<=n) (h1:n<=9223372036854775807) (gp:w.ownsRow base 5 1 v k (cu xs)) (hk:k<=5000):
 Calls prog 85 #[v,.int .i64 n] w λe w'=>OP w w' e m (xs++b_ (eX n)):=by
 have⟨HM,HO,HF⟩:=J3' hm gp (Bm h0 h1);clear hm gp
 by_cases uc:n<0
 .go_enter func85,ntmps85
  go_wp21;rw [aaJ n uc h0];refine(nE base v k xs (eX n) m w HM.o HF.o HO.o hk).mono ?_;rintro e w1 ⟨v1,rfl,qD,aw⟩;go_wp21;go_ret;exact⟨_,rfl,qD,aw⟩
 .have hf:n*2=((eX n:Nat):Int):=by unfold eX;rw [af uc];omega
  have HE:=J hf;clear hf;go_enter func85,ntmps85;go_wp21;rw [show Value.int IntKind.u64 _=Value.int IntKind.u64 ((eX n:Nat):Int)by rw [<-HE.o]];refine(nE base v k xs (eX n) m w HM.o HF.o HO.o hk).mono ?_;rintro e w1 ⟨v1,rfl,qD,aw⟩;go_wp21;go_ret;exact⟨_,rfl,qD,aw⟩
def ko (i:Ins):Nat->List Int|0=>[]|j+1=>ko i j++b_ (eX (i.at j))
theorem MZ (i:Ins):ko i 4=nA i:=by simp [ko,nA,Ins.at]
theorem BN {i:Ins} (h:i.ok):∀j,(ko i j).length<=10*j
 |0=>by simp [ko]
 |j+1=>by
  have:=BN h j;have:=pH (UE h j);simp only [ko,dn]
  omega
theorem aeH (i:Ins) (j:Nat) (hj:j<4) (w:World):(Instr.index 68 (.agg i.cells) (.int .i64 j)).run prog w=.ok (.int .i64 (i.at j)) w:=by
 rcases(by omega:j=0∨j=1∨j=2∨j=3)with rfl|rfl|rfl|rfl<;>kernel_rfl
theorem GY (i:Ins) (hi:i.ok) (w:World):
 Calls prog 234 #[.slice none 0 0,.agg #[.int .i64 i.op,.int .i64 i.a,.int .i64 i.b,.int .i64 i.c]] w λe w'=>OP w w' e (nA i).length (nA i):=by
 have HI:=J hi;clear hi;have aF:al w _:=dM w (.cells i.cells 71);go_enter func234,ntmps234;go_wp21
 go_loopw [0,16] (λt0 t16 wr=>∃(j:Nat),j<=4/\t16=.int .i64 j/\wr.ownsRow w.heap.size 5 1 t0 (ko i j).length (cu (ko i j))/\al w wr) (λ_ t16 _=>4 - (intOf t16).toNat)
 case atStart=>exact⟨0,by omega,rfl,World.ownsRow_nil _ _ _ _,aF⟩
 case round=>
  obtain⟨j,hj,rfl,ho,hx⟩:=hrel;have hl:=BN HI.o j
  by_cases aP:j<4
  .have key:∀(w1:World) (v1:Value),w1.ownsRow wr.heap.size 5 1 v1 ((ko i j).length+(b_ (eX (i.at j))).length) (cu (ko i j++b_ (eX (i.at j))))->w1.ownsRow w.heap.size 5 1 v1 (ko i (j+1)).length (cu (ko i (j+1))):=λw1 v1 h=>by
    have:=eI h hx.size;rw [<-dn]at this;exact this
   have HP:=λk hk=>(Cp w.heap.size u0 (ko i j).length (ko i j) (i.at j) k wr hk (UE HI.o j).1 (UE HI.o j).2 ho ad);have HK:=J key;have HQ:=J HP;clear key HP hl;have VB:=aeH i j aP;go_wp21;refine(HQ.o _ rfl).mono ?_;rintro e w1 ⟨v1,rfl,qD,aw⟩;go_wp21;go_roundw
   case rel=>exact⟨j+1,aP,by go_num,HK.o _ _ qD,hx.trans aw⟩
   case measure=>simp only [intOf];omega
  .obtain rfl:j=4:=by omega
   go_wp21;go_ret;rw [MZ]at ho;exact⟨_,rfl,ho,hx⟩
theorem EV (i:Ins) (hi:i.ok) (w:World):Calls prog 182 #[.agg i.cells] w λe w'=>e=.returned (.agg (iq i).cells)/\al w w':=by
 have HI:=J hi;have HL:=J (MY hi);clear hi;obtain⟨D,hD⟩:=nm' (iq i);rw [<-hD];have HD:=J hD;clear hD;have aF:al w _:=(dM w (.cells i.cells 71)).alloc (.cells Dg.zero.cells 25);have fz:ai _ (w.heap.size+1) 25 Dg.zero.cells:=ai.ea (w.alloc (.cells i.cells 71)) _ _ _ aB;go_enter func182,ntmps182;go_wp21;refine(GY i HI.o _).mono ?_;rintro e w1 ⟨v1,rfl,qD,aw⟩;obtain⟨g,c,rfl,hg,aE,hc,vu,hl⟩:=nD qD HL.o.1;clear hl;go_wp21;refine(Nu (some ⟨g,0,none⟩) c (nA i) _ _ ⟨rfl,hc,by unfold maxLen at vu;omega,RB i,.inr ⟨g,0,rfl,λ_=>aE⟩⟩ (λb off e _=>by simp at e;exact e.1▸aE.lt)).mono ?_;rintro e w2 ⟨e2,bd⟩;have tZ:hOf (nA i)=D:=HD.o.symm;rw [tZ]at e2;subst e2;clear tZ;have oK:=bX fz (aw.trans bd);have TT:=bH oK;have mB:=ai.aC oK;go_wp21;refine bu results182 rfl rfl dU kH (ai.cw oK _ _) ⟨rfl,?_⟩;exact Kept.putAt ((aF.trans aw).trans bd) _ _ _ (λh=>by omega)
theorem vB (x:Int) (w:World):Calls prog 113 #[.int .i32 x] w λe w'=>e=.returned (.agg (dx x).cells)/\al w w':=by
 refine Oz ?_;intro aF fz;have hu:0<=x%4294967296:=by omega
 have HU:=J hu;clear hu;go_enter func113,ntmps113;go_wp21;refine aoS (lz _ _ HU.o) λw1 aw=>?_;have g_:=bX fz aw;have Jw:=bH g_;have EP:=ai.aC g_;go_wp21;refine bu results113 rfl rfl dU kH (ai.cw g_ _ _) ⟨rfl,?_⟩;exact Kept.putAt (aF.trans aw) _ _ _ (λh=>by omega)
theorem MW:(prog.info? 25).map (λi=>(i.zero,i.size,i.bytes))=some (some (.agg Dg.zero.cells),8,8):=by kernel_rfl
theorem L7 (w:World) (base:Nat) (v:Value) (n:Nat) (xs:List Dg) (gp:w.ownsRow base 25 8 v n (cY xs)) (b off m c:Nat) (l:List Dg) (hm:m=l.length) (hr:Row w b off (cY l)) (hn:n+m<=100000) (gL:base<=w.heap.size):
 ∃v' w',(Builtin.append_ #[23,23] 23 #[v,.slice (some ⟨b,off,none⟩) m c]).run prog w=.ok v' w'/\w'.ownsRow base 25 8 v' (n+m) (cY (xs++l))/\Kept (λi=>v.ownBlock=some i) w w':=by
 obtain⟨i,hi,hz,h1,h2⟩:=info_parts MW;have:=oX (P:=prog) underlying23 hi hz h1 h2 fK ap w base v n (cY xs) gp b off m c (cY l) (by rw [eh,hm]) hr (QN l) Ib ad gL;rw [show cY xs++cY l=cY (xs++l)by simp [cY]]at this;exact this
theorem xB {w:World} {E:TypeId} {v:Value} {n:Nat} {xs:List Dg} (h:w.ownsRow base E 8 v n (cY xs)) (hn:0<n):∃g c,v=.slice (some ⟨g,0,none⟩) n c/\base<=g/\Row w g 0 (cY xs)/\n<=c/\c<=maxLen/\n=xs.length:=by
 have hl:=h.1;rw [eh]at hl
 rcases h.2 with⟨_,h0⟩|⟨g,c,cV,hv,hb,hc,rB,vu,kL,mX⟩
 .omega
 .refine⟨g,c,hv,hb,?_,rB,vu,by omega⟩
  have hln:(cY xs).length=n*8:=by rw [eh,hl]
  exact Yg
theorem PF (w:World) (c:Nat) (h:c<=100000):
 ∃w',(Instr.makeSlice 23 (.int .i64 0) (.int .i64 (c:Int))).run prog w=.ok (.slice (some ⟨w.heap.size,0,none⟩) 0 c) w'/\w'.ownsRow w.heap.size 25 8 (.slice (some ⟨w.heap.size,0,none⟩) 0 c) 0 (cY [])/\al w w':=by
 obtain⟨i,hi,hz,h1,h2⟩:=info_parts MW;obtain⟨w',hr,ho,hg⟩:=run_make_own (P:=prog) w w.heap.size 23 25 i _ 8 underlying23 hi hz h1 .i64 .i64 c Tk Ib (cr _);exact⟨w',hr,ho,hg.os,hg.tape,hg.output,hg.size,λk hk _=>hg.block k hk aB⟩
def abQ (w w':World) (e:Ending) (n:Nat) (l:List Dg):Prop:=
 ∃v,e=.returned v/\w'.ownsRow w.heap.size 25 8 v n (cY l)/\al w w'
theorem Ed (A:Option Addr) (b off cap:Nat) (l:List Int) (n:Nat) (hn:n=l.length) (h2:n<=4096) (hA:0<n->A=some ⟨b,off,none⟩) (w:World) (hr:0<n->Row w b off (bj l)):
 Calls prog 155 #[.slice A n cap] w λe w'=>abQ w w' e n (l.map dx):=by
 have⟨HN,HA,HR⟩:=J3' hn hA hr;clear hn hA hr;obtain⟨w0,tE,VM,aF⟩:=PF w n ad;go_enter func155,ntmps155;go_upto_region 1 with(fail);go_step
 iterate 2 refine kE ?_
 refine ia rfl _ _ 23 rfl rfl rfl tE ?_;clear tE;go_wp21
 go_loopw [3,11] (λt3 t11 wr=>∃(k:Nat),k<=n/\t11=.int .i64 k/\wr.ownsRow w.heap.size 25 8 t3 k (cY ((l.take k).map dx))/\al w wr) (λ_ t11 _=>n - (intOf t11).toNat)
 case atStart=>exact⟨0,cI _,rfl,VM,aF⟩
 case round=>
  obtain⟨k,hk,rfl,ho,hx⟩:=hrel;have pW:∀i,i<w.heap.size->(u3:Value).ownBlock=some i->False:=λi hi e=>by have:=(ho.lt i e).1;omega
  have qw:=J pW;clear pW
  by_cases aP:k<n
  .have nS:k<l.length:=by have:=HN.o;omega
   obtain rfl:=HA.o ad;have LF:=((HR.o ad).ext hx).mem k nS;have qB:=((HR.o ad).ext hx).lt;go_upto_region 5 with(fail);go_step
   iterate 2 refine kE ?_
   refine wpList_step (λK hK=>?_);go_wp21;refine aoS (vB l[k] _) λw1 aw=>?_;refine hK _ _ ?_;clear hK K;obtain⟨v2,w2,iV,mq,eV⟩:=L7 (w1.alloc (.cells (dx l[k]).cells 25)) _ _ _ ((l.take k).map dx) ((aI ho aw).alloc _) w1.heap.size 0 1 1 [dx l[k]] rfl (by simpa [cY]using Row.cF (bN w1 25 (dx l[k]).cells)) ad (by have:=(hx.trans aw).size;simp;omega)
   iterate 1 refine kE ?_
   refine cj rfl (.tmp 15) (.tmp 18) 23 rfl rfl rfl rfl iV ?_;clear iV;go_wp21;go_roundw
   case rel=>exact⟨k+1,aP,by go_num,by rw [List.take_succ_eq_append_getElem nS,qy];exact mq,((hx.trans aw).alloc _).trans' eV qw.o⟩
   case measure=>simp only [intOf];omega
  .go_wp21
   go_ret;have e:k=n:=by omega
   subst e;rw [kI (Nat.le_of_eq HN.o.symm)]at ho;exact⟨_,rfl,ho,hx⟩
