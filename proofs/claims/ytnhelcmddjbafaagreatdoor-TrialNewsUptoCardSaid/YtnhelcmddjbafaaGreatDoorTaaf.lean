import Derived.Laws.MakeOwn
import Derived.Laws.OwnMore
import Derived.Test.YtnhelcmddjbafaaGreatDoorTaae
set_option maxHeartbeats 4000000
set_option maxRecDepth 100000
open Go.Proofs.Tryz
namespace Go.Proofs.YtnhelcmddjbafaaGreatDoor
open Go.RowKit
section
open Sq
variable{dst:Option Tmp}{pos:String}{after:Array Edge}{guard:Option (Nat×Bool)}{K:Act->World->Prop}{ρ:Operand->Value}
theorem Y8 (l) (s) (h:fK l s=0):l.find? (λv=>decide (v.name=s))=none:=by
 unfold fK at h
 cases hf:l.find? (λv=>decide (v.name=s))with
 |none=>rfl
 |some v=>rw [hf]at h;simp only at h;split at h<;>omega
theorem Y9 (l) (v:Vr) (h:fK l v.name=0):∀t,(λt=>if t=v.name then some (Value.int .i64 (if 0<v.size then 1 else 0))else IF (fK l) t) t=IF (fK (l++[v])) t:=by
 intro t;have hf:=Y8 l v.name h
 by_cases e:t=v.name
 .subst e
  have:fK (l++[v]) v.name=if 0<v.size then 2 else 1:=by
   unfold fK;rw [List.find?_append,hf];simp
  simp only [if_true];unfold IF;rw [this]
  split<;>simp
 .have e2:¬v.name=t:=λq=>e q.symm
  have:fK (l++[v]) t=fK l t:=by
   unfold fK;rw [List.find?_append];simp [e2]
  simp only [af e];unfold IF;rw [this]
theorem ZY (cb g) (c) (p) (N:Nat) (rT:5<N) (KJ:N<=g) (KI:N<=cb) (w:World) (hN:N<=w.heap.size) (h:lZ w N c p) (hL:ew w) (hC:Ck w cb g (λ_=>0) E0 0):
 Calls prog 192 #[.pointer (some ⟨cb,0,none⟩),.agg c.cells] w λe w'=>WE cb g (fK p.vars) E0 0 (ak (eM [] p.vars) (must (decide (cells p.vars<=64)) 8 rq)) e w'/\Kept (SG cb g) w w':=by
 obtain⟨X,hX⟩:=nm' (ak (eM [] p.vars) (must (decide (cells p.vars<=64)) 8 rq));rw [<-hX];have HX:=J hX.symm;clear hX;have ry:=J (show∀j,SG cb g j->N<=j from λj h=>by rcases h with h|h<;>omega);have jd:=hC.map.lt;have hc2:=hC.lt;obtain⟨cn,kv,lK,⟨A,n,cc⟩,cs,ct,rO,iV,mC,cq,oV⟩:=c;have aK:=dz w (.cells (Pc.cells ⟨cn,kv,lK,⟨A,n,cc⟩,cs,ct,rO,iV,mC,cq,oV⟩) 163);have cG:=bN w 163 (Pc.cells ⟨cn,kv,lK,⟨A,n,cc⟩,cs,ct,rO,iV,mC,cq,oV⟩);have iq:=J (h.ext aK hN);have fx:=J (ay hN aK.size);obtain⟨hn,hf,hok,b,off,hA,hE⟩:=h.vars.ext aK;refine zi ?_;intro hm HN HA HE;have⟨oN,yh,tO,oO⟩:=J4' hok (hL.ext aK) (hC.ext aK) (show¬SG cb g w.heap.size by rintro(h|h)<;>omega);clear hn hA hE hok hf h hL hC jd hc2;go_enter func192,ntmps192;go_upto_region 1 with(fail);generalize hW:(w.alloc (.cells (Pc.cells ⟨cn,kv,lK,⟨A,n,cc⟩,cs,ct,rO,iV,mC,cq,oV⟩) 163))=W at aK cG HE yh tO iq fx⊢;clear hW;generalize w.heap.size=pb at cG oO⊢;have cG:=J cG;have dX:=J aK;have im:=bC cG.o;have ig:=cG.o.lt;clear aK;go_wp2_with fail
 go_loopw [9] (λt9 wr=>∃(j:Nat),j<=n/\t9=.int .i64 j/\ak (eM (p.vars.take j) (p.vars.drop j)) (must (decide (cells p.vars<=64)) 8 rq)=X/\Ck wr cb g (fK (p.vars.take j)) E0 0/\Kept (SG cb g) W wr) (λt9 _=>n - (intOf t9).toNat)
 case atStart=>exact⟨0,de _,rfl,HX.o,⟨tO.o.blk,tO.o.map.nH (λt=>rfl)⟩,kR _ _⟩
 case round=>
  obtain⟨j,hj,rfl,bO,KR,hx⟩:=hrel;have⟨cr,mI,EN⟩:=J3' bO hx KR;clear bO hx KR im ig;have im:=bC (bK cG.o mI.o oO.o);have ig:=(bK cG.o mI.o oO.o).lt
  by_cases aX:j<n
  .have ft:j<p.vars.length:=by have:=HN.o;omega
   have iI:(j:Int)<n:=by omega
   obtain rfl:=HA.o ad;have nO:=(HE.o ad);have aG:=nO.2.kept mI.o (λq=>by have:=ry.o _ q;have:=nO.1;omega);obtain⟨jM,hg'⟩:=oL aG j ft;have ie:=aG.lt;obtain⟨x,gi⟩:=nm' (p.vars[j]);have HVO:=J (oN.o x adk);have oB:p.vars.drop j=x::p.vars.drop (j+1):=by rw [gi];exact ui ft
   have pL:p.vars.take (j+1)=p.vars.take j++[x]:=by rw [gi,mJ,List.getElem?_eq_getElem ft];rfl
   rw [<-gi]at hg';have bO:=cr.o;rw [oB]at bO;have FM:=J pL;obtain⟨Y,hY⟩:=nm' (ak (eM (p.vars.take j++[x]) (p.vars.drop (j+1))) (must (decide (cells p.vars<=64)) 8 rq));obtain⟨κ,Wy⟩:=nm' (fK (p.vars.take j));have HYE:=J hY;rw [<-Wy]at EN;have jy:=J Wy;obtain⟨v,hv⟩:=nm' (κ x.name);have HV:=J hv
   have fN:gq (X=ak (must (dv x.name) 6 x.name) (ak (must (v==0) 7 x.name) (ak (must (iX x.size 0 64&&span x) 2 x.name) Y))):=J (by
    rw [<-bO,hY,hv,Wy,eM,dx,dx,dx])
   clear aG nO gi bO oB pL hY Wy hv cr;have y0:=dz wr (.cells (aO x) 232);have Is:=bN wr 232 (aO x);go_upto_region 4 with(fail);clear jM hg' ie im ig;have HZ:=J (mI.o.trans (Kept.ext y0));have HCZ:=J (EN.o.ext y0)
   have HEB:=J (show¬SG cb g wr.heap.size by
    have h1:=EN.o.map.lt;have h2:=EN.o.lt;rintro(h|h)<;>omega)
   generalize ku:(wr.alloc (.cells (aO x) 232))=W1 at y0 Is HZ HCZ⊢;generalize wr.heap.size=eb at Is HEB⊢;have hV:=J Is;clear ku y0 Is mI EN;have HLZ:=J (yh.o.kept HZ.o (λk hk h=>by have:=ry.o k h;omega));refine eW (λw1=>al W1 w1) [(0,2),(1,1),(3,2),(4,1),(2,0),(5,0)] ?_;refine eX ?_;have bT:=J (pj W1)
   repeat first|refine bV ?_|refine cF bT.o ade ?_|refine cD bT.o ?_
   refine ap (λK hK=>?_);go_simp;refine(mq x.name HVO.o.name _ (HLZ.o.ext bT.o)).mono ?_;refine VI ?_;intro w1 dR;clear hK K
   repeat first|refine bV ?_|refine cF dR.o ade ?_|refine cD dR.o ?_
   refine dJ bd bd (λK hK=>?_);go_simp;have iF:=J ((Kept.ext (S:=SG cb g) dX.o).trans (HZ.o.trans (Kept.ext dR.o)));have pr:=J (HCZ.o.ext dR.o)
   cases hn:dv x.name
   .have HR:=J (show X=some ⟨6,x.name⟩by rw [fN.o,hn];rfl)
    exact MN
   .have gO:=J (show X=ak (must (v==0) 7 x.name) (ak (must (iX x.size 0 64&&span x) 2 x.name) Y)by rw [fN.o,hn];rfl)
    clear fN hn;refine(bj true _ _ _).mono ?_;rintro e w8 ⟨he,rfl⟩;have he:=cP.none he;subst he;refine hK.out _ _ ?_;clear hK K;refine fc ?_;clear iF pr;go_upto_region 5 with(fail);refine eW (λw2=>al w1 w2) [(0,2),(1,2),(2,1),(5,2),(6,1),(3,0),(4,2),(7,0)] ?_;refine eX ?_;have eL:=J (pj w1)
    repeat first|refine bV ?_|refine cF eL.o amp ?_|refine cD eL.o ?_
    refine ap (λK hK=>?_);go_simp;refine uW (lB cb g κ E0 0 x.name _ (HCZ.o.ext (dR.o.trans eL.o))) ?_;rw [<-HV.o];refine hK.out _ _ (λ_=>eL.o) ?_;clear hK K
    repeat first|refine bV ?_|refine cF eL.o amp ?_|refine cD eL.o ?_
    refine dJ bd bd (λK hK=>?_);go_simp;have fg:=J (dR.o.trans eL.o);have iF:=J ((Kept.ext (S:=SG cb g) dX.o).trans (HZ.o.trans (Kept.ext fg.o)));have pr:=J (HCZ.o.ext fg.o)
    by_cases jB:v=0
    .have qv:(v !=0)=false:=by simp [jB]
     have eK:=J (show X=ak (must (iX x.size 0 64&&span x) 2 x.name) Y by rw [gO.o,jB];rfl)
     try rw [qv]
     try simp only [Bool.not_false]
     refine(bj true _ _ _).mono ?_;rintro e w8 ⟨he,rfl⟩;have he:=cP.none he;subst he;refine hK.out _ _ ?_;clear hK K;refine fc ?_;clear iF pr gO;have Bj:=J (show fK (p.vars.take j) x.name=0 by rw [<-jy.o,<-HV.o,jB]);clear qv jB;go_upto_region 6 with(fail);generalize Fh:w1.drew=W2 at fg⊢;clear Fh
     cases hb:iX x.size 0 64
     .have HR:=J (show X=some ⟨2,x.name⟩by rw [eK.o,hb];rfl)
      refine eW (λw2=>al W2 w2) [(0,2),(1,1),(7,2),(8,1),(2,0),(3,2),(4,1),(5,0),(6,2),(9,0)] ?_;refine eX ?_;have rz:=J (pj W2);refine aaH ?_;refine ap (λK hK=>?_);go_simp;refine uW (fG _ _ _ _) ?_;rw [hb];refine hK.out _ _ (λ_=>rz.o) ?_;clear hK K;refine aaH ?_;refine QG ?_;intro K hK;clear hK K;refine aaH ?_;refine dJ bd bd (λK hK=>?_);go_simp;have iF:=J ((Kept.ext (S:=SG cb g) dX.o).trans (HZ.o.trans (Kept.ext (fg.o.trans rz.o))));have pr:=J (HCZ.o.ext (fg.o.trans rz.o));exact MN
     .refine eW (λw2=>al W2 w2) [(0,2),(1,1),(7,2),(8,1),(2,0),(3,2),(4,1),(5,0),(6,2),(9,0)] ?_;refine eX ?_
      have rz:=J (pj W2);refine aaH ?_;refine ap (λK hK=>?_);go_simp;refine uW (fG _ _ _ _) ?_;rw [hb];refine hK.out _ _ (λ_=>rz.o) ?_;clear hK K;refine aaH ?_;refine ap (λK hK=>?_);go_simp;refine kU (xy x _) λw2 bM=>?_;have HU1:=J (rz.o.trans bM);clear bM;refine hK.out _ _ (λ_=>HU1.o) ?_;clear hK K
      repeat first|refine bV ?_|refine cF HU1.o amk ?_|refine cD HU1.o ?_
      refine dJ bd bd (λK hK=>?_);go_simp;have eP:=J (fg.o.trans HU1.o);have iF:=J ((Kept.ext (S:=SG cb g) dX.o).trans (HZ.o.trans (Kept.ext eP.o)));have pr:=J (HCZ.o.ext eP.o)
      cases hsp:span x
      .have HR:=J (show X=some ⟨2,x.name⟩by rw [eK.o,hb,hsp];rfl)
       exact MN
      .have k_:=J (show X=Y by rw [eK.o,hb,hsp];rfl)
       refine(bj true _ _ _).mono ?_;rintro e w8 ⟨he,rfl⟩;have he:=cP.none he;subst he;refine hK.out _ _ ?_;clear hK K;refine fc ?_;clear iF eK hb hsp;go_upto_region 7 with(fail);have M_:=pr;clear pr;obtain⟨w3,dr,zC,kh⟩:=dt.put (P:=prog) (M_.o.map.ext (pj w2)) underlying280 underlying9 x.name (.int .i64 0);have⟨HS',Ns,mw,HEG⟩:=J4' zC ((Kept.ext (S:=(·=g)) (pj w2)).trans kh) M_.o.ne (show¬eb=g from λe=>HEB.o (Or.inl e));clear zC kh;refine eW (λw4=>Kept (·=g) w2 w4) [(0,2),(1,2),(2,2),(3,1),(4,2),(5,1),(6,0)] ?_;refine eX ?_;have HT0:=J (show Kept (·=g) w2 w2.drew from(kR _ w2).drew)
       repeat first|refine bV ?_|refine cF HT0.o (by intro w1 hS;have c4:=bK M_.o.blk hS mw.o;have c5:=bC c4;have c6:=c4.lt;have d4:=bK (bX hV.o eP.o) hS HEG.o;have d5:=bC d4;have d6:=d4.lt;exact fE) ?_|refine cD HT0.o ?_
       refine ap (λK hK=>?_);go_simp;refine hK.out _ _ (λ_=>Ns.o) ?_;clear hK K;refine fc ?_;clear dr;have Om:=bC (bK (bX hV.o eP.o) Ns.o HEG.o);have Oq:=(bK (bX hV.o eP.o) Ns.o HEG.o).lt;have HSN:=J (Y9 (p.vars.take j) x Bj.o)
       by_cases hz:x.size>0
       .go_upto_region 9 with(fail)
        clear Om Oq;have HZS:=J hz;clear hz;obtain⟨w5,dr,zC,kh⟩:=dt.put (P:=prog) (HS'.o.ext (pj w3)) underlying280 underlying9 x.name (.int .i64 1);have tP:=J zC;have Bf:=J ((Kept.ext (S:=(·=g)) (pj w3)).trans kh);clear zC kh;refine eW (λw4=>Kept (·=g) w3 w4) [(0,2),(1,2),(2,2),(3,1),(4,2),(5,1),(6,0)] ?_;refine eX ?_;have HT0:=J (show Kept (·=g) w3 w3.drew from(kR _ w3).drew)
        repeat first|refine bV ?_|refine cF HT0.o (by intro w1 hS;have c4:=bK M_.o.blk (Ns.o.trans hS) mw.o;have c5:=bC c4;have c6:=c4.lt;have d4:=bK (bX hV.o eP.o) (Ns.o.trans hS) HEG.o;have d5:=bC d4;have d6:=d4.lt;exact fE) ?_|refine cD HT0.o ?_
        refine ap (λK hK=>?_);go_simp;refine hK.out _ _ (λ_=>Bf.o) ?_;clear hK K;refine fc ?_;clear dr;go_wp2_with fail
        exact⟨⟨j+1,aX,by go_num,by rw [FM.o,<-HYE.o,k_.o],⟨bK M_.o.blk (Ns.o.trans Bf.o) mw.o,tP.o.nH (λt=>by
         rw [FM.o,<-HSN.o t,av HZS.o,jy.o]
         by_cases e:t=x.name
         .simp only [av e]
         .simp only [af e])⟩,HZ.o.trans ((Kept.ext eP.o).trans ((Ns.o.trans Bf.o).mono (λ_ _ h=>Or.inl h)))⟩,by simp only [intOf];omega⟩
       .go_wp2_with fail
        exact⟨⟨j+1,aX,by go_num,by rw [FM.o,<-HYE.o,k_.o],⟨bK M_.o.blk Ns.o mw.o,HS'.o.nH (λt=>by
         rw [FM.o,<-HSN.o t,af (show¬0<x.size from hz),jy.o])⟩,HZ.o.trans ((Kept.ext eP.o).trans (Ns.o.mono (λ_ _ h=>Or.inl h)))⟩,by simp only [intOf];omega⟩
    .have qv:(v !=0)=true:=by simp [jB]
     have qn:(v==0)=false:=by simp [jB]
     have HR:=J (show X=some ⟨7,x.name⟩by rw [gO.o,qn];rfl)
     try rw [qv]
     try simp only [vS]
     exact MN
  .obtain rfl:j=n:=by omega
   have JC:=J (show X=must (decide (cells p.vars<=64)) 8 rq by
    rw [<-cr.o,HN.o,uj];rfl)
   have VO:=J (show Ck wr cb g (fK p.vars) E0 0 from by have h:=EN.o;rwa [HN.o,lf]at h);have lL:=bG (bK cG.o mI.o oO.o);have lO:=bH (bK cG.o mI.o oO.o);clear cr EN;go_wp2_with fail;refine kU (DI ⟨cn,kv,lK,⟨A,j,cc⟩,cs,ct,rO,iV,mC,cq,oV⟩ p N _ (ay fx.o mI.o.size) (iq.o.kept mI.o fx.o ry.o)) λw1 aB=>?_;have iF:=J ((Kept.ext (S:=SG cb g) dX.o).trans (mI.o.trans (Kept.ext aB)));have pr:=J (VO.o.ext aB);clear lL lO im ig aB
   by_cases h64:cells p.vars<=64
   .have HR:=J (show X=none by rw [JC.o,cO h64];rfl)
    go_wp2_with fail;refine(bj true _ _ _).mono ?_;rintro e w2 ⟨he,rfl⟩;have he:=cP.none he;subst he;go_wp2_with fail;go_end0;rw [HR.o];exact⟨⟨rfl,pr.o⟩,iF.o⟩
   .have HR:=J (show X=some ⟨8,rq⟩by rw [JC.o,cU h64];rfl)
    go_wp2_with fail;rw [cU (show¬cells p.vars<=64 by omega)];exact MN
def rI (l:List Vr):ByteArray->Option Value:=λt=>if l.any (λu=>decide (u.name=t))=true then some (.bool true)else none
theorem J8 (l) (x:Vr):∀t,(λt=>if t=x.name then some (.bool true)else rI l t) t=rI (l++[x]) t:=by
 intro t;unfold rI;rw [List.any_append]
 by_cases h:t=x.name
 .subst h;simp
 .have:¬x.name=t:=λe=>h e.symm
  have h2:decide (x.name=t)=false:=cU this;simp only [List.any_cons,List.any_nil,h2,Bool.or_false];rw [af h]
theorem NK (l) (s:Str):(rI l s).getD (.bool false)=.bool (l.any (λu=>decide (u.name=s))):=by
 unfold rI
 cases h:l.any (λu=>decide (u.name=s))<;>rfl
theorem QA (w:World):(zeroValue 4).run prog w=.ok (.bool false) w:=by
 first|kernel_rfl|rfl
theorem aje {w} {mb} {l} (h:dt w mb (rI l)) (s:Str):(Instr.lookup 340 (.map (some mb)) (.string s) false).run prog w=.ok (.bool (l.any (λu=>decide (u.name=s)))) w:=by
 have ur:=dt.look (P:=prog) h underlying340 underlying9 (z:=.bool false) QA s;rw [ur,NK]
theorem Ck.kept {S} {w w'} {cb g} {κ} {part} {aU:Nat} (h:Ck w cb g κ part aU) (hk:Kept S w w') (h1:¬S cb) (h2:¬S g):Ck w' cb g κ part aU:=⟨bK h.blk hk h1,h.map.kept hk h2⟩
theorem Zx (cb g) (κ) (c) (p) (N) (rT:5<N) (w:World) (hN:N<=w.heap.size) (h:lZ w N c p) (hL:ew w) (hC:Ck w cb g κ E0 0):
 Calls prog 193 #[.pointer (some ⟨cb,0,none⟩),.agg c.cells] w λe w'=>WE cb g κ E0 0 (ak (must (decide (p.params.length<=4)) 8 f_) (ak (dH κ [] p.params) (must (decide (na p.params<=512)) 8 f_))) e w'/\al w w':=by
 obtain⟨X,hX⟩:=nm' (ak (must (decide (p.params.length<=4)) 8 f_) (ak (dH κ [] p.params) (must (decide (na p.params<=512)) 8 f_)));rw [<-hX];have HX:=J hX;clear hX;obtain⟨cn,kv,lK,cv,cs,ct,⟨A,n,cc⟩,iV,mC,cq,oV⟩:=c;have aK:=dz w (.cells (Pc.cells ⟨cn,kv,lK,cv,cs,ct,⟨A,n,cc⟩,iV,mC,cq,oV⟩) 163);have cG:=bN w 163 (Pc.cells ⟨cn,kv,lK,cv,cs,ct,⟨A,n,cc⟩,iV,mC,cq,oV⟩);have iq:=J (h.ext aK hN);have fx:=J (ay hN aK.size);obtain⟨hn,hf,hok,b,off,hA,hE⟩:=h.params.ext aK;have hm:=hf.max ad;have⟨HN,HA,HE,oN,yh,rD⟩:=J6' (show n=p.params.length from hn) hA hE hok (hL.ext aK) hC;clear hn hA hE hok hf h hL hC;have CU:=@run_makeMap prog;go_enter func193,ntmps193;go_upto_region 1 with(fail);generalize hW:(w.alloc (.cells (Pc.cells ⟨cn,kv,lK,cv,cs,ct,⟨A,n,cc⟩,iV,mC,cq,oV⟩) 163))=W at aK cG HE yh iq fx⊢;clear hW;generalize w.heap.size=pb at cG⊢;have cG:=J cG;have dX:=J aK;have im:=bC cG.o;have ig:=cG.o.lt;clear aK
 by_cases h4:(n:Int)<=4
 .have gN:=J (show X=ak (dH κ [] p.params) (must (decide (na p.params<=512)) 8 f_)by
   rw [HX.o,cO (show p.params.length<=4 by have:=HN.o;omega)];rfl)
  go_wp21;refine(bj true _ _ _).mono ?_;rintro e w8 ⟨he,rfl⟩;have he:=cP.none he;subst he;clear h4 HX;go_upto_region 3 with(fail);have hM:=dt.made W;have y0:=dz W (.map #[] 0);generalize ku:(W.alloc (.map #[] 0))=W1 at hM y0⊢;clear ku;have⟨kz,WO,oO⟩:=J3' (hM.nH (f':=rI []) (λt=>rfl)) (show N<=W.heap.size/\w.heap.size<=W.heap.size from⟨fx.o,dX.o.size⟩) (show¬pb=W.heap.size from λe=>by have:=cG.o.lt;omega);generalize W.heap.size=mb at kz WO oO⊢;have bT:=J y0;clear hM y0 im ig;have im:=bC (bX cG.o bT.o);have ig:=(bX cG.o bT.o).lt;go_wp21
  go_loopw [16] (λt16 wr=>∃(j:Nat),j<=n/\t16=.int .i64 j/\ak (dH κ (p.params.take j) (p.params.drop j)) (must (decide (na p.params<=512)) 8 f_)=X/\dt wr mb (rI (p.params.take j))/\Kept (·=mb) W1 wr) (λt16 _=>n - (intOf t16).toNat)
  case atStart=>exact⟨0,de _,rfl,gN.o.symm,kz.o,kR _ _⟩
  case round=>
   obtain⟨j,hj,rfl,bO,hmp,hx⟩:=hrel;have⟨cr,mI,VS,AB⟩:=J4' bO hx hmp (show al w wr from(dX.o.trans bT.o).trans' hx (λi hi e=>by have:=WO.o.2;omega));clear bO hx hmp im ig;have im:=bC (bK (bX cG.o bT.o) mI.o oO.o);have ig:=(bK (bX cG.o bT.o) mI.o oO.o).lt
   by_cases aX:j<n
   .have ft:j<p.params.length:=by have:=HN.o;omega
    have iI:(j:Int)<n:=by omega
    obtain rfl:=HA.o ad;have nO:=(HE.o ad);have aG:=(nO.2.ext bT.o).kept mI.o (λq=>by have:=WO.o;have:=nO.1;omega);obtain⟨jM,hg'⟩:=oL aG j ft;have ie:=aG.lt;obtain⟨x,gi⟩:=nm' (p.params[j]);have HVO:=J (oN.o x adk);have oB:p.params.drop j=x::p.params.drop (j+1):=by rw [gi];exact ui ft
    have pL:p.params.take (j+1)=p.params.take j++[x]:=by rw [gi,mJ,List.getElem?_eq_getElem ft];rfl
    rw [<-gi]at hg';have bO:=cr.o;rw [oB]at bO;have FM:=J pL;obtain⟨Y,hY⟩:=nm' (ak (dH κ (p.params.take j++[x]) (p.params.drop (j+1))) (must (decide (na p.params<=512)) 8 f_));have HYE:=J hY;obtain⟨v,hv⟩:=nm' (κ x.name);have HV:=J hv;obtain⟨ah,hah⟩:=nm' ((p.params.take j).any (λu=>decide (u.name=x.name)));have HAH:=J hah
    have fN:gq (X=ak (must (dv x.name) 6 x.name) (ak (must (v==0&&!ah) 7 x.name) (ak (must (x.size==0) 3 x.name) (ak (must (span x) 2 x.name) Y)))):=J (by
     rw [<-bO,hY,hv,hah,dH,dx,dx,dx,dx])
    clear aG nO gi bO oB pL hY hv hah cr;have y1:=dz wr (.cells (aO x) 232);have Is:=bN wr 232 (aO x);go_upto_region 6 with(fail);clear jM hg' ie im ig;have⟨HZ,HZW,BX⟩:=J3' (mI.o.trans (Kept.ext y1)) (AB.o.trans y1) (VS.o.ext y1)
    have HEB:=J (show¬wr.heap.size=mb by
     have h1:=VS.o.lt
     omega)
    generalize Fh:(wr.alloc (.cells (aO x) 232))=W2 at y1 Is HZ HZW BX⊢;generalize wr.heap.size=eb at Is HEB⊢;have hV:=J Is;clear Fh y1 Is mI VS AB;have HLZ:=J ((yh.o.ext bT.o).kept HZ.o (λk hk h=>by have:=WO.o;omega));refine eW (λw1=>al W2 w1) [(0,2),(1,1),(3,2),(4,1),(2,0),(5,0)] ?_;refine eX ?_;have dR:=J (pj W2)
    repeat first|refine bV ?_|refine cF dR.o ade ?_|refine cD dR.o ?_
    refine ap (λK hK=>?_);go_simp;refine kU (mq x.name HVO.o.name _ (HLZ.o.ext dR.o)) λw1 aB=>?_;have fg:=J (dR.o.trans aB);clear aB;refine hK.out _ _ (λ_=>fg.o) ?_;clear hK K
    repeat first|refine bV ?_|refine cF fg.o ade ?_|refine cD fg.o ?_
    refine dJ bd bd (λK hK=>?_);go_simp;have iF:=J (HZW.o.trans fg.o)
    cases hn:dv x.name
    .have HR:=J (show X=some ⟨6,x.name⟩by rw [fN.o,hn];rfl)
     exact VM
    .have gO:=J (show X=ak (must (v==0&&!ah) 7 x.name) (ak (must (x.size==0) 3 x.name) (ak (must (span x) 2 x.name) Y))by rw [fN.o,hn];rfl)
     clear fN hn;refine(bj true _ _ _).mono ?_;rintro e w8 ⟨he,rfl⟩;have he:=cP.none he;subst he;refine hK.out _ _ ?_;clear hK K;refine fc ?_;clear iF;go_upto_region 7 with(fail);have HLK:=J (show∀w',al w1 w'->(Instr.lookup 340 (.map (some mb)) (.string x.name) false).run prog w'=.ok (.bool ah) w' from λw' hk=>by rw [aje (BX.o.ext (fg.o.trans hk)),HAH.o])
     by_cases jB:v=0
     .have qv:(v !=0)=false:=by simp [jB]
      have eK:=J (show X=ak (must (!ah) 7 x.name) (ak (must (x.size==0) 3 x.name) (ak (must (span x) 2 x.name) Y))by rw [gO.o,jB];rfl);refine amF ?_;intro eL K hK;rintro e w2 ⟨rfl,rfl⟩;rw [<-HV.o,qv];refine hK.out _ _ (λ_=>eL.o) ?_;clear hK K
      repeat first|refine bV ?_|refine cF eL.o ahD ?_|refine cD eL.o ?_
      refine dJ bd bd (λK hK=>?_);go_simp;have eP:=J (fg.o.trans eL.o);have iF:=J (HZW.o.trans eP.o)
      cases ah
      .have k_:=J (show X=ak (must (x.size==0) 3 x.name) (ak (must (span x) 2 x.name) Y)from eK.o)
       try simp only [Bool.not_false]
       refine(bj true _ _ _).mono ?_;rintro e w8 ⟨he,rfl⟩;have he:=cP.none he;subst he;refine hK.out _ _ ?_;clear hK K;refine fc ?_;clear gO eK iF;go_upto_region 8 with(fail);generalize Yd:w1.drew=W3 at eP⊢;clear Yd;have Om:=bC (bX hV.o eP.o);have Oq:=(bX hV.o eP.o).lt;have iF:=J (HZW.o.trans eP.o);go_wp21
       cases hq:(x.size==0)
       .have HR:=J (show X=some ⟨3,x.name⟩by rw [k_.o,hq];rfl)
        exact VM
       .have pu:=J (show X=ak (must (span x) 2 x.name) Y by rw [k_.o,hq];rfl)
        refine(bj true _ _ _).mono ?_;rintro e w8 ⟨he,rfl⟩;have he:=cP.none he;subst he;clear Om Oq hq k_ iF;go_upto_region 9 with(fail);refine eW (λw2=>al W3 w2) [(0,1),(2,2),(3,1),(1,0),(4,0)] ?_;refine eX ?_;have rz:=J (pj W3)
        repeat first|refine bV ?_|refine cF rz.o aml ?_|refine cD rz.o ?_
        refine ap (λK hK=>?_);go_simp;refine kU (xy x _) λw2 bM=>?_;have HU1:=J (rz.o.trans bM);clear bM;refine hK.out _ _ (λ_=>HU1.o) ?_;clear hK K
        repeat first|refine bV ?_|refine cF HU1.o aml ?_|refine cD HU1.o ?_
        refine dJ bd bd (λK hK=>?_);go_simp;have kB:=J (eP.o.trans HU1.o);have iF:=J (HZW.o.trans kB.o)
        cases hsp:span x
        .have HR:=J (show X=some ⟨2,x.name⟩by rw [pu.o,hsp];rfl)
         exact VM
        .have M8:=J (show X=Y by rw [pu.o,hsp];rfl)
         refine(bj true _ _ _).mono ?_;rintro e w8 ⟨he,rfl⟩;have he:=cP.none he;subst he;refine hK.out _ _ ?_;clear hK K;refine fc ?_;clear hsp pu;have Om:=bC (bX hV.o kB.o);have Oq:=(bX hV.o kB.o).lt;obtain⟨w5,dr,zC,kh⟩:=dt.put (P:=prog) (BX.o.ext kB.o) underlying340 underlying9 x.name (.bool true);have tP:=J zC;have Bf:=J kh;clear zC kh;go_wp21;exact⟨⟨j+1,aX,by go_num,by rw [FM.o,<-HYE.o,M8.o],tP.o.nH (λt=>by rw [FM.o];exact J8 (p.params.take j) x t),HZ.o.trans ((Kept.ext kB.o).trans Bf.o)⟩,by simp only [intOf];omega⟩
      .have HR:=J (show X=some ⟨7,x.name⟩from eK.o)
       exact anJ
     .have qv:(v !=0)=true:=by simp [jB]
      have qn:(v==0)=false:=by simp [jB]
      have HR:=J (show X=some ⟨7,x.name⟩by rw [gO.o,qn];rfl);refine amF ?_;intro eL K hK;rintro e w2 ⟨rfl,rfl⟩;rw [<-HV.o,qv];refine hK.out _ _ (λ_=>eL.o) ?_;clear hK K
      repeat first|refine bV ?_|refine cF eL.o ahD ?_|refine cD eL.o ?_
      refine dJ bd bd (λK hK=>?_);go_simp;have iF:=J (HZW.o.trans (fg.o.trans eL.o));exact anJ
   .obtain rfl:j=n:=by omega
    have JC:=J (show X=must (decide (na p.params<=512)) 8 f_ by
     rw [<-cr.o,HN.o,uj];rfl)
    have lL:=bG (bK (bX cG.o bT.o) mI.o oO.o);have lO:=bH (bK (bX cG.o bT.o) mI.o oO.o);clear cr VS;go_wp21;have HNR:=J (show N<=W1.heap.size from ay fx.o bT.o.size);refine(U5 ⟨cn,kv,lK,cv,cs,ct,⟨A,j,cc⟩,iV,mC,cq,oV⟩ p N _ (ay HNR.o mI.o.size) ((iq.o.ext bT.o fx.o).kept mI.o HNR.o (λi hi=>by have:=WO.o;omega))).mono ?_;rintro e w1 ⟨rfl,aB⟩;have iF:=J (AB.o.trans aB);clear lL lO im ig aB
    by_cases h64:na p.params<=512
    .have HR:=J (show X=none by rw [JC.o,cO h64];rfl)
     go_wp21;refine(bj true _ _ _).mono ?_;rintro e w8 ⟨he,rfl⟩;have he:=cP.none he;subst he;go_wp21;go_end0;rw [HR.o];exact⟨⟨rfl,rD.o.ext iF.o⟩,iF.o⟩
    .have HR:=J (show X=some ⟨8,f_⟩by rw [JC.o,cU h64];rfl)
     go_wp21;rw [cU (show¬na p.params<=512 by omega)];exact VM
 .have HR:=J (show X=some ⟨8,f_⟩by rw [HX.o,cU (show¬p.params.length<=4 by have:=HN.o;omega)];rfl)
  have iF:=dX;go_wp21
  try rw [cU (show¬(n:Int)<=4 by omega)]
  exact VM
def zg (s:Str):Array Value:=#[.string s]
theorem tH:∀l:List Str,b_ zg l=l.map Value.string
 |[]=>rfl
 |s::l=>by
  have:=tH l;unfold b_ at this⊢;rw [List.flatMap_cons,this]
  rfl
theorem LH {w} {base} {T} {v} {n} {l} (ho:w.ownsRow base T 1 v n (b_ zg l)) (hn:n=l.length) (h4:n<=100):
 ∃B bc,v=.slice B n bc/\(∀x,B=some x->base<=x.block/\x.block<w.heap.size)/\dV w w.heap.size B n l:=by
 rw [tH]at ho
 by_cases h0:0<n
 .obtain⟨g,c,rfl,hr,hg,_⟩:=fq ho h0 ad
  exact⟨some ⟨g,0,none⟩,c,rfl,λx hx=>by cases hx;exact⟨hg,hr.lt⟩,hn,h4,g,0,λ_=>rfl,λ_=>⟨hr.lt,hr⟩⟩
 .obtain rfl:n=0:=by omega
  rcases ho.2 with⟨hv,_⟩|⟨g,c,du,hv,hb,hc,_⟩
  .exact⟨none,0,hv,λx hx=>(nomatch hx),hn,h4,0,0,λq=>by omega,λq=>by omega⟩
  .exact⟨some ⟨g,0,none⟩,c,hv,λx hx=>by cases hx;exact⟨hb,(Array.getElem?_eq_some_iff.1 hc).1⟩,hn,h4,0,0,λq=>by omega,λq=>by omega⟩
theorem dV.none (w) (N:Nat):dV w N none 0 []:=⟨rfl,by omega,0,0,λh=>absurd h ad,λh=>absurd h ad⟩
theorem dV.alh {S} {w w'} {N M} {A} {n} {l:List Str} (h:dV w N A n l) (hk:Kept S w w') (hs:∀x,A=some x->¬S x.block) (hM:N<=M):dV w' M A n l:=by
 obtain⟨h1,h2,b,off,h3,h4⟩:=h;exact⟨h1,h2,b,off,h3,λh0=>⟨gw (h4 h0).1 hM,(h4 h0).2.kept hk (hs _ (h3 h0))⟩⟩
theorem UG (cb g) (κ) (c) (p) (N:Nat) (rT:5<N) (KJ:N<=g) (KI:N<=cb) (w:World) (hN:N<=w.heap.size) (h:lZ w N c p) (hL:ew w) (hC:Ck w cb g κ E0 0) (h4:p.params.length<=4) (akK:∀v∈p.params,κ v.name=0) (akP:κ p.silent=0):
 Calls prog 197 #[.pointer (some ⟨cb,0,none⟩),.agg c.cells] w λe w'=>cP (ak (cC 0 κ 0 true p.start) (ak (cC 1 κ 0 true p.turn) (ak (cC 2 (bu κ (p.params.map Vr.name)) 0 true p.ci) (ak (cC 3 (bu κ [p.silent]) 0 true p.quiet) (cC 4 κ 0 true p.bP))))) e/\Kept (SG cb g) w w':=by
 obtain⟨X,hX⟩:=nm' (ak (cC 0 κ 0 true p.start) (ak (cC 1 κ 0 true p.turn) (ak (cC 2 (bu κ (p.params.map Vr.name)) 0 true p.ci) (ak (cC 3 (bu κ [p.silent]) 0 true p.quiet) (cC 4 κ 0 true p.bP)))));rw [<-hX];obtain⟨Z0,hZ0⟩:=nm' (cC 0 κ 0 true p.start);obtain⟨Z1,Yf⟩:=nm' (cC 1 κ 0 true p.turn);obtain⟨Z2,hZ2⟩:=nm' (cC 2 (bu κ (p.params.map Vr.name)) 0 true p.ci);obtain⟨Z3,hZ3⟩:=nm' (cC 3 (bu κ [p.silent]) 0 true p.quiet);obtain⟨Z4,hZ4⟩:=nm' (cC 4 κ 0 true p.bP);rw [<-hZ0,<-Yf,<-hZ2,<-hZ3,<-hZ4]at hX;have⟨dX,eL,ny,HZ2,HZ3,HZ4⟩:=J6' hX hZ0 Yf hZ2 hZ3 hZ4;clear hX hZ0 Yf hZ2 hZ3 hZ4;obtain⟨cn,kv,lK,cv,⟨sA,sn,sc⟩,⟨tA,tn,tc⟩,⟨A,n,cc⟩,⟨yA,yn,yc⟩,mC,⟨qA,qn,qc⟩,⟨zA,zn,zc⟩⟩:=c;have aK:=dz w (.cells (Pc.cells ⟨cn,kv,lK,cv,⟨sA,sn,sc⟩,⟨tA,tn,tc⟩,⟨A,n,cc⟩,⟨yA,yn,yc⟩,mC,⟨qA,qn,qc⟩,⟨zA,zn,zc⟩⟩) 163);have cG:=bN w 163 (Pc.cells ⟨cn,kv,lK,cv,⟨sA,sn,sc⟩,⟨tA,tn,tc⟩,⟨A,n,cc⟩,⟨yA,yn,yc⟩,mC,⟨qA,qn,qc⟩,⟨zA,zn,zc⟩⟩);have⟨iq,HSI,fx⟩:=J3' (h.ext aK hN) (show mC=p.silent from h.silent) (ay hN aK.size);obtain⟨hn,hf,hok,b,off,hA,hE⟩:=h.params.ext aK;have hn4:n<=4:=by have:n=p.params.length:=hn;omega
 have hm:=hf.max ad;have⟨HN,HA,HE,yh,tO⟩:=J5' (show n=p.params.length from hn) hA hE (hL.ext aK) (hC.ext aK)
 have oO:=J (show¬SG cb g w.heap.size by
  have h1:=hC.map.lt;have h2:=hC.lt;rintro(h|h)<;>omega)
 have⟨HCG,HPR,HSK⟩:=J3' (show cb<w.heap.size/\g<w.heap.size from⟨hC.lt,hC.map.lt⟩) akK akP;clear hn hA hE hok hf h hL hC akK akP;go_enter func197,ntmps197;go_upto_region 1 with(fail);generalize hW:(w.alloc (.cells (Pc.cells ⟨cn,kv,lK,cv,⟨sA,sn,sc⟩,⟨tA,tn,tc⟩,⟨A,n,cc⟩,⟨yA,yn,yc⟩,mC,⟨qA,qn,qc⟩,⟨zA,zn,zc⟩⟩) 163))=W at aK cG HE yh tO iq fx⊢;clear hW;have HBW:=J (show w.heap.size<=W.heap.size from aK.size);have AB:=J aK;generalize w.heap.size=pb at cG oO HCG HBW⊢;have cG:=J cG;have im:=bC cG.o;have ig:=cG.o.lt;clear aK;go_wp21
 go_loopw [4,10] (λt4 t10 wr=>∃(j:Nat),j<=n/\t10=.int .i64 j/\wr.ownsRow W.heap.size 9 1 t4 j (b_ zg ((p.params.map Vr.name).take j))/\al W wr) (λ_ t10 _=>n - (intOf t10).toNat)
 case atStart=>exact⟨0,de _,rfl,World.ownsRow_nil _ _ _ _,kR _ _⟩
 case round=>
  obtain⟨j,hj,rfl,ho,hx⟩:=hrel;have HX:=J hx;have HO:=J ho;clear hx ho im ig
  by_cases aX:j<n
  .have ft:j<p.params.length:=by have:=HN.o;omega
   have iI:(j:Int)<n:=by omega
   obtain rfl:=HA.o ad;refine MK ?_;intro aG jM hg' ie;obtain⟨x,gi⟩:=nm' (p.params[j]);rw [<-gi]at hg'
   have mN:(p.params.map Vr.name).take (j+1)=(p.params.map Vr.name).take j++[x.name]:=by
    rw [mJ,List.getElem?_map,List.getElem?_eq_getElem ft,gi]
    rfl
   have FM:=J mN;clear aG gi mN;have y0:al wr _:=(dz wr (.cells (aO x) 232)).alloc (.cells #[.string x.name] 9);obtain⟨v',w',dr,n8,kh,_⟩:=NL (f:=zg) wL (λ_=>rfl) (λ_=>rfl) ((wr.alloc (.cells (aO x) 232)).alloc (.cells #[.string x.name] 9)) W.heap.size u4 j ((p.params.map Vr.name).take j) (aQ HO.o y0) (wr.heap.size+1) 0 1 1 [x.name] rfl (Row.cR (aj.d_ _ _ _ _ aC)) ad (by have:=y0.size;have:=HX.o.size;have:=HBW.o;omega);rw [<-FM.o]at n8;have HO':=J n8;have aoF:=J (show al W w' from(HX.o.trans y0).trans' kh (λi hi e=>by have:=(HO.o.lt i e).1;omega));clear n8 kh y0;go_upto_region 5 with(fail);go_step
   iterate 4 refine kT ?_
   refine cJ rfl (.tmp 14) (.tmp 17) 241 rfl rfl rfl rfl dr ?_;clear dr;go_wp21;go_roundw
   case rel=>exact⟨j+1,aX,by go_num,HO'.o,aoF.o⟩
   case measure=>simp only [intOf];omega
  .obtain rfl:j=n:=by omega
   have ho:=HO.o;rw [show(p.params.map Vr.name).take j=p.params.map Vr.name from by rw [lY (by rw [fm,HN.o];omega)]]at ho;obtain⟨B,bc,rfl,hBB,hBS⟩:=LH ho (by rw [fm];exact HN.o) ad
   have HBB:=J (show∀x,B=some x->¬SG cb g x.block from λx hx=>by
    have h1:=(hBB x hx).1;have h2:=HCG.o;have h3:=HBW.o;rintro(h|h)<;>omega)
   have⟨HBS,Nw,QR,HLV,HBV,M1,HC0,HWV⟩:=J8' hBS (ay fx.o HX.o.size) (iq.o.ext HX.o fx.o) (yh.o.ext HX.o) (bX cG.o HX.o) (kR (SG cb g) wr) (tO.o.ext HX.o) (AB.o.trans HX.o);clear ho hBB hBS HO iq yh tO HE HA;have im:=bC (bK HBV.o M1.o oO.o);have ig:=(bK HBV.o M1.o oO.o).lt;go_wp21;clear im ig;refine(sJ cb g 0 ad wr N rT KJ KI Nw.o HLV.o p.start κ E0 sA sn sc none 0 0 [] _ M1.o HC0.o QR.o.start (λw' _=>dV.none w' _) (λx hx=>(nomatch hx)) (λs hs=>(nomatch hs))).mono ?_;rintro e w1 ⟨hb,hk⟩;have FJ:=J (M1.o.trans hk);rw [nX,<-eL.o]at hb;clear hk
   cases Z0 with
   |some f=>
    obtain⟨he,-⟩:=hb;subst he;have HR:=J (show X=some f by rw [dX.o]<;>rfl);have iF:=J ((Kept.ext (S:=SG cb g) HWV.o).trans FJ.o);show _/\_;refine⟨rfl,?_,iF.o⟩;rw [HR.o]
    rfl
   |none=>
    obtain⟨he,hc⟩:=hb;subst he;have HC1:=J hc;have gN:=J (show X=ak Z1 (ak Z2 (ak Z3 Z4))by rw [dX.o]<;>rfl);clear hc dX;have im:=bC (bK HBV.o FJ.o oO.o);have ig:=(bK HBV.o FJ.o oO.o).lt;go_wp21;clear im ig;refine(sJ cb g 1 ad wr N rT KJ KI Nw.o HLV.o p.turn κ (bZ 0) tA tn tc none 0 0 [] _ FJ.o HC1.o QR.o.turn (λw' _=>dV.none w' _) (λx hx=>(nomatch hx)) (λs hs=>(nomatch hs))).mono ?_;rintro e w2 ⟨hb,hk⟩;have Bf:=J (FJ.o.trans hk);rw [nX,<-ny.o]at hb;clear hk
    cases Z1 with
    |some f=>
     obtain⟨he,-⟩:=hb;subst he;have HR:=J (show X=some f by rw [gN.o]<;>rfl);have iF:=J ((Kept.ext (S:=SG cb g) HWV.o).trans Bf.o);show _/\_;refine⟨rfl,?_,iF.o⟩;rw [HR.o]
     rfl
    |none=>
     obtain⟨he,hc⟩:=hb;subst he;have JT:=J hc;have fN:=J (show X=ak Z2 (ak Z3 Z4)by rw [gN.o]<;>rfl);clear hc gN;have im:=bC (bK HBV.o Bf.o oO.o);have ig:=(bK HBV.o Bf.o oO.o).lt;go_wp21;clear im ig;refine(sJ cb g 2 ad wr N rT KJ KI Nw.o HLV.o p.ci κ (bZ 1) yA yn yc B j bc (p.params.map Vr.name) _ Bf.o JT.o QR.o.ci (λw' hk=>HBS.o.alh (Bf.o.trans hk) HBB.o (Bf.o.trans hk).size) (λx hx e=>HBB.o x hx (Or.inr e)) (λs hs=>by obtain⟨v,hv,rfl⟩:=List.mem_map.1 hs;exact HPR.o v hv)).mono ?_;rintro e w3 ⟨hb,hk⟩;have M2:=J (Bf.o.trans hk);rw [<-HZ2.o]at hb;clear hk
     cases Z2 with
     |some f=>
      obtain⟨he,-⟩:=hb;subst he;have HR:=J (show X=some f by rw [fN.o]<;>rfl);have iF:=J ((Kept.ext (S:=SG cb g) HWV.o).trans M2.o);show _/\_;refine⟨rfl,?_,iF.o⟩;rw [HR.o]
      rfl
     |none=>
      obtain⟨he,hc⟩:=hb;subst he;have n7:=J hc;have gO:=J (show X=ak Z3 Z4 by rw [fN.o]<;>rfl);clear hc fN;have im:=bC (bK HBV.o M2.o oO.o);have ig:=(bK HBV.o M2.o oO.o).lt;go_wp21;clear im ig;have y3:=dz w3 (.cells #[.string mC] 9);have ot:=J (show¬SG cb g w3.heap.size by have h1:=n7.o.map.lt;have h2:=n7.o.lt;rintro(h|h)<;>omega);have B_:=J (Row.cR (bN w3 9 #[.string mC]));refine(sJ cb g 3 ad wr N rT KJ KI Nw.o HLV.o p.quiet κ (bZ 2) qA qn qc (some ⟨w3.heap.size,0,none⟩) 1 1 [mC] _ (M2.o.trans (Kept.ext y3)) (n7.o.ext y3) QR.o.quiet (λw' hk=>⟨rfl,by omega,w3.heap.size,0,λ_=>rfl,λ_=>⟨(B_.o.kept hk ot.o).lt,B_.o.kept hk ot.o⟩⟩) (λx hx e=>by cases hx;exact ot.o (Or.inr e)) (λs hs=>by rw [List.mem_singleton.1 hs,HSI.o];exact HSK.o)).mono ?_;rintro e w4 ⟨hb,hk⟩;have xZ:=J ((M2.o.trans (Kept.ext y3)).trans hk);rw [HSI.o,<-HZ3.o]at hb;clear hk y3
      cases Z3 with
      |some f=>
       obtain⟨he,-⟩:=hb;subst he;have HR:=J (show X=some f by rw [gO.o]<;>rfl);have iF:=J ((Kept.ext (S:=SG cb g) HWV.o).trans xZ.o);show _/\_;refine⟨rfl,?_,iF.o⟩;rw [HR.o]
       rfl
      |none=>
       obtain⟨he,hc⟩:=hb;subst he;have FG:=J hc;have eK:=J (show X=Z4 by rw [gO.o]<;>rfl);clear hc gO;have im:=bC (bK HBV.o xZ.o oO.o);have ig:=(bK HBV.o xZ.o oO.o).lt;go_wp21;clear im ig;refine(sJ cb g 4 ad wr N rT KJ KI Nw.o HLV.o p.bP κ (bZ 3) zA zn zc none 0 0 [] _ xZ.o FG.o QR.o.bP (λw' _=>dV.none w' _) (λx hx=>(nomatch hx)) (λs hs=>(nomatch hs))).mono ?_;rintro e w5 ⟨hb,hk⟩;have vz:=J (xZ.o.trans hk);rw [nX,<-HZ4.o]at hb;clear hk
       cases Z4 with
       |some f=>
        obtain⟨he,-⟩:=hb;subst he;have HR:=J (show X=some f by rw [eK.o]<;>rfl);have iF:=J ((Kept.ext (S:=SG cb g) HWV.o).trans vz.o);show _/\_;refine⟨rfl,?_,iF.o⟩;rw [HR.o]
        rfl
       |none=>
        obtain⟨he,hc⟩:=hb;subst he;have MZ:=J hc;have k_:=J (show X=none by rw [eK.o]<;>rfl);clear hc eK;go_wp21;go_end0;rw [k_.o];exact⟨rfl,(Kept.ext (S:=SG cb g) HWV.o).trans vz.o⟩
theorem wH (κ:Kn):∀(l pre:List Vr) (_:dH κ pre l=none),∀v∈l,κ v.name=0
 |[],_,_,v,hv=>absurd hv aC
 |x::l,pre,h,v,hv=>by
  rw [dH,aD,aD,aD,aD]at h;obtain⟨-,h2,-,-,h5⟩:=h
  rcases List.mem_cons.1 hv with rfl|hv
  .have:=di.1 h2
   simp at this;exact this.1
  .exact wH κ l _ h5 v hv
theorem Ja {w:World} {N:Nat}:∀{F:SF} {b off:Nat} (_:mS w N F b off) (_:0<F.len),∃k:Int,w.cell? ⟨b,off+(F.len - 1)*7,none⟩=some (.int .i64 k)/\jN F=(k==9)/\b<N
 | .cons kind name e low high l x .nil,b,off,h,_=>by
  obtain⟨hb,h1,h2,h3,h4,⟨eA,ec,lA,lc,xA,xc,be,oe,bl,ol,bx,ox,hh,hg,-⟩,-⟩:=h;refine⟨kind,?_,rfl,hb⟩;have:=ql hh hg ad
  simpa [SF.len]using this
 | .cons kind name e low high l x (.cons k' n' e' lo' hi' l' x' r),b,off,h,_=>by
  obtain⟨hb,h1,h2,h3,h4,-,hr⟩:=h;obtain⟨k,hk,Iy,fJ⟩:=Ja hr (by simp [SF.len]);refine⟨k,?_,Iy,fJ⟩;simp only [SF.len]at hk⊢;rw [<-hk]
  congr 2
  omega
section
variable (p:Pr)
include p
theorem alk:o5 p 2=bu (fK p.vars) (p.params.map Vr.name):=rfl
theorem alm:o5 p 3=bu (fK p.vars) [p.silent]:=rfl
theorem ali:o5 p 0=fK p.vars:=rfl
theorem alj:o5 p 1=fK p.vars:=rfl
theorem aln:o5 p 4=fK p.vars:=rfl
theorem Kj:check p=ak (mT p) (ak (ak (eM [] p.vars) (must (decide (cells p.vars<=64)) 8 rq)) (ak (ak (must (decide (p.params.length<=4)) 8 f_) (ak (dH (fK p.vars) [] p.params) (must (decide (na p.params<=512)) 8 f_))) (ak (must (dv p.silent) 6 p.silent) (ak (must (fK p.vars p.silent==0) 7 p.silent) (ak (must (decide (jw (dE p)<=1000)) 5 p.name) (ak (ak (cC 0 (fK p.vars) 0 true p.start) (ak (cC 1 (fK p.vars) 0 true p.turn) (ak (cC 2 (bu (fK p.vars) (p.params.map Vr.name)) 0 true p.ci) (ak (cC 3 (bu (fK p.vars) [p.silent]) 0 true p.quiet) (cC 4 (fK p.vars) 0 true p.bP))))) (ak (must (ends p.turn) 4 li) (must (jN p.bP) 4 om)))))))):=by
 rw [check,kE];simp only [dx,lu,ali,alj,alk,alm,aln,partOf]
end
theorem P3 (c) (p) (N) (w) (rT:5<N) (hN:N<=w.heap.size) (h:lZ w N c p) (hL:ew w):
 Calls prog 136 #[.agg c.cells] w λe w'=>e=.returned (.agg (gf (check p)))/\al w w':=by
 obtain⟨X,hX⟩:=nm' (check p);rw [<-hX];have dX:gq (X=ak (mT p) (ak (ak (eM [] p.vars) (must (decide (cells p.vars<=64)) 8 rq)) (ak (ak (must (decide (p.params.length<=4)) 8 f_) (ak (dH (fK p.vars) [] p.params) (must (decide (na p.params<=512)) 8 f_))) (ak (must (dv p.silent) 6 p.silent) (ak (must (fK p.vars p.silent==0) 7 p.silent) (ak (must (decide (jw (dE p)<=1000)) 5 p.name) (ak (ak (cC 0 (fK p.vars) 0 true p.start) (ak (cC 1 (fK p.vars) 0 true p.turn) (ak (cC 2 (bu (fK p.vars) (p.params.map Vr.name)) 0 true p.ci) (ak (cC 3 (bu (fK p.vars) [p.silent]) 0 true p.quiet) (cC 4 (fK p.vars) 0 true p.bP))))) (ak (must (ends p.turn) 4 li) (must (jN p.bP) 4 om))))))))):=J (hX.trans (Kj p));clear hX;obtain⟨H,hH⟩:=nm' (mT p);obtain⟨V,hV⟩:=nm' ((ak (eM [] p.vars) (must (decide (cells p.vars<=64)) 8 rq)));obtain⟨P,hP⟩:=nm' ((ak (must (decide (p.params.length<=4)) 8 f_) (ak (dH (fK p.vars) [] p.params) (must (decide (na p.params<=512)) 8 f_))));obtain⟨T,hT⟩:=nm' ((ak (cC 0 (fK p.vars) 0 true p.start) (ak (cC 1 (fK p.vars) 0 true p.turn) (ak (cC 2 (bu (fK p.vars) (p.params.map Vr.name)) 0 true p.ci) (ak (cC 3 (bu (fK p.vars) [p.silent]) 0 true p.quiet) (cC 4 (fK p.vars) 0 true p.bP))))));obtain⟨b1,jq⟩:=nm' (dv p.silent);obtain⟨b2,jF⟩:=nm' ((fK p.vars p.silent==0));obtain⟨b3,hb3⟩:=nm' (decide (jw (dE p)<=1000));obtain⟨b4,CM⟩:=nm' (ends p.turn);obtain⟨b5,Fi⟩:=nm' (jN p.bP);have⟨gN,HH,HV,HP,HT,Jy,mP,ot,ug,tN⟩:=J10 (show X=ak H (ak V (ak P (ak (must b1 6 p.silent) (ak (must b2 7 p.silent) (ak (must b3 5 p.name) (ak T (ak (must b4 4 li) (must b5 4 om))))))))by rw [hH,hV,hP,hT,jq,jF,hb3,CM,Fi];exact dX.o) hH hV hP hT jq jF hb3 CM Fi;clear dX hH hV hP hT jq jF hb3 CM Fi;obtain⟨cn,kv,lK,cv,cs,⟨tA,tn,tc⟩,rO,iV,mC,cq,⟨zA,zn,zc⟩⟩:=c;obtain rfl:cn=p.name:=h.name;obtain rfl:mC=p.silent:=h.silent;refine ahQ ?_;intro qe;have CU:=@run_makeMap prog
 go_enter_defers func136,ntmps136
 go_upto_region 3 with(fail);clear qe CU;obtain⟨W0,JI⟩:=nm' (((((w.alloc (.cells (Pc.cells (⟨p.name,kv,lK,cv,cs,⟨tA,tn,tc⟩,rO,iV,p.silent,cq,⟨zA,zn,zc⟩⟩:Pc)) 163)).alloc (.cells #[.int .i64 0,.string ⟨#[]⟩] 225)).alloc (.map #[] 0)).alloc (.cells #[.map (some (w.heap.size+1+1)),.string ⟨#[]⟩,.int .i64 0] 282)));have aK:al w W0:=by rw [JI];exact(((dS w _).alloc _).alloc _).alloc _
 have hPB:aj W0 w.heap.size 163 (Pc.cells (⟨p.name,kv,lK,cv,cs,⟨tA,tn,tc⟩,rO,iV,p.silent,cq,⟨zA,zn,zc⟩⟩:Pc)):=by rw [JI];exact(((bN w _ _).alloc _).alloc _).alloc _
 have hRB:aj W0 (w.heap.size+1) 225 #[.int .i64 0,.string ⟨#[]⟩]:=by rw [JI];exact((aj.d_ _ _ _ _ aC).alloc _).alloc _
 have hMB:dt W0 (w.heap.size+1+1) (λ_=>none):=by
  rw [JI];have q:=dt.made ((w.alloc (.cells (Pc.cells (⟨p.name,kv,lK,cv,cs,⟨tA,tn,tc⟩,rO,iV,p.silent,cq,⟨zA,zn,zc⟩⟩:Pc)) 163)).alloc (.cells #[.int .i64 0,.string ⟨#[]⟩] 225));have q2:((w.alloc (.cells (Pc.cells (⟨p.name,kv,lK,cv,cs,⟨tA,tn,tc⟩,rO,iV,p.silent,cq,⟨zA,zn,zc⟩⟩:Pc)) 163)).alloc (.cells #[.int .i64 0,.string ⟨#[]⟩] 225)).heap.size=w.heap.size+1+1:=by simp
  rw [q2]at q;exact q.ext (dS _ _)
 have hCB:aj W0 (w.heap.size+1+1+1) 282 #[.map (some (w.heap.size+1+1)),.string ⟨#[]⟩,.int .i64 0]:=by rw [JI];exact aj.d_ _ _ _ _ aC
 rw [<-JI];obtain⟨pb,zR⟩:=nm' w.heap.size;obtain⟨rb,pg⟩:=nm' (pb+1);obtain⟨g,hg⟩:=nm' (rb+1);obtain⟨cb,zF⟩:=nm' (g+1);rw [<-zR]at hPB hRB hMB hCB⊢;rw [<-pg]at hRB hMB hCB⊢;rw [<-hg]at hMB hCB⊢;rw [<-zF]at hCB⊢;have KJ:N<=g:=by omega
 have KI:N<=cb:=by omega
 have⟨oO,ET,lX,mw,Bh,ry⟩:=J6' hPB hRB (show Ck W0 cb g (λ_=>0) E0 0 from⟨hCB,hMB.nH (λt=>rfl)⟩) (show¬SG cb g pb/\¬SG cb g rb by constructor<;>(rintro(h|h)<;>omega)) (show∀w',Kept (SG cb g) W0 w'->N<=w'.heap.size from λw' hk=>ay (ay hN aK.size) hk.size) (show∀j,SG cb g j->N<=j from λj h=>by rcases h with h|h<;>omega);have⟨iq,VR,aiM,jy,HZN,HZM⟩:=J6' (show∀w',Kept (SG cb g) W0 w'->lZ w' N (⟨p.name,kv,lK,cv,cs,⟨tA,tn,tc⟩,rO,iV,p.silent,cq,⟨zA,zn,zc⟩⟩:Pc) p from λw' hk=>(h.ext aK hN).kept hk (ay hN aK.size) ry.o) (show∀w',Kept (SG cb g) W0 w'->ew w' from λw' hk=>(hL.ext aK).kept hk (λk hk h=>by have:=ry.o k h;omega)) (show∀wz w9,Kept (SG cb g) W0 wz->Kept (·=rb) wz w9->al w w9 from λwz w9 h1 h2=>(aK.trans' h1 (λi hi q=>by rcases q with q|q<;>omega)).trans' h2 (λi hi q=>by omega)) (kR (SG cb g) W0) (show zn=p.bP.len from h.bP.1) (show zn<=17592186044416 from Fits.max h.bP.2.1 ad);clear hPB hRB hMB hCB JI zR pg hg zF h hL aK;refine VG ?_;intro im ig lO lL;go_wp21;refine(ji _ (⟨p.name,kv,lK,cv,cs,⟨tA,tn,tc⟩,rO,iV,p.silent,cq,⟨zA,zn,zc⟩⟩:Pc) p N _ (Bh.o _ jy.o) (iq.o _ jy.o) (VR.o _ jy.o)).mono ?_;rintro e w1 ⟨he,aB⟩;clear im ig lO lL;rw [<-HH.o]at he;have HC1:=J (lX.o.ext aB);have jy:=J (jy.o.trans (Kept.ext aB));clear aB
 cases H with
 |some f=>
  have he:=cP.some he;subst he;have HR:=J (show X=some f by rw [gN.o,aZ]);exact aaV
 |none=>
  have he:=cP.none he;subst he;have fN:=J (show X=ak V (ak P (ak (must b1 6 p.silent) (ak (must b2 7 p.silent) (ak (must b3 5 p.name) (ak T (ak (must b4 4 li) (must b5 4 om)))))))by rw [gN.o,aY]);clear gN HH;refine VG ?_;intro im ig lO lL;go_wp21;refine(ZY cb g (⟨p.name,kv,lK,cv,cs,⟨tA,tn,tc⟩,rO,iV,p.silent,cq,⟨zA,zn,zc⟩⟩:Pc) p N rT KJ KI _ (Bh.o _ jy.o) (iq.o _ jy.o) (VR.o _ jy.o) HC1.o).mono ?_;rintro e w2 ⟨hb,hk⟩;clear im ig lO lL;rw [<-HV.o]at hb;have jy:=J (jy.o.trans hk);clear hk HC1
  cases V with
  |some f=>
   obtain⟨he,-⟩:=hb;subst he;have HR:=J (show X=some f by rw [fN.o,aZ]);exact aaV
  |none=>
   obtain⟨he,hc⟩:=hb;subst he;have JT:=J hc;have gO:=J (show X=ak P (ak (must b1 6 p.silent) (ak (must b2 7 p.silent) (ak (must b3 5 p.name) (ak T (ak (must b4 4 li) (must b5 4 om))))))by rw [fN.o,aY]);clear fN HV hc;refine VG ?_;intro im ig lO lL;go_wp21;refine(Zx cb g (fK p.vars) (⟨p.name,kv,lK,cv,cs,⟨tA,tn,tc⟩,rO,iV,p.silent,cq,⟨zA,zn,zc⟩⟩:Pc) p N rT _ (Bh.o _ jy.o) (iq.o _ jy.o) (VR.o _ jy.o) JT.o).mono ?_;rintro e w3 ⟨hb,ea⟩;clear im ig lO lL;rw [<-HP.o]at hb;have jy:=J (jy.o.trans (Kept.ext ea));clear ea JT
   cases P with
   |some f=>
    obtain⟨he,-⟩:=hb;subst he;have HR:=J (show X=some f by rw [gO.o,aZ]);exact aaV
   |none=>
    obtain⟨he,hc⟩:=hb;subst he;have n7:=J hc;have hp:=aD.1 HP.o.symm;have⟨Et,HPR,eK⟩:=J3' (show p.params.length<=4 from of_decide_eq_true (di.1 hp.1)) (wH _ _ _ (aD.1 hp.2).1) (show X=ak (must b1 6 p.silent) (ak (must b2 7 p.silent) (ak (must b3 5 p.name) (ak T (ak (must b4 4 li) (must b5 4 om)))))by rw [gO.o,aY]);clear gO HP hc hp;go_upto_region 6 with(fail);refine eW (λw1=>al w3 w1) [(0,2),(1,1),(3,2),(4,1),(2,0),(5,0)] ?_;refine eX ?_;have bT:=J (pj w3)
    repeat first|refine bV ?_|refine cF bT.o ada ?_|refine cD bT.o ?_
    refine ap (λK hK=>?_);go_simp;refine kU (mq p.silent (iq.o _ jy.o).sy _ (VR.o _ (jy.o.trans (Kept.ext bT.o)))) λw4 eV=>?_;have dR:=J (bT.o.trans eV);clear eV;refine hK.out _ _ (λ_=>dR.o) ?_;clear hK K
    repeat first|refine bV ?_|refine cF dR.o ada ?_|refine cD dR.o ?_
    refine dJ bd bd (λK hK=>?_);go_simp;have M1:=jy;have jy:=J (M1.o.trans (Kept.ext dR.o));rw [<-Jy.o]
    cases b1
    .have HR:=J (show X=some ⟨6,p.silent⟩by rw [eK.o,aT,aZ])
     exact aaU
    .have k_:=J (show X=ak (must b2 7 p.silent) (ak (must b3 5 p.name) (ak T (ak (must b4 4 li) (must b5 4 om))))by rw [eK.o,bL,aY])
     refine(bj true _ _ _).mono ?_;rintro e w8 ⟨he,rfl⟩;have he:=cP.none he;subst he;refine hK.out _ _ ?_;clear hK K;refine fc ?_;have FG:=J (n7.o.ext dR.o);clear eK n7 bT dR M1;go_upto_region 7 with(fail);obtain⟨v,hv⟩:=nm' (fK p.vars p.silent);have HV:=J hv;clear hv;refine eW (λw1=>al w4 w1) [(0,2),(1,2),(2,1),(5,2),(6,1),(3,0),(4,2),(7,0)] ?_;refine eX ?_;have bT:=J (pj w4)
     repeat first|refine bV ?_|refine cF bT.o ada ?_|refine cD bT.o ?_
     refine ap (λK hK=>?_);go_simp;refine uW (lB cb g (fK p.vars) E0 0 p.silent _ (FG.o.ext bT.o)) ?_;rw [<-HV.o];refine hK.out _ _ (λ_=>bT.o) ?_;clear hK K
     repeat first|refine bV ?_|refine cF bT.o ada ?_|refine cD bT.o ?_
     refine dJ bd bd (λK hK=>?_);go_simp;have M1:=jy;have jy:=J (M1.o.trans (Kept.ext bT.o))
     by_cases jB:v=0
     .have qv:(v !=0)=false:=by simp [jB]
      have pu:=J (show X=ak (must b3 5 p.name) (ak T (ak (must b4 4 li) (must b5 4 om)))by rw [k_.o,show b2=true by rw [mP.o,<-HV.o,jB];rfl,bL,aY])
      try rw [qv]
      try simp only [Bool.not_false]
      refine(bj true _ _ _).mono ?_;rintro e w8 ⟨he,rfl⟩;have he:=cP.none he;subst he;refine hK.out _ _ ?_;clear hK K;refine fc ?_;have HSK:=J (show fK p.vars p.silent=0 by rw [<-HV.o,jB]);have MZ:=J (FG.o.ext bT.o);generalize w4.drew=w5 at jy MZ⊢;clear k_ jB qv FG bT M1 HV;go_upto_region 8 with(fail);obtain⟨z,hz⟩:=nm' (jw (dE p));have HZ:=J hz;clear hz;refine eW (λw1=>al w5 w1) [(0,1),(3,2),(4,1),(1,0),(2,2),(5,0)] ?_;refine eX ?_;have bT:=J (pj w5)
      repeat first|refine bV ?_|refine cF bT.o ahC ?_|refine cD bT.o ?_
      refine ap (λK hK=>?_);go_simp;refine kU (nt (⟨p.name,kv,lK,cv,cs,⟨tA,tn,tc⟩,rO,iV,p.silent,cq,⟨zA,zn,zc⟩⟩:Pc) p N _ (Bh.o _ (jy.o.trans (Kept.ext bT.o))) (iq.o _ (jy.o.trans (Kept.ext bT.o)))) λw6 qz=>?_;rw [<-HZ.o];have dR:=J (bT.o.trans qz);clear qz;refine hK.out _ _ (λ_=>dR.o) ?_;clear hK K;have M1:=jy
      by_cases hz:z<=1000
      .have M8:=J (show X=ak T (ak (must b4 4 li) (must b5 4 om))by rw [pu.o,show b3=true by rw [ot.o,<-HZ.o];exact cO hz,bL,aY])
       repeat first|refine bV ?_|refine cF dR.o ahC ?_|refine cD dR.o ?_
       refine dJ bd bd (λK hK=>?_);go_simp;have jy:=J (M1.o.trans (Kept.ext dR.o));refine(bj true _ _ _).mono ?_;rintro e w8 ⟨he,rfl⟩;have he:=cP.none he;subst he;refine hK.out _ _ ?_;clear hK K;refine fc ?_;have xX:=J (MZ.o.ext dR.o);clear pu hz MZ bT dR M1 HZ;refine VG ?_;intro im ig lO lL;go_wp21;refine(UG cb g (fK p.vars) (⟨p.name,kv,lK,cv,cs,⟨tA,tn,tc⟩,rO,iV,p.silent,cq,⟨zA,zn,zc⟩⟩:Pc) p N rT KJ KI _ (Bh.o _ jy.o) (iq.o _ jy.o) (VR.o _ jy.o) xX.o Et.o HPR.o HSK.o).mono ?_;rintro e w7 ⟨he,hk⟩;clear im ig lO lL;rw [<-HT.o]at he;have jy:=J (jy.o.trans hk);clear hk xX
       cases T with
       |some f=>
        have he:=cP.some he;subst he;have HR:=J (show X=some f by rw [M8.o,aZ]);exact aaV
       |none=>
        have he:=cP.none he;subst he;have Xc:=J (show X=ak (must b4 4 li) (must b5 4 om)by rw [M8.o,aY]);clear M8 HT;refine VG ?_;intro im ig lO lL;go_wp21;refine kU (UY w7 p.turn tA tn tc N _ (kR _ _) (Bh.o _ jy.o) (iq.o _ jy.o).turn) λw8 EB=>?_;clear im ig lO lL;have jy:=J (jy.o.trans (Kept.ext EB));clear EB;go_wp21;rw [<-ug.o]
        cases b4
        .have HR:=J (show X=some ⟨4,li⟩by rw [Xc.o,aT,aZ])
         exact aaU
        .have AA:=J (show X=must b5 4 om by rw [Xc.o,bL,aY])
         refine(bj true _ _ _).mono ?_;rintro e w8 ⟨he,rfl⟩;have he:=cP.none he;subst he;clear Xc;refine VG ?_;intro im ig lO lL;obtain⟨-,-,b,off,hA,hE⟩:=(iq.o _ jy.o).bP;have HA:=J hA;have HE:=J hE;clear hA hE;have hcR:=bC (bK ET.o jy.o mw.o.2);have hzR:=aj.frozen (bK ET.o jy.o mw.o.2);have hlR:=(bK ET.o jy.o mw.o.2).lt;have hmR:=(bK ET.o jy.o mw.o.2).aJ;have hhR:=bH (bK ET.o jy.o mw.o.2)
         cases zn with
         |zero=>
          have HR:=J (show X=some ⟨4,om⟩by
           have:p.bP=.nil:=by
            have hz:=HZN.o
            cases hq:p.bP with
            |nil=>rfl
            |cons=>rw [hq]at hz;simp [SF.len]at hz
           rw [AA.o,show b5=false by rw [tN.o,this];rfl,aT])
          exact anl
         |succ m=>
          obtain⟨k,hk,YO,hbN⟩:=Ja HE.o (by rw [<-HZN.o];exact Nat.succ_pos m);obtain rfl:=HA.o (Nat.succ_pos m);rw [<-HZN.o]at hk;have hm:=HZM.o;have ie:=Bh.o _ jy.o;simp only [Nat.add_sub_cancel]at hk;have lP:(m:Int)<((m:Int)+1):=by omega
          have Yq:(0:Int)<(m:Int)+1:=by omega
          have HRL:=J YO;clear YO
          cases hq:(k==9)
          .have HR:=J (show X=some ⟨4,om⟩by rw [AA.o,show b5=false by rw [tN.o,HRL.o,hq],aT])
           exact anl
          .have HR:=J (show X=none by rw [AA.o,show b5=true by rw [tN.o,HRL.o,hq],bL])
           go_wp21;refine(bj true _ _ _).mono ?_;rintro e w8 ⟨he,rfl⟩;have he:=cP.none he;subst he;clear hk ie im ig lO lL;go_wp21;refine leaves_cons (f:=190) (args:=#[.pointer (some ⟨rb,0,none⟩)]) aC (by simp [go_sem]) ?_;refine(NU ⟨rb,0,none⟩ _).mono ?_;rintro e u' w9 ⟨rfl,rfl,yx⟩;have hre:=bX (aj.cI (bK ET.o jy.o mw.o.2) 0 #[.int .i64 0,.string ⟨#[]⟩]) yx;refine⟨_,results_cell_row results136 _ _ rb _ _ _ _ rfl hre underlying225 rfl qM,?_⟩;rw [HR.o];exact⟨rfl,aiM.o _ _ jy.o ((Kept.putAt (kR (·=rb) _) _ _ _ (λ_=>rfl)).trans (Kept.ext yx))⟩
      .have HR:=J (show X=some ⟨5,p.name⟩by rw [pu.o,show b3=false by rw [ot.o,<-HZ.o];exact cU hz,aT,aZ])
       repeat first|refine bV ?_|refine cF dR.o ahC ?_|refine cD dR.o ?_
       refine dJ bd bd (λK hK=>?_);go_simp;have jy:=J (M1.o.trans (Kept.ext dR.o));exact aaU
     .have qv:(v !=0)=true:=by simp [jB]
      have qn:(v==0)=false:=by simp [jB]
      have HR:=J (show X=some ⟨7,p.silent⟩by rw [k_.o,show b2=false by rw [mP.o,<-HV.o,qn],aT,aZ])
      try rw [qv]
      try simp only [vS]
      exact aaU
section
variable (w:World) (N:Nat) (A:Option Addr)
include w N A
theorem lJ.nil:lJ w N A 0 .nil:=⟨rfl,by unfold Fits;omega,0,0,λh=>absurd h ad,trivial⟩
theorem jc.nil:jc w N A 0 .nil:=⟨rfl,by unfold Fits;omega,0,0,λh=>absurd h ad,trivial⟩
theorem rA.nil:rA w N A 0 []:=⟨rfl,by unfold Fits;omega,λv hv=>absurd hv aC,0,0,λh=>absurd h ad,λh=>absurd h ad⟩
end
theorem agi {w} {N b} {t} {op n:Int} {name:Str} {A:Option Addr} {cap:Nat} {k:EF} (hB:aj w b t (aF op n name A k.len cap)) (hb:b<N) (h1:aI op) (h2:aI n) (h3:name.size<=maxLen) (hk:lJ w N A k.len k):lJ w N (some ⟨b,0,none⟩) 1 (.cons op n name k .nil):=by
 obtain⟨-,hf,b',bR,hA,hE⟩:=hk;refine⟨rfl,by unfold Fits;omega,b,0,λ_=>rfl,hb,h1,h2,h3,⟨A,cap,b',bR,?_,?_,hf,hA,hE⟩,trivial⟩
 .rw [bH hB];simp
 .rw [bG hB];rfl
theorem ZJ {w:World} {N b:Nat} {t:TypeId} {kind:Int} {name:Str} {e} {low high} {l x} {eA} {ec} {lA} {lc:Nat} {xA:Option Addr} {xc:Nat} (hB:aj w b t (au kind name eA e.len ec low high lA l.len lc xA x.len xc)) (hb:b<N)
 (h1:aI kind) (h2:aI low) (h3:aI high) (h4:name.size<=maxLen) (he:lJ w N eA e.len e) (hl:jc w N lA l.len l) (hx:jc w N xA x.len x):jc w N (some ⟨b,0,none⟩) 1 (.cons kind name e low high l x .nil):=by
 obtain⟨-,f1,be,oe,a1,e1⟩:=he;obtain⟨-,f2,bl,ol,a2,e2⟩:=hl;obtain⟨-,f3,bx,ox,a3,e3⟩:=hx;refine⟨rfl,by unfold Fits;omega,b,0,λ_=>rfl,hb,h1,h2,h3,h4,⟨eA,ec,lA,lc,xA,xc,be,oe,bl,ol,bx,ox,?_,?_,f1,f2,f3,a1,a2,a3,e1,e2,e3⟩,trivial⟩
 .rw [bH hB];simp
 .rw [bG hB];rfl
def sG:Str:=⟨#[103]⟩
def sA:Str:=⟨#[97]⟩
def sL:Str:=⟨#[108]⟩
def sW:Str:=⟨#[119]⟩
def e0F:EF:=.cons 0 0 E0 .nil .nil
def ahp:SF:=.cons 7 E0 .nil 0 0 .nil .nil .nil
def lF:Pr:=⟨sG,2,[1,1],[⟨sA,0,0,1⟩,⟨sL,3,0,1⟩],.nil,ahp,[],.nil,sW,.nil,.cons 9 E0 e0F 0 0 .nil .nil .nil⟩
theorem ZN:check lF=none:=by kernel_rfl
def Ky (p:Pr):Bool:=decide (jw (dE p)<=1200)&&decide ((p.cd.length:Int)<=20)
abbrev qO (n:Nat):Pc:=⟨sG,2,⟨some ⟨n+1+1,0,none⟩,2,2⟩,⟨some ⟨n+1+1+1,0,none⟩,2,2⟩,⟨none,0,0⟩,⟨some ⟨n+1+1+1+1,0,none⟩,1,1⟩,⟨none,0,0⟩,⟨none,0,0⟩,sW,⟨none,0,0⟩,⟨some ⟨n+1+1+1+1+1+1,0,none⟩,1,1⟩⟩
theorem yR {n} (h:-10<=n/\n<=10):aI n:=by unfold aI;omega
theorem tu (s:Str) (h:s.size<=10):s.size<=maxLen:=by unfold maxLen;omega
theorem ZM {w} {N n} {ti tv ts te} (hN:n+7<=N) (h2:aj w (n+1+1) ti #[.int .i64 1,.int .i64 1])
 (h3:aj w (n+1+1+1) tv #[.string sA,.int .i64 0,.int .i64 0,.int .i64 1,.string sL,.int .i64 3,.int .i64 0,.int .i64 1])
 (h4:aj w (n+1+1+1+1) ts (au 7 E0 none 0 0 0 0 none 0 0 none 0 0)) (h5:aj w (n+1+1+1+1+1) te (aF 0 0 E0 none 0 0))
 (h6:aj w (n+1+1+1+1+1+1) ts (au 9 E0 (some ⟨n+1+1+1+1+1,0,none⟩) 1 1 0 0 none 0 0 none 0 0)):lZ w N (qO n) lF:=by
 refine⟨rfl,tu _ ae,rfl,yR ae,⟨rfl,show Fits 2 8 by unfold Fits;omega,?_,n+1+1,0,λ_=>rfl,λ_=>⟨by omega,Row.cR h2⟩⟩,⟨rfl,show Fits 2 40 by unfold Fits;omega,?_,n+1+1+1,0,λ_=>rfl,λ_=>⟨by omega,Row.cR h3⟩⟩,jc.nil _ _ _,
  ZJ (e:=.nil) (l:=.nil) (x:=.nil) h4 ad (yR ae) (yR ae) (yR ae) (tu _ ae) (lJ.nil _ _ _) (jc.nil _ _ _) (jc.nil _ _ _),rA.nil _ _ _,jc.nil _ _ _,rfl,tu _ ae,jc.nil _ _ _,
  ZJ (e:=e0F) (l:=.nil) (x:=.nil) h6 ad (yR ae) (yR ae) (yR ae) (tu _ ae) (agi (k:=.nil) h5 ad (yR ae) (yR ae) (tu _ ae) (lJ.nil _ _ _)) (jc.nil _ _ _) (jc.nil _ _ _)⟩
 .intro v hv
  have:v=1:=by simpa [lF]using hv
  subst this;exact yR ae
 .intro v hv
  have:v=⟨sA,0,0,1⟩∨v=⟨sL,3,0,1⟩:=by simpa [lF]using hv
  rcases this with rfl|rfl<;>exact⟨tu _ ae,yR ae,yR ae,yR ae⟩
structure Ins where (op a b c:Int)
abbrev Ins.cells (i:Ins):Array Value:=#[.int .i64 i.op,.int .i64 i.a,.int .i64 i.b,.int .i64 i.c]
attribute [go_sem] Ins.cells
theorem wl:gB prog 71=true:=by kernel_rfl
theorem sD:dw prog 71=some 4:=by kernel_rfl
theorem Eb {eY} {x} {a} {w} {Q} (hx:eG (a.eval x)=true) (hh:has w (aL (a.eval x)) (aM (a.eval x)) 4=true):
 Oper.wp prog ⟨dst,.load 71 x,eY,pos,after,guard⟩ a w K Q=K (a.put dst (.agg (gets w (aL (a.eval x)) (aM (a.eval x)) 4))) w:=bB 4 wl sD hx hh
theorem LY {eY} {x} {w} (hx:eG (ρ x)=true) (hh:has w (aL (ρ x)) (aM (ρ x)) 4=true):
 (execOp ρ ⟨dst,.load 71 x,eY,pos,after,guard⟩).run prog w=.ok (.value (.agg (gets w (aL (ρ x)) (aM (ρ x)) 4))) w:=aH 4 wl sD hx hh
attribute [go_sem] wl sD
attribute [go_sem↓high] Eb LY
attribute [go_sem high] Eb
theorem nE:gB prog 47=true:=by kernel_rfl
theorem BJ:dw prog 47=some 3:=by kernel_rfl
theorem Ha {eY} {x} {a} {w} {Q} (hx:eG (a.eval x)=true) (hh:has w (aL (a.eval x)) (aM (a.eval x)) 3=true):
 Oper.wp prog ⟨dst,.load 47 x,eY,pos,after,guard⟩ a w K Q=K (a.put dst (.agg (gets w (aL (a.eval x)) (aM (a.eval x)) 3))) w:=bB 3 nE BJ hx hh
theorem PZ {eY} {x} {w} (hx:eG (ρ x)=true) (hh:has w (aL (ρ x)) (aM (ρ x)) 3=true):
 (execOp ρ ⟨dst,.load 47 x,eY,pos,after,guard⟩).run prog w=.ok (.value (.agg (gets w (aL (ρ x)) (aM (ρ x)) 3))) w:=aH 3 nE BJ hx hh
attribute [go_sem] nE BJ
attribute [go_sem↓high] Ha PZ
attribute [go_sem high] Ha
structure Ins.ok (i:Ins):Prop where
 op:aI i.op
 a:aI i.a
 b:aI i.b
 c:aI i.c
def cM (l:List Ins):List Value:=l.flatMap λd=>d.cells.toList
theorem jk (l:List Ins):(cM l).length=l.length*4:=by
 induction l with
 |nil=>rfl
 |cons d l ih=>simp only [cM,List.flatMap_cons,cy]at ih⊢;rw [ih];simp;omega
theorem RQ:∀(l:List Ins) (k:Nat) (hk:k<l.length),((cM l).drop (k*4)).take 4=(l[k]).cells.toList
 |d::l,0,_=>by simp [cM]
 |d::l,k+1,hk=>by
  have ih:=RQ l k (by simpa using hk)
  have e:(cM (d::l)).drop ((k+1)*4)=(cM l).drop (k*4):=by
   rw [show(k+1)*4=4+k*4 by omega,<-List.drop_drop]
   rfl
  rw [e,ih];simp
theorem Row.ins {w} {b off} {l} (h:Row w b off (cM l)) (k) (hk):Proofs.YtnhelcmddjbafaaGreatDoor.has w b (off+k*4) 4=true/\gets w b (off+k*4) 4=(l[k]).cells:=by
 have:=h.sub (k*4) 4 (by rw [jk];omega);rw [RQ l k hk]at this
 simpa using this
def bJ (l:List Int):List Value:=l.map λx=>.int .i32 x
theorem Row.mem {w} {b off} {l} (h:Row w b off (bJ l)) (k) (hk):w.cell? ⟨b,off+k,none⟩=some (.int .i32 l[k]):=by
 rw [h.cell k (by simpa [bJ]using hk)];simp [bJ,hk]
def dj (pc halt n:Int):Bool:=decide (1<=n)&&decide (n<=256)&&decide (0<=pc)&&decide (pc<=2048)&&decide (0<=halt)&&decide (halt<=2)
abbrev ai (pc:Int) (A:Option Addr) (n cap:Nat) (halt:Int):Array Value:=#[.int .i64 pc,.slice A n cap,.int .i64 halt]
attribute [go_sem] ai
theorem bU {pc halt} {n:Nat} (h:dj pc halt n=true):1<=n/\n<=256/\0<=pc/\pc<=2048/\0<=halt/\halt<=2:=by
 simp [dj]at h
 omega
theorem aj.row {w} {g} {E} {l:List Value} (h:aj w g E l.toArray):Row w g 0 l:=by simpa using Row.cR h
def Ins.at (i:Ins):Nat->Int|0=>i.op|1=>i.a|2=>i.b|_=>i.c
theorem Xt {i:Ins} (h:i.ok):∀j,aI (i.at j)
 |0=>h.op
 |1=>h.a
 |2=>h.b
 |_+3=>h.c
def ax (n:Int):Prop:=-2147483648<=n/\n<=2147483647
end
namespace Mc
variable{base:Nat}
attribute [go_sem] Ins.cells
def nP (i:Ins):List Int:=kY (kg i.op)++kY (kg i.a)++kY (kg i.b)++kY (kg i.c)
def iJ (i:Ins):Dg:=hOf (nP i)
theorem pZ {n} (h:aI n):(kY (kg n)).length<=10:=DY 10 _ (by have:=KC h.1 h.2;omega) ad
theorem rJ {l q} (h:jr l) (h':jr q):jr (l++q):=λx hx=>(mK.1 hx).elim (h x) (h' x)
theorem Ud (i:Ins):jr (nP i):=rJ (rJ (rJ (BP _) (BP _)) (BP _)) (BP _)
theorem OP {i} (h:i.ok):0<(nP i).length/\(nP i).length<=40:=by
 have h1:=pZ h.op;have h2:=pZ h.a;have h3:=pZ h.b;have h4:=pZ h.c;have h5:=Mq (kg i.op);unfold nP;simp only [cy]
 omega
theorem Tn (l:List Dg):eI (dc l)=true:=by
 induction l with
 |nil=>rfl
 |cons d l ih=>show eI (d.cells.toList++dc l)=true;exact ih
def xk (l:List Dg):Dg:=Yc (fD l (jb l.length) 0) (jb l.length)
def jz (l:List Ins):Dg:=xk (l.map iJ)
def kX (l:List Int):Dg:=xk (l.map dD)
theorem Ld (i:Ins):(iJ i).ok:=agr _
theorem wY (x:Int):(dD x).ok:=Cx _
attribute [go_sem] ai
def j0 (pc halt:Int) (l:List Int):Dg:=mM pc halt l.length (kX l)
theorem aeu (w) (c:Nat) (h:c<=100000):
 ∃w',(Instr.makeSlice 89 (.int .i64 0) (.int .i64 (c:Int))).run prog w=.ok (.slice (some ⟨w.heap.size,0,none⟩) 0 c) w'/\w'.ownsRow w.heap.size 5 1 (.slice (some ⟨w.heap.size,0,none⟩) 0 c) 0 (fF [])/\al w w':=by
 obtain⟨i,hi,hz,h1,h2⟩:=info_parts OO;obtain⟨w',hr,ho,hg⟩:=run_make_own (P:=prog) w w.heap.size 89 5 i _ 1 underlying89 hi hz h1 .i64 .i64 c Hf MB (eH _);exact⟨w',hr,ho,hg.os,hg.tape,hg.output,hg.size,λk hk _=>hg.block k hk aC⟩
theorem UB {w} {v} {n} {xs:List Int} (h:w.ownsRow base 5 1 v n (fF xs)):(v=.slice none 0 0/\n=0/\xs=[])∨∃g c,v=.slice (some ⟨g,0,none⟩) n c/\base<=g/\Row w g 0 (fF xs)/\n<=c/\n=xs.length:=by
 have hl:=h.1;rw [fH,Nat.mul_one]at hl
 rcases h.2 with⟨h1,h0⟩|⟨g,c,du,hv,hb,hc,zM,vG,gu,mN⟩
 .exact .inl ⟨h1,h0,List.eq_nil_of_length_eq_zero ad⟩
 .refine .inr ⟨g,c,hv,hb,?_,zM,hl.symm⟩
  exact anL
theorem TJ (base) (v) (n) (xs) (more:Nat) (w:World) (iC:w.ownsRow base 5 1 v n (fF xs)) (hn:n<=1000) (hm:more<=1000):
 Calls prog 128 #[v,.int .i64 more] w λe w'=>∃v',e=.returned v'/\w'.ownsRow w.heap.size 5 1 v' n (fF xs)/\al w w':=by
 rcases UB iC with⟨rfl,rfl,rfl⟩|⟨g,c,rfl,hg,aG,hc,hl⟩
 .obtain⟨w1,Iz,zN,aB⟩:=aeu w more ad
  obtain⟨i,hi,_⟩:=info_parts OO;have ki:=run_append_owned_none (P:=prog) (w:=w1) _ 89 89 5 i 1 underlying89 hi _ _ _ zN;clear hi;go_enter func128,ntmps128;go_upto_region 1 with(fail);go_step
  iterate 4 refine kT ?_
  refine iy rfl _ _ 89 rfl rfl rfl Iz ?_;clear Iz
  iterate 1 refine kT ?_
  refine cJ rfl (.tmp 9) (.tmp 10) 89 rfl rfl rfl rfl ki ?_;clear ki;go_wp21;go_ret;exact⟨_,rfl,zN,aB⟩
 .obtain⟨w1,Iz,zN,aB⟩:=aeu w (n+more) ad
  obtain⟨v2,w2,ki,n9,eC⟩:=afM w1 _ _ _ [] zN g 0 n c xs hl (aG.ext aB) ad aB.size;rw [Int.natCast_add]at Iz;have HL:=J hl;clear hl hc;go_enter func128,ntmps128;go_upto_region 1 with(fail);go_step
  iterate 4 refine kT ?_
  refine iy rfl _ _ 89 rfl rfl rfl Iz ?_;clear Iz
  iterate 1 refine kT ?_
  refine cJ rfl (.tmp 9) (.tmp 10) 89 rfl rfl rfl rfl ki ?_;clear ki;go_wp21;go_ret;rw [dU,nB]at n9;exact⟨_,rfl,n9,aB.trans' eC (λi hi e=>by simp [Value.ownBlock]at e;omega)⟩
theorem ahd:∀x:Fin 256,bits .or .u8 (x.val:Int) 128=128+(x.val:Int)%128:=by decide+kernel
theorem alI (m:Nat):bits .or .u8 ((m:Int)%256) 128=128+(m:Int)%128:=by
 have h:=ahd ⟨m%256,Nat.mod_lt _ ad⟩;rw [show(((m%256:Nat):Int))=(m:Int)%256 by omega]at h;rw [h]
 omega
theorem uY (base) (v) (k:Nat) (xs:List Int) (n:Nat) (w:World) (hn:n<18446744073709551616) (iC:w.ownsRow base 5 1 v k (fF xs)) (hk:k<=1000) (iH:base<=w.heap.size):
 Calls prog 127 #[v,.int .u64 n] w λe w'=>∃v' m,e=.returned v'/\m=k+(kY n).length/\w'.ownsRow base 5 1 v' m (fF (xs++kY n))/\Kept (λi=>base<=i) w w':=by
 have hlen:(kY n).length<=10:=DY 10 n ad ad;go_enter func127,ntmps127;go_wp21
 go_loopw [0,1] (λt0 t1 wr=>∃(m:Nat) (done:List Int),gq (m<=n)/\t1=.int .u64 m/\gq (done++kY m=kY n)/\wr.ownsRow base 5 1 t0 (k+done.length) (fF (xs++done))/\Kept (λi=>base<=i) w wr) (λ_ t1 _=>(intOf t1).toNat)
 case atStart=>exact⟨n,[],J (eH _),rfl,J rfl,by simpa using iC,kR _ _⟩
 case round=>
  obtain⟨m,done,hmn,rfl,hd,ho,hx⟩:=hrel;have hdl:done.length+(kY m).length<=10:=by have h:=congrArg List.length hd.o;simp at h;have:=hlen;omega
  have hvp:=Mq m;have uR:∀i,(u0:Value).ownBlock=some i->base<=i:=λi e=>(ho.lt i e).1
  by_cases aX:m<128
  .have hq:decide ((128:Int)<=m)=false:=by simp;omega
   have hw:(m:Int)%256=m:=by omega
   obtain⟨v2,w2,ki,n9,eC⟩:=afM (wr.alloc (.cells #[.int .u8 (m:Int)] 5)) _ _ _ (xs++done) (ho.alloc _) wr.heap.size 0 1 1 [(m:Int)] rfl (Row.cR (bN wr _ _)) ad (by have:=hx.size;simp;omega);go_upto_region 4 with(fail);go_step
   iterate 4 refine kT ?_
   refine cJ rfl (.tmp 15) (.tmp 18) 89 rfl rfl rfl rfl ki ?_;go_wp21;go_ret;have hv:done++[(m:Int)]=kY n:=by rw [<-hd.o,qQ aX]
   rw [fy,hv]at n9;exact⟨_,_,rfl,by rw [<-hv];simp;omega,n9,(hx.alloc _).trans' eC (λi _ e=>uR i e)⟩
  .have hq:decide ((128:Int)<=m)=true:=by simp;omega
   have apB:(m:Int)<18446744073709551616:=by have:=hn;have:=hmn.o;omega
   have hor:bits .or .u8 ((m:Int)%256) 128=128+(m:Int)%128:=alI m;obtain⟨v2,w2,ki,n9,eC⟩:=afM (wr.alloc (.cells #[.int .u8 (128+(m:Int)%128)] 5)) _ _ _ (xs++done) (ho.alloc _) wr.heap.size 0 1 1 [128+(m:Int)%128] rfl (Row.cR (bN wr _ _)) ad (by have:=hx.size;simp;omega);have apu:Kept (λi=>base<=i) w w2:=(hx.alloc _).trans' eC (λi _ e=>uR i e);go_upto_region 2 with(fail);go_step
   iterate 5 refine kT ?_
   refine cJ rfl (.tmp 7) (.tmp 11) 89 rfl rfl rfl rfl ki ?_;go_wp21;go_roundw
   case rel=>exact⟨m / 128,done++[128+(m:Int)%128],J (by have:=hmn.o;omega),by go_num,J (by rw [<-hd.o,xG aX];simp),by rw [cy,<-fy,<-gH];exact n9,apu⟩
   case measure=>simp only [intOf];omega
def Xl (w w':World) (e:Ending) (k:Nat) (l:List Int):Prop:=
 ∃v,e=.returned v/\w'.ownsRow w.heap.size 5 1 v k (fF l)/\al w w'
theorem DB (base) (v) (k) (xs) (n) (m:Nat) (w:World) (hm:m=k+(kY n).length) (hn:n<18446744073709551616) (iC:w.ownsRow base 5 1 v k (fF xs)) (hk:k<=1000):
 Calls prog 84 #[v,.int .u64 n] w λe w'=>Xl w w' e m (xs++kY n):=by
 go_enter func84,ntmps84;go_wp21;refine(TJ base v k xs 10 w iC hk ad).mono ?_;rintro e w1 ⟨v1,rfl,zN,aB⟩;go_wp21;refine(uY w.heap.size v1 k xs n w1 hn zN hk aB.size).mono ?_;rintro e w2 ⟨v2,m2,rfl,rfl,n9,eC⟩;go_wp21;go_ret;rw [<-hm]at n9;exact⟨_,rfl,n9,aB.trans' eC (λi hi h=>by omega)⟩
theorem OI (n) (h:n<0) (h0:-9223372036854775808<=n):bits .xor .i64 (-1) n=-(n+1):=by
 show IntKind.i64.wrap ((BitVec.ofInt 64 (-1)^^^BitVec.ofInt 64 n).toNat:Int)=_;have h1:BitVec.ofInt 64 (-1)=BitVec.allOnes 64:=by decide
 rw [h1,BitVec.allOnes_xor,BitVec.toNat_not,BitVec.toNat_ofInt];simp [IntKind.wrap,IntKind.bits,IntKind.signed]
 omega
theorem acs (x:Nat) (h:2*x+1<18446744073709551616):bits .or .u64 (2*(x:Int)) 1=2*(x:Int)+1:=by
 have:=u64_or_nat (2*x) 1 ad ad
 have e:2*x|||1=2*x+1:=by
  have:=Nat.two_pow_add_eq_or_of_lt (show 1<2^1 by decide) x;rw [Nat.pow_one]at this;exact this.symm
 rw [e]at this
 simpa using this
theorem acC (n) (h:n<0) (h0:-9223372036854775808<=n):bits .or .u64 (IntKind.u64.wrap (IntKind.u64.wrap (bits .xor .i64 (-1) n)*2)) 1=((kg n:Nat):Int):=by
 rw [OI n h h0,u64_in (x:=-(n+1)) ad ad,u64_in ad ad];obtain⟨x,hx⟩:∃x:Nat,-(n+1)=x:=⟨(-(n+1)).toNat,by omega⟩;rw [hx,Int.mul_comm,acs x ad];unfold kg;rw [av h]
 omega
theorem PI (base) (v) (k) (xs) (n) (m) (w:World) (hm:m=k+(kY (kg n)).length) (h0:-9223372036854775808<=n) (h1:n<=9223372036854775807) (iC:w.ownsRow base 5 1 v k (fF xs)) (hk:k<=1000):
 Calls prog 85 #[v,.int .i64 n] w λe w'=>Xl w w' e m (xs++kY (kg n)):=by
 have HF:=KC h0 h1
 by_cases CW:n<0
 .go_enter func85,ntmps85
  go_wp21;rw [acC n CW h0];refine(DB base v k xs (kg n) m w hm HF iC hk).mono ?_;rintro e w1 ⟨v1,rfl,zN,aB⟩;go_wp21;go_ret;exact⟨_,rfl,zN,aB⟩
 .have hf:n*2=((kg n:Nat):Int):=by unfold kg;rw [af CW];omega
  go_enter func85,ntmps85;go_wp21;rw [show Value.int IntKind.u64 _=Value.int IntKind.u64 ((kg n:Nat):Int)by rw [<-hf]];refine(DB base v k xs (kg n) m w hm HF iC hk).mono ?_;rintro e w1 ⟨v1,rfl,zN,aB⟩;go_wp21;go_ret;exact⟨_,rfl,zN,aB⟩
def kO (i:Ins):Nat->List Int|0=>[]|j+1=>kO i j++kY (kg (i.at j))
theorem OQ (i:Ins):kO i 4=nP i:=by simp [kO,nP,Ins.at]
theorem C0 {i:Ins} (h:i.ok):∀j,(kO i j).length<=10*j
 |0=>by simp [kO]
 |j+1=>by
  have:=C0 h j;have:=pZ (Xt h j);simp only [kO,cy]
  omega
theorem agU (i:Ins) (j:Nat) (hj:j<4) (w:World):(Instr.index 68 (.agg i.cells) (.int .i64 j)).run prog w=.ok (.int .i64 (i.at j)) w:=by
 rcases(by omega:j=0∨j=1∨j=2∨j=3)with rfl|rfl|rfl|rfl<;>kernel_rfl
theorem I8 (i) (hi:i.ok) (w):
 Calls prog 234 #[.slice none 0 0,.agg #[.int .i64 i.op,.int .i64 i.a,.int .i64 i.b,.int .i64 i.c]] w λe w'=>Xl w w' e (nP i).length (nP i):=by
 have aK:al w _:=dS w (.cells i.cells 71);go_enter func234,ntmps234;go_wp21
 go_loopw [0,16] (λt0 t16 wr=>∃(j:Nat),j<=4/\t16=.int .i64 j/\wr.ownsRow w.heap.size 5 1 t0 (kO i j).length (fF (kO i j))/\al w wr) (λ_ t16 _=>4 - (intOf t16).toNat)
 case atStart=>exact⟨0,by omega,rfl,World.ownsRow_nil _ _ _ _,aK⟩
 case round=>
  obtain⟨j,hj,rfl,ho,hx⟩:=hrel;have hl:=C0 hi j
  by_cases aX:j<4
  .have key:∀(w1:World) (v1:Value),w1.ownsRow wr.heap.size 5 1 v1 ((kO i j).length+(kY (kg (i.at j))).length) (fF (kO i j++kY (kg (i.at j))))->w1.ownsRow w.heap.size 5 1 v1 (kO i (j+1)).length (fF (kO i (j+1))):=λw1 v1 h=>by
    have:=ii h hx.size;rw [<-cy]at this;exact this
   have HP:=λk hk=>(PI w.heap.size u0 (kO i j).length (kO i j) (i.at j) k wr hk (Xt hi j).1 (Xt hi j).2 ho ad);have ard:=agU i j aX;go_wp21;refine(HP _ rfl).mono ?_;rintro e w1 ⟨v1,rfl,zN,aB⟩;go_wp21;go_roundw
   case rel=>exact⟨j+1,aX,by go_num,key _ _ zN,hx.trans aB⟩
   case measure=>simp only [intOf];omega
  .obtain rfl:j=4:=by omega
   go_wp21;go_ret;rw [OQ]at ho;exact⟨_,rfl,ho,hx⟩
theorem Gp (i) (hi:i.ok) (w):Calls prog 182 #[.agg i.cells] w λe w'=>e=.returned (.agg (iJ i).cells)/\al w w':=by
 have HI:=J hi;have HL:=J (OP hi);clear hi;obtain⟨D,hD⟩:=nm' (iJ i);rw [<-hD];have HD:=J hD;clear hD;have aK:al w _:=(dS w (.cells i.cells 71)).alloc (.cells Dg.zero.cells 25);have fU:aj _ (w.heap.size+1) 25 Dg.zero.cells:=aj.d_ (w.alloc (.cells i.cells 71)) _ _ _ aC;go_enter func182,ntmps182;go_wp21;refine(I8 i HI.o _).mono ?_;rintro e w1 ⟨v1,rfl,zN,aB⟩;obtain⟨g,c,rfl,hg,aG,hc,vG,hl⟩:=Zw zN HL.o.1;clear hl;go_wp21;refine(Pw (some ⟨g,0,none⟩) c (nP i) _ _ ⟨rfl,hc,by unfold maxLen at vG;omega,Ud i,.inr ⟨g,0,rfl,λ_=>aG⟩⟩ (λb off e _=>by simp at e;exact e.1▸aG.lt)).mono ?_;rintro e w2 ⟨e2,bM⟩;have uP:hOf (nP i)=D:=HD.o.symm;rw [uP]at e2;subst e2;clear uP;have nL:=bX fU (aB.trans bM);have Wb:=bH nL;have jG:=aj.aJ nL;go_wp21;refine bQ results182 rfl rfl dK ke (aj.cI nL _ _) ⟨rfl,?_⟩;exact Kept.putAt ((aK.trans aB).trans bM) _ _ _ (λh=>by omega)
theorem wZ (x) (w:World):Calls prog 113 #[.int .i32 x] w λe w'=>e=.returned (.agg (dD x).cells)/\al w w':=by
 refine aaF ?_;intro aK fU;have hu:0<=x%4294967296:=by omega
 go_enter func113,ntmps113;go_wp21;refine kU (gI _ _ hu) λw1 aB=>?_;have gW:=bX fU aB;have KU:=bH gW;have Nd:=aj.aJ gW;go_wp21;refine bQ results113 rfl rfl dK ke (aj.cI gW _ _) ⟨rfl,?_⟩;exact Kept.putAt (aK.trans aB) _ _ _ (λh=>by omega)
theorem OL:(prog.info? 25).map (λi=>(i.zero,i.size,i.bytes))=some (some (.agg Dg.zero.cells),8,8):=by kernel_rfl
theorem J9 (w) (base) (v) (n:Nat) (xs:List Dg) (iC:w.ownsRow base 25 8 v n (dc xs)) (b off m c:Nat) (l:List Dg) (hm:m=l.length) (hr:Row w b off (dc l)) (hn:n+m<=100000) (iH:base<=w.heap.size):
 ∃v' w',(Builtin.append_ #[23,23] 23 #[v,.slice (some ⟨b,off,none⟩) m c]).run prog w=.ok v' w'/\w'.ownsRow base 25 8 v' (n+m) (dc (xs++l))/\Kept (λi=>v.ownBlock=some i) w w':=by
 obtain⟨i,hi,hz,h1,h2⟩:=info_parts OL;have:=pz (P:=prog) underlying23 hi hz h1 h2 dZ ae w base v n (dc xs) iC b off m c (dc l) (by rw [eZ,hm]) hr (Tn l) MB ad iH;rw [show dc xs++dc l=dc (xs++l)by simp [dc]]at this;exact this
theorem yS {w} {E} {v} {n} {xs} (h:w.ownsRow base E 8 v n (dc xs)) (hn:0<n):∃g c,v=.slice (some ⟨g,0,none⟩) n c/\base<=g/\Row w g 0 (dc xs)/\n<=c/\c<=maxLen/\n=xs.length:=by
 have hl:=h.1;rw [eZ]at hl
 rcases h.2 with⟨_,h0⟩|⟨g,c,du,hv,hb,hc,zM,vG,gu,mN⟩
 .omega
 .refine⟨g,c,hv,hb,?_,zM,vG,by omega⟩
  have hln:(dc xs).length=n*8:=by rw [eZ,hl]
  exact aaM
theorem RW (w) (c:Nat) (h:c<=100000):
 ∃w',(Instr.makeSlice 23 (.int .i64 0) (.int .i64 (c:Int))).run prog w=.ok (.slice (some ⟨w.heap.size,0,none⟩) 0 c) w'/\w'.ownsRow w.heap.size 25 8 (.slice (some ⟨w.heap.size,0,none⟩) 0 c) 0 (dc [])/\al w w':=by
 obtain⟨i,hi,hz,h1,h2⟩:=info_parts OL;obtain⟨w',hr,ho,hg⟩:=run_make_own (P:=prog) w w.heap.size 23 25 i _ 8 underlying23 hi hz h1 .i64 .i64 c Hf MB (eH _);exact⟨w',hr,ho,hg.os,hg.tape,hg.output,hg.size,λk hk _=>hg.block k hk aC⟩
def adI (w w':World) (e:Ending) (n:Nat) (l:List Dg):Prop:=
 ∃v,e=.returned v/\w'.ownsRow w.heap.size 25 8 v n (dc l)/\al w w'
theorem FA (A) (b off cap) (l) (n) (hn:n=l.length) (h2:n<=4096) (hA:0<n->A=some ⟨b,off,none⟩) (w:World) (hr:0<n->Row w b off (bJ l)):
 Calls prog 155 #[.slice A n cap] w λe w'=>adI w w' e n (l.map dD):=by
 have⟨HN,HA,HR⟩:=J3' hn hA hr;clear hn hA hr;obtain⟨w0,zT,YF,aK⟩:=RW w n ad;go_enter func155,ntmps155;go_upto_region 1 with(fail);go_step
 iterate 2 refine kT ?_
 refine iy rfl _ _ 23 rfl rfl rfl zT ?_;clear zT;go_wp21
 go_loopw [3,11] (λt3 t11 wr=>∃(k:Nat),k<=n/\t11=.int .i64 k/\wr.ownsRow w.heap.size 25 8 t3 k (dc ((l.take k).map dD))/\al w wr) (λ_ t11 _=>n - (intOf t11).toNat)
 case atStart=>exact⟨0,de _,rfl,YF,aK⟩
 case round=>
  obtain⟨k,hk,rfl,ho,hx⟩:=hrel;have uR:∀i,i<w.heap.size->(u3:Value).ownBlock=some i->False:=λi hi e=>by have:=(ho.lt i e).1;omega
  have vN:=J uR;clear uR
  by_cases aX:k<n
  .have pf:k<l.length:=by have:=HN.o;omega
   obtain rfl:=HA.o ad;have Nh:=((HR.o ad).ext hx).mem k pf;have rV:=((HR.o ad).ext hx).lt;go_upto_region 5 with(fail);go_step
   iterate 2 refine kT ?_
   refine wpList_step (λK hK=>?_);go_wp21;refine kU (wZ l[k] _) λw1 aB=>?_;refine hK _ _ ?_;clear hK K;obtain⟨v2,w2,ki,n9,eC⟩:=J9 (w1.alloc (.cells (dD l[k]).cells 25)) _ _ _ ((l.take k).map dD) ((aQ ho aB).alloc _) w1.heap.size 0 1 1 [dD l[k]] rfl (by simpa [dc]using Row.cR (bN w1 25 (dD l[k]).cells)) ad (by have:=(hx.trans aB).size;simp;omega)
   iterate 1 refine kT ?_
   refine cJ rfl (.tmp 15) (.tmp 18) 23 rfl rfl rfl rfl ki ?_;clear ki;go_wp21;go_roundw
   case rel=>exact⟨k+1,aX,by go_num,by rw [List.take_succ_eq_append_getElem pf,vQ];exact n9,((hx.trans aB).alloc _).trans' eC vN.o⟩
   case measure=>simp only [intOf];omega
  .go_wp21
   go_ret;have e:k=n:=by omega
   subst e;rw [lY (Nat.le_of_eq HN.o.symm)]at ho;exact⟨_,rfl,ho,hx⟩
