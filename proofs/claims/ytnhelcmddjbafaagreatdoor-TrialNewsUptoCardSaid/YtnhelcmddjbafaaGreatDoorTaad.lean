import Derived.Lib.AppendZeros
import Derived.Lib.LaidTab
import Derived.Test.YtnhelcmddjbafaaGreatDoorTaac
set_option maxHeartbeats 4000000
set_option maxRecDepth 100000
open Go.Proofs.Tryz
namespace Go.Proofs.YtnhelcmddjbafaaGreatDoor
open Go.RowKit Sq
variable{sz bytes:Nat}
def uy (P:Program) (T E:TypeId) (sz bytes:Nat):Prop:=P.underlying T=some (.slice E)/\∃i z,P.info? E=some i/\i.zero=some z/\i.size=sz/\i.bytes=bytes/\z.cells.size=sz/\0<sz
theorem Bp {P} {T E} (ht:P.underlying T=some (.slice E)) (h:(P.info? E).map (λi=>(i.zero.map (λz=>z.cells.size),i.size,i.bytes))=some (some sz,sz,bytes)) (h0:0<sz):uy P T E sz bytes:=by
 refine⟨ht,?_⟩
 cases hi:P.info? E with
 |none=>rw [hi]at h;cases h
 |some i=>
  rw [hi]at h;simp only [Option.map_some,Option.some.injEq,Prod.mk.injEq]at h;obtain⟨h1,h2,h3⟩:=h
  cases hz:i.zero with
  |none=>rw [hz]at h1;cases h1
  |some z=>
   rw [hz]at h1;simp only [Option.map_some,Option.some.injEq]at h1;exact⟨i,z,rfl,hz,h2,h3,h1,h0⟩
theorem NL {α} {f} {P} {T E} (hE:uy P T E sz bytes) (hf:∀d,(f d).size=sz) (tj:∀d,eI (f d).toList=true) (w:World) (base:Nat) (v:Value) (n:Nat) (xs:List α) (iC:w.ownsRow base E sz v n (b_ f xs))
 (b off m c:Nat) (l:List α) (hm:m=l.length) (hr:Row w b off (b_ f l)) (hn:(n+m)*bytes<=140737488355328) (iH:base<=w.heap.size) (h8:8<=bytes:=by omega):
 ∃v' w',(Builtin.append_ #[T,T] T #[v,.slice (some ⟨b,off,none⟩) m c]).run P w=.ok v' w'/\w'.ownsRow base E sz v' (n+m) (b_ f (xs++l))/\Kept (λi=>v.ownBlock=some i) w w'/\(∀i,v'.ownBlock=some i->v.ownBlock=some i∨w.heap.size<=i):=by
 obtain⟨ht,i,z,hi,hz,h1,h2,h3,h4⟩:=hE
 have Nf:n+m<=maxLen:=by
  have:(n+m)*8<=(n+m)*bytes:=Nat.mul_le_mul_left _ h8;unfold maxLen
  omega
 have agy:=nj (PV tj l);have hlen:(b_ f l).length=m*sz:=by rw [jt hf,hm]
 obtain⟨v',w',dr,ho,hg,_⟩:=run_append_own (P:=P) w base T T E i z sz bytes ht hi hz h1 h2 h3 h4 v n (b_ f xs) iC ⟨b,off,none⟩ m c (b_ f l) hlen hr.cells agy Nf hn iH;rw [GQ]at ho;refine⟨v',w',dr,ho,Kept.sl hg,?_⟩
 rcases iC.2 with⟨rfl,rfl⟩|⟨g,cap,du,rfl,Nb,hgc,zM,vG,gu,pL⟩
 .have hx:b_ f xs=[]:=List.eq_nil_of_length_eq_zero (by simpa using iC.1)
  obtain⟨v2,w2,aem,n9,_,_⟩:=run_append_own (P:=P) w w.heap.size T T E i z sz bytes ht hi hz h1 h2 h3 h4 (.slice none 0 0) 0 [] (World.ownsRow_nil _ _ _ _) ⟨b,off,none⟩ m c (b_ f l) hlen hr.cells agy Nf hn (eH _);rw [dr]at aem;injection aem with e1 e2;subst e1;subst e2;exact λi hi=>.inr (n9.lt i hi).1
 .by_cases aek:n+m<=cap
  .have ki:=run_append_room (P:=P) w T T E i ht hi g n cap du hgc ⟨b,off,none⟩ m c (b_ f l) (by rw [h1];exact hlen) hr.cells agy aek (by rw [h1,hlen,gu,<-Nat.add_mul];exact Nat.mul_le_mul_right _ aek)
   rw [dr]at ki;injection ki with e1 e2;subst e1;exact λi hi=>.inl hi
  .have ki:=run_append_grow (P:=P) w T T E i z ht hi hz ⟨g,0,none⟩ n cap (b_ f xs) (by rw [h1];exact iC.1) (iC.cells (g:=g) rfl) ⟨b,off,none⟩ m c (b_ f l) (by rw [h1];exact hlen) hr.cells ad (by unfold maxLen at Nf;omega) (growslice_fits ad (by rw [h2];exact hn))
   rw [dr]at ki;injection ki with e1 e2;subst e1;intro i hi;simp only [Value.ownBlock,Option.some.injEq]at hi;exact .inr ad
theorem acw {w w':World} {T:TypeId} {v} {n} {l} {F:EF} (ho:w'.ownsRow w.heap.size T 4 v n (b_ Ec.cells l)) (he:lV w' (λi=>w.heap.size<=i/\i<w'.heap.size/\¬v.ownBlock=some i) l F) (hn:n=F.len) (hf:Fits n 56) (hl:l.length=n):
 ∃A' c',Ending.returned v=.returned (.slice A' n c')/\xV w' (λi=>w.heap.size<=i/\i<w'.heap.size) A' n F:=by
 have Yn:=he.mono (D':=λi=>w.heap.size<=i/\i<w'.heap.size) (λi hi=>⟨hi.1,hi.2.1⟩)
 by_cases h0:0<n
 .obtain⟨g,c,rfl,hr,hg,_⟩:=fq ho h0 ad
  refine⟨some ⟨g,0,none⟩,c,rfl,hn,hf,g,0,λ_=>rfl,Yn.shut ⟨hg,hr.lt⟩ (λ_=>hr)⟩
 .obtain rfl:n=0:=by omega
  have hF:F=.nil:=by cases F with
   |nil=>rfl
   |cons _ _ _ _ _=>simp [EF.len]at hn
  exact anP
theorem acx {w w':World} {T:TypeId} {v} {n} {l} {F:SF} (ho:w'.ownsRow w.heap.size T 7 v n (b_ Sc.cells l)) (he:ma w' (λi=>w.heap.size<=i/\i<w'.heap.size/\¬v.ownBlock=some i) l F) (hn:n=F.len) (hf:Fits n 112) (hl:l.length=n):
 ∃A' c',Ending.returned v=.returned (.slice A' n c')/\AF w' (λi=>w.heap.size<=i/\i<w'.heap.size) A' n F:=by
 have Yn:=he.mono (D':=λi=>w.heap.size<=i/\i<w'.heap.size) (λi hi=>⟨hi.1,hi.2.1⟩)
 by_cases h0:0<n
 .obtain⟨g,c,rfl,hr,hg,_⟩:=fq ho h0 ad
  refine⟨some ⟨g,0,none⟩,c,rfl,hn,hf,g,0,λ_=>rfl,Yn.shut ⟨hg,hr.lt⟩ (λ_=>hr)⟩
 .obtain rfl:n=0:=by omega
  have hF:F=.nil:=by cases F with
   |nil=>rfl
   |cons _ _ _ _ _ _ _ _=>simp [SF.len]at hn
  exact anP
theorem Tw:uy prog 286 354 4 56:=Bp underlying286 bd ad
theorem Tx:uy prog 161 288 7 112:=Bp underlying161 bd ad
theorem Kv:uy prog 160 232 4 40:=Bp underlying160 bd ad
theorem wL:uy prog 241 9 1 16:=Bp underlying241 bd ad
abbrev Dn (w:World) (F:EF):Prop:=∀(A:Option Addr) (n c N:Nat) (w':World),al w w'->N<=w.heap.size->lJ w N A n F->Calls prog 209 #[.slice A n c] w' λe w2=>al w' w2/\∃A' c',e=.returned (.slice A' n c')/\xV w2 (λi=>w'.heap.size<=i/\i<w2.heap.size) A' n F
theorem LF (w0) (F:EF):Dn w0 F:=by
 refine rP (C:=Dn w0) ?_ F;intro F IH A n c N w aK hN h;obtain⟨hn,hf,b,off,hA,hE⟩:=h;have hm:=hf.max ad;have jG:=hf;unfold Fits at jG;have⟨HM,HF,HN,HA,HE,HI⟩:=J6' jG hf hn hA hE IH;clear hn hA hE IH hf jG;go_enter func209,ntmps209;go_wp2_with fail
 go_loopw [3,8] (λt3 t8 wr=>∃(j:Nat) (P R:EF) (l:List Ec),j+R.len=n/\P.app R=F/\l.length=j/\t8=.int .i64 j/\wr.ownsRow w.heap.size 354 4 t3 j (b_ Ec.cells l)/\lV wr (λi=>w.heap.size<=i/\i<wr.heap.size/\¬t3.ownBlock=some i) l P/\lU w0 N R b (off+j*4)/\EF.xO (Dn w0) R/\al w wr) (λ_ t8 _=>n - (intOf t8).toNat)
 case atStart=>exact⟨0,.nil,F,[],by rw [HN.o,dU],rfl,rfl,rfl,World.ownsRow_nil _ _ _ _,trivial,by simpa using HE.o,HI.o,kR _ _⟩
 case round=>
  obtain⟨j,P,R,l,hj,bO,hlen,rfl,ho,hec,hR,hI,hx⟩:=hrel;have⟨HR,rh,HX,HO,HEC,yg,cr⟩:=J7' hR hI hx ho hec hlen bO;clear hR hI hx ho hec hlen bO
  cases R with
  |nil=>
   simp only [EF.len,fC]at hj;subst hj;have bO:=cr.o;rw [CA]at bO;subst bO;go_wp2_with fail;go_ret;refine⟨HX.o,?_⟩;exact acw HO.o HEC.o HN.o HF.o yg.o
  |cons op m name k r=>
   obtain⟨hb,h1,h2,h3,⟨A',cap,b',bR,hh,hg,hl,tX,hk⟩,hr⟩:=HR.o;simp only [EF.len]at hj;have aX:(j:Int)<n:=by omega
   obtain rfl:=HA.o ad;have jj:=aK.trans HX.o;refine FC ?_;intro rV jM hg' ie;have⟨KE,IK,dX,sP,oN⟩:=J5' (show lJ w0 N A' k.len k from⟨rfl,hl,b',bR,tX,hk⟩) rh.o.1 jj hr (show aI op/\aI m/\name.size<=maxLen from⟨h1,h2,h3⟩);clear hh hg hl tX hk h1 h2 h3 HR rV jj hr hb;go_upto_region 5 with(fail);have y0:al wr _:=dS wr (.cells (aF op m name A' k.len cap) 221);have hB:=bN wr 221 (aF op m name A' k.len cap);have uR:∀i,u3.ownBlock=some i->w.heap.size<=i/\i<wr.heap.size:=HO.o.lt;have hpo:¬u3.ownBlock=some wr.heap.size:=λe=>by have:=(uR _ e).2;omega
   have KP:(wr.alloc (.cells (aF op m name A' k.len cap) 221)).heap.size=wr.heap.size+1:=by simp
   have Hy:=J (aQ HO.o y0);generalize hW:(wr.alloc (.cells (aF op m name A' k.len cap) 221))=W at y0 hB KP Hy⊢;clear hW jM hg';have⟨WZ,vN,HPO,gN,HXr,HY,HWR⟩:=J7' KP uR hpo (dX.o.trans y0) (HX.o.trans y0) y0 (show w.heap.size<=wr.heap.size from HX.o.size);clear KP uR hpo y0 HX;obtain⟨pb,zR⟩:=nm' wr.heap.size;rw [<-zR]at hB⊢;have oO:=J zR;clear zR;have hC:=J hB;clear hB;refine eW (λw1=>Kept (λi=>u3.ownBlock=some i) W w1) [(0,2),(1,2),(2,1),(3,2),(4,1),(5,2),(6,1),(7,2),(8,1),(9,0),(10,2),(11,0),(12,0),(13,2)] ?_;refine eX ?_;refine El ?_;intro bT
   repeat first|refine bV ?_|refine cF (Kept.ext bT.o) adb ?_|refine cD (Kept.ext bT.o) ?_
   refine ap (λK hK=>?_);go_simp;refine(IK.o _ _ _ N _ (gN.o.trans bT.o) hN KE.o).mono ?_;rintro e w1 ⟨aB,A1,c1,rfl,mF⟩;have dR:=J (bT.o.trans aB);have FJ:=J mF;clear aB mF;refine hK.out _ _ (λ_=>Kept.ext dR.o) ?_;clear hK K;refine kZ ?_;intro K hK;have y2:al W _:=dR.o.alloc (.cells (aF op m name A1 k.len c1) 354);have BR:al w1 _:=dS w1 (.cells (aF op m name A1 k.len c1) 354);have zB:=Row.cR (bN w1 354 (aF op m name A1 k.len c1));generalize Fh:(w1.alloc (.cells (aF op m name A1 k.len c1) 354))=W2 at y2 BR zB⊢;clear Fh;refine hK.out _ _ (λ_=>Kept.ext y2) ?_;clear hK K
   repeat refine bV ?_
   obtain⟨v',w',dr,n8,kh,AU⟩:=NL (f:=Ec.cells) Tw (λ_=>rfl) (λ_=>rfl) W2 w.heap.size u3 j l (aQ Hy.o y2) w1.heap.size 0 1 1 [⟨op,m,name,A1,k.len,c1⟩] rfl zB (by have:=HM.o;omega) (by have:=y2.size;have:=WZ.o;have:=HWR.o;omega);refine ap (λK hK=>?_);refine VJ ?_;refine hK.out _ _ (λ_=>Kept.trans (Kept.ext y2) kh) ?_;clear hK K;refine fc ?_;go_wp2_with fail;go_roundw
   case rel=>
    have e1:=dR.o.size;have e2:=BR.size;have e3:=kh.size;have e4:=WZ.o;have e5:=oO.o;have e6:=HWR.o;have hxw:al w w':=(HXr.o.trans y2).trans' kh (λi hi e=>by have:=(vN.o i e).1;omega);refine⟨j+1,P.app (.cons op m name k .nil),r,l++[⟨op,m,name,A1,k.len,c1⟩],by omega,by rw [zy];exact cr.o,by rw [cy,yg.o];rfl,by go_num,n8,?_,by rw [Nat.add_mul,<-gH];exact sP.o,rh.o.2,hxw⟩;refine lV.snoc ⟨rfl,rfl,rfl,oN.o.1,oN.o.2.1,oN.o.2.2,?_⟩ ?_
    .refine((FJ.o.kept BR (λi hi=>⟨hi.2,λf=>f⟩)).kept kh (λi hi=>⟨by omega,λe=>by have:=(vN.o i e).2;have:=hi.1;have:=bT.o.size;omega⟩)).mono (λi hi=>?_)
     have:=bT.o.size;refine⟨by omega,by omega,λe=>?_⟩
     rcases AU i e with q|q
     .have:=(vN.o i q).2;omega
     .omega
    .refine((HEC.o.kept (HY.o.trans y2) (λi hi=>⟨hi.2.1,λf=>f⟩)).kept kh (λi hi=>⟨by omega,hi.2.2⟩)).mono (λi hi=>?_)
     refine⟨hi.1,by omega,λe=>?_⟩
     rcases AU i e with q|q
     .exact hi.2.2 q
     .omega
   case measure=>simp only [intOf];omega
abbrev Dp (w:World) (F:SF):Prop:=∀(A:Option Addr) (n c N:Nat) (w':World),al w w'->N<=w.heap.size->jc w N A n F->Calls prog 143 #[.slice A n c] w' λe w2=>al w' w2/\∃A' c',e=.returned (.slice A' n c')/\AF w2 (λi=>w'.heap.size<=i/\i<w2.heap.size) A' n F
theorem mj (w0) (F:SF):Dp w0 F:=by
 refine qL (C:=Dp w0) ?_ F;intro F IH A n c N w aK hN h;obtain⟨hn,hf,b,off,hA,hE⟩:=h;have hm:=hf.max ad;have jG:=hf;unfold Fits at jG;have⟨HM,HF,HN,HA,HE,HI⟩:=J6' jG hf hn hA hE IH;clear hn hA hE IH hf jG;go_enter func143,ntmps143;go_wp2_with fail
 go_loopw [3,8] (λt3 t8 wr=>∃(j:Nat) (P R:SF) (l:List Sc),j+R.len=n/\P.app R=F/\l.length=j/\t8=.int .i64 j/\wr.ownsRow w.heap.size 288 7 t3 j (b_ Sc.cells l)/\ma wr (λi=>w.heap.size<=i/\i<wr.heap.size/\¬t3.ownBlock=some i) l P/\mS w0 N R b (off+j*7)/\SF.xO (Dp w0) R/\al w wr) (λ_ t8 _=>n - (intOf t8).toNat)
 case atStart=>exact⟨0,.nil,F,[],by rw [HN.o,dU],rfl,rfl,rfl,World.ownsRow_nil _ _ _ _,trivial,by simpa using HE.o,HI.o,kR _ _⟩
 case round=>
  obtain⟨j,P,R,l,hj,bO,hlen,rfl,ho,hec,hR,hI,hx⟩:=hrel;have⟨HR,rh,HX,HO,HEC,yg,cr⟩:=J7' hR hI hx ho hec hlen bO;clear hR hI hx ho hec hlen bO
  cases R with
  |nil=>
   simp only [SF.len,fC]at hj;subst hj;have bO:=cr.o;rw [DL]at bO;subst bO;go_wp2_with fail;go_ret;refine⟨HX.o,?_⟩;exact acx HO.o HEC.o HN.o HF.o yg.o
  |cons kind name es low high q x r=>
   obtain⟨hb,h1,h2,h3,h4,⟨eA,ec,lA,lc,xA,xc,be,oe,bl,ol,bx,ox,hh,hg,n1,n2,n3,a1,a2,a3,he,hl,AX⟩,hr⟩:=HR.o;simp only [SF.len]at hj;have aX:(j:Int)<n:=by omega
   obtain rfl:=HA.o ad;have jj:=aK.trans HX.o;refine FC ?_;intro rV jM hg' ie;have⟨KE,KL,KX,IL,IX,dX,sP,oN⟩:=J8' (show lJ w0 N eA es.len es from⟨rfl,n1,be,oe,a1,he⟩) (show jc w0 N lA q.len q from⟨rfl,n2,bl,ol,a2,hl⟩) (show jc w0 N xA x.len x from⟨rfl,n3,bx,ox,a3,AX⟩) rh.o.1 rh.o.2.1 jj hr (show aI kind/\aI low/\aI high/\name.size<=maxLen from⟨h1,h2,h3,h4⟩);clear hh hg n1 n2 n3 a1 a2 a3 he hl AX h1 h2 h3 h4 HR rV jj hr hb;go_upto_region 5 with(fail);have y0:al wr _:=dS wr (.cells (au kind name eA es.len ec low high lA q.len lc xA x.len xc) 223);have hB:=bN wr 223 (au kind name eA es.len ec low high lA q.len lc xA x.len xc);have uR:∀i,u3.ownBlock=some i->w.heap.size<=i/\i<wr.heap.size:=HO.o.lt;have hpo:¬u3.ownBlock=some wr.heap.size:=λe=>by have:=(uR _ e).2;omega
   have KP:(wr.alloc (.cells (au kind name eA es.len ec low high lA q.len lc xA x.len xc) 223)).heap.size=wr.heap.size+1:=by simp
   have Hy:=J (aQ HO.o y0);generalize hW:(wr.alloc (.cells (au kind name eA es.len ec low high lA q.len lc xA x.len xc) 223))=W at y0 hB KP Hy⊢;clear hW jM hg';have⟨WZ,vN,HPO,gN,HXr,HY,HWR⟩:=J7' KP uR hpo (dX.o.trans y0) (HX.o.trans y0) y0 (show w.heap.size<=wr.heap.size from HX.o.size);clear KP uR hpo y0 HX;obtain⟨pb,zR⟩:=nm' wr.heap.size;rw [<-zR]at hB⊢;have oO:=J zR;clear zR;have hC:=J hB;clear hB;refine eW (λw1=>Kept (λi=>u3.ownBlock=some i) W w1) [(0,2),(1,2),(2,1),(3,2),(4,1),(5,2),(6,1),(8,2),(9,1),(10,2),(11,1),(12,2),(13,1),(15,2),(16,1),(7,0),(14,0),(17,0),(18,2),(19,0),(20,0),(21,2)] ?_;refine eX ?_;refine El ?_;intro bT
   repeat first|refine bV ?_|refine cF (Kept.ext bT.o) adb ?_|refine cD (Kept.ext bT.o) ?_
   refine ap (λK hK=>?_);go_simp;refine(LF w0 es _ _ _ N _ (gN.o.trans bT.o) hN KE.o).mono ?_;rintro e w1 ⟨aB,A1,c1,rfl,mF⟩;have dR:=J (bT.o.trans aB);have FJ:=J mF;clear aB mF;refine hK.out _ _ (λ_=>Kept.ext dR.o) ?_;clear hK K
   repeat refine bV ?_
   repeat first|refine bV ?_|refine cF (Kept.ext dR.o) adb ?_|refine cD (Kept.ext dR.o) ?_
   refine ap (λK hK=>?_);go_simp;refine(IL.o _ _ _ N _ (gN.o.trans dR.o) hN KL.o).mono ?_;rintro e w2 ⟨bM,A2,c2,rfl,eC⟩;have⟨HZ2,fg,Bf⟩:=J3' bM (dR.o.trans bM) eC;clear bM eC;refine hK.out _ _ (λ_=>Kept.ext fg.o) ?_;clear hK K
   repeat refine bV ?_
   repeat first|refine bV ?_|refine cF (Kept.ext fg.o) adb ?_|refine cD (Kept.ext fg.o) ?_
   refine ap (λK hK=>?_);go_simp;refine(IX.o _ _ _ N _ (gN.o.trans fg.o) hN KX.o).mono ?_;rintro e w3 ⟨ea,A3,c3,rfl,iz⟩;have⟨HZ3,eP,M2⟩:=J3' ea (fg.o.trans ea) iz;clear ea iz;refine hK.out _ _ (λ_=>Kept.ext eP.o) ?_;clear hK K;refine kZ ?_;intro K hK;have y2:al W _:=eP.o.alloc (.cells (au kind name A1 es.len c1 low high A2 q.len c2 A3 x.len c3) 288);have BR:al w3 _:=dS w3 (.cells (au kind name A1 es.len c1 low high A2 q.len c2 A3 x.len c3) 288);have zB:=Row.cR (bN w3 288 (au kind name A1 es.len c1 low high A2 q.len c2 A3 x.len c3));generalize Fh:(w3.alloc (.cells (au kind name A1 es.len c1 low high A2 q.len c2 A3 x.len c3) 288))=W2 at y2 BR zB⊢;clear Fh;refine hK.out _ _ (λ_=>Kept.ext y2) ?_;clear hK K
   repeat refine bV ?_
   obtain⟨v',w',dr,n8,kh,AU⟩:=NL (f:=Sc.cells) Tx (λ_=>rfl) (λ_=>rfl) W2 w.heap.size u3 j l (aQ Hy.o y2) w3.heap.size 0 1 1 [⟨kind,name,A1,es.len,c1,low,high,A2,q.len,c2,A3,x.len,c3⟩] rfl zB (by have:=HM.o;omega) (by have:=y2.size;have:=WZ.o;have:=HWR.o;omega);refine ap (λK hK=>?_);refine VJ ?_;refine hK.out _ _ (λ_=>Kept.trans (Kept.ext y2) kh) ?_;clear hK K;refine fc ?_;go_wp2_with fail;go_roundw
   case rel=>
    have e0:=bT.o.size;have e1:=dR.o.size;have e7:=HZ2.o.size;have e8:=HZ3.o.size;have e2:=BR.size;have e3:=kh.size;have e4:=WZ.o;have e5:=oO.o;have e6:=HWR.o;have hxw:al w w':=(HXr.o.trans y2).trans' kh (λi hi e=>by have:=(vN.o i e).1;omega)
    have tZ:∀i,W.heap.size<=i->i<w3.heap.size->w.heap.size<=i/\i<w'.heap.size/\¬v'.ownBlock=some i:=λi h1 h2=>by
     refine⟨by omega,by omega,λe=>?_⟩
     rcases AU i e with q|q
     .have:=(vN.o i q).2;omega
     .omega
    have agJ:∀i,W.heap.size<=i->¬u3.ownBlock=some i:=λi h1 e=>by have:=(vN.o i e).2;omega
    refine⟨j+1,P.app (.cons kind name es low high q x .nil),r,l++[⟨kind,name,A1,es.len,c1,low,high,A2,q.len,c2,A3,x.len,c3⟩],by omega,by rw [z'];exact cr.o,by rw [cy,yg.o];rfl,by go_num,n8,?_,by rw [Nat.add_mul,<-gH];exact sP.o,rh.o.2.2,hxw⟩;refine ma.snoc ⟨rfl,rfl,rfl,rfl,oN.o.1,oN.o.2.1,oN.o.2.2.1,oN.o.2.2.2,?_,?_,?_⟩ ?_
    .exact((FJ.o.kept ((HZ2.o.trans HZ3.o).trans BR) (λi hi=>⟨hi.2,λf=>f⟩)).kept kh (λi hi=>⟨by omega,agJ i ad⟩)).mono (λi hi=>tZ i ad ad)
    .exact((Bf.o.kept (HZ3.o.trans BR) (λi hi=>⟨hi.2,λf=>f⟩)).kept kh (λi hi=>⟨by omega,agJ i ad⟩)).mono (λi hi=>tZ i ad ad)
    .exact((M2.o.kept BR (λi hi=>⟨hi.2,λf=>f⟩)).kept kh (λi hi=>⟨by have:=fg.o.size;omega,agJ i (by have:=fg.o.size;omega)⟩)).mono (λi hi=>tZ i (by have:=fg.o.size;omega) ad)
    .refine((HEC.o.kept (HY.o.trans y2) (λi hi=>⟨hi.2.1,λf=>f⟩)).kept kh (λi hi=>⟨by omega,hi.2.2⟩)).mono (λi hi=>?_)
     refine⟨hi.1,by omega,λe=>?_⟩
     rcases AU i e with q|q
     .exact hi.2.2 q
     .omega
   case measure=>simp only [intOf];omega
def E_ (w:World) (D:Nat->Prop) (A:Option Addr) (n:Nat) (l:List Vr):Prop:=n=l.length/\Fits n 40/\(∀v∈l,SW v)/\∃b off,(0<n->A=some ⟨b,off,none⟩)/\(0<n->D b/\Row w b off (b_ aO l))
theorem E_.at_ {w} {D} {N} {A} {n} {l} (h:E_ w D A n l) (hD:∀i,D i->i<N):rA w N A n l:=by
 obtain⟨h1,h2,h3,b,off,h4,h5⟩:=h;exact⟨h1,h2,h3,b,off,h4,λh0=>⟨hD _ (h5 h0).1,(h5 h0).2⟩⟩
theorem E_.kept {S} {w w'} {D} {A} {n:Nat} {l:List Vr} (h:E_ w D A n l) (hk:Kept S w w') (hD:∀i,D i->¬S i):E_ w' D A n l:=by
 obtain⟨h1,h2,h3,b,off,h4,h5⟩:=h;exact⟨h1,h2,h3,b,off,h4,λh0=>⟨(h5 h0).1,(h5 h0).2.kept hk (hD _ (h5 h0).1)⟩⟩
theorem E_.ext {w w'} {D} {A} {n:Nat} {l:List Vr} (h:E_ w D A n l) (hk:al w w'):E_ w' D A n l:=by
 obtain⟨h1,h2,h3,b,off,h4,h5⟩:=h;exact⟨h1,h2,h3,b,off,h4,λh0=>⟨(h5 h0).1,(h5 h0).2.ext hk⟩⟩
theorem acy {w w':World} {T:TypeId} {v} {n} {l:List Vr} (ho:w'.ownsRow w.heap.size T 4 v n (b_ aO l)) (hn:n=l.length) (hf:Fits n 40) (hok:∀v∈l,SW v):
 ∃A' c',Ending.returned v=.returned (.slice A' n c')/\E_ w' (λi=>w.heap.size<=i/\i<w'.heap.size) A' n l:=by
 by_cases h0:0<n
 .obtain⟨g,c,rfl,hr,hg,_⟩:=fq ho h0 ad
  exact⟨some ⟨g,0,none⟩,c,rfl,hn,hf,hok,g,0,λ_=>rfl,λ_=>⟨⟨hg,hr.lt⟩,hr⟩⟩
 .obtain rfl:n=0:=by omega
  rcases ho.2 with⟨hv,_⟩|⟨g,c,du,hv,_⟩
  .exact⟨none,0,by rw [hv],hn,hf,hok,0,0,λq=>by omega,λq=>by omega⟩
  .exact⟨some ⟨g,0,none⟩,c,by rw [hv],hn,hf,hok,0,0,λq=>by omega,λq=>by omega⟩
section
variable {w:World} {N N':Nat} {A:Option Addr} {n:Nat}
include w N N' A n
theorem rA.mono {l} (h:rA w N A n l) (hN:N<=N'):rA w N' A n l:=by
 obtain⟨h1,h2,h3,b,off,h4,h5⟩:=h;exact⟨h1,h2,h3,b,off,h4,λh0=>⟨gw (h5 h0).1 hN,(h5 h0).2⟩⟩
theorem VX.mono {l} (h:VX w N A n l) (hN:N<=N'):VX w N' A n l:=by
 obtain⟨h1,h2,h3,b,off,h4,h5⟩:=h;exact⟨h1,h2,h3,b,off,h4,λh0=>⟨gw (h5 h0).1 hN,(h5 h0).2⟩⟩
end
section
variable {w w':World} {N:Nat} {A:Option Addr} {n:Nat}
include w w' N A n
theorem VX.ext {l} (h:VX w N A n l) (hk:al w w'):VX w' N A n l:=h.kept hk (λ_ f=>f.elim)
theorem rA.ext {l} (h:rA w N A n l) (hk:al w w'):rA w' N A n l:=h.kept hk (λ_ f=>f.elim)
end
theorem oL {w} {b off} {l} (h:Row w b off (b_ aO l)) (j) (hj):Proofs.YtnhelcmddjbafaaGreatDoor.has w b (off+j*4) 4=true/\gets w b (off+j*4) 4=aO l[j]:=yU (f:=aO) (k:=4) (λ_=>rfl) h j hj
theorem Dq (l) (A) (n c N) (w) (_hN:N<=w.heap.size) (h:rA w N A n l):Calls prog 142 #[.slice A n c] w λe w2=>al w w2/\∃A' c',e=.returned (.slice A' n c')/\E_ w2 (λi=>w.heap.size<=i/\i<w2.heap.size) A' n l:=by
 obtain⟨hn,hf,hok,b,off,hA,hE⟩:=h;have hm:=hf.max ad;have jG:=hf;unfold Fits at jG;have⟨HM,HF,HN,HA,HE,oN⟩:=J6' jG hf hn hA hE hok;clear hn hA hE hok hf jG;go_enter func142,ntmps142;go_wp21
 go_loopw [3,8] (λt3 t8 wr=>∃(j:Nat),j<=n/\t8=.int .i64 j/\wr.ownsRow w.heap.size 232 4 t3 j (b_ aO (l.take j))/\al w wr) (λ_ t8 _=>n - (intOf t8).toNat)
 case atStart=>exact⟨0,de _,rfl,World.ownsRow_nil _ _ _ _,kR _ _⟩
 case round=>
  obtain⟨j,hj,rfl,ho,hx⟩:=hrel;have HX:=J hx;have HO:=J ho;clear hx ho
  by_cases aX:j<n
  .have ft:j<l.length:=by have:=HN.o;omega
   have iI:(j:Int)<n:=by omega
   obtain rfl:=HA.o ad;refine MK ?_;intro aG jM hg' ie;obtain⟨x,gi⟩:=nm' (l[j]);rw [<-gi]at hg';have mN:l.take (j+1)=l.take j++[x]:=by rw [gi];simp
   have FM:=J mN;clear aG gi mN;have y0:al wr _:=(dz wr (.cells (aO x) 174)).alloc (.cells (aO x) 232);obtain⟨v',w',dr,n8,kh,_⟩:=NL (f:=aO) Kv (λ_=>rfl) (λ_=>rfl) ((wr.alloc (.cells (aO x) 174)).alloc (.cells (aO x) 232)) w.heap.size u3 j (l.take j) (aQ HO.o y0) (wr.heap.size+1) 0 1 1 [x] rfl (Row.cR (aj.d_ _ _ _ _ aC)) (by have:=HM.o;omega) (by have:=y0.size;have:=HX.o.size;omega);rw [<-FM.o]at n8;have HO':=J n8;have AB:=J (show al w w' from(HX.o.trans y0).trans' kh (λi hi e=>by have:=(HO.o.lt i e).1;omega));clear n8 kh y0;go_upto_region 5 with(fail);go_step
   iterate 3 refine kT ?_
   refine cJ rfl (.tmp 12) (.tmp 14) 160 rfl rfl rfl rfl dr ?_;clear dr;go_wp21;go_roundw
   case rel=>exact⟨j+1,aX,by go_num,HO'.o,AB.o⟩
   case measure=>simp only [intOf];omega
  .obtain rfl:j=n:=by omega
   go_wp21;go_ret;refine⟨HX.o,?_⟩;have ho:=HO.o;rw [HN.o,lf,<-HN.o]at ho;exact acy ho HN.o HF.o oN.o
theorem Pw (c) (p) (N) (w:World) (hN:N<=w.heap.size) (h:lZ w N c p):Calls prog 99 #[.agg c.cells] w λe w'=>al w w'/\∃c':Pc,e=.returned (.agg c'.cells)/\lZ w' w'.heap.size c' p:=by
 refine aaL ?_;intro aK hB;have hP:=J (h.ext aK hN);have vF:=ay hN aK.size;clear h;go_enter func99,ntmps99;go_upto_region 1 with(fail);have hR:=bN (w.alloc (.cells c.cells 39)) 163 #[.string ⟨#[]⟩,.int .i64 0,.slice none 0 0,.slice none 0 0,.slice none 0 0,.slice none 0 0,.slice none 0 0,.slice none 0 0,.string ⟨#[]⟩,.slice none 0 0,.slice none 0 0];have hR':aj ((w.alloc (.cells c.cells 39)).alloc (.cells #[.string ⟨#[]⟩,.int .i64 0,.slice none 0 0,.slice none 0 0,.slice none 0 0,.slice none 0 0,.slice none 0 0,.slice none 0 0,.string ⟨#[]⟩,.slice none 0 0,.slice none 0 0] 163)) (w.heap.size+1) 163 #[.string ⟨#[]⟩,.int .i64 0,.slice none 0 0,.slice none 0 0,.slice none 0 0,.slice none 0 0,.slice none 0 0,.slice none 0 0,.string ⟨#[]⟩,.slice none 0 0,.slice none 0 0]:=by simpa using hR
 have aB:=aK.alloc (.cells #[.string ⟨#[]⟩,.int .i64 0,.slice none 0 0,.slice none 0 0,.slice none 0 0,.slice none 0 0,.slice none 0 0,.slice none 0 0,.string ⟨#[]⟩,.slice none 0 0,.slice none 0 0] 163);have hxq:=(kR (λ_=>False) (w.alloc (.cells c.cells 39))).alloc (.cells #[.string ⟨#[]⟩,.int .i64 0,.slice none 0 0,.slice none 0 0,.slice none 0 0,.slice none 0 0,.slice none 0 0,.slice none 0 0,.string ⟨#[]⟩,.slice none 0 0,.slice none 0 0] 163);have Fe:=J (hP.o.ext hxq vF);have tY:=bX hB hxq;have TS:=ay vF hxq.size;generalize hW:((w.alloc (.cells c.cells 39)).alloc (.cells #[.string ⟨#[]⟩,.int .i64 0,.slice none 0 0,.slice none 0 0,.slice none 0 0,.slice none 0 0,.slice none 0 0,.slice none 0 0,.string ⟨#[]⟩,.slice none 0 0,.slice none 0 0] 163))=W at aB tY Fe TS hR'⊢;clear hW aK hB hP vF hR hxq;have ET:=J (show¬w.heap.size=w.heap.size+1 by omega);generalize pg:w.heap.size+1=rb at hR' ET⊢;generalize zR:w.heap.size=pb at tY ET pg⊢;have gN:=J aB;have B_:=J (show w.heap.size<=rb by omega);clear aB zR pg;have hC:=J tY;have hD:=J hR';clear tY hR';refine eW (λw1=>Kept (·=rb) W w1) [(0,2),(1,1),(2,2),(3,1),(4,2),(5,1),(6,2),(7,1),(9,2),(10,1),(12,2),(13,1),(15,2),(16,1),(18,2),(19,1),(21,2),(22,1),(23,2),(24,1),(26,2),(27,1),(8,0),(11,0),(14,0),(17,0),(20,0),(25,0),(28,0),(29,2),(30,0)] ?_;refine eX ?_;refine El ?_;intro bT
 repeat first|refine bV ?_|refine cF (Kept.ext bT.o) Qw ?_|refine cD (Kept.ext bT.o) ?_
 refine ap (λK hK=>?_);go_simp;refine(Dq p.vars _ _ _ N _ (ay TS bT.o.size) (Fe.o.vars.ext bT.o)).mono ?_;rintro e w1 ⟨aB,A1,c1,rfl,mF⟩;have⟨ny,dR,FJ⟩:=J3' aB (bT.o.trans aB) mF;clear aB mF;refine hK.out _ _ (λ_=>Kept.ext dR.o) ?_;clear hK K
 repeat refine bV ?_
 repeat first|refine bV ?_|refine cF (Kept.ext dR.o) Qw ?_|refine cD (Kept.ext dR.o) ?_
 refine ap (λK hK=>?_);go_simp;refine(mj _ p.start _ _ _ N _ (kR _ _) (ay TS dR.o.size) (Fe.o.start.ext dR.o TS)).mono ?_;rintro e w2 ⟨aB,A2,c2,rfl,mF⟩;have⟨HZ2,fg,Bf⟩:=J3' aB (dR.o.trans aB) mF;clear aB mF;refine hK.out _ _ (λ_=>Kept.ext fg.o) ?_;clear hK K
 repeat refine bV ?_
 repeat first|refine bV ?_|refine cF (Kept.ext fg.o) Qw ?_|refine cD (Kept.ext fg.o) ?_
 refine ap (λK hK=>?_);go_simp;refine(mj _ p.turn _ _ _ N _ (kR _ _) (ay TS fg.o.size) (Fe.o.turn.ext fg.o TS)).mono ?_;rintro e w3 ⟨aB,A3,c3,rfl,mF⟩;have⟨HZ3,eP,M2⟩:=J3' aB (fg.o.trans aB) mF;clear aB mF;refine hK.out _ _ (λ_=>Kept.ext eP.o) ?_;clear hK K
 repeat refine bV ?_
 repeat first|refine bV ?_|refine cF (Kept.ext eP.o) Qw ?_|refine cD (Kept.ext eP.o) ?_
 refine ap (λK hK=>?_);go_simp;refine(Dq p.params _ _ _ N _ (ay TS eP.o.size) (Fe.o.params.ext eP.o)).mono ?_;rintro e w4 ⟨aB,A4,c4,rfl,mF⟩;have⟨HZ4,kB,xZ⟩:=J3' aB (eP.o.trans aB) mF;clear aB mF;refine hK.out _ _ (λ_=>Kept.ext kB.o) ?_;clear hK K
 repeat refine bV ?_
 repeat first|refine bV ?_|refine cF (Kept.ext kB.o) Qw ?_|refine cD (Kept.ext kB.o) ?_
 refine ap (λK hK=>?_);go_simp;refine(mj _ p.ci _ _ _ N _ (kR _ _) (ay TS kB.o.size) (Fe.o.ci.ext kB.o TS)).mono ?_;rintro e w5 ⟨aB,A5,c5,rfl,mF⟩;have⟨HZ5,uz,vz⟩:=J3' aB (kB.o.trans aB) mF;clear aB mF;refine hK.out _ _ (λ_=>Kept.ext uz.o) ?_;clear hK K
 repeat refine bV ?_
 repeat first|refine bV ?_|refine cF (Kept.ext uz.o) Qw ?_|refine cD (Kept.ext uz.o) ?_
 refine ap (λK hK=>?_);go_simp;refine(mj _ p.quiet _ _ _ N _ (kR _ _) (ay TS uz.o.size) (Fe.o.quiet.ext uz.o TS)).mono ?_;rintro e w6 ⟨aB,A6,c6,rfl,mF⟩;have⟨HZ6,sQ,Ht⟩:=J3' aB (uz.o.trans aB) mF;clear aB mF;refine hK.out _ _ (λ_=>Kept.ext sQ.o) ?_;clear hK K
 repeat refine bV ?_
 repeat first|refine bV ?_|refine cF (Kept.ext sQ.o) Qw ?_|refine cD (Kept.ext sQ.o) ?_
 refine ap (λK hK=>?_);go_simp;refine(mj _ p.bP _ _ _ N _ (kR _ _) (ay TS sQ.o.size) (Fe.o.bP.ext sQ.o TS)).mono ?_;rintro e w7 ⟨aB,A7,c7,rfl,mF⟩;have⟨HZ7,Eu,HK7⟩:=J3' aB (sQ.o.trans aB) mF;clear aB mF;refine hK.out _ _ (λ_=>Kept.ext Eu.o) ?_;clear hK K
 repeat refine bV ?_
 have eg:=bX hD.o Eu.o;have hm:=aj.aJ eg;have hh:=bH eg;refine ap (λK hK=>?_);go_simp;refine hK.out _ _ (λ_=>Kept.putAt (Kept.ext Eu.o) _ _ _ (λ_=>rfl)) ?_;clear hK K;refine fc ?_;go_wp21;refine bQ results99 rfl rfl vY (by exact tC) (aj.cI eg _ _) ?_;refine⟨(gN.o.trans Eu.o).putAt _ _ _ (λaX=>absurd aX MA),⟨c.name,c.aP,c.cd,⟨A1,c.vars.n,c1⟩,⟨A2,c.start.n,c2⟩,⟨A3,c.turn.n,c3⟩,⟨A4,c.params.n,c4⟩,⟨A5,c.ci.n,c5⟩,c.silent,⟨A6,c.quiet.n,c6⟩,⟨A7,c.bP.n,c7⟩⟩,rfl,?_⟩;have RD:Kept (·=rb) w7 (putAt w7 rb 0 #[.string c.name,.int .i64 c.aP,c.cd.v,.slice A1 c.vars.n c1,.slice A2 c.start.n c2,.slice A3 c.turn.n c3,.slice A4 c.params.n c4,.slice A5 c.ci.n c5,.string c.silent,.slice A6 c.quiet.n c6,.slice A7 c.bP.n c7]):=Kept.putAt (kR _ _) _ _ _ (λ_=>rfl);have OD:=RD.size;have E6:=HZ7.o;have E5:=HZ6.o.trans E6;have E4:=HZ5.o.trans E5;have E3:=HZ4.o.trans E4;have E2:=HZ3.o.trans E3;have E1:=HZ2.o.trans E2;have k0:=bT.o.size;have k1:=dR.o.size;have k2:=fg.o.size;have k3:=eP.o.size;have k4:=kB.o.size;have k5:=uz.o.size;have k6:=sQ.o.size;have k7:=Eu.o.size;have s1:=E1.size;have s2:=E2.size;have s3:=E3.size;have s4:=E4.size;have s5:=E5.size;have s6:=E6.size;have pg:=hD.o.lt;have hNr:N<=rb:=ay hN B_.o;refine⟨Fe.o.name,Fe.o.Df,Fe.o.aP,Fe.o.BI,((Fe.o.cd.ext Eu.o).kept RD (λi e=>by omega)).mono ad,?_,?_,?_,?_,?_,Fe.o.silent,Fe.o.sy,?_,?_⟩
 .exact((FJ.o.ext E1).kept RD (λi hi e=>by omega)).at_ (λi hi=>by omega)
 .exact((Bf.o.kept E2 (λi hi=>⟨hi.2,λf=>f⟩)).kept RD (λi hi=>⟨by omega,by omega⟩)).at_ (λi hi=>by omega)
 .exact((M2.o.kept E3 (λi hi=>⟨hi.2,λf=>f⟩)).kept RD (λi hi=>⟨by omega,by omega⟩)).at_ (λi hi=>by omega)
 .exact((xZ.o.ext E4).kept RD (λi hi e=>by omega)).at_ (λi hi=>by omega)
 .exact((vz.o.kept E5 (λi hi=>⟨hi.2,λf=>f⟩)).kept RD (λi hi=>⟨by omega,by omega⟩)).at_ (λi hi=>by omega)
 .exact((Ht.o.kept E6 (λi hi=>⟨hi.2,λf=>f⟩)).kept RD (λi hi=>⟨by omega,by omega⟩)).at_ (λi hi=>by omega)
 .exact(HK7.o.kept RD (λi hi=>⟨hi.2,by omega⟩)).at_ (λi hi=>by omega)
attribute [go_sem] iu.v
theorem wN (l) (s:Str) (A:Option Addr) (n c N:Nat) (w:World) (h:rA w N A n l):Calls prog 213 #[.slice A n c,.string s] w λe w'=>e=.returned (.bool (l.any (λv=>decide (v.name=s))))/\w=w':=by
 obtain⟨hn,hf,hok,b,off,hA,hE⟩:=h;refine zi ?_;intro hm HN HA HE;clear hn hA hE hok hf;go_enter func213,ntmps213;go_wp2_with fail
 go_loopw [5] (λt5 wr=>∃(j:Nat),j<=n/\t5=.int .i64 j/\(∀v∈l.take j,¬v.name=s)/\w=wr) (λt5 _=>n - (intOf t5).toNat)
 case atStart=>exact⟨0,de _,rfl,by simp,rfl⟩
 case round=>
  obtain⟨j,hj,rfl,AV,hw⟩:=hrel;subst hw;have BZ:=J AV;clear AV
  by_cases aX:j<n
  .have ft:j<l.length:=by have:=HN.o;omega
   have iI:(j:Int)<n:=by omega
   obtain rfl:=HA.o ad;have aG:=(HE.o ad).2;obtain⟨jM,hg'⟩:=oL aG j ft;have hc:=ql jM hg' ad;obtain⟨x,gi⟩:=nm' (l[j]);rw [<-gi]at hc;have HX:=J gi;clear aG gi jM hg'
   by_cases hq:x.name=s
   .have hb:=pX hq
    have HQ:=J hq;clear hq;go_wp2_with fail;go_ret;refine⟨aV ?_,rfl⟩;rw [eq_comm,List.any_eq_true];exact⟨x,by rw [HX.o];exact cK ft,cO HQ.o⟩
   .have hb:=nu hq
    exact aik
  .obtain rfl:j=n:=by omega
   go_wp2_with fail;go_ret;refine⟨aV ?_,rfl⟩;rw [eq_comm,List.any_eq_false];intro v hv;have:=BZ.o v ahJ
   simpa using this
theorem FZ:∀a b:List Vr,cells (a++b)=cells a+cells b
 |[],b=>by simp [cells]
 |v::a,b=>by simp [cells,FZ a b];omega
theorem Td (v:Vr):1<=Sq.fO v/\Sq.fO v<=64:=by unfold Sq.fO;split<;>omega
theorem Ki:∀l:List Vr,0<=cells l/\cells l<=64*l.length
 |[]=>by simp [cells]
 |v::l=>by
  have:=Ki l;have:=Td v;simp only [cells,dT]
  omega
theorem nG {l:List Vr} {j} (h):cells (l.take (j+1))=cells (l.take j)+Sq.fO l[j]:=by
 rw [mJ,List.getElem?_eq_getElem h,FZ];simp [cells]
theorem p_ {l} (h:l.length<=17592186044416):jw (cells l)=cells l:=by
 have:=Ki l;simp only [eF]
 omega
def fL (l:List Vr) (s:Str):Int:=if l.any (λv=>decide (v.name=s))=true then cells (l.takeWhile (λv=>!decide (v.name=s)))else 0
def a_ (l:List Vr) (s:Str):Vr:=(l.find? (λv=>decide (v.name=s))).getD ⟨E0,0,0,0⟩
theorem Qk {α:Type} (p:α->Bool) (b:List α):∀(a:List α) (x:α) (_:∀v∈a,p v=false) (_:p x=true),(a++x::b).takeWhile (λv=>!p v)=a/\(a++x::b).find? p=some x
 |[],x,_,hx=>by simp [hx]
 |y::a,x,h,hx=>by
  have hy:=h y aC;obtain⟨h1,h2⟩:=Qk p b a x (λv hv=>h v (by simp [hv])) hx;exact⟨by simp [hy,h1],by simp [hy,h2]⟩
theorem Rc:∀{l:List Vr} {j:Nat} {s:Str} (_:∀v∈l.take j,¬v.name=s) (hj:j<l.length) (_:l[j].name=s),fL l s=cells (l.take j)/\a_ l s=l[j]/\l.any (λv=>decide (v.name=s))=true:=by
 intro l j s h hj hq;have hsp:l=l.take j++l[j]::l.drop (j+1):=by rw [<-ui hj,List.take_append_drop]
 have uO:l.any (λv=>decide (v.name=s))=true:=by
  rw [List.any_eq_true];exact⟨l[j],cK hj,cO hq⟩
 have htw:l.takeWhile (λv=>!decide (v.name=s))=l.take j:=by
  have:=Qk (λv:Vr=>decide (v.name=s)) (l.drop (j+1)) (l.take j) l[j] (λv hv=>by simpa using h v hv) (by simpa using hq);rw [<-hsp]at this;exact this.1
 have hfd:l.find? (λv=>decide (v.name=s))=some l[j]:=by
  have:=Qk (λv:Vr=>decide (v.name=s)) (l.drop (j+1)) (l.take j) l[j] (λv hv=>by simpa using h v hv) (by simpa using hq);rw [<-hsp]at this;exact this.2
 exact⟨by unfold fL;rw [av uO,htw],by unfold a_;rw [hfd];rfl,uO⟩
theorem Re {l} {s} (h:∀v∈l,¬v.name=s):fL l s=0/\a_ l s=⟨E0,0,0,0⟩/\l.any (λv=>decide (v.name=s))=false:=by
 have uO:l.any (λv=>decide (v.name=s))=false:=by
  rw [List.any_eq_false];intro v hv;simpa using h v hv
 refine⟨by unfold fL;rw [uO];rfl,?_,uO⟩;unfold a_;rw [List.find?_eq_none.2 (λv hv=>by simpa using h v hv)]
 rfl
theorem Y7 (l) (s:Str):fK l s=if l.any (λv=>decide (v.name=s))=true then(if 0<(a_ l s).size then 2 else 1)else 0:=by
 unfold fK a_
 cases hf:l.find? (λv=>decide (v.name=s))with
 |none=>
  have:l.any (λv=>decide (v.name=s))=false:=by
   rw [List.any_eq_false];intro v hv;exact List.find?_eq_none.1 hf v hv
  rw [this];rfl
 |some v=>
  have:l.any (λv=>decide (v.name=s))=true:=by
   rw [List.any_eq_true];exact⟨v,List.mem_of_find?_eq_some hf,List.find?_some (p:=λv:Vr=>decide (v.name=s)) hf⟩
  rw [av this];rfl
theorem R2 {l:List Vr} {j} {s} (h:∀v∈l.take j,¬v.name=s) (hj:j<l.length) (hq:¬l[j].name=s):∀v∈l.take (j+1),¬v.name=s:=by
 intro v hv;rw [mJ,List.getElem?_eq_getElem hj]at hv;simp only [Option.toList_some,mK,List.mem_singleton]at hv
 rcases hv with hv|rfl
 .exact h v hv
 .exact hq
theorem DI (c) (p) (N) (w) (_hN:N<=w.heap.size) (h:lZ w N c p):Calls prog 139 #[.agg c.cells] w λe w'=>e=.returned (.int .i64 (cells p.vars))/\al w w':=by
 obtain⟨cn,kv,lK,⟨A,n,cc⟩,cs,ct,rO,iV,mC,cq,oV⟩:=c;have aK:=dz w (.cells (Pc.cells ⟨cn,kv,lK,⟨A,n,cc⟩,cs,ct,rO,iV,mC,cq,oV⟩) 163);obtain⟨hn,hf,hok,b,off,hA,hE⟩:=h.vars.ext aK;refine zi ?_;intro hm HN HA HE;have dX:=J aK;clear hn hA hE hok hf h;go_enter func139,ntmps139;go_wp21
 go_loopw [3,9] (λt3 t9 wr=>∃(j:Nat),j<=n/\t9=.int .i64 j/\t3=.int .i64 (jw (cells (p.vars.take j)))/\al (w.alloc (.cells (Pc.cells ⟨cn,kv,lK,⟨A,n,cc⟩,cs,ct,rO,iV,mC,cq,oV⟩) 163)) wr) (λ_ t9 _=>n - (intOf t9).toNat)
 case atStart=>exact⟨0,de _,rfl,by simp [cells,eF],kR _ _⟩
 case round=>
  obtain⟨j,hj,rfl,rfl,hx⟩:=hrel;have HX:=J hx;clear hx
  by_cases aX:j<n
  .have ft:j<p.vars.length:=by have:=HN.o;omega
   have iI:(j:Int)<n:=by omega
   obtain rfl:=HA.o ad;refine MK ?_;intro aG jM hg' ie;obtain⟨x,gi⟩:=nm' (p.vars[j]);rw [<-gi]at hg';have iF:=J gi;clear aG gi;have y0:al wr _:=dz wr (.cells (aO x) 232);go_wp21;refine kU (L2 x _) λw1 aB=>?_;go_wp21;go_roundw
   case rel=>exact⟨j+1,aX,by go_num,by rw [nG ft,<-iF.o];simp only [iE],HX.o.trans (y0.trans aB)⟩
   case measure=>simp only [intOf];omega
  .obtain rfl:j=n:=by omega
   go_wp21;go_ret;refine⟨cL ?_,dX.o.trans HX.o⟩;rw [HN.o,lf,p_ aal]
theorem PJ (c) (p) (N) (w) (_hN:N<=w.heap.size) (h:lZ w N c p):Calls prog 103 #[.agg c.cells] w λe w'=>e=.returned (.int .i64 (cells p.vars))/\al w w':=by
 obtain⟨cn,kv,lK,⟨A,n,cc⟩,cs,ct,rO,iV,mC,cq,oV⟩:=c;have aK:=dz w (.cells (Pc.cells ⟨cn,kv,lK,⟨A,n,cc⟩,cs,ct,rO,iV,mC,cq,oV⟩) 39);have hB:=bN w 39 (Pc.cells ⟨cn,kv,lK,⟨A,n,cc⟩,cs,ct,rO,iV,mC,cq,oV⟩);obtain⟨hn,hf,hok,b,off,hA,hE⟩:=h.vars.ext aK;refine zi ?_;intro hm HN HA HE;clear hn hA hE hok hf h;go_enter func103,ntmps103;go_upto_region 1 with(fail);generalize hW:(w.alloc (.cells (Pc.cells ⟨cn,kv,lK,⟨A,n,cc⟩,cs,ct,rO,iV,mC,cq,oV⟩) 39))=W at aK hB HE⊢;clear hW;generalize w.heap.size=pb at hB⊢;have hC:=J hB;have dX:=J aK;clear hB aK;go_wp21
 go_loopw [3,4] (λt3 t4 wr=>∃(j:Nat),j<=n/\t4=.int .i64 j/\t3=.int .i64 (jw (cells (p.vars.take j)))/\al W wr) (λ_ t4 _=>n - (intOf t4).toNat)
 case atStart=>exact⟨0,de _,rfl,by simp [cells,eF],kR _ _⟩
 case round=>
  obtain⟨j,hj,rfl,rfl,hx⟩:=hrel;have HX:=J hx;have uP:=bC (bX hC.o hx);have gy:=(bX hC.o hx).lt;clear hx
  by_cases aX:j<n
  .have ft:j<p.vars.length:=by have:=HN.o;omega
   have iI:(j:Int)<n:=by omega
   obtain rfl:=HA.o ad;refine MK ?_;intro aG jM hg' ie;obtain⟨x,gi⟩:=nm' (p.vars[j]);rw [<-gi]at hg';have iF:=J gi;clear aG gi;go_wp21;refine kU (yq x _) λw1 aB=>?_;go_wp21;go_roundw
   case rel=>exact⟨j+1,aX,by go_num,by rw [nG ft,<-iF.o];simp only [iE],HX.o.trans aB⟩
   case measure=>simp only [intOf];omega
  .obtain rfl:j=n:=by omega
   go_wp21;go_ret;refine⟨cL ?_,dX.o.trans HX.o⟩;rw [HN.o,lf,p_ aal]
theorem BE {P} {fn} {R} {a} {w} {i p k} {ty t} {g:Nat} {cs:Array Value}
 (Fp:fn.results=#[.tmp i,.cell p ty,.tmp k]) (hd:a.defers=[]) (hp:a.tmps.getD p undef=.pointer (some ⟨g,0,none⟩)) (ha:gB P ty=true) (hs:dw P ty=some cs.size) (hb:aj w g t cs)
 (hR:R (.returned (.tuple #[a.tmps.getD i undef,.agg cs,a.tmps.getD k undef])) w):bodyPost P fn R .ret a w:=by
 exact Sn
abbrev sV (l:List Vr) (s:Str):Ending:=.returned (.tuple #[.int .i64 (fL l s),.agg (aO (a_ l s)),.bool (l.any (λv=>decide (v.name=s)))])
theorem yX (c) (p:Pr) (s:Str) (N:Nat) (w:World) (_hN:N<=w.heap.size) (h:lZ w N c p):Calls prog 206 #[.agg c.cells,.string s] w λe w'=>e=sV p.vars s/\al w w':=by
 obtain⟨cn,kv,lK,⟨A,n,cc⟩,cs,ct,rO,iV,mC,cq,oV⟩:=c;have aK:=(dz w (.cells (Pc.cells ⟨cn,kv,lK,⟨A,n,cc⟩,cs,ct,rO,iV,mC,cq,oV⟩) 163)).alloc (.cells #[.string ⟨#[]⟩,.int .i64 0,.int .i64 0,.int .i64 0] 232);have hR:=aj.d_ (w.alloc (.cells (Pc.cells ⟨cn,kv,lK,⟨A,n,cc⟩,cs,ct,rO,iV,mC,cq,oV⟩) 163)) 232 #[.string ⟨#[]⟩,.int .i64 0,.int .i64 0,.int .i64 0] (w.heap.size+1) aC;obtain⟨hn,hf,hok,b,off,hA,hE⟩:=h.vars.ext aK;refine zi ?_;intro hm HN HA HE;clear hn hA hE hok hf h;go_enter func206,ntmps206;go_upto_region 3 with(fail);have B_:=J (show w.heap.size<=w.heap.size+1 by omega);generalize hW:((w.alloc (.cells (Pc.cells ⟨cn,kv,lK,⟨A,n,cc⟩,cs,ct,rO,iV,mC,cq,oV⟩) 163)).alloc (.cells #[.string ⟨#[]⟩,.int .i64 0,.int .i64 0,.int .i64 0] 232))=W at aK hR HE⊢;clear hW;have hD:=J hR;have dX:=J aK;clear hR aK
 go_loopw [7,13] (λt7 t13 wr=>∃(j:Nat),j<=n/\t13=.int .i64 j/\t7=.int .i64 (jw (cells (p.vars.take j)))/\(∀v∈p.vars.take j,¬v.name=s)/\al W wr) (λ_ t13 _=>n - (intOf t13).toNat)
 case atStart=>exact⟨0,de _,rfl,by simp [cells,eF],by simp,kR _ _⟩
 case round=>
  obtain⟨j,hj,rfl,rfl,AV,hx⟩:=hrel;have HX:=J hx;have BZ:=J AV;have eg:=bX hD.o hx;have fY:=eg.aJ;have gD:=bH eg;have gy:=eg.lt;clear hx AV
  by_cases aX:j<n
  .have ft:j<p.vars.length:=by have:=HN.o;omega
   have iI:(j:Int)<n:=by omega
   obtain rfl:=HA.o ad;refine MK ?_;intro aG jM hg' ie;obtain⟨x,gi⟩:=nm' (p.vars[j]);rw [<-gi]at hg';have iF:=J gi;clear aG gi
   by_cases hq:x.name=s
   .have hb:=pX hq
    have HQ:=J (Rc BZ.o ft adq);clear hq;go_upto_region 6 with(fail);have y0:al wr _:=dz wr (.cells (aO x) 232);have hV:=bN wr 232 (aO x);have gM:¬wr.heap.size=w.heap.size+1:=by omega
    generalize Fh:(wr.alloc (.cells (aO x) 232))=W2 at y0 hV⊢;clear Fh fY gD gy eg jM hg';obtain⟨rb,pg⟩:=nm' (w.heap.size+1);generalize wr.heap.size=vb at hV gM⊢;have hV2:=J hV;have ET:=J pg;rw [<-pg]at gM⊢;have mw:=J gM;have HY:=J (HX.o.trans y0);have hDy:=bX hD.o HY.o;rw [<-pg]at hDy;have HDY:=J hDy;clear hV pg gM y0 hDy;refine eW (λw1=>Kept (·=rb) W2 w1) [(0,2),(1,1),(2,2),(3,0),(4,2)] ?_;refine eX ?_;have bT:=J (pj W2)
    repeat first|refine bV ?_|refine cF (Kept.ext bT.o) (by intro w1 hS;have d0:=bK hV2.o hS mw.o;have d1:=bG d0;have d2:=bH d0;have d3:=d0.lt;exact fE) ?_|refine cD (Kept.ext bT.o) ?_
    have jG:=(bX HDY.o bT.o).aJ;have Wb:=bH (bX HDY.o bT.o);refine ap (λK hK=>?_);go_simp;refine hK.out _ _ (λ_=>Kept.putAt (Kept.ext bT.o) _ _ _ (λ_=>rfl)) ?_;clear hK K;refine fc ?_;go_wp21;refine BE results206 rfl rfl wj (by exact sC) (aj.cI (bX HDY.o bT.o) _ _) ⟨?_,?_⟩
    .obtain⟨q1,q2,q3⟩:=HQ.o
     unfold sV;rw [q1,q2,q3,<-iF.o,p_ (by rw [vR];omega)];simp [splice]
    .exact((dX.o.trans HY.o).trans bT.o).putAt _ _ _ (λaX=>absurd aX (by have:=ET.o;omega))
   .have hb:=nu hq
    have HQ:=J (R2 BZ.o ft adq);clear hq;have y0:al wr _:=dz wr (.cells (aO x) 232);go_wp21;refine kU (L2 x _) λw1 aB=>?_;go_wp21;go_roundw
    case rel=>exact⟨j+1,aX,by go_num,by rw [nG ft,<-iF.o];simp only [iE],HQ.o,HX.o.trans (y0.trans aB)⟩
    case measure=>simp only [intOf];omega
  .obtain rfl:j=n:=by omega
   go_wp21;refine BE results206 rfl rfl wj (by exact sC) (aj.cI eg _ _) ⟨?_,?_⟩
   .obtain⟨q1,q2,q3⟩:=Re (l:=p.vars) (s:=s) (by have h:=BZ.o;rw [HN.o,lf]at h;exact h)
    unfold sV;rw [q1,q2,q3];simp [splice,E0]
   .exact(dX.o.trans HX.o).putAt _ _ _ (λaX=>absurd aX ad)
theorem UL (c) (p:Pr) (s:Str) (N:Nat) (w:World) (hN:N<=w.heap.size) (h:lZ w N c p):Calls prog 323 #[.agg c.cells,.string s] w λe w'=>e=sV p.vars s/\al w w':=by
 obtain⟨cn,kv,lK,⟨A,n,cc⟩,cs,ct,rO,iV,mC,cq,oV⟩:=c;have aK:=(dz w (.cells (Pc.cells ⟨cn,kv,lK,⟨A,n,cc⟩,cs,ct,rO,iV,mC,cq,oV⟩) 39)).alloc (.cells #[.string ⟨#[]⟩,.int .i64 0,.int .i64 0,.int .i64 0] 174);have hR:=aj.d_ (w.alloc (.cells (Pc.cells ⟨cn,kv,lK,⟨A,n,cc⟩,cs,ct,rO,iV,mC,cq,oV⟩) 39)) 174 #[.string ⟨#[]⟩,.int .i64 0,.int .i64 0,.int .i64 0] (w.heap.size+1) aC;have hB:=(bN w 39 (Pc.cells ⟨cn,kv,lK,⟨A,n,cc⟩,cs,ct,rO,iV,mC,cq,oV⟩)).alloc (.cells #[.string ⟨#[]⟩,.int .i64 0,.int .i64 0,.int .i64 0] 174);obtain⟨hn,hf,hok,b,off,hA,hE⟩:=h.vars.ext aK;refine zi ?_;intro hm HN HA HE;clear hn hA hE hok hf h;go_enter func323,ntmps323;go_upto_region 3 with(fail);obtain⟨rb,pg⟩:=nm' (w.heap.size+1);obtain⟨pb,zR⟩:=nm' w.heap.size;rw [<-pg]at hR;rw [<-zR]at hB;simp only [<-pg];simp only [<-zR];have gM:¬pb=rb:=by omega
 have B_:=J (show w.heap.size<=rb by omega);have MY:=J (show 0<n->¬b=rb from λh0=>by have:=(HE.o h0).1;omega);generalize hW:((w.alloc (.cells (Pc.cells ⟨cn,kv,lK,⟨A,n,cc⟩,cs,ct,rO,iV,mC,cq,oV⟩) 39)).alloc (.cells #[.string ⟨#[]⟩,.int .i64 0,.int .i64 0,.int .i64 0] 174))=W at aK hR HE hB⊢;clear hW pg zR;have⟨hD,hC,dX,mw⟩:=J4' hR hB aK gM;clear hR aK hB gM
 go_loopw [7,8] (λt7 t8 wr=>∃(j:Nat),j<=n/\t8=.int .i64 j/\t7=.int .i64 (jw (cells (p.vars.take j)))/\(∀v∈p.vars.take j,¬v.name=s)/\al W wr) (λ_ t8 _=>n - (intOf t8).toNat)
 case atStart=>exact⟨0,de _,rfl,by simp [cells,eF],by simp,kR _ _⟩
 case round=>
  obtain⟨j,hj,rfl,rfl,AV,hx⟩:=hrel;have HX:=J hx;have BZ:=J AV;have eg:=bX hD.o hx;have fY:=eg.aJ;have gD:=bH eg;have gy:=eg.lt;have uP:=bC (bX hC.o hx);have hlc:=(bX hC.o hx).lt;clear hx AV
  by_cases aX:j<n
  .have ft:j<p.vars.length:=by have:=HN.o;omega
   have iI:(j:Int)<n:=by omega
   obtain rfl:=HA.o ad;refine MK ?_;intro aG jM hg' ie;obtain⟨x,gi⟩:=nm' (p.vars[j]);rw [<-gi]at hg';have hc0:=ql jM hg' ad;have iF:=J gi;have mP:=J (MY.o ad);clear aG gi
   by_cases hq:x.name=s
   .have hb:=pX hq
    have HQ:=J (Rc BZ.o ft adq);clear hq;go_upto_region 6 with(fail);have⟨HH,HG,EN,HDR⟩:=J4' jM hg' (bX hC.o HX.o) eg;clear jM hg' fY gD gy uP hlc hc0 eg;refine eW (λw1=>Kept (·=rb) wr w1) [(0,2),(1,2),(2,1),(3,2),(4,2),(5,1),(6,2),(7,0),(8,2)] ?_;refine eX ?_;have bT:=J (pj wr)
    repeat first|refine bV ?_|refine cF (Kept.ext bT.o) (by intro w1 hS;have d0:=bK EN.o hS mw.o;have d1:=bC d0;have d3:=d0.lt;have d4:=(jK (o:=off+j*4) (n:=4) hS ie mP.o).trans HH.o;have d5:=(iO (o:=off+j*4) (n:=4) hS ie mP.o).trans HG.o;have d6:=gw ie hS.size;exact fE) ?_|refine cD (Kept.ext bT.o) ?_
    have jG:=(bX HDR.o bT.o).aJ;have Wb:=bH (bX HDR.o bT.o);refine ap (λK hK=>?_);go_simp;refine hK.out _ _ (λ_=>Kept.putAt (Kept.ext bT.o) _ _ _ (λ_=>rfl)) ?_;clear hK K;refine fc ?_;go_wp21;refine BE results323 rfl rfl wi (by exact sB) (aj.cI (bX HDR.o bT.o) _ _) ⟨?_,?_⟩
    .obtain⟨q1,q2,q3⟩:=HQ.o
     unfold sV;rw [q1,q2,q3,<-iF.o,p_ (by rw [vR];omega)];simp [splice]
    .exact((dX.o.trans HX.o).trans bT.o).putAt _ _ _ (λaX=>absurd aX MA)
   .have hb:=nu hq
    have HQ:=J (R2 BZ.o ft adq);clear hq;go_wp21;refine kU (yq x _) λw1 aB=>?_;go_wp21;go_roundw
    case rel=>exact⟨j+1,aX,by go_num,by rw [nG ft,<-iF.o];simp only [iE],HQ.o,HX.o.trans aB⟩
    case measure=>simp only [intOf];omega
  .obtain rfl:j=n:=by omega
   go_wp21;refine BE results323 rfl rfl wi (by exact sB) (aj.cI eg _ _) ⟨?_,?_⟩
   .obtain⟨q1,q2,q3⟩:=Re (l:=p.vars) (s:=s) (by have h:=BZ.o;rw [HN.o,lf]at h;exact h)
    unfold sV;rw [q1,q2,q3];simp [splice,E0]
   .exact(dX.o.trans HX.o).putAt _ _ _ (λaX=>absurd aX MA)
def dV (w:World) (N:Nat) (A:Option Addr) (n:Nat) (l:List Str):Prop:=n=l.length/\n<=100/\∃b off,(0<n->A=some ⟨b,off,none⟩)/\(0<n->b<N/\Row w b off (l.map Value.string))
theorem dV.kept {S} {w w'} {N} {A} {n:Nat} {l:List Str} (h:dV w N A n l) (hk:Kept S w w') (hs:∀i,S i->N<=i):dV w' N A n l:=by
 obtain⟨h1,h2,b,off,h4,h5⟩:=h;exact⟨h1,h2,b,off,h4,λh0=>⟨(h5 h0).1,(h5 h0).2.kept hk (λq=>by have:=hs b q;have:=(h5 h0).1;omega)⟩⟩
theorem dV.ext {w w'} {N} {A} {n:Nat} {l:List Str} (h:dV w N A n l) (hk:al w w'):dV w' N A n l:=h.kept hk (λ_ f=>f.elim)
theorem dV.mono {w} {N N'} {A} {n:Nat} {l:List Str} (h:dV w N A n l) (hN:N<=N'):dV w N' A n l:=by
 obtain⟨h1,h2,b,off,h4,h5⟩:=h;exact⟨h1,h2,b,off,h4,λh0=>⟨gw (h5 h0).1 hN,(h5 h0).2⟩⟩
theorem DS {w} {b off:Nat} {l:List Str} (h:Row w b off (l.map Value.string)) (j:Nat) (hj:j<l.length):w.cell? ⟨b,off+j,none⟩=some (.string l[j]):=by
 rw [h.cell j (by simpa using hj)];simp [hj]
abbrev cQ (c:Pc) (A:Option Addr) (n k:Nat):Array Value:=#[.string c.name,.int .i64 c.aP,c.cd.v,c.vars.v,c.start.v,c.turn.v,c.params.v,c.ci.v,.string c.silent,c.quiet.v,c.bP.v,.slice A n k]
theorem nX (κ:Kn):bu κ []=κ:=by funext t;simp [bu]
theorem L4 (c) (p) (A) (n k) (l) (s:Str) (N:Nat) (w:World) (hN:N<=w.heap.size) (h:lZ w N c p) (hl:dV w N A n l):Calls prog 305 #[.agg (cQ c A n k),.string s] w λe w'=>e=.returned (.int .i64 (bu (fK p.vars) l s))/\al w w':=by
 obtain⟨r,hr⟩:=nm' (bu (fK p.vars) l s);rw [<-hr];have HR0:=J hr;clear hr;have aK:=dz w (.cells (cQ c A n k) 243);have hB:=bN w 243 (cQ c A n k);have HP:=J (h.ext aK hN);obtain⟨hn,hm,b,off,hA,hE⟩:=hl.ext aK;have⟨HN,HA,HE,vF⟩:=J4' hn hA hE (ay hN aK.size);clear hn hA hE h hl;go_enter func305,ntmps305;go_upto_region 1 with(fail);generalize hW:(w.alloc (.cells (cQ c A n k) 243))=W at aK hB HE HP vF⊢;clear hW;have dX:=J aK;generalize w.heap.size=pb at hB⊢;have hC:=J hB;clear hB aK;go_wp2_with fail
 go_loopw [5] (λt5 wr=>∃(j:Nat),j<=n/\t5=.int .i64 j/\(∀v∈l.take j,¬v=s)/\W=wr) (λt5 _=>n - (intOf t5).toNat)
 case atStart=>exact⟨0,de _,rfl,by simp,rfl⟩
 case round=>
  obtain⟨j,hj,rfl,AV,hw⟩:=hrel;subst hw;have BZ:=J AV;clear AV;have uP:=bC hC.o;have gy:=hC.o.lt
  by_cases aX:j<n
  .have ft:j<l.length:=by have:=HN.o;omega
   have iI:(j:Int)<n:=by omega
   obtain rfl:=HA.o ad;have aG:=(HE.o ad).2;have hc:=DS aG j ft;have ie:=aG.lt;obtain⟨x,gi⟩:=nm' (l[j]);rw [<-gi]at hc;have HX:=J gi;clear aG gi
   by_cases hq:x=s
   .have hb:=pX hq
    have HQ:=J hq;clear hq;go_wp2_with fail;go_ret;refine⟨cL ?_,dX.o⟩
    have:l.any (λt=>decide (t=s))=true:=by
     rw [List.any_eq_true];exact⟨x,by rw [HX.o];exact cK ft,cO HQ.o⟩
    rw [HR0.o];unfold bu;rw [av this]
    rfl
   .have hb:=nu hq
    exact aik
  .obtain rfl:j=n:=by omega
   have AV:l.any (λt=>decide (t=s))=false:=by
    rw [List.any_eq_false];intro v hv;have:=BZ.o v ahJ
    simpa using this
   have hrr:r=if p.vars.any (λv=>decide (v.name=s))=true then(if 0<(a_ p.vars s).size then 2 else 1)else 0:=by
    rw [HR0.o,<-Y7];unfold bu;rw [af (by rw [AV];exact Bool.false_ne_true)]
   have HR:=J hrr;clear AV hrr;have hgr:=bG hC.o;have gD:=bH hC.o;go_wp2_with fail;refine kU (UL c p s N _ vF.o HP.o) λw1 aB=>?_
   cases hq:p.vars.any (λv=>decide (v.name=s))
   .go_wp2_with fail
    go_ret;refine⟨cL ?_,?_⟩
    .have h:=HR.o;rw [hq]at h;rw [h];rfl
    .exact(dX.o.trans aB).alloc _
   .by_cases hz:0<(a_ p.vars s).size
    .go_wp2_with fail
     go_ret;refine⟨cL ?_,?_⟩
     .have h:=HR.o;rw [hq,av rfl,av ad]at h;rw [h];rfl
     .exact(dX.o.trans aB).alloc _
    .go_wp2_with fail
     go_ret;refine⟨cL ?_,?_⟩
     .have h:=HR.o;rw [hq,av rfl,af ad]at h;rw [h];rfl
     .exact(dX.o.trans aB).alloc _
theorem KD:prog.eqGuardType prog.depth 166=false:=by kernel_rfl
theorem Ma:prog.stoodInHeld 166=false:=by kernel_rfl
theorem KG:prog.eqGuardType prog.depth 225=false:=by kernel_rfl
theorem Mb:prog.stoodInHeld 225=false:=by kernel_rfl
theorem DX (s t:ByteArray):s.toList=t.toList↔s=t:=by
 rw [ByteArray.toList_eq,ByteArray.toList_eq];exact⟨λh=>Go.WideShapes.bytes_inj h,λh=>by rw [h]⟩
theorem XP (w) (a b) (s t):(Op.equalIn 10000 166 (.agg #[.int .i64 a,.string s]) (.agg #[.int .i64 b,.string t])).run prog w=.ok (a==b&&decide (s=t)) w:=by
 rw [Op.equalIn];simp [run_underlying underlying166,go_sem]
 by_cases h1:a=b<;>by_cases h2:s=t<;>simp [h1,h2,DX]
theorem XQ (w) (a b) (s t):(Op.equalIn 10000 225 (.agg #[.int .i64 a,.string s]) (.agg #[.int .i64 b,.string t])).run prog w=.ok (a==b&&decide (s=t)) w:=by
 rw [Op.equalIn];simp [run_underlying underlying225,go_sem]
 by_cases h1:a=b<;>by_cases h2:s=t<;>simp [h1,h2,DX]
attribute [go_sem] KD KG XP XQ
def gf:Option oq->Array Value
 |none=>#[.int .i64 0,.string ⟨#[]⟩]
 |some f=>#[.int .i64 f.e,.string f.name]
theorem TH:gf none=#[.int .i64 0,.string ⟨#[]⟩]:=rfl
theorem TI (e) (s:Str):gf (some ⟨e,s⟩)=#[.int .i64 e,.string s]:=rfl
attribute [go_sem] TH TI
def NZ (o:Option oq):Prop:=∀f,o=some f->¬f.e=0
theorem oF (a b:Nat):((a:Int)==(b:Int))=(a==b):=by rw [Bool.eq_iff_iff];simp;omega
theorem Pg {F M:World->Nat->Prop} {G:Prop} (h:(∀W g,F W g->M W g)->G) (h2:∀W g,F W g->M W g):G:=h h2
theorem NZ.none:NZ none:=λ_ h=>by cases h
theorem NZ.some {e} {s} (h:¬e=0):NZ (some ⟨e,s⟩):=λf hf=>by cases hf;exact h
theorem NZ.must {ok} {e} {s} (h:¬e=0):NZ (must ok e s):=by cases ok<;>simp only [bL,aT];exact NZ.some h;exact NZ.none
theorem NZ.ak {a b} (ha:NZ a) (hb:NZ b):NZ (ak a b):=by cases a<;>simp only [aY,aZ];exact hb;exact ha
theorem NZ.ite {c} [Decidable c] {a b} (ha:NZ a) (hb:NZ b):NZ (if c then a else b):=by split;exact ha;exact hb
theorem R3 (κ) (op n) (s) (k):NZ (jL κ op n s k):=by
 unfold jL;exact NZ.ak (NZ.must ae) (NZ.ite (NZ.must ae) (NZ.ite (NZ.ak (NZ.must ae) (NZ.must ae)) NZ.none))
theorem I_ (κ:Kn):∀F:EF,NZ (mB κ F)
 | .nil=>NZ.none
 | .cons op n s k r=>NZ.ak (NZ.ak (R3 κ op n s k.len) (I_ κ k)) (I_ κ r)
def Cs (κ:Kn) (op n:Int) (s:Str) (k:EF):Option oq:=ak (jL κ op n s k.len) (mB κ k)
theorem IY (κ) (op n) (s) (k):NZ (Cs κ op n s k):=NZ.ak (R3 κ op n s k.len) (I_ κ k)
theorem sX (κ) (op n) (s) (k r):mB κ (.cons op n s k r)=ak (Cs κ op n s k) (mB κ r):=rfl
abbrev afj (c:Pc) (κ:Kn) (A:Option Addr) (n k:Nat) (w:World) (F:EF):Prop:=∀(op m:Int) (s:Str) (B:Option Addr) (kn kc N:Nat) (w':World),al w w'->N<=w.heap.size->lJ w N B kn F->
 Calls prog 276 #[.agg (cQ c A n k),.agg (aF op m s B kn kc)] w' λe w2=>e=.returned (.agg (gf (Cs κ op m s F)))/\al w' w2
theorem UO (c) (p) (A) (n k) (l) (N:Nat) (w0:World) (hN:N<=w0.heap.size) (h:lZ w0 N c p) (hl:dV w0 N A n l) (F:EF):afj c (bu (fK p.vars) l) A n k w0 F:=by
 refine rP (C:=afj c (bu (fK p.vars) l) A n k w0) ?_ F;intro F IH op m s B kn kc N0 w aK Rs hes;obtain⟨X,hX⟩:=nm' (Cs (bu (fK p.vars) l) op m s F);rw [<-hX];obtain⟨r,hr⟩:=nm' (mB (bu (fK p.vars) l) F);have hX2:X=ak (jL (bu (fK p.vars) l) op m s kn) r:=by rw [hX,hr,hes.1];rfl
 have fN:=J hX2;have HEQ:=J hr.symm;clear hX hX2 hr;obtain⟨hn,hf,b,off,hA,hE⟩:=hes;refine zi ?_;intro hm HN HA HE;have⟨HI,HP,HL⟩:=J3' IH h hl;clear hn hA hE IH hf h hl;have aB:=((dz w (.cells (cQ c A n k) 243)).alloc (.cells (aF op m s B kn kc) 221)).alloc (.cells #[.int .i64 0,.string ⟨#[]⟩] 166);have V0:=((bN w 243 (cQ c A n k)).alloc (.cells (aF op m s B kn kc) 221)).alloc (.cells #[.int .i64 0,.string ⟨#[]⟩] 166);have vD:=(aj.d_ (w.alloc (.cells (cQ c A n k) 243)) 221 (aF op m s B kn kc) (w.heap.size+1) aC).alloc (.cells #[.int .i64 0,.string ⟨#[]⟩] 166);have gW:=aj.d_ ((w.alloc (.cells (cQ c A n k) 243)).alloc (.cells (aF op m s B kn kc) 221)) 166 #[.int .i64 0,.string ⟨#[]⟩] (w.heap.size+1+1) aC;go_enter func276,ntmps276;go_upto_region 1 with(fail);obtain⟨rb,pg⟩:=nm' (w.heap.size+1+1);obtain⟨eb,heb⟩:=nm' (w.heap.size+1);obtain⟨pb,zR⟩:=nm' w.heap.size;simp only [<-pg];rw [<-pg]at gW;simp only [<-heb];rw [<-heb]at vD;simp only [<-zR];rw [<-zR]at V0;have B_:=J (show w.heap.size<=rb by omega);generalize hW:(((w.alloc (.cells (cQ c A n k) 243)).alloc (.cells (aF op m s B kn kc) 221)).alloc (.cells #[.int .i64 0,.string ⟨#[]⟩] 166))=W at aB V0 vD gW⊢;clear hW pg heb zR;have⟨hK0,mf,fU,dX⟩:=J4' V0 vD gW aB;have zE:=bC vD;clear V0 vD gW aB;refine El ?_;intro bT
 cases jq:iX op 0 17
 .have HR:=J (show X=some ⟨3,E0⟩by rw [fN.o];unfold jL;rw [jq];rfl)
  refine adu ?_;refine xM ?_;refine ap (λK hK=>?_);go_simp;refine uW (qB _ _ _ _) ?_;rw [jq];refine hK.out _ _ (λ_=>bT.o) ?_;clear hK K;refine xM ?_;refine QG ?_;intro K hK;clear hK K;exact anf
 .refine adu ?_
  refine xM ?_;refine ap (λK hK=>?_);go_simp;refine uW (qB _ _ _ _) ?_;rw [jq];refine hK.out _ _ (λ_=>bT.o) ?_;clear hK K;refine xM ?_;refine ap (λK hK=>?_);go_simp;refine uW (I2 _ _) ?_;refine hK.out _ _ (λ_=>bT.o) ?_;clear hK K
  cases jF:((kn:Int)==(exprParts op:Int))
  .have Oj:((kn:Int) !=(exprParts op:Int))=true:=by unfold bne;rw [jF];rfl
   have HR:=J (show X=some ⟨3,E0⟩by rw [fN.o];unfold jL;rw [jq,<-oF,jF];rfl);exact anf
  .have Oj:((kn:Int) !=(exprParts op:Int))=false:=by unfold bne;rw [jF];rfl
   have gO:gq (X=ak (if op=0 then must (word m) 2 E0 else if op=1∨op=2 then ak (must (bu (fK p.vars) l s !=0) 6 s) (must ((bu (fK p.vars) l s==2)==(op==2)) 11 s)else none) r):=J (by rw [fN.o];unfold jL;rw [jq,<-oF,jF];rfl);refine xM ?_;refine fc ?_;have ys:=bT.o;clear jq jF Oj
   by_cases YF:op=0
   .subst YF
    have eK:gq (X=ak (must (word m) 2 E0) r):=J VB;clear gO;go_wp21;refine uW (jo _ _) ?_
    cases hw:word m
    .have HR:=J (show X=some ⟨2,E0⟩by rw [eK.o,hw];rfl)
     have yr:=ys;exact aaR
    .have mI:=J (show X=r by rw [eK.o,hw];rfl)
     exact zz6
   .have q0:(op==0)=false:=by simpa using YF
    by_cases zN:op=1
    .subst zN
     have eK:gq (X=ak (ak (must (bu (fK p.vars) l s !=0) 6 s) (must ((bu (fK p.vars) l s==2)==false) 11 s)) r):=J VB;clear gO;have yK:=bX hK0.o ys;have pH:=bG yK;have pI:=bH yK;have nZ:=yK.lt;go_wp21;refine aeD ?_;intro w1 hxs v hv HV yt abN;clear hv zE pH pI nZ yK
     by_cases jB:v=0
     .subst jB
      exact anp
     .have qv0:((v:Int)==0)=false:=by simp;omega
      by_cases Nj:v=2
      .subst Nj
       have HR:=J (show X=some ⟨11,s⟩by rw [eK.o,<-HV.o];rfl);exact ail
      .have LN:((v:Int)==2)=false:=by simp;omega
       have mI:=J (show X=r by rw [eK.o,<-HV.o];have h1:(v==0)=false:=(by simpa using jB);have h2:(v==2)=false:=(by simpa using Nj);simp [h1,h2,bne]);exact zz5
    .have q1:(op==1)=false:=by simpa using zN
     by_cases n9:op=2
     .subst n9
      have eK:gq (X=ak (ak (must (bu (fK p.vars) l s !=0) 6 s) (must ((bu (fK p.vars) l s==2)==true) 11 s)) r):=J VB;clear gO;have yK:=bX hK0.o ys;have pH:=bG yK;have pI:=bH yK;have nZ:=yK.lt;go_wp21;refine aeD ?_;intro w1 hxs v hv HV yt abN;clear hv zE pH pI nZ yK
      by_cases jB:v=0
      .subst jB
       exact anp
      .have qv0:((v:Int)==0)=false:=by simp;omega
       by_cases Nj:v=2
       .subst Nj
        have mI:=J (show X=r by rw [eK.o,<-HV.o];rfl);exact zz5
       .have LN:((v:Int)==2)=false:=by simp;omega
        have HR:=J (show X=some ⟨11,s⟩by rw [eK.o,<-HV.o];have h1:(v==0)=false:=(by simpa using jB);have h2:(v==2)=false:=(by simpa using Nj);simp [h1,h2,bne]);exact ail
     .have q2:(op==2)=false:=by simpa using n9
      have mI:=J (show X=r by rw [gO.o,af YF,af ad];rfl);exact zz6
def jU (c:Int):Bool:=(decide (97<=c)&&decide (c<=122))||(decide (65<=c)&&decide (c<=90))
def oW (c:Int):Bool:=decide (48<=c)&&decide (c<=57)
theorem qD (c:UInt8):jU (c.toNat:Int)=letter c:=by
 unfold jU letter;simp only [UInt8.le_iff_toNat_le];rw [Bool.eq_iff_iff];simp
 omega
theorem Tm (c:UInt8):oW (c.toNat:Int)=digit c:=by
 unfold oW digit;simp only [UInt8.le_iff_toNat_le];rw [Bool.eq_iff_iff];simp
 omega
theorem z_ (c) (w:World):Calls prog 269 #[.int .u8 c] w λe w'=>e=.returned (.bool (jU c))/\w=w':=by
 go_enter func269,ntmps269;go_wp21
 all_goals go_ret
 all_goals refine⟨aV ?_,rfl⟩
 all_goals (rw [Bool.eq_iff_iff];simp [jU];omega)
theorem PL (c) (w:World):Calls prog 270 #[.int .u8 c] w λe w'=>e=.returned (.bool (oW c))/\w=w':=by
 go_enter func270,ntmps270;go_wp21
 all_goals go_ret
 all_goals refine⟨aV ?_,rfl⟩
 all_goals (rw [Bool.eq_iff_iff];simp [oW];omega)
theorem Aa (c) (w:World):Calls prog 294 #[.int .u8 c] w λe w'=>e=.returned (.bool (jU c))/\w=w':=by
 go_enter func294,ntmps294;go_wp21
 all_goals go_ret
 all_goals refine⟨aV ?_,rfl⟩
 all_goals (rw [Bool.eq_iff_iff];simp [jU];omega)
theorem P4 (c) (w:World):Calls prog 318 #[.int .u8 c] w λe w'=>e=.returned (.bool (oW c))/\w=w':=by
 go_enter func318,ntmps318;go_wp21
 all_goals go_ret
 all_goals refine⟨aV ?_,rfl⟩
 all_goals (rw [Bool.eq_iff_iff];simp [oW];omega)
def uU (c:Int):Bool:=jU c||oW c||c==95
theorem Uc (c) (w:World):Calls prog 296 #[.int .u8 c] w λe w'=>e=.returned (.bool (uU c))/\w=w':=by
 go_enter func296,ntmps296;go_wp21;refine uW (Aa _ _) ?_
 cases hl:jU c
 .go_wp21
  refine uW (P4 _ _) ?_
  cases hd:oW c
  .go_wp21
   all_goals go_ret
   all_goals exact⟨aV (by unfold uU;simp [hl,hd]),rfl⟩
  .go_wp21
   all_goals go_ret
   all_goals exact⟨aV (by unfold uU;simp [hl,hd]),rfl⟩
 .go_wp21
  all_goals go_ret
  all_goals exact⟨aV (by unfold uU;simp [hl]),rfl⟩
def jV (s:Str):Bool:=decide (0<s.size)&&letter (s.data.getD 0 0)&&s.data.toList.all inner
theorem OV (s:Str):dv s=(jV s&&decide (s.size<=30)&&!(words.any (λt=>decide (t=s)))):=rfl
theorem yJ (c:UInt8):uU (c.toNat:Int)=inner c:=by
 unfold uU inner;rw [qD,Tm]
 congr 1
 rw [Bool.eq_iff_iff];simp only [beq_iff_eq];exact⟨λh=>UInt8.toNat_inj.1 (by simpa using(by omega:c.toNat=95)),λh=>by rw [h];rfl⟩
theorem Dh (s:Str):(!(ByteArray.toList s).isEmpty)=decide (0<s.size):=by
 rw [ByteArray.toList_eq,Bool.eq_iff_iff];have:s.data.toList.length=s.size:=Array.length_toList
 cases h:s.data.toList with
 |nil=>rw [h]at this;rw [<-this];simp
 |cons a b=>rw [h]at this;rw [<-this];simp
theorem DT {s:Str} (h:0<s.size):s.data.getD 0 0=s[0]:=by
 have h':0<s.data.size:=h;unfold Array.getD;rw [dif_pos h']
 rfl
theorem Uy {s} (h0) (h:letter s[0]=false):jV s=false:=by
 unfold jV;rw [DT h0,h];simp
theorem Zo {s} {i} (hi:i<s.size) (h:inner s[i]=false):jV s=false:=by
 unfold jV
 have:s.data.toList.all inner=false:=by
  rw [List.all_eq_false];exact⟨s[i],Array.mem_toList_iff.2 (Array.getElem_mem (xs:=s.data) hi),by rw [h];exact Bool.false_ne_true⟩
 rw [this,Bool.and_false]
theorem alF {s} (h0) (h1:letter s[0]=true) (h2:∀i (h:i<s.size),inner s[i]=true):jV s=true:=by
 unfold jV;rw [DT h0,h1,cO h0];simp only [rG,List.all_eq_true];intro x hx;obtain⟨i,hi,rfl⟩:=List.getElem_of_mem hx;exact h2 i (by simpa using hi)
theorem ZD (s:Str) (hs:s.size<=maxLen) (w):Calls prog 210 #[.string s] w λe w'=>e=.returned (.bool (jV s))/\w=w':=by
 have Nf:s.size<=9223372036854775807:=by unfold maxLen at hs;omega
 go_enter func210,ntmps210;go_wp21
 go_loopw [3] (λt3 wr=>∃(j:Nat),j<=s.size/\t3=.int .i64 j/\(∀i (h:i<s.size),i<j->inner s[i]=true)/\(∀h:0<s.size,0<j->letter s[0]=true)/\w=wr) (λt3 _=>s.size - (intOf t3).toNat)
 case atStart=>exact⟨0,de _,rfl,λi _ h=>by omega,λ_ h=>by omega,rfl⟩
 case round=>
  obtain⟨j,hj,rfl,h1,h2,hw⟩:=hrel;subst hw;have H1:=J h1;have H2:=J h2;clear h1 h2
  by_cases aX:j<s.size
  .have iI:(j:Int)<s.size:=by omega
   have hb:inner s[j]=(jU (s[j].toNat:Int)||oW (s[j].toNat:Int)||(s[j].toNat:Int)==95):=(yJ s[j]).symm;have agB:=qD s[j]
   by_cases hj0:j=0
   .subst hj0
    have HB:=J hb;have HLT:=J agB;clear hb agB;go_wp21;refine uW (z_ _ _) ?_
    cases hl:jU (s[0].toNat:Int)
    .have HNR:=J (Uy aX (by rw [<-HLT.o];exact hl))
     clear hl;go_wp21;go_ret;exact⟨aV HNR.o.symm,rfl⟩
    .have HL:=J hl
     go_wp21;go_roundw
     case rel=>exact⟨1,aX,rfl,λi hi h=>by
      obtain rfl:i=0:=by omega
      rw [HB.o,HL.o];rfl,λ_ _=>by rw [<-HLT.o];exact HL.o,by trivial⟩
     case measure=>simp only [intOf];omega
   .have q0:((j:Int)==0)=false:=by simp;omega
    have HB:=J hb;clear hb agB;go_wp21;refine uW (z_ _ _) ?_
    cases hl:jU (s[j].toNat:Int)
    .have HL:=J hl
     go_wp21;refine uW (PL _ _) ?_
     cases hd:oW (s[j].toNat:Int)
     .have HD:=J hd
      cases hu:((s[j].toNat:Int)==95)
      .have hun:((s[j].toNat:Int) !=95)=true:=by unfold bne;rw [hu];rfl
       have HNR:=J (Zo aX (by rw [HB.o,HL.o,HD.o,hu];rfl));go_wp21;go_ret;exact⟨aV HNR.o.symm,rfl⟩
      .have hun:((s[j].toNat:Int) !=95)=false:=by unfold bne;rw [hu];rfl
       have oN:=J (show inner s[j]=true by rw [HB.o,HL.o,HD.o,hu];rfl);exact aio
     .have oN:=J (show inner s[j]=true by rw [HB.o,HL.o,hd];rfl)
      exact aio
    .have oN:=J (show inner s[j]=true by rw [HB.o,hl];rfl)
     exact aio
  .obtain rfl:j=s.size:=by omega
   have HNR:=J (show jV s=decide (0<s.size)by
    by_cases h0:0<s.size
    .rw [alF h0 (H2.o h0 h0) (λi hi=>H1.o i hi hi),cO h0]
    .unfold jV;simp [h0])
   go_wp21;go_ret;exact⟨aV (by rw [HNR.o];exact Dh s),rfl⟩
theorem wR (l) (s:Str) (A:Option Addr) (n c N:Nat) (w:World) (h:dV w N A n l):Calls prog 211 #[.slice A n c,.string s] w λe w'=>e=.returned (.bool (l.any (λt=>decide (t=s))))/\w=w':=by
 obtain⟨hn,hm,b,off,hA,hE⟩:=h;have⟨HN,HA,HE⟩:=J3' hn hA hE;clear hn hA hE;go_enter func211,ntmps211;go_wp2_with fail
 go_loopw [5] (λt5 wr=>∃(j:Nat),j<=n/\t5=.int .i64 j/\(∀v∈l.take j,¬v=s)/\w=wr) (λt5 _=>n - (intOf t5).toNat)
 case atStart=>exact⟨0,de _,rfl,by simp,rfl⟩
 case round=>
  obtain⟨j,hj,rfl,AV,hw⟩:=hrel;subst hw;have BZ:=J AV;clear AV
  by_cases aX:j<n
  .have ft:j<l.length:=by have:=HN.o;omega
   have iI:(j:Int)<n:=by omega
   obtain rfl:=HA.o ad;have aG:=(HE.o ad).2;have hc:=DS aG j ft;have ie:=aG.lt;obtain⟨x,gi⟩:=nm' (l[j]);rw [<-gi]at hc;have HX:=J gi;clear aG gi
   by_cases hq:x=s
   .have hb:=pX hq
    have HQ:=J hq;clear hq;go_wp2_with fail;go_ret;refine⟨aV ?_,rfl⟩;rw [eq_comm,List.any_eq_true];exact⟨x,by rw [HX.o];exact cK ft,cO HQ.o⟩
   .have hb:=nu hq
    exact aik
  .obtain rfl:j=n:=by omega
   go_wp2_with fail;go_ret;refine⟨aV ?_,rfl⟩;rw [eq_comm,List.any_eq_false];intro v hv;have:=BZ.o v ahJ
   simpa using this
theorem P1 (w:World):Calls prog 212 #[] w λe w'=>al w w'/\∃A c,e=.returned (.slice A 23 c)/\dV w' w'.heap.size A 23 words:=by
 go_enter func212,ntmps212;go_wp21;go_ret;refine⟨dS w _,_,_,rfl,rfl,by omega,w.heap.size,0,λ_=>rfl,λ_=>⟨by simp,?_⟩⟩;exact Row.cR (bN w _ _)
theorem ml (s:Str) (hs:s.size<=maxLen) (w):Calls prog 144 #[.string s] w λe w'=>e=.returned (.bool (dv s))/\al w w':=by
 have Nf:s.size<=9223372036854775807:=by unfold maxLen at hs;omega
 rw [OV];obtain⟨r,hr⟩:=nm' ((jV s&&decide (s.size<=30)&&!(words.any (λt=>decide (t=s)))));rw [<-hr];have HR:=J hr;clear hr;go_enter func144,ntmps144;go_wp21;refine uW (ZD s hs _) ?_
 cases hn:jV s
 .have HF:=J (show r=false by rw [HR.o,hn];rfl)
  go_wp21;go_ret;exact⟨aV HF.o.symm,kR _ _⟩
 .by_cases hz:s.size<=30
  .have OH:(s.size:Int)<=30:=by omega
   have HF:=J (show r=!(words.any (λt=>decide (t=s)))by rw [HR.o,hn,cO hz];rfl);go_wp21;refine(P1 _).mono ?_;rintro e w1 ⟨aB,A,c,rfl,hS⟩;have HS:=J hS;clear hS;go_wp21;refine uW (wR words s _ _ _ _ _ HS.o) ?_;go_wp21;go_ret;exact⟨aV (by rw [HF.o]),aB⟩
  .have OH:¬(s.size:Int)<=30:=by omega
   have HF:=J (show r=false by rw [HR.o,cU hz];simp);go_wp21;go_ret;exact⟨aV HF.o.symm,kR _ _⟩
structure ew (w:World):Prop where
 sp : Lib.TabIs prog w "strings.asciiSpace" .u8 Lib.asciiSpaceTab
 sm:∀k,k<10->w.cell? ⟨2,k,none⟩=some (.int .i64 (stmtParts (k:Nat)))
 ex:∀k,k<18->w.cell? ⟨5,k,none⟩=some (.int .i64 (exprParts (k:Nat)))
 lt:5<w.heap.size
theorem ew.kept {S} {w w'} (h:ew w) (hk:Kept S w w') (hs:∀i,i<=5->¬S i):ew w':=by
 have h4:=h.lt;refine⟨?_,λk kh=>(Kept.cell hk (p:=⟨2,k,none⟩) (by show 2<_;omega) (hs 2 ad)).trans (h.sm k kh),λk kh=>(Kept.cell hk (p:=⟨5,k,none⟩) (by show 5<_;omega) (hs 5 ad)).trans (h.ex k kh),gw h.lt hk.size⟩;have hsp:=h.sp;unfold Lib.TabIs World.var? at hsp⊢
 rw [show prog.globalNamed "strings.asciiSpace" = some 1 by kernel_rfl] at hsp ⊢
 rw [<-hsp];simp [hk.block 1 ad (hs 1 ad)]
theorem ew.ext {w w'} (h:ew w) (hk:al w w'):ew w':=h.kept hk (λ_ _ f=>f)
def A_ (l:List Str):ByteArray->Option Value:=λt=>if l.any (λu=>decide (u=t))=true then some (.bool true)else none
theorem UZ (l) (x:Str):∀t,(λt=>if t=x then some (Value.bool true)else A_ l t) t=A_ (l++[x]) t:=by
 intro t;unfold A_;exact aiq
theorem UU (n) (w:World):(Instr.makeMap 340 (some (.int .i64 n))).run prog w=.ok (.map (some w.heap.size)) (w.alloc (.map #[] 0)):=by
 simp [Instr.makeMap,run_underlying underlying340,go_sem]
 try rfl
attribute [go_sem] UU
theorem Sb (l) (A) (n c N) (w) (hN:N<=w.heap.size) (h:dV w N A n l):Calls prog 291 #[.slice A n c] w λe w'=>al w w'/\∃g,e=.returned (.map (some g))/\w.heap.size<=g/\dt w' g (A_ l):=by
 obtain⟨hn,hm,b,off,hA,hE⟩:=h;have⟨HN,HA,HE⟩:=J3' hn hA hE;have hM:=dt.made w;have aK:=dz w (.map #[] 0);clear hn hA hE;go_enter func291,ntmps291;go_upto_region 3 with(fail);generalize hW:w.alloc (.map #[] 0)=W at hM aK⊢;clear hW;have⟨dX,HG,HM⟩:=J3' aK (show w.heap.size<=w.heap.size from eH _) hM;generalize mg:(w.heap.size:Nat)=g at hM HM HG⊢;have sM:=J mg;clear hM aK mg
 go_loopw [11] (λt11 wr=>∃(j:Nat),j<=n/\t11=.int .i64 j/\dt wr g (A_ (l.take j))/\Kept (·=g) W wr) (λt11 _=>n - (intOf t11).toNat)
 case atStart=>exact⟨0,de _,rfl,HM.o.nH (λt=>by simp [A_]),kR _ _⟩
 case round=>
  obtain⟨j,hj,rfl,hS,hx⟩:=hrel;have HS:=J hS;have HX:=J hx;clear hS hx
  by_cases aX:j<n
  .have ft:j<l.length:=by have:=HN.o;omega
   have iI:(j:Int)<n:=by omega
   obtain rfl:=HA.o ad;have Nb:b<w.heap.size:=by have:=(HE.o ad).1;omega
   have aG:=((HE.o ad).2.ext dX.o).kept HX.o (by have:=sM.o;omega);have hc:=DS aG j ft;have ie:=aG.lt;obtain⟨x,gi⟩:=nm' (l[j]);rw [<-gi]at hc;have iF:=J gi;clear aG gi;obtain⟨w',dr,zC,kh⟩:=dt.put (P:=prog) HS.o underlying340 underlying9 x (.bool true);have HS':=J zC;have Ns:=J kh;clear zC kh;go_wp21;go_roundw
   case rel=>exact⟨j+1,aX,by go_num,HS'.o.nH (λt=>by rw [mJ,List.getElem?_eq_getElem ft,<-iF.o];exact UZ (l.take j) x t),HX.o.trans Ns.o⟩
   case measure=>simp only [intOf];omega
  .obtain rfl:j=n:=by omega
   go_wp21;go_ret;have hS:=HS.o;rw [HN.o,lf]at hS;exact⟨dX.o.trans' HX.o (λi hi e=>by have:=sM.o;omega),g,rfl,by have:=sM.o;omega,hS⟩
def marks:List Str:=[⟨#[91]⟩,⟨#[93]⟩,⟨#[40]⟩,⟨#[41]⟩,⟨#[61]⟩,⟨#[33,61]⟩,⟨#[60]⟩,⟨#[60,61]⟩,⟨#[62]⟩,⟨#[62,61]⟩,⟨#[43]⟩,⟨#[45]⟩,⟨#[42]⟩,⟨#[47]⟩,⟨#[37]⟩,⟨#[44]⟩]
theorem Ga (s:ByteArray) (l:List Str) (n:Nat) (w:World) (h0:s.size<4294967281) (ha:s.data.toList.all (λb=>decide (b.toNat<128))=true) (hL:ew w) (hf:(Lib.fields s.data.toList).map (λx=>(⟨x.toArray⟩:Str))=l) (hn:l.length=n) (aoT:n<=100):
 Calls prog 317 #[.string s] w λe w'=>al w w'/\∃A c,e=.returned (.slice A n c)/\dV w' w'.heap.size A n l:=by
 refine(Go.Proofs.Tryz.strings_Fields s w h0 (λj b hb=>of_decide_eq_true (List.all_eq_true.1 ha b (List.mem_of_getElem? hb))) hL.sp).mono ?_;rintro e w' ⟨rfl,rfl⟩;have hlen:(Lib.fields s.data.toList).length=n:=by rw [<-hn,<-hf,fm]
 rw [hlen];refine⟨dS w _,_,_,rfl,hn.symm,aoT,w.heap.size,0,λ_=>rfl,λ_=>⟨by simp,?_⟩⟩;have hb:=Row.cR (bN w 9 ((Lib.fields s.data.toList).map λl=>Value.string ⟨l.toArray⟩).toArray);rw [<-hf,List.map_map];exact hb
theorem P' (w) (hL:ew w):Calls prog 292 #[] w λe w'=>al w w'/\∃A c,e=.returned (.slice A 23 c)/\dV w' w'.heap.size A 23 words:=by
 go_enter func292,ntmps292;go_wp21;refine(Ga _ words 23 _ ae ae hL ae rfl ad).mono ?_;rintro e w1 ⟨hx,A,c,rfl,hS⟩;go_wp21;go_ret;exact⟨hx,A,c,rfl,hS⟩
theorem P7 (w) (hL:ew w):Calls prog 293 #[] w λe w'=>al w w'/\∃A c,e=.returned (.slice A 16 c)/\dV w' w'.heap.size A 16 marks:=by
 go_enter func293,ntmps293;go_wp21;refine(Ga _ marks 16 _ ae ae hL ae rfl ad).mono ?_;rintro e w1 ⟨hx,A,c,rfl,hS⟩;go_wp21;go_ret;exact⟨hx,A,c,rfl,hS⟩
theorem Q6:gB prog 342=true:=by kernel_rfl
theorem L1:dw prog 342=some 2:=by kernel_rfl
attribute [go_sem] Q6 L1
theorem U' (w) (hL:ew w):Calls prog 245 #[] w λe w'=>al w w'/\∃g m,e=.returned (.agg #[.map (some g),m])/\dt w' g (A_ words):=by
 go_enter func245,ntmps245;go_wp21;have hR:=bN w 342 #[.map none,.map none];have aK:=dz w (.cells #[.map none,.map none] 342);refine(P' _ (hL.ext aK)).mono ?_;rintro e w1 ⟨aB,A,c,rfl,hS⟩;go_wp21;refine(Sb words _ _ _ _ _ (eH _) hS).mono ?_;rintro e w2 ⟨bM,g,rfl,hg,hM⟩;go_wp21;refine(P7 _ (hL.ext ((aK.trans aB).trans bM))).mono ?_;rintro e w3 ⟨ea,A2,c2,rfl,gX⟩;go_wp21;refine(Sb marks _ _ _ _ _ (eH _) gX).mono ?_;rintro e w4 ⟨eV,g2,rfl,RA,eE⟩;have hD:=bX hR (((aB.trans bM).trans ea).trans eV);have hm:=hD.aJ;have hh:=bH hD;go_wp21;refine bQ results245 rfl rfl Q6 (by exact L1) (aj.cI hD _ _) ?_;have hl:g<w2.heap.size:=hM.lt;have hw:w.heap.size<g:=by have h1:=aK.size;have h2:=aB.size;have:(w.alloc (.cells #[.map none,.map none] 342)).heap.size=w.heap.size+1:=aC;omega
 refine⟨((((aK.trans aB).trans bM).trans ea).trans eV).putAt _ _ _ (λh=>absurd h ad),g,.map (some g2),rfl,?_⟩;exact((hM.ext (ea.trans eV)).kept (Kept.putAt (S:=(·=w.heap.size)) (kR _ _) _ _ _ (λ_=>rfl)) ad)
theorem ZO (s:Str) (hs:s.size<=maxLen) (w:World):Calls prog 295 #[.string s,.func (.func 296) #[] #[]] w λe w'=>(∃t:Str,e=.returned (.string t)/\(t=s↔s.data.toList.all inner=true))/\w=w':=by
 have Nf:s.size<=9223372036854775807:=by unfold maxLen at hs;omega
 go_enter func295,ntmps295;go_wp21
 go_loopw [5] (λt5 wr=>∃(j:Nat),j<=s.size/\t5=.int .i64 j/\(∀i (h:i<s.size),i<j->inner s[i]=true)/\w=wr) (λt5 _=>s.size - (intOf t5).toNat)
 case atStart=>exact⟨0,de _,rfl,λi _ h=>by omega,rfl⟩
 case round=>
  obtain⟨j,hj,rfl,h1,hw⟩:=hrel;subst hw
  by_cases aX:j<s.size
  .have iI:(j:Int)<s.size:=by omega
   go_wp21;refine uW (Uc _ _) ?_
   cases hl:uU (s[j].toNat:Int)
   .have HL:=J (show inner s[j]=false by rw [<-yJ];exact hl)
    go_wp21;go_ret;refine⟨⟨_,rfl,λe=>?_,λe=>?_⟩,rfl⟩
    .have:=congrArg ByteArray.size e
     rw [ByteArray.size_extract]at this
     omega
    .have:=List.all_eq_true.1 e s[j] (Array.mem_toList_iff.2 (Array.getElem_mem (xs:=s.data) aX))
     rw [HL.o]at this
     cases this
   .have HL:=J (show inner s[j]=true by rw [<-yJ];exact hl)
    go_wp21;go_roundw
    case rel=>exact⟨j+1,aX,by go_num,λi hi h=>by
     by_cases e:i=j
     .subst e;exact HL.o
     .exact h1 i hi ad,by trivial⟩
    case measure=>simp only [intOf];omega
  .obtain rfl:j=s.size:=by omega
   go_wp21;go_ret;refine⟨⟨_,rfl,λ_=>?_,λ_=>rfl⟩,rfl⟩;rw [List.all_eq_true];intro x hx;obtain⟨i,hi,rfl⟩:=List.getElem_of_mem hx;exact h1 i (by simpa using hi) (by simpa using hi)
theorem VE (w:World):(zeroValue 4).run prog w=.ok (.bool false) w:=by
 first|kernel_rfl|rfl
theorem U6 (s:Str) (hs:s.size<=maxLen) (g:Nat) (m:Value) (w:World) (hM:dt w g (A_ words)):Calls prog 246 #[.agg #[.map (some g),m],.string s] w λe w'=>e=.returned (.bool (dv s))/\al w w':=by
 have Nf:s.size<=9223372036854775807:=by unfold maxLen at hs;omega
 obtain⟨r,hr⟩:=nm' (dv s);rw [<-hr];have ki:r=(decide (0<s.size)&&letter (s.data.getD 0 0)&&s.data.toList.all inner&&decide (s.size<=30)&&!(words.any (λt=>decide (t=s)))):=hr;have HR:=J ki;clear hr ki;have aK:=dz w (.cells #[.map (some g),m] 342);have hMx:=hM.ext aK;have ur:=dt.look (P:=prog) hMx underlying340 underlying9 (z:=.bool false) VE s;clear hM hMx
 by_cases h0:0<s.size
 .have hE:(ByteArray.toList s).isEmpty=false:=by have:=Dh s;rw [cO h0]at this;simpa using this
  have h0I:(0:Int)<s.size:=by omega
  have VP:=J (show s.data.getD 0 0=s[0]from DT h0);go_enter func246,ntmps246;go_wp21;refine uW (Aa _ _) ?_
  cases hl:jU (s[0].toNat:Int)
  .have HF:=J (show r=false by rw [HR.o,VP.o,<-qD,hl];simp)
   go_wp21;go_ret;exact⟨aV HF.o.symm,aK⟩
  .have HL:=J (show letter (s.data.getD 0 0)=true by rw [VP.o,<-qD,hl])
   go_wp21;refine(ZO s hs _).mono ?_;rintro e w1 ⟨⟨t,rfl,ht⟩,rfl⟩;have HT:=J ht;clear ht
   by_cases hts:t=s
   .have hb:=pX hts
    have HA:=J (HT.o.1 hts);clear hts
    by_cases hz:s.size<=30
    .have OH:(s.size:Int)<=30:=by omega
     have HF:=J (show r=!(words.any (λt=>decide (t=s)))by rw [HR.o,cO h0,HL.o,HA.o,cO hz];rfl)
     cases hw:words.any (λt=>decide (t=s))
     .have hq:A_ words s=none:=by unfold A_;rw [hw];rfl
      rw [hq]at ur;go_wp21;go_ret;exact⟨aV (by rw [HF.o,hw];rfl),aK⟩
     .have hq:A_ words s=some (.bool true):=by unfold A_;rw [hw];rfl
      rw [hq]at ur;go_wp21;go_ret;exact⟨aV (by rw [HF.o,hw];rfl),aK⟩
    .have OH:¬(s.size:Int)<=30:=by omega
     have HF:=J (show r=false by rw [HR.o,cU hz];simp);go_wp21;go_ret;exact⟨aV HF.o.symm,aK⟩
   .have hb:=nu hts
    have HA:=J (show s.data.toList.all inner=false by
     cases h:s.data.toList.all inner
     .rfl
     .exact absurd (HT.o.2 h) hts)
    clear hts;have HF:=J (show r=false by rw [HR.o,HA.o];simp);go_wp21;go_ret;exact⟨aV HF.o.symm,aK⟩
 .have hE:(ByteArray.toList s).isEmpty=true:=by have:=Dh s;rw [cU h0]at this;simpa using this
  have HF:=J (show r=false by rw [HR.o,cU h0];rfl);go_enter func246,ntmps246;go_wp21;go_ret;exact⟨aV HF.o.symm,aK⟩
theorem mq (s:Str) (hs:s.size<=maxLen) (w:World) (hL:ew w):Calls prog 195 #[.string s] w λe w'=>e=.returned (.bool (dv s))/\al w w':=by
 go_enter func195,ntmps195;go_wp21;refine(U' _ hL).mono ?_;rintro e w1 ⟨aB,g,m,rfl,hM⟩;go_wp21;refine kU (U6 s hs g m _ hM) λw2 bM=>?_;go_wp21;go_ret;exact⟨rfl,aB.trans bM⟩

