import Derived.Lib.AppendZeros
import Derived.Lib.LaidTab
import Derived.Test.YtnhelcmddjbafaaGreatDoorTpac
set_option maxHeartbeats 4000000
set_option maxRecDepth 100000
open Go.Proofs.Tryz
namespace Go.Proofs.YtnhelcmddjbafaaGreatDoor
open Go.RowKit Sq
variable{sz:Nat}
def tL (P:Program) (T E:TypeId) (sz bytes:Nat):Prop:=P.underlying T=some (.slice E)/\∃i z,P.info? E=some i/\i.zero=some z/\i.size=sz/\i.bytes=bytes/\z.cells.size=sz/\0<sz
theorem Ab {P:Program} {T E:TypeId} {bytes:Nat} (ht:P.underlying T=some (.slice E)) (h:(P.info? E).map (λi=>(i.zero.map (λz=>z.cells.size),i.size,i.bytes))=some (some sz,sz,bytes)) (h0:0<sz):tL P T E sz bytes:=by
 refine⟨ht,?_⟩
 cases hi:P.info? E with
 |none=>rw [hi]at h;cases h
 |some i=>
  rw [hi]at h;simp only [Option.map_some,Option.some.injEq,Prod.mk.injEq]at h;obtain⟨h1,h2,h3⟩:=h
  cases hz:i.zero with
  |none=>rw [hz]at h1;cases h1
  |some z=>
   rw [hz]at h1;simp only [Option.map_some,Option.some.injEq]at h1;exact⟨i,z,rfl,hz,h2,h3,h1,h0⟩
theorem L8 {α:Type} {f:α->Array Value} {P:Program} {T E:TypeId} {bytes:Nat} (hE:tL P T E sz bytes) (hf:∀d,(f d).size=sz) (D_:∀d,eB (f d).toList=true) (w:World) (base:Nat) (v:Value) (n:Nat) (xs:List α) (gp:w.ownsRow base E sz v n (bZ f xs))
 (b off m c:Nat) (l:List α) (hm:m=l.length) (hr:Row w b off (bZ f l)) (hn:(n+m)*bytes<=140737488355328) (gL:base<=w.heap.size) (h8:8<=bytes:=by omega):
 ∃v' w',(Builtin.append_ #[T,T] T #[v,.slice (some ⟨b,off,none⟩) m c]).run P w=.ok v' w'/\w'.ownsRow base E sz v' (n+m) (bZ f (xs++l))/\Kept (λi=>v.ownBlock=some i) w w'/\(∀i,v'.ownBlock=some i->v.ownBlock=some i∨w.heap.size<=i):=by
 obtain⟨ht,i,z,hi,hz,h1,h2,h3,h4⟩:=hE
 have zG:n+m<=maxLen:=by
  have:(n+m)*8<=(n+m)*bytes:=Nat.mul_le_mul_left _ h8;unfold maxLen
  omega
 have aen:=mU (NP D_ l);have hlen:(bZ f l).length=m*sz:=by rw [ja hf,hm]
 obtain⟨v',w',dz,ho,hg,_⟩:=run_append_own (P:=P) w base T T E i z sz bytes ht hi hz h1 h2 h3 h4 v n (bZ f xs) gp ⟨b,off,none⟩ m c (bZ f l) hlen hr.cells aen zG hn gL;rw [Fh]at ho;refine⟨v',w',dz,ho,Kept.pr hg,?_⟩
 rcases gp.2 with⟨rfl,rfl⟩|⟨g,cap,cV,rfl,YM,hgc,rB,vu,kL,pd⟩
 .have hx:bZ f xs=[]:=List.eq_nil_of_length_eq_zero (by simpa using gp.1)
  obtain⟨v2,w2,acv,mq,_,_⟩:=run_append_own (P:=P) w w.heap.size T T E i z sz bytes ht hi hz h1 h2 h3 h4 (.slice none 0 0) 0 [] (World.ownsRow_nil _ _ _ _) ⟨b,off,none⟩ m c (bZ f l) hlen hr.cells aen zG hn (cr _);rw [dz]at acv;injection acv with e1 e2;subst e1;subst e2;exact λi hi=>.inr (mq.lt i hi).1
 .by_cases acs:n+m<=cap
  .have iV:=run_append_room (P:=P) w T T E i ht hi g n cap cV hgc ⟨b,off,none⟩ m c (bZ f l) (by rw [h1];exact hlen) hr.cells aen acs (by rw [h1,hlen,kL,<-Nat.add_mul];exact Nat.mul_le_mul_right _ acs)
   rw [dz]at iV;injection iV with e1 e2;subst e1;exact λi hi=>.inl hi
  .have iV:=run_append_grow (P:=P) w T T E i z ht hi hz ⟨g,0,none⟩ n cap (bZ f xs) (by rw [h1];exact gp.1) (gp.cells (g:=g) rfl) ⟨b,off,none⟩ m c (bZ f l) (by rw [h1];exact hlen) hr.cells ad (by unfold maxLen at zG;omega) (growslice_fits ad (by rw [h2];exact hn))
   rw [dz]at iV;injection iV with e1 e2;subst e1;intro i hi;simp only [Value.ownBlock,Option.some.injEq]at hi;exact .inr ad
theorem aaD {w w':World} {T:TypeId} {v:Value} {n:Nat} {l:List Ec} {F:EF} (ho:w'.ownsRow w.heap.size T 4 v n (bZ Ec.cells l)) (he:li w' (λi=>w.heap.size<=i/\i<w'.heap.size/\¬v.ownBlock=some i) l F) (hn:n=F.len) (hf:Fits n 56) (hl:l.length=n):
 ∃A' c',Ending.returned v=.returned (.slice A' n c')/\wR w' (λi=>w.heap.size<=i/\i<w'.heap.size) A' n F:=by
 have Vx:=he.mono (D':=λi=>w.heap.size<=i/\i<w'.heap.size) (λi hi=>⟨hi.1,hi.2.1⟩)
 by_cases h0:0<n
 .obtain⟨g,c,rfl,hr,hg,_⟩:=fh ho h0 ad
  refine⟨some ⟨g,0,none⟩,c,rfl,hn,hf,g,0,λ_=>rfl,Vx.shut ⟨hg,hr.lt⟩ (λ_=>hr)⟩
 .obtain rfl:n=0:=by omega
  have hF:F=.nil:=by cases F with
   |nil=>rfl
   |cons _ _ _ _ _=>simp [EF.len]at hn
  exact ale
theorem aaE {w w':World} {T:TypeId} {v:Value} {n:Nat} {l:List Sc} {F:SF} (ho:w'.ownsRow w.heap.size T 7 v n (bZ Sc.cells l)) (he:lu w' (λi=>w.heap.size<=i/\i<w'.heap.size/\¬v.ownBlock=some i) l F) (hn:n=F.len) (hf:Fits n 112) (hl:l.length=n):
 ∃A' c',Ending.returned v=.returned (.slice A' n c')/\zy w' (λi=>w.heap.size<=i/\i<w'.heap.size) A' n F:=by
 have Vx:=he.mono (D':=λi=>w.heap.size<=i/\i<w'.heap.size) (λi hi=>⟨hi.1,hi.2.1⟩)
 by_cases h0:0<n
 .obtain⟨g,c,rfl,hr,hg,_⟩:=fh ho h0 ad
  refine⟨some ⟨g,0,none⟩,c,rfl,hn,hf,g,0,λ_=>rfl,Vx.shut ⟨hg,hr.lt⟩ (λ_=>hr)⟩
 .obtain rfl:n=0:=by omega
  have hF:F=.nil:=by cases F with
   |nil=>rfl
   |cons _ _ _ _ _ _ _ _=>simp [SF.len]at hn
  exact ale
theorem QS:tL prog 286 354 4 56:=Ab underlying286 aV ad
theorem QT:tL prog 161 288 7 112:=Ab underlying161 aV ad
theorem Jc:tL prog 160 232 4 40:=Ab underlying160 aV ad
theorem vf:tL prog 241 9 1 16:=Ab underlying241 aV ad
abbrev Ce (w:World) (F:EF):Prop:=∀(A:Option Addr) (n c N:Nat) (w':World),al w w'->N<=w.heap.size->me w N A n F->Calls prog 209 #[.slice A n c] w' λe w2=>al w' w2/\∃A' c',e=.returned (.slice A' n c')/\wR w2 (λi=>w'.heap.size<=i/\i<w2.heap.size) A' n F
theorem J5 (w0:World) (F:EF):Ce w0 F:=by
 refine rz (C:=Ce w0) ?_ F;intro F IH A n c N w aF hN h;obtain⟨hn,hf,b,off,hA,hE⟩:=h;have hm:=hf.max ad;have mB:=hf;unfold Fits at mB;have⟨HM,HF,HN,HA,HE,HI⟩:=J6' mB hf hn hA hE IH;clear hn hA hE IH hf mB;go_enter func209,ntmps209;go_wp2_with fail
 go_loopw [3,8] (λt3 t8 wr=>∃(j:Nat) (P R:EF) (l:List Ec),j+R.len=n/\P.app R=F/\l.length=j/\t8=.int .i64 j/\wr.ownsRow w.heap.size 354 4 t3 j (bZ Ec.cells l)/\li wr (λi=>w.heap.size<=i/\i<wr.heap.size/\¬t3.ownBlock=some i) l P/\mc w0 N R b (off+j*4)/\EF.wG (Ce w0) R/\al w wr) (λ_ t8 _=>n - (intOf t8).toNat)
 case atStart=>exact⟨0,.nil,F,[],by rw [HN.o,dT],rfl,rfl,rfl,World.ownsRow_nil _ _ _ _,trivial,by simpa using HE.o,HI.o,kR _ _⟩
 case round=>
  obtain⟨j,P,R,l,hj,bw,hlen,rfl,ho,hec,hR,hI,hx⟩:=hrel;have⟨HR,oD,HX,HO,HEC,wT,ca⟩:=J7' hR hI hx ho hec hlen bw;clear hR hI hx ho hec hlen bw
  cases R with
  |nil=>
   simp only [EF.len,eW]at hj;subst hj;have bw:=ca.o;rw [Bj]at bw;subst bw;go_wp2_with fail;go_ret;refine⟨HX.o,?_⟩;exact aaD HO.o HEC.o HN.o HF.o wT.o
  |cons op m name k r=>
   obtain⟨hb,h1,h2,h3,⟨A',cap,b',bL,hh,hg,hl,qK,hk⟩,hr⟩:=HR.o;simp only [EF.len]at hj;have aP:(j:Int)<n:=by omega
   obtain rfl:=HA.o ad;have iO:=aF.trans HX.o;refine Ee ?_;intro qB jx hg' gB;have⟨KE,IK,dS,qR,lm⟩:=J5' (show me w0 N A' k.len k from⟨rfl,hl,b',bL,qK,hk⟩) oD.o.1 iO hr (show br op/\br m/\name.size<=maxLen from⟨h1,h2,h3⟩);clear hh hg hl qK hk h1 h2 h3 HR qB iO hr hb;go_upto_region 5 with(fail);have y0:al wr _:=dM wr (.cells (bJ op m name A' k.len cap) 221);have hB:=bN wr 221 (bJ op m name A' k.len cap);have pW:∀i,u3.ownBlock=some i->w.heap.size<=i/\i<wr.heap.size:=HO.o.lt;have hpo:¬u3.ownBlock=some wr.heap.size:=λe=>by have:=(pW _ e).2;omega
   have hWs:(wr.alloc (.cells (bJ op m name A' k.len cap) 221)).heap.size=wr.heap.size+1:=by simp
   have FN:=J (aI HO.o y0);generalize hW:(wr.alloc (.cells (bJ op m name A' k.len cap) 221))=W at y0 hB hWs FN⊢;clear hW jx hg';have⟨Uq,qw,HPO,ji,HXr,HY,ZA⟩:=J7' hWs pW hpo (dS.o.trans y0) (HX.o.trans y0) y0 (show w.heap.size<=wr.heap.size from HX.o.size);clear hWs pW hpo y0 HX;obtain⟨pb,mV⟩:=nm' wr.heap.size;rw [<-mV]at hB⊢;have ku:=J mV;clear mV;have hC:=J hB;clear hB;refine fH (λw1=>Kept (λi=>u3.ownBlock=some i) W w1) [(0,2),(1,2),(2,1),(3,2),(4,1),(5,2),(6,1),(7,2),(8,1),(9,0),(10,2),(11,0),(12,0),(13,2)] ?_;refine fI ?_;refine abE ?_;intro cC
   repeat first|refine cx ?_|refine de (Kept.ext cC.o) abl ?_|refine dc (Kept.ext cC.o) ?_
   refine au (λK hK=>?_);go_simp;refine(IK.o _ _ _ N _ (ji.o.trans cC.o) hN KE.o).mono ?_;rintro e w1 ⟨aw,A1,c1,rfl,jZ⟩;have dQ:=J (cC.o.trans aw);have Ie:=J jZ;clear aw jZ;refine hK.out _ _ (λ_=>Kept.ext dQ.o) ?_;clear hK K;refine tj ?_;intro K hK;have y2:al W _:=dQ.o.alloc (.cells (bJ op m name A1 k.len c1) 354);have Dx:al w1 _:=dM w1 (.cells (bJ op m name A1 k.len c1) 354);have pJ:=Row.cF (bN w1 354 (bJ op m name A1 k.len c1));generalize Jq:(w1.alloc (.cells (bJ op m name A1 k.len c1) 354))=W2 at y2 Dx pJ⊢;clear Jq;refine hK.out _ _ (λ_=>Kept.ext y2) ?_;clear hK K
   repeat refine cx ?_
   obtain⟨v',w',dz,oL,jR,zH⟩:=L8 (f:=Ec.cells) QS (λ_=>rfl) (λ_=>rfl) W2 w.heap.size u3 j l (aI FN.o y2) w1.heap.size 0 1 1 [⟨op,m,name,A1,k.len,c1⟩] rfl pJ (by have:=HM.o;omega) (by have:=y2.size;have:=Uq.o;have:=ZA.o;omega);refine au (λK hK=>?_);refine Tp ?_;refine hK.out _ _ (λ_=>Kept.trans (Kept.ext y2) jR) ?_;clear hK K;refine fx ?_;go_wp2_with fail;go_roundw
   case rel=>
    have e1:=dQ.o.size;have e2:=Dx.size;have e3:=jR.size;have e4:=Uq.o;have e5:=ku.o;have e6:=ZA.o;have hxw:al w w':=(HXr.o.trans y2).trans' jR (λi hi e=>by have:=(qw.o i e).1;omega);refine⟨j+1,P.app (.cons op m name k .nil),r,l++[⟨op,m,name,A1,k.len,c1⟩],by omega,by rw [xV];exact ca.o,by rw [dn,wT.o];rfl,by go_num,oL,?_,by rw [Nat.add_mul,<-gw];exact qR.o,oD.o.2,hxw⟩;refine li.snoc ⟨rfl,rfl,rfl,lm.o.1,lm.o.2.1,lm.o.2.2,?_⟩ ?_
    .refine((Ie.o.kept Dx (λi hi=>⟨hi.2,λf=>f⟩)).kept jR (λi hi=>⟨by omega,λe=>by have:=(qw.o i e).2;have:=hi.1;have:=cC.o.size;omega⟩)).mono (λi hi=>?_)
     have:=cC.o.size;refine⟨by omega,by omega,λe=>?_⟩
     rcases zH i e with q|q
     .have:=(qw.o i q).2;omega
     .omega
    .refine((HEC.o.kept (HY.o.trans y2) (λi hi=>⟨hi.2.1,λf=>f⟩)).kept jR (λi hi=>⟨by omega,hi.2.2⟩)).mono (λi hi=>?_)
     refine⟨hi.1,by omega,λe=>?_⟩
     rcases zH i e with q|q
     .exact hi.2.2 q
     .omega
   case measure=>simp only [intOf];omega
abbrev Cf (w:World) (F:SF):Prop:=∀(A:Option Addr) (n c N:Nat) (w':World),al w w'->N<=w.heap.size->jm w N A n F->Calls prog 143 #[.slice A n c] w' λe w2=>al w' w2/\∃A' c',e=.returned (.slice A' n c')/\zy w2 (λi=>w'.heap.size<=i/\i<w2.heap.size) A' n F
theorem lL (w0:World) (F:SF):Cf w0 F:=by
 refine qh (C:=Cf w0) ?_ F;intro F IH A n c N w aF hN h;obtain⟨hn,hf,b,off,hA,hE⟩:=h;have hm:=hf.max ad;have mB:=hf;unfold Fits at mB;have⟨HM,HF,HN,HA,HE,HI⟩:=J6' mB hf hn hA hE IH;clear hn hA hE IH hf mB;go_enter func143,ntmps143;go_wp2_with fail
 go_loopw [3,8] (λt3 t8 wr=>∃(j:Nat) (P R:SF) (l:List Sc),j+R.len=n/\P.app R=F/\l.length=j/\t8=.int .i64 j/\wr.ownsRow w.heap.size 288 7 t3 j (bZ Sc.cells l)/\lu wr (λi=>w.heap.size<=i/\i<wr.heap.size/\¬t3.ownBlock=some i) l P/\nk w0 N R b (off+j*7)/\SF.wG (Cf w0) R/\al w wr) (λ_ t8 _=>n - (intOf t8).toNat)
 case atStart=>exact⟨0,.nil,F,[],by rw [HN.o,dT],rfl,rfl,rfl,World.ownsRow_nil _ _ _ _,trivial,by simpa using HE.o,HI.o,kR _ _⟩
 case round=>
  obtain⟨j,P,R,l,hj,bw,hlen,rfl,ho,hec,hR,hI,hx⟩:=hrel;have⟨HR,oD,HX,HO,HEC,wT,ca⟩:=J7' hR hI hx ho hec hlen bw;clear hR hI hx ho hec hlen bw
  cases R with
  |nil=>
   simp only [SF.len,eW]at hj;subst hj;have bw:=ca.o;rw [Cx]at bw;subst bw;go_wp2_with fail;go_ret;refine⟨HX.o,?_⟩;exact aaE HO.o HEC.o HN.o HF.o wT.o
  |cons kind name es low high q x r=>
   obtain⟨hb,h1,h2,h3,h4,⟨eA,ec,lA,lc,xA,xc,be,oe,bl,ol,bx,ox,hh,hg,n1,n2,n3,a1,a2,a3,he,hl,zL⟩,hr⟩:=HR.o;simp only [SF.len]at hj;have aP:(j:Int)<n:=by omega
   obtain rfl:=HA.o ad;have iO:=aF.trans HX.o;refine Ee ?_;intro qB jx hg' gB;have⟨KE,KL,KX,IL,IX,dS,qR,lm⟩:=J8' (show me w0 N eA es.len es from⟨rfl,n1,be,oe,a1,he⟩) (show jm w0 N lA q.len q from⟨rfl,n2,bl,ol,a2,hl⟩) (show jm w0 N xA x.len x from⟨rfl,n3,bx,ox,a3,zL⟩) oD.o.1 oD.o.2.1 iO hr (show br kind/\br low/\br high/\name.size<=maxLen from⟨h1,h2,h3,h4⟩);clear hh hg n1 n2 n3 a1 a2 a3 he hl zL h1 h2 h3 h4 HR qB iO hr hb;go_upto_region 5 with(fail);have y0:al wr _:=dM wr (.cells (aN kind name eA es.len ec low high lA q.len lc xA x.len xc) 223);have hB:=bN wr 223 (aN kind name eA es.len ec low high lA q.len lc xA x.len xc);have pW:∀i,u3.ownBlock=some i->w.heap.size<=i/\i<wr.heap.size:=HO.o.lt;have hpo:¬u3.ownBlock=some wr.heap.size:=λe=>by have:=(pW _ e).2;omega
   have hWs:(wr.alloc (.cells (aN kind name eA es.len ec low high lA q.len lc xA x.len xc) 223)).heap.size=wr.heap.size+1:=by simp
   have FN:=J (aI HO.o y0);generalize hW:(wr.alloc (.cells (aN kind name eA es.len ec low high lA q.len lc xA x.len xc) 223))=W at y0 hB hWs FN⊢;clear hW jx hg';have⟨Uq,qw,HPO,ji,HXr,HY,ZA⟩:=J7' hWs pW hpo (dS.o.trans y0) (HX.o.trans y0) y0 (show w.heap.size<=wr.heap.size from HX.o.size);clear hWs pW hpo y0 HX;obtain⟨pb,mV⟩:=nm' wr.heap.size;rw [<-mV]at hB⊢;have ku:=J mV;clear mV;have hC:=J hB;clear hB;refine fH (λw1=>Kept (λi=>u3.ownBlock=some i) W w1) [(0,2),(1,2),(2,1),(3,2),(4,1),(5,2),(6,1),(8,2),(9,1),(10,2),(11,1),(12,2),(13,1),(15,2),(16,1),(7,0),(14,0),(17,0),(18,2),(19,0),(20,0),(21,2)] ?_;refine fI ?_;refine abE ?_;intro cC
   repeat first|refine cx ?_|refine de (Kept.ext cC.o) abl ?_|refine dc (Kept.ext cC.o) ?_
   refine au (λK hK=>?_);go_simp;refine(J5 w0 es _ _ _ N _ (ji.o.trans cC.o) hN KE.o).mono ?_;rintro e w1 ⟨aw,A1,c1,rfl,jZ⟩;have dQ:=J (cC.o.trans aw);have Ie:=J jZ;clear aw jZ;refine hK.out _ _ (λ_=>Kept.ext dQ.o) ?_;clear hK K
   repeat refine cx ?_
   repeat first|refine cx ?_|refine de (Kept.ext dQ.o) abl ?_|refine dc (Kept.ext dQ.o) ?_
   refine au (λK hK=>?_);go_simp;refine(IL.o _ _ _ N _ (ji.o.trans dQ.o) hN KL.o).mono ?_;rintro e w2 ⟨bd,A2,c2,rfl,eV⟩;have⟨HZ2,fp,Eg⟩:=J3' bd (dQ.o.trans bd) eV;clear bd eV;refine hK.out _ _ (λ_=>Kept.ext fp.o) ?_;clear hK K
   repeat refine cx ?_
   repeat first|refine cx ?_|refine de (Kept.ext fp.o) abl ?_|refine dc (Kept.ext fp.o) ?_
   refine au (λK hK=>?_);go_simp;refine(IX.o _ _ _ N _ (ji.o.trans fp.o) hN KX.o).mono ?_;rintro e w3 ⟨dv,A3,c3,rfl,jq⟩;have⟨HZ3,fL,Lt⟩:=J3' dv (fp.o.trans dv) jq;clear dv jq;refine hK.out _ _ (λ_=>Kept.ext fL.o) ?_;clear hK K;refine tj ?_;intro K hK;have y2:al W _:=fL.o.alloc (.cells (aN kind name A1 es.len c1 low high A2 q.len c2 A3 x.len c3) 288);have Dx:al w3 _:=dM w3 (.cells (aN kind name A1 es.len c1 low high A2 q.len c2 A3 x.len c3) 288);have pJ:=Row.cF (bN w3 288 (aN kind name A1 es.len c1 low high A2 q.len c2 A3 x.len c3));generalize Jq:(w3.alloc (.cells (aN kind name A1 es.len c1 low high A2 q.len c2 A3 x.len c3) 288))=W2 at y2 Dx pJ⊢;clear Jq;refine hK.out _ _ (λ_=>Kept.ext y2) ?_;clear hK K
   repeat refine cx ?_
   obtain⟨v',w',dz,oL,jR,zH⟩:=L8 (f:=Sc.cells) QT (λ_=>rfl) (λ_=>rfl) W2 w.heap.size u3 j l (aI FN.o y2) w3.heap.size 0 1 1 [⟨kind,name,A1,es.len,c1,low,high,A2,q.len,c2,A3,x.len,c3⟩] rfl pJ (by have:=HM.o;omega) (by have:=y2.size;have:=Uq.o;have:=ZA.o;omega);refine au (λK hK=>?_);refine Tp ?_;refine hK.out _ _ (λ_=>Kept.trans (Kept.ext y2) jR) ?_;clear hK K;refine fx ?_;go_wp2_with fail;go_roundw
   case rel=>
    have e0:=cC.o.size;have e1:=dQ.o.size;have e7:=HZ2.o.size;have e8:=HZ3.o.size;have e2:=Dx.size;have e3:=jR.size;have e4:=Uq.o;have e5:=ku.o;have e6:=ZA.o;have hxw:al w w':=(HXr.o.trans y2).trans' jR (λi hi e=>by have:=(qw.o i e).1;omega)
    have s8:∀i,W.heap.size<=i->i<w3.heap.size->w.heap.size<=i/\i<w'.heap.size/\¬v'.ownBlock=some i:=λi h1 h2=>by
     refine⟨by omega,by omega,λe=>?_⟩
     rcases zH i e with q|q
     .have:=(qw.o i q).2;omega
     .omega
    have aex:∀i,W.heap.size<=i->¬u3.ownBlock=some i:=λi h1 e=>by have:=(qw.o i e).2;omega
    refine⟨j+1,P.app (.cons kind name es low high q x .nil),r,l++[⟨kind,name,A1,es.len,c1,low,high,A2,q.len,c2,A3,x.len,c3⟩],by omega,by rw [yL];exact ca.o,by rw [dn,wT.o];rfl,by go_num,oL,?_,by rw [Nat.add_mul,<-gw];exact qR.o,oD.o.2.2,hxw⟩;refine lu.snoc ⟨rfl,rfl,rfl,rfl,lm.o.1,lm.o.2.1,lm.o.2.2.1,lm.o.2.2.2,?_,?_,?_⟩ ?_
    .exact((Ie.o.kept ((HZ2.o.trans HZ3.o).trans Dx) (λi hi=>⟨hi.2,λf=>f⟩)).kept jR (λi hi=>⟨by omega,aex i ad⟩)).mono (λi hi=>s8 i ad ad)
    .exact((Eg.o.kept (HZ3.o.trans Dx) (λi hi=>⟨hi.2,λf=>f⟩)).kept jR (λi hi=>⟨by omega,aex i ad⟩)).mono (λi hi=>s8 i ad ad)
    .exact((Lt.o.kept Dx (λi hi=>⟨hi.2,λf=>f⟩)).kept jR (λi hi=>⟨by have:=fp.o.size;omega,aex i (by have:=fp.o.size;omega)⟩)).mono (λi hi=>s8 i (by have:=fp.o.size;omega) ad)
    .refine((HEC.o.kept (HY.o.trans y2) (λi hi=>⟨hi.2.1,λf=>f⟩)).kept jR (λi hi=>⟨by omega,hi.2.2⟩)).mono (λi hi=>?_)
     refine⟨hi.1,by omega,λe=>?_⟩
     rcases zH i e with q|q
     .exact hi.2.2 q
     .omega
   case measure=>simp only [intOf];omega
def DM (w:World) (D:Nat->Prop) (A:Option Addr) (n:Nat) (l:List Vr):Prop:=n=l.length/\Fits n 40/\(∀v∈l,adH v)/\∃b off,(0<n->A=some ⟨b,off,none⟩)/\(0<n->D b/\Row w b off (bZ aZ l))
theorem DM.at_ {w:World} {D:Nat->Prop} {N:Nat} {A:Option Addr} {n:Nat} {l:List Vr} (h:DM w D A n l) (hD:∀i,D i->i<N):ri w N A n l:=by
 obtain⟨h1,h2,h3,b,off,h4,h5⟩:=h;exact⟨h1,h2,h3,b,off,h4,λh0=>⟨hD _ (h5 h0).1,(h5 h0).2⟩⟩
theorem DM.kept {S:Nat->Prop} {w w':World} {D:Nat->Prop} {A:Option Addr} {n:Nat} {l:List Vr} (h:DM w D A n l) (hk:Kept S w w') (hD:∀i,D i->¬S i):DM w' D A n l:=by
 obtain⟨h1,h2,h3,b,off,h4,h5⟩:=h;exact⟨h1,h2,h3,b,off,h4,λh0=>⟨(h5 h0).1,(h5 h0).2.kept hk (hD _ (h5 h0).1)⟩⟩
theorem DM.ext {w w':World} {D:Nat->Prop} {A:Option Addr} {n:Nat} {l:List Vr} (h:DM w D A n l) (hk:al w w'):DM w' D A n l:=by
 obtain⟨h1,h2,h3,b,off,h4,h5⟩:=h;exact⟨h1,h2,h3,b,off,h4,λh0=>⟨(h5 h0).1,(h5 h0).2.ext hk⟩⟩
theorem aaF {w w':World} {T:TypeId} {v:Value} {n:Nat} {l:List Vr} (ho:w'.ownsRow w.heap.size T 4 v n (bZ aZ l)) (hn:n=l.length) (hf:Fits n 40) (hok:∀v∈l,adH v):
 ∃A' c',Ending.returned v=.returned (.slice A' n c')/\DM w' (λi=>w.heap.size<=i/\i<w'.heap.size) A' n l:=by
 by_cases h0:0<n
 .obtain⟨g,c,rfl,hr,hg,_⟩:=fh ho h0 ad
  exact⟨some ⟨g,0,none⟩,c,rfl,hn,hf,hok,g,0,λ_=>rfl,λ_=>⟨⟨hg,hr.lt⟩,hr⟩⟩
 .obtain rfl:n=0:=by omega
  rcases ho.2 with⟨hv,_⟩|⟨g,c,cV,hv,_⟩
  .exact⟨none,0,by rw [hv],hn,hf,hok,0,0,λq=>by omega,λq=>by omega⟩
  .exact⟨some ⟨g,0,none⟩,c,by rw [hv],hn,hf,hok,0,0,λq=>by omega,λq=>by omega⟩
section
variable {w:World} {N N':Nat} {A:Option Addr} {n:Nat}
include w N N' A n
theorem ri.mono {l:List Vr} (h:ri w N A n l) (hN:N<=N'):ri w N' A n l:=by
 obtain⟨h1,h2,h3,b,off,h4,h5⟩:=h;exact⟨h1,h2,h3,b,off,h4,λh0=>⟨gK (h5 h0).1 hN,(h5 h0).2⟩⟩
theorem Ut.mono {l:List Int} (h:Ut w N A n l) (hN:N<=N'):Ut w N' A n l:=by
 obtain⟨h1,h2,h3,b,off,h4,h5⟩:=h;exact⟨h1,h2,h3,b,off,h4,λh0=>⟨gK (h5 h0).1 hN,(h5 h0).2⟩⟩
end
section
variable {w w':World} {N:Nat} {A:Option Addr} {n:Nat}
include w w' N A n
theorem Ut.ext {l:List Int} (h:Ut w N A n l) (hk:al w w'):Ut w' N A n l:=h.kept hk (λ_ f=>f.elim)
theorem ri.ext {l:List Vr} (h:ri w N A n l) (hk:al w w'):ri w' N A n l:=h.kept hk (λ_ f=>f.elim)
end
theorem oB {w:World} {b off:Nat} {l:List Vr} (h:Row w b off (bZ aZ l)) (j:Nat) (hj:j<l.length):Proofs.YtnhelcmddjbafaaGreatDoor.has w b (off+j*4) 4=true/\gets w b (off+j*4) 4=aZ l[j]:=xE (f:=aZ) (k:=4) (λ_=>rfl) h j hj
theorem Cg (l:List Vr) (A:Option Addr) (n c N:Nat) (w:World) (_hN:N<=w.heap.size) (h:ri w N A n l):Calls prog 142 #[.slice A n c] w λe w2=>al w w2/\∃A' c',e=.returned (.slice A' n c')/\DM w2 (λi=>w.heap.size<=i/\i<w2.heap.size) A' n l:=by
 obtain⟨hn,hf,hok,b,off,hA,hE⟩:=h;have hm:=hf.max ad;have mB:=hf;unfold Fits at mB;have⟨HM,HF,HN,HA,HE,lm⟩:=J6' mB hf hn hA hE hok;clear hn hA hE hok hf mB;go_enter func142,ntmps142;go_wp21
 go_loopw [3,8] (λt3 t8 wr=>∃(j:Nat),j<=n/\t8=.int .i64 j/\wr.ownsRow w.heap.size 232 4 t3 j (bZ aZ (l.take j))/\al w wr) (λ_ t8 _=>n - (intOf t8).toNat)
 case atStart=>exact⟨0,cI _,rfl,World.ownsRow_nil _ _ _ _,kR _ _⟩
 case round=>
  obtain⟨j,hj,rfl,ho,hx⟩:=hrel;have HX:=J hx;have HO:=J ho;clear hx ho
  by_cases aP:j<n
  .have d_:j<l.length:=by have:=HN.o;omega
   have gD:(j:Int)<n:=by omega
   obtain rfl:=HA.o ad;have aE:=(HE.o ad).2.ext HX.o;obtain⟨jx,hg'⟩:=oB aE j d_;have gB:=aE.lt;obtain⟨x,fj⟩:=nm' (l[j]);rw [<-fj]at hg';have mX:l.take (j+1)=l.take j++[x]:=by rw [fj];simp
   have Ej:=J mX;clear aE fj mX;have y0:al wr _:=(dY wr (.cells (aZ x) 174)).alloc (.cells (aZ x) 232);obtain⟨v',w',dz,oL,jR,_⟩:=L8 (f:=aZ) Jc (λ_=>rfl) (λ_=>rfl) ((wr.alloc (.cells (aZ x) 174)).alloc (.cells (aZ x) 232)) w.heap.size u3 j (l.take j) (aI HO.o y0) (wr.heap.size+1) 0 1 1 [x] rfl (Row.cF (ai.ea _ _ _ _ aB)) (by have:=HM.o;omega) (by have:=y0.size;have:=HX.o.size;omega);rw [<-Ej.o]at oL;have HO':=J oL;have zv:=J (show al w w' from(HX.o.trans y0).trans' jR (λi hi e=>by have:=(HO.o.lt i e).1;omega));clear oL jR y0;go_upto_region 5 with(fail);go_step
   iterate 3 refine kE ?_
   refine cj rfl (.tmp 12) (.tmp 14) 160 rfl rfl rfl rfl dz ?_;clear dz;go_wp21;go_roundw
   case rel=>exact⟨j+1,aP,by go_num,HO'.o,zv.o⟩
   case measure=>simp only [intOf];omega
  .obtain rfl:j=n:=by omega
   go_wp21;go_ret;refine⟨HX.o,?_⟩;have ho:=HO.o;rw [HN.o,jr,<-HN.o]at ho;exact aaF ho HN.o HF.o lm.o
theorem Nu (c:Pc) (p:Pr) (N:Nat) (w:World) (hN:N<=w.heap.size) (h:nj w N c p):Calls prog 99 #[.agg c.cells] w λe w'=>al w w'/\∃c':Pc,e=.returned (.agg c'.cells)/\nj w' w'.heap.size c' p:=by
 refine X9 ?_;intro aF hB;have hP:=J (h.ext aF hN);have uE:=ax hN aF.size;clear h;go_enter func99,ntmps99;go_upto_region 1 with(fail);have hR:=bN (w.alloc (.cells c.cells 39)) 163 #[.string ⟨#[]⟩,.int .i64 0,.slice none 0 0,.slice none 0 0,.slice none 0 0,.slice none 0 0,.slice none 0 0,.slice none 0 0,.string ⟨#[]⟩,.slice none 0 0,.slice none 0 0];have hR':ai ((w.alloc (.cells c.cells 39)).alloc (.cells #[.string ⟨#[]⟩,.int .i64 0,.slice none 0 0,.slice none 0 0,.slice none 0 0,.slice none 0 0,.slice none 0 0,.slice none 0 0,.string ⟨#[]⟩,.slice none 0 0,.slice none 0 0] 163)) (w.heap.size+1) 163 #[.string ⟨#[]⟩,.int .i64 0,.slice none 0 0,.slice none 0 0,.slice none 0 0,.slice none 0 0,.slice none 0 0,.slice none 0 0,.string ⟨#[]⟩,.slice none 0 0,.slice none 0 0]:=by simpa using hR
 have aw:=aF.alloc (.cells #[.string ⟨#[]⟩,.int .i64 0,.slice none 0 0,.slice none 0 0,.slice none 0 0,.slice none 0 0,.slice none 0 0,.slice none 0 0,.string ⟨#[]⟩,.slice none 0 0,.slice none 0 0] 163);have hxq:=(kR (λ_=>False) (w.alloc (.cells c.cells 39))).alloc (.cells #[.string ⟨#[]⟩,.int .i64 0,.slice none 0 0,.slice none 0 0,.slice none 0 0,.slice none 0 0,.slice none 0 0,.slice none 0 0,.string ⟨#[]⟩,.slice none 0 0,.slice none 0 0] 163);have Ac:=J (hP.o.ext hxq uE);have wK:=bX hB hxq;have Re:=ax uE hxq.size;generalize hW:((w.alloc (.cells c.cells 39)).alloc (.cells #[.string ⟨#[]⟩,.int .i64 0,.slice none 0 0,.slice none 0 0,.slice none 0 0,.slice none 0 0,.slice none 0 0,.slice none 0 0,.string ⟨#[]⟩,.slice none 0 0,.slice none 0 0] 163))=W at aw wK Ac Re hR'⊢;clear hW aF hB hP uE hR hxq;have wW:=J (show¬w.heap.size=w.heap.size+1 by omega);generalize mC:w.heap.size+1=rb at hR' wW⊢;generalize mV:w.heap.size=pb at wK wW mC⊢;have ji:=J aw;have AB:=J (show w.heap.size<=rb by omega);clear aw mV mC;have hC:=J wK;have hD:=J hR';clear wK hR';refine fH (λw1=>Kept (·=rb) W w1) [(0,2),(1,1),(2,2),(3,1),(4,2),(5,1),(6,2),(7,1),(9,2),(10,1),(12,2),(13,1),(15,2),(16,1),(18,2),(19,1),(21,2),(22,1),(23,2),(24,1),(26,2),(27,1),(8,0),(11,0),(14,0),(17,0),(20,0),(25,0),(28,0),(29,2),(30,0)] ?_;refine fI ?_;refine abE ?_;intro cC
 repeat first|refine cx ?_|refine de (Kept.ext cC.o) Ot ?_|refine dc (Kept.ext cC.o) ?_
 refine au (λK hK=>?_);go_simp;refine(Cg p.vars _ _ _ N _ (ax Re cC.o.size) (Ac.o.vars.ext cC.o)).mono ?_;rintro e w1 ⟨aw,A1,c1,rfl,jZ⟩;have⟨nh,dQ,Ie⟩:=J3' aw (cC.o.trans aw) jZ;clear aw jZ;refine hK.out _ _ (λ_=>Kept.ext dQ.o) ?_;clear hK K
 repeat refine cx ?_
 repeat first|refine cx ?_|refine de (Kept.ext dQ.o) Ot ?_|refine dc (Kept.ext dQ.o) ?_
 refine au (λK hK=>?_);go_simp;refine(lL _ p.start _ _ _ N _ (kR _ _) (ax Re dQ.o.size) (Ac.o.start.ext dQ.o Re)).mono ?_;rintro e w2 ⟨aw,A2,c2,rfl,jZ⟩;have⟨HZ2,fp,Eg⟩:=J3' aw (dQ.o.trans aw) jZ;clear aw jZ;refine hK.out _ _ (λ_=>Kept.ext fp.o) ?_;clear hK K
 repeat refine cx ?_
 repeat first|refine cx ?_|refine de (Kept.ext fp.o) Ot ?_|refine dc (Kept.ext fp.o) ?_
 refine au (λK hK=>?_);go_simp;refine(lL _ p.turn _ _ _ N _ (kR _ _) (ax Re fp.o.size) (Ac.o.turn.ext fp.o Re)).mono ?_;rintro e w3 ⟨aw,A3,c3,rfl,jZ⟩;have⟨HZ3,fL,Lt⟩:=J3' aw (fp.o.trans aw) jZ;clear aw jZ;refine hK.out _ _ (λ_=>Kept.ext fL.o) ?_;clear hK K
 repeat refine cx ?_
 repeat first|refine cx ?_|refine de (Kept.ext fL.o) Ot ?_|refine dc (Kept.ext fL.o) ?_
 refine au (λK hK=>?_);go_simp;refine(Cg p.params _ _ _ N _ (ax Re fL.o.size) (Ac.o.params.ext fL.o)).mono ?_;rintro e w4 ⟨aw,A4,c4,rfl,jZ⟩;have⟨HZ4,lp,wS⟩:=J3' aw (fL.o.trans aw) jZ;clear aw jZ;refine hK.out _ _ (λ_=>Kept.ext lp.o) ?_;clear hK K
 repeat refine cx ?_
 repeat first|refine cx ?_|refine de (Kept.ext lp.o) Ot ?_|refine dc (Kept.ext lp.o) ?_
 refine au (λK hK=>?_);go_simp;refine(lL _ p.cd _ _ _ N _ (kR _ _) (ax Re lp.o.size) (Ac.o.cd.ext lp.o Re)).mono ?_;rintro e w5 ⟨aw,A5,c5,rfl,jZ⟩;have⟨HZ5,uJ,uz⟩:=J3' aw (lp.o.trans aw) jZ;clear aw jZ;refine hK.out _ _ (λ_=>Kept.ext uJ.o) ?_;clear hK K
 repeat refine cx ?_
 repeat first|refine cx ?_|refine de (Kept.ext uJ.o) Ot ?_|refine dc (Kept.ext uJ.o) ?_
 refine au (λK hK=>?_);go_simp;refine(lL _ p.quiet _ _ _ N _ (kR _ _) (ax Re uJ.o.size) (Ac.o.quiet.ext uJ.o Re)).mono ?_;rintro e w6 ⟨aw,A6,c6,rfl,jZ⟩;have⟨HZ6,wJ,FJ⟩:=J3' aw (uJ.o.trans aw) jZ;clear aw jZ;refine hK.out _ _ (λ_=>Kept.ext wJ.o) ?_;clear hK K
 repeat refine cx ?_
 repeat first|refine cx ?_|refine de (Kept.ext wJ.o) Ot ?_|refine dc (Kept.ext wJ.o) ?_
 refine au (λK hK=>?_);go_simp;refine(lL _ p.bO _ _ _ N _ (kR _ _) (ax Re wJ.o.size) (Ac.o.bO.ext wJ.o Re)).mono ?_;rintro e w7 ⟨aw,A7,c7,rfl,jZ⟩;have⟨HZ7,El,HK7⟩:=J3' aw (wJ.o.trans aw) jZ;clear aw jZ;refine hK.out _ _ (λ_=>Kept.ext El.o) ?_;clear hK K
 repeat refine cx ?_
 have dW:=bX hD.o El.o;have hm:=ai.aC dW;have hh:=bH dW;refine au (λK hK=>?_);go_simp;refine hK.out _ _ (λ_=>Kept.putAt (Kept.ext El.o) _ _ _ (λ_=>rfl)) ?_;clear hK K;refine fx ?_;go_wp21;refine bu results99 rfl rfl uS (by exact sN) (ai.cw dW _ _) ?_;refine⟨(ji.o.trans El.o).putAt _ _ _ (λaP=>absurd aP K8),⟨c.name,c.aL,c.bY,⟨A1,c.vars.n,c1⟩,⟨A2,c.start.n,c2⟩,⟨A3,c.turn.n,c3⟩,⟨A4,c.params.n,c4⟩,⟨A5,c.cd.n,c5⟩,c.silent,⟨A6,c.quiet.n,c6⟩,⟨A7,c.bO.n,c7⟩⟩,rfl,?_⟩;have Pp:Kept (·=rb) w7 (putAt w7 rb 0 #[.string c.name,.int .i64 c.aL,c.bY.v,.slice A1 c.vars.n c1,.slice A2 c.start.n c2,.slice A3 c.turn.n c3,.slice A4 c.params.n c4,.slice A5 c.cd.n c5,.string c.silent,.slice A6 c.quiet.n c6,.slice A7 c.bO.n c7]):=Kept.putAt (kR _ _) _ _ _ (λ_=>rfl);have MP:=Pp.size;have E6:=HZ7.o;have E5:=HZ6.o.trans E6;have E4:=HZ5.o.trans E5;have E3:=HZ4.o.trans E4;have E2:=HZ3.o.trans E3;have E1:=HZ2.o.trans E2;have k0:=cC.o.size;have k1:=dQ.o.size;have k2:=fp.o.size;have k3:=fL.o.size;have k4:=lp.o.size;have k5:=uJ.o.size;have k6:=wJ.o.size;have k7:=El.o.size;have s1:=E1.size;have s2:=E2.size;have s3:=E3.size;have s4:=E4.size;have s5:=E5.size;have s6:=E6.size;have mC:=hD.o.lt;have hNr:N<=rb:=ax hN AB.o;refine⟨Ac.o.name,Ac.o.B7,Ac.o.aL,Ac.o.An,((Ac.o.bY.ext El.o).kept Pp (λi e=>by omega)).mono ad,?_,?_,?_,?_,?_,Ac.o.silent,Ac.o.rL,?_,?_⟩
 .exact((Ie.o.ext E1).kept Pp (λi hi e=>by omega)).at_ (λi hi=>by omega)
 .exact((Eg.o.kept E2 (λi hi=>⟨hi.2,λf=>f⟩)).kept Pp (λi hi=>⟨by omega,by omega⟩)).at_ (λi hi=>by omega)
 .exact((Lt.o.kept E3 (λi hi=>⟨hi.2,λf=>f⟩)).kept Pp (λi hi=>⟨by omega,by omega⟩)).at_ (λi hi=>by omega)
 .exact((wS.o.ext E4).kept Pp (λi hi e=>by omega)).at_ (λi hi=>by omega)
 .exact((uz.o.kept E5 (λi hi=>⟨hi.2,λf=>f⟩)).kept Pp (λi hi=>⟨by omega,by omega⟩)).at_ (λi hi=>by omega)
 .exact((FJ.o.kept E6 (λi hi=>⟨hi.2,λf=>f⟩)).kept Pp (λi hi=>⟨by omega,by omega⟩)).at_ (λi hi=>by omega)
 .exact(HK7.o.kept Pp (λi hi=>⟨hi.2,by omega⟩)).at_ (λi hi=>by omega)
attribute [go_sem] i_.v
theorem vh (l:List Vr) (s:Str) (A:Option Addr) (n c N:Nat) (w:World) (h:ri w N A n l):Calls prog 213 #[.slice A n c,.string s] w λe w'=>e=.returned (.bool (l.any (λv=>decide (v.name=s))))/\w=w':=by
 obtain⟨hn,hf,hok,b,off,hA,hE⟩:=h;refine xP ?_;intro hm HN HA HE;clear hn hA hE hok hf;go_enter func213,ntmps213;go_wp2_with fail
 go_loopw [5] (λt5 wr=>∃(j:Nat),j<=n/\t5=.int .i64 j/\(∀v∈l.take j,¬v.name=s)/\w=wr) (λt5 _=>n - (intOf t5).toNat)
 case atStart=>exact⟨0,cI _,rfl,by simp,rfl⟩
 case round=>
  obtain⟨j,hj,rfl,Dr,hw⟩:=hrel;subst hw;have AA:=J Dr;clear Dr
  by_cases aP:j<n
  .have d_:j<l.length:=by have:=HN.o;omega
   have gD:(j:Int)<n:=by omega
   obtain rfl:=HA.o ad;have aE:=(HE.o ad).2;obtain⟨jx,hg'⟩:=oB aE j d_;have hc:=pQ jx hg' ad;obtain⟨x,fj⟩:=nm' (l[j]);rw [<-fj]at hc;have HX:=J fj;clear aE fj jx hg'
   by_cases hq:x.name=s
   .have hb:=pF hq
    have HQ:=J hq;clear hq;go_wp2_with fail;go_ret;refine⟨aR ?_,rfl⟩;rw [eq_comm,List.any_eq_true];exact⟨x,by rw [HX.o];exact ed d_,cJ HQ.o⟩
   .have hb:=na hq
    exact afS
  .obtain rfl:j=n:=by omega
   go_wp2_with fail;go_ret;refine⟨aR ?_,rfl⟩;rw [eq_comm,List.any_eq_false];intro v hv;have:=AA.o v afy
   simpa using this
theorem Ev:∀a b:List Vr,cells (a++b)=cells a+cells b
 |[],b=>by simp [cells]
 |v::a,b=>by simp [cells,Ev a b];omega
theorem QD (v:Vr):1<=Sq.fq v/\Sq.fq v<=64:=by unfold Sq.fq;split<;>omega
theorem I5:∀l:List Vr,0<=cells l/\cells l<=64*l.length
 |[]=>by simp [cells]
 |v::l=>by
  have:=I5 l;have:=QD v;simp only [cells,iQ]
  omega
theorem nt {l:List Vr} {j:Nat} (h:j<l.length):cells (l.take (j+1))=cells (l.take j)+Sq.fq l[j]:=by
 rw [lq,List.getElem?_eq_getElem h,Ev];simp [cells]
theorem pI {l:List Vr} (h:l.length<=17592186044416):jc (cells l)=cells l:=by
 have:=I5 l;simp only [eu]
 omega
def gT (l:List Vr) (s:Str):Int:=if l.any (λv=>decide (v.name=s))=true then cells (l.takeWhile (λv=>!decide (v.name=s)))else 0
def iS (l:List Vr) (s:Str):Vr:=(l.find? (λv=>decide (v.name=s))).getD ⟨E0,0,0,0⟩
theorem Oe {α:Type} (p:α->Bool) (b:List α):∀(a:List α) (x:α) (_:∀v∈a,p v=false) (_:p x=true),(a++x::b).takeWhile (λv=>!p v)=a/\(a++x::b).find? p=some x
 |[],x,_,hx=>by simp [hx]
 |y::a,x,h,hx=>by
  have hy:=h y aB;obtain⟨h1,h2⟩:=Oe p b a x (λv hv=>h v (by simp [hv])) hx;exact⟨by simp [hy,h1],by simp [hy,h2]⟩
theorem OW:∀{l:List Vr} {j:Nat} {s:Str} (_:∀v∈l.take j,¬v.name=s) (hj:j<l.length) (_:l[j].name=s),gT l s=cells (l.take j)/\iS l s=l[j]/\l.any (λv=>decide (v.name=s))=true:=by
 intro l j s h hj hq;have hsp:l=l.take j++l[j]::l.drop (j+1):=by rw [<-q_ hj,List.take_append_drop]
 have tY:l.any (λv=>decide (v.name=s))=true:=by
  rw [List.any_eq_true];exact⟨l[j],ed hj,cJ hq⟩
 have htw:l.takeWhile (λv=>!decide (v.name=s))=l.take j:=by
  have:=Oe (λv:Vr=>decide (v.name=s)) (l.drop (j+1)) (l.take j) l[j] (λv hv=>by simpa using h v hv) (by simpa using hq);rw [<-hsp]at this;exact this.1
 have hfd:l.find? (λv=>decide (v.name=s))=some l[j]:=by
  have:=Oe (λv:Vr=>decide (v.name=s)) (l.drop (j+1)) (l.take j) l[j] (λv hv=>by simpa using h v hv) (by simpa using hq);rw [<-hsp]at this;exact this.2
 exact⟨by unfold gT;rw [ak tY,htw],by unfold iS;rw [hfd];rfl,tY⟩
theorem OX {l:List Vr} {s:Str} (h:∀v∈l,¬v.name=s):gT l s=0/\iS l s=⟨E0,0,0,0⟩/\l.any (λv=>decide (v.name=s))=false:=by
 have tY:l.any (λv=>decide (v.name=s))=false:=by
  rw [List.any_eq_false];intro v hv;simpa using h v hv
 refine⟨by unfold gT;rw [tY];rfl,?_,tY⟩;unfold iS;rw [List.find?_eq_none.2 (λv hv=>by simpa using h v hv)]
 rfl
theorem Wg (l:List Vr) (s:Str):fm l s=if l.any (λv=>decide (v.name=s))=true then(if 0<(iS l s).size then 2 else 1)else 0:=by
 unfold fm iS
 cases hf:l.find? (λv=>decide (v.name=s))with
 |none=>
  have:l.any (λv=>decide (v.name=s))=false:=by
   rw [List.any_eq_false];intro v hv;exact List.find?_eq_none.1 hf v hv
  rw [this];rfl
 |some v=>
  have:l.any (λv=>decide (v.name=s))=true:=by
   rw [List.any_eq_true];exact⟨v,List.mem_of_find?_eq_some hf,List.find?_some (p:=λv:Vr=>decide (v.name=s)) hf⟩
  rw [ak this];rfl
theorem PO {l:List Vr} {j:Nat} {s:Str} (h:∀v∈l.take j,¬v.name=s) (hj:j<l.length) (hq:¬l[j].name=s):∀v∈l.take (j+1),¬v.name=s:=by
 intro v hv;rw [lq,List.getElem?_eq_getElem hj]at hv;simp only [Option.toList_some,lr,List.mem_singleton]at hv
 rcases hv with hv|rfl
 .exact h v hv
 .exact hq
theorem Cv (c:Pc) (p:Pr) (N:Nat) (w:World) (_hN:N<=w.heap.size) (h:nj w N c p):Calls prog 139 #[.agg c.cells] w λe w'=>e=.returned (.int .i64 (cells p.vars))/\al w w':=by
 obtain⟨cn,jY,ld,⟨A,n,cc⟩,cs,ct,ry,iD,mj,cq,oH⟩:=c;have aF:=dY w (.cells (Pc.cells ⟨cn,jY,ld,⟨A,n,cc⟩,cs,ct,ry,iD,mj,cq,oH⟩) 163);obtain⟨hn,hf,hok,b,off,hA,hE⟩:=h.vars.ext aF;refine xP ?_;intro hm HN HA HE;have dS:=J aF;clear hn hA hE hok hf h;go_enter func139,ntmps139;go_wp21
 go_loopw [3,9] (λt3 t9 wr=>∃(j:Nat),j<=n/\t9=.int .i64 j/\t3=.int .i64 (jc (cells (p.vars.take j)))/\al (w.alloc (.cells (Pc.cells ⟨cn,jY,ld,⟨A,n,cc⟩,cs,ct,ry,iD,mj,cq,oH⟩) 163)) wr) (λ_ t9 _=>n - (intOf t9).toNat)
 case atStart=>exact⟨0,cI _,rfl,by simp [cells,eu],kR _ _⟩
 case round=>
  obtain⟨j,hj,rfl,rfl,hx⟩:=hrel;have HX:=J hx;clear hx
  by_cases aP:j<n
  .have d_:j<p.vars.length:=by have:=HN.o;omega
   have gD:(j:Int)<n:=by omega
   obtain rfl:=HA.o ad;refine X8 ?_;intro jx gB x hg' gZ;have y0:al wr _:=dY wr (.cells (aZ x) 232);go_wp21;refine aoS (Kx x _) λw1 aw=>?_;go_wp21;go_roundw
   case rel=>exact⟨j+1,aP,by go_num,by rw [nt d_,<-gZ.o];simp only [ij],HX.o.trans (y0.trans aw)⟩
   case measure=>simp only [intOf];omega
  .obtain rfl:j=n:=by omega
   go_wp21;go_ret;refine⟨bB ?_,dS.o.trans HX.o⟩;rw [HN.o,jr,pI Te]
theorem NE (c:Pc) (p:Pr) (N:Nat) (w:World) (_hN:N<=w.heap.size) (h:nj w N c p):Calls prog 103 #[.agg c.cells] w λe w'=>e=.returned (.int .i64 (cells p.vars))/\al w w':=by
 obtain⟨cn,jY,ld,⟨A,n,cc⟩,cs,ct,ry,iD,mj,cq,oH⟩:=c;have aF:=dY w (.cells (Pc.cells ⟨cn,jY,ld,⟨A,n,cc⟩,cs,ct,ry,iD,mj,cq,oH⟩) 39);have hB:=bN w 39 (Pc.cells ⟨cn,jY,ld,⟨A,n,cc⟩,cs,ct,ry,iD,mj,cq,oH⟩);obtain⟨hn,hf,hok,b,off,hA,hE⟩:=h.vars.ext aF;refine xP ?_;intro hm HN HA HE;clear hn hA hE hok hf h;go_enter func103,ntmps103;go_upto_region 1 with(fail);generalize hW:(w.alloc (.cells (Pc.cells ⟨cn,jY,ld,⟨A,n,cc⟩,cs,ct,ry,iD,mj,cq,oH⟩) 39))=W at aF hB HE⊢;clear hW;generalize w.heap.size=pb at hB⊢;have hC:=J hB;have dS:=J aF;clear hB aF;go_wp21
 go_loopw [3,4] (λt3 t4 wr=>∃(j:Nat),j<=n/\t4=.int .i64 j/\t3=.int .i64 (jc (cells (p.vars.take j)))/\al W wr) (λ_ t4 _=>n - (intOf t4).toNat)
 case atStart=>exact⟨0,cI _,rfl,by simp [cells,eu],kR _ _⟩
 case round=>
  obtain⟨j,hj,rfl,rfl,hx⟩:=hrel;have HX:=J hx;have tZ:=bC (bX hC.o hx);have gg:=(bX hC.o hx).lt;clear hx
  by_cases aP:j<n
  .have d_:j<p.vars.length:=by have:=HN.o;omega
   have gD:(j:Int)<n:=by omega
   obtain rfl:=HA.o ad;refine X8 ?_;intro jx gB x hg' gZ;go_wp21;refine aoS (xd x _) λw1 aw=>?_;go_wp21;go_roundw
   case rel=>exact⟨j+1,aP,by go_num,by rw [nt d_,<-gZ.o];simp only [ij],HX.o.trans aw⟩
   case measure=>simp only [intOf];omega
  .obtain rfl:j=n:=by omega
   go_wp21;go_ret;refine⟨bB ?_,dS.o.trans HX.o⟩;rw [HN.o,jr,pI Te]
theorem Ak {P:Program} {fn:Func} {R:Ending->World->Prop} {a:Act} {w:World} {i p k:Tmp} {ty t:TypeId} {g:Nat} {cs:Array Value}
 (D6:fn.results=#[.tmp i,.cell p ty,.tmp k]) (hd:a.defers=[]) (hp:a.tmps.getD p undef=.pointer (some ⟨g,0,none⟩)) (ha:ga P ty=true) (hs:dr P ty=some cs.size) (hb:ai w g t cs)
 (hR:R (.returned (.tuple #[a.tmps.getD i undef,.agg cs,a.tmps.getD k undef])) w):bodyPost P fn R .ret a w:=by
 exact Qd
abbrev r_ (l:List Vr) (s:Str):Ending:=.returned (.tuple #[.int .i64 (gT l s),.agg (aZ (iS l s)),.bool (l.any (λv=>decide (v.name=s)))])
theorem Sz (c:Pc) (p:Pr) (s:Str) (N:Nat) (w:World) (_hN:N<=w.heap.size) (h:nj w N c p):Calls prog 206 #[.agg c.cells,.string s] w λe w'=>e=r_ p.vars s/\al w w':=by
 obtain⟨cn,jY,ld,⟨A,n,cc⟩,cs,ct,ry,iD,mj,cq,oH⟩:=c;have aF:=(dY w (.cells (Pc.cells ⟨cn,jY,ld,⟨A,n,cc⟩,cs,ct,ry,iD,mj,cq,oH⟩) 163)).alloc (.cells #[.string ⟨#[]⟩,.int .i64 0,.int .i64 0,.int .i64 0] 232);have hR:=ai.ea (w.alloc (.cells (Pc.cells ⟨cn,jY,ld,⟨A,n,cc⟩,cs,ct,ry,iD,mj,cq,oH⟩) 163)) 232 #[.string ⟨#[]⟩,.int .i64 0,.int .i64 0,.int .i64 0] (w.heap.size+1) aB;obtain⟨hn,hf,hok,b,off,hA,hE⟩:=h.vars.ext aF;refine xP ?_;intro hm HN HA HE;clear hn hA hE hok hf h;go_enter func206,ntmps206;go_upto_region 3 with(fail);have AB:=J (show w.heap.size<=w.heap.size+1 by omega);generalize hW:((w.alloc (.cells (Pc.cells ⟨cn,jY,ld,⟨A,n,cc⟩,cs,ct,ry,iD,mj,cq,oH⟩) 163)).alloc (.cells #[.string ⟨#[]⟩,.int .i64 0,.int .i64 0,.int .i64 0] 232))=W at aF hR HE⊢;clear hW;have hD:=J hR;have dS:=J aF;clear hR aF
 go_loopw [7,13] (λt7 t13 wr=>∃(j:Nat),j<=n/\t13=.int .i64 j/\t7=.int .i64 (jc (cells (p.vars.take j)))/\(∀v∈p.vars.take j,¬v.name=s)/\al W wr) (λ_ t13 _=>n - (intOf t13).toNat)
 case atStart=>exact⟨0,cI _,rfl,by simp [cells,eu],by simp,kR _ _⟩
 case round=>
  obtain⟨j,hj,rfl,rfl,Dr,hx⟩:=hrel;have HX:=J hx;have AA:=J Dr;have dW:=bX hD.o hx;have fE:=dW.aC;have gl:=bH dW;have gg:=dW.lt;clear hx Dr
  by_cases aP:j<n
  .have d_:j<p.vars.length:=by have:=HN.o;omega
   have gD:(j:Int)<n:=by omega
   obtain rfl:=HA.o ad;refine X8 ?_;intro jx gB x hg' gZ
   by_cases hq:x.name=s
   .have hb:=pF hq
    have HQ:=J (OW AA.o d_ abz);clear hq;go_upto_region 6 with(fail);have y0:al wr _:=dY wr (.cells (aZ x) 232);have hV:=bN wr 232 (aZ x);have iF:¬wr.heap.size=w.heap.size+1:=by omega
    generalize Jq:(wr.alloc (.cells (aZ x) 232))=W2 at y0 hV⊢;clear Jq fE gl gg dW jx hg';obtain⟨rb,mC⟩:=nm' (w.heap.size+1);generalize wr.heap.size=vb at hV iF⊢;have hV2:=J hV;have wW:=J mC;rw [<-mC]at iF⊢;have mS:=J iF;have HY:=J (HX.o.trans y0);have hDy:=bX hD.o HY.o;rw [<-mC]at hDy;have HDY:=J hDy;clear hV mC iF y0 hDy;refine fH (λw1=>Kept (·=rb) W2 w1) [(0,2),(1,1),(2,2),(3,0),(4,2)] ?_;refine fI ?_;have cC:=J (pg W2)
    repeat first|refine cx ?_|refine de (Kept.ext cC.o) (by intro w1 hS;have d0:=bK hV2.o hS mS.o;have d1:=bG d0;have d2:=bH d0;have d3:=d0.lt;exact fV) ?_|refine dc (Kept.ext cC.o) ?_
    have mB:=(bX HDY.o cC.o).aC;have TT:=bH (bX HDY.o cC.o);refine au (λK hK=>?_);go_simp;refine hK.out _ _ (λ_=>Kept.putAt (Kept.ext cC.o) _ _ _ (λ_=>rfl)) ?_;clear hK K;refine fx ?_;go_wp21;refine Ak results206 rfl rfl uW (by exact rN) (ai.cw (bX HDY.o cC.o) _ _) ⟨?_,?_⟩
    .obtain⟨q1,q2,q3⟩:=HQ.o
     unfold r_;rw [q1,q2,q3,<-gZ.o,pI (by rw [mz];omega)];simp [splice]
    .exact((dS.o.trans HY.o).trans cC.o).putAt _ _ _ (λaP=>absurd aP (by have:=wW.o;omega))
   .have hb:=na hq
    have HQ:=J (PO AA.o d_ abz);clear hq;have y0:al wr _:=dY wr (.cells (aZ x) 232);go_wp21;refine aoS (Kx x _) λw1 aw=>?_;go_wp21;go_roundw
    case rel=>exact⟨j+1,aP,by go_num,by rw [nt d_,<-gZ.o];simp only [ij],HQ.o,HX.o.trans (y0.trans aw)⟩
    case measure=>simp only [intOf];omega
  .obtain rfl:j=n:=by omega
   go_wp21;refine Ak results206 rfl rfl uW (by exact rN) (ai.cw dW _ _) ⟨?_,?_⟩
   .obtain⟨q1,q2,q3⟩:=OX (l:=p.vars) (s:=s) (by have h:=AA.o;rw [HN.o,jr]at h;exact h)
    unfold r_;rw [q1,q2,q3];simp [splice,E0]
   .exact(dS.o.trans HX.o).putAt _ _ _ (λaP=>absurd aP ad)
theorem Se (c:Pc) (p:Pr) (s:Str) (N:Nat) (w:World) (hN:N<=w.heap.size) (h:nj w N c p):Calls prog 323 #[.agg c.cells,.string s] w λe w'=>e=r_ p.vars s/\al w w':=by
 obtain⟨cn,jY,ld,⟨A,n,cc⟩,cs,ct,ry,iD,mj,cq,oH⟩:=c;have aF:=(dY w (.cells (Pc.cells ⟨cn,jY,ld,⟨A,n,cc⟩,cs,ct,ry,iD,mj,cq,oH⟩) 39)).alloc (.cells #[.string ⟨#[]⟩,.int .i64 0,.int .i64 0,.int .i64 0] 174);have hR:=ai.ea (w.alloc (.cells (Pc.cells ⟨cn,jY,ld,⟨A,n,cc⟩,cs,ct,ry,iD,mj,cq,oH⟩) 39)) 174 #[.string ⟨#[]⟩,.int .i64 0,.int .i64 0,.int .i64 0] (w.heap.size+1) aB;have hB:=(bN w 39 (Pc.cells ⟨cn,jY,ld,⟨A,n,cc⟩,cs,ct,ry,iD,mj,cq,oH⟩)).alloc (.cells #[.string ⟨#[]⟩,.int .i64 0,.int .i64 0,.int .i64 0] 174);obtain⟨hn,hf,hok,b,off,hA,hE⟩:=h.vars.ext aF;refine xP ?_;intro hm HN HA HE;clear hn hA hE hok hf h;go_enter func323,ntmps323;go_upto_region 3 with(fail);obtain⟨rb,mC⟩:=nm' (w.heap.size+1);obtain⟨pb,mV⟩:=nm' w.heap.size;rw [<-mC]at hR;rw [<-mV]at hB;simp only [<-mC];simp only [<-mV];have iF:¬pb=rb:=by omega
 have AB:=J (show w.heap.size<=rb by omega);have Lq:=J (show 0<n->¬b=rb from λh0=>by have:=(HE.o h0).1;omega);generalize hW:((w.alloc (.cells (Pc.cells ⟨cn,jY,ld,⟨A,n,cc⟩,cs,ct,ry,iD,mj,cq,oH⟩) 39)).alloc (.cells #[.string ⟨#[]⟩,.int .i64 0,.int .i64 0,.int .i64 0] 174))=W at aF hR HE hB⊢;clear hW mC mV;have⟨hD,hC,dS,mS⟩:=J4' hR hB aF iF;clear hR aF hB iF
 go_loopw [7,8] (λt7 t8 wr=>∃(j:Nat),j<=n/\t8=.int .i64 j/\t7=.int .i64 (jc (cells (p.vars.take j)))/\(∀v∈p.vars.take j,¬v.name=s)/\al W wr) (λ_ t8 _=>n - (intOf t8).toNat)
 case atStart=>exact⟨0,cI _,rfl,by simp [cells,eu],by simp,kR _ _⟩
 case round=>
  obtain⟨j,hj,rfl,rfl,Dr,hx⟩:=hrel;have HX:=J hx;have AA:=J Dr;have dW:=bX hD.o hx;have fE:=dW.aC;have gl:=bH dW;have gg:=dW.lt;have tZ:=bC (bX hC.o hx);have hlc:=(bX hC.o hx).lt;clear hx Dr
  by_cases aP:j<n
  .have d_:j<p.vars.length:=by have:=HN.o;omega
   have gD:(j:Int)<n:=by omega
   obtain rfl:=HA.o ad;have aE:=(HE.o ad).2.ext HX.o;obtain⟨jx,hg'⟩:=oB aE j d_;have gB:=aE.lt;obtain⟨x,fj⟩:=nm' (p.vars[j]);rw [<-fj]at hg';have hc0:=pQ jx hg' ad;have gZ:=J fj;have nQ:=J (Lq.o ad);clear aE fj
   by_cases hq:x.name=s
   .have hb:=pF hq
    have HQ:=J (OW AA.o d_ abz);clear hq;go_upto_region 6 with(fail);have⟨HH,HG,DC,HDR⟩:=J4' jx hg' (bX hC.o HX.o) dW;clear jx hg' fE gl gg tZ hlc hc0 dW;refine fH (λw1=>Kept (·=rb) wr w1) [(0,2),(1,2),(2,1),(3,2),(4,2),(5,1),(6,2),(7,0),(8,2)] ?_;refine fI ?_;have cC:=J (pg wr)
    repeat first|refine cx ?_|refine de (Kept.ext cC.o) (by intro w1 hS;have d0:=bK DC.o hS mS.o;have d1:=bC d0;have d3:=d0.lt;have d4:=(jv (o:=off+j*4) (n:=4) hS gB nQ.o).trans HH.o;have d5:=(iz (o:=off+j*4) (n:=4) hS gB nQ.o).trans HG.o;have d6:=gK gB hS.size;exact fV) ?_|refine dc (Kept.ext cC.o) ?_
    have mB:=(bX HDR.o cC.o).aC;have TT:=bH (bX HDR.o cC.o);refine au (λK hK=>?_);go_simp;refine hK.out _ _ (λ_=>Kept.putAt (Kept.ext cC.o) _ _ _ (λ_=>rfl)) ?_;clear hK K;refine fx ?_;go_wp21;refine Ak results323 rfl rfl uV (by exact rM) (ai.cw (bX HDR.o cC.o) _ _) ⟨?_,?_⟩
    .obtain⟨q1,q2,q3⟩:=HQ.o
     unfold r_;rw [q1,q2,q3,<-gZ.o,pI (by rw [mz];omega)];simp [splice]
    .exact((dS.o.trans HX.o).trans cC.o).putAt _ _ _ (λaP=>absurd aP K8)
   .have hb:=na hq
    have HQ:=J (PO AA.o d_ abz);clear hq;go_wp21;refine aoS (xd x _) λw1 aw=>?_;go_wp21;go_roundw
    case rel=>exact⟨j+1,aP,by go_num,by rw [nt d_,<-gZ.o];simp only [ij],HQ.o,HX.o.trans aw⟩
    case measure=>simp only [intOf];omega
  .obtain rfl:j=n:=by omega
   go_wp21;refine Ak results323 rfl rfl uV (by exact rM) (ai.cw dW _ _) ⟨?_,?_⟩
   .obtain⟨q1,q2,q3⟩:=OX (l:=p.vars) (s:=s) (by have h:=AA.o;rw [HN.o,jr]at h;exact h)
    unfold r_;rw [q1,q2,q3];simp [splice,E0]
   .exact(dS.o.trans HX.o).putAt _ _ _ (λaP=>absurd aP K8)
def dN (w:World) (N:Nat) (A:Option Addr) (n:Nat) (l:List Str):Prop:=n=l.length/\n<=100/\∃b off,(0<n->A=some ⟨b,off,none⟩)/\(0<n->b<N/\Row w b off (l.map Value.string))
theorem dN.kept {S:Nat->Prop} {w w':World} {N:Nat} {A:Option Addr} {n:Nat} {l:List Str} (h:dN w N A n l) (hk:Kept S w w') (hs:∀i,S i->N<=i):dN w' N A n l:=by
 obtain⟨h1,h2,b,off,h4,h5⟩:=h;exact⟨h1,h2,b,off,h4,λh0=>⟨(h5 h0).1,(h5 h0).2.kept hk (λq=>by have:=hs b q;have:=(h5 h0).1;omega)⟩⟩
theorem dN.ext {w w':World} {N:Nat} {A:Option Addr} {n:Nat} {l:List Str} (h:dN w N A n l) (hk:al w w'):dN w' N A n l:=h.kept hk (λ_ f=>f.elim)
theorem dN.mono {w:World} {N N':Nat} {A:Option Addr} {n:Nat} {l:List Str} (h:dN w N A n l) (hN:N<=N'):dN w N' A n l:=by
 obtain⟨h1,h2,b,off,h4,h5⟩:=h;exact⟨h1,h2,b,off,h4,λh0=>⟨gK (h5 h0).1 hN,(h5 h0).2⟩⟩
theorem CG {w:World} {b off:Nat} {l:List Str} (h:Row w b off (l.map Value.string)) (j:Nat) (hj:j<l.length):w.cell? ⟨b,off+j,none⟩=some (.string l[j]):=by
 rw [h.cell j (by simpa using hj)];simp [hj]
abbrev cL (c:Pc) (A:Option Addr) (n k:Nat):Array Value:=#[.string c.name,.int .i64 c.aL,c.bY.v,c.vars.v,c.start.v,c.turn.v,c.params.v,c.cd.v,.string c.silent,c.quiet.v,c.bO.v,.slice A n k]
theorem nL (κ:Kn):a_ κ []=κ:=by funext t;simp [a_]
theorem KA (c:Pc) (p:Pr) (A:Option Addr) (n k:Nat) (l:List Str) (s:Str) (N:Nat) (w:World) (hN:N<=w.heap.size) (h:nj w N c p) (hl:dN w N A n l):Calls prog 305 #[.agg (cL c A n k),.string s] w λe w'=>e=.returned (.int .i64 (a_ (fm p.vars) l s))/\al w w':=by
 obtain⟨r,hr⟩:=nm' (a_ (fm p.vars) l s);rw [<-hr];have Zu:=J hr;clear hr;have aF:=dY w (.cells (cL c A n k) 243);have hB:=bN w 243 (cL c A n k);have HP:=J (h.ext aF hN);obtain⟨hn,hm,b,off,hA,hE⟩:=hl.ext aF;have⟨HN,HA,HE,uE⟩:=J4' hn hA hE (ax hN aF.size);clear hn hA hE h hl;go_enter func305,ntmps305;go_upto_region 1 with(fail);generalize hW:(w.alloc (.cells (cL c A n k) 243))=W at aF hB HE HP uE⊢;clear hW;have dS:=J aF;generalize w.heap.size=pb at hB⊢;have hC:=J hB;clear hB aF;go_wp2_with fail
 go_loopw [5] (λt5 wr=>∃(j:Nat),j<=n/\t5=.int .i64 j/\(∀v∈l.take j,¬v=s)/\W=wr) (λt5 _=>n - (intOf t5).toNat)
 case atStart=>exact⟨0,cI _,rfl,by simp,rfl⟩
 case round=>
  obtain⟨j,hj,rfl,Dr,hw⟩:=hrel;subst hw;have AA:=J Dr;clear Dr;have tZ:=bC hC.o;have gg:=hC.o.lt
  by_cases aP:j<n
  .have d_:j<l.length:=by have:=HN.o;omega
   have gD:(j:Int)<n:=by omega
   obtain rfl:=HA.o ad;have aE:=(HE.o ad).2;have hc:=CG aE j d_;have gB:=aE.lt;obtain⟨x,fj⟩:=nm' (l[j]);rw [<-fj]at hc;have HX:=J fj;clear aE fj
   by_cases hq:x=s
   .have hb:=pF hq
    have HQ:=J hq;clear hq;go_wp2_with fail;go_ret;refine⟨bB ?_,dS.o⟩
    have:l.any (λt=>decide (t=s))=true:=by
     rw [List.any_eq_true];exact⟨x,by rw [HX.o];exact ed d_,cJ HQ.o⟩
    rw [Zu.o];unfold a_;rw [ak this]
    rfl
   .have hb:=na hq
    exact afS
  .obtain rfl:j=n:=by omega
   have Dr:l.any (λt=>decide (t=s))=false:=by
    rw [List.any_eq_false];intro v hv;have:=AA.o v afy
    simpa using this
   have YR:r=if p.vars.any (λv=>decide (v.name=s))=true then(if 0<(iS p.vars s).size then 2 else 1)else 0:=by
    rw [Zu.o,<-Wg];unfold a_;rw [af (by rw [Dr];exact Bool.false_ne_true)]
   have HR:=J YR;clear Dr YR;have hgr:=bG hC.o;have gl:=bH hC.o;go_wp2_with fail;refine aoS (Se c p s N _ uE.o HP.o) λw1 aw=>?_
   cases hq:p.vars.any (λv=>decide (v.name=s))
   .go_wp2_with fail
    go_ret;refine⟨bB ?_,?_⟩
    .have h:=HR.o;rw [hq]at h;rw [h];rfl
    .exact(dS.o.trans aw).alloc _
   .by_cases hz:0<(iS p.vars s).size
    .go_wp2_with fail
     go_ret;refine⟨bB ?_,?_⟩
     .have h:=HR.o;rw [hq,ak rfl,ak ad]at h;rw [h];rfl
     .exact(dS.o.trans aw).alloc _
    .go_wp2_with fail
     go_ret;refine⟨bB ?_,?_⟩
     .have h:=HR.o;rw [hq,ak rfl,af ad]at h;rw [h];rfl
     .exact(dS.o.trans aw).alloc _
theorem Jk:prog.eqGuardType prog.depth 166=false:=by kernel_rfl
theorem KJ:prog.stoodInHeld 166=false:=by kernel_rfl
theorem Jl:prog.eqGuardType prog.depth 225=false:=by kernel_rfl
theorem KN:prog.stoodInHeld 225=false:=by kernel_rfl
theorem CL (s t:ByteArray):s.toList=t.toList↔s=t:=by
 rw [ByteArray.toList_eq,ByteArray.toList_eq];exact⟨λh=>Go.WideShapes.bytes_inj h,λh=>by rw [h]⟩
theorem UZ (w:World) (a b:Int) (s t:ByteArray):(Op.equalIn 10000 166 (.agg #[.int .i64 a,.string s]) (.agg #[.int .i64 b,.string t])).run prog w=.ok (a==b&&decide (s=t)) w:=by
 rw [Op.equalIn];simp [run_underlying underlying166,go_sem]
 by_cases h1:a=b<;>by_cases h2:s=t<;>simp [h1,h2,CL]
theorem U_ (w:World) (a b:Int) (s t:ByteArray):(Op.equalIn 10000 225 (.agg #[.int .i64 a,.string s]) (.agg #[.int .i64 b,.string t])).run prog w=.ok (a==b&&decide (s=t)) w:=by
 rw [Op.equalIn];simp [run_underlying underlying225,go_sem]
 by_cases h1:a=b<;>by_cases h2:s=t<;>simp [h1,h2,CL]
attribute [go_sem] Jk Jl UZ U_
def fM:Option nZ->Array Value
 |none=>#[.int .i64 0,.string ⟨#[]⟩]
 |some f=>#[.int .i64 f.e,.string f.name]
theorem QY:fM none=#[.int .i64 0,.string ⟨#[]⟩]:=rfl
theorem QZ (e:Int) (s:Str):fM (some ⟨e,s⟩)=#[.int .i64 e,.string s]:=rfl
attribute [go_sem] QY QZ
def NZ (o:Option nZ):Prop:=∀f,o=some f->¬f.e=0
theorem ot (a b:Nat):((a:Int)==(b:Int))=(a==b):=by rw [Bool.eq_iff_iff];simp;omega
theorem aat {F M:World->Nat->Prop} {G:Prop} (h:(∀W g,F W g->M W g)->G) (h2:∀W g,F W g->M W g):G:=h h2
theorem NZ.none:NZ none:=λ_ h=>by cases h
theorem NZ.some {e:Int} {s:Str} (h:¬e=0):NZ (some ⟨e,s⟩):=λf hf=>by cases hf;exact h
theorem NZ.must {ok:Bool} {e:Int} {s:Str} (h:¬e=0):NZ (must ok e s):=by cases ok<;>simp only [bt,aM];exact NZ.some h;exact NZ.none
theorem NZ.aj {a b:Option nZ} (ha:NZ a) (hb:NZ b):NZ (aj a b):=by cases a<;>simp only [aS,aT];exact hb;exact ha
theorem NZ.ite {c:Prop} [Decidable c] {a b:Option nZ} (ha:NZ a) (hb:NZ b):NZ (if c then a else b):=by split;exact ha;exact hb
theorem PP (κ:Kn) (op n:Int) (s:Str) (k:Nat):NZ (lD κ op n s k):=by
 unfold lD;exact NZ.aj (NZ.must ap) (NZ.ite (NZ.must ap) (NZ.ite (NZ.aj (NZ.must ap) (NZ.must ap)) NZ.none))
theorem GJ (κ:Kn):∀F:EF,NZ (mh κ F)
 | .nil=>NZ.none
 | .cons op n s k r=>NZ.aj (NZ.aj (PP κ op n s k.len) (GJ κ k)) (GJ κ r)
def A8 (κ:Kn) (op n:Int) (s:Str) (k:EF):Option nZ:=aj (lD κ op n s k.len) (mh κ k)
theorem GH (κ:Kn) (op n:Int) (s:Str) (k:EF):NZ (A8 κ op n s k):=NZ.aj (PP κ op n s k.len) (GJ κ k)
theorem sd (κ:Kn) (op n:Int) (s:Str) (k r:EF):mh κ (.cons op n s k r)=aj (A8 κ op n s k) (mh κ r):=rfl
abbrev adq (c:Pc) (κ:Kn) (A:Option Addr) (n k:Nat) (w:World) (F:EF):Prop:=∀(op m:Int) (s:Str) (B:Option Addr) (kn kc N:Nat) (w':World),al w w'->N<=w.heap.size->me w N B kn F->
 Calls prog 276 #[.agg (cL c A n k),.agg (bJ op m s B kn kc)] w' λe w2=>e=.returned (.agg (fM (A8 κ op m s F)))/\al w' w2
theorem Sh (c:Pc) (p:Pr) (A:Option Addr) (n k:Nat) (l:List Str) (N:Nat) (w0:World) (hN:N<=w0.heap.size) (h:nj w0 N c p) (hl:dN w0 N A n l) (F:EF):adq c (a_ (fm p.vars) l) A n k w0 F:=by
 refine rz (C:=adq c (a_ (fm p.vars) l) A n k w0) ?_ F;intro F IH op m s B kn kc N0 w aF O8 hes;obtain⟨X,hX⟩:=nm' (A8 (a_ (fm p.vars) l) op m s F);rw [<-hX];obtain⟨r,hr⟩:=nm' (mh (a_ (fm p.vars) l) F);have hX2:X=aj (lD (a_ (fm p.vars) l) op m s kn) r:=by rw [hX,hr,hes.1];rfl
 have gf:=J hX2;have OG:=J hr.symm;clear hX hX2 hr;obtain⟨hn,hf,b,off,hA,hE⟩:=hes;refine xP ?_;intro hm HN HA HE;have⟨HI,HP,HL⟩:=J3' IH h hl;clear hn hA hE IH hf h hl;have aw:=((dY w (.cells (cL c A n k) 243)).alloc (.cells (bJ op m s B kn kc) 221)).alloc (.cells #[.int .i64 0,.string ⟨#[]⟩] 166);have Z7:=((bN w 243 (cL c A n k)).alloc (.cells (bJ op m s B kn kc) 221)).alloc (.cells #[.int .i64 0,.string ⟨#[]⟩] 166);have uD:=(ai.ea (w.alloc (.cells (cL c A n k) 243)) 221 (bJ op m s B kn kc) (w.heap.size+1) aB).alloc (.cells #[.int .i64 0,.string ⟨#[]⟩] 166);have g_:=ai.ea ((w.alloc (.cells (cL c A n k) 243)).alloc (.cells (bJ op m s B kn kc) 221)) 166 #[.int .i64 0,.string ⟨#[]⟩] (w.heap.size+1+1) aB;go_enter func276,ntmps276;go_upto_region 1 with(fail);obtain⟨rb,mC⟩:=nm' (w.heap.size+1+1);obtain⟨eb,heb⟩:=nm' (w.heap.size+1);obtain⟨pb,mV⟩:=nm' w.heap.size;simp only [<-mC];rw [<-mC]at g_;simp only [<-heb];rw [<-heb]at uD;simp only [<-mV];rw [<-mV]at Z7;have AB:=J (show w.heap.size<=rb by omega);generalize hW:(((w.alloc (.cells (cL c A n k) 243)).alloc (.cells (bJ op m s B kn kc) 221)).alloc (.cells #[.int .i64 0,.string ⟨#[]⟩] 166))=W at aw Z7 uD g_⊢;clear hW mC heb mV;have⟨hK0,l0,fz,dS⟩:=J4' Z7 uD g_ aw;have x9:=bC uD;clear Z7 uD g_ aw;refine abE ?_;intro cC
 cases hJ:iL op 0 17
 .have HR:=J (show X=some ⟨3,E0⟩by rw [gf.o];unfold lD;rw [hJ];rfl)
  refine abC ?_;refine wl ?_;refine au (λK hK=>?_);go_simp;refine aoT (pX _ _ _ _) ?_;rw [hJ];refine hK.out _ _ (λ_=>cC.o) ?_;clear hK K;refine wl ?_;refine au (λK hK=>?_);go_simp;refine hK.out _ _ (λh=>h) ?_;clear hK K;exact akt
 .refine abC ?_
  refine wl ?_;refine au (λK hK=>?_);go_simp;refine aoT (pX _ _ _ _) ?_;rw [hJ];refine hK.out _ _ (λ_=>cC.o) ?_;clear hK K;refine wl ?_;refine au (λK hK=>?_);go_simp;refine aoT (GM _ _) ?_;refine hK.out _ _ (λ_=>cC.o) ?_;clear hK K
  cases jo:((kn:Int)==(exprParts op:Int))
  .have MC:((kn:Int) !=(exprParts op:Int))=true:=by unfold bne;rw [jo];rfl
   have HR:=J (show X=some ⟨3,E0⟩by rw [gf.o];unfold lD;rw [hJ,<-ot,jo];rfl);exact akt
  .have MC:((kn:Int) !=(exprParts op:Int))=false:=by unfold bne;rw [jo];rfl
   have gq:aoR (X=aj (if op=0 then must (word m) 2 E0 else if op=1∨op=2 then aj (must (a_ (fm p.vars) l s !=0) 6 s) (must ((a_ (fm p.vars) l s==2)==(op==2)) 11 s)else none) r):=J (by rw [gf.o];unfold lD;rw [hJ,<-ot,jo];rfl);refine wl ?_;refine fx ?_;have ys:=cC.o;clear hJ jo MC
   by_cases VM:op=0
   .subst VM
    have eU:aoR (X=aj (must (word m) 2 E0) r):=J Tf;clear gq;go_wp21;refine aoT (iZ _ _) ?_
    cases hw:word m
    .have HR:=J (show X=some ⟨2,E0⟩by rw [eU.o,hw];rfl)
     have yr:=ys;exact Ye
    .have mw:=J (show X=r by rw [eU.o,hw];rfl)
     exact zz6
   .have q0:(op==0)=false:=by simpa using VM
    by_cases qD:op=1
    .subst qD
     have eU:aoR (X=aj (aj (must (a_ (fm p.vars) l s !=0) 6 s) (must ((a_ (fm p.vars) l s==2)==false) 11 s)) r):=J Tf;clear gq;have yK:=bX hK0.o ys;have o5:=bG yK;have o6:=bH yK;have nO:=yK.lt;go_wp21;refine ajV ?_;intro w1 hxs v hv HV yt aad;clear hv x9 o5 o6 nO yK
     by_cases i':v=0
     .subst i'
      exact akD
     .have qv0:((v:Int)==0)=false:=by simp;omega
      by_cases LJ:v=2
      .subst LJ
       have HR:=J (show X=some ⟨11,s⟩by rw [eU.o,<-HV.o];rfl);exact afT
      .have Kd:((v:Int)==2)=false:=by simp;omega
       have mw:=J (show X=r by rw [eU.o,<-HV.o];have h1:(v==0)=false:=(by simpa using i');have h2:(v==2)=false:=(by simpa using LJ);simp [h1,h2,bne]);exact zz5
    .have q1:(op==1)=false:=by simpa using qD
     by_cases mq:op=2
     .subst mq
      have eU:aoR (X=aj (aj (must (a_ (fm p.vars) l s !=0) 6 s) (must ((a_ (fm p.vars) l s==2)==true) 11 s)) r):=J Tf;clear gq;have yK:=bX hK0.o ys;have o5:=bG yK;have o6:=bH yK;have nO:=yK.lt;go_wp21;refine ajV ?_;intro w1 hxs v hv HV yt aad;clear hv x9 o5 o6 nO yK
      by_cases i':v=0
      .subst i'
       exact akD
      .have qv0:((v:Int)==0)=false:=by simp;omega
       by_cases LJ:v=2
       .subst LJ
        have mw:=J (show X=r by rw [eU.o,<-HV.o];rfl);exact zz5
       .have Kd:((v:Int)==2)=false:=by simp;omega
        have HR:=J (show X=some ⟨11,s⟩by rw [eU.o,<-HV.o];have h1:(v==0)=false:=(by simpa using i');have h2:(v==2)=false:=(by simpa using LJ);simp [h1,h2,bne]);exact afT
     .have q2:(op==2)=false:=by simpa using mq
      have mw:=J (show X=r by rw [gq.o,af VM,af ad];rfl);exact zz6
def jG (c:Int):Bool:=(decide (97<=c)&&decide (c<=122))||(decide (65<=c)&&decide (c<=90))
def oI (c:Int):Bool:=decide (48<=c)&&decide (c<=57)
theorem p_ (c:UInt8):jG (c.toNat:Int)=letter c:=by
 unfold jG letter;simp only [UInt8.le_iff_toNat_le];rw [Bool.eq_iff_iff];simp
 omega
theorem QM (c:UInt8):oI (c.toNat:Int)=digit c:=by
 unfold oI digit;simp only [UInt8.le_iff_toNat_le];rw [Bool.eq_iff_iff];simp
 omega
theorem yI (c:Int) (w:World):Calls prog 269 #[.int .u8 c] w λe w'=>e=.returned (.bool (jG c))/\w=w':=by
 go_enter func269,ntmps269;go_wp21
 all_goals go_ret
 all_goals refine⟨aR ?_,rfl⟩
 all_goals (rw [Bool.eq_iff_iff];simp [jG];omega)
theorem NH (c:Int) (w:World):Calls prog 270 #[.int .u8 c] w λe w'=>e=.returned (.bool (oI c))/\w=w':=by
 go_enter func270,ntmps270;go_wp21
 all_goals go_ret
 all_goals refine⟨aR ?_,rfl⟩
 all_goals (rw [Bool.eq_iff_iff];simp [oI];omega)
theorem yM (c:Int) (w:World):Calls prog 294 #[.int .u8 c] w λe w'=>e=.returned (.bool (jG c))/\w=w':=by
 go_enter func294,ntmps294;go_wp21
 all_goals go_ret
 all_goals refine⟨aR ?_,rfl⟩
 all_goals (rw [Bool.eq_iff_iff];simp [jG];omega)
theorem N1 (c:Int) (w:World):Calls prog 318 #[.int .u8 c] w λe w'=>e=.returned (.bool (oI c))/\w=w':=by
 go_enter func318,ntmps318;go_wp21
 all_goals go_ret
 all_goals refine⟨aR ?_,rfl⟩
 all_goals (rw [Bool.eq_iff_iff];simp [oI];omega)
def ue (c:Int):Bool:=jG c||oI c||c==95
theorem RA (c:Int) (w:World):Calls prog 296 #[.int .u8 c] w λe w'=>e=.returned (.bool (ue c))/\w=w':=by
 go_enter func296,ntmps296;go_wp21;refine aoT (yM _ _) ?_
 cases hl:jG c
 .go_wp21
  refine aoT (N1 _ _) ?_
  cases hd:oI c
  .go_wp21
   all_goals go_ret
   all_goals exact⟨aR (by unfold ue;simp [hl,hd]),rfl⟩
  .go_wp21
   all_goals go_ret
   all_goals exact⟨aR (by unfold ue;simp [hl,hd]),rfl⟩
 .go_wp21
  all_goals go_ret
  all_goals exact⟨aR (by unfold ue;simp [hl]),rfl⟩
def jH (s:Str):Bool:=decide (0<s.size)&&letter (s.data.getD 0 0)&&s.data.toList.all inner
theorem M4 (s:Str):dq s=(jH s&&decide (s.size<=30)&&!(words.any (λt=>decide (t=s)))):=rfl
theorem xq (c:UInt8):ue (c.toNat:Int)=inner c:=by
 unfold ue inner;rw [p_,QM]
 congr 1
 rw [Bool.eq_iff_iff];simp only [beq_iff_eq];exact⟨λh=>UInt8.toNat_inj.1 (by simpa using(by omega:c.toNat=95)),λh=>by rw [h];rfl⟩
theorem B8 (s:Str):(!(ByteArray.toList s).isEmpty)=decide (0<s.size):=by
 rw [ByteArray.toList_eq,Bool.eq_iff_iff];have:s.data.toList.length=s.size:=Array.length_toList
 cases h:s.data.toList with
 |nil=>rw [h]at this;rw [<-this];simp
 |cons a b=>rw [h]at this;rw [<-this];simp
theorem CH {s:Str} (h:0<s.size):s.data.getD 0 0=s[0]:=by
 have h':0<s.data.size:=h;unfold Array.getD;rw [dif_pos h']
 rfl
theorem RX {s:Str} (h0:0<s.size) (h:letter s[0]=false):jH s=false:=by
 unfold jH;rw [CH h0,h];simp
theorem WD {s:Str} {i:Nat} (hi:i<s.size) (h:inner s[i]=false):jH s=false:=by
 unfold jH
 have:s.data.toList.all inner=false:=by
  rw [List.all_eq_false];exact⟨s[i],Array.mem_toList_iff.2 (Array.getElem_mem (xs:=s.data) hi),by rw [h];exact Bool.false_ne_true⟩
 rw [this,Bool.and_false]
theorem aiP {s:Str} (h0:0<s.size) (h1:letter s[0]=true) (h2:∀i (h:i<s.size),inner s[i]=true):jH s=true:=by
 unfold jH;rw [CH h0,h1,cJ h0];simp only [rf,List.all_eq_true];intro x hx;obtain⟨i,hi,rfl⟩:=List.getElem_of_mem hx;exact h2 i (by simpa using hi)
theorem Xa (s:Str) (hs:s.size<=maxLen) (w:World):Calls prog 210 #[.string s] w λe w'=>e=.returned (.bool (jH s))/\w=w':=by
 have zG:s.size<=9223372036854775807:=by unfold maxLen at hs;omega
 go_enter func210,ntmps210;go_wp21
 go_loopw [3] (λt3 wr=>∃(j:Nat),j<=s.size/\t3=.int .i64 j/\(∀i (h:i<s.size),i<j->inner s[i]=true)/\(∀h:0<s.size,0<j->letter s[0]=true)/\w=wr) (λt3 _=>s.size - (intOf t3).toNat)
 case atStart=>exact⟨0,cI _,rfl,λi _ h=>by omega,λ_ h=>by omega,rfl⟩
 case round=>
  obtain⟨j,hj,rfl,h1,h2,hw⟩:=hrel;subst hw;have H1:=J h1;have H2:=J h2;clear h1 h2
  by_cases aP:j<s.size
  .have gD:(j:Int)<s.size:=by omega
   have hb:inner s[j]=(jG (s[j].toNat:Int)||oI (s[j].toNat:Int)||(s[j].toNat:Int)==95):=(xq s[j]).symm;have aeq:=p_ s[j]
   by_cases Pk:j=0
   .subst Pk
    have HB:=J hb;have HLT:=J aeq;clear hb aeq;go_wp21;refine aoT (yI _ _) ?_
    cases hl:jG (s[0].toNat:Int)
    .have Zr:=J (RX aP (by rw [<-HLT.o];exact hl))
     clear hl;go_wp21;go_ret;exact⟨aR Zr.o.symm,rfl⟩
    .have HL:=J hl
     go_wp21;go_roundw
     case rel=>exact⟨1,aP,rfl,λi hi h=>by
      obtain rfl:i=0:=by omega
      rw [HB.o,HL.o];rfl,λ_ _=>by rw [<-HLT.o];exact HL.o,by trivial⟩
     case measure=>simp only [intOf];omega
   .have q0:((j:Int)==0)=false:=by simp;omega
    have HB:=J hb;clear hb aeq;go_wp21;refine aoT (yI _ _) ?_
    cases hl:jG (s[j].toNat:Int)
    .have HL:=J hl
     go_wp21;refine aoT (NH _ _) ?_
     cases hd:oI (s[j].toNat:Int)
     .have HD:=J hd
      cases hu:((s[j].toNat:Int)==95)
      .have hun:((s[j].toNat:Int) !=95)=true:=by unfold bne;rw [hu];rfl
       have Zr:=J (WD aP (by rw [HB.o,HL.o,HD.o,hu];rfl));go_wp21;go_ret;exact⟨aR Zr.o.symm,rfl⟩
      .have hun:((s[j].toNat:Int) !=95)=false:=by unfold bne;rw [hu];rfl
       have lm:=J (show inner s[j]=true by rw [HB.o,HL.o,HD.o,hu];rfl);exact afW
     .have lm:=J (show inner s[j]=true by rw [HB.o,HL.o,hd];rfl)
      exact afW
    .have lm:=J (show inner s[j]=true by rw [HB.o,hl];rfl)
     exact afW
  .obtain rfl:j=s.size:=by omega
   have Zr:=J (show jH s=decide (0<s.size)by
    by_cases h0:0<s.size
    .rw [aiP h0 (H2.o h0 h0) (λi hi=>H1.o i hi hi),cJ h0]
    .unfold jH;simp [h0])
   go_wp21;go_ret;exact⟨aR (by rw [Zr.o];exact B8 s),rfl⟩
theorem vt (l:List Str) (s:Str) (A:Option Addr) (n c N:Nat) (w:World) (h:dN w N A n l):Calls prog 211 #[.slice A n c,.string s] w λe w'=>e=.returned (.bool (l.any (λt=>decide (t=s))))/\w=w':=by
 obtain⟨hn,hm,b,off,hA,hE⟩:=h;have⟨HN,HA,HE⟩:=J3' hn hA hE;clear hn hA hE;go_enter func211,ntmps211;go_wp2_with fail
 go_loopw [5] (λt5 wr=>∃(j:Nat),j<=n/\t5=.int .i64 j/\(∀v∈l.take j,¬v=s)/\w=wr) (λt5 _=>n - (intOf t5).toNat)
 case atStart=>exact⟨0,cI _,rfl,by simp,rfl⟩
 case round=>
  obtain⟨j,hj,rfl,Dr,hw⟩:=hrel;subst hw;have AA:=J Dr;clear Dr
  by_cases aP:j<n
  .have d_:j<l.length:=by have:=HN.o;omega
   have gD:(j:Int)<n:=by omega
   obtain rfl:=HA.o ad;have aE:=(HE.o ad).2;have hc:=CG aE j d_;have gB:=aE.lt;obtain⟨x,fj⟩:=nm' (l[j]);rw [<-fj]at hc;have HX:=J fj;clear aE fj
   by_cases hq:x=s
   .have hb:=pF hq
    have HQ:=J hq;clear hq;go_wp2_with fail;go_ret;refine⟨aR ?_,rfl⟩;rw [eq_comm,List.any_eq_true];exact⟨x,by rw [HX.o];exact ed d_,cJ HQ.o⟩
   .have hb:=na hq
    exact afS
  .obtain rfl:j=n:=by omega
   go_wp2_with fail;go_ret;refine⟨aR ?_,rfl⟩;rw [eq_comm,List.any_eq_false];intro v hv;have:=AA.o v afy
   simpa using this
theorem NW (w:World):Calls prog 212 #[] w λe w'=>al w w'/\∃A c,e=.returned (.slice A 23 c)/\dN w' w'.heap.size A 23 words:=by
 go_enter func212,ntmps212;go_wp21;go_ret;refine⟨dM w _,_,_,rfl,rfl,by omega,w.heap.size,0,λ_=>rfl,λ_=>⟨by simp,?_⟩⟩;exact Row.cF (bN w _ _)
theorem lQ (s:Str) (hs:s.size<=maxLen) (w:World):Calls prog 144 #[.string s] w λe w'=>e=.returned (.bool (dq s))/\al w w':=by
 have zG:s.size<=9223372036854775807:=by unfold maxLen at hs;omega
 rw [M4];obtain⟨r,hr⟩:=nm' ((jH s&&decide (s.size<=30)&&!(words.any (λt=>decide (t=s)))));rw [<-hr];have HR:=J hr;clear hr;go_enter func144,ntmps144;go_wp21;refine aoT (Xa s hs _) ?_
 cases hn:jH s
 .have HF:=J (show r=false by rw [HR.o,hn];rfl)
  go_wp21;go_ret;exact⟨aR HF.o.symm,kR _ _⟩
 .by_cases hz:s.size<=30
  .have MR:(s.size:Int)<=30:=by omega
   have HF:=J (show r=!(words.any (λt=>decide (t=s)))by rw [HR.o,hn,cJ hz];rfl);go_wp21;refine(NW _).mono ?_;rintro e w1 ⟨aw,A,c,rfl,hS⟩;have HS:=J hS;clear hS;go_wp21;refine aoT (vt words s _ _ _ _ _ HS.o) ?_;go_wp21;go_ret;exact⟨aR (by rw [HF.o]),aw⟩
  .have MR:¬(s.size:Int)<=30:=by omega
   have HF:=J (show r=false by rw [HR.o,cT hz];simp);go_wp21;go_ret;exact⟨aR HF.o.symm,kR _ _⟩
structure eQ (w:World):Prop where
 sp : Lib.TabIs prog w "strings.asciiSpace" .u8 Lib.asciiSpaceTab
 sm:∀k,k<10->w.cell? ⟨2,k,none⟩=some (.int .i64 (stmtParts (k:Nat)))
 ex:∀k,k<18->w.cell? ⟨5,k,none⟩=some (.int .i64 (exprParts (k:Nat)))
 lt:5<w.heap.size
theorem eQ.kept {S:Nat->Prop} {w w':World} (h:eQ w) (hk:Kept S w w') (hs:∀i,i<=5->¬S i):eQ w':=by
 have h4:=h.lt;refine⟨?_,λk jR=>(Kept.cell hk (p:=⟨2,k,none⟩) (by show 2<_;omega) (hs 2 ad)).trans (h.sm k jR),λk jR=>(Kept.cell hk (p:=⟨5,k,none⟩) (by show 5<_;omega) (hs 5 ad)).trans (h.ex k jR),gK h.lt hk.size⟩;have hsp:=h.sp;unfold Lib.TabIs World.var? at hsp⊢
 rw [show prog.globalNamed "strings.asciiSpace" = some 1 by kernel_rfl] at hsp ⊢
 rw [<-hsp];simp [hk.block 1 ad (hs 1 ad)]
theorem eQ.ext {w w':World} (h:eQ w) (hk:al w w'):eQ w':=h.kept hk (λ_ _ f=>f)
def zO (l:List Str):ByteArray->Option Value:=λt=>if l.any (λu=>decide (u=t))=true then some (.bool true)else none
theorem SD (l:List Str) (x:Str):∀t,(λt=>if t=x then some (Value.bool true)else zO l t) t=zO (l++[x]) t:=by
 intro t;unfold zO;exact afX
theorem Sw (n:Int) (w:World):(Instr.makeMap 340 (some (.int .i64 n))).run prog w=.ok (.map (some w.heap.size)) (w.alloc (.map #[] 0)):=by
 simp [Instr.makeMap,run_underlying underlying340,go_sem]
 try rfl
attribute [go_sem] Sw
theorem PZ (l:List Str) (A:Option Addr) (n c N:Nat) (w:World) (hN:N<=w.heap.size) (h:dN w N A n l):Calls prog 291 #[.slice A n c] w λe w'=>al w w'/\∃g,e=.returned (.map (some g))/\w.heap.size<=g/\dy w' g (zO l):=by
 obtain⟨hn,hm,b,off,hA,hE⟩:=h;have⟨HN,HA,HE⟩:=J3' hn hA hE;have hM:=dy.made w;have aF:=dY w (.map #[] 0);clear hn hA hE;go_enter func291,ntmps291;go_upto_region 3 with(fail);generalize hW:w.alloc (.map #[] 0)=W at hM aF⊢;clear hW;have⟨dS,HG,HM⟩:=J3' aF (show w.heap.size<=w.heap.size from cr _) hM;generalize lE:(w.heap.size:Nat)=g at hM HM HG⊢;have rV:=J lE;clear hM aF lE
 go_loopw [11] (λt11 wr=>∃(j:Nat),j<=n/\t11=.int .i64 j/\dy wr g (zO (l.take j))/\Kept (·=g) W wr) (λt11 _=>n - (intOf t11).toNat)
 case atStart=>exact⟨0,cI _,rfl,HM.o.nR (λt=>by simp [zO]),kR _ _⟩
 case round=>
  obtain⟨j,hj,rfl,hS,hx⟩:=hrel;have HS:=J hS;have HX:=J hx;clear hS hx
  by_cases aP:j<n
  .have d_:j<l.length:=by have:=HN.o;omega
   have gD:(j:Int)<n:=by omega
   obtain rfl:=HA.o ad;have YM:b<w.heap.size:=by have:=(HE.o ad).1;omega
   have aE:=((HE.o ad).2.ext dS.o).kept HX.o (by have:=rV.o;omega);have hc:=CG aE j d_;have gB:=aE.lt;obtain⟨x,fj⟩:=nm' (l[j]);rw [<-fj]at hc;have gZ:=J fj;clear aE fj;obtain⟨w',dz,qW,jR⟩:=dy.put (P:=prog) HS.o underlying340 underlying9 x (.bool true);have Yx:=J qW;have LU:=J jR;clear qW jR;go_wp21;go_roundw
   case rel=>exact⟨j+1,aP,by go_num,Yx.o.nR (λt=>by rw [lq,List.getElem?_eq_getElem d_,<-gZ.o];exact SD (l.take j) x t),HX.o.trans LU.o⟩
   case measure=>simp only [intOf];omega
  .obtain rfl:j=n:=by omega
   go_wp21;go_ret;have hS:=HS.o;rw [HN.o,jr]at hS;exact⟨dS.o.trans' HX.o (λi hi e=>by have:=rV.o;omega),g,rfl,by have:=rV.o;omega,hS⟩
def marks:List Str:=[⟨#[91]⟩,⟨#[93]⟩,⟨#[40]⟩,⟨#[41]⟩,⟨#[61]⟩,⟨#[33,61]⟩,⟨#[60]⟩,⟨#[60,61]⟩,⟨#[62]⟩,⟨#[62,61]⟩,⟨#[43]⟩,⟨#[45]⟩,⟨#[42]⟩,⟨#[47]⟩,⟨#[37]⟩,⟨#[44]⟩]
theorem EE (s:ByteArray) (l:List Str) (n:Nat) (w:World) (h0:s.size<4294967281) (ha:s.data.toList.all (λb=>decide (b.toNat<128))=true) (hL:eQ w) (hf:(Lib.fields s.data.toList).map (λx=>(⟨x.toArray⟩:Str))=l) (hn:l.length=n) (ame:n<=100):
 Calls prog 317 #[.string s] w λe w'=>al w w'/\∃A c,e=.returned (.slice A n c)/\dN w' w'.heap.size A n l:=by
 refine(Go.Proofs.Tryz.strings_Fields s w h0 (λj b hb=>of_decide_eq_true (List.all_eq_true.1 ha b (List.mem_of_getElem? hb))) hL.sp).mono ?_;rintro e w' ⟨rfl,rfl⟩;have hlen:(Lib.fields s.data.toList).length=n:=by rw [<-hn,<-hf,gu]
 rw [hlen];refine⟨dM w _,_,_,rfl,hn.symm,ame,w.heap.size,0,λ_=>rfl,λ_=>⟨by simp,?_⟩⟩;have hb:=Row.cF (bN w 9 ((Lib.fields s.data.toList).map λl=>Value.string ⟨l.toArray⟩).toArray);rw [<-hf,List.map_map];exact hb
theorem N9 (w:World) (hL:eQ w):Calls prog 292 #[] w λe w'=>al w w'/\∃A c,e=.returned (.slice A 23 c)/\dN w' w'.heap.size A 23 words:=by
 go_enter func292,ntmps292;go_wp21;refine(EE _ words 23 _ ap ap hL ap rfl ad).mono ?_;rintro e w1 ⟨hx,A,c,rfl,hS⟩;go_wp21;go_ret;exact⟨hx,A,c,rfl,hS⟩
theorem N6 (w:World) (hL:eQ w):Calls prog 293 #[] w λe w'=>al w w'/\∃A c,e=.returned (.slice A 16 c)/\dN w' w'.heap.size A 16 marks:=by
 go_enter func293,ntmps293;go_wp21;refine(EE _ marks 16 _ ap ap hL ap rfl ad).mono ?_;rintro e w1 ⟨hx,A,c,rfl,hS⟩;go_wp21;go_ret;exact⟨hx,A,c,rfl,hS⟩
theorem OT:ga prog 342=true:=by kernel_rfl
theorem Kw:dr prog 342=some 2:=by kernel_rfl
attribute [go_sem] OT Kw
theorem SS (w:World) (hL:eQ w):Calls prog 245 #[] w λe w'=>al w w'/\∃g m,e=.returned (.agg #[.map (some g),m])/\dy w' g (zO words):=by
 go_enter func245,ntmps245;go_wp21;have hR:=bN w 342 #[.map none,.map none];have aF:=dY w (.cells #[.map none,.map none] 342);refine(N9 _ (hL.ext aF)).mono ?_;rintro e w1 ⟨aw,A,c,rfl,hS⟩;have HS:=J hS;clear hS;go_wp21;refine(PZ words _ _ _ _ _ (cr _) HS.o).mono ?_;rintro e w2 ⟨bd,g,rfl,hg,hM⟩;have HM:=J hM;clear hM;go_wp21;refine(N6 _ (hL.ext ((aF.trans aw).trans bd))).mono ?_;rintro e w3 ⟨dv,A2,c2,rfl,gx⟩;have oQ:=J gx;clear gx;go_wp21;refine(PZ marks _ _ _ _ _ (cr _) oQ.o).mono ?_;rintro e w4 ⟨eS,g2,rfl,Pj,eN⟩;have hD:=bX hR (((aw.trans bd).trans dv).trans eS);have hm:=hD.aC;have hh:=bH hD;go_wp21;refine bu results245 rfl rfl OT (by exact Kw) (ai.cw hD _ _) ?_;have hl:g<w2.heap.size:=HM.o.lt;have hw:w.heap.size<g:=by have h1:=aF.size;have h2:=aw.size;have:(w.alloc (.cells #[.map none,.map none] 342)).heap.size=w.heap.size+1:=aB;omega
 refine⟨((((aF.trans aw).trans bd).trans dv).trans eS).putAt _ _ _ (λh=>absurd h ad),g,.map (some g2),rfl,?_⟩;exact((HM.o.ext (dv.trans eS)).kept (Kept.putAt (S:=(·=w.heap.size)) (kR _ _) _ _ _ (λ_=>rfl)) ad)
theorem Xm (s:Str) (hs:s.size<=maxLen) (w:World):Calls prog 295 #[.string s,.func (.func 296) #[] #[]] w λe w'=>(∃t:Str,e=.returned (.string t)/\(t=s↔s.data.toList.all inner=true))/\w=w':=by
 have zG:s.size<=9223372036854775807:=by unfold maxLen at hs;omega
 go_enter func295,ntmps295;go_wp21
 go_loopw [5] (λt5 wr=>∃(j:Nat),j<=s.size/\t5=.int .i64 j/\(∀i (h:i<s.size),i<j->inner s[i]=true)/\w=wr) (λt5 _=>s.size - (intOf t5).toNat)
 case atStart=>exact⟨0,cI _,rfl,λi _ h=>by omega,rfl⟩
 case round=>
  obtain⟨j,hj,rfl,h1,hw⟩:=hrel;subst hw;have H1:=J h1;clear h1
  by_cases aP:j<s.size
  .have gD:(j:Int)<s.size:=by omega
   go_wp21;refine aoT (RA _ _) ?_
   cases hl:ue (s[j].toNat:Int)
   .have HL:=J (show inner s[j]=false by rw [<-xq];exact hl)
    go_wp21;go_ret;refine⟨⟨_,rfl,λe=>?_,λe=>?_⟩,rfl⟩
    .have:=congrArg ByteArray.size e
     rw [ByteArray.size_extract]at this
     omega
    .have:=List.all_eq_true.1 e s[j] (Array.mem_toList_iff.2 (Array.getElem_mem (xs:=s.data) aP))
     rw [HL.o]at this
     cases this
   .have HL:=J (show inner s[j]=true by rw [<-xq];exact hl)
    go_wp21;go_roundw
    case rel=>exact⟨j+1,aP,by go_num,λi hi h=>by
     by_cases e:i=j
     .subst e;exact HL.o
     .exact H1.o i hi ad,by trivial⟩
    case measure=>simp only [intOf];omega
  .obtain rfl:j=s.size:=by omega
   go_wp21;go_ret;refine⟨⟨_,rfl,λ_=>?_,λ_=>rfl⟩,rfl⟩;rw [List.all_eq_true];intro x hx;obtain⟨i,hi,rfl⟩:=List.getElem_of_mem hx;exact H1.o i (by simpa using hi) (by simpa using hi)
theorem Tl (w:World):(zeroValue 4).run prog w=.ok (.bool false) w:=by
 first|kernel_rfl|rfl
theorem SN (s:Str) (hs:s.size<=maxLen) (g:Nat) (m:Value) (w:World) (hM:dy w g (zO words)):Calls prog 246 #[.agg #[.map (some g),m],.string s] w λe w'=>e=.returned (.bool (dq s))/\al w w':=by
 have zG:s.size<=9223372036854775807:=by unfold maxLen at hs;omega
 obtain⟨r,hr⟩:=nm' (dq s);rw [<-hr];have iV:r=(decide (0<s.size)&&letter (s.data.getD 0 0)&&s.data.toList.all inner&&decide (s.size<=30)&&!(words.any (λt=>decide (t=s)))):=hr;have HR:=J iV;clear hr iV;have aF:=dY w (.cells #[.map (some g),m] 342);have hMx:=hM.ext aF;have su:=dy.look (P:=prog) hMx underlying340 underlying9 (z:=.bool false) Tl s;clear hM hMx
 by_cases h0:0<s.size
 .have hE:(ByteArray.toList s).isEmpty=false:=by have:=B8 s;rw [cJ h0]at this;simpa using this
  have h0I:(0:Int)<s.size:=by omega
  have Tx:=J (show s.data.getD 0 0=s[0]from CH h0);go_enter func246,ntmps246;go_wp21;refine aoT (yM _ _) ?_
  cases hl:jG (s[0].toNat:Int)
  .have HF:=J (show r=false by rw [HR.o,Tx.o,<-p_,hl];simp)
   go_wp21;go_ret;exact⟨aR HF.o.symm,aF⟩
  .have HL:=J (show letter (s.data.getD 0 0)=true by rw [Tx.o,<-p_,hl])
   go_wp21;refine(Xm s hs _).mono ?_;rintro e w1 ⟨⟨t,rfl,ht⟩,rfl⟩;have HT:=J ht;clear ht
   by_cases hts:t=s
   .have hb:=pF hts
    have HA:=J (HT.o.1 hts);clear hts
    by_cases hz:s.size<=30
    .have MR:(s.size:Int)<=30:=by omega
     have HF:=J (show r=!(words.any (λt=>decide (t=s)))by rw [HR.o,cJ h0,HL.o,HA.o,cJ hz];rfl)
     cases hw:words.any (λt=>decide (t=s))
     .have hq:zO words s=none:=by unfold zO;rw [hw];rfl
      rw [hq]at su;go_wp21;go_ret;exact⟨aR (by rw [HF.o,hw];rfl),aF⟩
     .have hq:zO words s=some (.bool true):=by unfold zO;rw [hw];rfl
      rw [hq]at su;go_wp21;go_ret;exact⟨aR (by rw [HF.o,hw];rfl),aF⟩
    .have MR:¬(s.size:Int)<=30:=by omega
     have HF:=J (show r=false by rw [HR.o,cT hz];simp);go_wp21;go_ret;exact⟨aR HF.o.symm,aF⟩
   .have hb:=na hts
    have HA:=J (show s.data.toList.all inner=false by
     cases h:s.data.toList.all inner
     .rfl
     .exact absurd (HT.o.2 h) hts)
    clear hts;have HF:=J (show r=false by rw [HR.o,HA.o];simp);go_wp21;go_ret;exact⟨aR HF.o.symm,aF⟩
 .have hE:(ByteArray.toList s).isEmpty=true:=by have:=B8 s;rw [cT h0]at this;simpa using this
  have HF:=J (show r=false by rw [HR.o,cT h0];rfl);go_enter func246,ntmps246;go_wp21;go_ret;exact⟨aR HF.o.symm,aF⟩
theorem lU (s:Str) (hs:s.size<=maxLen) (w:World) (hL:eQ w):Calls prog 195 #[.string s] w λe w'=>e=.returned (.bool (dq s))/\al w w':=by
 go_enter func195,ntmps195;go_wp21;refine(SS _ hL).mono ?_;rintro e w1 ⟨aw,g,m,rfl,hM⟩;have HM:=J hM;clear hM;go_wp21;refine aoS (SN s hs g m _ HM.o) λw2 bd=>?_;go_wp21;go_ret;exact⟨rfl,aw.trans bd⟩

