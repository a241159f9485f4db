/- Several texts joined: Qh, Qi, Qj, Qk. -/
import Derived.Lib.AppendZeros
import Derived.Test.YtbfbabbcdochjaaGreatDoorRxpk
import Derived.Test.YtbfbabbcdochjaaGreatDoorRxaf
set_option maxHeartbeats 4000000
namespace Go.Proofs.YtbfbabbcdochjaaGreatDoor
open Go.RowKit So
def ElemOk (P:Program) (T E:TypeId) (sz bytes:Nat):Prop:=P.underlying T=some (.slice E)∧∃ i z,P.info? E=some i∧i.zero=some z∧i.size=sz∧i.bytes=bytes∧z.cells.size=sz∧0 < sz
theorem elem_ok {P:Program} {T E:TypeId} {sz bytes:Nat} (ht:P.underlying T=some (.slice E)) (h:(P.info? E).map (fun i=>(i.zero.map (fun z=>z.cells.size),i.size,i.bytes))=some (some sz,sz,bytes)) (h0:0 < sz):ElemOk P T E sz bytes:=by
 refine ⟨ht,?_⟩
 cases hi:P.info? E with
 | none=>rw [hi] at h;cases h
 | some i =>
  rw [hi] at h
  simp only [Option.map_some,Option.some.injEq,Prod.mk.injEq] at h
  obtain ⟨h1,h2,h3⟩:=h
  cases hz:i.zero with
  | none=>rw [hz] at h1;cases h1
  | some z =>
   rw [hz] at h1
   simp only [Option.map_some,Option.some.injEq] at h1
   exact ⟨i,z,rfl,hz,h2,h3,h1,h0⟩
theorem appR {α:Type} {f:α→Array Value} {P:Program} {T E:TypeId} {sz bytes:Nat} (hE:ElemOk P T E sz bytes) (hf:∀ d,(f d).size=sz) (hfl:∀ d,flatL (f d).toList=true) (w:World) (base:Nat) (v:Value) (n:Nat) (xs:List α) (hown:w.ownsRow base E sz v n (rowsL f xs))
 (b off m c:Nat) (l:List α) (hm:m=l.length) (hr:Row w b off (rowsL f l)) (hn:(n+m) * bytes≤140737488355328) (hbase:base≤w.heap.size) (h8:8≤bytes:=by omega) :
 ∃ v' w',(Builtin.append_ #[T,T] T #[v,.slice (some ⟨b,off,none⟩) m c]).run P w=.ok v' w'∧w'.ownsRow base E sz v' (n+m) (rowsL f (xs ++ l))∧Kept (fun i=>v.ownBlock=some i) w w'∧(∀ i,v'.ownBlock=some i→v.ownBlock=some i ∨ w.heap.size≤i):=by
 obtain ⟨ht,i,z,hi,hz,h1,h2,h3,h4⟩:=hE
 have hmx:n+m≤maxLen:=by
  have:(n+m) * 8≤(n+m) * bytes:=Nat.mul_le_mul_left _ h8
  unfold maxLen
  omega
 have hfl2:=flatL_all (rowsL_flat hfl l)
 have hlen:(rowsL f l).length=m * sz:=by rw [rowsL_len hf,hm]
 obtain ⟨v',w',hrun,ho,hg,_⟩:=run_append_own (P:=P) w base T T E i z sz bytes ht hi hz h1 h2 h3 h4 v n (rowsL f xs) hown ⟨b,off,none⟩ m c (rowsL f l) hlen hr.cells hfl2 hmx hn hbase
 rw [rowsL_app] at ho
 refine ⟨v',w',hrun,ho,Kept.of_grown hg,?_⟩
 rcases hown.2 with ⟨rfl,rfl⟩ | ⟨g,cap,cur,rfl,hbg,hgc,hnc,hcm,hcs,htake⟩
 ·have hx:rowsL f xs=[]:=List.eq_nil_of_length_eq_zero (by simpa using hown.1)
  obtain ⟨v2,w2,hrun2,ho2,_,_⟩:=run_append_own (P:=P) w w.heap.size T T E i z sz bytes ht hi hz h1 h2 h3 h4 (.slice none 0 0) 0 [] (World.ownsRow_nil _ _ _ _) ⟨b,off,none⟩ m c (rowsL f l) hlen hr.cells hfl2 hmx hn (Nat.le_refl _)
  rw [hrun] at hrun2
  injection hrun2 with e1 e2
  subst e1
  subst e2
  exact fun i hi=>.inr (ho2.lt i hi).1
 ·by_cases hroom:n+m≤cap
  ·have hr2:=run_append_room (P:=P) w T T E i ht hi g n cap cur hgc ⟨b,off,none⟩ m c (rowsL f l) (by rw [h1];exact hlen) hr.cells hfl2 hroom (by rw [h1,hlen,hcs,← Nat.add_mul];exact Nat.mul_le_mul_right _ hroom)
   rw [hrun] at hr2
   injection hr2 with e1 e2
   subst e1
   exact fun i hi=>.inl hi
  ·have hr2:=run_append_grow (P:=P) w T T E i z ht hi hz ⟨g,0,none⟩ n cap (rowsL f xs) (by rw [h1];exact hown.1) (hown.cells (g:=g) rfl) ⟨b,off,none⟩ m c (rowsL f l) (by rw [h1];exact hlen) hr.cells zb85 (by unfold maxLen at hmx;omega) (growslice_fits zb85 (by rw [h2];exact hn))
   rw [hrun] at hr2
   injection hr2 with e1 e2
   subst e1
   intro i hi
   simp only [Value.ownBlock,Option.some.injEq] at hi
   exact .inr zb85
theorem owns_es {w w':World} {T:TypeId} {v:Value} {n:Nat} {l:List Ec} {F:EF} (ho:w'.ownsRow w.heap.size T 4 v n (rowsL Ec.cells l)) (he:EcsIn w' (fun i=>w.heap.size≤i∧i < w'.heap.size∧¬ v.ownBlock=some i) l F) (hn:n=F.len) (hf:Fits n 56) (hl:l.length=n) :
 ∃ A' c',Ending.returned v=.returned (.slice A' n c')∧EsIn w' (fun i=>w.heap.size≤i∧i < w'.heap.size) A' n F:=by
 have he':=he.mono (D':=fun i=>w.heap.size≤i∧i < w'.heap.size) (fun i hi=>⟨hi.1,hi.2.1⟩)
 by_cases h0:0 < n
 ·obtain ⟨g,c,rfl,hr,hg,_⟩:=own_rows ho h0 zb85
  refine ⟨some ⟨g,0,none⟩,c,rfl,hn,hf,g,0,fun _=>rfl,he'.shut ⟨hg,hr.lt⟩ (fun _=>hr)⟩
 ·obtain rfl:n=0:=by omega
  have hF:F=.nil:=by cases F with
   | nil=>rfl
   | cons _ _ _ _ _=>simp [EF.len] at hn
  exact zz77
theorem owns_ss {w w':World} {T:TypeId} {v:Value} {n:Nat} {l:List Sc} {F:SF} (ho:w'.ownsRow w.heap.size T 7 v n (rowsL Sc.cells l)) (he:ScsIn w' (fun i=>w.heap.size≤i∧i < w'.heap.size∧¬ v.ownBlock=some i) l F) (hn:n=F.len) (hf:Fits n 112) (hl:l.length=n) :
 ∃ A' c',Ending.returned v=.returned (.slice A' n c')∧SsIn w' (fun i=>w.heap.size≤i∧i < w'.heap.size) A' n F:=by
 have he':=he.mono (D':=fun i=>w.heap.size≤i∧i < w'.heap.size) (fun i hi=>⟨hi.1,hi.2.1⟩)
 by_cases h0:0 < n
 ·obtain ⟨g,c,rfl,hr,hg,_⟩:=own_rows ho h0 zb85
  refine ⟨some ⟨g,0,none⟩,c,rfl,hn,hf,g,0,fun _=>rfl,he'.shut ⟨hg,hr.lt⟩ (fun _=>hr)⟩
 ·obtain rfl:n=0:=by omega
  have hF:F=.nil:=by cases F with
   | nil=>rfl
   | cons _ _ _ _ _ _ _ _=>simp [SF.len] at hn
  exact zz77
theorem elemExprS:ElemOk Tryz.prog 149 200 4 56:=elem_ok Tryz.underlying149 zb83 zb85
theorem elemStmtR:ElemOk Tryz.prog 24 86 7 112:=elem_ok Tryz.underlying24 zb83 zb85
theorem elemStmtS:ElemOk Tryz.prog 55 151 7 112:=elem_ok Tryz.underlying55 zb83 zb85
theorem elemVarS:ElemOk Tryz.prog 54 109 4 40:=elem_ok Tryz.underlying54 zb83 zb85
theorem elemStr:ElemOk Tryz.prog 118 9 1 16:=elem_ok Tryz.underlying118 zb83 zb85
abbrev ofexprsC (w:World) (F:EF):Prop:=∀ (A:Option Addr) (n c N:Nat) (w':World),Ext w w'→N≤w.heap.size→ESl w N A n F→Calls Tryz.prog 87 #[.slice A n c] w' fun e w2=>Ext w' w2∧∃ A' c',e=.returned (.slice A' n c')∧EsIn w2 (fun i=>w'.heap.size≤i∧i < w2.heap.size) A' n F
set_option maxRecDepth 100000 in
theorem ofexprs_any (w0:World) (F:EF):ofexprsC w0 F:=by
 refine ef_ind (C:=ofexprsC w0) ?_ F
 intro F IH A n c N w hx0 hN h
 obtain ⟨hn,hf,b,off,hA,hE⟩:=h
 have hm:=hf.max zb85
 have hm2:=hf
 unfold Fits at hm2
 have HM:=J hm2
 have HF:=J hf
 have HN:=J hn
 have HA:=J hA
 have HE:=J hE
 have HI:=J IH
 clear hn hA hE IH hf hm2
 go_enter Tryz.func87,Tryz.ntmps87
 go_wp2_with fail
 go_loopw [3,8] (fun t3 t8 wr=>∃ (j:Nat) (P R:EF) (l:List Ec),j+R.len=n∧P.app R=F∧l.length=j∧t8=.int .i64 j∧wr.ownsRow w.heap.size 200 4 t3 j (rowsL Ec.cells l)∧EcsIn wr (fun i=>w.heap.size≤i∧i < wr.heap.size∧¬ t3.ownBlock=some i) l P∧EFAt w0 N R b (off+j * 4)∧EF.All (ofexprsC w0) R∧Ext w wr) (fun _ t8 _=>n - (intOf t8).toNat)
 case atStart=>exact ⟨0,.nil,F,[],by rw [HN.out,Nat.zero_add],rfl,rfl,rfl,World.ownsRow_nil _ _ _ _,trivial,by simpa using HE.out,HI.out,kR _ _⟩
 case round =>
  obtain ⟨j,P,R,l,hj,hacc,hlen,rfl,ho,hec,hR,hI,hx⟩:=hrel
  have HR:=J hR
  have HI2:=J hI
  have HX:=J hx
  have HO:=J ho
  have HEC:=J hec
  have HLEN:=J hlen
  have HACC:=J hacc
  clear hR hI hx ho hec hlen hacc
  cases R with
  | nil =>
   simp only [EF.len,Nat.add_zero] at hj
   subst hj
   have hacc:=HACC.out
   rw [ef_app_nil] at hacc
   subst hacc
   go_wp2_with fail
   go_ret
   refine ⟨HX.out,?_⟩
   exact owns_es HO.out HEC.out HN.out HF.out HLEN.out
  | cons op m name k r =>
   obtain ⟨hb,h1,h2,h3,⟨A',cap,b',off',hh,hg,hl,hA',hk⟩,hr⟩:=HR.out
   simp only [EF.len] at hj
   have hlt:(j:Int) < n:=by omega
   obtain rfl:=HA.out zb85
   have hx0r:=hx0.trans HX.out
   refine zy21 ?_;intro hbl hh' hg' hbw
   have KE:=J (show ESl w0 N A' k.len k from ⟨rfl,hl,b',off',hA',hk⟩)
   have IK:=J HI2.out.1
   have HX0:=J hx0r
   have HR2:=J hr
   have HOK:=J (show i64ok op∧i64ok m∧name.size≤maxLen from ⟨h1,h2,h3⟩)
   clear hh hg hl hA' hk h1 h2 h3 HR hbl hx0r hr hb
   go_upto_region 5 with (fail)
   have y0:Ext wr _:=(kR _ wr).alloc (.cells (ecells op m name A' k.len cap) 84)
   have hB:=bN wr 84 (ecells op m name A' k.len cap)
   have hob:∀ i,u3.ownBlock=some i→w.heap.size≤i∧i < wr.heap.size:=HO.out.lt
   have hpo:¬ u3.ownBlock=some wr.heap.size:=fun e=>by have:=(hob _ e).2;omega
   have hWs:(wr.alloc (.cells (ecells op m name A' k.len cap) 84)).heap.size=wr.heap.size+1:=by simp
   have HOW:=J (own_ext HO.out y0)
   generalize hW:(wr.alloc (.cells (ecells op m name A' k.len cap) 84))=W at y0 hB hWs HOW ⊢
   clear hW hh' hg'
   have HWS:=J hWs
   have HOB:=J hob
   have HPO:=J hpo
   have HX1:=J (HX0.out.trans y0)
   have HXr:=J (HX.out.trans y0)
   have HY:=J y0
   have HWR:=J (show w.heap.size≤wr.heap.size from HX.out.size)
   clear hWs hob hpo y0 HX
   obtain ⟨pb,hpb⟩:∃ pb,pb=wr.heap.size:=⟨_,rfl⟩
   rw [← hpb] at hB ⊢
   have HPB:=J hpb
   clear hpb
   have hC:=J hB
   clear hB
   refine qr3 (fun w1=>Kept (fun i=>u3.ownBlock=some i) W w1) [(0,2),(1,2),(2,1),(3,2),(4,1),(5,2),(6,1),(7,2),(8,1),(9,0),(10,2),(11,0),(12,0),(13,2)] ?_;refine qrl ?_
   refine zy72 ?_;intro HY0
   (repeat first|refine qs3 ?_|refine qt3 (Kept.ext HY0.out) zb17 ?_|refine qp3 (Kept.ext HY0.out) ?_)
   (refine w3_act (fun K hK=>?_);go_simp)
   refine (IK.out _ _ _ N _ (HX1.out.trans HY0.out) hN KE.out).mono ?_
   rintro e w1 ⟨hx1,A1,c1,rfl,hk1⟩
   have HY1:=J (HY0.out.trans hx1)
   have HK1:=J hk1
   clear hx1 hk1
   refine hK.out _ _ (fun _=>Kept.ext HY1.out) ?_
   clear hK K
   refine zy23 ?_;intro K hK
   have y2:Ext W _:=HY1.out.alloc (.cells (ecells op m name A1 k.len c1) 200)
   have y12:Ext w1 _:=(kR _ w1).alloc (.cells (ecells op m name A1 k.len c1) 200)
   have hB2:=Row.of_blk (bN w1 200 (ecells op m name A1 k.len c1))
   generalize hW2:(w1.alloc (.cells (ecells op m name A1 k.len c1) 200))=W2 at y2 y12 hB2 ⊢
   clear hW2
   refine hK.out _ _ (fun _=>Kept.ext y2) ?_
   clear hK K
   (repeat refine qs3 ?_)
   obtain ⟨v',w',hrun,ho',hk',hnew⟩:=appR (f:=Ec.cells) elemExprS (fun _=>rfl) (fun _=>rfl) W2 w.heap.size u3 j l (own_ext HOW.out y2) w1.heap.size 0 1 1 [⟨op,m,name,A1,k.len,c1⟩] rfl hB2 (by have:=HM.out;omega) (by have:=y2.size;have:=HWS.out;have:=HWR.out;omega)
   refine w3_act (fun K hK=>?_)
   refine zy60 ?_
   refine hK.out _ _ (fun _=>Kept.trans (Kept.ext y2) hk') ?_
   clear hK K
   refine qf3 ?_
   go_wp2_with fail
   go_roundw
   case rel =>
    have e1:=HY1.out.size
    have e2:=y12.size
    have e3:=hk'.size
    have e4:=HWS.out
    have e5:=HPB.out
    have e6:=HWR.out
    have hxw:Ext w w':=(HXr.out.trans y2).trans' hk' (fun i hi e=>by have:=(HOB.out i e).1;omega)
    refine ⟨j+1,P.app (.cons op m name k .nil),r,l ++ [⟨op,m,name,A1,k.len,c1⟩],by omega,by rw [ef_app_cons];exact HACC.out,by rw [List.length_append,HLEN.out];rfl,by go_num,ho',?_,by rw [Nat.add_mul,← Nat.add_assoc];exact HR2.out,HI2.out.2,hxw⟩
    refine EcsIn.snoc ⟨rfl,rfl,rfl,HOK.out.1,HOK.out.2.1,HOK.out.2.2,?_⟩ ?_
    ·refine ((HK1.out.kept y12 (fun i hi=>⟨hi.2,fun f=>f⟩)).kept hk' (fun i hi=>⟨by omega,fun e=>by have:=(HOB.out i e).2;have:=hi.1;have:=HY0.out.size;omega⟩)).mono (fun i hi=>?_)
     have:=HY0.out.size
     refine ⟨by omega,by omega,fun e=>?_⟩
     rcases hnew i e with q | q
     ·have:=(HOB.out i q).2;omega
     ·omega
    ·refine ((HEC.out.kept (HY.out.trans y2) (fun i hi=>⟨hi.2.1,fun f=>f⟩)).kept hk' (fun i hi=>⟨by omega,hi.2.2⟩)).mono (fun i hi=>?_)
     refine ⟨hi.1,by omega,fun e=>?_⟩
     rcases hnew i e with q | q
     ·exact hi.2.2 q
     ·omega
   case measure=>simp only [intOf];omega
open Go.RowKit So
abbrev ofstmtsC (w:World) (F:SF):Prop:=∀ (A:Option Addr) (n c N:Nat) (w':World),Ext w w'→N≤w.heap.size→SSl w N A n F→Calls Tryz.prog 48 #[.slice A n c] w' fun e w2=>Ext w' w2∧∃ A' c',e=.returned (.slice A' n c')∧SsIn w2 (fun i=>w'.heap.size≤i∧i < w2.heap.size) A' n F
set_option maxRecDepth 100000 in
theorem ofstmts_any (w0:World) (F:SF):ofstmtsC w0 F:=by
 refine sf_ind (C:=ofstmtsC w0) ?_ F
 intro F IH A n c N w hx0 hN h
 obtain ⟨hn,hf,b,off,hA,hE⟩:=h
 have hm:=hf.max zb85
 have hm2:=hf
 unfold Fits at hm2
 have HM:=J hm2
 have HF:=J hf
 have HN:=J hn
 have HA:=J hA
 have HE:=J hE
 have HI:=J IH
 clear hn hA hE IH hf hm2
 go_enter Tryz.func48,Tryz.ntmps48
 go_wp2_with fail
 go_loopw [3,8] (fun t3 t8 wr=>∃ (j:Nat) (P R:SF) (l:List Sc),j+R.len=n∧P.app R=F∧l.length=j∧t8=.int .i64 j∧wr.ownsRow w.heap.size 151 7 t3 j (rowsL Sc.cells l)∧ScsIn wr (fun i=>w.heap.size≤i∧i < wr.heap.size∧¬ t3.ownBlock=some i) l P∧SFAt w0 N R b (off+j * 7)∧SF.All (ofstmtsC w0) R∧Ext w wr) (fun _ t8 _=>n - (intOf t8).toNat)
 case atStart=>exact ⟨0,.nil,F,[],by rw [HN.out,Nat.zero_add],rfl,rfl,rfl,World.ownsRow_nil _ _ _ _,trivial,by simpa using HE.out,HI.out,kR _ _⟩
 case round =>
  obtain ⟨j,P,R,l,hj,hacc,hlen,rfl,ho,hec,hR,hI,hx⟩:=hrel
  have HR:=J hR
  have HI2:=J hI
  have HX:=J hx
  have HO:=J ho
  have HEC:=J hec
  have HLEN:=J hlen
  have HACC:=J hacc
  clear hR hI hx ho hec hlen hacc
  cases R with
  | nil =>
   simp only [SF.len,Nat.add_zero] at hj
   subst hj
   have hacc:=HACC.out
   rw [sf_app_nil] at hacc
   subst hacc
   go_wp2_with fail
   go_ret
   refine ⟨HX.out,?_⟩
   exact owns_ss HO.out HEC.out HN.out HF.out HLEN.out
  | cons kind name es low high q x r =>
   obtain ⟨hb,h1,h2,h3,h4,⟨eA,ec,lA,lc,xA,xc,be,oe,bl,ol,bx,ox,hh,hg,n1,n2,n3,a1,a2,a3,he,hl,hxx⟩,hr⟩:=HR.out
   simp only [SF.len] at hj
   have hlt:(j:Int) < n:=by omega
   obtain rfl:=HA.out zb85
   have hx0r:=hx0.trans HX.out
   refine zy21 ?_;intro hbl hh' hg' hbw
   have KE:=J (show ESl w0 N eA es.len es from ⟨rfl,n1,be,oe,a1,he⟩)
   have KL:=J (show SSl w0 N lA q.len q from ⟨rfl,n2,bl,ol,a2,hl⟩)
   have KX:=J (show SSl w0 N xA x.len x from ⟨rfl,n3,bx,ox,a3,hxx⟩)
   have IL:=J HI2.out.1
   have IX:=J HI2.out.2.1
   have HX0:=J hx0r
   have HR2:=J hr
   have HOK:=J (show i64ok kind∧i64ok low∧i64ok high∧name.size≤maxLen from ⟨h1,h2,h3,h4⟩)
   clear hh hg n1 n2 n3 a1 a2 a3 he hl hxx h1 h2 h3 h4 HR hbl hx0r hr hb
   go_upto_region 5 with (fail)
   have y0:Ext wr _:=(kR _ wr).alloc (.cells (scells kind name eA es.len ec low high lA q.len lc xA x.len xc) 86)
   have hB:=bN wr 86 (scells kind name eA es.len ec low high lA q.len lc xA x.len xc)
   have hob:∀ i,u3.ownBlock=some i→w.heap.size≤i∧i < wr.heap.size:=HO.out.lt
   have hpo:¬ u3.ownBlock=some wr.heap.size:=fun e=>by have:=(hob _ e).2;omega
   have hWs:(wr.alloc (.cells (scells kind name eA es.len ec low high lA q.len lc xA x.len xc) 86)).heap.size=wr.heap.size+1:=by simp
   have HOW:=J (own_ext HO.out y0)
   generalize hW:(wr.alloc (.cells (scells kind name eA es.len ec low high lA q.len lc xA x.len xc) 86))=W at y0 hB hWs HOW ⊢
   clear hW hh' hg'
   have HWS:=J hWs
   have HOB:=J hob
   have HPO:=J hpo
   have HX1:=J (HX0.out.trans y0)
   have HXr:=J (HX.out.trans y0)
   have HY:=J y0
   have HWR:=J (show w.heap.size≤wr.heap.size from HX.out.size)
   clear hWs hob hpo y0 HX
   obtain ⟨pb,hpb⟩:∃ pb,pb=wr.heap.size:=⟨_,rfl⟩
   rw [← hpb] at hB ⊢
   have HPB:=J hpb
   clear hpb
   have hC:=J hB
   clear hB
   refine qr3 (fun w1=>Kept (fun i=>u3.ownBlock=some i) W w1) [(0,2),(1,2),(2,1),(3,2),(4,1),(5,2),(6,1),(8,2),(9,1),(10,2),(11,1),(12,2),(13,1),(15,2),(16,1),(7,0),(14,0),(17,0),(18,2),(19,0),(20,0),(21,2)] ?_;refine qrl ?_
   refine zy72 ?_;intro HY0
   (repeat first|refine qs3 ?_|refine qt3 (Kept.ext HY0.out) zb17 ?_|refine qp3 (Kept.ext HY0.out) ?_)
   (refine w3_act (fun K hK=>?_);go_simp)
   refine (ofexprs_any w0 es _ _ _ N _ (HX1.out.trans HY0.out) hN KE.out).mono ?_
   rintro e w1 ⟨hx1,A1,c1,rfl,hk1⟩
   have HY1:=J (HY0.out.trans hx1)
   have HK1:=J hk1
   clear hx1 hk1
   refine hK.out _ _ (fun _=>Kept.ext HY1.out) ?_
   clear hK K
   (repeat refine qs3 ?_)
   (repeat first|refine qs3 ?_|refine qt3 (Kept.ext HY1.out) zb17 ?_|refine qp3 (Kept.ext HY1.out) ?_)
   (refine w3_act (fun K hK=>?_);go_simp)
   refine (IL.out _ _ _ N _ (HX1.out.trans HY1.out) hN KL.out).mono ?_
   rintro e w2 ⟨hx2,A2,c2,rfl,hk2⟩
   have HZ2:=J hx2
   have HY2:=J (HY1.out.trans hx2)
   have HK2:=J hk2
   clear hx2 hk2
   refine hK.out _ _ (fun _=>Kept.ext HY2.out) ?_
   clear hK K
   (repeat refine qs3 ?_)
   (repeat first|refine qs3 ?_|refine qt3 (Kept.ext HY2.out) zb17 ?_|refine qp3 (Kept.ext HY2.out) ?_)
   (refine w3_act (fun K hK=>?_);go_simp)
   refine (IX.out _ _ _ N _ (HX1.out.trans HY2.out) hN KX.out).mono ?_
   rintro e w3 ⟨hx3,A3,c3,rfl,hk3⟩
   have HZ3:=J hx3
   have HY3:=J (HY2.out.trans hx3)
   have HK3:=J hk3
   clear hx3 hk3
   refine hK.out _ _ (fun _=>Kept.ext HY3.out) ?_
   clear hK K
   refine zy23 ?_;intro K hK
   have y2:Ext W _:=HY3.out.alloc (.cells (scells kind name A1 es.len c1 low high A2 q.len c2 A3 x.len c3) 151)
   have y12:Ext w3 _:=(kR _ w3).alloc (.cells (scells kind name A1 es.len c1 low high A2 q.len c2 A3 x.len c3) 151)
   have hB2:=Row.of_blk (bN w3 151 (scells kind name A1 es.len c1 low high A2 q.len c2 A3 x.len c3))
   generalize hW2:(w3.alloc (.cells (scells kind name A1 es.len c1 low high A2 q.len c2 A3 x.len c3) 151))=W2 at y2 y12 hB2 ⊢
   clear hW2
   refine hK.out _ _ (fun _=>Kept.ext y2) ?_
   clear hK K
   (repeat refine qs3 ?_)
   obtain ⟨v',w',hrun,ho',hk',hnew⟩:=appR (f:=Sc.cells) elemStmtS (fun _=>rfl) (fun _=>rfl) W2 w.heap.size u3 j l (own_ext HOW.out y2) w3.heap.size 0 1 1 [⟨kind,name,A1,es.len,c1,low,high,A2,q.len,c2,A3,x.len,c3⟩] rfl hB2 (by have:=HM.out;omega) (by have:=y2.size;have:=HWS.out;have:=HWR.out;omega)
   refine w3_act (fun K hK=>?_)
   refine zy60 ?_
   refine hK.out _ _ (fun _=>Kept.trans (Kept.ext y2) hk') ?_
   clear hK K
   refine qf3 ?_
   go_wp2_with fail
   go_roundw
   case rel =>
    have e0:=HY0.out.size
    have e1:=HY1.out.size
    have e7:=HZ2.out.size
    have e8:=HZ3.out.size
    have e2:=y12.size
    have e3:=hk'.size
    have e4:=HWS.out
    have e5:=HPB.out
    have e6:=HWR.out
    have hxw:Ext w w':=(HXr.out.trans y2).trans' hk' (fun i hi e=>by have:=(HOB.out i e).1;omega)
    have hfar:∀ i,W.heap.size≤i→i < w3.heap.size→w.heap.size≤i∧i < w'.heap.size∧¬ v'.ownBlock=some i:=fun i h1 h2=>by
     refine ⟨by omega,by omega,fun e=>?_⟩
     rcases hnew i e with q | q
     ·have:=(HOB.out i q).2;omega
     ·omega
    have hoff:∀ i,W.heap.size≤i→¬ u3.ownBlock=some i:=fun i h1 e=>by have:=(HOB.out i e).2;omega
    refine ⟨j+1,P.app (.cons kind name es low high q x .nil),r,l ++ [⟨kind,name,A1,es.len,c1,low,high,A2,q.len,c2,A3,x.len,c3⟩],by omega,by rw [sf_app_cons];exact HACC.out,by rw [List.length_append,HLEN.out];rfl,by go_num,ho',?_,by rw [Nat.add_mul,← Nat.add_assoc];exact HR2.out,HI2.out.2.2,hxw⟩
    refine ScsIn.snoc ⟨rfl,rfl,rfl,rfl,HOK.out.1,HOK.out.2.1,HOK.out.2.2.1,HOK.out.2.2.2,?_,?_,?_⟩ ?_
    ·exact ((HK1.out.kept ((HZ2.out.trans HZ3.out).trans y12) (fun i hi=>⟨hi.2,fun f=>f⟩)).kept hk' (fun i hi=>⟨by omega,hoff i zb85⟩)).mono (fun i hi=>hfar i zb85 zb85)
    ·exact ((HK2.out.kept (HZ3.out.trans y12) (fun i hi=>⟨hi.2,fun f=>f⟩)).kept hk' (fun i hi=>⟨by omega,hoff i zb85⟩)).mono (fun i hi=>hfar i zb85 zb85)
    ·exact ((HK3.out.kept y12 (fun i hi=>⟨hi.2,fun f=>f⟩)).kept hk' (fun i hi=>⟨by have:=HY2.out.size;omega,hoff i (by have:=HY2.out.size;omega)⟩)).mono (fun i hi=>hfar i (by have:=HY2.out.size;omega) zb85)
    ·refine ((HEC.out.kept (HY.out.trans y2) (fun i hi=>⟨hi.2.1,fun f=>f⟩)).kept hk' (fun i hi=>⟨by omega,hi.2.2⟩)).mono (fun i hi=>?_)
     refine ⟨hi.1,by omega,fun e=>?_⟩
     rcases hnew i e with q | q
     ·exact hi.2.2 q
     ·omega
   case measure=>simp only [intOf];omega
open Go.RowKit So
def VsIn (w:World) (D:Nat→Prop) (A:Option Addr) (n:Nat) (l:List Vr):Prop:=n=l.length∧Fits n 40∧(∀ v ∈ l,VrOk v)∧∃ b off,(0 < n→A=some ⟨b,off,none⟩)∧(0 < n→D b∧Row w b off (rowsL vcells l))
theorem VsIn.at_ {w:World} {D:Nat→Prop} {N:Nat} {A:Option Addr} {n:Nat} {l:List Vr} (h:VsIn w D A n l) (hD:∀ i,D i→i < N):VSl w N A n l:=by
 obtain ⟨h1,h2,h3,b,off,h4,h5⟩:=h
 exact ⟨h1,h2,h3,b,off,h4,fun h0=>⟨hD _ (h5 h0).1,(h5 h0).2⟩⟩
theorem VsIn.kept {S:Nat→Prop} {w w':World} {D:Nat→Prop} {A:Option Addr} {n:Nat} {l:List Vr} (h:VsIn w D A n l) (hk:Kept S w w') (hD:∀ i,D i→¬ S i):VsIn w' D A n l:=by
 obtain ⟨h1,h2,h3,b,off,h4,h5⟩:=h
 exact ⟨h1,h2,h3,b,off,h4,fun h0=>⟨(h5 h0).1,(h5 h0).2.kept hk (hD _ (h5 h0).1)⟩⟩
theorem VsIn.ext {w w':World} {D:Nat→Prop} {A:Option Addr} {n:Nat} {l:List Vr} (h:VsIn w D A n l) (hk:Ext w w'):VsIn w' D A n l:=by
 obtain ⟨h1,h2,h3,b,off,h4,h5⟩:=h
 exact ⟨h1,h2,h3,b,off,h4,fun h0=>⟨(h5 h0).1,(h5 h0).2.ext hk⟩⟩
theorem owns_vs {w w':World} {T:TypeId} {v:Value} {n:Nat} {l:List Vr} (ho:w'.ownsRow w.heap.size T 4 v n (rowsL vcells l)) (hn:n=l.length) (hf:Fits n 40) (hok:∀ v ∈ l,VrOk v) :
 ∃ A' c',Ending.returned v=.returned (.slice A' n c')∧VsIn w' (fun i=>w.heap.size≤i∧i < w'.heap.size) A' n l:=by
 by_cases h0:0 < n
 ·obtain ⟨g,c,rfl,hr,hg,_⟩:=own_rows ho h0 zb85
  exact ⟨some ⟨g,0,none⟩,c,rfl,hn,hf,hok,g,0,fun _=>rfl,fun _=>⟨⟨hg,hr.lt⟩,hr⟩⟩
 ·obtain rfl:n=0:=by omega
  rcases ho.2 with ⟨hv,_⟩ | ⟨g,c,cur,hv,_⟩
  ·exact ⟨none,0,by rw [hv],hn,hf,hok,0,0,fun q=>by omega,fun q=>by omega⟩
  ·exact ⟨some ⟨g,0,none⟩,c,by rw [hv],hn,hf,hok,0,0,fun q=>by omega,fun q=>by omega⟩
theorem VSl.mono {w:World} {N N':Nat} {A:Option Addr} {n:Nat} {l:List Vr} (h:VSl w N A n l) (hN:N≤N'):VSl w N' A n l:=by
 obtain ⟨h1,h2,h3,b,off,h4,h5⟩:=h
 exact ⟨h1,h2,h3,b,off,h4,fun h0=>⟨Nat.lt_of_lt_of_le (h5 h0).1 hN,(h5 h0).2⟩⟩
theorem ISl.mono {w:World} {N N':Nat} {A:Option Addr} {n:Nat} {l:List Int} (h:ISl w N A n l) (hN:N≤N'):ISl w N' A n l:=by
 obtain ⟨h1,h2,h3,b,off,h4,h5⟩:=h
 exact ⟨h1,h2,h3,b,off,h4,fun h0=>⟨Nat.lt_of_lt_of_le (h5 h0).1 hN,(h5 h0).2⟩⟩
theorem ISl.ext {w w':World} {N:Nat} {A:Option Addr} {n:Nat} {l:List Int} (h:ISl w N A n l) (hk:Ext w w'):ISl w' N A n l:=h.kept hk (fun _ f=>f.elim)
theorem VSl.ext {w w':World} {N:Nat} {A:Option Addr} {n:Nat} {l:List Vr} (h:VSl w N A n l) (hk:Ext w w'):VSl w' N A n l:=h.kept hk (fun _ f=>f.elim)
theorem vr_at {w:World} {b off:Nat} {l:List Vr} (h:Row w b off (rowsL vcells l)) (j:Nat) (hj:j < l.length):Proofs.YtbfbabbcdochjaaGreatDoor.has w b (off+j * 4) 4=true∧gets w b (off+j * 4) 4=vcells l[j]:=rowsL_row (f:=vcells) (k:=4) (fun _=>rfl) h j hj
set_option maxRecDepth 100000 in
theorem ofvars_any (l:List Vr) (A:Option Addr) (n c N:Nat) (w:World) (_hN:N≤w.heap.size) (h:VSl w N A n l):Calls Tryz.prog 47 #[.slice A n c] w fun e w2=>Ext w w2∧∃ A' c',e=.returned (.slice A' n c')∧VsIn w2 (fun i=>w.heap.size≤i∧i < w2.heap.size) A' n l:=by
 obtain ⟨hn,hf,hok,b,off,hA,hE⟩:=h
 have hm:=hf.max zb85
 have hm2:=hf
 unfold Fits at hm2
 have HM:=J hm2
 have HF:=J hf
 have HN:=J hn
 have HA:=J hA
 have HE:=J hE
 have HOK:=J hok
 clear hn hA hE hok hf hm2
 go_enter Tryz.func47,Tryz.ntmps47
 go_wp2_with fail
 go_loopw [3,8] (fun t3 t8 wr=>∃ (j:Nat),j≤n∧t8=.int .i64 j∧wr.ownsRow w.heap.size 109 4 t3 j (rowsL vcells (l.take j))∧Ext w wr) (fun _ t8 _=>n - (intOf t8).toNat)
 case atStart=>exact ⟨0,Nat.zero_le _,rfl,World.ownsRow_nil _ _ _ _,kR _ _⟩
 case round =>
  obtain ⟨j,hj,rfl,ho,hx⟩:=hrel
  have HX:=J hx
  have HO:=J ho
  clear hx ho
  by_cases hlt:j < n
  ·have hjl:j < l.length:=by have:=HN.out;omega
   have hltI:(j:Int) < n:=by omega
   obtain rfl:=HA.out zb85
   refine zy70 ?_;intro hrow hh' hg' hbw
   obtain ⟨x,hxe⟩:∃ x,x=l[j]:=⟨_,rfl⟩
   rw [← hxe] at hg'
   have htk:l.take (j+1)=l.take j ++ [x]:=by rw [hxe];simp
   have HTK:=J htk
   clear hrow hxe htk
   have y0:Ext wr _:=((kR (fun _=>False) wr).alloc (.cells (vcells x) 66)).alloc (.cells (vcells x) 109)
   obtain ⟨v',w',hrun,ho',hk',_⟩:=appR (f:=vcells) elemVarS (fun _=>rfl) (fun _=>rfl) ((wr.alloc (.cells (vcells x) 66)).alloc (.cells (vcells x) 109)) w.heap.size u3 j (l.take j) (own_ext HO.out y0) (wr.heap.size+1) 0 1 1 [x] rfl (Row.of_blk (Blk.new' _ _ _ _ zb86)) (by have:=HM.out;omega) (by have:=y0.size;have:=HX.out.size;omega)
   rw [← HTK.out] at ho'
   have HO':=J ho'
   have HXW:=J (show Ext w w' from (HX.out.trans y0).trans' hk' (fun i hi e=>by have:=(HO.out.lt i e).1;omega))
   clear ho' hk' y0
   go_upto_region 5 with (fail)
   go_step
   iterate 3 refine qls ?_
   refine wpList_app rfl (.tmp 12) (.tmp 14) 54 rfl rfl rfl rfl hrun ?_
   clear hrun
   go_wp2_with fail
   go_roundw
   case rel=>exact ⟨j+1,hlt,by go_num,HO'.out,HXW.out⟩
   case measure=>simp only [intOf];omega
  ·obtain rfl:j=n:=by omega
   go_wp2_with fail
   go_ret
   refine ⟨HX.out,?_⟩
   have ho:=HO.out
   rw [HN.out,List.take_length,← HN.out] at ho
   exact owns_vs ho HN.out HF.out HOK.out
open Go.RowKit So
set_option maxRecDepth 100000 in
theorem of_any (c:Pc) (p:Pr) (N:Nat) (w:World) (hN:N≤w.heap.size) (h:PAt w N c p):Calls Tryz.prog 22 #[.agg c.cells] w fun e w'=>Ext w w'∧∃ c':Pc,e=.returned (.agg c'.cells)∧PAt w' w'.heap.size c' p:=by
 refine zy73 ?_;intro hx0 hB
 have hP:=J (h.ext hx0 hN)
 have hNa:=Nat.le_trans hN hx0.size
 clear h
 go_enter Tryz.func22,Tryz.ntmps22
 go_upto_region 1 with (fail)
 have hR:=bN (w.alloc (.cells c.cells 26)) 57 #[.string ⟨#[]⟩,.int .i64 0,.slice none 0 0,.slice none 0 0,.slice none 0 0,.slice none 0 0,.slice none 0 0,.slice none 0 0,.string ⟨#[]⟩,.slice none 0 0,.slice none 0 0]
 have hR':Blk ((w.alloc (.cells c.cells 26)).alloc (.cells #[.string ⟨#[]⟩,.int .i64 0,.slice none 0 0,.slice none 0 0,.slice none 0 0,.slice none 0 0,.slice none 0 0,.slice none 0 0,.string ⟨#[]⟩,.slice none 0 0,.slice none 0 0] 57)) (w.heap.size+1) 57 #[.string ⟨#[]⟩,.int .i64 0,.slice none 0 0,.slice none 0 0,.slice none 0 0,.slice none 0 0,.slice none 0 0,.slice none 0 0,.string ⟨#[]⟩,.slice none 0 0,.slice none 0 0]:=by simpa using hR
 have hx1:=hx0.alloc (.cells #[.string ⟨#[]⟩,.int .i64 0,.slice none 0 0,.slice none 0 0,.slice none 0 0,.slice none 0 0,.slice none 0 0,.slice none 0 0,.string ⟨#[]⟩,.slice none 0 0,.slice none 0 0] 57)
 have hxq:=(kR (fun _=>False) (w.alloc (.cells c.cells 26))).alloc (.cells #[.string ⟨#[]⟩,.int .i64 0,.slice none 0 0,.slice none 0 0,.slice none 0 0,.slice none 0 0,.slice none 0 0,.slice none 0 0,.string ⟨#[]⟩,.slice none 0 0,.slice none 0 0] 57)
 have hP1:=J (hP.out.ext hxq hNa)
 have hB1:=bX hB hxq
 have hNb:=Nat.le_trans hNa hxq.size
 generalize hW:((w.alloc (.cells c.cells 26)).alloc (.cells #[.string ⟨#[]⟩,.int .i64 0,.slice none 0 0,.slice none 0 0,.slice none 0 0,.slice none 0 0,.slice none 0 0,.slice none 0 0,.string ⟨#[]⟩,.slice none 0 0,.slice none 0 0] 57))=W at hx1 hB1 hP1 hNb hR' ⊢
 clear hW hx0 hB hP hNa hR hxq
 have HRB:=J (show ¬ w.heap.size=w.heap.size+1 by omega)
 generalize hrb:w.heap.size+1=rb at hR' HRB ⊢
 generalize hpb:w.heap.size=pb at hB1 HRB hrb ⊢
 have HX1:=J hx1
 have HRW:=J (show w.heap.size≤rb by omega)
 clear hx1 hpb hrb
 have hC:=J hB1
 have hD:=J hR'
 clear hB1 hR'
 refine qr3 (fun w1=>Kept (·=rb) W w1) [(0,2),(1,1),(2,2),(3,1),(4,2),(5,1),(6,2),(7,1),(9,2),(10,1),(12,2),(13,1),(15,2),(16,1),(18,2),(19,1),(21,2),(22,1),(23,2),(24,1),(26,2),(27,1),(8,0),(11,0),(14,0),(17,0),(20,0),(25,0),(28,0),(29,2),(30,0)] ?_;refine qrl ?_
 refine zy72 ?_;intro HY0
 (repeat first|refine qs3 ?_|refine qt3 (Kept.ext HY0.out) zb26 ?_|refine qp3 (Kept.ext HY0.out) ?_)
 (refine w3_act (fun K hK=>?_);go_simp)
 refine (ofvars_any p.vars _ _ _ N _ (Nat.le_trans hNb HY0.out.size) (hP1.out.vars.ext HY0.out)).mono ?_
 rintro e w1 ⟨hx1,A1,c1,rfl,hk1⟩
 have HZ1:=J hx1
 have HY1:=J (HY0.out.trans hx1)
 have HK1:=J hk1
 clear hx1 hk1
 refine hK.out _ _ (fun _=>Kept.ext HY1.out) ?_
 clear hK K
 (repeat refine qs3 ?_)
 (repeat first|refine qs3 ?_|refine qt3 (Kept.ext HY1.out) zb26 ?_|refine qp3 (Kept.ext HY1.out) ?_)
 (refine w3_act (fun K hK=>?_);go_simp)
 refine (ofstmts_any _ p.start _ _ _ N _ (kR _ _) (Nat.le_trans hNb HY1.out.size) (hP1.out.start.ext HY1.out hNb)).mono ?_
 rintro e w2 ⟨hx1,A2,c2,rfl,hk1⟩
 have HZ2:=J hx1
 have HY2:=J (HY1.out.trans hx1)
 have HK2:=J hk1
 clear hx1 hk1
 refine hK.out _ _ (fun _=>Kept.ext HY2.out) ?_
 clear hK K
 (repeat refine qs3 ?_)
 (repeat first|refine qs3 ?_|refine qt3 (Kept.ext HY2.out) zb26 ?_|refine qp3 (Kept.ext HY2.out) ?_)
 (refine w3_act (fun K hK=>?_);go_simp)
 refine (ofstmts_any _ p.turn _ _ _ N _ (kR _ _) (Nat.le_trans hNb HY2.out.size) (hP1.out.turn.ext HY2.out hNb)).mono ?_
 rintro e w3 ⟨hx1,A3,c3,rfl,hk1⟩
 have HZ3:=J hx1
 have HY3:=J (HY2.out.trans hx1)
 have HK3:=J hk1
 clear hx1 hk1
 refine hK.out _ _ (fun _=>Kept.ext HY3.out) ?_
 clear hK K
 (repeat refine qs3 ?_)
 (repeat first|refine qs3 ?_|refine qt3 (Kept.ext HY3.out) zb26 ?_|refine qp3 (Kept.ext HY3.out) ?_)
 (refine w3_act (fun K hK=>?_);go_simp)
 refine (ofvars_any p.params _ _ _ N _ (Nat.le_trans hNb HY3.out.size) (hP1.out.params.ext HY3.out)).mono ?_
 rintro e w4 ⟨hx1,A4,c4,rfl,hk1⟩
 have HZ4:=J hx1
 have HY4:=J (HY3.out.trans hx1)
 have HK4:=J hk1
 clear hx1 hk1
 refine hK.out _ _ (fun _=>Kept.ext HY4.out) ?_
 clear hK K
 (repeat refine qs3 ?_)
 (repeat first|refine qs3 ?_|refine qt3 (Kept.ext HY4.out) zb26 ?_|refine qp3 (Kept.ext HY4.out) ?_)
 (refine w3_act (fun K hK=>?_);go_simp)
 refine (ofstmts_any _ p.play _ _ _ N _ (kR _ _) (Nat.le_trans hNb HY4.out.size) (hP1.out.play.ext HY4.out hNb)).mono ?_
 rintro e w5 ⟨hx1,A5,c5,rfl,hk1⟩
 have HZ5:=J hx1
 have HY5:=J (HY4.out.trans hx1)
 have HK5:=J hk1
 clear hx1 hk1
 refine hK.out _ _ (fun _=>Kept.ext HY5.out) ?_
 clear hK K
 (repeat refine qs3 ?_)
 (repeat first|refine qs3 ?_|refine qt3 (Kept.ext HY5.out) zb26 ?_|refine qp3 (Kept.ext HY5.out) ?_)
 (refine w3_act (fun K hK=>?_);go_simp)
 refine (ofstmts_any _ p.quiet _ _ _ N _ (kR _ _) (Nat.le_trans hNb HY5.out.size) (hP1.out.quiet.ext HY5.out hNb)).mono ?_
 rintro e w6 ⟨hx1,A6,c6,rfl,hk1⟩
 have HZ6:=J hx1
 have HY6:=J (HY5.out.trans hx1)
 have HK6:=J hk1
 clear hx1 hk1
 refine hK.out _ _ (fun _=>Kept.ext HY6.out) ?_
 clear hK K
 (repeat refine qs3 ?_)
 (repeat first|refine qs3 ?_|refine qt3 (Kept.ext HY6.out) zb26 ?_|refine qp3 (Kept.ext HY6.out) ?_)
 (refine w3_act (fun K hK=>?_);go_simp)
 refine (ofstmts_any _ p.pays _ _ _ N _ (kR _ _) (Nat.le_trans hNb HY6.out.size) (hP1.out.pays.ext HY6.out hNb)).mono ?_
 rintro e w7 ⟨hx1,A7,c7,rfl,hk1⟩
 have HZ7:=J hx1
 have HY7:=J (HY6.out.trans hx1)
 have HK7:=J hk1
 clear hx1 hk1
 refine hK.out _ _ (fun _=>Kept.ext HY7.out) ?_
 clear hK K
 (repeat refine qs3 ?_)
 have hDr:=bX hD.out HY7.out
 have hm:=Blk.melts hDr
 have hh:=bH hDr
 (refine w3_act (fun K hK=>?_);go_simp)
 refine hK.out _ _ (fun _=>Kept.putAt (Kept.ext HY7.out) _ _ _ (fun _=>rfl)) ?_
 clear hK K
 refine qf3 ?_
 go_wp2_with fail
 refine ret_cell Tryz.results22 rfl rfl aggProgS (by exact sizeProgS) (Blk.put_ hDr _ _) ?_
 refine ⟨(HX1.out.trans HY7.out).putAt _ _ _ (fun hlt=>absurd hlt zb70),⟨c.name,c.seats,c.stakes,⟨A1,c.vars.n,c1⟩,⟨A2,c.start.n,c2⟩,⟨A3,c.turn.n,c3⟩,⟨A4,c.params.n,c4⟩,⟨A5,c.play.n,c5⟩,c.silent,⟨A6,c.quiet.n,c6⟩,⟨A7,c.pays.n,c7⟩⟩,rfl,?_⟩
 have hkp:Kept (·=rb) w7 (putAt w7 rb 0 #[.string c.name,.int .i64 c.seats,c.stakes.v,.slice A1 c.vars.n c1,.slice A2 c.start.n c2,.slice A3 c.turn.n c3,.slice A4 c.params.n c4,.slice A5 c.play.n c5,.string c.silent,.slice A6 c.quiet.n c6,.slice A7 c.pays.n c7]):=Kept.putAt (kR _ _) _ _ _ (fun _=>rfl)
 have hws:=hkp.size
 have E6:=HZ7.out
 have E5:=HZ6.out.trans E6
 have E4:=HZ5.out.trans E5
 have E3:=HZ4.out.trans E4
 have E2:=HZ3.out.trans E3
 have E1:=HZ2.out.trans E2
 have k0:=HY0.out.size
 have k1:=HY1.out.size
 have k2:=HY2.out.size
 have k3:=HY3.out.size
 have k4:=HY4.out.size
 have k5:=HY5.out.size
 have k6:=HY6.out.size
 have k7:=HY7.out.size
 have s1:=E1.size
 have s2:=E2.size
 have s3:=E3.size
 have s4:=E4.size
 have s5:=E5.size
 have s6:=E6.size
 have hrb:=hD.out.lt
 have hNr:N≤rb:=Nat.le_trans hN HRW.out
 refine ⟨hP1.out.name,hP1.out.nameOk,hP1.out.seats,hP1.out.seatsOk,((hP1.out.stakes.ext HY7.out).kept hkp (fun i e=>by omega)).mono zb85,?_,?_,?_,?_,?_,hP1.out.silent,hP1.out.silentOk,?_,?_⟩
 ·exact ((HK1.out.ext E1).kept hkp (fun i hi e=>by omega)).at_ (fun i hi=>by omega)
 ·exact ((HK2.out.kept E2 (fun i hi=>⟨hi.2,fun f=>f⟩)).kept hkp (fun i hi=>⟨by omega,by omega⟩)).at_ (fun i hi=>by omega)
 ·exact ((HK3.out.kept E3 (fun i hi=>⟨hi.2,fun f=>f⟩)).kept hkp (fun i hi=>⟨by omega,by omega⟩)).at_ (fun i hi=>by omega)
 ·exact ((HK4.out.ext E4).kept hkp (fun i hi e=>by omega)).at_ (fun i hi=>by omega)
 ·exact ((HK5.out.kept E5 (fun i hi=>⟨hi.2,fun f=>f⟩)).kept hkp (fun i hi=>⟨by omega,by omega⟩)).at_ (fun i hi=>by omega)
 ·exact ((HK6.out.kept E6 (fun i hi=>⟨hi.2,fun f=>f⟩)).kept hkp (fun i hi=>⟨by omega,by omega⟩)).at_ (fun i hi=>by omega)
 ·exact (HK7.out.kept hkp (fun i hi=>⟨hi.2,by omega⟩)).at_ (fun i hi=>by omega)
end Go.Proofs.YtbfbabbcdochjaaGreatDoor
