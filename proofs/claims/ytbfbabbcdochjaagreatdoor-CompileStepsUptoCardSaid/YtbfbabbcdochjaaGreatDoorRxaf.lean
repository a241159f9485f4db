/- Several texts joined: Qe, Qf, Qg. -/
import Derived.Test.YtbfbabbcdochjaaGreatDoorRxpk
import Derived.Test.YtbfbabbcdochjaaGreatDoorRxae
set_option maxHeartbeats 4000000
namespace Go.Proofs.YtbfbabbcdochjaaGreatDoor
open Go.RowKit So
abbrev SzEC (w:World) (F:EF):Prop:=∀ (A:Option Addr) (n c N:Nat) (w':World),Ext w w'→N≤w.heap.size→ESl w N A n F→Calls Tryz.prog 127 #[.slice A n c] w' fun e w2=>e=.returned (.int .i64 (w64 F.size))∧Ext w' w2
set_option maxRecDepth 100000 in
theorem szexprs_any (w0:World) (F:EF):SzEC w0 F:=by
 refine ef_ind (C:=SzEC w0) ?_ F
 intro F IH A n c N w hx0 hN h
 refine zy111 ?_;clear h IH;intro b off hm HN HA HE HI
 go_enter Tryz.func127,Tryz.ntmps127
 go_wp2_with fail
 go_loopw [3,10] (fun t3 t10 wr=>∃ (j acc:Nat) (R:EF),j+R.len=n∧acc+kidsE R=F.size∧t10=.int .i64 j∧t3=.int .i64 (w64 acc)∧EFAt w0 N R b (off+j * 4)∧EF.All (SzEC w0) R∧Ext w wr) (fun _ t10 _=>n - (intOf t10).toNat)
 case atStart=>exact ⟨0,n,F,by rw [HN.out,Nat.zero_add],by rw [HN.out,size_kidsE],rfl,by rw [w64_nat zb85],by simpa using HE.out,HI.out,kR _ _⟩
 case round =>
  obtain ⟨j,acc,R,hj,hacc,rfl,rfl,hR,hI,hx⟩:=hrel
  have HR:=J hR
  have HI2:=J hI
  have HX:=J hx
  clear hR hI hx
  cases R with
  | nil =>
   simp only [EF.len,kidsE,Nat.add_zero] at hj hacc
   subst hj
   subst hacc
   go_wp2_with fail
   go_ret
   exact ⟨rfl,HX.out⟩
  | cons op m name k r =>
   obtain ⟨hb,h1,h2,h3,⟨A',cap,b',off',hh,hg,hl,hA',hk⟩,hr⟩:=HR.out
   simp only [EF.len,kidsE] at hj hacc
   have hlt:(j:Int) < n:=by omega
   obtain rfl:=HA.out zb85
   have hx0r:=hx0.trans HX.out
   refine zy21 ?_;intro hbl hh' hg' hbw
   have KE:=J (show ESl w0 N A' k.len k from ⟨rfl,hl,b',off',hA',hk⟩)
   have IK:=J HI2.out.1
   have HX0:=J hx0r
   have HR2:=J hr
   clear hh hg hl hA' hk h1 h2 h3 HR hbl hx0r hr
   go_wp2_with fail
   have y0:Ext wr _:=(kR _ wr).alloc (.cells (ecells op m name A' k.len cap) 200)
   refine (IK.out _ _ _ N _ (HX0.out.trans y0) hN KE.out).mono ?_
   rintro e w2 ⟨rfl,hx2⟩
   go_wp2_with fail
   go_roundw
   case rel=>exact ⟨j+1,acc+k.size,r,by omega,by omega,by go_num,by simp only [w64_w64,w64_w64r];congr 2,by rw [Nat.add_mul,← Nat.add_assoc];exact HR2.out,HI2.out.2,HX.out.trans (y0.trans hx2)⟩
   case measure=>simp only [intOf];omega
abbrev SzSC (w:World) (F:SF):Prop:=∀ (A:Option Addr) (n c N:Nat) (w':World),Ext w w'→N≤w.heap.size→SSl w N A n F→Calls Tryz.prog 80 #[.slice A n c] w' fun e w2=>e=.returned (.int .i64 (w64 F.size))∧Ext w' w2
set_option maxRecDepth 100000 in
theorem szblock_any (w0:World) (F:SF):SzSC w0 F:=by
 refine sf_ind (C:=SzSC w0) ?_ F
 intro F IH A n c N w hx0 hN h
 refine zy111 ?_;clear h IH;intro b off hm HN HA HE HI
 go_enter Tryz.func80,Tryz.ntmps80
 go_wp2_with fail
 go_loopw [3,10] (fun t3 t10 wr=>∃ (j acc:Nat) (R:SF),j+R.len=n∧acc+kidsS R=F.size∧t10=.int .i64 j∧t3=.int .i64 (w64 acc)∧SFAt w0 N R b (off+j * 7)∧SF.All (SzSC w0) R∧Ext w wr) (fun _ t10 _=>n - (intOf t10).toNat)
 case atStart=>exact ⟨0,n,F,by rw [HN.out,Nat.zero_add],by rw [HN.out,size_kidsS],rfl,by rw [w64_nat zb85],by simpa using HE.out,HI.out,kR _ _⟩
 case round =>
  obtain ⟨j,acc,R,hj,hacc,rfl,rfl,hR,hI,hx⟩:=hrel
  have HR:=J hR
  have HI2:=J hI
  have HX:=J hx
  clear hR hI hx
  cases R with
  | nil =>
   simp only [SF.len,kidsS,Nat.add_zero] at hj hacc
   subst hj
   subst hacc
   go_wp2_with fail
   go_ret
   exact ⟨rfl,HX.out⟩
  | cons kind name es low high l x r =>
   obtain ⟨hb,h1,h2,h3,h4,⟨eA,ec,lA,lc,xA,xc,be,oe,bl,ol,bx,ox,hh,hg,n1,n2,n3,a1,a2,a3,he,hl,hxx⟩,hr⟩:=HR.out
   simp only [SF.len,kidsS] at hj hacc
   have hlt:(j:Int) < n:=by omega
   obtain rfl:=HA.out zb85
   have hx0r:=hx0.trans HX.out
   refine zy21 ?_;intro hbl hh' hg' hbw
   have KE:=J (show ESl w0 N eA es.len es from ⟨rfl,n1,be,oe,a1,he⟩)
   refine zy33 ?_;intro KL KX
   have IL:=J HI2.out.1
   have IX:=J HI2.out.2.1
   have HX0:=J hx0r
   have HR2:=J hr
   clear hh hg n1 n2 n3 a1 a2 a3 he hl hxx h1 h2 h3 h4 HR hbl hx0r hr
   go_upto_region 5 with (fail)
   have y0:Ext wr _:=(kR _ wr).alloc (.cells (scells kind name eA es.len ec low high lA l.len lc xA x.len xc) 151)
   have hB:=bN wr 151 (scells kind name eA es.len ec low high lA l.len lc xA x.len xc)
   generalize hW:(wr.alloc (.cells (scells kind name eA es.len ec low high lA l.len lc xA x.len xc) 151))=W at y0 hB ⊢
   clear hW hh' hg'
   generalize wr.heap.size=pb at hB ⊢
   have hC:=J hB
   have HX1:=J (HX0.out.trans y0)
   have HXr:=J (HX.out.trans y0)
   clear HX y0
   refine qr3 (fun w1=>Ext W w1) [(0,2),(1,2),(2,1),(4,2),(5,1),(8,2),(9,1),(3,0),(6,0),(7,2),(10,0),(11,2),(12,2),(13,2)] ?_;refine qrl ?_
   refine zy72 ?_;intro HY0
   (repeat first|refine qs3 ?_|refine qt3 HY0.out zb27 ?_|refine qp3 HY0.out ?_)
   (refine w3_act (fun K hK=>?_);go_simp)
   refine (szexprs_any w0 es _ _ _ N _ (HX1.out.trans HY0.out) hN KE.out).mono ?_
   refine zy59 ?_;intro w1 HY1
   clear hK K
   (repeat refine qs3 ?_)
   (repeat first|refine qs3 ?_|refine qt3 HY1.out zb27 ?_|refine qp3 HY1.out ?_)
   (refine w3_act (fun K hK=>?_);go_simp)
   refine (IL.out _ _ _ N _ (HX1.out.trans HY1.out) hN KL.out).mono ?_
   rintro e w2 ⟨rfl,hx1⟩
   have HY2:=J (HY1.out.trans hx1)
   clear hx1
   refine hK.out _ _ (fun _=>HY2.out) ?_
   clear hK K
   (repeat refine qs3 ?_)
   (repeat first|refine qs3 ?_|refine qt3 HY2.out zb27 ?_|refine qp3 HY2.out ?_)
   (refine w3_act (fun K hK=>?_);go_simp)
   refine (IX.out _ _ _ N _ (HX1.out.trans HY2.out) hN KX.out).mono ?_
   rintro e w3 ⟨rfl,hx1⟩
   have HY3:=J (HY2.out.trans hx1)
   clear hx1
   refine hK.out _ _ (fun _=>HY3.out) ?_
   clear hK K
   refine qf3 ?_
   go_wp2_with fail
   go_roundw
   case rel=>exact ⟨j+1,acc+(es.size+l.size+x.size),r,by omega,by omega,by go_num,by simp only [wrap_w64,w64_w64,w64_w64r];congr 2,by rw [Nat.add_mul,← Nat.add_assoc];exact HR2.out,HI2.out.2.2,HXr.out.trans HY3.out⟩
   case measure=>simp only [intOf];omega
theorem szblock_ok (F:SF) (A:Option Addr) (n c N:Nat) (w:World) (hN:N≤w.heap.size) (h:SSl w N A n F):Calls Tryz.prog 80 #[.slice A n c] w fun e w2=>e=.returned (.int .i64 (w64 F.size))∧Ext w w2 :=
 szblock_any w F A n c N w (kR _ _) hN h
open Go.RowKit So
def preS (p:Pr):Nat→Nat
 | 0=>p.vars.length+p.params.length
 | 1=>p.vars.length+p.params.length+p.start.size
 | 2=>p.vars.length+p.params.length+p.start.size+p.turn.size
 | 3=>p.vars.length+p.params.length+p.start.size+p.turn.size+p.play.size
 | 4=>p.vars.length+p.params.length+p.start.size+p.turn.size+p.play.size+p.quiet.size
 | _=>psize p
theorem idx5 (a b c d f:Sl3) (k:Nat) (hk:k < 5) (w:World):(Instr.index 106 (.agg #[a.v,b.v,c.v,d.v,f.v]) (.int .i64 k)).run Tryz.prog w=.ok ([a.v,b.v,c.v,d.v,f.v].getD k undef) w:=by
 have hs:∀ w,(sizeOf 55).run Tryz.prog w=.ok 1 w:=fun w=>sizeOf_run zb83 w
 rcases (by omega:k=0 ∨ k=1 ∨ k=2 ∨ k=3 ∨ k=4) with rfl | rfl | rfl | rfl | rfl <;>
  simp [Instr.index,run_underlying Tryz.underlying106,asIntOf,hs,part,isAgg,run_underlying Tryz.underlying55,go_sem]
set_option maxRecDepth 100000 in
theorem ssize_any (c:Pc) (p:Pr) (N:Nat) (w:World) (hN:N≤w.heap.size) (h:PAt w N c p):Calls Tryz.prog 43 #[.agg c.cells] w fun e w'=>e=.returned (.int .i64 (w64 (psize p)))∧Ext w w':=by
 have hx0:=(kR (fun _=>False) w).alloc (.cells c.cells 57)
 have hB:=bN w 57 c.cells
 have hP:=J (h.ext hx0 hN)
 have hv:=Fits.max h.vars.2.1 zb85
 have hq:=Fits.max h.params.2.1 zb85
 have ev:=J h.vars.1
 have eq:=J h.params.1
 have hNa:=Nat.le_trans hN hx0.size
 clear h
 go_enter Tryz.func43,Tryz.ntmps43
 go_upto_region 1 with (fail)
 generalize hW:(w.alloc (.cells c.cells 57))=W at hx0 hB hP hNa ⊢
 clear hW
 have hc1:=bC hB
 have hlt:=hB.lt
 generalize w.heap.size=pb at hB hc1 hlt ⊢
 have hC:=J hB
 clear hB
 go_wp2_with fail
 go_loopw [3,24] (fun t3 t24 wr=>∃ (j:Nat),j≤5∧t24=.int .i64 j∧t3=.int .i64 (w64 (preS p j))∧Ext W wr) (fun _ t24 _=>5 - (intOf t24).toNat)
 case atStart=>exact ⟨0,by omega,rfl,by simp only [preS,ev.out,eq.out];rw [w64_nat (by have:=ev.out;have:=eq.out;omega)];simp,kR _ _⟩
 case round =>
  obtain ⟨j,hj,rfl,rfl,hx⟩:=hrel
  have HX:=J hx
  clear hx
  rcases (by omega:j=0 ∨ j=1 ∨ j=2 ∨ j=3 ∨ j=4 ∨ j=5) with rfl | rfl | rfl | rfl | rfl | rfl
  ·have hix:(Instr.index 106 (.agg #[c.start.v,c.turn.v,c.play.v,c.quiet.v,c.pays.v]) (.int .i64 0)).run Tryz.prog wr=.ok c.start.v wr:=idx5 c.start c.turn c.play c.quiet c.pays 0 zb85 wr
   go_wp2_with fail
   refine (szblock_ok p.start _ _ _ N _ (Nat.le_trans hNa HX.out.size) (hP.out.start.ext HX.out hNa)).mono ?_
   rintro e w1 ⟨rfl,hx1⟩
   go_wp2_with fail
   go_roundw
   case rel=>exact ⟨1,by omega,rfl,by simp only [w64_w64,w64_w64r,preS];congr 2,HX.out.trans hx1⟩
   case measure=>simp [intOf]
  ·have hix:(Instr.index 106 (.agg #[c.start.v,c.turn.v,c.play.v,c.quiet.v,c.pays.v]) (.int .i64 1)).run Tryz.prog wr=.ok c.turn.v wr:=idx5 c.start c.turn c.play c.quiet c.pays 1 zb85 wr
   go_wp2_with fail
   refine (szblock_ok p.turn _ _ _ N _ (Nat.le_trans hNa HX.out.size) (hP.out.turn.ext HX.out hNa)).mono ?_
   rintro e w1 ⟨rfl,hx1⟩
   go_wp2_with fail
   go_roundw
   case rel=>exact ⟨2,by omega,rfl,by simp only [w64_w64,w64_w64r,preS];congr 2,HX.out.trans hx1⟩
   case measure=>simp [intOf]
  ·have hix:(Instr.index 106 (.agg #[c.start.v,c.turn.v,c.play.v,c.quiet.v,c.pays.v]) (.int .i64 2)).run Tryz.prog wr=.ok c.play.v wr:=idx5 c.start c.turn c.play c.quiet c.pays 2 zb85 wr
   go_wp2_with fail
   refine (szblock_ok p.play _ _ _ N _ (Nat.le_trans hNa HX.out.size) (hP.out.play.ext HX.out hNa)).mono ?_
   rintro e w1 ⟨rfl,hx1⟩
   go_wp2_with fail
   go_roundw
   case rel=>exact ⟨3,by omega,rfl,by simp only [w64_w64,w64_w64r,preS];congr 2,HX.out.trans hx1⟩
   case measure=>simp [intOf]
  ·have hix:(Instr.index 106 (.agg #[c.start.v,c.turn.v,c.play.v,c.quiet.v,c.pays.v]) (.int .i64 3)).run Tryz.prog wr=.ok c.quiet.v wr:=idx5 c.start c.turn c.play c.quiet c.pays 3 zb85 wr
   go_wp2_with fail
   refine (szblock_ok p.quiet _ _ _ N _ (Nat.le_trans hNa HX.out.size) (hP.out.quiet.ext HX.out hNa)).mono ?_
   rintro e w1 ⟨rfl,hx1⟩
   go_wp2_with fail
   go_roundw
   case rel=>exact ⟨4,by omega,rfl,by simp only [w64_w64,w64_w64r,preS];congr 2,HX.out.trans hx1⟩
   case measure=>simp [intOf]
  ·have hix:(Instr.index 106 (.agg #[c.start.v,c.turn.v,c.play.v,c.quiet.v,c.pays.v]) (.int .i64 4)).run Tryz.prog wr=.ok c.pays.v wr:=idx5 c.start c.turn c.play c.quiet c.pays 4 zb85 wr
   go_wp2_with fail
   refine (szblock_ok p.pays _ _ _ N _ (Nat.le_trans hNa HX.out.size) (hP.out.pays.ext HX.out hNa)).mono ?_
   rintro e w1 ⟨rfl,hx1⟩
   go_wp2_with fail
   go_roundw
   case rel=>exact ⟨5,by omega,rfl,by simp only [w64_w64,w64_w64r,preS,psize];congr 2,HX.out.trans hx1⟩
   case measure=>simp [intOf]
  ·go_wp2_with fail
   go_ret
   exact ⟨rfl,hx0.trans HX.out⟩
theorem deep_nn:∀ F:EF,0≤F.deep∧F.deep≤9223372036854775807
 | .nil=>by simp [EF.deep]
 | .cons _ _ _ k r=>by
  have:=deep_nn r
  have:-9223372036854775808≤w64 (1+k.deep)∧w64 (1+k.deep)≤9223372036854775807:=by rw [w64_def];omega
  rw [EF.deep]
  omega
abbrev DpRC (w:World) (F:EF):Prop:=∀ (A:Option Addr) (n c N:Nat) (op m:Int) (name:ByteArray) (w':World),Ext w w'→N≤w.heap.size→ESl w N A n F→Calls Tryz.prog 150 #[.agg (ecells op m name A n c)] w' fun e w2=>e=.returned (.int .i64 (w64 (1+F.deep)))∧Ext w' w2
set_option maxRecDepth 100000 in
theorem rdeep_any (w0:World) (F:EF):DpRC w0 F:=by
 refine ef_ind (C:=DpRC w0) ?_ F
 intro F IH A n c N op m name w hx0 hN h
 refine zy111 ?_;clear h IH;intro b off hm HN HA HE HI
 have hx1:=(kR (fun _=>False) w).alloc (.cells (ecells op m name A n c) 84)
 have hB:=bN w 84 (ecells op m name A n c)
 go_enter Tryz.func150,Tryz.ntmps150
 go_upto_region 1 with (fail)
 have HX0:=J (hx0.trans hx1)
 have HX1:=J hx1
 generalize hW:(w.alloc (.cells (ecells op m name A n c) 84))=W at hB HX0 HX1 ⊢
 clear hW hx1
 generalize w.heap.size=pb at hB ⊢
 have hC:=J hB
 clear hB
 go_wp2_with fail
 go_loopw [3,4] (fun t3 t4 wr=>∃ (j:Nat) (acc:Int) (R:EF),j+R.len=n∧max acc R.deep=F.deep∧0≤acc∧t4=.int .i64 j∧t3=.int .i64 acc∧EFAt w0 N R b (off+j * 4)∧EF.All (DpRC w0) R∧Ext W wr) (fun _ t4 _=>n - (intOf t4).toNat)
 case atStart=>exact ⟨0,0,F,by rw [HN.out,Nat.zero_add],by have:=deep_nn F;omega,Int.le_refl _,rfl,rfl,by simpa using HE.out,HI.out,kR _ _⟩
 case round =>
  obtain ⟨j,acc,R,hj,hacc,hnn,rfl,rfl,hR,hI,hx⟩:=hrel
  have HNN:=J hnn
  clear hnn
  have HR:=J hR
  have HI2:=J hI
  have HX:=J hx
  have hcr:=bC (bX hC.out hx)
  have hlr:=(bX hC.out hx).lt
  clear hR hI hx
  cases R with
  | nil =>
   simp only [EF.len,EF.deep,Nat.add_zero] at hj hacc
   subst hj
   have HACC:=J hacc
   clear hacc
   go_wp2_with fail
   go_ret
   refine ⟨ret_int ?_,HX1.out.trans HX.out⟩
   have h1:=HACC.out
   have h3:=HNN.out
   have h2:=(deep_nn F).1
   rw [show acc=F.deep by omega]
   show w64 _=_
   congr 1 <;> omega
  | cons op' m' name' k r =>
   obtain ⟨hb,h1,h2,h3,⟨A',cap,b',off',hh,hg,hl,hA',hk⟩,hr⟩:=HR.out
   simp only [EF.len,EF.deep] at hj hacc
   have HACC:=J hacc
   clear hacc
   have hlt:(j:Int) < n:=by omega
   obtain rfl:=HA.out zb85
   have hx0r:=HX0.out.trans HX.out
   refine zy21 ?_;intro hbl hh' hg' hbw
   have KE:=J (show ESl w0 N A' k.len k from ⟨rfl,hl,b',off',hA',hk⟩)
   have IK:=J HI2.out.1
   have HX0r:=J hx0r
   have HR2:=J hr
   clear hh hg hl hA' hk h1 h2 h3 HR hbl hx0r hr
   go_wp2_with fail
   refine (IK.out _ _ _ N _ _ _ _ HX0r.out hN KE.out).mono ?_
   rintro e w2 ⟨rfl,hx2⟩
   obtain ⟨d,hd⟩:∃ d,d=w64 (1+k.deep):=⟨_,rfl⟩
   rw [← hd]
   have HD:=J hd
   clear hd
   by_cases hgt:acc < d
   ·go_wp2_with fail
    go_roundw
    case rel=>exact ⟨j+1,d,r,by omega,by have:=HACC.out;have:=HD.out;omega,by have:=HNN.out;omega,by go_num,rfl,by rw [Nat.add_mul,← Nat.add_assoc];exact HR2.out,HI2.out.2,HX.out.trans hx2⟩
    case measure=>simp only [intOf];omega
   ·go_wp2_with fail
    go_roundw
    case rel=>exact ⟨j+1,acc,r,by omega,by have:=HACC.out;have:=HD.out;omega,by have:=HNN.out;omega,by go_num,rfl,by rw [Nat.add_mul,← Nat.add_assoc];exact HR2.out,HI2.out.2,HX.out.trans hx2⟩
    case measure=>simp only [intOf];omega
abbrev DpSC (w:World) (F:EF):Prop:=∀ (A:Option Addr) (n c N:Nat) (op m:Int) (name:ByteArray) (w':World),Ext w w'→N≤w.heap.size→ESl w N A n F→Calls Tryz.prog 183 #[.agg (ecells op m name A n c)] w' fun e w2=>e=.returned (.int .i64 (w64 (1+F.deep)))∧Ext w' w2
set_option maxRecDepth 100000 in
theorem sdeep_any (w0:World) (F:EF):DpSC w0 F:=by
 refine ef_ind (C:=DpSC w0) ?_ F
 intro F IH A n c N op m name w hx0 hN h
 refine zy111 ?_;clear h IH;intro b off hm HN HA HE HI
 have hx1:=(kR (fun _=>False) w).alloc (.cells (ecells op m name A n c) 200)
 have HX0:=J (hx0.trans hx1)
 have HX1:=J hx1
 clear hx1
 go_enter Tryz.func183,Tryz.ntmps183
 go_upto_region 1 with (fail)
 go_wp2_with fail
 go_loopw [3,9] (fun t3 t9 wr=>∃ (j:Nat) (acc:Int) (R:EF),j+R.len=n∧max acc R.deep=F.deep∧0≤acc∧t9=.int .i64 j∧t3=.int .i64 acc∧EFAt w0 N R b (off+j * 4)∧EF.All (DpSC w0) R∧Ext (w.alloc (.cells (ecells op m name A n c) 200)) wr) (fun _ t9 _=>n - (intOf t9).toNat)
 case atStart=>exact ⟨0,0,F,by rw [HN.out,Nat.zero_add],by have:=deep_nn F;omega,Int.le_refl _,rfl,rfl,by simpa using HE.out,HI.out,kR _ _⟩
 case round =>
  obtain ⟨j,acc,R,hj,hacc,hnn,rfl,rfl,hR,hI,hx⟩:=hrel
  have HNN:=J hnn
  clear hnn
  have HR:=J hR
  have HI2:=J hI
  have HX:=J hx
  clear hR hI hx
  cases R with
  | nil =>
   simp only [EF.len,EF.deep,Nat.add_zero] at hj hacc
   subst hj
   have HACC:=J hacc
   clear hacc
   go_wp2_with fail
   go_ret
   refine ⟨ret_int ?_,HX1.out.trans HX.out⟩
   have h1:=HACC.out
   have h3:=HNN.out
   have h2:=(deep_nn F).1
   rw [show acc=F.deep by omega]
  | cons op' m' name' k r =>
   obtain ⟨hb,h1,h2,h3,⟨A',cap,b',off',hh,hg,hl,hA',hk⟩,hr⟩:=HR.out
   simp only [EF.len,EF.deep] at hj hacc
   have HACC:=J hacc
   clear hacc
   have hlt:(j:Int) < n:=by omega
   obtain rfl:=HA.out zb85
   have hx0r:=HX0.out.trans HX.out
   refine zy21 ?_;intro hbl hh' hg' hbw
   have KE:=J (show ESl w0 N A' k.len k from ⟨rfl,hl,b',off',hA',hk⟩)
   have IK:=J HI2.out.1
   have HX0r:=J hx0r
   have HR2:=J hr
   clear hh hg hl hA' hk h1 h2 h3 HR hbl hx0r hr
   go_wp2_with fail
   have y0:Ext wr _:=(kR _ wr).alloc (.cells (ecells op' m' name' A' k.len cap) 200)
   refine (IK.out _ _ _ N _ _ _ _ (HX0r.out.trans y0) hN KE.out).mono ?_
   rintro e w2 ⟨rfl,hx2⟩
   obtain ⟨d,hd⟩:∃ d,d=w64 (1+k.deep):=⟨_,rfl⟩
   rw [← hd]
   have HD:=J hd
   clear hd
   go_wp2_with fail
   go_roundw
   case rel=>exact ⟨j+1,max acc d,r,by omega,by have:=HACC.out;have:=HD.out;omega,by have:=HNN.out;omega,by go_num,by congr 1;split <;> omega,by rw [Nat.add_mul,← Nat.add_assoc];exact HR2.out,HI2.out.2,HX.out.trans (y0.trans hx2)⟩
   case measure=>simp only [intOf];omega
open Go.RowKit So
def EFIn (w:World) (D:Nat→Prop):EF→Nat→Nat→Prop
 | .nil,_,_=>True
 | .cons op n name k r,b,off=>D b∧i64ok op∧i64ok n∧name.size≤maxLen∧(∃ A cap b' off',Proofs.YtbfbabbcdochjaaGreatDoor.has w b off 4=true∧gets w b off 4=ecells op n name A k.len cap∧Fits k.len 56∧(0 < k.len→A=some ⟨b',off',none⟩)∧EFIn w D k b' off')∧EFIn w D r b (off+4)
def EsIn (w:World) (D:Nat→Prop) (A:Option Addr) (n:Nat) (F:EF):Prop:=n=F.len∧Fits n 56∧∃ b off,(0 < n→A=some ⟨b,off,none⟩)∧EFIn w D F b off
def SFIn (w:World) (D:Nat→Prop):SF→Nat→Nat→Prop
 | .nil,_,_=>True
 | .cons kind name e low high l x r,b,off=>D b∧i64ok kind∧i64ok low∧i64ok high∧name.size≤maxLen ∧
  (∃ eA ec lA lc xA xc be oe bl ol bx ox,Proofs.YtbfbabbcdochjaaGreatDoor.has w b off 7=true∧gets w b off 7=scells kind name eA e.len ec low high lA l.len lc xA x.len xc∧Fits e.len 56∧Fits l.len 112∧Fits x.len 112 ∧
   (0 < e.len→eA=some ⟨be,oe,none⟩)∧(0 < l.len→lA=some ⟨bl,ol,none⟩)∧(0 < x.len→xA=some ⟨bx,ox,none⟩)∧EFIn w D e be oe∧SFIn w D l bl ol∧SFIn w D x bx ox)∧SFIn w D r b (off+7)
def SsIn (w:World) (D:Nat→Prop) (A:Option Addr) (n:Nat) (F:SF):Prop:=n=F.len∧Fits n 112∧∃ b off,(0 < n→A=some ⟨b,off,none⟩)∧SFIn w D F b off
section
variable {S:Nat→Prop} {w w':World} {D D':Nat→Prop}
theorem EFIn.kept (hk:Kept S w w') (hD:∀ i,D i→i < w.heap.size∧¬ S i):∀ {F:EF} {b off:Nat},EFIn w D F b off→EFIn w' D F b off
 | .nil,_,_,_=>trivial
 | .cons _ _ _ _ _,b,off,h=>by
  obtain ⟨hb,h1,h2,h3,⟨A,cap,b',off',hh,hg,hl,hA,hk'⟩,hr⟩:=h
  obtain ⟨q1,q2⟩:=hD b hb
  exact ⟨hb,h1,h2,h3,⟨A,cap,b',off',by rw [has_keep hk q1 q2];exact hh,by rw [gets_keep hk q1 q2];exact hg,hl,hA,hk'.kept hk hD⟩,hr.kept hk hD⟩
theorem EFIn.mono (hD:∀ i,D i→D' i):∀ {F:EF} {b off:Nat},EFIn w D F b off→EFIn w D' F b off
 | .nil,_,_,_=>trivial
 | .cons _ _ _ _ _,b,off,h=>by
  obtain ⟨hb,h1,h2,h3,⟨A,cap,b',off',hh,hg,hl,hA,hk'⟩,hr⟩:=h
  exact ⟨hD b hb,h1,h2,h3,⟨A,cap,b',off',hh,hg,hl,hA,hk'.mono hD⟩,hr.mono hD⟩
theorem EFIn.at_ {N:Nat} (hD:∀ i,D i→i < N):∀ {F:EF} {b off:Nat},EFIn w D F b off→EFAt w N F b off
 | .nil,_,_,_=>trivial
 | .cons _ _ _ _ _,b,off,h=>by
  obtain ⟨hb,h1,h2,h3,⟨A,cap,b',off',hh,hg,hl,hA,hk'⟩,hr⟩:=h
  exact ⟨hD b hb,h1,h2,h3,⟨A,cap,b',off',hh,hg,hl,hA,hk'.at_ hD⟩,hr.at_ hD⟩
theorem SFIn.kept (hk:Kept S w w') (hD:∀ i,D i→i < w.heap.size∧¬ S i):∀ {F:SF} {b off:Nat},SFIn w D F b off→SFIn w' D F b off
 | .nil,_,_,_=>trivial
 | .cons _ _ _ _ _ _ _ _,b,off,h=>by
  obtain ⟨hb,h1,h2,h3,h4,⟨eA,ec,lA,lc,xA,xc,be,oe,bl,ol,bx,ox,hh,hg,n1,n2,n3,a1,a2,a3,he,hl,hx⟩,hr⟩:=h
  obtain ⟨q1,q2⟩:=hD b hb
  exact ⟨hb,h1,h2,h3,h4,⟨eA,ec,lA,lc,xA,xc,be,oe,bl,ol,bx,ox,by rw [has_keep hk q1 q2];exact hh,by rw [gets_keep hk q1 q2];exact hg,n1,n2,n3,a1,a2,a3,he.kept hk hD,hl.kept hk hD,hx.kept hk hD⟩,hr.kept hk hD⟩
theorem SFIn.mono (hD:∀ i,D i→D' i):∀ {F:SF} {b off:Nat},SFIn w D F b off→SFIn w D' F b off
 | .nil,_,_,_=>trivial
 | .cons _ _ _ _ _ _ _ _,b,off,h=>by
  obtain ⟨hb,h1,h2,h3,h4,⟨eA,ec,lA,lc,xA,xc,be,oe,bl,ol,bx,ox,hh,hg,n1,n2,n3,a1,a2,a3,he,hl,hx⟩,hr⟩:=h
  exact ⟨hD b hb,h1,h2,h3,h4,⟨eA,ec,lA,lc,xA,xc,be,oe,bl,ol,bx,ox,hh,hg,n1,n2,n3,a1,a2,a3,he.mono hD,hl.mono hD,hx.mono hD⟩,hr.mono hD⟩
theorem SFIn.at_ {N:Nat} (hD:∀ i,D i→i < N):∀ {F:SF} {b off:Nat},SFIn w D F b off→SFAt w N F b off
 | .nil,_,_,_=>trivial
 | .cons _ _ _ _ _ _ _ _,b,off,h=>by
  obtain ⟨hb,h1,h2,h3,h4,⟨eA,ec,lA,lc,xA,xc,be,oe,bl,ol,bx,ox,hh,hg,n1,n2,n3,a1,a2,a3,he,hl,hx⟩,hr⟩:=h
  exact ⟨hD b hb,h1,h2,h3,h4,⟨eA,ec,lA,lc,xA,xc,be,oe,bl,ol,bx,ox,hh,hg,n1,n2,n3,a1,a2,a3,he.at_ hD,hl.at_ hD,hx.at_ hD⟩,hr.at_ hD⟩
theorem EsIn.kept {A:Option Addr} {n:Nat} {F:EF} (h:EsIn w D A n F) (hk:Kept S w w') (hD:∀ i,D i→i < w.heap.size∧¬ S i):EsIn w' D A n F:=by
 obtain ⟨h1,h2,b,off,h3,h4⟩:=h
 exact ⟨h1,h2,b,off,h3,h4.kept hk hD⟩
theorem EsIn.mono {A:Option Addr} {n:Nat} {F:EF} (h:EsIn w D A n F) (hD:∀ i,D i→D' i):EsIn w D' A n F:=by
 obtain ⟨h1,h2,b,off,h3,h4⟩:=h
 exact ⟨h1,h2,b,off,h3,h4.mono hD⟩
theorem EsIn.at_ {N:Nat} {A:Option Addr} {n:Nat} {F:EF} (h:EsIn w D A n F) (hD:∀ i,D i→i < N):ESl w N A n F:=by
 obtain ⟨h1,h2,b,off,h3,h4⟩:=h
 exact ⟨h1,h2,b,off,h3,h4.at_ hD⟩
theorem SsIn.kept {A:Option Addr} {n:Nat} {F:SF} (h:SsIn w D A n F) (hk:Kept S w w') (hD:∀ i,D i→i < w.heap.size∧¬ S i):SsIn w' D A n F:=by
 obtain ⟨h1,h2,b,off,h3,h4⟩:=h
 exact ⟨h1,h2,b,off,h3,h4.kept hk hD⟩
theorem SsIn.mono {A:Option Addr} {n:Nat} {F:SF} (h:SsIn w D A n F) (hD:∀ i,D i→D' i):SsIn w D' A n F:=by
 obtain ⟨h1,h2,b,off,h3,h4⟩:=h
 exact ⟨h1,h2,b,off,h3,h4.mono hD⟩
theorem SsIn.at_ {N:Nat} {A:Option Addr} {n:Nat} {F:SF} (h:SsIn w D A n F) (hD:∀ i,D i→i < N):SSl w N A n F:=by
 obtain ⟨h1,h2,b,off,h3,h4⟩:=h
 exact ⟨h1,h2,b,off,h3,h4.at_ hD⟩
end
/-! ### those side by side, as a list of heads -/
structure Ec where (op n:Int) (name:ByteArray) (A:Option Addr) (len cap:Nat)
abbrev Ec.cells (c:Ec):Array Value:=ecells c.op c.n c.name c.A c.len c.cap
structure Sc where (kind:Int) (name:ByteArray) (eA:Option Addr) (en ec:Nat) (low high:Int) (lA:Option Addr) (ln lc:Nat) (xA:Option Addr) (xn xc:Nat)
abbrev Sc.cells (c:Sc):Array Value:=scells c.kind c.name c.eA c.en c.ec c.low c.high c.lA c.ln c.lc c.xA c.xn c.xc
def So.EF.app:EF→EF→EF | .nil,b=>b | .cons o n s k r,b=>.cons o n s k (EF.app r b)
def So.SF.app:SF→SF→SF | .nil,b=>b | .cons k n e a c l x r,b=>.cons k n e a c l x (SF.app r b)
theorem ef_app_cons (o n:Int) (s:Str) (k r:EF):∀ P:EF,(P.app (.cons o n s k .nil)).app r=P.app (.cons o n s k r)
 | .nil=>rfl
 | .cons _ _ _ _ q=>by simp only [EF.app];rw [ef_app_cons o n s k r q]
theorem sf_app_cons (k:Int) (n:Str) (e:EF) (a c:Int) (l x r:SF):∀ P:SF,(P.app (.cons k n e a c l x .nil)).app r=P.app (.cons k n e a c l x r)
 | .nil=>rfl
 | .cons _ _ _ _ _ _ _ q=>by simp only [SF.app];rw [sf_app_cons k n e a c l x r q]
theorem ef_app_nil:∀ P:EF,P.app .nil=P | .nil=>rfl | .cons _ _ _ _ q=>by rw [EF.app,ef_app_nil q]
theorem sf_app_nil:∀ P:SF,P.app .nil=P | .nil=>rfl | .cons _ _ _ _ _ _ _ q=>by rw [SF.app,sf_app_nil q]
def EcsIn (w:World) (D:Nat→Prop):List Ec→EF→Prop
 | [],.nil=>True
 | c :: l,.cons op n name k r=>c.op=op∧c.n=n∧c.name=name∧i64ok op∧i64ok n∧name.size≤maxLen∧EsIn w D c.A c.len k∧EcsIn w D l r
 | _,_=>False
structure ScIn (w:World) (D:Nat→Prop) (c:Sc) (kind:Int) (name:Str) (e:EF) (low high:Int) (l x:SF):Prop where
 k:c.kind=kind
 n:c.name=name
 a:c.low=low
 b:c.high=high
 k1:i64ok kind
 a1:i64ok low
 b1:i64ok high
 n1:name.size≤maxLen
 e:EsIn w D c.eA c.en e
 l:SsIn w D c.lA c.ln l
 x:SsIn w D c.xA c.xn x
def ScsIn (w:World) (D:Nat→Prop):List Sc→SF→Prop
 | [],.nil=>True
 | c :: t,.cons kind name e low high l x r=>ScIn w D c kind name e low high l x∧ScsIn w D t r
 | _,_=>False
section
variable {S:Nat→Prop} {w w':World} {D D':Nat→Prop}
theorem EcsIn.len:∀ {l:List Ec} {F:EF},EcsIn w D l F→l.length=F.len
 | [],.nil,_=>rfl
 | _ :: _,.cons _ _ _ _ _,h=>by simp [EF.len,(h.2.2.2.2.2.2.2).len]
 | [],.cons _ _ _ _ _,h=>h.elim
 | _ :: _,.nil,h=>h.elim
theorem ScsIn.len:∀ {l:List Sc} {F:SF},ScsIn w D l F→l.length=F.len
 | [],.nil,_=>rfl
 | _ :: _,.cons _ _ _ _ _ _ _ _,h=>by simp [SF.len,h.2.len]
 | [],.cons _ _ _ _ _ _ _ _,h=>h.elim
 | _ :: _,.nil,h=>h.elim
theorem EcsIn.kept (hk:Kept S w w') (hD:∀ i,D i→i < w.heap.size∧¬ S i):∀ {l:List Ec} {F:EF},EcsIn w D l F→EcsIn w' D l F
 | [],.nil,_=>trivial
 | _ :: _,.cons _ _ _ _ _,h=>⟨h.1,h.2.1,h.2.2.1,h.2.2.2.1,h.2.2.2.2.1,h.2.2.2.2.2.1,h.2.2.2.2.2.2.1.kept hk hD,(h.2.2.2.2.2.2.2).kept hk hD⟩
 | [],.cons _ _ _ _ _,h=>h.elim
 | _ :: _,.nil,h=>h.elim
theorem EcsIn.mono (hD:∀ i,D i→D' i):∀ {l:List Ec} {F:EF},EcsIn w D l F→EcsIn w D' l F
 | [],.nil,_=>trivial
 | _ :: _,.cons _ _ _ _ _,h=>⟨h.1,h.2.1,h.2.2.1,h.2.2.2.1,h.2.2.2.2.1,h.2.2.2.2.2.1,h.2.2.2.2.2.2.1.mono hD,(h.2.2.2.2.2.2.2).mono hD⟩
 | [],.cons _ _ _ _ _,h=>h.elim
 | _ :: _,.nil,h=>h.elim
theorem ScIn.kept {c:Sc} {kind:Int} {name:Str} {e:EF} {low high:Int} {l x:SF} (hk:Kept S w w') (hD:∀ i,D i→i < w.heap.size∧¬ S i) (h:ScIn w D c kind name e low high l x):ScIn w' D c kind name e low high l x :=
 ⟨h.k,h.n,h.a,h.b,h.k1,h.a1,h.b1,h.n1,h.e.kept hk hD,h.l.kept hk hD,h.x.kept hk hD⟩
theorem ScIn.mono {c:Sc} {kind:Int} {name:Str} {e:EF} {low high:Int} {l x:SF} (hD:∀ i,D i→D' i) (h:ScIn w D c kind name e low high l x):ScIn w D' c kind name e low high l x :=
 ⟨h.k,h.n,h.a,h.b,h.k1,h.a1,h.b1,h.n1,h.e.mono hD,h.l.mono hD,h.x.mono hD⟩
theorem ScsIn.kept (hk:Kept S w w') (hD:∀ i,D i→i < w.heap.size∧¬ S i):∀ {l:List Sc} {F:SF},ScsIn w D l F→ScsIn w' D l F
 | [],.nil,_=>trivial
 | _ :: _,.cons _ _ _ _ _ _ _ _,h=>⟨h.1.kept hk hD,h.2.kept hk hD⟩
 | [],.cons _ _ _ _ _ _ _ _,h=>h.elim
 | _ :: _,.nil,h=>h.elim
theorem ScsIn.mono (hD:∀ i,D i→D' i):∀ {l:List Sc} {F:SF},ScsIn w D l F→ScsIn w D' l F
 | [],.nil,_=>trivial
 | _ :: _,.cons _ _ _ _ _ _ _ _,h=>⟨h.1.mono hD,h.2.mono hD⟩
 | [],.cons _ _ _ _ _ _ _ _,h=>h.elim
 | _ :: _,.nil,h=>h.elim
theorem EcsIn.snoc {c:Ec} {op n:Int} {name:Str} {k:EF} (h1:c.op=op∧c.n=n∧c.name=name∧i64ok op∧i64ok n∧name.size≤maxLen∧EsIn w D c.A c.len k):∀ {l:List Ec} {F:EF},EcsIn w D l F→EcsIn w D (l ++ [c]) (F.app (.cons op n name k .nil))
 | [],.nil,_=>⟨h1.1,h1.2.1,h1.2.2.1,h1.2.2.2.1,h1.2.2.2.2.1,h1.2.2.2.2.2.1,h1.2.2.2.2.2.2,trivial⟩
 | _ :: _,.cons _ _ _ _ _,h=>⟨h.1,h.2.1,h.2.2.1,h.2.2.2.1,h.2.2.2.2.1,h.2.2.2.2.2.1,h.2.2.2.2.2.2.1,(h.2.2.2.2.2.2.2).snoc h1⟩
 | [],.cons _ _ _ _ _,h=>h.elim
 | _ :: _,.nil,h=>h.elim
theorem ScsIn.snoc {c:Sc} {kind:Int} {name:Str} {e:EF} {low high:Int} {l x:SF} (h1:ScIn w D c kind name e low high l x):∀ {t:List Sc} {F:SF},ScsIn w D t F→ScsIn w D (t ++ [c]) (F.app (.cons kind name e low high l x .nil))
 | [],.nil,_=>⟨h1,trivial⟩
 | _ :: _,.cons _ _ _ _ _ _ _ _,h=>⟨h.1,h.2.snoc h1⟩
 | [],.cons _ _ _ _ _ _ _ _,h=>h.elim
 | _ :: _,.nil,h=>h.elim
theorem EcsIn.shut {b:Nat} (hb:D b):∀ {l:List Ec} {F:EF} {off:Nat},EcsIn w D l F→(0 < l.length→Row w b off (rowsL Ec.cells l))→EFIn w D F b off
 | [],.nil,_,_,_=>trivial
 | c :: t,.cons op n name k r,off,h,hr=>by
  obtain ⟨rfl,rfl,rfl,h4,h5,h6,⟨e1,e2,b',off',e3,e4⟩,h8⟩:=h
  have hrow:=hr zb86
  have h0:=rowsL_row (f:=Ec.cells) (k:=4) (fun _=>rfl) hrow 0 zb86
  simp only [Nat.zero_mul,Nat.add_zero,List.getElem_cons_zero] at h0
  refine ⟨hb,h4,h5,h6,⟨c.A,c.cap,b',off',h0.1,?_,by rw [← e1];exact e2,fun q=>e3 (by rw [e1];exact q),e4⟩,h8.shut hb (fun h0t=>?_)⟩
  ·rw [h0.2,← e1]
  ·have hs:=hrow.sub 4 (rowsL Ec.cells t).length (by show 4+_≤(rowsL Ec.cells (c :: t)).length;rw [rowsL_len (k:=4) (fun _=>rfl),rowsL_len (k:=4) (fun _=>rfl),List.length_cons];omega)
   refine ⟨hs.1,?_,hrow.lt⟩
   rw [hs.2]
   congr 1
   show ((c.cells.toList ++ rowsL Ec.cells t).drop 4).take _=_
   rw [List.drop_append_of_le_length zb86]
   simp
 | [],.cons _ _ _ _ _,_,h,_=>h.elim
 | _ :: _,.nil,_,h,_=>h.elim
theorem ScsIn.shut {b:Nat} (hb:D b):∀ {l:List Sc} {F:SF} {off:Nat},ScsIn w D l F→(0 < l.length→Row w b off (rowsL Sc.cells l))→SFIn w D F b off
 | [],.nil,_,_,_=>trivial
 | c :: t,.cons kind name e low high l x r,off,h,hr=>by
  obtain ⟨⟨rfl,rfl,rfl,rfl,h4,h5,h6,h7,⟨e1,e2,be,oe,e3,e4⟩,⟨l1,l2,bl,ol,l3,l4⟩,⟨x1,x2,bx,ox,x3,x4⟩⟩,h8⟩:=h
  have hrow:=hr zb86
  have h0:=rowsL_row (f:=Sc.cells) (k:=7) (fun _=>rfl) hrow 0 zb86
  simp only [Nat.zero_mul,Nat.add_zero,List.getElem_cons_zero] at h0
  refine ⟨hb,h4,h5,h6,h7,⟨c.eA,c.ec,c.lA,c.lc,c.xA,c.xc,be,oe,bl,ol,bx,ox,h0.1,?_,by rw [← e1];exact e2,by rw [← l1];exact l2,by rw [← x1];exact x2,fun q=>e3 (by rw [e1];exact q),fun q=>l3 (by rw [l1];exact q),fun q=>x3 (by rw [x1];exact q),e4,l4,x4⟩,h8.shut hb (fun h0t=>?_)⟩
  ·rw [h0.2,← e1,← l1,← x1]
  ·have hs:=hrow.sub 7 (rowsL Sc.cells t).length (by show 7+_≤(rowsL Sc.cells (c :: t)).length;rw [rowsL_len (k:=7) (fun _=>rfl),rowsL_len (k:=7) (fun _=>rfl),List.length_cons];omega)
   refine ⟨hs.1,?_,hrow.lt⟩
   rw [hs.2]
   congr 1
   show ((c.cells.toList ++ rowsL Sc.cells t).drop 7).take _=_
   rw [List.drop_append_of_le_length zb86]
   simp
 | [],.cons _ _ _ _ _ _ _ _,_,h,_=>h.elim
 | _ :: _,.nil,_,h,_=>h.elim
end
end Go.Proofs.YtbfbabbcdochjaaGreatDoor
