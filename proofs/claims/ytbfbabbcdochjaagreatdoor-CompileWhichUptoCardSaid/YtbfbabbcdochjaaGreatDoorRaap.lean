/- Several texts joined: Qzm. -/
import Derived.Test.YtbfbabbcdochjaaGreatDoorRapk
import Derived.Test.YtbfbabbcdochjaaGreatDoorRaao
set_option maxHeartbeats 4000000
namespace Go.Proofs.YtbfbabbcdochjaaGreatDoor
open Go.RowKit So
def strC (s:Str):Array Value:=#[.string s]
theorem strC_rows:∀ l:List Str,rowsL strC l=l.map Value.string
 | []=>rfl
 | s :: l=>by
  have:=strC_rows l
  unfold rowsL at this ⊢
  rw [List.flatMap_cons,this]
  rfl
theorem owns_str {w:World} {base:Nat} {T:TypeId} {v:Value} {n:Nat} {l:List Str} (ho:w.ownsRow base T 1 v n (rowsL strC l)) (hn:n=l.length) (h4:n≤100) :
 ∃ B bc,v=.slice B n bc∧(∀ x,B=some x→base≤x.block∧x.block < w.heap.size)∧StrSl w w.heap.size B n l:=by
 rw [strC_rows] at ho
 by_cases h0:0 < n
 ·obtain ⟨g,c,rfl,hr,hg,_⟩:=own_rows ho h0 (by omega)
  exact ⟨some ⟨g,0,none⟩,c,rfl,fun x hx=>by cases hx;exact ⟨hg,hr.lt⟩,hn,h4,g,0,fun _=>rfl,fun _=>⟨hr.lt,hr⟩⟩
 ·obtain rfl:n=0:=by omega
  rcases ho.2 with ⟨hv,_⟩ | ⟨g,c,cur,hv,hb,hc,_⟩
  ·exact ⟨none,0,hv,fun x hx=>(nomatch hx),hn,h4,0,0,fun q=>by omega,fun q=>by omega⟩
  ·exact ⟨some ⟨g,0,none⟩,c,hv,fun x hx=>by cases hx;exact ⟨hb,(Array.getElem?_eq_some_iff.1 hc).1⟩,hn,h4,0,0,fun q=>by omega,fun q=>by omega⟩
theorem StrSl.none (w:World) (N:Nat):StrSl w N none 0 []:=⟨rfl,by omega,0,0,fun h=>absurd h (by omega),fun h=>absurd h (by omega)⟩
theorem StrSl.kept_ {S:Nat→Prop} {w w':World} {N M:Nat} {A:Option Addr} {n:Nat} {l:List Str} (h:StrSl w N A n l) (hk:Kept S w w') (hs:∀ x,A=some x→¬ S x.block) (hM:N≤M):StrSl w' M A n l:=by
 obtain ⟨h1,h2,b,off,h3,h4⟩:=h
 exact ⟨h1,h2,b,off,h3,fun h0=>⟨Nat.lt_of_lt_of_le (h4 h0).1 hM,(h4 h0).2.kept hk (hs _ (h3 h0))⟩⟩
set_option maxRecDepth 100000 in
theorem parts_any (cb g:Nat) (κ:Kn) (c:Pc) (p:Pr) (N:Nat) (hN4:4 < N) (hNg:N≤g) (hNc:N≤cb) (w:World) (hN:N≤w.heap.size) (h:PAt w N c p) (hL:LaidAt w) (hC:Ck w cb g κ E0 0) (h4:p.params.length≤4) (hpar:∀ v ∈ p.params,κ v.name=0) (hsil:κ p.silent=0) :
 Calls Tryz.prog 78 #[.pointer (some ⟨cb,0,none⟩),.agg c.cells] w fun e w'=>MustR (ored (chkB 0 κ 0 true p.start) (ored (chkB 1 κ 0 true p.turn) (ored (chkB 2 (updAll κ (p.params.map Vr.name)) 0 true p.play) (ored (chkB 3 (updAll κ [p.silent]) 0 true p.quiet) (chkB 4 κ 0 true p.pays))))) e∧Kept (SG cb g) w w':=by
 obtain ⟨X,hX⟩:∃ X,X=ored (chkB 0 κ 0 true p.start) (ored (chkB 1 κ 0 true p.turn) (ored (chkB 2 (updAll κ (p.params.map Vr.name)) 0 true p.play) (ored (chkB 3 (updAll κ [p.silent]) 0 true p.quiet) (chkB 4 κ 0 true p.pays)))):=⟨_,rfl⟩
 rw [← hX]
 obtain ⟨Z0,hZ0⟩:∃ Z,Z=chkB 0 κ 0 true p.start:=⟨_,rfl⟩
 obtain ⟨Z1,hZ1⟩:∃ Z,Z=chkB 1 κ 0 true p.turn:=⟨_,rfl⟩
 obtain ⟨Z2,hZ2⟩:∃ Z,Z=chkB 2 (updAll κ (p.params.map Vr.name)) 0 true p.play:=⟨_,rfl⟩
 obtain ⟨Z3,hZ3⟩:∃ Z,Z=chkB 3 (updAll κ [p.silent]) 0 true p.quiet:=⟨_,rfl⟩
 obtain ⟨Z4,hZ4⟩:∃ Z,Z=chkB 4 κ 0 true p.pays:=⟨_,rfl⟩
 rw [← hZ0,← hZ1,← hZ2,← hZ3,← hZ4] at hX
 have HX0:=zhd hX
 have HZ0:=zhd hZ0
 have HZ1:=zhd hZ1
 have HZ2:=zhd hZ2
 have HZ3:=zhd hZ3
 have HZ4:=zhd hZ4
 clear hX hZ0 hZ1 hZ2 hZ3 hZ4
 obtain ⟨cn,cse,cst,cv,⟨sA,sn,sc⟩,⟨tA,tn,tc⟩,⟨A,n,cc⟩,⟨yA,yn,yc⟩,csi,⟨qA,qn,qc⟩,⟨zA,zn,zc⟩⟩:=c
 have hx0:=(Kept.refl (fun _=>False) w).alloc (.cells (Pc.cells ⟨cn,cse,cst,cv,⟨sA,sn,sc⟩,⟨tA,tn,tc⟩,⟨A,n,cc⟩,⟨yA,yn,yc⟩,csi,⟨qA,qn,qc⟩,⟨zA,zn,zc⟩⟩) 57)
 have hB0:=Blk.new w 57 (Pc.cells ⟨cn,cse,cst,cv,⟨sA,sn,sc⟩,⟨tA,tn,tc⟩,⟨A,n,cc⟩,⟨yA,yn,yc⟩,csi,⟨qA,qn,qc⟩,⟨zA,zn,zc⟩⟩)
 have HPA:=zhd (h.ext hx0 hN)
 have HSI:=zhd (show csi=p.silent from h.silent)
 have HNW:=zhd (Nat.le_trans hN hx0.size)
 obtain ⟨hn,hf,hok,b,off,hA,hE⟩:=h.params.ext hx0
 have hn4:n≤4:=by have:n=p.params.length:=hn;omega
 have hm:=hf.max (by omega)
 have HN:=zhd (show n=p.params.length from hn)
 have HA:=zhd hA
 have HE:=zhd hE
 have HLW:=zhd (hL.ext hx0)
 have HCW:=zhd (hC.ext hx0)
 have HPB:=zhd (show ¬ SG cb g w.heap.size by
  have h1:=hC.map.lt
  have h2:=hC.lt
  rintro (h | h) <;> omega)
 have HCG:=zhd (show cb < w.heap.size∧g < w.heap.size from ⟨hC.lt,hC.map.lt⟩)
 have HPR:=zhd hpar
 have HSK:=zhd hsil
 clear hn hA hE hok hf h hL hC hpar hsil
 go_enter Tryz.func78,Tryz.ntmps78
 go_upto_region 1 with (fail)
 generalize hW:(w.alloc (.cells (Pc.cells ⟨cn,cse,cst,cv,⟨sA,sn,sc⟩,⟨tA,tn,tc⟩,⟨A,n,cc⟩,⟨yA,yn,yc⟩,csi,⟨qA,qn,qc⟩,⟨zA,zn,zc⟩⟩) 57))=W at hx0 hB0 HE HLW HCW HPA HNW ⊢
 clear hW
 have HBW:=zhd (show w.heap.size≤W.heap.size from hx0.size)
 have HXW:=zhd hx0
 generalize w.heap.size=pb at hB0 HPB HCG HBW ⊢
 have hB0:=zhd hB0
 have hcP:=Blk.cell hB0.out
 have hlP:=hB0.out.lt
 clear hx0
 go_wp2_with fail
 go_loopw [4,10] (fun t4 t10 wr=>∃ (j:Nat),j≤n∧t10=.int .i64 j∧wr.ownsRow W.heap.size 9 1 t4 j (rowsL strC ((p.params.map Vr.name).take j))∧Ext W wr) (fun _ t10 _=>n - (intOf t10).toNat)
 case atStart=>exact ⟨0,Nat.zero_le _,rfl,World.ownsRow_nil _ _ _ _,Kept.refl _ _⟩
 case round =>
  obtain ⟨j,hj,rfl,ho,hx⟩:=hrel
  have HX:=zhd hx
  have HO:=zhd ho
  clear hx ho hcP hlP
  by_cases hlt:j < n
  ·have hjl:j < p.params.length:=by have:=HN.out;omega
   have hltI:(j:Int) < n:=by omega
   obtain rfl:=HA.out (by omega)
   have hrow:=(HE.out (by omega)).2.ext HX.out
   obtain ⟨hh',hg'⟩:=vr_at hrow j hjl
   have hbw:=hrow.lt
   obtain ⟨x,hxe⟩:∃ x,x=p.params[j]:=⟨_,rfl⟩
   rw [← hxe] at hg'
   have htk:(p.params.map Vr.name).take (j+1)=(p.params.map Vr.name).take j ++ [x.name]:=by
    rw [List.take_add_one,List.getElem?_map,List.getElem?_eq_getElem hjl,hxe]
    rfl
   have HTK:=zhd htk
   clear hrow hxe htk
   have y0:Ext wr _:=((Kept.refl (fun _=>False) wr).alloc (.cells (vcells x) 109)).alloc (.cells #[.string x.name] 9)
   obtain ⟨v',w',hrun,ho',hk',_⟩:=appR (f:=strC) elemStr (fun _=>rfl) (fun _=>rfl) ((wr.alloc (.cells (vcells x) 109)).alloc (.cells #[.string x.name] 9)) W.heap.size u4 j ((p.params.map Vr.name).take j) (own_ext HO.out y0) (wr.heap.size+1) 0 1 1 [x.name] rfl (Row.of_blk (Blk.new' _ _ _ _ (by simp))) (by omega) (by have:=y0.size;have:=HX.out.size;have:=HBW.out;omega)
   rw [← HTK.out] at ho'
   have HO':=zhd ho'
   have HXW':=zhd (show Ext W w' from (HX.out.trans y0).trans' hk' (fun i hi e=>by have:=(HO.out.lt i e).1;omega))
   clear ho' hk' y0
   go_upto_region 5 with (fail)
   go_step
   iterate 4 refine qls ?_
   refine wpList_app rfl (.tmp 14) (.tmp 17) 118 rfl rfl rfl rfl hrun ?_
   clear hrun
   go_wp2_with fail
   go_roundw
   case rel=>exact ⟨j+1,hlt,by go_num,HO'.out,HXW'.out⟩
   case measure=>simp only [intOf];omega
  ·obtain rfl:j=n:=by omega
   have ho:=HO.out
   rw [show (p.params.map Vr.name).take j=p.params.map Vr.name from by rw [List.take_of_length_le (by rw [List.length_map,HN.out];omega)]] at ho
   obtain ⟨B,bc,rfl,hBB,hBS⟩:=owns_str ho (by rw [List.length_map];exact HN.out) (by omega)
   have HBB:=zhd (show ∀ x,B=some x→¬ SG cb g x.block from fun x hx=>by
    have h1:=(hBB x hx).1
    have h2:=HCG.out
    have h3:=HBW.out
    rintro (h | h) <;> omega)
   have HBS:=zhd hBS
   have HNV:=zhd (Nat.le_trans HNW.out HX.out.size)
   have HPV:=zhd (HPA.out.ext HX.out HNW.out)
   have HLV:=zhd (HLW.out.ext HX.out)
   have HBV:=zhd (Blk.ext hB0.out HX.out)
   have HK0:=zhd (Kept.refl (SG cb g) wr)
   have HC0:=zhd (HCW.out.ext HX.out)
   have HWV:=zhd (HXW.out.trans HX.out)
   clear ho hBB hBS HO HPA HLW HCW HE HA
   have hcP:=Blk.cell (Blk.kept HBV.out HK0.out HPB.out)
   have hlP:=(Blk.kept HBV.out HK0.out HPB.out).lt
   go_wp2_with fail
   clear hcP hlP
   refine (walk_any cb g 0 (by omega) wr N hN4 hNg hNc HNV.out HLV.out p.start κ E0 sA sn sc none 0 0 [] _ HK0.out HC0.out HPV.out.start (fun w' _=>StrSl.none w' _) (fun x hx=>(nomatch hx)) (fun s hs=>(nomatch hs))).mono ?_
   rintro e w1 ⟨hb,hk⟩
   have HK1:=zhd (HK0.out.trans hk)
   rw [updAll_nil,← HZ0.out] at hb
   clear hk
   cases Z0 with
   | some f =>
    obtain ⟨he,-⟩:=hb
    subst he
    have HR:=zhd (show X=some f by rw [HX0.out] <;> rfl)
    have HXE:=zhd ((Kept.ext (S:=SG cb g) HWV.out).trans HK1.out)
    show _∧_
    refine ⟨rfl,?_,HXE.out⟩
    rw [HR.out]
    rfl
   | none =>
    obtain ⟨he,hc⟩:=hb
    subst he
    have HC1:=zhd hc
    have HX1:=zhd (show X=ored Z1 (ored Z2 (ored Z3 Z4)) by rw [HX0.out] <;> rfl)
    clear hc HX0
    have hcP:=Blk.cell (Blk.kept HBV.out HK1.out HPB.out)
    have hlP:=(Blk.kept HBV.out HK1.out HPB.out).lt
    go_wp2_with fail
    clear hcP hlP
    refine (walk_any cb g 1 (by omega) wr N hN4 hNg hNc HNV.out HLV.out p.turn κ (partName 0) tA tn tc none 0 0 [] _ HK1.out HC1.out HPV.out.turn (fun w' _=>StrSl.none w' _) (fun x hx=>(nomatch hx)) (fun s hs=>(nomatch hs))).mono ?_
    rintro e w2 ⟨hb,hk⟩
    have HK2:=zhd (HK1.out.trans hk)
    rw [updAll_nil,← HZ1.out] at hb
    clear hk
    cases Z1 with
    | some f =>
     obtain ⟨he,-⟩:=hb
     subst he
     have HR:=zhd (show X=some f by rw [HX1.out] <;> rfl)
     have HXE:=zhd ((Kept.ext (S:=SG cb g) HWV.out).trans HK2.out)
     show _∧_
     refine ⟨rfl,?_,HXE.out⟩
     rw [HR.out]
     rfl
    | none =>
     obtain ⟨he,hc⟩:=hb
     subst he
     have HC2:=zhd hc
     have HX2:=zhd (show X=ored Z2 (ored Z3 Z4) by rw [HX1.out] <;> rfl)
     clear hc HX1
     have hcP:=Blk.cell (Blk.kept HBV.out HK2.out HPB.out)
     have hlP:=(Blk.kept HBV.out HK2.out HPB.out).lt
     go_wp2_with fail
     clear hcP hlP
     refine (walk_any cb g 2 (by omega) wr N hN4 hNg hNc HNV.out HLV.out p.play κ (partName 1) yA yn yc B j bc (p.params.map Vr.name) _ HK2.out HC2.out HPV.out.play (fun w' hk=>HBS.out.kept_ (HK2.out.trans hk) HBB.out (HK2.out.trans hk).size) (fun x hx e=>HBB.out x hx (Or.inr e)) (fun s hs=>by obtain ⟨v,hv,rfl⟩:=List.mem_map.1 hs;exact HPR.out v hv)).mono ?_
     rintro e w3 ⟨hb,hk⟩
     have HK3:=zhd (HK2.out.trans hk)
     rw [← HZ2.out] at hb
     clear hk
     cases Z2 with
     | some f =>
      obtain ⟨he,-⟩:=hb
      subst he
      have HR:=zhd (show X=some f by rw [HX2.out] <;> rfl)
      have HXE:=zhd ((Kept.ext (S:=SG cb g) HWV.out).trans HK3.out)
      show _∧_
      refine ⟨rfl,?_,HXE.out⟩
      rw [HR.out]
      rfl
     | none =>
      obtain ⟨he,hc⟩:=hb
      subst he
      have HC3:=zhd hc
      have HX3:=zhd (show X=ored Z3 Z4 by rw [HX2.out] <;> rfl)
      clear hc HX2
      have hcP:=Blk.cell (Blk.kept HBV.out HK3.out HPB.out)
      have hlP:=(Blk.kept HBV.out HK3.out HPB.out).lt
      go_wp2_with fail
      clear hcP hlP
      have y3:=(Kept.refl (fun _=>False) w3).alloc (.cells #[.string csi] 9)
      have HB3:=zhd (show ¬ SG cb g w3.heap.size by have h1:=HC3.out.map.lt;have h2:=HC3.out.lt;rintro (h | h) <;> omega)
      have HRW:=zhd (Row.of_blk (Blk.new w3 9 #[.string csi]))
      refine (walk_any cb g 3 (by omega) wr N hN4 hNg hNc HNV.out HLV.out p.quiet κ (partName 2) qA qn qc (some ⟨w3.heap.size,0,none⟩) 1 1 [csi] _ (HK3.out.trans (Kept.ext y3)) (HC3.out.ext y3) HPV.out.quiet (fun w' hk=>⟨rfl,by omega,w3.heap.size,0,fun _=>rfl,fun _=>⟨(HRW.out.kept hk HB3.out).lt,HRW.out.kept hk HB3.out⟩⟩) (fun x hx e=>by cases hx;exact HB3.out (Or.inr e)) (fun s hs=>by rw [List.mem_singleton.1 hs,HSI.out];exact HSK.out)).mono ?_
      rintro e w4 ⟨hb,hk⟩
      have HK4:=zhd ((HK3.out.trans (Kept.ext y3)).trans hk)
      rw [HSI.out,← HZ3.out] at hb
      clear hk y3
      cases Z3 with
      | some f =>
       obtain ⟨he,-⟩:=hb
       subst he
       have HR:=zhd (show X=some f by rw [HX3.out] <;> rfl)
       have HXE:=zhd ((Kept.ext (S:=SG cb g) HWV.out).trans HK4.out)
       show _∧_
       refine ⟨rfl,?_,HXE.out⟩
       rw [HR.out]
       rfl
      | none =>
       obtain ⟨he,hc⟩:=hb
       subst he
       have HC4:=zhd hc
       have HX4:=zhd (show X=Z4 by rw [HX3.out] <;> rfl)
       clear hc HX3
       have hcP:=Blk.cell (Blk.kept HBV.out HK4.out HPB.out)
       have hlP:=(Blk.kept HBV.out HK4.out HPB.out).lt
       go_wp2_with fail
       clear hcP hlP
       refine (walk_any cb g 4 (by omega) wr N hN4 hNg hNc HNV.out HLV.out p.pays κ (partName 3) zA zn zc none 0 0 [] _ HK4.out HC4.out HPV.out.pays (fun w' _=>StrSl.none w' _) (fun x hx=>(nomatch hx)) (fun s hs=>(nomatch hs))).mono ?_
       rintro e w5 ⟨hb,hk⟩
       have HK5:=zhd (HK4.out.trans hk)
       rw [updAll_nil,← HZ4.out] at hb
       clear hk
       cases Z4 with
       | some f =>
        obtain ⟨he,-⟩:=hb
        subst he
        have HR:=zhd (show X=some f by rw [HX4.out] <;> rfl)
        have HXE:=zhd ((Kept.ext (S:=SG cb g) HWV.out).trans HK5.out)
        show _∧_
        refine ⟨rfl,?_,HXE.out⟩
        rw [HR.out]
        rfl
       | none =>
        obtain ⟨he,hc⟩:=hb
        subst he
        have HC5:=zhd hc
        have HX5:=zhd (show X=none by rw [HX4.out] <;> rfl)
        clear hc HX4
        go_wp2_with fail
        go_end0
        rw [HX5.out]
        exact ⟨rfl,(Kept.ext (S:=SG cb g) HWV.out).trans HK5.out⟩
end Go.Proofs.YtbfbabbcdochjaaGreatDoor
