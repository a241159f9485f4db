/- Several texts joined: Qzm, Qzn. -/
import Derived.Recover
import Derived.Test.YtbfbabbcdochjaaGreatDoorRxpk
import Derived.Test.YtbfbabbcdochjaaGreatDoorRxam
set_option maxHeartbeats 4000000
namespace Go.Proofs.YtbfbabbcdochjaaGreatDoor
open Go.RowKit So
def strC (s:Str):Array Value:=#[.string s]
theorem strC_rows:∀ l:List Str,rowsL strC l=l.map Value.string
 | []=>rfl
 | s :: l=>by
  have:=strC_rows l
  unfold rowsL at this ⊢
  rw [List.flatMap_cons,this]
  rfl
theorem owns_str {w:World} {base:Nat} {T:TypeId} {v:Value} {n:Nat} {l:List Str} (ho:w.ownsRow base T 1 v n (rowsL strC l)) (hn:n=l.length) (h4:n≤100) :
 ∃ B bc,v=.slice B n bc∧(∀ x,B=some x→base≤x.block∧x.block < w.heap.size)∧StrSl w w.heap.size B n l:=by
 rw [strC_rows] at ho
 by_cases h0:0 < n
 ·obtain ⟨g,c,rfl,hr,hg,_⟩:=own_rows ho h0 zb85
  exact ⟨some ⟨g,0,none⟩,c,rfl,fun x hx=>by cases hx;exact ⟨hg,hr.lt⟩,hn,h4,g,0,fun _=>rfl,fun _=>⟨hr.lt,hr⟩⟩
 ·obtain rfl:n=0:=by omega
  rcases ho.2 with ⟨hv,_⟩ | ⟨g,c,cur,hv,hb,hc,_⟩
  ·exact ⟨none,0,hv,fun x hx=>(nomatch hx),hn,h4,0,0,fun q=>by omega,fun q=>by omega⟩
  ·exact ⟨some ⟨g,0,none⟩,c,hv,fun x hx=>by cases hx;exact ⟨hb,(Array.getElem?_eq_some_iff.1 hc).1⟩,hn,h4,0,0,fun q=>by omega,fun q=>by omega⟩
theorem StrSl.none (w:World) (N:Nat):StrSl w N none 0 []:=⟨rfl,by omega,0,0,fun h=>absurd h zb85,fun h=>absurd h zb85⟩
theorem StrSl.kept_ {S:Nat→Prop} {w w':World} {N M:Nat} {A:Option Addr} {n:Nat} {l:List Str} (h:StrSl w N A n l) (hk:Kept S w w') (hs:∀ x,A=some x→¬ S x.block) (hM:N≤M):StrSl w' M A n l:=by
 obtain ⟨h1,h2,b,off,h3,h4⟩:=h
 exact ⟨h1,h2,b,off,h3,fun h0=>⟨Nat.lt_of_lt_of_le (h4 h0).1 hM,(h4 h0).2.kept hk (hs _ (h3 h0))⟩⟩
set_option maxRecDepth 100000 in
theorem parts_any (cb g:Nat) (κ:Kn) (c:Pc) (p:Pr) (N:Nat) (hN4:4 < N) (hNg:N≤g) (hNc:N≤cb) (w:World) (hN:N≤w.heap.size) (h:PAt w N c p) (hL:LaidAt w) (hC:Ck w cb g κ E0 0) (h4:p.params.length≤4) (hpar:∀ v ∈ p.params,κ v.name=0) (hsil:κ p.silent=0) :
 Calls Tryz.prog 78 #[.pointer (some ⟨cb,0,none⟩),.agg c.cells] w fun e w'=>MustR (ored (chkB 0 κ 0 true p.start) (ored (chkB 1 κ 0 true p.turn) (ored (chkB 2 (updAll κ (p.params.map Vr.name)) 0 true p.play) (ored (chkB 3 (updAll κ [p.silent]) 0 true p.quiet) (chkB 4 κ 0 true p.pays))))) e∧Kept (SG cb g) w w':=by
 obtain ⟨X,hX⟩:∃ X,X=ored (chkB 0 κ 0 true p.start) (ored (chkB 1 κ 0 true p.turn) (ored (chkB 2 (updAll κ (p.params.map Vr.name)) 0 true p.play) (ored (chkB 3 (updAll κ [p.silent]) 0 true p.quiet) (chkB 4 κ 0 true p.pays)))):=⟨_,rfl⟩
 rw [← hX]
 obtain ⟨Z0,hZ0⟩:∃ Z,Z=chkB 0 κ 0 true p.start:=⟨_,rfl⟩
 obtain ⟨Z1,hZ1⟩:∃ Z,Z=chkB 1 κ 0 true p.turn:=⟨_,rfl⟩
 obtain ⟨Z2,hZ2⟩:∃ Z,Z=chkB 2 (updAll κ (p.params.map Vr.name)) 0 true p.play:=⟨_,rfl⟩
 obtain ⟨Z3,hZ3⟩:∃ Z,Z=chkB 3 (updAll κ [p.silent]) 0 true p.quiet:=⟨_,rfl⟩
 obtain ⟨Z4,hZ4⟩:∃ Z,Z=chkB 4 κ 0 true p.pays:=⟨_,rfl⟩
 rw [← hZ0,← hZ1,← hZ2,← hZ3,← hZ4] at hX
 have HX0:=J hX
 have HZ0:=J hZ0
 have HZ1:=J hZ1
 have HZ2:=J hZ2
 have HZ3:=J hZ3
 have HZ4:=J hZ4
 clear hX hZ0 hZ1 hZ2 hZ3 hZ4
 obtain ⟨cn,cse,cst,cv,⟨sA,sn,sc⟩,⟨tA,tn,tc⟩,⟨A,n,cc⟩,⟨yA,yn,yc⟩,csi,⟨qA,qn,qc⟩,⟨zA,zn,zc⟩⟩:=c
 have hx0:=(kR (fun _=>False) w).alloc (.cells (Pc.cells ⟨cn,cse,cst,cv,⟨sA,sn,sc⟩,⟨tA,tn,tc⟩,⟨A,n,cc⟩,⟨yA,yn,yc⟩,csi,⟨qA,qn,qc⟩,⟨zA,zn,zc⟩⟩) 57)
 have hB0:=bN w 57 (Pc.cells ⟨cn,cse,cst,cv,⟨sA,sn,sc⟩,⟨tA,tn,tc⟩,⟨A,n,cc⟩,⟨yA,yn,yc⟩,csi,⟨qA,qn,qc⟩,⟨zA,zn,zc⟩⟩)
 have HPA:=J (h.ext hx0 hN)
 have HSI:=J (show csi=p.silent from h.silent)
 have HNW:=J (Nat.le_trans hN hx0.size)
 obtain ⟨hn,hf,hok,b,off,hA,hE⟩:=h.params.ext hx0
 have hn4:n≤4:=by have:n=p.params.length:=hn;omega
 have hm:=hf.max zb85
 have HN:=J (show n=p.params.length from hn)
 have HA:=J hA
 have HE:=J hE
 have HLW:=J (hL.ext hx0)
 have HCW:=J (hC.ext hx0)
 have HPB:=J (show ¬ SG cb g w.heap.size by
  have h1:=hC.map.lt
  have h2:=hC.lt
  rintro (h | h) <;> omega)
 have HCG:=J (show cb < w.heap.size∧g < w.heap.size from ⟨hC.lt,hC.map.lt⟩)
 have HPR:=J hpar
 have HSK:=J hsil
 clear hn hA hE hok hf h hL hC hpar hsil
 go_enter Tryz.func78,Tryz.ntmps78
 go_upto_region 1 with (fail)
 generalize hW:(w.alloc (.cells (Pc.cells ⟨cn,cse,cst,cv,⟨sA,sn,sc⟩,⟨tA,tn,tc⟩,⟨A,n,cc⟩,⟨yA,yn,yc⟩,csi,⟨qA,qn,qc⟩,⟨zA,zn,zc⟩⟩) 57))=W at hx0 hB0 HE HLW HCW HPA HNW ⊢
 clear hW
 have HBW:=J (show w.heap.size≤W.heap.size from hx0.size)
 have HXW:=J hx0
 generalize w.heap.size=pb at hB0 HPB HCG HBW ⊢
 have hB0:=J hB0
 have hcP:=bC hB0.out
 have hlP:=hB0.out.lt
 clear hx0
 go_wp2_with fail
 go_loopw [4,10] (fun t4 t10 wr=>∃ (j:Nat),j≤n∧t10=.int .i64 j∧wr.ownsRow W.heap.size 9 1 t4 j (rowsL strC ((p.params.map Vr.name).take j))∧Ext W wr) (fun _ t10 _=>n - (intOf t10).toNat)
 case atStart=>exact ⟨0,Nat.zero_le _,rfl,World.ownsRow_nil _ _ _ _,kR _ _⟩
 case round =>
  obtain ⟨j,hj,rfl,ho,hx⟩:=hrel
  have HX:=J hx
  have HO:=J ho
  clear hx ho hcP hlP
  by_cases hlt:j < n
  ·have hjl:j < p.params.length:=by have:=HN.out;omega
   have hltI:(j:Int) < n:=by omega
   obtain rfl:=HA.out zb85
   refine zy70 ?_;intro hrow hh' hg' hbw
   obtain ⟨x,hxe⟩:∃ x,x=p.params[j]:=⟨_,rfl⟩
   rw [← hxe] at hg'
   have htk:(p.params.map Vr.name).take (j+1)=(p.params.map Vr.name).take j ++ [x.name]:=by
    rw [List.take_add_one,List.getElem?_map,List.getElem?_eq_getElem hjl,hxe]
    rfl
   have HTK:=J htk
   clear hrow hxe htk
   have y0:Ext wr _:=((kR (fun _=>False) wr).alloc (.cells (vcells x) 109)).alloc (.cells #[.string x.name] 9)
   obtain ⟨v',w',hrun,ho',hk',_⟩:=appR (f:=strC) elemStr (fun _=>rfl) (fun _=>rfl) ((wr.alloc (.cells (vcells x) 109)).alloc (.cells #[.string x.name] 9)) W.heap.size u4 j ((p.params.map Vr.name).take j) (own_ext HO.out y0) (wr.heap.size+1) 0 1 1 [x.name] rfl (Row.of_blk (Blk.new' _ _ _ _ zb86)) zb85 (by have:=y0.size;have:=HX.out.size;have:=HBW.out;omega)
   rw [← HTK.out] at ho'
   have HO':=J ho'
   have HXW':=J (show Ext W w' from (HX.out.trans y0).trans' hk' (fun i hi e=>by have:=(HO.out.lt i e).1;omega))
   clear ho' hk' y0
   go_upto_region 5 with (fail)
   go_step
   iterate 4 refine qls ?_
   refine wpList_app rfl (.tmp 14) (.tmp 17) 118 rfl rfl rfl rfl hrun ?_
   clear hrun
   go_wp2_with fail
   go_roundw
   case rel=>exact ⟨j+1,hlt,by go_num,HO'.out,HXW'.out⟩
   case measure=>simp only [intOf];omega
  ·obtain rfl:j=n:=by omega
   have ho:=HO.out
   rw [show (p.params.map Vr.name).take j=p.params.map Vr.name from by rw [List.take_of_length_le (by rw [List.length_map,HN.out];omega)]] at ho
   obtain ⟨B,bc,rfl,hBB,hBS⟩:=owns_str ho (by rw [List.length_map];exact HN.out) zb85
   have HBB:=J (show ∀ x,B=some x→¬ SG cb g x.block from fun x hx=>by
    have h1:=(hBB x hx).1
    have h2:=HCG.out
    have h3:=HBW.out
    rintro (h | h) <;> omega)
   have HBS:=J hBS
   have HNV:=J (Nat.le_trans HNW.out HX.out.size)
   have HPV:=J (HPA.out.ext HX.out HNW.out)
   have HLV:=J (HLW.out.ext HX.out)
   have HBV:=J (bX hB0.out HX.out)
   have HK0:=J (kR (SG cb g) wr)
   have HC0:=J (HCW.out.ext HX.out)
   have HWV:=J (HXW.out.trans HX.out)
   clear ho hBB hBS HO HPA HLW HCW HE HA
   have hcP:=bC (bK HBV.out HK0.out HPB.out)
   have hlP:=(bK HBV.out HK0.out HPB.out).lt
   go_wp2_with fail
   clear hcP hlP
   refine (walk_any cb g 0 zb85 wr N hN4 hNg hNc HNV.out HLV.out p.start κ E0 sA sn sc none 0 0 [] _ HK0.out HC0.out HPV.out.start (fun w' _=>StrSl.none w' _) (fun x hx=>(nomatch hx)) (fun s hs=>(nomatch hs))).mono ?_
   rintro e w1 ⟨hb,hk⟩
   have HK1:=J (HK0.out.trans hk)
   rw [updAll_nil,← HZ0.out] at hb
   clear hk
   cases Z0 with
   | some f =>
    obtain ⟨he,-⟩:=hb
    subst he
    have HR:=J (show X=some f by rw [HX0.out] <;> rfl)
    have HXE:=J ((Kept.ext (S:=SG cb g) HWV.out).trans HK1.out)
    show _∧_
    refine ⟨rfl,?_,HXE.out⟩
    rw [HR.out]
    rfl
   | none =>
    obtain ⟨he,hc⟩:=hb
    subst he
    have HC1:=J hc
    have HX1:=J (show X=ored Z1 (ored Z2 (ored Z3 Z4)) by rw [HX0.out] <;> rfl)
    clear hc HX0
    have hcP:=bC (bK HBV.out HK1.out HPB.out)
    have hlP:=(bK HBV.out HK1.out HPB.out).lt
    go_wp2_with fail
    clear hcP hlP
    refine (walk_any cb g 1 zb85 wr N hN4 hNg hNc HNV.out HLV.out p.turn κ (partName 0) tA tn tc none 0 0 [] _ HK1.out HC1.out HPV.out.turn (fun w' _=>StrSl.none w' _) (fun x hx=>(nomatch hx)) (fun s hs=>(nomatch hs))).mono ?_
    rintro e w2 ⟨hb,hk⟩
    have HK2:=J (HK1.out.trans hk)
    rw [updAll_nil,← HZ1.out] at hb
    clear hk
    cases Z1 with
    | some f =>
     obtain ⟨he,-⟩:=hb
     subst he
     have HR:=J (show X=some f by rw [HX1.out] <;> rfl)
     have HXE:=J ((Kept.ext (S:=SG cb g) HWV.out).trans HK2.out)
     show _∧_
     refine ⟨rfl,?_,HXE.out⟩
     rw [HR.out]
     rfl
    | none =>
     obtain ⟨he,hc⟩:=hb
     subst he
     have HC2:=J hc
     have HX2:=J (show X=ored Z2 (ored Z3 Z4) by rw [HX1.out] <;> rfl)
     clear hc HX1
     have hcP:=bC (bK HBV.out HK2.out HPB.out)
     have hlP:=(bK HBV.out HK2.out HPB.out).lt
     go_wp2_with fail
     clear hcP hlP
     refine (walk_any cb g 2 zb85 wr N hN4 hNg hNc HNV.out HLV.out p.play κ (partName 1) yA yn yc B j bc (p.params.map Vr.name) _ HK2.out HC2.out HPV.out.play (fun w' hk=>HBS.out.kept_ (HK2.out.trans hk) HBB.out (HK2.out.trans hk).size) (fun x hx e=>HBB.out x hx (Or.inr e)) (fun s hs=>by obtain ⟨v,hv,rfl⟩:=List.mem_map.1 hs;exact HPR.out v hv)).mono ?_
     rintro e w3 ⟨hb,hk⟩
     have HK3:=J (HK2.out.trans hk)
     rw [← HZ2.out] at hb
     clear hk
     cases Z2 with
     | some f =>
      obtain ⟨he,-⟩:=hb
      subst he
      have HR:=J (show X=some f by rw [HX2.out] <;> rfl)
      have HXE:=J ((Kept.ext (S:=SG cb g) HWV.out).trans HK3.out)
      show _∧_
      refine ⟨rfl,?_,HXE.out⟩
      rw [HR.out]
      rfl
     | none =>
      obtain ⟨he,hc⟩:=hb
      subst he
      have HC3:=J hc
      have HX3:=J (show X=ored Z3 Z4 by rw [HX2.out] <;> rfl)
      clear hc HX2
      have hcP:=bC (bK HBV.out HK3.out HPB.out)
      have hlP:=(bK HBV.out HK3.out HPB.out).lt
      go_wp2_with fail
      clear hcP hlP
      have y3:=(kR (fun _=>False) w3).alloc (.cells #[.string csi] 9)
      have HB3:=J (show ¬ SG cb g w3.heap.size by have h1:=HC3.out.map.lt;have h2:=HC3.out.lt;rintro (h | h) <;> omega)
      have HRW:=J (Row.of_blk (bN w3 9 #[.string csi]))
      refine (walk_any cb g 3 zb85 wr N hN4 hNg hNc HNV.out HLV.out p.quiet κ (partName 2) qA qn qc (some ⟨w3.heap.size,0,none⟩) 1 1 [csi] _ (HK3.out.trans (Kept.ext y3)) (HC3.out.ext y3) HPV.out.quiet (fun w' hk=>⟨rfl,by omega,w3.heap.size,0,fun _=>rfl,fun _=>⟨(HRW.out.kept hk HB3.out).lt,HRW.out.kept hk HB3.out⟩⟩) (fun x hx e=>by cases hx;exact HB3.out (Or.inr e)) (fun s hs=>by rw [List.mem_singleton.1 hs,HSI.out];exact HSK.out)).mono ?_
      rintro e w4 ⟨hb,hk⟩
      have HK4:=J ((HK3.out.trans (Kept.ext y3)).trans hk)
      rw [HSI.out,← HZ3.out] at hb
      clear hk y3
      cases Z3 with
      | some f =>
       obtain ⟨he,-⟩:=hb
       subst he
       have HR:=J (show X=some f by rw [HX3.out] <;> rfl)
       have HXE:=J ((Kept.ext (S:=SG cb g) HWV.out).trans HK4.out)
       show _∧_
       refine ⟨rfl,?_,HXE.out⟩
       rw [HR.out]
       rfl
      | none =>
       obtain ⟨he,hc⟩:=hb
       subst he
       have HC4:=J hc
       have HX4:=J (show X=Z4 by rw [HX3.out] <;> rfl)
       clear hc HX3
       have hcP:=bC (bK HBV.out HK4.out HPB.out)
       have hlP:=(bK HBV.out HK4.out HPB.out).lt
       go_wp2_with fail
       clear hcP hlP
       refine (walk_any cb g 4 zb85 wr N hN4 hNg hNc HNV.out HLV.out p.pays κ (partName 3) zA zn zc none 0 0 [] _ HK4.out HC4.out HPV.out.pays (fun w' _=>StrSl.none w' _) (fun x hx=>(nomatch hx)) (fun s hs=>(nomatch hs))).mono ?_
       rintro e w5 ⟨hb,hk⟩
       have HK5:=J (HK4.out.trans hk)
       rw [updAll_nil,← HZ4.out] at hb
       clear hk
       cases Z4 with
       | some f =>
        obtain ⟨he,-⟩:=hb
        subst he
        have HR:=J (show X=some f by rw [HX4.out] <;> rfl)
        have HXE:=J ((Kept.ext (S:=SG cb g) HWV.out).trans HK5.out)
        show _∧_
        refine ⟨rfl,?_,HXE.out⟩
        rw [HR.out]
        rfl
       | none =>
        obtain ⟨he,hc⟩:=hb
        subst he
        have HC5:=J hc
        have HX5:=J (show X=none by rw [HX4.out] <;> rfl)
        clear hc HX4
        go_wp2_with fail
        go_end0
        rw [HX5.out]
        exact ⟨rfl,(Kept.ext (S:=SG cb g) HWV.out).trans HK5.out⟩
open Go.RowKit So
theorem chkPars_none (κ:Kn):∀ (l pre:List Vr) (_:chkPars κ pre l=none),∀ v ∈ l,κ v.name=0
 | [],_,_,v,hv=>absurd hv zb86
 | x :: l,pre,h,v,hv=>by
  rw [chkPars,ored_eq_none,ored_eq_none,ored_eq_none,ored_eq_none] at h
  obtain ⟨-,h2,-,-,h5⟩:=h
  rcases List.mem_cons.1 hv with rfl | hv
  ·have:=must_none.1 h2
   simp at this
   exact this.1
  ·exact chkPars_none κ l _ h5 v hv
theorem rest_at {w:World} {N:Nat}:∀ {F:SF} {b off:Nat} (_:SFAt w N F b off) (_:0 < F.len),∃ k:Int,w.cell? ⟨b,off+(F.len - 1) * 7,none⟩=some (.int .i64 k)∧restLast F=(k == 9)∧b < N
 | .cons kind name e low high l x .nil,b,off,h,_=>by
  obtain ⟨hb,h1,h2,h3,h4,⟨eA,ec,lA,lc,xA,xc,be,oe,bl,ol,bx,ox,hh,hg,-⟩,-⟩:=h
  refine ⟨kind,?_,rfl,hb⟩
  have:=cell_gets0 hh hg zb85
  simpa [SF.len] using this
 | .cons kind name e low high l x (.cons k' n' e' lo' hi' l' x' r),b,off,h,_=>by
  obtain ⟨hb,h1,h2,h3,h4,-,hr⟩:=h
  obtain ⟨k,hk,hr',hb'⟩:=rest_at hr (by simp [SF.len])
  refine ⟨k,?_,hr',hb'⟩
  simp only [SF.len] at hk ⊢
  rw [← hk]
  congr 2
  omega
theorem knOf2 (p:Pr):knOf p 2=updAll (knV p.vars) (p.params.map Vr.name):=rfl
theorem knOf3 (p:Pr):knOf p 3=updAll (knV p.vars) [p.silent]:=rfl
theorem knOf0 (p:Pr):knOf p 0=knV p.vars:=rfl
theorem knOf1 (p:Pr):knOf p 1=knV p.vars:=rfl
theorem knOf4 (p:Pr):knOf p 4=knV p.vars:=rfl
theorem check_chain (p:Pr):check p=ored (chkHead p) (ored (ored (chkVars [] p.vars) (must (decide (cells p.vars≤64)) 8 sVar)) (ored (ored (must (decide (p.params.length≤4)) 8 sPlay) (ored (chkPars (knV p.vars) [] p.params) (must (decide (menu p.params≤512)) 8 sPlay))) (ored (must (isName p.silent) 6 p.silent) (ored (must (knV p.vars p.silent == 0) 7 p.silent) (ored (must (decide (w64 (psize p)≤1000)) 5 p.name) (ored (ored (chkB 0 (knV p.vars) 0 true p.start) (ored (chkB 1 (knV p.vars) 0 true p.turn) (ored (chkB 2 (updAll (knV p.vars) (p.params.map Vr.name)) 0 true p.play) (ored (chkB 3 (updAll (knV p.vars) [p.silent]) 0 true p.quiet) (chkB 4 (knV p.vars) 0 true p.pays))))) (ored (must (ends p.turn) 4 sTurn) (must (restLast p.pays) 4 sPay)))))))):=by
 rw [check,chkAhead]
 simp only [ored_assoc,chkP,knOf0,knOf1,knOf2,knOf3,knOf4,partOf]
set_option maxRecDepth 100000 in
theorem scheck_any (c:Pc) (p:Pr) (N:Nat) (w:World) (hN4:4 < N) (hN:N≤w.heap.size) (h:PAt w N c p) (hL:LaidAt w) :
 Calls Tryz.prog 42 #[.agg c.cells] w fun e w'=>e=.returned (.agg (fltC (check p)))∧Ext w w':=by
 obtain ⟨X,hX⟩:∃ X,X=check p:=⟨_,rfl⟩
 rw [← hX]
 have HX0:Hid (X=ored (chkHead p) (ored (ored (chkVars [] p.vars) (must (decide (cells p.vars≤64)) 8 sVar)) (ored (ored (must (decide (p.params.length≤4)) 8 sPlay) (ored (chkPars (knV p.vars) [] p.params) (must (decide (menu p.params≤512)) 8 sPlay))) (ored (must (isName p.silent) 6 p.silent) (ored (must (knV p.vars p.silent == 0) 7 p.silent) (ored (must (decide (w64 (psize p)≤1000)) 5 p.name) (ored (ored (chkB 0 (knV p.vars) 0 true p.start) (ored (chkB 1 (knV p.vars) 0 true p.turn) (ored (chkB 2 (updAll (knV p.vars) (p.params.map Vr.name)) 0 true p.play) (ored (chkB 3 (updAll (knV p.vars) [p.silent]) 0 true p.quiet) (chkB 4 (knV p.vars) 0 true p.pays))))) (ored (must (ends p.turn) 4 sTurn) (must (restLast p.pays) 4 sPay))))))))):=J (hX.trans (check_chain p))
 clear hX
 obtain ⟨H,hH⟩:∃ H,H=chkHead p:=⟨_,rfl⟩
 obtain ⟨V,hV⟩:∃ V,V=(ored (chkVars [] p.vars) (must (decide (cells p.vars≤64)) 8 sVar)):=⟨_,rfl⟩
 obtain ⟨P,hP⟩:∃ P,P=(ored (must (decide (p.params.length≤4)) 8 sPlay) (ored (chkPars (knV p.vars) [] p.params) (must (decide (menu p.params≤512)) 8 sPlay))):=⟨_,rfl⟩
 obtain ⟨T,hT⟩:∃ T,T=(ored (chkB 0 (knV p.vars) 0 true p.start) (ored (chkB 1 (knV p.vars) 0 true p.turn) (ored (chkB 2 (updAll (knV p.vars) (p.params.map Vr.name)) 0 true p.play) (ored (chkB 3 (updAll (knV p.vars) [p.silent]) 0 true p.quiet) (chkB 4 (knV p.vars) 0 true p.pays))))):=⟨_,rfl⟩
 obtain ⟨b1,hb1⟩:∃ b,b=isName p.silent:=⟨_,rfl⟩
 obtain ⟨b2,hb2⟩:∃ b,b=(knV p.vars p.silent == 0):=⟨_,rfl⟩
 obtain ⟨b3,hb3⟩:∃ b,b=decide (w64 (psize p)≤1000):=⟨_,rfl⟩
 obtain ⟨b4,hb4⟩:∃ b,b=ends p.turn:=⟨_,rfl⟩
 obtain ⟨b5,hb5⟩:∃ b,b=restLast p.pays:=⟨_,rfl⟩
 have HX1:=J (show X=ored H (ored V (ored P (ored (must b1 6 p.silent) (ored (must b2 7 p.silent) (ored (must b3 5 p.name) (ored T (ored (must b4 4 sTurn) (must b5 4 sPay)))))))) by rw [hH,hV,hP,hT,hb1,hb2,hb3,hb4,hb5];exact HX0.out)
 have HH:=J hH
 have HV:=J hV
 have HP:=J hP
 have HT:=J hT
 have HB1:=J hb1
 have HB2:=J hb2
 have HB3:=J hb3
 have HB4:=J hb4
 have HB5:=J hb5
 clear HX0 hH hV hP hT hb1 hb2 hb3 hb4 hb5
 obtain ⟨cn,cse,cst,cv,cs,⟨tA,tn,tc⟩,cpa,cpl,csi,cq,⟨zA,zn,zc⟩⟩:=c
 obtain rfl:cn=p.name:=h.name
 obtain rfl:csi=p.silent:=h.silent
 refine zy66 ?_;intro hmf
 have hmm:=@run_makeMap Tryz.prog
 go_enter_defers Tryz.func42,Tryz.ntmps42
 go_upto_region 3 with (fail)
 clear hmf hmm
 obtain ⟨W0,hW0⟩:∃ W0,W0=((((w.alloc (.cells (Pc.cells (⟨p.name,cse,cst,cv,cs,⟨tA,tn,tc⟩,cpa,cpl,p.silent,cq,⟨zA,zn,zc⟩⟩:Pc)) 57)).alloc (.cells #[.int .i64 0,.string ⟨#[]⟩] 104)).alloc (.map #[] 0)).alloc (.cells #[.map (some (w.heap.size+1+1)),.string ⟨#[]⟩,.int .i64 0] 145)):=⟨_,rfl⟩
 have hx0:Ext w W0:=by rw [hW0];exact ((((kR _ w).alloc _).alloc _).alloc _).alloc _
 have hPB:Blk W0 w.heap.size 57 (Pc.cells (⟨p.name,cse,cst,cv,cs,⟨tA,tn,tc⟩,cpa,cpl,p.silent,cq,⟨zA,zn,zc⟩⟩:Pc)):=by rw [hW0];exact (((bN w _ _).alloc _).alloc _).alloc _
 have hRB:Blk W0 (w.heap.size+1) 104 #[.int .i64 0,.string ⟨#[]⟩]:=by rw [hW0];exact ((Blk.new' _ _ _ _ zb86).alloc _).alloc _
 have hMB:SMap W0 (w.heap.size+1+1) (fun _=>none):=by
  rw [hW0]
  have q:=SMap.made ((w.alloc (.cells (Pc.cells (⟨p.name,cse,cst,cv,cs,⟨tA,tn,tc⟩,cpa,cpl,p.silent,cq,⟨zA,zn,zc⟩⟩:Pc)) 57)).alloc (.cells #[.int .i64 0,.string ⟨#[]⟩] 104))
  have q2:((w.alloc (.cells (Pc.cells (⟨p.name,cse,cst,cv,cs,⟨tA,tn,tc⟩,cpa,cpl,p.silent,cq,⟨zA,zn,zc⟩⟩:Pc)) 57)).alloc (.cells #[.int .i64 0,.string ⟨#[]⟩] 104)).heap.size=w.heap.size+1+1:=by simp
  rw [q2] at q
  exact q.ext ((kR _ _).alloc _)
 have hCB:Blk W0 (w.heap.size+1+1+1) 145 #[.map (some (w.heap.size+1+1)),.string ⟨#[]⟩,.int .i64 0]:=by rw [hW0];exact Blk.new' _ _ _ _ zb86
 rw [← hW0]
 obtain ⟨pb,hpb⟩:∃ pb,pb=w.heap.size:=⟨_,rfl⟩
 obtain ⟨rb,hrb⟩:∃ rb,rb=pb+1:=⟨_,rfl⟩
 obtain ⟨g,hg⟩:∃ g,g=rb+1:=⟨_,rfl⟩
 obtain ⟨cb,hcb⟩:∃ cb,cb=g+1:=⟨_,rfl⟩
 rw [← hpb] at hPB hRB hMB hCB ⊢
 rw [← hrb] at hRB hMB hCB ⊢
 rw [← hg] at hMB hCB ⊢
 rw [← hcb] at hCB ⊢
 have hNg:N≤g:=by omega
 have hNc:N≤cb:=by omega
 have HPB:=J hPB
 have HRB:=J hRB
 have HCK:=J (show Ck W0 cb g (fun _=>0) E0 0 from ⟨hCB,hMB.cong (fun t=>rfl)⟩)
 have HNE:=J (show ¬ SG cb g pb∧¬ SG cb g rb by constructor <;> (rintro (h | h) <;> omega))
 have HNA:=J (show ∀ w',Kept (SG cb g) W0 w'→N≤w'.heap.size from fun w' hk=>Nat.le_trans (Nat.le_trans hN hx0.size) hk.size)
 have HS4:=J (show ∀ j,SG cb g j→N≤j from fun j h=>by rcases h with h | h <;> omega)
 have HPA:=J (show ∀ w',Kept (SG cb g) W0 w'→PAt w' N (⟨p.name,cse,cst,cv,cs,⟨tA,tn,tc⟩,cpa,cpl,p.silent,cq,⟨zA,zn,zc⟩⟩:Pc) p from fun w' hk=>(h.ext hx0 hN).kept hk (Nat.le_trans hN hx0.size) HS4.out)
 have HLA:=J (show ∀ w',Kept (SG cb g) W0 w'→LaidAt w' from fun w' hk=>(hL.ext hx0).kept hk (fun k hk h=>by have:=HS4.out k h;omega))
 have HOWN:=J (show ∀ wz w9,Kept (SG cb g) W0 wz→Kept (·=rb) wz w9→Ext w w9 from fun wz w9 h1 h2=>(hx0.trans' h1 (fun i hi q=>by rcases q with q | q <;> omega)).trans' h2 (fun i hi q=>by omega))
 have HKE:=J (kR (SG cb g) W0)
 have HZN:=J (show zn=p.pays.len from h.pays.1)
 have HZM:=J (show zn≤17592186044416 from Fits.max h.pays.2.1 zb85)
 clear hPB hRB hMB hCB hW0 hpb hrb hg hcb h hL hx0
 refine zy16 ?_;intro hcP hlP hhP hgP
 go_wp2_with fail
 refine (head_any _ (⟨p.name,cse,cst,cv,cs,⟨tA,tn,tc⟩,cpa,cpl,p.silent,cq,⟨zA,zn,zc⟩⟩:Pc) p N _ (HNA.out _ HKE.out) (HPA.out _ HKE.out) (HLA.out _ HKE.out)).mono ?_
 rintro e w1 ⟨he,hx1⟩
 clear hcP hlP hhP hgP
 rw [← HH.out] at he
 have HC1:=J (HCK.out.ext hx1)
 have HKE:=J (HKE.out.trans (Kept.ext hx1))
 clear hx1
 cases H with
 | some f =>
  have he:=MustR.some he
  subst he
  have HR:=J (show X=some f by rw [HX1.out,ored_some])
  exact zz43
 | none =>
  have he:=MustR.none he
  subst he
  have HX2:=J (show X=ored V (ored P (ored (must b1 6 p.silent) (ored (must b2 7 p.silent) (ored (must b3 5 p.name) (ored T (ored (must b4 4 sTurn) (must b5 4 sPay))))))) by rw [HX1.out,ored_none])
  clear HX1 HH
  refine zy16 ?_;intro hcP hlP hhP hgP
  go_wp2_with fail
  refine (vars_any cb g (⟨p.name,cse,cst,cv,cs,⟨tA,tn,tc⟩,cpa,cpl,p.silent,cq,⟨zA,zn,zc⟩⟩:Pc) p N hN4 hNg hNc _ (HNA.out _ HKE.out) (HPA.out _ HKE.out) (HLA.out _ HKE.out) HC1.out).mono ?_
  rintro e w2 ⟨hb,hk⟩
  clear hcP hlP hhP hgP
  rw [← HV.out] at hb
  have HKE:=J (HKE.out.trans hk)
  clear hk HC1
  cases V with
  | some f =>
   obtain ⟨he,-⟩:=hb
   subst he
   have HR:=J (show X=some f by rw [HX2.out,ored_some])
   exact zz43
  | none =>
   obtain ⟨he,hc⟩:=hb
   subst he
   have HC2:=J hc
   have HX3:=J (show X=ored P (ored (must b1 6 p.silent) (ored (must b2 7 p.silent) (ored (must b3 5 p.name) (ored T (ored (must b4 4 sTurn) (must b5 4 sPay)))))) by rw [HX2.out,ored_none])
   clear HX2 HV hc
   refine zy16 ?_;intro hcP hlP hhP hgP
   go_wp2_with fail
   refine (pars_any cb g (knV p.vars) (⟨p.name,cse,cst,cv,cs,⟨tA,tn,tc⟩,cpa,cpl,p.silent,cq,⟨zA,zn,zc⟩⟩:Pc) p N hN4 _ (HNA.out _ HKE.out) (HPA.out _ HKE.out) (HLA.out _ HKE.out) HC2.out).mono ?_
   rintro e w3 ⟨hb,hx3⟩
   clear hcP hlP hhP hgP
   rw [← HP.out] at hb
   have HKE:=J (HKE.out.trans (Kept.ext hx3))
   clear hx3 HC2
   cases P with
   | some f =>
    obtain ⟨he,-⟩:=hb
    subst he
    have HR:=J (show X=some f by rw [HX3.out,ored_some])
    exact zz43
   | none =>
    obtain ⟨he,hc⟩:=hb
    subst he
    have HC3:=J hc
    have hp:=ored_eq_none.1 HP.out.symm
    have HP4:=J (show p.params.length≤4 from of_decide_eq_true (must_none.1 hp.1))
    have HPR:=J (chkPars_none _ _ _ (ored_eq_none.1 hp.2).1)
    have HX4:=J (show X=ored (must b1 6 p.silent) (ored (must b2 7 p.silent) (ored (must b3 5 p.name) (ored T (ored (must b4 4 sTurn) (must b5 4 sPay))))) by rw [HX3.out,ored_none])
    clear HX3 HP hc hp
    go_upto_region 6 with (fail)
    refine qr3 (fun w1=>Ext w3 w1) [(0,2),(1,1),(3,2),(4,1),(2,0),(5,0)] ?_;refine qrl ?_
    have HY0:=J (show Ext w3 w3.drew from (kR _ w3).drew)
    (repeat first|refine qs3 ?_|refine qt3 HY0.out zb14 ?_|refine qp3 HY0.out ?_)
    (refine w3_act (fun K hK=>?_);go_simp)
    refine (sisname_any p.silent (HPA.out _ HKE.out).silentOk _ (HLA.out _ (HKE.out.trans (Kept.ext HY0.out)))).mono ?_
    rintro e w4 ⟨rfl,hx4⟩
    have HY1:=J (HY0.out.trans hx4)
    clear hx4
    refine hK.out _ _ (fun _=>HY1.out) ?_
    clear hK K
    (repeat first|refine qs3 ?_|refine qt3 HY1.out zb14 ?_|refine qp3 HY1.out ?_)
    (refine w3_last zb83 zb83 (fun K hK=>?_);go_simp)
    have HK0:=HKE
    have HKE:=J (HK0.out.trans (Kept.ext HY1.out))
    rw [← HB1.out]
    cases b1
    ·have HR:=J (show X=some ⟨6,p.silent⟩ by rw [HX4.out,must_false,ored_some])
     exact zz35
    ·have HX5:=J (show X=ored (must b2 7 p.silent) (ored (must b3 5 p.name) (ored T (ored (must b4 4 sTurn) (must b5 4 sPay)))) by rw [HX4.out,must_true,ored_none])
     refine (must_any true _ _ _).mono ?_
     rintro e w8 ⟨he,rfl⟩
     have he:=MustR.none he
     subst he
     refine hK.out _ _ ?_
     clear hK K
     refine qf3 ?_
     have HC4:=J (HC3.out.ext HY1.out)
     clear HX4 HC3 HY0 HY1 HK0
     go_upto_region 7 with (fail)
     obtain ⟨v,hv⟩:∃ v,v=knV p.vars p.silent:=⟨_,rfl⟩
     have HV:=J hv
     clear hv
     refine qr3 (fun w1=>Ext w4 w1) [(0,2),(1,2),(2,1),(5,2),(6,1),(3,0),(4,2),(7,0)] ?_;refine qrl ?_
     have HY0:=J (show Ext w4 w4.drew from (kR _ w4).drew)
     (repeat first|refine qs3 ?_|refine qt3 HY0.out zb14 ?_|refine qp3 HY0.out ?_)
     (refine w3_act (fun K hK=>?_);go_simp)
     refine (knows_any cb g (knV p.vars) E0 0 p.silent _ (HC4.out.ext HY0.out)).mono ?_
     rintro e w5 ⟨rfl,rfl⟩
     rw [← HV.out]
     refine hK.out _ _ (fun _=>HY0.out) ?_
     clear hK K
     (repeat first|refine qs3 ?_|refine qt3 HY0.out zb14 ?_|refine qp3 HY0.out ?_)
     (refine w3_last zb83 zb83 (fun K hK=>?_);go_simp)
     have HK0:=HKE
     have HKE:=J (HK0.out.trans (Kept.ext HY0.out))
     by_cases hv0:v=0
     ·have qv:(v != 0)=false:=by simp [hv0]
      have HX6:=J (show X=ored (must b3 5 p.name) (ored T (ored (must b4 4 sTurn) (must b5 4 sPay))) by rw [HX5.out,show b2=true by rw [HB2.out,← HV.out,hv0];rfl,must_true,ored_none])
      try rw [qv]
      try simp only [Bool.not_false]
      refine (must_any true _ _ _).mono ?_
      rintro e w8 ⟨he,rfl⟩
      have he:=MustR.none he
      subst he
      refine hK.out _ _ ?_
      clear hK K
      refine qf3 ?_
      have HSK:=J (show knV p.vars p.silent=0 by rw [← HV.out,hv0])
      have HC5:=J (HC4.out.ext HY0.out)
      generalize w4.drew=w5 at HKE HC5 ⊢
      clear HX5 hv0 qv HC4 HY0 HK0 HV
      go_upto_region 8 with (fail)
      obtain ⟨z,hz⟩:∃ z,z=w64 (psize p):=⟨_,rfl⟩
      have HZ:=J hz
      clear hz
      refine qr3 (fun w1=>Ext w5 w1) [(0,1),(3,2),(4,1),(1,0),(2,2),(5,0)] ?_;refine qrl ?_
      have HY0:=J (show Ext w5 w5.drew from (kR _ w5).drew)
      (repeat first|refine qs3 ?_|refine qt3 HY0.out zb9 ?_|refine qp3 HY0.out ?_)
      (refine w3_act (fun K hK=>?_);go_simp)
      refine (ssize_any (⟨p.name,cse,cst,cv,cs,⟨tA,tn,tc⟩,cpa,cpl,p.silent,cq,⟨zA,zn,zc⟩⟩:Pc) p N _ (HNA.out _ (HKE.out.trans (Kept.ext HY0.out))) (HPA.out _ (HKE.out.trans (Kept.ext HY0.out)))).mono ?_
      rintro e w6 ⟨rfl,hx6⟩
      rw [← HZ.out]
      have HY1:=J (HY0.out.trans hx6)
      clear hx6
      refine hK.out _ _ (fun _=>HY1.out) ?_
      clear hK K
      have HK0:=HKE
      by_cases hz:z≤1000
      ·have HX7:=J (show X=ored T (ored (must b4 4 sTurn) (must b5 4 sPay)) by rw [HX6.out,show b3=true by rw [HB3.out,← HZ.out];exact decide_eq_true hz,must_true,ored_none])
       (repeat first|refine qs3 ?_|refine qt3 HY1.out zb9 ?_|refine qp3 HY1.out ?_)
       (refine w3_last zb83 zb83 (fun K hK=>?_);go_simp)
       have HKE:=J (HK0.out.trans (Kept.ext HY1.out))
       refine (must_any true _ _ _).mono ?_
       rintro e w8 ⟨he,rfl⟩
       have he:=MustR.none he
       subst he
       refine hK.out _ _ ?_
       clear hK K
       refine qf3 ?_
       have HC6:=J (HC5.out.ext HY1.out)
       clear HX6 hz HC5 HY0 HY1 HK0 HZ
       refine zy16 ?_;intro hcP hlP hhP hgP
       go_wp2_with fail
       refine (parts_any cb g (knV p.vars) (⟨p.name,cse,cst,cv,cs,⟨tA,tn,tc⟩,cpa,cpl,p.silent,cq,⟨zA,zn,zc⟩⟩:Pc) p N hN4 hNg hNc _ (HNA.out _ HKE.out) (HPA.out _ HKE.out) (HLA.out _ HKE.out) HC6.out HP4.out HPR.out HSK.out).mono ?_
       rintro e w7 ⟨he,hk⟩
       clear hcP hlP hhP hgP
       rw [← HT.out] at he
       have HKE:=J (HKE.out.trans hk)
       clear hk HC6
       cases T with
       | some f =>
        have he:=MustR.some he
        subst he
        have HR:=J (show X=some f by rw [HX7.out,ored_some])
        exact zz43
       | none =>
        have he:=MustR.none he
        subst he
        have HX8:=J (show X=ored (must b4 4 sTurn) (must b5 4 sPay) by rw [HX7.out,ored_none])
        clear HX7 HT
        refine zy16 ?_;intro hcP hlP hhP hgP
        go_wp2_with fail
        refine (sends_any w7 p.turn tA tn tc N _ (kR _ _) (HNA.out _ HKE.out) (HPA.out _ HKE.out).turn).mono ?_
        rintro e w8 ⟨rfl,hx8⟩
        clear hcP hlP hhP hgP
        have HKE:=J (HKE.out.trans (Kept.ext hx8))
        clear hx8
        go_wp2_with fail
        rw [← HB4.out]
        cases b4
        ·have HR:=J (show X=some ⟨4,sTurn⟩ by rw [HX8.out,must_false,ored_some])
         exact zz35
        ·have HX9:=J (show X=must b5 4 sPay by rw [HX8.out,must_true,ored_none])
         refine (must_any true _ _ _).mono ?_
         rintro e w8 ⟨he,rfl⟩
         have he:=MustR.none he
         subst he
         clear HX8
         refine zy16 ?_;intro hcP hlP hhP hgP
         obtain ⟨-,-,b,off,hA,hE⟩:=(HPA.out _ HKE.out).pays
         have HA:=J hA
         have HE:=J hE
         clear hA hE
         have hcR:=bC (bK HRB.out HKE.out HNE.out.2)
         have hzR:=Blk.frozen (bK HRB.out HKE.out HNE.out.2)
         have hlR:=(bK HRB.out HKE.out HNE.out.2).lt
         have hmR:=(bK HRB.out HKE.out HNE.out.2).melts
         have hhR:=bH (bK HRB.out HKE.out HNE.out.2)
         cases zn with
         | zero =>
          have HR:=J (show X=some ⟨4,sPay⟩ by
           have:p.pays=.nil:=by
            have hz:=HZN.out
            cases hq:p.pays with
            | nil=>rfl
            | cons=>rw [hq] at hz;simp [SF.len] at hz
           rw [HX9.out,show b5=false by rw [HB5.out,this];rfl,must_false])
          exact zz34
         | succ m =>
          obtain ⟨k,hk,hrl,hbN⟩:=rest_at HE.out (by rw [← HZN.out];exact Nat.succ_pos m)
          obtain rfl:=HA.out (Nat.succ_pos m)
          rw [← HZN.out] at hk
          have hm:=HZM.out
          have hbw:=HNA.out _ HKE.out
          simp only [Nat.add_sub_cancel] at hk
          have hi1:(m:Int) < ((m:Int)+1):=by omega
          have hi0:(0:Int) < (m:Int)+1:=by omega
          have HRL:=J hrl
          clear hrl
          cases hq:(k == 9)
          ·have HR:=J (show X=some ⟨4,sPay⟩ by rw [HX9.out,show b5=false by rw [HB5.out,HRL.out,hq],must_false])
           exact zz34
          ·have HR:=J (show X=none by rw [HX9.out,show b5=true by rw [HB5.out,HRL.out,hq],must_true])
           go_wp2_with fail
           refine (must_any true _ _ _).mono ?_
           rintro e w8 ⟨he,rfl⟩
           have he:=MustR.none he
           subst he
           clear hk hbw hcP hlP hhP hgP
           go_wp2_with fail
           refine leaves_cons (f:=71) (args:=#[.pointer (some ⟨rb,0,none⟩)]) zb86 (by simp [go_sem]) ?_
           refine (catch_idle ⟨rb,0,none⟩ _).mono ?_
           rintro e u' w9 ⟨rfl,rfl,hk9⟩
           have hre:=bX (Blk.put_ (bK HRB.out HKE.out HNE.out.2) 0 #[.int .i64 0,.string ⟨#[]⟩]) hk9
           refine ⟨_,results_cell_row Tryz.results42 _ _ rb _ _ _ _ rfl hre Tryz.underlying104 rfl sizeFaultS,?_⟩
           rw [HR.out]
           exact ⟨rfl,HOWN.out _ _ HKE.out ((Kept.putAt (kR (·=rb) _) _ _ _ (fun _=>rfl)).trans (Kept.ext hk9))⟩
      ·have HR:=J (show X=some ⟨5,p.name⟩ by rw [HX6.out,show b3=false by rw [HB3.out,← HZ.out];exact decide_eq_false hz,must_false,ored_some])
       (repeat first|refine qs3 ?_|refine qt3 HY1.out zb9 ?_|refine qp3 HY1.out ?_)
       (refine w3_last zb83 zb83 (fun K hK=>?_);go_simp)
       have HKE:=J (HK0.out.trans (Kept.ext HY1.out))
       exact zz35
     ·have qv:(v != 0)=true:=by simp [hv0]
      have qn:(v == 0)=false:=by simp [hv0]
      have HR:=J (show X=some ⟨7,p.silent⟩ by rw [HX5.out,show b2=false by rw [HB2.out,← HV.out,qn],must_false,ored_some])
      try rw [qv]
      try simp only [Bool.not_true]
      exact zz35
end Go.Proofs.YtbfbabbcdochjaaGreatDoor
