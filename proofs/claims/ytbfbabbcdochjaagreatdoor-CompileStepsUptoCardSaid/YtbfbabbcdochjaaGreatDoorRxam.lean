/- Several texts joined: Qzk, Qzl. -/
import Derived.Test.YtbfbabbcdochjaaGreatDoorRxpk
import Derived.Test.YtbfbabbcdochjaaGreatDoorRxal
set_option maxHeartbeats 4000000
namespace Go.Proofs.YtbfbabbcdochjaaGreatDoor
open Go.RowKit So
theorem knV_find (l:List Vr) (s:Str) (h:knV l s=0):l.find? (fun v=>decide (v.name=s))=none:=by
 unfold knV at h
 cases hf:l.find? (fun v=>decide (v.name=s)) with
 | none=>rfl
 | some v=>rw [hf] at h;simp only at h;split at h <;> omega
theorem knV_snoc (l:List Vr) (v:Vr) (h:knV l v.name=0):∀ t,(fun t=>if t=v.name then some (Value.int .i64 (if 0 < v.size then 1 else 0)) else knF (knV l) t) t=knF (knV (l ++ [v])) t:=by
 intro t
 have hf:=knV_find l v.name h
 by_cases e:t=v.name
 ·subst e
  have:knV (l ++ [v]) v.name=if 0 < v.size then 2 else 1:=by
   unfold knV
   rw [List.find?_append,hf]
   simp
  simp only [if_true]
  unfold knF
  rw [this]
  split <;> simp
 ·have e2:¬ v.name=t:=fun q=>e q.symm
  have:knV (l ++ [v]) t=knV l t:=by
   unfold knV
   rw [List.find?_append]
   simp [e2]
  simp only [if_neg e]
  unfold knF
  rw [this]
set_option maxRecDepth 100000 in
theorem vars_any (cb g:Nat) (c:Pc) (p:Pr) (N:Nat) (hN4:4 < N) (hNg:N≤g) (hNc:N≤cb) (w:World) (hN:N≤w.heap.size) (h:PAt w N c p) (hL:LaidAt w) (hC:Ck w cb g (fun _=>0) E0 0) :
 Calls Tryz.prog 73 #[.pointer (some ⟨cb,0,none⟩),.agg c.cells] w fun e w'=>BlkR cb g (knV p.vars) E0 0 (ored (chkVars [] p.vars) (must (decide (cells p.vars≤64)) 8 sVar)) e w'∧Kept (SG cb g) w w':=by
 obtain ⟨X,hX⟩:∃ X,X=ored (chkVars [] p.vars) (must (decide (cells p.vars≤64)) 8 sVar):=⟨_,rfl⟩
 rw [← hX]
 have HX:=J hX.symm
 clear hX
 have HS4:=J (show ∀ j,SG cb g j→N≤j from fun j h=>by rcases h with h | h <;> omega)
 have hcl:=hC.map.lt
 have hc2:=hC.lt
 obtain ⟨cn,cse,cst,⟨A,n,cc⟩,cs,ct,cpa,cpl,csi,cq,cpy⟩:=c
 have hx0:=(kR (fun _=>False) w).alloc (.cells (Pc.cells ⟨cn,cse,cst,⟨A,n,cc⟩,cs,ct,cpa,cpl,csi,cq,cpy⟩) 57)
 have hB0:=bN w 57 (Pc.cells ⟨cn,cse,cst,⟨A,n,cc⟩,cs,ct,cpa,cpl,csi,cq,cpy⟩)
 refine zy69 ?_;intro HPA HNW
 obtain ⟨hn,hf,hok,b,off,hA,hE⟩:=h.vars.ext hx0
 refine zy25 ?_;intro hm HN HA HE
 have HOK:=J hok
 have HLW:=J (hL.ext hx0)
 have HCW:=J (hC.ext hx0)
 have HPB:=J (show ¬ SG cb g w.heap.size by rintro (h | h) <;> omega)
 clear hn hA hE hok hf h hL hC hcl hc2
 go_enter Tryz.func73,Tryz.ntmps73
 go_upto_region 1 with (fail)
 generalize hW:(w.alloc (.cells (Pc.cells ⟨cn,cse,cst,⟨A,n,cc⟩,cs,ct,cpa,cpl,csi,cq,cpy⟩) 57))=W at hx0 hB0 HE HLW HCW HPA HNW ⊢
 clear hW
 generalize w.heap.size=pb at hB0 HPB ⊢
 have hB0:=J hB0
 have HX0:=J hx0
 have hcP:=bC hB0.out
 have hlP:=hB0.out.lt
 clear hx0
 go_wp2_with fail
 go_loopw [9] (fun t9 wr=>∃ (j:Nat),j≤n∧t9=.int .i64 j∧ored (chkVars (p.vars.take j) (p.vars.drop j)) (must (decide (cells p.vars≤64)) 8 sVar)=X∧Ck wr cb g (knV (p.vars.take j)) E0 0∧Kept (SG cb g) W wr) (fun t9 _=>n - (intOf t9).toNat)
 case atStart=>exact ⟨0,Nat.zero_le _,rfl,HX.out,⟨HCW.out.blk,HCW.out.map.cong (fun t=>rfl)⟩,kR _ _⟩
 case round =>
  obtain ⟨j,hj,rfl,hacc,hck,hx⟩:=hrel
  have HACC:=J hacc
  have HXR:=J hx
  have HCR:=J hck
  clear hacc hx hck hcP hlP
  have hcP:=bC (bK hB0.out HXR.out HPB.out)
  have hlP:=(bK hB0.out HXR.out HPB.out).lt
  by_cases hlt:j < n
  ·have hjl:j < p.vars.length:=by have:=HN.out;omega
   have hltI:(j:Int) < n:=by omega
   obtain rfl:=HA.out zb85
   have hrow0:=(HE.out zb85)
   have hrow:=hrow0.2.kept HXR.out (fun q=>by have:=HS4.out _ q;have:=hrow0.1;omega)
   obtain ⟨hh',hg'⟩:=vr_at hrow j hjl
   have hbw:=hrow.lt
   obtain ⟨x,hxe⟩:∃ x,x=p.vars[j]:=⟨_,rfl⟩
   have HVO:=J (HOK.out x zb52)
   have hdrop:p.vars.drop j=x :: p.vars.drop (j+1):=by rw [hxe];exact List.drop_eq_getElem_cons hjl
   have htake:p.vars.take (j+1)=p.vars.take j ++ [x]:=by rw [hxe,List.take_add_one,List.getElem?_eq_getElem hjl];rfl
   rw [← hxe] at hg'
   have hacc:=HACC.out
   rw [hdrop] at hacc
   have HTK:=J htake
   obtain ⟨Y,hY⟩:∃ Y,Y=ored (chkVars (p.vars.take j ++ [x]) (p.vars.drop (j+1))) (must (decide (cells p.vars≤64)) 8 sVar):=⟨_,rfl⟩
   obtain ⟨κ,hκ⟩:∃ κ,κ=knV (p.vars.take j):=⟨_,rfl⟩
   have HYE:=J hY
   rw [← hκ] at HCR
   have HKE:=J hκ
   obtain ⟨v,hv⟩:∃ v,v=κ x.name:=⟨_,rfl⟩
   have HV:=J hv
   have HX2:Hid (X=ored (must (isName x.name) 6 x.name) (ored (must (v == 0) 7 x.name) (ored (must (btw x.size 0 64 && span x) 2 x.name) Y))):=J (by
    rw [← hacc,hY,hv,hκ,chkVars,ored_assoc,ored_assoc,ored_assoc])
   clear hrow hrow0 hxe hacc hdrop htake hY hκ hv HACC
   have y0:=(kR (fun _=>False) wr).alloc (.cells (vcells x) 109)
   have hV0:=bN wr 109 (vcells x)
   go_upto_region 4 with (fail)
   clear hh' hg' hbw hcP hlP
   have HZ:=J (HXR.out.trans (Kept.ext y0))
   have HCZ:=J (HCR.out.ext y0)
   have HEB:=J (show ¬ SG cb g wr.heap.size by
    have h1:=HCR.out.map.lt
    have h2:=HCR.out.lt
    rintro (h | h) <;> omega)
   generalize hW1:(wr.alloc (.cells (vcells x) 109))=W1 at y0 hV0 HZ HCZ ⊢
   generalize wr.heap.size=eb at hV0 HEB ⊢
   have hV:=J hV0
   clear hW1 y0 hV0 HXR HCR
   have HLZ:=J (HLW.out.kept HZ.out (fun k hk h=>by have:=HS4.out k h;omega))
   refine qr3 (fun w1=>Ext W1 w1) [(0,2),(1,1),(3,2),(4,1),(2,0),(5,0)] ?_;refine qrl ?_
   have HY0:=J (show Ext W1 W1.drew from (kR _ W1).drew)
   (repeat first|refine qs3 ?_|refine qt3 HY0.out zb33 ?_|refine qp3 HY0.out ?_)
   (refine w3_act (fun K hK=>?_);go_simp)
   refine (sisname_any x.name HVO.out.name _ (HLZ.out.ext HY0.out)).mono ?_
   refine zy59 ?_;intro w1 HY1
   clear hK K
   (repeat first|refine qs3 ?_|refine qt3 HY1.out zb33 ?_|refine qp3 HY1.out ?_)
   (refine w3_last zb83 zb83 (fun K hK=>?_);go_simp)
   have HXE:=J ((Kept.ext (S:=SG cb g) HX0.out).trans (HZ.out.trans (Kept.ext HY1.out)))
   have HCE:=J (HCZ.out.ext HY1.out)
   cases hn:isName x.name
   ·have HR:=J (show X=some ⟨6,x.name⟩ by rw [HX2.out,hn];rfl)
    exact zz85
   ·have HX3:=J (show X=ored (must (v == 0) 7 x.name) (ored (must (btw x.size 0 64 && span x) 2 x.name) Y) by rw [HX2.out,hn];rfl)
    clear HX2 hn
    refine (must_any true _ _ _).mono ?_
    rintro e w8 ⟨he,rfl⟩
    have he:=MustR.none he
    subst he
    refine hK.out _ _ ?_
    clear hK K
    refine qf3 ?_
    clear HXE HCE
    go_upto_region 5 with (fail)
    refine qr3 (fun w2=>Ext w1 w2) [(0,2),(1,2),(2,1),(5,2),(6,1),(3,0),(4,2),(7,0)] ?_;refine qrl ?_
    have HZ0:=J (show Ext w1 w1.drew from (kR _ w1).drew)
    (repeat first|refine qs3 ?_|refine qt3 HZ0.out zb25 ?_|refine qp3 HZ0.out ?_)
    (refine w3_act (fun K hK=>?_);go_simp)
    refine (knows_any cb g κ E0 0 x.name _ (HCZ.out.ext (HY1.out.trans HZ0.out))).mono ?_
    rintro e w2 ⟨rfl,rfl⟩
    rw [← HV.out]
    refine hK.out _ _ (fun _=>HZ0.out) ?_
    clear hK K
    (repeat first|refine qs3 ?_|refine qt3 HZ0.out zb25 ?_|refine qp3 HZ0.out ?_)
    (refine w3_last zb83 zb83 (fun K hK=>?_);go_simp)
    have HY2:=J (HY1.out.trans HZ0.out)
    have HXE:=J ((Kept.ext (S:=SG cb g) HX0.out).trans (HZ.out.trans (Kept.ext HY2.out)))
    have HCE:=J (HCZ.out.ext HY2.out)
    by_cases hv0:v=0
    ·have qv:(v != 0)=false:=by simp [hv0]
     have HX4:=J (show X=ored (must (btw x.size 0 64 && span x) 2 x.name) Y by rw [HX3.out,hv0];rfl)
     try rw [qv]
     try simp only [Bool.not_false]
     refine (must_any true _ _ _).mono ?_
     rintro e w8 ⟨he,rfl⟩
     have he:=MustR.none he
     subst he
     refine hK.out _ _ ?_
     clear hK K
     refine qf3 ?_
     clear HXE HCE HX3
     have HV0:=J (show knV (p.vars.take j) x.name=0 by rw [← HKE.out,← HV.out,hv0])
     clear qv hv0
     go_upto_region 6 with (fail)
     generalize hW2:w1.drew=W2 at HY2 ⊢
     clear hW2
     cases hb:btw x.size 0 64
     ·have HR:=J (show X=some ⟨2,x.name⟩ by rw [HX4.out,hb];rfl)
      refine qr3 (fun w2=>Ext W2 w2) [(0,2),(1,1),(7,2),(8,1),(2,0),(3,2),(4,1),(5,0),(6,2),(9,0)] ?_;refine qrl ?_
      have HU0:=J (show Ext W2 W2.drew from (kR _ W2).drew)
      (repeat first|refine qs3 ?_|refine qt3 HU0.out zb12 ?_|refine qp3 HU0.out ?_)
      refine zy81 ?_;intro K hK
      rintro e w2 ⟨rfl,rfl⟩
      rw [hb]
      refine hK.out _ _ (fun _=>HU0.out) ?_
      clear hK K
      (repeat first|refine qs3 ?_|refine qt3 HU0.out zb12 ?_|refine qp3 HU0.out ?_)
      (refine w3_act (fun K hK=>?_);go_simp)
      refine hK.out _ _ (fun h=>h) ?_
      clear hK K
      (repeat first|refine qs3 ?_|refine qt3 HU0.out zb12 ?_|refine qp3 HU0.out ?_)
      (refine w3_last zb83 zb83 (fun K hK=>?_);go_simp)
      have HXE:=J ((Kept.ext (S:=SG cb g) HX0.out).trans (HZ.out.trans (Kept.ext (HY2.out.trans HU0.out))))
      have HCE:=J (HCZ.out.ext (HY2.out.trans HU0.out))
      exact zz85
     ·refine qr3 (fun w2=>Ext W2 w2) [(0,2),(1,1),(7,2),(8,1),(2,0),(3,2),(4,1),(5,0),(6,2),(9,0)] ?_;refine qrl ?_
      have HU0:=J (show Ext W2 W2.drew from (kR _ W2).drew)
      (repeat first|refine qs3 ?_|refine qt3 HU0.out zb12 ?_|refine qp3 HU0.out ?_)
      refine zy81 ?_;intro K hK
      rintro e w2 ⟨rfl,rfl⟩
      rw [hb]
      refine hK.out _ _ (fun _=>HU0.out) ?_
      clear hK K
      (repeat first|refine qs3 ?_|refine qt3 HU0.out zb12 ?_|refine qp3 HU0.out ?_)
      (refine w3_act (fun K hK=>?_);go_simp)
      refine (span_any x _).mono ?_
      rintro e w2 ⟨rfl,hx2⟩
      have HU1:=J (HU0.out.trans hx2)
      clear hx2
      refine hK.out _ _ (fun _=>HU1.out) ?_
      clear hK K
      (repeat first|refine qs3 ?_|refine qt3 HU1.out zb12 ?_|refine qp3 HU1.out ?_)
      (refine w3_last zb83 zb83 (fun K hK=>?_);go_simp)
      have HY3:=J (HY2.out.trans HU1.out)
      have HXE:=J ((Kept.ext (S:=SG cb g) HX0.out).trans (HZ.out.trans (Kept.ext HY3.out)))
      have HCE:=J (HCZ.out.ext HY3.out)
      cases hsp:span x
      ·have HR:=J (show X=some ⟨2,x.name⟩ by rw [HX4.out,hb,hsp];rfl)
       exact zz85
      ·have HX5:=J (show X=Y by rw [HX4.out,hb,hsp];rfl)
       refine (must_any true _ _ _).mono ?_
       rintro e w8 ⟨he,rfl⟩
       have he:=MustR.none he
       subst he
       refine hK.out _ _ ?_
       clear hK K
       refine qf3 ?_
       clear HXE HX4 hb hsp
       go_upto_region 7 with (fail)
       have HCQ:=HCE
       clear HCE
       obtain ⟨w3,hrun,hS',hk'⟩:=SMap.put (P:=Tryz.prog) (HCQ.out.map.ext (show Ext w2 w2.drew from (kR _ w2).drew)) Tryz.underlying143 Tryz.underlying9 x.name (.int .i64 0)
       have HS':=J hS'
       have HK':=J ((Kept.ext (S:=(·=g)) (show Ext w2 w2.drew from (kR _ w2).drew)).trans hk')
       have HNE:=J HCQ.out.ne
       have HEG:=J (show ¬ eb=g from fun e=>HEB.out (Or.inl e))
       clear hS' hk'
       refine qr3 (fun w4=>Kept (·=g) w2 w4) [(0,2),(1,2),(2,2),(3,1),(4,2),(5,1),(6,0)] ?_;refine qrl ?_
       have HT0:=J (show Kept (·=g) w2 w2.drew from (kR _ w2).drew)
       (repeat first|refine qs3 ?_|refine qt3 HT0.out (by intro w1 hS;have c4:=bK HCQ.out.blk hS HNE.out;have c5:=bC c4;have c6:=c4.lt;have d4:=bK (bX hV.out HY3.out) hS HEG.out;have d5:=bC d4;have d6:=d4.lt;exact zgo) ?_|refine qp3 HT0.out ?_)
       (refine w3_act (fun K hK=>?_);go_simp)
       refine hK.out _ _ (fun _=>HK'.out) ?_
       clear hK K
       refine qf3 ?_
       clear hrun
       have hcV:=bC (bK (bX hV.out HY3.out) HK'.out HEG.out)
       have hlV:=(bK (bX hV.out HY3.out) HK'.out HEG.out).lt
       have HSN:=J (knV_snoc (p.vars.take j) x HV0.out)
       by_cases hz:x.size > 0
       ·go_upto_region 9 with (fail)
        clear hcV hlV
        have HZS:=J hz
        clear hz
        obtain ⟨w5,hrun,hS',hk'⟩:=SMap.put (P:=Tryz.prog) (HS'.out.ext (show Ext w3 w3.drew from (kR _ w3).drew)) Tryz.underlying143 Tryz.underlying9 x.name (.int .i64 1)
        have HS2:=J hS'
        have HK2:=J ((Kept.ext (S:=(·=g)) (show Ext w3 w3.drew from (kR _ w3).drew)).trans hk')
        clear hS' hk'
        refine qr3 (fun w4=>Kept (·=g) w3 w4) [(0,2),(1,2),(2,2),(3,1),(4,2),(5,1),(6,0)] ?_;refine qrl ?_
        have HT0:=J (show Kept (·=g) w3 w3.drew from (kR _ w3).drew)
        (repeat first|refine qs3 ?_|refine qt3 HT0.out (by intro w1 hS;have c4:=bK HCQ.out.blk (HK'.out.trans hS) HNE.out;have c5:=bC c4;have c6:=c4.lt;have d4:=bK (bX hV.out HY3.out) (HK'.out.trans hS) HEG.out;have d5:=bC d4;have d6:=d4.lt;exact zgo) ?_|refine qp3 HT0.out ?_)
        (refine w3_act (fun K hK=>?_);go_simp)
        refine hK.out _ _ (fun _=>HK2.out) ?_
        clear hK K
        refine qf3 ?_
        clear hrun
        go_wp2_with fail
        exact ⟨⟨j+1,hlt,by go_num,by rw [HTK.out,← HYE.out,HX5.out],⟨bK HCQ.out.blk (HK'.out.trans HK2.out) HNE.out,HS2.out.cong (fun t=>by
         rw [HTK.out,← HSN.out t,if_pos HZS.out,HKE.out]
         by_cases e:t=x.name
         ·simp only [if_pos e]
         ·simp only [if_neg e])⟩,HZ.out.trans ((Kept.ext HY3.out).trans ((HK'.out.trans HK2.out).mono (fun _ _ h=>Or.inl h)))⟩,by simp only [intOf];omega⟩
       ·go_wp2_with fail
        exact ⟨⟨j+1,hlt,by go_num,by rw [HTK.out,← HYE.out,HX5.out],⟨bK HCQ.out.blk HK'.out HNE.out,HS'.out.cong (fun t=>by
         rw [HTK.out,← HSN.out t,if_neg (show ¬ 0 < x.size from hz),HKE.out])⟩,HZ.out.trans ((Kept.ext HY3.out).trans (HK'.out.mono (fun _ _ h=>Or.inl h)))⟩,by simp only [intOf];omega⟩
    ·have qv:(v != 0)=true:=by simp [hv0]
     have qn:(v == 0)=false:=by simp [hv0]
     have HR:=J (show X=some ⟨7,x.name⟩ by rw [HX3.out,qn];rfl)
     try rw [qv]
     try simp only [Bool.not_true]
     exact zz85
  ·obtain rfl:j=n:=by omega
   have HXM:=J (show X=must (decide (cells p.vars≤64)) 8 sVar by
    rw [← HACC.out,HN.out,List.drop_length];rfl)
   have HCL:=J (show Ck wr cb g (knV p.vars) E0 0 from by have h:=HCR.out;rwa [HN.out,List.take_length] at h)
   have hgP:=bG (bK hB0.out HXR.out HPB.out)
   have hhP:=bH (bK hB0.out HXR.out HPB.out)
   clear HACC HCR
   go_wp2_with fail
   refine (scells_any ⟨cn,cse,cst,⟨A,j,cc⟩,cs,ct,cpa,cpl,csi,cq,cpy⟩ p N _ (Nat.le_trans HNW.out HXR.out.size) (HPA.out.kept HXR.out HNW.out HS4.out)).mono ?_
   rintro e w1 ⟨rfl,hx1⟩
   have HXE:=J ((Kept.ext (S:=SG cb g) HX0.out).trans (HXR.out.trans (Kept.ext hx1)))
   have HCE:=J (HCL.out.ext hx1)
   clear hgP hhP hcP hlP hx1
   by_cases h64:cells p.vars≤64
   ·have HR:=J (show X=none by rw [HXM.out,decide_eq_true h64];rfl)
    go_wp2_with fail
    refine (must_any true _ _ _).mono ?_
    rintro e w2 ⟨he,rfl⟩
    have he:=MustR.none he
    subst he
    go_wp2_with fail
    go_end0
    rw [HR.out]
    exact ⟨⟨rfl,HCE.out⟩,HXE.out⟩
   ·have HR:=J (show X=some ⟨8,sVar⟩ by rw [HXM.out,decide_eq_false h64];rfl)
    go_wp2_with fail
    rw [decide_eq_false (show ¬ cells p.vars≤64 by omega)]
    exact zz85
open Go.RowKit So
def aheadF (l:List Vr):ByteArray→Option Value:=fun t=>if l.any (fun u=>decide (u.name=t))=true then some (.bool true) else none
theorem aheadF_snoc (l:List Vr) (x:Vr):∀ t,(fun t=>if t=x.name then some (.bool true) else aheadF l t) t=aheadF (l ++ [x]) t:=by
 intro t
 unfold aheadF
 rw [List.any_append]
 by_cases h:t=x.name
 ·subst h;simp
 ·have:¬ x.name=t:=fun e=>h e.symm
  have h2:decide (x.name=t)=false:=decide_eq_false this
  simp only [List.any_cons,List.any_nil,h2,Bool.or_false]
  rw [if_neg h]
theorem aheadF_get (l:List Vr) (s:Str):(aheadF l s).getD (.bool false)=.bool (l.any (fun u=>decide (u.name=s))):=by
 unfold aheadF
 cases h:l.any (fun u=>decide (u.name=s)) <;> rfl
theorem zero_boolT (w:World):(zeroValue 4).run Tryz.prog w=.ok (.bool false) w:=by
 first | kernel_rfl | rfl
theorem alook {w:World} {mb:Nat} {l:List Vr} (h:SMap w mb (aheadF l)) (s:Str):(Instr.lookup 188 (.map (some mb)) (.string s) false).run Tryz.prog w=.ok (.bool (l.any (fun u=>decide (u.name=s)))) w:=by
 have hlk:=SMap.look (P:=Tryz.prog) h Tryz.underlying188 Tryz.underlying9 (z:=.bool false) zero_boolT s
 rw [hlk,aheadF_get]
theorem Ck.kept {S:Nat→Prop} {w w':World} {cb g:Nat} {κ:Kn} {part:Str} {fors:Nat} (h:Ck w cb g κ part fors) (hk:Kept S w w') (h1:¬ S cb) (h2:¬ S g):Ck w' cb g κ part fors:=⟨bK h.blk hk h1,h.map.kept hk h2⟩
set_option maxRecDepth 100000 in
theorem pars_any (cb g:Nat) (κ:Kn) (c:Pc) (p:Pr) (N:Nat) (hN4:4 < N) (w:World) (hN:N≤w.heap.size) (h:PAt w N c p) (hL:LaidAt w) (hC:Ck w cb g κ E0 0) :
 Calls Tryz.prog 74 #[.pointer (some ⟨cb,0,none⟩),.agg c.cells] w fun e w'=>BlkR cb g κ E0 0 (ored (must (decide (p.params.length≤4)) 8 sPlay) (ored (chkPars κ [] p.params) (must (decide (menu p.params≤512)) 8 sPlay))) e w'∧Ext w w':=by
 obtain ⟨X,hX⟩:∃ X,X=ored (must (decide (p.params.length≤4)) 8 sPlay) (ored (chkPars κ [] p.params) (must (decide (menu p.params≤512)) 8 sPlay)):=⟨_,rfl⟩
 rw [← hX]
 have HX:=J hX
 clear hX
 obtain ⟨cn,cse,cst,cv,cs,ct,⟨A,n,cc⟩,cpl,csi,cq,cpy⟩:=c
 have hx0:=(kR (fun _=>False) w).alloc (.cells (Pc.cells ⟨cn,cse,cst,cv,cs,ct,⟨A,n,cc⟩,cpl,csi,cq,cpy⟩) 57)
 have hB0:=bN w 57 (Pc.cells ⟨cn,cse,cst,cv,cs,ct,⟨A,n,cc⟩,cpl,csi,cq,cpy⟩)
 refine zy69 ?_;intro HPA HNW
 obtain ⟨hn,hf,hok,b,off,hA,hE⟩:=h.params.ext hx0
 have hm:=hf.max zb85
 have HN:=J (show n=p.params.length from hn)
 have HA:=J hA
 have HE:=J hE
 have HOK:=J hok
 have HLW:=J (hL.ext hx0)
 have HCX:=J hC
 clear hn hA hE hok hf h hL hC
 have hmm:=@run_makeMap Tryz.prog
 go_enter Tryz.func74,Tryz.ntmps74
 go_upto_region 1 with (fail)
 generalize hW:(w.alloc (.cells (Pc.cells ⟨cn,cse,cst,cv,cs,ct,⟨A,n,cc⟩,cpl,csi,cq,cpy⟩) 57))=W at hx0 hB0 HE HLW HPA HNW ⊢
 clear hW
 generalize w.heap.size=pb at hB0 ⊢
 have hB0:=J hB0
 have HX0:=J hx0
 have hcP:=bC hB0.out
 have hlP:=hB0.out.lt
 clear hx0
 by_cases h4:(n:Int)≤4
 ·have HX1:=J (show X=ored (chkPars κ [] p.params) (must (decide (menu p.params≤512)) 8 sPlay) by
   rw [HX.out,decide_eq_true (show p.params.length≤4 by have:=HN.out;omega)];rfl)
  go_wp2_with fail
  refine (must_any true _ _ _).mono ?_
  rintro e w8 ⟨he,rfl⟩
  have he:=MustR.none he
  subst he
  clear h4 HX
  go_upto_region 3 with (fail)
  have hM:=SMap.made W
  have y0:=(kR (fun _=>False) W).alloc (.map #[] 0)
  generalize hW1:(W.alloc (.map #[] 0))=W1 at hM y0 ⊢
  clear hW1
  have HM0:=J (hM.cong (f':=aheadF []) (fun t=>rfl))
  have HMB:=J (show N≤W.heap.size∧w.heap.size≤W.heap.size from ⟨HNW.out,HX0.out.size⟩)
  have HPB:=J (show ¬ pb=W.heap.size from fun e=>by have:=hB0.out.lt;omega)
  generalize W.heap.size=mb at HM0 HMB HPB ⊢
  have HY0:=J y0
  clear hM y0 hcP hlP
  have hcP:=bC (bX hB0.out HY0.out)
  have hlP:=(bX hB0.out HY0.out).lt
  go_wp2_with fail
  go_loopw [16] (fun t16 wr=>∃ (j:Nat),j≤n∧t16=.int .i64 j∧ored (chkPars κ (p.params.take j) (p.params.drop j)) (must (decide (menu p.params≤512)) 8 sPlay)=X∧SMap wr mb (aheadF (p.params.take j))∧Kept (·=mb) W1 wr) (fun t16 _=>n - (intOf t16).toNat)
  case atStart=>exact ⟨0,Nat.zero_le _,rfl,HX1.out.symm,HM0.out,kR _ _⟩
  case round =>
   obtain ⟨j,hj,rfl,hacc,hmp,hx⟩:=hrel
   have HACC:=J hacc
   have HXR:=J hx
   have HMR:=J hmp
   have HXW:=J (show Ext w wr from (HX0.out.trans HY0.out).trans' hx (fun i hi e=>by have:=HMB.out.2;omega))
   clear hacc hx hmp hcP hlP
   have hcP:=bC (bK (bX hB0.out HY0.out) HXR.out HPB.out)
   have hlP:=(bK (bX hB0.out HY0.out) HXR.out HPB.out).lt
   by_cases hlt:j < n
   ·have hjl:j < p.params.length:=by have:=HN.out;omega
    have hltI:(j:Int) < n:=by omega
    obtain rfl:=HA.out zb85
    have hrow0:=(HE.out zb85)
    have hrow:=(hrow0.2.ext HY0.out).kept HXR.out (fun q=>by have:=HMB.out;have:=hrow0.1;omega)
    obtain ⟨hh',hg'⟩:=vr_at hrow j hjl
    have hbw:=hrow.lt
    obtain ⟨x,hxe⟩:∃ x,x=p.params[j]:=⟨_,rfl⟩
    have HVO:=J (HOK.out x zb52)
    have hdrop:p.params.drop j=x :: p.params.drop (j+1):=by rw [hxe];exact List.drop_eq_getElem_cons hjl
    have htake:p.params.take (j+1)=p.params.take j ++ [x]:=by rw [hxe,List.take_add_one,List.getElem?_eq_getElem hjl];rfl
    rw [← hxe] at hg'
    have hacc:=HACC.out
    rw [hdrop] at hacc
    have HTK:=J htake
    obtain ⟨Y,hY⟩:∃ Y,Y=ored (chkPars κ (p.params.take j ++ [x]) (p.params.drop (j+1))) (must (decide (menu p.params≤512)) 8 sPlay):=⟨_,rfl⟩
    have HYE:=J hY
    obtain ⟨v,hv⟩:∃ v,v=κ x.name:=⟨_,rfl⟩
    have HV:=J hv
    obtain ⟨ah,hah⟩:∃ ah,ah=(p.params.take j).any (fun u=>decide (u.name=x.name)):=⟨_,rfl⟩
    have HAH:=J hah
    have HX2:Hid (X=ored (must (isName x.name) 6 x.name) (ored (must (v == 0 && !ah) 7 x.name) (ored (must (x.size == 0) 3 x.name) (ored (must (span x) 2 x.name) Y)))):=J (by
     rw [← hacc,hY,hv,hah,chkPars,ored_assoc,ored_assoc,ored_assoc,ored_assoc])
    clear hrow hrow0 hxe hacc hdrop htake hY hv hah HACC
    have y1:=(kR (fun _=>False) wr).alloc (.cells (vcells x) 109)
    have hV0:=bN wr 109 (vcells x)
    go_upto_region 6 with (fail)
    clear hh' hg' hbw hcP hlP
    have HZ:=J (HXR.out.trans (Kept.ext y1))
    have HZW:=J (HXW.out.trans y1)
    have HMZ:=J (HMR.out.ext y1)
    have HEB:=J (show ¬ wr.heap.size=mb by
     have h1:=HMR.out.lt
     omega)
    generalize hW2:(wr.alloc (.cells (vcells x) 109))=W2 at y1 hV0 HZ HZW HMZ ⊢
    generalize wr.heap.size=eb at hV0 HEB ⊢
    have hV:=J hV0
    clear hW2 y1 hV0 HXR HMR HXW
    have HLZ:=J ((HLW.out.ext HY0.out).kept HZ.out (fun k hk h=>by have:=HMB.out;omega))
    refine qr3 (fun w1=>Ext W2 w1) [(0,2),(1,1),(3,2),(4,1),(2,0),(5,0)] ?_;refine qrl ?_
    have HY1:=J (show Ext W2 W2.drew from (kR _ W2).drew)
    (repeat first|refine qs3 ?_|refine qt3 HY1.out zb33 ?_|refine qp3 HY1.out ?_)
    (refine w3_act (fun K hK=>?_);go_simp)
    refine (sisname_any x.name HVO.out.name _ (HLZ.out.ext HY1.out)).mono ?_
    rintro e w1 ⟨rfl,hx1⟩
    have HY2:=J (HY1.out.trans hx1)
    clear hx1
    refine hK.out _ _ (fun _=>HY2.out) ?_
    clear hK K
    (repeat first|refine qs3 ?_|refine qt3 HY2.out zb33 ?_|refine qp3 HY2.out ?_)
    (refine w3_last zb83 zb83 (fun K hK=>?_);go_simp)
    have HXE:=J (HZW.out.trans HY2.out)
    cases hn:isName x.name
    ·have HR:=J (show X=some ⟨6,x.name⟩ by rw [HX2.out,hn];rfl)
     exact zz73
    ·have HX3:=J (show X=ored (must (v == 0 && !ah) 7 x.name) (ored (must (x.size == 0) 3 x.name) (ored (must (span x) 2 x.name) Y)) by rw [HX2.out,hn];rfl)
     clear HX2 hn
     refine (must_any true _ _ _).mono ?_
     rintro e w8 ⟨he,rfl⟩
     have he:=MustR.none he
     subst he
     refine hK.out _ _ ?_
     clear hK K
     refine qf3 ?_
     clear HXE
     go_upto_region 7 with (fail)
     have HLK:=J (show ∀ w',Ext w1 w'→(Instr.lookup 188 (.map (some mb)) (.string x.name) false).run Tryz.prog w'=.ok (.bool ah) w' from fun w' hk=>by rw [alook (HMZ.out.ext (HY2.out.trans hk)),HAH.out])
     by_cases hv0:v=0
     ·have qv:(v != 0)=false:=by simp [hv0]
      have HX4:=J (show X=ored (must (!ah) 7 x.name) (ored (must (x.size == 0) 3 x.name) (ored (must (span x) 2 x.name) Y)) by rw [HX3.out,hv0];rfl)
      refine zy61 ?_;intro HZ0 K hK
      rintro e w2 ⟨rfl,rfl⟩
      rw [← HV.out,qv]
      refine hK.out _ _ (fun _=>HZ0.out) ?_
      clear hK K
      (repeat first|refine qs3 ?_|refine qt3 HZ0.out zb15 ?_|refine qp3 HZ0.out ?_)
      (refine w3_last zb83 zb83 (fun K hK=>?_);go_simp)
      have HY3:=J (HY2.out.trans HZ0.out)
      have HXE:=J (HZW.out.trans HY3.out)
      cases ah
      ·have HX5:=J (show X=ored (must (x.size == 0) 3 x.name) (ored (must (span x) 2 x.name) Y) from HX4.out)
       try simp only [Bool.not_false]
       refine (must_any true _ _ _).mono ?_
       rintro e w8 ⟨he,rfl⟩
       have he:=MustR.none he
       subst he
       refine hK.out _ _ ?_
       clear hK K
       refine qf3 ?_
       clear HX3 HX4 HXE
       go_upto_region 8 with (fail)
       generalize hW3:w1.drew=W3 at HY3 ⊢
       clear hW3
       have hcV:=bC (bX hV.out HY3.out)
       have hlV:=(bX hV.out HY3.out).lt
       have HXE:=J (HZW.out.trans HY3.out)
       go_wp2_with fail
       cases hq:(x.size == 0)
       ·have HR:=J (show X=some ⟨3,x.name⟩ by rw [HX5.out,hq];rfl)
        exact zz73
       ·have HX6:=J (show X=ored (must (span x) 2 x.name) Y by rw [HX5.out,hq];rfl)
        refine (must_any true _ _ _).mono ?_
        rintro e w8 ⟨he,rfl⟩
        have he:=MustR.none he
        subst he
        clear hcV hlV hq HX5 HXE
        go_upto_region 9 with (fail)
        refine qr3 (fun w2=>Ext W3 w2) [(0,1),(2,2),(3,1),(1,0),(4,0)] ?_;refine qrl ?_
        have HU0:=J (show Ext W3 W3.drew from (kR _ W3).drew)
        (repeat first|refine qs3 ?_|refine qt3 HU0.out zb13 ?_|refine qp3 HU0.out ?_)
        (refine w3_act (fun K hK=>?_);go_simp)
        refine (span_any x _).mono ?_
        rintro e w2 ⟨rfl,hx2⟩
        have HU1:=J (HU0.out.trans hx2)
        clear hx2
        refine hK.out _ _ (fun _=>HU1.out) ?_
        clear hK K
        (repeat first|refine qs3 ?_|refine qt3 HU1.out zb13 ?_|refine qp3 HU1.out ?_)
        (refine w3_last zb83 zb83 (fun K hK=>?_);go_simp)
        have HY4:=J (HY3.out.trans HU1.out)
        have HXE:=J (HZW.out.trans HY4.out)
        cases hsp:span x
        ·have HR:=J (show X=some ⟨2,x.name⟩ by rw [HX6.out,hsp];rfl)
         exact zz73
        ·have HX7:=J (show X=Y by rw [HX6.out,hsp];rfl)
         refine (must_any true _ _ _).mono ?_
         rintro e w8 ⟨he,rfl⟩
         have he:=MustR.none he
         subst he
         refine hK.out _ _ ?_
         clear hK K
         refine qf3 ?_
         clear hsp HX6
         have hcV:=bC (bX hV.out HY4.out)
         have hlV:=(bX hV.out HY4.out).lt
         obtain ⟨w5,hrun,hS',hk'⟩:=SMap.put (P:=Tryz.prog) (HMZ.out.ext HY4.out) Tryz.underlying188 Tryz.underlying9 x.name (.bool true)
         have HS2:=J hS'
         have HK2:=J hk'
         clear hS' hk'
         go_wp2_with fail
         exact ⟨⟨j+1,hlt,by go_num,by rw [HTK.out,← HYE.out,HX7.out],HS2.out.cong (fun t=>by rw [HTK.out];exact aheadF_snoc (p.params.take j) x t),HZ.out.trans ((Kept.ext HY4.out).trans HK2.out)⟩,by simp only [intOf];omega⟩
      ·have HR:=J (show X=some ⟨7,x.name⟩ from HX4.out)
       exact zz67
     ·have qv:(v != 0)=true:=by simp [hv0]
      have qn:(v == 0)=false:=by simp [hv0]
      have HR:=J (show X=some ⟨7,x.name⟩ by rw [HX3.out,qn];rfl)
      refine zy61 ?_;intro HZ0 K hK
      rintro e w2 ⟨rfl,rfl⟩
      rw [← HV.out,qv]
      refine hK.out _ _ (fun _=>HZ0.out) ?_
      clear hK K
      (repeat first|refine qs3 ?_|refine qt3 HZ0.out zb15 ?_|refine qp3 HZ0.out ?_)
      (refine w3_last zb83 zb83 (fun K hK=>?_);go_simp)
      have HXE:=J (HZW.out.trans (HY2.out.trans HZ0.out))
      exact zz67
   ·obtain rfl:j=n:=by omega
    have HXM:=J (show X=must (decide (menu p.params≤512)) 8 sPlay by
     rw [← HACC.out,HN.out,List.drop_length];rfl)
    have hgP:=bG (bK (bX hB0.out HY0.out) HXR.out HPB.out)
    have hhP:=bH (bK (bX hB0.out HY0.out) HXR.out HPB.out)
    clear HACC HMR
    go_wp2_with fail
    have HNR:=J (show N≤W1.heap.size from Nat.le_trans HNW.out HY0.out.size)
    refine (smenu_any ⟨cn,cse,cst,cv,cs,ct,⟨A,j,cc⟩,cpl,csi,cq,cpy⟩ p N _ (Nat.le_trans HNR.out HXR.out.size) ((HPA.out.ext HY0.out HNW.out).kept HXR.out HNR.out (fun i hi=>by have:=HMB.out;omega))).mono ?_
    rintro e w1 ⟨rfl,hx1⟩
    have HXE:=J (HXW.out.trans hx1)
    clear hgP hhP hcP hlP hx1
    by_cases h64:menu p.params≤512
    ·have HR:=J (show X=none by rw [HXM.out,decide_eq_true h64];rfl)
     go_wp2_with fail
     refine (must_any true _ _ _).mono ?_
     rintro e w8 ⟨he,rfl⟩
     have he:=MustR.none he
     subst he
     go_wp2_with fail
     go_end0
     rw [HR.out]
     exact ⟨⟨rfl,HCX.out.ext HXE.out⟩,HXE.out⟩
    ·have HR:=J (show X=some ⟨8,sPlay⟩ by rw [HXM.out,decide_eq_false h64];rfl)
     go_wp2_with fail
     rw [decide_eq_false (show ¬ menu p.params≤512 by omega)]
     exact zz73
 ·have HR:=J (show X=some ⟨8,sPlay⟩ by rw [HX.out,decide_eq_false (show ¬ p.params.length≤4 by have:=HN.out;omega)];rfl)
  have HXE:=HX0
  go_wp2_with fail
  try rw [decide_eq_false (show ¬ (n:Int)≤4 by omega)]
  exact zz73
end Go.Proofs.YtbfbabbcdochjaaGreatDoor
