/- Several texts joined: Uc, Ud. -/
import Derived.Test.YtbfbabbcdochjaaGreatDoorRapk
import Derived.Test.YtbfbabbcdochjaaGreatDoorRabh
set_option maxHeartbeats 4000000
namespace Go.Proofs.YtbfbabbcdochjaaGreatDoor
open Go.RowKit So
set_option maxRecDepth 100000 in
theorem rpars_any (c:Pc) (p:Pr) (N:Nat) (w:World) (hN:N≤w.heap.size) (h:PAt w N c p) (hcap:c.params.n≤c.params.c):Calls Tryz.prog 53 #[.agg c.cells] w fun e w'=>e=.returned (.agg (fltC (ored (must (decide (p.params.length≤4)) 8 sPlay) (ored (chkPars (knV p.vars) [] p.params) (ored (must (decide (menu p.params≤512)) 8 sPlay) (ored (must (isName p.silent) 6 p.silent) (must (knV p.vars p.silent == 0) 7 p.silent)))))))∧Ext w w':=by
 obtain ⟨cn,cse,cst,⟨vA,vn,vc⟩,cs,ct,⟨A,n,cc⟩,cpl,csi,cq,cpy⟩:=c
 obtain rfl:csi=p.silent:=h.silent
 obtain ⟨b1,hb1⟩:∃ b,b=isName p.silent:=⟨_,rfl⟩
 obtain ⟨b2,hb2⟩:∃ b,b=p.vars.any (fun v=>decide (v.name=p.silent)):=⟨_,rfl⟩
 obtain ⟨mn,hmn⟩:∃ m,m=menu p.params:=⟨_,rfl⟩
 obtain ⟨M,hM⟩:∃ M,M=ored (must (decide (mn≤512)) 8 sPlay) (ored (must b1 6 p.silent) (must (!b2) 7 p.silent)):=⟨_,rfl⟩
 obtain ⟨X,hX⟩:∃ X,X=ored (must (decide (p.params.length≤4)) 8 sPlay) (ored (chkPars (knV p.vars) [] p.params) M):=⟨_,rfl⟩
 have hXE:X=(ored (must (decide (p.params.length≤4)) 8 sPlay) (ored (chkPars (knV p.vars) [] p.params) (ored (must (decide (menu p.params≤512)) 8 sPlay) (ored (must (isName p.silent) 6 p.silent) (must (knV p.vars p.silent == 0) 7 p.silent))))):=by rw [hX,hM,hmn,hb1,hb2,knV_zero]
 rw [← hXE]
 clear hXE
 have HM:=zhd hM
 have HB1:=zhd hb1
 have HB2:=zhd hb2
 have HMN:=zhd hmn
 have HX:=zhd hX
 clear hX hM hb1 hb2 hmn
 have hcap:n≤cc:=hcap
 have hx0:=((Kept.refl (fun _=>False) w).alloc (.cells (Pc.cells (⟨cn,cse,cst,⟨vA,vn,vc⟩,cs,ct,⟨A,n,cc⟩,cpl,p.silent,cq,cpy⟩:Pc)) 26)).alloc (.cells #[.int .i64 0,.string ⟨#[]⟩] 60)
 have hB:=(Blk.new w 26 (Pc.cells (⟨cn,cse,cst,⟨vA,vn,vc⟩,cs,ct,⟨A,n,cc⟩,cpl,p.silent,cq,cpy⟩:Pc))).alloc (.cells #[.int .i64 0,.string ⟨#[]⟩] 60)
 have hD:=Blk.new' (w.alloc (.cells (Pc.cells (⟨cn,cse,cst,⟨vA,vn,vc⟩,cs,ct,⟨A,n,cc⟩,cpl,p.silent,cq,cpy⟩:Pc)) 26)) 60 #[.int .i64 0,.string ⟨#[]⟩] (w.heap.size+1) (by simp)
 have HPA:=zhd (h.ext hx0 hN)
 have HNW:=zhd (Nat.le_trans hN hx0.size)
 have HSO:=zhd h.silentOk
 obtain ⟨hn,hf,hok,b,off,hA,hE⟩:=h.params.ext hx0
 have hm:=hf.max (by omega)
 have HN:=zhd (show n=p.params.length from hn)
 have HA:=zhd hA
 have HE:=zhd hE
 have HOK:=zhd hok
 clear hn hA hE hok hf h
 go_enter Tryz.func53,Tryz.ntmps53
 go_upto_region 1 with (fail)
 generalize hW:((w.alloc (.cells (Pc.cells (⟨cn,cse,cst,⟨vA,vn,vc⟩,cs,ct,⟨A,n,cc⟩,cpl,p.silent,cq,cpy⟩:Pc)) 26)).alloc (.cells #[.int .i64 0,.string ⟨#[]⟩] 60))=W at hx0 hB hD HE HPA HNW ⊢
 clear hW
 obtain ⟨rb,hrb⟩:∃ rb,rb=w.heap.size+1:=⟨_,rfl⟩
 rw [← hrb] at hD ⊢
 have HRW:=zhd (show w.heap.size≤rb by omega)
 have HD:=zhd hD
 have HX0:=zhd hx0
 have HB:=zhd hB
 clear hD hx0 hrb hB
 generalize w.heap.size=pb at HB ⊢
 have HXC:=zhd (Kept.refl (fun _=>False) W)
 have hDr:=Blk.ext HD.out HXC.out
 have hmr:=hDr.melts
 have hhr:=Blk.has hDr
 have hlr:=hDr.lt
 have hcP:=Blk.cell (Blk.ext HB.out HXC.out)
 have hhP:=Blk.has (Blk.ext HB.out HXC.out)
 have hgP:=Blk.gets (Blk.ext HB.out HXC.out)
 have hlP:=(Blk.ext HB.out HXC.out).lt
 by_cases h4:(n:Int) > 4
 ·have HR:=zhd (show X=some ⟨8,sPlay⟩ by rw [HX.out,decide_eq_false (show ¬ p.params.length≤4 by have:=HN.out;omega),must_false,ored_some])
  exact zz57
 ·have HX1:=zhd (show X=ored (chkPars (knV p.vars) [] p.params) M by rw [HX.out,decide_eq_true (show p.params.length≤4 by have:=HN.out;omega),must_true,ored_none])
  clear HX
  go_wp2_with fail
  clear hDr hmr hhr hlr hcP hhP hgP hlP
  clear HXC
  go_loopw [3] (fun t3 wr=>∃ (j:Nat),j≤n∧t3=.int .i64 j∧ored (chkPars (knV p.vars) (p.params.take j) (p.params.drop j)) M=X∧Ext W wr) (fun t3 _=>n - (intOf t3).toNat)
  case atStart=>exact ⟨0,Nat.zero_le _,rfl,HX1.out.symm,Kept.refl _ _⟩
  case round =>
   obtain ⟨j,hj,rfl,hacc,hx⟩:=hrel
   have HXC:=zhd hx
   have HACC:=zhd hacc
   clear hx hacc
   have hDr:=Blk.ext HD.out HXC.out
   have hmr:=hDr.melts
   have hhr:=Blk.has hDr
   have hlr:=hDr.lt
   have hcP:=Blk.cell (Blk.ext HB.out HXC.out)
   have hhP:=Blk.has (Blk.ext HB.out HXC.out)
   have hgP:=Blk.gets (Blk.ext HB.out HXC.out)
   have hlP:=(Blk.ext HB.out HXC.out).lt
   by_cases hlt:j < n
   ·have hjl:j < p.params.length:=by have:=HN.out;omega
    have hltI:(j:Int) < n:=by omega
    have hjc:(j:Int)≤cc:=by omega
    have HJV:=zhd (HPA.out.params.take j hj)
    obtain rfl:=HA.out (by omega)
    have hrow:=(HE.out (by omega)).2.ext HXC.out
    obtain ⟨hh',hg'⟩:=vr_at hrow j hjl
    have hbw:=hrow.lt
    obtain ⟨x,hxe⟩:∃ x,x=p.params[j]:=⟨_,rfl⟩
    have HVO:=zhd (HOK.out x (by rw [hxe];exact List.getElem_mem hjl))
    have hdrop:p.params.drop j=x :: p.params.drop (j+1):=by rw [hxe];exact List.drop_eq_getElem_cons hjl
    have htake:p.params.take (j+1)=p.params.take j ++ [x]:=by rw [hxe,List.take_add_one,List.getElem?_eq_getElem hjl];rfl
    rw [← hxe] at hg'
    have hacc:=HACC.out
    rw [hdrop] at hacc
    have HTK:=zhd htake
    obtain ⟨Y,hY⟩:∃ Y,Y=ored (chkPars (knV p.vars) (p.params.take j ++ [x]) (p.params.drop (j+1))) M:=⟨_,rfl⟩
    have HYE:=zhd hY
    obtain ⟨a1,ha1⟩:∃ a,a=p.vars.any (fun v=>decide (v.name=x.name)):=⟨_,rfl⟩
    obtain ⟨a2,ha2⟩:∃ a,a=(p.params.take j).any (fun v=>decide (v.name=x.name)):=⟨_,rfl⟩
    have HX2:Hid (X=ored (must (isName x.name) 6 x.name) (ored (must (!a1 && !a2) 7 x.name) (ored (must (x.size == 0) 3 x.name) (ored (must (span x) 2 x.name) Y)))):=zhd (by
     rw [← hacc,hY,chkPars,ored_assoc,ored_assoc,ored_assoc,ored_assoc,knV_zero,ha1,ha2])
    have HA1:=zhd ha1
    have HA2:=zhd ha2
    clear hrow hxe hacc hdrop htake hY HACC ha1 ha2
    have y0:=(Kept.refl (fun _=>False) wr).alloc (.cells (vcells x) 66)
    have hV0:=Blk.new wr 66 (vcells x)
    go_upto_region 7 with (fail)
    clear hh' hg' hbw
    clear hDr hmr hhr hlr hcP hhP hgP hlP
    have HZ:=zhd (HXC.out.trans y0)
    generalize hW1:(wr.alloc (.cells (vcells x) 66))=W1 at y0 hV0 HZ ⊢
    generalize wr.heap.size=eb at hV0 ⊢
    have HVB:=zhd hV0
    clear hW1 y0 hV0 HXC
    have hcV:=Blk.cell HVB.out
    have hlV:=HVB.out.lt
    go_wp2_with fail
    refine (risname_any x.name HVO.out.name _).mono ?_
    rintro e w1 ⟨rfl,hx1⟩
    have HXC:=zhd (HZ.out.trans hx1)
    have HV1:=zhd (Blk.ext HVB.out hx1)
    clear hcV hlV hx1 HVB HZ
    have hcV:=Blk.cell HV1.out
    have hlV:=HV1.out.lt
    have hDr:=Blk.ext HD.out HXC.out
    have hmr:=hDr.melts
    have hhr:=Blk.has hDr
    have hlr:=hDr.lt
    have hcP:=Blk.cell (Blk.ext HB.out HXC.out)
    have hhP:=Blk.has (Blk.ext HB.out HXC.out)
    have hgP:=Blk.gets (Blk.ext HB.out HXC.out)
    have hlP:=(Blk.ext HB.out HXC.out).lt
    cases hn:isName x.name
    ·have HR:=zhd (show X=some ⟨6,x.name⟩ by rw [HX2.out,hn,must_false,ored_some])
     exact zz57
    ·have HX3:=zhd (show X=ored (must (!a1 && !a2) 7 x.name) (ored (must (x.size == 0) 3 x.name) (ored (must (span x) 2 x.name) Y)) by rw [HX2.out,hn,must_true,ored_none])
     clear HX2 hn
     clear hDr hmr hhr hlr hcP hhP hgP hlP
     clear hcV hlV
     go_upto_region 9 with (fail)
     cases a1
     ·
      refine qr3 (fun w2=>Ext w1 w2) [(0,2),(1,1),(2,2),(3,1),(4,0),(5,2),(6,2),(7,1),(8,2),(9,2),(10,2),(11,1),(12,0),(13,2)] ?_;refine qrl ?_
      have HZ0:=zhd (show Ext w1 w1.drew from (Kept.refl _ w1).drew)
      (repeat (first | refine qs3 ?_ | ((apply w3_take);(· exact HZ0.out);(· go_simp);(· (intro w1 hS;have d4:=Blk.ext HV1.out hS;have d5:=Blk.cell d4;have d6:=d4.lt;have e4:=Blk.ext HB.out (HXC.out.trans hS);have e5:=Blk.cell e4;have e6:=e4.lt; go_simp;try with_reducible rfl));refine qnx ?_) | ((apply w3_pass);(· exact HZ0.out);(· go_simp);refine qnx ?_)))
      (refine w3_act (fun K hK=>?_);go_simp)
      refine (find_any p.vars x.name vA vn vc N _ (HPA.out.ext (HXC.out.trans HZ0.out) HNW.out).vars).mono ?_
      rintro e w2 ⟨rfl,rfl⟩
      rw [← HA1.out]
      refine hK.out _ _ (fun _=>HZ0.out) ?_
      clear hK K
      (repeat (first | refine qs3 ?_ | ((apply w3_take);(· exact HZ0.out);(· go_simp);(· (intro w1 hS;have d4:=Blk.ext HV1.out hS;have d5:=Blk.cell d4;have d6:=d4.lt;have e4:=Blk.ext HB.out (HXC.out.trans hS);have e5:=Blk.cell e4;have e6:=e4.lt; go_simp;try with_reducible rfl));refine qnx ?_) | ((apply w3_pass);(· exact HZ0.out);(· go_simp);refine qnx ?_)))
      (refine w3_act (fun K hK=>?_);go_simp)
      refine (find_any (p.params.take j) x.name _ j _ N _ (HJV.out.ext (HXC.out.trans HZ0.out))).mono ?_
      rintro e w2 ⟨rfl,rfl⟩
      rw [← HA2.out]
      refine hK.out _ _ (fun _=>HZ0.out) ?_
      clear hK K
      refine qf3 ?_
      have HXC:=zhd (HXC.out.trans HZ0.out)
      have HV2:=zhd (Blk.ext HV1.out HZ0.out)
      generalize w1.drew=W2 at HXC HV2 ⊢
      clear HZ0 HV1
      have hcV:=Blk.cell HV2.out
      have hlV:=HV2.out.lt
      have hDr:=Blk.ext HD.out HXC.out
      have hmr:=hDr.melts
      have hhr:=Blk.has hDr
      have hlr:=hDr.lt
      have hcP:=Blk.cell (Blk.ext HB.out HXC.out)
      have hhP:=Blk.has (Blk.ext HB.out HXC.out)
      have hgP:=Blk.gets (Blk.ext HB.out HXC.out)
      have hlP:=(Blk.ext HB.out HXC.out).lt
      cases a2
      ·have HX4:=zhd (show X=ored (must (x.size == 0) 3 x.name) (ored (must (word x.low && word x.high && decide (x.low≤x.high)) 2 x.name) Y) by rw [HX3.out];rfl)
       clear HX3
       by_cases hz:x.size=0
       ·have hzb:(x.size == 0)=true:=by simp [hz]
        have HX5:=zhd (show X=ored (must (word x.low && word x.high && decide (x.low≤x.high)) 2 x.name) Y by rw [HX4.out,hzb,must_true,ored_none])
        clear hzb
        go_wp2_with fail
        refine (word_any x.low _).mono ?_
        rintro e w3 ⟨rfl,rfl⟩
        cases hw1:word x.low
        ·have HR:=zhd (show X=some ⟨2,x.name⟩ by rw [HX5.out,hw1];rfl)
         exact zz57
        ·go_wp2_with fail
         refine (word_any x.high _).mono ?_
         rintro e w3 ⟨rfl,rfl⟩
         cases hw2:word x.high
         ·have HR:=zhd (show X=some ⟨2,x.name⟩ by rw [HX5.out,hw1,hw2];rfl)
          exact zz57
         ·have HX6:=zhd (show X=ored (must (decide (x.low≤x.high)) 2 x.name) Y by rw [HX5.out,hw1,hw2,Bool.true_and,Bool.true_and])
          clear HX4 HX5 hw1 hw2
          by_cases hgt:x.low > x.high
          ·have HR:=zhd (show X=some ⟨2,x.name⟩ by rw [HX6.out,decide_eq_false (by omega),must_false,ored_some])
           exact zz57
          ·have HX7:=zhd (show X=Y by rw [HX6.out,decide_eq_true (by omega),must_true,ored_none])
           go_wp2_with fail
           exact ⟨⟨j+1,hlt,by go_num,by rw [HTK.out,← HYE.out,HX7.out],HXC.out⟩,by simp only [intOf];omega⟩
       ·have hzb:(x.size == 0)=false:=by simp [hz]
        have HR:=zhd (show X=some ⟨3,x.name⟩ by rw [HX4.out,hzb,must_false,ored_some])
        exact zz57
      ·have HR:=zhd (show X=some ⟨7,x.name⟩ by rw [HX3.out];rfl)
       exact zz57
     ·
      refine qr3 (fun w2=>Ext w1 w2) [(0,2),(1,1),(2,2),(3,1),(4,0),(5,2),(6,2),(7,1),(8,2),(9,2),(10,2),(11,1),(12,0),(13,2)] ?_;refine qrl ?_
      have HZ0:=zhd (show Ext w1 w1.drew from (Kept.refl _ w1).drew)
      (repeat (first | refine qs3 ?_ | ((apply w3_take);(· exact HZ0.out);(· go_simp);(· (intro w1 hS;have d4:=Blk.ext HV1.out hS;have d5:=Blk.cell d4;have d6:=d4.lt;have e4:=Blk.ext HB.out (HXC.out.trans hS);have e5:=Blk.cell e4;have e6:=e4.lt; go_simp;try with_reducible rfl));refine qnx ?_) | ((apply w3_pass);(· exact HZ0.out);(· go_simp);refine qnx ?_)))
      (refine w3_act (fun K hK=>?_);go_simp)
      refine (find_any p.vars x.name vA vn vc N _ (HPA.out.ext (HXC.out.trans HZ0.out) HNW.out).vars).mono ?_
      rintro e w2 ⟨rfl,rfl⟩
      rw [← HA1.out]
      refine hK.out _ _ (fun _=>HZ0.out) ?_
      clear hK K
      (repeat (first | refine qs3 ?_ | ((apply w3_take);(· exact HZ0.out);(· go_simp);(· (intro w1 hS;have d4:=Blk.ext HV1.out hS;have d5:=Blk.cell d4;have d6:=d4.lt;have e4:=Blk.ext HB.out (HXC.out.trans hS);have e5:=Blk.cell e4;have e6:=e4.lt; go_simp;try with_reducible rfl));refine qnx ?_) | ((apply w3_pass);(· exact HZ0.out);(· go_simp);refine qnx ?_)))
      (refine w3_act (fun K hK=>?_);go_simp)
      refine hK.out _ _ (fun h=>h) ?_
      clear hK K
      refine qf3 ?_
      have HXC:=zhd (HXC.out.trans HZ0.out)
      have HV2:=zhd (Blk.ext HV1.out HZ0.out)
      generalize w1.drew=W2 at HXC HV2 ⊢
      clear HZ0 HV1
      have hcV:=Blk.cell HV2.out
      have hlV:=HV2.out.lt
      have hDr:=Blk.ext HD.out HXC.out
      have hmr:=hDr.melts
      have hhr:=Blk.has hDr
      have hlr:=hDr.lt
      have hcP:=Blk.cell (Blk.ext HB.out HXC.out)
      have hhP:=Blk.has (Blk.ext HB.out HXC.out)
      have hgP:=Blk.gets (Blk.ext HB.out HXC.out)
      have hlP:=(Blk.ext HB.out HXC.out).lt
      have HR:=zhd (show X=some ⟨7,x.name⟩ by rw [HX3.out];rfl)
      exact zz57
   ·obtain rfl:j=n:=by omega
    have HXM:=zhd (show X=M by rw [← HACC.out,HN.out,List.drop_length];rfl)
    clear HACC
    go_wp2_with fail
    refine (rmenu_any (⟨cn,cse,cst,⟨vA,vn,vc⟩,cs,ct,⟨A,j,cc⟩,cpl,p.silent,cq,cpy⟩:Pc) p N _ (Nat.le_trans HNW.out HXC.out.size) (HPA.out.ext HXC.out HNW.out)).mono ?_
    rintro e w2 ⟨rfl,hx2⟩
    clear hDr hmr hhr hlr hcP hhP hgP hlP
    have HXC:=zhd (HXC.out.trans hx2)
    clear hx2
    rw [← HMN.out]
    have hDr:=Blk.ext HD.out HXC.out
    have hmr:=hDr.melts
    have hhr:=Blk.has hDr
    have hlr:=hDr.lt
    have hcP:=Blk.cell (Blk.ext HB.out HXC.out)
    have hhP:=Blk.has (Blk.ext HB.out HXC.out)
    have hgP:=Blk.gets (Blk.ext HB.out HXC.out)
    have hlP:=(Blk.ext HB.out HXC.out).lt
    by_cases h5:mn > 512
    ·have HR:=zhd (show X=some ⟨8,sPlay⟩ by rw [HXM.out,HM.out,decide_eq_false (by omega),must_false,ored_some])
     exact zz57
    ·have HX5:=zhd (show X=ored (must b1 6 p.silent) (must (!b2) 7 p.silent) by rw [HXM.out,HM.out,decide_eq_true (by omega),must_true,ored_none])
     clear HXM HM
     go_wp2_with fail
     refine (risname_any p.silent HSO.out _).mono ?_
     rintro e w3 ⟨rfl,hx3⟩
     clear hDr hmr hhr hlr hcP hhP hgP hlP
     have HXC:=zhd (HXC.out.trans hx3)
     clear hx3
     rw [← HB1.out]
     have hDr:=Blk.ext HD.out HXC.out
     have hmr:=hDr.melts
     have hhr:=Blk.has hDr
     have hlr:=hDr.lt
     have hcP:=Blk.cell (Blk.ext HB.out HXC.out)
     have hhP:=Blk.has (Blk.ext HB.out HXC.out)
     have hgP:=Blk.gets (Blk.ext HB.out HXC.out)
     have hlP:=(Blk.ext HB.out HXC.out).lt
     cases b1
     ·have HR:=zhd (show X=some ⟨6,p.silent⟩ by rw [HX5.out,must_false,ored_some])
      exact zz57
     ·have HX6:=zhd (show X=must (!b2) 7 p.silent by rw [HX5.out,must_true,ored_none])
      go_wp2_with fail
      refine (find_any p.vars p.silent vA vn vc N _ (HPA.out.ext HXC.out HNW.out).vars).mono ?_
      rintro e w4 ⟨rfl,rfl⟩
      rw [← HB2.out]
      cases b2
      ·have HR:=zhd (show X=none by rw [HX6.out,Bool.not_false,must_true])
       go_wp2_with fail
       refine (fine_any _).mono ?_
       rintro e w5 ⟨rfl,hx5⟩
       clear hDr hmr hhr hlr hcP hhP hgP hlP
       have HXC:=zhd (HXC.out.trans hx5)
       have hDr:=Blk.ext HD.out HXC.out
       have hmr:=hDr.melts
       have hhr:=Blk.has hDr
       have hlr:=hDr.lt
       have hcP:=Blk.cell (Blk.ext HB.out HXC.out)
       have hhP:=Blk.has (Blk.ext HB.out HXC.out)
       have hgP:=Blk.gets (Blk.ext HB.out HXC.out)
       have hlP:=(Blk.ext HB.out HXC.out).lt
       clear hx5
       exact zz57
      ·have HR:=zhd (show X=some ⟨7,p.silent⟩ by rw [HX6.out,Bool.not_true,must_false])
       exact zz57
open Go.RowKit So
set_option maxRecDepth 100000 in
theorem rnamed_any (c:Pc) (p:Pr) (A:Option Addr) (n k:Nat) (l:List Str) (kind:Int) (name:Str) (eA:Option Addr) (en ec:Nat) (low high:Int) (lA:Option Addr) (ln lc:Nat) (xA:Option Addr) (xn xc:Nat) (deep:Nat) (hs:name.size≤maxLen) (N:Nat) (w:World) (hN:N≤w.heap.size) (h:PAt w N c p) (hl:StrSl w N A n l) :
 Calls Tryz.prog 149 #[.agg (knCells c A n k),.agg (scells kind name eA en ec low high lA ln lc xA xn xc),.int .i64 (deep:Int)] w fun e w'=>e=.returned (.agg (fltC (named (updAll (knV p.vars) l) kind name low high deep)))∧Ext w w':=by
 obtain ⟨X,hX⟩:∃ X,X=named (updAll (knV p.vars) l) kind name low high deep:=⟨_,rfl⟩
 rw [← hX]
 obtain ⟨v,hv⟩:∃ v,v=updAll (knV p.vars) l name:=⟨_,rfl⟩
 have HV:=zhd hv
 have HX:Hid (X=if kind=0 ∨ kind=1 ∨ kind=5 then ored (must (v != 0) 6 name) (ored (must (v == (if kind=1 then 2 else 1)) 11 name) (if kind=5 then must (btw low 2 1000) 2 name else none)) else if kind=3 then ored (must (isName name) 6 name) (ored (must (v == 0) 7 name) (ored (must (word low && word high && decide (high - low≤63)) 2 name) (must (decide (deep < 8)) 25 name))) else none):=zhd (by rw [hX,hv];rfl)
 clear hX hv
 have HNM:=zhd hs
 clear hs
 have hx0:=(((Kept.refl (fun _=>False) w).alloc (.cells (knCells c A n k) 120)).alloc (.cells (scells kind name eA en ec low high lA ln lc xA xn xc) 86)).alloc (.cells #[.int .i64 0,.string ⟨#[]⟩] 60)
 have hK:=((Blk.new w 120 (knCells c A n k)).alloc (.cells (scells kind name eA en ec low high lA ln lc xA xn xc) 86)).alloc (.cells #[.int .i64 0,.string ⟨#[]⟩] 60)
 have hS:=(Blk.new' (w.alloc (.cells (knCells c A n k) 120)) 86 (scells kind name eA en ec low high lA ln lc xA xn xc) (w.heap.size+1) (by simp)).alloc (.cells #[.int .i64 0,.string ⟨#[]⟩] 60)
 have hD:=Blk.new' ((w.alloc (.cells (knCells c A n k) 120)).alloc (.cells (scells kind name eA en ec low high lA ln lc xA xn xc) 86)) 60 #[.int .i64 0,.string ⟨#[]⟩] (w.heap.size+1+1) (by simp)
 go_enter Tryz.func149,Tryz.ntmps149
 go_upto_region 1 with (fail)
 have HPA:=zhd (h.ext hx0 hN)
 have HSL:=zhd (hl.ext hx0)
 have HNW:=zhd (Nat.le_trans hN hx0.size)
 generalize hW:(((w.alloc (.cells (knCells c A n k) 120)).alloc (.cells (scells kind name eA en ec low high lA ln lc xA xn xc) 86)).alloc (.cells #[.int .i64 0,.string ⟨#[]⟩] 60))=W at hx0 hK hS hD HPA HSL HNW ⊢
 clear hW h hl
 obtain ⟨rb,hrb⟩:∃ rb,rb=w.heap.size+1+1:=⟨_,rfl⟩
 rw [← hrb] at hD ⊢
 obtain ⟨sb,hsb⟩:∃ sb,sb=w.heap.size+1:=⟨_,rfl⟩
 rw [← hsb] at hS ⊢
 have HRW:=zhd (show w.heap.size≤rb by omega)
 have HD:=zhd hD
 have HX0:=zhd hx0
 have HK:=zhd hK
 have HS:=zhd hS
 clear hD hx0 hrb hsb hK hS
 generalize w.heap.size=kb at HK ⊢
 have HXC:=zhd (Kept.refl (fun _=>False) W)
 have hDr:=Blk.ext HD.out HXC.out
 have hmr:=hDr.melts
 have hhr:=Blk.has hDr
 have hlr:=hDr.lt
 have hcS:=Blk.cell (Blk.ext HS.out HXC.out)
 have hlS:=(Blk.ext HS.out HXC.out).lt
 have hhK:=Blk.has (Blk.ext HK.out HXC.out)
 have hgK:=Blk.gets (Blk.ext HK.out HXC.out)
 have hlK:=(Blk.ext HK.out HXC.out).lt
 by_cases h0:kind=0
 ·subst h0
  have HX2:=zhd (show X=ored (must (v != 0) 6 name) (must (v == 1) 11 name) by rw [HX.out];simp)
  clear HX
  go_wp2_with fail
  refine (sort_any c p A n k l name N _ (Nat.le_trans HNW.out HXC.out.size) (HPA.out.ext HXC.out HNW.out) (HSL.out.ext HXC.out)).mono ?_
  rintro e w2 ⟨rfl,hx2⟩
  clear hDr hmr hhr hlr hcS hlS hhK hgK hlK
  rw [← HV.out]
  have HXC:=zhd (HXC.out.trans hx2)
  clear hx2
  have hDr:=Blk.ext HD.out HXC.out
  have hmr:=hDr.melts
  have hhr:=Blk.has hDr
  have hlr:=hDr.lt
  have hcS:=Blk.cell (Blk.ext HS.out HXC.out)
  have hlS:=(Blk.ext HS.out HXC.out).lt
  have hhK:=Blk.has (Blk.ext HK.out HXC.out)
  have hgK:=Blk.gets (Blk.ext HK.out HXC.out)
  have hlK:=(Blk.ext HK.out HXC.out).lt
  by_cases hv0:v=0
  ·have q0:((v:Int) == 0)=true:=by simp [hv0]
   exact zz50
  ·have q0:((v:Int) == 0)=false:=by simp;omega
   have n0:(v != 0)=true:=by simp [hv0]
   have HX3:=zhd (show X=must (v == 1) 11 name by rw [HX2.out,n0,must_true,ored_none])
   clear hv0
   by_cases hv1:v=1
   ·have q1:((v:Int) == 1)=true:=by simp [hv1]
    exact zz21
   ·have q1:((v:Int) == 1)=false:=by simp;omega
    have n1:(v == 1)=false:=by simp [hv1]
    exact zz47
 ·by_cases h1:kind=1
  ·subst h1
   have HX2:=zhd (show X=ored (must (v != 0) 6 name) (must (v == 2) 11 name) by rw [HX.out];simp)
   clear HX
   go_wp2_with fail
   refine (sort_any c p A n k l name N _ (Nat.le_trans HNW.out HXC.out.size) (HPA.out.ext HXC.out HNW.out) (HSL.out.ext HXC.out)).mono ?_
   rintro e w2 ⟨rfl,hx2⟩
   clear hDr hmr hhr hlr hcS hlS hhK hgK hlK
   rw [← HV.out]
   have HXC:=zhd (HXC.out.trans hx2)
   clear hx2
   have hDr:=Blk.ext HD.out HXC.out
   have hmr:=hDr.melts
   have hhr:=Blk.has hDr
   have hlr:=hDr.lt
   have hcS:=Blk.cell (Blk.ext HS.out HXC.out)
   have hlS:=(Blk.ext HS.out HXC.out).lt
   have hhK:=Blk.has (Blk.ext HK.out HXC.out)
   have hgK:=Blk.gets (Blk.ext HK.out HXC.out)
   have hlK:=(Blk.ext HK.out HXC.out).lt
   by_cases hv0:v=0
   ·have q0:((v:Int) == 0)=true:=by simp [hv0]
    exact zz50
   ·have q0:((v:Int) == 0)=false:=by simp;omega
    have n0:(v != 0)=true:=by simp [hv0]
    have HX3:=zhd (show X=must (v == 2) 11 name by rw [HX2.out,n0,must_true,ored_none])
    clear hv0
    by_cases hv1:v=2
    ·have q1:((v:Int) == 2)=true:=by simp [hv1]
     have q2:((v:Int) != 2)=false:=by simp [hv1]
     exact zz21
    ·have q1:((v:Int) == 2)=false:=by simp;omega
     have q2:((v:Int) != 2)=true:=by simp;omega
     have n1:(v == 2)=false:=by simp [hv1]
     exact zz47
  ·by_cases h5:kind=5
   ·subst h5
    have HX2:=zhd (show X=ored (must (v != 0) 6 name) (ored (must (v == 1) 11 name) (must (btw low 2 1000) 2 name)) by rw [HX.out];simp)
    clear HX
    go_wp2_with fail
    refine (sort_any c p A n k l name N _ (Nat.le_trans HNW.out HXC.out.size) (HPA.out.ext HXC.out HNW.out) (HSL.out.ext HXC.out)).mono ?_
    rintro e w2 ⟨rfl,hx2⟩
    clear hDr hmr hhr hlr hcS hlS hhK hgK hlK
    rw [← HV.out]
    have HXC:=zhd (HXC.out.trans hx2)
    clear hx2
    have hDr:=Blk.ext HD.out HXC.out
    have hmr:=hDr.melts
    have hhr:=Blk.has hDr
    have hlr:=hDr.lt
    have hcS:=Blk.cell (Blk.ext HS.out HXC.out)
    have hlS:=(Blk.ext HS.out HXC.out).lt
    have hhK:=Blk.has (Blk.ext HK.out HXC.out)
    have hgK:=Blk.gets (Blk.ext HK.out HXC.out)
    have hlK:=(Blk.ext HK.out HXC.out).lt
    by_cases hv0:v=0
    ·have q0:((v:Int) == 0)=true:=by simp [hv0]
     exact zz50
    ·have q0:((v:Int) == 0)=false:=by simp;omega
     have n0:(v != 0)=true:=by simp [hv0]
     have HX3:=zhd (show X=ored (must (v == 1) 11 name) (must (btw low 2 1000) 2 name) by rw [HX2.out,n0,must_true,ored_none])
     clear hv0
     by_cases hv1:v=1
     ·have q1:((v:Int) == 1)=true:=by simp [hv1]
      have HX4:=zhd (show X=must (btw low 2 1000) 2 name by rw [HX3.out,hv1];rfl)
      clear hv1
      go_wp2_with fail
      refine (in_any low 2 1000 _).mono ?_
      rintro e w3 ⟨rfl,rfl⟩
      cases hb:btw low 2 1000
      ·have HR:=zhd (show X=some ⟨2,name⟩ by rw [HX4.out,hb,must_false])
       exact zz55
      ·have HR:=zhd (show X=none by rw [HX4.out,hb,must_true])
       exact zz22
     ·have q1:((v:Int) == 1)=false:=by simp;omega
      have n1:(v == 1)=false:=by simp [hv1]
      have HR:=zhd (show X=some ⟨11,name⟩ by rw [HX3.out,n1,must_false,ored_some])
      clear hv1
      exact zz55
   ·by_cases h3:kind=3
    ·subst h3
     have HX2:=zhd (show X=ored (must (isName name) 6 name) (ored (must (v == 0) 7 name) (ored (must (word low && word high && decide (high - low≤63)) 2 name) (must (decide (deep < 8)) 25 name))) by rw [HX.out];simp)
     clear HX
     go_wp2_with fail
     refine (risname_any name HNM.out _).mono ?_
     rintro e w2 ⟨rfl,hx2⟩
     clear hDr hmr hhr hlr hcS hlS hhK hgK hlK
     have HXC:=zhd (HXC.out.trans hx2)
     clear hx2
     have hDr:=Blk.ext HD.out HXC.out
     have hmr:=hDr.melts
     have hhr:=Blk.has hDr
     have hlr:=hDr.lt
     have hcS:=Blk.cell (Blk.ext HS.out HXC.out)
     have hlS:=(Blk.ext HS.out HXC.out).lt
     have hhK:=Blk.has (Blk.ext HK.out HXC.out)
     have hgK:=Blk.gets (Blk.ext HK.out HXC.out)
     have hlK:=(Blk.ext HK.out HXC.out).lt
     cases hn:isName name
     ·have HR:=zhd (show X=some ⟨6,name⟩ by rw [HX2.out,hn,must_false,ored_some])
      exact zz55
     ·have HX3:=zhd (show X=ored (must (v == 0) 7 name) (ored (must (word low && word high && decide (high - low≤63)) 2 name) (must (decide (deep < 8)) 25 name)) by rw [HX2.out,hn,must_true,ored_none])
      clear HX2
      go_wp2_with fail
      refine (sort_any c p A n k l name N _ (Nat.le_trans HNW.out HXC.out.size) (HPA.out.ext HXC.out HNW.out) (HSL.out.ext HXC.out)).mono ?_
      rintro e w2 ⟨rfl,hx2⟩
      clear hDr hmr hhr hlr hcS hlS hhK hgK hlK
      rw [← HV.out]
      have HXC:=zhd (HXC.out.trans hx2)
      clear hx2
      have hDr:=Blk.ext HD.out HXC.out
      have hmr:=hDr.melts
      have hhr:=Blk.has hDr
      have hlr:=hDr.lt
      have hcS:=Blk.cell (Blk.ext HS.out HXC.out)
      have hlS:=(Blk.ext HS.out HXC.out).lt
      have hhK:=Blk.has (Blk.ext HK.out HXC.out)
      have hgK:=Blk.gets (Blk.ext HK.out HXC.out)
      have hlK:=(Blk.ext HK.out HXC.out).lt
      by_cases hv0:v=0
      ·have q0:((v:Int) == 0)=true:=by simp [hv0]
       have HX4:=zhd (show X=ored (must (word low && word high && decide (high - low≤63)) 2 name) (must (decide (deep < 8)) 25 name) by rw [HX3.out,hv0];rfl)
       clear hv0 HX3
       go_wp2_with fail
       refine (word_any low _).mono ?_
       rintro e w3 ⟨rfl,rfl⟩
       cases hw1:word low
       ·have HR:=zhd (show X=some ⟨2,name⟩ by rw [HX4.out,hw1];rfl)
        exact zz55
       ·go_wp2_with fail
        refine (word_any high _).mono ?_
        rintro e w3 ⟨rfl,rfl⟩
        cases hw2:word high
        ·have HR:=zhd (show X=some ⟨2,name⟩ by rw [HX4.out,hw1,hw2];rfl)
         exact zz55
        ·have hb1:-2147483648≤low∧low≤2147483647:=by simpa [word] using hw1
         have HX5:=zhd (show X=ored (must (decide (high - low≤63)) 2 name) (must (decide (deep < 8)) 25 name) by rw [HX4.out,hw1,hw2,Bool.true_and,Bool.true_and])
         clear HX4 hw1 hw2
         have hwr:IntKind.i64.wrap (low+63)=low+63:=by rw [IntKind.wrap_i64];omega
         by_cases hgt:high > low+63
         ·have HR:=zhd (show X=some ⟨2,name⟩ by rw [HX5.out,decide_eq_false (by omega),must_false,ored_some])
          exact zz55
         ·have HX6:=zhd (show X=must (decide (deep < 8)) 25 name by rw [HX5.out,decide_eq_true (by omega),must_true,ored_none])
          by_cases hd8:(deep:Int) ≥ 8
          ·have HR:=zhd (show X=some ⟨25,name⟩ by rw [HX6.out,decide_eq_false (by omega),must_false])
           exact zz55
          ·have HR:=zhd (show X=none by rw [HX6.out,decide_eq_true (by omega),must_true])
           exact zz22
      ·have q0:((v:Int) == 0)=false:=by simp;omega
       have n0:(v == 0)=false:=by simp [hv0]
       have HR:=zhd (show X=some ⟨7,name⟩ by rw [HX3.out,n0,must_false,ored_some])
       clear hv0
       exact zz55
    ·have HR:=zhd (show X=none by rw [HX.out,if_neg (by omega),if_neg h3])
     exact zz22
end Go.Proofs.YtbfbabbcdochjaaGreatDoor
