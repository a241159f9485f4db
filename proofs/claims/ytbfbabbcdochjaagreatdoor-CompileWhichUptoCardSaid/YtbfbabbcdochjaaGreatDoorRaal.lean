/- Several texts joined: Qy, Qza. -/
import Derived.Defers
import Derived.Recover
import Derived.Test.YtbfbabbcdochjaaGreatDoorRapk
import Derived.Test.YtbfbabbcdochjaaGreatDoorRaak
set_option maxHeartbeats 4000000
namespace Go.Proofs.YtbfbabbcdochjaaGreatDoor
open Go.RowKit So
set_option maxRecDepth 100000 in
theorem loop_any (cb g:Nat) (κ:Kn) (part:Str) (fors:Nat) (kind:Int) (s:Str) (eA:Option Addr) (en ec:Nat) (low high:Int) (lA:Option Addr) (ln lc:Nat) (xA:Option Addr) (xn xc:Nat) (hs:s.size≤maxLen) (w:World) (hC:Ck w cb g κ part fors) (hL:LaidAt w) :
 Calls Tryz.prog 182 #[.pointer (some ⟨cb,0,none⟩),.agg (scells kind s eA en ec low high lA ln lc xA xn xc)] w fun e w'=>MustR (loop κ s low high fors) e∧Ext w w':=by
 obtain ⟨X,hX⟩:∃ X,X=loop κ s low high fors:=⟨_,rfl⟩
 rw [← hX]
 obtain ⟨v,hv⟩:∃ v,v=κ s:=⟨_,rfl⟩
 have HV:=zhd hv
 have HX2:Hid (X=ored (must (isName s) 6 s) (ored (must (v == 0) 7 s) (ored (must (word low && word high && decide (high - low≤63)) 2 s) (must (decide (fors < 8)) 25 s)))):=zhd (by rw [hX,hv];rfl)
 clear hX hv
 have HSZ:=zhd hs
 clear hs
 have hx1:=(Kept.refl (fun _=>False) w).alloc (.cells (scells kind s eA en ec low high lA ln lc xA xn xc) 151)
 have hE1:=Blk.new w 151 (scells kind s eA en ec low high lA ln lc xA xn xc)
 go_enter Tryz.func182,Tryz.ntmps182
 go_upto_region 1 with (fail)
 generalize hW:(w.alloc (.cells (scells kind s eA en ec low high lA ln lc xA xn xc) 151))=W at hx1 hE1 ⊢
 generalize w.heap.size=eb at hE1 ⊢
 clear hW
 have hE0:=zhd hE1
 have HX0:=zhd hx1
 have HCW:=zhd (hC.ext hx1)
 have HLW:=zhd (hL.ext hx1)
 clear hE1 hx1 hC hL
 refine qr3 (fun w1=>Ext W w1) [(0,2),(1,1),(3,2),(4,1),(2,0),(5,0)] ?_;refine qrl ?_
 have HY0:=zhd (show Ext W W.drew from (Kept.refl _ W).drew)
 (repeat (first | refine qs3 ?_ | ((apply w3_take);(· exact HY0.out);(· go_simp);(· (intro w1 hS;have d4:=Blk.ext hE0.out hS;have d5:=Blk.cell d4;have d6:=d4.lt; go_simp;try with_reducible rfl));refine qnx ?_) | ((apply w3_pass);(· exact HY0.out);(· go_simp);refine qnx ?_)))
 (refine w3_act (fun K hK=>?_);go_simp)
 refine (sisname_any s HSZ.out _ (HLW.out.ext HY0.out)).mono ?_
 rintro e w1 ⟨rfl,hx1⟩
 have HY1:=zhd (HY0.out.trans hx1)
 clear hx1
 refine hK.out _ _ (fun _=>HY1.out) ?_
 clear hK K
 (repeat (first | refine qs3 ?_ | ((apply w3_take);(· exact HY1.out);(· go_simp);(· (intro w1 hS;have d4:=Blk.ext hE0.out hS;have d5:=Blk.cell d4;have d6:=d4.lt; go_simp;try with_reducible rfl));refine qnx ?_) | ((apply w3_pass);(· exact HY1.out);(· go_simp);refine qnx ?_)))
 (refine w3_last (by kernel_rfl) (by kernel_rfl) (fun K hK=>?_);go_simp)
 have HX:=zhd (HX0.out.trans HY1.out)
 cases hn:isName s
 ·have HR:=zhd (show X=some ⟨6,s⟩ by rw [HX2.out,hn];rfl)
  exact zz84
 ·have HX3:=zhd (show X=ored (must (v == 0) 7 s) (ored (must (word low && word high && decide (high - low≤63)) 2 s) (must (decide (fors < 8)) 25 s)) by rw [HX2.out,hn];rfl)
  refine (must_any true _ _ _).mono ?_
  rintro e w1 ⟨he,rfl⟩
  have he:=MustR.none he
  subst he
  refine hK.out _ _ ?_
  clear hK K
  refine qf3 ?_
  go_upto_region 2 with (fail)
  refine qr3 (fun w2=>Ext w1 w2) [(0,2),(1,2),(2,1),(5,2),(6,1),(3,0),(4,2),(7,0)] ?_;refine qrl ?_
  have HZ0:=zhd (show Ext w1 w1.drew from (Kept.refl _ w1).drew)
  (repeat (first | refine qs3 ?_ | ((apply w3_take);(· exact HZ0.out);(· go_simp);(· (intro w1 hS;have d4:=Blk.ext hE0.out (HY1.out.trans hS);have d5:=Blk.cell d4;have d6:=d4.lt; go_simp;try with_reducible rfl));refine qnx ?_) | ((apply w3_pass);(· exact HZ0.out);(· go_simp);refine qnx ?_)))
  (refine w3_act (fun K hK=>?_);go_simp)
  refine (knows_any cb g κ part fors s _ (HCW.out.ext (HY1.out.trans HZ0.out))).mono ?_
  rintro e w2 ⟨rfl,rfl⟩
  rw [← HV.out]
  refine hK.out _ _ (fun _=>HZ0.out) ?_
  clear hK K
  (repeat (first | refine qs3 ?_ | ((apply w3_take);(· exact HZ0.out);(· go_simp);(· (intro w1 hS;have d4:=Blk.ext hE0.out (HY1.out.trans hS);have d5:=Blk.cell d4;have d6:=d4.lt; go_simp;try with_reducible rfl));refine qnx ?_) | ((apply w3_pass);(· exact HZ0.out);(· go_simp);refine qnx ?_)))
  (refine w3_last (by kernel_rfl) (by kernel_rfl) (fun K hK=>?_);go_simp)
  have HX:=zhd (HX0.out.trans (HY1.out.trans HZ0.out))
  by_cases hv0:v=0
  ·have qv:(v != 0)=false:=by simp [hv0]
   have HX4:=zhd (show X=ored (must (word low && word high && decide (high - low≤63)) 2 s) (must (decide (fors < 8)) 25 s) by rw [HX3.out,hv0];rfl)
   try rw [qv]
   try simp only [Bool.not_false]
   refine (must_any true _ _ _).mono ?_
   rintro e w1 ⟨he,rfl⟩
   have he:=MustR.none he
   subst he
   refine hK.out _ _ ?_
   clear hK K
   refine qf3 ?_
   have HY2:=zhd (HY1.out.trans HZ0.out)
   go_upto_region 3 with (fail)
   generalize hW2:w1.drew=W2 at HY2 ⊢
   clear hW2
   cases hw1:word low
   ·have HR:=zhd (show X=some ⟨2,s⟩ by rw [HX4.out,hw1];rfl)
    refine qr3 (fun w2=>Ext W2 w2) [(0,2),(1,1),(16,2),(17,1),(2,0),(3,2),(4,2),(5,1),(6,0),(7,2),(8,2),(9,2),(10,1),(11,2),(12,1),(13,2),(14,2),(15,2),(18,0)] ?_;refine qrl ?_
    have HV0:=zhd (show Ext W2 W2.drew from (Kept.refl _ W2).drew)
    (repeat (first | refine qs3 ?_ | ((apply w3_take);(· exact HV0.out);(· go_simp);(· (intro w1 hS;have d4:=Blk.ext hE0.out (HY2.out.trans hS);have d5:=Blk.cell d4;have d6:=d4.lt; go_simp;try with_reducible rfl));refine qnx ?_) | ((apply w3_pass);(· exact HV0.out);(· go_simp);refine qnx ?_)))
    (refine w3_act (fun K hK=>?_);go_simp)
    refine (right_any _ _).mono ?_
    rintro e w2 ⟨rfl,rfl⟩
    rw [hw1]
    refine hK.out _ _ (fun _=>HV0.out) ?_
    clear hK K
    (repeat (first | refine qs3 ?_ | ((apply w3_take);(· exact HV0.out);(· go_simp);(· (intro w1 hS;have d4:=Blk.ext hE0.out (HY2.out.trans hS);have d5:=Blk.cell d4;have d6:=d4.lt; go_simp;try with_reducible rfl));refine qnx ?_) | ((apply w3_pass);(· exact HV0.out);(· go_simp);refine qnx ?_)))
    (refine w3_act (fun K hK=>?_);go_simp)
    refine hK.out _ _ (fun h=>h) ?_
    exact zz29
   ·cases hw2:word high
    ·have HR:=zhd (show X=some ⟨2,s⟩ by rw [HX4.out,hw1,hw2];rfl)
     refine qr3 (fun w2=>Ext W2 w2) [(0,2),(1,1),(16,2),(17,1),(2,0),(3,2),(4,2),(5,1),(6,0),(7,2),(8,2),(9,2),(10,1),(11,2),(12,1),(13,2),(14,2),(15,2),(18,0)] ?_;refine qrl ?_
     have HV0:=zhd (show Ext W2 W2.drew from (Kept.refl _ W2).drew)
     (repeat (first | refine qs3 ?_ | ((apply w3_take);(· exact HV0.out);(· go_simp);(· (intro w1 hS;have d4:=Blk.ext hE0.out (HY2.out.trans hS);have d5:=Blk.cell d4;have d6:=d4.lt; go_simp;try with_reducible rfl));refine qnx ?_) | ((apply w3_pass);(· exact HV0.out);(· go_simp);refine qnx ?_)))
     (refine w3_act (fun K hK=>?_);go_simp)
     refine (right_any _ _).mono ?_
     rintro e w2 ⟨rfl,rfl⟩
     rw [hw1]
     refine hK.out _ _ (fun _=>HV0.out) ?_
     clear hK K
     (repeat (first | refine qs3 ?_ | ((apply w3_take);(· exact HV0.out);(· go_simp);(· (intro w1 hS;have d4:=Blk.ext hE0.out (HY2.out.trans hS);have d5:=Blk.cell d4;have d6:=d4.lt; go_simp;try with_reducible rfl));refine qnx ?_) | ((apply w3_pass);(· exact HV0.out);(· go_simp);refine qnx ?_)))
     (refine w3_act (fun K hK=>?_);go_simp)
     refine (right_any _ _).mono ?_
     rintro e w2 ⟨rfl,rfl⟩
     rw [hw2]
     refine hK.out _ _ (fun _=>HV0.out) ?_
     exact zz29
    ·have hb1:-2147483648≤low∧low≤2147483647:=by simpa [word] using hw1
     have hb2:-2147483648≤high∧high≤2147483647:=by simpa [word] using hw2
     obtain ⟨a1,a2⟩:=hb1
     obtain ⟨a3,a4⟩:=hb2
     have HW1:=zhd hw1
     have HW2:=zhd hw2
     have HX5:=zhd (show X=ored (must (decide (high - low≤63)) 2 s) (must (decide (fors < 8)) 25 s) by rw [HX4.out,hw1,hw2];rfl)
     refine qr3 (fun w2=>Ext W2 w2) [(0,2),(1,1),(16,2),(17,1),(2,0),(3,2),(4,2),(5,1),(6,0),(7,2),(8,2),(9,2),(10,1),(11,2),(12,1),(13,2),(14,2),(15,2),(18,0)] ?_;refine qrl ?_
     have HV0:=zhd (show Ext W2 W2.drew from (Kept.refl _ W2).drew)
     (repeat (first | refine qs3 ?_ | ((apply w3_take);(· exact HV0.out);(· go_simp);(· (intro w1 hS;have d4:=Blk.ext hE0.out (HY2.out.trans hS);have d5:=Blk.cell d4;have d6:=d4.lt; go_simp;try with_reducible rfl));refine qnx ?_) | ((apply w3_pass);(· exact HV0.out);(· go_simp);refine qnx ?_)))
     (refine w3_act (fun K hK=>?_);go_simp)
     refine (right_any _ _).mono ?_
     rintro e w2 ⟨rfl,rfl⟩
     rw [HW1.out]
     refine hK.out _ _ (fun _=>HV0.out) ?_
     clear hK K
     (repeat (first | refine qs3 ?_ | ((apply w3_take);(· exact HV0.out);(· go_simp);(· (intro w1 hS;have d4:=Blk.ext hE0.out (HY2.out.trans hS);have d5:=Blk.cell d4;have d6:=d4.lt; go_simp;try with_reducible rfl));refine qnx ?_) | ((apply w3_pass);(· exact HV0.out);(· go_simp);refine qnx ?_)))
     (refine w3_act (fun K hK=>?_);go_simp)
     refine (right_any _ _).mono ?_
     rintro e w2 ⟨rfl,rfl⟩
     rw [HW2.out]
     refine hK.out _ _ (fun _=>HV0.out) ?_
     clear hK K
     have hwr:IntKind.i64.wrap (high - low)=high - low:=by rw [IntKind.wrap_i64];omega
     by_cases hd:high - low≤63
     ·have HX6:=zhd (show X=must (decide (fors < 8)) 25 s by rw [HX5.out,decide_eq_true hd];rfl)
      (repeat (first | refine qs3 ?_ | ((apply w3_take);(· exact HV0.out);(· go_simp);(· (intro w1 hS;have d4:=Blk.ext hE0.out (HY2.out.trans hS);have d5:=Blk.cell d4;have d6:=d4.lt; go_simp;try with_reducible rfl));refine qnx ?_) | ((apply w3_pass);(· exact HV0.out);(· go_simp);refine qnx ?_)))
      (refine w3_last (by kernel_rfl) (by kernel_rfl) (fun K hK=>?_);go_simp)
      refine (must_any true _ _ _).mono ?_
      rintro e w1 ⟨he,rfl⟩
      have he:=MustR.none he
      subst he
      refine hK.out _ _ ?_
      clear hK K
      refine qf3 ?_
      go_upto_region 4 with (fail)
      have HY3:=zhd (HY2.out.trans HV0.out)
      generalize hW3:W2.drew=W3 at HY3 ⊢
      clear hW3
      refine qr3 (fun w2=>Ext W3 w2) [(0,2),(1,2),(2,2),(3,1),(4,2),(5,2),(6,1),(7,0)] ?_;refine qrl ?_
      have HU0:=zhd (show Ext W3 W3.drew from (Kept.refl _ W3).drew)
      (repeat (first | refine qs3 ?_ | ((apply w3_take);(· exact HU0.out);(· go_simp);(· (intro w1 hS;have d1:=(HCW.out.ext (HY3.out.trans hS));have d2:=Blk.cell d1.blk;have d3:=d1.blk.lt;clear d1;have d4:=Blk.ext hE0.out (HY3.out.trans hS);have d5:=Blk.cell d4;have d6:=d4.lt; go_simp;try with_reducible rfl));refine qnx ?_) | ((apply w3_pass);(· exact HU0.out);(· go_simp);refine qnx ?_)))
      have HX:=zhd (HX0.out.trans (HY3.out.trans HU0.out))
      by_cases h8:fors < 8
      ·have h8I:(fors:Int) < 8:=by omega
       have HR:=zhd (show X=none by rw [HX6.out,decide_eq_true h8];rfl)
       (repeat refine qs3 ?_)
       (refine w3_last (by kernel_rfl) (by kernel_rfl) (fun K hK=>?_);go_simp)
       exact zz74
      ·have h8I:¬ (fors:Int) < 8:=by omega
       have HR:=zhd (show X=some ⟨25,s⟩ by rw [HX6.out,decide_eq_false h8];rfl)
       (repeat refine qs3 ?_)
       (refine w3_last (by kernel_rfl) (by kernel_rfl) (fun K hK=>?_);go_simp)
       exact zz84
     ·have HR:=zhd (show X=some ⟨2,s⟩ by rw [HX5.out,decide_eq_false hd];rfl)
      exact zz120
  ·have qv:(v != 0)=true:=by simp [hv0]
   have qn:(v == 0)=false:=by simp [hv0]
   have HR:=zhd (show X=some ⟨7,s⟩ by rw [HX3.out,qn];rfl)
   try rw [qv]
   try simp only [Bool.not_true]
   exact zz84
open Go.RowKit So
theorem wpList_del {P:Program} {w:World} {ops:Array Oper} {rest:List Oper} {o:Oper} {a:Act} {Q:Exit→Act→World→Prop} (hgd:o.guard=none) (x y:Operand) (T1 T2:TypeId)
 (ho:o.op=.call { callee:=.builtin .delete,args:=#[x,y],argTypes:=#[T1,T2] }) {ty:TypeId} (hty:o.type=ty) {v s v':Value} {w':World} (hx:a.eval x=v) (hy:a.eval y=s)
 (hrun:(Builtin.delete_ #[T1,T2] ty #[v,s]).run P w=.ok v' w') (h:wpList P ops Q rest (a.put o.dst v') w'):wpList P ops Q (o :: rest) a w :=
 wpList_plain hgd fun _ hK=>by
  subst hty
  unfold Oper.wp execOp
  simp only [ho,resolve,invoke,builtin,Sem.run_bind,Sem.run_pure,Result.andThen_ok,List.map_toArray,List.map_cons,List.map_nil,hx,hy,hrun]
  exact hK _ _ h
theorem SMap.ne_cell {w:World} {g:Nat} {f:ByteArray→Option Value} (h:SMap w g f) {p:Addr} {v:Value} (hc:w.cell? p=some v):¬ p.block=g:=fun e=>by
 obtain ⟨es,clock,hb,_⟩:=h
 unfold World.cell? at hc
 rw [e,hb] at hc
 cases hc
theorem SMap.ne_row {w:World} {g b off:Nat} {f:ByteArray→Option Value} {vs:List Value} (h:SMap w g f) (hr:Row w b off vs):¬ b=g:=fun e=>by
 obtain ⟨es,clock,hb,_⟩:=h
 obtain ⟨c,t,fr,hq,_⟩:=hr.inv
 rw [e,hb] at hq
 cases hq
def delF (f:ByteArray→Option Value) (l:List Str):ByteArray→Option Value:=fun t=>if l.any (fun u=>decide (u=t))=true then none else f t
theorem delF_snoc (f:ByteArray→Option Value) (l:List Str) (x:Str):∀ t,(fun t=>if t=x then none else delF f l t) t=delF f (l ++ [x]) t:=by
 intro t
 unfold delF
 exact zz73
set_option maxRecDepth 100000 in
theorem forget_any (nb pb cb g:Nat) (A:Option Addr) (n c:Nat) (l:List Str) (f:ByteArray→Option Value) (part:Str) (fors:Int) (u:FrameMode) (N:Nat) (w:World)
 (h1:w.cell? ⟨nb,0,none⟩=some (.slice A n c)) (h2:w.cell? ⟨pb,0,none⟩=some (.pointer (some ⟨cb,0,none⟩))) (hb:Blk w cb 145 #[.map (some g),.string part,.int .i64 fors]) (hM:SMap w g f) (hS:StrSl w N A n l) :
 CallsD Tryz.prog 175 #[.pointer (some ⟨nb,0,none⟩),.pointer (some ⟨pb,0,none⟩)] u w fun e u' w'=>u'=u∧(e=.returned (.tuple #[])∧SMap w' g (delF f l)∧Kept (·=g) w w'):=by
 obtain ⟨hn,hm,b,off,hA,hE⟩:=hS
 have HN:=zhd hn
 have HA:=zhd hA
 have HE:=zhd hE
 have HM:=zhd hM
 have n1:=zhd (hM.ne_cell h1)
 have n2:=zhd (hM.ne_cell h2)
 have hcb:=Blk.cell hb
 have n3:=zhd (hM.ne_cell (p:=⟨cb,0,none⟩) (hcb 0))
 have l1:=zhd (Nat.lt_of_not_le (fun h=>by unfold World.cell? at h1;rw [Array.getElem?_eq_none h] at h1;cases h1):nb < w.heap.size)
 have l2:=zhd (Nat.lt_of_not_le (fun h=>by unfold World.cell? at h2;rw [Array.getElem?_eq_none h] at h2;cases h2):pb < w.heap.size)
 have HB:=zhd hb
 have H2:=zhd h2
 clear hn hA hE hM hcb hb
 go_enter_d Tryz.func175,Tryz.ntmps175
 go_wp2_with fail
 go_loopw [6] (fun t6 wr=>∃ (j:Nat),j≤n∧t6=.int .i64 j∧SMap wr g (delF f (l.take j))∧Kept (·=g) w wr) (fun t6 _=>n - (intOf t6).toNat)
 case atStart=>exact ⟨0,Nat.zero_le _,rfl,HM.out.cong (fun t=>by simp [delF]),Kept.refl _ _⟩
 case round =>
  obtain ⟨j,hj,rfl,hS,hx⟩:=hrel
  have HS:=zhd hS
  have HX:=zhd hx
  clear hS hx h2
  by_cases hlt:j < n
  ·have hjl:j < l.length:=by have:=HN.out;omega
   have hltI:(j:Int) < n:=by omega
   obtain rfl:=HA.out (by omega)
   have hrow0:=(HE.out (by omega)).2
   have hrow:=hrow0.kept HX.out (HM.out.ne_row hrow0)
   have hc:=str_at hrow j hjl
   have hbw:=hrow.lt
   have c2:=(Kept.cell HX.out (p:=⟨pb,0,none⟩) l2.out n2.out).trans H2.out
   have bk:=Blk.kept HB.out HX.out n3.out
   have cb0:=Blk.cell bk
   have lcb:=bk.lt
   obtain ⟨x,hxe⟩:∃ x,x=l[j]:=⟨_,rfl⟩
   rw [← hxe] at hc
   have HXE:=zhd hxe
   clear hrow hrow0 hxe bk
   obtain ⟨w',hrun,hS',hk'⟩:=SMap.del (P:=Tryz.prog) HS.out Tryz.underlying143 Tryz.underlying9 0 x
   have HS':=zhd hS'
   have HK':=zhd hk'
   clear hS' hk'
   go_upto_region 3 with (fail)
   go_step
   iterate 5 refine qls ?_
   refine wpList_del rfl (.tmp 13) (.tmp 14) _ _ rfl rfl rfl rfl hrun ?_
   clear hrun
   go_wp2_with fail
   go_roundw
   case rel=>exact ⟨j+1,hlt,by go_num,HS'.out.cong (fun t=>by rw [List.take_add_one,List.getElem?_eq_getElem hjl,← HXE.out];exact delF_snoc f (l.take j) x t),HX.out.trans HK'.out⟩
   case measure=>simp only [intOf];omega
  ·obtain rfl:j=n:=by omega
   go_wp2_with fail
   go_end0
   have hS:=HS.out
   rw [HN.out,List.take_length] at hS
   exact ⟨rfl,hS,HX.out⟩
end Go.Proofs.YtbfbabbcdochjaaGreatDoor
