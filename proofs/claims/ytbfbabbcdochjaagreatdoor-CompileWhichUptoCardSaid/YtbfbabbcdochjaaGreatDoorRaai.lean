/- Several texts joined: Qk, Qm, Qn, Qo. -/
import Derived.Lib.AppendZeros
import Derived.Test.YtbfbabbcdochjaaGreatDoorRapk
import Derived.Test.YtbfbabbcdochjaaGreatDoorRaah
set_option maxHeartbeats 4000000
namespace Go.Proofs.YtbfbabbcdochjaaGreatDoor
open Go.RowKit So
set_option maxRecDepth 100000 in
theorem of_any (c:Pc) (p:Pr) (N:Nat) (w:World) (hN:N≤w.heap.size) (h:PAt w N c p):Calls Tryz.prog 22 #[.agg c.cells] w fun e w'=>Ext w w'∧∃ c':Pc,e=.returned (.agg c'.cells)∧PAt w' w'.heap.size c' p:=by
 have hx0:=(Kept.refl (fun _=>False) w).alloc (.cells c.cells 26)
 have hB:=Blk.new w 26 c.cells
 have hP:=zhd (h.ext hx0 hN)
 have hNa:=Nat.le_trans hN hx0.size
 clear h
 go_enter Tryz.func22,Tryz.ntmps22
 go_upto_region 1 with (fail)
 have hR:=Blk.new (w.alloc (.cells c.cells 26)) 57 #[.string ⟨#[]⟩,.int .i64 0,.slice none 0 0,.slice none 0 0,.slice none 0 0,.slice none 0 0,.slice none 0 0,.slice none 0 0,.string ⟨#[]⟩,.slice none 0 0,.slice none 0 0]
 have hR':Blk ((w.alloc (.cells c.cells 26)).alloc (.cells #[.string ⟨#[]⟩,.int .i64 0,.slice none 0 0,.slice none 0 0,.slice none 0 0,.slice none 0 0,.slice none 0 0,.slice none 0 0,.string ⟨#[]⟩,.slice none 0 0,.slice none 0 0] 57)) (w.heap.size+1) 57 #[.string ⟨#[]⟩,.int .i64 0,.slice none 0 0,.slice none 0 0,.slice none 0 0,.slice none 0 0,.slice none 0 0,.slice none 0 0,.string ⟨#[]⟩,.slice none 0 0,.slice none 0 0]:=by simpa using hR
 have hx1:=hx0.alloc (.cells #[.string ⟨#[]⟩,.int .i64 0,.slice none 0 0,.slice none 0 0,.slice none 0 0,.slice none 0 0,.slice none 0 0,.slice none 0 0,.string ⟨#[]⟩,.slice none 0 0,.slice none 0 0] 57)
 have hxq:=(Kept.refl (fun _=>False) (w.alloc (.cells c.cells 26))).alloc (.cells #[.string ⟨#[]⟩,.int .i64 0,.slice none 0 0,.slice none 0 0,.slice none 0 0,.slice none 0 0,.slice none 0 0,.slice none 0 0,.string ⟨#[]⟩,.slice none 0 0,.slice none 0 0] 57)
 have hP1:=zhd (hP.out.ext hxq hNa)
 have hB1:=Blk.ext hB hxq
 have hNb:=Nat.le_trans hNa hxq.size
 generalize hW:((w.alloc (.cells c.cells 26)).alloc (.cells #[.string ⟨#[]⟩,.int .i64 0,.slice none 0 0,.slice none 0 0,.slice none 0 0,.slice none 0 0,.slice none 0 0,.slice none 0 0,.string ⟨#[]⟩,.slice none 0 0,.slice none 0 0] 57))=W at hx1 hB1 hP1 hNb hR' ⊢
 clear hW hx0 hB hP hNa hR hxq
 have HRB:=zhd (show ¬ w.heap.size=w.heap.size+1 by omega)
 generalize hrb:w.heap.size+1=rb at hR' HRB ⊢
 generalize hpb:w.heap.size=pb at hB1 HRB hrb ⊢
 have HX1:=zhd hx1
 have HRW:=zhd (show w.heap.size≤rb by omega)
 clear hx1 hpb hrb
 have hC:=zhd hB1
 have hD:=zhd hR'
 clear hB1 hR'
 refine qr3 (fun w1=>Kept (·=rb) W w1) [(0,2),(1,1),(2,2),(3,1),(4,2),(5,1),(6,2),(7,1),(9,2),(10,1),(12,2),(13,1),(15,2),(16,1),(18,2),(19,1),(21,2),(22,1),(23,2),(24,1),(26,2),(27,1),(8,0),(11,0),(14,0),(17,0),(20,0),(25,0),(28,0),(29,2),(30,0)] ?_;refine qrl ?_
 have HY0:=zhd (show Ext W W.drew from (Kept.refl _ W).drew)
 (repeat (first | refine qs3 ?_ | ((apply w3_take);(· exact (Kept.ext HY0.out));(· go_simp);(· (intro w1 hS;have d0:=Blk.kept hC.out hS HRB.out;have d1:=Blk.cell d0;have d2:=d0.lt; go_simp;try with_reducible rfl));refine qnx ?_) | ((apply w3_pass);(· exact (Kept.ext HY0.out));(· go_simp);refine qnx ?_)))
 (refine w3_act (fun K hK=>?_);go_simp)
 refine (ofvars_any p.vars _ _ _ N _ (Nat.le_trans hNb HY0.out.size) (hP1.out.vars.ext HY0.out)).mono ?_
 rintro e w1 ⟨hx1,A1,c1,rfl,hk1⟩
 have HZ1:=zhd hx1
 have HY1:=zhd (HY0.out.trans hx1)
 have HK1:=zhd hk1
 clear hx1 hk1
 refine hK.out _ _ (fun _=>Kept.ext HY1.out) ?_
 clear hK K
 (repeat refine qs3 ?_)
 (repeat (first | refine qs3 ?_ | ((apply w3_take);(· exact (Kept.ext HY1.out));(· go_simp);(· (intro w1 hS;have d0:=Blk.kept hC.out hS HRB.out;have d1:=Blk.cell d0;have d2:=d0.lt; go_simp;try with_reducible rfl));refine qnx ?_) | ((apply w3_pass);(· exact (Kept.ext HY1.out));(· go_simp);refine qnx ?_)))
 (refine w3_act (fun K hK=>?_);go_simp)
 refine (ofstmts_any _ p.start _ _ _ N _ (Kept.refl _ _) (Nat.le_trans hNb HY1.out.size) (hP1.out.start.ext HY1.out hNb)).mono ?_
 rintro e w2 ⟨hx1,A2,c2,rfl,hk1⟩
 have HZ2:=zhd hx1
 have HY2:=zhd (HY1.out.trans hx1)
 have HK2:=zhd hk1
 clear hx1 hk1
 refine hK.out _ _ (fun _=>Kept.ext HY2.out) ?_
 clear hK K
 (repeat refine qs3 ?_)
 (repeat (first | refine qs3 ?_ | ((apply w3_take);(· exact (Kept.ext HY2.out));(· go_simp);(· (intro w1 hS;have d0:=Blk.kept hC.out hS HRB.out;have d1:=Blk.cell d0;have d2:=d0.lt; go_simp;try with_reducible rfl));refine qnx ?_) | ((apply w3_pass);(· exact (Kept.ext HY2.out));(· go_simp);refine qnx ?_)))
 (refine w3_act (fun K hK=>?_);go_simp)
 refine (ofstmts_any _ p.turn _ _ _ N _ (Kept.refl _ _) (Nat.le_trans hNb HY2.out.size) (hP1.out.turn.ext HY2.out hNb)).mono ?_
 rintro e w3 ⟨hx1,A3,c3,rfl,hk1⟩
 have HZ3:=zhd hx1
 have HY3:=zhd (HY2.out.trans hx1)
 have HK3:=zhd hk1
 clear hx1 hk1
 refine hK.out _ _ (fun _=>Kept.ext HY3.out) ?_
 clear hK K
 (repeat refine qs3 ?_)
 (repeat (first | refine qs3 ?_ | ((apply w3_take);(· exact (Kept.ext HY3.out));(· go_simp);(· (intro w1 hS;have d0:=Blk.kept hC.out hS HRB.out;have d1:=Blk.cell d0;have d2:=d0.lt; go_simp;try with_reducible rfl));refine qnx ?_) | ((apply w3_pass);(· exact (Kept.ext HY3.out));(· go_simp);refine qnx ?_)))
 (refine w3_act (fun K hK=>?_);go_simp)
 refine (ofvars_any p.params _ _ _ N _ (Nat.le_trans hNb HY3.out.size) (hP1.out.params.ext HY3.out)).mono ?_
 rintro e w4 ⟨hx1,A4,c4,rfl,hk1⟩
 have HZ4:=zhd hx1
 have HY4:=zhd (HY3.out.trans hx1)
 have HK4:=zhd hk1
 clear hx1 hk1
 refine hK.out _ _ (fun _=>Kept.ext HY4.out) ?_
 clear hK K
 (repeat refine qs3 ?_)
 (repeat (first | refine qs3 ?_ | ((apply w3_take);(· exact (Kept.ext HY4.out));(· go_simp);(· (intro w1 hS;have d0:=Blk.kept hC.out hS HRB.out;have d1:=Blk.cell d0;have d2:=d0.lt; go_simp;try with_reducible rfl));refine qnx ?_) | ((apply w3_pass);(· exact (Kept.ext HY4.out));(· go_simp);refine qnx ?_)))
 (refine w3_act (fun K hK=>?_);go_simp)
 refine (ofstmts_any _ p.play _ _ _ N _ (Kept.refl _ _) (Nat.le_trans hNb HY4.out.size) (hP1.out.play.ext HY4.out hNb)).mono ?_
 rintro e w5 ⟨hx1,A5,c5,rfl,hk1⟩
 have HZ5:=zhd hx1
 have HY5:=zhd (HY4.out.trans hx1)
 have HK5:=zhd hk1
 clear hx1 hk1
 refine hK.out _ _ (fun _=>Kept.ext HY5.out) ?_
 clear hK K
 (repeat refine qs3 ?_)
 (repeat (first | refine qs3 ?_ | ((apply w3_take);(· exact (Kept.ext HY5.out));(· go_simp);(· (intro w1 hS;have d0:=Blk.kept hC.out hS HRB.out;have d1:=Blk.cell d0;have d2:=d0.lt; go_simp;try with_reducible rfl));refine qnx ?_) | ((apply w3_pass);(· exact (Kept.ext HY5.out));(· go_simp);refine qnx ?_)))
 (refine w3_act (fun K hK=>?_);go_simp)
 refine (ofstmts_any _ p.quiet _ _ _ N _ (Kept.refl _ _) (Nat.le_trans hNb HY5.out.size) (hP1.out.quiet.ext HY5.out hNb)).mono ?_
 rintro e w6 ⟨hx1,A6,c6,rfl,hk1⟩
 have HZ6:=zhd hx1
 have HY6:=zhd (HY5.out.trans hx1)
 have HK6:=zhd hk1
 clear hx1 hk1
 refine hK.out _ _ (fun _=>Kept.ext HY6.out) ?_
 clear hK K
 (repeat refine qs3 ?_)
 (repeat (first | refine qs3 ?_ | ((apply w3_take);(· exact (Kept.ext HY6.out));(· go_simp);(· (intro w1 hS;have d0:=Blk.kept hC.out hS HRB.out;have d1:=Blk.cell d0;have d2:=d0.lt; go_simp;try with_reducible rfl));refine qnx ?_) | ((apply w3_pass);(· exact (Kept.ext HY6.out));(· go_simp);refine qnx ?_)))
 (refine w3_act (fun K hK=>?_);go_simp)
 refine (ofstmts_any _ p.pays _ _ _ N _ (Kept.refl _ _) (Nat.le_trans hNb HY6.out.size) (hP1.out.pays.ext HY6.out hNb)).mono ?_
 rintro e w7 ⟨hx1,A7,c7,rfl,hk1⟩
 have HZ7:=zhd hx1
 have HY7:=zhd (HY6.out.trans hx1)
 have HK7:=zhd hk1
 clear hx1 hk1
 refine hK.out _ _ (fun _=>Kept.ext HY7.out) ?_
 clear hK K
 (repeat refine qs3 ?_)
 have hDr:=Blk.ext hD.out HY7.out
 have hm:=Blk.melts hDr
 have hh:=Blk.has hDr
 (refine w3_act (fun K hK=>?_);go_simp)
 refine hK.out _ _ (fun _=>Kept.putAt (Kept.ext HY7.out) _ _ _ (fun _=>rfl)) ?_
 clear hK K
 refine qf3 ?_
 go_wp2_with fail
 refine ret_cell Tryz.results22 rfl rfl aggProgS (by exact sizeProgS) (Blk.put_ hDr _ _) ?_
 refine ⟨(HX1.out.trans HY7.out).putAt _ _ _ (fun hlt=>absurd hlt (by have:=HRW.out;omega)),⟨c.name,c.seats,c.stakes,⟨A1,c.vars.n,c1⟩,⟨A2,c.start.n,c2⟩,⟨A3,c.turn.n,c3⟩,⟨A4,c.params.n,c4⟩,⟨A5,c.play.n,c5⟩,c.silent,⟨A6,c.quiet.n,c6⟩,⟨A7,c.pays.n,c7⟩⟩,rfl,?_⟩
 have hkp:Kept (·=rb) w7 (putAt w7 rb 0 #[.string c.name,.int .i64 c.seats,c.stakes.v,.slice A1 c.vars.n c1,.slice A2 c.start.n c2,.slice A3 c.turn.n c3,.slice A4 c.params.n c4,.slice A5 c.play.n c5,.string c.silent,.slice A6 c.quiet.n c6,.slice A7 c.pays.n c7]):=Kept.putAt (Kept.refl _ _) _ _ _ (fun _=>rfl)
 have hws:=hkp.size
 have E6:=HZ7.out
 have E5:=HZ6.out.trans E6
 have E4:=HZ5.out.trans E5
 have E3:=HZ4.out.trans E4
 have E2:=HZ3.out.trans E3
 have E1:=HZ2.out.trans E2
 have k0:=HY0.out.size
 have k1:=HY1.out.size
 have k2:=HY2.out.size
 have k3:=HY3.out.size
 have k4:=HY4.out.size
 have k5:=HY5.out.size
 have k6:=HY6.out.size
 have k7:=HY7.out.size
 have s1:=E1.size
 have s2:=E2.size
 have s3:=E3.size
 have s4:=E4.size
 have s5:=E5.size
 have s6:=E6.size
 have hrb:=hD.out.lt
 have hNr:N≤rb:=Nat.le_trans hN HRW.out
 refine ⟨hP1.out.name,hP1.out.nameOk,hP1.out.seats,hP1.out.seatsOk,((hP1.out.stakes.ext HY7.out).kept hkp (fun i e=>by omega)).mono (by omega),?_,?_,?_,?_,?_,hP1.out.silent,hP1.out.silentOk,?_,?_⟩
 ·exact ((HK1.out.ext E1).kept hkp (fun i hi e=>by omega)).at_ (fun i hi=>by omega)
 ·exact ((HK2.out.kept E2 (fun i hi=>⟨hi.2,fun f=>f⟩)).kept hkp (fun i hi=>⟨by omega,by omega⟩)).at_ (fun i hi=>by omega)
 ·exact ((HK3.out.kept E3 (fun i hi=>⟨hi.2,fun f=>f⟩)).kept hkp (fun i hi=>⟨by omega,by omega⟩)).at_ (fun i hi=>by omega)
 ·exact ((HK4.out.ext E4).kept hkp (fun i hi e=>by omega)).at_ (fun i hi=>by omega)
 ·exact ((HK5.out.kept E5 (fun i hi=>⟨hi.2,fun f=>f⟩)).kept hkp (fun i hi=>⟨by omega,by omega⟩)).at_ (fun i hi=>by omega)
 ·exact ((HK6.out.kept E6 (fun i hi=>⟨hi.2,fun f=>f⟩)).kept hkp (fun i hi=>⟨by omega,by omega⟩)).at_ (fun i hi=>by omega)
 ·exact (HK7.out.kept hkp (fun i hi=>⟨hi.2,by omega⟩)).at_ (fun i hi=>by omega)
open Go.RowKit So
attribute [go_sem] Sl3.v
set_option maxRecDepth 100000 in
theorem find_any (l:List Vr) (s:Str) (A:Option Addr) (n c N:Nat) (w:World) (h:VSl w N A n l):Calls Tryz.prog 91 #[.slice A n c,.string s] w fun e w'=>e=.returned (.bool (l.any (fun v=>decide (v.name=s))))∧w=w':=by
 obtain ⟨hn,hf,hok,b,off,hA,hE⟩:=h
 have hm:=hf.max (by omega)
 have HN:=zhd hn
 have HA:=zhd hA
 have HE:=zhd hE
 clear hn hA hE hok hf
 go_enter Tryz.func91,Tryz.ntmps91
 go_wp2_with fail
 go_loopw [5] (fun t5 wr=>∃ (j:Nat),j≤n∧t5=.int .i64 j∧(∀ v ∈ l.take j,¬ v.name=s)∧w=wr) (fun t5 _=>n - (intOf t5).toNat)
 case atStart=>exact ⟨0,Nat.zero_le _,rfl,by simp,rfl⟩
 case round =>
  obtain ⟨j,hj,rfl,hno,hw⟩:=hrel
  subst hw
  have HNO:=zhd hno
  clear hno
  by_cases hlt:j < n
  ·have hjl:j < l.length:=by have:=HN.out;omega
   have hltI:(j:Int) < n:=by omega
   obtain rfl:=HA.out (by omega)
   have hrow:=(HE.out (by omega)).2
   obtain ⟨hh',hg'⟩:=vr_at hrow j hjl
   have hc:=cell_gets0 hh' hg' (by omega)
   obtain ⟨x,hxe⟩:∃ x,x=l[j]:=⟨_,rfl⟩
   rw [← hxe] at hc
   have HX:=zhd hxe
   clear hrow hxe hh' hg'
   by_cases hq:x.name=s
   ·have hb:=str_same hq
    have HQ:=zhd hq
    clear hq
    go_wp2_with fail
    go_ret
    refine ⟨ret_bool ?_,rfl⟩
    rw [eq_comm,List.any_eq_true]
    exact ⟨x,by rw [HX.out];exact List.getElem_mem hjl,decide_eq_true HQ.out⟩
   ·have hb:=str_other hq
    exact zz46
  ·obtain rfl:j=n:=by omega
   go_wp2_with fail
   go_ret
   refine ⟨ret_bool ?_,rfl⟩
   rw [eq_comm,List.any_eq_false]
   intro v hv
   have:=HNO.out v (by rw [HN.out,List.take_length];exact hv)
   simpa using this
theorem cells_app:∀ a b:List Vr,cells (a ++ b)=cells a+cells b
 | [],b=>by simp [cells]
 | v :: a,b=>by simp [cells,cells_app a b];omega
theorem cellsV_bd (v:Vr):1≤So.cellsV v∧So.cellsV v≤64:=by unfold So.cellsV;split <;> omega
theorem cells_bd:∀ l:List Vr,0≤cells l∧cells l≤64 * l.length
 | []=>by simp [cells]
 | v :: l=>by
  have:=cells_bd l
  have:=cellsV_bd v
  simp only [cells,List.length_cons]
  omega
theorem cells_take {l:List Vr} {j:Nat} (h:j < l.length):cells (l.take (j+1))=cells (l.take j)+So.cellsV l[j]:=by
 rw [List.take_add_one,List.getElem?_eq_getElem h,cells_app]
 simp [cells]
theorem w64_cells {l:List Vr} (h:l.length≤17592186044416):w64 (cells l)=cells l:=by
 have:=cells_bd l
 simp only [w64_def]
 omega
def cellN (l:List Vr) (s:Str):Int:=if l.any (fun v=>decide (v.name=s))=true then cells (l.takeWhile (fun v=>!decide (v.name=s))) else 0
def cellX (l:List Vr) (s:Str):Vr:=(l.find? (fun v=>decide (v.name=s))).getD ⟨E0,0,0,0⟩
theorem tw_mid {α:Type} (p:α→Bool) (b:List α):∀ (a:List α) (x:α) (_:∀ v ∈ a,p v=false) (_:p x=true),(a ++ x :: b).takeWhile (fun v=>!p v)=a∧(a ++ x :: b).find? p=some x
 | [],x,_,hx=>by simp [hx]
 | y :: a,x,h,hx=>by
  have hy:=h y (by simp)
  obtain ⟨h1,h2⟩:=tw_mid p b a x (fun v hv=>h v (by simp [hv])) hx
  exact ⟨by simp [hy,h1],by simp [hy,h2]⟩
theorem cell_at:∀ {l:List Vr} {j:Nat} {s:Str} (_:∀ v ∈ l.take j,¬ v.name=s) (hj:j < l.length) (_:l[j].name=s),cellN l s=cells (l.take j)∧cellX l s=l[j]∧l.any (fun v=>decide (v.name=s))=true:=by
 intro l j s h hj hq
 have hsp:l=l.take j ++ l[j] :: l.drop (j+1):=by rw [← List.drop_eq_getElem_cons hj,List.take_append_drop]
 have hany:l.any (fun v=>decide (v.name=s))=true:=by
  rw [List.any_eq_true];exact ⟨l[j],List.getElem_mem hj,decide_eq_true hq⟩
 have htw:l.takeWhile (fun v=>!decide (v.name=s))=l.take j:=by
  have:=tw_mid (fun v:Vr=>decide (v.name=s)) (l.drop (j+1)) (l.take j) l[j] (fun v hv=>by simpa using h v hv) (by simpa using hq)
  rw [← hsp] at this
  exact this.1
 have hfd:l.find? (fun v=>decide (v.name=s))=some l[j]:=by
  have:=tw_mid (fun v:Vr=>decide (v.name=s)) (l.drop (j+1)) (l.take j) l[j] (fun v hv=>by simpa using h v hv) (by simpa using hq)
  rw [← hsp] at this
  exact this.2
 exact ⟨by unfold cellN;rw [if_pos hany,htw],by unfold cellX;rw [hfd];rfl,hany⟩
theorem cell_no {l:List Vr} {s:Str} (h:∀ v ∈ l,¬ v.name=s):cellN l s=0∧cellX l s=⟨E0,0,0,0⟩∧l.any (fun v=>decide (v.name=s))=false:=by
 have hany:l.any (fun v=>decide (v.name=s))=false:=by
  rw [List.any_eq_false];intro v hv;simpa using h v hv
 refine ⟨by unfold cellN;rw [hany];rfl,?_,hany⟩
 unfold cellX
 rw [List.find?_eq_none.2 (fun v hv=>by simpa using h v hv)]
 rfl
theorem knV_cell (l:List Vr) (s:Str):knV l s=if l.any (fun v=>decide (v.name=s))=true then (if 0 < (cellX l s).size then 2 else 1) else 0:=by
 unfold knV cellX
 cases hf:l.find? (fun v=>decide (v.name=s)) with
 | none =>
  have:l.any (fun v=>decide (v.name=s))=false:=by
   rw [List.any_eq_false];intro v hv;exact List.find?_eq_none.1 hf v hv
  rw [this];rfl
 | some v =>
  have:l.any (fun v=>decide (v.name=s))=true:=by
   rw [List.any_eq_true];exact ⟨v,List.mem_of_find?_eq_some hf,List.find?_some (p:=fun v:Vr=>decide (v.name=s)) hf⟩
  rw [if_pos this];rfl
theorem no_next {l:List Vr} {j:Nat} {s:Str} (h:∀ v ∈ l.take j,¬ v.name=s) (hj:j < l.length) (hq:¬ l[j].name=s):∀ v ∈ l.take (j+1),¬ v.name=s:=by
 intro v hv
 rw [List.take_add_one,List.getElem?_eq_getElem hj] at hv
 simp only [Option.toList_some,List.mem_append,List.mem_singleton] at hv
 rcases hv with hv | rfl
 ·exact h v hv
 ·exact hq
set_option maxRecDepth 100000 in
theorem scells_any (c:Pc) (p:Pr) (N:Nat) (w:World) (_hN:N≤w.heap.size) (h:PAt w N c p):Calls Tryz.prog 44 #[.agg c.cells] w fun e w'=>e=.returned (.int .i64 (cells p.vars))∧Ext w w':=by
 obtain ⟨cn,cse,cst,⟨A,n,cc⟩,cs,ct,cpa,cpl,csi,cq,cpy⟩:=c
 have hx0:=(Kept.refl (fun _=>False) w).alloc (.cells (Pc.cells ⟨cn,cse,cst,⟨A,n,cc⟩,cs,ct,cpa,cpl,csi,cq,cpy⟩) 57)
 obtain ⟨hn,hf,hok,b,off,hA,hE⟩:=h.vars.ext hx0
 have hm:=hf.max (by omega)
 have HN:=zhd hn
 have HA:=zhd hA
 have HE:=zhd hE
 have HX0:=zhd hx0
 clear hn hA hE hok hf h
 go_enter Tryz.func44,Tryz.ntmps44
 go_wp2_with fail
 go_loopw [3,9] (fun t3 t9 wr=>∃ (j:Nat),j≤n∧t9=.int .i64 j∧t3=.int .i64 (w64 (cells (p.vars.take j)))∧Ext (w.alloc (.cells (Pc.cells ⟨cn,cse,cst,⟨A,n,cc⟩,cs,ct,cpa,cpl,csi,cq,cpy⟩) 57)) wr) (fun _ t9 _=>n - (intOf t9).toNat)
 case atStart=>exact ⟨0,Nat.zero_le _,rfl,by simp [cells,w64_def],Kept.refl _ _⟩
 case round =>
  obtain ⟨j,hj,rfl,rfl,hx⟩:=hrel
  have HX:=zhd hx
  clear hx
  by_cases hlt:j < n
  ·have hjl:j < p.vars.length:=by have:=HN.out;omega
   have hltI:(j:Int) < n:=by omega
   obtain rfl:=HA.out (by omega)
   have hrow:=(HE.out (by omega)).2.ext HX.out
   obtain ⟨hh',hg'⟩:=vr_at hrow j hjl
   have hbw:=hrow.lt
   obtain ⟨x,hxe⟩:∃ x,x=p.vars[j]:=⟨_,rfl⟩
   rw [← hxe] at hg'
   have HXE:=zhd hxe
   clear hrow hxe
   have y0:Ext wr _:=(Kept.refl (fun _=>False) wr).alloc (.cells (vcells x) 109)
   go_wp2_with fail
   refine (size_any x _).mono ?_
   rintro e w1 ⟨rfl,hx1⟩
   go_wp2_with fail
   go_roundw
   case rel=>exact ⟨j+1,hlt,by go_num,by rw [cells_take hjl,← HXE.out];simp only [w64_w64],HX.out.trans (y0.trans hx1)⟩
   case measure=>simp only [intOf];omega
  ·obtain rfl:j=n:=by omega
   go_wp2_with fail
   go_ret
   refine ⟨ret_int ?_,HX0.out.trans HX.out⟩
   rw [HN.out,List.take_length,w64_cells (by have:=HN.out;omega)]
open Go.RowKit So
theorem ret_ici {P:Program} {fn:Func} {R:Ending→World→Prop} {a:Act} {w:World} {i p k:Tmp} {ty t:TypeId} {g:Nat} {cs:Array Value}
 (hres:fn.results=#[.tmp i,.cell p ty,.tmp k]) (hd:a.defers=[]) (hp:a.tmps.getD p undef=.pointer (some ⟨g,0,none⟩)) (ha:aggT P ty=true) (hs:sizeT P ty=some cs.size) (hb:Blk w g t cs)
 (hR:R (.returned (.tuple #[a.tmps.getD i undef,.agg cs,a.tmps.getD k undef])) w):bodyPost P fn R .ret a w:=by
 exact zz83
abbrev cellRes (l:List Vr) (s:Str):Ending:=.returned (.tuple #[.int .i64 (cellN l s),.agg (vcells (cellX l s)),.bool (l.any (fun v=>decide (v.name=s)))])
set_option maxRecDepth 100000 in
theorem scell_any (c:Pc) (p:Pr) (s:Str) (N:Nat) (w:World) (_hN:N≤w.heap.size) (h:PAt w N c p):Calls Tryz.prog 84 #[.agg c.cells,.string s] w fun e w'=>e=cellRes p.vars s∧Ext w w':=by
 obtain ⟨cn,cse,cst,⟨A,n,cc⟩,cs,ct,cpa,cpl,csi,cq,cpy⟩:=c
 have hx0:=((Kept.refl (fun _=>False) w).alloc (.cells (Pc.cells ⟨cn,cse,cst,⟨A,n,cc⟩,cs,ct,cpa,cpl,csi,cq,cpy⟩) 57)).alloc (.cells #[.string ⟨#[]⟩,.int .i64 0,.int .i64 0,.int .i64 0] 109)
 have hR:=Blk.new' (w.alloc (.cells (Pc.cells ⟨cn,cse,cst,⟨A,n,cc⟩,cs,ct,cpa,cpl,csi,cq,cpy⟩) 57)) 109 #[.string ⟨#[]⟩,.int .i64 0,.int .i64 0,.int .i64 0] (w.heap.size+1) (by simp)
 obtain ⟨hn,hf,hok,b,off,hA,hE⟩:=h.vars.ext hx0
 have hm:=hf.max (by omega)
 have HN:=zhd hn
 have HA:=zhd hA
 have HE:=zhd hE
 clear hn hA hE hok hf h
 go_enter Tryz.func84,Tryz.ntmps84
 go_upto_region 3 with (fail)
 have HRW:=zhd (show w.heap.size≤w.heap.size+1 by omega)
 generalize hW:((w.alloc (.cells (Pc.cells ⟨cn,cse,cst,⟨A,n,cc⟩,cs,ct,cpa,cpl,csi,cq,cpy⟩) 57)).alloc (.cells #[.string ⟨#[]⟩,.int .i64 0,.int .i64 0,.int .i64 0] 109))=W at hx0 hR HE ⊢
 clear hW
 have hD:=zhd hR
 have HX0:=zhd hx0
 clear hR hx0
 go_loopw [7,13] (fun t7 t13 wr=>∃ (j:Nat),j≤n∧t13=.int .i64 j∧t7=.int .i64 (w64 (cells (p.vars.take j)))∧(∀ v ∈ p.vars.take j,¬ v.name=s)∧Ext W wr) (fun _ t13 _=>n - (intOf t13).toNat)
 case atStart=>exact ⟨0,Nat.zero_le _,rfl,by simp [cells,w64_def],by simp,Kept.refl _ _⟩
 case round =>
  obtain ⟨j,hj,rfl,rfl,hno,hx⟩:=hrel
  have HX:=zhd hx
  have HNO:=zhd hno
  have hDr:=Blk.ext hD.out hx
  have hmr:=hDr.melts
  have hhr:=Blk.has hDr
  have hlr:=hDr.lt
  clear hx hno
  by_cases hlt:j < n
  ·have hjl:j < p.vars.length:=by have:=HN.out;omega
   have hltI:(j:Int) < n:=by omega
   obtain rfl:=HA.out (by omega)
   have hrow:=(HE.out (by omega)).2.ext HX.out
   obtain ⟨hh',hg'⟩:=vr_at hrow j hjl
   have hbw:=hrow.lt
   obtain ⟨x,hxe⟩:∃ x,x=p.vars[j]:=⟨_,rfl⟩
   rw [← hxe] at hg'
   have HXE:=zhd hxe
   clear hrow hxe
   by_cases hq:x.name=s
   ·have hb:=str_same hq
    have HQ:=zhd (cell_at HNO.out hjl (by rw [← HXE.out];exact hq))
    clear hq
    go_upto_region 6 with (fail)
    have y0:Ext wr _:=(Kept.refl (fun _=>False) wr).alloc (.cells (vcells x) 109)
    have hV:=Blk.new wr 109 (vcells x)
    have hne:¬ wr.heap.size=w.heap.size+1:=by omega
    generalize hW2:(wr.alloc (.cells (vcells x) 109))=W2 at y0 hV ⊢
    clear hW2 hmr hhr hlr hDr hh' hg'
    obtain ⟨rb,hrb⟩:∃ rb,rb=w.heap.size+1:=⟨_,rfl⟩
    generalize wr.heap.size=vb at hV hne ⊢
    have hV2:=zhd hV
    have HRB:=zhd hrb
    rw [← hrb] at hne ⊢
    have HNE:=zhd hne
    have HY:=zhd (HX.out.trans y0)
    have hDy:=Blk.ext hD.out HY.out
    rw [← hrb] at hDy
    have HDY:=zhd hDy
    clear hV hrb hne y0 hDy
    refine qr3 (fun w1=>Kept (·=rb) W2 w1) [(0,2),(1,1),(2,2),(3,0),(4,2)] ?_;refine qrl ?_
    have HY0:=zhd (show Ext W2 W2.drew from (Kept.refl _ W2).drew)
    (repeat (first | refine qs3 ?_ | ((apply w3_take);(· exact (Kept.ext HY0.out));(· go_simp);(· (intro w1 hS;have d0:=Blk.kept hV2.out hS HNE.out;have d1:=Blk.gets d0;have d2:=Blk.has d0;have d3:=d0.lt; go_simp;try with_reducible rfl));refine qnx ?_) | ((apply w3_pass);(· exact (Kept.ext HY0.out));(· go_simp);refine qnx ?_)))
    have hm2:=(Blk.ext HDY.out HY0.out).melts
    have hh2:=Blk.has (Blk.ext HDY.out HY0.out)
    (refine w3_act (fun K hK=>?_);go_simp)
    refine hK.out _ _ (fun _=>Kept.putAt (Kept.ext HY0.out) _ _ _ (fun _=>rfl)) ?_
    clear hK K
    refine qf3 ?_
    go_wp2_with fail
    refine ret_ici Tryz.results84 rfl rfl aggVarS (by exact sizeVarS) (Blk.put_ (Blk.ext HDY.out HY0.out) _ _) ⟨?_,?_⟩
    ·obtain ⟨q1,q2,q3⟩:=HQ.out
     unfold cellRes
     rw [q1,q2,q3,← HXE.out,w64_cells (by rw [List.length_take];omega)]
     simp [splice]
    ·exact ((HX0.out.trans HY.out).trans HY0.out).putAt _ _ _ (fun hlt=>absurd hlt (by have:=HRB.out;omega))
   ·have hb:=str_other hq
    have HQ:=zhd (no_next HNO.out hjl (by rw [← HXE.out];exact hq))
    clear hq
    have y0:Ext wr _:=(Kept.refl (fun _=>False) wr).alloc (.cells (vcells x) 109)
    go_wp2_with fail
    refine (size_any x _).mono ?_
    rintro e w1 ⟨rfl,hx1⟩
    go_wp2_with fail
    go_roundw
    case rel=>exact ⟨j+1,hlt,by go_num,by rw [cells_take hjl,← HXE.out];simp only [w64_w64],HQ.out,HX.out.trans (y0.trans hx1)⟩
    case measure=>simp only [intOf];omega
  ·obtain rfl:j=n:=by omega
   go_wp2_with fail
   refine ret_ici Tryz.results84 rfl rfl aggVarS (by exact sizeVarS) (Blk.put_ hDr _ _) ⟨?_,?_⟩
   ·obtain ⟨q1,q2,q3⟩:=cell_no (l:=p.vars) (s:=s) (by have h:=HNO.out;rw [HN.out,List.take_length] at h;exact h)
    unfold cellRes
    rw [q1,q2,q3]
    simp [splice,E0]
   ·exact (HX0.out.trans HX.out).putAt _ _ _ (fun hlt=>absurd hlt (by omega))
set_option maxRecDepth 100000 in
theorem rcell_any (c:Pc) (p:Pr) (s:Str) (N:Nat) (w:World) (hN:N≤w.heap.size) (h:PAt w N c p):Calls Tryz.prog 118 #[.agg c.cells,.string s] w fun e w'=>e=cellRes p.vars s∧Ext w w':=by
 obtain ⟨cn,cse,cst,⟨A,n,cc⟩,cs,ct,cpa,cpl,csi,cq,cpy⟩:=c
 have hx0:=((Kept.refl (fun _=>False) w).alloc (.cells (Pc.cells ⟨cn,cse,cst,⟨A,n,cc⟩,cs,ct,cpa,cpl,csi,cq,cpy⟩) 26)).alloc (.cells #[.string ⟨#[]⟩,.int .i64 0,.int .i64 0,.int .i64 0] 66)
 have hR:=Blk.new' (w.alloc (.cells (Pc.cells ⟨cn,cse,cst,⟨A,n,cc⟩,cs,ct,cpa,cpl,csi,cq,cpy⟩) 26)) 66 #[.string ⟨#[]⟩,.int .i64 0,.int .i64 0,.int .i64 0] (w.heap.size+1) (by simp)
 have hB:=(Blk.new w 26 (Pc.cells ⟨cn,cse,cst,⟨A,n,cc⟩,cs,ct,cpa,cpl,csi,cq,cpy⟩)).alloc (.cells #[.string ⟨#[]⟩,.int .i64 0,.int .i64 0,.int .i64 0] 66)
 obtain ⟨hn,hf,hok,b,off,hA,hE⟩:=h.vars.ext hx0
 have hm:=hf.max (by omega)
 have HN:=zhd hn
 have HA:=zhd hA
 have HE:=zhd hE
 clear hn hA hE hok hf h
 go_enter Tryz.func118,Tryz.ntmps118
 go_upto_region 3 with (fail)
 obtain ⟨rb,hrb⟩:∃ rb,rb=w.heap.size+1:=⟨_,rfl⟩
 obtain ⟨pb,hpb⟩:∃ pb,pb=w.heap.size:=⟨_,rfl⟩
 rw [← hrb] at hR
 rw [← hpb] at hB
 simp only [← hrb]
 simp only [← hpb]
 have hne:¬ pb=rb:=by omega
 have HRW:=zhd (show w.heap.size≤rb by omega)
 have HBN:=zhd (show 0 < n→¬ b=rb from fun h0=>by have:=(HE.out h0).1;omega)
 generalize hW:((w.alloc (.cells (Pc.cells ⟨cn,cse,cst,⟨A,n,cc⟩,cs,ct,cpa,cpl,csi,cq,cpy⟩) 26)).alloc (.cells #[.string ⟨#[]⟩,.int .i64 0,.int .i64 0,.int .i64 0] 66))=W at hx0 hR HE hB ⊢
 clear hW hrb hpb
 have hD:=zhd hR
 have hC:=zhd hB
 have HX0:=zhd hx0
 have HNE:=zhd hne
 clear hR hx0 hB hne
 go_loopw [7,8] (fun t7 t8 wr=>∃ (j:Nat),j≤n∧t8=.int .i64 j∧t7=.int .i64 (w64 (cells (p.vars.take j)))∧(∀ v ∈ p.vars.take j,¬ v.name=s)∧Ext W wr) (fun _ t8 _=>n - (intOf t8).toNat)
 case atStart=>exact ⟨0,Nat.zero_le _,rfl,by simp [cells,w64_def],by simp,Kept.refl _ _⟩
 case round =>
  obtain ⟨j,hj,rfl,rfl,hno,hx⟩:=hrel
  have HX:=zhd hx
  have HNO:=zhd hno
  have hDr:=Blk.ext hD.out hx
  have hmr:=hDr.melts
  have hhr:=Blk.has hDr
  have hlr:=hDr.lt
  have hcr:=Blk.cell (Blk.ext hC.out hx)
  have hlc:=(Blk.ext hC.out hx).lt
  clear hx hno
  by_cases hlt:j < n
  ·have hjl:j < p.vars.length:=by have:=HN.out;omega
   have hltI:(j:Int) < n:=by omega
   obtain rfl:=HA.out (by omega)
   have hrow:=(HE.out (by omega)).2.ext HX.out
   obtain ⟨hh',hg'⟩:=vr_at hrow j hjl
   have hbw:=hrow.lt
   obtain ⟨x,hxe⟩:∃ x,x=p.vars[j]:=⟨_,rfl⟩
   rw [← hxe] at hg'
   have hc0:=cell_gets0 hh' hg' (by omega)
   have HXE:=zhd hxe
   have HB2:=zhd (HBN.out (by omega))
   clear hrow hxe
   by_cases hq:x.name=s
   ·have hb:=str_same hq
    have HQ:=zhd (cell_at HNO.out hjl (by rw [← HXE.out];exact hq))
    clear hq
    go_upto_region 6 with (fail)
    have HH:=zhd hh'
    have HG:=zhd hg'
    have HCR:=zhd (Blk.ext hC.out HX.out)
    have HDR:=zhd hDr
    clear hh' hg' hmr hhr hlr hcr hlc hc0 hDr
    refine qr3 (fun w1=>Kept (·=rb) wr w1) [(0,2),(1,2),(2,1),(3,2),(4,2),(5,1),(6,2),(7,0),(8,2)] ?_;refine qrl ?_
    have HY0:=zhd (show Ext wr wr.drew from (Kept.refl _ wr).drew)
    (repeat (first | refine qs3 ?_ | ((apply w3_take);(· exact (Kept.ext HY0.out));(· go_simp);(· (intro w1 hS;have d0:=Blk.kept HCR.out hS HNE.out;have d1:=Blk.cell d0;have d3:=d0.lt;have d4:=(has_keep (o:=off+j * 4) (n:=4) hS hbw HB2.out).trans HH.out;have d5:=(gets_keep (o:=off+j * 4) (n:=4) hS hbw HB2.out).trans HG.out;have d6:=Nat.lt_of_lt_of_le hbw hS.size; go_simp;try with_reducible rfl));refine qnx ?_) | ((apply w3_pass);(· exact (Kept.ext HY0.out));(· go_simp);refine qnx ?_)))
    have hm2:=(Blk.ext HDR.out HY0.out).melts
    have hh2:=Blk.has (Blk.ext HDR.out HY0.out)
    (refine w3_act (fun K hK=>?_);go_simp)
    refine hK.out _ _ (fun _=>Kept.putAt (Kept.ext HY0.out) _ _ _ (fun _=>rfl)) ?_
    clear hK K
    refine qf3 ?_
    go_wp2_with fail
    refine ret_ici Tryz.results118 rfl rfl aggVarR (by exact sizeVarR) (Blk.put_ (Blk.ext HDR.out HY0.out) _ _) ⟨?_,?_⟩
    ·obtain ⟨q1,q2,q3⟩:=HQ.out
     unfold cellRes
     rw [q1,q2,q3,← HXE.out,w64_cells (by rw [List.length_take];omega)]
     simp [splice]
    ·exact ((HX0.out.trans HX.out).trans HY0.out).putAt _ _ _ (fun hlt=>absurd hlt (by have:=HRW.out;omega))
   ·have hb:=str_other hq
    have HQ:=zhd (no_next HNO.out hjl (by rw [← HXE.out];exact hq))
    clear hq
    go_wp2_with fail
    refine (cells_any x _).mono ?_
    rintro e w1 ⟨rfl,hx1⟩
    go_wp2_with fail
    go_roundw
    case rel=>exact ⟨j+1,hlt,by go_num,by rw [cells_take hjl,← HXE.out];simp only [w64_w64],HQ.out,HX.out.trans hx1⟩
    case measure=>simp only [intOf];omega
  ·obtain rfl:j=n:=by omega
   go_wp2_with fail
   refine ret_ici Tryz.results118 rfl rfl aggVarR (by exact sizeVarR) (Blk.put_ hDr _ _) ⟨?_,?_⟩
   ·obtain ⟨q1,q2,q3⟩:=cell_no (l:=p.vars) (s:=s) (by have h:=HNO.out;rw [HN.out,List.take_length] at h;exact h)
    unfold cellRes
    rw [q1,q2,q3]
    simp [splice,E0]
   ·exact (HX0.out.trans HX.out).putAt _ _ _ (fun hlt=>absurd hlt (by have:=HRW.out;omega))
open Go.RowKit So
def StrSl (w:World) (N:Nat) (A:Option Addr) (n:Nat) (l:List Str):Prop:=n=l.length∧n≤100∧∃ b off,(0 < n→A=some ⟨b,off,none⟩)∧(0 < n→b < N∧Row w b off (l.map Value.string))
theorem StrSl.kept {S:Nat→Prop} {w w':World} {N:Nat} {A:Option Addr} {n:Nat} {l:List Str} (h:StrSl w N A n l) (hk:Kept S w w') (hs:∀ i,S i→N≤i):StrSl w' N A n l:=by
 obtain ⟨h1,h2,b,off,h4,h5⟩:=h
 exact ⟨h1,h2,b,off,h4,fun h0=>⟨(h5 h0).1,(h5 h0).2.kept hk (fun q=>by have:=hs b q;have:=(h5 h0).1;omega)⟩⟩
theorem StrSl.ext {w w':World} {N:Nat} {A:Option Addr} {n:Nat} {l:List Str} (h:StrSl w N A n l) (hk:Ext w w'):StrSl w' N A n l:=h.kept hk (fun _ f=>f.elim)
theorem StrSl.mono {w:World} {N N':Nat} {A:Option Addr} {n:Nat} {l:List Str} (h:StrSl w N A n l) (hN:N≤N'):StrSl w N' A n l:=by
 obtain ⟨h1,h2,b,off,h4,h5⟩:=h
 exact ⟨h1,h2,b,off,h4,fun h0=>⟨Nat.lt_of_lt_of_le (h5 h0).1 hN,(h5 h0).2⟩⟩
theorem str_at {w:World} {b off:Nat} {l:List Str} (h:Row w b off (l.map Value.string)) (j:Nat) (hj:j < l.length):w.cell? ⟨b,off+j,none⟩=some (.string l[j]):=by
 rw [h.cell j (by simpa using hj)]
 simp [hj]
abbrev knCells (c:Pc) (A:Option Addr) (n k:Nat):Array Value:=#[.string c.name,.int .i64 c.seats,c.stakes.v,c.vars.v,c.start.v,c.turn.v,c.params.v,c.play.v,.string c.silent,c.quiet.v,c.pays.v,.slice A n k]
theorem updAll_nil (κ:Kn):updAll κ []=κ:=by funext t;simp [updAll]
set_option maxRecDepth 100000 in
theorem sort_any (c:Pc) (p:Pr) (A:Option Addr) (n k:Nat) (l:List Str) (s:Str) (N:Nat) (w:World) (hN:N≤w.heap.size) (h:PAt w N c p) (hl:StrSl w N A n l):Calls Tryz.prog 169 #[.agg (knCells c A n k),.string s] w fun e w'=>e=.returned (.int .i64 (updAll (knV p.vars) l s))∧Ext w w':=by
 obtain ⟨r,hr⟩:∃ r,r=updAll (knV p.vars) l s:=⟨_,rfl⟩
 rw [← hr]
 have HR0:=zhd hr
 clear hr
 have hx0:=(Kept.refl (fun _=>False) w).alloc (.cells (knCells c A n k) 120)
 have hB:=Blk.new w 120 (knCells c A n k)
 have HP:=zhd (h.ext hx0 hN)
 obtain ⟨hn,hm,b,off,hA,hE⟩:=hl.ext hx0
 have HN:=zhd hn
 have HA:=zhd hA
 have HE:=zhd hE
 have hNa:=zhd (Nat.le_trans hN hx0.size)
 clear hn hA hE h hl
 go_enter Tryz.func169,Tryz.ntmps169
 go_upto_region 1 with (fail)
 generalize hW:(w.alloc (.cells (knCells c A n k) 120))=W at hx0 hB HE HP hNa ⊢
 clear hW
 have HX0:=zhd hx0
 generalize w.heap.size=pb at hB ⊢
 have hC:=zhd hB
 clear hB hx0
 go_wp2_with fail
 go_loopw [5] (fun t5 wr=>∃ (j:Nat),j≤n∧t5=.int .i64 j∧(∀ v ∈ l.take j,¬ v=s)∧W=wr) (fun t5 _=>n - (intOf t5).toNat)
 case atStart=>exact ⟨0,Nat.zero_le _,rfl,by simp,rfl⟩
 case round =>
  obtain ⟨j,hj,rfl,hno,hw⟩:=hrel
  subst hw
  have HNO:=zhd hno
  clear hno
  have hcr:=Blk.cell hC.out
  have hlr:=hC.out.lt
  by_cases hlt:j < n
  ·have hjl:j < l.length:=by have:=HN.out;omega
   have hltI:(j:Int) < n:=by omega
   obtain rfl:=HA.out (by omega)
   have hrow:=(HE.out (by omega)).2
   have hc:=str_at hrow j hjl
   have hbw:=hrow.lt
   obtain ⟨x,hxe⟩:∃ x,x=l[j]:=⟨_,rfl⟩
   rw [← hxe] at hc
   have HX:=zhd hxe
   clear hrow hxe
   by_cases hq:x=s
   ·have hb:=str_same hq
    have HQ:=zhd hq
    clear hq
    go_wp2_with fail
    go_ret
    refine ⟨ret_int ?_,HX0.out⟩
    have:l.any (fun t=>decide (t=s))=true:=by
     rw [List.any_eq_true]
     exact ⟨x,by rw [HX.out];exact List.getElem_mem hjl,decide_eq_true HQ.out⟩
    rw [HR0.out]
    unfold updAll
    rw [if_pos this]
    rfl
   ·have hb:=str_other hq
    exact zz46
  ·obtain rfl:j=n:=by omega
   have hno:l.any (fun t=>decide (t=s))=false:=by
    rw [List.any_eq_false]
    intro v hv
    have:=HNO.out v (by rw [HN.out,List.take_length];exact hv)
    simpa using this
   have hrr:r=if p.vars.any (fun v=>decide (v.name=s))=true then (if 0 < (cellX p.vars s).size then 2 else 1) else 0:=by
    rw [HR0.out,← knV_cell]
    unfold updAll
    rw [if_neg (by rw [hno];exact Bool.false_ne_true)]
   have HR:=zhd hrr
   clear hno hrr
   have hgr:=Blk.gets hC.out
   have hhr:=Blk.has hC.out
   go_wp2_with fail
   refine (rcell_any c p s N _ hNa.out HP.out).mono ?_
   rintro e w1 ⟨rfl,hx1⟩
   cases hq:p.vars.any (fun v=>decide (v.name=s))
   ·go_wp2_with fail
    go_ret
    refine ⟨ret_int ?_,?_⟩
    ·have h:=HR.out;rw [hq] at h;rw [h];rfl
    ·exact (HX0.out.trans hx1).alloc _
   ·by_cases hz:0 < (cellX p.vars s).size
    ·go_wp2_with fail
     go_ret
     refine ⟨ret_int ?_,?_⟩
     ·have h:=HR.out;rw [hq,if_pos rfl,if_pos (by omega)] at h;rw [h];rfl
     ·exact (HX0.out.trans hx1).alloc _
    ·go_wp2_with fail
     go_ret
     refine ⟨ret_int ?_,?_⟩
     ·have h:=HR.out;rw [hq,if_pos rfl,if_neg (by omega)] at h;rw [h];rfl
     ·exact (HX0.out.trans hx1).alloc _
end Go.Proofs.YtbfbabbcdochjaaGreatDoor
