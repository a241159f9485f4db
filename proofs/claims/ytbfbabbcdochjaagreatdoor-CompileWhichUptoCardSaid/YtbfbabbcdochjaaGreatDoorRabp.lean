/- Several texts joined: Jq. -/
import Derived.Lib.SlBuf
import Derived.Test.YtbfbabbcdochjaaGreatDoorRapk
import Derived.Test.YtbfbabbcdochjaaGreatDoorRabo
set_option maxHeartbeats 4000000
namespace Go.Proofs.YtbfbabbcdochjaaGreatDoor
open Go.RowKit So Mc
theorem mems_app (a b:List Int):mems (a ++ b)=mems a ++ mems b:=by simp [mems]
theorem i32cells:(Tryz.prog.info? 21).map (·.size)=some 1:=by kernel_rfl
theorem copyM (w:World) (g o dLen dCap:Nat) (cur:List Int) (hb:Blk w g 21 (mems cur).toArray) (N:Nat) (s:Sl3) (l:List Int) (hm:M32 w N s l) (hfit:o+l.length≤cur.length) (hd:l.length≤dLen) :
 ∃ w',(∀ ty,(Builtin.copy_ #[27,27] ty #[.slice (some ⟨g,o,none⟩) dLen dCap,s.v]).run Tryz.prog w=.ok (goInt l.length) w')∧Blk w' g 21 (mems (cur.take o ++ l ++ cur.drop (o+l.length))).toArray∧Kept (·=g) w w':=by
 obtain ⟨h1,h2,b,off,h3,h4⟩:=hm
 obtain ⟨A,n,c⟩:=s
 simp only at h1 h3 h4
 by_cases h0:0 < n
 ·obtain ⟨-,hr⟩:=h4 h0
  rw [h3 h0]
  refine ⟨putAt w g o (mems l).toArray,fun ty=>?_,?_,Kept.putAt (Kept.refl _ _) _ _ _ (fun _=>rfl)⟩
  ·have hlen:(mems l).length=Nat.min n dLen:=by rw [mems_len];show l.length=min n dLen;omega
   have h:=run_copy_row Tryz.prog w 27 27 ty 21 g o dLen dCap ⟨b,off,none⟩ n c (mems cur).toArray 21 (mems l) Tryz.underlying27 i32cells hb hlen (fun j v hv=>by
    have hj:j < l.length:=by
     have:=(List.getElem?_eq_some_iff.1 hv).1
     rwa [mems_len] at this
    have hq:=hr.mem j hj
    have e:(⟨b,off,none⟩:Addr).add j=⟨b,off+j,none⟩:=by unfold Addr.add;split <;> simp_all
    rw [e,hq,← hv]
    simp [mems,hj]) (by simpa [mems_len] using hfit) (flatL_all (mems_flatL l))
   rw [mems_len] at h
   show (Builtin.copy_ #[27,27] ty #[.slice (some ⟨g,o,none⟩) dLen dCap,.slice (some ⟨b,off,none⟩) n c]).run Tryz.prog w=_
   rw [h,putAt_eq_setRow hb]
   simp [splice,mems_len]
  ·have hp:=Blk.put_ hb o (mems l).toArray
   have e:splice (mems cur).toArray o (mems l).toArray=(mems (cur.take o ++ l ++ cur.drop (o+l.length))).toArray:=by
    simp [splice,mems,List.map_take,List.map_drop]
   rw [e] at hp
   exact hp
 ·have hl0:l=[]:=List.length_eq_zero_iff.1 (by omega)
  subst hl0
  have hn:n=0:=by omega
  subst hn
  refine ⟨w,fun ty=>?_,?_,Kept.refl _ _⟩
  ·exact run_copy_none (P:=Tryz.prog) w 27 27 ty 21 _ _ _ _ _ _ Tryz.underlying27 i32cells (by show min 0 dLen=0;omega)
  ·have e:cur.take o ++ [] ++ cur.drop (o+([]:List Int).length)=cur:=by simp
   rw [e]
   exact hb
theorem slice32 (W:World) (g n l:Nat) (h:l < n):(Instr.slice 27 (.slice (some ⟨g,0,none⟩) n n) (some (.int .i64 (l:Int))) none none).run Tryz.prog W=.ok (.slice (some ⟨g,l,none⟩) (n - l) (n - l)) W:=by
 rw [Lib.run_slice_tailV W 27 21 Tryz.underlying27 (fun w=>sizeOf_run (by kernel_rfl) w) g n l (by omega)]
 unfold Lib.tailV
 rw [if_neg (by omega)]
def mem0 (p:Pr) (part:Int) (V Ar:List Int):List Int:=(if part=0 then firsts p.vars else V) ++ (Ar ++ List.replicate (49 - Ar.length) 0)
def memN (p:Pr):Nat:=(cells p.vars+49).toNat
inductive StateOut (p:Pr) (part:Int) (V Ar:List Int) (w w':World):Ending→Prop
 | bad (h:¬ fitsN p part V Ar=0):StateOut p part V Ar w w' (.returned (.tuple #[.agg (stCells 0 none 0 0 0),.int .i64 (fitsN p part V Ar)]))
 | ok (h:fitsN p part V Ar=0) (g:Nat) (hg:w.heap.size≤g) (hb:Blk w' g 21 (mems (mem0 p part V Ar)).toArray) :
  StateOut p part V Ar w w' (.returned (.tuple #[.agg (stCells 0 (some ⟨g,0,none⟩) (memN p) (memN p) 0),.int .i64 0]))
theorem StateOut.bad' {p:Pr} {part:Int} {V Ar:List Int} {w w':World} {F:Int} (e:F=fitsN p part V Ar) (h:¬ F=0):StateOut p part V Ar w w' (.returned (.tuple #[.agg (stCells 0 none 0 0 0),.int .i64 F])):=by
 subst e
 exact .bad h
theorem firsts_ok {p:Pr} (h:Chk p):∀ x ∈ firsts p.vars,i32ok x:=by
 have hv:=chkVars_mem p.vars [] h.vars
 generalize p.vars=l at hv
 induction l with
 | nil=>intro x hx;simp [firsts] at hx
 | cons v r ih =>
  intro x hx
  rw [firsts,List.mem_append,List.mem_replicate] at hx
  rcases hx with ⟨-,e⟩ | hx
  ·have:=hv v (List.mem_cons_self ..)
   subst e
   unfold i32ok at *
   omega
  ·exact ih (fun u hu=>hv u (List.mem_cons_of_mem _ hu)) x hx
theorem fitsN_zero {p:Pr} {part:Int} {V Ar:List Int} (h:fitsN p part V Ar=0):0≤part∧part≤4∧(V.length:Int)=wantN p part∧Ar.length=giveN p part∧(part=2→badA p.params Ar=false):=by
 unfold fitsN at h
 split at h
 ·omega
 ·split at h
  ·omega
  ·rename_i h1 h2
   refine ⟨by omega,by omega,Classical.byContradiction fun q=>h2 (Or.inl q),Classical.byContradiction fun q=>h2 (Or.inr q),fun e=>?_⟩
   split at h
   ·omega
   ·rename_i h3
    cases hb:badA p.params Ar with
    | false=>rfl
    | true=>exact absurd ⟨e,hb⟩ h3
set_option maxRecDepth 100000 in
theorem cstate_any (cb N:Nat) (k:Cd) (p:Pr) (part:Int) (vs ag:Sl3) (V Ar:List Int) (w:World) (hN:N≤w.heap.size) (hC:CodeAt w N cb k p) (hv:M32 w N vs V) (ha:M32 w N ag Ar) (hk:Chk p) :
 Calls Tryz.prog 19 #[.pointer (some ⟨cb,0,none⟩),.int .i64 part,vs.v,ag.v] w fun e w'=>Ext w w'∧StateOut p part V Ar w w' e:=by
 have HC:=zhd hC
 have HV:=zhd hv
 have HA:=zhd ha
 have HN:=zhd hN
 have HK:=zhd hk
 have hfit:=fun w' (y:Ext w w')=>cfits_any cb N k p part vs ag V Ar w' (Nat.le_trans hN y.size) (hC.ext y) (hv.ext y) (ha.ext y) hk.np
 obtain ⟨F,hF⟩:∃ F,F=fitsN p part V Ar:=⟨_,rfl⟩
 rw [← hF] at hfit
 have HF:=zhd hF
 clear hC hv ha hN hF hk
 have y0:=(Kept.refl (fun _=>False) w).alloc (.cells #[.int .i64 0,.slice none 0 0,.int .i64 0] 49)
 have b0:=Blk.new w 49 #[.int .i64 0,.slice none 0 0,.int .i64 0]
 go_enter Tryz.func19,Tryz.ntmps19
 go_upto_region 1 with (fail)
 generalize (w.alloc (.cells #[.int .i64 0,.slice none 0 0,.int .i64 0] 49))=W1 at y0 b0 ⊢
 generalize hrb:(w:World).heap.size=rb at b0 ⊢
 have HRB:=zhd hrb
 have HB0:=zhd b0
 have HY0:=zhd y0
 clear b0 y0 hrb
 go_wp2_with fail
 refine (hfit _ HY0.out).mono ?_
 rintro e w2 ⟨rfl,y2⟩
 clear hfit
 have HY2:=zhd y2
 have HB2:=zhd (Blk.ext HB0.out y2)
 clear y2
 by_cases h0:F=0
 rotate_left
 ·have hne:(F != 0)=true:=bne_iff_ne.2 h0
  have HF0:=zhd h0
  clear h0
  have l1:=Blk.has HB2.out
  have l2:=Blk.melts HB2.out
  have l3:=HB2.out.lt
  go_wp2_with fail
  have kp:Kept (·=rb) w2 (putAt w2 rb 0 #[.int .i64 0,.slice none 0 0,.int .i64 0]):=Kept.putAt (Kept.refl _ _) _ 0 _ (fun _=>rfl)
  refine ret_ci (t:=49) (g:=rb) (cs:=stCells 0 none 0 0 0) Tryz.results19 rfl rfl aggMst (by exact sizeMst) (by exact Blk.put_ HB2.out 0 _) ⟨?_,.bad' HF.out HF0.out⟩
  exact (HY0.out.trans HY2.out).trans' kp (fun i hi e=>by have:=HRB.out;omega)
 have HF0:=zhd (show fitsN p part V Ar=0 by rw [← HF.out];exact h0)
 rw [h0]
 clear h0
 obtain ⟨hp0,hp4,hVl,hAl,hAb⟩:=fitsN_zero HF0.out
 have HVL:=zhd hVl
 have HAL:=zhd (show Ar.length≤4 by have:=HK.out.np;unfold giveN at hAl;split at hAl;omega;split at hAl <;> omega)
 clear hVl hAl hAb hp0 hp4
 have hcp:=cells_pos p.vars
 have hc64:=HK.out.cells
 have hn:k.cells+49=((memN p:Nat):Int):=by rw [HC.out.kc];unfold memN;omega
 have HMN:=zhd (show (memN p:Int)=cells p.vars+49 by unfold memN;omega)
 have HKC:=zhd HC.out.kc
 have HC64:=zhd (And.intro hcp hc64)
 have hkcb:=HC.out.kc
 clear hcp hc64
 have HNM:=zhd hn
 clear hn hkcb
 have c2:=HC.out.ext (HY0.out.trans HY2.out)
 go_upto_region 4 with (fail)
 have hwords:=cwords_any cb k w2 c2.box (by have:=HC64.out;have:=HKC.out;omega)
 rw [HNM.out] at hwords
 go_wp2_with fail
 refine hwords.mono ?_
 rintro e w3 ⟨rfl,rfl⟩
 clear hwords
 go_wp2_with fail
 refine (mnew_any (memN p) (by have:=HMN.out;have:=HC64.out;omega) (by have:=HMN.out;have:=HC64.out;omega) _).mono ?_
 rintro e w3 ⟨g,rfl,hbg,y3,hgl⟩
 have y4:=(Kept.refl (fun _=>False) w3).alloc (.cells #[.int .i64 0,.slice (some ⟨g,0,none⟩) (memN p) (memN p),.int .i64 0] 49)
 have b4:=Blk.new w3 49 #[.int .i64 0,.slice (some ⟨g,0,none⟩) (memN p) (memN p),.int .i64 0]
 go_upto_region 5 with (fail)
 generalize (w3.alloc (.cells #[.int .i64 0,.slice (some ⟨g,0,none⟩) (memN p) (memN p),.int .i64 0] 49))=w4 at y4 b4 ⊢
 have HGL:=zhd (show g < w3.heap.size from hbg.lt)
 have HBG:=zhd (Blk.ext hbg y4)
 generalize hsb:(w3:World).heap.size=sb at b4 HGL ⊢
 have HY4:=zhd (y3.trans y4)
 have HB4:=zhd (Blk.ext HB2.out (y3.trans y4))
 have HSB:=zhd b4
 have HGE:=zhd (show w.heap.size≤g by have:=HY0.out.size;have:=HY2.out.size;omega)
 have HRL:=zhd (show rb < g by have:=HB2.out.lt;omega)
 clear hbg y3 hgl y4 b4 hsb c2
 have i1:=Blk.cell HSB.out
 have i2:=HSB.out.lt
 by_cases hp0:part=0
 ·have HP0:=zhd hp0
  have hpe:(part == 0)=true:=by simp [hp0]
  clear hp0
  have q1:=Blk.cell (HC.out.ext ((HY0.out.trans HY2.out).trans HY4.out)).box
  have q2:=(HC.out.ext ((HY0.out.trans HY2.out).trans HY4.out)).box.lt
  go_upto_region 9 with (fail)
  clear q1 q2
  have hxl:((firsts p.vars).length:Int)=cells p.vars:=firsts_len p.vars
  have hmx:M32 w4 N k.first (firsts p.vars):=I32S.words (HC.out.ext ((HY0.out.trans HY2.out).trans HY4.out)).first (firsts_ok HK.out)
  obtain ⟨w5,hr5,hb5,hk5⟩:=copyM w4 g 0 (memN p) (memN p) (List.replicate (memN p) 0) HBG.out N k.first (firsts p.vars) hmx (by have:=HMN.out;simp;omega) (by have:=HMN.out;omega)
  have e5:(List.replicate (memN p) (0:Int)).take 0 ++ (firsts p.vars) ++ (List.replicate (memN p) 0).drop (0+(firsts p.vars).length)=(firsts p.vars) ++ List.replicate 49 0:=by
   have:=HMN.out
   rw [List.drop_replicate,List.take_zero,List.nil_append,show memN p - (0+(firsts p.vars).length)=49 by omega]
  rw [e5] at hb5
  have HM5:=zhd (show mem0 p part V Ar=(firsts p.vars) ++ (Ar ++ List.replicate (49 - Ar.length) 0) from by unfold mem0;rw [if_pos HP0.out])
  have HXL:=zhd hxl
  have HB5:=zhd hb5
  have HK5:=zhd hk5
  have hgs:¬ sb=g:=by have:=HGL.out;omega
  clear hmx e5 hb5 hk5 hxl
  go_upto_region 9 with (fail)
  go_step
  iterate 3 refine qls ?_
  refine Lib.wpList_copy_run _ rfl _ _ 27 27 rfl _ _ rfl rfl (hr5 _) ?_
  clear hr5 i1 i2
  have HS5:=zhd (Blk.kept HSB.out HK5.out hgs)
  have HC5:=zhd (Blk.kept (HC.out.ext ((HY0.out.trans HY2.out).trans HY4.out)).box HK5.out (by have:=HGE.out;have:=HC.out.lt;have:=HN.out;omega))
  have HA5:=zhd (M32.kept (HA.out.ext ((HY0.out.trans HY2.out).trans HY4.out)) HK5.out (fun i hi e=>by have:=HGE.out;have:=HN.out;omega))
  go_upto_region 10 with (fail)
  refine qr3 (fun wz=>Ext w5 wz) [(0,2),(1,1),(2,2),(3,2),(4,2),(5,1),(6,2),(7,2),(8,2),(9,0)] ?_;refine qrl ?_
  have yd:Ext w5 w5.drew:=(Kept.refl _ w5).drew
  have hkw:IntKind.i64.wrap k.cells=k.cells:=wrap_i64 (by have:=HC64.out;have:=HKC.out;unfold i64ok;omega)
  (repeat (first | refine qs3 ?_ | ((apply w3_take);(· exact yd);(· go_simp);(· (intro w1 hS;have d0:=Blk.ext HS5.out hS;have d1:=Blk.cell d0;have d2:=d0.lt;have e0:=Blk.ext HC5.out hS;have e1:=Blk.cell e0;have e2:=e0.lt; go_simp;try with_reducible rfl));refine qnx ?_) | ((apply w3_pass);(· exact yd);(· go_simp);refine qnx ?_)))
  have hXC:∃ kc:Nat,k.cells=(kc:Int)∧memN p=kc+49∧(firsts p.vars).length=kc:=⟨k.cells.toNat,by have:=HC64.out;have:=HKC.out;omega,by have:=HC64.out;have:=HKC.out;have:=HMN.out;omega,by have:=HXL.out;have:=HC64.out;have:=HKC.out;omega⟩
  obtain ⟨kc,hk1,hk2,hk3⟩:=hXC
  have hsl:=fun W=>slice32 W g (memN p) kc (by omega)
  rw [show memN p - kc=49 by omega,← hk1] at hsl
  have HKS:=zhd (And.intro hk1 (And.intro hk2 hk3))
  clear hk1 hk2 hk3
  (repeat refine qs3 ?_)
  clear hsl
  obtain ⟨hk1,hk2,hk3⟩:=HKS.out
  clear hk1
  obtain ⟨w6,hr6,hb6,hk6⟩:=copyM w5.drew g kc 49 49 ((firsts p.vars) ++ List.replicate 49 0) HB5.out.drew N ag Ar (HA5.out.ext yd) (by have:=HAL.out;simp;omega) (by have:=HAL.out;omega)
  have e6:((firsts p.vars) ++ List.replicate 49 (0:Int)).take kc ++ Ar ++ ((firsts p.vars) ++ List.replicate 49 0).drop (kc+Ar.length)=mem0 p part V Ar:=by
   rw [HM5.out,← hk3,List.take_left,← List.drop_drop,List.drop_left,List.drop_replicate,List.append_assoc]
  exact zz17
 ·have HP0:=zhd hp0
  have hpe:(part == 0)=false:=by simp [hp0]
  clear hp0
  go_upto_region 9 with (fail)
  have hxl:(V.length:Int)=cells p.vars:=by have h:=HVL.out;unfold wantN at h;rw [if_neg HP0.out] at h;exact h
  have hmx:M32 w4 N vs V:=HV.out.ext ((HY0.out.trans HY2.out).trans HY4.out)
  obtain ⟨w5,hr5,hb5,hk5⟩:=copyM w4 g 0 (memN p) (memN p) (List.replicate (memN p) 0) HBG.out N vs V hmx (by have:=HMN.out;simp;omega) (by have:=HMN.out;omega)
  have e5:(List.replicate (memN p) (0:Int)).take 0 ++ V ++ (List.replicate (memN p) 0).drop (0+V.length)=V ++ List.replicate 49 0:=by
   have:=HMN.out
   rw [List.drop_replicate,List.take_zero,List.nil_append,show memN p - (0+V.length)=49 by omega]
  rw [e5] at hb5
  have HM5:=zhd (show mem0 p part V Ar=V ++ (Ar ++ List.replicate (49 - Ar.length) 0) from by unfold mem0;rw [if_neg HP0.out])
  have HXL:=zhd hxl
  have HB5:=zhd hb5
  have HK5:=zhd hk5
  have hgs:¬ sb=g:=by have:=HGL.out;omega
  clear hmx e5 hb5 hk5 hxl
  go_upto_region 9 with (fail)
  go_step
  iterate 3 refine qls ?_
  refine Lib.wpList_copy_run _ rfl _ _ 27 27 rfl _ _ rfl rfl (hr5 _) ?_
  clear hr5 i1 i2
  have HS5:=zhd (Blk.kept HSB.out HK5.out hgs)
  have HC5:=zhd (Blk.kept (HC.out.ext ((HY0.out.trans HY2.out).trans HY4.out)).box HK5.out (by have:=HGE.out;have:=HC.out.lt;have:=HN.out;omega))
  have HA5:=zhd (M32.kept (HA.out.ext ((HY0.out.trans HY2.out).trans HY4.out)) HK5.out (fun i hi e=>by have:=HGE.out;have:=HN.out;omega))
  go_upto_region 10 with (fail)
  refine qr3 (fun wz=>Ext w5 wz) [(0,2),(1,1),(2,2),(3,2),(4,2),(5,1),(6,2),(7,2),(8,2),(9,0)] ?_;refine qrl ?_
  have yd:Ext w5 w5.drew:=(Kept.refl _ w5).drew
  have hkw:IntKind.i64.wrap k.cells=k.cells:=wrap_i64 (by have:=HC64.out;have:=HKC.out;unfold i64ok;omega)
  (repeat (first | refine qs3 ?_ | ((apply w3_take);(· exact yd);(· go_simp);(· (intro w1 hS;have d0:=Blk.ext HS5.out hS;have d1:=Blk.cell d0;have d2:=d0.lt;have e0:=Blk.ext HC5.out hS;have e1:=Blk.cell e0;have e2:=e0.lt; go_simp;try with_reducible rfl));refine qnx ?_) | ((apply w3_pass);(· exact yd);(· go_simp);refine qnx ?_)))
  have hXC:∃ kc:Nat,k.cells=(kc:Int)∧memN p=kc+49∧V.length=kc:=⟨k.cells.toNat,by have:=HC64.out;have:=HKC.out;omega,by have:=HC64.out;have:=HKC.out;have:=HMN.out;omega,by have:=HXL.out;have:=HC64.out;have:=HKC.out;omega⟩
  obtain ⟨kc,hk1,hk2,hk3⟩:=hXC
  have hsl:=fun W=>slice32 W g (memN p) kc (by omega)
  rw [show memN p - kc=49 by omega,← hk1] at hsl
  have HKS:=zhd (And.intro hk1 (And.intro hk2 hk3))
  clear hk1 hk2 hk3
  (repeat refine qs3 ?_)
  clear hsl
  obtain ⟨hk1,hk2,hk3⟩:=HKS.out
  clear hk1
  obtain ⟨w6,hr6,hb6,hk6⟩:=copyM w5.drew g kc 49 49 (V ++ List.replicate 49 0) HB5.out.drew N ag Ar (HA5.out.ext yd) (by have:=HAL.out;simp;omega) (by have:=HAL.out;omega)
  have e6:(V ++ List.replicate 49 (0:Int)).take kc ++ Ar ++ (V ++ List.replicate 49 0).drop (kc+Ar.length)=mem0 p part V Ar:=by
   rw [HM5.out,← hk3,List.take_left,← List.drop_drop,List.drop_left,List.drop_replicate,List.append_assoc]
  exact zz17
end Go.Proofs.YtbfbabbcdochjaaGreatDoor
