/- Several texts joined: Cv, Na, Vs. -/
import Derived.Test.YtbfbabbcdochjaaGreatDoorRxpk
import Derived.Test.YtbfbabbcdochjaaGreatDoorRxbs
import Derived.Test.YtbfbabbcdochjaaGreatDoorRxbt
import Derived.Test.YtbfbabbcdochjaaGreatDoorRxbu
set_option maxHeartbeats 4000000
namespace Go.Proofs.YtbfbabbcdochjaaGreatDoor
open Go.RowKit So Mc
def Rg:List Vr→List Int→Prop
 | [],L=>L=[]
 | v :: r,L=>(So.cellsV v).toNat≤L.length∧(∀ j,j < (So.cellsV v).toNat→v.low≤L.getD j 0∧L.getD j 0≤v.high)∧Rg r (L.drop (So.cellsV v).toNat)
theorem Rg.len:∀ {V:List Vr} {L:List Int},Rg V L→(L.length:Int)=cells V
 | [],L,h=>by
  have h:L=[]:=h
  rw [h];rfl
 | v :: r,L,h=>by
  obtain ⟨h1,-,h2⟩:=h
  have:=h2.len
  have:=vcell_pos v
  rw [List.length_drop] at *
  simp only [cells]
  omega
theorem Rg.firsts:∀ {V:List Vr},(∀ v ∈ V,v.low≤v.high)→Rg V (firsts V)
 | [],_=>rfl
 | v :: r,h=>by
  have hv:=h v zb86
  refine ⟨by simp [Proofs.YtbfbabbcdochjaaGreatDoor.firsts],fun j hj=>?_,?_⟩
  ·have e:(Proofs.YtbfbabbcdochjaaGreatDoor.firsts (v :: r)).getD j 0=min (max 0 v.low) v.high:=by
    show (List.replicate (So.cellsV v).toNat (min (max 0 v.low) v.high) ++ Proofs.YtbfbabbcdochjaaGreatDoor.firsts r).getD j 0=_
    rw [getD_left _ _ _ (by simpa using hj)]
    simp [List.getD,hj]
   rw [e]
   omega
  ·show Rg r ((List.replicate (So.cellsV v).toNat (min (max 0 v.low) v.high) ++ Proofs.YtbfbabbcdochjaaGreatDoor.firsts r).drop (So.cellsV v).toNat)
   rw [List.drop_left' zb86]
   exact Rg.firsts (fun u hu=>h u (by simp [hu]))
theorem Rg.set:∀ {V:List Vr} {L:List Int} {s:Str} {k x:Int},Rg V L→V.any (fun v=>decide (v.name=s))=true→0≤k→k < So.cellsV (cellX V s)→(cellX V s).low≤x→x≤(cellX V s).high→Rg V (L.set (cellN V s+k).toNat x)
 | [],L,s,k,x,_,ha,_,_,_,_=>by simp at ha
 | v :: r,L,s,k,x,h,ha,h0,h1,h2,h3=>by
  obtain ⟨q1,q2,q3⟩:=h
  have hvp:=vcell_pos v
  unfold cellN
  rw [if_pos ha]
  by_cases e:v.name=s
  ·have e1:decide (v.name=s)=true:=decide_eq_true e
   have hx:cellX (v :: r) s=v:=by simp only [cellX,List.find?_cons,e1,Option.getD_some]
   rw [hx] at h1 h2 h3
   simp only [List.takeWhile_cons,e1,Bool.not_true,Bool.false_eq_true,if_false,cells,Int.zero_add]
   refine ⟨by rw [List.length_set];exact q1,fun j hj=>?_,?_⟩
   ·have:=q2 j hj
    by_cases ej:j=k.toNat
    ·subst ej
     have:(L.set k.toNat x).getD k.toNat 0=x:=by simp [List.getD,show k.toNat < L.length by omega]
     rw [this]
     exact ⟨h2,h3⟩
    ·have:(L.set k.toNat x).getD j 0=L.getD j 0:=by simp [List.getD,Ne.symm ej]
     rw [this]
     assumption
   ·rw [List.drop_set,if_pos zb85]
    exact q3
  ·have e1:decide (v.name=s)=false:=decide_eq_false e
   have hr:r.any (fun v=>decide (v.name=s))=true:=by simpa [e] using ha
   have hx:cellX (v :: r) s=cellX r s:=by simp only [cellX,List.find?_cons,e1]
   rw [hx] at h1 h2 h3
   have ih:=Rg.set q3 hr h0 h1 h2 h3
   have hc:cellN r s=cells (r.takeWhile (fun v=>!decide (v.name=s))):=by unfold cellN;rw [if_pos hr]
   rw [hc] at ih
   simp only [List.takeWhile_cons,e1,Bool.not_false,if_true,cells]
   have hcp:=cells_pos (r.takeWhile (fun v=>!decide (v.name=s)))
   generalize cells (r.takeWhile (fun v=>!decide (v.name=s)))=y at ih hcp ⊢
   have e2:(So.cellsV v+y+k).toNat=(So.cellsV v).toNat+(y+k).toNat:=by omega
   rw [e2]
   refine ⟨by rw [List.length_set];exact q1,fun j hj=>?_,?_⟩
   ·have:(L.set ((So.cellsV v).toNat+(y+k).toNat) x).getD j 0=L.getD j 0:=by simp [List.getD,show ¬ (So.cellsV v).toNat+(y+k).toNat=j by omega]
    rw [this]
    exact q2 j hj
   ·rw [List.drop_set,if_neg zb85,Nat.add_sub_cancel_left]
    exact ih
theorem Rg.cell:∀ {V:List Vr} {L:List Int},Rg V L→∀ (j:Nat) (hj:j < V.length) (m:Nat),m < (So.cellsV V[j]).toNat→(cells (V.take j)).toNat+m < L.length∧V[j].low≤L.getD ((cells (V.take j)).toNat+m) 0∧L.getD ((cells (V.take j)).toNat+m) 0≤V[j].high
 | [],_,_,j,hj,_,_=>by simp at hj
 | v :: r,L,h,0,_,m,hm=>by
  obtain ⟨q1,q2,-⟩:=h
  have hm:m < (So.cellsV v).toNat:=hm
  have e:(cells ((v :: r).take 0)).toNat+m=m:=by simp [cells]
  rw [e]
  exact ⟨by omega,q2 m hm⟩
 | v :: r,L,h,j+1,hj,m,hm=>by
  obtain ⟨q1,-,q3⟩:=h
  have hj':j < r.length:=by simpa using hj
  obtain ⟨i1,i2,i3⟩:=Rg.cell q3 j hj' m hm
  have e:(cells ((v :: r).take (j+1))).toNat+m=(So.cellsV v).toNat+((cells (r.take j)).toNat+m):=by
   have:=vcell_pos v
   have:=cells_pos (r.take j)
   simp only [List.take_succ_cons,cells]
   omega
  rw [e]
  have g:L.getD ((So.cellsV v).toNat+((cells (r.take j)).toNat+m)) 0=(L.drop (So.cellsV v).toNat).getD ((cells (r.take j)).toNat+m) 0:=by simp [List.getD]
  rw [List.length_drop] at i1
  rw [g]
  exact ⟨by omega,i2,i3⟩
theorem cells_tk {V:List Vr} {j:Nat} (hj:j < V.length):(cells (V.take (j+1))).toNat=(cells (V.take j)).toNat+(So.cellsV V[j]).toNat:=by
 have h1:=firsts_take hj
 have h2:=congrArg List.length h1
 rw [List.length_append,List.length_replicate] at h2
 have h3:=firsts_len (V.take (j+1))
 have h4:=firsts_len (V.take j)
 omega
theorem cutR_in {n lo hi:Int} (h1:i32ok lo) (h2:i32ok hi) (h:lo≤hi):lo≤cutR n lo hi∧cutR n lo hi≤hi:=by
 unfold cutR
 rw [show w32 (max lo (min n hi))=max lo (min n hi) from wrap32_id (by unfold i32ok at *;omega)]
 omega
theorem ranges_in {p:Pr} (hk:Chk p) (i:Nat) (hi:i < 5) (V Ar:List Int) (hV:i ≠ 0→Rg p.vars V):Rg p.vars (runR p i V Ar).vars:=by
 have hvs:=chkVars_mem p.vars [] hk.vars
 refine doB_inv _ (fun R=>Rg p.vars R.vars) p.vars p.seats (fun kind name e low R hP hR=>?_) (fun R B h=>h) (partOf p i) _ (kall_part hk i hi) ?_
 ·have hfound:kind=0 ∨ kind=1→p.vars.any (fun v=>decide (v.name=name))=true∧VrR (cellX p.vars name)∧((cellX p.vars name).size≤64):=fun q=>by
   rcases knV_cases p.vars name with z | ⟨z,(z1 | z1)⟩
   ·exact absurd z (hP.2.1 q)
   ·exact ⟨z,(kn_one hk z1.1).2.2,by omega⟩
   ·have h2:=(kn_two hk z1.1).2.2.2
    exact ⟨z,h2,(cellX_size (fun v hv=>by have:=hvs v hv;exact ⟨by omega,by omega,this.2.2.1,this.2.2.2.1,this.2.2.2.2⟩) name).2.1⟩
  unfold do0
  split
  ·rename_i e0
   obtain ⟨f1,f2,f3⟩:=hfound (Or.inl e0)
   have:=cutR_in (n:=ev p.vars R e 0) f2.lo f2.hi f2.le
   have h:=Rg.set (k:=0) hR f1 zb85 (by have:=vcell_pos (cellX p.vars name);omega) this.1 this.2
   rw [Int.add_zero] at h
   exact h
  ·split
   ·rename_i e1
    split
    ·rename_i hin
     obtain ⟨f1,f2,f3⟩:=hfound (Or.inr e1)
     have:=cutR_in (n:=ev p.vars R e 1) f2.lo f2.hi f2.le
     exact Rg.set hR f1 hin.1 (by unfold So.cellsV;split <;> omega) this.1 this.2
    ·exact hR
   ·repeat' split
    all_goals exact hR
 ·show Rg p.vars (if i=0 then firsts p.vars else V)
  split
  ·exact Rg.firsts (fun v hv=>by have:=hvs v hv;omega)
  ·rename_i e
   exact hV e
open Go.RowKit So Mc
theorem Rg.ok:∀ {V:List Vr} {L:List Int},Rg V L→(∀ v ∈ V,i32ok v.low∧i32ok v.high)→∀ x ∈ L,i32ok x
 | [],L,h,_,x,hx=>by
  have h:L=[]:=h
  rw [h] at hx;simp at hx
 | v :: r,L,h,hv,x,hx=>by
  obtain ⟨h1,h2,h3⟩:=h
  rw [← List.take_append_drop (So.cellsV v).toNat L] at hx
  rcases List.mem_append.1 hx with q | q
  ·obtain ⟨j,hj,e⟩:=List.mem_iff_getElem.1 q
   rw [List.length_take] at hj
   have a:=h2 j zb85
   have b:=hv v zb86
   rw [List.getElem_take] at e
   have e2:L.getD j 0=x:=by rw [← e];simp [show j < L.length by omega]
   rw [e2] at a
   unfold i32ok at *
   omega
  ·exact Rg.ok h3 (fun u hu=>hv u (by simp [hu])) x q
theorem fitV_self {p:Pr} {i:Nat} (hi:i ≠ 0) {L:List Int} (hl:(L.length:Int)=cells p.vars):fitV p i L=L:=by
 unfold fitV
 rw [if_neg hi]
 have:kcN p=L.length:=by unfold kcN;omega
 rw [this]
 refine List.ext_getElem zb86 (fun j h1 h2=>?_)
 simp [List.getD,h2]
set_option maxRecDepth 100000 in
theorem lranges_any (c:Pc) (p:Pr) (s0 s1:Sl3) (V0 V1:List Int) (N:Nat) (w:World) (hN:N≤w.heap.size) (h:PAt w N c p) (hL:LaidAt w) (hO:OpsAt w) (hcap:Caps c) (hz:psize p≤1099511627776) (hv0:M32 w N s0 V0) (hv1:M32 w N s1 V1) :
 Calls Tryz.prog 6 #[.agg c.cells,.agg #[s0.v,s1.v]] w fun e w'=>e=.returned (.bool true)∧Ext w w':=by
 have hx0:=((kR (fun _=>False) w).alloc (.cells c.cells 26)).alloc (.cells #[s0.v,s1.v] 28)
 have hB:=(bN w 26 c.cells).alloc (.cells #[s0.v,s1.v] 28)
 have hD:=bN (w.alloc (.cells c.cells 26)) 28 #[s0.v,s1.v]
 go_enter Tryz.func6,Tryz.ntmps6
 go_upto_region 1 with (fail)
 refine zy69 ?_;intro HPA HNW
 have HLW:=J (hL.ext hx0)
 have HOW:=J (hO.ext hx0)
 have HV0:=J (hv0.ext hx0)
 have HV1:=J (hv1.ext hx0)
 have HCAP:=J hcap
 have HZ:=J hz
 have HN0:=J hN
 rw [show (w.alloc (.cells c.cells 26)).heap.size=w.heap.size+1 by simp] at hD
 generalize hW:(w.alloc (.cells c.cells 26)).alloc (.cells #[s0.v,s1.v] 28)=W at hx0 hB hD HPA HNW HLW HOW HV0 HV1 ⊢
 have HX0:=J hx0
 have HB:=J hB
 have HD:=J hD
 clear hW hx0 hB hD h hN hL hO hcap hz hv0 hv1
 generalize w.heap.size=pb at HB HD HN0 ⊢
 have i1:=bH HB.out
 have i2:=bG HB.out
 have i3:=HB.out.lt
 go_wp2_with fail
 refine (lbuild_any c p N _ HNW.out HPA.out HLW.out HZ.out).mono ?_
 rintro e w1 ⟨hx1,hb⟩
 have HX1:=J hx1
 clear hx1 i1 i2 i3
 cases hb with
 | no =>
  exact zz83
 | ok hf hc hl hs cb k hk =>
  have HF:=J hf
  have HC:=J hc
  have HNL:=J hl
  have HST:=J hs
  have HK:=J hk
  have HCK:=J (Chk.of hc HZ.out)
  clear hf hc hl hs hk
  refine zy80 ?_;intro i1 i2 i3
  go_wp2_with fail
  refine zy79 ?_;intro w2 hx2 HX2
  have HK2:=J ((HK.out.ext hx2).up hx2.size (Nat.le_refl _))
  clear hx2 i1 i2 i3
  have HF0:=J (show fitsN p (0:Nat) [] []=0 from fit_fits HCK.out (i:=0) zb85 [] [])
  go_wp2_with fail
  refine (crun_full cb w2.heap.size k p 0 zb85 ⟨none,0,0⟩ ⟨none,0,0⟩ [] [] w2 (Nat.le_refl _) HK2.out (m32_nil _ _) (m32_nil _ _) HCK.out HNL.out HST.out (HOW.out.ext HX2.out) HF0.out).mono ?_
  rintro e w3 ⟨hx3,v,rfl,hv3⟩
  have hq3:ouR 0 (runR p 0 [] [])=⟨(runR p 0 [] []).vars,false,0,0,0,[],0⟩:=by unfold ouR;rw [no_refuse HCK.out 0 zb85 zb85];rfl
  rw [hq3] at hv3
  obtain ⟨⟨A,n,cp⟩,vr,vse,vce,vsi,vas,vre⟩:=v
  have hmr:=chkVars_mem p.vars [] HCK.out.vars
  have HOKV:=J (show ∀ v ∈ p.vars,i32ok v.low∧i32ok v.high from fun v hv=>⟨(hmr v hv).2.2.1,(hmr v hv).2.2.2.1⟩)
  have HRG:=J (ranges_in HCK.out 0 zb85 [] [] (fun h=>absurd rfl h))
  generalize (runR p 0 [] []).vars=L at hv3 HRG
  have hown:=hv3.vars
  have y4:=(kR (fun _=>False) w3).alloc (.cells (OutV.c ⟨⟨A,n,cp⟩,vr,vse,vce,vsi,vas,vre⟩) 38)
  have b4:=bN w3 38 (OutV.c ⟨⟨A,n,cp⟩,vr,vse,vce,vsi,vas,vre⟩)
  have HML:=J ((M32.of_own (s:=⟨A,n,cp⟩) (own_ext hown y4) (HRG.out.ok HOKV.out)))
  have HX4:=J ((HX2.out.trans hx3).trans y4)
  have HK4:=J ((HK2.out.ext (hx3.trans y4)).up (hx3.trans y4).size (Nat.le_refl _))
  go_upto_region 5 with (fail)
  clear hx3 hq3 hv3 hown hmr
  generalize (w3.alloc (.cells (OutV.c ⟨⟨A,n,cp⟩,vr,vse,vce,vsi,vas,vre⟩) 38))=w4 at y4 b4 HML HX4 HK4 ⊢
  have i1:=bC b4
  have i2:=b4.lt
  clear y4 b4
  go_wp2_with fail
  clear i1 i2
  generalize hW4:w4=W4 at HML HX4 HK4 ⊢
  clear hW4
  go_loopw [9,10] (fun t9 t10 wr=>∃ (k:Nat) (A:Option Addr) (n cp:Nat) (L:List Int),k≤4∧t10=.int .i64 k∧t9=.slice A n cp∧M32 wr wr.heap.size ⟨A,n,cp⟩ L∧Rg p.vars L∧Ext W4 wr) (fun _ t10 _=>4 - (intOf t10).toNat)
  case atStart=>exact ⟨0,A,n,cp,L,by omega,rfl,rfl,HML.out,HRG.out,kR _ _⟩
  case round =>
   clear HML HRG
   obtain ⟨j,A,n,cp,L,hj,rfl,rfl,hml,hrg,hkj⟩:=hrel
   have HML:=J hml
   have HRG:=J hrg
   have HKJ:=J hkj
   clear hml hrg hkj
   by_cases hlt:j < 4
   ·have hltI:(j:Int) < 4:=by omega
    obtain ⟨q,i,hq,hi,hiq⟩:∃ q i:Nat,(j:Int) % 2=(q:Nat)∧(2:Int)+(q:Nat)=(i:Nat)∧(q=0∧i=2 ∨ q=1∧i=3):=⟨j % 2,2+j % 2,by omega,by omega,by omega⟩
    have hqt:(j:Int).tmod 2=(q:Nat):=by rw [Int.tmod_eq_emod_of_nonneg zb85];exact hq
    have HIQ:=J hiq
    obtain ⟨⟨sA,sn,sc⟩,V,hsq,hmq⟩:∃ (s:Sl3) (V:List Int),#[s0.v,s1.v][q]?=some s.v∧M32 W N s V:=by
     rcases hiq with ⟨rfl,-⟩ | ⟨rfl,-⟩
     ·exact ⟨s0,V0,rfl,HV0.out⟩
     ·exact ⟨s1,V1,rfl,HV1.out⟩
    have hq2:q < 2:=by omega
    have hqI:(q:Int) < 2:=by omega
    have HSQ:=J hsq
    have HMQ:=J hmq
    clear hsq hmq hiq
    go_upto_region 12 with (fail)
    have HQI:=J hi
    clear hi
    have HBJ:=J (HB.out.ext (HX4.out.trans HKJ.out))
    have HDJ:=J (HD.out.ext (HX4.out.trans HKJ.out))
    refine qr3 (fun wz=>Ext wr wz) [(0,1),(1,2),(2,2),(3,2),(4,2),(5,1),(6,0),(7,2),(8,2),(9,2),(10,2),(11,2)] ?_;refine qrl ?_
    have yd:Ext wr wr.drew:=(kR _ wr).drew
    (repeat (first | refine qs3 ?_ | ((apply w3_take);(· exact yd);(· go_simp);(· (intro w1 hS;have d0:=bX HBJ.out hS;have d1:=bH d0;have d2:=bG d0;have d3:=d0.lt;have e0:=bX HDJ.out hS;have e1:=(bC e0 q).trans HSQ.out;have e2:=e0.lt; go_simp;try with_reducible rfl));refine qnx ?_) | ((apply w3_pass);(· exact yd);(· go_simp);refine qnx ?_)))
    (refine w3_act (fun K hK=>?_);go_simp)
    go_wp2_with fail
    refine (lfit_any c p i zb67 ⟨none,0,0⟩ ⟨sA,sn,sc⟩ [] V N _ (Nat.le_trans HNW.out (HX4.out.trans (HKJ.out.trans yd)).size) (HPA.out.ext (HX4.out.trans (HKJ.out.trans yd)) HNW.out) (m32_nil _ _) (HMQ.out.ext (HX4.out.trans (HKJ.out.trans yd))) HCK.out).mono ?_
    rintro e wf ⟨sv,⟨aA,an,ac⟩,rfl,-,hoa,hyf⟩
    have yf:Ext wr wf:=yd.trans hyf
    have HSA:=J (M32.of_own (s:=⟨aA,an,ac⟩) hoa (fitA_ok HCK.out HMQ.out.2.1))
    refine hK.out _ _ (fun _=>yf) ?_
    clear hK K hoa hyf
    refine qf3 ?_
    have HKF:=J (HKJ.out.trans yf)
    have HMF:=J ((HML.out.ext yf).mono yf.size)
    have HFI:=J (show fitsN p (i:Nat) L (fitA p i V)=0 from by
     have h:=fit_fits HCK.out (i:=i) zb67 L V
     rw [fitV_self zb67 HRG.out.len] at h
     exact h)
    clear hq hqt hq2 hqI hltI yd yf
    go_wp2_with fail
    refine (crun_full cb wf.heap.size k p i zb67 ⟨A,n,cp⟩ ⟨aA,an,ac⟩ L (fitA p i V) wf (Nat.le_refl _) ((HK4.out.ext HKF.out).up HKF.out.size (Nat.le_refl _)) HMF.out HSA.out HCK.out HNL.out HST.out (HOW.out.ext (HX4.out.trans HKF.out)) HFI.out).mono ?_
    rintro e w5 ⟨hx5,v,rfl,hv5⟩
    have HR5:=J (ranges_in HCK.out i zb67 L (fitA p i V) (fun _=>HRG.out))
    generalize runR p i L (fitA p i V)=R at hv5 HR5
    have HV5:=J hv5
    obtain ⟨⟨bA,bn,bc⟩,vr,vse,vce,vsi,vas,vre⟩:=v
    have y6:=(kR (fun _=>False) w5).alloc (.cells (OutV.c ⟨⟨bA,bn,bc⟩,vr,vse,vce,vsi,vas,vre⟩) 38)
    have b6:=bN w5 38 (OutV.c ⟨⟨bA,bn,bc⟩,vr,vse,vce,vsi,vas,vre⟩)
    go_upto_region 14 with (fail)
    generalize (w5.alloc (.cells (OutV.c ⟨⟨bA,bn,bc⟩,vr,vse,vce,vsi,vas,vre⟩) 38))=w6 at y6 b6 ⊢
    have HY6:=J y6
    have HK6:=J (HKF.out.trans (hx5.trans y6))
    have HM6:=J ((HMF.out.ext (hx5.trans y6)).mono (hx5.trans y6).size)
    have HB6:=J b6
    clear hx5 hv5 y6 b6
    have j1:=bC HB6.out
    have j2:=HB6.out.lt
    by_cases hr:R.refused=true
    case' pos =>
     have hvr:vr=true:=by have:=HV5.out.refused;rw [show (ouR i R).refused=true by unfold ouR;rw [if_pos hr]] at this;exact this
     go_upto_region 18 with (fail)
     have HMZ:=J HM6.out
     generalize A=xA at HMZ ⊢
     generalize n=xn at HMZ ⊢
     generalize cp=xc at HMZ ⊢
    case' neg =>
     have hvr:vr=false:=by have:=HV5.out.refused;rw [show (ouR i R).refused=false by unfold ouR;rw [if_neg hr];rcases HIQ.out with ⟨-,rfl⟩ | ⟨-,rfl⟩ <;> rfl] at this;exact this
     have hvv:w5.ownsRow wf.heap.size 21 1 (Sl3.v ⟨bA,bn,bc⟩) bn (mems R.vars):=by
      have:=HV5.out.vars
      rw [show (ouR i R).vars=R.vars by unfold ouR;rw [if_neg hr];rcases HIQ.out with ⟨-,rfl⟩ | ⟨-,rfl⟩ <;> rfl] at this
      exact this
     have HMZ:=J (M32.of_own (s:=⟨bA,bn,bc⟩) (own_ext hvv HY6.out) (HR5.out.ok HOKV.out))
     go_upto_region 18 with (fail)
     clear HRG hvv
     generalize R.vars=L at HR5 HMZ
     have HRG:=J HR5.out
     generalize bA=xA at HMZ ⊢
     generalize bn=xn at HMZ ⊢
     generalize bc=xc at HMZ ⊢
    all_goals
     clear hvr hr j1 j2
     clear HR5
     have HBZ:=J (HB.out.ext (HX4.out.trans HK6.out))
     have HPZ:=J (HPA.out.ext (HX4.out.trans HK6.out) HNW.out)
     obtain ⟨hmn,-,lb,lo,hmA,hmE⟩:=HMZ.out
     simp only at hmn hmA hmE
     have HMN:=J hmn
     have HMA:=J hmA
     have HME:=J hmE
     obtain ⟨hvn,hvf,-,vb,vo,hvA,hvE⟩:=HPZ.out.vars
     have HVN:=J hvn
     have HVA:=J hvA
     have HVE:=J hvE
     have hvm:=hvf.max zb85
     have HVM:=J hvm
     clear hmn hmA hmE hvn hvf hvA hvE hvm
     go_wp2_with fail
     go_loopw [16,17] (fun t16 t17 wx=>∃ m:Nat,m≤c.vars.n∧t16=.int .i64 ((cells (p.vars.take m)).toNat:Nat)∧t17=.int .i64 m∧Ext w6 wx) (fun _ t17 _=>c.vars.n - (intOf t17).toNat)
     case atStart=>exact ⟨0,Nat.zero_le _,rfl,rfl,kR _ _⟩
     case round =>
      obtain ⟨m,hm,rfl,rfl,hkm⟩:=hrel
      have HKM:=J hkm
      clear hkm
      have hvm:=HVM.out
      have i1:=bC (HBZ.out.ext HKM.out)
      have i2:=(HBZ.out.ext HKM.out).lt
      by_cases hmv:m < c.vars.n
      ·have hmvI:(m:Int) < c.vars.n:=by omega
       have hml:m < p.vars.length:=by have:=HVN.out;omega
       go_wp2_with fail
       clear i1 i2
       obtain ⟨o,ho⟩:∃ o,o=(cells (p.vars.take m)).toNat:=⟨_,rfl⟩
       have HCE:=J (show ∀ y,y < (So.cellsV p.vars[m]).toNat→o+y < L.length∧p.vars[m].low≤L.getD (o+y) 0∧L.getD (o+y) 0≤p.vars[m].high from fun y hy=>by rw [ho];exact HRG.out.cell m hml y hy)
       have HTK:=J (show (cells (p.vars.take (m+1))).toNat=o+(So.cellsV p.vars[m]).toNat by rw [ho];exact cells_tk hml)
       rw [← ho]
       clear ho
       have hA:=HVA.out zb85
       obtain ⟨hvb,hvr⟩:=HVE.out zb85
       obtain ⟨hh,hg⟩:=vr_at hvr m hml
       have hvl:=hvr.lt
       have hrs:=chkVars_mem p.vars [] HCK.out.vars p.vars[m] (List.getElem_mem hml)
       generalize p.vars[m]=v at hg HCE HTK hrs
       have HSI:=J (show w6.cell? ⟨vb,vo+m * 4+1,none⟩=some (.int .i64 v.size) from cell_gets hh hg 1 zb85)
       have HLO:=J (show w6.cell? ⟨vb,vo+m * 4+2,none⟩=some (.int .i64 v.low) from cell_gets hh hg 2 zb85)
       have HHI:=J (show w6.cell? ⟨vb,vo+m * 4+3,none⟩=some (.int .i64 v.high) from cell_gets hh hg 3 zb85)
       have HVL:=J hvl
       have HA3:=J (show w6.cell? ⟨pb,3,none⟩=some (.slice (some ⟨vb,vo,none⟩) c.vars.n c.vars.c) from by rw [← hA];exact bC HBZ.out 3)
       obtain ⟨M,hM,hM2⟩:∃ M:Nat,max v.size 1=(M:Int)∧M=(So.cellsV v).toNat:=by
        refine ⟨(So.cellsV v).toNat,?_,rfl⟩
        have:=vcell_pos v
        unfold So.cellsV at *
        split at this <;> omega
       have HM:=J hM
       have HRS:=J hrs
       rw [← hM2] at HCE HTK
       clear hA hvb hvr hh hg hvl hrs hM hM2
       go_loopw [16,18] (fun t16 t18 wx=>∃ y z:Nat,y≤M∧z=o+y∧t16=.int .i64 z∧t18=.int .i64 y∧Ext w6 wx) (fun _ t18 _=>M - (intOf t18).toNat)
       case atStart=>exact ⟨0,o,Nat.zero_le _,rfl,rfl,rfl,HKM.out⟩
       case round =>
        obtain ⟨y,z,hy,hz,rfl,rfl,hky⟩:=hrel
        have HKY:=J hky
        have HZY:=J hz
        clear hky hz
        have d0:=cell_ext HKY.out HBZ.out.lt HA3.out
        have d1:=cell_ext HKY.out HVL.out HSI.out
        have d2:=(HBZ.out.ext HKY.out).lt
        have d3:=Nat.lt_of_lt_of_le HVL.out HKY.out.size
        have hM:=HM.out
        by_cases hym:y < M
        ·have hymI:(y:Int) < M:=by omega
         obtain ⟨hl,hlo,hhi⟩:=HCE.out y hym
         rw [← HZY.out] at hl hlo hhi
         have hA:=HMA.out (by have:=HMN.out;omega)
         have hr:=(HME.out (by have:=HMN.out;omega)).2.ext HKY.out
         have hc:=Row.mem hr z hl
         have hcl:=hr.lt
         have hx:L.getD z 0=L[z]:=by simp [hl]
         rw [hx] at hlo hhi
         have hxo:=HMZ.out.2.1 L[z] (List.getElem_mem hl)
         generalize L[z]=x at hc hlo hhi hxo
         have d4:=cell_ext HKY.out HVL.out HLO.out
         have d5:=cell_ext HKY.out HVL.out HHI.out
         have hz64:z < 64:=by have:=HRG.out.len;have:=HCK.out.cells;omega
         have hon:z < xn:=by have:=HMN.out;omega
         have honI:(z:Int) < xn:=by omega
         have hrs:=HRS.out
         have g1:decide ((xn:Int)≤z)=false:=decide_eq_false zb85
         have g2:decide (x < v.low)=false:=decide_eq_false zb85
         have g3:decide (v.high < x)=false:=decide_eq_false zb85
         have hwx:=wrap_i64 (n:=x) zb47
         clear hr hx
         subst hA
         go_upto_region 25 with (fail)
         go_quiet (fail)
         clear g1 g2 g3 hwx hc hcl d1 d4 d5 honI hxo
         go_wp2_with fail
         go_roundw
         case rel=>exact ⟨y+1,z+1,hym,by have:=HZY.out;omega,by go_num,by go_num,HKY.out.trans (Kept.drewN (kR _ _) _)⟩
         case measure=>simp only [intOf];omega
        ·obtain rfl:y=M:=by omega
         go_wp2_with fail
         go_roundw
         case rel=>exact ⟨m+1,hmv,by rw [HTK.out,HZY.out],by go_num,HKY.out⟩
         case measure=>simp only [intOf];omega
      ·obtain rfl:m=c.vars.n:=by omega
       obtain ⟨o,ho⟩:∃ o,o=(cells (p.vars.take c.vars.n)).toNat:=⟨_,rfl⟩
       rw [← ho]
       obtain rfl:o=xn:=by
        have h1:=HRG.out.len
        have h2:=HMN.out
        rw [HVN.out,List.take_length] at ho
        omega
       clear ho
       go_wp2_with fail
       go_roundw
       case rel=>exact ⟨j+1,xA,o,xc,L,by omega,by go_num,rfl,(HMZ.out.ext HKM.out).mono HKM.out.size,HRG.out,HK6.out.trans HKM.out⟩
       case measure=>simp only [intOf];omega
   ·obtain rfl:j=4:=by omega
    go_wp2_with fail
    refine (told16_any wr (HLW.out.ext (HX4.out.trans HKJ.out)) (HOW.out.ext (HX4.out.trans HKJ.out))).mono ?_
    rintro e w9 ⟨rfl,hx9⟩
    go_wp2_with fail
    go_ret
    exact ⟨rfl,HX0.out.trans ((HX4.out.trans HKJ.out).trans hx9)⟩
open Go.RowKit Go.Deep Go.ChangeShapes Go.WideShapes So Mc
namespace compileRanges
set_option maxRecDepth 100000 in
theorem walk {H:Type} {enc:TypeId × Value→H} (W:World) (base:Nat) (v0 v1:Value) (d0:DataW H) (p0:List MemPlace) (d1:DataW H) (p1:List MemPlace)
 (o0:Value.okWide Tryz.prog W .any base 26 v0) (o1:Value.okWide Tryz.prog W .any base 28 v1)
 (h0:DataW.Trod enc Tryz.prog W 0 (fun _=>true) true 26 v0 d0 p0) (h1:DataW.Trod enc Tryz.prog W 0 (fun _=>true) true 28 v1 d1 p1) (hL:laidMetH Tryz.prog Rows.compileRangesUptoRow.laid W)
 {gs:List (DataW H)} (hk:Rows.uptoSmall H ([d0,d1] ++ gs)=true)
 (z0:light Tryz.prog 26 d0) (z1:light Tryz.prog 28 d1) (hS:W.ShapedOpen Tryz.prog) :
 Calls Tryz.prog 6 #[v0,v1] W fun e w'=>e=.returned (.bool true)∧Ext W w':=by
 obtain ⟨c,q,rfl,hp,hc,hs⟩:=prog_in3 o0 h0 z0
 obtain ⟨s,t,l,m,rfl,hm,hn⟩:=mem2_of o1 h1 z1
 refine zy98 ?_;intro hk hLA hOA
 exact lranges_any c q s t l m W.heap.size W (Nat.le_refl _) hp hLA hOA hc zb85 hm hn
end compileRanges
end Go.Proofs.YtbfbabbcdochjaaGreatDoor
