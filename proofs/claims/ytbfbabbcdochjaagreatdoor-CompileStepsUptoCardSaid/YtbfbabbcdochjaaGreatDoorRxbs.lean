/- Several texts joined: Jx, Cu, Jy. -/
import Derived.Test.YtbfbabbcdochjaaGreatDoorRxpk
import Derived.Test.YtbfbabbcdochjaaGreatDoorRxbq
import Derived.Test.YtbfbabbcdochjaaGreatDoorRxbr
set_option maxHeartbeats 4000000
namespace Go.Proofs.YtbfbabbcdochjaaGreatDoor
open Go.RowKit So Mc
inductive BuildOut (p:Pr) (w':World):Ending→Prop
 | no:BuildOut p w' (.returned (.tuple #[.pointer none,.bool false]))
 | ok (hf:fewB p=true) (h:check p=none) (hl:¬ longAt p) (hs:∀ i,i < 5→stepN p i≤65536) (cb:Nat) (k:Cd) (hc:CodeAt w' w'.heap.size cb k p):BuildOut p w' (.returned (.tuple #[.pointer (some ⟨cb,0,none⟩),.bool true]))
set_option maxRecDepth 100000 in
theorem lbuild_any (c:Pc) (p:Pr) (N:Nat) (w:World) (hN:N≤w.heap.size) (h:PAt w N c p) (hL:LaidAt w) (hz:psize p≤1099511627776) :
 Calls Tryz.prog 11 #[.agg c.cells] w fun e w'=>Ext w w'∧BuildOut p w' e:=by
 refine zy73 ?_;intro hx0 hB
 go_enter Tryz.func11,Tryz.ntmps11
 go_upto_region 1 with (fail)
 refine zy69 ?_;intro HPA HNW
 have HLW:=J (hL.ext hx0)
 have HZ:=J hz
 generalize hW:w.alloc (.cells c.cells 26)=W at hx0 hB HPA HNW HLW ⊢
 have HX0:=J hx0
 have HB:=J hB
 clear hW hx0 hB h hN hL hz
 generalize w.heap.size=pb at HB ⊢
 have i1:=bH HB.out
 have i2:=bG HB.out
 have i3:=HB.out.lt
 go_wp2_with fail
 refine (few16_any c p N _ HNW.out HPA.out).mono ?_
 rintro e w1 ⟨rfl,hx1⟩
 have HX1:=J hx1
 clear hx1 i1 i2 i3
 obtain ⟨r,hr⟩:∃ r,r=fewB p:=⟨_,rfl⟩
 rw [← hr]
 have HRB:=J hr
 clear hr
 cases r
 ·go_wp2_with fail
  go_ret2
  exact ⟨HX0.out.trans HX1.out,.no⟩
 ·refine zy80 ?_;intro i1 i2 i3
  go_wp2_with fail
  refine (of_any c p N _ (Nat.le_trans HNW.out HX1.out.size) (HPA.out.ext HX1.out HNW.out)).mono ?_
  rintro e w2 ⟨hx2,c1,rfl,hp1⟩
  have HX2:=J (HX1.out.trans hx2)
  have HP1:=J hp1
  have HL2:=J (HLW.out.ext HX2.out)
  clear hx2 hp1 i1 i2 i3
  go_wp2_with fail
  refine (compile_any c1 p _ w2 HL2.out.lt (Nat.le_refl _) HP1.out HL2.out HZ.out).mono ?_
  rintro e w3 ⟨hx3,ho⟩
  have HX3:=J (HX2.out.trans hx3)
  clear hx3
  cases ho with
  | bad f hf =>
   go_wp2_with fail
   go_ret2
   exact ⟨HX0.out.trans HX3.out,.no⟩
  | long hc hl =>
   go_wp2_with fail
   go_ret2
   exact ⟨HX0.out.trans HX3.out,.no⟩
  | steps hc hl hs =>
   go_wp2_with fail
   go_ret2
   exact ⟨HX0.out.trans HX3.out,.no⟩
  | ok hc hl hs cb k hk =>
   have HC:=J hc
   have HL:=J hl
   have HS:=J hs
   have HK:=J hk
   clear hc hl hs hk
   go_wp2_with fail
   go_ret2
   exact ⟨HX0.out.trans HX3.out,.ok HRB.out.symm HC.out HL.out HS.out cb k HK.out⟩
set_option maxRecDepth 100000 in
theorem lright_any (c:Pc) (p:Pr) (N:Nat) (w:World) (hN:N≤w.heap.size) (h:PAt w N c p) (hcap:Caps c) (hz:psize p≤1099511627776) (hf:fewB p=true) (hc:check p=none) (hl:¬ longAt p) :
 Calls Tryz.prog 12 #[.agg c.cells] w fun e w'=>e=.returned (.bool true)∧Ext w w':=by
 refine zy73 ?_;intro hx0 hB
 have hlb:longB p=false:=by
  cases h:longB p
  ·rfl
  ·exact absurd ((longB_iff p).1 h) hl
 go_enter Tryz.func12,Tryz.ntmps12
 go_upto_region 1 with (fail)
 refine zy69 ?_;intro HPA HNW
 have HCAP:=J hcap
 have HZ:=J hz
 have HF:=J hf
 have HC:=J hc
 have HLB:=J hlb
 generalize hW:w.alloc (.cells c.cells 26)=W at hx0 hB HPA HNW ⊢
 have HX0:=J hx0
 have HB:=J hB
 clear hW hx0 hB h hN hcap hz hf hc hl hlb
 generalize w.heap.size=pb at HB ⊢
 have i1:=bH HB.out
 have i2:=bG HB.out
 have i3:=HB.out.lt
 go_wp2_with fail
 refine (few16_any c p N _ HNW.out HPA.out).mono ?_
 rintro e w1 ⟨rfl,hx1⟩
 rw [HF.out]
 have HX1:=J hx1
 clear hx1 i1 i2 i3
 refine zy80 ?_;intro i1 i2 i3
 go_wp2_with fail
 refine (rcheck_any c p N _ (Nat.le_trans HNW.out HX1.out.size) (HPA.out.ext HX1.out HNW.out) HCAP.out).mono ?_
 rintro e w4 ⟨rfl,hx4⟩
 have HX4:=J (HX1.out.trans hx4)
 clear hx4 i1 i2 i3
 rw [HC.out,show fltC none=#[.int .i64 0,.string ⟨#[]⟩] from rfl]
 have i1:=bH (HB.out.ext HX4.out)
 have i2:=bG (HB.out.ext HX4.out)
 have i3:=(HB.out.ext HX4.out).lt
 go_wp2_with fail
 refine (rlong_any c p N _ (Nat.le_trans HNW.out HX4.out.size) (HPA.out.ext HX4.out HNW.out) HZ.out).mono ?_
 rintro e w5 ⟨rfl,hx5⟩
 rw [HLB.out]
 have HX5:=J (HX4.out.trans hx5)
 clear hx5 i1 i2 i3
 go_wp2_with fail
 go_ret
 exact ⟨rfl,HX0.out.trans HX5.out⟩
def fitV (p:Pr) (part:Nat) (V:List Int):List Int:=if part=0 then [] else (List.range (kcN p)).map (fun i=>V.getD i 0)
def fitArg (v:Vr) (n:Int):Int:=v.low+(n % 18446744073709551616) % (v.high - v.low+1)
def argN (p:Pr) (part:Nat) (A:List Int) (i:Nat):Int:=if part=2 then fitArg ((p.params[i]?).getD ⟨E0,0,0,0⟩) (A.getD i 0) else A.getD i 0
def fitA (p:Pr) (part:Nat) (A:List Int):List Int:=(List.range (giveN p part)).map (argN p part A)
theorem range_snoc {f:Nat→Int} (j:Nat):(List.range (j+1)).map f=(List.range j).map f ++ [f j]:=by rw [List.range_succ,List.map_append];rfl
set_option maxRecDepth 100000 in
theorem lfit_any (c:Pc) (p:Pr) (part:Nat) (hp:part < 5) (vs ag:Sl3) (V A:List Int) (N:Nat) (w:World) (hN:N≤w.heap.size) (h:PAt w N c p) (hv:M32 w N vs V) (ha:M32 w N ag A) (hk:Chk p) :
 Calls Tryz.prog 14 #[.agg c.cells,.int .i64 part,vs.v,ag.v] w fun e w'=>∃ sv sa:Sl3,e=.returned (.tuple #[sv.v,sa.v])∧w'.ownsRow w.heap.size 21 1 sv.v sv.n (mems (fitV p part V))∧w'.ownsRow w.heap.size 21 1 sa.v sa.n (mems (fitA p part A))∧Ext w w':=by
 obtain ⟨vA,vn,vc⟩:=vs
 obtain ⟨aA,an,ac⟩:=ag
 change Calls Tryz.prog _ #[.agg c.cells,.int .i64 part,.slice vA vn vc,.slice aA an ac] w _
 obtain ⟨kc,hkc⟩:∃ kc,kc=kcN p:=⟨_,rfl⟩
 have hkcI:cells p.vars=(kc:Int):=by have:=cells_pos p.vars;rw [hkc];unfold kcN;omega
 have hkc64:kc≤64:=by have:=hk.cells;omega
 have HKC:=J hkcI
 have HKCN:=J hkc
 have HK64:=J hkc64
 have HK:=J hk
 have HP5:=J hp
 clear hkc hkcI hkc64
 obtain ⟨nv,hnv⟩:∃ nv,nv=if part=0 then 0 else kc:=⟨_,rfl⟩
 have HNV:=J hnv
 have HNV64:=J (show nv≤kc by rw [hnv];split <;> omega)
 have HFV:=J (show fitV p part V=(List.range nv).map (fun i=>V.getD i 0) by unfold fitV;rw [hnv,HKCN.out];split <;> rfl)
 clear hnv
 refine zy73 ?_;intro hx0 hB
 go_enter Tryz.func14,Tryz.ntmps14
 go_upto_region 1 with (fail)
 refine zy69 ?_;intro HPA HNW
 have HV:=J (hv.ext hx0)
 have HA:=J (ha.ext hx0)
 generalize hW:w.alloc (.cells c.cells 26)=W at hx0 hB HPA HNW HV HA ⊢
 have HX0:=J hx0
 have HB:=J hB
 clear hW hx0 hB h hN hv ha hk hp
 generalize w.heap.size=pb at HB ⊢
 obtain ⟨hvn,hvo,vb,vo,hvA,hvE⟩:=HV.out
 obtain ⟨han,hao,ab,ao,haA,haE⟩:=HA.out
 simp only at hvn hvA hvE han haA haE
 have HVN:=J hvn
 have HVA:=J hvA
 have HVE:=J hvE
 have HAN:=J han
 have HAA:=J haA
 have HAE:=J haE
 clear hvn hvo hvA hvE han hao haA haE
 go_upto_region 3 with (fail)
 go_loopw [10,12] (fun t10 t12 wr=>∃ (j:Nat) (s:Sl3),j≤nv∧t12=.int .i64 j∧t10=s.v∧wr.ownsRow W.heap.size 21 1 s.v s.n (mems ((List.range j).map (fun i=>V.getD i 0)))∧Ext W wr) (fun _ t12 _=>nv - (intOf t12).toNat)
 case atStart=>exact ⟨0,⟨none,0,0⟩,Nat.zero_le _,rfl,rfl,⟨by simp [mems],.inl ⟨rfl,rfl⟩⟩,kR _ _⟩
 case round =>
  obtain ⟨j,s,hj,rfl,rfl,ho,hk⟩:=hrel
  have HOJ:=J ho
  have HKJ:=J hk
  have HSN:=J (show s.n=j by have h:=ho.1;rw [mems_len] at h;simp at h;omega)
  have HNJ:=J hj
  clear ho hk
  have i1:=bH (HB.out.ext HKJ.out)
  have i2:=bG (HB.out.ext HKJ.out)
  have i3:=(HB.out.ext HKJ.out).lt
  go_wp2_with fail
  refine (rcells_any c p N _ (Nat.le_trans HNW.out HKJ.out.size) (HPA.out.ext HKJ.out HNW.out)).mono ?_
  rintro e wc ⟨rfl,hyc⟩
  have HYC:=J hyc
  clear i1 i2 i3 hyc
  rw [HKC.out]
  have hkc64:=HK64.out
  have hnv64:=HNV64.out
  by_cases hlt:j < nv
  ·have hlk:(j:Int) < kc:=by omega
   have p0:((part:Int) != 0)=true:=bne_iff_ne.2 (fun e=>by have h:=HNV.out;rw [if_pos zb85] at h;omega)
   by_cases hin:j < vn
   ·have hinI:(j:Int) < vn:=by omega
    have hjl:j < V.length:=by have:=HVN.out;omega
    have hAA:=HVA.out zb85
    have hr:=(HVE.out zb85).2.ext (HKJ.out.trans HYC.out)
    have hc:=Row.mem hr j hjl
    have hcl:=hr.lt
    have HXV:=J (show V.getD j 0=V[j] by simp [hjl])
    generalize V[j]=x at hc HXV
    clear hr
    subst hAA
    go_upto_region 7 with (fail)
    go_upto_region 8 with (fail)
    have y1:=(kR (fun _=>False) wc).alloc (.cells #[.int .i32 x] 21)
    have hrow1:Row (wc.alloc (.cells #[.int .i32 x] 21)) wc.heap.size 0 (mems [x]):=Row.of_blk (bN wc 21 #[.int .i32 x])
    obtain ⟨v',wa,hra,hoa,hka⟩:=appM _ W.heap.size s.v s.n _ (own_ext (own_ext HOJ.out HYC.out) y1) wc.heap.size 0 1 1 [x] rfl hrow1 (by have:=HSN.out;omega) (Nat.le_trans HKJ.out.size (Nat.le_trans HYC.out.size y1.size))
    exact zz30
   ·have hinI:¬ (j:Int) < vn:=by omega
    have HXV:=J (show V.getD j 0=0 by have:=HVN.out;simp [show V.length≤j by omega])
    go_upto_region 8 with (fail)
    have y1:=(kR (fun _=>False) wc).alloc (.cells #[.int .i32 0] 21)
    have hrow1:Row (wc.alloc (.cells #[.int .i32 0] 21)) wc.heap.size 0 (mems [0]):=Row.of_blk (bN wc 21 #[.int .i32 0])
    obtain ⟨v',wa,hra,hoa,hka⟩:=appM _ W.heap.size s.v s.n _ (own_ext (own_ext HOJ.out HYC.out) y1) wc.heap.size 0 1 1 [0] rfl hrow1 (by have:=HSN.out;omega) (Nat.le_trans HKJ.out.size (Nat.le_trans HYC.out.size y1.size))
    exact zz30
  ·obtain rfl:j=nv:=by omega
   have HOW:=J (show wc.ownsRow w.heap.size 21 1 s.v s.n (mems (fitV p part V)) from by rw [HFV.out];exact own_mono (own_ext HOJ.out HYC.out) HX0.out.size)
   have HYW:=J (HKJ.out.trans HYC.out)
   clear hlt
   have hcase:((j:Int) < kc∧((part:Int) != 0)=false∧((part:Int) == 2)=false∧((part:Int) == 3)=false∧part=0) ∨ (¬ (j:Int) < kc∧((part:Int) != 0)=false∧((part:Int) == 2)=false∧((part:Int) == 3)=false∧part=0) ∨
    (¬ (j:Int) < kc∧((part:Int) == 2)=false∧((part:Int) == 3)=false∧¬ part=2∧¬ part=3) ∨ (¬ (j:Int) < kc∧((part:Int) == 2)=false∧((part:Int) == 3)=true∧part=3) ∨ (¬ (j:Int) < kc∧((part:Int) == 2)=true∧part=2):=by
    have h:=HNV.out
    by_cases p0:part=0
    ·rw [if_pos p0] at h
     by_cases q:(j:Int) < kc
     ·exact Or.inl ⟨q,by simp [p0],by simp [p0],by simp [p0],p0⟩
     ·exact Or.inr (Or.inl ⟨q,by simp [p0],by simp [p0],by simp [p0],p0⟩)
    ·rw [if_neg p0] at h
     have q:¬ (j:Int) < kc:=by omega
     by_cases p2:part=2
     ·exact Or.inr (Or.inr (Or.inr (Or.inr ⟨q,by simp [p2],p2⟩)))
     ·by_cases p3:part=3
      ·exact Or.inr (Or.inr (Or.inr (Or.inl ⟨q,by simp [p3],by simp [p3],p3⟩)))
      ·exact Or.inr (Or.inr (Or.inl ⟨q,by simp;omega,by simp;omega,p2,p3⟩))
   clear hkc64 hnv64
   rcases hcase with ⟨g1,g2,g3,g4,hp0⟩ | ⟨g1,g2,g3,g4,hp0⟩ | ⟨g1,g3,g4,hn2,hn3⟩ | ⟨g1,g3,g4,hp3⟩ | ⟨g1,g3,hp2⟩
   ·have HGV:=J (show giveN p part=0 by unfold giveN;rw [if_neg zb85,if_neg zb85])
    exact zz21
   ·have HGV:=J (show giveN p part=0 by unfold giveN;rw [if_neg zb85,if_neg zb85])
    exact zz21
   ·have HGV:=J (show giveN p part=0 by unfold giveN;rw [if_neg zb85,if_neg zb85])
    clear hn2 hn3
    exact zz117
   ·have HGV:=J (show giveN p part=1 by unfold giveN;rw [if_neg zb85,if_pos zb85])
    have HAG:=J (show ∀ i,argN p part A i=A.getD i 0 from fun i=>by unfold argN;rw [if_neg zb85])
    clear hp3
    go_wp2_with fail
    go_loopw [11,15] (fun t11 t15 wx=>∃ (i:Nat) (q:Sl3),i≤1∧t15=.int .i64 i∧t11=q.v∧wx.ownsRow wc.heap.size 21 1 q.v q.n (mems ((List.range i).map (argN p part A)))∧Ext wc wx) (fun _ t15 _=>1 - (intOf t15).toNat)
    case atStart=>exact ⟨0,⟨none,0,0⟩,Nat.zero_le _,rfl,rfl,⟨by simp [mems],.inl ⟨rfl,rfl⟩⟩,kR _ _⟩
    case round =>
     obtain ⟨i,q,hi,rfl,rfl,ho,hk⟩:=hrel
     have HOI:=J ho
     have HKI:=J hk
     have HQN:=J (show q.n=i by have h:=ho.1;rw [mems_len] at h;simp at h;omega)
     clear ho hk
     by_cases hli:i < 1
     ·have hliI:(i:Int) < 1:=by omega
      by_cases hin:i < an
      ·have hinI:(i:Int) < an:=by omega
       have hjl:i < A.length:=by have:=HAN.out;omega
       have hAA:=HAA.out zb85
       have hr:=(HAE.out zb85).2.ext (HYW.out.trans HKI.out)
       have hc:=Row.mem hr i hjl
       have hcl:=hr.lt
       have HXO:=J (show A.getD i 0=A[i] by simp [hjl])
       generalize A[i]=x at hc HXO
       clear hr
       subst hAA
       have HXV:=J ((HAG.out i).trans HXO.out)
       go_upto_region 23 with (fail)
       have y1:=(kR (fun _=>False) wr).alloc (.cells #[.int .i32 x] 21)
       have hrow1:Row (wr.alloc (.cells #[.int .i32 x] 21)) wr.heap.size 0 (mems [x]):=Row.of_blk (bN wr 21 #[.int .i32 x])
       obtain ⟨v',wa,hra,hoa,hka⟩:=appM _ wc.heap.size q.v q.n _ (own_ext HOI.out y1) wr.heap.size 0 1 1 [x] rfl hrow1 zb69 (Nat.le_trans HKI.out.size y1.size)
       exact zz33
      ·have hinI:¬ (i:Int) < an:=by omega
       have HXO:=J (show A.getD i 0=0 by have:=HAN.out;simp [show A.length≤i by omega])
       have HXV:=J ((HAG.out i).trans HXO.out)
       go_upto_region 23 with (fail)
       have y1:=(kR (fun _=>False) wr).alloc (.cells #[.int .i32 0] 21)
       have hrow1:Row (wr.alloc (.cells #[.int .i32 0] 21)) wr.heap.size 0 (mems [0]):=Row.of_blk (bN wr 21 #[.int .i32 0])
       obtain ⟨v',wa,hra,hoa,hka⟩:=appM _ wc.heap.size q.v q.n _ (own_ext HOI.out y1) wr.heap.size 0 1 1 [0] rfl hrow1 zb69 (Nat.le_trans HKI.out.size y1.size)
       exact zz33
     ·obtain rfl:i=1:=by omega
      exact zz57
   ·have HGV:=J (show giveN p part=p.params.length by unfold giveN;rw [if_pos zb85])
    have HAG:=J (show ∀ i,argN p part A i=fitArg ((p.params[i]?).getD ⟨E0,0,0,0⟩) (A.getD i 0) from fun i=>by unfold argN;rw [if_pos hp2])
    clear hp2
    have i1:=bC (HB.out.ext HYW.out)
    have i2:=(HB.out.ext HYW.out).lt
    go_wp2_with fail
    clear i1 i2
    go_loopw [11,15] (fun t11 t15 wx=>∃ (i:Nat) (q:Sl3),i≤c.params.n∧t15=.int .i64 i∧t11=q.v∧wx.ownsRow wc.heap.size 21 1 q.v q.n (mems ((List.range i).map (argN p part A)))∧Ext wc wx) (fun _ t15 _=>c.params.n - (intOf t15).toNat)
    case atStart=>exact ⟨0,⟨none,0,0⟩,Nat.zero_le _,rfl,rfl,⟨by simp [mems],.inl ⟨rfl,rfl⟩⟩,kR _ _⟩
    case round =>
     obtain ⟨i,q,hi,rfl,rfl,ho,hk⟩:=hrel
     have HOI:=J ho
     have HKI:=J hk
     have HQN:=J (show q.n=i by have h:=ho.1;rw [mems_len] at h;simp at h;omega)
     clear ho hk
     have HPN:=J HPA.out.params.1
     have hpn4:c.params.n≤4:=by have:=HPN.out;have:=HK.out.np;omega
     by_cases hli:i < c.params.n
     ·have hliI:(i:Int) < c.params.n:=by omega
      have hil:i < p.params.length:=by have:=HPN.out;omega
      obtain ⟨-,-,-,qb,qo,hpA,hpE⟩:=HPA.out.params
      have hA:=hpA zb85
      have hrow:=(hpE zb85).2.ext (HYW.out.trans HKI.out)
      obtain ⟨hh,hg⟩:=vr_at hrow i hil
      have HVI:=J (show (p.params[i]?).getD ⟨E0,0,0,0⟩=p.params[i] by simp [hil])
      have HVR:=J ((par_ok (knV p.vars) p.params [] HK.out.pars).1 p.params[i] (List.getElem_mem hil))
      generalize p.params[i]=v at hg HVI HVR
      have HLO:=J (show wr.cell? ⟨qb,qo+i * 4+2,none⟩=some (.int .i64 v.low) from cell_gets hh hg 2 zb85)
      have HHI:=J (show wr.cell? ⟨qb,qo+i * 4+3,none⟩=some (.int .i64 v.high) from cell_gets hh hg 3 zb85)
      have HQL:=J hrow.lt
      have HA6:=J (show wr.cell? ⟨pb,6,none⟩=some (.slice (some ⟨qb,qo,none⟩) c.params.n c.params.c) from by rw [← hA];exact bC (HB.out.ext (HYW.out.trans HKI.out)) 6)
      clear hpA hpE hA hrow hh hg
      by_cases hin:i < an
      ·have hinI:(i:Int) < an:=by omega
       have hjl:i < A.length:=by have:=HAN.out;omega
       have hAA:=HAA.out zb85
       have hr:=(HAE.out zb85).2.ext (HYW.out.trans HKI.out)
       have hc:=Row.mem hr i hjl
       have hcl:=hr.lt
       have HXO:=J (show A.getD i 0=A[i] by simp [hjl])
       generalize A[i]=x at hc HXO
       clear hr
       subst hAA
       have HXV:=J ((HAG.out i).trans (show fitArg ((p.params[i]?).getD ⟨E0,0,0,0⟩) (A.getD i 0)=fitArg v x by rw [HXO.out,HVI.out]))
       have d1:=HA6.out
       have d2:=HLO.out
       have d3:=HHI.out
       have d4:=HQL.out
       have d5:=(HB.out.ext (HYW.out.trans HKI.out)).lt
       go_upto_region 21 with (fail)
       go_quiet (fail)
       clear d1 d2 d3 d4 d5
       have HOQ:=J (own_ext HOI.out (show Ext wr (wr.drewN nq) from (kR _ wr).drewN nq))
       have HKQ:=J (Kept.drewN HKI.out nq)
       generalize (wr.drewN nq)=wq at HOQ HKQ ⊢
       have hvr:=HVR.out.2.2
       unfold i32ok at hvr
       have hd1:wrap64 (v.high - v.low)=v.high - v.low:=by unfold wrap64;omega
       have hd2:wrap64 (v.high - v.low+1)=v.high - v.low+1:=by unfold wrap64;omega
       have hd3:IntKind.u64.wrap (v.high - v.low+1)=v.high - v.low+1:=by rw [u64_w];omega
       have hne:¬ (v.high - v.low+1=0):=by omega
       have hval:wrap32 (wrap64 (v.low+wrap64 ((IntKind.u64.wrap x).tmod (v.high - v.low+1))))=fitArg v x:=by
        rw [u64_w,Int.tmod_eq_emod_of_nonneg zb85]
        unfold fitArg
        have h1:=Int.emod_nonneg (x % 18446744073709551616) hne
        have h2:=Int.emod_lt_of_pos (x % 18446744073709551616) (show 0 < v.high - v.low+1 by omega)
        generalize x % 18446744073709551616 % (v.high - v.low+1)=y at h1 h2
        unfold wrap32 wrap64
        omega
       clear hvr
       go_upto_region 23 with (fail)
       rw [hval]
       clear hd1 hd2 hd3 hne hval
       have y1:=(kR (fun _=>False) wq).alloc (.cells #[.int .i32 (fitArg v x)] 21)
       have hrow1:Row (wq.alloc (.cells #[.int .i32 (fitArg v x)] 21)) wq.heap.size 0 (mems [(fitArg v x)]):=Row.of_blk (bN wq 21 #[.int .i32 (fitArg v x)])
       obtain ⟨v',wa,hra,hoa,hka⟩:=appM _ wc.heap.size q.v q.n _ (own_ext HOQ.out y1) wq.heap.size 0 1 1 [(fitArg v x)] rfl hrow1 zb69 (Nat.le_trans HKQ.out.size y1.size)
       exact zz32
      ·have hinI:¬ (i:Int) < an:=by omega
       have HXO:=J (show A.getD i 0=0 by have:=HAN.out;simp [show A.length≤i by omega])
       have HXV:=J ((HAG.out i).trans (show fitArg ((p.params[i]?).getD ⟨E0,0,0,0⟩) (A.getD i 0)=v.low by rw [HXO.out,HVI.out];unfold fitArg;simp))
       have d1:=HA6.out
       have d2:=HLO.out
       have d3:=HHI.out
       have d4:=HQL.out
       have d5:=(HB.out.ext (HYW.out.trans HKI.out)).lt
       go_upto_region 21 with (fail)
       go_quiet (fail)
       clear d1 d2 d3 d4 d5
       have HOQ:=J (own_ext HOI.out (show Ext wr (wr.drewN nq) from (kR _ wr).drewN nq))
       have HKQ:=J (Kept.drewN HKI.out nq)
       generalize (wr.drewN nq)=wq at HOQ HKQ ⊢
       have hvr:=HVR.out.2.2
       unfold i32ok at hvr
       have hd1:wrap64 (v.high - v.low)=v.high - v.low:=by unfold wrap64;omega
       have hd2:wrap64 (v.high - v.low+1)=v.high - v.low+1:=by unfold wrap64;omega
       have hd3:IntKind.u64.wrap (v.high - v.low+1)=v.high - v.low+1:=by rw [u64_w];omega
       have hne:¬ (v.high - v.low+1=0):=by omega
       have hl1:wrap64 v.low=v.low:=by unfold wrap64;omega
       have hl2:wrap32 v.low=v.low:=by unfold wrap32;omega
       clear hvr
       go_upto_region 23 with (fail)
       rw [hl2]
       clear hd1 hd2 hd3 hne hl1 hl2
       have y1:=(kR (fun _=>False) wq).alloc (.cells #[.int .i32 v.low] 21)
       have hrow1:Row (wq.alloc (.cells #[.int .i32 v.low] 21)) wq.heap.size 0 (mems [v.low]):=Row.of_blk (bN wq 21 #[.int .i32 v.low])
       obtain ⟨v',wa,hra,hoa,hka⟩:=appM _ wc.heap.size q.v q.n _ (own_ext HOQ.out y1) wq.heap.size 0 1 1 [v.low] rfl hrow1 zb69 (Nat.le_trans HKQ.out.size y1.size)
       exact zz32
     ·obtain rfl:i=c.params.n:=by omega
      have HGV:=J (show giveN p part=c.params.n by rw [HGV.out,HPN.out])
      exact zz57
open Go.RowKit So Mc
def KAll (P:Int→Str→Int→Prop):SF→Prop
 | .nil=>True
 | .cons kind name _ low _ l x r=>P kind name low∧(kind=2 ∨ kind=3→KAll P l)∧(kind=2→KAll P x)∧KAll P r
theorem rounds_inv (Q:RS→Prop) (g:Int→RS→RS) (hg:∀ i R,Q R→Q (g i R)):∀ (n:Nat) (i:Int) (R:RS),Q R→Q (roundsR g n i R)
 | 0,_,_,h=>h
 | n+1,i,R,h=>by
  rw [roundsR]
  split
  ·exact h
  ·exact rounds_inv Q g hg n (i+1) _ (hg i R h)
theorem doB_inv (P:Int→Str→Int→Prop) (Q:RS→Prop) (V:List Vr) (seats:Int) (h0:∀ kind name e low R,P kind name low→Q R→Q (do0 V seats kind name e low R)) (hb:∀ R B,Q R→Q { R with binds:=B }):∀ (F:SF) (R:RS),KAll P F→Q R→Q (doB V seats F R)
 | .nil,R,_,h=>by rw [doB];exact h
 | .cons kind name e low high l x r,R,hk,h=>by
  obtain ⟨k1,k2,k3,k4⟩:=hk
  rw [doB_cons]
  split
  ·exact h
  ·refine doB_inv P Q V seats h0 hb r _ k4 ?_
   unfold doS
   split
   ·rename_i e2
    split
    ·exact doB_inv P Q V seats h0 hb l R (k2 (Or.inl e2)) h
    ·exact doB_inv P Q V seats h0 hb x R (k3 e2) h
   ·split
    ·rename_i e3
     exact hb _ _ (rounds_inv Q _ (fun i R' hR=>doB_inv P Q V seats h0 hb l _ (k2 (Or.inr e3)) (hb _ _ hR)) _ _ R h)
    ·exact h0 _ _ _ _ _ k1 h
theorem kall_of {part:Nat} (V:List Vr):∀ {F:SF} {κ:Kn} {f:Nat} {top:Bool},chkB part κ f top F=none→(∀ s,κ s ≠ 3→κ s=knV V s ∨ κ s=0) →
 KAll (fun kind name low=>(kind=4→part=2)∧(kind=0 ∨ kind=1→knV V name ≠ 0)∧(kind=5→2≤low∧low≤1000)) F
 | .nil,_,_,_,_,_=>trivial
 | .cons kind name e low high l x r,κ,f,top,h,hκ=>by
  rw [chkB_cons,ored_eq_none] at h
  obtain ⟨h1,h2⟩:=h
  unfold chkS at h1
  rw [ored_eq_none,ored_eq_none,ored_eq_none,ored_eq_none,must_none,Bool.and_eq_true,must_none] at h1
  obtain ⟨⟨hkd,-⟩,hst,hnm,-,hblk⟩:=h1
  refine ⟨⟨fun e4=>?_,fun e0=>?_,fun e5=>?_⟩,fun e23=>?_,fun e2=>?_,kall_of V h2 hκ⟩
  ·unfold stands at hst
   rw [if_pos (Or.inl e4)] at hst
   simpa using hst
  ·unfold named at hnm
   rw [if_pos zb85] at hnm
   unfold target at hnm
   rw [ored_eq_none,ored_eq_none,must_none,must_none] at hnm
   obtain ⟨t1,t2,-⟩:=hnm
   have n0:κ name ≠ 0:=by simpa using t1
   have n3:κ name ≠ 3:=by
    have:κ name=(if kind=1 then 2 else 1):=by simpa using t2
    rw [this]
    split <;> omega
   rcases hκ name n3 with q | q
   ·rw [← q];exact n0
   ·exact absurd q n0
  ·unfold named at hnm
   rw [if_pos zb85] at hnm
   unfold target at hnm
   rw [ored_eq_none,ored_eq_none,if_pos e5] at hnm
   obtain ⟨-,-,hlw⟩:=hnm
   simpa [btw] using must_none.1 hlw
  ·rcases e23 with e2 | e3
   ·rw [if_pos e2,ored_eq_none] at hblk
    exact kall_of V hblk.1 hκ
   ·rw [if_neg zb85,if_pos e3] at hblk
    refine kall_of V hblk (fun s hs=>?_)
    unfold upd at hs ⊢
    split at hs
    ·omega
    ·rename_i hn
     rw [if_neg hn]
     exact hκ s hs
  ·rw [if_pos e2,ored_eq_none] at hblk
   exact kall_of V hblk.2 hκ
theorem kall_part {p:Pr} (hk:Chk p) (i:Nat) (hi:i < 5):KAll (fun kind name low=>(kind=4→i=2)∧(kind=0 ∨ kind=1→knV p.vars name ≠ 0)∧(kind=5→2≤low∧low≤1000)) (partOf p i):=by
 refine kall_of p.vars (hk.part i hi) (fun s hs=>?_)
 unfold knOf at hs ⊢
 split
 ·simp only at hs
  rcases updAll_cases (knV p.vars) (p.params.map Vr.name) s with ⟨_,q⟩ | ⟨_,q⟩
  ·exact absurd q hs
  ·exact Or.inl q
 ·simp only at hs
  rcases updAll_cases (knV p.vars) [p.silent] s with ⟨_,q⟩ | ⟨_,q⟩
  ·exact absurd q hs
  ·exact Or.inl q
 ·exact Or.inl rfl
theorem no_refuse {p:Pr} (hk:Chk p) (i:Nat) (hi:i < 5) (h2:i ≠ 2) (V Ar:List Int):(runR p i V Ar).refused=false:=by
 refine doB_inv _ (fun R=>R.refused=false) p.vars p.seats (fun kind name e low R hP hR=>?_) (fun R B h=>h) (partOf p i) _ (kall_part hk i hi) rfl
 have h4:¬ kind=4:=fun e=>h2 (hP.1 e)
 unfold do0
 repeat' split
 all_goals first | exact hR | exact absurd ‹_› h4
theorem seatR_in {s n:Int} (h:2≤s):0≤seatR s n∧seatR s n < s:=by
 unfold seatR
 split <;> omega
theorem rest_in {p:Pr} (hk:Chk p) (i:Nat) (hi:i < 5) (V Ar:List Int):0≤(runR p i V Ar).rest∧(runR p i V Ar).rest < p.seats:=by
 have hs:=hk.seats
 refine doB_inv _ (fun R=>0≤R.rest∧R.rest < p.seats) p.vars p.seats (fun kind name e low R hP hR=>?_) (fun R B h=>h) (partOf p i) _ (kall_part hk i hi) (show 0≤(0:Int)∧(0:Int) < p.seats by omega)
 unfold do0
 repeat' split
 all_goals first | exact hR | exact seatR_in hs.1
open Go.RowKit So Mc
def ouR (i:Nat) (R:RS):Ou :=
 if R.refused=true then ⟨[],true,0,0,0,[],0⟩ else if i=1 then ⟨[],false,R.seat,0,0,[],0⟩ else if i=4 then ⟨[],false,0,0,0,R.asks,R.rest⟩
 else if i=2 then ⟨R.vars,false,0,R.cell,R.sides,[],0⟩ else ⟨R.vars,false,0,0,0,[],0⟩
theorem out_sim {p:Pr} (hk:Chk p) (i:Nat) {R:RS} {m:List Int} (h:CInv (mkP p) R m):outP p i (if R.refused then 2 else 1) m=ouR i R:=by
 have h0:=cells_pos p.vars
 have hkc:(kcN p:Int)=cells p.vars:=by unfold kcN;omega
 have hl:(m.length:Int)=cells p.vars+49:=h.len
 have hvl:(R.vars.length:Int)=cells p.vars:=h.vlen
 have hal:(R.asks.length:Int)=p.seats:=h.alen
 have hs:=hk.seats
 have g:∀ j:Nat,m.getD (kcN p+j) 0=mget m (cells p.vars+j):=fun j=>by
  unfold mget
  congr 1
  omega
 have hv:m.take (kcN p)=R.vars:=by
  refine List.ext_getElem (by rw [List.length_take];omega) (fun j h1 h2=>?_)
  have hj:=h.vars j zb85 (by show (j:Int) < cells p.vars;omega)
  unfold mget at hj
  simp only [Int.toNat_natCast] at hj
  rw [List.getElem_take]
  have e1:m.getD j 0=m[j]'(by omega):=by simp [show j < m.length by omega]
  have e2:R.vars.getD j 0=R.vars[j]:=by simp [h2]
  rw [← e1,hj,e2]
 have ha:(m.drop (kcN p+8)).take p.seats.toNat=R.asks:=by
  refine List.ext_getElem (by rw [List.length_take,List.length_drop];omega) (fun j h1 h2=>?_)
  have hj:=(h.asks j zb85 (by show (j:Int) < p.seats;omega)).1
  rw [List.getElem_take,List.getElem_drop]
  have e1:m.getD (kcN p+8+j) 0=m[kcN p+8+j]'(by omega):=by simp [show kcN p+8+j < m.length by omega]
  have e2:R.asks.getD j 0=R.asks[j]:=by simp [h2]
  have e3:mget m (cells p.vars+8+j)=m.getD (kcN p+8+j) 0:=by unfold mget;congr 1;omega
  have hj':mget m (cells p.vars+8+j)=R.asks.getD j 0:=by have:=hj;simpa using this
  rw [← e1,← e3,hj',e2]
 unfold outP ouR
 cases hr:R.refused with
 | true=>simp
 | false =>
  simp only [Bool.false_eq_true,if_false,show ¬ (1:Int)=2 by decide]
  rw [g 4,g 7,g 5,g 6,hv,ha,show mget m (cells p.vars+(4:Nat))=R.seat from h.seat,show mget m (cells p.vars+(7:Nat))=R.rest from h.rest,show mget m (cells p.vars+(5:Nat))=R.cell from h.cell,show mget m (cells p.vars+(6:Nat))=R.sides from h.sides]
theorem crun_full (cb N:Nat) (k:Cd) (p:Pr) (i:Nat) (hi:i < 5) (vs ag:Sl3) (V Ar:List Int) (w:World) (hN:N≤w.heap.size) (hC:CodeAt w N cb k p) (hv:M32 w N vs V) (ha:M32 w N ag Ar) (hk:Chk p) (hl:¬ longAt p) (hst:∀ i,i < 5→stepN p i≤65536) (hops:OpsAt w) (hf:fitsN p i V Ar=0) :
 Calls Tryz.prog 15 #[.pointer (some ⟨cb,0,none⟩),.int .i64 (i:Nat),vs.v,ag.v] w fun e w'=>Ext w w'∧∃ v,e=.returned (.tuple #[.agg v.c,.int .i64 0])∧OutNew w w' v (ouR i (runR p i V Ar)):=by
 refine (crun_any cb N k p i vs ag V Ar w hN hC hv ha hk hl hst hops).mono ?_
 rintro e w' ⟨hx,ho⟩
 refine ⟨hx,?_⟩
 obtain ⟨pc,m,hls,hci⟩:=run_sim hk i hi (hst i hi) hf hv.2.1 ha.2.1
 cases ho with
 | bad h=>exact absurd hf h
 | runs K hK h hh =>
  have:K=i:=by omega
  subst this
  rw [hls] at hh
  have hh:(if (runR p K V Ar).refused=true then (2:Int) else 1)=0:=hh
  split at hh <;> omega
 | ok K hK h hh v hv =>
  have:K=i:=by omega
  subst this
  rw [hls] at hv
  refine ⟨v,rfl,?_⟩
  rw [← out_sim hk K hci]
  exact hv
theorem fitArg_in {v:Vr} (h1:i32ok v.low) (h2:i32ok v.high) (h3:v.low≤v.high) (n:Int):v.low≤fitArg v n∧fitArg v n≤v.high∧i32ok (fitArg v n):=by
 unfold fitArg
 have a:=Int.emod_nonneg (n % 18446744073709551616) (show v.high - v.low+1 ≠ 0 by omega)
 have b:=Int.emod_lt_of_pos (n % 18446744073709551616) (show 0 < v.high - v.low+1 by omega)
 generalize n % 18446744073709551616 % (v.high - v.low+1)=y at a b
 unfold i32ok at *
 omega
theorem fitV_ok {p:Pr} {i:Nat} {V:List Int} (h:∀ x ∈ V,i32ok x):∀ x ∈ fitV p i V,i32ok x:=fun x hx=>by
 unfold fitV at hx
 split at hx
 ·simp at hx
 ·obtain ⟨j,-,e⟩:=List.mem_map.1 hx
  rw [← e]
  exact getD_ok h j
theorem fitA_ok {p:Pr} (hk:Chk p) {i:Nat} {A:List Int} (h:∀ x ∈ A,i32ok x):∀ x ∈ fitA p i A,i32ok x:=fun x hx=>by
 unfold fitA at hx
 obtain ⟨j,hj,e⟩:=List.mem_map.1 hx
 rw [List.mem_range] at hj
 rw [← e]
 unfold argN
 split
 ·rename_i e2
  have hj':j < p.params.length:=by unfold giveN at hj;rw [if_pos zb85] at hj;exact hj
  obtain ⟨-,-,a1,a2,a3⟩:=(par_ok (knV p.vars) p.params [] hk.pars).1 p.params[j] (List.getElem_mem hj')
  rw [show (p.params[j]?).getD ⟨E0,0,0,0⟩=p.params[j] by simp [hj']]
  exact (fitArg_in a1 a2 a3 _).2.2
 ·exact getD_ok h j
theorem fit_fits {p:Pr} (hk:Chk p) {i:Nat} (hi:i < 5) (V A:List Int):fitsN p i (fitV p i V) (fitA p i A)=0:=by
 have h0:=cells_pos p.vars
 have hkc:(kcN p:Int)=cells p.vars:=by unfold kcN;omega
 have h1:((fitV p i V).length:Int)=wantN p i:=by
  unfold fitV wantN
  by_cases e:i=0
  ·rw [if_pos e,if_pos zb85];rfl
  ·rw [if_neg e,if_neg zb85,List.length_map,List.length_range];exact hkc
 have h2:(fitA p i A).length=giveN p i:=by unfold fitA;rw [List.length_map,List.length_range]
 unfold fitsN
 rw [if_neg zb85,if_neg (by rw [h1,h2];simp)]
 by_cases e:i=2
 ·subst e
  have hb:badA p.params (fitA p 2 A)=false:=badA_false (fun j a b=>by
   obtain ⟨-,-,a1,a2,a3⟩:=(par_ok (knV p.vars) p.params [] hk.pars).1 p.params[j] (List.getElem_mem a)
   have e:(fitA p 2 A)[j]=fitArg p.params[j] (A.getD j 0):=by
    simp only [fitA,List.getElem_map,List.getElem_range,argN,if_true]
    rw [show (p.params[j]?).getD ⟨E0,0,0,0⟩=p.params[j] by simp [a]]
   rw [e]
   have:=fitArg_in a1 a2 a3 (A.getD j 0)
   omega)
  rw [hb,if_neg zb86]
 ·rw [if_neg zb85]
end Go.Proofs.YtbfbabbcdochjaaGreatDoor
