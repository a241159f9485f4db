/- Several texts joined: Jp, Jq. -/
import Derived.Lib.SlBuf
import Derived.Test.YtbfbabbcdochjaaGreatDoorRxpk
import Derived.Test.YtbfbabbcdochjaaGreatDoorRxbm
set_option maxHeartbeats 4000000
namespace Go.Proofs.YtbfbabbcdochjaaGreatDoor
open Go.RowKit So Mc
def M32 (w:World) (N:Nat) (s:Sl3) (l:List Int):Prop:=s.n=l.length∧(∀ x ∈ l,i32ok x)∧∃ b off,(0 < s.n→s.A=some ⟨b,off,none⟩)∧(0 < s.n→b < N∧Row w b off (mems l))
theorem M32.kept {S:Nat→Prop} {w w':World} {N:Nat} {s:Sl3} {l:List Int} (h:M32 w N s l) (hk:Kept S w w') (hS:∀ i,i < N→¬ S i):M32 w' N s l:=by
 obtain ⟨h1,h2,b,off,h3,h4⟩:=h
 exact ⟨h1,h2,b,off,h3,fun h0=>⟨(h4 h0).1,(h4 h0).2.kept hk (hS b (h4 h0).1)⟩⟩
theorem M32.ext {w w':World} {N:Nat} {s:Sl3} {l:List Int} (h:M32 w N s l) (hk:Ext w w'):M32 w' N s l:=h.kept hk (fun _ _ f=>f)
theorem M32.mono {w:World} {N N':Nat} {s:Sl3} {l:List Int} (h:M32 w N s l) (hN:N≤N'):M32 w N' s l:=by
 obtain ⟨h1,h2,b,off,h3,h4⟩:=h
 exact ⟨h1,h2,b,off,h3,fun h0=>⟨by have:=(h4 h0).1;omega,(h4 h0).2⟩⟩
theorem I32S.words {w:World} {N:Nat} {s:Sl3} {l:List Int} (h:I32S w N s l) (hl:∀ x ∈ l,i32ok x):M32 w N s l:=by
 obtain ⟨h1,h2⟩:=h
 by_cases h0:0 < s.n
 ·obtain ⟨b,a1,a2,a3⟩:=h2 h0
  exact ⟨h1,hl,b,0,fun _=>a1,fun _=>⟨a2,a3⟩⟩
 ·exact ⟨h1,hl,0,0,fun h=>absurd h h0,fun h=>absurd h h0⟩
def badA (l:List Vr) (a:List Int):Bool:=(l.zip a).any fun x=>decide (x.2 < x.1.low) || decide (x.1.high < x.2)
theorem badA_true {l:List Vr} {a:List Int} (i:Nat) (h1:i < l.length) (h2:i < a.length) (h:a[i] < l[i].low ∨ l[i].high < a[i]):badA l a=true:=by
 unfold badA
 rw [List.any_eq_true]
 have hz:i < (l.zip a).length:=by rw [List.length_zip];omega
 refine ⟨(l.zip a)[i],List.getElem_mem hz,?_⟩
 rw [List.getElem_zip]
 rcases h with h | h
 ·simp [h]
 ·simp [h]
theorem badA_false {l:List Vr} {a:List Int} (h:∀ i (h1:i < l.length) (h2:i < a.length),¬ (a[i] < l[i].low ∨ l[i].high < a[i])):badA l a=false:=by
 unfold badA
 rw [List.any_eq_false]
 intro x hx
 obtain ⟨i,hi,e⟩:=List.mem_iff_getElem.1 hx
 rw [List.length_zip] at hi
 rw [List.getElem_zip] at e
 have hq:=h i zb85 zb85
 subst e
 simp only [Bool.or_eq_true,decide_eq_true_eq]
 exact hq
def wantN (p:Pr) (part:Int):Int:=if part=0 then 0 else cells p.vars
def giveN (p:Pr) (part:Int):Nat:=if part=2 then p.params.length else if part=3 then 1 else 0
def fitsN (p:Pr) (part:Int) (V Ar:List Int):Int :=
 if part < 0 ∨ 4 < part then 1 else if ¬ (V.length:Int)=wantN p part ∨ ¬ Ar.length=giveN p part then 3
 else if part=2∧badA p.params Ar=true then 2 else 0
set_option maxRecDepth 100000 in
theorem cfits_any (cb N:Nat) (k:Cd) (p:Pr) (part:Int) (vs ag:Sl3) (V Ar:List Int) (w:World) (hN:N≤w.heap.size) (hC:CodeAt w N cb k p) (hv:M32 w N vs V) (ha:M32 w N ag Ar) (hp:p.params.length≤4) :
 Calls Tryz.prog 39 #[.pointer (some ⟨cb,0,none⟩),.int .i64 part,vs.v,ag.v] w fun e w'=>e=.returned (.int .i64 (fitsN p part V Ar))∧Ext w w':=by
 obtain ⟨F,hF⟩:∃ F,F=fitsN p part V Ar:=⟨_,rfl⟩
 rw [← hF]
 have HC:=J hC
 have HV:=J hv
 have HA:=J ha
 have HN:=J hN
 have HF:=J hF
 have HP4:=J hp
 have HKC:=J hC.kc
 have HKP:=J hC.params.1
 clear hC hv ha hF hN hp
 by_cases hr:0≤part∧part < 5
 rotate_left
 ·have hb:(decide (0≤part) && decide (part < 5))=false:=by
   rw [Bool.and_eq_false_iff,decide_eq_false_iff_not,decide_eq_false_iff_not]
   omega
  have HF1:=J (show F=1 by rw [HF.out];unfold fitsN;rw [if_pos zb85])
  clear hr
  go_enter Tryz.func39,Tryz.ntmps39
  go_wp2_with fail
  refine (cis_any _ _).mono ?_
  rintro e w1 ⟨rfl,rfl⟩
  rw [hb]
  go_wp2_with fail
  go_ret
  exact ⟨ret_int HF1.out.symm,kR _ _⟩
 have hj:part=0 ∨ part=1 ∨ part=2 ∨ part=3 ∨ part=4:=by omega
 clear hr
 rcases hj with rfl | rfl | rfl | rfl | rfl
 ·skip
  go_enter Tryz.func39,Tryz.ntmps39
  go_wp2_with fail
  refine (cis_any _ _).mono ?_
  rintro e w1 ⟨rfl,rfl⟩
  go_upto_region 3 with (fail)
  refine zy40 ?_
  have yd:Ext w w.drew:=(kR _ w).drew
  (repeat first|refine qs3 ?_|refine qt3 yd zb29 ?_|refine qp3 yd ?_)
  (refine w3_act (fun K hK=>?_);go_simp)
  refine zy108 ?_;clear hK K;intro wA yA bA
  generalize hg:(w:World).heap.size=g at bA ⊢
  have HG:=J hg
  clear hg
  have l1:=bH bA
  have l2:=Blk.melts bA
  have l3:=bA.lt
  have BA:=J bA
  refine zy107 ?_;clear bA yd l1 l2 l3 yA;intro w4 HB HY
  by_cases e1:(vs.n:Int)=0
  rotate_left
  ·have q1:((vs.n:Int) != 0)=true:=bne_iff_ne.2 e1
   have hF1:F=3:=by
    have hl:=HV.out.1
    have hc:=HKC.out
    have hw:wantN p 0=0:=rfl
    exact zz96
   exact zz94
  have q1:((vs.n:Int) != 0)=false:=by rw [e1];simp
  have HE1:=J e1
  clear e1
  by_cases e2:(ag.n:Int)=0
  rotate_left
  ·have q2:((ag.n:Int) != 0)=true:=bne_iff_ne.2 e2
   have hF1:F=3:=by
    have hl:=HA.out.1
    have hc:=HKP.out
    have hw:giveN p 0=0:=rfl
    exact zz97
   exact zz89
  have q2:((ag.n:Int) != 0)=false:=by rw [e2];simp
  have HE2:=J e2
  clear e2
  have hok:¬ (¬ (V.length:Int)=wantN p 0 ∨ ¬ Ar.length=giveN p 0):=by
   have h1:=HV.out.1
   have h2:=HA.out.1
   have h3:=HKC.out
   have h4:=HKP.out
   have h5:=HE1.out
   have h6:=HE2.out
   have h7:wantN p 0=0:=rfl
   have h8:giveN p 0=0:=rfl
   rw [h7,h8]
   omega
  exact zz69
 ·skip
  go_enter Tryz.func39,Tryz.ntmps39
  go_wp2_with fail
  refine (cis_any _ _).mono ?_
  rintro e w1 ⟨rfl,rfl⟩
  go_upto_region 3 with (fail)
  refine zy40 ?_
  have yd:Ext w w.drew:=(kR _ w).drew
  (repeat first|refine qs3 ?_|refine qt3 yd zb29 ?_|refine qp3 yd ?_)
  (refine w3_act (fun K hK=>?_);go_simp)
  refine zy108 ?_;clear hK K;intro wA yA bA
  generalize hg:(w:World).heap.size=g at bA ⊢
  have HG:=J hg
  clear hg
  have l1:=bH bA
  have l2:=Blk.melts bA
  have l3:=bA.lt
  have BA:=J bA
  refine zy107 ?_;clear bA yd l1 l2 l3 yA;intro w4 HB HY
  by_cases e1:(vs.n:Int)=k.cells
  rotate_left
  ·have q1:((vs.n:Int) != k.cells)=true:=bne_iff_ne.2 e1
   have hF1:F=3:=by
    have hl:=HV.out.1
    have hc:=HKC.out
    have hw:wantN p 1=cells p.vars:=rfl
    exact zz96
   exact zz94
  have q1:((vs.n:Int) != k.cells)=false:=by rw [e1];simp
  have HE1:=J e1
  clear e1
  by_cases e2:(ag.n:Int)=0
  rotate_left
  ·have q2:((ag.n:Int) != 0)=true:=bne_iff_ne.2 e2
   have hF1:F=3:=by
    have hl:=HA.out.1
    have hc:=HKP.out
    have hw:giveN p 1=0:=rfl
    exact zz97
   exact zz89
  have q2:((ag.n:Int) != 0)=false:=by rw [e2];simp
  have HE2:=J e2
  clear e2
  have hok:¬ (¬ (V.length:Int)=wantN p 1 ∨ ¬ Ar.length=giveN p 1):=by
   have h1:=HV.out.1
   have h2:=HA.out.1
   have h3:=HKC.out
   have h4:=HKP.out
   have h5:=HE1.out
   have h6:=HE2.out
   have h7:wantN p 1=cells p.vars:=rfl
   have h8:giveN p 1=0:=rfl
   rw [h7,h8]
   omega
  exact zz69
 ·skip
  go_enter Tryz.func39,Tryz.ntmps39
  go_wp2_with fail
  refine (cis_any _ _).mono ?_
  rintro e w1 ⟨rfl,rfl⟩
  go_upto_region 3 with (fail)
  refine zy40 ?_
  have yd:Ext w w.drew:=(kR _ w).drew
  (repeat first|refine qs3 ?_|refine qt3 yd zb29 ?_|refine qp3 yd ?_)
  (refine w3_act (fun K hK=>?_);go_simp)
  refine zy108 ?_;clear hK K;intro wA yA bA
  generalize hg:(w:World).heap.size=g at bA ⊢
  have HG:=J hg
  clear hg
  have l1:=bH bA
  have l2:=Blk.melts bA
  have l3:=bA.lt
  have BA:=J bA
  refine zy107 ?_;clear bA yd l1 l2 l3 yA;intro w4 HB HY
  by_cases e1:(vs.n:Int)=k.cells
  rotate_left
  ·have q1:((vs.n:Int) != k.cells)=true:=bne_iff_ne.2 e1
   have hF1:F=3:=by
    have hl:=HV.out.1
    have hc:=HKC.out
    have hw:wantN p 2=cells p.vars:=rfl
    exact zz96
   exact zz94
  have q1:((vs.n:Int) != k.cells)=false:=by rw [e1];simp
  have HE1:=J e1
  clear e1
  by_cases e2:(ag.n:Int)=(k.params.n:Nat)
  rotate_left
  ·have q2:((ag.n:Int) != (k.params.n:Nat))=true:=bne_iff_ne.2 e2
   have hF1:F=3:=by
    have hl:=HA.out.1
    have hc:=HKP.out
    have hw:giveN p 2=p.params.length:=rfl
    exact zz97
   exact zz89
  have q2:((ag.n:Int) != (k.params.n:Nat))=false:=by rw [e2];simp
  have HE2:=J e2
  clear e2
  have hok:¬ (¬ (V.length:Int)=wantN p 2 ∨ ¬ Ar.length=giveN p 2):=by
   have h1:=HV.out.1
   have h2:=HA.out.1
   have h3:=HKC.out
   have h4:=HKP.out
   have h5:=HE1.out
   have h6:=HE2.out
   have h7:wantN p 2=cells p.vars:=rfl
   have h8:giveN p 2=p.params.length:=rfl
   rw [h7,h8]
   omega
  have l1:=bC HB.out
  have l2:=HB.out.lt
  have HFB:=J (show F=if badA p.params Ar=true then 2 else 0 by
   rw [HF.out];unfold fitsN
   rw [if_neg zb85,if_neg hok]
   cases badA p.params Ar <;> simp)
  clear hok
  obtain ⟨hpn,hpf,hpo,pb,po,hpA,hpE⟩:=HC.out.params
  obtain ⟨han,hao,ab,ao,haA,haE⟩:=HA.out
  have HPA:=J hpA
  have HPE:=J hpE
  have HAN:=J (show Ar.length=p.params.length by have:=HE2.out;omega)
  have HAO:=J hao
  have HAA:=J haA
  have HAE:=J haE
  have HNN:=J (show ag.n=k.params.n by have:=HE2.out;omega)
  have hpm:k.params.n≤4:=by have:=HKP.out;have:=HP4.out;omega
  clear hpn hpf hpo hpA hpE han hao haA haE
  have i1:=bC (bX HC.out.box HY.out)
  have i2:=(bX HC.out.box HY.out).lt
  go_wp2_with fail
  clear i1 i2 l1 l2
  go_loopw [51] (fun t51 wr=>∃ j:Nat,j≤k.params.n∧t51=.int .i64 j∧(∀ i (h1:i < p.params.length) (h2:i < Ar.length),i < j→¬ (Ar[i] < p.params[i].low ∨ p.params[i].high < Ar[i]))∧Ext w wr) (fun t51 _=>k.params.n - (intOf t51).toNat)
  case atStart=>exact ⟨0,Nat.zero_le _,rfl,fun i _ _ h=>by omega,HY.out⟩
  case round =>
   obtain ⟨j,hj,rfl,hall,hk⟩:=hrel
   have HALL:=J hall
   have HK:=J hk
   clear hall hk
   by_cases hlt:j < k.params.n
   ·have hjl:j < p.params.length:=by have:=HKP.out;omega
    have hja:j < Ar.length:=by have:=HAN.out;omega
    have hltI:(j:Int) < k.params.n:=by omega
    have hltA:(j:Int) < ag.n:=by have:=HNN.out;omega
    have hltB:j < ag.n:=by have:=HNN.out;omega
    have hAA:=HPA.out zb85
    have hrow:=(HPE.out zb85).2.ext HK.out
    obtain ⟨u2,u3⟩:=vr_at hrow j hjl
    have u1:=hrow.lt
    have hrA:=(HAE.out zb85).2.ext HK.out
    have hA2:=HAA.out zb85
    have HXO:=J (HAO.out Ar[j] (List.getElem_mem hja))
    have HBAD:=J (badA_true j hjl hja)
    have HGO:=J (show ¬ (Ar[j] < p.params[j].low ∨ p.params[j].high < Ar[j])→∀ i (h1:i < p.params.length) (h2:i < Ar.length),i < j+1→¬ (Ar[i] < p.params[i].low ∨ p.params[i].high < Ar[i]) from fun h i h1 h2 hi=>by
     rcases (by omega:i < j ∨ i=j) with q | q
     ·exact HALL.out i h1 h2 q
     ·subst q;exact h)
    have hAc:=Row.mem hrA j hja
    generalize p.params[j]=v at u3 HBAD HGO
    generalize Ar[j]=x at HXO HBAD HGO hAc
    have y0:=(kR (fun _=>False) wr).alloc (.cells (vcells v) 109)
    have hB0:=bN wr 109 (vcells v)
    have HAC:=J ((Kept.cell y0 (p:=⟨ab,ao+j,none⟩) hrA.lt (fun f=>f)).trans hAc)
    have HAL:=J (Nat.lt_of_lt_of_le hrA.lt y0.size)
    clear hrow hrA hAc
    rw [hAA,hA2]
    go_upto_region 12 with (fail)
    generalize (wr.alloc (.cells (vcells v) 109))=W6 at y0 hB0 HAC HAL ⊢
    generalize wr.heap.size=g2 at hB0 ⊢
    have HG6:=J hB0
    have HK6:=J (HK.out.trans y0)
    clear y0 hB0 u1 u2 u3 hAA hA2
    have b1:=bC HG6.out
    have b2:=HG6.out.lt
    have b3:=HAC.out
    have b4:=HAL.out
    have hwx:IntKind.i64.wrap x=x:=wrap_i64 (by have:=HXO.out;unfold i32ok at this;unfold i64ok;omega)
    by_cases c1:x < v.low
    ·have d1:decide (x < v.low)=true:=decide_eq_true c1
     have HF2:=J (show F=2 by rw [HFB.out,HBAD.out (Or.inl c1)];rfl)
     clear c1
     go_quiet (fail)
     go_wp2_with fail
     go_ret
     exact ⟨ret_int HF2.out.symm,Kept.drewN HK6.out _⟩
    ·have d1:decide (x < v.low)=false:=decide_eq_false c1
     by_cases c2:v.high < x
     ·have d2:decide (v.high < x)=true:=decide_eq_true c2
      have HF2:=J (show F=2 by rw [HFB.out,HBAD.out (Or.inr c2)];rfl)
      clear c1 c2
      go_quiet (fail)
      go_wp2_with fail
      go_ret
      exact ⟨ret_int HF2.out.symm,Kept.drewN HK6.out _⟩
     ·have d2:decide (v.high < x)=false:=decide_eq_false c2
      have HNX:=J (HGO.out (fun h=>h.elim c1 c2))
      clear c1 c2
      go_quiet (fail)
      go_wp2_with fail
      go_roundw
      case rel=>exact ⟨j+1,hlt,by go_num,HNX.out,Kept.drewN HK6.out _⟩
      case measure=>simp only [intOf];omega
   ·obtain rfl:j=k.params.n:=by omega
    have HF0:=J (show F=0 by
     rw [HFB.out,badA_false (fun i h1 h2=>HALL.out i h1 h2 (by have:=HKP.out;omega))];rfl)
    go_wp2_with fail
    go_ret
    exact ⟨ret_int HF0.out.symm,HK.out⟩
 ·skip
  go_enter Tryz.func39,Tryz.ntmps39
  go_wp2_with fail
  refine (cis_any _ _).mono ?_
  rintro e w1 ⟨rfl,rfl⟩
  go_upto_region 3 with (fail)
  refine zy40 ?_
  have yd:Ext w w.drew:=(kR _ w).drew
  (repeat first|refine qs3 ?_|refine qt3 yd zb29 ?_|refine qp3 yd ?_)
  (refine w3_act (fun K hK=>?_);go_simp)
  refine zy108 ?_;clear hK K;intro wA yA bA
  generalize hg:(w:World).heap.size=g at bA ⊢
  have HG:=J hg
  clear hg
  have l1:=bH bA
  have l2:=Blk.melts bA
  have l3:=bA.lt
  have BA:=J bA
  refine zy107 ?_;clear bA yd l1 l2 l3 yA;intro w4 HB HY
  by_cases e1:(vs.n:Int)=k.cells
  rotate_left
  ·have q1:((vs.n:Int) != k.cells)=true:=bne_iff_ne.2 e1
   have hF1:F=3:=by
    have hl:=HV.out.1
    have hc:=HKC.out
    have hw:wantN p 3=cells p.vars:=rfl
    exact zz96
   exact zz94
  have q1:((vs.n:Int) != k.cells)=false:=by rw [e1];simp
  have HE1:=J e1
  clear e1
  by_cases e2:(ag.n:Int)=1
  rotate_left
  ·have q2:((ag.n:Int) != 1)=true:=bne_iff_ne.2 e2
   have hF1:F=3:=by
    have hl:=HA.out.1
    have hc:=HKP.out
    have hw:giveN p 3=1:=rfl
    exact zz97
   exact zz89
  have q2:((ag.n:Int) != 1)=false:=by rw [e2];simp
  have HE2:=J e2
  clear e2
  have hok:¬ (¬ (V.length:Int)=wantN p 3 ∨ ¬ Ar.length=giveN p 3):=by
   have h1:=HV.out.1
   have h2:=HA.out.1
   have h3:=HKC.out
   have h4:=HKP.out
   have h5:=HE1.out
   have h6:=HE2.out
   have h7:wantN p 3=cells p.vars:=rfl
   have h8:giveN p 3=1:=rfl
   rw [h7,h8]
   omega
  exact zz69
 ·skip
  go_enter Tryz.func39,Tryz.ntmps39
  go_wp2_with fail
  refine (cis_any _ _).mono ?_
  rintro e w1 ⟨rfl,rfl⟩
  go_upto_region 3 with (fail)
  refine zy40 ?_
  have yd:Ext w w.drew:=(kR _ w).drew
  (repeat first|refine qs3 ?_|refine qt3 yd zb29 ?_|refine qp3 yd ?_)
  (refine w3_act (fun K hK=>?_);go_simp)
  refine zy108 ?_;clear hK K;intro wA yA bA
  generalize hg:(w:World).heap.size=g at bA ⊢
  have HG:=J hg
  clear hg
  have l1:=bH bA
  have l2:=Blk.melts bA
  have l3:=bA.lt
  have BA:=J bA
  refine zy107 ?_;clear bA yd l1 l2 l3 yA;intro w4 HB HY
  by_cases e1:(vs.n:Int)=k.cells
  rotate_left
  ·have q1:((vs.n:Int) != k.cells)=true:=bne_iff_ne.2 e1
   have hF1:F=3:=by
    have hl:=HV.out.1
    have hc:=HKC.out
    have hw:wantN p 4=cells p.vars:=rfl
    exact zz96
   exact zz94
  have q1:((vs.n:Int) != k.cells)=false:=by rw [e1];simp
  have HE1:=J e1
  clear e1
  by_cases e2:(ag.n:Int)=0
  rotate_left
  ·have q2:((ag.n:Int) != 0)=true:=bne_iff_ne.2 e2
   have hF1:F=3:=by
    have hl:=HA.out.1
    have hc:=HKP.out
    have hw:giveN p 4=0:=rfl
    exact zz97
   exact zz89
  have q2:((ag.n:Int) != 0)=false:=by rw [e2];simp
  have HE2:=J e2
  clear e2
  have hok:¬ (¬ (V.length:Int)=wantN p 4 ∨ ¬ Ar.length=giveN p 4):=by
   have h1:=HV.out.1
   have h2:=HA.out.1
   have h3:=HKC.out
   have h4:=HKP.out
   have h5:=HE1.out
   have h6:=HE2.out
   have h7:wantN p 4=cells p.vars:=rfl
   have h8:giveN p 4=0:=rfl
   rw [h7,h8]
   omega
  exact zz69
open Go.RowKit So Mc
theorem mems_app (a b:List Int):mems (a ++ b)=mems a ++ mems b:=by simp [mems]
theorem i32cells:(Tryz.prog.info? 21).map (·.size)=some 1:=by kernel_rfl
theorem copyM (w:World) (g o dLen dCap:Nat) (cur:List Int) (hb:Blk w g 21 (mems cur).toArray) (N:Nat) (s:Sl3) (l:List Int) (hm:M32 w N s l) (hfit:o+l.length≤cur.length) (hd:l.length≤dLen) :
 ∃ w',(∀ ty,(Builtin.copy_ #[27,27] ty #[.slice (some ⟨g,o,none⟩) dLen dCap,s.v]).run Tryz.prog w=.ok (goInt l.length) w')∧Blk w' g 21 (mems (cur.take o ++ l ++ cur.drop (o+l.length))).toArray∧Kept (·=g) w w':=by
 obtain ⟨h1,h2,b,off,h3,h4⟩:=hm
 obtain ⟨A,n,c⟩:=s
 simp only at h1 h3 h4
 by_cases h0:0 < n
 ·obtain ⟨-,hr⟩:=h4 h0
  rw [h3 h0]
  refine ⟨putAt w g o (mems l).toArray,fun ty=>?_,?_,Kept.putAt (kR _ _) _ _ _ (fun _=>rfl)⟩
  ·have hlen:(mems l).length=Nat.min n dLen:=by rw [mems_len];show l.length=min n dLen;omega
   have h:=run_copy_row Tryz.prog w 27 27 ty 21 g o dLen dCap ⟨b,off,none⟩ n c (mems cur).toArray 21 (mems l) Tryz.underlying27 i32cells hb hlen (fun j v hv=>by
    have hj:j < l.length:=by
     have:=(List.getElem?_eq_some_iff.1 hv).1
     rwa [mems_len] at this
    have hq:=hr.mem j hj
    have e:(⟨b,off,none⟩:Addr).add j=⟨b,off+j,none⟩:=by unfold Addr.add;split <;> simp_all
    rw [e,hq,← hv]
    simp [mems,hj]) (by simpa [mems_len] using hfit) (flatL_all (mems_flatL l))
   rw [mems_len] at h
   show (Builtin.copy_ #[27,27] ty #[.slice (some ⟨g,o,none⟩) dLen dCap,.slice (some ⟨b,off,none⟩) n c]).run Tryz.prog w=_
   rw [h,putAt_eq_setRow hb]
   simp [splice,mems_len]
  ·have hp:=Blk.put_ hb o (mems l).toArray
   have e:splice (mems cur).toArray o (mems l).toArray=(mems (cur.take o ++ l ++ cur.drop (o+l.length))).toArray:=by
    simp [splice,mems,List.map_take,List.map_drop]
   rw [e] at hp
   exact hp
 ·have hl0:l=[]:=List.length_eq_zero_iff.1 zb85
  subst hl0
  have hn:n=0:=by omega
  subst hn
  refine ⟨w,fun ty=>?_,?_,kR _ _⟩
  ·exact run_copy_none (P:=Tryz.prog) w 27 27 ty 21 _ _ _ _ _ _ Tryz.underlying27 i32cells (by show min 0 dLen=0;omega)
  ·have e:cur.take o ++ [] ++ cur.drop (o+([]:List Int).length)=cur:=by simp
   rw [e]
   exact hb
theorem slice32 (W:World) (g n l:Nat) (h:l < n):(Instr.slice 27 (.slice (some ⟨g,0,none⟩) n n) (some (.int .i64 (l:Int))) none none).run Tryz.prog W=.ok (.slice (some ⟨g,l,none⟩) (n - l) (n - l)) W:=by
 rw [Lib.run_slice_tailV W 27 21 Tryz.underlying27 (fun w=>sizeOf_run zb83 w) g n l zb85]
 unfold Lib.tailV
 rw [if_neg zb85]
def mem0 (p:Pr) (part:Int) (V Ar:List Int):List Int:=(if part=0 then firsts p.vars else V) ++ (Ar ++ List.replicate (49 - Ar.length) 0)
def memN (p:Pr):Nat:=(cells p.vars+49).toNat
inductive StateOut (p:Pr) (part:Int) (V Ar:List Int) (w w':World):Ending→Prop
 | bad (h:¬ fitsN p part V Ar=0):StateOut p part V Ar w w' (.returned (.tuple #[.agg (stCells 0 none 0 0 0),.int .i64 (fitsN p part V Ar)]))
 | ok (h:fitsN p part V Ar=0) (g:Nat) (hg:w.heap.size≤g) (hb:Blk w' g 21 (mems (mem0 p part V Ar)).toArray) :
  StateOut p part V Ar w w' (.returned (.tuple #[.agg (stCells 0 (some ⟨g,0,none⟩) (memN p) (memN p) 0),.int .i64 0]))
theorem StateOut.bad' {p:Pr} {part:Int} {V Ar:List Int} {w w':World} {F:Int} (e:F=fitsN p part V Ar) (h:¬ F=0):StateOut p part V Ar w w' (.returned (.tuple #[.agg (stCells 0 none 0 0 0),.int .i64 F])):=by
 subst e
 exact .bad h
theorem firsts_ok {p:Pr} (h:Chk p):∀ x ∈ firsts p.vars,i32ok x:=by
 have hv:=chkVars_mem p.vars [] h.vars
 generalize p.vars=l at hv
 induction l with
 | nil=>intro x hx;simp [firsts] at hx
 | cons v r ih =>
  intro x hx
  rw [firsts,List.mem_append,List.mem_replicate] at hx
  rcases hx with ⟨-,e⟩ | hx
  ·have:=hv v (List.mem_cons_self ..)
   subst e
   unfold i32ok at *
   omega
  ·exact ih (fun u hu=>hv u (List.mem_cons_of_mem _ hu)) x hx
theorem fitsN_zero {p:Pr} {part:Int} {V Ar:List Int} (h:fitsN p part V Ar=0):0≤part∧part≤4∧(V.length:Int)=wantN p part∧Ar.length=giveN p part∧(part=2→badA p.params Ar=false):=by
 unfold fitsN at h
 split at h
 ·omega
 ·split at h
  ·omega
  ·rename_i h1 h2
   refine ⟨by omega,by omega,Classical.byContradiction fun q=>h2 (Or.inl q),Classical.byContradiction fun q=>h2 (Or.inr q),fun e=>?_⟩
   split at h
   ·omega
   ·rename_i h3
    cases hb:badA p.params Ar with
    | false=>rfl
    | true=>exact absurd ⟨e,hb⟩ h3
set_option maxRecDepth 100000 in
theorem cstate_any (cb N:Nat) (k:Cd) (p:Pr) (part:Int) (vs ag:Sl3) (V Ar:List Int) (w:World) (hN:N≤w.heap.size) (hC:CodeAt w N cb k p) (hv:M32 w N vs V) (ha:M32 w N ag Ar) (hk:Chk p) :
 Calls Tryz.prog 19 #[.pointer (some ⟨cb,0,none⟩),.int .i64 part,vs.v,ag.v] w fun e w'=>Ext w w'∧StateOut p part V Ar w w' e:=by
 have HC:=J hC
 have HV:=J hv
 have HA:=J ha
 have HN:=J hN
 have HK:=J hk
 have hfit:=fun w' (y:Ext w w')=>cfits_any cb N k p part vs ag V Ar w' (Nat.le_trans hN y.size) (hC.ext y) (hv.ext y) (ha.ext y) hk.np
 obtain ⟨F,hF⟩:∃ F,F=fitsN p part V Ar:=⟨_,rfl⟩
 rw [← hF] at hfit
 have HF:=J hF
 clear hC hv ha hN hF hk
 have y0:=(kR (fun _=>False) w).alloc (.cells #[.int .i64 0,.slice none 0 0,.int .i64 0] 49)
 have b0:=bN w 49 #[.int .i64 0,.slice none 0 0,.int .i64 0]
 go_enter Tryz.func19,Tryz.ntmps19
 go_upto_region 1 with (fail)
 generalize (w.alloc (.cells #[.int .i64 0,.slice none 0 0,.int .i64 0] 49))=W1 at y0 b0 ⊢
 generalize hrb:(w:World).heap.size=rb at b0 ⊢
 have HRB:=J hrb
 have HB0:=J b0
 have HY0:=J y0
 clear b0 y0 hrb
 go_wp2_with fail
 refine (hfit _ HY0.out).mono ?_
 rintro e w2 ⟨rfl,y2⟩
 clear hfit
 have HY2:=J y2
 have HB2:=J (bX HB0.out y2)
 clear y2
 by_cases h0:F=0
 rotate_left
 ·have hne:(F != 0)=true:=bne_iff_ne.2 h0
  have HF0:=J h0
  clear h0
  have l1:=bH HB2.out
  have l2:=Blk.melts HB2.out
  have l3:=HB2.out.lt
  go_wp2_with fail
  have kp:Kept (·=rb) w2 (putAt w2 rb 0 #[.int .i64 0,.slice none 0 0,.int .i64 0]):=Kept.putAt (kR _ _) _ 0 _ (fun _=>rfl)
  refine ret_ci (t:=49) (g:=rb) (cs:=stCells 0 none 0 0 0) Tryz.results19 rfl rfl aggMst (by exact sizeMst) (by exact Blk.put_ HB2.out 0 _) ⟨?_,.bad' HF.out HF0.out⟩
  exact (HY0.out.trans HY2.out).trans' kp (fun i hi e=>by have:=HRB.out;omega)
 have HF0:=J (show fitsN p part V Ar=0 by rw [← HF.out];exact h0)
 rw [h0]
 clear h0
 obtain ⟨hp0,hp4,hVl,hAl,hAb⟩:=fitsN_zero HF0.out
 have HVL:=J hVl
 have HAL:=J (show Ar.length≤4 by have:=HK.out.np;unfold giveN at hAl;split at hAl;omega;split at hAl <;> omega)
 clear hVl hAl hAb hp0 hp4
 have hcp:=cells_pos p.vars
 have hc64:=HK.out.cells
 have hn:k.cells+49=((memN p:Nat):Int):=by rw [HC.out.kc];unfold memN;omega
 have HMN:=J (show (memN p:Int)=cells p.vars+49 by unfold memN;omega)
 have HKC:=J HC.out.kc
 have HC64:=J (And.intro hcp hc64)
 have hkcb:=HC.out.kc
 clear hcp hc64
 have HNM:=J hn
 clear hn hkcb
 have c2:=HC.out.ext (HY0.out.trans HY2.out)
 go_upto_region 4 with (fail)
 have hwords:=cwords_any cb k w2 c2.box (by have:=HC64.out;have:=HKC.out;omega)
 rw [HNM.out] at hwords
 go_wp2_with fail
 refine hwords.mono ?_
 rintro e w3 ⟨rfl,rfl⟩
 clear hwords
 go_wp2_with fail
 refine (mnew_any (memN p) (by have:=HMN.out;have:=HC64.out;omega) (by have:=HMN.out;have:=HC64.out;omega) _).mono ?_
 rintro e w3 ⟨g,rfl,hbg,y3,hgl⟩
 have y4:=(kR (fun _=>False) w3).alloc (.cells #[.int .i64 0,.slice (some ⟨g,0,none⟩) (memN p) (memN p),.int .i64 0] 49)
 have b4:=bN w3 49 #[.int .i64 0,.slice (some ⟨g,0,none⟩) (memN p) (memN p),.int .i64 0]
 go_upto_region 5 with (fail)
 generalize (w3.alloc (.cells #[.int .i64 0,.slice (some ⟨g,0,none⟩) (memN p) (memN p),.int .i64 0] 49))=w4 at y4 b4 ⊢
 have HGL:=J (show g < w3.heap.size from hbg.lt)
 have HBG:=J (bX hbg y4)
 generalize hsb:(w3:World).heap.size=sb at b4 HGL ⊢
 have HY4:=J (y3.trans y4)
 have HB4:=J (bX HB2.out (y3.trans y4))
 have HSB:=J b4
 have HGE:=J (show w.heap.size≤g by have:=HY0.out.size;have:=HY2.out.size;omega)
 have HRL:=J (show rb < g by have:=HB2.out.lt;omega)
 clear hbg y3 hgl y4 b4 hsb c2
 have i1:=bC HSB.out
 have i2:=HSB.out.lt
 by_cases hp0:part=0
 ·have HP0:=J hp0
  have hpe:(part == 0)=true:=by simp [hp0]
  clear hp0
  have q1:=bC (HC.out.ext ((HY0.out.trans HY2.out).trans HY4.out)).box
  have q2:=(HC.out.ext ((HY0.out.trans HY2.out).trans HY4.out)).box.lt
  go_upto_region 9 with (fail)
  clear q1 q2
  have hxl:((firsts p.vars).length:Int)=cells p.vars:=firsts_len p.vars
  have hmx:M32 w4 N k.first (firsts p.vars):=I32S.words (HC.out.ext ((HY0.out.trans HY2.out).trans HY4.out)).first (firsts_ok HK.out)
  obtain ⟨w5,hr5,hb5,hk5⟩:=copyM w4 g 0 (memN p) (memN p) (List.replicate (memN p) 0) HBG.out N k.first (firsts p.vars) hmx (by have:=HMN.out;simp;omega) (by have:=HMN.out;omega)
  have e5:(List.replicate (memN p) (0:Int)).take 0 ++ (firsts p.vars) ++ (List.replicate (memN p) 0).drop (0+(firsts p.vars).length)=(firsts p.vars) ++ List.replicate 49 0:=by
   have:=HMN.out
   rw [List.drop_replicate,List.take_zero,List.nil_append,show memN p - (0+(firsts p.vars).length)=49 by omega]
  rw [e5] at hb5
  have HM5:=J (show mem0 p part V Ar=(firsts p.vars) ++ (Ar ++ List.replicate (49 - Ar.length) 0) from by unfold mem0;rw [if_pos HP0.out])
  have HXL:=J hxl
  have HB5:=J hb5
  have HK5:=J hk5
  have hgs:¬ sb=g:=by have:=HGL.out;omega
  clear hmx e5 hb5 hk5 hxl
  go_upto_region 9 with (fail)
  go_step
  iterate 3 refine qls ?_
  refine Lib.wpList_copy_run _ rfl _ _ 27 27 rfl _ _ rfl rfl (hr5 _) ?_
  clear hr5 i1 i2
  have HS5:=J (bK HSB.out HK5.out hgs)
  have HC5:=J (bK (HC.out.ext ((HY0.out.trans HY2.out).trans HY4.out)).box HK5.out (by have:=HGE.out;have:=HC.out.lt;have:=HN.out;omega))
  have HA5:=J (M32.kept (HA.out.ext ((HY0.out.trans HY2.out).trans HY4.out)) HK5.out (fun i hi e=>by have:=HGE.out;have:=HN.out;omega))
  go_upto_region 10 with (fail)
  refine qr3 (fun wz=>Ext w5 wz) [(0,2),(1,1),(2,2),(3,2),(4,2),(5,1),(6,2),(7,2),(8,2),(9,0)] ?_;refine qrl ?_
  have yd:Ext w5 w5.drew:=(kR _ w5).drew
  have hkw:IntKind.i64.wrap k.cells=k.cells:=wrap_i64 (by have:=HC64.out;have:=HKC.out;unfold i64ok;omega)
  (repeat first|refine qs3 ?_|refine qt3 yd zb10 ?_|refine qp3 yd ?_)
  have hXC:∃ kc:Nat,k.cells=(kc:Int)∧memN p=kc+49∧(firsts p.vars).length=kc:=⟨k.cells.toNat,by have:=HC64.out;have:=HKC.out;omega,by have:=HC64.out;have:=HKC.out;have:=HMN.out;omega,by have:=HXL.out;have:=HC64.out;have:=HKC.out;omega⟩
  obtain ⟨kc,hk1,hk2,hk3⟩:=hXC
  have hsl:=fun W=>slice32 W g (memN p) kc zb85
  rw [show memN p - kc=49 by omega,← hk1] at hsl
  have HKS:=J (And.intro hk1 (And.intro hk2 hk3))
  clear hk1 hk2 hk3
  (repeat refine qs3 ?_)
  clear hsl
  obtain ⟨hk1,hk2,hk3⟩:=HKS.out
  clear hk1
  obtain ⟨w6,hr6,hb6,hk6⟩:=copyM w5.drew g kc 49 49 ((firsts p.vars) ++ List.replicate 49 0) HB5.out.drew N ag Ar (HA5.out.ext yd) (by have:=HAL.out;simp;omega) (by have:=HAL.out;omega)
  have e6:((firsts p.vars) ++ List.replicate 49 (0:Int)).take kc ++ Ar ++ ((firsts p.vars) ++ List.replicate 49 0).drop (kc+Ar.length)=mem0 p part V Ar:=by
   rw [HM5.out,← hk3,List.take_left,← List.drop_drop,List.drop_left,List.drop_replicate,List.append_assoc]
  exact zz17
 ·have HP0:=J hp0
  have hpe:(part == 0)=false:=by simp [hp0]
  clear hp0
  go_upto_region 9 with (fail)
  have hxl:(V.length:Int)=cells p.vars:=by have h:=HVL.out;unfold wantN at h;rw [if_neg HP0.out] at h;exact h
  have hmx:M32 w4 N vs V:=HV.out.ext ((HY0.out.trans HY2.out).trans HY4.out)
  obtain ⟨w5,hr5,hb5,hk5⟩:=copyM w4 g 0 (memN p) (memN p) (List.replicate (memN p) 0) HBG.out N vs V hmx (by have:=HMN.out;simp;omega) (by have:=HMN.out;omega)
  have e5:(List.replicate (memN p) (0:Int)).take 0 ++ V ++ (List.replicate (memN p) 0).drop (0+V.length)=V ++ List.replicate 49 0:=by
   have:=HMN.out
   rw [List.drop_replicate,List.take_zero,List.nil_append,show memN p - (0+V.length)=49 by omega]
  rw [e5] at hb5
  have HM5:=J (show mem0 p part V Ar=V ++ (Ar ++ List.replicate (49 - Ar.length) 0) from by unfold mem0;rw [if_neg HP0.out])
  have HXL:=J hxl
  have HB5:=J hb5
  have HK5:=J hk5
  have hgs:¬ sb=g:=by have:=HGL.out;omega
  clear hmx e5 hb5 hk5 hxl
  go_upto_region 9 with (fail)
  go_step
  iterate 3 refine qls ?_
  refine Lib.wpList_copy_run _ rfl _ _ 27 27 rfl _ _ rfl rfl (hr5 _) ?_
  clear hr5 i1 i2
  have HS5:=J (bK HSB.out HK5.out hgs)
  have HC5:=J (bK (HC.out.ext ((HY0.out.trans HY2.out).trans HY4.out)).box HK5.out (by have:=HGE.out;have:=HC.out.lt;have:=HN.out;omega))
  have HA5:=J (M32.kept (HA.out.ext ((HY0.out.trans HY2.out).trans HY4.out)) HK5.out (fun i hi e=>by have:=HGE.out;have:=HN.out;omega))
  go_upto_region 10 with (fail)
  refine qr3 (fun wz=>Ext w5 wz) [(0,2),(1,1),(2,2),(3,2),(4,2),(5,1),(6,2),(7,2),(8,2),(9,0)] ?_;refine qrl ?_
  have yd:Ext w5 w5.drew:=(kR _ w5).drew
  have hkw:IntKind.i64.wrap k.cells=k.cells:=wrap_i64 (by have:=HC64.out;have:=HKC.out;unfold i64ok;omega)
  (repeat first|refine qs3 ?_|refine qt3 yd zb10 ?_|refine qp3 yd ?_)
  have hXC:∃ kc:Nat,k.cells=(kc:Int)∧memN p=kc+49∧V.length=kc:=⟨k.cells.toNat,by have:=HC64.out;have:=HKC.out;omega,by have:=HC64.out;have:=HKC.out;have:=HMN.out;omega,by have:=HXL.out;have:=HC64.out;have:=HKC.out;omega⟩
  obtain ⟨kc,hk1,hk2,hk3⟩:=hXC
  have hsl:=fun W=>slice32 W g (memN p) kc zb85
  rw [show memN p - kc=49 by omega,← hk1] at hsl
  have HKS:=J (And.intro hk1 (And.intro hk2 hk3))
  clear hk1 hk2 hk3
  (repeat refine qs3 ?_)
  clear hsl
  obtain ⟨hk1,hk2,hk3⟩:=HKS.out
  clear hk1
  obtain ⟨w6,hr6,hb6,hk6⟩:=copyM w5.drew g kc 49 49 (V ++ List.replicate 49 0) HB5.out.drew N ag Ar (HA5.out.ext yd) (by have:=HAL.out;simp;omega) (by have:=HAL.out;omega)
  have e6:(V ++ List.replicate 49 (0:Int)).take kc ++ Ar ++ (V ++ List.replicate 49 0).drop (kc+Ar.length)=mem0 p part V Ar:=by
   rw [HM5.out,← hk3,List.take_left,← List.drop_drop,List.drop_left,List.drop_replicate,List.append_assoc]
  exact zz17
end Go.Proofs.YtbfbabbcdochjaaGreatDoor
