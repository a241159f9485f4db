/- Several texts joined: Jp. -/
import Derived.Test.YtbfbabbcdochjaaGreatDoorRapk
import Derived.Test.YtbfbabbcdochjaaGreatDoorRabn
set_option maxHeartbeats 4000000
namespace Go.Proofs.YtbfbabbcdochjaaGreatDoor
open Go.RowKit So Mc
def M32 (w:World) (N:Nat) (s:Sl3) (l:List Int):Prop:=s.n=l.length∧(∀ x ∈ l,i32ok x)∧∃ b off,(0 < s.n→s.A=some ⟨b,off,none⟩)∧(0 < s.n→b < N∧Row w b off (mems l))
theorem M32.kept {S:Nat→Prop} {w w':World} {N:Nat} {s:Sl3} {l:List Int} (h:M32 w N s l) (hk:Kept S w w') (hS:∀ i,i < N→¬ S i):M32 w' N s l:=by
 obtain ⟨h1,h2,b,off,h3,h4⟩:=h
 exact ⟨h1,h2,b,off,h3,fun h0=>⟨(h4 h0).1,(h4 h0).2.kept hk (hS b (h4 h0).1)⟩⟩
theorem M32.ext {w w':World} {N:Nat} {s:Sl3} {l:List Int} (h:M32 w N s l) (hk:Ext w w'):M32 w' N s l:=h.kept hk (fun _ _ f=>f)
theorem M32.mono {w:World} {N N':Nat} {s:Sl3} {l:List Int} (h:M32 w N s l) (hN:N≤N'):M32 w N' s l:=by
 obtain ⟨h1,h2,b,off,h3,h4⟩:=h
 exact ⟨h1,h2,b,off,h3,fun h0=>⟨by have:=(h4 h0).1;omega,(h4 h0).2⟩⟩
theorem I32S.words {w:World} {N:Nat} {s:Sl3} {l:List Int} (h:I32S w N s l) (hl:∀ x ∈ l,i32ok x):M32 w N s l:=by
 obtain ⟨h1,h2⟩:=h
 by_cases h0:0 < s.n
 ·obtain ⟨b,a1,a2,a3⟩:=h2 h0
  exact ⟨h1,hl,b,0,fun _=>a1,fun _=>⟨a2,a3⟩⟩
 ·exact ⟨h1,hl,0,0,fun h=>absurd h h0,fun h=>absurd h h0⟩
def badA (l:List Vr) (a:List Int):Bool:=(l.zip a).any fun x=>decide (x.2 < x.1.low) || decide (x.1.high < x.2)
theorem badA_true {l:List Vr} {a:List Int} (i:Nat) (h1:i < l.length) (h2:i < a.length) (h:a[i] < l[i].low ∨ l[i].high < a[i]):badA l a=true:=by
 unfold badA
 rw [List.any_eq_true]
 have hz:i < (l.zip a).length:=by rw [List.length_zip];omega
 refine ⟨(l.zip a)[i],List.getElem_mem hz,?_⟩
 rw [List.getElem_zip]
 rcases h with h | h
 ·simp [h]
 ·simp [h]
theorem badA_false {l:List Vr} {a:List Int} (h:∀ i (h1:i < l.length) (h2:i < a.length),¬ (a[i] < l[i].low ∨ l[i].high < a[i])):badA l a=false:=by
 unfold badA
 rw [List.any_eq_false]
 intro x hx
 obtain ⟨i,hi,e⟩:=List.mem_iff_getElem.1 hx
 rw [List.length_zip] at hi
 rw [List.getElem_zip] at e
 have hq:=h i (by omega) (by omega)
 subst e
 simp only [Bool.or_eq_true,decide_eq_true_eq]
 exact hq
def wantN (p:Pr) (part:Int):Int:=if part=0 then 0 else cells p.vars
def giveN (p:Pr) (part:Int):Nat:=if part=2 then p.params.length else if part=3 then 1 else 0
def fitsN (p:Pr) (part:Int) (V Ar:List Int):Int :=
 if part < 0 ∨ 4 < part then 1 else if ¬ (V.length:Int)=wantN p part ∨ ¬ Ar.length=giveN p part then 3
 else if part=2∧badA p.params Ar=true then 2 else 0
set_option maxRecDepth 100000 in
theorem cfits_any (cb N:Nat) (k:Cd) (p:Pr) (part:Int) (vs ag:Sl3) (V Ar:List Int) (w:World) (hN:N≤w.heap.size) (hC:CodeAt w N cb k p) (hv:M32 w N vs V) (ha:M32 w N ag Ar) (hp:p.params.length≤4) :
 Calls Tryz.prog 39 #[.pointer (some ⟨cb,0,none⟩),.int .i64 part,vs.v,ag.v] w fun e w'=>e=.returned (.int .i64 (fitsN p part V Ar))∧Ext w w':=by
 obtain ⟨F,hF⟩:∃ F,F=fitsN p part V Ar:=⟨_,rfl⟩
 rw [← hF]
 have HC:=zhd hC
 have HV:=zhd hv
 have HA:=zhd ha
 have HN:=zhd hN
 have HF:=zhd hF
 have HP4:=zhd hp
 have HKC:=zhd hC.kc
 have HKP:=zhd hC.params.1
 clear hC hv ha hF hN hp
 by_cases hr:0≤part∧part < 5
 rotate_left
 ·have hb:(decide (0≤part) && decide (part < 5))=false:=by
   rw [Bool.and_eq_false_iff,decide_eq_false_iff_not,decide_eq_false_iff_not]
   omega
  have HF1:=zhd (show F=1 by rw [HF.out];unfold fitsN;rw [if_pos (by omega)])
  clear hr
  go_enter Tryz.func39,Tryz.ntmps39
  go_wp2_with fail
  refine (cis_any _ _).mono ?_
  rintro e w1 ⟨rfl,rfl⟩
  rw [hb]
  go_wp2_with fail
  go_ret
  exact ⟨ret_int HF1.out.symm,Kept.refl _ _⟩
 have hj:part=0 ∨ part=1 ∨ part=2 ∨ part=3 ∨ part=4:=by omega
 clear hr
 rcases hj with rfl | rfl | rfl | rfl | rfl
 ·skip
  go_enter Tryz.func39,Tryz.ntmps39
  go_wp2_with fail
  refine (cis_any _ _).mono ?_
  rintro e w1 ⟨rfl,rfl⟩
  go_upto_region 3 with (fail)
  refine qr3 (fun wz=>Ext w wz) [(0,2),(1,2),(2,2),(3,1),(4,2),(5,2),(6,2),(7,1),(8,2),(9,2),(10,0),(11,2),(12,0)] ?_;refine qrl ?_
  have yd:Ext w w.drew:=(Kept.refl _ w).drew
  (repeat (first | refine qs3 ?_ | ((apply w3_take);(· exact yd);(· go_simp);(· (intro w1 hS;have d0:=Blk.ext HC.out.box hS;have d1:=Blk.cell d0;have d2:=d0.lt; go_simp;try with_reducible rfl));refine qnx ?_) | ((apply w3_pass);(· exact yd);(· go_simp);refine qnx ?_)))
  (refine w3_act (fun K hK=>?_);go_simp)
  have yA:Ext w (w.alloc (.cells #[.int .i64 0,.int .i64 0,.int .i64 0,.int .i64 0,.int .i64 0] 62)).drew:=((Kept.refl _ w).alloc _).drew
  refine hK.out _ _ (fun _=>yA) ?_
  clear hK K
  have bA:=(Blk.new w 62 #[.int .i64 0,.int .i64 0,.int .i64 0,.int .i64 0,.int .i64 0]).drew
  generalize (w.alloc (.cells #[.int .i64 0,.int .i64 0,.int .i64 0,.int .i64 0,.int .i64 0] 62)).drew=wA at yA bA ⊢
  generalize hg:(w:World).heap.size=g at bA ⊢
  have HG:=zhd hg
  clear hg
  have l1:=Blk.has bA
  have l2:=Blk.melts bA
  have l3:=bA.lt
  have BA:=zhd bA
  clear bA yd
  refine qf3 ?_
  have hkp:Kept (·=g) wA (putAt wA g 0 #[.int .i64 0,.int .i64 0,.int .i64 (k.params.n:Nat),.int .i64 1,.int .i64 0]):=Kept.putAt (Kept.refl _ _) _ 0 _ (fun _=>rfl)
  have HB:=zhd (show Blk (putAt wA g 0 #[.int .i64 0,.int .i64 0,.int .i64 (k.params.n:Nat),.int .i64 1,.int .i64 0]) g 62 #[.int .i64 0,.int .i64 0,.int .i64 (k.params.n:Nat),.int .i64 1,.int .i64 0] from Blk.put_ BA.out 0 _)
  have HY:=zhd (show Ext w (putAt wA g 0 #[.int .i64 0,.int .i64 0,.int .i64 (k.params.n:Nat),.int .i64 1,.int .i64 0]) from yA.trans' hkp (fun i hi e=>by have:=HG.out;omega))
  clear l1 l2 l3 yA hkp
  generalize (putAt wA g 0 #[.int .i64 0,.int .i64 0,.int .i64 (k.params.n:Nat),.int .i64 1,.int .i64 0])=w4 at HB HY ⊢
  by_cases e1:(vs.n:Int)=0
  rotate_left
  ·have q1:((vs.n:Int) != 0)=true:=bne_iff_ne.2 e1
   have hF1:F=3:=by
    have hl:=HV.out.1
    have hc:=HKC.out
    have hw:wantN p 0=0:=rfl
    exact zz97
   exact zz94
  have q1:((vs.n:Int) != 0)=false:=by rw [e1];simp
  have HE1:=zhd e1
  clear e1
  by_cases e2:(ag.n:Int)=0
  rotate_left
  ·have q2:((ag.n:Int) != 0)=true:=bne_iff_ne.2 e2
   have hF1:F=3:=by
    have hl:=HA.out.1
    have hc:=HKP.out
    have hw:giveN p 0=0:=rfl
    exact zz98
   exact zz87
  have q2:((ag.n:Int) != 0)=false:=by rw [e2];simp
  have HE2:=zhd e2
  clear e2
  have hok:¬ (¬ (V.length:Int)=wantN p 0 ∨ ¬ Ar.length=giveN p 0):=by
   have h1:=HV.out.1
   have h2:=HA.out.1
   have h3:=HKC.out
   have h4:=HKP.out
   have h5:=HE1.out
   have h6:=HE2.out
   have h7:wantN p 0=0:=rfl
   have h8:giveN p 0=0:=rfl
   rw [h7,h8]
   omega
  exact zz64
 ·skip
  go_enter Tryz.func39,Tryz.ntmps39
  go_wp2_with fail
  refine (cis_any _ _).mono ?_
  rintro e w1 ⟨rfl,rfl⟩
  go_upto_region 3 with (fail)
  refine qr3 (fun wz=>Ext w wz) [(0,2),(1,2),(2,2),(3,1),(4,2),(5,2),(6,2),(7,1),(8,2),(9,2),(10,0),(11,2),(12,0)] ?_;refine qrl ?_
  have yd:Ext w w.drew:=(Kept.refl _ w).drew
  (repeat (first | refine qs3 ?_ | ((apply w3_take);(· exact yd);(· go_simp);(· (intro w1 hS;have d0:=Blk.ext HC.out.box hS;have d1:=Blk.cell d0;have d2:=d0.lt; go_simp;try with_reducible rfl));refine qnx ?_) | ((apply w3_pass);(· exact yd);(· go_simp);refine qnx ?_)))
  (refine w3_act (fun K hK=>?_);go_simp)
  have yA:Ext w (w.alloc (.cells #[.int .i64 0,.int .i64 0,.int .i64 0,.int .i64 0,.int .i64 0] 62)).drew:=((Kept.refl _ w).alloc _).drew
  refine hK.out _ _ (fun _=>yA) ?_
  clear hK K
  have bA:=(Blk.new w 62 #[.int .i64 0,.int .i64 0,.int .i64 0,.int .i64 0,.int .i64 0]).drew
  generalize (w.alloc (.cells #[.int .i64 0,.int .i64 0,.int .i64 0,.int .i64 0,.int .i64 0] 62)).drew=wA at yA bA ⊢
  generalize hg:(w:World).heap.size=g at bA ⊢
  have HG:=zhd hg
  clear hg
  have l1:=Blk.has bA
  have l2:=Blk.melts bA
  have l3:=bA.lt
  have BA:=zhd bA
  clear bA yd
  refine qf3 ?_
  have hkp:Kept (·=g) wA (putAt wA g 0 #[.int .i64 0,.int .i64 0,.int .i64 (k.params.n:Nat),.int .i64 1,.int .i64 0]):=Kept.putAt (Kept.refl _ _) _ 0 _ (fun _=>rfl)
  have HB:=zhd (show Blk (putAt wA g 0 #[.int .i64 0,.int .i64 0,.int .i64 (k.params.n:Nat),.int .i64 1,.int .i64 0]) g 62 #[.int .i64 0,.int .i64 0,.int .i64 (k.params.n:Nat),.int .i64 1,.int .i64 0] from Blk.put_ BA.out 0 _)
  have HY:=zhd (show Ext w (putAt wA g 0 #[.int .i64 0,.int .i64 0,.int .i64 (k.params.n:Nat),.int .i64 1,.int .i64 0]) from yA.trans' hkp (fun i hi e=>by have:=HG.out;omega))
  clear l1 l2 l3 yA hkp
  generalize (putAt wA g 0 #[.int .i64 0,.int .i64 0,.int .i64 (k.params.n:Nat),.int .i64 1,.int .i64 0])=w4 at HB HY ⊢
  by_cases e1:(vs.n:Int)=k.cells
  rotate_left
  ·have q1:((vs.n:Int) != k.cells)=true:=bne_iff_ne.2 e1
   have hF1:F=3:=by
    have hl:=HV.out.1
    have hc:=HKC.out
    have hw:wantN p 1=cells p.vars:=rfl
    exact zz97
   exact zz94
  have q1:((vs.n:Int) != k.cells)=false:=by rw [e1];simp
  have HE1:=zhd e1
  clear e1
  by_cases e2:(ag.n:Int)=0
  rotate_left
  ·have q2:((ag.n:Int) != 0)=true:=bne_iff_ne.2 e2
   have hF1:F=3:=by
    have hl:=HA.out.1
    have hc:=HKP.out
    have hw:giveN p 1=0:=rfl
    exact zz98
   exact zz87
  have q2:((ag.n:Int) != 0)=false:=by rw [e2];simp
  have HE2:=zhd e2
  clear e2
  have hok:¬ (¬ (V.length:Int)=wantN p 1 ∨ ¬ Ar.length=giveN p 1):=by
   have h1:=HV.out.1
   have h2:=HA.out.1
   have h3:=HKC.out
   have h4:=HKP.out
   have h5:=HE1.out
   have h6:=HE2.out
   have h7:wantN p 1=cells p.vars:=rfl
   have h8:giveN p 1=0:=rfl
   rw [h7,h8]
   omega
  exact zz64
 ·skip
  go_enter Tryz.func39,Tryz.ntmps39
  go_wp2_with fail
  refine (cis_any _ _).mono ?_
  rintro e w1 ⟨rfl,rfl⟩
  go_upto_region 3 with (fail)
  refine qr3 (fun wz=>Ext w wz) [(0,2),(1,2),(2,2),(3,1),(4,2),(5,2),(6,2),(7,1),(8,2),(9,2),(10,0),(11,2),(12,0)] ?_;refine qrl ?_
  have yd:Ext w w.drew:=(Kept.refl _ w).drew
  (repeat (first | refine qs3 ?_ | ((apply w3_take);(· exact yd);(· go_simp);(· (intro w1 hS;have d0:=Blk.ext HC.out.box hS;have d1:=Blk.cell d0;have d2:=d0.lt; go_simp;try with_reducible rfl));refine qnx ?_) | ((apply w3_pass);(· exact yd);(· go_simp);refine qnx ?_)))
  (refine w3_act (fun K hK=>?_);go_simp)
  have yA:Ext w (w.alloc (.cells #[.int .i64 0,.int .i64 0,.int .i64 0,.int .i64 0,.int .i64 0] 62)).drew:=((Kept.refl _ w).alloc _).drew
  refine hK.out _ _ (fun _=>yA) ?_
  clear hK K
  have bA:=(Blk.new w 62 #[.int .i64 0,.int .i64 0,.int .i64 0,.int .i64 0,.int .i64 0]).drew
  generalize (w.alloc (.cells #[.int .i64 0,.int .i64 0,.int .i64 0,.int .i64 0,.int .i64 0] 62)).drew=wA at yA bA ⊢
  generalize hg:(w:World).heap.size=g at bA ⊢
  have HG:=zhd hg
  clear hg
  have l1:=Blk.has bA
  have l2:=Blk.melts bA
  have l3:=bA.lt
  have BA:=zhd bA
  clear bA yd
  refine qf3 ?_
  have hkp:Kept (·=g) wA (putAt wA g 0 #[.int .i64 0,.int .i64 0,.int .i64 (k.params.n:Nat),.int .i64 1,.int .i64 0]):=Kept.putAt (Kept.refl _ _) _ 0 _ (fun _=>rfl)
  have HB:=zhd (show Blk (putAt wA g 0 #[.int .i64 0,.int .i64 0,.int .i64 (k.params.n:Nat),.int .i64 1,.int .i64 0]) g 62 #[.int .i64 0,.int .i64 0,.int .i64 (k.params.n:Nat),.int .i64 1,.int .i64 0] from Blk.put_ BA.out 0 _)
  have HY:=zhd (show Ext w (putAt wA g 0 #[.int .i64 0,.int .i64 0,.int .i64 (k.params.n:Nat),.int .i64 1,.int .i64 0]) from yA.trans' hkp (fun i hi e=>by have:=HG.out;omega))
  clear l1 l2 l3 yA hkp
  generalize (putAt wA g 0 #[.int .i64 0,.int .i64 0,.int .i64 (k.params.n:Nat),.int .i64 1,.int .i64 0])=w4 at HB HY ⊢
  by_cases e1:(vs.n:Int)=k.cells
  rotate_left
  ·have q1:((vs.n:Int) != k.cells)=true:=bne_iff_ne.2 e1
   have hF1:F=3:=by
    have hl:=HV.out.1
    have hc:=HKC.out
    have hw:wantN p 2=cells p.vars:=rfl
    exact zz97
   exact zz94
  have q1:((vs.n:Int) != k.cells)=false:=by rw [e1];simp
  have HE1:=zhd e1
  clear e1
  by_cases e2:(ag.n:Int)=(k.params.n:Nat)
  rotate_left
  ·have q2:((ag.n:Int) != (k.params.n:Nat))=true:=bne_iff_ne.2 e2
   have hF1:F=3:=by
    have hl:=HA.out.1
    have hc:=HKP.out
    have hw:giveN p 2=p.params.length:=rfl
    exact zz98
   exact zz87
  have q2:((ag.n:Int) != (k.params.n:Nat))=false:=by rw [e2];simp
  have HE2:=zhd e2
  clear e2
  have hok:¬ (¬ (V.length:Int)=wantN p 2 ∨ ¬ Ar.length=giveN p 2):=by
   have h1:=HV.out.1
   have h2:=HA.out.1
   have h3:=HKC.out
   have h4:=HKP.out
   have h5:=HE1.out
   have h6:=HE2.out
   have h7:wantN p 2=cells p.vars:=rfl
   have h8:giveN p 2=p.params.length:=rfl
   rw [h7,h8]
   omega
  have l1:=Blk.cell HB.out
  have l2:=HB.out.lt
  have HFB:=zhd (show F=if badA p.params Ar=true then 2 else 0 by
   rw [HF.out];unfold fitsN
   rw [if_neg (by omega),if_neg hok]
   cases badA p.params Ar <;> simp)
  clear hok
  obtain ⟨hpn,hpf,hpo,pb,po,hpA,hpE⟩:=HC.out.params
  obtain ⟨han,hao,ab,ao,haA,haE⟩:=HA.out
  have HPA:=zhd hpA
  have HPE:=zhd hpE
  have HAN:=zhd (show Ar.length=p.params.length by have:=HE2.out;omega)
  have HAO:=zhd hao
  have HAA:=zhd haA
  have HAE:=zhd haE
  have HNN:=zhd (show ag.n=k.params.n by have:=HE2.out;omega)
  have hpm:k.params.n≤4:=by have:=HKP.out;have:=HP4.out;omega
  clear hpn hpf hpo hpA hpE han hao haA haE
  have i1:=Blk.cell (Blk.ext HC.out.box HY.out)
  have i2:=(Blk.ext HC.out.box HY.out).lt
  go_wp2_with fail
  clear i1 i2 l1 l2
  go_loopw [51] (fun t51 wr=>∃ j:Nat,j≤k.params.n∧t51=.int .i64 j∧(∀ i (h1:i < p.params.length) (h2:i < Ar.length),i < j→¬ (Ar[i] < p.params[i].low ∨ p.params[i].high < Ar[i]))∧Ext w wr) (fun t51 _=>k.params.n - (intOf t51).toNat)
  case atStart=>exact ⟨0,Nat.zero_le _,rfl,fun i _ _ h=>by omega,HY.out⟩
  case round =>
   obtain ⟨j,hj,rfl,hall,hk⟩:=hrel
   have HALL:=zhd hall
   have HK:=zhd hk
   clear hall hk
   by_cases hlt:j < k.params.n
   ·have hjl:j < p.params.length:=by have:=HKP.out;omega
    have hja:j < Ar.length:=by have:=HAN.out;omega
    have hltI:(j:Int) < k.params.n:=by omega
    have hltA:(j:Int) < ag.n:=by have:=HNN.out;omega
    have hltB:j < ag.n:=by have:=HNN.out;omega
    have hAA:=HPA.out (by omega)
    have hrow:=(HPE.out (by omega)).2.ext HK.out
    obtain ⟨u2,u3⟩:=vr_at hrow j hjl
    have u1:=hrow.lt
    have hrA:=(HAE.out (by omega)).2.ext HK.out
    have hA2:=HAA.out (by omega)
    have HXO:=zhd (HAO.out Ar[j] (List.getElem_mem hja))
    have HBAD:=zhd (badA_true j hjl hja)
    have HGO:=zhd (show ¬ (Ar[j] < p.params[j].low ∨ p.params[j].high < Ar[j])→∀ i (h1:i < p.params.length) (h2:i < Ar.length),i < j+1→¬ (Ar[i] < p.params[i].low ∨ p.params[i].high < Ar[i]) from fun h i h1 h2 hi=>by
     rcases (by omega:i < j ∨ i=j) with q | q
     ·exact HALL.out i h1 h2 q
     ·subst q;exact h)
    have hAc:=Row.mem hrA j hja
    generalize p.params[j]=v at u3 HBAD HGO
    generalize Ar[j]=x at HXO HBAD HGO hAc
    have y0:=(Kept.refl (fun _=>False) wr).alloc (.cells (vcells v) 109)
    have hB0:=Blk.new wr 109 (vcells v)
    have HAC:=zhd ((Kept.cell y0 (p:=⟨ab,ao+j,none⟩) hrA.lt (fun f=>f)).trans hAc)
    have HAL:=zhd (Nat.lt_of_lt_of_le hrA.lt y0.size)
    clear hrow hrA hAc
    rw [hAA,hA2]
    go_upto_region 12 with (fail)
    generalize (wr.alloc (.cells (vcells v) 109))=W6 at y0 hB0 HAC HAL ⊢
    generalize wr.heap.size=g2 at hB0 ⊢
    have HG6:=zhd hB0
    have HK6:=zhd (HK.out.trans y0)
    clear y0 hB0 u1 u2 u3 hAA hA2
    have b1:=Blk.cell HG6.out
    have b2:=HG6.out.lt
    have b3:=HAC.out
    have b4:=HAL.out
    have hwx:IntKind.i64.wrap x=x:=wrap_i64 (by have:=HXO.out;unfold i32ok at this;unfold i64ok;omega)
    by_cases c1:x < v.low
    ·have d1:decide (x < v.low)=true:=decide_eq_true c1
     have HF2:=zhd (show F=2 by rw [HFB.out,HBAD.out (Or.inl c1)];rfl)
     clear c1
     go_quiet (fail)
     go_wp2_with fail
     go_ret
     exact ⟨ret_int HF2.out.symm,Kept.drewN HK6.out _⟩
    ·have d1:decide (x < v.low)=false:=decide_eq_false c1
     by_cases c2:v.high < x
     ·have d2:decide (v.high < x)=true:=decide_eq_true c2
      have HF2:=zhd (show F=2 by rw [HFB.out,HBAD.out (Or.inr c2)];rfl)
      clear c1 c2
      go_quiet (fail)
      go_wp2_with fail
      go_ret
      exact ⟨ret_int HF2.out.symm,Kept.drewN HK6.out _⟩
     ·have d2:decide (v.high < x)=false:=decide_eq_false c2
      have HNX:=zhd (HGO.out (fun h=>h.elim c1 c2))
      clear c1 c2
      go_quiet (fail)
      go_wp2_with fail
      go_roundw
      case rel=>exact ⟨j+1,hlt,by go_num,HNX.out,Kept.drewN HK6.out _⟩
      case measure=>simp only [intOf];omega
   ·obtain rfl:j=k.params.n:=by omega
    have HF0:=zhd (show F=0 by
     rw [HFB.out,badA_false (fun i h1 h2=>HALL.out i h1 h2 (by have:=HKP.out;omega))];rfl)
    go_wp2_with fail
    go_ret
    exact ⟨ret_int HF0.out.symm,HK.out⟩
 ·skip
  go_enter Tryz.func39,Tryz.ntmps39
  go_wp2_with fail
  refine (cis_any _ _).mono ?_
  rintro e w1 ⟨rfl,rfl⟩
  go_upto_region 3 with (fail)
  refine qr3 (fun wz=>Ext w wz) [(0,2),(1,2),(2,2),(3,1),(4,2),(5,2),(6,2),(7,1),(8,2),(9,2),(10,0),(11,2),(12,0)] ?_;refine qrl ?_
  have yd:Ext w w.drew:=(Kept.refl _ w).drew
  (repeat (first | refine qs3 ?_ | ((apply w3_take);(· exact yd);(· go_simp);(· (intro w1 hS;have d0:=Blk.ext HC.out.box hS;have d1:=Blk.cell d0;have d2:=d0.lt; go_simp;try with_reducible rfl));refine qnx ?_) | ((apply w3_pass);(· exact yd);(· go_simp);refine qnx ?_)))
  (refine w3_act (fun K hK=>?_);go_simp)
  have yA:Ext w (w.alloc (.cells #[.int .i64 0,.int .i64 0,.int .i64 0,.int .i64 0,.int .i64 0] 62)).drew:=((Kept.refl _ w).alloc _).drew
  refine hK.out _ _ (fun _=>yA) ?_
  clear hK K
  have bA:=(Blk.new w 62 #[.int .i64 0,.int .i64 0,.int .i64 0,.int .i64 0,.int .i64 0]).drew
  generalize (w.alloc (.cells #[.int .i64 0,.int .i64 0,.int .i64 0,.int .i64 0,.int .i64 0] 62)).drew=wA at yA bA ⊢
  generalize hg:(w:World).heap.size=g at bA ⊢
  have HG:=zhd hg
  clear hg
  have l1:=Blk.has bA
  have l2:=Blk.melts bA
  have l3:=bA.lt
  have BA:=zhd bA
  clear bA yd
  refine qf3 ?_
  have hkp:Kept (·=g) wA (putAt wA g 0 #[.int .i64 0,.int .i64 0,.int .i64 (k.params.n:Nat),.int .i64 1,.int .i64 0]):=Kept.putAt (Kept.refl _ _) _ 0 _ (fun _=>rfl)
  have HB:=zhd (show Blk (putAt wA g 0 #[.int .i64 0,.int .i64 0,.int .i64 (k.params.n:Nat),.int .i64 1,.int .i64 0]) g 62 #[.int .i64 0,.int .i64 0,.int .i64 (k.params.n:Nat),.int .i64 1,.int .i64 0] from Blk.put_ BA.out 0 _)
  have HY:=zhd (show Ext w (putAt wA g 0 #[.int .i64 0,.int .i64 0,.int .i64 (k.params.n:Nat),.int .i64 1,.int .i64 0]) from yA.trans' hkp (fun i hi e=>by have:=HG.out;omega))
  clear l1 l2 l3 yA hkp
  generalize (putAt wA g 0 #[.int .i64 0,.int .i64 0,.int .i64 (k.params.n:Nat),.int .i64 1,.int .i64 0])=w4 at HB HY ⊢
  by_cases e1:(vs.n:Int)=k.cells
  rotate_left
  ·have q1:((vs.n:Int) != k.cells)=true:=bne_iff_ne.2 e1
   have hF1:F=3:=by
    have hl:=HV.out.1
    have hc:=HKC.out
    have hw:wantN p 3=cells p.vars:=rfl
    exact zz97
   exact zz94
  have q1:((vs.n:Int) != k.cells)=false:=by rw [e1];simp
  have HE1:=zhd e1
  clear e1
  by_cases e2:(ag.n:Int)=1
  rotate_left
  ·have q2:((ag.n:Int) != 1)=true:=bne_iff_ne.2 e2
   have hF1:F=3:=by
    have hl:=HA.out.1
    have hc:=HKP.out
    have hw:giveN p 3=1:=rfl
    exact zz98
   exact zz87
  have q2:((ag.n:Int) != 1)=false:=by rw [e2];simp
  have HE2:=zhd e2
  clear e2
  have hok:¬ (¬ (V.length:Int)=wantN p 3 ∨ ¬ Ar.length=giveN p 3):=by
   have h1:=HV.out.1
   have h2:=HA.out.1
   have h3:=HKC.out
   have h4:=HKP.out
   have h5:=HE1.out
   have h6:=HE2.out
   have h7:wantN p 3=cells p.vars:=rfl
   have h8:giveN p 3=1:=rfl
   rw [h7,h8]
   omega
  exact zz64
 ·skip
  go_enter Tryz.func39,Tryz.ntmps39
  go_wp2_with fail
  refine (cis_any _ _).mono ?_
  rintro e w1 ⟨rfl,rfl⟩
  go_upto_region 3 with (fail)
  refine qr3 (fun wz=>Ext w wz) [(0,2),(1,2),(2,2),(3,1),(4,2),(5,2),(6,2),(7,1),(8,2),(9,2),(10,0),(11,2),(12,0)] ?_;refine qrl ?_
  have yd:Ext w w.drew:=(Kept.refl _ w).drew
  (repeat (first | refine qs3 ?_ | ((apply w3_take);(· exact yd);(· go_simp);(· (intro w1 hS;have d0:=Blk.ext HC.out.box hS;have d1:=Blk.cell d0;have d2:=d0.lt; go_simp;try with_reducible rfl));refine qnx ?_) | ((apply w3_pass);(· exact yd);(· go_simp);refine qnx ?_)))
  (refine w3_act (fun K hK=>?_);go_simp)
  have yA:Ext w (w.alloc (.cells #[.int .i64 0,.int .i64 0,.int .i64 0,.int .i64 0,.int .i64 0] 62)).drew:=((Kept.refl _ w).alloc _).drew
  refine hK.out _ _ (fun _=>yA) ?_
  clear hK K
  have bA:=(Blk.new w 62 #[.int .i64 0,.int .i64 0,.int .i64 0,.int .i64 0,.int .i64 0]).drew
  generalize (w.alloc (.cells #[.int .i64 0,.int .i64 0,.int .i64 0,.int .i64 0,.int .i64 0] 62)).drew=wA at yA bA ⊢
  generalize hg:(w:World).heap.size=g at bA ⊢
  have HG:=zhd hg
  clear hg
  have l1:=Blk.has bA
  have l2:=Blk.melts bA
  have l3:=bA.lt
  have BA:=zhd bA
  clear bA yd
  refine qf3 ?_
  have hkp:Kept (·=g) wA (putAt wA g 0 #[.int .i64 0,.int .i64 0,.int .i64 (k.params.n:Nat),.int .i64 1,.int .i64 0]):=Kept.putAt (Kept.refl _ _) _ 0 _ (fun _=>rfl)
  have HB:=zhd (show Blk (putAt wA g 0 #[.int .i64 0,.int .i64 0,.int .i64 (k.params.n:Nat),.int .i64 1,.int .i64 0]) g 62 #[.int .i64 0,.int .i64 0,.int .i64 (k.params.n:Nat),.int .i64 1,.int .i64 0] from Blk.put_ BA.out 0 _)
  have HY:=zhd (show Ext w (putAt wA g 0 #[.int .i64 0,.int .i64 0,.int .i64 (k.params.n:Nat),.int .i64 1,.int .i64 0]) from yA.trans' hkp (fun i hi e=>by have:=HG.out;omega))
  clear l1 l2 l3 yA hkp
  generalize (putAt wA g 0 #[.int .i64 0,.int .i64 0,.int .i64 (k.params.n:Nat),.int .i64 1,.int .i64 0])=w4 at HB HY ⊢
  by_cases e1:(vs.n:Int)=k.cells
  rotate_left
  ·have q1:((vs.n:Int) != k.cells)=true:=bne_iff_ne.2 e1
   have hF1:F=3:=by
    have hl:=HV.out.1
    have hc:=HKC.out
    have hw:wantN p 4=cells p.vars:=rfl
    exact zz97
   exact zz94
  have q1:((vs.n:Int) != k.cells)=false:=by rw [e1];simp
  have HE1:=zhd e1
  clear e1
  by_cases e2:(ag.n:Int)=0
  rotate_left
  ·have q2:((ag.n:Int) != 0)=true:=bne_iff_ne.2 e2
   have hF1:F=3:=by
    have hl:=HA.out.1
    have hc:=HKP.out
    have hw:giveN p 4=0:=rfl
    exact zz98
   exact zz87
  have q2:((ag.n:Int) != 0)=false:=by rw [e2];simp
  have HE2:=zhd e2
  clear e2
  have hok:¬ (¬ (V.length:Int)=wantN p 4 ∨ ¬ Ar.length=giveN p 4):=by
   have h1:=HV.out.1
   have h2:=HA.out.1
   have h3:=HKC.out
   have h4:=HKP.out
   have h5:=HE1.out
   have h6:=HE2.out
   have h7:wantN p 4=cells p.vars:=rfl
   have h8:giveN p 4=0:=rfl
   rw [h7,h8]
   omega
  exact zz64
end Go.Proofs.YtbfbabbcdochjaaGreatDoor
