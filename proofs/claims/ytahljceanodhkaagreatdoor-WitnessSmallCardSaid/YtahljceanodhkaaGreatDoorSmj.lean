/- Several texts joined: Wv, Ww, Wx. -/
import Derived.OpenShut
import Derived.ChangeArms
import Derived.ChangeSame
import Derived.Lib.LaidTab
import Derived.Test.YtahljceanodhkaaGreatDoorSmi
/- The statement WitnessSmall: the walk. -/
namespace Go.Proofs.YtahljceanodhkaaGreatDoor
open Go.RowKit
theorem if_want {c : Bool} {p q : Prop} (hc : c = true) (h : p) : if c = true then p else q := by rw [if_pos hc]; exact h
def zeroS : Ws := ⟨0, 0, 0, Dg.zero, ⟨0, 0, 0, 0⟩, none, 0, 0, none, 0, 0, none, 0, 0⟩
theorem StepV.put {w : World} {s : Ws} {L : Sl} {p : Nat} {cs : Array Value} (h : StepV w s L) (hb : Blk w p 45 cs) (o : Nat) (vs : Array Value) : StepV (putAt w p o vs) s L := by
  have kf : Kept (· = p) w (putAt w p o vs) := Kept.putAt (Kept.refl _ w) p o vs (fun _ => rfl)
  exact ⟨h.pc, h.halt, h.words, h.mem, h.ins, h.path.kept kf (fun j hj => by subst hj; exact step_not hb (by decide)), h.reads.kept kf (fun j hj => by subst hj; exact step_not hb (by decide)) (fun j hj => by subst hj; exact step_not hb (by decide)), h.writes.kept kf (fun j hj => by subst hj; exact step_not hb (by decide)) (fun j hj => by subst hj; exact step_not hb (by decide))⟩
theorem make_all (A : Option Addr) (b off cap : Nat) (l : List Ins) (n : Nat) (hn : n = l.length) (h2 : n ≤ 2048) (hok : ∀ i ∈ l, i.ok) (hA : 0 < n → A = some ⟨b, off, none⟩)
    (pc halt : Int) (A' : Option Addr) (b' off' cap' : Nat) (m : List Int) (k : Nat) (hk : k = m.length) (hA' : 0 < k → A' = some ⟨b', off', none⟩) (hmok : ∀ z ∈ m, i32ok z) (w : World) (hops : OpsAt w) (hr : 0 < n → Row w b off (inss l)) (hr' : 0 < k → Row w b' off' (mems m)) :
    Calls Tryz.prog 36 #[.slice A n cap, .agg (stCells pc A' k cap' halt)] w fun e w' => ∃ (s : Ws) (err : Int), e = .returned (.tuple #[.agg s.cells, .int .i64 err]) ∧ Ext w w' ∧ ((err = 0 ∧ 1 ≤ n ∧ rightS pc halt k = true ∧ StepV w' s (makeL l pc halt m)) ∨ (err = 2 ∧ s = zeroS)) := by
  by_cases h1 : 1 ≤ n
  · by_cases hg : rightS pc halt k = true
    · refine (make_ok A b off cap l n hn h1 h2 hok hA pc halt A' b' off' cap' m k hk hg hA' hmok w hops hr hr').mono ?_
      rintro e w' ⟨s, rfl, hv, hx⟩
      exact ⟨s, 0, rfl, hx, .inl ⟨rfl, h1, hg, hv⟩⟩
    · refine (make_nomem A b off cap l n hn h1 h2 hok hA pc halt A' k cap' (by simpa using hg) w hr).mono ?_
      rintro e w' ⟨rfl, hx⟩
      exact ⟨zeroS, 2, rfl, hx, .inr ⟨rfl, rfl⟩⟩
  · refine (make_nocode A cap n (.inl (by omega)) pc halt A' k cap' w).mono ?_
    rintro e w' ⟨rfl, hx⟩
    exact ⟨zeroS, 2, rfl, hx, .inr ⟨rfl, rfl⟩⟩
namespace witnessSmall
set_option maxRecDepth 100000 in
set_option maxHeartbeats 2000000 in
theorem many (A A' : Option Addr) (n cap k cap' : Nat) (pc halt : Int) (w : World) (hf : 200 < n ∨ 256 < k) :
    Calls Tryz.prog 9 #[.slice A n cap, .agg (stCells pc A' k cap' halt)] w fun e w' => e = .returned (.bool true) ∧ Ext w w' := by
  have hx0 : Ext w _ := (Kept.refl _ w).alloc (.cells (stCells pc A' k cap' halt) 61)
  have hS0 := Blk.new w 61 (stCells pc A' k cap' halt)
  by_cases hn : 200 < n
  · have hn' : (200 : Int) < n := by omega
    go_enter Tryz.func9, Tryz.ntmps9
    go_wp2_with fail
    refine (known_any _).mono ?_
    rintro e w1 ⟨rfl, hx1⟩
    have hc1 := Blk.cell (Blk.ext hS0 hx1)
    go_wp2_with fail
    refine (known_any _).mono ?_
    rintro e w3 ⟨rfl, hx3⟩
    go_wp2_with fail
    go_ret
    exact ⟨rfl, (hx0.trans hx1).trans hx3⟩
  · have hn' : ¬ (200 : Int) < n := by omega
    have hk : 256 < k := by omega
    have hk' : (256 : Int) < k := by omega
    go_enter Tryz.func9, Tryz.ntmps9
    go_wp2_with fail
    refine (known_any _).mono ?_
    rintro e w1 ⟨rfl, hx1⟩
    have hc1 := Blk.cell (Blk.ext hS0 hx1)
    go_wp2_with fail
    refine (known_any _).mono ?_
    rintro e w3 ⟨rfl, hx3⟩
    go_wp2_with fail
    go_ret
    exact ⟨rfl, (hx0.trans hx1).trans hx3⟩
set_option maxRecDepth 100000 in
set_option maxHeartbeats 4000000 in
theorem small (A : Option Addr) (b off cap : Nat) (l : List Ins) (n : Nat) (hn : n = l.length) (h2 : n ≤ 200) (hok : ∀ i ∈ l, i.ok) (hA : 0 < n → A = some ⟨b, off, none⟩)
    (pc halt : Int) (A' : Option Addr) (b' off' cap' : Nat) (m : List Int) (k : Nat) (hk : k = m.length) (hk2 : k ≤ 256) (hA' : 0 < k → A' = some ⟨b', off', none⟩) (hmok : ∀ z ∈ m, i32ok z) (w : World) (hops : OpsAt w) (hr : 0 < n → Row w b off (inss l)) (hr' : 0 < k → Row w b' off' (mems m)) :
    Calls Tryz.prog 9 #[.slice A n cap, .agg (stCells pc A' k cap' halt)] w fun e w' => e = .returned (.bool true) ∧ Ext w w' := by
  have g1 : ¬ (200 : Int) < n := by omega
  have g2 : ¬ 200 < n := by omega
  have g3 : ¬ (256 : Int) < k := by omega
  have g4 : ¬ 256 < k := by omega
  have HN := Lib.hid hn
  have HO := Lib.hid hok
  have HA := Lib.hid hA
  have HR := Lib.hid hr
  have HKn := Lib.hid hk
  have HA' := Lib.hid hA'
  have HR' := Lib.hid hr'
  have HOPS := Lib.hid hops
  have HMOK := Lib.hid hmok
  clear hn hA hr hok hk hA' hr' hops hmok
  have hx0 : Ext w _ := (Kept.refl _ w).alloc (.cells (stCells pc A' k cap' halt) 61)
  have hS0 := Blk.new w 61 (stCells pc A' k cap' halt)
  go_enter Tryz.func9, Tryz.ntmps9
  go_wp2_with fail
  refine (known_any _).mono ?_
  rintro e w1 ⟨rfl, hx1⟩
  have hS1 := Blk.ext hS0 hx1
  have hc1 := Blk.cell hS1
  have lS1 := hS1.lt
  have y1 := hx0.trans hx1
  clear hx0 hS0 hx1
  go_upto_region 3 with (fail)
  clear hc1
  refine wp_region_4 (fun w2 => Ext w1 w2) (.op 0 2 (.op 2 1 (.fork 1 (.fork 3 (.fork 4 (.op 5 2 (.op 6 2 (.op 7 2 (.op 8 0 (.op 9 0 (.op 10 2 .nil)))))) 8 (.op 4 0 (.op 5 2 (.op 6 2 (.op 7 2 (.op 9 0 (.op 10 2 .nil))))))) 8 (.op 3 0 (.op 4 0 (.op 5 2 (.op 6 2 (.op 7 2 (.op 9 0 (.op 10 2 .nil)))))))) 8 (.op 1 0 (.op 3 0 (.op 4 0 (.op 5 2 (.op 6 2 (.op 7 2 (.op 9 0 (.op 10 2 .nil))))))))))) (by kernel_rfl) (by kernel_rfl) (by kernel_rfl) (by kernel_rfl) ?_; intro p' hp'; simp only [Pl0.fill, List.getD_cons_zero, List.getD_cons_succ] at hp'; subst hp'
  (repeat (first | ((apply w4_pure); (· go_simp); (· (intro w1; go_simp; try with_reducible rfl)); (intro K hK; go_simp; refine hK _ _ ?_; clear hK K)) | ((apply w4_skip); (· go_simp); (intro K hK; go_simp; refine hK _ _ ?_; clear hK K)) | ((apply w4_take); (· exact (Kept.drew (Kept.refl _ _))); (· go_simp); (· (intro w1 hS; have d1 := Blk.ext hS1 hS; have d2 := Blk.has d1; have d3 := Blk.gets d1; have d4 := d1.lt;  go_simp; try with_reducible rfl)); (intro K hK; go_simp; refine hK _ _ ?_; clear hK K)) | ((apply w4_pass); (· exact (Kept.drew (Kept.refl _ _))); (· go_simp); (intro K hK; go_simp; refine hK _ _ ?_; clear hK K))))
  have y : Ext w1 w1.drew := (Kept.refl _ w1).drew
  refine w4_fork ?_ ?_
  ·
    (refine w4_act (fun K hK => ?_); go_simp)
    go_wp2_with fail
    refine (law14of_ok A b off cap l n HN.out (by omega) HA.out _ (fun h => (HR.out h).ext (y1.trans y))).mono ?_
    rintro e w2 ⟨v2, rfl, ho2, hx2⟩
    obtain ⟨A3, g3, c3, rfl, hA3, hr3, hl3⟩ := own_I ho2
    have HA3 := Lib.hid hA3
    have HR3 := Lib.hid hr3
    have z2 : Ext w1 w2 := Kept.trans y hx2
    refine hK.out _ _ (fun _ => z2) ?_
    clear hK K hA3 hr3 ho2 hl3
    (repeat (first | ((apply w4_pure); (· go_simp); (· (intro w1; go_simp; try with_reducible rfl)); (intro K hK; go_simp; refine hK _ _ ?_; clear hK K)) | ((apply w4_skip); (· go_simp); (intro K hK; go_simp; refine hK _ _ ?_; clear hK K))))
    refine w4_fork ?_ ?_
    ·
      (refine w4_act (fun K hK => ?_); go_simp)
      go_wp2_with fail
      refine (of_st A' k cap' pc halt _).mono ?_
      rintro e w3 ⟨rfl, hx3⟩
      have z3 : Ext w1 w3 := Kept.trans z2 hx3
      refine hK.out _ _ (fun _ => z3) ?_
      clear hK K
      (repeat (first | ((apply w4_pure); (· go_simp); (· (intro w1; go_simp; try with_reducible rfl)); (intro K hK; go_simp; refine hK _ _ ?_; clear hK K)) | ((apply w4_skip); (· go_simp); (intro K hK; go_simp; refine hK _ _ ?_; clear hK K))))
      refine w4_fork ?_ ?_
      ·
        (refine w4_act (fun K hK => ?_); go_simp)
        go_wp2_with fail
        refine (make_all A3 g3 0 c3 l n HN.out (by omega) HO.out HA3.out pc halt A' b' off' cap' m k HKn.out HA'.out HMOK.out _ (HOPS.out.ext (y1.trans z3)) (fun h => (HR3.out h).ext (Kept.trans (Kept.refl _ w2) hx3)) (fun h => (HR'.out h).ext (y1.trans z3))).mono ?_
        rintro e w4 ⟨s, err, rfl, hx4, hres⟩
        have HRES := Lib.hid hres
        have z4 : Ext w1 w4 := Kept.trans z3 hx4
        refine hK.out _ _ (fun _ => z4) ?_
        clear hK K hres
        (repeat (first | ((apply w4_pure); (· go_simp); (· (intro w1; go_simp; try with_reducible rfl)); (intro K hK; go_simp; refine hK _ _ ?_; clear hK K)) | ((apply w4_skip); (· go_simp); (intro K hK; go_simp; refine hK _ _ ?_; clear hK K))))
        (refine w4_act (fun K hK => ?_); go_simp)
        refine hK.out _ _ (fun _ => z4.alloc _) ?_
        clear hK K
        (repeat (first | ((apply w4_pure); (· go_simp); (· (intro w1; go_simp; try with_reducible rfl)); (intro K hK; go_simp; refine hK _ _ ?_; clear hK K)) | ((apply w4_skip); (· go_simp); (intro K hK; go_simp; refine hK _ _ ?_; clear hK K)) | (refine w4_end (by kernel_rfl) (fun K hK => ?_); go_simp; refine hK.out _ _ ?_; clear hK K))); refine w4_nil ?_
        have yp : Ext w1 (w4.alloc (.cells s.cells 45)) := z4.alloc _
        have hN5 := Blk.new w4 45 s.cells
        have hw4 := z4.size
        have hv5 : ∀ L, StepV w4 s L → StepV (w4.alloc (.cells s.cells 45)) s L := fun L h => h.ext ((Kept.refl _ w4).alloc _)
        generalize (w4.alloc (.cells s.cells 45)) = W5 at yp hN5 hv5 ⊢
        obtain ⟨p5, hp5⟩ : ∃ p5, p5 = w4.heap.size := ⟨_, rfl⟩
        rw [← hp5] at hN5 ⊢
        have hw5 : w1.heap.size ≤ p5 := by omega
        clear hp5 hw4
        have lp5 := hN5.lt
        rcases HRES.out with ⟨he, h1n, hright, hsv⟩ | ⟨he, hs⟩
        · subst he
          have hsv5 := hv5 _ hsv
          have hmk := makeL_ok l pc halt m (by rw [← HN.out]; exact h1n) (by rw [← HKn.out]; exact hright) HO.out HMOK.out
          obtain ⟨L, hL⟩ : ∃ L, L = makeL l pc halt m := ⟨_, rfl⟩
          rw [← hL] at hsv5 hmk
          have HSV := Lib.hid hsv5
          have HMK := Lib.hid hmk
          have hS5 := Blk.ext hS1 yp
          clear hsv hsv5 hmk hL hv5
          go_upto_region 6 with (fail)
          refine wp_region_3 (fun w2 => Ext W5 w2) [(1, 2), (2, 1), (4, 2), (5, 1), (8, 2), (0, 0), (3, 0), (6, 0), (7, 2)] (by kernel_rfl) (by kernel_rfl) (by kernel_rfl) (by kernel_rfl) ?_; intro l' hl'; simp only [List.map_cons, List.map_nil, List.getD_cons_zero, List.getD_cons_succ] at hl'; subst hl'
          (repeat (first | ((apply w3_pure); (· go_simp); (· (intro w1; go_simp; try with_reducible rfl)); (intro K hK; go_simp; refine hK _ _ ?_; clear hK K)) | ((apply w3_skip); (· go_simp); (intro K hK; go_simp; refine hK _ _ ?_; clear hK K)) | ((apply w3_take); (· exact (Kept.drew (Kept.refl _ _))); (· go_simp); (· (intro w1 hS; have d1 := Blk.cell (Blk.ext hN5 hS); have d2 := (Blk.ext hN5 hS).lt;  go_simp; try with_reducible rfl)); (intro K hK; go_simp; refine hK _ _ ?_; clear hK K)) | ((apply w3_pass); (· exact (Kept.drew (Kept.refl _ _))); (· go_simp); (intro K hK; go_simp; refine hK _ _ ?_; clear hK K))))
          have yW : Ext W5 W5.drew := (Kept.refl _ W5).drew
          (refine w3_act (fun K hK => ?_); go_simp)
          have yA : Ext W5 (W5.alloc (.cells #[] 77)).drew := ((Kept.refl _ W5).alloc _).drew
          refine hK.out _ _ (fun _ => yA) ?_
          clear hK K
          (repeat (first | ((apply w3_pure); (· go_simp); (· (intro w1; go_simp; try with_reducible rfl)); (intro K hK; go_simp; refine hK _ _ ?_; clear hK K)) | ((apply w3_skip); (· go_simp); (intro K hK; go_simp; refine hK _ _ ?_; clear hK K))))
          obtain ⟨e1, a1, v1⟩ := HSV.out.reads.cs s.rk
          obtain ⟨e2, a2, v2⟩ := HSV.out.writes.cs s.wk
          have hrl := HSV.out.reads.len
          have hwl := HSV.out.writes.len
          have hB0 := (Blk.new W5 77 #[])
          have ho0 : (W5.alloc (.cells #[] 77)).drew.ownsRow W5.heap.size 77 3 (.slice (some ⟨W5.heap.size, 0, none⟩) 0 0) 0 (wds []) := ⟨rfl, .inr ⟨W5.heap.size, 0, #[], rfl, Nat.le_refl _, hB0, Nat.le_refl _, by unfold maxLen; omega, rfl, rfl⟩⟩
          obtain ⟨v6, w6, hr6, ho6, hk6⟩ := catW_app _ _ _ _ _ ho0 ⟨s.ra, s.rn, s.rk, e1⟩ (a1.ext yA) (by have := HMK.out.two; simp only; omega) yA.size
          have y6 : Ext W5 w6 := yA.trans' hk6 (fun i hi e => by simp [Value.ownBlock] at e; omega)
          obtain ⟨v7, w7, hr7, ho7, hk7⟩ := catW_app _ _ _ _ _ ho6 ⟨s.wa, s.wn, s.wk, e2⟩ (a2.ext y6) (by have h1 := HMK.out.two; have h2 := HMK.out.one; simp only; omega) y6.size
          have y7 : Ext W5 w7 := y6.trans' hk7 (fun i hi e => by have := (ho6.lt i e).1; omega)
          have HO7 := Lib.hid ho7
          have HV1 := Lib.hid v1
          have HV2 := Lib.hid v2
          have HL := Lib.hid (And.intro hrl hwl)
          clear a1 a2 v1 v2 hrl hwl hB0 ho0 ho6 ho7 hk6 hk7
          refine w3_act (fun K hK => ?_)
          refine if_want rfl ?_
          refine Lib.wp_append_run _ _ _ _ _ rfl _ _ rfl rfl _ _ hr6 ?_
          refine hK.out _ _ (fun _ => y6) ?_
          clear hK K hr6
          refine w3_act (fun K hK => ?_)
          refine if_want rfl ?_
          refine Lib.wp_append_run _ _ _ _ _ rfl _ _ rfl rfl _ _ hr7 ?_
          refine hK.out _ _ (fun _ => y7) ?_
          clear hK K hr7
          have x7 := yp.trans y7
          have hN7 := Blk.ext hN5 y7
          have hS7 := Blk.ext hS5 y7
          obtain ⟨B7, c7, rfl, hW7⟩ := WordsS.of_own HO7.out ((HV2.out.ext y7).app (HV1.out.ext y7))
          have hm7 : 0 + s.rn + s.wn ≤ 3 := by have h1 := HMK.out.two; have h2 := HMK.out.one; have h3 := HL.out; omega
          obtain ⟨N7, he7⟩ : ∃ N7, N7 = 0 + s.rn + s.wn := ⟨_, rfl⟩
          simp only at hW7
          rw [← he7] at hW7 hm7
          have HE7 := Lib.hid he7
          have HW7 := Lib.hid hW7
          have hN7s : (0 + s.rn + s.wn) = N7 := he7.symm
          clear hW7 HO7 he7
          rw [hN7s]
          clear hN7s
          (repeat (first | ((apply w3_pure); (· go_simp); (· (intro w1; go_simp; try with_reducible rfl)); (intro K hK; go_simp; refine hK _ _ ?_; clear hK K)) | ((apply w3_skip); (· go_simp); (intro K hK; go_simp; refine hK _ _ ?_; clear hK K)) | (refine w3_end (by kernel_rfl) (fun K hK => ?_); go_simp; refine hK.out _ _ ?_; clear hK K))); refine w3_nil ?_
          obtain ⟨hnl7, b7, o7, ds7, q1, q2, _, q4⟩ := HW7.out
          have Q0 := Lib.hid hnl7
          have Q1 := Lib.hid q1
          have Q2 := Lib.hid q2
          have Q4 := Lib.hid q4
          clear hnl7 q1 q2 q4
          go_wp2_with fail
          go_loopw [47] (fun t47 wr => ∃ (j : Nat), j ≤ N7 ∧ t47 = .int .i64 j ∧ Ext w7 wr) (fun t47 _ => N7 - (intOf t47).toNat)
          case atStart => exact ⟨0, by omega, rfl, Kept.refl _ _⟩
          case round =>
            obtain ⟨j, hj, rfl, hx8⟩ := hrel
            by_cases hlt : j < N7
            · have hltI : (j : Int) < N7 := by omega
              obtain rfl := Q1.out (by omega)
              have hjl : j < (L.reads ++ L.writes).length := by have := Q0.out; omega
              have hjd : j < ds7.length := by rw [Q4.out.len]; exact hjl
              have hrow := (Q2.out (by omega)).ext hx8
              obtain ⟨hrh, hrg⟩ := hrow.wd j hjd
              have hbl := hrow.lt
              have hwv := Q4.out.get j hjd hjl
              have hwok : WordOK m (L.reads ++ L.writes)[j] := by
                rcases List.mem_append.1 (List.getElem_mem hjl) with h | h
                · exact HMK.out.reads _ h
                · exact HMK.out.writes _ h
              obtain ⟨d, hde⟩ : ∃ d, d = ds7[j] := ⟨_, rfl⟩
              obtain ⟨x, hxe⟩ : ∃ x, x = (L.reads ++ L.writes)[j] := ⟨_, rfl⟩
              rw [← hxe] at hwok hwv
              rw [← hde] at hrg hwv
              have f1 := hwv.at_
              have f2 := hwv.is_
              have f3 : d.pn = hgt k := by obtain ⟨_, _, hq⟩ := hwv.path; rw [hq.len, hwok.path, HKn.out]
              obtain ⟨a, ha⟩ : ∃ a : Nat, d.at_ = a := ⟨d.at_.toNat, by have := hwok.lo; omega⟩
              have hak : a < k := by have := hwok.hi; have := HKn.out; omega
              have hal : a < m.length := by have := HKn.out; omega
              have hiv : d.is_ = m[a] := by rw [f2, hwok.is_, ← f1, ha]; simp [hal]
              clear hde hxe hwv hwok f1 f2 hrow
              obtain ⟨dat, dis, dpa, dpn, dpk⟩ := d
              simp only at ha hiv f3
              subst ha
              obtain ⟨y, hy⟩ : ∃ y, y = m[a] := ⟨_, rfl⟩
              rw [← hy] at hiv
              subst hiv
              obtain ⟨Hk, hHk⟩ : ∃ Hk, Hk = hgt k := ⟨_, rfl⟩
              rw [← hHk] at f3
              subst f3
              obtain rfl := HA'.out (by omega)
              have hmem := ((HR'.out (by omega)).ext (y1.trans (x7.trans hx8)))
              have hcM := hmem.mem a hal
              rw [← hy] at hcM
              have lM := hmem.lt
              have HHK := Lib.hid hHk
              have hS8 := Blk.ext hS7 hx8
              have i0 : ¬ (a : Int) < 0 := by omega
              have i1 : ¬ (k : Int) ≤ a := by omega
              have i2 : (a : Int) < k := by omega
              clear hy hHk hmem hjl hjd hal
              go_upto_region 9 with (fail)
              have x9 := hx8.alloc (.cells (Wd.cells ⟨a, dis, dpa, dpn, dpk⟩) 77)
              have hW9 := Blk.new wr 77 (Wd.cells ⟨a, dis, dpa, dpn, dpk⟩)
              have hS9 := Blk.alloc hS8 (.cells (Wd.cells ⟨a, dis, dpa, dpn, dpk⟩) 77)
              have hM9 : (wr.alloc (.cells (Wd.cells ⟨a, dis, dpa, dpn, dpk⟩) 77)).cell? ⟨b', off' + a, none⟩ = some (.int .i32 dis) := (Kept.cell (((Kept.refl (fun _ => False) wr).alloc _)) (p := ⟨b', off' + a, none⟩) lM (fun f => f)).trans hcM
              have lM9 : b' < (wr.alloc (.cells (Wd.cells ⟨a, dis, dpa, dpn, dpk⟩) 77)).heap.size := by simp; omega
              generalize (wr.alloc (.cells (Wd.cells ⟨a, dis, dpa, dpn, dpk⟩) 77)) = W9 at x9 hW9 hS9 hM9 lM9 ⊢
              generalize (wr : World).heap.size = p9 at hW9 ⊢
              clear hS8 hcM hrh hrg
              refine wp_region_3 (fun w2 => Ext W9 w2) [(0, 2), (1, 1), (2, 2), (3, 2), (4, 1), (5, 2), (6, 0), (7, 2), (8, 2), (9, 2), (10, 1), (11, 2), (12, 2), (13, 2), (14, 2), (15, 1), (16, 2), (17, 1), (18, 2), (19, 2), (20, 2), (21, 2), (22, 2), (23, 1), (24, 2), (25, 1), (26, 2), (27, 1), (28, 2), (29, 1), (30, 2), (31, 2)] (by kernel_rfl) (by kernel_rfl) (by kernel_rfl) (by kernel_rfl) ?_; intro l' hl'; simp only [List.map_cons, List.map_nil, List.getD_cons_zero, List.getD_cons_succ] at hl'; subst hl'
              (repeat (first | ((apply w3_pure); (· go_simp); (· (intro w1; go_simp; try with_reducible rfl)); (intro K hK; go_simp; refine hK _ _ ?_; clear hK K)) | ((apply w3_skip); (· go_simp); (intro K hK; go_simp; refine hK _ _ ?_; clear hK K)) | ((apply w3_take); (· exact (Kept.drew (Kept.refl _ _))); (· go_simp); (· (intro w1 hS; have d1 := Blk.cell (Blk.ext hW9 hS); have d2 := (Blk.ext hW9 hS).lt; have d3 := Blk.cell (Blk.ext hS9 hS); have d4 := (Blk.ext hS9 hS).lt; have d5 := (Kept.cell hS (p := ⟨b', off' + a, none⟩) lM9 (fun f => f)).trans hM9; have d6 := Nat.lt_of_lt_of_le lM9 hS.size;  go_simp; try with_reducible rfl)); (intro K hK; go_simp; refine hK _ _ ?_; clear hK K)) | ((apply w3_pass); (· exact (Kept.drew (Kept.refl _ _))); (· go_simp); (intro K hK; go_simp; refine hK _ _ ?_; clear hK K))))
              have yW9 : Ext W9 W9.drew := (Kept.refl _ W9).drew
              (refine w3_act (fun K hK => ?_); go_simp)
              go_wp2_with fail
              refine (rheight_ok k (by omega) (by omega) _).mono ?_
              rintro e w10 ⟨rfl, rfl⟩
              rw [← HHK.out]
              refine hK.out _ _ (fun _ => yW9) ?_
              clear hK K
              (repeat (first | ((apply w3_pure); (· go_simp); (· (intro w1; go_simp; try with_reducible rfl)); (intro K hK; go_simp; refine hK _ _ ?_; clear hK K)) | ((apply w3_skip); (· go_simp); (intro K hK; go_simp; refine hK _ _ ?_; clear hK K)) | ((apply w3_take); (· exact yW9); (· go_simp); (· (intro w1 hS; have d1 := Blk.cell (Blk.ext hW9 hS); have d2 := (Blk.ext hW9 hS).lt; have d3 := Blk.cell (Blk.ext hS9 hS); have d4 := (Blk.ext hS9 hS).lt; have d5 := (Kept.cell hS (p := ⟨b', off' + a, none⟩) lM9 (fun f => f)).trans hM9; have d6 := Nat.lt_of_lt_of_le lM9 hS.size;  go_simp; try with_reducible rfl)); (intro K hK; go_simp; refine hK _ _ ?_; clear hK K)) | ((apply w3_pass); (· exact yW9); (· go_simp); (intro K hK; go_simp; refine hK _ _ ?_; clear hK K))))
              (repeat (first | ((apply w3_pure); (· go_simp); (· (intro w1; go_simp; try with_reducible rfl)); (intro K hK; go_simp; refine hK _ _ ?_; clear hK K)) | ((apply w3_skip); (· go_simp); (intro K hK; go_simp; refine hK _ _ ?_; clear hK K)) | (refine w3_end (by kernel_rfl) (fun K hK => ?_); go_simp; refine hK.out _ _ ?_; clear hK K))); refine w3_nil ?_
              go_wp2_with fail
              go_roundw
              case rel => exact ⟨j + 1, hlt, by go_num, x9.trans yW9⟩
              case measure => simp only [intOf]; omega
            · have hN8 := Blk.ext hN7 hx8
              have hh8 := Blk.has hN8
              have hg8 := Blk.gets hN8
              have hlt' : ¬ (j : Int) < N7 := by omega
              obtain ⟨hmay, hsm⟩ := encB_small HMK.out (by have h1 := rightS_inv hright; have h2 := HKn.out; omega) (by have h2 := HKn.out; omega) (by have h2 := HN.out; omega) (by have h2 := HN.out; omega)
              obtain ⟨E, hE⟩ : ∃ E, E = (encB L).length := ⟨_, rfl⟩
              rw [← hE] at hsm
              have henc := fun W (h : StepV W s L) => encode_ok s L W h hmay HMK.out.ok
              rw [← hE] at henc
              have HENC := Lib.hid henc
              have hsr : s.rn ≤ 2 := by have h1 := HMK.out.two; have h2 := HL.out; omega
              have hsw : s.wn ≤ 1 := by have h1 := HMK.out.one; have h2 := HL.out; omega
              obtain ⟨Hn, hHn⟩ : ∃ Hn, Hn = hgt n := ⟨_, rfl⟩
              have hsp : s.pn ≤ Hn := by have h1 := HMK.out.path; have h2 := HSV.out.path.len; have h3 := HN.out; rw [hHn, h3]; omega
              have HHn := Lib.hid hHn
              have i0 : (s.rn : Int) ≤ 2 := by omega
              have i1 : (s.wn : Int) ≤ 1 := by omega
              have i2 : (s.pn : Int) ≤ Hn := by omega
              have i3 : (E : Int) ≤ 600 := by omega
              clear henc hE hHn hmay
              go_wp2_with fail
              refine (HENC.out _ (HSV.out.ext (y7.trans hx8))).mono ?_
              rintro e w9 ⟨v9, rfl, ho9, hx9⟩
              obtain ⟨A9, c9, rfl⟩ : ∃ A9 c9, v9 = .slice A9 E c9 := by
                rcases ho9.2 with ⟨hv, h0⟩ | ⟨g, c, cur, hv, _⟩
                · exact ⟨none, 0, by rw [hv, h0]⟩
                · exact ⟨_, c, hv⟩
              have hN9 := Blk.ext hN8 hx9
              clear hh8 hg8 ho9
              go_upto_region 13 with (fail)
              refine wp_region_3 (fun w2 => Ext w9 w2) [(0, 2), (1, 1), (2, 2), (3, 2), (4, 2), (5, 2), (6, 1), (7, 2), (8, 2), (9, 2), (10, 2), (11, 2), (12, 1), (13, 2), (14, 2), (15, 2), (16, 0), (17, 2), (18, 2), (19, 2), (20, 2), (21, 2), (22, 2), (23, 2), (24, 2), (25, 2), (26, 2), (27, 2), (28, 2)] (by kernel_rfl) (by kernel_rfl) (by kernel_rfl) (by kernel_rfl) ?_; intro l' hl'; simp only [List.map_cons, List.map_nil, List.getD_cons_zero, List.getD_cons_succ] at hl'; subst hl'
              (repeat (first | ((apply w3_pure); (· go_simp); (· (intro w1; go_simp; try with_reducible rfl)); (intro K hK; go_simp; refine hK _ _ ?_; clear hK K)) | ((apply w3_skip); (· go_simp); (intro K hK; go_simp; refine hK _ _ ?_; clear hK K)) | ((apply w3_take); (· exact (Kept.drew (Kept.refl _ _))); (· go_simp); (· (intro w1 hS; have d1 := Blk.cell (Blk.ext hN9 hS); have d2 := (Blk.ext hN9 hS).lt;  go_simp; try with_reducible rfl)); (intro K hK; go_simp; refine hK _ _ ?_; clear hK K)) | ((apply w3_pass); (· exact (Kept.drew (Kept.refl _ _))); (· go_simp); (intro K hK; go_simp; refine hK _ _ ?_; clear hK K))))
              have yW9 : Ext w9 w9.drew := (Kept.refl _ w9).drew
              (refine w3_act (fun K hK => ?_); go_simp)
              go_wp2_with fail
              refine (rheight_ok n (by omega) (by omega) _).mono ?_
              rintro e w10 ⟨rfl, rfl⟩
              rw [← HHn.out]
              refine hK.out _ _ (fun _ => yW9) ?_
              clear hK K
              (repeat (first | ((apply w3_pure); (· go_simp); (· (intro w1; go_simp; try with_reducible rfl)); (intro K hK; go_simp; refine hK _ _ ?_; clear hK K)) | ((apply w3_skip); (· go_simp); (intro K hK; go_simp; refine hK _ _ ?_; clear hK K)) | (refine w3_end (by kernel_rfl) (fun K hK => ?_); go_simp; refine hK.out _ _ ?_; clear hK K))); refine w3_nil ?_
              go_wp2_with fail
              go_ret
              exact ⟨rfl, ((y1.trans (x7.trans hx8)).trans hx9).trans yW9⟩
        · subst he
          subst hs
          replace hN5 : Blk W5 p5 45 zeroW := hN5
          have hh5 := Blk.has hN5
          have hg5 := Blk.gets hN5
          clear hv5
          go_wp2_with fail
          refine (to_zero _).mono ?_
          rintro e w6 ⟨rfl, hx6⟩
          go_wp2_with fail
          refine (rsame22_zero _).mono ?_
          rintro e w7 ⟨rfl, hx7⟩
          go_wp2_with fail
          go_ret
          exact ⟨rfl, (y1.trans yp).trans (hx6.trans hx7)⟩
      ·
        (refine w4_act (fun K hK => ?_); go_simp)
        refine hK.out _ _ (fun _ => Kept.alloc z3 _) ?_
        clear hK K
        have za2 : Ext w1 (Go.World.alloc w3 (.cells zeroW 45)) := Kept.alloc z3 _
        (repeat (first | ((apply w4_pure); (· go_simp); (· (intro w1; go_simp; try with_reducible rfl)); (intro K hK; go_simp; refine hK _ _ ?_; clear hK K)) | ((apply w4_skip); (· go_simp); (intro K hK; go_simp; refine hK _ _ ?_; clear hK K))))
        (refine w4_act (fun K hK => ?_); go_simp)
        go_wp2_with fail
        refine (make_all A3 g3 0 c3 l n HN.out (by omega) HO.out HA3.out pc halt A' b' off' cap' m k HKn.out HA'.out HMOK.out _ (HOPS.out.ext (y1.trans za2)) (fun h => (HR3.out h).ext (Kept.alloc (Kept.trans (Kept.refl _ w2) hx3) (.cells zeroW 45))) (fun h => (HR'.out h).ext (y1.trans za2))).mono ?_
        rintro e w4 ⟨s, err, rfl, hx4, hres⟩
        have HRES := Lib.hid hres
        have z4 : Ext w1 w4 := Kept.trans za2 hx4
        refine hK.out _ _ (fun _ => z4) ?_
        clear hK K hres
        have hN4 : Blk w4 (w3).heap.size 45 zeroW := (Blk.ext (Blk.new w3 45 zeroW) hx4)
        have hh4 := Blk.has hN4
        have hm4 := Blk.melts hN4
        have hl4 := Blk.lt hN4
        have hw4 : (w1 : World).heap.size ≤ (w3).heap.size := Kept.size z3
        (repeat (first | ((apply w4_pure); (· go_simp); (· (intro w1; go_simp; try with_reducible rfl)); (intro K hK; go_simp; refine hK _ _ ?_; clear hK K)) | ((apply w4_skip); (· go_simp); (intro K hK; go_simp; refine hK _ _ ?_; clear hK K)) | (refine w4_end (by kernel_rfl) (fun K hK => ?_); go_simp; refine hK.out _ _ ?_; clear hK K))); refine w4_nil ?_
        have yp : Ext w1 (putAt w4 (w3).heap.size 0 s.cells) := Kept.putAt z4 _ _ _ (fun h => by omega)
        have hN5 : Blk (putAt w4 (w3).heap.size 0 s.cells) (w3).heap.size 45 s.cells := Blk.put_ hN4 _ _
        have hv5 : ∀ L, StepV w4 s L → StepV (putAt w4 (w3).heap.size 0 s.cells) s L := fun L h => h.put hN4 _ _
        generalize (putAt w4 (w3).heap.size 0 s.cells) = W5 at yp hN5 hv5 ⊢
        obtain ⟨p5, hp5⟩ : ∃ p5, p5 = (w3).heap.size := ⟨_, rfl⟩
        rw [← hp5] at hN5 ⊢
        have hw5 : w1.heap.size ≤ p5 := by omega
        clear hh4 hm4 hl4 hN4 hp5 hw4
        have lp5 := hN5.lt
        rcases HRES.out with ⟨he, h1n, hright, hsv⟩ | ⟨he, hs⟩
        · subst he
          have hsv5 := hv5 _ hsv
          have hmk := makeL_ok l pc halt m (by rw [← HN.out]; exact h1n) (by rw [← HKn.out]; exact hright) HO.out HMOK.out
          obtain ⟨L, hL⟩ : ∃ L, L = makeL l pc halt m := ⟨_, rfl⟩
          rw [← hL] at hsv5 hmk
          have HSV := Lib.hid hsv5
          have HMK := Lib.hid hmk
          have hS5 := Blk.ext hS1 yp
          clear hsv hsv5 hmk hL hv5
          go_upto_region 6 with (fail)
          refine wp_region_3 (fun w2 => Ext W5 w2) [(1, 2), (2, 1), (4, 2), (5, 1), (8, 2), (0, 0), (3, 0), (6, 0), (7, 2)] (by kernel_rfl) (by kernel_rfl) (by kernel_rfl) (by kernel_rfl) ?_; intro l' hl'; simp only [List.map_cons, List.map_nil, List.getD_cons_zero, List.getD_cons_succ] at hl'; subst hl'
          (repeat (first | ((apply w3_pure); (· go_simp); (· (intro w1; go_simp; try with_reducible rfl)); (intro K hK; go_simp; refine hK _ _ ?_; clear hK K)) | ((apply w3_skip); (· go_simp); (intro K hK; go_simp; refine hK _ _ ?_; clear hK K)) | ((apply w3_take); (· exact (Kept.drew (Kept.refl _ _))); (· go_simp); (· (intro w1 hS; have d1 := Blk.cell (Blk.ext hN5 hS); have d2 := (Blk.ext hN5 hS).lt;  go_simp; try with_reducible rfl)); (intro K hK; go_simp; refine hK _ _ ?_; clear hK K)) | ((apply w3_pass); (· exact (Kept.drew (Kept.refl _ _))); (· go_simp); (intro K hK; go_simp; refine hK _ _ ?_; clear hK K))))
          have yW : Ext W5 W5.drew := (Kept.refl _ W5).drew
          (refine w3_act (fun K hK => ?_); go_simp)
          have yA : Ext W5 (W5.alloc (.cells #[] 77)).drew := ((Kept.refl _ W5).alloc _).drew
          refine hK.out _ _ (fun _ => yA) ?_
          clear hK K
          (repeat (first | ((apply w3_pure); (· go_simp); (· (intro w1; go_simp; try with_reducible rfl)); (intro K hK; go_simp; refine hK _ _ ?_; clear hK K)) | ((apply w3_skip); (· go_simp); (intro K hK; go_simp; refine hK _ _ ?_; clear hK K))))
          obtain ⟨e1, a1, v1⟩ := HSV.out.reads.cs s.rk
          obtain ⟨e2, a2, v2⟩ := HSV.out.writes.cs s.wk
          have hrl := HSV.out.reads.len
          have hwl := HSV.out.writes.len
          have hB0 := (Blk.new W5 77 #[])
          have ho0 : (W5.alloc (.cells #[] 77)).drew.ownsRow W5.heap.size 77 3 (.slice (some ⟨W5.heap.size, 0, none⟩) 0 0) 0 (wds []) := ⟨rfl, .inr ⟨W5.heap.size, 0, #[], rfl, Nat.le_refl _, hB0, Nat.le_refl _, by unfold maxLen; omega, rfl, rfl⟩⟩
          obtain ⟨v6, w6, hr6, ho6, hk6⟩ := catW_app _ _ _ _ _ ho0 ⟨s.ra, s.rn, s.rk, e1⟩ (a1.ext yA) (by have := HMK.out.two; simp only; omega) yA.size
          have y6 : Ext W5 w6 := yA.trans' hk6 (fun i hi e => by simp [Value.ownBlock] at e; omega)
          obtain ⟨v7, w7, hr7, ho7, hk7⟩ := catW_app _ _ _ _ _ ho6 ⟨s.wa, s.wn, s.wk, e2⟩ (a2.ext y6) (by have h1 := HMK.out.two; have h2 := HMK.out.one; simp only; omega) y6.size
          have y7 : Ext W5 w7 := y6.trans' hk7 (fun i hi e => by have := (ho6.lt i e).1; omega)
          have HO7 := Lib.hid ho7
          have HV1 := Lib.hid v1
          have HV2 := Lib.hid v2
          have HL := Lib.hid (And.intro hrl hwl)
          clear a1 a2 v1 v2 hrl hwl hB0 ho0 ho6 ho7 hk6 hk7
          refine w3_act (fun K hK => ?_)
          refine if_want rfl ?_
          refine Lib.wp_append_run _ _ _ _ _ rfl _ _ rfl rfl _ _ hr6 ?_
          refine hK.out _ _ (fun _ => y6) ?_
          clear hK K hr6
          refine w3_act (fun K hK => ?_)
          refine if_want rfl ?_
          refine Lib.wp_append_run _ _ _ _ _ rfl _ _ rfl rfl _ _ hr7 ?_
          refine hK.out _ _ (fun _ => y7) ?_
          clear hK K hr7
          have x7 := yp.trans y7
          have hN7 := Blk.ext hN5 y7
          have hS7 := Blk.ext hS5 y7
          obtain ⟨B7, c7, rfl, hW7⟩ := WordsS.of_own HO7.out ((HV2.out.ext y7).app (HV1.out.ext y7))
          have hm7 : 0 + s.rn + s.wn ≤ 3 := by have h1 := HMK.out.two; have h2 := HMK.out.one; have h3 := HL.out; omega
          obtain ⟨N7, he7⟩ : ∃ N7, N7 = 0 + s.rn + s.wn := ⟨_, rfl⟩
          simp only at hW7
          rw [← he7] at hW7 hm7
          have HE7 := Lib.hid he7
          have HW7 := Lib.hid hW7
          have hN7s : (0 + s.rn + s.wn) = N7 := he7.symm
          clear hW7 HO7 he7
          rw [hN7s]
          clear hN7s
          (repeat (first | ((apply w3_pure); (· go_simp); (· (intro w1; go_simp; try with_reducible rfl)); (intro K hK; go_simp; refine hK _ _ ?_; clear hK K)) | ((apply w3_skip); (· go_simp); (intro K hK; go_simp; refine hK _ _ ?_; clear hK K)) | (refine w3_end (by kernel_rfl) (fun K hK => ?_); go_simp; refine hK.out _ _ ?_; clear hK K))); refine w3_nil ?_
          obtain ⟨hnl7, b7, o7, ds7, q1, q2, _, q4⟩ := HW7.out
          have Q0 := Lib.hid hnl7
          have Q1 := Lib.hid q1
          have Q2 := Lib.hid q2
          have Q4 := Lib.hid q4
          clear hnl7 q1 q2 q4
          go_wp2_with fail
          go_loopw [47] (fun t47 wr => ∃ (j : Nat), j ≤ N7 ∧ t47 = .int .i64 j ∧ Ext w7 wr) (fun t47 _ => N7 - (intOf t47).toNat)
          case atStart => exact ⟨0, by omega, rfl, Kept.refl _ _⟩
          case round =>
            obtain ⟨j, hj, rfl, hx8⟩ := hrel
            by_cases hlt : j < N7
            · have hltI : (j : Int) < N7 := by omega
              obtain rfl := Q1.out (by omega)
              have hjl : j < (L.reads ++ L.writes).length := by have := Q0.out; omega
              have hjd : j < ds7.length := by rw [Q4.out.len]; exact hjl
              have hrow := (Q2.out (by omega)).ext hx8
              obtain ⟨hrh, hrg⟩ := hrow.wd j hjd
              have hbl := hrow.lt
              have hwv := Q4.out.get j hjd hjl
              have hwok : WordOK m (L.reads ++ L.writes)[j] := by
                rcases List.mem_append.1 (List.getElem_mem hjl) with h | h
                · exact HMK.out.reads _ h
                · exact HMK.out.writes _ h
              obtain ⟨d, hde⟩ : ∃ d, d = ds7[j] := ⟨_, rfl⟩
              obtain ⟨x, hxe⟩ : ∃ x, x = (L.reads ++ L.writes)[j] := ⟨_, rfl⟩
              rw [← hxe] at hwok hwv
              rw [← hde] at hrg hwv
              have f1 := hwv.at_
              have f2 := hwv.is_
              have f3 : d.pn = hgt k := by obtain ⟨_, _, hq⟩ := hwv.path; rw [hq.len, hwok.path, HKn.out]
              obtain ⟨a, ha⟩ : ∃ a : Nat, d.at_ = a := ⟨d.at_.toNat, by have := hwok.lo; omega⟩
              have hak : a < k := by have := hwok.hi; have := HKn.out; omega
              have hal : a < m.length := by have := HKn.out; omega
              have hiv : d.is_ = m[a] := by rw [f2, hwok.is_, ← f1, ha]; simp [hal]
              clear hde hxe hwv hwok f1 f2 hrow
              obtain ⟨dat, dis, dpa, dpn, dpk⟩ := d
              simp only at ha hiv f3
              subst ha
              obtain ⟨y, hy⟩ : ∃ y, y = m[a] := ⟨_, rfl⟩
              rw [← hy] at hiv
              subst hiv
              obtain ⟨Hk, hHk⟩ : ∃ Hk, Hk = hgt k := ⟨_, rfl⟩
              rw [← hHk] at f3
              subst f3
              obtain rfl := HA'.out (by omega)
              have hmem := ((HR'.out (by omega)).ext (y1.trans (x7.trans hx8)))
              have hcM := hmem.mem a hal
              rw [← hy] at hcM
              have lM := hmem.lt
              have HHK := Lib.hid hHk
              have hS8 := Blk.ext hS7 hx8
              have i0 : ¬ (a : Int) < 0 := by omega
              have i1 : ¬ (k : Int) ≤ a := by omega
              have i2 : (a : Int) < k := by omega
              clear hy hHk hmem hjl hjd hal
              go_upto_region 9 with (fail)
              have x9 := hx8.alloc (.cells (Wd.cells ⟨a, dis, dpa, dpn, dpk⟩) 77)
              have hW9 := Blk.new wr 77 (Wd.cells ⟨a, dis, dpa, dpn, dpk⟩)
              have hS9 := Blk.alloc hS8 (.cells (Wd.cells ⟨a, dis, dpa, dpn, dpk⟩) 77)
              have hM9 : (wr.alloc (.cells (Wd.cells ⟨a, dis, dpa, dpn, dpk⟩) 77)).cell? ⟨b', off' + a, none⟩ = some (.int .i32 dis) := (Kept.cell (((Kept.refl (fun _ => False) wr).alloc _)) (p := ⟨b', off' + a, none⟩) lM (fun f => f)).trans hcM
              have lM9 : b' < (wr.alloc (.cells (Wd.cells ⟨a, dis, dpa, dpn, dpk⟩) 77)).heap.size := by simp; omega
              generalize (wr.alloc (.cells (Wd.cells ⟨a, dis, dpa, dpn, dpk⟩) 77)) = W9 at x9 hW9 hS9 hM9 lM9 ⊢
              generalize (wr : World).heap.size = p9 at hW9 ⊢
              clear hS8 hcM hrh hrg
              refine wp_region_3 (fun w2 => Ext W9 w2) [(0, 2), (1, 1), (2, 2), (3, 2), (4, 1), (5, 2), (6, 0), (7, 2), (8, 2), (9, 2), (10, 1), (11, 2), (12, 2), (13, 2), (14, 2), (15, 1), (16, 2), (17, 1), (18, 2), (19, 2), (20, 2), (21, 2), (22, 2), (23, 1), (24, 2), (25, 1), (26, 2), (27, 1), (28, 2), (29, 1), (30, 2), (31, 2)] (by kernel_rfl) (by kernel_rfl) (by kernel_rfl) (by kernel_rfl) ?_; intro l' hl'; simp only [List.map_cons, List.map_nil, List.getD_cons_zero, List.getD_cons_succ] at hl'; subst hl'
              (repeat (first | ((apply w3_pure); (· go_simp); (· (intro w1; go_simp; try with_reducible rfl)); (intro K hK; go_simp; refine hK _ _ ?_; clear hK K)) | ((apply w3_skip); (· go_simp); (intro K hK; go_simp; refine hK _ _ ?_; clear hK K)) | ((apply w3_take); (· exact (Kept.drew (Kept.refl _ _))); (· go_simp); (· (intro w1 hS; have d1 := Blk.cell (Blk.ext hW9 hS); have d2 := (Blk.ext hW9 hS).lt; have d3 := Blk.cell (Blk.ext hS9 hS); have d4 := (Blk.ext hS9 hS).lt; have d5 := (Kept.cell hS (p := ⟨b', off' + a, none⟩) lM9 (fun f => f)).trans hM9; have d6 := Nat.lt_of_lt_of_le lM9 hS.size;  go_simp; try with_reducible rfl)); (intro K hK; go_simp; refine hK _ _ ?_; clear hK K)) | ((apply w3_pass); (· exact (Kept.drew (Kept.refl _ _))); (· go_simp); (intro K hK; go_simp; refine hK _ _ ?_; clear hK K))))
              have yW9 : Ext W9 W9.drew := (Kept.refl _ W9).drew
              (refine w3_act (fun K hK => ?_); go_simp)
              go_wp2_with fail
              refine (rheight_ok k (by omega) (by omega) _).mono ?_
              rintro e w10 ⟨rfl, rfl⟩
              rw [← HHK.out]
              refine hK.out _ _ (fun _ => yW9) ?_
              clear hK K
              (repeat (first | ((apply w3_pure); (· go_simp); (· (intro w1; go_simp; try with_reducible rfl)); (intro K hK; go_simp; refine hK _ _ ?_; clear hK K)) | ((apply w3_skip); (· go_simp); (intro K hK; go_simp; refine hK _ _ ?_; clear hK K)) | ((apply w3_take); (· exact yW9); (· go_simp); (· (intro w1 hS; have d1 := Blk.cell (Blk.ext hW9 hS); have d2 := (Blk.ext hW9 hS).lt; have d3 := Blk.cell (Blk.ext hS9 hS); have d4 := (Blk.ext hS9 hS).lt; have d5 := (Kept.cell hS (p := ⟨b', off' + a, none⟩) lM9 (fun f => f)).trans hM9; have d6 := Nat.lt_of_lt_of_le lM9 hS.size;  go_simp; try with_reducible rfl)); (intro K hK; go_simp; refine hK _ _ ?_; clear hK K)) | ((apply w3_pass); (· exact yW9); (· go_simp); (intro K hK; go_simp; refine hK _ _ ?_; clear hK K))))
              (repeat (first | ((apply w3_pure); (· go_simp); (· (intro w1; go_simp; try with_reducible rfl)); (intro K hK; go_simp; refine hK _ _ ?_; clear hK K)) | ((apply w3_skip); (· go_simp); (intro K hK; go_simp; refine hK _ _ ?_; clear hK K)) | (refine w3_end (by kernel_rfl) (fun K hK => ?_); go_simp; refine hK.out _ _ ?_; clear hK K))); refine w3_nil ?_
              go_wp2_with fail
              go_roundw
              case rel => exact ⟨j + 1, hlt, by go_num, x9.trans yW9⟩
              case measure => simp only [intOf]; omega
            · have hN8 := Blk.ext hN7 hx8
              have hh8 := Blk.has hN8
              have hg8 := Blk.gets hN8
              have hlt' : ¬ (j : Int) < N7 := by omega
              obtain ⟨hmay, hsm⟩ := encB_small HMK.out (by have h1 := rightS_inv hright; have h2 := HKn.out; omega) (by have h2 := HKn.out; omega) (by have h2 := HN.out; omega) (by have h2 := HN.out; omega)
              obtain ⟨E, hE⟩ : ∃ E, E = (encB L).length := ⟨_, rfl⟩
              rw [← hE] at hsm
              have henc := fun W (h : StepV W s L) => encode_ok s L W h hmay HMK.out.ok
              rw [← hE] at henc
              have HENC := Lib.hid henc
              have hsr : s.rn ≤ 2 := by have h1 := HMK.out.two; have h2 := HL.out; omega
              have hsw : s.wn ≤ 1 := by have h1 := HMK.out.one; have h2 := HL.out; omega
              obtain ⟨Hn, hHn⟩ : ∃ Hn, Hn = hgt n := ⟨_, rfl⟩
              have hsp : s.pn ≤ Hn := by have h1 := HMK.out.path; have h2 := HSV.out.path.len; have h3 := HN.out; rw [hHn, h3]; omega
              have HHn := Lib.hid hHn
              have i0 : (s.rn : Int) ≤ 2 := by omega
              have i1 : (s.wn : Int) ≤ 1 := by omega
              have i2 : (s.pn : Int) ≤ Hn := by omega
              have i3 : (E : Int) ≤ 600 := by omega
              clear henc hE hHn hmay
              go_wp2_with fail
              refine (HENC.out _ (HSV.out.ext (y7.trans hx8))).mono ?_
              rintro e w9 ⟨v9, rfl, ho9, hx9⟩
              obtain ⟨A9, c9, rfl⟩ : ∃ A9 c9, v9 = .slice A9 E c9 := by
                rcases ho9.2 with ⟨hv, h0⟩ | ⟨g, c, cur, hv, _⟩
                · exact ⟨none, 0, by rw [hv, h0]⟩
                · exact ⟨_, c, hv⟩
              have hN9 := Blk.ext hN8 hx9
              clear hh8 hg8 ho9
              go_upto_region 13 with (fail)
              refine wp_region_3 (fun w2 => Ext w9 w2) [(0, 2), (1, 1), (2, 2), (3, 2), (4, 2), (5, 2), (6, 1), (7, 2), (8, 2), (9, 2), (10, 2), (11, 2), (12, 1), (13, 2), (14, 2), (15, 2), (16, 0), (17, 2), (18, 2), (19, 2), (20, 2), (21, 2), (22, 2), (23, 2), (24, 2), (25, 2), (26, 2), (27, 2), (28, 2)] (by kernel_rfl) (by kernel_rfl) (by kernel_rfl) (by kernel_rfl) ?_; intro l' hl'; simp only [List.map_cons, List.map_nil, List.getD_cons_zero, List.getD_cons_succ] at hl'; subst hl'
              (repeat (first | ((apply w3_pure); (· go_simp); (· (intro w1; go_simp; try with_reducible rfl)); (intro K hK; go_simp; refine hK _ _ ?_; clear hK K)) | ((apply w3_skip); (· go_simp); (intro K hK; go_simp; refine hK _ _ ?_; clear hK K)) | ((apply w3_take); (· exact (Kept.drew (Kept.refl _ _))); (· go_simp); (· (intro w1 hS; have d1 := Blk.cell (Blk.ext hN9 hS); have d2 := (Blk.ext hN9 hS).lt;  go_simp; try with_reducible rfl)); (intro K hK; go_simp; refine hK _ _ ?_; clear hK K)) | ((apply w3_pass); (· exact (Kept.drew (Kept.refl _ _))); (· go_simp); (intro K hK; go_simp; refine hK _ _ ?_; clear hK K))))
              have yW9 : Ext w9 w9.drew := (Kept.refl _ w9).drew
              (refine w3_act (fun K hK => ?_); go_simp)
              go_wp2_with fail
              refine (rheight_ok n (by omega) (by omega) _).mono ?_
              rintro e w10 ⟨rfl, rfl⟩
              rw [← HHn.out]
              refine hK.out _ _ (fun _ => yW9) ?_
              clear hK K
              (repeat (first | ((apply w3_pure); (· go_simp); (· (intro w1; go_simp; try with_reducible rfl)); (intro K hK; go_simp; refine hK _ _ ?_; clear hK K)) | ((apply w3_skip); (· go_simp); (intro K hK; go_simp; refine hK _ _ ?_; clear hK K)) | (refine w3_end (by kernel_rfl) (fun K hK => ?_); go_simp; refine hK.out _ _ ?_; clear hK K))); refine w3_nil ?_
              go_wp2_with fail
              go_ret
              exact ⟨rfl, ((y1.trans (x7.trans hx8)).trans hx9).trans yW9⟩
        · subst he
          subst hs
          replace hN5 : Blk W5 p5 45 zeroW := hN5
          have hh5 := Blk.has hN5
          have hg5 := Blk.gets hN5
          clear hv5
          go_wp2_with fail
          refine (to_zero _).mono ?_
          rintro e w6 ⟨rfl, hx6⟩
          go_wp2_with fail
          refine (rsame22_zero _).mono ?_
          rintro e w7 ⟨rfl, hx7⟩
          go_wp2_with fail
          go_ret
          exact ⟨rfl, (y1.trans yp).trans (hx6.trans hx7)⟩
    ·
      (refine w4_act (fun K hK => ?_); go_simp)
      refine hK.out _ _ (fun _ => Kept.alloc z2 _) ?_
      clear hK K
      have za1 : Ext w1 (Go.World.alloc w2 (.cells zeroW 45)) := Kept.alloc z2 _
      (repeat (first | ((apply w4_pure); (· go_simp); (· (intro w1; go_simp; try with_reducible rfl)); (intro K hK; go_simp; refine hK _ _ ?_; clear hK K)) | ((apply w4_skip); (· go_simp); (intro K hK; go_simp; refine hK _ _ ?_; clear hK K))))
      (refine w4_act (fun K hK => ?_); go_simp)
      go_wp2_with fail
      refine (of_st A' k cap' pc halt _).mono ?_
      rintro e w3 ⟨rfl, hx3⟩
      have z3 : Ext w1 w3 := Kept.trans za1 hx3
      refine hK.out _ _ (fun _ => z3) ?_
      clear hK K
      (repeat (first | ((apply w4_pure); (· go_simp); (· (intro w1; go_simp; try with_reducible rfl)); (intro K hK; go_simp; refine hK _ _ ?_; clear hK K)) | ((apply w4_skip); (· go_simp); (intro K hK; go_simp; refine hK _ _ ?_; clear hK K))))
      (refine w4_act (fun K hK => ?_); go_simp)
      go_wp2_with fail
      refine (make_all A3 g3 0 c3 l n HN.out (by omega) HO.out HA3.out pc halt A' b' off' cap' m k HKn.out HA'.out HMOK.out _ (HOPS.out.ext (y1.trans z3)) (fun h => (HR3.out h).ext (Kept.trans (Kept.alloc (Kept.refl _ w2) (.cells zeroW 45)) hx3)) (fun h => (HR'.out h).ext (y1.trans z3))).mono ?_
      rintro e w4 ⟨s, err, rfl, hx4, hres⟩
      have HRES := Lib.hid hres
      have z4 : Ext w1 w4 := Kept.trans z3 hx4
      refine hK.out _ _ (fun _ => z4) ?_
      clear hK K hres
      have hN4 : Blk w4 (w2).heap.size 45 zeroW := (Blk.ext (Blk.ext (Blk.new w2 45 zeroW) hx3) hx4)
      have hh4 := Blk.has hN4
      have hm4 := Blk.melts hN4
      have hl4 := Blk.lt hN4
      have hw4 : (w1 : World).heap.size ≤ (w2).heap.size := Kept.size z2
      (repeat (first | ((apply w4_pure); (· go_simp); (· (intro w1; go_simp; try with_reducible rfl)); (intro K hK; go_simp; refine hK _ _ ?_; clear hK K)) | ((apply w4_skip); (· go_simp); (intro K hK; go_simp; refine hK _ _ ?_; clear hK K)) | (refine w4_end (by kernel_rfl) (fun K hK => ?_); go_simp; refine hK.out _ _ ?_; clear hK K))); refine w4_nil ?_
      have yp : Ext w1 (putAt w4 (w2).heap.size 0 s.cells) := Kept.putAt z4 _ _ _ (fun h => by omega)
      have hN5 : Blk (putAt w4 (w2).heap.size 0 s.cells) (w2).heap.size 45 s.cells := Blk.put_ hN4 _ _
      have hv5 : ∀ L, StepV w4 s L → StepV (putAt w4 (w2).heap.size 0 s.cells) s L := fun L h => h.put hN4 _ _
      generalize (putAt w4 (w2).heap.size 0 s.cells) = W5 at yp hN5 hv5 ⊢
      obtain ⟨p5, hp5⟩ : ∃ p5, p5 = (w2).heap.size := ⟨_, rfl⟩
      rw [← hp5] at hN5 ⊢
      have hw5 : w1.heap.size ≤ p5 := by omega
      clear hh4 hm4 hl4 hN4 hp5 hw4
      have lp5 := hN5.lt
      rcases HRES.out with ⟨he, h1n, hright, hsv⟩ | ⟨he, hs⟩
      · subst he
        have hsv5 := hv5 _ hsv
        have hmk := makeL_ok l pc halt m (by rw [← HN.out]; exact h1n) (by rw [← HKn.out]; exact hright) HO.out HMOK.out
        obtain ⟨L, hL⟩ : ∃ L, L = makeL l pc halt m := ⟨_, rfl⟩
        rw [← hL] at hsv5 hmk
        have HSV := Lib.hid hsv5
        have HMK := Lib.hid hmk
        have hS5 := Blk.ext hS1 yp
        clear hsv hsv5 hmk hL hv5
        go_upto_region 6 with (fail)
        refine wp_region_3 (fun w2 => Ext W5 w2) [(1, 2), (2, 1), (4, 2), (5, 1), (8, 2), (0, 0), (3, 0), (6, 0), (7, 2)] (by kernel_rfl) (by kernel_rfl) (by kernel_rfl) (by kernel_rfl) ?_; intro l' hl'; simp only [List.map_cons, List.map_nil, List.getD_cons_zero, List.getD_cons_succ] at hl'; subst hl'
        (repeat (first | ((apply w3_pure); (· go_simp); (· (intro w1; go_simp; try with_reducible rfl)); (intro K hK; go_simp; refine hK _ _ ?_; clear hK K)) | ((apply w3_skip); (· go_simp); (intro K hK; go_simp; refine hK _ _ ?_; clear hK K)) | ((apply w3_take); (· exact (Kept.drew (Kept.refl _ _))); (· go_simp); (· (intro w1 hS; have d1 := Blk.cell (Blk.ext hN5 hS); have d2 := (Blk.ext hN5 hS).lt;  go_simp; try with_reducible rfl)); (intro K hK; go_simp; refine hK _ _ ?_; clear hK K)) | ((apply w3_pass); (· exact (Kept.drew (Kept.refl _ _))); (· go_simp); (intro K hK; go_simp; refine hK _ _ ?_; clear hK K))))
        have yW : Ext W5 W5.drew := (Kept.refl _ W5).drew
        (refine w3_act (fun K hK => ?_); go_simp)
        have yA : Ext W5 (W5.alloc (.cells #[] 77)).drew := ((Kept.refl _ W5).alloc _).drew
        refine hK.out _ _ (fun _ => yA) ?_
        clear hK K
        (repeat (first | ((apply w3_pure); (· go_simp); (· (intro w1; go_simp; try with_reducible rfl)); (intro K hK; go_simp; refine hK _ _ ?_; clear hK K)) | ((apply w3_skip); (· go_simp); (intro K hK; go_simp; refine hK _ _ ?_; clear hK K))))
        obtain ⟨e1, a1, v1⟩ := HSV.out.reads.cs s.rk
        obtain ⟨e2, a2, v2⟩ := HSV.out.writes.cs s.wk
        have hrl := HSV.out.reads.len
        have hwl := HSV.out.writes.len
        have hB0 := (Blk.new W5 77 #[])
        have ho0 : (W5.alloc (.cells #[] 77)).drew.ownsRow W5.heap.size 77 3 (.slice (some ⟨W5.heap.size, 0, none⟩) 0 0) 0 (wds []) := ⟨rfl, .inr ⟨W5.heap.size, 0, #[], rfl, Nat.le_refl _, hB0, Nat.le_refl _, by unfold maxLen; omega, rfl, rfl⟩⟩
        obtain ⟨v6, w6, hr6, ho6, hk6⟩ := catW_app _ _ _ _ _ ho0 ⟨s.ra, s.rn, s.rk, e1⟩ (a1.ext yA) (by have := HMK.out.two; simp only; omega) yA.size
        have y6 : Ext W5 w6 := yA.trans' hk6 (fun i hi e => by simp [Value.ownBlock] at e; omega)
        obtain ⟨v7, w7, hr7, ho7, hk7⟩ := catW_app _ _ _ _ _ ho6 ⟨s.wa, s.wn, s.wk, e2⟩ (a2.ext y6) (by have h1 := HMK.out.two; have h2 := HMK.out.one; simp only; omega) y6.size
        have y7 : Ext W5 w7 := y6.trans' hk7 (fun i hi e => by have := (ho6.lt i e).1; omega)
        have HO7 := Lib.hid ho7
        have HV1 := Lib.hid v1
        have HV2 := Lib.hid v2
        have HL := Lib.hid (And.intro hrl hwl)
        clear a1 a2 v1 v2 hrl hwl hB0 ho0 ho6 ho7 hk6 hk7
        refine w3_act (fun K hK => ?_)
        refine if_want rfl ?_
        refine Lib.wp_append_run _ _ _ _ _ rfl _ _ rfl rfl _ _ hr6 ?_
        refine hK.out _ _ (fun _ => y6) ?_
        clear hK K hr6
        refine w3_act (fun K hK => ?_)
        refine if_want rfl ?_
        refine Lib.wp_append_run _ _ _ _ _ rfl _ _ rfl rfl _ _ hr7 ?_
        refine hK.out _ _ (fun _ => y7) ?_
        clear hK K hr7
        have x7 := yp.trans y7
        have hN7 := Blk.ext hN5 y7
        have hS7 := Blk.ext hS5 y7
        obtain ⟨B7, c7, rfl, hW7⟩ := WordsS.of_own HO7.out ((HV2.out.ext y7).app (HV1.out.ext y7))
        have hm7 : 0 + s.rn + s.wn ≤ 3 := by have h1 := HMK.out.two; have h2 := HMK.out.one; have h3 := HL.out; omega
        obtain ⟨N7, he7⟩ : ∃ N7, N7 = 0 + s.rn + s.wn := ⟨_, rfl⟩
        simp only at hW7
        rw [← he7] at hW7 hm7
        have HE7 := Lib.hid he7
        have HW7 := Lib.hid hW7
        have hN7s : (0 + s.rn + s.wn) = N7 := he7.symm
        clear hW7 HO7 he7
        rw [hN7s]
        clear hN7s
        (repeat (first | ((apply w3_pure); (· go_simp); (· (intro w1; go_simp; try with_reducible rfl)); (intro K hK; go_simp; refine hK _ _ ?_; clear hK K)) | ((apply w3_skip); (· go_simp); (intro K hK; go_simp; refine hK _ _ ?_; clear hK K)) | (refine w3_end (by kernel_rfl) (fun K hK => ?_); go_simp; refine hK.out _ _ ?_; clear hK K))); refine w3_nil ?_
        obtain ⟨hnl7, b7, o7, ds7, q1, q2, _, q4⟩ := HW7.out
        have Q0 := Lib.hid hnl7
        have Q1 := Lib.hid q1
        have Q2 := Lib.hid q2
        have Q4 := Lib.hid q4
        clear hnl7 q1 q2 q4
        go_wp2_with fail
        go_loopw [47] (fun t47 wr => ∃ (j : Nat), j ≤ N7 ∧ t47 = .int .i64 j ∧ Ext w7 wr) (fun t47 _ => N7 - (intOf t47).toNat)
        case atStart => exact ⟨0, by omega, rfl, Kept.refl _ _⟩
        case round =>
          obtain ⟨j, hj, rfl, hx8⟩ := hrel
          by_cases hlt : j < N7
          · have hltI : (j : Int) < N7 := by omega
            obtain rfl := Q1.out (by omega)
            have hjl : j < (L.reads ++ L.writes).length := by have := Q0.out; omega
            have hjd : j < ds7.length := by rw [Q4.out.len]; exact hjl
            have hrow := (Q2.out (by omega)).ext hx8
            obtain ⟨hrh, hrg⟩ := hrow.wd j hjd
            have hbl := hrow.lt
            have hwv := Q4.out.get j hjd hjl
            have hwok : WordOK m (L.reads ++ L.writes)[j] := by
              rcases List.mem_append.1 (List.getElem_mem hjl) with h | h
              · exact HMK.out.reads _ h
              · exact HMK.out.writes _ h
            obtain ⟨d, hde⟩ : ∃ d, d = ds7[j] := ⟨_, rfl⟩
            obtain ⟨x, hxe⟩ : ∃ x, x = (L.reads ++ L.writes)[j] := ⟨_, rfl⟩
            rw [← hxe] at hwok hwv
            rw [← hde] at hrg hwv
            have f1 := hwv.at_
            have f2 := hwv.is_
            have f3 : d.pn = hgt k := by obtain ⟨_, _, hq⟩ := hwv.path; rw [hq.len, hwok.path, HKn.out]
            obtain ⟨a, ha⟩ : ∃ a : Nat, d.at_ = a := ⟨d.at_.toNat, by have := hwok.lo; omega⟩
            have hak : a < k := by have := hwok.hi; have := HKn.out; omega
            have hal : a < m.length := by have := HKn.out; omega
            have hiv : d.is_ = m[a] := by rw [f2, hwok.is_, ← f1, ha]; simp [hal]
            clear hde hxe hwv hwok f1 f2 hrow
            obtain ⟨dat, dis, dpa, dpn, dpk⟩ := d
            simp only at ha hiv f3
            subst ha
            obtain ⟨y, hy⟩ : ∃ y, y = m[a] := ⟨_, rfl⟩
            rw [← hy] at hiv
            subst hiv
            obtain ⟨Hk, hHk⟩ : ∃ Hk, Hk = hgt k := ⟨_, rfl⟩
            rw [← hHk] at f3
            subst f3
            obtain rfl := HA'.out (by omega)
            have hmem := ((HR'.out (by omega)).ext (y1.trans (x7.trans hx8)))
            have hcM := hmem.mem a hal
            rw [← hy] at hcM
            have lM := hmem.lt
            have HHK := Lib.hid hHk
            have hS8 := Blk.ext hS7 hx8
            have i0 : ¬ (a : Int) < 0 := by omega
            have i1 : ¬ (k : Int) ≤ a := by omega
            have i2 : (a : Int) < k := by omega
            clear hy hHk hmem hjl hjd hal
            go_upto_region 9 with (fail)
            have x9 := hx8.alloc (.cells (Wd.cells ⟨a, dis, dpa, dpn, dpk⟩) 77)
            have hW9 := Blk.new wr 77 (Wd.cells ⟨a, dis, dpa, dpn, dpk⟩)
            have hS9 := Blk.alloc hS8 (.cells (Wd.cells ⟨a, dis, dpa, dpn, dpk⟩) 77)
            have hM9 : (wr.alloc (.cells (Wd.cells ⟨a, dis, dpa, dpn, dpk⟩) 77)).cell? ⟨b', off' + a, none⟩ = some (.int .i32 dis) := (Kept.cell (((Kept.refl (fun _ => False) wr).alloc _)) (p := ⟨b', off' + a, none⟩) lM (fun f => f)).trans hcM
            have lM9 : b' < (wr.alloc (.cells (Wd.cells ⟨a, dis, dpa, dpn, dpk⟩) 77)).heap.size := by simp; omega
            generalize (wr.alloc (.cells (Wd.cells ⟨a, dis, dpa, dpn, dpk⟩) 77)) = W9 at x9 hW9 hS9 hM9 lM9 ⊢
            generalize (wr : World).heap.size = p9 at hW9 ⊢
            clear hS8 hcM hrh hrg
            refine wp_region_3 (fun w2 => Ext W9 w2) [(0, 2), (1, 1), (2, 2), (3, 2), (4, 1), (5, 2), (6, 0), (7, 2), (8, 2), (9, 2), (10, 1), (11, 2), (12, 2), (13, 2), (14, 2), (15, 1), (16, 2), (17, 1), (18, 2), (19, 2), (20, 2), (21, 2), (22, 2), (23, 1), (24, 2), (25, 1), (26, 2), (27, 1), (28, 2), (29, 1), (30, 2), (31, 2)] (by kernel_rfl) (by kernel_rfl) (by kernel_rfl) (by kernel_rfl) ?_; intro l' hl'; simp only [List.map_cons, List.map_nil, List.getD_cons_zero, List.getD_cons_succ] at hl'; subst hl'
            (repeat (first | ((apply w3_pure); (· go_simp); (· (intro w1; go_simp; try with_reducible rfl)); (intro K hK; go_simp; refine hK _ _ ?_; clear hK K)) | ((apply w3_skip); (· go_simp); (intro K hK; go_simp; refine hK _ _ ?_; clear hK K)) | ((apply w3_take); (· exact (Kept.drew (Kept.refl _ _))); (· go_simp); (· (intro w1 hS; have d1 := Blk.cell (Blk.ext hW9 hS); have d2 := (Blk.ext hW9 hS).lt; have d3 := Blk.cell (Blk.ext hS9 hS); have d4 := (Blk.ext hS9 hS).lt; have d5 := (Kept.cell hS (p := ⟨b', off' + a, none⟩) lM9 (fun f => f)).trans hM9; have d6 := Nat.lt_of_lt_of_le lM9 hS.size;  go_simp; try with_reducible rfl)); (intro K hK; go_simp; refine hK _ _ ?_; clear hK K)) | ((apply w3_pass); (· exact (Kept.drew (Kept.refl _ _))); (· go_simp); (intro K hK; go_simp; refine hK _ _ ?_; clear hK K))))
            have yW9 : Ext W9 W9.drew := (Kept.refl _ W9).drew
            (refine w3_act (fun K hK => ?_); go_simp)
            go_wp2_with fail
            refine (rheight_ok k (by omega) (by omega) _).mono ?_
            rintro e w10 ⟨rfl, rfl⟩
            rw [← HHK.out]
            refine hK.out _ _ (fun _ => yW9) ?_
            clear hK K
            (repeat (first | ((apply w3_pure); (· go_simp); (· (intro w1; go_simp; try with_reducible rfl)); (intro K hK; go_simp; refine hK _ _ ?_; clear hK K)) | ((apply w3_skip); (· go_simp); (intro K hK; go_simp; refine hK _ _ ?_; clear hK K)) | ((apply w3_take); (· exact yW9); (· go_simp); (· (intro w1 hS; have d1 := Blk.cell (Blk.ext hW9 hS); have d2 := (Blk.ext hW9 hS).lt; have d3 := Blk.cell (Blk.ext hS9 hS); have d4 := (Blk.ext hS9 hS).lt; have d5 := (Kept.cell hS (p := ⟨b', off' + a, none⟩) lM9 (fun f => f)).trans hM9; have d6 := Nat.lt_of_lt_of_le lM9 hS.size;  go_simp; try with_reducible rfl)); (intro K hK; go_simp; refine hK _ _ ?_; clear hK K)) | ((apply w3_pass); (· exact yW9); (· go_simp); (intro K hK; go_simp; refine hK _ _ ?_; clear hK K))))
            (repeat (first | ((apply w3_pure); (· go_simp); (· (intro w1; go_simp; try with_reducible rfl)); (intro K hK; go_simp; refine hK _ _ ?_; clear hK K)) | ((apply w3_skip); (· go_simp); (intro K hK; go_simp; refine hK _ _ ?_; clear hK K)) | (refine w3_end (by kernel_rfl) (fun K hK => ?_); go_simp; refine hK.out _ _ ?_; clear hK K))); refine w3_nil ?_
            go_wp2_with fail
            go_roundw
            case rel => exact ⟨j + 1, hlt, by go_num, x9.trans yW9⟩
            case measure => simp only [intOf]; omega
          · have hN8 := Blk.ext hN7 hx8
            have hh8 := Blk.has hN8
            have hg8 := Blk.gets hN8
            have hlt' : ¬ (j : Int) < N7 := by omega
            obtain ⟨hmay, hsm⟩ := encB_small HMK.out (by have h1 := rightS_inv hright; have h2 := HKn.out; omega) (by have h2 := HKn.out; omega) (by have h2 := HN.out; omega) (by have h2 := HN.out; omega)
            obtain ⟨E, hE⟩ : ∃ E, E = (encB L).length := ⟨_, rfl⟩
            rw [← hE] at hsm
            have henc := fun W (h : StepV W s L) => encode_ok s L W h hmay HMK.out.ok
            rw [← hE] at henc
            have HENC := Lib.hid henc
            have hsr : s.rn ≤ 2 := by have h1 := HMK.out.two; have h2 := HL.out; omega
            have hsw : s.wn ≤ 1 := by have h1 := HMK.out.one; have h2 := HL.out; omega
            obtain ⟨Hn, hHn⟩ : ∃ Hn, Hn = hgt n := ⟨_, rfl⟩
            have hsp : s.pn ≤ Hn := by have h1 := HMK.out.path; have h2 := HSV.out.path.len; have h3 := HN.out; rw [hHn, h3]; omega
            have HHn := Lib.hid hHn
            have i0 : (s.rn : Int) ≤ 2 := by omega
            have i1 : (s.wn : Int) ≤ 1 := by omega
            have i2 : (s.pn : Int) ≤ Hn := by omega
            have i3 : (E : Int) ≤ 600 := by omega
            clear henc hE hHn hmay
            go_wp2_with fail
            refine (HENC.out _ (HSV.out.ext (y7.trans hx8))).mono ?_
            rintro e w9 ⟨v9, rfl, ho9, hx9⟩
            obtain ⟨A9, c9, rfl⟩ : ∃ A9 c9, v9 = .slice A9 E c9 := by
              rcases ho9.2 with ⟨hv, h0⟩ | ⟨g, c, cur, hv, _⟩
              · exact ⟨none, 0, by rw [hv, h0]⟩
              · exact ⟨_, c, hv⟩
            have hN9 := Blk.ext hN8 hx9
            clear hh8 hg8 ho9
            go_upto_region 13 with (fail)
            refine wp_region_3 (fun w2 => Ext w9 w2) [(0, 2), (1, 1), (2, 2), (3, 2), (4, 2), (5, 2), (6, 1), (7, 2), (8, 2), (9, 2), (10, 2), (11, 2), (12, 1), (13, 2), (14, 2), (15, 2), (16, 0), (17, 2), (18, 2), (19, 2), (20, 2), (21, 2), (22, 2), (23, 2), (24, 2), (25, 2), (26, 2), (27, 2), (28, 2)] (by kernel_rfl) (by kernel_rfl) (by kernel_rfl) (by kernel_rfl) ?_; intro l' hl'; simp only [List.map_cons, List.map_nil, List.getD_cons_zero, List.getD_cons_succ] at hl'; subst hl'
            (repeat (first | ((apply w3_pure); (· go_simp); (· (intro w1; go_simp; try with_reducible rfl)); (intro K hK; go_simp; refine hK _ _ ?_; clear hK K)) | ((apply w3_skip); (· go_simp); (intro K hK; go_simp; refine hK _ _ ?_; clear hK K)) | ((apply w3_take); (· exact (Kept.drew (Kept.refl _ _))); (· go_simp); (· (intro w1 hS; have d1 := Blk.cell (Blk.ext hN9 hS); have d2 := (Blk.ext hN9 hS).lt;  go_simp; try with_reducible rfl)); (intro K hK; go_simp; refine hK _ _ ?_; clear hK K)) | ((apply w3_pass); (· exact (Kept.drew (Kept.refl _ _))); (· go_simp); (intro K hK; go_simp; refine hK _ _ ?_; clear hK K))))
            have yW9 : Ext w9 w9.drew := (Kept.refl _ w9).drew
            (refine w3_act (fun K hK => ?_); go_simp)
            go_wp2_with fail
            refine (rheight_ok n (by omega) (by omega) _).mono ?_
            rintro e w10 ⟨rfl, rfl⟩
            rw [← HHn.out]
            refine hK.out _ _ (fun _ => yW9) ?_
            clear hK K
            (repeat (first | ((apply w3_pure); (· go_simp); (· (intro w1; go_simp; try with_reducible rfl)); (intro K hK; go_simp; refine hK _ _ ?_; clear hK K)) | ((apply w3_skip); (· go_simp); (intro K hK; go_simp; refine hK _ _ ?_; clear hK K)) | (refine w3_end (by kernel_rfl) (fun K hK => ?_); go_simp; refine hK.out _ _ ?_; clear hK K))); refine w3_nil ?_
            go_wp2_with fail
            go_ret
            exact ⟨rfl, ((y1.trans (x7.trans hx8)).trans hx9).trans yW9⟩
      · subst he
        subst hs
        replace hN5 : Blk W5 p5 45 zeroW := hN5
        have hh5 := Blk.has hN5
        have hg5 := Blk.gets hN5
        clear hv5
        go_wp2_with fail
        refine (to_zero _).mono ?_
        rintro e w6 ⟨rfl, hx6⟩
        go_wp2_with fail
        refine (rsame22_zero _).mono ?_
        rintro e w7 ⟨rfl, hx7⟩
        go_wp2_with fail
        go_ret
        exact ⟨rfl, (y1.trans yp).trans (hx6.trans hx7)⟩
  ·
    (refine w4_act (fun K hK => ?_); go_simp)
    refine hK.out _ _ (fun _ => Kept.alloc y _) ?_
    clear hK K
    have za0 : Ext w1 (Go.World.alloc w1.drew (.cells zeroW 45)) := Kept.alloc y _
    (repeat (first | ((apply w4_pure); (· go_simp); (· (intro w1; go_simp; try with_reducible rfl)); (intro K hK; go_simp; refine hK _ _ ?_; clear hK K)) | ((apply w4_skip); (· go_simp); (intro K hK; go_simp; refine hK _ _ ?_; clear hK K))))
    (refine w4_act (fun K hK => ?_); go_simp)
    go_wp2_with fail
    refine (law14of_ok A b off cap l n HN.out (by omega) HA.out _ (fun h => (HR.out h).ext (y1.trans za0))).mono ?_
    rintro e w2 ⟨v2, rfl, ho2, hx2⟩
    obtain ⟨A3, g3, c3, rfl, hA3, hr3, hl3⟩ := own_I ho2
    have HA3 := Lib.hid hA3
    have HR3 := Lib.hid hr3
    have z2 : Ext w1 w2 := Kept.trans za0 hx2
    refine hK.out _ _ (fun _ => z2) ?_
    clear hK K hA3 hr3 ho2 hl3
    (repeat (first | ((apply w4_pure); (· go_simp); (· (intro w1; go_simp; try with_reducible rfl)); (intro K hK; go_simp; refine hK _ _ ?_; clear hK K)) | ((apply w4_skip); (· go_simp); (intro K hK; go_simp; refine hK _ _ ?_; clear hK K))))
    (refine w4_act (fun K hK => ?_); go_simp)
    go_wp2_with fail
    refine (of_st A' k cap' pc halt _).mono ?_
    rintro e w3 ⟨rfl, hx3⟩
    have z3 : Ext w1 w3 := Kept.trans z2 hx3
    refine hK.out _ _ (fun _ => z3) ?_
    clear hK K
    (repeat (first | ((apply w4_pure); (· go_simp); (· (intro w1; go_simp; try with_reducible rfl)); (intro K hK; go_simp; refine hK _ _ ?_; clear hK K)) | ((apply w4_skip); (· go_simp); (intro K hK; go_simp; refine hK _ _ ?_; clear hK K))))
    (refine w4_act (fun K hK => ?_); go_simp)
    go_wp2_with fail
    refine (make_all A3 g3 0 c3 l n HN.out (by omega) HO.out HA3.out pc halt A' b' off' cap' m k HKn.out HA'.out HMOK.out _ (HOPS.out.ext (y1.trans z3)) (fun h => (HR3.out h).ext (Kept.trans (Kept.refl _ w2) hx3)) (fun h => (HR'.out h).ext (y1.trans z3))).mono ?_
    rintro e w4 ⟨s, err, rfl, hx4, hres⟩
    have HRES := Lib.hid hres
    have z4 : Ext w1 w4 := Kept.trans z3 hx4
    refine hK.out _ _ (fun _ => z4) ?_
    clear hK K hres
    have hN4 : Blk w4 (w1).heap.size 45 zeroW := (Blk.ext (Blk.ext (Blk.ext (Blk.new w1.drew 45 zeroW) hx2) hx3) hx4)
    have hh4 := Blk.has hN4
    have hm4 := Blk.melts hN4
    have hl4 := Blk.lt hN4
    have hw4 : (w1 : World).heap.size ≤ (w1).heap.size := Nat.le_refl _
    (repeat (first | ((apply w4_pure); (· go_simp); (· (intro w1; go_simp; try with_reducible rfl)); (intro K hK; go_simp; refine hK _ _ ?_; clear hK K)) | ((apply w4_skip); (· go_simp); (intro K hK; go_simp; refine hK _ _ ?_; clear hK K)) | (refine w4_end (by kernel_rfl) (fun K hK => ?_); go_simp; refine hK.out _ _ ?_; clear hK K))); refine w4_nil ?_
    have yp : Ext w1 (putAt w4 (w1).heap.size 0 s.cells) := Kept.putAt z4 _ _ _ (fun h => by omega)
    have hN5 : Blk (putAt w4 (w1).heap.size 0 s.cells) (w1).heap.size 45 s.cells := Blk.put_ hN4 _ _
    have hv5 : ∀ L, StepV w4 s L → StepV (putAt w4 (w1).heap.size 0 s.cells) s L := fun L h => h.put hN4 _ _
    generalize (putAt w4 (w1).heap.size 0 s.cells) = W5 at yp hN5 hv5 ⊢
    obtain ⟨p5, hp5⟩ : ∃ p5, p5 = (w1).heap.size := ⟨_, rfl⟩
    rw [← hp5] at hN5 ⊢
    have hw5 : w1.heap.size ≤ p5 := by omega
    clear hh4 hm4 hl4 hN4 hp5 hw4
    have lp5 := hN5.lt
    rcases HRES.out with ⟨he, h1n, hright, hsv⟩ | ⟨he, hs⟩
    · subst he
      have hsv5 := hv5 _ hsv
      have hmk := makeL_ok l pc halt m (by rw [← HN.out]; exact h1n) (by rw [← HKn.out]; exact hright) HO.out HMOK.out
      obtain ⟨L, hL⟩ : ∃ L, L = makeL l pc halt m := ⟨_, rfl⟩
      rw [← hL] at hsv5 hmk
      have HSV := Lib.hid hsv5
      have HMK := Lib.hid hmk
      have hS5 := Blk.ext hS1 yp
      clear hsv hsv5 hmk hL hv5
      go_upto_region 6 with (fail)
      refine wp_region_3 (fun w2 => Ext W5 w2) [(1, 2), (2, 1), (4, 2), (5, 1), (8, 2), (0, 0), (3, 0), (6, 0), (7, 2)] (by kernel_rfl) (by kernel_rfl) (by kernel_rfl) (by kernel_rfl) ?_; intro l' hl'; simp only [List.map_cons, List.map_nil, List.getD_cons_zero, List.getD_cons_succ] at hl'; subst hl'
      (repeat (first | ((apply w3_pure); (· go_simp); (· (intro w1; go_simp; try with_reducible rfl)); (intro K hK; go_simp; refine hK _ _ ?_; clear hK K)) | ((apply w3_skip); (· go_simp); (intro K hK; go_simp; refine hK _ _ ?_; clear hK K)) | ((apply w3_take); (· exact (Kept.drew (Kept.refl _ _))); (· go_simp); (· (intro w1 hS; have d1 := Blk.cell (Blk.ext hN5 hS); have d2 := (Blk.ext hN5 hS).lt;  go_simp; try with_reducible rfl)); (intro K hK; go_simp; refine hK _ _ ?_; clear hK K)) | ((apply w3_pass); (· exact (Kept.drew (Kept.refl _ _))); (· go_simp); (intro K hK; go_simp; refine hK _ _ ?_; clear hK K))))
      have yW : Ext W5 W5.drew := (Kept.refl _ W5).drew
      (refine w3_act (fun K hK => ?_); go_simp)
      have yA : Ext W5 (W5.alloc (.cells #[] 77)).drew := ((Kept.refl _ W5).alloc _).drew
      refine hK.out _ _ (fun _ => yA) ?_
      clear hK K
      (repeat (first | ((apply w3_pure); (· go_simp); (· (intro w1; go_simp; try with_reducible rfl)); (intro K hK; go_simp; refine hK _ _ ?_; clear hK K)) | ((apply w3_skip); (· go_simp); (intro K hK; go_simp; refine hK _ _ ?_; clear hK K))))
      obtain ⟨e1, a1, v1⟩ := HSV.out.reads.cs s.rk
      obtain ⟨e2, a2, v2⟩ := HSV.out.writes.cs s.wk
      have hrl := HSV.out.reads.len
      have hwl := HSV.out.writes.len
      have hB0 := (Blk.new W5 77 #[])
      have ho0 : (W5.alloc (.cells #[] 77)).drew.ownsRow W5.heap.size 77 3 (.slice (some ⟨W5.heap.size, 0, none⟩) 0 0) 0 (wds []) := ⟨rfl, .inr ⟨W5.heap.size, 0, #[], rfl, Nat.le_refl _, hB0, Nat.le_refl _, by unfold maxLen; omega, rfl, rfl⟩⟩
      obtain ⟨v6, w6, hr6, ho6, hk6⟩ := catW_app _ _ _ _ _ ho0 ⟨s.ra, s.rn, s.rk, e1⟩ (a1.ext yA) (by have := HMK.out.two; simp only; omega) yA.size
      have y6 : Ext W5 w6 := yA.trans' hk6 (fun i hi e => by simp [Value.ownBlock] at e; omega)
      obtain ⟨v7, w7, hr7, ho7, hk7⟩ := catW_app _ _ _ _ _ ho6 ⟨s.wa, s.wn, s.wk, e2⟩ (a2.ext y6) (by have h1 := HMK.out.two; have h2 := HMK.out.one; simp only; omega) y6.size
      have y7 : Ext W5 w7 := y6.trans' hk7 (fun i hi e => by have := (ho6.lt i e).1; omega)
      have HO7 := Lib.hid ho7
      have HV1 := Lib.hid v1
      have HV2 := Lib.hid v2
      have HL := Lib.hid (And.intro hrl hwl)
      clear a1 a2 v1 v2 hrl hwl hB0 ho0 ho6 ho7 hk6 hk7
      refine w3_act (fun K hK => ?_)
      refine if_want rfl ?_
      refine Lib.wp_append_run _ _ _ _ _ rfl _ _ rfl rfl _ _ hr6 ?_
      refine hK.out _ _ (fun _ => y6) ?_
      clear hK K hr6
      refine w3_act (fun K hK => ?_)
      refine if_want rfl ?_
      refine Lib.wp_append_run _ _ _ _ _ rfl _ _ rfl rfl _ _ hr7 ?_
      refine hK.out _ _ (fun _ => y7) ?_
      clear hK K hr7
      have x7 := yp.trans y7
      have hN7 := Blk.ext hN5 y7
      have hS7 := Blk.ext hS5 y7
      obtain ⟨B7, c7, rfl, hW7⟩ := WordsS.of_own HO7.out ((HV2.out.ext y7).app (HV1.out.ext y7))
      have hm7 : 0 + s.rn + s.wn ≤ 3 := by have h1 := HMK.out.two; have h2 := HMK.out.one; have h3 := HL.out; omega
      obtain ⟨N7, he7⟩ : ∃ N7, N7 = 0 + s.rn + s.wn := ⟨_, rfl⟩
      simp only at hW7
      rw [← he7] at hW7 hm7
      have HE7 := Lib.hid he7
      have HW7 := Lib.hid hW7
      have hN7s : (0 + s.rn + s.wn) = N7 := he7.symm
      clear hW7 HO7 he7
      rw [hN7s]
      clear hN7s
      (repeat (first | ((apply w3_pure); (· go_simp); (· (intro w1; go_simp; try with_reducible rfl)); (intro K hK; go_simp; refine hK _ _ ?_; clear hK K)) | ((apply w3_skip); (· go_simp); (intro K hK; go_simp; refine hK _ _ ?_; clear hK K)) | (refine w3_end (by kernel_rfl) (fun K hK => ?_); go_simp; refine hK.out _ _ ?_; clear hK K))); refine w3_nil ?_
      obtain ⟨hnl7, b7, o7, ds7, q1, q2, _, q4⟩ := HW7.out
      have Q0 := Lib.hid hnl7
      have Q1 := Lib.hid q1
      have Q2 := Lib.hid q2
      have Q4 := Lib.hid q4
      clear hnl7 q1 q2 q4
      go_wp2_with fail
      go_loopw [47] (fun t47 wr => ∃ (j : Nat), j ≤ N7 ∧ t47 = .int .i64 j ∧ Ext w7 wr) (fun t47 _ => N7 - (intOf t47).toNat)
      case atStart => exact ⟨0, by omega, rfl, Kept.refl _ _⟩
      case round =>
        obtain ⟨j, hj, rfl, hx8⟩ := hrel
        by_cases hlt : j < N7
        · have hltI : (j : Int) < N7 := by omega
          obtain rfl := Q1.out (by omega)
          have hjl : j < (L.reads ++ L.writes).length := by have := Q0.out; omega
          have hjd : j < ds7.length := by rw [Q4.out.len]; exact hjl
          have hrow := (Q2.out (by omega)).ext hx8
          obtain ⟨hrh, hrg⟩ := hrow.wd j hjd
          have hbl := hrow.lt
          have hwv := Q4.out.get j hjd hjl
          have hwok : WordOK m (L.reads ++ L.writes)[j] := by
            rcases List.mem_append.1 (List.getElem_mem hjl) with h | h
            · exact HMK.out.reads _ h
            · exact HMK.out.writes _ h
          obtain ⟨d, hde⟩ : ∃ d, d = ds7[j] := ⟨_, rfl⟩
          obtain ⟨x, hxe⟩ : ∃ x, x = (L.reads ++ L.writes)[j] := ⟨_, rfl⟩
          rw [← hxe] at hwok hwv
          rw [← hde] at hrg hwv
          have f1 := hwv.at_
          have f2 := hwv.is_
          have f3 : d.pn = hgt k := by obtain ⟨_, _, hq⟩ := hwv.path; rw [hq.len, hwok.path, HKn.out]
          obtain ⟨a, ha⟩ : ∃ a : Nat, d.at_ = a := ⟨d.at_.toNat, by have := hwok.lo; omega⟩
          have hak : a < k := by have := hwok.hi; have := HKn.out; omega
          have hal : a < m.length := by have := HKn.out; omega
          have hiv : d.is_ = m[a] := by rw [f2, hwok.is_, ← f1, ha]; simp [hal]
          clear hde hxe hwv hwok f1 f2 hrow
          obtain ⟨dat, dis, dpa, dpn, dpk⟩ := d
          simp only at ha hiv f3
          subst ha
          obtain ⟨y, hy⟩ : ∃ y, y = m[a] := ⟨_, rfl⟩
          rw [← hy] at hiv
          subst hiv
          obtain ⟨Hk, hHk⟩ : ∃ Hk, Hk = hgt k := ⟨_, rfl⟩
          rw [← hHk] at f3
          subst f3
          obtain rfl := HA'.out (by omega)
          have hmem := ((HR'.out (by omega)).ext (y1.trans (x7.trans hx8)))
          have hcM := hmem.mem a hal
          rw [← hy] at hcM
          have lM := hmem.lt
          have HHK := Lib.hid hHk
          have hS8 := Blk.ext hS7 hx8
          have i0 : ¬ (a : Int) < 0 := by omega
          have i1 : ¬ (k : Int) ≤ a := by omega
          have i2 : (a : Int) < k := by omega
          clear hy hHk hmem hjl hjd hal
          go_upto_region 9 with (fail)
          have x9 := hx8.alloc (.cells (Wd.cells ⟨a, dis, dpa, dpn, dpk⟩) 77)
          have hW9 := Blk.new wr 77 (Wd.cells ⟨a, dis, dpa, dpn, dpk⟩)
          have hS9 := Blk.alloc hS8 (.cells (Wd.cells ⟨a, dis, dpa, dpn, dpk⟩) 77)
          have hM9 : (wr.alloc (.cells (Wd.cells ⟨a, dis, dpa, dpn, dpk⟩) 77)).cell? ⟨b', off' + a, none⟩ = some (.int .i32 dis) := (Kept.cell (((Kept.refl (fun _ => False) wr).alloc _)) (p := ⟨b', off' + a, none⟩) lM (fun f => f)).trans hcM
          have lM9 : b' < (wr.alloc (.cells (Wd.cells ⟨a, dis, dpa, dpn, dpk⟩) 77)).heap.size := by simp; omega
          generalize (wr.alloc (.cells (Wd.cells ⟨a, dis, dpa, dpn, dpk⟩) 77)) = W9 at x9 hW9 hS9 hM9 lM9 ⊢
          generalize (wr : World).heap.size = p9 at hW9 ⊢
          clear hS8 hcM hrh hrg
          refine wp_region_3 (fun w2 => Ext W9 w2) [(0, 2), (1, 1), (2, 2), (3, 2), (4, 1), (5, 2), (6, 0), (7, 2), (8, 2), (9, 2), (10, 1), (11, 2), (12, 2), (13, 2), (14, 2), (15, 1), (16, 2), (17, 1), (18, 2), (19, 2), (20, 2), (21, 2), (22, 2), (23, 1), (24, 2), (25, 1), (26, 2), (27, 1), (28, 2), (29, 1), (30, 2), (31, 2)] (by kernel_rfl) (by kernel_rfl) (by kernel_rfl) (by kernel_rfl) ?_; intro l' hl'; simp only [List.map_cons, List.map_nil, List.getD_cons_zero, List.getD_cons_succ] at hl'; subst hl'
          (repeat (first | ((apply w3_pure); (· go_simp); (· (intro w1; go_simp; try with_reducible rfl)); (intro K hK; go_simp; refine hK _ _ ?_; clear hK K)) | ((apply w3_skip); (· go_simp); (intro K hK; go_simp; refine hK _ _ ?_; clear hK K)) | ((apply w3_take); (· exact (Kept.drew (Kept.refl _ _))); (· go_simp); (· (intro w1 hS; have d1 := Blk.cell (Blk.ext hW9 hS); have d2 := (Blk.ext hW9 hS).lt; have d3 := Blk.cell (Blk.ext hS9 hS); have d4 := (Blk.ext hS9 hS).lt; have d5 := (Kept.cell hS (p := ⟨b', off' + a, none⟩) lM9 (fun f => f)).trans hM9; have d6 := Nat.lt_of_lt_of_le lM9 hS.size;  go_simp; try with_reducible rfl)); (intro K hK; go_simp; refine hK _ _ ?_; clear hK K)) | ((apply w3_pass); (· exact (Kept.drew (Kept.refl _ _))); (· go_simp); (intro K hK; go_simp; refine hK _ _ ?_; clear hK K))))
          have yW9 : Ext W9 W9.drew := (Kept.refl _ W9).drew
          (refine w3_act (fun K hK => ?_); go_simp)
          go_wp2_with fail
          refine (rheight_ok k (by omega) (by omega) _).mono ?_
          rintro e w10 ⟨rfl, rfl⟩
          rw [← HHK.out]
          refine hK.out _ _ (fun _ => yW9) ?_
          clear hK K
          (repeat (first | ((apply w3_pure); (· go_simp); (· (intro w1; go_simp; try with_reducible rfl)); (intro K hK; go_simp; refine hK _ _ ?_; clear hK K)) | ((apply w3_skip); (· go_simp); (intro K hK; go_simp; refine hK _ _ ?_; clear hK K)) | ((apply w3_take); (· exact yW9); (· go_simp); (· (intro w1 hS; have d1 := Blk.cell (Blk.ext hW9 hS); have d2 := (Blk.ext hW9 hS).lt; have d3 := Blk.cell (Blk.ext hS9 hS); have d4 := (Blk.ext hS9 hS).lt; have d5 := (Kept.cell hS (p := ⟨b', off' + a, none⟩) lM9 (fun f => f)).trans hM9; have d6 := Nat.lt_of_lt_of_le lM9 hS.size;  go_simp; try with_reducible rfl)); (intro K hK; go_simp; refine hK _ _ ?_; clear hK K)) | ((apply w3_pass); (· exact yW9); (· go_simp); (intro K hK; go_simp; refine hK _ _ ?_; clear hK K))))
          (repeat (first | ((apply w3_pure); (· go_simp); (· (intro w1; go_simp; try with_reducible rfl)); (intro K hK; go_simp; refine hK _ _ ?_; clear hK K)) | ((apply w3_skip); (· go_simp); (intro K hK; go_simp; refine hK _ _ ?_; clear hK K)) | (refine w3_end (by kernel_rfl) (fun K hK => ?_); go_simp; refine hK.out _ _ ?_; clear hK K))); refine w3_nil ?_
          go_wp2_with fail
          go_roundw
          case rel => exact ⟨j + 1, hlt, by go_num, x9.trans yW9⟩
          case measure => simp only [intOf]; omega
        · have hN8 := Blk.ext hN7 hx8
          have hh8 := Blk.has hN8
          have hg8 := Blk.gets hN8
          have hlt' : ¬ (j : Int) < N7 := by omega
          obtain ⟨hmay, hsm⟩ := encB_small HMK.out (by have h1 := rightS_inv hright; have h2 := HKn.out; omega) (by have h2 := HKn.out; omega) (by have h2 := HN.out; omega) (by have h2 := HN.out; omega)
          obtain ⟨E, hE⟩ : ∃ E, E = (encB L).length := ⟨_, rfl⟩
          rw [← hE] at hsm
          have henc := fun W (h : StepV W s L) => encode_ok s L W h hmay HMK.out.ok
          rw [← hE] at henc
          have HENC := Lib.hid henc
          have hsr : s.rn ≤ 2 := by have h1 := HMK.out.two; have h2 := HL.out; omega
          have hsw : s.wn ≤ 1 := by have h1 := HMK.out.one; have h2 := HL.out; omega
          obtain ⟨Hn, hHn⟩ : ∃ Hn, Hn = hgt n := ⟨_, rfl⟩
          have hsp : s.pn ≤ Hn := by have h1 := HMK.out.path; have h2 := HSV.out.path.len; have h3 := HN.out; rw [hHn, h3]; omega
          have HHn := Lib.hid hHn
          have i0 : (s.rn : Int) ≤ 2 := by omega
          have i1 : (s.wn : Int) ≤ 1 := by omega
          have i2 : (s.pn : Int) ≤ Hn := by omega
          have i3 : (E : Int) ≤ 600 := by omega
          clear henc hE hHn hmay
          go_wp2_with fail
          refine (HENC.out _ (HSV.out.ext (y7.trans hx8))).mono ?_
          rintro e w9 ⟨v9, rfl, ho9, hx9⟩
          obtain ⟨A9, c9, rfl⟩ : ∃ A9 c9, v9 = .slice A9 E c9 := by
            rcases ho9.2 with ⟨hv, h0⟩ | ⟨g, c, cur, hv, _⟩
            · exact ⟨none, 0, by rw [hv, h0]⟩
            · exact ⟨_, c, hv⟩
          have hN9 := Blk.ext hN8 hx9
          clear hh8 hg8 ho9
          go_upto_region 13 with (fail)
          refine wp_region_3 (fun w2 => Ext w9 w2) [(0, 2), (1, 1), (2, 2), (3, 2), (4, 2), (5, 2), (6, 1), (7, 2), (8, 2), (9, 2), (10, 2), (11, 2), (12, 1), (13, 2), (14, 2), (15, 2), (16, 0), (17, 2), (18, 2), (19, 2), (20, 2), (21, 2), (22, 2), (23, 2), (24, 2), (25, 2), (26, 2), (27, 2), (28, 2)] (by kernel_rfl) (by kernel_rfl) (by kernel_rfl) (by kernel_rfl) ?_; intro l' hl'; simp only [List.map_cons, List.map_nil, List.getD_cons_zero, List.getD_cons_succ] at hl'; subst hl'
          (repeat (first | ((apply w3_pure); (· go_simp); (· (intro w1; go_simp; try with_reducible rfl)); (intro K hK; go_simp; refine hK _ _ ?_; clear hK K)) | ((apply w3_skip); (· go_simp); (intro K hK; go_simp; refine hK _ _ ?_; clear hK K)) | ((apply w3_take); (· exact (Kept.drew (Kept.refl _ _))); (· go_simp); (· (intro w1 hS; have d1 := Blk.cell (Blk.ext hN9 hS); have d2 := (Blk.ext hN9 hS).lt;  go_simp; try with_reducible rfl)); (intro K hK; go_simp; refine hK _ _ ?_; clear hK K)) | ((apply w3_pass); (· exact (Kept.drew (Kept.refl _ _))); (· go_simp); (intro K hK; go_simp; refine hK _ _ ?_; clear hK K))))
          have yW9 : Ext w9 w9.drew := (Kept.refl _ w9).drew
          (refine w3_act (fun K hK => ?_); go_simp)
          go_wp2_with fail
          refine (rheight_ok n (by omega) (by omega) _).mono ?_
          rintro e w10 ⟨rfl, rfl⟩
          rw [← HHn.out]
          refine hK.out _ _ (fun _ => yW9) ?_
          clear hK K
          (repeat (first | ((apply w3_pure); (· go_simp); (· (intro w1; go_simp; try with_reducible rfl)); (intro K hK; go_simp; refine hK _ _ ?_; clear hK K)) | ((apply w3_skip); (· go_simp); (intro K hK; go_simp; refine hK _ _ ?_; clear hK K)) | (refine w3_end (by kernel_rfl) (fun K hK => ?_); go_simp; refine hK.out _ _ ?_; clear hK K))); refine w3_nil ?_
          go_wp2_with fail
          go_ret
          exact ⟨rfl, ((y1.trans (x7.trans hx8)).trans hx9).trans yW9⟩
    · subst he
      subst hs
      replace hN5 : Blk W5 p5 45 zeroW := hN5
      have hh5 := Blk.has hN5
      have hg5 := Blk.gets hN5
      clear hv5
      go_wp2_with fail
      refine (to_zero _).mono ?_
      rintro e w6 ⟨rfl, hx6⟩
      go_wp2_with fail
      refine (rsame22_zero _).mono ?_
      rintro e w7 ⟨rfl, hx7⟩
      go_wp2_with fail
      go_ret
      exact ⟨rfl, (y1.trans yp).trans (hx6.trans hx7)⟩
end witnessSmall
end Go.Proofs.YtahljceanodhkaaGreatDoor

/- The table of operations that the program's text lays: where the walks read it. -/
namespace Go.Proofs.YtahljceanodhkaaGreatDoor
open Go.RowKit Go.ChangeShapes Go.WideShapes Go.ChangeAt
/-- what laid_baize_code_operations says of operation k -/
def opD (k : Nat) : Option (List UInt8) := match (Rows.laid_baize_code_operations : DataW Unit) with
  | .agg l => match l[k]? with | some (.agg [_, .lit (.string s)]) => some s | _ => none
  | _ => none
theorem opD_all : ∀ k, k < 22 → opD k = some (hasN k) := by decide
theorem opsAt_of {w : World} {cs : Array Value} {fuel : Nat} {p : List MemPlace} {enc : TypeId × Value → Unit} {held : Bool} (hv : w.var? Tryz.prog "baize/code.operations" = some cs) (h : DataW.trod enc Tryz.prog w 0 (fun _ => true) held fuel 275 cs.toList = some (Rows.laid_baize_code_operations, p)) : OpsAt w := by
  obtain ⟨xs, m, rfl, hx, hl, hn, hall⟩ := DataW.trod_array Tryz.underlying275 h
  have hD : (Rows.laid_baize_code_operations : DataW Unit) = .agg (xs.map (·.1)) := congrArg Prod.fst hx
  have hce : Tryz.prog.cellsOf 274 = 2 := by kernel_rfl
  have hct : Tryz.prog.cellsOf 9 = 1 := by kernel_rfl
  have key : ∀ k, k < 22 → cs[k * 2 + 1]? = some (.string (hasS k)) := fun k hk => by
    have h1 := hall k hk
    rw [hce] at h1
    have hxk : xs[k]? = some xs[k] := List.getElem?_eq_getElem (by omega)
    rw [hxk] at h1
    obtain ⟨y0, y1, n', e1, _, _, e2⟩ := trod_struct2 Tryz.underlying274 h1
    obtain ⟨s, e3, e4, _⟩ := DataW.trod_string Tryz.underlying9 e2
    have h2 := opD_all k hk
    unfold opD at h2
    rw [hD] at h2
    simp only [List.getElem?_map, hxk, Option.map_some, e1, e4, Option.some.injEq] at h2
    rw [hct] at e3
    have e5 := congrArg (·[0]?) e3
    simp [List.getElem?_take, List.getElem?_drop] at e5
    rw [e5]
    unfold hasS
    rw [← h2]
  have hg : Tryz.prog.globalNamed "baize/code.operations" = some 0 := by kernel_rfl
  have hcell := fun i => World.var?_cell hg hv i
  have hat : ∀ k, k < 22 → w.cell? ⟨0, k * 2 + 1, none⟩ = some (.string (hasS k)) := fun k hk => (hcell _).trans (key k hk)
  refine ⟨?_, hat⟩
  rcases Nat.lt_or_ge 0 w.heap.size with h0 | h0
  · exact h0
  · have := hat 0 (by omega)
    unfold World.cell? at this
    rw [Array.getElem?_eq_none h0] at this
    cases this
theorem opsAt_laid {w : World} (h : laidMetH Tryz.prog Rows.witnessSmallRow.laid w) : OpsAt w := by
  have h' : laidMet Tryz.prog Rows.witnessSmallRow.laid w := h
  obtain ⟨ps, ⟨_, _, _, _, _, _, _, _, _, _, ⟨_, _, _, _, _, _, _, _, _, _, ⟨_, _, _, _, _, _, _, _, _, _, ⟨g, t, cs, fuel, p, q, hg, ht, hv, hd, _, _⟩, _⟩, _⟩, _⟩, _⟩ := h'
  have hg' : Tryz.prog.globalNamed "baize/code.operations" = some 0 := by kernel_rfl
  obtain rfl := Option.some.inj (hg'.symm.trans hg)
  have ht' : (Tryz.prog.globals[0]?).map (·.type) = some 275 := by kernel_rfl
  obtain rfl := Option.some.inj (ht'.symm.trans ht)
  exact opsAt_of hv hd
end Go.Proofs.YtahljceanodhkaaGreatDoor

/- WitnessSmall, of all that may come in. -/
namespace Go.Proofs.YtahljceanodhkaaGreatDoor
open Go.RowKit Go.ChangeShapes Go.WideShapes
namespace witnessSmall
set_option maxRecDepth 100000 in
theorem walk {H : Type} {enc : TypeId × Value → H} (W : World) (base : Nat) (v0 v1 : Value) (d0 d1 : DataW H) (p0 p1 : List MemPlace)
    (o0 : Value.okWide Tryz.prog W .any base 58 v0) (o1 : Value.okWide Tryz.prog W .any base 61 v1)
    (h0 : DataW.Trod enc Tryz.prog W 0 (fun _ => true) true 58 v0 d0 p0) (h1 : DataW.Trod enc Tryz.prog W 0 (fun _ => true) true 61 v1 d1 p1) (hL : laidMetH Tryz.prog Rows.witnessSmallRow.laid W) :
    Calls Tryz.prog 9 #[v0, v1] W fun e w' => e = .returned (.bool true) ∧ Ext W w' := by
  obtain ⟨A0, n0, cap0, rfl⟩ := okWide_slice Tryz.underlying58 o0
  obtain ⟨fuel, hf⟩ := h0
  obtain ⟨A, b, off, n, cap, l, e, hA, hn, hr, hok, _, _⟩ := inss_of hf
  simp at e
  obtain ⟨rfl, rfl, rfl⟩ := e
  obtain ⟨cs, rfl⟩ : ∃ cs, v1 = .agg cs := by
    simp only [Value.okWide, Tryz.underlying61] at o1
    obtain ⟨cs, h1, _⟩ := o1
    exact ⟨cs, h1⟩
  obtain ⟨fuel', hf'⟩ := h1
  obtain ⟨pc, halt, A', b', off', k, cap', m, e, hpc, hhalt, hA', hk, hr', hm, _, _⟩ := state_of hf'
  obtain rfl : cs = stCells pc A' k cap' halt := by
    cases cs
    simpa [Value.cells] using e
  by_cases hl : n0 ≤ 200 ∧ k ≤ 256
  · exact small A0 b off cap0 l n0 hn hl.1 hok hA pc halt A' b' off' cap' m k hk hl.2 hA' hm W (opsAt_laid hL) hr hr'
  · exact many A0 A' n0 cap0 k cap' pc halt W (by omega)
end witnessSmall
end Go.Proofs.YtahljceanodhkaaGreatDoor
