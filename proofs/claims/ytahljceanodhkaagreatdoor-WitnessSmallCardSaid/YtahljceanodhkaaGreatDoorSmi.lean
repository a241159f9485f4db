/- Several texts joined: Wk, Wm, Wn, Wo, Wp, Wq, Wr, Ws, Wt, Wu. -/
import Derived.Lib.AppendZerosOnto
import Derived.Test.YtahljceanodhkaaGreatDoorSmh
/- Package witness: Make. -/
namespace Go.Proofs.YtahljceanodhkaaGreatDoor
open Go.RowKit
theorem TreeOK.above {w w' : World} {base p : Nat} {l : List Dg} (h : TreeOK w base p l) (hk : Kept (fun i => w.heap.size ≤ i) w w') : TreeOK w' base p l := by
  obtain ⟨cg, cc, f, G, h⟩ := h
  have h1 := h.blk.lt
  have h2 := h.cgl
  exact ⟨cg, cc, f, G, Blk.kept h.blk hk (by omega), h.f0, own_kept h.own hk (fun g hg => by simp [Value.ownBlock] at hg; omega), h.fl, fun u hu => Blk.kept (h.lv u hu) hk (by have := (h.lv u hu).lt; omega), h.inj, h.far, h.bp, h.pc⟩
theorem step_not {w : World} {g : Nat} {cs : Array Value} {E E' : TypeId} (h : Blk w g E cs) (hE : ¬ E = E') : ∀ cur fr, ¬ w.heap[g]? = some (.cells cur E' fr) := fun cur fr e => by
  rw [h] at e
  injection e with e
  injection e with _ e _
  exact hE e
theorem makeL_go {l : List Ins} {x n : Nat} {m : List Int} (hl : (l.length : Int) = n) (h : (x : Int) < n) : makeL l x 0 m = ⟨x, 0, m.length, memR m, l.getD x ⟨0, 0, 0, 0⟩, pathT (l.map ileaf) (hgt l.length) x, (mreads l x 0 m).1.map (showW m), if 0 ≤ (mreads l x 0 m).2 then [showW m (mreads l x 0 m).2] else []⟩ := by
  unfold makeL
  rw [if_neg (by omega)]
  rfl
/-- a step and no error handed back -/
def IsStep (w w' : World) (e : Ending) (L : Sl) : Prop := ∃ s : Ws, e = .returned (.tuple #[.agg s.cells, .int .i64 0]) ∧ StepV w' s L ∧ Ext w w'
set_option maxRecDepth 100000 in
set_option maxHeartbeats 4000000 in
theorem make_go (A : Option Addr) (b off cap : Nat) (l : List Ins) (n : Nat) (hn : n = l.length) (h2 : n ≤ 2048) (hok : ∀ i ∈ l, i.ok) (hA : 0 < n → A = some ⟨b, off, none⟩)
    (x : Nat) (b' off' cap' : Nat) (m : List Int) (k : Nat) (hk : k = m.length) (hg : rightS x 0 k = true) (hxn : x < n) (hmok : ∀ z ∈ m, i32ok z) (w : World) (hops : OpsAt w) (hr : 0 < n → Row w b off (inss l)) (hr' : Row w b' off' (mems m)) :
    Calls Tryz.prog 36 #[.slice A n cap, .agg (stCells x (some ⟨b', off', none⟩) k cap' 0)] w fun e w' => IsStep w w' e (makeL l x 0 m) := by
  have h1 : 1 ≤ n := by omega
  have hA' : 0 < k → some (⟨b', off', none⟩ : Addr) = some ⟨b', off', none⟩ := fun _ => rfl
  have HOPS := Lib.hid hops
  have HMOK := Lib.hid hmok
  have hrr : RunPre w A b off n l b' off' k x 0 m := ⟨hops, hA, hr, hn, h2, hk, hg, hmok, hr'⟩
  have HRR := Lib.hid hrr
  have hr'' : 0 < k → Row w b' off' (mems m) := fun _ => hr'
  clear hops hmok hrr hr'
  obtain ⟨k1, k2, h3, h4, h5, h6⟩ := rightS_inv hg
  have HG := Lib.hid hg
  have HN := Lib.hid hn
  have HO := Lib.hid hok
  have HA := Lib.hid hA
  have HR := Lib.hid hr
  have HKn := Lib.hid hk
  have HA' := Lib.hid hA'
  have HR' := Lib.hid hr''
  clear hn hA hr hg hok hk hA' hr''
  obtain ⟨M, hM⟩ : ∃ M, M = memR m := ⟨_, rfl⟩
  have HM := Lib.hid hM
  clear hM
  have hx0 : Ext w _ := ((Kept.refl _ w).alloc (.cells (stCells x (some ⟨b', off', none⟩) k cap' 0) 70)).alloc (.cells zeroW 45)
  have hA0 : Blk _ w.heap.size 70 (stCells x (some ⟨b', off', none⟩) k cap' 0) := Blk.alloc (Blk.new w _ _) (.cells zeroW 45)
  have hR0 : Blk _ (w.heap.size + 1) 45 zeroW := Blk.new' (w.alloc (.cells (stCells x (some ⟨b', off', none⟩) k cap' 0) 70)) _ _ _ (by simp)
  go_enter Tryz.func36, Tryz.ntmps36
  go_wp2_with fail
  refine (codetree_ok A b off cap l n HN.out h1 h2 HO.out HA.out _ (fun h => (HR.out h).ext hx0)).mono ?_
  rintro e w1 ⟨p, rfl, ht, hx1⟩
  have hA1 := Blk.ext hA0 hx1
  have hR1 := Blk.ext hR0 hx1
  have hc1 := Blk.cell hA1
  have y1 := hx0.trans hx1
  clear hx0 hx1 hA0 hR0
  go_wp2_with fail
  refine (memtree_ok x 0 (some ⟨b', off', none⟩) b' off' cap' m k HKn.out HG.out (fun _ => rfl) _ (fun h => (HR'.out h).ext y1)).mono ?_
  rintro e w2 ⟨q, rfl, hq, hx2⟩
  have hA2 := Blk.ext hA1 hx2
  have hR2 := Blk.ext hR1 hx2
  have y2 := y1.trans hx2
  have hP2 := Blk.new w2 126 #[.pointer (some ⟨q, 0, none⟩)]
  have hx3 := (Kept.refl (fun _ => False) w2).alloc (.cells #[.pointer (some ⟨q, 0, none⟩)] 126)
  have hA3 := Blk.ext hA2 hx3
  have hR3 := Blk.ext hR2 hx3
  have hq3 := hq.ext hx3
  have y3 := y2.trans hx3
  clear hc1
  go_wp2_with fail
  generalize (w2.alloc (.cells #[.pointer (some ⟨q, 0, none⟩)] 126)) = W at hP2 hA3 hR3 hq3 y3 hx3 ⊢
  have hlA := Blk.lt hA3
  have hlR := Blk.lt hR3
  have hlP := Blk.lt hP2
  generalize w2.heap.size = h2s at hP2 hlP ⊢
  have ht3 := ht.ext (hx2.trans hx3)
  clear hA2 hR2 hA1 hR1 hx3 hq ht y1 y2 hx2
  refine wp_region_4 (fun w2 => Ext W w2) (.op 0 2 (.op 1 1 (.op 2 2 (.op 3 1 (.op 4 2 (.op 5 1 (.op 6 2 (.op 7 1 (.fork 8 (.op 9 2 (.op 10 0 (.op 11 0 .nil))) 10 (.op 8 0 (.op 9 2 (.op 11 0 .nil)))))))))))) (by kernel_rfl) (by kernel_rfl) (by kernel_rfl) (by kernel_rfl) ?_; intro p' hp'; simp only [Pl0.fill, List.getD_cons_zero, List.getD_cons_succ] at hp'; subst hp'
  (repeat (first | ((apply w4_pure); (· go_simp); (· (intro w1; go_simp; try with_reducible rfl)); (intro K hK; go_simp; refine hK _ _ ?_; clear hK K)) | ((apply w4_skip); (· go_simp); (intro K hK; go_simp; refine hK _ _ ?_; clear hK K)) | ((apply w4_take); (· exact (Kept.drew (Kept.refl _ _))); (· go_simp); (· (intro w1 hS; have d1 := Blk.cell (Blk.ext hA3 hS); have d2 := Blk.cell (Blk.ext hP2 hS);  go_simp; try with_reducible rfl)); (intro K hK; go_simp; refine hK _ _ ?_; clear hK K)) | ((apply w4_pass); (· exact (Kept.drew (Kept.refl _ _))); (· go_simp); (intro K hK; go_simp; refine hK _ _ ?_; clear hK K))))
  have y : Ext W W.drew := (Kept.refl _ W).drew
  refine w4_fork ?_ ?_
  · (refine w4_act (fun K hK => ?_); go_simp)
    go_wp2_with fail
    refine (troot_tree _ q (m.map leafW) _ (by rw [List.length_map, ← HKn.out]; exact k1) (by rw [List.length_map, ← HKn.out]; omega) (hq3.ext y)).mono ?_
    rintro e w4 ⟨e4, hx4⟩
    replace e4 : e = .returned (.agg M.cells) := by rw [e4, HM.out]; rfl
    subst e4
    have y4 : Ext W w4 := y.trans hx4
    refine hK.out _ _ (fun _ => y4) ?_
    clear hK K
    (repeat (first | ((apply w4_pure); (· go_simp); (· (intro w1; go_simp; try with_reducible rfl)); (intro K hK; go_simp; refine hK _ _ ?_; clear hK K)) | ((apply w4_skip); (· go_simp); (intro K hK; go_simp; refine hK _ _ ?_; clear hK K))))
    (refine w4_act (fun K hK => ?_); go_simp)
    refine hK.out _ _ (fun _ => y4.alloc _) ?_
    clear hK K
    (repeat (first | ((apply w4_pure); (· go_simp); (· (intro w1; go_simp; try with_reducible rfl)); (intro K hK; go_simp; refine hK _ _ ?_; clear hK K)) | ((apply w4_skip); (· go_simp); (intro K hK; go_simp; refine hK _ _ ?_; clear hK K)) | (refine w4_end (by kernel_rfl) (fun K hK => ?_); go_simp; refine hK.out _ _ ?_; clear hK K))); refine w4_nil ?_
    have hA5 := Blk.ext hA3 (y4.alloc (.cells (bareC x 0 k M) 45))
    have hR5 := Blk.ext hR3 (y4.alloc (.cells (bareC x 0 k M) 45))
    have y5 := y3.trans (y4.alloc (.cells (bareC x 0 k M) 45))
    have xW := y4.alloc (.cells (bareC x 0 k M) 45)
    have hP5 := Blk.ext hP2 (y4.alloc (.cells (bareC x 0 k M) 45))
    have hlW := y4.size
    have hN5 := Blk.new w4 45 (bareC x 0 k M)
    have hl5 := Blk.lt hN5
    generalize (w4.alloc (.cells (bareC x 0 k M) 45)) = W5 at hA5 hR5 y5 hN5 hl5 xW hP5 ⊢
    generalize w4.heap.size = c9 at hN5 hl5 hlW ⊢
    have hc5 := Blk.cell hA5
    have hh5 := Blk.has hR5
    have hm5 := Blk.melts hR5
    have hh6 := Blk.has hN5
    have hg6 := Blk.gets hN5
    have hcA : ¬ w.heap.size = c9 := by omega
    have hcR : ¬ w.heap.size + 1 = c9 := by omega
    have hcP : ¬ h2s = c9 := by omega
    have bx : decide ((n : Int) ≤ x) = false := by simp; omega
    have bx' : decide (n ≤ x) = false := by simp; omega
    have hxI : (x : Int) < n := by omega
    have hxl : x < l.length := by have := HN.out; omega
    have hlow := y5.size
    have hrowC := (HR.out h1).ext y5
    obtain rfl := HA.out h1
    obtain ⟨a1, a2⟩ := hrowC.ins x hxl
    have lC := hrowC.lt
    obtain ⟨i, hi⟩ : ∃ i, i = l[x] := ⟨_, rfl⟩
    rw [← hi] at a2
    have HI := Lib.hid hi
    clear hi
    have j1 := Blk.has hN5
    have j2 := Blk.melts hN5
    have lA5 := hA5.lt
    clear hh5 hm5 hh6 hg6
    go_upto_region 11 with (fail)
    have hA6 := Blk.putFar hA5 hcA 11 i.cells
    have hR6 := Blk.putFar hR5 hcR 11 i.cells
    have hP6 := Blk.putFar hP5 hcP 11 i.cells
    have hN6 : Blk (putAt W5 c9 11 i.cells) c9 45 (Ws.cells ⟨x, 0, k, M, i, none, 0, 0, none, 0, 0, none, 0, 0⟩) := Blk.put_ hN5 11 i.cells
    have y6 : Ext w (putAt W5 c9 11 i.cells) := Kept.putAt y5 _ _ _ (fun h => by omega)
    have kW : Kept (fun i => W.heap.size ≤ i) W (putAt W5 c9 11 i.cells) := Kept.putAt (Kept.ext xW) _ _ _ (fun _ => hlW)
    have ht6 := ht3.above kW
    clear hA5 hR5 hP5 hN5 y5 xW a1 a2 j1 j2 hc5
    generalize (putAt W5 c9 11 i.cells) = W6 at hA6 hR6 hP6 hN6 y6 kW ht6 ⊢
    have hcA6 := Blk.cell hA6
    have lA6 := hA6.lt
    go_wp2_with fail
    refine (tpath_ok _ p (l.map ileaf) x _ (by rw [List.length_map, ← HN.out]; exact h1) (by rw [List.length_map, ← HN.out]; omega) (by rw [List.length_map, ← HN.out]; exact hxn) ht6).mono ?_
    rintro e w7 ⟨v7, rfl, ho7, hx7⟩
    obtain ⟨pA, pk, rfl, hpv⟩ := PathV.of_own ho7 (pathT_ok _ _ _)
    obtain ⟨Hh, hHh⟩ : ∃ Hh, hgt (l.map ileaf).length = Hh := ⟨_, rfl⟩
    rw [hHh] at hpv ⊢
    have HHH := Lib.hid hHh
    have hA7 := Blk.ext hA6 hx7
    have hR7 := Blk.ext hR6 hx7
    have hP7 := Blk.ext hP6 hx7
    have hN7 := Blk.ext hN6 hx7
    have y7 := y6.trans hx7
    have k7 := kW.trans (Kept.ext hx7)
    have hc7 := Blk.cell hN7
    have hf7 := Blk.frozen hN7
    have lN6 := hN6.lt
    clear hA6 hR6 hP6 hN6 y6 kW ht6 hcA6 hHh ho7
    obtain ⟨U, hU⟩ : ∃ U, U = Value.slice pA Hh pk := ⟨_, rfl⟩
    have hA8 := Blk.far hA7 (p := ⟨c9, 15, none⟩) hcA U
    have hR8 := Blk.far hR7 (p := ⟨c9, 15, none⟩) hcR U
    have hP8 := Blk.far hP7 (p := ⟨c9, 15, none⟩) hcP U
    have hN8 : Blk (w7.setCell ⟨c9, 15, none⟩ U) c9 45 (Ws.cells ⟨x, 0, k, M, i, pA, Hh, pk, none, 0, 0, none, 0, 0⟩) := by rw [hU]; exact Blk.set_ hN7 15 (.slice pA Hh pk)
    have y8 : Ext w (w7.setCell ⟨c9, 15, none⟩ U) := Kept.setCell y7 ⟨c9, 15, none⟩ _ (fun h => by have : c9 < w.heap.size := h; omega)
    have k8 : Kept (fun i => W.heap.size ≤ i) W (w7.setCell ⟨c9, 15, none⟩ U) := Kept.setCell k7 ⟨c9, 15, none⟩ _ (fun _ => hlW)
    have hNtc : ∀ cur fr, ¬ w7.heap[c9]? = some (.cells cur 30 fr) := fun cur fr e => by
      rw [hN7] at e
      injection e with e
      injection e with _ e _
      exact absurd e (by decide)
    have hpv8 : PathV (w7.setCell ⟨c9, 15, none⟩ U) pA Hh _ := hpv.kept (Kept.setCell (S := (· = c9)) (Kept.refl _ w7) ⟨c9, 15, none⟩ U (fun _ => rfl)) (fun j hj => by subst hj; exact hNtc)
    have hmf : ∀ (fn : Fn) (first cap : Array Value) (w : World), (Instr.makeFunc fn first cap).run Tryz.prog w = .ok (.func fn first cap) w := fun _ _ _ _ => rfl
    go_upto_region 15 with (fail)
    rw [← hU]
    clear hc7 hf7 hA7 hR7 hP7 hN7 y7 k7 hpv hNtc hmf
    generalize (w7.setCell ⟨c9, 15, none⟩ U) = W8 at hA8 hR8 hP8 hN8 y8 k8 hpv8 ⊢
    clear hU
    have i1 := Blk.has hA8
    have i2 := Blk.gets hA8
    have lA8 := hA8.lt
    go_wp2_with fail
    obtain ⟨R, hR⟩ : ∃ R, R = mreads l x 0 m := ⟨_, rfl⟩
    have hRin := mreads_in l x 0 m
    rw [← hR, ← HKn.out] at hRin
    have HRn := Lib.hid hR
    have HRin := Lib.hid hRin
    clear hR hRin
    refine (mreads_any (some ⟨b, off, none⟩) b off n cap l x 0 b' off' k cap' m _ (HRR.out.ext y8)).mono ?_
    rintro e w9 ⟨v9, e9, ho9, hx9⟩
    rw [← HRn.out] at e9 ho9
    obtain ⟨rl, rw9⟩ := R
    simp only at e9 ho9
    subst e9
    have hA9 := Blk.ext hA8 hx9
    have hR9 := Blk.ext hR8 hx9
    have hP9 := Blk.ext hP8 hx9
    have hN9 := Blk.ext hN8 hx9
    have y9 := y8.trans hx9
    have k9 := k8.trans (Kept.ext hx9)
    have hpv9 := hpv8.ext hx9
    clear i1 i2 hA8 hR8 hP8 hN8 y8 k8 hpv8 hx9
    go_wp2_with fail
    refine (shown_any v9 _ rl.length rl h2s w.heap.size q x 0 b' off' k cap' m _ _ ho9 (by have := HRin.out.2.2; omega) HRin.out.1 HKn.out k1 k2 (hq3.above k9) hP9 hA9 ((HR'.out k1).ext y9)).mono ?_
    rintro e w10 ⟨wA, wn, wc, rfl, hws, hx10⟩
    have hA10 := Blk.ext hA9 hx10
    have hR10 := Blk.ext hR9 hx10
    have hP10 := Blk.ext hP9 hx10
    have hN10 := Blk.ext hN9 hx10
    have y10 := y9.trans hx10
    have k10 := k9.trans (Kept.ext hx10)
    have hpv10 := hpv9.ext hx10
    have hc10 := Blk.cell hN10
    have hf10 := Blk.frozen hN10
    have lN := hN10.lt
    clear hA9 hR9 hP9 hN9 y9 k9 hpv9 hx10 ho9
    have hA11 := Blk.far hA10 (p := ⟨c9, 16, none⟩) hcA (.slice wA wn wc)
    have hR11 := Blk.far hR10 (p := ⟨c9, 16, none⟩) hcR (.slice wA wn wc)
    have hP11 := Blk.far hP10 (p := ⟨c9, 16, none⟩) hcP (.slice wA wn wc)
    have hN11 : Blk (w10.setCell ⟨c9, 16, none⟩ (.slice wA wn wc)) c9 45 (Ws.cells ⟨x, 0, k, M, i, pA, Hh, pk, wA, wn, wc, none, 0, 0⟩) := Blk.set_ hN10 16 (.slice wA wn wc)
    have y11 : Ext w (w10.setCell ⟨c9, 16, none⟩ (.slice wA wn wc)) := Kept.setCell y10 ⟨c9, 16, none⟩ _ (fun h => by have : c9 < w.heap.size := h; omega)
    have k11 : Kept (fun i => W.heap.size ≤ i) W (w10.setCell ⟨c9, 16, none⟩ (.slice wA wn wc)) := Kept.setCell k10 ⟨c9, 16, none⟩ _ (fun _ => hlW)
    have kc11 : Kept (· = c9) w10 (w10.setCell ⟨c9, 16, none⟩ (.slice wA wn wc)) := Kept.setCell (Kept.refl _ w10) ⟨c9, 16, none⟩ _ (fun _ => rfl)
    have hpv11 := hpv10.kept kc11 (fun j hj => by subst hj; exact step_not hN10 (by decide))
    have hws11 := hws.kept kc11 (fun j hj => by subst hj; exact step_not hN10 (by decide)) (fun j hj => by subst hj; exact step_not hN10 (by decide))
    go_upto_region 17 with (fail)
    clear hA10 hR10 hP10 hN10 y10 k10 hpv10 hc10 hf10 hws kc11
    generalize (w10.setCell ⟨c9, 16, none⟩ (.slice wA wn wc)) = W11 at hA11 hR11 hP11 hN11 y11 k11 hpv11 hws11 ⊢
    have lN11 := hN11.lt
    have lR11 := hR11.lt
    by_cases hw0 : 0 ≤ rw9
    · have bw0 : decide (0 ≤ rw9) = true := by simpa using hw0
      have hwl : rw9 < k := HRin.out.2.1
      have x12 := (Kept.refl (fun _ => False) W11).alloc (.cells #[.int .i64 rw9] 3)
      have hV12 := Blk.new W11 3 #[.int .i64 rw9]
      have ho12 : (W11.alloc (.cells #[.int .i64 rw9] 3)).ownsRow W11.heap.size 3 1 (.slice (some ⟨W11.heap.size, 0, none⟩) 1 1) 1 (ints [rw9]) := ⟨rfl, .inr ⟨W11.heap.size, 1, #[.int .i64 rw9], rfl, Nat.le_refl _, hV12, Nat.le_refl _, by unfold maxLen; omega, rfl, rfl⟩⟩
      have hA12 := Blk.ext hA11 x12
      have hR12 := Blk.ext hR11 x12
      have hP12 := Blk.ext hP11 x12
      have hN12 := Blk.ext hN11 x12
      have y12 := y11.trans x12
      have k12 := k11.trans (Kept.ext x12)
      have hpv12 := hpv11.ext x12
      have hws12 := hws11.ext x12
      clear hA11 hR11 hP11 hN11 y11 k11 hpv11 hws11 x12 hV12
      go_wp2_with fail
      refine (shown_any (.slice (some ⟨W11.heap.size, 0, none⟩) 1 1) _ 1 [rw9] h2s w.heap.size q x 0 b' off' k cap' m _ _ ho12 (by omega) (fun z hz => by simp at hz; subst hz; exact ⟨hw0, hwl⟩) HKn.out k1 k2 (hq3.above k12) hP12 hA12 ((HR'.out k1).ext y12)).mono ?_
      rintro e w13 ⟨zA, zn, zc, rfl, hzs, hx13⟩
      have hR13 := Blk.ext hR12 hx13
      have hN13 := Blk.ext hN12 hx13
      have y13 := y12.trans hx13
      have hpv13 := hpv12.ext hx13
      have hws13 := hws12.ext hx13
      have hc13 := Blk.cell hN13
      have hf13 := Blk.frozen hN13
      have lN13 := hN13.lt
      clear hA12 hR12 hP12 hN12 y12 k12 hpv12 hws12 hx13 ho12
      have hR14 := Blk.far hR13 (p := ⟨c9, 17, none⟩) hcR (.slice zA zn zc)
      have hN14 : Blk (w13.setCell ⟨c9, 17, none⟩ (.slice zA zn zc)) c9 45 (Ws.cells ⟨x, 0, k, M, i, pA, Hh, pk, wA, wn, wc, zA, zn, zc⟩) := Blk.set_ hN13 17 (.slice zA zn zc)
      have y14 : Ext w (w13.setCell ⟨c9, 17, none⟩ (.slice zA zn zc)) := Kept.setCell y13 ⟨c9, 17, none⟩ _ (fun h => by have : c9 < w.heap.size := h; omega)
      have kc14 : Kept (· = c9) w13 (w13.setCell ⟨c9, 17, none⟩ (.slice zA zn zc)) := Kept.setCell (Kept.refl _ w13) ⟨c9, 17, none⟩ _ (fun _ => rfl)
      have hpv14 := hpv13.kept kc14 (fun j hj => by subst hj; exact step_not hN13 (by decide))
      have hws14 := hws13.kept kc14 (fun j hj => by subst hj; exact step_not hN13 (by decide)) (fun j hj => by subst hj; exact step_not hN13 (by decide))
      have hzs14 := hzs.kept kc14 (fun j hj => by subst hj; exact step_not hN13 (by decide)) (fun j hj => by subst hj; exact step_not hN13 (by decide))
      go_upto_region 19 with (fail)
      clear hR13 hN13 y13 hpv13 hws13 hc13 hf13 kc14 hzs
      generalize (w13.setCell ⟨c9, 17, none⟩ (.slice zA zn zc)) = W14 at hR14 hN14 y14 hpv14 hws14 hzs14 ⊢
      have lN14 := hN14.lt
      have lR14 := hR14.lt
      have i1 := Blk.has hN14
      have i2 := Blk.gets hN14
      have i3 := Blk.has hR14
      have i4 := Blk.melts hR14
      go_wp2_with fail
      refine ret_ci Tryz.results36 rfl rfl aggStep (by exact sizeStep) (Blk.put_ hR14 _ _) ⟨⟨x, 0, k, M, i, pA, Hh, pk, wA, wn, wc, zA, zn, zc⟩, rfl, ?_, Kept.putAt y14 _ _ _ (fun h => by omega)⟩
      have kf : Kept (· = w.heap.size + 1) W14 _ := Kept.putAt (Kept.refl _ W14) (w.heap.size + 1) 0 (Ws.cells ⟨x, 0, k, M, i, pA, Hh, pk, wA, wn, wc, zA, zn, zc⟩) (fun _ => rfl)
      rw [makeL_go (show (l.length : Int) = n by rw [HN.out]) hxI]
      refine ⟨rfl, rfl, by rw [HKn.out], HM.out, by simp [HI.out, hxl], ?_, ?_, ?_⟩
      · have := hpv14.kept kf (fun j hj => by subst hj; exact step_not hR14 (by decide))
        have e := HHH.out
        rw [List.length_map] at e
        rw [e]
        exact this
      · have := hws14.kept kf (fun j hj => by subst hj; exact step_not hR14 (by decide)) (fun j hj => by subst hj; exact step_not hR14 (by decide))
        rw [← HRn.out]; exact this
      · have := hzs14.kept kf (fun j hj => by subst hj; exact step_not hR14 (by decide)) (fun j hj => by subst hj; exact step_not hR14 (by decide))
        rw [← HRn.out]; simp only; rw [if_pos (by omega)]; exact this
    · have bw0 : decide (0 ≤ rw9) = false := by simpa using hw0
      have i1 := Blk.has hN11
      have i2 := Blk.gets hN11
      have i3 := Blk.has hR11
      have i4 := Blk.melts hR11
      go_wp2_with fail
      refine ret_ci Tryz.results36 rfl rfl aggStep (by exact sizeStep) (Blk.put_ hR11 _ _) ⟨⟨x, 0, k, M, i, pA, Hh, pk, wA, wn, wc, none, 0, 0⟩, rfl, ?_, Kept.putAt y11 _ _ _ (fun h => by omega)⟩
      have kf : Kept (· = w.heap.size + 1) W11 _ := Kept.putAt (Kept.refl _ W11) (w.heap.size + 1) 0 (Ws.cells ⟨x, 0, k, M, i, pA, Hh, pk, wA, wn, wc, none, 0, 0⟩) (fun _ => rfl)
      rw [makeL_go (show (l.length : Int) = n by rw [HN.out]) hxI]
      refine ⟨rfl, rfl, by rw [HKn.out], HM.out, by simp [HI.out, hxl], ?_, ?_, ?_⟩
      · have := hpv11.kept kf (fun j hj => by subst hj; exact step_not hR11 (by decide))
        have e := HHH.out
        rw [List.length_map] at e
        rw [e]
        exact this
      · have := hws11.kept kf (fun j hj => by subst hj; exact step_not hR11 (by decide)) (fun j hj => by subst hj; exact step_not hR11 (by decide))
        rw [← HRn.out]; exact this
      · rw [← HRn.out]; simp only; rw [if_neg (by omega)]; exact WordsS.none _
  · (refine w4_act (fun K hK => ?_); go_simp)
    refine hK.out _ _ (fun _ => y.alloc _) ?_
    clear hK K
    (repeat (first | ((apply w4_pure); (· go_simp); (· (intro w1; go_simp; try with_reducible rfl)); (intro K hK; go_simp; refine hK _ _ ?_; clear hK K)) | ((apply w4_skip); (· go_simp); (intro K hK; go_simp; refine hK _ _ ?_; clear hK K))))
    (refine w4_act (fun K hK => ?_); go_simp)
    go_wp2_with fail
    refine (troot_tree _ q (m.map leafW) _ (by rw [List.length_map, ← HKn.out]; exact k1) (by rw [List.length_map, ← HKn.out]; omega) (hq3.ext (y.alloc _))).mono ?_
    rintro e w4 ⟨e4, hx4⟩
    replace e4 : e = .returned (.agg M.cells) := by rw [e4, HM.out]; rfl
    subst e4
    have y4 : Ext W w4 := (y.alloc _).trans hx4
    refine hK.out _ _ (fun _ => y4) ?_
    clear hK K
    have hN4 : Blk w4 W.heap.size 45 zeroW := Blk.ext (Blk.new W.drew 45 zeroW) hx4
    have hh4 := Blk.has hN4
    have hm4 := Blk.melts hN4
    have hl4 := Blk.lt hN4
    (repeat (first | ((apply w4_pure); (· go_simp); (· (intro w1; go_simp; try with_reducible rfl)); (intro K hK; go_simp; refine hK _ _ ?_; clear hK K)) | ((apply w4_skip); (· go_simp); (intro K hK; go_simp; refine hK _ _ ?_; clear hK K)) | (refine w4_end (by kernel_rfl) (fun K hK => ?_); go_simp; refine hK.out _ _ ?_; clear hK K))); refine w4_nil ?_
    have yp : Ext W (putAt w4 W.heap.size 0 (bareC x 0 k M)) := Kept.putAt y4 _ _ _ (fun h => by omega)
    have hA5 := Blk.ext hA3 yp
    have hR5 := Blk.ext hR3 yp
    have y5 := y3.trans yp
    have xW := yp
    have hP5 := Blk.ext hP2 yp
    have hN5 : Blk (putAt w4 W.heap.size 0 (bareC x 0 k M)) W.heap.size 45 (bareC x 0 k M) := Blk.put_ hN4 _ _
    have hl5 := Blk.lt hN5
    generalize (putAt w4 W.heap.size 0 (bareC x 0 k M)) = W5 at hA5 hR5 y5 hN5 hl5 xW hP5 ⊢
    generalize hgen : W.heap.size = c9 at hN5 hl5 ⊢
    have hlW : W.heap.size ≤ c9 := by omega
    clear hgen
    have hc5 := Blk.cell hA5
    have hh5 := Blk.has hR5
    have hm5 := Blk.melts hR5
    have hh6 := Blk.has hN5
    have hg6 := Blk.gets hN5
    have hcA : ¬ w.heap.size = c9 := by omega
    have hcR : ¬ w.heap.size + 1 = c9 := by omega
    have hcP : ¬ h2s = c9 := by omega
    have bx : decide ((n : Int) ≤ x) = false := by simp; omega
    have bx' : decide (n ≤ x) = false := by simp; omega
    have hxI : (x : Int) < n := by omega
    have hxl : x < l.length := by have := HN.out; omega
    have hlow := y5.size
    have hrowC := (HR.out h1).ext y5
    obtain rfl := HA.out h1
    obtain ⟨a1, a2⟩ := hrowC.ins x hxl
    have lC := hrowC.lt
    obtain ⟨i, hi⟩ : ∃ i, i = l[x] := ⟨_, rfl⟩
    rw [← hi] at a2
    have HI := Lib.hid hi
    clear hi
    have j1 := Blk.has hN5
    have j2 := Blk.melts hN5
    have lA5 := hA5.lt
    clear hh5 hm5 hh6 hg6
    go_upto_region 11 with (fail)
    have hA6 := Blk.putFar hA5 hcA 11 i.cells
    have hR6 := Blk.putFar hR5 hcR 11 i.cells
    have hP6 := Blk.putFar hP5 hcP 11 i.cells
    have hN6 : Blk (putAt W5 c9 11 i.cells) c9 45 (Ws.cells ⟨x, 0, k, M, i, none, 0, 0, none, 0, 0, none, 0, 0⟩) := Blk.put_ hN5 11 i.cells
    have y6 : Ext w (putAt W5 c9 11 i.cells) := Kept.putAt y5 _ _ _ (fun h => by omega)
    have kW : Kept (fun i => W.heap.size ≤ i) W (putAt W5 c9 11 i.cells) := Kept.putAt (Kept.ext xW) _ _ _ (fun _ => hlW)
    have ht6 := ht3.above kW
    clear hA5 hR5 hP5 hN5 y5 xW a1 a2 j1 j2 hc5
    generalize (putAt W5 c9 11 i.cells) = W6 at hA6 hR6 hP6 hN6 y6 kW ht6 ⊢
    have hcA6 := Blk.cell hA6
    have lA6 := hA6.lt
    go_wp2_with fail
    refine (tpath_ok _ p (l.map ileaf) x _ (by rw [List.length_map, ← HN.out]; exact h1) (by rw [List.length_map, ← HN.out]; omega) (by rw [List.length_map, ← HN.out]; exact hxn) ht6).mono ?_
    rintro e w7 ⟨v7, rfl, ho7, hx7⟩
    obtain ⟨pA, pk, rfl, hpv⟩ := PathV.of_own ho7 (pathT_ok _ _ _)
    obtain ⟨Hh, hHh⟩ : ∃ Hh, hgt (l.map ileaf).length = Hh := ⟨_, rfl⟩
    rw [hHh] at hpv ⊢
    have HHH := Lib.hid hHh
    have hA7 := Blk.ext hA6 hx7
    have hR7 := Blk.ext hR6 hx7
    have hP7 := Blk.ext hP6 hx7
    have hN7 := Blk.ext hN6 hx7
    have y7 := y6.trans hx7
    have k7 := kW.trans (Kept.ext hx7)
    have hc7 := Blk.cell hN7
    have hf7 := Blk.frozen hN7
    have lN6 := hN6.lt
    clear hA6 hR6 hP6 hN6 y6 kW ht6 hcA6 hHh ho7
    obtain ⟨U, hU⟩ : ∃ U, U = Value.slice pA Hh pk := ⟨_, rfl⟩
    have hA8 := Blk.far hA7 (p := ⟨c9, 15, none⟩) hcA U
    have hR8 := Blk.far hR7 (p := ⟨c9, 15, none⟩) hcR U
    have hP8 := Blk.far hP7 (p := ⟨c9, 15, none⟩) hcP U
    have hN8 : Blk (w7.setCell ⟨c9, 15, none⟩ U) c9 45 (Ws.cells ⟨x, 0, k, M, i, pA, Hh, pk, none, 0, 0, none, 0, 0⟩) := by rw [hU]; exact Blk.set_ hN7 15 (.slice pA Hh pk)
    have y8 : Ext w (w7.setCell ⟨c9, 15, none⟩ U) := Kept.setCell y7 ⟨c9, 15, none⟩ _ (fun h => by have : c9 < w.heap.size := h; omega)
    have k8 : Kept (fun i => W.heap.size ≤ i) W (w7.setCell ⟨c9, 15, none⟩ U) := Kept.setCell k7 ⟨c9, 15, none⟩ _ (fun _ => hlW)
    have hNtc : ∀ cur fr, ¬ w7.heap[c9]? = some (.cells cur 30 fr) := fun cur fr e => by
      rw [hN7] at e
      injection e with e
      injection e with _ e _
      exact absurd e (by decide)
    have hpv8 : PathV (w7.setCell ⟨c9, 15, none⟩ U) pA Hh _ := hpv.kept (Kept.setCell (S := (· = c9)) (Kept.refl _ w7) ⟨c9, 15, none⟩ U (fun _ => rfl)) (fun j hj => by subst hj; exact hNtc)
    have hmf : ∀ (fn : Fn) (first cap : Array Value) (w : World), (Instr.makeFunc fn first cap).run Tryz.prog w = .ok (.func fn first cap) w := fun _ _ _ _ => rfl
    go_upto_region 15 with (fail)
    rw [← hU]
    clear hc7 hf7 hA7 hR7 hP7 hN7 y7 k7 hpv hNtc hmf
    generalize (w7.setCell ⟨c9, 15, none⟩ U) = W8 at hA8 hR8 hP8 hN8 y8 k8 hpv8 ⊢
    clear hU
    have i1 := Blk.has hA8
    have i2 := Blk.gets hA8
    have lA8 := hA8.lt
    go_wp2_with fail
    obtain ⟨R, hR⟩ : ∃ R, R = mreads l x 0 m := ⟨_, rfl⟩
    have hRin := mreads_in l x 0 m
    rw [← hR, ← HKn.out] at hRin
    have HRn := Lib.hid hR
    have HRin := Lib.hid hRin
    clear hR hRin
    refine (mreads_any (some ⟨b, off, none⟩) b off n cap l x 0 b' off' k cap' m _ (HRR.out.ext y8)).mono ?_
    rintro e w9 ⟨v9, e9, ho9, hx9⟩
    rw [← HRn.out] at e9 ho9
    obtain ⟨rl, rw9⟩ := R
    simp only at e9 ho9
    subst e9
    have hA9 := Blk.ext hA8 hx9
    have hR9 := Blk.ext hR8 hx9
    have hP9 := Blk.ext hP8 hx9
    have hN9 := Blk.ext hN8 hx9
    have y9 := y8.trans hx9
    have k9 := k8.trans (Kept.ext hx9)
    have hpv9 := hpv8.ext hx9
    clear i1 i2 hA8 hR8 hP8 hN8 y8 k8 hpv8 hx9
    go_wp2_with fail
    refine (shown_any v9 _ rl.length rl h2s w.heap.size q x 0 b' off' k cap' m _ _ ho9 (by have := HRin.out.2.2; omega) HRin.out.1 HKn.out k1 k2 (hq3.above k9) hP9 hA9 ((HR'.out k1).ext y9)).mono ?_
    rintro e w10 ⟨wA, wn, wc, rfl, hws, hx10⟩
    have hA10 := Blk.ext hA9 hx10
    have hR10 := Blk.ext hR9 hx10
    have hP10 := Blk.ext hP9 hx10
    have hN10 := Blk.ext hN9 hx10
    have y10 := y9.trans hx10
    have k10 := k9.trans (Kept.ext hx10)
    have hpv10 := hpv9.ext hx10
    have hc10 := Blk.cell hN10
    have hf10 := Blk.frozen hN10
    have lN := hN10.lt
    clear hA9 hR9 hP9 hN9 y9 k9 hpv9 hx10 ho9
    have hA11 := Blk.far hA10 (p := ⟨c9, 16, none⟩) hcA (.slice wA wn wc)
    have hR11 := Blk.far hR10 (p := ⟨c9, 16, none⟩) hcR (.slice wA wn wc)
    have hP11 := Blk.far hP10 (p := ⟨c9, 16, none⟩) hcP (.slice wA wn wc)
    have hN11 : Blk (w10.setCell ⟨c9, 16, none⟩ (.slice wA wn wc)) c9 45 (Ws.cells ⟨x, 0, k, M, i, pA, Hh, pk, wA, wn, wc, none, 0, 0⟩) := Blk.set_ hN10 16 (.slice wA wn wc)
    have y11 : Ext w (w10.setCell ⟨c9, 16, none⟩ (.slice wA wn wc)) := Kept.setCell y10 ⟨c9, 16, none⟩ _ (fun h => by have : c9 < w.heap.size := h; omega)
    have k11 : Kept (fun i => W.heap.size ≤ i) W (w10.setCell ⟨c9, 16, none⟩ (.slice wA wn wc)) := Kept.setCell k10 ⟨c9, 16, none⟩ _ (fun _ => hlW)
    have kc11 : Kept (· = c9) w10 (w10.setCell ⟨c9, 16, none⟩ (.slice wA wn wc)) := Kept.setCell (Kept.refl _ w10) ⟨c9, 16, none⟩ _ (fun _ => rfl)
    have hpv11 := hpv10.kept kc11 (fun j hj => by subst hj; exact step_not hN10 (by decide))
    have hws11 := hws.kept kc11 (fun j hj => by subst hj; exact step_not hN10 (by decide)) (fun j hj => by subst hj; exact step_not hN10 (by decide))
    go_upto_region 17 with (fail)
    clear hA10 hR10 hP10 hN10 y10 k10 hpv10 hc10 hf10 hws kc11
    generalize (w10.setCell ⟨c9, 16, none⟩ (.slice wA wn wc)) = W11 at hA11 hR11 hP11 hN11 y11 k11 hpv11 hws11 ⊢
    have lN11 := hN11.lt
    have lR11 := hR11.lt
    by_cases hw0 : 0 ≤ rw9
    · have bw0 : decide (0 ≤ rw9) = true := by simpa using hw0
      have hwl : rw9 < k := HRin.out.2.1
      have x12 := (Kept.refl (fun _ => False) W11).alloc (.cells #[.int .i64 rw9] 3)
      have hV12 := Blk.new W11 3 #[.int .i64 rw9]
      have ho12 : (W11.alloc (.cells #[.int .i64 rw9] 3)).ownsRow W11.heap.size 3 1 (.slice (some ⟨W11.heap.size, 0, none⟩) 1 1) 1 (ints [rw9]) := ⟨rfl, .inr ⟨W11.heap.size, 1, #[.int .i64 rw9], rfl, Nat.le_refl _, hV12, Nat.le_refl _, by unfold maxLen; omega, rfl, rfl⟩⟩
      have hA12 := Blk.ext hA11 x12
      have hR12 := Blk.ext hR11 x12
      have hP12 := Blk.ext hP11 x12
      have hN12 := Blk.ext hN11 x12
      have y12 := y11.trans x12
      have k12 := k11.trans (Kept.ext x12)
      have hpv12 := hpv11.ext x12
      have hws12 := hws11.ext x12
      clear hA11 hR11 hP11 hN11 y11 k11 hpv11 hws11 x12 hV12
      go_wp2_with fail
      refine (shown_any (.slice (some ⟨W11.heap.size, 0, none⟩) 1 1) _ 1 [rw9] h2s w.heap.size q x 0 b' off' k cap' m _ _ ho12 (by omega) (fun z hz => by simp at hz; subst hz; exact ⟨hw0, hwl⟩) HKn.out k1 k2 (hq3.above k12) hP12 hA12 ((HR'.out k1).ext y12)).mono ?_
      rintro e w13 ⟨zA, zn, zc, rfl, hzs, hx13⟩
      have hR13 := Blk.ext hR12 hx13
      have hN13 := Blk.ext hN12 hx13
      have y13 := y12.trans hx13
      have hpv13 := hpv12.ext hx13
      have hws13 := hws12.ext hx13
      have hc13 := Blk.cell hN13
      have hf13 := Blk.frozen hN13
      have lN13 := hN13.lt
      clear hA12 hR12 hP12 hN12 y12 k12 hpv12 hws12 hx13 ho12
      have hR14 := Blk.far hR13 (p := ⟨c9, 17, none⟩) hcR (.slice zA zn zc)
      have hN14 : Blk (w13.setCell ⟨c9, 17, none⟩ (.slice zA zn zc)) c9 45 (Ws.cells ⟨x, 0, k, M, i, pA, Hh, pk, wA, wn, wc, zA, zn, zc⟩) := Blk.set_ hN13 17 (.slice zA zn zc)
      have y14 : Ext w (w13.setCell ⟨c9, 17, none⟩ (.slice zA zn zc)) := Kept.setCell y13 ⟨c9, 17, none⟩ _ (fun h => by have : c9 < w.heap.size := h; omega)
      have kc14 : Kept (· = c9) w13 (w13.setCell ⟨c9, 17, none⟩ (.slice zA zn zc)) := Kept.setCell (Kept.refl _ w13) ⟨c9, 17, none⟩ _ (fun _ => rfl)
      have hpv14 := hpv13.kept kc14 (fun j hj => by subst hj; exact step_not hN13 (by decide))
      have hws14 := hws13.kept kc14 (fun j hj => by subst hj; exact step_not hN13 (by decide)) (fun j hj => by subst hj; exact step_not hN13 (by decide))
      have hzs14 := hzs.kept kc14 (fun j hj => by subst hj; exact step_not hN13 (by decide)) (fun j hj => by subst hj; exact step_not hN13 (by decide))
      go_upto_region 19 with (fail)
      clear hR13 hN13 y13 hpv13 hws13 hc13 hf13 kc14 hzs
      generalize (w13.setCell ⟨c9, 17, none⟩ (.slice zA zn zc)) = W14 at hR14 hN14 y14 hpv14 hws14 hzs14 ⊢
      have lN14 := hN14.lt
      have lR14 := hR14.lt
      have i1 := Blk.has hN14
      have i2 := Blk.gets hN14
      have i3 := Blk.has hR14
      have i4 := Blk.melts hR14
      go_wp2_with fail
      refine ret_ci Tryz.results36 rfl rfl aggStep (by exact sizeStep) (Blk.put_ hR14 _ _) ⟨⟨x, 0, k, M, i, pA, Hh, pk, wA, wn, wc, zA, zn, zc⟩, rfl, ?_, Kept.putAt y14 _ _ _ (fun h => by omega)⟩
      have kf : Kept (· = w.heap.size + 1) W14 _ := Kept.putAt (Kept.refl _ W14) (w.heap.size + 1) 0 (Ws.cells ⟨x, 0, k, M, i, pA, Hh, pk, wA, wn, wc, zA, zn, zc⟩) (fun _ => rfl)
      rw [makeL_go (show (l.length : Int) = n by rw [HN.out]) hxI]
      refine ⟨rfl, rfl, by rw [HKn.out], HM.out, by simp [HI.out, hxl], ?_, ?_, ?_⟩
      · have := hpv14.kept kf (fun j hj => by subst hj; exact step_not hR14 (by decide))
        have e := HHH.out
        rw [List.length_map] at e
        rw [e]
        exact this
      · have := hws14.kept kf (fun j hj => by subst hj; exact step_not hR14 (by decide)) (fun j hj => by subst hj; exact step_not hR14 (by decide))
        rw [← HRn.out]; exact this
      · have := hzs14.kept kf (fun j hj => by subst hj; exact step_not hR14 (by decide)) (fun j hj => by subst hj; exact step_not hR14 (by decide))
        rw [← HRn.out]; simp only; rw [if_pos (by omega)]; exact this
    · have bw0 : decide (0 ≤ rw9) = false := by simpa using hw0
      have i1 := Blk.has hN11
      have i2 := Blk.gets hN11
      have i3 := Blk.has hR11
      have i4 := Blk.melts hR11
      go_wp2_with fail
      refine ret_ci Tryz.results36 rfl rfl aggStep (by exact sizeStep) (Blk.put_ hR11 _ _) ⟨⟨x, 0, k, M, i, pA, Hh, pk, wA, wn, wc, none, 0, 0⟩, rfl, ?_, Kept.putAt y11 _ _ _ (fun h => by omega)⟩
      have kf : Kept (· = w.heap.size + 1) W11 _ := Kept.putAt (Kept.refl _ W11) (w.heap.size + 1) 0 (Ws.cells ⟨x, 0, k, M, i, pA, Hh, pk, wA, wn, wc, none, 0, 0⟩) (fun _ => rfl)
      rw [makeL_go (show (l.length : Int) = n by rw [HN.out]) hxI]
      refine ⟨rfl, rfl, by rw [HKn.out], HM.out, by simp [HI.out, hxl], ?_, ?_, ?_⟩
      · have := hpv11.kept kf (fun j hj => by subst hj; exact step_not hR11 (by decide))
        have e := HHH.out
        rw [List.length_map] at e
        rw [e]
        exact this
      · have := hws11.kept kf (fun j hj => by subst hj; exact step_not hR11 (by decide)) (fun j hj => by subst hj; exact step_not hR11 (by decide))
        rw [← HRn.out]; exact this
      · rw [← HRn.out]; simp only; rw [if_neg (by omega)]; exact WordsS.none _
end Go.Proofs.YtahljceanodhkaaGreatDoor

/- Make, whole. -/
namespace Go.Proofs.YtahljceanodhkaaGreatDoor
open Go.RowKit
/-- an empty step and an error handed back -/
def NoStep (w w' : World) (e : Ending) : Prop := e = .returned (.tuple #[.agg zeroW, .int .i64 2]) ∧ Ext w w'
set_option maxRecDepth 100000 in
set_option maxHeartbeats 1000000 in
theorem make_nocode (A : Option Addr) (cap n : Nat) (h : n < 1 ∨ 2048 < n) (pc halt : Int) (A' : Option Addr) (k cap' : Nat) (w : World) :
    Calls Tryz.prog 36 #[.slice A n cap, .agg (stCells pc A' k cap' halt)] w fun e w' => NoStep w w' e := by
  have HH := Lib.hid h
  clear h
  have hx0 : Ext w _ := ((Kept.refl _ w).alloc (.cells (stCells pc A' k cap' halt) 70)).alloc (.cells zeroW 45)
  have hR0 : Blk _ (w.heap.size + 1) 45 zeroW := Blk.new' (w.alloc (.cells (stCells pc A' k cap' halt) 70)) _ _ _ (by simp)
  have hh := Blk.has hR0
  have hm := Blk.melts hR0
  go_enter Tryz.func36, Tryz.ntmps36
  go_wp2_with fail
  refine (codetree_no A cap n HH.out _).mono ?_
  rintro e w1 ⟨rfl, rfl⟩
  go_wp2_with fail
  refine ret_ci Tryz.results36 rfl rfl aggStep (by exact sizeStep) hR0 ⟨rfl, hx0⟩
set_option maxRecDepth 100000 in
set_option maxHeartbeats 1000000 in
theorem make_nomem (A : Option Addr) (b off cap : Nat) (l : List Ins) (n : Nat) (hn : n = l.length) (h1 : 1 ≤ n) (h2 : n ≤ 2048) (hok : ∀ i ∈ l, i.ok) (hA : 0 < n → A = some ⟨b, off, none⟩)
    (pc halt : Int) (A' : Option Addr) (k cap' : Nat) (hg : rightS pc halt k = false) (w : World) (hr : 0 < n → Row w b off (inss l)) :
    Calls Tryz.prog 36 #[.slice A n cap, .agg (stCells pc A' k cap' halt)] w fun e w' => NoStep w w' e := by
  have HG := Lib.hid hg
  have HN := Lib.hid hn
  have HO := Lib.hid hok
  have HA := Lib.hid hA
  have HR := Lib.hid hr
  clear hn hA hr hg hok
  have hx0 : Ext w _ := ((Kept.refl _ w).alloc (.cells (stCells pc A' k cap' halt) 70)).alloc (.cells zeroW 45)
  have hA0 : Blk _ w.heap.size 70 (stCells pc A' k cap' halt) := Blk.alloc (Blk.new w _ _) (.cells zeroW 45)
  have hR0 : Blk _ (w.heap.size + 1) 45 zeroW := Blk.new' (w.alloc (.cells (stCells pc A' k cap' halt) 70)) _ _ _ (by simp)
  go_enter Tryz.func36, Tryz.ntmps36
  go_wp2_with fail
  refine (codetree_ok A b off cap l n HN.out h1 h2 HO.out HA.out _ (fun h => (HR.out h).ext hx0)).mono ?_
  rintro e w1 ⟨p, rfl, ht, hx1⟩
  have hA1 := Blk.ext hA0 hx1
  have hR1 := Blk.ext hR0 hx1
  have hc1 := Blk.cell hA1
  have y1 := hx0.trans hx1
  clear hx0 hx1 hA0 hR0 ht
  go_wp2_with fail
  refine (memtree_no pc halt A' cap' k HG.out _).mono ?_
  rintro e w2 ⟨rfl, hx2⟩
  have hR2 := Blk.ext hR1 hx2
  have y2 := y1.trans hx2
  have hx3 := (Kept.refl (fun _ => False) w2).alloc (.cells #[.pointer none] 126)
  have hR3 := Blk.ext hR2 hx3
  have hh := Blk.has hR3
  have hm := Blk.melts hR3
  have y3 := y2.trans hx3
  clear hc1
  go_wp2_with fail
  refine ret_ci Tryz.results36 rfl rfl aggStep (by exact sizeStep) (Blk.put_ hR3 _ _) ⟨rfl, ?_⟩
  exact Kept.putAt y3 _ _ _ (fun h => by omega)
theorem make_ok (A : Option Addr) (b off cap : Nat) (l : List Ins) (n : Nat) (hn : n = l.length) (h1 : 1 ≤ n) (h2 : n ≤ 2048) (hok : ∀ i ∈ l, i.ok) (hA : 0 < n → A = some ⟨b, off, none⟩)
    (pc halt : Int) (A' : Option Addr) (b' off' cap' : Nat) (m : List Int) (k : Nat) (hk : k = m.length) (hg : rightS pc halt k = true) (hA' : 0 < k → A' = some ⟨b', off', none⟩) (hmok : ∀ z ∈ m, i32ok z) (w : World) (hops : OpsAt w) (hr : 0 < n → Row w b off (inss l)) (hr' : 0 < k → Row w b' off' (mems m)) :
    Calls Tryz.prog 36 #[.slice A n cap, .agg (stCells pc A' k cap' halt)] w fun e w' => IsStep w w' e (makeL l pc halt m) := by
  by_cases hst : ¬ halt = 0 ∨ (n : Int) ≤ pc
  · refine (make_stays A b off cap l n hn h1 h2 hok hA pc halt A' b' off' cap' m k hk hg hA' hst w hr hr').mono ?_
    rintro e w' ⟨rfl, hx⟩
    refine ⟨bareStep pc halt m, rfl, ?_, hx⟩
    unfold makeL
    rw [if_pos (by rw [← hn]; exact hst)]
    exact ⟨rfl, rfl, rfl, rfl, rfl, PathV.none _, WordsS.none _, WordsS.none _⟩
  · obtain ⟨k1, k2, h3, h4, h5, h6⟩ := rightS_inv hg
    obtain ⟨x, rfl⟩ : ∃ x : Nat, pc = x := ⟨pc.toNat, by omega⟩
    obtain rfl : halt = 0 := by omega
    obtain rfl := hA' k1
    exact make_go A b off cap l n hn h2 hok hA x b' off' cap' m k hk hg (by omega) hmok w hops hr (hr' k1)
end Go.Proofs.YtahljceanodhkaaGreatDoor

/- slices.Grow of nothing, at bytes and at words. -/
namespace Go.Proofs.YtahljceanodhkaaGreatDoor
open Go.RowKit
/-- a new row of nothing, handed back -/
def NewRow (w w' : World) (e : Ending) (E : TypeId) (sz : Nat) : Prop := ∃ v, e = .returned v ∧ w'.ownsRow w.heap.size E sz v 0 [] ∧ Ext w w'
theorem newrow_none (w : World) (E : TypeId) (sz : Nat) : NewRow w w (.returned (.slice none 0 0)) E sz := ⟨_, rfl, World.ownsRow_nil _ _ _ _, Kept.refl _ _⟩
theorem newrow_some {w : World} {E : TypeId} {sz n G : Nat} {z : Value} (hz : z.cells.size = sz) (hG : n ≤ G) (hGm : G ≤ maxLen) : NewRow w (w.drew.alloc (.cells (([] : List Value).toArray ++ Builtin.zeroCells z.cells n ++ Builtin.zeroCells z.cells (G - n)) E)) (.returned (.slice (some ⟨w.heap.size, 0, none⟩) 0 G)) E sz := by
  refine ⟨_, rfl, ⟨by simp, .inr ⟨w.heap.size, G, _, rfl, Nat.le_refl _, Blk.new w.drew E _, by omega, hGm, ?_, by simp⟩⟩, ((Kept.refl _ w).drew).alloc _⟩
  simp [Builtin.zeroCells, hz]
  rw [← Nat.add_mul]
  congr 1
  omega
set_option maxRecDepth 100000 in
set_option maxHeartbeats 1000000 in
theorem grow8_any (n : Nat) (hn : n ≤ 100000) (w : World) :
    Calls Tryz.prog 162 #[.slice none 0 0, .int .i64 n] w fun e w' => NewRow w w' e 5 1 := by
  by_cases h0 : n = 0
  · subst h0
    go_enter Tryz.func162, Tryz.ntmps162
    go_wp2_with fail
    go_ret
    exact newrow_none _ _ _
  · have hpos : 0 < n := by omega
    obtain ⟨i, hi, hz, h1, h2⟩ := info_parts infoU8
    have hap : (Builtin.append_ #[95, 3] 95 #[.slice none 0 0, .int .i64 n]).run Tryz.prog w = .ok (.slice (some ⟨w.heap.size, 0, none⟩) n (grownCap w n 0 5)) (w.drew.alloc (.cells (([] : List Value).toArray ++ Builtin.zeroCells (Value.int .u8 0).cells n ++ Builtin.zeroCells (Value.int .u8 0).cells (grownCap w n 0 5 - n)) 5)) := by
      have := Lib.run_append_grow_zeros (P := Tryz.prog) w 95 3 95 5 i (.int .u8 0) .i64 .i64 Tryz.underlying95 Tryz.underlying3 hi hz none 0 0 [] (run_firstCells_none _ _ _ _ _) n hpos (by rw [h1]; decide) (by omega) (by omega) (by rw [h2]; omega) (growslice_fits (by omega) (by rw [h2]; omega))
      simpa using this
    have hG := grownCap_ge w n 0 5
    have hGm := grownCap_le_maxLen w n 0 5 (by unfold maxLen; omega)
    obtain ⟨G, hGe⟩ : ∃ G, G = grownCap w n 0 5 := ⟨_, rfl⟩
    rw [← hGe] at hap hG hGm
    have hnew := newrow_some (w := w) (E := 5) (sz := 1) (n := n) (G := G) (z := .int .u8 0) rfl hG hGm
    generalize (w.drew.alloc (.cells (([] : List Value).toArray ++ Builtin.zeroCells (Value.int .u8 0).cells n ++ Builtin.zeroCells (Value.int .u8 0).cells (G - n)) 5)) = W1 at hap hnew
    have HN := Lib.hid hnew
    clear hnew
    have h63 : G ≤ 9223372036854775807 := by unfold maxLen at hGm; omega
    clear hGe hGm hi hz h1 h2
    go_enter Tryz.func162, Tryz.ntmps162
    go_wp2_with (at_builtin; refine Lib.wpList_append_run _ rfl _ _ _ _ rfl _ _ rfl rfl _ _ hap ?_)
    go_ret
    exact HN.out
set_option maxRecDepth 100000 in
set_option maxHeartbeats 1000000 in
theorem growW_any (n : Nat) (hn : n ≤ 100000) (w : World) :
    Calls Tryz.prog 209 #[.slice none 0 0, .int .i64 n] w fun e w' => NewRow w w' e 77 3 := by
  by_cases h0 : n = 0
  · subst h0
    go_enter Tryz.func209, Tryz.ntmps209
    go_wp2_with fail
    go_ret
    exact newrow_none _ _ _
  · have hpos : 0 < n := by omega
    obtain ⟨i, hi, hz, h1, h2⟩ := info_parts infoW3
    obtain ⟨z, hzz⟩ : ∃ z : Value, z = .agg #[.int .i64 0, .int .i32 0, .slice none 0 0] := ⟨_, rfl⟩
    rw [← hzz] at hz
    have hap : (Builtin.append_ #[43, 3] 43 #[.slice none 0 0, .int .i64 n]).run Tryz.prog w = .ok (.slice (some ⟨w.heap.size, 0, none⟩) n (grownCap w n 0 77)) (w.drew.alloc (.cells (([] : List Value).toArray ++ Builtin.zeroCells z.cells n ++ Builtin.zeroCells z.cells (grownCap w n 0 77 - n)) 77)) := by
      have := Lib.run_append_grow_zeros (P := Tryz.prog) w 43 3 43 77 i z .i64 .i64 Tryz.underlying43 Tryz.underlying3 hi hz none 0 0 [] (run_firstCells_none _ _ _ _ _) n hpos (by rw [h1]; decide) (by omega) (by omega) (by rw [h2]; omega) (growslice_fits (by omega) (by rw [h2]; omega))
      simpa using this
    have hG := grownCap_ge w n 0 77
    have hGm := grownCap_le_maxLen w n 0 77 (by unfold maxLen; omega)
    obtain ⟨G, hGe⟩ : ∃ G, G = grownCap w n 0 77 := ⟨_, rfl⟩
    rw [← hGe] at hap hG hGm
    have hnew := newrow_some (w := w) (E := 77) (sz := 3) (n := n) (G := G) (z := z) (by rw [hzz]; rfl) hG hGm
    generalize (w.drew.alloc (.cells (([] : List Value).toArray ++ Builtin.zeroCells z.cells n ++ Builtin.zeroCells z.cells (G - n)) 77)) = W1 at hap hnew
    have HN := Lib.hid hnew
    clear hnew
    have h63 : G ≤ 9223372036854775807 := by unfold maxLen at hGm; omega
    clear hGe hGm hi hz h1 h2 hzz
    go_enter Tryz.func209, Tryz.ntmps209
    go_wp2_with (at_builtin; refine Lib.wpList_append_run _ rfl _ _ _ _ rfl _ _ rfl rfl _ _ hap ?_)
    go_ret
    exact HN.out
end Go.Proofs.YtahljceanodhkaaGreatDoor

/- slices.Concat at bytes and at words (laid by concat.py). -/
namespace Go.Proofs.YtahljceanodhkaaGreatDoor
open Go.RowKit
/-- append of nothing, whatever its address -/
theorem app_zero {P : Program} {w : World} {base : Nat} {t ty e : TypeId} {i : TypeInfo} {size : Nat} (ht : P.underlying t = some (.slice e)) (hi : P.info? e = some i) {v : Value} {n : Nat} {xs : List Value} (hown : w.ownsRow base e size v n xs) (A : Option Addr) (c : Nat) :
    (Builtin.append_ #[t, t] ty #[v, .slice A 0 c]).run P w = .ok v w := by
  have hf : (Builtin.firstCells i.size 0 (.slice A 0 c)).run P w = .ok #[] w := by
    cases A with
    | none => exact run_firstCells_none _ _ _ _ _
    | some a => exact run_firstCells_some w i.size 0 a 0 c [] (by simp) (fun j v h => by simp at h)
  rcases hown.2 with ⟨rfl, rfl⟩ | ⟨g, cap, cur, rfl, _, _, hnc, _⟩
  · simp [Builtin.append_, run_underlying ht, sizeOf, typeInfo, hi, Builtin.lenOf, hf]
  · simp [Builtin.append_, run_underlying ht, sizeOf, typeInfo, hi, Builtin.lenOf, hf, hnc, storeCells]

/-- a slice handed to Concat, and what lies there -/
structure CsB where (A : Option Addr) (n c : Nat) (l : List Int)
structure CsB.At (w : World) (x : CsB) : Prop where
  len : x.n = x.l.length
  row : ∃ b off, (0 < x.n → x.A = some ⟨b, off, none⟩) ∧ (0 < x.n → Row w b off (byts x.l))
theorem CsB.At.kept {S : Nat → Prop} {w w' : World} {x : CsB} (h : x.At w) (hk : Kept S w w') (hs : ∀ i, i < w.heap.size → ¬ S i) : x.At w' := by
  obtain ⟨h1, b, off, h2, h3⟩ := h
  exact ⟨h1, b, off, h2, fun h0 => (h3 h0).kept hk (hs _ (h3 h0).lt)⟩
theorem CsB.At.ext {w w' : World} {x : CsB} (h : x.At w) (hk : Ext w w') : x.At w' := h.kept hk (fun _ _ f => f)
theorem catB_app (w : World) (base : Nat) (v : Value) (n : Nat) (xs : List Int) (hown : w.ownsRow base 5 1 v n (byts xs)) (x : CsB) (hx : x.At w) (hn : n + x.n ≤ 100000) (hbase : base ≤ w.heap.size) :
    ∃ v' w', (Builtin.append_ #[95, 95] 95 #[v, .slice x.A x.n x.c]).run Tryz.prog w = .ok v' w' ∧ w'.ownsRow base 5 1 v' (n + x.n) (byts (xs ++ x.l)) ∧ Kept (fun i => v.ownBlock = some i) w w' := by
  obtain ⟨hl, b, off, h1, h2⟩ := hx
  by_cases h0 : 0 < x.n
  · rw [h1 h0]
    exact appB w base v n xs hown b off x.n x.c x.l hl (h2 h0) hn hbase
  · have e0 : x.n = 0 := by omega
    have el : x.l = [] := List.length_eq_zero_iff.1 (by omega)
    rw [e0, el]
    obtain ⟨i, hi, _⟩ := info_parts infoU8
    exact ⟨v, w, app_zero Tryz.underlying95 hi hown x.A x.c, by simpa using hown, Kept.refl _ _⟩
def sumB (L : List CsB) (j : Nat) : Nat := ((L.take j).map (·.n)).sum
theorem sumB_succ {L : List CsB} {j : Nat} (h : j < L.length) : sumB L (j + 1) = sumB L j + (L[j]).n := by
  unfold sumB
  rw [List.take_succ_eq_append_getElem h, List.map_append, List.sum_append]
  simp only [List.map_cons, List.map_nil, List.sum_cons, List.sum_nil, Nat.add_zero]
theorem sumB_le (L : List CsB) : ∀ j, j ≤ L.length → sumB L j ≤ sumB L L.length := fun j hj => by
  unfold sumB
  rw [List.take_length]
  conv => rhs; rw [← List.take_append_drop j L]
  rw [List.map_append, List.sum_append]
  omega
def catB (L : List CsB) : List Int := L.flatMap (·.l)
theorem catB_succ {L : List CsB} {j : Nat} (h : j < L.length) : catB (L.take (j + 1)) = catB (L.take j) ++ (L[j]).l := by
  unfold catB
  rw [List.take_succ_eq_append_getElem h, List.flatMap_append]
  simp only [List.flatMap_cons, List.flatMap_nil, List.append_nil]
def valB (L : List CsB) : List Value := L.map fun x => .slice x.A x.n x.c
set_option maxRecDepth 100000 in
set_option maxHeartbeats 1000000 in
theorem concatB_any (g off N c : Nat) (L : List CsB) (w : World) (hN : N = L.length) (hNm : N ≤ 1000) (hrow : Row w g off (valB L)) (hat : ∀ x ∈ L, x.At w) (hsum : sumB L L.length ≤ 100000) :
    Calls Tryz.prog 97 #[.slice (some ⟨g, off, none⟩) N c] w fun e w' => ∃ v, e = .returned v ∧ w'.ownsRow w.heap.size 5 1 v (sumB L L.length) (byts (catB L)) ∧ Ext w w' := by
  have HN := Lib.hid hN
  have HR := Lib.hid hrow
  have HAT := Lib.hid hat
  have lg := hrow.lt
  have HC : ∀ j (hj : j < L.length), w.cell? ⟨g, off + j, none⟩ = some (.slice (L[j]).A (L[j]).n (L[j]).c) := fun j hj => by
    rw [hrow.cell j (by simpa [valB] using hj)]
    simp [valB, hj]
  have HCC := Lib.hid HC
  have HS := Lib.hid hsum
  have HM := Lib.hid (sumB_le L)
  clear hN hrow hat HC hsum
  go_enter Tryz.func97, Tryz.ntmps97
  go_wp2_with fail
  go_loopw [3, 11] (fun t3 t11 wr => ∃ (j : Nat), j ≤ N ∧ t11 = .int .i64 j ∧ t3 = .int .i64 (sumB L j : Nat) ∧ w = wr) (fun _ t11 _ => N - (intOf t11).toNat)
  case atStart => exact ⟨0, by omega, rfl, rfl, rfl⟩
  case round =>
    obtain ⟨j, hj, rfl, rfl, hw⟩ := hrel
    subst hw
    have hjl : j ≤ L.length := by have := HN.out; omega
    have hs1 : sumB L j ≤ 100000 := Nat.le_trans (HM.out j hjl) HS.out
    by_cases hlt : j < N
    · have hltI : (j : Int) < N := by omega
      have hjn : j < L.length := by have := HN.out; omega
      have hc := HCC.out j hjn
      have hsc := sumB_succ hjn
      have hs2 : sumB L (j + 1) ≤ 100000 := Nat.le_trans (HM.out (j + 1) hjn) HS.out
      obtain ⟨x, hx⟩ : ∃ x, x = L[j] := ⟨_, rfl⟩
      rw [← hx] at hc hsc
      obtain ⟨s, hs⟩ : ∃ s, s = sumB L j := ⟨_, rfl⟩
      rw [← hs] at hs1 hsc ⊢
      have HSC := Lib.hid hsc
      have hs3 : s + x.n ≤ 100000 := by omega
      clear hx hs hsc hs2
      go_wp2_with fail
      go_roundw
      case rel => exact ⟨j + 1, hlt, by go_num, by rw [HSC.out]; go_num, trivial⟩
      case measure => simp only [intOf]; omega
    · have ej : j = N := by omega
      have ej' : j = L.length := by have := HN.out; omega
      subst ej
      rw [ej'] at hs1 ⊢
      obtain ⟨s, hs⟩ : ∃ s, s = sumB L L.length := ⟨_, rfl⟩
      rw [← hs] at hs1 ⊢
      have HSe := Lib.hid hs
      clear hs
      go_wp2_with fail
      refine (grow8_any s hs1 _).mono ?_
      rintro e w1 ⟨v1, rfl, ho1, hx1⟩
      go_wp2_with fail
      go_loopw [6, 27] (fun t6 t27 w2 => ∃ (j' : Nat), j' ≤ j ∧ t27 = .int .i64 j' ∧ w2.ownsRow w.heap.size 5 1 t6 (sumB L j') (byts (catB (L.take j'))) ∧ Ext w w2) (fun _ t27 _ => j - (intOf t27).toNat)
      case atStart => exact ⟨0, by omega, rfl, by simpa [sumB, catB, byts] using ho1, hx1⟩
      case round =>
        obtain ⟨k, hk, rfl, ho, hx⟩ := hrel
        have hob : ∀ i, i < w.heap.size → (u6 : Value).ownBlock = some i → False := fun i hi e => by have := (ho.lt i e).1; omega
        have HOB := Lib.hid hob
        clear hob
        by_cases hlt : k < j
        · have hltI : (k : Int) < j := by omega
          have hkn : k < L.length := by omega
          have hc := (Kept.cell hx (p := ⟨g, off + k, none⟩) lg (fun f => f)).trans (HCC.out k hkn)
          have hs2 : sumB L (k + 1) ≤ 100000 := Nat.le_trans (HM.out (k + 1) hkn) HS.out
          have hsc := sumB_succ hkn
          have hcs := catB_succ hkn
          have hxa := (HAT.out L[k] (List.getElem_mem hkn)).ext hx
          obtain ⟨x, hxe⟩ : ∃ x, x = L[k] := ⟨_, rfl⟩
          rw [← hxe] at hc hsc hcs hxa
          obtain ⟨v3, w3, hr3, ho3, hk3⟩ := catB_app _ _ _ _ _ ho x hxa (by omega) hx.size
          rw [← hsc, ← hcs] at ho3
          have HO3 := Lib.hid ho3
          clear hsc hcs hxa hxe ho3 hs2
          go_wp2_with (at_builtin; refine Lib.wpList_append_run _ rfl _ _ _ _ rfl _ _ rfl rfl _ _ hr3 ?_)
          go_roundw
          case rel => exact ⟨k + 1, hlt, by go_num, HO3.out, hx.trans' hk3 HOB.out⟩
          case measure => simp only [intOf]; omega
        · have ek : k = L.length := by omega
          subst ek
          rw [List.take_length] at ho
          go_wp2_with fail
          go_ret
          exact ⟨_, rfl, by rw [HSe.out]; exact ho, hx⟩

/-- a slice handed to Concat, and what lies there -/
structure CsW where (A : Option Addr) (n c : Nat) (l : List Wd)
structure CsW.At (w : World) (x : CsW) : Prop where
  len : x.n = x.l.length
  row : ∃ b off, (0 < x.n → x.A = some ⟨b, off, none⟩) ∧ (0 < x.n → Row w b off (wds x.l))
theorem CsW.At.kept {S : Nat → Prop} {w w' : World} {x : CsW} (h : x.At w) (hk : Kept S w w') (hs : ∀ i, i < w.heap.size → ¬ S i) : x.At w' := by
  obtain ⟨h1, b, off, h2, h3⟩ := h
  exact ⟨h1, b, off, h2, fun h0 => (h3 h0).kept hk (hs _ (h3 h0).lt)⟩
theorem CsW.At.ext {w w' : World} {x : CsW} (h : x.At w) (hk : Ext w w') : x.At w' := h.kept hk (fun _ _ f => f)
theorem catW_app (w : World) (base : Nat) (v : Value) (n : Nat) (xs : List Wd) (hown : w.ownsRow base 77 3 v n (wds xs)) (x : CsW) (hx : x.At w) (hn : n + x.n ≤ 100000) (hbase : base ≤ w.heap.size) :
    ∃ v' w', (Builtin.append_ #[43, 43] 43 #[v, .slice x.A x.n x.c]).run Tryz.prog w = .ok v' w' ∧ w'.ownsRow base 77 3 v' (n + x.n) (wds (xs ++ x.l)) ∧ Kept (fun i => v.ownBlock = some i) w w' := by
  obtain ⟨hl, b, off, h1, h2⟩ := hx
  by_cases h0 : 0 < x.n
  · rw [h1 h0]
    exact appW w base v n xs hown b off x.n x.c x.l hl (h2 h0) hn hbase
  · have e0 : x.n = 0 := by omega
    have el : x.l = [] := List.length_eq_zero_iff.1 (by omega)
    rw [e0, el]
    obtain ⟨i, hi, _⟩ := info_parts infoW3
    exact ⟨v, w, app_zero Tryz.underlying43 hi hown x.A x.c, by simpa using hown, Kept.refl _ _⟩
def sumW (L : List CsW) (j : Nat) : Nat := ((L.take j).map (·.n)).sum
theorem sumW_succ {L : List CsW} {j : Nat} (h : j < L.length) : sumW L (j + 1) = sumW L j + (L[j]).n := by
  unfold sumW
  rw [List.take_succ_eq_append_getElem h, List.map_append, List.sum_append]
  simp only [List.map_cons, List.map_nil, List.sum_cons, List.sum_nil, Nat.add_zero]
theorem sumW_le (L : List CsW) : ∀ j, j ≤ L.length → sumW L j ≤ sumW L L.length := fun j hj => by
  unfold sumW
  rw [List.take_length]
  conv => rhs; rw [← List.take_append_drop j L]
  rw [List.map_append, List.sum_append]
  omega
def catW (L : List CsW) : List Wd := L.flatMap (·.l)
theorem catW_succ {L : List CsW} {j : Nat} (h : j < L.length) : catW (L.take (j + 1)) = catW (L.take j) ++ (L[j]).l := by
  unfold catW
  rw [List.take_succ_eq_append_getElem h, List.flatMap_append]
  simp only [List.flatMap_cons, List.flatMap_nil, List.append_nil]
def valW (L : List CsW) : List Value := L.map fun x => .slice x.A x.n x.c
set_option maxRecDepth 100000 in
set_option maxHeartbeats 1000000 in
theorem concatW_any (g off N c : Nat) (L : List CsW) (w : World) (hN : N = L.length) (hNm : N ≤ 1000) (hrow : Row w g off (valW L)) (hat : ∀ x ∈ L, x.At w) (hsum : sumW L L.length ≤ 100000) :
    Calls Tryz.prog 159 #[.slice (some ⟨g, off, none⟩) N c] w fun e w' => ∃ v, e = .returned v ∧ w'.ownsRow w.heap.size 77 3 v (sumW L L.length) (wds (catW L)) ∧ Ext w w' := by
  have HN := Lib.hid hN
  have HR := Lib.hid hrow
  have HAT := Lib.hid hat
  have lg := hrow.lt
  have HC : ∀ j (hj : j < L.length), w.cell? ⟨g, off + j, none⟩ = some (.slice (L[j]).A (L[j]).n (L[j]).c) := fun j hj => by
    rw [hrow.cell j (by simpa [valW] using hj)]
    simp [valW, hj]
  have HCC := Lib.hid HC
  have HS := Lib.hid hsum
  have HM := Lib.hid (sumW_le L)
  clear hN hrow hat HC hsum
  go_enter Tryz.func159, Tryz.ntmps159
  go_wp2_with fail
  go_loopw [3, 11] (fun t3 t11 wr => ∃ (j : Nat), j ≤ N ∧ t11 = .int .i64 j ∧ t3 = .int .i64 (sumW L j : Nat) ∧ w = wr) (fun _ t11 _ => N - (intOf t11).toNat)
  case atStart => exact ⟨0, by omega, rfl, rfl, rfl⟩
  case round =>
    obtain ⟨j, hj, rfl, rfl, hw⟩ := hrel
    subst hw
    have hjl : j ≤ L.length := by have := HN.out; omega
    have hs1 : sumW L j ≤ 100000 := Nat.le_trans (HM.out j hjl) HS.out
    by_cases hlt : j < N
    · have hltI : (j : Int) < N := by omega
      have hjn : j < L.length := by have := HN.out; omega
      have hc := HCC.out j hjn
      have hsc := sumW_succ hjn
      have hs2 : sumW L (j + 1) ≤ 100000 := Nat.le_trans (HM.out (j + 1) hjn) HS.out
      obtain ⟨x, hx⟩ : ∃ x, x = L[j] := ⟨_, rfl⟩
      rw [← hx] at hc hsc
      obtain ⟨s, hs⟩ : ∃ s, s = sumW L j := ⟨_, rfl⟩
      rw [← hs] at hs1 hsc ⊢
      have HSC := Lib.hid hsc
      have hs3 : s + x.n ≤ 100000 := by omega
      clear hx hs hsc hs2
      go_wp2_with fail
      go_roundw
      case rel => exact ⟨j + 1, hlt, by go_num, by rw [HSC.out]; go_num, trivial⟩
      case measure => simp only [intOf]; omega
    · have ej : j = N := by omega
      have ej' : j = L.length := by have := HN.out; omega
      subst ej
      rw [ej'] at hs1 ⊢
      obtain ⟨s, hs⟩ : ∃ s, s = sumW L L.length := ⟨_, rfl⟩
      rw [← hs] at hs1 ⊢
      have HSe := Lib.hid hs
      clear hs
      go_wp2_with fail
      refine (growW_any s hs1 _).mono ?_
      rintro e w1 ⟨v1, rfl, ho1, hx1⟩
      go_wp2_with fail
      go_loopw [6, 27] (fun t6 t27 w2 => ∃ (j' : Nat), j' ≤ j ∧ t27 = .int .i64 j' ∧ w2.ownsRow w.heap.size 77 3 t6 (sumW L j') (wds (catW (L.take j'))) ∧ Ext w w2) (fun _ t27 _ => j - (intOf t27).toNat)
      case atStart => exact ⟨0, by omega, rfl, by simpa [sumW, catW, wds] using ho1, hx1⟩
      case round =>
        obtain ⟨k, hk, rfl, ho, hx⟩ := hrel
        have hob : ∀ i, i < w.heap.size → (u6 : Value).ownBlock = some i → False := fun i hi e => by have := (ho.lt i e).1; omega
        have HOB := Lib.hid hob
        clear hob
        by_cases hlt : k < j
        · have hltI : (k : Int) < j := by omega
          have hkn : k < L.length := by omega
          have hc := (Kept.cell hx (p := ⟨g, off + k, none⟩) lg (fun f => f)).trans (HCC.out k hkn)
          have hs2 : sumW L (k + 1) ≤ 100000 := Nat.le_trans (HM.out (k + 1) hkn) HS.out
          have hsc := sumW_succ hkn
          have hcs := catW_succ hkn
          have hxa := (HAT.out L[k] (List.getElem_mem hkn)).ext hx
          obtain ⟨x, hxe⟩ : ∃ x, x = L[k] := ⟨_, rfl⟩
          rw [← hxe] at hc hsc hcs hxa
          obtain ⟨v3, w3, hr3, ho3, hk3⟩ := catW_app _ _ _ _ _ ho x hxa (by omega) hx.size
          rw [← hsc, ← hcs] at ho3
          have HO3 := Lib.hid ho3
          clear hsc hcs hxa hxe ho3 hs2
          go_wp2_with (at_builtin; refine Lib.wpList_append_run _ rfl _ _ _ _ rfl _ _ rfl rfl _ _ hr3 ?_)
          go_roundw
          case rel => exact ⟨k + 1, hlt, by go_num, HO3.out, hx.trans' hk3 HOB.out⟩
          case measure => simp only [intOf]; omega
        · have ek : k = L.length := by omega
          subst ek
          rw [List.take_length] at ho
          go_wp2_with fail
          go_ret
          exact ⟨_, rfl, by rw [HSe.out]; exact ho, hx⟩
end Go.Proofs.YtahljceanodhkaaGreatDoor

/- Package witness: putPath, putWords. -/
namespace Go.Proofs.YtahljceanodhkaaGreatDoor
open Go.RowKit
def numN (d : Dg) : Nat := (numD d).toNat
theorem numD_bd {d : Dg} (h : d.ok) : numD d = (numN d : Nat) ∧ numN d < 18446744073709551616 := by
  have := numK_lt h 8 (Nat.le_refl _)
  unfold numN numD
  omega
/-- the bytes of a path, of its first digests -/
def pathK (l : List Dg) : Nat → List Int | 0 => vint l.length | j + 1 => pathK l j ++ vint (numN (l.getD j Dg.zero))
def pathB (l : List Dg) : List Int := pathK l l.length
theorem pathK_len {l : List Dg} (hl : l.length ≤ 1000) (hok : ∀ d ∈ l, d.ok) : ∀ j, j ≤ l.length → (pathK l j).length ≤ 2 + 10 * j
  | 0, _ => by unfold pathK; exact vint_len 2 _ (by omega) (by omega)
  | j + 1, h => by
    have := pathK_len hl hok j (by omega)
    have hj : j < l.length := by omega
    have := vint_len 10 (numN (l.getD j Dg.zero)) (by have := (numD_bd (hok _ (List.getElem_mem hj))).2; simp [hj]; omega) (by omega)
    unfold pathK
    rw [List.length_append]
    omega
set_option maxRecDepth 100000 in
set_option maxHeartbeats 1000000 in
theorem putpath_any (A : Option Addr) (n c : Nat) (l : List Dg) (w : World) (hp : PathV w A n l) (hn : n ≤ 12) :
    Calls Tryz.prog 98 #[.slice A n c] w fun e w' => OwnsB w w' e (pathB l).length (pathB l) := by
  obtain ⟨b, off, hp⟩ := hp
  have HP := Lib.hid hp
  have hnl : n = l.length := hp.len
  have HNL := Lib.hid hnl
  clear hp hnl
  go_enter Tryz.func98, Tryz.ntmps98
  go_wp2_with fail
  refine (putnum_any w.heap.size (.slice none 0 0) 0 [] n _ w rfl (by omega) (World.ownsRow_nil _ _ _ _) (by omega)).mono ?_
  rintro e w1 ⟨v1, rfl, ho1, hx1⟩
  go_wp2_with fail
  go_loopw [3, 12] (fun t3 t12 wr => ∃ (j : Nat), j ≤ n ∧ t12 = .int .i64 j ∧ wr.ownsRow w.heap.size 5 1 t3 (pathK l j).length (byts (pathK l j)) ∧ Ext w wr) (fun _ t12 _ => n - (intOf t12).toNat)
  case atStart => exact ⟨0, by omega, rfl, by rw [pathK, ← HNL.out]; simpa using ho1, hx1⟩
  case round =>
    obtain ⟨j, hj, rfl, ho, hx⟩ := hrel
    clear ho1
    by_cases hlt : j < n
    · have hjl : j < l.length := by have := HNL.out; omega
      have hltI : (j : Int) < n := by omega
      obtain rfl := HP.out.at_ (by omega)
      have hrow := (HP.out.row (by omega)).ext hx
      obtain ⟨hrh, hrg⟩ := hrow.dig j hjl
      have hbl := hrow.lt
      have hok := HP.out.ok l[j] (List.getElem_mem hjl)
      have hln := pathK_len (l := l) (by have := HNL.out; omega) HP.out.ok j (by omega)
      have hgd : l.getD j Dg.zero = l[j] := by simp [hjl]
      obtain ⟨d, hd⟩ : ∃ d, d = l[j] := ⟨_, rfl⟩
      rw [← hd] at hrg hok hgd
      have hn2 : pathK l (j + 1) = pathK l j ++ vint (numN d) := by rw [pathK, hgd]
      have HN2 := Lib.hid hn2
      have HOK := Lib.hid hok
      have HLN := Lib.hid hln
      have ho' := ho
      have HO := Lib.hid ho'
      clear hrow hd hok hgd hn2 hln ho'
      go_wp2_with fail
      refine (num_any d HOK.out _).mono ?_
      rintro e w2 ⟨e2, hx2⟩
      rw [(numD_bd HOK.out).1] at e2
      subst e2
      go_wp2_with fail
      have x2 := (hx.alloc (.cells d.cells 30)).trans hx2
      refine (putnum_any w.heap.size u3 (pathK l j).length (pathK l j) (numN d) _ _ rfl (numD_bd HOK.out).2 (own_ext (HO.out.alloc _) hx2) (by have := HLN.out; omega)).mono ?_
      rintro e w3 ⟨v3, rfl, ho3, hx3⟩
      rw [← List.length_append, ← HN2.out] at ho3
      have ho4 := own_mono ho3 x2.size
      have HO4 := Lib.hid ho4
      clear ho3 ho4
      go_wp2_with fail
      go_roundw
      case rel => exact ⟨j + 1, hlt, by go_num, HO4.out, x2.trans hx3⟩
      case measure => simp only [intOf]; omega
    · have ej : j = l.length := by have := HNL.out; omega
      subst ej
      go_wp2_with fail
      go_ret
      exact ⟨_, rfl, ho, hx⟩
end Go.Proofs.YtahljceanodhkaaGreatDoor

/- Package witness: putWords. -/
namespace Go.Proofs.YtahljceanodhkaaGreatDoor
open Go.RowKit
def wordB (l : Wl) : List Int := vint (foldN l.at_) ++ vint (foldN l.is_) ++ pathB l.path
def wordsK (l : List Wl) : Nat → List Int | 0 => vint l.length | j + 1 => wordsK l j ++ wordB (l.getD j ⟨0, 0, []⟩)
def wordsB (l : List Wl) : List Int := wordsK l l.length
/-- a word that has bytes -/
structure Wl.ok (l : Wl) : Prop where
  at_ : i64ok l.at_
  is_ : i32ok l.is_
  path : l.path.length ≤ 12
  digs : ∀ d ∈ l.path, d.ok
theorem pathB_len {l : List Dg} (hl : l.length ≤ 12) (hok : ∀ d ∈ l, d.ok) : (pathB l).length ≤ 122 := by
  have := pathK_len (l := l) (by omega) hok l.length (Nat.le_refl _)
  unfold pathB
  omega
theorem pathB_pos (l : List Dg) : 0 < (pathB l).length := by
  have h : ∀ j, 0 < (pathK l j).length := fun j => by
    induction j with
    | zero => exact vint_pos _
    | succ j ih => unfold pathK; rw [List.length_append]; omega
  exact h _
theorem i32_64 {x : Int} (h : i32ok x) : i64ok x := by unfold i32ok at h; unfold i64ok; omega
theorem wordB_len {l : Wl} (h : l.ok) : (wordB l).length ≤ 142 := by
  have := pathB_len h.path h.digs
  have := vfold_len h.at_
  have := vfold_len (i32_64 h.is_)
  simp only [wordB, List.length_append]
  omega
theorem wordsK_len {l : List Wl} (hl : l.length ≤ 1000) (hok : ∀ d ∈ l, d.ok) : ∀ j, j ≤ l.length → (wordsK l j).length ≤ 2 + 142 * j
  | 0, _ => by unfold wordsK; exact vint_len 2 _ (by omega) (by omega)
  | j + 1, h => by
    have := wordsK_len hl hok j (by omega)
    have hj : j < l.length := by omega
    have h2 := wordB_len (hok _ (List.getElem_mem hj))
    unfold wordsK
    rw [List.length_append]
    simp [hj]
    omega
set_option maxRecDepth 100000 in
set_option maxHeartbeats 2000000 in
theorem putwords_any (A : Option Addr) (n c : Nat) (l : List Wl) (w : World) (hp : WordsS w A n l) (hn : n ≤ 4) (hok : ∀ x ∈ l, x.ok) :
    Calls Tryz.prog 99 #[.slice A n c] w fun e w' => OwnsB w w' e (wordsB l).length (wordsB l) := by
  obtain ⟨hnl, b, off, ds, h1, h2, h3, h4⟩ := hp
  have HNL := Lib.hid hnl
  have HD := Lib.hid h4.len
  have H1 := Lib.hid h1
  have H2 := Lib.hid h2
  have H4 := Lib.hid h4
  have HOK := Lib.hid hok
  clear hnl h1 h2 h3 h4 hok
  go_enter Tryz.func99, Tryz.ntmps99
  go_wp2_with fail
  refine (putnum_any w.heap.size (.slice none 0 0) 0 [] n _ w rfl (by omega) (World.ownsRow_nil _ _ _ _) (by omega)).mono ?_
  rintro e w1 ⟨v1, rfl, ho1, hx1⟩
  go_wp2_with fail
  go_loopw [3, 12] (fun t3 t12 wr => ∃ (j : Nat), j ≤ n ∧ t12 = .int .i64 j ∧ wr.ownsRow w.heap.size 5 1 t3 (wordsK l j).length (byts (wordsK l j)) ∧ Ext w wr) (fun _ t12 _ => n - (intOf t12).toNat)
  case atStart => exact ⟨0, by omega, rfl, by rw [wordsK, ← HNL.out]; simpa using ho1, hx1⟩
  case round =>
    obtain ⟨j, hj, rfl, ho, hx⟩ := hrel
    clear ho1
    by_cases hlt : j < n
    · have hjl : j < l.length := by have := HNL.out; omega
      have hjd : j < ds.length := by have := HD.out; omega
      have hltI : (j : Int) < n := by omega
      obtain rfl := H1.out (by omega)
      have hrow := (H2.out (by omega)).ext hx
      obtain ⟨hrh, hrg⟩ := hrow.wd j hjd
      have hbl := hrow.lt
      have hok := HOK.out l[j] (List.getElem_mem hjl)
      have hwv := H4.out.get j hjd hjl
      have hln := wordsK_len (l := l) (by have := HNL.out; omega) HOK.out j (by omega)
      have hgd : l.getD j ⟨0, 0, []⟩ = l[j] := by simp [hjl]
      obtain ⟨x, hxe⟩ : ∃ x, x = l[j] := ⟨_, rfl⟩
      obtain ⟨d, hde⟩ : ∃ d, d = ds[j] := ⟨_, rfl⟩
      rw [← hxe] at hok hgd hwv
      rw [← hde] at hwv hrg
      have hn2 : wordsK l (j + 1) = wordsK l j ++ (vint (foldN d.at_) ++ vint (foldN d.is_) ++ pathB x.path) := by rw [wordsK, hgd, hwv.at_, hwv.is_, wordB]
      have HN2 := Lib.hid hn2
      have HV := Lib.hid hwv
      have HXK := Lib.hid hok
      have hat := hok.at_
      have his := i32_64 hok.is_
      have hpl : d.pn ≤ 12 := by obtain ⟨_, _, hq⟩ := hwv.path; rw [hq.len]; exact hok.path
      have hv1 := vfold_len hok.at_
      have hv2 := vfold_len (i32_64 hok.is_)
      rw [← hwv.at_] at hat hv1
      rw [← hwv.is_] at his hv2
      have HB := Lib.hid (And.intro hv1 (And.intro hv2 (pathB_len hok.path hok.digs)))
      have HLN := Lib.hid hln
      have HO := Lib.hid ho
      unfold i64ok at hat his
      obtain ⟨ha1, ha2⟩ := hat
      obtain ⟨ha3, ha4⟩ := his
      have hwr : IntKind.i64.wrap d.is_ = d.is_ := by rw [IntKind.wrap_i64]; omega
      clear hrow hde hxe hok hgd hwv hn2 hv1 hv2 hln ho
      go_upto_region 5 with (fail)
      have x1 := hx.alloc (.cells d.cells 77)
      have hW := Blk.new wr 77 d.cells
      have ho5 := HO.out.alloc (.cells d.cells 77)
      have HO5 := Lib.hid ho5
      clear ho5 HO
      generalize hgW : (wr.alloc (.cells d.cells 77)) = W at x1 hW HO5 ⊢
      clear hgW hrh hrg
      refine wp_region_3 (fun w2 => Ext W w2) [(0, 2), (1, 2), (2, 1), (4, 2), (5, 1), (6, 1), (3, 0), (7, 0), (8, 2)] (by kernel_rfl) (by kernel_rfl) (by kernel_rfl) (by kernel_rfl) ?_; intro l' hl'; simp only [List.map_cons, List.map_nil, List.getD_cons_zero, List.getD_cons_succ] at hl'; subst hl'
      (repeat (first | ((apply w3_pure); (· go_simp); (· (intro w1; go_simp; try with_reducible rfl)); (intro K hK; go_simp; refine hK _ _ ?_; clear hK K)) | ((apply w3_skip); (· go_simp); (intro K hK; go_simp; refine hK _ _ ?_; clear hK K)) | ((apply w3_take); (· exact (Kept.drew (Kept.refl _ _))); (· go_simp); (· (intro w1 hS; have d1 := Blk.cell (Blk.ext hW hS); have d2 := (Blk.ext hW hS).lt;  go_simp; try with_reducible rfl)); (intro K hK; go_simp; refine hK _ _ ?_; clear hK K)) | ((apply w3_pass); (· exact (Kept.drew (Kept.refl _ _))); (· go_simp); (intro K hK; go_simp; refine hK _ _ ?_; clear hK K))))
      have yW : Ext W W.drew := (Kept.refl _ W).drew
      (refine w3_act (fun K hK => ?_); go_simp)
      go_wp2_with fail
      refine (putint_any w.heap.size u3 (wordsK l j).length (wordsK l j) d.at_ _ _ rfl ha1 ha2 (own_ext HO5.out yW) (by have := HLN.out; omega)).mono ?_
      rintro e w3 ⟨v3, rfl, ho3, hx3⟩
      have y3 : Ext W w3 := yW.trans hx3
      rw [← List.length_append] at ho3
      have HO3 := Lib.hid (own_mono ho3 (x1.trans yW).size)
      clear ho3
      refine hK.out _ _ (fun _ => y3) ?_
      clear hK K
      (repeat (first | ((apply w3_pure); (· go_simp); (· (intro w1; go_simp; try with_reducible rfl)); (intro K hK; go_simp; refine hK _ _ ?_; clear hK K)) | ((apply w3_skip); (· go_simp); (intro K hK; go_simp; refine hK _ _ ?_; clear hK K))))
      (refine w3_act (fun K hK => ?_); go_simp)
      go_wp2_with fail
      refine (putint_any w.heap.size v3 (wordsK l j ++ vint (foldN d.at_)).length (wordsK l j ++ vint (foldN d.at_)) d.is_ _ w3 rfl ha3 ha4 HO3.out (by have h1 := HLN.out; have h2 := HB.out; rw [List.length_append]; omega)).mono ?_
      rintro e w4 ⟨v4, rfl, ho4, hx4⟩
      have y4 : Ext W w4 := y3.trans hx4
      rw [← List.length_append] at ho4
      have HO4 := Lib.hid (own_mono ho4 (x1.trans y3).size)
      clear ho4
      refine hK.out _ _ (fun _ => y4) ?_
      clear hK K
      (repeat (first | ((apply w3_pure); (· go_simp); (· (intro w1; go_simp; try with_reducible rfl)); (intro K hK; go_simp; refine hK _ _ ?_; clear hK K)) | ((apply w3_skip); (· go_simp); (intro K hK; go_simp; refine hK _ _ ?_; clear hK K)) | (refine w3_end (by kernel_rfl) (fun K hK => ?_); go_simp; refine hK.out _ _ ?_; clear hK K))); refine w3_nil ?_
      have hW4 := Blk.ext hW y4
      have hc4 := Blk.cell hW4
      have lW4 := hW4.lt
      have x4 := x1.trans y4
      go_wp2_with fail
      refine (putpath_any d.pa d.pn d.pk x.path w4 (HV.out.path.ext x4) hpl).mono ?_
      rintro e w5 ⟨v5, rfl, ho5, hx5⟩
      obtain ⟨g, c5, rfl, hg, hrow5, _, _, _⟩ := own_some ho5 (pathB_pos _)
      have x5 := x4.trans hx5
      obtain ⟨v6, w6, hr6, ho6, hk6⟩ := appB w5 w.heap.size v4 _ _ (own_ext HO4.out hx5) g 0 _ c5 (pathB x.path) rfl hrow5 (by have h1 := HLN.out; have h2 := HB.out; simp only [List.length_append]; omega) x5.size
      rw [← List.length_append, List.append_assoc (wordsK l j ++ _), List.append_assoc (wordsK l j), ← List.append_assoc (vint _), ← HN2.out] at ho6
      have HO6 := Lib.hid ho6
      have hob : ∀ i, i < w.heap.size → v4.ownBlock = some i → False := fun i hi e => by have := (HO4.out.lt i e).1; omega
      have HOB := Lib.hid hob
      clear hob ho6 ho5 hrow5 hg
      go_wp2_with (at_builtin; refine Lib.wpList_append_run _ rfl _ _ _ _ rfl _ _ rfl rfl _ _ hr6 ?_)
      go_roundw
      case rel => exact ⟨j + 1, hlt, by go_num, HO6.out, x5.trans' hk6 HOB.out⟩
      case measure => simp only [intOf]; omega
    · have ej : j = l.length := by have := HNL.out; omega
      subst ej
      go_wp2_with fail
      go_ret
      exact ⟨_, rfl, ho, hx⟩
end Go.Proofs.YtahljceanodhkaaGreatDoor

/- Package witness: may. -/
namespace Go.Proofs.YtahljceanodhkaaGreatDoor
open Go.RowKit
def mayL (L : Sl) : Bool := decide (L.path.length ≤ 12) && decide (L.reads.length ≤ 3) && decide (L.writes.length ≤ 1) && (L.reads ++ L.writes).all fun x => decide (x.path.length ≤ 12)
theorem WordsV.app {w : World} {ds' : List Wd} {ls' : List Wl} (h' : WordsV w ds' ls') : ∀ {ds : List Wd} {ls : List Wl}, WordsV w ds ls → WordsV w (ds ++ ds') (ls ++ ls')
  | _, _, .nil => h'
  | _, _, .cons h r => .cons h (WordsV.app h' r)
theorem PathV.len {w : World} {A : Option Addr} {n : Nat} {l : List Dg} (h : PathV w A n l) : n = l.length := by
  obtain ⟨_, _, h⟩ := h
  exact h.len
/-- words as Concat takes them -/
theorem WordsS.cs {w : World} {A : Option Addr} {n : Nat} {ls : List Wl} (h : WordsS w A n ls) (c : Nat) : ∃ ds, CsW.At w ⟨A, n, c, ds⟩ ∧ WordsV w ds ls := by
  obtain ⟨hl, b, off, ds, h1, h2, _, h4⟩ := h
  exact ⟨ds, ⟨by rw [h4.len]; exact hl, b, off, h1, h2⟩, h4⟩
set_option maxRecDepth 100000 in
set_option maxHeartbeats 2000000 in
theorem may_any (s : Ws) (L : Sl) (w : World) (h : StepV w s L) :
    Calls Tryz.prog 92 #[.agg s.cells] w fun e w' => e = .returned (.bool (mayL L)) ∧ Ext w w' := by
  have hp := h.path.len
  have hr := h.reads.len
  have hw := h.writes.len
  have HP := Lib.hid hp
  have HRl := Lib.hid hr
  have HWl := Lib.hid hw
  have HH := Lib.hid h
  clear hp hr hw h
  have hx0 : Ext w _ := (Kept.refl _ w).alloc (.cells s.cells 45)
  by_cases c1 : 12 < s.pn
  · have c1' : (12 : Int) < s.pn := by omega
    go_enter Tryz.func92, Tryz.ntmps92
    go_wp2_with fail
    go_ret
    exact ⟨ret_bool (by have := HP.out; simp [mayL]; omega), hx0⟩
  have c1' : ¬ (12 : Int) < s.pn := by omega
  by_cases c2 : 3 < s.rn
  · have c2' : (3 : Int) < s.rn := by omega
    go_enter Tryz.func92, Tryz.ntmps92
    go_wp2_with fail
    go_ret
    exact ⟨ret_bool (by have := HRl.out; simp [mayL]; omega), hx0⟩
  have c2' : ¬ (3 : Int) < s.rn := by omega
  by_cases c3 : 1 < s.wn
  · have c3' : (1 : Int) < s.wn := by omega
    go_enter Tryz.func92, Tryz.ntmps92
    go_wp2_with fail
    go_ret
    exact ⟨ret_bool (by have := HWl.out; simp [mayL]; omega), hx0⟩
  have c3' : ¬ (1 : Int) < s.wn := by omega
  obtain ⟨d1, a1, v1⟩ := HH.out.reads.cs s.rk
  obtain ⟨d2, a2, v2⟩ := HH.out.writes.cs s.wk
  have hall : mayL L = (L.reads ++ L.writes).all fun x => decide (x.path.length ≤ 12) := by
    have h1 := HP.out
    have h2 := HRl.out
    have h3 := HWl.out
    unfold mayL
    rw [decide_eq_true (by omega), decide_eq_true (by omega), decide_eq_true (by omega)]
    rfl
  rw [hall]
  obtain ⟨ls, hls⟩ : ∃ ls, ls = L.reads ++ L.writes := ⟨_, rfl⟩
  have hv := v2.app v1
  rw [← hls] at hv ⊢
  have hxv : Ext w _ := hx0.alloc (.cells #[.slice s.ra s.rn s.rk, .slice s.wa s.wn s.wk] 43)
  have hblk := Blk.new (w.alloc (.cells s.cells 45)) 43 #[.slice s.ra s.rn s.rk, .slice s.wa s.wn s.wk]
  have hcc := concatW_any (w.heap.size + 1) 0 2 2 [⟨s.ra, s.rn, s.rk, d1⟩, ⟨s.wa, s.wn, s.wk, d2⟩] _ rfl (by omega) (by simpa [valW] using Row.of_blk hblk) (by simp; exact ⟨a1.ext hxv, a2.ext hxv⟩) (by simp [sumW]; omega)
  have hsum : sumW [⟨s.ra, s.rn, s.rk, d1⟩, ⟨s.wa, s.wn, s.wk, d2⟩] 2 = s.rn + s.wn := by simp [sumW]
  have hcat : catW [⟨s.ra, s.rn, s.rk, d1⟩, ⟨s.wa, s.wn, s.wk, d2⟩] = d1 ++ d2 := by simp [catW]
  rw [show ([⟨s.ra, s.rn, s.rk, d1⟩, ⟨s.wa, s.wn, s.wk, d2⟩] : List CsW).length = 2 from rfl, hsum, hcat] at hcc
  have HCC := Lib.hid hcc
  have HV := Lib.hid hv
  clear a1 a2 v1 v2 hblk hcc hsum hcat hv hall hls
  go_enter Tryz.func92, Tryz.ntmps92
  go_wp2_with fail
  refine HCC.out.mono ?_
  rintro e w1 ⟨v1, rfl, ho1, hx1⟩
  have x1 := hxv.trans hx1
  have hvv := HV.out.ext x1
  have hlen := hvv.len
  obtain ⟨A, c, rfl, hS⟩ := WordsS.of_own ho1 hvv
  obtain ⟨hnl, b, off, ds, h1, h2, _, h4⟩ := hS
  have hm : s.rn + s.wn ≤ 4 := by omega
  obtain ⟨n, hn⟩ : ∃ n, n = s.rn + s.wn := ⟨_, rfl⟩
  rw [← hn] at hnl h1 h2 hm ⊢
  have HN := Lib.hid hnl
  have H1 := Lib.hid h1
  have H2 := Lib.hid h2
  have H4 := Lib.hid h4
  clear hn hnl h1 h2 h4 hlen hvv ho1 HCC HV hx1 hxv hx0
  go_wp2_with fail
  go_loopw [28] (fun t28 wr => ∃ (j : Nat), j ≤ n ∧ t28 = .int .i64 j ∧ ((ls.take j).all fun x => decide (x.path.length ≤ 12)) = true ∧ Ext w1 wr) (fun t28 _ => n - (intOf t28).toNat)
  case atStart => exact ⟨0, by omega, rfl, rfl, Kept.refl _ _⟩
  case round =>
    obtain ⟨j, hj, rfl, ha, hx⟩ := hrel
    have HA := Lib.hid ha
    clear ha
    by_cases hlt : j < n
    · have hltI : (j : Int) < n := by omega
      have hjl : j < ls.length := by have := HN.out; omega
      have hjd : j < ds.length := by rw [H4.out.len]; exact hjl
      obtain rfl := H1.out (by omega)
      have hrow := (H2.out (by omega)).ext hx
      obtain ⟨hrh, hrg⟩ := hrow.wd j hjd
      have hbl := hrow.lt
      have hpl := (H4.out.get j hjd hjl).path.len
      obtain ⟨d, hde⟩ : ∃ d, d = ds[j] := ⟨_, rfl⟩
      rw [← hde] at hrg hpl
      have HPL := Lib.hid hpl
      clear hrow hde hpl
      by_cases hb : 12 < d.pn
      · have hb' : (12 : Int) < d.pn := by omega
        go_wp2_with fail
        go_ret
        refine ⟨ret_bool ?_, x1.trans (hx.alloc _)⟩
        symm
        rw [Bool.eq_false_iff]
        intro hf
        rw [List.all_eq_true] at hf
        have := hf ls[j] (List.getElem_mem hjl)
        have h9 := HPL.out
        simp at this
        omega
      · have hb' : ¬ (12 : Int) < d.pn := by omega
        go_wp2_with fail
        go_roundw
        case rel =>
          refine ⟨j + 1, hlt, by go_num, ?_, hx.alloc _⟩
          rw [List.take_succ_eq_append_getElem hjl, List.all_append, HA.out]
          have h9 := HPL.out
          simp
          omega
        case measure => simp only [intOf]; omega
    · have ej : j = ls.length := by have := HN.out; omega
      have hf := HA.out
      rw [ej, List.take_length] at hf
      have HF := Lib.hid hf
      clear hf
      go_wp2_with fail
      go_ret
      exact ⟨ret_bool HF.out.symm, x1.trans hx⟩
end Go.Proofs.YtahljceanodhkaaGreatDoor

/- Package witness: putInstr behind other bytes; Encode. -/
namespace Go.Proofs.YtahljceanodhkaaGreatDoor
open Go.RowKit
set_option maxRecDepth 100000 in
set_option maxHeartbeats 1000000 in
theorem putinstr_on (base : Nat) (v : Value) (k : Nat) (xs : List Int) (i : Ins) (hi : i.ok) (w : World) (hown : w.ownsRow base 5 1 v k (byts xs)) (hk : k ≤ 900) (hb : base ≤ w.heap.size) :
    Calls Tryz.prog 96 #[v, .agg #[.int .i64 i.op, .int .i64 i.a, .int .i64 i.b, .int .i64 i.c]] w fun e w' => ∃ v', e = .returned v' ∧ w'.ownsRow base 5 1 v' (xs ++ instrB i).length (byts (xs ++ instrB i)) ∧ Ext w w' := by
  have HI := Lib.hid hi
  have hkl : k = xs.length := by have := hown.1; rw [byts_length] at this; omega
  rw [hkl] at hown hk
  have HO0 := Lib.hid hown
  clear hi hown hkl
  have hx0 : Ext w _ := (Kept.refl _ w).alloc (.cells i.cells 41)
  go_enter Tryz.func96, Tryz.ntmps96
  go_wp2_with fail
  go_loopw [0, 16] (fun t0 t16 wr => ∃ (j : Nat), j ≤ 4 ∧ t16 = .int .i64 j ∧ wr.ownsRow base 5 1 t0 (xs ++ instrT i j).length (byts (xs ++ instrT i j)) ∧ Ext w wr) (fun _ t16 _ => 4 - (intOf t16).toNat)
  case atStart => exact ⟨0, by omega, rfl, by simpa [instrT] using HO0.out.alloc _, hx0⟩
  case round =>
    obtain ⟨j, hj, rfl, ho, hx⟩ := hrel
    have hl := instrT_len HI.out j
    by_cases hlt : j < 4
    · have hll : (xs ++ instrT i j).length ≤ 1000 := by rw [List.length_append]; omega
      have hx' := hx.size
      have key : ∀ (w1 : World) (v1 : Value), w1.ownsRow wr.heap.size 5 1 v1 ((xs ++ instrT i j).length + (vint (foldN (i.at j))).length) (byts (xs ++ instrT i j ++ vint (foldN (i.at j)))) → w1.ownsRow base 5 1 v1 (xs ++ instrT i (j + 1)).length (byts (xs ++ instrT i (j + 1))) := fun w1 v1 h => by
        have := own_mono h (Nat.le_trans hb hx')
        rw [← List.length_append, List.append_assoc] at this
        exact this
      have HP := fun k hk => (putint_any base u0 (xs ++ instrT i j).length (xs ++ instrT i j) (i.at j) k wr hk (at_ok HI.out j).1 (at_ok HI.out j).2 ho hll)
      have HK := Lib.hid key
      have HQ := Lib.hid HP
      clear key HP hl hll hx'
      have hidx := idxIns i j hlt
      go_wp2_with fail
      refine (HQ.out _ rfl).mono ?_
      rintro e w1 ⟨v1, rfl, ho1, hx1⟩
      go_wp2_with fail
      go_roundw
      case rel => exact ⟨j + 1, hlt, by go_num, HK.out _ _ ho1, hx.trans hx1⟩
      case measure => simp only [intOf]; omega
    · obtain rfl : j = 4 := by omega
      go_wp2_with fail
      go_ret
      rw [instrT_all] at ho
      exact ⟨_, rfl, ho, hx⟩
theorem wordsB_pos (l : List Wl) : 0 < (wordsB l).length := by
  have h : ∀ j, 0 < (wordsK l j).length := fun j => by
    induction j with
    | zero => exact vint_pos _
    | succ j ih => unfold wordsK; rw [List.length_append]; omega
  exact h _
def Sl.at (s : Sl) : Nat → Int | 0 => s.pc | 1 => s.halt | _ => s.words
def headK (s : Sl) : Nat → List Int | 0 => [] | j + 1 => headK s j ++ vint (foldN (s.at j))
def encB (s : Sl) : List Int := (headK s 3 ++ vint (numN s.mem)) ++ instrB s.ins ++ pathB s.path ++ wordsB s.reads ++ wordsB s.writes
/-- a step that can be written -/
structure Sl.ok (s : Sl) : Prop where
  at_ : ∀ j, i64ok (s.at j)
  mem : s.mem.ok
  ins : s.ins.ok
  digs : ∀ d ∈ s.path, d.ok
  reads : ∀ x ∈ s.reads, i64ok x.at_ ∧ i32ok x.is_ ∧ ∀ d ∈ x.path, d.ok
  writes : ∀ x ∈ s.writes, i64ok x.at_ ∧ i32ok x.is_ ∧ ∀ d ∈ x.path, d.ok
theorem headK_len {s : Sl} (h : s.ok) : ∀ j, (headK s j).length ≤ 10 * j
  | 0 => by simp [headK]
  | j + 1 => by
    have := headK_len h j
    have := vfold_len (h.at_ j)
    simp only [headK, List.length_append]
    omega
theorem mayL_inv {s : Sl} (h : mayL s = true) : s.path.length ≤ 12 ∧ s.reads.length ≤ 3 ∧ s.writes.length ≤ 1 ∧ (∀ x ∈ s.reads, x.path.length ≤ 12) ∧ (∀ x ∈ s.writes, x.path.length ≤ 12) := by
  simp [mayL] at h
  obtain ⟨⟨⟨h1, h2⟩, h3⟩, h4⟩ := h
  exact ⟨h1, h2, h3, h4.1, h4.2⟩
theorem idxH (s : Sl) (j : Nat) (hj : j < 3) (w : World) : (Instr.index 153 (.agg #[.int .i64 s.pc, .int .i64 s.halt, .int .i64 s.words]) (.int .i64 j)).run Tryz.prog w = .ok (.int .i64 (s.at j)) w := by
  rcases (by omega : j = 0 ∨ j = 1 ∨ j = 2) with rfl | rfl | rfl <;> kernel_rfl
set_option maxRecDepth 100000 in
set_option maxHeartbeats 2000000 in
theorem encode_no (s : Ws) (L : Sl) (w : World) (h : StepV w s L) (hm : mayL L = false) :
    Calls Tryz.prog 47 #[.agg s.cells] w fun e w' => e = .returned (.tuple #[.slice none 0 0, .int .i64 2]) ∧ Ext w w' := by
  have HH := Lib.hid h
  have HM := Lib.hid hm
  clear h hm
  have hx0 : Ext w _ := (Kept.refl _ w).alloc (.cells s.cells 45)
  go_enter Tryz.func47, Tryz.ntmps47
  go_wp2_with fail
  refine (may_any s L _ (HH.out.ext hx0)).mono ?_
  rintro e w1 ⟨rfl, hx1⟩
  rw [HM.out]
  go_wp2_with fail
  go_ret2
  exact ⟨rfl, hx0.trans hx1⟩
set_option maxRecDepth 100000 in
set_option maxHeartbeats 2000000 in
theorem encode_ok (s : Ws) (L : Sl) (w : World) (h : StepV w s L) (hm : mayL L = true) (hok : L.ok) :
    Calls Tryz.prog 47 #[.agg s.cells] w fun e w' => ∃ v, e = .returned (.tuple #[v, .int .i64 0]) ∧ w'.ownsRow w.heap.size 5 1 v (encB L).length (byts (encB L)) ∧ Ext w w' := by
  have HH := Lib.hid h
  have HM := Lib.hid hm
  have HOK := Lib.hid hok
  obtain ⟨m1, m2, m3, m4, m5⟩ := mayL_inv hm
  have M4 := Lib.hid m4
  have M5 := Lib.hid m5
  have e1 := h.pc
  have e2 := h.halt
  have e3 := h.words
  have e4 := h.mem
  have e5 := h.ins
  have hp := h.path.len
  have hr := h.reads.len
  have hw := h.writes.len
  obtain ⟨pc, halt, words, mem, ins, pa, pn, pk, ra, rn, rk, wa, wn, wk⟩ := s
  simp only at e1 e2 e3 e4 e5 hp hr hw
  subst e1 e2 e3 e4 e5
  have HL := Lib.hid (And.intro hp (And.intro hr hw))
  have hSm : (pathB L.path).length + (wordsB L.reads).length + (wordsB L.writes).length ≤ 10000 := by
    have q1 := pathB_len m1 hok.digs
    have q2 := wordsK_len (l := L.reads) (by omega) (fun x hx => ⟨(hok.reads x hx).1, (hok.reads x hx).2.1, m4 x hx, (hok.reads x hx).2.2⟩) L.reads.length (Nat.le_refl _)
    have q3 := wordsK_len (l := L.writes) (by omega) (fun x hx => ⟨(hok.writes x hx).1, (hok.writes x hx).2.1, m5 x hx, (hok.writes x hx).2.2⟩) L.writes.length (Nat.le_refl _)
    unfold wordsB
    omega
  have HSm := Lib.hid hSm
  have n1 : pn ≤ 12 := by omega
  have n2 : rn ≤ 4 := by omega
  have n3 : wn ≤ 4 := by omega
  clear h hm hok m1 m2 m3 m4 m5 hp hr hw hSm
  have hx0 : Ext w _ := (Kept.refl _ w).alloc (.cells (Ws.cells ⟨L.pc, L.halt, L.words, L.mem, L.ins, pa, pn, pk, ra, rn, rk, wa, wn, wk⟩) 45)
  have hB0 := Blk.new w 45 (Ws.cells ⟨L.pc, L.halt, L.words, L.mem, L.ins, pa, pn, pk, ra, rn, rk, wa, wn, wk⟩)
  go_enter Tryz.func47, Tryz.ntmps47
  go_wp2_with fail
  refine (may_any _ L _ (HH.out.ext hx0)).mono ?_
  rintro e w1 ⟨rfl, hx1⟩
  rw [HM.out]
  have hB1 := Blk.ext hB0 hx1
  have x1 := hx0.trans hx1
  have hc1 := Blk.cell hB1
  have lB1 := hB1.lt
  clear hB0 hx0 hx1
  go_wp2_with fail
  go_loopw [4, 17] (fun t4 t17 wr => ∃ (j : Nat), j ≤ 3 ∧ t17 = .int .i64 j ∧ wr.ownsRow w.heap.size 5 1 t4 (headK L j).length (byts (headK L j)) ∧ Ext w1 wr) (fun _ t17 _ => 3 - (intOf t17).toNat)
  case atStart => exact ⟨0, by omega, rfl, World.ownsRow_nil _ _ _ _, Kept.refl _ _⟩
  case round =>
    obtain ⟨j, hj, rfl, ho, hx⟩ := hrel
    have hl := headK_len HOK.out j
    have HO := Lib.hid ho
    have HLn := Lib.hid hl
    clear ho hl
    by_cases hlt : j < 3
    · have hidx := idxH L j hlt
      have hsz := (x1.trans hx).size
      have HSZ := Lib.hid hsz
      clear hsz
      go_wp2_with fail
      refine (putint_any w.heap.size u4 (headK L j).length (headK L j) (L.at j) _ wr rfl (HOK.out.at_ j).1 (HOK.out.at_ j).2 HO.out (by have := HLn.out; omega)).mono ?_
      rintro e w2 ⟨v2, rfl, ho2, hx2⟩
      rw [← List.length_append] at ho2
      have HO2 := Lib.hid (own_mono ho2 HSZ.out)
      clear ho2
      go_wp2_with fail
      go_roundw
      case rel => exact ⟨j + 1, hlt, by go_num, HO2.out, hx.trans hx2⟩
      case measure => simp only [intOf]; omega
    · obtain rfl : j = 3 := by omega
      have x2 := x1.trans hx
      have hB2 := Blk.ext hB1 hx
      have hh2 := Blk.has hB2
      have hg2 := Blk.gets hB2
      have lB2 := hB2.lt
      clear hc1
      go_wp2_with fail
      refine (num_any L.mem HOK.out.mem _).mono ?_
      rintro e w3 ⟨e3, hx3⟩
      rw [(numD_bd HOK.out.mem).1] at e3
      subst e3
      have x3 := x2.trans hx3
      go_wp2_with fail
      refine (putnum_any w.heap.size u4 _ (headK L 3) (numN L.mem) _ w3 rfl (numD_bd HOK.out.mem).2 (own_ext HO.out hx3) (by have := HLn.out; omega)).mono ?_
      rintro e w4 ⟨v4, rfl, ho4, hx4⟩
      rw [← List.length_append] at ho4
      have HO4 := Lib.hid (own_mono ho4 x3.size)
      have x4 := x3.trans hx4
      have hB4 := Blk.ext hB2 (hx3.trans hx4)
      have hh4 := Blk.has hB4
      have hg4 := Blk.gets hB4
      have lB4 := hB4.lt
      have hv := vint_len 10 (numN L.mem) (by have := (numD_bd HOK.out.mem).2; omega) (by omega)
      have HV := Lib.hid hv
      clear ho4 hh2 hg2 hv
      go_wp2_with fail
      refine (putinstr_on w.heap.size v4 _ _ L.ins HOK.out.ins w4 HO4.out (by have := HLn.out; have := HV.out; rw [List.length_append]; omega) x4.size).mono ?_
      rintro e w5 ⟨v5, rfl, ho5, hx5⟩
      have hp5 : 0 < (headK L 3 ++ vint (numN L.mem) ++ instrB L.ins).length := by rw [List.length_append]; have := (instrB_len HOK.out.ins).1; omega
      have hl5 : (headK L 3 ++ vint (numN L.mem) ++ instrB L.ins).length ≤ 200 := by have := (instrB_len HOK.out.ins).2; have := HLn.out; have := HV.out; simp only [List.length_append]; omega
      obtain ⟨l5, he5⟩ : ∃ l5, l5 = headK L 3 ++ vint (numN L.mem) ++ instrB L.ins := ⟨_, rfl⟩
      rw [← he5] at hp5 hl5 ho5
      have HE5 := Lib.hid he5
      have HL5 := Lib.hid hl5
      clear he5 hl5
      obtain ⟨g5, c5, rfl, hg5, hrow5, _, _, _⟩ := own_some ho5 hp5
      have HR5 := Lib.hid hrow5
      clear hrow5 hg5
      have x5 := x4.trans hx5
      have hB5 := Blk.ext hB4 hx5
      clear ho5 hh4 hg4 hB4 hB2 hB1
      go_upto_region 11 with (fail)
      refine wp_region_3 (fun w2 => Ext w5 w2) [(0, 2), (1, 2), (2, 1), (4, 2), (5, 1), (7, 2), (8, 1), (3, 0), (6, 0), (9, 0), (10, 0), (11, 0), (12, 2), (13, 2)] (by kernel_rfl) (by kernel_rfl) (by kernel_rfl) (by kernel_rfl) ?_; intro l' hl'; simp only [List.map_cons, List.map_nil, List.getD_cons_zero, List.getD_cons_succ] at hl'; subst hl'
      (repeat (first | ((apply w3_pure); (· go_simp); (· (intro w1; go_simp; try with_reducible rfl)); (intro K hK; go_simp; refine hK _ _ ?_; clear hK K)) | ((apply w3_skip); (· go_simp); (intro K hK; go_simp; refine hK _ _ ?_; clear hK K)) | ((apply w3_take); (· exact (Kept.drew (Kept.refl _ _))); (· go_simp); (· (intro w1 hS; have d1 := Blk.cell (Blk.ext hB5 hS); have d2 := (Blk.ext hB5 hS).lt;  go_simp; try with_reducible rfl)); (intro K hK; go_simp; refine hK _ _ ?_; clear hK K)) | ((apply w3_pass); (· exact (Kept.drew (Kept.refl _ _))); (· go_simp); (intro K hK; go_simp; refine hK _ _ ?_; clear hK K))))
      (refine w3_act (fun K hK => ?_); go_simp)
      go_wp2_with fail
      have yW : Ext w5 w5.drew := (Kept.refl _ w5).drew
      refine (putpath_any pa pn pk L.path _ (HH.out.path.ext (x5.trans yW)) n1).mono ?_
      rintro e w6 ⟨v6, rfl, ho6, hx6⟩
      obtain ⟨g6, c6, rfl, hg6, hrow6, _, _, _⟩ := own_some ho6 (pathB_pos _)
      have HR6 := Lib.hid hrow6
      have y6 : Ext w5 w6 := yW.trans hx6
      clear ho6 hrow6 hg6
      refine hK.out _ _ (fun _ => y6) ?_
      clear hK K
      (repeat (first | ((apply w3_pure); (· go_simp); (· (intro w1; go_simp; try with_reducible rfl)); (intro K hK; go_simp; refine hK _ _ ?_; clear hK K)) | ((apply w3_skip); (· go_simp); (intro K hK; go_simp; refine hK _ _ ?_; clear hK K))))
      (refine w3_act (fun K hK => ?_); go_simp)
      go_wp2_with fail
      refine (putwords_any ra rn rk L.reads _ (HH.out.reads.ext (x5.trans y6)) n2 (fun x hx => ⟨(HOK.out.reads x hx).1, (HOK.out.reads x hx).2.1, M4.out x hx, (HOK.out.reads x hx).2.2⟩)).mono ?_
      rintro e w7 ⟨v7, rfl, ho7, hx7⟩
      obtain ⟨g7, c7, rfl, hg7, hrow7, _, _, _⟩ := own_some ho7 (wordsB_pos _)
      have HR7 := Lib.hid hrow7
      have y7 : Ext w5 w7 := y6.trans hx7
      clear ho7 hrow7 hg7
      refine hK.out _ _ (fun _ => y7) ?_
      clear hK K
      (repeat (first | ((apply w3_pure); (· go_simp); (· (intro w1; go_simp; try with_reducible rfl)); (intro K hK; go_simp; refine hK _ _ ?_; clear hK K)) | ((apply w3_skip); (· go_simp); (intro K hK; go_simp; refine hK _ _ ?_; clear hK K))))
      (refine w3_act (fun K hK => ?_); go_simp)
      go_wp2_with fail
      refine (putwords_any wa wn wk L.writes _ (HH.out.writes.ext (x5.trans y7)) n3 (fun x hx => ⟨(HOK.out.writes x hx).1, (HOK.out.writes x hx).2.1, M5.out x hx, (HOK.out.writes x hx).2.2⟩)).mono ?_
      rintro e w8 ⟨v8, rfl, ho8, hx8⟩
      obtain ⟨g8, c8, rfl, hg8, hrow8, _, _, _⟩ := own_some ho8 (wordsB_pos _)
      have HR8 := Lib.hid hrow8
      have y8 : Ext w5 w8 := y7.trans hx8
      clear ho8 hrow8 hg8
      refine hK.out _ _ (fun _ => y8) ?_
      clear hK K
      (repeat (first | ((apply w3_pure); (· go_simp); (· (intro w1; go_simp; try with_reducible rfl)); (intro K hK; go_simp; refine hK _ _ ?_; clear hK K)) | ((apply w3_skip); (· go_simp); (intro K hK; go_simp; refine hK _ _ ?_; clear hK K))))
      (refine w3_act (fun K hK => ?_); go_simp)
      have yA := y8.alloc (.cells #[.slice (some ⟨g5, 0, none⟩) l5.length c5, .slice (some ⟨g6, 0, none⟩) (pathB L.path).length c6, .slice (some ⟨g7, 0, none⟩) (wordsB L.reads).length c7, .slice (some ⟨g8, 0, none⟩) (wordsB L.writes).length c8] 95)
      have hN8 := Blk.new w8 95 #[.slice (some ⟨g5, 0, none⟩) l5.length c5, .slice (some ⟨g6, 0, none⟩) (pathB L.path).length c6, .slice (some ⟨g7, 0, none⟩) (wordsB L.reads).length c7, .slice (some ⟨g8, 0, none⟩) (wordsB L.writes).length c8]
      refine hK.out _ _ (fun _ => yA) ?_
      clear hK K
      have hzA : Ext w8 _ := (Kept.refl _ w8).alloc (.cells #[.slice (some ⟨g5, 0, none⟩) l5.length c5, .slice (some ⟨g6, 0, none⟩) (pathB L.path).length c6, .slice (some ⟨g7, 0, none⟩) (wordsB L.reads).length c7, .slice (some ⟨g8, 0, none⟩) (wordsB L.writes).length c8] 95)
      have hcc := concatB_any w8.heap.size 0 4 4 [⟨some ⟨g5, 0, none⟩, l5.length, c5, l5⟩, ⟨some ⟨g6, 0, none⟩, (pathB L.path).length, c6, pathB L.path⟩, ⟨some ⟨g7, 0, none⟩, (wordsB L.reads).length, c7, wordsB L.reads⟩, ⟨some ⟨g8, 0, none⟩, (wordsB L.writes).length, c8, wordsB L.writes⟩] _ rfl (by omega) (by simpa [valB] using Row.of_blk hN8)
        (by
          simp
          exact ⟨⟨rfl, g5, 0, fun _ => rfl, fun _ => HR5.out.ext yA⟩, ⟨rfl, g6, 0, fun _ => rfl, fun _ => HR6.out.ext ((hx7.trans hx8).trans hzA)⟩, ⟨rfl, g7, 0, fun _ => rfl, fun _ => HR7.out.ext (hx8.trans hzA)⟩, ⟨rfl, g8, 0, fun _ => rfl, fun _ => HR8.out.ext hzA⟩⟩)
        (by
          have q1 := HL5.out
          have q2 := HSm.out
          simp [sumB]
          omega)
      have HCC := Lib.hid hcc
      clear hcc hN8
      (repeat (first | ((apply w3_pure); (· go_simp); (· (intro w1; go_simp; try with_reducible rfl)); (intro K hK; go_simp; refine hK _ _ ?_; clear hK K)) | ((apply w3_skip); (· go_simp); (intro K hK; go_simp; refine hK _ _ ?_; clear hK K))))
      (refine w3_act (fun K hK => ?_); go_simp)
      go_wp2_with fail
      refine HCC.out.mono ?_
      rintro e w9 ⟨v9, rfl, ho9, hx9⟩
      have y9 := yA.trans hx9
      refine hK.out _ _ (fun _ => y9) ?_
      clear hK K
      have hcat : catB [⟨some ⟨g5, 0, none⟩, l5.length, c5, l5⟩, ⟨some ⟨g6, 0, none⟩, (pathB L.path).length, c6, pathB L.path⟩, ⟨some ⟨g7, 0, none⟩, (wordsB L.reads).length, c7, wordsB L.reads⟩, ⟨some ⟨g8, 0, none⟩, (wordsB L.writes).length, c8, wordsB L.writes⟩] = encB L := by
        simp [catB, encB, HE5.out]
      have hl9 := ho9.1
      rw [hcat] at ho9 hl9
      rw [byts_length, Nat.mul_one] at hl9
      rw [← hl9] at ho9
      have HO9 := Lib.hid (own_mono ho9 (x5.trans yA).size)
      clear ho9 hl9 hcat
      (repeat (first | ((apply w3_pure); (· go_simp); (· (intro w1; go_simp; try with_reducible rfl)); (intro K hK; go_simp; refine hK _ _ ?_; clear hK K)) | ((apply w3_skip); (· go_simp); (intro K hK; go_simp; refine hK _ _ ?_; clear hK K)) | (refine w3_end (by kernel_rfl) (fun K hK => ?_); go_simp; refine hK.out _ _ ?_; clear hK K))); refine w3_nil ?_
      go_wp2_with fail
      go_ret2
      exact ⟨_, rfl, HO9.out, x5.trans y9⟩
end Go.Proofs.YtahljceanodhkaaGreatDoor

/- An empty step is the same as an empty step. -/
namespace Go.Proofs.YtahljceanodhkaaGreatDoor
open Go.RowKit
theorem aggRstep : aggT Tryz.prog 92 = true := by kernel_rfl
theorem sizeRstep : sizeT Tryz.prog 92 = some 18 := by kernel_rfl
theorem wpLoadRstep {dst : Option Tmp} {ty' : TypeId} {x : Operand} {pos : String} {after : Array Edge} {guard : Option (Nat × Bool)} {a : Act} {w : World} {K : Act → World → Prop} {Q : Exit → Act → World → Prop} (hx : isAt (a.eval x) = true) (hh : has w (blkOf (a.eval x)) (offOf (a.eval x)) 18 = true) :
    Oper.wp Tryz.prog { dst := dst, op := .load 92 x, type := ty', pos := pos, after := after, guard := guard } a w K Q = K (a.put dst (.agg (gets w (blkOf (a.eval x)) (offOf (a.eval x)) 18))) w := wp_load_big 18 aggRstep sizeRstep hx hh
theorem runLoadRstep {ρ : Operand → Value} {dst : Option Tmp} {ty' : TypeId} {x : Operand} {pos : String} {after : Array Edge} {guard : Option (Nat × Bool)} {w : World} (hx : isAt (ρ x) = true) (hh : has w (blkOf (ρ x)) (offOf (ρ x)) 18 = true) :
    (execOp ρ { dst := dst, op := .load 92 x, type := ty', pos := pos, after := after, guard := guard }).run Tryz.prog w = .ok (.value (.agg (gets w (blkOf (ρ x)) (offOf (ρ x)) 18))) w := run_exec_load_big 18 aggRstep sizeRstep hx hh
theorem loadVarRstep (w : World) (g off : Nat) (hh : has w g off 18 = true) : (loadVar 92 ⟨g, off, none⟩).run Tryz.prog w = .ok (.agg (gets w g off 18)) w := run_loadVar_big Tryz.prog w _ g off 18 aggRstep sizeRstep hh
attribute [go_sem] aggRstep sizeRstep
attribute [go_sem ↓ high] wpLoadRstep loadVarRstep runLoadRstep
attribute [go_sem high] wpLoadRstep
set_option maxRecDepth 100000 in
set_option maxHeartbeats 400000 in
theorem digests_nil (w : World) : Calls Tryz.prog 41 #[.slice none 0 0] w fun e w' => e = .returned (.slice none 0 0) ∧ w = w' := by
  go_enter Tryz.func41, Tryz.ntmps41
  go_wp2_with fail
  go_loopw [3, 8] (fun t3 t8 wr => t3 = .slice none 0 0 ∧ t8 = .int .i64 0 ∧ w = wr) (fun _ _ _ => 0)
  case atStart => exact ⟨rfl, rfl, rfl⟩
  case round =>
    obtain ⟨rfl, rfl, hw⟩ := hrel
    subst hw
    go_wp2_with fail
    go_ret
    exact ⟨rfl, rfl⟩
set_option maxRecDepth 100000 in
set_option maxHeartbeats 400000 in
theorem words_nil (w : World) : Calls Tryz.prog 91 #[.slice none 0 0] w fun e w' => e = .returned (.slice none 0 0) ∧ w = w' := by
  go_enter Tryz.func91, Tryz.ntmps91
  go_wp2_with fail
  go_loopw [3, 8] (fun t3 t8 wr => t3 = .slice none 0 0 ∧ t8 = .int .i64 0 ∧ w = wr) (fun _ _ _ => 0)
  case atStart => exact ⟨rfl, rfl, rfl⟩
  case round =>
    obtain ⟨rfl, rfl, hw⟩ := hrel
    subst hw
    go_wp2_with fail
    go_ret
    exact ⟨rfl, rfl⟩
set_option maxRecDepth 100000 in
set_option maxHeartbeats 400000 in
theorem rsame4_nil (w : World) : Calls Tryz.prog 40 #[.slice none 0 0, .slice none 0 0] w fun e w' => e = .returned (.bool true) ∧ w = w' := by
  go_enter Tryz.func40, Tryz.ntmps40
  go_wp2_with fail
  go_loopw [5] (fun t8 wr => t8 = .int .i64 0 ∧ w = wr) (fun _ _ => 0)
  case atStart => exact ⟨rfl, rfl⟩
  case round =>
    obtain ⟨rfl, hw⟩ := hrel
    subst hw
    go_wp2_with fail
    go_ret
    exact ⟨rfl, rfl⟩
set_option maxRecDepth 100000 in
set_option maxHeartbeats 400000 in
theorem samewords_nil (w : World) : Calls Tryz.prog 90 #[.slice none 0 0, .slice none 0 0] w fun e w' => e = .returned (.bool true) ∧ w = w' := by
  go_enter Tryz.func90, Tryz.ntmps90
  go_wp2_with fail
  go_loopw [5] (fun t8 wr => t8 = .int .i64 0 ∧ w = wr) (fun _ _ => 0)
  case atStart => exact ⟨rfl, rfl⟩
  case round =>
    obtain ⟨rfl, hw⟩ := hrel
    subst hw
    go_wp2_with fail
    go_ret
    exact ⟨rfl, rfl⟩
set_option maxRecDepth 100000 in
set_option maxHeartbeats 1000000 in
theorem rsame22_zero (w : World) : Calls Tryz.prog 44 #[.agg zeroW, .agg zeroW] w fun e w' => e = .returned (.bool true) ∧ Ext w w' := by
  have hx0 : Ext w _ := ((Kept.refl _ w).alloc (.cells zeroW 92)).alloc (.cells zeroW 92)
  go_enter Tryz.func44, Tryz.ntmps44
  go_wp2_with fail
  refine (rsame4_nil _).mono ?_
  rintro e w1 ⟨rfl, rfl⟩
  go_wp2_with fail
  refine (samewords_nil _).mono ?_
  rintro e w1 ⟨rfl, rfl⟩
  go_wp2_with fail
  refine (samewords_nil _).mono ?_
  rintro e w1 ⟨rfl, rfl⟩
  go_wp2_with fail
  go_ret
  exact ⟨rfl, hx0⟩
set_option maxRecDepth 100000 in
set_option maxHeartbeats 1000000 in
theorem to_zero (w : World) : Calls Tryz.prog 45 #[.agg zeroW] w fun e w' => e = .returned (.agg zeroW) ∧ Ext w w' := by
  have hx0 : Ext w _ := ((Kept.refl _ w).alloc (.cells zeroW 45)).alloc (.cells zeroW 92)
  have hA0 : Blk _ w.heap.size 45 zeroW := Blk.alloc (Blk.new w _ _) (.cells zeroW 92)
  have hR0 : Blk _ (w.heap.size + 1) 92 zeroW := Blk.new' (w.alloc (.cells zeroW 45)) _ _ _ (by simp)
  go_enter Tryz.func45, Tryz.ntmps45
  go_upto_region 1 with (fail)
  generalize ((w.alloc (.cells zeroW 45)).alloc (.cells zeroW 92)) = W at hx0 hA0 hR0 ⊢
  refine wp_region_3 (fun w2 => Ext W w2) [(0, 2), (1, 1), (2, 2), (3, 1), (4, 2), (5, 1), (6, 2), (7, 1), (8, 2), (9, 1), (10, 2), (11, 1), (13, 2), (14, 1), (16, 2), (17, 1), (12, 0), (15, 0), (18, 0), (19, 2), (20, 0)] (by kernel_rfl) (by kernel_rfl) (by kernel_rfl) (by kernel_rfl) ?_; intro l' hl'; simp only [List.map_cons, List.map_nil, List.getD_cons_zero, List.getD_cons_succ] at hl'; subst hl'
  (repeat (first | ((apply w3_pure); (· go_simp); (· (intro w1; go_simp; try with_reducible rfl)); (intro K hK; go_simp; refine hK _ _ ?_; clear hK K)) | ((apply w3_skip); (· go_simp); (intro K hK; go_simp; refine hK _ _ ?_; clear hK K)) | ((apply w3_take); (· exact (Kept.drew (Kept.refl _ _))); (· go_simp); (· (intro w1 hS; have d0 := Blk.ext hA0 hS; have d1 := Blk.cell d0; have d2 := d0.lt; have d3 := Blk.has d0; have d4 := Blk.gets d0;  go_simp; try with_reducible rfl)); (intro K hK; go_simp; refine hK _ _ ?_; clear hK K)) | ((apply w3_pass); (· exact (Kept.drew (Kept.refl _ _))); (· go_simp); (intro K hK; go_simp; refine hK _ _ ?_; clear hK K))))
  have yW : Ext W W.drew := (Kept.refl _ W).drew
  (refine w3_act (fun K hK => ?_); go_simp)
  go_wp2_with fail
  refine (digests_nil _).mono ?_
  rintro e w1 ⟨rfl, rfl⟩
  refine hK.out _ _ (fun _ => yW) ?_
  clear hK K
  (repeat (first | ((apply w3_pure); (· go_simp); (· (intro w1; go_simp; try with_reducible rfl)); (intro K hK; go_simp; refine hK _ _ ?_; clear hK K)) | ((apply w3_skip); (· go_simp); (intro K hK; go_simp; refine hK _ _ ?_; clear hK K))))
  (refine w3_act (fun K hK => ?_); go_simp)
  go_wp2_with fail
  refine (words_nil _).mono ?_
  rintro e w1 ⟨rfl, rfl⟩
  refine hK.out _ _ (fun _ => yW) ?_
  clear hK K
  (repeat (first | ((apply w3_pure); (· go_simp); (· (intro w1; go_simp; try with_reducible rfl)); (intro K hK; go_simp; refine hK _ _ ?_; clear hK K)) | ((apply w3_skip); (· go_simp); (intro K hK; go_simp; refine hK _ _ ?_; clear hK K))))
  (refine w3_act (fun K hK => ?_); go_simp)
  go_wp2_with fail
  refine (words_nil _).mono ?_
  rintro e w1 ⟨rfl, rfl⟩
  refine hK.out _ _ (fun _ => yW) ?_
  clear hK K
  have hR1 := Blk.ext hR0 yW
  have hh1 := Blk.has hR1
  have hm1 := Blk.melts hR1
  (repeat (first | ((apply w3_pure); (· go_simp); (· (intro w1; go_simp; try with_reducible rfl)); (intro K hK; go_simp; refine hK _ _ ?_; clear hK K)) | ((apply w3_skip); (· go_simp); (intro K hK; go_simp; refine hK _ _ ?_; clear hK K)) | (refine w3_end (by kernel_rfl) (fun K hK => ?_); go_simp; refine hK.out _ _ ?_; clear hK K))); refine w3_nil ?_
  go_wp2_with fail
  refine ret_cell Tryz.results45 rfl rfl aggRstep (by exact sizeRstep) (Blk.put_ hR1 _ _) ⟨rfl, ?_⟩
  exact Kept.putAt (hx0.trans yW) _ _ _ (fun h => by omega)
end Go.Proofs.YtahljceanodhkaaGreatDoor

/- What shows a step is small: the plain law. -/
namespace Go.Proofs.YtahljceanodhkaaGreatDoor
open Go.RowKit
def cntR (i : Ins) (h : List UInt8) : Nat → Nat | 0 => 0 | k + 1 => cntR i h k + if skipR i (h.getD k 0) k = true then 0 else 1
theorem readsK_cnt (i : Ins) (h : List UInt8) : ∀ k, (readsK i h k).length ≤ cntR i h k
  | 0 => by simp [readsK]
  | k + 1 => by
    have ih := readsK_cnt i h k
    unfold readsK cntR
    by_cases hs : skipR i (h.getD k 0) k = true
    · rw [if_pos (.inl hs), if_pos hs]; omega
    · rw [if_neg hs]
      split
      · omega
      · rw [List.length_append]; simp; omega
theorem cntR_le (i : Ins) (h : List UInt8) (k : Nat) (hk : k ≤ 3) (hs : skipR i (h.getD 0 0) 0 = true) : cntR i h k ≤ 2 := by
  rcases (by omega : k = 0 ∨ k = 1 ∨ k = 2 ∨ k = 3) with rfl | rfl | rfl | rfl <;> simp only [cntR, hs, if_true] <;> (repeat' split) <;> omega
theorem readsN_two (i : Ins) : (readsN i).length ≤ 2 := by
  unfold readsN
  split
  · have h1 := readsK_cnt i (hasN i.op.toNat) (hasN i.op.toNat).length
    have h2 := hasN_len i.op.toNat
    by_cases h17 : i.op = 17
    · have : cntR i (hasN i.op.toNat) (hasN i.op.toNat).length ≤ 1 := by
        rw [h17]
        show cntR i [119, 110, 110] 3 ≤ 1
        simp [cntR, skipR]
        split <;> omega
      omega
    · have := cntR_le i (hasN i.op.toNat) _ h2 (by simp [skipR, h17])
      omega
  · simp
theorem readsN_one (i : Ins) (h15 : i.op = 15) : (readsN i).length ≤ 1 := by
  unfold readsN
  split
  · have h1 := readsK_cnt i (hasN i.op.toNat) (hasN i.op.toNat).length
    have : cntR i (hasN i.op.toNat) (hasN i.op.toNat).length ≤ 1 := by
      rw [h15]
      show cntR i [119, 119, 119] 3 ≤ 1
      simp [cntR, skipR, h15]
    omega
  · simp
theorem mreads_two (c : List Ins) (pc halt : Int) (m : List Int) : (mreads c pc halt m).1.length ≤ 2 := by
  unfold mreads
  split
  · cases nextI c pc m.length with
    | none => simp
    | some i =>
      show (sortI (mplace i m)).length ≤ 2
      unfold sortI mplace
      rw [List.length_mergeSort]
      split
      · rename_i h
        have := readsN_one i h.1
        simp; omega
      · exact readsN_two i
  · simp
theorem hgt_8 (n : Nat) (h1 : 1 ≤ n) (h2 : n ≤ 256) : hgt n ≤ 8 := by
  have := bitLen_bd 8 (n - 1) (by omega) (by omega)
  unfold hgt
  omega
/-- what is told of the words that are shown -/
structure WordOK (m : List Int) (x : Wl) : Prop where
  lo : 0 ≤ x.at_
  hi : x.at_ < m.length
  is_ : x.is_ = m.getD x.at_.toNat 0
  path : x.path.length = hgt m.length
  digs : ∀ d ∈ x.path, d.ok
theorem showW_ok {m : List Int} {x : Int} (h0 : 0 ≤ x) (h1 : x < m.length) : WordOK m (showW m x) := ⟨h0, h1, rfl, pathT_len _ _ _, pathT_ok _ _ _⟩
structure MakeOK (l : List Ins) (m : List Int) (L : Sl) : Prop where
  reads : ∀ x ∈ L.reads, WordOK m x
  writes : ∀ x ∈ L.writes, WordOK m x
  two : L.reads.length ≤ 2
  one : L.writes.length ≤ 1
  path : L.path.length ≤ hgt l.length
  ok : L.ok
theorem WordOK.i64 {m : List Int} {x : Wl} (h : WordOK m x) (hm : m.length ≤ 256) : i64ok x.at_ := by
  have := h.lo
  have := h.hi
  unfold i64ok
  omega
theorem getD_ok {m : List Int} (h : ∀ z ∈ m, i32ok z) (k : Nat) : i32ok (m.getD k 0) := by
  by_cases hk : k < m.length
  · simp [hk]; exact h _ (List.getElem_mem hk)
  · simp [hk]; unfold i32ok; omega
theorem makeL_ok (l : List Ins) (pc halt : Int) (m : List Int) (hl1 : 1 ≤ l.length) (hr : rightS pc halt m.length = true) (hok : ∀ i ∈ l, i.ok) (hm : ∀ z ∈ m, i32ok z) : MakeOK l m (makeL l pc halt m) := by
  obtain ⟨k1, k2, h3, h4, h5, h6⟩ := rightS_inv hr
  have hat : ∀ (L : Sl), L.pc = pc → L.halt = halt → L.words = m.length → ∀ j, i64ok (L.at j) := fun L e1 e2 e3 j => by
    unfold Sl.at
    split <;> unfold i64ok <;> omega
  have hz : (⟨0, 0, 0, 0⟩ : Ins).ok := ⟨by simp [i64ok], by simp [i64ok], by simp [i64ok], by simp [i64ok]⟩
  have hin := mreads_in l pc halt m
  have h2 := mreads_two l pc halt m
  unfold makeL
  split
  · exact ⟨by simp, by simp, by simp, by simp, by simp, ⟨hat _ rfl rfl rfl, hWord_ok _ _, hz, by simp, by simp, by simp⟩⟩
  · rename_i hst
    have hrd : ∀ x ∈ (mreads l pc halt m).1.map (showW m), WordOK m x := fun x hx => by
      obtain ⟨y, hy, rfl⟩ := List.mem_map.1 hx
      exact showW_ok (hin.1 y hy).1 (hin.1 y hy).2
    have hwr : ∀ x ∈ (if 0 ≤ (mreads l pc halt m).2 then [showW m (mreads l pc halt m).2] else []), WordOK m x := fun x hx => by
      split at hx
      · rename_i h0
        simp at hx
        subst hx
        exact showW_ok h0 hin.2.1
      · simp at hx
    have hw : ∀ x, WordOK m x → i64ok x.at_ ∧ i32ok x.is_ ∧ ∀ d ∈ x.path, d.ok := fun x h => ⟨h.i64 (by omega), by rw [h.is_]; exact getD_ok hm _, h.digs⟩
    refine ⟨hrd, hwr, by simpa using h2, by simp only; split <;> simp, by simp [pathT_len], ⟨hat _ rfl rfl rfl, hWord_ok _ _, ?_, pathT_ok _ _ _, fun x hx => hw x (hrd x hx), fun x hx => hw x (hwr x hx)⟩⟩
    have hpl : pc.toNat < l.length := by omega
    simp [hpl]
    exact hok _ (List.getElem_mem hpl)
theorem wordB_small {m : List Int} {x : Wl} (h : WordOK m x) (h1 : 1 ≤ m.length) (hm : m.length ≤ 256) (h3 : i32ok x.is_) : (wordB x).length ≤ 102 := by
  have q1 := pathK_len (l := x.path) (by rw [h.path]; have := hgt_8 _ h1 hm; omega) h.digs x.path.length (Nat.le_refl _)
  have q2 := vfold_len (h.i64 hm)
  have q3 := vfold_len (i32_64 h3)
  have q4 := hgt_8 _ h1 hm
  have q5 := h.path
  simp only [wordB, List.length_append, pathB]
  omega
theorem wordsK_small {l : List Wl} {B : Nat} (hl : l.length ≤ 1000) (h : ∀ x ∈ l, (wordB x).length ≤ B) : ∀ j, j ≤ l.length → (wordsK l j).length ≤ 2 + B * j
  | 0, _ => by unfold wordsK; exact vint_len 2 _ (by omega) (by omega)
  | j + 1, hj => by
    have ih := wordsK_small hl h j (by omega)
    have hjl : j < l.length := by omega
    have h2 := h _ (List.getElem_mem hjl)
    unfold wordsK
    rw [List.length_append, Nat.mul_add]
    simp [hjl]
    omega
theorem encB_small {l : List Ins} {m : List Int} {L : Sl} (h : MakeOK l m L) (h1 : 1 ≤ m.length) (hm : m.length ≤ 256) (h2 : 1 ≤ l.length) (hl : l.length ≤ 200) : mayL L = true ∧ (encB L).length ≤ 600 := by
  have e1 := hgt_8 _ h1 hm
  have e2 := hgt_8 _ h2 (by omega)
  have e3 := h.path
  have e4 := h.two
  have e5 := h.one
  have a1 : ∀ x ∈ L.reads, x.path.length ≤ 12 := fun x hx => by rw [(h.reads x hx).path]; omega
  have a2 : ∀ x ∈ L.writes, x.path.length ≤ 12 := fun x hx => by rw [(h.writes x hx).path]; omega
  constructor
  · simp [mayL]
    exact ⟨⟨⟨by omega, by omega⟩, by omega⟩, a1, a2⟩
  · have q1 := headK_len h.ok 3
    have q2 := vint_len 10 (numN L.mem) (by have := (numD_bd h.ok.mem).2; omega) (by omega)
    have q3 := (instrB_len h.ok.ins).2
    have q4 := pathK_len (l := L.path) (by omega) h.ok.digs L.path.length (Nat.le_refl _)
    have q5 := wordsK_small (l := L.reads) (B := 102) (by omega) (fun x hx => wordB_small (h.reads x hx) h1 hm (h.ok.reads x hx).2.1) L.reads.length (Nat.le_refl _)
    have q6 := wordsK_small (l := L.writes) (B := 102) (by omega) (fun x hx => wordB_small (h.writes x hx) h1 hm (h.ok.writes x hx).2.1) L.writes.length (Nat.le_refl _)
    simp only [encB, List.length_append, pathB, wordsB]
    omega
end Go.Proofs.YtahljceanodhkaaGreatDoor
