/- Several texts joined: Wk, Wm, Xa, Za, Xe, Ya, Yb. -/
import Derived.Lib.AppendZeros
import Derived.Test.YtahljceanodhkaaGreatDoorTeh
/- Package witness: Make. -/
namespace Go.Proofs.YtahljceanodhkaaGreatDoor
open Go.RowKit
theorem TreeOK.above {w w' : World} {base p : Nat} {l : List Dg} (h : TreeOK w base p l) (hk : Kept (fun i => w.heap.size ≤ i) w w') : TreeOK w' base p l := by
  obtain ⟨cg, cc, f, G, h⟩ := h
  have h1 := h.blk.lt
  have h2 := h.cgl
  exact ⟨cg, cc, f, G, Blk.kept h.blk hk (by omega), h.f0, own_kept h.own hk (fun g hg => by simp [Value.ownBlock] at hg; omega), h.fl, fun u hu => Blk.kept (h.lv u hu) hk (by have := (h.lv u hu).lt; omega), h.inj, h.far, h.bp, h.pc⟩
theorem step_not {w : World} {g : Nat} {cs : Array Value} {E E' : TypeId} (h : Blk w g E cs) (hE : ¬ E = E') : ∀ cur fr, ¬ w.heap[g]? = some (.cells cur E' fr) := fun cur fr e => by
  rw [h] at e
  injection e with e
  injection e with _ e _
  exact hE e
theorem makeL_go {l : List Ins} {x n : Nat} {m : List Int} (hl : (l.length : Int) = n) (h : (x : Int) < n) : makeL l x 0 m = ⟨x, 0, m.length, memR m, l.getD x ⟨0, 0, 0, 0⟩, pathT (l.map ileaf) (hgt l.length) x, (mreads l x 0 m).1.map (showW m), if 0 ≤ (mreads l x 0 m).2 then [showW m (mreads l x 0 m).2] else []⟩ := by
  unfold makeL
  rw [if_neg (by omega)]
  rfl
/-- a step and no error handed back -/
def IsStep (w w' : World) (e : Ending) (L : Sl) : Prop := ∃ s : Ws, e = .returned (.tuple #[.agg s.cells, .int .i64 0]) ∧ StepV w' s L ∧ Ext w w'
set_option maxRecDepth 100000 in
set_option maxHeartbeats 4000000 in
theorem make_go (A : Option Addr) (b off cap : Nat) (l : List Ins) (n : Nat) (hn : n = l.length) (h2 : n ≤ 2048) (hok : ∀ i ∈ l, i.ok) (hA : 0 < n → A = some ⟨b, off, none⟩)
    (x : Nat) (b' off' cap' : Nat) (m : List Int) (k : Nat) (hk : k = m.length) (hg : rightS x 0 k = true) (hxn : x < n) (hmok : ∀ z ∈ m, i32ok z) (w : World) (hops : OpsAt w) (hr : 0 < n → Row w b off (inss l)) (hr' : Row w b' off' (mems m)) :
    Calls Tryz.prog 36 #[.slice A n cap, .agg (stCells x (some ⟨b', off', none⟩) k cap' 0)] w fun e w' => IsStep w w' e (makeL l x 0 m) := by
  have h1 : 1 ≤ n := by omega
  have hA' : 0 < k → some (⟨b', off', none⟩ : Addr) = some ⟨b', off', none⟩ := fun _ => rfl
  have HOPS := Lib.hid hops
  have HMOK := Lib.hid hmok
  have hrr : RunPre w A b off n l b' off' k x 0 m := ⟨hops, hA, hr, hn, h2, hk, hg, hmok, hr'⟩
  have HRR := Lib.hid hrr
  have hr'' : 0 < k → Row w b' off' (mems m) := fun _ => hr'
  clear hops hmok hrr hr'
  obtain ⟨k1, k2, h3, h4, h5, h6⟩ := rightS_inv hg
  have HG := Lib.hid hg
  have HN := Lib.hid hn
  have HO := Lib.hid hok
  have HA := Lib.hid hA
  have HR := Lib.hid hr
  have HKn := Lib.hid hk
  have HA' := Lib.hid hA'
  have HR' := Lib.hid hr''
  clear hn hA hr hg hok hk hA' hr''
  obtain ⟨M, hM⟩ : ∃ M, M = memR m := ⟨_, rfl⟩
  have HM := Lib.hid hM
  clear hM
  have hx0 : Ext w _ := ((Kept.refl _ w).alloc (.cells (stCells x (some ⟨b', off', none⟩) k cap' 0) 70)).alloc (.cells zeroW 45)
  have hA0 : Blk _ w.heap.size 70 (stCells x (some ⟨b', off', none⟩) k cap' 0) := Blk.alloc (Blk.new w _ _) (.cells zeroW 45)
  have hR0 : Blk _ (w.heap.size + 1) 45 zeroW := Blk.new' (w.alloc (.cells (stCells x (some ⟨b', off', none⟩) k cap' 0) 70)) _ _ _ (by simp)
  go_enter Tryz.func36, Tryz.ntmps36
  go_wp2_with fail
  refine (codetree_ok A b off cap l n HN.out h1 h2 HO.out HA.out _ (fun h => (HR.out h).ext hx0)).mono ?_
  rintro e w1 ⟨p, rfl, ht, hx1⟩
  have hA1 := Blk.ext hA0 hx1
  have hR1 := Blk.ext hR0 hx1
  have hc1 := Blk.cell hA1
  have y1 := hx0.trans hx1
  clear hx0 hx1 hA0 hR0
  go_wp2_with fail
  refine (memtree_ok x 0 (some ⟨b', off', none⟩) b' off' cap' m k HKn.out HG.out (fun _ => rfl) _ (fun h => (HR'.out h).ext y1)).mono ?_
  rintro e w2 ⟨q, rfl, hq, hx2⟩
  have hA2 := Blk.ext hA1 hx2
  have hR2 := Blk.ext hR1 hx2
  have y2 := y1.trans hx2
  have hP2 := Blk.new w2 126 #[.pointer (some ⟨q, 0, none⟩)]
  have hx3 := (Kept.refl (fun _ => False) w2).alloc (.cells #[.pointer (some ⟨q, 0, none⟩)] 126)
  have hA3 := Blk.ext hA2 hx3
  have hR3 := Blk.ext hR2 hx3
  have hq3 := hq.ext hx3
  have y3 := y2.trans hx3
  clear hc1
  go_wp2_with fail
  generalize (w2.alloc (.cells #[.pointer (some ⟨q, 0, none⟩)] 126)) = W at hP2 hA3 hR3 hq3 y3 hx3 ⊢
  have hlA := Blk.lt hA3
  have hlR := Blk.lt hR3
  have hlP := Blk.lt hP2
  generalize w2.heap.size = h2s at hP2 hlP ⊢
  have ht3 := ht.ext (hx2.trans hx3)
  clear hA2 hR2 hA1 hR1 hx3 hq ht y1 y2 hx2
  refine wp_region_4 (fun w2 => Ext W w2) (.op 0 2 (.op 1 1 (.op 2 2 (.op 3 1 (.op 4 2 (.op 5 1 (.op 6 2 (.op 7 1 (.fork 8 (.op 9 2 (.op 10 0 (.op 11 0 .nil))) 10 (.op 8 0 (.op 9 2 (.op 11 0 .nil)))))))))))) (by kernel_rfl) (by kernel_rfl) (by kernel_rfl) (by kernel_rfl) ?_; intro p' hp'; simp only [Pl0.fill, List.getD_cons_zero, List.getD_cons_succ] at hp'; subst hp'
  (repeat (first | ((apply w4_pure); (· go_simp); (· (intro w1; go_simp; try with_reducible rfl)); (intro K hK; go_simp; refine hK _ _ ?_; clear hK K)) | ((apply w4_skip); (· go_simp); (intro K hK; go_simp; refine hK _ _ ?_; clear hK K)) | ((apply w4_take); (· exact (Kept.drew (Kept.refl _ _))); (· go_simp); (· (intro w1 hS; have d1 := Blk.cell (Blk.ext hA3 hS); have d2 := Blk.cell (Blk.ext hP2 hS);  go_simp; try with_reducible rfl)); (intro K hK; go_simp; refine hK _ _ ?_; clear hK K)) | ((apply w4_pass); (· exact (Kept.drew (Kept.refl _ _))); (· go_simp); (intro K hK; go_simp; refine hK _ _ ?_; clear hK K))))
  have y : Ext W W.drew := (Kept.refl _ W).drew
  refine w4_fork ?_ ?_
  · (refine w4_act (fun K hK => ?_); go_simp)
    go_wp2_with fail
    refine (troot_tree _ q (m.map leafW) _ (by rw [List.length_map, ← HKn.out]; exact k1) (by rw [List.length_map, ← HKn.out]; omega) (hq3.ext y)).mono ?_
    rintro e w4 ⟨e4, hx4⟩
    replace e4 : e = .returned (.agg M.cells) := by rw [e4, HM.out]; rfl
    subst e4
    have y4 : Ext W w4 := y.trans hx4
    refine hK.out _ _ (fun _ => y4) ?_
    clear hK K
    (repeat (first | ((apply w4_pure); (· go_simp); (· (intro w1; go_simp; try with_reducible rfl)); (intro K hK; go_simp; refine hK _ _ ?_; clear hK K)) | ((apply w4_skip); (· go_simp); (intro K hK; go_simp; refine hK _ _ ?_; clear hK K))))
    (refine w4_act (fun K hK => ?_); go_simp)
    refine hK.out _ _ (fun _ => y4.alloc _) ?_
    clear hK K
    (repeat (first | ((apply w4_pure); (· go_simp); (· (intro w1; go_simp; try with_reducible rfl)); (intro K hK; go_simp; refine hK _ _ ?_; clear hK K)) | ((apply w4_skip); (· go_simp); (intro K hK; go_simp; refine hK _ _ ?_; clear hK K)) | (refine w4_end (by kernel_rfl) (fun K hK => ?_); go_simp; refine hK.out _ _ ?_; clear hK K))); refine w4_nil ?_
    have hA5 := Blk.ext hA3 (y4.alloc (.cells (bareC x 0 k M) 45))
    have hR5 := Blk.ext hR3 (y4.alloc (.cells (bareC x 0 k M) 45))
    have y5 := y3.trans (y4.alloc (.cells (bareC x 0 k M) 45))
    have xW := y4.alloc (.cells (bareC x 0 k M) 45)
    have hP5 := Blk.ext hP2 (y4.alloc (.cells (bareC x 0 k M) 45))
    have hlW := y4.size
    have hN5 := Blk.new w4 45 (bareC x 0 k M)
    have hl5 := Blk.lt hN5
    generalize (w4.alloc (.cells (bareC x 0 k M) 45)) = W5 at hA5 hR5 y5 hN5 hl5 xW hP5 ⊢
    generalize w4.heap.size = c9 at hN5 hl5 hlW ⊢
    have hc5 := Blk.cell hA5
    have hh5 := Blk.has hR5
    have hm5 := Blk.melts hR5
    have hh6 := Blk.has hN5
    have hg6 := Blk.gets hN5
    have hcA : ¬ w.heap.size = c9 := by omega
    have hcR : ¬ w.heap.size + 1 = c9 := by omega
    have hcP : ¬ h2s = c9 := by omega
    have bx : decide ((n : Int) ≤ x) = false := by simp; omega
    have bx' : decide (n ≤ x) = false := by simp; omega
    have hxI : (x : Int) < n := by omega
    have hxl : x < l.length := by have := HN.out; omega
    have hlow := y5.size
    have hrowC := (HR.out h1).ext y5
    obtain rfl := HA.out h1
    obtain ⟨a1, a2⟩ := hrowC.ins x hxl
    have lC := hrowC.lt
    obtain ⟨i, hi⟩ : ∃ i, i = l[x] := ⟨_, rfl⟩
    rw [← hi] at a2
    have HI := Lib.hid hi
    clear hi
    have j1 := Blk.has hN5
    have j2 := Blk.melts hN5
    have lA5 := hA5.lt
    clear hh5 hm5 hh6 hg6
    go_upto_region 11 with (fail)
    have hA6 := Blk.putFar hA5 hcA 11 i.cells
    have hR6 := Blk.putFar hR5 hcR 11 i.cells
    have hP6 := Blk.putFar hP5 hcP 11 i.cells
    have hN6 : Blk (putAt W5 c9 11 i.cells) c9 45 (Ws.cells ⟨x, 0, k, M, i, none, 0, 0, none, 0, 0, none, 0, 0⟩) := Blk.put_ hN5 11 i.cells
    have y6 : Ext w (putAt W5 c9 11 i.cells) := Kept.putAt y5 _ _ _ (fun h => by omega)
    have kW : Kept (fun i => W.heap.size ≤ i) W (putAt W5 c9 11 i.cells) := Kept.putAt (Kept.ext xW) _ _ _ (fun _ => hlW)
    have ht6 := ht3.above kW
    clear hA5 hR5 hP5 hN5 y5 xW a1 a2 j1 j2 hc5
    generalize (putAt W5 c9 11 i.cells) = W6 at hA6 hR6 hP6 hN6 y6 kW ht6 ⊢
    have hcA6 := Blk.cell hA6
    have lA6 := hA6.lt
    go_wp2_with fail
    refine (tpath_ok _ p (l.map ileaf) x _ (by rw [List.length_map, ← HN.out]; exact h1) (by rw [List.length_map, ← HN.out]; omega) (by rw [List.length_map, ← HN.out]; exact hxn) ht6).mono ?_
    rintro e w7 ⟨v7, rfl, ho7, hx7⟩
    obtain ⟨pA, pk, rfl, hpv⟩ := PathV.of_own ho7 (pathT_ok _ _ _)
    obtain ⟨Hh, hHh⟩ : ∃ Hh, hgt (l.map ileaf).length = Hh := ⟨_, rfl⟩
    rw [hHh] at hpv ⊢
    have HHH := Lib.hid hHh
    have hA7 := Blk.ext hA6 hx7
    have hR7 := Blk.ext hR6 hx7
    have hP7 := Blk.ext hP6 hx7
    have hN7 := Blk.ext hN6 hx7
    have y7 := y6.trans hx7
    have k7 := kW.trans (Kept.ext hx7)
    have hc7 := Blk.cell hN7
    have hf7 := Blk.frozen hN7
    have lN6 := hN6.lt
    clear hA6 hR6 hP6 hN6 y6 kW ht6 hcA6 hHh ho7
    obtain ⟨U, hU⟩ : ∃ U, U = Value.slice pA Hh pk := ⟨_, rfl⟩
    have hA8 := Blk.far hA7 (p := ⟨c9, 15, none⟩) hcA U
    have hR8 := Blk.far hR7 (p := ⟨c9, 15, none⟩) hcR U
    have hP8 := Blk.far hP7 (p := ⟨c9, 15, none⟩) hcP U
    have hN8 : Blk (w7.setCell ⟨c9, 15, none⟩ U) c9 45 (Ws.cells ⟨x, 0, k, M, i, pA, Hh, pk, none, 0, 0, none, 0, 0⟩) := by rw [hU]; exact Blk.set_ hN7 15 (.slice pA Hh pk)
    have y8 : Ext w (w7.setCell ⟨c9, 15, none⟩ U) := Kept.setCell y7 ⟨c9, 15, none⟩ _ (fun h => by have : c9 < w.heap.size := h; omega)
    have k8 : Kept (fun i => W.heap.size ≤ i) W (w7.setCell ⟨c9, 15, none⟩ U) := Kept.setCell k7 ⟨c9, 15, none⟩ _ (fun _ => hlW)
    have hNtc : ∀ cur fr, ¬ w7.heap[c9]? = some (.cells cur 30 fr) := fun cur fr e => by
      rw [hN7] at e
      injection e with e
      injection e with _ e _
      exact absurd e (by decide)
    have hpv8 : PathV (w7.setCell ⟨c9, 15, none⟩ U) pA Hh _ := hpv.kept (Kept.setCell (S := (· = c9)) (Kept.refl _ w7) ⟨c9, 15, none⟩ U (fun _ => rfl)) (fun j hj => by subst hj; exact hNtc)
    have hmf : ∀ (fn : Fn) (first cap : Array Value) (w : World), (Instr.makeFunc fn first cap).run Tryz.prog w = .ok (.func fn first cap) w := fun _ _ _ _ => rfl
    go_upto_region 15 with (fail)
    rw [← hU]
    clear hc7 hf7 hA7 hR7 hP7 hN7 y7 k7 hpv hNtc hmf
    generalize (w7.setCell ⟨c9, 15, none⟩ U) = W8 at hA8 hR8 hP8 hN8 y8 k8 hpv8 ⊢
    clear hU
    have i1 := Blk.has hA8
    have i2 := Blk.gets hA8
    have lA8 := hA8.lt
    go_wp2_with fail
    obtain ⟨R, hR⟩ : ∃ R, R = mreads l x 0 m := ⟨_, rfl⟩
    have hRin := mreads_in l x 0 m
    rw [← hR, ← HKn.out] at hRin
    have HRn := Lib.hid hR
    have HRin := Lib.hid hRin
    clear hR hRin
    refine (mreads_any (some ⟨b, off, none⟩) b off n cap l x 0 b' off' k cap' m _ (HRR.out.ext y8)).mono ?_
    rintro e w9 ⟨v9, e9, ho9, hx9⟩
    rw [← HRn.out] at e9 ho9
    obtain ⟨rl, rw9⟩ := R
    simp only at e9 ho9
    subst e9
    have hA9 := Blk.ext hA8 hx9
    have hR9 := Blk.ext hR8 hx9
    have hP9 := Blk.ext hP8 hx9
    have hN9 := Blk.ext hN8 hx9
    have y9 := y8.trans hx9
    have k9 := k8.trans (Kept.ext hx9)
    have hpv9 := hpv8.ext hx9
    clear i1 i2 hA8 hR8 hP8 hN8 y8 k8 hpv8 hx9
    go_wp2_with fail
    refine (shown_any v9 _ rl.length rl h2s w.heap.size q x 0 b' off' k cap' m _ _ ho9 (by have := HRin.out.2.2; omega) HRin.out.1 HKn.out k1 k2 (hq3.above k9) hP9 hA9 ((HR'.out k1).ext y9)).mono ?_
    rintro e w10 ⟨wA, wn, wc, rfl, hws, hx10⟩
    have hA10 := Blk.ext hA9 hx10
    have hR10 := Blk.ext hR9 hx10
    have hP10 := Blk.ext hP9 hx10
    have hN10 := Blk.ext hN9 hx10
    have y10 := y9.trans hx10
    have k10 := k9.trans (Kept.ext hx10)
    have hpv10 := hpv9.ext hx10
    have hc10 := Blk.cell hN10
    have hf10 := Blk.frozen hN10
    have lN := hN10.lt
    clear hA9 hR9 hP9 hN9 y9 k9 hpv9 hx10 ho9
    have hA11 := Blk.far hA10 (p := ⟨c9, 16, none⟩) hcA (.slice wA wn wc)
    have hR11 := Blk.far hR10 (p := ⟨c9, 16, none⟩) hcR (.slice wA wn wc)
    have hP11 := Blk.far hP10 (p := ⟨c9, 16, none⟩) hcP (.slice wA wn wc)
    have hN11 : Blk (w10.setCell ⟨c9, 16, none⟩ (.slice wA wn wc)) c9 45 (Ws.cells ⟨x, 0, k, M, i, pA, Hh, pk, wA, wn, wc, none, 0, 0⟩) := Blk.set_ hN10 16 (.slice wA wn wc)
    have y11 : Ext w (w10.setCell ⟨c9, 16, none⟩ (.slice wA wn wc)) := Kept.setCell y10 ⟨c9, 16, none⟩ _ (fun h => by have : c9 < w.heap.size := h; omega)
    have k11 : Kept (fun i => W.heap.size ≤ i) W (w10.setCell ⟨c9, 16, none⟩ (.slice wA wn wc)) := Kept.setCell k10 ⟨c9, 16, none⟩ _ (fun _ => hlW)
    have kc11 : Kept (· = c9) w10 (w10.setCell ⟨c9, 16, none⟩ (.slice wA wn wc)) := Kept.setCell (Kept.refl _ w10) ⟨c9, 16, none⟩ _ (fun _ => rfl)
    have hpv11 := hpv10.kept kc11 (fun j hj => by subst hj; exact step_not hN10 (by decide))
    have hws11 := hws.kept kc11 (fun j hj => by subst hj; exact step_not hN10 (by decide)) (fun j hj => by subst hj; exact step_not hN10 (by decide))
    go_upto_region 17 with (fail)
    clear hA10 hR10 hP10 hN10 y10 k10 hpv10 hc10 hf10 hws kc11
    generalize (w10.setCell ⟨c9, 16, none⟩ (.slice wA wn wc)) = W11 at hA11 hR11 hP11 hN11 y11 k11 hpv11 hws11 ⊢
    have lN11 := hN11.lt
    have lR11 := hR11.lt
    by_cases hw0 : 0 ≤ rw9
    · have bw0 : decide (0 ≤ rw9) = true := by simpa using hw0
      have hwl : rw9 < k := HRin.out.2.1
      have x12 := (Kept.refl (fun _ => False) W11).alloc (.cells #[.int .i64 rw9] 3)
      have hV12 := Blk.new W11 3 #[.int .i64 rw9]
      have ho12 : (W11.alloc (.cells #[.int .i64 rw9] 3)).ownsRow W11.heap.size 3 1 (.slice (some ⟨W11.heap.size, 0, none⟩) 1 1) 1 (ints [rw9]) := ⟨rfl, .inr ⟨W11.heap.size, 1, #[.int .i64 rw9], rfl, Nat.le_refl _, hV12, Nat.le_refl _, by unfold maxLen; omega, rfl, rfl⟩⟩
      have hA12 := Blk.ext hA11 x12
      have hR12 := Blk.ext hR11 x12
      have hP12 := Blk.ext hP11 x12
      have hN12 := Blk.ext hN11 x12
      have y12 := y11.trans x12
      have k12 := k11.trans (Kept.ext x12)
      have hpv12 := hpv11.ext x12
      have hws12 := hws11.ext x12
      clear hA11 hR11 hP11 hN11 y11 k11 hpv11 hws11 x12 hV12
      go_wp2_with fail
      refine (shown_any (.slice (some ⟨W11.heap.size, 0, none⟩) 1 1) _ 1 [rw9] h2s w.heap.size q x 0 b' off' k cap' m _ _ ho12 (by omega) (fun z hz => by simp at hz; subst hz; exact ⟨hw0, hwl⟩) HKn.out k1 k2 (hq3.above k12) hP12 hA12 ((HR'.out k1).ext y12)).mono ?_
      rintro e w13 ⟨zA, zn, zc, rfl, hzs, hx13⟩
      have hR13 := Blk.ext hR12 hx13
      have hN13 := Blk.ext hN12 hx13
      have y13 := y12.trans hx13
      have hpv13 := hpv12.ext hx13
      have hws13 := hws12.ext hx13
      have hc13 := Blk.cell hN13
      have hf13 := Blk.frozen hN13
      have lN13 := hN13.lt
      clear hA12 hR12 hP12 hN12 y12 k12 hpv12 hws12 hx13 ho12
      have hR14 := Blk.far hR13 (p := ⟨c9, 17, none⟩) hcR (.slice zA zn zc)
      have hN14 : Blk (w13.setCell ⟨c9, 17, none⟩ (.slice zA zn zc)) c9 45 (Ws.cells ⟨x, 0, k, M, i, pA, Hh, pk, wA, wn, wc, zA, zn, zc⟩) := Blk.set_ hN13 17 (.slice zA zn zc)
      have y14 : Ext w (w13.setCell ⟨c9, 17, none⟩ (.slice zA zn zc)) := Kept.setCell y13 ⟨c9, 17, none⟩ _ (fun h => by have : c9 < w.heap.size := h; omega)
      have kc14 : Kept (· = c9) w13 (w13.setCell ⟨c9, 17, none⟩ (.slice zA zn zc)) := Kept.setCell (Kept.refl _ w13) ⟨c9, 17, none⟩ _ (fun _ => rfl)
      have hpv14 := hpv13.kept kc14 (fun j hj => by subst hj; exact step_not hN13 (by decide))
      have hws14 := hws13.kept kc14 (fun j hj => by subst hj; exact step_not hN13 (by decide)) (fun j hj => by subst hj; exact step_not hN13 (by decide))
      have hzs14 := hzs.kept kc14 (fun j hj => by subst hj; exact step_not hN13 (by decide)) (fun j hj => by subst hj; exact step_not hN13 (by decide))
      go_upto_region 19 with (fail)
      clear hR13 hN13 y13 hpv13 hws13 hc13 hf13 kc14 hzs
      generalize (w13.setCell ⟨c9, 17, none⟩ (.slice zA zn zc)) = W14 at hR14 hN14 y14 hpv14 hws14 hzs14 ⊢
      have lN14 := hN14.lt
      have lR14 := hR14.lt
      have i1 := Blk.has hN14
      have i2 := Blk.gets hN14
      have i3 := Blk.has hR14
      have i4 := Blk.melts hR14
      go_wp2_with fail
      refine ret_ci Tryz.results36 rfl rfl aggStep (by exact sizeStep) (Blk.put_ hR14 _ _) ⟨⟨x, 0, k, M, i, pA, Hh, pk, wA, wn, wc, zA, zn, zc⟩, rfl, ?_, Kept.putAt y14 _ _ _ (fun h => by omega)⟩
      have kf : Kept (· = w.heap.size + 1) W14 _ := Kept.putAt (Kept.refl _ W14) (w.heap.size + 1) 0 (Ws.cells ⟨x, 0, k, M, i, pA, Hh, pk, wA, wn, wc, zA, zn, zc⟩) (fun _ => rfl)
      rw [makeL_go (show (l.length : Int) = n by rw [HN.out]) hxI]
      refine ⟨rfl, rfl, by rw [HKn.out], HM.out, by simp [HI.out, hxl], ?_, ?_, ?_⟩
      · have := hpv14.kept kf (fun j hj => by subst hj; exact step_not hR14 (by decide))
        have e := HHH.out
        rw [List.length_map] at e
        rw [e]
        exact this
      · have := hws14.kept kf (fun j hj => by subst hj; exact step_not hR14 (by decide)) (fun j hj => by subst hj; exact step_not hR14 (by decide))
        rw [← HRn.out]; exact this
      · have := hzs14.kept kf (fun j hj => by subst hj; exact step_not hR14 (by decide)) (fun j hj => by subst hj; exact step_not hR14 (by decide))
        rw [← HRn.out]; simp only; rw [if_pos (by omega)]; exact this
    · have bw0 : decide (0 ≤ rw9) = false := by simpa using hw0
      have i1 := Blk.has hN11
      have i2 := Blk.gets hN11
      have i3 := Blk.has hR11
      have i4 := Blk.melts hR11
      go_wp2_with fail
      refine ret_ci Tryz.results36 rfl rfl aggStep (by exact sizeStep) (Blk.put_ hR11 _ _) ⟨⟨x, 0, k, M, i, pA, Hh, pk, wA, wn, wc, none, 0, 0⟩, rfl, ?_, Kept.putAt y11 _ _ _ (fun h => by omega)⟩
      have kf : Kept (· = w.heap.size + 1) W11 _ := Kept.putAt (Kept.refl _ W11) (w.heap.size + 1) 0 (Ws.cells ⟨x, 0, k, M, i, pA, Hh, pk, wA, wn, wc, none, 0, 0⟩) (fun _ => rfl)
      rw [makeL_go (show (l.length : Int) = n by rw [HN.out]) hxI]
      refine ⟨rfl, rfl, by rw [HKn.out], HM.out, by simp [HI.out, hxl], ?_, ?_, ?_⟩
      · have := hpv11.kept kf (fun j hj => by subst hj; exact step_not hR11 (by decide))
        have e := HHH.out
        rw [List.length_map] at e
        rw [e]
        exact this
      · have := hws11.kept kf (fun j hj => by subst hj; exact step_not hR11 (by decide)) (fun j hj => by subst hj; exact step_not hR11 (by decide))
        rw [← HRn.out]; exact this
      · rw [← HRn.out]; simp only; rw [if_neg (by omega)]; exact WordsS.none _
  · (refine w4_act (fun K hK => ?_); go_simp)
    refine hK.out _ _ (fun _ => y.alloc _) ?_
    clear hK K
    (repeat (first | ((apply w4_pure); (· go_simp); (· (intro w1; go_simp; try with_reducible rfl)); (intro K hK; go_simp; refine hK _ _ ?_; clear hK K)) | ((apply w4_skip); (· go_simp); (intro K hK; go_simp; refine hK _ _ ?_; clear hK K))))
    (refine w4_act (fun K hK => ?_); go_simp)
    go_wp2_with fail
    refine (troot_tree _ q (m.map leafW) _ (by rw [List.length_map, ← HKn.out]; exact k1) (by rw [List.length_map, ← HKn.out]; omega) (hq3.ext (y.alloc _))).mono ?_
    rintro e w4 ⟨e4, hx4⟩
    replace e4 : e = .returned (.agg M.cells) := by rw [e4, HM.out]; rfl
    subst e4
    have y4 : Ext W w4 := (y.alloc _).trans hx4
    refine hK.out _ _ (fun _ => y4) ?_
    clear hK K
    have hN4 : Blk w4 W.heap.size 45 zeroW := Blk.ext (Blk.new W.drew 45 zeroW) hx4
    have hh4 := Blk.has hN4
    have hm4 := Blk.melts hN4
    have hl4 := Blk.lt hN4
    (repeat (first | ((apply w4_pure); (· go_simp); (· (intro w1; go_simp; try with_reducible rfl)); (intro K hK; go_simp; refine hK _ _ ?_; clear hK K)) | ((apply w4_skip); (· go_simp); (intro K hK; go_simp; refine hK _ _ ?_; clear hK K)) | (refine w4_end (by kernel_rfl) (fun K hK => ?_); go_simp; refine hK.out _ _ ?_; clear hK K))); refine w4_nil ?_
    have yp : Ext W (putAt w4 W.heap.size 0 (bareC x 0 k M)) := Kept.putAt y4 _ _ _ (fun h => by omega)
    have hA5 := Blk.ext hA3 yp
    have hR5 := Blk.ext hR3 yp
    have y5 := y3.trans yp
    have xW := yp
    have hP5 := Blk.ext hP2 yp
    have hN5 : Blk (putAt w4 W.heap.size 0 (bareC x 0 k M)) W.heap.size 45 (bareC x 0 k M) := Blk.put_ hN4 _ _
    have hl5 := Blk.lt hN5
    generalize (putAt w4 W.heap.size 0 (bareC x 0 k M)) = W5 at hA5 hR5 y5 hN5 hl5 xW hP5 ⊢
    generalize hgen : W.heap.size = c9 at hN5 hl5 ⊢
    have hlW : W.heap.size ≤ c9 := by omega
    clear hgen
    have hc5 := Blk.cell hA5
    have hh5 := Blk.has hR5
    have hm5 := Blk.melts hR5
    have hh6 := Blk.has hN5
    have hg6 := Blk.gets hN5
    have hcA : ¬ w.heap.size = c9 := by omega
    have hcR : ¬ w.heap.size + 1 = c9 := by omega
    have hcP : ¬ h2s = c9 := by omega
    have bx : decide ((n : Int) ≤ x) = false := by simp; omega
    have bx' : decide (n ≤ x) = false := by simp; omega
    have hxI : (x : Int) < n := by omega
    have hxl : x < l.length := by have := HN.out; omega
    have hlow := y5.size
    have hrowC := (HR.out h1).ext y5
    obtain rfl := HA.out h1
    obtain ⟨a1, a2⟩ := hrowC.ins x hxl
    have lC := hrowC.lt
    obtain ⟨i, hi⟩ : ∃ i, i = l[x] := ⟨_, rfl⟩
    rw [← hi] at a2
    have HI := Lib.hid hi
    clear hi
    have j1 := Blk.has hN5
    have j2 := Blk.melts hN5
    have lA5 := hA5.lt
    clear hh5 hm5 hh6 hg6
    go_upto_region 11 with (fail)
    have hA6 := Blk.putFar hA5 hcA 11 i.cells
    have hR6 := Blk.putFar hR5 hcR 11 i.cells
    have hP6 := Blk.putFar hP5 hcP 11 i.cells
    have hN6 : Blk (putAt W5 c9 11 i.cells) c9 45 (Ws.cells ⟨x, 0, k, M, i, none, 0, 0, none, 0, 0, none, 0, 0⟩) := Blk.put_ hN5 11 i.cells
    have y6 : Ext w (putAt W5 c9 11 i.cells) := Kept.putAt y5 _ _ _ (fun h => by omega)
    have kW : Kept (fun i => W.heap.size ≤ i) W (putAt W5 c9 11 i.cells) := Kept.putAt (Kept.ext xW) _ _ _ (fun _ => hlW)
    have ht6 := ht3.above kW
    clear hA5 hR5 hP5 hN5 y5 xW a1 a2 j1 j2 hc5
    generalize (putAt W5 c9 11 i.cells) = W6 at hA6 hR6 hP6 hN6 y6 kW ht6 ⊢
    have hcA6 := Blk.cell hA6
    have lA6 := hA6.lt
    go_wp2_with fail
    refine (tpath_ok _ p (l.map ileaf) x _ (by rw [List.length_map, ← HN.out]; exact h1) (by rw [List.length_map, ← HN.out]; omega) (by rw [List.length_map, ← HN.out]; exact hxn) ht6).mono ?_
    rintro e w7 ⟨v7, rfl, ho7, hx7⟩
    obtain ⟨pA, pk, rfl, hpv⟩ := PathV.of_own ho7 (pathT_ok _ _ _)
    obtain ⟨Hh, hHh⟩ : ∃ Hh, hgt (l.map ileaf).length = Hh := ⟨_, rfl⟩
    rw [hHh] at hpv ⊢
    have HHH := Lib.hid hHh
    have hA7 := Blk.ext hA6 hx7
    have hR7 := Blk.ext hR6 hx7
    have hP7 := Blk.ext hP6 hx7
    have hN7 := Blk.ext hN6 hx7
    have y7 := y6.trans hx7
    have k7 := kW.trans (Kept.ext hx7)
    have hc7 := Blk.cell hN7
    have hf7 := Blk.frozen hN7
    have lN6 := hN6.lt
    clear hA6 hR6 hP6 hN6 y6 kW ht6 hcA6 hHh ho7
    obtain ⟨U, hU⟩ : ∃ U, U = Value.slice pA Hh pk := ⟨_, rfl⟩
    have hA8 := Blk.far hA7 (p := ⟨c9, 15, none⟩) hcA U
    have hR8 := Blk.far hR7 (p := ⟨c9, 15, none⟩) hcR U
    have hP8 := Blk.far hP7 (p := ⟨c9, 15, none⟩) hcP U
    have hN8 : Blk (w7.setCell ⟨c9, 15, none⟩ U) c9 45 (Ws.cells ⟨x, 0, k, M, i, pA, Hh, pk, none, 0, 0, none, 0, 0⟩) := by rw [hU]; exact Blk.set_ hN7 15 (.slice pA Hh pk)
    have y8 : Ext w (w7.setCell ⟨c9, 15, none⟩ U) := Kept.setCell y7 ⟨c9, 15, none⟩ _ (fun h => by have : c9 < w.heap.size := h; omega)
    have k8 : Kept (fun i => W.heap.size ≤ i) W (w7.setCell ⟨c9, 15, none⟩ U) := Kept.setCell k7 ⟨c9, 15, none⟩ _ (fun _ => hlW)
    have hNtc : ∀ cur fr, ¬ w7.heap[c9]? = some (.cells cur 30 fr) := fun cur fr e => by
      rw [hN7] at e
      injection e with e
      injection e with _ e _
      exact absurd e (by decide)
    have hpv8 : PathV (w7.setCell ⟨c9, 15, none⟩ U) pA Hh _ := hpv.kept (Kept.setCell (S := (· = c9)) (Kept.refl _ w7) ⟨c9, 15, none⟩ U (fun _ => rfl)) (fun j hj => by subst hj; exact hNtc)
    have hmf : ∀ (fn : Fn) (first cap : Array Value) (w : World), (Instr.makeFunc fn first cap).run Tryz.prog w = .ok (.func fn first cap) w := fun _ _ _ _ => rfl
    go_upto_region 15 with (fail)
    rw [← hU]
    clear hc7 hf7 hA7 hR7 hP7 hN7 y7 k7 hpv hNtc hmf
    generalize (w7.setCell ⟨c9, 15, none⟩ U) = W8 at hA8 hR8 hP8 hN8 y8 k8 hpv8 ⊢
    clear hU
    have i1 := Blk.has hA8
    have i2 := Blk.gets hA8
    have lA8 := hA8.lt
    go_wp2_with fail
    obtain ⟨R, hR⟩ : ∃ R, R = mreads l x 0 m := ⟨_, rfl⟩
    have hRin := mreads_in l x 0 m
    rw [← hR, ← HKn.out] at hRin
    have HRn := Lib.hid hR
    have HRin := Lib.hid hRin
    clear hR hRin
    refine (mreads_any (some ⟨b, off, none⟩) b off n cap l x 0 b' off' k cap' m _ (HRR.out.ext y8)).mono ?_
    rintro e w9 ⟨v9, e9, ho9, hx9⟩
    rw [← HRn.out] at e9 ho9
    obtain ⟨rl, rw9⟩ := R
    simp only at e9 ho9
    subst e9
    have hA9 := Blk.ext hA8 hx9
    have hR9 := Blk.ext hR8 hx9
    have hP9 := Blk.ext hP8 hx9
    have hN9 := Blk.ext hN8 hx9
    have y9 := y8.trans hx9
    have k9 := k8.trans (Kept.ext hx9)
    have hpv9 := hpv8.ext hx9
    clear i1 i2 hA8 hR8 hP8 hN8 y8 k8 hpv8 hx9
    go_wp2_with fail
    refine (shown_any v9 _ rl.length rl h2s w.heap.size q x 0 b' off' k cap' m _ _ ho9 (by have := HRin.out.2.2; omega) HRin.out.1 HKn.out k1 k2 (hq3.above k9) hP9 hA9 ((HR'.out k1).ext y9)).mono ?_
    rintro e w10 ⟨wA, wn, wc, rfl, hws, hx10⟩
    have hA10 := Blk.ext hA9 hx10
    have hR10 := Blk.ext hR9 hx10
    have hP10 := Blk.ext hP9 hx10
    have hN10 := Blk.ext hN9 hx10
    have y10 := y9.trans hx10
    have k10 := k9.trans (Kept.ext hx10)
    have hpv10 := hpv9.ext hx10
    have hc10 := Blk.cell hN10
    have hf10 := Blk.frozen hN10
    have lN := hN10.lt
    clear hA9 hR9 hP9 hN9 y9 k9 hpv9 hx10 ho9
    have hA11 := Blk.far hA10 (p := ⟨c9, 16, none⟩) hcA (.slice wA wn wc)
    have hR11 := Blk.far hR10 (p := ⟨c9, 16, none⟩) hcR (.slice wA wn wc)
    have hP11 := Blk.far hP10 (p := ⟨c9, 16, none⟩) hcP (.slice wA wn wc)
    have hN11 : Blk (w10.setCell ⟨c9, 16, none⟩ (.slice wA wn wc)) c9 45 (Ws.cells ⟨x, 0, k, M, i, pA, Hh, pk, wA, wn, wc, none, 0, 0⟩) := Blk.set_ hN10 16 (.slice wA wn wc)
    have y11 : Ext w (w10.setCell ⟨c9, 16, none⟩ (.slice wA wn wc)) := Kept.setCell y10 ⟨c9, 16, none⟩ _ (fun h => by have : c9 < w.heap.size := h; omega)
    have k11 : Kept (fun i => W.heap.size ≤ i) W (w10.setCell ⟨c9, 16, none⟩ (.slice wA wn wc)) := Kept.setCell k10 ⟨c9, 16, none⟩ _ (fun _ => hlW)
    have kc11 : Kept (· = c9) w10 (w10.setCell ⟨c9, 16, none⟩ (.slice wA wn wc)) := Kept.setCell (Kept.refl _ w10) ⟨c9, 16, none⟩ _ (fun _ => rfl)
    have hpv11 := hpv10.kept kc11 (fun j hj => by subst hj; exact step_not hN10 (by decide))
    have hws11 := hws.kept kc11 (fun j hj => by subst hj; exact step_not hN10 (by decide)) (fun j hj => by subst hj; exact step_not hN10 (by decide))
    go_upto_region 17 with (fail)
    clear hA10 hR10 hP10 hN10 y10 k10 hpv10 hc10 hf10 hws kc11
    generalize (w10.setCell ⟨c9, 16, none⟩ (.slice wA wn wc)) = W11 at hA11 hR11 hP11 hN11 y11 k11 hpv11 hws11 ⊢
    have lN11 := hN11.lt
    have lR11 := hR11.lt
    by_cases hw0 : 0 ≤ rw9
    · have bw0 : decide (0 ≤ rw9) = true := by simpa using hw0
      have hwl : rw9 < k := HRin.out.2.1
      have x12 := (Kept.refl (fun _ => False) W11).alloc (.cells #[.int .i64 rw9] 3)
      have hV12 := Blk.new W11 3 #[.int .i64 rw9]
      have ho12 : (W11.alloc (.cells #[.int .i64 rw9] 3)).ownsRow W11.heap.size 3 1 (.slice (some ⟨W11.heap.size, 0, none⟩) 1 1) 1 (ints [rw9]) := ⟨rfl, .inr ⟨W11.heap.size, 1, #[.int .i64 rw9], rfl, Nat.le_refl _, hV12, Nat.le_refl _, by unfold maxLen; omega, rfl, rfl⟩⟩
      have hA12 := Blk.ext hA11 x12
      have hR12 := Blk.ext hR11 x12
      have hP12 := Blk.ext hP11 x12
      have hN12 := Blk.ext hN11 x12
      have y12 := y11.trans x12
      have k12 := k11.trans (Kept.ext x12)
      have hpv12 := hpv11.ext x12
      have hws12 := hws11.ext x12
      clear hA11 hR11 hP11 hN11 y11 k11 hpv11 hws11 x12 hV12
      go_wp2_with fail
      refine (shown_any (.slice (some ⟨W11.heap.size, 0, none⟩) 1 1) _ 1 [rw9] h2s w.heap.size q x 0 b' off' k cap' m _ _ ho12 (by omega) (fun z hz => by simp at hz; subst hz; exact ⟨hw0, hwl⟩) HKn.out k1 k2 (hq3.above k12) hP12 hA12 ((HR'.out k1).ext y12)).mono ?_
      rintro e w13 ⟨zA, zn, zc, rfl, hzs, hx13⟩
      have hR13 := Blk.ext hR12 hx13
      have hN13 := Blk.ext hN12 hx13
      have y13 := y12.trans hx13
      have hpv13 := hpv12.ext hx13
      have hws13 := hws12.ext hx13
      have hc13 := Blk.cell hN13
      have hf13 := Blk.frozen hN13
      have lN13 := hN13.lt
      clear hA12 hR12 hP12 hN12 y12 k12 hpv12 hws12 hx13 ho12
      have hR14 := Blk.far hR13 (p := ⟨c9, 17, none⟩) hcR (.slice zA zn zc)
      have hN14 : Blk (w13.setCell ⟨c9, 17, none⟩ (.slice zA zn zc)) c9 45 (Ws.cells ⟨x, 0, k, M, i, pA, Hh, pk, wA, wn, wc, zA, zn, zc⟩) := Blk.set_ hN13 17 (.slice zA zn zc)
      have y14 : Ext w (w13.setCell ⟨c9, 17, none⟩ (.slice zA zn zc)) := Kept.setCell y13 ⟨c9, 17, none⟩ _ (fun h => by have : c9 < w.heap.size := h; omega)
      have kc14 : Kept (· = c9) w13 (w13.setCell ⟨c9, 17, none⟩ (.slice zA zn zc)) := Kept.setCell (Kept.refl _ w13) ⟨c9, 17, none⟩ _ (fun _ => rfl)
      have hpv14 := hpv13.kept kc14 (fun j hj => by subst hj; exact step_not hN13 (by decide))
      have hws14 := hws13.kept kc14 (fun j hj => by subst hj; exact step_not hN13 (by decide)) (fun j hj => by subst hj; exact step_not hN13 (by decide))
      have hzs14 := hzs.kept kc14 (fun j hj => by subst hj; exact step_not hN13 (by decide)) (fun j hj => by subst hj; exact step_not hN13 (by decide))
      go_upto_region 19 with (fail)
      clear hR13 hN13 y13 hpv13 hws13 hc13 hf13 kc14 hzs
      generalize (w13.setCell ⟨c9, 17, none⟩ (.slice zA zn zc)) = W14 at hR14 hN14 y14 hpv14 hws14 hzs14 ⊢
      have lN14 := hN14.lt
      have lR14 := hR14.lt
      have i1 := Blk.has hN14
      have i2 := Blk.gets hN14
      have i3 := Blk.has hR14
      have i4 := Blk.melts hR14
      go_wp2_with fail
      refine ret_ci Tryz.results36 rfl rfl aggStep (by exact sizeStep) (Blk.put_ hR14 _ _) ⟨⟨x, 0, k, M, i, pA, Hh, pk, wA, wn, wc, zA, zn, zc⟩, rfl, ?_, Kept.putAt y14 _ _ _ (fun h => by omega)⟩
      have kf : Kept (· = w.heap.size + 1) W14 _ := Kept.putAt (Kept.refl _ W14) (w.heap.size + 1) 0 (Ws.cells ⟨x, 0, k, M, i, pA, Hh, pk, wA, wn, wc, zA, zn, zc⟩) (fun _ => rfl)
      rw [makeL_go (show (l.length : Int) = n by rw [HN.out]) hxI]
      refine ⟨rfl, rfl, by rw [HKn.out], HM.out, by simp [HI.out, hxl], ?_, ?_, ?_⟩
      · have := hpv14.kept kf (fun j hj => by subst hj; exact step_not hR14 (by decide))
        have e := HHH.out
        rw [List.length_map] at e
        rw [e]
        exact this
      · have := hws14.kept kf (fun j hj => by subst hj; exact step_not hR14 (by decide)) (fun j hj => by subst hj; exact step_not hR14 (by decide))
        rw [← HRn.out]; exact this
      · have := hzs14.kept kf (fun j hj => by subst hj; exact step_not hR14 (by decide)) (fun j hj => by subst hj; exact step_not hR14 (by decide))
        rw [← HRn.out]; simp only; rw [if_pos (by omega)]; exact this
    · have bw0 : decide (0 ≤ rw9) = false := by simpa using hw0
      have i1 := Blk.has hN11
      have i2 := Blk.gets hN11
      have i3 := Blk.has hR11
      have i4 := Blk.melts hR11
      go_wp2_with fail
      refine ret_ci Tryz.results36 rfl rfl aggStep (by exact sizeStep) (Blk.put_ hR11 _ _) ⟨⟨x, 0, k, M, i, pA, Hh, pk, wA, wn, wc, none, 0, 0⟩, rfl, ?_, Kept.putAt y11 _ _ _ (fun h => by omega)⟩
      have kf : Kept (· = w.heap.size + 1) W11 _ := Kept.putAt (Kept.refl _ W11) (w.heap.size + 1) 0 (Ws.cells ⟨x, 0, k, M, i, pA, Hh, pk, wA, wn, wc, none, 0, 0⟩) (fun _ => rfl)
      rw [makeL_go (show (l.length : Int) = n by rw [HN.out]) hxI]
      refine ⟨rfl, rfl, by rw [HKn.out], HM.out, by simp [HI.out, hxl], ?_, ?_, ?_⟩
      · have := hpv11.kept kf (fun j hj => by subst hj; exact step_not hR11 (by decide))
        have e := HHH.out
        rw [List.length_map] at e
        rw [e]
        exact this
      · have := hws11.kept kf (fun j hj => by subst hj; exact step_not hR11 (by decide)) (fun j hj => by subst hj; exact step_not hR11 (by decide))
        rw [← HRn.out]; exact this
      · rw [← HRn.out]; simp only; rw [if_neg (by omega)]; exact WordsS.none _
end Go.Proofs.YtahljceanodhkaaGreatDoor

/- Make, whole. -/
namespace Go.Proofs.YtahljceanodhkaaGreatDoor
open Go.RowKit
/-- an empty step and an error handed back -/
def NoStep (w w' : World) (e : Ending) : Prop := e = .returned (.tuple #[.agg zeroW, .int .i64 2]) ∧ Ext w w'
set_option maxRecDepth 100000 in
set_option maxHeartbeats 1000000 in
theorem make_nocode (A : Option Addr) (cap n : Nat) (h : n < 1 ∨ 2048 < n) (pc halt : Int) (A' : Option Addr) (k cap' : Nat) (w : World) :
    Calls Tryz.prog 36 #[.slice A n cap, .agg (stCells pc A' k cap' halt)] w fun e w' => NoStep w w' e := by
  have HH := Lib.hid h
  clear h
  have hx0 : Ext w _ := ((Kept.refl _ w).alloc (.cells (stCells pc A' k cap' halt) 70)).alloc (.cells zeroW 45)
  have hR0 : Blk _ (w.heap.size + 1) 45 zeroW := Blk.new' (w.alloc (.cells (stCells pc A' k cap' halt) 70)) _ _ _ (by simp)
  have hh := Blk.has hR0
  have hm := Blk.melts hR0
  go_enter Tryz.func36, Tryz.ntmps36
  go_wp2_with fail
  refine (codetree_no A cap n HH.out _).mono ?_
  rintro e w1 ⟨rfl, rfl⟩
  go_wp2_with fail
  refine ret_ci Tryz.results36 rfl rfl aggStep (by exact sizeStep) hR0 ⟨rfl, hx0⟩
set_option maxRecDepth 100000 in
set_option maxHeartbeats 1000000 in
theorem make_nomem (A : Option Addr) (b off cap : Nat) (l : List Ins) (n : Nat) (hn : n = l.length) (h1 : 1 ≤ n) (h2 : n ≤ 2048) (hok : ∀ i ∈ l, i.ok) (hA : 0 < n → A = some ⟨b, off, none⟩)
    (pc halt : Int) (A' : Option Addr) (k cap' : Nat) (hg : rightS pc halt k = false) (w : World) (hr : 0 < n → Row w b off (inss l)) :
    Calls Tryz.prog 36 #[.slice A n cap, .agg (stCells pc A' k cap' halt)] w fun e w' => NoStep w w' e := by
  have HG := Lib.hid hg
  have HN := Lib.hid hn
  have HO := Lib.hid hok
  have HA := Lib.hid hA
  have HR := Lib.hid hr
  clear hn hA hr hg hok
  have hx0 : Ext w _ := ((Kept.refl _ w).alloc (.cells (stCells pc A' k cap' halt) 70)).alloc (.cells zeroW 45)
  have hA0 : Blk _ w.heap.size 70 (stCells pc A' k cap' halt) := Blk.alloc (Blk.new w _ _) (.cells zeroW 45)
  have hR0 : Blk _ (w.heap.size + 1) 45 zeroW := Blk.new' (w.alloc (.cells (stCells pc A' k cap' halt) 70)) _ _ _ (by simp)
  go_enter Tryz.func36, Tryz.ntmps36
  go_wp2_with fail
  refine (codetree_ok A b off cap l n HN.out h1 h2 HO.out HA.out _ (fun h => (HR.out h).ext hx0)).mono ?_
  rintro e w1 ⟨p, rfl, ht, hx1⟩
  have hA1 := Blk.ext hA0 hx1
  have hR1 := Blk.ext hR0 hx1
  have hc1 := Blk.cell hA1
  have y1 := hx0.trans hx1
  clear hx0 hx1 hA0 hR0 ht
  go_wp2_with fail
  refine (memtree_no pc halt A' cap' k HG.out _).mono ?_
  rintro e w2 ⟨rfl, hx2⟩
  have hR2 := Blk.ext hR1 hx2
  have y2 := y1.trans hx2
  have hx3 := (Kept.refl (fun _ => False) w2).alloc (.cells #[.pointer none] 126)
  have hR3 := Blk.ext hR2 hx3
  have hh := Blk.has hR3
  have hm := Blk.melts hR3
  have y3 := y2.trans hx3
  clear hc1
  go_wp2_with fail
  refine ret_ci Tryz.results36 rfl rfl aggStep (by exact sizeStep) (Blk.put_ hR3 _ _) ⟨rfl, ?_⟩
  exact Kept.putAt y3 _ _ _ (fun h => by omega)
theorem make_ok (A : Option Addr) (b off cap : Nat) (l : List Ins) (n : Nat) (hn : n = l.length) (h1 : 1 ≤ n) (h2 : n ≤ 2048) (hok : ∀ i ∈ l, i.ok) (hA : 0 < n → A = some ⟨b, off, none⟩)
    (pc halt : Int) (A' : Option Addr) (b' off' cap' : Nat) (m : List Int) (k : Nat) (hk : k = m.length) (hg : rightS pc halt k = true) (hA' : 0 < k → A' = some ⟨b', off', none⟩) (hmok : ∀ z ∈ m, i32ok z) (w : World) (hops : OpsAt w) (hr : 0 < n → Row w b off (inss l)) (hr' : 0 < k → Row w b' off' (mems m)) :
    Calls Tryz.prog 36 #[.slice A n cap, .agg (stCells pc A' k cap' halt)] w fun e w' => IsStep w w' e (makeL l pc halt m) := by
  by_cases hst : ¬ halt = 0 ∨ (n : Int) ≤ pc
  · refine (make_stays A b off cap l n hn h1 h2 hok hA pc halt A' b' off' cap' m k hk hg hA' hst w hr hr').mono ?_
    rintro e w' ⟨rfl, hx⟩
    refine ⟨bareStep pc halt m, rfl, ?_, hx⟩
    unfold makeL
    rw [if_pos (by rw [← hn]; exact hst)]
    exact ⟨rfl, rfl, rfl, rfl, rfl, PathV.none _, WordsS.none _, WordsS.none _⟩
  · obtain ⟨k1, k2, h3, h4, h5, h6⟩ := rightS_inv hg
    obtain ⟨x, rfl⟩ : ∃ x : Nat, pc = x := ⟨pc.toNat, by omega⟩
    obtain rfl : halt = 0 := by omega
    obtain rfl := hA' k1
    exact make_go A b off cap l n hn h2 hok hA x b' off' cap' m k hk hg (by omega) hmok w hops hr (hr' k1)
end Go.Proofs.YtahljceanodhkaaGreatDoor

/- A step seen by its own words alone: the plain law. -/
namespace Go.Proofs.YtahljceanodhkaaGreatDoor
open Go.RowKit
theorem getX_ok {m : List Int} (h : ∀ z ∈ m, i32ok z) (k : Nat) : i32ok (m.getD k 0) := by
  by_cases hk : k < m.length
  · simp [hk]; exact h _ (List.getElem_mem hk)
  · simp [hk]; unfold i32ok; omega
theorem readsK_sub {i : Ins} {h : List UInt8} {x : Int} {k : Nat} (hx : x ∈ readsK i h k) : x ∈ readsK i h (k + 1) := by
  unfold readsK
  split
  · exact hx
  · exact List.mem_append_left _ hx
theorem readsK_mem {i : Ins} {h : List UInt8} {k : Nat} (hs : skipR i (h.getD k 0) k = false) : ∀ n, k < n → nth3 i k ∈ readsK i h n
  | 0, hn => by omega
  | n + 1, hn => by
    by_cases hk : k < n
    · exact readsK_sub (readsK_mem hs n hk)
    · obtain rfl : k = n := by omega
      unfold readsK
      by_cases hc : (readsK i h k).contains (nth3 i k) = true
      · rw [if_pos (.inr hc)]; simpa using hc
      · rw [if_neg (fun f => f.elim (fun f => by rw [hs] at f; cases f) hc)]
        simp
theorem op_nat {i : Ins} (h : isOp i.op = true) : ∃ k : Nat, k < 22 ∧ i.op = k := by
  simp [isOp] at h
  exact ⟨i.op.toNat, by omega, by omega⟩
theorem reads_b {i : Ins} {k : Nat} (hk : i.op = k) (h : k = 2 ∨ k = 14 ∨ k = 16 ∨ k = 18 ∨ k = 20 ∨ k = 21 ∨ (3 ≤ k ∧ k ≤ 13)) : i.b ∈ readsN i := by
  have ho : isOp i.op = true := by simp [isOp]; omega
  unfold readsN
  rw [if_pos ho, hk]
  have := fun h' hs hl => readsK_mem (i := i) (h := h') (k := 1) hs h'.length hl
  rcases h with rfl | rfl | rfl | rfl | rfl | rfl | ⟨h1, h2⟩
  iterate 6 exact this _ (by simp [skipR, hk, hasN]) (by simp [hasN])
  rcases (by omega : k = 3 ∨ k = 4 ∨ k = 5 ∨ k = 6 ∨ k = 7 ∨ k = 8 ∨ k = 9 ∨ k = 10 ∨ k = 11 ∨ k = 12 ∨ k = 13) with rfl | rfl | rfl | rfl | rfl | rfl | rfl | rfl | rfl | rfl | rfl <;> exact this _ (by simp [skipR, hk, hasN]) (by simp [hasN])
theorem reads_c {i : Ins} {k : Nat} (hk : i.op = k) (h : k = 15 ∨ k = 16 ∨ (3 ≤ k ∧ k ≤ 13)) : i.c ∈ readsN i := by
  have ho : isOp i.op = true := by simp [isOp]; omega
  unfold readsN
  rw [if_pos ho, hk]
  have := fun h' hs hl => readsK_mem (i := i) (h := h') (k := 2) hs h'.length hl
  rcases h with rfl | rfl | ⟨h1, h2⟩
  iterate 2 exact this _ (by simp [skipR, hasN]) (by simp [hasN])
  rcases (by omega : k = 3 ∨ k = 4 ∨ k = 5 ∨ k = 6 ∨ k = 7 ∨ k = 8 ∨ k = 9 ∨ k = 10 ∨ k = 11 ∨ k = 12 ∨ k = 13) with rfl | rfl | rfl | rfl | rfl | rfl | rfl | rfl | rfl | rfl | rfl <;> exact this _ (by simp [skipR, hasN]) (by simp [hasN])
theorem reads_a {i : Ins} (hk : i.op = 17) : i.a ∈ readsN i := by
  have ho : isOp i.op = true := by simp [isOp]; omega
  unfold readsN
  rw [if_pos ho, hk]
  exact readsK_mem (i := i) (h := hasN 17) (k := 0) (by simp [skipR, hk, hasN]) _ (by simp [hasN])
/-- two memories that agree where an instruction reads -/
structure Agree (i : Ins) (m m' : List Int) : Prop where
  len : m'.length = m.length
  at_ : ∀ x ∈ mplace i m, mget m' x = mget m x
theorem mplace_sub {i : Ins} {m : List Int} {x : Int} (h : x ∈ readsN i) : x ∈ mplace i m := by
  unfold mplace
  split
  · exact List.mem_append_left _ h
  · exact h
theorem Agree.reads {i : Ins} {m m' : List Int} (h : Agree i m m') {x : Int} (hx : x ∈ readsN i) : mget m' x = mget m x := h.at_ x (mplace_sub hx)
theorem Agree.far {i : Ins} {m m' : List Int} (h : Agree i m m') : farI i m' = farI i m := by
  unfold farI
  by_cases h15 : i.op = 15
  · have := h.reads (reads_c (k := 15) h15 (by simp))
    unfold mget at this
    rw [if_pos h15, if_pos h15, this, h.len]
  · rw [if_neg h15, if_neg h15]
    by_cases h16 : i.op = 16
    · have := h.reads (reads_b (k := 16) h16 (by simp))
      unfold mget at this
      rw [if_pos h16, if_pos h16, this, h.len]
    · rw [if_neg h16, if_neg h16]
theorem Agree.place {i : Ins} {m m' : List Int} (h : Agree i m m') : mplace i m' = mplace i m := by unfold mplace; rw [h.far]
theorem Agree.writes {i : Ins} {m m' : List Int} (h : Agree i m m') : mwrites i m' = mwrites i m := by unfold mwrites; rw [h.far]
theorem Agree.lost {i : Ins} {m m' : List Int} (h : Agree i m m') : lost i m' = lost i m := by unfold Proofs.YtahljceanodhkaaGreatDoor.lost; rw [h.far]
theorem writesN_of {i : Ins} {k : Nat} (hk : i.op = k) (hlt : k < 22) : writesN i = if k = 0 ∨ k = 16 ∨ k = 19 ∨ k = 20 ∨ k = 21 then -1 else i.a := by
  have ho : isOp i.op = true := by simp [isOp]; omega
  have hn : i.op.toNat = k := by omega
  unfold writesN hasI
  rw [if_pos ho, hn]
  rcases (by omega : k = 0 ∨ k = 1 ∨ k = 2 ∨ k = 3 ∨ k = 4 ∨ k = 5 ∨ k = 6 ∨ k = 7 ∨ k = 8 ∨ k = 9 ∨ k = 10 ∨ k = 11 ∨ k = 12 ∨ k = 13 ∨ k = 14 ∨ k = 15 ∨ k = 16 ∨ k = 17 ∨ k = 18 ∨ k = 19 ∨ k = 20 ∨ k = 21) with rfl | rfl | rfl | rfl | rfl | rfl | rfl | rfl | rfl | rfl | rfl | rfl | rfl | rfl | rfl | rfl | rfl | rfl | rfl | rfl | rfl | rfl <;> simp [hk, hasS, hasN, Lib.hasPrefix]
/-- a memory behind a step: what is written, if anything -/
def upd (x v : Int) (m : List Int) : List Int := if 0 ≤ x then mput m x v else m
theorem exec_agree {i : Ins} {m m' : List Int} (pc size : Int) (hr : rightI i size m.length = true) (h : Agree i m m') (hl : lost i m = false) :
    ∃ p hh v, execI i pc m = (p, hh, upd (mwrites i m) v m) ∧ execI i pc m' = (p, hh, upd (mwrites i m) v m') := by
  obtain ⟨h0, h22, ha, hb, hc, _⟩ := rightI_parts hr
  obtain ⟨k, hk, hop⟩ := op_nat (i := i) (by simp [isOp]; omega)
  have hn : i.op.toNat = k := by omega
  have hw := writesN_of hop hk
  have ef := h.far
  rw [hn] at ha
  have hneg : upd (-1) = fun _ m => m := by funext v m; simp [upd]
  have hpos : ∀ {x : Int}, 0 ≤ x → ∀ v m, upd x v m = mput m x v := fun hx v m => if_pos hx
  have hwa : (k = 1 ∨ k = 2 ∨ k = 14 ∨ k = 15 ∨ k = 17 ∨ k = 18 ∨ (3 ≤ k ∧ k ≤ 13)) → 0 ≤ i.a := fun hh => by
    have h1 : (hasN k)[0]? = some 119 := by
      rcases hh with rfl | rfl | rfl | rfl | rfl | rfl | ⟨h1, h2⟩
      iterate 6 rfl
      rcases (by omega : k = 3 ∨ k = 4 ∨ k = 5 ∨ k = 6 ∨ k = 7 ∨ k = 8 ∨ k = 9 ∨ k = 10 ∨ k = 11 ∨ k = 12 ∨ k = 13) with rfl | rfl | rfl | rfl | rfl | rfl | rfl | rfl | rfl | rfl | rfl <;> rfl
    exact (okP_w h1 ha).1
  have hmw : ¬ k = 15 → ¬ k = 16 → mwrites i m = writesN i := fun e1 e2 => by
    unfold mwrites
    rw [if_neg (by omega), if_neg (by omega)]
  by_cases e0 : k = 0
  · subst e0; exact ⟨pc, 1 + i.a, 0, by simp [execI, hop, hmw, hw, hneg], by simp [execI, hop, hmw, hw, hneg]⟩
  by_cases e1 : k = 1
  · subst e1; exact ⟨pc + 1, 0, i.b, by simp [execI, hop, hmw, hw, hpos (hwa (by simp))], by simp [execI, hop, hmw, hw, hpos (hwa (by simp))]⟩
  by_cases e2 : k = 2
  · subst e2
    have q := h.reads (reads_b hop (by simp))
    exact ⟨pc + 1, 0, mget m i.b, by simp [execI, hop, hmw, hw, hpos (hwa (by simp))], by simp [execI, hop, hmw, hw, hpos (hwa (by simp)), q]⟩
  by_cases e14 : k = 14
  · subst e14
    have q := h.reads (reads_b hop (by simp))
    exact ⟨pc + 1, 0, truthI (mget m i.b == 0), by simp [execI, hop, hmw, hw, hpos (hwa (by simp))], by simp [execI, hop, hmw, hw, hpos (hwa (by simp)), q]⟩
  by_cases e15 : k = 15
  · subst e15
    have hf : 0 ≤ farI i m := by simp [lost, hop] at hl; exact hl
    have hmw' : mwrites i m = i.a := by unfold mwrites; rw [if_neg (by omega), if_neg (by omega), hw]; simp
    have q : mget m' (farI i m) = mget m (farI i m) := h.at_ _ (by
      unfold mplace
      split
      · simp
      · rename_i hc
        by_cases hcc : (readsN i).contains (farI i m) = true
        · simpa using hcc
        · exact absurd ⟨hop, hf, by simpa using hcc⟩ hc)
    exact ⟨pc + 1, 0, mget m (farI i m), by simp [execI, hop, hmw', hpos (hwa (by simp))], by simp [execI, hop, hmw', hpos (hwa (by simp)), ef, q]⟩
  by_cases e16 : k = 16
  · subst e16
    have hf : 0 ≤ farI i m := by simp [lost, hop] at hl; exact hl
    have hmw' : mwrites i m = farI i m := by unfold mwrites; rw [if_pos (by omega)]
    have q := h.reads (reads_c hop (by simp))
    exact ⟨pc + 1, 0, mget m i.c, by simp [execI, hop, hmw', hpos hf], by simp [execI, hop, hmw', hpos hf, ef, q]⟩
  by_cases e17 : k = 17
  · subst e17
    have q := h.reads (reads_a hop)
    exact ⟨pc + 1, 0, min (max (mget m i.a) i.b) i.c, by simp [execI, hop, hmw, hw, hpos (hwa (by simp))], by simp [execI, hop, hmw, hw, hpos (hwa (by simp)), q]⟩
  by_cases e18 : k = 18
  · subst e18
    have q := h.reads (reads_b hop (by simp))
    exact ⟨pc + 1, 0, truthI (decide (0 ≤ mget m i.b) && decide (mget m i.b < i.c)), by simp [execI, hop, hmw, hw, hpos (hwa (by simp))], by simp [execI, hop, hmw, hw, hpos (hwa (by simp)), q]⟩
  by_cases e19 : k = 19
  · subst e19; exact ⟨i.a, 0, 0, by simp [execI, hop, hmw, hw, hneg], by simp [execI, hop, hmw, hw, hneg]⟩
  by_cases e20 : k = 20
  · subst e20
    have q := h.reads (reads_b hop (by simp))
    exact ⟨if mget m i.b = 0 then i.a else pc + 1, 0, 0, by simp [execI, hop, hmw, hw, hneg], by simp [execI, hop, hmw, hw, hneg, q]⟩
  by_cases e21 : k = 21
  · subst e21
    have q := h.reads (reads_b hop (by simp))
    exact ⟨if mget m i.b = 0 then pc + 1 else i.a, 0, 0, by simp [execI, hop, hmw, hw, hneg], by simp [execI, hop, hmw, hw, hneg, q]⟩
  have h3 : 3 ≤ k ∧ k ≤ 13 := by omega
  have q1 := h.reads (reads_b hop (by omega))
  have q2 := h.reads (reads_c hop (by omega))
  have hwv : writesN i = i.a := by rw [hw, if_neg (by omega)]
  have hex : ∀ m, execI i pc m = (pc + 1, 0, mput m i.a (twoI i.op.toNat (mget m i.b) (mget m i.c))) := fun m => by
    unfold execI
    iterate 11 rw [if_neg (by omega)]
  exact ⟨pc + 1, 0, twoI i.op.toNat (mget m i.b) (mget m i.c), by rw [hex, hmw e15 e16, hwv, hpos (hwa (by omega))], by rw [hex, hmw e15 e16, hwv, hpos (hwa (by omega)), q1, q2]⟩
/-- a step by its own words -/
theorem step_sparse {l c' : List Ins} {pc : Int} {m m' : List Int} {i : Ins} (hn : nextI l pc m.length = some i) (hc : c'.length = l.length) (hci : c'[pc.toNat]? = l[pc.toNat]?) (hlen : m'.length = m.length) (hag : ∀ x ∈ (mreads l pc 0 m).1, mget m' x = mget m x) :
    mreads c' pc 0 m' = mreads l pc 0 m ∧ ∃ p hh v, stepI l pc m = (p, hh, upd (mreads l pc 0 m).2 v m) ∧ stepI c' pc m' = (p, hh, upd (mreads l pc 0 m).2 v m') := by
  have hn' : nextI c' pc m'.length = some i := by
    unfold nextI at hn ⊢
    rw [hci, hlen, hc]
    exact hn
  have hr : rightI i l.length m.length = true := by
    unfold nextI at hn
    split at hn
    · split at hn
      · injection hn with hn; subst hn; assumption
      · cases hn
    · cases hn
  have hm : mreads l pc 0 m = (sortI (mplace i m), mwrites i m) := by simp only [mreads, hn]; rfl
  have hA : Agree i m m' := ⟨hlen, fun x hx => hag x (by rw [hm]; show x ∈ sortI _; unfold sortI; exact List.mem_mergeSort.2 hx)⟩
  have hm' : mreads c' pc 0 m' = (sortI (mplace i m'), mwrites i m') := by simp only [mreads, hn']; rfl
  refine ⟨by rw [hm', hm, hA.place, hA.writes], ?_⟩
  rw [hm]
  unfold stepI
  rw [hn, hn']
  simp only [hA.lost]
  by_cases hl : lost i m = true
  · rw [if_pos hl, if_pos hl]
    have hw : mwrites i m < 0 := by
      simp [lost] at hl
      unfold mwrites
      rcases hl.2 with h15 | h16
      · rw [if_neg (by omega), if_pos ⟨h15, hl.1⟩]; omega
      · rw [if_pos h16]; exact hl.1
    exact ⟨pc, 2, 0, by simp only [upd]; rw [if_neg (by omega)], by simp only [upd]; rw [if_neg (by omega)]⟩
  · rw [if_neg hl, if_neg hl]
    exact exec_agree pc _ hr hA (by simpa using hl)
/-- the sparse memory -/
def spars (m : List Int) (rs : List Int) (a : List Int) : List Int := rs.foldl (fun a x => mput a x (mget m x)) a
theorem spars_len (m : List Int) : ∀ (rs a : List Int), (spars m rs a).length = a.length
  | [], a => rfl
  | x :: rs, a => by show (spars m rs _).length = _; rw [spars_len m rs]; simp [mput]
theorem mget_mput {m : List Int} {x y v : Int} (hx : 0 ≤ x) (hy : 0 ≤ y) (hl : x < m.length) : mget (mput m x v) y = if y = x then v else mget m y := by
  unfold mget mput
  by_cases h : y = x
  · subst h
    rw [if_pos rfl]
    simp [show y.toNat < m.length by omega]
  · rw [if_neg h]
    simp only [List.getD_eq_getElem?_getD]
    rw [List.getElem?_set_ne (by omega)]
theorem spars_get (m : List Int) : ∀ (rs a : List Int) (_ : ∀ x ∈ rs, 0 ≤ x ∧ x < a.length) (y : Int) (_ : 0 ≤ y), mget (spars m rs a) y = if y ∈ rs then mget m y else mget a y
  | [], a, _, y, _ => by simp [spars]
  | x :: rs, a, h, y, hy => by
    have hx := h x (by simp)
    show mget (spars m rs (mput a x (mget m x))) y = _
    rw [spars_get m rs _ (fun z hz => by have := h z (by simp [hz]); simpa [mput] using this) y hy, mget_mput hx.1 hy hx.2]
    by_cases e : y = x
    · subst e; simp
    · simp [e]
theorem spars_snoc (m : List Int) (rs : List Int) (x : Int) (a : List Int) : spars m (rs ++ [x]) a = mput (spars m rs a) x (mget m x) := by simp [spars]
/-- a path does not tell its own leaf -/
theorem nodeT_set (l : List Dg) (i : Nat) (d : Dg) : ∀ v k, ¬ k = i / 2 ^ v → nodeT (l.set i d) v k = nodeT l v k
  | 0, k, h => by
    unfold nodeT
    rw [List.getElem?_set_ne (fun e => h (by simp [e]))]
  | v + 1, k, h => by
    have e : i / 2 ^ (v + 1) = i / 2 ^ v / 2 := by rw [Nat.pow_succ, Nat.div_div_eq_div_mul]
    rw [e] at h
    unfold nodeT
    rw [nodeT_set l i d v _ (by omega), nodeT_set l i d v _ (by omega)]
theorem sib_ne (x : Nat) : ¬ sib x = x := by unfold sib; split <;> omega
theorem pathT_set (l : List Dg) (H i : Nat) (d : Dg) : pathT (l.set i d) H i = pathT l H i := by
  unfold pathT
  apply List.map_congr_left
  intro v _
  exact nodeT_set l i d v _ (sib_ne _)
theorem withT_set (l : List Dg) (i : Nat) (d : Dg) (hi : i < l.length) (h2 : l.length ≤ 4096) : withT i d (pathT l (hgt l.length) i) = rootT (l.set i d) := by
  have := withT_root (l.set i d) i (by simpa using hi) (by simpa using h2)
  simpa [pathT_set] using this
theorem memR_put (m : List Int) (x v : Int) (h0 : 0 ≤ x) (hl : x < m.length) (h2 : m.length ≤ 256) : withT x.toNat (leafW v) (pathT (m.map leafW) (hgt m.length) x.toNat) = memR (mput m x v) := by
  have := withT_set (m.map leafW) x.toNat (leafW v) (by simp; omega) (by simp; omega)
  simpa [memR, mput, List.map_set] using this
end Go.Proofs.YtahljceanodhkaaGreatDoor

/- Package tree: Set. -/
namespace Go.Proofs.YtahljceanodhkaaGreatDoor
open Go.RowKit
theorem take_splice (c vs : List Value) (o N : Nat) (h : o + vs.length ≤ N) (hN : N ≤ c.length) : (c.take o ++ vs ++ c.drop (o + vs.length)).take N = (c.take N).take o ++ vs ++ (c.take N).drop (o + vs.length) := by
  rw [List.take_append, List.take_of_length_le (by simp; omega)]
  rw [List.take_take, Nat.min_eq_left (by omega), List.drop_take]
  congr 2
  simp
  omega
theorem own_putD {w : World} {base n cg cc : Nat} {l : List Dg} (h : w.ownsRow base 30 8 (.slice (some ⟨cg, 0, none⟩) n cc) n (digs l)) (i : Nat) (hi : i < l.length) (d : Dg) :
    (putAt w cg (i * 8) d.cells).ownsRow base 30 8 (.slice (some ⟨cg, 0, none⟩) n cc) n (digs (l.set i d)) := by
  have hl := h.1
  rw [digs_length] at hl
  refine ⟨by rw [digs_length, List.length_set]; exact hl, ?_⟩
  rcases h.2 with ⟨hv, _⟩ | ⟨g', c', cur, hv, hb, hc, hnc, hcm, hcs, htk⟩
  · simp at hv
  · simp at hv
    obtain ⟨rfl, rfl⟩ := hv
    have hsz : (d.cells : Array Value).size = 8 := rfl
    have hfit : i * 8 + 8 ≤ n * 8 := by omega
    have hfit2 : n * 8 ≤ cur.size := by omega
    refine .inr ⟨cg, cc, splice cur (i * 8) d.cells, rfl, hb, putAt_heap_same hc, hnc, hcm, ?_, ?_⟩
    · rw [splice_size (by rw [hsz]; omega)]; exact hcs
    · show (cur.toList.take (i * 8) ++ d.cells.toList ++ cur.toList.drop (i * 8 + d.cells.toList.length)).take (n * 8) = _
      rw [take_splice cur.toList d.cells.toList (i * 8) (n * 8) (by simp; omega) (by simpa using hfit2), htk]
      exact digs_set_list l i hi d
theorem own_hasD {w : World} {base n cg cc : Nat} {l : List Dg} (h : w.ownsRow base 30 8 (.slice (some ⟨cg, 0, none⟩) n cc) n (digs l)) (i : Nat) (hi : i < n) : Proofs.YtahljceanodhkaaGreatDoor.has w cg (i * 8) 8 = true ∧ melts w cg = true ∧ cg < w.heap.size := by
  rcases h.2 with ⟨hv, _⟩ | ⟨g', c', cur, hv, hb, hc, hnc, hcm, hcs, htk⟩
  · simp at hv
  · simp at hv
    obtain ⟨rfl, rfl⟩ := hv
    refine ⟨?_, ?_, (Array.getElem?_eq_some_iff.1 hc).1⟩
    · unfold Proofs.YtahljceanodhkaaGreatDoor.has; rw [hc]; simp; omega
    · unfold melts; rw [hc]; rfl
/-- the levels of a tree that is being changed: up to v they are the new ones -/
def mixL (l l' : List Dg) (H : Nat) (v : Nat) (u : Nat) : List Dg := if u < v then lev l' H u else lev l H u
theorem mix_zero (l l' : List Dg) (H u : Nat) : mixL l l' H 0 u = lev l H u := by simp [mixL]
theorem mix_all (l l' : List Dg) (H u : Nat) (h : u ≤ H) : mixL l l' H (H + 1) u = lev l' H u := by unfold mixL; rw [if_pos (by omega)]
theorem lev_set_at (l : List Dg) (i : Nat) (d : Dg) (H v : Nat) (x : Dg) (hx : nodeT (l.set i d) v (i / 2 ^ v) = x) : (lev l H v).set (i / 2 ^ v) x = lev (l.set i d) H v := by
  apply List.ext_getElem
  · simp [lev]
  · intro j h1 h2
    simp [lev] at h1 ⊢
    rw [List.getElem_set]
    by_cases e : i / 2 ^ v = j
    · rw [if_pos e, ← e, hx]
    · rw [if_neg e]
      simp
      exact (nodeT_set l i d v j (fun q => e q.symm)).symm
/-- a tree in memory with levels as said -/
structure LvX (w : World) (base p cg cc : Nat) (f : Nat → Value) (G : Nat → Nat) (l : List Dg) (H : Nat) (L : Nat → List Dg) : Prop where
  blk : TreeB w p f
  f0 : f 0 = .slice (some ⟨cg, 0, none⟩) l.length cc
  own : w.ownsRow base 30 8 (.slice (some ⟨cg, 0, none⟩) l.length cc) l.length (digs l)
  fl : ∀ u, u ≤ H → f (1 + u) = .slice (some ⟨G u, 0, none⟩) (2 ^ (H - u)) (2 ^ (H - u))
  lv : ∀ u, u ≤ H → Blk w (G u) 30 (digs (L u)).toArray
  inj : ∀ u u', u ≤ H → u' ≤ H → G u = G u' → u = u'
  far : ∀ u, u ≤ H → base ≤ G u ∧ ¬ G u = p ∧ ¬ G u = cg
  bp : base ≤ p
  pc : ¬ p = cg
section
variable {w w' : World} {base p cg cc : Nat} {f : Nat → Value} {G : Nat → Nat} {l : List Dg} {H : Nat} {L : Nat → List Dg}
theorem Lv.toX (h : Lv w base p cg cc f G l H H) : LvX w base p cg cc f G l H (lev l H) := ⟨h.blk, h.f0, h.own, h.fl, h.lv, h.inj, h.far, h.bp, h.pc⟩
theorem LvX.toL (h : LvX w base p cg cc f G l H L) (hL : ∀ u, u ≤ H → L u = lev l H u) : Lv w base p cg cc f G l H H := ⟨h.blk, h.f0, h.own, h.fl, fun u hu => by rw [← hL u hu]; exact h.lv u hu, h.inj, h.far, h.bp, h.pc⟩
theorem LvX.ext (h : LvX w base p cg cc f G l H L) (hx : Ext w w') : LvX w' base p cg cc f G l H L :=
  ⟨h.blk.ext hx, h.f0, own_ext h.own hx, h.fl, fun u hu => Blk.ext (h.lv u hu) hx, h.inj, h.far, h.bp, h.pc⟩
/-- a level's own block is written -/
theorem LvX.level (h : LvX w base p cg cc f G l H L) (v : Nat) (hv : v ≤ H) (hk : Kept (· = G v) w w') (x : List Dg) (hb : Blk w' (G v) 30 (digs x).toArray) : LvX w' base p cg cc f G l H (fun u => if u = v then x else L u) := by
  have hf := h.far v hv
  refine ⟨Blk.kept h.blk hk (fun e => hf.2.1 e.symm), h.f0, own_kept h.own hk (fun g hg e => ?_), h.fl, fun u hu => ?_, h.inj, h.far, h.bp, h.pc⟩
  · simp [Value.ownBlock] at hg
    exact hf.2.2 (by omega)
  · by_cases e : u = v
    · subst e; simp only [if_true]; exact hb
    · simp only [if_neg e]
      exact Blk.kept (h.lv u hu) hk (fun q => e (h.inj u v hu hv q))
/-- a leaf is written -/
theorem LvX.leaf (h : LvX w base p cg cc f G l H L) (i : Nat) (hi : i < l.length) (d : Dg) : LvX (putAt w cg (i * 8) d.cells) base p cg cc f G (l.set i d) H L := by
  have hk : Kept (· = cg) w (putAt w cg (i * 8) d.cells) := Kept.putAt (Kept.refl _ w) _ _ _ (fun _ => rfl)
  refine ⟨Blk.kept h.blk hk h.pc, by rw [List.length_set]; exact h.f0, by rw [List.length_set]; exact own_putD h.own i hi d, h.fl, fun u hu => Blk.kept (h.lv u hu) hk (h.far u hu).2.2, h.inj, h.far, h.bp, h.pc⟩
theorem LvX.cong {L' : Nat → List Dg} (h : LvX w base p cg cc f G l H L) (e : ∀ u, u ≤ H → L u = L' u) : LvX w base p cg cc f G l H L' :=
  ⟨h.blk, h.f0, h.own, h.fl, fun u hu => by rw [← e u hu]; exact h.lv u hu, h.inj, h.far, h.bp, h.pc⟩
end
/-- a tree whose blocks lie between two numbers -/
def TreeIn (w : World) (base top p : Nat) (l : List Dg) : Prop := p < top ∧ ∃ cg cc f G, Lv w base p cg cc f G l (hgt l.length) (hgt l.length) ∧ cg < top ∧ ∀ u, u ≤ hgt l.length → G u < top
theorem TreeIn.of {w : World} {base p : Nat} {l : List Dg} (h : TreeOK w base p l) : TreeIn w base w.heap.size p l := by
  obtain ⟨cg, cc, f, G, h⟩ := h
  exact ⟨h.blk.lt, cg, cc, f, G, h, h.cgl, fun u hu => (h.lv u hu).lt⟩
theorem TreeIn.ok {w : World} {base top p : Nat} {l : List Dg} (h : TreeIn w base top p l) : TreeOK w base p l := by
  obtain ⟨_, cg, cc, f, G, h, _⟩ := h
  exact ⟨cg, cc, f, G, h⟩
theorem TreeIn.ext {w w' : World} {base top p : Nat} {l : List Dg} (h : TreeIn w base top p l) (hx : Ext w w') : TreeIn w' base top p l := by
  obtain ⟨h0, cg, cc, f, G, h, h1, h2⟩ := h
  exact ⟨h0, cg, cc, f, G, h.ext hx, h1, h2⟩
theorem Lv.kept {S : Nat → Prop} {w w' : World} {base p cg cc : Nat} {f : Nat → Value} {G : Nat → Nat} {l : List Dg} {H v : Nat} (h : Lv w base p cg cc f G l H v) (hx : Kept S w w') (hp : ¬ S p) (hc : ¬ S cg) (hG : ∀ u, u ≤ v → ¬ S (G u)) : Lv w' base p cg cc f G l H v :=
  ⟨Blk.kept h.blk hx hp, h.f0, own_kept h.own hx (fun g hg => by simp [Value.ownBlock] at hg; subst hg; exact hc), h.fl, fun u hu => Blk.kept (h.lv u hu) hx (hG u hu), h.inj, h.far, h.bp, h.pc⟩
/-- what is written lies elsewhere -/
theorem TreeIn.kept {S : Nat → Prop} {w w' : World} {base top p : Nat} {l : List Dg} (h : TreeIn w base top p l) (hx : Kept S w w') (hs : ∀ i, S i → top ≤ i) : TreeIn w' base top p l := by
  obtain ⟨h0, cg, cc, f, G, h, h1, h2⟩ := h
  exact ⟨h0, cg, cc, f, G, h.kept hx (fun q => by have := hs _ q; omega) (fun q => by have := hs _ q; omega) (fun u hu q => by have := hs _ q; have := h2 u hu; omega), h1, h2⟩
/-- what is written lies elsewhere, ahead of it or behind it -/
theorem TreeIn.apart {S : Nat → Prop} {w w' : World} {base top p : Nat} {l : List Dg} (h : TreeIn w base top p l) (hx : Kept S w w') (hs : ∀ i, S i → i < base ∨ top ≤ i) : TreeIn w' base top p l := by
  obtain ⟨h0, cg, cc, f, G, h, h1, h2⟩ := h
  have hcb : base ≤ cg := by
    rcases h.own.2 with ⟨hv, _⟩ | ⟨g', c', cur, hv, hb, _⟩
    · simp at hv
    · simp at hv; omega
  have hpb := h.bp
  exact ⟨h0, cg, cc, f, G, h.kept hx (fun q => by have := hs _ q; omega) (fun q => by have := hs _ q; omega) (fun u hu q => by have := hs _ q; have := h2 u hu; have := (h.far u hu).1; omega), h1, h2⟩
def SetDone (w w' : World) (e : Ending) (base top p : Nat) (l : List Dg) : Prop := e = .returned (.int .i64 0) ∧ TreeIn w' base top p l ∧ Kept (fun j => base ≤ j ∧ j < top) w w'
set_option maxRecDepth 100000 in
set_option maxHeartbeats 4000000 in
theorem tset_ok (base top p : Nat) (l : List Dg) (i : Nat) (d : Dg) (hd : d.ok) (w : World) (h1 : 1 ≤ l.length) (h2 : l.length ≤ 4096) (hi : i < l.length) (h : TreeIn w base top p l) :
    Calls Tryz.prog 86 #[.pointer (some ⟨p, 0, none⟩), .int .i64 i, .agg #[.int .u8 d.x0, .int .u8 d.x1, .int .u8 d.x2, .int .u8 d.x3, .int .u8 d.x4, .int .u8 d.x5, .int .u8 d.x6, .int .u8 d.x7]] w fun e w' => SetDone w w' e base top p (l.set i d) := by
  obtain ⟨hpt, cg, cc, f, G, h, hct, hGt⟩ := h
  have hb := hgt_bd l.length h1 h2
  obtain ⟨H, hH⟩ : ∃ H, H = hgt l.length := ⟨_, rfl⟩
  rw [← hH] at hb h hGt
  obtain ⟨hH12, hnH⟩ := hb
  have HP : Hid (i < 2 ^ H) := Lib.hid (by omega)
  have x0 : Ext w _ := (Kept.refl _ w).alloc (.cells d.cells 30)
  have hD0 := Blk.new w 30 d.cells
  have hX0 := h.toX.ext x0
  have hdw : ¬ w.heap.size = cg := by have := h.cgl; omega
  have hcc := hX0.blk.cell 0 (by omega)
  rw [hX0.f0] at hcc
  have hc1 := hX0.blk.cell 1 (by omega)
  have e1 := hX0.fl 0 (Nat.zero_le _)
  simp only [Nat.add_zero, Nat.sub_zero] at e1
  rw [e1] at hc1
  obtain ⟨n, hn⟩ : ∃ n, n = l.length := ⟨_, rfl⟩
  obtain ⟨N, hN⟩ : ∃ N, N = 2 ^ H := ⟨_, rfl⟩
  rw [← hn] at hcc h1 h2 hi hH
  rw [← hN] at hc1
  have hiN : i < N := by rw [hN]; exact HP.out
  have bhas : (decide ((0 : Int) ≤ i) && decide ((i : Int) < n)) = true := by simp; omega
  obtain ⟨ch, cm, cl⟩ := own_hasD hX0.own i (by omega)
  have hpl := hX0.blk.lt
  have hX1 := hX0.leaf i (by omega) d
  have hpc := h.pc
  have hcb : base ≤ cg := by
    rcases h.own.2 with ⟨hv, _⟩ | ⟨g', c', cur, hv, hb, _⟩
    · simp at hv
    · simp at hv; omega
  have HB := Lib.hid bhas
  have HN := Lib.hid hn
  have HNN := Lib.hid hN
  have HH := Lib.hid hH
  have HX0 := Lib.hid hX0
  have HX1 := Lib.hid hX1
  have HGT := Lib.hid hGt
  have HD := Lib.hid hd
  have HFAR := Lib.hid h.far
  have hdl : w.heap.size < top ∨ top ≤ w.heap.size := by omega
  have hin : (i : Int) < n := by omega
  have hiNI : (i : Int) < N := by omega
  have hi0 : (0 : Int) ≤ i := by omega
  clear bhas hn hN hH hX0 hX1 hGt hd h hnH e1 hdl
  go_enter Tryz.func86, Tryz.ntmps86
  go_upto_region 3 with (fail)
  generalize (w.alloc (.cells d.cells 30)) = W at x0 hD0 hcc hc1 ch cm cl hpl HX0 HX1 ⊢
  obtain ⟨q, hq⟩ : ∃ q, q = w.heap.size := ⟨_, rfl⟩
  rw [← hq] at hD0 hdw ⊢
  have HQ := Lib.hid hq
  clear hq
  go_wp2_with fail
  refine (thas_any p n cc _ i _ hcc).mono ?_
  rintro e w1 ⟨rfl, rfl⟩
  rw [HB.out]
  go_upto_region 5 with (fail)
  refine wp_region_3 (fun w2 => Ext W w2) [(0, 2), (1, 2), (2, 2), (3, 1), (4, 2), (5, 1), (6, 2), (7, 0)] (by kernel_rfl) (by kernel_rfl) (by kernel_rfl) (by kernel_rfl) ?_; intro l' hl'; simp only [List.map_cons, List.map_nil, List.getD_cons_zero, List.getD_cons_succ] at hl'; subst hl'
  (repeat (first | ((apply w3_pure); (· go_simp); (· (intro w1; go_simp; try with_reducible rfl)); (intro K hK; go_simp; refine hK _ _ ?_; clear hK K)) | ((apply w3_skip); (· go_simp); (intro K hK; go_simp; refine hK _ _ ?_; clear hK K)) | ((apply w3_take); (· exact (Kept.drew (Kept.refl _ _))); (· go_simp); (· (intro w1 hS; have d1 := (Kept.cell hS (p := ⟨p, 0, none⟩) hpl (fun f => f)).trans hcc; have d2 := Nat.lt_of_lt_of_le hpl hS.size; have d3 := Blk.has (Blk.ext hD0 hS); have d4 := Blk.gets (Blk.ext hD0 hS); have d5 := (Blk.ext hD0 hS).lt;  go_simp; try with_reducible rfl)); (intro K hK; go_simp; refine hK _ _ ?_; clear hK K)) | ((apply w3_pass); (· exact (Kept.drew (Kept.refl _ _))); (· go_simp); (intro K hK; go_simp; refine hK _ _ ?_; clear hK K))))
  (repeat (first | ((apply w3_pure); (· go_simp); (· (intro w1; go_simp; try with_reducible rfl)); (intro K hK; go_simp; refine hK _ _ ?_; clear hK K)) | ((apply w3_skip); (· go_simp); (intro K hK; go_simp; refine hK _ _ ?_; clear hK K)) | (refine w3_end (by kernel_rfl) (fun K hK => ?_); go_simp; refine hK.out _ _ ?_; clear hK K))); refine w3_nil ?_
  have kx : Kept (· = cg) W (putAt W cg (i * 8) d.cells).drew := (Kept.putAt (Kept.refl (· = cg) W) cg _ _ (fun _ => rfl)).drew
  have hX1 : LvX (putAt W cg (i * 8) d.cells).drew base p cg cc f G (l.set i d) H (lev l H) := HX1.out.ext ((Kept.refl _ _).drew)
  have hD1 := Blk.kept hD0 kx hdw
  have k1 : Kept (fun j => base ≤ j ∧ j < top) w (putAt W cg (i * 8) d.cells).drew := (Kept.ext x0).trans' kx (fun j _ e => by omega)
  generalize (putAt W cg (i * 8) d.cells).drew = W1 at kx hX1 hD1 k1 ⊢
  clear hcc hc1 ch cm cl hpl HX0 HX1 kx hD0 x0
  have hc1 := hX1.blk.cell 1 (by omega)
  have e1 := hX1.fl 0 (Nat.zero_le _)
  simp only [Nat.add_zero, Nat.sub_zero] at e1
  rw [e1, ← HNN.out] at hc1
  have hcc := hX1.blk.cell 0 (by omega)
  rw [hX1.f0, List.length_set, ← HN.out] at hcc
  have hpl := hX1.blk.lt
  have hB := hX1.lv 0 (Nat.zero_le _)
  have HX1 := Lib.hid hX1
  have HCC := Lib.hid hcc
  clear hX1 e1 hcc
  obtain ⟨g0, hg0⟩ : ∃ g0, g0 = G 0 := ⟨_, rfl⟩
  rw [← hg0] at hc1 hB
  have HG0 := Lib.hid hg0
  clear hg0
  go_upto_region 6 with (fail)
  refine wp_region_3 (fun w2 => Ext W1 w2) [(0, 2), (1, 2), (2, 2), (3, 2), (4, 1), (5, 2), (6, 1), (7, 0), (8, 2), (9, 0)] (by kernel_rfl) (by kernel_rfl) (by kernel_rfl) (by kernel_rfl) ?_; intro l' hl'; simp only [List.map_cons, List.map_nil, List.getD_cons_zero, List.getD_cons_succ] at hl'; subst hl'
  (repeat (first | ((apply w3_pure); (· go_simp); (· (intro w1; go_simp; try with_reducible rfl)); (intro K hK; go_simp; refine hK _ _ ?_; clear hK K)) | ((apply w3_skip); (· go_simp); (intro K hK; go_simp; refine hK _ _ ?_; clear hK K)) | ((apply w3_take); (· exact (Kept.drew (Kept.refl _ _))); (· go_simp); (· (intro w1 hS; have d1 := (Kept.cell hS (p := ⟨p, 1, none⟩) hpl (fun f => f)).trans hc1; have d2 := Nat.lt_of_lt_of_le hpl hS.size; have d3 := Blk.has (Blk.ext hD1 hS); have d4 := Blk.gets (Blk.ext hD1 hS); have d5 := (Blk.ext hD1 hS).lt;  go_simp; try with_reducible rfl)); (intro K hK; go_simp; refine hK _ _ ?_; clear hK K)) | ((apply w3_pass); (· exact (Kept.drew (Kept.refl _ _))); (· go_simp); (intro K hK; go_simp; refine hK _ _ ?_; clear hK K))))
  (refine w3_act (fun K hK => ?_); go_simp)
  go_wp2_with fail
  refine (low_any d HD.out _).mono ?_
  rintro e w2 ⟨e2, hx2⟩
  obtain ⟨V, hV⟩ : ∃ V, V = hLow d := ⟨_, rfl⟩
  rw [← hV] at e2
  subst e2
  have HV := Lib.hid hV
  clear hV
  have y2 : Ext W1 w2 := ((Kept.refl _ W1).drew).trans hx2
  refine hK.out _ _ (fun _ => y2) ?_
  clear hK K
  have hkM : i * 8 + 8 ≤ (digs (lev l H 0)).length := by rw [digs_length, lev_len, Nat.sub_zero, ← HNN.out]; omega
  have hB2 := Blk.ext hB y2
  have hh2 := Blk.has hB2 (i * 8) 8
  rw [decide_eq_true (by simpa using hkM)] at hh2
  have hm2 := Blk.melts hB2
  have hl2 := hB2.lt
  have hB3 := Blk.put_ hB2 (i * 8) V.cells
  have hset := lev_set_at l i d H 0 V (by simp [nodeT, HV.out, show i < l.length by have := HN.out; omega])
  simp only [Nat.pow_zero, Nat.div_one] at hset
  rw [digs_set _ i (by rw [lev_len, Nat.sub_zero, ← HNN.out]; exact hiN) V, hset] at hB3
  have HB3 := Lib.hid hB3
  clear hB3 hset hB hc1
  (repeat (first | ((apply w3_pure); (· go_simp); (· (intro w1; go_simp; try with_reducible rfl)); (intro K hK; go_simp; refine hK _ _ ?_; clear hK K)) | ((apply w3_skip); (· go_simp); (intro K hK; go_simp; refine hK _ _ ?_; clear hK K))))
  (repeat (first | ((apply w3_pure); (· go_simp); (· (intro w1; go_simp; try with_reducible rfl)); (intro K hK; go_simp; refine hK _ _ ?_; clear hK K)) | ((apply w3_skip); (· go_simp); (intro K hK; go_simp; refine hK _ _ ?_; clear hK K)) | (refine w3_end (by kernel_rfl) (fun K hK => ?_); go_simp; refine hK.out _ _ ?_; clear hK K))); refine w3_nil ?_
  have k3 : Kept (· = G 0) w2 (putAt w2 g0 (i * 8) V.cells) := Kept.putAt (Kept.refl _ w2) _ _ _ (fun _ => HG0.out)
  have hX3 : LvX (putAt w2 g0 (i * 8) V.cells) base p cg cc f G (l.set i d) H (mixL l (l.set i d) H 1) := by
    refine ((HX1.out.ext y2).level 0 (Nat.zero_le _) k3 _ (by rw [← HG0.out]; exact HB3.out)).cong (fun u hu => ?_)
    unfold mixL
    by_cases e : u = 0
    · subst e; simp
    · rw [if_neg e, if_neg (by omega)]
  have kk : Kept (fun j => base ≤ j ∧ j < top) w (putAt w2 g0 (i * 8) V.cells) := (k1.trans (Kept.ext y2)).trans' k3 (fun j _ e => by
    have h3 := (HFAR.out 0 (Nat.zero_le _)).1
    have h4 := HGT.out 0 (Nat.zero_le _)
    rw [e]
    exact ⟨h3, h4⟩)
  generalize (putAt w2 g0 (i * 8) V.cells) = W3 at k3 hX3 kk ⊢
  clear hh2 hm2 hl2 hB2 HB3 k3 k1 hD1 y2 hx2 hpl
  have hcc := hX3.blk.cell 0 (by omega)
  rw [hX3.f0, List.length_set, ← HN.out] at hcc
  have HX3 := Lib.hid hX3
  clear hX3
  go_wp2_with fail
  refine (theight_ok p n cc _ _ h1 h2 hcc).mono ?_
  rintro e w4 ⟨e4, rfl⟩
  replace e4 : e = .returned (.int .i64 H) := by rw [e4, HH.out]
  subst e4
  clear hcc HCC HX1
  go_wp2_with fail
  go_loopw [1, 34] (fun t1 t34 wr => ∃ (v : Nat), v ≤ H ∧ t34 = .int .i64 v ∧ t1 = .int .i64 (i / 2 ^ v : Nat) ∧ LvX wr base p cg cc f G (l.set i d) H (mixL l (l.set i d) H (v + 1)) ∧ Kept (fun j => base ≤ j ∧ j < top) w wr) (fun _ t34 _ => H - (intOf t34).toNat)
  case atStart => exact ⟨0, by omega, rfl, by simp, HX3.out, kk⟩
  case round =>
    obtain ⟨v, hv, rfl, rfl, hX, hk⟩ := hrel
    clear HX3 kk
    obtain ⟨x, hxk⟩ : ∃ x, x = i / 2 ^ v := ⟨_, rfl⟩
    rw [← hxk]
    by_cases hlt : v < H
    · obtain ⟨N2, hN2⟩ : ∃ N2, N2 = 2 ^ (H - v) := ⟨_, rfl⟩
      obtain ⟨M, hM⟩ : ∃ M, M = 2 ^ (H - (v + 1)) := ⟨_, rfl⟩
      have hNM : N2 = 2 * M := by rw [hN2, hM]; exact pow_halfH H v hlt
      have hN24 : N2 ≤ 4096 := by rw [hN2]; exact Nat.le_trans (Nat.pow_le_pow_right (by omega) (show H - v ≤ 12 by omega)) (by decide)
      have hxl : x < N2 := by rw [hxk, hN2]; exact div_pow_lt HP.out (by omega)
      obtain ⟨k, hk2⟩ : ∃ k, k = x / 2 := ⟨_, rfl⟩
      have hkM : k < M := by omega
      have hke : k = i / 2 ^ (v + 1) := by rw [hk2, hxk, div_pow_succ]
      obtain ⟨v1, hv1⟩ : ∃ v1, v1 = v + 1 := ⟨_, rfl⟩
      have hq2 : (x : Int).tdiv 2 = (k : Nat) := by rw [Int.tdiv_eq_ediv_of_nonneg (by omega), hk2]; omega
      have hcv := hX.blk.cell (1 + v) (by omega)
      rw [hX.fl v (by omega), ← hN2] at hcv
      have hcv1 : wr.cell? ⟨p, 1 + v1, none⟩ = some (.slice (some ⟨G (v + 1), 0, none⟩) M M) := by
        have := hX.blk.cell (1 + (v + 1)) (by omega)
        rw [hX.fl (v + 1) (by omega), ← hM] at this
        rw [hv1]
        exact this
      have hBv := hX.lv v (by omega)
      have hBv1 := hX.lv (v + 1) (by omega)
      rw [show mixL l (l.set i d) H (v + 1) v = lev (l.set i d) H v from if_pos (by omega)] at hBv
      rw [show mixL l (l.set i d) H (v + 1) (v + 1) = lev l H (v + 1) from if_neg (by omega)] at hBv1
      have hplr := hX.blk.lt
      have hjn := join_any p (G v) (G (v + 1)) v v1 k N2 M N2 M (lev (l.set i d) H v) (lev l H (v + 1)) wr hv1 (by omega) (by rw [lev_len]; exact hN2) (by rw [lev_len]; exact hM) (by omega) hkM hN24 (lev_okD _ H v) hcv hcv1 hBv hBv1 hplr
      have hset : (lev l H (v + 1)).set k (hTwo ((lev (l.set i d) H v).getD (2 * k) Dg.zero) ((lev (l.set i d) H v).getD (2 * k + 1) Dg.zero)) = lev (l.set i d) H (v + 1) := by
        rw [lev_getD _ H v _ (by omega), lev_getD _ H v _ (by omega), hke]
        exact lev_set_at l i d H (v + 1) _ rfl
      rw [hset] at hjn
      have hw1 : IntKind.i64.wrap ((v : Int) + 1) = v1 := by rw [IntKind.wrap_i64]; omega
      have HX := Lib.hid hX
      have HJ := Lib.hid hjn
      have HKE := Lib.hid hke
      have HV1 := Lib.hid hv1
      have hv113 : (v1 : Int) < 13 := by omega
      have hk4 : k ≤ 4096 := by omega
      have hk4I : (k : Int) ≤ 4096 := by omega
      clear hX hjn hset hke hcv hcv1 hBv hBv1 hN2 hM hNM hxk hk2 hv1
      go_wp2_with fail
      refine HJ.out.mono ?_
      rintro e w5 ⟨rfl, hB5, hk5⟩
      have hX5 : LvX w5 base p cg cc f G (l.set i d) H (mixL l (l.set i d) H (v + 1 + 1)) := by
        refine (HX.out.level (v + 1) (by omega) hk5 _ hB5).cong (fun u hu => ?_)
        unfold mixL
        by_cases e : u = v + 1
        · subst e; simp
        · rw [if_neg e]
          by_cases e2 : u < v + 1
          · rw [if_pos e2, if_pos (by omega)]
          · rw [if_neg e2, if_neg (by omega)]
      have kk5 : Kept (fun j => base ≤ j ∧ j < top) w w5 := hk.trans' hk5 (fun j _ e => by
        have h3 := (HFAR.out (v + 1) hlt).1
        have h4 := HGT.out (v + 1) hlt
        rw [e]
        exact ⟨h3, h4⟩)
      have HX5 := Lib.hid hX5
      clear hX5 hB5 hk5 HJ HX hk hw1 hq2
      go_wp2_with fail
      go_roundw
      case rel => exact ⟨v + 1, hlt, by go_num, by rw [HKE.out], HX5.out, kk5⟩
      case measure => simp only [intOf]; omega
    · obtain rfl : v = H := by omega
      have HX := Lib.hid hX
      clear hX hxk
      go_wp2_with fail
      go_ret
      refine ⟨rfl, ⟨hpt, cg, cc, f, G, ?_, hct, ?_⟩, hk⟩
      · rw [List.length_set, ← HN.out, ← HH.out]
        exact HX.out.toL (fun u hu => mix_all l _ v u hu)
      · rw [List.length_set, ← HN.out, ← HH.out]
        exact HGT.out
end Go.Proofs.YtahljceanodhkaaGreatDoor

/- A state behind a step is right again. -/
namespace Go.Proofs.YtahljceanodhkaaGreatDoor
open Go.RowKit
theorem putE_ok {m : List Int} {x v : Int} (hm : ∀ z ∈ m, i32ok z) (hv : i32ok v) : ∀ z ∈ mput m x v, i32ok z := fun z hz => by
  rcases List.mem_or_eq_of_mem_set hz with h | h
  · exact hm z h
  · rw [h]; exact hv
theorem getE_ok {m : List Int} {x : Int} (hm : ∀ z ∈ m, i32ok z) : i32ok (mget m x) := getX_ok hm _
theorem truth_ok (b : Bool) : i32ok (truthI b) := by cases b <;> simp [truthI, i32ok]
theorem wrap32_ok (x : Int) : i32ok (IntKind.i32.wrap x) := by
  unfold i32ok
  simp only [IntKind.wrap, IntKind.signed, IntKind.bits]
  simp
  omega
theorem two_ok (k : Nat) {b c : Int} (hb : i32ok b) (_hc : i32ok c) : i32ok (twoI k b c) := by
  have h0 : i32ok 0 := by unfold i32ok; omega
  unfold twoI
  split
  · exact wrap32_ok _
  · exact wrap32_ok _
  · exact wrap32_ok _
  · split
    · exact h0
    · exact wrap32_ok _
  · split
    · exact h0
    · unfold i32ok at hb ⊢
      rename_i hc0
      have h2 : (b.tmod c).natAbs ≤ b.natAbs := by rw [Int.natAbs_tmod]; exact Nat.mod_le _ _
      rcases Int.lt_or_le b 0 with hn | hn
      · have := Int.tmod_nonneg (a := -b) c (by omega); rw [Int.neg_tmod] at this; omega
      · have := Int.tmod_nonneg c hn; omega
  all_goals exact truth_ok _
/-- a state that may be, with its words -/
structure Okay (pc halt : Int) (m : List Int) : Prop where
  right : rightS pc halt m.length = true
  mok : ∀ z ∈ m, i32ok z
theorem Okay.mk' {pc halt : Int} {m : List Int} (k : Nat) (hk : k = m.length) (h1 : 1 ≤ k) (h2 : k ≤ 256) (p0 : 0 ≤ pc) (p1 : pc ≤ 2048) (a0 : 0 ≤ halt) (a1 : halt ≤ 2) (hm : ∀ z ∈ m, i32ok z) : Okay pc halt m :=
  ⟨by subst hk; simp [rightS]; omega, hm⟩
theorem put_len (m : List Int) (x v : Int) : (mput m x v).length = m.length := by simp [mput]
theorem exec_okay {i : Ins} {pc : Int} {n : Nat} {m : List Int} (hr : rightI i n m.length = true) (hn : n ≤ 2048) (h : Okay pc 0 m) (hp : pc < n) : Okay (execI i pc m).1 (execI i pc m).2.1 (execI i pc m).2.2 ∧ (execI i pc m).2.2.length = m.length := by
  obtain ⟨h1, h2, h3, h4, _, _⟩ := rightS_inv h.right
  obtain ⟨o0, o1, ha, hb, hc, he⟩ := rightI_parts hr
  obtain ⟨k, hk, hop⟩ := op_nat (i := i) (by simp [isOp]; omega)
  have hnn : i.op.toNat = k := by omega
  rw [hnn] at ha hb hc
  have put : ∀ (x v : Int), i32ok v → Okay (pc + 1) 0 (mput m x v) ∧ (mput m x v).length = m.length := fun x v hv =>
    ⟨Okay.mk' m.length (put_len m x v).symm h1 h2 (by omega) (by omega) (by omega) (by omega) (putE_ok h.mok hv), put_len m x v⟩
  have go : ∀ q : Int, 0 ≤ q → q ≤ 2048 → Okay q 0 m ∧ m.length = m.length := fun q q0 q1 => ⟨Okay.mk' m.length rfl h1 h2 q0 q1 (by omega) (by omega) h.mok, rfl⟩
  obtain ⟨r, hx⟩ : ∃ r, execI i pc m = r := ⟨_, rfl⟩
  rw [hx]
  delta execI at hx
  by_cases e0 : i.op = 0
  · rw [if_pos e0] at hx
    subst hx
    simp [rightE, e0] at he
    exact ⟨Okay.mk' m.length rfl h1 h2 h3 h4 (by simp only; omega) (by simp only; omega) h.mok, rfl⟩
  rw [if_neg e0] at hx
  by_cases e1 : i.op = 1
  · rw [if_pos e1] at hx
    subst hx
    have ek : k = 1 := by omega
    subst ek
    exact put _ _ (okP_n (k := 1) rfl hb)
  rw [if_neg e1] at hx
  by_cases e2 : i.op = 2
  · rw [if_pos e2] at hx
    subst hx
    exact put _ _ (getE_ok h.mok)
  rw [if_neg e2] at hx
  by_cases e14 : i.op = 14
  · rw [if_pos e14] at hx
    subst hx
    exact put _ _ (truth_ok _)
  rw [if_neg e14] at hx
  by_cases e15 : i.op = 15
  · rw [if_pos e15] at hx
    subst hx
    exact put _ _ (getE_ok h.mok)
  rw [if_neg e15] at hx
  by_cases e16 : i.op = 16
  · rw [if_pos e16] at hx
    subst hx
    exact put _ _ (getE_ok h.mok)
  rw [if_neg e16] at hx
  by_cases e17 : i.op = 17
  · rw [if_pos e17] at hx
    subst hx
    have ek : k = 17 := by omega
    subst ek
    have q0 := okP_n (k := 1) rfl hb
    have q1 := okP_n (k := 2) rfl hc
    have q2 := getE_ok (x := i.a) h.mok
    refine put _ _ ?_
    unfold i32ok at q2 ⊢
    omega
  rw [if_neg e17] at hx
  by_cases e18 : i.op = 18
  · rw [if_pos e18] at hx
    subst hx
    exact put _ _ (truth_ok _)
  rw [if_neg e18] at hx
  by_cases e19 : i.op = 19
  · rw [if_pos e19] at hx
    subst hx
    have ek : k = 19 := by omega
    subst ek
    have q0 := okP_p (k := 0) rfl ha
    exact go _ (by omega) (by omega)
  rw [if_neg e19] at hx
  by_cases e20 : i.op = 20
  · rw [if_pos e20] at hx
    subst hx
    have ek : k = 20 := by omega
    subst ek
    have q0 := okP_p (k := 0) rfl ha
    by_cases ez : mget m i.b = 0
    · rw [if_pos ez]; exact go _ (by omega) (by omega)
    · rw [if_neg ez]; exact go _ (by omega) (by omega)
  rw [if_neg e20] at hx
  by_cases e21 : i.op = 21
  · rw [if_pos e21] at hx
    subst hx
    have ek : k = 21 := by omega
    subst ek
    have q0 := okP_p (k := 0) rfl ha
    by_cases ez : mget m i.b = 0
    · rw [if_pos ez]; exact go _ (by omega) (by omega)
    · rw [if_neg ez]; exact go _ (by omega) (by omega)
  rw [if_neg e21] at hx
  subst hx
  exact put _ _ (two_ok _ (getE_ok h.mok) (getE_ok h.mok))
theorem step_okay {c : List Ins} {pc : Int} {m : List Int} (hc : c.length ≤ 2048) (h : Okay pc 0 m) : Okay (stepI c pc m).1 (stepI c pc m).2.1 (stepI c pc m).2.2 ∧ (stepI c pc m).2.2.length = m.length := by
  obtain ⟨h1, h2, h3, h4, _, _⟩ := rightS_inv h.right
  have no : Okay pc 2 m ∧ m.length = m.length := ⟨Okay.mk' m.length rfl h1 h2 h3 h4 (by omega) (by omega) h.mok, rfl⟩
  unfold stepI
  cases hn : nextI c pc m.length with
  | none => exact no
  | some i =>
    simp only
    split
    · exact no
    · refine exec_okay (nextI_right hn) hc h ?_
      unfold nextI at hn
      split at hn
      · rename_i hg
        have := (List.getElem?_eq_some_iff.1 hg).1
        omega
      · cases hn
theorem run_okay {c : List Ins} {pc halt : Int} {m : List Int} (hc : c.length ≤ 2048) (h : Okay pc halt m) : Okay (runI c pc halt m).1 (runI c pc halt m).2.1 (runI c pc halt m).2.2 ∧ (runI c pc halt m).2.2.length = m.length := by
  unfold runI
  by_cases h0 : halt = 0
  · rw [if_pos h0]; subst h0; exact step_okay hc h
  · rw [if_neg h0]; exact ⟨h, rfl⟩
/-- the digest behind a step -/
def nextR (c : List Ins) (pc halt : Int) (m : List Int) : Dg := hHead (runI c pc halt m).1 (runI c pc halt m).2.1 m.length (memR (runI c pc halt m).2.2)
theorem nextR_state {c : List Ins} {pc halt : Int} {m : List Int} (hc : c.length ≤ 2048) (h : Okay pc halt m) : nextR c pc halt m = stateR (runI c pc halt m).1 (runI c pc halt m).2.1 (runI c pc halt m).2.2 := by
  unfold nextR stateR
  rw [(run_okay hc h).2]
end Go.Proofs.YtahljceanodhkaaGreatDoor

/- The laws' own functions of layers 15 and 23: OwnCode, Own, small; rows of states and of steps. -/
namespace Go.Proofs.YtahljceanodhkaaGreatDoor
open Go.RowKit
theorem aggCourse : aggT Tryz.prog 99 = true := by kernel_rfl
theorem sizeCourse : sizeT Tryz.prog 99 = some 4 := by kernel_rfl
theorem wpLoadCourse {dst : Option Tmp} {ty' : TypeId} {x : Operand} {pos : String} {after : Array Edge} {guard : Option (Nat × Bool)} {a : Act} {w : World} {K : Act → World → Prop} {Q : Exit → Act → World → Prop} (hx : isAt (a.eval x) = true) (hh : has w (blkOf (a.eval x)) (offOf (a.eval x)) 4 = true) :
    Oper.wp Tryz.prog { dst := dst, op := .load 99 x, type := ty', pos := pos, after := after, guard := guard } a w K Q = K (a.put dst (.agg (gets w (blkOf (a.eval x)) (offOf (a.eval x)) 4))) w := wp_load_big 4 aggCourse sizeCourse hx hh
theorem runLoadCourse {ρ : Operand → Value} {dst : Option Tmp} {ty' : TypeId} {x : Operand} {pos : String} {after : Array Edge} {guard : Option (Nat × Bool)} {w : World} (hx : isAt (ρ x) = true) (hh : has w (blkOf (ρ x)) (offOf (ρ x)) 4 = true) :
    (execOp ρ { dst := dst, op := .load 99 x, type := ty', pos := pos, after := after, guard := guard }).run Tryz.prog w = .ok (.value (.agg (gets w (blkOf (ρ x)) (offOf (ρ x)) 4))) w := run_exec_load_big 4 aggCourse sizeCourse hx hh
theorem loadVarCourse (w : World) (g off : Nat) (hh : has w g off 4 = true) : (loadVar 99 ⟨g, off, none⟩).run Tryz.prog w = .ok (.agg (gets w g off 4)) w := run_loadVar_big Tryz.prog w _ g off 4 aggCourse sizeCourse hh
attribute [go_sem] aggCourse sizeCourse
attribute [go_sem ↓ high] wpLoadCourse loadVarCourse runLoadCourse
attribute [go_sem high] wpLoadCourse
/-- values of many cells, one behind the other -/
def rowsL {α : Type} (f : α → Array Value) (l : List α) : List Value := l.flatMap fun d => (f d).toList
section
variable {α : Type} {f : α → Array Value} {k : Nat}
theorem rowsL_len (hf : ∀ d, (f d).size = k) (l : List α) : (rowsL f l).length = l.length * k := by
  induction l with
  | nil => simp [rowsL]
  | cons d l ih =>
    show ((f d).toList ++ rowsL f l).length = _
    rw [List.length_append, ih, Array.length_toList, hf, List.length_cons, Nat.succ_mul]
    omega
theorem rowsL_at (hf : ∀ d, (f d).size = k) : ∀ (l : List α) (j : Nat) (hj : j < l.length), ((rowsL f l).drop (j * k)).take k = (f l[j]).toList
  | d :: l, 0, _ => by
    show (((f d).toList ++ rowsL f l).drop (0 * k)).take k = _
    rw [Nat.zero_mul, List.drop_zero, List.take_append, List.take_of_length_le (by rw [Array.length_toList, hf]; exact Nat.le_refl _), Array.length_toList, hf]
    simp
  | d :: l, j + 1, hj => by
    have ih := rowsL_at hf l j (by simpa using hj)
    show (((f d).toList ++ rowsL f l).drop ((j + 1) * k)).take k = _
    have hl : (f d).toList.length = k := by rw [Array.length_toList, hf]
    rw [Nat.succ_mul, Nat.add_comm, ← hl, List.drop_append, List.drop_of_length_le (l := (f d).toList) (by omega)]
    simp only [Nat.add_sub_cancel_left, List.nil_append]
    rw [hl]
    exact ih
theorem rowsL_row (hf : ∀ d, (f d).size = k) {w : World} {b off : Nat} {l : List α} (h : Row w b off (rowsL f l)) (j : Nat) (hj : j < l.length) : Proofs.YtahljceanodhkaaGreatDoor.has w b (off + j * k) k = true ∧ gets w b (off + j * k) k = f l[j] := by
  have := h.sub (j * k) k (by rw [rowsL_len hf]; calc
    j * k + k = (j + 1) * k := by rw [Nat.succ_mul]
    _ ≤ l.length * k := Nat.mul_le_mul_right _ hj)
  rw [rowsL_at hf l j hj] at this
  exact this
theorem flatL_app : ∀ (a b : List Value), flatL (a ++ b) = (flatL a && flatL b)
  | [], b => by simp [flatL]
  | x :: a, b => by simp [flatL, flatL_app a b, Bool.and_assoc]
theorem rowsL_flat (hf : ∀ d, flatL (f d).toList = true) (l : List α) : flatL (rowsL f l) = true := by
  induction l with
  | nil => rfl
  | cons d l ih => show flatL ((f d).toList ++ rowsL f l) = true; rw [flatL_app, hf, ih]; rfl
theorem rowsL_app (l q : List α) : rowsL f l ++ rowsL f q = rowsL f (l ++ q) := by simp [rowsL]
theorem rowsL_one (d : α) : rowsL f [d] = (f d).toList := by simp [rowsL]
end
/-- what lies in memory, and what each says -/
inductive AllV {α β : Type} (V : World → α → β → Prop) (w : World) : List α → List β → Prop where
  | nil : AllV V w [] []
  | cons {a : α} {b : β} {xs : List α} {ys : List β} : V w a b → AllV V w xs ys → AllV V w (a :: xs) (b :: ys)
section
variable {α β : Type} {V : World → α → β → Prop} {w w' : World}
theorem AllV.mono (h : ∀ a b, V w a b → V w' a b) : ∀ {xs : List α} {ys : List β}, AllV V w xs ys → AllV V w' xs ys
  | _, _, .nil => .nil
  | _, _, .cons x r => .cons (h _ _ x) (r.mono h)
theorem AllV.len : ∀ {xs : List α} {ys : List β}, AllV V w xs ys → xs.length = ys.length
  | _, _, .nil => rfl
  | _, _, .cons _ r => by simp [r.len]
theorem AllV.snoc {a : α} {b : β} (h : V w a b) : ∀ {xs : List α} {ys : List β}, AllV V w xs ys → AllV V w (xs ++ [a]) (ys ++ [b])
  | _, _, .nil => .cons h .nil
  | _, _, .cons x r => .cons x (r.snoc h)
theorem AllV.get : ∀ {xs : List α} {ys : List β} (_ : AllV V w xs ys) (j : Nat) (h1 : j < xs.length) (h2 : j < ys.length), V w xs[j] ys[j]
  | _, _, .cons x _, 0, _, _ => x
  | _, _, .cons _ r, j + 1, h1, h2 => r.get j (by simpa using h1) (by simpa using h2)
end
/-- a slice's first cells, out of a row of its own -/
theorem own_rows {w : World} {base : Nat} {E : TypeId} {sz : Nat} {v : Value} {n : Nat} {xs : List Value} (h : w.ownsRow base E sz v n xs) (h0 : 0 < n) (hz : 0 < sz) : ∃ g c, v = .slice (some ⟨g, 0, none⟩) n c ∧ Row w g 0 xs ∧ base ≤ g ∧ (∃ cur, w.heap[g]? = some (.cells cur E (0, 0))) := by
  have hl := h.1
  rcases h.2 with ⟨hv, e0⟩ | ⟨g, c, cur, hv, hb, hc, hnc, hcm, hcs, htk⟩
  · subst e0
    have := Nat.mul_pos h0 hz
    simp at hl
    omega
  · refine ⟨g, c, hv, ⟨?_, ?_, (Array.getElem?_eq_some_iff.1 hc).1⟩, hb, cur, hc⟩
    · unfold has; rw [hc, hl]; simp only [Nat.zero_add, decide_eq_true_eq]; rw [hcs]; exact Nat.mul_le_mul_right _ hnc
    · unfold gets; rw [hc, hl]; simp only [List.drop_zero]; rw [htk]
theorem has_ext {w w1 : World} {g o n : Nat} (hS : Ext w w1) (hg : g < w.heap.size) (h : Proofs.YtahljceanodhkaaGreatDoor.has w g o n = true) : Proofs.YtahljceanodhkaaGreatDoor.has w1 g o n = true := by
  unfold Proofs.YtahljceanodhkaaGreatDoor.has at h ⊢
  rw [hS.block g hg (fun f => f)]
  exact h
theorem gets_ext {w w1 : World} {g o n : Nat} {c : Array Value} (hS : Ext w w1) (hg : g < w.heap.size) (h : gets w g o n = c) : gets w1 g o n = c := by
  unfold gets at h ⊢
  rw [hS.block g hg (fun f => f)]
  exact h
/-- a state in memory -/
structure Sm where (pc halt : Int) (g n c : Nat)
abbrev Sm.cells (s : Sm) : Array Value := #[.int .i64 s.pc, .slice (some ⟨s.g, 0, none⟩) s.n s.c, .int .i64 s.halt]
attribute [go_sem] Sm.cells
abbrev Cfg := Int × Int × List Int
structure StV (w : World) (s : Sm) (r : Cfg) : Prop where
  pc : s.pc = r.1
  halt : s.halt = r.2.1
  len : s.n = r.2.2.length
  mem : ∃ base, MemAt w base s.g s.n s.c r.2.2
theorem StV.ext {w w' : World} {s : Sm} {r : Cfg} (h : StV w s r) (hx : Ext w w') : StV w' s r := by
  obtain ⟨h1, h2, h3, b, h4⟩ := h
  exact ⟨h1, h2, h3, b, h4.ext hx⟩
theorem StV.kept {S : Nat → Prop} {w w' : World} {s : Sm} {r : Cfg} (h : StV w s r) (hx : Kept S w w') (hs : ∀ i, S i → ∀ cur fr, ¬ w.heap[i]? = some (.cells cur 21 fr)) : StV w' s r := by
  obtain ⟨h1, h2, h3, b, h4⟩ := h
  obtain ⟨_, cur, _, hc, _⟩ := h4.inv
  exact ⟨h1, h2, h3, b, h4.kept hx (fun hS => hs _ hS _ _ hc)⟩
theorem infoS3 : (Tryz.prog.info? 70).map (fun i => (i.zero, i.size, i.bytes)) = some (some (.agg (stCells 0 none 0 0 0)), 3, 40) := by kernel_rfl
theorem sm_size (s : Sm) : (Sm.cells s).size = 3 := rfl
theorem sm_flat (s : Sm) : flatL (Sm.cells s).toList = true := rfl
theorem appSt (w : World) (base : Nat) (v : Value) (n : Nat) (xs : List Sm) (hown : w.ownsRow base 70 3 v n (rowsL Sm.cells xs)) (b off m c : Nat) (l : List Sm) (hm : m = l.length) (hr : Row w b off (rowsL Sm.cells l)) (hn : n + m ≤ 100000) (hbase : base ≤ w.heap.size) :
    ∃ v' w', (Builtin.append_ #[100, 100] 100 #[v, .slice (some ⟨b, off, none⟩) m c]).run Tryz.prog w = .ok v' w' ∧ w'.ownsRow base 70 3 v' (n + m) (rowsL Sm.cells (xs ++ l)) ∧ Kept (fun i => v.ownBlock = some i) w w' := by
  obtain ⟨i, hi, hz, h1, h2⟩ := info_parts infoS3
  have := app_some (P := Tryz.prog) Tryz.underlying100 hi hz h1 h2 (by rfl) (by decide) w base v n (rowsL Sm.cells xs) hown b off m c (rowsL Sm.cells l) (by rw [rowsL_len sm_size, hm]) hr (rowsL_flat sm_flat l) (by unfold maxLen; omega) (by omega) hbase
  rw [rowsL_app] at this
  exact this
theorem iff_want {c : Bool} {p q : Prop} (hc : c = true) (h : p) : if c = true then p else q := by rw [if_pos hc]; exact h
theorem infoS18 : (Tryz.prog.info? 45).map (fun i => (i.zero, i.size, i.bytes)) = some (some (.agg zeroW), 18, 136) := by kernel_rfl
theorem ws_size (s : Ws) : (Ws.cells s).size = 18 := rfl
theorem ws_flat (s : Ws) : flatL (Ws.cells s).toList = true := rfl
theorem appWs (w : World) (base : Nat) (v : Value) (n : Nat) (xs : List Ws) (hown : w.ownsRow base 45 18 v n (rowsL Ws.cells xs)) (b off m c : Nat) (l : List Ws) (hm : m = l.length) (hr : Row w b off (rowsL Ws.cells l)) (hn : n + m ≤ 100000) (hbase : base ≤ w.heap.size) :
    ∃ v' w', (Builtin.append_ #[102, 102] 102 #[v, .slice (some ⟨b, off, none⟩) m c]).run Tryz.prog w = .ok v' w' ∧ w'.ownsRow base 45 18 v' (n + m) (rowsL Ws.cells (xs ++ l)) ∧ Kept (fun i => v.ownBlock = some i) w w' := by
  obtain ⟨i, hi, hz, h1, h2⟩ := info_parts infoS18
  have := app_some (P := Tryz.prog) Tryz.underlying102 hi hz h1 h2 (by rfl) (by decide) w base v n (rowsL Ws.cells xs) hown b off m c (rowsL Ws.cells l) (by rw [rowsL_len ws_size, hm]) hr (rowsL_flat ws_flat l) (by unfold maxLen; omega) (by omega) hbase
  rw [rowsL_app] at this
  exact this
theorem StepV.kept {S : Nat → Prop} {w w' : World} {s : Ws} {L : Sl} (h : StepV w s L) (hx : Kept S w w') (hs : ∀ i, S i → ∀ cur fr, ¬ w.heap[i]? = some (.cells cur 30 fr)) (hs' : ∀ i, S i → ∀ cur fr, ¬ w.heap[i]? = some (.cells cur 77 fr)) : StepV w' s L :=
  ⟨h.pc, h.halt, h.words, h.mem, h.ins, h.path.kept hx hs, h.reads.kept hx hs hs', h.writes.kept hx hs hs'⟩
set_option maxRecDepth 100000 in
set_option maxHeartbeats 2000000 in
theorem owncode_any (A : Option Addr) (b off cap : Nat) (l : List Ins) (n : Nat) (hn : n = l.length) (h2 : n ≤ 4096) (hA : 0 < n → A = some ⟨b, off, none⟩) (w : World) (hr : 0 < n → Row w b off (inss l)) :
    Calls Tryz.prog 49 #[.slice A n cap] w fun e w' => OwnsI w w' e n l := by
  have HN := Lib.hid hn
  have HA := Lib.hid hA
  have HR := Lib.hid hr
  clear hn hA hr
  go_enter Tryz.func49, Tryz.ntmps49
  go_wp2_with fail
  go_loopw [3, 4] (fun t3 t4 wr => ∃ (k : Nat), k ≤ n ∧ t4 = .int .i64 k ∧ wr.ownsRow w.heap.size 41 4 t3 k (inss (l.take k)) ∧ Ext w wr) (fun _ t4 _ => n - (intOf t4).toNat)
  case atStart => exact ⟨0, Nat.zero_le _, rfl, World.ownsRow_nil _ _ _ _, Kept.refl _ _⟩
  case round =>
    obtain ⟨k, hk, rfl, ho, hx⟩ := hrel
    have hob : ∀ i, i < w.heap.size → (u3 : Value).ownBlock = some i → False := fun i hi e => by have := (ho.lt i e).1; omega
    have HOB := Lib.hid hob
    have HO := Lib.hid ho
    clear hob ho
    by_cases hlt : k < n
    · have hkl : k < l.length := by have := HN.out; omega
      obtain rfl := HA.out (by omega)
      have hrow := (HR.out (by omega)).ext hx
      obtain ⟨hrh, hrg⟩ := hrow.ins k hkl
      have hlr := hrow.lt
      have hlr0 := (HR.out (by omega)).lt
      have hll := inss_length l
      have hc0 : wr.cell? ⟨b, off + k * 4, none⟩ = some (.int .i64 (l[k]).op) := by
        have h1 := hrow.cell (k * 4) (by omega)
        have h2 := congrArg (·[0]?) (inss_at l k hkl)
        simp [List.getElem?_drop] at h2
        rw [h1, h2]
      have hc1 : wr.cell? ⟨b, off + k * 4 + 1, none⟩ = some (.int .i64 (l[k]).a) := by
        have h1 := hrow.cell (k * 4 + 1) (by omega)
        have h2 := congrArg (·[1]?) (inss_at l k hkl)
        simp [List.getElem?_drop] at h2
        rw [← Nat.add_assoc] at h1
        rw [h1, h2]
      have hc2 : wr.cell? ⟨b, off + k * 4 + 2, none⟩ = some (.int .i64 (l[k]).b) := by
        have h1 := hrow.cell (k * 4 + 2) (by omega)
        have h2 := congrArg (·[2]?) (inss_at l k hkl)
        simp [List.getElem?_drop] at h2
        rw [← Nat.add_assoc] at h1
        rw [h1, h2]
      have hc3 : wr.cell? ⟨b, off + k * 4 + 3, none⟩ = some (.int .i64 (l[k]).c) := by
        have h1 := hrow.cell (k * 4 + 3) (by omega)
        have h2 := congrArg (·[3]?) (inss_at l k hkl)
        simp [List.getElem?_drop] at h2
        rw [← Nat.add_assoc] at h1
        rw [h1, h2]
      have hltI : (k : Int) < n := by omega
      have hk0 : (0 : Int) ≤ k := by omega
      clear hrow hll hrh hrg
      obtain ⟨i, hi⟩ : ∃ i, i = l[k] := ⟨_, rfl⟩
      rw [← hi] at hc0 hc1 hc2 hc3
      have HI := Lib.hid hi
      clear hi
      have hnb : ¬ (u3 : Value).ownBlock = some b := fun e => by have := (HO.out.lt b e).1; omega
      have HNB := Lib.hid hnb
      clear hnb
      go_upto_region 5 with (fail)
      have hnb := HNB.out
      refine wp_region_3 (fun w2 => Kept (fun i => (u3 : Value).ownBlock = some i) wr w2) [(0, 2), (1, 2), (2, 2), (3, 2), (4, 2), (5, 1), (6, 2), (7, 2), (8, 2), (9, 2), (10, 1), (11, 2), (12, 2), (13, 2), (14, 2), (15, 1), (16, 2), (17, 2), (18, 2), (19, 2), (20, 1), (21, 2), (22, 0), (23, 0), (24, 2)] (by kernel_rfl) (by kernel_rfl) (by kernel_rfl) (by kernel_rfl) ?_; intro l' hl'; simp only [List.map_cons, List.map_nil, List.getD_cons_zero, List.getD_cons_succ] at hl'; subst hl'
      (repeat (first | ((apply w3_pure); (· go_simp); (· (intro w1; go_simp; try with_reducible rfl)); (intro K hK; go_simp; refine hK _ _ ?_; clear hK K)) | ((apply w3_skip); (· go_simp); (intro K hK; go_simp; refine hK _ _ ?_; clear hK K)) | ((apply w3_take); (· exact (Kept.drew (Kept.refl _ _))); (· go_simp); (· (intro w1 hS; have d0 := (Kept.cell hS (p := ⟨b, off + k * 4, none⟩) hlr hnb).trans hc0; have d1 := (Kept.cell hS (p := ⟨b, off + k * 4 + 1, none⟩) hlr hnb).trans hc1; have d2 := (Kept.cell hS (p := ⟨b, off + k * 4 + 2, none⟩) hlr hnb).trans hc2; have d3 := (Kept.cell hS (p := ⟨b, off + k * 4 + 3, none⟩) hlr hnb).trans hc3; have d4 := Nat.lt_of_lt_of_le hlr hS.size;  go_simp; try with_reducible rfl)); (intro K hK; go_simp; refine hK _ _ ?_; clear hK K)) | ((apply w3_pass); (· exact (Kept.drew (Kept.refl _ _))); (· go_simp); (intro K hK; go_simp; refine hK _ _ ?_; clear hK K))))
      have yW : Ext wr (wr.alloc (.cells i.cells 41)).drew := ((Kept.refl _ wr).alloc _).drew
      (refine w3_act (fun K hK => ?_); go_simp)
      refine hK.out _ _ (fun _ => Kept.ext yW) ?_
      clear hK K
      have hsz := hx.size
      obtain ⟨v2, w2, hr2, ho2, hk2⟩ := appI (wr.alloc (.cells i.cells 41)).drew w.heap.size u3 k (l.take k) ((HO.out.alloc _).drew) wr.heap.size 0 1 1 [i] rfl (by simpa [inss] using Row.of_blk (Blk.drew (Blk.new wr 41 i.cells))) (by omega) (by show _ ≤ (wr.alloc _).heap.size; simp; omega)
      have y2 : Kept (fun i => (u3 : Value).ownBlock = some i) wr w2 := (Kept.ext yW).trans hk2
      have HO2 := Lib.hid ho2
      clear ho2 hk2
      refine w3_act (fun K hK => ?_)
      refine iff_want rfl ?_
      refine Lib.wp_append_run _ _ _ _ _ rfl _ _ rfl rfl _ _ hr2 ?_
      refine hK.out _ _ (fun _ => y2) ?_
      clear hK K hr2
      (repeat (first | ((apply w3_pure); (· go_simp); (· (intro w1; go_simp; try with_reducible rfl)); (intro K hK; go_simp; refine hK _ _ ?_; clear hK K)) | ((apply w3_skip); (· go_simp); (intro K hK; go_simp; refine hK _ _ ?_; clear hK K)) | (refine w3_end (by kernel_rfl) (fun K hK => ?_); go_simp; refine hK.out _ _ ?_; clear hK K))); refine w3_nil ?_
      go_wp2_with fail
      go_roundw
      case rel => exact ⟨k + 1, hlt, by go_num, by rw [List.take_succ_eq_append_getElem hkl, ← HI.out]; exact HO2.out, hx.trans' y2 HOB.out⟩
      case measure => simp only [intOf]; omega
    · have HO' := HO.out
      clear HO
      go_wp2_with fail
      go_ret
      have e : k = n := by omega
      subst e
      rw [List.take_of_length_le (Nat.le_of_eq HN.out.symm)] at HO'
      exact ⟨_, rfl, HO', hx⟩
end Go.Proofs.YtahljceanodhkaaGreatDoor

/- Layers 15 and 23: Own, small, states. -/
namespace Go.Proofs.YtahljceanodhkaaGreatDoor
open Go.RowKit
set_option maxRecDepth 100000 in
set_option maxHeartbeats 2000000 in
theorem own_any (pc halt : Int) (b off cap : Nat) (m : List Int) (n : Nat) (hn : n = m.length) (h1 : 1 ≤ n) (h2 : n ≤ 4096) (w : World) (hr : Row w b off (mems m)) :
    Calls Tryz.prog 51 #[.agg (stCells pc (some ⟨b, off, none⟩) n cap halt)] w fun e w' => ∃ v, e = .returned v ∧ OwnsS w w' v n pc halt m := by
  have HN := Lib.hid hn
  have HR := Lib.hid hr
  clear hn hr
  have hx0 : Ext w _ := ((Kept.refl _ w).alloc (.cells (stCells pc (some ⟨b, off, none⟩) n cap halt) 61)).alloc (.cells (stCells 0 none 0 0 0) 70)
  have hA0 : Blk _ w.heap.size 61 (stCells pc (some ⟨b, off, none⟩) n cap halt) := Blk.alloc (Blk.new w _ _) (.cells (stCells 0 none 0 0 0) 70)
  have hR0 : Blk _ (w.heap.size + 1) 70 (stCells 0 none 0 0 0) := Blk.new' (w.alloc (.cells (stCells pc (some ⟨b, off, none⟩) n cap halt) 61)) _ _ _ (by simp)
  go_enter Tryz.func51, Tryz.ntmps51
  go_upto_region 1 with (fail)
  generalize ((w.alloc (.cells (stCells pc (some ⟨b, off, none⟩) n cap halt) 61)).alloc (.cells (stCells 0 none 0 0 0) 70)) = W at hx0 hA0 hR0 ⊢
  obtain ⟨sb, hsb⟩ : ∃ sb, sb = w.heap.size := ⟨_, rfl⟩
  rw [← hsb] at hA0 hR0 ⊢
  have HSB := Lib.hid hsb
  clear hsb
  have hrow := HR.out.ext hx0
  have hlR := hR0.lt
  refine wp_region_3 (fun w2 => Ext W w2) [(0, 2), (1, 1), (3, 2), (4, 1), (6, 2), (7, 1), (2, 0), (5, 0), (8, 2), (9, 0)] (by kernel_rfl) (by kernel_rfl) (by kernel_rfl) (by kernel_rfl) ?_; intro l' hl'; simp only [List.map_cons, List.map_nil, List.getD_cons_zero, List.getD_cons_succ] at hl'; subst hl'
  (repeat (first | ((apply w3_pure); (· go_simp); (· (intro w1; go_simp; try with_reducible rfl)); (intro K hK; go_simp; refine hK _ _ ?_; clear hK K)) | ((apply w3_skip); (· go_simp); (intro K hK; go_simp; refine hK _ _ ?_; clear hK K)) | ((apply w3_take); (· exact (Kept.drew (Kept.refl _ _))); (· go_simp); (· (intro w1 hS; have d1 := Blk.cell (Blk.ext hA0 hS); have d2 := (Blk.ext hA0 hS).lt;  go_simp; try with_reducible rfl)); (intro K hK; go_simp; refine hK _ _ ?_; clear hK K)) | ((apply w3_pass); (· exact (Kept.drew (Kept.refl _ _))); (· go_simp); (intro K hK; go_simp; refine hK _ _ ?_; clear hK K))))
  have yA : Ext W (W.alloc (.cells #[] 21)).drew := ((Kept.refl _ W).alloc _).drew
  (refine w3_act (fun K hK => ?_); go_simp)
  refine hK.out _ _ (fun _ => yA) ?_
  clear hK K
  have ho0 : (W.alloc (.cells #[] 21)).drew.ownsRow W.heap.size 21 1 (.slice (some ⟨W.heap.size, 0, none⟩) 0 0) 0 (mems []) := ⟨rfl, .inr ⟨W.heap.size, 0, #[], rfl, Nat.le_refl _, Blk.drew (Blk.new W 21 #[]), Nat.le_refl _, by unfold maxLen; omega, rfl, rfl⟩⟩
  obtain ⟨v2, w2, hr2, ho2, hk2⟩ := appM _ _ _ _ _ ho0 b off n cap m HN.out (hrow.ext yA) (by omega) yA.size
  have y2 : Ext W w2 := yA.trans' hk2 (fun i hi e => by simp [Value.ownBlock] at e; omega)
  rw [Nat.zero_add, List.nil_append] at ho2
  obtain ⟨g, c, rfl, _, hbg, _⟩ := own_rows ho2 h1 (by omega)
  have HO2 := Lib.hid ho2
  clear ho2 hk2 ho0
  (repeat (first | ((apply w3_pure); (· go_simp); (· (intro w1; go_simp; try with_reducible rfl)); (intro K hK; go_simp; refine hK _ _ ?_; clear hK K)) | ((apply w3_skip); (· go_simp); (intro K hK; go_simp; refine hK _ _ ?_; clear hK K))))
  refine w3_act (fun K hK => ?_)
  refine iff_want rfl ?_
  refine Lib.wp_append_run _ _ _ _ _ rfl _ _ rfl rfl _ _ hr2 ?_
  refine hK.out _ _ (fun _ => y2) ?_
  clear hK K hr2
  have hR2 := Blk.ext hR0 y2
  have i1 := Blk.has hR2
  have i2 := Blk.melts hR2
  have i3 := hR2.lt
  (repeat (first | ((apply w3_pure); (· go_simp); (· (intro w1; go_simp; try with_reducible rfl)); (intro K hK; go_simp; refine hK _ _ ?_; clear hK K)) | ((apply w3_skip); (· go_simp); (intro K hK; go_simp; refine hK _ _ ?_; clear hK K)) | (refine w3_end (by kernel_rfl) (fun K hK => ?_); go_simp; refine hK.out _ _ ?_; clear hK K))); refine w3_nil ?_
  go_wp2_with fail
  refine ret_cell Tryz.results51 rfl rfl aggMst (by exact sizeMst) (Blk.put_ hR2 _ _) ?_
  have kp : Kept (· = sb + 1) w2 (putAt w2 (sb + 1) 0 (stCells pc (some ⟨g, 0, none⟩) n c halt)) := Kept.putAt (Kept.refl _ w2) _ _ _ (fun _ => rfl)
  have hm : MemAt w2 W.heap.size g n c m := HO2.out
  have hsz := hx0.size
  have hs1 := HSB.out
  refine ⟨_, rfl, g, c, rfl, ?_, (hx0.trans y2).trans' kp (fun i hi e => by omega)⟩
  have := hm.kept kp (by omega)
  obtain ⟨e1, e2⟩ := this
  refine ⟨e1, e2.elim .inl (fun ⟨g', c', cur, q1, q2, q3⟩ => .inr ⟨g', c', cur, q1, by omega, q3⟩)⟩
abbrev courseC (A : Option Addr) (n cap : Nat) (pc : Int) (A' : Option Addr) (k cap' : Nat) (halt : Int) : Array Value := #[.slice A n cap, .int .i64 pc, .slice A' k cap', .int .i64 halt]
attribute [go_sem] courseC
def smallC (n k : Nat) (pc halt : Int) : Bool := decide (1 ≤ n) && decide (n ≤ 40) && decide (k ≤ 12) && rightS pc halt k
set_option maxRecDepth 100000 in
set_option maxHeartbeats 2000000 in
theorem small_any (A : Option Addr) (n cap : Nat) (pc : Int) (A' : Option Addr) (k cap' : Nat) (halt : Int) (w : World) :
    Calls Tryz.prog 48 #[.agg (courseC A n cap pc A' k cap' halt)] w fun e w' => e = .returned (.bool (smallC n k pc halt)) ∧ Ext w w' := by
  have hx0 : Ext w _ := (Kept.refl _ w).alloc (.cells (courseC A n cap pc A' k cap' halt) 99)
  by_cases hc : 1 ≤ n ∧ n ≤ 40 ∧ k ≤ 12
  · obtain ⟨h1, h2, h3⟩ := hc
    obtain ⟨R, hR⟩ : ∃ R, R = rightS pc halt k := ⟨_, rfl⟩
    have HR := Lib.hid hR
    clear hR
    go_enter Tryz.func48, Tryz.ntmps48
    go_wp2_with fail
    refine (rright_any pc halt A' k cap' _).mono ?_
    rintro e w1 ⟨e1, hx1⟩
    replace e1 : e = .returned (.bool R) := by rw [e1, HR.out]
    subst e1
    cases R
    all_goals
      go_wp2_with fail
      go_ret
      exact ⟨ret_bool (by simp [smallC, ← HR.out]; try omega), hx0.trans hx1⟩
  · have hn : smallC n k pc halt = false := by
      cases h : smallC n k pc halt
      · rfl
      · exact absurd (by simp [smallC] at h; omega) hc
    rw [hn]
    clear hn
    by_cases h1 : 1 ≤ n
    · by_cases h2 : n ≤ 40
      · have h3 : ¬ k ≤ 12 := fun h => hc ⟨h1, h2, h⟩
        clear hc
        go_enter Tryz.func48, Tryz.ntmps48
        go_wp2_with fail
        go_ret
        exact ⟨rfl, hx0⟩
      · clear hc
        go_enter Tryz.func48, Tryz.ntmps48
        go_wp2_with fail
        go_ret
        exact ⟨rfl, hx0⟩
    · clear hc
      go_enter Tryz.func48, Tryz.ntmps48
      go_wp2_with fail
      go_ret
      exact ⟨rfl, hx0⟩
end Go.Proofs.YtahljceanodhkaaGreatDoor
