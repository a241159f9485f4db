/- Several texts joined: Wk, Wm, Xa, Xb, Xc. -/
import Derived.Test.YtahljceanodhkaaGreatDoorTtf
import Derived.Test.YtahljceanodhkaaGreatDoorTue
/- Package witness: Make. -/
namespace Go.Proofs.YtahljceanodhkaaGreatDoor
open Go.RowKit
theorem TreeOK.above {w w' : World} {base p : Nat} {l : List Dg} (h : TreeOK w base p l) (hk : Kept (fun i => w.heap.size ≤ i) w w') : TreeOK w' base p l := by
  obtain ⟨cg, cc, f, G, h⟩ := h
  have h1 := h.blk.lt
  have h2 := h.cgl
  exact ⟨cg, cc, f, G, Blk.kept h.blk hk (by omega), h.f0, own_kept h.own hk (fun g hg => by simp [Value.ownBlock] at hg; omega), h.fl, fun u hu => Blk.kept (h.lv u hu) hk (by have := (h.lv u hu).lt; omega), h.inj, h.far, h.bp, h.pc⟩
theorem step_not {w : World} {g : Nat} {cs : Array Value} {E E' : TypeId} (h : Blk w g E cs) (hE : ¬ E = E') : ∀ cur fr, ¬ w.heap[g]? = some (.cells cur E' fr) := fun cur fr e => by
  rw [h] at e
  injection e with e
  injection e with _ e _
  exact hE e
theorem makeL_go {l : List Ins} {x n : Nat} {m : List Int} (hl : (l.length : Int) = n) (h : (x : Int) < n) : makeL l x 0 m = ⟨x, 0, m.length, memR m, l.getD x ⟨0, 0, 0, 0⟩, pathT (l.map ileaf) (hgt l.length) x, (mreads l x 0 m).1.map (showW m), if 0 ≤ (mreads l x 0 m).2 then [showW m (mreads l x 0 m).2] else []⟩ := by
  unfold makeL
  rw [if_neg (by omega)]
  rfl
/-- a step and no error handed back -/
def IsStep (w w' : World) (e : Ending) (L : Sl) : Prop := ∃ s : Ws, e = .returned (.tuple #[.agg s.cells, .int .i64 0]) ∧ StepV w' s L ∧ Ext w w'
set_option maxRecDepth 100000 in
set_option maxHeartbeats 4000000 in
theorem make_go (A : Option Addr) (b off cap : Nat) (l : List Ins) (n : Nat) (hn : n = l.length) (h2 : n ≤ 2048) (hok : ∀ i ∈ l, i.ok) (hA : 0 < n → A = some ⟨b, off, none⟩)
    (x : Nat) (b' off' cap' : Nat) (m : List Int) (k : Nat) (hk : k = m.length) (hg : rightS x 0 k = true) (hxn : x < n) (hmok : ∀ z ∈ m, i32ok z) (w : World) (hops : OpsAt w) (hr : 0 < n → Row w b off (inss l)) (hr' : Row w b' off' (mems m)) :
    Calls Tryz.prog 36 #[.slice A n cap, .agg (stCells x (some ⟨b', off', none⟩) k cap' 0)] w fun e w' => IsStep w w' e (makeL l x 0 m) := by
  have h1 : 1 ≤ n := by omega
  have hA' : 0 < k → some (⟨b', off', none⟩ : Addr) = some ⟨b', off', none⟩ := fun _ => rfl
  have HOPS := Lib.hid hops
  have HMOK := Lib.hid hmok
  have hrr : RunPre w A b off n l b' off' k x 0 m := ⟨hops, hA, hr, hn, h2, hk, hg, hmok, hr'⟩
  have HRR := Lib.hid hrr
  have hr'' : 0 < k → Row w b' off' (mems m) := fun _ => hr'
  clear hops hmok hrr hr'
  obtain ⟨k1, k2, h3, h4, h5, h6⟩ := rightS_inv hg
  have HG := Lib.hid hg
  have HN := Lib.hid hn
  have HO := Lib.hid hok
  have HA := Lib.hid hA
  have HR := Lib.hid hr
  have HKn := Lib.hid hk
  have HA' := Lib.hid hA'
  have HR' := Lib.hid hr''
  clear hn hA hr hg hok hk hA' hr''
  obtain ⟨M, hM⟩ : ∃ M, M = memR m := ⟨_, rfl⟩
  have HM := Lib.hid hM
  clear hM
  have hx0 : Ext w _ := ((Kept.refl _ w).alloc (.cells (stCells x (some ⟨b', off', none⟩) k cap' 0) 70)).alloc (.cells zeroW 45)
  have hA0 : Blk _ w.heap.size 70 (stCells x (some ⟨b', off', none⟩) k cap' 0) := Blk.alloc (Blk.new w _ _) (.cells zeroW 45)
  have hR0 : Blk _ (w.heap.size + 1) 45 zeroW := Blk.new' (w.alloc (.cells (stCells x (some ⟨b', off', none⟩) k cap' 0) 70)) _ _ _ (by simp)
  go_enter Tryz.func36, Tryz.ntmps36
  go_wp2_with fail
  refine (codetree_ok A b off cap l n HN.out h1 h2 HO.out HA.out _ (fun h => (HR.out h).ext hx0)).mono ?_
  rintro e w1 ⟨p, rfl, ht, hx1⟩
  have hA1 := Blk.ext hA0 hx1
  have hR1 := Blk.ext hR0 hx1
  have hc1 := Blk.cell hA1
  have y1 := hx0.trans hx1
  clear hx0 hx1 hA0 hR0
  go_wp2_with fail
  refine (memtree_ok x 0 (some ⟨b', off', none⟩) b' off' cap' m k HKn.out HG.out (fun _ => rfl) _ (fun h => (HR'.out h).ext y1)).mono ?_
  rintro e w2 ⟨q, rfl, hq, hx2⟩
  have hA2 := Blk.ext hA1 hx2
  have hR2 := Blk.ext hR1 hx2
  have y2 := y1.trans hx2
  have hP2 := Blk.new w2 126 #[.pointer (some ⟨q, 0, none⟩)]
  have hx3 := (Kept.refl (fun _ => False) w2).alloc (.cells #[.pointer (some ⟨q, 0, none⟩)] 126)
  have hA3 := Blk.ext hA2 hx3
  have hR3 := Blk.ext hR2 hx3
  have hq3 := hq.ext hx3
  have y3 := y2.trans hx3
  clear hc1
  go_wp2_with fail
  generalize (w2.alloc (.cells #[.pointer (some ⟨q, 0, none⟩)] 126)) = W at hP2 hA3 hR3 hq3 y3 hx3 ⊢
  have hlA := Blk.lt hA3
  have hlR := Blk.lt hR3
  have hlP := Blk.lt hP2
  generalize w2.heap.size = h2s at hP2 hlP ⊢
  have ht3 := ht.ext (hx2.trans hx3)
  clear hA2 hR2 hA1 hR1 hx3 hq ht y1 y2 hx2
  refine wp_region_4 (fun w2 => Ext W w2) (.op 0 2 (.op 1 1 (.op 2 2 (.op 3 1 (.op 4 2 (.op 5 1 (.op 6 2 (.op 7 1 (.fork 8 (.op 9 2 (.op 10 0 (.op 11 0 .nil))) 10 (.op 8 0 (.op 9 2 (.op 11 0 .nil)))))))))))) (by kernel_rfl) (by kernel_rfl) (by kernel_rfl) (by kernel_rfl) ?_; intro p' hp'; simp only [Pl0.fill, List.getD_cons_zero, List.getD_cons_succ] at hp'; subst hp'
  (repeat (first | ((apply w4_pure); (· go_simp); (· (intro w1; go_simp; try with_reducible rfl)); (intro K hK; go_simp; refine hK _ _ ?_; clear hK K)) | ((apply w4_skip); (· go_simp); (intro K hK; go_simp; refine hK _ _ ?_; clear hK K)) | ((apply w4_take); (· exact (Kept.drew (Kept.refl _ _))); (· go_simp); (· (intro w1 hS; have d1 := Blk.cell (Blk.ext hA3 hS); have d2 := Blk.cell (Blk.ext hP2 hS);  go_simp; try with_reducible rfl)); (intro K hK; go_simp; refine hK _ _ ?_; clear hK K)) | ((apply w4_pass); (· exact (Kept.drew (Kept.refl _ _))); (· go_simp); (intro K hK; go_simp; refine hK _ _ ?_; clear hK K))))
  have y : Ext W W.drew := (Kept.refl _ W).drew
  refine w4_fork ?_ ?_
  · (refine w4_act (fun K hK => ?_); go_simp)
    go_wp2_with fail
    refine (troot_tree _ q (m.map leafW) _ (by rw [List.length_map, ← HKn.out]; exact k1) (by rw [List.length_map, ← HKn.out]; omega) (hq3.ext y)).mono ?_
    rintro e w4 ⟨e4, hx4⟩
    replace e4 : e = .returned (.agg M.cells) := by rw [e4, HM.out]; rfl
    subst e4
    have y4 : Ext W w4 := y.trans hx4
    refine hK.out _ _ (fun _ => y4) ?_
    clear hK K
    (repeat (first | ((apply w4_pure); (· go_simp); (· (intro w1; go_simp; try with_reducible rfl)); (intro K hK; go_simp; refine hK _ _ ?_; clear hK K)) | ((apply w4_skip); (· go_simp); (intro K hK; go_simp; refine hK _ _ ?_; clear hK K))))
    (refine w4_act (fun K hK => ?_); go_simp)
    refine hK.out _ _ (fun _ => y4.alloc _) ?_
    clear hK K
    (repeat (first | ((apply w4_pure); (· go_simp); (· (intro w1; go_simp; try with_reducible rfl)); (intro K hK; go_simp; refine hK _ _ ?_; clear hK K)) | ((apply w4_skip); (· go_simp); (intro K hK; go_simp; refine hK _ _ ?_; clear hK K)) | (refine w4_end (by kernel_rfl) (fun K hK => ?_); go_simp; refine hK.out _ _ ?_; clear hK K))); refine w4_nil ?_
    have hA5 := Blk.ext hA3 (y4.alloc (.cells (bareC x 0 k M) 45))
    have hR5 := Blk.ext hR3 (y4.alloc (.cells (bareC x 0 k M) 45))
    have y5 := y3.trans (y4.alloc (.cells (bareC x 0 k M) 45))
    have xW := y4.alloc (.cells (bareC x 0 k M) 45)
    have hP5 := Blk.ext hP2 (y4.alloc (.cells (bareC x 0 k M) 45))
    have hlW := y4.size
    have hN5 := Blk.new w4 45 (bareC x 0 k M)
    have hl5 := Blk.lt hN5
    generalize (w4.alloc (.cells (bareC x 0 k M) 45)) = W5 at hA5 hR5 y5 hN5 hl5 xW hP5 ⊢
    generalize w4.heap.size = c9 at hN5 hl5 hlW ⊢
    have hc5 := Blk.cell hA5
    have hh5 := Blk.has hR5
    have hm5 := Blk.melts hR5
    have hh6 := Blk.has hN5
    have hg6 := Blk.gets hN5
    have hcA : ¬ w.heap.size = c9 := by omega
    have hcR : ¬ w.heap.size + 1 = c9 := by omega
    have hcP : ¬ h2s = c9 := by omega
    have bx : decide ((n : Int) ≤ x) = false := by simp; omega
    have bx' : decide (n ≤ x) = false := by simp; omega
    have hxI : (x : Int) < n := by omega
    have hxl : x < l.length := by have := HN.out; omega
    have hlow := y5.size
    have hrowC := (HR.out h1).ext y5
    obtain rfl := HA.out h1
    obtain ⟨a1, a2⟩ := hrowC.ins x hxl
    have lC := hrowC.lt
    obtain ⟨i, hi⟩ : ∃ i, i = l[x] := ⟨_, rfl⟩
    rw [← hi] at a2
    have HI := Lib.hid hi
    clear hi
    have j1 := Blk.has hN5
    have j2 := Blk.melts hN5
    have lA5 := hA5.lt
    clear hh5 hm5 hh6 hg6
    go_upto_region 11 with (fail)
    have hA6 := Blk.putFar hA5 hcA 11 i.cells
    have hR6 := Blk.putFar hR5 hcR 11 i.cells
    have hP6 := Blk.putFar hP5 hcP 11 i.cells
    have hN6 : Blk (putAt W5 c9 11 i.cells) c9 45 (Ws.cells ⟨x, 0, k, M, i, none, 0, 0, none, 0, 0, none, 0, 0⟩) := Blk.put_ hN5 11 i.cells
    have y6 : Ext w (putAt W5 c9 11 i.cells) := Kept.putAt y5 _ _ _ (fun h => by omega)
    have kW : Kept (fun i => W.heap.size ≤ i) W (putAt W5 c9 11 i.cells) := Kept.putAt (Kept.ext xW) _ _ _ (fun _ => hlW)
    have ht6 := ht3.above kW
    clear hA5 hR5 hP5 hN5 y5 xW a1 a2 j1 j2 hc5
    generalize (putAt W5 c9 11 i.cells) = W6 at hA6 hR6 hP6 hN6 y6 kW ht6 ⊢
    have hcA6 := Blk.cell hA6
    have lA6 := hA6.lt
    go_wp2_with fail
    refine (tpath_ok _ p (l.map ileaf) x _ (by rw [List.length_map, ← HN.out]; exact h1) (by rw [List.length_map, ← HN.out]; omega) (by rw [List.length_map, ← HN.out]; exact hxn) ht6).mono ?_
    rintro e w7 ⟨v7, rfl, ho7, hx7⟩
    obtain ⟨pA, pk, rfl, hpv⟩ := PathV.of_own ho7 (pathT_ok _ _ _)
    obtain ⟨Hh, hHh⟩ : ∃ Hh, hgt (l.map ileaf).length = Hh := ⟨_, rfl⟩
    rw [hHh] at hpv ⊢
    have HHH := Lib.hid hHh
    have hA7 := Blk.ext hA6 hx7
    have hR7 := Blk.ext hR6 hx7
    have hP7 := Blk.ext hP6 hx7
    have hN7 := Blk.ext hN6 hx7
    have y7 := y6.trans hx7
    have k7 := kW.trans (Kept.ext hx7)
    have hc7 := Blk.cell hN7
    have hf7 := Blk.frozen hN7
    have lN6 := hN6.lt
    clear hA6 hR6 hP6 hN6 y6 kW ht6 hcA6 hHh ho7
    obtain ⟨U, hU⟩ : ∃ U, U = Value.slice pA Hh pk := ⟨_, rfl⟩
    have hA8 := Blk.far hA7 (p := ⟨c9, 15, none⟩) hcA U
    have hR8 := Blk.far hR7 (p := ⟨c9, 15, none⟩) hcR U
    have hP8 := Blk.far hP7 (p := ⟨c9, 15, none⟩) hcP U
    have hN8 : Blk (w7.setCell ⟨c9, 15, none⟩ U) c9 45 (Ws.cells ⟨x, 0, k, M, i, pA, Hh, pk, none, 0, 0, none, 0, 0⟩) := by rw [hU]; exact Blk.set_ hN7 15 (.slice pA Hh pk)
    have y8 : Ext w (w7.setCell ⟨c9, 15, none⟩ U) := Kept.setCell y7 ⟨c9, 15, none⟩ _ (fun h => by have : c9 < w.heap.size := h; omega)
    have k8 : Kept (fun i => W.heap.size ≤ i) W (w7.setCell ⟨c9, 15, none⟩ U) := Kept.setCell k7 ⟨c9, 15, none⟩ _ (fun _ => hlW)
    have hNtc : ∀ cur fr, ¬ w7.heap[c9]? = some (.cells cur 30 fr) := fun cur fr e => by
      rw [hN7] at e
      injection e with e
      injection e with _ e _
      exact absurd e (by decide)
    have hpv8 : PathV (w7.setCell ⟨c9, 15, none⟩ U) pA Hh _ := hpv.kept (Kept.setCell (S := (· = c9)) (Kept.refl _ w7) ⟨c9, 15, none⟩ U (fun _ => rfl)) (fun j hj => by subst hj; exact hNtc)
    have hmf : ∀ (fn : Fn) (first cap : Array Value) (w : World), (Instr.makeFunc fn first cap).run Tryz.prog w = .ok (.func fn first cap) w := fun _ _ _ _ => rfl
    go_upto_region 15 with (fail)
    rw [← hU]
    clear hc7 hf7 hA7 hR7 hP7 hN7 y7 k7 hpv hNtc hmf
    generalize (w7.setCell ⟨c9, 15, none⟩ U) = W8 at hA8 hR8 hP8 hN8 y8 k8 hpv8 ⊢
    clear hU
    have i1 := Blk.has hA8
    have i2 := Blk.gets hA8
    have lA8 := hA8.lt
    go_wp2_with fail
    obtain ⟨R, hR⟩ : ∃ R, R = mreads l x 0 m := ⟨_, rfl⟩
    have hRin := mreads_in l x 0 m
    rw [← hR, ← HKn.out] at hRin
    have HRn := Lib.hid hR
    have HRin := Lib.hid hRin
    clear hR hRin
    refine (mreads_any (some ⟨b, off, none⟩) b off n cap l x 0 b' off' k cap' m _ (HRR.out.ext y8)).mono ?_
    rintro e w9 ⟨v9, e9, ho9, hx9⟩
    rw [← HRn.out] at e9 ho9
    obtain ⟨rl, rw9⟩ := R
    simp only at e9 ho9
    subst e9
    have hA9 := Blk.ext hA8 hx9
    have hR9 := Blk.ext hR8 hx9
    have hP9 := Blk.ext hP8 hx9
    have hN9 := Blk.ext hN8 hx9
    have y9 := y8.trans hx9
    have k9 := k8.trans (Kept.ext hx9)
    have hpv9 := hpv8.ext hx9
    clear i1 i2 hA8 hR8 hP8 hN8 y8 k8 hpv8 hx9
    go_wp2_with fail
    refine (shown_any v9 _ rl.length rl h2s w.heap.size q x 0 b' off' k cap' m _ _ ho9 (by have := HRin.out.2.2; omega) HRin.out.1 HKn.out k1 k2 (hq3.above k9) hP9 hA9 ((HR'.out k1).ext y9)).mono ?_
    rintro e w10 ⟨wA, wn, wc, rfl, hws, hx10⟩
    have hA10 := Blk.ext hA9 hx10
    have hR10 := Blk.ext hR9 hx10
    have hP10 := Blk.ext hP9 hx10
    have hN10 := Blk.ext hN9 hx10
    have y10 := y9.trans hx10
    have k10 := k9.trans (Kept.ext hx10)
    have hpv10 := hpv9.ext hx10
    have hc10 := Blk.cell hN10
    have hf10 := Blk.frozen hN10
    have lN := hN10.lt
    clear hA9 hR9 hP9 hN9 y9 k9 hpv9 hx10 ho9
    have hA11 := Blk.far hA10 (p := ⟨c9, 16, none⟩) hcA (.slice wA wn wc)
    have hR11 := Blk.far hR10 (p := ⟨c9, 16, none⟩) hcR (.slice wA wn wc)
    have hP11 := Blk.far hP10 (p := ⟨c9, 16, none⟩) hcP (.slice wA wn wc)
    have hN11 : Blk (w10.setCell ⟨c9, 16, none⟩ (.slice wA wn wc)) c9 45 (Ws.cells ⟨x, 0, k, M, i, pA, Hh, pk, wA, wn, wc, none, 0, 0⟩) := Blk.set_ hN10 16 (.slice wA wn wc)
    have y11 : Ext w (w10.setCell ⟨c9, 16, none⟩ (.slice wA wn wc)) := Kept.setCell y10 ⟨c9, 16, none⟩ _ (fun h => by have : c9 < w.heap.size := h; omega)
    have k11 : Kept (fun i => W.heap.size ≤ i) W (w10.setCell ⟨c9, 16, none⟩ (.slice wA wn wc)) := Kept.setCell k10 ⟨c9, 16, none⟩ _ (fun _ => hlW)
    have kc11 : Kept (· = c9) w10 (w10.setCell ⟨c9, 16, none⟩ (.slice wA wn wc)) := Kept.setCell (Kept.refl _ w10) ⟨c9, 16, none⟩ _ (fun _ => rfl)
    have hpv11 := hpv10.kept kc11 (fun j hj => by subst hj; exact step_not hN10 (by decide))
    have hws11 := hws.kept kc11 (fun j hj => by subst hj; exact step_not hN10 (by decide)) (fun j hj => by subst hj; exact step_not hN10 (by decide))
    go_upto_region 17 with (fail)
    clear hA10 hR10 hP10 hN10 y10 k10 hpv10 hc10 hf10 hws kc11
    generalize (w10.setCell ⟨c9, 16, none⟩ (.slice wA wn wc)) = W11 at hA11 hR11 hP11 hN11 y11 k11 hpv11 hws11 ⊢
    have lN11 := hN11.lt
    have lR11 := hR11.lt
    by_cases hw0 : 0 ≤ rw9
    · have bw0 : decide (0 ≤ rw9) = true := by simpa using hw0
      have hwl : rw9 < k := HRin.out.2.1
      have x12 := (Kept.refl (fun _ => False) W11).alloc (.cells #[.int .i64 rw9] 3)
      have hV12 := Blk.new W11 3 #[.int .i64 rw9]
      have ho12 : (W11.alloc (.cells #[.int .i64 rw9] 3)).ownsRow W11.heap.size 3 1 (.slice (some ⟨W11.heap.size, 0, none⟩) 1 1) 1 (ints [rw9]) := ⟨rfl, .inr ⟨W11.heap.size, 1, #[.int .i64 rw9], rfl, Nat.le_refl _, hV12, Nat.le_refl _, by unfold maxLen; omega, rfl, rfl⟩⟩
      have hA12 := Blk.ext hA11 x12
      have hR12 := Blk.ext hR11 x12
      have hP12 := Blk.ext hP11 x12
      have hN12 := Blk.ext hN11 x12
      have y12 := y11.trans x12
      have k12 := k11.trans (Kept.ext x12)
      have hpv12 := hpv11.ext x12
      have hws12 := hws11.ext x12
      clear hA11 hR11 hP11 hN11 y11 k11 hpv11 hws11 x12 hV12
      go_wp2_with fail
      refine (shown_any (.slice (some ⟨W11.heap.size, 0, none⟩) 1 1) _ 1 [rw9] h2s w.heap.size q x 0 b' off' k cap' m _ _ ho12 (by omega) (fun z hz => by simp at hz; subst hz; exact ⟨hw0, hwl⟩) HKn.out k1 k2 (hq3.above k12) hP12 hA12 ((HR'.out k1).ext y12)).mono ?_
      rintro e w13 ⟨zA, zn, zc, rfl, hzs, hx13⟩
      have hR13 := Blk.ext hR12 hx13
      have hN13 := Blk.ext hN12 hx13
      have y13 := y12.trans hx13
      have hpv13 := hpv12.ext hx13
      have hws13 := hws12.ext hx13
      have hc13 := Blk.cell hN13
      have hf13 := Blk.frozen hN13
      have lN13 := hN13.lt
      clear hA12 hR12 hP12 hN12 y12 k12 hpv12 hws12 hx13 ho12
      have hR14 := Blk.far hR13 (p := ⟨c9, 17, none⟩) hcR (.slice zA zn zc)
      have hN14 : Blk (w13.setCell ⟨c9, 17, none⟩ (.slice zA zn zc)) c9 45 (Ws.cells ⟨x, 0, k, M, i, pA, Hh, pk, wA, wn, wc, zA, zn, zc⟩) := Blk.set_ hN13 17 (.slice zA zn zc)
      have y14 : Ext w (w13.setCell ⟨c9, 17, none⟩ (.slice zA zn zc)) := Kept.setCell y13 ⟨c9, 17, none⟩ _ (fun h => by have : c9 < w.heap.size := h; omega)
      have kc14 : Kept (· = c9) w13 (w13.setCell ⟨c9, 17, none⟩ (.slice zA zn zc)) := Kept.setCell (Kept.refl _ w13) ⟨c9, 17, none⟩ _ (fun _ => rfl)
      have hpv14 := hpv13.kept kc14 (fun j hj => by subst hj; exact step_not hN13 (by decide))
      have hws14 := hws13.kept kc14 (fun j hj => by subst hj; exact step_not hN13 (by decide)) (fun j hj => by subst hj; exact step_not hN13 (by decide))
      have hzs14 := hzs.kept kc14 (fun j hj => by subst hj; exact step_not hN13 (by decide)) (fun j hj => by subst hj; exact step_not hN13 (by decide))
      go_upto_region 19 with (fail)
      clear hR13 hN13 y13 hpv13 hws13 hc13 hf13 kc14 hzs
      generalize (w13.setCell ⟨c9, 17, none⟩ (.slice zA zn zc)) = W14 at hR14 hN14 y14 hpv14 hws14 hzs14 ⊢
      have lN14 := hN14.lt
      have lR14 := hR14.lt
      have i1 := Blk.has hN14
      have i2 := Blk.gets hN14
      have i3 := Blk.has hR14
      have i4 := Blk.melts hR14
      go_wp2_with fail
      refine ret_ci Tryz.results36 rfl rfl aggStep (by exact sizeStep) (Blk.put_ hR14 _ _) ⟨⟨x, 0, k, M, i, pA, Hh, pk, wA, wn, wc, zA, zn, zc⟩, rfl, ?_, Kept.putAt y14 _ _ _ (fun h => by omega)⟩
      have kf : Kept (· = w.heap.size + 1) W14 _ := Kept.putAt (Kept.refl _ W14) (w.heap.size + 1) 0 (Ws.cells ⟨x, 0, k, M, i, pA, Hh, pk, wA, wn, wc, zA, zn, zc⟩) (fun _ => rfl)
      rw [makeL_go (show (l.length : Int) = n by rw [HN.out]) hxI]
      refine ⟨rfl, rfl, by rw [HKn.out], HM.out, by simp [HI.out, hxl], ?_, ?_, ?_⟩
      · have := hpv14.kept kf (fun j hj => by subst hj; exact step_not hR14 (by decide))
        have e := HHH.out
        rw [List.length_map] at e
        rw [e]
        exact this
      · have := hws14.kept kf (fun j hj => by subst hj; exact step_not hR14 (by decide)) (fun j hj => by subst hj; exact step_not hR14 (by decide))
        rw [← HRn.out]; exact this
      · have := hzs14.kept kf (fun j hj => by subst hj; exact step_not hR14 (by decide)) (fun j hj => by subst hj; exact step_not hR14 (by decide))
        rw [← HRn.out]; simp only; rw [if_pos (by omega)]; exact this
    · have bw0 : decide (0 ≤ rw9) = false := by simpa using hw0
      have i1 := Blk.has hN11
      have i2 := Blk.gets hN11
      have i3 := Blk.has hR11
      have i4 := Blk.melts hR11
      go_wp2_with fail
      refine ret_ci Tryz.results36 rfl rfl aggStep (by exact sizeStep) (Blk.put_ hR11 _ _) ⟨⟨x, 0, k, M, i, pA, Hh, pk, wA, wn, wc, none, 0, 0⟩, rfl, ?_, Kept.putAt y11 _ _ _ (fun h => by omega)⟩
      have kf : Kept (· = w.heap.size + 1) W11 _ := Kept.putAt (Kept.refl _ W11) (w.heap.size + 1) 0 (Ws.cells ⟨x, 0, k, M, i, pA, Hh, pk, wA, wn, wc, none, 0, 0⟩) (fun _ => rfl)
      rw [makeL_go (show (l.length : Int) = n by rw [HN.out]) hxI]
      refine ⟨rfl, rfl, by rw [HKn.out], HM.out, by simp [HI.out, hxl], ?_, ?_, ?_⟩
      · have := hpv11.kept kf (fun j hj => by subst hj; exact step_not hR11 (by decide))
        have e := HHH.out
        rw [List.length_map] at e
        rw [e]
        exact this
      · have := hws11.kept kf (fun j hj => by subst hj; exact step_not hR11 (by decide)) (fun j hj => by subst hj; exact step_not hR11 (by decide))
        rw [← HRn.out]; exact this
      · rw [← HRn.out]; simp only; rw [if_neg (by omega)]; exact WordsS.none _
  · (refine w4_act (fun K hK => ?_); go_simp)
    refine hK.out _ _ (fun _ => y.alloc _) ?_
    clear hK K
    (repeat (first | ((apply w4_pure); (· go_simp); (· (intro w1; go_simp; try with_reducible rfl)); (intro K hK; go_simp; refine hK _ _ ?_; clear hK K)) | ((apply w4_skip); (· go_simp); (intro K hK; go_simp; refine hK _ _ ?_; clear hK K))))
    (refine w4_act (fun K hK => ?_); go_simp)
    go_wp2_with fail
    refine (troot_tree _ q (m.map leafW) _ (by rw [List.length_map, ← HKn.out]; exact k1) (by rw [List.length_map, ← HKn.out]; omega) (hq3.ext (y.alloc _))).mono ?_
    rintro e w4 ⟨e4, hx4⟩
    replace e4 : e = .returned (.agg M.cells) := by rw [e4, HM.out]; rfl
    subst e4
    have y4 : Ext W w4 := (y.alloc _).trans hx4
    refine hK.out _ _ (fun _ => y4) ?_
    clear hK K
    have hN4 : Blk w4 W.heap.size 45 zeroW := Blk.ext (Blk.new W.drew 45 zeroW) hx4
    have hh4 := Blk.has hN4
    have hm4 := Blk.melts hN4
    have hl4 := Blk.lt hN4
    (repeat (first | ((apply w4_pure); (· go_simp); (· (intro w1; go_simp; try with_reducible rfl)); (intro K hK; go_simp; refine hK _ _ ?_; clear hK K)) | ((apply w4_skip); (· go_simp); (intro K hK; go_simp; refine hK _ _ ?_; clear hK K)) | (refine w4_end (by kernel_rfl) (fun K hK => ?_); go_simp; refine hK.out _ _ ?_; clear hK K))); refine w4_nil ?_
    have yp : Ext W (putAt w4 W.heap.size 0 (bareC x 0 k M)) := Kept.putAt y4 _ _ _ (fun h => by omega)
    have hA5 := Blk.ext hA3 yp
    have hR5 := Blk.ext hR3 yp
    have y5 := y3.trans yp
    have xW := yp
    have hP5 := Blk.ext hP2 yp
    have hN5 : Blk (putAt w4 W.heap.size 0 (bareC x 0 k M)) W.heap.size 45 (bareC x 0 k M) := Blk.put_ hN4 _ _
    have hl5 := Blk.lt hN5
    generalize (putAt w4 W.heap.size 0 (bareC x 0 k M)) = W5 at hA5 hR5 y5 hN5 hl5 xW hP5 ⊢
    generalize hgen : W.heap.size = c9 at hN5 hl5 ⊢
    have hlW : W.heap.size ≤ c9 := by omega
    clear hgen
    have hc5 := Blk.cell hA5
    have hh5 := Blk.has hR5
    have hm5 := Blk.melts hR5
    have hh6 := Blk.has hN5
    have hg6 := Blk.gets hN5
    have hcA : ¬ w.heap.size = c9 := by omega
    have hcR : ¬ w.heap.size + 1 = c9 := by omega
    have hcP : ¬ h2s = c9 := by omega
    have bx : decide ((n : Int) ≤ x) = false := by simp; omega
    have bx' : decide (n ≤ x) = false := by simp; omega
    have hxI : (x : Int) < n := by omega
    have hxl : x < l.length := by have := HN.out; omega
    have hlow := y5.size
    have hrowC := (HR.out h1).ext y5
    obtain rfl := HA.out h1
    obtain ⟨a1, a2⟩ := hrowC.ins x hxl
    have lC := hrowC.lt
    obtain ⟨i, hi⟩ : ∃ i, i = l[x] := ⟨_, rfl⟩
    rw [← hi] at a2
    have HI := Lib.hid hi
    clear hi
    have j1 := Blk.has hN5
    have j2 := Blk.melts hN5
    have lA5 := hA5.lt
    clear hh5 hm5 hh6 hg6
    go_upto_region 11 with (fail)
    have hA6 := Blk.putFar hA5 hcA 11 i.cells
    have hR6 := Blk.putFar hR5 hcR 11 i.cells
    have hP6 := Blk.putFar hP5 hcP 11 i.cells
    have hN6 : Blk (putAt W5 c9 11 i.cells) c9 45 (Ws.cells ⟨x, 0, k, M, i, none, 0, 0, none, 0, 0, none, 0, 0⟩) := Blk.put_ hN5 11 i.cells
    have y6 : Ext w (putAt W5 c9 11 i.cells) := Kept.putAt y5 _ _ _ (fun h => by omega)
    have kW : Kept (fun i => W.heap.size ≤ i) W (putAt W5 c9 11 i.cells) := Kept.putAt (Kept.ext xW) _ _ _ (fun _ => hlW)
    have ht6 := ht3.above kW
    clear hA5 hR5 hP5 hN5 y5 xW a1 a2 j1 j2 hc5
    generalize (putAt W5 c9 11 i.cells) = W6 at hA6 hR6 hP6 hN6 y6 kW ht6 ⊢
    have hcA6 := Blk.cell hA6
    have lA6 := hA6.lt
    go_wp2_with fail
    refine (tpath_ok _ p (l.map ileaf) x _ (by rw [List.length_map, ← HN.out]; exact h1) (by rw [List.length_map, ← HN.out]; omega) (by rw [List.length_map, ← HN.out]; exact hxn) ht6).mono ?_
    rintro e w7 ⟨v7, rfl, ho7, hx7⟩
    obtain ⟨pA, pk, rfl, hpv⟩ := PathV.of_own ho7 (pathT_ok _ _ _)
    obtain ⟨Hh, hHh⟩ : ∃ Hh, hgt (l.map ileaf).length = Hh := ⟨_, rfl⟩
    rw [hHh] at hpv ⊢
    have HHH := Lib.hid hHh
    have hA7 := Blk.ext hA6 hx7
    have hR7 := Blk.ext hR6 hx7
    have hP7 := Blk.ext hP6 hx7
    have hN7 := Blk.ext hN6 hx7
    have y7 := y6.trans hx7
    have k7 := kW.trans (Kept.ext hx7)
    have hc7 := Blk.cell hN7
    have hf7 := Blk.frozen hN7
    have lN6 := hN6.lt
    clear hA6 hR6 hP6 hN6 y6 kW ht6 hcA6 hHh ho7
    obtain ⟨U, hU⟩ : ∃ U, U = Value.slice pA Hh pk := ⟨_, rfl⟩
    have hA8 := Blk.far hA7 (p := ⟨c9, 15, none⟩) hcA U
    have hR8 := Blk.far hR7 (p := ⟨c9, 15, none⟩) hcR U
    have hP8 := Blk.far hP7 (p := ⟨c9, 15, none⟩) hcP U
    have hN8 : Blk (w7.setCell ⟨c9, 15, none⟩ U) c9 45 (Ws.cells ⟨x, 0, k, M, i, pA, Hh, pk, none, 0, 0, none, 0, 0⟩) := by rw [hU]; exact Blk.set_ hN7 15 (.slice pA Hh pk)
    have y8 : Ext w (w7.setCell ⟨c9, 15, none⟩ U) := Kept.setCell y7 ⟨c9, 15, none⟩ _ (fun h => by have : c9 < w.heap.size := h; omega)
    have k8 : Kept (fun i => W.heap.size ≤ i) W (w7.setCell ⟨c9, 15, none⟩ U) := Kept.setCell k7 ⟨c9, 15, none⟩ _ (fun _ => hlW)
    have hNtc : ∀ cur fr, ¬ w7.heap[c9]? = some (.cells cur 30 fr) := fun cur fr e => by
      rw [hN7] at e
      injection e with e
      injection e with _ e _
      exact absurd e (by decide)
    have hpv8 : PathV (w7.setCell ⟨c9, 15, none⟩ U) pA Hh _ := hpv.kept (Kept.setCell (S := (· = c9)) (Kept.refl _ w7) ⟨c9, 15, none⟩ U (fun _ => rfl)) (fun j hj => by subst hj; exact hNtc)
    have hmf : ∀ (fn : Fn) (first cap : Array Value) (w : World), (Instr.makeFunc fn first cap).run Tryz.prog w = .ok (.func fn first cap) w := fun _ _ _ _ => rfl
    go_upto_region 15 with (fail)
    rw [← hU]
    clear hc7 hf7 hA7 hR7 hP7 hN7 y7 k7 hpv hNtc hmf
    generalize (w7.setCell ⟨c9, 15, none⟩ U) = W8 at hA8 hR8 hP8 hN8 y8 k8 hpv8 ⊢
    clear hU
    have i1 := Blk.has hA8
    have i2 := Blk.gets hA8
    have lA8 := hA8.lt
    go_wp2_with fail
    obtain ⟨R, hR⟩ : ∃ R, R = mreads l x 0 m := ⟨_, rfl⟩
    have hRin := mreads_in l x 0 m
    rw [← hR, ← HKn.out] at hRin
    have HRn := Lib.hid hR
    have HRin := Lib.hid hRin
    clear hR hRin
    refine (mreads_any (some ⟨b, off, none⟩) b off n cap l x 0 b' off' k cap' m _ (HRR.out.ext y8)).mono ?_
    rintro e w9 ⟨v9, e9, ho9, hx9⟩
    rw [← HRn.out] at e9 ho9
    obtain ⟨rl, rw9⟩ := R
    simp only at e9 ho9
    subst e9
    have hA9 := Blk.ext hA8 hx9
    have hR9 := Blk.ext hR8 hx9
    have hP9 := Blk.ext hP8 hx9
    have hN9 := Blk.ext hN8 hx9
    have y9 := y8.trans hx9
    have k9 := k8.trans (Kept.ext hx9)
    have hpv9 := hpv8.ext hx9
    clear i1 i2 hA8 hR8 hP8 hN8 y8 k8 hpv8 hx9
    go_wp2_with fail
    refine (shown_any v9 _ rl.length rl h2s w.heap.size q x 0 b' off' k cap' m _ _ ho9 (by have := HRin.out.2.2; omega) HRin.out.1 HKn.out k1 k2 (hq3.above k9) hP9 hA9 ((HR'.out k1).ext y9)).mono ?_
    rintro e w10 ⟨wA, wn, wc, rfl, hws, hx10⟩
    have hA10 := Blk.ext hA9 hx10
    have hR10 := Blk.ext hR9 hx10
    have hP10 := Blk.ext hP9 hx10
    have hN10 := Blk.ext hN9 hx10
    have y10 := y9.trans hx10
    have k10 := k9.trans (Kept.ext hx10)
    have hpv10 := hpv9.ext hx10
    have hc10 := Blk.cell hN10
    have hf10 := Blk.frozen hN10
    have lN := hN10.lt
    clear hA9 hR9 hP9 hN9 y9 k9 hpv9 hx10 ho9
    have hA11 := Blk.far hA10 (p := ⟨c9, 16, none⟩) hcA (.slice wA wn wc)
    have hR11 := Blk.far hR10 (p := ⟨c9, 16, none⟩) hcR (.slice wA wn wc)
    have hP11 := Blk.far hP10 (p := ⟨c9, 16, none⟩) hcP (.slice wA wn wc)
    have hN11 : Blk (w10.setCell ⟨c9, 16, none⟩ (.slice wA wn wc)) c9 45 (Ws.cells ⟨x, 0, k, M, i, pA, Hh, pk, wA, wn, wc, none, 0, 0⟩) := Blk.set_ hN10 16 (.slice wA wn wc)
    have y11 : Ext w (w10.setCell ⟨c9, 16, none⟩ (.slice wA wn wc)) := Kept.setCell y10 ⟨c9, 16, none⟩ _ (fun h => by have : c9 < w.heap.size := h; omega)
    have k11 : Kept (fun i => W.heap.size ≤ i) W (w10.setCell ⟨c9, 16, none⟩ (.slice wA wn wc)) := Kept.setCell k10 ⟨c9, 16, none⟩ _ (fun _ => hlW)
    have kc11 : Kept (· = c9) w10 (w10.setCell ⟨c9, 16, none⟩ (.slice wA wn wc)) := Kept.setCell (Kept.refl _ w10) ⟨c9, 16, none⟩ _ (fun _ => rfl)
    have hpv11 := hpv10.kept kc11 (fun j hj => by subst hj; exact step_not hN10 (by decide))
    have hws11 := hws.kept kc11 (fun j hj => by subst hj; exact step_not hN10 (by decide)) (fun j hj => by subst hj; exact step_not hN10 (by decide))
    go_upto_region 17 with (fail)
    clear hA10 hR10 hP10 hN10 y10 k10 hpv10 hc10 hf10 hws kc11
    generalize (w10.setCell ⟨c9, 16, none⟩ (.slice wA wn wc)) = W11 at hA11 hR11 hP11 hN11 y11 k11 hpv11 hws11 ⊢
    have lN11 := hN11.lt
    have lR11 := hR11.lt
    by_cases hw0 : 0 ≤ rw9
    · have bw0 : decide (0 ≤ rw9) = true := by simpa using hw0
      have hwl : rw9 < k := HRin.out.2.1
      have x12 := (Kept.refl (fun _ => False) W11).alloc (.cells #[.int .i64 rw9] 3)
      have hV12 := Blk.new W11 3 #[.int .i64 rw9]
      have ho12 : (W11.alloc (.cells #[.int .i64 rw9] 3)).ownsRow W11.heap.size 3 1 (.slice (some ⟨W11.heap.size, 0, none⟩) 1 1) 1 (ints [rw9]) := ⟨rfl, .inr ⟨W11.heap.size, 1, #[.int .i64 rw9], rfl, Nat.le_refl _, hV12, Nat.le_refl _, by unfold maxLen; omega, rfl, rfl⟩⟩
      have hA12 := Blk.ext hA11 x12
      have hR12 := Blk.ext hR11 x12
      have hP12 := Blk.ext hP11 x12
      have hN12 := Blk.ext hN11 x12
      have y12 := y11.trans x12
      have k12 := k11.trans (Kept.ext x12)
      have hpv12 := hpv11.ext x12
      have hws12 := hws11.ext x12
      clear hA11 hR11 hP11 hN11 y11 k11 hpv11 hws11 x12 hV12
      go_wp2_with fail
      refine (shown_any (.slice (some ⟨W11.heap.size, 0, none⟩) 1 1) _ 1 [rw9] h2s w.heap.size q x 0 b' off' k cap' m _ _ ho12 (by omega) (fun z hz => by simp at hz; subst hz; exact ⟨hw0, hwl⟩) HKn.out k1 k2 (hq3.above k12) hP12 hA12 ((HR'.out k1).ext y12)).mono ?_
      rintro e w13 ⟨zA, zn, zc, rfl, hzs, hx13⟩
      have hR13 := Blk.ext hR12 hx13
      have hN13 := Blk.ext hN12 hx13
      have y13 := y12.trans hx13
      have hpv13 := hpv12.ext hx13
      have hws13 := hws12.ext hx13
      have hc13 := Blk.cell hN13
      have hf13 := Blk.frozen hN13
      have lN13 := hN13.lt
      clear hA12 hR12 hP12 hN12 y12 k12 hpv12 hws12 hx13 ho12
      have hR14 := Blk.far hR13 (p := ⟨c9, 17, none⟩) hcR (.slice zA zn zc)
      have hN14 : Blk (w13.setCell ⟨c9, 17, none⟩ (.slice zA zn zc)) c9 45 (Ws.cells ⟨x, 0, k, M, i, pA, Hh, pk, wA, wn, wc, zA, zn, zc⟩) := Blk.set_ hN13 17 (.slice zA zn zc)
      have y14 : Ext w (w13.setCell ⟨c9, 17, none⟩ (.slice zA zn zc)) := Kept.setCell y13 ⟨c9, 17, none⟩ _ (fun h => by have : c9 < w.heap.size := h; omega)
      have kc14 : Kept (· = c9) w13 (w13.setCell ⟨c9, 17, none⟩ (.slice zA zn zc)) := Kept.setCell (Kept.refl _ w13) ⟨c9, 17, none⟩ _ (fun _ => rfl)
      have hpv14 := hpv13.kept kc14 (fun j hj => by subst hj; exact step_not hN13 (by decide))
      have hws14 := hws13.kept kc14 (fun j hj => by subst hj; exact step_not hN13 (by decide)) (fun j hj => by subst hj; exact step_not hN13 (by decide))
      have hzs14 := hzs.kept kc14 (fun j hj => by subst hj; exact step_not hN13 (by decide)) (fun j hj => by subst hj; exact step_not hN13 (by decide))
      go_upto_region 19 with (fail)
      clear hR13 hN13 y13 hpv13 hws13 hc13 hf13 kc14 hzs
      generalize (w13.setCell ⟨c9, 17, none⟩ (.slice zA zn zc)) = W14 at hR14 hN14 y14 hpv14 hws14 hzs14 ⊢
      have lN14 := hN14.lt
      have lR14 := hR14.lt
      have i1 := Blk.has hN14
      have i2 := Blk.gets hN14
      have i3 := Blk.has hR14
      have i4 := Blk.melts hR14
      go_wp2_with fail
      refine ret_ci Tryz.results36 rfl rfl aggStep (by exact sizeStep) (Blk.put_ hR14 _ _) ⟨⟨x, 0, k, M, i, pA, Hh, pk, wA, wn, wc, zA, zn, zc⟩, rfl, ?_, Kept.putAt y14 _ _ _ (fun h => by omega)⟩
      have kf : Kept (· = w.heap.size + 1) W14 _ := Kept.putAt (Kept.refl _ W14) (w.heap.size + 1) 0 (Ws.cells ⟨x, 0, k, M, i, pA, Hh, pk, wA, wn, wc, zA, zn, zc⟩) (fun _ => rfl)
      rw [makeL_go (show (l.length : Int) = n by rw [HN.out]) hxI]
      refine ⟨rfl, rfl, by rw [HKn.out], HM.out, by simp [HI.out, hxl], ?_, ?_, ?_⟩
      · have := hpv14.kept kf (fun j hj => by subst hj; exact step_not hR14 (by decide))
        have e := HHH.out
        rw [List.length_map] at e
        rw [e]
        exact this
      · have := hws14.kept kf (fun j hj => by subst hj; exact step_not hR14 (by decide)) (fun j hj => by subst hj; exact step_not hR14 (by decide))
        rw [← HRn.out]; exact this
      · have := hzs14.kept kf (fun j hj => by subst hj; exact step_not hR14 (by decide)) (fun j hj => by subst hj; exact step_not hR14 (by decide))
        rw [← HRn.out]; simp only; rw [if_pos (by omega)]; exact this
    · have bw0 : decide (0 ≤ rw9) = false := by simpa using hw0
      have i1 := Blk.has hN11
      have i2 := Blk.gets hN11
      have i3 := Blk.has hR11
      have i4 := Blk.melts hR11
      go_wp2_with fail
      refine ret_ci Tryz.results36 rfl rfl aggStep (by exact sizeStep) (Blk.put_ hR11 _ _) ⟨⟨x, 0, k, M, i, pA, Hh, pk, wA, wn, wc, none, 0, 0⟩, rfl, ?_, Kept.putAt y11 _ _ _ (fun h => by omega)⟩
      have kf : Kept (· = w.heap.size + 1) W11 _ := Kept.putAt (Kept.refl _ W11) (w.heap.size + 1) 0 (Ws.cells ⟨x, 0, k, M, i, pA, Hh, pk, wA, wn, wc, none, 0, 0⟩) (fun _ => rfl)
      rw [makeL_go (show (l.length : Int) = n by rw [HN.out]) hxI]
      refine ⟨rfl, rfl, by rw [HKn.out], HM.out, by simp [HI.out, hxl], ?_, ?_, ?_⟩
      · have := hpv11.kept kf (fun j hj => by subst hj; exact step_not hR11 (by decide))
        have e := HHH.out
        rw [List.length_map] at e
        rw [e]
        exact this
      · have := hws11.kept kf (fun j hj => by subst hj; exact step_not hR11 (by decide)) (fun j hj => by subst hj; exact step_not hR11 (by decide))
        rw [← HRn.out]; exact this
      · rw [← HRn.out]; simp only; rw [if_neg (by omega)]; exact WordsS.none _
end Go.Proofs.YtahljceanodhkaaGreatDoor

/- Make, whole. -/
namespace Go.Proofs.YtahljceanodhkaaGreatDoor
open Go.RowKit
/-- an empty step and an error handed back -/
def NoStep (w w' : World) (e : Ending) : Prop := e = .returned (.tuple #[.agg zeroW, .int .i64 2]) ∧ Ext w w'
set_option maxRecDepth 100000 in
set_option maxHeartbeats 1000000 in
theorem make_nocode (A : Option Addr) (cap n : Nat) (h : n < 1 ∨ 2048 < n) (pc halt : Int) (A' : Option Addr) (k cap' : Nat) (w : World) :
    Calls Tryz.prog 36 #[.slice A n cap, .agg (stCells pc A' k cap' halt)] w fun e w' => NoStep w w' e := by
  have HH := Lib.hid h
  clear h
  have hx0 : Ext w _ := ((Kept.refl _ w).alloc (.cells (stCells pc A' k cap' halt) 70)).alloc (.cells zeroW 45)
  have hR0 : Blk _ (w.heap.size + 1) 45 zeroW := Blk.new' (w.alloc (.cells (stCells pc A' k cap' halt) 70)) _ _ _ (by simp)
  have hh := Blk.has hR0
  have hm := Blk.melts hR0
  go_enter Tryz.func36, Tryz.ntmps36
  go_wp2_with fail
  refine (codetree_no A cap n HH.out _).mono ?_
  rintro e w1 ⟨rfl, rfl⟩
  go_wp2_with fail
  refine ret_ci Tryz.results36 rfl rfl aggStep (by exact sizeStep) hR0 ⟨rfl, hx0⟩
set_option maxRecDepth 100000 in
set_option maxHeartbeats 1000000 in
theorem make_nomem (A : Option Addr) (b off cap : Nat) (l : List Ins) (n : Nat) (hn : n = l.length) (h1 : 1 ≤ n) (h2 : n ≤ 2048) (hok : ∀ i ∈ l, i.ok) (hA : 0 < n → A = some ⟨b, off, none⟩)
    (pc halt : Int) (A' : Option Addr) (k cap' : Nat) (hg : rightS pc halt k = false) (w : World) (hr : 0 < n → Row w b off (inss l)) :
    Calls Tryz.prog 36 #[.slice A n cap, .agg (stCells pc A' k cap' halt)] w fun e w' => NoStep w w' e := by
  have HG := Lib.hid hg
  have HN := Lib.hid hn
  have HO := Lib.hid hok
  have HA := Lib.hid hA
  have HR := Lib.hid hr
  clear hn hA hr hg hok
  have hx0 : Ext w _ := ((Kept.refl _ w).alloc (.cells (stCells pc A' k cap' halt) 70)).alloc (.cells zeroW 45)
  have hA0 : Blk _ w.heap.size 70 (stCells pc A' k cap' halt) := Blk.alloc (Blk.new w _ _) (.cells zeroW 45)
  have hR0 : Blk _ (w.heap.size + 1) 45 zeroW := Blk.new' (w.alloc (.cells (stCells pc A' k cap' halt) 70)) _ _ _ (by simp)
  go_enter Tryz.func36, Tryz.ntmps36
  go_wp2_with fail
  refine (codetree_ok A b off cap l n HN.out h1 h2 HO.out HA.out _ (fun h => (HR.out h).ext hx0)).mono ?_
  rintro e w1 ⟨p, rfl, ht, hx1⟩
  have hA1 := Blk.ext hA0 hx1
  have hR1 := Blk.ext hR0 hx1
  have hc1 := Blk.cell hA1
  have y1 := hx0.trans hx1
  clear hx0 hx1 hA0 hR0 ht
  go_wp2_with fail
  refine (memtree_no pc halt A' cap' k HG.out _).mono ?_
  rintro e w2 ⟨rfl, hx2⟩
  have hR2 := Blk.ext hR1 hx2
  have y2 := y1.trans hx2
  have hx3 := (Kept.refl (fun _ => False) w2).alloc (.cells #[.pointer none] 126)
  have hR3 := Blk.ext hR2 hx3
  have hh := Blk.has hR3
  have hm := Blk.melts hR3
  have y3 := y2.trans hx3
  clear hc1
  go_wp2_with fail
  refine ret_ci Tryz.results36 rfl rfl aggStep (by exact sizeStep) (Blk.put_ hR3 _ _) ⟨rfl, ?_⟩
  exact Kept.putAt y3 _ _ _ (fun h => by omega)
theorem make_ok (A : Option Addr) (b off cap : Nat) (l : List Ins) (n : Nat) (hn : n = l.length) (h1 : 1 ≤ n) (h2 : n ≤ 2048) (hok : ∀ i ∈ l, i.ok) (hA : 0 < n → A = some ⟨b, off, none⟩)
    (pc halt : Int) (A' : Option Addr) (b' off' cap' : Nat) (m : List Int) (k : Nat) (hk : k = m.length) (hg : rightS pc halt k = true) (hA' : 0 < k → A' = some ⟨b', off', none⟩) (hmok : ∀ z ∈ m, i32ok z) (w : World) (hops : OpsAt w) (hr : 0 < n → Row w b off (inss l)) (hr' : 0 < k → Row w b' off' (mems m)) :
    Calls Tryz.prog 36 #[.slice A n cap, .agg (stCells pc A' k cap' halt)] w fun e w' => IsStep w w' e (makeL l pc halt m) := by
  by_cases hst : ¬ halt = 0 ∨ (n : Int) ≤ pc
  · refine (make_stays A b off cap l n hn h1 h2 hok hA pc halt A' b' off' cap' m k hk hg hA' hst w hr hr').mono ?_
    rintro e w' ⟨rfl, hx⟩
    refine ⟨bareStep pc halt m, rfl, ?_, hx⟩
    unfold makeL
    rw [if_pos (by rw [← hn]; exact hst)]
    exact ⟨rfl, rfl, rfl, rfl, rfl, PathV.none _, WordsS.none _, WordsS.none _⟩
  · obtain ⟨k1, k2, h3, h4, h5, h6⟩ := rightS_inv hg
    obtain ⟨x, rfl⟩ : ∃ x : Nat, pc = x := ⟨pc.toNat, by omega⟩
    obtain rfl : halt = 0 := by omega
    obtain rfl := hA' k1
    exact make_go A b off cap l n hn h2 hok hA x b' off' cap' m k hk hg (by omega) hmok w hops hr (hr' k1)
end Go.Proofs.YtahljceanodhkaaGreatDoor

/- A step seen by its own words alone: the plain law. -/
namespace Go.Proofs.YtahljceanodhkaaGreatDoor
open Go.RowKit
theorem getX_ok {m : List Int} (h : ∀ z ∈ m, i32ok z) (k : Nat) : i32ok (m.getD k 0) := by
  by_cases hk : k < m.length
  · simp [hk]; exact h _ (List.getElem_mem hk)
  · simp [hk]; unfold i32ok; omega
theorem readsK_sub {i : Ins} {h : List UInt8} {x : Int} {k : Nat} (hx : x ∈ readsK i h k) : x ∈ readsK i h (k + 1) := by
  unfold readsK
  split
  · exact hx
  · exact List.mem_append_left _ hx
theorem readsK_mem {i : Ins} {h : List UInt8} {k : Nat} (hs : skipR i (h.getD k 0) k = false) : ∀ n, k < n → nth3 i k ∈ readsK i h n
  | 0, hn => by omega
  | n + 1, hn => by
    by_cases hk : k < n
    · exact readsK_sub (readsK_mem hs n hk)
    · obtain rfl : k = n := by omega
      unfold readsK
      by_cases hc : (readsK i h k).contains (nth3 i k) = true
      · rw [if_pos (.inr hc)]; simpa using hc
      · rw [if_neg (fun f => f.elim (fun f => by rw [hs] at f; cases f) hc)]
        simp
theorem op_nat {i : Ins} (h : isOp i.op = true) : ∃ k : Nat, k < 22 ∧ i.op = k := by
  simp [isOp] at h
  exact ⟨i.op.toNat, by omega, by omega⟩
theorem reads_b {i : Ins} {k : Nat} (hk : i.op = k) (h : k = 2 ∨ k = 14 ∨ k = 16 ∨ k = 18 ∨ k = 20 ∨ k = 21 ∨ (3 ≤ k ∧ k ≤ 13)) : i.b ∈ readsN i := by
  have ho : isOp i.op = true := by simp [isOp]; omega
  unfold readsN
  rw [if_pos ho, hk]
  have := fun h' hs hl => readsK_mem (i := i) (h := h') (k := 1) hs h'.length hl
  rcases h with rfl | rfl | rfl | rfl | rfl | rfl | ⟨h1, h2⟩
  iterate 6 exact this _ (by simp [skipR, hk, hasN]) (by simp [hasN])
  rcases (by omega : k = 3 ∨ k = 4 ∨ k = 5 ∨ k = 6 ∨ k = 7 ∨ k = 8 ∨ k = 9 ∨ k = 10 ∨ k = 11 ∨ k = 12 ∨ k = 13) with rfl | rfl | rfl | rfl | rfl | rfl | rfl | rfl | rfl | rfl | rfl <;> exact this _ (by simp [skipR, hk, hasN]) (by simp [hasN])
theorem reads_c {i : Ins} {k : Nat} (hk : i.op = k) (h : k = 15 ∨ k = 16 ∨ (3 ≤ k ∧ k ≤ 13)) : i.c ∈ readsN i := by
  have ho : isOp i.op = true := by simp [isOp]; omega
  unfold readsN
  rw [if_pos ho, hk]
  have := fun h' hs hl => readsK_mem (i := i) (h := h') (k := 2) hs h'.length hl
  rcases h with rfl | rfl | ⟨h1, h2⟩
  iterate 2 exact this _ (by simp [skipR, hasN]) (by simp [hasN])
  rcases (by omega : k = 3 ∨ k = 4 ∨ k = 5 ∨ k = 6 ∨ k = 7 ∨ k = 8 ∨ k = 9 ∨ k = 10 ∨ k = 11 ∨ k = 12 ∨ k = 13) with rfl | rfl | rfl | rfl | rfl | rfl | rfl | rfl | rfl | rfl | rfl <;> exact this _ (by simp [skipR, hasN]) (by simp [hasN])
theorem reads_a {i : Ins} (hk : i.op = 17) : i.a ∈ readsN i := by
  have ho : isOp i.op = true := by simp [isOp]; omega
  unfold readsN
  rw [if_pos ho, hk]
  exact readsK_mem (i := i) (h := hasN 17) (k := 0) (by simp [skipR, hk, hasN]) _ (by simp [hasN])
/-- two memories that agree where an instruction reads -/
structure Agree (i : Ins) (m m' : List Int) : Prop where
  len : m'.length = m.length
  at_ : ∀ x ∈ mplace i m, mget m' x = mget m x
theorem mplace_sub {i : Ins} {m : List Int} {x : Int} (h : x ∈ readsN i) : x ∈ mplace i m := by
  unfold mplace
  split
  · exact List.mem_append_left _ h
  · exact h
theorem Agree.reads {i : Ins} {m m' : List Int} (h : Agree i m m') {x : Int} (hx : x ∈ readsN i) : mget m' x = mget m x := h.at_ x (mplace_sub hx)
theorem Agree.far {i : Ins} {m m' : List Int} (h : Agree i m m') : farI i m' = farI i m := by
  unfold farI
  by_cases h15 : i.op = 15
  · have := h.reads (reads_c (k := 15) h15 (by simp))
    unfold mget at this
    rw [if_pos h15, if_pos h15, this, h.len]
  · rw [if_neg h15, if_neg h15]
    by_cases h16 : i.op = 16
    · have := h.reads (reads_b (k := 16) h16 (by simp))
      unfold mget at this
      rw [if_pos h16, if_pos h16, this, h.len]
    · rw [if_neg h16, if_neg h16]
theorem Agree.place {i : Ins} {m m' : List Int} (h : Agree i m m') : mplace i m' = mplace i m := by unfold mplace; rw [h.far]
theorem Agree.writes {i : Ins} {m m' : List Int} (h : Agree i m m') : mwrites i m' = mwrites i m := by unfold mwrites; rw [h.far]
theorem Agree.lost {i : Ins} {m m' : List Int} (h : Agree i m m') : lost i m' = lost i m := by unfold Proofs.YtahljceanodhkaaGreatDoor.lost; rw [h.far]
theorem writesN_of {i : Ins} {k : Nat} (hk : i.op = k) (hlt : k < 22) : writesN i = if k = 0 ∨ k = 16 ∨ k = 19 ∨ k = 20 ∨ k = 21 then -1 else i.a := by
  have ho : isOp i.op = true := by simp [isOp]; omega
  have hn : i.op.toNat = k := by omega
  unfold writesN hasI
  rw [if_pos ho, hn]
  rcases (by omega : k = 0 ∨ k = 1 ∨ k = 2 ∨ k = 3 ∨ k = 4 ∨ k = 5 ∨ k = 6 ∨ k = 7 ∨ k = 8 ∨ k = 9 ∨ k = 10 ∨ k = 11 ∨ k = 12 ∨ k = 13 ∨ k = 14 ∨ k = 15 ∨ k = 16 ∨ k = 17 ∨ k = 18 ∨ k = 19 ∨ k = 20 ∨ k = 21) with rfl | rfl | rfl | rfl | rfl | rfl | rfl | rfl | rfl | rfl | rfl | rfl | rfl | rfl | rfl | rfl | rfl | rfl | rfl | rfl | rfl | rfl <;> simp [hk, hasS, hasN, Lib.hasPrefix]
/-- a memory behind a step: what is written, if anything -/
def upd (x v : Int) (m : List Int) : List Int := if 0 ≤ x then mput m x v else m
theorem exec_agree {i : Ins} {m m' : List Int} (pc size : Int) (hr : rightI i size m.length = true) (h : Agree i m m') (hl : lost i m = false) :
    ∃ p hh v, execI i pc m = (p, hh, upd (mwrites i m) v m) ∧ execI i pc m' = (p, hh, upd (mwrites i m) v m') := by
  obtain ⟨h0, h22, ha, hb, hc, _⟩ := rightI_parts hr
  obtain ⟨k, hk, hop⟩ := op_nat (i := i) (by simp [isOp]; omega)
  have hn : i.op.toNat = k := by omega
  have hw := writesN_of hop hk
  have ef := h.far
  rw [hn] at ha
  have hneg : upd (-1) = fun _ m => m := by funext v m; simp [upd]
  have hpos : ∀ {x : Int}, 0 ≤ x → ∀ v m, upd x v m = mput m x v := fun hx v m => if_pos hx
  have hwa : (k = 1 ∨ k = 2 ∨ k = 14 ∨ k = 15 ∨ k = 17 ∨ k = 18 ∨ (3 ≤ k ∧ k ≤ 13)) → 0 ≤ i.a := fun hh => by
    have h1 : (hasN k)[0]? = some 119 := by
      rcases hh with rfl | rfl | rfl | rfl | rfl | rfl | ⟨h1, h2⟩
      iterate 6 rfl
      rcases (by omega : k = 3 ∨ k = 4 ∨ k = 5 ∨ k = 6 ∨ k = 7 ∨ k = 8 ∨ k = 9 ∨ k = 10 ∨ k = 11 ∨ k = 12 ∨ k = 13) with rfl | rfl | rfl | rfl | rfl | rfl | rfl | rfl | rfl | rfl | rfl <;> rfl
    exact (okP_w h1 ha).1
  have hmw : ¬ k = 15 → ¬ k = 16 → mwrites i m = writesN i := fun e1 e2 => by
    unfold mwrites
    rw [if_neg (by omega), if_neg (by omega)]
  by_cases e0 : k = 0
  · subst e0; exact ⟨pc, 1 + i.a, 0, by simp [execI, hop, hmw, hw, hneg], by simp [execI, hop, hmw, hw, hneg]⟩
  by_cases e1 : k = 1
  · subst e1; exact ⟨pc + 1, 0, i.b, by simp [execI, hop, hmw, hw, hpos (hwa (by simp))], by simp [execI, hop, hmw, hw, hpos (hwa (by simp))]⟩
  by_cases e2 : k = 2
  · subst e2
    have q := h.reads (reads_b hop (by simp))
    exact ⟨pc + 1, 0, mget m i.b, by simp [execI, hop, hmw, hw, hpos (hwa (by simp))], by simp [execI, hop, hmw, hw, hpos (hwa (by simp)), q]⟩
  by_cases e14 : k = 14
  · subst e14
    have q := h.reads (reads_b hop (by simp))
    exact ⟨pc + 1, 0, truthI (mget m i.b == 0), by simp [execI, hop, hmw, hw, hpos (hwa (by simp))], by simp [execI, hop, hmw, hw, hpos (hwa (by simp)), q]⟩
  by_cases e15 : k = 15
  · subst e15
    have hf : 0 ≤ farI i m := by simp [lost, hop] at hl; exact hl
    have hmw' : mwrites i m = i.a := by unfold mwrites; rw [if_neg (by omega), if_neg (by omega), hw]; simp
    have q : mget m' (farI i m) = mget m (farI i m) := h.at_ _ (by
      unfold mplace
      split
      · simp
      · rename_i hc
        by_cases hcc : (readsN i).contains (farI i m) = true
        · simpa using hcc
        · exact absurd ⟨hop, hf, by simpa using hcc⟩ hc)
    exact ⟨pc + 1, 0, mget m (farI i m), by simp [execI, hop, hmw', hpos (hwa (by simp))], by simp [execI, hop, hmw', hpos (hwa (by simp)), ef, q]⟩
  by_cases e16 : k = 16
  · subst e16
    have hf : 0 ≤ farI i m := by simp [lost, hop] at hl; exact hl
    have hmw' : mwrites i m = farI i m := by unfold mwrites; rw [if_pos (by omega)]
    have q := h.reads (reads_c hop (by simp))
    exact ⟨pc + 1, 0, mget m i.c, by simp [execI, hop, hmw', hpos hf], by simp [execI, hop, hmw', hpos hf, ef, q]⟩
  by_cases e17 : k = 17
  · subst e17
    have q := h.reads (reads_a hop)
    exact ⟨pc + 1, 0, min (max (mget m i.a) i.b) i.c, by simp [execI, hop, hmw, hw, hpos (hwa (by simp))], by simp [execI, hop, hmw, hw, hpos (hwa (by simp)), q]⟩
  by_cases e18 : k = 18
  · subst e18
    have q := h.reads (reads_b hop (by simp))
    exact ⟨pc + 1, 0, truthI (decide (0 ≤ mget m i.b) && decide (mget m i.b < i.c)), by simp [execI, hop, hmw, hw, hpos (hwa (by simp))], by simp [execI, hop, hmw, hw, hpos (hwa (by simp)), q]⟩
  by_cases e19 : k = 19
  · subst e19; exact ⟨i.a, 0, 0, by simp [execI, hop, hmw, hw, hneg], by simp [execI, hop, hmw, hw, hneg]⟩
  by_cases e20 : k = 20
  · subst e20
    have q := h.reads (reads_b hop (by simp))
    exact ⟨if mget m i.b = 0 then i.a else pc + 1, 0, 0, by simp [execI, hop, hmw, hw, hneg], by simp [execI, hop, hmw, hw, hneg, q]⟩
  by_cases e21 : k = 21
  · subst e21
    have q := h.reads (reads_b hop (by simp))
    exact ⟨if mget m i.b = 0 then pc + 1 else i.a, 0, 0, by simp [execI, hop, hmw, hw, hneg], by simp [execI, hop, hmw, hw, hneg, q]⟩
  have h3 : 3 ≤ k ∧ k ≤ 13 := by omega
  have q1 := h.reads (reads_b hop (by omega))
  have q2 := h.reads (reads_c hop (by omega))
  have hwv : writesN i = i.a := by rw [hw, if_neg (by omega)]
  have hex : ∀ m, execI i pc m = (pc + 1, 0, mput m i.a (twoI i.op.toNat (mget m i.b) (mget m i.c))) := fun m => by
    unfold execI
    iterate 11 rw [if_neg (by omega)]
  exact ⟨pc + 1, 0, twoI i.op.toNat (mget m i.b) (mget m i.c), by rw [hex, hmw e15 e16, hwv, hpos (hwa (by omega))], by rw [hex, hmw e15 e16, hwv, hpos (hwa (by omega)), q1, q2]⟩
/-- a step by its own words -/
theorem step_sparse {l c' : List Ins} {pc : Int} {m m' : List Int} {i : Ins} (hn : nextI l pc m.length = some i) (hc : c'.length = l.length) (hci : c'[pc.toNat]? = l[pc.toNat]?) (hlen : m'.length = m.length) (hag : ∀ x ∈ (mreads l pc 0 m).1, mget m' x = mget m x) :
    mreads c' pc 0 m' = mreads l pc 0 m ∧ ∃ p hh v, stepI l pc m = (p, hh, upd (mreads l pc 0 m).2 v m) ∧ stepI c' pc m' = (p, hh, upd (mreads l pc 0 m).2 v m') := by
  have hn' : nextI c' pc m'.length = some i := by
    unfold nextI at hn ⊢
    rw [hci, hlen, hc]
    exact hn
  have hr : rightI i l.length m.length = true := by
    unfold nextI at hn
    split at hn
    · split at hn
      · injection hn with hn; subst hn; assumption
      · cases hn
    · cases hn
  have hm : mreads l pc 0 m = (sortI (mplace i m), mwrites i m) := by simp only [mreads, hn]; rfl
  have hA : Agree i m m' := ⟨hlen, fun x hx => hag x (by rw [hm]; show x ∈ sortI _; unfold sortI; exact List.mem_mergeSort.2 hx)⟩
  have hm' : mreads c' pc 0 m' = (sortI (mplace i m'), mwrites i m') := by simp only [mreads, hn']; rfl
  refine ⟨by rw [hm', hm, hA.place, hA.writes], ?_⟩
  rw [hm]
  unfold stepI
  rw [hn, hn']
  simp only [hA.lost]
  by_cases hl : lost i m = true
  · rw [if_pos hl, if_pos hl]
    have hw : mwrites i m < 0 := by
      simp [lost] at hl
      unfold mwrites
      rcases hl.2 with h15 | h16
      · rw [if_neg (by omega), if_pos ⟨h15, hl.1⟩]; omega
      · rw [if_pos h16]; exact hl.1
    exact ⟨pc, 2, 0, by simp only [upd]; rw [if_neg (by omega)], by simp only [upd]; rw [if_neg (by omega)]⟩
  · rw [if_neg hl, if_neg hl]
    exact exec_agree pc _ hr hA (by simpa using hl)
/-- the sparse memory -/
def spars (m : List Int) (rs : List Int) (a : List Int) : List Int := rs.foldl (fun a x => mput a x (mget m x)) a
theorem spars_len (m : List Int) : ∀ (rs a : List Int), (spars m rs a).length = a.length
  | [], a => rfl
  | x :: rs, a => by show (spars m rs _).length = _; rw [spars_len m rs]; simp [mput]
theorem mget_mput {m : List Int} {x y v : Int} (hx : 0 ≤ x) (hy : 0 ≤ y) (hl : x < m.length) : mget (mput m x v) y = if y = x then v else mget m y := by
  unfold mget mput
  by_cases h : y = x
  · subst h
    rw [if_pos rfl]
    simp [show y.toNat < m.length by omega]
  · rw [if_neg h]
    simp only [List.getD_eq_getElem?_getD]
    rw [List.getElem?_set_ne (by omega)]
theorem spars_get (m : List Int) : ∀ (rs a : List Int) (_ : ∀ x ∈ rs, 0 ≤ x ∧ x < a.length) (y : Int) (_ : 0 ≤ y), mget (spars m rs a) y = if y ∈ rs then mget m y else mget a y
  | [], a, _, y, _ => by simp [spars]
  | x :: rs, a, h, y, hy => by
    have hx := h x (by simp)
    show mget (spars m rs (mput a x (mget m x))) y = _
    rw [spars_get m rs _ (fun z hz => by have := h z (by simp [hz]); simpa [mput] using this) y hy, mget_mput hx.1 hy hx.2]
    by_cases e : y = x
    · subst e; simp
    · simp [e]
theorem spars_snoc (m : List Int) (rs : List Int) (x : Int) (a : List Int) : spars m (rs ++ [x]) a = mput (spars m rs a) x (mget m x) := by simp [spars]
/-- a path does not tell its own leaf -/
theorem nodeT_set (l : List Dg) (i : Nat) (d : Dg) : ∀ v k, ¬ k = i / 2 ^ v → nodeT (l.set i d) v k = nodeT l v k
  | 0, k, h => by
    unfold nodeT
    rw [List.getElem?_set_ne (fun e => h (by simp [e]))]
  | v + 1, k, h => by
    have e : i / 2 ^ (v + 1) = i / 2 ^ v / 2 := by rw [Nat.pow_succ, Nat.div_div_eq_div_mul]
    rw [e] at h
    unfold nodeT
    rw [nodeT_set l i d v _ (by omega), nodeT_set l i d v _ (by omega)]
theorem sib_ne (x : Nat) : ¬ sib x = x := by unfold sib; split <;> omega
theorem pathT_set (l : List Dg) (H i : Nat) (d : Dg) : pathT (l.set i d) H i = pathT l H i := by
  unfold pathT
  apply List.map_congr_left
  intro v _
  exact nodeT_set l i d v _ (sib_ne _)
theorem withT_set (l : List Dg) (i : Nat) (d : Dg) (hi : i < l.length) (h2 : l.length ≤ 4096) : withT i d (pathT l (hgt l.length) i) = rootT (l.set i d) := by
  have := withT_root (l.set i d) i (by simpa using hi) (by simpa using h2)
  simpa [pathT_set] using this
theorem memR_put (m : List Int) (x v : Int) (h0 : 0 ≤ x) (hl : x < m.length) (h2 : m.length ≤ 256) : withT x.toNat (leafW v) (pathT (m.map leafW) (hgt m.length) x.toNat) = memR (mput m x v) := by
  have := withT_set (m.map leafW) x.toNat (leafW v) (by simp; omega) (by simp; omega)
  simpa [memR, mput, List.map_set] using this
end Go.Proofs.YtahljceanodhkaaGreatDoor

/- Package witness: the closures of done. -/
namespace Go.Proofs.YtahljceanodhkaaGreatDoor
open Go.RowKit
set_option maxRecDepth 100000 in
set_option maxHeartbeats 2000000 in
theorem stands_ok (d : Wd) (x : Wl) (sb : Nat) (s : Ws) (k : Nat) (hk : s.words = k) (h1 : 1 ≤ k) (h2 : k ≤ 256) (w : World) (hS : Blk w sb 45 s.cells) (hd : WordV w d x) (hlen : x.path.length = hgt k) (hck : checkT s.mem x.at_ (leafW x.is_) x.path = true) :
    Calls Tryz.prog 146 #[.agg d.cells, .pointer (some ⟨sb, 0, none⟩)] w fun e w' => e = .returned (.bool true) ∧ Ext w w' := by
  have hx0 : Ext w _ := (Kept.refl _ w).alloc (.cells d.cells 77)
  have hD0 := Blk.new w 77 d.cells
  have hS0 := Blk.alloc hS (.cells d.cells 77)
  obtain ⟨pb, po, hp⟩ := hd.path
  obtain ⟨Hk, hHk⟩ : ∃ Hk, Hk = hgt k := ⟨_, rfl⟩
  have hpn : d.pn = Hk := by rw [hp.len, hlen, hHk]
  have hck' : checkT s.mem d.at_ (leafW d.is_) x.path = true := by rw [hd.at_, hd.is_]; exact hck
  have HP := Lib.hid hp
  have HHK := Lib.hid hHk
  have HCK := Lib.hid hck'
  have hkI : s.words = (k : Int) := hk
  clear hp hlen hHk hck hck' hd hk
  obtain ⟨dat, dis, dpa, dpn, dpk⟩ := d
  obtain ⟨spc, shalt, swords, smem, sins, spa, spn, spk, sra, srn, srk, swa, swn, swk⟩ := s
  simp only at hpn hkI HCK
  subst hpn hkI
  go_enter Tryz.func146, Tryz.ntmps146
  go_upto_region 1 with (fail)
  generalize (w.alloc (.cells (Wd.cells ⟨dat, dis, dpa, dpn, dpk⟩) 77)) = W at hx0 hD0 hS0 ⊢
  generalize (w : World).heap.size = p at hD0 ⊢
  refine wp_region_3 (fun w2 => Ext W w2) [(0, 2), (1, 1), (2, 2), (3, 2), (4, 1), (5, 0), (6, 2), (7, 2), (8, 2), (9, 1), (10, 2), (11, 1), (12, 2), (13, 1), (15, 2), (16, 1), (14, 0), (17, 0), (18, 2), (19, 2)] (by kernel_rfl) (by kernel_rfl) (by kernel_rfl) (by kernel_rfl) ?_; intro l' hl'; simp only [List.map_cons, List.map_nil, List.getD_cons_zero, List.getD_cons_succ] at hl'; subst hl'
  (repeat (first | ((apply w3_pure); (· go_simp); (· (intro w1; go_simp; try with_reducible rfl)); (intro K hK; go_simp; refine hK _ _ ?_; clear hK K)) | ((apply w3_skip); (· go_simp); (intro K hK; go_simp; refine hK _ _ ?_; clear hK K)) | ((apply w3_take); (· exact (Kept.drew (Kept.refl _ _))); (· go_simp); (· (intro w1 hS; have d1 := Blk.cell (Blk.ext hD0 hS); have d2 := (Blk.ext hD0 hS).lt; have d3 := Blk.cell (Blk.ext hS0 hS); have d4 := (Blk.ext hS0 hS).lt; have d5 := Blk.has (Blk.ext hS0 hS); have d6 := Blk.gets (Blk.ext hS0 hS);  go_simp; try with_reducible rfl)); (intro K hK; go_simp; refine hK _ _ ?_; clear hK K)) | ((apply w3_pass); (· exact (Kept.drew (Kept.refl _ _))); (· go_simp); (intro K hK; go_simp; refine hK _ _ ?_; clear hK K))))
  have yW : Ext W W.drew := (Kept.refl _ W).drew
  (refine w3_act (fun K hK => ?_); go_simp)
  go_wp2_with fail
  refine (height_ok k h1 (by omega) _).mono ?_
  rintro e w1 ⟨rfl, rfl⟩
  rw [← HHK.out]
  refine hK.out _ _ (fun _ => yW) ?_
  clear hK K
  (repeat (first | ((apply w3_pure); (· go_simp); (· (intro w1; go_simp; try with_reducible rfl)); (intro K hK; go_simp; refine hK _ _ ?_; clear hK K)) | ((apply w3_skip); (· go_simp); (intro K hK; go_simp; refine hK _ _ ?_; clear hK K)) | ((apply w3_take); (· exact yW); (· go_simp); (· (intro w1 hS; have d1 := Blk.cell (Blk.ext hD0 hS); have d2 := (Blk.ext hD0 hS).lt; have d3 := Blk.cell (Blk.ext hS0 hS); have d4 := (Blk.ext hS0 hS).lt; have d5 := Blk.has (Blk.ext hS0 hS); have d6 := Blk.gets (Blk.ext hS0 hS);  go_simp; try with_reducible rfl)); (intro K hK; go_simp; refine hK _ _ ?_; clear hK K)) | ((apply w3_pass); (· exact yW); (· go_simp); (intro K hK; go_simp; refine hK _ _ ?_; clear hK K))))
  (refine w3_act (fun K hK => ?_); go_simp)
  go_wp2_with fail
  refine (leaf_any dis _).mono ?_
  rintro e w2 ⟨rfl, hx2⟩
  have y2 : Ext W w2 := yW.trans hx2
  refine hK.out _ _ (fun _ => y2) ?_
  clear hK K
  (repeat (first | ((apply w3_pure); (· go_simp); (· (intro w1; go_simp; try with_reducible rfl)); (intro K hK; go_simp; refine hK _ _ ?_; clear hK K)) | ((apply w3_skip); (· go_simp); (intro K hK; go_simp; refine hK _ _ ?_; clear hK K))))
  (refine w3_act (fun K hK => ?_); go_simp)
  go_wp2_with fail
  refine (tcheck_any smem dat (leafW dis) (leafW_ok _) dpa pb po dpn dpk x.path _ (HP.out.ext (hx0.trans y2))).mono ?_
  rintro e w3 ⟨rfl, hx3⟩
  rw [HCK.out]
  have y3 : Ext W w3 := y2.trans hx3
  refine hK.out _ _ (fun _ => y3) ?_
  clear hK K
  (repeat (first | ((apply w3_pure); (· go_simp); (· (intro w1; go_simp; try with_reducible rfl)); (intro K hK; go_simp; refine hK _ _ ?_; clear hK K)) | ((apply w3_skip); (· go_simp); (intro K hK; go_simp; refine hK _ _ ?_; clear hK K)) | (refine w3_end (by kernel_rfl) (fun K hK => ?_); go_simp; refine hK.out _ _ ?_; clear hK K))); refine w3_nil ?_
  go_wp2_with fail
  go_ret
  exact ⟨rfl, hx0.trans y3⟩
set_option maxRecDepth 100000 in
set_option maxHeartbeats 2000000 in
theorem ats_any (A : Option Addr) (n c : Nat) (ls : List Wl) (w : World) (hp : WordsS w A n ls) (hn : n ≤ 4) :
    Calls Tryz.prog 147 #[.slice A n c] w fun e w' => OwnsInts w w' e (ls.map Wl.at_) := by
  obtain ⟨hnl, b, off, ds, h1, h2, h3, h4⟩ := hp
  have HNL := Lib.hid hnl
  have HD := Lib.hid h4.len
  have H1 := Lib.hid h1
  have H2 := Lib.hid h2
  have H4 := Lib.hid h4
  clear hnl h1 h2 h3 h4
  go_enter Tryz.func147, Tryz.ntmps147
  go_wp2_with fail
  go_loopw [3, 8] (fun t3 t8 wr => ∃ (j : Nat), j ≤ n ∧ t8 = .int .i64 j ∧ wr.ownsRow w.heap.size 3 1 t3 j (ints ((ls.take j).map Wl.at_)) ∧ Ext w wr) (fun _ t8 _ => n - (intOf t8).toNat)
  case atStart => exact ⟨0, by omega, rfl, World.ownsRow_nil _ _ _ _, Kept.refl _ _⟩
  case round =>
    obtain ⟨j, hj, rfl, ho, hx⟩ := hrel
    by_cases hlt : j < n
    · have hjl : j < ls.length := by have := HNL.out; omega
      have hjd : j < ds.length := by have := HD.out; omega
      have hltI : (j : Int) < n := by omega
      obtain rfl := H1.out (by omega)
      have hrow := (H2.out (by omega)).ext hx
      obtain ⟨hrh, hrg⟩ := hrow.wd j hjd
      have hbl := hrow.lt
      have hat := (H4.out.get j hjd hjl).at_
      obtain ⟨d, hde⟩ : ∃ d, d = ds[j] := ⟨_, rfl⟩
      rw [← hde] at hrg hat
      have HAT := Lib.hid hat
      have HO := Lib.hid ho
      clear hrow hde hat ho
      go_upto_region 5 with (fail)
      have x1 := hx.alloc (.cells d.cells 77)
      have hW := Blk.new wr 77 d.cells
      have ho5 := HO.out.alloc (.cells d.cells 77)
      have hob : ∀ i, i < w.heap.size → (u3 : Value).ownBlock = some i → False := fun i hi e => by have := (HO.out.lt i e).1; omega
      have HOB := Lib.hid hob
      have HO5 := Lib.hid ho5
      clear ho5 HO hob
      generalize hgW : (wr.alloc (.cells d.cells 77)) = W at x1 hW HO5 ⊢
      generalize (wr : World).heap.size = p at hW ⊢
      clear hgW hrh hrg
      have d1 := Blk.cell hW
      have d2 := hW.lt
      go_step
      iterate 4 (refine wpList_step (fun K hK => ?_); go_simp; (try go_bits); refine hK _ _ ?_; clear hK K)
      have hsz : w.heap.size ≤ W.heap.size := x1.size
      obtain ⟨v2, w2, hr2, ho2, hk2⟩ := appInt (W.alloc (.cells #[.int .i64 d.at_] 3)) _ _ _ ((ls.take j).map Wl.at_) (HO5.out.alloc _) W.heap.size 0 1 1 [d.at_] rfl (by simpa [ints] using Row.of_blk (Blk.new W 3 #[.int .i64 d.at_])) (by omega) (by simp; omega)
      refine wpList_app rfl (.tmp 12) (.tmp 15) 138 rfl rfl rfl rfl hr2 ?_
      have k2 : Kept (fun i => (u3 : Value).ownBlock = some i) W w2 := ((Kept.refl _ W).alloc _).trans hk2
      have ho3 : w2.ownsRow w.heap.size 3 1 v2 (j + 1) (ints ((ls.take (j + 1)).map Wl.at_)) := by
        rw [List.take_succ_eq_append_getElem hjl, List.map_append]
        have := ho2
        rw [HAT.out] at this
        exact this
      have HO3 := Lib.hid ho3
      clear hr2 ho2 ho3 d1
      go_wp2_with fail
      go_roundw
      case rel => exact ⟨j + 1, hlt, by go_num, HO3.out, x1.trans' k2 HOB.out⟩
      case measure => simp only [intOf]; omega
    · have ej : j = n := by omega
      subst ej
      have e1 : (ls.take j) = ls := List.take_of_length_le (Nat.le_of_eq HNL.out.symm)
      rw [e1] at ho
      have e2 : (ls.map Wl.at_).length = j := by simp [HNL.out]
      have HO := Lib.hid ho
      have HE := Lib.hid e2
      clear ho e1 e2
      go_wp2_with fail
      go_ret
      exact ⟨_, rfl, by rw [HE.out]; exact HO.out, hx⟩
end Go.Proofs.YtahljceanodhkaaGreatDoor

/- Package witness: done, of a step that was made. -/
namespace Go.Proofs.YtahljceanodhkaaGreatDoor
open Go.RowKit
theorem want_if {c : Bool} {p q : Prop} (hc : c = true) (h : p) : if c = true then p else q := by rw [if_pos hc]; exact h
theorem wp_make_run {P : Program} {o : Oper} {a : Act} {w : World} {K : Act → World → Prop} {Q : Exit → Act → World → Prop} (x y : Operand) (T : TypeId) (ho : o.op = .makeSlice T x y) {v s v' : Value} {w' : World} (hx : a.eval x = v) (hy : a.eval y = s)
    (hrun : (Instr.makeSlice T v s).run P w = .ok v' w') (h : K (a.put o.dst v') w') : Oper.wp P o a w K Q := by
  unfold Oper.wp execOp
  simp only [ho, Sem.run_bind, Sem.run_pure, Result.andThen_ok, hx, hy, hrun]
  exact h
theorem madeM (n : Nat) : (madeCells #[.int .i32 0] n) = (mems (List.replicate n 0)).toArray := by
  apply Array.ext
  · simp [madeCells, mems]
  · intro i h1 h2
    simp [madeCells, mems, Nat.mod_one]
theorem makeM (w : World) (n : Nat) (h : n ≤ 100000) :
    ∃ w', (Instr.makeSlice 59 (.int .i64 (n : Int)) (.int .i64 (n : Int))).run Tryz.prog w = .ok (.slice (some ⟨w.heap.size, 0, none⟩) n n) w' ∧ Blk w' w.heap.size 21 (mems (List.replicate n 0)).toArray ∧ Ext w w' := by
  obtain ⟨i, hi, hz, h1, h2⟩ := info_parts infoM32
  have hr := run_makeSlice (P := Tryz.prog) w 59 21 i _ Tryz.underlying59 hi hz .i64 .i64 n n (by omega) (Int.le_refl _) (by rw [h1]; simp; omega) (by rw [h2]; omega) (by omega)
  simp only [Int.toNat_natCast] at hr
  rw [h1, Nat.mul_one] at hr
  refine ⟨_, hr, ?_, (Kept.refl _ w).alloc _⟩
  have : (madeCells (Value.int .i32 0).cells n) = (mems (List.replicate n 0)).toArray := madeM n
  rw [this]
  exact Blk.new w _ _
theorem inss_rep (n : Nat) : inss (List.replicate n ⟨0, 0, 0, 0⟩) = List.replicate (n * 4) (.int .i64 0) := by
  induction n with
  | zero => simp [inss]
  | succ n ih => rw [List.replicate_succ, show (n + 1) * 4 = 4 + n * 4 by omega, ← List.replicate_append_replicate, ← ih]; rfl
theorem madeI (n : Nat) : (madeCells (Ins.cells ⟨0, 0, 0, 0⟩) (n * 4)) = (inss (List.replicate n ⟨0, 0, 0, 0⟩)).toArray := by
  rw [inss_rep]
  apply Array.ext
  · simp [madeCells]
  · intro i h1 h2
    have h8 : i % 4 < 4 := Nat.mod_lt _ (by omega)
    simp only [madeCells, List.getElem_toArray, List.getElem_replicate, Array.getElem_map, Array.getElem_range]
    show (Ins.cells ⟨0, 0, 0, 0⟩)[i % 4]! = _
    generalize i % 4 = j at h8
    rcases (by omega : j = 0 ∨ j = 1 ∨ j = 2 ∨ j = 3) with rfl | rfl | rfl | rfl <;> rfl
theorem makeI (w : World) (n : Nat) (h : n ≤ 100000) :
    ∃ w', (Instr.makeSlice 65 (.int .i64 (n : Int)) (.int .i64 (n : Int))).run Tryz.prog w = .ok (.slice (some ⟨w.heap.size, 0, none⟩) n n) w' ∧ Blk w' w.heap.size 41 (inss (List.replicate n ⟨0, 0, 0, 0⟩)).toArray ∧ Ext w w' := by
  obtain ⟨i, hi, hz, h1, h2⟩ := info_parts infoI4
  have hr := run_makeSlice (P := Tryz.prog) w 65 41 i _ Tryz.underlying65 hi hz .i64 .i64 n n (by omega) (Int.le_refl _) (by rw [h1]; simp; omega) (by rw [h2]; omega) (by omega)
  simp only [Int.toNat_natCast] at hr
  rw [h1] at hr
  refine ⟨_, hr, ?_, (Kept.refl _ w).alloc _⟩
  have : (madeCells (Value.agg (Ins.cells ⟨0, 0, 0, 0⟩)).cells (n * 4)) = (inss (List.replicate n ⟨0, 0, 0, 0⟩)).toArray := madeI n
  rw [this]
  exact Blk.new w _ _
/-- slices.Equal of the same numbers -/
theorem equal_own {w : World} {base base' : Nat} {v v' : Value} {l : List Int} (h : w.ownsRow base 3 1 v l.length (ints l)) (h' : w.ownsRow base' 3 1 v' l.length (ints l)) (hn : l.length ≤ 100000) :
    Calls Tryz.prog 148 #[v, v'] w fun e w' => e = .returned (.bool true) ∧ Ext w w' := by
  obtain ⟨_, ho⟩ := ownInt h
  obtain ⟨_, ho'⟩ := ownInt h'
  by_cases h0 : l = []
  · subst h0
    obtain ⟨a1, c1, rfl⟩ : ∃ a1 c1, v = .slice a1 0 c1 := by
      rcases ho with ⟨hv, _⟩ | ⟨g, c, cur, hv, _⟩
      · exact ⟨_, _, hv⟩
      · exact ⟨_, _, hv⟩
    obtain ⟨a2, c2, rfl⟩ : ∃ a2 c2, v' = .slice a2 0 c2 := by
      rcases ho' with ⟨hv, _⟩ | ⟨g, c, cur, hv, _⟩
      · exact ⟨_, _, hv⟩
      · exact ⟨_, _, hv⟩
    refine (Tryz.slices_Equal_int_empty a1 a2 c1 0 c2 w (by omega)).mono ?_
    rintro e w1 ⟨rfl, rfl⟩
    exact ⟨rfl, Kept.refl _ _⟩
  · rcases ho with ⟨_, e⟩ | ⟨g, c, cur, rfl, _, hc, _, _, _, ht⟩
    · exact absurd e h0
    rcases ho' with ⟨_, e⟩ | ⟨g', c', cur', rfl, _, hc', _, _, _, ht'⟩
    · exact absurd e h0
    refine (Tryz.slices_Equal_int g 0 l.length c g' 0 l.length c' l l w (Nat.le_refl _) (Nat.le_refl _) (by omega) (by omega) (fun j hj => by simpa using ownInt_cell hc rfl ht j hj) (fun j hj => by simpa using ownInt_cell hc' rfl ht' j hj)).mono ?_
    rintro e w1 ⟨rfl, q, rfl⟩
    exact ⟨by simp, (Kept.refl _ w).drewN q⟩
theorem may_of {l : List Dg} {i : Int} (h0 : 0 ≤ i) (hi : i < l.length) (h2 : l.length ≤ 4096) : mayB i (hgt l.length) = true := by
  have hb := hgt_bd l.length (by omega) h2
  have e : (2 : Int) ^ hgt l.length = ((2 ^ hgt l.length : Nat) : Int) := by simp
  simp only [mayB, Bool.and_eq_true, decide_eq_true_eq]
  refine ⟨⟨hb.1, h0⟩, ?_⟩
  rw [e]
  omega
/-- a leaf's path is believed -/
theorem check_path {l : List Dg} {i : Int} (h0 : 0 ≤ i) (hi : i < l.length) (h2 : l.length ≤ 4096) : checkT (rootT l) i (l.getD i.toNat Dg.zero) (pathT l (hgt l.length) i.toNat) = true := by
  have hl : i.toNat < l.length := by omega
  unfold checkT withD
  rw [pathT_len, may_of h0 hi h2, if_pos rfl, show l.getD i.toNat Dg.zero = l[i.toNat] by simp [hl], withT_root l i.toNat hl h2, dgB_self]
  rfl
theorem show_check {m : List Int} {x : Int} (h0 : 0 ≤ x) (hx : x < m.length) (h2 : m.length ≤ 256) : checkT (memR m) (showW m x).at_ (leafW (showW m x).is_) (showW m x).path = true := by
  have := check_path (l := m.map leafW) (i := x) h0 (by simpa using hx) (by simp; omega)
  rw [List.length_map] at this
  have e : (m.map leafW).getD x.toNat Dg.zero = leafW (mget m x) := by
    have hl : x.toNat < m.length := by omega
    simp [mget, hl]
  rw [e] at this
  exact this
theorem show_with {m : List Int} {x v : Int} (h0 : 0 ≤ x) (hx : x < m.length) (h2 : m.length ≤ 256) : withD x (leafW v) (showW m x).path = memR (mput m x v) := by
  have e : (showW m x).path = pathT (m.map leafW) (hgt m.length) x.toNat := rfl
  have hm := may_of (l := m.map leafW) (i := x) h0 (by simpa using hx) (by simp; omega)
  rw [List.length_map] at hm
  rw [e]
  unfold withD
  rw [pathT_len, hm, if_pos rfl]
  exact memR_put m x v h0 hx h2
end Go.Proofs.YtahljceanodhkaaGreatDoor
