/- Package witness: After of a step that shows too much; Check, Make of a state that does not go on. -/
import Derived.Test.YtahljceanodhkaaGreatDoorWc
namespace Go.Proofs.YtahljceanodhkaaGreatDoor
open Go.RowKit
set_option maxRecDepth 100000 in
set_option maxHeartbeats 2000000 in
theorem after_form (s : Ws) (p : Dg) (size : Int) (w : World) (hm : s.mem.ok) (hs1 : 1 ≤ size) (hs2 : size ≤ 2048) (hr : rightS s.pc s.halt s.words = true) (hst : s.stays size) (hi : s.ins = ⟨0, 0, 0, 0⟩) (hp : s.pn = 0) (hb : s.bare = false) :
    Calls Tryz.prog 37 #[.agg #[.int .u8 p.x0, .int .u8 p.x1, .int .u8 p.x2, .int .u8 p.x3, .int .u8 p.x4, .int .u8 p.x5, .int .u8 p.x6, .int .u8 p.x7], .int .i64 size, .agg (hHead s.pc s.halt s.words s.mem).cells, .agg s.cells] w fun e w' => e = .returned (.tuple #[.agg Dg.zero.cells, .int .i64 3]) ∧ Ext w w' := by
  obtain ⟨h1, h2, h3, h4, h5, h6⟩ : 1 ≤ s.words ∧ s.words ≤ 256 ∧ 0 ≤ s.pc ∧ s.pc ≤ 2048 ∧ 0 ≤ s.halt ∧ s.halt ≤ 2 := by
    simp [rightS] at hr
    omega
  have HM := Lib.hid hm
  have HR := Lib.hid hr
  have HB := Lib.hid hb
  have HI := Lib.hid hi
  have hp0 : ¬ (0 : Int) < s.pn := by omega
  have hp1 : ¬ 0 < s.pn := by omega
  have hP := Lib.hid hp
  have HST := Lib.hid hst.split
  clear hm hr hb hi hp hst
  obtain ⟨B, hB⟩ : ∃ B, B = hHead s.pc s.halt s.words s.mem := ⟨_, rfl⟩
  rw [← hB]
  have HBf := Lib.hid hB
  clear hB
  have hx0 : Ext w _ := ((((Kept.refl _ w).alloc (.cells #[.int .u8 p.x0, .int .u8 p.x1, .int .u8 p.x2, .int .u8 p.x3, .int .u8 p.x4, .int .u8 p.x5, .int .u8 p.x6, .int .u8 p.x7] 30)).alloc (.cells B.cells 30)).alloc (.cells s.cells 45)).alloc (.cells Dg.zero.cells 30)
  have hB0 : Blk _ (w.heap.size + 1) 30 B.cells := Blk.alloc (Blk.alloc (Blk.new' (w.alloc (.cells #[.int .u8 p.x0, .int .u8 p.x1, .int .u8 p.x2, .int .u8 p.x3, .int .u8 p.x4, .int .u8 p.x5, .int .u8 p.x6, .int .u8 p.x7] 30)) _ B.cells _ (by simp)) (.cells s.cells 45)) (.cells Dg.zero.cells 30)
  have hS0 : Blk _ (w.heap.size + 1 + 1) 45 s.cells := Blk.alloc (Blk.new' ((w.alloc (.cells #[.int .u8 p.x0, .int .u8 p.x1, .int .u8 p.x2, .int .u8 p.x3, .int .u8 p.x4, .int .u8 p.x5, .int .u8 p.x6, .int .u8 p.x7] 30)).alloc (.cells B.cells 30)) _ s.cells _ (by simp)) (.cells Dg.zero.cells 30)
  have hR0 : Blk _ (w.heap.size + 1 + 1 + 1) 30 Dg.zero.cells := Blk.new' (((w.alloc (.cells #[.int .u8 p.x0, .int .u8 p.x1, .int .u8 p.x2, .int .u8 p.x3, .int .u8 p.x4, .int .u8 p.x5, .int .u8 p.x6, .int .u8 p.x7] 30)).alloc (.cells B.cells 30)).alloc (.cells s.cells 45)) _ _ _ (by simp)
  go_enter Tryz.func37, Tryz.ntmps37
  go_wp2_with fail
  refine (sright_any s _).mono ?_
  rintro e w1 ⟨rfl, hx1⟩
  rw [HR.out]
  have y1 := hx0.trans hx1
  have hB1 := Blk.ext hB0 hx1
  have hS1 := Blk.ext hS0 hx1
  have hR1 := Blk.ext hR0 hx1
  clear hx0 hx1 hB0 hS0 hR0
  have hlS := Blk.lt hS1
  have hlR := Blk.lt hR1
  go_wp2_with fail
  refine wp_region_3 (fun w2 => Ext w1 w2) [(0, 2), (1, 1), (2, 2), (3, 1), (4, 2), (5, 1), (6, 2), (7, 1), (9, 1), (8, 0), (10, 2)] (by kernel_rfl) (by kernel_rfl) (by kernel_rfl) (by kernel_rfl) ?_; intro l' hl'; simp only [List.map_cons, List.map_nil, List.getD_cons_zero, List.getD_cons_succ] at hl'; subst hl'
  (repeat (first | ((apply w3_pure); (· go_simp); (· (intro w1; go_simp; try with_reducible rfl)); (intro K hK; go_simp; refine hK _ _ ?_; clear hK K)) | ((apply w3_skip); (· go_simp); (intro K hK; go_simp; refine hK _ _ ?_; clear hK K)) | ((apply w3_take); (· exact (Kept.drew (Kept.refl _ _))); (· go_simp); (· (intro w1 hS; have d1 := Blk.ext hS1 hS; have d2 := Blk.ext hB1 hS; have d3 := Blk.cell d1; have d4 := Blk.has d1; have d5 := Blk.gets d1; have d6 := Blk.has d2; have d7 := Blk.gets d2;  go_simp; try with_reducible rfl)); (intro K hK; go_simp; refine hK _ _ ?_; clear hK K)) | ((apply w3_pass); (· exact (Kept.drew (Kept.refl _ _))); (· go_simp); (intro K hK; go_simp; refine hK _ _ ?_; clear hK K))))
  (refine w3_act (fun K hK => ?_); go_simp)
  go_wp2_with fail
  refine (head_any s.pc s.halt s.words s.mem HM.out (by omega) (by omega) (by omega) _).mono ?_
  rintro e w2 ⟨e2, hx2⟩
  replace e2 : e = .returned (.agg B.cells) := by rw [e2, HBf.out]
  subst e2
  have y2 : Ext w1 w2 := ((Kept.refl _ w1).drew).trans hx2
  refine hK.out _ _ (fun _ => y2) ?_
  clear hK K
  (repeat (first | ((apply w3_pure); (· go_simp); (· (intro w1; go_simp; try with_reducible rfl)); (intro K hK; go_simp; refine hK _ _ ?_; clear hK K)) | ((apply w3_skip); (· go_simp); (intro K hK; go_simp; refine hK _ _ ?_; clear hK K)) | (refine w3_end (by kernel_rfl) (fun K hK => ?_); go_simp; refine hK.out _ _ ?_; clear hK K))); refine w3_nil ?_
  have hS2 := Blk.ext hS1 y2
  have hR2 := Blk.ext hR1 y2
  have hc2 := Blk.cell hS2
  have hh2 := Blk.has hS2
  have hg2 := Blk.gets hS2
  have hI1 : (s.ins.op == 0) = true := by rw [HI.out]; rfl
  have hI2 : (s.ins.a == 0) = true := by rw [HI.out]; rfl
  have hI3 : (s.ins.b == 0) = true := by rw [HI.out]; rfl
  have hI4 : (s.ins.c == 0) = true := by rw [HI.out]; rfl
  rcases HST.out with hst | ⟨hst, hsz⟩
  all_goals
    go_wp2_with fail
    refine (sbare_any s _).mono ?_
    rintro e w3 ⟨rfl, hx3⟩
    rw [HB.out]
    have hS3 := Blk.ext hS2 hx3
    have hR3 := Blk.ext hR2 hx3
    have hh3 := Blk.has hR3
    have hm3 := Blk.melts hR3
    go_wp2_with fail
    refine ret_ci Tryz.results37 rfl rfl aggDig (by exact sizeDig) (Blk.put_ hR3 _ _) ⟨rfl, ?_⟩
    exact Kept.putAt ((y1.trans y2).trans hx3) _ _ _ (fun h => by omega)
set_option maxRecDepth 100000 in
set_option maxHeartbeats 1000000 in
theorem check_stays (s : Ws) (p : Dg) (size : Int) (w : World) (hm : s.mem.ok) (hs1 : 1 ≤ size) (hs2 : size ≤ 2048) (hr : rightS s.pc s.halt s.words = true) (hst : s.stays size) (hi : s.ins = ⟨0, 0, 0, 0⟩) (hp : s.pn = 0) (hb : s.bare = true) :
    Calls Tryz.prog 42 #[.agg #[.int .u8 p.x0, .int .u8 p.x1, .int .u8 p.x2, .int .u8 p.x3, .int .u8 p.x4, .int .u8 p.x5, .int .u8 p.x6, .int .u8 p.x7], .int .i64 size, .agg (hHead s.pc s.halt s.words s.mem).cells, .agg s.same.cells, .agg s.cells] w fun e w' => e = .returned (.int .i64 0) ∧ Ext w w' := by
  have HA := fun w => Lib.hid (after_stays s p size w hm hs1 hs2 hr hst hi hp hb)
  clear hm hr hst hi hp hb
  obtain ⟨B, hB⟩ : ∃ B, B = hHead s.pc s.halt s.words s.mem := ⟨_, rfl⟩
  obtain ⟨Z, hZ⟩ : ∃ Z, Z = s.same := ⟨_, rfl⟩
  rw [← hB] at HA ⊢
  rw [← hZ] at HA ⊢
  clear hB hZ
  have hx0 : Ext w _ := ((((Kept.refl _ w).alloc (.cells #[.int .u8 p.x0, .int .u8 p.x1, .int .u8 p.x2, .int .u8 p.x3, .int .u8 p.x4, .int .u8 p.x5, .int .u8 p.x6, .int .u8 p.x7] 30)).alloc (.cells B.cells 30)).alloc (.cells Z.cells 30)).alloc (.cells s.cells 45)
  have hZ0 : Blk _ (w.heap.size + 1 + 1) 30 Z.cells := Blk.alloc (Blk.new' ((w.alloc (.cells #[.int .u8 p.x0, .int .u8 p.x1, .int .u8 p.x2, .int .u8 p.x3, .int .u8 p.x4, .int .u8 p.x5, .int .u8 p.x6, .int .u8 p.x7] 30)).alloc (.cells B.cells 30)) _ Z.cells _ (by simp)) (.cells s.cells 45)
  go_enter Tryz.func42, Tryz.ntmps42
  go_wp2_with fail
  refine ((HA _).out).mono ?_
  rintro e w1 ⟨rfl, hx1⟩
  have hZ1 := Blk.ext hZ0 hx1
  have hh1 := Blk.has hZ1
  have hg1 := Blk.gets hZ1
  have hl1 := Blk.lt hZ1
  go_wp2_with fail
  go_ret
  exact ⟨rfl, (hx0.trans hx1).alloc _⟩
abbrev zeroW : Array Value := #[.int .i64 0, .int .i64 0, .int .i64 0, .int .u8 0, .int .u8 0, .int .u8 0, .int .u8 0, .int .u8 0, .int .u8 0, .int .u8 0, .int .u8 0, .int .i64 0, .int .i64 0, .int .i64 0, .int .i64 0, .slice none 0 0, .slice none 0 0, .slice none 0 0]
attribute [go_sem] zeroW
abbrev bareC (pc halt : Int) (k : Nat) (M : Dg) : Array Value := #[.int .i64 pc, .int .i64 halt, .int .i64 k, .int .u8 M.x0, .int .u8 M.x1, .int .u8 M.x2, .int .u8 M.x3, .int .u8 M.x4, .int .u8 M.x5, .int .u8 M.x6, .int .u8 M.x7, .int .i64 0, .int .i64 0, .int .i64 0, .int .i64 0, .slice none 0 0, .slice none 0 0, .slice none 0 0]
attribute [go_sem] bareC
/-- what is made of a state that does not go on -/
def bareStep (pc halt : Int) (l : List Int) : Ws := ⟨pc, halt, l.length, memR l, ⟨0, 0, 0, 0⟩, none, 0, 0, none, 0, 0, none, 0, 0⟩
set_option maxRecDepth 100000 in
set_option maxHeartbeats 2000000 in
theorem make_stays (A : Option Addr) (b off cap : Nat) (l : List Ins) (n : Nat) (hn : n = l.length) (h1 : 1 ≤ n) (h2 : n ≤ 2048) (hok : ∀ i ∈ l, i.ok) (hA : 0 < n → A = some ⟨b, off, none⟩)
    (pc halt : Int) (A' : Option Addr) (b' off' cap' : Nat) (m : List Int) (k : Nat) (hk : k = m.length) (hg : rightS pc halt k = true) (hA' : 0 < k → A' = some ⟨b', off', none⟩) (hst : ¬ halt = 0 ∨ (n : Int) ≤ pc) (w : World) (hr : 0 < n → Row w b off (inss l)) (hr' : 0 < k → Row w b' off' (mems m)) :
    Calls Tryz.prog 36 #[.slice A n cap, .agg (stCells pc A' k cap' halt)] w fun e w' => e = .returned (.tuple #[.agg (bareStep pc halt m).cells, .int .i64 0]) ∧ Ext w w' := by
  obtain ⟨k1, k2, h3, h4, h5, h6⟩ := rightS_inv hg
  have HG := Lib.hid hg
  have HN := Lib.hid hn
  have HO := Lib.hid hok
  have HA := Lib.hid hA
  have HR := Lib.hid hr
  have HKn := Lib.hid hk
  have HA' := Lib.hid hA'
  have HR' := Lib.hid hr'
  have HST : Hid ((halt != 0) = true ∨ ((halt != 0) = false ∧ (n : Int) ≤ pc)) := Lib.hid (by
    by_cases e : halt = 0
    · exact .inr ⟨by simp [e], hst.resolve_left (fun f => f e)⟩
    · exact .inl (by simp [e]))
  clear hn hA hr hg hok hk hA' hr' hst
  obtain ⟨M, hM⟩ : ∃ M, M = memR m := ⟨_, rfl⟩
  have HM := Lib.hid hM
  clear hM
  have hx0 : Ext w _ := ((Kept.refl _ w).alloc (.cells (stCells pc A' k cap' halt) 70)).alloc (.cells zeroW 45)
  have hA0 : Blk _ w.heap.size 70 (stCells pc A' k cap' halt) := Blk.alloc (Blk.new w _ _) (.cells zeroW 45)
  have hR0 : Blk _ (w.heap.size + 1) 45 zeroW := Blk.new' (w.alloc (.cells (stCells pc A' k cap' halt) 70)) _ _ _ (by simp)
  go_enter Tryz.func36, Tryz.ntmps36
  go_wp2_with fail
  refine (codetree_ok A b off cap l n HN.out h1 h2 HO.out HA.out _ (fun h => (HR.out h).ext hx0)).mono ?_
  rintro e w1 ⟨p, rfl, ht, hx1⟩
  have hA1 := Blk.ext hA0 hx1
  have hR1 := Blk.ext hR0 hx1
  have hc1 := Blk.cell hA1
  have y1 := hx0.trans hx1
  clear hx0 hx1 hA0 hR0
  go_wp2_with fail
  refine (memtree_ok pc halt A' b' off' cap' m k HKn.out HG.out HA'.out _ (fun h => (HR'.out h).ext y1)).mono ?_
  rintro e w2 ⟨q, rfl, hq, hx2⟩
  have hA2 := Blk.ext hA1 hx2
  have hR2 := Blk.ext hR1 hx2
  have y2 := y1.trans hx2
  have hP2 := Blk.new w2 126 #[.pointer (some ⟨q, 0, none⟩)]
  have hx3 := (Kept.refl (fun _ => False) w2).alloc (.cells #[.pointer (some ⟨q, 0, none⟩)] 126)
  have hA3 := Blk.ext hA2 hx3
  have hR3 := Blk.ext hR2 hx3
  have hq3 := hq.ext hx3
  have y3 := y2.trans hx3
  clear hc1
  go_wp2_with fail
  generalize (w2.alloc (.cells #[.pointer (some ⟨q, 0, none⟩)] 126)) = W at hP2 hA3 hR3 hq3 y3 ⊢
  have hlA := Blk.lt hA3
  have hlR := Blk.lt hR3
  have hlP := Blk.lt hP2
  generalize w2.heap.size = h2s at hP2 hlP ⊢
  clear hA2 hR2 hA1 hR1 hx3 hq ht y1 y2 hx2
  refine wp_region_4 (fun w2 => Ext W w2) (.op 0 2 (.op 1 1 (.op 2 2 (.op 3 1 (.op 4 2 (.op 5 1 (.op 6 2 (.op 7 1 (.fork 8 (.op 9 2 (.op 10 0 (.op 11 0 .nil))) 10 (.op 8 0 (.op 9 2 (.op 11 0 .nil)))))))))))) (by kernel_rfl) (by kernel_rfl) (by kernel_rfl) (by kernel_rfl) ?_; intro p' hp'; simp only [Pl0.fill, List.getD_cons_zero, List.getD_cons_succ] at hp'; subst hp'
  (repeat (first | ((apply w4_pure); (· go_simp); (· (intro w1; go_simp; try with_reducible rfl)); (intro K hK; go_simp; refine hK _ _ ?_; clear hK K)) | ((apply w4_skip); (· go_simp); (intro K hK; go_simp; refine hK _ _ ?_; clear hK K)) | ((apply w4_take); (· exact (Kept.drew (Kept.refl _ _))); (· go_simp); (· (intro w1 hS; have d1 := Blk.cell (Blk.ext hA3 hS); have d2 := Blk.cell (Blk.ext hP2 hS);  go_simp; try with_reducible rfl)); (intro K hK; go_simp; refine hK _ _ ?_; clear hK K)) | ((apply w4_pass); (· exact (Kept.drew (Kept.refl _ _))); (· go_simp); (intro K hK; go_simp; refine hK _ _ ?_; clear hK K))))
  have y : Ext W W.drew := (Kept.refl _ W).drew
  refine w4_fork ?_ ?_
  · (refine w4_act (fun K hK => ?_); go_simp)
    go_wp2_with fail
    refine (troot_tree _ q (m.map leafW) _ (by rw [List.length_map, ← HKn.out]; exact k1) (by rw [List.length_map, ← HKn.out]; omega) (hq3.ext y)).mono ?_
    rintro e w4 ⟨e4, hx4⟩
    replace e4 : e = .returned (.agg M.cells) := by rw [e4, HM.out]; rfl
    subst e4
    have y4 : Ext W w4 := y.trans hx4
    refine hK.out _ _ (fun _ => y4) ?_
    clear hK K
    (repeat (first | ((apply w4_pure); (· go_simp); (· (intro w1; go_simp; try with_reducible rfl)); (intro K hK; go_simp; refine hK _ _ ?_; clear hK K)) | ((apply w4_skip); (· go_simp); (intro K hK; go_simp; refine hK _ _ ?_; clear hK K))))
    (refine w4_act (fun K hK => ?_); go_simp)
    refine hK.out _ _ (fun _ => y4.alloc _) ?_
    clear hK K
    (repeat (first | ((apply w4_pure); (· go_simp); (· (intro w1; go_simp; try with_reducible rfl)); (intro K hK; go_simp; refine hK _ _ ?_; clear hK K)) | ((apply w4_skip); (· go_simp); (intro K hK; go_simp; refine hK _ _ ?_; clear hK K)) | (refine w4_end (by kernel_rfl) (fun K hK => ?_); go_simp; refine hK.out _ _ ?_; clear hK K))); refine w4_nil ?_
    have hA5 := Blk.ext hA3 (y4.alloc (.cells (bareC pc halt k M) 45))
    have hR5 := Blk.ext hR3 (y4.alloc (.cells (bareC pc halt k M) 45))
    have y5 := y3.trans (y4.alloc (.cells (bareC pc halt k M) 45))
    have hN5 := Blk.new w4 45 (bareC pc halt k M)
    have hl5 := Blk.lt hN5
    generalize (w4.alloc (.cells (bareC pc halt k M) 45)) = W5 at hA5 hR5 y5 hN5 hl5 ⊢
    generalize w4.heap.size = c9 at hN5 hl5 ⊢
    have hc5 := Blk.cell hA5
    have hh5 := Blk.has hR5
    have hm5 := Blk.melts hR5
    have hh6 := Blk.has hN5
    have hg6 := Blk.gets hN5
    rcases HST.out with hst | ⟨hst, hsz⟩
    all_goals
      go_wp2_with fail
      refine ret_ci Tryz.results36 rfl rfl aggStep (by exact sizeStep) (Blk.put_ hR5 _ _) ⟨?_, ?_⟩
      · have e1 := HM.out
        have e2 := HKn.out
        subst e1
        subst e2
        rfl
      · exact Kept.putAt y5 _ _ _ (fun h => by omega)
  · (refine w4_act (fun K hK => ?_); go_simp)
    refine hK.out _ _ (fun _ => y.alloc _) ?_
    clear hK K
    (repeat (first | ((apply w4_pure); (· go_simp); (· (intro w1; go_simp; try with_reducible rfl)); (intro K hK; go_simp; refine hK _ _ ?_; clear hK K)) | ((apply w4_skip); (· go_simp); (intro K hK; go_simp; refine hK _ _ ?_; clear hK K))))
    (refine w4_act (fun K hK => ?_); go_simp)
    go_wp2_with fail
    refine (troot_tree _ q (m.map leafW) _ (by rw [List.length_map, ← HKn.out]; exact k1) (by rw [List.length_map, ← HKn.out]; omega) (hq3.ext (y.alloc _))).mono ?_
    rintro e w4 ⟨e4, hx4⟩
    replace e4 : e = .returned (.agg M.cells) := by rw [e4, HM.out]; rfl
    subst e4
    have y4 : Ext W w4 := (y.alloc _).trans hx4
    refine hK.out _ _ (fun _ => y4) ?_
    clear hK K
    have hN4 : Blk w4 W.heap.size 45 zeroW := Blk.ext (Blk.new W.drew 45 zeroW) hx4
    have hh4 := Blk.has hN4
    have hm4 := Blk.melts hN4
    have hl4 := Blk.lt hN4
    (repeat (first | ((apply w4_pure); (· go_simp); (· (intro w1; go_simp; try with_reducible rfl)); (intro K hK; go_simp; refine hK _ _ ?_; clear hK K)) | ((apply w4_skip); (· go_simp); (intro K hK; go_simp; refine hK _ _ ?_; clear hK K)) | (refine w4_end (by kernel_rfl) (fun K hK => ?_); go_simp; refine hK.out _ _ ?_; clear hK K))); refine w4_nil ?_
    have yp : Ext W (putAt w4 W.heap.size 0 (bareC pc halt k M)) := Kept.putAt y4 _ _ _ (fun h => by omega)
    have hA5 := Blk.ext hA3 yp
    have hR5 := Blk.ext hR3 yp
    have y5 := y3.trans yp
    have hN5 : Blk (putAt w4 W.heap.size 0 (bareC pc halt k M)) W.heap.size 45 (bareC pc halt k M) := Blk.put_ hN4 _ _
    have hl5 := Blk.lt hN5
    generalize (putAt w4 W.heap.size 0 (bareC pc halt k M)) = W5 at hA5 hR5 y5 hN5 hl5 ⊢
    generalize W.heap.size = c9 at hN5 hl5 ⊢
    have hc5 := Blk.cell hA5
    have hh5 := Blk.has hR5
    have hm5 := Blk.melts hR5
    have hh6 := Blk.has hN5
    have hg6 := Blk.gets hN5
    rcases HST.out with hst | ⟨hst, hsz⟩
    all_goals
      go_wp2_with fail
      refine ret_ci Tryz.results36 rfl rfl aggStep (by exact sizeStep) (Blk.put_ hR5 _ _) ⟨?_, ?_⟩
      · have e1 := HM.out
        have e2 := HKn.out
        subst e1
        subst e2
        rfl
      · exact Kept.putAt y5 _ _ _ (fun h => by omega)
end Go.Proofs.YtahljceanodhkaaGreatDoor
