/- Package witness: a step as a value; right, bare, same; After and Check of a state that does not go on. -/
import Derived.Test.YtahljceanodhkaaGreatDoorWb
namespace Go.Proofs.YtahljceanodhkaaGreatDoor
open Go.RowKit
theorem ret_bool {a b : Bool} (h : a = b) : Ending.returned (.bool a) = .returned (.bool b) := by rw [h]
structure Ws where (pc halt words : Int) (mem : Dg) (ins : Ins) (pa : Option Addr) (pn pk : Nat) (ra : Option Addr) (rn rk : Nat) (wa : Option Addr) (wn wk : Nat)
abbrev Ws.cells (s : Ws) : Array Value := #[.int .i64 s.pc, .int .i64 s.halt, .int .i64 s.words, .int .u8 s.mem.x0, .int .u8 s.mem.x1, .int .u8 s.mem.x2, .int .u8 s.mem.x3, .int .u8 s.mem.x4, .int .u8 s.mem.x5, .int .u8 s.mem.x6, .int .u8 s.mem.x7, .int .i64 s.ins.op, .int .i64 s.ins.a, .int .i64 s.ins.b, .int .i64 s.ins.c, .slice s.pa s.pn s.pk, .slice s.ra s.rn s.rk, .slice s.wa s.wn s.wk]
attribute [go_sem] Ws.cells
set_option maxRecDepth 100000 in
set_option maxHeartbeats 1000000 in
theorem sright_any (s : Ws) (w : World) :
    Calls Tryz.prog 78 #[.agg s.cells] w fun e w' => e = .returned (.bool (rightS s.pc s.halt s.words)) ∧ Ext w w' := by
  have hx0 : Ext w _ := (Kept.refl _ w).alloc (.cells s.cells 45)
  go_enter Tryz.func78, Tryz.ntmps78
  go_wp2_with fail
  all_goals go_ret
  all_goals refine ⟨ret_bool ?_, hx0⟩
  all_goals (rw [Bool.eq_iff_iff]; simp [rightS]; omega)
def Ws.bare (s : Ws) : Bool := decide (s.rn = 0) && decide (s.wn = 0)
set_option maxRecDepth 100000 in
set_option maxHeartbeats 1000000 in
theorem sbare_any (s : Ws) (w : World) :
    Calls Tryz.prog 79 #[.agg s.cells] w fun e w' => e = .returned (.bool s.bare) ∧ Ext w w' := by
  have hx0 : Ext w _ := (Kept.refl _ w).alloc (.cells s.cells 45)
  rcases Nat.eq_zero_or_pos s.rn with h1 | h1
  · have b1 : (s.rn == 0) = true := by simp [h1]
    have b1' : ((s.rn : Int) == 0) = true := by simp [h1]
    have H1 := Lib.hid h1
    clear h1
    rcases Nat.eq_zero_or_pos s.wn with h2 | h2
    · have b2 : (s.wn == 0) = true := by simp [h2]
      have b2' : ((s.wn : Int) == 0) = true := by simp [h2]
      have H2 := Lib.hid h2
      clear h2
      go_enter Tryz.func79, Tryz.ntmps79
      go_wp2_with fail
      go_ret
      exact ⟨by simp [Ws.bare, H1.out, H2.out], hx0⟩
    · have b2 : (s.wn == 0) = false := by simp; omega
      have b2' : ((s.wn : Int) == 0) = false := by simp; omega
      have H2 := Lib.hid h2
      clear h2
      go_enter Tryz.func79, Tryz.ntmps79
      go_wp2_with fail
      go_ret
      exact ⟨by have := H2.out; simp [Ws.bare, H1.out]; omega, hx0⟩
  · have b1 : (s.rn == 0) = false := by simp; omega
    have b1' : ((s.rn : Int) == 0) = false := by simp; omega
    have H1 := Lib.hid h1
    clear h1
    go_enter Tryz.func79, Tryz.ntmps79
    go_wp2_with fail
    go_ret
    exact ⟨by have := H1.out; simp [Ws.bare]; omega, hx0⟩
def Ws.same (s : Ws) : Dg := hHead s.pc (if s.halt = 0 then 2 else s.halt) s.words s.mem
set_option maxRecDepth 100000 in
set_option maxHeartbeats 1000000 in
theorem ssame_any (s : Ws) (hm : s.mem.ok) (hr : rightS s.pc s.halt s.words = true) (w : World) :
    Calls Tryz.prog 80 #[.agg s.cells] w fun e w' => e = .returned (.agg s.same.cells) ∧ Ext w w' := by
  obtain ⟨h1, h2, h3, h4, h5, h6⟩ : 1 ≤ s.words ∧ s.words ≤ 256 ∧ 0 ≤ s.pc ∧ s.pc ≤ 2048 ∧ 0 ≤ s.halt ∧ s.halt ≤ 2 := by
    simp [rightS] at hr
    omega
  clear hr
  have HM := Lib.hid hm
  clear hm
  have hx0 : Ext w _ := ((Kept.refl _ w).alloc (.cells s.cells 45)).alloc (.cells Dg.zero.cells 30)
  have hA0 : Blk _ w.heap.size 45 s.cells := Blk.alloc (Blk.new w _ _) (.cells Dg.zero.cells 30)
  have hR0 : Blk _ (w.heap.size + 1) 30 Dg.zero.cells := Blk.new' (w.alloc (.cells s.cells 45)) _ _ _ (by simp)
  obtain ⟨D, hD⟩ : ∃ D, D = s.same := ⟨_, rfl⟩
  rw [← hD]
  have HD := Lib.hid hD
  clear hD
  by_cases h0 : s.halt = 0
  · have hb0 : (s.halt == 0) = true := by simp [h0]
    have H0 := Lib.hid h0
    clear h0
    go_enter Tryz.func80, Tryz.ntmps80
    go_wp2_with fail
    refine (head_any s.pc 2 s.words s.mem HM.out (by omega) (by omega) (by omega) _).mono ?_
    rintro e w1 ⟨e1, hx1⟩
    replace e1 : e = .returned (.agg D.cells) := by rw [e1, HD.out]; simp [Ws.same, H0.out]
    subst e1
    have hR1 := Blk.ext hR0 hx1
    have hh1 := Blk.has hR1
    have hm1 := Blk.melts hR1
    go_wp2_with fail
    refine ret_cell Tryz.results80 rfl rfl aggDig (by exact sizeDig) (Blk.put_ hR1 _ _) ⟨rfl, ?_⟩
    exact Kept.putAt (hx0.trans hx1) _ _ _ (fun h => by omega)
  · have hb0 : (s.halt == 0) = false := by simp [h0]
    have H0 := Lib.hid h0
    clear h0
    go_enter Tryz.func80, Tryz.ntmps80
    go_wp2_with fail
    refine (head_any s.pc s.halt s.words s.mem HM.out (by omega) (by omega) (by omega) _).mono ?_
    rintro e w1 ⟨e1, hx1⟩
    replace e1 : e = .returned (.agg D.cells) := by rw [e1, HD.out]; simp [Ws.same, H0.out]
    subst e1
    have hR1 := Blk.ext hR0 hx1
    have hh1 := Blk.has hR1
    have hm1 := Blk.melts hR1
    go_wp2_with fail
    refine ret_cell Tryz.results80 rfl rfl aggDig (by exact sizeDig) (Blk.put_ hR1 _ _) ⟨rfl, ?_⟩
    exact Kept.putAt (hx0.trans hx1) _ _ _ (fun h => by omega)
def Ws.stays (s : Ws) (size : Int) : Prop := ¬ s.halt = 0 ∨ size ≤ s.pc
theorem Ws.stays.split {s : Ws} {size : Int} (h : s.stays size) : (s.halt != 0) = true ∨ ((s.halt != 0) = false ∧ size ≤ s.pc) := by
  unfold Ws.stays at h
  by_cases e : s.halt = 0
  · exact .inr ⟨by simp [e], h.resolve_left (fun f => f e)⟩
  · exact .inl (by simp [e])
theorem bare_split (s : Ws) : s.bare = true ∨ s.bare = false := by cases s.bare <;> simp
set_option maxRecDepth 100000 in
set_option maxHeartbeats 2000000 in
theorem after_stays (s : Ws) (p : Dg) (size : Int) (w : World) (hm : s.mem.ok) (hs1 : 1 ≤ size) (hs2 : size ≤ 2048) (hr : rightS s.pc s.halt s.words = true) (hst : s.stays size) (hi : s.ins = ⟨0, 0, 0, 0⟩) (hp : s.pn = 0) (hb : s.bare = true) :
    Calls Tryz.prog 37 #[.agg #[.int .u8 p.x0, .int .u8 p.x1, .int .u8 p.x2, .int .u8 p.x3, .int .u8 p.x4, .int .u8 p.x5, .int .u8 p.x6, .int .u8 p.x7], .int .i64 size, .agg (hHead s.pc s.halt s.words s.mem).cells, .agg s.cells] w fun e w' => e = .returned (.tuple #[.agg s.same.cells, .int .i64 0]) ∧ Ext w w' := by
  obtain ⟨h1, h2, h3, h4, h5, h6⟩ : 1 ≤ s.words ∧ s.words ≤ 256 ∧ 0 ≤ s.pc ∧ s.pc ≤ 2048 ∧ 0 ≤ s.halt ∧ s.halt ≤ 2 := by
    simp [rightS] at hr
    omega
  have HM := Lib.hid hm
  have HR := Lib.hid hr
  have HB := Lib.hid hb
  have HI := Lib.hid hi
  have hp0 : ¬ (0 : Int) < s.pn := by omega
  have hp1 : ¬ 0 < s.pn := by omega
  have hP := Lib.hid hp
  have HST := Lib.hid hst.split
  clear hm hr hb hi hp hst
  obtain ⟨B, hB⟩ : ∃ B, B = hHead s.pc s.halt s.words s.mem := ⟨_, rfl⟩
  rw [← hB]
  have HBf := Lib.hid hB
  clear hB
  have hx0 : Ext w _ := ((((Kept.refl _ w).alloc (.cells #[.int .u8 p.x0, .int .u8 p.x1, .int .u8 p.x2, .int .u8 p.x3, .int .u8 p.x4, .int .u8 p.x5, .int .u8 p.x6, .int .u8 p.x7] 30)).alloc (.cells B.cells 30)).alloc (.cells s.cells 45)).alloc (.cells Dg.zero.cells 30)
  have hB0 : Blk _ (w.heap.size + 1) 30 B.cells := Blk.alloc (Blk.alloc (Blk.new' (w.alloc (.cells #[.int .u8 p.x0, .int .u8 p.x1, .int .u8 p.x2, .int .u8 p.x3, .int .u8 p.x4, .int .u8 p.x5, .int .u8 p.x6, .int .u8 p.x7] 30)) _ B.cells _ (by simp)) (.cells s.cells 45)) (.cells Dg.zero.cells 30)
  have hS0 : Blk _ (w.heap.size + 1 + 1) 45 s.cells := Blk.alloc (Blk.new' ((w.alloc (.cells #[.int .u8 p.x0, .int .u8 p.x1, .int .u8 p.x2, .int .u8 p.x3, .int .u8 p.x4, .int .u8 p.x5, .int .u8 p.x6, .int .u8 p.x7] 30)).alloc (.cells B.cells 30)) _ s.cells _ (by simp)) (.cells Dg.zero.cells 30)
  have hR0 : Blk _ (w.heap.size + 1 + 1 + 1) 30 Dg.zero.cells := Blk.new' (((w.alloc (.cells #[.int .u8 p.x0, .int .u8 p.x1, .int .u8 p.x2, .int .u8 p.x3, .int .u8 p.x4, .int .u8 p.x5, .int .u8 p.x6, .int .u8 p.x7] 30)).alloc (.cells B.cells 30)).alloc (.cells s.cells 45)) _ _ _ (by simp)
  go_enter Tryz.func37, Tryz.ntmps37
  go_wp2_with fail
  refine (sright_any s _).mono ?_
  rintro e w1 ⟨rfl, hx1⟩
  rw [HR.out]
  have y1 := hx0.trans hx1
  have hB1 := Blk.ext hB0 hx1
  have hS1 := Blk.ext hS0 hx1
  have hR1 := Blk.ext hR0 hx1
  clear hx0 hx1 hB0 hS0 hR0
  have hlS := Blk.lt hS1
  have hlR := Blk.lt hR1
  go_wp2_with fail
  refine wp_region_3 (fun w2 => Ext w1 w2) [(0, 2), (1, 1), (2, 2), (3, 1), (4, 2), (5, 1), (6, 2), (7, 1), (9, 1), (8, 0), (10, 2)] (by kernel_rfl) (by kernel_rfl) (by kernel_rfl) (by kernel_rfl) ?_; intro l' hl'; simp only [List.map_cons, List.map_nil, List.getD_cons_zero, List.getD_cons_succ] at hl'; subst hl'
  (repeat (first | ((apply w3_pure); (· go_simp); (· (intro w1; go_simp; try with_reducible rfl)); (intro K hK; go_simp; refine hK _ _ ?_; clear hK K)) | ((apply w3_skip); (· go_simp); (intro K hK; go_simp; refine hK _ _ ?_; clear hK K)) | ((apply w3_take); (· exact (Kept.drew (Kept.refl _ _))); (· go_simp); (· (intro w1 hS; have d1 := Blk.ext hS1 hS; have d2 := Blk.ext hB1 hS; have d3 := Blk.cell d1; have d4 := Blk.has d1; have d5 := Blk.gets d1; have d6 := Blk.has d2; have d7 := Blk.gets d2;  go_simp; try with_reducible rfl)); (intro K hK; go_simp; refine hK _ _ ?_; clear hK K)) | ((apply w3_pass); (· exact (Kept.drew (Kept.refl _ _))); (· go_simp); (intro K hK; go_simp; refine hK _ _ ?_; clear hK K))))
  (refine w3_act (fun K hK => ?_); go_simp)
  go_wp2_with fail
  refine (head_any s.pc s.halt s.words s.mem HM.out (by omega) (by omega) (by omega) _).mono ?_
  rintro e w2 ⟨e2, hx2⟩
  replace e2 : e = .returned (.agg B.cells) := by rw [e2, HBf.out]
  subst e2
  have y2 : Ext w1 w2 := ((Kept.refl _ w1).drew).trans hx2
  refine hK.out _ _ (fun _ => y2) ?_
  clear hK K
  (repeat (first | ((apply w3_pure); (· go_simp); (· (intro w1; go_simp; try with_reducible rfl)); (intro K hK; go_simp; refine hK _ _ ?_; clear hK K)) | ((apply w3_skip); (· go_simp); (intro K hK; go_simp; refine hK _ _ ?_; clear hK K)) | (refine w3_end (by kernel_rfl) (fun K hK => ?_); go_simp; refine hK.out _ _ ?_; clear hK K))); refine w3_nil ?_
  have hS2 := Blk.ext hS1 y2
  have hR2 := Blk.ext hR1 y2
  have hc2 := Blk.cell hS2
  have hh2 := Blk.has hS2
  have hg2 := Blk.gets hS2
  have hI1 : (s.ins.op == 0) = true := by rw [HI.out]; rfl
  have hI2 : (s.ins.a == 0) = true := by rw [HI.out]; rfl
  have hI3 : (s.ins.b == 0) = true := by rw [HI.out]; rfl
  have hI4 : (s.ins.c == 0) = true := by rw [HI.out]; rfl
  rcases HST.out with hst | ⟨hst, hsz⟩
  all_goals
    go_wp2_with fail
    refine (sbare_any s _).mono ?_
    rintro e w3 ⟨rfl, hx3⟩
    rw [HB.out]
    have hS3 := Blk.ext hS2 hx3
    have hR3 := Blk.ext hR2 hx3
    have hh3 := Blk.has hS3
    have hg3 := Blk.gets hS3
    go_wp2_with fail
    refine (ssame_any s HM.out HR.out _).mono ?_
    rintro e w4 ⟨rfl, hx4⟩
    have hR4 := Blk.ext hR3 hx4
    have hh4 := Blk.has hR4
    have hm4 := Blk.melts hR4
    go_wp2_with fail
    refine ret_ci Tryz.results37 rfl rfl aggDig (by exact sizeDig) (Blk.put_ hR4 _ _) ⟨rfl, ?_⟩
    exact Kept.putAt (((y1.trans y2).trans hx3).trans hx4) _ _ _ (fun h => by omega)
end Go.Proofs.YtahljceanodhkaaGreatDoor
