/- Several texts joined: Wb, Wc, Wd, Opn, We, Wf, Wg, Wh. -/
import Derived.ProofKit
import Derived.OpenShut
import Derived.ShutString
import Derived.ChangeOld
import Derived.Below
import Derived.Deep.Slices
import Derived.Test.YtahljceanodhkaaGreatDoorTtd
/- Package witness: memoryTree, State. -/
namespace Go.Proofs.YtahljceanodhkaaGreatDoor
open Go.RowKit
set_option maxRecDepth 100000 in
set_option maxHeartbeats 1000000 in
theorem memtree_ok (pc halt : Int) (A : Option Addr) (b off cap : Nat) (l : List Int) (n : Nat) (hn : n = l.length) (hg : rightS pc halt n = true) (hA : 0 < n → A = some ⟨b, off, none⟩) (w : World) (hr : 0 < n → Row w b off (mems l)) :
    Calls Tryz.prog 70 #[.agg (stCells pc A n cap halt)] w fun e w' => IsTree w w' e (l.map leafW) := by
  obtain ⟨h1, h2, h3, h4, h5, h6⟩ := rightS_inv hg
  have HG := Lib.hid hg
  have HN := Lib.hid hn
  have HA := Lib.hid hA
  have HR := Lib.hid hr
  clear hn hA hr hg
  have hx0 : Ext w _ := (Kept.refl _ w).alloc (.cells (stCells pc A n cap halt) 70)
  have hA0 : Blk _ w.heap.size 70 (stCells pc A n cap halt) := Blk.new w _ _
  go_enter Tryz.func70, Tryz.ntmps70
  go_wp2_with fail
  refine (right_any pc halt A n cap _).mono ?_
  rintro e w1 ⟨rfl, hx1⟩
  rw [HG.out]
  have hA1 := Blk.ext hA0 hx1
  have hc1 := Blk.cell hA1
  have y1 := hx0.trans hx1
  go_wp2_with fail
  refine (wordLeaves_ok A b off cap l n HN.out (by omega) HA.out _ (fun h => (HR.out h).ext y1)).mono ?_
  rintro e w2 ⟨v, rfl, ho, hx2⟩
  obtain ⟨g, c, rfl, hg, hrow, hc, hcm, hl⟩ := own_someE ho h1
  have HL := Lib.hid hl
  clear hl hc hcm hc1
  go_wp2_with fail
  refine (tnew_ok g 0 c (l.map leafW) n HL.out h1 (by omega) (by simp; exact fun i _ => leafW_ok i) _ hrow).mono ?_
  rintro e w3 ⟨p, rfl, ht, hx3⟩
  go_wp2_with fail
  go_ret2
  exact ⟨p, rfl, ht.low (y1.trans hx2).size, (y1.trans hx2).trans hx3⟩
set_option maxRecDepth 100000 in
set_option maxHeartbeats 1000000 in
theorem memtree_no (pc halt : Int) (A : Option Addr) (cap : Nat) (n : Nat) (hg : rightS pc halt n = false) (w : World) :
    Calls Tryz.prog 70 #[.agg (stCells pc A n cap halt)] w fun e w' => e = .returned (.tuple #[.pointer none, .int .i64 2]) ∧ Ext w w' := by
  have HG := Lib.hid hg
  clear hg
  have hx0 : Ext w _ := (Kept.refl _ w).alloc (.cells (stCells pc A n cap halt) 70)
  go_enter Tryz.func70, Tryz.ntmps70
  go_wp2_with fail
  refine (right_any pc halt A n cap _).mono ?_
  rintro e w1 ⟨rfl, hx1⟩
  rw [HG.out]
  go_wp2_with fail
  go_ret2
  exact ⟨rfl, hx0.trans hx1⟩
set_option maxRecDepth 100000 in
set_option maxHeartbeats 1000000 in
theorem wstate_ok (pc halt : Int) (A : Option Addr) (b off cap : Nat) (l : List Int) (n : Nat) (hn : n = l.length) (hg : rightS pc halt n = true) (hA : 0 < n → A = some ⟨b, off, none⟩) (w : World) (hr : 0 < n → Row w b off (mems l)) :
    Calls Tryz.prog 32 #[.agg (stCells pc A n cap halt)] w fun e w' => e = .returned (.tuple #[.agg (stateR pc halt l).cells, .int .i64 0]) ∧ Ext w w' := by
  obtain ⟨h1, h2, h3, h4, h5, h6⟩ := rightS_inv hg
  have HG := Lib.hid hg
  have HN := Lib.hid hn
  have HA := Lib.hid hA
  have HR := Lib.hid hr
  clear hn hA hr hg
  obtain ⟨D, hD⟩ : ∃ D, D = stateR pc halt l := ⟨_, rfl⟩
  rw [← hD]
  have HD := Lib.hid hD
  clear hD
  obtain ⟨M, hM⟩ : ∃ M, M = memR l := ⟨_, rfl⟩
  have HM := Lib.hid hM
  clear hM
  have hx0 : Ext w _ := ((Kept.refl _ w).alloc (.cells (stCells pc A n cap halt) 70)).alloc (.cells Dg.zero.cells 30)
  have hA0 : Blk _ w.heap.size 70 (stCells pc A n cap halt) := Blk.alloc (Blk.new w _ _) (.cells Dg.zero.cells 30)
  have hR0 : Blk _ (w.heap.size + 1) 30 Dg.zero.cells := Blk.new' (w.alloc (.cells (stCells pc A n cap halt) 70)) _ _ _ (by simp)
  go_enter Tryz.func32, Tryz.ntmps32
  go_wp2_with fail
  refine (memtree_ok pc halt A b off cap l n HN.out HG.out HA.out _ (fun h => (HR.out h).ext hx0)).mono ?_
  rintro e w1 ⟨p, rfl, ht, hx1⟩
  have hA1 := Blk.ext hA0 hx1
  have hc1 := Blk.cell hA1
  have hR1 := Blk.ext hR0 hx1
  have hl1 := Blk.lt hR1
  have hla := Blk.lt hA1
  go_wp2_with fail
  refine wp_region_3 (fun w2 => Ext w1 w2) [(0, 2), (1, 1), (2, 2), (3, 1), (4, 2), (5, 1), (6, 2), (7, 2), (8, 0), (9, 0), (10, 0), (11, 2)] (by kernel_rfl) (by kernel_rfl) (by kernel_rfl) (by kernel_rfl) ?_; intro l' hl'; simp only [List.map_cons, List.map_nil, List.getD_cons_zero, List.getD_cons_succ] at hl'; subst hl'
  (repeat (first | ((apply w3_pure); (· go_simp); (· (intro w1; go_simp; try with_reducible rfl)); (intro K hK; go_simp; refine hK _ _ ?_; clear hK K)) | ((apply w3_skip); (· go_simp); (intro K hK; go_simp; refine hK _ _ ?_; clear hK K)) | ((apply w3_take); (· exact (Kept.drew (Kept.refl _ _))); (· go_simp); (· (intro w1 hS; have d1 := Blk.cell (Blk.ext hA1 hS);  go_simp; try with_reducible rfl)); (intro K hK; go_simp; refine hK _ _ ?_; clear hK K)) | ((apply w3_pass); (· exact (Kept.drew (Kept.refl _ _))); (· go_simp); (intro K hK; go_simp; refine hK _ _ ?_; clear hK K))))
  (refine w3_act (fun K hK => ?_); go_simp)
  go_wp2_with fail
  refine (troot_tree _ p (l.map leafW) _ (by rw [List.length_map, ← HN.out]; exact h1) (by rw [List.length_map, ← HN.out]; omega) (ht.ext ((Kept.refl _ w1).drew))).mono ?_
  rintro e w2 ⟨e2, hx2⟩
  replace e2 : e = .returned (.agg M.cells) := by rw [e2, HM.out]; rfl
  subst e2
  have y2 : Ext w1 w2 := ((Kept.refl _ w1).drew).trans hx2
  refine hK.out _ _ (fun _ => y2) ?_
  clear hK K
  (refine w3_act (fun K hK => ?_); go_simp)
  go_wp2_with fail
  refine (head_any pc halt n M (by rw [HM.out]; exact hWord_ok _ _) (by omega) (by omega) (by omega) _).mono ?_
  rintro e w3 ⟨e3, hx3⟩
  replace e3 : e = .returned (.agg D.cells) := by rw [e3, HD.out, HM.out, stateR, ← HN.out]
  subst e3
  have y3 := y2.trans hx3
  refine hK.out _ _ (fun _ => y3) ?_
  clear hK K
  have hR3 := Blk.ext hR1 y3
  have hh3 := Blk.has hR3
  have hm3 := Blk.melts hR3
  (repeat (first | ((apply w3_pure); (· go_simp); (· (intro w1; go_simp; try with_reducible rfl)); (intro K hK; go_simp; refine hK _ _ ?_; clear hK K)) | ((apply w3_skip); (· go_simp); (intro K hK; go_simp; refine hK _ _ ?_; clear hK K)) | (refine w3_end (by kernel_rfl) (fun K hK => ?_); go_simp; refine hK.out _ _ ?_; clear hK K))); refine w3_nil ?_
  go_wp2_with fail
  refine ret_ci Tryz.results32 rfl rfl aggDig (by exact sizeDig) (Blk.put_ hR3 _ _) ⟨rfl, ?_⟩
  exact Kept.putAt ((hx0.trans hx1).trans y3) _ _ _ (fun h => by omega)
set_option maxRecDepth 100000 in
set_option maxHeartbeats 1000000 in
theorem wstate_no (pc halt : Int) (A : Option Addr) (cap : Nat) (n : Nat) (hg : rightS pc halt n = false) (w : World) :
    Calls Tryz.prog 32 #[.agg (stCells pc A n cap halt)] w fun e w' => e = .returned (.tuple #[.agg Dg.zero.cells, .int .i64 2]) ∧ Ext w w' := by
  have HG := Lib.hid hg
  clear hg
  have hx0 : Ext w _ := ((Kept.refl _ w).alloc (.cells (stCells pc A n cap halt) 70)).alloc (.cells Dg.zero.cells 30)
  have hR0 : Blk _ (w.heap.size + 1) 30 Dg.zero.cells := Blk.new' (w.alloc (.cells (stCells pc A n cap halt) 70)) _ _ _ (by simp)
  go_enter Tryz.func32, Tryz.ntmps32
  go_wp2_with fail
  refine (memtree_no pc halt A cap n HG.out _).mono ?_
  rintro e w1 ⟨rfl, hx1⟩
  have hR1 := Blk.ext hR0 hx1
  have hh1 := Blk.has hR1
  have hm1 := Blk.melts hR1
  go_wp2_with fail
  refine ret_ci Tryz.results32 rfl rfl aggDig (by exact sizeDig) (Blk.put_ hR1 _ _) ⟨rfl, ?_⟩
  exact Kept.putAt (hx0.trans hx1) _ _ _ (fun h => by omega)
end Go.Proofs.YtahljceanodhkaaGreatDoor

/- Package witness: a step as a value; right, bare, same; After and Check of a state that does not go on. -/
namespace Go.Proofs.YtahljceanodhkaaGreatDoor
open Go.RowKit
theorem ret_bool {a b : Bool} (h : a = b) : Ending.returned (.bool a) = .returned (.bool b) := by rw [h]
structure Ws where (pc halt words : Int) (mem : Dg) (ins : Ins) (pa : Option Addr) (pn pk : Nat) (ra : Option Addr) (rn rk : Nat) (wa : Option Addr) (wn wk : Nat)
abbrev Ws.cells (s : Ws) : Array Value := #[.int .i64 s.pc, .int .i64 s.halt, .int .i64 s.words, .int .u8 s.mem.x0, .int .u8 s.mem.x1, .int .u8 s.mem.x2, .int .u8 s.mem.x3, .int .u8 s.mem.x4, .int .u8 s.mem.x5, .int .u8 s.mem.x6, .int .u8 s.mem.x7, .int .i64 s.ins.op, .int .i64 s.ins.a, .int .i64 s.ins.b, .int .i64 s.ins.c, .slice s.pa s.pn s.pk, .slice s.ra s.rn s.rk, .slice s.wa s.wn s.wk]
attribute [go_sem] Ws.cells
set_option maxRecDepth 100000 in
set_option maxHeartbeats 1000000 in
theorem sright_any (s : Ws) (w : World) :
    Calls Tryz.prog 78 #[.agg s.cells] w fun e w' => e = .returned (.bool (rightS s.pc s.halt s.words)) ∧ Ext w w' := by
  have hx0 : Ext w _ := (Kept.refl _ w).alloc (.cells s.cells 45)
  go_enter Tryz.func78, Tryz.ntmps78
  go_wp2_with fail
  all_goals go_ret
  all_goals refine ⟨ret_bool ?_, hx0⟩
  all_goals (rw [Bool.eq_iff_iff]; simp [rightS]; omega)
def Ws.bare (s : Ws) : Bool := decide (s.rn = 0) && decide (s.wn = 0)
set_option maxRecDepth 100000 in
set_option maxHeartbeats 1000000 in
theorem sbare_any (s : Ws) (w : World) :
    Calls Tryz.prog 79 #[.agg s.cells] w fun e w' => e = .returned (.bool s.bare) ∧ Ext w w' := by
  have hx0 : Ext w _ := (Kept.refl _ w).alloc (.cells s.cells 45)
  rcases Nat.eq_zero_or_pos s.rn with h1 | h1
  · have b1 : (s.rn == 0) = true := by simp [h1]
    have b1' : ((s.rn : Int) == 0) = true := by simp [h1]
    have H1 := Lib.hid h1
    clear h1
    rcases Nat.eq_zero_or_pos s.wn with h2 | h2
    · have b2 : (s.wn == 0) = true := by simp [h2]
      have b2' : ((s.wn : Int) == 0) = true := by simp [h2]
      have H2 := Lib.hid h2
      clear h2
      go_enter Tryz.func79, Tryz.ntmps79
      go_wp2_with fail
      go_ret
      exact ⟨by simp [Ws.bare, H1.out, H2.out], hx0⟩
    · have b2 : (s.wn == 0) = false := by simp; omega
      have b2' : ((s.wn : Int) == 0) = false := by simp; omega
      have H2 := Lib.hid h2
      clear h2
      go_enter Tryz.func79, Tryz.ntmps79
      go_wp2_with fail
      go_ret
      exact ⟨by have := H2.out; simp [Ws.bare, H1.out]; omega, hx0⟩
  · have b1 : (s.rn == 0) = false := by simp; omega
    have b1' : ((s.rn : Int) == 0) = false := by simp; omega
    have H1 := Lib.hid h1
    clear h1
    go_enter Tryz.func79, Tryz.ntmps79
    go_wp2_with fail
    go_ret
    exact ⟨by have := H1.out; simp [Ws.bare]; omega, hx0⟩
def Ws.same (s : Ws) : Dg := hHead s.pc (if s.halt = 0 then 2 else s.halt) s.words s.mem
set_option maxRecDepth 100000 in
set_option maxHeartbeats 1000000 in
theorem ssame_any (s : Ws) (hm : s.mem.ok) (hr : rightS s.pc s.halt s.words = true) (w : World) :
    Calls Tryz.prog 80 #[.agg s.cells] w fun e w' => e = .returned (.agg s.same.cells) ∧ Ext w w' := by
  obtain ⟨h1, h2, h3, h4, h5, h6⟩ : 1 ≤ s.words ∧ s.words ≤ 256 ∧ 0 ≤ s.pc ∧ s.pc ≤ 2048 ∧ 0 ≤ s.halt ∧ s.halt ≤ 2 := by
    simp [rightS] at hr
    omega
  clear hr
  have HM := Lib.hid hm
  clear hm
  have hx0 : Ext w _ := ((Kept.refl _ w).alloc (.cells s.cells 45)).alloc (.cells Dg.zero.cells 30)
  have hA0 : Blk _ w.heap.size 45 s.cells := Blk.alloc (Blk.new w _ _) (.cells Dg.zero.cells 30)
  have hR0 : Blk _ (w.heap.size + 1) 30 Dg.zero.cells := Blk.new' (w.alloc (.cells s.cells 45)) _ _ _ (by simp)
  obtain ⟨D, hD⟩ : ∃ D, D = s.same := ⟨_, rfl⟩
  rw [← hD]
  have HD := Lib.hid hD
  clear hD
  by_cases h0 : s.halt = 0
  · have hb0 : (s.halt == 0) = true := by simp [h0]
    have H0 := Lib.hid h0
    clear h0
    go_enter Tryz.func80, Tryz.ntmps80
    go_wp2_with fail
    refine (head_any s.pc 2 s.words s.mem HM.out (by omega) (by omega) (by omega) _).mono ?_
    rintro e w1 ⟨e1, hx1⟩
    replace e1 : e = .returned (.agg D.cells) := by rw [e1, HD.out]; simp [Ws.same, H0.out]
    subst e1
    have hR1 := Blk.ext hR0 hx1
    have hh1 := Blk.has hR1
    have hm1 := Blk.melts hR1
    go_wp2_with fail
    refine ret_cell Tryz.results80 rfl rfl aggDig (by exact sizeDig) (Blk.put_ hR1 _ _) ⟨rfl, ?_⟩
    exact Kept.putAt (hx0.trans hx1) _ _ _ (fun h => by omega)
  · have hb0 : (s.halt == 0) = false := by simp [h0]
    have H0 := Lib.hid h0
    clear h0
    go_enter Tryz.func80, Tryz.ntmps80
    go_wp2_with fail
    refine (head_any s.pc s.halt s.words s.mem HM.out (by omega) (by omega) (by omega) _).mono ?_
    rintro e w1 ⟨e1, hx1⟩
    replace e1 : e = .returned (.agg D.cells) := by rw [e1, HD.out]; simp [Ws.same, H0.out]
    subst e1
    have hR1 := Blk.ext hR0 hx1
    have hh1 := Blk.has hR1
    have hm1 := Blk.melts hR1
    go_wp2_with fail
    refine ret_cell Tryz.results80 rfl rfl aggDig (by exact sizeDig) (Blk.put_ hR1 _ _) ⟨rfl, ?_⟩
    exact Kept.putAt (hx0.trans hx1) _ _ _ (fun h => by omega)
def Ws.stays (s : Ws) (size : Int) : Prop := ¬ s.halt = 0 ∨ size ≤ s.pc
theorem Ws.stays.split {s : Ws} {size : Int} (h : s.stays size) : (s.halt != 0) = true ∨ ((s.halt != 0) = false ∧ size ≤ s.pc) := by
  unfold Ws.stays at h
  by_cases e : s.halt = 0
  · exact .inr ⟨by simp [e], h.resolve_left (fun f => f e)⟩
  · exact .inl (by simp [e])
theorem bare_split (s : Ws) : s.bare = true ∨ s.bare = false := by cases s.bare <;> simp
set_option maxRecDepth 100000 in
set_option maxHeartbeats 2000000 in
theorem after_stays (s : Ws) (p : Dg) (size : Int) (w : World) (hm : s.mem.ok) (hs1 : 1 ≤ size) (hs2 : size ≤ 2048) (hr : rightS s.pc s.halt s.words = true) (hst : s.stays size) (hi : s.ins = ⟨0, 0, 0, 0⟩) (hp : s.pn = 0) (hb : s.bare = true) :
    Calls Tryz.prog 37 #[.agg #[.int .u8 p.x0, .int .u8 p.x1, .int .u8 p.x2, .int .u8 p.x3, .int .u8 p.x4, .int .u8 p.x5, .int .u8 p.x6, .int .u8 p.x7], .int .i64 size, .agg (hHead s.pc s.halt s.words s.mem).cells, .agg s.cells] w fun e w' => e = .returned (.tuple #[.agg s.same.cells, .int .i64 0]) ∧ Ext w w' := by
  obtain ⟨h1, h2, h3, h4, h5, h6⟩ : 1 ≤ s.words ∧ s.words ≤ 256 ∧ 0 ≤ s.pc ∧ s.pc ≤ 2048 ∧ 0 ≤ s.halt ∧ s.halt ≤ 2 := by
    simp [rightS] at hr
    omega
  have HM := Lib.hid hm
  have HR := Lib.hid hr
  have HB := Lib.hid hb
  have HI := Lib.hid hi
  have hp0 : ¬ (0 : Int) < s.pn := by omega
  have hp1 : ¬ 0 < s.pn := by omega
  have hP := Lib.hid hp
  have HST := Lib.hid hst.split
  clear hm hr hb hi hp hst
  obtain ⟨B, hB⟩ : ∃ B, B = hHead s.pc s.halt s.words s.mem := ⟨_, rfl⟩
  rw [← hB]
  have HBf := Lib.hid hB
  clear hB
  have hx0 : Ext w _ := ((((Kept.refl _ w).alloc (.cells #[.int .u8 p.x0, .int .u8 p.x1, .int .u8 p.x2, .int .u8 p.x3, .int .u8 p.x4, .int .u8 p.x5, .int .u8 p.x6, .int .u8 p.x7] 30)).alloc (.cells B.cells 30)).alloc (.cells s.cells 45)).alloc (.cells Dg.zero.cells 30)
  have hB0 : Blk _ (w.heap.size + 1) 30 B.cells := Blk.alloc (Blk.alloc (Blk.new' (w.alloc (.cells #[.int .u8 p.x0, .int .u8 p.x1, .int .u8 p.x2, .int .u8 p.x3, .int .u8 p.x4, .int .u8 p.x5, .int .u8 p.x6, .int .u8 p.x7] 30)) _ B.cells _ (by simp)) (.cells s.cells 45)) (.cells Dg.zero.cells 30)
  have hS0 : Blk _ (w.heap.size + 1 + 1) 45 s.cells := Blk.alloc (Blk.new' ((w.alloc (.cells #[.int .u8 p.x0, .int .u8 p.x1, .int .u8 p.x2, .int .u8 p.x3, .int .u8 p.x4, .int .u8 p.x5, .int .u8 p.x6, .int .u8 p.x7] 30)).alloc (.cells B.cells 30)) _ s.cells _ (by simp)) (.cells Dg.zero.cells 30)
  have hR0 : Blk _ (w.heap.size + 1 + 1 + 1) 30 Dg.zero.cells := Blk.new' (((w.alloc (.cells #[.int .u8 p.x0, .int .u8 p.x1, .int .u8 p.x2, .int .u8 p.x3, .int .u8 p.x4, .int .u8 p.x5, .int .u8 p.x6, .int .u8 p.x7] 30)).alloc (.cells B.cells 30)).alloc (.cells s.cells 45)) _ _ _ (by simp)
  go_enter Tryz.func37, Tryz.ntmps37
  go_wp2_with fail
  refine (sright_any s _).mono ?_
  rintro e w1 ⟨rfl, hx1⟩
  rw [HR.out]
  have y1 := hx0.trans hx1
  have hB1 := Blk.ext hB0 hx1
  have hS1 := Blk.ext hS0 hx1
  have hR1 := Blk.ext hR0 hx1
  clear hx0 hx1 hB0 hS0 hR0
  have hlS := Blk.lt hS1
  have hlR := Blk.lt hR1
  go_wp2_with fail
  refine wp_region_3 (fun w2 => Ext w1 w2) [(0, 2), (1, 1), (2, 2), (3, 1), (4, 2), (5, 1), (6, 2), (7, 1), (9, 1), (8, 0), (10, 2)] (by kernel_rfl) (by kernel_rfl) (by kernel_rfl) (by kernel_rfl) ?_; intro l' hl'; simp only [List.map_cons, List.map_nil, List.getD_cons_zero, List.getD_cons_succ] at hl'; subst hl'
  (repeat (first | ((apply w3_pure); (· go_simp); (· (intro w1; go_simp; try with_reducible rfl)); (intro K hK; go_simp; refine hK _ _ ?_; clear hK K)) | ((apply w3_skip); (· go_simp); (intro K hK; go_simp; refine hK _ _ ?_; clear hK K)) | ((apply w3_take); (· exact (Kept.drew (Kept.refl _ _))); (· go_simp); (· (intro w1 hS; have d1 := Blk.ext hS1 hS; have d2 := Blk.ext hB1 hS; have d3 := Blk.cell d1; have d4 := Blk.has d1; have d5 := Blk.gets d1; have d6 := Blk.has d2; have d7 := Blk.gets d2;  go_simp; try with_reducible rfl)); (intro K hK; go_simp; refine hK _ _ ?_; clear hK K)) | ((apply w3_pass); (· exact (Kept.drew (Kept.refl _ _))); (· go_simp); (intro K hK; go_simp; refine hK _ _ ?_; clear hK K))))
  (refine w3_act (fun K hK => ?_); go_simp)
  go_wp2_with fail
  refine (head_any s.pc s.halt s.words s.mem HM.out (by omega) (by omega) (by omega) _).mono ?_
  rintro e w2 ⟨e2, hx2⟩
  replace e2 : e = .returned (.agg B.cells) := by rw [e2, HBf.out]
  subst e2
  have y2 : Ext w1 w2 := ((Kept.refl _ w1).drew).trans hx2
  refine hK.out _ _ (fun _ => y2) ?_
  clear hK K
  (repeat (first | ((apply w3_pure); (· go_simp); (· (intro w1; go_simp; try with_reducible rfl)); (intro K hK; go_simp; refine hK _ _ ?_; clear hK K)) | ((apply w3_skip); (· go_simp); (intro K hK; go_simp; refine hK _ _ ?_; clear hK K)) | (refine w3_end (by kernel_rfl) (fun K hK => ?_); go_simp; refine hK.out _ _ ?_; clear hK K))); refine w3_nil ?_
  have hS2 := Blk.ext hS1 y2
  have hR2 := Blk.ext hR1 y2
  have hc2 := Blk.cell hS2
  have hh2 := Blk.has hS2
  have hg2 := Blk.gets hS2
  have hI1 : (s.ins.op == 0) = true := by rw [HI.out]; rfl
  have hI2 : (s.ins.a == 0) = true := by rw [HI.out]; rfl
  have hI3 : (s.ins.b == 0) = true := by rw [HI.out]; rfl
  have hI4 : (s.ins.c == 0) = true := by rw [HI.out]; rfl
  rcases HST.out with hst | ⟨hst, hsz⟩
  all_goals
    go_wp2_with fail
    refine (sbare_any s _).mono ?_
    rintro e w3 ⟨rfl, hx3⟩
    rw [HB.out]
    have hS3 := Blk.ext hS2 hx3
    have hR3 := Blk.ext hR2 hx3
    have hh3 := Blk.has hS3
    have hg3 := Blk.gets hS3
    go_wp2_with fail
    refine (ssame_any s HM.out HR.out _).mono ?_
    rintro e w4 ⟨rfl, hx4⟩
    have hR4 := Blk.ext hR3 hx4
    have hh4 := Blk.has hR4
    have hm4 := Blk.melts hR4
    go_wp2_with fail
    refine ret_ci Tryz.results37 rfl rfl aggDig (by exact sizeDig) (Blk.put_ hR4 _ _) ⟨rfl, ?_⟩
    exact Kept.putAt (((y1.trans y2).trans hx3).trans hx4) _ _ _ (fun h => by omega)
end Go.Proofs.YtahljceanodhkaaGreatDoor

/- Package witness: After of a step that shows too much; Check, Make of a state that does not go on. -/
namespace Go.Proofs.YtahljceanodhkaaGreatDoor
open Go.RowKit
set_option maxRecDepth 100000 in
set_option maxHeartbeats 2000000 in
theorem after_form (s : Ws) (p : Dg) (size : Int) (w : World) (hm : s.mem.ok) (hs1 : 1 ≤ size) (hs2 : size ≤ 2048) (hr : rightS s.pc s.halt s.words = true) (hst : s.stays size) (hi : s.ins = ⟨0, 0, 0, 0⟩) (hp : s.pn = 0) (hb : s.bare = false) :
    Calls Tryz.prog 37 #[.agg #[.int .u8 p.x0, .int .u8 p.x1, .int .u8 p.x2, .int .u8 p.x3, .int .u8 p.x4, .int .u8 p.x5, .int .u8 p.x6, .int .u8 p.x7], .int .i64 size, .agg (hHead s.pc s.halt s.words s.mem).cells, .agg s.cells] w fun e w' => e = .returned (.tuple #[.agg Dg.zero.cells, .int .i64 3]) ∧ Ext w w' := by
  obtain ⟨h1, h2, h3, h4, h5, h6⟩ : 1 ≤ s.words ∧ s.words ≤ 256 ∧ 0 ≤ s.pc ∧ s.pc ≤ 2048 ∧ 0 ≤ s.halt ∧ s.halt ≤ 2 := by
    simp [rightS] at hr
    omega
  have HM := Lib.hid hm
  have HR := Lib.hid hr
  have HB := Lib.hid hb
  have HI := Lib.hid hi
  have hp0 : ¬ (0 : Int) < s.pn := by omega
  have hp1 : ¬ 0 < s.pn := by omega
  have hP := Lib.hid hp
  have HST := Lib.hid hst.split
  clear hm hr hb hi hp hst
  obtain ⟨B, hB⟩ : ∃ B, B = hHead s.pc s.halt s.words s.mem := ⟨_, rfl⟩
  rw [← hB]
  have HBf := Lib.hid hB
  clear hB
  have hx0 : Ext w _ := ((((Kept.refl _ w).alloc (.cells #[.int .u8 p.x0, .int .u8 p.x1, .int .u8 p.x2, .int .u8 p.x3, .int .u8 p.x4, .int .u8 p.x5, .int .u8 p.x6, .int .u8 p.x7] 30)).alloc (.cells B.cells 30)).alloc (.cells s.cells 45)).alloc (.cells Dg.zero.cells 30)
  have hB0 : Blk _ (w.heap.size + 1) 30 B.cells := Blk.alloc (Blk.alloc (Blk.new' (w.alloc (.cells #[.int .u8 p.x0, .int .u8 p.x1, .int .u8 p.x2, .int .u8 p.x3, .int .u8 p.x4, .int .u8 p.x5, .int .u8 p.x6, .int .u8 p.x7] 30)) _ B.cells _ (by simp)) (.cells s.cells 45)) (.cells Dg.zero.cells 30)
  have hS0 : Blk _ (w.heap.size + 1 + 1) 45 s.cells := Blk.alloc (Blk.new' ((w.alloc (.cells #[.int .u8 p.x0, .int .u8 p.x1, .int .u8 p.x2, .int .u8 p.x3, .int .u8 p.x4, .int .u8 p.x5, .int .u8 p.x6, .int .u8 p.x7] 30)).alloc (.cells B.cells 30)) _ s.cells _ (by simp)) (.cells Dg.zero.cells 30)
  have hR0 : Blk _ (w.heap.size + 1 + 1 + 1) 30 Dg.zero.cells := Blk.new' (((w.alloc (.cells #[.int .u8 p.x0, .int .u8 p.x1, .int .u8 p.x2, .int .u8 p.x3, .int .u8 p.x4, .int .u8 p.x5, .int .u8 p.x6, .int .u8 p.x7] 30)).alloc (.cells B.cells 30)).alloc (.cells s.cells 45)) _ _ _ (by simp)
  go_enter Tryz.func37, Tryz.ntmps37
  go_wp2_with fail
  refine (sright_any s _).mono ?_
  rintro e w1 ⟨rfl, hx1⟩
  rw [HR.out]
  have y1 := hx0.trans hx1
  have hB1 := Blk.ext hB0 hx1
  have hS1 := Blk.ext hS0 hx1
  have hR1 := Blk.ext hR0 hx1
  clear hx0 hx1 hB0 hS0 hR0
  have hlS := Blk.lt hS1
  have hlR := Blk.lt hR1
  go_wp2_with fail
  refine wp_region_3 (fun w2 => Ext w1 w2) [(0, 2), (1, 1), (2, 2), (3, 1), (4, 2), (5, 1), (6, 2), (7, 1), (9, 1), (8, 0), (10, 2)] (by kernel_rfl) (by kernel_rfl) (by kernel_rfl) (by kernel_rfl) ?_; intro l' hl'; simp only [List.map_cons, List.map_nil, List.getD_cons_zero, List.getD_cons_succ] at hl'; subst hl'
  (repeat (first | ((apply w3_pure); (· go_simp); (· (intro w1; go_simp; try with_reducible rfl)); (intro K hK; go_simp; refine hK _ _ ?_; clear hK K)) | ((apply w3_skip); (· go_simp); (intro K hK; go_simp; refine hK _ _ ?_; clear hK K)) | ((apply w3_take); (· exact (Kept.drew (Kept.refl _ _))); (· go_simp); (· (intro w1 hS; have d1 := Blk.ext hS1 hS; have d2 := Blk.ext hB1 hS; have d3 := Blk.cell d1; have d4 := Blk.has d1; have d5 := Blk.gets d1; have d6 := Blk.has d2; have d7 := Blk.gets d2;  go_simp; try with_reducible rfl)); (intro K hK; go_simp; refine hK _ _ ?_; clear hK K)) | ((apply w3_pass); (· exact (Kept.drew (Kept.refl _ _))); (· go_simp); (intro K hK; go_simp; refine hK _ _ ?_; clear hK K))))
  (refine w3_act (fun K hK => ?_); go_simp)
  go_wp2_with fail
  refine (head_any s.pc s.halt s.words s.mem HM.out (by omega) (by omega) (by omega) _).mono ?_
  rintro e w2 ⟨e2, hx2⟩
  replace e2 : e = .returned (.agg B.cells) := by rw [e2, HBf.out]
  subst e2
  have y2 : Ext w1 w2 := ((Kept.refl _ w1).drew).trans hx2
  refine hK.out _ _ (fun _ => y2) ?_
  clear hK K
  (repeat (first | ((apply w3_pure); (· go_simp); (· (intro w1; go_simp; try with_reducible rfl)); (intro K hK; go_simp; refine hK _ _ ?_; clear hK K)) | ((apply w3_skip); (· go_simp); (intro K hK; go_simp; refine hK _ _ ?_; clear hK K)) | (refine w3_end (by kernel_rfl) (fun K hK => ?_); go_simp; refine hK.out _ _ ?_; clear hK K))); refine w3_nil ?_
  have hS2 := Blk.ext hS1 y2
  have hR2 := Blk.ext hR1 y2
  have hc2 := Blk.cell hS2
  have hh2 := Blk.has hS2
  have hg2 := Blk.gets hS2
  have hI1 : (s.ins.op == 0) = true := by rw [HI.out]; rfl
  have hI2 : (s.ins.a == 0) = true := by rw [HI.out]; rfl
  have hI3 : (s.ins.b == 0) = true := by rw [HI.out]; rfl
  have hI4 : (s.ins.c == 0) = true := by rw [HI.out]; rfl
  rcases HST.out with hst | ⟨hst, hsz⟩
  all_goals
    go_wp2_with fail
    refine (sbare_any s _).mono ?_
    rintro e w3 ⟨rfl, hx3⟩
    rw [HB.out]
    have hS3 := Blk.ext hS2 hx3
    have hR3 := Blk.ext hR2 hx3
    have hh3 := Blk.has hR3
    have hm3 := Blk.melts hR3
    go_wp2_with fail
    refine ret_ci Tryz.results37 rfl rfl aggDig (by exact sizeDig) (Blk.put_ hR3 _ _) ⟨rfl, ?_⟩
    exact Kept.putAt ((y1.trans y2).trans hx3) _ _ _ (fun h => by omega)
set_option maxRecDepth 100000 in
set_option maxHeartbeats 1000000 in
theorem check_stays (s : Ws) (p : Dg) (size : Int) (w : World) (hm : s.mem.ok) (hs1 : 1 ≤ size) (hs2 : size ≤ 2048) (hr : rightS s.pc s.halt s.words = true) (hst : s.stays size) (hi : s.ins = ⟨0, 0, 0, 0⟩) (hp : s.pn = 0) (hb : s.bare = true) :
    Calls Tryz.prog 42 #[.agg #[.int .u8 p.x0, .int .u8 p.x1, .int .u8 p.x2, .int .u8 p.x3, .int .u8 p.x4, .int .u8 p.x5, .int .u8 p.x6, .int .u8 p.x7], .int .i64 size, .agg (hHead s.pc s.halt s.words s.mem).cells, .agg s.same.cells, .agg s.cells] w fun e w' => e = .returned (.int .i64 0) ∧ Ext w w' := by
  have HA := fun w => Lib.hid (after_stays s p size w hm hs1 hs2 hr hst hi hp hb)
  clear hm hr hst hi hp hb
  obtain ⟨B, hB⟩ : ∃ B, B = hHead s.pc s.halt s.words s.mem := ⟨_, rfl⟩
  obtain ⟨Z, hZ⟩ : ∃ Z, Z = s.same := ⟨_, rfl⟩
  rw [← hB] at HA ⊢
  rw [← hZ] at HA ⊢
  clear hB hZ
  have hx0 : Ext w _ := ((((Kept.refl _ w).alloc (.cells #[.int .u8 p.x0, .int .u8 p.x1, .int .u8 p.x2, .int .u8 p.x3, .int .u8 p.x4, .int .u8 p.x5, .int .u8 p.x6, .int .u8 p.x7] 30)).alloc (.cells B.cells 30)).alloc (.cells Z.cells 30)).alloc (.cells s.cells 45)
  have hZ0 : Blk _ (w.heap.size + 1 + 1) 30 Z.cells := Blk.alloc (Blk.new' ((w.alloc (.cells #[.int .u8 p.x0, .int .u8 p.x1, .int .u8 p.x2, .int .u8 p.x3, .int .u8 p.x4, .int .u8 p.x5, .int .u8 p.x6, .int .u8 p.x7] 30)).alloc (.cells B.cells 30)) _ Z.cells _ (by simp)) (.cells s.cells 45)
  go_enter Tryz.func42, Tryz.ntmps42
  go_wp2_with fail
  refine ((HA _).out).mono ?_
  rintro e w1 ⟨rfl, hx1⟩
  have hZ1 := Blk.ext hZ0 hx1
  have hh1 := Blk.has hZ1
  have hg1 := Blk.gets hZ1
  have hl1 := Blk.lt hZ1
  go_wp2_with fail
  go_ret
  exact ⟨rfl, (hx0.trans hx1).alloc _⟩
abbrev zeroW : Array Value := #[.int .i64 0, .int .i64 0, .int .i64 0, .int .u8 0, .int .u8 0, .int .u8 0, .int .u8 0, .int .u8 0, .int .u8 0, .int .u8 0, .int .u8 0, .int .i64 0, .int .i64 0, .int .i64 0, .int .i64 0, .slice none 0 0, .slice none 0 0, .slice none 0 0]
attribute [go_sem] zeroW
abbrev bareC (pc halt : Int) (k : Nat) (M : Dg) : Array Value := #[.int .i64 pc, .int .i64 halt, .int .i64 k, .int .u8 M.x0, .int .u8 M.x1, .int .u8 M.x2, .int .u8 M.x3, .int .u8 M.x4, .int .u8 M.x5, .int .u8 M.x6, .int .u8 M.x7, .int .i64 0, .int .i64 0, .int .i64 0, .int .i64 0, .slice none 0 0, .slice none 0 0, .slice none 0 0]
attribute [go_sem] bareC
/-- what is made of a state that does not go on -/
def bareStep (pc halt : Int) (l : List Int) : Ws := ⟨pc, halt, l.length, memR l, ⟨0, 0, 0, 0⟩, none, 0, 0, none, 0, 0, none, 0, 0⟩
set_option maxRecDepth 100000 in
set_option maxHeartbeats 2000000 in
theorem make_stays (A : Option Addr) (b off cap : Nat) (l : List Ins) (n : Nat) (hn : n = l.length) (h1 : 1 ≤ n) (h2 : n ≤ 2048) (hok : ∀ i ∈ l, i.ok) (hA : 0 < n → A = some ⟨b, off, none⟩)
    (pc halt : Int) (A' : Option Addr) (b' off' cap' : Nat) (m : List Int) (k : Nat) (hk : k = m.length) (hg : rightS pc halt k = true) (hA' : 0 < k → A' = some ⟨b', off', none⟩) (hst : ¬ halt = 0 ∨ (n : Int) ≤ pc) (w : World) (hr : 0 < n → Row w b off (inss l)) (hr' : 0 < k → Row w b' off' (mems m)) :
    Calls Tryz.prog 36 #[.slice A n cap, .agg (stCells pc A' k cap' halt)] w fun e w' => e = .returned (.tuple #[.agg (bareStep pc halt m).cells, .int .i64 0]) ∧ Ext w w' := by
  obtain ⟨k1, k2, h3, h4, h5, h6⟩ := rightS_inv hg
  have HG := Lib.hid hg
  have HN := Lib.hid hn
  have HO := Lib.hid hok
  have HA := Lib.hid hA
  have HR := Lib.hid hr
  have HKn := Lib.hid hk
  have HA' := Lib.hid hA'
  have HR' := Lib.hid hr'
  have HST : Hid ((halt != 0) = true ∨ ((halt != 0) = false ∧ (n : Int) ≤ pc)) := Lib.hid (by
    by_cases e : halt = 0
    · exact .inr ⟨by simp [e], hst.resolve_left (fun f => f e)⟩
    · exact .inl (by simp [e]))
  clear hn hA hr hg hok hk hA' hr' hst
  obtain ⟨M, hM⟩ : ∃ M, M = memR m := ⟨_, rfl⟩
  have HM := Lib.hid hM
  clear hM
  have hx0 : Ext w _ := ((Kept.refl _ w).alloc (.cells (stCells pc A' k cap' halt) 70)).alloc (.cells zeroW 45)
  have hA0 : Blk _ w.heap.size 70 (stCells pc A' k cap' halt) := Blk.alloc (Blk.new w _ _) (.cells zeroW 45)
  have hR0 : Blk _ (w.heap.size + 1) 45 zeroW := Blk.new' (w.alloc (.cells (stCells pc A' k cap' halt) 70)) _ _ _ (by simp)
  go_enter Tryz.func36, Tryz.ntmps36
  go_wp2_with fail
  refine (codetree_ok A b off cap l n HN.out h1 h2 HO.out HA.out _ (fun h => (HR.out h).ext hx0)).mono ?_
  rintro e w1 ⟨p, rfl, ht, hx1⟩
  have hA1 := Blk.ext hA0 hx1
  have hR1 := Blk.ext hR0 hx1
  have hc1 := Blk.cell hA1
  have y1 := hx0.trans hx1
  clear hx0 hx1 hA0 hR0
  go_wp2_with fail
  refine (memtree_ok pc halt A' b' off' cap' m k HKn.out HG.out HA'.out _ (fun h => (HR'.out h).ext y1)).mono ?_
  rintro e w2 ⟨q, rfl, hq, hx2⟩
  have hA2 := Blk.ext hA1 hx2
  have hR2 := Blk.ext hR1 hx2
  have y2 := y1.trans hx2
  have hP2 := Blk.new w2 126 #[.pointer (some ⟨q, 0, none⟩)]
  have hx3 := (Kept.refl (fun _ => False) w2).alloc (.cells #[.pointer (some ⟨q, 0, none⟩)] 126)
  have hA3 := Blk.ext hA2 hx3
  have hR3 := Blk.ext hR2 hx3
  have hq3 := hq.ext hx3
  have y3 := y2.trans hx3
  clear hc1
  go_wp2_with fail
  generalize (w2.alloc (.cells #[.pointer (some ⟨q, 0, none⟩)] 126)) = W at hP2 hA3 hR3 hq3 y3 ⊢
  have hlA := Blk.lt hA3
  have hlR := Blk.lt hR3
  have hlP := Blk.lt hP2
  generalize w2.heap.size = h2s at hP2 hlP ⊢
  clear hA2 hR2 hA1 hR1 hx3 hq ht y1 y2 hx2
  refine wp_region_4 (fun w2 => Ext W w2) (.op 0 2 (.op 1 1 (.op 2 2 (.op 3 1 (.op 4 2 (.op 5 1 (.op 6 2 (.op 7 1 (.fork 8 (.op 9 2 (.op 10 0 (.op 11 0 .nil))) 10 (.op 8 0 (.op 9 2 (.op 11 0 .nil)))))))))))) (by kernel_rfl) (by kernel_rfl) (by kernel_rfl) (by kernel_rfl) ?_; intro p' hp'; simp only [Pl0.fill, List.getD_cons_zero, List.getD_cons_succ] at hp'; subst hp'
  (repeat (first | ((apply w4_pure); (· go_simp); (· (intro w1; go_simp; try with_reducible rfl)); (intro K hK; go_simp; refine hK _ _ ?_; clear hK K)) | ((apply w4_skip); (· go_simp); (intro K hK; go_simp; refine hK _ _ ?_; clear hK K)) | ((apply w4_take); (· exact (Kept.drew (Kept.refl _ _))); (· go_simp); (· (intro w1 hS; have d1 := Blk.cell (Blk.ext hA3 hS); have d2 := Blk.cell (Blk.ext hP2 hS);  go_simp; try with_reducible rfl)); (intro K hK; go_simp; refine hK _ _ ?_; clear hK K)) | ((apply w4_pass); (· exact (Kept.drew (Kept.refl _ _))); (· go_simp); (intro K hK; go_simp; refine hK _ _ ?_; clear hK K))))
  have y : Ext W W.drew := (Kept.refl _ W).drew
  refine w4_fork ?_ ?_
  · (refine w4_act (fun K hK => ?_); go_simp)
    go_wp2_with fail
    refine (troot_tree _ q (m.map leafW) _ (by rw [List.length_map, ← HKn.out]; exact k1) (by rw [List.length_map, ← HKn.out]; omega) (hq3.ext y)).mono ?_
    rintro e w4 ⟨e4, hx4⟩
    replace e4 : e = .returned (.agg M.cells) := by rw [e4, HM.out]; rfl
    subst e4
    have y4 : Ext W w4 := y.trans hx4
    refine hK.out _ _ (fun _ => y4) ?_
    clear hK K
    (repeat (first | ((apply w4_pure); (· go_simp); (· (intro w1; go_simp; try with_reducible rfl)); (intro K hK; go_simp; refine hK _ _ ?_; clear hK K)) | ((apply w4_skip); (· go_simp); (intro K hK; go_simp; refine hK _ _ ?_; clear hK K))))
    (refine w4_act (fun K hK => ?_); go_simp)
    refine hK.out _ _ (fun _ => y4.alloc _) ?_
    clear hK K
    (repeat (first | ((apply w4_pure); (· go_simp); (· (intro w1; go_simp; try with_reducible rfl)); (intro K hK; go_simp; refine hK _ _ ?_; clear hK K)) | ((apply w4_skip); (· go_simp); (intro K hK; go_simp; refine hK _ _ ?_; clear hK K)) | (refine w4_end (by kernel_rfl) (fun K hK => ?_); go_simp; refine hK.out _ _ ?_; clear hK K))); refine w4_nil ?_
    have hA5 := Blk.ext hA3 (y4.alloc (.cells (bareC pc halt k M) 45))
    have hR5 := Blk.ext hR3 (y4.alloc (.cells (bareC pc halt k M) 45))
    have y5 := y3.trans (y4.alloc (.cells (bareC pc halt k M) 45))
    have hN5 := Blk.new w4 45 (bareC pc halt k M)
    have hl5 := Blk.lt hN5
    generalize (w4.alloc (.cells (bareC pc halt k M) 45)) = W5 at hA5 hR5 y5 hN5 hl5 ⊢
    generalize w4.heap.size = c9 at hN5 hl5 ⊢
    have hc5 := Blk.cell hA5
    have hh5 := Blk.has hR5
    have hm5 := Blk.melts hR5
    have hh6 := Blk.has hN5
    have hg6 := Blk.gets hN5
    rcases HST.out with hst | ⟨hst, hsz⟩
    all_goals
      go_wp2_with fail
      refine ret_ci Tryz.results36 rfl rfl aggStep (by exact sizeStep) (Blk.put_ hR5 _ _) ⟨?_, ?_⟩
      · have e1 := HM.out
        have e2 := HKn.out
        subst e1
        subst e2
        rfl
      · exact Kept.putAt y5 _ _ _ (fun h => by omega)
  · (refine w4_act (fun K hK => ?_); go_simp)
    refine hK.out _ _ (fun _ => y.alloc _) ?_
    clear hK K
    (repeat (first | ((apply w4_pure); (· go_simp); (· (intro w1; go_simp; try with_reducible rfl)); (intro K hK; go_simp; refine hK _ _ ?_; clear hK K)) | ((apply w4_skip); (· go_simp); (intro K hK; go_simp; refine hK _ _ ?_; clear hK K))))
    (refine w4_act (fun K hK => ?_); go_simp)
    go_wp2_with fail
    refine (troot_tree _ q (m.map leafW) _ (by rw [List.length_map, ← HKn.out]; exact k1) (by rw [List.length_map, ← HKn.out]; omega) (hq3.ext (y.alloc _))).mono ?_
    rintro e w4 ⟨e4, hx4⟩
    replace e4 : e = .returned (.agg M.cells) := by rw [e4, HM.out]; rfl
    subst e4
    have y4 : Ext W w4 := (y.alloc _).trans hx4
    refine hK.out _ _ (fun _ => y4) ?_
    clear hK K
    have hN4 : Blk w4 W.heap.size 45 zeroW := Blk.ext (Blk.new W.drew 45 zeroW) hx4
    have hh4 := Blk.has hN4
    have hm4 := Blk.melts hN4
    have hl4 := Blk.lt hN4
    (repeat (first | ((apply w4_pure); (· go_simp); (· (intro w1; go_simp; try with_reducible rfl)); (intro K hK; go_simp; refine hK _ _ ?_; clear hK K)) | ((apply w4_skip); (· go_simp); (intro K hK; go_simp; refine hK _ _ ?_; clear hK K)) | (refine w4_end (by kernel_rfl) (fun K hK => ?_); go_simp; refine hK.out _ _ ?_; clear hK K))); refine w4_nil ?_
    have yp : Ext W (putAt w4 W.heap.size 0 (bareC pc halt k M)) := Kept.putAt y4 _ _ _ (fun h => by omega)
    have hA5 := Blk.ext hA3 yp
    have hR5 := Blk.ext hR3 yp
    have y5 := y3.trans yp
    have hN5 : Blk (putAt w4 W.heap.size 0 (bareC pc halt k M)) W.heap.size 45 (bareC pc halt k M) := Blk.put_ hN4 _ _
    have hl5 := Blk.lt hN5
    generalize (putAt w4 W.heap.size 0 (bareC pc halt k M)) = W5 at hA5 hR5 y5 hN5 hl5 ⊢
    generalize W.heap.size = c9 at hN5 hl5 ⊢
    have hc5 := Blk.cell hA5
    have hh5 := Blk.has hR5
    have hm5 := Blk.melts hR5
    have hh6 := Blk.has hN5
    have hg6 := Blk.gets hN5
    rcases HST.out with hst | ⟨hst, hsz⟩
    all_goals
      go_wp2_with fail
      refine ret_ci Tryz.results36 rfl rfl aggStep (by exact sizeStep) (Blk.put_ hR5 _ _) ⟨?_, ?_⟩
      · have e1 := HM.out
        have e2 := HKn.out
        subst e1
        subst e2
        rfl
      · exact Kept.putAt y5 _ _ _ (fun h => by omega)
end Go.Proofs.YtahljceanodhkaaGreatDoor

/- What came in, opened: slices of elements of several cells; instructions, words, states. -/
namespace Go.Proofs.YtahljceanodhkaaGreatDoor
open Go.RowKit Go.Deep Go.ChangeShapes Go.WideShapes
theorem oaddr_add (b off j : Nat) : (⟨b, off, none⟩ : Addr).add j = ⟨b, off + j, none⟩ := by unfold Addr.add; split <;> simp_all
theorem ospot_of_cell {w : World} {a : Addr} {v : Value} (h : w.cell? a = some v) : a.spot = none := by
  unfold World.cell? at h
  split at h
  · split at h
    · cases h
    · rename_i hn; cases hs : a.spot with
      | none => rfl
      | some x => simp [hs] at hn
  · cases h
/-- cells known one by one: the row of them -/
theorem row_of_cells {w : World} {b o : Nat} (vs : List Value) (hne : 0 < vs.length) (h : ∀ j, j < vs.length → w.cell? ⟨b, o + j, none⟩ = vs[j]?) : Row w b o vs := by
  have h0 := h 0 hne
  cases hq : w.heap[b]? with
  | none => simp [World.cell?, hq, List.getElem?_eq_getElem hne] at h0
  | some ob =>
    cases ob with
    | cells c t fr =>
      have hc : ∀ j, j < vs.length → c[o + j]? = vs[j]? := fun j hj => by have := h j hj; simpa [World.cell?, hq] using this
      have hlast := hc (vs.length - 1) (by omega)
      have hlt : o + (vs.length - 1) < c.size := by
        rw [List.getElem?_eq_getElem (by omega)] at hlast
        exact (Array.getElem?_eq_some_iff.1 hlast).1
      refine ⟨by unfold Proofs.YtahljceanodhkaaGreatDoor.has; rw [hq]; simp; omega, ?_, (Array.getElem?_eq_some_iff.1 hq).1⟩
      unfold gets
      rw [hq]
      show ((c.toList.drop o).take vs.length).toArray = vs.toArray
      congr 1
      apply List.ext_getElem?
      intro j
      rw [List.getElem?_take]
      split
      · rename_i hj
        rw [List.getElem?_drop, ← hc j hj]; simp
      · rename_i hj
        rw [List.getElem?_eq_none (by omega)]
    | _ => simp [World.cell?, hq, List.getElem?_eq_getElem hne] at h0
theorem flatten_get {sz : Nat} (hsz : 0 < sz) : ∀ (css : List (List Value)) (_ : ∀ cs ∈ css, cs.length = sz) (k : Nat), css.flatten[k]? = (css.getD (k / sz) [])[k % sz]?
  | [], _, k => by simp
  | c :: r, h, k => by
    have hc := h c (by simp)
    have ih := flatten_get hsz r (fun cs hcs => h cs (by simp [hcs]))
    rw [List.flatten_cons]
    by_cases hk : k < sz
    · rw [List.getElem?_append_left (by omega), Nat.div_eq_of_lt hk, Nat.mod_eq_of_lt hk]
      simp
    · rw [List.getElem?_append_right (by omega), hc, ih (k - sz)]
      have e1 : k / sz = (k - sz) / sz + 1 := by rw [Nat.div_eq k sz, if_pos ⟨hsz, by omega⟩]
      have e2 : k % sz = (k - sz) % sz := by rw [Nat.mod_eq k sz, if_pos ⟨hsz, by omega⟩]
      rw [e1, e2]
      simp
theorem flatten_len {sz : Nat} : ∀ (css : List (List Value)) (_ : ∀ cs ∈ css, cs.length = sz), css.flatten.length = css.length * sz
  | [], _ => by simp
  | c :: r, h => by
    have hc := h c (by simp)
    have ih := flatten_len r (fun cs hcs => h cs (by simp [hcs]))
    rw [List.flatten_cons, List.length_append, ih, hc, List.length_cons, Nat.succ_mul]
    omega
section
variable {H : Type} {enc : TypeId × Value → H} {P : Program} {w : World} {base : Nat} {spare : Nat → Bool} {held : Bool}
theorem open_rows {T E : TypeId} {sz fuel : Nat} {v : Value} {x : DataW H × List MemPlace} (hu : P.underlying T = some (.slice E)) (hsz : P.cellsOf E = sz) (hpos : 0 < sz) (h : DataW.trod enc P w base spare held fuel T [v] = some x) :
    ∃ (A : Option Addr) (b off len cap : Nat) (css : List (List Value)), v = .slice A len cap ∧ (0 < len → A = some ⟨b, off, none⟩) ∧ css.length = len ∧ (0 < len → Row w b off css.flatten) ∧
      (∀ cs ∈ css, cs.length = sz ∧ ∃ n y, DataW.trod enc P w base spare held n E cs = some y) ∧ len ≤ cap ∧ cap ≤ maxLen := by
  rcases open_slice hu h with ⟨hcs, _⟩ | ⟨a, len, cap, m, n, D', Pl, hcs, _, hl, hm, hmm, _, hi⟩
  · simp at hcs
    exact ⟨none, 0, 0, 0, 0, [], hcs, fun h => by omega, rfl, fun h => by omega, fun _ h => by simp at h, by omega, by simp [maxLen]⟩
  · simp at hcs
    have hlm : len ≤ m := by rw [hmm]; split <;> omega
    rw [hsz] at hi
    have hch : ∀ i, ∃ cs, i < len → cs.length = sz ∧ (∃ n y, DataW.trod enc P w base spare held n E cs = some y) ∧ ∀ j, j < sz → w.cell? ((a.add (i * sz)).add j) = cs[j]? := fun i => by
      by_cases hil : i < len
      · obtain ⟨cs, hc, ht⟩ := hi i (by omega)
        obtain ⟨_, hcl, hat⟩ := World.cells?_some hc
        exact ⟨cs, fun _ => ⟨hcl, ⟨_, _, ht⟩, hat⟩⟩
      · exact ⟨[], fun h => absurd h hil⟩
    obtain ⟨C, hC⟩ := Classical.axiomOfChoice hch
    have hsp : 0 < len → a = ⟨a.block, a.off, none⟩ := fun h0 => by
      obtain ⟨hcl, _, hat⟩ := hC 0 h0
      have h0' := hat 0 hpos
      rw [List.getElem?_eq_getElem (by omega)] at h0'
      have e : (a.add (0 * sz)).add 0 = a := by simp [Addr.add]
      rw [e] at h0'
      have := ospot_of_cell h0'
      cases a; simp_all
    have hlen : ∀ cs ∈ (List.range len).map C, cs.length = sz := fun cs hcs => by
      simp at hcs
      obtain ⟨i, hil, rfl⟩ := hcs
      exact (hC i hil).1
    refine ⟨some a, a.block, a.off, len, cap, (List.range len).map C, hcs, fun h => by rw [← hsp h], by simp, fun h0 => ?_, fun cs hcs => ⟨hlen cs hcs, ?_⟩, hl, hm⟩
    · have hfl := flatten_len _ hlen
      rw [List.length_map, List.length_range] at hfl
      refine row_of_cells _ (by rw [hfl]; exact Nat.mul_pos h0 hpos) (fun j hj => ?_)
      rw [hfl] at hj
      rw [flatten_get hpos _ hlen]
      have hq : j / sz < len := Nat.div_lt_of_lt_mul (by rw [Nat.mul_comm]; exact hj)
      have hr := (hC (j / sz) hq).2.2 (j % sz) (Nat.mod_lt _ hpos)
      rw [hsp h0, oaddr_add, oaddr_add, Nat.add_assoc] at hr
      rw [show j / sz * sz + j % sz = j by rw [Nat.mul_comm]; exact Nat.div_add_mod j sz] at hr
      rw [hr]
      simp [hq]
    · simp at hcs
      obtain ⟨i, hil, rfl⟩ := hcs
      exact (hC i hil).2.1
end
section
variable {H : Type} {enc : TypeId × Value → H} {w : World} {base : Nat} {spare : Nat → Bool} {held : Bool}
theorem cellsI : Tryz.prog.cellsOf 89 = 4 := by kernel_rfl
theorem cellsInt : Tryz.prog.cellsOf 3 = 1 := by kernel_rfl
theorem cellsI32 : Tryz.prog.cellsOf 21 = 1 := by kernel_rfl
theorem cellsSt : Tryz.prog.cellsOf 61 = 3 := by kernel_rfl
theorem cellsM32 : Tryz.prog.cellsOf 59 = 1 := by kernel_rfl
theorem field_at {fuel : Nat} {T : TypeId} {cs : List Value} {xs : List (DataW H × List MemPlace)} {i o n : Nat} {t : TypeId} (hi : i < xs.length) (h : DataW.trod enc Tryz.prog w base spare held fuel t ((cs.drop o).take n) = xs[i]?) : ∃ y, DataW.trod enc Tryz.prog w base spare held fuel t ((cs.drop o).take n) = some y := by
  have _ := T
  exact ⟨xs[i], by rw [h, List.getElem?_eq_getElem hi]⟩
theorem i64_of {n : Int} (h : Lit.wf (.int .i64 n) = true) : i64ok n := by
  simpa [Lit.wf, IntKind.min, IntKind.max, IntKind.signed, IntKind.bits, i64ok] using h
set_option maxRecDepth 100000 in
theorem ins_cells {fuel : Nat} {cs : List Value} {x : DataW H × List MemPlace} (h : DataW.trod enc Tryz.prog w base spare held fuel 89 cs = some x) : ∃ i : Ins, i.ok ∧ cs = i.cells.toList := by
  obtain ⟨xs, n, _, _, hl, hxl, hf⟩ := DataW.trod_struct Tryz.underlying89 h
  rw [cellsI] at hl
  have h0 : DataW.trod enc Tryz.prog w base spare held n 3 ((cs.drop 0).take (Tryz.prog.cellsOf 3)) = xs[0]? := hf 0 _ rfl
  have h1 : DataW.trod enc Tryz.prog w base spare held n 3 ((cs.drop 1).take (Tryz.prog.cellsOf 3)) = xs[1]? := hf 1 _ rfl
  have h2 : DataW.trod enc Tryz.prog w base spare held n 3 ((cs.drop 2).take (Tryz.prog.cellsOf 3)) = xs[2]? := hf 2 _ rfl
  have h3 : DataW.trod enc Tryz.prog w base spare held n 3 ((cs.drop 3).take (Tryz.prog.cellsOf 3)) = xs[3]? := hf 3 _ rfl
  rw [cellsInt] at h0 h1 h2 h3
  have hx4 : xs.length = 4 := hxl
  obtain ⟨y0, k0⟩ := field_at (T := 0) (by omega) h0
  obtain ⟨y1, k1⟩ := field_at (T := 0) (by omega) h1
  obtain ⟨y2, k2⟩ := field_at (T := 0) (by omega) h2
  obtain ⟨y3, k3⟩ := field_at (T := 0) (by omega) h3
  match cs, hl with
  | [c0, c1, c2, c3], _ =>
    obtain ⟨n0, e0, _, w0⟩ := DataW.trod_int Tryz.underlying3 k0
    obtain ⟨n1, e1, _, w1⟩ := DataW.trod_int Tryz.underlying3 k1
    obtain ⟨n2, e2, _, w2⟩ := DataW.trod_int Tryz.underlying3 k2
    obtain ⟨n3, e3, _, w3⟩ := DataW.trod_int Tryz.underlying3 k3
    simp at e0 e1 e2 e3
    subst e0 e1 e2 e3
    exact ⟨⟨n0, n1, n2, n3⟩, ⟨i64_of w0, i64_of w1, i64_of w2, i64_of w3⟩, rfl⟩
theorem inss_flat : ∀ (css : List (List Value)), (∀ cs ∈ css, ∃ i : Ins, i.ok ∧ cs = i.cells.toList) → ∃ l : List Ins, l.length = css.length ∧ (∀ i ∈ l, i.ok) ∧ css.flatten = inss l
  | [], _ => ⟨[], rfl, by simp, rfl⟩
  | c :: r, h => by
    obtain ⟨i, hi, rfl⟩ := h c (by simp)
    obtain ⟨l, hl, ho, he⟩ := inss_flat r (fun cs hcs => h cs (by simp [hcs]))
    exact ⟨i :: l, by simp [hl], by simp; exact ⟨hi, ho⟩, by rw [List.flatten_cons, he]; rfl⟩
/-- instructions that came in -/
theorem inss_of {fuel : Nat} {v : Value} {x : DataW H × List MemPlace} (h : DataW.trod enc Tryz.prog w base spare held fuel 58 [v] = some x) :
    ∃ (A : Option Addr) (b off len cap : Nat) (l : List Ins), v = .slice A len cap ∧ (0 < len → A = some ⟨b, off, none⟩) ∧ len = l.length ∧ (0 < len → Row w b off (inss l)) ∧ (∀ i ∈ l, i.ok) ∧ len ≤ cap ∧ cap ≤ maxLen := by
  obtain ⟨A, b, off, len, cap, css, rfl, hA, hl, hr, hc, h1, h2⟩ := open_rows Tryz.underlying58 cellsI (by omega) h
  obtain ⟨l, hll, ho, he⟩ := inss_flat css (fun cs hcs => by obtain ⟨_, _, _, ht⟩ := hc cs hcs; exact ins_cells ht)
  exact ⟨A, b, off, len, cap, l, rfl, hA, by omega, fun h0 => he ▸ hr h0, ho, h1, h2⟩
def i32ok (n : Int) : Prop := -2147483648 ≤ n ∧ n ≤ 2147483647
theorem i32_of {n : Int} (h : Lit.wf (.int .i32 n) = true) : i32ok n := by
  simpa [Lit.wf, IntKind.min, IntKind.max, IntKind.signed, IntKind.bits, i32ok] using h
theorem mems_flat : ∀ (css : List (List Value)), (∀ cs ∈ css, ∃ n : Int, i32ok n ∧ cs = [.int .i32 n]) → ∃ l : List Int, l.length = css.length ∧ (∀ i ∈ l, i32ok i) ∧ css.flatten = mems l
  | [], _ => ⟨[], rfl, by simp, rfl⟩
  | c :: r, h => by
    obtain ⟨i, hi, rfl⟩ := h c (by simp)
    obtain ⟨l, hl, ho, he⟩ := mems_flat r (fun cs hcs => h cs (by simp [hcs]))
    exact ⟨i :: l, by simp [hl], by simp; exact ⟨hi, ho⟩, by rw [List.flatten_cons, he]; rfl⟩
/-- words that came in -/
theorem mems_of {fuel : Nat} {v : Value} {x : DataW H × List MemPlace} (h : DataW.trod enc Tryz.prog w base spare held fuel 59 [v] = some x) :
    ∃ (A : Option Addr) (b off len cap : Nat) (l : List Int), v = .slice A len cap ∧ (0 < len → A = some ⟨b, off, none⟩) ∧ len = l.length ∧ (0 < len → Row w b off (mems l)) ∧ (∀ i ∈ l, i32ok i) ∧ len ≤ cap ∧ cap ≤ maxLen := by
  obtain ⟨A, b, off, len, cap, css, rfl, hA, hl, hr, hc, h1, h2⟩ := open_rows Tryz.underlying59 cellsI32 (by omega) h
  obtain ⟨l, hll, ho, he⟩ := mems_flat css (fun cs hcs => by
    obtain ⟨hcl, n, y, ht⟩ := hc cs hcs
    obtain ⟨k, e, _, wf⟩ := DataW.trod_int Tryz.underlying21 ht
    exact ⟨k, i32_of wf, e⟩)
  exact ⟨A, b, off, len, cap, l, rfl, hA, by omega, fun h0 => he ▸ hr h0, ho, h1, h2⟩
set_option maxRecDepth 100000 in
/-- a state that came in -/
theorem state_of {fuel : Nat} {cs : List Value} {x : DataW H × List MemPlace} (h : DataW.trod enc Tryz.prog w base spare held fuel 61 cs = some x) :
    ∃ (pc halt : Int) (A : Option Addr) (b off len cap : Nat) (l : List Int), cs = (stCells pc A len cap halt).toList ∧ i64ok pc ∧ i64ok halt ∧ (0 < len → A = some ⟨b, off, none⟩) ∧ len = l.length ∧ (0 < len → Row w b off (mems l)) ∧ (∀ i ∈ l, i32ok i) ∧ len ≤ cap ∧ cap ≤ maxLen := by
  obtain ⟨xs, n, _, _, hl, hxl, hf⟩ := DataW.trod_struct Tryz.underlying61 h
  rw [cellsSt] at hl
  have h0 : DataW.trod enc Tryz.prog w base spare held n 3 ((cs.drop 0).take (Tryz.prog.cellsOf 3)) = xs[0]? := hf 0 _ rfl
  have h1 : DataW.trod enc Tryz.prog w base spare held n 59 ((cs.drop 1).take (Tryz.prog.cellsOf 59)) = xs[1]? := hf 1 _ rfl
  have h2 : DataW.trod enc Tryz.prog w base spare held n 3 ((cs.drop 2).take (Tryz.prog.cellsOf 3)) = xs[2]? := hf 2 _ rfl
  rw [cellsInt] at h0 h2
  rw [cellsM32] at h1
  have hx3 : xs.length = 3 := hxl
  obtain ⟨y0, k0⟩ := field_at (T := 0) (by omega) h0
  obtain ⟨y1, k1⟩ := field_at (T := 0) (by omega) h1
  obtain ⟨y2, k2⟩ := field_at (T := 0) (by omega) h2
  match cs, hl with
  | [c0, c1, c2], _ =>
    obtain ⟨n0, e0, _, w0⟩ := DataW.trod_int Tryz.underlying3 k0
    obtain ⟨n2, e2, _, w2⟩ := DataW.trod_int Tryz.underlying3 k2
    obtain ⟨A, b, off, len, cap, l, e1, hA, hll, hr, ho, hlc, hcm⟩ := mems_of k1
    simp at e0 e2
    subst e0 e2 e1
    exact ⟨n0, n2, A, b, off, len, cap, l, rfl, i64_of w0, i64_of w2, hA, hll, hr, ho, hlc, hcm⟩
end
end Go.Proofs.YtahljceanodhkaaGreatDoor

/- The law's own functions of layer 22: Of, few, of, known. -/
namespace Go.Proofs.YtahljceanodhkaaGreatDoor
open Go.RowKit
theorem infoI4 : (Tryz.prog.info? 41).map (fun i => (i.zero, i.size, i.bytes)) = some (some (.agg (Ins.cells ⟨0, 0, 0, 0⟩)), 4, 32) := by kernel_rfl
theorem inss_flatL (l : List Ins) : flatL (inss l) = true := by
  induction l with
  | nil => rfl
  | cons d l ih => show flatL (d.cells.toList ++ inss l) = true; simpa [flatL, Value.oneCell'] using ih
theorem inss_app (l q : List Ins) : inss l ++ inss q = inss (l ++ q) := by simp [inss]
theorem appI (w : World) (base : Nat) (v : Value) (n : Nat) (xs : List Ins) (hown : w.ownsRow base 41 4 v n (inss xs)) (b off m c : Nat) (l : List Ins) (hm : m = l.length) (hr : Row w b off (inss l)) (hn : n + m ≤ 100000) (hbase : base ≤ w.heap.size) :
    ∃ v' w', (Builtin.append_ #[65, 65] 65 #[v, .slice (some ⟨b, off, none⟩) m c]).run Tryz.prog w = .ok v' w' ∧ w'.ownsRow base 41 4 v' (n + m) (inss (xs ++ l)) ∧ Kept (fun i => v.ownBlock = some i) w w' := by
  obtain ⟨i, hi, hz, h1, h2⟩ := info_parts infoI4
  have := app_some (P := Tryz.prog) Tryz.underlying65 hi hz h1 h2 (by rfl) (by decide) w base v n (inss xs) hown b off m c (inss l) (by rw [inss_length, hm]) hr (inss_flatL l) (by unfold maxLen; omega) (by omega) hbase
  rw [inss_app] at this
  exact this
/-- instructions of its own -/
def OwnsI (w w' : World) (e : Ending) (n : Nat) (l : List Ins) : Prop :=
  ∃ v, e = .returned v ∧ w'.ownsRow w.heap.size 41 4 v n (inss l) ∧ Ext w w'
theorem own_I {w : World} {base : Nat} {E : TypeId} {v : Value} {n : Nat} {xs : List Ins} (h : w.ownsRow base E 4 v n (inss xs)) : ∃ A g c, v = .slice A n c ∧ (0 < n → A = some ⟨g, 0, none⟩) ∧ (0 < n → Row w g 0 (inss xs)) ∧ n = xs.length := by
  have hl := h.1
  rw [inss_length] at hl
  rcases h.2 with ⟨hv, h0⟩ | ⟨g, c, cur, hv, hb, hc, hnc, hcm, hcs, htk⟩
  · subst h0; exact ⟨none, 0, 0, hv, fun h => by omega, fun h => by omega, by omega⟩
  · refine ⟨_, g, c, hv, fun _ => rfl, fun _ => ?_, by omega⟩
    have hln : (inss xs).length = n * 4 := by rw [inss_length, hl]
    refine ⟨?_, ?_, (Array.getElem?_eq_some_iff.1 hc).1⟩
    · unfold has; rw [hc, hln]; simp; omega
    · unfold gets; rw [hc, hln]; simp only [List.drop_zero]; rw [htk]
set_option maxRecDepth 100000 in
set_option maxHeartbeats 1000000 in
theorem law14of_ok (A : Option Addr) (b off cap : Nat) (l : List Ins) (n : Nat) (hn : n = l.length) (h2 : n ≤ 4096) (hA : 0 < n → A = some ⟨b, off, none⟩) (w : World) (hr : 0 < n → Row w b off (inss l)) :
    Calls Tryz.prog 30 #[.slice A n cap] w fun e w' => OwnsI w w' e n l := by
  have HN := Lib.hid hn
  have HA := Lib.hid hA
  have HR := Lib.hid hr
  clear hn hA hr
  go_enter Tryz.func30, Tryz.ntmps30
  go_wp2_with fail
  go_loopw [3, 8] (fun t3 t8 wr => ∃ (k : Nat), k ≤ n ∧ t8 = .int .i64 k ∧ wr.ownsRow w.heap.size 41 4 t3 k (inss (l.take k)) ∧ Ext w wr) (fun _ t8 _ => n - (intOf t8).toNat)
  case atStart => exact ⟨0, Nat.zero_le _, rfl, World.ownsRow_nil _ _ _ _, Kept.refl _ _⟩
  case round =>
    obtain ⟨k, hk, rfl, ho, hx⟩ := hrel
    have hob : ∀ i, i < w.heap.size → (u3 : Value).ownBlock = some i → False := fun i hi e => by have := (ho.lt i e).1; omega
    have HOB := Lib.hid hob
    clear hob
    by_cases hlt : k < n
    · have hkl : k < l.length := by have := HN.out; omega
      obtain rfl := HA.out (by omega)
      obtain ⟨hrh, hrg⟩ := ((HR.out (by omega)).ext hx).ins k hkl
      have hbw := ((HR.out (by omega)).ext hx).lt
      go_upto_region 5 with (fail)
      have hx' := hx.alloc (.cells (l[k]).cells 89)
      have ho' := ho.alloc (.cells (l[k]).cells 89)
      go_step
      iterate 3 (refine wpList_step (fun K hK => ?_); go_simp; (try go_bits); refine hK _ _ ?_; clear hK K)
      obtain ⟨v2, w2, hr2, ho2, hk2⟩ := appI ((wr.alloc (.cells (l[k]).cells 89)).alloc (.cells (l[k]).cells 41)) _ _ _ (l.take k) (ho'.alloc _) (wr.heap.size + 1) 0 1 1 [l[k]] rfl (by simpa [inss] using Row.of_blk (Blk.new' (wr.alloc (.cells (l[k]).cells 89)) 41 (l[k]).cells (wr.heap.size + 1) (by simp))) (by omega) (by have := hx'.size; simp at this ⊢; omega)
      refine wpList_app rfl (.tmp 12) (.tmp 14) 65 rfl rfl rfl rfl hr2 ?_
      clear hr2
      go_wp2_with fail
      go_roundw
      case rel => exact ⟨k + 1, hlt, by go_num, by rw [List.take_succ_eq_append_getElem hkl]; exact ho2, (hx'.alloc _).trans' hk2 HOB.out⟩
      case measure => simp only [intOf]; omega
    · go_wp2_with fail
      go_ret
      have e : k = n := by omega
      subst e
      rw [List.take_of_length_le (Nat.le_of_eq HN.out.symm)] at ho
      exact ⟨_, rfl, ho, hx⟩
set_option maxHeartbeats 1000000 in
theorem few_any (A A' : Option Addr) (n cap k cap' : Nat) (pc halt : Int) (w : World) :
    Calls Tryz.prog 28 #[.slice A n cap, .agg (stCells pc A' k cap' halt)] w fun e w' => e = .returned (.bool (decide (n ≤ 20) && decide (k ≤ 20))) ∧ Ext w w' := by
  have hx0 : Ext w _ := (Kept.refl _ w).alloc (.cells (stCells pc A' k cap' halt) 61)
  go_enter Tryz.func28, Tryz.ntmps28
  go_wp2_with fail
  all_goals go_ret
  all_goals refine ⟨ret_bool ?_, hx0⟩
  all_goals (rw [Bool.eq_iff_iff]; simp; omega)
theorem aggMst : aggT Tryz.prog 70 = true := by kernel_rfl
theorem sizeMst : sizeT Tryz.prog 70 = some 3 := by kernel_rfl
theorem wpLoadMst {dst : Option Tmp} {ty' : TypeId} {x : Operand} {pos : String} {after : Array Edge} {guard : Option (Nat × Bool)} {a : Act} {w : World} {K : Act → World → Prop} {Q : Exit → Act → World → Prop} (hx : isAt (a.eval x) = true) (hh : has w (blkOf (a.eval x)) (offOf (a.eval x)) 3 = true) :
    Oper.wp Tryz.prog { dst := dst, op := .load 70 x, type := ty', pos := pos, after := after, guard := guard } a w K Q = K (a.put dst (.agg (gets w (blkOf (a.eval x)) (offOf (a.eval x)) 3))) w := wp_load_big 3 aggMst sizeMst hx hh
theorem runLoadMst {ρ : Operand → Value} {dst : Option Tmp} {ty' : TypeId} {x : Operand} {pos : String} {after : Array Edge} {guard : Option (Nat × Bool)} {w : World} (hx : isAt (ρ x) = true) (hh : has w (blkOf (ρ x)) (offOf (ρ x)) 3 = true) :
    (execOp ρ { dst := dst, op := .load 70 x, type := ty', pos := pos, after := after, guard := guard }).run Tryz.prog w = .ok (.value (.agg (gets w (blkOf (ρ x)) (offOf (ρ x)) 3))) w := run_exec_load_big 3 aggMst sizeMst hx hh
theorem loadVarMst (w : World) (g off : Nat) (hh : has w g off 3 = true) : (loadVar 70 ⟨g, off, none⟩).run Tryz.prog w = .ok (.agg (gets w g off 3)) w := run_loadVar_big Tryz.prog w _ g off 3 aggMst sizeMst hh
attribute [go_sem] aggMst sizeMst
attribute [go_sem ↓ high] wpLoadMst loadVarMst runLoadMst
attribute [go_sem high] wpLoadMst
theorem aggRst : aggT Tryz.prog 61 = true := by kernel_rfl
theorem sizeRst : sizeT Tryz.prog 61 = some 3 := by kernel_rfl
theorem wpLoadRst {dst : Option Tmp} {ty' : TypeId} {x : Operand} {pos : String} {after : Array Edge} {guard : Option (Nat × Bool)} {a : Act} {w : World} {K : Act → World → Prop} {Q : Exit → Act → World → Prop} (hx : isAt (a.eval x) = true) (hh : has w (blkOf (a.eval x)) (offOf (a.eval x)) 3 = true) :
    Oper.wp Tryz.prog { dst := dst, op := .load 61 x, type := ty', pos := pos, after := after, guard := guard } a w K Q = K (a.put dst (.agg (gets w (blkOf (a.eval x)) (offOf (a.eval x)) 3))) w := wp_load_big 3 aggRst sizeRst hx hh
theorem runLoadRst {ρ : Operand → Value} {dst : Option Tmp} {ty' : TypeId} {x : Operand} {pos : String} {after : Array Edge} {guard : Option (Nat × Bool)} {w : World} (hx : isAt (ρ x) = true) (hh : has w (blkOf (ρ x)) (offOf (ρ x)) 3 = true) :
    (execOp ρ { dst := dst, op := .load 61 x, type := ty', pos := pos, after := after, guard := guard }).run Tryz.prog w = .ok (.value (.agg (gets w (blkOf (ρ x)) (offOf (ρ x)) 3))) w := run_exec_load_big 3 aggRst sizeRst hx hh
theorem loadVarRst (w : World) (g off : Nat) (hh : has w g off 3 = true) : (loadVar 61 ⟨g, off, none⟩).run Tryz.prog w = .ok (.agg (gets w g off 3)) w := run_loadVar_big Tryz.prog w _ g off 3 aggRst sizeRst hh
attribute [go_sem] aggRst sizeRst
attribute [go_sem ↓ high] wpLoadRst loadVarRst runLoadRst
attribute [go_sem high] wpLoadRst
set_option maxHeartbeats 1000000 in
theorem of_st (A : Option Addr) (n cap : Nat) (pc halt : Int) (w : World) :
    Calls Tryz.prog 33 #[.agg (stCells pc A n cap halt)] w fun e w' => e = .returned (.agg (stCells pc A n cap halt)) ∧ Ext w w' := by
  have hx0 : Ext w _ := ((Kept.refl _ w).alloc (.cells (stCells pc A n cap halt) 61)).alloc (.cells (stCells pc A n cap halt) 70)
  go_enter Tryz.func33, Tryz.ntmps33
  go_wp2_with fail
  refine ret_cell Tryz.results33 rfl rfl aggMst (by exact sizeMst) (Blk.new' _ _ (stCells pc A n cap halt) _ (by simp)) ⟨rfl, hx0⟩
end Go.Proofs.YtahljceanodhkaaGreatDoor

/- The document's example of layer 22: known. -/
namespace Go.Proofs.YtahljceanodhkaaGreatDoor
open Go.RowKit
abbrev ins0 : Ins := ⟨0, 0, 0, 0⟩
theorem i64z : i64ok 0 := by unfold i64ok; omega
theorem ins0_ok : ins0.ok := ⟨i64z, i64z, i64z, i64z⟩
theorem st7 : ¬ (stateR 0 1 [7]).x0 = 0 := by decide +kernel
theorem bare_cells (pc halt : Int) (l : List Int) : (bareStep pc halt l).cells = bareC pc halt l.length (memR l) := rfl
set_option maxRecDepth 100000 in
set_option maxHeartbeats 2000000 in
theorem known_any (w : World) : Calls Tryz.prog 27 #[] w fun e w' => e = .returned (.bool true) ∧ Ext w w' := by
  obtain ⟨C, hC⟩ : ∃ C, C = codeR [ins0] := ⟨_, rfl⟩
  obtain ⟨Q, hQ⟩ : ∃ Q, Q = stateR 0 1 [7] := ⟨_, rfl⟩
  obtain ⟨M, hM⟩ : ∃ M, M = memR [7] := ⟨_, rfl⟩
  have hq0 : (Q.x0 == 0) = false := by rw [hQ]; simpa using st7
  have HC := Lib.hid hC
  have HQ := Lib.hid hQ
  have HM := Lib.hid hM
  clear hC hQ hM
  have hx0 : Ext w _ := (((Kept.refl _ w).alloc (.cells ins0.cells 41)).alloc (.cells #[.int .i32 7] 21)).alloc (.cells (stCells 0 (some ⟨w.heap.size + 1, 0, none⟩) 1 1 1) 70)
  have hI0 : Blk _ w.heap.size 41 ins0.cells := Blk.alloc (Blk.alloc (Blk.new w _ _) (.cells #[.int .i32 7] 21)) (.cells (stCells 0 (some ⟨w.heap.size + 1, 0, none⟩) 1 1 1) 70)
  have hM0 : Blk _ (w.heap.size + 1) 21 #[.int .i32 7] := Blk.alloc (Blk.new' (w.alloc (.cells ins0.cells 41)) _ _ _ (by simp)) (.cells (stCells 0 (some ⟨w.heap.size + 1, 0, none⟩) 1 1 1) 70)
  have hS0 : Blk _ (w.heap.size + 1 + 1) 70 (stCells 0 (some ⟨w.heap.size + 1, 0, none⟩) 1 1 1) := Blk.new' ((w.alloc (.cells ins0.cells 41)).alloc (.cells #[.int .i32 7] 21)) _ _ _ (by simp)
  go_enter Tryz.func27, Tryz.ntmps27
  go_wp2_with fail
  refine (wcode_ok (some ⟨w.heap.size, 0, none⟩) w.heap.size 0 1 [ins0] 1 rfl (by omega) (by omega) (fun i hi => by simp at hi; subst hi; exact ins0_ok) (fun _ => rfl) _ (fun _ => Row.of_blk hI0)).mono ?_
  rintro e w1 ⟨e1, hx1⟩
  replace e1 : e = .returned (.tuple #[.agg C.cells, .int .i64 0]) := by rw [e1, HC.out]
  subst e1
  have y1 := (hx0.trans hx1).alloc (.cells C.cells 30)
  have hI1 := Blk.alloc (Blk.ext hI0 hx1) (.cells C.cells 30)
  have hM1 := Blk.alloc (Blk.ext hM0 hx1) (.cells C.cells 30)
  have hS1 := Blk.alloc (Blk.ext hS0 hx1) (.cells C.cells 30)
  have hC1 := Blk.new w1 30 C.cells
  have hl1 := (Blk.ext hS0 hx1).lt
  have hh1 := Blk.has (Blk.ext hS0 hx1)
  have hg1 := Blk.gets (Blk.ext hS0 hx1)
  clear hI0 hM0 hS0 hx0 hx1
  go_wp2_with fail
  generalize (w1.alloc (.cells #[.int .u8 C.x0, .int .u8 C.x1, .int .u8 C.x2, .int .u8 C.x3, .int .u8 C.x4, .int .u8 C.x5, .int .u8 C.x6, .int .u8 C.x7] 30)) = W1 at y1 hI1 hM1 hS1 hC1 ⊢
  clear hh1 hg1
  generalize w1.heap.size = c1 at hC1 hl1 ⊢
  refine (wstate_ok 0 1 (some ⟨w.heap.size + 1, 0, none⟩) (w.heap.size + 1) 0 1 [7] 1 rfl (by decide) (fun _ => rfl) _ (fun _ => Row.of_blk hM1)).mono ?_
  rintro e w2 ⟨e2, hx2⟩
  replace e2 : e = .returned (.tuple #[.agg Q.cells, .int .i64 0]) := by rw [e2, HQ.out]
  subst e2
  have y2 := (y1.trans hx2).alloc (.cells Q.cells 30)
  have hI2 := Blk.alloc (Blk.ext hI1 hx2) (.cells Q.cells 30)
  have hM2 := Blk.alloc (Blk.ext hM1 hx2) (.cells Q.cells 30)
  have hS2 := Blk.alloc (Blk.ext hS1 hx2) (.cells Q.cells 30)
  have hC2 := Blk.alloc (Blk.ext hC1 hx2) (.cells Q.cells 30)
  have hQ2 := Blk.new w2 30 Q.cells
  have hl2 := (Blk.ext hC1 hx2).lt
  clear hI1 hM1 hS1 hC1 y1 hx2
  go_upto_region 5 with (fail)
  generalize (w2.alloc (.cells #[.int .u8 Q.x0, .int .u8 Q.x1, .int .u8 Q.x2, .int .u8 Q.x3, .int .u8 Q.x4, .int .u8 Q.x5, .int .u8 Q.x6, .int .u8 Q.x7] 30)) = W2 at y2 hI2 hM2 hS2 hC2 hQ2 ⊢
  generalize w2.heap.size = c2 at hQ2 hl2 ⊢
  have hh2 := Blk.has hQ2
  have hg2 := Blk.gets hQ2
  have hh3 := Blk.has hS2
  have hg3 := Blk.gets hS2
  go_wp2_with fail
  refine (make_stays (some ⟨w.heap.size, 0, none⟩) w.heap.size 0 1 [ins0] 1 rfl (by omega) (by omega) (fun i hi => by simp at hi; subst hi; exact ins0_ok) (fun _ => rfl) 0 1 (some ⟨w.heap.size + 1, 0, none⟩) (w.heap.size + 1) 0 1 [7] 1 rfl (by decide) (fun _ => rfl) (.inl (by decide)) _ (fun _ => Row.of_blk hI2) (fun _ => Row.of_blk hM2)).mono ?_
  rintro e w3 ⟨e3, hx3⟩
  replace e3 : e = .returned (.tuple #[.agg (bareC 0 1 1 M), .int .i64 0]) := by rw [e3, HM.out]; rfl
  subst e3
  have hC3 := Blk.alloc (Blk.ext hC2 hx3) (.cells (bareC 0 1 1 M) 45)
  have hQ3 := Blk.alloc (Blk.ext hQ2 hx3) (.cells (bareC 0 1 1 M) 45)
  have hW3 := Blk.new w3 45 (bareC 0 1 1 M)
  have y3 := (y2.trans hx3).alloc (.cells (bareC 0 1 1 M) 45)
  have hl3 := (Blk.ext hQ2 hx3).lt
  clear hh2 hg2 hh3 hg3 hI2 hM2 hS2 hC2 hQ2 hx3 y2
  go_upto_region 8 with (fail)
  generalize (w3.alloc (.cells (bareC 0 1 1 M) 45)) = W3 at y3 hC3 hQ3 hW3 ⊢
  generalize w3.heap.size = c3 at hW3 hl3 ⊢
  have hh4 := Blk.has hC3
  have hg4 := Blk.gets hC3
  have hh5 := Blk.has hQ3
  have hg5 := Blk.gets hQ3
  have hh6 := Blk.has hW3
  have hg6 := Blk.gets hW3
  have hc6 := Blk.cell hW3
  go_wp2_with fail
  have hck := check_stays (bareStep 0 1 [7]) C 1 W3 (hWord_ok _ _) (by omega) (by omega) (by decide) (.inl (by decide)) rfl rfl rfl
  have e5 : hHead (bareStep 0 1 [7]).pc (bareStep 0 1 [7]).halt (bareStep 0 1 [7]).words (bareStep 0 1 [7]).mem = Q := HQ.out.symm
  have e6 : (bareStep 0 1 [7]).same = Q := HQ.out.symm
  rw [e5, e6, bare_cells, ← HM.out] at hck
  refine hck.mono ?_
  rintro e w4 ⟨rfl, hx4⟩
  clear hck
  go_wp2_with fail
  go_ret
  exact ⟨rfl, y3.trans hx4⟩
end Go.Proofs.YtahljceanodhkaaGreatDoor

/- The law WitnessDigests: its walk. -/
namespace Go.Proofs.YtahljceanodhkaaGreatDoor
open Go.RowKit Go.ChangeShapes Go.WideShapes
def codeZ (l : List Ins) : Dg := if l.length = 0 then Dg.zero else codeR l
def codeK (l : List Ins) : Int := if l.length = 0 then 2 else 0
def stZ (pc halt : Int) (l : List Int) : Dg := if rightS pc halt l.length = true then stateR pc halt l else Dg.zero
def stK (pc halt : Int) (l : List Int) : Int := if rightS pc halt l.length = true then 0 else 2
theorem wcode_all (A : Option Addr) (b off cap : Nat) (l : List Ins) (n : Nat) (hn : n = l.length) (h2 : n ≤ 2048) (hok : ∀ i ∈ l, i.ok) (hA : 0 < n → A = some ⟨b, off, none⟩) (w : World) (hr : 0 < n → Row w b off (inss l)) :
    Calls Tryz.prog 29 #[.slice A n cap] w fun e w' => e = .returned (.tuple #[.agg (codeZ l).cells, .int .i64 (codeK l)]) ∧ Ext w w' := by
  by_cases h0 : n = 0
  · rw [show codeZ l = Dg.zero by simp [codeZ, ← hn, h0], show codeK l = 2 by simp [codeK, ← hn, h0]]
    exact wcode_no A cap n (by omega) w
  · rw [show codeZ l = codeR l by simp only [codeZ, ← hn, if_neg h0], show codeK l = 0 by simp only [codeK, ← hn, if_neg h0]]
    exact wcode_ok A b off cap l n hn (by omega) h2 hok hA w hr
theorem rcode_all (A : Option Addr) (b off cap : Nat) (l : List Ins) (n : Nat) (hn : n = l.length) (h2 : n ≤ 2048) (hok : ∀ i ∈ l, i.ok) (hA : 0 < n → A = some ⟨b, off, none⟩) (w : World) (hr : 0 < n → Row w b off (inss l)) :
    Calls Tryz.prog 31 #[.slice A n cap] w fun e w' => e = .returned (.tuple #[.agg (codeZ l).cells, .int .i64 (codeK l)]) ∧ Ext w w' := by
  by_cases h0 : n = 0
  · rw [show codeZ l = Dg.zero by simp [codeZ, ← hn, h0], show codeK l = 2 by simp [codeK, ← hn, h0]]
    exact rcode_no A cap n (by omega) w
  · rw [show codeZ l = codeR l by simp only [codeZ, ← hn, if_neg h0], show codeK l = 0 by simp only [codeK, ← hn, if_neg h0]]
    exact rcode_ok A b off cap l n hn (by omega) h2 hok hA w hr
theorem wstate_all (pc halt : Int) (A : Option Addr) (b off cap : Nat) (l : List Int) (n : Nat) (hn : n = l.length) (hA : 0 < n → A = some ⟨b, off, none⟩) (w : World) (hr : 0 < n → Row w b off (mems l)) :
    Calls Tryz.prog 32 #[.agg (stCells pc A n cap halt)] w fun e w' => e = .returned (.tuple #[.agg (stZ pc halt l).cells, .int .i64 (stK pc halt l)]) ∧ Ext w w' := by
  by_cases h0 : rightS pc halt n = true
  · rw [show stZ pc halt l = stateR pc halt l by simp only [stZ, ← hn, if_pos h0], show stK pc halt l = 0 by simp only [stK, ← hn, if_pos h0]]
    exact wstate_ok pc halt A b off cap l n hn h0 hA w hr
  · rw [show stZ pc halt l = Dg.zero by simp only [stZ, ← hn, if_neg h0], show stK pc halt l = 2 by simp only [stK, ← hn, if_neg h0]]
    exact wstate_no pc halt A cap n (by simpa using h0) w
theorem rstate_all (pc halt : Int) (A : Option Addr) (b off cap : Nat) (l : List Int) (n : Nat) (hn : n = l.length) (hA : 0 < n → A = some ⟨b, off, none⟩) (w : World) (hr : 0 < n → Row w b off (mems l)) :
    Calls Tryz.prog 34 #[.agg (stCells pc A n cap halt)] w fun e w' => e = .returned (.tuple #[.agg (stZ pc halt l).cells, .int .i64 (stK pc halt l)]) ∧ Ext w w' := by
  by_cases h0 : rightS pc halt n = true
  · rw [show stZ pc halt l = stateR pc halt l by simp only [stZ, ← hn, if_pos h0], show stK pc halt l = 0 by simp only [stK, ← hn, if_pos h0]]
    exact rstate_ok pc halt A b off cap l n hn h0 hA w hr
  · rw [show stZ pc halt l = Dg.zero by simp only [stZ, ← hn, if_neg h0], show stK pc halt l = 2 by simp only [stK, ← hn, if_neg h0]]
    exact rstate_no pc halt A cap n (by simpa using h0) w
theorem eqArr8w (w : World) (d : Nat) (a0 a1 a2 a3 a4 a5 a6 a7 b0 b1 b2 b3 b4 b5 b6 b7 : Int) :
    (Op.equalIn (d + 2) 23 (.agg #[.int .u8 a0, .int .u8 a1, .int .u8 a2, .int .u8 a3, .int .u8 a4, .int .u8 a5, .int .u8 a6, .int .u8 a7]) (.agg #[.int .u8 b0, .int .u8 b1, .int .u8 b2, .int .u8 b3, .int .u8 b4, .int .u8 b5, .int .u8 b6, .int .u8 b7])).run Tryz.prog w =
      .ok ([a0, a1, a2, a3, a4, a5, a6, a7] == [b0, b1, b2, b3, b4, b5, b6, b7]) w :=
  run_equalIn_ints w d _ 5 8 .u8 Tryz.underlying23 Tryz.underlying5 (fun w => sizeOf_run (by kernel_rfl) w) [a0, a1, a2, a3, a4, a5, a6, a7] [b0, b1, b2, b3, b4, b5, b6, b7] rfl rfl
theorem eqArr8w' (w : World) (a0 a1 a2 a3 a4 a5 a6 a7 b0 b1 b2 b3 b4 b5 b6 b7 : Int) :
    (Op.equalIn 10000 23 (.agg #[.int .u8 a0, .int .u8 a1, .int .u8 a2, .int .u8 a3, .int .u8 a4, .int .u8 a5, .int .u8 a6, .int .u8 a7]) (.agg #[.int .u8 b0, .int .u8 b1, .int .u8 b2, .int .u8 b3, .int .u8 b4, .int .u8 b5, .int .u8 b6, .int .u8 b7])).run Tryz.prog w =
      .ok ([a0, a1, a2, a3, a4, a5, a6, a7] == [b0, b1, b2, b3, b4, b5, b6, b7]) w := eqArr8w w 9998 _ _ _ _ _ _ _ _ _ _ _ _ _ _ _ _
theorem guardArr8w : Tryz.prog.eqGuardType Tryz.prog.depth 23 = false := by kernel_rfl
attribute [go_sem] eqArr8w' guardArr8w
namespace witnessDigests
set_option maxRecDepth 100000 in
set_option maxHeartbeats 2000000 in
theorem many (A A' : Option Addr) (n cap k cap' : Nat) (pc halt : Int) (w : World) (hf : (decide (n ≤ 20) && decide (k ≤ 20)) = false) :
    Calls Tryz.prog 6 #[.slice A n cap, .agg (stCells pc A' k cap' halt)] w fun e w' => e = .returned (.bool true) ∧ Ext w w' := by
  have HF := Lib.hid hf
  clear hf
  have hx0 : Ext w _ := (Kept.refl _ w).alloc (.cells (stCells pc A' k cap' halt) 61)
  have hS0 := Blk.new w 61 (stCells pc A' k cap' halt)
  go_enter Tryz.func6, Tryz.ntmps6
  go_wp2_with fail
  refine (known_any _).mono ?_
  rintro e w1 ⟨rfl, hx1⟩
  have hS1 := Blk.ext hS0 hx1
  have hh1 := Blk.has hS1
  have hg1 := Blk.gets hS1
  go_wp2_with fail
  refine (few_any A A' n cap k cap' pc halt _).mono ?_
  rintro e w2 ⟨rfl, hx2⟩
  rw [HF.out]
  go_wp2_with fail
  refine (known_any _).mono ?_
  rintro e w3 ⟨rfl, hx3⟩
  go_wp2_with fail
  go_ret
  exact ⟨rfl, ((hx0.trans hx1).trans hx2).trans hx3⟩
set_option maxRecDepth 100000 in
set_option maxHeartbeats 2000000 in
theorem small (A : Option Addr) (b off cap : Nat) (l : List Ins) (n : Nat) (hn : n = l.length) (h2 : n ≤ 20) (hok : ∀ i ∈ l, i.ok) (hA : 0 < n → A = some ⟨b, off, none⟩)
    (pc halt : Int) (A' : Option Addr) (b' off' cap' : Nat) (m : List Int) (k : Nat) (hk : k = m.length) (hk2 : k ≤ 20) (hA' : 0 < k → A' = some ⟨b', off', none⟩) (w : World) (hr : 0 < n → Row w b off (inss l)) (hr' : 0 < k → Row w b' off' (mems m)) :
    Calls Tryz.prog 6 #[.slice A n cap, .agg (stCells pc A' k cap' halt)] w fun e w' => e = .returned (.bool true) ∧ Ext w w' := by
  have HF := Lib.hid (show (decide (n ≤ 20) && decide (k ≤ 20)) = true by simp [h2, hk2])
  have HN := Lib.hid hn
  have HO := Lib.hid hok
  have HA := Lib.hid hA
  have HR := Lib.hid hr
  have HKn := Lib.hid hk
  have HA' := Lib.hid hA'
  have HR' := Lib.hid hr'
  clear hn hA hr hok hk hA' hr'
  obtain ⟨C, hC⟩ : ∃ C, C = codeZ l := ⟨_, rfl⟩
  obtain ⟨D, hD⟩ : ∃ D, D = stZ pc halt m := ⟨_, rfl⟩
  obtain ⟨ck, hck⟩ : ∃ ck, ck = codeK l := ⟨_, rfl⟩
  obtain ⟨sk, hsk⟩ : ∃ sk, sk = stK pc halt m := ⟨_, rfl⟩
  have HC := Lib.hid hC
  have HD := Lib.hid hD
  have HCK := Lib.hid hck
  have HSK := Lib.hid hsk
  clear hC hD hck hsk
  have hx0 : Ext w _ := (Kept.refl _ w).alloc (.cells (stCells pc A' k cap' halt) 61)
  have hS0 := Blk.new w 61 (stCells pc A' k cap' halt)
  go_enter Tryz.func6, Tryz.ntmps6
  go_wp2_with fail
  refine (known_any _).mono ?_
  rintro e w1 ⟨rfl, hx1⟩
  have hS1 := Blk.ext hS0 hx1
  have hh1 := Blk.has hS1
  have hg1 := Blk.gets hS1
  have y1 := hx0.trans hx1
  clear hx0 hS0 hx1
  go_wp2_with fail
  refine (few_any A A' n cap k cap' pc halt _).mono ?_
  rintro e w2 ⟨rfl, hx2⟩
  rw [HF.out]
  have hS2 := Blk.ext hS1 hx2
  have y2 := y1.trans hx2
  clear hh1 hg1 hS1 y1 hx2
  go_wp2_with fail
  refine (law14of_ok A b off cap l n HN.out (by omega) HA.out _ (fun h => (HR.out h).ext y2)).mono ?_
  rintro e w3 ⟨v3, rfl, ho3, hx3⟩
  obtain ⟨A3, g3, c3, rfl, hA3, hr3, hl3⟩ := own_I ho3
  have HA3 := Lib.hid hA3
  have HR3 := Lib.hid hr3
  have hS3 := Blk.ext hS2 hx3
  have y3 := y2.trans hx3
  clear hA3 hr3 hl3 ho3 hS2 y2 hx3
  go_wp2_with fail
  refine (wcode_all A3 g3 0 c3 l n HN.out (by omega) HO.out HA3.out _ HR3.out).mono ?_
  rintro e w4 ⟨e4, hx4⟩
  replace e4 : e = .returned (.tuple #[.agg C.cells, .int .i64 ck]) := by rw [e4, HC.out, HCK.out]
  subst e4
  have hS4 := Blk.alloc (Blk.ext hS3 hx4) (.cells C.cells 30)
  have hC4 := Blk.new w4 30 C.cells
  have y4 := (y3.trans hx4).alloc (.cells C.cells 30)
  have hl4 := (Blk.ext hS3 hx4).lt
  clear hS3 y3 hx4
  go_upto_region 4 with (fail)
  generalize (w4.alloc (.cells #[.int .u8 C.x0, .int .u8 C.x1, .int .u8 C.x2, .int .u8 C.x3, .int .u8 C.x4, .int .u8 C.x5, .int .u8 C.x6, .int .u8 C.x7] 30)) = W4 at hS4 hC4 y4 ⊢
  generalize w4.heap.size = c4 at hC4 hl4 ⊢
  go_wp2_with fail
  refine (rcode_all A b off cap l n HN.out (by omega) HO.out HA.out _ (fun h => (HR.out h).ext y4)).mono ?_
  rintro e w5 ⟨e5, hx5⟩
  replace e5 : e = .returned (.tuple #[.agg C.cells, .int .i64 ck]) := by rw [e5, HC.out, HCK.out]
  subst e5
  have hS5 := Blk.alloc (Blk.ext hS4 hx5) (.cells C.cells 23)
  have hC5 := Blk.alloc (Blk.ext hC4 hx5) (.cells C.cells 23)
  have hD5 := Blk.new w5 23 C.cells
  have y5 := (y4.trans hx5).alloc (.cells C.cells 23)
  have hl5 := (Blk.ext hC4 hx5).lt
  clear hS4 hC4 y4 hx5
  go_upto_region 5 with (fail)
  generalize (w5.alloc (.cells #[.int .u8 C.x0, .int .u8 C.x1, .int .u8 C.x2, .int .u8 C.x3, .int .u8 C.x4, .int .u8 C.x5, .int .u8 C.x6, .int .u8 C.x7] 23)) = W5 at hS5 hC5 hD5 y5 ⊢
  generalize w5.heap.size = c5 at hD5 hl5 ⊢
  have hh5 := Blk.has hS5
  have hg5 := Blk.gets hS5
  go_wp2_with fail
  refine (of_st A' k cap' pc halt _).mono ?_
  rintro e w6 ⟨rfl, hx6⟩
  go_wp2_with fail
  refine (wstate_all pc halt A' b' off' cap' m k HKn.out HA'.out _ (fun h => ((HR'.out h).ext y5).ext hx6)).mono ?_
  rintro e w7 ⟨e7, hx7⟩
  replace e7 : e = .returned (.tuple #[.agg D.cells, .int .i64 sk]) := by rw [e7, HD.out, HSK.out]
  subst e7
  have x7 := hx6.trans hx7
  have hS7 := Blk.alloc (Blk.ext hS5 x7) (.cells D.cells 30)
  have hC7 := Blk.alloc (Blk.ext hC5 x7) (.cells D.cells 30)
  have hD7 := Blk.alloc (Blk.ext hD5 x7) (.cells D.cells 30)
  have hE7 := Blk.new w7 30 D.cells
  have y7 := (y5.trans x7).alloc (.cells D.cells 30)
  have hl7 := (Blk.ext hD5 x7).lt
  clear hS5 hC5 hD5 y5 hx6 hx7 x7 hh5 hg5
  go_upto_region 6 with (fail)
  generalize (w7.alloc (.cells #[.int .u8 D.x0, .int .u8 D.x1, .int .u8 D.x2, .int .u8 D.x3, .int .u8 D.x4, .int .u8 D.x5, .int .u8 D.x6, .int .u8 D.x7] 30)) = W7 at hS7 hC7 hD7 hE7 y7 ⊢
  generalize w7.heap.size = c7 at hE7 hl7 ⊢
  have hh7 := Blk.has hS7
  have hg7 := Blk.gets hS7
  go_wp2_with fail
  refine (rstate_all pc halt A' b' off' cap' m k HKn.out HA'.out _ (fun h => (HR'.out h).ext y7)).mono ?_
  rintro e w8 ⟨e8, hx8⟩
  replace e8 : e = .returned (.tuple #[.agg D.cells, .int .i64 sk]) := by rw [e8, HD.out, HSK.out]
  subst e8
  have hC8 := Blk.alloc (Blk.ext hC7 hx8) (.cells D.cells 23)
  have hD8 := Blk.alloc (Blk.ext hD7 hx8) (.cells D.cells 23)
  have hE8 := Blk.alloc (Blk.ext hE7 hx8) (.cells D.cells 23)
  have hF8 := Blk.new w8 23 D.cells
  have y8 := (y7.trans hx8).alloc (.cells D.cells 23)
  have hl8 := (Blk.ext hE7 hx8).lt
  clear hS7 hC7 hD7 hE7 y7 hx8 hh7 hg7
  go_upto_region 7 with (fail)
  generalize (w8.alloc (.cells #[.int .u8 D.x0, .int .u8 D.x1, .int .u8 D.x2, .int .u8 D.x3, .int .u8 D.x4, .int .u8 D.x5, .int .u8 D.x6, .int .u8 D.x7] 23)) = W8 at hC8 hD8 hE8 hF8 y8 ⊢
  generalize w8.heap.size = c8 at hF8 hl8 ⊢
  have i1 := Blk.has hC8
  have i2 := Blk.gets hC8
  have i3 := Blk.has hD8
  have i4 := Blk.gets hD8
  have i5 := Blk.has hE8
  have i6 := Blk.gets hE8
  have i7 := Blk.has hF8
  have i8 := Blk.gets hF8
  go_wp2_with fail
  go_ret
  exact ⟨rfl, y8⟩
set_option maxRecDepth 100000 in
theorem walk {H : Type} {enc : TypeId × Value → H} (W : World) (base : Nat) (v0 v1 : Value) (d0 d1 : DataW H) (p0 p1 : List MemPlace)
    (o0 : Value.okWide Tryz.prog W .any base 58 v0) (o1 : Value.okWide Tryz.prog W .any base 61 v1)
    (h0 : DataW.Trod enc Tryz.prog W 0 (fun _ => true) true 58 v0 d0 p0) (h1 : DataW.Trod enc Tryz.prog W 0 (fun _ => true) true 61 v1 d1 p1) :
    Calls Tryz.prog 6 #[v0, v1] W fun e w' => e = .returned (.bool true) ∧ Ext W w' := by
  obtain ⟨A0, n0, cap0, rfl⟩ := okWide_slice Tryz.underlying58 o0
  obtain ⟨fuel, hf⟩ := h0
  obtain ⟨A, b, off, n, cap, l, e, hA, hn, hr, hok, _, _⟩ := inss_of hf
  simp at e
  obtain ⟨rfl, rfl, rfl⟩ := e
  obtain ⟨cs, rfl⟩ : ∃ cs, v1 = .agg cs := by
    simp only [Value.okWide, Tryz.underlying61] at o1
    obtain ⟨cs, h1, _⟩ := o1
    exact ⟨cs, h1⟩
  obtain ⟨fuel', hf'⟩ := h1
  obtain ⟨pc, halt, A', b', off', k, cap', m, e, hpc, hhalt, hA', hk, hr', hm, _, _⟩ := state_of hf'
  obtain rfl : cs = stCells pc A' k cap' halt := by
    cases cs
    simpa [Value.cells] using e
  by_cases hl : n0 ≤ 20 ∧ k ≤ 20
  · exact small A0 b off cap0 l n0 hn hl.1 hok hA pc halt A' b' off' cap' m k hk hl.2 hA' W hr hr'
  · exact many A0 A' n0 cap0 k cap' pc halt W (by simp; omega)
end witnessDigests
end Go.Proofs.YtahljceanodhkaaGreatDoor

/- The law WitnessStays: its walk. -/
namespace Go.Proofs.YtahljceanodhkaaGreatDoor
open Go.RowKit Go.ChangeShapes Go.WideShapes
theorem infoW3 : (Tryz.prog.info? 77).map (fun i => (i.zero, i.size, i.bytes)) = some (some (.agg #[.int .i64 0, .int .i32 0, .slice none 0 0]), 3, 40) := by kernel_rfl
/-- one word appended to none -/
theorem appW1 (w : World) (b : Nat) (ws : List Value) (hw : ws.length = 3) (hf : flatL ws = true) (hr : Row w b 0 ws) :
    ∃ g c w', (Builtin.append_ #[43, 43] 43 #[.slice none 0 0, .slice (some ⟨b, 0, none⟩) 1 1]).run Tryz.prog w = .ok (.slice (some ⟨g, 0, none⟩) 1 c) w' ∧ Row w' g 0 ws ∧ w.heap.size ≤ g ∧ Ext w w' := by
  obtain ⟨i, hi, hz, h1, h2⟩ := info_parts infoW3
  obtain ⟨v', w', hrun, hown, hk⟩ := app_some (P := Tryz.prog) Tryz.underlying43 hi hz h1 h2 (by rfl) (by decide) w w.heap.size (.slice none 0 0) 0 [] (World.ownsRow_nil _ _ _ _) b 0 1 1 ws (by omega) hr hf (by unfold maxLen; omega) (by omega) (Nat.le_refl _)
  rw [Nat.zero_add, List.nil_append] at hown
  rcases hown.2 with ⟨_, h0⟩ | ⟨g, c, cur, hv, hb, hc, hnc, hcm, hcs, htk⟩
  · omega
  · subst hv
    refine ⟨g, c, w', hrun, ⟨?_, ?_, (Array.getElem?_eq_some_iff.1 hc).1⟩, hb, hk.mono (fun i _ e => by simp [Value.ownBlock] at e)⟩
    · unfold has; rw [hc, hw]; simp; omega
    · unfold gets; rw [hc, hw]; simp only [List.drop_zero]; rw [show (3 : Nat) = 1 * 3 by omega, htk]
theorem Blk.cast {w : World} {g : Nat} {t : TypeId} {cs cs' : Array Value} (h : Blk w g t cs) (e : cs = cs') : Blk w g t cs' := e ▸ h
/-- what is made, with one word more -/
abbrev moreC (pc halt : Int) (k : Nat) (M : Dg) (g c : Nat) : Array Value := #[.int .i64 pc, .int .i64 halt, .int .i64 k, .int .u8 M.x0, .int .u8 M.x1, .int .u8 M.x2, .int .u8 M.x3, .int .u8 M.x4, .int .u8 M.x5, .int .u8 M.x6, .int .u8 M.x7, .int .i64 0, .int .i64 0, .int .i64 0, .int .i64 0, .slice none 0 0, .slice (some ⟨g, 0, none⟩) 1 c, .slice none 0 0]
attribute [go_sem] moreC
def moreStep (pc halt : Int) (l : List Int) (g c : Nat) : Ws := ⟨pc, halt, l.length, memR l, ⟨0, 0, 0, 0⟩, none, 0, 0, some ⟨g, 0, none⟩, 1, c, none, 0, 0⟩
def haltS (h : Int) : Int := if h = 0 then 2 else h
namespace witnessStays
set_option maxRecDepth 100000 in
set_option maxHeartbeats 2000000 in
theorem many (A A' : Option Addr) (n cap k cap' : Nat) (pc halt : Int) (w : World) (hf : (decide (n ≤ 20) && decide (k ≤ 20)) = false ∨ n = 0) :
    Calls Tryz.prog 7 #[.slice A n cap, .agg (stCells pc A' k cap' halt)] w fun e w' => e = .returned (.bool true) ∧ Ext w w' := by
  have hx0 : Ext w _ := (Kept.refl _ w).alloc (.cells (stCells pc A' k cap' halt) 61)
  have hS0 := Blk.new w 61 (stCells pc A' k cap' halt)
  have HF : Hid ((decide (n ≤ 20) && decide (k ≤ 20)) = false ∨ ((decide (n ≤ 20) && decide (k ≤ 20)) = true ∧ n = 0)) := Lib.hid (by
    cases hq : (decide (n ≤ 20) && decide (k ≤ 20))
    · exact .inl rfl
    · refine .inr ⟨rfl, ?_⟩
      rcases hf with h | h
      · rw [hq] at h; cases h
      · exact h)
  clear hf
  go_enter Tryz.func7, Tryz.ntmps7
  go_wp2_with fail
  refine (known_any _).mono ?_
  rintro e w1 ⟨rfl, hx1⟩
  have hS1 := Blk.ext hS0 hx1
  have hh1 := Blk.has hS1
  have hg1 := Blk.gets hS1
  go_wp2_with fail
  refine (few_any A A' n cap k cap' pc halt _).mono ?_
  rintro e w2 ⟨rfl, hx2⟩
  rcases HF.out with hf | ⟨hf, h0⟩
  · rw [hf]
    go_wp2_with fail
    refine (known_any _).mono ?_
    rintro e w3 ⟨rfl, hx3⟩
    go_wp2_with fail
    go_ret
    exact ⟨rfl, ((hx0.trans hx1).trans hx2).trans hx3⟩
  · rw [hf]
    have b0 : ((n : Int) == 0) = true := by simp [h0]
    have b1 : (n == 0) = true := by simp [h0]
    clear h0
    go_wp2_with fail
    refine (known_any _).mono ?_
    rintro e w3 ⟨rfl, hx3⟩
    go_wp2_with fail
    go_ret
    exact ⟨rfl, ((hx0.trans hx1).trans hx2).trans hx3⟩
set_option maxRecDepth 100000 in
set_option maxHeartbeats 4000000 in
theorem small (A : Option Addr) (b off cap : Nat) (l : List Ins) (n : Nat) (hn : n = l.length) (h1 : 1 ≤ n) (h2 : n ≤ 20) (hok : ∀ i ∈ l, i.ok) (hA : 0 < n → A = some ⟨b, off, none⟩)
    (pc halt : Int) (A' : Option Addr) (b' off' cap' : Nat) (m : List Int) (k : Nat) (hk : k = m.length) (hk2 : k ≤ 20) (hA' : 0 < k → A' = some ⟨b', off', none⟩) (w : World) (hr : 0 < n → Row w b off (inss l)) (hr' : 0 < k → Row w b' off' (mems m)) :
    Calls Tryz.prog 7 #[.slice A n cap, .agg (stCells pc A' k cap' halt)] w fun e w' => e = .returned (.bool true) ∧ Ext w w' := by
  have HF := Lib.hid (show (decide (n ≤ 20) && decide (k ≤ 20)) = true by simp [h2, hk2])
  have hn0 : ((n : Int) == 0) = false := by simp; omega
  have hn0' : (n == 0) = false := by simp; omega
  have HN := Lib.hid hn
  have HO := Lib.hid hok
  have HA := Lib.hid hA
  have HR := Lib.hid hr
  have HKn := Lib.hid hk
  have HA' := Lib.hid hA'
  have HR' := Lib.hid hr'
  clear hn hA hr hok hk hA' hr'
  have hx0 : Ext w _ := (Kept.refl _ w).alloc (.cells (stCells pc A' k cap' halt) 61)
  have hS0 := Blk.new w 61 (stCells pc A' k cap' halt)
  go_enter Tryz.func7, Tryz.ntmps7
  go_wp2_with fail
  refine (known_any _).mono ?_
  rintro e w1 ⟨rfl, hx1⟩
  have hS1 := Blk.ext hS0 hx1
  have hh1 := Blk.has hS1
  have hg1 := Blk.gets hS1
  have y1 := hx0.trans hx1
  clear hx0 hS0 hx1
  go_wp2_with fail
  refine (few_any A A' n cap k cap' pc halt _).mono ?_
  rintro e w2 ⟨rfl, hx2⟩
  rw [HF.out]
  have hS2 := Blk.ext hS1 hx2
  have y2 := y1.trans hx2
  clear hh1 hg1 hS1 y1 hx2
  go_wp2_with fail
  refine (law14of_ok A b off cap l n HN.out (by omega) HA.out _ (fun h => (HR.out h).ext y2)).mono ?_
  rintro e w3 ⟨v3, rfl, ho3, hx3⟩
  obtain ⟨A3, g3, c3, rfl, hA3, hr3, hl3⟩ := own_I ho3
  have HA3 := Lib.hid hA3
  have hR3 := hr3 h1
  have hS3 := Blk.ext hS2 hx3
  have y3 := y2.trans hx3
  have hh3 := Blk.has hS3
  have hg3 := Blk.gets hS3
  clear hA3 hr3 hl3 ho3 hS2 y2 hx3
  go_wp2_with fail
  refine (of_st A' k cap' pc halt _).mono ?_
  rintro e w4 ⟨rfl, hx4⟩
  have hx5 := (hx4.alloc (.cells (stCells n A' k cap' halt) 70))
  have hX5 := Blk.new w4 70 (stCells n A' k cap' halt)
  have hR5 := hR3.ext hx5
  have y5 := y3.trans hx5
  have hl5 := y5.size
  have hl5' := (y3.trans hx4).size
  clear hh3 hg3 hS3 hR3 y3
  go_upto_region 6 with (fail)
  generalize (w4.alloc (.cells (stCells n A' k cap' halt) 70)) = W5 at hX5 hR5 y5 ⊢
  clear hx4 hx5 hl5
  generalize w4.heap.size = x at hX5 hl5' ⊢
  have hh5 := Blk.has hX5
  have hg5 := Blk.gets hX5
  go_wp2_with fail
  refine (wstate_all n halt A' b' off' cap' m k HKn.out HA'.out _ (fun h => (HR'.out h).ext y5)).mono ?_
  rintro e w6 ⟨e6, hx6⟩
  by_cases hright : rightS n halt k = true
  · obtain ⟨k1, k2, h3, h4, h5, h6⟩ := rightS_inv hright
    obtain ⟨B, hB⟩ : ∃ B, B = stateR n halt m := ⟨_, rfl⟩
    obtain ⟨M, hM⟩ : ∃ M, M = memR m := ⟨_, rfl⟩
    replace e6 : e = .returned (.tuple #[.agg B.cells, .int .i64 0]) := by rw [e6, hB]; simp only [stZ, stK, ← HKn.out, if_pos hright]
    subst e6
    have HRT := Lib.hid hright
    have HB := Lib.hid hB
    have HM := Lib.hid hM
    clear hright hB hM
    have hX6 := Blk.alloc (Blk.ext hX5 hx6) (.cells B.cells 30)
    have hR6 := hR5.ext (hx6.alloc (.cells B.cells 30))
    have hB6 := Blk.new w6 30 B.cells
    have y6 := (y5.trans hx6).alloc (.cells B.cells 30)
    have hl6 := (Blk.ext hX5 hx6).lt
    clear hX5 hR5 y5 hx6 hh5 hg5
    go_upto_region 9 with (fail)
    generalize (w6.alloc (.cells #[.int .u8 B.x0, .int .u8 B.x1, .int .u8 B.x2, .int .u8 B.x3, .int .u8 B.x4, .int .u8 B.x5, .int .u8 B.x6, .int .u8 B.x7] 30)) = W6 at hX6 hR6 hB6 y6 ⊢
    generalize w6.heap.size = c6 at hB6 hl6 ⊢
    go_wp2_with fail
    obtain ⟨C, hC⟩ : ∃ C, C = codeR l := ⟨_, rfl⟩
    have HC := Lib.hid hC
    clear hC
    refine (wcode_ok A3 g3 0 c3 l n HN.out h1 (by omega) HO.out HA3.out _ (fun _ => hR6)).mono ?_
    rintro e w7 ⟨e7, hx7⟩
    replace e7 : e = .returned (.tuple #[.agg C.cells, .int .i64 0]) := by rw [e7, HC.out]
    subst e7
    have hX7 := Blk.alloc (Blk.ext hX6 hx7) (.cells C.cells 30)
    have hR7 := hR6.ext (hx7.alloc (.cells C.cells 30))
    have hB7 := Blk.alloc (Blk.ext hB6 hx7) (.cells C.cells 30)
    have hC7 := Blk.new w7 30 C.cells
    have y7 := (y6.trans hx7).alloc (.cells C.cells 30)
    have hl7 := (Blk.ext hB6 hx7).lt
    clear hX6 hR6 hB6 y6 hx7
    go_upto_region 10 with (fail)
    generalize (w7.alloc (.cells #[.int .u8 C.x0, .int .u8 C.x1, .int .u8 C.x2, .int .u8 C.x3, .int .u8 C.x4, .int .u8 C.x5, .int .u8 C.x6, .int .u8 C.x7] 30)) = W7 at hX7 hR7 hB7 hC7 y7 ⊢
    generalize w7.heap.size = c7 at hC7 hl7 ⊢
    have hh7 := Blk.has hX7
    have hg7 := Blk.gets hX7
    go_wp2_with fail
    refine (make_stays A3 g3 0 c3 l n HN.out h1 (by omega) HO.out HA3.out n halt A' b' off' cap' m k HKn.out HRT.out HA'.out (.inr (Int.le_refl _)) _ (fun _ => hR7) (fun h => (HR'.out h).ext y7)).mono ?_
    rintro e w8 ⟨e8, hx8⟩
    replace e8 : e = .returned (.tuple #[.agg (bareC n halt k M), .int .i64 0]) := by rw [e8, HM.out, HKn.out]; rfl
    subst e8
    have hX8 := Blk.alloc (Blk.ext hX7 hx8) (.cells (bareC n halt k M) 45)
    have hB8 := Blk.alloc (Blk.ext hB7 hx8) (.cells (bareC n halt k M) 45)
    have hC8 := Blk.alloc (Blk.ext hC7 hx8) (.cells (bareC n halt k M) 45)
    have hW8 := Blk.new w8 45 (bareC n halt k M)
    have y8 := (y7.trans hx8).alloc (.cells (bareC n halt k M) 45)
    have hl8 := (Blk.ext hC7 hx8).lt
    clear hX7 hR7 hB7 hC7 y7 hx8 hh7 hg7
    go_upto_region 11 with (fail)
    generalize (w8.alloc (.cells (bareC n halt k M) 45)) = W8 at hX8 hB8 hC8 hW8 y8 ⊢
    generalize w8.heap.size = c8 at hW8 hl8 ⊢
    have hh8 := Blk.has hB8
    have hg8 := Blk.gets hB8
    have hi8 := Blk.has hC8
    have hj8 := Blk.gets hC8
    have hk8 := Blk.has hW8
    have hm8 := Blk.gets hW8
    go_wp2_with fail
    obtain ⟨S, hS⟩ : ∃ S, S = stateR n (haltS halt) m := ⟨_, rfl⟩
    have HS := Lib.hid hS
    clear hS
    have hlm : ((m.length : Nat) : Int) = k := by rw [HKn.out]
    have hck := after_stays (bareStep n halt m) C n W8 (hWord_ok _ _) (by omega) (by omega) (by show rightS n halt m.length = true; rw [hlm]; exact HRT.out) (.inr (Int.le_refl _)) rfl rfl rfl
    have e9 : hHead (bareStep n halt m).pc (bareStep n halt m).halt (bareStep n halt m).words (bareStep n halt m).mem = B := HB.out.symm
    have e10 : (bareStep n halt m).same = S := HS.out.symm
    have e11 : bareC n halt m.length (memR m) = bareC n halt k M := by rw [← HKn.out, ← HM.out]
    rw [e9, e10, bare_cells, e11] at hck
    clear hlm e9 e10 e11
    refine hck.mono ?_
    rintro e w9 ⟨rfl, hx9⟩
    clear hck
    have hX9 := Blk.alloc (Blk.ext hX8 hx9) (.cells S.cells 30)
    have hB9 := Blk.alloc (Blk.ext hB8 hx9) (.cells S.cells 30)
    have hC9 := Blk.alloc (Blk.ext hC8 hx9) (.cells S.cells 30)
    have hW9 := Blk.alloc (Blk.ext hW8 hx9) (.cells S.cells 30)
    have hS9 := Blk.new w9 30 S.cells
    have y9 := (y8.trans hx9).alloc (.cells S.cells 30)
    have hl9 := (Blk.ext hW8 hx9).lt
    clear hX8 hB8 hC8 hW8 y8 hx9 hh8 hg8 hi8 hj8 hk8 hm8
    go_upto_region 12 with (fail)
    generalize (w9.alloc (.cells #[.int .u8 S.x0, .int .u8 S.x1, .int .u8 S.x2, .int .u8 S.x3, .int .u8 S.x4, .int .u8 S.x5, .int .u8 S.x6, .int .u8 S.x7] 30)) = W9 at hX9 hB9 hC9 hW9 hS9 y9 ⊢
    generalize w9.heap.size = c9 at hS9 hl9 ⊢
    obtain ⟨h', hh'⟩ : ∃ h', h' = haltS halt := ⟨_, rfl⟩
    have hrt' : rightS n h' k = true := by
      rw [hh']
      have he : haltS halt = 2 ∨ haltS halt = halt := by unfold haltS; split <;> simp
      rcases he with he | he
      · rw [he]; simp [rightS]; omega
      · rw [he]; exact HRT.out
    have HRT' := Lib.hid hrt'
    have HH' := Lib.hid hh'
    clear hrt' hh'
    have hc9 := Blk.cell hX9
    have hf9 := Blk.frozen hX9
    have hlX := hX9.lt
    by_cases hz : halt = 0
    · have bz : (halt == 0) = true := by simp [hz]
      have eh : h' = 2 := by rw [HH'.out]; simp [haltS, hz]
      have EH := Lib.hid eh
      clear hz eh
      have hX10 : Blk (W9.setCell ⟨x, 2, none⟩ (.int .i64 2)) x 70 (stCells n A' k cap' 2) := Blk.set_ hX9 2 (.int .i64 2)
      have hB10 := Blk.far hB9 (p := ⟨x, 2, none⟩) (show c6 ≠ x by omega) (.int .i64 2)
      have hC10 := Blk.far hC9 (p := ⟨x, 2, none⟩) (show c7 ≠ x by omega) (.int .i64 2)
      have hW10 := Blk.far hW9 (p := ⟨x, 2, none⟩) (show c8 ≠ x by omega) (.int .i64 2)
      have hS10 := Blk.far hS9 (p := ⟨x, 2, none⟩) (show c9 ≠ x by omega) (.int .i64 2)
      have y10 : Ext w (W9.setCell ⟨x, 2, none⟩ (.int .i64 2)) := Kept.setCell y9 ⟨x, 2, none⟩ _ (fun h => by have : x < w.heap.size := h; omega)
      go_upto_region 14 with (fail)
      clear hX9 hB9 hC9 hW9 hS9 y9 hc9 hf9
      generalize (W9.setCell ⟨x, 2, none⟩ (.int .i64 2)) = W10 at hX10 hB10 hC10 hW10 hS10 y10 ⊢
      rw [← EH.out] at hX10
      have hh10 := Blk.has hX10
      have hg10 := Blk.gets hX10
      go_wp2_with fail
      refine (wstate_ok n h' A' b' off' cap' m k HKn.out HRT'.out HA'.out _ (fun h => (HR'.out h).ext y10)).mono ?_
      rintro e w11 ⟨e11, hx11⟩
      replace e11 : e = .returned (.tuple #[.agg S.cells, .int .i64 0]) := by rw [e11, HS.out, HH'.out]
      subst e11
      have hB11 := Blk.alloc (Blk.ext hB10 hx11) (.cells S.cells 30)
      have hC11 := Blk.alloc (Blk.ext hC10 hx11) (.cells S.cells 30)
      have hW11 := Blk.alloc (Blk.ext hW10 hx11) (.cells S.cells 30)
      have hS11 := Blk.alloc (Blk.ext hS10 hx11) (.cells S.cells 30)
      have hT11 := Blk.new w11 30 S.cells
      have y11 := (y10.trans hx11).alloc (.cells S.cells 30)
      have hl11 := (Blk.ext hS10 hx11).lt
      clear hX10 hB10 hC10 hW10 hS10 y10 hx11 hh10 hg10
      go_upto_region 15 with (fail)
      generalize (w11.alloc (.cells #[.int .u8 S.x0, .int .u8 S.x1, .int .u8 S.x2, .int .u8 S.x3, .int .u8 S.x4, .int .u8 S.x5, .int .u8 S.x6, .int .u8 S.x7] 30)) = W11 at hB11 hC11 hW11 hS11 hT11 y11 ⊢
      generalize w11.heap.size = c11 at hT11 hl11 ⊢
      have hh11 := Blk.has hW11
      have hg11 := Blk.gets hW11
      have hlW := hT11.lt
      have hB12 := Blk.alloc hB11 (.cells (bareC n halt k M) 45)
      have hC12 := Blk.alloc hC11 (.cells (bareC n halt k M) 45)
      have hS12 := Blk.alloc hS11 (.cells (bareC n halt k M) 45)
      have hT12 := Blk.alloc hT11 (.cells (bareC n halt k M) 45)
      have hM12 := Blk.new W11 45 (bareC n halt k M)
      have y12 := y11.alloc (.cells (bareC n halt k M) 45)
      clear hB11 hC11 hS11 hT11 y11
      go_upto_region 16 with (fail)
      generalize (W11.alloc (.cells (bareC n halt k M) 45)) = W12 at hB12 hC12 hS12 hT12 hM12 y12 ⊢
      clear hh11 hg11
      generalize W11.heap.size = c12 at hM12 hlW ⊢
      have hc12 := Blk.cell hM12
      have hl12 := hM12.lt
      go_step
      iterate 4 (refine wpList_step (fun K hK => ?_); go_simp; (try go_bits); refine hK _ _ ?_; clear hK K)
      obtain ⟨g13, k13, w13, hr13, _, hg13, hx13⟩ := appW1 (W12.alloc (.cells #[.int .i64 0, .int .i32 1, .slice none 0 0] 77)) W12.heap.size [.int .i64 0, .int .i32 1, .slice none 0 0] rfl rfl (Row.of_blk (Blk.new W12 _ _))
      refine wpList_app rfl (.tmp 82) (.tmp 84) 43 rfl rfl rfl rfl hr13 ?_
      clear hr13
      have x13 : Ext W12 w13 := ((Kept.refl _ W12).alloc _).trans hx13
      have hM13 := Blk.ext hM12 x13
      have hcM := Blk.cell hM13
      have hfM := Blk.frozen hM13
      have hM14 : Blk (w13.setCell ⟨c12, 16, none⟩ (.slice (some ⟨g13, 0, none⟩) 1 k13)) c12 45 (moreC n halt k M g13 k13) := Blk.set_ hM13 16 (.slice (some ⟨g13, 0, none⟩) 1 k13)
      have hB14 := Blk.far (Blk.ext hB12 x13) (p := ⟨c12, 16, none⟩) (show c6 ≠ c12 by omega) (.slice (some ⟨g13, 0, none⟩) 1 k13)
      have hC14 := Blk.far (Blk.ext hC12 x13) (p := ⟨c12, 16, none⟩) (show c7 ≠ c12 by omega) (.slice (some ⟨g13, 0, none⟩) 1 k13)
      have hS14 := Blk.far (Blk.ext hS12 x13) (p := ⟨c12, 16, none⟩) (show c9 ≠ c12 by omega) (.slice (some ⟨g13, 0, none⟩) 1 k13)
      have hT14 := Blk.far (Blk.ext hT12 x13) (p := ⟨c12, 16, none⟩) (show c11 ≠ c12 by omega) (.slice (some ⟨g13, 0, none⟩) 1 k13)
      have y14 : Ext w (w13.setCell ⟨c12, 16, none⟩ (.slice (some ⟨g13, 0, none⟩) 1 k13)) := Kept.setCell (y12.trans x13) ⟨c12, 16, none⟩ _ (fun h => by have : c12 < w.heap.size := h; omega)
      clear hB12 hC12 hS12 hT12 hM12 y12 hc12
      go_upto_region 17 with (fail)
      clear hM13 hcM hfM x13 hx13 hg13
      generalize (w13.setCell ⟨c12, 16, none⟩ (.slice (some ⟨g13, 0, none⟩) 1 k13)) = W14 at hM14 hB14 hC14 hS14 hT14 y14 ⊢
      have i1 := Blk.has hB14
      have i2 := Blk.gets hB14
      have i3 := Blk.has hC14
      have i4 := Blk.gets hC14
      have i5 := Blk.has hM14
      have i6 := Blk.gets hM14
      go_wp2_with fail
      have hlm : ((m.length : Nat) : Int) = k := by rw [HKn.out]
      have hck := after_form (moreStep n halt m g13 k13) C n W14 (hWord_ok _ _) (by omega) (by omega) (by show rightS n halt m.length = true; rw [hlm]; exact HRT.out) (.inr (Int.le_refl _)) rfl rfl rfl
      have e9 : hHead (moreStep n halt m g13 k13).pc (moreStep n halt m g13 k13).halt (moreStep n halt m g13 k13).words (moreStep n halt m g13 k13).mem = B := HB.out.symm
      have e11 : (moreStep n halt m g13 k13).cells = moreC n halt k M g13 k13 := by rw [HKn.out, HM.out]; rfl
      rw [e9, e11] at hck
      clear hlm e9 e11
      refine hck.mono ?_
      rintro e w15 ⟨rfl, hx15⟩
      clear hck i1 i2 i3 i4 i5 i6
      have hS15 := Blk.alloc (Blk.ext hS14 hx15) (.cells Dg.zero.cells 30)
      have hT15 := Blk.alloc (Blk.ext hT14 hx15) (.cells Dg.zero.cells 30)
      have y15 := (y14.trans hx15).alloc (.cells Dg.zero.cells 30)
      have hl15 := (Blk.ext hT14 hx15).lt
      have hl15' := (Blk.ext hS14 hx15).lt
      clear hS14 hT14 y14 hx15 hM14 hB14 hC14
      go_upto_region 18 with (fail)
      generalize (w15.alloc (.cells Dg.zero.cells 30)) = W15 at hS15 hT15 y15 ⊢
      have i1 := Blk.has hS15
      have i2 := Blk.gets hS15
      have i3 := Blk.has hT15
      have i4 := Blk.gets hT15
      go_wp2_with fail
      go_ret
      exact ⟨rfl, y15⟩
    · have bz : (halt == 0) = false := by simp [hz]
      have eh : h' = halt := by rw [HH'.out]; simp [haltS, hz]
      have EH := Lib.hid eh
      clear hz eh
      go_upto_region 14 with (fail)
      clear hc9 hf9
      have hX10 := hX9
      have hB10 := hB9
      have hC10 := hC9
      have hW10 := hW9
      have hS10 := hS9
      have y10 := y9
      clear hX9 hB9 hC9 hW9 hS9 y9
      rw [← EH.out] at hX10
      have hh10 := Blk.has hX10
      have hg10 := Blk.gets hX10
      go_wp2_with fail
      refine (wstate_ok n h' A' b' off' cap' m k HKn.out HRT'.out HA'.out _ (fun h => (HR'.out h).ext y10)).mono ?_
      rintro e w11 ⟨e11, hx11⟩
      replace e11 : e = .returned (.tuple #[.agg S.cells, .int .i64 0]) := by rw [e11, HS.out, HH'.out]
      subst e11
      have hB11 := Blk.alloc (Blk.ext hB10 hx11) (.cells S.cells 30)
      have hC11 := Blk.alloc (Blk.ext hC10 hx11) (.cells S.cells 30)
      have hW11 := Blk.alloc (Blk.ext hW10 hx11) (.cells S.cells 30)
      have hS11 := Blk.alloc (Blk.ext hS10 hx11) (.cells S.cells 30)
      have hT11 := Blk.new w11 30 S.cells
      have y11 := (y10.trans hx11).alloc (.cells S.cells 30)
      have hl11 := (Blk.ext hS10 hx11).lt
      clear hX10 hB10 hC10 hW10 hS10 y10 hx11 hh10 hg10
      go_upto_region 15 with (fail)
      generalize (w11.alloc (.cells #[.int .u8 S.x0, .int .u8 S.x1, .int .u8 S.x2, .int .u8 S.x3, .int .u8 S.x4, .int .u8 S.x5, .int .u8 S.x6, .int .u8 S.x7] 30)) = W11 at hB11 hC11 hW11 hS11 hT11 y11 ⊢
      generalize w11.heap.size = c11 at hT11 hl11 ⊢
      have hh11 := Blk.has hW11
      have hg11 := Blk.gets hW11
      have hlW := hT11.lt
      have hB12 := Blk.alloc hB11 (.cells (bareC n halt k M) 45)
      have hC12 := Blk.alloc hC11 (.cells (bareC n halt k M) 45)
      have hS12 := Blk.alloc hS11 (.cells (bareC n halt k M) 45)
      have hT12 := Blk.alloc hT11 (.cells (bareC n halt k M) 45)
      have hM12 := Blk.new W11 45 (bareC n halt k M)
      have y12 := y11.alloc (.cells (bareC n halt k M) 45)
      clear hB11 hC11 hS11 hT11 y11
      go_upto_region 16 with (fail)
      generalize (W11.alloc (.cells (bareC n halt k M) 45)) = W12 at hB12 hC12 hS12 hT12 hM12 y12 ⊢
      clear hh11 hg11
      generalize W11.heap.size = c12 at hM12 hlW ⊢
      have hc12 := Blk.cell hM12
      have hl12 := hM12.lt
      go_step
      iterate 4 (refine wpList_step (fun K hK => ?_); go_simp; (try go_bits); refine hK _ _ ?_; clear hK K)
      obtain ⟨g13, k13, w13, hr13, _, hg13, hx13⟩ := appW1 (W12.alloc (.cells #[.int .i64 0, .int .i32 1, .slice none 0 0] 77)) W12.heap.size [.int .i64 0, .int .i32 1, .slice none 0 0] rfl rfl (Row.of_blk (Blk.new W12 _ _))
      refine wpList_app rfl (.tmp 82) (.tmp 84) 43 rfl rfl rfl rfl hr13 ?_
      clear hr13
      have x13 : Ext W12 w13 := ((Kept.refl _ W12).alloc _).trans hx13
      have hM13 := Blk.ext hM12 x13
      have hcM := Blk.cell hM13
      have hfM := Blk.frozen hM13
      have hM14 : Blk (w13.setCell ⟨c12, 16, none⟩ (.slice (some ⟨g13, 0, none⟩) 1 k13)) c12 45 (moreC n halt k M g13 k13) := Blk.set_ hM13 16 (.slice (some ⟨g13, 0, none⟩) 1 k13)
      have hB14 := Blk.far (Blk.ext hB12 x13) (p := ⟨c12, 16, none⟩) (show c6 ≠ c12 by omega) (.slice (some ⟨g13, 0, none⟩) 1 k13)
      have hC14 := Blk.far (Blk.ext hC12 x13) (p := ⟨c12, 16, none⟩) (show c7 ≠ c12 by omega) (.slice (some ⟨g13, 0, none⟩) 1 k13)
      have hS14 := Blk.far (Blk.ext hS12 x13) (p := ⟨c12, 16, none⟩) (show c9 ≠ c12 by omega) (.slice (some ⟨g13, 0, none⟩) 1 k13)
      have hT14 := Blk.far (Blk.ext hT12 x13) (p := ⟨c12, 16, none⟩) (show c11 ≠ c12 by omega) (.slice (some ⟨g13, 0, none⟩) 1 k13)
      have y14 : Ext w (w13.setCell ⟨c12, 16, none⟩ (.slice (some ⟨g13, 0, none⟩) 1 k13)) := Kept.setCell (y12.trans x13) ⟨c12, 16, none⟩ _ (fun h => by have : c12 < w.heap.size := h; omega)
      clear hB12 hC12 hS12 hT12 hM12 y12 hc12
      go_upto_region 17 with (fail)
      clear hM13 hcM hfM x13 hx13 hg13
      generalize (w13.setCell ⟨c12, 16, none⟩ (.slice (some ⟨g13, 0, none⟩) 1 k13)) = W14 at hM14 hB14 hC14 hS14 hT14 y14 ⊢
      have i1 := Blk.has hB14
      have i2 := Blk.gets hB14
      have i3 := Blk.has hC14
      have i4 := Blk.gets hC14
      have i5 := Blk.has hM14
      have i6 := Blk.gets hM14
      go_wp2_with fail
      have hlm : ((m.length : Nat) : Int) = k := by rw [HKn.out]
      have hck := after_form (moreStep n halt m g13 k13) C n W14 (hWord_ok _ _) (by omega) (by omega) (by show rightS n halt m.length = true; rw [hlm]; exact HRT.out) (.inr (Int.le_refl _)) rfl rfl rfl
      have e9 : hHead (moreStep n halt m g13 k13).pc (moreStep n halt m g13 k13).halt (moreStep n halt m g13 k13).words (moreStep n halt m g13 k13).mem = B := HB.out.symm
      have e11 : (moreStep n halt m g13 k13).cells = moreC n halt k M g13 k13 := by rw [HKn.out, HM.out]; rfl
      rw [e9, e11] at hck
      clear hlm e9 e11
      refine hck.mono ?_
      rintro e w15 ⟨rfl, hx15⟩
      clear hck i1 i2 i3 i4 i5 i6
      have hS15 := Blk.alloc (Blk.ext hS14 hx15) (.cells Dg.zero.cells 30)
      have hT15 := Blk.alloc (Blk.ext hT14 hx15) (.cells Dg.zero.cells 30)
      have y15 := (y14.trans hx15).alloc (.cells Dg.zero.cells 30)
      have hl15 := (Blk.ext hT14 hx15).lt
      have hl15' := (Blk.ext hS14 hx15).lt
      clear hS14 hT14 y14 hx15 hM14 hB14 hC14
      go_upto_region 18 with (fail)
      generalize (w15.alloc (.cells Dg.zero.cells 30)) = W15 at hS15 hT15 y15 ⊢
      have i1 := Blk.has hS15
      have i2 := Blk.gets hS15
      have i3 := Blk.has hT15
      have i4 := Blk.gets hT15
      go_wp2_with fail
      go_ret
      exact ⟨rfl, y15⟩
  · have hrf : rightS n halt k = false := by simpa using hright
    replace e6 : e = .returned (.tuple #[.agg Dg.zero.cells, .int .i64 2]) := by rw [e6]; simp only [stZ, stK, ← HKn.out, if_neg hright]
    subst e6
    have HRT := Lib.hid hrf
    clear hright hrf
    have hX6 := Blk.ext hX5 hx6
    have hX7 := Blk.alloc hX6 (.cells Dg.zero.cells 30)
    have hh6 := Blk.has hX7
    have hg6 := Blk.gets hX7
    have hl6 := hX6.lt
    clear hX5 hh5 hg5
    go_upto_region 8 with (fail)
    go_wp2_with fail
    refine (right_any n halt A' k cap' _).mono ?_
    rintro e w7 ⟨rfl, hx7⟩
    rw [HRT.out]
    go_wp2_with fail
    go_ret
    exact ⟨rfl, ((y5.trans hx6).alloc _).trans hx7⟩
set_option maxRecDepth 100000 in
theorem walk {H : Type} {enc : TypeId × Value → H} (W : World) (base : Nat) (v0 v1 : Value) (d0 d1 : DataW H) (p0 p1 : List MemPlace)
    (o0 : Value.okWide Tryz.prog W .any base 58 v0) (o1 : Value.okWide Tryz.prog W .any base 61 v1)
    (h0 : DataW.Trod enc Tryz.prog W 0 (fun _ => true) true 58 v0 d0 p0) (h1 : DataW.Trod enc Tryz.prog W 0 (fun _ => true) true 61 v1 d1 p1) :
    Calls Tryz.prog 7 #[v0, v1] W fun e w' => e = .returned (.bool true) ∧ Ext W w' := by
  obtain ⟨A0, n0, cap0, rfl⟩ := okWide_slice Tryz.underlying58 o0
  obtain ⟨fuel, hf⟩ := h0
  obtain ⟨A, b, off, n, cap, l, e, hA, hn, hr, hok, _, _⟩ := inss_of hf
  simp at e
  obtain ⟨rfl, rfl, rfl⟩ := e
  obtain ⟨cs, rfl⟩ : ∃ cs, v1 = .agg cs := by
    simp only [Value.okWide, Tryz.underlying61] at o1
    obtain ⟨cs, h1, _⟩ := o1
    exact ⟨cs, h1⟩
  obtain ⟨fuel', hf'⟩ := h1
  obtain ⟨pc, halt, A', b', off', k, cap', m, e, hpc, hhalt, hA', hk, hr', hm, _, _⟩ := state_of hf'
  obtain rfl : cs = stCells pc A' k cap' halt := by
    cases cs
    simpa [Value.cells] using e
  by_cases hl : n0 ≤ 20 ∧ k ≤ 20 ∧ 1 ≤ n0
  · exact small A0 b off cap0 l n0 hn hl.2.2 hl.1 hok hA pc halt A' b' off' cap' m k hk hl.2.1 hA' W hr hr'
  · exact many A0 A' n0 cap0 k cap' pc halt W (by simp; omega)
end witnessStays
end Go.Proofs.YtahljceanodhkaaGreatDoor
