/- Package baizeref04: leaves, nodes, roots. -/
import Derived.Test.YtahljceanodhkaaGreatDoorRd
import Derived.Test.YtahljceanodhkaaGreatDoorTb
import Derived.Laws.BytesArg
namespace Go.Proofs.YtahljceanodhkaaGreatDoor
open Go.RowKit
theorem rbytesIs : RBytesIs := by
  intro s A cap l n w hb h0 h1
  rcases hb.at_ with ⟨_, h, _⟩ | ⟨b, off, rfl, hr⟩
  · omega
  · exact rbytes_any s b off cap l n w hb.len h0 h1 hb.le hb.ok (hr h0)
set_option maxHeartbeats 400000 in
theorem rlow_any (d : Dg) (hd : d.ok) (w : World) : Calls Tryz.prog 180 #[.agg #[.int .u8 d.x0, .int .u8 d.x1, .int .u8 d.x2, .int .u8 d.x3, .int .u8 d.x4, .int .u8 d.x5, .int .u8 d.x6, .int .u8 d.x7]] w fun e w' => e = .returned (.agg (hLow d).cells) ∧ Ext w w' := by
  have HD := Lib.hid hd
  clear hd
  have hx0 : Ext w _ := ((Kept.refl _ w).alloc (.cells #[.int .u8 d.x0, .int .u8 d.x1, .int .u8 d.x2, .int .u8 d.x3, .int .u8 d.x4, .int .u8 d.x5, .int .u8 d.x6, .int .u8 d.x7] 23)).alloc (.cells Dg.zero.cells 23)
  have hR0 : Blk _ (w.heap.size + 1) 23 Dg.zero.cells := Blk.new' (w.alloc (.cells #[.int .u8 d.x0, .int .u8 d.x1, .int .u8 d.x2, .int .u8 d.x3, .int .u8 d.x4, .int .u8 d.x5, .int .u8 d.x6, .int .u8 d.x7] 23)) _ _ _ (by simp)
  go_enter Tryz.func180, Tryz.ntmps180
  go_wp2_with fail
  refine (rword_any rbytesIs d HD.out _ (by decide) (by decide) _).mono ?_
  rintro e w1 ⟨rfl, hx1⟩
  have hR1 := Blk.ext hR0 hx1
  have hh1 := Blk.has hR1
  have hm1 := Blk.melts hR1
  go_wp2_with fail
  refine ret_cell Tryz.results180 rfl rfl aggArr8 (by exact sizeArr8) (Blk.put_ hR1 _ _) ⟨rfl, ?_⟩
  exact Kept.putAt (hx0.trans hx1) _ _ _ (fun h => by omega)
def hNone : Dg := hWord Dg.zero noneB
set_option maxHeartbeats 400000 in
theorem rlack_any (w : World) : Calls Tryz.prog 181 #[] w fun e w' => e = .returned (.agg hNone.cells) ∧ Ext w w' := by
  have hx0 : Ext w _ := (Kept.refl _ w).alloc (.cells Dg.zero.cells 23)
  have hR0 := Blk.new w 23 Dg.zero.cells
  go_enter Tryz.func181, Tryz.ntmps181
  go_wp2_with fail
  refine (rword_any rbytesIs Dg.zero dg0_ok _ (by decide) (by decide) _).mono ?_
  rintro e w1 ⟨rfl, hx1⟩
  have hR1 := Blk.ext hR0 hx1
  have hh1 := Blk.has hR1
  have hm1 := Blk.melts hR1
  go_wp2_with fail
  refine ret_cell Tryz.results181 rfl rfl aggArr8 (by exact sizeArr8) (Blk.put_ hR1 _ _) ⟨rfl, ?_⟩
  exact Kept.putAt (hx0.trans hx1) _ _ _ (fun h => by omega)
/-- the digest of a place on a level -/
def nodeT (l : List Dg) : Nat → Nat → Dg
  | 0, k => match l[k]? with | some d => hLow d | none => hNone
  | v + 1, k => hTwo (nodeT l v (2 * k)) (nodeT l v (2 * k + 1))
theorem nodeT_ok (l : List Dg) : ∀ v k, (nodeT l v k).ok
  | 0, k => by
    unfold nodeT
    split
    · exact hWord_ok _ _
    · exact hWord_ok _ _
  | v + 1, k => hTwo_ok _ _
set_option maxRecDepth 100000 in
set_option maxHeartbeats 1000000 in
theorem rnode_any (A : Option Addr) (b off cap : Nat) (l : List Dg) (n : Nat) (hn : n = l.length) (hl : n ≤ 1000000) (hok : ∀ d ∈ l, d.ok) (hA : 0 < n → A = some ⟨b, off, none⟩) :
    ∀ (v k : Nat) (w : World), (0 < n → Row w b off (digs l)) → (k + 1) * 2 ^ v ≤ 1048576 → v ≤ 20 →
    Calls Tryz.prog 124 #[.slice A n cap, .int .i64 v, .int .i64 k] w fun e w' => e = .returned (.agg (nodeT l v k).cells) ∧ Ext w w' := by
  have HN := Lib.hid hn
  have HO := Lib.hid hok
  have HA := Lib.hid hA
  clear hn hok hA
  intro v
  induction v with
  | zero =>
    intro k w hr hk hv
    have HR := Lib.hid hr
    clear hr
    simp only [Nat.pow_zero, Nat.mul_one] at hk
    have hx0 : Ext w _ := (Kept.refl _ w).alloc (.cells Dg.zero.cells 23)
    have hR0 := Blk.new w 23 Dg.zero.cells
    by_cases hlt : k < n
    · have hkl : k < l.length := by have := HN.out; omega
      obtain rfl := HA.out (by omega)
      obtain ⟨hrh, hrg⟩ := (HR.out (by omega)).dig k hkl
      have hbl := (HR.out (by omega)).lt
      have hq : nodeT l 0 k = hLow l[k] := by simp [nodeT, List.getElem?_eq_getElem hkl]
      rw [hq]
      clear hq
      go_enter Tryz.func124, Tryz.ntmps124
      go_wp2_with fail
      refine (rlow_any l[k] (HO.out _ (List.getElem_mem hkl)) _).mono ?_
      rintro e w1 ⟨rfl, hx1⟩
      have hR1 := Blk.ext hR0 hx1
      have hh1 := Blk.has hR1
      have hm1 := Blk.melts hR1
      go_wp2_with fail
      refine ret_cell Tryz.results124 rfl rfl aggArr8 (by exact sizeArr8) (Blk.put_ hR1 _ _) ⟨rfl, ?_⟩
      exact Kept.putAt (hx0.trans hx1) _ _ _ (fun h => by omega)
    · have hq : nodeT l 0 k = hNone := by
        have := HN.out
        simp [nodeT, List.getElem?_eq_none (show l.length ≤ k by omega)]
      rw [hq]
      clear hq
      go_enter Tryz.func124, Tryz.ntmps124
      go_wp2_with fail
      refine (rlack_any _).mono ?_
      rintro e w1 ⟨rfl, hx1⟩
      have hR1 := Blk.ext hR0 hx1
      have hh1 := Blk.has hR1
      have hm1 := Blk.melts hR1
      go_wp2_with fail
      refine ret_cell Tryz.results124 rfl rfl aggArr8 (by exact sizeArr8) (Blk.put_ hR1 _ _) ⟨rfl, ?_⟩
      exact Kept.putAt (hx0.trans hx1) _ _ _ (fun h => by omega)
  | succ v ih =>
    intro k w hr hk hv
    have HR := Lib.hid hr
    have HI := Lib.hid ih
    clear hr ih
    have hp : 1 ≤ 2 ^ v := Nat.one_le_two_pow
    have hk2 : (2 * k + 1 + 1) * 2 ^ v ≤ 1048576 := by rw [Nat.pow_succ] at hk; rw [show 2 * k + 1 + 1 = (k + 1) * 2 by omega, Nat.mul_assoc, Nat.mul_comm 2]; exact hk
    have hk1 : (2 * k + 1) * 2 ^ v ≤ 1048576 := Nat.le_trans (Nat.mul_le_mul_right _ (by omega)) hk2
    have hk0 : 2 * k + 2 ≤ 1048576 := Nat.le_trans (Nat.le_mul_of_pos_right _ hp) hk2
    have HK1 := Lib.hid hk1
    have HK2 := Lib.hid hk2
    clear hk1 hk2 hk hp
    have hx0 : Ext w _ := (Kept.refl _ w).alloc (.cells Dg.zero.cells 23)
    have hR0 := Blk.new w 23 Dg.zero.cells
    go_enter Tryz.func124, Tryz.ntmps124
    go_wp2_with fail
    refine (HI.out (2 * k) _ (fun h => (HR.out h).ext hx0) HK1.out (by omega)).mono ?_
    rintro e w1 ⟨rfl, hx1⟩
    go_wp2_with fail
    refine (HI.out (2 * k + 1) _ (fun h => (HR.out h).ext (hx0.trans hx1)) HK2.out (by omega)).mono ?_
    rintro e w2 ⟨rfl, hx2⟩
    go_wp2_with fail
    refine (rtwo_any _ _ (nodeT_ok l v _) (nodeT_ok l v _) _).mono ?_
    rintro e w3 ⟨rfl, hx3⟩
    have hR3 := Blk.ext hR0 ((hx1.trans hx2).trans hx3)
    have hh3 := Blk.has hR3
    have hm3 := Blk.melts hR3
    go_wp2_with fail
    refine ret_cell Tryz.results124 rfl rfl aggArr8 (by exact sizeArr8) (Blk.put_ hR3 _ _) ⟨rfl, ?_⟩
    exact Kept.putAt (((hx0.trans hx1).trans hx2).trans hx3) _ _ _ (fun h => by omega)
theorem conv1 (w : World) (c : Int) : (convert 95 9 (.slice (some ⟨w.heap.size, 0, none⟩) 1 1)).run Tryz.prog (w.alloc (.cells #[.int .u8 c] 5)) = .ok (.string (strOfNums [c])) (w.alloc (.cells #[.int .u8 c] 5)) := by
  exact run_convert_bytes_arg (P := Tryz.prog) (w.alloc (.cells #[.int .u8 c] 5)) 95 5 Tryz.underlying95 Tryz.underlying5 w.heap.size 0 1 1 [c] rfl (fun i hi => by
    obtain rfl : i = 0 := by omega
    exact Blk.cell (Blk.new w _ _) 0) _ Tryz.underlying9
set_option maxRecDepth 100000 in
set_option maxHeartbeats 1000000 in
theorem rname_any (h : Nat) (hh : h ≤ 12) (w : World) : Calls Tryz.prog 125 #[.int .i64 h] w fun e w' => e = .returned (.string (rootS h)) ∧ Ext w w' := by
  have hcv := conv1
  rcases (by omega : h = 0 ∨ h = 1 ∨ h = 2 ∨ h = 3 ∨ h = 4 ∨ h = 5 ∨ h = 6 ∨ h = 7 ∨ h = 8 ∨ h = 9 ∨ h = 10 ∨ h = 11 ∨ h = 12) with rfl | rfl | rfl | rfl | rfl | rfl | rfl | rfl | rfl | rfl | rfl | rfl | rfl
  all_goals
    clear hh
    go_enter Tryz.func125, Tryz.ntmps125
    go_wp2
    go_ret
    refine ⟨by kernel_rfl, ?_⟩
    ((repeat' (with_reducible (first | apply Kept.drew | apply Kept.drewN | apply Kept.alloc | apply Kept.setCell | apply Kept.putAt | exact Kept.refl _ _))) <;> (intro hlt; first | rfl | (simp at hlt; done) | (exfalso; simp at hlt; omega) | omega))
end Go.Proofs.YtahljceanodhkaaGreatDoor
