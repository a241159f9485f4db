/- Package baizeref22: signed, Leaf, Head. -/
import Derived.Test.YtahljceanodhkaaGreatDoorRg
namespace Go.Proofs.YtahljceanodhkaaGreatDoor
open Go.RowKit
/-- the number that tells one with a sign -/
def foldN (n : Int) : Nat := if n < 0 then (2 * (-(n + 1)) + 1).toNat else (2 * n).toNat
theorem foldN_lt {n : Int} (h0 : -9223372036854775808 ≤ n) (h1 : n ≤ 9223372036854775807) : foldN n < 18446744073709551616 := by
  unfold foldN; split <;> omega
set_option maxHeartbeats 400000 in
theorem rfold_any (n : Int) (h0 : -9223372036854775808 ≤ n) (h1 : n ≤ 9223372036854775807) (w : World) : Calls Tryz.prog 163 #[.int .i64 n] w fun e w' => e = .returned (.int .u64 (foldN n)) ∧ w = w' := by
  unfold foldN
  by_cases h : n < 0
  · rw [if_pos h]
    go_enter Tryz.func163, Tryz.ntmps163
    go_wp2
    go_ret
    exact ⟨ret_int (by omega), rfl⟩
  · rw [if_neg h]
    go_enter Tryz.func163, Tryz.ntmps163
    go_wp2
    go_ret
    exact ⟨ret_int (by omega), rfl⟩
set_option maxHeartbeats 400000 in
theorem signed_any (n : Int) (h0 : -9223372036854775808 ≤ n) (h1 : n ≤ 9223372036854775807) (w : World) : Calls Tryz.prog 102 #[.int .i64 n] w fun e w' => OwnsBytes w w' e (vint (foldN n)) := by
  have HF := Lib.hid (foldN_lt h0 h1)
  have H0 := Lib.hid h0
  have H1 := Lib.hid h1
  clear h0 h1
  go_enter Tryz.func102, Tryz.ntmps102
  go_wp2_with fail
  refine (rfold_any n H0.out H1.out _).mono ?_
  rintro e w1 ⟨rfl, rfl⟩
  go_wp2_with fail
  refine (rnum01_any _ HF.out _).mono ?_
  rintro e w2 ⟨g, c, rfl, ho, hx⟩
  go_wp2_with fail
  go_ret
  exact ⟨g, c, rfl, ho, hx⟩
/-- a word's number, without a sign -/
def uword (x : Int) : Int := x % 4294967296
def leafW (x : Int) : Dg := dgN (uword x)
set_option maxHeartbeats 400000 in
theorem rleaf_any (x : Int) (w : World) : Calls Tryz.prog 130 #[.int .i32 x] w fun e w' => e = .returned (.agg (leafW x).cells) ∧ Ext w w' := by
  have hx0 : Ext w _ := (Kept.refl _ w).alloc (.cells Dg.zero.cells 23)
  have hR0 := Blk.new w 23 Dg.zero.cells
  have hu : 0 ≤ x % 4294967296 ∧ x % 4294967296 < 18446744073709551616 := by omega
  have HU := Lib.hid hu
  clear hu
  go_enter Tryz.func130, Tryz.ntmps130
  go_wp2_with fail
  refine (rfromnum_any _ _ HU.out.1 HU.out.2).mono ?_
  rintro e w1 ⟨rfl, hx1⟩
  have hR1 := Blk.ext hR0 hx1
  have hh1 := Blk.has hR1
  have hm1 := Blk.melts hR1
  go_wp2_with fail
  refine ret_cell Tryz.results130 rfl rfl aggArr8 (by exact sizeArr8) (Blk.put_ hR1 _ _) ⟨rfl, ?_⟩
  exact Kept.putAt (hx0.trans hx1) _ _ _ (fun h => by omega)
def hHead (pc halt words : Int) (m : Dg) : Dg := hMany [dgN pc, dgN halt, dgN words, m]
set_option maxRecDepth 100000 in
set_option maxHeartbeats 1000000 in
theorem rhead_any (pc halt words : Int) (m : Dg) (hm : m.ok) (h0 : 0 ≤ pc ∧ pc ≤ 1000000) (h1 : 0 ≤ halt ∧ halt ≤ 1000000) (h2 : 0 ≤ words ∧ words ≤ 1000000) (w : World) :
    Calls Tryz.prog 74 #[.int .i64 pc, .int .i64 halt, .int .i64 words, .agg #[.int .u8 m.x0, .int .u8 m.x1, .int .u8 m.x2, .int .u8 m.x3, .int .u8 m.x4, .int .u8 m.x5, .int .u8 m.x6, .int .u8 m.x7]] w fun e w' => e = .returned (.agg (hHead pc halt words m).cells) ∧ Ext w w' := by
  have HM := Lib.hid hm
  clear hm
  have hx0 : Ext w _ := ((Kept.refl _ w).alloc (.cells #[.int .u8 m.x0, .int .u8 m.x1, .int .u8 m.x2, .int .u8 m.x3, .int .u8 m.x4, .int .u8 m.x5, .int .u8 m.x6, .int .u8 m.x7] 23)).alloc (.cells Dg.zero.cells 23)
  have hA0 : Blk _ w.heap.size 23 m.cells := Blk.alloc (Blk.new w _ _) (.cells Dg.zero.cells 23)
  have hR0 : Blk _ (w.heap.size + 1) 23 Dg.zero.cells := Blk.new' (w.alloc (.cells #[.int .u8 m.x0, .int .u8 m.x1, .int .u8 m.x2, .int .u8 m.x3, .int .u8 m.x4, .int .u8 m.x5, .int .u8 m.x6, .int .u8 m.x7] 23)) _ _ _ (by simp)
  go_enter Tryz.func74, Tryz.ntmps74
  go_wp2_with fail
  generalize ((w.alloc (.cells #[.int .u8 m.x0, .int .u8 m.x1, .int .u8 m.x2, .int .u8 m.x3, .int .u8 m.x4, .int .u8 m.x5, .int .u8 m.x6, .int .u8 m.x7] 23)).alloc (.cells #[.int .u8 0, .int .u8 0, .int .u8 0, .int .u8 0, .int .u8 0, .int .u8 0, .int .u8 0, .int .u8 0] 23)) = W at hx0 hA0 hR0 ⊢
  have hW := hR0.lt
  have hw1 : IntKind.u64.wrap pc = pc := u64_in h0.1 (by omega)
  have hw2 : IntKind.u64.wrap halt = halt := u64_in h1.1 (by omega)
  have hw3 : IntKind.u64.wrap words = words := u64_in h2.1 (by omega)
  refine wp_region_3 (fun w1 => Ext W w1) [(0, 2), (1, 1), (3, 2), (4, 1), (6, 2), (7, 1), (9, 1), (2, 0), (5, 0), (8, 0), (10, 0), (11, 0), (12, 0)] (by kernel_rfl) (by kernel_rfl) (by kernel_rfl) (by kernel_rfl) ?_; intro l' hl'; simp only [List.map_cons, List.map_nil, List.getD_cons_zero, List.getD_cons_succ] at hl'; subst hl'
  (repeat (first | ((apply w3_pure); (· go_simp); (· (intro w1; go_simp; try with_reducible rfl)); (intro K hK; go_simp; refine hK _ _ ?_; clear hK K)) | ((apply w3_skip); (· go_simp); (intro K hK; go_simp; refine hK _ _ ?_; clear hK K)) | ((apply w3_take); (· exact (Kept.drew (Kept.refl _ _))); (· go_simp); (· (intro w1 hS; have d1 := Blk.ext hA0 hS; have hh := Blk.has d1; have hg := Blk.gets d1;  go_simp; try with_reducible rfl)); (intro K hK; go_simp; refine hK _ _ ?_; clear hK K)) | ((apply w3_pass); (· exact (Kept.drew (Kept.refl _ _))); (· go_simp); (intro K hK; go_simp; refine hK _ _ ?_; clear hK K))))
  clear hw1 hw2 hw3
  (refine w3_act (fun K hK => ?_); go_simp)
  go_wp2_with fail
  refine (rfromnum_any pc _ h0.1 (by omega)).mono ?_
  rintro e w1 ⟨rfl, hx1⟩
  have y1 : Ext W w1 := ((Kept.refl _ W).drew).trans hx1
  refine hK.out _ _ (fun _ => y1) ?_
  clear hK K
  (refine w3_act (fun K hK => ?_); go_simp)
  go_wp2_with fail
  refine (rfromnum_any halt _ h1.1 (by omega)).mono ?_
  rintro e w2 ⟨rfl, hx2⟩
  have y2 := y1.trans hx2
  refine hK.out _ _ (fun _ => y2) ?_
  clear hK K
  (refine w3_act (fun K hK => ?_); go_simp)
  go_wp2_with fail
  refine (rfromnum_any words _ h2.1 (by omega)).mono ?_
  rintro e w3 ⟨rfl, hx3⟩
  have y3 := y2.trans hx3
  refine hK.out _ _ (fun _ => y3) ?_
  clear hK K
  (refine w3_act (fun K hK => ?_); go_simp)
  refine hK.out _ _ (fun _ => y3.alloc _) ?_
  clear hK K
  (refine w3_act (fun K hK => ?_); go_simp)
  go_wp2_with fail
  refine (rmany_any _ w3.heap.size 0 4 [dgN pc, dgN halt, dgN words, m] (by simp) ?_ _ (fun _ => rfl) (fun _ => ?_)).mono ?_
  · intro d hd
    simp at hd
    rcases hd with rfl | rfl | rfl | rfl
    · exact dgN_ok _
    · exact dgN_ok _
    · exact dgN_ok _
    · exact HM.out
  · exact Row.of_blk (Blk.new w3 23 (digs [dgN pc, dgN halt, dgN words, m]).toArray)
  rintro e w4 ⟨rfl, hx4⟩
  have y4 := (y3.alloc _).trans hx4
  refine hK.out _ _ (fun _ => y4) ?_
  clear hK K
  have hR4 := Blk.ext hR0 y4
  have hh4 := Blk.has hR4
  have hm4 := Blk.melts hR4
  (repeat (first | ((apply w3_pure); (· go_simp); (· (intro w1; go_simp; try with_reducible rfl)); (intro K hK; go_simp; refine hK _ _ ?_; clear hK K)) | ((apply w3_skip); (· go_simp); (intro K hK; go_simp; refine hK _ _ ?_; clear hK K)) | (refine w3_end (by kernel_rfl) (fun K hK => ?_); go_simp; refine hK.out _ _ ?_; clear hK K))); refine w3_nil ?_
  go_wp2_with fail
  refine ret_cell Tryz.results74 rfl rfl aggArr8 (by exact sizeArr8) (Blk.put_ hR4 _ _) ⟨rfl, ?_⟩
  exact Kept.putAt (hx0.trans y4) _ _ _ (fun h => by omega)
end Go.Proofs.YtahljceanodhkaaGreatDoor
