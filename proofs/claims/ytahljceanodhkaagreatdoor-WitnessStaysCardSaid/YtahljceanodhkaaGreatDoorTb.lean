/- Package tree: top, Height. -/
import Derived.Test.YtahljceanodhkaaGreatDoorTa
import Derived.Test.YtahljceanodhkaaGreatDoorShelf
namespace Go.Proofs.YtahljceanodhkaaGreatDoor
open Go.RowKit
def rootS (h : Nat) : ByteArray := ⟨#[114, 111, 111, 116]⟩ ++ digS h
def rootB (h : Nat) : List Int := strB (rootS h)
def hTop (d : Dg) (h : Nat) : Dg := hWord d (rootB h)
theorem digS_size (h : Nat) : (digS h).size ≤ 2 := by
  unfold digS
  split
  · exact Nat.le_succ 1
  · exact Nat.le_refl 2
theorem rootS_size (h : Nat) : (rootS h).size ≤ maxLen := by
  have := digS_size h
  have e : (⟨#[114, 111, 111, 116]⟩ : ByteArray).size = 4 := rfl
  unfold rootS maxLen
  rw [ByteArray.size_append, e]
  omega
set_option maxRecDepth 100000 in
set_option maxHeartbeats 1000000 in
theorem top_any (d : Dg) (hd : d.ok) (h : Nat) (hh : h ≤ 12) (w : World) : Calls Tryz.prog 122 #[.agg #[.int .u8 d.x0, .int .u8 d.x1, .int .u8 d.x2, .int .u8 d.x3, .int .u8 d.x4, .int .u8 d.x5, .int .u8 d.x6, .int .u8 d.x7], .int .i64 h] w fun e w' => e = .returned (.agg (hTop d h).cells) ∧ Ext w w' := by
  have HD := Lib.hid hd
  clear hd
  have hx0 : Ext w _ := ((Kept.refl _ w).alloc (.cells #[.int .u8 d.x0, .int .u8 d.x1, .int .u8 d.x2, .int .u8 d.x3, .int .u8 d.x4, .int .u8 d.x5, .int .u8 d.x6, .int .u8 d.x7] 30)).alloc (.cells Dg.zero.cells 30)
  have hA0 : Blk _ w.heap.size 30 d.cells := Blk.alloc (Blk.new w _ _) (.cells Dg.zero.cells 30)
  have hR0 : Blk _ (w.heap.size + 1) 30 Dg.zero.cells := Blk.new' (w.alloc (.cells #[.int .u8 d.x0, .int .u8 d.x1, .int .u8 d.x2, .int .u8 d.x3, .int .u8 d.x4, .int .u8 d.x5, .int .u8 d.x6, .int .u8 d.x7] 30)) _ _ _ (by simp)
  go_enter Tryz.func122, Tryz.ntmps122
  go_wp2_with fail
  refine wp_region_3 (fun w1 => Ext ((w.alloc (.cells #[.int .u8 d.x0, .int .u8 d.x1, .int .u8 d.x2, .int .u8 d.x3, .int .u8 d.x4, .int .u8 d.x5, .int .u8 d.x6, .int .u8 d.x7] 30)).alloc (.cells Dg.zero.cells 30)) w1) [(0, 1), (1, 2), (2, 0), (3, 2), (4, 0), (5, 0)] (by kernel_rfl) (by kernel_rfl) (by kernel_rfl) (by kernel_rfl) ?_; intro l' hl'; simp only [List.map_cons, List.map_nil, List.getD_cons_zero, List.getD_cons_succ] at hl'; subst hl'
  (repeat (first | ((apply w3_pure); (· go_simp); (· (intro w1; go_simp; try with_reducible rfl)); (intro K hK; go_simp; refine hK _ _ ?_; clear hK K)) | ((apply w3_skip); (· go_simp); (intro K hK; go_simp; refine hK _ _ ?_; clear hK K)) | ((apply w3_take); (· exact (Kept.drew (Kept.refl _ _))); (· go_simp); (· (intro w1 hS; have d1 := Blk.ext hA0 hS; have hh := Blk.has d1; have hg := Blk.gets d1;  go_simp; try with_reducible rfl)); (intro K hK; go_simp; refine hK _ _ ?_; clear hK K)) | ((apply w3_pass); (· exact (Kept.drew (Kept.refl _ _))); (· go_simp); (intro K hK; go_simp; refine hK _ _ ?_; clear hK K))))
  (refine w3_act (fun K hK => ?_); go_simp)
  go_wp2_with fail
  refine (itoa_k h hh _).mono ?_
  rintro e w1 ⟨rfl, rfl⟩
  refine hK.out _ _ (fun h => h) ?_
  clear hK K
  have hsum : (⟨#[114, 111, 111, 116]⟩ : ByteArray).size + (digS h).size ≤ 9223372036854775807 := by
    have := digS_size h
    have e : (⟨#[114, 111, 111, 116]⟩ : ByteArray).size = 4 := rfl
    omega
  have hadd := fun w => run_string_add_sum (P := Tryz.prog) w ⟨#[114, 111, 111, 116]⟩ (digS h) hsum
  clear hsum
  (repeat (first | ((apply w3_pure); (· go_simp); (· (intro w1; go_simp; try with_reducible rfl)); (intro K hK; go_simp; refine hK _ _ ?_; clear hK K)) | ((apply w3_skip); (· go_simp); (intro K hK; go_simp; refine hK _ _ ?_; clear hK K))))
  clear hadd
  (refine w3_act (fun K hK => ?_); go_simp)
  go_wp2_with fail
  refine (word_any d HD.out (rootS h) (rootS_size h) _).mono ?_
  rintro e w2 ⟨rfl, hx2⟩
  have hx2' : Ext ((w.alloc (.cells #[.int .u8 d.x0, .int .u8 d.x1, .int .u8 d.x2, .int .u8 d.x3, .int .u8 d.x4, .int .u8 d.x5, .int .u8 d.x6, .int .u8 d.x7] 30)).alloc (.cells Dg.zero.cells 30)) w2 := ((Kept.refl _ _).drew).trans hx2
  refine hK.out _ _ (fun _ => hx2') ?_
  clear hK K
  have hR1 := Blk.ext hR0 hx2'
  have hh1 := Blk.has hR1
  have hm1 := Blk.melts hR1
  (repeat (first | ((apply w3_pure); (· go_simp); (· (intro w1; go_simp; try with_reducible rfl)); (intro K hK; go_simp; refine hK _ _ ?_; clear hK K)) | ((apply w3_skip); (· go_simp); (intro K hK; go_simp; refine hK _ _ ?_; clear hK K)) | (refine w3_end (by kernel_rfl) (fun K hK => ?_); go_simp; refine hK.out _ _ ?_; clear hK K))); refine w3_nil ?_
  go_wp2_with fail
  refine ret_cell Tryz.results122 rfl rfl aggDig (by exact sizeDig) (Blk.put_ hR1 _ _) ⟨rfl, ?_⟩
  exact Kept.putAt (hx0.trans hx2') _ _ _ (fun h => by omega)
/-- how many levels are above so many leaves -/
def hgt (n : Nat) : Nat := Go.Lib.bitLen (n - 1)
set_option maxRecDepth 100000 in
set_option maxHeartbeats 1000000 in
theorem height_ok (n : Nat) (h1 : 1 ≤ n) (h2 : n ≤ 4096) (w : World) : Calls Tryz.prog 81 #[.int .i64 n] w fun e w' => e = .returned (.int .i64 (hgt n)) ∧ w = w' := by
  go_enter Tryz.func81, Tryz.ntmps81
  go_wp2_with fail
  refine (Tryz.bits_Len _ _ (by omega) (by omega)).mono ?_
  rintro e w1 ⟨rfl, rfl⟩
  go_wp2_with fail
  go_ret
  refine ⟨ret_int ?_, rfl⟩
  unfold hgt
  congr 2
theorem height_no (n : Int) (h : n < 1 ∨ 4096 < n) (w : World) : Calls Tryz.prog 81 #[.int .i64 n] w fun e w' => e = .returned (.int .i64 (-1)) ∧ w = w' := by
  by_cases h1 : n < 1
  · go_enter Tryz.func81, Tryz.ntmps81
    go_wp2_with fail
    go_ret
    exact ⟨rfl, rfl⟩
  · have h2 : 4096 < n := by omega
    clear h
    go_enter Tryz.func81, Tryz.ntmps81
    go_wp2_with fail
    go_ret
    exact ⟨rfl, rfl⟩
end Go.Proofs.YtahljceanodhkaaGreatDoor
