/- Package baizeref02: Word, by what Bytes answers. -/
import Derived.Test.YtahljceanodhkaaGreatDoorRb
import Derived.Test.YtahljceanodhkaaGreatDoorOrdq
namespace Go.Proofs.YtahljceanodhkaaGreatDoor
open Go.RowKit
theorem conv_step {W wc : World} (y : Ext W wc) (e : TypeId) (s : ByteArray) (h : s.size ≤ maxLen) : Ext W (Lib.bytesWorld wc e s) ∧ SlB (Lib.bytesWorld wc e s) (some ⟨wc.heap.size, 0, none⟩) s.size (grownCap wc s.size 0 e) (strB s) :=
  ⟨y.trans (bytesWorld_ext _ _ _), bytesWorld_sl _ _ _ h⟩
def RBytesIs : Prop := ∀ (s : St) (A : Option Addr) (cap : Nat) (l : List Int) (n : Nat) (w : World), SlB w A n cap l → 0 < n → n ≤ 1000 →
    Calls Tryz.prog 177 #[.agg s.cells, .slice A n cap] w fun e w' => e = .returned (.agg (bytesS s l).cells) ∧ Ext w w'
set_option maxRecDepth 100000 in
set_option maxHeartbeats 1000000 in
theorem rword_any (hB : RBytesIs) (d : Dg) (hd : d.ok) (s : ByteArray) (hs0 : 0 < s.size) (hsz : s.size ≤ 1000) (w : World) :
    Calls Tryz.prog 123 #[.agg #[.int .u8 d.x0, .int .u8 d.x1, .int .u8 d.x2, .int .u8 d.x3, .int .u8 d.x4, .int .u8 d.x5, .int .u8 d.x6, .int .u8 d.x7], .string s] w fun e w' => e = .returned (.agg (hWord d (strB s)).cells) ∧ Ext w w' := by
  have HD := Lib.hid hd
  have HZ := Lib.hid hsz
  have HBY := Lib.hid hB
  have HZ0 := Lib.hid hs0
  clear hd hsz hB hs0
  have hx0 : Ext w _ := ((Kept.refl _ w).alloc (.cells #[.int .u8 d.x0, .int .u8 d.x1, .int .u8 d.x2, .int .u8 d.x3, .int .u8 d.x4, .int .u8 d.x5, .int .u8 d.x6, .int .u8 d.x7] 23)).alloc (.cells Dg.zero.cells 23)
  have hA0 : Blk _ w.heap.size 23 d.cells := Blk.alloc (Blk.new w _ _) (.cells Dg.zero.cells 23)
  have hR0 : Blk _ (w.heap.size + 1) 23 Dg.zero.cells := Blk.new' (w.alloc (.cells #[.int .u8 d.x0, .int .u8 d.x1, .int .u8 d.x2, .int .u8 d.x3, .int .u8 d.x4, .int .u8 d.x5, .int .u8 d.x6, .int .u8 d.x7] 23)) _ _ _ (by simp)
  have hcv := fun w => convStr w s
  go_enter Tryz.func123, Tryz.ntmps123
  go_wp2_with fail
  generalize ((w.alloc (.cells #[.int .u8 d.x0, .int .u8 d.x1, .int .u8 d.x2, .int .u8 d.x3, .int .u8 d.x4, .int .u8 d.x5, .int .u8 d.x6, .int .u8 d.x7] 23)).alloc (.cells #[.int .u8 0, .int .u8 0, .int .u8 0, .int .u8 0, .int .u8 0, .int .u8 0, .int .u8 0, .int .u8 0] 23)) = W at hx0 hA0 hR0 ⊢
  refine wp_region_4 (fun w1 => Ext W w1) (.op 1 1 (.op 4 2 (.fork 0 (.fork 2 (.fork 3 (.op 5 0 (.op 6 0 (.op 7 0 (.op 8 0 .nil)))) 5 (.op 3 0 (.op 6 0 (.op 7 0 (.op 8 0 .nil))))) 5 (.op 2 0 (.op 3 0 (.op 6 0 (.op 7 0 (.op 8 0 .nil)))))) 5 (.op 0 0 (.op 2 0 (.op 3 0 (.op 6 0 (.op 7 0 (.op 8 0 .nil))))))))) (by kernel_rfl) (by kernel_rfl) (by kernel_rfl) (by kernel_rfl) ?_; intro p' hp'; simp only [Pl0.fill, List.getD_cons_zero, List.getD_cons_succ] at hp'; subst hp'
  (repeat (first | ((apply w4_pure); (· go_simp); (· (intro w1; go_simp; try with_reducible rfl)); (intro K hK; go_simp; refine hK _ _ ?_; clear hK K)) | ((apply w4_skip); (· go_simp); (intro K hK; go_simp; refine hK _ _ ?_; clear hK K)) | ((apply w4_take); (· exact (Kept.drew (Kept.refl _ _))); (· go_simp); (· (intro w1 hS; have d1 := Blk.ext hA0 hS; have hh := Blk.has d1; have hg := Blk.gets d1;  go_simp; try with_reducible rfl)); (intro K hK; go_simp; refine hK _ _ ?_; clear hK K)) | ((apply w4_pass); (· exact (Kept.drew (Kept.refl _ _))); (· go_simp); (intro K hK; go_simp; refine hK _ _ ?_; clear hK K))))
  have y : Ext W W.drew := (Kept.refl _ W).drew
  have HZ2 := Lib.hid (show s.size ≤ maxLen by have := HZ.out; unfold maxLen; omega)
  repeat' (first | (refine w4_fork ?_ ?_) | (refine w4_act (fun K hK => ?_); go_simp; go_wp2_with fail; (refine (rbegin_any 4 _).mono ?_); (rintro e wn ⟨rfl, hxn⟩); (replace y := y.trans hxn); (try replace sl := sl.ext hxn); refine hK.out _ _ (fun _ => y) ?_; clear hK K hxn) | (refine w4_act (fun K hK => ?_); go_simp; go_wp2_with fail; (refine (rnum_any d HD.out _).mono ?_); (rintro e wn ⟨rfl, hxn⟩); (replace y := y.trans hxn); (try replace sl := sl.ext hxn); refine hK.out _ _ (fun _ => y) ?_; clear hK K hxn) | (refine w4_act (fun K hK => ?_); go_simp; go_wp2_with fail; (refine (rin_any (bg 4) _ _).mono ?_); (rintro e wn ⟨rfl, hxn⟩); (replace y := y.trans hxn); (try replace sl := sl.ext hxn); refine hK.out _ _ (fun _ => y) ?_; clear hK K hxn) | (refine w4_act (fun K hK => ?_); go_simp; go_wp2_with fail; (refine (HBY.out _ _ _ _ _ _ sl HZ0.out HZ.out).mono ?_); (rintro e wn ⟨rfl, hxn⟩); (replace y := y.trans hxn); (try replace sl := sl.ext hxn); refine hK.out _ _ (fun _ => y) ?_; clear hK K hxn) | (refine w4_act (fun K hK => ?_); go_simp; go_wp2_with fail; (refine (rout_any _ _).mono ?_); (rintro e wn ⟨rfl, hxn⟩); (replace y := y.trans hxn); (try replace sl := sl.ext hxn); refine hK.out _ _ (fun _ => y) ?_; clear hK K hxn) | (refine w4_act (fun K hK => ?_); go_simp; (obtain ⟨y, sl⟩ := conv_step y 5 s HZ2.out); refine hK.out _ _ (fun _ => y) ?_; clear hK K))
  all_goals
    have hR6 := Blk.ext hR0 y
    have hh6 := Blk.has hR6
    have hm6 := Blk.melts hR6
    (repeat (first | ((apply w4_pure); (· go_simp); (· (intro w1; go_simp; try with_reducible rfl)); (intro K hK; go_simp; refine hK _ _ ?_; clear hK K)) | ((apply w4_skip); (· go_simp); (intro K hK; go_simp; refine hK _ _ ?_; clear hK K)) | (refine w4_end (by kernel_rfl) (fun K hK => ?_); go_simp; refine hK.out _ _ ?_; clear hK K))); refine w4_nil ?_
    go_wp2_with fail
    refine ret_cell Tryz.results123 rfl rfl aggArr8 (by exact sizeArr8) (Blk.put_ hR6 _ _) ⟨rfl, ?_⟩
    exact Kept.putAt (hx0.trans y) _ _ _ (fun h => by omega)
end Go.Proofs.YtahljceanodhkaaGreatDoor
