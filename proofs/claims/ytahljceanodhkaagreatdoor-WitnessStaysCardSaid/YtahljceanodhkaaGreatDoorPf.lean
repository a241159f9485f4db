/- Package witness: head. -/
import Derived.Test.YtahljceanodhkaaGreatDoorPe
namespace Go.Proofs.YtahljceanodhkaaGreatDoor
open Go.RowKit
set_option maxRecDepth 100000 in
set_option maxHeartbeats 1000000 in
theorem head_any (pc halt words : Int) (m : Dg) (hm : m.ok) (h0 : 0 ≤ pc ∧ pc ≤ 1000000) (h1 : 0 ≤ halt ∧ halt ≤ 1000000) (h2 : 0 ≤ words ∧ words ≤ 1000000) (w : World) :
    Calls Tryz.prog 71 #[.int .i64 pc, .int .i64 halt, .int .i64 words, .agg #[.int .u8 m.x0, .int .u8 m.x1, .int .u8 m.x2, .int .u8 m.x3, .int .u8 m.x4, .int .u8 m.x5, .int .u8 m.x6, .int .u8 m.x7]] w fun e w' => e = .returned (.agg (hHead pc halt words m).cells) ∧ Ext w w' := by
  have HM := Lib.hid hm
  clear hm
  have hx0 : Ext w _ := ((Kept.refl _ w).alloc (.cells #[.int .u8 m.x0, .int .u8 m.x1, .int .u8 m.x2, .int .u8 m.x3, .int .u8 m.x4, .int .u8 m.x5, .int .u8 m.x6, .int .u8 m.x7] 30)).alloc (.cells Dg.zero.cells 30)
  have hA0 : Blk _ w.heap.size 30 m.cells := Blk.alloc (Blk.new w _ _) (.cells Dg.zero.cells 30)
  have hR0 : Blk _ (w.heap.size + 1) 30 Dg.zero.cells := Blk.new' (w.alloc (.cells #[.int .u8 m.x0, .int .u8 m.x1, .int .u8 m.x2, .int .u8 m.x3, .int .u8 m.x4, .int .u8 m.x5, .int .u8 m.x6, .int .u8 m.x7] 30)) _ _ _ (by simp)
  go_enter Tryz.func71, Tryz.ntmps71
  go_wp2_with fail
  generalize ((w.alloc (.cells #[.int .u8 m.x0, .int .u8 m.x1, .int .u8 m.x2, .int .u8 m.x3, .int .u8 m.x4, .int .u8 m.x5, .int .u8 m.x6, .int .u8 m.x7] 30)).alloc (.cells #[.int .u8 0, .int .u8 0, .int .u8 0, .int .u8 0, .int .u8 0, .int .u8 0, .int .u8 0, .int .u8 0] 30)) = W at hx0 hA0 hR0 ⊢
  have hW := hR0.lt
  have hw1 : IntKind.u64.wrap pc = pc := u64_in h0.1 (by omega)
  have hw2 : IntKind.u64.wrap halt = halt := u64_in h1.1 (by omega)
  have hw3 : IntKind.u64.wrap words = words := u64_in h2.1 (by omega)
  refine wp_region_3 (fun w1 => Ext W w1) [(0, 2), (1, 1), (3, 2), (4, 1), (6, 2), (7, 1), (9, 1), (2, 0), (5, 0), (8, 0), (10, 0), (11, 0), (12, 0)] (by kernel_rfl) (by kernel_rfl) (by kernel_rfl) (by kernel_rfl) ?_; intro l' hl'; simp only [List.map_cons, List.map_nil, List.getD_cons_zero, List.getD_cons_succ] at hl'; subst hl'
  (repeat (first | ((apply w3_pure); (· go_simp); (· (intro w1; go_simp; try with_reducible rfl)); (intro K hK; go_simp; refine hK _ _ ?_; clear hK K)) | ((apply w3_skip); (· go_simp); (intro K hK; go_simp; refine hK _ _ ?_; clear hK K)) | ((apply w3_take); (· exact (Kept.drew (Kept.refl _ _))); (· go_simp); (· (intro w1 hS; have d1 := Blk.ext hA0 hS; have hh := Blk.has d1; have hg := Blk.gets d1;  go_simp; try with_reducible rfl)); (intro K hK; go_simp; refine hK _ _ ?_; clear hK K)) | ((apply w3_pass); (· exact (Kept.drew (Kept.refl _ _))); (· go_simp); (intro K hK; go_simp; refine hK _ _ ?_; clear hK K))))
  clear hw1 hw2 hw3
  (refine w3_act (fun K hK => ?_); go_simp)
  go_wp2_with fail
  refine (fromnum_any pc _ h0.1).mono ?_
  rintro e w1 ⟨rfl, hx1⟩
  have y1 : Ext W w1 := ((Kept.refl _ W).drew).trans hx1
  refine hK.out _ _ (fun _ => y1) ?_
  clear hK K
  (refine w3_act (fun K hK => ?_); go_simp)
  go_wp2_with fail
  refine (fromnum_any halt _ h1.1).mono ?_
  rintro e w2 ⟨rfl, hx2⟩
  have y2 := y1.trans hx2
  refine hK.out _ _ (fun _ => y2) ?_
  clear hK K
  (refine w3_act (fun K hK => ?_); go_simp)
  go_wp2_with fail
  refine (fromnum_any words _ h2.1).mono ?_
  rintro e w3 ⟨rfl, hx3⟩
  have y3 := y2.trans hx3
  refine hK.out _ _ (fun _ => y3) ?_
  clear hK K
  (refine w3_act (fun K hK => ?_); go_simp)
  refine hK.out _ _ (fun _ => y3.alloc _) ?_
  clear hK K
  (refine w3_act (fun K hK => ?_); go_simp)
  go_wp2_with fail
  refine (many_any _ w3.heap.size 0 4 [dgN pc, dgN halt, dgN words, m] (by simp) ?_ _ (fun _ => rfl) (fun _ => ?_)).mono ?_
  · intro d hd
    simp at hd
    rcases hd with rfl | rfl | rfl | rfl
    · exact dgN_ok _
    · exact dgN_ok _
    · exact dgN_ok _
    · exact HM.out
  · exact Row.of_blk (Blk.new w3 30 (digs [dgN pc, dgN halt, dgN words, m]).toArray)
  rintro e w4 ⟨rfl, hx4⟩
  have y4 := (y3.alloc _).trans hx4
  refine hK.out _ _ (fun _ => y4) ?_
  clear hK K
  have hR4 := Blk.ext hR0 y4
  have hh4 := Blk.has hR4
  have hm4 := Blk.melts hR4
  (repeat (first | ((apply w3_pure); (· go_simp); (· (intro w1; go_simp; try with_reducible rfl)); (intro K hK; go_simp; refine hK _ _ ?_; clear hK K)) | ((apply w3_skip); (· go_simp); (intro K hK; go_simp; refine hK _ _ ?_; clear hK K)) | (refine w3_end (by kernel_rfl) (fun K hK => ?_); go_simp; refine hK.out _ _ ?_; clear hK K))); refine w3_nil ?_
  go_wp2_with fail
  refine ret_cell Tryz.results71 rfl rfl aggDig (by exact sizeDig) (Blk.put_ hR4 _ _) ⟨rfl, ?_⟩
  exact Kept.putAt (hx0.trans y4) _ _ _ (fun h => by omega)
end Go.Proofs.YtahljceanodhkaaGreatDoor
