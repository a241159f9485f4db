/- The law HalveClone of layer 23: its walk, for whatever came in. -/
import Derived.Test.YtahljceanodhkaaGreatDoorClo
import Derived.Test.YtahljceanodhkaaGreatDoorHalvs
namespace Go.Proofs.YtahljceanodhkaaGreatDoor
open Go.RowKit Go.ChangeShapes Go.WideShapes
theorem guardRt : Tryz.prog.eqGuardType Tryz.prog.depth 49 = false := by kernel_rfl
theorem stoodRt : Tryz.prog.stoodInHeld 49 = false := by kernel_rfl
theorem eqArr8 (w : World) (d : Nat) (a0 a1 a2 a3 a4 a5 a6 a7 b0 b1 b2 b3 b4 b5 b6 b7 : Int) :
    (Op.equalIn (d + 2) 23 (.agg #[.int .u8 a0, .int .u8 a1, .int .u8 a2, .int .u8 a3, .int .u8 a4, .int .u8 a5, .int .u8 a6, .int .u8 a7]) (.agg #[.int .u8 b0, .int .u8 b1, .int .u8 b2, .int .u8 b3, .int .u8 b4, .int .u8 b5, .int .u8 b6, .int .u8 b7])).run Tryz.prog w =
      .ok ([a0, a1, a2, a3, a4, a5, a6, a7] == [b0, b1, b2, b3, b4, b5, b6, b7]) w :=
  run_equalIn_ints w d _ 5 8 .u8 Tryz.underlying23 Tryz.underlying5 (fun w => sizeOf_run (by kernel_rfl) w) [a0, a1, a2, a3, a4, a5, a6, a7] [b0, b1, b2, b3, b4, b5, b6, b7] rfl rfl
attribute [go_sem] guardRt stoodRt eqArr8
/-- what Same answers of the trial and its clone behind one more deed, and what '==' answers of the document's two: one and the same -/
def SameIs (b o : Nat) (p : Dg) (sz : Int) (r r' : Rt) (s : Bool) : Prop :=
  (∀ w, At w b (r.tr p sz) → At w o (r'.tr p sz) → Calls Tryz.prog 22 #[.pointer (some ⟨b, 0, none⟩), .pointer (some ⟨o, 0, none⟩)] w fun e w' => e = .returned (.bool s) ∧ Ext w w') ∧
  (∀ w, (Op.equalIn 10000 49 (.agg r'.cells) (.agg r.cells)).run Tryz.prog w = .ok s w)
theorem sameIs {r r' : Rt} (h : Chg r r') (b o : Nat) (p : Dg) (sz : Int) : ∃ s, SameIs b o p sz r r' s := by
  rcases h with rfl | ⟨d, rfl, h1, h2, h3⟩ | ⟨v, rfl, h1, h2, h3⟩ | ⟨h1, h2⟩ | h1
  · exact ⟨true, fun w hb ho => same_yes b o _ w hb ho, fun w => by go_simp⟩
  · refine ⟨false, fun w hb ho => same_turn b o _ _ _ d w hb ho (by dsimp only; rw [h2, h3]; rfl), fun w => by go_simp⟩
  · refine ⟨false, fun w hb ho => same_turn b o _ _ _ r.mid w hb ho (by dsimp only; rw [h2]; simpa using h3), fun w => ?_⟩
    have h1' : (v == r.won) = false := by simp; omega
    go_simp
  · refine ⟨false, fun w hb ho => same_steps b o _ _ w hb ho h1.symm (fun e => h2 e.symm), fun w => by go_simp⟩
  · refine ⟨false, fun w hb ho => same_from b o _ _ w hb ho (fun e => h1 e.symm), fun w => by go_simp⟩
set_option maxRecDepth 100000 in
set_option maxHeartbeats 4000000 in
theorem clo_walk (d : Int) (hd0 : 0 ≤ d) (hd1 : d ≤ 255) (A : Option Addr) (b off len cap : Nat) (what : Nat → Int) (dg : Nat → Dg) (first : Nat → Bool) (last : Nat → Value) (wh : Int) (x : Dg) (f : Bool) (v : Value) (w : World) (hA : 0 < len → A = some ⟨b, off, none⟩) (hD : Deeds11 w b off len what dg first last) (hl : len ≤ 40) (hwh0 : 0 ≤ wh) (hwh1 : wh ≤ 255) :
    Calls Tryz.prog 4 #[.int .u8 d, .slice A len cap, .agg (deedCells wh x f v)] w fun e w' => e = .returned (.bool true) ∧ Ext w w' := by
  have HD := Lib.hid hD
  clear hD
  have HA := Lib.hid hA
  clear hA
  go_enter Tryz.func4, Tryz.ntmps4
  go_wp2_with fail
  have b0 := Blk.new w 25 (deedCells wh x f v)
  have hx0 : Ext w _ := (Kept.refl _ w).alloc (.cells (deedCells wh x f v) 25)
  refine (new_ok (dg1 1) (dg1 2) (dg1 3) 7 _ ?_ ?_ (by decide) (by decide) _).mono ?_
  · omega
  · omega
  rintro e w1 ⟨g, hg, rfl, hA1, hx1⟩
  go_wp2_with fail
  refine (rnew_ok (dg1 2) (dg1 3) 7 _ ?_ ?_ (by decide) (by decide) _).mono ?_
  · omega
  · omega
  rintro e w2 ⟨rfl, hx2⟩
  have hc2 := Blk.new w2 49 (Rt.cells ⟨0, 2 ^ (d % 21).toNat, dg1 2, dg1 3, false, Dg.zero, -1⟩)
  have hA2 := Blk.alloc (Blk.ext hA1 hx2) (.cells (Rt.cells ⟨0, 2 ^ (d % 21).toNat, dg1 2, dg1 3, false, Dg.zero, -1⟩) 49)
  have hx20 := (hx1.trans hx2).alloc (.cells (Rt.cells ⟨0, 2 ^ (d % 21).toNat, dg1 2, dg1 3, false, Dg.zero, -1⟩) 49)
  have hg2 : g < w2.heap.size := Blk.lt (Blk.ext hA1 hx2)
  have hgc : ¬ g = w2.heap.size := by omega
  have hcw : w.heap.size + 1 ≤ w2.heap.size := by have h1 := hx1.size; have h2 := hx2.size; simp only [World.size_alloc] at h1; omega
  go_wp2_with fail
  have HB := Lib.hid b0
  have HX := Lib.hid hx0
  clear b0 hx0 hA1 hx1
  go_loopw [11] (fun i wr => ∃ (k : Nat) (r : Rt) (m : Int), k ≤ len ∧ i = .int .i64 k ∧ EInv (d % 21).toNat (r.tr (dg1 1) 7) m ∧ At wr g (r.tr (dg1 1) 7) ∧ Blk wr w2.heap.size 49 r.cells ∧ Ext (w.alloc (.cells (deedCells wh x f v) 25)) wr) (fun i _ => len - (intOf i).toNat)
  case atStart => exact ⟨0, ⟨0, 2 ^ (d % 21).toNat, dg1 2, dg1 3, false, Dg.zero, -1⟩, 0, Nat.zero_le _, rfl, EInv.start _ _ _ _ _ _, At.of hA2 (by rfl), hc2, hx20⟩
  case round =>
    obtain ⟨k, r, m, hk, rfl, hE, hAt, hCt, hx⟩ := hrel
    clear hA2 hc2 hx20 hx2
    have HE := Lib.hid hE
    clear hE
    have hno : ∀ i, i < (w.alloc (.cells (deedCells wh x f v) 25)).heap.size → (i = g ∨ i = w2.heap.size) → False := fun i hi he => by simp at hi hg; omega
    have HN := Lib.hid hno
    clear hno
    by_cases hlt : k < len
    · have hwr := HD.out.whatR k hlt
      obtain rfl := HA.out (by omega)
      have hD2 := HD.out.keep (HX.out.trans hx)
      have hhas := hD2.has_ k hlt
      have hget := hD2.get_ k hlt
      clear hD2
      go_wp2_with fail
      refine (do_any (by omega) g w2.heap.size hgc r (dg1 1) (dg1 1) 7 7 (what k) (dg k) (first k) (last k) _ hAt hCt hwr.1 hwr.2 HE.out (by decide) (by decide) (by decide) (by decide)).mono ?_
      rintro e w3 ⟨r', m', rfl, hA3, hC3, hx3, hE3, _⟩
      have HE3 := Lib.hid hE3
      clear hE3
      go_wp2_with fail
      go_roundw
      case rel => exact ⟨k + 1, _, _, by omega, by go_num, HE3.out, hA3, hC3, hx.trans' hx3 HN.out⟩
      case measure => (simp only [intOf]; omega)
    · go_wp2_with fail
      refine (clone_any g _ _ hAt).mono ?_
      rintro e w3 ⟨o, ho, rfl, hO3, hx3⟩
      have hA3 := Blk.ext hAt hx3
      have hC3 := Blk.ext hCt hx3
      go_wp2_with fail
      refine (same_yes o g _ _ hO3 hA3).mono ?_
      rintro e w4 ⟨rfl, hx4⟩
      go_wp2_with fail
      refine (same_yes g o _ _ (Blk.ext hA3 hx4) (Blk.ext hO3 hx4)).mono ?_
      rintro e w5 ⟨rfl, hx5⟩
      have hx50 := ((hx.trans hx3).trans hx4).trans hx5
      have hA5 := Blk.ext (Blk.ext hA3 hx4) hx5
      have hO5 := Blk.ext (Blk.ext hO3 hx4) hx5
      have hC5 := Blk.ext (Blk.ext hC3 hx4) hx5
      have b5 := Blk.ext HB.out hx50
      have hh5 := Blk.has hC5
      have hg5 := Blk.gets hC5
      have hh5b := Blk.has b5
      have hg5b := Blk.gets b5
      have hl5 := Blk.lt b5
      have hl5b := Blk.lt hO5
      have hl5c := Blk.lt hA5
      have hl5d := Blk.lt hC5
      have hog : ¬ o = g := fun e => by have := Blk.lt hAt; omega
      have hoc : ¬ o = w2.heap.size := fun e => by have := Blk.lt hCt; omega
      go_wp2_with fail
      refine (do_any (by omega) o w5.heap.size (by omega) r (dg1 1) (dg1 1) 7 7 wh x f v _ (Blk.alloc hO5 _) (Blk.new _ _ _) hwh0 hwh1 HE.out (by decide) (by decide) (by decide) (by decide)).mono ?_
      rintro e w6 ⟨r', m', rfl, hO6, hV6, hx6, _, hch⟩
      have hA6 := Blk.kept (Blk.alloc hA5 _) hx6 (by omega)
      have hC6 := Blk.kept (Blk.alloc hC5 _) hx6 (by omega)
      obtain ⟨s, hs1, hs2⟩ := sameIs hch g o (dg1 1) 7
      have HS := Lib.hid hs1
      clear hs1
      have hx60 := (hx50.alloc _).trans' hx6 (fun i hi he => by have hz := hx.size; have hz5 := hx50.size; simp only [World.size_alloc] at hi hz hz5; omega)
      go_wp2_with fail
      refine wp_region_3 (fun w1 => Ext w6 w1) [(0, 2), (1, 1), (2, 0), (3, 2), (4, 2), (5, 2), (7, 1), (8, 1), (9, 2), (6, 0), (10, 2), (11, 2), (12, 2), (13, 0), (14, 2), (15, 2)] (by kernel_rfl) (by kernel_rfl) (by kernel_rfl) (by kernel_rfl) ?_; intro l' hl'; simp only [List.map_cons, List.map_nil, List.getD_cons_zero, List.getD_cons_succ] at hl'; subst hl'
      (repeat (first | ((apply w3_pure); (· go_simp); (· (intro w1; go_simp; try with_reducible rfl)); (intro K hK; go_simp; refine hK _ _ ?_; clear hK K)) | ((apply w3_skip); (· go_simp); (intro K hK; go_simp; refine hK _ _ ?_; clear hK K)) | ((apply w3_take); (· exact (Kept.drew (Kept.refl _ _))); (· go_simp); (· (intro w1 hS; have d0 := Blk.ext hC6 hS; have hh := Blk.has d0; have hg := Blk.gets d0;  go_simp; try with_reducible rfl)); (intro K hK; go_simp; refine hK _ _ ?_; clear hK K)) | ((apply w3_pass); (· exact (Kept.drew (Kept.refl _ _))); (· go_simp); (intro K hK; go_simp; refine hK _ _ ?_; clear hK K))))
      (refine w3_act (fun K hK => ?_); go_simp)
      go_wp2_with fail
      refine (same23_any g r (dg1 1) 7 _ (Blk.drew hA6) HE.out.won).mono ?_
      rintro e w7 ⟨rfl, hx7⟩
      have hx7' : Ext w6 w7 := ((Kept.refl _ w6).drew).trans hx7
      refine hK.out _ _ (fun _ => hx7') ?_
      clear hK K
      (repeat (first | ((apply w3_pure); (· go_simp); (· (intro w1; go_simp; try with_reducible rfl)); (intro K hK; go_simp; refine hK _ _ ?_; clear hK K)) | ((apply w3_skip); (· go_simp); (intro K hK; go_simp; refine hK _ _ ?_; clear hK K)) | ((apply w3_take); (· exact hx7'); (· go_simp); (· (intro w1 hS; have d0 := Blk.ext hC6 hS; have hh := Blk.has d0; have hg := Blk.gets d0; have d1 := Blk.ext hV6 hS; have hh1 := Blk.has d1; have hg1 := Blk.gets d1;  go_simp; try with_reducible rfl)); (intro K hK; go_simp; refine hK _ _ ?_; clear hK K)) | ((apply w3_pass); (· exact hx7'); (· go_simp); (intro K hK; go_simp; refine hK _ _ ?_; clear hK K))))
      (refine w3_act (fun K hK => ?_); go_simp)
      go_wp2_with fail
      refine (HS.out _ (Blk.ext hA6 hx7') (Blk.ext hO6 hx7')).mono ?_
      rintro e w8 ⟨rfl, hx8⟩
      have hx8' : Ext w6 w8 := hx7'.trans hx8
      refine hK.out _ _ (fun _ => hx8') ?_
      clear hK K
      (repeat (first | ((apply w3_pure); (· go_simp); (· (intro w1; go_simp; try with_reducible rfl)); (intro K hK; go_simp; refine hK _ _ ?_; clear hK K)) | ((apply w3_skip); (· go_simp); (intro K hK; go_simp; refine hK _ _ ?_; clear hK K))))
      (refine w3_act (fun K hK => ?_); go_simp)
      go_wp2_with fail
      refine (told_any _).mono ?_
      rintro e w9 ⟨rfl, hx9⟩
      have hx9' : Ext w6 w9 := hx8'.trans hx9
      refine hK.out _ _ (fun _ => hx9') ?_
      clear hK K
      (repeat (first | ((apply w3_pure); (· go_simp); (· (intro w1; go_simp; try with_reducible rfl)); (intro K hK; go_simp; refine hK _ _ ?_; clear hK K)) | ((apply w3_skip); (· go_simp); (intro K hK; go_simp; refine hK _ _ ?_; clear hK K)) | (refine w3_end (by kernel_rfl) (fun K hK => ?_); go_simp; refine hK.out _ _ ?_; clear hK K))); refine w3_nil ?_
      go_wp2
      go_ret
      exact ⟨rfl, (HX.out.trans hx60).trans hx9'⟩
end Go.Proofs.YtahljceanodhkaaGreatDoor
