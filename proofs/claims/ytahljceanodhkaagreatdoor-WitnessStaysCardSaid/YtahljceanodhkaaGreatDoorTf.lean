/- Package tree: New. -/
import Derived.Test.YtahljceanodhkaaGreatDoorTe
namespace Go.Proofs.YtahljceanodhkaaGreatDoor
open Go.RowKit
def IsTree (w w' : World) (e : Ending) (l : List Dg) : Prop := ∃ p, e = .returned (.tuple #[.pointer (some ⟨p, 0, none⟩), .int .i64 0]) ∧ TreeOK w' w.heap.size p l ∧ Ext w w'
set_option maxRecDepth 100000 in
set_option maxHeartbeats 2000000 in
theorem tnew_ok (b off cap : Nat) (l : List Dg) (n : Nat) (hn : n = l.length) (h1 : 1 ≤ n) (h2 : n ≤ 4096) (hok : ∀ d ∈ l, d.ok) (w : World) (hr : Row w b off (digs l)) :
    Calls Tryz.prog 120 #[.slice (some ⟨b, off, none⟩) n cap] w fun e w' => IsTree w w' e l := by
  have HN := Lib.hid hn
  have HO := Lib.hid hok
  clear hn hok
  have hb := hgt_bd n h1 h2
  obtain ⟨H, hH⟩ : ∃ H, H = hgt n := ⟨_, rfl⟩
  rw [← hH] at hb
  have HH := Lib.hid hH
  obtain ⟨hH12, hnH⟩ := hb
  have HP := Lib.hid hnH
  clear hH hnH
  obtain ⟨N, hN⟩ : ∃ N, N = 2 ^ H := ⟨_, rfl⟩
  have hN4 : N ≤ 4096 := by rw [hN]; exact Nat.le_trans (Nat.pow_le_pow_right (by omega) hH12) (by decide)
  have hwN : IntKind.i64.wrap (2 ^ H) = (N : Int) := by
    have : (2 : Int) ^ H = (N : Int) := by rw [hN]; simp
    rw [this, IntKind.wrap_i64]; omega
  have HNN := Lib.hid hN
  clear hN
  go_enter Tryz.func120, Tryz.ntmps120
  go_wp2_with fail
  refine (height_ok n h1 h2 _).mono ?_
  rintro e w0 ⟨rfl, rfl⟩
  rw [← HH.out]
  go_wp2_with fail
  refine (dclone_any b off cap l n HN.out h2 _ hr).mono ?_
  rintro e w1 ⟨v1, rfl, ho1, hx1⟩
  obtain ⟨cg, cc, rfl, hcg, hcrow, hcc, hcm, hl⟩ := own_someE ho1 h1
  clear hl hcc hcm
  have hT0 : TreeB (w1.alloc (.cells #[.slice (some ⟨cg, 0, none⟩) n cc, .slice none 0 0, .slice none 0 0, .slice none 0 0, .slice none 0 0, .slice none 0 0, .slice none 0 0, .slice none 0 0, .slice none 0 0, .slice none 0 0, .slice none 0 0, .slice none 0 0, .slice none 0 0, .slice none 0 0] 196)) w1.heap.size (fun i => if i = 0 then .slice (some ⟨cg, 0, none⟩) n cc else .slice none 0 0) := Blk.new w1 _ _
  go_wp2_with fail
  have hx1' := hx1.alloc (.cells #[.slice (some ⟨cg, 0, none⟩) n cc, .slice none 0 0, .slice none 0 0, .slice none 0 0, .slice none 0 0, .slice none 0 0, .slice none 0 0, .slice none 0 0, .slice none 0 0, .slice none 0 0, .slice none 0 0, .slice none 0 0, .slice none 0 0, .slice none 0 0] 196)
  have ho' := own_ext ho1 ((Kept.refl _ w1).alloc (.cells #[.slice (some ⟨cg, 0, none⟩) n cc, .slice none 0 0, .slice none 0 0, .slice none 0 0, .slice none 0 0, .slice none 0 0, .slice none 0 0, .slice none 0 0, .slice none 0 0, .slice none 0 0, .slice none 0 0, .slice none 0 0, .slice none 0 0, .slice none 0 0] 196))
  have hpw := hx1.size
  have hcgp := hcrow.lt
  generalize (w1.alloc (.cells #[.slice (some ⟨cg, 0, none⟩) n cc, .slice none 0 0, .slice none 0 0, .slice none 0 0, .slice none 0 0, .slice none 0 0, .slice none 0 0, .slice none 0 0, .slice none 0 0, .slice none 0 0, .slice none 0 0, .slice none 0 0, .slice none 0 0, .slice none 0 0] 196)) = W at hT0 hx1' ho' ⊢
  clear ho1 hcrow
  generalize w1.heap.size = p at hT0 hpw hcgp ⊢
  have hpl := hT0.lt
  refine wp_region_3 (fun w1 => Ext W w1) [(0, 2), (1, 2), (2, 2), (4, 2), (5, 2), (3, 0), (6, 2), (7, 0)] (by kernel_rfl) (by kernel_rfl) (by kernel_rfl) (by kernel_rfl) ?_; intro l' hl'; simp only [List.map_cons, List.map_nil, List.getD_cons_zero, List.getD_cons_succ] at hl'; subst hl'
  (repeat (first | ((apply w3_pure); (· go_simp); (· (intro w1; go_simp; try with_reducible rfl)); (intro K hK; go_simp; refine hK _ _ ?_; clear hK K)) | ((apply w3_skip); (· go_simp); (intro K hK; go_simp; refine hK _ _ ?_; clear hK K)) | ((apply w3_take); (· exact (Kept.drew (Kept.refl _ _))); (· go_simp); (· (intro w1 hS; skip;  go_simp; try with_reducible rfl)); (intro K hK; go_simp; refine hK _ _ ?_; clear hK K)) | ((apply w3_pass); (· exact (Kept.drew (Kept.refl _ _))); (· go_simp); (intro K hK; go_simp; refine hK _ _ ?_; clear hK K))))
  obtain ⟨w2, hr2, hB2, hx2⟩ := makeF W.drew N (by omega)
  have y2 : Ext W w2 := ((Kept.refl _ W).drew).trans hx2
  have hG : W.heap.size = W.drew.heap.size := rfl
  rw [← hG] at hr2 hB2
  clear hG
  refine w3_make rfl (.tmp 21) (.tmp 21) 42 rfl rfl rfl hr2 (fun _ => y2) ?_
  clear hr2
  have hT2 := hT0.ext y2
  have hc2 := hT2.cell 1 (by omega)
  have hf2 := Blk.frozen hT2
  (repeat (first | ((apply w3_pure); (· go_simp); (· (intro w1; go_simp; try with_reducible rfl)); (intro K hK; go_simp; refine hK _ _ ?_; clear hK K)) | ((apply w3_skip); (· go_simp); (intro K hK; go_simp; refine hK _ _ ?_; clear hK K)) | (refine w3_end (by kernel_rfl) (fun K hK => ?_); go_simp; refine hK.out _ _ ?_; clear hK K))); refine w3_nil ?_
  have hT3 := hT2.set 1 (.slice (some ⟨W.heap.size, 0, none⟩) N N)
  have hB3 := Blk.far hB2 (p := ⟨p, 1, none⟩) (show W.heap.size ≠ p by omega) (.slice (some ⟨W.heap.size, 0, none⟩) N N)
  have y3 : Ext w (w2.setCell ⟨p, 1, none⟩ (.slice (some ⟨W.heap.size, 0, none⟩) N N)) := Kept.setCell (hx1'.trans y2) ⟨p, 1, none⟩ _ (fun h => by have : p < w.heap.size := h; omega)
  have ho3 := own_kept (own_ext ho' y2) (Kept.setCell (S := (· = p)) (Kept.refl _ w2) ⟨p, 1, none⟩ (.slice (some ⟨W.heap.size, 0, none⟩) N N) (fun _ => rfl)) (fun g hg => by simp [Value.ownBlock] at hg; omega)
  clear hc2 hf2 hT2 hB2 hT0 ho'
  generalize W.heap.size = G0 at hT3 hB3 y3 ho3 hpl ⊢
  generalize w2.setCell ⟨p, 1, none⟩ (.slice (some ⟨G0, 0, none⟩) N N) = W3 at hT3 hB3 y3 ho3 ⊢
  clear y2 hx2 hx1' hx1
  go_wp2_with fail
  refine (word_any Dg.zero dg0_ok _ (by decide) _).mono ?_
  rintro e w4 ⟨e4, hx4⟩
  obtain ⟨Z, hZ⟩ : ∃ Z, Z = hNone := ⟨_, rfl⟩
  replace e4 : e = .returned (.agg Z.cells) := by rw [e4, hZ]; rfl
  subst e4
  have HZ := Lib.hid hZ
  clear hZ
  have hT4 := hT3.ext hx4
  have hB4 := Blk.ext hB3 hx4
  have hc4 := hT4.cell 1 (by omega)
  have hpl4 := hT4.lt
  simp only [if_true] at hc4
  go_wp2_with fail
  have hT5 : TreeB _ p _ := hT4.ext ((Kept.refl _ w4).alloc (.cells Z.cells 30))
  have hB5 := Blk.alloc hB4 (.cells Z.cells 30)
  have hQ5 := Blk.new w4 30 Z.cells
  have y5 := (y3.trans hx4).alloc (.cells Z.cells 30)
  have ho5 := own_ext ho3 (hx4.alloc (.cells Z.cells 30))
  have hgq := Blk.lt hB4
  generalize (w4.alloc (.cells #[.int .u8 Z.x0, .int .u8 Z.x1, .int .u8 Z.x2, .int .u8 Z.x3, .int .u8 Z.x4, .int .u8 Z.x5, .int .u8 Z.x6, .int .u8 Z.x7] 30)) = W5 at hT5 hB5 hQ5 y5 ho5 ⊢
  clear hc4 hT4 hB4 hx4 hT3 hB3 y3 ho3
  generalize w4.heap.size = q at hQ5 hpl4 hgq ⊢
  go_loopw [34] (fun t34 wr => ∃ (k : Nat), k ≤ N ∧ t34 = .int .i64 k ∧ Blk wr G0 30 (digs (part l N 0 k)).toArray ∧ Kept (· = G0) W5 wr) (fun t34 _ => N - (intOf t34).toNat)
  case atStart => exact ⟨0, by omega, rfl, by rw [part_zero]; exact hB5, Kept.refl _ _⟩
  case round =>
    obtain ⟨k, hk, rfl, hB, hK5⟩ := hrel
    have hTr : TreeB wr p _ := Blk.kept hT5 hK5 (by omega)
    have hc1 := hTr.cell 1 (by omega)
    simp only [if_true] at hc1
    have hpr := hTr.lt
    have hQr := Blk.kept hQ5 hK5 (by omega)
    have hbw := hr.lt
    have hrr := (hr.ext y5).kept hK5 (by omega)
    have hBl := Blk.lt hB
    by_cases hlt : k < N
    · have hltI : (k : Int) < N := by omega
      by_cases hkn : k < n
      · have hknI : (k : Int) < n := by omega
        have hkl : k < l.length := by have := HN.out; omega
        obtain ⟨ha1, hg1⟩ := hrr.dig k hkl
        have hbr := hrr.lt
        go_upto_region 11 with (fail)
        refine wp_region_3 (fun w1 => Ext wr w1) [(0, 2), (1, 2), (2, 2), (3, 2), (4, 1), (5, 2), (6, 2), (7, 2), (8, 2), (9, 1), (10, 0), (11, 2), (12, 0)] (by kernel_rfl) (by kernel_rfl) (by kernel_rfl) (by kernel_rfl) ?_; intro l' hl'; simp only [List.map_cons, List.map_nil, List.getD_cons_zero, List.getD_cons_succ] at hl'; subst hl'
        (repeat (first | ((apply w3_pure); (· go_simp); (· (intro w1; go_simp; try with_reducible rfl)); (intro K hK; go_simp; refine hK _ _ ?_; clear hK K)) | ((apply w3_skip); (· go_simp); (intro K hK; go_simp; refine hK _ _ ?_; clear hK K)) | ((apply w3_take); (· exact (Kept.drew (Kept.refl _ _))); (· go_simp); (· (intro w1 hS; have d1 := (Kept.cell hS (p := ⟨p, 1, none⟩) hpr (fun f => f)).trans hc1; have d2 := (hrr.ext hS).dig k hkl; have d3 := d2.1; have d4 := d2.2;  go_simp; try with_reducible rfl)); (intro K hK; go_simp; refine hK _ _ ?_; clear hK K)) | ((apply w3_pass); (· exact (Kept.drew (Kept.refl _ _))); (· go_simp); (intro K hK; go_simp; refine hK _ _ ?_; clear hK K))))
        (refine w3_act (fun K hK => ?_); go_simp)
        go_wp2_with fail
        refine (low_any l[k] (HO.out _ (List.getElem_mem hkl)) _).mono ?_
        rintro e w6 ⟨e6, hx6⟩
        obtain ⟨V, hV⟩ : ∃ V, V = nodeT l 0 k := ⟨_, rfl⟩
        replace e6 : e = .returned (.agg V.cells) := by rw [e6, hV]; simp [nodeT, List.getElem?_eq_getElem hkl]
        subst e6
        have HV := Lib.hid hV
        clear hV
        have y6 : Ext wr w6 := ((Kept.refl _ wr).drew).trans hx6
        refine hK.out _ _ (fun _ => y6) ?_
        clear hK K
        have hkM : k * 8 + 8 ≤ (digs (part l N 0 k)).length := by rw [digs_length, part_len]; omega
        have hB6 := Blk.ext hB y6
        have hh6 := Blk.has hB6 (k * 8) 8
        rw [decide_eq_true (by simpa using hkM)] at hh6
        have hm6 := Blk.melts hB6
        have hB7 := Blk.put_ hB6 (k * 8) V.cells
        rw [digs_set _ k (by rw [part_len]; exact hlt) V, HV.out, part_set] at hB7
        rw [← HV.out] at hB7
        (repeat (first | ((apply w3_pure); (· go_simp); (· (intro w1; go_simp; try with_reducible rfl)); (intro K hK; go_simp; refine hK _ _ ?_; clear hK K)) | ((apply w3_skip); (· go_simp); (intro K hK; go_simp; refine hK _ _ ?_; clear hK K)) | (refine w3_end (by kernel_rfl) (fun K hK => ?_); go_simp; refine hK.out _ _ ?_; clear hK K))); refine w3_nil ?_
        go_wp2_with fail
        go_roundw
        case rel => exact ⟨k + 1, hlt, by go_num, hB7, Kept.putAt (hK5.trans (Kept.ext y6)) _ _ _ (fun _ => rfl)⟩
        case measure => simp only [intOf]; omega
      · have hknI : ¬ (k : Int) < n := by omega
        have hql := Blk.lt hQr
        have hnk : nodeT l 0 k = Z := by
          have := HN.out
          rw [HZ.out]
          simp [nodeT, List.getElem?_eq_none (show l.length ≤ k by omega)]
        have HNK := Lib.hid hnk
        clear hnk
        go_upto_region 12 with (fail)
        refine wp_region_3 (fun w1 => Ext wr w1) [(0, 2), (1, 2), (2, 2), (3, 2), (4, 1), (5, 2), (6, 1), (7, 2), (8, 0)] (by kernel_rfl) (by kernel_rfl) (by kernel_rfl) (by kernel_rfl) ?_; intro l' hl'; simp only [List.map_cons, List.map_nil, List.getD_cons_zero, List.getD_cons_succ] at hl'; subst hl'
        (repeat (first | ((apply w3_pure); (· go_simp); (· (intro w1; go_simp; try with_reducible rfl)); (intro K hK; go_simp; refine hK _ _ ?_; clear hK K)) | ((apply w3_skip); (· go_simp); (intro K hK; go_simp; refine hK _ _ ?_; clear hK K)) | ((apply w3_take); (· exact (Kept.drew (Kept.refl _ _))); (· go_simp); (· (intro w1 hS; have d1 := (Kept.cell hS (p := ⟨p, 1, none⟩) hpr (fun f => f)).trans hc1; have d2 := Blk.ext hQr hS; have d3 := Blk.has d2; have d4 := Blk.gets d2;  go_simp; try with_reducible rfl)); (intro K hK; go_simp; refine hK _ _ ?_; clear hK K)) | ((apply w3_pass); (· exact (Kept.drew (Kept.refl _ _))); (· go_simp); (intro K hK; go_simp; refine hK _ _ ?_; clear hK K))))
        have hkM : k * 8 + 8 ≤ (digs (part l N 0 k)).length := by rw [digs_length, part_len]; omega
        have y6 : Ext wr wr.drew := (Kept.refl _ wr).drew
        have hB6 := Blk.ext hB y6
        have hh6 := Blk.has hB6 (k * 8) 8
        rw [decide_eq_true (by simpa using hkM)] at hh6
        have hm6 := Blk.melts hB6
        have hB7 := Blk.put_ hB6 (k * 8) Z.cells
        rw [digs_set _ k (by rw [part_len]; exact hlt) Z, ← HNK.out, part_set] at hB7
        rw [HNK.out] at hB7
        (repeat (first | ((apply w3_pure); (· go_simp); (· (intro w1; go_simp; try with_reducible rfl)); (intro K hK; go_simp; refine hK _ _ ?_; clear hK K)) | ((apply w3_skip); (· go_simp); (intro K hK; go_simp; refine hK _ _ ?_; clear hK K)) | (refine w3_end (by kernel_rfl) (fun K hK => ?_); go_simp; refine hK.out _ _ ?_; clear hK K))); refine w3_nil ?_
        go_wp2_with fail
        go_roundw
        case rel => exact ⟨k + 1, hlt, by go_num, hB7, Kept.putAt (hK5.trans (Kept.ext y6)) _ _ _ (fun _ => rfl)⟩
        case measure => simp only [intOf]; omega
    · have ek : k = N := by omega
      rw [ek] at hB
      clear ek
      have hB0 : Blk wr G0 30 (digs (lev l H 0)).toArray := by
        have := part_all l H 0
        rw [Nat.sub_zero, ← HNN.out] at this
        rw [← this]; exact hB
      have ho6 := own_kept ho5 hK5 (fun g hg => by simp [Value.ownBlock] at hg; omega)
      have hxr : Ext w wr := y5.trans' hK5 (fun i hi e => by have := y5.size; omega)
      have hL0 : ∃ f G, Lv wr w.heap.size p cg cc f G l H 0 := ⟨_, fun _ => G0, hTr, by simp [HN.out], by rw [← HN.out]; exact ho6, fun u hu => by
        obtain rfl : u = 0 := by omega
        simp [HNN.out], fun u hu => by
        obtain rfl : u = 0 := by omega
        exact hB0, fun u u' hu hu' _ => by omega, fun u hu => by omega, by omega, by omega⟩
      have HL0 := Lib.hid hL0
      clear hL0 hB0 hB ho6 hTr hQr hc1 hrr hK5
      go_wp2_with fail
      go_loopw [63] (fun t63 wr => ∃ (v : Nat), v ≤ H ∧ t63 = .int .i64 v ∧ (∃ f G, Lv wr w.heap.size p cg cc f G l H v) ∧ Ext w wr) (fun t63 _ => H - (intOf t63).toNat)
      case atStart => exact ⟨0, by omega, rfl, HL0.out, hxr⟩
      case round =>
        obtain ⟨wo, rfl⟩ : ∃ wo : World, wo = wr := ⟨_, rfl⟩
        obtain ⟨v, hv, rfl, ⟨f, G, hL⟩, hx⟩ := hrel
        by_cases hlt2 : v < H
        · obtain ⟨M, hM⟩ : ∃ M, M = 2 ^ (H - (v + 1)) := ⟨_, rfl⟩
          obtain ⟨N2, hN2⟩ : ∃ N2, N2 = 2 ^ (H - v) := ⟨_, rfl⟩
          have hNM : N2 = 2 * M := by rw [hN2, hM]; exact pow_halfH H v hlt2
          have hN24 : N2 ≤ 4096 := by rw [hN2]; exact Nat.le_trans (Nat.pow_le_pow_right (by omega) (show H - v ≤ 12 by omega)) (by decide)
          have hM4 : M ≤ 4096 := by omega
          obtain ⟨v1, hv1⟩ : ∃ v1, v1 = v + 1 := ⟨_, rfl⟩
          have hw1 : IntKind.i64.wrap ((v : Int) + 1) = v1 := by rw [IntKind.wrap_i64]; omega
          have hq1 : (N2 : Int).tdiv 2 = M := by rw [Int.tdiv_eq_ediv_of_nonneg (by omega)]; omega
          have hwM : IntKind.i64.wrap (M : Int) = M := by rw [IntKind.wrap_i64]; omega
          have hcv := hL.blk.cell (1 + v) (by omega)
          rw [hL.fl v (Nat.le_refl _), ← hN2] at hcv
          have hpr := hL.blk.lt
          have hv13 : (v : Int) < 13 := by omega
          have hv113 : (v1 : Int) < 13 := by omega
          have HV := Lib.hid hv1
          have HM := Lib.hid hM
          have HN2 := Lib.hid hN2
          have HNM := Lib.hid hNM
          clear hv1 hM hN2 hNM
          go_upto_region 17 with (fail)
          refine wp_region_3 (fun w1 => Ext wo w1) [(0, 2), (1, 2), (2, 2), (3, 2), (4, 2), (5, 2), (6, 2), (7, 2), (8, 1), (9, 2), (10, 2), (12, 2), (13, 2), (11, 0), (14, 2), (15, 0)] (by kernel_rfl) (by kernel_rfl) (by kernel_rfl) (by kernel_rfl) ?_; intro l' hl'; simp only [List.map_cons, List.map_nil, List.getD_cons_zero, List.getD_cons_succ] at hl'; subst hl'
          (repeat (first | ((apply w3_pure); (· go_simp); (· (intro w1; go_simp; try with_reducible rfl)); (intro K hK; go_simp; refine hK _ _ ?_; clear hK K)) | ((apply w3_skip); (· go_simp); (intro K hK; go_simp; refine hK _ _ ?_; clear hK K)) | ((apply w3_take); (· exact (Kept.drew (Kept.refl _ _))); (· go_simp); (· (intro w1 hS; have d1 := (Kept.cell hS (p := ⟨p, 1 + v, none⟩) hpr (fun f => f)).trans hcv;  go_simp; try with_reducible rfl)); (intro K hK; go_simp; refine hK _ _ ?_; clear hK K)) | ((apply w3_pass); (· exact (Kept.drew (Kept.refl _ _))); (· go_simp); (intro K hK; go_simp; refine hK _ _ ?_; clear hK K))))
          obtain ⟨w7, hr7, hB7, hx7⟩ := makeF wo.drew M (by omega)
          have y7 : Ext wo w7 := ((Kept.refl _ wo).drew).trans hx7
          have hG7 : wo.heap.size = wo.drew.heap.size := rfl
          rw [← hG7] at hr7 hB7
          clear hG7
          refine w3_make rfl (.tmp 76) (.tmp 76) 42 rfl rfl rfl hr7 (fun _ => y7) ?_
          clear hr7
          have hT7 := hL.blk.ext y7
          have hc7 := hT7.cell (1 + v1) (by have := HV.out; omega)
          have hf7 := Blk.frozen hT7
          (repeat (first | ((apply w3_pure); (· go_simp); (· (intro w1; go_simp; try with_reducible rfl)); (intro K hK; go_simp; refine hK _ _ ?_; clear hK K)) | ((apply w3_skip); (· go_simp); (intro K hK; go_simp; refine hK _ _ ?_; clear hK K)) | (refine w3_end (by kernel_rfl) (fun K hK => ?_); go_simp; refine hK.out _ _ ?_; clear hK K))); refine w3_nil ?_
          obtain ⟨U, hU⟩ : ∃ U, U = Value.slice (some ⟨wo.heap.size, 0, none⟩) M M := ⟨_, rfl⟩
          rw [← hU]
          have hT8 := hT7.set (1 + v1) U
          have hB8 := Blk.far hB7 (p := ⟨p, 1 + v1, none⟩) (show wo.heap.size ≠ p by omega) U
          have hk8 : Kept (· = p) wo (w7.setCell ⟨p, 1 + v1, none⟩ U) := Kept.setCell (Kept.ext y7) ⟨p, 1 + v1, none⟩ U (fun _ => rfl)
          have y8 : Ext w (w7.setCell ⟨p, 1 + v1, none⟩ U) := Kept.setCell (hx.trans y7) ⟨p, 1 + v1, none⟩ _ (fun h => by have : p < w.heap.size := h; omega)
          have hc8 := hT8.cell (1 + v1) (by have := HV.out; omega)
          simp only [if_true] at hc8
          have hgv := (hL.far v (Nat.le_refl _)).2.1
          have hgvl := (hL.lv v (Nat.le_refl _)).lt
          have hLv8 := Blk.kept (hL.lv v (Nat.le_refl _)) hk8 hgv
          have hcv8 : (w7.setCell ⟨p, 1 + v1, none⟩ U).cell? ⟨p, 1 + v, none⟩ = some (.slice (some ⟨G v, 0, none⟩) N2 N2) := by
            rw [hT8.cell (1 + v) (by omega), if_neg (by have := HV.out; omega), hL.fl v (Nat.le_refl _), HN2.out]
          clear hc7 hf7 hT7 hB7 hcv hx7 y7
          generalize w7.setCell ⟨p, 1 + v1, none⟩ U = W8 at hT8 hB8 hk8 y8 hc8 hLv8 hcv8 ⊢
          subst hU
          have hpl8 := hT8.lt
          have hgl8 := hB8.lt
          have hbo := hx.size
          have hgs : wo.heap.size ≤ wo.heap.size := Nat.le_refl _
          have hbo' := hbo
          obtain ⟨g, hg⟩ : ∃ g, g = wo.heap.size := ⟨_, rfl⟩
          rw [← hg] at hT8 hB8 hc8 hgl8 hpr hgvl ⊢
          have HG := Lib.hid hg
          have hgb : w.heap.size ≤ g := by omega
          clear hg hgs hbo
          go_wp2_with fail
          go_loopw [89] (fun t89 wr => ∃ (k : Nat), k ≤ M ∧ t89 = .int .i64 k ∧ Blk wr g 30 (digs (part l M (v + 1) k)).toArray ∧ Kept (· = g) W8 wr) (fun t89 _ => M - (intOf t89).toNat)
          case atStart => exact ⟨0, by omega, rfl, by rw [part_zero]; exact hB8, Kept.refl _ _⟩
          case round =>
            obtain ⟨k3, hk3, rfl, hB9, hK9⟩ := hrel
            have hcr1 := (Kept.cell hK9 (p := ⟨p, 1 + v, none⟩) hpl8 (show ¬ p = g by omega)).trans hcv8
            have hcr2 := (Kept.cell hK9 (p := ⟨p, 1 + v1, none⟩) hpl8 (show ¬ p = g by omega)).trans hc8
            have hLr := Blk.kept hLv8 hK9 (by omega)
            have hplr : p < wr.heap.size := Nat.lt_of_lt_of_le hpl8 hK9.size
            by_cases hlt3 : k3 < M
            · have hlt3I : (k3 : Int) < M := by omega
              have HC1 := Lib.hid hcr1
              have HC2 := Lib.hid hcr2
              have HK3 := Lib.hid hlt3
              clear hcr1 hcr2
              go_wp2_with fail
              refine (join_any p (G v) g v v1 k3 N2 M N2 M (lev l H v) (part l M (v + 1) k3) wr HV.out (by omega) (by rw [lev_len]; exact HN2.out) (by rw [part_len]) (by have := HNM.out; omega) hlt3 hN24 (lev_okD l H v) HC1.out HC2.out hLr hB9 hplr).mono ?_
              rintro e w9 ⟨rfl, hB10, hK10⟩
              go_wp2_with fail
              go_roundw
              case rel =>
                refine ⟨k3 + 1, hlt3, by go_num, ?_, hK9.trans hK10⟩
                rw [← part_set]
                have e : nodeT l (v + 1) k3 = hTwo ((lev l H v).getD (2 * k3) Dg.zero) ((lev l H v).getD (2 * k3 + 1) Dg.zero) := by
                  have := HN2.out
                  have := HNM.out
                  rw [lev_getD l H v _ (by omega), lev_getD l H v _ (by omega)]
                  rfl
                rw [e]
                exact hB10
              case measure => simp only [intOf]; omega
            · have ek3 : k3 = M := by omega
              rw [ek3] at hB9
              clear ek3
              have hB11 : Blk wr g 30 (digs (lev l H (v + 1))).toArray := by
                have := part_all l H (v + 1)
                rw [← HM.out] at this
                rw [← this]; exact hB9
              have hgo := HG.out
              have hkk : Kept (· = p) wo wr := hk8.trans' hK9 (fun i hi e => by omega)
              have hTT : TreeB wr p _ := Blk.kept hT8 hK9 (by omega)
              rw [HV.out, HM.out] at hTT
              have hnext := hL.step hbo' (by omega) hkk hTT hB11
              have HNX := Lib.hid hnext
              have hxx : Ext w wr := y8.trans' hK9 (fun i hi e => by omega)
              clear hnext hTT hB11 hB9
              go_wp2_with fail
              go_roundw
              case rel => exact ⟨v1, by have := HV.out; omega, rfl, by rw [HV.out]; exact HNX.out, hxx⟩
              case measure => have := HV.out; simp only [intOf]; omega
        · obtain rfl : v = H := by omega
          have HL := Lib.hid hL
          clear hL
          go_wp2_with fail
          go_ret2
          exact ⟨p, rfl, ⟨cg, cc, f, G, by rw [← HN.out, ← HH.out]; exact HL.out⟩, hx⟩
end Go.Proofs.YtahljceanodhkaaGreatDoor
