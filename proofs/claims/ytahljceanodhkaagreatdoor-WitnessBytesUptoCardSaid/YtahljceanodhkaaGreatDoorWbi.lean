/- Several texts joined: Ovc, Ovd, Ozb, Ozc, Ozd. -/
import Derived.Laws.BytesArg
import Derived.Laws.BytesString
import Derived.Test.YtahljceanodhkaaGreatDoorWbh
/- The document's bytes of a step that has bytes. -/
namespace Go.Proofs.YtahljceanodhkaaGreatDoor
open Go.RowKit
set_option maxRecDepth 100000 in
set_option maxHeartbeats 4000000 in
theorem rencode_ok (N : Nat) (t tW : TypeId) (s : Ws) (L : Sl) (w : World) (h : SV N t tW w s L) (hm : mayL L = true) (hok : L.ok) :
    Calls Tryz.prog 54 #[.agg s.cells] w fun e w' => ∃ v, e = .returned (.tuple #[v, .int .i64 0]) ∧ w'.ownsRow w.heap.size 5 1 v (encB L).length (byts (encB L)) ∧ Ext w w' := by
  obtain ⟨m1, m2, m3, m4, m5⟩ := mayL_inv hm
  have e1 := h.pc
  have e2 := h.halt
  have e3 := h.words
  have e4 := h.mem
  have e5 := h.ins
  have hp := h.path.len
  have hr := h.reads.len
  have hw := h.writes.len
  have HH := Lib.hid h
  have HOK := Lib.hid hok
  obtain ⟨pc, halt, words, mem, ins, pa, pn, pk, ra, rn, rk, wa, wn, wk⟩ := s
  simp only at e1 e2 e3 e4 e5 hp hr hw
  subst e1 e2 e3 e4 e5
  have M4 := Lib.hid m4
  have M5 := Lib.hid m5
  have hSm : (pathB L.path).length ≤ 122 ∧ (wordsB L.reads).length ≤ 430 ∧ (wordsB L.writes).length ≤ 430 := by
    have q1 := pathB_len m1 hok.digs
    have q2 := wordsK_len (l := L.reads) (by omega) (fun x hx => ⟨(hok.reads x hx).1, (hok.reads x hx).2.1, m4 x hx, (hok.reads x hx).2.2⟩) L.reads.length (Nat.le_refl _)
    have q3 := wordsK_len (l := L.writes) (by omega) (fun x hx => ⟨(hok.writes x hx).1, (hok.writes x hx).2.1, m5 x hx, (hok.writes x hx).2.2⟩) L.writes.length (Nat.le_refl _)
    unfold wordsB
    omega
  have HSm := Lib.hid hSm
  have OR := Lib.hid (show ∀ x ∈ L.reads, x.ok from fun x hx => ⟨(hok.reads x hx).1, (hok.reads x hx).2.1, m4 x hx, (hok.reads x hx).2.2⟩)
  have OW := Lib.hid (show ∀ x ∈ L.writes, x.ok from fun x hx => ⟨(hok.writes x hx).1, (hok.writes x hx).2.1, m5 x hx, (hok.writes x hx).2.2⟩)
  have n1 : pn ≤ 12 := by omega
  have n2 : rn ≤ 3 := by omega
  have n3 : wn ≤ 1 := by omega
  have l1 : (vint (foldN L.pc)).length ≤ 10 := vfold_len (hok.at_ 0)
  have K1 := Lib.hid (show i64ok L.pc from (hok.at_ 0))
  have l2 : (vint (foldN L.halt)).length ≤ 10 := vfold_len (hok.at_ 1)
  have K2 := Lib.hid (show i64ok L.halt from (hok.at_ 1))
  have l3 : (vint (foldN L.words)).length ≤ 10 := vfold_len (hok.at_ 2)
  have K3 := Lib.hid (show i64ok L.words from (hok.at_ 2))
  have lm : (vint (numN L.mem)).length ≤ 10 := vint_len 10 _ (by have := (numD_bd hok.mem).2; omega) (by omega)
  have l4 : (vint (foldN L.ins.op)).length ≤ 10 := vfold_len hok.ins.op
  have K4 := Lib.hid (show i64ok L.ins.op from hok.ins.op)
  have l5 : (vint (foldN L.ins.a)).length ≤ 10 := vfold_len hok.ins.a
  have K5 := Lib.hid (show i64ok L.ins.a from hok.ins.a)
  have l6 : (vint (foldN L.ins.b)).length ≤ 10 := vfold_len hok.ins.b
  have K6 := Lib.hid (show i64ok L.ins.b from hok.ins.b)
  have l7 : (vint (foldN L.ins.c)).length ≤ 10 := vfold_len hok.ins.c
  have K7 := Lib.hid (show i64ok L.ins.c from hok.ins.c)
  have HMok := Lib.hid hok.mem
  have he : encB L = vint (foldN L.pc) ++ vint (foldN L.halt) ++ vint (foldN L.words) ++ vint (numN L.mem) ++ vint (foldN L.ins.op) ++ vint (foldN L.ins.a) ++ vint (foldN L.ins.b) ++ vint (foldN L.ins.c) ++ pathB L.path ++ wordsB L.reads ++ wordsB L.writes := by
    simp only [encB, headK, Sl.at, instrB, List.nil_append, List.append_assoc]
  have hdm := numD_bd hok.mem
  obtain ⟨nm, hnm⟩ : ∃ nm, nm = numN L.mem := ⟨_, rfl⟩
  rw [← hnm] at hdm lm he
  have HDm := Lib.hid hdm
  clear hdm hnm
  have p1 := vint_pos (foldN L.pc)
  obtain ⟨x1, hx1⟩ : ∃ l, l = vint (foldN L.pc) := ⟨_, rfl⟩
  rw [← hx1] at l1 p1 he
  have X1 := Lib.hid hx1
  clear hx1
  have p2 := vint_pos (foldN L.halt)
  obtain ⟨x2, hx2⟩ : ∃ l, l = vint (foldN L.halt) := ⟨_, rfl⟩
  rw [← hx2] at l2 p2 he
  have X2 := Lib.hid hx2
  clear hx2
  have p3 := vint_pos (foldN L.words)
  obtain ⟨x3, hx3⟩ : ∃ l, l = vint (foldN L.words) := ⟨_, rfl⟩
  rw [← hx3] at l3 p3 he
  have X3 := Lib.hid hx3
  clear hx3
  have pm := vint_pos nm
  obtain ⟨xm, hxm⟩ : ∃ l, l = vint nm := ⟨_, rfl⟩
  rw [← hxm] at lm pm he
  have Xm := Lib.hid hxm
  clear hxm
  have p4 := vint_pos (foldN L.ins.op)
  obtain ⟨x4, hx4⟩ : ∃ l, l = vint (foldN L.ins.op) := ⟨_, rfl⟩
  rw [← hx4] at l4 p4 he
  have X4 := Lib.hid hx4
  clear hx4
  have p5 := vint_pos (foldN L.ins.a)
  obtain ⟨x5, hx5⟩ : ∃ l, l = vint (foldN L.ins.a) := ⟨_, rfl⟩
  rw [← hx5] at l5 p5 he
  have X5 := Lib.hid hx5
  clear hx5
  have p6 := vint_pos (foldN L.ins.b)
  obtain ⟨x6, hx6⟩ : ∃ l, l = vint (foldN L.ins.b) := ⟨_, rfl⟩
  rw [← hx6] at l6 p6 he
  have X6 := Lib.hid hx6
  clear hx6
  have p7 := vint_pos (foldN L.ins.c)
  obtain ⟨x7, hx7⟩ : ∃ l, l = vint (foldN L.ins.c) := ⟨_, rfl⟩
  rw [← hx7] at l7 p7 he
  have X7 := Lib.hid hx7
  clear hx7
  have HE := Lib.hid he
  have HL := Lib.hid (And.intro l1 (And.intro l2 (And.intro l3 (And.intro lm (And.intro l4 (And.intro l5 (And.intro l6 l7)))))))
  have HP := Lib.hid (And.intro p1 (And.intro p2 (And.intro p3 (And.intro pm (And.intro p4 (And.intro p5 (And.intro p6 p7)))))))
  clear l1 l2 l3 lm l4 l5 l6 l7 p1 p2 p3 pm p4 p5 p6 p7
  clear h hm hok m1 m2 m3 m4 m5 hSm he
  have NR := Lib.hid hr
  have NW := Lib.hid hw
  have NP := Lib.hid hp
  clear hr hw hp
  have hx0 : Ext w _ := (Kept.refl _ w).alloc (.cells (Ws.cells ⟨L.pc, L.halt, L.words, L.mem, L.ins, pa, pn, pk, ra, rn, rk, wa, wn, wk⟩) 92)
  have hB0 := Blk.new w 92 (Ws.cells ⟨L.pc, L.halt, L.words, L.mem, L.ins, pa, pn, pk, ra, rn, rk, wa, wn, wk⟩)
  obtain ⟨ab, hab⟩ : ∃ ab, ab = w.heap.size := ⟨_, rfl⟩
  rw [← hab] at hB0
  have HAB := Lib.hid hab
  clear hab
  have c1 : ¬ (12 : Int) < pn := by omega
  have c2 : ¬ (3 : Int) < rn := by omega
  have c3 : ¬ (1 : Int) < wn := by omega
  go_enter Tryz.func54, Tryz.ntmps54
  go_upto_region 1 with (fail)
  rw [← HAB.out]
  generalize (w.alloc (.cells (Ws.cells ⟨L.pc, L.halt, L.words, L.mem, L.ins, pa, pn, pk, ra, rn, rk, wa, wn, wk⟩) 92)) = W at hx0 hB0 ⊢
  have HX0 := Lib.hid hx0
  have HW := Lib.hid (HH.out.ext hx0)
  have HB := Lib.hid hB0
  have hc0 := Blk.cell hB0
  have hl0 := hB0.lt
  clear hx0 HH hB0
  go_wp2_with fail
  go_loopw [4, 5] (fun t4 t5 wr => ∃ (j : Nat), j ≤ rn ∧ t5 = .int .i64 j ∧ t4 = .bool false ∧ Ext W wr) (fun _ t5 _ => rn - (intOf t5).toNat)
  case atStart => exact ⟨0, by omega, rfl, rfl, Kept.refl _ W⟩
  case round =>
    obtain ⟨j, hj, rfl, rfl, hx⟩ := hrel
    clear hc0 hl0
    have hB1 := Blk.ext HB.out hx
    have hc1 := Blk.cell hB1
    have hl1 := hB1.lt
    by_cases hlt : j < rn
    · obtain ⟨_, b, off, ds, hA, hr, _, hg⟩ := HW.out.reads.ext hx
      have hjl : j < L.reads.length := by have := NR.out; omega
      have hjd : j < ds.length := by rw [hg.len]; exact hjl
      obtain rfl := hA (by omega)
      have a2 := ((hr (by omega)).wdc j hjd).2.2
      have hbl := (hr (by omega)).lt
      have hpl := (hg.get j hjd hjl).path.len
      have hm4 := M4.out _ (List.getElem_mem hjl)
      obtain ⟨D, hD⟩ : ∃ D, D = ds[j] := ⟨_, rfl⟩
      rw [← hD] at a2 hpl
      have hcm : ¬ (12 : Int) < D.pn := by omega
      have hltI : (j : Int) < rn := by omega
      have hj0 : (0 : Int) ≤ j := by omega
      clear hr hg hD hpl hm4 hjl hjd hB1 hA
      go_wp2_with fail
      go_roundw
      case rel => exact ⟨j + 1, hlt, by go_num, rfl, hx⟩
      case measure => simp only [intOf]; omega
    · have hltI : ¬ (j : Int) < rn := by omega
      clear hB1
      go_wp2_with fail
      go_loopw [4, 6] (fun t4 t6 wr => ∃ (j : Nat), j ≤ wn ∧ t6 = .int .i64 j ∧ t4 = .bool false ∧ Ext W wr) (fun _ t6 _ => wn - (intOf t6).toNat)
      case atStart => exact ⟨0, by omega, rfl, rfl, hx⟩
      case round =>
        clear hc1 hl1 hx
        obtain ⟨i, hi, rfl, rfl, hx⟩ := hrel
        have hB1 := Blk.ext HB.out hx
        have hc1 := Blk.cell hB1
        have hl1 := hB1.lt
        by_cases hlt : i < wn
        · obtain ⟨_, b, off, ds, hA, hr, _, hg⟩ := HW.out.writes.ext hx
          have hjl : i < L.writes.length := by have := NW.out; omega
          have hjd : i < ds.length := by rw [hg.len]; exact hjl
          obtain rfl := hA (by omega)
          have a2 := ((hr (by omega)).wdc i hjd).2.2
          have hbl := (hr (by omega)).lt
          have hpl := (hg.get i hjd hjl).path.len
          have hm4 := M5.out _ (List.getElem_mem hjl)
          obtain ⟨D, hD⟩ : ∃ D, D = ds[i] := ⟨_, rfl⟩
          rw [← hD] at a2 hpl
          have hcm : ¬ (12 : Int) < D.pn := by omega
          have hltI : (i : Int) < wn := by omega
          have hj0 : (0 : Int) ≤ i := by omega
          clear hr hg hD hpl hm4 hjl hjd hB1 hA
          go_wp2_with fail
          go_roundw
          case rel => exact ⟨i + 1, hlt, by go_num, rfl, hx⟩
          case measure => simp only [intOf]; omega
        · have hltI : ¬ (i : Int) < wn := by omega
          clear hB1
          go_upto_region 12 with (fail)
          clear hc1 hl1
          as_aux_lemma =>
          refine wp_region_3 (fun w2 => Ext W w2) [(0, 2), (1, 1), (3, 2), (4, 1), (7, 2), (8, 1), (2, 0), (5, 0), (6, 0), (9, 0), (10, 0), (11, 2)] (by kernel_rfl) (by kernel_rfl) (by kernel_rfl) (by kernel_rfl) ?_; intro l' hl'; simp only [List.map_cons, List.map_nil, List.getD_cons_zero, List.getD_cons_succ] at hl'; subst hl'
          (repeat (first | ((apply w3_pure); (· go_simp); (· (intro w1; go_simp; try with_reducible rfl)); (intro K hK; go_simp; refine hK _ _ ?_; clear hK K)) | ((apply w3_skip); (· go_simp); (intro K hK; go_simp; refine hK _ _ ?_; clear hK K)) | ((apply w3_take); (· exact (Kept.drew hx)); (· go_simp); (· (intro w1 hS; have d1 := Blk.cell (Blk.ext HB.out hS); have d2 := (Blk.ext HB.out hS).lt;  go_simp; try with_reducible rfl)); (intro K hK; go_simp; refine hK _ _ ?_; clear hK K)) | ((apply w3_pass); (· exact (Kept.drew hx)); (· go_simp); (intro K hK; go_simp; refine hK _ _ ?_; clear hK K))))
          have y0 : Ext W (wr : World).drew := Kept.drew hx
          (refine w3_act (fun K hK => ?_); go_simp)
          go_wp2_with fail
          refine (signed_any L.pc K1.out.1 K1.out.2 _).mono ?_
          rintro e w1 ⟨g1, c1, rfl, ho1, hx1⟩
          have y1 : Ext W w1 := y0.trans hx1
          refine hK.out _ _ (fun _ => y1) ?_
          clear hK K hx1
          rw [← X1.out] at ho1
          have HO1 := Lib.hid (own_mono ho1 y0.size)
          clear ho1
          (repeat (first | ((apply w3_pure); (· go_simp); (· (intro w1; go_simp; try with_reducible rfl)); (intro K hK; go_simp; refine hK _ _ ?_; clear hK K)) | ((apply w3_skip); (· go_simp); (intro K hK; go_simp; refine hK _ _ ?_; clear hK K))))
          (refine w3_act (fun K hK => ?_); go_simp)
          go_wp2_with fail
          refine (signed_any L.halt K2.out.1 K2.out.2 _).mono ?_
          rintro e w2 ⟨g2, c2, rfl, ho2, hx2⟩
          have y2 : Ext W w2 := y1.trans hx2
          refine hK.out _ _ (fun _ => y2) ?_
          clear hK K
          rw [← X2.out] at ho2 ⊢
          rw [← X1.out]
          obtain ⟨v3, w3, hr3, ho3, y3⟩ := appOn HO1.out y1 hx2 ho2 HP.out.2.1 (by have := HL.out; omega)
          refine w3_app rfl (.tmp 63) (.tmp 66) 95 rfl rfl rfl rfl hr3 (fun _ => y3) ?_
          clear hr3 ho2 hx2
          have HO3 := Lib.hid ho3
          clear ho3
          (repeat (first | ((apply w3_pure); (· go_simp); (· (intro w1; go_simp; try with_reducible rfl)); (intro K hK; go_simp; refine hK _ _ ?_; clear hK K)) | ((apply w3_skip); (· go_simp); (intro K hK; go_simp; refine hK _ _ ?_; clear hK K))))
          (refine w3_act (fun K hK => ?_); go_simp)
          go_wp2_with fail
          refine (signed_any L.words K3.out.1 K3.out.2 _).mono ?_
          rintro e w4 ⟨g4, c4, rfl, ho4, hx4⟩
          have y4 : Ext W w4 := y3.trans hx4
          refine hK.out _ _ (fun _ => y4) ?_
          clear hK K
          rw [← X3.out] at ho4 ⊢
          obtain ⟨v5, w5, hr5, ho5, y5⟩ := appOn HO3.out y3 hx4 ho4 HP.out.2.2.1 (by have := HL.out; simp only [List.length_append]; omega)
          refine w3_app rfl (.tmp 67) (.tmp 70) 95 rfl rfl rfl rfl hr5 (fun _ => y5) ?_
          clear hr5 ho4 hx4
          have HO5 := Lib.hid ho5
          clear ho5
          (repeat (first | ((apply w3_pure); (· go_simp); (· (intro w1; go_simp; try with_reducible rfl)); (intro K hK; go_simp; refine hK _ _ ?_; clear hK K)) | ((apply w3_skip); (· go_simp); (intro K hK; go_simp; refine hK _ _ ?_; clear hK K)) | (refine w3_end (by kernel_rfl) (fun K hK => ?_); go_simp; refine hK.out _ _ ?_; clear hK K))); refine w3_nil ?_
          clear y0 y1 y2 y3 y4
          have hB5 := Blk.ext HB.out y5
          have hh5 := Blk.has hB5
          have hg5 := Blk.gets hB5
          have hl5 := hB5.lt
          clear hB5
          go_upto_region 13 with (fail)
          as_aux_lemma =>
          go_step
          iterate 3 (refine wpList_step (fun K hK => ?_); go_simp; (try go_bits); refine hK _ _ ?_; clear hK K)
          refine wpList_step (fun K hK => ?_)
          go_simp
          have HKK := Lib.hid hK
          clear hK
          go_wp2_with fail
          refine (rnum_any L.mem HMok.out _).mono ?_
          rintro e w6 ⟨e6, hx6⟩
          rw [HDm.out.1] at e6
          subst e6
          refine HKK.out _ _ ?_
          clear hh5 hg5 hl5 HKK
          have y6 := y5.trans hx6
          refine wpList_step (fun K hK => ?_)
          go_simp
          have HKK := Lib.hid hK
          clear hK
          go_wp2_with fail
          refine (rnum01_any nm HDm.out.2 w6).mono ?_
          rintro e w7 ⟨g7, c7, rfl, ho7, hx7⟩
          refine HKK.out _ _ ?_
          clear HKK
          rw [← Xm.out] at ho7 ⊢
          obtain ⟨v8, w8, hr8, ho8, y8⟩ := appOn (own_ext HO5.out hx6) y6 hx7 ho7 HP.out.2.2.2.1 (by have := HL.out; simp only [List.length_append]; omega)
          refine wpList_app rfl (.tmp 72) (.tmp 76) 95 rfl rfl rfl rfl hr8 ?_
          clear hr8 ho7 hx7 hx6 y6 y5
          have HO8 := Lib.hid ho8
          clear ho8
          go_upto_region 14 with (fail)
          as_aux_lemma =>
          refine wp_region_3 (fun w2 => Ext W w2) [(0, 2), (1, 2), (2, 2), (3, 1), (6, 2), (7, 2), (8, 1), (11, 2), (12, 2), (13, 1), (16, 2), (17, 2), (18, 1), (4, 0), (5, 0), (9, 0), (10, 0), (14, 0), (15, 0), (19, 0), (20, 0), (21, 2)] (by kernel_rfl) (by kernel_rfl) (by kernel_rfl) (by kernel_rfl) ?_; intro l' hl'; simp only [List.map_cons, List.map_nil, List.getD_cons_zero, List.getD_cons_succ] at hl'; subst hl'
          (repeat (first | ((apply w3_pure); (· go_simp); (· (intro w1; go_simp; try with_reducible rfl)); (intro K hK; go_simp; refine hK _ _ ?_; clear hK K)) | ((apply w3_skip); (· go_simp); (intro K hK; go_simp; refine hK _ _ ?_; clear hK K)) | ((apply w3_take); (· exact (Kept.drew y8)); (· go_simp); (· (intro w1 hS; have d1 := Blk.cell (Blk.ext HB.out hS); have d2 := (Blk.ext HB.out hS).lt;  go_simp; try with_reducible rfl)); (intro K hK; go_simp; refine hK _ _ ?_; clear hK K)) | ((apply w3_pass); (· exact (Kept.drew y8)); (· go_simp); (intro K hK; go_simp; refine hK _ _ ?_; clear hK K))))
          have z0 : Ext W (w8 : World).drew := Kept.drew y8
          have HO9 := Lib.hid (own_ext HO8.out (Kept.refl (fun _ => False) w8).drew)
          (refine w3_act (fun K hK => ?_); go_simp)
          go_wp2_with fail
          refine (signed_any L.ins.op K4.out.1 K4.out.2 _).mono ?_
          rintro e wa4 ⟨ga4, ca4, rfl, hoa, hxa⟩
          have za4 : Ext W wa4 := z0.trans hxa
          refine hK.out _ _ (fun _ => za4) ?_
          clear hK K
          rw [← X4.out] at hoa ⊢
          obtain ⟨vb4, wb4, hrb, hob, zb4⟩ := appOn HO9.out z0 hxa hoa HP.out.2.2.2.2.1 (by have := HL.out; simp only [List.length_append]; omega)
          refine w3_app rfl (.tmp 78) (.tmp 82) 95 rfl rfl rfl rfl hrb (fun _ => zb4) ?_
          clear hrb hoa hxa
          have HOb4 := Lib.hid hob
          clear hob
          (repeat (first | ((apply w3_pure); (· go_simp); (· (intro w1; go_simp; try with_reducible rfl)); (intro K hK; go_simp; refine hK _ _ ?_; clear hK K)) | ((apply w3_skip); (· go_simp); (intro K hK; go_simp; refine hK _ _ ?_; clear hK K))))
          (refine w3_act (fun K hK => ?_); go_simp)
          go_wp2_with fail
          refine (signed_any L.ins.a K5.out.1 K5.out.2 _).mono ?_
          rintro e wa5 ⟨ga5, ca5, rfl, hoa, hxa⟩
          have za5 : Ext W wa5 := zb4.trans hxa
          refine hK.out _ _ (fun _ => za5) ?_
          clear hK K
          rw [← X5.out] at hoa ⊢
          obtain ⟨vb5, wb5, hrb, hob, zb5⟩ := appOn HOb4.out zb4 hxa hoa HP.out.2.2.2.2.2.1 (by have := HL.out; simp only [List.length_append]; omega)
          refine w3_app rfl (.tmp 83) (.tmp 87) 95 rfl rfl rfl rfl hrb (fun _ => zb5) ?_
          clear hrb hoa hxa
          have HOb5 := Lib.hid hob
          clear hob
          (repeat (first | ((apply w3_pure); (· go_simp); (· (intro w1; go_simp; try with_reducible rfl)); (intro K hK; go_simp; refine hK _ _ ?_; clear hK K)) | ((apply w3_skip); (· go_simp); (intro K hK; go_simp; refine hK _ _ ?_; clear hK K))))
          (refine w3_act (fun K hK => ?_); go_simp)
          go_wp2_with fail
          refine (signed_any L.ins.b K6.out.1 K6.out.2 _).mono ?_
          rintro e wa6 ⟨ga6, ca6, rfl, hoa, hxa⟩
          have za6 : Ext W wa6 := zb5.trans hxa
          refine hK.out _ _ (fun _ => za6) ?_
          clear hK K
          rw [← X6.out] at hoa ⊢
          obtain ⟨vb6, wb6, hrb, hob, zb6⟩ := appOn HOb5.out zb5 hxa hoa HP.out.2.2.2.2.2.2.1 (by have := HL.out; simp only [List.length_append]; omega)
          refine w3_app rfl (.tmp 88) (.tmp 92) 95 rfl rfl rfl rfl hrb (fun _ => zb6) ?_
          clear hrb hoa hxa
          have HOb6 := Lib.hid hob
          clear hob
          (repeat (first | ((apply w3_pure); (· go_simp); (· (intro w1; go_simp; try with_reducible rfl)); (intro K hK; go_simp; refine hK _ _ ?_; clear hK K)) | ((apply w3_skip); (· go_simp); (intro K hK; go_simp; refine hK _ _ ?_; clear hK K))))
          (refine w3_act (fun K hK => ?_); go_simp)
          go_wp2_with fail
          refine (signed_any L.ins.c K7.out.1 K7.out.2 _).mono ?_
          rintro e wa7 ⟨ga7, ca7, rfl, hoa, hxa⟩
          have za7 : Ext W wa7 := zb6.trans hxa
          refine hK.out _ _ (fun _ => za7) ?_
          clear hK K
          rw [← X7.out] at hoa ⊢
          obtain ⟨vb7, wb7, hrb, hob, zb7⟩ := appOn HOb6.out zb6 hxa hoa HP.out.2.2.2.2.2.2.2 (by have := HL.out; simp only [List.length_append]; omega)
          refine w3_app rfl (.tmp 93) (.tmp 97) 95 rfl rfl rfl rfl hrb (fun _ => zb7) ?_
          clear hrb hoa hxa
          have HOb7 := Lib.hid hob
          clear hob
          (repeat (first | ((apply w3_pure); (· go_simp); (· (intro w1; go_simp; try with_reducible rfl)); (intro K hK; go_simp; refine hK _ _ ?_; clear hK K)) | ((apply w3_skip); (· go_simp); (intro K hK; go_simp; refine hK _ _ ?_; clear hK K)) | (refine w3_end (by kernel_rfl) (fun K hK => ?_); go_simp; refine hK.out _ _ ?_; clear hK K))); refine w3_nil ?_
          clear z0 za4 zb4 za5 zb5 za6 zb6 za7
          obtain ⟨xs, hxs⟩ : ∃ xs, xs = x1 ++ x2 ++ x3 ++ xm ++ x4 ++ x5 ++ x6 ++ x7 := ⟨_, rfl⟩
          have hxl : xs.length ≤ 80 := by rw [hxs]; have := HL.out; simp only [List.length_append]; omega
          have HXL := Lib.hid hxl
          have hown := HOb7.out
          rw [← hxs] at hown
          have he := HE.out
          rw [← hxs] at he
          have HE' := Lib.hid he
          have HON := Lib.hid hown
          clear hxl hxs hown he
          go_upto_region 15 with (fail)
          as_aux_lemma =>
          refine wp_region_3 (fun w2 => Ext W w2) [(0, 2), (1, 2), (2, 1), (4, 2), (5, 1), (7, 2), (8, 1), (3, 0), (6, 0), (9, 0), (10, 2), (11, 2)] (by kernel_rfl) (by kernel_rfl) (by kernel_rfl) (by kernel_rfl) ?_; intro l' hl'; simp only [List.map_cons, List.map_nil, List.getD_cons_zero, List.getD_cons_succ] at hl'; subst hl'
          (repeat (first | ((apply w3_pure); (· go_simp); (· (intro w1; go_simp; try with_reducible rfl)); (intro K hK; go_simp; refine hK _ _ ?_; clear hK K)) | ((apply w3_skip); (· go_simp); (intro K hK; go_simp; refine hK _ _ ?_; clear hK K)) | ((apply w3_take); (· exact (Kept.drew zb7)); (· go_simp); (· (intro w1 hS; have d1 := Blk.cell (Blk.ext HB.out hS); have d2 := (Blk.ext HB.out hS).lt;  go_simp; try with_reducible rfl)); (intro K hK; go_simp; refine hK _ _ ?_; clear hK K)) | ((apply w3_pass); (· exact (Kept.drew zb7)); (· go_simp); (intro K hK; go_simp; refine hK _ _ ?_; clear hK K))))
          have q0 : Ext W wb7.drew := Kept.drew zb7
          (refine w3_act (fun K hK => ?_); go_simp)
          go_wp2_with fail
          refine (rpathB_any N t W vb7 xs pa pn pk L.path _ q0 (own_ext HON.out (Kept.refl (fun _ => False) wb7).drew) HW.out.path n1 HOK.out.digs (by have := HXL.out; omega)).mono ?_
          rintro e wp ⟨vp, rfl, hop, qp⟩
          refine hK.out _ _ (fun _ => qp) ?_
          clear hK K
          have HOp := Lib.hid hop
          clear hop
          (repeat (first | ((apply w3_pure); (· go_simp); (· (intro w1; go_simp; try with_reducible rfl)); (intro K hK; go_simp; refine hK _ _ ?_; clear hK K)) | ((apply w3_skip); (· go_simp); (intro K hK; go_simp; refine hK _ _ ?_; clear hK K))))
          (refine w3_act (fun K hK => ?_); go_simp)
          go_wp2_with fail
          refine (rwordsB_any N t tW W vp (xs ++ pathB L.path) ra rn rk L.reads _ qp HOp.out HW.out.reads (by omega) OR.out (by have := HXL.out; have := HSm.out; rw [List.length_append]; omega)).mono ?_
          rintro e wq ⟨vq, rfl, hoq, qq⟩
          refine hK.out _ _ (fun _ => qq) ?_
          clear hK K
          have HOq := Lib.hid hoq
          clear hoq
          (repeat (first | ((apply w3_pure); (· go_simp); (· (intro w1; go_simp; try with_reducible rfl)); (intro K hK; go_simp; refine hK _ _ ?_; clear hK K)) | ((apply w3_skip); (· go_simp); (intro K hK; go_simp; refine hK _ _ ?_; clear hK K))))
          (refine w3_act (fun K hK => ?_); go_simp)
          go_wp2_with fail
          refine (rwordsB_any N t tW W vq (xs ++ pathB L.path ++ wordsB L.reads) wa wn wk L.writes _ qq HOq.out HW.out.writes (by omega) OW.out (by have := HXL.out; have := HSm.out; simp only [List.length_append]; omega)).mono ?_
          rintro e wz ⟨vz, rfl, hoz, qz⟩
          refine hK.out _ _ (fun _ => qz) ?_
          clear hK K
          rw [← HE'.out] at hoz
          have HOz := Lib.hid (own_mono hoz HX0.out.size)
          clear hoz
          (repeat (first | ((apply w3_pure); (· go_simp); (· (intro w1; go_simp; try with_reducible rfl)); (intro K hK; go_simp; refine hK _ _ ?_; clear hK K)) | ((apply w3_skip); (· go_simp); (intro K hK; go_simp; refine hK _ _ ?_; clear hK K)) | (refine w3_end (by kernel_rfl) (fun K hK => ?_); go_simp; refine hK.out _ _ ?_; clear hK K))); refine w3_nil ?_
          clear q0 qp qq zb7
          go_wp2_with fail
          go_ret2
          exact ⟨_, rfl, HOz.out, HX0.out.trans qz⟩
end Go.Proofs.YtahljceanodhkaaGreatDoor

/- The document's bytes of a step that has none. -/
namespace Go.Proofs.YtahljceanodhkaaGreatDoor
open Go.RowKit
/-- is the path of one of the first j words too long? -/
def anyBad (ls : List Wl) (j : Nat) : Bool := (ls.take j).any fun x => decide (12 < x.path.length)
theorem anyBad_zero (ls : List Wl) : anyBad ls 0 = false := by simp [anyBad]
theorem anyBad_succ (ls : List Wl) (j : Nat) (h : j < ls.length) : anyBad ls (j + 1) = (anyBad ls j || decide (12 < (ls[j]).path.length)) := by
  unfold anyBad
  rw [List.take_succ_eq_append_getElem h, List.any_append]
  simp
def c0L (L : Sl) : Bool := decide (12 < L.path.length) || decide (3 < L.reads.length) || decide (1 < L.writes.length)
theorem bad_of {L : Sl} (h : mayL L = false) : (c0L L || anyBad L.reads L.reads.length || anyBad L.writes L.writes.length) = true := by
  rw [← Bool.not_eq_false]
  intro q
  rw [← Bool.not_eq_true] at h
  apply h
  simp [c0L, anyBad] at q
  simp [mayL]
  obtain ⟨⟨⟨⟨h1, h2⟩, h3⟩, h4⟩, h5⟩ := q
  exact ⟨⟨⟨h1, h2⟩, h3⟩, h4, h5⟩
set_option maxRecDepth 100000 in
set_option maxHeartbeats 4000000 in
theorem rencode_no (N : Nat) (t tW : TypeId) (s : Ws) (L : Sl) (w : World) (h : SV N t tW w s L) (hm : mayL L = false) (hlr : L.reads.length ≤ 1000) (hlw : L.writes.length ≤ 1000) :
    Calls Tryz.prog 54 #[.agg s.cells] w fun e w' => e = .returned (.tuple #[.slice none 0 0, .int .i64 2]) ∧ Ext w w' := by
  have hbad := bad_of hm
  have hp := h.path.len
  have hr := h.reads.len
  have hw := h.writes.len
  have HH := Lib.hid h
  have HBAD := Lib.hid hbad
  obtain ⟨pc, halt, words, mem, ins, pa, pn, pk, ra, rn, rk, wa, wn, wk⟩ := s
  simp only at hp hr hw
  have NR := Lib.hid hr
  have NW := Lib.hid hw
  have hd : c0L L = (decide ((12 : Int) < pn) || decide ((3 : Int) < rn) || decide ((1 : Int) < wn)) := by
    unfold c0L
    rw [← hp, ← hr, ← hw]
    congr 1
    congr 1
    all_goals (rw [decide_eq_decide]; omega)
  have hlr' : rn ≤ 1000 := by omega
  have hlw' : wn ≤ 1000 := by omega
  clear h hm hbad hp hr hw hlr hlw
  have hx0 : Ext w _ := (Kept.refl _ w).alloc (.cells (Ws.cells ⟨pc, halt, words, mem, ins, pa, pn, pk, ra, rn, rk, wa, wn, wk⟩) 92)
  have hB0 := Blk.new w 92 (Ws.cells ⟨pc, halt, words, mem, ins, pa, pn, pk, ra, rn, rk, wa, wn, wk⟩)
  obtain ⟨ab, hab⟩ : ∃ ab, ab = w.heap.size := ⟨_, rfl⟩
  rw [← hab] at hB0
  have HAB := Lib.hid hab
  clear hab
  go_enter Tryz.func54, Tryz.ntmps54
  go_upto_region 1 with (fail)
  rw [← HAB.out]
  generalize (w.alloc (.cells (Ws.cells ⟨pc, halt, words, mem, ins, pa, pn, pk, ra, rn, rk, wa, wn, wk⟩) 92)) = W at hx0 hB0 ⊢
  have HX0 := Lib.hid hx0
  have HW := Lib.hid (HH.out.ext hx0)
  have HB := Lib.hid hB0
  have hc0 := Blk.cell hB0
  have hl0 := hB0.lt
  clear hx0 HH hB0
  by_cases c1 : (12 : Int) < pn
  · have HC0 := Lib.hid (show c0L L = true by rw [hd]; simp [c1])
    clear hd
    go_wp2_with fail
    go_loopw [4, 5] (fun t4 t5 wr => ∃ (j : Nat) (b : Bool), j ≤ rn ∧ t5 = .int .i64 j ∧ t4 = .bool b ∧ b = (c0L L || anyBad L.reads j) ∧ Ext W wr) (fun _ t5 _ => rn - (intOf t5).toNat)
    case atStart => exact ⟨0, _, by omega, rfl, rfl, by rw [anyBad_zero, Bool.or_false]; exact HC0.out.symm, Kept.refl _ W⟩
    case round =>
      obtain ⟨j, b, hj, rfl, rfl, hb, hx⟩ := hrel
      have HBB := Lib.hid hb
      clear hc0 hl0 hb
      have hB1 := Blk.ext HB.out hx
      have hc1 := Blk.cell hB1
      have hl1 := hB1.lt
      by_cases hlt : j < rn
      · obtain ⟨_, bb, off, ds, hA, hr, _, hg⟩ := HW.out.reads.ext hx
        have hjl : j < L.reads.length := by have := NR.out; omega
        have hjd : j < ds.length := by rw [hg.len]; exact hjl
        obtain rfl := hA (by omega)
        have a2 := ((hr (by omega)).wdc j hjd).2.2
        have hbl := (hr (by omega)).lt
        have hpl := (hg.get j hjd hjl).path.len
        have hs := anyBad_succ L.reads j hjl
        rw [← hpl] at hs
        obtain ⟨D, hD⟩ : ∃ D, D = ds[j] := ⟨_, rfl⟩
        rw [← hD] at a2 hs
        have HS := Lib.hid hs
        have hltI : (j : Int) < rn := by omega
        have hj0 : (0 : Int) ≤ j := by omega
        clear hr hg hD hpl hjl hjd hB1 hA hs
        cases b
        · by_cases hcm : (12 : Int) < D.pn
          · go_wp2_with fail
            go_roundw
            case rel => exact ⟨j + 1, _, hlt, by go_num, rfl, by have h1 := HBB.out; rw [HS.out, ← Bool.or_assoc, ← h1]; simp <;> omega, hx⟩
            case measure => simp only [intOf]; omega
          · go_wp2_with fail
            go_roundw
            case rel => exact ⟨j + 1, _, hlt, by go_num, rfl, by have h1 := HBB.out; rw [HS.out, ← Bool.or_assoc, ← h1]; simp <;> omega, hx⟩
            case measure => simp only [intOf]; omega
        · go_wp2_with fail
          go_roundw
          case rel => exact ⟨j + 1, _, hlt, by go_num, rfl, by have h1 := HBB.out; rw [HS.out, ← Bool.or_assoc, ← h1]; simp, hx⟩
          case measure => simp only [intOf]; omega
      · have hltI : ¬ (j : Int) < rn := by omega
        have hb2 : b = (c0L L || anyBad L.reads L.reads.length) := by rw [HBB.out]; congr 2; have := NR.out; omega
        have HB2 := Lib.hid hb2
        clear hB1 hb2
        go_wp2_with fail
        go_loopw [4, 6] (fun t4 t6 wr => ∃ (j : Nat) (b : Bool), j ≤ wn ∧ t6 = .int .i64 j ∧ t4 = .bool b ∧ b = (c0L L || anyBad L.reads L.reads.length || anyBad L.writes j) ∧ Ext W wr) (fun _ t6 _ => wn - (intOf t6).toNat)
        case atStart => exact ⟨0, _, by omega, rfl, rfl, by rw [anyBad_zero, Bool.or_false]; exact HB2.out, hx⟩
        case round =>
          clear hc1 hl1 hx
          obtain ⟨i, b, hi, rfl, rfl, hb, hx⟩ := hrel
          have HBW := Lib.hid hb
          clear hb
          have hB1 := Blk.ext HB.out hx
          have hc1 := Blk.cell hB1
          have hl1 := hB1.lt
          by_cases hlt : i < wn
          · obtain ⟨_, bb, off, ds, hA, hr, _, hg⟩ := HW.out.writes.ext hx
            have hjl : i < L.writes.length := by have := NW.out; omega
            have hjd : i < ds.length := by rw [hg.len]; exact hjl
            obtain rfl := hA (by omega)
            have a2 := ((hr (by omega)).wdc i hjd).2.2
            have hbl := (hr (by omega)).lt
            have hpl := (hg.get i hjd hjl).path.len
            have hs := anyBad_succ L.writes i hjl
            rw [← hpl] at hs
            obtain ⟨D, hD⟩ : ∃ D, D = ds[i] := ⟨_, rfl⟩
            rw [← hD] at a2 hs
            have HS := Lib.hid hs
            have hltI : (i : Int) < wn := by omega
            have hj0 : (0 : Int) ≤ i := by omega
            clear hr hg hD hpl hjl hjd hB1 hA hs
            cases b
            · by_cases hcm : (12 : Int) < D.pn
              · go_wp2_with fail
                go_roundw
                case rel => exact ⟨i + 1, _, hlt, by go_num, rfl, by have h1 := HBW.out; rw [HS.out, ← Bool.or_assoc, ← h1]; simp <;> omega, hx⟩
                case measure => simp only [intOf]; omega
              · go_wp2_with fail
                go_roundw
                case rel => exact ⟨i + 1, _, hlt, by go_num, rfl, by have h1 := HBW.out; rw [HS.out, ← Bool.or_assoc, ← h1]; simp <;> omega, hx⟩
                case measure => simp only [intOf]; omega
            · go_wp2_with fail
              go_roundw
              case rel => exact ⟨i + 1, _, hlt, by go_num, rfl, by have h1 := HBW.out; rw [HS.out, ← Bool.or_assoc, ← h1]; simp, hx⟩
              case measure => simp only [intOf]; omega
          · have hltI : ¬ (i : Int) < wn := by omega
            have hbt : b = true := by rw [HBW.out, ← HBAD.out]; congr 2; have := NW.out; omega
            subst hbt
            clear hB1
            go_wp2_with fail
            go_ret2
            exact ⟨rfl, HX0.out.trans hx⟩
  · by_cases c2 : (3 : Int) < rn
    · have HC0 := Lib.hid (show c0L L = true by rw [hd]; simp [c1, c2])
      clear hd
      go_wp2_with fail
      go_loopw [4, 5] (fun t4 t5 wr => ∃ (j : Nat) (b : Bool), j ≤ rn ∧ t5 = .int .i64 j ∧ t4 = .bool b ∧ b = (c0L L || anyBad L.reads j) ∧ Ext W wr) (fun _ t5 _ => rn - (intOf t5).toNat)
      case atStart => exact ⟨0, _, by omega, rfl, rfl, by rw [anyBad_zero, Bool.or_false]; exact HC0.out.symm, Kept.refl _ W⟩
      case round =>
        obtain ⟨j, b, hj, rfl, rfl, hb, hx⟩ := hrel
        have HBB := Lib.hid hb
        clear hc0 hl0 hb
        have hB1 := Blk.ext HB.out hx
        have hc1 := Blk.cell hB1
        have hl1 := hB1.lt
        by_cases hlt : j < rn
        · obtain ⟨_, bb, off, ds, hA, hr, _, hg⟩ := HW.out.reads.ext hx
          have hjl : j < L.reads.length := by have := NR.out; omega
          have hjd : j < ds.length := by rw [hg.len]; exact hjl
          obtain rfl := hA (by omega)
          have a2 := ((hr (by omega)).wdc j hjd).2.2
          have hbl := (hr (by omega)).lt
          have hpl := (hg.get j hjd hjl).path.len
          have hs := anyBad_succ L.reads j hjl
          rw [← hpl] at hs
          obtain ⟨D, hD⟩ : ∃ D, D = ds[j] := ⟨_, rfl⟩
          rw [← hD] at a2 hs
          have HS := Lib.hid hs
          have hltI : (j : Int) < rn := by omega
          have hj0 : (0 : Int) ≤ j := by omega
          clear hr hg hD hpl hjl hjd hB1 hA hs
          cases b
          · by_cases hcm : (12 : Int) < D.pn
            · go_wp2_with fail
              go_roundw
              case rel => exact ⟨j + 1, _, hlt, by go_num, rfl, by have h1 := HBB.out; rw [HS.out, ← Bool.or_assoc, ← h1]; simp <;> omega, hx⟩
              case measure => simp only [intOf]; omega
            · go_wp2_with fail
              go_roundw
              case rel => exact ⟨j + 1, _, hlt, by go_num, rfl, by have h1 := HBB.out; rw [HS.out, ← Bool.or_assoc, ← h1]; simp <;> omega, hx⟩
              case measure => simp only [intOf]; omega
          · go_wp2_with fail
            go_roundw
            case rel => exact ⟨j + 1, _, hlt, by go_num, rfl, by have h1 := HBB.out; rw [HS.out, ← Bool.or_assoc, ← h1]; simp, hx⟩
            case measure => simp only [intOf]; omega
        · have hltI : ¬ (j : Int) < rn := by omega
          have hb2 : b = (c0L L || anyBad L.reads L.reads.length) := by rw [HBB.out]; congr 2; have := NR.out; omega
          have HB2 := Lib.hid hb2
          clear hB1 hb2
          go_wp2_with fail
          go_loopw [4, 6] (fun t4 t6 wr => ∃ (j : Nat) (b : Bool), j ≤ wn ∧ t6 = .int .i64 j ∧ t4 = .bool b ∧ b = (c0L L || anyBad L.reads L.reads.length || anyBad L.writes j) ∧ Ext W wr) (fun _ t6 _ => wn - (intOf t6).toNat)
          case atStart => exact ⟨0, _, by omega, rfl, rfl, by rw [anyBad_zero, Bool.or_false]; exact HB2.out, hx⟩
          case round =>
            clear hc1 hl1 hx
            obtain ⟨i, b, hi, rfl, rfl, hb, hx⟩ := hrel
            have HBW := Lib.hid hb
            clear hb
            have hB1 := Blk.ext HB.out hx
            have hc1 := Blk.cell hB1
            have hl1 := hB1.lt
            by_cases hlt : i < wn
            · obtain ⟨_, bb, off, ds, hA, hr, _, hg⟩ := HW.out.writes.ext hx
              have hjl : i < L.writes.length := by have := NW.out; omega
              have hjd : i < ds.length := by rw [hg.len]; exact hjl
              obtain rfl := hA (by omega)
              have a2 := ((hr (by omega)).wdc i hjd).2.2
              have hbl := (hr (by omega)).lt
              have hpl := (hg.get i hjd hjl).path.len
              have hs := anyBad_succ L.writes i hjl
              rw [← hpl] at hs
              obtain ⟨D, hD⟩ : ∃ D, D = ds[i] := ⟨_, rfl⟩
              rw [← hD] at a2 hs
              have HS := Lib.hid hs
              have hltI : (i : Int) < wn := by omega
              have hj0 : (0 : Int) ≤ i := by omega
              clear hr hg hD hpl hjl hjd hB1 hA hs
              cases b
              · by_cases hcm : (12 : Int) < D.pn
                · go_wp2_with fail
                  go_roundw
                  case rel => exact ⟨i + 1, _, hlt, by go_num, rfl, by have h1 := HBW.out; rw [HS.out, ← Bool.or_assoc, ← h1]; simp <;> omega, hx⟩
                  case measure => simp only [intOf]; omega
                · go_wp2_with fail
                  go_roundw
                  case rel => exact ⟨i + 1, _, hlt, by go_num, rfl, by have h1 := HBW.out; rw [HS.out, ← Bool.or_assoc, ← h1]; simp <;> omega, hx⟩
                  case measure => simp only [intOf]; omega
              · go_wp2_with fail
                go_roundw
                case rel => exact ⟨i + 1, _, hlt, by go_num, rfl, by have h1 := HBW.out; rw [HS.out, ← Bool.or_assoc, ← h1]; simp, hx⟩
                case measure => simp only [intOf]; omega
            · have hltI : ¬ (i : Int) < wn := by omega
              have hbt : b = true := by rw [HBW.out, ← HBAD.out]; congr 2; have := NW.out; omega
              subst hbt
              clear hB1
              go_wp2_with fail
              go_ret2
              exact ⟨rfl, HX0.out.trans hx⟩
    · by_cases c3 : (1 : Int) < wn
      · have HC0 := Lib.hid (show c0L L = true by rw [hd]; simp [c1, c2, c3])
        clear hd
        go_wp2_with fail
        go_loopw [4, 5] (fun t4 t5 wr => ∃ (j : Nat) (b : Bool), j ≤ rn ∧ t5 = .int .i64 j ∧ t4 = .bool b ∧ b = (c0L L || anyBad L.reads j) ∧ Ext W wr) (fun _ t5 _ => rn - (intOf t5).toNat)
        case atStart => exact ⟨0, _, by omega, rfl, rfl, by rw [anyBad_zero, Bool.or_false]; exact HC0.out.symm, Kept.refl _ W⟩
        case round =>
          obtain ⟨j, b, hj, rfl, rfl, hb, hx⟩ := hrel
          have HBB := Lib.hid hb
          clear hc0 hl0 hb
          have hB1 := Blk.ext HB.out hx
          have hc1 := Blk.cell hB1
          have hl1 := hB1.lt
          by_cases hlt : j < rn
          · obtain ⟨_, bb, off, ds, hA, hr, _, hg⟩ := HW.out.reads.ext hx
            have hjl : j < L.reads.length := by have := NR.out; omega
            have hjd : j < ds.length := by rw [hg.len]; exact hjl
            obtain rfl := hA (by omega)
            have a2 := ((hr (by omega)).wdc j hjd).2.2
            have hbl := (hr (by omega)).lt
            have hpl := (hg.get j hjd hjl).path.len
            have hs := anyBad_succ L.reads j hjl
            rw [← hpl] at hs
            obtain ⟨D, hD⟩ : ∃ D, D = ds[j] := ⟨_, rfl⟩
            rw [← hD] at a2 hs
            have HS := Lib.hid hs
            have hltI : (j : Int) < rn := by omega
            have hj0 : (0 : Int) ≤ j := by omega
            clear hr hg hD hpl hjl hjd hB1 hA hs
            cases b
            · by_cases hcm : (12 : Int) < D.pn
              · go_wp2_with fail
                go_roundw
                case rel => exact ⟨j + 1, _, hlt, by go_num, rfl, by have h1 := HBB.out; rw [HS.out, ← Bool.or_assoc, ← h1]; simp <;> omega, hx⟩
                case measure => simp only [intOf]; omega
              · go_wp2_with fail
                go_roundw
                case rel => exact ⟨j + 1, _, hlt, by go_num, rfl, by have h1 := HBB.out; rw [HS.out, ← Bool.or_assoc, ← h1]; simp <;> omega, hx⟩
                case measure => simp only [intOf]; omega
            · go_wp2_with fail
              go_roundw
              case rel => exact ⟨j + 1, _, hlt, by go_num, rfl, by have h1 := HBB.out; rw [HS.out, ← Bool.or_assoc, ← h1]; simp, hx⟩
              case measure => simp only [intOf]; omega
          · have hltI : ¬ (j : Int) < rn := by omega
            have hb2 : b = (c0L L || anyBad L.reads L.reads.length) := by rw [HBB.out]; congr 2; have := NR.out; omega
            have HB2 := Lib.hid hb2
            clear hB1 hb2
            go_wp2_with fail
            go_loopw [4, 6] (fun t4 t6 wr => ∃ (j : Nat) (b : Bool), j ≤ wn ∧ t6 = .int .i64 j ∧ t4 = .bool b ∧ b = (c0L L || anyBad L.reads L.reads.length || anyBad L.writes j) ∧ Ext W wr) (fun _ t6 _ => wn - (intOf t6).toNat)
            case atStart => exact ⟨0, _, by omega, rfl, rfl, by rw [anyBad_zero, Bool.or_false]; exact HB2.out, hx⟩
            case round =>
              clear hc1 hl1 hx
              obtain ⟨i, b, hi, rfl, rfl, hb, hx⟩ := hrel
              have HBW := Lib.hid hb
              clear hb
              have hB1 := Blk.ext HB.out hx
              have hc1 := Blk.cell hB1
              have hl1 := hB1.lt
              by_cases hlt : i < wn
              · obtain ⟨_, bb, off, ds, hA, hr, _, hg⟩ := HW.out.writes.ext hx
                have hjl : i < L.writes.length := by have := NW.out; omega
                have hjd : i < ds.length := by rw [hg.len]; exact hjl
                obtain rfl := hA (by omega)
                have a2 := ((hr (by omega)).wdc i hjd).2.2
                have hbl := (hr (by omega)).lt
                have hpl := (hg.get i hjd hjl).path.len
                have hs := anyBad_succ L.writes i hjl
                rw [← hpl] at hs
                obtain ⟨D, hD⟩ : ∃ D, D = ds[i] := ⟨_, rfl⟩
                rw [← hD] at a2 hs
                have HS := Lib.hid hs
                have hltI : (i : Int) < wn := by omega
                have hj0 : (0 : Int) ≤ i := by omega
                clear hr hg hD hpl hjl hjd hB1 hA hs
                cases b
                · by_cases hcm : (12 : Int) < D.pn
                  · go_wp2_with fail
                    go_roundw
                    case rel => exact ⟨i + 1, _, hlt, by go_num, rfl, by have h1 := HBW.out; rw [HS.out, ← Bool.or_assoc, ← h1]; simp <;> omega, hx⟩
                    case measure => simp only [intOf]; omega
                  · go_wp2_with fail
                    go_roundw
                    case rel => exact ⟨i + 1, _, hlt, by go_num, rfl, by have h1 := HBW.out; rw [HS.out, ← Bool.or_assoc, ← h1]; simp <;> omega, hx⟩
                    case measure => simp only [intOf]; omega
                · go_wp2_with fail
                  go_roundw
                  case rel => exact ⟨i + 1, _, hlt, by go_num, rfl, by have h1 := HBW.out; rw [HS.out, ← Bool.or_assoc, ← h1]; simp, hx⟩
                  case measure => simp only [intOf]; omega
              · have hltI : ¬ (i : Int) < wn := by omega
                have hbt : b = true := by rw [HBW.out, ← HBAD.out]; congr 2; have := NW.out; omega
                subst hbt
                clear hB1
                go_wp2_with fail
                go_ret2
                exact ⟨rfl, HX0.out.trans hx⟩
      · have HC0 := Lib.hid (show c0L L = false by rw [hd]; simp [c1, c2, c3])
        clear hd
        go_wp2_with fail
        go_loopw [4, 5] (fun t4 t5 wr => ∃ (j : Nat) (b : Bool), j ≤ rn ∧ t5 = .int .i64 j ∧ t4 = .bool b ∧ b = (c0L L || anyBad L.reads j) ∧ Ext W wr) (fun _ t5 _ => rn - (intOf t5).toNat)
        case atStart => exact ⟨0, _, by omega, rfl, rfl, by rw [anyBad_zero, Bool.or_false]; exact HC0.out.symm, Kept.refl _ W⟩
        case round =>
          obtain ⟨j, b, hj, rfl, rfl, hb, hx⟩ := hrel
          have HBB := Lib.hid hb
          clear hc0 hl0 hb
          have hB1 := Blk.ext HB.out hx
          have hc1 := Blk.cell hB1
          have hl1 := hB1.lt
          by_cases hlt : j < rn
          · obtain ⟨_, bb, off, ds, hA, hr, _, hg⟩ := HW.out.reads.ext hx
            have hjl : j < L.reads.length := by have := NR.out; omega
            have hjd : j < ds.length := by rw [hg.len]; exact hjl
            obtain rfl := hA (by omega)
            have a2 := ((hr (by omega)).wdc j hjd).2.2
            have hbl := (hr (by omega)).lt
            have hpl := (hg.get j hjd hjl).path.len
            have hs := anyBad_succ L.reads j hjl
            rw [← hpl] at hs
            obtain ⟨D, hD⟩ : ∃ D, D = ds[j] := ⟨_, rfl⟩
            rw [← hD] at a2 hs
            have HS := Lib.hid hs
            have hltI : (j : Int) < rn := by omega
            have hj0 : (0 : Int) ≤ j := by omega
            clear hr hg hD hpl hjl hjd hB1 hA hs
            cases b
            · by_cases hcm : (12 : Int) < D.pn
              · go_wp2_with fail
                go_roundw
                case rel => exact ⟨j + 1, _, hlt, by go_num, rfl, by have h1 := HBB.out; rw [HS.out, ← Bool.or_assoc, ← h1]; simp <;> omega, hx⟩
                case measure => simp only [intOf]; omega
              · go_wp2_with fail
                go_roundw
                case rel => exact ⟨j + 1, _, hlt, by go_num, rfl, by have h1 := HBB.out; rw [HS.out, ← Bool.or_assoc, ← h1]; simp <;> omega, hx⟩
                case measure => simp only [intOf]; omega
            · go_wp2_with fail
              go_roundw
              case rel => exact ⟨j + 1, _, hlt, by go_num, rfl, by have h1 := HBB.out; rw [HS.out, ← Bool.or_assoc, ← h1]; simp, hx⟩
              case measure => simp only [intOf]; omega
          · have hltI : ¬ (j : Int) < rn := by omega
            have hb2 : b = (c0L L || anyBad L.reads L.reads.length) := by rw [HBB.out]; congr 2; have := NR.out; omega
            have HB2 := Lib.hid hb2
            clear hB1 hb2
            go_wp2_with fail
            go_loopw [4, 6] (fun t4 t6 wr => ∃ (j : Nat) (b : Bool), j ≤ wn ∧ t6 = .int .i64 j ∧ t4 = .bool b ∧ b = (c0L L || anyBad L.reads L.reads.length || anyBad L.writes j) ∧ Ext W wr) (fun _ t6 _ => wn - (intOf t6).toNat)
            case atStart => exact ⟨0, _, by omega, rfl, rfl, by rw [anyBad_zero, Bool.or_false]; exact HB2.out, hx⟩
            case round =>
              clear hc1 hl1 hx
              obtain ⟨i, b, hi, rfl, rfl, hb, hx⟩ := hrel
              have HBW := Lib.hid hb
              clear hb
              have hB1 := Blk.ext HB.out hx
              have hc1 := Blk.cell hB1
              have hl1 := hB1.lt
              by_cases hlt : i < wn
              · obtain ⟨_, bb, off, ds, hA, hr, _, hg⟩ := HW.out.writes.ext hx
                have hjl : i < L.writes.length := by have := NW.out; omega
                have hjd : i < ds.length := by rw [hg.len]; exact hjl
                obtain rfl := hA (by omega)
                have a2 := ((hr (by omega)).wdc i hjd).2.2
                have hbl := (hr (by omega)).lt
                have hpl := (hg.get i hjd hjl).path.len
                have hs := anyBad_succ L.writes i hjl
                rw [← hpl] at hs
                obtain ⟨D, hD⟩ : ∃ D, D = ds[i] := ⟨_, rfl⟩
                rw [← hD] at a2 hs
                have HS := Lib.hid hs
                have hltI : (i : Int) < wn := by omega
                have hj0 : (0 : Int) ≤ i := by omega
                clear hr hg hD hpl hjl hjd hB1 hA hs
                cases b
                · by_cases hcm : (12 : Int) < D.pn
                  · go_wp2_with fail
                    go_roundw
                    case rel => exact ⟨i + 1, _, hlt, by go_num, rfl, by have h1 := HBW.out; rw [HS.out, ← Bool.or_assoc, ← h1]; simp <;> omega, hx⟩
                    case measure => simp only [intOf]; omega
                  · go_wp2_with fail
                    go_roundw
                    case rel => exact ⟨i + 1, _, hlt, by go_num, rfl, by have h1 := HBW.out; rw [HS.out, ← Bool.or_assoc, ← h1]; simp <;> omega, hx⟩
                    case measure => simp only [intOf]; omega
                · go_wp2_with fail
                  go_roundw
                  case rel => exact ⟨i + 1, _, hlt, by go_num, rfl, by have h1 := HBW.out; rw [HS.out, ← Bool.or_assoc, ← h1]; simp, hx⟩
                  case measure => simp only [intOf]; omega
              · have hltI : ¬ (i : Int) < wn := by omega
                have hbt : b = true := by rw [HBW.out, ← HBAD.out]; congr 2; have := NW.out; omega
                subst hbt
                clear hB1
                go_wp2_with fail
                go_ret2
                exact ⟨rfl, HX0.out.trans hx⟩
end Go.Proofs.YtahljceanodhkaaGreatDoor

/- The statement WitnessBytes: what its walk needs. -/
namespace Go.Proofs.YtahljceanodhkaaGreatDoor
open Go.RowKit
/-- bytes as a string, wherever they lie -/
theorem convB (w : World) (A : Option Addr) (b off n c : Nat) (l : List Int) (hn : n = l.length) (hA : 0 < n → A = some ⟨b, off, none⟩) (hr : 0 < n → Row w b off (byts l)) :
    (convert 95 9 (.slice A n c)).run Tryz.prog w = .ok (.string (strOfNums l)) w := by
  by_cases h0 : 0 < n
  · obtain rfl := hA h0
    exact run_convert_bytes_arg (P := Tryz.prog) w 95 5 Tryz.underlying95 Tryz.underlying5 b off n c l hn.symm (fun i hi => by
      have hil : i < l.length := by omega
      have := (hr h0).cell i (by rw [byts_length]; exact hil)
      rw [this]
      simp [byts, hil]) _ Tryz.underlying9
  · obtain rfl : n = 0 := by omega
    obtain rfl : l = [] := List.eq_nil_of_length_eq_zero hn.symm
    rw [run_convert_bytes_string (P := Tryz.prog) w _ _ _ A 0 c Tryz.underlying95 Tryz.underlying5 Tryz.underlying9]
    rcases A with _ | a
    · simp [Conv.bytesToString, strOfNums]
      rfl
    · have hl : (loadCells a 0).run Tryz.prog w = .ok (([] : List Int).map (Value.int .u8)).toArray w := by simp [loadCells, loadCellsFrom]
      rw [run_bytesToString (P := Tryz.prog) w a 0 c [] hl]
      rfl
theorem bytesOk_flatMap {α : Type} {f : α → List Int} (h : ∀ a, BytesOk (f a)) : ∀ l : List α, BytesOk (l.flatMap f) := fun l x hx => by
  obtain ⟨a, _, ha⟩ := List.mem_flatMap.1 hx
  exact h a x ha
theorem pathB_ok (l : List Dg) : BytesOk (pathB l) := by
  rw [pathB_eq]
  exact bytesOk_app (vint_ok _) (bytesOk_flatMap (fun d => vint_ok _) l)
theorem wordsB_ok (l : List Wl) : BytesOk (wordsB l) := by
  rw [wordsB_eq]
  exact bytesOk_app (vint_ok _) (bytesOk_flatMap (fun d => bytesOk_app (bytesOk_app (vint_ok _) (vint_ok _)) (pathB_ok _)) l)
theorem encB_ok (s : Sl) : BytesOk (encB s) := by
  rw [encB_eq]
  exact bytesOk_app (bytesOk_flatMap (fun n => vint_ok n) _) (bytesOk_app (pathB_ok _) (bytesOk_app (wordsB_ok _) (wordsB_ok _)))
theorem wordsB_len {l : List Wl} (hl : l.length ≤ 3) (hok : ∀ x ∈ l, x.ok) : (wordsB l).length ≤ 428 := by
  have := wordsK_len (l := l) (by omega) hok l.length (Nat.le_refl _)
  unfold wordsB
  omega
theorem encB_len {L : Sl} (hok : L.ok) (hm : mayL L = true) : (encB L).length ≤ 2000 := by
  obtain ⟨m1, m2, m3, m4, m5⟩ := mayL_inv hm
  have h1 := pathB_len m1 hok.digs
  have h2 := wordsB_len m2 (fun x hx => ⟨(hok.reads x hx).1, (hok.reads x hx).2.1, m4 x hx, (hok.reads x hx).2.2⟩)
  have h3 := wordsB_len (by omega) (fun x hx => ⟨(hok.writes x hx).1, (hok.writes x hx).2.1, m5 x hx, (hok.writes x hx).2.2⟩)
  have h4 := headK_len hok 3
  have h5 : (vint (numN L.mem)).length ≤ 10 := vint_len 10 _ (by have := (numD_bd hok.mem).2; omega) (by omega)
  have h6 := instrB_len hok.ins
  unfold encB
  simp only [List.length_append]
  omega
def zeroL : Sl := ⟨0, 0, 0, Dg.zero, ⟨0, 0, 0, 0⟩, [], [], []⟩
theorem zero_sv (N : Nat) (t tW : TypeId) (w : World) : SV N t tW w zeroS zeroL :=
  ⟨rfl, rfl, rfl, rfl, rfl, ⟨rfl, fun h => absurd h (by decide)⟩, ⟨rfl, 0, 0, [], fun h => absurd h (by decide), fun h => absurd h (by decide), fun h => absurd h (by decide), .nil⟩, ⟨rfl, 0, 0, [], fun h => absurd h (by decide), fun h => absurd h (by decide), fun h => absurd h (by decide), .nil⟩⟩
theorem zero_fits : Fits zeroL := ⟨by decide, by decide, by decide, fun x hx => absurd hx (by simp [zeroL]), fun x hx => absurd hx (by simp [zeroL])⟩
theorem may_fits {L : Sl} (h : mayL L = true) : Fits L := by
  obtain ⟨m1, m2, m3, m4, m5⟩ := mayL_inv h
  exact ⟨by omega, by omega, by omega, fun x hx => by have := m4 x hx; omega, fun x hx => by have := m5 x hx; omega⟩
/-- what the bytes show -/
def stepL (l : List Int) : Sl := if decE l = 0 then decS l else zeroL
theorem stepL_fits {l : List Int} (hb : BytesOk l) : Fits (stepL l) := by
  unfold stepL
  split
  · rename_i h
    exact may_fits (enc_dec hb h).1
  · exact zero_fits
/-- the program's reading -/
theorem pdecode_st (A0 : Option Addr) (n cap0 : Nat) (l : List Int) (N : Nat) (w : World) (h : BSl w N A0 n cap0 l) :
    Calls Tryz.prog 55 #[.slice A0 n cap0] w fun e w' => ∃ s, e = .returned (.tuple #[.agg (Ws.cells s), .int .i64 (decE l)]) ∧ SV 0 30 77 w' s (stepL l) ∧ Ext w w' := by
  refine (pdecode_any A0 n cap0 l N w h).mono ?_
  rintro e w' ⟨s, rfl, h1, h2, hx⟩
  obtain ⟨e1, e2⟩ := dec_same l
  rw [e1] at h1 h2 ⊢
  refine ⟨s, rfl, ?_, hx⟩
  unfold stepL
  split
  · rename_i h0
    rw [← e2 h0]
    exact h1 h0
  · rename_i h0
    rw [h2 h0]
    exact zero_sv _ _ _ _
/-- the document's reading -/
theorem rdecode_st (A : Option Addr) (n cap : Nat) (l : List Int) (N : Nat) (w : World) (hN : N ≤ w.heap.size) (h : BSl w N A n cap l) :
    Calls Tryz.prog 56 #[.slice A n cap] w fun e w' => ∃ s, e = .returned (.tuple #[.agg (Ws.cells s), .int .i64 (decE l)]) ∧ SV 0 23 163 w' s (stepL l) ∧ Ext w w' := by
  refine (rdecode_any A n cap l N w hN h).mono ?_
  rintro e w' ⟨s, rfl, h1, h2, hx⟩
  refine ⟨s, rfl, ?_, hx⟩
  unfold stepL
  split
  · rename_i h0
    exact h1 h0
  · rename_i h0
    rw [h2 h0]
    exact zero_sv _ _ _ _
/-- bytes somewhere -/
structure ByAt (w : World) (A : Option Addr) (n : Nat) (l : List Int) : Prop where
  len : n = l.length
  row : ∃ b off, (0 < n → A = some ⟨b, off, none⟩) ∧ (0 < n → Row w b off (byts l))
theorem ByAt.ext {w w' : World} {A : Option Addr} {n : Nat} {l : List Int} (h : ByAt w A n l) (hx : Ext w w') : ByAt w' A n l := by
  obtain ⟨h1, b, off, h2, h3⟩ := h
  exact ⟨h1, b, off, h2, fun h0 => (h3 h0).ext hx⟩
theorem ByAt.conv {w : World} {A : Option Addr} {n : Nat} {l : List Int} (h : ByAt w A n l) (c : Nat) : (convert 95 9 (.slice A n c)).run Tryz.prog w = .ok (.string (strOfNums l)) w := by
  obtain ⟨h1, b, off, h2, h3⟩ := h
  exact convB w A b off n c l h1 h2 h3
theorem ByAt.bsl {w : World} {A : Option Addr} {n : Nat} {l : List Int} (h : ByAt w A n l) (hb : BytesOk l) (hn : n ≤ 100000) {c : Nat} (hc : n ≤ c) : BSl w w.heap.size A n c l := by
  obtain ⟨h1, b, off, h2, h3⟩ := h
  exact ⟨h1, hc, hn, hb, b, off, h2, fun h0 => ⟨(h3 h0).lt, h3 h0⟩⟩
theorem ByAt.of_own {w : World} {base : Nat} {v : Value} {l : List Int} (h : w.ownsRow base 5 1 v l.length (byts l)) : ∃ A c, v = .slice A l.length c ∧ l.length ≤ c ∧ ByAt w A l.length l := by
  by_cases h0 : 0 < l.length
  · obtain ⟨g, c, rfl, hg, hr⟩ := own_row' h h0
    exact ⟨_, c, rfl, (own_row h h0).2.2, rfl, g, 0, fun _ => rfl, fun _ => hr⟩
  · have e : l.length = 0 := by omega
    rcases h.2 with ⟨hv, _⟩ | ⟨g, c, cur, hv, _, _, hnc, _⟩
    · exact ⟨none, 0, by rw [hv, e], by omega, rfl, 0, 0, fun q => absurd q h0, fun q => absurd q h0⟩
    · exact ⟨_, c, hv, hnc, rfl, g, 0, fun _ => rfl, fun q => absurd q h0⟩
theorem ByAt.nil (w : World) : ByAt w none 0 [] := ⟨rfl, 0, 0, fun q => absurd q (by decide), fun q => absurd q (by decide)⟩
/-- the bytes of a step, or none -/
def bytesL (L : Sl) : List Int := if mayL L = true then encB L else []
def errL (L : Sl) : Int := if mayL L = true then 0 else 2
theorem pencode_st (s : Ws) (L : Sl) (w : World) (h : SV 0 30 77 w s L) (hok : L.ok) :
    Calls Tryz.prog 47 #[.agg s.cells] w fun e w' => ∃ A k c, e = .returned (.tuple #[.slice A k c, .int .i64 (errL L)]) ∧ k ≤ c ∧ ByAt w' A k (bytesL L) ∧ Ext w w' := by
  unfold bytesL errL
  by_cases hm : mayL L = true
  · refine (encode_ok s L w (h.stepV hok) hm hok).mono ?_
    rintro e w' ⟨v, rfl, ho, hx⟩
    obtain ⟨A, c, rfl, hc, hb⟩ := ByAt.of_own ho
    simp only [hm, if_true]
    exact ⟨A, _, c, rfl, hc, hb, hx⟩
  · refine (encode_no s L w (h.stepV hok) (by simpa using hm)).mono ?_
    rintro e w' ⟨rfl, hx⟩
    simp only [if_neg hm]
    exact ⟨none, 0, 0, rfl, Nat.le_refl _, ByAt.nil _, hx⟩
theorem rencode_st (N : Nat) (t tW : TypeId) (s : Ws) (L : Sl) (w : World) (h : SV N t tW w s L) (hok : L.ok) (hlr : L.reads.length ≤ 1000) (hlw : L.writes.length ≤ 1000) :
    Calls Tryz.prog 54 #[.agg s.cells] w fun e w' => ∃ A k c, e = .returned (.tuple #[.slice A k c, .int .i64 (errL L)]) ∧ ByAt w' A k (bytesL L) ∧ Ext w w' := by
  unfold bytesL errL
  by_cases hm : mayL L = true
  · refine (rencode_ok N t tW s L w h hm hok).mono ?_
    rintro e w' ⟨v, rfl, ho, hx⟩
    obtain ⟨A, c, rfl, hc, hb⟩ := ByAt.of_own ho
    simp only [hm, if_true]
    exact ⟨A, _, c, rfl, hb, hx⟩
  · refine (rencode_no N t tW s L w h (by simpa using hm) hlr hlw).mono ?_
    rintro e w' ⟨rfl, hx⟩
    simp only [if_neg hm]
    exact ⟨none, 0, 0, rfl, ByAt.nil _, hx⟩
end Go.Proofs.YtahljceanodhkaaGreatDoor

/- The statement WitnessBytes: the walk. -/
namespace Go.Proofs.YtahljceanodhkaaGreatDoor
open Go.RowKit
namespace witnessBytes
set_option maxRecDepth 100000 in
set_option maxHeartbeats 2000000 in
theorem wb_many (s : Ws) (L : Sl) (A : Option Addr) (n cap : Nat) (w : World) (h : SV w.heap.size 23 163 w s L) (hf : FitsK 1048576 L) (hfew : fewL L = false ∨ 2000 < n) :
    Calls Tryz.prog 12 #[.agg s.cells, .slice A n cap] w fun e w' => e = .returned (.bool true) ∧ Ext w w' := by
  have HH := Lib.hid h
  have HF := Lib.hid hf
  have hx0 : Ext w _ := (Kept.refl _ w).alloc (.cells s.cells 92)
  have hB0 := Blk.new w 92 s.cells
  clear h hf
  obtain ⟨bf, hbf⟩ : ∃ bf, bf = fewL L := ⟨_, rfl⟩
  rw [← hbf] at hfew
  have HBF := Lib.hid hbf
  clear hbf
  go_enter Tryz.func12, Tryz.ntmps12
  go_wp2_with fail
  refine (known_any _).mono ?_
  rintro e w1 ⟨rfl, hx1⟩
  have hB1 := Blk.ext hB0 hx1
  have hh1 := Blk.has hB1
  have hg1 := Blk.gets hB1
  have hl1 := hB1.lt
  have y1 := hx0.trans hx1
  clear hB0 hx0 hB1
  go_wp2_with fail
  refine (fewstep_any w.heap.size s L w1 (HH.out.ext y1) y1.size HF.out).mono ?_
  rintro e w2 ⟨rfl, hx2⟩
  rw [← HBF.out]
  clear hh1 hg1 hl1 hx1
  cases bf
  · clear hfew
    go_wp2_with fail
    refine (known_any _).mono ?_
    rintro e w3 ⟨rfl, hx3⟩
    go_wp2_with fail
    go_ret
    exact ⟨rfl, (y1.trans hx2).trans hx3⟩
  · have hn' : (2000 : Int) < n := by
      rcases hfew with q | q
      · cases q
      · omega
    clear hfew
    go_wp2_with fail
    refine (known_any _).mono ?_
    rintro e w3 ⟨rfl, hx3⟩
    go_wp2_with fail
    go_ret
    exact ⟨rfl, (y1.trans hx2).trans hx3⟩
set_option maxRecDepth 100000 in
set_option maxHeartbeats 4000000 in
theorem wb_law (s : Ws) (L : Sl) (A : Option Addr) (n cap : Nat) (l : List Int) (w : World) (h : SV w.heap.size 23 163 w s L) (hok : L.ok) (hf : FitsK 1048576 L) (hfew : fewL L = true) (hb : ByAt w A n l) (hbo : BytesOk l) (hn : n ≤ 2000) (hc : n ≤ cap) :
    Calls Tryz.prog 12 #[.agg s.cells, .slice A n cap] w fun e w' => e = .returned (.bool true) ∧ Ext w w' := by
  have HH := Lib.hid h
  have HF := Lib.hid hf
  have HFW := Lib.hid hfew
  have hfit : FitsK 100 L := fewL_fits hfew
  have HFit := Lib.hid (show Fits L from ⟨by have := hfit.path; omega, by have := hfit.nr; omega, by have := hfit.nw; omega, fun x hx => by have := hfit.reads x hx; omega, fun x hx => by have := hfit.writes x hx; omega⟩)
  have HLn := Lib.hid (show L.reads.length ≤ 1000 ∧ L.writes.length ≤ 1000 from ⟨by have := hfit.nr; omega, by have := hfit.nw; omega⟩)
  have HOK := Lib.hid hok
  have HBY := Lib.hid hb
  have HBO := Lib.hid hbo
  have HN := Lib.hid hn
  have HC := Lib.hid hc
  have hnI : ¬ (2000 : Int) < n := by omega
  have hx0 : Ext w _ := (Kept.refl _ w).alloc (.cells s.cells 92)
  have hB0 := Blk.new w 92 s.cells
  clear h hf hfew hfit hok hb hbo hn hc
  obtain ⟨b2, hb2⟩ : ∃ b2, b2 = w.heap.size := ⟨_, rfl⟩
  rw [← hb2] at hB0
  have HB2 := Lib.hid hb2
  clear hb2
  go_enter Tryz.func12, Tryz.ntmps12
  go_upto_region 1 with (fail)
  rw [← HB2.out]
  generalize (w.alloc (.cells s.cells 92)) = W at hx0 hB0 ⊢
  have HX0 := Lib.hid hx0
  have HB := Lib.hid hB0
  have HS := Lib.hid (HH.out.ext hx0)
  have HBW := Lib.hid (HBY.out.ext hx0)
  have HWS := Lib.hid hx0.size
  clear hx0 hB0 HH HBY
  go_wp2_with fail
  refine (known_any _).mono ?_
  rintro e w1 ⟨rfl, y1⟩
  have hB1 := Blk.ext HB.out y1
  have hh1 := Blk.has hB1
  have hg1 := Blk.gets hB1
  have hl1 := hB1.lt
  clear hB1
  go_wp2_with fail
  refine (fewstep_any w.heap.size s L w1 (HS.out.ext y1) (Nat.le_trans HWS.out y1.size) HF.out).mono ?_
  rintro e w2 ⟨rfl, hx2⟩
  rw [HFW.out]
  have y2 : Ext W w2 := y1.trans hx2
  clear hh1 hg1 hl1 hx2 y1
  have hB1 := Blk.ext HB.out y2
  have hh1 := Blk.has hB1
  have hg1 := Blk.gets hB1
  have hl1 := hB1.lt
  clear hB1
  go_wp2_with fail
  refine (of_ok w.heap.size 0 s L w2 (HS.out.ext y2) (Nat.zero_le _) HFit.out).mono ?_
  rintro e w3 ⟨s3, rfl, hsv3, hx3⟩
  have y3 : Ext W w3 := y2.trans hx3
  clear hh1 hg1 hl1 hx3 y2
  go_wp2_with fail
  refine (pencode_st s3 L w3 hsv3 HOK.out).mono ?_
  rintro e w4 ⟨A4, k4, c4, rfl, hc4, hby4, hx4⟩
  have y4 : Ext W w4 := y3.trans hx4
  have HC4 := Lib.hid hc4
  have HBY4 := Lib.hid hby4
  clear hsv3 hx4 y3 hc4 hby4
  have hB1 := Blk.ext HB.out y4
  have hh1 := Blk.has hB1
  have hg1 := Blk.gets hB1
  have hl1 := hB1.lt
  clear hB1
  obtain ⟨ev, hev⟩ : ∃ ev, ev = errL L := ⟨_, rfl⟩
  rw [← hev]
  have HEV := Lib.hid hev
  clear hev
  go_wp2_with fail
  refine (rencode_st w.heap.size _ _ s L w4 (HS.out.ext y4) HOK.out HLn.out.1 HLn.out.2).mono ?_
  rintro e w5 ⟨A5, k5, c5, rfl, hby5, hx5⟩
  rw [← HEV.out]
  have y5 : Ext W w5 := y4.trans hx5
  have HBX := Lib.hid (HBY4.out.ext hx5)
  have HBY5 := Lib.hid hby5
  clear hh1 hg1 hl1 hx5 y4 hby5 HBY4
  go_wp2_with fail
  refine (pdecode_st A n cap l _ w5 ((HBW.out.ext y5).bsl HBO.out (by have := HN.out; omega) HC.out)).mono ?_
  rintro e w6 ⟨s6, rfl, hsv6, hx6⟩
  obtain ⟨dv, hdv⟩ : ∃ dv, dv = decE l := ⟨_, rfl⟩
  rw [← hdv]
  have HDV := Lib.hid hdv
  have HSV6 := Lib.hid hsv6
  have HBX6 := Lib.hid (HBX.out.ext hx6)
  have HBY6 := Lib.hid (HBY5.out.ext hx6)
  have y6 : Ext W w6 := y5.trans hx6
  clear hdv hsv6 hx6 y5 HBX HBY5
  go_upto_region 6 with (fail)
  have z6 : Ext w6 (w6.alloc (.cells s6.cells 45)) := (Kept.refl _ w6).alloc _
  have hP0 := Blk.new w6 45 s6.cells
  generalize (w6.alloc (.cells s6.cells 45)) = W6 at z6 hP0 ⊢
  generalize (w6 : World).heap.size = p9 at hP0 ⊢
  have HP := Lib.hid hP0
  have HSV := Lib.hid (HSV6.out.ext z6)
  have HX6 := Lib.hid (HBX6.out.ext z6)
  have HY6 := Lib.hid (HBY6.out.ext z6)
  have y7 : Ext W W6 := y6.trans z6
  clear hP0 HSV6 HBX6 HBY6 z6 y6
  go_wp2_with fail
  refine (rdecode_st A n cap l _ W6 (Nat.le_refl _) ((HBW.out.ext y7).bsl HBO.out (by have := HN.out; omega) HC.out)).mono ?_
  rintro e w8 ⟨s8, rfl, hsv8, hx8⟩
  rw [← HDV.out]
  have y8 : Ext W w8 := y7.trans hx8
  have HSV8 := Lib.hid hsv8
  go_upto_region 7 with (fail)
  have z8 : Ext w8 (w8.alloc (.cells s8.cells 92)) := (Kept.refl _ w8).alloc _
  have hQ0 := Blk.new w8 92 s8.cells
  generalize (w8.alloc (.cells s8.cells 92)) = W8 at z8 hQ0 ⊢
  generalize (w8 : World).heap.size = p11 at hQ0 ⊢
  have q8 := hx8.trans z8
  have HQ := Lib.hid hQ0
  have HR8 := Lib.hid (HSV8.out.ext z8)
  have HP8 := Lib.hid (Blk.ext HP.out q8)
  have HS8 := Lib.hid (HSV.out.ext q8)
  have HX8 := Lib.hid (HX6.out.ext q8)
  have HY8 := Lib.hid (HY6.out.ext q8)
  have Y8 := Lib.hid (y8.trans z8)
  clear hQ0 hsv8 HSV8 hx8 z8 y8 y7 q8 HP HSV HX6 HY6
  obtain ⟨sx, hsx⟩ : ∃ sx, sx = strOfNums (bytesL L) := ⟨_, rfl⟩
  have hcx : ∀ w2, Ext W8 w2 → (convert 95 9 (.slice A4 k4 c4)).run Tryz.prog w2 = .ok (.string sx) w2 := fun w2 hx => by rw [hsx]; exact (HX8.out.ext hx).conv c4
  have hcy : ∀ w2, Ext W8 w2 → (convert 95 9 (.slice A5 k5 c5)).run Tryz.prog w2 = .ok (.string sx) w2 := fun w2 hx => by rw [hsx]; exact (HY8.out.ext hx).conv c5
  have HCX := Lib.hid hcx
  have HCY := Lib.hid hcy
  clear hsx hcx hcy
  refine wp_region_3 (fun w2 => Ext W8 w2) [(0, 2), (1, 1), (2, 2), (3, 1), (4, 2), (5, 2), (6, 2), (7, 2), (8, 2), (9, 2), (10, 2), (11, 1), (13, 1), (12, 0), (14, 0), (15, 2), (16, 2), (17, 2), (18, 2), (19, 2), (20, 2), (21, 2)] (by kernel_rfl) (by kernel_rfl) (by kernel_rfl) (by kernel_rfl) ?_; intro l' hl'; simp only [List.map_cons, List.map_nil, List.getD_cons_zero, List.getD_cons_succ] at hl'; subst hl'
  (repeat (first | ((apply w3_pure); (· go_simp); (· (intro w1; go_simp; try with_reducible rfl)); (intro K hK; go_simp; refine hK _ _ ?_; clear hK K)) | ((apply w3_skip); (· go_simp); (intro K hK; go_simp; refine hK _ _ ?_; clear hK K)) | ((apply w3_take); (· exact (Kept.drew (Kept.refl _ _))); (· go_simp); (· (intro w1 hS; have d1 := HCX.out _ hS; have d2 := HCY.out _ hS; have d3 := Blk.ext HP8.out hS; have d4 := Blk.has d3; have d5 := Blk.gets d3; have d6 := d3.lt; have d7 := Blk.ext HQ.out hS; have d8 := Blk.has d7; have d9 := Blk.gets d7; have d10 := d7.lt;  go_simp; try with_reducible rfl)); (intro K hK; go_simp; refine hK _ _ ?_; clear hK K)) | ((apply w3_pass); (· exact (Kept.drew (Kept.refl _ _))); (· go_simp); (intro K hK; go_simp; refine hK _ _ ?_; clear hK K))))
  have q0 : Ext W8 W8.drew := (Kept.refl _ W8).drew
  (refine w3_act (fun K hK => ?_); go_simp)
  go_wp2_with fail
  refine (to_ok 0 0 s6 (stepL l) _ (HS8.out.ext q0) (Nat.zero_le _) (stepL_fits HBO.out)).mono ?_
  rintro e w9 ⟨s9, rfl, hsv9, hx9⟩
  have q9 : Ext W8 w9 := q0.trans hx9
  refine hK.out _ _ (fun _ => q9) ?_
  clear hK K
  have HSV9 := Lib.hid hsv9
  clear hsv9 hx9 q0
  (repeat (first | ((apply w3_pure); (· go_simp); (· (intro w1; go_simp; try with_reducible rfl)); (intro K hK; go_simp; refine hK _ _ ?_; clear hK K)) | ((apply w3_skip); (· go_simp); (intro K hK; go_simp; refine hK _ _ ?_; clear hK K))))
  (refine w3_act (fun K hK => ?_); go_simp)
  go_wp2_with fail
  refine (rsame22_ok 0 0 _ _ _ _ s9 s8 (stepL l) w9 HSV9.out (HR8.out.ext q9) (stepL_fits HBO.out)).mono ?_
  rintro e wa ⟨rfl, hxa⟩
  have qa : Ext W8 wa := q9.trans hxa
  refine hK.out _ _ (fun _ => qa) ?_
  clear hK K hxa q9
  (repeat (first | ((apply w3_pure); (· go_simp); (· (intro w1; go_simp; try with_reducible rfl)); (intro K hK; go_simp; refine hK _ _ ?_; clear hK K)) | ((apply w3_skip); (· go_simp); (intro K hK; go_simp; refine hK _ _ ?_; clear hK K)) | (refine w3_end (by kernel_rfl) (fun K hK => ?_); go_simp; refine hK.out _ _ ?_; clear hK K))); refine w3_nil ?_
  have HQA := Lib.hid qa
  clear qa
  by_cases hm : mayL L = true
  · obtain rfl : ev = 0 := by rw [HEV.out]; unfold errL; rw [if_pos hm]
    have hbe : bytesL L = encB L := by unfold bytesL; rw [if_pos hm]
    have hde := dec_enc HOK.out hm (encB_ok L)
    have HDE := Lib.hid (show decE (bytesL L) = 0 ∧ stepL (bytesL L) = L from by rw [hbe]; exact ⟨hde.1, by unfold stepL; rw [if_pos hde.1]; exact hde.2⟩)
    have HKL := Lib.hid (show k4 ≤ 100000 from by have := HX8.out.len; have := encB_len HOK.out hm; rw [hbe] at *; omega)
    have HBB := Lib.hid (show BytesOk (bytesL L) from by rw [hbe]; exact encB_ok L)
    clear hm hbe hde
    go_wp2_with fail
    refine (pdecode_st A4 k4 c4 (bytesL L) _ wa ((HX8.out.ext HQA.out).bsl HBB.out HKL.out HC4.out)).mono ?_
    rintro e wb ⟨s10, rfl, hsv10, hxb⟩
    rw [HDE.out.1]
    rw [HDE.out.2] at hsv10
    have HSV10 := Lib.hid hsv10
    clear hsv10
    go_upto_region 11 with (fail)
    have zb : Ext wb (wb.alloc (.cells s10.cells 45)) := (Kept.refl _ wb).alloc _
    have hQ0 := Blk.new wb 45 s10.cells
    generalize (wb.alloc (.cells s10.cells 45)) = Wb at zb hQ0 ⊢
    generalize (wb : World).heap.size = p13 at hQ0 ⊢
    have qb : Ext W8 Wb := HQA.out.trans (hxb.trans zb)
    have HQ13 := Lib.hid hQ0
    have HS10 := Lib.hid (HSV10.out.ext zb)
    have HQB := Lib.hid qb
    have HYB := Lib.hid (Y8.out.trans qb)
    have HBb := Lib.hid (Blk.ext HB.out (Y8.out.trans qb))
    clear hQ0 zb hxb qb HSV10
    refine wp_region_3 (fun w2 => Ext Wb w2) [(0, 2), (1, 2), (2, 2), (3, 1), (5, 1), (4, 0), (6, 0), (7, 2), (8, 2)] (by kernel_rfl) (by kernel_rfl) (by kernel_rfl) (by kernel_rfl) ?_; intro l' hl'; simp only [List.map_cons, List.map_nil, List.getD_cons_zero, List.getD_cons_succ] at hl'; subst hl'
    (repeat (first | ((apply w3_pure); (· go_simp); (· (intro w1; go_simp; try with_reducible rfl)); (intro K hK; go_simp; refine hK _ _ ?_; clear hK K)) | ((apply w3_skip); (· go_simp); (intro K hK; go_simp; refine hK _ _ ?_; clear hK K)) | ((apply w3_take); (· exact (Kept.drew (Kept.refl _ _))); (· go_simp); (· (intro w1 hS; have d3 := Blk.ext HQ13.out hS; have d4 := Blk.has d3; have d5 := Blk.gets d3; have d6 := d3.lt; have d7 := Blk.ext HBb.out hS; have d8 := Blk.has d7; have d9 := Blk.gets d7; have d10 := d7.lt;  go_simp; try with_reducible rfl)); (intro K hK; go_simp; refine hK _ _ ?_; clear hK K)) | ((apply w3_pass); (· exact (Kept.drew (Kept.refl _ _))); (· go_simp); (intro K hK; go_simp; refine hK _ _ ?_; clear hK K))))
    have q0 : Ext Wb Wb.drew := (Kept.refl _ Wb).drew
    (refine w3_act (fun K hK => ?_); go_simp)
    go_wp2_with fail
    refine (to_ok 0 0 s10 L _ (HS10.out.ext q0) (Nat.zero_le _) HFit.out).mono ?_
    rintro e wc ⟨s11, rfl, hsv11, hxc⟩
    have qc : Ext Wb wc := q0.trans hxc
    refine hK.out _ _ (fun _ => qc) ?_
    clear hK K
    have HSV11 := Lib.hid hsv11
    clear hsv11 hxc q0
    (repeat (first | ((apply w3_pure); (· go_simp); (· (intro w1; go_simp; try with_reducible rfl)); (intro K hK; go_simp; refine hK _ _ ?_; clear hK K)) | ((apply w3_skip); (· go_simp); (intro K hK; go_simp; refine hK _ _ ?_; clear hK K))))
    (refine w3_act (fun K hK => ?_); go_simp)
    go_wp2_with fail
    refine (rsame22_ok 0 w.heap.size _ _ _ _ s11 s L wc HSV11.out (HS.out.ext (HYB.out.trans qc)) HFit.out).mono ?_
    rintro e wd ⟨rfl, hxd⟩
    have qd : Ext Wb wd := qc.trans hxd
    refine hK.out _ _ (fun _ => qd) ?_
    clear hK K hxd qc
    (repeat (first | ((apply w3_pure); (· go_simp); (· (intro w1; go_simp; try with_reducible rfl)); (intro K hK; go_simp; refine hK _ _ ?_; clear hK K)) | ((apply w3_skip); (· go_simp); (intro K hK; go_simp; refine hK _ _ ?_; clear hK K)) | (refine w3_end (by kernel_rfl) (fun K hK => ?_); go_simp; refine hK.out _ _ ?_; clear hK K))); refine w3_nil ?_
    have HQD := Lib.hid (HQB.out.trans qd)
    clear qd
    have HWT := HQD
    by_cases hd0 : dv = 0
    · obtain rfl : dv = 0 := hd0
      obtain ⟨t1, t2, t3⟩ := enc_dec HBO.out HDV.out.symm
      have hst : stepL l = decS l := by unfold stepL; rw [if_pos HDV.out.symm]
      have HT := Lib.hid (show (stepL l).ok ∧ bytesL (stepL l) = l ∧ errL (stepL l) = 0 from by rw [hst]; exact ⟨t2, by unfold bytesL; rw [if_pos t1, t3], by unfold errL; rw [if_pos t1]⟩)
      clear t1 t2 t3 hst
      have hP1 := Blk.ext HP8.out HWT.out
      have hh1 := Blk.has hP1
      have hg1 := Blk.gets hP1
      have hl1 := hP1.lt
      clear hP1
      go_wp2_with fail
      refine (pencode_st s6 (stepL l) _ (HS8.out.ext HWT.out) HT.out.1).mono ?_
      rintro e we ⟨Ae, ke, ce, rfl, hce, hbe, hxe⟩
      rw [HT.out.2.1] at hbe
      rw [HT.out.2.2]
      obtain ⟨sl, hsl⟩ : ∃ sl, sl = strOfNums l := ⟨_, rfl⟩
      have d1 := hbe.conv ce
      have d2 := (HBW.out.ext ((Y8.out.trans HWT.out).trans hxe)).conv cap
      rw [← hsl] at d1 d2
      clear hsl hce hbe hh1 hg1 hl1
      go_wp2_with fail
      go_ret
      exact ⟨rfl, HX0.out.trans ((Y8.out.trans HWT.out).trans hxe)⟩
    · go_wp2_with fail
      go_ret
      exact ⟨rfl, HX0.out.trans (Y8.out.trans HWT.out)⟩
  · obtain rfl : ev = 2 := by rw [HEV.out]; unfold errL; rw [if_neg hm]
    clear hm
    have HWT := HQA
    by_cases hd0 : dv = 0
    · obtain rfl : dv = 0 := hd0
      obtain ⟨t1, t2, t3⟩ := enc_dec HBO.out HDV.out.symm
      have hst : stepL l = decS l := by unfold stepL; rw [if_pos HDV.out.symm]
      have HT := Lib.hid (show (stepL l).ok ∧ bytesL (stepL l) = l ∧ errL (stepL l) = 0 from by rw [hst]; exact ⟨t2, by unfold bytesL; rw [if_pos t1, t3], by unfold errL; rw [if_pos t1]⟩)
      clear t1 t2 t3 hst
      have hP1 := Blk.ext HP8.out HWT.out
      have hh1 := Blk.has hP1
      have hg1 := Blk.gets hP1
      have hl1 := hP1.lt
      clear hP1
      go_wp2_with fail
      refine (pencode_st s6 (stepL l) _ (HS8.out.ext HWT.out) HT.out.1).mono ?_
      rintro e we ⟨Ae, ke, ce, rfl, hce, hbe, hxe⟩
      rw [HT.out.2.1] at hbe
      rw [HT.out.2.2]
      obtain ⟨sl, hsl⟩ : ∃ sl, sl = strOfNums l := ⟨_, rfl⟩
      have d1 := hbe.conv ce
      have d2 := (HBW.out.ext ((Y8.out.trans HWT.out).trans hxe)).conv cap
      rw [← hsl] at d1 d2
      clear hsl hce hbe hh1 hg1 hl1
      go_wp2_with fail
      go_ret
      exact ⟨rfl, HX0.out.trans ((Y8.out.trans HWT.out).trans hxe)⟩
    · go_wp2_with fail
      go_ret
      exact ⟨rfl, HX0.out.trans (Y8.out.trans HWT.out)⟩
end witnessBytes
end Go.Proofs.YtahljceanodhkaaGreatDoor

/- WitnessBytes, of all that may come in, up to a bulk. -/
namespace Go.Proofs.YtahljceanodhkaaGreatDoor
open Go.RowKit Go.Deep Go.ChangeShapes Go.WideShapes
namespace witnessBytes
set_option maxRecDepth 100000 in
theorem walk {H : Type} {enc : TypeId × Value → H} (W : World) (base : Nat) (v0 v1 : Value) (d0 d1 : DataW H) (p0 p1 : List MemPlace)
    (o0 : Value.okWide Tryz.prog W .any base 92 v0) (o1 : Value.okWide Tryz.prog W .any base 95 v1)
    (h0 : DataW.Trod enc Tryz.prog W 0 (fun _ => true) true 92 v0 d0 p0) (h1 : DataW.Trod enc Tryz.prog W 0 (fun _ => true) true 95 v1 d1 p1) (_hL : laidMetH Tryz.prog Rows.witnessBytesUptoRow.laid W)
    {gs : List (DataW H)} (hk : Rows.uptoSmall H ([d0, d1] ++ gs) = true)
    (z0 : light Tryz.prog 92 d0) (_z1 : light Tryz.prog 95 d1) (_hS : W.ShapedOpen Tryz.prog) :
    Calls Tryz.prog 12 #[v0, v1] W fun e w' => e = .returned (.bool true) ∧ Ext W w' := by
  obtain ⟨A1, n1, cap1, rfl⟩ := okWide_slice Tryz.underlying95 o1
  obtain ⟨fuel1, hf1⟩ := h1
  obtain ⟨A, b, off, n, cap, l, e, hA, hn, hr, hok, hc⟩ := bytes_of hf1
  simp at e
  obtain ⟨rfl, rfl, rfl⟩ := e
  obtain ⟨cs, rfl⟩ : ∃ cs, v0 = .agg cs := by
    simp only [Value.okWide, Tryz.underlying92] at o0
    obtain ⟨cs, h1, _⟩ := o0
    exact ⟨cs, h1⟩
  obtain ⟨fuel, hf⟩ := h0
  obtain ⟨s, L, e, hsv, hLok, hfit⟩ := step_of hf z0
  obtain rfl : cs = Ws.cells s := by
    cases cs
    simpa [Value.cells] using e
  have hk : Rows.uptoBulkAll ([d0, d1] ++ gs) ≤ 1048576 := of_decide_eq_true hk
  simp only [List.cons_append, Rows.uptoBulkAll] at hk
  have hfit' : FitsK 1048576 L := ⟨by have := hfit.path; omega, by have := hfit.nr; omega, by have := hfit.nw; omega, fun x hx => by have := hfit.reads x hx; omega, fun x hx => by have := hfit.writes x hx; omega⟩
  by_cases hm : fewL L = false ∨ 2000 < n1
  · exact wb_many s L A1 n1 cap1 W hsv hfit' hm
  · have h1 : fewL L = true := by
      rw [← Bool.not_eq_false]
      exact fun q => hm (.inl q)
    exact wb_law s L A1 n1 cap1 l W hsv hLok hfit' h1 ⟨hn, b, off, hA, hr⟩ hok (by omega) hc
end witnessBytes
end Go.Proofs.YtahljceanodhkaaGreatDoor
namespace Go.Proofs.YtahljceanodhkaaGreatDoor
open Go.RowKit
theorem Kept.below {w w' : World} (h : Ext w w') : Below w.heap.size w w' := ⟨h.os, h.tape, h.output, h.size, fun k hk => h.block k hk (fun f => f)⟩
end Go.Proofs.YtahljceanodhkaaGreatDoor
