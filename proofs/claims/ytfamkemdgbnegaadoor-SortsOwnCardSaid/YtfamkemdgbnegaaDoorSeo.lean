/- Several texts joined: Ea, Eb, Ec, Ed, Ee, Ef, Eg, Vo. -/
import Derived.Test.YtfamkemdgbnegaaDoorSdn
/- Sorts: the same expressions are the same: the document's SameExpr. -/
namespace Go.Proofs.YtfamkemdgbnegaaDoor
open Go.RowKit So
abbrev RSxC (w0 : World) (N : Nat) (F : EF) : Prop := ∀ (A : Option Addr) (n c : Nat) (B : Option Addr) (m d : Nat) (w : World), Ext w0 w → ESl w0 N A n F → ESl w0 N B m F → Calls Tryd.prog 67 #[.slice A n c, .slice B m d] w fun e w' => e = .returned (.bool true) ∧ Ext w w'
set_option maxRecDepth 100000 in
set_option maxHeartbeats 1600000 in
theorem rsamex_any (w0 : World) (N : Nat) (k : EF) (HK : RSxC w0 N k) (op n : Int) (name : Str) (A : Option Addr) (c : Nat) (B : Option Addr) (d : Nat) (w : World) (hw : Ext w0 w) (h1 : ESl w0 N A k.len k) (h2 : ESl w0 N B k.len k) :
    Calls Tryd.prog 85 #[.agg (ecells op n name A k.len c), .agg (ecells op n name B k.len d)] w fun e w' => e = .returned (.bool true) ∧ Ext w w' := by
  have x1 := ((Kept.refl (fun _ => False) w).alloc (.cells (ecells op n name A k.len c) 36)).alloc (.cells (ecells op n name B k.len d) 36)
  have hA := (Blk.new w 36 (ecells op n name A k.len c)).alloc (.cells (ecells op n name B k.len d) 36)
  have hB := Blk.new' (w.alloc (.cells (ecells op n name A k.len c) 36)) 36 (ecells op n name B k.len d) (w.heap.size + 1) (by simp)
  go_enter Tryd.func85, Tryd.ntmps85
  go_upto_region 1 with (fail)
  generalize hV : ((w.alloc (.cells (ecells op n name A k.len c) 36)).alloc (.cells (ecells op n name B k.len d) 36)) = V at x1 hA hB ⊢
  clear hV
  generalize w.heap.size + 1 = b2 at hB ⊢
  generalize w.heap.size = b1 at hA hB ⊢
  have cA := Blk.cell hA
  have lA := hA.lt
  have cB := Blk.cell hB
  have lB := hB.lt
  go_wp2_with fail
  refine (HK A k.len c B k.len d _ (hw.trans x1) h1 h2).mono ?_
  rintro e w2 ⟨rfl, hx2⟩
  go_wp2_with fail
  go_ret
  exact ⟨rfl, x1.trans hx2⟩
set_option maxRecDepth 100000 in
set_option maxHeartbeats 1600000 in
theorem rsamexs_any (w0 : World) (N : Nat) (hN : N ≤ w0.heap.size) (F : EF) : RSxC w0 N F := by
  refine ef_ind (C := RSxC w0 N) ?_ F
  clear F
  intro F IH A n c B m d w hw h1 h2
  obtain ⟨hn, hf, b, off, hA, hE⟩ := h1
  obtain ⟨hm, -, b2, off2, hB, hE2⟩ := h2
  have hmx := hf.max (by omega)
  obtain rfl : m = n := by omega
  have HN := Lib.hid hn
  have HA := Lib.hid hA
  have HB := Lib.hid hB
  have HE := Lib.hid hE
  have HE2 := Lib.hid hE2
  have HI := Lib.hid IH
  have HW0 := Lib.hid hw
  have HN0 := Lib.hid hN
  clear hn hf hA hE hm hB hE2 IH hw hN
  go_enter Tryd.func67, Tryd.ntmps67
  go_wp2_with fail
  go_loopw [5] (fun t5 wr => ∃ (j : Nat) (Q : EF), j + Q.len = m ∧ t5 = .int .i64 j ∧ EFAt w0 N Q b (off + j * 4) ∧ EFAt w0 N Q b2 (off2 + j * 4) ∧ EF.All (RSxC w0 N) Q ∧ Ext w wr) (fun t5 _ => m - (intOf t5).toNat)
  case atStart => exact ⟨0, F, by rw [HN.out, Nat.zero_add], rfl, by simpa using HE.out, by simpa using HE2.out, HI.out, Kept.refl _ _⟩
  case round =>
    obtain ⟨j, Q, hj, rfl, hQ, hQ2, hall, hx⟩ := hrel
    have HX := Lib.hid hx
    have HQ := Lib.hid hQ
    have HQ2 := Lib.hid hQ2
    have HAL := Lib.hid hall
    clear hx hQ hQ2 hall
    cases Q with
    | nil =>
      simp only [EF.len, Nat.add_zero] at hj
      subst hj
      go_wp2_with fail
      go_ret
      exact ⟨rfl, HX.out⟩
    | cons op x name k r =>
      obtain ⟨hb, -, -, -, ⟨A', ca, p', o', hh, hg, hl, ha, hk⟩, hr⟩ := HQ.out
      obtain ⟨hb2, -, -, -, ⟨B', cb, p2, o2, hh2, hg2, hl2, ha2, hk2⟩, hr2⟩ := HQ2.out
      simp only [EF.len] at hj
      have hlt : (j : Int) < m := by omega
      obtain rfl := HA.out (by omega)
      obtain rfl := HB.out (by omega)
      have hw0 := HW0.out.trans HX.out
      have HH := Lib.hid (has_ext hw0 (by have := HN0.out; omega) hh)
      have HG := Lib.hid (gets_ext hw0 (by have := HN0.out; omega) hg)
      have HH2 := Lib.hid (has_ext hw0 (by have := HN0.out; omega) hh2)
      have HG2 := Lib.hid (gets_ext hw0 (by have := HN0.out; omega) hg2)
      have HBW := Lib.hid (show b < wr.heap.size ∧ b2 < wr.heap.size by have := hw0.size; have := HN0.out; omega)
      have K1 := Lib.hid (show ESl w0 N A' k.len k from ⟨rfl, hl, p', o', ha, hk⟩)
      have K2 := Lib.hid (show ESl w0 N B' k.len k from ⟨rfl, hl2, p2, o2, ha2, hk2⟩)
      have HR := Lib.hid hr
      have HR2 := Lib.hid hr2
      have HAL := Lib.hid HAL.out
      have HWQ := Lib.hid hw0
      clear hh hg hl ha hk hh2 hg2 hl2 ha2 hk2 hr hr2 hb hb2 hw0 HQ HQ2
      go_upto_region 6 with (fail)
      refine wp_region_3 (fun w1 => Ext wr w1) [(0, 2), (1, 2), (2, 2), (3, 1), (4, 2), (5, 2), (6, 2), (7, 1), (8, 0), (9, 2)] (by kernel_rfl) (by kernel_rfl) (by kernel_rfl) (by kernel_rfl) ?_; intro l' hl'; simp only [List.map_cons, List.map_nil, List.getD_cons_zero, List.getD_cons_succ] at hl'; subst hl'
      have HZ0 := Lib.hid (show Ext wr wr.drew from (Kept.refl _ wr).drew)
      (repeat (first | ((apply w3_pure); (· go_simp); (· (intro w1; go_simp; try with_reducible rfl)); (intro K hK; go_simp; refine hK _ _ ?_; clear hK K)) | ((apply w3_skip); (· go_simp); (intro K hK; go_simp; refine hK _ _ ?_; clear hK K)) | ((apply w3_take); (· exact HZ0.out); (· go_simp); (· (intro w1 hS; have d0 := has_ext hS HBW.out.1 HH.out; have d1 := gets_ext hS HBW.out.1 HG.out; have d2 := has_ext hS HBW.out.2 HH2.out; have d3 := gets_ext hS HBW.out.2 HG2.out; have d4 := Nat.lt_of_lt_of_le HBW.out.1 hS.size; have d5 := Nat.lt_of_lt_of_le HBW.out.2 hS.size;  go_simp; try with_reducible rfl)); (intro K hK; go_simp; refine hK _ _ ?_; clear hK K)) | ((apply w3_pass); (· exact HZ0.out); (· go_simp); (intro K hK; go_simp; refine hK _ _ ?_; clear hK K))))
      (refine w3_act (fun K hK => ?_); go_simp)
      refine (rsamex_any w0 N k HAL.out.1 op x name A' ca B' cb _ (HWQ.out.trans HZ0.out) K1.out K2.out).mono ?_
      rintro e w1 ⟨rfl, hx1⟩
      have HZ1 := Lib.hid (HZ0.out.trans hx1)
      refine hK.out _ _ (fun _ => HZ1.out) ?_
      clear hK K hx1
      (repeat (first | ((apply w3_pure); (· go_simp); (· (intro w1; go_simp; try with_reducible rfl)); (intro K hK; go_simp; refine hK _ _ ?_; clear hK K)) | ((apply w3_skip); (· go_simp); (intro K hK; go_simp; refine hK _ _ ?_; clear hK K)) | (refine w3_end (by kernel_rfl) (fun K hK => ?_); go_simp; refine hK.out _ _ ?_; clear hK K))); refine w3_nil ?_
      go_wp2_with fail
      go_roundw
      case rel => exact ⟨j + 1, r, by omega, by go_num, by rw [Nat.add_mul, ← Nat.add_assoc]; exact HR.out, by rw [Nat.add_mul, ← Nat.add_assoc]; exact HR2.out, HAL.out.2, HX.out.trans HZ1.out⟩
      case measure => simp only [intOf]; omega
end Go.Proofs.YtfamkemdgbnegaaDoor

/- Sorts: the same statements are the same: the document's SameStmts. -/
namespace Go.Proofs.YtfamkemdgbnegaaDoor
open Go.RowKit So
abbrev RSsC (w0 : World) (N : Nat) (F : SF) : Prop := ∀ (A : Option Addr) (n c : Nat) (B : Option Addr) (m d : Nat) (w : World), Ext w0 w → SSl w0 N A n F → SSl w0 N B m F → Calls Tryd.prog 46 #[.slice A n c, .slice B m d] w fun e w' => e = .returned (.bool true) ∧ Ext w w'
set_option maxRecDepth 100000 in
set_option maxHeartbeats 2000000 in
theorem rsamess_any (w0 : World) (N : Nat) (hN : N ≤ w0.heap.size) (F : SF) : RSsC w0 N F := by
  refine sf_ind (C := RSsC w0 N) ?_ F
  clear F
  intro F IH A n c B m d w hw h1 h2
  obtain ⟨hn, hf, b, off, hA, hE⟩ := h1
  obtain ⟨hm, -, b2, off2, hB, hE2⟩ := h2
  have hmx := hf.max (by omega)
  obtain rfl : m = n := by omega
  have HN := Lib.hid hn
  have HA := Lib.hid hA
  have HB := Lib.hid hB
  have HE := Lib.hid hE
  have HE2 := Lib.hid hE2
  have HI := Lib.hid IH
  have HW0 := Lib.hid hw
  have HN0 := Lib.hid hN
  clear hn hf hA hE hm hB hE2 IH hw hN
  go_enter Tryd.func46, Tryd.ntmps46
  go_wp2_with fail
  go_loopw [5] (fun t5 wr => ∃ (j : Nat) (Q : SF), j + Q.len = m ∧ t5 = .int .i64 j ∧ SFAt w0 N Q b (off + j * 7) ∧ SFAt w0 N Q b2 (off2 + j * 7) ∧ SF.All (RSsC w0 N) Q ∧ Ext w wr) (fun t5 _ => m - (intOf t5).toNat)
  case atStart => exact ⟨0, F, by rw [HN.out, Nat.zero_add], rfl, by simpa using HE.out, by simpa using HE2.out, HI.out, Kept.refl _ _⟩
  case round =>
    obtain ⟨j, Q, hj, rfl, hQ, hQ2, hall, hx⟩ := hrel
    have HX := Lib.hid hx
    have HQ := Lib.hid hQ
    have HQ2 := Lib.hid hQ2
    have HAL := Lib.hid hall
    clear hx hQ hQ2 hall
    cases Q with
    | nil =>
      simp only [SF.len, Nat.add_zero] at hj
      subst hj
      go_wp2_with fail
      go_ret
      exact ⟨rfl, HX.out⟩
    | cons kind name es low high l x r =>
      obtain ⟨hb, -, -, -, -, ⟨eA, ec, lA, lc, xA, xc, be, oe, bl, ol, bx, ox, hh, hg, n1, n2, n3, a1, a2, a3, he, hl, hxx⟩, hr⟩ := HQ.out
      obtain ⟨hb2, -, -, -, -, ⟨eB, ed, lB, ld, xB, xd, be2, oe2, bl2, ol2, bx2, ox2, hh2, hg2, m1, m2, m3, d1, d2, d3, he2, hl2, hxx2⟩, hr2⟩ := HQ2.out
      simp only [SF.len] at hj
      have hlt : (j : Int) < m := by omega
      obtain rfl := HA.out (by omega)
      obtain rfl := HB.out (by omega)
      have hw0 := HW0.out.trans HX.out
      have HH := Lib.hid (has_ext hw0 (by have := HN0.out; omega) hh)
      have HG := Lib.hid (gets_ext hw0 (by have := HN0.out; omega) hg)
      have HH2 := Lib.hid (has_ext hw0 (by have := HN0.out; omega) hh2)
      have HG2 := Lib.hid (gets_ext hw0 (by have := HN0.out; omega) hg2)
      have HBW := Lib.hid (show b < wr.heap.size ∧ b2 < wr.heap.size by have := hw0.size; have := HN0.out; omega)
      have KE := Lib.hid (And.intro (show ESl w0 N eA es.len es from ⟨rfl, n1, be, oe, a1, he⟩) (show ESl w0 N eB es.len es from ⟨rfl, m1, be2, oe2, d1, he2⟩))
      have KL := Lib.hid (And.intro (show SSl w0 N lA l.len l from ⟨rfl, n2, bl, ol, a2, hl⟩) (show SSl w0 N lB l.len l from ⟨rfl, m2, bl2, ol2, d2, hl2⟩))
      have KX := Lib.hid (And.intro (show SSl w0 N xA x.len x from ⟨rfl, n3, bx, ox, a3, hxx⟩) (show SSl w0 N xB x.len x from ⟨rfl, m3, bx2, ox2, d3, hxx2⟩))
      have HR := Lib.hid hr
      have HR2 := Lib.hid hr2
      have HAL := Lib.hid HAL.out
      have HWQ := Lib.hid hw0
      clear hh hg hh2 hg2 n1 n2 n3 m1 m2 m3 a1 a2 a3 d1 d2 d3 he hl hxx he2 hl2 hxx2 hr hr2 hb hb2 hw0 HQ HQ2
      go_upto_region 6 with (fail)
      apply meet2 (F := fun W2 a b => Ext wr W2 ∧ Blk W2 a 34 (scells kind name eA es.len ec low high lA l.len lc xA x.len xc) ∧ Blk W2 b 34 (scells kind name eB es.len ed low high lB l.len ld xB x.len xd))
      case h =>
        intro KEY0
        have KEY := Lib.hid KEY0
        clear KEY0
        refine wp_region_4 (fun w1 => Ext wr w1) (.op 0 2 (.op 1 2 (.op 2 2 (.op 3 1 (.op 4 2 (.op 5 2 (.op 6 2 (.op 7 1 (.fork 8 (.op 9 0 (.op 10 0 (.op 11 0 .nil))) 9 (.op 8 0 (.op 10 0 (.op 11 0 .nil)))))))))))) (by kernel_rfl) (by kernel_rfl) (by kernel_rfl) (by kernel_rfl) ?_; intro p' hp'; simp only [Pl0.fill, List.getD_cons_zero, List.getD_cons_succ] at hp'; subst hp'
        have HZ0 := Lib.hid (show Ext wr wr.drew from (Kept.refl _ wr).drew)
        (repeat (first | ((apply w4_pure); (· go_simp); (· (intro w1; go_simp; try with_reducible rfl)); (intro K hK; go_simp; refine hK _ _ ?_; clear hK K)) | ((apply w4_skip); (· go_simp); (intro K hK; go_simp; refine hK _ _ ?_; clear hK K)) | ((apply w4_take); (· exact HZ0.out); (· go_simp); (· (intro w1 hS; have d0 := has_ext hS HBW.out.1 HH.out; have d1 := gets_ext hS HBW.out.1 HG.out; have d2 := has_ext hS HBW.out.2 HH2.out; have d3 := gets_ext hS HBW.out.2 HG2.out; have d4 := Nat.lt_of_lt_of_le HBW.out.1 hS.size; have d5 := Nat.lt_of_lt_of_le HBW.out.2 hS.size;  go_simp; try with_reducible rfl)); (intro K hK; go_simp; refine hK _ _ ?_; clear hK K)) | ((apply w4_pass); (· exact HZ0.out); (· go_simp); (intro K hK; go_simp; refine hK _ _ ?_; clear hK K))))
        refine w4_fork ?_ ?_
        · (refine w4_act (fun K hK => ?_); go_simp)
          have z1 : Ext wr (wr.alloc (.cells (scells 0 ⟨#[]⟩ none 0 0 0 0 none 0 0 none 0 0) 34)).drew := ((Kept.refl _ wr).alloc _).drew
          have q1 : Blk (wr.alloc (.cells (scells 0 ⟨#[]⟩ none 0 0 0 0 none 0 0 none 0 0) 34)).drew wr.heap.size 34 (scells 0 ⟨#[]⟩ none 0 0 0 0 none 0 0 none 0 0) := (Blk.new wr _ _).drew
          refine hK.out _ _ (fun _ => z1) ?_
          clear hK K
          generalize (wr.alloc (.cells (scells 0 ⟨#[]⟩ none 0 0 0 0 none 0 0 none 0 0) 34)).drew = V1 at z1 q1 ⊢
          obtain ⟨u1, hu1⟩ : ∃ u1, u1 = wr.heap.size := ⟨_, rfl⟩
          rw [← hu1] at q1 ⊢
          have n1 : wr.heap.size ≤ u1 := by omega
          clear hu1
          (repeat (first | ((apply w4_pure); (· go_simp); (· (intro w1; go_simp; try with_reducible rfl)); (intro K hK; go_simp; refine hK _ _ ?_; clear hK K)) | ((apply w4_skip); (· go_simp); (intro K hK; go_simp; refine hK _ _ ?_; clear hK K))))
          (refine w4_act (fun K hK => ?_); go_simp)
          have z2 := z1.alloc (.cells (scells 0 ⟨#[]⟩ none 0 0 0 0 none 0 0 none 0 0) 34)
          have q2 := Blk.new V1 34 (scells 0 ⟨#[]⟩ none 0 0 0 0 none 0 0 none 0 0)
          have n2 : wr.heap.size ≤ V1.heap.size := z1.size
          have n3 : ¬ u1 = V1.heap.size := fun e => by have := q1.lt; omega
          have q1 := q1.alloc (.cells (scells 0 ⟨#[]⟩ none 0 0 0 0 none 0 0 none 0 0) 34)
          refine hK.out _ _ (fun _ => z2) ?_
          clear hK K
          generalize (V1.alloc (.cells (scells 0 ⟨#[]⟩ none 0 0 0 0 none 0 0 none 0 0) 34)) = V2 at z1 q1 q2 z2 ⊢
          generalize V1.heap.size = u2 at q2 n2 n3 ⊢
          clear z1
          have m1 := q1.melts
          have h1 := Blk.has q1
          have l1 := q1.lt
          (repeat (first | ((apply w4_pure); (· go_simp); (· (intro w1; go_simp; try with_reducible rfl)); (intro K hK; go_simp; refine hK _ _ ?_; clear hK K)) | ((apply w4_skip); (· go_simp); (intro K hK; go_simp; refine hK _ _ ?_; clear hK K))))
          (refine w4_act (fun K hK => ?_); go_simp)
          have z3 := z2.putAt u1 0 (scells kind name eA es.len ec low high lA l.len lc xA x.len xc) (fun hlt => absurd hlt (by omega))
          have r1 : Blk (putAt V2 u1 0 (scells kind name eA es.len ec low high lA l.len lc xA x.len xc)) u1 34 (scells kind name eA es.len ec low high lA l.len lc xA x.len xc) := Blk.put_ q1 0 _
          have r2 : Blk (putAt V2 u1 0 (scells kind name eA es.len ec low high lA l.len lc xA x.len xc)) u2 34 (scells 0 ⟨#[]⟩ none 0 0 0 0 none 0 0 none 0 0) := Blk.putFar q2 (by omega) _ _
          refine hK.out _ _ (fun _ => z3) ?_
          clear hK K m1 h1 l1 z2 q1 q2
          generalize putAt V2 u1 0 (scells kind name eA es.len ec low high lA l.len lc xA x.len xc) = V3 at z3 r1 r2 ⊢
          have m1 := r2.melts
          have h1 := Blk.has r2
          have l1 := r2.lt
          (repeat (first | ((apply w4_pure); (· go_simp); (· (intro w1; go_simp; try with_reducible rfl)); (intro K hK; go_simp; refine hK _ _ ?_; clear hK K)) | ((apply w4_skip); (· go_simp); (intro K hK; go_simp; refine hK _ _ ?_; clear hK K))))
          (refine w4_act (fun K hK => ?_); go_simp)
          have z4 := z3.putAt u2 0 (scells kind name eB es.len ed low high lB l.len ld xB x.len xd) (fun hlt => absurd hlt (by omega))
          have s2 : Blk (putAt V3 u2 0 (scells kind name eB es.len ed low high lB l.len ld xB x.len xd)) u2 34 (scells kind name eB es.len ed low high lB l.len ld xB x.len xd) := Blk.put_ r2 0 _
          have s1 : Blk (putAt V3 u2 0 (scells kind name eB es.len ed low high lB l.len ld xB x.len xd)) u1 34 (scells kind name eA es.len ec low high lA l.len lc xA x.len xc) := Blk.putFar r1 (by omega) _ _
          refine hK.out _ _ (fun _ => z4) ?_
          clear hK K m1 h1 l1 z3 r1 r2
          generalize putAt V3 u2 0 (scells kind name eB es.len ed low high lB l.len ld xB x.len xd) = V4 at z4 s1 s2 ⊢
          (repeat (first | ((apply w4_pure); (· go_simp); (· (intro w1; go_simp; try with_reducible rfl)); (intro K hK; go_simp; refine hK _ _ ?_; clear hK K)) | ((apply w4_skip); (· go_simp); (intro K hK; go_simp; refine hK _ _ ?_; clear hK K)) | (refine w4_end (by kernel_rfl) (fun K hK => ?_); go_simp; refine hK.out _ _ ?_; clear hK K))); refine w4_nil ?_
          exact KEY.out _ _ _ ⟨z4, s1, s2⟩
        · (refine w4_act (fun K hK => ?_); go_simp)
          have z1 : Ext wr (wr.alloc (.cells (scells 0 ⟨#[]⟩ none 0 0 0 0 none 0 0 none 0 0) 34)).drew := ((Kept.refl _ wr).alloc _).drew
          have q1 : Blk (wr.alloc (.cells (scells 0 ⟨#[]⟩ none 0 0 0 0 none 0 0 none 0 0) 34)).drew wr.heap.size 34 (scells 0 ⟨#[]⟩ none 0 0 0 0 none 0 0 none 0 0) := (Blk.new wr _ _).drew
          refine hK.out _ _ (fun _ => z1) ?_
          clear hK K
          generalize (wr.alloc (.cells (scells 0 ⟨#[]⟩ none 0 0 0 0 none 0 0 none 0 0) 34)).drew = V1 at z1 q1 ⊢
          obtain ⟨u1, hu1⟩ : ∃ u1, u1 = wr.heap.size := ⟨_, rfl⟩
          rw [← hu1] at q1 ⊢
          have n1 : wr.heap.size ≤ u1 := by omega
          clear hu1
          (repeat (first | ((apply w4_pure); (· go_simp); (· (intro w1; go_simp; try with_reducible rfl)); (intro K hK; go_simp; refine hK _ _ ?_; clear hK K)) | ((apply w4_skip); (· go_simp); (intro K hK; go_simp; refine hK _ _ ?_; clear hK K))))
          (refine w4_act (fun K hK => ?_); go_simp)
          have z2 := z1.alloc (.cells (scells 0 ⟨#[]⟩ none 0 0 0 0 none 0 0 none 0 0) 34)
          have q2 := Blk.new V1 34 (scells 0 ⟨#[]⟩ none 0 0 0 0 none 0 0 none 0 0)
          have n2 : wr.heap.size ≤ V1.heap.size := z1.size
          have n3 : ¬ u1 = V1.heap.size := fun e => by have := q1.lt; omega
          have q1 := q1.alloc (.cells (scells 0 ⟨#[]⟩ none 0 0 0 0 none 0 0 none 0 0) 34)
          refine hK.out _ _ (fun _ => z2) ?_
          clear hK K
          generalize (V1.alloc (.cells (scells 0 ⟨#[]⟩ none 0 0 0 0 none 0 0 none 0 0) 34)) = V2 at z1 q1 q2 z2 ⊢
          generalize V1.heap.size = u2 at q2 n2 n3 ⊢
          clear z1
          have m1 := q2.melts
          have h1 := Blk.has q2
          have l1 := q2.lt
          (repeat (first | ((apply w4_pure); (· go_simp); (· (intro w1; go_simp; try with_reducible rfl)); (intro K hK; go_simp; refine hK _ _ ?_; clear hK K)) | ((apply w4_skip); (· go_simp); (intro K hK; go_simp; refine hK _ _ ?_; clear hK K))))
          (refine w4_act (fun K hK => ?_); go_simp)
          have z3 := z2.putAt u2 0 (scells kind name eA es.len ec low high lA l.len lc xA x.len xc) (fun hlt => absurd hlt (by omega))
          have r1 : Blk (putAt V2 u2 0 (scells kind name eA es.len ec low high lA l.len lc xA x.len xc)) u2 34 (scells kind name eA es.len ec low high lA l.len lc xA x.len xc) := Blk.put_ q2 0 _
          have r2 : Blk (putAt V2 u2 0 (scells kind name eA es.len ec low high lA l.len lc xA x.len xc)) u1 34 (scells 0 ⟨#[]⟩ none 0 0 0 0 none 0 0 none 0 0) := Blk.putFar q1 (by omega) _ _
          refine hK.out _ _ (fun _ => z3) ?_
          clear hK K m1 h1 l1 z2 q1 q2
          generalize putAt V2 u2 0 (scells kind name eA es.len ec low high lA l.len lc xA x.len xc) = V3 at z3 r1 r2 ⊢
          have m1 := r2.melts
          have h1 := Blk.has r2
          have l1 := r2.lt
          (repeat (first | ((apply w4_pure); (· go_simp); (· (intro w1; go_simp; try with_reducible rfl)); (intro K hK; go_simp; refine hK _ _ ?_; clear hK K)) | ((apply w4_skip); (· go_simp); (intro K hK; go_simp; refine hK _ _ ?_; clear hK K))))
          (refine w4_act (fun K hK => ?_); go_simp)
          have z4 := z3.putAt u1 0 (scells kind name eB es.len ed low high lB l.len ld xB x.len xd) (fun hlt => absurd hlt (by omega))
          have s2 : Blk (putAt V3 u1 0 (scells kind name eB es.len ed low high lB l.len ld xB x.len xd)) u1 34 (scells kind name eB es.len ed low high lB l.len ld xB x.len xd) := Blk.put_ r2 0 _
          have s1 : Blk (putAt V3 u1 0 (scells kind name eB es.len ed low high lB l.len ld xB x.len xd)) u2 34 (scells kind name eA es.len ec low high lA l.len lc xA x.len xc) := Blk.putFar r1 (by omega) _ _
          refine hK.out _ _ (fun _ => z4) ?_
          clear hK K m1 h1 l1 z3 r1 r2
          generalize putAt V3 u1 0 (scells kind name eB es.len ed low high lB l.len ld xB x.len xd) = V4 at z4 s1 s2 ⊢
          (repeat (first | ((apply w4_pure); (· go_simp); (· (intro w1; go_simp; try with_reducible rfl)); (intro K hK; go_simp; refine hK _ _ ?_; clear hK K)) | ((apply w4_skip); (· go_simp); (intro K hK; go_simp; refine hK _ _ ?_; clear hK K)) | (refine w4_end (by kernel_rfl) (fun K hK => ?_); go_simp; refine hK.out _ _ ?_; clear hK K))); refine w4_nil ?_
          exact KEY.out _ _ _ ⟨z4, s1, s2⟩
      case h2 =>
        rintro W2 a a2 ⟨y2, hba, hbb⟩
        have HBA := Lib.hid hba
        have HBB := Lib.hid hbb
        have HY := Lib.hid (HX.out.trans y2)
        have HYQ := Lib.hid (HWQ.out.trans y2)
        have HXY := Lib.hid (Kept.refl (fun _ => False) W2)
        clear y2 hba hbb
        have cA := Blk.cell (Blk.ext HBA.out HXY.out)
        have lA1 := (Blk.ext HBA.out HXY.out).lt
        have cB := Blk.cell (Blk.ext HBB.out HXY.out)
        have lB1 := (Blk.ext HBB.out HXY.out).lt
        go_wp2_with fail
        clear cA lA1 cB lB1
        refine (rsamexs_any w0 N HN0.out es eA es.len ec eB es.len ed _ HYQ.out KE.out.1 KE.out.2).mono ?_
        rintro e w3 ⟨rfl, hx3⟩
        have HXY := Lib.hid (HXY.out.trans hx3)
        clear hx3
        have cA := Blk.cell (Blk.ext HBA.out HXY.out)
        have lA1 := (Blk.ext HBA.out HXY.out).lt
        have cB := Blk.cell (Blk.ext HBB.out HXY.out)
        have lB1 := (Blk.ext HBB.out HXY.out).lt
        go_wp2_with fail
        clear cA lA1 cB lB1
        refine (HAL.out.1 lA l.len lc lB l.len ld _ (HYQ.out.trans HXY.out) KL.out.1 KL.out.2).mono ?_
        rintro e w4 ⟨rfl, hx4⟩
        have HXY := Lib.hid (HXY.out.trans hx4)
        clear hx4
        have cA := Blk.cell (Blk.ext HBA.out HXY.out)
        have lA1 := (Blk.ext HBA.out HXY.out).lt
        have cB := Blk.cell (Blk.ext HBB.out HXY.out)
        have lB1 := (Blk.ext HBB.out HXY.out).lt
        go_wp2_with fail
        clear cA lA1 cB lB1
        refine (HAL.out.2.1 xA x.len xc xB x.len xd _ (HYQ.out.trans HXY.out) KX.out.1 KX.out.2).mono ?_
        rintro e w5 ⟨rfl, hx5⟩
        have HXY := Lib.hid (HXY.out.trans hx5)
        clear hx5
        go_wp2_with fail
        go_roundw
        case rel => exact ⟨j + 1, r, by omega, by go_num, by rw [Nat.add_mul, ← Nat.add_assoc]; exact HR.out, by rw [Nat.add_mul, ← Nat.add_assoc]; exact HR2.out, HAL.out.2.2, HY.out.trans HXY.out⟩
        case measure => simp only [intOf]; omega
end Go.Proofs.YtfamkemdgbnegaaDoor

/- Sorts: the same programs are the same: the document's Same. -/
namespace Go.Proofs.YtfamkemdgbnegaaDoor
open Go.RowKit So
set_option maxRecDepth 100000 in
set_option maxHeartbeats 1600000 in
theorem rsamev_any (w0 : World) (N : Nat) (l : List Vr) (A : Option Addr) (n c : Nat) (B : Option Addr) (m d : Nat) (w : World) (hw : Ext w0 w) (h1 : VSl w0 N A n l) (h2 : VSl w0 N B m l) : Calls Tryd.prog 45 #[.slice A n c, .slice B m d] w fun e w' => e = .returned (.bool true) ∧ Ext w w' := by
  obtain ⟨hn, hf, -, b, off, hA, hE⟩ := h1
  obtain ⟨hm, -, -, b2, off2, hB, hE2⟩ := h2
  have hmx := hf.max (by omega)
  obtain rfl : m = n := by omega
  have HN := Lib.hid hn
  have HA := Lib.hid hA
  have HB := Lib.hid hB
  have HE := Lib.hid hE
  have HE2 := Lib.hid hE2
  have HW0 := Lib.hid hw
  clear hn hf hA hE hm hB hE2 hw
  go_enter Tryd.func45, Tryd.ntmps45
  go_wp2_with fail
  go_loopw [5] (fun t5 wr => ∃ (j : Nat), j ≤ m ∧ t5 = .int .i64 j ∧ Ext w wr) (fun t5 _ => m - (intOf t5).toNat)
  case atStart => exact ⟨0, Nat.zero_le _, rfl, Kept.refl _ _⟩
  case round =>
    obtain ⟨j, hj, rfl, hx⟩ := hrel
    have HX := Lib.hid hx
    clear hx
    by_cases hlt : j < m
    · have hjl : j < l.length := by have := HN.out; omega
      have hltI : (j : Int) < m := by omega
      obtain rfl := HA.out (by omega)
      obtain rfl := HB.out (by omega)
      have hr1 := (HE.out (by omega)).2.ext (HW0.out.trans HX.out)
      have hr2 := (HE2.out (by omega)).2.ext (HW0.out.trans HX.out)
      obtain ⟨hh, hg⟩ := vr_at hr1 j hjl
      obtain ⟨hh2, hg2⟩ := vr_at hr2 j hjl
      obtain ⟨x, hxe⟩ : ∃ x, x = l[j] := ⟨_, rfl⟩
      rw [← hxe] at hg hg2
      have HH := Lib.hid hh
      have HG := Lib.hid hg
      have HH2 := Lib.hid hh2
      have HG2 := Lib.hid hg2
      have HBW := Lib.hid (And.intro hr1.lt hr2.lt)
      clear hr1 hr2 hh hg hh2 hg2 hxe
      go_upto_region 6 with (fail)
      refine wp_region_3 (fun w1 => Ext wr w1) [(0, 2), (1, 2), (2, 2), (3, 1), (4, 2), (5, 2), (6, 2), (7, 1), (8, 2)] (by kernel_rfl) (by kernel_rfl) (by kernel_rfl) (by kernel_rfl) ?_; intro l' hl'; simp only [List.map_cons, List.map_nil, List.getD_cons_zero, List.getD_cons_succ] at hl'; subst hl'
      have HZ0 := Lib.hid (show Ext wr wr.drew from (Kept.refl _ wr).drew)
      (repeat (first | ((apply w3_pure); (· go_simp); (· (intro w1; go_simp; try with_reducible rfl)); (intro K hK; go_simp; refine hK _ _ ?_; clear hK K)) | ((apply w3_skip); (· go_simp); (intro K hK; go_simp; refine hK _ _ ?_; clear hK K)) | ((apply w3_take); (· exact HZ0.out); (· go_simp); (· (intro w1 hS; have d0 := has_ext hS HBW.out.1 HH.out; have d1 := gets_ext hS HBW.out.1 HG.out; have d2 := has_ext hS HBW.out.2 HH2.out; have d3 := gets_ext hS HBW.out.2 HG2.out; have d4 := Nat.lt_of_lt_of_le HBW.out.1 hS.size; have d5 := Nat.lt_of_lt_of_le HBW.out.2 hS.size;  go_simp; try with_reducible rfl)); (intro K hK; go_simp; refine hK _ _ ?_; clear hK K)) | ((apply w3_pass); (· exact HZ0.out); (· go_simp); (intro K hK; go_simp; refine hK _ _ ?_; clear hK K))))
      (repeat (first | ((apply w3_pure); (· go_simp); (· (intro w1; go_simp; try with_reducible rfl)); (intro K hK; go_simp; refine hK _ _ ?_; clear hK K)) | ((apply w3_skip); (· go_simp); (intro K hK; go_simp; refine hK _ _ ?_; clear hK K)) | (refine w3_end (by kernel_rfl) (fun K hK => ?_); go_simp; refine hK.out _ _ ?_; clear hK K))); refine w3_nil ?_
      go_wp2_with fail
      go_roundw
      case rel => exact ⟨j + 1, hlt, by go_num, HX.out.trans HZ0.out⟩
      case measure => simp only [intOf]; omega
    · obtain rfl : j = m := by omega
      go_wp2_with fail
      go_ret
      exact ⟨rfl, HX.out⟩
set_option maxRecDepth 100000 in
set_option maxHeartbeats 2000000 in
theorem rsame_any (w0 : World) (N : Nat) (hN : N ≤ w0.heap.size) (c1 c2 : Pc) (p : Pr) (w : World) (hw : Ext w0 w) (h1 : PAt w0 N c1 p) (h2 : PAt w0 N c2 p) : Calls Tryd.prog 25 #[.agg c1.cells, .agg c2.cells] w fun e w' => e = .returned (.bool true) ∧ Ext w w' := by
  obtain ⟨cn, cse, ⟨kA, kn, kc⟩, ⟨vA, vn, vc⟩, ⟨sA, sn, sc⟩, ⟨tA, tn, tc⟩, ⟨A, n, cc⟩, ⟨yA, yn, yc⟩, csi, ⟨qA, qn, qc⟩, ⟨zA, zn, zc⟩⟩ := c1
  obtain ⟨dn, dse, ⟨kB, km, kd⟩, ⟨vB, vm, vd⟩, ⟨sB, sm, sd⟩, ⟨tB, tm, td⟩, ⟨B, m, dd⟩, ⟨yB, ym, yd⟩, dsi, ⟨qB, qm, qd⟩, ⟨zB, zm, zd⟩⟩ := c2
  obtain rfl : cn = p.name := h1.name
  obtain rfl : cse = p.seats := h1.seats
  obtain rfl : csi = p.silent := h1.silent
  obtain rfl : dn = p.name := h2.name
  obtain rfl : dse = p.seats := h2.seats
  obtain rfl : dsi = p.silent := h2.silent
  obtain rfl : km = kn := (show km = p.stakes.length from h2.stakes.1).trans (show kn = p.stakes.length from h1.stakes.1).symm
  obtain rfl : vm = vn := (show vm = p.vars.length from h2.vars.1).trans (show vn = p.vars.length from h1.vars.1).symm
  obtain rfl : sm = sn := (show sm = p.start.len from h2.start.1).trans (show sn = p.start.len from h1.start.1).symm
  obtain rfl : tm = tn := (show tm = p.turn.len from h2.turn.1).trans (show tn = p.turn.len from h1.turn.1).symm
  obtain rfl : m = n := (show m = p.params.length from h2.params.1).trans (show n = p.params.length from h1.params.1).symm
  obtain rfl : ym = yn := (show ym = p.play.len from h2.play.1).trans (show yn = p.play.len from h1.play.1).symm
  obtain rfl : qm = qn := (show qm = p.quiet.len from h2.quiet.1).trans (show qn = p.quiet.len from h1.quiet.1).symm
  obtain rfl : zm = zn := (show zm = p.pays.len from h2.pays.1).trans (show zn = p.pays.len from h1.pays.1).symm
  have x1 := ((Kept.refl (fun _ => False) w).alloc (.cells (Pc.cells (⟨p.name, p.seats, ⟨kA, km, kc⟩, ⟨vA, vm, vc⟩, ⟨sA, sm, sc⟩, ⟨tA, tm, tc⟩, ⟨A, m, cc⟩, ⟨yA, ym, yc⟩, p.silent, ⟨qA, qm, qc⟩, ⟨zA, zm, zc⟩⟩ : Pc)) 26)).alloc (.cells (Pc.cells (⟨p.name, p.seats, ⟨kB, km, kd⟩, ⟨vB, vm, vd⟩, ⟨sB, sm, sd⟩, ⟨tB, tm, td⟩, ⟨B, m, dd⟩, ⟨yB, ym, yd⟩, p.silent, ⟨qB, qm, qd⟩, ⟨zB, zm, zd⟩⟩ : Pc)) 26)
  have hA := (Blk.new w 26 (Pc.cells (⟨p.name, p.seats, ⟨kA, km, kc⟩, ⟨vA, vm, vc⟩, ⟨sA, sm, sc⟩, ⟨tA, tm, tc⟩, ⟨A, m, cc⟩, ⟨yA, ym, yc⟩, p.silent, ⟨qA, qm, qc⟩, ⟨zA, zm, zc⟩⟩ : Pc))).alloc (.cells (Pc.cells (⟨p.name, p.seats, ⟨kB, km, kd⟩, ⟨vB, vm, vd⟩, ⟨sB, sm, sd⟩, ⟨tB, tm, td⟩, ⟨B, m, dd⟩, ⟨yB, ym, yd⟩, p.silent, ⟨qB, qm, qd⟩, ⟨zB, zm, zd⟩⟩ : Pc)) 26)
  have hB := Blk.new' (w.alloc (.cells (Pc.cells (⟨p.name, p.seats, ⟨kA, km, kc⟩, ⟨vA, vm, vc⟩, ⟨sA, sm, sc⟩, ⟨tA, tm, tc⟩, ⟨A, m, cc⟩, ⟨yA, ym, yc⟩, p.silent, ⟨qA, qm, qc⟩, ⟨zA, zm, zc⟩⟩ : Pc)) 26)) 26 (Pc.cells (⟨p.name, p.seats, ⟨kB, km, kd⟩, ⟨vB, vm, vd⟩, ⟨sB, sm, sd⟩, ⟨tB, tm, td⟩, ⟨B, m, dd⟩, ⟨yB, ym, yd⟩, p.silent, ⟨qB, qm, qd⟩, ⟨zB, zm, zd⟩⟩ : Pc)) (w.heap.size + 1) (by simp)
  have HP1 := Lib.hid h1
  have HP2 := Lib.hid h2
  obtain ⟨hkn, hkf, -, kb, ko, hkA, hkE⟩ := h1.stakes
  obtain ⟨-, -, -, kb2, ko2, hkB, hkE2⟩ := h2.stakes
  have hmx := hkf.max (by omega)
  have HKN := Lib.hid (show km = p.stakes.length from hkn)
  have HKA := Lib.hid hkA
  have HKB := Lib.hid hkB
  have HKE := Lib.hid hkE
  have HKE2 := Lib.hid hkE2
  have HW0 := Lib.hid hw
  clear hkn hkf hkA hkE hkB hkE2 h1 h2 hw
  go_enter Tryd.func25, Tryd.ntmps25
  go_upto_region 1 with (fail)
  generalize hV : ((w.alloc (.cells (Pc.cells (⟨p.name, p.seats, ⟨kA, km, kc⟩, ⟨vA, vm, vc⟩, ⟨sA, sm, sc⟩, ⟨tA, tm, tc⟩, ⟨A, m, cc⟩, ⟨yA, ym, yc⟩, p.silent, ⟨qA, qm, qc⟩, ⟨zA, zm, zc⟩⟩ : Pc)) 26)).alloc (.cells (Pc.cells (⟨p.name, p.seats, ⟨kB, km, kd⟩, ⟨vB, vm, vd⟩, ⟨sB, sm, sd⟩, ⟨tB, tm, td⟩, ⟨B, m, dd⟩, ⟨yB, ym, yd⟩, p.silent, ⟨qB, qm, qd⟩, ⟨zB, zm, zd⟩⟩ : Pc)) 26)) = V at x1 hA hB ⊢
  clear hV
  generalize w.heap.size + 1 = b2 at hB ⊢
  generalize w.heap.size = b1 at hA hB ⊢
  have HBA := Lib.hid hA
  have HBB := Lib.hid hB
  have HX1 := Lib.hid x1
  have HWV := Lib.hid (HW0.out.trans x1)
  have HXY := Lib.hid (Kept.refl (fun _ => False) V)
  clear hA hB x1
  have cA := Blk.cell (Blk.ext HBA.out HXY.out)
  have lA1 := (Blk.ext HBA.out HXY.out).lt
  have cB := Blk.cell (Blk.ext HBB.out HXY.out)
  have lB1 := (Blk.ext HBB.out HXY.out).lt
  go_wp2_with fail
  clear cA lA1 cB lB1
  refine (rsamev_any w0 N p.vars vA vm vc vB vm vd _ (HWV.out.trans HXY.out) HP1.out.vars HP2.out.vars).mono ?_
  rintro e w3 ⟨rfl, hx3⟩
  have HXY := Lib.hid (HXY.out.trans hx3)
  clear hx3
  have cA := Blk.cell (Blk.ext HBA.out HXY.out)
  have lA1 := (Blk.ext HBA.out HXY.out).lt
  have cB := Blk.cell (Blk.ext HBB.out HXY.out)
  have lB1 := (Blk.ext HBB.out HXY.out).lt
  go_wp2_with fail
  clear cA lA1 cB lB1
  refine (rsamev_any w0 N p.params A m cc B m dd _ (HWV.out.trans HXY.out) HP1.out.params HP2.out.params).mono ?_
  rintro e w3 ⟨rfl, hx3⟩
  have HXY := Lib.hid (HXY.out.trans hx3)
  clear hx3
  have cA := Blk.cell (Blk.ext HBA.out HXY.out)
  have lA1 := (Blk.ext HBA.out HXY.out).lt
  have cB := Blk.cell (Blk.ext HBB.out HXY.out)
  have lB1 := (Blk.ext HBB.out HXY.out).lt
  go_wp2_with fail
  clear cA lA1 cB lB1
  have HXS := HXY
  clear HXY
  go_loopw [5] (fun t5 wr => ∃ (j : Nat), j ≤ km ∧ t5 = .int .i64 j ∧ Ext V wr) (fun t5 _ => km - (intOf t5).toNat)
  case atStart => exact ⟨0, Nat.zero_le _, rfl, HXS.out⟩
  case round =>
    obtain ⟨j, hj, rfl, hx⟩ := hrel
    have HXY := Lib.hid hx
    clear hx HXS
    have cA := Blk.cell (Blk.ext HBA.out HXY.out)
    have lA1 := (Blk.ext HBA.out HXY.out).lt
    have cB := Blk.cell (Blk.ext HBB.out HXY.out)
    have lB1 := (Blk.ext HBB.out HXY.out).lt
    by_cases hlt : j < km
    · have hjl : j < p.stakes.length := by have := HKN.out; omega
      have hltI : (j : Int) < km := by omega
      obtain rfl := HKA.out (by omega)
      obtain rfl := HKB.out (by omega)
      have hr1 := (HKE.out (by omega)).2.ext (HWV.out.trans HXY.out)
      have hr2 := (HKE2.out (by omega)).2.ext (HWV.out.trans HXY.out)
      have HI1 := Lib.hid (int_at hr1 j hjl)
      have HI2 := Lib.hid (int_at hr2 j hjl)
      have HBW := Lib.hid (And.intro hr1.lt hr2.lt)
      obtain ⟨x, hxe⟩ : ∃ x, x = p.stakes[j] := ⟨_, rfl⟩
      rw [← hxe] at HI1 HI2
      clear hr1 hr2 hxe
      go_upto_region 6 with (fail)
      clear cA lA1 cB lB1
      refine wp_region_3 (fun w1 => Ext wr w1) [(0, 2), (1, 1), (2, 2), (3, 2), (4, 1), (5, 2), (6, 1), (7, 2), (8, 2), (9, 1), (10, 2)] (by kernel_rfl) (by kernel_rfl) (by kernel_rfl) (by kernel_rfl) ?_; intro l' hl'; simp only [List.map_cons, List.map_nil, List.getD_cons_zero, List.getD_cons_succ] at hl'; subst hl'
      have HZ0 := Lib.hid (show Ext wr wr.drew from (Kept.refl _ wr).drew)
      (repeat (first | ((apply w3_pure); (· go_simp); (· (intro w1; go_simp; try with_reducible rfl)); (intro K hK; go_simp; refine hK _ _ ?_; clear hK K)) | ((apply w3_skip); (· go_simp); (intro K hK; go_simp; refine hK _ _ ?_; clear hK K)) | ((apply w3_take); (· exact HZ0.out); (· go_simp); (· (intro w1 hS; have d0 := (hS.cell (p := ⟨kb, ko + j, none⟩) HBW.out.1 (fun f => f)).trans HI1.out; have d1 := (hS.cell (p := ⟨kb2, ko2 + j, none⟩) HBW.out.2 (fun f => f)).trans HI2.out; have d4 := Nat.lt_of_lt_of_le HBW.out.1 hS.size; have d5 := Nat.lt_of_lt_of_le HBW.out.2 hS.size; have e0 := Blk.ext HBA.out (HXY.out.trans hS); have e1 := Blk.cell e0; have e2 := e0.lt; have e3 := Blk.ext HBB.out (HXY.out.trans hS); have e4 := Blk.cell e3; have e5 := e3.lt;  go_simp; try with_reducible rfl)); (intro K hK; go_simp; refine hK _ _ ?_; clear hK K)) | ((apply w3_pass); (· exact HZ0.out); (· go_simp); (intro K hK; go_simp; refine hK _ _ ?_; clear hK K))))
      (repeat (first | ((apply w3_pure); (· go_simp); (· (intro w1; go_simp; try with_reducible rfl)); (intro K hK; go_simp; refine hK _ _ ?_; clear hK K)) | ((apply w3_skip); (· go_simp); (intro K hK; go_simp; refine hK _ _ ?_; clear hK K)) | (refine w3_end (by kernel_rfl) (fun K hK => ?_); go_simp; refine hK.out _ _ ?_; clear hK K))); refine w3_nil ?_
      go_wp2_with fail
      go_roundw
      case rel => exact ⟨j + 1, hlt, by go_num, HXY.out.trans HZ0.out⟩
      case measure => simp only [intOf]; omega
    · obtain rfl : j = km := by omega
      go_wp2_with fail
      clear cA lA1 cB lB1
      refine (rsamess_any w0 N hN p.start sA sm sc sB sm sd _ (HWV.out.trans HXY.out) HP1.out.start HP2.out.start).mono ?_
      rintro e w3 ⟨rfl, hx3⟩
      have HXY := Lib.hid (HXY.out.trans hx3)
      clear hx3
      have cA := Blk.cell (Blk.ext HBA.out HXY.out)
      have lA1 := (Blk.ext HBA.out HXY.out).lt
      have cB := Blk.cell (Blk.ext HBB.out HXY.out)
      have lB1 := (Blk.ext HBB.out HXY.out).lt
      go_wp2_with fail
      clear cA lA1 cB lB1
      refine (rsamess_any w0 N hN p.turn tA tm tc tB tm td _ (HWV.out.trans HXY.out) HP1.out.turn HP2.out.turn).mono ?_
      rintro e w3 ⟨rfl, hx3⟩
      have HXY := Lib.hid (HXY.out.trans hx3)
      clear hx3
      have cA := Blk.cell (Blk.ext HBA.out HXY.out)
      have lA1 := (Blk.ext HBA.out HXY.out).lt
      have cB := Blk.cell (Blk.ext HBB.out HXY.out)
      have lB1 := (Blk.ext HBB.out HXY.out).lt
      go_wp2_with fail
      clear cA lA1 cB lB1
      refine (rsamess_any w0 N hN p.play yA ym yc yB ym yd _ (HWV.out.trans HXY.out) HP1.out.play HP2.out.play).mono ?_
      rintro e w3 ⟨rfl, hx3⟩
      have HXY := Lib.hid (HXY.out.trans hx3)
      clear hx3
      have cA := Blk.cell (Blk.ext HBA.out HXY.out)
      have lA1 := (Blk.ext HBA.out HXY.out).lt
      have cB := Blk.cell (Blk.ext HBB.out HXY.out)
      have lB1 := (Blk.ext HBB.out HXY.out).lt
      go_wp2_with fail
      clear cA lA1 cB lB1
      refine (rsamess_any w0 N hN p.quiet qA qm qc qB qm qd _ (HWV.out.trans HXY.out) HP1.out.quiet HP2.out.quiet).mono ?_
      rintro e w3 ⟨rfl, hx3⟩
      have HXY := Lib.hid (HXY.out.trans hx3)
      clear hx3
      have cA := Blk.cell (Blk.ext HBA.out HXY.out)
      have lA1 := (Blk.ext HBA.out HXY.out).lt
      have cB := Blk.cell (Blk.ext HBB.out HXY.out)
      have lB1 := (Blk.ext HBB.out HXY.out).lt
      go_wp2_with fail
      clear cA lA1 cB lB1
      refine (rsamess_any w0 N hN p.pays zA zm zc zB zm zd _ (HWV.out.trans HXY.out) HP1.out.pays HP2.out.pays).mono ?_
      rintro e w3 ⟨rfl, hx3⟩
      have HXY := Lib.hid (HXY.out.trans hx3)
      clear hx3
      go_wp2_with fail
      go_ret
      exact ⟨rfl, HX1.out.trans HXY.out⟩
end Go.Proofs.YtfamkemdgbnegaaDoor

/- Sorts: the same expressions are the same: package syntax. -/
namespace Go.Proofs.YtfamkemdgbnegaaDoor
open Go.RowKit So
abbrev SSxC (w0 : World) (N : Nat) (F : EF) : Prop := ∀ (A : Option Addr) (n c : Nat) (B : Option Addr) (m d : Nat) (w : World), Ext w0 w → ESl w0 N A n F → ESl w0 N B m F → Calls Tryd.prog 86 #[.slice A n c, .slice B m d, .func (Fn.func 87) #[] #[]] w fun e w' => e = .returned (.bool true) ∧ Ext w w'
set_option maxRecDepth 100000 in
set_option maxHeartbeats 1600000 in
theorem ssamex_any (w0 : World) (N : Nat) (k : EF) (HK : SSxC w0 N k) (op n : Int) (name : Str) (A : Option Addr) (c : Nat) (B : Option Addr) (d : Nat) (w : World) (hw : Ext w0 w) (h1 : ESl w0 N A k.len k) (h2 : ESl w0 N B k.len k) :
    Calls Tryd.prog 87 #[.agg (ecells op n name A k.len c), .agg (ecells op n name B k.len d)] w fun e w' => e = .returned (.bool true) ∧ Ext w w' := by
  have x1 := ((Kept.refl (fun _ => False) w).alloc (.cells (ecells op n name A k.len c) 120)).alloc (.cells (ecells op n name B k.len d) 120)
  have hA := (Blk.new w 120 (ecells op n name A k.len c)).alloc (.cells (ecells op n name B k.len d) 120)
  have hB := Blk.new' (w.alloc (.cells (ecells op n name A k.len c) 120)) 120 (ecells op n name B k.len d) (w.heap.size + 1) (by simp)
  go_enter Tryd.func87, Tryd.ntmps87
  go_upto_region 1 with (fail)
  generalize hV : ((w.alloc (.cells (ecells op n name A k.len c) 120)).alloc (.cells (ecells op n name B k.len d) 120)) = V at x1 hA hB ⊢
  clear hV
  generalize w.heap.size + 1 = b2 at hB ⊢
  generalize w.heap.size = b1 at hA hB ⊢
  have cA := Blk.cell hA
  have lA := hA.lt
  have cB := Blk.cell hB
  have lB := hB.lt
  go_wp2_with fail
  refine (HK A k.len c B k.len d _ (hw.trans x1) h1 h2).mono ?_
  rintro e w2 ⟨rfl, hx2⟩
  go_wp2_with fail
  go_ret
  exact ⟨rfl, x1.trans hx2⟩
set_option maxRecDepth 100000 in
set_option maxHeartbeats 1600000 in
theorem ssamexs_any (w0 : World) (N : Nat) (hN : N ≤ w0.heap.size) (F : EF) : SSxC w0 N F := by
  refine ef_ind (C := SSxC w0 N) ?_ F
  clear F
  intro F IH A n c B m d w hw h1 h2
  obtain ⟨hn, hf, b, off, hA, hE⟩ := h1
  obtain ⟨hm, -, b2, off2, hB, hE2⟩ := h2
  have hmx := hf.max (by omega)
  obtain rfl : m = n := by omega
  have HN := Lib.hid hn
  have HA := Lib.hid hA
  have HB := Lib.hid hB
  have HE := Lib.hid hE
  have HE2 := Lib.hid hE2
  have HI := Lib.hid IH
  have HW0 := Lib.hid hw
  have HN0 := Lib.hid hN
  clear hn hf hA hE hm hB hE2 IH hw hN
  go_enter Tryd.func86, Tryd.ntmps86
  go_wp2_with fail
  go_loopw [17] (fun t17 wr => ∃ (j : Nat) (Q : EF), j + Q.len = m ∧ t17 = .int .i64 j ∧ EFAt w0 N Q b (off + j * 4) ∧ EFAt w0 N Q b2 (off2 + j * 4) ∧ EF.All (SSxC w0 N) Q ∧ Ext w wr) (fun t17 _ => m - (intOf t17).toNat)
  case atStart => exact ⟨0, F, by rw [HN.out, Nat.zero_add], rfl, by simpa using HE.out, by simpa using HE2.out, HI.out, Kept.refl _ _⟩
  case round =>
    obtain ⟨j, Q, hj, rfl, hQ, hQ2, hall, hx⟩ := hrel
    have HX := Lib.hid hx
    have HQ := Lib.hid hQ
    have HQ2 := Lib.hid hQ2
    have HAL := Lib.hid hall
    clear hx hQ hQ2 hall
    cases Q with
    | nil =>
      simp only [EF.len, Nat.add_zero] at hj
      subst hj
      go_wp2_with fail
      go_ret
      exact ⟨rfl, HX.out⟩
    | cons op x name k r =>
      obtain ⟨hb, -, -, -, ⟨A', ca, p', o', hh, hg, hl, ha, hk⟩, hr⟩ := HQ.out
      obtain ⟨hb2, -, -, -, ⟨B', cb, p2, o2, hh2, hg2, hl2, ha2, hk2⟩, hr2⟩ := HQ2.out
      simp only [EF.len] at hj
      have hlt : (j : Int) < m := by omega
      obtain rfl := HA.out (by omega)
      obtain rfl := HB.out (by omega)
      have hw0 := HW0.out.trans HX.out
      have hh := has_ext hw0 (by have := HN0.out; omega) hh
      have hg := gets_ext hw0 (by have := HN0.out; omega) hg
      have hbw : b < wr.heap.size := by have := hw0.size; have := HN0.out; omega
      have HBW := Lib.hid (show b2 < wr.heap.size by have := hw0.size; have := HN0.out; omega)
      have HH2 := Lib.hid (has_ext hw0 (by have := HN0.out; omega) hh2)
      have HG2 := Lib.hid (gets_ext hw0 (by have := HN0.out; omega) hg2)
      have K1 := Lib.hid (show ESl w0 N A' k.len k from ⟨rfl, hl, p', o', ha, hk⟩)
      have K2 := Lib.hid (show ESl w0 N B' k.len k from ⟨rfl, hl2, p2, o2, ha2, hk2⟩)
      have HR := Lib.hid hr
      have HR2 := Lib.hid hr2
      have HAL := Lib.hid HAL.out
      have HWQ := Lib.hid hw0
      clear hl ha hk hl2 ha2 hk2 hr hr2 hb hb2 hw0 HQ HQ2 hh2 hg2
      have y1 := (Kept.refl (fun _ => False) wr).alloc (.cells (ecells op x name A' k.len ca) 120)
      have q1 := Blk.new wr 120 (ecells op x name A' k.len ca)
      go_upto_region 6 with (fail)
      generalize (wr.alloc (.cells (ecells op x name A' k.len ca) 120)) = V1 at y1 q1 ⊢
      generalize wr.heap.size = u1 at q1 ⊢
      clear hh hg hbw
      have hh := has_ext y1 HBW.out HH2.out
      have hg := gets_ext y1 HBW.out HG2.out
      have hbw := Nat.lt_of_lt_of_le HBW.out y1.size
      have y2 := (Kept.refl (fun _ => False) V1).alloc (.cells (ecells op x name B' k.len cb) 120)
      have q2 := Blk.new V1 120 (ecells op x name B' k.len cb)
      go_upto_region 7 with (fail)
      have q1 := Blk.ext q1 y2
      generalize (V1.alloc (.cells (ecells op x name B' k.len cb) 120)) = V2 at y2 q1 q2 ⊢
      generalize V1.heap.size = u2 at q2 ⊢
      clear hh hg hbw
      have hh1 := Blk.has q1
      have hg1 := Blk.gets q1
      have hl1 := q1.lt
      have hh2 := Blk.has q2
      have hg2 := Blk.gets q2
      have hl2 := q2.lt
      have HY := Lib.hid (y1.trans y2)
      clear y1 y2
      go_wp2_with fail
      refine (ssamex_any w0 N k HAL.out.1 op x name A' ca B' cb _ (HWQ.out.trans HY.out) K1.out K2.out).mono ?_
      rintro e w1 ⟨rfl, hx1⟩
      clear hh1 hg1 hl1 hh2 hg2 hl2 q1 q2
      go_wp2_with fail
      go_roundw
      case rel => exact ⟨j + 1, r, by omega, by go_num, by rw [Nat.add_mul, ← Nat.add_assoc]; exact HR.out, by rw [Nat.add_mul, ← Nat.add_assoc]; exact HR2.out, HAL.out.2, HX.out.trans (HY.out.trans hx1)⟩
      case measure => simp only [intOf]; omega
end Go.Proofs.YtfamkemdgbnegaaDoor

/- Sorts: the same statements are the same: package syntax. -/
namespace Go.Proofs.YtfamkemdgbnegaaDoor
open Go.RowKit So
abbrev SSsC (w0 : World) (N : Nat) (F : SF) : Prop := ∀ (A : Option Addr) (n c : Nat) (B : Option Addr) (m d : Nat) (w : World), Ext w0 w → SSl w0 N A n F → SSl w0 N B m F → Calls Tryd.prog 51 #[.slice A n c, .slice B m d] w fun e w' => e = .returned (.bool true) ∧ Ext w w'
set_option maxRecDepth 100000 in
set_option maxHeartbeats 1600000 in
theorem ssames_any (w0 : World) (N : Nat) (hN : N ≤ w0.heap.size) (l x : SF) (HL : SSsC w0 N l) (HX : SSsC w0 N x) (kind : Int) (name : Str) (es : EF) (low high : Int) (eA : Option Addr) (ec : Nat) (lA : Option Addr) (lc : Nat) (xA : Option Addr) (xc : Nat) (eB : Option Addr) (ed : Nat) (lB : Option Addr) (ld : Nat) (xB : Option Addr) (xd : Nat) (w : World) (hw : Ext w0 w)
    (e1 : ESl w0 N eA es.len es) (e2 : ESl w0 N eB es.len es) (l1 : SSl w0 N lA l.len l) (l2 : SSl w0 N lB l.len l) (x1 : SSl w0 N xA x.len x) (x2 : SSl w0 N xB x.len x) :
    Calls Tryd.prog 70 #[.agg (scells kind name eA es.len ec low high lA l.len lc xA x.len xc), .agg (scells kind name eB es.len ed low high lB l.len ld xB x.len xd)] w fun e w' => e = .returned (.bool true) ∧ Ext w w' := by
  have y1 := ((Kept.refl (fun _ => False) w).alloc (.cells (scells kind name eA es.len ec low high lA l.len lc xA x.len xc) 83)).alloc (.cells (scells kind name eB es.len ed low high lB l.len ld xB x.len xd) 83)
  have hA := (Blk.new w 83 (scells kind name eA es.len ec low high lA l.len lc xA x.len xc)).alloc (.cells (scells kind name eB es.len ed low high lB l.len ld xB x.len xd) 83)
  have hB := Blk.new' (w.alloc (.cells (scells kind name eA es.len ec low high lA l.len lc xA x.len xc) 83)) 83 (scells kind name eB es.len ed low high lB l.len ld xB x.len xd) (w.heap.size + 1) (by simp)
  have HLk := Lib.hid HL
  have HXk := Lib.hid HX
  have KE := Lib.hid (And.intro e1 e2)
  have KL := Lib.hid (And.intro l1 l2)
  have KX := Lib.hid (And.intro x1 x2)
  have HN0 := Lib.hid hN
  clear HL HX e1 e2 l1 l2 x1 x2 hN
  go_enter Tryd.func70, Tryd.ntmps70
  go_upto_region 1 with (fail)
  generalize hV : ((w.alloc (.cells (scells kind name eA es.len ec low high lA l.len lc xA x.len xc) 83)).alloc (.cells (scells kind name eB es.len ed low high lB l.len ld xB x.len xd) 83)) = V at y1 hA hB ⊢
  clear hV
  generalize w.heap.size + 1 = b2 at hB ⊢
  generalize w.heap.size = b1 at hA hB ⊢
  have HBA := Lib.hid hA
  have HBB := Lib.hid hB
  have HY1 := Lib.hid y1
  have HWV := Lib.hid (hw.trans y1)
  have HXY := Lib.hid (Kept.refl (fun _ => False) V)
  clear hA hB y1 hw
  have cA := Blk.cell (Blk.ext HBA.out HXY.out)
  have lA1 := (Blk.ext HBA.out HXY.out).lt
  have cB := Blk.cell (Blk.ext HBB.out HXY.out)
  have lB1 := (Blk.ext HBB.out HXY.out).lt
  go_wp2_with fail
  clear cA lA1 cB lB1
  refine (ssamexs_any w0 N HN0.out es eA es.len ec eB es.len ed _ HWV.out KE.out.1 KE.out.2).mono ?_
  rintro e w3 ⟨rfl, hx3⟩
  have HXY := Lib.hid (HXY.out.trans hx3)
  clear hx3
  have cA := Blk.cell (Blk.ext HBA.out HXY.out)
  have lA1 := (Blk.ext HBA.out HXY.out).lt
  have cB := Blk.cell (Blk.ext HBB.out HXY.out)
  have lB1 := (Blk.ext HBB.out HXY.out).lt
  go_wp2_with fail
  clear cA lA1 cB lB1
  refine (HLk.out lA l.len lc lB l.len ld _ (HWV.out.trans HXY.out) KL.out.1 KL.out.2).mono ?_
  rintro e w4 ⟨rfl, hx4⟩
  have HXY := Lib.hid (HXY.out.trans hx4)
  clear hx4
  have cA := Blk.cell (Blk.ext HBA.out HXY.out)
  have lA1 := (Blk.ext HBA.out HXY.out).lt
  have cB := Blk.cell (Blk.ext HBB.out HXY.out)
  have lB1 := (Blk.ext HBB.out HXY.out).lt
  go_wp2_with fail
  clear cA lA1 cB lB1
  refine (HXk.out xA x.len xc xB x.len xd _ (HWV.out.trans HXY.out) KX.out.1 KX.out.2).mono ?_
  rintro e w5 ⟨rfl, hx5⟩
  have HXY := Lib.hid (HXY.out.trans hx5)
  clear hx5
  go_wp2_with fail
  go_ret
  exact ⟨rfl, HY1.out.trans HXY.out⟩
set_option maxRecDepth 100000 in
set_option maxHeartbeats 1600000 in
theorem ssameb_any (w0 : World) (N : Nat) (hN : N ≤ w0.heap.size) (F : SF) : SSsC w0 N F := by
  refine sf_ind (C := SSsC w0 N) ?_ F
  clear F
  intro F IH A n c B m d w hw h1 h2
  go_enter Tryd.func51, Tryd.ntmps51
  go_wp2_with fail
  suffices hs : Calls Tryd.prog 69 #[.slice A n c, .slice B m d, .func (Fn.func 70) #[] #[]] w (fun e w' => e = .returned (.bool true) ∧ Ext w w') by
    refine hs.mono ?_
    rintro e w2 ⟨rfl, hx2⟩
    go_wp2_with fail
    go_ret
    exact ⟨rfl, hx2⟩
  obtain ⟨hn, hf, b, off, hA, hE⟩ := h1
  obtain ⟨hm, -, b2, off2, hB, hE2⟩ := h2
  have hmx := hf.max (by omega)
  obtain rfl : m = n := by omega
  have HN := Lib.hid hn
  have HA := Lib.hid hA
  have HB := Lib.hid hB
  have HE := Lib.hid hE
  have HE2 := Lib.hid hE2
  have HI := Lib.hid IH
  have HW0 := Lib.hid hw
  have HN0 := Lib.hid hN
  clear hn hf hA hE hm hB hE2 IH hw hN
  go_enter Tryd.func69, Tryd.ntmps69
  go_wp2_with fail
  go_loopw [17] (fun t17 wr => ∃ (j : Nat) (Q : SF), j + Q.len = m ∧ t17 = .int .i64 j ∧ SFAt w0 N Q b (off + j * 7) ∧ SFAt w0 N Q b2 (off2 + j * 7) ∧ SF.All (SSsC w0 N) Q ∧ Ext w wr) (fun t17 _ => m - (intOf t17).toNat)
  case atStart => exact ⟨0, F, by rw [HN.out, Nat.zero_add], rfl, by simpa using HE.out, by simpa using HE2.out, HI.out, Kept.refl _ _⟩
  case round =>
    obtain ⟨j, Q, hj, rfl, hQ, hQ2, hall, hx⟩ := hrel
    have HX := Lib.hid hx
    have HQ := Lib.hid hQ
    have HQ2 := Lib.hid hQ2
    have HAL := Lib.hid hall
    clear hx hQ hQ2 hall
    cases Q with
    | nil =>
      simp only [SF.len, Nat.add_zero] at hj
      subst hj
      go_wp2_with fail
      go_ret
      exact ⟨rfl, HX.out⟩
    | cons kind name es low high l x r =>
      obtain ⟨hb, -, -, -, -, ⟨eA, ec, lA, lc, xA, xc, be, oe, bl, ol, bx, ox, hh, hg, n1, n2, n3, a1, a2, a3, he, hl, hxx⟩, hr⟩ := HQ.out
      obtain ⟨hb2, -, -, -, -, ⟨eB, ed, lB, ld, xB, xd, be2, oe2, bl2, ol2, bx2, ox2, hh2, hg2, m1, m2, m3, d1, d2, d3, he2, hl2, hxx2⟩, hr2⟩ := HQ2.out
      simp only [SF.len] at hj
      have hlt : (j : Int) < m := by omega
      obtain rfl := HA.out (by omega)
      obtain rfl := HB.out (by omega)
      have hw0 := HW0.out.trans HX.out
      have hh := has_ext hw0 (by have := HN0.out; omega) hh
      have hg := gets_ext hw0 (by have := HN0.out; omega) hg
      have hbw : b < wr.heap.size := by have := hw0.size; have := HN0.out; omega
      have HBW := Lib.hid (show b2 < wr.heap.size by have := hw0.size; have := HN0.out; omega)
      have HH2 := Lib.hid (has_ext hw0 (by have := HN0.out; omega) hh2)
      have HG2 := Lib.hid (gets_ext hw0 (by have := HN0.out; omega) hg2)
      have KE := Lib.hid (And.intro (show ESl w0 N eA es.len es from ⟨rfl, n1, be, oe, a1, he⟩) (show ESl w0 N eB es.len es from ⟨rfl, m1, be2, oe2, d1, he2⟩))
      have KL := Lib.hid (And.intro (show SSl w0 N lA l.len l from ⟨rfl, n2, bl, ol, a2, hl⟩) (show SSl w0 N lB l.len l from ⟨rfl, m2, bl2, ol2, d2, hl2⟩))
      have KX := Lib.hid (And.intro (show SSl w0 N xA x.len x from ⟨rfl, n3, bx, ox, a3, hxx⟩) (show SSl w0 N xB x.len x from ⟨rfl, m3, bx2, ox2, d3, hxx2⟩))
      have HR := Lib.hid hr
      have HR2 := Lib.hid hr2
      have HAL := Lib.hid HAL.out
      have HWQ := Lib.hid hw0
      clear n1 n2 n3 m1 m2 m3 a1 a2 a3 d1 d2 d3 he hl hxx he2 hl2 hxx2 hr hr2 hb hb2 hw0 HQ HQ2 hh2 hg2
      have y1 := (Kept.refl (fun _ => False) wr).alloc (.cells (scells kind name eA es.len ec low high lA l.len lc xA x.len xc) 83)
      have q1 := Blk.new wr 83 (scells kind name eA es.len ec low high lA l.len lc xA x.len xc)
      go_upto_region 6 with (fail)
      generalize (wr.alloc (.cells (scells kind name eA es.len ec low high lA l.len lc xA x.len xc) 83)) = V1 at y1 q1 ⊢
      generalize wr.heap.size = u1 at q1 ⊢
      clear hh hg hbw
      have hh := has_ext y1 HBW.out HH2.out
      have hg := gets_ext y1 HBW.out HG2.out
      have hbw := Nat.lt_of_lt_of_le HBW.out y1.size
      have y2 := (Kept.refl (fun _ => False) V1).alloc (.cells (scells kind name eB es.len ed low high lB l.len ld xB x.len xd) 83)
      have q2 := Blk.new V1 83 (scells kind name eB es.len ed low high lB l.len ld xB x.len xd)
      go_upto_region 7 with (fail)
      have q1 := Blk.ext q1 y2
      generalize (V1.alloc (.cells (scells kind name eB es.len ed low high lB l.len ld xB x.len xd) 83)) = V2 at y2 q1 q2 ⊢
      generalize V1.heap.size = u2 at q2 ⊢
      clear hh hg hbw
      have hh1 := Blk.has q1
      have hg1 := Blk.gets q1
      have hl1 := q1.lt
      have hh2 := Blk.has q2
      have hg2 := Blk.gets q2
      have hl2 := q2.lt
      have HY := Lib.hid (y1.trans y2)
      clear y1 y2
      go_wp2_with fail
      refine (ssames_any w0 N HN0.out l x HAL.out.1 HAL.out.2.1 kind name es low high eA ec lA lc xA xc eB ed lB ld xB xd _ (HWQ.out.trans HY.out) KE.out.1 KE.out.2 KL.out.1 KL.out.2 KX.out.1 KX.out.2).mono ?_
      rintro e w1 ⟨rfl, hx1⟩
      clear hh1 hg1 hl1 hh2 hg2 hl2 q1 q2
      go_wp2_with fail
      go_roundw
      case rel => exact ⟨j + 1, r, by omega, by go_num, by rw [Nat.add_mul, ← Nat.add_assoc]; exact HR.out, by rw [Nat.add_mul, ← Nat.add_assoc]; exact HR2.out, HAL.out.2.2, HX.out.trans (HY.out.trans hx1)⟩
      case measure => simp only [intOf]; omega
end Go.Proofs.YtfamkemdgbnegaaDoor

/- Sorts: the same programs are the same: package syntax. -/
namespace Go.Proofs.YtfamkemdgbnegaaDoor
open Go.RowKit So
set_option maxRecDepth 100000 in
set_option maxHeartbeats 1600000 in
theorem sints_any (w0 : World) (N : Nat) (l : List Int) (A : Option Addr) (n c : Nat) (B : Option Addr) (m d : Nat) (w : World) (hw : Ext w0 w) (h1 : ISl w0 N A n l) (h2 : ISl w0 N B m l) : Calls Tryd.prog 49 #[.slice A n c, .slice B m d] w fun e w' => e = .returned (.bool true) ∧ Ext w w' := by
  obtain ⟨hn, hf, -, b, off, hA, hE⟩ := h1
  obtain ⟨hm, -, -, b2, off2, hB, hE2⟩ := h2
  have hmx := hf.max (by omega)
  obtain rfl : m = n := by omega
  have HN := Lib.hid hn
  have HA := Lib.hid hA
  have HB := Lib.hid hB
  have HE := Lib.hid hE
  have HE2 := Lib.hid hE2
  have HW0 := Lib.hid hw
  clear hn hf hA hE hm hB hE2 hw
  go_enter Tryd.func49, Tryd.ntmps49
  go_wp2_with fail
  go_loopw [13] (fun t13 wr => ∃ (j : Nat), j ≤ m ∧ t13 = .int .i64 j ∧ Ext w wr) (fun t13 _ => m - (intOf t13).toNat)
  case atStart => exact ⟨0, Nat.zero_le _, rfl, Kept.refl _ _⟩
  case round =>
    obtain ⟨j, hj, rfl, hx⟩ := hrel
    have HX := Lib.hid hx
    clear hx
    by_cases hlt : j < m
    · have hjl : j < l.length := by have := HN.out; omega
      have hltI : (j : Int) < m := by omega
      obtain rfl := HA.out (by omega)
      obtain rfl := HB.out (by omega)
      have hr1 := (HE.out (by omega)).2.ext (HW0.out.trans HX.out)
      have hr2 := (HE2.out (by omega)).2.ext (HW0.out.trans HX.out)
      have HI1 := Lib.hid (int_at hr1 j hjl)
      have HI2 := Lib.hid (int_at hr2 j hjl)
      obtain ⟨x, hxe⟩ : ∃ x, x = l[j] := ⟨_, rfl⟩
      rw [← hxe] at HI1 HI2
      clear hxe
      have HBW := Lib.hid (And.intro hr1.lt hr2.lt)
      clear hr1 hr2
      go_upto_region 6 with (fail)
      refine wp_region_3 (fun w1 => Ext wr w1) [(0, 2), (1, 2), (2, 2), (3, 1), (4, 2), (5, 2), (6, 2), (7, 1), (8, 2)] (by kernel_rfl) (by kernel_rfl) (by kernel_rfl) (by kernel_rfl) ?_; intro l' hl'; simp only [List.map_cons, List.map_nil, List.getD_cons_zero, List.getD_cons_succ] at hl'; subst hl'
      have HZ0 := Lib.hid (show Ext wr wr.drew from (Kept.refl _ wr).drew)
      (repeat (first | ((apply w3_pure); (· go_simp); (· (intro w1; go_simp; try with_reducible rfl)); (intro K hK; go_simp; refine hK _ _ ?_; clear hK K)) | ((apply w3_skip); (· go_simp); (intro K hK; go_simp; refine hK _ _ ?_; clear hK K)) | ((apply w3_take); (· exact HZ0.out); (· go_simp); (· (intro w1 hS; have d0 := (hS.cell (p := ⟨b, off + j, none⟩) HBW.out.1 (fun f => f)).trans HI1.out; have d1 := (hS.cell (p := ⟨b2, off2 + j, none⟩) HBW.out.2 (fun f => f)).trans HI2.out; have d4 := Nat.lt_of_lt_of_le HBW.out.1 hS.size; have d5 := Nat.lt_of_lt_of_le HBW.out.2 hS.size;  go_simp; try with_reducible rfl)); (intro K hK; go_simp; refine hK _ _ ?_; clear hK K)) | ((apply w3_pass); (· exact HZ0.out); (· go_simp); (intro K hK; go_simp; refine hK _ _ ?_; clear hK K))))
      (repeat (first | ((apply w3_pure); (· go_simp); (· (intro w1; go_simp; try with_reducible rfl)); (intro K hK; go_simp; refine hK _ _ ?_; clear hK K)) | ((apply w3_skip); (· go_simp); (intro K hK; go_simp; refine hK _ _ ?_; clear hK K)) | (refine w3_end (by kernel_rfl) (fun K hK => ?_); go_simp; refine hK.out _ _ ?_; clear hK K))); refine w3_nil ?_
      go_wp2_with fail
      go_roundw
      case rel => exact ⟨j + 1, hlt, by go_num, HX.out.trans HZ0.out⟩
      case measure => simp only [intOf]; omega
    · obtain rfl : j = m := by omega
      go_wp2_with fail
      go_ret
      exact ⟨rfl, HX.out⟩
set_option maxRecDepth 100000 in
set_option maxHeartbeats 1600000 in
theorem svars_any (w0 : World) (N : Nat) (l : List Vr) (A : Option Addr) (n c : Nat) (B : Option Addr) (m d : Nat) (w : World) (hw : Ext w0 w) (h1 : VSl w0 N A n l) (h2 : VSl w0 N B m l) : Calls Tryd.prog 50 #[.slice A n c, .slice B m d] w fun e w' => e = .returned (.bool true) ∧ Ext w w' := by
  obtain ⟨hn, hf, -, b, off, hA, hE⟩ := h1
  obtain ⟨hm, -, -, b2, off2, hB, hE2⟩ := h2
  have hmx := hf.max (by omega)
  obtain rfl : m = n := by omega
  have HN := Lib.hid hn
  have HA := Lib.hid hA
  have HB := Lib.hid hB
  have HE := Lib.hid hE
  have HE2 := Lib.hid hE2
  have HW0 := Lib.hid hw
  clear hn hf hA hE hm hB hE2 hw
  go_enter Tryd.func50, Tryd.ntmps50
  go_wp2_with fail
  go_loopw [13] (fun t13 wr => ∃ (j : Nat), j ≤ m ∧ t13 = .int .i64 j ∧ Ext w wr) (fun t13 _ => m - (intOf t13).toNat)
  case atStart => exact ⟨0, Nat.zero_le _, rfl, Kept.refl _ _⟩
  case round =>
    obtain ⟨j, hj, rfl, hx⟩ := hrel
    have HX := Lib.hid hx
    clear hx
    by_cases hlt : j < m
    · have hjl : j < l.length := by have := HN.out; omega
      have hltI : (j : Int) < m := by omega
      obtain rfl := HA.out (by omega)
      obtain rfl := HB.out (by omega)
      have hr1 := (HE.out (by omega)).2.ext (HW0.out.trans HX.out)
      have hr2 := (HE2.out (by omega)).2.ext (HW0.out.trans HX.out)
      obtain ⟨hh, hg⟩ := vr_at hr1 j hjl
      obtain ⟨hh2, hg2⟩ := vr_at hr2 j hjl
      obtain ⟨x, hxe⟩ : ∃ x, x = l[j] := ⟨_, rfl⟩
      rw [← hxe] at hg hg2
      have HH := Lib.hid hh
      have HG := Lib.hid hg
      have HH2 := Lib.hid hh2
      have HG2 := Lib.hid hg2
      clear hh hg hh2 hg2 hxe
      have HBW := Lib.hid (And.intro hr1.lt hr2.lt)
      clear hr1 hr2
      go_upto_region 6 with (fail)
      refine wp_region_3 (fun w1 => Ext wr w1) [(0, 2), (1, 2), (2, 2), (3, 1), (4, 2), (5, 2), (6, 2), (7, 1), (8, 2)] (by kernel_rfl) (by kernel_rfl) (by kernel_rfl) (by kernel_rfl) ?_; intro l' hl'; simp only [List.map_cons, List.map_nil, List.getD_cons_zero, List.getD_cons_succ] at hl'; subst hl'
      have HZ0 := Lib.hid (show Ext wr wr.drew from (Kept.refl _ wr).drew)
      (repeat (first | ((apply w3_pure); (· go_simp); (· (intro w1; go_simp; try with_reducible rfl)); (intro K hK; go_simp; refine hK _ _ ?_; clear hK K)) | ((apply w3_skip); (· go_simp); (intro K hK; go_simp; refine hK _ _ ?_; clear hK K)) | ((apply w3_take); (· exact HZ0.out); (· go_simp); (· (intro w1 hS; have d0 := has_ext hS HBW.out.1 HH.out; have d1 := gets_ext hS HBW.out.1 HG.out; have d2 := has_ext hS HBW.out.2 HH2.out; have d3 := gets_ext hS HBW.out.2 HG2.out; have d4 := Nat.lt_of_lt_of_le HBW.out.1 hS.size; have d5 := Nat.lt_of_lt_of_le HBW.out.2 hS.size;  go_simp; try with_reducible rfl)); (intro K hK; go_simp; refine hK _ _ ?_; clear hK K)) | ((apply w3_pass); (· exact HZ0.out); (· go_simp); (intro K hK; go_simp; refine hK _ _ ?_; clear hK K))))
      (repeat (first | ((apply w3_pure); (· go_simp); (· (intro w1; go_simp; try with_reducible rfl)); (intro K hK; go_simp; refine hK _ _ ?_; clear hK K)) | ((apply w3_skip); (· go_simp); (intro K hK; go_simp; refine hK _ _ ?_; clear hK K)) | (refine w3_end (by kernel_rfl) (fun K hK => ?_); go_simp; refine hK.out _ _ ?_; clear hK K))); refine w3_nil ?_
      go_wp2_with fail
      go_roundw
      case rel => exact ⟨j + 1, hlt, by go_num, HX.out.trans HZ0.out⟩
      case measure => simp only [intOf]; omega
    · obtain rfl : j = m := by omega
      go_wp2_with fail
      go_ret
      exact ⟨rfl, HX.out⟩
set_option maxRecDepth 100000 in
set_option maxHeartbeats 2000000 in
theorem ssame_any (w0 : World) (N : Nat) (hN : N ≤ w0.heap.size) (c1 c2 : Pc) (p : Pr) (w : World) (hw : Ext w0 w) (h1 : PAt w0 N c1 p) (h2 : PAt w0 N c2 p) : Calls Tryd.prog 27 #[.agg c1.cells, .agg c2.cells] w fun e w' => e = .returned (.bool true) ∧ Ext w w' := by
  obtain ⟨cn, cse, ⟨kA, kn, kc⟩, ⟨vA, vn, vc⟩, ⟨sA, sn, sc⟩, ⟨tA, tn, tc⟩, ⟨A, n, cc⟩, ⟨yA, yn, yc⟩, csi, ⟨qA, qn, qc⟩, ⟨zA, zn, zc⟩⟩ := c1
  obtain ⟨dn, dse, ⟨kB, km, kd⟩, ⟨vB, vm, vd⟩, ⟨sB, sm, sd⟩, ⟨tB, tm, td⟩, ⟨B, m, dd⟩, ⟨yB, ym, yd⟩, dsi, ⟨qB, qm, qd⟩, ⟨zB, zm, zd⟩⟩ := c2
  obtain rfl : cn = p.name := h1.name
  obtain rfl : cse = p.seats := h1.seats
  obtain rfl : csi = p.silent := h1.silent
  obtain rfl : dn = p.name := h2.name
  obtain rfl : dse = p.seats := h2.seats
  obtain rfl : dsi = p.silent := h2.silent
  obtain rfl : km = kn := (show km = p.stakes.length from h2.stakes.1).trans (show kn = p.stakes.length from h1.stakes.1).symm
  obtain rfl : vm = vn := (show vm = p.vars.length from h2.vars.1).trans (show vn = p.vars.length from h1.vars.1).symm
  obtain rfl : sm = sn := (show sm = p.start.len from h2.start.1).trans (show sn = p.start.len from h1.start.1).symm
  obtain rfl : tm = tn := (show tm = p.turn.len from h2.turn.1).trans (show tn = p.turn.len from h1.turn.1).symm
  obtain rfl : m = n := (show m = p.params.length from h2.params.1).trans (show n = p.params.length from h1.params.1).symm
  obtain rfl : ym = yn := (show ym = p.play.len from h2.play.1).trans (show yn = p.play.len from h1.play.1).symm
  obtain rfl : qm = qn := (show qm = p.quiet.len from h2.quiet.1).trans (show qn = p.quiet.len from h1.quiet.1).symm
  obtain rfl : zm = zn := (show zm = p.pays.len from h2.pays.1).trans (show zn = p.pays.len from h1.pays.1).symm
  have x1 := ((Kept.refl (fun _ => False) w).alloc (.cells (Pc.cells (⟨p.name, p.seats, ⟨kA, km, kc⟩, ⟨vA, vm, vc⟩, ⟨sA, sm, sc⟩, ⟨tA, tm, tc⟩, ⟨A, m, cc⟩, ⟨yA, ym, yc⟩, p.silent, ⟨qA, qm, qc⟩, ⟨zA, zm, zc⟩⟩ : Pc)) 52)).alloc (.cells (Pc.cells (⟨p.name, p.seats, ⟨kB, km, kd⟩, ⟨vB, vm, vd⟩, ⟨sB, sm, sd⟩, ⟨tB, tm, td⟩, ⟨B, m, dd⟩, ⟨yB, ym, yd⟩, p.silent, ⟨qB, qm, qd⟩, ⟨zB, zm, zd⟩⟩ : Pc)) 52)
  have hA := (Blk.new w 52 (Pc.cells (⟨p.name, p.seats, ⟨kA, km, kc⟩, ⟨vA, vm, vc⟩, ⟨sA, sm, sc⟩, ⟨tA, tm, tc⟩, ⟨A, m, cc⟩, ⟨yA, ym, yc⟩, p.silent, ⟨qA, qm, qc⟩, ⟨zA, zm, zc⟩⟩ : Pc))).alloc (.cells (Pc.cells (⟨p.name, p.seats, ⟨kB, km, kd⟩, ⟨vB, vm, vd⟩, ⟨sB, sm, sd⟩, ⟨tB, tm, td⟩, ⟨B, m, dd⟩, ⟨yB, ym, yd⟩, p.silent, ⟨qB, qm, qd⟩, ⟨zB, zm, zd⟩⟩ : Pc)) 52)
  have hB := Blk.new' (w.alloc (.cells (Pc.cells (⟨p.name, p.seats, ⟨kA, km, kc⟩, ⟨vA, vm, vc⟩, ⟨sA, sm, sc⟩, ⟨tA, tm, tc⟩, ⟨A, m, cc⟩, ⟨yA, ym, yc⟩, p.silent, ⟨qA, qm, qc⟩, ⟨zA, zm, zc⟩⟩ : Pc)) 52)) 52 (Pc.cells (⟨p.name, p.seats, ⟨kB, km, kd⟩, ⟨vB, vm, vd⟩, ⟨sB, sm, sd⟩, ⟨tB, tm, td⟩, ⟨B, m, dd⟩, ⟨yB, ym, yd⟩, p.silent, ⟨qB, qm, qd⟩, ⟨zB, zm, zd⟩⟩ : Pc)) (w.heap.size + 1) (by simp)
  have HP1 := Lib.hid h1
  have HP2 := Lib.hid h2
  have HW0 := Lib.hid hw
  have HWV := Lib.hid (HW0.out.trans x1)
  have HXY := Lib.hid (Kept.refl (fun _ => False) ((w.alloc (.cells (Pc.cells (⟨p.name, p.seats, ⟨kA, km, kc⟩, ⟨vA, vm, vc⟩, ⟨sA, sm, sc⟩, ⟨tA, tm, tc⟩, ⟨A, m, cc⟩, ⟨yA, ym, yc⟩, p.silent, ⟨qA, qm, qc⟩, ⟨zA, zm, zc⟩⟩ : Pc)) 52)).alloc (.cells (Pc.cells (⟨p.name, p.seats, ⟨kB, km, kd⟩, ⟨vB, vm, vd⟩, ⟨sB, sm, sd⟩, ⟨tB, tm, td⟩, ⟨B, m, dd⟩, ⟨yB, ym, yd⟩, p.silent, ⟨qB, qm, qd⟩, ⟨zB, zm, zd⟩⟩ : Pc)) 52)))
  have HX1 := Lib.hid x1
  have HBA := Lib.hid hA
  have HBB := Lib.hid hB
  clear h1 h2 hw x1 hA hB
  go_enter Tryd.func27, Tryd.ntmps27
  have cA := Blk.cell (Blk.ext HBA.out HXY.out)
  have lA1 := (Blk.ext HBA.out HXY.out).lt
  have cB := Blk.cell (Blk.ext HBB.out HXY.out)
  have lB1 := (Blk.ext HBB.out HXY.out).lt
  go_wp2_with fail
  clear cA lA1 cB lB1
  refine (sints_any w0 N p.stakes kA km kc kB km kd _ (HWV.out.trans HXY.out) HP1.out.stakes HP2.out.stakes).mono ?_
  rintro e w3 ⟨rfl, hx3⟩
  have HXY := Lib.hid (HXY.out.trans hx3)
  clear hx3
  have cA := Blk.cell (Blk.ext HBA.out HXY.out)
  have lA1 := (Blk.ext HBA.out HXY.out).lt
  have cB := Blk.cell (Blk.ext HBB.out HXY.out)
  have lB1 := (Blk.ext HBB.out HXY.out).lt
  go_wp2_with fail
  clear cA lA1 cB lB1
  refine (svars_any w0 N p.vars vA vm vc vB vm vd _ (HWV.out.trans HXY.out) HP1.out.vars HP2.out.vars).mono ?_
  rintro e w3 ⟨rfl, hx3⟩
  have HXY := Lib.hid (HXY.out.trans hx3)
  clear hx3
  have cA := Blk.cell (Blk.ext HBA.out HXY.out)
  have lA1 := (Blk.ext HBA.out HXY.out).lt
  have cB := Blk.cell (Blk.ext HBB.out HXY.out)
  have lB1 := (Blk.ext HBB.out HXY.out).lt
  go_wp2_with fail
  clear cA lA1 cB lB1
  refine (svars_any w0 N p.params A m cc B m dd _ (HWV.out.trans HXY.out) HP1.out.params HP2.out.params).mono ?_
  rintro e w3 ⟨rfl, hx3⟩
  have HXY := Lib.hid (HXY.out.trans hx3)
  clear hx3
  have cA := Blk.cell (Blk.ext HBA.out HXY.out)
  have lA1 := (Blk.ext HBA.out HXY.out).lt
  have cB := Blk.cell (Blk.ext HBB.out HXY.out)
  have lB1 := (Blk.ext HBB.out HXY.out).lt
  go_wp2_with fail
  clear cA lA1 cB lB1
  refine (ssameb_any w0 N hN p.start sA sm sc sB sm sd _ (HWV.out.trans HXY.out) HP1.out.start HP2.out.start).mono ?_
  rintro e w3 ⟨rfl, hx3⟩
  have HXY := Lib.hid (HXY.out.trans hx3)
  clear hx3
  have cA := Blk.cell (Blk.ext HBA.out HXY.out)
  have lA1 := (Blk.ext HBA.out HXY.out).lt
  have cB := Blk.cell (Blk.ext HBB.out HXY.out)
  have lB1 := (Blk.ext HBB.out HXY.out).lt
  go_wp2_with fail
  clear cA lA1 cB lB1
  refine (ssameb_any w0 N hN p.turn tA tm tc tB tm td _ (HWV.out.trans HXY.out) HP1.out.turn HP2.out.turn).mono ?_
  rintro e w3 ⟨rfl, hx3⟩
  have HXY := Lib.hid (HXY.out.trans hx3)
  clear hx3
  have cA := Blk.cell (Blk.ext HBA.out HXY.out)
  have lA1 := (Blk.ext HBA.out HXY.out).lt
  have cB := Blk.cell (Blk.ext HBB.out HXY.out)
  have lB1 := (Blk.ext HBB.out HXY.out).lt
  go_wp2_with fail
  clear cA lA1 cB lB1
  refine (ssameb_any w0 N hN p.play yA ym yc yB ym yd _ (HWV.out.trans HXY.out) HP1.out.play HP2.out.play).mono ?_
  rintro e w3 ⟨rfl, hx3⟩
  have HXY := Lib.hid (HXY.out.trans hx3)
  clear hx3
  have cA := Blk.cell (Blk.ext HBA.out HXY.out)
  have lA1 := (Blk.ext HBA.out HXY.out).lt
  have cB := Blk.cell (Blk.ext HBB.out HXY.out)
  have lB1 := (Blk.ext HBB.out HXY.out).lt
  go_wp2_with fail
  clear cA lA1 cB lB1
  refine (ssameb_any w0 N hN p.quiet qA qm qc qB qm qd _ (HWV.out.trans HXY.out) HP1.out.quiet HP2.out.quiet).mono ?_
  rintro e w3 ⟨rfl, hx3⟩
  have HXY := Lib.hid (HXY.out.trans hx3)
  clear hx3
  have cA := Blk.cell (Blk.ext HBA.out HXY.out)
  have lA1 := (Blk.ext HBA.out HXY.out).lt
  have cB := Blk.cell (Blk.ext HBB.out HXY.out)
  have lB1 := (Blk.ext HBB.out HXY.out).lt
  go_wp2_with fail
  clear cA lA1 cB lB1
  refine (ssameb_any w0 N hN p.pays zA zm zc zB zm zd _ (HWV.out.trans HXY.out) HP1.out.pays HP2.out.pays).mono ?_
  rintro e w3 ⟨rfl, hx3⟩
  have HXY := Lib.hid (HXY.out.trans hx3)
  clear hx3
  go_wp2_with fail
  go_ret
  exact ⟨rfl, HX1.out.trans HXY.out⟩
end Go.Proofs.YtfamkemdgbnegaaDoor

/- SortsOwn: the walk. -/
namespace Go.Proofs.YtfamkemdgbnegaaDoor
open Go.RowKit So
set_option maxRecDepth 100000 in
set_option maxHeartbeats 3000000 in
theorem lown_any (c : Pc) (p : Pr) (N : Nat) (w : World) (hN : N ≤ w.heap.size) (h : PAt w N c p) (hL : LaidAt w) : Calls Tryd.prog 9 #[.agg c.cells] w fun e w' => e = .returned (.bool true) ∧ Ext w w' := by
  have hx0 := (Kept.refl (fun _ => False) w).alloc (.cells c.cells 26)
  have hB := Blk.new w 26 c.cells
  go_enter Tryd.func9, Tryd.ntmps9
  go_upto_region 1 with (fail)
  generalize hW : w.alloc (.cells c.cells 26) = W at hx0 hB ⊢
  have HX0 := Lib.hid hx0
  have HB := Lib.hid hB
  have HPA := Lib.hid (h.ext hx0 hN)
  have HNW := Lib.hid (Nat.le_trans hN hx0.size)
  have HLW := Lib.hid (hL.ext hx0)
  clear hW hx0 hB h hN hL
  generalize w.heap.size = pb at HB ⊢
  have hhP := Blk.has HB.out
  have hgP := Blk.gets HB.out
  have hlP := HB.out.lt
  go_wp2_with fail
  refine (few_any c p N W HNW.out HPA.out).mono ?_
  rintro e w1 ⟨rfl, hx1⟩
  have HX1 := Lib.hid hx1
  clear hx1 hhP hgP hlP
  obtain ⟨r, hr⟩ : ∃ r, r = fewB p := ⟨_, rfl⟩
  rw [← hr]
  clear hr
  cases r
  · go_wp2_with fail
    refine (told_any w1 (HLW.out.ext HX1.out)).mono ?_
    rintro e w2 ⟨rfl, hx2⟩
    go_wp2_with fail
    go_ret
    exact ⟨rfl, HX0.out.trans (HX1.out.trans hx2)⟩
  · have hBq := Blk.ext HB.out HX1.out
    have hhP := Blk.has hBq
    have hgP := Blk.gets hBq
    have hlP := hBq.lt
    go_wp2_with fail
    refine (of_any c p N _ (Nat.le_trans HNW.out HX1.out.size) (HPA.out.ext HX1.out HNW.out)).mono ?_
    rintro e w2 ⟨hx2, c1, rfl, hp1⟩
    clear hBq hhP hgP hlP
    have y2 := (Kept.refl (fun _ => False) w2).alloc (.cells c1.cells 52)
    have hXB := Blk.new w2 52 c1.cells
    go_upto_region 4 with (fail)
    generalize (w2.alloc (.cells c1.cells 52)) = W2 at y2 hXB ⊢
    have HP1 := Lib.hid ((hp1.ext y2 (Nat.le_refl _)).mono y2.size)
    have HXF := Lib.hid (HX1.out.trans (hx2.trans y2))
    have HXB := Lib.hid hXB
    clear hp1 hx2 y2 hXB
    generalize w2.heap.size = xb at HXB ⊢
    have hhX := Blk.has HXB.out
    have hgX := Blk.gets HXB.out
    have hlX := HXB.out.lt
    go_wp2_with fail
    have HL4 := Lib.hid (show 4 < W2.heap.size from (HLW.out.ext HXF.out).lt)
    refine (scheck_any c1 p _ W2 HL4.out (Nat.le_refl _) HP1.out (HLW.out.ext HXF.out)).mono ?_
    rintro e w3 ⟨rfl, hx3⟩
    clear hhX hgX hlX
    obtain ⟨f, hf⟩ : ∃ f, f = check p := ⟨_, rfl⟩
    have HNZ := Lib.hid (show NZ f by rw [hf]; exact nz_check p)
    obtain ⟨fe, fn, hfx, hfe⟩ : ∃ fe fn, fltC f = #[.int .i64 fe, .string fn] ∧ (((fe == 0) = false) ∨ (fe = 0 ∧ fn = ⟨#[]⟩)) := by
      cases f with
      | none => exact ⟨_, _, rfl, .inr ⟨rfl, rfl⟩⟩
      | some g =>
        obtain ⟨ge, gn⟩ := g
        exact ⟨ge, gn, rfl, .inl (NZ.out HNZ.out rfl)⟩
    have HCF := Lib.hid (show fltC (check p) = #[.int .i64 fe, .string fn] by rw [← hf, hfx])
    rw [HCF.out]
    have HFE := Lib.hid hfe
    clear hf hfx hfe HNZ
    have y3 := (Kept.refl (fun _ => False) w3).alloc (.cells #[.int .i64 fe, .string fn] 61)
    have hFB := Blk.new w3 61 #[.int .i64 fe, .string fn]
    go_upto_region 5 with (fail)
    generalize (w3.alloc (.cells #[.int .i64 fe, .string fn] 61)) = W3 at y3 hFB ⊢
    have HMV := Lib.hid (hx3.trans y3)
    have HFB := Lib.hid hFB
    clear hx3 y3 hFB
    generalize w3.heap.size = fb at HFB ⊢
    have hXq := Blk.ext HXB.out HMV.out
    have hhX := Blk.has hXq
    have hgX := Blk.gets hXq
    have hlX := hXq.lt
    go_wp2_with fail
    refine (scells_any c1 p _ _ HMV.out.size (HP1.out.ext HMV.out (Nat.le_refl _))).mono ?_
    rintro e w4 ⟨rfl, hx4⟩
    have HMV := Lib.hid (HMV.out.trans hx4)
    have HFB := Lib.hid (Blk.ext HFB.out hx4)
    clear hx4 hXq hhX hgX hlX
    have hXq := Blk.ext HXB.out HMV.out
    have hhX := Blk.has hXq
    have hgX := Blk.gets hXq
    have hlX := hXq.lt
    go_wp2_with fail
    refine (smenu_any c1 p _ _ HMV.out.size (HP1.out.ext HMV.out (Nat.le_refl _))).mono ?_
    rintro e X ⟨rfl, hx5⟩
    have HMV := Lib.hid (HMV.out.trans hx5)
    have HFB := Lib.hid (Blk.ext HFB.out hx5)
    clear hx5 hXq hhX hgX hlX
    have HXB := Lib.hid (Blk.ext HXB.out HMV.out)
    have HP1 := Lib.hid ((HP1.out.ext HMV.out (Nat.le_refl _)).mono HMV.out.size)
    have HXF := Lib.hid (HXF.out.trans HMV.out)
    have HL4 := Lib.hid (show 4 < X.heap.size from (HLW.out.ext HXF.out).lt)
    clear HMV
    rcases HFE.out with hz | ⟨rfl, rfl⟩
    · have hzn : (fe != 0) = true := by unfold bne; rw [hz]; rfl
      clear HFE
      go_upto_region 7 with (fail)
      refine wp_region_3 (fun w1 => Ext X w1) [(0, 0), (1, 2), (2, 1), (4, 1), (3, 0), (5, 0), (6, 2), (7, 2), (8, 1), (10, 1), (9, 0), (11, 2), (12, 2), (13, 2), (14, 2), (15, 1), (16, 2), (17, 2), (18, 1), (19, 2), (20, 2), (21, 2), (22, 2), (23, 2), (24, 1), (25, 1), (26, 0), (27, 0), (28, 2), (29, 2)] (by kernel_rfl) (by kernel_rfl) (by kernel_rfl) (by kernel_rfl) ?_; intro l' hl'; simp only [List.map_cons, List.map_nil, List.getD_cons_zero, List.getD_cons_succ] at hl'; subst hl'
      have HY := Lib.hid (show Ext X X.drew from (Kept.refl _ X).drew)
      (repeat (first | ((apply w3_pure); (· go_simp); (· (intro w1; go_simp; try with_reducible rfl)); (intro K hK; go_simp; refine hK _ _ ?_; clear hK K)) | ((apply w3_skip); (· go_simp); (intro K hK; go_simp; refine hK _ _ ?_; clear hK K)) | ((apply w3_take); (· exact HY.out); (· go_simp); (· (intro w1 hS; have d0 := Blk.ext HB.out (HXF.out.trans hS); have d1 := Blk.gets d0; have d2 := Blk.has d0; have d3 := d0.lt; have d4 := Blk.ext HXB.out hS; have d5 := Blk.gets d4; have d6 := Blk.has d4; have d7 := d4.lt; have e4 := Blk.ext HFB.out hS; have e5 := Blk.gets e4; have e6 := Blk.has e4; have e7 := e4.lt; have e8 := Blk.cell e4;  go_simp; try with_reducible rfl)); (intro K hK; go_simp; refine hK _ _ ?_; clear hK K)) | ((apply w3_pass); (· exact HY.out); (· go_simp); (intro K hK; go_simp; refine hK _ _ ?_; clear hK K))))
      (refine w3_act (fun K hK => ?_); go_simp)
      refine (told_any _ (HLW.out.ext (HXF.out.trans HY.out))).mono ?_
      rintro e w1 ⟨rfl, hx1⟩
      have HY := Lib.hid (HY.out.trans hx1)
      clear hx1
      refine hK.out _ _ (fun _ => HY.out) ?_
      clear hK K
      (repeat (first | ((apply w3_pure); (· go_simp); (· (intro w1; go_simp; try with_reducible rfl)); (intro K hK; go_simp; refine hK _ _ ?_; clear hK K)) | ((apply w3_skip); (· go_simp); (intro K hK; go_simp; refine hK _ _ ?_; clear hK K)) | ((apply w3_take); (· exact HY.out); (· go_simp); (· (intro w1 hS; have d0 := Blk.ext HB.out (HXF.out.trans hS); have d1 := Blk.gets d0; have d2 := Blk.has d0; have d3 := d0.lt; have d4 := Blk.ext HXB.out hS; have d5 := Blk.gets d4; have d6 := Blk.has d4; have d7 := d4.lt; have e4 := Blk.ext HFB.out hS; have e5 := Blk.gets e4; have e6 := Blk.has e4; have e7 := e4.lt; have e8 := Blk.cell e4;  go_simp; try with_reducible rfl)); (intro K hK; go_simp; refine hK _ _ ?_; clear hK K)) | ((apply w3_pass); (· exact HY.out); (· go_simp); (intro K hK; go_simp; refine hK _ _ ?_; clear hK K))))
      (refine w3_act (fun K hK => ?_); go_simp)
      refine (to_any c1 p _ _ HY.out.size (HP1.out.ext HY.out (Nat.le_refl _))).mono ?_
      rintro e w2 ⟨hx2, c2, rfl, hp2⟩
      have HY := Lib.hid (HY.out.trans hx2)
      have HP2 := Lib.hid hp2
      clear hx2 hp2
      refine hK.out _ _ (fun _ => HY.out) ?_
      clear hK K
      (repeat (first | ((apply w3_pure); (· go_simp); (· (intro w1; go_simp; try with_reducible rfl)); (intro K hK; go_simp; refine hK _ _ ?_; clear hK K)) | ((apply w3_skip); (· go_simp); (intro K hK; go_simp; refine hK _ _ ?_; clear hK K)) | ((apply w3_take); (· exact HY.out); (· go_simp); (· (intro w1 hS; have d0 := Blk.ext HB.out (HXF.out.trans hS); have d1 := Blk.gets d0; have d2 := Blk.has d0; have d3 := d0.lt; have d4 := Blk.ext HXB.out hS; have d5 := Blk.gets d4; have d6 := Blk.has d4; have d7 := d4.lt; have e4 := Blk.ext HFB.out hS; have e5 := Blk.gets e4; have e6 := Blk.has e4; have e7 := e4.lt; have e8 := Blk.cell e4;  go_simp; try with_reducible rfl)); (intro K hK; go_simp; refine hK _ _ ?_; clear hK K)) | ((apply w3_pass); (· exact HY.out); (· go_simp); (intro K hK; go_simp; refine hK _ _ ?_; clear hK K))))
      (refine w3_act (fun K hK => ?_); go_simp)
      refine (rsame_any w2 _ (Nat.le_refl _) c2 c p w2 (Kept.refl _ _) HP2.out ((HPA.out.ext (HXF.out.trans HY.out) HNW.out).mono (Nat.le_trans HNW.out (HXF.out.trans HY.out).size))).mono ?_
      rintro e w3 ⟨rfl, hx3⟩
      have HY := Lib.hid (HY.out.trans hx3)
      clear hx3
      refine hK.out _ _ (fun _ => HY.out) ?_
      clear hK K
      (repeat (first | ((apply w3_pure); (· go_simp); (· (intro w1; go_simp; try with_reducible rfl)); (intro K hK; go_simp; refine hK _ _ ?_; clear hK K)) | ((apply w3_skip); (· go_simp); (intro K hK; go_simp; refine hK _ _ ?_; clear hK K)) | ((apply w3_take); (· exact HY.out); (· go_simp); (· (intro w1 hS; have d0 := Blk.ext HB.out (HXF.out.trans hS); have d1 := Blk.gets d0; have d2 := Blk.has d0; have d3 := d0.lt; have d4 := Blk.ext HXB.out hS; have d5 := Blk.gets d4; have d6 := Blk.has d4; have d7 := d4.lt; have e4 := Blk.ext HFB.out hS; have e5 := Blk.gets e4; have e6 := Blk.has e4; have e7 := e4.lt; have e8 := Blk.cell e4;  go_simp; try with_reducible rfl)); (intro K hK; go_simp; refine hK _ _ ?_; clear hK K)) | ((apply w3_pass); (· exact HY.out); (· go_simp); (intro K hK; go_simp; refine hK _ _ ?_; clear hK K))))
      (refine w3_act (fun K hK => ?_); go_simp)
      refine (scheck_any c1 p _ _ HL4.out HY.out.size (HP1.out.ext HY.out (Nat.le_refl _)) (HLW.out.ext (HXF.out.trans HY.out))).mono ?_
      rintro e w4 ⟨rfl, hx4⟩
      rw [HCF.out]
      have HY := Lib.hid (HY.out.trans hx4)
      clear hx4
      refine hK.out _ _ (fun _ => HY.out) ?_
      clear hK K
      (repeat (first | ((apply w3_pure); (· go_simp); (· (intro w1; go_simp; try with_reducible rfl)); (intro K hK; go_simp; refine hK _ _ ?_; clear hK K)) | ((apply w3_skip); (· go_simp); (intro K hK; go_simp; refine hK _ _ ?_; clear hK K)) | ((apply w3_take); (· exact HY.out); (· go_simp); (· (intro w1 hS; have d0 := Blk.ext HB.out (HXF.out.trans hS); have d1 := Blk.gets d0; have d2 := Blk.has d0; have d3 := d0.lt; have d4 := Blk.ext HXB.out hS; have d5 := Blk.gets d4; have d6 := Blk.has d4; have d7 := d4.lt; have e4 := Blk.ext HFB.out hS; have e5 := Blk.gets e4; have e6 := Blk.has e4; have e7 := e4.lt; have e8 := Blk.cell e4;  go_simp; try with_reducible rfl)); (intro K hK; go_simp; refine hK _ _ ?_; clear hK K)) | ((apply w3_pass); (· exact HY.out); (· go_simp); (intro K hK; go_simp; refine hK _ _ ?_; clear hK K))))
      (refine w3_act (fun K hK => ?_); go_simp)
      refine (of_any c p N _ (Nat.le_trans HNW.out (HXF.out.trans HY.out).size) (HPA.out.ext (HXF.out.trans HY.out) HNW.out)).mono ?_
      rintro e w5 ⟨hx5, c3, rfl, hp3⟩
      have HY := Lib.hid (HY.out.trans hx5)
      have HP3 := Lib.hid hp3
      clear hx5 hp3
      refine hK.out _ _ (fun _ => HY.out) ?_
      clear hK K
      (repeat (first | ((apply w3_pure); (· go_simp); (· (intro w1; go_simp; try with_reducible rfl)); (intro K hK; go_simp; refine hK _ _ ?_; clear hK K)) | ((apply w3_skip); (· go_simp); (intro K hK; go_simp; refine hK _ _ ?_; clear hK K)) | ((apply w3_take); (· exact HY.out); (· go_simp); (· (intro w1 hS; have d0 := Blk.ext HB.out (HXF.out.trans hS); have d1 := Blk.gets d0; have d2 := Blk.has d0; have d3 := d0.lt; have d4 := Blk.ext HXB.out hS; have d5 := Blk.gets d4; have d6 := Blk.has d4; have d7 := d4.lt; have e4 := Blk.ext HFB.out hS; have e5 := Blk.gets e4; have e6 := Blk.has e4; have e7 := e4.lt; have e8 := Blk.cell e4;  go_simp; try with_reducible rfl)); (intro K hK; go_simp; refine hK _ _ ?_; clear hK K)) | ((apply w3_pass); (· exact HY.out); (· go_simp); (intro K hK; go_simp; refine hK _ _ ?_; clear hK K))))
      (refine w3_act (fun K hK => ?_); go_simp)
      refine (ssame_any w5 _ (Nat.le_refl _) c1 c3 p w5 (Kept.refl _ _) ((HP1.out.ext HY.out (Nat.le_refl _)).mono HY.out.size) HP3.out).mono ?_
      rintro e w6 ⟨rfl, hx6⟩
      have HY := Lib.hid (HY.out.trans hx6)
      clear hx6
      refine hK.out _ _ (fun _ => HY.out) ?_
      clear hK K
      (repeat (first | ((apply w3_pure); (· go_simp); (· (intro w1; go_simp; try with_reducible rfl)); (intro K hK; go_simp; refine hK _ _ ?_; clear hK K)) | ((apply w3_skip); (· go_simp); (intro K hK; go_simp; refine hK _ _ ?_; clear hK K)) | (refine w3_end (by kernel_rfl) (fun K hK => ?_); go_simp; refine hK.out _ _ ?_; clear hK K))); refine w3_nil ?_
      go_wp2_with fail
      go_ret
      exact ⟨rfl, HX0.out.trans (HXF.out.trans HY.out)⟩
    · clear HFE
      go_upto_region 7 with (fail)
      refine wp_region_3 (fun w1 => Ext X w1) [(0, 0), (1, 2), (2, 1), (4, 1), (3, 0), (5, 0), (6, 2), (7, 2), (8, 1), (10, 1), (9, 0), (11, 2), (12, 2), (13, 2), (14, 2), (15, 1), (16, 2), (17, 2), (18, 1), (19, 2), (20, 2), (21, 2), (22, 2), (23, 2), (24, 1), (25, 1), (26, 0), (27, 0), (28, 2), (29, 2)] (by kernel_rfl) (by kernel_rfl) (by kernel_rfl) (by kernel_rfl) ?_; intro l' hl'; simp only [List.map_cons, List.map_nil, List.getD_cons_zero, List.getD_cons_succ] at hl'; subst hl'
      have HY := Lib.hid (show Ext X X.drew from (Kept.refl _ X).drew)
      (repeat (first | ((apply w3_pure); (· go_simp); (· (intro w1; go_simp; try with_reducible rfl)); (intro K hK; go_simp; refine hK _ _ ?_; clear hK K)) | ((apply w3_skip); (· go_simp); (intro K hK; go_simp; refine hK _ _ ?_; clear hK K)) | ((apply w3_take); (· exact HY.out); (· go_simp); (· (intro w1 hS; have d0 := Blk.ext HB.out (HXF.out.trans hS); have d1 := Blk.gets d0; have d2 := Blk.has d0; have d3 := d0.lt; have d4 := Blk.ext HXB.out hS; have d5 := Blk.gets d4; have d6 := Blk.has d4; have d7 := d4.lt; have e4 := Blk.ext HFB.out hS; have e5 := Blk.gets e4; have e6 := Blk.has e4; have e7 := e4.lt; have e8 := Blk.cell e4;  go_simp; try with_reducible rfl)); (intro K hK; go_simp; refine hK _ _ ?_; clear hK K)) | ((apply w3_pass); (· exact HY.out); (· go_simp); (intro K hK; go_simp; refine hK _ _ ?_; clear hK K))))
      (refine w3_act (fun K hK => ?_); go_simp)
      refine (told_any _ (HLW.out.ext (HXF.out.trans HY.out))).mono ?_
      rintro e w1 ⟨rfl, hx1⟩
      have HY := Lib.hid (HY.out.trans hx1)
      clear hx1
      refine hK.out _ _ (fun _ => HY.out) ?_
      clear hK K
      (repeat (first | ((apply w3_pure); (· go_simp); (· (intro w1; go_simp; try with_reducible rfl)); (intro K hK; go_simp; refine hK _ _ ?_; clear hK K)) | ((apply w3_skip); (· go_simp); (intro K hK; go_simp; refine hK _ _ ?_; clear hK K)) | ((apply w3_take); (· exact HY.out); (· go_simp); (· (intro w1 hS; have d0 := Blk.ext HB.out (HXF.out.trans hS); have d1 := Blk.gets d0; have d2 := Blk.has d0; have d3 := d0.lt; have d4 := Blk.ext HXB.out hS; have d5 := Blk.gets d4; have d6 := Blk.has d4; have d7 := d4.lt; have e4 := Blk.ext HFB.out hS; have e5 := Blk.gets e4; have e6 := Blk.has e4; have e7 := e4.lt; have e8 := Blk.cell e4;  go_simp; try with_reducible rfl)); (intro K hK; go_simp; refine hK _ _ ?_; clear hK K)) | ((apply w3_pass); (· exact HY.out); (· go_simp); (intro K hK; go_simp; refine hK _ _ ?_; clear hK K))))
      (refine w3_act (fun K hK => ?_); go_simp)
      refine (to_any c1 p _ _ HY.out.size (HP1.out.ext HY.out (Nat.le_refl _))).mono ?_
      rintro e w2 ⟨hx2, c2, rfl, hp2⟩
      have HY := Lib.hid (HY.out.trans hx2)
      have HP2 := Lib.hid hp2
      clear hx2 hp2
      refine hK.out _ _ (fun _ => HY.out) ?_
      clear hK K
      (repeat (first | ((apply w3_pure); (· go_simp); (· (intro w1; go_simp; try with_reducible rfl)); (intro K hK; go_simp; refine hK _ _ ?_; clear hK K)) | ((apply w3_skip); (· go_simp); (intro K hK; go_simp; refine hK _ _ ?_; clear hK K)) | ((apply w3_take); (· exact HY.out); (· go_simp); (· (intro w1 hS; have d0 := Blk.ext HB.out (HXF.out.trans hS); have d1 := Blk.gets d0; have d2 := Blk.has d0; have d3 := d0.lt; have d4 := Blk.ext HXB.out hS; have d5 := Blk.gets d4; have d6 := Blk.has d4; have d7 := d4.lt; have e4 := Blk.ext HFB.out hS; have e5 := Blk.gets e4; have e6 := Blk.has e4; have e7 := e4.lt; have e8 := Blk.cell e4;  go_simp; try with_reducible rfl)); (intro K hK; go_simp; refine hK _ _ ?_; clear hK K)) | ((apply w3_pass); (· exact HY.out); (· go_simp); (intro K hK; go_simp; refine hK _ _ ?_; clear hK K))))
      (refine w3_act (fun K hK => ?_); go_simp)
      refine (rsame_any w2 _ (Nat.le_refl _) c2 c p w2 (Kept.refl _ _) HP2.out ((HPA.out.ext (HXF.out.trans HY.out) HNW.out).mono (Nat.le_trans HNW.out (HXF.out.trans HY.out).size))).mono ?_
      rintro e w3 ⟨rfl, hx3⟩
      have HY := Lib.hid (HY.out.trans hx3)
      clear hx3
      refine hK.out _ _ (fun _ => HY.out) ?_
      clear hK K
      (repeat (first | ((apply w3_pure); (· go_simp); (· (intro w1; go_simp; try with_reducible rfl)); (intro K hK; go_simp; refine hK _ _ ?_; clear hK K)) | ((apply w3_skip); (· go_simp); (intro K hK; go_simp; refine hK _ _ ?_; clear hK K)) | ((apply w3_take); (· exact HY.out); (· go_simp); (· (intro w1 hS; have d0 := Blk.ext HB.out (HXF.out.trans hS); have d1 := Blk.gets d0; have d2 := Blk.has d0; have d3 := d0.lt; have d4 := Blk.ext HXB.out hS; have d5 := Blk.gets d4; have d6 := Blk.has d4; have d7 := d4.lt; have e4 := Blk.ext HFB.out hS; have e5 := Blk.gets e4; have e6 := Blk.has e4; have e7 := e4.lt; have e8 := Blk.cell e4;  go_simp; try with_reducible rfl)); (intro K hK; go_simp; refine hK _ _ ?_; clear hK K)) | ((apply w3_pass); (· exact HY.out); (· go_simp); (intro K hK; go_simp; refine hK _ _ ?_; clear hK K))))
      (refine w3_act (fun K hK => ?_); go_simp)
      refine (scheck_any c1 p _ _ HL4.out HY.out.size (HP1.out.ext HY.out (Nat.le_refl _)) (HLW.out.ext (HXF.out.trans HY.out))).mono ?_
      rintro e w4 ⟨rfl, hx4⟩
      rw [HCF.out]
      have HY := Lib.hid (HY.out.trans hx4)
      clear hx4
      refine hK.out _ _ (fun _ => HY.out) ?_
      clear hK K
      (repeat (first | ((apply w3_pure); (· go_simp); (· (intro w1; go_simp; try with_reducible rfl)); (intro K hK; go_simp; refine hK _ _ ?_; clear hK K)) | ((apply w3_skip); (· go_simp); (intro K hK; go_simp; refine hK _ _ ?_; clear hK K)) | ((apply w3_take); (· exact HY.out); (· go_simp); (· (intro w1 hS; have d0 := Blk.ext HB.out (HXF.out.trans hS); have d1 := Blk.gets d0; have d2 := Blk.has d0; have d3 := d0.lt; have d4 := Blk.ext HXB.out hS; have d5 := Blk.gets d4; have d6 := Blk.has d4; have d7 := d4.lt; have e4 := Blk.ext HFB.out hS; have e5 := Blk.gets e4; have e6 := Blk.has e4; have e7 := e4.lt; have e8 := Blk.cell e4;  go_simp; try with_reducible rfl)); (intro K hK; go_simp; refine hK _ _ ?_; clear hK K)) | ((apply w3_pass); (· exact HY.out); (· go_simp); (intro K hK; go_simp; refine hK _ _ ?_; clear hK K))))
      (refine w3_act (fun K hK => ?_); go_simp)
      refine (of_any c p N _ (Nat.le_trans HNW.out (HXF.out.trans HY.out).size) (HPA.out.ext (HXF.out.trans HY.out) HNW.out)).mono ?_
      rintro e w5 ⟨hx5, c3, rfl, hp3⟩
      have HY := Lib.hid (HY.out.trans hx5)
      have HP3 := Lib.hid hp3
      clear hx5 hp3
      refine hK.out _ _ (fun _ => HY.out) ?_
      clear hK K
      (repeat (first | ((apply w3_pure); (· go_simp); (· (intro w1; go_simp; try with_reducible rfl)); (intro K hK; go_simp; refine hK _ _ ?_; clear hK K)) | ((apply w3_skip); (· go_simp); (intro K hK; go_simp; refine hK _ _ ?_; clear hK K)) | ((apply w3_take); (· exact HY.out); (· go_simp); (· (intro w1 hS; have d0 := Blk.ext HB.out (HXF.out.trans hS); have d1 := Blk.gets d0; have d2 := Blk.has d0; have d3 := d0.lt; have d4 := Blk.ext HXB.out hS; have d5 := Blk.gets d4; have d6 := Blk.has d4; have d7 := d4.lt; have e4 := Blk.ext HFB.out hS; have e5 := Blk.gets e4; have e6 := Blk.has e4; have e7 := e4.lt; have e8 := Blk.cell e4;  go_simp; try with_reducible rfl)); (intro K hK; go_simp; refine hK _ _ ?_; clear hK K)) | ((apply w3_pass); (· exact HY.out); (· go_simp); (intro K hK; go_simp; refine hK _ _ ?_; clear hK K))))
      (refine w3_act (fun K hK => ?_); go_simp)
      refine (ssame_any w5 _ (Nat.le_refl _) c1 c3 p w5 (Kept.refl _ _) ((HP1.out.ext HY.out (Nat.le_refl _)).mono HY.out.size) HP3.out).mono ?_
      rintro e w6 ⟨rfl, hx6⟩
      have HY := Lib.hid (HY.out.trans hx6)
      clear hx6
      refine hK.out _ _ (fun _ => HY.out) ?_
      clear hK K
      (repeat (first | ((apply w3_pure); (· go_simp); (· (intro w1; go_simp; try with_reducible rfl)); (intro K hK; go_simp; refine hK _ _ ?_; clear hK K)) | ((apply w3_skip); (· go_simp); (intro K hK; go_simp; refine hK _ _ ?_; clear hK K)) | (refine w3_end (by kernel_rfl) (fun K hK => ?_); go_simp; refine hK.out _ _ ?_; clear hK K))); refine w3_nil ?_
      go_wp2_with fail
      go_ret
      exact ⟨rfl, HX0.out.trans (HXF.out.trans HY.out)⟩
end Go.Proofs.YtfamkemdgbnegaaDoor

/- SortsOwn, of all that may come in. -/
namespace Go.Proofs.YtfamkemdgbnegaaDoor
open Go.RowKit Go.Deep Go.ChangeShapes Go.WideShapes So
namespace sortsOwn
set_option maxRecDepth 100000 in
theorem walk {H : Type} {enc : TypeId × Value → H} (W : World) (base : Nat) (v0 : Value) (d0 : DataW H) (p0 : List MemPlace)
    (o0 : Value.okWide Tryd.prog W .any base 26 v0)
    (h0 : DataW.Trod enc Tryd.prog W 0 (fun _ => true) true 26 v0 d0 p0) (hL : laidMetH Tryd.prog Rows.sortsOwnRow.laid W)
    (z0 : light Tryd.prog 26 d0) (hS : W.ShapedOpen Tryd.prog) :
    Calls Tryd.prog 9 #[v0] W fun e w' => e = .returned (.bool true) ∧ Ext W w' := by
  obtain ⟨c, q, rfl, hp, -, -⟩ := prog_in2 o0 h0 z0
  exact lown_any c q W.heap.size W (Nat.le_refl _) hp (laid_at hL (five_blocks hS))
end sortsOwn
end Go.Proofs.YtfamkemdgbnegaaDoor
