/- Several texts joined: Qi, Qj, Qk, Qm, Qn, Qo. -/
import Derived.Lib.AppendZeros
import Derived.Test.YtfamkemdgbnegaaDoorSdc
/- Sorts: statements of the document's as the program's, and back. -/
namespace Go.Proofs.YtfamkemdgbnegaaDoor
open Go.RowKit So
abbrev ofstmtsC (w : World) (F : SF) : Prop := ∀ (A : Option Addr) (n c N : Nat) (w' : World), Ext w w' → N ≤ w.heap.size → SSl w N A n F → Calls Tryd.prog 33 #[.slice A n c] w' fun e w2 => Ext w' w2 ∧ ∃ A' c', e = .returned (.slice A' n c') ∧ SsIn w2 (fun i => w'.heap.size ≤ i ∧ i < w2.heap.size) A' n F
set_option maxRecDepth 100000 in
set_option maxHeartbeats 4000000 in
theorem ofstmts_any (w0 : World) (F : SF) : ofstmtsC w0 F := by
  refine sf_ind (C := ofstmtsC w0) ?_ F
  intro F IH A n c N w hx0 hN h
  obtain ⟨hn, hf, b, off, hA, hE⟩ := h
  have hm := hf.max (by omega)
  have hm2 := hf
  unfold Fits at hm2
  have HM := Lib.hid hm2
  have HF := Lib.hid hf
  have HN := Lib.hid hn
  have HA := Lib.hid hA
  have HE := Lib.hid hE
  have HI := Lib.hid IH
  clear hn hA hE IH hf hm2
  go_enter Tryd.func33, Tryd.ntmps33
  go_wp2_with fail
  go_loopw [3, 8] (fun t3 t8 wr => ∃ (j : Nat) (P R : SF) (l : List Sc), j + R.len = n ∧ P.app R = F ∧ l.length = j ∧ t8 = .int .i64 j ∧ wr.ownsRow w.heap.size 83 7 t3 j (rowsL Sc.cells l) ∧ ScsIn wr (fun i => w.heap.size ≤ i ∧ i < wr.heap.size ∧ ¬ t3.ownBlock = some i) l P ∧ SFAt w0 N R b (off + j * 7) ∧ SF.All (ofstmtsC w0) R ∧ Ext w wr) (fun _ t8 _ => n - (intOf t8).toNat)
  case atStart => exact ⟨0, .nil, F, [], by rw [HN.out, Nat.zero_add], rfl, rfl, rfl, World.ownsRow_nil _ _ _ _, trivial, by simpa using HE.out, HI.out, Kept.refl _ _⟩
  case round =>
    obtain ⟨j, P, R, l, hj, hacc, hlen, rfl, ho, hec, hR, hI, hx⟩ := hrel
    have HR := Lib.hid hR
    have HI2 := Lib.hid hI
    have HX := Lib.hid hx
    have HO := Lib.hid ho
    have HEC := Lib.hid hec
    have HLEN := Lib.hid hlen
    have HACC := Lib.hid hacc
    clear hR hI hx ho hec hlen hacc
    cases R with
    | nil =>
      simp only [SF.len, Nat.add_zero] at hj
      subst hj
      have hacc := HACC.out
      rw [sf_app_nil] at hacc
      subst hacc
      go_wp2_with fail
      go_ret
      refine ⟨HX.out, ?_⟩
      exact owns_ss HO.out HEC.out HN.out HF.out HLEN.out
    | cons kind name es low high q x r =>
      obtain ⟨hb, h1, h2, h3, h4, ⟨eA, ec, lA, lc, xA, xc, be, oe, bl, ol, bx, ox, hh, hg, n1, n2, n3, a1, a2, a3, he, hl, hxx⟩, hr⟩ := HR.out
      simp only [SF.len] at hj
      have hlt : (j : Int) < n := by omega
      obtain rfl := HA.out (by omega)
      have hx0r := hx0.trans HX.out
      have hbl := hx0r.size
      have hh' := has_ext hx0r (by omega) hh
      have hg' := gets_ext hx0r (by omega) hg
      have hbw : b < wr.heap.size := by omega
      have KE := Lib.hid (show ESl w0 N eA es.len es from ⟨rfl, n1, be, oe, a1, he⟩)
      have KL := Lib.hid (show SSl w0 N lA q.len q from ⟨rfl, n2, bl, ol, a2, hl⟩)
      have KX := Lib.hid (show SSl w0 N xA x.len x from ⟨rfl, n3, bx, ox, a3, hxx⟩)
      have IL := Lib.hid HI2.out.1
      have IX := Lib.hid HI2.out.2.1
      have HX0 := Lib.hid hx0r
      have HR2 := Lib.hid hr
      have HOK := Lib.hid (show i64ok kind ∧ i64ok low ∧ i64ok high ∧ name.size ≤ maxLen from ⟨h1, h2, h3, h4⟩)
      clear hh hg n1 n2 n3 a1 a2 a3 he hl hxx h1 h2 h3 h4 HR hbl hx0r hr hb
      go_upto_region 5 with (fail)
      have y0 : Ext wr _ := (Kept.refl _ wr).alloc (.cells (scells kind name eA es.len ec low high lA q.len lc xA x.len xc) 34)
      have hB := Blk.new wr 34 (scells kind name eA es.len ec low high lA q.len lc xA x.len xc)
      have hob : ∀ i, u3.ownBlock = some i → w.heap.size ≤ i ∧ i < wr.heap.size := HO.out.lt
      have hpo : ¬ u3.ownBlock = some wr.heap.size := fun e => by have := (hob _ e).2; omega
      have hWs : (wr.alloc (.cells (scells kind name eA es.len ec low high lA q.len lc xA x.len xc) 34)).heap.size = wr.heap.size + 1 := by simp
      have HOW := Lib.hid (own_ext HO.out y0)
      generalize hW : (wr.alloc (.cells (scells kind name eA es.len ec low high lA q.len lc xA x.len xc) 34)) = W at y0 hB hWs HOW ⊢
      clear hW hh' hg'
      have HWS := Lib.hid hWs
      have HOB := Lib.hid hob
      have HPO := Lib.hid hpo
      have HX1 := Lib.hid (HX0.out.trans y0)
      have HXr := Lib.hid (HX.out.trans y0)
      have HY := Lib.hid y0
      have HWR := Lib.hid (show w.heap.size ≤ wr.heap.size from HX.out.size)
      clear hWs hob hpo y0 HX
      obtain ⟨pb, hpb⟩ : ∃ pb, pb = wr.heap.size := ⟨_, rfl⟩
      rw [← hpb] at hB ⊢
      have HPB := Lib.hid hpb
      clear hpb
      have hC := Lib.hid hB
      clear hB
      refine wp_region_3 (fun w1 => Kept (fun i => u3.ownBlock = some i) W w1) [(0, 2), (1, 2), (2, 1), (3, 2), (4, 1), (5, 2), (6, 1), (8, 2), (9, 1), (10, 2), (11, 1), (12, 2), (13, 1), (15, 2), (16, 1), (7, 0), (14, 0), (17, 0), (18, 2), (19, 0), (20, 0), (21, 2)] (by kernel_rfl) (by kernel_rfl) (by kernel_rfl) (by kernel_rfl) ?_; intro l' hl'; simp only [List.map_cons, List.map_nil, List.getD_cons_zero, List.getD_cons_succ] at hl'; subst hl'
      have HY0 := Lib.hid (show Ext W W.drew from (Kept.refl _ W).drew)
      (repeat (first | ((apply w3_pure); (· go_simp); (· (intro w1; go_simp; try with_reducible rfl)); (intro K hK; go_simp; refine hK _ _ ?_; clear hK K)) | ((apply w3_skip); (· go_simp); (intro K hK; go_simp; refine hK _ _ ?_; clear hK K)) | ((apply w3_take); (· exact (Kept.ext HY0.out)); (· go_simp); (· (intro w1 hS; have d0 := Blk.kept hC.out hS (by rw [HPB.out]; exact HPO.out); have d1 := Blk.cell d0; have d2 := d0.lt;  go_simp; try with_reducible rfl)); (intro K hK; go_simp; refine hK _ _ ?_; clear hK K)) | ((apply w3_pass); (· exact (Kept.ext HY0.out)); (· go_simp); (intro K hK; go_simp; refine hK _ _ ?_; clear hK K))))
      (refine w3_act (fun K hK => ?_); go_simp)
      refine (ofexprs_any w0 es _ _ _ N _ (HX1.out.trans HY0.out) hN KE.out).mono ?_
      rintro e w1 ⟨hx1, A1, c1, rfl, hk1⟩
      have HY1 := Lib.hid (HY0.out.trans hx1)
      have HK1 := Lib.hid hk1
      clear hx1 hk1
      refine hK.out _ _ (fun _ => Kept.ext HY1.out) ?_
      clear hK K
      (repeat (first | ((apply w3_pure); (· go_simp); (· (intro w1; go_simp; try with_reducible rfl)); (intro K hK; go_simp; refine hK _ _ ?_; clear hK K)) | ((apply w3_skip); (· go_simp); (intro K hK; go_simp; refine hK _ _ ?_; clear hK K))))
      (repeat (first | ((apply w3_pure); (· go_simp); (· (intro w1; go_simp; try with_reducible rfl)); (intro K hK; go_simp; refine hK _ _ ?_; clear hK K)) | ((apply w3_skip); (· go_simp); (intro K hK; go_simp; refine hK _ _ ?_; clear hK K)) | ((apply w3_take); (· exact (Kept.ext HY1.out)); (· go_simp); (· (intro w1 hS; have d0 := Blk.kept hC.out hS (by rw [HPB.out]; exact HPO.out); have d1 := Blk.cell d0; have d2 := d0.lt;  go_simp; try with_reducible rfl)); (intro K hK; go_simp; refine hK _ _ ?_; clear hK K)) | ((apply w3_pass); (· exact (Kept.ext HY1.out)); (· go_simp); (intro K hK; go_simp; refine hK _ _ ?_; clear hK K))))
      (refine w3_act (fun K hK => ?_); go_simp)
      refine (IL.out _ _ _ N _ (HX1.out.trans HY1.out) hN KL.out).mono ?_
      rintro e w2 ⟨hx2, A2, c2, rfl, hk2⟩
      have HZ2 := Lib.hid hx2
      have HY2 := Lib.hid (HY1.out.trans hx2)
      have HK2 := Lib.hid hk2
      clear hx2 hk2
      refine hK.out _ _ (fun _ => Kept.ext HY2.out) ?_
      clear hK K
      (repeat (first | ((apply w3_pure); (· go_simp); (· (intro w1; go_simp; try with_reducible rfl)); (intro K hK; go_simp; refine hK _ _ ?_; clear hK K)) | ((apply w3_skip); (· go_simp); (intro K hK; go_simp; refine hK _ _ ?_; clear hK K))))
      (repeat (first | ((apply w3_pure); (· go_simp); (· (intro w1; go_simp; try with_reducible rfl)); (intro K hK; go_simp; refine hK _ _ ?_; clear hK K)) | ((apply w3_skip); (· go_simp); (intro K hK; go_simp; refine hK _ _ ?_; clear hK K)) | ((apply w3_take); (· exact (Kept.ext HY2.out)); (· go_simp); (· (intro w1 hS; have d0 := Blk.kept hC.out hS (by rw [HPB.out]; exact HPO.out); have d1 := Blk.cell d0; have d2 := d0.lt;  go_simp; try with_reducible rfl)); (intro K hK; go_simp; refine hK _ _ ?_; clear hK K)) | ((apply w3_pass); (· exact (Kept.ext HY2.out)); (· go_simp); (intro K hK; go_simp; refine hK _ _ ?_; clear hK K))))
      (refine w3_act (fun K hK => ?_); go_simp)
      refine (IX.out _ _ _ N _ (HX1.out.trans HY2.out) hN KX.out).mono ?_
      rintro e w3 ⟨hx3, A3, c3, rfl, hk3⟩
      have HZ3 := Lib.hid hx3
      have HY3 := Lib.hid (HY2.out.trans hx3)
      have HK3 := Lib.hid hk3
      clear hx3 hk3
      refine hK.out _ _ (fun _ => Kept.ext HY3.out) ?_
      clear hK K
      (repeat (first | ((apply w3_pure); (· go_simp); (· (intro w1; go_simp; try with_reducible rfl)); (intro K hK; go_simp; refine hK _ _ ?_; clear hK K)) | ((apply w3_skip); (· go_simp); (intro K hK; go_simp; refine hK _ _ ?_; clear hK K))))
      (refine w3_act (fun K hK => ?_); go_simp)
      have y2 : Ext W _ := HY3.out.alloc (.cells (scells kind name A1 es.len c1 low high A2 q.len c2 A3 x.len c3) 83)
      have y12 : Ext w3 _ := (Kept.refl _ w3).alloc (.cells (scells kind name A1 es.len c1 low high A2 q.len c2 A3 x.len c3) 83)
      have hB2 := Row.of_blk (Blk.new w3 83 (scells kind name A1 es.len c1 low high A2 q.len c2 A3 x.len c3))
      generalize hW2 : (w3.alloc (.cells (scells kind name A1 es.len c1 low high A2 q.len c2 A3 x.len c3) 83)) = W2 at y2 y12 hB2 ⊢
      clear hW2
      refine hK.out _ _ (fun _ => Kept.ext y2) ?_
      clear hK K
      (repeat (first | ((apply w3_pure); (· go_simp); (· (intro w1; go_simp; try with_reducible rfl)); (intro K hK; go_simp; refine hK _ _ ?_; clear hK K)) | ((apply w3_skip); (· go_simp); (intro K hK; go_simp; refine hK _ _ ?_; clear hK K))))
      obtain ⟨v', w', hrun, ho', hk', hnew⟩ := appR (f := Sc.cells) elemStmtS (fun _ => rfl) (fun _ => rfl) W2 w.heap.size u3 j l (own_ext HOW.out y2) w3.heap.size 0 1 1 [⟨kind, name, A1, es.len, c1, low, high, A2, q.len, c2, A3, x.len, c3⟩] rfl hB2 (by have := HM.out; omega) (by have := y2.size; have := HWS.out; have := HWR.out; omega)
      refine w3_act (fun K hK => ?_)
      refine iff_want rfl ?_
      refine Lib.wp_append_run _ _ _ _ _ rfl _ _ rfl rfl _ _ hrun ?_
      refine hK.out _ _ (fun _ => Kept.trans (Kept.ext y2) hk') ?_
      clear hK K
      (repeat (first | ((apply w3_pure); (· go_simp); (· (intro w1; go_simp; try with_reducible rfl)); (intro K hK; go_simp; refine hK _ _ ?_; clear hK K)) | ((apply w3_skip); (· go_simp); (intro K hK; go_simp; refine hK _ _ ?_; clear hK K)) | (refine w3_end (by kernel_rfl) (fun K hK => ?_); go_simp; refine hK.out _ _ ?_; clear hK K))); refine w3_nil ?_
      go_wp2_with fail
      go_roundw
      case rel =>
        have e0 := HY0.out.size
        have e1 := HY1.out.size
        have e7 := HZ2.out.size
        have e8 := HZ3.out.size
        have e2 := y12.size
        have e3 := hk'.size
        have e4 := HWS.out
        have e5 := HPB.out
        have e6 := HWR.out
        have hxw : Ext w w' := (HXr.out.trans y2).trans' hk' (fun i hi e => by have := (HOB.out i e).1; omega)
        have hfar : ∀ i, W.heap.size ≤ i → i < w3.heap.size → w.heap.size ≤ i ∧ i < w'.heap.size ∧ ¬ v'.ownBlock = some i := fun i h1 h2 => by
          refine ⟨by omega, by omega, fun e => ?_⟩
          rcases hnew i e with q | q
          · have := (HOB.out i q).2; omega
          · omega
        have hoff : ∀ i, W.heap.size ≤ i → ¬ u3.ownBlock = some i := fun i h1 e => by have := (HOB.out i e).2; omega
        refine ⟨j + 1, P.app (.cons kind name es low high q x .nil), r, l ++ [⟨kind, name, A1, es.len, c1, low, high, A2, q.len, c2, A3, x.len, c3⟩], by omega, by rw [sf_app_cons]; exact HACC.out, by rw [List.length_append, HLEN.out]; rfl, by go_num, ho', ?_, by rw [Nat.add_mul, ← Nat.add_assoc]; exact HR2.out, HI2.out.2.2, hxw⟩
        refine ScsIn.snoc ⟨rfl, rfl, rfl, rfl, HOK.out.1, HOK.out.2.1, HOK.out.2.2.1, HOK.out.2.2.2, ?_, ?_, ?_⟩ ?_
        · exact ((HK1.out.kept ((HZ2.out.trans HZ3.out).trans y12) (fun i hi => ⟨hi.2, fun f => f⟩)).kept hk' (fun i hi => ⟨by omega, hoff i (by omega)⟩)).mono (fun i hi => hfar i (by omega) (by omega))
        · exact ((HK2.out.kept (HZ3.out.trans y12) (fun i hi => ⟨hi.2, fun f => f⟩)).kept hk' (fun i hi => ⟨by omega, hoff i (by omega)⟩)).mono (fun i hi => hfar i (by omega) (by omega))
        · exact ((HK3.out.kept y12 (fun i hi => ⟨hi.2, fun f => f⟩)).kept hk' (fun i hi => ⟨by have := HY2.out.size; omega, hoff i (by have := HY2.out.size; omega)⟩)).mono (fun i hi => hfar i (by have := HY2.out.size; omega) (by omega))
        · refine ((HEC.out.kept (HY.out.trans y2) (fun i hi => ⟨hi.2.1, fun f => f⟩)).kept hk' (fun i hi => ⟨by omega, hi.2.2⟩)).mono (fun i hi => ?_)
          refine ⟨hi.1, by omega, fun e => ?_⟩
          rcases hnew i e with q | q
          · exact hi.2.2 q
          · omega
      case measure => simp only [intOf]; omega
abbrev tostmtsC (w : World) (F : SF) : Prop := ∀ (A : Option Addr) (n c N : Nat) (w' : World), Ext w w' → N ≤ w.heap.size → SSl w N A n F → Calls Tryd.prog 48 #[.slice A n c] w' fun e w2 => Ext w' w2 ∧ ∃ A' c', e = .returned (.slice A' n c') ∧ SsIn w2 (fun i => w'.heap.size ≤ i ∧ i < w2.heap.size) A' n F
set_option maxRecDepth 100000 in
set_option maxHeartbeats 4000000 in
theorem tostmts_any (w0 : World) (F : SF) : tostmtsC w0 F := by
  refine sf_ind (C := tostmtsC w0) ?_ F
  intro F IH A n c N w hx0 hN h
  obtain ⟨hn, hf, b, off, hA, hE⟩ := h
  have hm := hf.max (by omega)
  have hm2 := hf
  unfold Fits at hm2
  have HM := Lib.hid hm2
  have HF := Lib.hid hf
  have HN := Lib.hid hn
  have HA := Lib.hid hA
  have HE := Lib.hid hE
  have HI := Lib.hid IH
  clear hn hA hE IH hf hm2
  go_enter Tryd.func48, Tryd.ntmps48
  go_wp2_with fail
  go_loopw [3, 8] (fun t3 t8 wr => ∃ (j : Nat) (P R : SF) (l : List Sc), j + R.len = n ∧ P.app R = F ∧ l.length = j ∧ t8 = .int .i64 j ∧ wr.ownsRow w.heap.size 34 7 t3 j (rowsL Sc.cells l) ∧ ScsIn wr (fun i => w.heap.size ≤ i ∧ i < wr.heap.size ∧ ¬ t3.ownBlock = some i) l P ∧ SFAt w0 N R b (off + j * 7) ∧ SF.All (tostmtsC w0) R ∧ Ext w wr) (fun _ t8 _ => n - (intOf t8).toNat)
  case atStart => exact ⟨0, .nil, F, [], by rw [HN.out, Nat.zero_add], rfl, rfl, rfl, World.ownsRow_nil _ _ _ _, trivial, by simpa using HE.out, HI.out, Kept.refl _ _⟩
  case round =>
    obtain ⟨j, P, R, l, hj, hacc, hlen, rfl, ho, hec, hR, hI, hx⟩ := hrel
    have HR := Lib.hid hR
    have HI2 := Lib.hid hI
    have HX := Lib.hid hx
    have HO := Lib.hid ho
    have HEC := Lib.hid hec
    have HLEN := Lib.hid hlen
    have HACC := Lib.hid hacc
    clear hR hI hx ho hec hlen hacc
    cases R with
    | nil =>
      simp only [SF.len, Nat.add_zero] at hj
      subst hj
      have hacc := HACC.out
      rw [sf_app_nil] at hacc
      subst hacc
      go_wp2_with fail
      go_ret
      refine ⟨HX.out, ?_⟩
      exact owns_ss HO.out HEC.out HN.out HF.out HLEN.out
    | cons kind name es low high q x r =>
      obtain ⟨hb, h1, h2, h3, h4, ⟨eA, ec, lA, lc, xA, xc, be, oe, bl, ol, bx, ox, hh, hg, n1, n2, n3, a1, a2, a3, he, hl, hxx⟩, hr⟩ := HR.out
      simp only [SF.len] at hj
      have hlt : (j : Int) < n := by omega
      obtain rfl := HA.out (by omega)
      have hx0r := hx0.trans HX.out
      have hbl := hx0r.size
      have hh' := has_ext hx0r (by omega) hh
      have hg' := gets_ext hx0r (by omega) hg
      have hbw : b < wr.heap.size := by omega
      have KE := Lib.hid (show ESl w0 N eA es.len es from ⟨rfl, n1, be, oe, a1, he⟩)
      have KL := Lib.hid (show SSl w0 N lA q.len q from ⟨rfl, n2, bl, ol, a2, hl⟩)
      have KX := Lib.hid (show SSl w0 N xA x.len x from ⟨rfl, n3, bx, ox, a3, hxx⟩)
      have IL := Lib.hid HI2.out.1
      have IX := Lib.hid HI2.out.2.1
      have HX0 := Lib.hid hx0r
      have HR2 := Lib.hid hr
      have HOK := Lib.hid (show i64ok kind ∧ i64ok low ∧ i64ok high ∧ name.size ≤ maxLen from ⟨h1, h2, h3, h4⟩)
      clear hh hg n1 n2 n3 a1 a2 a3 he hl hxx h1 h2 h3 h4 HR hbl hx0r hr hb
      go_upto_region 5 with (fail)
      have y0 : Ext wr _ := (Kept.refl _ wr).alloc (.cells (scells kind name eA es.len ec low high lA q.len lc xA x.len xc) 83)
      have hB := Blk.new wr 83 (scells kind name eA es.len ec low high lA q.len lc xA x.len xc)
      have hob : ∀ i, u3.ownBlock = some i → w.heap.size ≤ i ∧ i < wr.heap.size := HO.out.lt
      have hpo : ¬ u3.ownBlock = some wr.heap.size := fun e => by have := (hob _ e).2; omega
      have hWs : (wr.alloc (.cells (scells kind name eA es.len ec low high lA q.len lc xA x.len xc) 83)).heap.size = wr.heap.size + 1 := by simp
      have HOW := Lib.hid (own_ext HO.out y0)
      generalize hW : (wr.alloc (.cells (scells kind name eA es.len ec low high lA q.len lc xA x.len xc) 83)) = W at y0 hB hWs HOW ⊢
      clear hW hh' hg'
      have HWS := Lib.hid hWs
      have HOB := Lib.hid hob
      have HPO := Lib.hid hpo
      have HX1 := Lib.hid (HX0.out.trans y0)
      have HXr := Lib.hid (HX.out.trans y0)
      have HY := Lib.hid y0
      have HWR := Lib.hid (show w.heap.size ≤ wr.heap.size from HX.out.size)
      clear hWs hob hpo y0 HX
      obtain ⟨pb, hpb⟩ : ∃ pb, pb = wr.heap.size := ⟨_, rfl⟩
      rw [← hpb] at hB ⊢
      have HPB := Lib.hid hpb
      clear hpb
      have hC := Lib.hid hB
      clear hB
      refine wp_region_3 (fun w1 => Kept (fun i => u3.ownBlock = some i) W w1) [(0, 2), (1, 2), (2, 1), (3, 2), (4, 1), (5, 2), (6, 1), (8, 2), (9, 1), (10, 2), (11, 1), (12, 2), (13, 1), (15, 2), (16, 1), (7, 0), (14, 0), (17, 0), (18, 2), (19, 0), (20, 0), (21, 2)] (by kernel_rfl) (by kernel_rfl) (by kernel_rfl) (by kernel_rfl) ?_; intro l' hl'; simp only [List.map_cons, List.map_nil, List.getD_cons_zero, List.getD_cons_succ] at hl'; subst hl'
      have HY0 := Lib.hid (show Ext W W.drew from (Kept.refl _ W).drew)
      (repeat (first | ((apply w3_pure); (· go_simp); (· (intro w1; go_simp; try with_reducible rfl)); (intro K hK; go_simp; refine hK _ _ ?_; clear hK K)) | ((apply w3_skip); (· go_simp); (intro K hK; go_simp; refine hK _ _ ?_; clear hK K)) | ((apply w3_take); (· exact (Kept.ext HY0.out)); (· go_simp); (· (intro w1 hS; have d0 := Blk.kept hC.out hS (by rw [HPB.out]; exact HPO.out); have d1 := Blk.cell d0; have d2 := d0.lt;  go_simp; try with_reducible rfl)); (intro K hK; go_simp; refine hK _ _ ?_; clear hK K)) | ((apply w3_pass); (· exact (Kept.ext HY0.out)); (· go_simp); (intro K hK; go_simp; refine hK _ _ ?_; clear hK K))))
      (refine w3_act (fun K hK => ?_); go_simp)
      refine (toexprs_any w0 es _ _ _ N _ (HX1.out.trans HY0.out) hN KE.out).mono ?_
      rintro e w1 ⟨hx1, A1, c1, rfl, hk1⟩
      have HY1 := Lib.hid (HY0.out.trans hx1)
      have HK1 := Lib.hid hk1
      clear hx1 hk1
      refine hK.out _ _ (fun _ => Kept.ext HY1.out) ?_
      clear hK K
      (repeat (first | ((apply w3_pure); (· go_simp); (· (intro w1; go_simp; try with_reducible rfl)); (intro K hK; go_simp; refine hK _ _ ?_; clear hK K)) | ((apply w3_skip); (· go_simp); (intro K hK; go_simp; refine hK _ _ ?_; clear hK K))))
      (repeat (first | ((apply w3_pure); (· go_simp); (· (intro w1; go_simp; try with_reducible rfl)); (intro K hK; go_simp; refine hK _ _ ?_; clear hK K)) | ((apply w3_skip); (· go_simp); (intro K hK; go_simp; refine hK _ _ ?_; clear hK K)) | ((apply w3_take); (· exact (Kept.ext HY1.out)); (· go_simp); (· (intro w1 hS; have d0 := Blk.kept hC.out hS (by rw [HPB.out]; exact HPO.out); have d1 := Blk.cell d0; have d2 := d0.lt;  go_simp; try with_reducible rfl)); (intro K hK; go_simp; refine hK _ _ ?_; clear hK K)) | ((apply w3_pass); (· exact (Kept.ext HY1.out)); (· go_simp); (intro K hK; go_simp; refine hK _ _ ?_; clear hK K))))
      (refine w3_act (fun K hK => ?_); go_simp)
      refine (IL.out _ _ _ N _ (HX1.out.trans HY1.out) hN KL.out).mono ?_
      rintro e w2 ⟨hx2, A2, c2, rfl, hk2⟩
      have HZ2 := Lib.hid hx2
      have HY2 := Lib.hid (HY1.out.trans hx2)
      have HK2 := Lib.hid hk2
      clear hx2 hk2
      refine hK.out _ _ (fun _ => Kept.ext HY2.out) ?_
      clear hK K
      (repeat (first | ((apply w3_pure); (· go_simp); (· (intro w1; go_simp; try with_reducible rfl)); (intro K hK; go_simp; refine hK _ _ ?_; clear hK K)) | ((apply w3_skip); (· go_simp); (intro K hK; go_simp; refine hK _ _ ?_; clear hK K))))
      (repeat (first | ((apply w3_pure); (· go_simp); (· (intro w1; go_simp; try with_reducible rfl)); (intro K hK; go_simp; refine hK _ _ ?_; clear hK K)) | ((apply w3_skip); (· go_simp); (intro K hK; go_simp; refine hK _ _ ?_; clear hK K)) | ((apply w3_take); (· exact (Kept.ext HY2.out)); (· go_simp); (· (intro w1 hS; have d0 := Blk.kept hC.out hS (by rw [HPB.out]; exact HPO.out); have d1 := Blk.cell d0; have d2 := d0.lt;  go_simp; try with_reducible rfl)); (intro K hK; go_simp; refine hK _ _ ?_; clear hK K)) | ((apply w3_pass); (· exact (Kept.ext HY2.out)); (· go_simp); (intro K hK; go_simp; refine hK _ _ ?_; clear hK K))))
      (refine w3_act (fun K hK => ?_); go_simp)
      refine (IX.out _ _ _ N _ (HX1.out.trans HY2.out) hN KX.out).mono ?_
      rintro e w3 ⟨hx3, A3, c3, rfl, hk3⟩
      have HZ3 := Lib.hid hx3
      have HY3 := Lib.hid (HY2.out.trans hx3)
      have HK3 := Lib.hid hk3
      clear hx3 hk3
      refine hK.out _ _ (fun _ => Kept.ext HY3.out) ?_
      clear hK K
      (repeat (first | ((apply w3_pure); (· go_simp); (· (intro w1; go_simp; try with_reducible rfl)); (intro K hK; go_simp; refine hK _ _ ?_; clear hK K)) | ((apply w3_skip); (· go_simp); (intro K hK; go_simp; refine hK _ _ ?_; clear hK K))))
      (refine w3_act (fun K hK => ?_); go_simp)
      have y2 : Ext W _ := HY3.out.alloc (.cells (scells kind name A1 es.len c1 low high A2 q.len c2 A3 x.len c3) 34)
      have y12 : Ext w3 _ := (Kept.refl _ w3).alloc (.cells (scells kind name A1 es.len c1 low high A2 q.len c2 A3 x.len c3) 34)
      have hB2 := Row.of_blk (Blk.new w3 34 (scells kind name A1 es.len c1 low high A2 q.len c2 A3 x.len c3))
      generalize hW2 : (w3.alloc (.cells (scells kind name A1 es.len c1 low high A2 q.len c2 A3 x.len c3) 34)) = W2 at y2 y12 hB2 ⊢
      clear hW2
      refine hK.out _ _ (fun _ => Kept.ext y2) ?_
      clear hK K
      (repeat (first | ((apply w3_pure); (· go_simp); (· (intro w1; go_simp; try with_reducible rfl)); (intro K hK; go_simp; refine hK _ _ ?_; clear hK K)) | ((apply w3_skip); (· go_simp); (intro K hK; go_simp; refine hK _ _ ?_; clear hK K))))
      obtain ⟨v', w', hrun, ho', hk', hnew⟩ := appR (f := Sc.cells) elemStmtR (fun _ => rfl) (fun _ => rfl) W2 w.heap.size u3 j l (own_ext HOW.out y2) w3.heap.size 0 1 1 [⟨kind, name, A1, es.len, c1, low, high, A2, q.len, c2, A3, x.len, c3⟩] rfl hB2 (by have := HM.out; omega) (by have := y2.size; have := HWS.out; have := HWR.out; omega)
      refine w3_act (fun K hK => ?_)
      refine iff_want rfl ?_
      refine Lib.wp_append_run _ _ _ _ _ rfl _ _ rfl rfl _ _ hrun ?_
      refine hK.out _ _ (fun _ => Kept.trans (Kept.ext y2) hk') ?_
      clear hK K
      (repeat (first | ((apply w3_pure); (· go_simp); (· (intro w1; go_simp; try with_reducible rfl)); (intro K hK; go_simp; refine hK _ _ ?_; clear hK K)) | ((apply w3_skip); (· go_simp); (intro K hK; go_simp; refine hK _ _ ?_; clear hK K)) | (refine w3_end (by kernel_rfl) (fun K hK => ?_); go_simp; refine hK.out _ _ ?_; clear hK K))); refine w3_nil ?_
      go_wp2_with fail
      go_roundw
      case rel =>
        have e0 := HY0.out.size
        have e1 := HY1.out.size
        have e7 := HZ2.out.size
        have e8 := HZ3.out.size
        have e2 := y12.size
        have e3 := hk'.size
        have e4 := HWS.out
        have e5 := HPB.out
        have e6 := HWR.out
        have hxw : Ext w w' := (HXr.out.trans y2).trans' hk' (fun i hi e => by have := (HOB.out i e).1; omega)
        have hfar : ∀ i, W.heap.size ≤ i → i < w3.heap.size → w.heap.size ≤ i ∧ i < w'.heap.size ∧ ¬ v'.ownBlock = some i := fun i h1 h2 => by
          refine ⟨by omega, by omega, fun e => ?_⟩
          rcases hnew i e with q | q
          · have := (HOB.out i q).2; omega
          · omega
        have hoff : ∀ i, W.heap.size ≤ i → ¬ u3.ownBlock = some i := fun i h1 e => by have := (HOB.out i e).2; omega
        refine ⟨j + 1, P.app (.cons kind name es low high q x .nil), r, l ++ [⟨kind, name, A1, es.len, c1, low, high, A2, q.len, c2, A3, x.len, c3⟩], by omega, by rw [sf_app_cons]; exact HACC.out, by rw [List.length_append, HLEN.out]; rfl, by go_num, ho', ?_, by rw [Nat.add_mul, ← Nat.add_assoc]; exact HR2.out, HI2.out.2.2, hxw⟩
        refine ScsIn.snoc ⟨rfl, rfl, rfl, rfl, HOK.out.1, HOK.out.2.1, HOK.out.2.2.1, HOK.out.2.2.2, ?_, ?_, ?_⟩ ?_
        · exact ((HK1.out.kept ((HZ2.out.trans HZ3.out).trans y12) (fun i hi => ⟨hi.2, fun f => f⟩)).kept hk' (fun i hi => ⟨by omega, hoff i (by omega)⟩)).mono (fun i hi => hfar i (by omega) (by omega))
        · exact ((HK2.out.kept (HZ3.out.trans y12) (fun i hi => ⟨hi.2, fun f => f⟩)).kept hk' (fun i hi => ⟨by omega, hoff i (by omega)⟩)).mono (fun i hi => hfar i (by omega) (by omega))
        · exact ((HK3.out.kept y12 (fun i hi => ⟨hi.2, fun f => f⟩)).kept hk' (fun i hi => ⟨by have := HY2.out.size; omega, hoff i (by have := HY2.out.size; omega)⟩)).mono (fun i hi => hfar i (by have := HY2.out.size; omega) (by omega))
        · refine ((HEC.out.kept (HY.out.trans y2) (fun i hi => ⟨hi.2.1, fun f => f⟩)).kept hk' (fun i hi => ⟨by omega, hi.2.2⟩)).mono (fun i hi => ?_)
          refine ⟨hi.1, by omega, fun e => ?_⟩
          rcases hnew i e with q | q
          · exact hi.2.2 q
          · omega
      case measure => simp only [intOf]; omega
end Go.Proofs.YtfamkemdgbnegaaDoor

/- Sorts: variables of the document's as the program's, and back. -/
namespace Go.Proofs.YtfamkemdgbnegaaDoor
open Go.RowKit So
/-- variables lie in memory, in blocks of D -/
def VsIn (w : World) (D : Nat → Prop) (A : Option Addr) (n : Nat) (l : List Vr) : Prop := n = l.length ∧ Fits n 40 ∧ (∀ v ∈ l, VrOk v) ∧ ∃ b off, (0 < n → A = some ⟨b, off, none⟩) ∧ (0 < n → D b ∧ Row w b off (rowsL vcells l))
theorem VsIn.at_ {w : World} {D : Nat → Prop} {N : Nat} {A : Option Addr} {n : Nat} {l : List Vr} (h : VsIn w D A n l) (hD : ∀ i, D i → i < N) : VSl w N A n l := by
  obtain ⟨h1, h2, h3, b, off, h4, h5⟩ := h
  exact ⟨h1, h2, h3, b, off, h4, fun h0 => ⟨hD _ (h5 h0).1, (h5 h0).2⟩⟩
theorem VsIn.kept {S : Nat → Prop} {w w' : World} {D : Nat → Prop} {A : Option Addr} {n : Nat} {l : List Vr} (h : VsIn w D A n l) (hk : Kept S w w') (hD : ∀ i, D i → ¬ S i) : VsIn w' D A n l := by
  obtain ⟨h1, h2, h3, b, off, h4, h5⟩ := h
  exact ⟨h1, h2, h3, b, off, h4, fun h0 => ⟨(h5 h0).1, (h5 h0).2.kept hk (hD _ (h5 h0).1)⟩⟩
theorem VsIn.ext {w w' : World} {D : Nat → Prop} {A : Option Addr} {n : Nat} {l : List Vr} (h : VsIn w D A n l) (hk : Ext w w') : VsIn w' D A n l := by
  obtain ⟨h1, h2, h3, b, off, h4, h5⟩ := h
  exact ⟨h1, h2, h3, b, off, h4, fun h0 => ⟨(h5 h0).1, (h5 h0).2.ext hk⟩⟩
theorem owns_vs {w w' : World} {T : TypeId} {v : Value} {n : Nat} {l : List Vr} (ho : w'.ownsRow w.heap.size T 4 v n (rowsL vcells l)) (hn : n = l.length) (hf : Fits n 40) (hok : ∀ v ∈ l, VrOk v) :
    ∃ A' c', Ending.returned v = .returned (.slice A' n c') ∧ VsIn w' (fun i => w.heap.size ≤ i ∧ i < w'.heap.size) A' n l := by
  by_cases h0 : 0 < n
  · obtain ⟨g, c, rfl, hr, hg, _⟩ := own_rows ho h0 (by omega)
    exact ⟨some ⟨g, 0, none⟩, c, rfl, hn, hf, hok, g, 0, fun _ => rfl, fun _ => ⟨⟨hg, hr.lt⟩, hr⟩⟩
  · obtain rfl : n = 0 := by omega
    rcases ho.2 with ⟨hv, _⟩ | ⟨g, c, cur, hv, _⟩
    · exact ⟨none, 0, by rw [hv], hn, hf, hok, 0, 0, fun q => by omega, fun q => by omega⟩
    · exact ⟨some ⟨g, 0, none⟩, c, by rw [hv], hn, hf, hok, 0, 0, fun q => by omega, fun q => by omega⟩
theorem VSl.mono {w : World} {N N' : Nat} {A : Option Addr} {n : Nat} {l : List Vr} (h : VSl w N A n l) (hN : N ≤ N') : VSl w N' A n l := by
  obtain ⟨h1, h2, h3, b, off, h4, h5⟩ := h
  exact ⟨h1, h2, h3, b, off, h4, fun h0 => ⟨Nat.lt_of_lt_of_le (h5 h0).1 hN, (h5 h0).2⟩⟩
theorem ISl.mono {w : World} {N N' : Nat} {A : Option Addr} {n : Nat} {l : List Int} (h : ISl w N A n l) (hN : N ≤ N') : ISl w N' A n l := by
  obtain ⟨h1, h2, h3, b, off, h4, h5⟩ := h
  exact ⟨h1, h2, h3, b, off, h4, fun h0 => ⟨Nat.lt_of_lt_of_le (h5 h0).1 hN, (h5 h0).2⟩⟩
theorem ISl.ext {w w' : World} {N : Nat} {A : Option Addr} {n : Nat} {l : List Int} (h : ISl w N A n l) (hk : Ext w w') : ISl w' N A n l := h.kept hk (fun _ f => f.elim)
theorem VSl.ext {w w' : World} {N : Nat} {A : Option Addr} {n : Nat} {l : List Vr} (h : VSl w N A n l) (hk : Ext w w') : VSl w' N A n l := h.kept hk (fun _ f => f.elim)
theorem vr_at {w : World} {b off : Nat} {l : List Vr} (h : Row w b off (rowsL vcells l)) (j : Nat) (hj : j < l.length) : Proofs.YtfamkemdgbnegaaDoor.has w b (off + j * 4) 4 = true ∧ gets w b (off + j * 4) 4 = vcells l[j] := rowsL_row (f := vcells) (k := 4) (fun _ => rfl) h j hj
set_option maxRecDepth 100000 in
set_option maxHeartbeats 2000000 in
theorem ofvars_any (l : List Vr) (A : Option Addr) (n c N : Nat) (w : World) (_hN : N ≤ w.heap.size) (h : VSl w N A n l) : Calls Tryd.prog 32 #[.slice A n c] w fun e w2 => Ext w w2 ∧ ∃ A' c', e = .returned (.slice A' n c') ∧ VsIn w2 (fun i => w.heap.size ≤ i ∧ i < w2.heap.size) A' n l := by
  obtain ⟨hn, hf, hok, b, off, hA, hE⟩ := h
  have hm := hf.max (by omega)
  have hm2 := hf
  unfold Fits at hm2
  have HM := Lib.hid hm2
  have HF := Lib.hid hf
  have HN := Lib.hid hn
  have HA := Lib.hid hA
  have HE := Lib.hid hE
  have HOK := Lib.hid hok
  clear hn hA hE hok hf hm2
  go_enter Tryd.func32, Tryd.ntmps32
  go_wp2_with fail
  go_loopw [3, 8] (fun t3 t8 wr => ∃ (j : Nat), j ≤ n ∧ t8 = .int .i64 j ∧ wr.ownsRow w.heap.size 54 4 t3 j (rowsL vcells (l.take j)) ∧ Ext w wr) (fun _ t8 _ => n - (intOf t8).toNat)
  case atStart => exact ⟨0, Nat.zero_le _, rfl, World.ownsRow_nil _ _ _ _, Kept.refl _ _⟩
  case round =>
    obtain ⟨j, hj, rfl, ho, hx⟩ := hrel
    have HX := Lib.hid hx
    have HO := Lib.hid ho
    clear hx ho
    by_cases hlt : j < n
    · have hjl : j < l.length := by have := HN.out; omega
      have hltI : (j : Int) < n := by omega
      obtain rfl := HA.out (by omega)
      have hrow := (HE.out (by omega)).2.ext HX.out
      obtain ⟨hh', hg'⟩ := vr_at hrow j hjl
      have hbw := hrow.lt
      obtain ⟨x, hxe⟩ : ∃ x, x = l[j] := ⟨_, rfl⟩
      rw [← hxe] at hg'
      have htk : l.take (j + 1) = l.take j ++ [x] := by rw [hxe]; simp
      have HTK := Lib.hid htk
      clear hrow hxe htk
      have y0 : Ext wr _ := ((Kept.refl (fun _ => False) wr).alloc (.cells (vcells x) 29)).alloc (.cells (vcells x) 54)
      obtain ⟨v', w', hrun, ho', hk', _⟩ := appR (f := vcells) elemVarS (fun _ => rfl) (fun _ => rfl) ((wr.alloc (.cells (vcells x) 29)).alloc (.cells (vcells x) 54)) w.heap.size u3 j (l.take j) (own_ext HO.out y0) (wr.heap.size + 1) 0 1 1 [x] rfl (Row.of_blk (Blk.new' _ _ _ _ (by simp))) (by have := HM.out; omega) (by have := y0.size; have := HX.out.size; omega)
      rw [← HTK.out] at ho'
      have HO' := Lib.hid ho'
      have HXW := Lib.hid (show Ext w w' from (HX.out.trans y0).trans' hk' (fun i hi e => by have := (HO.out.lt i e).1; omega))
      clear ho' hk' y0
      go_upto_region 5 with (fail)
      go_step
      iterate 3 (refine wpList_step (fun K hK => ?_); go_simp; (try go_bits); refine hK _ _ ?_; clear hK K)
      refine wpList_app rfl (.tmp 12) (.tmp 14) 49 rfl rfl rfl rfl hrun ?_
      clear hrun
      go_wp2_with fail
      go_roundw
      case rel => exact ⟨j + 1, hlt, by go_num, HO'.out, HXW.out⟩
      case measure => simp only [intOf]; omega
    · obtain rfl : j = n := by omega
      go_wp2_with fail
      go_ret
      refine ⟨HX.out, ?_⟩
      have ho := HO.out
      rw [HN.out, List.take_length, ← HN.out] at ho
      exact owns_vs ho HN.out HF.out HOK.out
set_option maxRecDepth 100000 in
set_option maxHeartbeats 2000000 in
theorem tovars_any (l : List Vr) (A : Option Addr) (n c N : Nat) (w : World) (_hN : N ≤ w.heap.size) (h : VSl w N A n l) : Calls Tryd.prog 47 #[.slice A n c] w fun e w2 => Ext w w2 ∧ ∃ A' c', e = .returned (.slice A' n c') ∧ VsIn w2 (fun i => w.heap.size ≤ i ∧ i < w2.heap.size) A' n l := by
  obtain ⟨hn, hf, hok, b, off, hA, hE⟩ := h
  have hm := hf.max (by omega)
  have hm2 := hf
  unfold Fits at hm2
  have HM := Lib.hid hm2
  have HF := Lib.hid hf
  have HN := Lib.hid hn
  have HA := Lib.hid hA
  have HE := Lib.hid hE
  have HOK := Lib.hid hok
  clear hn hA hE hok hf hm2
  go_enter Tryd.func47, Tryd.ntmps47
  go_wp2_with fail
  go_loopw [3, 8] (fun t3 t8 wr => ∃ (j : Nat), j ≤ n ∧ t8 = .int .i64 j ∧ wr.ownsRow w.heap.size 29 4 t3 j (rowsL vcells (l.take j)) ∧ Ext w wr) (fun _ t8 _ => n - (intOf t8).toNat)
  case atStart => exact ⟨0, Nat.zero_le _, rfl, World.ownsRow_nil _ _ _ _, Kept.refl _ _⟩
  case round =>
    obtain ⟨j, hj, rfl, ho, hx⟩ := hrel
    have HX := Lib.hid hx
    have HO := Lib.hid ho
    clear hx ho
    by_cases hlt : j < n
    · have hjl : j < l.length := by have := HN.out; omega
      have hltI : (j : Int) < n := by omega
      obtain rfl := HA.out (by omega)
      have hrow := (HE.out (by omega)).2.ext HX.out
      obtain ⟨hh', hg'⟩ := vr_at hrow j hjl
      have hbw := hrow.lt
      obtain ⟨x, hxe⟩ : ∃ x, x = l[j] := ⟨_, rfl⟩
      rw [← hxe] at hg'
      have htk : l.take (j + 1) = l.take j ++ [x] := by rw [hxe]; simp
      have HTK := Lib.hid htk
      clear hrow hxe htk
      have y0 : Ext wr _ := ((Kept.refl (fun _ => False) wr).alloc (.cells (vcells x) 54)).alloc (.cells (vcells x) 29)
      obtain ⟨v', w', hrun, ho', hk', _⟩ := appR (f := vcells) elemVarR (fun _ => rfl) (fun _ => rfl) ((wr.alloc (.cells (vcells x) 54)).alloc (.cells (vcells x) 29)) w.heap.size u3 j (l.take j) (own_ext HO.out y0) (wr.heap.size + 1) 0 1 1 [x] rfl (Row.of_blk (Blk.new' _ _ _ _ (by simp))) (by have := HM.out; omega) (by have := y0.size; have := HX.out.size; omega)
      rw [← HTK.out] at ho'
      have HO' := Lib.hid ho'
      have HXW := Lib.hid (show Ext w w' from (HX.out.trans y0).trans' hk' (fun i hi e => by have := (HO.out.lt i e).1; omega))
      clear ho' hk' y0
      go_upto_region 5 with (fail)
      go_step
      iterate 3 (refine wpList_step (fun K hK => ?_); go_simp; (try go_bits); refine hK _ _ ?_; clear hK K)
      refine wpList_app rfl (.tmp 12) (.tmp 14) 23 rfl rfl rfl rfl hrun ?_
      clear hrun
      go_wp2_with fail
      go_roundw
      case rel => exact ⟨j + 1, hlt, by go_num, HO'.out, HXW.out⟩
      case measure => simp only [intOf]; omega
    · obtain rfl : j = n := by omega
      go_wp2_with fail
      go_ret
      refine ⟨HX.out, ?_⟩
      have ho := HO.out
      rw [HN.out, List.take_length, ← HN.out] at ho
      exact owns_vs ho HN.out HF.out HOK.out
end Go.Proofs.YtfamkemdgbnegaaDoor

/- Sorts: a program of the document's as the program's, and back. -/
namespace Go.Proofs.YtfamkemdgbnegaaDoor
open Go.RowKit So
set_option maxRecDepth 100000 in
set_option maxHeartbeats 8000000 in
theorem of_any (c : Pc) (p : Pr) (N : Nat) (w : World) (hN : N ≤ w.heap.size) (h : PAt w N c p) : Calls Tryd.prog 18 #[.agg c.cells] w fun e w' => Ext w w' ∧ ∃ c' : Pc, e = .returned (.agg c'.cells) ∧ PAt w' w'.heap.size c' p := by
  have hx0 := (Kept.refl (fun _ => False) w).alloc (.cells c.cells 26)
  have hB := Blk.new w 26 c.cells
  have hP := Lib.hid (h.ext hx0 hN)
  have hNa := Nat.le_trans hN hx0.size
  clear h
  go_enter Tryd.func18, Tryd.ntmps18
  go_upto_region 1 with (fail)
  have hR := Blk.new (w.alloc (.cells c.cells 26)) 52 #[.string ⟨#[]⟩, .int .i64 0, .slice none 0 0, .slice none 0 0, .slice none 0 0, .slice none 0 0, .slice none 0 0, .slice none 0 0, .string ⟨#[]⟩, .slice none 0 0, .slice none 0 0]
  have hR' : Blk ((w.alloc (.cells c.cells 26)).alloc (.cells #[.string ⟨#[]⟩, .int .i64 0, .slice none 0 0, .slice none 0 0, .slice none 0 0, .slice none 0 0, .slice none 0 0, .slice none 0 0, .string ⟨#[]⟩, .slice none 0 0, .slice none 0 0] 52)) (w.heap.size + 1) 52 #[.string ⟨#[]⟩, .int .i64 0, .slice none 0 0, .slice none 0 0, .slice none 0 0, .slice none 0 0, .slice none 0 0, .slice none 0 0, .string ⟨#[]⟩, .slice none 0 0, .slice none 0 0] := by simpa using hR
  have hx1 := hx0.alloc (.cells #[.string ⟨#[]⟩, .int .i64 0, .slice none 0 0, .slice none 0 0, .slice none 0 0, .slice none 0 0, .slice none 0 0, .slice none 0 0, .string ⟨#[]⟩, .slice none 0 0, .slice none 0 0] 52)
  have hxq := (Kept.refl (fun _ => False) (w.alloc (.cells c.cells 26))).alloc (.cells #[.string ⟨#[]⟩, .int .i64 0, .slice none 0 0, .slice none 0 0, .slice none 0 0, .slice none 0 0, .slice none 0 0, .slice none 0 0, .string ⟨#[]⟩, .slice none 0 0, .slice none 0 0] 52)
  have hP1 := Lib.hid (hP.out.ext hxq hNa)
  have hB1 := Blk.ext hB hxq
  have hNb := Nat.le_trans hNa hxq.size
  generalize hW : ((w.alloc (.cells c.cells 26)).alloc (.cells #[.string ⟨#[]⟩, .int .i64 0, .slice none 0 0, .slice none 0 0, .slice none 0 0, .slice none 0 0, .slice none 0 0, .slice none 0 0, .string ⟨#[]⟩, .slice none 0 0, .slice none 0 0] 52)) = W at hx1 hB1 hP1 hNb hR' ⊢
  clear hW hx0 hB hP hNa hR hxq
  have HRB := Lib.hid (show ¬ w.heap.size = w.heap.size + 1 by omega)
  generalize hrb : w.heap.size + 1 = rb at hR' HRB ⊢
  generalize hpb : w.heap.size = pb at hB1 HRB hrb ⊢
  have HX1 := Lib.hid hx1
  have HRW := Lib.hid (show w.heap.size ≤ rb by omega)
  clear hx1 hpb hrb
  have hC := Lib.hid hB1
  have hD := Lib.hid hR'
  clear hB1 hR'
  refine wp_region_3 (fun w1 => Kept (· = rb) W w1) [(0, 2), (1, 1), (2, 2), (3, 1), (4, 2), (5, 1), (6, 2), (7, 1), (9, 2), (10, 1), (12, 2), (13, 1), (15, 2), (16, 1), (18, 2), (19, 1), (21, 2), (22, 1), (23, 2), (24, 1), (26, 2), (27, 1), (8, 0), (11, 0), (14, 0), (17, 0), (20, 0), (25, 0), (28, 0), (29, 2), (30, 0)] (by kernel_rfl) (by kernel_rfl) (by kernel_rfl) (by kernel_rfl) ?_; intro l' hl'; simp only [List.map_cons, List.map_nil, List.getD_cons_zero, List.getD_cons_succ] at hl'; subst hl'
  have HY0 := Lib.hid (show Ext W W.drew from (Kept.refl _ W).drew)
  (repeat (first | ((apply w3_pure); (· go_simp); (· (intro w1; go_simp; try with_reducible rfl)); (intro K hK; go_simp; refine hK _ _ ?_; clear hK K)) | ((apply w3_skip); (· go_simp); (intro K hK; go_simp; refine hK _ _ ?_; clear hK K)) | ((apply w3_take); (· exact (Kept.ext HY0.out)); (· go_simp); (· (intro w1 hS; have d0 := Blk.kept hC.out hS HRB.out; have d1 := Blk.cell d0; have d2 := d0.lt;  go_simp; try with_reducible rfl)); (intro K hK; go_simp; refine hK _ _ ?_; clear hK K)) | ((apply w3_pass); (· exact (Kept.ext HY0.out)); (· go_simp); (intro K hK; go_simp; refine hK _ _ ?_; clear hK K))))
  (refine w3_act (fun K hK => ?_); go_simp)
  refine (ofvars_any p.vars _ _ _ N _ (Nat.le_trans hNb HY0.out.size) (hP1.out.vars.ext HY0.out)).mono ?_
  rintro e w1 ⟨hx1, A1, c1, rfl, hk1⟩
  have HZ1 := Lib.hid hx1
  have HY1 := Lib.hid (HY0.out.trans hx1)
  have HK1 := Lib.hid hk1
  clear hx1 hk1
  refine hK.out _ _ (fun _ => Kept.ext HY1.out) ?_
  clear hK K
  (repeat (first | ((apply w3_pure); (· go_simp); (· (intro w1; go_simp; try with_reducible rfl)); (intro K hK; go_simp; refine hK _ _ ?_; clear hK K)) | ((apply w3_skip); (· go_simp); (intro K hK; go_simp; refine hK _ _ ?_; clear hK K))))
  (repeat (first | ((apply w3_pure); (· go_simp); (· (intro w1; go_simp; try with_reducible rfl)); (intro K hK; go_simp; refine hK _ _ ?_; clear hK K)) | ((apply w3_skip); (· go_simp); (intro K hK; go_simp; refine hK _ _ ?_; clear hK K)) | ((apply w3_take); (· exact (Kept.ext HY1.out)); (· go_simp); (· (intro w1 hS; have d0 := Blk.kept hC.out hS HRB.out; have d1 := Blk.cell d0; have d2 := d0.lt;  go_simp; try with_reducible rfl)); (intro K hK; go_simp; refine hK _ _ ?_; clear hK K)) | ((apply w3_pass); (· exact (Kept.ext HY1.out)); (· go_simp); (intro K hK; go_simp; refine hK _ _ ?_; clear hK K))))
  (refine w3_act (fun K hK => ?_); go_simp)
  refine (ofstmts_any _ p.start _ _ _ N _ (Kept.refl _ _) (Nat.le_trans hNb HY1.out.size) (hP1.out.start.ext HY1.out hNb)).mono ?_
  rintro e w2 ⟨hx1, A2, c2, rfl, hk1⟩
  have HZ2 := Lib.hid hx1
  have HY2 := Lib.hid (HY1.out.trans hx1)
  have HK2 := Lib.hid hk1
  clear hx1 hk1
  refine hK.out _ _ (fun _ => Kept.ext HY2.out) ?_
  clear hK K
  (repeat (first | ((apply w3_pure); (· go_simp); (· (intro w1; go_simp; try with_reducible rfl)); (intro K hK; go_simp; refine hK _ _ ?_; clear hK K)) | ((apply w3_skip); (· go_simp); (intro K hK; go_simp; refine hK _ _ ?_; clear hK K))))
  (repeat (first | ((apply w3_pure); (· go_simp); (· (intro w1; go_simp; try with_reducible rfl)); (intro K hK; go_simp; refine hK _ _ ?_; clear hK K)) | ((apply w3_skip); (· go_simp); (intro K hK; go_simp; refine hK _ _ ?_; clear hK K)) | ((apply w3_take); (· exact (Kept.ext HY2.out)); (· go_simp); (· (intro w1 hS; have d0 := Blk.kept hC.out hS HRB.out; have d1 := Blk.cell d0; have d2 := d0.lt;  go_simp; try with_reducible rfl)); (intro K hK; go_simp; refine hK _ _ ?_; clear hK K)) | ((apply w3_pass); (· exact (Kept.ext HY2.out)); (· go_simp); (intro K hK; go_simp; refine hK _ _ ?_; clear hK K))))
  (refine w3_act (fun K hK => ?_); go_simp)
  refine (ofstmts_any _ p.turn _ _ _ N _ (Kept.refl _ _) (Nat.le_trans hNb HY2.out.size) (hP1.out.turn.ext HY2.out hNb)).mono ?_
  rintro e w3 ⟨hx1, A3, c3, rfl, hk1⟩
  have HZ3 := Lib.hid hx1
  have HY3 := Lib.hid (HY2.out.trans hx1)
  have HK3 := Lib.hid hk1
  clear hx1 hk1
  refine hK.out _ _ (fun _ => Kept.ext HY3.out) ?_
  clear hK K
  (repeat (first | ((apply w3_pure); (· go_simp); (· (intro w1; go_simp; try with_reducible rfl)); (intro K hK; go_simp; refine hK _ _ ?_; clear hK K)) | ((apply w3_skip); (· go_simp); (intro K hK; go_simp; refine hK _ _ ?_; clear hK K))))
  (repeat (first | ((apply w3_pure); (· go_simp); (· (intro w1; go_simp; try with_reducible rfl)); (intro K hK; go_simp; refine hK _ _ ?_; clear hK K)) | ((apply w3_skip); (· go_simp); (intro K hK; go_simp; refine hK _ _ ?_; clear hK K)) | ((apply w3_take); (· exact (Kept.ext HY3.out)); (· go_simp); (· (intro w1 hS; have d0 := Blk.kept hC.out hS HRB.out; have d1 := Blk.cell d0; have d2 := d0.lt;  go_simp; try with_reducible rfl)); (intro K hK; go_simp; refine hK _ _ ?_; clear hK K)) | ((apply w3_pass); (· exact (Kept.ext HY3.out)); (· go_simp); (intro K hK; go_simp; refine hK _ _ ?_; clear hK K))))
  (refine w3_act (fun K hK => ?_); go_simp)
  refine (ofvars_any p.params _ _ _ N _ (Nat.le_trans hNb HY3.out.size) (hP1.out.params.ext HY3.out)).mono ?_
  rintro e w4 ⟨hx1, A4, c4, rfl, hk1⟩
  have HZ4 := Lib.hid hx1
  have HY4 := Lib.hid (HY3.out.trans hx1)
  have HK4 := Lib.hid hk1
  clear hx1 hk1
  refine hK.out _ _ (fun _ => Kept.ext HY4.out) ?_
  clear hK K
  (repeat (first | ((apply w3_pure); (· go_simp); (· (intro w1; go_simp; try with_reducible rfl)); (intro K hK; go_simp; refine hK _ _ ?_; clear hK K)) | ((apply w3_skip); (· go_simp); (intro K hK; go_simp; refine hK _ _ ?_; clear hK K))))
  (repeat (first | ((apply w3_pure); (· go_simp); (· (intro w1; go_simp; try with_reducible rfl)); (intro K hK; go_simp; refine hK _ _ ?_; clear hK K)) | ((apply w3_skip); (· go_simp); (intro K hK; go_simp; refine hK _ _ ?_; clear hK K)) | ((apply w3_take); (· exact (Kept.ext HY4.out)); (· go_simp); (· (intro w1 hS; have d0 := Blk.kept hC.out hS HRB.out; have d1 := Blk.cell d0; have d2 := d0.lt;  go_simp; try with_reducible rfl)); (intro K hK; go_simp; refine hK _ _ ?_; clear hK K)) | ((apply w3_pass); (· exact (Kept.ext HY4.out)); (· go_simp); (intro K hK; go_simp; refine hK _ _ ?_; clear hK K))))
  (refine w3_act (fun K hK => ?_); go_simp)
  refine (ofstmts_any _ p.play _ _ _ N _ (Kept.refl _ _) (Nat.le_trans hNb HY4.out.size) (hP1.out.play.ext HY4.out hNb)).mono ?_
  rintro e w5 ⟨hx1, A5, c5, rfl, hk1⟩
  have HZ5 := Lib.hid hx1
  have HY5 := Lib.hid (HY4.out.trans hx1)
  have HK5 := Lib.hid hk1
  clear hx1 hk1
  refine hK.out _ _ (fun _ => Kept.ext HY5.out) ?_
  clear hK K
  (repeat (first | ((apply w3_pure); (· go_simp); (· (intro w1; go_simp; try with_reducible rfl)); (intro K hK; go_simp; refine hK _ _ ?_; clear hK K)) | ((apply w3_skip); (· go_simp); (intro K hK; go_simp; refine hK _ _ ?_; clear hK K))))
  (repeat (first | ((apply w3_pure); (· go_simp); (· (intro w1; go_simp; try with_reducible rfl)); (intro K hK; go_simp; refine hK _ _ ?_; clear hK K)) | ((apply w3_skip); (· go_simp); (intro K hK; go_simp; refine hK _ _ ?_; clear hK K)) | ((apply w3_take); (· exact (Kept.ext HY5.out)); (· go_simp); (· (intro w1 hS; have d0 := Blk.kept hC.out hS HRB.out; have d1 := Blk.cell d0; have d2 := d0.lt;  go_simp; try with_reducible rfl)); (intro K hK; go_simp; refine hK _ _ ?_; clear hK K)) | ((apply w3_pass); (· exact (Kept.ext HY5.out)); (· go_simp); (intro K hK; go_simp; refine hK _ _ ?_; clear hK K))))
  (refine w3_act (fun K hK => ?_); go_simp)
  refine (ofstmts_any _ p.quiet _ _ _ N _ (Kept.refl _ _) (Nat.le_trans hNb HY5.out.size) (hP1.out.quiet.ext HY5.out hNb)).mono ?_
  rintro e w6 ⟨hx1, A6, c6, rfl, hk1⟩
  have HZ6 := Lib.hid hx1
  have HY6 := Lib.hid (HY5.out.trans hx1)
  have HK6 := Lib.hid hk1
  clear hx1 hk1
  refine hK.out _ _ (fun _ => Kept.ext HY6.out) ?_
  clear hK K
  (repeat (first | ((apply w3_pure); (· go_simp); (· (intro w1; go_simp; try with_reducible rfl)); (intro K hK; go_simp; refine hK _ _ ?_; clear hK K)) | ((apply w3_skip); (· go_simp); (intro K hK; go_simp; refine hK _ _ ?_; clear hK K))))
  (repeat (first | ((apply w3_pure); (· go_simp); (· (intro w1; go_simp; try with_reducible rfl)); (intro K hK; go_simp; refine hK _ _ ?_; clear hK K)) | ((apply w3_skip); (· go_simp); (intro K hK; go_simp; refine hK _ _ ?_; clear hK K)) | ((apply w3_take); (· exact (Kept.ext HY6.out)); (· go_simp); (· (intro w1 hS; have d0 := Blk.kept hC.out hS HRB.out; have d1 := Blk.cell d0; have d2 := d0.lt;  go_simp; try with_reducible rfl)); (intro K hK; go_simp; refine hK _ _ ?_; clear hK K)) | ((apply w3_pass); (· exact (Kept.ext HY6.out)); (· go_simp); (intro K hK; go_simp; refine hK _ _ ?_; clear hK K))))
  (refine w3_act (fun K hK => ?_); go_simp)
  refine (ofstmts_any _ p.pays _ _ _ N _ (Kept.refl _ _) (Nat.le_trans hNb HY6.out.size) (hP1.out.pays.ext HY6.out hNb)).mono ?_
  rintro e w7 ⟨hx1, A7, c7, rfl, hk1⟩
  have HZ7 := Lib.hid hx1
  have HY7 := Lib.hid (HY6.out.trans hx1)
  have HK7 := Lib.hid hk1
  clear hx1 hk1
  refine hK.out _ _ (fun _ => Kept.ext HY7.out) ?_
  clear hK K
  (repeat (first | ((apply w3_pure); (· go_simp); (· (intro w1; go_simp; try with_reducible rfl)); (intro K hK; go_simp; refine hK _ _ ?_; clear hK K)) | ((apply w3_skip); (· go_simp); (intro K hK; go_simp; refine hK _ _ ?_; clear hK K))))
  have hDr := Blk.ext hD.out HY7.out
  have hm := Blk.melts hDr
  have hh := Blk.has hDr
  (refine w3_act (fun K hK => ?_); go_simp)
  refine hK.out _ _ (fun _ => Kept.putAt (Kept.ext HY7.out) _ _ _ (fun _ => rfl)) ?_
  clear hK K
  (repeat (first | ((apply w3_pure); (· go_simp); (· (intro w1; go_simp; try with_reducible rfl)); (intro K hK; go_simp; refine hK _ _ ?_; clear hK K)) | ((apply w3_skip); (· go_simp); (intro K hK; go_simp; refine hK _ _ ?_; clear hK K)) | (refine w3_end (by kernel_rfl) (fun K hK => ?_); go_simp; refine hK.out _ _ ?_; clear hK K))); refine w3_nil ?_
  go_wp2_with fail
  refine ret_cell Tryd.results18 rfl rfl aggProgS (by exact sizeProgS) (Blk.put_ hDr _ _) ?_
  refine ⟨(HX1.out.trans HY7.out).putAt _ _ _ (fun hlt => absurd hlt (by have := HRW.out; omega)), ⟨c.name, c.seats, c.stakes, ⟨A1, c.vars.n, c1⟩, ⟨A2, c.start.n, c2⟩, ⟨A3, c.turn.n, c3⟩, ⟨A4, c.params.n, c4⟩, ⟨A5, c.play.n, c5⟩, c.silent, ⟨A6, c.quiet.n, c6⟩, ⟨A7, c.pays.n, c7⟩⟩, rfl, ?_⟩
  have hkp : Kept (· = rb) w7 (putAt w7 rb 0 #[.string c.name, .int .i64 c.seats, c.stakes.v, .slice A1 c.vars.n c1, .slice A2 c.start.n c2, .slice A3 c.turn.n c3, .slice A4 c.params.n c4, .slice A5 c.play.n c5, .string c.silent, .slice A6 c.quiet.n c6, .slice A7 c.pays.n c7]) := Kept.putAt (Kept.refl _ _) _ _ _ (fun _ => rfl)
  have hws := hkp.size
  have E6 := HZ7.out
  have E5 := HZ6.out.trans E6
  have E4 := HZ5.out.trans E5
  have E3 := HZ4.out.trans E4
  have E2 := HZ3.out.trans E3
  have E1 := HZ2.out.trans E2
  have k0 := HY0.out.size
  have k1 := HY1.out.size
  have k2 := HY2.out.size
  have k3 := HY3.out.size
  have k4 := HY4.out.size
  have k5 := HY5.out.size
  have k6 := HY6.out.size
  have k7 := HY7.out.size
  have s1 := E1.size
  have s2 := E2.size
  have s3 := E3.size
  have s4 := E4.size
  have s5 := E5.size
  have s6 := E6.size
  have hrb := hD.out.lt
  have hNr : N ≤ rb := Nat.le_trans hN HRW.out
  refine ⟨hP1.out.name, hP1.out.nameOk, hP1.out.seats, hP1.out.seatsOk, ((hP1.out.stakes.ext HY7.out).kept hkp (fun i e => by omega)).mono (by omega), ?_, ?_, ?_, ?_, ?_, hP1.out.silent, hP1.out.silentOk, ?_, ?_⟩
  · exact ((HK1.out.ext E1).kept hkp (fun i hi e => by omega)).at_ (fun i hi => by omega)
  · exact ((HK2.out.kept E2 (fun i hi => ⟨hi.2, fun f => f⟩)).kept hkp (fun i hi => ⟨by omega, by omega⟩)).at_ (fun i hi => by omega)
  · exact ((HK3.out.kept E3 (fun i hi => ⟨hi.2, fun f => f⟩)).kept hkp (fun i hi => ⟨by omega, by omega⟩)).at_ (fun i hi => by omega)
  · exact ((HK4.out.ext E4).kept hkp (fun i hi e => by omega)).at_ (fun i hi => by omega)
  · exact ((HK5.out.kept E5 (fun i hi => ⟨hi.2, fun f => f⟩)).kept hkp (fun i hi => ⟨by omega, by omega⟩)).at_ (fun i hi => by omega)
  · exact ((HK6.out.kept E6 (fun i hi => ⟨hi.2, fun f => f⟩)).kept hkp (fun i hi => ⟨by omega, by omega⟩)).at_ (fun i hi => by omega)
  · exact (HK7.out.kept hkp (fun i hi => ⟨hi.2, by omega⟩)).at_ (fun i hi => by omega)
set_option maxRecDepth 100000 in
set_option maxHeartbeats 8000000 in
theorem to_any (c : Pc) (p : Pr) (N : Nat) (w : World) (hN : N ≤ w.heap.size) (h : PAt w N c p) : Calls Tryd.prog 26 #[.agg c.cells] w fun e w' => Ext w w' ∧ ∃ c' : Pc, e = .returned (.agg c'.cells) ∧ PAt w' w'.heap.size c' p := by
  have hx0 := (Kept.refl (fun _ => False) w).alloc (.cells c.cells 52)
  have hB := Blk.new w 52 c.cells
  have hP := Lib.hid (h.ext hx0 hN)
  have hNa := Nat.le_trans hN hx0.size
  clear h
  go_enter Tryd.func26, Tryd.ntmps26
  go_upto_region 1 with (fail)
  have hR := Blk.new (w.alloc (.cells c.cells 52)) 26 #[.string ⟨#[]⟩, .int .i64 0, .slice none 0 0, .slice none 0 0, .slice none 0 0, .slice none 0 0, .slice none 0 0, .slice none 0 0, .string ⟨#[]⟩, .slice none 0 0, .slice none 0 0]
  have hR' : Blk ((w.alloc (.cells c.cells 52)).alloc (.cells #[.string ⟨#[]⟩, .int .i64 0, .slice none 0 0, .slice none 0 0, .slice none 0 0, .slice none 0 0, .slice none 0 0, .slice none 0 0, .string ⟨#[]⟩, .slice none 0 0, .slice none 0 0] 26)) (w.heap.size + 1) 26 #[.string ⟨#[]⟩, .int .i64 0, .slice none 0 0, .slice none 0 0, .slice none 0 0, .slice none 0 0, .slice none 0 0, .slice none 0 0, .string ⟨#[]⟩, .slice none 0 0, .slice none 0 0] := by simpa using hR
  have hx1 := hx0.alloc (.cells #[.string ⟨#[]⟩, .int .i64 0, .slice none 0 0, .slice none 0 0, .slice none 0 0, .slice none 0 0, .slice none 0 0, .slice none 0 0, .string ⟨#[]⟩, .slice none 0 0, .slice none 0 0] 26)
  have hxq := (Kept.refl (fun _ => False) (w.alloc (.cells c.cells 52))).alloc (.cells #[.string ⟨#[]⟩, .int .i64 0, .slice none 0 0, .slice none 0 0, .slice none 0 0, .slice none 0 0, .slice none 0 0, .slice none 0 0, .string ⟨#[]⟩, .slice none 0 0, .slice none 0 0] 26)
  have hP1 := Lib.hid (hP.out.ext hxq hNa)
  have hB1 := Blk.ext hB hxq
  have hNb := Nat.le_trans hNa hxq.size
  generalize hW : ((w.alloc (.cells c.cells 52)).alloc (.cells #[.string ⟨#[]⟩, .int .i64 0, .slice none 0 0, .slice none 0 0, .slice none 0 0, .slice none 0 0, .slice none 0 0, .slice none 0 0, .string ⟨#[]⟩, .slice none 0 0, .slice none 0 0] 26)) = W at hx1 hB1 hP1 hNb hR' ⊢
  clear hW hx0 hB hP hNa hR hxq
  have HRB := Lib.hid (show ¬ w.heap.size = w.heap.size + 1 by omega)
  generalize hrb : w.heap.size + 1 = rb at hR' HRB ⊢
  generalize hpb : w.heap.size = pb at hB1 HRB hrb ⊢
  have HX1 := Lib.hid hx1
  have HRW := Lib.hid (show w.heap.size ≤ rb by omega)
  clear hx1 hpb hrb
  have hC := Lib.hid hB1
  have hD := Lib.hid hR'
  clear hB1 hR'
  refine wp_region_3 (fun w1 => Kept (· = rb) W w1) [(0, 2), (1, 1), (2, 2), (3, 1), (4, 2), (5, 1), (6, 2), (7, 1), (9, 2), (10, 1), (12, 2), (13, 1), (15, 2), (16, 1), (18, 2), (19, 1), (21, 2), (22, 1), (23, 2), (24, 1), (26, 2), (27, 1), (8, 0), (11, 0), (14, 0), (17, 0), (20, 0), (25, 0), (28, 0), (29, 2), (30, 0)] (by kernel_rfl) (by kernel_rfl) (by kernel_rfl) (by kernel_rfl) ?_; intro l' hl'; simp only [List.map_cons, List.map_nil, List.getD_cons_zero, List.getD_cons_succ] at hl'; subst hl'
  have HY0 := Lib.hid (show Ext W W.drew from (Kept.refl _ W).drew)
  (repeat (first | ((apply w3_pure); (· go_simp); (· (intro w1; go_simp; try with_reducible rfl)); (intro K hK; go_simp; refine hK _ _ ?_; clear hK K)) | ((apply w3_skip); (· go_simp); (intro K hK; go_simp; refine hK _ _ ?_; clear hK K)) | ((apply w3_take); (· exact (Kept.ext HY0.out)); (· go_simp); (· (intro w1 hS; have d0 := Blk.kept hC.out hS HRB.out; have d1 := Blk.cell d0; have d2 := d0.lt;  go_simp; try with_reducible rfl)); (intro K hK; go_simp; refine hK _ _ ?_; clear hK K)) | ((apply w3_pass); (· exact (Kept.ext HY0.out)); (· go_simp); (intro K hK; go_simp; refine hK _ _ ?_; clear hK K))))
  (refine w3_act (fun K hK => ?_); go_simp)
  refine (tovars_any p.vars _ _ _ N _ (Nat.le_trans hNb HY0.out.size) (hP1.out.vars.ext HY0.out)).mono ?_
  rintro e w1 ⟨hx1, A1, c1, rfl, hk1⟩
  have HZ1 := Lib.hid hx1
  have HY1 := Lib.hid (HY0.out.trans hx1)
  have HK1 := Lib.hid hk1
  clear hx1 hk1
  refine hK.out _ _ (fun _ => Kept.ext HY1.out) ?_
  clear hK K
  (repeat (first | ((apply w3_pure); (· go_simp); (· (intro w1; go_simp; try with_reducible rfl)); (intro K hK; go_simp; refine hK _ _ ?_; clear hK K)) | ((apply w3_skip); (· go_simp); (intro K hK; go_simp; refine hK _ _ ?_; clear hK K))))
  (repeat (first | ((apply w3_pure); (· go_simp); (· (intro w1; go_simp; try with_reducible rfl)); (intro K hK; go_simp; refine hK _ _ ?_; clear hK K)) | ((apply w3_skip); (· go_simp); (intro K hK; go_simp; refine hK _ _ ?_; clear hK K)) | ((apply w3_take); (· exact (Kept.ext HY1.out)); (· go_simp); (· (intro w1 hS; have d0 := Blk.kept hC.out hS HRB.out; have d1 := Blk.cell d0; have d2 := d0.lt;  go_simp; try with_reducible rfl)); (intro K hK; go_simp; refine hK _ _ ?_; clear hK K)) | ((apply w3_pass); (· exact (Kept.ext HY1.out)); (· go_simp); (intro K hK; go_simp; refine hK _ _ ?_; clear hK K))))
  (refine w3_act (fun K hK => ?_); go_simp)
  refine (tostmts_any _ p.start _ _ _ N _ (Kept.refl _ _) (Nat.le_trans hNb HY1.out.size) (hP1.out.start.ext HY1.out hNb)).mono ?_
  rintro e w2 ⟨hx1, A2, c2, rfl, hk1⟩
  have HZ2 := Lib.hid hx1
  have HY2 := Lib.hid (HY1.out.trans hx1)
  have HK2 := Lib.hid hk1
  clear hx1 hk1
  refine hK.out _ _ (fun _ => Kept.ext HY2.out) ?_
  clear hK K
  (repeat (first | ((apply w3_pure); (· go_simp); (· (intro w1; go_simp; try with_reducible rfl)); (intro K hK; go_simp; refine hK _ _ ?_; clear hK K)) | ((apply w3_skip); (· go_simp); (intro K hK; go_simp; refine hK _ _ ?_; clear hK K))))
  (repeat (first | ((apply w3_pure); (· go_simp); (· (intro w1; go_simp; try with_reducible rfl)); (intro K hK; go_simp; refine hK _ _ ?_; clear hK K)) | ((apply w3_skip); (· go_simp); (intro K hK; go_simp; refine hK _ _ ?_; clear hK K)) | ((apply w3_take); (· exact (Kept.ext HY2.out)); (· go_simp); (· (intro w1 hS; have d0 := Blk.kept hC.out hS HRB.out; have d1 := Blk.cell d0; have d2 := d0.lt;  go_simp; try with_reducible rfl)); (intro K hK; go_simp; refine hK _ _ ?_; clear hK K)) | ((apply w3_pass); (· exact (Kept.ext HY2.out)); (· go_simp); (intro K hK; go_simp; refine hK _ _ ?_; clear hK K))))
  (refine w3_act (fun K hK => ?_); go_simp)
  refine (tostmts_any _ p.turn _ _ _ N _ (Kept.refl _ _) (Nat.le_trans hNb HY2.out.size) (hP1.out.turn.ext HY2.out hNb)).mono ?_
  rintro e w3 ⟨hx1, A3, c3, rfl, hk1⟩
  have HZ3 := Lib.hid hx1
  have HY3 := Lib.hid (HY2.out.trans hx1)
  have HK3 := Lib.hid hk1
  clear hx1 hk1
  refine hK.out _ _ (fun _ => Kept.ext HY3.out) ?_
  clear hK K
  (repeat (first | ((apply w3_pure); (· go_simp); (· (intro w1; go_simp; try with_reducible rfl)); (intro K hK; go_simp; refine hK _ _ ?_; clear hK K)) | ((apply w3_skip); (· go_simp); (intro K hK; go_simp; refine hK _ _ ?_; clear hK K))))
  (repeat (first | ((apply w3_pure); (· go_simp); (· (intro w1; go_simp; try with_reducible rfl)); (intro K hK; go_simp; refine hK _ _ ?_; clear hK K)) | ((apply w3_skip); (· go_simp); (intro K hK; go_simp; refine hK _ _ ?_; clear hK K)) | ((apply w3_take); (· exact (Kept.ext HY3.out)); (· go_simp); (· (intro w1 hS; have d0 := Blk.kept hC.out hS HRB.out; have d1 := Blk.cell d0; have d2 := d0.lt;  go_simp; try with_reducible rfl)); (intro K hK; go_simp; refine hK _ _ ?_; clear hK K)) | ((apply w3_pass); (· exact (Kept.ext HY3.out)); (· go_simp); (intro K hK; go_simp; refine hK _ _ ?_; clear hK K))))
  (refine w3_act (fun K hK => ?_); go_simp)
  refine (tovars_any p.params _ _ _ N _ (Nat.le_trans hNb HY3.out.size) (hP1.out.params.ext HY3.out)).mono ?_
  rintro e w4 ⟨hx1, A4, c4, rfl, hk1⟩
  have HZ4 := Lib.hid hx1
  have HY4 := Lib.hid (HY3.out.trans hx1)
  have HK4 := Lib.hid hk1
  clear hx1 hk1
  refine hK.out _ _ (fun _ => Kept.ext HY4.out) ?_
  clear hK K
  (repeat (first | ((apply w3_pure); (· go_simp); (· (intro w1; go_simp; try with_reducible rfl)); (intro K hK; go_simp; refine hK _ _ ?_; clear hK K)) | ((apply w3_skip); (· go_simp); (intro K hK; go_simp; refine hK _ _ ?_; clear hK K))))
  (repeat (first | ((apply w3_pure); (· go_simp); (· (intro w1; go_simp; try with_reducible rfl)); (intro K hK; go_simp; refine hK _ _ ?_; clear hK K)) | ((apply w3_skip); (· go_simp); (intro K hK; go_simp; refine hK _ _ ?_; clear hK K)) | ((apply w3_take); (· exact (Kept.ext HY4.out)); (· go_simp); (· (intro w1 hS; have d0 := Blk.kept hC.out hS HRB.out; have d1 := Blk.cell d0; have d2 := d0.lt;  go_simp; try with_reducible rfl)); (intro K hK; go_simp; refine hK _ _ ?_; clear hK K)) | ((apply w3_pass); (· exact (Kept.ext HY4.out)); (· go_simp); (intro K hK; go_simp; refine hK _ _ ?_; clear hK K))))
  (refine w3_act (fun K hK => ?_); go_simp)
  refine (tostmts_any _ p.play _ _ _ N _ (Kept.refl _ _) (Nat.le_trans hNb HY4.out.size) (hP1.out.play.ext HY4.out hNb)).mono ?_
  rintro e w5 ⟨hx1, A5, c5, rfl, hk1⟩
  have HZ5 := Lib.hid hx1
  have HY5 := Lib.hid (HY4.out.trans hx1)
  have HK5 := Lib.hid hk1
  clear hx1 hk1
  refine hK.out _ _ (fun _ => Kept.ext HY5.out) ?_
  clear hK K
  (repeat (first | ((apply w3_pure); (· go_simp); (· (intro w1; go_simp; try with_reducible rfl)); (intro K hK; go_simp; refine hK _ _ ?_; clear hK K)) | ((apply w3_skip); (· go_simp); (intro K hK; go_simp; refine hK _ _ ?_; clear hK K))))
  (repeat (first | ((apply w3_pure); (· go_simp); (· (intro w1; go_simp; try with_reducible rfl)); (intro K hK; go_simp; refine hK _ _ ?_; clear hK K)) | ((apply w3_skip); (· go_simp); (intro K hK; go_simp; refine hK _ _ ?_; clear hK K)) | ((apply w3_take); (· exact (Kept.ext HY5.out)); (· go_simp); (· (intro w1 hS; have d0 := Blk.kept hC.out hS HRB.out; have d1 := Blk.cell d0; have d2 := d0.lt;  go_simp; try with_reducible rfl)); (intro K hK; go_simp; refine hK _ _ ?_; clear hK K)) | ((apply w3_pass); (· exact (Kept.ext HY5.out)); (· go_simp); (intro K hK; go_simp; refine hK _ _ ?_; clear hK K))))
  (refine w3_act (fun K hK => ?_); go_simp)
  refine (tostmts_any _ p.quiet _ _ _ N _ (Kept.refl _ _) (Nat.le_trans hNb HY5.out.size) (hP1.out.quiet.ext HY5.out hNb)).mono ?_
  rintro e w6 ⟨hx1, A6, c6, rfl, hk1⟩
  have HZ6 := Lib.hid hx1
  have HY6 := Lib.hid (HY5.out.trans hx1)
  have HK6 := Lib.hid hk1
  clear hx1 hk1
  refine hK.out _ _ (fun _ => Kept.ext HY6.out) ?_
  clear hK K
  (repeat (first | ((apply w3_pure); (· go_simp); (· (intro w1; go_simp; try with_reducible rfl)); (intro K hK; go_simp; refine hK _ _ ?_; clear hK K)) | ((apply w3_skip); (· go_simp); (intro K hK; go_simp; refine hK _ _ ?_; clear hK K))))
  (repeat (first | ((apply w3_pure); (· go_simp); (· (intro w1; go_simp; try with_reducible rfl)); (intro K hK; go_simp; refine hK _ _ ?_; clear hK K)) | ((apply w3_skip); (· go_simp); (intro K hK; go_simp; refine hK _ _ ?_; clear hK K)) | ((apply w3_take); (· exact (Kept.ext HY6.out)); (· go_simp); (· (intro w1 hS; have d0 := Blk.kept hC.out hS HRB.out; have d1 := Blk.cell d0; have d2 := d0.lt;  go_simp; try with_reducible rfl)); (intro K hK; go_simp; refine hK _ _ ?_; clear hK K)) | ((apply w3_pass); (· exact (Kept.ext HY6.out)); (· go_simp); (intro K hK; go_simp; refine hK _ _ ?_; clear hK K))))
  (refine w3_act (fun K hK => ?_); go_simp)
  refine (tostmts_any _ p.pays _ _ _ N _ (Kept.refl _ _) (Nat.le_trans hNb HY6.out.size) (hP1.out.pays.ext HY6.out hNb)).mono ?_
  rintro e w7 ⟨hx1, A7, c7, rfl, hk1⟩
  have HZ7 := Lib.hid hx1
  have HY7 := Lib.hid (HY6.out.trans hx1)
  have HK7 := Lib.hid hk1
  clear hx1 hk1
  refine hK.out _ _ (fun _ => Kept.ext HY7.out) ?_
  clear hK K
  (repeat (first | ((apply w3_pure); (· go_simp); (· (intro w1; go_simp; try with_reducible rfl)); (intro K hK; go_simp; refine hK _ _ ?_; clear hK K)) | ((apply w3_skip); (· go_simp); (intro K hK; go_simp; refine hK _ _ ?_; clear hK K))))
  have hDr := Blk.ext hD.out HY7.out
  have hm := Blk.melts hDr
  have hh := Blk.has hDr
  (refine w3_act (fun K hK => ?_); go_simp)
  refine hK.out _ _ (fun _ => Kept.putAt (Kept.ext HY7.out) _ _ _ (fun _ => rfl)) ?_
  clear hK K
  (repeat (first | ((apply w3_pure); (· go_simp); (· (intro w1; go_simp; try with_reducible rfl)); (intro K hK; go_simp; refine hK _ _ ?_; clear hK K)) | ((apply w3_skip); (· go_simp); (intro K hK; go_simp; refine hK _ _ ?_; clear hK K)) | (refine w3_end (by kernel_rfl) (fun K hK => ?_); go_simp; refine hK.out _ _ ?_; clear hK K))); refine w3_nil ?_
  go_wp2_with fail
  refine ret_cell Tryd.results26 rfl rfl aggProgR (by exact sizeProgR) (Blk.put_ hDr _ _) ?_
  refine ⟨(HX1.out.trans HY7.out).putAt _ _ _ (fun hlt => absurd hlt (by have := HRW.out; omega)), ⟨c.name, c.seats, c.stakes, ⟨A1, c.vars.n, c1⟩, ⟨A2, c.start.n, c2⟩, ⟨A3, c.turn.n, c3⟩, ⟨A4, c.params.n, c4⟩, ⟨A5, c.play.n, c5⟩, c.silent, ⟨A6, c.quiet.n, c6⟩, ⟨A7, c.pays.n, c7⟩⟩, rfl, ?_⟩
  have hkp : Kept (· = rb) w7 (putAt w7 rb 0 #[.string c.name, .int .i64 c.seats, c.stakes.v, .slice A1 c.vars.n c1, .slice A2 c.start.n c2, .slice A3 c.turn.n c3, .slice A4 c.params.n c4, .slice A5 c.play.n c5, .string c.silent, .slice A6 c.quiet.n c6, .slice A7 c.pays.n c7]) := Kept.putAt (Kept.refl _ _) _ _ _ (fun _ => rfl)
  have hws := hkp.size
  have E6 := HZ7.out
  have E5 := HZ6.out.trans E6
  have E4 := HZ5.out.trans E5
  have E3 := HZ4.out.trans E4
  have E2 := HZ3.out.trans E3
  have E1 := HZ2.out.trans E2
  have k0 := HY0.out.size
  have k1 := HY1.out.size
  have k2 := HY2.out.size
  have k3 := HY3.out.size
  have k4 := HY4.out.size
  have k5 := HY5.out.size
  have k6 := HY6.out.size
  have k7 := HY7.out.size
  have s1 := E1.size
  have s2 := E2.size
  have s3 := E3.size
  have s4 := E4.size
  have s5 := E5.size
  have s6 := E6.size
  have hrb := hD.out.lt
  have hNr : N ≤ rb := Nat.le_trans hN HRW.out
  refine ⟨hP1.out.name, hP1.out.nameOk, hP1.out.seats, hP1.out.seatsOk, ((hP1.out.stakes.ext HY7.out).kept hkp (fun i e => by omega)).mono (by omega), ?_, ?_, ?_, ?_, ?_, hP1.out.silent, hP1.out.silentOk, ?_, ?_⟩
  · exact ((HK1.out.ext E1).kept hkp (fun i hi e => by omega)).at_ (fun i hi => by omega)
  · exact ((HK2.out.kept E2 (fun i hi => ⟨hi.2, fun f => f⟩)).kept hkp (fun i hi => ⟨by omega, by omega⟩)).at_ (fun i hi => by omega)
  · exact ((HK3.out.kept E3 (fun i hi => ⟨hi.2, fun f => f⟩)).kept hkp (fun i hi => ⟨by omega, by omega⟩)).at_ (fun i hi => by omega)
  · exact ((HK4.out.ext E4).kept hkp (fun i hi e => by omega)).at_ (fun i hi => by omega)
  · exact ((HK5.out.kept E5 (fun i hi => ⟨hi.2, fun f => f⟩)).kept hkp (fun i hi => ⟨by omega, by omega⟩)).at_ (fun i hi => by omega)
  · exact ((HK6.out.kept E6 (fun i hi => ⟨hi.2, fun f => f⟩)).kept hkp (fun i hi => ⟨by omega, by omega⟩)).at_ (fun i hi => by omega)
  · exact (HK7.out.kept hkp (fun i hi => ⟨hi.2, by omega⟩)).at_ (fun i hi => by omega)
end Go.Proofs.YtfamkemdgbnegaaDoor

/- Sorts: what is found among variables by its name. -/
namespace Go.Proofs.YtfamkemdgbnegaaDoor
open Go.RowKit So
attribute [go_sem] Sl3.v
set_option maxRecDepth 100000 in
set_option maxHeartbeats 1000000 in
theorem find_any (l : List Vr) (s : Str) (A : Option Addr) (n c N : Nat) (w : World) (h : VSl w N A n l) : Calls Tryd.prog 74 #[.slice A n c, .string s] w fun e w' => e = .returned (.bool (l.any (fun v => decide (v.name = s)))) ∧ w = w' := by
  obtain ⟨hn, hf, hok, b, off, hA, hE⟩ := h
  have hm := hf.max (by omega)
  have HN := Lib.hid hn
  have HA := Lib.hid hA
  have HE := Lib.hid hE
  clear hn hA hE hok hf
  go_enter Tryd.func74, Tryd.ntmps74
  go_wp2_with fail
  go_loopw [5] (fun t5 wr => ∃ (j : Nat), j ≤ n ∧ t5 = .int .i64 j ∧ (∀ v ∈ l.take j, ¬ v.name = s) ∧ w = wr) (fun t5 _ => n - (intOf t5).toNat)
  case atStart => exact ⟨0, Nat.zero_le _, rfl, by simp, rfl⟩
  case round =>
    obtain ⟨j, hj, rfl, hno, hw⟩ := hrel
    subst hw
    have HNO := Lib.hid hno
    clear hno
    by_cases hlt : j < n
    · have hjl : j < l.length := by have := HN.out; omega
      have hltI : (j : Int) < n := by omega
      obtain rfl := HA.out (by omega)
      have hrow := (HE.out (by omega)).2
      obtain ⟨hh', hg'⟩ := vr_at hrow j hjl
      have hc := cell_gets0 hh' hg' (by omega)
      obtain ⟨x, hxe⟩ : ∃ x, x = l[j] := ⟨_, rfl⟩
      rw [← hxe] at hc
      have HX := Lib.hid hxe
      clear hrow hxe hh' hg'
      by_cases hq : x.name = s
      · have hb := str_same hq
        have HQ := Lib.hid hq
        clear hq
        go_wp2_with fail
        go_ret
        refine ⟨ret_bool ?_, rfl⟩
        rw [eq_comm, List.any_eq_true]
        exact ⟨x, by rw [HX.out]; exact List.getElem_mem hjl, decide_eq_true HQ.out⟩
      · have hb := str_other hq
        have HQ := Lib.hid hq
        clear hq
        go_wp2_with fail
        go_roundw
        case rel => exact ⟨j + 1, hlt, by go_num, by
          intro v hv
          rw [List.take_add_one, List.getElem?_eq_getElem hjl, ← HX.out] at hv
          simp only [Option.toList_some, List.mem_append, List.mem_singleton] at hv
          rcases hv with hv | rfl
          · exact HNO.out v hv
          · exact HQ.out, by trivial⟩
        case measure => simp only [intOf]; omega
    · obtain rfl : j = n := by omega
      go_wp2_with fail
      go_ret
      refine ⟨ret_bool ?_, rfl⟩
      rw [eq_comm, List.any_eq_false]
      intro v hv
      have := HNO.out v (by rw [HN.out, List.take_length]; exact hv)
      simpa using this
theorem cells_app : ∀ a b : List Vr, cells (a ++ b) = cells a + cells b
  | [], b => by simp [cells]
  | v :: a, b => by simp [cells, cells_app a b]; omega
theorem cellsV_bd (v : Vr) : 1 ≤ So.cellsV v ∧ So.cellsV v ≤ 64 := by unfold So.cellsV; split <;> omega
theorem cells_bd : ∀ l : List Vr, 0 ≤ cells l ∧ cells l ≤ 64 * l.length
  | [] => by simp [cells]
  | v :: l => by
    have := cells_bd l
    have := cellsV_bd v
    simp only [cells, List.length_cons]
    omega
theorem cells_take {l : List Vr} {j : Nat} (h : j < l.length) : cells (l.take (j + 1)) = cells (l.take j) + So.cellsV l[j] := by
  rw [List.take_add_one, List.getElem?_eq_getElem h, cells_app]
  simp [cells]
theorem w64_cells {l : List Vr} (h : l.length ≤ 17592186044416) : w64 (cells l) = cells l := by
  have := cells_bd l
  simp only [w64_def]
  omega
def cellN (l : List Vr) (s : Str) : Int := if l.any (fun v => decide (v.name = s)) = true then cells (l.takeWhile (fun v => !decide (v.name = s))) else 0
def cellX (l : List Vr) (s : Str) : Vr := (l.find? (fun v => decide (v.name = s))).getD ⟨E0, 0, 0, 0⟩
theorem tw_mid {α : Type} (p : α → Bool) (b : List α) : ∀ (a : List α) (x : α) (_ : ∀ v ∈ a, p v = false) (_ : p x = true), (a ++ x :: b).takeWhile (fun v => !p v) = a ∧ (a ++ x :: b).find? p = some x
  | [], x, _, hx => by simp [hx]
  | y :: a, x, h, hx => by
    have hy := h y (by simp)
    obtain ⟨h1, h2⟩ := tw_mid p b a x (fun v hv => h v (by simp [hv])) hx
    exact ⟨by simp [hy, h1], by simp [hy, h2]⟩
theorem cell_at : ∀ {l : List Vr} {j : Nat} {s : Str} (_ : ∀ v ∈ l.take j, ¬ v.name = s) (hj : j < l.length) (_ : l[j].name = s), cellN l s = cells (l.take j) ∧ cellX l s = l[j] ∧ l.any (fun v => decide (v.name = s)) = true := by
  intro l j s h hj hq
  have hsp : l = l.take j ++ l[j] :: l.drop (j + 1) := by rw [← List.drop_eq_getElem_cons hj, List.take_append_drop]
  have hany : l.any (fun v => decide (v.name = s)) = true := by
    rw [List.any_eq_true]; exact ⟨l[j], List.getElem_mem hj, decide_eq_true hq⟩
  have htw : l.takeWhile (fun v => !decide (v.name = s)) = l.take j := by
    have := tw_mid (fun v : Vr => decide (v.name = s)) (l.drop (j + 1)) (l.take j) l[j] (fun v hv => by simpa using h v hv) (by simpa using hq)
    rw [← hsp] at this
    exact this.1
  have hfd : l.find? (fun v => decide (v.name = s)) = some l[j] := by
    have := tw_mid (fun v : Vr => decide (v.name = s)) (l.drop (j + 1)) (l.take j) l[j] (fun v hv => by simpa using h v hv) (by simpa using hq)
    rw [← hsp] at this
    exact this.2
  exact ⟨by unfold cellN; rw [if_pos hany, htw], by unfold cellX; rw [hfd]; rfl, hany⟩
theorem cell_no {l : List Vr} {s : Str} (h : ∀ v ∈ l, ¬ v.name = s) : cellN l s = 0 ∧ cellX l s = ⟨E0, 0, 0, 0⟩ ∧ l.any (fun v => decide (v.name = s)) = false := by
  have hany : l.any (fun v => decide (v.name = s)) = false := by
    rw [List.any_eq_false]; intro v hv; simpa using h v hv
  refine ⟨by unfold cellN; rw [hany]; rfl, ?_, hany⟩
  unfold cellX
  rw [List.find?_eq_none.2 (fun v hv => by simpa using h v hv)]
  rfl
theorem knV_cell (l : List Vr) (s : Str) : knV l s = if l.any (fun v => decide (v.name = s)) = true then (if 0 < (cellX l s).size then 2 else 1) else 0 := by
  unfold knV cellX
  cases hf : l.find? (fun v => decide (v.name = s)) with
  | none =>
    have : l.any (fun v => decide (v.name = s)) = false := by
      rw [List.any_eq_false]; intro v hv; exact List.find?_eq_none.1 hf v hv
    rw [this]; rfl
  | some v =>
    have : l.any (fun v => decide (v.name = s)) = true := by
      rw [List.any_eq_true]; exact ⟨v, List.mem_of_find?_eq_some hf, List.find?_some (p := fun v : Vr => decide (v.name = s)) hf⟩
    rw [if_pos this]; rfl
theorem no_next {l : List Vr} {j : Nat} {s : Str} (h : ∀ v ∈ l.take j, ¬ v.name = s) (hj : j < l.length) (hq : ¬ l[j].name = s) : ∀ v ∈ l.take (j + 1), ¬ v.name = s := by
  intro v hv
  rw [List.take_add_one, List.getElem?_eq_getElem hj] at hv
  simp only [Option.toList_some, List.mem_append, List.mem_singleton] at hv
  rcases hv with hv | rfl
  · exact h v hv
  · exact hq
set_option maxRecDepth 100000 in
set_option maxHeartbeats 1000000 in
theorem scells_any (c : Pc) (p : Pr) (N : Nat) (w : World) (_hN : N ≤ w.heap.size) (h : PAt w N c p) : Calls Tryd.prog 20 #[.agg c.cells] w fun e w' => e = .returned (.int .i64 (cells p.vars)) ∧ Ext w w' := by
  obtain ⟨cn, cse, cst, ⟨A, n, cc⟩, cs, ct, cpa, cpl, csi, cq, cpy⟩ := c
  have hx0 := (Kept.refl (fun _ => False) w).alloc (.cells (Pc.cells ⟨cn, cse, cst, ⟨A, n, cc⟩, cs, ct, cpa, cpl, csi, cq, cpy⟩) 52)
  obtain ⟨hn, hf, hok, b, off, hA, hE⟩ := h.vars.ext hx0
  have hm := hf.max (by omega)
  have HN := Lib.hid hn
  have HA := Lib.hid hA
  have HE := Lib.hid hE
  have HX0 := Lib.hid hx0
  clear hn hA hE hok hf h
  go_enter Tryd.func20, Tryd.ntmps20
  go_wp2_with fail
  go_loopw [3, 9] (fun t3 t9 wr => ∃ (j : Nat), j ≤ n ∧ t9 = .int .i64 j ∧ t3 = .int .i64 (w64 (cells (p.vars.take j))) ∧ Ext (w.alloc (.cells (Pc.cells ⟨cn, cse, cst, ⟨A, n, cc⟩, cs, ct, cpa, cpl, csi, cq, cpy⟩) 52)) wr) (fun _ t9 _ => n - (intOf t9).toNat)
  case atStart => exact ⟨0, Nat.zero_le _, rfl, by simp [cells, w64_def], Kept.refl _ _⟩
  case round =>
    obtain ⟨j, hj, rfl, rfl, hx⟩ := hrel
    have HX := Lib.hid hx
    clear hx
    by_cases hlt : j < n
    · have hjl : j < p.vars.length := by have := HN.out; omega
      have hltI : (j : Int) < n := by omega
      obtain rfl := HA.out (by omega)
      have hrow := (HE.out (by omega)).2.ext HX.out
      obtain ⟨hh', hg'⟩ := vr_at hrow j hjl
      have hbw := hrow.lt
      obtain ⟨x, hxe⟩ : ∃ x, x = p.vars[j] := ⟨_, rfl⟩
      rw [← hxe] at hg'
      have HXE := Lib.hid hxe
      clear hrow hxe
      have y0 : Ext wr _ := (Kept.refl (fun _ => False) wr).alloc (.cells (vcells x) 54)
      go_wp2_with fail
      refine (size_any x _).mono ?_
      rintro e w1 ⟨rfl, hx1⟩
      go_wp2_with fail
      go_roundw
      case rel => exact ⟨j + 1, hlt, by go_num, by rw [cells_take hjl, ← HXE.out]; simp only [w64_w64], HX.out.trans (y0.trans hx1)⟩
      case measure => simp only [intOf]; omega
    · obtain rfl : j = n := by omega
      go_wp2_with fail
      go_ret
      refine ⟨ret_int ?_, HX0.out.trans HX.out⟩
      rw [HN.out, List.take_length, w64_cells (by have := HN.out; omega)]
set_option maxRecDepth 100000 in
set_option maxHeartbeats 1000000 in
theorem rcells_any (c : Pc) (p : Pr) (N : Nat) (w : World) (_hN : N ≤ w.heap.size) (h : PAt w N c p) : Calls Tryd.prog 21 #[.agg c.cells] w fun e w' => e = .returned (.int .i64 (cells p.vars)) ∧ Ext w w' := by
  obtain ⟨cn, cse, cst, ⟨A, n, cc⟩, cs, ct, cpa, cpl, csi, cq, cpy⟩ := c
  have hx0 := (Kept.refl (fun _ => False) w).alloc (.cells (Pc.cells ⟨cn, cse, cst, ⟨A, n, cc⟩, cs, ct, cpa, cpl, csi, cq, cpy⟩) 26)
  have hB := Blk.new w 26 (Pc.cells ⟨cn, cse, cst, ⟨A, n, cc⟩, cs, ct, cpa, cpl, csi, cq, cpy⟩)
  obtain ⟨hn, hf, hok, b, off, hA, hE⟩ := h.vars.ext hx0
  have hm := hf.max (by omega)
  have HN := Lib.hid hn
  have HA := Lib.hid hA
  have HE := Lib.hid hE
  clear hn hA hE hok hf h
  go_enter Tryd.func21, Tryd.ntmps21
  go_upto_region 1 with (fail)
  generalize hW : (w.alloc (.cells (Pc.cells ⟨cn, cse, cst, ⟨A, n, cc⟩, cs, ct, cpa, cpl, csi, cq, cpy⟩) 26)) = W at hx0 hB HE ⊢
  clear hW
  generalize w.heap.size = pb at hB ⊢
  have hC := Lib.hid hB
  have HX0 := Lib.hid hx0
  clear hB hx0
  go_wp2_with fail
  go_loopw [3, 4] (fun t3 t4 wr => ∃ (j : Nat), j ≤ n ∧ t4 = .int .i64 j ∧ t3 = .int .i64 (w64 (cells (p.vars.take j))) ∧ Ext W wr) (fun _ t4 _ => n - (intOf t4).toNat)
  case atStart => exact ⟨0, Nat.zero_le _, rfl, by simp [cells, w64_def], Kept.refl _ _⟩
  case round =>
    obtain ⟨j, hj, rfl, rfl, hx⟩ := hrel
    have HX := Lib.hid hx
    have hcr := Blk.cell (Blk.ext hC.out hx)
    have hlr := (Blk.ext hC.out hx).lt
    clear hx
    by_cases hlt : j < n
    · have hjl : j < p.vars.length := by have := HN.out; omega
      have hltI : (j : Int) < n := by omega
      obtain rfl := HA.out (by omega)
      have hrow := (HE.out (by omega)).2.ext HX.out
      obtain ⟨hh', hg'⟩ := vr_at hrow j hjl
      have hbw := hrow.lt
      obtain ⟨x, hxe⟩ : ∃ x, x = p.vars[j] := ⟨_, rfl⟩
      rw [← hxe] at hg'
      have HXE := Lib.hid hxe
      clear hrow hxe
      go_wp2_with fail
      refine (cells_any x _).mono ?_
      rintro e w1 ⟨rfl, hx1⟩
      go_wp2_with fail
      go_roundw
      case rel => exact ⟨j + 1, hlt, by go_num, by rw [cells_take hjl, ← HXE.out]; simp only [w64_w64], HX.out.trans hx1⟩
      case measure => simp only [intOf]; omega
    · obtain rfl : j = n := by omega
      go_wp2_with fail
      go_ret
      refine ⟨ret_int ?_, HX0.out.trans HX.out⟩
      rw [HN.out, List.take_length, w64_cells (by have := HN.out; omega)]
end Go.Proofs.YtfamkemdgbnegaaDoor

/- Sorts: a variable's cells. -/
namespace Go.Proofs.YtfamkemdgbnegaaDoor
open Go.RowKit So
theorem ret_ici {P : Program} {fn : Func} {R : Ending → World → Prop} {a : Act} {w : World} {i p k : Tmp} {ty t : TypeId} {g : Nat} {cs : Array Value}
    (hres : fn.results = #[.tmp i, .cell p ty, .tmp k]) (hd : a.defers = []) (hp : a.tmps.getD p undef = .pointer (some ⟨g, 0, none⟩)) (ha : aggT P ty = true) (hs : sizeT P ty = some cs.size) (hb : Blk w g t cs)
    (hR : R (.returned (.tuple #[a.tmps.getD i undef, .agg cs, a.tmps.getD k undef])) w) : bodyPost P fn R .ret a w := by
  have hp' : a.tmps[p]?.getD undef = .pointer (some ⟨g, 0, none⟩) := by simpa using hp
  exact bodyPost_ret (by simp [results, hres, hp', asAddr, run_loadVar_blk ha hs hb]) hd hR
abbrev cellRes (l : List Vr) (s : Str) : Ending := .returned (.tuple #[.int .i64 (cellN l s), .agg (vcells (cellX l s)), .bool (l.any (fun v => decide (v.name = s)))])
set_option maxRecDepth 100000 in
set_option maxHeartbeats 2000000 in
theorem scell_any (c : Pc) (p : Pr) (s : Str) (N : Nat) (w : World) (_hN : N ≤ w.heap.size) (h : PAt w N c p) : Calls Tryd.prog 19 #[.agg c.cells, .string s] w fun e w' => e = cellRes p.vars s ∧ Ext w w' := by
  obtain ⟨cn, cse, cst, ⟨A, n, cc⟩, cs, ct, cpa, cpl, csi, cq, cpy⟩ := c
  have hx0 := ((Kept.refl (fun _ => False) w).alloc (.cells (Pc.cells ⟨cn, cse, cst, ⟨A, n, cc⟩, cs, ct, cpa, cpl, csi, cq, cpy⟩) 52)).alloc (.cells #[.string ⟨#[]⟩, .int .i64 0, .int .i64 0, .int .i64 0] 54)
  have hR := Blk.new' (w.alloc (.cells (Pc.cells ⟨cn, cse, cst, ⟨A, n, cc⟩, cs, ct, cpa, cpl, csi, cq, cpy⟩) 52)) 54 #[.string ⟨#[]⟩, .int .i64 0, .int .i64 0, .int .i64 0] (w.heap.size + 1) (by simp)
  obtain ⟨hn, hf, hok, b, off, hA, hE⟩ := h.vars.ext hx0
  have hm := hf.max (by omega)
  have HN := Lib.hid hn
  have HA := Lib.hid hA
  have HE := Lib.hid hE
  clear hn hA hE hok hf h
  go_enter Tryd.func19, Tryd.ntmps19
  go_upto_region 3 with (fail)
  have HRW := Lib.hid (show w.heap.size ≤ w.heap.size + 1 by omega)
  generalize hW : ((w.alloc (.cells (Pc.cells ⟨cn, cse, cst, ⟨A, n, cc⟩, cs, ct, cpa, cpl, csi, cq, cpy⟩) 52)).alloc (.cells #[.string ⟨#[]⟩, .int .i64 0, .int .i64 0, .int .i64 0] 54)) = W at hx0 hR HE ⊢
  clear hW
  have hD := Lib.hid hR
  have HX0 := Lib.hid hx0
  clear hR hx0
  go_loopw [7, 13] (fun t7 t13 wr => ∃ (j : Nat), j ≤ n ∧ t13 = .int .i64 j ∧ t7 = .int .i64 (w64 (cells (p.vars.take j))) ∧ (∀ v ∈ p.vars.take j, ¬ v.name = s) ∧ Ext W wr) (fun _ t13 _ => n - (intOf t13).toNat)
  case atStart => exact ⟨0, Nat.zero_le _, rfl, by simp [cells, w64_def], by simp, Kept.refl _ _⟩
  case round =>
    obtain ⟨j, hj, rfl, rfl, hno, hx⟩ := hrel
    have HX := Lib.hid hx
    have HNO := Lib.hid hno
    have hDr := Blk.ext hD.out hx
    have hmr := hDr.melts
    have hhr := Blk.has hDr
    have hlr := hDr.lt
    clear hx hno
    by_cases hlt : j < n
    · have hjl : j < p.vars.length := by have := HN.out; omega
      have hltI : (j : Int) < n := by omega
      obtain rfl := HA.out (by omega)
      have hrow := (HE.out (by omega)).2.ext HX.out
      obtain ⟨hh', hg'⟩ := vr_at hrow j hjl
      have hbw := hrow.lt
      obtain ⟨x, hxe⟩ : ∃ x, x = p.vars[j] := ⟨_, rfl⟩
      rw [← hxe] at hg'
      have HXE := Lib.hid hxe
      clear hrow hxe
      by_cases hq : x.name = s
      · have hb := str_same hq
        have HQ := Lib.hid (cell_at HNO.out hjl (by rw [← HXE.out]; exact hq))
        clear hq
        go_upto_region 6 with (fail)
        have y0 : Ext wr _ := (Kept.refl (fun _ => False) wr).alloc (.cells (vcells x) 54)
        have hV := Blk.new wr 54 (vcells x)
        have hne : ¬ wr.heap.size = w.heap.size + 1 := by omega
        generalize hW2 : (wr.alloc (.cells (vcells x) 54)) = W2 at y0 hV ⊢
        clear hW2 hmr hhr hlr hDr hh' hg'
        obtain ⟨rb, hrb⟩ : ∃ rb, rb = w.heap.size + 1 := ⟨_, rfl⟩
        generalize wr.heap.size = vb at hV hne ⊢
        have hV2 := Lib.hid hV
        have HRB := Lib.hid hrb
        rw [← hrb] at hne ⊢
        have HNE := Lib.hid hne
        have HY := Lib.hid (HX.out.trans y0)
        have hDy := Blk.ext hD.out HY.out
        rw [← hrb] at hDy
        have HDY := Lib.hid hDy
        clear hV hrb hne y0 hDy
        refine wp_region_3 (fun w1 => Kept (· = rb) W2 w1) [(0, 2), (1, 1), (2, 2), (3, 0), (4, 2)] (by kernel_rfl) (by kernel_rfl) (by kernel_rfl) (by kernel_rfl) ?_; intro l' hl'; simp only [List.map_cons, List.map_nil, List.getD_cons_zero, List.getD_cons_succ] at hl'; subst hl'
        have HY0 := Lib.hid (show Ext W2 W2.drew from (Kept.refl _ W2).drew)
        (repeat (first | ((apply w3_pure); (· go_simp); (· (intro w1; go_simp; try with_reducible rfl)); (intro K hK; go_simp; refine hK _ _ ?_; clear hK K)) | ((apply w3_skip); (· go_simp); (intro K hK; go_simp; refine hK _ _ ?_; clear hK K)) | ((apply w3_take); (· exact (Kept.ext HY0.out)); (· go_simp); (· (intro w1 hS; have d0 := Blk.kept hV2.out hS HNE.out; have d1 := Blk.gets d0; have d2 := Blk.has d0; have d3 := d0.lt;  go_simp; try with_reducible rfl)); (intro K hK; go_simp; refine hK _ _ ?_; clear hK K)) | ((apply w3_pass); (· exact (Kept.ext HY0.out)); (· go_simp); (intro K hK; go_simp; refine hK _ _ ?_; clear hK K))))
        have hm2 := (Blk.ext HDY.out HY0.out).melts
        have hh2 := Blk.has (Blk.ext HDY.out HY0.out)
        (refine w3_act (fun K hK => ?_); go_simp)
        refine hK.out _ _ (fun _ => Kept.putAt (Kept.ext HY0.out) _ _ _ (fun _ => rfl)) ?_
        clear hK K
        (repeat (first | ((apply w3_pure); (· go_simp); (· (intro w1; go_simp; try with_reducible rfl)); (intro K hK; go_simp; refine hK _ _ ?_; clear hK K)) | ((apply w3_skip); (· go_simp); (intro K hK; go_simp; refine hK _ _ ?_; clear hK K)) | (refine w3_end (by kernel_rfl) (fun K hK => ?_); go_simp; refine hK.out _ _ ?_; clear hK K))); refine w3_nil ?_
        go_wp2_with fail
        refine ret_ici Tryd.results19 rfl rfl aggVarS (by exact sizeVarS) (Blk.put_ (Blk.ext HDY.out HY0.out) _ _) ⟨?_, ?_⟩
        · obtain ⟨q1, q2, q3⟩ := HQ.out
          unfold cellRes
          rw [q1, q2, q3, ← HXE.out, w64_cells (by rw [List.length_take]; omega)]
          simp [splice]
        · exact ((HX0.out.trans HY.out).trans HY0.out).putAt _ _ _ (fun hlt => absurd hlt (by have := HRB.out; omega))
      · have hb := str_other hq
        have HQ := Lib.hid (no_next HNO.out hjl (by rw [← HXE.out]; exact hq))
        clear hq
        have y0 : Ext wr _ := (Kept.refl (fun _ => False) wr).alloc (.cells (vcells x) 54)
        go_wp2_with fail
        refine (size_any x _).mono ?_
        rintro e w1 ⟨rfl, hx1⟩
        go_wp2_with fail
        go_roundw
        case rel => exact ⟨j + 1, hlt, by go_num, by rw [cells_take hjl, ← HXE.out]; simp only [w64_w64], HQ.out, HX.out.trans (y0.trans hx1)⟩
        case measure => simp only [intOf]; omega
    · obtain rfl : j = n := by omega
      go_wp2_with fail
      refine ret_ici Tryd.results19 rfl rfl aggVarS (by exact sizeVarS) (Blk.put_ hDr _ _) ⟨?_, ?_⟩
      · obtain ⟨q1, q2, q3⟩ := cell_no (l := p.vars) (s := s) (by have h := HNO.out; rw [HN.out, List.take_length] at h; exact h)
        unfold cellRes
        rw [q1, q2, q3]
        simp [splice, E0]
      · exact (HX0.out.trans HX.out).putAt _ _ _ (fun hlt => absurd hlt (by omega))
set_option maxRecDepth 100000 in
set_option maxHeartbeats 2000000 in
theorem rcell_any (c : Pc) (p : Pr) (s : Str) (N : Nat) (w : World) (hN : N ≤ w.heap.size) (h : PAt w N c p) : Calls Tryd.prog 15 #[.agg c.cells, .string s] w fun e w' => e = cellRes p.vars s ∧ Ext w w' := by
  obtain ⟨cn, cse, cst, ⟨A, n, cc⟩, cs, ct, cpa, cpl, csi, cq, cpy⟩ := c
  have hx0 := ((Kept.refl (fun _ => False) w).alloc (.cells (Pc.cells ⟨cn, cse, cst, ⟨A, n, cc⟩, cs, ct, cpa, cpl, csi, cq, cpy⟩) 26)).alloc (.cells #[.string ⟨#[]⟩, .int .i64 0, .int .i64 0, .int .i64 0] 29)
  have hR := Blk.new' (w.alloc (.cells (Pc.cells ⟨cn, cse, cst, ⟨A, n, cc⟩, cs, ct, cpa, cpl, csi, cq, cpy⟩) 26)) 29 #[.string ⟨#[]⟩, .int .i64 0, .int .i64 0, .int .i64 0] (w.heap.size + 1) (by simp)
  have hB := (Blk.new w 26 (Pc.cells ⟨cn, cse, cst, ⟨A, n, cc⟩, cs, ct, cpa, cpl, csi, cq, cpy⟩)).alloc (.cells #[.string ⟨#[]⟩, .int .i64 0, .int .i64 0, .int .i64 0] 29)
  obtain ⟨hn, hf, hok, b, off, hA, hE⟩ := h.vars.ext hx0
  have hm := hf.max (by omega)
  have HN := Lib.hid hn
  have HA := Lib.hid hA
  have HE := Lib.hid hE
  clear hn hA hE hok hf h
  go_enter Tryd.func15, Tryd.ntmps15
  go_upto_region 3 with (fail)
  obtain ⟨rb, hrb⟩ : ∃ rb, rb = w.heap.size + 1 := ⟨_, rfl⟩
  obtain ⟨pb, hpb⟩ : ∃ pb, pb = w.heap.size := ⟨_, rfl⟩
  rw [← hrb] at hR
  rw [← hpb] at hB
  simp only [← hrb]
  simp only [← hpb]
  have hne : ¬ pb = rb := by omega
  have HRW := Lib.hid (show w.heap.size ≤ rb by omega)
  have HBN := Lib.hid (show 0 < n → ¬ b = rb from fun h0 => by have := (HE.out h0).1; omega)
  generalize hW : ((w.alloc (.cells (Pc.cells ⟨cn, cse, cst, ⟨A, n, cc⟩, cs, ct, cpa, cpl, csi, cq, cpy⟩) 26)).alloc (.cells #[.string ⟨#[]⟩, .int .i64 0, .int .i64 0, .int .i64 0] 29)) = W at hx0 hR HE hB ⊢
  clear hW hrb hpb
  have hD := Lib.hid hR
  have hC := Lib.hid hB
  have HX0 := Lib.hid hx0
  have HNE := Lib.hid hne
  clear hR hx0 hB hne
  go_loopw [7, 8] (fun t7 t8 wr => ∃ (j : Nat), j ≤ n ∧ t8 = .int .i64 j ∧ t7 = .int .i64 (w64 (cells (p.vars.take j))) ∧ (∀ v ∈ p.vars.take j, ¬ v.name = s) ∧ Ext W wr) (fun _ t8 _ => n - (intOf t8).toNat)
  case atStart => exact ⟨0, Nat.zero_le _, rfl, by simp [cells, w64_def], by simp, Kept.refl _ _⟩
  case round =>
    obtain ⟨j, hj, rfl, rfl, hno, hx⟩ := hrel
    have HX := Lib.hid hx
    have HNO := Lib.hid hno
    have hDr := Blk.ext hD.out hx
    have hmr := hDr.melts
    have hhr := Blk.has hDr
    have hlr := hDr.lt
    have hcr := Blk.cell (Blk.ext hC.out hx)
    have hlc := (Blk.ext hC.out hx).lt
    clear hx hno
    by_cases hlt : j < n
    · have hjl : j < p.vars.length := by have := HN.out; omega
      have hltI : (j : Int) < n := by omega
      obtain rfl := HA.out (by omega)
      have hrow := (HE.out (by omega)).2.ext HX.out
      obtain ⟨hh', hg'⟩ := vr_at hrow j hjl
      have hbw := hrow.lt
      obtain ⟨x, hxe⟩ : ∃ x, x = p.vars[j] := ⟨_, rfl⟩
      rw [← hxe] at hg'
      have hc0 := cell_gets0 hh' hg' (by omega)
      have HXE := Lib.hid hxe
      have HB2 := Lib.hid (HBN.out (by omega))
      clear hrow hxe
      by_cases hq : x.name = s
      · have hb := str_same hq
        have HQ := Lib.hid (cell_at HNO.out hjl (by rw [← HXE.out]; exact hq))
        clear hq
        go_upto_region 6 with (fail)
        have HH := Lib.hid hh'
        have HG := Lib.hid hg'
        have HCR := Lib.hid (Blk.ext hC.out HX.out)
        have HDR := Lib.hid hDr
        clear hh' hg' hmr hhr hlr hcr hlc hc0 hDr
        refine wp_region_3 (fun w1 => Kept (· = rb) wr w1) [(0, 2), (1, 2), (2, 1), (3, 2), (4, 2), (5, 1), (6, 2), (7, 0), (8, 2)] (by kernel_rfl) (by kernel_rfl) (by kernel_rfl) (by kernel_rfl) ?_; intro l' hl'; simp only [List.map_cons, List.map_nil, List.getD_cons_zero, List.getD_cons_succ] at hl'; subst hl'
        have HY0 := Lib.hid (show Ext wr wr.drew from (Kept.refl _ wr).drew)
        (repeat (first | ((apply w3_pure); (· go_simp); (· (intro w1; go_simp; try with_reducible rfl)); (intro K hK; go_simp; refine hK _ _ ?_; clear hK K)) | ((apply w3_skip); (· go_simp); (intro K hK; go_simp; refine hK _ _ ?_; clear hK K)) | ((apply w3_take); (· exact (Kept.ext HY0.out)); (· go_simp); (· (intro w1 hS; have d0 := Blk.kept HCR.out hS HNE.out; have d1 := Blk.cell d0; have d3 := d0.lt; have d4 := (has_keep (o := off + j * 4) (n := 4) hS hbw HB2.out).trans HH.out; have d5 := (gets_keep (o := off + j * 4) (n := 4) hS hbw HB2.out).trans HG.out; have d6 := Nat.lt_of_lt_of_le hbw hS.size;  go_simp; try with_reducible rfl)); (intro K hK; go_simp; refine hK _ _ ?_; clear hK K)) | ((apply w3_pass); (· exact (Kept.ext HY0.out)); (· go_simp); (intro K hK; go_simp; refine hK _ _ ?_; clear hK K))))
        have hm2 := (Blk.ext HDR.out HY0.out).melts
        have hh2 := Blk.has (Blk.ext HDR.out HY0.out)
        (refine w3_act (fun K hK => ?_); go_simp)
        refine hK.out _ _ (fun _ => Kept.putAt (Kept.ext HY0.out) _ _ _ (fun _ => rfl)) ?_
        clear hK K
        (repeat (first | ((apply w3_pure); (· go_simp); (· (intro w1; go_simp; try with_reducible rfl)); (intro K hK; go_simp; refine hK _ _ ?_; clear hK K)) | ((apply w3_skip); (· go_simp); (intro K hK; go_simp; refine hK _ _ ?_; clear hK K)) | (refine w3_end (by kernel_rfl) (fun K hK => ?_); go_simp; refine hK.out _ _ ?_; clear hK K))); refine w3_nil ?_
        go_wp2_with fail
        refine ret_ici Tryd.results15 rfl rfl aggVarR (by exact sizeVarR) (Blk.put_ (Blk.ext HDR.out HY0.out) _ _) ⟨?_, ?_⟩
        · obtain ⟨q1, q2, q3⟩ := HQ.out
          unfold cellRes
          rw [q1, q2, q3, ← HXE.out, w64_cells (by rw [List.length_take]; omega)]
          simp [splice]
        · exact ((HX0.out.trans HX.out).trans HY0.out).putAt _ _ _ (fun hlt => absurd hlt (by have := HRW.out; omega))
      · have hb := str_other hq
        have HQ := Lib.hid (no_next HNO.out hjl (by rw [← HXE.out]; exact hq))
        clear hq
        go_wp2_with fail
        refine (cells_any x _).mono ?_
        rintro e w1 ⟨rfl, hx1⟩
        go_wp2_with fail
        go_roundw
        case rel => exact ⟨j + 1, hlt, by go_num, by rw [cells_take hjl, ← HXE.out]; simp only [w64_w64], HQ.out, HX.out.trans hx1⟩
        case measure => simp only [intOf]; omega
    · obtain rfl : j = n := by omega
      go_wp2_with fail
      refine ret_ici Tryd.results15 rfl rfl aggVarR (by exact sizeVarR) (Blk.put_ hDr _ _) ⟨?_, ?_⟩
      · obtain ⟨q1, q2, q3⟩ := cell_no (l := p.vars) (s := s) (by have h := HNO.out; rw [HN.out, List.take_length] at h; exact h)
        unfold cellRes
        rw [q1, q2, q3]
        simp [splice, E0]
      · exact (HX0.out.trans HX.out).putAt _ _ _ (fun hlt => absurd hlt (by have := HRW.out; omega))
end Go.Proofs.YtfamkemdgbnegaaDoor

/- Sorts: what is known of a name, by the document. -/
namespace Go.Proofs.YtfamkemdgbnegaaDoor
open Go.RowKit So
/-- strings side by side -/
def StrSl (w : World) (N : Nat) (A : Option Addr) (n : Nat) (l : List Str) : Prop := n = l.length ∧ n ≤ 100 ∧ ∃ b off, (0 < n → A = some ⟨b, off, none⟩) ∧ (0 < n → b < N ∧ Row w b off (l.map Value.string))
theorem StrSl.kept {S : Nat → Prop} {w w' : World} {N : Nat} {A : Option Addr} {n : Nat} {l : List Str} (h : StrSl w N A n l) (hk : Kept S w w') (hs : ∀ i, S i → N ≤ i) : StrSl w' N A n l := by
  obtain ⟨h1, h2, b, off, h4, h5⟩ := h
  exact ⟨h1, h2, b, off, h4, fun h0 => ⟨(h5 h0).1, (h5 h0).2.kept hk (fun q => by have := hs b q; have := (h5 h0).1; omega)⟩⟩
theorem StrSl.ext {w w' : World} {N : Nat} {A : Option Addr} {n : Nat} {l : List Str} (h : StrSl w N A n l) (hk : Ext w w') : StrSl w' N A n l := h.kept hk (fun _ f => f.elim)
theorem StrSl.mono {w : World} {N N' : Nat} {A : Option Addr} {n : Nat} {l : List Str} (h : StrSl w N A n l) (hN : N ≤ N') : StrSl w N' A n l := by
  obtain ⟨h1, h2, b, off, h4, h5⟩ := h
  exact ⟨h1, h2, b, off, h4, fun h0 => ⟨Nat.lt_of_lt_of_le (h5 h0).1 hN, (h5 h0).2⟩⟩
theorem str_at {w : World} {b off : Nat} {l : List Str} (h : Row w b off (l.map Value.string)) (j : Nat) (hj : j < l.length) : w.cell? ⟨b, off + j, none⟩ = some (.string l[j]) := by
  rw [h.cell j (by simpa using hj)]
  simp [hj]
/-- what the document knows: a program, and plain names -/
abbrev knCells (c : Pc) (A : Option Addr) (n k : Nat) : Array Value := #[.string c.name, .int .i64 c.seats, c.stakes.v, c.vars.v, c.start.v, c.turn.v, c.params.v, c.play.v, .string c.silent, c.quiet.v, c.pays.v, .slice A n k]
theorem updAll_nil (κ : Kn) : updAll κ [] = κ := by funext t; simp [updAll]
set_option maxRecDepth 100000 in
set_option maxHeartbeats 2000000 in
theorem sort_any (c : Pc) (p : Pr) (A : Option Addr) (n k : Nat) (l : List Str) (s : Str) (N : Nat) (w : World) (hN : N ≤ w.heap.size) (h : PAt w N c p) (hl : StrSl w N A n l) : Calls Tryd.prog 99 #[.agg (knCells c A n k), .string s] w fun e w' => e = .returned (.int .i64 (updAll (knV p.vars) l s)) ∧ Ext w w' := by
  obtain ⟨r, hr⟩ : ∃ r, r = updAll (knV p.vars) l s := ⟨_, rfl⟩
  rw [← hr]
  have HR0 := Lib.hid hr
  clear hr
  have hx0 := (Kept.refl (fun _ => False) w).alloc (.cells (knCells c A n k) 96)
  have hB := Blk.new w 96 (knCells c A n k)
  have HP := Lib.hid (h.ext hx0 hN)
  obtain ⟨hn, hm, b, off, hA, hE⟩ := hl.ext hx0
  have HN := Lib.hid hn
  have HA := Lib.hid hA
  have HE := Lib.hid hE
  have hNa := Lib.hid (Nat.le_trans hN hx0.size)
  clear hn hA hE h hl
  go_enter Tryd.func99, Tryd.ntmps99
  go_upto_region 1 with (fail)
  generalize hW : (w.alloc (.cells (knCells c A n k) 96)) = W at hx0 hB HE HP hNa ⊢
  clear hW
  have HX0 := Lib.hid hx0
  generalize w.heap.size = pb at hB ⊢
  have hC := Lib.hid hB
  clear hB hx0
  go_wp2_with fail
  go_loopw [5] (fun t5 wr => ∃ (j : Nat), j ≤ n ∧ t5 = .int .i64 j ∧ (∀ v ∈ l.take j, ¬ v = s) ∧ W = wr) (fun t5 _ => n - (intOf t5).toNat)
  case atStart => exact ⟨0, Nat.zero_le _, rfl, by simp, rfl⟩
  case round =>
    obtain ⟨j, hj, rfl, hno, hw⟩ := hrel
    subst hw
    have HNO := Lib.hid hno
    clear hno
    have hcr := Blk.cell hC.out
    have hlr := hC.out.lt
    by_cases hlt : j < n
    · have hjl : j < l.length := by have := HN.out; omega
      have hltI : (j : Int) < n := by omega
      obtain rfl := HA.out (by omega)
      have hrow := (HE.out (by omega)).2
      have hc := str_at hrow j hjl
      have hbw := hrow.lt
      obtain ⟨x, hxe⟩ : ∃ x, x = l[j] := ⟨_, rfl⟩
      rw [← hxe] at hc
      have HX := Lib.hid hxe
      clear hrow hxe
      by_cases hq : x = s
      · have hb := str_same hq
        have HQ := Lib.hid hq
        clear hq
        go_wp2_with fail
        go_ret
        refine ⟨ret_int ?_, HX0.out⟩
        have : l.any (fun t => decide (t = s)) = true := by
          rw [List.any_eq_true]
          exact ⟨x, by rw [HX.out]; exact List.getElem_mem hjl, decide_eq_true HQ.out⟩
        rw [HR0.out]
        unfold updAll
        rw [if_pos this]
        rfl
      · have hb := str_other hq
        have HQ := Lib.hid hq
        clear hq
        go_wp2_with fail
        go_roundw
        case rel => exact ⟨j + 1, hlt, by go_num, by
          intro v hv
          rw [List.take_add_one, List.getElem?_eq_getElem hjl, ← HX.out] at hv
          simp only [Option.toList_some, List.mem_append, List.mem_singleton] at hv
          rcases hv with hv | rfl
          · exact HNO.out v hv
          · exact HQ.out, by trivial⟩
        case measure => simp only [intOf]; omega
    · obtain rfl : j = n := by omega
      have hno : l.any (fun t => decide (t = s)) = false := by
        rw [List.any_eq_false]
        intro v hv
        have := HNO.out v (by rw [HN.out, List.take_length]; exact hv)
        simpa using this
      have hrr : r = if p.vars.any (fun v => decide (v.name = s)) = true then (if 0 < (cellX p.vars s).size then 2 else 1) else 0 := by
        rw [HR0.out, ← knV_cell]
        unfold updAll
        rw [if_neg (by rw [hno]; exact Bool.false_ne_true)]
      have HR := Lib.hid hrr
      clear hno hrr
      have hgr := Blk.gets hC.out
      have hhr := Blk.has hC.out
      go_wp2_with fail
      refine (rcell_any c p s N _ hNa.out HP.out).mono ?_
      rintro e w1 ⟨rfl, hx1⟩
      cases hq : p.vars.any (fun v => decide (v.name = s))
      · go_wp2_with fail
        go_ret
        refine ⟨ret_int ?_, ?_⟩
        · have h := HR.out; rw [hq] at h; rw [h]; rfl
        · exact (HX0.out.trans hx1).alloc _
      · by_cases hz : 0 < (cellX p.vars s).size
        · go_wp2_with fail
          go_ret
          refine ⟨ret_int ?_, ?_⟩
          · have h := HR.out; rw [hq, if_pos rfl, if_pos (by omega)] at h; rw [h]; rfl
          · exact (HX0.out.trans hx1).alloc _
        · go_wp2_with fail
          go_ret
          refine ⟨ret_int ?_, ?_⟩
          · have h := HR.out; rw [hq, if_pos rfl, if_neg (by omega)] at h; rw [h]; rfl
          · exact (HX0.out.trans hx1).alloc _
end Go.Proofs.YtfamkemdgbnegaaDoor
