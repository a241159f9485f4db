/- Several texts joined: Qp, Qr, Qs. -/
import Derived.Test.YtfamkemdgbnegaaDoorSdd
/- Sorts: faults compared; what is wrong with an expression, by the document. -/
namespace Go.Proofs.YtfamkemdgbnegaaDoor
open Go.RowKit So
theorem guardFaultR : Tryd.prog.eqGuardType Tryd.prog.depth 38 = false := by kernel_rfl
theorem stoodFaultR : Tryd.prog.stoodInHeld 38 = false := by kernel_rfl
theorem guardFaultS : Tryd.prog.eqGuardType Tryd.prog.depth 61 = false := by kernel_rfl
theorem stoodFaultS : Tryd.prog.stoodInHeld 61 = false := by kernel_rfl
theorem toList_iff (s t : ByteArray) : s.toList = t.toList ↔ s = t := by
  rw [ByteArray.toList_eq, ByteArray.toList_eq]
  exact ⟨fun h => Go.WideShapes.bytes_inj h, fun h => by rw [h]⟩
theorem eqFaultR (w : World) (a b : Int) (s t : ByteArray) : (Op.equalIn 10000 38 (.agg #[.int .i64 a, .string s]) (.agg #[.int .i64 b, .string t])).run Tryd.prog w = .ok (a == b && decide (s = t)) w := by
  rw [Op.equalIn]
  simp [run_underlying Tryd.underlying38, go_sem]
  by_cases h1 : a = b <;> by_cases h2 : s = t <;> simp [h1, h2, toList_iff]
theorem eqFaultS (w : World) (a b : Int) (s t : ByteArray) : (Op.equalIn 10000 61 (.agg #[.int .i64 a, .string s]) (.agg #[.int .i64 b, .string t])).run Tryd.prog w = .ok (a == b && decide (s = t)) w := by
  rw [Op.equalIn]
  simp [run_underlying Tryd.underlying61, go_sem]
  by_cases h1 : a = b <;> by_cases h2 : s = t <;> simp [h1, h2, toList_iff]
attribute [go_sem] guardFaultR guardFaultS eqFaultR eqFaultS
def fltC : Option Flt → Array Value
  | none => #[.int .i64 0, .string ⟨#[]⟩]
  | some f => #[.int .i64 f.e, .string f.name]
theorem fltC_none : fltC none = #[.int .i64 0, .string ⟨#[]⟩] := rfl
theorem fltC_some (e : Int) (s : Str) : fltC (some ⟨e, s⟩) = #[.int .i64 e, .string s] := rfl
attribute [go_sem] fltC_none fltC_some
/-- a fault's number is not 0 -/
def NZ (o : Option Flt) : Prop := ∀ f, o = some f → ¬ f.e = 0
theorem nat_beq (a b : Nat) : ((a : Int) == (b : Int)) = (a == b) := by rw [Bool.eq_iff_iff]; simp; omega
theorem meet {F M : World → Nat → Prop} {G : Prop} (h : (∀ W g, F W g → M W g) → G) (h2 : ∀ W g, F W g → M W g) : G := h h2
theorem NZ.none : NZ none := fun _ h => by cases h
theorem NZ.some {e : Int} {s : Str} (h : ¬ e = 0) : NZ (some ⟨e, s⟩) := fun f hf => by cases hf; exact h
theorem NZ.must {ok : Bool} {e : Int} {s : Str} (h : ¬ e = 0) : NZ (must ok e s) := by cases ok <;> simp only [must_true, must_false]; exact NZ.some h; exact NZ.none
theorem NZ.ored {a b : Option Flt} (ha : NZ a) (hb : NZ b) : NZ (ored a b) := by cases a <;> simp only [ored_none, ored_some]; exact hb; exact ha
theorem NZ.ite {c : Prop} [Decidable c] {a b : Option Flt} (ha : NZ a) (hb : NZ b) : NZ (if c then a else b) := by split; exact ha; exact hb
theorem nz_head (κ : Kn) (op n : Int) (s : Str) (k : Nat) : NZ (head1 κ op n s k) := by
  unfold head1
  exact NZ.ored (NZ.must (by decide)) (NZ.ite (NZ.must (by decide)) (NZ.ite (NZ.ored (NZ.must (by decide)) (NZ.must (by decide))) NZ.none))
theorem nz_chkE (κ : Kn) : ∀ F : EF, NZ (chkE κ F)
  | .nil => NZ.none
  | .cons op n s k r => NZ.ored (NZ.ored (nz_head κ op n s k.len) (nz_chkE κ k)) (nz_chkE κ r)
/-- what is wrong with one expression -/
def chk1 (κ : Kn) (op n : Int) (s : Str) (k : EF) : Option Flt := ored (head1 κ op n s k.len) (chkE κ k)
theorem nz_chk1 (κ : Kn) (op n : Int) (s : Str) (k : EF) : NZ (chk1 κ op n s k) := NZ.ored (nz_head κ op n s k.len) (nz_chkE κ k)
theorem chkE_cons (κ : Kn) (op n : Int) (s : Str) (k r : EF) : chkE κ (.cons op n s k r) = ored (chk1 κ op n s k) (chkE κ r) := rfl
abbrev ExRC (c : Pc) (κ : Kn) (A : Option Addr) (n k : Nat) (w : World) (F : EF) : Prop := ∀ (op m : Int) (s : Str) (B : Option Addr) (kn kc N : Nat) (w' : World), Ext w w' → N ≤ w.heap.size → ESl w N B kn F →
  Calls Tryd.prog 94 #[.agg (knCells c A n k), .agg (ecells op m s B kn kc)] w' fun e w2 => e = .returned (.agg (fltC (chk1 κ op m s F))) ∧ Ext w' w2
set_option maxRecDepth 100000 in
set_option maxHeartbeats 4000000 in
theorem rexpr_any (c : Pc) (p : Pr) (A : Option Addr) (n k : Nat) (l : List Str) (N : Nat) (w0 : World) (hN : N ≤ w0.heap.size) (h : PAt w0 N c p) (hl : StrSl w0 N A n l) (F : EF) : ExRC c (updAll (knV p.vars) l) A n k w0 F := by
  refine ef_ind (C := ExRC c (updAll (knV p.vars) l) A n k w0) ?_ F
  intro F IH op m s B kn kc N0 w hx0 hN0 hes
  obtain ⟨X, hX⟩ : ∃ X, X = chk1 (updAll (knV p.vars) l) op m s F := ⟨_, rfl⟩
  rw [← hX]
  obtain ⟨r, hr⟩ : ∃ r, r = chkE (updAll (knV p.vars) l) F := ⟨_, rfl⟩
  have hX2 : X = ored (head1 (updAll (knV p.vars) l) op m s kn) r := by rw [hX, hr, hes.1]; rfl
  have HX2 := Lib.hid hX2
  have HEQ := Lib.hid hr.symm
  clear hX hX2 hr
  obtain ⟨hn, hf, b, off, hA, hE⟩ := hes
  have hm := hf.max (by omega)
  have HN := Lib.hid hn
  have HA := Lib.hid hA
  have HE := Lib.hid hE
  have HI := Lib.hid IH
  have HP := Lib.hid h
  have HL := Lib.hid hl
  clear hn hA hE IH hf h hl
  have hx1 := (((Kept.refl (fun _ => False) w).alloc (.cells (knCells c A n k) 96)).alloc (.cells (ecells op m s B kn kc) 36)).alloc (.cells #[.int .i64 0, .string ⟨#[]⟩] 38)
  have hK1 := ((Blk.new w 96 (knCells c A n k)).alloc (.cells (ecells op m s B kn kc) 36)).alloc (.cells #[.int .i64 0, .string ⟨#[]⟩] 38)
  have hE1 := (Blk.new' (w.alloc (.cells (knCells c A n k) 96)) 36 (ecells op m s B kn kc) (w.heap.size + 1) (by simp)).alloc (.cells #[.int .i64 0, .string ⟨#[]⟩] 38)
  have hR1 := Blk.new' ((w.alloc (.cells (knCells c A n k) 96)).alloc (.cells (ecells op m s B kn kc) 36)) 38 #[.int .i64 0, .string ⟨#[]⟩] (w.heap.size + 1 + 1) (by simp)
  go_enter Tryd.func94, Tryd.ntmps94
  go_upto_region 1 with (fail)
  obtain ⟨rb, hrb⟩ : ∃ rb, rb = w.heap.size + 1 + 1 := ⟨_, rfl⟩
  obtain ⟨eb, heb⟩ : ∃ eb, eb = w.heap.size + 1 := ⟨_, rfl⟩
  obtain ⟨pb, hpb⟩ : ∃ pb, pb = w.heap.size := ⟨_, rfl⟩
  simp only [← hrb]
  rw [← hrb] at hR1
  simp only [← heb]
  rw [← heb] at hE1
  simp only [← hpb]
  rw [← hpb] at hK1
  have HRW := Lib.hid (show w.heap.size ≤ rb by omega)
  generalize hW : (((w.alloc (.cells (knCells c A n k) 96)).alloc (.cells (ecells op m s B kn kc) 36)).alloc (.cells #[.int .i64 0, .string ⟨#[]⟩] 38)) = W at hx1 hK1 hE1 hR1 ⊢
  clear hW hrb heb hpb
  have hK0 := Lib.hid hK1
  have hE0 := Lib.hid hE1
  have hR0 := Lib.hid hR1
  have HX0 := Lib.hid hx1
  have hcE := Blk.cell hE1
  clear hK1 hE1 hR1 hx1
  have HY0 := Lib.hid (show Ext W W.drew from (Kept.refl _ W).drew)
  cases hb1 : btw op 0 17
  · have HR := Lib.hid (show X = some ⟨3, E0⟩ by rw [HX2.out]; unfold head1; rw [hb1]; rfl)
    refine wp_region_3 (fun w1 => Ext W w1) [(0, 2), (1, 1), (2, 0), (3, 2), (4, 2), (5, 2), (6, 1), (7, 2), (8, 2), (9, 1), (10, 0), (11, 2), (12, 2)] (by kernel_rfl) (by kernel_rfl) (by kernel_rfl) (by kernel_rfl) ?_; intro l' hl'; simp only [List.map_cons, List.map_nil, List.getD_cons_zero, List.getD_cons_succ] at hl'; subst hl'
    (repeat (first | ((apply w3_pure); (· go_simp); (· (intro w1; go_simp; try with_reducible rfl)); (intro K hK; go_simp; refine hK _ _ ?_; clear hK K)) | ((apply w3_skip); (· go_simp); (intro K hK; go_simp; refine hK _ _ ?_; clear hK K)) | ((apply w3_take); (· exact HY0.out); (· go_simp); (· (intro w1 hS; have d4 := Blk.ext hE0.out hS; have d5 := Blk.cell d4; have d6 := d4.lt;  go_simp; try with_reducible rfl)); (intro K hK; go_simp; refine hK _ _ ?_; clear hK K)) | ((apply w3_pass); (· exact HY0.out); (· go_simp); (intro K hK; go_simp; refine hK _ _ ?_; clear hK K))))
    (refine w3_act (fun K hK => ?_); go_simp)
    refine (in_any _ _ _ _).mono ?_
    rintro e w1 ⟨rfl, rfl⟩
    rw [hb1]
    refine hK.out _ _ (fun _ => HY0.out) ?_
    clear hK K
    (repeat (first | ((apply w3_pure); (· go_simp); (· (intro w1; go_simp; try with_reducible rfl)); (intro K hK; go_simp; refine hK _ _ ?_; clear hK K)) | ((apply w3_skip); (· go_simp); (intro K hK; go_simp; refine hK _ _ ?_; clear hK K)) | ((apply w3_take); (· exact HY0.out); (· go_simp); (· (intro w1 hS; have d4 := Blk.ext hE0.out hS; have d5 := Blk.cell d4; have d6 := d4.lt;  go_simp; try with_reducible rfl)); (intro K hK; go_simp; refine hK _ _ ?_; clear hK K)) | ((apply w3_pass); (· exact HY0.out); (· go_simp); (intro K hK; go_simp; refine hK _ _ ?_; clear hK K))))
    (refine w3_act (fun K hK => ?_); go_simp)
    refine hK.out _ _ (fun h => h) ?_
    clear hK K
    (repeat (first | ((apply w3_pure); (· go_simp); (· (intro w1; go_simp; try with_reducible rfl)); (intro K hK; go_simp; refine hK _ _ ?_; clear hK K)) | ((apply w3_skip); (· go_simp); (intro K hK; go_simp; refine hK _ _ ?_; clear hK K)) | ((apply w3_take); (· exact HY0.out); (· go_simp); (· (intro w1 hS; have d4 := Blk.ext hE0.out hS; have d5 := Blk.cell d4; have d6 := d4.lt;  go_simp; try with_reducible rfl)); (intro K hK; go_simp; refine hK _ _ ?_; clear hK K)) | ((apply w3_pass); (· exact HY0.out); (· go_simp); (intro K hK; go_simp; refine hK _ _ ?_; clear hK K))))
    (repeat (first | ((apply w3_pure); (· go_simp); (· (intro w1; go_simp; try with_reducible rfl)); (intro K hK; go_simp; refine hK _ _ ?_; clear hK K)) | ((apply w3_skip); (· go_simp); (intro K hK; go_simp; refine hK _ _ ?_; clear hK K)) | (refine w3_end (by kernel_rfl) (fun K hK => ?_); go_simp; refine hK.out _ _ ?_; clear hK K))); refine w3_nil ?_
    have yr := HY0.out
    have hDr := Blk.ext hR0.out yr
    have hmr := hDr.melts
    have hhr := Blk.has hDr
    go_wp2_with fail
    refine ret_cell (t := 38) (g := rb) (cs := fltC X) Tryd.results94 rfl rfl aggFaultR (by rw [HR.out]; exact sizeFaultR) (by rw [HR.out]; exact Blk.put_ hDr 0 _) ⟨rfl, ?_⟩
    exact (HX0.out.trans yr).putAt _ _ _ (fun hlt => absurd hlt (by have := HRW.out; omega))
  · refine wp_region_3 (fun w1 => Ext W w1) [(0, 2), (1, 1), (2, 0), (3, 2), (4, 2), (5, 2), (6, 1), (7, 2), (8, 2), (9, 1), (10, 0), (11, 2), (12, 2)] (by kernel_rfl) (by kernel_rfl) (by kernel_rfl) (by kernel_rfl) ?_; intro l' hl'; simp only [List.map_cons, List.map_nil, List.getD_cons_zero, List.getD_cons_succ] at hl'; subst hl'
    (repeat (first | ((apply w3_pure); (· go_simp); (· (intro w1; go_simp; try with_reducible rfl)); (intro K hK; go_simp; refine hK _ _ ?_; clear hK K)) | ((apply w3_skip); (· go_simp); (intro K hK; go_simp; refine hK _ _ ?_; clear hK K)) | ((apply w3_take); (· exact HY0.out); (· go_simp); (· (intro w1 hS; have d4 := Blk.ext hE0.out hS; have d5 := Blk.cell d4; have d6 := d4.lt;  go_simp; try with_reducible rfl)); (intro K hK; go_simp; refine hK _ _ ?_; clear hK K)) | ((apply w3_pass); (· exact HY0.out); (· go_simp); (intro K hK; go_simp; refine hK _ _ ?_; clear hK K))))
    (refine w3_act (fun K hK => ?_); go_simp)
    refine (in_any _ _ _ _).mono ?_
    rintro e w1 ⟨rfl, rfl⟩
    rw [hb1]
    refine hK.out _ _ (fun _ => HY0.out) ?_
    clear hK K
    (repeat (first | ((apply w3_pure); (· go_simp); (· (intro w1; go_simp; try with_reducible rfl)); (intro K hK; go_simp; refine hK _ _ ?_; clear hK K)) | ((apply w3_skip); (· go_simp); (intro K hK; go_simp; refine hK _ _ ?_; clear hK K)) | ((apply w3_take); (· exact HY0.out); (· go_simp); (· (intro w1 hS; have d4 := Blk.ext hE0.out hS; have d5 := Blk.cell d4; have d6 := d4.lt;  go_simp; try with_reducible rfl)); (intro K hK; go_simp; refine hK _ _ ?_; clear hK K)) | ((apply w3_pass); (· exact HY0.out); (· go_simp); (intro K hK; go_simp; refine hK _ _ ?_; clear hK K))))
    (refine w3_act (fun K hK => ?_); go_simp)
    refine (operands_any _ _).mono ?_
    rintro e w1 ⟨rfl, rfl⟩
    refine hK.out _ _ (fun _ => HY0.out) ?_
    clear hK K
    cases hb2 : ((kn : Int) == (exprParts op : Int))
    · have hb2n : ((kn : Int) != (exprParts op : Int)) = true := by unfold bne; rw [hb2]; rfl
      have HR := Lib.hid (show X = some ⟨3, E0⟩ by rw [HX2.out]; unfold head1; rw [hb1, ← nat_beq, hb2]; rfl)
      (repeat (first | ((apply w3_pure); (· go_simp); (· (intro w1; go_simp; try with_reducible rfl)); (intro K hK; go_simp; refine hK _ _ ?_; clear hK K)) | ((apply w3_skip); (· go_simp); (intro K hK; go_simp; refine hK _ _ ?_; clear hK K)) | ((apply w3_take); (· exact HY0.out); (· go_simp); (· (intro w1 hS; have d4 := Blk.ext hE0.out hS; have d5 := Blk.cell d4; have d6 := d4.lt;  go_simp; try with_reducible rfl)); (intro K hK; go_simp; refine hK _ _ ?_; clear hK K)) | ((apply w3_pass); (· exact HY0.out); (· go_simp); (intro K hK; go_simp; refine hK _ _ ?_; clear hK K))))
      (repeat (first | ((apply w3_pure); (· go_simp); (· (intro w1; go_simp; try with_reducible rfl)); (intro K hK; go_simp; refine hK _ _ ?_; clear hK K)) | ((apply w3_skip); (· go_simp); (intro K hK; go_simp; refine hK _ _ ?_; clear hK K)) | (refine w3_end (by kernel_rfl) (fun K hK => ?_); go_simp; refine hK.out _ _ ?_; clear hK K))); refine w3_nil ?_
      have yr := HY0.out
      have hDr := Blk.ext hR0.out yr
      have hmr := hDr.melts
      have hhr := Blk.has hDr
      go_wp2_with fail
      refine ret_cell (t := 38) (g := rb) (cs := fltC X) Tryd.results94 rfl rfl aggFaultR (by rw [HR.out]; exact sizeFaultR) (by rw [HR.out]; exact Blk.put_ hDr 0 _) ⟨rfl, ?_⟩
      exact (HX0.out.trans yr).putAt _ _ _ (fun hlt => absurd hlt (by have := HRW.out; omega))
    · have hb2n : ((kn : Int) != (exprParts op : Int)) = false := by unfold bne; rw [hb2]; rfl
      have HX3 : Hid (X = ored (if op = 0 then must (word m) 2 E0 else if op = 1 ∨ op = 2 then ored (must (updAll (knV p.vars) l s != 0) 6 s) (must ((updAll (knV p.vars) l s == 2) == (op == 2)) 11 s) else none) r) := Lib.hid (by rw [HX2.out]; unfold head1; rw [hb1, ← nat_beq, hb2]; rfl)
      (repeat (first | ((apply w3_pure); (· go_simp); (· (intro w1; go_simp; try with_reducible rfl)); (intro K hK; go_simp; refine hK _ _ ?_; clear hK K)) | ((apply w3_skip); (· go_simp); (intro K hK; go_simp; refine hK _ _ ?_; clear hK K)) | ((apply w3_take); (· exact HY0.out); (· go_simp); (· (intro w1 hS; have d4 := Blk.ext hE0.out hS; have d5 := Blk.cell d4; have d6 := d4.lt;  go_simp; try with_reducible rfl)); (intro K hK; go_simp; refine hK _ _ ?_; clear hK K)) | ((apply w3_pass); (· exact HY0.out); (· go_simp); (intro K hK; go_simp; refine hK _ _ ?_; clear hK K))))
      (repeat (first | ((apply w3_pure); (· go_simp); (· (intro w1; go_simp; try with_reducible rfl)); (intro K hK; go_simp; refine hK _ _ ?_; clear hK K)) | ((apply w3_skip); (· go_simp); (intro K hK; go_simp; refine hK _ _ ?_; clear hK K)) | (refine w3_end (by kernel_rfl) (fun K hK => ?_); go_simp; refine hK.out _ _ ?_; clear hK K))); refine w3_nil ?_
      have ys := HY0.out
      clear hb1 hb2 hb2n
      by_cases ho0 : op = 0
      · subst ho0
        have HX4 : Hid (X = ored (must (word m) 2 E0) r) := Lib.hid (by rw [HX3.out]; rfl)
        clear HX3
        go_wp2_with fail
        refine (word_any _ _).mono ?_
        rintro e w1 ⟨rfl, rfl⟩
        cases hw : word m
        · have HR := Lib.hid (show X = some ⟨2, E0⟩ by rw [HX4.out, hw]; rfl)
          have yr := ys
          have hDr := Blk.ext hR0.out yr
          have hmr := hDr.melts
          have hhr := Blk.has hDr
          go_wp2_with fail
          refine ret_cell (t := 38) (g := rb) (cs := fltC X) Tryd.results94 rfl rfl aggFaultR (by rw [HR.out]; exact sizeFaultR) (by rw [HR.out]; exact Blk.put_ hDr 0 _) ⟨rfl, ?_⟩
          exact (HX0.out.trans yr).putAt _ _ _ (fun hlt => absurd hlt (by have := HRW.out; omega))
        · have HXR := Lib.hid (show X = r by rw [HX4.out, hw]; rfl)
          go_wp2_with fail
          go_loopw [6] (fun t6 wr => ∃ (j : Nat) (R : EF), j + R.len = kn ∧ chkE (updAll (knV p.vars) l) R = r ∧ t6 = .int .i64 j ∧ EFAt w0 N0 R b (off + j * 4) ∧ EF.All (ExRC c (updAll (knV p.vars) l) A n k w0) R ∧ Ext W wr) (fun t6 _ => kn - (intOf t6).toNat)
          case atStart => exact ⟨0, F, by rw [HN.out, Nat.zero_add], HEQ.out, rfl, by simpa using HE.out, HI.out, ys⟩
          case round =>
            obtain ⟨j, R, hj, hacc, rfl, hR, hI, hx⟩ := hrel
            have HRR := Lib.hid hR
            have HI2 := Lib.hid hI
            have HX := Lib.hid hx
            have HACC := Lib.hid hacc
            have hkr := Blk.ext hK0.out hx
            have her := Blk.ext hE0.out hx
            have hce := Blk.cell her
            have hle := her.lt
            clear hR hI hx hacc
            cases R with
            | nil =>
              simp only [EF.len, Nat.add_zero] at hj
              subst hj
              have hr0 : r = none := by rw [← HACC.out]; rfl
              have HR0 := Lib.hid hr0
              clear hr0
              go_wp2_with fail
              refine (fine_any _).mono ?_
              rintro e w1 ⟨rfl, hx1⟩
              have hDr := Blk.ext hR0.out (HX.out.trans hx1)
              have hmr := hDr.melts
              have hhr := Blk.has hDr
              go_wp2_with fail
              refine ret_cell (t := 38) (g := rb) (cs := fltC X) Tryd.results94 rfl rfl aggFaultR (by rw [HXR.out, HR0.out]; exact sizeFaultR) (by rw [HXR.out, HR0.out]; exact Blk.put_ hDr 0 _) ⟨rfl, ?_⟩
              exact ((HX0.out.trans HX.out).trans hx1).putAt _ _ _ (fun hlt => absurd hlt (by have := HRW.out; omega))
            | cons op' m' name' q rr =>
              obtain ⟨hb, h1, h2, h3, ⟨A', cap, b', off', hh, hg, hl, hA', hk⟩, hr⟩ := HRR.out
              simp only [EF.len] at hj
              have hlt : (j : Int) < kn := by omega
              obtain rfl := HA.out (by omega)
              have hx0r := hx0.trans (HX0.out.trans HX.out)
              have hbl := hx0r.size
              have hh' := has_ext hx0r (by omega) hh
              have hg' := gets_ext hx0r (by omega) hg
              have hbw : b < wr.heap.size := by omega
              have KE := Lib.hid (show ESl w0 N0 A' q.len q from ⟨rfl, hl, b', off', hA', hk⟩)
              have IK := Lib.hid HI2.out.1
              have HX0r := Lib.hid hx0r
              have HR2 := Lib.hid hr
              have HH := Lib.hid hh'
              have HG := Lib.hid hg'
              have HKR := Lib.hid hkr
              have HER := Lib.hid her
              clear hh hg hl hA' hk h1 h2 h3 HRR hbl hx0r hr
              go_upto_region 14 with (fail)
              clear hh' hg' hce hle hkr her
              obtain ⟨f, hf⟩ : ∃ f, f = chk1 (updAll (knV p.vars) l) op' m' name' q := ⟨_, rfl⟩
              have HF := Lib.hid hf
              clear hf
              apply meet (F := fun W2 fb => Ext wr W2 ∧ Blk W2 fb 38 (fltC f))
              case h =>
                intro KEY0
                have KEY := Lib.hid KEY0
                clear KEY0
                refine wp_region_4 (fun w1 => Ext wr w1) (.op 0 1 (.op 1 2 (.op 2 1 (.op 3 2 (.op 4 2 (.op 5 1 (.fork 6 (.op 7 0 (.op 8 0 .nil)) 7 (.op 6 0 (.op 8 0 .nil))))))))) (by kernel_rfl) (by kernel_rfl) (by kernel_rfl) (by kernel_rfl) ?_; intro p' hp'; simp only [Pl0.fill, List.getD_cons_zero, List.getD_cons_succ] at hp'; subst hp'
                have HY0 := Lib.hid (show Ext wr wr.drew from (Kept.refl _ wr).drew)
                (repeat (first | ((apply w4_pure); (· go_simp); (· (intro w1; go_simp; try with_reducible rfl)); (intro K hK; go_simp; refine hK _ _ ?_; clear hK K)) | ((apply w4_skip); (· go_simp); (intro K hK; go_simp; refine hK _ _ ?_; clear hK K)) | ((apply w4_take); (· exact HY0.out); (· go_simp); (· (intro w1 hS; have d0 := Blk.ext HKR.out hS; have d1 := Blk.gets d0; have d2 := Blk.has d0; have d3 := d0.lt; have d4 := Blk.ext HER.out hS; have d5 := Blk.cell d4; have d6 := d4.lt; have d7 := has_ext hS hbw HH.out; have d8 := gets_ext hS hbw HG.out; have d9 := Nat.lt_of_lt_of_le hbw hS.size;  go_simp; try with_reducible rfl)); (intro K hK; go_simp; refine hK _ _ ?_; clear hK K)) | ((apply w4_pass); (· exact HY0.out); (· go_simp); (intro K hK; go_simp; refine hK _ _ ?_; clear hK K))))
                refine w4_fork ?_ ?_
                · (refine w4_act (fun K hK => ?_); go_simp)
                  refine (IK.out op' m' name' A' q.len cap N0 _ (HX0r.out.trans HY0.out) hN0 KE.out).mono ?_
                  rintro e w1 ⟨rfl, hx1⟩
                  rw [← HF.out]
                  have y1 := HY0.out.trans hx1
                  refine hK.out _ _ (fun _ => y1) ?_
                  clear hK K
                  (repeat (first | ((apply w4_pure); (· go_simp); (· (intro w1; go_simp; try with_reducible rfl)); (intro K hK; go_simp; refine hK _ _ ?_; clear hK K)) | ((apply w4_skip); (· go_simp); (intro K hK; go_simp; refine hK _ _ ?_; clear hK K))))
                  (refine w4_act (fun K hK => ?_); go_simp)
                  have y2 := y1.alloc (.cells #[.int .i64 0, .string ⟨#[]⟩] 38)
                  have hfb := Blk.new w1 38 #[.int .i64 0, .string ⟨#[]⟩]
                  refine hK.out _ _ (fun _ => y2) ?_
                  clear hK K
                  generalize hW2 : w1.alloc (.cells #[.int .i64 0, .string ⟨#[]⟩] 38) = W2 at y2 hfb ⊢
                  clear hW2
                  have hfl : wr.heap.size ≤ w1.heap.size := y1.size
                  generalize w1.heap.size = fb at hfb hfl ⊢
                  have hmf := hfb.melts
                  have hhf := Blk.has hfb
                  have hfc : (fltC f).size = 2 := by cases f <;> rfl
                  have hff : flatL (fltC f).toList = true := by cases f <;> rfl
                  (repeat (first | ((apply w4_pure); (· go_simp); (· (intro w1; go_simp; try with_reducible rfl)); (intro K hK; go_simp; refine hK _ _ ?_; clear hK K)) | ((apply w4_skip); (· go_simp); (intro K hK; go_simp; refine hK _ _ ?_; clear hK K))))
                  (refine w4_act (fun K hK => ?_); go_simp)
                  have y3 := y2.putAt fb 0 (fltC f) (fun hlt => absurd hlt (by omega))
                  have hf3 : Blk (putAt W2 fb 0 (fltC f)) fb 38 (fltC f) := by
                    have := Blk.put_ hfb 0 (fltC f)
                    cases f <;> exact this
                  refine hK.out _ _ (fun _ => y3) ?_
                  clear hK K hmf hhf hfc hff
                  (repeat (first | ((apply w4_pure); (· go_simp); (· (intro w1; go_simp; try with_reducible rfl)); (intro K hK; go_simp; refine hK _ _ ?_; clear hK K)) | ((apply w4_skip); (· go_simp); (intro K hK; go_simp; refine hK _ _ ?_; clear hK K)) | (refine w4_end (by kernel_rfl) (fun K hK => ?_); go_simp; refine hK.out _ _ ?_; clear hK K))); refine w4_nil ?_
                  generalize putAt W2 fb 0 (fltC f) = W3 at y3 hf3 ⊢
                  exact KEY.out _ _ ⟨y3, hf3⟩
                · (refine w4_act (fun K hK => ?_); go_simp)
                  have y1 : Ext wr (wr.alloc (.cells #[.int .i64 0, .string ⟨#[]⟩] 38)).drew := ((Kept.refl _ wr).alloc _).drew
                  refine hK.out _ _ (fun _ => y1) ?_
                  clear hK K
                  generalize hW1 : (wr.alloc (.cells #[.int .i64 0, .string ⟨#[]⟩] 38)).drew = W1 at y1 ⊢
                  have hfb1 : Blk W1 wr.heap.size 38 #[.int .i64 0, .string ⟨#[]⟩] := by rw [← hW1]; exact Blk.drew (Blk.new wr _ _)
                  clear hW1
                  have hfl : wr.heap.size ≤ wr.heap.size := Nat.le_refl _
                  generalize hfbe : (wr.heap.size : Nat) = fb at hfb1 hfl ⊢
                  have HFL := Lib.hid (show wr.heap.size ≤ fb by omega)
                  clear hfl hfbe
                  have HY1 := Lib.hid y1
                  (repeat (first | ((apply w4_pure); (· go_simp); (· (intro w1; go_simp; try with_reducible rfl)); (intro K hK; go_simp; refine hK _ _ ?_; clear hK K)) | ((apply w4_skip); (· go_simp); (intro K hK; go_simp; refine hK _ _ ?_; clear hK K))))
                  (repeat (first | ((apply w4_pure); (· go_simp); (· (intro w1; go_simp; try with_reducible rfl)); (intro K hK; go_simp; refine hK _ _ ?_; clear hK K)) | ((apply w4_skip); (· go_simp); (intro K hK; go_simp; refine hK _ _ ?_; clear hK K)) | ((apply w4_take); (· exact HY1.out); (· go_simp); (· (intro w1 hS; have d0 := Blk.ext HKR.out hS; have d1 := Blk.gets d0; have d2 := Blk.has d0; have d3 := d0.lt; have d4 := Blk.ext HER.out hS; have d5 := Blk.cell d4; have d6 := d4.lt; have d7 := has_ext hS hbw HH.out; have d8 := gets_ext hS hbw HG.out; have d9 := Nat.lt_of_lt_of_le hbw hS.size;  go_simp; try with_reducible rfl)); (intro K hK; go_simp; refine hK _ _ ?_; clear hK K)) | ((apply w4_pass); (· exact HY1.out); (· go_simp); (intro K hK; go_simp; refine hK _ _ ?_; clear hK K))))
                  (refine w4_act (fun K hK => ?_); go_simp)
                  refine (IK.out op' m' name' A' q.len cap N0 _ (HX0r.out.trans HY1.out) hN0 KE.out).mono ?_
                  rintro e w1 ⟨rfl, hx1⟩
                  rw [← HF.out]
                  have y2 := HY1.out.trans hx1
                  refine hK.out _ _ (fun _ => y2) ?_
                  clear hK K y1
                  have hfb2 := Blk.ext hfb1 hx1
                  have hmf := hfb2.melts
                  have hhf := Blk.has hfb2
                  have hfc : (fltC f).size = 2 := by cases f <;> rfl
                  have hff : flatL (fltC f).toList = true := by cases f <;> rfl
                  (repeat (first | ((apply w4_pure); (· go_simp); (· (intro w1; go_simp; try with_reducible rfl)); (intro K hK; go_simp; refine hK _ _ ?_; clear hK K)) | ((apply w4_skip); (· go_simp); (intro K hK; go_simp; refine hK _ _ ?_; clear hK K))))
                  (refine w4_act (fun K hK => ?_); go_simp)
                  have y3 := y2.putAt fb 0 (fltC f) (fun hlt => absurd hlt (by have := HFL.out; omega))
                  have hf3 : Blk (putAt w1 fb 0 (fltC f)) fb 38 (fltC f) := by
                    have := Blk.put_ hfb2 0 (fltC f)
                    cases f <;> exact this
                  refine hK.out _ _ (fun _ => y3) ?_
                  clear hK K hmf hhf hfc hff
                  (repeat (first | ((apply w4_pure); (· go_simp); (· (intro w1; go_simp; try with_reducible rfl)); (intro K hK; go_simp; refine hK _ _ ?_; clear hK K)) | ((apply w4_skip); (· go_simp); (intro K hK; go_simp; refine hK _ _ ?_; clear hK K)) | (refine w4_end (by kernel_rfl) (fun K hK => ?_); go_simp; refine hK.out _ _ ?_; clear hK K))); refine w4_nil ?_
                  generalize putAt w1 fb 0 (fltC f) = W3 at y3 hf3 ⊢
                  exact KEY.out _ _ ⟨y3, hf3⟩
              case h2 =>
                rintro W2 fb ⟨y2, hfb⟩
                have HFB := Lib.hid hfb
                have HY2 := Lib.hid y2
                clear hfb y2
                cases f with
                | none =>
                  have HNX := Lib.hid (show chkE (updAll (knV p.vars) l) rr = r by have h := HACC.out; rw [chkE_cons, ← HF.out] at h; exact h)
                  go_upto_region 15 with (fail)
                  refine wp_region_3 (fun w1 => Ext W2 w1) [(0, 1), (1, 0), (2, 2)] (by kernel_rfl) (by kernel_rfl) (by kernel_rfl) (by kernel_rfl) ?_; intro l' hl'; simp only [List.map_cons, List.map_nil, List.getD_cons_zero, List.getD_cons_succ] at hl'; subst hl'
                  have HZ0 := Lib.hid (show Ext W2 W2.drew from (Kept.refl _ W2).drew)
                  (repeat (first | ((apply w3_pure); (· go_simp); (· (intro w1; go_simp; try with_reducible rfl)); (intro K hK; go_simp; refine hK _ _ ?_; clear hK K)) | ((apply w3_skip); (· go_simp); (intro K hK; go_simp; refine hK _ _ ?_; clear hK K)) | ((apply w3_take); (· exact HZ0.out); (· go_simp); (· (intro w1 hS; have d0 := Blk.ext HFB.out hS; have d1 := Blk.gets d0; have d2 := Blk.has d0; have d3 := d0.lt;  go_simp; try with_reducible rfl)); (intro K hK; go_simp; refine hK _ _ ?_; clear hK K)) | ((apply w3_pass); (· exact HZ0.out); (· go_simp); (intro K hK; go_simp; refine hK _ _ ?_; clear hK K))))
                  (refine w3_act (fun K hK => ?_); go_simp)
                  refine (fine_any _).mono ?_
                  rintro e w1 ⟨rfl, hx1⟩
                  have HZ1 := Lib.hid (HZ0.out.trans hx1)
                  refine hK.out _ _ (fun _ => HZ1.out) ?_
                  clear hK K hx1
                  (repeat (first | ((apply w3_pure); (· go_simp); (· (intro w1; go_simp; try with_reducible rfl)); (intro K hK; go_simp; refine hK _ _ ?_; clear hK K)) | ((apply w3_skip); (· go_simp); (intro K hK; go_simp; refine hK _ _ ?_; clear hK K)) | (refine w3_end (by kernel_rfl) (fun K hK => ?_); go_simp; refine hK.out _ _ ?_; clear hK K))); refine w3_nil ?_
                  go_wp2_with fail
                  go_roundw
                  case rel => exact ⟨j + 1, rr, by omega, HNX.out, by go_num, by rw [Nat.add_mul, ← Nat.add_assoc]; exact HR2.out, HI2.out.2, (HX.out.trans HY2.out).trans HZ1.out⟩
                  case measure => simp only [intOf]; omega
                | some f =>
                  obtain ⟨fe, fn⟩ := f
                  have hnz : (fe == 0) = false := by simpa using nz_chk1 (updAll (knV p.vars) l) op' m' name' q ⟨fe, fn⟩ HF.out.symm
                  have HRF := Lib.hid (show X = some ⟨fe, fn⟩ by have h := HACC.out; rw [chkE_cons, ← HF.out] at h; rw [HXR.out, ← h]; rfl)
                  go_upto_region 15 with (fail)
                  refine wp_region_3 (fun w1 => Ext W2 w1) [(0, 1), (1, 0), (2, 2)] (by kernel_rfl) (by kernel_rfl) (by kernel_rfl) (by kernel_rfl) ?_; intro l' hl'; simp only [List.map_cons, List.map_nil, List.getD_cons_zero, List.getD_cons_succ] at hl'; subst hl'
                  have HZ0 := Lib.hid (show Ext W2 W2.drew from (Kept.refl _ W2).drew)
                  (repeat (first | ((apply w3_pure); (· go_simp); (· (intro w1; go_simp; try with_reducible rfl)); (intro K hK; go_simp; refine hK _ _ ?_; clear hK K)) | ((apply w3_skip); (· go_simp); (intro K hK; go_simp; refine hK _ _ ?_; clear hK K)) | ((apply w3_take); (· exact HZ0.out); (· go_simp); (· (intro w1 hS; have d0 := Blk.ext HFB.out hS; have d1 := Blk.gets d0; have d2 := Blk.has d0; have d3 := d0.lt;  go_simp; try with_reducible rfl)); (intro K hK; go_simp; refine hK _ _ ?_; clear hK K)) | ((apply w3_pass); (· exact HZ0.out); (· go_simp); (intro K hK; go_simp; refine hK _ _ ?_; clear hK K))))
                  (refine w3_act (fun K hK => ?_); go_simp)
                  refine (fine_any _).mono ?_
                  rintro e w1 ⟨rfl, hx1⟩
                  have HZ1 := Lib.hid (HZ0.out.trans hx1)
                  refine hK.out _ _ (fun _ => HZ1.out) ?_
                  clear hK K hx1
                  (repeat (first | ((apply w3_pure); (· go_simp); (· (intro w1; go_simp; try with_reducible rfl)); (intro K hK; go_simp; refine hK _ _ ?_; clear hK K)) | ((apply w3_skip); (· go_simp); (intro K hK; go_simp; refine hK _ _ ?_; clear hK K)) | (refine w3_end (by kernel_rfl) (fun K hK => ?_); go_simp; refine hK.out _ _ ?_; clear hK K))); refine w3_nil ?_
                  have hDr := Blk.ext hR0.out ((HX.out.trans HY2.out).trans HZ1.out)
                  have hmr := hDr.melts
                  have hhr := Blk.has hDr
                  have hFr := Blk.ext HFB.out HZ1.out
                  have hgf := Blk.gets hFr
                  have hhf := Blk.has hFr
                  have hlf := hFr.lt
                  go_wp2_with fail
                  refine ret_cell (t := 38) (g := rb) (cs := fltC X) Tryd.results94 rfl rfl aggFaultR (by rw [HRF.out]; exact sizeFaultR) (by rw [HRF.out]; exact Blk.put_ hDr 0 _) ⟨rfl, ?_⟩
                  exact ((HX0.out.trans HX.out).trans (HY2.out.trans HZ1.out)).putAt _ _ _ (fun hlt => absurd hlt (by have := HRW.out; omega))
      · have q0 : (op == 0) = false := by simpa using ho0
        by_cases ho1 : op = 1
        · subst ho1
          have HX4 : Hid (X = ored (ored (must (updAll (knV p.vars) l s != 0) 6 s) (must ((updAll (knV p.vars) l s == 2) == false) 11 s)) r) := Lib.hid (by rw [HX3.out]; rfl)
          clear HX3
          have yK := Blk.ext hK0.out ys
          have hgK := Blk.gets yK
          have hhK := Blk.has yK
          have hlK := yK.lt
          go_wp2_with fail
          refine (sort_any c p A n k l s N _ (Nat.le_trans hN (hx0.trans (HX0.out.trans ys)).size) (HP.out.ext (hx0.trans (HX0.out.trans ys)) hN) (HL.out.ext (hx0.trans (HX0.out.trans ys)))).mono ?_
          rintro e w1 ⟨rfl, hxs⟩
          obtain ⟨v, hv⟩ : ∃ v, v = updAll (knV p.vars) l s := ⟨_, rfl⟩
          rw [← hv]
          have HV := Lib.hid hv
          have yt := ys.trans hxs
          have hcE2 := Blk.cell (Blk.ext hE0.out yt)
          clear hv hcE hgK hhK hlK yK
          by_cases hv0 : v = 0
          · subst hv0
            have HR := Lib.hid (show X = some ⟨6, s⟩ by rw [HX4.out, ← HV.out]; rfl)
            have yr := yt
            have hDr := Blk.ext hR0.out yr
            have hmr := hDr.melts
            have hhr := Blk.has hDr
            go_wp2_with fail
            refine ret_cell (t := 38) (g := rb) (cs := fltC X) Tryd.results94 rfl rfl aggFaultR (by rw [HR.out]; exact sizeFaultR) (by rw [HR.out]; exact Blk.put_ hDr 0 _) ⟨rfl, ?_⟩
            exact (HX0.out.trans yr).putAt _ _ _ (fun hlt => absurd hlt (by have := HRW.out; omega))
          · have qv0 : ((v : Int) == 0) = false := by simp; omega
            by_cases hv2 : v = 2
            · subst hv2
              have HR := Lib.hid (show X = some ⟨11, s⟩ by rw [HX4.out, ← HV.out]; rfl)
              have yr := yt
              have hDr := Blk.ext hR0.out yr
              have hmr := hDr.melts
              have hhr := Blk.has hDr
              go_wp2_with fail
              refine ret_cell (t := 38) (g := rb) (cs := fltC X) Tryd.results94 rfl rfl aggFaultR (by rw [HR.out]; exact sizeFaultR) (by rw [HR.out]; exact Blk.put_ hDr 0 _) ⟨rfl, ?_⟩
              exact (HX0.out.trans yr).putAt _ _ _ (fun hlt => absurd hlt (by have := HRW.out; omega))
            · have qv2 : ((v : Int) == 2) = false := by simp; omega
              have HXR := Lib.hid (show X = r by rw [HX4.out, ← HV.out]; have h1 : (v == 0) = false := (by simpa using hv0); have h2 : (v == 2) = false := (by simpa using hv2); simp [h1, h2, bne])
              have ys := yt
              have hcE := hcE2
              go_wp2_with fail
              go_loopw [6] (fun t6 wr => ∃ (j : Nat) (R : EF), j + R.len = kn ∧ chkE (updAll (knV p.vars) l) R = r ∧ t6 = .int .i64 j ∧ EFAt w0 N0 R b (off + j * 4) ∧ EF.All (ExRC c (updAll (knV p.vars) l) A n k w0) R ∧ Ext W wr) (fun t6 _ => kn - (intOf t6).toNat)
              case atStart => exact ⟨0, F, by rw [HN.out, Nat.zero_add], HEQ.out, rfl, by simpa using HE.out, HI.out, ys⟩
              case round =>
                obtain ⟨j, R, hj, hacc, rfl, hR, hI, hx⟩ := hrel
                have HRR := Lib.hid hR
                have HI2 := Lib.hid hI
                have HX := Lib.hid hx
                have HACC := Lib.hid hacc
                have hkr := Blk.ext hK0.out hx
                have her := Blk.ext hE0.out hx
                have hce := Blk.cell her
                have hle := her.lt
                clear hR hI hx hacc
                cases R with
                | nil =>
                  simp only [EF.len, Nat.add_zero] at hj
                  subst hj
                  have hr0 : r = none := by rw [← HACC.out]; rfl
                  have HR0 := Lib.hid hr0
                  clear hr0
                  go_wp2_with fail
                  refine (fine_any _).mono ?_
                  rintro e w1 ⟨rfl, hx1⟩
                  have hDr := Blk.ext hR0.out (HX.out.trans hx1)
                  have hmr := hDr.melts
                  have hhr := Blk.has hDr
                  go_wp2_with fail
                  refine ret_cell (t := 38) (g := rb) (cs := fltC X) Tryd.results94 rfl rfl aggFaultR (by rw [HXR.out, HR0.out]; exact sizeFaultR) (by rw [HXR.out, HR0.out]; exact Blk.put_ hDr 0 _) ⟨rfl, ?_⟩
                  exact ((HX0.out.trans HX.out).trans hx1).putAt _ _ _ (fun hlt => absurd hlt (by have := HRW.out; omega))
                | cons op' m' name' q rr =>
                  obtain ⟨hb, h1, h2, h3, ⟨A', cap, b', off', hh, hg, hl, hA', hk⟩, hr⟩ := HRR.out
                  simp only [EF.len] at hj
                  have hlt : (j : Int) < kn := by omega
                  obtain rfl := HA.out (by omega)
                  have hx0r := hx0.trans (HX0.out.trans HX.out)
                  have hbl := hx0r.size
                  have hh' := has_ext hx0r (by omega) hh
                  have hg' := gets_ext hx0r (by omega) hg
                  have hbw : b < wr.heap.size := by omega
                  have KE := Lib.hid (show ESl w0 N0 A' q.len q from ⟨rfl, hl, b', off', hA', hk⟩)
                  have IK := Lib.hid HI2.out.1
                  have HX0r := Lib.hid hx0r
                  have HR2 := Lib.hid hr
                  have HH := Lib.hid hh'
                  have HG := Lib.hid hg'
                  have HKR := Lib.hid hkr
                  have HER := Lib.hid her
                  clear hh hg hl hA' hk h1 h2 h3 HRR hbl hx0r hr
                  go_upto_region 14 with (fail)
                  clear hh' hg' hce hle hkr her
                  obtain ⟨f, hf⟩ : ∃ f, f = chk1 (updAll (knV p.vars) l) op' m' name' q := ⟨_, rfl⟩
                  have HF := Lib.hid hf
                  clear hf
                  apply meet (F := fun W2 fb => Ext wr W2 ∧ Blk W2 fb 38 (fltC f))
                  case h =>
                    intro KEY0
                    have KEY := Lib.hid KEY0
                    clear KEY0
                    refine wp_region_4 (fun w1 => Ext wr w1) (.op 0 1 (.op 1 2 (.op 2 1 (.op 3 2 (.op 4 2 (.op 5 1 (.fork 6 (.op 7 0 (.op 8 0 .nil)) 7 (.op 6 0 (.op 8 0 .nil))))))))) (by kernel_rfl) (by kernel_rfl) (by kernel_rfl) (by kernel_rfl) ?_; intro p' hp'; simp only [Pl0.fill, List.getD_cons_zero, List.getD_cons_succ] at hp'; subst hp'
                    have HY0 := Lib.hid (show Ext wr wr.drew from (Kept.refl _ wr).drew)
                    (repeat (first | ((apply w4_pure); (· go_simp); (· (intro w1; go_simp; try with_reducible rfl)); (intro K hK; go_simp; refine hK _ _ ?_; clear hK K)) | ((apply w4_skip); (· go_simp); (intro K hK; go_simp; refine hK _ _ ?_; clear hK K)) | ((apply w4_take); (· exact HY0.out); (· go_simp); (· (intro w1 hS; have d0 := Blk.ext HKR.out hS; have d1 := Blk.gets d0; have d2 := Blk.has d0; have d3 := d0.lt; have d4 := Blk.ext HER.out hS; have d5 := Blk.cell d4; have d6 := d4.lt; have d7 := has_ext hS hbw HH.out; have d8 := gets_ext hS hbw HG.out; have d9 := Nat.lt_of_lt_of_le hbw hS.size;  go_simp; try with_reducible rfl)); (intro K hK; go_simp; refine hK _ _ ?_; clear hK K)) | ((apply w4_pass); (· exact HY0.out); (· go_simp); (intro K hK; go_simp; refine hK _ _ ?_; clear hK K))))
                    refine w4_fork ?_ ?_
                    · (refine w4_act (fun K hK => ?_); go_simp)
                      refine (IK.out op' m' name' A' q.len cap N0 _ (HX0r.out.trans HY0.out) hN0 KE.out).mono ?_
                      rintro e w1 ⟨rfl, hx1⟩
                      rw [← HF.out]
                      have y1 := HY0.out.trans hx1
                      refine hK.out _ _ (fun _ => y1) ?_
                      clear hK K
                      (repeat (first | ((apply w4_pure); (· go_simp); (· (intro w1; go_simp; try with_reducible rfl)); (intro K hK; go_simp; refine hK _ _ ?_; clear hK K)) | ((apply w4_skip); (· go_simp); (intro K hK; go_simp; refine hK _ _ ?_; clear hK K))))
                      (refine w4_act (fun K hK => ?_); go_simp)
                      have y2 := y1.alloc (.cells #[.int .i64 0, .string ⟨#[]⟩] 38)
                      have hfb := Blk.new w1 38 #[.int .i64 0, .string ⟨#[]⟩]
                      refine hK.out _ _ (fun _ => y2) ?_
                      clear hK K
                      generalize hW2 : w1.alloc (.cells #[.int .i64 0, .string ⟨#[]⟩] 38) = W2 at y2 hfb ⊢
                      clear hW2
                      have hfl : wr.heap.size ≤ w1.heap.size := y1.size
                      generalize w1.heap.size = fb at hfb hfl ⊢
                      have hmf := hfb.melts
                      have hhf := Blk.has hfb
                      have hfc : (fltC f).size = 2 := by cases f <;> rfl
                      have hff : flatL (fltC f).toList = true := by cases f <;> rfl
                      (repeat (first | ((apply w4_pure); (· go_simp); (· (intro w1; go_simp; try with_reducible rfl)); (intro K hK; go_simp; refine hK _ _ ?_; clear hK K)) | ((apply w4_skip); (· go_simp); (intro K hK; go_simp; refine hK _ _ ?_; clear hK K))))
                      (refine w4_act (fun K hK => ?_); go_simp)
                      have y3 := y2.putAt fb 0 (fltC f) (fun hlt => absurd hlt (by omega))
                      have hf3 : Blk (putAt W2 fb 0 (fltC f)) fb 38 (fltC f) := by
                        have := Blk.put_ hfb 0 (fltC f)
                        cases f <;> exact this
                      refine hK.out _ _ (fun _ => y3) ?_
                      clear hK K hmf hhf hfc hff
                      (repeat (first | ((apply w4_pure); (· go_simp); (· (intro w1; go_simp; try with_reducible rfl)); (intro K hK; go_simp; refine hK _ _ ?_; clear hK K)) | ((apply w4_skip); (· go_simp); (intro K hK; go_simp; refine hK _ _ ?_; clear hK K)) | (refine w4_end (by kernel_rfl) (fun K hK => ?_); go_simp; refine hK.out _ _ ?_; clear hK K))); refine w4_nil ?_
                      generalize putAt W2 fb 0 (fltC f) = W3 at y3 hf3 ⊢
                      exact KEY.out _ _ ⟨y3, hf3⟩
                    · (refine w4_act (fun K hK => ?_); go_simp)
                      have y1 : Ext wr (wr.alloc (.cells #[.int .i64 0, .string ⟨#[]⟩] 38)).drew := ((Kept.refl _ wr).alloc _).drew
                      refine hK.out _ _ (fun _ => y1) ?_
                      clear hK K
                      generalize hW1 : (wr.alloc (.cells #[.int .i64 0, .string ⟨#[]⟩] 38)).drew = W1 at y1 ⊢
                      have hfb1 : Blk W1 wr.heap.size 38 #[.int .i64 0, .string ⟨#[]⟩] := by rw [← hW1]; exact Blk.drew (Blk.new wr _ _)
                      clear hW1
                      have hfl : wr.heap.size ≤ wr.heap.size := Nat.le_refl _
                      generalize hfbe : (wr.heap.size : Nat) = fb at hfb1 hfl ⊢
                      have HFL := Lib.hid (show wr.heap.size ≤ fb by omega)
                      clear hfl hfbe
                      have HY1 := Lib.hid y1
                      (repeat (first | ((apply w4_pure); (· go_simp); (· (intro w1; go_simp; try with_reducible rfl)); (intro K hK; go_simp; refine hK _ _ ?_; clear hK K)) | ((apply w4_skip); (· go_simp); (intro K hK; go_simp; refine hK _ _ ?_; clear hK K))))
                      (repeat (first | ((apply w4_pure); (· go_simp); (· (intro w1; go_simp; try with_reducible rfl)); (intro K hK; go_simp; refine hK _ _ ?_; clear hK K)) | ((apply w4_skip); (· go_simp); (intro K hK; go_simp; refine hK _ _ ?_; clear hK K)) | ((apply w4_take); (· exact HY1.out); (· go_simp); (· (intro w1 hS; have d0 := Blk.ext HKR.out hS; have d1 := Blk.gets d0; have d2 := Blk.has d0; have d3 := d0.lt; have d4 := Blk.ext HER.out hS; have d5 := Blk.cell d4; have d6 := d4.lt; have d7 := has_ext hS hbw HH.out; have d8 := gets_ext hS hbw HG.out; have d9 := Nat.lt_of_lt_of_le hbw hS.size;  go_simp; try with_reducible rfl)); (intro K hK; go_simp; refine hK _ _ ?_; clear hK K)) | ((apply w4_pass); (· exact HY1.out); (· go_simp); (intro K hK; go_simp; refine hK _ _ ?_; clear hK K))))
                      (refine w4_act (fun K hK => ?_); go_simp)
                      refine (IK.out op' m' name' A' q.len cap N0 _ (HX0r.out.trans HY1.out) hN0 KE.out).mono ?_
                      rintro e w1 ⟨rfl, hx1⟩
                      rw [← HF.out]
                      have y2 := HY1.out.trans hx1
                      refine hK.out _ _ (fun _ => y2) ?_
                      clear hK K y1
                      have hfb2 := Blk.ext hfb1 hx1
                      have hmf := hfb2.melts
                      have hhf := Blk.has hfb2
                      have hfc : (fltC f).size = 2 := by cases f <;> rfl
                      have hff : flatL (fltC f).toList = true := by cases f <;> rfl
                      (repeat (first | ((apply w4_pure); (· go_simp); (· (intro w1; go_simp; try with_reducible rfl)); (intro K hK; go_simp; refine hK _ _ ?_; clear hK K)) | ((apply w4_skip); (· go_simp); (intro K hK; go_simp; refine hK _ _ ?_; clear hK K))))
                      (refine w4_act (fun K hK => ?_); go_simp)
                      have y3 := y2.putAt fb 0 (fltC f) (fun hlt => absurd hlt (by have := HFL.out; omega))
                      have hf3 : Blk (putAt w1 fb 0 (fltC f)) fb 38 (fltC f) := by
                        have := Blk.put_ hfb2 0 (fltC f)
                        cases f <;> exact this
                      refine hK.out _ _ (fun _ => y3) ?_
                      clear hK K hmf hhf hfc hff
                      (repeat (first | ((apply w4_pure); (· go_simp); (· (intro w1; go_simp; try with_reducible rfl)); (intro K hK; go_simp; refine hK _ _ ?_; clear hK K)) | ((apply w4_skip); (· go_simp); (intro K hK; go_simp; refine hK _ _ ?_; clear hK K)) | (refine w4_end (by kernel_rfl) (fun K hK => ?_); go_simp; refine hK.out _ _ ?_; clear hK K))); refine w4_nil ?_
                      generalize putAt w1 fb 0 (fltC f) = W3 at y3 hf3 ⊢
                      exact KEY.out _ _ ⟨y3, hf3⟩
                  case h2 =>
                    rintro W2 fb ⟨y2, hfb⟩
                    have HFB := Lib.hid hfb
                    have HY2 := Lib.hid y2
                    clear hfb y2
                    cases f with
                    | none =>
                      have HNX := Lib.hid (show chkE (updAll (knV p.vars) l) rr = r by have h := HACC.out; rw [chkE_cons, ← HF.out] at h; exact h)
                      go_upto_region 15 with (fail)
                      refine wp_region_3 (fun w1 => Ext W2 w1) [(0, 1), (1, 0), (2, 2)] (by kernel_rfl) (by kernel_rfl) (by kernel_rfl) (by kernel_rfl) ?_; intro l' hl'; simp only [List.map_cons, List.map_nil, List.getD_cons_zero, List.getD_cons_succ] at hl'; subst hl'
                      have HZ0 := Lib.hid (show Ext W2 W2.drew from (Kept.refl _ W2).drew)
                      (repeat (first | ((apply w3_pure); (· go_simp); (· (intro w1; go_simp; try with_reducible rfl)); (intro K hK; go_simp; refine hK _ _ ?_; clear hK K)) | ((apply w3_skip); (· go_simp); (intro K hK; go_simp; refine hK _ _ ?_; clear hK K)) | ((apply w3_take); (· exact HZ0.out); (· go_simp); (· (intro w1 hS; have d0 := Blk.ext HFB.out hS; have d1 := Blk.gets d0; have d2 := Blk.has d0; have d3 := d0.lt;  go_simp; try with_reducible rfl)); (intro K hK; go_simp; refine hK _ _ ?_; clear hK K)) | ((apply w3_pass); (· exact HZ0.out); (· go_simp); (intro K hK; go_simp; refine hK _ _ ?_; clear hK K))))
                      (refine w3_act (fun K hK => ?_); go_simp)
                      refine (fine_any _).mono ?_
                      rintro e w1 ⟨rfl, hx1⟩
                      have HZ1 := Lib.hid (HZ0.out.trans hx1)
                      refine hK.out _ _ (fun _ => HZ1.out) ?_
                      clear hK K hx1
                      (repeat (first | ((apply w3_pure); (· go_simp); (· (intro w1; go_simp; try with_reducible rfl)); (intro K hK; go_simp; refine hK _ _ ?_; clear hK K)) | ((apply w3_skip); (· go_simp); (intro K hK; go_simp; refine hK _ _ ?_; clear hK K)) | (refine w3_end (by kernel_rfl) (fun K hK => ?_); go_simp; refine hK.out _ _ ?_; clear hK K))); refine w3_nil ?_
                      go_wp2_with fail
                      go_roundw
                      case rel => exact ⟨j + 1, rr, by omega, HNX.out, by go_num, by rw [Nat.add_mul, ← Nat.add_assoc]; exact HR2.out, HI2.out.2, (HX.out.trans HY2.out).trans HZ1.out⟩
                      case measure => simp only [intOf]; omega
                    | some f =>
                      obtain ⟨fe, fn⟩ := f
                      have hnz : (fe == 0) = false := by simpa using nz_chk1 (updAll (knV p.vars) l) op' m' name' q ⟨fe, fn⟩ HF.out.symm
                      have HRF := Lib.hid (show X = some ⟨fe, fn⟩ by have h := HACC.out; rw [chkE_cons, ← HF.out] at h; rw [HXR.out, ← h]; rfl)
                      go_upto_region 15 with (fail)
                      refine wp_region_3 (fun w1 => Ext W2 w1) [(0, 1), (1, 0), (2, 2)] (by kernel_rfl) (by kernel_rfl) (by kernel_rfl) (by kernel_rfl) ?_; intro l' hl'; simp only [List.map_cons, List.map_nil, List.getD_cons_zero, List.getD_cons_succ] at hl'; subst hl'
                      have HZ0 := Lib.hid (show Ext W2 W2.drew from (Kept.refl _ W2).drew)
                      (repeat (first | ((apply w3_pure); (· go_simp); (· (intro w1; go_simp; try with_reducible rfl)); (intro K hK; go_simp; refine hK _ _ ?_; clear hK K)) | ((apply w3_skip); (· go_simp); (intro K hK; go_simp; refine hK _ _ ?_; clear hK K)) | ((apply w3_take); (· exact HZ0.out); (· go_simp); (· (intro w1 hS; have d0 := Blk.ext HFB.out hS; have d1 := Blk.gets d0; have d2 := Blk.has d0; have d3 := d0.lt;  go_simp; try with_reducible rfl)); (intro K hK; go_simp; refine hK _ _ ?_; clear hK K)) | ((apply w3_pass); (· exact HZ0.out); (· go_simp); (intro K hK; go_simp; refine hK _ _ ?_; clear hK K))))
                      (refine w3_act (fun K hK => ?_); go_simp)
                      refine (fine_any _).mono ?_
                      rintro e w1 ⟨rfl, hx1⟩
                      have HZ1 := Lib.hid (HZ0.out.trans hx1)
                      refine hK.out _ _ (fun _ => HZ1.out) ?_
                      clear hK K hx1
                      (repeat (first | ((apply w3_pure); (· go_simp); (· (intro w1; go_simp; try with_reducible rfl)); (intro K hK; go_simp; refine hK _ _ ?_; clear hK K)) | ((apply w3_skip); (· go_simp); (intro K hK; go_simp; refine hK _ _ ?_; clear hK K)) | (refine w3_end (by kernel_rfl) (fun K hK => ?_); go_simp; refine hK.out _ _ ?_; clear hK K))); refine w3_nil ?_
                      have hDr := Blk.ext hR0.out ((HX.out.trans HY2.out).trans HZ1.out)
                      have hmr := hDr.melts
                      have hhr := Blk.has hDr
                      have hFr := Blk.ext HFB.out HZ1.out
                      have hgf := Blk.gets hFr
                      have hhf := Blk.has hFr
                      have hlf := hFr.lt
                      go_wp2_with fail
                      refine ret_cell (t := 38) (g := rb) (cs := fltC X) Tryd.results94 rfl rfl aggFaultR (by rw [HRF.out]; exact sizeFaultR) (by rw [HRF.out]; exact Blk.put_ hDr 0 _) ⟨rfl, ?_⟩
                      exact ((HX0.out.trans HX.out).trans (HY2.out.trans HZ1.out)).putAt _ _ _ (fun hlt => absurd hlt (by have := HRW.out; omega))
        · have q1 : (op == 1) = false := by simpa using ho1
          by_cases ho2 : op = 2
          · subst ho2
            have HX4 : Hid (X = ored (ored (must (updAll (knV p.vars) l s != 0) 6 s) (must ((updAll (knV p.vars) l s == 2) == true) 11 s)) r) := Lib.hid (by rw [HX3.out]; rfl)
            clear HX3
            have yK := Blk.ext hK0.out ys
            have hgK := Blk.gets yK
            have hhK := Blk.has yK
            have hlK := yK.lt
            go_wp2_with fail
            refine (sort_any c p A n k l s N _ (Nat.le_trans hN (hx0.trans (HX0.out.trans ys)).size) (HP.out.ext (hx0.trans (HX0.out.trans ys)) hN) (HL.out.ext (hx0.trans (HX0.out.trans ys)))).mono ?_
            rintro e w1 ⟨rfl, hxs⟩
            obtain ⟨v, hv⟩ : ∃ v, v = updAll (knV p.vars) l s := ⟨_, rfl⟩
            rw [← hv]
            have HV := Lib.hid hv
            have yt := ys.trans hxs
            have hcE2 := Blk.cell (Blk.ext hE0.out yt)
            clear hv hcE hgK hhK hlK yK
            by_cases hv0 : v = 0
            · subst hv0
              have HR := Lib.hid (show X = some ⟨6, s⟩ by rw [HX4.out, ← HV.out]; rfl)
              have yr := yt
              have hDr := Blk.ext hR0.out yr
              have hmr := hDr.melts
              have hhr := Blk.has hDr
              go_wp2_with fail
              refine ret_cell (t := 38) (g := rb) (cs := fltC X) Tryd.results94 rfl rfl aggFaultR (by rw [HR.out]; exact sizeFaultR) (by rw [HR.out]; exact Blk.put_ hDr 0 _) ⟨rfl, ?_⟩
              exact (HX0.out.trans yr).putAt _ _ _ (fun hlt => absurd hlt (by have := HRW.out; omega))
            · have qv0 : ((v : Int) == 0) = false := by simp; omega
              by_cases hv2 : v = 2
              · subst hv2
                have HXR := Lib.hid (show X = r by rw [HX4.out, ← HV.out]; rfl)
                have ys := yt
                have hcE := hcE2
                go_wp2_with fail
                go_loopw [6] (fun t6 wr => ∃ (j : Nat) (R : EF), j + R.len = kn ∧ chkE (updAll (knV p.vars) l) R = r ∧ t6 = .int .i64 j ∧ EFAt w0 N0 R b (off + j * 4) ∧ EF.All (ExRC c (updAll (knV p.vars) l) A n k w0) R ∧ Ext W wr) (fun t6 _ => kn - (intOf t6).toNat)
                case atStart => exact ⟨0, F, by rw [HN.out, Nat.zero_add], HEQ.out, rfl, by simpa using HE.out, HI.out, ys⟩
                case round =>
                  obtain ⟨j, R, hj, hacc, rfl, hR, hI, hx⟩ := hrel
                  have HRR := Lib.hid hR
                  have HI2 := Lib.hid hI
                  have HX := Lib.hid hx
                  have HACC := Lib.hid hacc
                  have hkr := Blk.ext hK0.out hx
                  have her := Blk.ext hE0.out hx
                  have hce := Blk.cell her
                  have hle := her.lt
                  clear hR hI hx hacc
                  cases R with
                  | nil =>
                    simp only [EF.len, Nat.add_zero] at hj
                    subst hj
                    have hr0 : r = none := by rw [← HACC.out]; rfl
                    have HR0 := Lib.hid hr0
                    clear hr0
                    go_wp2_with fail
                    refine (fine_any _).mono ?_
                    rintro e w1 ⟨rfl, hx1⟩
                    have hDr := Blk.ext hR0.out (HX.out.trans hx1)
                    have hmr := hDr.melts
                    have hhr := Blk.has hDr
                    go_wp2_with fail
                    refine ret_cell (t := 38) (g := rb) (cs := fltC X) Tryd.results94 rfl rfl aggFaultR (by rw [HXR.out, HR0.out]; exact sizeFaultR) (by rw [HXR.out, HR0.out]; exact Blk.put_ hDr 0 _) ⟨rfl, ?_⟩
                    exact ((HX0.out.trans HX.out).trans hx1).putAt _ _ _ (fun hlt => absurd hlt (by have := HRW.out; omega))
                  | cons op' m' name' q rr =>
                    obtain ⟨hb, h1, h2, h3, ⟨A', cap, b', off', hh, hg, hl, hA', hk⟩, hr⟩ := HRR.out
                    simp only [EF.len] at hj
                    have hlt : (j : Int) < kn := by omega
                    obtain rfl := HA.out (by omega)
                    have hx0r := hx0.trans (HX0.out.trans HX.out)
                    have hbl := hx0r.size
                    have hh' := has_ext hx0r (by omega) hh
                    have hg' := gets_ext hx0r (by omega) hg
                    have hbw : b < wr.heap.size := by omega
                    have KE := Lib.hid (show ESl w0 N0 A' q.len q from ⟨rfl, hl, b', off', hA', hk⟩)
                    have IK := Lib.hid HI2.out.1
                    have HX0r := Lib.hid hx0r
                    have HR2 := Lib.hid hr
                    have HH := Lib.hid hh'
                    have HG := Lib.hid hg'
                    have HKR := Lib.hid hkr
                    have HER := Lib.hid her
                    clear hh hg hl hA' hk h1 h2 h3 HRR hbl hx0r hr
                    go_upto_region 14 with (fail)
                    clear hh' hg' hce hle hkr her
                    obtain ⟨f, hf⟩ : ∃ f, f = chk1 (updAll (knV p.vars) l) op' m' name' q := ⟨_, rfl⟩
                    have HF := Lib.hid hf
                    clear hf
                    apply meet (F := fun W2 fb => Ext wr W2 ∧ Blk W2 fb 38 (fltC f))
                    case h =>
                      intro KEY0
                      have KEY := Lib.hid KEY0
                      clear KEY0
                      refine wp_region_4 (fun w1 => Ext wr w1) (.op 0 1 (.op 1 2 (.op 2 1 (.op 3 2 (.op 4 2 (.op 5 1 (.fork 6 (.op 7 0 (.op 8 0 .nil)) 7 (.op 6 0 (.op 8 0 .nil))))))))) (by kernel_rfl) (by kernel_rfl) (by kernel_rfl) (by kernel_rfl) ?_; intro p' hp'; simp only [Pl0.fill, List.getD_cons_zero, List.getD_cons_succ] at hp'; subst hp'
                      have HY0 := Lib.hid (show Ext wr wr.drew from (Kept.refl _ wr).drew)
                      (repeat (first | ((apply w4_pure); (· go_simp); (· (intro w1; go_simp; try with_reducible rfl)); (intro K hK; go_simp; refine hK _ _ ?_; clear hK K)) | ((apply w4_skip); (· go_simp); (intro K hK; go_simp; refine hK _ _ ?_; clear hK K)) | ((apply w4_take); (· exact HY0.out); (· go_simp); (· (intro w1 hS; have d0 := Blk.ext HKR.out hS; have d1 := Blk.gets d0; have d2 := Blk.has d0; have d3 := d0.lt; have d4 := Blk.ext HER.out hS; have d5 := Blk.cell d4; have d6 := d4.lt; have d7 := has_ext hS hbw HH.out; have d8 := gets_ext hS hbw HG.out; have d9 := Nat.lt_of_lt_of_le hbw hS.size;  go_simp; try with_reducible rfl)); (intro K hK; go_simp; refine hK _ _ ?_; clear hK K)) | ((apply w4_pass); (· exact HY0.out); (· go_simp); (intro K hK; go_simp; refine hK _ _ ?_; clear hK K))))
                      refine w4_fork ?_ ?_
                      · (refine w4_act (fun K hK => ?_); go_simp)
                        refine (IK.out op' m' name' A' q.len cap N0 _ (HX0r.out.trans HY0.out) hN0 KE.out).mono ?_
                        rintro e w1 ⟨rfl, hx1⟩
                        rw [← HF.out]
                        have y1 := HY0.out.trans hx1
                        refine hK.out _ _ (fun _ => y1) ?_
                        clear hK K
                        (repeat (first | ((apply w4_pure); (· go_simp); (· (intro w1; go_simp; try with_reducible rfl)); (intro K hK; go_simp; refine hK _ _ ?_; clear hK K)) | ((apply w4_skip); (· go_simp); (intro K hK; go_simp; refine hK _ _ ?_; clear hK K))))
                        (refine w4_act (fun K hK => ?_); go_simp)
                        have y2 := y1.alloc (.cells #[.int .i64 0, .string ⟨#[]⟩] 38)
                        have hfb := Blk.new w1 38 #[.int .i64 0, .string ⟨#[]⟩]
                        refine hK.out _ _ (fun _ => y2) ?_
                        clear hK K
                        generalize hW2 : w1.alloc (.cells #[.int .i64 0, .string ⟨#[]⟩] 38) = W2 at y2 hfb ⊢
                        clear hW2
                        have hfl : wr.heap.size ≤ w1.heap.size := y1.size
                        generalize w1.heap.size = fb at hfb hfl ⊢
                        have hmf := hfb.melts
                        have hhf := Blk.has hfb
                        have hfc : (fltC f).size = 2 := by cases f <;> rfl
                        have hff : flatL (fltC f).toList = true := by cases f <;> rfl
                        (repeat (first | ((apply w4_pure); (· go_simp); (· (intro w1; go_simp; try with_reducible rfl)); (intro K hK; go_simp; refine hK _ _ ?_; clear hK K)) | ((apply w4_skip); (· go_simp); (intro K hK; go_simp; refine hK _ _ ?_; clear hK K))))
                        (refine w4_act (fun K hK => ?_); go_simp)
                        have y3 := y2.putAt fb 0 (fltC f) (fun hlt => absurd hlt (by omega))
                        have hf3 : Blk (putAt W2 fb 0 (fltC f)) fb 38 (fltC f) := by
                          have := Blk.put_ hfb 0 (fltC f)
                          cases f <;> exact this
                        refine hK.out _ _ (fun _ => y3) ?_
                        clear hK K hmf hhf hfc hff
                        (repeat (first | ((apply w4_pure); (· go_simp); (· (intro w1; go_simp; try with_reducible rfl)); (intro K hK; go_simp; refine hK _ _ ?_; clear hK K)) | ((apply w4_skip); (· go_simp); (intro K hK; go_simp; refine hK _ _ ?_; clear hK K)) | (refine w4_end (by kernel_rfl) (fun K hK => ?_); go_simp; refine hK.out _ _ ?_; clear hK K))); refine w4_nil ?_
                        generalize putAt W2 fb 0 (fltC f) = W3 at y3 hf3 ⊢
                        exact KEY.out _ _ ⟨y3, hf3⟩
                      · (refine w4_act (fun K hK => ?_); go_simp)
                        have y1 : Ext wr (wr.alloc (.cells #[.int .i64 0, .string ⟨#[]⟩] 38)).drew := ((Kept.refl _ wr).alloc _).drew
                        refine hK.out _ _ (fun _ => y1) ?_
                        clear hK K
                        generalize hW1 : (wr.alloc (.cells #[.int .i64 0, .string ⟨#[]⟩] 38)).drew = W1 at y1 ⊢
                        have hfb1 : Blk W1 wr.heap.size 38 #[.int .i64 0, .string ⟨#[]⟩] := by rw [← hW1]; exact Blk.drew (Blk.new wr _ _)
                        clear hW1
                        have hfl : wr.heap.size ≤ wr.heap.size := Nat.le_refl _
                        generalize hfbe : (wr.heap.size : Nat) = fb at hfb1 hfl ⊢
                        have HFL := Lib.hid (show wr.heap.size ≤ fb by omega)
                        clear hfl hfbe
                        have HY1 := Lib.hid y1
                        (repeat (first | ((apply w4_pure); (· go_simp); (· (intro w1; go_simp; try with_reducible rfl)); (intro K hK; go_simp; refine hK _ _ ?_; clear hK K)) | ((apply w4_skip); (· go_simp); (intro K hK; go_simp; refine hK _ _ ?_; clear hK K))))
                        (repeat (first | ((apply w4_pure); (· go_simp); (· (intro w1; go_simp; try with_reducible rfl)); (intro K hK; go_simp; refine hK _ _ ?_; clear hK K)) | ((apply w4_skip); (· go_simp); (intro K hK; go_simp; refine hK _ _ ?_; clear hK K)) | ((apply w4_take); (· exact HY1.out); (· go_simp); (· (intro w1 hS; have d0 := Blk.ext HKR.out hS; have d1 := Blk.gets d0; have d2 := Blk.has d0; have d3 := d0.lt; have d4 := Blk.ext HER.out hS; have d5 := Blk.cell d4; have d6 := d4.lt; have d7 := has_ext hS hbw HH.out; have d8 := gets_ext hS hbw HG.out; have d9 := Nat.lt_of_lt_of_le hbw hS.size;  go_simp; try with_reducible rfl)); (intro K hK; go_simp; refine hK _ _ ?_; clear hK K)) | ((apply w4_pass); (· exact HY1.out); (· go_simp); (intro K hK; go_simp; refine hK _ _ ?_; clear hK K))))
                        (refine w4_act (fun K hK => ?_); go_simp)
                        refine (IK.out op' m' name' A' q.len cap N0 _ (HX0r.out.trans HY1.out) hN0 KE.out).mono ?_
                        rintro e w1 ⟨rfl, hx1⟩
                        rw [← HF.out]
                        have y2 := HY1.out.trans hx1
                        refine hK.out _ _ (fun _ => y2) ?_
                        clear hK K y1
                        have hfb2 := Blk.ext hfb1 hx1
                        have hmf := hfb2.melts
                        have hhf := Blk.has hfb2
                        have hfc : (fltC f).size = 2 := by cases f <;> rfl
                        have hff : flatL (fltC f).toList = true := by cases f <;> rfl
                        (repeat (first | ((apply w4_pure); (· go_simp); (· (intro w1; go_simp; try with_reducible rfl)); (intro K hK; go_simp; refine hK _ _ ?_; clear hK K)) | ((apply w4_skip); (· go_simp); (intro K hK; go_simp; refine hK _ _ ?_; clear hK K))))
                        (refine w4_act (fun K hK => ?_); go_simp)
                        have y3 := y2.putAt fb 0 (fltC f) (fun hlt => absurd hlt (by have := HFL.out; omega))
                        have hf3 : Blk (putAt w1 fb 0 (fltC f)) fb 38 (fltC f) := by
                          have := Blk.put_ hfb2 0 (fltC f)
                          cases f <;> exact this
                        refine hK.out _ _ (fun _ => y3) ?_
                        clear hK K hmf hhf hfc hff
                        (repeat (first | ((apply w4_pure); (· go_simp); (· (intro w1; go_simp; try with_reducible rfl)); (intro K hK; go_simp; refine hK _ _ ?_; clear hK K)) | ((apply w4_skip); (· go_simp); (intro K hK; go_simp; refine hK _ _ ?_; clear hK K)) | (refine w4_end (by kernel_rfl) (fun K hK => ?_); go_simp; refine hK.out _ _ ?_; clear hK K))); refine w4_nil ?_
                        generalize putAt w1 fb 0 (fltC f) = W3 at y3 hf3 ⊢
                        exact KEY.out _ _ ⟨y3, hf3⟩
                    case h2 =>
                      rintro W2 fb ⟨y2, hfb⟩
                      have HFB := Lib.hid hfb
                      have HY2 := Lib.hid y2
                      clear hfb y2
                      cases f with
                      | none =>
                        have HNX := Lib.hid (show chkE (updAll (knV p.vars) l) rr = r by have h := HACC.out; rw [chkE_cons, ← HF.out] at h; exact h)
                        go_upto_region 15 with (fail)
                        refine wp_region_3 (fun w1 => Ext W2 w1) [(0, 1), (1, 0), (2, 2)] (by kernel_rfl) (by kernel_rfl) (by kernel_rfl) (by kernel_rfl) ?_; intro l' hl'; simp only [List.map_cons, List.map_nil, List.getD_cons_zero, List.getD_cons_succ] at hl'; subst hl'
                        have HZ0 := Lib.hid (show Ext W2 W2.drew from (Kept.refl _ W2).drew)
                        (repeat (first | ((apply w3_pure); (· go_simp); (· (intro w1; go_simp; try with_reducible rfl)); (intro K hK; go_simp; refine hK _ _ ?_; clear hK K)) | ((apply w3_skip); (· go_simp); (intro K hK; go_simp; refine hK _ _ ?_; clear hK K)) | ((apply w3_take); (· exact HZ0.out); (· go_simp); (· (intro w1 hS; have d0 := Blk.ext HFB.out hS; have d1 := Blk.gets d0; have d2 := Blk.has d0; have d3 := d0.lt;  go_simp; try with_reducible rfl)); (intro K hK; go_simp; refine hK _ _ ?_; clear hK K)) | ((apply w3_pass); (· exact HZ0.out); (· go_simp); (intro K hK; go_simp; refine hK _ _ ?_; clear hK K))))
                        (refine w3_act (fun K hK => ?_); go_simp)
                        refine (fine_any _).mono ?_
                        rintro e w1 ⟨rfl, hx1⟩
                        have HZ1 := Lib.hid (HZ0.out.trans hx1)
                        refine hK.out _ _ (fun _ => HZ1.out) ?_
                        clear hK K hx1
                        (repeat (first | ((apply w3_pure); (· go_simp); (· (intro w1; go_simp; try with_reducible rfl)); (intro K hK; go_simp; refine hK _ _ ?_; clear hK K)) | ((apply w3_skip); (· go_simp); (intro K hK; go_simp; refine hK _ _ ?_; clear hK K)) | (refine w3_end (by kernel_rfl) (fun K hK => ?_); go_simp; refine hK.out _ _ ?_; clear hK K))); refine w3_nil ?_
                        go_wp2_with fail
                        go_roundw
                        case rel => exact ⟨j + 1, rr, by omega, HNX.out, by go_num, by rw [Nat.add_mul, ← Nat.add_assoc]; exact HR2.out, HI2.out.2, (HX.out.trans HY2.out).trans HZ1.out⟩
                        case measure => simp only [intOf]; omega
                      | some f =>
                        obtain ⟨fe, fn⟩ := f
                        have hnz : (fe == 0) = false := by simpa using nz_chk1 (updAll (knV p.vars) l) op' m' name' q ⟨fe, fn⟩ HF.out.symm
                        have HRF := Lib.hid (show X = some ⟨fe, fn⟩ by have h := HACC.out; rw [chkE_cons, ← HF.out] at h; rw [HXR.out, ← h]; rfl)
                        go_upto_region 15 with (fail)
                        refine wp_region_3 (fun w1 => Ext W2 w1) [(0, 1), (1, 0), (2, 2)] (by kernel_rfl) (by kernel_rfl) (by kernel_rfl) (by kernel_rfl) ?_; intro l' hl'; simp only [List.map_cons, List.map_nil, List.getD_cons_zero, List.getD_cons_succ] at hl'; subst hl'
                        have HZ0 := Lib.hid (show Ext W2 W2.drew from (Kept.refl _ W2).drew)
                        (repeat (first | ((apply w3_pure); (· go_simp); (· (intro w1; go_simp; try with_reducible rfl)); (intro K hK; go_simp; refine hK _ _ ?_; clear hK K)) | ((apply w3_skip); (· go_simp); (intro K hK; go_simp; refine hK _ _ ?_; clear hK K)) | ((apply w3_take); (· exact HZ0.out); (· go_simp); (· (intro w1 hS; have d0 := Blk.ext HFB.out hS; have d1 := Blk.gets d0; have d2 := Blk.has d0; have d3 := d0.lt;  go_simp; try with_reducible rfl)); (intro K hK; go_simp; refine hK _ _ ?_; clear hK K)) | ((apply w3_pass); (· exact HZ0.out); (· go_simp); (intro K hK; go_simp; refine hK _ _ ?_; clear hK K))))
                        (refine w3_act (fun K hK => ?_); go_simp)
                        refine (fine_any _).mono ?_
                        rintro e w1 ⟨rfl, hx1⟩
                        have HZ1 := Lib.hid (HZ0.out.trans hx1)
                        refine hK.out _ _ (fun _ => HZ1.out) ?_
                        clear hK K hx1
                        (repeat (first | ((apply w3_pure); (· go_simp); (· (intro w1; go_simp; try with_reducible rfl)); (intro K hK; go_simp; refine hK _ _ ?_; clear hK K)) | ((apply w3_skip); (· go_simp); (intro K hK; go_simp; refine hK _ _ ?_; clear hK K)) | (refine w3_end (by kernel_rfl) (fun K hK => ?_); go_simp; refine hK.out _ _ ?_; clear hK K))); refine w3_nil ?_
                        have hDr := Blk.ext hR0.out ((HX.out.trans HY2.out).trans HZ1.out)
                        have hmr := hDr.melts
                        have hhr := Blk.has hDr
                        have hFr := Blk.ext HFB.out HZ1.out
                        have hgf := Blk.gets hFr
                        have hhf := Blk.has hFr
                        have hlf := hFr.lt
                        go_wp2_with fail
                        refine ret_cell (t := 38) (g := rb) (cs := fltC X) Tryd.results94 rfl rfl aggFaultR (by rw [HRF.out]; exact sizeFaultR) (by rw [HRF.out]; exact Blk.put_ hDr 0 _) ⟨rfl, ?_⟩
                        exact ((HX0.out.trans HX.out).trans (HY2.out.trans HZ1.out)).putAt _ _ _ (fun hlt => absurd hlt (by have := HRW.out; omega))
              · have qv2 : ((v : Int) == 2) = false := by simp; omega
                have HR := Lib.hid (show X = some ⟨11, s⟩ by rw [HX4.out, ← HV.out]; have h1 : (v == 0) = false := (by simpa using hv0); have h2 : (v == 2) = false := (by simpa using hv2); simp [h1, h2, bne])
                have yr := yt
                have hDr := Blk.ext hR0.out yr
                have hmr := hDr.melts
                have hhr := Blk.has hDr
                go_wp2_with fail
                refine ret_cell (t := 38) (g := rb) (cs := fltC X) Tryd.results94 rfl rfl aggFaultR (by rw [HR.out]; exact sizeFaultR) (by rw [HR.out]; exact Blk.put_ hDr 0 _) ⟨rfl, ?_⟩
                exact (HX0.out.trans yr).putAt _ _ _ (fun hlt => absurd hlt (by have := HRW.out; omega))
          · have q2 : (op == 2) = false := by simpa using ho2
            have HXR := Lib.hid (show X = r by rw [HX3.out, if_neg ho0, if_neg (by omega)]; rfl)
            go_wp2_with fail
            go_loopw [6] (fun t6 wr => ∃ (j : Nat) (R : EF), j + R.len = kn ∧ chkE (updAll (knV p.vars) l) R = r ∧ t6 = .int .i64 j ∧ EFAt w0 N0 R b (off + j * 4) ∧ EF.All (ExRC c (updAll (knV p.vars) l) A n k w0) R ∧ Ext W wr) (fun t6 _ => kn - (intOf t6).toNat)
            case atStart => exact ⟨0, F, by rw [HN.out, Nat.zero_add], HEQ.out, rfl, by simpa using HE.out, HI.out, ys⟩
            case round =>
              obtain ⟨j, R, hj, hacc, rfl, hR, hI, hx⟩ := hrel
              have HRR := Lib.hid hR
              have HI2 := Lib.hid hI
              have HX := Lib.hid hx
              have HACC := Lib.hid hacc
              have hkr := Blk.ext hK0.out hx
              have her := Blk.ext hE0.out hx
              have hce := Blk.cell her
              have hle := her.lt
              clear hR hI hx hacc
              cases R with
              | nil =>
                simp only [EF.len, Nat.add_zero] at hj
                subst hj
                have hr0 : r = none := by rw [← HACC.out]; rfl
                have HR0 := Lib.hid hr0
                clear hr0
                go_wp2_with fail
                refine (fine_any _).mono ?_
                rintro e w1 ⟨rfl, hx1⟩
                have hDr := Blk.ext hR0.out (HX.out.trans hx1)
                have hmr := hDr.melts
                have hhr := Blk.has hDr
                go_wp2_with fail
                refine ret_cell (t := 38) (g := rb) (cs := fltC X) Tryd.results94 rfl rfl aggFaultR (by rw [HXR.out, HR0.out]; exact sizeFaultR) (by rw [HXR.out, HR0.out]; exact Blk.put_ hDr 0 _) ⟨rfl, ?_⟩
                exact ((HX0.out.trans HX.out).trans hx1).putAt _ _ _ (fun hlt => absurd hlt (by have := HRW.out; omega))
              | cons op' m' name' q rr =>
                obtain ⟨hb, h1, h2, h3, ⟨A', cap, b', off', hh, hg, hl, hA', hk⟩, hr⟩ := HRR.out
                simp only [EF.len] at hj
                have hlt : (j : Int) < kn := by omega
                obtain rfl := HA.out (by omega)
                have hx0r := hx0.trans (HX0.out.trans HX.out)
                have hbl := hx0r.size
                have hh' := has_ext hx0r (by omega) hh
                have hg' := gets_ext hx0r (by omega) hg
                have hbw : b < wr.heap.size := by omega
                have KE := Lib.hid (show ESl w0 N0 A' q.len q from ⟨rfl, hl, b', off', hA', hk⟩)
                have IK := Lib.hid HI2.out.1
                have HX0r := Lib.hid hx0r
                have HR2 := Lib.hid hr
                have HH := Lib.hid hh'
                have HG := Lib.hid hg'
                have HKR := Lib.hid hkr
                have HER := Lib.hid her
                clear hh hg hl hA' hk h1 h2 h3 HRR hbl hx0r hr
                go_upto_region 14 with (fail)
                clear hh' hg' hce hle hkr her
                obtain ⟨f, hf⟩ : ∃ f, f = chk1 (updAll (knV p.vars) l) op' m' name' q := ⟨_, rfl⟩
                have HF := Lib.hid hf
                clear hf
                apply meet (F := fun W2 fb => Ext wr W2 ∧ Blk W2 fb 38 (fltC f))
                case h =>
                  intro KEY0
                  have KEY := Lib.hid KEY0
                  clear KEY0
                  refine wp_region_4 (fun w1 => Ext wr w1) (.op 0 1 (.op 1 2 (.op 2 1 (.op 3 2 (.op 4 2 (.op 5 1 (.fork 6 (.op 7 0 (.op 8 0 .nil)) 7 (.op 6 0 (.op 8 0 .nil))))))))) (by kernel_rfl) (by kernel_rfl) (by kernel_rfl) (by kernel_rfl) ?_; intro p' hp'; simp only [Pl0.fill, List.getD_cons_zero, List.getD_cons_succ] at hp'; subst hp'
                  have HY0 := Lib.hid (show Ext wr wr.drew from (Kept.refl _ wr).drew)
                  (repeat (first | ((apply w4_pure); (· go_simp); (· (intro w1; go_simp; try with_reducible rfl)); (intro K hK; go_simp; refine hK _ _ ?_; clear hK K)) | ((apply w4_skip); (· go_simp); (intro K hK; go_simp; refine hK _ _ ?_; clear hK K)) | ((apply w4_take); (· exact HY0.out); (· go_simp); (· (intro w1 hS; have d0 := Blk.ext HKR.out hS; have d1 := Blk.gets d0; have d2 := Blk.has d0; have d3 := d0.lt; have d4 := Blk.ext HER.out hS; have d5 := Blk.cell d4; have d6 := d4.lt; have d7 := has_ext hS hbw HH.out; have d8 := gets_ext hS hbw HG.out; have d9 := Nat.lt_of_lt_of_le hbw hS.size;  go_simp; try with_reducible rfl)); (intro K hK; go_simp; refine hK _ _ ?_; clear hK K)) | ((apply w4_pass); (· exact HY0.out); (· go_simp); (intro K hK; go_simp; refine hK _ _ ?_; clear hK K))))
                  refine w4_fork ?_ ?_
                  · (refine w4_act (fun K hK => ?_); go_simp)
                    refine (IK.out op' m' name' A' q.len cap N0 _ (HX0r.out.trans HY0.out) hN0 KE.out).mono ?_
                    rintro e w1 ⟨rfl, hx1⟩
                    rw [← HF.out]
                    have y1 := HY0.out.trans hx1
                    refine hK.out _ _ (fun _ => y1) ?_
                    clear hK K
                    (repeat (first | ((apply w4_pure); (· go_simp); (· (intro w1; go_simp; try with_reducible rfl)); (intro K hK; go_simp; refine hK _ _ ?_; clear hK K)) | ((apply w4_skip); (· go_simp); (intro K hK; go_simp; refine hK _ _ ?_; clear hK K))))
                    (refine w4_act (fun K hK => ?_); go_simp)
                    have y2 := y1.alloc (.cells #[.int .i64 0, .string ⟨#[]⟩] 38)
                    have hfb := Blk.new w1 38 #[.int .i64 0, .string ⟨#[]⟩]
                    refine hK.out _ _ (fun _ => y2) ?_
                    clear hK K
                    generalize hW2 : w1.alloc (.cells #[.int .i64 0, .string ⟨#[]⟩] 38) = W2 at y2 hfb ⊢
                    clear hW2
                    have hfl : wr.heap.size ≤ w1.heap.size := y1.size
                    generalize w1.heap.size = fb at hfb hfl ⊢
                    have hmf := hfb.melts
                    have hhf := Blk.has hfb
                    have hfc : (fltC f).size = 2 := by cases f <;> rfl
                    have hff : flatL (fltC f).toList = true := by cases f <;> rfl
                    (repeat (first | ((apply w4_pure); (· go_simp); (· (intro w1; go_simp; try with_reducible rfl)); (intro K hK; go_simp; refine hK _ _ ?_; clear hK K)) | ((apply w4_skip); (· go_simp); (intro K hK; go_simp; refine hK _ _ ?_; clear hK K))))
                    (refine w4_act (fun K hK => ?_); go_simp)
                    have y3 := y2.putAt fb 0 (fltC f) (fun hlt => absurd hlt (by omega))
                    have hf3 : Blk (putAt W2 fb 0 (fltC f)) fb 38 (fltC f) := by
                      have := Blk.put_ hfb 0 (fltC f)
                      cases f <;> exact this
                    refine hK.out _ _ (fun _ => y3) ?_
                    clear hK K hmf hhf hfc hff
                    (repeat (first | ((apply w4_pure); (· go_simp); (· (intro w1; go_simp; try with_reducible rfl)); (intro K hK; go_simp; refine hK _ _ ?_; clear hK K)) | ((apply w4_skip); (· go_simp); (intro K hK; go_simp; refine hK _ _ ?_; clear hK K)) | (refine w4_end (by kernel_rfl) (fun K hK => ?_); go_simp; refine hK.out _ _ ?_; clear hK K))); refine w4_nil ?_
                    generalize putAt W2 fb 0 (fltC f) = W3 at y3 hf3 ⊢
                    exact KEY.out _ _ ⟨y3, hf3⟩
                  · (refine w4_act (fun K hK => ?_); go_simp)
                    have y1 : Ext wr (wr.alloc (.cells #[.int .i64 0, .string ⟨#[]⟩] 38)).drew := ((Kept.refl _ wr).alloc _).drew
                    refine hK.out _ _ (fun _ => y1) ?_
                    clear hK K
                    generalize hW1 : (wr.alloc (.cells #[.int .i64 0, .string ⟨#[]⟩] 38)).drew = W1 at y1 ⊢
                    have hfb1 : Blk W1 wr.heap.size 38 #[.int .i64 0, .string ⟨#[]⟩] := by rw [← hW1]; exact Blk.drew (Blk.new wr _ _)
                    clear hW1
                    have hfl : wr.heap.size ≤ wr.heap.size := Nat.le_refl _
                    generalize hfbe : (wr.heap.size : Nat) = fb at hfb1 hfl ⊢
                    have HFL := Lib.hid (show wr.heap.size ≤ fb by omega)
                    clear hfl hfbe
                    have HY1 := Lib.hid y1
                    (repeat (first | ((apply w4_pure); (· go_simp); (· (intro w1; go_simp; try with_reducible rfl)); (intro K hK; go_simp; refine hK _ _ ?_; clear hK K)) | ((apply w4_skip); (· go_simp); (intro K hK; go_simp; refine hK _ _ ?_; clear hK K))))
                    (repeat (first | ((apply w4_pure); (· go_simp); (· (intro w1; go_simp; try with_reducible rfl)); (intro K hK; go_simp; refine hK _ _ ?_; clear hK K)) | ((apply w4_skip); (· go_simp); (intro K hK; go_simp; refine hK _ _ ?_; clear hK K)) | ((apply w4_take); (· exact HY1.out); (· go_simp); (· (intro w1 hS; have d0 := Blk.ext HKR.out hS; have d1 := Blk.gets d0; have d2 := Blk.has d0; have d3 := d0.lt; have d4 := Blk.ext HER.out hS; have d5 := Blk.cell d4; have d6 := d4.lt; have d7 := has_ext hS hbw HH.out; have d8 := gets_ext hS hbw HG.out; have d9 := Nat.lt_of_lt_of_le hbw hS.size;  go_simp; try with_reducible rfl)); (intro K hK; go_simp; refine hK _ _ ?_; clear hK K)) | ((apply w4_pass); (· exact HY1.out); (· go_simp); (intro K hK; go_simp; refine hK _ _ ?_; clear hK K))))
                    (refine w4_act (fun K hK => ?_); go_simp)
                    refine (IK.out op' m' name' A' q.len cap N0 _ (HX0r.out.trans HY1.out) hN0 KE.out).mono ?_
                    rintro e w1 ⟨rfl, hx1⟩
                    rw [← HF.out]
                    have y2 := HY1.out.trans hx1
                    refine hK.out _ _ (fun _ => y2) ?_
                    clear hK K y1
                    have hfb2 := Blk.ext hfb1 hx1
                    have hmf := hfb2.melts
                    have hhf := Blk.has hfb2
                    have hfc : (fltC f).size = 2 := by cases f <;> rfl
                    have hff : flatL (fltC f).toList = true := by cases f <;> rfl
                    (repeat (first | ((apply w4_pure); (· go_simp); (· (intro w1; go_simp; try with_reducible rfl)); (intro K hK; go_simp; refine hK _ _ ?_; clear hK K)) | ((apply w4_skip); (· go_simp); (intro K hK; go_simp; refine hK _ _ ?_; clear hK K))))
                    (refine w4_act (fun K hK => ?_); go_simp)
                    have y3 := y2.putAt fb 0 (fltC f) (fun hlt => absurd hlt (by have := HFL.out; omega))
                    have hf3 : Blk (putAt w1 fb 0 (fltC f)) fb 38 (fltC f) := by
                      have := Blk.put_ hfb2 0 (fltC f)
                      cases f <;> exact this
                    refine hK.out _ _ (fun _ => y3) ?_
                    clear hK K hmf hhf hfc hff
                    (repeat (first | ((apply w4_pure); (· go_simp); (· (intro w1; go_simp; try with_reducible rfl)); (intro K hK; go_simp; refine hK _ _ ?_; clear hK K)) | ((apply w4_skip); (· go_simp); (intro K hK; go_simp; refine hK _ _ ?_; clear hK K)) | (refine w4_end (by kernel_rfl) (fun K hK => ?_); go_simp; refine hK.out _ _ ?_; clear hK K))); refine w4_nil ?_
                    generalize putAt w1 fb 0 (fltC f) = W3 at y3 hf3 ⊢
                    exact KEY.out _ _ ⟨y3, hf3⟩
                case h2 =>
                  rintro W2 fb ⟨y2, hfb⟩
                  have HFB := Lib.hid hfb
                  have HY2 := Lib.hid y2
                  clear hfb y2
                  cases f with
                  | none =>
                    have HNX := Lib.hid (show chkE (updAll (knV p.vars) l) rr = r by have h := HACC.out; rw [chkE_cons, ← HF.out] at h; exact h)
                    go_upto_region 15 with (fail)
                    refine wp_region_3 (fun w1 => Ext W2 w1) [(0, 1), (1, 0), (2, 2)] (by kernel_rfl) (by kernel_rfl) (by kernel_rfl) (by kernel_rfl) ?_; intro l' hl'; simp only [List.map_cons, List.map_nil, List.getD_cons_zero, List.getD_cons_succ] at hl'; subst hl'
                    have HZ0 := Lib.hid (show Ext W2 W2.drew from (Kept.refl _ W2).drew)
                    (repeat (first | ((apply w3_pure); (· go_simp); (· (intro w1; go_simp; try with_reducible rfl)); (intro K hK; go_simp; refine hK _ _ ?_; clear hK K)) | ((apply w3_skip); (· go_simp); (intro K hK; go_simp; refine hK _ _ ?_; clear hK K)) | ((apply w3_take); (· exact HZ0.out); (· go_simp); (· (intro w1 hS; have d0 := Blk.ext HFB.out hS; have d1 := Blk.gets d0; have d2 := Blk.has d0; have d3 := d0.lt;  go_simp; try with_reducible rfl)); (intro K hK; go_simp; refine hK _ _ ?_; clear hK K)) | ((apply w3_pass); (· exact HZ0.out); (· go_simp); (intro K hK; go_simp; refine hK _ _ ?_; clear hK K))))
                    (refine w3_act (fun K hK => ?_); go_simp)
                    refine (fine_any _).mono ?_
                    rintro e w1 ⟨rfl, hx1⟩
                    have HZ1 := Lib.hid (HZ0.out.trans hx1)
                    refine hK.out _ _ (fun _ => HZ1.out) ?_
                    clear hK K hx1
                    (repeat (first | ((apply w3_pure); (· go_simp); (· (intro w1; go_simp; try with_reducible rfl)); (intro K hK; go_simp; refine hK _ _ ?_; clear hK K)) | ((apply w3_skip); (· go_simp); (intro K hK; go_simp; refine hK _ _ ?_; clear hK K)) | (refine w3_end (by kernel_rfl) (fun K hK => ?_); go_simp; refine hK.out _ _ ?_; clear hK K))); refine w3_nil ?_
                    go_wp2_with fail
                    go_roundw
                    case rel => exact ⟨j + 1, rr, by omega, HNX.out, by go_num, by rw [Nat.add_mul, ← Nat.add_assoc]; exact HR2.out, HI2.out.2, (HX.out.trans HY2.out).trans HZ1.out⟩
                    case measure => simp only [intOf]; omega
                  | some f =>
                    obtain ⟨fe, fn⟩ := f
                    have hnz : (fe == 0) = false := by simpa using nz_chk1 (updAll (knV p.vars) l) op' m' name' q ⟨fe, fn⟩ HF.out.symm
                    have HRF := Lib.hid (show X = some ⟨fe, fn⟩ by have h := HACC.out; rw [chkE_cons, ← HF.out] at h; rw [HXR.out, ← h]; rfl)
                    go_upto_region 15 with (fail)
                    refine wp_region_3 (fun w1 => Ext W2 w1) [(0, 1), (1, 0), (2, 2)] (by kernel_rfl) (by kernel_rfl) (by kernel_rfl) (by kernel_rfl) ?_; intro l' hl'; simp only [List.map_cons, List.map_nil, List.getD_cons_zero, List.getD_cons_succ] at hl'; subst hl'
                    have HZ0 := Lib.hid (show Ext W2 W2.drew from (Kept.refl _ W2).drew)
                    (repeat (first | ((apply w3_pure); (· go_simp); (· (intro w1; go_simp; try with_reducible rfl)); (intro K hK; go_simp; refine hK _ _ ?_; clear hK K)) | ((apply w3_skip); (· go_simp); (intro K hK; go_simp; refine hK _ _ ?_; clear hK K)) | ((apply w3_take); (· exact HZ0.out); (· go_simp); (· (intro w1 hS; have d0 := Blk.ext HFB.out hS; have d1 := Blk.gets d0; have d2 := Blk.has d0; have d3 := d0.lt;  go_simp; try with_reducible rfl)); (intro K hK; go_simp; refine hK _ _ ?_; clear hK K)) | ((apply w3_pass); (· exact HZ0.out); (· go_simp); (intro K hK; go_simp; refine hK _ _ ?_; clear hK K))))
                    (refine w3_act (fun K hK => ?_); go_simp)
                    refine (fine_any _).mono ?_
                    rintro e w1 ⟨rfl, hx1⟩
                    have HZ1 := Lib.hid (HZ0.out.trans hx1)
                    refine hK.out _ _ (fun _ => HZ1.out) ?_
                    clear hK K hx1
                    (repeat (first | ((apply w3_pure); (· go_simp); (· (intro w1; go_simp; try with_reducible rfl)); (intro K hK; go_simp; refine hK _ _ ?_; clear hK K)) | ((apply w3_skip); (· go_simp); (intro K hK; go_simp; refine hK _ _ ?_; clear hK K)) | (refine w3_end (by kernel_rfl) (fun K hK => ?_); go_simp; refine hK.out _ _ ?_; clear hK K))); refine w3_nil ?_
                    have hDr := Blk.ext hR0.out ((HX.out.trans HY2.out).trans HZ1.out)
                    have hmr := hDr.melts
                    have hhr := Blk.has hDr
                    have hFr := Blk.ext HFB.out HZ1.out
                    have hgf := Blk.gets hFr
                    have hhf := Blk.has hFr
                    have hlf := hFr.lt
                    go_wp2_with fail
                    refine ret_cell (t := 38) (g := rb) (cs := fltC X) Tryd.results94 rfl rfl aggFaultR (by rw [HRF.out]; exact sizeFaultR) (by rw [HRF.out]; exact Blk.put_ hDr 0 _) ⟨rfl, ?_⟩
                    exact ((HX0.out.trans HX.out).trans (HY2.out.trans HZ1.out)).putAt _ _ _ (fun hlt => absurd hlt (by have := HRW.out; omega))
end Go.Proofs.YtfamkemdgbnegaaDoor

/- Sorts: names by the document: letters, digits, words. -/
namespace Go.Proofs.YtfamkemdgbnegaaDoor
open Go.RowKit So
def letterI (c : Int) : Bool := (decide (97 ≤ c) && decide (c ≤ 122)) || (decide (65 ≤ c) && decide (c ≤ 90))
def digitI (c : Int) : Bool := decide (48 ≤ c) && decide (c ≤ 57)
theorem letterI_of (c : UInt8) : letterI (c.toNat : Int) = letter c := by
  unfold letterI letter
  simp only [UInt8.le_iff_toNat_le]
  rw [Bool.eq_iff_iff]
  simp
  omega
theorem digitI_of (c : UInt8) : digitI (c.toNat : Int) = digit c := by
  unfold digitI digit
  simp only [UInt8.le_iff_toNat_le]
  rw [Bool.eq_iff_iff]
  simp
  omega
set_option maxHeartbeats 1000000 in
theorem rletter_any (c : Int) (w : World) : Calls Tryd.prog 88 #[.int .u8 c] w fun e w' => e = .returned (.bool (letterI c)) ∧ w = w' := by
  go_enter Tryd.func88, Tryd.ntmps88
  go_wp2_with fail
  all_goals go_ret
  all_goals refine ⟨ret_bool ?_, rfl⟩
  all_goals (rw [Bool.eq_iff_iff]; simp [letterI]; omega)
set_option maxHeartbeats 1000000 in
theorem rdigit_any (c : Int) (w : World) : Calls Tryd.prog 89 #[.int .u8 c] w fun e w' => e = .returned (.bool (digitI c)) ∧ w = w' := by
  go_enter Tryd.func89, Tryd.ntmps89
  go_wp2_with fail
  all_goals go_ret
  all_goals refine ⟨ret_bool ?_, rfl⟩
  all_goals (rw [Bool.eq_iff_iff]; simp [digitI]; omega)
set_option maxHeartbeats 1000000 in
theorem sletter_any (c : Int) (w : World) : Calls Tryd.prog 80 #[.int .u8 c] w fun e w' => e = .returned (.bool (letterI c)) ∧ w = w' := by
  go_enter Tryd.func80, Tryd.ntmps80
  go_wp2_with fail
  all_goals go_ret
  all_goals refine ⟨ret_bool ?_, rfl⟩
  all_goals (rw [Bool.eq_iff_iff]; simp [letterI]; omega)
set_option maxHeartbeats 1000000 in
theorem sdigit_any (c : Int) (w : World) : Calls Tryd.prog 96 #[.int .u8 c] w fun e w' => e = .returned (.bool (digitI c)) ∧ w = w' := by
  go_enter Tryd.func96, Tryd.ntmps96
  go_wp2_with fail
  all_goals go_ret
  all_goals refine ⟨ret_bool ?_, rfl⟩
  all_goals (rw [Bool.eq_iff_iff]; simp [digitI]; omega)
def innerI (c : Int) : Bool := letterI c || digitI c || c == 95
set_option maxHeartbeats 1000000 in
theorem inner_any (c : Int) (w : World) : Calls Tryd.prog 82 #[.int .u8 c] w fun e w' => e = .returned (.bool (innerI c)) ∧ w = w' := by
  go_enter Tryd.func82, Tryd.ntmps82
  go_wp2_with fail
  refine (sletter_any _ _).mono ?_
  rintro e w1 ⟨rfl, rfl⟩
  cases hl : letterI c
  · go_wp2_with fail
    refine (sdigit_any _ _).mono ?_
    rintro e w1 ⟨rfl, rfl⟩
    cases hd : digitI c
    · go_wp2_with fail
      all_goals go_ret
      all_goals exact ⟨ret_bool (by unfold innerI; simp [hl, hd]), rfl⟩
    · go_wp2_with fail
      all_goals go_ret
      all_goals exact ⟨ret_bool (by unfold innerI; simp [hl, hd]), rfl⟩
  · go_wp2_with fail
    all_goals go_ret
    all_goals exact ⟨ret_bool (by unfold innerI; simp [hl]), rfl⟩
/-- letters, digits and _ behind a letter -/
def nameRun (s : Str) : Bool := decide (0 < s.size) && letter (s.data.getD 0 0) && s.data.toList.all inner
theorem isName_run (s : Str) : isName s = (nameRun s && decide (s.size ≤ 30) && !(words.any (fun t => decide (t = s)))) := rfl
theorem innerI_of (c : UInt8) : innerI (c.toNat : Int) = inner c := by
  unfold innerI inner
  rw [letterI_of, digitI_of]
  congr 1
  rw [Bool.eq_iff_iff]
  simp only [beq_iff_eq]
  exact ⟨fun h => UInt8.toNat_inj.1 (by simpa using (by omega : c.toNat = 95)), fun h => by rw [h]; rfl⟩
theorem str_nil {s : Str} (h : s.size = 0) : s = ⟨#[]⟩ := by
  cases s with
  | mk d => congr; exact Array.eq_empty_of_size_eq_zero h
theorem ne_empty (s : Str) : (!(ByteArray.toList s).isEmpty) = decide (0 < s.size) := by
  rw [ByteArray.toList_eq, Bool.eq_iff_iff]
  have : s.data.toList.length = s.size := Array.length_toList
  cases h : s.data.toList with
  | nil => rw [h] at this; rw [← this]; simp
  | cons a b => rw [h] at this; rw [← this]; simp
theorem str_get0 {s : Str} (h : 0 < s.size) : s.data.getD 0 0 = s[0] := by
  have h' : 0 < s.data.size := h
  unfold Array.getD
  rw [dif_pos h']
  rfl
theorem nr_letter {s : Str} (h0 : 0 < s.size) (h : letter s[0] = false) : nameRun s = false := by
  unfold nameRun
  rw [str_get0 h0, h]
  simp
theorem nr_inner {s : Str} {i : Nat} (hi : i < s.size) (h : inner s[i] = false) : nameRun s = false := by
  unfold nameRun
  have : s.data.toList.all inner = false := by
    rw [List.all_eq_false]
    exact ⟨s[i], Array.mem_toList_iff.2 (Array.getElem_mem (xs := s.data) hi), by rw [h]; exact Bool.false_ne_true⟩
  rw [this, Bool.and_false]
theorem nr_ok {s : Str} (h0 : 0 < s.size) (h1 : letter s[0] = true) (h2 : ∀ i (h : i < s.size), inner s[i] = true) : nameRun s = true := by
  unfold nameRun
  rw [str_get0 h0, h1, decide_eq_true h0]
  simp only [Bool.true_and, List.all_eq_true]
  intro x hx
  obtain ⟨i, hi, rfl⟩ := List.getElem_of_mem hx
  exact h2 i (by simpa using hi)
set_option maxRecDepth 100000 in
set_option maxHeartbeats 1000000 in
theorem rrun_any (s : Str) (hs : s.size ≤ maxLen) (w : World) : Calls Tryd.prog 71 #[.string s] w fun e w' => e = .returned (.bool (nameRun s)) ∧ w = w' := by
  have hmx : s.size ≤ 9223372036854775807 := by unfold maxLen at hs; omega
  go_enter Tryd.func71, Tryd.ntmps71
  go_wp2_with fail
  go_loopw [3] (fun t3 wr => ∃ (j : Nat), j ≤ s.size ∧ t3 = .int .i64 j ∧ (∀ i (h : i < s.size), i < j → inner s[i] = true) ∧ (∀ h : 0 < s.size, 0 < j → letter s[0] = true) ∧ w = wr) (fun t3 _ => s.size - (intOf t3).toNat)
  case atStart => exact ⟨0, Nat.zero_le _, rfl, fun i _ h => by omega, fun _ h => by omega, rfl⟩
  case round =>
    obtain ⟨j, hj, rfl, h1, h2, hw⟩ := hrel
    subst hw
    have H1 := Lib.hid h1
    have H2 := Lib.hid h2
    clear h1 h2
    by_cases hlt : j < s.size
    · have hltI : (j : Int) < s.size := by omega
      have hb : inner s[j] = (letterI (s[j].toNat : Int) || digitI (s[j].toNat : Int) || (s[j].toNat : Int) == 95) := (innerI_of s[j]).symm
      have hlet := letterI_of s[j]
      by_cases hj0 : j = 0
      · subst hj0
        have HB := Lib.hid hb
        have HLT := Lib.hid hlet
        clear hb hlet
        go_wp2_with fail
        refine (rletter_any _ _).mono ?_
        rintro e w1 ⟨rfl, rfl⟩
        cases hl : letterI (s[0].toNat : Int)
        · have HNR := Lib.hid (nr_letter hlt (by rw [← HLT.out]; exact hl))
          clear hl
          go_wp2_with fail
          go_ret
          exact ⟨ret_bool HNR.out.symm, rfl⟩
        · have HL := Lib.hid hl
          go_wp2_with fail
          go_roundw
          case rel => exact ⟨1, hlt, rfl, fun i hi h => by
            obtain rfl : i = 0 := by omega
            rw [HB.out, HL.out]; rfl, fun _ _ => by rw [← HLT.out]; exact HL.out, by trivial⟩
          case measure => simp only [intOf]; omega
      · have q0 : ((j : Int) == 0) = false := by simp; omega
        have HB := Lib.hid hb
        clear hb hlet
        go_wp2_with fail
        refine (rletter_any _ _).mono ?_
        rintro e w1 ⟨rfl, rfl⟩
        cases hl : letterI (s[j].toNat : Int)
        · have HL := Lib.hid hl
          go_wp2_with fail
          refine (rdigit_any _ _).mono ?_
          rintro e w1 ⟨rfl, rfl⟩
          cases hd : digitI (s[j].toNat : Int)
          · have HD := Lib.hid hd
            cases hu : ((s[j].toNat : Int) == 95)
            · have hun : ((s[j].toNat : Int) != 95) = true := by unfold bne; rw [hu]; rfl
              have HNR := Lib.hid (nr_inner hlt (by rw [HB.out, HL.out, HD.out, hu]; rfl))
              go_wp2_with fail
              go_ret
              exact ⟨ret_bool HNR.out.symm, rfl⟩
            · have hun : ((s[j].toNat : Int) != 95) = false := by unfold bne; rw [hu]; rfl
              have HOK := Lib.hid (show inner s[j] = true by rw [HB.out, HL.out, HD.out, hu]; rfl)
              go_wp2_with fail
              go_roundw
              case rel => exact ⟨j + 1, hlt, by go_num, fun i hi h => by
                by_cases e : i = j
                · subst e; exact HOK.out
                · exact H1.out i hi (by omega), fun h0 _ => H2.out h0 (by omega), by trivial⟩
              case measure => simp only [intOf]; omega
          · have HOK := Lib.hid (show inner s[j] = true by rw [HB.out, HL.out, hd]; rfl)
            go_wp2_with fail
            go_roundw
            case rel => exact ⟨j + 1, hlt, by go_num, fun i hi h => by
              by_cases e : i = j
              · subst e; exact HOK.out
              · exact H1.out i hi (by omega), fun h0 _ => H2.out h0 (by omega), by trivial⟩
            case measure => simp only [intOf]; omega
        · have HOK := Lib.hid (show inner s[j] = true by rw [HB.out, hl]; rfl)
          go_wp2_with fail
          go_roundw
          case rel => exact ⟨j + 1, hlt, by go_num, fun i hi h => by
            by_cases e : i = j
            · subst e; exact HOK.out
            · exact H1.out i hi (by omega), fun h0 _ => H2.out h0 (by omega), by trivial⟩
          case measure => simp only [intOf]; omega
    · obtain rfl : j = s.size := by omega
      have HNR := Lib.hid (show nameRun s = decide (0 < s.size) by
        by_cases h0 : 0 < s.size
        · rw [nr_ok h0 (H2.out h0 h0) (fun i hi => H1.out i hi hi), decide_eq_true h0]
        · unfold nameRun; simp [h0])
      go_wp2_with fail
      go_ret
      exact ⟨ret_bool (by rw [HNR.out]; exact ne_empty s), rfl⟩
end Go.Proofs.YtfamkemdgbnegaaDoor

/- Sorts: is it a name, by the document. -/
namespace Go.Proofs.YtfamkemdgbnegaaDoor
open Go.RowKit So
set_option maxRecDepth 100000 in
set_option maxHeartbeats 1000000 in
theorem has_any (l : List Str) (s : Str) (A : Option Addr) (n c N : Nat) (w : World) (h : StrSl w N A n l) : Calls Tryd.prog 72 #[.slice A n c, .string s] w fun e w' => e = .returned (.bool (l.any (fun t => decide (t = s)))) ∧ w = w' := by
  obtain ⟨hn, hm, b, off, hA, hE⟩ := h
  have HN := Lib.hid hn
  have HA := Lib.hid hA
  have HE := Lib.hid hE
  clear hn hA hE
  go_enter Tryd.func72, Tryd.ntmps72
  go_wp2_with fail
  go_loopw [5] (fun t5 wr => ∃ (j : Nat), j ≤ n ∧ t5 = .int .i64 j ∧ (∀ v ∈ l.take j, ¬ v = s) ∧ w = wr) (fun t5 _ => n - (intOf t5).toNat)
  case atStart => exact ⟨0, Nat.zero_le _, rfl, by simp, rfl⟩
  case round =>
    obtain ⟨j, hj, rfl, hno, hw⟩ := hrel
    subst hw
    have HNO := Lib.hid hno
    clear hno
    by_cases hlt : j < n
    · have hjl : j < l.length := by have := HN.out; omega
      have hltI : (j : Int) < n := by omega
      obtain rfl := HA.out (by omega)
      have hrow := (HE.out (by omega)).2
      have hc := str_at hrow j hjl
      have hbw := hrow.lt
      obtain ⟨x, hxe⟩ : ∃ x, x = l[j] := ⟨_, rfl⟩
      rw [← hxe] at hc
      have HX := Lib.hid hxe
      clear hrow hxe
      by_cases hq : x = s
      · have hb := str_same hq
        have HQ := Lib.hid hq
        clear hq
        go_wp2_with fail
        go_ret
        refine ⟨ret_bool ?_, rfl⟩
        rw [eq_comm, List.any_eq_true]
        exact ⟨x, by rw [HX.out]; exact List.getElem_mem hjl, decide_eq_true HQ.out⟩
      · have hb := str_other hq
        have HQ := Lib.hid hq
        clear hq
        go_wp2_with fail
        go_roundw
        case rel => exact ⟨j + 1, hlt, by go_num, by
          intro v hv
          rw [List.take_add_one, List.getElem?_eq_getElem hjl, ← HX.out] at hv
          simp only [Option.toList_some, List.mem_append, List.mem_singleton] at hv
          rcases hv with hv | rfl
          · exact HNO.out v hv
          · exact HQ.out, by trivial⟩
        case measure => simp only [intOf]; omega
    · obtain rfl : j = n := by omega
      go_wp2_with fail
      go_ret
      refine ⟨ret_bool ?_, rfl⟩
      rw [eq_comm, List.any_eq_false]
      intro v hv
      have := HNO.out v (by rw [HN.out, List.take_length]; exact hv)
      simpa using this
set_option maxRecDepth 100000 in
set_option maxHeartbeats 1000000 in
theorem rwords_any (w : World) : Calls Tryd.prog 73 #[] w fun e w' => Ext w w' ∧ ∃ A c, e = .returned (.slice A 23 c) ∧ StrSl w' w'.heap.size A 23 words := by
  go_enter Tryd.func73, Tryd.ntmps73
  go_wp2_with fail
  go_ret
  refine ⟨(Kept.refl _ w).alloc _, _, _, rfl, rfl, by omega, w.heap.size, 0, fun _ => rfl, fun _ => ⟨by simp, ?_⟩⟩
  exact Row.of_blk (Blk.new w _ _)
set_option maxRecDepth 100000 in
set_option maxHeartbeats 1000000 in
theorem risname_any (s : Str) (hs : s.size ≤ maxLen) (w : World) : Calls Tryd.prog 52 #[.string s] w fun e w' => e = .returned (.bool (isName s)) ∧ Ext w w' := by
  have hmx : s.size ≤ 9223372036854775807 := by unfold maxLen at hs; omega
  rw [isName_run]
  obtain ⟨r, hr⟩ : ∃ r, r = (nameRun s && decide (s.size ≤ 30) && !(words.any (fun t => decide (t = s)))) := ⟨_, rfl⟩
  rw [← hr]
  have HR := Lib.hid hr
  clear hr
  go_enter Tryd.func52, Tryd.ntmps52
  go_wp2_with fail
  refine (rrun_any s hs _).mono ?_
  rintro e w1 ⟨rfl, rfl⟩
  cases hn : nameRun s
  · have HF := Lib.hid (show r = false by rw [HR.out, hn]; rfl)
    go_wp2_with fail
    go_ret
    exact ⟨ret_bool HF.out.symm, Kept.refl _ _⟩
  · by_cases hz : s.size ≤ 30
    · have hzI : (s.size : Int) ≤ 30 := by omega
      have HF := Lib.hid (show r = !(words.any (fun t => decide (t = s))) by rw [HR.out, hn, decide_eq_true hz]; rfl)
      go_wp2_with fail
      refine (rwords_any _).mono ?_
      rintro e w1 ⟨hx1, A, c, rfl, hS⟩
      have HS := Lib.hid hS
      clear hS
      go_wp2_with fail
      refine (has_any words s _ _ _ _ _ HS.out).mono ?_
      rintro e w2 ⟨rfl, rfl⟩
      go_wp2_with fail
      go_ret
      exact ⟨ret_bool (by rw [HF.out]), hx1⟩
    · have hzI : ¬ (s.size : Int) ≤ 30 := by omega
      have HF := Lib.hid (show r = false by rw [HR.out, decide_eq_false hz]; simp)
      go_wp2_with fail
      go_ret
      exact ⟨ret_bool HF.out.symm, Kept.refl _ _⟩
end Go.Proofs.YtfamkemdgbnegaaDoor
