/- Several texts joined: Ox, Oz, Opz, Oza, Oy, Ow, Ova, Ovb. -/
import Derived.Test.YtahljceanodhkaaGreatDoorRows
import Derived.ProofKit
import Derived.OpenShut
import Derived.ShutString
import Derived.ChangeOld
import Derived.ChangeArms
import Derived.Below
import Derived.Deep.Slices
import Derived.Test.YtahljceanodhkaaGreatDoorWbg
/- Steps between the document and the program: To, Of. -/
namespace Go.Proofs.YtahljceanodhkaaGreatDoor
open Go.RowKit
/-- a step whose parts are not many -/
structure Fits (L : Sl) : Prop where
  path : L.path.length ≤ 4096
  nr : L.reads.length ≤ 1000
  nw : L.writes.length ≤ 1000
  reads : ∀ x ∈ L.reads, x.path.length ≤ 4096
  writes : ∀ x ∈ L.writes, x.path.length ≤ 4096
set_option maxRecDepth 100000 in
set_option maxHeartbeats 4000000 in
theorem to_ok (N M : Nat) (s : Ws) (L : Sl) (w : World) (h : SV N 30 77 w s L) (hN : M ≤ w.heap.size) (hf : Fits L) :
    Calls Tryz.prog 45 #[.agg s.cells] w fun e w' => ∃ s', e = .returned (.agg (Ws.cells s')) ∧ SV M 23 163 w' s' L ∧ Ext w w' := by
  have HH := Lib.hid h
  have HF := Lib.hid hf
  clear h hf
  have hx0 : Ext w _ := ((Kept.refl _ w).alloc (.cells s.cells 45)).alloc (.cells zeroW 92)
  have hA0 : Blk _ w.heap.size 45 s.cells := Blk.alloc (Blk.new w _ _) (.cells zeroW 92)
  have hR0 : Blk _ (w.heap.size + 1) 92 zeroW := Blk.new' (w.alloc (.cells s.cells 45)) _ _ _ (by simp)
  have HNB := Lib.hid (show ¬ w.heap.size = w.heap.size + 1 by omega)
  obtain ⟨ab, hab⟩ : ∃ ab, ab = w.heap.size := ⟨_, rfl⟩
  obtain ⟨rb, hrb⟩ : ∃ rb, rb = w.heap.size + 1 := ⟨_, rfl⟩
  have HRB := Lib.hid (show w.heap.size ≤ rb ∧ M ≤ rb by omega)
  rw [← hab] at hA0
  rw [← hrb] at hR0
  have HAB := Lib.hid hab
  have HRE := Lib.hid hrb
  clear hab hrb
  go_enter Tryz.func45, Tryz.ntmps45
  go_upto_region 1 with (fail)
  rw [← HRE.out, ← HAB.out]
  generalize ((w.alloc (.cells s.cells 45)).alloc (.cells zeroW 92)) = W at hx0 hA0 hR0 ⊢
  have HX0 := Lib.hid hx0
  have HNW := Lib.hid (show M ≤ W.heap.size from Nat.le_trans hN hx0.size)
  clear hx0 hN
  have HW := Lib.hid (HH.out.ext HX0.out)
  refine wp_region_3 (fun w2 => Ext W w2) [(0, 2), (1, 1), (2, 2), (3, 1), (4, 2), (5, 1), (6, 2), (7, 1), (8, 2), (9, 1), (10, 2), (11, 1), (13, 2), (14, 1), (16, 2), (17, 1), (12, 0), (15, 0), (18, 0), (19, 2), (20, 0)] (by kernel_rfl) (by kernel_rfl) (by kernel_rfl) (by kernel_rfl) ?_; intro l' hl'; simp only [List.map_cons, List.map_nil, List.getD_cons_zero, List.getD_cons_succ] at hl'; subst hl'
  (repeat (first | ((apply w3_pure); (· go_simp); (· (intro w1; go_simp; try with_reducible rfl)); (intro K hK; go_simp; refine hK _ _ ?_; clear hK K)) | ((apply w3_skip); (· go_simp); (intro K hK; go_simp; refine hK _ _ ?_; clear hK K)) | ((apply w3_take); (· exact (Kept.drew (Kept.refl _ _))); (· go_simp); (· (intro w1 hS; have d0 := Blk.ext hA0 hS; have d1 := Blk.cell d0; have d2 := d0.lt; have d3 := Blk.has d0; have d4 := Blk.gets d0;  go_simp; try with_reducible rfl)); (intro K hK; go_simp; refine hK _ _ ?_; clear hK K)) | ((apply w3_pass); (· exact (Kept.drew (Kept.refl _ _))); (· go_simp); (intro K hK; go_simp; refine hK _ _ ?_; clear hK K))))
  have yW : Ext W W.drew := (Kept.refl _ W).drew
  (refine w3_act (fun K hK => ?_); go_simp)
  go_wp2_with fail
  obtain ⟨pb, po, hpA, hpr⟩ : ∃ pb po, (0 < s.pn → s.pa = some ⟨pb, po, none⟩) ∧ (0 < s.pn → Row W.drew pb po (digs L.path)) := by
    by_cases h0 : 0 < s.pn
    · obtain ⟨pb, po, e1, e2, _⟩ := HW.out.path.row h0
      exact ⟨pb, po, fun _ => e1, fun _ => e2.ext yW⟩
    · exact ⟨0, 0, fun h => absurd h h0, fun h => absurd h h0⟩
  refine (digests_ok s.pa pb po s.pk L.path s.pn HW.out.path.len (by have := HW.out.path.len; have := HF.out.path; omega) hpA W.drew hpr).mono ?_
  rintro e w1 ⟨v1, rfl, ho1, hx1⟩
  obtain ⟨A1, c1, rfl, hp1⟩ := PG.of_own (N := M) ho1
  have y1 : Ext W w1 := yW.trans hx1
  have HP1 := Lib.hid hp1
  refine hK.out _ _ (fun _ => y1) ?_
  clear hK K hpA hpr ho1 hp1 hx1 yW
  (repeat (first | ((apply w3_pure); (· go_simp); (· (intro w1; go_simp; try with_reducible rfl)); (intro K hK; go_simp; refine hK _ _ ?_; clear hK K)) | ((apply w3_skip); (· go_simp); (intro K hK; go_simp; refine hK _ _ ?_; clear hK K))))
  (refine w3_act (fun K hK => ?_); go_simp)
  go_wp2_with fail
  refine (words_ok N M s.ra s.rn s.rk L.reads w1 (HW.out.reads.ext y1) (Nat.le_trans HNW.out y1.size) (by have := HW.out.reads.len; have := HF.out.nr; omega) HF.out.reads).mono ?_
  rintro e w2 ⟨A2, c2, rfl, hs2, hx2⟩
  have y2 : Ext W w2 := y1.trans hx2
  have HP2 := Lib.hid (HP1.out.ext hx2)
  have HS2 := Lib.hid hs2
  refine hK.out _ _ (fun _ => y2) ?_
  clear hK K hs2 HP1 hx2 y1
  (repeat (first | ((apply w3_pure); (· go_simp); (· (intro w1; go_simp; try with_reducible rfl)); (intro K hK; go_simp; refine hK _ _ ?_; clear hK K)) | ((apply w3_skip); (· go_simp); (intro K hK; go_simp; refine hK _ _ ?_; clear hK K))))
  (refine w3_act (fun K hK => ?_); go_simp)
  go_wp2_with fail
  refine (words_ok N M s.wa s.wn s.wk L.writes w2 (HW.out.writes.ext y2) (Nat.le_trans HNW.out y2.size) (by have := HW.out.writes.len; have := HF.out.nw; omega) HF.out.writes).mono ?_
  rintro e w3 ⟨A3, c3, rfl, hs3, hx3⟩
  have y3 : Ext W w3 := y2.trans hx3
  have HP3 := Lib.hid (HP2.out.ext hx3)
  have HS3 := Lib.hid hs3
  have HR3 := Lib.hid (HS2.out.ext hx3)
  refine hK.out _ _ (fun _ => y3) ?_
  clear hK K hs3 HP2 HS2 hx3 y2
  have hR1 := Blk.ext hR0 y3
  have hh1 := Blk.has hR1
  have hm1 := Blk.melts hR1
  (repeat (first | ((apply w3_pure); (· go_simp); (· (intro w1; go_simp; try with_reducible rfl)); (intro K hK; go_simp; refine hK _ _ ?_; clear hK K)) | ((apply w3_skip); (· go_simp); (intro K hK; go_simp; refine hK _ _ ?_; clear hK K)) | (refine w3_end (by kernel_rfl) (fun K hK => ?_); go_simp; refine hK.out _ _ ?_; clear hK K))); refine w3_nil ?_
  go_wp2_with fail
  have hk : Kept (· = rb) w3 (putAt w3 rb 0 (Ws.cells ⟨s.pc, s.halt, s.words, s.mem, s.ins, A1, s.pn, c1, A2, s.rn, c2, A3, s.wn, c3⟩)) := Kept.putAt (Kept.refl (· = rb) w3) rb 0 _ (fun _ => rfl)
  have hsv : SV M 23 163 w3 ⟨s.pc, s.halt, s.words, s.mem, s.ins, A1, s.pn, c1, A2, s.rn, c2, A3, s.wn, c3⟩ L := ⟨HW.out.pc, HW.out.halt, HW.out.words, HW.out.mem, HW.out.ins, HP3.out, HR3.out, HS3.out⟩
  refine ret_cell Tryz.results45 rfl rfl aggRstep (by exact sizeRstep) (Blk.put_ hR1 _ _) ⟨_, rfl, hsv.kept hk (fun i q => ⟨by subst q; exact HRB.out.2, by subst q; exact step_not hR1 (by decide)⟩) (fun i q => by subst q; exact step_not hR1 (by decide)), ?_⟩
  exact (HX0.out.trans y3).trans' hk (fun i hi q => by have := HRB.out; omega)
set_option maxRecDepth 100000 in
set_option maxHeartbeats 4000000 in
theorem of_ok (N M : Nat) (s : Ws) (L : Sl) (w : World) (h : SV N 23 163 w s L) (hN : M ≤ w.heap.size) (hf : Fits L) :
    Calls Tryz.prog 53 #[.agg s.cells] w fun e w' => ∃ s', e = .returned (.agg (Ws.cells s')) ∧ SV M 30 77 w' s' L ∧ Ext w w' := by
  have HH := Lib.hid h
  have HF := Lib.hid hf
  clear h hf
  have hx0 : Ext w _ := ((Kept.refl _ w).alloc (.cells s.cells 92)).alloc (.cells zeroW 45)
  have hA0 : Blk _ w.heap.size 92 s.cells := Blk.alloc (Blk.new w _ _) (.cells zeroW 45)
  have hR0 : Blk _ (w.heap.size + 1) 45 zeroW := Blk.new' (w.alloc (.cells s.cells 92)) _ _ _ (by simp)
  have HNB := Lib.hid (show ¬ w.heap.size = w.heap.size + 1 by omega)
  obtain ⟨ab, hab⟩ : ∃ ab, ab = w.heap.size := ⟨_, rfl⟩
  obtain ⟨rb, hrb⟩ : ∃ rb, rb = w.heap.size + 1 := ⟨_, rfl⟩
  have HRB := Lib.hid (show w.heap.size ≤ rb ∧ M ≤ rb by omega)
  rw [← hab] at hA0
  rw [← hrb] at hR0
  have HAB := Lib.hid hab
  have HRE := Lib.hid hrb
  clear hab hrb
  go_enter Tryz.func53, Tryz.ntmps53
  go_upto_region 1 with (fail)
  rw [← HRE.out, ← HAB.out]
  generalize ((w.alloc (.cells s.cells 92)).alloc (.cells zeroW 45)) = W at hx0 hA0 hR0 ⊢
  have HX0 := Lib.hid hx0
  have HNW := Lib.hid (show M ≤ W.heap.size from Nat.le_trans hN hx0.size)
  clear hx0 hN
  have HW := Lib.hid (HH.out.ext HX0.out)
  refine wp_region_3 (fun w2 => Ext W w2) [(0, 2), (1, 1), (2, 2), (3, 1), (4, 2), (5, 1), (6, 2), (7, 1), (8, 2), (9, 1), (10, 2), (11, 1), (13, 2), (14, 1), (16, 2), (17, 1), (12, 0), (15, 0), (18, 0), (19, 2), (20, 0)] (by kernel_rfl) (by kernel_rfl) (by kernel_rfl) (by kernel_rfl) ?_; intro l' hl'; simp only [List.map_cons, List.map_nil, List.getD_cons_zero, List.getD_cons_succ] at hl'; subst hl'
  (repeat (first | ((apply w3_pure); (· go_simp); (· (intro w1; go_simp; try with_reducible rfl)); (intro K hK; go_simp; refine hK _ _ ?_; clear hK K)) | ((apply w3_skip); (· go_simp); (intro K hK; go_simp; refine hK _ _ ?_; clear hK K)) | ((apply w3_take); (· exact (Kept.drew (Kept.refl _ _))); (· go_simp); (· (intro w1 hS; have d0 := Blk.ext hA0 hS; have d1 := Blk.cell d0; have d2 := d0.lt; have d3 := Blk.has d0; have d4 := Blk.gets d0;  go_simp; try with_reducible rfl)); (intro K hK; go_simp; refine hK _ _ ?_; clear hK K)) | ((apply w3_pass); (· exact (Kept.drew (Kept.refl _ _))); (· go_simp); (intro K hK; go_simp; refine hK _ _ ?_; clear hK K))))
  have yW : Ext W W.drew := (Kept.refl _ W).drew
  (refine w3_act (fun K hK => ?_); go_simp)
  go_wp2_with fail
  obtain ⟨pb, po, hpA, hpr⟩ : ∃ pb po, (0 < s.pn → s.pa = some ⟨pb, po, none⟩) ∧ (0 < s.pn → Row W.drew pb po (digs L.path)) := by
    by_cases h0 : 0 < s.pn
    · obtain ⟨pb, po, e1, e2, _⟩ := HW.out.path.row h0
      exact ⟨pb, po, fun _ => e1, fun _ => e2.ext yW⟩
    · exact ⟨0, 0, fun h => absurd h h0, fun h => absurd h h0⟩
  refine (ofdigs_ok s.pa pb po s.pk L.path s.pn HW.out.path.len (by have := HW.out.path.len; have := HF.out.path; omega) hpA W.drew hpr).mono ?_
  rintro e w1 ⟨v1, rfl, ho1, hx1⟩
  obtain ⟨A1, c1, rfl, hp1⟩ := PG.of_own (N := M) ho1
  have y1 : Ext W w1 := yW.trans hx1
  have HP1 := Lib.hid hp1
  refine hK.out _ _ (fun _ => y1) ?_
  clear hK K hpA hpr ho1 hp1 hx1 yW
  (repeat (first | ((apply w3_pure); (· go_simp); (· (intro w1; go_simp; try with_reducible rfl)); (intro K hK; go_simp; refine hK _ _ ?_; clear hK K)) | ((apply w3_skip); (· go_simp); (intro K hK; go_simp; refine hK _ _ ?_; clear hK K))))
  (refine w3_act (fun K hK => ?_); go_simp)
  go_wp2_with fail
  refine (ofwords_ok N M s.ra s.rn s.rk L.reads w1 (HW.out.reads.ext y1) (Nat.le_trans HNW.out y1.size) (by have := HW.out.reads.len; have := HF.out.nr; omega) HF.out.reads).mono ?_
  rintro e w2 ⟨A2, c2, rfl, hs2, hx2⟩
  have y2 : Ext W w2 := y1.trans hx2
  have HP2 := Lib.hid (HP1.out.ext hx2)
  have HS2 := Lib.hid hs2
  refine hK.out _ _ (fun _ => y2) ?_
  clear hK K hs2 HP1 hx2 y1
  (repeat (first | ((apply w3_pure); (· go_simp); (· (intro w1; go_simp; try with_reducible rfl)); (intro K hK; go_simp; refine hK _ _ ?_; clear hK K)) | ((apply w3_skip); (· go_simp); (intro K hK; go_simp; refine hK _ _ ?_; clear hK K))))
  (refine w3_act (fun K hK => ?_); go_simp)
  go_wp2_with fail
  refine (ofwords_ok N M s.wa s.wn s.wk L.writes w2 (HW.out.writes.ext y2) (Nat.le_trans HNW.out y2.size) (by have := HW.out.writes.len; have := HF.out.nw; omega) HF.out.writes).mono ?_
  rintro e w3 ⟨A3, c3, rfl, hs3, hx3⟩
  have y3 : Ext W w3 := y2.trans hx3
  have HP3 := Lib.hid (HP2.out.ext hx3)
  have HS3 := Lib.hid hs3
  have HR3 := Lib.hid (HS2.out.ext hx3)
  refine hK.out _ _ (fun _ => y3) ?_
  clear hK K hs3 HP2 HS2 hx3 y2
  have hR1 := Blk.ext hR0 y3
  have hh1 := Blk.has hR1
  have hm1 := Blk.melts hR1
  (repeat (first | ((apply w3_pure); (· go_simp); (· (intro w1; go_simp; try with_reducible rfl)); (intro K hK; go_simp; refine hK _ _ ?_; clear hK K)) | ((apply w3_skip); (· go_simp); (intro K hK; go_simp; refine hK _ _ ?_; clear hK K)) | (refine w3_end (by kernel_rfl) (fun K hK => ?_); go_simp; refine hK.out _ _ ?_; clear hK K))); refine w3_nil ?_
  go_wp2_with fail
  have hk : Kept (· = rb) w3 (putAt w3 rb 0 (Ws.cells ⟨s.pc, s.halt, s.words, s.mem, s.ins, A1, s.pn, c1, A2, s.rn, c2, A3, s.wn, c3⟩)) := Kept.putAt (Kept.refl (· = rb) w3) rb 0 _ (fun _ => rfl)
  have hsv : SV M 30 77 w3 ⟨s.pc, s.halt, s.words, s.mem, s.ins, A1, s.pn, c1, A2, s.rn, c2, A3, s.wn, c3⟩ L := ⟨HW.out.pc, HW.out.halt, HW.out.words, HW.out.mem, HW.out.ins, HP3.out, HR3.out, HS3.out⟩
  refine ret_cell Tryz.results53 rfl rfl aggStep (by exact sizeStep) (Blk.put_ hR1 _ _) ⟨_, rfl, hsv.kept hk (fun i q => ⟨by subst q; exact HRB.out.2, by subst q; exact step_not hR1 (by decide)⟩) (fun i q => by subst q; exact step_not hR1 (by decide)), ?_⟩
  exact (HX0.out.trans y3).trans' hk (fun i hi q => by have := HRB.out; omega)
end Go.Proofs.YtahljceanodhkaaGreatDoor

/- A step of its own memory is a step that the program's Encode takes. -/
namespace Go.Proofs.YtahljceanodhkaaGreatDoor
open Go.RowKit
theorem PG.pathV {w : World} {A : Option Addr} {n : Nat} {l : List Dg} (h : PG 0 30 w A n l) (hok : ∀ d ∈ l, d.ok) : PathV w A n l := by
  by_cases h0 : 0 < n
  · obtain ⟨b, off, h1, h2, h3⟩ := h.row h0
    refine ⟨b, off, h.len, hok, fun _ => h1, fun _ => h2, fun _ => ?_⟩
    rcases h3 with h3 | h3
    · omega
    · exact h3
  · exact ⟨0, 0, h.len, hok, fun q => absurd q h0, fun q => absurd q h0, fun q => absurd q h0⟩
theorem WsG.wordsV {w : World} : ∀ {ds : List Wd} {ls : List Wl}, WsG 0 30 w ds ls → (∀ x ∈ ls, ∀ d ∈ x.path, d.ok) → WordsV w ds ls
  | _, _, .nil, _ => .nil
  | _, _, .cons h r, q => .cons ⟨h.at_, h.is_, h.path.pathV (q _ (List.mem_cons_self ..))⟩ (r.wordsV fun x hx => q x (List.mem_cons_of_mem _ hx))
theorem SG.wordsS {w : World} {A : Option Addr} {n : Nat} {ls : List Wl} (h : SG 0 30 77 w A n ls) (hok : ∀ x ∈ ls, ∀ d ∈ x.path, d.ok) : WordsS w A n ls := by
  obtain ⟨hl, b, off, ds, h1, h2, h3, h4⟩ := h
  refine ⟨hl, b, off, ds, h1, h2, fun h0 => ?_, h4.wordsV hok⟩
  rcases h3 h0 with h3 | h3
  · omega
  · exact h3
theorem SV.stepV {w : World} {s : Ws} {L : Sl} (h : SV 0 30 77 w s L) (hok : L.ok) : StepV w s L :=
  ⟨h.pc, h.halt, h.words, h.mem, h.ins, h.path.pathV hok.digs, h.reads.wordsS fun x hx => (hok.reads x hx).2.2, h.writes.wordsS fun x hx => (hok.writes x hx).2.2⟩
end Go.Proofs.YtahljceanodhkaaGreatDoor

/- What came in, opened: a step of the document's, and bytes. -/
namespace Go.Proofs.YtahljceanodhkaaGreatDoor
open Go.RowKit Go.Deep Go.ChangeShapes Go.WideShapes
section
variable {H : Type} {enc : TypeId × Value → H} {P : Program} {w : World} {base : Nat} {held : Bool}
/-- no string, slice or map of it takes more than there is -/
def light (P : Program) (t : TypeId) (d : DataW H) : Prop := (d.weights P t).all (· ≤ reachBytes) = true
theorem light_all {E : TypeId} : ∀ {l : List (DataW H)} (_ : (DataW.weightsAll P E l).all (· ≤ reachBytes) = true), ∀ d ∈ l, light P E d
  | [], _, d, hd => absurd hd (by simp)
  | x :: l, h, d, hd => by
    rw [DataW.weightsAll, List.all_append, Bool.and_eq_true] at h
    rcases List.mem_cons.1 hd with rfl | hd
    · exact h.1
    · exact light_all h.2 d hd
theorem light_each : ∀ {ts : List TypeId} {l : List (DataW H)} (_ : (DataW.weightsEach P ts l).all (· ≤ reachBytes) = true) (i : Nat) (t : TypeId) (d : DataW H), ts[i]? = some t → l[i]? = some d → light P t d
  | [], _, _, i, _, _, ht, _ => absurd ht (by simp)
  | _ :: _, [], _, i, _, _, _, hd => absurd hd (by simp)
  | t :: ts, x :: l, h, i, t', d, ht, hd => by
    rw [DataW.weightsEach, List.all_append, Bool.and_eq_true] at h
    cases i with
    | zero =>
      simp only [List.getElem?_cons_zero, Option.some.injEq] at ht hd
      subst ht hd
      exact h.1
    | succ i => exact light_each h.2 i t' d (by simpa using ht) (by simpa using hd)
theorem map_getD {α : Type} (x : α) (ds : List α) : (List.range ds.length).map (fun i => (ds[i]?).getD x) = ds :=
  List.ext_getElem (by simp) (fun i h1 h2 => by simp [List.getElem?_eq_getElem h2])
/-- a slice that came in, with its size -/
theorem open_rows3 {T E : TypeId} {sz fuel : Nat} {v : Value} {d : DataW H} {ps : List MemPlace} (hu : P.underlying T = some (.slice E)) (hsz : P.cellsOf E = sz) (hpos : 0 < sz) (h : DataW.trod enc P w base (fun _ => true) held fuel T [v] = some (d, ps)) (hw : light P T d) :
    ∃ (A : Option Addr) (b off len cap : Nat) (rs : List (List Value × DataW H)), v = .slice A len cap ∧ (0 < len → A = some ⟨b, off, none⟩) ∧ rs.length = len ∧ (0 < len → Row w b off (rs.map (·.1)).flatten) ∧
      (∀ r ∈ rs, r.1.length = sz ∧ ∃ n ps', n < fuel ∧ DataW.trod enc P w base (fun _ => true) held n E r.1 = some (r.2, ps') ∧ light P E r.2) ∧ len * P.bytesOf E ≤ reachBytes ∧ Rows.uptoBulkAll (rs.map (·.2)) ≤ Rows.uptoBulk d := by
  rcases DataW.trod_slice hu h with ⟨hcs, _⟩ | ⟨a, len, cap, elems, rest, n, hfu, hcs, hx, _, hl, hm, hlen, hel, hsp, _⟩
  · simp at hcs
    exact ⟨none, 0, 0, 0, 0, [], hcs, fun h => by omega, rfl, fun h => by omega, fun _ h => by simp at h, by omega, by simp [Rows.uptoBulkAll]⟩
  · simp at hcs
    obtain ⟨hd, -⟩ := Prod.mk.inj hx
    subst hd
    unfold light at hw
    rw [DataW.weights] at hw
    simp only [hu, List.all_cons, List.all_append, Bool.and_eq_true, decide_eq_true_eq, List.length_map] at hw
    obtain ⟨hw1, hw2, -⟩ := hw
    have hla := light_all hw2
    rw [hsz] at hel
    obtain ⟨ds, hds⟩ : ∃ ds, ds = elems.map (·.1) := ⟨_, rfl⟩
    have hdl : ds.length = len := by rw [hds, List.length_map, hlen]
    have hch : ∀ i, ∃ cs, i < len → cs.length = sz ∧ (∃ ps', DataW.trod enc P w base (fun _ => true) held n E cs = some ((ds[i]?).getD .nil, ps') ∧ light P E ((ds[i]?).getD .nil)) ∧ ∀ j, j < sz → w.cell? ((a.add (i * sz)).add j) = cs[j]? := fun i => by
      by_cases hil : i < len
      · have hie : i < elems.length := by rw [hlen]; exact hil
        have he := hel i hil
        rw [List.getElem?_eq_getElem hie, Option.bind_eq_some_iff] at he
        obtain ⟨cs, hc, ht⟩ := he
        obtain ⟨_, hcl, hat⟩ := World.cells?_some hc
        have hg : (ds[i]?).getD .nil = (elems[i]'hie).1 := by rw [hds, List.getElem?_map, List.getElem?_eq_getElem hie]; rfl
        exact ⟨cs, fun _ => ⟨hcl, ⟨(elems[i]'hie).2, by rw [hg]; exact ht, by rw [hg]; exact hla _ (List.mem_map.2 ⟨elems[i]'hie, List.getElem_mem _, rfl⟩)⟩, hat⟩⟩
      · exact ⟨[], fun h => absurd h hil⟩
    obtain ⟨C, hC⟩ := Classical.axiomOfChoice hch
    have hsp : 0 < len → a = ⟨a.block, a.off, none⟩ := fun h0 => by
      obtain ⟨hcl, _, hat⟩ := hC 0 h0
      have h0' := hat 0 hpos
      rw [List.getElem?_eq_getElem (by omega)] at h0'
      have e : (a.add (0 * sz)).add 0 = a := by simp [Addr.add]
      rw [e] at h0'
      have := ospot_of_cell h0'
      cases a; simp_all
    have hlen' : ∀ cs ∈ (List.range len).map C, cs.length = sz := fun cs hcs => by
      simp at hcs
      obtain ⟨i, hil, rfl⟩ := hcs
      exact (hC i hil).1
    have hm1 : ((List.range len).map (fun i => (C i, (ds[i]?).getD (.nil : DataW H)))).map (·.1) = (List.range len).map C := by rw [List.map_map]; rfl
    have hm2 : ((List.range len).map (fun i => (C i, (ds[i]?).getD (.nil : DataW H)))).map (·.2) = ds := by
      rw [List.map_map, ← hdl]
      exact map_getD _ ds
    refine ⟨some a, a.block, a.off, len, cap, (List.range len).map (fun i => (C i, (ds[i]?).getD .nil)), hcs, fun h => by rw [← hsp h], by simp, fun h0 => ?_, fun r hr => ?_, ?_, ?_⟩
    · rw [hm1]
      have hfl := flatten_len _ hlen'
      rw [List.length_map, List.length_range] at hfl
      refine row_of_cells _ (by rw [hfl]; exact Nat.mul_pos h0 hpos) (fun j hj => ?_)
      rw [hfl] at hj
      rw [flatten_get hpos _ hlen']
      have hq : j / sz < len := Nat.div_lt_of_lt_mul (by rw [Nat.mul_comm]; exact hj)
      have hr := (hC (j / sz) hq).2.2 (j % sz) (Nat.mod_lt _ hpos)
      rw [hsp h0, oaddr_add, oaddr_add, Nat.add_assoc] at hr
      rw [show j / sz * sz + j % sz = j by rw [Nat.mul_comm]; exact Nat.div_add_mod j sz] at hr
      rw [hr]
      simp [hq]
    · obtain ⟨i, hi, rfl⟩ := List.mem_map.1 hr
      obtain ⟨h1, ⟨ps', h2, h3⟩, -⟩ := hC i (by simpa using hi)
      exact ⟨h1, n, ps', by omega, h2, h3⟩
    · refine Nat.le_trans (Nat.mul_le_mul_right _ ?_) hw1
      omega
    · rw [hm2, hds, Rows.uptoBulk]
      omega
/-- a struct's fields, all of them -/
theorem fields_of3 {fs : Array Field} {t : TypeId} {fuel : Nat} {cs : List Value} {d : DataW H} {ps : List MemPlace} (hu : P.underlying t = some (.struct fs)) (h : DataW.trod enc P w base (fun _ => true) held fuel t cs = some (d, ps)) (hw : light P t d) :
    ∃ n xs, fuel = n + 1 ∧ cs.length = P.cellsOf t ∧ d = .agg xs ∧ xs.length = fs.size ∧ ∀ (i : Nat) (f : Field), fs[i]? = some f → ∃ d' ps', xs[i]? = some d' ∧ DataW.trod enc P w base (fun _ => true) held n f.type ((cs.drop f.offset).take (P.cellsOf f.type)) = some (d', ps') ∧ light P f.type d' := by
  obtain ⟨xs, n, hfu, hx, hl, hxl, hf⟩ := DataW.trod_struct hu h
  obtain ⟨hd, -⟩ := Prod.mk.inj hx
  subst hd
  unfold light at hw
  rw [DataW.weights] at hw
  simp only [hu] at hw
  refine ⟨n, xs.map (·.1), hfu, hl, rfl, by rw [List.length_map, hxl], fun i f hif => ?_⟩
  have hlt : i < xs.length := by
    rw [hxl]
    exact (Array.getElem?_eq_some_iff.1 hif).1
  have h1 := hf i f hif
  rw [List.getElem?_eq_getElem hlt] at h1
  refine ⟨xs[i].1, xs[i].2, by rw [List.getElem?_map, List.getElem?_eq_getElem hlt]; rfl, h1, light_each hw i f.type xs[i].1 ?_ ?_⟩
  · rw [List.getElem?_map, Array.getElem?_toList, hif]; rfl
  · rw [List.getElem?_map, List.getElem?_eq_getElem hlt]; rfl
theorem bulk_pos : ∀ (d : DataW H), 1 ≤ Rows.uptoBulk d
  | .lit l => by cases l <;> simp [Rows.uptoBulk]
  | .nil => by simp [Rows.uptoBulk]
  | .ptr d => by simp [Rows.uptoBulk]
  | .slice e s => by simp [Rows.uptoBulk]
  | .agg p => by simp [Rows.uptoBulk]
  | .iface _ d => by simp [Rows.uptoBulk]
  | .map e => by simp [Rows.uptoBulk]
  | .held _ => by simp [Rows.uptoBulk]
theorem bulk_len : ∀ (ds : List (DataW H)), ds.length ≤ Rows.uptoBulkAll ds
  | [] => by simp
  | d :: r => by have := bulk_pos d; have := bulk_len r; simp only [List.length_cons, Rows.uptoBulkAll]; omega
theorem bulk_mem : ∀ {ds : List (DataW H)} {d : DataW H}, d ∈ ds → Rows.uptoBulk d ≤ Rows.uptoBulkAll ds
  | [], _, h => absurd h (by simp)
  | x :: r, d, h => by
    rw [Rows.uptoBulkAll]
    rcases List.mem_cons.1 h with rfl | h
    · omega
    · have := bulk_mem h; omega
theorem bulk_at {ds : List (DataW H)} {i : Nat} {d : DataW H} (h : ds[i]? = some d) : Rows.uptoBulk d ≤ Rows.uptoBulk (.agg ds) := by
  have := bulk_mem (List.mem_of_getElem? h)
  rw [Rows.uptoBulk]
  omega
end
section
variable {H : Type} {enc : TypeId × Value → H} {w : World} {base : Nat} {held : Bool}
theorem cellsD8 : Tryz.prog.cellsOf 23 = 8 := by kernel_rfl
theorem cellsB1 : Tryz.prog.cellsOf 5 = 1 := by kernel_rfl
theorem cellsW3 : Tryz.prog.cellsOf 163 = 3 := by kernel_rfl
theorem cellsS18 : Tryz.prog.cellsOf 92 = 18 := by kernel_rfl
theorem cellsP1 : Tryz.prog.cellsOf 80 = 1 := by kernel_rfl
theorem cellsR1 : Tryz.prog.cellsOf 90 = 1 := by kernel_rfl
theorem u8_of {n : Int} (h : Lit.wf (.int .u8 n) = true) : 0 ≤ n ∧ n ≤ 255 := by
  simpa [Lit.wf, IntKind.min, IntKind.max, IntKind.signed, IntKind.bits] using h
theorem u8s_of : ∀ (cs : List Value), (∀ i (hi : i < cs.length), ∃ n : Int, (0 ≤ n ∧ n ≤ 255) ∧ cs[i] = .int .u8 n) → ∃ l : List Int, cs = byts l ∧ BytesOk l
  | [], _ => ⟨[], rfl, fun x hx => by simp at hx⟩
  | c :: r, h => by
    obtain ⟨n, hn, e⟩ := h 0 (by simp)
    obtain ⟨l, e2, hl⟩ := u8s_of r (fun i hi => by have := h (i + 1) (by simp; omega); simpa using this)
    simp at e
    subst e e2
    exact ⟨n :: l, rfl, fun x hx => by rcases List.mem_cons.1 hx with rfl | hx; exact hn; exact hl x hx⟩
theorem dig_of {fuel : Nat} {cs : List Value} {x : DataW H × List MemPlace} (h : DataW.trod enc Tryz.prog w base (fun _ => true) held fuel 23 cs = some x) : ∃ D : Dg, D.ok ∧ cs = D.cells.toList := by
  obtain ⟨zs, m, _, _, hl, hzl, hz⟩ := DataW.trod_array Tryz.underlying23 h
  rw [cellsD8] at hl
  rw [cellsB1] at hz
  obtain ⟨l, e, hb⟩ := u8s_of cs (fun i hi => by
    have hzi := hz i (by omega)
    rw [List.getElem?_eq_getElem (show i < zs.length by omega)] at hzi
    obtain ⟨n, e, _, wf⟩ := DataW.trod_int Tryz.underlying5 hzi
    refine ⟨n, u8_of wf, ?_⟩
    have := congrArg (fun l => l[0]?) e
    simp [List.getElem?_drop] at this
    rw [List.getElem?_eq_getElem hi] at this
    simpa using this)
  subst e
  rw [byts_length] at hl
  refine ⟨dgOf l, dgOf_ok hb, ?_⟩
  rw [← dgOf_cells l (by omega), List.take_of_length_le (by rw [byts_length]; omega)]
theorem digsFlat : ∀ (css : List (List Value)), (∀ cs ∈ css, ∃ D : Dg, D.ok ∧ cs = D.cells.toList) → ∃ l : List Dg, l.length = css.length ∧ (∀ d ∈ l, d.ok) ∧ css.flatten = digs l
  | [], _ => ⟨[], rfl, by simp, rfl⟩
  | c :: r, h => by
    obtain ⟨i, hi, rfl⟩ := h c (by simp)
    obtain ⟨l, hl, ho, he⟩ := digsFlat r (fun cs hcs => h cs (by simp [hcs]))
    exact ⟨i :: l, by simp [hl], by simp; exact ⟨hi, ho⟩, by rw [List.flatten_cons, he]; rfl⟩
/-- a path that came in -/
theorem path_of {fuel : Nat} {v : Value} {d : DataW H} {ps : List MemPlace} (h : DataW.trod enc Tryz.prog w base (fun _ => true) held fuel 80 [v] = some (d, ps)) (hw : light Tryz.prog 80 d) :
    ∃ (A : Option Addr) (n cap : Nat) (l : List Dg), v = .slice A n cap ∧ PG w.heap.size 23 w A n l ∧ (∀ d ∈ l, d.ok) ∧ l.length ≤ Rows.uptoBulk d := by
  obtain ⟨A, b, off, len, cap, rs, rfl, hA, hl, hr, hc, hb, hk⟩ := open_rows3 Tryz.underlying80 cellsD8 (by omega) h hw
  obtain ⟨l, hll, ho, he⟩ := digsFlat (rs.map (·.1)) (fun cs hcs => by obtain ⟨r, hr, rfl⟩ := List.mem_map.1 hcs; obtain ⟨_, n, ps', _, ht, _⟩ := hc r hr; exact dig_of ht)
  rw [List.length_map] at hll
  have hbl := bulk_len (rs.map (·.2))
  rw [List.length_map] at hbl
  exact ⟨A, len, cap, l, rfl, ⟨by omega, fun h0 => ⟨b, off, hA h0, he ▸ hr h0, .inl (hr h0).lt⟩⟩, ho, by omega⟩
/-- what is known of a word that came in -/
structure Wl.came (K : Nat) (x : Wl) : Prop where
  at_ : i64ok x.at_
  is_ : i32ok x.is_
  digs : ∀ d ∈ x.path, d.ok
  len : x.path.length ≤ K
set_option maxRecDepth 100000 in
theorem word_of {fuel : Nat} {cs : List Value} {d : DataW H} {ps : List MemPlace} (h : DataW.trod enc Tryz.prog w base (fun _ => true) held fuel 163 cs = some (d, ps)) (hw : light Tryz.prog 163 d) :
    ∃ (D : Wd) (l : Wl), cs = D.cells.toList ∧ WG w.heap.size 23 w D l ∧ l.came (Rows.uptoBulk d) := by
  obtain ⟨n, xs, _, hl, rfl, hxl, hf⟩ := fields_of3 Tryz.underlying163 h hw
  rw [cellsW3] at hl
  obtain ⟨d0, p0, g0, h0, _⟩ := hf 0 _ rfl
  obtain ⟨d1, p1, g1, h1, _⟩ := hf 1 _ rfl
  obtain ⟨d2, p2, g2, h2, l2⟩ := hf 2 _ rfl
  change DataW.trod enc Tryz.prog w base (fun _ => true) held n 3 ((cs.drop 0).take (Tryz.prog.cellsOf 3)) = _ at h0
  change DataW.trod enc Tryz.prog w base (fun _ => true) held n 21 ((cs.drop 1).take (Tryz.prog.cellsOf 21)) = _ at h1
  change DataW.trod enc Tryz.prog w base (fun _ => true) held n 80 ((cs.drop 2).take (Tryz.prog.cellsOf 80)) = _ at h2
  change light Tryz.prog 80 d2 at l2
  rw [cellsInt] at h0
  rw [cellsI32] at h1
  rw [cellsP1] at h2
  match cs, hl with
  | [c0, c1, c2], _ =>
    obtain ⟨n0, e0, _, w0⟩ := DataW.trod_int Tryz.underlying3 h0
    obtain ⟨n1, e1, _, w1⟩ := DataW.trod_int Tryz.underlying21 h1
    obtain ⟨A, k, cap, l, e2, hp, ho, hlen⟩ := path_of h2 l2
    simp at e0 e1
    subst e0 e1 e2
    exact ⟨⟨n0, n1, A, k, cap⟩, ⟨n0, n1, l⟩, rfl, ⟨rfl, rfl, hp⟩, ⟨i64_of w0, i32_of w1, ho, Nat.le_trans hlen (bulk_at g2)⟩⟩
theorem Wl.came.mono {K K' : Nat} {x : Wl} (h : x.came K) (hk : K ≤ K') : x.came K' := ⟨h.at_, h.is_, h.digs, Nat.le_trans h.len hk⟩
theorem words_flat (K : Nat) : ∀ (css : List (List Value)), (∀ cs ∈ css, ∃ (D : Wd) (l : Wl), cs = D.cells.toList ∧ WG w.heap.size 23 w D l ∧ l.came K) → ∃ (ds : List Wd) (ls : List Wl), ls.length = css.length ∧ WsG w.heap.size 23 w ds ls ∧ (∀ x ∈ ls, x.came K) ∧ css.flatten = wds ds
  | [], _ => ⟨[], [], rfl, .nil, by simp, rfl⟩
  | c :: r, h => by
    obtain ⟨D, l, rfl, hg, hc⟩ := h c (by simp)
    obtain ⟨ds, ls, hl, hs, ho, he⟩ := words_flat K r (fun cs hcs => h cs (by simp [hcs]))
    exact ⟨D :: ds, l :: ls, by simp [hl], .cons hg hs, by simp; exact ⟨hc, ho⟩, by rw [List.flatten_cons, he]; rfl⟩
/-- words that came in -/
theorem words_of {fuel : Nat} {v : Value} {d : DataW H} {ps : List MemPlace} (h : DataW.trod enc Tryz.prog w base (fun _ => true) held fuel 90 [v] = some (d, ps)) (hw : light Tryz.prog 90 d) :
    ∃ (A : Option Addr) (n cap : Nat) (ls : List Wl), v = .slice A n cap ∧ SG w.heap.size 23 163 w A n ls ∧ (∀ x ∈ ls, x.came (Rows.uptoBulk d)) ∧ ls.length ≤ Rows.uptoBulk d := by
  obtain ⟨A, b, off, len, cap, rs, rfl, hA, hl, hr, hc, hb, hk⟩ := open_rows3 Tryz.underlying90 cellsW3 (by omega) h hw
  obtain ⟨ds, ls, hll, hs, ho, he⟩ := words_flat (Rows.uptoBulk d) (rs.map (·.1)) (fun cs hcs => by
    obtain ⟨r, hr, rfl⟩ := List.mem_map.1 hcs
    obtain ⟨_, n, ps', _, ht, hw'⟩ := hc r hr
    obtain ⟨D, l, e, h1, h2⟩ := word_of ht hw'
    exact ⟨D, l, e, h1, h2.mono (Nat.le_trans (bulk_mem (List.mem_map.2 ⟨r, hr, rfl⟩)) hk)⟩)
  rw [List.length_map] at hll
  have hbl := bulk_len (rs.map (·.2))
  rw [List.length_map] at hbl
  exact ⟨A, len, cap, ls, rfl, ⟨by omega, b, off, ds, hA, fun h0 => he ▸ hr h0, fun h0 => .inl (hr h0).lt, hs⟩, ho, by omega⟩
/-- a step of no more than K parts a row -/
structure FitsK (K : Nat) (L : Sl) : Prop where
  path : L.path.length ≤ K
  nr : L.reads.length ≤ K
  nw : L.writes.length ≤ K
  reads : ∀ x ∈ L.reads, x.path.length ≤ K
  writes : ∀ x ∈ L.writes, x.path.length ≤ K
set_option maxRecDepth 100000 in
set_option maxHeartbeats 1000000 in
/-- a step that came in -/
theorem step_of {fuel : Nat} {cs : List Value} {d : DataW H} {ps : List MemPlace} (h : DataW.trod enc Tryz.prog w base (fun _ => true) held fuel 92 cs = some (d, ps)) (hw : light Tryz.prog 92 d) :
    ∃ (s : Ws) (L : Sl), cs = (Ws.cells s).toList ∧ SV w.heap.size 23 163 w s L ∧ L.ok ∧ FitsK (Rows.uptoBulk d) L := by
  obtain ⟨n, xs, _, hl, rfl, hxl, hf⟩ := fields_of3 Tryz.underlying92 h hw
  rw [cellsS18] at hl
  obtain ⟨d0, p0, g0, h0, _⟩ := hf 0 _ rfl
  obtain ⟨d1, p1, g1, h1, _⟩ := hf 1 _ rfl
  obtain ⟨d2, p2, g2, h2, _⟩ := hf 2 _ rfl
  obtain ⟨d3, p3, g3, h3, _⟩ := hf 3 _ rfl
  obtain ⟨d4, p4, g4, h4, _⟩ := hf 4 _ rfl
  obtain ⟨d5, p5, g5, h5, l5⟩ := hf 5 _ rfl
  obtain ⟨d6, p6, g6, h6, l6⟩ := hf 6 _ rfl
  obtain ⟨d7, p7, g7, h7, l7⟩ := hf 7 _ rfl
  clear hf
  change DataW.trod enc Tryz.prog w base (fun _ => true) held n 3 ((cs.drop 0).take (Tryz.prog.cellsOf 3)) = _ at h0
  change DataW.trod enc Tryz.prog w base (fun _ => true) held n 3 ((cs.drop 1).take (Tryz.prog.cellsOf 3)) = _ at h1
  change DataW.trod enc Tryz.prog w base (fun _ => true) held n 3 ((cs.drop 2).take (Tryz.prog.cellsOf 3)) = _ at h2
  change DataW.trod enc Tryz.prog w base (fun _ => true) held n 23 ((cs.drop 3).take (Tryz.prog.cellsOf 23)) = _ at h3
  change DataW.trod enc Tryz.prog w base (fun _ => true) held n 89 ((cs.drop 11).take (Tryz.prog.cellsOf 89)) = _ at h4
  change DataW.trod enc Tryz.prog w base (fun _ => true) held n 80 ((cs.drop 15).take (Tryz.prog.cellsOf 80)) = _ at h5
  change DataW.trod enc Tryz.prog w base (fun _ => true) held n 90 ((cs.drop 16).take (Tryz.prog.cellsOf 90)) = _ at h6
  change DataW.trod enc Tryz.prog w base (fun _ => true) held n 90 ((cs.drop 17).take (Tryz.prog.cellsOf 90)) = _ at h7
  change light Tryz.prog 80 d5 at l5
  change light Tryz.prog 90 d6 at l6
  change light Tryz.prog 90 d7 at l7
  rw [cellsInt] at h0 h1 h2
  rw [cellsD8] at h3
  rw [cellsI] at h4
  rw [cellsP1] at h5
  rw [cellsR1] at h6 h7
  match cs, hl with
  | [c0, c1, c2, c3, c4, c5, c6, c7, c8, c9, c10, c11, c12, c13, c14, c15, c16, c17], _ =>
    obtain ⟨n0, e0, _, w0⟩ := DataW.trod_int Tryz.underlying3 h0
    obtain ⟨n1, e1, _, w1⟩ := DataW.trod_int Tryz.underlying3 h1
    obtain ⟨n2, e2, _, w2⟩ := DataW.trod_int Tryz.underlying3 h2
    obtain ⟨D, hD, e3⟩ := dig_of h3
    obtain ⟨I, hI, e4⟩ := ins_cells h4
    obtain ⟨A, k, cap, l, e5, hp, ho, hlen⟩ := path_of h5 l5
    obtain ⟨A6, k6, cap6, l6', e6, hp6, ho6, hlen6⟩ := words_of h6 l6
    obtain ⟨A7, k7, cap7, l7', e7, hp7, ho7, hlen7⟩ := words_of h7 l7
    simp at e0 e1 e2 e3 e4
    obtain ⟨rfl, rfl, rfl, rfl, rfl, rfl, rfl, rfl⟩ := e3
    obtain ⟨rfl, rfl, rfl, rfl⟩ := e4
    subst e0 e1 e2 e5 e6 e7
    refine ⟨⟨n0, n1, n2, D, I, A, k, cap, A6, k6, cap6, A7, k7, cap7⟩, ⟨n0, n1, n2, D, I, l, l6', l7'⟩, rfl, ⟨rfl, rfl, rfl, rfl, rfl, hp, hp6, hp7⟩, ⟨fun j => ?_, hD, hI, ho, fun x hx => ⟨(ho6 x hx).at_, (ho6 x hx).is_, (ho6 x hx).digs⟩, fun x hx => ⟨(ho7 x hx).at_, (ho7 x hx).is_, (ho7 x hx).digs⟩⟩, ⟨Nat.le_trans hlen (bulk_at g5), Nat.le_trans hlen6 (bulk_at g6), Nat.le_trans hlen7 (bulk_at g7), fun x hx => Nat.le_trans (ho6 x hx).len (bulk_at g6), fun x hx => Nat.le_trans (ho7 x hx).len (bulk_at g7)⟩⟩
    match j with
    | 0 => exact i64_of w0
    | 1 => exact i64_of w1
    | j + 2 => exact i64_of w2
/-- bytes that came in -/
theorem bytes_of {fuel : Nat} {v : Value} {x : DataW H × List MemPlace} (h : DataW.trod enc Tryz.prog w base (fun _ => true) held fuel 95 [v] = some x) :
    ∃ (A : Option Addr) (b off n cap : Nat) (l : List Int), v = .slice A n cap ∧ (0 < n → A = some ⟨b, off, none⟩) ∧ n = l.length ∧ (0 < n → Row w b off (byts l)) ∧ BytesOk l ∧ n ≤ cap := by
  obtain ⟨A, b, off, len, cap, css, rfl, hA, hl, hr, hc, h1, h2⟩ := open_rows Tryz.underlying95 cellsB1 (by omega) h
  have hlen : ∀ cs ∈ css, cs.length = 1 := fun cs hcs => (hc cs hcs).1
  have hfl := flatten_len css hlen
  obtain ⟨l, e, hb⟩ := u8s_of css.flatten (fun i hi => by
    have hic : i < css.length := by omega
    obtain ⟨hcl, n, y, ht⟩ := hc css[i] (List.getElem_mem hic)
    obtain ⟨k, e, _, wf⟩ := DataW.trod_int Tryz.underlying5 ht
    refine ⟨k, u8_of wf, ?_⟩
    have hg := flatten_get (by omega) css hlen i
    rw [Nat.div_one, Nat.mod_one, List.getD_eq_getElem?_getD, List.getElem?_eq_getElem hic, List.getElem?_eq_getElem hi] at hg
    simp [e] at hg
    exact hg)
  have hll := congrArg List.length e
  rw [byts_length] at hll
  exact ⟨A, b, off, len, cap, l, rfl, hA, by omega, fun h0 => e ▸ hr h0, hb, h1⟩
end
end Go.Proofs.YtahljceanodhkaaGreatDoor

/- The statements' fewStep: a step that has few parts. -/
namespace Go.Proofs.YtahljceanodhkaaGreatDoor
open Go.RowKit
theorem run_app_zero {P : Program} {w : World} {base : Nat} {t e : TypeId} (ty : TypeId) {i : TypeInfo} {size : Nat} (ht : P.underlying t = some (.slice e)) (hi : P.info? e = some i)
    {v : Value} {n : Nat} {xs : List Value} (hown : w.ownsRow base e size v n xs) (A : Option Addr) (c : Nat) :
    (Builtin.append_ #[t, t] ty #[v, .slice A 0 c]).run P w = .ok v w := by
  rcases A with _ | a <;> rcases hown.2 with ⟨rfl, rfl⟩ | ⟨g, cap, cur, rfl, _, _, hnc, _⟩
  · simp [Builtin.append_, run_underlying ht, sizeOf, typeInfo, hi, Builtin.lenOf, Builtin.firstCells]
  · simp [Builtin.append_, run_underlying ht, sizeOf, typeInfo, hi, Builtin.lenOf, Builtin.firstCells, hnc, storeCells]
  · simp [Builtin.append_, run_underlying ht, sizeOf, typeInfo, hi, Builtin.lenOf, Builtin.firstCells, loadCells, loadCellsFrom, Result.andThen]
  · simp [Builtin.append_, run_underlying ht, sizeOf, typeInfo, hi, Builtin.lenOf, Builtin.firstCells, hnc, storeCells, loadCells, loadCellsFrom, Result.andThen]
def sumP (ls : List Wl) : Nat → Nat | 0 => 0 | k + 1 => sumP ls k + (ls.getD k ⟨0, 0, []⟩).path.length
theorem sumP_le {ls : List Wl} {K : Nat} (h : ∀ x ∈ ls, x.path.length ≤ K) : ∀ k, k ≤ ls.length → sumP ls k ≤ k * K
  | 0, _ => by simp [sumP]
  | k + 1, hk => by
    have ih := sumP_le h k (by omega)
    have hkl : k < ls.length := by omega
    have := h _ (List.getElem_mem hkl)
    rw [sumP, List.getD_eq_getElem?_getD, List.getElem?_eq_getElem hkl, Option.getD_some, Nat.succ_mul]
    omega
theorem sumP_mono (ls : List Wl) : ∀ a b, a ≤ b → sumP ls a ≤ sumP ls b
  | a, 0, h => by have : a = 0 := by omega
                  subst this; exact Nat.le_refl _
  | a, b + 1, h => by
    rcases Nat.lt_or_ge b a with q | q
    · have : a = b + 1 := by omega
      subst this; exact Nat.le_refl _
    · have := sumP_mono ls a b q
      rw [sumP]
      omega
theorem sumP_mem {ls : List Wl} {x : Wl} (h : x ∈ ls) : x.path.length ≤ sumP ls ls.length := by
  obtain ⟨i, hi, rfl⟩ := List.getElem_of_mem h
  have := sumP_mono ls (i + 1) ls.length (by omega)
  rw [sumP, List.getD_eq_getElem?_getD, List.getElem?_eq_getElem hi, Option.getD_some] at this
  omega
/-- few parts, all told -/
def fewL (L : Sl) : Bool := decide (L.path.length + L.reads.length + L.writes.length + sumP (L.reads ++ L.writes) (L.reads ++ L.writes).length ≤ 100)
theorem fewL_fits {L : Sl} (h : fewL L = true) : FitsK 100 L := by
  unfold fewL at h
  rw [decide_eq_true_eq] at h
  have hm : ∀ x ∈ L.reads ++ L.writes, x.path.length ≤ 100 := fun x hx => by have := sumP_mem hx; omega
  exact ⟨by omega, by omega, by omega, fun x hx => hm x (List.mem_append_left _ hx), fun x hx => hm x (List.mem_append_right _ hx)⟩
theorem WsG.append {N : Nat} {t : TypeId} {w : World} : ∀ {ds : List Wd} {ls : List Wl} {ds' : List Wd} {ls' : List Wl}, WsG N t w ds ls → WsG N t w ds' ls' → WsG N t w (ds ++ ds') (ls ++ ls')
  | _, _, _, _, .nil, h => h
  | _, _, _, _, .cons a r, h => .cons a (r.append h)
theorem appRWs (N : Nat) (w : World) (base : Nat) (v : Value) (n : Nat) (xs : List Wd) (ls : List Wl) (hown : w.ownsRow base 163 3 v n (wds xs)) (hw : WsG N 23 w xs ls) (A : Option Addr) (m c : Nat) (l : List Wl) (h : SG N 23 163 w A m l) (hn : n + m ≤ 3000000) (hbase : base ≤ w.heap.size) (hN : N ≤ base) :
    ∃ v' w' ds, (Builtin.append_ #[90, 90] 90 #[v, .slice A m c]).run Tryz.prog w = .ok v' w' ∧ w'.ownsRow base 163 3 v' (n + m) (wds ds) ∧ WsG N 23 w' ds (ls ++ l) ∧ Kept (fun i => v.ownBlock = some i) w w' := by
  obtain ⟨hl, b, off, ds, h1, h2, _, h4⟩ := h
  by_cases h0 : 0 < m
  · obtain rfl := h1 h0
    obtain ⟨v', w', hr, ho, hk⟩ := appRW w base v n xs hown b off m c ds (hl.trans h4.len.symm) (h2 h0) hn hbase
    exact ⟨v', w', _, hr, ho, (hw.append h4).kept hk (fun i hi => ⟨by have := (hown.lt i hi).1; omega, own_other hown (by decide) i hi⟩), hk⟩
  · obtain rfl : m = 0 := by omega
    obtain rfl : l = [] := List.eq_nil_of_length_eq_zero hl.symm
    obtain ⟨i, hi, _⟩ := info_parts infoRW3
    exact ⟨v, w, xs, run_app_zero _ Tryz.underlying90 hi hown A c, hown, by rw [List.append_nil]; exact hw, Kept.refl _ w⟩
set_option maxRecDepth 100000 in
set_option maxHeartbeats 2000000 in
theorem fewstep_any (N : Nat) (s : Ws) (L : Sl) (w : World) (h : SV N 23 163 w s L) (hN : N ≤ w.heap.size) (hf : FitsK 1048576 L) :
    Calls Tryz.prog 52 #[.agg s.cells] w fun e w' => e = .returned (.bool (fewL L)) ∧ Ext w w' := by
  have hp := h.path.len
  have hr := h.reads.len
  have hw := h.writes.len
  have HH := Lib.hid h
  have HF := Lib.hid hf
  obtain ⟨pc, halt, words, mem, ins, pa, pn, pk, ra, rn, rk, wa, wn, wk⟩ := s
  simp only at hp hr hw
  have bp : pn ≤ 1048576 := by rw [hp]; exact hf.path
  have br : rn ≤ 1048576 := by rw [hr]; exact hf.nr
  have bw : wn ≤ 1048576 := by rw [hw]; exact hf.nw
  have HPL := Lib.hid hp
  have HRL := Lib.hid hr
  have HWL := Lib.hid hw
  clear h hf hp hr hw
  have hx0 : Ext w _ := (Kept.refl _ w).alloc (.cells (Ws.cells ⟨pc, halt, words, mem, ins, pa, pn, pk, ra, rn, rk, wa, wn, wk⟩) 92)
  have hB0 := Blk.new w 92 (Ws.cells ⟨pc, halt, words, mem, ins, pa, pn, pk, ra, rn, rk, wa, wn, wk⟩)
  obtain ⟨ab, hab⟩ : ∃ ab, ab = w.heap.size := ⟨_, rfl⟩
  rw [← hab] at hB0
  have HAB := Lib.hid hab
  clear hab
  go_enter Tryz.func52, Tryz.ntmps52
  go_upto_region 1 with (fail)
  rw [← HAB.out]
  generalize (w.alloc (.cells (Ws.cells ⟨pc, halt, words, mem, ins, pa, pn, pk, ra, rn, rk, wa, wn, wk⟩) 92)) = W at hx0 hB0 ⊢
  have HX0 := Lib.hid hx0
  have HNW := Lib.hid (show N ≤ W.heap.size from Nat.le_trans hN hx0.size)
  have HW := Lib.hid (HH.out.ext hx0)
  have HB := Lib.hid hB0
  have hc0 := Blk.cell hB0
  have hl0 := hB0.lt
  clear hx0 HH hB0 hN
  go_upto_region 2 with (fail)
  clear hc0 hl0
  refine wp_region_3 (fun w2 => Ext W w2) [(1, 2), (2, 1), (4, 2), (5, 1), (8, 2), (0, 0), (3, 0), (6, 0), (7, 2)] (by kernel_rfl) (by kernel_rfl) (by kernel_rfl) (by kernel_rfl) ?_; intro l' hl'; simp only [List.map_cons, List.map_nil, List.getD_cons_zero, List.getD_cons_succ] at hl'; subst hl'
  (repeat (first | ((apply w3_pure); (· go_simp); (· (intro w1; go_simp; try with_reducible rfl)); (intro K hK; go_simp; refine hK _ _ ?_; clear hK K)) | ((apply w3_skip); (· go_simp); (intro K hK; go_simp; refine hK _ _ ?_; clear hK K)) | ((apply w3_take); (· exact (Kept.drew (Kept.refl _ _))); (· go_simp); (· (intro w1 hS; have d1 := Blk.cell (Blk.ext HB.out hS); have d2 := (Blk.ext HB.out hS).lt;  go_simp; try with_reducible rfl)); (intro K hK; go_simp; refine hK _ _ ?_; clear hK K)) | ((apply w3_pass); (· exact (Kept.drew (Kept.refl _ _))); (· go_simp); (intro K hK; go_simp; refine hK _ _ ?_; clear hK K))))
  have y0 : Ext W W.drew := (Kept.refl _ W).drew
  (refine w3_act (fun K hK => ?_); go_simp)
  refine hK.out _ _ (fun _ => y0.alloc _) ?_
  clear hK K
  have y1 : Ext W (W.drew.alloc (.cells #[] 163)) := y0.alloc _
  have ho1 : (W.drew.alloc (.cells #[] 163)).ownsRow W.heap.size 163 3 (.slice (some ⟨W.drew.heap.size, 0, none⟩) 0 0) 0 (wds []) := World.ownsRow_lit (base := W.heap.size) (e := 163) (size := 3) W.drew #[] 0 y0.size (Nat.zero_le _) rfl
  obtain ⟨v2, w2, ds2, hr2, ho2, hg2, hk2⟩ := appRWs N _ _ _ _ [] [] ho1 .nil ra rn rk L.reads (HW.out.reads.ext y1) (by omega) y1.size HNW.out
  have y2 : Ext W w2 := y1.trans' hk2 (fun i hi e => by have := (ho1.lt i e).1; omega)
  rw [Nat.zero_add] at ho2
  rw [List.nil_append] at hg2
  have HO2 := Lib.hid ho2
  have HG2 := Lib.hid hg2
  clear ho1 ho2 hg2
  (repeat (first | ((apply w3_pure); (· go_simp); (· (intro w1; go_simp; try with_reducible rfl)); (intro K hK; go_simp; refine hK _ _ ?_; clear hK K)) | ((apply w3_skip); (· go_simp); (intro K hK; go_simp; refine hK _ _ ?_; clear hK K))))
  refine w3_app rfl (.tmp 17) (.tmp 19) 90 rfl rfl rfl rfl hr2 (fun _ => y2) ?_
  clear hr2 hk2
  obtain ⟨v3, w3, ds3, hr3, ho3, hg3, hk3⟩ := appRWs N _ _ _ _ ds2 _ HO2.out HG2.out wa wn wk L.writes (HW.out.writes.ext y2) (by omega) y2.size HNW.out
  have y3 : Ext W w3 := y2.trans' hk3 (fun i hi e => by have := (HO2.out.lt i e).1; omega)
  obtain ⟨A3, c3, rfl, hs3⟩ := SG.of_own (N := N) (tW := 163) ho3 hg3
  have HS3 := Lib.hid hs3
  clear ho3 hg3 hs3
  (repeat (first | ((apply w3_pure); (· go_simp); (· (intro w1; go_simp; try with_reducible rfl)); (intro K hK; go_simp; refine hK _ _ ?_; clear hK K)) | ((apply w3_skip); (· go_simp); (intro K hK; go_simp; refine hK _ _ ?_; clear hK K))))
  refine w3_app rfl (.tmp 20) (.tmp 22) 90 rfl rfl rfl rfl hr3 (fun _ => y3) ?_
  clear hr3 hk3
  (repeat (first | ((apply w3_pure); (· go_simp); (· (intro w1; go_simp; try with_reducible rfl)); (intro K hK; go_simp; refine hK _ _ ?_; clear hK K)) | ((apply w3_skip); (· go_simp); (intro K hK; go_simp; refine hK _ _ ?_; clear hK K)) | (refine w3_end (by kernel_rfl) (fun K hK => ?_); go_simp; refine hK.out _ _ ?_; clear hK K))); refine w3_nil ?_
  obtain ⟨ls, hls⟩ : ∃ ls, ls = L.reads ++ L.writes := ⟨_, rfl⟩
  have hs3 := HS3.out
  rw [← hls] at hs3
  have hpl : ∀ x ∈ ls, x.path.length ≤ 1048576 := fun x hx => by
    rw [hls] at hx
    rcases List.mem_append.1 hx with hx | hx
    · exact HF.out.reads x hx
    · exact HF.out.writes x hx
  have HSUM := Lib.hid (sumP_le hpl)
  have HPP := Lib.hid hpl
  have HLS := Lib.hid hls
  have hm : rn + wn = ls.length := hs3.len
  have HM := Lib.hid hm
  have HS := Lib.hid hs3
  obtain ⟨m, hmm⟩ : ∃ m, m = rn + wn := ⟨_, rfl⟩
  rw [← hmm]
  have HMM := Lib.hid hmm
  have hmI : (rn : Int) + wn = m := by omega
  obtain ⟨c0, hc0⟩ : ∃ c0 : Nat, c0 = pn + rn + wn := ⟨_, rfl⟩
  have hcI : (pn : Int) + rn + wn = c0 := by omega
  rw [hcI]
  have HC := Lib.hid hc0
  have hm3 : m ≤ 2097152 := by omega
  have hc3 : c0 ≤ 3145728 := by omega
  clear hc0 hs3 hls hpl hm hmm hmI hcI HS3 HO2 HG2
  go_wp2_with fail
  go_loopw [3, 25] (fun t3 t25 wr => ∃ (k : Nat), k ≤ m ∧ t25 = .int .i64 k ∧ t3 = .int .i64 ((c0 + sumP ls k : Nat) : Int) ∧ Ext w3 wr) (fun _ t25 _ => m - (intOf t25).toNat)
  case atStart => exact ⟨0, Nat.zero_le _, rfl, by simp [sumP], Kept.refl _ _⟩
  case round =>
    obtain ⟨k, hk, rfl, rfl, hx⟩ := hrel
    by_cases hlt : k < m
    · have hkl : k < ls.length := by have := HM.out; have := HMM.out; omega
      obtain ⟨_, b, off, ds, hA, hr, _, hg⟩ := HS.out.ext hx
      have hm0 : 0 < rn + wn := by have := HMM.out; omega
      obtain rfl := hA hm0
      have hjd : k < ds.length := by rw [hg.len]; exact hkl
      obtain ⟨hrh, hrg⟩ := (hr hm0).wd k hjd
      have hpn := (hg.get k hjd hkl).path.len
      have hbl := (hr hm0).lt
      have hpb := HPP.out _ (List.getElem_mem hkl)
      have hsum := HSUM.out k (by omega)
      have hs1 : sumP ls (k + 1) = sumP ls k + ls[k].path.length := by rw [sumP, List.getD_eq_getElem?_getD, List.getElem?_eq_getElem hkl, Option.getD_some]
      rw [← hpn] at hs1 hpb
      obtain ⟨D, hD⟩ : ∃ D, D = ds[k] := ⟨_, rfl⟩
      rw [← hD] at hrg hs1 hpb
      obtain ⟨z, hz⟩ : ∃ z, z = sumP ls k := ⟨_, rfl⟩
      rw [← hz] at hs1 hsum ⊢
      have hzb : z ≤ 2199023255552 := Nat.le_trans hsum (Nat.le_trans (Nat.mul_le_mul_right _ (Nat.le_trans hk hm3)) (by decide))
      have HS1 := Lib.hid hs1
      have hkI : (k : Int) < (rn : Int) + wn := by have := HMM.out; omega
      have hk0 : (0 : Int) ≤ k := by omega
      clear hr hg hD hpn hjd hA hm0 hsum hs1 hz
      go_upto_region 5 with (fail)
      have y1 : Ext wr (wr.alloc (.cells D.cells 163)) := (Kept.refl _ wr).alloc _
      have hD1 := Blk.new wr 163 D.cells
      generalize (wr.alloc (.cells D.cells 163)) = W1 at y1 hD1 ⊢
      generalize (wr : World).heap.size = db at hD1 ⊢
      clear hrh hrg hbl
      have d1 := Blk.cell hD1
      have d2 := hD1.lt
      go_wp2_with fail
      go_roundw
      case rel => exact ⟨k + 1, hlt, by go_num, by rw [HS1.out]; go_num, hx.trans y1⟩
      case measure => simp only [intOf]; omega
    · obtain rfl : k = m := by omega
      have hltI : ¬ (k : Int) < (rn : Int) + wn := by have := HMM.out; omega
      have hsum := HSUM.out k (by have := HM.out; have := HMM.out; omega)
      obtain ⟨z, hz⟩ : ∃ z, z = sumP ls k := ⟨_, rfl⟩
      rw [← hz] at hsum ⊢
      have HZ := Lib.hid hz
      clear hz
      go_wp2_with fail
      go_ret
      refine ⟨?_, HX0.out.trans (y3.trans hx)⟩
      have hz := HZ.out
      have hkl : k = ls.length := by have := HM.out; have := HMM.out; omega
      have h1 := HC.out
      have h2 := HPL.out
      have h3 := HRL.out
      have h4 := HWL.out
      have e1 : decide ((c0 : Int) + z ≤ 100) = fewL L := by
        unfold fewL
        rw [← HLS.out, ← hkl, ← hz, ← h2, ← h3, ← h4, ← h1, decide_eq_decide]
        omega
      exact congrArg (fun b => Ending.returned (.bool b)) e1
end Go.Proofs.YtahljceanodhkaaGreatDoor

/- Steps that say the same are the same. -/
namespace Go.Proofs.YtahljceanodhkaaGreatDoor
open Go.RowKit
theorem Row.wdc {w : World} {b off : Nat} {l : List Wd} (h : Row w b off (wds l)) (k : Nat) (hk : k < l.length) :
    w.cell? ⟨b, off + k * 3, none⟩ = some (.int .i64 (l[k]).at_) ∧ w.cell? ⟨b, off + k * 3 + 1, none⟩ = some (.int .i32 (l[k]).is_) ∧ w.cell? ⟨b, off + k * 3 + 2, none⟩ = some (.slice (l[k]).pa (l[k]).pn (l[k]).pk) := by
  have hl := wds_length l
  refine ⟨?_, ?_, ?_⟩
  · have h1 := h.cell (k * 3) (by omega)
    have h2 := congrArg (·[0]?) (wds_at l k hk)
    simp [List.getElem?_drop] at h2
    rw [h1, h2]
  · have h1 := h.cell (k * 3 + 1) (by omega)
    have h2 := congrArg (·[1]?) (wds_at l k hk)
    simp [List.getElem?_drop] at h2
    rw [← Nat.add_assoc] at h1
    rw [h1, h2]
  · have h1 := h.cell (k * 3 + 2) (by omega)
    have h2 := congrArg (·[2]?) (wds_at l k hk)
    simp [List.getElem?_drop] at h2
    rw [← Nat.add_assoc] at h1
    rw [h1, h2]
set_option maxRecDepth 100000 in
set_option maxHeartbeats 1000000 in
theorem rsame4_pg (N N' : Nat) (t t' : TypeId) (A A' : Option Addr) (c c' : Nat) (l : List Dg) (n : Nat) (w : World) (h : PG N t w A n l) (h' : PG N' t' w A' n l) (h2 : n ≤ 4096) :
    Calls Tryz.prog 40 #[.slice A n c, .slice A' n c'] w fun e w' => e = .returned (.bool true) ∧ Ext w w' := by
  have HN := Lib.hid h.len
  have HR := Lib.hid h.row
  have HR' := Lib.hid h'.row
  clear h h'
  go_enter Tryz.func40, Tryz.ntmps40
  go_wp2_with fail
  go_loopw [5] (fun t5 wr => ∃ (k : Nat), k ≤ n ∧ t5 = .int .i64 k ∧ Ext w wr) (fun t5 _ => n - (intOf t5).toNat)
  case atStart => exact ⟨0, Nat.zero_le _, rfl, Kept.refl _ w⟩
  case round =>
    obtain ⟨k, hk, rfl, hx⟩ := hrel
    by_cases hlt : k < n
    · have hkl : k < l.length := by have := HN.out; omega
      obtain ⟨g, o, rfl, HRr, _⟩ := HR.out (by omega)
      obtain ⟨g', o', rfl, HRr', _⟩ := HR'.out (by omega)
      obtain ⟨hrh, hrg⟩ := (HRr.ext hx).dig k hkl
      obtain ⟨hrh', hrg'⟩ := (HRr'.ext hx).dig k hkl
      obtain ⟨D, hD⟩ : ∃ D, D = l[k] := ⟨_, rfl⟩
      rw [← hD] at hrg hrg'
      clear hD
      have hbl := (HRr.ext hx).lt
      have hbl' := (HRr'.ext hx).lt
      have hkI : (k : Int) < n := by omega
      have hk0 : (0 : Int) ≤ k := by omega
      have hnI : (n : Int) ≤ 4096 := by omega
      clear HRr HRr'
      go_upto_region 6 with (fail)
      refine wp_region_3 (fun w2 => Ext wr w2) [(0, 2), (1, 2), (2, 2), (3, 1), (4, 2), (5, 2), (6, 2), (7, 1), (8, 2)] (by kernel_rfl) (by kernel_rfl) (by kernel_rfl) (by kernel_rfl) ?_; intro l' hl'; simp only [List.map_cons, List.map_nil, List.getD_cons_zero, List.getD_cons_succ] at hl'; subst hl'
      (repeat (first | ((apply w3_pure); (· go_simp); (· (intro w1; go_simp; try with_reducible rfl)); (intro K hK; go_simp; refine hK _ _ ?_; clear hK K)) | ((apply w3_skip); (· go_simp); (intro K hK; go_simp; refine hK _ _ ?_; clear hK K)) | ((apply w3_take); (· exact (Kept.drew (Kept.refl _ _))); (· go_simp); (· (intro w1 hS; have d1 := has_ext hS hbl hrh; have d2 := gets_ext hS hbl hrg; have d3 := has_ext hS hbl' hrh'; have d4 := gets_ext hS hbl' hrg'; have d5 := Nat.lt_of_lt_of_le hbl hS.size; have d6 := Nat.lt_of_lt_of_le hbl' hS.size;  go_simp; try with_reducible rfl)); (intro K hK; go_simp; refine hK _ _ ?_; clear hK K)) | ((apply w3_pass); (· exact (Kept.drew (Kept.refl _ _))); (· go_simp); (intro K hK; go_simp; refine hK _ _ ?_; clear hK K))))
      refine w3_nil ?_
      clear hrh hrg hrh' hrg' hbl hbl'
      go_wp2_with fail
      go_roundw
      case rel => exact ⟨k + 1, hlt, by go_num, by first | exact hx.drew | exact hx.drewN _⟩
      case measure => simp only [intOf]; omega
    · have hltI : ¬ (k : Int) < n := by omega
      go_wp2_with fail
      go_ret
      exact ⟨rfl, hx⟩
set_option maxRecDepth 100000 in
set_option maxHeartbeats 2000000 in
theorem rsamew_ok (N N' : Nat) (t t' tW tW' : TypeId) (A A' : Option Addr) (c c' : Nat) (ls : List Wl) (n : Nat) (w : World) (h : SG N t tW w A n ls) (h' : SG N' t' tW' w A' n ls) (h2 : n ≤ 1000) (h3 : ∀ x ∈ ls, x.path.length ≤ 4096) :
    Calls Tryz.prog 90 #[.slice A n c, .slice A' n c'] w fun e w' => e = .returned (.bool true) ∧ Ext w w' := by
  obtain ⟨hn, b, off, sd, hA, hr, _, hg⟩ := h
  obtain ⟨hn', b', off', sd', hA', hr', _, hg'⟩ := h'
  clear hn'
  have HN := Lib.hid hn
  have HA := Lib.hid hA
  have HR := Lib.hid hr
  have HG := Lib.hid hg
  have HA' := Lib.hid hA'
  have HR' := Lib.hid hr'
  have HG' := Lib.hid hg'
  have HDL := Lib.hid (show n = sd.length from hn.trans hg.len.symm)
  have HDL' := Lib.hid (show n = sd'.length from hn.trans hg'.len.symm)
  have H3 := Lib.hid h3
  clear hn hA hr hg hA' hr' hg' h3
  go_enter Tryz.func90, Tryz.ntmps90
  go_wp2_with fail
  go_loopw [5] (fun t5 wr => ∃ (k : Nat), k ≤ n ∧ t5 = .int .i64 k ∧ Ext w wr) (fun t5 _ => n - (intOf t5).toNat)
  case atStart => exact ⟨0, Nat.zero_le _, rfl, Kept.refl _ w⟩
  case round =>
    obtain ⟨k, hk, rfl, hx⟩ := hrel
    by_cases hlt : k < n
    · have hkl : k < ls.length := by have := HN.out; omega
      have hkd : k < sd.length := by have := HDL.out; omega
      have hkd' : k < sd'.length := by have := HDL'.out; omega
      obtain rfl := HA.out (by omega)
      obtain rfl := HA'.out (by omega)
      obtain ⟨a0, a1, a2⟩ := ((HR.out (by omega)).ext hx).wdc k hkd
      obtain ⟨b0, b1, b2⟩ := ((HR'.out (by omega)).ext hx).wdc k hkd'
      have hWk := (HG.out.get k hkd hkl).ext hx
      have hWk' := (HG'.out.get k hkd' hkl).ext hx
      obtain ⟨L, hL⟩ : ∃ L, L = ls[k] := ⟨_, rfl⟩
      have hpl : L.path.length ≤ 4096 := by rw [hL]; exact H3.out _ (List.getElem_mem hkl)
      rw [← hL] at hWk hWk'
      clear hL
      rw [hWk.at_] at a0
      rw [hWk.is_] at a1
      rw [hWk'.at_] at b0
      rw [hWk'.is_] at b1
      have hp := hWk.path
      have hp' := hWk'.path
      obtain ⟨D, hD⟩ : ∃ D, D = sd[k] := ⟨_, rfl⟩
      obtain ⟨D', hD'⟩ : ∃ D', D' = sd'[k] := ⟨_, rfl⟩
      rw [← hD] at a2 hp
      rw [← hD'] at b2 hp'
      have hpn : D'.pn = D.pn := by rw [hp.len, hp'.len]
      rw [hpn] at b2 hp'
      have hbl := ((HR.out (by omega)).ext hx).lt
      have hbl' := ((HR'.out (by omega)).ext hx).lt
      have HPL := Lib.hid hpl
      have HP := Lib.hid hp
      have HP' := Lib.hid hp'
      clear hWk hWk' hpl hD hD' hp hp' hpn
      have hkI : (k : Int) < n := by omega
      have hk0 : (0 : Int) ≤ k := by omega
      go_upto_region 6 with (fail)
      refine wp_region_3 (fun w2 => Ext wr w2) [(0, 2), (1, 2), (2, 2), (3, 2), (4, 1), (5, 2), (6, 2), (7, 2), (8, 2), (9, 1), (10, 2), (11, 2), (12, 2), (13, 2), (14, 2), (15, 2), (16, 1), (17, 2), (18, 2), (19, 2), (20, 2), (21, 1), (22, 2), (23, 2), (24, 2), (25, 2), (26, 2), (27, 2), (28, 2), (29, 1), (30, 2), (31, 2), (32, 2), (33, 2), (34, 1), (35, 0), (36, 2), (37, 2)] (by kernel_rfl) (by kernel_rfl) (by kernel_rfl) (by kernel_rfl) ?_; intro l' hl'; simp only [List.map_cons, List.map_nil, List.getD_cons_zero, List.getD_cons_succ] at hl'; subst hl'
      (repeat (first | ((apply w3_pure); (· go_simp); (· (intro w1; go_simp; try with_reducible rfl)); (intro K hK; go_simp; refine hK _ _ ?_; clear hK K)) | ((apply w3_skip); (· go_simp); (intro K hK; go_simp; refine hK _ _ ?_; clear hK K)) | ((apply w3_take); (· exact (Kept.drew (Kept.refl _ _))); (· go_simp); (· (intro w1 hS; have d1 := (Kept.cell hS (p := ⟨b, off + k * 3, none⟩) hbl (fun f => f)).trans a0; have d2 := (Kept.cell hS (p := ⟨b, off + k * 3 + 1, none⟩) hbl (fun f => f)).trans a1; have d3 := (Kept.cell hS (p := ⟨b, off + k * 3 + 2, none⟩) hbl (fun f => f)).trans a2; have d4 := (Kept.cell hS (p := ⟨b', off' + k * 3, none⟩) hbl' (fun f => f)).trans b0; have d5 := (Kept.cell hS (p := ⟨b', off' + k * 3 + 1, none⟩) hbl' (fun f => f)).trans b1; have d6 := (Kept.cell hS (p := ⟨b', off' + k * 3 + 2, none⟩) hbl' (fun f => f)).trans b2; have d7 := Nat.lt_of_lt_of_le hbl hS.size; have d8 := Nat.lt_of_lt_of_le hbl' hS.size;  go_simp; try with_reducible rfl)); (intro K hK; go_simp; refine hK _ _ ?_; clear hK K)) | ((apply w3_pass); (· exact (Kept.drew (Kept.refl _ _))); (· go_simp); (intro K hK; go_simp; refine hK _ _ ?_; clear hK K))))
      (refine w3_act (fun K hK => ?_); go_simp)
      go_wp2_with fail
      have yW : Ext wr wr.drew := (Kept.refl _ wr).drew
      refine (rsame4_pg N N' t t' D.pa D'.pa D.pk D'.pk L.path D.pn _ (HP.out.ext yW) (HP'.out.ext yW) (by have := HP.out.len; have := HPL.out; omega)).mono ?_
      rintro e w1 ⟨rfl, hx1⟩
      refine hK.out _ _ (fun _ => yW.trans hx1) ?_
      clear hK K
      (repeat (first | ((apply w3_pure); (· go_simp); (· (intro w1; go_simp; try with_reducible rfl)); (intro K hK; go_simp; refine hK _ _ ?_; clear hK K)) | ((apply w3_skip); (· go_simp); (intro K hK; go_simp; refine hK _ _ ?_; clear hK K)) | (refine w3_end (by kernel_rfl) (fun K hK => ?_); go_simp; refine hK.out _ _ ?_; clear hK K))); refine w3_nil ?_
      go_wp2_with fail
      go_roundw
      case rel => exact ⟨k + 1, hlt, by go_num, (hx.trans yW).trans hx1⟩
      case measure => simp only [intOf]; omega
    · have hltI : ¬ (k : Int) < n := by omega
      go_wp2_with fail
      go_ret
      exact ⟨rfl, hx⟩
set_option maxRecDepth 100000 in
set_option maxHeartbeats 2000000 in
theorem rsame22_ok (N N' : Nat) (t t' tW tW' : TypeId) (s s' : Ws) (L : Sl) (w : World) (h : SV N t tW w s L) (h' : SV N' t' tW' w s' L) (hf : Fits L) :
    Calls Tryz.prog 44 #[.agg s.cells, .agg s'.cells] w fun e w' => e = .returned (.bool true) ∧ Ext w w' := by
  have e1 := h.pc.trans h'.pc.symm
  have e2 := h.halt.trans h'.halt.symm
  have e3 := h.words.trans h'.words.symm
  have e4 := h.mem.trans h'.mem.symm
  have e5 := h.ins.trans h'.ins.symm
  have e6 : s.pn = s'.pn := by rw [h.path.len, h'.path.len]
  have e7 : s.rn = s'.rn := by rw [h.reads.len, h'.reads.len]
  have e8 : s.wn = s'.wn := by rw [h.writes.len, h'.writes.len]
  obtain ⟨pc, halt, words, mem, ins, pa, pn, pk, ra, rn, rk, wa, wn, wk⟩ := s
  obtain ⟨pc', halt', words', mem', ins', pa', pn', pk', ra', rn', rk', wa', wn', wk'⟩ := s'
  simp only at e1 e2 e3 e4 e5 e6 e7 e8
  subst e1 e2 e3 e4 e5 e6 e7 e8
  have HF := Lib.hid hf
  have HP := Lib.hid h.path
  have HP' := Lib.hid h'.path
  have HR := Lib.hid h.reads
  have HR' := Lib.hid h'.reads
  have HW := Lib.hid h.writes
  have HW' := Lib.hid h'.writes
  have HL := Lib.hid (show pn ≤ 4096 ∧ rn ≤ 1000 ∧ wn ≤ 1000 from ⟨by rw [show pn = _ from h.path.len]; exact hf.path, by rw [show rn = _ from h.reads.len]; exact hf.nr, by rw [show wn = _ from h.writes.len]; exact hf.nw⟩)
  clear h h' hf
  have hx0 : Ext w _ := ((Kept.refl _ w).alloc (.cells (Ws.cells ⟨pc, halt, words, mem, ins, pa, pn, pk, ra, rn, rk, wa, wn, wk⟩) 92)).alloc (.cells (Ws.cells ⟨pc, halt, words, mem, ins, pa', pn, pk', ra', rn, rk', wa', wn, wk'⟩) 92)
  have hA := (Blk.new w 92 (Ws.cells ⟨pc, halt, words, mem, ins, pa, pn, pk, ra, rn, rk, wa, wn, wk⟩)).alloc (.cells (Ws.cells ⟨pc, halt, words, mem, ins, pa', pn, pk', ra', rn, rk', wa', wn, wk'⟩) 92)
  have hB := Blk.new' (w.alloc (.cells (Ws.cells ⟨pc, halt, words, mem, ins, pa, pn, pk, ra, rn, rk, wa, wn, wk⟩) 92)) 92 (Ws.cells ⟨pc, halt, words, mem, ins, pa', pn, pk', ra', rn, rk', wa', wn, wk'⟩) (w.heap.size + 1) (by simp)
  go_enter Tryz.func44, Tryz.ntmps44
  go_upto_region 1 with (fail)
  generalize ((w.alloc (.cells (Ws.cells ⟨pc, halt, words, mem, ins, pa, pn, pk, ra, rn, rk, wa, wn, wk⟩) 92)).alloc (.cells (Ws.cells ⟨pc, halt, words, mem, ins, pa', pn, pk', ra', rn, rk', wa', wn, wk'⟩) 92)) = W at hx0 hA hB ⊢
  have i1 := Blk.cell hA
  have i2 := Blk.has hA
  have i3 := Blk.gets hA
  have i4 := hA.lt
  have j1 := Blk.cell hB
  have j2 := Blk.has hB
  have j3 := Blk.gets hB
  have j4 := hB.lt
  go_wp2_with fail
  refine (rsame4_pg N N' t t' pa pa' pk pk' L.path pn W (HP.out.ext hx0) (HP'.out.ext hx0) HL.out.1).mono ?_
  rintro e w1 ⟨rfl, hx1⟩
  have y1 := hx0.trans hx1
  have hA1 := Blk.ext hA hx1
  have hB1 := Blk.ext hB hx1
  clear i1 i2 i3 i4 j1 j2 j3 j4 hA hB
  have i1 := Blk.cell hA1
  have i4 := hA1.lt
  have j1 := Blk.cell hB1
  have j4 := hB1.lt
  go_wp2_with fail
  refine (rsamew_ok N N' t t' tW tW' ra ra' rk rk' L.reads rn w1 (HR.out.ext y1) (HR'.out.ext y1) HL.out.2.1 HF.out.reads).mono ?_
  rintro e w2 ⟨rfl, hx2⟩
  have y2 := y1.trans hx2
  have hA2 := Blk.ext hA1 hx2
  have hB2 := Blk.ext hB1 hx2
  clear i1 i4 j1 j4 hA1 hB1
  have i1 := Blk.cell hA2
  have i4 := hA2.lt
  have j1 := Blk.cell hB2
  have j4 := hB2.lt
  go_wp2_with fail
  refine (rsamew_ok N N' t t' tW tW' wa wa' wk wk' L.writes wn w2 (HW.out.ext y2) (HW'.out.ext y2) HL.out.2.2 HF.out.writes).mono ?_
  rintro e w3 ⟨rfl, hx3⟩
  go_wp2_with fail
  go_ret
  exact ⟨rfl, y2.trans hx3⟩
end Go.Proofs.YtahljceanodhkaaGreatDoor

/- The bytes of a step show it, and what bytes show has these bytes: the plain law. -/
namespace Go.Proofs.YtahljceanodhkaaGreatDoor
open Go.RowKit
theorem valK_cons (x : Int) (r : List Int) : ∀ k, valK (x :: r) (k + 1) = x % 128 + 128 * valK r k
  | 0 => by simp [valK]
  | k + 1 => by
    have ih := valK_cons x r k
    rw [valK, ih]
    show _ = x % 128 + 128 * (valK r k + r.getD k 0 % 128 * 2 ^ (7 * k))
    rw [List.getD_cons_succ, show 7 * (k + 1) = 7 + 7 * k by omega, Int.pow_add]
    rw [Int.mul_add, ← Int.add_assoc]
    congr 1
    rw [show (2 : Int) ^ 7 = 128 by decide, ← Int.mul_assoc, Int.mul_comm _ 128, Int.mul_assoc]
/-- a row of bytes that is a number's -/
structure NumAt (d : List Int) (k : Nat) : Prop where
  lt : k < d.length
  more : ∀ j, j < k → 128 ≤ d.getD j 0
  last : d.getD k 0 < 128
  nz : 0 < k → ¬ d.getD k 0 = 0
theorem vint_of : ∀ (k : Nat) (d : List Int), BytesOk d → NumAt d k → 0 ≤ valK d (k + 1) ∧ vint (valK d (k + 1)).toNat = d.take (k + 1)
  | _, [], _, h => by have := h.lt; simp at this
  | 0, x :: r, hb, h => by
    have hx := hb x (by simp)
    have hl := h.last
    simp at hl
    have e : valK (x :: r) 1 = x := by simp [valK]; omega
    rw [e]
    refine ⟨hx.1, ?_⟩
    rw [vint_small (by omega)]
    simp
    omega
  | k + 1, x :: r, hb, h => by
    have hx := hb x (by simp)
    have h0 := h.more 0 (by omega)
    simp at h0
    have hn := h.nz (by omega)
    simp only [List.getD_cons_succ] at hn
    have hr : NumAt r k := ⟨by have := h.lt; simpa using this, fun j hj => by have := h.more (j + 1) (by omega); simpa using this, by have := h.last; simpa using this, fun _ => hn⟩
    obtain ⟨ih0, ih⟩ := vint_of k r (fun y hy => hb y (by simp [hy])) hr
    have hv := valK_cons x r (k + 1)
    have hm : 0 < valK r (k + 1) := by
      rcases (by omega : valK r (k + 1) = 0 ∨ 0 < valK r (k + 1)) with q | q
      · exfalso
        rw [q] at ih
        have e : vint (0 : Int).toNat = [0] := by rw [vint_small (by decide)]; rfl
        rw [e] at ih
        have hl := congrArg List.length ih
        rw [List.length_take] at hl
        have := hr.lt
        simp at hl
        have hk : k = 0 := by omega
        subst hk
        have hg := congrArg (fun l => l.getD 0 0) ih
        cases r with
        | nil => simp at this
        | cons y r => simp at hg hn; exact hn hg.symm
      · exact q
    rw [hv]
    refine ⟨by omega, ?_⟩
    rw [vint_big (by omega), List.take_succ_cons]
    congr 1
    · omega
    · rw [← ih]
      congr 1
      omega
theorem vint_at (n : Nat) (rest : List Int) : ∃ k, (vint n).length = k + 1 ∧ NumAt (vint n ++ rest) k ∧ valK (vint n ++ rest) (k + 1) = n := by
  induction n using Nat.strongRecOn with
  | _ n ih =>
    by_cases h : n < 128
    · rw [vint_small h]
      refine ⟨0, rfl, ⟨by simp, fun j hj => by omega, by simp; omega, fun q => by omega⟩, ?_⟩
      simp [valK]
      omega
    · rw [vint_big h]
      obtain ⟨k, h1, h2, h3⟩ := ih (n / 128) (by omega)
      refine ⟨k + 1, by simp [h1], ⟨?_, ?_, ?_, ?_⟩, ?_⟩
      · have := h2.lt
        simp only [List.cons_append, List.length_cons]
        omega
      · intro j hj
        cases j with
        | zero => simp; omega
        | succ j => simp only [List.cons_append, List.getD_cons_succ]; exact h2.more j (by omega)
      · simp only [List.cons_append, List.getD_cons_succ]; exact h2.last
      · intro _
        simp only [List.cons_append, List.getD_cons_succ]
        rcases Nat.eq_zero_or_pos k with rfl | hk
        · have hs : vint (n / 128) = [((n / 128 : Nat) : Int)] := by
            by_cases q : n / 128 < 128
            · rw [vint_small q]
            · rw [vint_big q] at h1
              have := vint_pos (n / 128 / 128)
              simp at h1
              rw [h1] at this
              simp at this
          rw [hs]
          simp
          omega
        · exact h2.nz hk
      · rw [List.cons_append, valK_cons, h3]
        omega
theorem NumAt.look {d : List Int} {k : Nat} (h : NumAt d k) (hk : k ≤ 9) (h9 : k = 9 → d.getD 9 0 ≤ 1) : lookE d = 0 ∧ lookS d = k + 1 ∧ lookV d = valK d (k + 1) := by
  have hl : lookK d = k := lookK_eq (Nat.le_of_lt h.lt) (by omega) h.more (.inr (.inr h.last))
  have he : lookE d = 0 := by
    unfold lookE
    rw [hl, if_neg (by omega), if_neg (by have := h.lt; omega), if_neg]
    rintro (⟨q1, q2⟩ | ⟨q1, q2⟩)
    · exact h.nz q1 q2
    · have := h9 q1
      omega
  unfold lookS lookV
  rw [if_pos he, if_pos he, hl]
  exact ⟨he, rfl, rfl⟩
theorem look_vint (n : Nat) (hn : n < 18446744073709551616) (rest : List Int) (hr : BytesOk rest) : lookE (vint n ++ rest) = 0 ∧ lookS (vint n ++ rest) = (vint n).length ∧ lookV (vint n ++ rest) = n := by
  obtain ⟨k, h1, h2, h3⟩ := vint_at n rest
  have hlen := vint_len 10 n (by omega) (by omega)
  have hb : BytesOk (vint n ++ rest) := fun x hx => by
    rcases List.mem_append.1 hx with hx | hx
    · exact vint_ok n x hx
    · exact hr x hx
  have h9 : k = 9 → (vint n ++ rest).getD 9 0 ≤ 1 := by
    rintro rfl
    have h4 := (valK_bd hb 9).1
    have h5 : valK (vint n ++ rest) 10 = valK (vint n ++ rest) 9 + (vint n ++ rest).getD 9 0 % 128 * 2 ^ 63 := rfl
    have h6 := h2.last
    have h7 := (getD_byte hb 9).1
    rw [h3] at h5
    omega
  obtain ⟨q1, q2, q3⟩ := h2.look (by omega) h9
  exact ⟨q1, by rw [q2, h1], by rw [q3, h3]⟩
theorem tw_more (p : Int → Bool) : ∀ (l : List Int) (j : Nat), j < (l.takeWhile p).length → p (l.getD j 0) = true
  | [], j, h => by simp at h
  | x :: r, j, h => by
    rw [List.takeWhile_cons] at h
    split at h
    · rename_i hx
      cases j with
      | zero => simpa using hx
      | succ j => simp only [List.getD_cons_succ]; exact tw_more p r j (by simpa using h)
    · simp at h
theorem tw_last (p : Int → Bool) : ∀ (l : List Int), (l.takeWhile p).length < l.length → p (l.getD (l.takeWhile p).length 0) = false
  | [], h => by simp at h
  | x :: r, h => by
    by_cases hx : p x = true
    · have ht : (x :: r).takeWhile p = x :: r.takeWhile p := by rw [List.takeWhile_cons, if_pos hx]
      rw [ht] at h ⊢
      simp only [List.length_cons, List.getD_cons_succ]
      exact tw_last p r (by simpa using h)
    · have ht : (x :: r).takeWhile p = [] := by rw [List.takeWhile_cons, if_neg hx]
      rw [ht]
      simpa using hx
theorem vint_look (d : List Int) (hb : BytesOk d) (h : lookE d = 0) : d = vint (lookV d).toNat ++ d.drop (lookS d) := by
  have hk : lookK d ≤ 10 := by
    unfold lookK
    refine Nat.le_trans (List.takeWhile_sublist _).length_le ?_
    rw [List.length_take]
    omega
  have hkl : lookK d ≤ d.length := by
    unfold lookK
    refine Nat.le_trans (List.takeWhile_sublist _).length_le ?_
    rw [List.length_take]
    omega
  have h' := h
  unfold lookE at h'
  split at h'
  · omega
  rename_i n10
  split at h'
  · omega
  rename_i nlen
  split at h'
  · omega
  rename_i nbad
  have hg : ∀ j, j < 10 → (d.take 10).getD j 0 = d.getD j 0 := fun j hj => by
    simp only [List.getD_eq_getElem?_getD, List.getElem?_take, if_pos hj]
  have hN : NumAt d (lookK d) := by
    refine ⟨by omega, fun j hj => ?_, ?_, fun q1 q2 => nbad (.inl ⟨q1, q2⟩)⟩
    · have := tw_more (fun x => decide (128 ≤ x)) (d.take 10) j hj
      rw [hg j (by omega)] at this
      simpa using this
    · have := tw_last (fun x => decide (128 ≤ x)) (d.take 10) (by
        show lookK d < _
        rw [List.length_take]; omega)
      change (fun x => decide (128 ≤ x)) ((d.take 10).getD (lookK d) 0) = false at this
      rw [hg _ (by omega)] at this
      simp at this
      exact this
  obtain ⟨_, hv⟩ := vint_of _ d hb hN
  have e1 : lookV d = valK d (lookK d + 1) := by unfold lookV; rw [if_pos h]
  have e2 : lookS d = lookK d + 1 := by unfold lookS; rw [if_pos h]
  rw [e1, e2, hv, List.take_append_drop]
theorem bytesOk_mono {a b : List Int} (h : BytesOk (a ++ b)) : BytesOk b := fun x hx => h x (List.mem_append_right _ hx)
theorem rd_of {l : List Int} (hb : BytesOk l) {most : Int} {p m : Nat} {rest : List Int} (h : l.drop p = vint m ++ rest) (hm : m < 18446744073709551616) (hmost : (m : Int) ≤ most) : rdE l most p 0 = 0 ∧ rdV l most p 0 = m ∧ l.drop (rdA l most p 0) = rest := by
  have hr : BytesOk rest := bytesOk_mono (by rw [← h]; exact bytesOk_drop hb p)
  obtain ⟨q1, q2, q3⟩ := look_vint m hm rest hr
  rw [← h] at q1 q2 q3
  have e : rdE l most p 0 = 0 := by
    unfold rdE
    rw [if_pos rfl, if_pos q1, q3, if_neg (by omega)]
  unfold rdA rdV
  rw [if_pos ⟨rfl, e⟩, if_pos ⟨rfl, e⟩, q2, q3]
  refine ⟨e, rfl, ?_⟩
  rw [← List.drop_drop, h, List.drop_left]
theorem rd_back {l : List Int} (hb : BytesOk l) {most : Int} {p : Nat} {e : Int} (h : rdE l most p e = 0) : e = 0 ∧ l.drop p = vint (rdV l most p e).toNat ++ l.drop (rdA l most p e) := by
  have he : e = 0 := by
    by_cases q : e = 0
    · exact q
    · rw [(rd_bad (l := l) (most := most) (at_ := p) q).1] at h
      exact h
  subst he
  refine ⟨rfl, ?_⟩
  have hl : lookE (l.drop p) = 0 := by
    unfold rdE at h
    rw [if_pos rfl] at h
    split at h
    · assumption
    · exact h
  unfold rdV rdA
  rw [if_pos ⟨rfl, h⟩, if_pos ⟨rfl, h⟩, ← List.drop_drop]
  exact vint_look _ (bytesOk_drop hb p) hl
theorem unf_fold (n : Int) : unf (foldN n) = n := by
  unfold unf foldN
  by_cases h : n < 0
  · rw [if_pos h, if_pos (by omega)]; omega
  · rw [if_neg h, if_neg (by omega)]; omega
theorem fold_unf {v : Int} (h : 0 ≤ v) : foldN (unf v) = v.toNat := by
  unfold unf
  by_cases h1 : v % 2 = 1
  · rw [if_pos h1]
    unfold foldN
    rw [if_pos (by omega)]
    omega
  · rw [if_neg h1]
    unfold foldN
    rw [if_neg (by omega)]
    omega
theorem unf_ok {v : Int} (h0 : 0 ≤ v) (h1 : v < 18446744073709551616) : i64ok (unf v) := by
  unfold unf i64ok
  split <;> omega
theorem dgN_num {d : Dg} (h : d.ok) : dgN (numN d) = d := by
  have e := (numD_bd h).1
  rw [← e]
  have h0 := h 0; have h1 := h 1; have h2 := h 2; have h3 := h 3
  have h4 := h 4; have h5 := h 5; have h6 := h 6; have h7 := h 7
  obtain ⟨x0, x1, x2, x3, x4, x5, x6, x7⟩ := d
  simp only [dgx] at h0 h1 h2 h3 h4 h5 h6 h7
  have e : numD ⟨x0, x1, x2, x3, x4, x5, x6, x7⟩ = x0 + x1 * 256 + x2 * 65536 + x3 * 16777216 + x4 * 4294967296 + x5 * 1099511627776 + x6 * 281474976710656 + x7 * 72057594037927936 := by
    simp [numD, numK, dgx]
  rw [e]
  simp only [dgN, Dg.mk.injEq]
  refine ⟨?_, ?_, ?_, ?_, ?_, ?_, ?_, ?_⟩ <;> omega
theorem numN_dg {v : Int} (h0 : 0 ≤ v) (h1 : v < 18446744073709551616) : numN (dgN v) = v.toNat := by
  unfold numN
  congr 1
  simp [numD, numK, dgx, dgN]
  omega
/-! ### a path -/
def dsB (l : List Dg) : List Int := l.flatMap fun d => vint (numN d)
theorem pathK_eq (l : List Dg) : ∀ k, k ≤ l.length → pathK l k = vint l.length ++ dsB (l.take k)
  | 0, _ => by simp [pathK, dsB]
  | k + 1, h => by
    have ih := pathK_eq l k (by omega)
    have hk : k < l.length := by omega
    have e : l.getD k Dg.zero = l[k] := by simp [hk]
    rw [pathK, ih, e, List.take_succ_eq_append_getElem hk, dsB, dsB, List.flatMap_append, List.flatMap_singleton, List.append_assoc]
theorem pathB_eq (l : List Dg) : pathB l = vint l.length ++ dsB l := by
  unfold pathB
  rw [pathK_eq l _ (Nat.le_refl _), List.take_length]
theorem pth_of {l : List Int} (hb : BytesOk l) {p : Nat} {ds : List Dg} {rest : List Int} (hok : ∀ d ∈ ds, d.ok) (h : l.drop p = dsB ds ++ rest) : ∀ k, k ≤ ds.length → ∃ q, pthK l p 0 k = (q, 0, ds.take k) ∧ l.drop q = dsB (ds.drop k) ++ rest
  | 0, _ => ⟨p, by simp [pthK], by simpa using h⟩
  | k + 1, hk => by
    obtain ⟨q, h1, h2⟩ := pth_of hb hok h k (by omega)
    have hkl : k < ds.length := by omega
    have hd := hok _ (List.getElem_mem hkl)
    have e : dsB (ds.drop k) = vint (numN ds[k]) ++ dsB (ds.drop (k + 1)) := by
      rw [List.drop_eq_getElem_cons hkl]
      rfl
    rw [e, List.append_assoc] at h2
    have hn := (numD_bd hd).2
    obtain ⟨a1, a2, a3⟩ := rd_of hb (most := allN) h2 hn (by show (_ : Int) ≤ 18446744073709551615; omega)
    refine ⟨_, ?_, a3⟩
    rw [pthK, h1]
    simp only [if_true]
    rw [a1, a2, dgN_num hd, List.take_succ_eq_append_getElem hkl]
theorem rdP_of {l : List Int} (hb : BytesOk l) {p : Nat} {ds : List Dg} {rest : List Int} (hok : ∀ d ∈ ds, d.ok) (hl : ds.length ≤ 12) (h : l.drop p = pathB ds ++ rest) : ∃ q, rdP l p 0 = (q, 0, ds) ∧ l.drop q = rest := by
  rw [pathB_eq, List.append_assoc] at h
  obtain ⟨a1, a2, a3⟩ := rd_of hb (most := 12) h (by omega) (by omega)
  obtain ⟨q, h1, h2⟩ := pth_of hb hok a3 ds.length (Nat.le_refl _)
  refine ⟨q, ?_, by simpa [dsB] using h2⟩
  unfold rdP
  rw [a1, a2]
  show pthK l _ 0 ((ds.length : Int)).toNat = _
  rw [Int.toNat_natCast, h1, List.take_length]
theorem pth_back {l : List Int} (hb : BytesOk l) {p : Nat} {e : Int} : ∀ k, (pthK l p e k).2.1 = 0 → e = 0 ∧ l.drop p = dsB (pthK l p e k).2.2 ++ l.drop (pthK l p e k).1 ∧ (pthK l p e k).2.2.length = k ∧ ∀ d ∈ (pthK l p e k).2.2, d.ok
  | 0, h => ⟨h, by simp [pthK, dsB], rfl, by simp [pthK]⟩
  | k + 1, h => by
    by_cases h0 : (pthK l p e k).2.1 = 0
    · obtain ⟨h1, h2, h3, h4⟩ := pth_back hb k h0
      have hs : pthK l p e (k + 1) = (rdA l allN (pthK l p e k).1 0, rdE l allN (pthK l p e k).1 0, (pthK l p e k).2.2 ++ [dgN (rdV l allN (pthK l p e k).1 0)]) := by rw [pthK, if_pos h0]
      rw [hs] at h ⊢
      simp only at h ⊢
      obtain ⟨_, b⟩ := rd_back hb h
      have hv := rdV_bd hb allN (pthK l p e k).1 0
      refine ⟨h1, ?_, by simp [h3], ?_⟩
      · rw [h2, b]
        simp [dsB, numN_dg hv.1 hv.2]
      · intro d hd
        rcases List.mem_append.1 hd with hd | hd
        · exact h4 d hd
        · simp at hd; subst hd; exact dgN_ok _
    · rw [pthK, if_neg h0] at h
      exact absurd h h0
theorem rdP_back {l : List Int} (hb : BytesOk l) {p : Nat} {e : Int} (h : (rdP l p e).2.1 = 0) : e = 0 ∧ l.drop p = pathB (rdP l p e).2.2 ++ l.drop (rdP l p e).1 ∧ (rdP l p e).2.2.length ≤ 12 ∧ ∀ d ∈ (rdP l p e).2.2, d.ok := by
  obtain ⟨h1, h2, h3, h4⟩ := pth_back hb _ h
  obtain ⟨he, b⟩ := rd_back hb h1
  have hv := rdV_bd hb 12 p e
  have hm := rdV_most (l := l) (most := 12) (by omega) p e
  refine ⟨he, ?_, ?_, h4⟩
  · rw [pathB_eq, b, h2, ← List.append_assoc]
    congr 2
    show vint _ = vint (rdP l p e).2.2.length
    rw [show (rdP l p e).2.2.length = (rdV l 12 p e).toNat from h3]
  · rw [show (rdP l p e).2.2.length = (rdV l 12 p e).toNat from h3]; omega
/-! ### words -/
structure WlR (x : Wl) : Prop where
  at_ : i64ok x.at_
  is_ : i32ok x.is_
  digs : ∀ d ∈ x.path, d.ok
  len : x.path.length ≤ 12
theorem rdU_of {l : List Int} (hb : BytesOk l) {p : Nat} {n : Int} (hn : i64ok n) {rest : List Int} (h : l.drop p = vint (foldN n) ++ rest) : rdE l allN p 0 = 0 ∧ rdU l p 0 = n ∧ l.drop (rdA l allN p 0) = rest := by
  have hf := foldN_lt hn.1 hn.2
  obtain ⟨a1, a2, a3⟩ := rd_of hb (most := allN) h hf (by show (_ : Int) ≤ 18446744073709551615; omega)
  refine ⟨a1, ?_, a3⟩
  unfold rdU
  rw [if_pos a1, a2, unf_fold]
theorem rdU_back {l : List Int} (hb : BytesOk l) {p : Nat} {e : Int} (h : rdE l allN p e = 0) : e = 0 ∧ l.drop p = vint (foldN (rdU l p e)) ++ l.drop (rdA l allN p e) ∧ i64ok (rdU l p e) := by
  obtain ⟨he, b⟩ := rd_back hb h
  have hv := rdV_bd hb allN p e
  unfold rdU
  rw [if_pos h, fold_unf hv.1]
  exact ⟨he, b, unf_ok hv.1 hv.2⟩
theorem i32B_of {n : Int} (h : i32ok n) : i32B n = true ∧ wrap32 n = n := by
  obtain ⟨h1, h2⟩ := h
  unfold i32B wrap32
  simp
  omega
theorem rdW_of {l : List Int} (hb : BytesOk l) {p : Nat} {x : Wl} (hx : WlR x) {rest : List Int} (h : l.drop p = wordB x ++ rest) : ∃ q, rdW l p 0 = (q, 0, x) ∧ l.drop q = rest := by
  unfold wordB at h
  simp only [List.append_assoc] at h
  have h64 : i64ok x.is_ := by have := hx.is_; unfold i32ok at this; unfold i64ok; omega
  obtain ⟨a1, a2, a3⟩ := rdU_of hb hx.at_ h
  obtain ⟨b1, b2, b3⟩ := rdU_of hb h64 a3
  obtain ⟨q, c1, c2⟩ := rdP_of hb hx.digs hx.len b3
  have hJ : rdJ l p 0 = (rdA l allN (rdA l allN p 0) 0, 0) := by unfold rdJ; rw [a1, b1]
  have hI : rdI l p 0 = x.is_ := by unfold rdI; rw [a1, b2]
  have hF : rdF l p 0 = 0 := by
    unfold rdF
    rw [hI, (i32B_of hx.is_).1, if_neg (by simp), hJ]
  refine ⟨q, ?_, c2⟩
  unfold rdW
  rw [hF, hJ, hI, a2, (i32B_of hx.is_).2]
  simp only
  rw [c1]
theorem rdW_back {l : List Int} (hb : BytesOk l) {p : Nat} {e : Int} (h : (rdW l p e).2.1 = 0) : e = 0 ∧ l.drop p = wordB (rdW l p e).2.2 ++ l.drop (rdW l p e).1 ∧ WlR (rdW l p e).2.2 := by
  obtain ⟨hF, h2, h3, h4⟩ := rdP_back hb (show (rdP l (rdJ l p e).1 (rdF l p e)).2.1 = 0 from h)
  have hJ : (rdJ l p e).2 = 0 ∧ i32B (rdI l p e) = true := by
    unfold rdF at hF
    split at hF
    · omega
    · rename_i hn
      refine ⟨hF, ?_⟩
      cases hq : i32B (rdI l p e)
      · exact absurd ⟨hF, hq⟩ hn
      · rfl
  obtain ⟨b1, b2, b3⟩ := rdU_back hb (show rdE l allN (rdA l allN p e) (rdE l allN p e) = 0 from hJ.1)
  obtain ⟨a1, a2, a3⟩ := rdU_back hb b1
  have h32 : i32ok (rdI l p e) := by
    have := hJ.2
    unfold i32B at this
    simp at this
    exact this
  refine ⟨a1, ?_, ?_⟩
  · show _ = wordB ⟨rdU l p e, wrap32 (rdI l p e), _⟩ ++ _
    unfold wordB
    simp only [(i32B_of h32).2, List.append_assoc]
    rw [a2, b2]
    show _ = _ ++ (vint (foldN (rdU l (rdA l allN p e) (rdE l allN p e))) ++ _)
    congr 2
  · exact ⟨a3, by show i32ok (wrap32 _); rw [(i32B_of h32).2]; exact h32, h4, h3⟩
def wsB (l : List Wl) : List Int := l.flatMap wordB
theorem wordsK_eq (l : List Wl) : ∀ k, k ≤ l.length → wordsK l k = vint l.length ++ wsB (l.take k)
  | 0, _ => by simp [wordsK, wsB]
  | k + 1, h => by
    have ih := wordsK_eq l k (by omega)
    have hk : k < l.length := by omega
    have e : l.getD k ⟨0, 0, []⟩ = l[k] := by simp [hk]
    rw [wordsK, ih, e, List.take_succ_eq_append_getElem hk, wsB, wsB, List.flatMap_append, List.flatMap_singleton, List.append_assoc]
theorem wordsB_eq (l : List Wl) : wordsB l = vint l.length ++ wsB l := by
  unfold wordsB
  rw [wordsK_eq l _ (Nat.le_refl _), List.take_length]
theorem wrd_of {l : List Int} (hb : BytesOk l) {p : Nat} {ds : List Wl} {rest : List Int} (hok : ∀ d ∈ ds, WlR d) (h : l.drop p = wsB ds ++ rest) : ∀ k, k ≤ ds.length → ∃ q, wrdK l p 0 k = (q, 0, ds.take k) ∧ l.drop q = wsB (ds.drop k) ++ rest
  | 0, _ => ⟨p, by simp [wrdK], by simpa using h⟩
  | k + 1, hk => by
    obtain ⟨q, h1, h2⟩ := wrd_of hb hok h k (by omega)
    have hkl : k < ds.length := by omega
    have hd := hok _ (List.getElem_mem hkl)
    have e : wsB (ds.drop k) = wordB ds[k] ++ wsB (ds.drop (k + 1)) := by
      rw [List.drop_eq_getElem_cons hkl]
      rfl
    rw [e, List.append_assoc] at h2
    obtain ⟨q', a1, a2⟩ := rdW_of hb hd h2
    refine ⟨q', ?_, a2⟩
    rw [wrdK, h1]
    simp only [if_true]
    rw [a1, List.take_succ_eq_append_getElem hkl]
theorem rdWs_of {l : List Int} (hb : BytesOk l) {p : Nat} {most : Int} {ds : List Wl} {rest : List Int} (hok : ∀ d ∈ ds, WlR d) (hl : (ds.length : Int) ≤ most) (h64 : ds.length < 100) (h : l.drop p = wordsB ds ++ rest) : ∃ q, rdWs l most p 0 = (q, 0, ds) ∧ l.drop q = rest := by
  rw [wordsB_eq, List.append_assoc] at h
  obtain ⟨a1, a2, a3⟩ := rd_of hb h (by omega) hl
  obtain ⟨q, h1, h2⟩ := wrd_of hb hok a3 ds.length (Nat.le_refl _)
  refine ⟨q, ?_, by simpa [wsB] using h2⟩
  unfold rdWs
  rw [a1, a2]
  show wrdK l _ 0 ((ds.length : Int)).toNat = _
  rw [Int.toNat_natCast, h1, List.take_length]
theorem wrd_back {l : List Int} (hb : BytesOk l) {p : Nat} {e : Int} : ∀ k, (wrdK l p e k).2.1 = 0 → e = 0 ∧ l.drop p = wsB (wrdK l p e k).2.2 ++ l.drop (wrdK l p e k).1 ∧ (wrdK l p e k).2.2.length = k ∧ ∀ d ∈ (wrdK l p e k).2.2, WlR d
  | 0, h => ⟨h, by simp [wrdK, wsB], rfl, by simp [wrdK]⟩
  | k + 1, h => by
    by_cases h0 : (wrdK l p e k).2.1 = 0
    · obtain ⟨h1, h2, h3, h4⟩ := wrd_back hb k h0
      have hs : wrdK l p e (k + 1) = ((rdW l (wrdK l p e k).1 0).1, (rdW l (wrdK l p e k).1 0).2.1, (wrdK l p e k).2.2 ++ [(rdW l (wrdK l p e k).1 0).2.2]) := by rw [wrdK, if_pos h0]
      rw [hs] at h ⊢
      simp only at h ⊢
      obtain ⟨_, b, c⟩ := rdW_back hb h
      refine ⟨h1, ?_, by simp [h3], ?_⟩
      · rw [h2, b]
        simp [wsB]
      · intro d hd
        rcases List.mem_append.1 hd with hd | hd
        · exact h4 d hd
        · simp at hd; subst hd; exact c
    · rw [wrdK, if_neg h0] at h
      exact absurd h h0
theorem rdWs_back {l : List Int} (hb : BytesOk l) {p : Nat} {e most : Int} (hm0 : 0 ≤ most) (h : (rdWs l most p e).2.1 = 0) : e = 0 ∧ l.drop p = wordsB (rdWs l most p e).2.2 ++ l.drop (rdWs l most p e).1 ∧ ((rdWs l most p e).2.2.length : Int) ≤ most ∧ ∀ d ∈ (rdWs l most p e).2.2, WlR d := by
  obtain ⟨h1, h2, h3, h4⟩ := wrd_back hb _ h
  obtain ⟨he, b⟩ := rd_back hb h1
  have hv := rdV_bd hb most p e
  have hm := rdV_most (l := l) (most := most) hm0 p e
  refine ⟨he, ?_, ?_, h4⟩
  · rw [wordsB_eq, b, h2, ← List.append_assoc]
    congr 2
    show vint _ = vint (rdWs l most p e).2.2.length
    rw [show (rdWs l most p e).2.2.length = (rdV l most p e).toNat from h3]
  · rw [show (rdWs l most p e).2.2.length = (rdV l most p e).toNat from h3]; omega
/-! ### the whole -/
def eight (s : Sl) : List Nat := [foldN s.pc, foldN s.halt, foldN s.words, numN s.mem, foldN s.ins.op, foldN s.ins.a, foldN s.ins.b, foldN s.ins.c]
theorem encB_eq (s : Sl) : encB s = (eight s).flatMap vint ++ (pathB s.path ++ (wordsB s.reads ++ wordsB s.writes)) := by
  simp [encB, headK, eight, instrB, Sl.at]
theorem eight_lt {s : Sl} (h : s.ok) : ∀ n ∈ eight s, n < 18446744073709551616 := by
  have h0 := h.at_ 0; have h1 := h.at_ 1; have h2 := h.at_ 2
  intro n hn
  simp [eight] at hn
  rcases hn with rfl | rfl | rfl | rfl | rfl | rfl | rfl | rfl
  · exact foldN_lt h0.1 h0.2
  · exact foldN_lt h1.1 h1.2
  · exact foldN_lt h2.1 h2.2
  · exact (numD_bd h.mem).2
  · exact foldN_lt h.ins.op.1 h.ins.op.2
  · exact foldN_lt h.ins.a.1 h.ins.a.2
  · exact foldN_lt h.ins.b.1 h.ins.b.2
  · exact foldN_lt h.ins.c.1 h.ins.c.2
theorem dc_of {l : List Int} (hb : BytesOk l) {ns : List Nat} {rest : List Int} (hok : ∀ n ∈ ns, n < 18446744073709551616) (h : l = ns.flatMap vint ++ rest) : ∀ k, k ≤ ns.length → (dcK l k).2 = 0 ∧ l.drop (dcK l k).1 = (ns.drop k).flatMap vint ++ rest ∧ ∀ (hk : k < ns.length), rdE l allN (dcK l k).1 (dcK l k).2 = 0 ∧ rdV l allN (dcK l k).1 (dcK l k).2 = ns[k]
  | 0, _ => by
    refine ⟨rfl, h, fun hk => ?_⟩
    obtain ⟨n, ns, rfl⟩ : ∃ n r, ns = n :: r := by cases ns with | nil => simp at hk | cons n r => exact ⟨n, r, rfl⟩
    have hn := hok n (by simp)
    obtain ⟨a1, a2, a3⟩ := rd_of hb (most := allN) (p := 0) (m := n) (rest := ns.flatMap vint ++ rest) (by rw [List.drop_zero, h]; simp) hn (by show (_ : Int) ≤ 18446744073709551615; omega)
    exact ⟨a1, a2⟩
  | k + 1, hk1 => by
    obtain ⟨h1, h2, h3⟩ := dc_of hb hok h k (by omega)
    have hkl : k < ns.length := by omega
    have hn := hok _ (List.getElem_mem hkl)
    rw [List.drop_eq_getElem_cons hkl] at h2
    simp only [List.flatMap_cons, List.append_assoc] at h2
    obtain ⟨a1, a2, a3⟩ := rd_of hb (most := allN) h2 hn (by show (_ : Int) ≤ 18446744073709551615; omega)
    have e : dcK l (k + 1) = (rdA l allN (dcK l k).1 0, 0) := by
      show dcN l (dcK l k) = _
      unfold dcN
      rw [h1, a1]
    rw [e]
    refine ⟨rfl, a3, fun hk => ?_⟩
    have hn2 := hok _ (List.getElem_mem hk)
    rw [List.drop_eq_getElem_cons hk] at a3
    simp only [List.flatMap_cons, List.append_assoc] at a3
    obtain ⟨b1, b2, b3⟩ := rd_of hb (most := allN) a3 hn2 (by show (_ : Int) ≤ 18446744073709551615; omega)
    exact ⟨b1, b2⟩
theorem wlR_of {s : Sl} (hok : s.ok) (hm : mayL s = true) : (∀ x ∈ s.reads, WlR x) ∧ ∀ x ∈ s.writes, WlR x := by
  obtain ⟨m1, m2, m3, m4, m5⟩ := mayL_inv hm
  exact ⟨fun x hx => ⟨(hok.reads x hx).1, (hok.reads x hx).2.1, (hok.reads x hx).2.2, m4 x hx⟩, fun x hx => ⟨(hok.writes x hx).1, (hok.writes x hx).2.1, (hok.writes x hx).2.2, m5 x hx⟩⟩
/-- the bytes of a step show it -/
theorem dec_enc {s : Sl} (hok : s.ok) (hm : mayL s = true) (hb : BytesOk (encB s)) : decE (encB s) = 0 ∧ decS (encB s) = s := by
  obtain ⟨m1, m2, m3, m4, m5⟩ := mayL_inv hm
  obtain ⟨w1, w2⟩ := wlR_of hok hm
  obtain ⟨l, hl⟩ : ∃ l, l = encB s := ⟨_, rfl⟩
  rw [← hl] at hb ⊢
  rw [encB_eq] at hl
  have hd := dc_of hb (eight_lt hok) hl
  have d0 := (hd 0 (by simp [eight])).2.2 (by simp [eight])
  have d1 := (hd 1 (by simp [eight])).2.2 (by simp [eight])
  have d2 := (hd 2 (by simp [eight])).2.2 (by simp [eight])
  have d3 := (hd 3 (by simp [eight])).2.2 (by simp [eight])
  have d4 := (hd 4 (by simp [eight])).2.2 (by simp [eight])
  have d5 := (hd 5 (by simp [eight])).2.2 (by simp [eight])
  have d6 := (hd 6 (by simp [eight])).2.2 (by simp [eight])
  have d7 := (hd 7 (by simp [eight])).2.2 (by simp [eight])
  obtain ⟨e8, a8, _⟩ := hd 8 (by simp [eight])
  simp only [eight, List.drop_succ_cons, List.drop_zero, List.flatMap_nil, List.nil_append] at a8
  obtain ⟨q1, r1, r2⟩ := rdP_of hb hok.digs m1 a8
  obtain ⟨q2, r3, r4⟩ := rdWs_of hb (most := 3) w1 (by omega) (by omega) r2
  obtain ⟨q3, r5, r6⟩ := rdWs_of hb (most := 1) (rest := []) w2 (by omega) (by omega) (by rw [r4]; simp)
  have hP : dcP l = (q1, 0, s.path) := by unfold dcP; rw [e8, r1]
  have hR : dcR l = (q2, 0, s.reads) := by unfold dcR; rw [hP]; exact r3
  have hW : dcW l = (q3, 0, s.writes) := by unfold dcW; rw [hR]; exact r5
  have hU : ∀ k n, rdE l allN (dcK l k).1 (dcK l k).2 = 0 ∧ rdV l allN (dcK l k).1 (dcK l k).2 = (foldN n : Nat) → dcU l k = n := fun k n h => by
    unfold dcU rdU
    rw [if_pos h.1, h.2, unf_fold]
  constructor
  · unfold decE
    rw [hW]
    simp only [true_and]
    rw [if_neg]
    have := List.drop_eq_nil_iff.1 r6
    omega
  · unfold decS
    rw [hU 0 s.pc d0, hU 1 s.halt d1, hU 2 s.words d2, hU 4 s.ins.op d4, hU 5 s.ins.a d5, hU 6 s.ins.b d6, hU 7 s.ins.c d7, hP, hR, hW]
    rw [show rdV l allN (dcK l 3).1 (dcK l 3).2 = (numN s.mem : Nat) from d3.2, dgN_num hok.mem]
theorem dc_back {l : List Int} (hb : BytesOk l) : ∀ k, (dcK l k).2 = 0 → l = ((List.range k).flatMap fun j => vint (rdV l allN (dcK l j).1 (dcK l j).2).toNat) ++ l.drop (dcK l k).1 ∧ ∀ j, j < k → rdE l allN (dcK l j).1 (dcK l j).2 = 0
  | 0, _ => ⟨by simp [dcK], fun j hj => by omega⟩
  | k + 1, h => by
    have h' : rdE l allN (dcK l k).1 (dcK l k).2 = 0 := h
    obtain ⟨e, b⟩ := rd_back hb h'
    obtain ⟨ih, ih2⟩ := dc_back hb k e
    refine ⟨?_, fun j hj => ?_⟩
    · rw [List.range_succ, List.flatMap_append, List.flatMap_singleton, List.append_assoc]
      show _ = _ ++ (_ ++ l.drop (rdA l allN (dcK l k).1 (dcK l k).2))
      rw [← b]
      exact ih
    · rcases (by omega : j < k ∨ j = k) with q | rfl
      · exact ih2 j q
      · exact h'
/-- what bytes show has these bytes -/
theorem enc_dec {l : List Int} (hb : BytesOk l) (h : decE l = 0) : mayL (decS l) = true ∧ (decS l).ok ∧ encB (decS l) = l := by
  have hW : (dcW l).2.1 = 0 ∧ l.length ≤ (dcW l).1 := by
    unfold decE at h
    split at h
    · omega
    · rename_i hn
      refine ⟨h, ?_⟩
      by_cases q : (dcW l).1 < l.length
      · exact absurd ⟨h, q⟩ hn
      · omega
  obtain ⟨hR, w2, w3, w4⟩ := rdWs_back hb (by omega) hW.1
  obtain ⟨hP, r2, r3, r4⟩ := rdWs_back hb (by omega) hR
  obtain ⟨h8, p2, p3, p4⟩ := rdP_back hb hP
  obtain ⟨b1, b2⟩ := dc_back hb 8 h8
  change l.drop (dcR l).1 = wordsB (dcW l).2.2 ++ l.drop (dcW l).1 at w2
  change l.drop (dcP l).1 = wordsB (dcR l).2.2 ++ l.drop (dcR l).1 at r2
  change l.drop (dcK l 8).1 = pathB (dcP l).2.2 ++ l.drop (dcP l).1 at p2
  change (((dcW l).2.2.length : Nat) : Int) ≤ 1 at w3
  change (((dcR l).2.2.length : Nat) : Int) ≤ 3 at r3
  change (dcP l).2.2.length ≤ 12 at p3
  have hU : ∀ k, k < 8 → foldN (dcU l k) = (rdV l allN (dcK l k).1 (dcK l k).2).toNat ∧ i64ok (dcU l k) := fun k hk => by
    have hv := rdV_bd hb allN (dcK l k).1 (dcK l k).2
    unfold dcU rdU
    rw [if_pos (b2 k hk)]
    exact ⟨fold_unf hv.1, unf_ok hv.1 hv.2⟩
  refine ⟨?_, ⟨?_, dgN_ok _, ⟨(hU 4 (by omega)).2, (hU 5 (by omega)).2, (hU 6 (by omega)).2, (hU 7 (by omega)).2⟩, p4, fun x hx => ?_, fun x hx => ?_⟩, ?_⟩
  · unfold mayL decS
    simp
    refine ⟨⟨⟨p3, by omega⟩, by omega⟩, fun x hx => (r4 x hx).len, fun x hx => (w4 x hx).len⟩
  · intro j
    match j with
    | 0 => exact (hU 0 (by omega)).2
    | 1 => exact (hU 1 (by omega)).2
    | j + 2 => exact (hU 2 (by omega)).2
  · exact ⟨(r4 x hx).at_, (r4 x hx).is_, (r4 x hx).digs⟩
  · exact ⟨(w4 x hx).at_, (w4 x hx).is_, (w4 x hx).digs⟩
  · have hv := rdV_bd hb allN (dcK l 3).1 (dcK l 3).2
    rw [encB_eq]
    conv => rhs; rw [b1, p2, r2, w2, List.drop_eq_nil_iff.2 hW.2]
    have e : (eight (decS l)).flatMap vint = (List.range 8).flatMap fun j => vint (rdV l allN (dcK l j).1 (dcK l j).2).toNat := by
      simp only [eight, decS, (hU 0 (by omega)).1, (hU 1 (by omega)).1, (hU 2 (by omega)).1, (hU 4 (by omega)).1, (hU 5 (by omega)).1, (hU 6 (by omega)).1, (hU 7 (by omega)).1, numN_dg hv.1 hv.2]
      simp [List.range, List.range.loop]
    rw [e]
    simp [decS]
end Go.Proofs.YtahljceanodhkaaGreatDoor

/- The document's bytes of a path, of words, behind other bytes. -/
namespace Go.Proofs.YtahljceanodhkaaGreatDoor
open Go.RowKit
theorem own_row' {w : World} {base : Nat} {v : Value} {xs : List Int} (h : w.ownsRow base 5 1 v xs.length (byts xs)) (hn : 0 < xs.length) : ∃ g c, v = .slice (some ⟨g, 0, none⟩) xs.length c ∧ base ≤ g ∧ Row w g 0 (byts xs) := by
  obtain ⟨g, c, h1, h2, h3, _⟩ := own_some h hn
  exact ⟨g, c, h1, h2, h3⟩
/-- bytes appended to bytes of its own: the run of it -/
theorem appOn {w0 w1 w2 : World} {v : Value} {xs ys : List Int} {g c : Nat} (ho : w1.ownsRow w0.heap.size 5 1 v xs.length (byts xs)) (hx1 : Ext w0 w1) (hx2 : Ext w1 w2) (hy : w2.ownsRow w1.heap.size 5 1 (.slice (some ⟨g, 0, none⟩) ys.length c) ys.length (byts ys)) (h0 : 0 < ys.length) (hn : xs.length + ys.length ≤ 100000) :
    ∃ v' w', (Builtin.append_ #[95, 95] 95 #[v, .slice (some ⟨g, 0, none⟩) ys.length c]).run Tryz.prog w2 = .ok v' w' ∧ w'.ownsRow w0.heap.size 5 1 v' (xs ++ ys).length (byts (xs ++ ys)) ∧ Ext w0 w' := by
  obtain ⟨v', w', h1, h2, h3⟩ := appB w2 w0.heap.size v xs.length xs (own_ext ho hx2) g 0 ys.length c ys rfl (own_row hy h0).2.1 hn (hx1.trans hx2).size
  rw [← List.length_append] at h2
  exact ⟨v', w', h1, h2, (hx1.trans hx2).trans' h3 (fun i hi e => by have := ((own_ext ho hx2).lt i e).1; omega)⟩
set_option maxRecDepth 100000 in
set_option maxHeartbeats 2000000 in
theorem rpathB_any (N : Nat) (t : TypeId) (w0 : World) (v : Value) (xs : List Int) (A : Option Addr) (n c : Nat) (l : List Dg) (w : World) (hx : Ext w0 w) (hown : w.ownsRow w0.heap.size 5 1 v xs.length (byts xs)) (h : PG N t w0 A n l) (hn : n ≤ 12) (hok : ∀ d ∈ l, d.ok) (hk : xs.length ≤ 10000) :
    Calls Tryz.prog 106 #[v, .slice A n c] w fun e w' => ∃ v', e = .returned v' ∧ w'.ownsRow w0.heap.size 5 1 v' (xs ++ pathB l).length (byts (xs ++ pathB l)) ∧ Ext w0 w' := by
  have HNL := Lib.hid h.len
  have HR := Lib.hid h.row
  have HOK := Lib.hid hok
  have HO := Lib.hid hown
  have HX := Lib.hid hx
  have HK := Lib.hid hk
  have hv1 := vint_len 2 n (by omega) (by omega)
  have HV1 := Lib.hid hv1
  clear h hok hown hx hk hv1
  go_enter Tryz.func106, Tryz.ntmps106
  go_upto_region 1 with (fail)
  go_step
  iterate 4 (refine wpList_step (fun K hK => ?_); go_simp; (try go_bits); refine hK _ _ ?_; clear hK K)
  refine wpList_step (fun K hK => ?_)
  have HKK := Lib.hid hK
  clear hK
  go_wp2_with fail
  refine (rnum01_any n (by omega) w).mono ?_
  rintro e w1 ⟨g1, c1, rfl, ho1, hx1⟩
  refine HKK.out _ _ ?_
  clear HKK
  obtain ⟨v2, w2, hr2, ho2, hx2⟩ := appOn HO.out HX.out hx1 ho1 (vint_pos n) (by have := HK.out; have := HV1.out; omega)
  refine wpList_app rfl (.tmp 6) (.tmp 10) 95 rfl rfl rfl rfl hr2 ?_
  clear hr2 ho1 hx1
  have HO2 := Lib.hid ho2
  have HX2 := Lib.hid hx2
  clear ho2 hx2
  go_wp2_with fail
  go_loopw [0, 5] (fun t0 t5 wr => ∃ (j : Nat), j ≤ n ∧ t5 = .int .i64 j ∧ wr.ownsRow w0.heap.size 5 1 t0 (xs ++ pathK l j).length (byts (xs ++ pathK l j)) ∧ Ext w0 wr) (fun _ t5 _ => n - (intOf t5).toNat)
  case atStart => exact ⟨0, by omega, rfl, by rw [pathK, ← HNL.out]; exact HO2.out, HX2.out⟩
  case round =>
    obtain ⟨j, hj, rfl, ho, hx⟩ := hrel
    by_cases hlt : j < n
    · have hjl : j < l.length := by have := HNL.out; omega
      have hltI : (j : Int) < n := by omega
      obtain ⟨b, off, rfl, hrow0, _⟩ := HR.out (by omega)
      have hrow := hrow0.ext hx
      obtain ⟨hrh, hrg⟩ := hrow.dig j hjl
      have hbl := hrow.lt
      have hok := HOK.out l[j] (List.getElem_mem hjl)
      have hln := pathK_len (l := l) (by have := HNL.out; omega) HOK.out j (by omega)
      have hgd : l.getD j Dg.zero = l[j] := by simp [hjl]
      obtain ⟨d, hd⟩ : ∃ d, d = l[j] := ⟨_, rfl⟩
      rw [← hd] at hrg hok hgd
      have hn2 : xs ++ pathK l (j + 1) = xs ++ pathK l j ++ vint (numN d) := by rw [pathK, hgd, List.append_assoc]
      have hnd := (numD_bd hok).2
      have hne := (numD_bd hok).1
      obtain ⟨M, hM⟩ : ∃ M, M = numN d := ⟨_, rfl⟩
      rw [← hM] at hn2 hnd hne
      have HN2 := Lib.hid hn2
      have HOD := Lib.hid hok
      have HLN := Lib.hid (show (xs ++ pathK l j).length ≤ 20000 by rw [List.length_append]; have := HK.out; omega)
      have HND := Lib.hid hnd
      have HO' := Lib.hid ho
      have HX' := Lib.hid hx
      have HVD := Lib.hid (vint_len 10 M (by omega) (by omega))
      have HNE := Lib.hid hne
      clear hrow hrow0 hd hok hgd hn2 hln ho hx hnd hne hM
      go_upto_region 5 with (fail)
      go_step
      iterate 5 (refine wpList_step (fun K hK => ?_); go_simp; (try go_bits); refine hK _ _ ?_; clear hK K)
      refine wpList_step (fun K hK => ?_)
      have HKK := Lib.hid hK
      clear hK
      go_wp2_with fail
      refine (rnum_any d HOD.out _).mono ?_
      rintro e w3 ⟨he3, hx3⟩
      rw [HNE.out] at he3
      subst he3
      refine HKK.out _ _ ?_
      clear hrh hrg hbl HKK
      refine wpList_step (fun K hK => ?_)
      have HKK := Lib.hid hK
      clear hK
      go_simp
      refine (rnum01_any M HND.out w3).mono ?_
      rintro e w4 ⟨g4, c4, rfl, ho4, hx4⟩
      refine HKK.out _ _ ?_
      clear HKK
      obtain ⟨v5, w5, hr5, ho5, hx5⟩ := appOn (own_ext HO'.out hx3) (HX'.out.trans hx3) hx4 ho4 (vint_pos _) (by have := HLN.out; have := HVD.out; omega)
      refine wpList_app rfl (.tmp 18) (.tmp 24) 95 rfl rfl rfl rfl hr5 ?_
      clear hr5 ho4 hx4 hx3
      rw [← HN2.out] at ho5
      have HO5 := Lib.hid ho5
      have HX5 := Lib.hid hx5
      clear ho5 hx5
      go_wp2_with fail
      go_roundw
      case rel => exact ⟨j + 1, hlt, by go_num, HO5.out, HX5.out⟩
      case measure => simp only [intOf]; omega
    · have ej : j = n := by omega
      subst ej
      have ho' := ho
      rw [show pathK l j = pathB l by unfold pathB; rw [← HNL.out]] at ho'
      have HO' := Lib.hid ho'
      have HX' := Lib.hid hx
      have hltI : ¬ (j : Int) < j := by omega
      clear ho ho' hx
      go_wp2_with fail
      go_ret
      exact ⟨_, rfl, by have := HO'.out; rw [List.length_append] at this; exact this, HX'.out⟩
end Go.Proofs.YtahljceanodhkaaGreatDoor

/- The document's bytes of words, behind other bytes. -/
namespace Go.Proofs.YtahljceanodhkaaGreatDoor
open Go.RowKit
set_option maxRecDepth 100000 in
set_option maxHeartbeats 2000000 in
theorem rwordsB_any (N : Nat) (t tW : TypeId) (w0 : World) (v : Value) (xs : List Int) (A : Option Addr) (n c : Nat) (ls : List Wl) (w : World) (hx : Ext w0 w) (hown : w.ownsRow w0.heap.size 5 1 v xs.length (byts xs)) (h : SG N t tW w0 A n ls) (hn : n ≤ 4) (hok : ∀ x ∈ ls, x.ok) (hk : xs.length ≤ 5000) :
    Calls Tryz.prog 105 #[v, .slice A n c] w fun e w' => ∃ v', e = .returned v' ∧ w'.ownsRow w0.heap.size 5 1 v' (xs ++ wordsB ls).length (byts (xs ++ wordsB ls)) ∧ Ext w0 w' := by
  obtain ⟨hl, b, off, ds, hA, hr, _, hg⟩ := h
  have HNL := Lib.hid hl
  have HA := Lib.hid hA
  have HR := Lib.hid hr
  have HG := Lib.hid hg
  have HDL := Lib.hid (show n = ds.length from hl.trans hg.len.symm)
  have HOK := Lib.hid hok
  have HO := Lib.hid hown
  have HX := Lib.hid hx
  have HK := Lib.hid hk
  have hv1 := vint_len 2 n (by omega) (by omega)
  have HV1 := Lib.hid hv1
  clear hl hA hr hg hok hown hx hk hv1
  go_enter Tryz.func105, Tryz.ntmps105
  go_upto_region 1 with (fail)
  go_step
  iterate 4 (refine wpList_step (fun K hK => ?_); go_simp; (try go_bits); refine hK _ _ ?_; clear hK K)
  refine wpList_step (fun K hK => ?_)
  have HKK := Lib.hid hK
  clear hK
  go_wp2_with fail
  refine (rnum01_any n (by omega) w).mono ?_
  rintro e w1 ⟨g1, c1, rfl, ho1, hx1⟩
  refine HKK.out _ _ ?_
  clear HKK
  obtain ⟨v2, w2, hr2, ho2, hx2⟩ := appOn HO.out HX.out hx1 ho1 (vint_pos n) (by have := HK.out; have := HV1.out; omega)
  refine wpList_app rfl (.tmp 6) (.tmp 10) 95 rfl rfl rfl rfl hr2 ?_
  clear hr2 ho1 hx1
  have HO2 := Lib.hid ho2
  have HX2 := Lib.hid hx2
  clear ho2 hx2
  go_wp2_with fail
  go_loopw [0, 5] (fun t0 t5 wr => ∃ (j : Nat), j ≤ n ∧ t5 = .int .i64 j ∧ wr.ownsRow w0.heap.size 5 1 t0 (xs ++ wordsK ls j).length (byts (xs ++ wordsK ls j)) ∧ Ext w0 wr) (fun _ t5 _ => n - (intOf t5).toNat)
  case atStart => exact ⟨0, by omega, rfl, by rw [wordsK, ← HNL.out]; exact HO2.out, HX2.out⟩
  case round =>
    obtain ⟨j, hj, rfl, ho, hx⟩ := hrel
    by_cases hlt : j < n
    · have hjl : j < ls.length := by have := HNL.out; omega
      have hjd : j < ds.length := by have := HDL.out; omega
      have hltI : (j : Int) < n := by omega
      have hj0 : (0 : Int) ≤ j := by omega
      obtain rfl := HA.out (by omega)
      have HROW := Lib.hid (HR.out (by omega))
      have hok := HOK.out ls[j] (List.getElem_mem hjl)
      have hwv := HG.out.get j hjd hjl
      have hln := wordsK_len (l := ls) (by have := HNL.out; omega) HOK.out j (by omega)
      have hgd : ls.getD j ⟨0, 0, []⟩ = ls[j] := by simp [hjl]
      have hcells : ∀ w2, Ext w0 w2 → w2.cell? ⟨b, off + j * 3, none⟩ = some (.int .i64 (ds[j]).at_) ∧ w2.cell? ⟨b, off + j * 3 + 1, none⟩ = some (.int .i32 (ds[j]).is_) ∧ w2.cell? ⟨b, off + j * 3 + 2, none⟩ = some (.slice (ds[j]).pa (ds[j]).pn (ds[j]).pk) ∧ b < w2.heap.size := fun w2 hs => by
        have h := HROW.out.ext hs
        obtain ⟨h1, h2, h3⟩ := h.wdc j hjd
        exact ⟨h1, h2, h3, h.lt⟩
      obtain ⟨x, hxe⟩ : ∃ x, x = ls[j] := ⟨_, rfl⟩
      obtain ⟨d, hde⟩ : ∃ d, d = ds[j] := ⟨_, rfl⟩
      rw [← hxe] at hok hgd hwv
      rw [← hde] at hwv
      simp only [← hde] at hcells
      have HC := Lib.hid hcells
      have hn2 : xs ++ wordsK ls (j + 1) = xs ++ wordsK ls j ++ vint (foldN d.at_) ++ vint (foldN d.is_) ++ pathB x.path := by rw [wordsK, hgd, hwv.at_, hwv.is_, wordB]; simp only [List.append_assoc]
      have HN2 := Lib.hid hn2
      have HV := Lib.hid hwv
      have HXK := Lib.hid hok
      have hat := hok.at_
      have his := i32_64 hok.is_
      have hpl : d.pn ≤ 12 := by have := hwv.path.len; have := hok.path; omega
      have hv1 := vfold_len hok.at_
      have hv2 := vfold_len (i32_64 hok.is_)
      rw [← hwv.at_] at hat hv1
      rw [← hwv.is_] at his hv2
      have HB := Lib.hid (And.intro hv1 (And.intro hv2 (pathB_len hok.path hok.digs)))
      have HLN := Lib.hid (show (xs ++ wordsK ls j).length ≤ 6000 by rw [List.length_append]; have := HK.out; omega)
      have HO' := Lib.hid ho
      have HX' := Lib.hid hx
      unfold i64ok at hat his
      have HAT := Lib.hid hat
      have HIS := Lib.hid his
      have hwr : IntKind.i64.wrap d.is_ = d.is_ := by rw [IntKind.wrap_i64]; omega
      have HPL := Lib.hid hpl
      clear hxe hde hok hgd hwv hn2 hv1 hv2 hln ho hcells hat his hpl
      go_upto_region 5 with (fail)
      refine wp_region_3 (fun w2 => Ext w0 w2) [(0, 2), (1, 2), (2, 2), (3, 2), (4, 2), (5, 1), (8, 2), (9, 2), (10, 2), (11, 2), (12, 1), (13, 1), (6, 0), (7, 0), (14, 0), (15, 0), (16, 2)] (by kernel_rfl) (by kernel_rfl) (by kernel_rfl) (by kernel_rfl) ?_; intro l' hl'; simp only [List.map_cons, List.map_nil, List.getD_cons_zero, List.getD_cons_succ] at hl'; subst hl'
      (repeat (first | ((apply w3_pure); (· go_simp); (· (intro w1; go_simp; try with_reducible rfl)); (intro K hK; go_simp; refine hK _ _ ?_; clear hK K)) | ((apply w3_skip); (· go_simp); (intro K hK; go_simp; refine hK _ _ ?_; clear hK K)) | ((apply w3_take); (· exact (Kept.drew hx)); (· go_simp); (· (intro w1 hS; obtain ⟨d1, d2, d3, d4⟩ := HC.out _ hS;  go_simp; try with_reducible rfl)); (intro K hK; go_simp; refine hK _ _ ?_; clear hK K)) | ((apply w3_pass); (· exact (Kept.drew hx)); (· go_simp); (intro K hK; go_simp; refine hK _ _ ?_; clear hK K))))
      clear hwr
      have y0 : Ext w0 (wr : World).drew := Kept.drew hx
      (refine w3_act (fun K hK => ?_); go_simp)
      go_wp2_with fail
      refine (signed_any d.at_ HAT.out.1 HAT.out.2 _).mono ?_
      rintro e w3 ⟨g3, c3, rfl, ho3, hx3⟩
      refine hK.out _ _ (fun _ => y0.trans hx3) ?_
      clear hK K
      obtain ⟨v4, w4, hr4, ho4, hx4⟩ := appOn (own_ext HO'.out ((Kept.refl _ _).drew)) y0 hx3 ho3 (vint_pos _) (by have := HLN.out; have := HB.out; omega)
      refine w3_app rfl (.tmp 18) (.tmp 24) 95 rfl rfl rfl rfl hr4 (fun _ => hx4) ?_
      clear hr4 ho3 hx3
      have HO4 := Lib.hid ho4
      clear ho4
      (refine w3_act (fun K hK => ?_); go_simp)
      go_wp2_with fail
      refine (signed_any d.is_ HIS.out.1 HIS.out.2 _).mono ?_
      rintro e w5 ⟨g5, c5, rfl, ho5, hx5⟩
      refine hK.out _ _ (fun _ => hx4.trans hx5) ?_
      clear hK K
      obtain ⟨v6, w6, hr6, ho6, hx6⟩ := appOn HO4.out hx4 hx5 ho5 (vint_pos _) (by have := HLN.out; have := HB.out; rw [List.length_append]; omega)
      refine w3_app rfl (.tmp 25) (.tmp 32) 95 rfl rfl rfl rfl hr6 (fun _ => hx6) ?_
      clear hr6 ho5 hx5
      have HO6 := Lib.hid ho6
      clear ho6
      (repeat (first | ((apply w3_pure); (· go_simp); (· (intro w1; go_simp; try with_reducible rfl)); (intro K hK; go_simp; refine hK _ _ ?_; clear hK K)) | ((apply w3_skip); (· go_simp); (intro K hK; go_simp; refine hK _ _ ?_; clear hK K)) | (refine w3_end (by kernel_rfl) (fun K hK => ?_); go_simp; refine hK.out _ _ ?_; clear hK K))); refine w3_nil ?_
      obtain ⟨_, _, e3, e4⟩ := HC.out _ hx6
      have HX6 := Lib.hid hx6
      clear hx6 hx4 hx y0
      go_wp2_with fail
      refine (rpathB_any N t w0 v6 (xs ++ wordsK ls j ++ vint (foldN d.at_) ++ vint (foldN d.is_)) d.pa d.pn d.pk x.path _ HX6.out HO6.out HV.out.path HPL.out HXK.out.digs (by have := HLN.out; have := HB.out; simp only [List.length_append] at *; omega)).mono ?_
      rintro e w7 ⟨v7, rfl, ho7, hx7⟩
      rw [← HN2.out] at ho7
      have HO7 := Lib.hid ho7
      have HX7 := Lib.hid hx7
      clear ho7 hx7
      go_wp2_with fail
      go_roundw
      case rel => exact ⟨j + 1, hlt, by go_num, HO7.out, HX7.out⟩
      case measure => simp only [intOf]; omega
    · have ej : j = n := by omega
      subst ej
      have ho' := ho
      rw [show wordsK ls j = wordsB ls by unfold wordsB; rw [← HNL.out]] at ho'
      have HO' := Lib.hid ho'
      have HX' := Lib.hid hx
      have hltI : ¬ (j : Int) < j := by omega
      clear ho ho' hx
      go_wp2_with fail
      go_ret
      exact ⟨_, rfl, by have := HO'.out; rw [List.length_append] at this; exact this, HX'.out⟩
end Go.Proofs.YtahljceanodhkaaGreatDoor
