/- Several texts joined: Qzn, Qzo, Qzp, Qzr, Ua. -/
import Derived.Recover
import Derived.Test.YtfamkemdgbnegaaDoorRows
import Derived.ProofKit
import Derived.OpenShut
import Derived.ShutString
import Derived.ChangeOld
import Derived.ChangeArms
import Derived.Below
import Derived.Deep.Slices
import Derived.Test.YtfamkemdgbnegaaDoorSdh
/- Sorts: Check, whole. -/
namespace Go.Proofs.YtfamkemdgbnegaaDoor
open Go.RowKit So
theorem chkPars_none (κ : Kn) : ∀ (l pre : List Vr) (_ : chkPars κ pre l = none), ∀ v ∈ l, κ v.name = 0
  | [], _, _, v, hv => absurd hv (by simp)
  | x :: l, pre, h, v, hv => by
    rw [chkPars, ored_eq_none, ored_eq_none, ored_eq_none, ored_eq_none] at h
    obtain ⟨-, h2, -, -, h5⟩ := h
    rcases List.mem_cons.1 hv with rfl | hv
    · have := must_none.1 h2
      simp at this
      exact this.1
    · exact chkPars_none κ l _ h5 v hv
theorem restLast_nil : restLast .nil = false := rfl
theorem rest_at {w : World} {N : Nat} : ∀ {F : SF} {b off : Nat} (_ : SFAt w N F b off) (_ : 0 < F.len), ∃ k : Int, w.cell? ⟨b, off + (F.len - 1) * 7, none⟩ = some (.int .i64 k) ∧ restLast F = (k == 9) ∧ b < N
  | .cons kind name e low high l x .nil, b, off, h, _ => by
    obtain ⟨hb, h1, h2, h3, h4, ⟨eA, ec, lA, lc, xA, xc, be, oe, bl, ol, bx, ox, hh, hg, -⟩, -⟩ := h
    refine ⟨kind, ?_, rfl, hb⟩
    have := cell_gets0 hh hg (by omega)
    simpa [SF.len] using this
  | .cons kind name e low high l x (.cons k' n' e' lo' hi' l' x' r), b, off, h, _ => by
    obtain ⟨hb, h1, h2, h3, h4, -, hr⟩ := h
    obtain ⟨k, hk, hr', hb'⟩ := rest_at hr (by simp [SF.len])
    refine ⟨k, ?_, hr', hb'⟩
    simp only [SF.len] at hk ⊢
    rw [← hk]
    congr 2
    omega
theorem knOf2 (p : Pr) : knOf p 2 = updAll (knV p.vars) (p.params.map Vr.name) := rfl
theorem knOf3 (p : Pr) : knOf p 3 = updAll (knV p.vars) [p.silent] := rfl
theorem knOf0 (p : Pr) : knOf p 0 = knV p.vars := rfl
theorem knOf1 (p : Pr) : knOf p 1 = knV p.vars := rfl
theorem knOf4 (p : Pr) : knOf p 4 = knV p.vars := rfl
theorem check_chain (p : Pr) : check p = ored (chkHead p) (ored (ored (chkVars [] p.vars) (must (decide (cells p.vars ≤ 64)) 8 sVar)) (ored (ored (must (decide (p.params.length ≤ 4)) 8 sPlay) (ored (chkPars (knV p.vars) [] p.params) (must (decide (menu p.params ≤ 512)) 8 sPlay))) (ored (must (isName p.silent) 6 p.silent) (ored (must (knV p.vars p.silent == 0) 7 p.silent) (ored (must (decide (w64 (psize p) ≤ 1000)) 5 p.name) (ored (ored (chkB 0 (knV p.vars) 0 true p.start) (ored (chkB 1 (knV p.vars) 0 true p.turn) (ored (chkB 2 (updAll (knV p.vars) (p.params.map Vr.name)) 0 true p.play) (ored (chkB 3 (updAll (knV p.vars) [p.silent]) 0 true p.quiet) (chkB 4 (knV p.vars) 0 true p.pays))))) (ored (must (ends p.turn) 4 sTurn) (must (restLast p.pays) 4 sPay)))))))) := by
  rw [check, chkAhead]
  simp only [ored_assoc, chkP, knOf0, knOf1, knOf2, knOf3, knOf4, partOf]
set_option maxRecDepth 100000 in
set_option maxHeartbeats 1500000 in
theorem scheck_any (c : Pc) (p : Pr) (N : Nat) (w : World) (hN4 : 4 < N) (hN : N ≤ w.heap.size) (h : PAt w N c p) (hL : LaidAt w) :
    Calls Tryd.prog 24 #[.agg c.cells] w fun e w' => e = .returned (.agg (fltC (check p))) ∧ Ext w w' := by
  obtain ⟨X, hX⟩ : ∃ X, X = check p := ⟨_, rfl⟩
  rw [← hX]
  have HX0 : Hid (X = ored (chkHead p) (ored (ored (chkVars [] p.vars) (must (decide (cells p.vars ≤ 64)) 8 sVar)) (ored (ored (must (decide (p.params.length ≤ 4)) 8 sPlay) (ored (chkPars (knV p.vars) [] p.params) (must (decide (menu p.params ≤ 512)) 8 sPlay))) (ored (must (isName p.silent) 6 p.silent) (ored (must (knV p.vars p.silent == 0) 7 p.silent) (ored (must (decide (w64 (psize p) ≤ 1000)) 5 p.name) (ored (ored (chkB 0 (knV p.vars) 0 true p.start) (ored (chkB 1 (knV p.vars) 0 true p.turn) (ored (chkB 2 (updAll (knV p.vars) (p.params.map Vr.name)) 0 true p.play) (ored (chkB 3 (updAll (knV p.vars) [p.silent]) 0 true p.quiet) (chkB 4 (knV p.vars) 0 true p.pays))))) (ored (must (ends p.turn) 4 sTurn) (must (restLast p.pays) 4 sPay))))))))) := Lib.hid (hX.trans (check_chain p))
  clear hX
  obtain ⟨H, hH⟩ : ∃ H, H = chkHead p := ⟨_, rfl⟩
  obtain ⟨V, hV⟩ : ∃ V, V = (ored (chkVars [] p.vars) (must (decide (cells p.vars ≤ 64)) 8 sVar)) := ⟨_, rfl⟩
  obtain ⟨P, hP⟩ : ∃ P, P = (ored (must (decide (p.params.length ≤ 4)) 8 sPlay) (ored (chkPars (knV p.vars) [] p.params) (must (decide (menu p.params ≤ 512)) 8 sPlay))) := ⟨_, rfl⟩
  obtain ⟨T, hT⟩ : ∃ T, T = (ored (chkB 0 (knV p.vars) 0 true p.start) (ored (chkB 1 (knV p.vars) 0 true p.turn) (ored (chkB 2 (updAll (knV p.vars) (p.params.map Vr.name)) 0 true p.play) (ored (chkB 3 (updAll (knV p.vars) [p.silent]) 0 true p.quiet) (chkB 4 (knV p.vars) 0 true p.pays))))) := ⟨_, rfl⟩
  obtain ⟨b1, hb1⟩ : ∃ b, b = isName p.silent := ⟨_, rfl⟩
  obtain ⟨b2, hb2⟩ : ∃ b, b = (knV p.vars p.silent == 0) := ⟨_, rfl⟩
  obtain ⟨b3, hb3⟩ : ∃ b, b = decide (w64 (psize p) ≤ 1000) := ⟨_, rfl⟩
  obtain ⟨b4, hb4⟩ : ∃ b, b = ends p.turn := ⟨_, rfl⟩
  obtain ⟨b5, hb5⟩ : ∃ b, b = restLast p.pays := ⟨_, rfl⟩
  have HX1 := Lib.hid (show X = ored H (ored V (ored P (ored (must b1 6 p.silent) (ored (must b2 7 p.silent) (ored (must b3 5 p.name) (ored T (ored (must b4 4 sTurn) (must b5 4 sPay)))))))) by rw [hH, hV, hP, hT, hb1, hb2, hb3, hb4, hb5]; exact HX0.out)
  have HH := Lib.hid hH
  have HV := Lib.hid hV
  have HP := Lib.hid hP
  have HT := Lib.hid hT
  have HB1 := Lib.hid hb1
  have HB2 := Lib.hid hb2
  have HB3 := Lib.hid hb3
  have HB4 := Lib.hid hb4
  have HB5 := Lib.hid hb5
  clear HX0 hH hV hP hT hb1 hb2 hb3 hb4 hb5
  obtain ⟨cn, cse, cst, cv, cs, ⟨tA, tn, tc⟩, cpa, cpl, csi, cq, ⟨zA, zn, zc⟩⟩ := c
  obtain rfl : cn = p.name := h.name
  obtain rfl : csi = p.silent := h.silent
  have hmf : ∀ (fn : Fn) (first cap : Array Value) (w : World), (Instr.makeFunc fn first cap).run Tryd.prog w = .ok (.func fn first cap) w := fun _ _ _ _ => rfl
  have hmm := @run_makeMap Tryd.prog
  go_enter_defers Tryd.func24, Tryd.ntmps24
  go_upto_region 3 with (fail)
  clear hmf hmm
  obtain ⟨W0, hW0⟩ : ∃ W0, W0 = ((((w.alloc (.cells (Pc.cells (⟨p.name, cse, cst, cv, cs, ⟨tA, tn, tc⟩, cpa, cpl, p.silent, cq, ⟨zA, zn, zc⟩⟩ : Pc)) 52)).alloc (.cells #[.int .i64 0, .string ⟨#[]⟩] 61)).alloc (.map #[] 0)).alloc (.cells #[.map (some (w.heap.size + 1 + 1)), .string ⟨#[]⟩, .int .i64 0] 76)) := ⟨_, rfl⟩
  have hx0 : Ext w W0 := by rw [hW0]; exact ((((Kept.refl _ w).alloc _).alloc _).alloc _).alloc _
  have hPB : Blk W0 w.heap.size 52 (Pc.cells (⟨p.name, cse, cst, cv, cs, ⟨tA, tn, tc⟩, cpa, cpl, p.silent, cq, ⟨zA, zn, zc⟩⟩ : Pc)) := by rw [hW0]; exact (((Blk.new w _ _).alloc _).alloc _).alloc _
  have hRB : Blk W0 (w.heap.size + 1) 61 #[.int .i64 0, .string ⟨#[]⟩] := by rw [hW0]; exact ((Blk.new' _ _ _ _ (by simp)).alloc _).alloc _
  have hMB : SMap W0 (w.heap.size + 1 + 1) (fun _ => none) := by
    rw [hW0]
    have q := SMap.made ((w.alloc (.cells (Pc.cells (⟨p.name, cse, cst, cv, cs, ⟨tA, tn, tc⟩, cpa, cpl, p.silent, cq, ⟨zA, zn, zc⟩⟩ : Pc)) 52)).alloc (.cells #[.int .i64 0, .string ⟨#[]⟩] 61))
    have q2 : ((w.alloc (.cells (Pc.cells (⟨p.name, cse, cst, cv, cs, ⟨tA, tn, tc⟩, cpa, cpl, p.silent, cq, ⟨zA, zn, zc⟩⟩ : Pc)) 52)).alloc (.cells #[.int .i64 0, .string ⟨#[]⟩] 61)).heap.size = w.heap.size + 1 + 1 := by simp
    rw [q2] at q
    exact q.ext ((Kept.refl _ _).alloc _)
  have hCB : Blk W0 (w.heap.size + 1 + 1 + 1) 76 #[.map (some (w.heap.size + 1 + 1)), .string ⟨#[]⟩, .int .i64 0] := by rw [hW0]; exact Blk.new' _ _ _ _ (by simp)
  rw [← hW0]
  obtain ⟨pb, hpb⟩ : ∃ pb, pb = w.heap.size := ⟨_, rfl⟩
  obtain ⟨rb, hrb⟩ : ∃ rb, rb = pb + 1 := ⟨_, rfl⟩
  obtain ⟨g, hg⟩ : ∃ g, g = rb + 1 := ⟨_, rfl⟩
  obtain ⟨cb, hcb⟩ : ∃ cb, cb = g + 1 := ⟨_, rfl⟩
  rw [← hpb] at hPB hRB hMB hCB ⊢
  rw [← hrb] at hRB hMB hCB ⊢
  rw [← hg] at hMB hCB ⊢
  rw [← hcb] at hCB ⊢
  have hNg : N ≤ g := by omega
  have hNc : N ≤ cb := by omega
  have HPB := Lib.hid hPB
  have HRB := Lib.hid hRB
  have HCK := Lib.hid (show Ck W0 cb g (fun _ => 0) E0 0 from ⟨hCB, hMB.cong (fun t => rfl)⟩)
  have HNE := Lib.hid (show ¬ SG cb g pb ∧ ¬ SG cb g rb by constructor <;> (rintro (h | h) <;> omega))
  have HNA := Lib.hid (show ∀ w', Kept (SG cb g) W0 w' → N ≤ w'.heap.size from fun w' hk => Nat.le_trans (Nat.le_trans hN hx0.size) hk.size)
  have HS4 := Lib.hid (show ∀ j, SG cb g j → N ≤ j from fun j h => by rcases h with h | h <;> omega)
  have HPA := Lib.hid (show ∀ w', Kept (SG cb g) W0 w' → PAt w' N (⟨p.name, cse, cst, cv, cs, ⟨tA, tn, tc⟩, cpa, cpl, p.silent, cq, ⟨zA, zn, zc⟩⟩ : Pc) p from fun w' hk => (h.ext hx0 hN).kept hk (Nat.le_trans hN hx0.size) HS4.out)
  have HLA := Lib.hid (show ∀ w', Kept (SG cb g) W0 w' → LaidAt w' from fun w' hk => (hL.ext hx0).kept hk (fun k hk h => by have := HS4.out k h; omega))
  have HOWN := Lib.hid (show ∀ wz w9, Kept (SG cb g) W0 wz → Kept (· = rb) wz w9 → Ext w w9 from fun wz w9 h1 h2 => (hx0.trans' h1 (fun i hi q => by rcases q with q | q <;> omega)).trans' h2 (fun i hi q => by omega))
  have HKE := Lib.hid (Kept.refl (SG cb g) W0)
  have HZN := Lib.hid (show zn = p.pays.len from h.pays.1)
  have HZM := Lib.hid (show zn ≤ 17592186044416 from Fits.max h.pays.2.1 (by omega))
  clear hPB hRB hMB hCB hW0 hpb hrb hg hcb h hL hx0
  have hcP := Blk.cell (Blk.kept HPB.out HKE.out HNE.out.1)
  have hlP := (Blk.kept HPB.out HKE.out HNE.out.1).lt
  have hhP := Blk.has (Blk.kept HPB.out HKE.out HNE.out.1)
  have hgP := Blk.gets (Blk.kept HPB.out HKE.out HNE.out.1)
  go_wp2_with fail
  refine (head_any _ (⟨p.name, cse, cst, cv, cs, ⟨tA, tn, tc⟩, cpa, cpl, p.silent, cq, ⟨zA, zn, zc⟩⟩ : Pc) p N _ (HNA.out _ HKE.out) (HPA.out _ HKE.out) (HLA.out _ HKE.out)).mono ?_
  rintro e w1 ⟨he, hx1⟩
  clear hcP hlP hhP hgP
  rw [← HH.out] at he
  have HC1 := Lib.hid (HCK.out.ext hx1)
  have HKE := Lib.hid (HKE.out.trans (Kept.ext hx1))
  clear hx1
  cases H with
  | some f =>
    have he := MustR.some he
    subst he
    have HR := Lib.hid (show X = some f by rw [HX1.out, ored_some])
    refine leaves_cons (f := 35) (args := #[.pointer (some ⟨rb, 0, none⟩)]) (by simp) (by simp [go_sem]) ?_
    refine (catch_panicking rb _ _ (Blk.kept HRB.out HKE.out HNE.out.2)).mono ?_
    rintro e u' w9 ⟨rfl, hu, hb9, hk9⟩
    show Leaves _ _ _ _ _ _ _
    rw [hu]
    refine ⟨_, results_cell_row Tryd.results24 _ _ rb _ _ _ _ rfl hb9 Tryd.underlying61 rfl sizeFaultS, ?_⟩
    rw [HR.out]
    exact ⟨rfl, HOWN.out _ _ HKE.out hk9⟩
  | none =>
    have he := MustR.none he
    subst he
    have HX2 := Lib.hid (show X = ored V (ored P (ored (must b1 6 p.silent) (ored (must b2 7 p.silent) (ored (must b3 5 p.name) (ored T (ored (must b4 4 sTurn) (must b5 4 sPay))))))) by rw [HX1.out, ored_none])
    clear HX1 HH
    have hcP := Blk.cell (Blk.kept HPB.out HKE.out HNE.out.1)
    have hlP := (Blk.kept HPB.out HKE.out HNE.out.1).lt
    have hhP := Blk.has (Blk.kept HPB.out HKE.out HNE.out.1)
    have hgP := Blk.gets (Blk.kept HPB.out HKE.out HNE.out.1)
    go_wp2_with fail
    refine (vars_any cb g (⟨p.name, cse, cst, cv, cs, ⟨tA, tn, tc⟩, cpa, cpl, p.silent, cq, ⟨zA, zn, zc⟩⟩ : Pc) p N hN4 hNg hNc _ (HNA.out _ HKE.out) (HPA.out _ HKE.out) (HLA.out _ HKE.out) HC1.out).mono ?_
    rintro e w2 ⟨hb, hk⟩
    clear hcP hlP hhP hgP
    rw [← HV.out] at hb
    have HKE := Lib.hid (HKE.out.trans hk)
    clear hk HC1
    cases V with
    | some f =>
      obtain ⟨he, -⟩ := hb
      subst he
      have HR := Lib.hid (show X = some f by rw [HX2.out, ored_some])
      refine leaves_cons (f := 35) (args := #[.pointer (some ⟨rb, 0, none⟩)]) (by simp) (by simp [go_sem]) ?_
      refine (catch_panicking rb _ _ (Blk.kept HRB.out HKE.out HNE.out.2)).mono ?_
      rintro e u' w9 ⟨rfl, hu, hb9, hk9⟩
      show Leaves _ _ _ _ _ _ _
      rw [hu]
      refine ⟨_, results_cell_row Tryd.results24 _ _ rb _ _ _ _ rfl hb9 Tryd.underlying61 rfl sizeFaultS, ?_⟩
      rw [HR.out]
      exact ⟨rfl, HOWN.out _ _ HKE.out hk9⟩
    | none =>
      obtain ⟨he, hc⟩ := hb
      subst he
      have HC2 := Lib.hid hc
      have HX3 := Lib.hid (show X = ored P (ored (must b1 6 p.silent) (ored (must b2 7 p.silent) (ored (must b3 5 p.name) (ored T (ored (must b4 4 sTurn) (must b5 4 sPay)))))) by rw [HX2.out, ored_none])
      clear HX2 HV hc
      have hcP := Blk.cell (Blk.kept HPB.out HKE.out HNE.out.1)
      have hlP := (Blk.kept HPB.out HKE.out HNE.out.1).lt
      have hhP := Blk.has (Blk.kept HPB.out HKE.out HNE.out.1)
      have hgP := Blk.gets (Blk.kept HPB.out HKE.out HNE.out.1)
      go_wp2_with fail
      refine (pars_any cb g (knV p.vars) (⟨p.name, cse, cst, cv, cs, ⟨tA, tn, tc⟩, cpa, cpl, p.silent, cq, ⟨zA, zn, zc⟩⟩ : Pc) p N hN4 _ (HNA.out _ HKE.out) (HPA.out _ HKE.out) (HLA.out _ HKE.out) HC2.out).mono ?_
      rintro e w3 ⟨hb, hx3⟩
      clear hcP hlP hhP hgP
      rw [← HP.out] at hb
      have HKE := Lib.hid (HKE.out.trans (Kept.ext hx3))
      clear hx3 HC2
      cases P with
      | some f =>
        obtain ⟨he, -⟩ := hb
        subst he
        have HR := Lib.hid (show X = some f by rw [HX3.out, ored_some])
        refine leaves_cons (f := 35) (args := #[.pointer (some ⟨rb, 0, none⟩)]) (by simp) (by simp [go_sem]) ?_
        refine (catch_panicking rb _ _ (Blk.kept HRB.out HKE.out HNE.out.2)).mono ?_
        rintro e u' w9 ⟨rfl, hu, hb9, hk9⟩
        show Leaves _ _ _ _ _ _ _
        rw [hu]
        refine ⟨_, results_cell_row Tryd.results24 _ _ rb _ _ _ _ rfl hb9 Tryd.underlying61 rfl sizeFaultS, ?_⟩
        rw [HR.out]
        exact ⟨rfl, HOWN.out _ _ HKE.out hk9⟩
      | none =>
        obtain ⟨he, hc⟩ := hb
        subst he
        have HC3 := Lib.hid hc
        have hp := ored_eq_none.1 HP.out.symm
        have HP4 := Lib.hid (show p.params.length ≤ 4 from of_decide_eq_true (must_none.1 hp.1))
        have HPR := Lib.hid (chkPars_none _ _ _ (ored_eq_none.1 hp.2).1)
        have HX4 := Lib.hid (show X = ored (must b1 6 p.silent) (ored (must b2 7 p.silent) (ored (must b3 5 p.name) (ored T (ored (must b4 4 sTurn) (must b5 4 sPay))))) by rw [HX3.out, ored_none])
        clear HX3 HP hc hp
        go_upto_region 6 with (fail)
        refine wp_region_3 (fun w1 => Ext w3 w1) [(0, 2), (1, 1), (3, 2), (4, 1), (2, 0), (5, 0)] (by kernel_rfl) (by kernel_rfl) (by kernel_rfl) (by kernel_rfl) ?_; intro l' hl'; simp only [List.map_cons, List.map_nil, List.getD_cons_zero, List.getD_cons_succ] at hl'; subst hl'
        have HY0 := Lib.hid (show Ext w3 w3.drew from (Kept.refl _ w3).drew)
        (repeat (first | ((apply w3_pure); (· go_simp); (· (intro w1; go_simp; try with_reducible rfl)); (intro K hK; go_simp; refine hK _ _ ?_; clear hK K)) | ((apply w3_skip); (· go_simp); (intro K hK; go_simp; refine hK _ _ ?_; clear hK K)) | ((apply w3_take); (· exact HY0.out); (· go_simp); (· (intro w1 hS; have d4 := Blk.kept HPB.out (HKE.out.trans (Kept.ext hS)) HNE.out.1; have d5 := Blk.cell d4; have d6 := d4.lt;  go_simp; try with_reducible rfl)); (intro K hK; go_simp; refine hK _ _ ?_; clear hK K)) | ((apply w3_pass); (· exact HY0.out); (· go_simp); (intro K hK; go_simp; refine hK _ _ ?_; clear hK K))))
        (refine w3_act (fun K hK => ?_); go_simp)
        refine (sisname_any p.silent (HPA.out _ HKE.out).silentOk _ (HLA.out _ (HKE.out.trans (Kept.ext HY0.out)))).mono ?_
        rintro e w4 ⟨rfl, hx4⟩
        have HY1 := Lib.hid (HY0.out.trans hx4)
        clear hx4
        refine hK.out _ _ (fun _ => HY1.out) ?_
        clear hK K
        (repeat (first | ((apply w3_pure); (· go_simp); (· (intro w1; go_simp; try with_reducible rfl)); (intro K hK; go_simp; refine hK _ _ ?_; clear hK K)) | ((apply w3_skip); (· go_simp); (intro K hK; go_simp; refine hK _ _ ?_; clear hK K)) | ((apply w3_take); (· exact HY1.out); (· go_simp); (· (intro w1 hS; have d4 := Blk.kept HPB.out (HKE.out.trans (Kept.ext hS)) HNE.out.1; have d5 := Blk.cell d4; have d6 := d4.lt;  go_simp; try with_reducible rfl)); (intro K hK; go_simp; refine hK _ _ ?_; clear hK K)) | ((apply w3_pass); (· exact HY1.out); (· go_simp); (intro K hK; go_simp; refine hK _ _ ?_; clear hK K))))
        (refine w3_last (by kernel_rfl) (by kernel_rfl) (fun K hK => ?_); go_simp)
        have HK0 := HKE
        have HKE := Lib.hid (HK0.out.trans (Kept.ext HY1.out))
        rw [← HB1.out]
        cases b1
        · have HR := Lib.hid (show X = some ⟨6, p.silent⟩ by rw [HX4.out, must_false, ored_some])
          refine (must_any false _ _ _).mono ?_
          rintro e w8 ⟨he, rfl⟩
          have he := MustR.some he
          subst he
          refine leaves_cons (f := 35) (args := #[.pointer (some ⟨rb, 0, none⟩)]) (by simp) (by simp [go_sem]) ?_
          refine (catch_panicking rb _ _ (Blk.kept HRB.out HKE.out HNE.out.2)).mono ?_
          rintro e u' w9 ⟨rfl, hu, hb9, hk9⟩
          show Leaves _ _ _ _ _ _ _
          rw [hu]
          refine ⟨_, results_cell_row Tryd.results24 _ _ rb _ _ _ _ rfl hb9 Tryd.underlying61 rfl sizeFaultS, ?_⟩
          rw [HR.out]
          exact ⟨rfl, HOWN.out _ _ HKE.out hk9⟩
        · have HX5 := Lib.hid (show X = ored (must b2 7 p.silent) (ored (must b3 5 p.name) (ored T (ored (must b4 4 sTurn) (must b5 4 sPay)))) by rw [HX4.out, must_true, ored_none])
          refine (must_any true _ _ _).mono ?_
          rintro e w8 ⟨he, rfl⟩
          have he := MustR.none he
          subst he
          refine hK.out _ _ ?_
          clear hK K
          (repeat (first | ((apply w3_pure); (· go_simp); (· (intro w1; go_simp; try with_reducible rfl)); (intro K hK; go_simp; refine hK _ _ ?_; clear hK K)) | ((apply w3_skip); (· go_simp); (intro K hK; go_simp; refine hK _ _ ?_; clear hK K)) | (refine w3_end (by kernel_rfl) (fun K hK => ?_); go_simp; refine hK.out _ _ ?_; clear hK K))); refine w3_nil ?_
          have HC4 := Lib.hid (HC3.out.ext HY1.out)
          clear HX4 HC3 HY0 HY1 HK0
          go_upto_region 7 with (fail)
          obtain ⟨v, hv⟩ : ∃ v, v = knV p.vars p.silent := ⟨_, rfl⟩
          have HV := Lib.hid hv
          clear hv
          refine wp_region_3 (fun w1 => Ext w4 w1) [(0, 2), (1, 2), (2, 1), (5, 2), (6, 1), (3, 0), (4, 2), (7, 0)] (by kernel_rfl) (by kernel_rfl) (by kernel_rfl) (by kernel_rfl) ?_; intro l' hl'; simp only [List.map_cons, List.map_nil, List.getD_cons_zero, List.getD_cons_succ] at hl'; subst hl'
          have HY0 := Lib.hid (show Ext w4 w4.drew from (Kept.refl _ w4).drew)
          (repeat (first | ((apply w3_pure); (· go_simp); (· (intro w1; go_simp; try with_reducible rfl)); (intro K hK; go_simp; refine hK _ _ ?_; clear hK K)) | ((apply w3_skip); (· go_simp); (intro K hK; go_simp; refine hK _ _ ?_; clear hK K)) | ((apply w3_take); (· exact HY0.out); (· go_simp); (· (intro w1 hS; have d4 := Blk.kept HPB.out (HKE.out.trans (Kept.ext hS)) HNE.out.1; have d5 := Blk.cell d4; have d6 := d4.lt;  go_simp; try with_reducible rfl)); (intro K hK; go_simp; refine hK _ _ ?_; clear hK K)) | ((apply w3_pass); (· exact HY0.out); (· go_simp); (intro K hK; go_simp; refine hK _ _ ?_; clear hK K))))
          (refine w3_act (fun K hK => ?_); go_simp)
          refine (knows_any cb g (knV p.vars) E0 0 p.silent _ (HC4.out.ext HY0.out)).mono ?_
          rintro e w5 ⟨rfl, rfl⟩
          rw [← HV.out]
          refine hK.out _ _ (fun _ => HY0.out) ?_
          clear hK K
          (repeat (first | ((apply w3_pure); (· go_simp); (· (intro w1; go_simp; try with_reducible rfl)); (intro K hK; go_simp; refine hK _ _ ?_; clear hK K)) | ((apply w3_skip); (· go_simp); (intro K hK; go_simp; refine hK _ _ ?_; clear hK K)) | ((apply w3_take); (· exact HY0.out); (· go_simp); (· (intro w1 hS; have d4 := Blk.kept HPB.out (HKE.out.trans (Kept.ext hS)) HNE.out.1; have d5 := Blk.cell d4; have d6 := d4.lt;  go_simp; try with_reducible rfl)); (intro K hK; go_simp; refine hK _ _ ?_; clear hK K)) | ((apply w3_pass); (· exact HY0.out); (· go_simp); (intro K hK; go_simp; refine hK _ _ ?_; clear hK K))))
          (refine w3_last (by kernel_rfl) (by kernel_rfl) (fun K hK => ?_); go_simp)
          have HK0 := HKE
          have HKE := Lib.hid (HK0.out.trans (Kept.ext HY0.out))
          by_cases hv0 : v = 0
          · have qv : (v != 0) = false := by simp [hv0]
            have HX6 := Lib.hid (show X = ored (must b3 5 p.name) (ored T (ored (must b4 4 sTurn) (must b5 4 sPay))) by rw [HX5.out, show b2 = true by rw [HB2.out, ← HV.out, hv0]; rfl, must_true, ored_none])
            try rw [qv]
            try simp only [Bool.not_false]
            refine (must_any true _ _ _).mono ?_
            rintro e w8 ⟨he, rfl⟩
            have he := MustR.none he
            subst he
            refine hK.out _ _ ?_
            clear hK K
            (repeat (first | ((apply w3_pure); (· go_simp); (· (intro w1; go_simp; try with_reducible rfl)); (intro K hK; go_simp; refine hK _ _ ?_; clear hK K)) | ((apply w3_skip); (· go_simp); (intro K hK; go_simp; refine hK _ _ ?_; clear hK K)) | (refine w3_end (by kernel_rfl) (fun K hK => ?_); go_simp; refine hK.out _ _ ?_; clear hK K))); refine w3_nil ?_
            have HSK := Lib.hid (show knV p.vars p.silent = 0 by rw [← HV.out, hv0])
            have HC5 := Lib.hid (HC4.out.ext HY0.out)
            generalize w4.drew = w5 at HKE HC5 ⊢
            clear HX5 hv0 qv HC4 HY0 HK0 HV
            go_upto_region 8 with (fail)
            obtain ⟨z, hz⟩ : ∃ z, z = w64 (psize p) := ⟨_, rfl⟩
            have HZ := Lib.hid hz
            clear hz
            refine wp_region_3 (fun w1 => Ext w5 w1) [(0, 1), (3, 2), (4, 1), (1, 0), (2, 2), (5, 0)] (by kernel_rfl) (by kernel_rfl) (by kernel_rfl) (by kernel_rfl) ?_; intro l' hl'; simp only [List.map_cons, List.map_nil, List.getD_cons_zero, List.getD_cons_succ] at hl'; subst hl'
            have HY0 := Lib.hid (show Ext w5 w5.drew from (Kept.refl _ w5).drew)
            (repeat (first | ((apply w3_pure); (· go_simp); (· (intro w1; go_simp; try with_reducible rfl)); (intro K hK; go_simp; refine hK _ _ ?_; clear hK K)) | ((apply w3_skip); (· go_simp); (intro K hK; go_simp; refine hK _ _ ?_; clear hK K)) | ((apply w3_take); (· exact HY0.out); (· go_simp); (· (intro w1 hS; have d4 := Blk.kept HPB.out (HKE.out.trans (Kept.ext hS)) HNE.out.1; have d5 := Blk.cell d4; have d6 := d4.lt; have d7 := Blk.has d4; have d8 := Blk.gets d4;  go_simp; try with_reducible rfl)); (intro K hK; go_simp; refine hK _ _ ?_; clear hK K)) | ((apply w3_pass); (· exact HY0.out); (· go_simp); (intro K hK; go_simp; refine hK _ _ ?_; clear hK K))))
            (refine w3_act (fun K hK => ?_); go_simp)
            refine (ssize_any (⟨p.name, cse, cst, cv, cs, ⟨tA, tn, tc⟩, cpa, cpl, p.silent, cq, ⟨zA, zn, zc⟩⟩ : Pc) p N _ (HNA.out _ (HKE.out.trans (Kept.ext HY0.out))) (HPA.out _ (HKE.out.trans (Kept.ext HY0.out)))).mono ?_
            rintro e w6 ⟨rfl, hx6⟩
            rw [← HZ.out]
            have HY1 := Lib.hid (HY0.out.trans hx6)
            clear hx6
            refine hK.out _ _ (fun _ => HY1.out) ?_
            clear hK K
            have HK0 := HKE
            by_cases hz : z ≤ 1000
            · have HX7 := Lib.hid (show X = ored T (ored (must b4 4 sTurn) (must b5 4 sPay)) by rw [HX6.out, show b3 = true by rw [HB3.out, ← HZ.out]; exact decide_eq_true hz, must_true, ored_none])
              (repeat (first | ((apply w3_pure); (· go_simp); (· (intro w1; go_simp; try with_reducible rfl)); (intro K hK; go_simp; refine hK _ _ ?_; clear hK K)) | ((apply w3_skip); (· go_simp); (intro K hK; go_simp; refine hK _ _ ?_; clear hK K)) | ((apply w3_take); (· exact HY1.out); (· go_simp); (· (intro w1 hS; have d4 := Blk.kept HPB.out (HKE.out.trans (Kept.ext hS)) HNE.out.1; have d5 := Blk.cell d4; have d6 := d4.lt; have d7 := Blk.has d4; have d8 := Blk.gets d4;  go_simp; try with_reducible rfl)); (intro K hK; go_simp; refine hK _ _ ?_; clear hK K)) | ((apply w3_pass); (· exact HY1.out); (· go_simp); (intro K hK; go_simp; refine hK _ _ ?_; clear hK K))))
              (refine w3_last (by kernel_rfl) (by kernel_rfl) (fun K hK => ?_); go_simp)
              have HKE := Lib.hid (HK0.out.trans (Kept.ext HY1.out))
              refine (must_any true _ _ _).mono ?_
              rintro e w8 ⟨he, rfl⟩
              have he := MustR.none he
              subst he
              refine hK.out _ _ ?_
              clear hK K
              (repeat (first | ((apply w3_pure); (· go_simp); (· (intro w1; go_simp; try with_reducible rfl)); (intro K hK; go_simp; refine hK _ _ ?_; clear hK K)) | ((apply w3_skip); (· go_simp); (intro K hK; go_simp; refine hK _ _ ?_; clear hK K)) | (refine w3_end (by kernel_rfl) (fun K hK => ?_); go_simp; refine hK.out _ _ ?_; clear hK K))); refine w3_nil ?_
              have HC6 := Lib.hid (HC5.out.ext HY1.out)
              clear HX6 hz HC5 HY0 HY1 HK0 HZ
              have hcP := Blk.cell (Blk.kept HPB.out HKE.out HNE.out.1)
              have hlP := (Blk.kept HPB.out HKE.out HNE.out.1).lt
              have hhP := Blk.has (Blk.kept HPB.out HKE.out HNE.out.1)
              have hgP := Blk.gets (Blk.kept HPB.out HKE.out HNE.out.1)
              go_wp2_with fail
              refine (parts_any cb g (knV p.vars) (⟨p.name, cse, cst, cv, cs, ⟨tA, tn, tc⟩, cpa, cpl, p.silent, cq, ⟨zA, zn, zc⟩⟩ : Pc) p N hN4 hNg hNc _ (HNA.out _ HKE.out) (HPA.out _ HKE.out) (HLA.out _ HKE.out) HC6.out HP4.out HPR.out HSK.out).mono ?_
              rintro e w7 ⟨he, hk⟩
              clear hcP hlP hhP hgP
              rw [← HT.out] at he
              have HKE := Lib.hid (HKE.out.trans hk)
              clear hk HC6
              cases T with
              | some f =>
                have he := MustR.some he
                subst he
                have HR := Lib.hid (show X = some f by rw [HX7.out, ored_some])
                refine leaves_cons (f := 35) (args := #[.pointer (some ⟨rb, 0, none⟩)]) (by simp) (by simp [go_sem]) ?_
                refine (catch_panicking rb _ _ (Blk.kept HRB.out HKE.out HNE.out.2)).mono ?_
                rintro e u' w9 ⟨rfl, hu, hb9, hk9⟩
                show Leaves _ _ _ _ _ _ _
                rw [hu]
                refine ⟨_, results_cell_row Tryd.results24 _ _ rb _ _ _ _ rfl hb9 Tryd.underlying61 rfl sizeFaultS, ?_⟩
                rw [HR.out]
                exact ⟨rfl, HOWN.out _ _ HKE.out hk9⟩
              | none =>
                have he := MustR.none he
                subst he
                have HX8 := Lib.hid (show X = ored (must b4 4 sTurn) (must b5 4 sPay) by rw [HX7.out, ored_none])
                clear HX7 HT
                have hcP := Blk.cell (Blk.kept HPB.out HKE.out HNE.out.1)
                have hlP := (Blk.kept HPB.out HKE.out HNE.out.1).lt
                have hhP := Blk.has (Blk.kept HPB.out HKE.out HNE.out.1)
                have hgP := Blk.gets (Blk.kept HPB.out HKE.out HNE.out.1)
                go_wp2_with fail
                refine (sends_any w7 p.turn tA tn tc N _ (Kept.refl _ _) (HNA.out _ HKE.out) (HPA.out _ HKE.out).turn).mono ?_
                rintro e w8 ⟨rfl, hx8⟩
                clear hcP hlP hhP hgP
                have HKE := Lib.hid (HKE.out.trans (Kept.ext hx8))
                clear hx8
                go_wp2_with fail
                rw [← HB4.out]
                cases b4
                · have HR := Lib.hid (show X = some ⟨4, sTurn⟩ by rw [HX8.out, must_false, ored_some])
                  refine (must_any false _ _ _).mono ?_
                  rintro e w8 ⟨he, rfl⟩
                  have he := MustR.some he
                  subst he
                  refine leaves_cons (f := 35) (args := #[.pointer (some ⟨rb, 0, none⟩)]) (by simp) (by simp [go_sem]) ?_
                  refine (catch_panicking rb _ _ (Blk.kept HRB.out HKE.out HNE.out.2)).mono ?_
                  rintro e u' w9 ⟨rfl, hu, hb9, hk9⟩
                  show Leaves _ _ _ _ _ _ _
                  rw [hu]
                  refine ⟨_, results_cell_row Tryd.results24 _ _ rb _ _ _ _ rfl hb9 Tryd.underlying61 rfl sizeFaultS, ?_⟩
                  rw [HR.out]
                  exact ⟨rfl, HOWN.out _ _ HKE.out hk9⟩
                · have HX9 := Lib.hid (show X = must b5 4 sPay by rw [HX8.out, must_true, ored_none])
                  refine (must_any true _ _ _).mono ?_
                  rintro e w8 ⟨he, rfl⟩
                  have he := MustR.none he
                  subst he
                  clear HX8
                  have hcP := Blk.cell (Blk.kept HPB.out HKE.out HNE.out.1)
                  have hlP := (Blk.kept HPB.out HKE.out HNE.out.1).lt
                  have hhP := Blk.has (Blk.kept HPB.out HKE.out HNE.out.1)
                  have hgP := Blk.gets (Blk.kept HPB.out HKE.out HNE.out.1)
                  obtain ⟨-, -, b, off, hA, hE⟩ := (HPA.out _ HKE.out).pays
                  have HA := Lib.hid hA
                  have HE := Lib.hid hE
                  clear hA hE
                  have hcR := Blk.cell (Blk.kept HRB.out HKE.out HNE.out.2)
                  have hzR := Blk.frozen (Blk.kept HRB.out HKE.out HNE.out.2)
                  have hlR := (Blk.kept HRB.out HKE.out HNE.out.2).lt
                  have hmR := (Blk.kept HRB.out HKE.out HNE.out.2).melts
                  have hhR := Blk.has (Blk.kept HRB.out HKE.out HNE.out.2)
                  cases zn with
                  | zero =>
                    have HR := Lib.hid (show X = some ⟨4, sPay⟩ by
                      have : p.pays = .nil := by
                        have hz := HZN.out
                        cases hq : p.pays with
                        | nil => rfl
                        | cons => rw [hq] at hz; simp [SF.len] at hz
                      rw [HX9.out, show b5 = false by rw [HB5.out, this]; rfl, must_false])
                    go_wp2_with fail
                    refine (must_any false _ _ _).mono ?_
                    rintro e w8 ⟨he, rfl⟩
                    have he := MustR.some he
                    subst he
                    refine leaves_cons (f := 35) (args := #[.pointer (some ⟨rb, 0, none⟩)]) (by simp) (by simp [go_sem]) ?_
                    refine (catch_panicking rb _ _ (Blk.kept HRB.out HKE.out HNE.out.2)).mono ?_
                    rintro e u' w9 ⟨rfl, hu, hb9, hk9⟩
                    show Leaves _ _ _ _ _ _ _
                    rw [hu]
                    refine ⟨_, results_cell_row Tryd.results24 _ _ rb _ _ _ _ rfl hb9 Tryd.underlying61 rfl sizeFaultS, ?_⟩
                    rw [HR.out]
                    exact ⟨rfl, HOWN.out _ _ HKE.out hk9⟩
                  | succ m =>
                    obtain ⟨k, hk, hrl, hbN⟩ := rest_at HE.out (by rw [← HZN.out]; exact Nat.succ_pos m)
                    obtain rfl := HA.out (Nat.succ_pos m)
                    rw [← HZN.out] at hk
                    have hm := HZM.out
                    have hbw := HNA.out _ HKE.out
                    simp only [Nat.add_sub_cancel] at hk
                    have hi1 : (m : Int) < ((m : Int) + 1) := by omega
                    have hi0 : (0 : Int) < (m : Int) + 1 := by omega
                    have HRL := Lib.hid hrl
                    clear hrl
                    cases hq : (k == 9)
                    · have HR := Lib.hid (show X = some ⟨4, sPay⟩ by rw [HX9.out, show b5 = false by rw [HB5.out, HRL.out, hq], must_false])
                      go_wp2_with fail
                      refine (must_any false _ _ _).mono ?_
                      rintro e w8 ⟨he, rfl⟩
                      have he := MustR.some he
                      subst he
                      refine leaves_cons (f := 35) (args := #[.pointer (some ⟨rb, 0, none⟩)]) (by simp) (by simp [go_sem]) ?_
                      refine (catch_panicking rb _ _ (Blk.kept HRB.out HKE.out HNE.out.2)).mono ?_
                      rintro e u' w9 ⟨rfl, hu, hb9, hk9⟩
                      show Leaves _ _ _ _ _ _ _
                      rw [hu]
                      refine ⟨_, results_cell_row Tryd.results24 _ _ rb _ _ _ _ rfl hb9 Tryd.underlying61 rfl sizeFaultS, ?_⟩
                      rw [HR.out]
                      exact ⟨rfl, HOWN.out _ _ HKE.out hk9⟩
                    · have HR := Lib.hid (show X = none by rw [HX9.out, show b5 = true by rw [HB5.out, HRL.out, hq], must_true])
                      go_wp2_with fail
                      refine (must_any true _ _ _).mono ?_
                      rintro e w8 ⟨he, rfl⟩
                      have he := MustR.none he
                      subst he
                      clear hk hbw hcP hlP hhP hgP
                      go_wp2_with fail
                      refine leaves_cons (f := 35) (args := #[.pointer (some ⟨rb, 0, none⟩)]) (by simp) (by simp [go_sem]) ?_
                      refine (catch_idle ⟨rb, 0, none⟩ _).mono ?_
                      rintro e u' w9 ⟨rfl, rfl, hk9⟩
                      have hre := Blk.ext (Blk.put_ (Blk.kept HRB.out HKE.out HNE.out.2) 0 #[.int .i64 0, .string ⟨#[]⟩]) hk9
                      refine ⟨_, results_cell_row Tryd.results24 _ _ rb _ _ _ _ rfl hre Tryd.underlying61 rfl sizeFaultS, ?_⟩
                      rw [HR.out]
                      exact ⟨rfl, HOWN.out _ _ HKE.out ((Kept.putAt (Kept.refl (· = rb) _) _ _ _ (fun _ => rfl)).trans (Kept.ext hk9))⟩
            · have HR := Lib.hid (show X = some ⟨5, p.name⟩ by rw [HX6.out, show b3 = false by rw [HB3.out, ← HZ.out]; exact decide_eq_false hz, must_false, ored_some])
              (repeat (first | ((apply w3_pure); (· go_simp); (· (intro w1; go_simp; try with_reducible rfl)); (intro K hK; go_simp; refine hK _ _ ?_; clear hK K)) | ((apply w3_skip); (· go_simp); (intro K hK; go_simp; refine hK _ _ ?_; clear hK K)) | ((apply w3_take); (· exact HY1.out); (· go_simp); (· (intro w1 hS; have d4 := Blk.kept HPB.out (HKE.out.trans (Kept.ext hS)) HNE.out.1; have d5 := Blk.cell d4; have d6 := d4.lt; have d7 := Blk.has d4; have d8 := Blk.gets d4;  go_simp; try with_reducible rfl)); (intro K hK; go_simp; refine hK _ _ ?_; clear hK K)) | ((apply w3_pass); (· exact HY1.out); (· go_simp); (intro K hK; go_simp; refine hK _ _ ?_; clear hK K))))
              (refine w3_last (by kernel_rfl) (by kernel_rfl) (fun K hK => ?_); go_simp)
              have HKE := Lib.hid (HK0.out.trans (Kept.ext HY1.out))
              refine (must_any false _ _ _).mono ?_
              rintro e w8 ⟨he, rfl⟩
              have he := MustR.some he
              subst he
              refine leaves_cons (f := 35) (args := #[.pointer (some ⟨rb, 0, none⟩)]) (by simp) (by simp [go_sem]) ?_
              refine (catch_panicking rb _ _ (Blk.kept HRB.out HKE.out HNE.out.2)).mono ?_
              rintro e u' w9 ⟨rfl, hu, hb9, hk9⟩
              show Leaves _ _ _ _ _ _ _
              rw [hu]
              refine ⟨_, results_cell_row Tryd.results24 _ _ rb _ _ _ _ rfl hb9 Tryd.underlying61 rfl sizeFaultS, ?_⟩
              rw [HR.out]
              exact ⟨rfl, HOWN.out _ _ HKE.out hk9⟩
          · have qv : (v != 0) = true := by simp [hv0]
            have qn : (v == 0) = false := by simp [hv0]
            have HR := Lib.hid (show X = some ⟨7, p.silent⟩ by rw [HX5.out, show b2 = false by rw [HB2.out, ← HV.out, qn], must_false, ored_some])
            try rw [qv]
            try simp only [Bool.not_true]
            refine (must_any false _ _ _).mono ?_
            rintro e w8 ⟨he, rfl⟩
            have he := MustR.some he
            subst he
            refine leaves_cons (f := 35) (args := #[.pointer (some ⟨rb, 0, none⟩)]) (by simp) (by simp [go_sem]) ?_
            refine (catch_panicking rb _ _ (Blk.kept HRB.out HKE.out HNE.out.2)).mono ?_
            rintro e u' w9 ⟨rfl, hu, hb9, hk9⟩
            show Leaves _ _ _ _ _ _ _
            rw [hu]
            refine ⟨_, results_cell_row Tryd.results24 _ _ rb _ _ _ _ rfl hb9 Tryd.underlying61 rfl sizeFaultS, ?_⟩
            rw [HR.out]
            exact ⟨rfl, HOWN.out _ _ HKE.out hk9⟩
end Go.Proofs.YtfamkemdgbnegaaDoor

/- Sorts: the law's own helpers: check, Small, few. -/
namespace Go.Proofs.YtfamkemdgbnegaaDoor
open Go.RowKit So
theorem ESl.nil (w : World) (N : Nat) (A : Option Addr) : ESl w N A 0 .nil := ⟨rfl, by unfold Fits; omega, 0, 0, fun h => absurd h (by omega), trivial⟩
theorem SSl.nil (w : World) (N : Nat) (A : Option Addr) : SSl w N A 0 .nil := ⟨rfl, by unfold Fits; omega, 0, 0, fun h => absurd h (by omega), trivial⟩
theorem VSl.nil (w : World) (N : Nat) (A : Option Addr) : VSl w N A 0 [] := ⟨rfl, by unfold Fits; omega, fun v hv => absurd hv (by simp), 0, 0, fun h => absurd h (by omega), fun h => absurd h (by omega)⟩
theorem ef_one {w : World} {N b : Nat} {t : TypeId} {op n : Int} {name : Str} {A : Option Addr} {cap : Nat} {k : EF} (hB : Blk w b t (ecells op n name A k.len cap)) (hb : b < N) (h1 : i64ok op) (h2 : i64ok n) (h3 : name.size ≤ maxLen) (hk : ESl w N A k.len k) : ESl w N (some ⟨b, 0, none⟩) 1 (.cons op n name k .nil) := by
  obtain ⟨-, hf, b', off', hA, hE⟩ := hk
  refine ⟨rfl, by unfold Fits; omega, b, 0, fun _ => rfl, hb, h1, h2, h3, ⟨A, cap, b', off', ?_, ?_, hf, hA, hE⟩, trivial⟩
  · rw [Blk.has hB]; simp
  · rw [Blk.gets hB]; rfl
theorem sf_one {w : World} {N b : Nat} {t : TypeId} {kind : Int} {name : Str} {e : EF} {low high : Int} {l x : SF} {eA : Option Addr} {ec : Nat} {lA : Option Addr} {lc : Nat} {xA : Option Addr} {xc : Nat} (hB : Blk w b t (scells kind name eA e.len ec low high lA l.len lc xA x.len xc)) (hb : b < N)
    (h1 : i64ok kind) (h2 : i64ok low) (h3 : i64ok high) (h4 : name.size ≤ maxLen) (he : ESl w N eA e.len e) (hl : SSl w N lA l.len l) (hx : SSl w N xA x.len x) : SSl w N (some ⟨b, 0, none⟩) 1 (.cons kind name e low high l x .nil) := by
  obtain ⟨-, f1, be, oe, a1, e1⟩ := he
  obtain ⟨-, f2, bl, ol, a2, e2⟩ := hl
  obtain ⟨-, f3, bx, ox, a3, e3⟩ := hx
  refine ⟨rfl, by unfold Fits; omega, b, 0, fun _ => rfl, hb, h1, h2, h3, h4, ⟨eA, ec, lA, lc, xA, xc, be, oe, bl, ol, bx, ox, ?_, ?_, f1, f2, f3, a1, a2, a3, e1, e2, e3⟩, trivial⟩
  · rw [Blk.has hB]; simp
  · rw [Blk.gets hB]; rfl
def sG : Str := ⟨#[103]⟩
def sA : Str := ⟨#[97]⟩
def sL : Str := ⟨#[108]⟩
def sW : Str := ⟨#[119]⟩
def e0F : EF := .cons 0 0 E0 .nil .nil
def smallT : SF := .cons 7 E0 .nil 0 0 .nil .nil .nil
def smallP : Pr := ⟨sG, 2, [1, 1], [⟨sA, 0, 0, 1⟩, ⟨sL, 3, 0, 1⟩], .nil, smallT, [], .nil, sW, .nil, .cons 9 E0 e0F 0 0 .nil .nil .nil⟩
def toldA : Pr := { smallP with turn := .cons 2 E0 e0F 0 0 smallT .nil .nil }
def toldB : Pr := { smallP with start := .cons 0 sL e0F 0 0 .nil .nil .nil }
theorem small_ok : check smallP = none := by kernel_rfl
theorem toldA_ok : check toldA = some ⟨4, ⟨#[116, 117, 114, 110]⟩⟩ := by kernel_rfl
theorem toldB_ok : check toldB = some ⟨11, ⟨#[108]⟩⟩ := by kernel_rfl
theorem small_cells : cells smallP.vars = 4 := by rfl
def fewB (p : Pr) : Bool := decide (w64 (psize p) ≤ 1200) && decide ((p.stakes.length : Int) ≤ 20)
set_option maxRecDepth 100000 in
set_option maxHeartbeats 1500000 in
theorem few_any (c : Pc) (p : Pr) (N : Nat) (w : World) (hN : N ≤ w.heap.size) (h : PAt w N c p) : Calls Tryd.prog 17 #[.agg c.cells] w fun e w' => e = .returned (.bool (fewB p)) ∧ Ext w w' := by
  obtain ⟨cn, cse, ⟨sA, sn, sc⟩, cv, cs, ct, cpa, cpl, csi, cq, cpy⟩ := c
  obtain ⟨r, hr⟩ : ∃ r, r = fewB p := ⟨_, rfl⟩
  rw [← hr]
  have HR := Lib.hid (show r = (decide (w64 (psize p) ≤ 1200) && decide ((sn : Int) ≤ 20)) by rw [hr, fewB, ← h.stakes.1])
  clear hr
  have hx0 := (Kept.refl (fun _ => False) w).alloc (.cells (Pc.cells ⟨cn, cse, ⟨sA, sn, sc⟩, cv, cs, ct, cpa, cpl, csi, cq, cpy⟩) 26)
  have hB := Blk.new w 26 (Pc.cells ⟨cn, cse, ⟨sA, sn, sc⟩, cv, cs, ct, cpa, cpl, csi, cq, cpy⟩)
  go_enter Tryd.func17, Tryd.ntmps17
  go_upto_region 1 with (fail)
  have HP := Lib.hid (h.ext hx0 hN)
  have HNW := Lib.hid (Nat.le_trans hN hx0.size)
  generalize hW : (w.alloc (.cells (Pc.cells ⟨cn, cse, ⟨sA, sn, sc⟩, cv, cs, ct, cpa, cpl, csi, cq, cpy⟩) 26)) = W at hx0 hB HP HNW ⊢
  clear hW h
  have HX0 := Lib.hid hx0
  have HB := Lib.hid hB
  clear hx0 hB
  generalize w.heap.size = pb at HB ⊢
  have hc := Blk.cell HB.out
  have hl := HB.out.lt
  have hh := Blk.has HB.out
  have hg := Blk.gets HB.out
  go_wp2_with fail
  refine (rsize_any _ p N _ HNW.out HP.out).mono ?_
  rintro e w1 ⟨rfl, hx1⟩
  have hc1 := Blk.cell (Blk.ext HB.out hx1)
  have hl1 := (Blk.ext HB.out hx1).lt
  have HX1 := Lib.hid (HX0.out.trans hx1)
  clear hc hl hh hg hx1
  obtain ⟨z, hz⟩ : ∃ z, z = w64 (psize p) := ⟨_, rfl⟩
  rw [← hz] at HR ⊢
  clear hz
  by_cases h1 : z ≤ 1200
  · by_cases h2 : (sn : Int) ≤ 20
    · have HR1 := Lib.hid (show r = true by rw [HR.out, decide_eq_true h1, decide_eq_true h2]; rfl)
      go_wp2_with fail
      go_ret
      exact ⟨ret_bool HR1.out.symm, HX1.out⟩
    · have HR1 := Lib.hid (show r = false by rw [HR.out, decide_eq_true h1, decide_eq_false h2]; rfl)
      go_wp2_with fail
      go_ret
      exact ⟨ret_bool (by rw [HR1.out]; simp; omega), HX1.out⟩
  · have HR1 := Lib.hid (show r = false by rw [HR.out, decide_eq_false h1]; rfl)
    go_wp2_with fail
    go_ret
    exact ⟨ret_bool (by rw [HR1.out]), HX1.out⟩
set_option maxRecDepth 100000 in
set_option maxHeartbeats 1500000 in
theorem lcheck_any (c : Pc) (p : Pr) (N : Nat) (w : World) (hN : N ≤ w.heap.size) (h : PAt w N c p) (hL : LaidAt w) : Calls Tryd.prog 13 #[.agg c.cells] w fun e w' => e = .returned (.agg (fltC (check p))) ∧ Ext w w' := by
  obtain ⟨X, hX⟩ : ∃ X, X = check p := ⟨_, rfl⟩
  rw [← hX]
  have HX := Lib.hid hX
  clear hX
  have hx0 := ((Kept.refl (fun _ => False) w).alloc (.cells c.cells 26)).alloc (.cells #[.int .i64 0, .string ⟨#[]⟩] 38)
  have hB := (Blk.new w 26 c.cells).alloc (.cells #[.int .i64 0, .string ⟨#[]⟩] 38)
  have hF := Blk.new' (w.alloc (.cells c.cells 26)) 38 #[.int .i64 0, .string ⟨#[]⟩] (w.heap.size + 1) (by simp)
  go_enter Tryd.func13, Tryd.ntmps13
  go_upto_region 1 with (fail)
  have HP := Lib.hid (h.ext hx0 hN)
  have HNW := Lib.hid (Nat.le_trans hN hx0.size)
  have HL := Lib.hid (hL.ext hx0)
  generalize hW : ((w.alloc (.cells c.cells 26)).alloc (.cells #[.int .i64 0, .string ⟨#[]⟩] 38)) = W at hx0 hB hF HP HNW HL ⊢
  clear hW h hL
  have HX0 := Lib.hid hx0
  have HB := Lib.hid hB
  have HF := Lib.hid hF
  clear hx0 hB hF
  obtain ⟨rb, hrb⟩ : ∃ rb, rb = w.heap.size + 1 := ⟨_, rfl⟩
  rw [← hrb] at HF ⊢
  have HRB := Lib.hid (show w.heap.size ≤ rb by omega)
  clear hrb
  generalize w.heap.size = pb at HB ⊢
  have hc := Blk.cell HB.out
  have hl := HB.out.lt
  have hh := Blk.has HB.out
  have hg := Blk.gets HB.out
  go_wp2_with fail
  refine (of_any c p N _ HNW.out HP.out).mono ?_
  rintro e w1 ⟨hx1, c1, rfl, hp1⟩
  clear hc hl hh hg
  have HP1 := Lib.hid hp1
  have HX1 := Lib.hid hx1
  have HL1 := Lib.hid (HL.out.ext hx1)
  clear hp1 hx1
  go_wp2_with fail
  refine (scheck_any c1 p _ w1 HL1.out.lt (Nat.le_refl _) HP1.out HL1.out).mono ?_
  rintro e w2 ⟨rfl, hx2⟩
  have HX2 := Lib.hid (HX1.out.trans hx2)
  clear hx2
  rw [← HX.out]
  obtain ⟨fe, fn, hfx⟩ : ∃ fe fn, fltC X = #[.int .i64 fe, .string fn] := by cases X <;> exact ⟨_, _, rfl⟩
  rw [hfx]
  have HFX := Lib.hid hfx
  clear hfx
  have y0 := (Kept.refl (fun _ => False) w2).alloc (.cells #[.int .i64 fe, .string fn] 61)
  have hV := Blk.new w2 61 #[.int .i64 fe, .string fn]
  go_upto_region 2 with (fail)
  generalize (w2.alloc (.cells #[.int .i64 fe, .string fn] 61)) = W2 at y0 hV ⊢
  generalize w2.heap.size = vb at hV ⊢
  have HX3 := Lib.hid (HX2.out.trans y0)
  have hF := Blk.ext HF.out HX3.out
  have hcV := Blk.cell hV
  have hlV := hV.lt
  have hmF := hF.melts
  have hhF := Blk.has hF
  have hlF := hF.lt
  clear y0 hV
  go_wp2_with fail
  refine ret_cell Tryd.results13 rfl rfl aggFaultR (by exact sizeFaultR) (Blk.put_ hF _ _) ⟨?_, ?_⟩
  · rw [HFX.out]
    rfl
  · exact (HX0.out.trans HX3.out).putAt _ _ _ (fun hlt => absurd hlt (by have := HRB.out; omega))
abbrev smallC (n : Nat) : Pc := ⟨sG, 2, ⟨some ⟨n + 1 + 1, 0, none⟩, 2, 2⟩, ⟨some ⟨n + 1 + 1 + 1, 0, none⟩, 2, 2⟩, ⟨none, 0, 0⟩, ⟨some ⟨n + 1 + 1 + 1 + 1, 0, none⟩, 1, 1⟩, ⟨none, 0, 0⟩, ⟨none, 0, 0⟩, sW, ⟨none, 0, 0⟩, ⟨some ⟨n + 1 + 1 + 1 + 1 + 1 + 1, 0, none⟩, 1, 1⟩⟩
theorem ok64 {n : Int} (h : -10 ≤ n ∧ n ≤ 10) : i64ok n := by unfold i64ok; omega
theorem name_ok (s : Str) (h : s.size ≤ 10) : s.size ≤ maxLen := by unfold maxLen; omega
theorem small_at {w : World} {N n : Nat} {ti tv ts te : TypeId} (hN : n + 7 ≤ N) (h2 : Blk w (n + 1 + 1) ti #[.int .i64 1, .int .i64 1])
    (h3 : Blk w (n + 1 + 1 + 1) tv #[.string sA, .int .i64 0, .int .i64 0, .int .i64 1, .string sL, .int .i64 3, .int .i64 0, .int .i64 1])
    (h4 : Blk w (n + 1 + 1 + 1 + 1) ts (scells 7 E0 none 0 0 0 0 none 0 0 none 0 0)) (h5 : Blk w (n + 1 + 1 + 1 + 1 + 1) te (ecells 0 0 E0 none 0 0))
    (h6 : Blk w (n + 1 + 1 + 1 + 1 + 1 + 1) ts (scells 9 E0 (some ⟨n + 1 + 1 + 1 + 1 + 1, 0, none⟩) 1 1 0 0 none 0 0 none 0 0)) : PAt w N (smallC n) smallP := by
  refine ⟨rfl, name_ok _ (by decide), rfl, ok64 (by decide), ⟨rfl, show Fits 2 8 by unfold Fits; omega, ?_, n + 1 + 1, 0, fun _ => rfl, fun _ => ⟨by omega, Row.of_blk h2⟩⟩, ⟨rfl, show Fits 2 40 by unfold Fits; omega, ?_, n + 1 + 1 + 1, 0, fun _ => rfl, fun _ => ⟨by omega, Row.of_blk h3⟩⟩, SSl.nil _ _ _,
    sf_one (e := .nil) (l := .nil) (x := .nil) h4 (by omega) (ok64 (by decide)) (ok64 (by decide)) (ok64 (by decide)) (name_ok _ (by decide)) (ESl.nil _ _ _) (SSl.nil _ _ _) (SSl.nil _ _ _), VSl.nil _ _ _, SSl.nil _ _ _, rfl, name_ok _ (by decide), SSl.nil _ _ _,
    sf_one (e := e0F) (l := .nil) (x := .nil) h6 (by omega) (ok64 (by decide)) (ok64 (by decide)) (ok64 (by decide)) (name_ok _ (by decide)) (ef_one (k := .nil) h5 (by omega) (ok64 (by decide)) (ok64 (by decide)) (name_ok _ (by decide)) (ESl.nil _ _ _)) (SSl.nil _ _ _) (SSl.nil _ _ _)⟩
  · intro v hv
    have : v = 1 := by simpa [smallP] using hv
    subst this
    exact ok64 (by decide)
  · intro v hv
    have : v = ⟨sA, 0, 0, 1⟩ ∨ v = ⟨sL, 3, 0, 1⟩ := by simpa [smallP] using hv
    rcases this with rfl | rfl <;> exact ⟨name_ok _ (by decide), ok64 (by decide), ok64 (by decide), ok64 (by decide)⟩
set_option maxRecDepth 100000 in
set_option maxHeartbeats 1500000 in
theorem small_any (w : World) : Calls Tryd.prog 29 #[] w fun e w' => Ext w w' ∧ ∃ c : Pc, e = .returned (.agg c.cells) ∧ PAt w' w'.heap.size c smallP := by
  go_enter Tryd.func29, Tryd.ntmps29
  go_upto_region 2 with (fail)
  go_wp2_with fail
  obtain ⟨W, hW⟩ : ∃ W, W = ((((((w.alloc (.cells (smallC w.heap.size).cells 26)).alloc (.cells (ecells 0 0 E0 none 0 0) 36)).alloc (.cells #[.int .i64 1, .int .i64 1] 3)).alloc (.cells #[.string sA, .int .i64 0, .int .i64 0, .int .i64 1, .string sL, .int .i64 3, .int .i64 0, .int .i64 1] 29)).alloc (.cells (scells 7 E0 none 0 0 0 0 none 0 0 none 0 0) 34)).alloc (.cells (ecells 0 0 E0 none 0 0) 36)).alloc (.cells (scells 9 E0 (some ⟨w.heap.size + 1 + 1 + 1 + 1 + 1, 0, none⟩) 1 1 0 0 none 0 0 none 0 0) 34) := ⟨_, rfl⟩
  have hx : Ext w W := by rw [hW]; exact (((((((Kept.refl _ w).alloc _).alloc _).alloc _).alloc _).alloc _).alloc _).alloc _
  have b0 : Blk W w.heap.size 26 (smallC w.heap.size).cells := by rw [hW]; exact ((((((Blk.new w _ _).alloc _).alloc _).alloc _).alloc _).alloc _).alloc _
  have b2 : Blk W (w.heap.size + 1 + 1) 3 #[.int .i64 1, .int .i64 1] := by rw [hW]; exact ((((Blk.new' _ _ _ _ (by simp)).alloc _).alloc _).alloc _).alloc _
  have b3 : Blk W (w.heap.size + 1 + 1 + 1) 29 #[.string sA, .int .i64 0, .int .i64 0, .int .i64 1, .string sL, .int .i64 3, .int .i64 0, .int .i64 1] := by rw [hW]; exact (((Blk.new' _ _ _ _ (by simp)).alloc _).alloc _).alloc _
  have b4 : Blk W (w.heap.size + 1 + 1 + 1 + 1) 34 (scells 7 E0 none 0 0 0 0 none 0 0 none 0 0) := by rw [hW]; exact ((Blk.new' _ _ _ _ (by simp)).alloc _).alloc _
  have b5 : Blk W (w.heap.size + 1 + 1 + 1 + 1 + 1) 36 (ecells 0 0 E0 none 0 0) := by rw [hW]; exact (Blk.new' _ _ _ _ (by simp)).alloc _
  have b6 : Blk W (w.heap.size + 1 + 1 + 1 + 1 + 1 + 1) 34 (scells 9 E0 (some ⟨w.heap.size + 1 + 1 + 1 + 1 + 1, 0, none⟩) 1 1 0 0 none 0 0 none 0 0) := by rw [hW]; exact Blk.new' _ _ _ _ (by simp)
  have hsz : w.heap.size + 7 ≤ W.heap.size := by have := b6.lt; omega
  show bodyPost _ _ _ _ _ (((((((w.alloc (.cells (smallC w.heap.size).cells 26)).alloc (.cells (ecells 0 0 E0 none 0 0) 36)).alloc (.cells #[.int .i64 1, .int .i64 1] 3)).alloc (.cells #[.string sA, .int .i64 0, .int .i64 0, .int .i64 1, .string sL, .int .i64 3, .int .i64 0, .int .i64 1] 29)).alloc (.cells (scells 7 E0 none 0 0 0 0 none 0 0 none 0 0) 34)).alloc (.cells (ecells 0 0 E0 none 0 0) 36)).alloc (.cells (scells 9 E0 (some ⟨w.heap.size + 1 + 1 + 1 + 1 + 1, 0, none⟩) 1 1 0 0 none 0 0 none 0 0) 34))
  rw [← hW]
  exact ret_cell Tryd.results29 rfl rfl aggProgR (by exact sizeProgR) b0 ⟨hx, smallC w.heap.size, rfl, small_at hsz b2 b3 b4 b5 b6⟩
end Go.Proofs.YtfamkemdgbnegaaDoor

/- Sorts: the law's told. -/
namespace Go.Proofs.YtfamkemdgbnegaaDoor
open Go.RowKit So
section
variable {w : World} {N : Nat} {c : Pc} {p : Pr} {A : Option Addr} {n cap : Nat} {F : SF}
theorem PAt.setStart (h : PAt w N c p) (hT : SSl w N A n F) : PAt w N { c with start := ⟨A, n, cap⟩ } { p with start := F } := ⟨h.name, h.nameOk, h.seats, h.seatsOk, h.stakes, h.vars, hT, h.turn, h.params, h.play, h.silent, h.silentOk, h.quiet, h.pays⟩
theorem PAt.setTurn (h : PAt w N c p) (hT : SSl w N A n F) : PAt w N { c with turn := ⟨A, n, cap⟩ } { p with turn := F } := ⟨h.name, h.nameOk, h.seats, h.seatsOk, h.stakes, h.vars, h.start, hT, h.params, h.play, h.silent, h.silentOk, h.quiet, h.pays⟩
theorem PAt.setPlay (h : PAt w N c p) (hT : SSl w N A n F) : PAt w N { c with play := ⟨A, n, cap⟩ } { p with play := F } := ⟨h.name, h.nameOk, h.seats, h.seatsOk, h.stakes, h.vars, h.start, h.turn, h.params, hT, h.silent, h.silentOk, h.quiet, h.pays⟩
theorem PAt.setQuiet (h : PAt w N c p) (hT : SSl w N A n F) : PAt w N { c with quiet := ⟨A, n, cap⟩ } { p with quiet := F } := ⟨h.name, h.nameOk, h.seats, h.seatsOk, h.stakes, h.vars, h.start, h.turn, h.params, h.play, h.silent, h.silentOk, hT, h.pays⟩
theorem PAt.setPays (h : PAt w N c p) (hT : SSl w N A n F) : PAt w N { c with pays := ⟨A, n, cap⟩ } { p with pays := F } := ⟨h.name, h.nameOk, h.seats, h.seatsOk, h.stakes, h.vars, h.start, h.turn, h.params, h.play, h.silent, h.silentOk, h.quiet, hT⟩
theorem ESl.mono {M : Nat} {F : EF} (h : ESl w N A n F) (hM : N ≤ M) : ESl w M A n F := by
  obtain ⟨h1, h2, b, off, h3, h4⟩ := h
  exact ⟨h1, h2, b, off, h3, h4.mono hM⟩
theorem SSl.mono {M : Nat} (h : SSl w N A n F) (hM : N ≤ M) : SSl w M A n F := by
  obtain ⟨h1, h2, b, off, h3, h4⟩ := h
  exact ⟨h1, h2, b, off, h3, h4.mono hM⟩
theorem PAt.mono {M : Nat} (h : PAt w N c p) (hM : N ≤ M) : PAt w M c p := ⟨h.name, h.nameOk, h.seats, h.seatsOk, h.stakes.mono hM, h.vars.mono hM, h.start.mono hM, h.turn.mono hM, h.params.mono hM, h.play.mono hM, h.silent, h.silentOk, h.quiet.mono hM, h.pays.mono hM⟩
end
theorem meet2 {F M : World → Nat → Nat → Prop} {G : Prop} (h : (∀ W a b, F W a b → M W a b) → G) (h2 : ∀ W a b, F W a b → M W a b) : G := h h2
set_option maxRecDepth 100000 in
set_option maxHeartbeats 1500000 in
theorem told_any (w : World) (hL : LaidAt w) : Calls Tryd.prog 11 #[] w fun e w' => e = .returned (.bool true) ∧ Ext w w' := by
  go_enter Tryd.func11, Tryd.ntmps11
  go_wp2_with fail
  refine (small_any w).mono ?_
  rintro e w1 ⟨hx1, c, rfl, hp⟩
  obtain ⟨cn, cse, cst, cv, cs, ⟨tA, tn, tcap⟩, cpa, cpl, csi, cq, cpy⟩ := c
  obtain rfl : tn = smallT.len := hp.turn.1
  go_upto_region 2 with (fail)
  have y1 := (Kept.refl (fun _ => False) w1).alloc (.cells (Pc.cells ⟨cn, cse, cst, cv, cs, ⟨tA, smallT.len, tcap⟩, cpa, cpl, csi, cq, cpy⟩) 26)
  have hT := Blk.new w1 26 (Pc.cells ⟨cn, cse, cst, cv, cs, ⟨tA, smallT.len, tcap⟩, cpa, cpl, csi, cq, cpy⟩)
  have HP := Lib.hid (hp.ext y1 (Nat.le_refl _))
  have HX := Lib.hid (hx1.trans y1)
  generalize hW : (w1.alloc (.cells (Pc.cells ⟨cn, cse, cst, cv, cs, ⟨tA, smallT.len, tcap⟩, cpa, cpl, csi, cq, cpy⟩) 26)) = W at y1 hT HP HX ⊢
  have HN := Lib.hid (show w1.heap.size ≤ W.heap.size from y1.size)
  generalize w1.heap.size = tb at hT HP HN ⊢
  have HT := Lib.hid hT
  clear hW hp y1 hx1 hT
  apply meet2 (F := fun W2 a b => Ext W W2 ∧ Blk W2 a 26 (Pc.cells ⟨cn, cse, cst, cv, cs, ⟨tA, smallT.len, tcap⟩, cpa, cpl, csi, cq, cpy⟩) ∧ Blk W2 b 26 (Pc.cells ⟨cn, cse, cst, cv, cs, ⟨tA, smallT.len, tcap⟩, cpa, cpl, csi, cq, cpy⟩) ∧ W.heap.size ≤ a ∧ W.heap.size ≤ b ∧ ¬ a = b)
  case h =>
    intro KEY0
    have KEY := Lib.hid KEY0
    clear KEY0
    refine wp_region_4 (fun w1 => Ext W w1) (.op 0 1 (.op 1 1 (.fork 2 (.op 3 0 (.op 4 0 (.op 5 0 .nil))) 3 (.op 2 0 (.op 4 0 (.op 5 0 .nil)))))) (by kernel_rfl) (by kernel_rfl) (by kernel_rfl) (by kernel_rfl) ?_; intro p' hp'; simp only [Pl0.fill, List.getD_cons_zero, List.getD_cons_succ] at hp'; subst hp'
    have HY0 := Lib.hid (show Ext W W.drew from (Kept.refl _ W).drew)
    (repeat (first | ((apply w4_pure); (· go_simp); (· (intro w1; go_simp; try with_reducible rfl)); (intro K hK; go_simp; refine hK _ _ ?_; clear hK K)) | ((apply w4_skip); (· go_simp); (intro K hK; go_simp; refine hK _ _ ?_; clear hK K)) | ((apply w4_take); (· exact HY0.out); (· go_simp); (· (intro w1 hS; have d4 := Blk.ext HT.out hS; have d5 := Blk.has d4; have d6 := d4.lt; have d7 := Blk.gets d4;  go_simp; try with_reducible rfl)); (intro K hK; go_simp; refine hK _ _ ?_; clear hK K)) | ((apply w4_pass); (· exact HY0.out); (· go_simp); (intro K hK; go_simp; refine hK _ _ ?_; clear hK K))))
    refine w4_fork ?_ ?_
    · (refine w4_act (fun K hK => ?_); go_simp)
      have z1 : Ext W (W.alloc (.cells #[.string ⟨#[]⟩, .int .i64 0, .slice none 0 0, .slice none 0 0, .slice none 0 0, .slice none 0 0, .slice none 0 0, .slice none 0 0, .string ⟨#[]⟩, .slice none 0 0, .slice none 0 0] 26)).drew := ((Kept.refl _ W).alloc _).drew
      have q1 : Blk (W.alloc (.cells #[.string ⟨#[]⟩, .int .i64 0, .slice none 0 0, .slice none 0 0, .slice none 0 0, .slice none 0 0, .slice none 0 0, .slice none 0 0, .string ⟨#[]⟩, .slice none 0 0, .slice none 0 0] 26)).drew W.heap.size 26 #[.string ⟨#[]⟩, .int .i64 0, .slice none 0 0, .slice none 0 0, .slice none 0 0, .slice none 0 0, .slice none 0 0, .slice none 0 0, .string ⟨#[]⟩, .slice none 0 0, .slice none 0 0] := (Blk.new W _ _).drew
      refine hK.out _ _ (fun _ => z1) ?_
      clear hK K
      generalize (W.alloc (.cells #[.string ⟨#[]⟩, .int .i64 0, .slice none 0 0, .slice none 0 0, .slice none 0 0, .slice none 0 0, .slice none 0 0, .slice none 0 0, .string ⟨#[]⟩, .slice none 0 0, .slice none 0 0] 26)).drew = V1 at z1 q1 ⊢
      obtain ⟨u1, hu1⟩ : ∃ u1, u1 = W.heap.size := ⟨_, rfl⟩
      rw [← hu1] at q1 ⊢
      have n1 : W.heap.size ≤ u1 := by omega
      clear hu1
      (repeat (first | ((apply w4_pure); (· go_simp); (· (intro w1; go_simp; try with_reducible rfl)); (intro K hK; go_simp; refine hK _ _ ?_; clear hK K)) | ((apply w4_skip); (· go_simp); (intro K hK; go_simp; refine hK _ _ ?_; clear hK K))))
      (refine w4_act (fun K hK => ?_); go_simp)
      have z2 := z1.alloc (.cells #[.string ⟨#[]⟩, .int .i64 0, .slice none 0 0, .slice none 0 0, .slice none 0 0, .slice none 0 0, .slice none 0 0, .slice none 0 0, .string ⟨#[]⟩, .slice none 0 0, .slice none 0 0] 26)
      have q2 := Blk.new V1 26 #[.string ⟨#[]⟩, .int .i64 0, .slice none 0 0, .slice none 0 0, .slice none 0 0, .slice none 0 0, .slice none 0 0, .slice none 0 0, .string ⟨#[]⟩, .slice none 0 0, .slice none 0 0]
      have n2 : W.heap.size ≤ V1.heap.size := z1.size
      have n3 : ¬ u1 = V1.heap.size := fun e => by have := q1.lt; omega
      have q1 := q1.alloc (.cells #[.string ⟨#[]⟩, .int .i64 0, .slice none 0 0, .slice none 0 0, .slice none 0 0, .slice none 0 0, .slice none 0 0, .slice none 0 0, .string ⟨#[]⟩, .slice none 0 0, .slice none 0 0] 26)
      refine hK.out _ _ (fun _ => z2) ?_
      clear hK K
      generalize (V1.alloc (.cells #[.string ⟨#[]⟩, .int .i64 0, .slice none 0 0, .slice none 0 0, .slice none 0 0, .slice none 0 0, .slice none 0 0, .slice none 0 0, .string ⟨#[]⟩, .slice none 0 0, .slice none 0 0] 26)) = V2 at z1 q1 q2 z2 ⊢
      generalize V1.heap.size = u2 at q2 n2 n3 ⊢
      clear z1
      have m1 := q1.melts
      have h1 := Blk.has q1
      have l1 := q1.lt
      (repeat (first | ((apply w4_pure); (· go_simp); (· (intro w1; go_simp; try with_reducible rfl)); (intro K hK; go_simp; refine hK _ _ ?_; clear hK K)) | ((apply w4_skip); (· go_simp); (intro K hK; go_simp; refine hK _ _ ?_; clear hK K))))
      (refine w4_act (fun K hK => ?_); go_simp)
      have z3 := z2.putAt u1 0 (Pc.cells ⟨cn, cse, cst, cv, cs, ⟨tA, smallT.len, tcap⟩, cpa, cpl, csi, cq, cpy⟩) (fun hlt => absurd hlt (by omega))
      have r1 : Blk (putAt V2 u1 0 (Pc.cells ⟨cn, cse, cst, cv, cs, ⟨tA, smallT.len, tcap⟩, cpa, cpl, csi, cq, cpy⟩)) u1 26 (Pc.cells ⟨cn, cse, cst, cv, cs, ⟨tA, smallT.len, tcap⟩, cpa, cpl, csi, cq, cpy⟩) := Blk.put_ q1 0 _
      have r2 : Blk (putAt V2 u1 0 (Pc.cells ⟨cn, cse, cst, cv, cs, ⟨tA, smallT.len, tcap⟩, cpa, cpl, csi, cq, cpy⟩)) u2 26 #[.string ⟨#[]⟩, .int .i64 0, .slice none 0 0, .slice none 0 0, .slice none 0 0, .slice none 0 0, .slice none 0 0, .slice none 0 0, .string ⟨#[]⟩, .slice none 0 0, .slice none 0 0] := Blk.putFar q2 (by omega) _ _
      refine hK.out _ _ (fun _ => z3) ?_
      clear hK K m1 h1 l1 z2 q1 q2
      generalize putAt V2 u1 0 (Pc.cells ⟨cn, cse, cst, cv, cs, ⟨tA, smallT.len, tcap⟩, cpa, cpl, csi, cq, cpy⟩) = V3 at z3 r1 r2 ⊢
      have m1 := r2.melts
      have h1 := Blk.has r2
      have l1 := r2.lt
      (repeat (first | ((apply w4_pure); (· go_simp); (· (intro w1; go_simp; try with_reducible rfl)); (intro K hK; go_simp; refine hK _ _ ?_; clear hK K)) | ((apply w4_skip); (· go_simp); (intro K hK; go_simp; refine hK _ _ ?_; clear hK K))))
      (refine w4_act (fun K hK => ?_); go_simp)
      have z4 := z3.putAt u2 0 (Pc.cells ⟨cn, cse, cst, cv, cs, ⟨tA, smallT.len, tcap⟩, cpa, cpl, csi, cq, cpy⟩) (fun hlt => absurd hlt (by omega))
      have s2 : Blk (putAt V3 u2 0 (Pc.cells ⟨cn, cse, cst, cv, cs, ⟨tA, smallT.len, tcap⟩, cpa, cpl, csi, cq, cpy⟩)) u2 26 (Pc.cells ⟨cn, cse, cst, cv, cs, ⟨tA, smallT.len, tcap⟩, cpa, cpl, csi, cq, cpy⟩) := Blk.put_ r2 0 _
      have s1 : Blk (putAt V3 u2 0 (Pc.cells ⟨cn, cse, cst, cv, cs, ⟨tA, smallT.len, tcap⟩, cpa, cpl, csi, cq, cpy⟩)) u1 26 (Pc.cells ⟨cn, cse, cst, cv, cs, ⟨tA, smallT.len, tcap⟩, cpa, cpl, csi, cq, cpy⟩) := Blk.putFar r1 (by omega) _ _
      refine hK.out _ _ (fun _ => z4) ?_
      clear hK K m1 h1 l1 z3 r1 r2
      generalize putAt V3 u2 0 (Pc.cells ⟨cn, cse, cst, cv, cs, ⟨tA, smallT.len, tcap⟩, cpa, cpl, csi, cq, cpy⟩) = V4 at z4 s1 s2 ⊢
      (repeat (first | ((apply w4_pure); (· go_simp); (· (intro w1; go_simp; try with_reducible rfl)); (intro K hK; go_simp; refine hK _ _ ?_; clear hK K)) | ((apply w4_skip); (· go_simp); (intro K hK; go_simp; refine hK _ _ ?_; clear hK K)) | (refine w4_end (by kernel_rfl) (fun K hK => ?_); go_simp; refine hK.out _ _ ?_; clear hK K))); refine w4_nil ?_
      exact KEY.out _ _ _ ⟨z4, s1, s2, by omega, by omega, by omega⟩
    · (refine w4_act (fun K hK => ?_); go_simp)
      have z1 : Ext W (W.alloc (.cells #[.string ⟨#[]⟩, .int .i64 0, .slice none 0 0, .slice none 0 0, .slice none 0 0, .slice none 0 0, .slice none 0 0, .slice none 0 0, .string ⟨#[]⟩, .slice none 0 0, .slice none 0 0] 26)).drew := ((Kept.refl _ W).alloc _).drew
      have q1 : Blk (W.alloc (.cells #[.string ⟨#[]⟩, .int .i64 0, .slice none 0 0, .slice none 0 0, .slice none 0 0, .slice none 0 0, .slice none 0 0, .slice none 0 0, .string ⟨#[]⟩, .slice none 0 0, .slice none 0 0] 26)).drew W.heap.size 26 #[.string ⟨#[]⟩, .int .i64 0, .slice none 0 0, .slice none 0 0, .slice none 0 0, .slice none 0 0, .slice none 0 0, .slice none 0 0, .string ⟨#[]⟩, .slice none 0 0, .slice none 0 0] := (Blk.new W _ _).drew
      refine hK.out _ _ (fun _ => z1) ?_
      clear hK K
      generalize (W.alloc (.cells #[.string ⟨#[]⟩, .int .i64 0, .slice none 0 0, .slice none 0 0, .slice none 0 0, .slice none 0 0, .slice none 0 0, .slice none 0 0, .string ⟨#[]⟩, .slice none 0 0, .slice none 0 0] 26)).drew = V1 at z1 q1 ⊢
      obtain ⟨u1, hu1⟩ : ∃ u1, u1 = W.heap.size := ⟨_, rfl⟩
      rw [← hu1] at q1 ⊢
      have n1 : W.heap.size ≤ u1 := by omega
      clear hu1
      (repeat (first | ((apply w4_pure); (· go_simp); (· (intro w1; go_simp; try with_reducible rfl)); (intro K hK; go_simp; refine hK _ _ ?_; clear hK K)) | ((apply w4_skip); (· go_simp); (intro K hK; go_simp; refine hK _ _ ?_; clear hK K))))
      (refine w4_act (fun K hK => ?_); go_simp)
      have z2 := z1.alloc (.cells #[.string ⟨#[]⟩, .int .i64 0, .slice none 0 0, .slice none 0 0, .slice none 0 0, .slice none 0 0, .slice none 0 0, .slice none 0 0, .string ⟨#[]⟩, .slice none 0 0, .slice none 0 0] 26)
      have q2 := Blk.new V1 26 #[.string ⟨#[]⟩, .int .i64 0, .slice none 0 0, .slice none 0 0, .slice none 0 0, .slice none 0 0, .slice none 0 0, .slice none 0 0, .string ⟨#[]⟩, .slice none 0 0, .slice none 0 0]
      have n2 : W.heap.size ≤ V1.heap.size := z1.size
      have n3 : ¬ u1 = V1.heap.size := fun e => by have := q1.lt; omega
      have q1 := q1.alloc (.cells #[.string ⟨#[]⟩, .int .i64 0, .slice none 0 0, .slice none 0 0, .slice none 0 0, .slice none 0 0, .slice none 0 0, .slice none 0 0, .string ⟨#[]⟩, .slice none 0 0, .slice none 0 0] 26)
      refine hK.out _ _ (fun _ => z2) ?_
      clear hK K
      generalize (V1.alloc (.cells #[.string ⟨#[]⟩, .int .i64 0, .slice none 0 0, .slice none 0 0, .slice none 0 0, .slice none 0 0, .slice none 0 0, .slice none 0 0, .string ⟨#[]⟩, .slice none 0 0, .slice none 0 0] 26)) = V2 at z1 q1 q2 z2 ⊢
      generalize V1.heap.size = u2 at q2 n2 n3 ⊢
      clear z1
      have m1 := q2.melts
      have h1 := Blk.has q2
      have l1 := q2.lt
      (repeat (first | ((apply w4_pure); (· go_simp); (· (intro w1; go_simp; try with_reducible rfl)); (intro K hK; go_simp; refine hK _ _ ?_; clear hK K)) | ((apply w4_skip); (· go_simp); (intro K hK; go_simp; refine hK _ _ ?_; clear hK K))))
      (refine w4_act (fun K hK => ?_); go_simp)
      have z3 := z2.putAt u2 0 (Pc.cells ⟨cn, cse, cst, cv, cs, ⟨tA, smallT.len, tcap⟩, cpa, cpl, csi, cq, cpy⟩) (fun hlt => absurd hlt (by omega))
      have r1 : Blk (putAt V2 u2 0 (Pc.cells ⟨cn, cse, cst, cv, cs, ⟨tA, smallT.len, tcap⟩, cpa, cpl, csi, cq, cpy⟩)) u2 26 (Pc.cells ⟨cn, cse, cst, cv, cs, ⟨tA, smallT.len, tcap⟩, cpa, cpl, csi, cq, cpy⟩) := Blk.put_ q2 0 _
      have r2 : Blk (putAt V2 u2 0 (Pc.cells ⟨cn, cse, cst, cv, cs, ⟨tA, smallT.len, tcap⟩, cpa, cpl, csi, cq, cpy⟩)) u1 26 #[.string ⟨#[]⟩, .int .i64 0, .slice none 0 0, .slice none 0 0, .slice none 0 0, .slice none 0 0, .slice none 0 0, .slice none 0 0, .string ⟨#[]⟩, .slice none 0 0, .slice none 0 0] := Blk.putFar q1 (by omega) _ _
      refine hK.out _ _ (fun _ => z3) ?_
      clear hK K m1 h1 l1 z2 q1 q2
      generalize putAt V2 u2 0 (Pc.cells ⟨cn, cse, cst, cv, cs, ⟨tA, smallT.len, tcap⟩, cpa, cpl, csi, cq, cpy⟩) = V3 at z3 r1 r2 ⊢
      have m1 := r2.melts
      have h1 := Blk.has r2
      have l1 := r2.lt
      (repeat (first | ((apply w4_pure); (· go_simp); (· (intro w1; go_simp; try with_reducible rfl)); (intro K hK; go_simp; refine hK _ _ ?_; clear hK K)) | ((apply w4_skip); (· go_simp); (intro K hK; go_simp; refine hK _ _ ?_; clear hK K))))
      (refine w4_act (fun K hK => ?_); go_simp)
      have z4 := z3.putAt u1 0 (Pc.cells ⟨cn, cse, cst, cv, cs, ⟨tA, smallT.len, tcap⟩, cpa, cpl, csi, cq, cpy⟩) (fun hlt => absurd hlt (by omega))
      have s2 : Blk (putAt V3 u1 0 (Pc.cells ⟨cn, cse, cst, cv, cs, ⟨tA, smallT.len, tcap⟩, cpa, cpl, csi, cq, cpy⟩)) u1 26 (Pc.cells ⟨cn, cse, cst, cv, cs, ⟨tA, smallT.len, tcap⟩, cpa, cpl, csi, cq, cpy⟩) := Blk.put_ r2 0 _
      have s1 : Blk (putAt V3 u1 0 (Pc.cells ⟨cn, cse, cst, cv, cs, ⟨tA, smallT.len, tcap⟩, cpa, cpl, csi, cq, cpy⟩)) u2 26 (Pc.cells ⟨cn, cse, cst, cv, cs, ⟨tA, smallT.len, tcap⟩, cpa, cpl, csi, cq, cpy⟩) := Blk.putFar r1 (by omega) _ _
      refine hK.out _ _ (fun _ => z4) ?_
      clear hK K m1 h1 l1 z3 r1 r2
      generalize putAt V3 u1 0 (Pc.cells ⟨cn, cse, cst, cv, cs, ⟨tA, smallT.len, tcap⟩, cpa, cpl, csi, cq, cpy⟩) = V4 at z4 s1 s2 ⊢
      (repeat (first | ((apply w4_pure); (· go_simp); (· (intro w1; go_simp; try with_reducible rfl)); (intro K hK; go_simp; refine hK _ _ ?_; clear hK K)) | ((apply w4_skip); (· go_simp); (intro K hK; go_simp; refine hK _ _ ?_; clear hK K)) | (refine w4_end (by kernel_rfl) (fun K hK => ?_); go_simp; refine hK.out _ _ ?_; clear hK K))); refine w4_nil ?_
      exact KEY.out _ _ _ ⟨z4, s1, s2, by omega, by omega, by omega⟩
  case h2 =>
    rintro W2 a b ⟨hx2, hA, hB, na, nb, nab⟩
    have HX2 := Lib.hid hx2
    have HA := Lib.hid hA
    have HB := Lib.hid hB
    have hcT := Blk.cell (Blk.ext HT.out hx2)
    have hlT := (Blk.ext HT.out hx2).lt
    have hcA := Blk.cell hA
    have hzA := Blk.frozen hA
    have hlA := hA.lt
    clear hx2 hA hB
    go_upto_region 4 with (fail)
    have hT2 := Lib.hid (Blk.ext HT.out HX2.out)
    have HP2 := Lib.hid (HP.out.ext HX2.out HN.out)
    clear hcT hlT hcA hzA hlA
    obtain ⟨k, hk⟩ : ∃ k, k = W2.heap.size := ⟨_, rfl⟩
    have HKW := Lib.hid (show W.heap.size ≤ k from hk ▸ HX2.out.size)
    rw [← hk]
    obtain ⟨M3, hM3⟩ : ∃ M, M = ((W2.setCell ⟨a, 5, none⟩ (.slice (some ⟨k + 1, 0, none⟩) 1 1)).alloc (.cells (ecells 0 0 E0 none 0 0) 36)).alloc (.cells (scells 2 E0 (some ⟨k, 0, none⟩) 1 1 0 0 tA smallT.len tcap none 0 0) 34) := ⟨_, rfl⟩
    have hk3 : Kept (· = a) W2 M3 := by rw [hM3]; exact ((((Kept.refl (· = a) W2).setCell ⟨a, 5, none⟩ _ (fun _ => rfl)).alloc _).alloc _)
    have hE : Blk M3 k 36 (ecells 0 0 E0 none 0 0) := by rw [hM3]; exact (Blk.new' _ _ _ _ (by simp [hk])).alloc _
    have hS : Blk M3 (k + 1) 34 (scells 2 E0 (some ⟨k, 0, none⟩) 1 1 0 0 tA smallT.len tcap none 0 0) := by rw [hM3]; exact Blk.new' _ _ _ _ (by simp [hk])
    have hA3 : Blk M3 a 26 (Pc.cells (⟨cn, cse, cst, cv, cs, ⟨some ⟨k + 1, 0, none⟩, 1, 1⟩, cpa, cpl, csi, cq, cpy⟩ : Pc)) := by rw [hM3]; exact ((Blk.set_ HA.out 5 _).alloc _).alloc _
    have hB3 : Blk M3 b 26 (Pc.cells (⟨cn, cse, cst, cv, cs, ⟨tA, smallT.len, tcap⟩, cpa, cpl, csi, cq, cpy⟩ : Pc)) := Blk.kept HB.out hk3 (fun e => nab e.symm)
    have hT3 : Blk M3 tb 26 (Pc.cells (⟨cn, cse, cst, cv, cs, ⟨tA, smallT.len, tcap⟩, cpa, cpl, csi, cq, cpy⟩ : Pc)) := Blk.kept hT2.out hk3 (fun e => by have := HT.out.lt; omega)
    have hN3 : k + 2 ≤ M3.heap.size := by have := hS.lt; omega
    have hP3 : PAt M3 (k + 2) (⟨cn, cse, cst, cv, cs, ⟨tA, smallT.len, tcap⟩, cpa, cpl, csi, cq, cpy⟩ : Pc) smallP := (HP2.out.kept hk3 (by have := HN.out; have := HX2.out.size; omega) (fun i e => by have := HN.out; omega)).mono (by have := HN.out; have := HKW.out; omega)
    have HPA := Lib.hid (show PAt M3 (k + 2) (⟨cn, cse, cst, cv, cs, ⟨some ⟨k + 1, 0, none⟩, 1, 1⟩, cpa, cpl, csi, cq, cpy⟩ : Pc) toldA from hP3.setTurn (sf_one (e := e0F) (l := smallT) (x := .nil) hS (by omega) (ok64 (by decide)) (ok64 (by decide)) (ok64 (by decide)) (name_ok _ (by decide)) (ef_one (k := .nil) hE (by omega) (ok64 (by decide)) (ok64 (by decide)) (name_ok _ (by decide)) (ESl.nil _ _ _)) hP3.turn (SSl.nil _ _ _)))
    show Code.wp _ _ _ _ (((W2.setCell ⟨a, 5, none⟩ (.slice (some ⟨k + 1, 0, none⟩) 1 1)).alloc (.cells (ecells 0 0 E0 none 0 0) 36)).alloc (.cells (scells 2 E0 (some ⟨k, 0, none⟩) 1 1 0 0 tA smallT.len tcap none 0 0) 34))
    rw [← hM3]
    have HK3 := Lib.hid hk3
    have HS3 := Lib.hid hS
    have HE3 := Lib.hid hE
    have HBK := Lib.hid (show b < k from hk ▸ HB.out.lt)
    have HA3 := Lib.hid hA3
    have HB3 := Lib.hid hB3
    have HT3 := Lib.hid hT3
    have HP3 := Lib.hid hP3
    have HN3 := Lib.hid hN3
    clear hM3 hk hk3 hE hS hA3 hB3 hT3 hP3 hN3
    have hcB := Blk.cell HB3.out
    have hzB := Blk.frozen HB3.out
    have hlB := HB3.out.lt
    go_upto_region 5 with (fail)
    clear hcB hzB hlB
    obtain ⟨m, hm⟩ : ∃ m, m = M3.heap.size := ⟨_, rfl⟩
    rw [← hm]
    obtain ⟨M4, hM4⟩ : ∃ M, M = ((M3.setCell ⟨b, 4, none⟩ (.slice (some ⟨m + 1, 0, none⟩) 1 1)).alloc (.cells (ecells 0 0 E0 none 0 0) 36)).alloc (.cells (scells 0 sL (some ⟨m, 0, none⟩) 1 1 0 0 none 0 0 none 0 0) 34) := ⟨_, rfl⟩
    have hk4 : Kept (· = b) M3 M4 := by rw [hM4]; exact ((((Kept.refl (· = b) M3).setCell ⟨b, 4, none⟩ _ (fun _ => rfl)).alloc _).alloc _)
    have hE : Blk M4 m 36 (ecells 0 0 E0 none 0 0) := by rw [hM4]; exact (Blk.new' _ _ _ _ (by simp [hm])).alloc _
    have hS : Blk M4 (m + 1) 34 (scells 0 sL (some ⟨m, 0, none⟩) 1 1 0 0 none 0 0 none 0 0) := by rw [hM4]; exact Blk.new' _ _ _ _ (by simp [hm])
    have hB4 : Blk M4 b 26 (Pc.cells (⟨cn, cse, cst, cv, ⟨some ⟨m + 1, 0, none⟩, 1, 1⟩, ⟨tA, smallT.len, tcap⟩, cpa, cpl, csi, cq, cpy⟩ : Pc)) := by rw [hM4]; exact ((Blk.set_ HB3.out 4 _).alloc _).alloc _
    have hA4 : Blk M4 a 26 (Pc.cells (⟨cn, cse, cst, cv, cs, ⟨some ⟨k + 1, 0, none⟩, 1, 1⟩, cpa, cpl, csi, cq, cpy⟩ : Pc)) := Blk.kept HA3.out hk4 nab
    have hT4 : Blk M4 tb 26 (Pc.cells (⟨cn, cse, cst, cv, cs, ⟨tA, smallT.len, tcap⟩, cpa, cpl, csi, cq, cpy⟩ : Pc)) := Blk.kept HT3.out hk4 (fun e => by have := HT.out.lt; omega)
    have hkm : k + 2 ≤ m := hm ▸ HN3.out
    have hN4 : m + 2 ≤ M4.heap.size := by have := hS.lt; omega
    have hd : ∀ i, i = b → tb ≤ i := fun i e => by have := HN.out; omega
    have hP4 : PAt M4 tb (⟨cn, cse, cst, cv, cs, ⟨tA, smallT.len, tcap⟩, cpa, cpl, csi, cq, cpy⟩ : Pc) smallP := ((HP2.out.kept HK3.out (by have := HN.out; have := HX2.out.size; omega) (fun i e => by have := HN.out; omega)).kept hk4 (by have := HN.out; have := HKW.out; omega) hd)
    have hPA4 : PAt M4 (m + 2) (⟨cn, cse, cst, cv, cs, ⟨some ⟨k + 1, 0, none⟩, 1, 1⟩, cpa, cpl, csi, cq, cpy⟩ : Pc) toldA := by
      have q1 : SSl M4 (k + 2) (some ⟨k + 1, 0, none⟩) 1 toldA.turn := sf_one (e := e0F) (l := smallT) (x := .nil) (Blk.kept HS3.out hk4 (fun e => by have := HBK.out; omega)) (by omega) (ok64 (by decide)) (ok64 (by decide)) (ok64 (by decide)) (name_ok _ (by decide)) (ef_one (k := .nil) (Blk.kept HE3.out hk4 (fun e => by have := HBK.out; omega)) (by omega) (ok64 (by decide)) (ok64 (by decide)) (name_ok _ (by decide)) (ESl.nil _ _ _)) (hP4.turn.mono (by have := HN.out; have := HKW.out; omega)) (SSl.nil _ _ _)
      exact (hP4.mono (show tb ≤ m + 2 by have := HN.out; have := HKW.out; omega)).setTurn (q1.mono (by omega))
    have hPB4 : PAt M4 (m + 2) (⟨cn, cse, cst, cv, ⟨some ⟨m + 1, 0, none⟩, 1, 1⟩, ⟨tA, smallT.len, tcap⟩, cpa, cpl, csi, cq, cpy⟩ : Pc) toldB := (hP4.mono (show tb ≤ m + 2 by have := HN.out; have := HKW.out; omega)).setStart (sf_one (e := e0F) (l := .nil) (x := .nil) hS (by omega) (ok64 (by decide)) (ok64 (by decide)) (ok64 (by decide)) (name_ok _ (by decide)) (ef_one (k := .nil) hE (by omega) (ok64 (by decide)) (ok64 (by decide)) (name_ok _ (by decide)) (ESl.nil _ _ _)) (SSl.nil _ _ _) (SSl.nil _ _ _))
    have hXM : Ext W M4 := (HX2.out.trans' HK3.out (fun i hi e => by omega)).trans' hk4 (fun i hi e => by omega)
    show Code.wp _ _ _ _ (((M3.setCell ⟨b, 4, none⟩ (.slice (some ⟨m + 1, 0, none⟩) 1 1)).alloc (.cells (ecells 0 0 E0 none 0 0) 36)).alloc (.cells (scells 0 sL (some ⟨m, 0, none⟩) 1 1 0 0 none 0 0 none 0 0) 34))
    rw [← hM4]
    have HA4 := Lib.hid hA4
    have HB4 := Lib.hid hB4
    have HT4 := Lib.hid hT4
    have HPA4 := Lib.hid hPA4
    have HPB4 := Lib.hid hPB4
    have HP4 := Lib.hid (hP4.mono (show tb ≤ m + 2 by have := HN.out; have := HKW.out; omega))
    have HN4 := Lib.hid hN4
    have HL4 := Lib.hid ((hL.ext HX.out).ext hXM)
    have HX4 := Lib.hid (HX.out.trans hXM)
    clear hM4 hm hk4 hE hS hA4 hB4 hT4 hP4 hN4 hPA4 hPB4 hXM hd hkm HPA HA3 HB3 HT3 HP3 HN3 HK3 HP2 hT2 HX2 HX HA HB HT HN HP na nb HS3 HE3 HBK HKW
    have hhT := Blk.has HT4.out
    have hgT := Blk.gets HT4.out
    have hlT := HT4.out.lt
    go_wp2_with fail
    refine (lcheck_any (⟨cn, cse, cst, cv, cs, ⟨tA, smallT.len, tcap⟩, cpa, cpl, csi, cq, cpy⟩ : Pc) smallP (m + 2) _ HN4.out HP4.out HL4.out).mono ?_
    rintro e w5 ⟨rfl, hx5⟩
    rw [small_ok]
    have HX5 := Lib.hid hx5
    have hhA := Blk.has (Blk.ext HA4.out hx5)
    have hgA := Blk.gets (Blk.ext HA4.out hx5)
    have hlA := (Blk.ext HA4.out hx5).lt
    clear hhT hgT hlT hx5
    go_wp2_with fail
    refine (lcheck_any (⟨cn, cse, cst, cv, cs, ⟨some ⟨k + 1, 0, none⟩, 1, 1⟩, cpa, cpl, csi, cq, cpy⟩ : Pc) toldA (m + 2) _ (Nat.le_trans HN4.out HX5.out.size) (HPA4.out.ext HX5.out HN4.out) (HL4.out.ext HX5.out)).mono ?_
    rintro e w6 ⟨rfl, hx6⟩
    rw [toldA_ok]
    have HX6 := Lib.hid (HX5.out.trans hx6)
    have hhB := Blk.has (Blk.ext HB4.out HX6.out)
    have hgB := Blk.gets (Blk.ext HB4.out HX6.out)
    have hlB := (Blk.ext HB4.out HX6.out).lt
    clear hhA hgA hlA hx6 HX5
    go_wp2_with fail
    refine (lcheck_any (⟨cn, cse, cst, cv, ⟨some ⟨m + 1, 0, none⟩, 1, 1⟩, ⟨tA, smallT.len, tcap⟩, cpa, cpl, csi, cq, cpy⟩ : Pc) toldB (m + 2) _ (Nat.le_trans HN4.out HX6.out.size) (HPB4.out.ext HX6.out HN4.out) (HL4.out.ext HX6.out)).mono ?_
    rintro e w7 ⟨rfl, hx7⟩
    rw [toldB_ok]
    have HX7 := Lib.hid (HX6.out.trans hx7)
    have hhT := Blk.has (Blk.ext HT4.out HX7.out)
    have hgT := Blk.gets (Blk.ext HT4.out HX7.out)
    have hlT := (Blk.ext HT4.out HX7.out).lt
    clear hhB hgB hlB hx7 HX6
    go_wp2_with fail
    refine (of_any (⟨cn, cse, cst, cv, cs, ⟨tA, smallT.len, tcap⟩, cpa, cpl, csi, cq, cpy⟩ : Pc) smallP (m + 2) _ (Nat.le_trans HN4.out HX7.out.size) (HP4.out.ext HX7.out HN4.out)).mono ?_
    rintro e w8 ⟨hx8, c8, rfl, hp8⟩
    have HX8 := Lib.hid (HX7.out.trans hx8)
    have HP8 := Lib.hid hp8
    clear hhT hgT hlT hx8 hp8 HX7
    go_wp2_with fail
    refine (scells_any c8 smallP _ w8 (Nat.le_refl _) HP8.out).mono ?_
    rintro e w9 ⟨rfl, hx9⟩
    rw [small_cells]
    go_wp2_with fail
    go_ret
    exact ⟨rfl, HX4.out.trans (HX8.out.trans hx9)⟩
end Go.Proofs.YtfamkemdgbnegaaDoor

/- Sorts: what came in, opened: whole programs, as trees; and the tables that the program's text lays. -/
namespace Go.Proofs.YtfamkemdgbnegaaDoor
open Go.RowKit Go.Deep Go.ChangeShapes Go.WideShapes So
section
variable {H : Type} {enc : TypeId × Value → H} {P : Program} {w : World} {base : Nat} {held : Bool}
/-- no string, slice or map of it takes more than there is -/
def light (P : Program) (t : TypeId) (d : DataW H) : Prop := (d.weights P t).all (· ≤ reachBytes) = true
theorem light_all {E : TypeId} : ∀ {l : List (DataW H)} (_ : (DataW.weightsAll P E l).all (· ≤ reachBytes) = true), ∀ d ∈ l, light P E d
  | [], _, d, hd => absurd hd (by simp)
  | x :: l, h, d, hd => by
    rw [DataW.weightsAll, List.all_append, Bool.and_eq_true] at h
    rcases List.mem_cons.1 hd with rfl | hd
    · exact h.1
    · exact light_all h.2 d hd
theorem light_each : ∀ {ts : List TypeId} {l : List (DataW H)} (_ : (DataW.weightsEach P ts l).all (· ≤ reachBytes) = true) (i : Nat) (t : TypeId) (d : DataW H), ts[i]? = some t → l[i]? = some d → light P t d
  | [], _, _, i, _, _, ht, _ => absurd ht (by simp)
  | _ :: _, [], _, i, _, _, _, hd => absurd hd (by simp)
  | t :: ts, x :: l, h, i, t', d, ht, hd => by
    rw [DataW.weightsEach, List.all_append, Bool.and_eq_true] at h
    cases i with
    | zero =>
      simp only [List.getElem?_cons_zero, Option.some.injEq] at ht hd
      subst ht hd
      exact h.1
    | succ i => exact light_each h.2 i t' d (by simpa using ht) (by simpa using hd)
/-- a slice that came in -/
theorem open_rows2 {T E : TypeId} {sz fuel : Nat} {v : Value} {d : DataW H} {ps : List MemPlace} (hu : P.underlying T = some (.slice E)) (hsz : P.cellsOf E = sz) (hpos : 0 < sz) (h : DataW.trod enc P w base (fun _ => true) held fuel T [v] = some (d, ps)) (hw : light P T d) :
    ∃ (A : Option Addr) (b off len cap : Nat) (css : List (List Value)), v = .slice A len cap ∧ (0 < len → A = some ⟨b, off, none⟩) ∧ css.length = len ∧ (0 < len → Row w b off css.flatten) ∧
      (∀ cs ∈ css, cs.length = sz ∧ ∃ n d' ps', n < fuel ∧ DataW.trod enc P w base (fun _ => true) held n E cs = some (d', ps') ∧ light P E d') ∧ len * P.bytesOf E ≤ reachBytes := by
  rcases DataW.trod_slice hu h with ⟨hcs, _⟩ | ⟨a, len, cap, elems, rest, n, hfu, hcs, hx, _, hl, hm, hlen, hel, hsp, _⟩
  · simp at hcs
    exact ⟨none, 0, 0, 0, 0, [], hcs, fun h => by omega, rfl, fun h => by omega, fun _ h => by simp at h, by omega⟩
  · simp at hcs
    obtain ⟨hd, -⟩ := Prod.mk.inj hx
    subst hd
    unfold light at hw
    rw [DataW.weights] at hw
    simp only [hu, List.all_cons, List.all_append, Bool.and_eq_true, decide_eq_true_eq, List.length_map] at hw
    obtain ⟨hw1, hw2, -⟩ := hw
    have hla := light_all hw2
    rw [hsz] at hel
    have hch : ∀ i, ∃ cs, i < len → cs.length = sz ∧ (∃ n d' ps', n < fuel ∧ DataW.trod enc P w base (fun _ => true) held n E cs = some (d', ps') ∧ light P E d') ∧ ∀ j, j < sz → w.cell? ((a.add (i * sz)).add j) = cs[j]? := fun i => by
      by_cases hil : i < len
      · have he := hel i hil
        rw [List.getElem?_eq_getElem (by omega), Option.bind_eq_some_iff] at he
        obtain ⟨cs, hc, ht⟩ := he
        obtain ⟨_, hcl, hat⟩ := World.cells?_some hc
        exact ⟨cs, fun _ => ⟨hcl, ⟨n, elems[i].1, elems[i].2, by omega, ht, hla _ (List.mem_map.2 ⟨elems[i], List.getElem_mem _, rfl⟩)⟩, hat⟩⟩
      · exact ⟨[], fun h => absurd h hil⟩
    obtain ⟨C, hC⟩ := Classical.axiomOfChoice hch
    have hsp : 0 < len → a = ⟨a.block, a.off, none⟩ := fun h0 => by
      obtain ⟨hcl, _, hat⟩ := hC 0 h0
      have h0' := hat 0 hpos
      rw [List.getElem?_eq_getElem (by omega)] at h0'
      have e : (a.add (0 * sz)).add 0 = a := by simp [Addr.add]
      rw [e] at h0'
      have := ospot_of_cell h0'
      cases a; simp_all
    have hlen' : ∀ cs ∈ (List.range len).map C, cs.length = sz := fun cs hcs => by
      simp at hcs
      obtain ⟨i, hil, rfl⟩ := hcs
      exact (hC i hil).1
    refine ⟨some a, a.block, a.off, len, cap, (List.range len).map C, hcs, fun h => by rw [← hsp h], by simp, fun h0 => ?_, fun cs hcs => ⟨hlen' cs hcs, ?_⟩, ?_⟩
    · have hfl := flatten_len _ hlen'
      rw [List.length_map, List.length_range] at hfl
      refine row_of_cells _ (by rw [hfl]; exact Nat.mul_pos h0 hpos) (fun j hj => ?_)
      rw [hfl] at hj
      rw [flatten_get hpos _ hlen']
      have hq : j / sz < len := Nat.div_lt_of_lt_mul (by rw [Nat.mul_comm]; exact hj)
      have hr := (hC (j / sz) hq).2.2 (j % sz) (Nat.mod_lt _ hpos)
      rw [hsp h0, oaddr_add, oaddr_add, Nat.add_assoc] at hr
      rw [show j / sz * sz + j % sz = j by rw [Nat.mul_comm]; exact Nat.div_add_mod j sz] at hr
      rw [hr]
      simp [hq]
    · simp at hcs
      obtain ⟨i, hil, rfl⟩ := hcs
      exact (hC i hil).2.1
    · refine Nat.le_trans (Nat.mul_le_mul_right _ ?_) hw1
      omega
/-- a struct's fields -/
theorem fields_of {fs : Array Field} {t : TypeId} {fuel : Nat} {cs : List Value} {d : DataW H} {ps : List MemPlace} (hu : P.underlying t = some (.struct fs)) (h : DataW.trod enc P w base (fun _ => true) held fuel t cs = some (d, ps)) (hw : light P t d) :
    ∃ n, fuel = n + 1 ∧ cs.length = P.cellsOf t ∧ ∀ (i : Nat) (f : Field), fs[i]? = some f → ∃ d' ps', DataW.trod enc P w base (fun _ => true) held n f.type ((cs.drop f.offset).take (P.cellsOf f.type)) = some (d', ps') ∧ light P f.type d' := by
  obtain ⟨xs, n, hfu, hx, hl, hxl, hf⟩ := DataW.trod_struct hu h
  obtain ⟨hd, -⟩ := Prod.mk.inj hx
  subst hd
  unfold light at hw
  rw [DataW.weights] at hw
  simp only [hu] at hw
  refine ⟨n, hfu, hl, fun i f hif => ?_⟩
  have hlt : i < xs.length := by
    rw [hxl]
    exact (Array.getElem?_eq_some_iff.1 hif).1
  have h1 := hf i f hif
  rw [List.getElem?_eq_getElem hlt] at h1
  refine ⟨xs[i].1, xs[i].2, h1, light_each hw i f.type xs[i].1 ?_ ?_⟩
  · rw [List.getElem?_map, Array.getElem?_toList, hif]; rfl
  · rw [List.getElem?_map, List.getElem?_eq_getElem hlt]; rfl
end
theorem Row.tail {w : World} {b off : Nat} {c r : List Value} (h : Row w b off (c ++ r)) : Row w b (off + c.length) r := by
  obtain ⟨h1, h2⟩ := h.sub c.length r.length (by simp)
  refine ⟨h1, h2.trans ?_, h.lt⟩
  rw [List.drop_left, List.take_length]
theorem Row.head {w : World} {b off : Nat} {c r : List Value} (h : Row w b off (c ++ r)) : Proofs.YtfamkemdgbnegaaDoor.has w b off c.length = true ∧ gets w b off c.length = c.toArray := by
  obtain ⟨h1, h2⟩ := h.sub 0 c.length (by simp)
  refine ⟨h1, h2.trans ?_⟩
  rw [List.drop_zero, List.take_left]
theorem oi64_of {n : Int} (h : Lit.wf (.int .i64 n) = true) : i64ok n := by
  simpa [Lit.wf, IntKind.min, IntKind.max, IntKind.signed, IntKind.bits, i64ok] using h
section
variable {H : Type} {enc : TypeId × Value → H} {w : World} {base : Nat} {held : Bool}
theorem cellsInt : Tryd.prog.cellsOf 3 = 1 := by kernel_rfl
theorem cellsStr : Tryd.prog.cellsOf 9 = 1 := by kernel_rfl
theorem cellsSlE : Tryd.prog.cellsOf 32 = 1 := by kernel_rfl
theorem cellsSlS : Tryd.prog.cellsOf 24 = 1 := by kernel_rfl
theorem cellsSlV : Tryd.prog.cellsOf 23 = 1 := by kernel_rfl
theorem cellsSlI : Tryd.prog.cellsOf 22 = 1 := by kernel_rfl
theorem cellsE : Tryd.prog.cellsOf 36 = 4 := by kernel_rfl
theorem cellsS : Tryd.prog.cellsOf 34 = 7 := by kernel_rfl
theorem cellsVr : Tryd.prog.cellsOf 29 = 4 := by kernel_rfl
theorem cellsP : Tryd.prog.cellsOf 26 = 11 := by kernel_rfl
theorem bytesE : Tryd.prog.bytesOf 36 = 56 := by kernel_rfl
theorem bytesS : Tryd.prog.bytesOf 34 = 112 := by kernel_rfl
theorem bytesV : Tryd.prog.bytesOf 29 = 40 := by kernel_rfl
theorem bytesI : Tryd.prog.bytesOf 3 = 8 := by kernel_rfl
abbrev Trd (w : World) (base : Nat) (held : Bool) (enc : TypeId × Value → H) (fuel : Nat) (t : TypeId) (cs : List Value) (d : DataW H) (ps : List MemPlace) : Prop := DataW.trod enc Tryd.prog w base (fun _ => true) held fuel t cs = some (d, ps) ∧ light Tryd.prog t d
def ExOk (w : World) (cs : List Value) : Prop := ∃ (op n : Int) (name : Str) (A : Option Addr) (cap : Nat) (F : EF), cs = (ecells op n name A F.len cap).toList ∧ i64ok op ∧ i64ok n ∧ name.size ≤ maxLen ∧ ESl w w.heap.size A F.len F
theorem efs_of : ∀ (css : List (List Value)) (_ : ∀ cs ∈ css, ExOk w cs) (b off : Nat) (_ : 0 < css.length → Row w b off css.flatten), ∃ F : EF, F.len = css.length ∧ EFAt w w.heap.size F b off
  | [], _, _, _, _ => ⟨.nil, rfl, trivial⟩
  | c :: r, h, b, off, hr => by
    have hrow := hr (by simp)
    rw [List.flatten_cons] at hrow
    obtain ⟨op, n, name, A, cap, K, rfl, h1, h2, h3, h4⟩ := h c (by simp)
    obtain ⟨-, hf, b', off', hA, hE⟩ := h4
    obtain ⟨R, hR1, hR2⟩ := efs_of r (fun cs hcs => h cs (by simp [hcs])) b (off + 4) (fun _ => hrow.tail)
    obtain ⟨hh, hg⟩ := hrow.head
    exact ⟨.cons op n name K R, by simp [EF.len, hR1], hrow.lt, h1, h2, h3, ⟨A, cap, b', off', hh, hg, hf, hA, hE⟩, hR2⟩
set_option maxRecDepth 100000 in
theorem exprs_of : ∀ (fuel : Nat) (v : Value) (d : DataW H) (ps : List MemPlace), Trd w base held enc fuel 32 [v] d ps → ∃ A n cap F, v = .slice A n cap ∧ ESl w w.heap.size A n F := by
  intro fuel
  induction fuel using Nat.strongRecOn with
  | ind fuel IH =>
    intro v d ps ⟨h, hw⟩
    obtain ⟨A, b, off, len, cap, css, rfl, hA, hl, hr, hc, hb⟩ := open_rows2 Tryd.underlying32 cellsE (by omega) h hw
    have hok : ∀ cs ∈ css, ExOk w cs := fun cs hcs => by
      obtain ⟨hcl, n, d', ps', hlt, ht, hw'⟩ := hc cs hcs
      obtain ⟨m, rfl, _, hf⟩ := fields_of Tryd.underlying36 ht hw'
      obtain ⟨d0, p0, k0, _⟩ := hf 0 _ rfl
      have k0 : DataW.trod enc Tryd.prog w base (fun _ => true) held m 3 ((cs.drop 0).take (Tryd.prog.cellsOf 3)) = some (d0, p0) := k0
      rw [cellsInt] at k0
      obtain ⟨d1, p1, k1, _⟩ := hf 1 _ rfl
      have k1 : DataW.trod enc Tryd.prog w base (fun _ => true) held m 3 ((cs.drop 1).take (Tryd.prog.cellsOf 3)) = some (d1, p1) := k1
      rw [cellsInt] at k1
      obtain ⟨d2, p2, k2, _⟩ := hf 2 _ rfl
      have k2 : DataW.trod enc Tryd.prog w base (fun _ => true) held m 9 ((cs.drop 2).take (Tryd.prog.cellsOf 9)) = some (d2, p2) := k2
      rw [cellsStr] at k2
      obtain ⟨d3, p3, k3, l3⟩ := hf 3 _ rfl
      have k3 : DataW.trod enc Tryd.prog w base (fun _ => true) held m 32 ((cs.drop 3).take (Tryd.prog.cellsOf 32)) = some (d3, p3) := k3
      rw [cellsSlE] at k3
      have l3 : light Tryd.prog 32 d3 := l3
      obtain ⟨n0, e0, _, w0⟩ := DataW.trod_int Tryd.underlying3 k0
      obtain ⟨n1, e1, _, w1⟩ := DataW.trod_int Tryd.underlying3 k1
      obtain ⟨s2, e2, _, w2⟩ := DataW.trod_string Tryd.underlying9 k2
      match cs, hcl with
      | [c0, c1, c2, c3], _ =>
        simp at e0 e1 e2 k3
        subst e0 e1 e2
        obtain ⟨A', n', cap', F, rfl, hE⟩ := IH m (by omega) c3 d3 p3 ⟨k3, l3⟩
        have hn := hE.1
        subst hn
        exact ⟨n0, n1, s2, A', cap', F, rfl, oi64_of w0, oi64_of w1, w2, hE⟩
    obtain ⟨F, hF1, hF2⟩ := efs_of css hok b off (fun h0 => hr (by omega))
    rw [bytesE] at hb
    exact ⟨A, len, cap, F, rfl, by omega, by unfold Fits; unfold reachBytes at hb; omega, b, off, hA, hF2⟩
def StOk (w : World) (cs : List Value) : Prop := ∃ (kind : Int) (name : Str) (e : EF) (low high : Int) (l x : SF) (eA : Option Addr) (ec : Nat) (lA : Option Addr) (lc : Nat) (xA : Option Addr) (xc : Nat), cs = (scells kind name eA e.len ec low high lA l.len lc xA x.len xc).toList ∧ i64ok kind ∧ i64ok low ∧ i64ok high ∧ name.size ≤ maxLen ∧ ESl w w.heap.size eA e.len e ∧ SSl w w.heap.size lA l.len l ∧ SSl w w.heap.size xA x.len x
theorem sfs_of : ∀ (css : List (List Value)) (_ : ∀ cs ∈ css, StOk w cs) (b off : Nat) (_ : 0 < css.length → Row w b off css.flatten), ∃ F : SF, F.len = css.length ∧ SFAt w w.heap.size F b off
  | [], _, _, _, _ => ⟨.nil, rfl, trivial⟩
  | c :: r, h, b, off, hr => by
    have hrow := hr (by simp)
    rw [List.flatten_cons] at hrow
    obtain ⟨kind, name, e, low, high, l, x, eA, ec, lA, lc, xA, xc, rfl, h1, h2, h3, h4, h5, h6, h7⟩ := h c (by simp)
    obtain ⟨-, f1, be, oe, a1, e1⟩ := h5
    obtain ⟨-, f2, bl, ol, a2, e2⟩ := h6
    obtain ⟨-, f3, bx, ox, a3, e3⟩ := h7
    obtain ⟨R, hR1, hR2⟩ := sfs_of r (fun cs hcs => h cs (by simp [hcs])) b (off + 7) (fun _ => hrow.tail)
    obtain ⟨hh, hg⟩ := hrow.head
    exact ⟨.cons kind name e low high l x R, by simp [SF.len, hR1], hrow.lt, h1, h2, h3, h4, ⟨eA, ec, lA, lc, xA, xc, be, oe, bl, ol, bx, ox, hh, hg, f1, f2, f3, a1, a2, a3, e1, e2, e3⟩, hR2⟩
set_option maxRecDepth 100000 in
theorem stmts_of : ∀ (fuel : Nat) (v : Value) (d : DataW H) (ps : List MemPlace), Trd w base held enc fuel 24 [v] d ps → ∃ A n cap F, v = .slice A n cap ∧ SSl w w.heap.size A n F := by
  intro fuel
  induction fuel using Nat.strongRecOn with
  | ind fuel IH =>
    intro v d ps ⟨h, hw⟩
    obtain ⟨A, b, off, len, cap, css, rfl, hA, hl, hr, hc, hb⟩ := open_rows2 Tryd.underlying24 cellsS (by omega) h hw
    have hok : ∀ cs ∈ css, StOk w cs := fun cs hcs => by
      obtain ⟨hcl, n, d', ps', hlt, ht, hw'⟩ := hc cs hcs
      obtain ⟨m, rfl, _, hf⟩ := fields_of Tryd.underlying34 ht hw'
      obtain ⟨d0, p0, k0, _⟩ := hf 0 _ rfl
      have k0 : DataW.trod enc Tryd.prog w base (fun _ => true) held m 3 ((cs.drop 0).take (Tryd.prog.cellsOf 3)) = some (d0, p0) := k0
      rw [cellsInt] at k0
      obtain ⟨d1, p1, k1, _⟩ := hf 1 _ rfl
      have k1 : DataW.trod enc Tryd.prog w base (fun _ => true) held m 9 ((cs.drop 1).take (Tryd.prog.cellsOf 9)) = some (d1, p1) := k1
      rw [cellsStr] at k1
      obtain ⟨d2, p2, k2, l2⟩ := hf 2 _ rfl
      have k2 : DataW.trod enc Tryd.prog w base (fun _ => true) held m 32 ((cs.drop 2).take (Tryd.prog.cellsOf 32)) = some (d2, p2) := k2
      rw [cellsSlE] at k2
      have l2 : light Tryd.prog 32 d2 := l2
      obtain ⟨d3, p3, k3, _⟩ := hf 3 _ rfl
      have k3 : DataW.trod enc Tryd.prog w base (fun _ => true) held m 3 ((cs.drop 3).take (Tryd.prog.cellsOf 3)) = some (d3, p3) := k3
      rw [cellsInt] at k3
      obtain ⟨d4, p4, k4, _⟩ := hf 4 _ rfl
      have k4 : DataW.trod enc Tryd.prog w base (fun _ => true) held m 3 ((cs.drop 4).take (Tryd.prog.cellsOf 3)) = some (d4, p4) := k4
      rw [cellsInt] at k4
      obtain ⟨d5, p5, k5, l5⟩ := hf 5 _ rfl
      have k5 : DataW.trod enc Tryd.prog w base (fun _ => true) held m 24 ((cs.drop 5).take (Tryd.prog.cellsOf 24)) = some (d5, p5) := k5
      rw [cellsSlS] at k5
      have l5 : light Tryd.prog 24 d5 := l5
      obtain ⟨d6, p6, k6, l6⟩ := hf 6 _ rfl
      have k6 : DataW.trod enc Tryd.prog w base (fun _ => true) held m 24 ((cs.drop 6).take (Tryd.prog.cellsOf 24)) = some (d6, p6) := k6
      rw [cellsSlS] at k6
      have l6 : light Tryd.prog 24 d6 := l6
      obtain ⟨n0, e0, _, w0⟩ := DataW.trod_int Tryd.underlying3 k0
      obtain ⟨s1, e1, _, w1⟩ := DataW.trod_string Tryd.underlying9 k1
      obtain ⟨n3, e3, _, w3⟩ := DataW.trod_int Tryd.underlying3 k3
      obtain ⟨n4, e4, _, w4⟩ := DataW.trod_int Tryd.underlying3 k4
      match cs, hcl with
      | [c0, c1, c2, c3, c4, c5, c6], _ =>
        simp at e0 e1 e3 e4 k2 k5 k6
        subst e0 e1 e3 e4
        obtain ⟨eA, en, ec, e, rfl, hE⟩ := exprs_of _ c2 d2 p2 ⟨k2, l2⟩
        obtain ⟨lA, ln, lc, l, rfl, hL⟩ := IH m (by omega) c5 d5 p5 ⟨k5, l5⟩
        obtain ⟨xA, xn, xc, x, rfl, hX⟩ := IH m (by omega) c6 d6 p6 ⟨k6, l6⟩
        have q1 := hE.1
        have q2 := hL.1
        have q3 := hX.1
        subst q1 q2 q3
        exact ⟨n0, s1, e, n3, n4, l, x, eA, ec, lA, lc, xA, xc, rfl, oi64_of w0, oi64_of w3, oi64_of w4, w1, hE, hL, hX⟩
    obtain ⟨F, hF1, hF2⟩ := sfs_of css hok b off (fun h0 => hr (by omega))
    rw [bytesS] at hb
    exact ⟨A, len, cap, F, rfl, by omega, by unfold Fits; unfold reachBytes at hb; omega, b, off, hA, hF2⟩
theorem vrs_flat : ∀ (css : List (List Value)), (∀ cs ∈ css, ∃ v : Vr, VrOk v ∧ cs = (vcells v).toList) → ∃ l : List Vr, l.length = css.length ∧ (∀ v ∈ l, VrOk v) ∧ css.flatten = rowsL vcells l
  | [], _ => ⟨[], rfl, by simp, rfl⟩
  | c :: r, h => by
    obtain ⟨i, hi, rfl⟩ := h c (by simp)
    obtain ⟨l, hl, ho, he⟩ := vrs_flat r (fun cs hcs => h cs (by simp [hcs]))
    exact ⟨i :: l, by simp [hl], by simp; exact ⟨hi, ho⟩, by rw [List.flatten_cons, he]; rfl⟩
set_option maxRecDepth 100000 in
theorem vrs_of {fuel : Nat} {v : Value} {d : DataW H} {ps : List MemPlace} (hh : Trd w base held enc fuel 23 [v] d ps) : ∃ A n cap l, v = .slice A n cap ∧ VSl w w.heap.size A n l := by
  obtain ⟨h, hw⟩ := hh
  obtain ⟨A, b, off, len, cap, css, rfl, hA, hl, hr, hc, hb⟩ := open_rows2 Tryd.underlying23 cellsVr (by omega) h hw
  obtain ⟨l, hll, ho, he⟩ := vrs_flat css (fun cs hcs => by
    obtain ⟨hcl, n, d', ps', hlt, ht, hw'⟩ := hc cs hcs
    obtain ⟨m, rfl, _, hf⟩ := fields_of Tryd.underlying29 ht hw'
    obtain ⟨d0, p0, k0, _⟩ := hf 0 _ rfl
    have k0 : DataW.trod enc Tryd.prog w base (fun _ => true) held m 9 ((cs.drop 0).take (Tryd.prog.cellsOf 9)) = some (d0, p0) := k0
    rw [cellsStr] at k0
    obtain ⟨d1, p1, k1, _⟩ := hf 1 _ rfl
    have k1 : DataW.trod enc Tryd.prog w base (fun _ => true) held m 3 ((cs.drop 1).take (Tryd.prog.cellsOf 3)) = some (d1, p1) := k1
    rw [cellsInt] at k1
    obtain ⟨d2, p2, k2, _⟩ := hf 2 _ rfl
    have k2 : DataW.trod enc Tryd.prog w base (fun _ => true) held m 3 ((cs.drop 2).take (Tryd.prog.cellsOf 3)) = some (d2, p2) := k2
    rw [cellsInt] at k2
    obtain ⟨d3, p3, k3, _⟩ := hf 3 _ rfl
    have k3 : DataW.trod enc Tryd.prog w base (fun _ => true) held m 3 ((cs.drop 3).take (Tryd.prog.cellsOf 3)) = some (d3, p3) := k3
    rw [cellsInt] at k3
    obtain ⟨s0, e0, _, w0⟩ := DataW.trod_string Tryd.underlying9 k0
    obtain ⟨n1, e1, _, w1⟩ := DataW.trod_int Tryd.underlying3 k1
    obtain ⟨n2, e2, _, w2⟩ := DataW.trod_int Tryd.underlying3 k2
    obtain ⟨n3, e3, _, w3⟩ := DataW.trod_int Tryd.underlying3 k3
    match cs, hcl with
    | [c0, c1, c2, c3], _ =>
      simp at e0 e1 e2 e3
      subst e0 e1 e2 e3
      exact ⟨⟨s0, n1, n2, n3⟩, ⟨w0, oi64_of w1, oi64_of w2, oi64_of w3⟩, rfl⟩)
  rw [bytesV] at hb
  exact ⟨A, len, cap, l, rfl, by omega, by unfold Fits; unfold reachBytes at hb; omega, ho, b, off, hA, fun h0 => ⟨(hr h0).lt, he ▸ hr h0⟩⟩
theorem ints_flat : ∀ (css : List (List Value)), (∀ cs ∈ css, ∃ n : Int, i64ok n ∧ cs = [.int .i64 n]) → ∃ l : List Int, l.length = css.length ∧ (∀ i ∈ l, i64ok i) ∧ css.flatten = l.map (Value.int .i64)
  | [], _ => ⟨[], rfl, by simp, rfl⟩
  | c :: r, h => by
    obtain ⟨i, hi, rfl⟩ := h c (by simp)
    obtain ⟨l, hl, ho, he⟩ := ints_flat r (fun cs hcs => h cs (by simp [hcs]))
    exact ⟨i :: l, by simp [hl], by simp; exact ⟨hi, ho⟩, by rw [List.flatten_cons, he]; rfl⟩
theorem ints_of {fuel : Nat} {v : Value} {d : DataW H} {ps : List MemPlace} (hh : Trd w base held enc fuel 22 [v] d ps) : ∃ A n cap l, v = .slice A n cap ∧ ISl w w.heap.size A n l := by
  obtain ⟨h, hw⟩ := hh
  obtain ⟨A, b, off, len, cap, css, rfl, hA, hl, hr, hc, hb⟩ := open_rows2 Tryd.underlying22 cellsInt (by omega) h hw
  obtain ⟨l, hll, ho, he⟩ := ints_flat css (fun cs hcs => by
    obtain ⟨hcl, n, d', ps', hlt, ht, hw'⟩ := hc cs hcs
    obtain ⟨k, e, _, wf⟩ := DataW.trod_int Tryd.underlying3 ht
    exact ⟨k, oi64_of wf, e⟩)
  rw [bytesI] at hb
  exact ⟨A, len, cap, l, rfl, by omega, by unfold Fits; unfold reachBytes at hb; omega, ho, b, off, hA, fun h0 => ⟨(hr h0).lt, he ▸ hr h0⟩⟩
set_option maxRecDepth 100000 in
set_option maxHeartbeats 1000000 in
/-- a program that came in -/
theorem prog_of {fuel : Nat} {cs : List Value} {d : DataW H} {ps : List MemPlace} (hh : Trd w base held enc fuel 26 cs d ps) : ∃ (c : Pc) (p : Pr), cs = c.cells.toList ∧ PAt w w.heap.size c p := by
  obtain ⟨h, hw⟩ := hh
  obtain ⟨m, rfl, hcl, hf⟩ := fields_of Tryd.underlying26 h hw
  rw [cellsP] at hcl
  obtain ⟨d0, p0, k0, _⟩ := hf 0 _ rfl
  have k0 : DataW.trod enc Tryd.prog w base (fun _ => true) held m 9 ((cs.drop 0).take (Tryd.prog.cellsOf 9)) = some (d0, p0) := k0
  rw [cellsStr] at k0
  obtain ⟨d1, p1, k1, _⟩ := hf 1 _ rfl
  have k1 : DataW.trod enc Tryd.prog w base (fun _ => true) held m 3 ((cs.drop 1).take (Tryd.prog.cellsOf 3)) = some (d1, p1) := k1
  rw [cellsInt] at k1
  obtain ⟨d2, p2, k2, l2⟩ := hf 2 _ rfl
  have k2 : DataW.trod enc Tryd.prog w base (fun _ => true) held m 22 ((cs.drop 2).take (Tryd.prog.cellsOf 22)) = some (d2, p2) := k2
  rw [cellsSlI] at k2
  have l2 : light Tryd.prog 22 d2 := l2
  obtain ⟨d3, p3, k3, l3⟩ := hf 3 _ rfl
  have k3 : DataW.trod enc Tryd.prog w base (fun _ => true) held m 23 ((cs.drop 3).take (Tryd.prog.cellsOf 23)) = some (d3, p3) := k3
  rw [cellsSlV] at k3
  have l3 : light Tryd.prog 23 d3 := l3
  obtain ⟨d4, p4, k4, l4⟩ := hf 4 _ rfl
  have k4 : DataW.trod enc Tryd.prog w base (fun _ => true) held m 24 ((cs.drop 4).take (Tryd.prog.cellsOf 24)) = some (d4, p4) := k4
  rw [cellsSlS] at k4
  have l4 : light Tryd.prog 24 d4 := l4
  obtain ⟨d5, p5, k5, l5⟩ := hf 5 _ rfl
  have k5 : DataW.trod enc Tryd.prog w base (fun _ => true) held m 24 ((cs.drop 5).take (Tryd.prog.cellsOf 24)) = some (d5, p5) := k5
  rw [cellsSlS] at k5
  have l5 : light Tryd.prog 24 d5 := l5
  obtain ⟨d6, p6, k6, l6⟩ := hf 6 _ rfl
  have k6 : DataW.trod enc Tryd.prog w base (fun _ => true) held m 23 ((cs.drop 6).take (Tryd.prog.cellsOf 23)) = some (d6, p6) := k6
  rw [cellsSlV] at k6
  have l6 : light Tryd.prog 23 d6 := l6
  obtain ⟨d7, p7, k7, l7⟩ := hf 7 _ rfl
  have k7 : DataW.trod enc Tryd.prog w base (fun _ => true) held m 24 ((cs.drop 7).take (Tryd.prog.cellsOf 24)) = some (d7, p7) := k7
  rw [cellsSlS] at k7
  have l7 : light Tryd.prog 24 d7 := l7
  obtain ⟨d8, p8, k8, _⟩ := hf 8 _ rfl
  have k8 : DataW.trod enc Tryd.prog w base (fun _ => true) held m 9 ((cs.drop 8).take (Tryd.prog.cellsOf 9)) = some (d8, p8) := k8
  rw [cellsStr] at k8
  obtain ⟨d9, p9, k9, l9⟩ := hf 9 _ rfl
  have k9 : DataW.trod enc Tryd.prog w base (fun _ => true) held m 24 ((cs.drop 9).take (Tryd.prog.cellsOf 24)) = some (d9, p9) := k9
  rw [cellsSlS] at k9
  have l9 : light Tryd.prog 24 d9 := l9
  obtain ⟨d10, p10, k10, l10⟩ := hf 10 _ rfl
  have k10 : DataW.trod enc Tryd.prog w base (fun _ => true) held m 24 ((cs.drop 10).take (Tryd.prog.cellsOf 24)) = some (d10, p10) := k10
  rw [cellsSlS] at k10
  have l10 : light Tryd.prog 24 d10 := l10
  obtain ⟨s0, e0, _, w0⟩ := DataW.trod_string Tryd.underlying9 k0
  obtain ⟨n1, e1, _, w1⟩ := DataW.trod_int Tryd.underlying3 k1
  obtain ⟨s8, e8, _, w8⟩ := DataW.trod_string Tryd.underlying9 k8
  match cs, hcl with
  | [c0, c1, c2, c3, c4, c5, c6, c7, c8, c9, c10], _ =>
    simp at e0 e1 e8 k2 k3 k4 k5 k6 k7 k9 k10
    subst e0 e1 e8
    obtain ⟨A2, q2, r2, x2, rfl, h2⟩ := ints_of ⟨k2, l2⟩
    obtain ⟨A3, q3, r3, x3, rfl, h3⟩ := vrs_of ⟨k3, l3⟩
    obtain ⟨A4, q4, r4, x4, rfl, h4⟩ := stmts_of _ c4 d4 p4 ⟨k4, l4⟩
    obtain ⟨A5, q5, r5, x5, rfl, h5⟩ := stmts_of _ c5 d5 p5 ⟨k5, l5⟩
    obtain ⟨A6, q6, r6, x6, rfl, h6⟩ := vrs_of ⟨k6, l6⟩
    obtain ⟨A7, q7, r7, x7, rfl, h7⟩ := stmts_of _ c7 d7 p7 ⟨k7, l7⟩
    obtain ⟨A9, q9, r9, x9, rfl, h9⟩ := stmts_of _ c9 d9 p9 ⟨k9, l9⟩
    obtain ⟨A10, q10, r10, x10, rfl, h10⟩ := stmts_of _ c10 d10 p10 ⟨k10, l10⟩
    exact ⟨⟨s0, n1, ⟨A2, q2, r2⟩, ⟨A3, q3, r3⟩, ⟨A4, q4, r4⟩, ⟨A5, q5, r5⟩, ⟨A6, q6, r6⟩, ⟨A7, q7, r7⟩, s8, ⟨A9, q9, r9⟩, ⟨A10, q10, r10⟩⟩, ⟨s0, n1, x2, x3, x4, x5, x6, x7, s8, x9, x10⟩, rfl,
      ⟨rfl, w0, rfl, oi64_of w1, h2, h3, h4, h5, h6, h7, rfl, w8, h9, h10⟩⟩
end
def exprTab : List Int := [0, 0, 1, 1, 1, 2, 2, 2, 2, 2, 2, 2, 2, 2, 2, 2, 2, 2]
def stmtTab : List Int := [1, 2, 1, 0, 0, 0, 1, 0, 2, 1]
set_option maxRecDepth 100000 in
/-- the tables lie where the program's text laid them -/
theorem laid_at {w : World} (h : laidMetH Tryd.prog Rows.sortsCellsRow.laid w) (h4 : 4 < w.heap.size) : LaidAt w := by
  have h' : laidMet Tryd.prog Rows.sortsCellsRow.laid w := h
  obtain ⟨ps, ⟨_, _, _, _, _, _, _, _, _, _, ⟨g1, t1, cs1, f1, p1, q1, hg1, ht1, hv1, hd1, ⟨g2, t2, cs2, f2, p2, q2, hg2, ht2, hv2, hd2, ⟨g3, t3, cs3, f3, p3, q3, hg3, ht3, hv3, hd3, _⟩, _⟩, _⟩, _⟩, _⟩ := h'
  have e1 : Tryd.prog.globalNamed "strings.asciiSpace" = some 0 := by kernel_rfl
  have e2 : Tryd.prog.globalNamed "baize/sorts.stmtParts" = some 1 := by kernel_rfl
  have e3 : Tryd.prog.globalNamed "baize/sorts.exprParts" = some 3 := by kernel_rfl
  obtain rfl := Option.some.inj (e1.symm.trans hg1)
  obtain rfl := Option.some.inj (e2.symm.trans hg2)
  obtain rfl := Option.some.inj (e3.symm.trans hg3)
  obtain rfl := Option.some.inj ((show (Tryd.prog.globals[0]?).map (·.type) = some 137 by kernel_rfl).symm.trans ht1)
  obtain rfl := Option.some.inj ((show (Tryd.prog.globals[1]?).map (·.type) = some 140 by kernel_rfl).symm.trans ht2)
  obtain rfl := Option.some.inj ((show (Tryd.prog.globals[3]?).map (·.type) = some 151 by kernel_rfl).symm.trans ht3)
  have c1 := Lib.cells_of_tab (zs := Lib.asciiSpaceTab) (k := .u8) Tryd.underlying137 Tryd.underlying5 (by kernel_rfl) (by kernel_rfl) hd1
  have c2 := Lib.cells_of_tab (zs := stmtTab) (k := .i64) Tryd.underlying140 Tryd.underlying3 (by kernel_rfl) (by kernel_rfl) hd2
  have c3 := Lib.cells_of_tab (zs := exprTab) (k := .i64) Tryd.underlying151 Tryd.underlying3 (by kernel_rfl) (by kernel_rfl) hd3
  refine ⟨?_, fun k hk => ?_, fun k hk => ?_, h4⟩
  · unfold Lib.TabIs
    rw [hv1, ← c1]
  · rw [World.var?_cell e2 hv2 k, ← Array.getElem?_toList, c2]
    have : ∀ k, k < 10 → stmtTab[k]? = some ((stmtParts (k : Nat) : Nat) : Int) := by decide
    rw [List.getElem?_map, this k hk]
    rfl
  · rw [World.var?_cell e3 hv3 k, ← Array.getElem?_toList, c3]
    have : ∀ k, k < 18 → exprTab[k]? = some ((exprParts (k : Nat) : Nat) : Int) := by decide
    rw [List.getElem?_map, this k hk]
    rfl
theorem five_blocks {w : World} (h : w.ShapedOpen Tryd.prog) : 4 < w.heap.size := by
  obtain ⟨h1, -⟩ := h
  have hs : (((begin Tryd.prog (fun _ _ => 0) default).world.heap[4]?).bind Obj.row?).isSome = true := by kernel_rfl
  obtain ⟨⟨zero, t⟩, hz⟩ := Option.isSome_iff_exists.1 hs
  obtain ⟨cs, hc, -⟩ := h1 4 zero t (of_decide_eq_true (by kernel_rfl)) hz
  exact (Array.getElem?_eq_some_iff.1 hc).1
end Go.Proofs.YtfamkemdgbnegaaDoor

/- Sorts: the document's answer: names of parts, kinds, where they may stand; the variables. -/
namespace Go.Proofs.YtfamkemdgbnegaaDoor
open Go.RowKit So
set_option maxRecDepth 100000 in
set_option maxHeartbeats 800000 in
theorem names_any (w : World) : Calls Tryd.prog 12 #[] w fun e w' => e = .returned (.slice (some ⟨w.heap.size, 0, none⟩) 5 5) ∧ Ext w w' ∧ Blk w' w.heap.size 9 #[.string sStart, .string sTurn, .string sPlay, .string sSilent, .string sPay] := by
  go_enter Tryd.func12, Tryd.ntmps12
  go_wp2_with fail
  go_ret
  exact ⟨rfl, (Kept.refl _ w).alloc _, Blk.new w _ _⟩
set_option maxRecDepth 100000 in
set_option maxHeartbeats 800000 in
theorem rparts_any (k : Nat) (hk : k < 10) (w : World) : Calls Tryd.prog 90 #[.int .i64 (k : Int)] w fun e w' => e = .returned (.int .i64 (stmtParts (k : Int))) ∧ Ext w w' := by
  have hx := (Kept.refl (fun _ => False) w).alloc (.cells #[.int .i64 1, .int .i64 2, .int .i64 1, .int .i64 0, .int .i64 0, .int .i64 0, .int .i64 1, .int .i64 0, .int .i64 2, .int .i64 1] 3)
  have hkI : (k : Int) < 10 := by omega
  have hc : (w.alloc (.cells #[.int .i64 1, .int .i64 2, .int .i64 1, .int .i64 0, .int .i64 0, .int .i64 0, .int .i64 1, .int .i64 0, .int .i64 2, .int .i64 1] 3)).cell? ⟨w.heap.size, k, none⟩ = some (.int .i64 (stmtParts (k : Int))) := by
    rw [Blk.cell (Blk.new w _ _)]
    have : ∀ k, k < 10 → stmtTab[k]? = some ((stmtParts (k : Nat) : Nat) : Int) := by decide
    have h2 := this k hk
    have h3 : (#[Value.int .i64 1, .int .i64 2, .int .i64 1, .int .i64 0, .int .i64 0, .int .i64 0, .int .i64 1, .int .i64 0, .int .i64 2, .int .i64 1] : Array Value) = (stmtTab.map (Value.int .i64)).toArray := rfl
    rw [h3, List.getElem?_toArray, List.getElem?_map, h2]
    rfl
  go_enter Tryd.func90, Tryd.ntmps90
  go_wp2_with fail
  go_ret
  exact ⟨rfl, hx⟩
end Go.Proofs.YtfamkemdgbnegaaDoor
