/- Several texts joined: Ug. -/
import Derived.Test.YtfamkemdgbnegaaDoorSdl
/- Sorts: the document's answer, whole. -/
namespace Go.Proofs.YtfamkemdgbnegaaDoor
open Go.RowKit So
/-- a slice's head that came in: no more of it than there is room -/
def Capd (s : Sl3) : Prop := s.n ≤ s.c ∧ (s.A = none → s.c = 0)
structure Caps (c : Pc) : Prop where
  vars : Capd c.vars
  start : Capd c.start
  turn : Capd c.turn
  params : Capd c.params
  play : Capd c.play
  quiet : Capd c.quiet
  pays : Capd c.pays
def slP (c : Pc) : Nat → Sl3 | 0 => c.start | 1 => c.turn | 2 => c.play | 3 => c.quiet | _ => c.pays
def plOf (p : Pr) : Nat → List Str | 2 => p.params.map Vr.name | 3 => [p.silent] | _ => []
theorem PAt.part {w : World} {N : Nat} {c : Pc} {p : Pr} (h : PAt w N c p) (i : Nat) : SSl w N (slP c i).A (slP c i).n (partOf p i) := by
  unfold slP partOf
  split
  · exact h.start
  · exact h.turn
  · exact h.play
  · exact h.quiet
  · rename_i h0 h1 h2 h3
    split
    · exact absurd rfl h0
    · exact absurd rfl h1
    · exact absurd rfl h2
    · exact absurd rfl h3
    · exact h.pays
theorem knOf_pl (p : Pr) (i : Nat) : knOf p i = updAll (knV p.vars) (plOf p i) := by
  match i with
  | 0 => rfl
  | 1 => rfl
  | 2 => rfl
  | 3 => rfl
  | _ + 4 => rfl
def from5 (p : Pr) (M : Option Flt) (i : Nat) : Option Flt := (List.range' i (5 - i)).foldr (fun j r => ored (chkP p j) r) M
theorem from5_lt (p : Pr) (M : Option Flt) (i : Nat) (hi : i < 5) : from5 p M i = ored (chkP p i) (from5 p M (i + 1)) := by
  rcases (by omega : i = 0 ∨ i = 1 ∨ i = 2 ∨ i = 3 ∨ i = 4) with rfl | rfl | rfl | rfl | rfl <;> rfl
theorem from5_end (p : Pr) (M : Option Flt) : from5 p M 5 = M := rfl
theorem rcheck_chain (p : Pr) : check p = ored (must (isName p.name) 6 p.name) (ored (must (btw p.seats 2 8) 2 sSeats) (ored (must ((p.stakes.length : Int) == p.seats) 3 sStake) (ored (must (p.stakes.all (fun n => btw n 1 2147483647)) 2 sStake) (ored (ored (chkVars [] p.vars) (must (decide (cells p.vars ≤ 64)) 8 sVar))
    (ored (ored (must (decide (p.params.length ≤ 4)) 8 sPlay) (ored (chkPars (knV p.vars) [] p.params) (ored (must (decide (menu p.params ≤ 512)) 8 sPlay) (ored (must (isName p.silent) 6 p.silent) (must (knV p.vars p.silent == 0) 7 p.silent))))) (ored (must (decide (w64 (psize p) ≤ 1000)) 5 p.name) (from5 p (ored (must (ends p.turn) 4 sTurn) (must (restLast p.pays) 4 sPay)) 0))))))) := by
  rw [check, chkAhead, chkHead]
  simp only [ored_assoc]
  rfl
theorem NZ.out' {o : Option Flt} (h : NZ o) {fe : Int} {fn : Str} (e : o = .some ⟨fe, fn⟩) : (fe == 0) = false := NZ.out h e
theorem nz_chkVars : ∀ (l pre : List Vr), NZ (chkVars pre l)
  | [], _ => by rw [chkVars]; exact NZ.none
  | v :: r, pre => by
    rw [chkVars]
    exact NZ.ored (NZ.must (by decide)) (NZ.ored (NZ.must (by decide)) (NZ.ored (NZ.must (by decide)) (nz_chkVars r _)))
theorem nz_chkPars (κ : Kn) : ∀ (l pre : List Vr), NZ (chkPars κ pre l)
  | [], _ => by rw [chkPars]; exact NZ.none
  | v :: r, pre => by
    rw [chkPars]
    exact NZ.ored (NZ.must (by decide)) (NZ.ored (NZ.must (by decide)) (NZ.ored (NZ.must (by decide)) (NZ.ored (NZ.must (by decide)) (nz_chkPars κ r _))))
theorem owns_str2 {w : World} {base : Nat} {T : TypeId} {A : Option Addr} {n c : Nat} {l : List Str} (ho : w.ownsRow base T 1 (.slice A n c) n (rowsL strC l)) (hn : n = l.length) (h4 : n ≤ 100) : StrSl w w.heap.size A n l ∧ (A = none → c = 0) := by
  obtain ⟨B, bc, e, hB, hS⟩ := owns_str ho hn h4
  injection e with e1 e2 e3
  subst e1 e3
  refine ⟨hS, fun h => ?_⟩
  rcases ho.2 with ⟨hv, _⟩ | ⟨g, c', cur, hv, _⟩
  · injection hv
  · injection hv with q1
    rw [h] at q1
    cases q1
theorem plOf_len (p : Pr) (i : Nat) (h : p.params.length ≤ 4) : (plOf p i).length ≤ 40 + 0 := by
  unfold plOf
  split
  · rw [List.length_map]; omega
  · simp
  · simp
theorem StrSl.ext_ {w w' : World} {A : Option Addr} {n : Nat} {l : List Str} (h : StrSl w w.heap.size A n l) (hx : Ext w w') : StrSl w' w'.heap.size A n l := (h.ext hx).mono hx.size
abbrev partCells (c : Pc) : Array Value := #[c.start.v, c.turn.v, c.play.v, c.quiet.v, c.pays.v]
theorem part_cell (c : Pc) (i : Nat) (hi : i < 5) : (partCells c)[i]? = some ((slP c i).v) := by
  rcases (by omega : i = 0 ∨ i = 1 ∨ i = 2 ∨ i = 3 ∨ i = 4) with rfl | rfl | rfl | rfl | rfl <;> rfl
set_option maxRecDepth 100000 in
set_option maxHeartbeats 1600000 in
theorem rcheck_any (c : Pc) (p : Pr) (N : Nat) (w : World) (hN : N ≤ w.heap.size) (h : PAt w N c p) (hcap : Caps c) : Calls Tryd.prog 28 #[.agg c.cells] w fun e w' => e = .returned (.agg (fltC (check p))) ∧ Ext w w' := by
  obtain ⟨X, hX⟩ : ∃ X, X = check p := ⟨_, rfl⟩
  rw [← hX]
  replace hX := hX.trans (rcheck_chain p)
  obtain ⟨b0, hb0⟩ : ∃ b, b = isName p.name := ⟨_, rfl⟩
  obtain ⟨b1, hb1⟩ : ∃ b, b = btw p.seats 2 8 := ⟨_, rfl⟩
  obtain ⟨b2, hb2⟩ : ∃ b, b = ((p.stakes.length : Int) == p.seats) := ⟨_, rfl⟩
  obtain ⟨V, hV⟩ : ∃ V, V = ored (chkVars [] p.vars) (must (decide (cells p.vars ≤ 64)) 8 sVar) := ⟨_, rfl⟩
  obtain ⟨P, hP⟩ : ∃ P, P = ored (must (decide (p.params.length ≤ 4)) 8 sPlay) (ored (chkPars (knV p.vars) [] p.params) (ored (must (decide (menu p.params ≤ 512)) 8 sPlay) (ored (must (isName p.silent) 6 p.silent) (must (knV p.vars p.silent == 0) 7 p.silent)))) := ⟨_, rfl⟩
  obtain ⟨b3, hb3⟩ : ∃ b, b = decide (w64 (psize p) ≤ 1000) := ⟨_, rfl⟩
  obtain ⟨b4, hb4⟩ : ∃ b, b = ends p.turn := ⟨_, rfl⟩
  obtain ⟨b5, hb5⟩ : ∃ b, b = restLast p.pays := ⟨_, rfl⟩
  obtain ⟨M, hM⟩ : ∃ M, M = ored (must b4 4 sTurn) (must b5 4 sPay) := ⟨_, rfl⟩
  obtain ⟨T, hT⟩ : ∃ T, T = from5 p M 0 := ⟨_, rfl⟩
  obtain ⟨R1, hR1⟩ : ∃ R, R = ored V (ored P (ored (must b3 5 p.name) T)) := ⟨_, rfl⟩
  rw [← hb0, ← hb1, ← hb2, ← hb3, ← hb4, ← hb5, ← hV, ← hP, ← hM, ← hT, ← hR1] at hX
  have HNV := Lib.hid (show NZ V by rw [hV]; exact NZ.ored (nz_chkVars _ _) (NZ.must (by decide)))
  have HNP := Lib.hid (show NZ P by rw [hP]; exact NZ.ored (NZ.must (by decide)) (NZ.ored (nz_chkPars _ _ _) (NZ.ored (NZ.must (by decide)) (NZ.ored (NZ.must (by decide)) (NZ.must (by decide))))))
  have HP4 := Lib.hid (show P = none → p.params.length ≤ 4 by
    intro e
    rw [hP, ored_eq_none] at e
    simpa using must_none.1 e.1)
  have HX := Lib.hid hX
  have HB0 := Lib.hid hb0
  have HB1 := Lib.hid hb1
  have HB2 := Lib.hid hb2
  have HV := Lib.hid hV
  have HP := Lib.hid hP
  have HB3 := Lib.hid hb3
  have HB4 := Lib.hid hb4
  have HB5 := Lib.hid hb5
  have HM := Lib.hid hM
  have HT := Lib.hid hT
  have HR1 := Lib.hid hR1
  clear hX hb0 hb1 hb2 hb3 hb4 hb5 hV hP hM hT hR1
  have HCP := Lib.hid hcap
  obtain ⟨cn, cse, ⟨kA, kn, kc⟩, ⟨vA, vn, vc⟩, cs, ⟨tA, tn, tc⟩, ⟨A, n, cc⟩, cpl, csi, cq, ⟨zA, zn, zc⟩⟩ := c
  obtain rfl : cn = p.name := h.name
  obtain rfl : csi = p.silent := h.silent
  obtain rfl : cse = p.seats := h.seats
  have hx0 := ((Kept.refl (fun _ => False) w).alloc (.cells (Pc.cells (⟨p.name, p.seats, ⟨kA, kn, kc⟩, ⟨vA, vn, vc⟩, cs, ⟨tA, tn, tc⟩, ⟨A, n, cc⟩, cpl, p.silent, cq, ⟨zA, zn, zc⟩⟩ : Pc)) 26)).alloc (.cells #[.int .i64 0, .string ⟨#[]⟩] 38)
  have hB := (Blk.new w 26 (Pc.cells (⟨p.name, p.seats, ⟨kA, kn, kc⟩, ⟨vA, vn, vc⟩, cs, ⟨tA, tn, tc⟩, ⟨A, n, cc⟩, cpl, p.silent, cq, ⟨zA, zn, zc⟩⟩ : Pc))).alloc (.cells #[.int .i64 0, .string ⟨#[]⟩] 38)
  have hD := Blk.new' (w.alloc (.cells (Pc.cells (⟨p.name, p.seats, ⟨kA, kn, kc⟩, ⟨vA, vn, vc⟩, cs, ⟨tA, tn, tc⟩, ⟨A, n, cc⟩, cpl, p.silent, cq, ⟨zA, zn, zc⟩⟩ : Pc)) 26)) 38 #[.int .i64 0, .string ⟨#[]⟩] (w.heap.size + 1) (by simp)
  have HPA := Lib.hid (h.ext hx0 hN)
  have HNW := Lib.hid (Nat.le_trans hN hx0.size)
  have HNO := Lib.hid h.nameOk
  obtain ⟨hn, hf, hok, b, off, hA, hE⟩ := h.stakes.ext hx0
  have hm := hf.max (by omega)
  have HN := Lib.hid (show kn = p.stakes.length from hn)
  have HA := Lib.hid hA
  have HE := Lib.hid hE
  have HNN := Lib.hid (show n = p.params.length from h.params.1)
  have hnm := Fits.max (show Fits n 40 from h.params.2.1) (by omega)
  have hzm := Fits.max (show Fits zn 112 from h.pays.2.1) (by omega)
  have HZN := Lib.hid (show zn = p.pays.len from h.pays.1)
  clear hn hA hE hok hf h hcap
  go_enter Tryd.func28, Tryd.ntmps28
  go_upto_region 1 with (fail)
  generalize hW : ((w.alloc (.cells (Pc.cells (⟨p.name, p.seats, ⟨kA, kn, kc⟩, ⟨vA, vn, vc⟩, cs, ⟨tA, tn, tc⟩, ⟨A, n, cc⟩, cpl, p.silent, cq, ⟨zA, zn, zc⟩⟩ : Pc)) 26)).alloc (.cells #[.int .i64 0, .string ⟨#[]⟩] 38)) = W at hx0 hB hD HE HPA HNW ⊢
  clear hW
  obtain ⟨rb, hrb⟩ : ∃ rb, rb = w.heap.size + 1 := ⟨_, rfl⟩
  rw [← hrb] at hD ⊢
  have HRW := Lib.hid (show w.heap.size ≤ rb by omega)
  have HD := Lib.hid hD
  have HX0 := Lib.hid hx0
  have HB := Lib.hid hB
  clear hD hx0 hrb hB
  generalize w.heap.size = pb at HB ⊢
  have HXC := Lib.hid (Kept.refl (fun _ => False) W)
  have hDr := Blk.ext HD.out HXC.out
  have hmr := hDr.melts
  have hhr := Blk.has hDr
  have hlr := hDr.lt
  have hcP := Blk.cell (Blk.ext HB.out HXC.out)
  have hhP := Blk.has (Blk.ext HB.out HXC.out)
  have hgP := Blk.gets (Blk.ext HB.out HXC.out)
  have hlP := (Blk.ext HB.out HXC.out).lt
  go_wp2_with fail
  refine (risname_any p.name HNO.out _).mono ?_
  rintro e w1 ⟨rfl, hx1⟩
  clear hDr hmr hhr hlr hcP hhP hgP hlP
  have HXC := Lib.hid (HXC.out.trans hx1)
  clear hx1
  rw [← HB0.out]
  have hDr := Blk.ext HD.out HXC.out
  have hmr := hDr.melts
  have hhr := Blk.has hDr
  have hlr := hDr.lt
  have hcP := Blk.cell (Blk.ext HB.out HXC.out)
  have hhP := Blk.has (Blk.ext HB.out HXC.out)
  have hgP := Blk.gets (Blk.ext HB.out HXC.out)
  have hlP := (Blk.ext HB.out HXC.out).lt
  cases b0
  · have HR := Lib.hid (show X = some ⟨6, p.name⟩ by rw [HX.out, must_false, ored_some])
    go_wp2_with fail
    refine ret_cell (t := 38) (g := rb) (cs := fltC X) Tryd.results28 rfl rfl aggFaultR (by rw [HR.out]; exact sizeFaultR) (by rw [HR.out]; exact Blk.put_ hDr 0 _) ⟨rfl, ?_⟩
    exact (HX0.out.trans HXC.out).putAt _ _ _ (fun hlt => absurd hlt (by have := HRW.out; omega))
  · have HX1 := Lib.hid (show X = ored (must b1 2 sSeats) (ored (must b2 3 sStake) (ored (must (p.stakes.all (fun n => btw n 1 2147483647)) 2 sStake) R1)) by rw [HX.out, must_true, ored_none])
    clear HX
    go_wp2_with fail
    refine (in_any _ _ _ _).mono ?_
    rintro e w2 ⟨rfl, rfl⟩
    rw [← HB1.out]
    cases b1
    · have HR := Lib.hid (show X = some ⟨2, sSeats⟩ by rw [HX1.out, must_false, ored_some])
      go_wp2_with fail
      refine ret_cell (t := 38) (g := rb) (cs := fltC X) Tryd.results28 rfl rfl aggFaultR (by rw [HR.out]; exact sizeFaultR) (by rw [HR.out]; exact Blk.put_ hDr 0 _) ⟨rfl, ?_⟩
      exact (HX0.out.trans HXC.out).putAt _ _ _ (fun hlt => absurd hlt (by have := HRW.out; omega))
    · have HX2 := Lib.hid (show X = ored (must b2 3 sStake) (ored (must (p.stakes.all (fun n => btw n 1 2147483647)) 2 sStake) R1) by rw [HX1.out, must_true, ored_none])
      clear HX1
      have hb2 : ((kn : Int) == p.seats) = b2 := by rw [HB2.out, HN.out]
      have hb2n : ((kn : Int) != p.seats) = !b2 := by unfold bne; rw [hb2]
      cases b2
      · have HR := Lib.hid (show X = some ⟨3, sStake⟩ by rw [HX2.out, must_false, ored_some])
        go_wp2_with fail
        refine ret_cell (t := 38) (g := rb) (cs := fltC X) Tryd.results28 rfl rfl aggFaultR (by rw [HR.out]; exact sizeFaultR) (by rw [HR.out]; exact Blk.put_ hDr 0 _) ⟨rfl, ?_⟩
        exact (HX0.out.trans HXC.out).putAt _ _ _ (fun hlt => absurd hlt (by have := HRW.out; omega))
      · have HX3 := Lib.hid (show X = ored (must (p.stakes.all (fun n => btw n 1 2147483647)) 2 sStake) R1 by rw [HX2.out, must_true, ored_none])
        clear HX2 HB0 HB1 HB2
        go_wp2_with fail
        clear hb2 hb2n
        clear hDr hmr hhr hlr hcP hhP hgP hlP
        have HXS := HXC
        clear HXC
        go_loopw [3] (fun t3 wr => ∃ (j : Nat), j ≤ kn ∧ t3 = .int .i64 j ∧ ored (must ((p.stakes.drop j).all (fun n => btw n 1 2147483647)) 2 sStake) R1 = X ∧ Ext W wr) (fun t3 _ => kn - (intOf t3).toNat)
        case atStart => exact ⟨0, Nat.zero_le _, rfl, HX3.out.symm, HXS.out⟩
        case round =>
          obtain ⟨j, hj, rfl, hacc, hx⟩ := hrel
          have HXC := Lib.hid hx
          have HACC := Lib.hid hacc
          clear hx hacc HXS HX3
          have hDr := Blk.ext HD.out HXC.out
          have hmr := hDr.melts
          have hhr := Blk.has hDr
          have hlr := hDr.lt
          have hcP := Blk.cell (Blk.ext HB.out HXC.out)
          have hhP := Blk.has (Blk.ext HB.out HXC.out)
          have hgP := Blk.gets (Blk.ext HB.out HXC.out)
          have hlP := (Blk.ext HB.out HXC.out).lt
          by_cases hlt : j < kn
          · have hjl : j < p.stakes.length := by have := HN.out; omega
            have hltI : (j : Int) < kn := by omega
            obtain rfl := HA.out (by omega)
            have hrow := (HE.out (by omega)).2.ext HXC.out
            have hci := int_at hrow j hjl
            have hbw := hrow.lt
            obtain ⟨x, hxe⟩ : ∃ x, x = p.stakes[j] := ⟨_, rfl⟩
            have hdrop : p.stakes.drop j = x :: p.stakes.drop (j + 1) := by rw [hxe]; exact List.drop_eq_getElem_cons hjl
            rw [← hxe] at hci
            have hacc := HACC.out
            rw [hdrop, List.all_cons] at hacc
            have HACC := Lib.hid hacc
            clear hrow hxe hdrop hacc
            go_wp2_with fail
            refine (in_any _ _ _ _).mono ?_
            rintro e w2 ⟨rfl, rfl⟩
            obtain ⟨q, hq⟩ : ∃ q, q = btw x 1 2147483647 := ⟨_, rfl⟩
            rw [← hq] at HACC ⊢
            clear hq
            cases q
            · have HR := Lib.hid (show X = some ⟨2, sStake⟩ by rw [← HACC.out, Bool.false_and, must_false, ored_some])
              go_wp2_with fail
              refine ret_cell (t := 38) (g := rb) (cs := fltC X) Tryd.results28 rfl rfl aggFaultR (by rw [HR.out]; exact sizeFaultR) (by rw [HR.out]; exact Blk.put_ hDr 0 _) ⟨rfl, ?_⟩
              exact (HX0.out.trans HXC.out).putAt _ _ _ (fun hlt => absurd hlt (by have := HRW.out; omega))
            · have HA2 := Lib.hid HACC.out
              go_wp2_with fail
              exact ⟨⟨j + 1, hlt, by go_num, by rw [Bool.true_and] at HA2; exact HA2.out, HXC.out⟩, by simp only [intOf]; omega⟩
          · obtain rfl : j = kn := by omega
            have HX4 := Lib.hid (show X = ored V (ored P (ored (must b3 5 p.name) T)) by rw [← HR1.out, ← HACC.out, HN.out, List.drop_length, List.all_nil, must_true, ored_none])
            clear HACC HR1 hlt hj
            go_wp2_with fail
            refine (rvars_any p.vars vA vn vc N _ HCP.out.vars.1 (Nat.le_trans HNW.out HXC.out.size) (HPA.out.ext HXC.out HNW.out).vars).mono ?_
            rintro e w2 ⟨rfl, hx2⟩
            clear hDr hmr hhr hlr hcP hhP hgP hlP
            have HXC := Lib.hid (HXC.out.trans hx2)
            clear hx2
            rw [← HV.out]
            cases V with
            | some f =>
              obtain ⟨fe, fn⟩ := f
              have HNF := Lib.hid (NZ.out HNV.out rfl)
              have HR := Lib.hid (show X = some ⟨fe, fn⟩ by rw [HX4.out, ored_some])
              have y3 := (Kept.refl (fun _ => False) w2).alloc (.cells #[.int .i64 fe, .string fn] 38)
              have hV := Blk.new w2 38 #[.int .i64 fe, .string fn]
              go_upto_region 13 with (fail)
              generalize (w2.alloc (.cells #[.int .i64 fe, .string fn] 38)) = W3 at y3 hV ⊢
              generalize w2.heap.size = fb at hV ⊢
              have HY3 := Lib.hid (HXC.out.trans y3)
              have HFB := Lib.hid hV
              clear y3 hV HXC
              refine wp_region_3 (fun w1 => Ext W3 w1) [(0, 1), (1, 0), (2, 2)] (by kernel_rfl) (by kernel_rfl) (by kernel_rfl) (by kernel_rfl) ?_; intro l' hl'; simp only [List.map_cons, List.map_nil, List.getD_cons_zero, List.getD_cons_succ] at hl'; subst hl'
              have HZ0 := Lib.hid (show Ext W3 W3.drew from (Kept.refl _ W3).drew)
              (repeat (first | ((apply w3_pure); (· go_simp); (· (intro w1; go_simp; try with_reducible rfl)); (intro K hK; go_simp; refine hK _ _ ?_; clear hK K)) | ((apply w3_skip); (· go_simp); (intro K hK; go_simp; refine hK _ _ ?_; clear hK K)) | ((apply w3_take); (· exact HZ0.out); (· go_simp); (· (intro w1 hS; have d0 := Blk.ext HFB.out hS; have d1 := Blk.gets d0; have d2 := Blk.has d0; have d3 := d0.lt;  go_simp; try with_reducible rfl)); (intro K hK; go_simp; refine hK _ _ ?_; clear hK K)) | ((apply w3_pass); (· exact HZ0.out); (· go_simp); (intro K hK; go_simp; refine hK _ _ ?_; clear hK K))))
              (refine w3_act (fun K hK => ?_); go_simp)
              refine (fine_any _).mono ?_
              rintro e2 w4 ⟨rfl, hx4⟩
              have HZ1 := Lib.hid (HZ0.out.trans hx4)
              refine hK.out _ _ (fun _ => HZ1.out) ?_
              clear hK K hx4
              have hnz := HNF.out
              (repeat (first | ((apply w3_pure); (· go_simp); (· (intro w1; go_simp; try with_reducible rfl)); (intro K hK; go_simp; refine hK _ _ ?_; clear hK K)) | ((apply w3_skip); (· go_simp); (intro K hK; go_simp; refine hK _ _ ?_; clear hK K)) | (refine w3_end (by kernel_rfl) (fun K hK => ?_); go_simp; refine hK.out _ _ ?_; clear hK K))); refine w3_nil ?_
              have HXC := Lib.hid (HY3.out.trans HZ1.out)
              have hDr := Blk.ext HD.out HXC.out
              have hmr := hDr.melts
              have hhr := Blk.has hDr
              have hlr := hDr.lt
              have hcP := Blk.cell (Blk.ext HB.out HXC.out)
              have hhP := Blk.has (Blk.ext HB.out HXC.out)
              have hgP := Blk.gets (Blk.ext HB.out HXC.out)
              have hlP := (Blk.ext HB.out HXC.out).lt
              have hFr := Blk.ext HFB.out HZ1.out
              have hgf := Blk.gets hFr
              have hhf := Blk.has hFr
              have hlf := hFr.lt
              go_wp2_with fail
              refine ret_cell (t := 38) (g := rb) (cs := fltC X) Tryd.results28 rfl rfl aggFaultR (by rw [HR.out]; exact sizeFaultR) (by rw [HR.out]; exact Blk.put_ hDr 0 _) ⟨rfl, ?_⟩
              exact (HX0.out.trans HXC.out).putAt _ _ _ (fun hlt => absurd hlt (by have := HRW.out; omega))
            | none =>
              have HX5 := Lib.hid (show X = ored P (ored (must b3 5 p.name) T) by rw [HX4.out, ored_none])
              clear HX4 HV HNV
              have y3 := (Kept.refl (fun _ => False) w2).alloc (.cells #[.int .i64 0, .string ⟨#[]⟩] 38)
              have hV := Blk.new w2 38 #[.int .i64 0, .string ⟨#[]⟩]
              go_upto_region 13 with (fail)
              generalize (w2.alloc (.cells #[.int .i64 0, .string ⟨#[]⟩] 38)) = W3 at y3 hV ⊢
              generalize w2.heap.size = fb at hV ⊢
              have HY3 := Lib.hid (HXC.out.trans y3)
              have HFB := Lib.hid hV
              clear y3 hV HXC
              refine wp_region_3 (fun w1 => Ext W3 w1) [(0, 1), (1, 0), (2, 2)] (by kernel_rfl) (by kernel_rfl) (by kernel_rfl) (by kernel_rfl) ?_; intro l' hl'; simp only [List.map_cons, List.map_nil, List.getD_cons_zero, List.getD_cons_succ] at hl'; subst hl'
              have HZ0 := Lib.hid (show Ext W3 W3.drew from (Kept.refl _ W3).drew)
              (repeat (first | ((apply w3_pure); (· go_simp); (· (intro w1; go_simp; try with_reducible rfl)); (intro K hK; go_simp; refine hK _ _ ?_; clear hK K)) | ((apply w3_skip); (· go_simp); (intro K hK; go_simp; refine hK _ _ ?_; clear hK K)) | ((apply w3_take); (· exact HZ0.out); (· go_simp); (· (intro w1 hS; have d0 := Blk.ext HFB.out hS; have d1 := Blk.gets d0; have d2 := Blk.has d0; have d3 := d0.lt;  go_simp; try with_reducible rfl)); (intro K hK; go_simp; refine hK _ _ ?_; clear hK K)) | ((apply w3_pass); (· exact HZ0.out); (· go_simp); (intro K hK; go_simp; refine hK _ _ ?_; clear hK K))))
              (refine w3_act (fun K hK => ?_); go_simp)
              refine (fine_any _).mono ?_
              rintro e2 w4 ⟨rfl, hx4⟩
              have HZ1 := Lib.hid (HZ0.out.trans hx4)
              refine hK.out _ _ (fun _ => HZ1.out) ?_
              clear hK K hx4
              (repeat (first | ((apply w3_pure); (· go_simp); (· (intro w1; go_simp; try with_reducible rfl)); (intro K hK; go_simp; refine hK _ _ ?_; clear hK K)) | ((apply w3_skip); (· go_simp); (intro K hK; go_simp; refine hK _ _ ?_; clear hK K)) | (refine w3_end (by kernel_rfl) (fun K hK => ?_); go_simp; refine hK.out _ _ ?_; clear hK K))); refine w3_nil ?_
              have HXC := Lib.hid (HY3.out.trans HZ1.out)
              clear HY3 HZ0 HZ1 HFB
              have hDr := Blk.ext HD.out HXC.out
              have hmr := hDr.melts
              have hhr := Blk.has hDr
              have hlr := hDr.lt
              have hcP := Blk.cell (Blk.ext HB.out HXC.out)
              have hhP := Blk.has (Blk.ext HB.out HXC.out)
              have hgP := Blk.gets (Blk.ext HB.out HXC.out)
              have hlP := (Blk.ext HB.out HXC.out).lt
              go_wp2_with fail
              refine (rpars_any (⟨p.name, p.seats, ⟨kA, j, kc⟩, ⟨vA, vn, vc⟩, cs, ⟨tA, tn, tc⟩, ⟨A, n, cc⟩, cpl, p.silent, cq, ⟨zA, zn, zc⟩⟩ : Pc) p N _ (Nat.le_trans HNW.out HXC.out.size) (HPA.out.ext HXC.out HNW.out) HCP.out.params.1).mono ?_
              rintro e w2 ⟨rfl, hx2⟩
              clear hDr hmr hhr hlr hcP hhP hgP hlP
              have HXC := Lib.hid (HXC.out.trans hx2)
              clear hx2
              rw [← HP.out]
              cases P with
              | some f =>
                obtain ⟨fe, fn⟩ := f
                have HNF := Lib.hid (NZ.out HNP.out rfl)
                have HR := Lib.hid (show X = some ⟨fe, fn⟩ by rw [HX5.out, ored_some])
                have y3 := (Kept.refl (fun _ => False) w2).alloc (.cells #[.int .i64 fe, .string fn] 38)
                have hV := Blk.new w2 38 #[.int .i64 fe, .string fn]
                go_upto_region 16 with (fail)
                generalize (w2.alloc (.cells #[.int .i64 fe, .string fn] 38)) = W3 at y3 hV ⊢
                generalize w2.heap.size = fb at hV ⊢
                have HY3 := Lib.hid (HXC.out.trans y3)
                have HFB := Lib.hid hV
                clear y3 hV HXC
                refine wp_region_3 (fun w1 => Ext W3 w1) [(0, 1), (1, 0), (2, 2)] (by kernel_rfl) (by kernel_rfl) (by kernel_rfl) (by kernel_rfl) ?_; intro l' hl'; simp only [List.map_cons, List.map_nil, List.getD_cons_zero, List.getD_cons_succ] at hl'; subst hl'
                have HZ0 := Lib.hid (show Ext W3 W3.drew from (Kept.refl _ W3).drew)
                (repeat (first | ((apply w3_pure); (· go_simp); (· (intro w1; go_simp; try with_reducible rfl)); (intro K hK; go_simp; refine hK _ _ ?_; clear hK K)) | ((apply w3_skip); (· go_simp); (intro K hK; go_simp; refine hK _ _ ?_; clear hK K)) | ((apply w3_take); (· exact HZ0.out); (· go_simp); (· (intro w1 hS; have d0 := Blk.ext HFB.out hS; have d1 := Blk.gets d0; have d2 := Blk.has d0; have d3 := d0.lt;  go_simp; try with_reducible rfl)); (intro K hK; go_simp; refine hK _ _ ?_; clear hK K)) | ((apply w3_pass); (· exact HZ0.out); (· go_simp); (intro K hK; go_simp; refine hK _ _ ?_; clear hK K))))
                (refine w3_act (fun K hK => ?_); go_simp)
                refine (fine_any _).mono ?_
                rintro e2 w4 ⟨rfl, hx4⟩
                have HZ1 := Lib.hid (HZ0.out.trans hx4)
                refine hK.out _ _ (fun _ => HZ1.out) ?_
                clear hK K hx4
                have hnz := HNF.out
                (repeat (first | ((apply w3_pure); (· go_simp); (· (intro w1; go_simp; try with_reducible rfl)); (intro K hK; go_simp; refine hK _ _ ?_; clear hK K)) | ((apply w3_skip); (· go_simp); (intro K hK; go_simp; refine hK _ _ ?_; clear hK K)) | (refine w3_end (by kernel_rfl) (fun K hK => ?_); go_simp; refine hK.out _ _ ?_; clear hK K))); refine w3_nil ?_
                have HXC := Lib.hid (HY3.out.trans HZ1.out)
                have hDr := Blk.ext HD.out HXC.out
                have hmr := hDr.melts
                have hhr := Blk.has hDr
                have hlr := hDr.lt
                have hcP := Blk.cell (Blk.ext HB.out HXC.out)
                have hhP := Blk.has (Blk.ext HB.out HXC.out)
                have hgP := Blk.gets (Blk.ext HB.out HXC.out)
                have hlP := (Blk.ext HB.out HXC.out).lt
                have hFr := Blk.ext HFB.out HZ1.out
                have hgf := Blk.gets hFr
                have hhf := Blk.has hFr
                have hlf := hFr.lt
                go_wp2_with fail
                refine ret_cell (t := 38) (g := rb) (cs := fltC X) Tryd.results28 rfl rfl aggFaultR (by rw [HR.out]; exact sizeFaultR) (by rw [HR.out]; exact Blk.put_ hDr 0 _) ⟨rfl, ?_⟩
                exact (HX0.out.trans HXC.out).putAt _ _ _ (fun hlt => absurd hlt (by have := HRW.out; omega))
              | none =>
                have HX6 := Lib.hid (show X = ored (must b3 5 p.name) T by rw [HX5.out, ored_none])
                have HP5 := Lib.hid (show n ≤ 4 by have := HP4.out rfl; have := HNN.out; omega)
                clear HX5 HP HNP HP4
                have y3 := (Kept.refl (fun _ => False) w2).alloc (.cells #[.int .i64 0, .string ⟨#[]⟩] 38)
                have hV := Blk.new w2 38 #[.int .i64 0, .string ⟨#[]⟩]
                go_upto_region 16 with (fail)
                generalize (w2.alloc (.cells #[.int .i64 0, .string ⟨#[]⟩] 38)) = W3 at y3 hV ⊢
                generalize w2.heap.size = fb at hV ⊢
                have HY3 := Lib.hid (HXC.out.trans y3)
                have HFB := Lib.hid hV
                clear y3 hV HXC
                refine wp_region_3 (fun w1 => Ext W3 w1) [(0, 1), (1, 0), (2, 2)] (by kernel_rfl) (by kernel_rfl) (by kernel_rfl) (by kernel_rfl) ?_; intro l' hl'; simp only [List.map_cons, List.map_nil, List.getD_cons_zero, List.getD_cons_succ] at hl'; subst hl'
                have HZ0 := Lib.hid (show Ext W3 W3.drew from (Kept.refl _ W3).drew)
                (repeat (first | ((apply w3_pure); (· go_simp); (· (intro w1; go_simp; try with_reducible rfl)); (intro K hK; go_simp; refine hK _ _ ?_; clear hK K)) | ((apply w3_skip); (· go_simp); (intro K hK; go_simp; refine hK _ _ ?_; clear hK K)) | ((apply w3_take); (· exact HZ0.out); (· go_simp); (· (intro w1 hS; have d0 := Blk.ext HFB.out hS; have d1 := Blk.gets d0; have d2 := Blk.has d0; have d3 := d0.lt;  go_simp; try with_reducible rfl)); (intro K hK; go_simp; refine hK _ _ ?_; clear hK K)) | ((apply w3_pass); (· exact HZ0.out); (· go_simp); (intro K hK; go_simp; refine hK _ _ ?_; clear hK K))))
                (refine w3_act (fun K hK => ?_); go_simp)
                refine (fine_any _).mono ?_
                rintro e2 w4 ⟨rfl, hx4⟩
                have HZ1 := Lib.hid (HZ0.out.trans hx4)
                refine hK.out _ _ (fun _ => HZ1.out) ?_
                clear hK K hx4
                (repeat (first | ((apply w3_pure); (· go_simp); (· (intro w1; go_simp; try with_reducible rfl)); (intro K hK; go_simp; refine hK _ _ ?_; clear hK K)) | ((apply w3_skip); (· go_simp); (intro K hK; go_simp; refine hK _ _ ?_; clear hK K)) | (refine w3_end (by kernel_rfl) (fun K hK => ?_); go_simp; refine hK.out _ _ ?_; clear hK K))); refine w3_nil ?_
                have HXC := Lib.hid (HY3.out.trans HZ1.out)
                clear HY3 HZ0 HZ1 HFB
                have hDr := Blk.ext HD.out HXC.out
                have hmr := hDr.melts
                have hhr := Blk.has hDr
                have hlr := hDr.lt
                have hcP := Blk.cell (Blk.ext HB.out HXC.out)
                have hhP := Blk.has (Blk.ext HB.out HXC.out)
                have hgP := Blk.gets (Blk.ext HB.out HXC.out)
                have hlP := (Blk.ext HB.out HXC.out).lt
                go_wp2_with fail
                refine (rsize_any (⟨p.name, p.seats, ⟨kA, j, kc⟩, ⟨vA, vn, vc⟩, cs, ⟨tA, tn, tc⟩, ⟨A, n, cc⟩, cpl, p.silent, cq, ⟨zA, zn, zc⟩⟩ : Pc) p N _ (Nat.le_trans HNW.out HXC.out.size) (HPA.out.ext HXC.out HNW.out)).mono ?_
                rintro e w2 ⟨rfl, hx2⟩
                clear hDr hmr hhr hlr hcP hhP hgP hlP
                have HXC := Lib.hid (HXC.out.trans hx2)
                clear hx2
                obtain ⟨sz, hsz⟩ : ∃ sz, sz = w64 (psize p) := ⟨_, rfl⟩
                rw [← hsz] at HB3 ⊢
                have hDr := Blk.ext HD.out HXC.out
                have hmr := hDr.melts
                have hhr := Blk.has hDr
                have hlr := hDr.lt
                have hcP := Blk.cell (Blk.ext HB.out HXC.out)
                have hhP := Blk.has (Blk.ext HB.out HXC.out)
                have hgP := Blk.gets (Blk.ext HB.out HXC.out)
                have hlP := (Blk.ext HB.out HXC.out).lt
                by_cases h1000 : sz > 1000
                · have HR := Lib.hid (show X = some ⟨5, p.name⟩ by rw [HX6.out, HB3.out, decide_eq_false (by omega), must_false, ored_some])
                  go_wp2_with fail
                  refine ret_cell (t := 38) (g := rb) (cs := fltC X) Tryd.results28 rfl rfl aggFaultR (by rw [HR.out]; exact sizeFaultR) (by rw [HR.out]; exact Blk.put_ hDr 0 _) ⟨rfl, ?_⟩
                  exact (HX0.out.trans HXC.out).putAt _ _ _ (fun hlt => absurd hlt (by have := HRW.out; omega))
                · have HX7 := Lib.hid (show X = T by rw [HX6.out, HB3.out, decide_eq_true (by omega), must_true, ored_none])
                  clear HX6 HB3 hsz
                  obtain ⟨-, -, -, pb2, po2, hA2, hE2⟩ := HPA.out.params
                  have HA2 := Lib.hid hA2
                  have HE2 := Lib.hid hE2
                  clear hA2 hE2
                  go_wp2_with fail
                  have y0 := (Kept.refl (fun _ => False) w2).alloc (.cells (partCells (⟨p.name, p.seats, ⟨kA, j, kc⟩, ⟨vA, vn, vc⟩, cs, ⟨tA, tn, tc⟩, ⟨A, n, cc⟩, cpl, p.silent, cq, ⟨zA, zn, zc⟩⟩ : Pc)) 24)
                  have hab := Blk.new w2 24 (partCells (⟨p.name, p.seats, ⟨kA, j, kc⟩, ⟨vA, vn, vc⟩, cs, ⟨tA, tn, tc⟩, ⟨A, n, cc⟩, cpl, p.silent, cq, ⟨zA, zn, zc⟩⟩ : Pc))
                  clear hDr hmr hhr hlr hcP hhP hgP hlP
                  generalize hW5 : (w2.alloc (.cells (partCells (⟨p.name, p.seats, ⟨kA, j, kc⟩, ⟨vA, vn, vc⟩, cs, ⟨tA, tn, tc⟩, ⟨A, n, cc⟩, cpl, p.silent, cq, ⟨zA, zn, zc⟩⟩ : Pc)) 24)) = W5 at y0 hab ⊢
                  generalize w2.heap.size = ab at hab ⊢
                  have HAB := Lib.hid hab
                  have HXS := Lib.hid (HXC.out.trans y0)
                  clear hW5 hab y0 HXC h1000
                  go_loopw [7] (fun t7 wr => ∃ (i : Nat), i ≤ 5 ∧ t7 = .int .i64 i ∧ from5 p M i = X ∧ Ext W5 wr) (fun t7 _ => 5 - (intOf t7).toNat)
                  case atStart => exact ⟨0, by omega, rfl, by rw [← HT.out]; exact HX7.out.symm, Kept.refl _ _⟩
                  case round =>
                    obtain ⟨i, hi5, rfl, hacc, hx⟩ := hrel
                    have HXW := Lib.hid hx
                    have HXC := Lib.hid (HXS.out.trans hx)
                    have HACC := Lib.hid hacc
                    clear hx hacc
                    by_cases hlt : i < 5
                    · have hltI : (i : Int) < 5 := by omega
                      have HLT := Lib.hid hlt
                      have HAW := Lib.hid (Blk.ext HAB.out HXW.out)
                      obtain ⟨kb, hkb⟩ : ∃ kb, kb = wr.heap.size := ⟨_, rfl⟩
                      have y1 := (Kept.refl (fun _ => False) wr).alloc (.cells (knCells (⟨p.name, p.seats, ⟨kA, j, kc⟩, ⟨vA, vn, vc⟩, cs, ⟨tA, tn, tc⟩, ⟨A, n, cc⟩, cpl, p.silent, cq, ⟨zA, zn, zc⟩⟩ : Pc) none 0 0) 96)
                      have hkB := Blk.new wr 96 (knCells (⟨p.name, p.seats, ⟨kA, j, kc⟩, ⟨vA, vn, vc⟩, cs, ⟨tA, tn, tc⟩, ⟨A, n, cc⟩, cpl, p.silent, cq, ⟨zA, zn, zc⟩⟩ : Pc) none 0 0)
                      rw [← hkb] at hkB
                      have hDr := Blk.ext HD.out HXC.out
                      have hmr := hDr.melts
                      have hhr := Blk.has hDr
                      have hlr := hDr.lt
                      have hcP := Blk.cell (Blk.ext HB.out HXC.out)
                      have hhP := Blk.has (Blk.ext HB.out HXC.out)
                      have hgP := Blk.gets (Blk.ext HB.out HXC.out)
                      have hlP := (Blk.ext HB.out HXC.out).lt
                      go_wp2_with fail
                      clear hDr hmr hhr hlr hcP hhP hgP hlP
                      try rw [← hkb]
                      generalize hW6 : (wr.alloc (.cells (knCells (⟨p.name, p.seats, ⟨kA, j, kc⟩, ⟨vA, vn, vc⟩, cs, ⟨tA, tn, tc⟩, ⟨A, n, cc⟩, cpl, p.silent, cq, ⟨zA, zn, zc⟩⟩ : Pc) none 0 0) 96)) = W6 at y1 hkB ⊢
                      have HY1 := Lib.hid y1
                      have HKB := Lib.hid hkB
                      have HKE := Lib.hid hkb
                      clear hW6 y1 hkB hkb
                      go_loopw [9] (fun t9 wq => ∃ (q : Nat) (B : Option Addr) (bc : Nat), q ≤ n ∧ (¬ i = 2 → q = 0) ∧ t9 = .int .i64 q ∧ Blk wq kb 96 (knCells (⟨p.name, p.seats, ⟨kA, j, kc⟩, ⟨vA, vn, vc⟩, cs, ⟨tA, tn, tc⟩, ⟨A, n, cc⟩, cpl, p.silent, cq, ⟨zA, zn, zc⟩⟩ : Pc) B q bc) ∧ wq.ownsRow (kb + 1) 9 1 (.slice B q bc) q (rowsL strC ((p.params.map Vr.name).take q)) ∧ Ext wr wq) (fun t9 _ => n - (intOf t9).toNat)
                      case atStart => exact ⟨0, none, 0, Nat.zero_le _, fun _ => rfl, rfl, HKB.out, World.ownsRow_nil _ _ _ _, HY1.out⟩
                      case round =>
                        obtain ⟨q, B, bc, hq, hq2, rfl, hkq, how, hx⟩ := hrel
                        have HKQ := Lib.hid hkq
                        have HOW := Lib.hid how
                        have HXQ := Lib.hid hx
                        have HXB := Lib.hid (HXC.out.trans hx)
                        have HQ2 := Lib.hid hq2
                        clear hkq how hx hq2
                        have hcP := Blk.cell (Blk.ext HB.out HXB.out)
                        have hlP := (Blk.ext HB.out HXB.out).lt
                        by_cases hqn : q < n
                        · have hqI : (q : Int) < n := by omega
                          by_cases hi2 : i = 2
                          · have hi2b : ((i : Int) == 2) = true := by simp [hi2]
                            have HI2 := Lib.hid hi2
                            clear hi2
                            have hql : q < p.params.length := by have := HNN.out; omega
                            obtain rfl := HA2.out (by omega)
                            have hrow := ((HE2.out (by omega)).2.ext HXB.out)
                            obtain ⟨hh', hg'⟩ := vr_at hrow q hql
                            have hbw := hrow.lt
                            obtain ⟨x, hxe⟩ : ∃ x, x = p.params[q] := ⟨_, rfl⟩
                            rw [← hxe] at hg'
                            have htk : (p.params.map Vr.name).take (q + 1) = (p.params.map Vr.name).take q ++ [x.name] := by
                              rw [List.take_add_one, List.getElem?_map, List.getElem?_eq_getElem hql, hxe]
                              rfl
                            have HTK := Lib.hid htk
                            have HH := Lib.hid hh'
                            have HG := Lib.hid hg'
                            have HOL := Lib.hid (show ¬ kb < pb2 ∧ ¬ kb < pb ∧ pb2 < wr.heap.size ∧ pb < wr.heap.size ∧ kb < wr.heap.size from ⟨by
                              have h1 := (HE2.out (by omega)).1
                              have h2 := HNW.out
                              have h3 := HXC.out.size
                              have h4 := HKE.out
                              omega, by
                              have h1 := (Blk.ext HB.out HXC.out).lt
                              have h4 := HKE.out
                              omega, hbw, hlP, HKQ.out.lt⟩)
                            clear hrow hxe htk hh' hg' hbw
                            go_upto_region 28 with (fail)
                            clear hcP hlP
                            refine wp_region_3 (fun w1 => Kept (fun g => kb < g) wr w1) [(0, 2), (1, 1), (2, 2), (3, 1), (4, 2), (5, 2), (6, 2), (7, 1), (8, 0), (9, 0), (10, 2), (11, 0)] (by kernel_rfl) (by kernel_rfl) (by kernel_rfl) (by kernel_rfl) ?_; intro l' hl'; simp only [List.map_cons, List.map_nil, List.getD_cons_zero, List.getD_cons_succ] at hl'; subst hl'
                            have HZ0 := Lib.hid (show Kept (fun g => kb < g) wr wr.drew from (Kept.refl _ wr).drew)
                            (repeat (first | ((apply w3_pure); (· go_simp); (· (intro w1; go_simp; try with_reducible rfl)); (intro K hK; go_simp; refine hK _ _ ?_; clear hK K)) | ((apply w3_skip); (· go_simp); (intro K hK; go_simp; refine hK _ _ ?_; clear hK K)) | ((apply w3_take); (· exact HZ0.out); (· go_simp); (· (intro w1 hS; have d0 := Blk.kept HKQ.out hS (Nat.lt_irrefl _); have d1 := Blk.cell d0; have d3 := d0.lt; have d4 := Blk.kept (Blk.ext HB.out HXB.out) hS HOL.out.2.1; have d5 := Blk.cell d4; have d6 := d4.lt; have d7 := (has_keep hS HOL.out.2.2.1 HOL.out.1).trans HH.out; have d8 := (gets_keep hS HOL.out.2.2.1 HOL.out.1).trans HG.out; have d9 := Nat.lt_of_lt_of_le HOL.out.2.2.1 hS.size; have d10 : w1.cell? ⟨pb2, po2 + q * 4, none⟩ = some (.string x.name) := cell_gets0 d7 d8 (by omega);  go_simp; try with_reducible rfl)); (intro K hK; go_simp; refine hK _ _ ?_; clear hK K)) | ((apply w3_pass); (· exact HZ0.out); (· go_simp); (intro K hK; go_simp; refine hK _ _ ?_; clear hK K))))
                            (refine w3_act (fun K hK => ?_); go_simp)
                            have y1 : Kept (fun g => kb < g) wr (wr.alloc (.cells #[.string x.name] 9)).drew := ((Kept.refl _ wr).alloc _).drew
                            have q6 : Blk (wr.alloc (.cells #[.string x.name] 9)).drew wr.heap.size 9 #[.string x.name] := (Blk.new wr _ _).drew
                            have own := own_ext HOW.out (show Ext wr (wr.alloc (.cells #[.string x.name] 9)).drew from ((Kept.refl _ wr).alloc _).drew)
                            refine hK.out _ _ (fun _ => y1) ?_
                            clear hK K
                            generalize (wr.alloc (.cells #[.string x.name] 9)).drew = V3 at y1 q6 own ⊢
                            obtain ⟨u6, hu6⟩ : ∃ u, u = wr.heap.size := ⟨_, rfl⟩
                            rw [← hu6] at q6 ⊢
                            obtain ⟨v', V4, hrun, ho', hk', -⟩ := appR (f := strC) elemStr (fun _ => rfl) (fun _ => rfl) V3 (kb + 1) (.slice B q bc) q ((p.params.map Vr.name).take q) own u6 0 1 1 [x.name] rfl (Row.of_blk q6) (by have := HP5.out; omega) (by have := HOL.out.2.2.2.2; have := y1.size; omega)
                            have y4 : Kept (fun g => kb < g) wr V4 := y1.trans (hk'.mono (fun i _ e => by have := (own.lt i e).1; omega))
                            refine w3_act (fun K hK => ?_)
                            refine iff_want rfl ?_
                            refine Lib.wp_append_run _ _ _ _ _ rfl _ _ rfl rfl _ _ hrun ?_
                            refine hK.out _ _ (fun _ => y4) ?_
                            clear hK K hrun
                            have hkB := Blk.kept HKQ.out y4 (Nat.lt_irrefl _)
                            have hcK := Blk.cell hkB
                            have hzK := Blk.frozen hkB
                            have hlK := hkB.lt
                            rw [← HTK.out] at ho'
                            obtain ⟨g2, c2, rfl, hrow2, hg2, -⟩ := own_rows ho' (by omega) (by omega)
                            (repeat (first | ((apply w3_pure); (· go_simp); (· (intro w1; go_simp; try with_reducible rfl)); (intro K hK; go_simp; refine hK _ _ ?_; clear hK K)) | ((apply w3_skip); (· go_simp); (intro K hK; go_simp; refine hK _ _ ?_; clear hK K)) | (refine w3_end (by kernel_rfl) (fun K hK => ?_); go_simp; refine hK.out _ _ ?_; clear hK K))); refine w3_nil ?_
                            have hk9 : Kept (fun g => kb ≤ g) wr (V4.setCell ⟨kb, 11, none⟩ (.slice (some ⟨g2, 0, none⟩) (q + 1) c2)) := (y4.mono (fun i _ h => Nat.le_of_lt h)).setCell _ _ (fun _ => Nat.le_refl _)
                            have hb9 : Blk (V4.setCell ⟨kb, 11, none⟩ (.slice (some ⟨g2, 0, none⟩) (q + 1) c2)) kb 96 (knCells (⟨p.name, p.seats, ⟨kA, j, kc⟩, ⟨vA, vn, vc⟩, cs, ⟨tA, tn, tc⟩, ⟨some ⟨pb2, po2, none⟩, n, cc⟩, cpl, p.silent, cq, ⟨zA, zn, zc⟩⟩ : Pc) (some ⟨g2, 0, none⟩) (q + 1) c2) := by
                              have q := Blk.set_ hkB 11 (.slice (some ⟨g2, 0, none⟩) (q + 1) c2)
                              exact q
                            have ho9 := own_kept ho' ((Kept.refl (· = kb) V4).setCell ⟨kb, 11, none⟩ (.slice (some ⟨g2, 0, none⟩) (q + 1) c2) (fun _ => rfl)) (fun g e => by
                              have e2 : g2 = g := Option.some.inj e
                              omega)
                            generalize V4.setCell ⟨kb, 11, none⟩ (.slice (some ⟨g2, 0, none⟩) (q + 1) c2) = V9 at hk9 hb9 ho9 ⊢
                            have HX9 := Lib.hid (HXQ.out.trans' hk9 (fun i hi q => by have := HKE.out; omega))
                            clear hcK hzK hlK hkB
                            go_wp2_with fail
                            go_roundw
                            case rel => exact ⟨q + 1, some ⟨g2, 0, none⟩, c2, hqn, fun h => absurd HI2.out h, by go_num, hb9, ho9, HX9.out⟩
                            case measure => simp only [intOf]; omega
                          · have hi2b : ((i : Int) == 2) = false := by simp; omega
                            have HPL := Lib.hid (show ¬ i = 3 → (p.params.map Vr.name).take q = plOf p i from fun h3 => by
                              rw [HQ2.out hi2]
                              rcases (by omega : i = 0 ∨ i = 1 ∨ i = 4) with rfl | rfl | rfl <;> rfl)
                            obtain ⟨hst, hbn⟩ := owns_str2 HOW.out (by rw [List.length_take, List.length_map]; have := HNN.out; omega) (by have := HP5.out; omega)
                            have HAQ := Lib.hid (Blk.ext HAW.out HXQ.out)
                            by_cases hi3 : i = 3
                            · have hi3b : ((i : Int) == 3) = true := by simp [hi3]
                              have HI3 := Lib.hid hi3
                              clear hi3
                              have y1 : Ext wr _ := (Kept.refl (fun _ => False) wr).alloc (.cells #[.string p.silent] 9)
                              have q6 := Blk.new wr 9 #[.string p.silent]
                              have hkB := Blk.ext HKQ.out y1
                              have hcK := Blk.cell hkB
                              have hzK := Blk.frozen hkB
                              have hlK := hkB.lt
                              have HAV := Lib.hid (Blk.ext HAQ.out y1)
                              go_upto_region 31 with (fail)
                              have hk9 : Kept (fun g => kb ≤ g) wr ((wr.alloc (.cells #[.string p.silent] 9)).setCell ⟨kb, 11, none⟩ (.slice (some ⟨wr.heap.size, 0, none⟩) 1 1)) := (y1.mono (fun i _ h => h.elim)).setCell _ _ (fun _ => Nat.le_refl _)
                              have hb9 : Blk ((wr.alloc (.cells #[.string p.silent] 9)).setCell ⟨kb, 11, none⟩ (.slice (some ⟨wr.heap.size, 0, none⟩) 1 1)) kb 96 (knCells (⟨p.name, p.seats, ⟨kA, j, kc⟩, ⟨vA, vn, vc⟩, cs, ⟨tA, tn, tc⟩, ⟨A, n, cc⟩, cpl, p.silent, cq, ⟨zA, zn, zc⟩⟩ : Pc) (some ⟨wr.heap.size, 0, none⟩) 1 1) := by
                                have q := Blk.set_ hkB 11 (.slice (some ⟨wr.heap.size, 0, none⟩) 1 1)
                                exact q
                              have hke : Kept (· = kb) (wr.alloc (.cells #[.string p.silent] 9)) ((wr.alloc (.cells #[.string p.silent] 9)).setCell ⟨kb, 11, none⟩ (.slice (some ⟨wr.heap.size, 0, none⟩) 1 1)) := (Kept.refl _ _).setCell _ _ (fun _ => rfl)
                              have hne : ¬ wr.heap.size = kb := by have := HKQ.out.lt; omega
                              have hrw := (Row.of_blk q6).kept hke hne
                              have hq6 := Blk.kept q6 hke hne
                              have haq := Blk.kept HAV.out hke (fun e => by
                                have h1 := HAW.out.lt
                                have h2 := HKE.out
                                omega)
                              generalize ((wr.alloc (.cells #[.string p.silent] 9)).setCell ⟨kb, 11, none⟩ (.slice (some ⟨wr.heap.size, 0, none⟩) 1 1)) = V9 at hk9 hb9 hrw hq6 haq ⊢
                              generalize wr.heap.size = u6 at hb9 hrw hq6 ⊢
                              have HXQ2 := Lib.hid (HXQ.out.trans' hk9 (fun i hi q => by have := HKE.out; omega))
                              clear hcK hzK hlK hkB y1 q6 hke hne HXQ HXB HKQ HOW HAQ HAV hk9 hst hbn hcP hlP
                              obtain ⟨wr, hwq⟩ : ∃ w, w = V9 := ⟨_, rfl⟩
                              subst hwq
                              have HXQ := HXQ2
                              have HXB := Lib.hid (HXC.out.trans HXQ.out)
                              have HKQ := Lib.hid hb9
                              have HAQ := Lib.hid haq
                              have HST := Lib.hid (show StrSl wr wr.heap.size (some ⟨u6, 0, none⟩) 1 (plOf p i) by
                                rw [HI3.out]
                                exact ⟨rfl, by omega, u6, 0, fun _ => rfl, fun _ => ⟨hq6.lt, hrw⟩⟩)
                              have HBN := Lib.hid (show (some ⟨u6, 0, none⟩ : Option Addr) = none → 1 = 0 from fun h => nomatch h)
                              clear hb9 hrw hq6 haq HXQ2
                              obtain ⟨⟨sA, sn, sc⟩, hs⟩ : ∃ s, s = slP (⟨p.name, p.seats, ⟨kA, j, kc⟩, ⟨vA, vn, vc⟩, cs, ⟨tA, tn, tc⟩, ⟨A, n, cc⟩, cpl, p.silent, cq, ⟨zA, zn, zc⟩⟩ : Pc) i := ⟨_, rfl⟩
                              have hpt := (HPA.out.ext HXB.out HNW.out).part i
                              have hac := part_cell (⟨p.name, p.seats, ⟨kA, j, kc⟩, ⟨vA, vn, vc⟩, cs, ⟨tA, tn, tc⟩, ⟨A, n, cc⟩, cpl, p.silent, cq, ⟨zA, zn, zc⟩⟩ : Pc) i hlt
                              rw [← hs] at hpt hac
                              have HSS := Lib.hid hpt
                              have HAC := Lib.hid (show (partCells (⟨p.name, p.seats, ⟨kA, j, kc⟩, ⟨vA, vn, vc⟩, cs, ⟨tA, tn, tc⟩, ⟨A, n, cc⟩, cpl, p.silent, cq, ⟨zA, zn, zc⟩⟩ : Pc))[i]? = some (Value.slice sA sn sc) from hac)
                              clear hs hpt hac
                              obtain ⟨f, hf⟩ : ∃ f, f = chkP p i := ⟨_, rfl⟩
                              have HIK := Lib.hid (fun w' (hw' : Ext wr w') (hs' : StrSl w' w'.heap.size (some ⟨u6, 0, none⟩) 1 (plOf p i)) => rblock_any (⟨p.name, p.seats, ⟨kA, j, kc⟩, ⟨vA, vn, vc⟩, cs, ⟨tA, tn, tc⟩, ⟨A, n, cc⟩, cpl, p.silent, cq, ⟨zA, zn, zc⟩⟩ : Pc) p i hlt N wr (Nat.le_trans HNW.out HXB.out.size) (HPA.out.ext HXB.out HNW.out) (partOf p i) 0 true (some ⟨u6, 0, none⟩) 1 1 (plOf p i) sA sn sc w' hw' hs' HBN.out (plOf_len p i (by have := HNN.out; have := HP5.out; omega)) (by omega) HSS.out)
                              have HF := Lib.hid (show chkB i (updAll (knV p.vars) (plOf p i)) 0 true (partOf p i) = f by rw [hf, chkP, knOf_pl])
                              have HX9 := Lib.hid (show X = ored f (from5 p M (i + 1)) by rw [hf, ← HACC.out, from5_lt p M i hlt])
                              have HNZ := Lib.hid (show NZ f by rw [hf, chkP]; exact nz_chkB _ _ _ _ _)
                              clear hf
                              apply meet (F := fun W2 fb => Ext wr W2 ∧ Blk W2 fb 38 (fltC f))
                              case h =>
                                intro KEY0
                                have KEY := Lib.hid KEY0
                                clear KEY0
                                refine wp_region_4 (fun w1 => Ext wr w1) (.op 0 1 (.op 1 2 (.op 2 2 (.op 3 2 (.op 4 1 (.op 5 2 (.fork 6 (.op 7 0 (.op 8 0 .nil)) 7 (.op 6 0 (.op 8 0 .nil))))))))) (by kernel_rfl) (by kernel_rfl) (by kernel_rfl) (by kernel_rfl) ?_; intro p' hp'; simp only [Pl0.fill, List.getD_cons_zero, List.getD_cons_succ] at hp'; subst hp'
                                have HY9 := Lib.hid (show Ext wr wr.drew from (Kept.refl _ wr).drew)
                                (repeat (first | ((apply w4_pure); (· go_simp); (· (intro w1; go_simp; try with_reducible rfl)); (intro K hK; go_simp; refine hK _ _ ?_; clear hK K)) | ((apply w4_skip); (· go_simp); (intro K hK; go_simp; refine hK _ _ ?_; clear hK K)) | ((apply w4_take); (· exact HY9.out); (· go_simp); (· (intro w1 hS; have d0 := Blk.ext HKQ.out hS; have d1 := Blk.gets d0; have d2 := Blk.has d0; have d3 := d0.lt; have d4 := Blk.ext HAQ.out hS; have d5 : w1.cell? ⟨ab, i, none⟩ = some (.slice sA sn sc) := (Blk.cell d4 i).trans HAC.out; have d6 := d4.lt;  go_simp; try with_reducible rfl)); (intro K hK; go_simp; refine hK _ _ ?_; clear hK K)) | ((apply w4_pass); (· exact HY9.out); (· go_simp); (intro K hK; go_simp; refine hK _ _ ?_; clear hK K))))
                                refine w4_fork ?_ ?_
                                · (refine w4_act (fun K hK => ?_); go_simp)
                                  refine (HIK.out _ HY9.out (HST.out.ext_ HY9.out)).mono ?_
                                  rintro e4 w1 ⟨rfl, hx1⟩
                                  rw [HF.out]
                                  have y1 := HY9.out.trans hx1
                                  refine hK.out _ _ (fun _ => y1) ?_
                                  clear hK K
                                  (repeat (first | ((apply w4_pure); (· go_simp); (· (intro w1; go_simp; try with_reducible rfl)); (intro K hK; go_simp; refine hK _ _ ?_; clear hK K)) | ((apply w4_skip); (· go_simp); (intro K hK; go_simp; refine hK _ _ ?_; clear hK K))))
                                  (refine w4_act (fun K hK => ?_); go_simp)
                                  have y2 := y1.alloc (.cells #[.int .i64 0, .string ⟨#[]⟩] 38)
                                  have hfb := Blk.new w1 38 #[.int .i64 0, .string ⟨#[]⟩]
                                  refine hK.out _ _ (fun _ => y2) ?_
                                  clear hK K
                                  generalize hW2 : w1.alloc (.cells #[.int .i64 0, .string ⟨#[]⟩] 38) = W2 at y2 hfb ⊢
                                  clear hW2
                                  have hfl : wr.heap.size ≤ w1.heap.size := y1.size
                                  generalize w1.heap.size = fb at hfb hfl ⊢
                                  have hmf := hfb.melts
                                  have hhf := Blk.has hfb
                                  have hfc := fltC_two f
                                  have hff := fltC_flat f
                                  (repeat (first | ((apply w4_pure); (· go_simp); (· (intro w1; go_simp; try with_reducible rfl)); (intro K hK; go_simp; refine hK _ _ ?_; clear hK K)) | ((apply w4_skip); (· go_simp); (intro K hK; go_simp; refine hK _ _ ?_; clear hK K))))
                                  (refine w4_act (fun K hK => ?_); go_simp)
                                  have y3 := y2.putAt fb 0 (fltC f) (fun hlt => absurd hlt (by omega))
                                  have hf3 := Blk.put_flt hfb f
                                  refine hK.out _ _ (fun _ => y3) ?_
                                  clear hK K hmf hhf hfc hff
                                  (repeat (first | ((apply w4_pure); (· go_simp); (· (intro w1; go_simp; try with_reducible rfl)); (intro K hK; go_simp; refine hK _ _ ?_; clear hK K)) | ((apply w4_skip); (· go_simp); (intro K hK; go_simp; refine hK _ _ ?_; clear hK K)) | (refine w4_end (by kernel_rfl) (fun K hK => ?_); go_simp; refine hK.out _ _ ?_; clear hK K))); refine w4_nil ?_
                                  generalize putAt W2 fb 0 (fltC f) = W3 at y3 hf3 ⊢
                                  exact KEY.out _ _ ⟨y3, hf3⟩
                                · (refine w4_act (fun K hK => ?_); go_simp)
                                  have y1 : Ext wr (wr.alloc (.cells #[.int .i64 0, .string ⟨#[]⟩] 38)).drew := ((Kept.refl _ wr).alloc _).drew
                                  refine hK.out _ _ (fun _ => y1) ?_
                                  clear hK K
                                  generalize hW1 : (wr.alloc (.cells #[.int .i64 0, .string ⟨#[]⟩] 38)).drew = W1 at y1 ⊢
                                  have hfb1 : Blk W1 wr.heap.size 38 #[.int .i64 0, .string ⟨#[]⟩] := by rw [← hW1]; exact Blk.drew (Blk.new wr _ _)
                                  clear hW1
                                  have hfl : wr.heap.size ≤ wr.heap.size := Nat.le_refl _
                                  generalize hfbe : (wr.heap.size : Nat) = fb at hfb1 hfl ⊢
                                  have HFL := Lib.hid (show wr.heap.size ≤ fb by omega)
                                  clear hfl hfbe
                                  have HY1 := Lib.hid y1
                                  (repeat (first | ((apply w4_pure); (· go_simp); (· (intro w1; go_simp; try with_reducible rfl)); (intro K hK; go_simp; refine hK _ _ ?_; clear hK K)) | ((apply w4_skip); (· go_simp); (intro K hK; go_simp; refine hK _ _ ?_; clear hK K))))
                                  (repeat (first | ((apply w4_pure); (· go_simp); (· (intro w1; go_simp; try with_reducible rfl)); (intro K hK; go_simp; refine hK _ _ ?_; clear hK K)) | ((apply w4_skip); (· go_simp); (intro K hK; go_simp; refine hK _ _ ?_; clear hK K)) | ((apply w4_take); (· exact HY1.out); (· go_simp); (· (intro w1 hS; have d0 := Blk.ext HKQ.out hS; have d1 := Blk.gets d0; have d2 := Blk.has d0; have d3 := d0.lt; have d4 := Blk.ext HAQ.out hS; have d5 : w1.cell? ⟨ab, i, none⟩ = some (.slice sA sn sc) := (Blk.cell d4 i).trans HAC.out; have d6 := d4.lt;  go_simp; try with_reducible rfl)); (intro K hK; go_simp; refine hK _ _ ?_; clear hK K)) | ((apply w4_pass); (· exact HY1.out); (· go_simp); (intro K hK; go_simp; refine hK _ _ ?_; clear hK K))))
                                  (refine w4_act (fun K hK => ?_); go_simp)
                                  refine (HIK.out _ HY1.out (HST.out.ext_ HY1.out)).mono ?_
                                  rintro e4 w1 ⟨rfl, hx1⟩
                                  rw [HF.out]
                                  have y2 := HY1.out.trans hx1
                                  refine hK.out _ _ (fun _ => y2) ?_
                                  clear hK K y1
                                  have hfb2 := Blk.ext hfb1 hx1
                                  have hmf := hfb2.melts
                                  have hhf := Blk.has hfb2
                                  have hfc := fltC_two f
                                  have hff := fltC_flat f
                                  (repeat (first | ((apply w4_pure); (· go_simp); (· (intro w1; go_simp; try with_reducible rfl)); (intro K hK; go_simp; refine hK _ _ ?_; clear hK K)) | ((apply w4_skip); (· go_simp); (intro K hK; go_simp; refine hK _ _ ?_; clear hK K))))
                                  (refine w4_act (fun K hK => ?_); go_simp)
                                  have y3 := y2.putAt fb 0 (fltC f) (fun hlt => absurd hlt (by have := HFL.out; omega))
                                  have hf3 := Blk.put_flt hfb2 f
                                  refine hK.out _ _ (fun _ => y3) ?_
                                  clear hK K hmf hhf hfc hff
                                  (repeat (first | ((apply w4_pure); (· go_simp); (· (intro w1; go_simp; try with_reducible rfl)); (intro K hK; go_simp; refine hK _ _ ?_; clear hK K)) | ((apply w4_skip); (· go_simp); (intro K hK; go_simp; refine hK _ _ ?_; clear hK K)) | (refine w4_end (by kernel_rfl) (fun K hK => ?_); go_simp; refine hK.out _ _ ?_; clear hK K))); refine w4_nil ?_
                                  generalize putAt w1 fb 0 (fltC f) = W3 at y3 hf3 ⊢
                                  exact KEY.out _ _ ⟨y3, hf3⟩
                              case h2 =>
                                rintro W2 fb ⟨y2, hfb⟩
                                have HFB := Lib.hid hfb
                                have HYR := Lib.hid (HXQ.out.trans y2)
                                have HXC := Lib.hid (HXB.out.trans y2)
                                clear hfb y2
                                cases f with
                                | none =>
                                  go_upto_region 32 with (fail)
                                  refine wp_region_3 (fun w1 => Ext W2 w1) [(0, 1), (1, 0), (2, 2)] (by kernel_rfl) (by kernel_rfl) (by kernel_rfl) (by kernel_rfl) ?_; intro l' hl'; simp only [List.map_cons, List.map_nil, List.getD_cons_zero, List.getD_cons_succ] at hl'; subst hl'
                                  have HZ0 := Lib.hid (show Ext W2 W2.drew from (Kept.refl _ W2).drew)
                                  (repeat (first | ((apply w3_pure); (· go_simp); (· (intro w1; go_simp; try with_reducible rfl)); (intro K hK; go_simp; refine hK _ _ ?_; clear hK K)) | ((apply w3_skip); (· go_simp); (intro K hK; go_simp; refine hK _ _ ?_; clear hK K)) | ((apply w3_take); (· exact HZ0.out); (· go_simp); (· (intro w1 hS; have d0 := Blk.ext HFB.out hS; have d1 := Blk.gets d0; have d2 := Blk.has d0; have d3 := d0.lt;  go_simp; try with_reducible rfl)); (intro K hK; go_simp; refine hK _ _ ?_; clear hK K)) | ((apply w3_pass); (· exact HZ0.out); (· go_simp); (intro K hK; go_simp; refine hK _ _ ?_; clear hK K))))
                                  (refine w3_act (fun K hK => ?_); go_simp)
                                  refine (fine_any _).mono ?_
                                  rintro e4 w1 ⟨rfl, hx1⟩
                                  have HZ1 := Lib.hid (HZ0.out.trans hx1)
                                  refine hK.out _ _ (fun _ => HZ1.out) ?_
                                  clear hK K hx1
                                  (repeat (first | ((apply w3_pure); (· go_simp); (· (intro w1; go_simp; try with_reducible rfl)); (intro K hK; go_simp; refine hK _ _ ?_; clear hK K)) | ((apply w3_skip); (· go_simp); (intro K hK; go_simp; refine hK _ _ ?_; clear hK K)) | (refine w3_end (by kernel_rfl) (fun K hK => ?_); go_simp; refine hK.out _ _ ?_; clear hK K))); refine w3_nil ?_
                                  go_wp2_with fail
                                  go_roundw
                                  case rel => exact ⟨i + 1, by omega, by go_num, by rw [HX9.out, ored_none], HXW.out.trans (HYR.out.trans HZ1.out)⟩
                                  case measure => simp only [intOf]; omega
                                | some f =>
                                  obtain ⟨fe, fn⟩ := f
                                  have hnz := NZ.out HNZ.out rfl
                                  have HR := Lib.hid (show X = some ⟨fe, fn⟩ by rw [HX9.out, ored_some])
                                  go_upto_region 32 with (fail)
                                  refine wp_region_3 (fun w1 => Ext W2 w1) [(0, 1), (1, 0), (2, 2)] (by kernel_rfl) (by kernel_rfl) (by kernel_rfl) (by kernel_rfl) ?_; intro l' hl'; simp only [List.map_cons, List.map_nil, List.getD_cons_zero, List.getD_cons_succ] at hl'; subst hl'
                                  have HZ0 := Lib.hid (show Ext W2 W2.drew from (Kept.refl _ W2).drew)
                                  (repeat (first | ((apply w3_pure); (· go_simp); (· (intro w1; go_simp; try with_reducible rfl)); (intro K hK; go_simp; refine hK _ _ ?_; clear hK K)) | ((apply w3_skip); (· go_simp); (intro K hK; go_simp; refine hK _ _ ?_; clear hK K)) | ((apply w3_take); (· exact HZ0.out); (· go_simp); (· (intro w1 hS; have d0 := Blk.ext HFB.out hS; have d1 := Blk.gets d0; have d2 := Blk.has d0; have d3 := d0.lt;  go_simp; try with_reducible rfl)); (intro K hK; go_simp; refine hK _ _ ?_; clear hK K)) | ((apply w3_pass); (· exact HZ0.out); (· go_simp); (intro K hK; go_simp; refine hK _ _ ?_; clear hK K))))
                                  (refine w3_act (fun K hK => ?_); go_simp)
                                  refine (fine_any _).mono ?_
                                  rintro e4 w1 ⟨rfl, hx1⟩
                                  have HZ1 := Lib.hid (HZ0.out.trans hx1)
                                  refine hK.out _ _ (fun _ => HZ1.out) ?_
                                  clear hK K hx1
                                  (repeat (first | ((apply w3_pure); (· go_simp); (· (intro w1; go_simp; try with_reducible rfl)); (intro K hK; go_simp; refine hK _ _ ?_; clear hK K)) | ((apply w3_skip); (· go_simp); (intro K hK; go_simp; refine hK _ _ ?_; clear hK K)) | (refine w3_end (by kernel_rfl) (fun K hK => ?_); go_simp; refine hK.out _ _ ?_; clear hK K))); refine w3_nil ?_
                                  have HXC := Lib.hid (HXC.out.trans HZ1.out)
                                  have hDr := Blk.ext HD.out HXC.out
                                  have hmr := hDr.melts
                                  have hhr := Blk.has hDr
                                  have hlr := hDr.lt
                                  have hcP := Blk.cell (Blk.ext HB.out HXC.out)
                                  have hhP := Blk.has (Blk.ext HB.out HXC.out)
                                  have hgP := Blk.gets (Blk.ext HB.out HXC.out)
                                  have hlP := (Blk.ext HB.out HXC.out).lt
                                  have hFr := Blk.ext HFB.out HZ1.out
                                  have hgf := Blk.gets hFr
                                  have hhf := Blk.has hFr
                                  have hlf := hFr.lt
                                  go_wp2_with fail
                                  refine ret_cell (t := 38) (g := rb) (cs := fltC X) Tryd.results28 rfl rfl aggFaultR (by rw [HR.out]; exact sizeFaultR) (by rw [HR.out]; exact Blk.put_ hDr 0 _) ⟨rfl, ?_⟩
                                  exact (HX0.out.trans HXC.out).putAt _ _ _ (fun hlt => absurd hlt (by have := HRW.out; omega))
                            · have hi3b : ((i : Int) == 3) = false := by simp; omega
                              have HST := Lib.hid (show StrSl wr wr.heap.size B q (plOf p i) from HPL.out hi3 ▸ hst)
                              have HBN := Lib.hid hbn
                              clear hst hbn
                              go_upto_region 31 with (fail)
                              clear hcP hlP
                              obtain ⟨⟨sA, sn, sc⟩, hs⟩ : ∃ s, s = slP (⟨p.name, p.seats, ⟨kA, j, kc⟩, ⟨vA, vn, vc⟩, cs, ⟨tA, tn, tc⟩, ⟨A, n, cc⟩, cpl, p.silent, cq, ⟨zA, zn, zc⟩⟩ : Pc) i := ⟨_, rfl⟩
                              have hpt := (HPA.out.ext HXB.out HNW.out).part i
                              have hac := part_cell (⟨p.name, p.seats, ⟨kA, j, kc⟩, ⟨vA, vn, vc⟩, cs, ⟨tA, tn, tc⟩, ⟨A, n, cc⟩, cpl, p.silent, cq, ⟨zA, zn, zc⟩⟩ : Pc) i hlt
                              rw [← hs] at hpt hac
                              have HSS := Lib.hid hpt
                              have HAC := Lib.hid (show (partCells (⟨p.name, p.seats, ⟨kA, j, kc⟩, ⟨vA, vn, vc⟩, cs, ⟨tA, tn, tc⟩, ⟨A, n, cc⟩, cpl, p.silent, cq, ⟨zA, zn, zc⟩⟩ : Pc))[i]? = some (Value.slice sA sn sc) from hac)
                              clear hs hpt hac
                              obtain ⟨f, hf⟩ : ∃ f, f = chkP p i := ⟨_, rfl⟩
                              have HIK := Lib.hid (fun w' (hw' : Ext wr w') (hs' : StrSl w' w'.heap.size B q (plOf p i)) => rblock_any (⟨p.name, p.seats, ⟨kA, j, kc⟩, ⟨vA, vn, vc⟩, cs, ⟨tA, tn, tc⟩, ⟨A, n, cc⟩, cpl, p.silent, cq, ⟨zA, zn, zc⟩⟩ : Pc) p i hlt N wr (Nat.le_trans HNW.out HXB.out.size) (HPA.out.ext HXB.out HNW.out) (partOf p i) 0 true B q bc (plOf p i) sA sn sc w' hw' hs' HBN.out (plOf_len p i (by have := HNN.out; have := HP5.out; omega)) (by omega) HSS.out)
                              have HF := Lib.hid (show chkB i (updAll (knV p.vars) (plOf p i)) 0 true (partOf p i) = f by rw [hf, chkP, knOf_pl])
                              have HX9 := Lib.hid (show X = ored f (from5 p M (i + 1)) by rw [hf, ← HACC.out, from5_lt p M i hlt])
                              have HNZ := Lib.hid (show NZ f by rw [hf, chkP]; exact nz_chkB _ _ _ _ _)
                              clear hf
                              apply meet (F := fun W2 fb => Ext wr W2 ∧ Blk W2 fb 38 (fltC f))
                              case h =>
                                intro KEY0
                                have KEY := Lib.hid KEY0
                                clear KEY0
                                refine wp_region_4 (fun w1 => Ext wr w1) (.op 0 1 (.op 1 2 (.op 2 2 (.op 3 2 (.op 4 1 (.op 5 2 (.fork 6 (.op 7 0 (.op 8 0 .nil)) 7 (.op 6 0 (.op 8 0 .nil))))))))) (by kernel_rfl) (by kernel_rfl) (by kernel_rfl) (by kernel_rfl) ?_; intro p' hp'; simp only [Pl0.fill, List.getD_cons_zero, List.getD_cons_succ] at hp'; subst hp'
                                have HY9 := Lib.hid (show Ext wr wr.drew from (Kept.refl _ wr).drew)
                                (repeat (first | ((apply w4_pure); (· go_simp); (· (intro w1; go_simp; try with_reducible rfl)); (intro K hK; go_simp; refine hK _ _ ?_; clear hK K)) | ((apply w4_skip); (· go_simp); (intro K hK; go_simp; refine hK _ _ ?_; clear hK K)) | ((apply w4_take); (· exact HY9.out); (· go_simp); (· (intro w1 hS; have d0 := Blk.ext HKQ.out hS; have d1 := Blk.gets d0; have d2 := Blk.has d0; have d3 := d0.lt; have d4 := Blk.ext HAQ.out hS; have d5 : w1.cell? ⟨ab, i, none⟩ = some (.slice sA sn sc) := (Blk.cell d4 i).trans HAC.out; have d6 := d4.lt;  go_simp; try with_reducible rfl)); (intro K hK; go_simp; refine hK _ _ ?_; clear hK K)) | ((apply w4_pass); (· exact HY9.out); (· go_simp); (intro K hK; go_simp; refine hK _ _ ?_; clear hK K))))
                                refine w4_fork ?_ ?_
                                · (refine w4_act (fun K hK => ?_); go_simp)
                                  refine (HIK.out _ HY9.out (HST.out.ext_ HY9.out)).mono ?_
                                  rintro e4 w1 ⟨rfl, hx1⟩
                                  rw [HF.out]
                                  have y1 := HY9.out.trans hx1
                                  refine hK.out _ _ (fun _ => y1) ?_
                                  clear hK K
                                  (repeat (first | ((apply w4_pure); (· go_simp); (· (intro w1; go_simp; try with_reducible rfl)); (intro K hK; go_simp; refine hK _ _ ?_; clear hK K)) | ((apply w4_skip); (· go_simp); (intro K hK; go_simp; refine hK _ _ ?_; clear hK K))))
                                  (refine w4_act (fun K hK => ?_); go_simp)
                                  have y2 := y1.alloc (.cells #[.int .i64 0, .string ⟨#[]⟩] 38)
                                  have hfb := Blk.new w1 38 #[.int .i64 0, .string ⟨#[]⟩]
                                  refine hK.out _ _ (fun _ => y2) ?_
                                  clear hK K
                                  generalize hW2 : w1.alloc (.cells #[.int .i64 0, .string ⟨#[]⟩] 38) = W2 at y2 hfb ⊢
                                  clear hW2
                                  have hfl : wr.heap.size ≤ w1.heap.size := y1.size
                                  generalize w1.heap.size = fb at hfb hfl ⊢
                                  have hmf := hfb.melts
                                  have hhf := Blk.has hfb
                                  have hfc := fltC_two f
                                  have hff := fltC_flat f
                                  (repeat (first | ((apply w4_pure); (· go_simp); (· (intro w1; go_simp; try with_reducible rfl)); (intro K hK; go_simp; refine hK _ _ ?_; clear hK K)) | ((apply w4_skip); (· go_simp); (intro K hK; go_simp; refine hK _ _ ?_; clear hK K))))
                                  (refine w4_act (fun K hK => ?_); go_simp)
                                  have y3 := y2.putAt fb 0 (fltC f) (fun hlt => absurd hlt (by omega))
                                  have hf3 := Blk.put_flt hfb f
                                  refine hK.out _ _ (fun _ => y3) ?_
                                  clear hK K hmf hhf hfc hff
                                  (repeat (first | ((apply w4_pure); (· go_simp); (· (intro w1; go_simp; try with_reducible rfl)); (intro K hK; go_simp; refine hK _ _ ?_; clear hK K)) | ((apply w4_skip); (· go_simp); (intro K hK; go_simp; refine hK _ _ ?_; clear hK K)) | (refine w4_end (by kernel_rfl) (fun K hK => ?_); go_simp; refine hK.out _ _ ?_; clear hK K))); refine w4_nil ?_
                                  generalize putAt W2 fb 0 (fltC f) = W3 at y3 hf3 ⊢
                                  exact KEY.out _ _ ⟨y3, hf3⟩
                                · (refine w4_act (fun K hK => ?_); go_simp)
                                  have y1 : Ext wr (wr.alloc (.cells #[.int .i64 0, .string ⟨#[]⟩] 38)).drew := ((Kept.refl _ wr).alloc _).drew
                                  refine hK.out _ _ (fun _ => y1) ?_
                                  clear hK K
                                  generalize hW1 : (wr.alloc (.cells #[.int .i64 0, .string ⟨#[]⟩] 38)).drew = W1 at y1 ⊢
                                  have hfb1 : Blk W1 wr.heap.size 38 #[.int .i64 0, .string ⟨#[]⟩] := by rw [← hW1]; exact Blk.drew (Blk.new wr _ _)
                                  clear hW1
                                  have hfl : wr.heap.size ≤ wr.heap.size := Nat.le_refl _
                                  generalize hfbe : (wr.heap.size : Nat) = fb at hfb1 hfl ⊢
                                  have HFL := Lib.hid (show wr.heap.size ≤ fb by omega)
                                  clear hfl hfbe
                                  have HY1 := Lib.hid y1
                                  (repeat (first | ((apply w4_pure); (· go_simp); (· (intro w1; go_simp; try with_reducible rfl)); (intro K hK; go_simp; refine hK _ _ ?_; clear hK K)) | ((apply w4_skip); (· go_simp); (intro K hK; go_simp; refine hK _ _ ?_; clear hK K))))
                                  (repeat (first | ((apply w4_pure); (· go_simp); (· (intro w1; go_simp; try with_reducible rfl)); (intro K hK; go_simp; refine hK _ _ ?_; clear hK K)) | ((apply w4_skip); (· go_simp); (intro K hK; go_simp; refine hK _ _ ?_; clear hK K)) | ((apply w4_take); (· exact HY1.out); (· go_simp); (· (intro w1 hS; have d0 := Blk.ext HKQ.out hS; have d1 := Blk.gets d0; have d2 := Blk.has d0; have d3 := d0.lt; have d4 := Blk.ext HAQ.out hS; have d5 : w1.cell? ⟨ab, i, none⟩ = some (.slice sA sn sc) := (Blk.cell d4 i).trans HAC.out; have d6 := d4.lt;  go_simp; try with_reducible rfl)); (intro K hK; go_simp; refine hK _ _ ?_; clear hK K)) | ((apply w4_pass); (· exact HY1.out); (· go_simp); (intro K hK; go_simp; refine hK _ _ ?_; clear hK K))))
                                  (refine w4_act (fun K hK => ?_); go_simp)
                                  refine (HIK.out _ HY1.out (HST.out.ext_ HY1.out)).mono ?_
                                  rintro e4 w1 ⟨rfl, hx1⟩
                                  rw [HF.out]
                                  have y2 := HY1.out.trans hx1
                                  refine hK.out _ _ (fun _ => y2) ?_
                                  clear hK K y1
                                  have hfb2 := Blk.ext hfb1 hx1
                                  have hmf := hfb2.melts
                                  have hhf := Blk.has hfb2
                                  have hfc := fltC_two f
                                  have hff := fltC_flat f
                                  (repeat (first | ((apply w4_pure); (· go_simp); (· (intro w1; go_simp; try with_reducible rfl)); (intro K hK; go_simp; refine hK _ _ ?_; clear hK K)) | ((apply w4_skip); (· go_simp); (intro K hK; go_simp; refine hK _ _ ?_; clear hK K))))
                                  (refine w4_act (fun K hK => ?_); go_simp)
                                  have y3 := y2.putAt fb 0 (fltC f) (fun hlt => absurd hlt (by have := HFL.out; omega))
                                  have hf3 := Blk.put_flt hfb2 f
                                  refine hK.out _ _ (fun _ => y3) ?_
                                  clear hK K hmf hhf hfc hff
                                  (repeat (first | ((apply w4_pure); (· go_simp); (· (intro w1; go_simp; try with_reducible rfl)); (intro K hK; go_simp; refine hK _ _ ?_; clear hK K)) | ((apply w4_skip); (· go_simp); (intro K hK; go_simp; refine hK _ _ ?_; clear hK K)) | (refine w4_end (by kernel_rfl) (fun K hK => ?_); go_simp; refine hK.out _ _ ?_; clear hK K))); refine w4_nil ?_
                                  generalize putAt w1 fb 0 (fltC f) = W3 at y3 hf3 ⊢
                                  exact KEY.out _ _ ⟨y3, hf3⟩
                              case h2 =>
                                rintro W2 fb ⟨y2, hfb⟩
                                have HFB := Lib.hid hfb
                                have HYR := Lib.hid (HXQ.out.trans y2)
                                have HXC := Lib.hid (HXB.out.trans y2)
                                clear hfb y2
                                cases f with
                                | none =>
                                  go_upto_region 32 with (fail)
                                  refine wp_region_3 (fun w1 => Ext W2 w1) [(0, 1), (1, 0), (2, 2)] (by kernel_rfl) (by kernel_rfl) (by kernel_rfl) (by kernel_rfl) ?_; intro l' hl'; simp only [List.map_cons, List.map_nil, List.getD_cons_zero, List.getD_cons_succ] at hl'; subst hl'
                                  have HZ0 := Lib.hid (show Ext W2 W2.drew from (Kept.refl _ W2).drew)
                                  (repeat (first | ((apply w3_pure); (· go_simp); (· (intro w1; go_simp; try with_reducible rfl)); (intro K hK; go_simp; refine hK _ _ ?_; clear hK K)) | ((apply w3_skip); (· go_simp); (intro K hK; go_simp; refine hK _ _ ?_; clear hK K)) | ((apply w3_take); (· exact HZ0.out); (· go_simp); (· (intro w1 hS; have d0 := Blk.ext HFB.out hS; have d1 := Blk.gets d0; have d2 := Blk.has d0; have d3 := d0.lt;  go_simp; try with_reducible rfl)); (intro K hK; go_simp; refine hK _ _ ?_; clear hK K)) | ((apply w3_pass); (· exact HZ0.out); (· go_simp); (intro K hK; go_simp; refine hK _ _ ?_; clear hK K))))
                                  (refine w3_act (fun K hK => ?_); go_simp)
                                  refine (fine_any _).mono ?_
                                  rintro e4 w1 ⟨rfl, hx1⟩
                                  have HZ1 := Lib.hid (HZ0.out.trans hx1)
                                  refine hK.out _ _ (fun _ => HZ1.out) ?_
                                  clear hK K hx1
                                  (repeat (first | ((apply w3_pure); (· go_simp); (· (intro w1; go_simp; try with_reducible rfl)); (intro K hK; go_simp; refine hK _ _ ?_; clear hK K)) | ((apply w3_skip); (· go_simp); (intro K hK; go_simp; refine hK _ _ ?_; clear hK K)) | (refine w3_end (by kernel_rfl) (fun K hK => ?_); go_simp; refine hK.out _ _ ?_; clear hK K))); refine w3_nil ?_
                                  go_wp2_with fail
                                  go_roundw
                                  case rel => exact ⟨i + 1, by omega, by go_num, by rw [HX9.out, ored_none], HXW.out.trans (HYR.out.trans HZ1.out)⟩
                                  case measure => simp only [intOf]; omega
                                | some f =>
                                  obtain ⟨fe, fn⟩ := f
                                  have hnz := NZ.out HNZ.out rfl
                                  have HR := Lib.hid (show X = some ⟨fe, fn⟩ by rw [HX9.out, ored_some])
                                  go_upto_region 32 with (fail)
                                  refine wp_region_3 (fun w1 => Ext W2 w1) [(0, 1), (1, 0), (2, 2)] (by kernel_rfl) (by kernel_rfl) (by kernel_rfl) (by kernel_rfl) ?_; intro l' hl'; simp only [List.map_cons, List.map_nil, List.getD_cons_zero, List.getD_cons_succ] at hl'; subst hl'
                                  have HZ0 := Lib.hid (show Ext W2 W2.drew from (Kept.refl _ W2).drew)
                                  (repeat (first | ((apply w3_pure); (· go_simp); (· (intro w1; go_simp; try with_reducible rfl)); (intro K hK; go_simp; refine hK _ _ ?_; clear hK K)) | ((apply w3_skip); (· go_simp); (intro K hK; go_simp; refine hK _ _ ?_; clear hK K)) | ((apply w3_take); (· exact HZ0.out); (· go_simp); (· (intro w1 hS; have d0 := Blk.ext HFB.out hS; have d1 := Blk.gets d0; have d2 := Blk.has d0; have d3 := d0.lt;  go_simp; try with_reducible rfl)); (intro K hK; go_simp; refine hK _ _ ?_; clear hK K)) | ((apply w3_pass); (· exact HZ0.out); (· go_simp); (intro K hK; go_simp; refine hK _ _ ?_; clear hK K))))
                                  (refine w3_act (fun K hK => ?_); go_simp)
                                  refine (fine_any _).mono ?_
                                  rintro e4 w1 ⟨rfl, hx1⟩
                                  have HZ1 := Lib.hid (HZ0.out.trans hx1)
                                  refine hK.out _ _ (fun _ => HZ1.out) ?_
                                  clear hK K hx1
                                  (repeat (first | ((apply w3_pure); (· go_simp); (· (intro w1; go_simp; try with_reducible rfl)); (intro K hK; go_simp; refine hK _ _ ?_; clear hK K)) | ((apply w3_skip); (· go_simp); (intro K hK; go_simp; refine hK _ _ ?_; clear hK K)) | (refine w3_end (by kernel_rfl) (fun K hK => ?_); go_simp; refine hK.out _ _ ?_; clear hK K))); refine w3_nil ?_
                                  have HXC := Lib.hid (HXC.out.trans HZ1.out)
                                  have hDr := Blk.ext HD.out HXC.out
                                  have hmr := hDr.melts
                                  have hhr := Blk.has hDr
                                  have hlr := hDr.lt
                                  have hcP := Blk.cell (Blk.ext HB.out HXC.out)
                                  have hhP := Blk.has (Blk.ext HB.out HXC.out)
                                  have hgP := Blk.gets (Blk.ext HB.out HXC.out)
                                  have hlP := (Blk.ext HB.out HXC.out).lt
                                  have hFr := Blk.ext HFB.out HZ1.out
                                  have hgf := Blk.gets hFr
                                  have hhf := Blk.has hFr
                                  have hlf := hFr.lt
                                  go_wp2_with fail
                                  refine ret_cell (t := 38) (g := rb) (cs := fltC X) Tryd.results28 rfl rfl aggFaultR (by rw [HR.out]; exact sizeFaultR) (by rw [HR.out]; exact Blk.put_ hDr 0 _) ⟨rfl, ?_⟩
                                  exact (HX0.out.trans HXC.out).putAt _ _ _ (fun hlt => absurd hlt (by have := HRW.out; omega))
                        · have HPL := Lib.hid (show ¬ i = 3 → (p.params.map Vr.name).take q = plOf p i from fun h3 => by
                            by_cases hi2 : i = 2
                            · subst hi2
                              exact List.take_of_length_le (by rw [List.length_map]; have := HNN.out; omega)
                            · rw [HQ2.out hi2]
                              rcases (by omega : i = 0 ∨ i = 1 ∨ i = 4) with rfl | rfl | rfl <;> rfl)
                          obtain ⟨hst, hbn⟩ := owns_str2 HOW.out (by rw [List.length_take, List.length_map]; have := HNN.out; omega) (by have := HP5.out; omega)
                          have HAQ := Lib.hid (Blk.ext HAW.out HXQ.out)
                          by_cases hi3 : i = 3
                          · have hi3b : ((i : Int) == 3) = true := by simp [hi3]
                            have HI3 := Lib.hid hi3
                            clear hi3
                            have y1 : Ext wr _ := (Kept.refl (fun _ => False) wr).alloc (.cells #[.string p.silent] 9)
                            have q6 := Blk.new wr 9 #[.string p.silent]
                            have hkB := Blk.ext HKQ.out y1
                            have hcK := Blk.cell hkB
                            have hzK := Blk.frozen hkB
                            have hlK := hkB.lt
                            have HAV := Lib.hid (Blk.ext HAQ.out y1)
                            go_upto_region 31 with (fail)
                            have hk9 : Kept (fun g => kb ≤ g) wr ((wr.alloc (.cells #[.string p.silent] 9)).setCell ⟨kb, 11, none⟩ (.slice (some ⟨wr.heap.size, 0, none⟩) 1 1)) := (y1.mono (fun i _ h => h.elim)).setCell _ _ (fun _ => Nat.le_refl _)
                            have hb9 : Blk ((wr.alloc (.cells #[.string p.silent] 9)).setCell ⟨kb, 11, none⟩ (.slice (some ⟨wr.heap.size, 0, none⟩) 1 1)) kb 96 (knCells (⟨p.name, p.seats, ⟨kA, j, kc⟩, ⟨vA, vn, vc⟩, cs, ⟨tA, tn, tc⟩, ⟨A, n, cc⟩, cpl, p.silent, cq, ⟨zA, zn, zc⟩⟩ : Pc) (some ⟨wr.heap.size, 0, none⟩) 1 1) := by
                              have q := Blk.set_ hkB 11 (.slice (some ⟨wr.heap.size, 0, none⟩) 1 1)
                              exact q
                            have hke : Kept (· = kb) (wr.alloc (.cells #[.string p.silent] 9)) ((wr.alloc (.cells #[.string p.silent] 9)).setCell ⟨kb, 11, none⟩ (.slice (some ⟨wr.heap.size, 0, none⟩) 1 1)) := (Kept.refl _ _).setCell _ _ (fun _ => rfl)
                            have hne : ¬ wr.heap.size = kb := by have := HKQ.out.lt; omega
                            have hrw := (Row.of_blk q6).kept hke hne
                            have hq6 := Blk.kept q6 hke hne
                            have haq := Blk.kept HAV.out hke (fun e => by
                              have h1 := HAW.out.lt
                              have h2 := HKE.out
                              omega)
                            generalize ((wr.alloc (.cells #[.string p.silent] 9)).setCell ⟨kb, 11, none⟩ (.slice (some ⟨wr.heap.size, 0, none⟩) 1 1)) = V9 at hk9 hb9 hrw hq6 haq ⊢
                            generalize wr.heap.size = u6 at hb9 hrw hq6 ⊢
                            have HXQ2 := Lib.hid (HXQ.out.trans' hk9 (fun i hi q => by have := HKE.out; omega))
                            clear hcK hzK hlK hkB y1 q6 hke hne HXQ HXB HKQ HOW HAQ HAV hk9 hst hbn hcP hlP
                            obtain ⟨wr, hwq⟩ : ∃ w, w = V9 := ⟨_, rfl⟩
                            subst hwq
                            have HXQ := HXQ2
                            have HXB := Lib.hid (HXC.out.trans HXQ.out)
                            have HKQ := Lib.hid hb9
                            have HAQ := Lib.hid haq
                            have HST := Lib.hid (show StrSl wr wr.heap.size (some ⟨u6, 0, none⟩) 1 (plOf p i) by
                              rw [HI3.out]
                              exact ⟨rfl, by omega, u6, 0, fun _ => rfl, fun _ => ⟨hq6.lt, hrw⟩⟩)
                            have HBN := Lib.hid (show (some ⟨u6, 0, none⟩ : Option Addr) = none → 1 = 0 from fun h => nomatch h)
                            clear hb9 hrw hq6 haq HXQ2
                            obtain ⟨⟨sA, sn, sc⟩, hs⟩ : ∃ s, s = slP (⟨p.name, p.seats, ⟨kA, j, kc⟩, ⟨vA, vn, vc⟩, cs, ⟨tA, tn, tc⟩, ⟨A, n, cc⟩, cpl, p.silent, cq, ⟨zA, zn, zc⟩⟩ : Pc) i := ⟨_, rfl⟩
                            have hpt := (HPA.out.ext HXB.out HNW.out).part i
                            have hac := part_cell (⟨p.name, p.seats, ⟨kA, j, kc⟩, ⟨vA, vn, vc⟩, cs, ⟨tA, tn, tc⟩, ⟨A, n, cc⟩, cpl, p.silent, cq, ⟨zA, zn, zc⟩⟩ : Pc) i hlt
                            rw [← hs] at hpt hac
                            have HSS := Lib.hid hpt
                            have HAC := Lib.hid (show (partCells (⟨p.name, p.seats, ⟨kA, j, kc⟩, ⟨vA, vn, vc⟩, cs, ⟨tA, tn, tc⟩, ⟨A, n, cc⟩, cpl, p.silent, cq, ⟨zA, zn, zc⟩⟩ : Pc))[i]? = some (Value.slice sA sn sc) from hac)
                            clear hs hpt hac
                            obtain ⟨f, hf⟩ : ∃ f, f = chkP p i := ⟨_, rfl⟩
                            have HIK := Lib.hid (fun w' (hw' : Ext wr w') (hs' : StrSl w' w'.heap.size (some ⟨u6, 0, none⟩) 1 (plOf p i)) => rblock_any (⟨p.name, p.seats, ⟨kA, j, kc⟩, ⟨vA, vn, vc⟩, cs, ⟨tA, tn, tc⟩, ⟨A, n, cc⟩, cpl, p.silent, cq, ⟨zA, zn, zc⟩⟩ : Pc) p i hlt N wr (Nat.le_trans HNW.out HXB.out.size) (HPA.out.ext HXB.out HNW.out) (partOf p i) 0 true (some ⟨u6, 0, none⟩) 1 1 (plOf p i) sA sn sc w' hw' hs' HBN.out (plOf_len p i (by have := HNN.out; have := HP5.out; omega)) (by omega) HSS.out)
                            have HF := Lib.hid (show chkB i (updAll (knV p.vars) (plOf p i)) 0 true (partOf p i) = f by rw [hf, chkP, knOf_pl])
                            have HX9 := Lib.hid (show X = ored f (from5 p M (i + 1)) by rw [hf, ← HACC.out, from5_lt p M i hlt])
                            have HNZ := Lib.hid (show NZ f by rw [hf, chkP]; exact nz_chkB _ _ _ _ _)
                            clear hf
                            apply meet (F := fun W2 fb => Ext wr W2 ∧ Blk W2 fb 38 (fltC f))
                            case h =>
                              intro KEY0
                              have KEY := Lib.hid KEY0
                              clear KEY0
                              refine wp_region_4 (fun w1 => Ext wr w1) (.op 0 1 (.op 1 2 (.op 2 2 (.op 3 2 (.op 4 1 (.op 5 2 (.fork 6 (.op 7 0 (.op 8 0 .nil)) 7 (.op 6 0 (.op 8 0 .nil))))))))) (by kernel_rfl) (by kernel_rfl) (by kernel_rfl) (by kernel_rfl) ?_; intro p' hp'; simp only [Pl0.fill, List.getD_cons_zero, List.getD_cons_succ] at hp'; subst hp'
                              have HY9 := Lib.hid (show Ext wr wr.drew from (Kept.refl _ wr).drew)
                              (repeat (first | ((apply w4_pure); (· go_simp); (· (intro w1; go_simp; try with_reducible rfl)); (intro K hK; go_simp; refine hK _ _ ?_; clear hK K)) | ((apply w4_skip); (· go_simp); (intro K hK; go_simp; refine hK _ _ ?_; clear hK K)) | ((apply w4_take); (· exact HY9.out); (· go_simp); (· (intro w1 hS; have d0 := Blk.ext HKQ.out hS; have d1 := Blk.gets d0; have d2 := Blk.has d0; have d3 := d0.lt; have d4 := Blk.ext HAQ.out hS; have d5 : w1.cell? ⟨ab, i, none⟩ = some (.slice sA sn sc) := (Blk.cell d4 i).trans HAC.out; have d6 := d4.lt;  go_simp; try with_reducible rfl)); (intro K hK; go_simp; refine hK _ _ ?_; clear hK K)) | ((apply w4_pass); (· exact HY9.out); (· go_simp); (intro K hK; go_simp; refine hK _ _ ?_; clear hK K))))
                              refine w4_fork ?_ ?_
                              · (refine w4_act (fun K hK => ?_); go_simp)
                                refine (HIK.out _ HY9.out (HST.out.ext_ HY9.out)).mono ?_
                                rintro e4 w1 ⟨rfl, hx1⟩
                                rw [HF.out]
                                have y1 := HY9.out.trans hx1
                                refine hK.out _ _ (fun _ => y1) ?_
                                clear hK K
                                (repeat (first | ((apply w4_pure); (· go_simp); (· (intro w1; go_simp; try with_reducible rfl)); (intro K hK; go_simp; refine hK _ _ ?_; clear hK K)) | ((apply w4_skip); (· go_simp); (intro K hK; go_simp; refine hK _ _ ?_; clear hK K))))
                                (refine w4_act (fun K hK => ?_); go_simp)
                                have y2 := y1.alloc (.cells #[.int .i64 0, .string ⟨#[]⟩] 38)
                                have hfb := Blk.new w1 38 #[.int .i64 0, .string ⟨#[]⟩]
                                refine hK.out _ _ (fun _ => y2) ?_
                                clear hK K
                                generalize hW2 : w1.alloc (.cells #[.int .i64 0, .string ⟨#[]⟩] 38) = W2 at y2 hfb ⊢
                                clear hW2
                                have hfl : wr.heap.size ≤ w1.heap.size := y1.size
                                generalize w1.heap.size = fb at hfb hfl ⊢
                                have hmf := hfb.melts
                                have hhf := Blk.has hfb
                                have hfc := fltC_two f
                                have hff := fltC_flat f
                                (repeat (first | ((apply w4_pure); (· go_simp); (· (intro w1; go_simp; try with_reducible rfl)); (intro K hK; go_simp; refine hK _ _ ?_; clear hK K)) | ((apply w4_skip); (· go_simp); (intro K hK; go_simp; refine hK _ _ ?_; clear hK K))))
                                (refine w4_act (fun K hK => ?_); go_simp)
                                have y3 := y2.putAt fb 0 (fltC f) (fun hlt => absurd hlt (by omega))
                                have hf3 := Blk.put_flt hfb f
                                refine hK.out _ _ (fun _ => y3) ?_
                                clear hK K hmf hhf hfc hff
                                (repeat (first | ((apply w4_pure); (· go_simp); (· (intro w1; go_simp; try with_reducible rfl)); (intro K hK; go_simp; refine hK _ _ ?_; clear hK K)) | ((apply w4_skip); (· go_simp); (intro K hK; go_simp; refine hK _ _ ?_; clear hK K)) | (refine w4_end (by kernel_rfl) (fun K hK => ?_); go_simp; refine hK.out _ _ ?_; clear hK K))); refine w4_nil ?_
                                generalize putAt W2 fb 0 (fltC f) = W3 at y3 hf3 ⊢
                                exact KEY.out _ _ ⟨y3, hf3⟩
                              · (refine w4_act (fun K hK => ?_); go_simp)
                                have y1 : Ext wr (wr.alloc (.cells #[.int .i64 0, .string ⟨#[]⟩] 38)).drew := ((Kept.refl _ wr).alloc _).drew
                                refine hK.out _ _ (fun _ => y1) ?_
                                clear hK K
                                generalize hW1 : (wr.alloc (.cells #[.int .i64 0, .string ⟨#[]⟩] 38)).drew = W1 at y1 ⊢
                                have hfb1 : Blk W1 wr.heap.size 38 #[.int .i64 0, .string ⟨#[]⟩] := by rw [← hW1]; exact Blk.drew (Blk.new wr _ _)
                                clear hW1
                                have hfl : wr.heap.size ≤ wr.heap.size := Nat.le_refl _
                                generalize hfbe : (wr.heap.size : Nat) = fb at hfb1 hfl ⊢
                                have HFL := Lib.hid (show wr.heap.size ≤ fb by omega)
                                clear hfl hfbe
                                have HY1 := Lib.hid y1
                                (repeat (first | ((apply w4_pure); (· go_simp); (· (intro w1; go_simp; try with_reducible rfl)); (intro K hK; go_simp; refine hK _ _ ?_; clear hK K)) | ((apply w4_skip); (· go_simp); (intro K hK; go_simp; refine hK _ _ ?_; clear hK K))))
                                (repeat (first | ((apply w4_pure); (· go_simp); (· (intro w1; go_simp; try with_reducible rfl)); (intro K hK; go_simp; refine hK _ _ ?_; clear hK K)) | ((apply w4_skip); (· go_simp); (intro K hK; go_simp; refine hK _ _ ?_; clear hK K)) | ((apply w4_take); (· exact HY1.out); (· go_simp); (· (intro w1 hS; have d0 := Blk.ext HKQ.out hS; have d1 := Blk.gets d0; have d2 := Blk.has d0; have d3 := d0.lt; have d4 := Blk.ext HAQ.out hS; have d5 : w1.cell? ⟨ab, i, none⟩ = some (.slice sA sn sc) := (Blk.cell d4 i).trans HAC.out; have d6 := d4.lt;  go_simp; try with_reducible rfl)); (intro K hK; go_simp; refine hK _ _ ?_; clear hK K)) | ((apply w4_pass); (· exact HY1.out); (· go_simp); (intro K hK; go_simp; refine hK _ _ ?_; clear hK K))))
                                (refine w4_act (fun K hK => ?_); go_simp)
                                refine (HIK.out _ HY1.out (HST.out.ext_ HY1.out)).mono ?_
                                rintro e4 w1 ⟨rfl, hx1⟩
                                rw [HF.out]
                                have y2 := HY1.out.trans hx1
                                refine hK.out _ _ (fun _ => y2) ?_
                                clear hK K y1
                                have hfb2 := Blk.ext hfb1 hx1
                                have hmf := hfb2.melts
                                have hhf := Blk.has hfb2
                                have hfc := fltC_two f
                                have hff := fltC_flat f
                                (repeat (first | ((apply w4_pure); (· go_simp); (· (intro w1; go_simp; try with_reducible rfl)); (intro K hK; go_simp; refine hK _ _ ?_; clear hK K)) | ((apply w4_skip); (· go_simp); (intro K hK; go_simp; refine hK _ _ ?_; clear hK K))))
                                (refine w4_act (fun K hK => ?_); go_simp)
                                have y3 := y2.putAt fb 0 (fltC f) (fun hlt => absurd hlt (by have := HFL.out; omega))
                                have hf3 := Blk.put_flt hfb2 f
                                refine hK.out _ _ (fun _ => y3) ?_
                                clear hK K hmf hhf hfc hff
                                (repeat (first | ((apply w4_pure); (· go_simp); (· (intro w1; go_simp; try with_reducible rfl)); (intro K hK; go_simp; refine hK _ _ ?_; clear hK K)) | ((apply w4_skip); (· go_simp); (intro K hK; go_simp; refine hK _ _ ?_; clear hK K)) | (refine w4_end (by kernel_rfl) (fun K hK => ?_); go_simp; refine hK.out _ _ ?_; clear hK K))); refine w4_nil ?_
                                generalize putAt w1 fb 0 (fltC f) = W3 at y3 hf3 ⊢
                                exact KEY.out _ _ ⟨y3, hf3⟩
                            case h2 =>
                              rintro W2 fb ⟨y2, hfb⟩
                              have HFB := Lib.hid hfb
                              have HYR := Lib.hid (HXQ.out.trans y2)
                              have HXC := Lib.hid (HXB.out.trans y2)
                              clear hfb y2
                              cases f with
                              | none =>
                                go_upto_region 32 with (fail)
                                refine wp_region_3 (fun w1 => Ext W2 w1) [(0, 1), (1, 0), (2, 2)] (by kernel_rfl) (by kernel_rfl) (by kernel_rfl) (by kernel_rfl) ?_; intro l' hl'; simp only [List.map_cons, List.map_nil, List.getD_cons_zero, List.getD_cons_succ] at hl'; subst hl'
                                have HZ0 := Lib.hid (show Ext W2 W2.drew from (Kept.refl _ W2).drew)
                                (repeat (first | ((apply w3_pure); (· go_simp); (· (intro w1; go_simp; try with_reducible rfl)); (intro K hK; go_simp; refine hK _ _ ?_; clear hK K)) | ((apply w3_skip); (· go_simp); (intro K hK; go_simp; refine hK _ _ ?_; clear hK K)) | ((apply w3_take); (· exact HZ0.out); (· go_simp); (· (intro w1 hS; have d0 := Blk.ext HFB.out hS; have d1 := Blk.gets d0; have d2 := Blk.has d0; have d3 := d0.lt;  go_simp; try with_reducible rfl)); (intro K hK; go_simp; refine hK _ _ ?_; clear hK K)) | ((apply w3_pass); (· exact HZ0.out); (· go_simp); (intro K hK; go_simp; refine hK _ _ ?_; clear hK K))))
                                (refine w3_act (fun K hK => ?_); go_simp)
                                refine (fine_any _).mono ?_
                                rintro e4 w1 ⟨rfl, hx1⟩
                                have HZ1 := Lib.hid (HZ0.out.trans hx1)
                                refine hK.out _ _ (fun _ => HZ1.out) ?_
                                clear hK K hx1
                                (repeat (first | ((apply w3_pure); (· go_simp); (· (intro w1; go_simp; try with_reducible rfl)); (intro K hK; go_simp; refine hK _ _ ?_; clear hK K)) | ((apply w3_skip); (· go_simp); (intro K hK; go_simp; refine hK _ _ ?_; clear hK K)) | (refine w3_end (by kernel_rfl) (fun K hK => ?_); go_simp; refine hK.out _ _ ?_; clear hK K))); refine w3_nil ?_
                                go_wp2_with fail
                                go_roundw
                                case rel => exact ⟨i + 1, by omega, by go_num, by rw [HX9.out, ored_none], HXW.out.trans (HYR.out.trans HZ1.out)⟩
                                case measure => simp only [intOf]; omega
                              | some f =>
                                obtain ⟨fe, fn⟩ := f
                                have hnz := NZ.out HNZ.out rfl
                                have HR := Lib.hid (show X = some ⟨fe, fn⟩ by rw [HX9.out, ored_some])
                                go_upto_region 32 with (fail)
                                refine wp_region_3 (fun w1 => Ext W2 w1) [(0, 1), (1, 0), (2, 2)] (by kernel_rfl) (by kernel_rfl) (by kernel_rfl) (by kernel_rfl) ?_; intro l' hl'; simp only [List.map_cons, List.map_nil, List.getD_cons_zero, List.getD_cons_succ] at hl'; subst hl'
                                have HZ0 := Lib.hid (show Ext W2 W2.drew from (Kept.refl _ W2).drew)
                                (repeat (first | ((apply w3_pure); (· go_simp); (· (intro w1; go_simp; try with_reducible rfl)); (intro K hK; go_simp; refine hK _ _ ?_; clear hK K)) | ((apply w3_skip); (· go_simp); (intro K hK; go_simp; refine hK _ _ ?_; clear hK K)) | ((apply w3_take); (· exact HZ0.out); (· go_simp); (· (intro w1 hS; have d0 := Blk.ext HFB.out hS; have d1 := Blk.gets d0; have d2 := Blk.has d0; have d3 := d0.lt;  go_simp; try with_reducible rfl)); (intro K hK; go_simp; refine hK _ _ ?_; clear hK K)) | ((apply w3_pass); (· exact HZ0.out); (· go_simp); (intro K hK; go_simp; refine hK _ _ ?_; clear hK K))))
                                (refine w3_act (fun K hK => ?_); go_simp)
                                refine (fine_any _).mono ?_
                                rintro e4 w1 ⟨rfl, hx1⟩
                                have HZ1 := Lib.hid (HZ0.out.trans hx1)
                                refine hK.out _ _ (fun _ => HZ1.out) ?_
                                clear hK K hx1
                                (repeat (first | ((apply w3_pure); (· go_simp); (· (intro w1; go_simp; try with_reducible rfl)); (intro K hK; go_simp; refine hK _ _ ?_; clear hK K)) | ((apply w3_skip); (· go_simp); (intro K hK; go_simp; refine hK _ _ ?_; clear hK K)) | (refine w3_end (by kernel_rfl) (fun K hK => ?_); go_simp; refine hK.out _ _ ?_; clear hK K))); refine w3_nil ?_
                                have HXC := Lib.hid (HXC.out.trans HZ1.out)
                                have hDr := Blk.ext HD.out HXC.out
                                have hmr := hDr.melts
                                have hhr := Blk.has hDr
                                have hlr := hDr.lt
                                have hcP := Blk.cell (Blk.ext HB.out HXC.out)
                                have hhP := Blk.has (Blk.ext HB.out HXC.out)
                                have hgP := Blk.gets (Blk.ext HB.out HXC.out)
                                have hlP := (Blk.ext HB.out HXC.out).lt
                                have hFr := Blk.ext HFB.out HZ1.out
                                have hgf := Blk.gets hFr
                                have hhf := Blk.has hFr
                                have hlf := hFr.lt
                                go_wp2_with fail
                                refine ret_cell (t := 38) (g := rb) (cs := fltC X) Tryd.results28 rfl rfl aggFaultR (by rw [HR.out]; exact sizeFaultR) (by rw [HR.out]; exact Blk.put_ hDr 0 _) ⟨rfl, ?_⟩
                                exact (HX0.out.trans HXC.out).putAt _ _ _ (fun hlt => absurd hlt (by have := HRW.out; omega))
                          · have hi3b : ((i : Int) == 3) = false := by simp; omega
                            have HST := Lib.hid (show StrSl wr wr.heap.size B q (plOf p i) from HPL.out hi3 ▸ hst)
                            have HBN := Lib.hid hbn
                            clear hst hbn
                            go_upto_region 31 with (fail)
                            clear hcP hlP
                            obtain ⟨⟨sA, sn, sc⟩, hs⟩ : ∃ s, s = slP (⟨p.name, p.seats, ⟨kA, j, kc⟩, ⟨vA, vn, vc⟩, cs, ⟨tA, tn, tc⟩, ⟨A, n, cc⟩, cpl, p.silent, cq, ⟨zA, zn, zc⟩⟩ : Pc) i := ⟨_, rfl⟩
                            have hpt := (HPA.out.ext HXB.out HNW.out).part i
                            have hac := part_cell (⟨p.name, p.seats, ⟨kA, j, kc⟩, ⟨vA, vn, vc⟩, cs, ⟨tA, tn, tc⟩, ⟨A, n, cc⟩, cpl, p.silent, cq, ⟨zA, zn, zc⟩⟩ : Pc) i hlt
                            rw [← hs] at hpt hac
                            have HSS := Lib.hid hpt
                            have HAC := Lib.hid (show (partCells (⟨p.name, p.seats, ⟨kA, j, kc⟩, ⟨vA, vn, vc⟩, cs, ⟨tA, tn, tc⟩, ⟨A, n, cc⟩, cpl, p.silent, cq, ⟨zA, zn, zc⟩⟩ : Pc))[i]? = some (Value.slice sA sn sc) from hac)
                            clear hs hpt hac
                            obtain ⟨f, hf⟩ : ∃ f, f = chkP p i := ⟨_, rfl⟩
                            have HIK := Lib.hid (fun w' (hw' : Ext wr w') (hs' : StrSl w' w'.heap.size B q (plOf p i)) => rblock_any (⟨p.name, p.seats, ⟨kA, j, kc⟩, ⟨vA, vn, vc⟩, cs, ⟨tA, tn, tc⟩, ⟨A, n, cc⟩, cpl, p.silent, cq, ⟨zA, zn, zc⟩⟩ : Pc) p i hlt N wr (Nat.le_trans HNW.out HXB.out.size) (HPA.out.ext HXB.out HNW.out) (partOf p i) 0 true B q bc (plOf p i) sA sn sc w' hw' hs' HBN.out (plOf_len p i (by have := HNN.out; have := HP5.out; omega)) (by omega) HSS.out)
                            have HF := Lib.hid (show chkB i (updAll (knV p.vars) (plOf p i)) 0 true (partOf p i) = f by rw [hf, chkP, knOf_pl])
                            have HX9 := Lib.hid (show X = ored f (from5 p M (i + 1)) by rw [hf, ← HACC.out, from5_lt p M i hlt])
                            have HNZ := Lib.hid (show NZ f by rw [hf, chkP]; exact nz_chkB _ _ _ _ _)
                            clear hf
                            apply meet (F := fun W2 fb => Ext wr W2 ∧ Blk W2 fb 38 (fltC f))
                            case h =>
                              intro KEY0
                              have KEY := Lib.hid KEY0
                              clear KEY0
                              refine wp_region_4 (fun w1 => Ext wr w1) (.op 0 1 (.op 1 2 (.op 2 2 (.op 3 2 (.op 4 1 (.op 5 2 (.fork 6 (.op 7 0 (.op 8 0 .nil)) 7 (.op 6 0 (.op 8 0 .nil))))))))) (by kernel_rfl) (by kernel_rfl) (by kernel_rfl) (by kernel_rfl) ?_; intro p' hp'; simp only [Pl0.fill, List.getD_cons_zero, List.getD_cons_succ] at hp'; subst hp'
                              have HY9 := Lib.hid (show Ext wr wr.drew from (Kept.refl _ wr).drew)
                              (repeat (first | ((apply w4_pure); (· go_simp); (· (intro w1; go_simp; try with_reducible rfl)); (intro K hK; go_simp; refine hK _ _ ?_; clear hK K)) | ((apply w4_skip); (· go_simp); (intro K hK; go_simp; refine hK _ _ ?_; clear hK K)) | ((apply w4_take); (· exact HY9.out); (· go_simp); (· (intro w1 hS; have d0 := Blk.ext HKQ.out hS; have d1 := Blk.gets d0; have d2 := Blk.has d0; have d3 := d0.lt; have d4 := Blk.ext HAQ.out hS; have d5 : w1.cell? ⟨ab, i, none⟩ = some (.slice sA sn sc) := (Blk.cell d4 i).trans HAC.out; have d6 := d4.lt;  go_simp; try with_reducible rfl)); (intro K hK; go_simp; refine hK _ _ ?_; clear hK K)) | ((apply w4_pass); (· exact HY9.out); (· go_simp); (intro K hK; go_simp; refine hK _ _ ?_; clear hK K))))
                              refine w4_fork ?_ ?_
                              · (refine w4_act (fun K hK => ?_); go_simp)
                                refine (HIK.out _ HY9.out (HST.out.ext_ HY9.out)).mono ?_
                                rintro e4 w1 ⟨rfl, hx1⟩
                                rw [HF.out]
                                have y1 := HY9.out.trans hx1
                                refine hK.out _ _ (fun _ => y1) ?_
                                clear hK K
                                (repeat (first | ((apply w4_pure); (· go_simp); (· (intro w1; go_simp; try with_reducible rfl)); (intro K hK; go_simp; refine hK _ _ ?_; clear hK K)) | ((apply w4_skip); (· go_simp); (intro K hK; go_simp; refine hK _ _ ?_; clear hK K))))
                                (refine w4_act (fun K hK => ?_); go_simp)
                                have y2 := y1.alloc (.cells #[.int .i64 0, .string ⟨#[]⟩] 38)
                                have hfb := Blk.new w1 38 #[.int .i64 0, .string ⟨#[]⟩]
                                refine hK.out _ _ (fun _ => y2) ?_
                                clear hK K
                                generalize hW2 : w1.alloc (.cells #[.int .i64 0, .string ⟨#[]⟩] 38) = W2 at y2 hfb ⊢
                                clear hW2
                                have hfl : wr.heap.size ≤ w1.heap.size := y1.size
                                generalize w1.heap.size = fb at hfb hfl ⊢
                                have hmf := hfb.melts
                                have hhf := Blk.has hfb
                                have hfc := fltC_two f
                                have hff := fltC_flat f
                                (repeat (first | ((apply w4_pure); (· go_simp); (· (intro w1; go_simp; try with_reducible rfl)); (intro K hK; go_simp; refine hK _ _ ?_; clear hK K)) | ((apply w4_skip); (· go_simp); (intro K hK; go_simp; refine hK _ _ ?_; clear hK K))))
                                (refine w4_act (fun K hK => ?_); go_simp)
                                have y3 := y2.putAt fb 0 (fltC f) (fun hlt => absurd hlt (by omega))
                                have hf3 := Blk.put_flt hfb f
                                refine hK.out _ _ (fun _ => y3) ?_
                                clear hK K hmf hhf hfc hff
                                (repeat (first | ((apply w4_pure); (· go_simp); (· (intro w1; go_simp; try with_reducible rfl)); (intro K hK; go_simp; refine hK _ _ ?_; clear hK K)) | ((apply w4_skip); (· go_simp); (intro K hK; go_simp; refine hK _ _ ?_; clear hK K)) | (refine w4_end (by kernel_rfl) (fun K hK => ?_); go_simp; refine hK.out _ _ ?_; clear hK K))); refine w4_nil ?_
                                generalize putAt W2 fb 0 (fltC f) = W3 at y3 hf3 ⊢
                                exact KEY.out _ _ ⟨y3, hf3⟩
                              · (refine w4_act (fun K hK => ?_); go_simp)
                                have y1 : Ext wr (wr.alloc (.cells #[.int .i64 0, .string ⟨#[]⟩] 38)).drew := ((Kept.refl _ wr).alloc _).drew
                                refine hK.out _ _ (fun _ => y1) ?_
                                clear hK K
                                generalize hW1 : (wr.alloc (.cells #[.int .i64 0, .string ⟨#[]⟩] 38)).drew = W1 at y1 ⊢
                                have hfb1 : Blk W1 wr.heap.size 38 #[.int .i64 0, .string ⟨#[]⟩] := by rw [← hW1]; exact Blk.drew (Blk.new wr _ _)
                                clear hW1
                                have hfl : wr.heap.size ≤ wr.heap.size := Nat.le_refl _
                                generalize hfbe : (wr.heap.size : Nat) = fb at hfb1 hfl ⊢
                                have HFL := Lib.hid (show wr.heap.size ≤ fb by omega)
                                clear hfl hfbe
                                have HY1 := Lib.hid y1
                                (repeat (first | ((apply w4_pure); (· go_simp); (· (intro w1; go_simp; try with_reducible rfl)); (intro K hK; go_simp; refine hK _ _ ?_; clear hK K)) | ((apply w4_skip); (· go_simp); (intro K hK; go_simp; refine hK _ _ ?_; clear hK K))))
                                (repeat (first | ((apply w4_pure); (· go_simp); (· (intro w1; go_simp; try with_reducible rfl)); (intro K hK; go_simp; refine hK _ _ ?_; clear hK K)) | ((apply w4_skip); (· go_simp); (intro K hK; go_simp; refine hK _ _ ?_; clear hK K)) | ((apply w4_take); (· exact HY1.out); (· go_simp); (· (intro w1 hS; have d0 := Blk.ext HKQ.out hS; have d1 := Blk.gets d0; have d2 := Blk.has d0; have d3 := d0.lt; have d4 := Blk.ext HAQ.out hS; have d5 : w1.cell? ⟨ab, i, none⟩ = some (.slice sA sn sc) := (Blk.cell d4 i).trans HAC.out; have d6 := d4.lt;  go_simp; try with_reducible rfl)); (intro K hK; go_simp; refine hK _ _ ?_; clear hK K)) | ((apply w4_pass); (· exact HY1.out); (· go_simp); (intro K hK; go_simp; refine hK _ _ ?_; clear hK K))))
                                (refine w4_act (fun K hK => ?_); go_simp)
                                refine (HIK.out _ HY1.out (HST.out.ext_ HY1.out)).mono ?_
                                rintro e4 w1 ⟨rfl, hx1⟩
                                rw [HF.out]
                                have y2 := HY1.out.trans hx1
                                refine hK.out _ _ (fun _ => y2) ?_
                                clear hK K y1
                                have hfb2 := Blk.ext hfb1 hx1
                                have hmf := hfb2.melts
                                have hhf := Blk.has hfb2
                                have hfc := fltC_two f
                                have hff := fltC_flat f
                                (repeat (first | ((apply w4_pure); (· go_simp); (· (intro w1; go_simp; try with_reducible rfl)); (intro K hK; go_simp; refine hK _ _ ?_; clear hK K)) | ((apply w4_skip); (· go_simp); (intro K hK; go_simp; refine hK _ _ ?_; clear hK K))))
                                (refine w4_act (fun K hK => ?_); go_simp)
                                have y3 := y2.putAt fb 0 (fltC f) (fun hlt => absurd hlt (by have := HFL.out; omega))
                                have hf3 := Blk.put_flt hfb2 f
                                refine hK.out _ _ (fun _ => y3) ?_
                                clear hK K hmf hhf hfc hff
                                (repeat (first | ((apply w4_pure); (· go_simp); (· (intro w1; go_simp; try with_reducible rfl)); (intro K hK; go_simp; refine hK _ _ ?_; clear hK K)) | ((apply w4_skip); (· go_simp); (intro K hK; go_simp; refine hK _ _ ?_; clear hK K)) | (refine w4_end (by kernel_rfl) (fun K hK => ?_); go_simp; refine hK.out _ _ ?_; clear hK K))); refine w4_nil ?_
                                generalize putAt w1 fb 0 (fltC f) = W3 at y3 hf3 ⊢
                                exact KEY.out _ _ ⟨y3, hf3⟩
                            case h2 =>
                              rintro W2 fb ⟨y2, hfb⟩
                              have HFB := Lib.hid hfb
                              have HYR := Lib.hid (HXQ.out.trans y2)
                              have HXC := Lib.hid (HXB.out.trans y2)
                              clear hfb y2
                              cases f with
                              | none =>
                                go_upto_region 32 with (fail)
                                refine wp_region_3 (fun w1 => Ext W2 w1) [(0, 1), (1, 0), (2, 2)] (by kernel_rfl) (by kernel_rfl) (by kernel_rfl) (by kernel_rfl) ?_; intro l' hl'; simp only [List.map_cons, List.map_nil, List.getD_cons_zero, List.getD_cons_succ] at hl'; subst hl'
                                have HZ0 := Lib.hid (show Ext W2 W2.drew from (Kept.refl _ W2).drew)
                                (repeat (first | ((apply w3_pure); (· go_simp); (· (intro w1; go_simp; try with_reducible rfl)); (intro K hK; go_simp; refine hK _ _ ?_; clear hK K)) | ((apply w3_skip); (· go_simp); (intro K hK; go_simp; refine hK _ _ ?_; clear hK K)) | ((apply w3_take); (· exact HZ0.out); (· go_simp); (· (intro w1 hS; have d0 := Blk.ext HFB.out hS; have d1 := Blk.gets d0; have d2 := Blk.has d0; have d3 := d0.lt;  go_simp; try with_reducible rfl)); (intro K hK; go_simp; refine hK _ _ ?_; clear hK K)) | ((apply w3_pass); (· exact HZ0.out); (· go_simp); (intro K hK; go_simp; refine hK _ _ ?_; clear hK K))))
                                (refine w3_act (fun K hK => ?_); go_simp)
                                refine (fine_any _).mono ?_
                                rintro e4 w1 ⟨rfl, hx1⟩
                                have HZ1 := Lib.hid (HZ0.out.trans hx1)
                                refine hK.out _ _ (fun _ => HZ1.out) ?_
                                clear hK K hx1
                                (repeat (first | ((apply w3_pure); (· go_simp); (· (intro w1; go_simp; try with_reducible rfl)); (intro K hK; go_simp; refine hK _ _ ?_; clear hK K)) | ((apply w3_skip); (· go_simp); (intro K hK; go_simp; refine hK _ _ ?_; clear hK K)) | (refine w3_end (by kernel_rfl) (fun K hK => ?_); go_simp; refine hK.out _ _ ?_; clear hK K))); refine w3_nil ?_
                                go_wp2_with fail
                                go_roundw
                                case rel => exact ⟨i + 1, by omega, by go_num, by rw [HX9.out, ored_none], HXW.out.trans (HYR.out.trans HZ1.out)⟩
                                case measure => simp only [intOf]; omega
                              | some f =>
                                obtain ⟨fe, fn⟩ := f
                                have hnz := NZ.out HNZ.out rfl
                                have HR := Lib.hid (show X = some ⟨fe, fn⟩ by rw [HX9.out, ored_some])
                                go_upto_region 32 with (fail)
                                refine wp_region_3 (fun w1 => Ext W2 w1) [(0, 1), (1, 0), (2, 2)] (by kernel_rfl) (by kernel_rfl) (by kernel_rfl) (by kernel_rfl) ?_; intro l' hl'; simp only [List.map_cons, List.map_nil, List.getD_cons_zero, List.getD_cons_succ] at hl'; subst hl'
                                have HZ0 := Lib.hid (show Ext W2 W2.drew from (Kept.refl _ W2).drew)
                                (repeat (first | ((apply w3_pure); (· go_simp); (· (intro w1; go_simp; try with_reducible rfl)); (intro K hK; go_simp; refine hK _ _ ?_; clear hK K)) | ((apply w3_skip); (· go_simp); (intro K hK; go_simp; refine hK _ _ ?_; clear hK K)) | ((apply w3_take); (· exact HZ0.out); (· go_simp); (· (intro w1 hS; have d0 := Blk.ext HFB.out hS; have d1 := Blk.gets d0; have d2 := Blk.has d0; have d3 := d0.lt;  go_simp; try with_reducible rfl)); (intro K hK; go_simp; refine hK _ _ ?_; clear hK K)) | ((apply w3_pass); (· exact HZ0.out); (· go_simp); (intro K hK; go_simp; refine hK _ _ ?_; clear hK K))))
                                (refine w3_act (fun K hK => ?_); go_simp)
                                refine (fine_any _).mono ?_
                                rintro e4 w1 ⟨rfl, hx1⟩
                                have HZ1 := Lib.hid (HZ0.out.trans hx1)
                                refine hK.out _ _ (fun _ => HZ1.out) ?_
                                clear hK K hx1
                                (repeat (first | ((apply w3_pure); (· go_simp); (· (intro w1; go_simp; try with_reducible rfl)); (intro K hK; go_simp; refine hK _ _ ?_; clear hK K)) | ((apply w3_skip); (· go_simp); (intro K hK; go_simp; refine hK _ _ ?_; clear hK K)) | (refine w3_end (by kernel_rfl) (fun K hK => ?_); go_simp; refine hK.out _ _ ?_; clear hK K))); refine w3_nil ?_
                                have HXC := Lib.hid (HXC.out.trans HZ1.out)
                                have hDr := Blk.ext HD.out HXC.out
                                have hmr := hDr.melts
                                have hhr := Blk.has hDr
                                have hlr := hDr.lt
                                have hcP := Blk.cell (Blk.ext HB.out HXC.out)
                                have hhP := Blk.has (Blk.ext HB.out HXC.out)
                                have hgP := Blk.gets (Blk.ext HB.out HXC.out)
                                have hlP := (Blk.ext HB.out HXC.out).lt
                                have hFr := Blk.ext HFB.out HZ1.out
                                have hgf := Blk.gets hFr
                                have hhf := Blk.has hFr
                                have hlf := hFr.lt
                                go_wp2_with fail
                                refine ret_cell (t := 38) (g := rb) (cs := fltC X) Tryd.results28 rfl rfl aggFaultR (by rw [HR.out]; exact sizeFaultR) (by rw [HR.out]; exact Blk.put_ hDr 0 _) ⟨rfl, ?_⟩
                                exact (HX0.out.trans HXC.out).putAt _ _ _ (fun hlt => absurd hlt (by have := HRW.out; omega))
                    · obtain rfl : i = 5 := by omega
                      have HX8 := Lib.hid (show X = M by rw [← HACC.out]; rfl)
                      have hDr := Blk.ext HD.out HXC.out
                      have hmr := hDr.melts
                      have hhr := Blk.has hDr
                      have hlr := hDr.lt
                      have hcP := Blk.cell (Blk.ext HB.out HXC.out)
                      have hhP := Blk.has (Blk.ext HB.out HXC.out)
                      have hgP := Blk.gets (Blk.ext HB.out HXC.out)
                      have hlP := (Blk.ext HB.out HXC.out).lt
                      go_wp2_with fail
                      refine (rends_any wr p.turn tA tn tc N wr (Kept.refl _ _) (Nat.le_trans HNW.out HXC.out.size) (HPA.out.ext HXC.out HNW.out).turn).mono ?_
                      rintro e w3 ⟨rfl, hx3⟩
                      clear hDr hmr hhr hlr hcP hhP hgP hlP
                      have HXC := Lib.hid (HXC.out.trans hx3)
                      clear hx3
                      rw [← HB4.out]
                      have hDr := Blk.ext HD.out HXC.out
                      have hmr := hDr.melts
                      have hhr := Blk.has hDr
                      have hlr := hDr.lt
                      have hcP := Blk.cell (Blk.ext HB.out HXC.out)
                      have hhP := Blk.has (Blk.ext HB.out HXC.out)
                      have hgP := Blk.gets (Blk.ext HB.out HXC.out)
                      have hlP := (Blk.ext HB.out HXC.out).lt
                      cases b4
                      · have HR := Lib.hid (show X = some ⟨4, sTurn⟩ by rw [HX8.out, HM.out, must_false, ored_some])
                        go_wp2_with fail
                        refine ret_cell (t := 38) (g := rb) (cs := fltC X) Tryd.results28 rfl rfl aggFaultR (by rw [HR.out]; exact sizeFaultR) (by rw [HR.out]; exact Blk.put_ hDr 0 _) ⟨rfl, ?_⟩
                        exact (HX0.out.trans HXC.out).putAt _ _ _ (fun hlt => absurd hlt (by have := HRW.out; omega))
                      · have HX9 := Lib.hid (show X = must b5 4 sPay by rw [HX8.out, HM.out, must_true, ored_none])
                        clear HX8 HM
                        obtain ⟨-, -, b9, o9, hA9, hE9⟩ := (HPA.out.ext HXC.out HNW.out).pays
                        cases zn with
                        | zero =>
                          have HR := Lib.hid (show X = some ⟨4, sPay⟩ by
                            have : p.pays = .nil := by
                              have hz := HZN.out
                              cases hq : p.pays with
                              | nil => rfl
                              | cons => rw [hq] at hz; simp [SF.len] at hz
                            rw [HX9.out, show b5 = false by rw [HB5.out, this]; rfl, must_false])
                          clear hA9 hE9
                          go_wp2_with fail
                          refine ret_cell (t := 38) (g := rb) (cs := fltC X) Tryd.results28 rfl rfl aggFaultR (by rw [HR.out]; exact sizeFaultR) (by rw [HR.out]; exact Blk.put_ hDr 0 _) ⟨rfl, ?_⟩
                          exact (HX0.out.trans HXC.out).putAt _ _ _ (fun hlt => absurd hlt (by have := HRW.out; omega))
                        | succ m =>
                          obtain ⟨k, hk, hrl, hbN⟩ := rest_at hE9 (by rw [← HZN.out]; exact Nat.succ_pos m)
                          obtain rfl := hA9 (Nat.succ_pos m)
                          rw [← HZN.out] at hk
                          have hbw := Nat.lt_of_lt_of_le hbN (Nat.le_trans HNW.out HXC.out.size)
                          simp only [Nat.add_sub_cancel] at hk
                          have hi1 : (m : Int) < ((m : Int) + 1) := by omega
                          have hi0 : (0 : Int) < (m : Int) + 1 := by omega
                          have HRL := Lib.hid hrl
                          clear hrl hE9 hbN
                          cases hq : (k == 9)
                          · have HR := Lib.hid (show X = some ⟨4, sPay⟩ by rw [HX9.out, show b5 = false by rw [HB5.out, HRL.out, hq], must_false])
                            have hqn : (k != 9) = true := by unfold bne; rw [hq]; rfl
                            go_wp2_with fail
                            refine ret_cell (t := 38) (g := rb) (cs := fltC X) Tryd.results28 rfl rfl aggFaultR (by rw [HR.out]; exact sizeFaultR) (by rw [HR.out]; exact Blk.put_ hDr 0 _) ⟨rfl, ?_⟩
                            exact (HX0.out.trans HXC.out).putAt _ _ _ (fun hlt => absurd hlt (by have := HRW.out; omega))
                          · have HR := Lib.hid (show X = none by rw [HX9.out, show b5 = true by rw [HB5.out, HRL.out, hq], must_true])
                            have hqn : (k != 9) = false := by unfold bne; rw [hq]; rfl
                            go_wp2_with fail
                            refine (fine_any _).mono ?_
                            rintro e w4 ⟨rfl, hx4⟩
                            clear hDr hmr hhr hlr hcP hhP hgP hlP
                            clear hk hbw
                            have HXC := Lib.hid (HXC.out.trans hx4)
                            have hDr := Blk.ext HD.out HXC.out
                            have hmr := hDr.melts
                            have hhr := Blk.has hDr
                            have hlr := hDr.lt
                            have hcP := Blk.cell (Blk.ext HB.out HXC.out)
                            have hhP := Blk.has (Blk.ext HB.out HXC.out)
                            have hgP := Blk.gets (Blk.ext HB.out HXC.out)
                            have hlP := (Blk.ext HB.out HXC.out).lt
                            clear hx4
                            go_wp2_with fail
                            refine ret_cell (t := 38) (g := rb) (cs := fltC X) Tryd.results28 rfl rfl aggFaultR (by rw [HR.out]; exact sizeFaultR) (by rw [HR.out]; exact Blk.put_ hDr 0 _) ⟨rfl, ?_⟩
                            exact (HX0.out.trans HXC.out).putAt _ _ _ (fun hlt => absurd hlt (by have := HRW.out; omega))
end Go.Proofs.YtfamkemdgbnegaaDoor
