/- Several texts joined: Ub, Uc, Ud. -/
import Derived.Test.YtfamkemdgbnegaaDoorSdi
/- Sorts: the document's answer: the variables. -/
namespace Go.Proofs.YtfamkemdgbnegaaDoor
open Go.RowKit So
theorem knV_zero (l : List Vr) (s : Str) : (knV l s == 0) = !(l.any (fun v => decide (v.name = s))) := by
  unfold knV
  cases hf : l.find? (fun v => decide (v.name = s)) with
  | none =>
    have : l.any (fun v => decide (v.name = s)) = false := by
      rw [List.any_eq_false]; intro v hv; exact List.find?_eq_none.1 hf v hv
    rw [this]; rfl
  | some v =>
    have : l.any (fun v => decide (v.name = s)) = true := by
      rw [List.any_eq_true]; exact ⟨v, List.mem_of_find?_eq_some hf, List.find?_some (p := fun v : Vr => decide (v.name = s)) hf⟩
    rw [this]
    simp only
    split <;> rfl
theorem VSl.take {w : World} {N : Nat} {A : Option Addr} {n : Nat} {l : List Vr} (h : VSl w N A n l) (j : Nat) (hj : j ≤ n) : VSl w N A j (l.take j) := by
  obtain ⟨h1, h2, h3, b, off, h4, h5⟩ := h
  refine ⟨by rw [List.length_take]; omega, ?_, fun v hv => h3 v (List.mem_of_mem_take hv), b, off, fun h0 => h4 (by omega), fun h0 => ⟨(h5 (by omega)).1, ?_⟩⟩
  · unfold Fits at h2 ⊢
    have : j * 40 ≤ n * 40 := Nat.mul_le_mul_right _ hj
    omega
  · have hr := (h5 (by omega)).2
    have hs := hr.sub 0 (j * 4) (by rw [rowsL_len (f := vcells) (k := 4) (fun _ => rfl)]; omega)
    have he : (rowsL vcells l).take (j * 4) = rowsL vcells (l.take j) := by
      have e1 : rowsL vcells l = rowsL vcells (l.take j) ++ rowsL vcells (l.drop j) := by rw [rowsL_app, List.take_append_drop]
      have e2 : (rowsL vcells (l.take j)).length = j * 4 := by rw [rowsL_len (f := vcells) (k := 4) (fun _ => rfl), List.length_take]; rw [Nat.min_eq_left (by omega)]
      rw [e1, ← e2, List.take_left]
    have e3 : (rowsL vcells (l.take j)).length = j * 4 := by rw [rowsL_len (f := vcells) (k := 4) (fun _ => rfl), List.length_take]; rw [Nat.min_eq_left (by omega)]
    rw [Nat.add_zero, List.drop_zero, he] at hs
    exact ⟨by rw [e3]; exact hs.1, by rw [e3]; exact hs.2, hr.lt⟩
set_option maxRecDepth 100000 in
set_option maxHeartbeats 1500000 in
theorem rvars_any (l : List Vr) (A : Option Addr) (n c N : Nat) (w : World) (hcap : n ≤ c) (hN : N ≤ w.heap.size) (h : VSl w N A n l) : Calls Tryd.prog 54 #[.slice A n c] w fun e w' => e = .returned (.agg (fltC (ored (chkVars [] l) (must (decide (cells l ≤ 64)) 8 sVar)))) ∧ Ext w w' := by
  obtain ⟨X, hX⟩ : ∃ X, X = ored (chkVars [] l) (must (decide (cells l ≤ 64)) 8 sVar) := ⟨_, rfl⟩
  rw [← hX]
  have HX := Lib.hid hX.symm
  clear hX
  have hx0 := (Kept.refl (fun _ => False) w).alloc (.cells #[.int .i64 0, .string ⟨#[]⟩] 38)
  have hD := Blk.new w 38 #[.int .i64 0, .string ⟨#[]⟩]
  have HV := Lib.hid (h.ext hx0)
  obtain ⟨hn, hf, hok, b, off, hA, hE⟩ := h.ext hx0
  have hm := hf.max (by omega)
  have HN := Lib.hid hn
  have HA := Lib.hid hA
  have HE := Lib.hid hE
  have HOK := Lib.hid hok
  have HNW := Lib.hid (Nat.le_trans hN hx0.size)
  clear hn hA hE hok hf h
  go_enter Tryd.func54, Tryd.ntmps54
  go_upto_region 1 with (fail)
  generalize hW : (w.alloc (.cells #[.int .i64 0, .string ⟨#[]⟩] 38)) = W at hx0 hD HE HV HNW ⊢
  clear hW
  obtain ⟨rb, hrb⟩ : ∃ rb, rb = w.heap.size := ⟨_, rfl⟩
  rw [← hrb] at hD ⊢
  have HRW := Lib.hid (show w.heap.size ≤ rb by omega)
  have HD := Lib.hid hD
  have HX0 := Lib.hid hx0
  clear hD hx0 hrb
  go_wp2_with fail
  go_loopw [3, 4] (fun t3 t4 wr => ∃ (j : Nat), j ≤ n ∧ t4 = .int .i64 j ∧ t3 = .int .i64 (w64 (cells (l.take j))) ∧ ored (chkVars (l.take j) (l.drop j)) (must (decide (cells l ≤ 64)) 8 sVar) = X ∧ Ext W wr) (fun _ t4 _ => n - (intOf t4).toNat)
  case atStart => exact ⟨0, Nat.zero_le _, rfl, by simp [cells, w64_def], HX.out, Kept.refl _ _⟩
  case round =>
    obtain ⟨j, hj, rfl, rfl, hacc, hx⟩ := hrel
    have HXC := Lib.hid hx
    have HACC := Lib.hid hacc
    clear hx hacc
    by_cases hlt : j < n
    · have hjl : j < l.length := by have := HN.out; omega
      have hltI : (j : Int) < n := by omega
      have hjc : (j : Int) ≤ c := by omega
      have HJV := Lib.hid (HV.out.take j hj)
      obtain rfl := HA.out (by omega)
      have hrow := (HE.out (by omega)).2.ext HXC.out
      obtain ⟨hh', hg'⟩ := vr_at hrow j hjl
      have hbw := hrow.lt
      obtain ⟨x, hxe⟩ : ∃ x, x = l[j] := ⟨_, rfl⟩
      have HVO := Lib.hid (HOK.out x (by rw [hxe]; exact List.getElem_mem hjl))
      have hdrop : l.drop j = x :: l.drop (j + 1) := by rw [hxe]; exact List.drop_eq_getElem_cons hjl
      have htake : l.take (j + 1) = l.take j ++ [x] := by rw [hxe, List.take_add_one, List.getElem?_eq_getElem hjl]; rfl
      have HCT := Lib.hid (show cells (l.take (j + 1)) = cells (l.take j) + So.cellsV x by rw [cells_take hjl, ← hxe])
      rw [← hxe] at hg'
      have hacc := HACC.out
      rw [hdrop] at hacc
      have HTK := Lib.hid htake
      obtain ⟨Y, hY⟩ : ∃ Y, Y = ored (chkVars (l.take j ++ [x]) (l.drop (j + 1))) (must (decide (cells l ≤ 64)) 8 sVar) := ⟨_, rfl⟩
      have HYE := Lib.hid hY
      have HX2 : Hid (X = ored (must (isName x.name) 6 x.name) (ored (must (!((l.take j).any (fun v => decide (v.name = x.name)))) 7 x.name) (ored (must (btw x.size 0 64 && span x) 2 x.name) Y))) := Lib.hid (by
        rw [← hacc, hY, chkVars, ored_assoc, ored_assoc, ored_assoc, knV_zero])
      clear hrow hxe hacc hdrop htake hY HACC
      have y0 := (Kept.refl (fun _ => False) wr).alloc (.cells (vcells x) 29)
      have hV0 := Blk.new wr 29 (vcells x)
      go_upto_region 6 with (fail)
      clear hh' hg' hbw
      have HZ := Lib.hid (HXC.out.trans y0)
      generalize hW1 : (wr.alloc (.cells (vcells x) 29)) = W1 at y0 hV0 HZ ⊢
      generalize wr.heap.size = eb at hV0 ⊢
      have HVB := Lib.hid hV0
      clear hW1 y0 hV0 HXC
      have hcV := Blk.cell HVB.out
      have hlV := HVB.out.lt
      go_wp2_with fail
      refine (risname_any x.name HVO.out.name _).mono ?_
      rintro e w1 ⟨rfl, hx1⟩
      have HXC := Lib.hid (HZ.out.trans hx1)
      have HV1 := Lib.hid (Blk.ext HVB.out hx1)
      clear hcV hlV hx1 HVB HZ
      have hcV := Blk.cell HV1.out
      have hlV := HV1.out.lt
      have hDr := Blk.ext HD.out HXC.out
      have hmr := hDr.melts
      have hhr := Blk.has hDr
      have hlr := hDr.lt
      cases hn : isName x.name
      · have HR := Lib.hid (show X = some ⟨6, x.name⟩ by rw [HX2.out, hn, must_false, ored_some])
        go_wp2_with fail
        refine ret_cell (t := 38) (g := rb) (cs := fltC X) Tryd.results54 rfl rfl aggFaultR (by rw [HR.out]; exact sizeFaultR) (by rw [HR.out]; exact Blk.put_ hDr 0 _) ⟨rfl, ?_⟩
        exact (HX0.out.trans HXC.out).putAt _ _ _ (fun hlt => absurd hlt (by have := HRW.out; omega))
      · have HX3 := Lib.hid (show X = ored (must (!((l.take j).any (fun v => decide (v.name = x.name)))) 7 x.name) (ored (must (btw x.size 0 64 && span x) 2 x.name) Y) by rw [HX2.out, hn, must_true, ored_none])
        clear HX2 hn
        clear hDr hmr hhr hlr
        clear hcV hlV
        go_upto_region 8 with (fail)
        refine wp_region_3 (fun w2 => Ext w1 w2) [(0, 2), (1, 2), (2, 2), (3, 2), (4, 1), (5, 0)] (by kernel_rfl) (by kernel_rfl) (by kernel_rfl) (by kernel_rfl) ?_; intro l' hl'; simp only [List.map_cons, List.map_nil, List.getD_cons_zero, List.getD_cons_succ] at hl'; subst hl'
        have HZ0 := Lib.hid (show Ext w1 w1.drew from (Kept.refl _ w1).drew)
        (repeat (first | ((apply w3_pure); (· go_simp); (· (intro w1; go_simp; try with_reducible rfl)); (intro K hK; go_simp; refine hK _ _ ?_; clear hK K)) | ((apply w3_skip); (· go_simp); (intro K hK; go_simp; refine hK _ _ ?_; clear hK K)) | ((apply w3_take); (· exact HZ0.out); (· go_simp); (· (intro w1 hS; have d4 := Blk.ext HV1.out hS; have d5 := Blk.cell d4; have d6 := d4.lt;  go_simp; try with_reducible rfl)); (intro K hK; go_simp; refine hK _ _ ?_; clear hK K)) | ((apply w3_pass); (· exact HZ0.out); (· go_simp); (intro K hK; go_simp; refine hK _ _ ?_; clear hK K))))
        (refine w3_act (fun K hK => ?_); go_simp)
        refine (find_any (l.take j) x.name _ j _ N _ (HJV.out.ext (HXC.out.trans HZ0.out))).mono ?_
        rintro e w2 ⟨rfl, rfl⟩
        refine hK.out _ _ (fun _ => HZ0.out) ?_
        clear hK K
        (repeat (first | ((apply w3_pure); (· go_simp); (· (intro w1; go_simp; try with_reducible rfl)); (intro K hK; go_simp; refine hK _ _ ?_; clear hK K)) | ((apply w3_skip); (· go_simp); (intro K hK; go_simp; refine hK _ _ ?_; clear hK K)) | (refine w3_end (by kernel_rfl) (fun K hK => ?_); go_simp; refine hK.out _ _ ?_; clear hK K))); refine w3_nil ?_
        have HXC := Lib.hid (HXC.out.trans HZ0.out)
        have HV2 := Lib.hid (Blk.ext HV1.out HZ0.out)
        generalize w1.drew = W2 at HXC HV2 ⊢
        clear HZ0 HV1
        have hcV := Blk.cell HV2.out
        have hlV := HV2.out.lt
        have hDr := Blk.ext HD.out HXC.out
        have hmr := hDr.melts
        have hhr := Blk.has hDr
        have hlr := hDr.lt
        obtain ⟨an, han⟩ : ∃ an, an = (l.take j).any (fun v => decide (v.name = x.name)) := ⟨_, rfl⟩
        rw [← han] at HX3 ⊢
        clear han
        cases an
        · have HX4 := Lib.hid (show X = ored (must (btw x.size 0 64 && (word x.low && word x.high && decide (x.low ≤ x.high))) 2 x.name) Y by rw [HX3.out, Bool.not_false, must_true, ored_none]; rfl)
          clear HX3
          clear hDr hmr hhr hlr
          go_wp2_with fail
          refine (in_any x.size 0 64 _).mono ?_
          rintro e w3 ⟨rfl, rfl⟩
          cases hb : btw x.size 0 64
          · have HR := Lib.hid (show X = some ⟨2, x.name⟩ by rw [HX4.out, hb, Bool.false_and, must_false, ored_some])
            have hDr := Blk.ext HD.out HXC.out
            have hmr := hDr.melts
            have hhr := Blk.has hDr
            have hlr := hDr.lt
            go_wp2_with fail
            refine ret_cell (t := 38) (g := rb) (cs := fltC X) Tryd.results54 rfl rfl aggFaultR (by rw [HR.out]; exact sizeFaultR) (by rw [HR.out]; exact Blk.put_ hDr 0 _) ⟨rfl, ?_⟩
            exact (HX0.out.trans HXC.out).putAt _ _ _ (fun hlt => absurd hlt (by have := HRW.out; omega))
          · go_wp2_with fail
            refine (word_any x.low _).mono ?_
            rintro e w3 ⟨rfl, rfl⟩
            cases hw1 : word x.low
            · have HR := Lib.hid (show X = some ⟨2, x.name⟩ by rw [HX4.out, hb, hw1]; rfl)
              have hDr := Blk.ext HD.out HXC.out
              have hmr := hDr.melts
              have hhr := Blk.has hDr
              have hlr := hDr.lt
              go_wp2_with fail
              refine ret_cell (t := 38) (g := rb) (cs := fltC X) Tryd.results54 rfl rfl aggFaultR (by rw [HR.out]; exact sizeFaultR) (by rw [HR.out]; exact Blk.put_ hDr 0 _) ⟨rfl, ?_⟩
              exact (HX0.out.trans HXC.out).putAt _ _ _ (fun hlt => absurd hlt (by have := HRW.out; omega))
            · go_wp2_with fail
              refine (word_any x.high _).mono ?_
              rintro e w3 ⟨rfl, rfl⟩
              cases hw2 : word x.high
              · have HR := Lib.hid (show X = some ⟨2, x.name⟩ by rw [HX4.out, hb, hw1, hw2]; rfl)
                have hDr := Blk.ext HD.out HXC.out
                have hmr := hDr.melts
                have hhr := Blk.has hDr
                have hlr := hDr.lt
                go_wp2_with fail
                refine ret_cell (t := 38) (g := rb) (cs := fltC X) Tryd.results54 rfl rfl aggFaultR (by rw [HR.out]; exact sizeFaultR) (by rw [HR.out]; exact Blk.put_ hDr 0 _) ⟨rfl, ?_⟩
                exact (HX0.out.trans HXC.out).putAt _ _ _ (fun hlt => absurd hlt (by have := HRW.out; omega))
              · have HX5 := Lib.hid (show X = ored (must (decide (x.low ≤ x.high)) 2 x.name) Y by rw [HX4.out, hb, hw1, hw2, Bool.true_and, Bool.true_and, Bool.true_and])
                clear HX4 hb hw1 hw2
                by_cases hgt : x.low > x.high
                · have HR := Lib.hid (show X = some ⟨2, x.name⟩ by rw [HX5.out, decide_eq_false (by omega), must_false, ored_some])
                  have hDr := Blk.ext HD.out HXC.out
                  have hmr := hDr.melts
                  have hhr := Blk.has hDr
                  have hlr := hDr.lt
                  go_wp2_with fail
                  refine ret_cell (t := 38) (g := rb) (cs := fltC X) Tryd.results54 rfl rfl aggFaultR (by rw [HR.out]; exact sizeFaultR) (by rw [HR.out]; exact Blk.put_ hDr 0 _) ⟨rfl, ?_⟩
                  exact (HX0.out.trans HXC.out).putAt _ _ _ (fun hlt => absurd hlt (by have := HRW.out; omega))
                · have HX6 := Lib.hid (show X = Y by rw [HX5.out, decide_eq_true (by omega), must_true, ored_none])
                  have hhV := Blk.has HV2.out
                  have hgV := Blk.gets HV2.out
                  go_wp2_with fail
                  refine (cells_any x _).mono ?_
                  rintro e w4 ⟨rfl, hx4⟩
                  go_wp2_with fail
                  go_roundw
                  case rel => exact ⟨j + 1, hlt, by go_num, by rw [HCT.out]; simp only [w64_w64], by rw [HTK.out, ← HYE.out, HX6.out], HXC.out.trans hx4⟩
                  case measure => simp only [intOf]; omega
        · have HR := Lib.hid (show X = some ⟨7, x.name⟩ by rw [HX3.out, Bool.not_true, must_false, ored_some])
          go_wp2_with fail
          refine ret_cell (t := 38) (g := rb) (cs := fltC X) Tryd.results54 rfl rfl aggFaultR (by rw [HR.out]; exact sizeFaultR) (by rw [HR.out]; exact Blk.put_ hDr 0 _) ⟨rfl, ?_⟩
          exact (HX0.out.trans HXC.out).putAt _ _ _ (fun hlt => absurd hlt (by have := HRW.out; omega))
    · obtain rfl : j = n := by omega
      have hXM : X = must (decide (cells l ≤ 64)) 8 sVar := by rw [← HACC.out, HN.out, List.drop_length]; rfl
      have hz : w64 (cells (l.take j)) = cells l := by rw [HN.out, List.take_length, w64_cells (by have := HN.out; omega)]
      rw [hz]
      have HXM := Lib.hid hXM
      obtain ⟨z, hze⟩ : ∃ z, z = cells l := ⟨_, rfl⟩
      rw [← hze] at HXM ⊢
      clear hz hXM HACC hze
      have hDr := Blk.ext HD.out HXC.out
      have hmr := hDr.melts
      have hhr := Blk.has hDr
      have hlr := hDr.lt
      by_cases h64 : z > 64
      · have HR := Lib.hid (show X = some ⟨8, sVar⟩ by rw [HXM.out, decide_eq_false (by omega), must_false])
        go_wp2_with fail
        refine ret_cell (t := 38) (g := rb) (cs := fltC X) Tryd.results54 rfl rfl aggFaultR (by rw [HR.out]; exact sizeFaultR) (by rw [HR.out]; exact Blk.put_ hDr 0 _) ⟨rfl, ?_⟩
        exact (HX0.out.trans HXC.out).putAt _ _ _ (fun hlt => absurd hlt (by have := HRW.out; omega))
      · have HR := Lib.hid (show X = none by rw [HXM.out, decide_eq_true (by omega), must_true])
        clear hDr hmr hhr hlr
        go_wp2_with fail
        refine (fine_any _).mono ?_
        rintro e w2 ⟨rfl, hx2⟩
        have HXC := Lib.hid (HXC.out.trans hx2)
        have hDr := Blk.ext HD.out HXC.out
        have hmr := hDr.melts
        have hhr := Blk.has hDr
        have hlr := hDr.lt
        clear hx2
        go_wp2_with fail
        refine ret_cell (t := 38) (g := rb) (cs := fltC X) Tryd.results54 rfl rfl aggFaultR (by rw [HR.out]; exact sizeFaultR) (by rw [HR.out]; exact Blk.put_ hDr 0 _) ⟨rfl, ?_⟩
        exact (HX0.out.trans HXC.out).putAt _ _ _ (fun hlt => absurd hlt (by have := HRW.out; omega))
end Go.Proofs.YtfamkemdgbnegaaDoor

/- Sorts: the document's answer: the parameters. -/
namespace Go.Proofs.YtfamkemdgbnegaaDoor
open Go.RowKit So
set_option maxRecDepth 100000 in
set_option maxHeartbeats 1500000 in
theorem rpars_any (c : Pc) (p : Pr) (N : Nat) (w : World) (hN : N ≤ w.heap.size) (h : PAt w N c p) (hcap : c.params.n ≤ c.params.c) : Calls Tryd.prog 56 #[.agg c.cells] w fun e w' => e = .returned (.agg (fltC (ored (must (decide (p.params.length ≤ 4)) 8 sPlay) (ored (chkPars (knV p.vars) [] p.params) (ored (must (decide (menu p.params ≤ 512)) 8 sPlay) (ored (must (isName p.silent) 6 p.silent) (must (knV p.vars p.silent == 0) 7 p.silent))))))) ∧ Ext w w' := by
  obtain ⟨cn, cse, cst, ⟨vA, vn, vc⟩, cs, ct, ⟨A, n, cc⟩, cpl, csi, cq, cpy⟩ := c
  obtain rfl : csi = p.silent := h.silent
  obtain ⟨b1, hb1⟩ : ∃ b, b = isName p.silent := ⟨_, rfl⟩
  obtain ⟨b2, hb2⟩ : ∃ b, b = p.vars.any (fun v => decide (v.name = p.silent)) := ⟨_, rfl⟩
  obtain ⟨mn, hmn⟩ : ∃ m, m = menu p.params := ⟨_, rfl⟩
  obtain ⟨M, hM⟩ : ∃ M, M = ored (must (decide (mn ≤ 512)) 8 sPlay) (ored (must b1 6 p.silent) (must (!b2) 7 p.silent)) := ⟨_, rfl⟩
  obtain ⟨X, hX⟩ : ∃ X, X = ored (must (decide (p.params.length ≤ 4)) 8 sPlay) (ored (chkPars (knV p.vars) [] p.params) M) := ⟨_, rfl⟩
  have hXE : X = (ored (must (decide (p.params.length ≤ 4)) 8 sPlay) (ored (chkPars (knV p.vars) [] p.params) (ored (must (decide (menu p.params ≤ 512)) 8 sPlay) (ored (must (isName p.silent) 6 p.silent) (must (knV p.vars p.silent == 0) 7 p.silent))))) := by rw [hX, hM, hmn, hb1, hb2, knV_zero]
  rw [← hXE]
  clear hXE
  have HM := Lib.hid hM
  have HB1 := Lib.hid hb1
  have HB2 := Lib.hid hb2
  have HMN := Lib.hid hmn
  have HX := Lib.hid hX
  clear hX hM hb1 hb2 hmn
  have hcap : n ≤ cc := hcap
  have hx0 := ((Kept.refl (fun _ => False) w).alloc (.cells (Pc.cells (⟨cn, cse, cst, ⟨vA, vn, vc⟩, cs, ct, ⟨A, n, cc⟩, cpl, p.silent, cq, cpy⟩ : Pc)) 26)).alloc (.cells #[.int .i64 0, .string ⟨#[]⟩] 38)
  have hB := (Blk.new w 26 (Pc.cells (⟨cn, cse, cst, ⟨vA, vn, vc⟩, cs, ct, ⟨A, n, cc⟩, cpl, p.silent, cq, cpy⟩ : Pc))).alloc (.cells #[.int .i64 0, .string ⟨#[]⟩] 38)
  have hD := Blk.new' (w.alloc (.cells (Pc.cells (⟨cn, cse, cst, ⟨vA, vn, vc⟩, cs, ct, ⟨A, n, cc⟩, cpl, p.silent, cq, cpy⟩ : Pc)) 26)) 38 #[.int .i64 0, .string ⟨#[]⟩] (w.heap.size + 1) (by simp)
  have HPA := Lib.hid (h.ext hx0 hN)
  have HNW := Lib.hid (Nat.le_trans hN hx0.size)
  have HSO := Lib.hid h.silentOk
  obtain ⟨hn, hf, hok, b, off, hA, hE⟩ := h.params.ext hx0
  have hm := hf.max (by omega)
  have HN := Lib.hid (show n = p.params.length from hn)
  have HA := Lib.hid hA
  have HE := Lib.hid hE
  have HOK := Lib.hid hok
  clear hn hA hE hok hf h
  go_enter Tryd.func56, Tryd.ntmps56
  go_upto_region 1 with (fail)
  generalize hW : ((w.alloc (.cells (Pc.cells (⟨cn, cse, cst, ⟨vA, vn, vc⟩, cs, ct, ⟨A, n, cc⟩, cpl, p.silent, cq, cpy⟩ : Pc)) 26)).alloc (.cells #[.int .i64 0, .string ⟨#[]⟩] 38)) = W at hx0 hB hD HE HPA HNW ⊢
  clear hW
  obtain ⟨rb, hrb⟩ : ∃ rb, rb = w.heap.size + 1 := ⟨_, rfl⟩
  rw [← hrb] at hD ⊢
  have HRW := Lib.hid (show w.heap.size ≤ rb by omega)
  have HD := Lib.hid hD
  have HX0 := Lib.hid hx0
  have HB := Lib.hid hB
  clear hD hx0 hrb hB
  generalize w.heap.size = pb at HB ⊢
  have HXC := Lib.hid (Kept.refl (fun _ => False) W)
  have hDr := Blk.ext HD.out HXC.out
  have hmr := hDr.melts
  have hhr := Blk.has hDr
  have hlr := hDr.lt
  have hcP := Blk.cell (Blk.ext HB.out HXC.out)
  have hhP := Blk.has (Blk.ext HB.out HXC.out)
  have hgP := Blk.gets (Blk.ext HB.out HXC.out)
  have hlP := (Blk.ext HB.out HXC.out).lt
  by_cases h4 : (n : Int) > 4
  · have HR := Lib.hid (show X = some ⟨8, sPlay⟩ by rw [HX.out, decide_eq_false (show ¬ p.params.length ≤ 4 by have := HN.out; omega), must_false, ored_some])
    go_wp2_with fail
    refine ret_cell (t := 38) (g := rb) (cs := fltC X) Tryd.results56 rfl rfl aggFaultR (by rw [HR.out]; exact sizeFaultR) (by rw [HR.out]; exact Blk.put_ hDr 0 _) ⟨rfl, ?_⟩
    exact (HX0.out.trans HXC.out).putAt _ _ _ (fun hlt => absurd hlt (by have := HRW.out; omega))
  · have HX1 := Lib.hid (show X = ored (chkPars (knV p.vars) [] p.params) M by rw [HX.out, decide_eq_true (show p.params.length ≤ 4 by have := HN.out; omega), must_true, ored_none])
    clear HX
    go_wp2_with fail
    clear hDr hmr hhr hlr hcP hhP hgP hlP
    clear HXC
    go_loopw [3] (fun t3 wr => ∃ (j : Nat), j ≤ n ∧ t3 = .int .i64 j ∧ ored (chkPars (knV p.vars) (p.params.take j) (p.params.drop j)) M = X ∧ Ext W wr) (fun t3 _ => n - (intOf t3).toNat)
    case atStart => exact ⟨0, Nat.zero_le _, rfl, HX1.out.symm, Kept.refl _ _⟩
    case round =>
      obtain ⟨j, hj, rfl, hacc, hx⟩ := hrel
      have HXC := Lib.hid hx
      have HACC := Lib.hid hacc
      clear hx hacc
      have hDr := Blk.ext HD.out HXC.out
      have hmr := hDr.melts
      have hhr := Blk.has hDr
      have hlr := hDr.lt
      have hcP := Blk.cell (Blk.ext HB.out HXC.out)
      have hhP := Blk.has (Blk.ext HB.out HXC.out)
      have hgP := Blk.gets (Blk.ext HB.out HXC.out)
      have hlP := (Blk.ext HB.out HXC.out).lt
      by_cases hlt : j < n
      · have hjl : j < p.params.length := by have := HN.out; omega
        have hltI : (j : Int) < n := by omega
        have hjc : (j : Int) ≤ cc := by omega
        have HJV := Lib.hid (HPA.out.params.take j hj)
        obtain rfl := HA.out (by omega)
        have hrow := (HE.out (by omega)).2.ext HXC.out
        obtain ⟨hh', hg'⟩ := vr_at hrow j hjl
        have hbw := hrow.lt
        obtain ⟨x, hxe⟩ : ∃ x, x = p.params[j] := ⟨_, rfl⟩
        have HVO := Lib.hid (HOK.out x (by rw [hxe]; exact List.getElem_mem hjl))
        have hdrop : p.params.drop j = x :: p.params.drop (j + 1) := by rw [hxe]; exact List.drop_eq_getElem_cons hjl
        have htake : p.params.take (j + 1) = p.params.take j ++ [x] := by rw [hxe, List.take_add_one, List.getElem?_eq_getElem hjl]; rfl
        rw [← hxe] at hg'
        have hacc := HACC.out
        rw [hdrop] at hacc
        have HTK := Lib.hid htake
        obtain ⟨Y, hY⟩ : ∃ Y, Y = ored (chkPars (knV p.vars) (p.params.take j ++ [x]) (p.params.drop (j + 1))) M := ⟨_, rfl⟩
        have HYE := Lib.hid hY
        obtain ⟨a1, ha1⟩ : ∃ a, a = p.vars.any (fun v => decide (v.name = x.name)) := ⟨_, rfl⟩
        obtain ⟨a2, ha2⟩ : ∃ a, a = (p.params.take j).any (fun v => decide (v.name = x.name)) := ⟨_, rfl⟩
        have HX2 : Hid (X = ored (must (isName x.name) 6 x.name) (ored (must (!a1 && !a2) 7 x.name) (ored (must (x.size == 0) 3 x.name) (ored (must (span x) 2 x.name) Y)))) := Lib.hid (by
          rw [← hacc, hY, chkPars, ored_assoc, ored_assoc, ored_assoc, ored_assoc, knV_zero, ha1, ha2])
        have HA1 := Lib.hid ha1
        have HA2 := Lib.hid ha2
        clear hrow hxe hacc hdrop htake hY HACC ha1 ha2
        have y0 := (Kept.refl (fun _ => False) wr).alloc (.cells (vcells x) 29)
        have hV0 := Blk.new wr 29 (vcells x)
        go_upto_region 7 with (fail)
        clear hh' hg' hbw
        clear hDr hmr hhr hlr hcP hhP hgP hlP
        have HZ := Lib.hid (HXC.out.trans y0)
        generalize hW1 : (wr.alloc (.cells (vcells x) 29)) = W1 at y0 hV0 HZ ⊢
        generalize wr.heap.size = eb at hV0 ⊢
        have HVB := Lib.hid hV0
        clear hW1 y0 hV0 HXC
        have hcV := Blk.cell HVB.out
        have hlV := HVB.out.lt
        go_wp2_with fail
        refine (risname_any x.name HVO.out.name _).mono ?_
        rintro e w1 ⟨rfl, hx1⟩
        have HXC := Lib.hid (HZ.out.trans hx1)
        have HV1 := Lib.hid (Blk.ext HVB.out hx1)
        clear hcV hlV hx1 HVB HZ
        have hcV := Blk.cell HV1.out
        have hlV := HV1.out.lt
        have hDr := Blk.ext HD.out HXC.out
        have hmr := hDr.melts
        have hhr := Blk.has hDr
        have hlr := hDr.lt
        have hcP := Blk.cell (Blk.ext HB.out HXC.out)
        have hhP := Blk.has (Blk.ext HB.out HXC.out)
        have hgP := Blk.gets (Blk.ext HB.out HXC.out)
        have hlP := (Blk.ext HB.out HXC.out).lt
        cases hn : isName x.name
        · have HR := Lib.hid (show X = some ⟨6, x.name⟩ by rw [HX2.out, hn, must_false, ored_some])
          go_wp2_with fail
          refine ret_cell (t := 38) (g := rb) (cs := fltC X) Tryd.results56 rfl rfl aggFaultR (by rw [HR.out]; exact sizeFaultR) (by rw [HR.out]; exact Blk.put_ hDr 0 _) ⟨rfl, ?_⟩
          exact (HX0.out.trans HXC.out).putAt _ _ _ (fun hlt => absurd hlt (by have := HRW.out; omega))
        · have HX3 := Lib.hid (show X = ored (must (!a1 && !a2) 7 x.name) (ored (must (x.size == 0) 3 x.name) (ored (must (span x) 2 x.name) Y)) by rw [HX2.out, hn, must_true, ored_none])
          clear HX2 hn
          clear hDr hmr hhr hlr hcP hhP hgP hlP
          clear hcV hlV
          go_upto_region 9 with (fail)
          cases a1
          ·
            refine wp_region_3 (fun w2 => Ext w1 w2) [(0, 2), (1, 1), (2, 2), (3, 1), (4, 0), (5, 2), (6, 2), (7, 1), (8, 2), (9, 2), (10, 2), (11, 1), (12, 0), (13, 2)] (by kernel_rfl) (by kernel_rfl) (by kernel_rfl) (by kernel_rfl) ?_; intro l' hl'; simp only [List.map_cons, List.map_nil, List.getD_cons_zero, List.getD_cons_succ] at hl'; subst hl'
            have HZ0 := Lib.hid (show Ext w1 w1.drew from (Kept.refl _ w1).drew)
            (repeat (first | ((apply w3_pure); (· go_simp); (· (intro w1; go_simp; try with_reducible rfl)); (intro K hK; go_simp; refine hK _ _ ?_; clear hK K)) | ((apply w3_skip); (· go_simp); (intro K hK; go_simp; refine hK _ _ ?_; clear hK K)) | ((apply w3_take); (· exact HZ0.out); (· go_simp); (· (intro w1 hS; have d4 := Blk.ext HV1.out hS; have d5 := Blk.cell d4; have d6 := d4.lt; have e4 := Blk.ext HB.out (HXC.out.trans hS); have e5 := Blk.cell e4; have e6 := e4.lt;  go_simp; try with_reducible rfl)); (intro K hK; go_simp; refine hK _ _ ?_; clear hK K)) | ((apply w3_pass); (· exact HZ0.out); (· go_simp); (intro K hK; go_simp; refine hK _ _ ?_; clear hK K))))
            (refine w3_act (fun K hK => ?_); go_simp)
            refine (find_any p.vars x.name vA vn vc N _ (HPA.out.ext (HXC.out.trans HZ0.out) HNW.out).vars).mono ?_
            rintro e w2 ⟨rfl, rfl⟩
            rw [← HA1.out]
            refine hK.out _ _ (fun _ => HZ0.out) ?_
            clear hK K
            (repeat (first | ((apply w3_pure); (· go_simp); (· (intro w1; go_simp; try with_reducible rfl)); (intro K hK; go_simp; refine hK _ _ ?_; clear hK K)) | ((apply w3_skip); (· go_simp); (intro K hK; go_simp; refine hK _ _ ?_; clear hK K)) | ((apply w3_take); (· exact HZ0.out); (· go_simp); (· (intro w1 hS; have d4 := Blk.ext HV1.out hS; have d5 := Blk.cell d4; have d6 := d4.lt; have e4 := Blk.ext HB.out (HXC.out.trans hS); have e5 := Blk.cell e4; have e6 := e4.lt;  go_simp; try with_reducible rfl)); (intro K hK; go_simp; refine hK _ _ ?_; clear hK K)) | ((apply w3_pass); (· exact HZ0.out); (· go_simp); (intro K hK; go_simp; refine hK _ _ ?_; clear hK K))))
            (refine w3_act (fun K hK => ?_); go_simp)
            refine (find_any (p.params.take j) x.name _ j _ N _ (HJV.out.ext (HXC.out.trans HZ0.out))).mono ?_
            rintro e w2 ⟨rfl, rfl⟩
            rw [← HA2.out]
            refine hK.out _ _ (fun _ => HZ0.out) ?_
            clear hK K
            (repeat (first | ((apply w3_pure); (· go_simp); (· (intro w1; go_simp; try with_reducible rfl)); (intro K hK; go_simp; refine hK _ _ ?_; clear hK K)) | ((apply w3_skip); (· go_simp); (intro K hK; go_simp; refine hK _ _ ?_; clear hK K)) | (refine w3_end (by kernel_rfl) (fun K hK => ?_); go_simp; refine hK.out _ _ ?_; clear hK K))); refine w3_nil ?_
            have HXC := Lib.hid (HXC.out.trans HZ0.out)
            have HV2 := Lib.hid (Blk.ext HV1.out HZ0.out)
            generalize w1.drew = W2 at HXC HV2 ⊢
            clear HZ0 HV1
            have hcV := Blk.cell HV2.out
            have hlV := HV2.out.lt
            have hDr := Blk.ext HD.out HXC.out
            have hmr := hDr.melts
            have hhr := Blk.has hDr
            have hlr := hDr.lt
            have hcP := Blk.cell (Blk.ext HB.out HXC.out)
            have hhP := Blk.has (Blk.ext HB.out HXC.out)
            have hgP := Blk.gets (Blk.ext HB.out HXC.out)
            have hlP := (Blk.ext HB.out HXC.out).lt
            cases a2
            · have HX4 := Lib.hid (show X = ored (must (x.size == 0) 3 x.name) (ored (must (word x.low && word x.high && decide (x.low ≤ x.high)) 2 x.name) Y) by rw [HX3.out]; rfl)
              clear HX3
              by_cases hz : x.size = 0
              · have hzb : (x.size == 0) = true := by simp [hz]
                have HX5 := Lib.hid (show X = ored (must (word x.low && word x.high && decide (x.low ≤ x.high)) 2 x.name) Y by rw [HX4.out, hzb, must_true, ored_none])
                clear hzb
                go_wp2_with fail
                refine (word_any x.low _).mono ?_
                rintro e w3 ⟨rfl, rfl⟩
                cases hw1 : word x.low
                · have HR := Lib.hid (show X = some ⟨2, x.name⟩ by rw [HX5.out, hw1]; rfl)
                  go_wp2_with fail
                  refine ret_cell (t := 38) (g := rb) (cs := fltC X) Tryd.results56 rfl rfl aggFaultR (by rw [HR.out]; exact sizeFaultR) (by rw [HR.out]; exact Blk.put_ hDr 0 _) ⟨rfl, ?_⟩
                  exact (HX0.out.trans HXC.out).putAt _ _ _ (fun hlt => absurd hlt (by have := HRW.out; omega))
                · go_wp2_with fail
                  refine (word_any x.high _).mono ?_
                  rintro e w3 ⟨rfl, rfl⟩
                  cases hw2 : word x.high
                  · have HR := Lib.hid (show X = some ⟨2, x.name⟩ by rw [HX5.out, hw1, hw2]; rfl)
                    go_wp2_with fail
                    refine ret_cell (t := 38) (g := rb) (cs := fltC X) Tryd.results56 rfl rfl aggFaultR (by rw [HR.out]; exact sizeFaultR) (by rw [HR.out]; exact Blk.put_ hDr 0 _) ⟨rfl, ?_⟩
                    exact (HX0.out.trans HXC.out).putAt _ _ _ (fun hlt => absurd hlt (by have := HRW.out; omega))
                  · have HX6 := Lib.hid (show X = ored (must (decide (x.low ≤ x.high)) 2 x.name) Y by rw [HX5.out, hw1, hw2, Bool.true_and, Bool.true_and])
                    clear HX4 HX5 hw1 hw2
                    by_cases hgt : x.low > x.high
                    · have HR := Lib.hid (show X = some ⟨2, x.name⟩ by rw [HX6.out, decide_eq_false (by omega), must_false, ored_some])
                      go_wp2_with fail
                      refine ret_cell (t := 38) (g := rb) (cs := fltC X) Tryd.results56 rfl rfl aggFaultR (by rw [HR.out]; exact sizeFaultR) (by rw [HR.out]; exact Blk.put_ hDr 0 _) ⟨rfl, ?_⟩
                      exact (HX0.out.trans HXC.out).putAt _ _ _ (fun hlt => absurd hlt (by have := HRW.out; omega))
                    · have HX7 := Lib.hid (show X = Y by rw [HX6.out, decide_eq_true (by omega), must_true, ored_none])
                      go_wp2_with fail
                      exact ⟨⟨j + 1, hlt, by go_num, by rw [HTK.out, ← HYE.out, HX7.out], HXC.out⟩, by simp only [intOf]; omega⟩
              · have hzb : (x.size == 0) = false := by simp [hz]
                have HR := Lib.hid (show X = some ⟨3, x.name⟩ by rw [HX4.out, hzb, must_false, ored_some])
                go_wp2_with fail
                refine ret_cell (t := 38) (g := rb) (cs := fltC X) Tryd.results56 rfl rfl aggFaultR (by rw [HR.out]; exact sizeFaultR) (by rw [HR.out]; exact Blk.put_ hDr 0 _) ⟨rfl, ?_⟩
                exact (HX0.out.trans HXC.out).putAt _ _ _ (fun hlt => absurd hlt (by have := HRW.out; omega))
            · have HR := Lib.hid (show X = some ⟨7, x.name⟩ by rw [HX3.out]; rfl)
              go_wp2_with fail
              refine ret_cell (t := 38) (g := rb) (cs := fltC X) Tryd.results56 rfl rfl aggFaultR (by rw [HR.out]; exact sizeFaultR) (by rw [HR.out]; exact Blk.put_ hDr 0 _) ⟨rfl, ?_⟩
              exact (HX0.out.trans HXC.out).putAt _ _ _ (fun hlt => absurd hlt (by have := HRW.out; omega))
          ·
            refine wp_region_3 (fun w2 => Ext w1 w2) [(0, 2), (1, 1), (2, 2), (3, 1), (4, 0), (5, 2), (6, 2), (7, 1), (8, 2), (9, 2), (10, 2), (11, 1), (12, 0), (13, 2)] (by kernel_rfl) (by kernel_rfl) (by kernel_rfl) (by kernel_rfl) ?_; intro l' hl'; simp only [List.map_cons, List.map_nil, List.getD_cons_zero, List.getD_cons_succ] at hl'; subst hl'
            have HZ0 := Lib.hid (show Ext w1 w1.drew from (Kept.refl _ w1).drew)
            (repeat (first | ((apply w3_pure); (· go_simp); (· (intro w1; go_simp; try with_reducible rfl)); (intro K hK; go_simp; refine hK _ _ ?_; clear hK K)) | ((apply w3_skip); (· go_simp); (intro K hK; go_simp; refine hK _ _ ?_; clear hK K)) | ((apply w3_take); (· exact HZ0.out); (· go_simp); (· (intro w1 hS; have d4 := Blk.ext HV1.out hS; have d5 := Blk.cell d4; have d6 := d4.lt; have e4 := Blk.ext HB.out (HXC.out.trans hS); have e5 := Blk.cell e4; have e6 := e4.lt;  go_simp; try with_reducible rfl)); (intro K hK; go_simp; refine hK _ _ ?_; clear hK K)) | ((apply w3_pass); (· exact HZ0.out); (· go_simp); (intro K hK; go_simp; refine hK _ _ ?_; clear hK K))))
            (refine w3_act (fun K hK => ?_); go_simp)
            refine (find_any p.vars x.name vA vn vc N _ (HPA.out.ext (HXC.out.trans HZ0.out) HNW.out).vars).mono ?_
            rintro e w2 ⟨rfl, rfl⟩
            rw [← HA1.out]
            refine hK.out _ _ (fun _ => HZ0.out) ?_
            clear hK K
            (repeat (first | ((apply w3_pure); (· go_simp); (· (intro w1; go_simp; try with_reducible rfl)); (intro K hK; go_simp; refine hK _ _ ?_; clear hK K)) | ((apply w3_skip); (· go_simp); (intro K hK; go_simp; refine hK _ _ ?_; clear hK K)) | ((apply w3_take); (· exact HZ0.out); (· go_simp); (· (intro w1 hS; have d4 := Blk.ext HV1.out hS; have d5 := Blk.cell d4; have d6 := d4.lt; have e4 := Blk.ext HB.out (HXC.out.trans hS); have e5 := Blk.cell e4; have e6 := e4.lt;  go_simp; try with_reducible rfl)); (intro K hK; go_simp; refine hK _ _ ?_; clear hK K)) | ((apply w3_pass); (· exact HZ0.out); (· go_simp); (intro K hK; go_simp; refine hK _ _ ?_; clear hK K))))
            (refine w3_act (fun K hK => ?_); go_simp)
            refine hK.out _ _ (fun h => h) ?_
            clear hK K
            (repeat (first | ((apply w3_pure); (· go_simp); (· (intro w1; go_simp; try with_reducible rfl)); (intro K hK; go_simp; refine hK _ _ ?_; clear hK K)) | ((apply w3_skip); (· go_simp); (intro K hK; go_simp; refine hK _ _ ?_; clear hK K)) | (refine w3_end (by kernel_rfl) (fun K hK => ?_); go_simp; refine hK.out _ _ ?_; clear hK K))); refine w3_nil ?_
            have HXC := Lib.hid (HXC.out.trans HZ0.out)
            have HV2 := Lib.hid (Blk.ext HV1.out HZ0.out)
            generalize w1.drew = W2 at HXC HV2 ⊢
            clear HZ0 HV1
            have hcV := Blk.cell HV2.out
            have hlV := HV2.out.lt
            have hDr := Blk.ext HD.out HXC.out
            have hmr := hDr.melts
            have hhr := Blk.has hDr
            have hlr := hDr.lt
            have hcP := Blk.cell (Blk.ext HB.out HXC.out)
            have hhP := Blk.has (Blk.ext HB.out HXC.out)
            have hgP := Blk.gets (Blk.ext HB.out HXC.out)
            have hlP := (Blk.ext HB.out HXC.out).lt
            have HR := Lib.hid (show X = some ⟨7, x.name⟩ by rw [HX3.out]; rfl)
            go_wp2_with fail
            refine ret_cell (t := 38) (g := rb) (cs := fltC X) Tryd.results56 rfl rfl aggFaultR (by rw [HR.out]; exact sizeFaultR) (by rw [HR.out]; exact Blk.put_ hDr 0 _) ⟨rfl, ?_⟩
            exact (HX0.out.trans HXC.out).putAt _ _ _ (fun hlt => absurd hlt (by have := HRW.out; omega))
      · obtain rfl : j = n := by omega
        have HXM := Lib.hid (show X = M by rw [← HACC.out, HN.out, List.drop_length]; rfl)
        clear HACC
        go_wp2_with fail
        refine (rmenu_any (⟨cn, cse, cst, ⟨vA, vn, vc⟩, cs, ct, ⟨A, j, cc⟩, cpl, p.silent, cq, cpy⟩ : Pc) p N _ (Nat.le_trans HNW.out HXC.out.size) (HPA.out.ext HXC.out HNW.out)).mono ?_
        rintro e w2 ⟨rfl, hx2⟩
        clear hDr hmr hhr hlr hcP hhP hgP hlP
        have HXC := Lib.hid (HXC.out.trans hx2)
        clear hx2
        rw [← HMN.out]
        have hDr := Blk.ext HD.out HXC.out
        have hmr := hDr.melts
        have hhr := Blk.has hDr
        have hlr := hDr.lt
        have hcP := Blk.cell (Blk.ext HB.out HXC.out)
        have hhP := Blk.has (Blk.ext HB.out HXC.out)
        have hgP := Blk.gets (Blk.ext HB.out HXC.out)
        have hlP := (Blk.ext HB.out HXC.out).lt
        by_cases h5 : mn > 512
        · have HR := Lib.hid (show X = some ⟨8, sPlay⟩ by rw [HXM.out, HM.out, decide_eq_false (by omega), must_false, ored_some])
          go_wp2_with fail
          refine ret_cell (t := 38) (g := rb) (cs := fltC X) Tryd.results56 rfl rfl aggFaultR (by rw [HR.out]; exact sizeFaultR) (by rw [HR.out]; exact Blk.put_ hDr 0 _) ⟨rfl, ?_⟩
          exact (HX0.out.trans HXC.out).putAt _ _ _ (fun hlt => absurd hlt (by have := HRW.out; omega))
        · have HX5 := Lib.hid (show X = ored (must b1 6 p.silent) (must (!b2) 7 p.silent) by rw [HXM.out, HM.out, decide_eq_true (by omega), must_true, ored_none])
          clear HXM HM
          go_wp2_with fail
          refine (risname_any p.silent HSO.out _).mono ?_
          rintro e w3 ⟨rfl, hx3⟩
          clear hDr hmr hhr hlr hcP hhP hgP hlP
          have HXC := Lib.hid (HXC.out.trans hx3)
          clear hx3
          rw [← HB1.out]
          have hDr := Blk.ext HD.out HXC.out
          have hmr := hDr.melts
          have hhr := Blk.has hDr
          have hlr := hDr.lt
          have hcP := Blk.cell (Blk.ext HB.out HXC.out)
          have hhP := Blk.has (Blk.ext HB.out HXC.out)
          have hgP := Blk.gets (Blk.ext HB.out HXC.out)
          have hlP := (Blk.ext HB.out HXC.out).lt
          cases b1
          · have HR := Lib.hid (show X = some ⟨6, p.silent⟩ by rw [HX5.out, must_false, ored_some])
            go_wp2_with fail
            refine ret_cell (t := 38) (g := rb) (cs := fltC X) Tryd.results56 rfl rfl aggFaultR (by rw [HR.out]; exact sizeFaultR) (by rw [HR.out]; exact Blk.put_ hDr 0 _) ⟨rfl, ?_⟩
            exact (HX0.out.trans HXC.out).putAt _ _ _ (fun hlt => absurd hlt (by have := HRW.out; omega))
          · have HX6 := Lib.hid (show X = must (!b2) 7 p.silent by rw [HX5.out, must_true, ored_none])
            go_wp2_with fail
            refine (find_any p.vars p.silent vA vn vc N _ (HPA.out.ext HXC.out HNW.out).vars).mono ?_
            rintro e w4 ⟨rfl, rfl⟩
            rw [← HB2.out]
            cases b2
            · have HR := Lib.hid (show X = none by rw [HX6.out, Bool.not_false, must_true])
              go_wp2_with fail
              refine (fine_any _).mono ?_
              rintro e w5 ⟨rfl, hx5⟩
              clear hDr hmr hhr hlr hcP hhP hgP hlP
              have HXC := Lib.hid (HXC.out.trans hx5)
              have hDr := Blk.ext HD.out HXC.out
              have hmr := hDr.melts
              have hhr := Blk.has hDr
              have hlr := hDr.lt
              have hcP := Blk.cell (Blk.ext HB.out HXC.out)
              have hhP := Blk.has (Blk.ext HB.out HXC.out)
              have hgP := Blk.gets (Blk.ext HB.out HXC.out)
              have hlP := (Blk.ext HB.out HXC.out).lt
              clear hx5
              go_wp2_with fail
              refine ret_cell (t := 38) (g := rb) (cs := fltC X) Tryd.results56 rfl rfl aggFaultR (by rw [HR.out]; exact sizeFaultR) (by rw [HR.out]; exact Blk.put_ hDr 0 _) ⟨rfl, ?_⟩
              exact (HX0.out.trans HXC.out).putAt _ _ _ (fun hlt => absurd hlt (by have := HRW.out; omega))
            · have HR := Lib.hid (show X = some ⟨7, p.silent⟩ by rw [HX6.out, Bool.not_true, must_false])
              go_wp2_with fail
              refine ret_cell (t := 38) (g := rb) (cs := fltC X) Tryd.results56 rfl rfl aggFaultR (by rw [HR.out]; exact sizeFaultR) (by rw [HR.out]; exact Blk.put_ hDr 0 _) ⟨rfl, ?_⟩
              exact (HX0.out.trans HXC.out).putAt _ _ _ (fun hlt => absurd hlt (by have := HRW.out; omega))
end Go.Proofs.YtfamkemdgbnegaaDoor

/- Sorts: the document's answer: the names of a statement. -/
namespace Go.Proofs.YtfamkemdgbnegaaDoor
open Go.RowKit So
set_option maxRecDepth 100000 in
set_option maxHeartbeats 1600000 in
theorem rnamed_any (c : Pc) (p : Pr) (A : Option Addr) (n k : Nat) (l : List Str) (kind : Int) (name : Str) (eA : Option Addr) (en ec : Nat) (low high : Int) (lA : Option Addr) (ln lc : Nat) (xA : Option Addr) (xn xc : Nat) (deep : Nat) (hs : name.size ≤ maxLen) (N : Nat) (w : World) (hN : N ≤ w.heap.size) (h : PAt w N c p) (hl : StrSl w N A n l) :
    Calls Tryd.prog 92 #[.agg (knCells c A n k), .agg (scells kind name eA en ec low high lA ln lc xA xn xc), .int .i64 (deep : Int)] w fun e w' => e = .returned (.agg (fltC (named (updAll (knV p.vars) l) kind name low high deep))) ∧ Ext w w' := by
  obtain ⟨X, hX⟩ : ∃ X, X = named (updAll (knV p.vars) l) kind name low high deep := ⟨_, rfl⟩
  rw [← hX]
  obtain ⟨v, hv⟩ : ∃ v, v = updAll (knV p.vars) l name := ⟨_, rfl⟩
  have HV := Lib.hid hv
  have HX : Hid (X = if kind = 0 ∨ kind = 1 ∨ kind = 5 then ored (must (v != 0) 6 name) (ored (must (v == (if kind = 1 then 2 else 1)) 11 name) (if kind = 5 then must (btw low 2 1000) 2 name else none)) else if kind = 3 then ored (must (isName name) 6 name) (ored (must (v == 0) 7 name) (ored (must (word low && word high && decide (high - low ≤ 63)) 2 name) (must (decide (deep < 8)) 25 name))) else none) := Lib.hid (by rw [hX, hv]; rfl)
  clear hX hv
  have HNM := Lib.hid hs
  clear hs
  have hx0 := (((Kept.refl (fun _ => False) w).alloc (.cells (knCells c A n k) 96)).alloc (.cells (scells kind name eA en ec low high lA ln lc xA xn xc) 34)).alloc (.cells #[.int .i64 0, .string ⟨#[]⟩] 38)
  have hK := ((Blk.new w 96 (knCells c A n k)).alloc (.cells (scells kind name eA en ec low high lA ln lc xA xn xc) 34)).alloc (.cells #[.int .i64 0, .string ⟨#[]⟩] 38)
  have hS := (Blk.new' (w.alloc (.cells (knCells c A n k) 96)) 34 (scells kind name eA en ec low high lA ln lc xA xn xc) (w.heap.size + 1) (by simp)).alloc (.cells #[.int .i64 0, .string ⟨#[]⟩] 38)
  have hD := Blk.new' ((w.alloc (.cells (knCells c A n k) 96)).alloc (.cells (scells kind name eA en ec low high lA ln lc xA xn xc) 34)) 38 #[.int .i64 0, .string ⟨#[]⟩] (w.heap.size + 1 + 1) (by simp)
  go_enter Tryd.func92, Tryd.ntmps92
  go_upto_region 1 with (fail)
  have HPA := Lib.hid (h.ext hx0 hN)
  have HSL := Lib.hid (hl.ext hx0)
  have HNW := Lib.hid (Nat.le_trans hN hx0.size)
  generalize hW : (((w.alloc (.cells (knCells c A n k) 96)).alloc (.cells (scells kind name eA en ec low high lA ln lc xA xn xc) 34)).alloc (.cells #[.int .i64 0, .string ⟨#[]⟩] 38)) = W at hx0 hK hS hD HPA HSL HNW ⊢
  clear hW h hl
  obtain ⟨rb, hrb⟩ : ∃ rb, rb = w.heap.size + 1 + 1 := ⟨_, rfl⟩
  rw [← hrb] at hD ⊢
  obtain ⟨sb, hsb⟩ : ∃ sb, sb = w.heap.size + 1 := ⟨_, rfl⟩
  rw [← hsb] at hS ⊢
  have HRW := Lib.hid (show w.heap.size ≤ rb by omega)
  have HD := Lib.hid hD
  have HX0 := Lib.hid hx0
  have HK := Lib.hid hK
  have HS := Lib.hid hS
  clear hD hx0 hrb hsb hK hS
  generalize w.heap.size = kb at HK ⊢
  have HXC := Lib.hid (Kept.refl (fun _ => False) W)
  have hDr := Blk.ext HD.out HXC.out
  have hmr := hDr.melts
  have hhr := Blk.has hDr
  have hlr := hDr.lt
  have hcS := Blk.cell (Blk.ext HS.out HXC.out)
  have hlS := (Blk.ext HS.out HXC.out).lt
  have hhK := Blk.has (Blk.ext HK.out HXC.out)
  have hgK := Blk.gets (Blk.ext HK.out HXC.out)
  have hlK := (Blk.ext HK.out HXC.out).lt
  by_cases h0 : kind = 0
  · subst h0
    have HX2 := Lib.hid (show X = ored (must (v != 0) 6 name) (must (v == 1) 11 name) by rw [HX.out]; simp)
    clear HX
    go_wp2_with fail
    refine (sort_any c p A n k l name N _ (Nat.le_trans HNW.out HXC.out.size) (HPA.out.ext HXC.out HNW.out) (HSL.out.ext HXC.out)).mono ?_
    rintro e w2 ⟨rfl, hx2⟩
    clear hDr hmr hhr hlr hcS hlS hhK hgK hlK
    rw [← HV.out]
    have HXC := Lib.hid (HXC.out.trans hx2)
    clear hx2
    have hDr := Blk.ext HD.out HXC.out
    have hmr := hDr.melts
    have hhr := Blk.has hDr
    have hlr := hDr.lt
    have hcS := Blk.cell (Blk.ext HS.out HXC.out)
    have hlS := (Blk.ext HS.out HXC.out).lt
    have hhK := Blk.has (Blk.ext HK.out HXC.out)
    have hgK := Blk.gets (Blk.ext HK.out HXC.out)
    have hlK := (Blk.ext HK.out HXC.out).lt
    by_cases hv0 : v = 0
    · have q0 : ((v : Int) == 0) = true := by simp [hv0]
      have HR := Lib.hid (show X = some ⟨6, name⟩ by rw [HX2.out, hv0]; rfl)
      clear hv0
      go_wp2_with fail
      refine ret_cell (t := 38) (g := rb) (cs := fltC X) Tryd.results92 rfl rfl aggFaultR (by rw [HR.out]; exact sizeFaultR) (by rw [HR.out]; exact Blk.put_ hDr 0 _) ⟨rfl, ?_⟩
      exact (HX0.out.trans HXC.out).putAt _ _ _ (fun hlt => absurd hlt (by have := HRW.out; omega))
    · have q0 : ((v : Int) == 0) = false := by simp; omega
      have n0 : (v != 0) = true := by simp [hv0]
      have HX3 := Lib.hid (show X = must (v == 1) 11 name by rw [HX2.out, n0, must_true, ored_none])
      clear hv0
      by_cases hv1 : v = 1
      · have q1 : ((v : Int) == 1) = true := by simp [hv1]
        have HR := Lib.hid (show X = none by rw [HX3.out, hv1]; rfl)
        clear hv1
        go_wp2_with fail
        refine (fine_any _).mono ?_
        rintro e w9 ⟨rfl, hx9⟩
        clear hDr hmr hhr hlr hcS hlS hhK hgK hlK
        have HXC := Lib.hid (HXC.out.trans hx9)
        have hDr := Blk.ext HD.out HXC.out
        have hmr := hDr.melts
        have hhr := Blk.has hDr
        have hlr := hDr.lt
        have hcS := Blk.cell (Blk.ext HS.out HXC.out)
        have hlS := (Blk.ext HS.out HXC.out).lt
        have hhK := Blk.has (Blk.ext HK.out HXC.out)
        have hgK := Blk.gets (Blk.ext HK.out HXC.out)
        have hlK := (Blk.ext HK.out HXC.out).lt
        clear hx9
        go_wp2_with fail
        refine ret_cell (t := 38) (g := rb) (cs := fltC X) Tryd.results92 rfl rfl aggFaultR (by rw [HR.out]; exact sizeFaultR) (by rw [HR.out]; exact Blk.put_ hDr 0 _) ⟨rfl, ?_⟩
        exact (HX0.out.trans HXC.out).putAt _ _ _ (fun hlt => absurd hlt (by have := HRW.out; omega))
      · have q1 : ((v : Int) == 1) = false := by simp; omega
        have n1 : (v == 1) = false := by simp [hv1]
        have HR := Lib.hid (show X = some ⟨11, name⟩ by rw [HX3.out, n1, must_false])
        clear hv1
        go_wp2_with fail
        refine ret_cell (t := 38) (g := rb) (cs := fltC X) Tryd.results92 rfl rfl aggFaultR (by rw [HR.out]; exact sizeFaultR) (by rw [HR.out]; exact Blk.put_ hDr 0 _) ⟨rfl, ?_⟩
        exact (HX0.out.trans HXC.out).putAt _ _ _ (fun hlt => absurd hlt (by have := HRW.out; omega))
  · by_cases h1 : kind = 1
    · subst h1
      have HX2 := Lib.hid (show X = ored (must (v != 0) 6 name) (must (v == 2) 11 name) by rw [HX.out]; simp)
      clear HX
      go_wp2_with fail
      refine (sort_any c p A n k l name N _ (Nat.le_trans HNW.out HXC.out.size) (HPA.out.ext HXC.out HNW.out) (HSL.out.ext HXC.out)).mono ?_
      rintro e w2 ⟨rfl, hx2⟩
      clear hDr hmr hhr hlr hcS hlS hhK hgK hlK
      rw [← HV.out]
      have HXC := Lib.hid (HXC.out.trans hx2)
      clear hx2
      have hDr := Blk.ext HD.out HXC.out
      have hmr := hDr.melts
      have hhr := Blk.has hDr
      have hlr := hDr.lt
      have hcS := Blk.cell (Blk.ext HS.out HXC.out)
      have hlS := (Blk.ext HS.out HXC.out).lt
      have hhK := Blk.has (Blk.ext HK.out HXC.out)
      have hgK := Blk.gets (Blk.ext HK.out HXC.out)
      have hlK := (Blk.ext HK.out HXC.out).lt
      by_cases hv0 : v = 0
      · have q0 : ((v : Int) == 0) = true := by simp [hv0]
        have HR := Lib.hid (show X = some ⟨6, name⟩ by rw [HX2.out, hv0]; rfl)
        clear hv0
        go_wp2_with fail
        refine ret_cell (t := 38) (g := rb) (cs := fltC X) Tryd.results92 rfl rfl aggFaultR (by rw [HR.out]; exact sizeFaultR) (by rw [HR.out]; exact Blk.put_ hDr 0 _) ⟨rfl, ?_⟩
        exact (HX0.out.trans HXC.out).putAt _ _ _ (fun hlt => absurd hlt (by have := HRW.out; omega))
      · have q0 : ((v : Int) == 0) = false := by simp; omega
        have n0 : (v != 0) = true := by simp [hv0]
        have HX3 := Lib.hid (show X = must (v == 2) 11 name by rw [HX2.out, n0, must_true, ored_none])
        clear hv0
        by_cases hv1 : v = 2
        · have q1 : ((v : Int) == 2) = true := by simp [hv1]
          have q2 : ((v : Int) != 2) = false := by simp [hv1]
          have HR := Lib.hid (show X = none by rw [HX3.out, hv1]; rfl)
          clear hv1
          go_wp2_with fail
          refine (fine_any _).mono ?_
          rintro e w9 ⟨rfl, hx9⟩
          clear hDr hmr hhr hlr hcS hlS hhK hgK hlK
          have HXC := Lib.hid (HXC.out.trans hx9)
          have hDr := Blk.ext HD.out HXC.out
          have hmr := hDr.melts
          have hhr := Blk.has hDr
          have hlr := hDr.lt
          have hcS := Blk.cell (Blk.ext HS.out HXC.out)
          have hlS := (Blk.ext HS.out HXC.out).lt
          have hhK := Blk.has (Blk.ext HK.out HXC.out)
          have hgK := Blk.gets (Blk.ext HK.out HXC.out)
          have hlK := (Blk.ext HK.out HXC.out).lt
          clear hx9
          go_wp2_with fail
          refine ret_cell (t := 38) (g := rb) (cs := fltC X) Tryd.results92 rfl rfl aggFaultR (by rw [HR.out]; exact sizeFaultR) (by rw [HR.out]; exact Blk.put_ hDr 0 _) ⟨rfl, ?_⟩
          exact (HX0.out.trans HXC.out).putAt _ _ _ (fun hlt => absurd hlt (by have := HRW.out; omega))
        · have q1 : ((v : Int) == 2) = false := by simp; omega
          have q2 : ((v : Int) != 2) = true := by simp; omega
          have n1 : (v == 2) = false := by simp [hv1]
          have HR := Lib.hid (show X = some ⟨11, name⟩ by rw [HX3.out, n1, must_false])
          clear hv1
          go_wp2_with fail
          refine ret_cell (t := 38) (g := rb) (cs := fltC X) Tryd.results92 rfl rfl aggFaultR (by rw [HR.out]; exact sizeFaultR) (by rw [HR.out]; exact Blk.put_ hDr 0 _) ⟨rfl, ?_⟩
          exact (HX0.out.trans HXC.out).putAt _ _ _ (fun hlt => absurd hlt (by have := HRW.out; omega))
    · by_cases h5 : kind = 5
      · subst h5
        have HX2 := Lib.hid (show X = ored (must (v != 0) 6 name) (ored (must (v == 1) 11 name) (must (btw low 2 1000) 2 name)) by rw [HX.out]; simp)
        clear HX
        go_wp2_with fail
        refine (sort_any c p A n k l name N _ (Nat.le_trans HNW.out HXC.out.size) (HPA.out.ext HXC.out HNW.out) (HSL.out.ext HXC.out)).mono ?_
        rintro e w2 ⟨rfl, hx2⟩
        clear hDr hmr hhr hlr hcS hlS hhK hgK hlK
        rw [← HV.out]
        have HXC := Lib.hid (HXC.out.trans hx2)
        clear hx2
        have hDr := Blk.ext HD.out HXC.out
        have hmr := hDr.melts
        have hhr := Blk.has hDr
        have hlr := hDr.lt
        have hcS := Blk.cell (Blk.ext HS.out HXC.out)
        have hlS := (Blk.ext HS.out HXC.out).lt
        have hhK := Blk.has (Blk.ext HK.out HXC.out)
        have hgK := Blk.gets (Blk.ext HK.out HXC.out)
        have hlK := (Blk.ext HK.out HXC.out).lt
        by_cases hv0 : v = 0
        · have q0 : ((v : Int) == 0) = true := by simp [hv0]
          have HR := Lib.hid (show X = some ⟨6, name⟩ by rw [HX2.out, hv0]; rfl)
          clear hv0
          go_wp2_with fail
          refine ret_cell (t := 38) (g := rb) (cs := fltC X) Tryd.results92 rfl rfl aggFaultR (by rw [HR.out]; exact sizeFaultR) (by rw [HR.out]; exact Blk.put_ hDr 0 _) ⟨rfl, ?_⟩
          exact (HX0.out.trans HXC.out).putAt _ _ _ (fun hlt => absurd hlt (by have := HRW.out; omega))
        · have q0 : ((v : Int) == 0) = false := by simp; omega
          have n0 : (v != 0) = true := by simp [hv0]
          have HX3 := Lib.hid (show X = ored (must (v == 1) 11 name) (must (btw low 2 1000) 2 name) by rw [HX2.out, n0, must_true, ored_none])
          clear hv0
          by_cases hv1 : v = 1
          · have q1 : ((v : Int) == 1) = true := by simp [hv1]
            have HX4 := Lib.hid (show X = must (btw low 2 1000) 2 name by rw [HX3.out, hv1]; rfl)
            clear hv1
            go_wp2_with fail
            refine (in_any low 2 1000 _).mono ?_
            rintro e w3 ⟨rfl, rfl⟩
            cases hb : btw low 2 1000
            · have HR := Lib.hid (show X = some ⟨2, name⟩ by rw [HX4.out, hb, must_false])
              go_wp2_with fail
              refine ret_cell (t := 38) (g := rb) (cs := fltC X) Tryd.results92 rfl rfl aggFaultR (by rw [HR.out]; exact sizeFaultR) (by rw [HR.out]; exact Blk.put_ hDr 0 _) ⟨rfl, ?_⟩
              exact (HX0.out.trans HXC.out).putAt _ _ _ (fun hlt => absurd hlt (by have := HRW.out; omega))
            · have HR := Lib.hid (show X = none by rw [HX4.out, hb, must_true])
              go_wp2_with fail
              refine (fine_any _).mono ?_
              rintro e w9 ⟨rfl, hx9⟩
              clear hDr hmr hhr hlr hcS hlS hhK hgK hlK
              have HXC := Lib.hid (HXC.out.trans hx9)
              have hDr := Blk.ext HD.out HXC.out
              have hmr := hDr.melts
              have hhr := Blk.has hDr
              have hlr := hDr.lt
              have hcS := Blk.cell (Blk.ext HS.out HXC.out)
              have hlS := (Blk.ext HS.out HXC.out).lt
              have hhK := Blk.has (Blk.ext HK.out HXC.out)
              have hgK := Blk.gets (Blk.ext HK.out HXC.out)
              have hlK := (Blk.ext HK.out HXC.out).lt
              clear hx9
              go_wp2_with fail
              refine ret_cell (t := 38) (g := rb) (cs := fltC X) Tryd.results92 rfl rfl aggFaultR (by rw [HR.out]; exact sizeFaultR) (by rw [HR.out]; exact Blk.put_ hDr 0 _) ⟨rfl, ?_⟩
              exact (HX0.out.trans HXC.out).putAt _ _ _ (fun hlt => absurd hlt (by have := HRW.out; omega))
          · have q1 : ((v : Int) == 1) = false := by simp; omega
            have n1 : (v == 1) = false := by simp [hv1]
            have HR := Lib.hid (show X = some ⟨11, name⟩ by rw [HX3.out, n1, must_false, ored_some])
            clear hv1
            go_wp2_with fail
            refine ret_cell (t := 38) (g := rb) (cs := fltC X) Tryd.results92 rfl rfl aggFaultR (by rw [HR.out]; exact sizeFaultR) (by rw [HR.out]; exact Blk.put_ hDr 0 _) ⟨rfl, ?_⟩
            exact (HX0.out.trans HXC.out).putAt _ _ _ (fun hlt => absurd hlt (by have := HRW.out; omega))
      · by_cases h3 : kind = 3
        · subst h3
          have HX2 := Lib.hid (show X = ored (must (isName name) 6 name) (ored (must (v == 0) 7 name) (ored (must (word low && word high && decide (high - low ≤ 63)) 2 name) (must (decide (deep < 8)) 25 name))) by rw [HX.out]; simp)
          clear HX
          go_wp2_with fail
          refine (risname_any name HNM.out _).mono ?_
          rintro e w2 ⟨rfl, hx2⟩
          clear hDr hmr hhr hlr hcS hlS hhK hgK hlK
          have HXC := Lib.hid (HXC.out.trans hx2)
          clear hx2
          have hDr := Blk.ext HD.out HXC.out
          have hmr := hDr.melts
          have hhr := Blk.has hDr
          have hlr := hDr.lt
          have hcS := Blk.cell (Blk.ext HS.out HXC.out)
          have hlS := (Blk.ext HS.out HXC.out).lt
          have hhK := Blk.has (Blk.ext HK.out HXC.out)
          have hgK := Blk.gets (Blk.ext HK.out HXC.out)
          have hlK := (Blk.ext HK.out HXC.out).lt
          cases hn : isName name
          · have HR := Lib.hid (show X = some ⟨6, name⟩ by rw [HX2.out, hn, must_false, ored_some])
            go_wp2_with fail
            refine ret_cell (t := 38) (g := rb) (cs := fltC X) Tryd.results92 rfl rfl aggFaultR (by rw [HR.out]; exact sizeFaultR) (by rw [HR.out]; exact Blk.put_ hDr 0 _) ⟨rfl, ?_⟩
            exact (HX0.out.trans HXC.out).putAt _ _ _ (fun hlt => absurd hlt (by have := HRW.out; omega))
          · have HX3 := Lib.hid (show X = ored (must (v == 0) 7 name) (ored (must (word low && word high && decide (high - low ≤ 63)) 2 name) (must (decide (deep < 8)) 25 name)) by rw [HX2.out, hn, must_true, ored_none])
            clear HX2
            go_wp2_with fail
            refine (sort_any c p A n k l name N _ (Nat.le_trans HNW.out HXC.out.size) (HPA.out.ext HXC.out HNW.out) (HSL.out.ext HXC.out)).mono ?_
            rintro e w2 ⟨rfl, hx2⟩
            clear hDr hmr hhr hlr hcS hlS hhK hgK hlK
            rw [← HV.out]
            have HXC := Lib.hid (HXC.out.trans hx2)
            clear hx2
            have hDr := Blk.ext HD.out HXC.out
            have hmr := hDr.melts
            have hhr := Blk.has hDr
            have hlr := hDr.lt
            have hcS := Blk.cell (Blk.ext HS.out HXC.out)
            have hlS := (Blk.ext HS.out HXC.out).lt
            have hhK := Blk.has (Blk.ext HK.out HXC.out)
            have hgK := Blk.gets (Blk.ext HK.out HXC.out)
            have hlK := (Blk.ext HK.out HXC.out).lt
            by_cases hv0 : v = 0
            · have q0 : ((v : Int) == 0) = true := by simp [hv0]
              have HX4 := Lib.hid (show X = ored (must (word low && word high && decide (high - low ≤ 63)) 2 name) (must (decide (deep < 8)) 25 name) by rw [HX3.out, hv0]; rfl)
              clear hv0 HX3
              go_wp2_with fail
              refine (word_any low _).mono ?_
              rintro e w3 ⟨rfl, rfl⟩
              cases hw1 : word low
              · have HR := Lib.hid (show X = some ⟨2, name⟩ by rw [HX4.out, hw1]; rfl)
                go_wp2_with fail
                refine ret_cell (t := 38) (g := rb) (cs := fltC X) Tryd.results92 rfl rfl aggFaultR (by rw [HR.out]; exact sizeFaultR) (by rw [HR.out]; exact Blk.put_ hDr 0 _) ⟨rfl, ?_⟩
                exact (HX0.out.trans HXC.out).putAt _ _ _ (fun hlt => absurd hlt (by have := HRW.out; omega))
              · go_wp2_with fail
                refine (word_any high _).mono ?_
                rintro e w3 ⟨rfl, rfl⟩
                cases hw2 : word high
                · have HR := Lib.hid (show X = some ⟨2, name⟩ by rw [HX4.out, hw1, hw2]; rfl)
                  go_wp2_with fail
                  refine ret_cell (t := 38) (g := rb) (cs := fltC X) Tryd.results92 rfl rfl aggFaultR (by rw [HR.out]; exact sizeFaultR) (by rw [HR.out]; exact Blk.put_ hDr 0 _) ⟨rfl, ?_⟩
                  exact (HX0.out.trans HXC.out).putAt _ _ _ (fun hlt => absurd hlt (by have := HRW.out; omega))
                · have hb1 : -2147483648 ≤ low ∧ low ≤ 2147483647 := by simpa [word] using hw1
                  have HX5 := Lib.hid (show X = ored (must (decide (high - low ≤ 63)) 2 name) (must (decide (deep < 8)) 25 name) by rw [HX4.out, hw1, hw2, Bool.true_and, Bool.true_and])
                  clear HX4 hw1 hw2
                  have hwr : IntKind.i64.wrap (low + 63) = low + 63 := by rw [IntKind.wrap_i64]; omega
                  by_cases hgt : high > low + 63
                  · have HR := Lib.hid (show X = some ⟨2, name⟩ by rw [HX5.out, decide_eq_false (by omega), must_false, ored_some])
                    go_wp2_with fail
                    refine ret_cell (t := 38) (g := rb) (cs := fltC X) Tryd.results92 rfl rfl aggFaultR (by rw [HR.out]; exact sizeFaultR) (by rw [HR.out]; exact Blk.put_ hDr 0 _) ⟨rfl, ?_⟩
                    exact (HX0.out.trans HXC.out).putAt _ _ _ (fun hlt => absurd hlt (by have := HRW.out; omega))
                  · have HX6 := Lib.hid (show X = must (decide (deep < 8)) 25 name by rw [HX5.out, decide_eq_true (by omega), must_true, ored_none])
                    by_cases hd8 : (deep : Int) ≥ 8
                    · have HR := Lib.hid (show X = some ⟨25, name⟩ by rw [HX6.out, decide_eq_false (by omega), must_false])
                      go_wp2_with fail
                      refine ret_cell (t := 38) (g := rb) (cs := fltC X) Tryd.results92 rfl rfl aggFaultR (by rw [HR.out]; exact sizeFaultR) (by rw [HR.out]; exact Blk.put_ hDr 0 _) ⟨rfl, ?_⟩
                      exact (HX0.out.trans HXC.out).putAt _ _ _ (fun hlt => absurd hlt (by have := HRW.out; omega))
                    · have HR := Lib.hid (show X = none by rw [HX6.out, decide_eq_true (by omega), must_true])
                      go_wp2_with fail
                      refine (fine_any _).mono ?_
                      rintro e w9 ⟨rfl, hx9⟩
                      clear hDr hmr hhr hlr hcS hlS hhK hgK hlK
                      have HXC := Lib.hid (HXC.out.trans hx9)
                      have hDr := Blk.ext HD.out HXC.out
                      have hmr := hDr.melts
                      have hhr := Blk.has hDr
                      have hlr := hDr.lt
                      have hcS := Blk.cell (Blk.ext HS.out HXC.out)
                      have hlS := (Blk.ext HS.out HXC.out).lt
                      have hhK := Blk.has (Blk.ext HK.out HXC.out)
                      have hgK := Blk.gets (Blk.ext HK.out HXC.out)
                      have hlK := (Blk.ext HK.out HXC.out).lt
                      clear hx9
                      go_wp2_with fail
                      refine ret_cell (t := 38) (g := rb) (cs := fltC X) Tryd.results92 rfl rfl aggFaultR (by rw [HR.out]; exact sizeFaultR) (by rw [HR.out]; exact Blk.put_ hDr 0 _) ⟨rfl, ?_⟩
                      exact (HX0.out.trans HXC.out).putAt _ _ _ (fun hlt => absurd hlt (by have := HRW.out; omega))
            · have q0 : ((v : Int) == 0) = false := by simp; omega
              have n0 : (v == 0) = false := by simp [hv0]
              have HR := Lib.hid (show X = some ⟨7, name⟩ by rw [HX3.out, n0, must_false, ored_some])
              clear hv0
              go_wp2_with fail
              refine ret_cell (t := 38) (g := rb) (cs := fltC X) Tryd.results92 rfl rfl aggFaultR (by rw [HR.out]; exact sizeFaultR) (by rw [HR.out]; exact Blk.put_ hDr 0 _) ⟨rfl, ?_⟩
              exact (HX0.out.trans HXC.out).putAt _ _ _ (fun hlt => absurd hlt (by have := HRW.out; omega))
        · have HR := Lib.hid (show X = none by rw [HX.out, if_neg (by omega), if_neg h3])
          go_wp2_with fail
          refine (fine_any _).mono ?_
          rintro e w9 ⟨rfl, hx9⟩
          clear hDr hmr hhr hlr hcS hlS hhK hgK hlK
          have HXC := Lib.hid (HXC.out.trans hx9)
          have hDr := Blk.ext HD.out HXC.out
          have hmr := hDr.melts
          have hhr := Blk.has hDr
          have hlr := hDr.lt
          have hcS := Blk.cell (Blk.ext HS.out HXC.out)
          have hlS := (Blk.ext HS.out HXC.out).lt
          have hhK := Blk.has (Blk.ext HK.out HXC.out)
          have hgK := Blk.gets (Blk.ext HK.out HXC.out)
          have hlK := (Blk.ext HK.out HXC.out).lt
          clear hx9
          go_wp2_with fail
          refine ret_cell (t := 38) (g := rb) (cs := fltC X) Tryd.results92 rfl rfl aggFaultR (by rw [HR.out]; exact sizeFaultR) (by rw [HR.out]; exact Blk.put_ hDr 0 _) ⟨rfl, ?_⟩
          exact (HX0.out.trans HXC.out).putAt _ _ _ (fun hlt => absurd hlt (by have := HRW.out; omega))
end Go.Proofs.YtfamkemdgbnegaaDoor
