/- Several texts joined: Qzh, Qzi, Qzj, Qzk, Qzl, Qzm. -/
import Derived.Test.YtfamkemdgbnegaaDoorSdg
/- Sorts: how many plays there are (Menu). -/
namespace Go.Proofs.YtfamkemdgbnegaaDoor
open Go.RowKit So
theorem u64_w (x : Int) : IntKind.u64.wrap x = x % 18446744073709551616 := by simp [IntKind.wrap_u64]
theorem u64_sub (a b : Int) (ha : i64ok a) (hb : i64ok b) (h : b ≤ a) : IntKind.u64.wrap (IntKind.u64.wrap a - IntKind.u64.wrap b) = a - b := by
  rw [u64_w, u64_w, u64_w]
  unfold i64ok at ha hb
  omega
theorem menu_step (acc : Nat) (d : Int) (h : acc ≤ 513) (hd : 0 ≤ d) : min (IntKind.u64.wrap ((acc : Int) * IntKind.u64.wrap (min d 512 + 1))) 513 = min ((acc : Int) * (min d 512 + 1)) 513 := by
  have h1 : 0 ≤ min d 512 + 1 := by omega
  have h2 : min d 512 + 1 ≤ 513 := by omega
  obtain ⟨k, hk⟩ : ∃ k : Nat, (k : Int) = min d 512 + 1 := ⟨(min d 512 + 1).toNat, by omega⟩
  rw [← hk] at h1 h2 ⊢
  have h3 : acc * k ≤ 513 * 513 := Nat.mul_le_mul h (by omega)
  have h4 : ((acc * k : Nat) : Int) = (acc : Int) * k := by push_cast; rfl
  have h5 : IntKind.u64.wrap (k : Int) = k := by rw [u64_w]; omega
  rw [h5, ← h4, u64_w]
  congr 1
  omega
set_option maxRecDepth 100000 in
set_option maxHeartbeats 1500000 in
theorem smenu_any (c : Pc) (p : Pr) (N : Nat) (w : World) (_hN : N ≤ w.heap.size) (h : PAt w N c p) : Calls Tryd.prog 22 #[.agg c.cells] w fun e w' => e = .returned (.int .i64 (menu p.params)) ∧ Ext w w' := by
  obtain ⟨X, hX⟩ : ∃ X, X = menu p.params := ⟨_, rfl⟩
  rw [← hX]
  have HXM := Lib.hid hX
  clear hX
  obtain ⟨cn, cse, cst, cv, cs, ct, ⟨A, n, cc⟩, cpl, csi, cq, cpy⟩ := c
  have hx0 := (Kept.refl (fun _ => False) w).alloc (.cells (Pc.cells ⟨cn, cse, cst, cv, cs, ct, ⟨A, n, cc⟩, cpl, csi, cq, cpy⟩) 52)
  have hB0 := Lib.hid (Blk.new w 52 (Pc.cells ⟨cn, cse, cst, cv, cs, ct, ⟨A, n, cc⟩, cpl, csi, cq, cpy⟩))
  obtain ⟨hn, hf, hok, b, off, hA, hE⟩ := h.params.ext hx0
  have hm := hf.max (by omega)
  have HN := Lib.hid hn
  have HA := Lib.hid hA
  have HE := Lib.hid hE
  have HX0 := Lib.hid hx0
  have HOK := Lib.hid hok
  clear hn hA hE hok hf h
  go_enter Tryd.func22, Tryd.ntmps22
  go_wp2_with fail
  go_loopw [12] (fun t12 wr => ∃ (j : Nat), j ≤ n ∧ t12 = .int .i64 j ∧ (p.params.take j).any (fun v => decide (v.high < v.low)) = false ∧ Ext (w.alloc (.cells (Pc.cells ⟨cn, cse, cst, cv, cs, ct, ⟨A, n, cc⟩, cpl, csi, cq, cpy⟩) 52)) wr) (fun t12 _ => n - (intOf t12).toNat)
  case atStart => exact ⟨0, Nat.zero_le _, rfl, rfl, Kept.refl _ _⟩
  case round =>
    obtain ⟨j, hj, rfl, hacc, hx⟩ := hrel
    have HX := Lib.hid hx
    have HACC := Lib.hid hacc
    clear hx hacc
    by_cases hlt : j < n
    · have hjl : j < p.params.length := by have := HN.out; omega
      have hltI : (j : Int) < n := by omega
      obtain rfl := HA.out (by omega)
      have hrow := (HE.out (by omega)).2.ext HX.out
      obtain ⟨hh', hg'⟩ := vr_at hrow j hjl
      have hbw := hrow.lt
      obtain ⟨x, hxe⟩ : ∃ x, x = p.params[j] := ⟨_, rfl⟩
      rw [← hxe] at hg'
      have HXE := Lib.hid hxe
      clear hrow hxe
      have y0 := Lib.hid (show Ext wr _ from (Kept.refl (fun _ => False) wr).alloc (.cells (vcells x) 54))
      obtain ⟨xn, xs, xl, xh⟩ := x
      by_cases hq : xh < xl
      · have hqg : xl > xh := hq
        go_wp2_with fail
        go_ret
        have hany : p.params.any (fun v => decide (v.high < v.low)) = true := List.any_eq_true.2 ⟨p.params[j], List.getElem_mem hjl, by rw [← HXE.out]; exact decide_eq_true hq⟩
        refine ⟨?_, HX0.out.trans (HX.out.trans y0.out)⟩
        rw [HXM.out]
        unfold menu
        rw [hany]
        rfl
      · have hqg : ¬ xl > xh := hq
        go_wp2_with fail
        have hq2 : decide (xh < xl) = false := decide_eq_false hq
        exact ⟨⟨j + 1, hlt, by go_num, by rw [List.take_add_one, List.getElem?_eq_getElem hjl, ← HXE.out, List.any_append, HACC.out]; simp [hq2], HX.out.trans y0.out⟩, by simp only [intOf]; omega⟩
    · obtain rfl : j = n := by omega
      have hany : p.params.any (fun v => decide (v.high < v.low)) = false := by
        have h := HACC.out
        rwa [HN.out, List.take_length] at h
      have HM := Lib.hid (show menuF 1 p.params = X by rw [HXM.out]; unfold menu; rw [hany]; rfl)
      have HAN := Lib.hid hany
      clear hany
      have hcB := Blk.cell (Blk.ext hB0.out HX.out)
      have hlB := (Blk.ext hB0.out HX.out).lt
      go_wp2_with fail
      go_loopw [5, 25] (fun t5 t25 wq => ∃ (m : Nat) (acc : Nat), m ≤ j ∧ acc ≤ 513 ∧ t25 = .int .i64 m ∧ t5 = .int .u64 acc ∧ menuF acc (p.params.drop m) = X ∧ Ext wr wq) (fun _ t25 _ => j - (intOf t25).toNat)
      case atStart => exact ⟨0, 1, Nat.zero_le _, by omega, rfl, rfl, HM.out, Kept.refl _ _⟩
      case round =>
        obtain ⟨m, acc, hmj, hacc5, rfl, rfl, hmf, hy⟩ := hrel
        have HY := Lib.hid hy
        have HMF := Lib.hid hmf
        clear hy hmf hcB hlB
        by_cases hlt2 : m < j
        · have hjl : m < p.params.length := by have := HN.out; omega
          have hltI : (m : Int) < j := by omega
          obtain rfl := HA.out (by omega)
          have hrow := (HE.out (by omega)).2.ext (HX.out.trans HY.out)
          obtain ⟨hh', hg'⟩ := vr_at hrow m hjl
          have hbw := hrow.lt
          obtain ⟨x, hxe⟩ : ∃ x, x = p.params[m] := ⟨_, rfl⟩
          rw [← hxe] at hg'
          have HXE := Lib.hid hxe
          clear hrow hxe
          obtain ⟨xn, xs, xl, xh⟩ := x
          go_wp2_with fail
          have hvm : (⟨xn, xs, xl, xh⟩ : Vr) ∈ p.params := by rw [HXE.out]; exact List.getElem_mem hjl
          have hvo := HOK.out _ hvm
          have hge : xl ≤ xh := by
            refine Int.not_lt.1 fun h => ?_
            have := List.any_eq_false.1 HAN.out _ hvm
            exact this (decide_eq_true h)
          have hne : p.params.drop m = ⟨xn, xs, xl, xh⟩ :: p.params.drop (m + 1) := by rw [HXE.out]; exact List.drop_eq_getElem_cons hjl
          have hsub := u64_sub xh xl (by have := hvo; first | exact hvo.high | exact hvo.2.2.2 | exact hvo.2.2.1) (by have := hvo; first | exact hvo.low | exact hvo.2.2.1 | exact hvo.2.1) hge
          rw [hsub, menu_step acc (xh - xl) hacc5 (by omega)]
          obtain ⟨k, hk⟩ : ∃ k : Nat, (k : Int) = min ((acc : Int) * (min (xh - xl) 512 + 1)) 513 := by
            have : 0 ≤ (acc : Int) * (min (xh - xl) 512 + 1) := Int.mul_nonneg (by omega) (by omega)
            exact ⟨(min ((acc : Int) * (min (xh - xl) 512 + 1)) 513).toNat, by omega⟩
          have hmf2 := HMF.out
          rw [hne] at hmf2
          exact ⟨⟨m + 1, k, hlt2, by omega, by go_num, by rw [hk], by rw [hk]; exact hmf2, HY.out.trans ((Kept.refl (fun _ => False) _).alloc _)⟩, by simp only [intOf]; omega⟩
        · obtain rfl : m = j := by omega
          go_wp2_with fail
          go_ret
          refine ⟨ret_int ?_, HX0.out.trans (HX.out.trans HY.out)⟩
          rw [← HMF.out, HN.out, List.drop_length]
          simp [menuF]
end Go.Proofs.YtfamkemdgbnegaaDoor

/- Sorts: whether a part of a turn ends it, for the reference. -/
namespace Go.Proofs.YtfamkemdgbnegaaDoor
open Go.RowKit So
abbrev REndC (w0 : World) (F : SF) : Prop := ∀ (A : Option Addr) (n c N : Nat) (w : World), Ext w0 w → N ≤ w0.heap.size → SSl w0 N A n F → Calls Tryd.prog 58 #[.slice A n c] w fun e w' => e = .returned (.bool (ends F)) ∧ Ext w w'
set_option maxRecDepth 100000 in
set_option maxHeartbeats 1500000 in
theorem rends_any (w0 : World) (F : SF) : REndC w0 F := by
  refine sf_ind (C := REndC w0) ?_ F
  clear F
  intro F IH A n c N w hx0 hN h
  obtain ⟨Z, hZ⟩ : ∃ Z, Z = ends F := ⟨_, rfl⟩
  rw [← hZ]
  have HZ := Lib.hid hZ.symm
  clear hZ
  obtain ⟨hn, hf, b, off, hA, hE⟩ := h
  have hm := hf.max (by omega)
  have HN := Lib.hid hn
  have HA := Lib.hid hA
  have HE := Lib.hid hE
  have HI := Lib.hid IH
  clear hn hA hE IH hf
  go_enter Tryd.func58, Tryd.ntmps58
  go_wp2_with fail
  go_loopw [3] (fun t7 wr => ∃ (j : Nat) (R : SF), j + R.len = n ∧ ends R = Z ∧ t7 = .int .i64 j ∧ SFAt w0 N R b (off + j * 7) ∧ SF.All (REndC w0) R ∧ Ext w wr) (fun t7 _ => n - (intOf t7).toNat)
  case atStart => exact ⟨0, F, by rw [HN.out, Nat.zero_add], HZ.out, rfl, by simpa using HE.out, HI.out, Kept.refl _ _⟩
  case round =>
    obtain ⟨j, R, hj, hacc, rfl, hR, hI, hx⟩ := hrel
    have HR := Lib.hid hR
    have HI2 := Lib.hid hI
    have HX := Lib.hid hx
    have HACC := Lib.hid hacc
    clear hR hI hx hacc
    cases R with
    | nil =>
      simp only [SF.len, Nat.add_zero] at hj
      subst hj
      go_wp2_with fail
      go_ret
      exact ⟨by rw [← HACC.out]; rfl, HX.out⟩
    | cons kind name es low high l x r =>
      obtain ⟨hb, h1, h2, h3, h4, ⟨eA, ec, lA, lc, xA, xc, be, oe, bl, ol, bx, ox, hh, hg, n1, n2, n3, a1, a2, a3, he, hl, hxx⟩, hr⟩ := HR.out
      simp only [SF.len] at hj
      have hlt : (j : Int) < n := by omega
      obtain rfl := HA.out (by omega)
      have hx0r := hx0.trans HX.out
      have hbl := hx0r.size
      have hh' := has_ext hx0r (by omega) hh
      have hg' := gets_ext hx0r (by omega) hg
      have hbw : b < wr.heap.size := by omega
      have KL := Lib.hid (show SSl w0 N lA l.len l from ⟨rfl, n2, bl, ol, a2, hl⟩)
      have KX := Lib.hid (show SSl w0 N xA x.len x from ⟨rfl, n3, bx, ox, a3, hxx⟩)
      have HR2 := Lib.hid hr
      have y0 := (Kept.refl (fun _ => False) wr).alloc (.cells (scells kind name eA es.len ec low high lA l.len lc xA x.len xc) 34)
      have HB := Lib.hid (Blk.new wr 34 (scells kind name eA es.len ec low high lA l.len lc xA x.len xc))
      have HXE := Lib.hid (HX.out.trans y0)
      have HY0 := Lib.hid y0
      clear hh hg n1 n2 n3 a1 a2 a3 he hl hxx hb h1 h2 h3 h4 hr HR hx0r hbl y0
      have hcB := Blk.cell HB.out
      cases q6 : (kind == 6)
      · cases q7 : (kind == 7)
        · cases q2 : (kind == 2)
          · have HNX := Lib.hid (show ends r = Z by rw [← HACC.out]; simp [ends, q6, q7, q2])
            go_wp2_with fail
            go_roundw
            case rel => exact ⟨j + 1, r, by omega, HNX.out, by go_num, by rw [Nat.add_mul, ← Nat.add_assoc]; exact HR2.out, HI2.out.2.2, HXE.out⟩
            case measure => simp only [intOf]; omega
          · have HQ := Lib.hid (show ((ends l && ends x) || ends r) = Z by rw [← HACC.out]; simp [ends, q6, q7, q2])
            clear hcB
            go_wp2_with fail
            refine (HI2.out.1 _ _ _ N _ (hx0.trans HXE.out) hN KL.out).mono ?_
            rintro e w2 ⟨rfl, hx2⟩
            have HXE := Lib.hid (HXE.out.trans hx2)
            have HB2 := Lib.hid (Blk.ext HB.out hx2)
            have hcB := Blk.cell HB2.out
            have hlB := HB2.out.lt
            clear hx2 HB HY0
            obtain ⟨el, hel⟩ : ∃ el, el = ends l := ⟨_, rfl⟩
            rw [← hel] at HQ ⊢
            clear hel
            cases el
            · have HNX := Lib.hid (show ends r = Z from HQ.out)
              go_wp2_with fail
              go_roundw
              case rel => exact ⟨j + 1, r, by omega, HNX.out, by go_num, by rw [Nat.add_mul, ← Nat.add_assoc]; exact HR2.out, HI2.out.2.2, HXE.out⟩
              case measure => simp only [intOf]; omega
            · go_wp2_with fail
              refine (HI2.out.2.1 _ _ _ N _ (hx0.trans HXE.out) hN KX.out).mono ?_
              rintro e w3 ⟨rfl, hx3⟩
              have HXE := Lib.hid (HXE.out.trans hx3)
              clear hx3
              obtain ⟨el, hel⟩ : ∃ el, el = ends x := ⟨_, rfl⟩
              rw [← hel] at HQ ⊢
              clear hel
              cases el
              · have HNX := Lib.hid (show ends r = Z from HQ.out)
                go_wp2_with fail
                go_roundw
                case rel => exact ⟨j + 1, r, by omega, HNX.out, by go_num, by rw [Nat.add_mul, ← Nat.add_assoc]; exact HR2.out, HI2.out.2.2, HXE.out⟩
                case measure => simp only [intOf]; omega
              · go_wp2_with fail
                go_ret
                exact ⟨by rw [← HQ.out]; rfl, HXE.out⟩
        · have HQ := Lib.hid q7
          go_wp2_with fail
          go_ret
          rw [← HACC.out]
          exact ⟨by simp [ends, HQ.out], HXE.out⟩
      · have HQ := Lib.hid q6
        go_wp2_with fail
        go_ret
        rw [← HACC.out]
        exact ⟨by simp [ends, HQ.out], HXE.out⟩
end Go.Proofs.YtfamkemdgbnegaaDoor

/- Sorts: how many plays there are, for the reference. -/
namespace Go.Proofs.YtfamkemdgbnegaaDoor
open Go.RowKit So
set_option maxRecDepth 100000 in
set_option maxHeartbeats 1500000 in
theorem rmenu_any (c : Pc) (p : Pr) (N : Nat) (w : World) (_hN : N ≤ w.heap.size) (h : PAt w N c p) : Calls Tryd.prog 23 #[.agg c.cells] w fun e w' => e = .returned (.int .i64 (menu p.params)) ∧ Ext w w' := by
  obtain ⟨X, hX⟩ : ∃ X, X = menu p.params := ⟨_, rfl⟩
  rw [← hX]
  have HXM := Lib.hid hX
  clear hX
  obtain ⟨cn, cse, cst, cv, cs, ct, ⟨A, n, cc⟩, cpl, csi, cq, cpy⟩ := c
  have hx0 := (Kept.refl (fun _ => False) w).alloc (.cells (Pc.cells ⟨cn, cse, cst, cv, cs, ct, ⟨A, n, cc⟩, cpl, csi, cq, cpy⟩) 26)
  have hB0 := Lib.hid (Blk.new w 26 (Pc.cells ⟨cn, cse, cst, cv, cs, ct, ⟨A, n, cc⟩, cpl, csi, cq, cpy⟩))
  obtain ⟨hn, hf, hok, b, off, hA, hE⟩ := h.params.ext hx0
  have hm := hf.max (by omega)
  have HN := Lib.hid hn
  have HA := Lib.hid hA
  have HE := Lib.hid hE
  have HX0 := Lib.hid hx0
  have HOK := Lib.hid hok
  clear hn hA hE hok hf h hx0
  go_enter Tryd.func23, Tryd.ntmps23
  go_upto_region 1 with (fail)
  generalize hW : (w.alloc (.cells (Pc.cells ⟨cn, cse, cst, cv, cs, ct, ⟨A, n, cc⟩, cpl, csi, cq, cpy⟩) 26)) = W at hB0 HE HX0 ⊢
  clear hW
  generalize w.heap.size = pb at hB0 ⊢
  go_wp2_with fail
  go_loopw [4] (fun t12 wr => ∃ (j : Nat), j ≤ n ∧ t12 = .int .i64 j ∧ (p.params.take j).any (fun v => decide (v.high < v.low)) = false ∧ Ext W wr) (fun t12 _ => n - (intOf t12).toNat)
  case atStart => exact ⟨0, Nat.zero_le _, rfl, rfl, Kept.refl _ _⟩
  case round =>
    obtain ⟨j, hj, rfl, hacc, hx⟩ := hrel
    have HX := Lib.hid hx
    have HACC := Lib.hid hacc
    clear hx hacc
    have hcB := Blk.cell (Blk.ext hB0.out HX.out)
    have hlB := (Blk.ext hB0.out HX.out).lt
    by_cases hlt : j < n
    · have hjl : j < p.params.length := by have := HN.out; omega
      have hltI : (j : Int) < n := by omega
      obtain rfl := HA.out (by omega)
      have hrow := (HE.out (by omega)).2.ext HX.out
      obtain ⟨hh', hg'⟩ := vr_at hrow j hjl
      have hbw := hrow.lt
      obtain ⟨x, hxe⟩ : ∃ x, x = p.params[j] := ⟨_, rfl⟩
      rw [← hxe] at hg'
      have HXE := Lib.hid hxe
      clear hrow hxe
      have y0 := Lib.hid (show Ext wr _ from (Kept.refl (fun _ => False) wr).alloc (.cells (vcells x) 29))
      obtain ⟨xn, xs, xl, xh⟩ := x
      by_cases hq : xh < xl
      · have hqg : xl > xh := hq
        go_wp2_with fail
        go_ret
        have hany : p.params.any (fun v => decide (v.high < v.low)) = true := List.any_eq_true.2 ⟨p.params[j], List.getElem_mem hjl, by rw [← HXE.out]; exact decide_eq_true hq⟩
        refine ⟨?_, HX0.out.trans (HX.out.trans y0.out)⟩
        rw [HXM.out]
        unfold menu
        rw [hany]
        rfl
      · have hqg : ¬ xl > xh := hq
        go_wp2_with fail
        have hq2 : decide (xh < xl) = false := decide_eq_false hq
        exact ⟨⟨j + 1, hlt, by go_num, by rw [List.take_add_one, List.getElem?_eq_getElem hjl, ← HXE.out, List.any_append, HACC.out]; simp [hq2], HX.out.trans y0.out⟩, by simp only [intOf]; omega⟩
    · obtain rfl : j = n := by omega
      have hany : p.params.any (fun v => decide (v.high < v.low)) = false := by
        have h := HACC.out
        rwa [HN.out, List.take_length] at h
      have HM := Lib.hid (show menuF 1 p.params = X by rw [HXM.out]; unfold menu; rw [hany]; rfl)
      have HAN := Lib.hid hany
      clear hany
      go_wp2_with fail
      go_loopw [3, 6] (fun t5 t25 wq => ∃ (m : Nat) (acc : Nat), m ≤ j ∧ (1 ≤ acc ∧ acc ≤ 513) ∧ t25 = .int .i64 m ∧ t5 = .int .i64 acc ∧ menuF acc (p.params.drop m) = X ∧ Ext wr wq) (fun _ t25 _ => j - (intOf t25).toNat)
      case atStart => exact ⟨0, 1, Nat.zero_le _, by omega, rfl, rfl, HM.out, Kept.refl _ _⟩
      case round =>
        obtain ⟨m, acc, hmj, hacc5, rfl, rfl, hmf, hy⟩ := hrel
        have HY := Lib.hid hy
        have HMF := Lib.hid hmf
        clear hy hmf hcB hlB
        have hcB := Blk.cell (Blk.ext hB0.out (HX.out.trans HY.out))
        have hlB := (Blk.ext hB0.out (HX.out.trans HY.out)).lt
        by_cases hlt2 : m < j
        · have hjl : m < p.params.length := by have := HN.out; omega
          have hltI : (m : Int) < j := by omega
          obtain rfl := HA.out (by omega)
          have hrow := (HE.out (by omega)).2.ext (HX.out.trans HY.out)
          obtain ⟨hh', hg'⟩ := vr_at hrow m hjl
          have hbw := hrow.lt
          obtain ⟨x, hxe⟩ : ∃ x, x = p.params[m] := ⟨_, rfl⟩
          rw [← hxe] at hg'
          have HXE := Lib.hid hxe
          clear hrow hxe
          obtain ⟨xn, xs, xl, xh⟩ := x
          have hvm : (⟨xn, xs, xl, xh⟩ : Vr) ∈ p.params := by rw [HXE.out]; exact List.getElem_mem hjl
          have hvo := HOK.out _ hvm
          have hge : xl ≤ xh := by
            refine Int.not_lt.1 fun h => ?_
            have := List.any_eq_false.1 HAN.out _ hvm
            exact this (decide_eq_true h)
          have hne : p.params.drop m = ⟨xn, xs, xl, xh⟩ :: p.params.drop (m + 1) := by rw [HXE.out]; exact List.drop_eq_getElem_cons hjl
          have HSUB := Lib.hid (u64_sub xh xl (by have := hvo; first | exact hvo.high | exact hvo.2.2.2 | exact hvo.2.2.1) (by have := hvo; first | exact hvo.low | exact hvo.2.2.1 | exact hvo.2.1) hge)
          have hmf2 := HMF.out
          rw [hne] at hmf2
          have HM2 := Lib.hid (show menuF (min ((acc : Int) * (min (xh - xl) 512 + 1)) 513) (p.params.drop (m + 1)) = X from hmf2)
          have HGE := Lib.hid hge
          clear hmf2 hne hvo hvm hge
          go_wp2_with fail
          · rename_i h6
            rw [HSUB.out] at h6
            have hm2 := HM2.out
            rw [show min (xh - xl) 512 = 512 by omega, show min ((acc : Int) * (512 + 1)) 513 = ((513 : Nat) : Int) by omega] at hm2
            exact ⟨⟨m + 1, 513, hlt2, ⟨by omega, by omega⟩, by go_num, rfl, hm2, HY.out.trans ((Kept.refl (fun _ => False) _).alloc _)⟩, by simp only [intOf]; omega⟩
          · rename_i h6
            rw [HSUB.out] at h6
            have hge := HGE.out
            have hw : ∀ x : Int, -9223372036854775808 ≤ x → x ≤ 9223372036854775807 → wrap64 x = x := fun x a b => by unfold wrap64; omega
            obtain ⟨d, hd⟩ : ∃ d : Nat, (d : Int) = xh - xl := ⟨(xh - xl).toNat, by omega⟩
            have hm2 := HM2.out
            rw [← hd] at h6 hm2 ⊢
            have h3 : acc * (d + 1) ≤ 513 * 601 := Nat.mul_le_mul hacc5.2 (by omega)
            have h4 : ((acc * (d + 1) : Nat) : Int) = (acc : Int) * ((d : Int) + 1) := by push_cast; rfl
            have h7 : 1 * (d + 1) ≤ acc * (d + 1) := Nat.mul_le_mul_right _ hacc5.1
            have h8 : min ((acc : Int) * (min (d : Int) 512 + 1)) 513 = ((min (acc * (d + 1)) 513 : Nat) : Int) := by
              by_cases h9 : d ≤ 512
              · rw [show min (d : Int) 512 = d by omega, ← h4]; omega
              · rw [show min (d : Int) 512 = 512 by omega]; omega
            rw [h8] at hm2
            rw [hw d (by omega) (by omega), hw ((d : Int) + 1) (by omega) (by omega), ← h4, hw _ (by omega) (by omega)]
            exact ⟨⟨m + 1, min (acc * (d + 1)) 513, hlt2, ⟨by omega, by omega⟩, by go_num, by congr 1; omega, hm2, HY.out.trans ((Kept.refl (fun _ => False) _).alloc _)⟩, by simp only [intOf]; omega⟩
        · obtain rfl : m = j := by omega
          go_wp2_with fail
          go_ret
          refine ⟨ret_int ?_, HX0.out.trans (HX.out.trans HY.out)⟩
          rw [← HMF.out, HN.out, List.drop_length]
          simp [menuF]
end Go.Proofs.YtfamkemdgbnegaaDoor

/- Sorts: the checker takes up the variables. -/
namespace Go.Proofs.YtfamkemdgbnegaaDoor
open Go.RowKit So
theorem knV_find (l : List Vr) (s : Str) (h : knV l s = 0) : l.find? (fun v => decide (v.name = s)) = none := by
  unfold knV at h
  cases hf : l.find? (fun v => decide (v.name = s)) with
  | none => rfl
  | some v => rw [hf] at h; simp only at h; split at h <;> omega
theorem knV_snoc (l : List Vr) (v : Vr) (h : knV l v.name = 0) : ∀ t, (fun t => if t = v.name then some (Value.int .i64 (if 0 < v.size then 1 else 0)) else knF (knV l) t) t = knF (knV (l ++ [v])) t := by
  intro t
  have hf := knV_find l v.name h
  by_cases e : t = v.name
  · subst e
    have : knV (l ++ [v]) v.name = if 0 < v.size then 2 else 1 := by
      unfold knV
      rw [List.find?_append, hf]
      simp
    simp only [if_true]
    unfold knF
    rw [this]
    split <;> simp
  · have e2 : ¬ v.name = t := fun q => e q.symm
    have : knV (l ++ [v]) t = knV l t := by
      unfold knV
      rw [List.find?_append]
      simp [e2]
    simp only [if_neg e]
    unfold knF
    rw [this]
set_option maxRecDepth 100000 in
set_option maxHeartbeats 1500000 in
theorem vars_any (cb g : Nat) (c : Pc) (p : Pr) (N : Nat) (hN4 : 4 < N) (hNg : N ≤ g) (hNc : N ≤ cb) (w : World) (hN : N ≤ w.heap.size) (h : PAt w N c p) (hL : LaidAt w) (hC : Ck w cb g (fun _ => 0) E0 0) :
    Calls Tryd.prog 37 #[.pointer (some ⟨cb, 0, none⟩), .agg c.cells] w fun e w' => BlkR cb g (knV p.vars) E0 0 (ored (chkVars [] p.vars) (must (decide (cells p.vars ≤ 64)) 8 sVar)) e w' ∧ Kept (SG cb g) w w' := by
  obtain ⟨X, hX⟩ : ∃ X, X = ored (chkVars [] p.vars) (must (decide (cells p.vars ≤ 64)) 8 sVar) := ⟨_, rfl⟩
  rw [← hX]
  have HX := Lib.hid hX.symm
  clear hX
  have HS4 := Lib.hid (show ∀ j, SG cb g j → N ≤ j from fun j h => by rcases h with h | h <;> omega)
  have hcl := hC.map.lt
  have hc2 := hC.lt
  obtain ⟨cn, cse, cst, ⟨A, n, cc⟩, cs, ct, cpa, cpl, csi, cq, cpy⟩ := c
  have hx0 := (Kept.refl (fun _ => False) w).alloc (.cells (Pc.cells ⟨cn, cse, cst, ⟨A, n, cc⟩, cs, ct, cpa, cpl, csi, cq, cpy⟩) 52)
  have hB0 := Blk.new w 52 (Pc.cells ⟨cn, cse, cst, ⟨A, n, cc⟩, cs, ct, cpa, cpl, csi, cq, cpy⟩)
  have HPA := Lib.hid (h.ext hx0 hN)
  have HNW := Lib.hid (Nat.le_trans hN hx0.size)
  obtain ⟨hn, hf, hok, b, off, hA, hE⟩ := h.vars.ext hx0
  have hm := hf.max (by omega)
  have HN := Lib.hid hn
  have HA := Lib.hid hA
  have HE := Lib.hid hE
  have HOK := Lib.hid hok
  have HLW := Lib.hid (hL.ext hx0)
  have HCW := Lib.hid (hC.ext hx0)
  have HPB := Lib.hid (show ¬ SG cb g w.heap.size by rintro (h | h) <;> omega)
  clear hn hA hE hok hf h hL hC hcl hc2
  go_enter Tryd.func37, Tryd.ntmps37
  go_upto_region 1 with (fail)
  generalize hW : (w.alloc (.cells (Pc.cells ⟨cn, cse, cst, ⟨A, n, cc⟩, cs, ct, cpa, cpl, csi, cq, cpy⟩) 52)) = W at hx0 hB0 HE HLW HCW HPA HNW ⊢
  clear hW
  generalize w.heap.size = pb at hB0 HPB ⊢
  have hB0 := Lib.hid hB0
  have HX0 := Lib.hid hx0
  have hcP := Blk.cell hB0.out
  have hlP := hB0.out.lt
  clear hx0
  go_wp2_with fail
  go_loopw [9] (fun t9 wr => ∃ (j : Nat), j ≤ n ∧ t9 = .int .i64 j ∧ ored (chkVars (p.vars.take j) (p.vars.drop j)) (must (decide (cells p.vars ≤ 64)) 8 sVar) = X ∧ Ck wr cb g (knV (p.vars.take j)) E0 0 ∧ Kept (SG cb g) W wr) (fun t9 _ => n - (intOf t9).toNat)
  case atStart => exact ⟨0, Nat.zero_le _, rfl, HX.out, ⟨HCW.out.blk, HCW.out.map.cong (fun t => rfl)⟩, Kept.refl _ _⟩
  case round =>
    obtain ⟨j, hj, rfl, hacc, hck, hx⟩ := hrel
    have HACC := Lib.hid hacc
    have HXR := Lib.hid hx
    have HCR := Lib.hid hck
    clear hacc hx hck hcP hlP
    have hcP := Blk.cell (Blk.kept hB0.out HXR.out HPB.out)
    have hlP := (Blk.kept hB0.out HXR.out HPB.out).lt
    by_cases hlt : j < n
    · have hjl : j < p.vars.length := by have := HN.out; omega
      have hltI : (j : Int) < n := by omega
      obtain rfl := HA.out (by omega)
      have hrow0 := (HE.out (by omega))
      have hrow := hrow0.2.kept HXR.out (fun q => by have := HS4.out _ q; have := hrow0.1; omega)
      obtain ⟨hh', hg'⟩ := vr_at hrow j hjl
      have hbw := hrow.lt
      obtain ⟨x, hxe⟩ : ∃ x, x = p.vars[j] := ⟨_, rfl⟩
      have HVO := Lib.hid (HOK.out x (by rw [hxe]; exact List.getElem_mem hjl))
      have hdrop : p.vars.drop j = x :: p.vars.drop (j + 1) := by rw [hxe]; exact List.drop_eq_getElem_cons hjl
      have htake : p.vars.take (j + 1) = p.vars.take j ++ [x] := by rw [hxe, List.take_add_one, List.getElem?_eq_getElem hjl]; rfl
      rw [← hxe] at hg'
      have hacc := HACC.out
      rw [hdrop] at hacc
      have HTK := Lib.hid htake
      obtain ⟨Y, hY⟩ : ∃ Y, Y = ored (chkVars (p.vars.take j ++ [x]) (p.vars.drop (j + 1))) (must (decide (cells p.vars ≤ 64)) 8 sVar) := ⟨_, rfl⟩
      obtain ⟨κ, hκ⟩ : ∃ κ, κ = knV (p.vars.take j) := ⟨_, rfl⟩
      have HYE := Lib.hid hY
      rw [← hκ] at HCR
      have HKE := Lib.hid hκ
      obtain ⟨v, hv⟩ : ∃ v, v = κ x.name := ⟨_, rfl⟩
      have HV := Lib.hid hv
      have HX2 : Hid (X = ored (must (isName x.name) 6 x.name) (ored (must (v == 0) 7 x.name) (ored (must (btw x.size 0 64 && span x) 2 x.name) Y))) := Lib.hid (by
        rw [← hacc, hY, hv, hκ, chkVars, ored_assoc, ored_assoc, ored_assoc])
      clear hrow hrow0 hxe hacc hdrop htake hY hκ hv HACC
      have y0 := (Kept.refl (fun _ => False) wr).alloc (.cells (vcells x) 54)
      have hV0 := Blk.new wr 54 (vcells x)
      go_upto_region 4 with (fail)
      clear hh' hg' hbw hcP hlP
      have HZ := Lib.hid (HXR.out.trans (Kept.ext y0))
      have HCZ := Lib.hid (HCR.out.ext y0)
      have HEB := Lib.hid (show ¬ SG cb g wr.heap.size by
        have h1 := HCR.out.map.lt
        have h2 := HCR.out.lt
        rintro (h | h) <;> omega)
      generalize hW1 : (wr.alloc (.cells (vcells x) 54)) = W1 at y0 hV0 HZ HCZ ⊢
      generalize wr.heap.size = eb at hV0 HEB ⊢
      have hV := Lib.hid hV0
      clear hW1 y0 hV0 HXR HCR
      have HLZ := Lib.hid (HLW.out.kept HZ.out (fun k hk h => by have := HS4.out k h; omega))
      refine wp_region_3 (fun w1 => Ext W1 w1) [(0, 2), (1, 1), (3, 2), (4, 1), (2, 0), (5, 0)] (by kernel_rfl) (by kernel_rfl) (by kernel_rfl) (by kernel_rfl) ?_; intro l' hl'; simp only [List.map_cons, List.map_nil, List.getD_cons_zero, List.getD_cons_succ] at hl'; subst hl'
      have HY0 := Lib.hid (show Ext W1 W1.drew from (Kept.refl _ W1).drew)
      (repeat (first | ((apply w3_pure); (· go_simp); (· (intro w1; go_simp; try with_reducible rfl)); (intro K hK; go_simp; refine hK _ _ ?_; clear hK K)) | ((apply w3_skip); (· go_simp); (intro K hK; go_simp; refine hK _ _ ?_; clear hK K)) | ((apply w3_take); (· exact HY0.out); (· go_simp); (· (intro w1 hS; have d4 := Blk.ext hV.out hS; have d5 := Blk.cell d4; have d6 := d4.lt;  go_simp; try with_reducible rfl)); (intro K hK; go_simp; refine hK _ _ ?_; clear hK K)) | ((apply w3_pass); (· exact HY0.out); (· go_simp); (intro K hK; go_simp; refine hK _ _ ?_; clear hK K))))
      (refine w3_act (fun K hK => ?_); go_simp)
      refine (sisname_any x.name HVO.out.name _ (HLZ.out.ext HY0.out)).mono ?_
      rintro e w1 ⟨rfl, hx1⟩
      have HY1 := Lib.hid (HY0.out.trans hx1)
      clear hx1
      refine hK.out _ _ (fun _ => HY1.out) ?_
      clear hK K
      (repeat (first | ((apply w3_pure); (· go_simp); (· (intro w1; go_simp; try with_reducible rfl)); (intro K hK; go_simp; refine hK _ _ ?_; clear hK K)) | ((apply w3_skip); (· go_simp); (intro K hK; go_simp; refine hK _ _ ?_; clear hK K)) | ((apply w3_take); (· exact HY1.out); (· go_simp); (· (intro w1 hS; have d4 := Blk.ext hV.out hS; have d5 := Blk.cell d4; have d6 := d4.lt;  go_simp; try with_reducible rfl)); (intro K hK; go_simp; refine hK _ _ ?_; clear hK K)) | ((apply w3_pass); (· exact HY1.out); (· go_simp); (intro K hK; go_simp; refine hK _ _ ?_; clear hK K))))
      (refine w3_last (by kernel_rfl) (by kernel_rfl) (fun K hK => ?_); go_simp)
      have HXE := Lib.hid ((Kept.ext (S := SG cb g) HX0.out).trans (HZ.out.trans (Kept.ext HY1.out)))
      have HCE := Lib.hid (HCZ.out.ext HY1.out)
      cases hn : isName x.name
      · have HR := Lib.hid (show X = some ⟨6, x.name⟩ by rw [HX2.out, hn]; rfl)
        refine (must_any false _ _ _).mono ?_
        rintro e w8 ⟨he, rfl⟩
        have he := MustR.some he
        subst he
        show _ ∧ _
        refine ⟨rfl, ?_, HXE.out⟩
        rw [HR.out]
        exact ⟨rfl, _, _, HCE.out.map, HCE.out.blk⟩
      · have HX3 := Lib.hid (show X = ored (must (v == 0) 7 x.name) (ored (must (btw x.size 0 64 && span x) 2 x.name) Y) by rw [HX2.out, hn]; rfl)
        clear HX2 hn
        refine (must_any true _ _ _).mono ?_
        rintro e w8 ⟨he, rfl⟩
        have he := MustR.none he
        subst he
        refine hK.out _ _ ?_
        clear hK K
        (repeat (first | ((apply w3_pure); (· go_simp); (· (intro w1; go_simp; try with_reducible rfl)); (intro K hK; go_simp; refine hK _ _ ?_; clear hK K)) | ((apply w3_skip); (· go_simp); (intro K hK; go_simp; refine hK _ _ ?_; clear hK K)) | (refine w3_end (by kernel_rfl) (fun K hK => ?_); go_simp; refine hK.out _ _ ?_; clear hK K))); refine w3_nil ?_
        clear HXE HCE
        go_upto_region 5 with (fail)
        refine wp_region_3 (fun w2 => Ext w1 w2) [(0, 2), (1, 2), (2, 1), (5, 2), (6, 1), (3, 0), (4, 2), (7, 0)] (by kernel_rfl) (by kernel_rfl) (by kernel_rfl) (by kernel_rfl) ?_; intro l' hl'; simp only [List.map_cons, List.map_nil, List.getD_cons_zero, List.getD_cons_succ] at hl'; subst hl'
        have HZ0 := Lib.hid (show Ext w1 w1.drew from (Kept.refl _ w1).drew)
        (repeat (first | ((apply w3_pure); (· go_simp); (· (intro w1; go_simp; try with_reducible rfl)); (intro K hK; go_simp; refine hK _ _ ?_; clear hK K)) | ((apply w3_skip); (· go_simp); (intro K hK; go_simp; refine hK _ _ ?_; clear hK K)) | ((apply w3_take); (· exact HZ0.out); (· go_simp); (· (intro w1 hS; have d4 := Blk.ext hV.out (HY1.out.trans hS); have d5 := Blk.cell d4; have d6 := d4.lt;  go_simp; try with_reducible rfl)); (intro K hK; go_simp; refine hK _ _ ?_; clear hK K)) | ((apply w3_pass); (· exact HZ0.out); (· go_simp); (intro K hK; go_simp; refine hK _ _ ?_; clear hK K))))
        (refine w3_act (fun K hK => ?_); go_simp)
        refine (knows_any cb g κ E0 0 x.name _ (HCZ.out.ext (HY1.out.trans HZ0.out))).mono ?_
        rintro e w2 ⟨rfl, rfl⟩
        rw [← HV.out]
        refine hK.out _ _ (fun _ => HZ0.out) ?_
        clear hK K
        (repeat (first | ((apply w3_pure); (· go_simp); (· (intro w1; go_simp; try with_reducible rfl)); (intro K hK; go_simp; refine hK _ _ ?_; clear hK K)) | ((apply w3_skip); (· go_simp); (intro K hK; go_simp; refine hK _ _ ?_; clear hK K)) | ((apply w3_take); (· exact HZ0.out); (· go_simp); (· (intro w1 hS; have d4 := Blk.ext hV.out (HY1.out.trans hS); have d5 := Blk.cell d4; have d6 := d4.lt;  go_simp; try with_reducible rfl)); (intro K hK; go_simp; refine hK _ _ ?_; clear hK K)) | ((apply w3_pass); (· exact HZ0.out); (· go_simp); (intro K hK; go_simp; refine hK _ _ ?_; clear hK K))))
        (refine w3_last (by kernel_rfl) (by kernel_rfl) (fun K hK => ?_); go_simp)
        have HY2 := Lib.hid (HY1.out.trans HZ0.out)
        have HXE := Lib.hid ((Kept.ext (S := SG cb g) HX0.out).trans (HZ.out.trans (Kept.ext HY2.out)))
        have HCE := Lib.hid (HCZ.out.ext HY2.out)
        by_cases hv0 : v = 0
        · have qv : (v != 0) = false := by simp [hv0]
          have HX4 := Lib.hid (show X = ored (must (btw x.size 0 64 && span x) 2 x.name) Y by rw [HX3.out, hv0]; rfl)
          try rw [qv]
          try simp only [Bool.not_false]
          refine (must_any true _ _ _).mono ?_
          rintro e w8 ⟨he, rfl⟩
          have he := MustR.none he
          subst he
          refine hK.out _ _ ?_
          clear hK K
          (repeat (first | ((apply w3_pure); (· go_simp); (· (intro w1; go_simp; try with_reducible rfl)); (intro K hK; go_simp; refine hK _ _ ?_; clear hK K)) | ((apply w3_skip); (· go_simp); (intro K hK; go_simp; refine hK _ _ ?_; clear hK K)) | (refine w3_end (by kernel_rfl) (fun K hK => ?_); go_simp; refine hK.out _ _ ?_; clear hK K))); refine w3_nil ?_
          clear HXE HCE HX3
          have HV0 := Lib.hid (show knV (p.vars.take j) x.name = 0 by rw [← HKE.out, ← HV.out, hv0])
          clear qv hv0
          go_upto_region 6 with (fail)
          generalize hW2 : w1.drew = W2 at HY2 ⊢
          clear hW2
          cases hb : btw x.size 0 64
          · have HR := Lib.hid (show X = some ⟨2, x.name⟩ by rw [HX4.out, hb]; rfl)
            refine wp_region_3 (fun w2 => Ext W2 w2) [(0, 2), (1, 1), (7, 2), (8, 1), (2, 0), (3, 2), (4, 1), (5, 0), (6, 2), (9, 0)] (by kernel_rfl) (by kernel_rfl) (by kernel_rfl) (by kernel_rfl) ?_; intro l' hl'; simp only [List.map_cons, List.map_nil, List.getD_cons_zero, List.getD_cons_succ] at hl'; subst hl'
            have HU0 := Lib.hid (show Ext W2 W2.drew from (Kept.refl _ W2).drew)
            (repeat (first | ((apply w3_pure); (· go_simp); (· (intro w1; go_simp; try with_reducible rfl)); (intro K hK; go_simp; refine hK _ _ ?_; clear hK K)) | ((apply w3_skip); (· go_simp); (intro K hK; go_simp; refine hK _ _ ?_; clear hK K)) | ((apply w3_take); (· exact HU0.out); (· go_simp); (· (intro w1 hS; have d4 := Blk.ext hV.out (HY2.out.trans hS); have d5 := Blk.cell d4; have d6 := d4.lt; have d7 := Blk.has d4; have d8 := Blk.gets d4;  go_simp; try with_reducible rfl)); (intro K hK; go_simp; refine hK _ _ ?_; clear hK K)) | ((apply w3_pass); (· exact HU0.out); (· go_simp); (intro K hK; go_simp; refine hK _ _ ?_; clear hK K))))
            (refine w3_act (fun K hK => ?_); go_simp)
            refine (between_any _ _ _ _).mono ?_
            rintro e w2 ⟨rfl, rfl⟩
            rw [hb]
            refine hK.out _ _ (fun _ => HU0.out) ?_
            clear hK K
            (repeat (first | ((apply w3_pure); (· go_simp); (· (intro w1; go_simp; try with_reducible rfl)); (intro K hK; go_simp; refine hK _ _ ?_; clear hK K)) | ((apply w3_skip); (· go_simp); (intro K hK; go_simp; refine hK _ _ ?_; clear hK K)) | ((apply w3_take); (· exact HU0.out); (· go_simp); (· (intro w1 hS; have d4 := Blk.ext hV.out (HY2.out.trans hS); have d5 := Blk.cell d4; have d6 := d4.lt; have d7 := Blk.has d4; have d8 := Blk.gets d4;  go_simp; try with_reducible rfl)); (intro K hK; go_simp; refine hK _ _ ?_; clear hK K)) | ((apply w3_pass); (· exact HU0.out); (· go_simp); (intro K hK; go_simp; refine hK _ _ ?_; clear hK K))))
            (refine w3_act (fun K hK => ?_); go_simp)
            refine hK.out _ _ (fun h => h) ?_
            clear hK K
            (repeat (first | ((apply w3_pure); (· go_simp); (· (intro w1; go_simp; try with_reducible rfl)); (intro K hK; go_simp; refine hK _ _ ?_; clear hK K)) | ((apply w3_skip); (· go_simp); (intro K hK; go_simp; refine hK _ _ ?_; clear hK K)) | ((apply w3_take); (· exact HU0.out); (· go_simp); (· (intro w1 hS; have d4 := Blk.ext hV.out (HY2.out.trans hS); have d5 := Blk.cell d4; have d6 := d4.lt; have d7 := Blk.has d4; have d8 := Blk.gets d4;  go_simp; try with_reducible rfl)); (intro K hK; go_simp; refine hK _ _ ?_; clear hK K)) | ((apply w3_pass); (· exact HU0.out); (· go_simp); (intro K hK; go_simp; refine hK _ _ ?_; clear hK K))))
            (refine w3_last (by kernel_rfl) (by kernel_rfl) (fun K hK => ?_); go_simp)
            have HXE := Lib.hid ((Kept.ext (S := SG cb g) HX0.out).trans (HZ.out.trans (Kept.ext (HY2.out.trans HU0.out))))
            have HCE := Lib.hid (HCZ.out.ext (HY2.out.trans HU0.out))
            refine (must_any false _ _ _).mono ?_
            rintro e w8 ⟨he, rfl⟩
            have he := MustR.some he
            subst he
            show _ ∧ _
            refine ⟨rfl, ?_, HXE.out⟩
            rw [HR.out]
            exact ⟨rfl, _, _, HCE.out.map, HCE.out.blk⟩
          · refine wp_region_3 (fun w2 => Ext W2 w2) [(0, 2), (1, 1), (7, 2), (8, 1), (2, 0), (3, 2), (4, 1), (5, 0), (6, 2), (9, 0)] (by kernel_rfl) (by kernel_rfl) (by kernel_rfl) (by kernel_rfl) ?_; intro l' hl'; simp only [List.map_cons, List.map_nil, List.getD_cons_zero, List.getD_cons_succ] at hl'; subst hl'
            have HU0 := Lib.hid (show Ext W2 W2.drew from (Kept.refl _ W2).drew)
            (repeat (first | ((apply w3_pure); (· go_simp); (· (intro w1; go_simp; try with_reducible rfl)); (intro K hK; go_simp; refine hK _ _ ?_; clear hK K)) | ((apply w3_skip); (· go_simp); (intro K hK; go_simp; refine hK _ _ ?_; clear hK K)) | ((apply w3_take); (· exact HU0.out); (· go_simp); (· (intro w1 hS; have d4 := Blk.ext hV.out (HY2.out.trans hS); have d5 := Blk.cell d4; have d6 := d4.lt; have d7 := Blk.has d4; have d8 := Blk.gets d4;  go_simp; try with_reducible rfl)); (intro K hK; go_simp; refine hK _ _ ?_; clear hK K)) | ((apply w3_pass); (· exact HU0.out); (· go_simp); (intro K hK; go_simp; refine hK _ _ ?_; clear hK K))))
            (refine w3_act (fun K hK => ?_); go_simp)
            refine (between_any _ _ _ _).mono ?_
            rintro e w2 ⟨rfl, rfl⟩
            rw [hb]
            refine hK.out _ _ (fun _ => HU0.out) ?_
            clear hK K
            (repeat (first | ((apply w3_pure); (· go_simp); (· (intro w1; go_simp; try with_reducible rfl)); (intro K hK; go_simp; refine hK _ _ ?_; clear hK K)) | ((apply w3_skip); (· go_simp); (intro K hK; go_simp; refine hK _ _ ?_; clear hK K)) | ((apply w3_take); (· exact HU0.out); (· go_simp); (· (intro w1 hS; have d4 := Blk.ext hV.out (HY2.out.trans hS); have d5 := Blk.cell d4; have d6 := d4.lt; have d7 := Blk.has d4; have d8 := Blk.gets d4;  go_simp; try with_reducible rfl)); (intro K hK; go_simp; refine hK _ _ ?_; clear hK K)) | ((apply w3_pass); (· exact HU0.out); (· go_simp); (intro K hK; go_simp; refine hK _ _ ?_; clear hK K))))
            (refine w3_act (fun K hK => ?_); go_simp)
            refine (span_any x _).mono ?_
            rintro e w2 ⟨rfl, hx2⟩
            have HU1 := Lib.hid (HU0.out.trans hx2)
            clear hx2
            refine hK.out _ _ (fun _ => HU1.out) ?_
            clear hK K
            (repeat (first | ((apply w3_pure); (· go_simp); (· (intro w1; go_simp; try with_reducible rfl)); (intro K hK; go_simp; refine hK _ _ ?_; clear hK K)) | ((apply w3_skip); (· go_simp); (intro K hK; go_simp; refine hK _ _ ?_; clear hK K)) | ((apply w3_take); (· exact HU1.out); (· go_simp); (· (intro w1 hS; have d4 := Blk.ext hV.out (HY2.out.trans hS); have d5 := Blk.cell d4; have d6 := d4.lt; have d7 := Blk.has d4; have d8 := Blk.gets d4;  go_simp; try with_reducible rfl)); (intro K hK; go_simp; refine hK _ _ ?_; clear hK K)) | ((apply w3_pass); (· exact HU1.out); (· go_simp); (intro K hK; go_simp; refine hK _ _ ?_; clear hK K))))
            (refine w3_last (by kernel_rfl) (by kernel_rfl) (fun K hK => ?_); go_simp)
            have HY3 := Lib.hid (HY2.out.trans HU1.out)
            have HXE := Lib.hid ((Kept.ext (S := SG cb g) HX0.out).trans (HZ.out.trans (Kept.ext HY3.out)))
            have HCE := Lib.hid (HCZ.out.ext HY3.out)
            cases hsp : span x
            · have HR := Lib.hid (show X = some ⟨2, x.name⟩ by rw [HX4.out, hb, hsp]; rfl)
              refine (must_any false _ _ _).mono ?_
              rintro e w8 ⟨he, rfl⟩
              have he := MustR.some he
              subst he
              show _ ∧ _
              refine ⟨rfl, ?_, HXE.out⟩
              rw [HR.out]
              exact ⟨rfl, _, _, HCE.out.map, HCE.out.blk⟩
            · have HX5 := Lib.hid (show X = Y by rw [HX4.out, hb, hsp]; rfl)
              refine (must_any true _ _ _).mono ?_
              rintro e w8 ⟨he, rfl⟩
              have he := MustR.none he
              subst he
              refine hK.out _ _ ?_
              clear hK K
              (repeat (first | ((apply w3_pure); (· go_simp); (· (intro w1; go_simp; try with_reducible rfl)); (intro K hK; go_simp; refine hK _ _ ?_; clear hK K)) | ((apply w3_skip); (· go_simp); (intro K hK; go_simp; refine hK _ _ ?_; clear hK K)) | (refine w3_end (by kernel_rfl) (fun K hK => ?_); go_simp; refine hK.out _ _ ?_; clear hK K))); refine w3_nil ?_
              clear HXE HX4 hb hsp
              go_upto_region 7 with (fail)
              have HCQ := HCE
              clear HCE
              obtain ⟨w3, hrun, hS', hk'⟩ := SMap.put (P := Tryd.prog) (HCQ.out.map.ext (show Ext w2 w2.drew from (Kept.refl _ w2).drew)) Tryd.underlying74 Tryd.underlying9 x.name (.int .i64 0)
              have HS' := Lib.hid hS'
              have HK' := Lib.hid ((Kept.ext (S := (· = g)) (show Ext w2 w2.drew from (Kept.refl _ w2).drew)).trans hk')
              have HNE := Lib.hid HCQ.out.ne
              have HEG := Lib.hid (show ¬ eb = g from fun e => HEB.out (Or.inl e))
              clear hS' hk'
              refine wp_region_3 (fun w4 => Kept (· = g) w2 w4) [(0, 2), (1, 2), (2, 2), (3, 1), (4, 2), (5, 1), (6, 0)] (by kernel_rfl) (by kernel_rfl) (by kernel_rfl) (by kernel_rfl) ?_; intro l' hl'; simp only [List.map_cons, List.map_nil, List.getD_cons_zero, List.getD_cons_succ] at hl'; subst hl'
              have HT0 := Lib.hid (show Kept (· = g) w2 w2.drew from (Kept.refl _ w2).drew)
              (repeat (first | ((apply w3_pure); (· go_simp); (· (intro w1; go_simp; try with_reducible rfl)); (intro K hK; go_simp; refine hK _ _ ?_; clear hK K)) | ((apply w3_skip); (· go_simp); (intro K hK; go_simp; refine hK _ _ ?_; clear hK K)) | ((apply w3_take); (· exact HT0.out); (· go_simp); (· (intro w1 hS; have c4 := Blk.kept HCQ.out.blk hS HNE.out; have c5 := Blk.cell c4; have c6 := c4.lt; have d4 := Blk.kept (Blk.ext hV.out HY3.out) hS HEG.out; have d5 := Blk.cell d4; have d6 := d4.lt;  go_simp; try with_reducible rfl)); (intro K hK; go_simp; refine hK _ _ ?_; clear hK K)) | ((apply w3_pass); (· exact HT0.out); (· go_simp); (intro K hK; go_simp; refine hK _ _ ?_; clear hK K))))
              (refine w3_act (fun K hK => ?_); go_simp)
              refine hK.out _ _ (fun _ => HK'.out) ?_
              clear hK K
              (repeat (first | ((apply w3_pure); (· go_simp); (· (intro w1; go_simp; try with_reducible rfl)); (intro K hK; go_simp; refine hK _ _ ?_; clear hK K)) | ((apply w3_skip); (· go_simp); (intro K hK; go_simp; refine hK _ _ ?_; clear hK K)) | (refine w3_end (by kernel_rfl) (fun K hK => ?_); go_simp; refine hK.out _ _ ?_; clear hK K))); refine w3_nil ?_
              clear hrun
              have hcV := Blk.cell (Blk.kept (Blk.ext hV.out HY3.out) HK'.out HEG.out)
              have hlV := (Blk.kept (Blk.ext hV.out HY3.out) HK'.out HEG.out).lt
              have HSN := Lib.hid (knV_snoc (p.vars.take j) x HV0.out)
              by_cases hz : x.size > 0
              · go_upto_region 9 with (fail)
                clear hcV hlV
                have HZS := Lib.hid hz
                clear hz
                obtain ⟨w5, hrun, hS', hk'⟩ := SMap.put (P := Tryd.prog) (HS'.out.ext (show Ext w3 w3.drew from (Kept.refl _ w3).drew)) Tryd.underlying74 Tryd.underlying9 x.name (.int .i64 1)
                have HS2 := Lib.hid hS'
                have HK2 := Lib.hid ((Kept.ext (S := (· = g)) (show Ext w3 w3.drew from (Kept.refl _ w3).drew)).trans hk')
                clear hS' hk'
                refine wp_region_3 (fun w4 => Kept (· = g) w3 w4) [(0, 2), (1, 2), (2, 2), (3, 1), (4, 2), (5, 1), (6, 0)] (by kernel_rfl) (by kernel_rfl) (by kernel_rfl) (by kernel_rfl) ?_; intro l' hl'; simp only [List.map_cons, List.map_nil, List.getD_cons_zero, List.getD_cons_succ] at hl'; subst hl'
                have HT0 := Lib.hid (show Kept (· = g) w3 w3.drew from (Kept.refl _ w3).drew)
                (repeat (first | ((apply w3_pure); (· go_simp); (· (intro w1; go_simp; try with_reducible rfl)); (intro K hK; go_simp; refine hK _ _ ?_; clear hK K)) | ((apply w3_skip); (· go_simp); (intro K hK; go_simp; refine hK _ _ ?_; clear hK K)) | ((apply w3_take); (· exact HT0.out); (· go_simp); (· (intro w1 hS; have c4 := Blk.kept HCQ.out.blk (HK'.out.trans hS) HNE.out; have c5 := Blk.cell c4; have c6 := c4.lt; have d4 := Blk.kept (Blk.ext hV.out HY3.out) (HK'.out.trans hS) HEG.out; have d5 := Blk.cell d4; have d6 := d4.lt;  go_simp; try with_reducible rfl)); (intro K hK; go_simp; refine hK _ _ ?_; clear hK K)) | ((apply w3_pass); (· exact HT0.out); (· go_simp); (intro K hK; go_simp; refine hK _ _ ?_; clear hK K))))
                (refine w3_act (fun K hK => ?_); go_simp)
                refine hK.out _ _ (fun _ => HK2.out) ?_
                clear hK K
                (repeat (first | ((apply w3_pure); (· go_simp); (· (intro w1; go_simp; try with_reducible rfl)); (intro K hK; go_simp; refine hK _ _ ?_; clear hK K)) | ((apply w3_skip); (· go_simp); (intro K hK; go_simp; refine hK _ _ ?_; clear hK K)) | (refine w3_end (by kernel_rfl) (fun K hK => ?_); go_simp; refine hK.out _ _ ?_; clear hK K))); refine w3_nil ?_
                clear hrun
                go_wp2_with fail
                exact ⟨⟨j + 1, hlt, by go_num, by rw [HTK.out, ← HYE.out, HX5.out], ⟨Blk.kept HCQ.out.blk (HK'.out.trans HK2.out) HNE.out, HS2.out.cong (fun t => by
                  rw [HTK.out, ← HSN.out t, if_pos HZS.out, HKE.out]
                  by_cases e : t = x.name
                  · simp only [if_pos e]
                  · simp only [if_neg e])⟩, HZ.out.trans ((Kept.ext HY3.out).trans ((HK'.out.trans HK2.out).mono (fun _ _ h => Or.inl h)))⟩, by simp only [intOf]; omega⟩
              · go_wp2_with fail
                exact ⟨⟨j + 1, hlt, by go_num, by rw [HTK.out, ← HYE.out, HX5.out], ⟨Blk.kept HCQ.out.blk HK'.out HNE.out, HS'.out.cong (fun t => by
                  rw [HTK.out, ← HSN.out t, if_neg (show ¬ 0 < x.size from hz), HKE.out])⟩, HZ.out.trans ((Kept.ext HY3.out).trans (HK'.out.mono (fun _ _ h => Or.inl h)))⟩, by simp only [intOf]; omega⟩
        · have qv : (v != 0) = true := by simp [hv0]
          have qn : (v == 0) = false := by simp [hv0]
          have HR := Lib.hid (show X = some ⟨7, x.name⟩ by rw [HX3.out, qn]; rfl)
          try rw [qv]
          try simp only [Bool.not_true]
          refine (must_any false _ _ _).mono ?_
          rintro e w8 ⟨he, rfl⟩
          have he := MustR.some he
          subst he
          show _ ∧ _
          refine ⟨rfl, ?_, HXE.out⟩
          rw [HR.out]
          exact ⟨rfl, _, _, HCE.out.map, HCE.out.blk⟩
    · obtain rfl : j = n := by omega
      have HXM := Lib.hid (show X = must (decide (cells p.vars ≤ 64)) 8 sVar by
        rw [← HACC.out, HN.out, List.drop_length]; rfl)
      have HCL := Lib.hid (show Ck wr cb g (knV p.vars) E0 0 from by have h := HCR.out; rwa [HN.out, List.take_length] at h)
      have hgP := Blk.gets (Blk.kept hB0.out HXR.out HPB.out)
      have hhP := Blk.has (Blk.kept hB0.out HXR.out HPB.out)
      clear HACC HCR
      go_wp2_with fail
      refine (scells_any ⟨cn, cse, cst, ⟨A, j, cc⟩, cs, ct, cpa, cpl, csi, cq, cpy⟩ p N _ (Nat.le_trans HNW.out HXR.out.size) (HPA.out.kept HXR.out HNW.out HS4.out)).mono ?_
      rintro e w1 ⟨rfl, hx1⟩
      have HXE := Lib.hid ((Kept.ext (S := SG cb g) HX0.out).trans (HXR.out.trans (Kept.ext hx1)))
      have HCE := Lib.hid (HCL.out.ext hx1)
      clear hgP hhP hcP hlP hx1
      by_cases h64 : cells p.vars ≤ 64
      · have HR := Lib.hid (show X = none by rw [HXM.out, decide_eq_true h64]; rfl)
        go_wp2_with fail
        refine (must_any true _ _ _).mono ?_
        rintro e w2 ⟨he, rfl⟩
        have he := MustR.none he
        subst he
        go_wp2_with fail
        go_end0
        rw [HR.out]
        exact ⟨⟨rfl, HCE.out⟩, HXE.out⟩
      · have HR := Lib.hid (show X = some ⟨8, sVar⟩ by rw [HXM.out, decide_eq_false h64]; rfl)
        go_wp2_with fail
        rw [decide_eq_false (show ¬ cells p.vars ≤ 64 by omega)]
        refine (must_any false _ _ _).mono ?_
        rintro e w8 ⟨he, rfl⟩
        have he := MustR.some he
        subst he
        show _ ∧ _
        refine ⟨rfl, ?_, HXE.out⟩
        rw [HR.out]
        exact ⟨rfl, _, _, HCE.out.map, HCE.out.blk⟩
end Go.Proofs.YtfamkemdgbnegaaDoor

/- Sorts: the checker looks at play's parameters. -/
namespace Go.Proofs.YtfamkemdgbnegaaDoor
open Go.RowKit So
/-- a map of names that are ahead -/
def aheadF (l : List Vr) : ByteArray → Option Value := fun t => if l.any (fun u => decide (u.name = t)) = true then some (.bool true) else none
theorem aheadF_snoc (l : List Vr) (x : Vr) : ∀ t, (fun t => if t = x.name then some (.bool true) else aheadF l t) t = aheadF (l ++ [x]) t := by
  intro t
  unfold aheadF
  rw [List.any_append]
  by_cases h : t = x.name
  · subst h; simp
  · have : ¬ x.name = t := fun e => h e.symm
    have h2 : decide (x.name = t) = false := decide_eq_false this
    simp only [List.any_cons, List.any_nil, h2, Bool.or_false]
    rw [if_neg h]
theorem aheadF_get (l : List Vr) (s : Str) : (aheadF l s).getD (.bool false) = .bool (l.any (fun u => decide (u.name = s))) := by
  unfold aheadF
  cases h : l.any (fun u => decide (u.name = s)) <;> rfl
theorem zero_boolT (w : World) : (zeroValue 4).run Tryd.prog w = .ok (.bool false) w := by
  first | kernel_rfl | rfl
theorem alook {w : World} {mb : Nat} {l : List Vr} (h : SMap w mb (aheadF l)) (s : Str) : (Instr.lookup 103 (.map (some mb)) (.string s) false).run Tryd.prog w = .ok (.bool (l.any (fun u => decide (u.name = s)))) w := by
  have hlk := SMap.look (P := Tryd.prog) h Tryd.underlying103 Tryd.underlying9 (z := .bool false) zero_boolT s
  rw [hlk, aheadF_get]
theorem Ck.kept {S : Nat → Prop} {w w' : World} {cb g : Nat} {κ : Kn} {part : Str} {fors : Nat} (h : Ck w cb g κ part fors) (hk : Kept S w w') (h1 : ¬ S cb) (h2 : ¬ S g) : Ck w' cb g κ part fors := ⟨Blk.kept h.blk hk h1, h.map.kept hk h2⟩
set_option maxRecDepth 100000 in
set_option maxHeartbeats 1500000 in
theorem pars_any (cb g : Nat) (κ : Kn) (c : Pc) (p : Pr) (N : Nat) (hN4 : 4 < N) (w : World) (hN : N ≤ w.heap.size) (h : PAt w N c p) (hL : LaidAt w) (hC : Ck w cb g κ E0 0) :
    Calls Tryd.prog 38 #[.pointer (some ⟨cb, 0, none⟩), .agg c.cells] w fun e w' => BlkR cb g κ E0 0 (ored (must (decide (p.params.length ≤ 4)) 8 sPlay) (ored (chkPars κ [] p.params) (must (decide (menu p.params ≤ 512)) 8 sPlay))) e w' ∧ Ext w w' := by
  obtain ⟨X, hX⟩ : ∃ X, X = ored (must (decide (p.params.length ≤ 4)) 8 sPlay) (ored (chkPars κ [] p.params) (must (decide (menu p.params ≤ 512)) 8 sPlay)) := ⟨_, rfl⟩
  rw [← hX]
  have HX := Lib.hid hX
  clear hX
  obtain ⟨cn, cse, cst, cv, cs, ct, ⟨A, n, cc⟩, cpl, csi, cq, cpy⟩ := c
  have hx0 := (Kept.refl (fun _ => False) w).alloc (.cells (Pc.cells ⟨cn, cse, cst, cv, cs, ct, ⟨A, n, cc⟩, cpl, csi, cq, cpy⟩) 52)
  have hB0 := Blk.new w 52 (Pc.cells ⟨cn, cse, cst, cv, cs, ct, ⟨A, n, cc⟩, cpl, csi, cq, cpy⟩)
  have HPA := Lib.hid (h.ext hx0 hN)
  have HNW := Lib.hid (Nat.le_trans hN hx0.size)
  obtain ⟨hn, hf, hok, b, off, hA, hE⟩ := h.params.ext hx0
  have hm := hf.max (by omega)
  have HN := Lib.hid (show n = p.params.length from hn)
  have HA := Lib.hid hA
  have HE := Lib.hid hE
  have HOK := Lib.hid hok
  have HLW := Lib.hid (hL.ext hx0)
  have HCX := Lib.hid hC
  clear hn hA hE hok hf h hL hC
  have hmm := @run_makeMap Tryd.prog
  go_enter Tryd.func38, Tryd.ntmps38
  go_upto_region 1 with (fail)
  generalize hW : (w.alloc (.cells (Pc.cells ⟨cn, cse, cst, cv, cs, ct, ⟨A, n, cc⟩, cpl, csi, cq, cpy⟩) 52)) = W at hx0 hB0 HE HLW HPA HNW ⊢
  clear hW
  generalize w.heap.size = pb at hB0 ⊢
  have hB0 := Lib.hid hB0
  have HX0 := Lib.hid hx0
  have hcP := Blk.cell hB0.out
  have hlP := hB0.out.lt
  clear hx0
  by_cases h4 : (n : Int) ≤ 4
  · have HX1 := Lib.hid (show X = ored (chkPars κ [] p.params) (must (decide (menu p.params ≤ 512)) 8 sPlay) by
      rw [HX.out, decide_eq_true (show p.params.length ≤ 4 by have := HN.out; omega)]; rfl)
    go_wp2_with fail
    refine (must_any true _ _ _).mono ?_
    rintro e w8 ⟨he, rfl⟩
    have he := MustR.none he
    subst he
    clear h4 HX
    go_upto_region 3 with (fail)
    have hM := SMap.made W
    have y0 := (Kept.refl (fun _ => False) W).alloc (.map #[] 0)
    generalize hW1 : (W.alloc (.map #[] 0)) = W1 at hM y0 ⊢
    clear hW1
    have HM0 := Lib.hid (hM.cong (f' := aheadF []) (fun t => rfl))
    have HMB := Lib.hid (show N ≤ W.heap.size ∧ w.heap.size ≤ W.heap.size from ⟨HNW.out, HX0.out.size⟩)
    have HPB := Lib.hid (show ¬ pb = W.heap.size from fun e => by have := hB0.out.lt; omega)
    generalize W.heap.size = mb at HM0 HMB HPB ⊢
    have HY0 := Lib.hid y0
    clear hM y0 hcP hlP
    have hcP := Blk.cell (Blk.ext hB0.out HY0.out)
    have hlP := (Blk.ext hB0.out HY0.out).lt
    go_wp2_with fail
    go_loopw [16] (fun t16 wr => ∃ (j : Nat), j ≤ n ∧ t16 = .int .i64 j ∧ ored (chkPars κ (p.params.take j) (p.params.drop j)) (must (decide (menu p.params ≤ 512)) 8 sPlay) = X ∧ SMap wr mb (aheadF (p.params.take j)) ∧ Kept (· = mb) W1 wr) (fun t16 _ => n - (intOf t16).toNat)
    case atStart => exact ⟨0, Nat.zero_le _, rfl, HX1.out.symm, HM0.out, Kept.refl _ _⟩
    case round =>
      obtain ⟨j, hj, rfl, hacc, hmp, hx⟩ := hrel
      have HACC := Lib.hid hacc
      have HXR := Lib.hid hx
      have HMR := Lib.hid hmp
      have HXW := Lib.hid (show Ext w wr from (HX0.out.trans HY0.out).trans' hx (fun i hi e => by have := HMB.out.2; omega))
      clear hacc hx hmp hcP hlP
      have hcP := Blk.cell (Blk.kept (Blk.ext hB0.out HY0.out) HXR.out HPB.out)
      have hlP := (Blk.kept (Blk.ext hB0.out HY0.out) HXR.out HPB.out).lt
      by_cases hlt : j < n
      · have hjl : j < p.params.length := by have := HN.out; omega
        have hltI : (j : Int) < n := by omega
        obtain rfl := HA.out (by omega)
        have hrow0 := (HE.out (by omega))
        have hrow := (hrow0.2.ext HY0.out).kept HXR.out (fun q => by have := HMB.out; have := hrow0.1; omega)
        obtain ⟨hh', hg'⟩ := vr_at hrow j hjl
        have hbw := hrow.lt
        obtain ⟨x, hxe⟩ : ∃ x, x = p.params[j] := ⟨_, rfl⟩
        have HVO := Lib.hid (HOK.out x (by rw [hxe]; exact List.getElem_mem hjl))
        have hdrop : p.params.drop j = x :: p.params.drop (j + 1) := by rw [hxe]; exact List.drop_eq_getElem_cons hjl
        have htake : p.params.take (j + 1) = p.params.take j ++ [x] := by rw [hxe, List.take_add_one, List.getElem?_eq_getElem hjl]; rfl
        rw [← hxe] at hg'
        have hacc := HACC.out
        rw [hdrop] at hacc
        have HTK := Lib.hid htake
        obtain ⟨Y, hY⟩ : ∃ Y, Y = ored (chkPars κ (p.params.take j ++ [x]) (p.params.drop (j + 1))) (must (decide (menu p.params ≤ 512)) 8 sPlay) := ⟨_, rfl⟩
        have HYE := Lib.hid hY
        obtain ⟨v, hv⟩ : ∃ v, v = κ x.name := ⟨_, rfl⟩
        have HV := Lib.hid hv
        obtain ⟨ah, hah⟩ : ∃ ah, ah = (p.params.take j).any (fun u => decide (u.name = x.name)) := ⟨_, rfl⟩
        have HAH := Lib.hid hah
        have HX2 : Hid (X = ored (must (isName x.name) 6 x.name) (ored (must (v == 0 && !ah) 7 x.name) (ored (must (x.size == 0) 3 x.name) (ored (must (span x) 2 x.name) Y)))) := Lib.hid (by
          rw [← hacc, hY, hv, hah, chkPars, ored_assoc, ored_assoc, ored_assoc, ored_assoc])
        clear hrow hrow0 hxe hacc hdrop htake hY hv hah HACC
        have y1 := (Kept.refl (fun _ => False) wr).alloc (.cells (vcells x) 54)
        have hV0 := Blk.new wr 54 (vcells x)
        go_upto_region 6 with (fail)
        clear hh' hg' hbw hcP hlP
        have HZ := Lib.hid (HXR.out.trans (Kept.ext y1))
        have HZW := Lib.hid (HXW.out.trans y1)
        have HMZ := Lib.hid (HMR.out.ext y1)
        have HEB := Lib.hid (show ¬ wr.heap.size = mb by
          have h1 := HMR.out.lt
          omega)
        generalize hW2 : (wr.alloc (.cells (vcells x) 54)) = W2 at y1 hV0 HZ HZW HMZ ⊢
        generalize wr.heap.size = eb at hV0 HEB ⊢
        have hV := Lib.hid hV0
        clear hW2 y1 hV0 HXR HMR HXW
        have HLZ := Lib.hid ((HLW.out.ext HY0.out).kept HZ.out (fun k hk h => by have := HMB.out; omega))
        refine wp_region_3 (fun w1 => Ext W2 w1) [(0, 2), (1, 1), (3, 2), (4, 1), (2, 0), (5, 0)] (by kernel_rfl) (by kernel_rfl) (by kernel_rfl) (by kernel_rfl) ?_; intro l' hl'; simp only [List.map_cons, List.map_nil, List.getD_cons_zero, List.getD_cons_succ] at hl'; subst hl'
        have HY1 := Lib.hid (show Ext W2 W2.drew from (Kept.refl _ W2).drew)
        (repeat (first | ((apply w3_pure); (· go_simp); (· (intro w1; go_simp; try with_reducible rfl)); (intro K hK; go_simp; refine hK _ _ ?_; clear hK K)) | ((apply w3_skip); (· go_simp); (intro K hK; go_simp; refine hK _ _ ?_; clear hK K)) | ((apply w3_take); (· exact HY1.out); (· go_simp); (· (intro w1 hS; have d4 := Blk.ext hV.out hS; have d5 := Blk.cell d4; have d6 := d4.lt;  go_simp; try with_reducible rfl)); (intro K hK; go_simp; refine hK _ _ ?_; clear hK K)) | ((apply w3_pass); (· exact HY1.out); (· go_simp); (intro K hK; go_simp; refine hK _ _ ?_; clear hK K))))
        (refine w3_act (fun K hK => ?_); go_simp)
        refine (sisname_any x.name HVO.out.name _ (HLZ.out.ext HY1.out)).mono ?_
        rintro e w1 ⟨rfl, hx1⟩
        have HY2 := Lib.hid (HY1.out.trans hx1)
        clear hx1
        refine hK.out _ _ (fun _ => HY2.out) ?_
        clear hK K
        (repeat (first | ((apply w3_pure); (· go_simp); (· (intro w1; go_simp; try with_reducible rfl)); (intro K hK; go_simp; refine hK _ _ ?_; clear hK K)) | ((apply w3_skip); (· go_simp); (intro K hK; go_simp; refine hK _ _ ?_; clear hK K)) | ((apply w3_take); (· exact HY2.out); (· go_simp); (· (intro w1 hS; have d4 := Blk.ext hV.out hS; have d5 := Blk.cell d4; have d6 := d4.lt;  go_simp; try with_reducible rfl)); (intro K hK; go_simp; refine hK _ _ ?_; clear hK K)) | ((apply w3_pass); (· exact HY2.out); (· go_simp); (intro K hK; go_simp; refine hK _ _ ?_; clear hK K))))
        (refine w3_last (by kernel_rfl) (by kernel_rfl) (fun K hK => ?_); go_simp)
        have HXE := Lib.hid (HZW.out.trans HY2.out)
        cases hn : isName x.name
        · have HR := Lib.hid (show X = some ⟨6, x.name⟩ by rw [HX2.out, hn]; rfl)
          refine (must_any false _ _ _).mono ?_
          rintro e w8 ⟨he, rfl⟩
          have he := MustR.some he
          subst he
          show _ ∧ _
          refine ⟨rfl, ?_, HXE.out⟩
          rw [HR.out]
          exact ⟨rfl, _, _, (HCX.out.ext HXE.out).map, (HCX.out.ext HXE.out).blk⟩
        · have HX3 := Lib.hid (show X = ored (must (v == 0 && !ah) 7 x.name) (ored (must (x.size == 0) 3 x.name) (ored (must (span x) 2 x.name) Y)) by rw [HX2.out, hn]; rfl)
          clear HX2 hn
          refine (must_any true _ _ _).mono ?_
          rintro e w8 ⟨he, rfl⟩
          have he := MustR.none he
          subst he
          refine hK.out _ _ ?_
          clear hK K
          (repeat (first | ((apply w3_pure); (· go_simp); (· (intro w1; go_simp; try with_reducible rfl)); (intro K hK; go_simp; refine hK _ _ ?_; clear hK K)) | ((apply w3_skip); (· go_simp); (intro K hK; go_simp; refine hK _ _ ?_; clear hK K)) | (refine w3_end (by kernel_rfl) (fun K hK => ?_); go_simp; refine hK.out _ _ ?_; clear hK K))); refine w3_nil ?_
          clear HXE
          go_upto_region 7 with (fail)
          have HLK := Lib.hid (show ∀ w', Ext w1 w' → (Instr.lookup 103 (.map (some mb)) (.string x.name) false).run Tryd.prog w' = .ok (.bool ah) w' from fun w' hk => by rw [alook (HMZ.out.ext (HY2.out.trans hk)), HAH.out])
          by_cases hv0 : v = 0
          · have qv : (v != 0) = false := by simp [hv0]
            have HX4 := Lib.hid (show X = ored (must (!ah) 7 x.name) (ored (must (x.size == 0) 3 x.name) (ored (must (span x) 2 x.name) Y)) by rw [HX3.out, hv0]; rfl)
            refine wp_region_3 (fun w2 => Ext w1 w2) [(0, 2), (1, 2), (2, 1), (12, 2), (13, 1), (3, 0), (4, 2), (5, 2), (6, 2), (7, 2), (8, 1), (9, 1), (10, 2), (11, 2), (14, 0)] (by kernel_rfl) (by kernel_rfl) (by kernel_rfl) (by kernel_rfl) ?_; intro l' hl'; simp only [List.map_cons, List.map_nil, List.getD_cons_zero, List.getD_cons_succ] at hl'; subst hl'
            have HZ0 := Lib.hid (show Ext w1 w1.drew from (Kept.refl _ w1).drew)
            (repeat (first | ((apply w3_pure); (· go_simp); (· (intro w1; go_simp; try with_reducible rfl)); (intro K hK; go_simp; refine hK _ _ ?_; clear hK K)) | ((apply w3_skip); (· go_simp); (intro K hK; go_simp; refine hK _ _ ?_; clear hK K)) | ((apply w3_take); (· exact HZ0.out); (· go_simp); (· (intro w1 hS; have d4 := Blk.ext hV.out (HY2.out.trans hS); have d5 := Blk.cell d4; have d6 := d4.lt; have d7 := HLK.out _ hS;  go_simp; try with_reducible rfl)); (intro K hK; go_simp; refine hK _ _ ?_; clear hK K)) | ((apply w3_pass); (· exact HZ0.out); (· go_simp); (intro K hK; go_simp; refine hK _ _ ?_; clear hK K))))
            (refine w3_act (fun K hK => ?_); go_simp)
            refine (knows_any cb g κ E0 0 x.name _ (HCX.out.ext (HZW.out.trans (HY2.out.trans HZ0.out)))).mono ?_
            rintro e w2 ⟨rfl, rfl⟩
            rw [← HV.out, qv]
            refine hK.out _ _ (fun _ => HZ0.out) ?_
            clear hK K
            (repeat (first | ((apply w3_pure); (· go_simp); (· (intro w1; go_simp; try with_reducible rfl)); (intro K hK; go_simp; refine hK _ _ ?_; clear hK K)) | ((apply w3_skip); (· go_simp); (intro K hK; go_simp; refine hK _ _ ?_; clear hK K)) | ((apply w3_take); (· exact HZ0.out); (· go_simp); (· (intro w1 hS; have d4 := Blk.ext hV.out (HY2.out.trans hS); have d5 := Blk.cell d4; have d6 := d4.lt; have d7 := HLK.out _ hS;  go_simp; try with_reducible rfl)); (intro K hK; go_simp; refine hK _ _ ?_; clear hK K)) | ((apply w3_pass); (· exact HZ0.out); (· go_simp); (intro K hK; go_simp; refine hK _ _ ?_; clear hK K))))
            (refine w3_last (by kernel_rfl) (by kernel_rfl) (fun K hK => ?_); go_simp)
            have HY3 := Lib.hid (HY2.out.trans HZ0.out)
            have HXE := Lib.hid (HZW.out.trans HY3.out)
            cases ah
            · have HX5 := Lib.hid (show X = ored (must (x.size == 0) 3 x.name) (ored (must (span x) 2 x.name) Y) from HX4.out)
              try simp only [Bool.not_false]
              refine (must_any true _ _ _).mono ?_
              rintro e w8 ⟨he, rfl⟩
              have he := MustR.none he
              subst he
              refine hK.out _ _ ?_
              clear hK K
              (repeat (first | ((apply w3_pure); (· go_simp); (· (intro w1; go_simp; try with_reducible rfl)); (intro K hK; go_simp; refine hK _ _ ?_; clear hK K)) | ((apply w3_skip); (· go_simp); (intro K hK; go_simp; refine hK _ _ ?_; clear hK K)) | (refine w3_end (by kernel_rfl) (fun K hK => ?_); go_simp; refine hK.out _ _ ?_; clear hK K))); refine w3_nil ?_
              clear HX3 HX4 HXE
              go_upto_region 8 with (fail)
              generalize hW3 : w1.drew = W3 at HY3 ⊢
              clear hW3
              have hcV := Blk.cell (Blk.ext hV.out HY3.out)
              have hlV := (Blk.ext hV.out HY3.out).lt
              have HXE := Lib.hid (HZW.out.trans HY3.out)
              go_wp2_with fail
              cases hq : (x.size == 0)
              · have HR := Lib.hid (show X = some ⟨3, x.name⟩ by rw [HX5.out, hq]; rfl)
                refine (must_any false _ _ _).mono ?_
                rintro e w8 ⟨he, rfl⟩
                have he := MustR.some he
                subst he
                show _ ∧ _
                refine ⟨rfl, ?_, HXE.out⟩
                rw [HR.out]
                exact ⟨rfl, _, _, (HCX.out.ext HXE.out).map, (HCX.out.ext HXE.out).blk⟩
              · have HX6 := Lib.hid (show X = ored (must (span x) 2 x.name) Y by rw [HX5.out, hq]; rfl)
                refine (must_any true _ _ _).mono ?_
                rintro e w8 ⟨he, rfl⟩
                have he := MustR.none he
                subst he
                clear hcV hlV hq HX5 HXE
                go_upto_region 9 with (fail)
                refine wp_region_3 (fun w2 => Ext W3 w2) [(0, 1), (2, 2), (3, 1), (1, 0), (4, 0)] (by kernel_rfl) (by kernel_rfl) (by kernel_rfl) (by kernel_rfl) ?_; intro l' hl'; simp only [List.map_cons, List.map_nil, List.getD_cons_zero, List.getD_cons_succ] at hl'; subst hl'
                have HU0 := Lib.hid (show Ext W3 W3.drew from (Kept.refl _ W3).drew)
                (repeat (first | ((apply w3_pure); (· go_simp); (· (intro w1; go_simp; try with_reducible rfl)); (intro K hK; go_simp; refine hK _ _ ?_; clear hK K)) | ((apply w3_skip); (· go_simp); (intro K hK; go_simp; refine hK _ _ ?_; clear hK K)) | ((apply w3_take); (· exact HU0.out); (· go_simp); (· (intro w1 hS; have d4 := Blk.ext hV.out (HY3.out.trans hS); have d5 := Blk.cell d4; have d6 := d4.lt; have d7 := Blk.has d4; have d8 := Blk.gets d4;  go_simp; try with_reducible rfl)); (intro K hK; go_simp; refine hK _ _ ?_; clear hK K)) | ((apply w3_pass); (· exact HU0.out); (· go_simp); (intro K hK; go_simp; refine hK _ _ ?_; clear hK K))))
                (refine w3_act (fun K hK => ?_); go_simp)
                refine (span_any x _).mono ?_
                rintro e w2 ⟨rfl, hx2⟩
                have HU1 := Lib.hid (HU0.out.trans hx2)
                clear hx2
                refine hK.out _ _ (fun _ => HU1.out) ?_
                clear hK K
                (repeat (first | ((apply w3_pure); (· go_simp); (· (intro w1; go_simp; try with_reducible rfl)); (intro K hK; go_simp; refine hK _ _ ?_; clear hK K)) | ((apply w3_skip); (· go_simp); (intro K hK; go_simp; refine hK _ _ ?_; clear hK K)) | ((apply w3_take); (· exact HU1.out); (· go_simp); (· (intro w1 hS; have d4 := Blk.ext hV.out (HY3.out.trans hS); have d5 := Blk.cell d4; have d6 := d4.lt; have d7 := Blk.has d4; have d8 := Blk.gets d4;  go_simp; try with_reducible rfl)); (intro K hK; go_simp; refine hK _ _ ?_; clear hK K)) | ((apply w3_pass); (· exact HU1.out); (· go_simp); (intro K hK; go_simp; refine hK _ _ ?_; clear hK K))))
                (refine w3_last (by kernel_rfl) (by kernel_rfl) (fun K hK => ?_); go_simp)
                have HY4 := Lib.hid (HY3.out.trans HU1.out)
                have HXE := Lib.hid (HZW.out.trans HY4.out)
                cases hsp : span x
                · have HR := Lib.hid (show X = some ⟨2, x.name⟩ by rw [HX6.out, hsp]; rfl)
                  refine (must_any false _ _ _).mono ?_
                  rintro e w8 ⟨he, rfl⟩
                  have he := MustR.some he
                  subst he
                  show _ ∧ _
                  refine ⟨rfl, ?_, HXE.out⟩
                  rw [HR.out]
                  exact ⟨rfl, _, _, (HCX.out.ext HXE.out).map, (HCX.out.ext HXE.out).blk⟩
                · have HX7 := Lib.hid (show X = Y by rw [HX6.out, hsp]; rfl)
                  refine (must_any true _ _ _).mono ?_
                  rintro e w8 ⟨he, rfl⟩
                  have he := MustR.none he
                  subst he
                  refine hK.out _ _ ?_
                  clear hK K
                  (repeat (first | ((apply w3_pure); (· go_simp); (· (intro w1; go_simp; try with_reducible rfl)); (intro K hK; go_simp; refine hK _ _ ?_; clear hK K)) | ((apply w3_skip); (· go_simp); (intro K hK; go_simp; refine hK _ _ ?_; clear hK K)) | (refine w3_end (by kernel_rfl) (fun K hK => ?_); go_simp; refine hK.out _ _ ?_; clear hK K))); refine w3_nil ?_
                  clear hsp HX6
                  have hcV := Blk.cell (Blk.ext hV.out HY4.out)
                  have hlV := (Blk.ext hV.out HY4.out).lt
                  obtain ⟨w5, hrun, hS', hk'⟩ := SMap.put (P := Tryd.prog) (HMZ.out.ext HY4.out) Tryd.underlying103 Tryd.underlying9 x.name (.bool true)
                  have HS2 := Lib.hid hS'
                  have HK2 := Lib.hid hk'
                  clear hS' hk'
                  go_wp2_with fail
                  exact ⟨⟨j + 1, hlt, by go_num, by rw [HTK.out, ← HYE.out, HX7.out], HS2.out.cong (fun t => by rw [HTK.out]; exact aheadF_snoc (p.params.take j) x t), HZ.out.trans ((Kept.ext HY4.out).trans HK2.out)⟩, by simp only [intOf]; omega⟩
            · have HR := Lib.hid (show X = some ⟨7, x.name⟩ from HX4.out)
              try simp only [Bool.not_true]
              refine (must_any false _ _ _).mono ?_
              rintro e w8 ⟨he, rfl⟩
              have he := MustR.some he
              subst he
              show _ ∧ _
              refine ⟨rfl, ?_, HXE.out⟩
              rw [HR.out]
              exact ⟨rfl, _, _, (HCX.out.ext HXE.out).map, (HCX.out.ext HXE.out).blk⟩
          · have qv : (v != 0) = true := by simp [hv0]
            have qn : (v == 0) = false := by simp [hv0]
            have HR := Lib.hid (show X = some ⟨7, x.name⟩ by rw [HX3.out, qn]; rfl)
            refine wp_region_3 (fun w2 => Ext w1 w2) [(0, 2), (1, 2), (2, 1), (12, 2), (13, 1), (3, 0), (4, 2), (5, 2), (6, 2), (7, 2), (8, 1), (9, 1), (10, 2), (11, 2), (14, 0)] (by kernel_rfl) (by kernel_rfl) (by kernel_rfl) (by kernel_rfl) ?_; intro l' hl'; simp only [List.map_cons, List.map_nil, List.getD_cons_zero, List.getD_cons_succ] at hl'; subst hl'
            have HZ0 := Lib.hid (show Ext w1 w1.drew from (Kept.refl _ w1).drew)
            (repeat (first | ((apply w3_pure); (· go_simp); (· (intro w1; go_simp; try with_reducible rfl)); (intro K hK; go_simp; refine hK _ _ ?_; clear hK K)) | ((apply w3_skip); (· go_simp); (intro K hK; go_simp; refine hK _ _ ?_; clear hK K)) | ((apply w3_take); (· exact HZ0.out); (· go_simp); (· (intro w1 hS; have d4 := Blk.ext hV.out (HY2.out.trans hS); have d5 := Blk.cell d4; have d6 := d4.lt; have d7 := HLK.out _ hS;  go_simp; try with_reducible rfl)); (intro K hK; go_simp; refine hK _ _ ?_; clear hK K)) | ((apply w3_pass); (· exact HZ0.out); (· go_simp); (intro K hK; go_simp; refine hK _ _ ?_; clear hK K))))
            (refine w3_act (fun K hK => ?_); go_simp)
            refine (knows_any cb g κ E0 0 x.name _ (HCX.out.ext (HZW.out.trans (HY2.out.trans HZ0.out)))).mono ?_
            rintro e w2 ⟨rfl, rfl⟩
            rw [← HV.out, qv]
            refine hK.out _ _ (fun _ => HZ0.out) ?_
            clear hK K
            (repeat (first | ((apply w3_pure); (· go_simp); (· (intro w1; go_simp; try with_reducible rfl)); (intro K hK; go_simp; refine hK _ _ ?_; clear hK K)) | ((apply w3_skip); (· go_simp); (intro K hK; go_simp; refine hK _ _ ?_; clear hK K)) | ((apply w3_take); (· exact HZ0.out); (· go_simp); (· (intro w1 hS; have d4 := Blk.ext hV.out (HY2.out.trans hS); have d5 := Blk.cell d4; have d6 := d4.lt; have d7 := HLK.out _ hS;  go_simp; try with_reducible rfl)); (intro K hK; go_simp; refine hK _ _ ?_; clear hK K)) | ((apply w3_pass); (· exact HZ0.out); (· go_simp); (intro K hK; go_simp; refine hK _ _ ?_; clear hK K))))
            (refine w3_last (by kernel_rfl) (by kernel_rfl) (fun K hK => ?_); go_simp)
            have HXE := Lib.hid (HZW.out.trans (HY2.out.trans HZ0.out))
            try simp only [Bool.not_true]
            refine (must_any false _ _ _).mono ?_
            rintro e w8 ⟨he, rfl⟩
            have he := MustR.some he
            subst he
            show _ ∧ _
            refine ⟨rfl, ?_, HXE.out⟩
            rw [HR.out]
            exact ⟨rfl, _, _, (HCX.out.ext HXE.out).map, (HCX.out.ext HXE.out).blk⟩
      · obtain rfl : j = n := by omega
        have HXM := Lib.hid (show X = must (decide (menu p.params ≤ 512)) 8 sPlay by
          rw [← HACC.out, HN.out, List.drop_length]; rfl)
        have hgP := Blk.gets (Blk.kept (Blk.ext hB0.out HY0.out) HXR.out HPB.out)
        have hhP := Blk.has (Blk.kept (Blk.ext hB0.out HY0.out) HXR.out HPB.out)
        clear HACC HMR
        go_wp2_with fail
        have HNR := Lib.hid (show N ≤ W1.heap.size from Nat.le_trans HNW.out HY0.out.size)
        refine (smenu_any ⟨cn, cse, cst, cv, cs, ct, ⟨A, j, cc⟩, cpl, csi, cq, cpy⟩ p N _ (Nat.le_trans HNR.out HXR.out.size) ((HPA.out.ext HY0.out HNW.out).kept HXR.out HNR.out (fun i hi => by have := HMB.out; omega))).mono ?_
        rintro e w1 ⟨rfl, hx1⟩
        have HXE := Lib.hid (HXW.out.trans hx1)
        clear hgP hhP hcP hlP hx1
        by_cases h64 : menu p.params ≤ 512
        · have HR := Lib.hid (show X = none by rw [HXM.out, decide_eq_true h64]; rfl)
          go_wp2_with fail
          refine (must_any true _ _ _).mono ?_
          rintro e w8 ⟨he, rfl⟩
          have he := MustR.none he
          subst he
          go_wp2_with fail
          go_end0
          rw [HR.out]
          exact ⟨⟨rfl, HCX.out.ext HXE.out⟩, HXE.out⟩
        · have HR := Lib.hid (show X = some ⟨8, sPlay⟩ by rw [HXM.out, decide_eq_false h64]; rfl)
          go_wp2_with fail
          rw [decide_eq_false (show ¬ menu p.params ≤ 512 by omega)]
          refine (must_any false _ _ _).mono ?_
          rintro e w8 ⟨he, rfl⟩
          have he := MustR.some he
          subst he
          show _ ∧ _
          refine ⟨rfl, ?_, HXE.out⟩
          rw [HR.out]
          exact ⟨rfl, _, _, (HCX.out.ext HXE.out).map, (HCX.out.ext HXE.out).blk⟩
  · have HR := Lib.hid (show X = some ⟨8, sPlay⟩ by rw [HX.out, decide_eq_false (show ¬ p.params.length ≤ 4 by have := HN.out; omega)]; rfl)
    have HXE := HX0
    go_wp2_with fail
    try rw [decide_eq_false (show ¬ (n : Int) ≤ 4 by omega)]
    refine (must_any false _ _ _).mono ?_
    rintro e w8 ⟨he, rfl⟩
    have he := MustR.some he
    subst he
    show _ ∧ _
    refine ⟨rfl, ?_, HXE.out⟩
    rw [HR.out]
    exact ⟨rfl, _, _, (HCX.out.ext HXE.out).map, (HCX.out.ext HXE.out).blk⟩
end Go.Proofs.YtfamkemdgbnegaaDoor

/- Sorts: the checker looks at all parts. -/
namespace Go.Proofs.YtfamkemdgbnegaaDoor
open Go.RowKit So
def strC (s : Str) : Array Value := #[.string s]
theorem strC_rows : ∀ l : List Str, rowsL strC l = l.map Value.string
  | [] => rfl
  | s :: l => by
    have := strC_rows l
    unfold rowsL at this ⊢
    rw [List.flatMap_cons, this]
    rfl
theorem owns_str {w : World} {base : Nat} {T : TypeId} {v : Value} {n : Nat} {l : List Str} (ho : w.ownsRow base T 1 v n (rowsL strC l)) (hn : n = l.length) (h4 : n ≤ 100) :
    ∃ B bc, v = .slice B n bc ∧ (∀ x, B = some x → base ≤ x.block ∧ x.block < w.heap.size) ∧ StrSl w w.heap.size B n l := by
  rw [strC_rows] at ho
  by_cases h0 : 0 < n
  · obtain ⟨g, c, rfl, hr, hg, _⟩ := own_rows ho h0 (by omega)
    exact ⟨some ⟨g, 0, none⟩, c, rfl, fun x hx => by cases hx; exact ⟨hg, hr.lt⟩, hn, h4, g, 0, fun _ => rfl, fun _ => ⟨hr.lt, hr⟩⟩
  · obtain rfl : n = 0 := by omega
    rcases ho.2 with ⟨hv, _⟩ | ⟨g, c, cur, hv, hb, hc, _⟩
    · exact ⟨none, 0, hv, fun x hx => (nomatch hx), hn, h4, 0, 0, fun q => by omega, fun q => by omega⟩
    · exact ⟨some ⟨g, 0, none⟩, c, hv, fun x hx => by cases hx; exact ⟨hb, (Array.getElem?_eq_some_iff.1 hc).1⟩, hn, h4, 0, 0, fun q => by omega, fun q => by omega⟩
theorem StrSl.none (w : World) (N : Nat) : StrSl w N none 0 [] := ⟨rfl, by omega, 0, 0, fun h => absurd h (by omega), fun h => absurd h (by omega)⟩
theorem StrSl.kept_ {S : Nat → Prop} {w w' : World} {N M : Nat} {A : Option Addr} {n : Nat} {l : List Str} (h : StrSl w N A n l) (hk : Kept S w w') (hs : ∀ x, A = some x → ¬ S x.block) (hM : N ≤ M) : StrSl w' M A n l := by
  obtain ⟨h1, h2, b, off, h3, h4⟩ := h
  exact ⟨h1, h2, b, off, h3, fun h0 => ⟨Nat.lt_of_lt_of_le (h4 h0).1 hM, (h4 h0).2.kept hk (hs _ (h3 h0))⟩⟩
set_option maxRecDepth 100000 in
set_option maxHeartbeats 1500000 in
theorem parts_any (cb g : Nat) (κ : Kn) (c : Pc) (p : Pr) (N : Nat) (hN4 : 4 < N) (hNg : N ≤ g) (hNc : N ≤ cb) (w : World) (hN : N ≤ w.heap.size) (h : PAt w N c p) (hL : LaidAt w) (hC : Ck w cb g κ E0 0) (h4 : p.params.length ≤ 4) (hpar : ∀ v ∈ p.params, κ v.name = 0) (hsil : κ p.silent = 0) :
    Calls Tryd.prog 43 #[.pointer (some ⟨cb, 0, none⟩), .agg c.cells] w fun e w' => MustR (ored (chkB 0 κ 0 true p.start) (ored (chkB 1 κ 0 true p.turn) (ored (chkB 2 (updAll κ (p.params.map Vr.name)) 0 true p.play) (ored (chkB 3 (updAll κ [p.silent]) 0 true p.quiet) (chkB 4 κ 0 true p.pays))))) e ∧ Kept (SG cb g) w w' := by
  obtain ⟨X, hX⟩ : ∃ X, X = ored (chkB 0 κ 0 true p.start) (ored (chkB 1 κ 0 true p.turn) (ored (chkB 2 (updAll κ (p.params.map Vr.name)) 0 true p.play) (ored (chkB 3 (updAll κ [p.silent]) 0 true p.quiet) (chkB 4 κ 0 true p.pays)))) := ⟨_, rfl⟩
  rw [← hX]
  obtain ⟨Z0, hZ0⟩ : ∃ Z, Z = chkB 0 κ 0 true p.start := ⟨_, rfl⟩
  obtain ⟨Z1, hZ1⟩ : ∃ Z, Z = chkB 1 κ 0 true p.turn := ⟨_, rfl⟩
  obtain ⟨Z2, hZ2⟩ : ∃ Z, Z = chkB 2 (updAll κ (p.params.map Vr.name)) 0 true p.play := ⟨_, rfl⟩
  obtain ⟨Z3, hZ3⟩ : ∃ Z, Z = chkB 3 (updAll κ [p.silent]) 0 true p.quiet := ⟨_, rfl⟩
  obtain ⟨Z4, hZ4⟩ : ∃ Z, Z = chkB 4 κ 0 true p.pays := ⟨_, rfl⟩
  rw [← hZ0, ← hZ1, ← hZ2, ← hZ3, ← hZ4] at hX
  have HX0 := Lib.hid hX
  have HZ0 := Lib.hid hZ0
  have HZ1 := Lib.hid hZ1
  have HZ2 := Lib.hid hZ2
  have HZ3 := Lib.hid hZ3
  have HZ4 := Lib.hid hZ4
  clear hX hZ0 hZ1 hZ2 hZ3 hZ4
  obtain ⟨cn, cse, cst, cv, ⟨sA, sn, sc⟩, ⟨tA, tn, tc⟩, ⟨A, n, cc⟩, ⟨yA, yn, yc⟩, csi, ⟨qA, qn, qc⟩, ⟨zA, zn, zc⟩⟩ := c
  have hx0 := (Kept.refl (fun _ => False) w).alloc (.cells (Pc.cells ⟨cn, cse, cst, cv, ⟨sA, sn, sc⟩, ⟨tA, tn, tc⟩, ⟨A, n, cc⟩, ⟨yA, yn, yc⟩, csi, ⟨qA, qn, qc⟩, ⟨zA, zn, zc⟩⟩) 52)
  have hB0 := Blk.new w 52 (Pc.cells ⟨cn, cse, cst, cv, ⟨sA, sn, sc⟩, ⟨tA, tn, tc⟩, ⟨A, n, cc⟩, ⟨yA, yn, yc⟩, csi, ⟨qA, qn, qc⟩, ⟨zA, zn, zc⟩⟩)
  have HPA := Lib.hid (h.ext hx0 hN)
  have HSI := Lib.hid (show csi = p.silent from h.silent)
  have HNW := Lib.hid (Nat.le_trans hN hx0.size)
  obtain ⟨hn, hf, hok, b, off, hA, hE⟩ := h.params.ext hx0
  have hn4 : n ≤ 4 := by have : n = p.params.length := hn; omega
  have hm := hf.max (by omega)
  have HN := Lib.hid (show n = p.params.length from hn)
  have HA := Lib.hid hA
  have HE := Lib.hid hE
  have HLW := Lib.hid (hL.ext hx0)
  have HCW := Lib.hid (hC.ext hx0)
  have HPB := Lib.hid (show ¬ SG cb g w.heap.size by
    have h1 := hC.map.lt
    have h2 := hC.lt
    rintro (h | h) <;> omega)
  have HCG := Lib.hid (show cb < w.heap.size ∧ g < w.heap.size from ⟨hC.lt, hC.map.lt⟩)
  have HPR := Lib.hid hpar
  have HSK := Lib.hid hsil
  clear hn hA hE hok hf h hL hC hpar hsil
  go_enter Tryd.func43, Tryd.ntmps43
  go_upto_region 1 with (fail)
  generalize hW : (w.alloc (.cells (Pc.cells ⟨cn, cse, cst, cv, ⟨sA, sn, sc⟩, ⟨tA, tn, tc⟩, ⟨A, n, cc⟩, ⟨yA, yn, yc⟩, csi, ⟨qA, qn, qc⟩, ⟨zA, zn, zc⟩⟩) 52)) = W at hx0 hB0 HE HLW HCW HPA HNW ⊢
  clear hW
  have HBW := Lib.hid (show w.heap.size ≤ W.heap.size from hx0.size)
  have HXW := Lib.hid hx0
  generalize w.heap.size = pb at hB0 HPB HCG HBW ⊢
  have hB0 := Lib.hid hB0
  have hcP := Blk.cell hB0.out
  have hlP := hB0.out.lt
  clear hx0
  go_wp2_with fail
  go_loopw [4, 10] (fun t4 t10 wr => ∃ (j : Nat), j ≤ n ∧ t10 = .int .i64 j ∧ wr.ownsRow W.heap.size 9 1 t4 j (rowsL strC ((p.params.map Vr.name).take j)) ∧ Ext W wr) (fun _ t10 _ => n - (intOf t10).toNat)
  case atStart => exact ⟨0, Nat.zero_le _, rfl, World.ownsRow_nil _ _ _ _, Kept.refl _ _⟩
  case round =>
    obtain ⟨j, hj, rfl, ho, hx⟩ := hrel
    have HX := Lib.hid hx
    have HO := Lib.hid ho
    clear hx ho hcP hlP
    by_cases hlt : j < n
    · have hjl : j < p.params.length := by have := HN.out; omega
      have hltI : (j : Int) < n := by omega
      obtain rfl := HA.out (by omega)
      have hrow := (HE.out (by omega)).2.ext HX.out
      obtain ⟨hh', hg'⟩ := vr_at hrow j hjl
      have hbw := hrow.lt
      obtain ⟨x, hxe⟩ : ∃ x, x = p.params[j] := ⟨_, rfl⟩
      rw [← hxe] at hg'
      have htk : (p.params.map Vr.name).take (j + 1) = (p.params.map Vr.name).take j ++ [x.name] := by
        rw [List.take_add_one, List.getElem?_map, List.getElem?_eq_getElem hjl, hxe]
        rfl
      have HTK := Lib.hid htk
      clear hrow hxe htk
      have y0 : Ext wr _ := ((Kept.refl (fun _ => False) wr).alloc (.cells (vcells x) 54)).alloc (.cells #[.string x.name] 9)
      obtain ⟨v', w', hrun, ho', hk', _⟩ := appR (f := strC) elemStr (fun _ => rfl) (fun _ => rfl) ((wr.alloc (.cells (vcells x) 54)).alloc (.cells #[.string x.name] 9)) W.heap.size u4 j ((p.params.map Vr.name).take j) (own_ext HO.out y0) (wr.heap.size + 1) 0 1 1 [x.name] rfl (Row.of_blk (Blk.new' _ _ _ _ (by simp))) (by omega) (by have := y0.size; have := HX.out.size; have := HBW.out; omega)
      rw [← HTK.out] at ho'
      have HO' := Lib.hid ho'
      have HXW' := Lib.hid (show Ext W w' from (HX.out.trans y0).trans' hk' (fun i hi e => by have := (HO.out.lt i e).1; omega))
      clear ho' hk' y0
      go_upto_region 5 with (fail)
      go_step
      iterate 4 (refine wpList_step (fun K hK => ?_); go_simp; (try go_bits); refine hK _ _ ?_; clear hK K)
      refine wpList_app rfl (.tmp 14) (.tmp 17) 39 rfl rfl rfl rfl hrun ?_
      clear hrun
      go_wp2_with fail
      go_roundw
      case rel => exact ⟨j + 1, hlt, by go_num, HO'.out, HXW'.out⟩
      case measure => simp only [intOf]; omega
    · obtain rfl : j = n := by omega
      have ho := HO.out
      rw [show (p.params.map Vr.name).take j = p.params.map Vr.name from by rw [List.take_of_length_le (by rw [List.length_map, HN.out]; omega)]] at ho
      obtain ⟨B, bc, rfl, hBB, hBS⟩ := owns_str ho (by rw [List.length_map]; exact HN.out) (by omega)
      have HBB := Lib.hid (show ∀ x, B = some x → ¬ SG cb g x.block from fun x hx => by
        have h1 := (hBB x hx).1
        have h2 := HCG.out
        have h3 := HBW.out
        rintro (h | h) <;> omega)
      have HBS := Lib.hid hBS
      have HNV := Lib.hid (Nat.le_trans HNW.out HX.out.size)
      have HPV := Lib.hid (HPA.out.ext HX.out HNW.out)
      have HLV := Lib.hid (HLW.out.ext HX.out)
      have HBV := Lib.hid (Blk.ext hB0.out HX.out)
      have HK0 := Lib.hid (Kept.refl (SG cb g) wr)
      have HC0 := Lib.hid (HCW.out.ext HX.out)
      have HWV := Lib.hid (HXW.out.trans HX.out)
      clear ho hBB hBS HO HPA HLW HCW HE HA
      have hcP := Blk.cell (Blk.kept HBV.out HK0.out HPB.out)
      have hlP := (Blk.kept HBV.out HK0.out HPB.out).lt
      go_wp2_with fail
      clear hcP hlP
      refine (walk_any cb g 0 (by omega) wr N hN4 hNg hNc HNV.out HLV.out p.start κ E0 sA sn sc none 0 0 [] _ HK0.out HC0.out HPV.out.start (fun w' _ => StrSl.none w' _) (fun x hx => (nomatch hx)) (fun s hs => (nomatch hs))).mono ?_
      rintro e w1 ⟨hb, hk⟩
      have HK1 := Lib.hid (HK0.out.trans hk)
      rw [updAll_nil, ← HZ0.out] at hb
      clear hk
      cases Z0 with
      | some f =>
        obtain ⟨he, -⟩ := hb
        subst he
        have HR := Lib.hid (show X = some f by rw [HX0.out] <;> rfl)
        have HXE := Lib.hid ((Kept.ext (S := SG cb g) HWV.out).trans HK1.out)
        show _ ∧ _
        refine ⟨rfl, ?_, HXE.out⟩
        rw [HR.out]
        rfl
      | none =>
        obtain ⟨he, hc⟩ := hb
        subst he
        have HC1 := Lib.hid hc
        have HX1 := Lib.hid (show X = ored Z1 (ored Z2 (ored Z3 Z4)) by rw [HX0.out] <;> rfl)
        clear hc HX0
        have hcP := Blk.cell (Blk.kept HBV.out HK1.out HPB.out)
        have hlP := (Blk.kept HBV.out HK1.out HPB.out).lt
        go_wp2_with fail
        clear hcP hlP
        refine (walk_any cb g 1 (by omega) wr N hN4 hNg hNc HNV.out HLV.out p.turn κ (partName 0) tA tn tc none 0 0 [] _ HK1.out HC1.out HPV.out.turn (fun w' _ => StrSl.none w' _) (fun x hx => (nomatch hx)) (fun s hs => (nomatch hs))).mono ?_
        rintro e w2 ⟨hb, hk⟩
        have HK2 := Lib.hid (HK1.out.trans hk)
        rw [updAll_nil, ← HZ1.out] at hb
        clear hk
        cases Z1 with
        | some f =>
          obtain ⟨he, -⟩ := hb
          subst he
          have HR := Lib.hid (show X = some f by rw [HX1.out] <;> rfl)
          have HXE := Lib.hid ((Kept.ext (S := SG cb g) HWV.out).trans HK2.out)
          show _ ∧ _
          refine ⟨rfl, ?_, HXE.out⟩
          rw [HR.out]
          rfl
        | none =>
          obtain ⟨he, hc⟩ := hb
          subst he
          have HC2 := Lib.hid hc
          have HX2 := Lib.hid (show X = ored Z2 (ored Z3 Z4) by rw [HX1.out] <;> rfl)
          clear hc HX1
          have hcP := Blk.cell (Blk.kept HBV.out HK2.out HPB.out)
          have hlP := (Blk.kept HBV.out HK2.out HPB.out).lt
          go_wp2_with fail
          clear hcP hlP
          refine (walk_any cb g 2 (by omega) wr N hN4 hNg hNc HNV.out HLV.out p.play κ (partName 1) yA yn yc B j bc (p.params.map Vr.name) _ HK2.out HC2.out HPV.out.play (fun w' hk => HBS.out.kept_ (HK2.out.trans hk) HBB.out (HK2.out.trans hk).size) (fun x hx e => HBB.out x hx (Or.inr e)) (fun s hs => by obtain ⟨v, hv, rfl⟩ := List.mem_map.1 hs; exact HPR.out v hv)).mono ?_
          rintro e w3 ⟨hb, hk⟩
          have HK3 := Lib.hid (HK2.out.trans hk)
          rw [← HZ2.out] at hb
          clear hk
          cases Z2 with
          | some f =>
            obtain ⟨he, -⟩ := hb
            subst he
            have HR := Lib.hid (show X = some f by rw [HX2.out] <;> rfl)
            have HXE := Lib.hid ((Kept.ext (S := SG cb g) HWV.out).trans HK3.out)
            show _ ∧ _
            refine ⟨rfl, ?_, HXE.out⟩
            rw [HR.out]
            rfl
          | none =>
            obtain ⟨he, hc⟩ := hb
            subst he
            have HC3 := Lib.hid hc
            have HX3 := Lib.hid (show X = ored Z3 Z4 by rw [HX2.out] <;> rfl)
            clear hc HX2
            have hcP := Blk.cell (Blk.kept HBV.out HK3.out HPB.out)
            have hlP := (Blk.kept HBV.out HK3.out HPB.out).lt
            go_wp2_with fail
            clear hcP hlP
            have y3 := (Kept.refl (fun _ => False) w3).alloc (.cells #[.string csi] 9)
            have HB3 := Lib.hid (show ¬ SG cb g w3.heap.size by have h1 := HC3.out.map.lt; have h2 := HC3.out.lt; rintro (h | h) <;> omega)
            have HRW := Lib.hid (Row.of_blk (Blk.new w3 9 #[.string csi]))
            refine (walk_any cb g 3 (by omega) wr N hN4 hNg hNc HNV.out HLV.out p.quiet κ (partName 2) qA qn qc (some ⟨w3.heap.size, 0, none⟩) 1 1 [csi] _ (HK3.out.trans (Kept.ext y3)) (HC3.out.ext y3) HPV.out.quiet (fun w' hk => ⟨rfl, by omega, w3.heap.size, 0, fun _ => rfl, fun _ => ⟨(HRW.out.kept hk HB3.out).lt, HRW.out.kept hk HB3.out⟩⟩) (fun x hx e => by cases hx; exact HB3.out (Or.inr e)) (fun s hs => by rw [List.mem_singleton.1 hs, HSI.out]; exact HSK.out)).mono ?_
            rintro e w4 ⟨hb, hk⟩
            have HK4 := Lib.hid ((HK3.out.trans (Kept.ext y3)).trans hk)
            rw [HSI.out, ← HZ3.out] at hb
            clear hk y3
            cases Z3 with
            | some f =>
              obtain ⟨he, -⟩ := hb
              subst he
              have HR := Lib.hid (show X = some f by rw [HX3.out] <;> rfl)
              have HXE := Lib.hid ((Kept.ext (S := SG cb g) HWV.out).trans HK4.out)
              show _ ∧ _
              refine ⟨rfl, ?_, HXE.out⟩
              rw [HR.out]
              rfl
            | none =>
              obtain ⟨he, hc⟩ := hb
              subst he
              have HC4 := Lib.hid hc
              have HX4 := Lib.hid (show X = Z4 by rw [HX3.out] <;> rfl)
              clear hc HX3
              have hcP := Blk.cell (Blk.kept HBV.out HK4.out HPB.out)
              have hlP := (Blk.kept HBV.out HK4.out HPB.out).lt
              go_wp2_with fail
              clear hcP hlP
              refine (walk_any cb g 4 (by omega) wr N hN4 hNg hNc HNV.out HLV.out p.pays κ (partName 3) zA zn zc none 0 0 [] _ HK4.out HC4.out HPV.out.pays (fun w' _ => StrSl.none w' _) (fun x hx => (nomatch hx)) (fun s hs => (nomatch hs))).mono ?_
              rintro e w5 ⟨hb, hk⟩
              have HK5 := Lib.hid (HK4.out.trans hk)
              rw [updAll_nil, ← HZ4.out] at hb
              clear hk
              cases Z4 with
              | some f =>
                obtain ⟨he, -⟩ := hb
                subst he
                have HR := Lib.hid (show X = some f by rw [HX4.out] <;> rfl)
                have HXE := Lib.hid ((Kept.ext (S := SG cb g) HWV.out).trans HK5.out)
                show _ ∧ _
                refine ⟨rfl, ?_, HXE.out⟩
                rw [HR.out]
                rfl
              | none =>
                obtain ⟨he, hc⟩ := hb
                subst he
                have HC5 := Lib.hid hc
                have HX5 := Lib.hid (show X = none by rw [HX4.out] <;> rfl)
                clear hc HX4
                go_wp2_with fail
                go_end0
                rw [HX5.out]
                exact ⟨rfl, (Kept.ext (S := SG cb g) HWV.out).trans HK5.out⟩
end Go.Proofs.YtfamkemdgbnegaaDoor
