/- Several texts joined: Uk, Vk. -/
import Derived.Test.YtfamkemdgbnegaaDoorSdn
/- SortsUnknown: the walk. -/
namespace Go.Proofs.YtfamkemdgbnegaaDoor
open Go.RowKit So
theorem mod4 (x : Int) : ∃ i : Nat, i < 4 ∧ wrap64 ((IntKind.u64.wrap x).tmod 4) = (i : Int) := by
  refine ⟨((x % 18446744073709551616) % 4).toNat, by omega, ?_⟩
  rw [u64_w, Int.tmod_eq_emod_of_nonneg (by omega)]
  unfold wrap64
  omega
theorem unk_list : (⟨#[117, 110, 107, 110, 111, 119, 110]⟩ : ByteArray).toList = [117, 110, 107, 110, 111, 119, 110] := by first | rfl | decide | simp
theorem ef_two0 {w : World} {N b : Nat} {t : TypeId} (hB : Blk w b t #[.int .i64 0, .int .i64 0, .string ⟨#[]⟩, .slice none 0 0, .int .i64 0, .int .i64 0, .string ⟨#[]⟩, .slice none 0 0]) (hb : b < N) : ESl w N (some ⟨b, 0, none⟩) 2 (.cons 0 0 E0 .nil (num 0)) := by
  have hh := Blk.has hB
  have hg := Blk.gets hB
  refine ⟨rfl, by unfold Fits; omega, b, 0, fun _ => rfl, hb, ok64 (by decide), ok64 (by decide), name_ok _ (by decide), ⟨none, 0, 0, 0, by rw [hh]; rfl, by rw [hg]; rfl, by unfold Fits; simp [EF.len], fun h => absurd h (by simp [EF.len]), trivial⟩, hb, ok64 (by decide), ok64 (by decide), name_ok _ (by decide), ⟨none, 0, 0, 0, by rw [hh]; rfl, by rw [hg]; rfl, by unfold Fits; simp [EF.len], fun h => absurd h (by simp [EF.len]), trivial⟩, trivial⟩
set_option maxRecDepth 100000 in
set_option maxHeartbeats 6000000 in
theorem lunknown_any (c : Pc) (p : Pr) (a0 h0 : Int) (N : Nat) (w : World) (hN : N ≤ w.heap.size) (h : PAt w N c p) (hL : LaidAt w) (hcap : Caps c) (hroom : Roomy c 1) : Calls Tryd.prog 4 #[.agg c.cells, .int .i64 a0, .int .i64 h0] w fun e w' => e = .returned (.bool true) ∧ Ext w w' := by
  obtain ⟨cn, cse, cst, cv, cs, ct, ⟨A, n, cc⟩, cpl, csi, cq, cpy⟩ := c
  obtain rfl : csi = p.silent := h.silent
  have hx0 := (Kept.refl (fun _ => False) w).alloc (.cells (Pc.cells (⟨cn, cse, cst, cv, cs, ct, ⟨A, n, cc⟩, cpl, p.silent, cq, cpy⟩ : Pc)) 26)
  have hB := Blk.new w 26 (Pc.cells (⟨cn, cse, cst, cv, cs, ct, ⟨A, n, cc⟩, cpl, p.silent, cq, cpy⟩ : Pc))
  go_enter Tryd.func4, Tryd.ntmps4
  go_upto_region 1 with (fail)
  generalize hW : w.alloc (.cells (Pc.cells (⟨cn, cse, cst, cv, cs, ct, ⟨A, n, cc⟩, cpl, p.silent, cq, cpy⟩ : Pc)) 26) = W at hx0 hB ⊢
  have HX0 := Lib.hid hx0
  have HB := Lib.hid hB
  have HPA := Lib.hid (h.ext hx0 hN)
  have HNW := Lib.hid (Nat.le_trans hN hx0.size)
  have HLW := Lib.hid (hL.ext hx0)
  clear hW hx0 hB h hN hL
  generalize w.heap.size = pb at HB ⊢
  have hhP := Blk.has HB.out
  have hgP := Blk.gets HB.out
  have hlP := HB.out.lt
  go_wp2_with fail
  refine (room_any (⟨cn, cse, cst, cv, cs, ct, ⟨A, n, cc⟩, cpl, p.silent, cq, cpy⟩ : Pc) p N W HNW.out HPA.out hcap).mono ?_
  rintro e w1 ⟨rfl, hx1⟩
  have HX1 := Lib.hid hx1
  clear hx1 hhP hgP hlP
  obtain ⟨r, hr⟩ : ∃ r, r = roomB p := ⟨_, rfl⟩
  rw [← hr]
  have HRB := Lib.hid hr
  clear hr
  cases r
  · go_wp2_with fail
    refine (told_any w1 (HLW.out.ext HX1.out)).mono ?_
    rintro e w2 ⟨rfl, hx2⟩
    go_wp2_with fail
    go_ret
    exact ⟨rfl, HX0.out.trans (HX1.out.trans hx2)⟩
  · obtain ⟨ai, hai, ea⟩ := mod5 a0
    obtain ⟨i, hi, eh⟩ := mod4 h0
    have HRO := Lib.hid (room_of HRB.out)
    clear HRB
    have x1 := ((Kept.refl (fun _ => False) w1).alloc (.cells (ecells 1 0 ⟨#[117, 110, 107, 110, 111, 119, 110]⟩ none 0 0) 36)).alloc (.cells (scells 2 ⟨#[]⟩ (some ⟨w1.heap.size, 0, none⟩) 1 1 0 0 none 0 0 none 0 0) 34)
    have hE := (Blk.new w1 36 (ecells 1 0 ⟨#[117, 110, 107, 110, 111, 119, 110]⟩ none 0 0)).alloc (.cells (scells 2 ⟨#[]⟩ (some ⟨w1.heap.size, 0, none⟩) 1 1 0 0 none 0 0 none 0 0) 34)
    have hS := Blk.new' (w1.alloc (.cells (ecells 1 0 ⟨#[117, 110, 107, 110, 111, 119, 110]⟩ none 0 0) 36)) 34 (scells 2 ⟨#[]⟩ (some ⟨w1.heap.size, 0, none⟩) 1 1 0 0 none 0 0 none 0 0) (w1.heap.size + 1) (by simp)
    go_upto_region 4 with (fail)
    generalize hV : ((w1.alloc (.cells (ecells 1 0 ⟨#[117, 110, 107, 110, 111, 119, 110]⟩ none 0 0) 36)).alloc (.cells (scells 2 ⟨#[]⟩ (some ⟨w1.heap.size, 0, none⟩) 1 1 0 0 none 0 0 none 0 0) 34)) = V at x1 hE hS ⊢
    clear hV
    obtain ⟨eb, heb⟩ : ∃ eb, eb = w1.heap.size := ⟨_, rfl⟩
    obtain ⟨sb, hsb⟩ : ∃ sb, sb = eb + 1 := ⟨_, rfl⟩
    rw [← heb] at hE hS ⊢
    rw [← hsb] at hS ⊢
    have HSE := Lib.hid (show w1.heap.size ≤ eb ∧ ¬ eb = sb ∧ w1.heap.size ≤ sb ∧ eb < V.heap.size ∧ sb < V.heap.size from ⟨by omega, by omega, by omega, hE.lt, hS.lt⟩)
    have HXV := Lib.hid (HX1.out.trans x1)
    have HS := Lib.hid hS
    have HE := Lib.hid hE
    have HW1 := Lib.hid (show W.heap.size ≤ w1.heap.size from HX1.out.size)
    clear x1 heb hsb hE hS
    have hhS := Blk.has HS.out
    have hgS := Blk.gets HS.out
    have hmS := HS.out.melts
    have hlS := HS.out.lt
    have hcS := Blk.cell HS.out
    have hhE := Blk.has HE.out
    have hgE := Blk.gets HE.out
    have hmE := HE.out.melts
    have hlE := HE.out.lt
    rcases (by omega : i = 0 ∨ i = 1 ∨ i = 2 ∨ i = 3) with rfl | rfl | rfl | rfl
    · go_upto_region 11 with (fail)
      have hk2 : Kept (· = sb) V ((putAt V sb 0 (scells 0 ⟨#[117, 110, 107, 110, 111, 119, 110]⟩ (some ⟨V.heap.size, 0, none⟩) 1 1 0 0 none 0 0 none 0 0)).alloc (.cells (ecells 0 0 ⟨#[]⟩ none 0 0) 36)) := (Kept.putAt (Kept.refl (· = sb) V) sb 0 _ (fun _ => rfl)).alloc _
      have hS2 : Blk ((putAt V sb 0 (scells 0 ⟨#[117, 110, 107, 110, 111, 119, 110]⟩ (some ⟨V.heap.size, 0, none⟩) 1 1 0 0 none 0 0 none 0 0)).alloc (.cells (ecells 0 0 ⟨#[]⟩ none 0 0) 36)) sb 34 (scells 0 ⟨#[117, 110, 107, 110, 111, 119, 110]⟩ (some ⟨V.heap.size, 0, none⟩) 1 1 0 0 none 0 0 none 0 0) := (Blk.put_ HS.out 0 (scells 0 ⟨#[117, 110, 107, 110, 111, 119, 110]⟩ (some ⟨V.heap.size, 0, none⟩) 1 1 0 0 none 0 0 none 0 0)).alloc _
      have hN2 : Blk ((putAt V sb 0 (scells 0 ⟨#[117, 110, 107, 110, 111, 119, 110]⟩ (some ⟨V.heap.size, 0, none⟩) 1 1 0 0 none 0 0 none 0 0)).alloc (.cells (ecells 0 0 ⟨#[]⟩ none 0 0) 36)) V.heap.size 36 (ecells 0 0 ⟨#[]⟩ none 0 0) := Blk.new' _ _ _ _ (by simp [Proofs.YtfamkemdgbnegaaDoor.putAt])
      generalize hW2 : ((putAt V sb 0 (scells 0 ⟨#[117, 110, 107, 110, 111, 119, 110]⟩ (some ⟨V.heap.size, 0, none⟩) 1 1 0 0 none 0 0 none 0 0)).alloc (.cells (ecells 0 0 ⟨#[]⟩ none 0 0) 36)) = V2 at hk2 hS2 hN2 ⊢
      generalize V.heap.size = nb at hS2 hN2 ⊢
      clear hW2
      have HXV2 := Lib.hid (HXV.out.trans' hk2 (fun i hi q => by have := HSE.out; have := HW1.out; omega))
      have HS2 := Lib.hid hS2
      have HEE := Lib.hid (show ESl V2 V2.heap.size (some ⟨nb, 0, none⟩) 1 (num 0) from ef_one (k := .nil) hN2 hN2.lt (ok64 (by decide)) (ok64 (by decide)) (name_ok _ (by decide)) (ESl.nil _ _ _))
      clear hk2 hS2 hN2
      have HXQ := HXV2
      clear hhS hgS hmS hlS hcS hhE hgE hmE hlE
      have hBq := Blk.ext HB.out HXQ.out
      have hcP := Blk.cell hBq
      have hhP := Blk.has hBq
      have hgP := Blk.gets hBq
      have hlP := hBq.lt
      go_wp2_with fail
      refine (rcell_any (⟨cn, cse, cst, cv, cs, ct, ⟨A, n, cc⟩, cpl, p.silent, cq, cpy⟩ : Pc) p ⟨#[117, 110, 107, 110, 111, 119, 110]⟩ N _ (Nat.le_trans HNW.out HXQ.out.size) (HPA.out.ext HXQ.out HNW.out)).mono ?_
      rintro e w2 ⟨he, hx2⟩
      obtain ⟨r, hr⟩ : ∃ r, r = p.vars.any (fun v => decide (v.name = ⟨#[117, 110, 107, 110, 111, 119, 110]⟩)) := ⟨_, rfl⟩
      obtain ⟨y, hy⟩ : ∃ y, y = cellX p.vars ⟨#[117, 110, 107, 110, 111, 119, 110]⟩ := ⟨_, rfl⟩
      obtain ⟨a, ha⟩ : ∃ a, a = cellN p.vars ⟨#[117, 110, 107, 110, 111, 119, 110]⟩ := ⟨_, rfl⟩
      rw [show cellRes p.vars ⟨#[117, 110, 107, 110, 111, 119, 110]⟩ = .returned (.tuple #[.int .i64 a, .agg (vcells y), .bool r]) by rw [ha, hy, hr]] at he
      subst he
      have HRR := Lib.hid hr
      clear hBq hcP hhP hgP hlP
      clear hr hy ha
      have y2 := (Kept.refl (fun _ => False) w2).alloc (.cells (vcells y) 29)
      go_upto_region 12 with (fail)
      generalize (w2.alloc (.cells (vcells y) 29)) = W2 at y2 ⊢
      generalize w2.heap.size = yb
      have HXQ := Lib.hid (HXV2.out.trans (hx2.trans y2))
      have HSQ := Lib.hid (Blk.ext HS2.out (hx2.trans y2))
      have HEQ := Lib.hid ((HEE.out.ext (hx2.trans y2) (Nat.le_refl _)).mono (hx2.trans y2).size)
      clear y2 hx2
      have hBq := Blk.ext HB.out HXQ.out
      have hcP := Blk.cell hBq
      have hhP := Blk.has hBq
      have hgP := Blk.gets hBq
      have hlP := hBq.lt
      cases r
      · by_cases hq : p.silent = ⟨#[117, 110, 107, 110, 111, 119, 110]⟩
        · have hb := str_same hq
          rw [unk_list] at hb
          clear hq
          go_wp2_with fail
          refine (told_any _ (HLW.out.ext HXQ.out)).mono ?_
          rintro e w9 ⟨rfl, hx9⟩
          go_wp2_with fail
          go_ret
          exact ⟨rfl, HX0.out.trans (HXQ.out.trans hx9)⟩
        · have hb := str_other hq
          rw [unk_list] at hb
          have HQ := Lib.hid hq
          clear hq
          obtain ⟨hn, hf, -, b, off, hA, hEv⟩ := HPA.out.params
          have hm := hf.max (by omega)
          have HN := Lib.hid (show n = p.params.length from hn)
          have HA := Lib.hid hA
          have HEV := Lib.hid hEv
          clear hn hf hA hEv
          go_wp2_with fail
          clear hBq hcP hhP hgP hlP
          clear hb
          go_loopw [11] (fun t11 wr => ∃ (j : Nat), j ≤ n ∧ t11 = .int .i64 j ∧ (∀ v ∈ p.params.take j, ¬ v.name = ⟨#[117, 110, 107, 110, 111, 119, 110]⟩) ∧ W2 = wr) (fun t11 _ => n - (intOf t11).toNat)
          case atStart => exact ⟨0, Nat.zero_le _, rfl, by simp, rfl⟩
          case round =>
            obtain ⟨j, hj, rfl, hno, hw⟩ := hrel
            subst hw
            have HNO := Lib.hid hno
            clear hno
            have hBq := Blk.ext HB.out HXQ.out
            have hcP := Blk.cell hBq
            have hhP := Blk.has hBq
            have hgP := Blk.gets hBq
            have hlP := hBq.lt
            by_cases hlt : j < n
            · have hjl : j < p.params.length := by have := HN.out; omega
              have hltI : (j : Int) < n := by omega
              obtain rfl := HA.out (by omega)
              have hrow := (HEV.out (by omega)).2.ext HXQ.out
              obtain ⟨hh', hg'⟩ := vr_at hrow j hjl
              have hc := cell_gets0 hh' hg' (by omega)
              have hbw := hrow.lt
              obtain ⟨x, hxe⟩ : ∃ x, x = p.params[j] := ⟨_, rfl⟩
              rw [← hxe] at hc
              have HX := Lib.hid hxe
              clear hrow hxe hh' hg'
              by_cases hq : x.name = ⟨#[117, 110, 107, 110, 111, 119, 110]⟩
              · have hb := str_same hq
                rw [unk_list] at hb
                clear hq
                go_wp2_with fail
                refine (told_any _ (HLW.out.ext HXQ.out)).mono ?_
                rintro e w9 ⟨rfl, hx9⟩
                go_wp2_with fail
                go_ret
                exact ⟨rfl, HX0.out.trans (HXQ.out.trans hx9)⟩
              · have hb := str_other hq
                rw [unk_list] at hb
                have HQ2 := Lib.hid hq
                clear hq
                go_wp2_with fail
                go_roundw
                case rel => exact ⟨j + 1, hlt, by go_num, by
                  intro v hv
                  rw [List.take_add_one, List.getElem?_eq_getElem hjl, ← HX.out] at hv
                  simp only [Option.toList_some, List.mem_append, List.mem_singleton] at hv
                  rcases hv with hv | rfl
                  · exact HNO.out v hv
                  · exact HQ2.out, by trivial⟩
                case measure => simp only [intOf]; omega
            · obtain rfl : j = n := by omega
              have HKN := Lib.hid (show knownIn p sUnknown = false by
                simp only [knownIn, Bool.or_eq_false_iff]
                refine ⟨⟨HRR.out.symm, decide_eq_false HQ.out⟩, List.any_eq_false.2 fun v hv => ?_⟩
                have := HNO.out v (by rw [HN.out, List.take_length]; exact hv)
                exact fun q => this (of_decide_eq_true q))
              have HFJ := Lib.hid (show check (So.part p ai ⟨0, sUnknown, (num 0), 0, 0, .nil, .nil⟩) = some ⟨6, sUnknown⟩ from unknown HRO.out.2 HRO.out.1 HKN.out ai hai 0)
              clear HRO HKN HNO HQ HRR HN HEV HA
              go_wp2_with fail
              refine (told_any _ (HLW.out.ext HXQ.out)).mono ?_
              rintro e w3 ⟨rfl, hx3⟩
              clear hBq hcP hhP hgP hlP
              have hBq := Blk.ext HB.out (HXQ.out.trans hx3)
              have hhP := Blk.has hBq
              have hgP := Blk.gets hBq
              have hlP := hBq.lt
              have hSq := Blk.ext HSQ.out hx3
              have hhS := Blk.has hSq
              have hgS := Blk.gets hSq
              have hlS := hSq.lt
              have hN3 : N ≤ w3.heap.size := Nat.le_trans HNW.out (HXQ.out.trans hx3).size
              go_wp2_with fail
              refine (part_any (⟨cn, cse, cst, cv, cs, ct, ⟨A, j, cc⟩, cpl, p.silent, cq, cpy⟩ : Pc) p ai hai 0 _ w3 (Nat.le_refl _) ((HPA.out.ext (HXQ.out.trans hx3) HNW.out).mono hN3) hcap hroom 0 sUnknown (num 0) 0 0 .nil .nil (some ⟨nb, 0, none⟩) 1 none 0 none 0 (ok64 (by decide)) (ok64 (by decide)) (ok64 (by decide)) (name_ok _ (by decide)) ((HEQ.out.ext hx3 (Nat.le_refl _)).mono hx3.size) (SSl.nil _ _ _) (SSl.nil _ _ _)).mono ?_
              rintro e w4 ⟨c2, rfl, hp2, -, -, hx4⟩
              have HP2 := Lib.hid (hp2 _ _ (Kept.refl (fun _ => False) w4) (fun _ q => q.elim))
              have HX4 := Lib.hid (HXQ.out.trans (hx3.trans hx4))
              clear hp2 hx4 hx3 hBq hhP hgP hlP hSq hhS hgS hlS hN3
              go_wp2_with fail
              refine (lcheck_any c2 _ _ w4 (Nat.le_refl _) HP2.out (HLW.out.ext HX4.out)).mono ?_
              rintro e w5 ⟨rfl, hx5⟩
              rw [HFJ.out, show fltC (some ⟨6, sUnknown⟩) = #[.int .i64 6, .string ⟨#[117, 110, 107, 110, 111, 119, 110]⟩] from rfl]
              go_wp2_with fail
              go_ret
              exact ⟨rfl, HX0.out.trans (HX4.out.trans hx5)⟩
      · go_wp2_with fail
        refine (told_any _ (HLW.out.ext HXQ.out)).mono ?_
        rintro e w9 ⟨rfl, hx9⟩
        go_wp2_with fail
        go_ret
        exact ⟨rfl, HX0.out.trans (HXQ.out.trans hx9)⟩
    · go_upto_region 11 with (fail)
      have hk2 : Kept (· = sb) V ((putAt V sb 0 (scells 1 ⟨#[117, 110, 107, 110, 111, 119, 110]⟩ (some ⟨V.heap.size, 0, none⟩) 2 2 0 0 none 0 0 none 0 0)).alloc (.cells #[.int .i64 0, .int .i64 0, .string ⟨#[]⟩, .slice none 0 0, .int .i64 0, .int .i64 0, .string ⟨#[]⟩, .slice none 0 0] 36)) := (Kept.putAt (Kept.refl (· = sb) V) sb 0 _ (fun _ => rfl)).alloc _
      have hS2 : Blk ((putAt V sb 0 (scells 1 ⟨#[117, 110, 107, 110, 111, 119, 110]⟩ (some ⟨V.heap.size, 0, none⟩) 2 2 0 0 none 0 0 none 0 0)).alloc (.cells #[.int .i64 0, .int .i64 0, .string ⟨#[]⟩, .slice none 0 0, .int .i64 0, .int .i64 0, .string ⟨#[]⟩, .slice none 0 0] 36)) sb 34 (scells 1 ⟨#[117, 110, 107, 110, 111, 119, 110]⟩ (some ⟨V.heap.size, 0, none⟩) 2 2 0 0 none 0 0 none 0 0) := (Blk.put_ HS.out 0 (scells 1 ⟨#[117, 110, 107, 110, 111, 119, 110]⟩ (some ⟨V.heap.size, 0, none⟩) 2 2 0 0 none 0 0 none 0 0)).alloc _
      have hN2 : Blk ((putAt V sb 0 (scells 1 ⟨#[117, 110, 107, 110, 111, 119, 110]⟩ (some ⟨V.heap.size, 0, none⟩) 2 2 0 0 none 0 0 none 0 0)).alloc (.cells #[.int .i64 0, .int .i64 0, .string ⟨#[]⟩, .slice none 0 0, .int .i64 0, .int .i64 0, .string ⟨#[]⟩, .slice none 0 0] 36)) V.heap.size 36 #[.int .i64 0, .int .i64 0, .string ⟨#[]⟩, .slice none 0 0, .int .i64 0, .int .i64 0, .string ⟨#[]⟩, .slice none 0 0] := Blk.new' _ _ _ _ (by simp [Proofs.YtfamkemdgbnegaaDoor.putAt])
      generalize hW2 : ((putAt V sb 0 (scells 1 ⟨#[117, 110, 107, 110, 111, 119, 110]⟩ (some ⟨V.heap.size, 0, none⟩) 2 2 0 0 none 0 0 none 0 0)).alloc (.cells #[.int .i64 0, .int .i64 0, .string ⟨#[]⟩, .slice none 0 0, .int .i64 0, .int .i64 0, .string ⟨#[]⟩, .slice none 0 0] 36)) = V2 at hk2 hS2 hN2 ⊢
      generalize V.heap.size = nb at hS2 hN2 ⊢
      clear hW2
      have HXV2 := Lib.hid (HXV.out.trans' hk2 (fun i hi q => by have := HSE.out; have := HW1.out; omega))
      have HS2 := Lib.hid hS2
      have HEE := Lib.hid (show ESl V2 V2.heap.size (some ⟨nb, 0, none⟩) 2 (.cons 0 0 E0 .nil (num 0)) from ef_two0 hN2 hN2.lt)
      clear hk2 hS2 hN2
      have HXQ := HXV2
      clear hhS hgS hmS hlS hcS hhE hgE hmE hlE
      have hBq := Blk.ext HB.out HXQ.out
      have hcP := Blk.cell hBq
      have hhP := Blk.has hBq
      have hgP := Blk.gets hBq
      have hlP := hBq.lt
      go_wp2_with fail
      refine (rcell_any (⟨cn, cse, cst, cv, cs, ct, ⟨A, n, cc⟩, cpl, p.silent, cq, cpy⟩ : Pc) p ⟨#[117, 110, 107, 110, 111, 119, 110]⟩ N _ (Nat.le_trans HNW.out HXQ.out.size) (HPA.out.ext HXQ.out HNW.out)).mono ?_
      rintro e w2 ⟨he, hx2⟩
      obtain ⟨r, hr⟩ : ∃ r, r = p.vars.any (fun v => decide (v.name = ⟨#[117, 110, 107, 110, 111, 119, 110]⟩)) := ⟨_, rfl⟩
      obtain ⟨y, hy⟩ : ∃ y, y = cellX p.vars ⟨#[117, 110, 107, 110, 111, 119, 110]⟩ := ⟨_, rfl⟩
      obtain ⟨a, ha⟩ : ∃ a, a = cellN p.vars ⟨#[117, 110, 107, 110, 111, 119, 110]⟩ := ⟨_, rfl⟩
      rw [show cellRes p.vars ⟨#[117, 110, 107, 110, 111, 119, 110]⟩ = .returned (.tuple #[.int .i64 a, .agg (vcells y), .bool r]) by rw [ha, hy, hr]] at he
      subst he
      have HRR := Lib.hid hr
      clear hBq hcP hhP hgP hlP
      clear hr hy ha
      have y2 := (Kept.refl (fun _ => False) w2).alloc (.cells (vcells y) 29)
      go_upto_region 12 with (fail)
      generalize (w2.alloc (.cells (vcells y) 29)) = W2 at y2 ⊢
      generalize w2.heap.size = yb
      have HXQ := Lib.hid (HXV2.out.trans (hx2.trans y2))
      have HSQ := Lib.hid (Blk.ext HS2.out (hx2.trans y2))
      have HEQ := Lib.hid ((HEE.out.ext (hx2.trans y2) (Nat.le_refl _)).mono (hx2.trans y2).size)
      clear y2 hx2
      have hBq := Blk.ext HB.out HXQ.out
      have hcP := Blk.cell hBq
      have hhP := Blk.has hBq
      have hgP := Blk.gets hBq
      have hlP := hBq.lt
      cases r
      · by_cases hq : p.silent = ⟨#[117, 110, 107, 110, 111, 119, 110]⟩
        · have hb := str_same hq
          rw [unk_list] at hb
          clear hq
          go_wp2_with fail
          refine (told_any _ (HLW.out.ext HXQ.out)).mono ?_
          rintro e w9 ⟨rfl, hx9⟩
          go_wp2_with fail
          go_ret
          exact ⟨rfl, HX0.out.trans (HXQ.out.trans hx9)⟩
        · have hb := str_other hq
          rw [unk_list] at hb
          have HQ := Lib.hid hq
          clear hq
          obtain ⟨hn, hf, -, b, off, hA, hEv⟩ := HPA.out.params
          have hm := hf.max (by omega)
          have HN := Lib.hid (show n = p.params.length from hn)
          have HA := Lib.hid hA
          have HEV := Lib.hid hEv
          clear hn hf hA hEv
          go_wp2_with fail
          clear hBq hcP hhP hgP hlP
          clear hb
          go_loopw [11] (fun t11 wr => ∃ (j : Nat), j ≤ n ∧ t11 = .int .i64 j ∧ (∀ v ∈ p.params.take j, ¬ v.name = ⟨#[117, 110, 107, 110, 111, 119, 110]⟩) ∧ W2 = wr) (fun t11 _ => n - (intOf t11).toNat)
          case atStart => exact ⟨0, Nat.zero_le _, rfl, by simp, rfl⟩
          case round =>
            obtain ⟨j, hj, rfl, hno, hw⟩ := hrel
            subst hw
            have HNO := Lib.hid hno
            clear hno
            have hBq := Blk.ext HB.out HXQ.out
            have hcP := Blk.cell hBq
            have hhP := Blk.has hBq
            have hgP := Blk.gets hBq
            have hlP := hBq.lt
            by_cases hlt : j < n
            · have hjl : j < p.params.length := by have := HN.out; omega
              have hltI : (j : Int) < n := by omega
              obtain rfl := HA.out (by omega)
              have hrow := (HEV.out (by omega)).2.ext HXQ.out
              obtain ⟨hh', hg'⟩ := vr_at hrow j hjl
              have hc := cell_gets0 hh' hg' (by omega)
              have hbw := hrow.lt
              obtain ⟨x, hxe⟩ : ∃ x, x = p.params[j] := ⟨_, rfl⟩
              rw [← hxe] at hc
              have HX := Lib.hid hxe
              clear hrow hxe hh' hg'
              by_cases hq : x.name = ⟨#[117, 110, 107, 110, 111, 119, 110]⟩
              · have hb := str_same hq
                rw [unk_list] at hb
                clear hq
                go_wp2_with fail
                refine (told_any _ (HLW.out.ext HXQ.out)).mono ?_
                rintro e w9 ⟨rfl, hx9⟩
                go_wp2_with fail
                go_ret
                exact ⟨rfl, HX0.out.trans (HXQ.out.trans hx9)⟩
              · have hb := str_other hq
                rw [unk_list] at hb
                have HQ2 := Lib.hid hq
                clear hq
                go_wp2_with fail
                go_roundw
                case rel => exact ⟨j + 1, hlt, by go_num, by
                  intro v hv
                  rw [List.take_add_one, List.getElem?_eq_getElem hjl, ← HX.out] at hv
                  simp only [Option.toList_some, List.mem_append, List.mem_singleton] at hv
                  rcases hv with hv | rfl
                  · exact HNO.out v hv
                  · exact HQ2.out, by trivial⟩
                case measure => simp only [intOf]; omega
            · obtain rfl : j = n := by omega
              have HKN := Lib.hid (show knownIn p sUnknown = false by
                simp only [knownIn, Bool.or_eq_false_iff]
                refine ⟨⟨HRR.out.symm, decide_eq_false HQ.out⟩, List.any_eq_false.2 fun v hv => ?_⟩
                have := HNO.out v (by rw [HN.out, List.take_length]; exact hv)
                exact fun q => this (of_decide_eq_true q))
              have HFJ := Lib.hid (show check (So.part p ai ⟨1, sUnknown, (.cons 0 0 E0 .nil (num 0)), 0, 0, .nil, .nil⟩) = some ⟨6, sUnknown⟩ from unknown HRO.out.2 HRO.out.1 HKN.out ai hai 1)
              clear HRO HKN HNO HQ HRR HN HEV HA
              go_wp2_with fail
              refine (told_any _ (HLW.out.ext HXQ.out)).mono ?_
              rintro e w3 ⟨rfl, hx3⟩
              clear hBq hcP hhP hgP hlP
              have hBq := Blk.ext HB.out (HXQ.out.trans hx3)
              have hhP := Blk.has hBq
              have hgP := Blk.gets hBq
              have hlP := hBq.lt
              have hSq := Blk.ext HSQ.out hx3
              have hhS := Blk.has hSq
              have hgS := Blk.gets hSq
              have hlS := hSq.lt
              have hN3 : N ≤ w3.heap.size := Nat.le_trans HNW.out (HXQ.out.trans hx3).size
              go_wp2_with fail
              refine (part_any (⟨cn, cse, cst, cv, cs, ct, ⟨A, j, cc⟩, cpl, p.silent, cq, cpy⟩ : Pc) p ai hai 0 _ w3 (Nat.le_refl _) ((HPA.out.ext (HXQ.out.trans hx3) HNW.out).mono hN3) hcap hroom 1 sUnknown (.cons 0 0 E0 .nil (num 0)) 0 0 .nil .nil (some ⟨nb, 0, none⟩) 2 none 0 none 0 (ok64 (by decide)) (ok64 (by decide)) (ok64 (by decide)) (name_ok _ (by decide)) ((HEQ.out.ext hx3 (Nat.le_refl _)).mono hx3.size) (SSl.nil _ _ _) (SSl.nil _ _ _)).mono ?_
              rintro e w4 ⟨c2, rfl, hp2, -, -, hx4⟩
              have HP2 := Lib.hid (hp2 _ _ (Kept.refl (fun _ => False) w4) (fun _ q => q.elim))
              have HX4 := Lib.hid (HXQ.out.trans (hx3.trans hx4))
              clear hp2 hx4 hx3 hBq hhP hgP hlP hSq hhS hgS hlS hN3
              go_wp2_with fail
              refine (lcheck_any c2 _ _ w4 (Nat.le_refl _) HP2.out (HLW.out.ext HX4.out)).mono ?_
              rintro e w5 ⟨rfl, hx5⟩
              rw [HFJ.out, show fltC (some ⟨6, sUnknown⟩) = #[.int .i64 6, .string ⟨#[117, 110, 107, 110, 111, 119, 110]⟩] from rfl]
              go_wp2_with fail
              go_ret
              exact ⟨rfl, HX0.out.trans (HX4.out.trans hx5)⟩
      · go_wp2_with fail
        refine (told_any _ (HLW.out.ext HXQ.out)).mono ?_
        rintro e w9 ⟨rfl, hx9⟩
        go_wp2_with fail
        go_ret
        exact ⟨rfl, HX0.out.trans (HXQ.out.trans hx9)⟩
    · go_upto_region 11 with (fail)
      have hk2 : Kept (· = eb) V ((putAt V eb 0 (ecells 2 0 ⟨#[117, 110, 107, 110, 111, 119, 110]⟩ (some ⟨V.heap.size, 0, none⟩) 1 1)).alloc (.cells (ecells 0 0 ⟨#[]⟩ none 0 0) 36)) := (Kept.putAt (Kept.refl (· = eb) V) eb 0 _ (fun _ => rfl)).alloc _
      have hS2 : Blk ((putAt V eb 0 (ecells 2 0 ⟨#[117, 110, 107, 110, 111, 119, 110]⟩ (some ⟨V.heap.size, 0, none⟩) 1 1)).alloc (.cells (ecells 0 0 ⟨#[]⟩ none 0 0) 36)) sb 34 (scells 2 ⟨#[]⟩ (some ⟨eb, 0, none⟩) 1 1 0 0 none 0 0 none 0 0) := Blk.kept HS.out hk2 (fun e => HSE.out.2.1 e.symm)
      have hE2 : Blk ((putAt V eb 0 (ecells 2 0 ⟨#[117, 110, 107, 110, 111, 119, 110]⟩ (some ⟨V.heap.size, 0, none⟩) 1 1)).alloc (.cells (ecells 0 0 ⟨#[]⟩ none 0 0) 36)) eb 36 (ecells 2 0 ⟨#[117, 110, 107, 110, 111, 119, 110]⟩ (some ⟨V.heap.size, 0, none⟩) 1 1) := (Blk.put_ HE.out 0 (ecells 2 0 ⟨#[117, 110, 107, 110, 111, 119, 110]⟩ (some ⟨V.heap.size, 0, none⟩) 1 1)).alloc _
      have hN2 : Blk ((putAt V eb 0 (ecells 2 0 ⟨#[117, 110, 107, 110, 111, 119, 110]⟩ (some ⟨V.heap.size, 0, none⟩) 1 1)).alloc (.cells (ecells 0 0 ⟨#[]⟩ none 0 0) 36)) V.heap.size 36 (ecells 0 0 ⟨#[]⟩ none 0 0) := Blk.new' _ _ _ _ (by simp [Proofs.YtfamkemdgbnegaaDoor.putAt])
      generalize hW2 : ((putAt V eb 0 (ecells 2 0 ⟨#[117, 110, 107, 110, 111, 119, 110]⟩ (some ⟨V.heap.size, 0, none⟩) 1 1)).alloc (.cells (ecells 0 0 ⟨#[]⟩ none 0 0) 36)) = V2 at hk2 hS2 hN2 hE2 ⊢
      generalize V.heap.size = nb at hE2 hN2 ⊢
      clear hW2
      have HXV2 := Lib.hid (HXV.out.trans' hk2 (fun i hi q => by have := HSE.out; have := HW1.out; omega))
      have HS2 := Lib.hid hS2
      have HEE := Lib.hid (show ESl V2 V2.heap.size (some ⟨eb, 0, none⟩) 1 (.cons 2 0 sUnknown (num 0) .nil) from ef_one (k := num 0) hE2 hE2.lt (ok64 (by decide)) (ok64 (by decide)) (name_ok _ (by decide)) (ef_one (k := .nil) hN2 hN2.lt (ok64 (by decide)) (ok64 (by decide)) (name_ok _ (by decide)) (ESl.nil _ _ _)))
      clear hk2 hS2 hN2 hE2
      have HXQ := HXV2
      clear hhS hgS hmS hlS hcS hhE hgE hmE hlE
      have hBq := Blk.ext HB.out HXQ.out
      have hcP := Blk.cell hBq
      have hhP := Blk.has hBq
      have hgP := Blk.gets hBq
      have hlP := hBq.lt
      go_wp2_with fail
      refine (rcell_any (⟨cn, cse, cst, cv, cs, ct, ⟨A, n, cc⟩, cpl, p.silent, cq, cpy⟩ : Pc) p ⟨#[117, 110, 107, 110, 111, 119, 110]⟩ N _ (Nat.le_trans HNW.out HXQ.out.size) (HPA.out.ext HXQ.out HNW.out)).mono ?_
      rintro e w2 ⟨he, hx2⟩
      obtain ⟨r, hr⟩ : ∃ r, r = p.vars.any (fun v => decide (v.name = ⟨#[117, 110, 107, 110, 111, 119, 110]⟩)) := ⟨_, rfl⟩
      obtain ⟨y, hy⟩ : ∃ y, y = cellX p.vars ⟨#[117, 110, 107, 110, 111, 119, 110]⟩ := ⟨_, rfl⟩
      obtain ⟨a, ha⟩ : ∃ a, a = cellN p.vars ⟨#[117, 110, 107, 110, 111, 119, 110]⟩ := ⟨_, rfl⟩
      rw [show cellRes p.vars ⟨#[117, 110, 107, 110, 111, 119, 110]⟩ = .returned (.tuple #[.int .i64 a, .agg (vcells y), .bool r]) by rw [ha, hy, hr]] at he
      subst he
      have HRR := Lib.hid hr
      clear hBq hcP hhP hgP hlP
      clear hr hy ha
      have y2 := (Kept.refl (fun _ => False) w2).alloc (.cells (vcells y) 29)
      go_upto_region 12 with (fail)
      generalize (w2.alloc (.cells (vcells y) 29)) = W2 at y2 ⊢
      generalize w2.heap.size = yb
      have HXQ := Lib.hid (HXV2.out.trans (hx2.trans y2))
      have HSQ := Lib.hid (Blk.ext HS2.out (hx2.trans y2))
      have HEQ := Lib.hid ((HEE.out.ext (hx2.trans y2) (Nat.le_refl _)).mono (hx2.trans y2).size)
      clear y2 hx2
      have hBq := Blk.ext HB.out HXQ.out
      have hcP := Blk.cell hBq
      have hhP := Blk.has hBq
      have hgP := Blk.gets hBq
      have hlP := hBq.lt
      cases r
      · by_cases hq : p.silent = ⟨#[117, 110, 107, 110, 111, 119, 110]⟩
        · have hb := str_same hq
          rw [unk_list] at hb
          clear hq
          go_wp2_with fail
          refine (told_any _ (HLW.out.ext HXQ.out)).mono ?_
          rintro e w9 ⟨rfl, hx9⟩
          go_wp2_with fail
          go_ret
          exact ⟨rfl, HX0.out.trans (HXQ.out.trans hx9)⟩
        · have hb := str_other hq
          rw [unk_list] at hb
          have HQ := Lib.hid hq
          clear hq
          obtain ⟨hn, hf, -, b, off, hA, hEv⟩ := HPA.out.params
          have hm := hf.max (by omega)
          have HN := Lib.hid (show n = p.params.length from hn)
          have HA := Lib.hid hA
          have HEV := Lib.hid hEv
          clear hn hf hA hEv
          go_wp2_with fail
          clear hBq hcP hhP hgP hlP
          clear hb
          go_loopw [11] (fun t11 wr => ∃ (j : Nat), j ≤ n ∧ t11 = .int .i64 j ∧ (∀ v ∈ p.params.take j, ¬ v.name = ⟨#[117, 110, 107, 110, 111, 119, 110]⟩) ∧ W2 = wr) (fun t11 _ => n - (intOf t11).toNat)
          case atStart => exact ⟨0, Nat.zero_le _, rfl, by simp, rfl⟩
          case round =>
            obtain ⟨j, hj, rfl, hno, hw⟩ := hrel
            subst hw
            have HNO := Lib.hid hno
            clear hno
            have hBq := Blk.ext HB.out HXQ.out
            have hcP := Blk.cell hBq
            have hhP := Blk.has hBq
            have hgP := Blk.gets hBq
            have hlP := hBq.lt
            by_cases hlt : j < n
            · have hjl : j < p.params.length := by have := HN.out; omega
              have hltI : (j : Int) < n := by omega
              obtain rfl := HA.out (by omega)
              have hrow := (HEV.out (by omega)).2.ext HXQ.out
              obtain ⟨hh', hg'⟩ := vr_at hrow j hjl
              have hc := cell_gets0 hh' hg' (by omega)
              have hbw := hrow.lt
              obtain ⟨x, hxe⟩ : ∃ x, x = p.params[j] := ⟨_, rfl⟩
              rw [← hxe] at hc
              have HX := Lib.hid hxe
              clear hrow hxe hh' hg'
              by_cases hq : x.name = ⟨#[117, 110, 107, 110, 111, 119, 110]⟩
              · have hb := str_same hq
                rw [unk_list] at hb
                clear hq
                go_wp2_with fail
                refine (told_any _ (HLW.out.ext HXQ.out)).mono ?_
                rintro e w9 ⟨rfl, hx9⟩
                go_wp2_with fail
                go_ret
                exact ⟨rfl, HX0.out.trans (HXQ.out.trans hx9)⟩
              · have hb := str_other hq
                rw [unk_list] at hb
                have HQ2 := Lib.hid hq
                clear hq
                go_wp2_with fail
                go_roundw
                case rel => exact ⟨j + 1, hlt, by go_num, by
                  intro v hv
                  rw [List.take_add_one, List.getElem?_eq_getElem hjl, ← HX.out] at hv
                  simp only [Option.toList_some, List.mem_append, List.mem_singleton] at hv
                  rcases hv with hv | rfl
                  · exact HNO.out v hv
                  · exact HQ2.out, by trivial⟩
                case measure => simp only [intOf]; omega
            · obtain rfl : j = n := by omega
              have HKN := Lib.hid (show knownIn p sUnknown = false by
                simp only [knownIn, Bool.or_eq_false_iff]
                refine ⟨⟨HRR.out.symm, decide_eq_false HQ.out⟩, List.any_eq_false.2 fun v hv => ?_⟩
                have := HNO.out v (by rw [HN.out, List.take_length]; exact hv)
                exact fun q => this (of_decide_eq_true q))
              have HFJ := Lib.hid (show check (So.part p ai ⟨2, E0, (.cons 2 0 sUnknown (num 0) .nil), 0, 0, .nil, .nil⟩) = some ⟨6, sUnknown⟩ from unknown HRO.out.2 HRO.out.1 HKN.out ai hai 2)
              clear HRO HKN HNO HQ HRR HN HEV HA
              go_wp2_with fail
              refine (told_any _ (HLW.out.ext HXQ.out)).mono ?_
              rintro e w3 ⟨rfl, hx3⟩
              clear hBq hcP hhP hgP hlP
              have hBq := Blk.ext HB.out (HXQ.out.trans hx3)
              have hhP := Blk.has hBq
              have hgP := Blk.gets hBq
              have hlP := hBq.lt
              have hSq := Blk.ext HSQ.out hx3
              have hhS := Blk.has hSq
              have hgS := Blk.gets hSq
              have hlS := hSq.lt
              have hN3 : N ≤ w3.heap.size := Nat.le_trans HNW.out (HXQ.out.trans hx3).size
              go_wp2_with fail
              refine (part_any (⟨cn, cse, cst, cv, cs, ct, ⟨A, j, cc⟩, cpl, p.silent, cq, cpy⟩ : Pc) p ai hai 0 _ w3 (Nat.le_refl _) ((HPA.out.ext (HXQ.out.trans hx3) HNW.out).mono hN3) hcap hroom 2 E0 (.cons 2 0 sUnknown (num 0) .nil) 0 0 .nil .nil (some ⟨eb, 0, none⟩) 1 none 0 none 0 (ok64 (by decide)) (ok64 (by decide)) (ok64 (by decide)) (name_ok _ (by decide)) ((HEQ.out.ext hx3 (Nat.le_refl _)).mono hx3.size) (SSl.nil _ _ _) (SSl.nil _ _ _)).mono ?_
              rintro e w4 ⟨c2, rfl, hp2, -, -, hx4⟩
              have HP2 := Lib.hid (hp2 _ _ (Kept.refl (fun _ => False) w4) (fun _ q => q.elim))
              have HX4 := Lib.hid (HXQ.out.trans (hx3.trans hx4))
              clear hp2 hx4 hx3 hBq hhP hgP hlP hSq hhS hgS hlS hN3
              go_wp2_with fail
              refine (lcheck_any c2 _ _ w4 (Nat.le_refl _) HP2.out (HLW.out.ext HX4.out)).mono ?_
              rintro e w5 ⟨rfl, hx5⟩
              rw [HFJ.out, show fltC (some ⟨6, sUnknown⟩) = #[.int .i64 6, .string ⟨#[117, 110, 107, 110, 111, 119, 110]⟩] from rfl]
              go_wp2_with fail
              go_ret
              exact ⟨rfl, HX0.out.trans (HX4.out.trans hx5)⟩
      · go_wp2_with fail
        refine (told_any _ (HLW.out.ext HXQ.out)).mono ?_
        rintro e w9 ⟨rfl, hx9⟩
        go_wp2_with fail
        go_ret
        exact ⟨rfl, HX0.out.trans (HXQ.out.trans hx9)⟩
    · go_upto_region 11 with (fail)
      have HXV2 := HXV
      have HS2 := HS
      have HEE := Lib.hid (show ESl V V.heap.size (some ⟨eb, 0, none⟩) 1 (.cons 1 0 sUnknown .nil .nil) from ef_one (k := .nil) HE.out HE.out.lt (ok64 (by decide)) (ok64 (by decide)) (name_ok _ (by decide)) (ESl.nil _ _ _))
      have HXQ := HXV2
      clear hhS hgS hmS hlS hcS hhE hgE hmE hlE
      have hBq := Blk.ext HB.out HXQ.out
      have hcP := Blk.cell hBq
      have hhP := Blk.has hBq
      have hgP := Blk.gets hBq
      have hlP := hBq.lt
      go_wp2_with fail
      refine (rcell_any (⟨cn, cse, cst, cv, cs, ct, ⟨A, n, cc⟩, cpl, p.silent, cq, cpy⟩ : Pc) p ⟨#[117, 110, 107, 110, 111, 119, 110]⟩ N _ (Nat.le_trans HNW.out HXQ.out.size) (HPA.out.ext HXQ.out HNW.out)).mono ?_
      rintro e w2 ⟨he, hx2⟩
      obtain ⟨r, hr⟩ : ∃ r, r = p.vars.any (fun v => decide (v.name = ⟨#[117, 110, 107, 110, 111, 119, 110]⟩)) := ⟨_, rfl⟩
      obtain ⟨y, hy⟩ : ∃ y, y = cellX p.vars ⟨#[117, 110, 107, 110, 111, 119, 110]⟩ := ⟨_, rfl⟩
      obtain ⟨a, ha⟩ : ∃ a, a = cellN p.vars ⟨#[117, 110, 107, 110, 111, 119, 110]⟩ := ⟨_, rfl⟩
      rw [show cellRes p.vars ⟨#[117, 110, 107, 110, 111, 119, 110]⟩ = .returned (.tuple #[.int .i64 a, .agg (vcells y), .bool r]) by rw [ha, hy, hr]] at he
      subst he
      have HRR := Lib.hid hr
      clear hBq hcP hhP hgP hlP
      clear hr hy ha
      have y2 := (Kept.refl (fun _ => False) w2).alloc (.cells (vcells y) 29)
      go_upto_region 12 with (fail)
      generalize (w2.alloc (.cells (vcells y) 29)) = W2 at y2 ⊢
      generalize w2.heap.size = yb
      have HXQ := Lib.hid (HXV2.out.trans (hx2.trans y2))
      have HSQ := Lib.hid (Blk.ext HS2.out (hx2.trans y2))
      have HEQ := Lib.hid ((HEE.out.ext (hx2.trans y2) (Nat.le_refl _)).mono (hx2.trans y2).size)
      clear y2 hx2
      have hBq := Blk.ext HB.out HXQ.out
      have hcP := Blk.cell hBq
      have hhP := Blk.has hBq
      have hgP := Blk.gets hBq
      have hlP := hBq.lt
      cases r
      · by_cases hq : p.silent = ⟨#[117, 110, 107, 110, 111, 119, 110]⟩
        · have hb := str_same hq
          rw [unk_list] at hb
          clear hq
          go_wp2_with fail
          refine (told_any _ (HLW.out.ext HXQ.out)).mono ?_
          rintro e w9 ⟨rfl, hx9⟩
          go_wp2_with fail
          go_ret
          exact ⟨rfl, HX0.out.trans (HXQ.out.trans hx9)⟩
        · have hb := str_other hq
          rw [unk_list] at hb
          have HQ := Lib.hid hq
          clear hq
          obtain ⟨hn, hf, -, b, off, hA, hEv⟩ := HPA.out.params
          have hm := hf.max (by omega)
          have HN := Lib.hid (show n = p.params.length from hn)
          have HA := Lib.hid hA
          have HEV := Lib.hid hEv
          clear hn hf hA hEv
          go_wp2_with fail
          clear hBq hcP hhP hgP hlP
          clear hb
          go_loopw [11] (fun t11 wr => ∃ (j : Nat), j ≤ n ∧ t11 = .int .i64 j ∧ (∀ v ∈ p.params.take j, ¬ v.name = ⟨#[117, 110, 107, 110, 111, 119, 110]⟩) ∧ W2 = wr) (fun t11 _ => n - (intOf t11).toNat)
          case atStart => exact ⟨0, Nat.zero_le _, rfl, by simp, rfl⟩
          case round =>
            obtain ⟨j, hj, rfl, hno, hw⟩ := hrel
            subst hw
            have HNO := Lib.hid hno
            clear hno
            have hBq := Blk.ext HB.out HXQ.out
            have hcP := Blk.cell hBq
            have hhP := Blk.has hBq
            have hgP := Blk.gets hBq
            have hlP := hBq.lt
            by_cases hlt : j < n
            · have hjl : j < p.params.length := by have := HN.out; omega
              have hltI : (j : Int) < n := by omega
              obtain rfl := HA.out (by omega)
              have hrow := (HEV.out (by omega)).2.ext HXQ.out
              obtain ⟨hh', hg'⟩ := vr_at hrow j hjl
              have hc := cell_gets0 hh' hg' (by omega)
              have hbw := hrow.lt
              obtain ⟨x, hxe⟩ : ∃ x, x = p.params[j] := ⟨_, rfl⟩
              rw [← hxe] at hc
              have HX := Lib.hid hxe
              clear hrow hxe hh' hg'
              by_cases hq : x.name = ⟨#[117, 110, 107, 110, 111, 119, 110]⟩
              · have hb := str_same hq
                rw [unk_list] at hb
                clear hq
                go_wp2_with fail
                refine (told_any _ (HLW.out.ext HXQ.out)).mono ?_
                rintro e w9 ⟨rfl, hx9⟩
                go_wp2_with fail
                go_ret
                exact ⟨rfl, HX0.out.trans (HXQ.out.trans hx9)⟩
              · have hb := str_other hq
                rw [unk_list] at hb
                have HQ2 := Lib.hid hq
                clear hq
                go_wp2_with fail
                go_roundw
                case rel => exact ⟨j + 1, hlt, by go_num, by
                  intro v hv
                  rw [List.take_add_one, List.getElem?_eq_getElem hjl, ← HX.out] at hv
                  simp only [Option.toList_some, List.mem_append, List.mem_singleton] at hv
                  rcases hv with hv | rfl
                  · exact HNO.out v hv
                  · exact HQ2.out, by trivial⟩
                case measure => simp only [intOf]; omega
            · obtain rfl : j = n := by omega
              have HKN := Lib.hid (show knownIn p sUnknown = false by
                simp only [knownIn, Bool.or_eq_false_iff]
                refine ⟨⟨HRR.out.symm, decide_eq_false HQ.out⟩, List.any_eq_false.2 fun v hv => ?_⟩
                have := HNO.out v (by rw [HN.out, List.take_length]; exact hv)
                exact fun q => this (of_decide_eq_true q))
              have HFJ := Lib.hid (show check (So.part p ai ⟨2, E0, (.cons 1 0 sUnknown .nil .nil), 0, 0, .nil, .nil⟩) = some ⟨6, sUnknown⟩ from unknown HRO.out.2 HRO.out.1 HKN.out ai hai 3)
              clear HRO HKN HNO HQ HRR HN HEV HA
              go_wp2_with fail
              refine (told_any _ (HLW.out.ext HXQ.out)).mono ?_
              rintro e w3 ⟨rfl, hx3⟩
              clear hBq hcP hhP hgP hlP
              have hBq := Blk.ext HB.out (HXQ.out.trans hx3)
              have hhP := Blk.has hBq
              have hgP := Blk.gets hBq
              have hlP := hBq.lt
              have hSq := Blk.ext HSQ.out hx3
              have hhS := Blk.has hSq
              have hgS := Blk.gets hSq
              have hlS := hSq.lt
              have hN3 : N ≤ w3.heap.size := Nat.le_trans HNW.out (HXQ.out.trans hx3).size
              go_wp2_with fail
              refine (part_any (⟨cn, cse, cst, cv, cs, ct, ⟨A, j, cc⟩, cpl, p.silent, cq, cpy⟩ : Pc) p ai hai 0 _ w3 (Nat.le_refl _) ((HPA.out.ext (HXQ.out.trans hx3) HNW.out).mono hN3) hcap hroom 2 E0 (.cons 1 0 sUnknown .nil .nil) 0 0 .nil .nil (some ⟨eb, 0, none⟩) 1 none 0 none 0 (ok64 (by decide)) (ok64 (by decide)) (ok64 (by decide)) (name_ok _ (by decide)) ((HEQ.out.ext hx3 (Nat.le_refl _)).mono hx3.size) (SSl.nil _ _ _) (SSl.nil _ _ _)).mono ?_
              rintro e w4 ⟨c2, rfl, hp2, -, -, hx4⟩
              have HP2 := Lib.hid (hp2 _ _ (Kept.refl (fun _ => False) w4) (fun _ q => q.elim))
              have HX4 := Lib.hid (HXQ.out.trans (hx3.trans hx4))
              clear hp2 hx4 hx3 hBq hhP hgP hlP hSq hhS hgS hlS hN3
              go_wp2_with fail
              refine (lcheck_any c2 _ _ w4 (Nat.le_refl _) HP2.out (HLW.out.ext HX4.out)).mono ?_
              rintro e w5 ⟨rfl, hx5⟩
              rw [HFJ.out, show fltC (some ⟨6, sUnknown⟩) = #[.int .i64 6, .string ⟨#[117, 110, 107, 110, 111, 119, 110]⟩] from rfl]
              go_wp2_with fail
              go_ret
              exact ⟨rfl, HX0.out.trans (HX4.out.trans hx5)⟩
      · go_wp2_with fail
        refine (told_any _ (HLW.out.ext HXQ.out)).mono ?_
        rintro e w9 ⟨rfl, hx9⟩
        go_wp2_with fail
        go_ret
        exact ⟨rfl, HX0.out.trans (HXQ.out.trans hx9)⟩
end Go.Proofs.YtfamkemdgbnegaaDoor

/- SortsUnknown, of all that may come in. -/
namespace Go.Proofs.YtfamkemdgbnegaaDoor
open Go.RowKit Go.Deep Go.ChangeShapes Go.WideShapes So
namespace sortsUnknown
set_option maxRecDepth 100000 in
theorem walk {H : Type} {enc : TypeId × Value → H} (W : World) (base : Nat) (v0 v1 v2 : Value) (d0 d1 d2 : DataW H) (p0 p1 p2 : List MemPlace)
    (o0 : Value.okWide Tryd.prog W .any base 26 v0) (o1 : Value.okWide Tryd.prog W .any base 3 v1) (o2 : Value.okWide Tryd.prog W .any base 3 v2)
    (h0 : DataW.Trod enc Tryd.prog W 0 (fun _ => true) true 26 v0 d0 p0) (h1 : DataW.Trod enc Tryd.prog W 0 (fun _ => true) true 3 v1 d1 p1) (h2 : DataW.Trod enc Tryd.prog W 0 (fun _ => true) true 3 v2 d2 p2) (hL : laidMetH Tryd.prog Rows.sortsUnknownRow.laid W)
    (z0 : light Tryd.prog 26 d0) (_z1 : light Tryd.prog 3 d1) (_z2 : light Tryd.prog 3 d2) (hS : W.ShapedOpen Tryd.prog) :
    Calls Tryd.prog 4 #[v0, v1, v2] W fun e w' => e = .returned (.bool true) ∧ Ext W w' := by
  obtain ⟨k, rfl, rfl, rfl, _⟩ := open_int Tryd.underlying3 o1 h1
  obtain ⟨k2, rfl, rfl, rfl, _⟩ := open_int Tryd.underlying3 o2 h2
  obtain ⟨c, q, rfl, hp, hc, hr⟩ := prog_in2 o0 h0 z0
  exact lunknown_any c q k k2 W.heap.size W (Nat.le_refl _) hp (laid_at hL (five_blocks hS)) hc (hr.le (by omega))
end sortsUnknown
end Go.Proofs.YtfamkemdgbnegaaDoor
