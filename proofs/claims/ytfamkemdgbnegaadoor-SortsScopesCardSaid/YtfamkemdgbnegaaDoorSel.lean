/- Several texts joined: Ul, Vl. -/
import Derived.Test.YtfamkemdgbnegaaDoorSdn
/- SortsScopes: the walk. -/
namespace Go.Proofs.YtfamkemdgbnegaaDoor
open Go.RowKit So
theorem inn_list : (⟨#[105, 110, 110, 101, 114]⟩ : ByteArray).toList = [105, 110, 110, 101, 114] := by first | rfl | decide | simp
set_option maxRecDepth 100000 in
set_option maxHeartbeats 6000000 in
theorem lscopes_any (c : Pc) (p : Pr) (a0 : Int) (N : Nat) (w : World) (hN : N ≤ w.heap.size) (h : PAt w N c p) (hL : LaidAt w) (hcap : Caps c) (hroom : Roomy c 2) : Calls Tryd.prog 7 #[.agg c.cells, .int .i64 a0] w fun e w' => e = .returned (.bool true) ∧ Ext w w' := by
  obtain ⟨cn, cse, cst, ⟨vA, vn, vc⟩, cs, ct, ⟨A, n, cc⟩, cpl, csi, cq, cpy⟩ := c
  obtain rfl : csi = p.silent := h.silent
  have hx0 := (Kept.refl (fun _ => False) w).alloc (.cells (Pc.cells (⟨cn, cse, cst, ⟨vA, vn, vc⟩, cs, ct, ⟨A, n, cc⟩, cpl, p.silent, cq, cpy⟩ : Pc)) 26)
  have hB := Blk.new w 26 (Pc.cells (⟨cn, cse, cst, ⟨vA, vn, vc⟩, cs, ct, ⟨A, n, cc⟩, cpl, p.silent, cq, cpy⟩ : Pc))
  go_enter Tryd.func7, Tryd.ntmps7
  go_upto_region 1 with (fail)
  generalize hW : w.alloc (.cells (Pc.cells (⟨cn, cse, cst, ⟨vA, vn, vc⟩, cs, ct, ⟨A, n, cc⟩, cpl, p.silent, cq, cpy⟩ : Pc)) 26) = W at hx0 hB ⊢
  have HX0 := Lib.hid hx0
  have HB := Lib.hid hB
  have HPA := Lib.hid (h.ext hx0 hN)
  have HNW := Lib.hid (Nat.le_trans hN hx0.size)
  have HLW := Lib.hid (hL.ext hx0)
  clear hW hx0 hB h hN hL
  generalize w.heap.size = pb at HB ⊢
  have hhP := Blk.has HB.out
  have hgP := Blk.gets HB.out
  have hlP := HB.out.lt
  go_wp2_with fail
  refine (room_any (⟨cn, cse, cst, ⟨vA, vn, vc⟩, cs, ct, ⟨A, n, cc⟩, cpl, p.silent, cq, cpy⟩ : Pc) p N W HNW.out HPA.out hcap).mono ?_
  rintro e W1 ⟨rfl, hx1⟩
  have HXQ := Lib.hid hx1
  clear hx1 hhP hgP hlP
  obtain ⟨r, hr⟩ : ∃ r, r = roomB p := ⟨_, rfl⟩
  rw [← hr]
  have HRB := Lib.hid hr
  clear hr
  cases r
  · go_wp2_with fail
    refine (told_any _ (HLW.out.ext HXQ.out)).mono ?_
    rintro e w9 ⟨rfl, hx9⟩
    go_wp2_with fail
    go_ret
    exact ⟨rfl, HX0.out.trans (HXQ.out.trans hx9)⟩
  · obtain ⟨ki, hki, ea⟩ := mod5 a0
    have HRO := Lib.hid (room_of HRB.out)
    clear HRB
    obtain ⟨hn, hf, -, b1, off1, hA, hEv⟩ := HPA.out.vars
    have hm1 := hf.max (by omega)
    have HN1 := Lib.hid (show vn = p.vars.length from hn)
    have HA1 := Lib.hid hA
    have HEV1 := Lib.hid hEv
    clear hn hf hA hEv
    have hBq := Blk.ext HB.out HXQ.out
    have hcP := Blk.cell hBq
    have hhP := Blk.has hBq
    have hgP := Blk.gets hBq
    have hlP := hBq.lt
    go_wp2_with fail
    clear hBq hcP hhP hgP hlP
    go_loopw [5] (fun t5 wr => ∃ (j : Nat), j ≤ vn ∧ t5 = .int .i64 j ∧ (∀ v ∈ p.vars.take j, ¬ v.name = ⟨#[105, 110, 110, 101, 114]⟩) ∧ W1 = wr) (fun t5 _ => vn - (intOf t5).toNat)
    case atStart => exact ⟨0, Nat.zero_le _, rfl, by simp, rfl⟩
    case round =>
      obtain ⟨j, hj, rfl, hno, hw⟩ := hrel
      subst hw
      have HNO1 := Lib.hid hno
      clear hno
      have hBq := Blk.ext HB.out HXQ.out
      have hcP := Blk.cell hBq
      have hhP := Blk.has hBq
      have hgP := Blk.gets hBq
      have hlP := hBq.lt
      by_cases hlt : j < vn
      · have hjl : j < p.vars.length := by have := HN1.out; omega
        have hltI : (j : Int) < vn := by omega
        obtain rfl := HA1.out (by omega)
        have hrow := (HEV1.out (by omega)).2.ext HXQ.out
        obtain ⟨hh', hg'⟩ := vr_at hrow j hjl
        have hc := cell_gets0 hh' hg' (by omega)
        have hbw := hrow.lt
        obtain ⟨x, hxe⟩ : ∃ x, x = p.vars[j] := ⟨_, rfl⟩
        rw [← hxe] at hc
        have HX := Lib.hid hxe
        clear hrow hxe hh' hg'
        by_cases hq : x.name = ⟨#[105, 110, 110, 101, 114]⟩
        · have hb := str_same hq
          rw [inn_list] at hb
          clear hq
          go_wp2_with fail
          refine (told_any _ (HLW.out.ext HXQ.out)).mono ?_
          rintro e w9 ⟨rfl, hx9⟩
          go_wp2_with fail
          go_ret
          exact ⟨rfl, HX0.out.trans (HXQ.out.trans hx9)⟩
        · have hb := str_other hq
          rw [inn_list] at hb
          have HQ2 := Lib.hid hq
          clear hq
          go_wp2_with fail
          go_roundw
          case rel => exact ⟨j + 1, hlt, by go_num, by
            intro v hv
            rw [List.take_add_one, List.getElem?_eq_getElem hjl, ← HX.out] at hv
            simp only [Option.toList_some, List.mem_append, List.mem_singleton] at hv
            rcases hv with hv | rfl
            · exact HNO1.out v hv
            · exact HQ2.out, by trivial⟩
          case measure => simp only [intOf]; omega
      · obtain rfl : j = vn := by omega
        have HNX1 := Lib.hid (show ∀ v ∈ p.vars, ¬ v.name = ⟨#[105, 110, 110, 101, 114]⟩ from fun v hv => HNO1.out v (by rw [HN1.out, List.take_length]; exact hv))
        clear HNO1 HA1 HEV1 hlt hj
        obtain ⟨j1, hj1⟩ : ∃ k, k = j := ⟨_, rfl⟩
        subst hj1
        clear hBq hcP hhP hgP hlP
        obtain ⟨hn, hf, -, b2, off2, hA, hEv⟩ := HPA.out.params
        have hm2 := hf.max (by omega)
        have HN2 := Lib.hid (show n = p.params.length from hn)
        have HA2 := Lib.hid hA
        have HEV2 := Lib.hid hEv
        clear hn hf hA hEv
        have hBq := Blk.ext HB.out HXQ.out
        have hcP := Blk.cell hBq
        have hhP := Blk.has hBq
        have hgP := Blk.gets hBq
        have hlP := hBq.lt
        go_wp2_with fail
        clear hBq hcP hhP hgP hlP
        go_loopw [6] (fun t6 wr => ∃ (j : Nat), j ≤ n ∧ t6 = .int .i64 j ∧ (∀ v ∈ p.params.take j, ¬ v.name = ⟨#[105, 110, 110, 101, 114]⟩) ∧ W1 = wr) (fun t6 _ => n - (intOf t6).toNat)
        case atStart => exact ⟨0, Nat.zero_le _, rfl, by simp, rfl⟩
        case round =>
          obtain ⟨j, hj, rfl, hno, hw⟩ := hrel
          subst hw
          have HNO2 := Lib.hid hno
          clear hno
          have hBq := Blk.ext HB.out HXQ.out
          have hcP := Blk.cell hBq
          have hhP := Blk.has hBq
          have hgP := Blk.gets hBq
          have hlP := hBq.lt
          by_cases hlt : j < n
          · have hjl : j < p.params.length := by have := HN2.out; omega
            have hltI : (j : Int) < n := by omega
            obtain rfl := HA2.out (by omega)
            have hrow := (HEV2.out (by omega)).2.ext HXQ.out
            obtain ⟨hh', hg'⟩ := vr_at hrow j hjl
            have hc := cell_gets0 hh' hg' (by omega)
            have hbw := hrow.lt
            obtain ⟨x, hxe⟩ : ∃ x, x = p.params[j] := ⟨_, rfl⟩
            rw [← hxe] at hc
            have HX := Lib.hid hxe
            clear hrow hxe hh' hg'
            by_cases hq : x.name = ⟨#[105, 110, 110, 101, 114]⟩
            · have hb := str_same hq
              rw [inn_list] at hb
              clear hq
              go_wp2_with fail
              refine (told_any _ (HLW.out.ext HXQ.out)).mono ?_
              rintro e w9 ⟨rfl, hx9⟩
              go_wp2_with fail
              go_ret
              exact ⟨rfl, HX0.out.trans (HXQ.out.trans hx9)⟩
            · have hb := str_other hq
              rw [inn_list] at hb
              have HQ2 := Lib.hid hq
              clear hq
              go_wp2_with fail
              go_roundw
              case rel => exact ⟨j + 1, hlt, by go_num, by
                intro v hv
                rw [List.take_add_one, List.getElem?_eq_getElem hjl, ← HX.out] at hv
                simp only [Option.toList_some, List.mem_append, List.mem_singleton] at hv
                rcases hv with hv | rfl
                · exact HNO2.out v hv
                · exact HQ2.out, by trivial⟩
              case measure => simp only [intOf]; omega
          · obtain rfl : j = n := by omega
            have HNX2 := Lib.hid (show ∀ v ∈ p.params, ¬ v.name = ⟨#[105, 110, 110, 101, 114]⟩ from fun v hv => HNO2.out v (by rw [HN2.out, List.take_length]; exact hv))
            clear HNO2 HA2 HEV2 hlt hj
            obtain ⟨j2, hj2⟩ : ∃ k, k = j := ⟨_, rfl⟩
            subst hj2
            by_cases hq : p.silent = ⟨#[105, 110, 110, 101, 114]⟩
            · have hb := str_same hq
              rw [inn_list] at hb
              clear hq
              go_wp2_with fail
              refine (told_any _ (HLW.out.ext HXQ.out)).mono ?_
              rintro e w9 ⟨rfl, hx9⟩
              go_wp2_with fail
              go_ret
              exact ⟨rfl, HX0.out.trans (HXQ.out.trans hx9)⟩
            · have hb := str_other hq
              rw [inn_list] at hb
              have HQ := Lib.hid hq
              clear hq
              have HKN := Lib.hid (show knownIn p sInner = false by
                simp only [knownIn, Bool.or_eq_false_iff]
                exact ⟨⟨List.any_eq_false.2 fun v hv q => HNX1.out v hv (of_decide_eq_true q), decide_eq_false HQ.out⟩, List.any_eq_false.2 fun v hv q => HNX2.out v hv (of_decide_eq_true q)⟩)
              have HSC := Lib.hid (scopes HRO.out.2 HRO.out.1 HKN.out ki hki)
              clear HRO HKN HQ HNX1 HNX2 HN1 HN2
              have x1 := ((Kept.refl (fun _ => False) W1).alloc (.cells (ecells 1 0 ⟨#[105, 110, 110, 101, 114]⟩ none 0 0) 36)).alloc (.cells (scells 2 ⟨#[]⟩ (some ⟨W1.heap.size, 0, none⟩) 1 1 0 0 none 0 0 none 0 0) 34)
              have hE := (Blk.new W1 36 (ecells 1 0 ⟨#[105, 110, 110, 101, 114]⟩ none 0 0)).alloc (.cells (scells 2 ⟨#[]⟩ (some ⟨W1.heap.size, 0, none⟩) 1 1 0 0 none 0 0 none 0 0) 34)
              have hS := Blk.new' (W1.alloc (.cells (ecells 1 0 ⟨#[105, 110, 110, 101, 114]⟩ none 0 0) 36)) 34 (scells 2 ⟨#[]⟩ (some ⟨W1.heap.size, 0, none⟩) 1 1 0 0 none 0 0 none 0 0) (W1.heap.size + 1) (by simp)
              go_upto_region 16 with (fail)
              clear hBq hcP hhP hgP hlP
              clear hb
              generalize hV : ((W1.alloc (.cells (ecells 1 0 ⟨#[105, 110, 110, 101, 114]⟩ none 0 0) 36)).alloc (.cells (scells 2 ⟨#[]⟩ (some ⟨W1.heap.size, 0, none⟩) 1 1 0 0 none 0 0 none 0 0) 34)) = V at x1 hE hS ⊢
              clear hV
              generalize W1.heap.size + 1 = sb at hS ⊢
              generalize W1.heap.size = eb at hE hS ⊢
              have HXV := Lib.hid (HXQ.out.trans x1)
              have HS := Lib.hid hS
              have HE := Lib.hid hE
              clear x1 hE hS HXQ
              have HXQ := HXV
              have HVQ := Lib.hid (Kept.refl (fun _ => False) V)
              have HUS := Lib.hid (show ∀ w', Ext V w' → ESl w' w'.heap.size (some ⟨eb, 0, none⟩) 1 (.cons 1 0 sInner .nil .nil) from fun w' hk => ef_one (k := .nil) (Blk.ext HE.out hk) (Blk.ext HE.out hk).lt (ok64 (by decide)) (ok64 (by decide)) (name_ok _ (by decide)) (ESl.nil _ _ _))
              have hBq := Blk.ext HB.out HXQ.out
              have hcP := Blk.cell hBq
              have hhP := Blk.has hBq
              have hgP := Blk.gets hBq
              have hlP := hBq.lt
              have hSq := Blk.ext HS.out HVQ.out
              have hhS := Blk.has hSq
              have hgS := Blk.gets hSq
              have hlS := hSq.lt
              -- the first
              have y1 := (Kept.refl (fun _ => False) V).alloc (.cells (scells 2 ⟨#[]⟩ (some ⟨eb, 0, none⟩) 1 1 0 0 none 0 0 none 0 0) 34)
              have hU := Blk.new V 34 (scells 2 ⟨#[]⟩ (some ⟨eb, 0, none⟩) 1 1 0 0 none 0 0 none 0 0)
              go_wp2_with fail
              refine (part_any (⟨cn, cse, cst, ⟨vA, j1, vc⟩, cs, ct, ⟨A, j2, cc⟩, cpl, p.silent, cq, cpy⟩ : Pc) p ki hki 1 _ (V.alloc (.cells (scells 2 ⟨#[]⟩ (some ⟨eb, 0, none⟩) 1 1 0 0 none 0 0 none 0 0) 34)) (Nat.le_refl _) ((HPA.out.ext (HXQ.out.trans y1) HNW.out).mono (Nat.le_trans HNW.out (HXQ.out.trans y1).size)) hcap hroom 3 sInner .nil 1 3 (.cons 2 E0 (.cons 1 0 sInner .nil .nil) 0 0 .nil .nil .nil) .nil none 0 (some ⟨V.heap.size, 0, none⟩) 1 none 0 (ok64 (by decide)) (ok64 (by decide)) (ok64 (by decide)) (name_ok _ (by decide)) (ESl.nil _ _ _)
                (sf_one (e := .cons 1 0 sInner .nil .nil) (l := .nil) (x := .nil) hU hU.lt (ok64 (by decide)) (ok64 (by decide)) (ok64 (by decide)) (name_ok _ (by decide)) (HUS.out _ y1) (SSl.nil _ _ _) (SSl.nil _ _ _)) (SSl.nil _ _ _)).mono ?_
              rintro e w2 ⟨c1, rfl, hp1, -, -, hx2⟩
              clear hBq hcP hhP hgP hlP hSq hhS hgS hlS
              have y2 := (Kept.refl (fun _ => False) w2).alloc (.cells c1.cells 26)
              have hT := Blk.new w2 26 c1.cells
              have hp1 := hp1 _ _ y2 (fun _ q => q.elim)
              go_upto_region 18 with (fail)
              generalize (w2.alloc (.cells c1.cells 26)) = W2 at y2 hT hp1 ⊢
              generalize w2.heap.size = t9 at hT ⊢
              have HVQ := Lib.hid (y1.trans (hx2.trans y2))
              have HXQ := Lib.hid (HXV.out.trans HVQ.out)
              have HP1 := Lib.hid hp1
              have HT9 := Lib.hid hT
              clear hT hp1 y1 hx2 y2 hU
              -- the second
              have hBq := Blk.ext HB.out HXQ.out
              have hcP := Blk.cell hBq
              have hhP := Blk.has hBq
              have hgP := Blk.gets hBq
              have hlP := hBq.lt
              have hSq := Blk.ext HS.out HVQ.out
              have hhS := Blk.has hSq
              have hgS := Blk.gets hSq
              have hlS := hSq.lt
              go_wp2_with fail
              refine (part_any (⟨cn, cse, cst, ⟨vA, j1, vc⟩, cs, ct, ⟨A, j2, cc⟩, cpl, p.silent, cq, cpy⟩ : Pc) p ki hki 1 _ W2 (Nat.le_refl _) ((HPA.out.ext HXQ.out HNW.out).mono (Nat.le_trans HNW.out HXQ.out.size)) hcap hroom 2 E0 (.cons 1 0 sInner .nil .nil) 0 0 .nil .nil (some ⟨eb, 0, none⟩) 1 none 0 none 0 (ok64 (by decide)) (ok64 (by decide)) (ok64 (by decide)) (name_ok _ (by decide)) (HUS.out _ HVQ.out) (SSl.nil _ _ _) (SSl.nil _ _ _)).mono ?_
              rintro e w3 ⟨c2, rfl, hp2, hcap2, hroom2, hx3⟩
              clear hBq hcP hhP hgP hlP hSq hhS hgS hlS
              have hp2 := hp2 _ _ (Kept.refl (fun _ => False) w3) (fun _ q => q.elim)
              go_wp2_with fail
              refine (part_any c2 _ ki hki 0 _ w3 (Nat.le_refl _) hp2 hcap2 hroom2 3 sInner .nil 1 3 .nil .nil none 0 none 0 none 0 (ok64 (by decide)) (ok64 (by decide)) (ok64 (by decide)) (name_ok _ (by decide)) (ESl.nil _ _ _) (SSl.nil _ _ _) (SSl.nil _ _ _)).mono ?_
              rintro e w4 ⟨c3, rfl, hp3, -, -, hx4⟩
              have y4 := (Kept.refl (fun _ => False) w4).alloc (.cells c3.cells 26)
              have hT := Blk.new w4 26 c3.cells
              have hp3 := hp3 _ _ y4 (fun _ q => q.elim)
              clear hp2 hcap2 hroom2
              go_upto_region 19 with (fail)
              generalize (w4.alloc (.cells c3.cells 26)) = W3 at y4 hT hp3 ⊢
              generalize w4.heap.size = t10 at hT ⊢
              have HMV := Lib.hid (hx3.trans (hx4.trans y4))
              have HP1 := Lib.hid ((HP1.out.ext HMV.out (Nat.le_refl _)).mono HMV.out.size)
              have HT9 := Lib.hid (Blk.ext HT9.out HMV.out)
              have HVQ := Lib.hid (HVQ.out.trans HMV.out)
              have HXQ := Lib.hid (HXQ.out.trans HMV.out)
              have HP2 := Lib.hid hp3
              have HT10 := Lib.hid hT
              clear hT hp3 hx3 hx4 y4 HMV
              -- the third
              have hBq := Blk.ext HB.out HXQ.out
              have hcP := Blk.cell hBq
              have hhP := Blk.has hBq
              have hgP := Blk.gets hBq
              have hlP := hBq.lt
              have hSq := Blk.ext HS.out HVQ.out
              have hhS := Blk.has hSq
              have hgS := Blk.gets hSq
              have hlS := hSq.lt
              have y1 := ((Kept.refl (fun _ => False) W3).alloc (.cells (ecells 0 0 ⟨#[]⟩ none 0 0) 36)).alloc (.cells (scells 0 ⟨#[105, 110, 110, 101, 114]⟩ (some ⟨W3.heap.size, 0, none⟩) 1 1 0 0 none 0 0 none 0 0) 34)
              have hE1 := (Blk.new W3 36 (ecells 0 0 ⟨#[]⟩ none 0 0)).alloc (.cells (scells 0 ⟨#[105, 110, 110, 101, 114]⟩ (some ⟨W3.heap.size, 0, none⟩) 1 1 0 0 none 0 0 none 0 0) 34)
              have hU := Blk.new' (W3.alloc (.cells (ecells 0 0 ⟨#[]⟩ none 0 0) 36)) 34 (scells 0 ⟨#[105, 110, 110, 101, 114]⟩ (some ⟨W3.heap.size, 0, none⟩) 1 1 0 0 none 0 0 none 0 0) (W3.heap.size + 1) (by simp)
              go_wp2_with fail
              refine (part_any (⟨cn, cse, cst, ⟨vA, j1, vc⟩, cs, ct, ⟨A, j2, cc⟩, cpl, p.silent, cq, cpy⟩ : Pc) p ki hki 1 _ ((W3.alloc (.cells (ecells 0 0 ⟨#[]⟩ none 0 0) 36)).alloc (.cells (scells 0 ⟨#[105, 110, 110, 101, 114]⟩ (some ⟨W3.heap.size, 0, none⟩) 1 1 0 0 none 0 0 none 0 0) 34)) (Nat.le_refl _) ((HPA.out.ext (HXQ.out.trans y1) HNW.out).mono (Nat.le_trans HNW.out (HXQ.out.trans y1).size)) hcap hroom 3 sInner .nil 1 3 (.cons 0 sInner (num 0) 0 0 .nil .nil .nil) .nil none 0 (some ⟨W3.heap.size + 1, 0, none⟩) 1 none 0 (ok64 (by decide)) (ok64 (by decide)) (ok64 (by decide)) (name_ok _ (by decide)) (ESl.nil _ _ _)
                (sf_one (e := num 0) (l := .nil) (x := .nil) hU hU.lt (ok64 (by decide)) (ok64 (by decide)) (ok64 (by decide)) (name_ok _ (by decide)) (ef_one (k := .nil) hE1 hE1.lt (ok64 (by decide)) (ok64 (by decide)) (name_ok _ (by decide)) (ESl.nil _ _ _)) (SSl.nil _ _ _) (SSl.nil _ _ _)) (SSl.nil _ _ _)).mono ?_
              rintro e w2 ⟨c4, rfl, hp4, -, -, hx2⟩
              clear hBq hcP hhP hgP hlP hSq hhS hgS hlS
              have y2 := (Kept.refl (fun _ => False) w2).alloc (.cells c4.cells 26)
              have hT := Blk.new w2 26 c4.cells
              have hp4 := hp4 _ _ y2 (fun _ q => q.elim)
              go_upto_region 20 with (fail)
              generalize (w2.alloc (.cells c4.cells 26)) = W4 at y2 hT hp4 ⊢
              generalize w2.heap.size = t11 at hT ⊢
              have HMV := Lib.hid (y1.trans (hx2.trans y2))
              have HP1 := Lib.hid ((HP1.out.ext HMV.out (Nat.le_refl _)).mono HMV.out.size)
              have HP2 := Lib.hid ((HP2.out.ext HMV.out (Nat.le_refl _)).mono HMV.out.size)
              have HT9 := Lib.hid (Blk.ext HT9.out HMV.out)
              have HT10 := Lib.hid (Blk.ext HT10.out HMV.out)
              have HVQ := Lib.hid (HVQ.out.trans HMV.out)
              have HXQ := Lib.hid (HXQ.out.trans HMV.out)
              have HP3 := Lib.hid hp4
              have HT11 := Lib.hid hT
              clear hT hp4 hx2 y1 y2 hU hE1 HMV
              -- the fourth
              have hBq := Blk.ext HB.out HXQ.out
              have hcP := Blk.cell hBq
              have hhP := Blk.has hBq
              have hgP := Blk.gets hBq
              have hlP := hBq.lt
              have hSq := Blk.ext HS.out HVQ.out
              have hhS := Blk.has hSq
              have hgS := Blk.gets hSq
              have hlS := hSq.lt
              have y1 := (Kept.refl (fun _ => False) W4).alloc (.cells (scells 3 ⟨#[105, 110, 110, 101, 114]⟩ none 0 0 0 1 none 0 0 none 0 0) 34)
              have hU := Blk.new W4 34 (scells 3 ⟨#[105, 110, 110, 101, 114]⟩ none 0 0 0 1 none 0 0 none 0 0)
              go_wp2_with fail
              refine (part_any (⟨cn, cse, cst, ⟨vA, j1, vc⟩, cs, ct, ⟨A, j2, cc⟩, cpl, p.silent, cq, cpy⟩ : Pc) p ki hki 1 _ (W4.alloc (.cells (scells 3 ⟨#[105, 110, 110, 101, 114]⟩ none 0 0 0 1 none 0 0 none 0 0) 34)) (Nat.le_refl _) ((HPA.out.ext (HXQ.out.trans y1) HNW.out).mono (Nat.le_trans HNW.out (HXQ.out.trans y1).size)) hcap hroom 3 sInner .nil 1 3 (.cons 3 sInner .nil 0 1 .nil .nil .nil) .nil none 0 (some ⟨W4.heap.size, 0, none⟩) 1 none 0 (ok64 (by decide)) (ok64 (by decide)) (ok64 (by decide)) (name_ok _ (by decide)) (ESl.nil _ _ _)
                (sf_one (e := .nil) (l := .nil) (x := .nil) hU hU.lt (ok64 (by decide)) (ok64 (by decide)) (ok64 (by decide)) (name_ok _ (by decide)) (ESl.nil _ _ _) (SSl.nil _ _ _) (SSl.nil _ _ _)) (SSl.nil _ _ _)).mono ?_
              rintro e w2 ⟨c5, rfl, hp5, -, -, hx2⟩
              clear hBq hcP hhP hgP hlP hSq hhS hgS hlS
              have y2 := (Kept.refl (fun _ => False) w2).alloc (.cells c5.cells 26)
              have hT := Blk.new w2 26 c5.cells
              have hp5 := hp5 _ _ y2 (fun _ q => q.elim)
              go_upto_region 21 with (fail)
              generalize (w2.alloc (.cells c5.cells 26)) = W5 at y2 hT hp5 ⊢
              generalize w2.heap.size = t12 at hT ⊢
              have HMV := Lib.hid (y1.trans (hx2.trans y2))
              have HP1 := Lib.hid ((HP1.out.ext HMV.out (Nat.le_refl _)).mono HMV.out.size)
              have HP2 := Lib.hid ((HP2.out.ext HMV.out (Nat.le_refl _)).mono HMV.out.size)
              have HP3 := Lib.hid ((HP3.out.ext HMV.out (Nat.le_refl _)).mono HMV.out.size)
              have HT9 := Lib.hid (Blk.ext HT9.out HMV.out)
              have HT10 := Lib.hid (Blk.ext HT10.out HMV.out)
              have HT11 := Lib.hid (Blk.ext HT11.out HMV.out)
              have HXQ := Lib.hid (HXQ.out.trans HMV.out)
              have HP4 := Lib.hid hp5
              have HT12 := Lib.hid hT
              clear hT hp5 hx2 y1 y2 hU HMV HVQ
              have HF1 := Lib.hid (show check (So.part p ki ⟨3, sInner, .nil, 1, 3, .cons 2 E0 (.cons 1 0 sInner .nil .nil) 0 0 .nil .nil .nil, .nil⟩) = none from HSC.out.1)
              have HF2 := Lib.hid (show check (So.part (So.part p ki ⟨2, E0, .cons 1 0 sInner .nil .nil, 0, 0, .nil, .nil⟩) ki ⟨3, sInner, .nil, 1, 3, .nil, .nil⟩) = some ⟨6, sInner⟩ from HSC.out.2.1)
              have HF3 := Lib.hid (show check (So.part p ki ⟨3, sInner, .nil, 1, 3, .cons 0 sInner (num 0) 0 0 .nil .nil .nil, .nil⟩) = some ⟨11, sInner⟩ from HSC.out.2.2.1)
              have HF4 := Lib.hid (show check (So.part p ki ⟨3, sInner, .nil, 1, 3, .cons 3 sInner .nil 0 1 .nil .nil .nil, .nil⟩) = some ⟨7, sInner⟩ from HSC.out.2.2.2)
              clear HSC
              go_wp2_with fail
              refine (told_any _ (HLW.out.ext HXQ.out)).mono ?_
              rintro e w6 ⟨rfl, hx6⟩
              have HYQ := Lib.hid hx6
              clear hx6
              have hTq := Blk.ext HT9.out HYQ.out
              have hhT := Blk.has hTq
              have hgT := Blk.gets hTq
              have hlT := hTq.lt
              go_wp2_with fail
              clear hTq hhT hgT hlT
              refine (lcheck_any c1 _ _ _ HYQ.out.size (HP1.out.ext HYQ.out (Nat.le_refl _)) (HLW.out.ext (HXQ.out.trans HYQ.out))).mono ?_
              rintro e w7 ⟨rfl, hx7⟩
              rw [HF1.out, show fltC none = #[.int .i64 0, .string ⟨#[]⟩] from rfl]
              have HYQ := Lib.hid (HYQ.out.trans hx7)
              clear hx7
              have hTq := Blk.ext HT10.out HYQ.out
              have hhT := Blk.has hTq
              have hgT := Blk.gets hTq
              have hlT := hTq.lt
              go_wp2_with fail
              clear hTq hhT hgT hlT
              refine (lcheck_any c3 _ _ _ HYQ.out.size (HP2.out.ext HYQ.out (Nat.le_refl _)) (HLW.out.ext (HXQ.out.trans HYQ.out))).mono ?_
              rintro e w7 ⟨rfl, hx7⟩
              rw [HF2.out, show fltC (some ⟨6, sInner⟩) = #[.int .i64 6, .string ⟨#[105, 110, 110, 101, 114]⟩] from rfl]
              have HYQ := Lib.hid (HYQ.out.trans hx7)
              clear hx7
              have hTq := Blk.ext HT11.out HYQ.out
              have hhT := Blk.has hTq
              have hgT := Blk.gets hTq
              have hlT := hTq.lt
              go_wp2_with fail
              clear hTq hhT hgT hlT
              refine (lcheck_any c4 _ _ _ HYQ.out.size (HP3.out.ext HYQ.out (Nat.le_refl _)) (HLW.out.ext (HXQ.out.trans HYQ.out))).mono ?_
              rintro e w7 ⟨rfl, hx7⟩
              rw [HF3.out, show fltC (some ⟨11, sInner⟩) = #[.int .i64 11, .string ⟨#[105, 110, 110, 101, 114]⟩] from rfl]
              have HYQ := Lib.hid (HYQ.out.trans hx7)
              clear hx7
              have hTq := Blk.ext HT12.out HYQ.out
              have hhT := Blk.has hTq
              have hgT := Blk.gets hTq
              have hlT := hTq.lt
              go_wp2_with fail
              clear hTq hhT hgT hlT
              refine (lcheck_any c5 _ _ _ HYQ.out.size (HP4.out.ext HYQ.out (Nat.le_refl _)) (HLW.out.ext (HXQ.out.trans HYQ.out))).mono ?_
              rintro e w7 ⟨rfl, hx7⟩
              rw [HF4.out, show fltC (some ⟨7, sInner⟩) = #[.int .i64 7, .string ⟨#[105, 110, 110, 101, 114]⟩] from rfl]
              have HYQ := Lib.hid (HYQ.out.trans hx7)
              clear hx7
              go_wp2_with fail
              go_ret
              exact ⟨rfl, HX0.out.trans (HXQ.out.trans HYQ.out)⟩
end Go.Proofs.YtfamkemdgbnegaaDoor

/- SortsScopes, of all that may come in. -/
namespace Go.Proofs.YtfamkemdgbnegaaDoor
open Go.RowKit Go.Deep Go.ChangeShapes Go.WideShapes So
namespace sortsScopes
set_option maxRecDepth 100000 in
theorem walk {H : Type} {enc : TypeId × Value → H} (W : World) (base : Nat) (v0 v1 : Value) (d0 d1 : DataW H) (p0 p1 : List MemPlace)
    (o0 : Value.okWide Tryd.prog W .any base 26 v0) (o1 : Value.okWide Tryd.prog W .any base 3 v1)
    (h0 : DataW.Trod enc Tryd.prog W 0 (fun _ => true) true 26 v0 d0 p0) (h1 : DataW.Trod enc Tryd.prog W 0 (fun _ => true) true 3 v1 d1 p1) (hL : laidMetH Tryd.prog Rows.sortsScopesRow.laid W)
    (z0 : light Tryd.prog 26 d0) (_z1 : light Tryd.prog 3 d1) (hS : W.ShapedOpen Tryd.prog) :
    Calls Tryd.prog 7 #[v0, v1] W fun e w' => e = .returned (.bool true) ∧ Ext W w' := by
  obtain ⟨k, rfl, rfl, rfl, _⟩ := open_int Tryd.underlying3 o1 h1
  obtain ⟨c, q, rfl, hp, hc, hr⟩ := prog_in2 o0 h0 z0
  exact lscopes_any c q k W.heap.size W (Nat.le_refl _) hp (laid_at hL (five_blocks hS)) hc hr
end sortsScopes
end Go.Proofs.YtfamkemdgbnegaaDoor
