/- Several texts joined: Um, Vm. -/
import Derived.Test.YtfamkemdgbnegaaDoorSdn
/- SortsPlaces: the walk. -/
namespace Go.Proofs.YtfamkemdgbnegaaDoor
open Go.RowKit So
def numsF : Nat → EF | 0 => .nil | 1 => .cons 0 0 E0 .nil .nil | _ => .cons 0 0 E0 .nil (.cons 0 1 E0 .nil .nil)
def numsL : Nat → List Ec | 0 => [] | 1 => [⟨0, 0, ⟨#[]⟩, none, 0, 0⟩] | _ => [⟨0, 0, ⟨#[]⟩, none, 0, 0⟩, ⟨0, 1, ⟨#[]⟩, none, 0, 0⟩]
theorem numsL_succ (j : Nat) (hj : j < 2) : numsL (j + 1) = numsL j ++ [⟨0, j, ⟨#[]⟩, none, 0, 0⟩] := by
  rcases (by omega : j = 0 ∨ j = 1) with rfl | rfl <;> rfl
theorem EsIn_nil (w : World) (D : Nat → Prop) : EsIn w D none 0 .nil := ⟨rfl, by unfold Fits; omega, 0, 0, fun h => absurd h (by omega), trivial⟩
theorem nums_in (w : World) (D : Nat → Prop) (j : Nat) (hj : j ≤ 2) : EcsIn w D (numsL j) (numsF j) := by
  rcases (by omega : j = 0 ∨ j = 1 ∨ j = 2) with rfl | rfl | rfl
  · trivial
  · exact ⟨rfl, rfl, rfl, ok64 (by decide), ok64 (by decide), name_ok _ (by decide), EsIn_nil w D, trivial⟩
  · exact ⟨rfl, rfl, rfl, ok64 (by decide), ok64 (by decide), name_ok _ (by decide), EsIn_nil w D, rfl, rfl, rfl, ok64 (by decide), ok64 (by decide), name_ok _ (by decide), EsIn_nil w D, trivial⟩
theorem numsF_len (j : Nat) (hj : j ≤ 2) : (numsF j).len = j := by
  rcases (by omega : j = 0 ∨ j = 1 ∨ j = 2) with rfl | rfl | rfl <;> rfl
theorem nums_at {w : World} {base : Nat} {T : TypeId} {B : Option Addr} {j bc : Nat} (ho : w.ownsRow base T 4 (.slice B j bc) j (rowsL Ec.cells (numsL j))) (hj : j ≤ 2) : ESl w w.heap.size B j (numsF j) := by
  by_cases h0 : 0 < j
  · obtain ⟨g, c, e, hr, -, -⟩ := own_rows ho h0 (by omega)
    injection e with e1 e2 e3
    subst e1
    exact ⟨(numsF_len j hj).symm, by unfold Fits; omega, g, 0, fun _ => rfl, (EcsIn.shut (D := (· < w.heap.size)) hr.lt (nums_in w _ j hj) (fun _ => hr)).at_ (fun i hi => hi)⟩
  · obtain rfl : j = 0 := by omega
    exact ESl.nil _ _ _
set_option maxRecDepth 100000 in
set_option maxHeartbeats 8000000 in
theorem lplaces_any (c : Pc) (p : Pr) (k0 : Int) (N : Nat) (w : World) (hN : N ≤ w.heap.size) (h : PAt w N c p) (hL : LaidAt w) (hcap : Caps c) (hroom : Roomy c 1) : Calls Tryd.prog 3 #[.agg c.cells, .int .i64 k0] w fun e w' => e = .returned (.bool true) ∧ Ext w w' := by
  obtain ⟨cn, cse, cst, ⟨vA, vn, vc⟩, cs, ct, cpa, cpl, csi, cq, cpy⟩ := c
  have hx0 := (Kept.refl (fun _ => False) w).alloc (.cells (Pc.cells (⟨cn, cse, cst, ⟨vA, vn, vc⟩, cs, ct, cpa, cpl, csi, cq, cpy⟩ : Pc)) 26)
  have hB := Blk.new w 26 (Pc.cells (⟨cn, cse, cst, ⟨vA, vn, vc⟩, cs, ct, cpa, cpl, csi, cq, cpy⟩ : Pc))
  go_enter Tryd.func3, Tryd.ntmps3
  go_upto_region 1 with (fail)
  generalize hW : w.alloc (.cells (Pc.cells (⟨cn, cse, cst, ⟨vA, vn, vc⟩, cs, ct, cpa, cpl, csi, cq, cpy⟩ : Pc)) 26) = W at hx0 hB ⊢
  have HX0 := Lib.hid hx0
  have HB := Lib.hid hB
  have HPA := Lib.hid (h.ext hx0 hN)
  have HNW := Lib.hid (Nat.le_trans hN hx0.size)
  have HLW := Lib.hid (hL.ext hx0)
  clear hW hx0 hB h hN hL
  generalize w.heap.size = pb at HB ⊢
  have hhP := Blk.has HB.out
  have hgP := Blk.gets HB.out
  have hlP := HB.out.lt
  go_wp2_with fail
  refine (room_any (⟨cn, cse, cst, ⟨vA, vn, vc⟩, cs, ct, cpa, cpl, csi, cq, cpy⟩ : Pc) p N W HNW.out HPA.out hcap).mono ?_
  rintro e W1 ⟨rfl, hx1⟩
  have HXQ := Lib.hid hx1
  clear hx1 hhP hgP hlP
  obtain ⟨r, hr⟩ : ∃ r, r = roomB p := ⟨_, rfl⟩
  rw [← hr]
  have HRB := Lib.hid hr
  clear hr
  have hBq := Blk.ext HB.out HXQ.out
  have hcP := Blk.cell hBq
  have hhP := Blk.has hBq
  have hgP := Blk.gets hBq
  have hlP := hBq.lt
  cases r
  · go_wp2_with fail
    refine (told_any _ (HLW.out.ext HXQ.out)).mono ?_
    rintro e w9 ⟨rfl, hx9⟩
    go_wp2_with fail
    go_ret
    exact ⟨rfl, HX0.out.trans (HXQ.out.trans hx9)⟩
  · have HRO := Lib.hid (room_of HRB.out)
    clear HRB
    obtain ⟨hn, hf, hok, vb, vo, hA, hE⟩ := HPA.out.vars
    have hm := hf.max (by omega)
    by_cases hv : vn = 0
    · have hvb : ((vn : Int) == 0) = true := by simp [hv]
      clear hA hE hf hn hv hok hm
      go_wp2_with fail
      refine (told_any _ (HLW.out.ext HXQ.out)).mono ?_
      rintro e w9 ⟨rfl, hx9⟩
      go_wp2_with fail
      go_ret
      exact ⟨rfl, HX0.out.trans (HXQ.out.trans hx9)⟩
    · have hvb : ((vn : Int) == 0) = false := by simp; omega
      obtain rfl := hA (Nat.pos_of_ne_zero hv)
      obtain ⟨v, r, hvp⟩ : ∃ v r, p.vars = v :: r := by
        cases hq : p.vars with
        | nil => rw [hq] at hn; exact absurd hn hv
        | cons v r => exact ⟨v, r, rfl⟩
      have hrow := (hE (Nat.pos_of_ne_zero hv)).2
      have HVL := Lib.hid hrow.lt
      have HVK := Lib.hid (show v.name.size ≤ maxLen from (hok v (by rw [hvp]; simp)).name)
      have HVC := Lib.hid (show ∀ w', Ext W w' → w'.cell? ⟨vb, vo, none⟩ = some (.string v.name) ∧ w'.cell? ⟨vb, vo + 1, none⟩ = some (.int .i64 v.size) from fun w' hk => by
        obtain ⟨h1, h2⟩ := vr_at (hrow.ext hk) 0 (by rw [hvp]; simp)
        simp only [hvp, List.getElem_cons_zero, Nat.zero_mul, Nat.add_zero] at h1 h2
        exact ⟨cell_gets0 h1 h2 (by omega), cell_gets h1 h2 1 (by omega)⟩)
      have HVN := Lib.hid (show 0 < vn by omega)
      have HVP := Lib.hid hvp
      clear hA hE hf hn hv hok hrow hvp
      obtain ⟨hc0, hc1⟩ := HVC.out _ HXQ.out
      have hvl := Nat.lt_of_lt_of_le HVL.out HXQ.out.size
      have hvn : (0 : Int) < vn := by have := HVN.out; omega
      by_cases hz : v.size = 0
      · have hzb : (v.size == 0) = true := by simp [hz]
        have hzn : (v.size != 0) = false := by unfold bne; rw [hzb]; rfl
        have HZ0 := Lib.hid hz
        clear hz
        obtain ⟨ki, hki, ea⟩ := mod5 k0
        go_upto_region 3 with (fail)
        clear hvb hvn
        rcases (by omega : ki = 0 ∨ ki = 1 ∨ ki = 2 ∨ ki = 3 ∨ ki = 4) with rfl | rfl | rfl | rfl | rfl
        ·
          have x1 := ((Kept.refl (fun _ => False) W1).alloc (.cells #[.int .i64 4, .int .i64 5, .int .i64 6, .int .i64 7, .int .i64 8] 3)).alloc (.cells (scells 4 ⟨#[]⟩ none 0 0 0 0 none 0 0 none 0 0) 34)
          have hS := Blk.new' (W1.alloc (.cells #[.int .i64 4, .int .i64 5, .int .i64 6, .int .i64 7, .int .i64 8] 3)) 34 (scells 4 ⟨#[]⟩ none 0 0 0 0 none 0 0 none 0 0) (W1.heap.size + 1) (by simp)
          go_upto_region 5 with (fail)
          generalize hV : ((W1.alloc (.cells #[.int .i64 4, .int .i64 5, .int .i64 6, .int .i64 7, .int .i64 8] 3)).alloc (.cells (scells 4 ⟨#[]⟩ none 0 0 0 0 none 0 0 none 0 0) 34)) = X0 at x1 hS ⊢
          clear hV
          obtain ⟨sb, hsb⟩ : ∃ sb, sb = W1.heap.size + 1 := ⟨_, rfl⟩
          rw [← hsb] at hS ⊢
          have HSB := Lib.hid (show W1.heap.size ≤ sb by omega)
          have HX1 := Lib.hid x1
          clear hBq hcP hhP hgP hlP
          clear x1 hsb hc0 hc1 hzn hzb hvl ea
          go_upto_region 7 with (fail)
          have HSX := Lib.hid hS
          have HXX := HX1
          clear hS
          generalize X0 = X1 at HSX HXX ⊢
          go_wp2_with fail
          go_loopw [7] (fun t7 wr => ∃ (j : Nat) (B : Option Addr) (bc : Nat), j ≤ 0 ∧ t7 = .int .i64 j ∧ Blk wr sb 34 (scells 4 ⟨#[]⟩ B j bc 0 0 none 0 0 none 0 0) ∧ wr.ownsRow (sb + 1) 36 4 (.slice B j bc) j (rowsL Ec.cells (numsL j)) ∧ Ext W1 wr) (fun t7 _ => 0 - (intOf t7).toNat)
          case atStart => exact ⟨0, none, 0, Nat.zero_le _, rfl, HSX.out, World.ownsRow_nil _ _ _ _, HXX.out⟩
          case round =>
            obtain ⟨j, B, bc, hj, rfl, hs, how, hx⟩ := hrel
            have HSJ := Lib.hid hs
            have HOW := Lib.hid how
            have HXJ := Lib.hid hx
            clear hs how hx
            obtain rfl : j = 0 := by omega
            have y1 : Ext wr (wr.alloc (.cells #[.int .i64 0, .int .i64 0, .int .i64 0, .int .i64 0, .int .i64 0, .int .i64 0, .int .i64 1, .int .i64 0, .int .i64 2] 3)) := (Kept.refl (fun _ => False) wr).alloc _
            have hsz := Blk.ext HSJ.out y1
            have hez := nums_at (own_ext HOW.out y1) (by omega)
            go_upto_region 12 with (fail)
            try simp only [show ((0 : Nat) : Int) = (0 : Int) from rfl]
            generalize (wr.alloc (.cells #[.int .i64 0, .int .i64 0, .int .i64 0, .int .i64 0, .int .i64 0, .int .i64 0, .int .i64 1, .int .i64 0, .int .i64 2] 3)) = X2 at y1 hsz hez ⊢
            have HXQ := Lib.hid (HXQ.out.trans (HXJ.out.trans y1))
            have HS := Lib.hid hsz
            have HE := Lib.hid hez
            have HPL := Lib.hid (fun i (hi : i < 5) => show check (So.part p i ⟨4, E0, numsF 0, 0, 0, .nil, .nil⟩) = if bad 4 i = true then some ⟨10, partName i⟩ else none from places HRO.out.2 HRO.out.1 HVP.out HZ0.out 4 (by omega) i hi)
            clear y1 hsz hez HSX HXX HXJ HOW HSJ HSB HX1 hj
            go_loopw [8] (fun t8 wr => ∃ (i : Nat), i ≤ 5 ∧ t8 = .int .i64 i ∧ Ext X2 wr) (fun t8 _ => 5 - (intOf t8).toNat)
            case atStart => exact ⟨0, by omega, rfl, Kept.refl _ _⟩
            case round =>
              obtain ⟨i, hi5, rfl, hx⟩ := hrel
              have HXI := Lib.hid hx
              clear hx
              by_cases hlt : i < 5
              · have hltI : (i : Int) < 5 := by omega
                by_cases hio : i = 2
                · have hib : ((i : Int) == 2) = true := by simp [hio]
                  have hin : ((i : Int) != 2) = false := by unfold bne; rw [hib]; rfl
                  have HFJ := Lib.hid (show check (So.part p i ⟨4, E0, numsF 0, 0, 0, .nil, .nil⟩) = none from by rw [HPL.out i hlt, hio]; rfl)
                  clear hio
                  have y2 := (Kept.refl (fun _ => False) wr).alloc (.cells #[.int .i64 0, .string ⟨#[]⟩] 38)
                  have hF := Blk.new wr 38 #[.int .i64 0, .string ⟨#[]⟩]
                  go_upto_region 17 with (fail)
                  generalize (wr.alloc (.cells #[.int .i64 0, .string ⟨#[]⟩] 38)) = X9 at y2 hF ⊢
                  generalize wr.heap.size = fb at hF ⊢
                  have HX9 := Lib.hid (HXI.out.trans y2)
                  have HXV := Lib.hid (HXQ.out.trans HX9.out)
                  have HS9 := Lib.hid (Blk.ext HS.out HX9.out)
                  have HF9 := Lib.hid hF
                  clear y2 hF
                  have HXR := Lib.hid (HX9.out)
                  refine wp_region_3 (fun w1 => Ext X9 w1) [(0, 1), (1, 2), (2, 1), (5, 1), (3, 0), (4, 0), (6, 2)] (by kernel_rfl) (by kernel_rfl) (by kernel_rfl) (by kernel_rfl) ?_; intro l' hl'; simp only [List.map_cons, List.map_nil, List.getD_cons_zero, List.getD_cons_succ] at hl'; subst hl'
                  have HY0 := Lib.hid (show Ext X9 X9.drew from (Kept.refl _ X9).drew)
                  (repeat (first | ((apply w3_pure); (· go_simp); (· (intro w1; go_simp; try with_reducible rfl)); (intro K hK; go_simp; refine hK _ _ ?_; clear hK K)) | ((apply w3_skip); (· go_simp); (intro K hK; go_simp; refine hK _ _ ?_; clear hK K)) | ((apply w3_take); (· exact HY0.out); (· go_simp); (· (intro w1 hS; have d0 := Blk.ext HB.out (HXV.out.trans hS); have d1 := Blk.gets d0; have d2 := Blk.has d0; have d3 := d0.lt; have d4 := Blk.ext HS9.out hS; have d5 := Blk.gets d4; have d6 := Blk.has d4; have d7 := d4.lt; have e4 := Blk.ext HF9.out hS; have e5 := Blk.gets e4; have e6 := Blk.has e4; have e7 := e4.lt;  go_simp; try with_reducible rfl)); (intro K hK; go_simp; refine hK _ _ ?_; clear hK K)) | ((apply w3_pass); (· exact HY0.out); (· go_simp); (intro K hK; go_simp; refine hK _ _ ?_; clear hK K))))
                  (refine w3_act (fun K hK => ?_); go_simp)
                  refine (part_any (⟨cn, cse, cst, ⟨some ⟨vb, vo, none⟩, vn, vc⟩, cs, ct, cpa, cpl, csi, cq, cpy⟩ : Pc) p i hlt 0 _ _ (Nat.le_refl _) ((HPA.out.ext (HXV.out.trans HY0.out) HNW.out).mono (Nat.le_trans HNW.out (HXV.out.trans HY0.out).size)) hcap hroom 4 E0 (numsF 0) 0 0 .nil .nil B bc none 0 none 0 (ok64 (by decide)) (ok64 (by decide)) (ok64 (by decide)) (name_ok _ (by decide)) ((HE.out.ext (HX9.out.trans HY0.out) (Nat.le_refl _)).mono (HX9.out.trans HY0.out).size) (SSl.nil _ _ _) (SSl.nil _ _ _)).mono ?_
                  rintro e w7 ⟨c2, rfl, hp2, -, -, hx7⟩
                  have HP2 := Lib.hid (hp2 _ _ (Kept.refl (fun _ => False) w7) (fun _ q => q.elim))
                  have HY1 := Lib.hid (HY0.out.trans hx7)
                  clear hp2 hx7
                  refine hK.out _ _ (fun _ => HY1.out) ?_
                  clear hK K
                  (repeat (first | ((apply w3_pure); (· go_simp); (· (intro w1; go_simp; try with_reducible rfl)); (intro K hK; go_simp; refine hK _ _ ?_; clear hK K)) | ((apply w3_skip); (· go_simp); (intro K hK; go_simp; refine hK _ _ ?_; clear hK K)) | ((apply w3_take); (· exact HY1.out); (· go_simp); (· (intro w1 hS; have d0 := Blk.ext HB.out (HXV.out.trans hS); have d1 := Blk.gets d0; have d2 := Blk.has d0; have d3 := d0.lt; have d4 := Blk.ext HS9.out hS; have d5 := Blk.gets d4; have d6 := Blk.has d4; have d7 := d4.lt; have e4 := Blk.ext HF9.out hS; have e5 := Blk.gets e4; have e6 := Blk.has e4; have e7 := e4.lt;  go_simp; try with_reducible rfl)); (intro K hK; go_simp; refine hK _ _ ?_; clear hK K)) | ((apply w3_pass); (· exact HY1.out); (· go_simp); (intro K hK; go_simp; refine hK _ _ ?_; clear hK K))))
                  (refine w3_act (fun K hK => ?_); go_simp)
                  refine (lcheck_any c2 _ _ w7 (Nat.le_refl _) HP2.out (HLW.out.ext (HXV.out.trans HY1.out))).mono ?_
                  rintro e w8 ⟨rfl, hx8⟩
                  rw [HFJ.out, show fltC none = #[.int .i64 0, .string ⟨#[]⟩] from rfl]
                  have HY2 := Lib.hid (HY1.out.trans hx8)
                  clear hx8
                  refine hK.out _ _ (fun _ => HY2.out) ?_
                  clear hK K
                  (repeat (first | ((apply w3_pure); (· go_simp); (· (intro w1; go_simp; try with_reducible rfl)); (intro K hK; go_simp; refine hK _ _ ?_; clear hK K)) | ((apply w3_skip); (· go_simp); (intro K hK; go_simp; refine hK _ _ ?_; clear hK K)) | (refine w3_end (by kernel_rfl) (fun K hK => ?_); go_simp; refine hK.out _ _ ?_; clear hK K))); refine w3_nil ?_
                  go_wp2_with fail
                  go_roundw
                  case rel => exact ⟨i + 1, by omega, by go_num, HX9.out.trans HY2.out⟩
                  case measure => simp only [intOf]; omega
                · have hib : ((i : Int) == 2) = false := by simp; omega
                  have hin : ((i : Int) != 2) = true := by unfold bne; rw [hib]; rfl
                  have HFJ := Lib.hid (show check (So.part p i ⟨4, E0, numsF 0, 0, 0, .nil, .nil⟩) = some ⟨10, partName i⟩ from by
                    rw [HPL.out i hlt, if_pos (by rcases (by omega : i = 0 ∨ i = 1 ∨ i = 2 ∨ i = 3 ∨ i = 4) with rfl | rfl | rfl | rfl | rfl <;> first | rfl | exact absurd rfl hio)])
                  clear hio
                  have y2 := (Kept.refl (fun _ => False) wr).alloc (.cells #[.int .i64 0, .string ⟨#[]⟩] 38)
                  have hF := Blk.new wr 38 #[.int .i64 0, .string ⟨#[]⟩]
                  go_upto_region 16 with (fail)
                  generalize (wr.alloc (.cells #[.int .i64 0, .string ⟨#[]⟩] 38)) = X8 at y2 hF ⊢
                  obtain ⟨fb, hfb⟩ : ∃ fb, fb = wr.heap.size := ⟨_, rfl⟩
                  rw [← hfb] at hF ⊢
                  have HFB := Lib.hid hfb
                  clear hfb
                  go_wp2_with fail
                  refine (names_any _).mono ?_
                  rintro e2 w3 ⟨rfl, hx3, hbn⟩
                  have hlb := hbn.lt
                  obtain ⟨nb, hnb⟩ : ∃ nb, nb = X8.heap.size := ⟨_, rfl⟩
                  rw [← hnb] at hbn hlb ⊢
                  clear hnb
                  have hcn : w3.cell? ⟨nb, i, none⟩ = some (.string (partName i)) := by
                    rw [Blk.cell hbn i]
                    rcases (by omega : i = 0 ∨ i = 1 ∨ i = 2 ∨ i = 3 ∨ i = 4) with rfl | rfl | rfl | rfl | rfl <;> rfl
                  have hF3 := Blk.ext hF hx3
                  have hhF := Blk.has hF3
                  have hmF := hF3.melts
                  have hlF := hF3.lt
                  go_upto_region 17 with (fail)
                  clear hhF hmF hlF hcn hlb hbn
                  have hk9 : Kept (· = fb) w3 (putAt w3 fb 0 #[.int .i64 10, .string (partName i)]) := Kept.putAt (Kept.refl (· = fb) w3) fb 0 _ (fun _ => rfl)
                  have hf9 : Blk (putAt w3 fb 0 #[.int .i64 10, .string (partName i)]) fb 38 #[.int .i64 10, .string (partName i)] := Blk.put_ hF3 0 #[.int .i64 10, .string (partName i)]
                  generalize (putAt w3 fb 0 #[.int .i64 10, .string (partName i)]) = X9 at hk9 hf9 ⊢
                  have HX9 := Lib.hid (HXI.out.trans ((y2.trans hx3).trans' hk9 (fun i hi q => by have := HFB.out; omega)))
                  have HXV := Lib.hid (HXQ.out.trans HX9.out)
                  have HS9 := Lib.hid (Blk.ext HS.out HX9.out)
                  have HF9 := Lib.hid hf9
                  clear y2 hF hx3 hk9 hf9 hF3 HFB
                  have HXR := Lib.hid (HX9.out)
                  refine wp_region_3 (fun w1 => Ext X9 w1) [(0, 1), (1, 2), (2, 1), (5, 1), (3, 0), (4, 0), (6, 2)] (by kernel_rfl) (by kernel_rfl) (by kernel_rfl) (by kernel_rfl) ?_; intro l' hl'; simp only [List.map_cons, List.map_nil, List.getD_cons_zero, List.getD_cons_succ] at hl'; subst hl'
                  have HY0 := Lib.hid (show Ext X9 X9.drew from (Kept.refl _ X9).drew)
                  (repeat (first | ((apply w3_pure); (· go_simp); (· (intro w1; go_simp; try with_reducible rfl)); (intro K hK; go_simp; refine hK _ _ ?_; clear hK K)) | ((apply w3_skip); (· go_simp); (intro K hK; go_simp; refine hK _ _ ?_; clear hK K)) | ((apply w3_take); (· exact HY0.out); (· go_simp); (· (intro w1 hS; have d0 := Blk.ext HB.out (HXV.out.trans hS); have d1 := Blk.gets d0; have d2 := Blk.has d0; have d3 := d0.lt; have d4 := Blk.ext HS9.out hS; have d5 := Blk.gets d4; have d6 := Blk.has d4; have d7 := d4.lt; have e4 := Blk.ext HF9.out hS; have e5 := Blk.gets e4; have e6 := Blk.has e4; have e7 := e4.lt;  go_simp; try with_reducible rfl)); (intro K hK; go_simp; refine hK _ _ ?_; clear hK K)) | ((apply w3_pass); (· exact HY0.out); (· go_simp); (intro K hK; go_simp; refine hK _ _ ?_; clear hK K))))
                  (refine w3_act (fun K hK => ?_); go_simp)
                  refine (part_any (⟨cn, cse, cst, ⟨some ⟨vb, vo, none⟩, vn, vc⟩, cs, ct, cpa, cpl, csi, cq, cpy⟩ : Pc) p i hlt 0 _ _ (Nat.le_refl _) ((HPA.out.ext (HXV.out.trans HY0.out) HNW.out).mono (Nat.le_trans HNW.out (HXV.out.trans HY0.out).size)) hcap hroom 4 E0 (numsF 0) 0 0 .nil .nil B bc none 0 none 0 (ok64 (by decide)) (ok64 (by decide)) (ok64 (by decide)) (name_ok _ (by decide)) ((HE.out.ext (HX9.out.trans HY0.out) (Nat.le_refl _)).mono (HX9.out.trans HY0.out).size) (SSl.nil _ _ _) (SSl.nil _ _ _)).mono ?_
                  rintro e w7 ⟨c2, rfl, hp2, -, -, hx7⟩
                  have HP2 := Lib.hid (hp2 _ _ (Kept.refl (fun _ => False) w7) (fun _ q => q.elim))
                  have HY1 := Lib.hid (HY0.out.trans hx7)
                  clear hp2 hx7
                  refine hK.out _ _ (fun _ => HY1.out) ?_
                  clear hK K
                  (repeat (first | ((apply w3_pure); (· go_simp); (· (intro w1; go_simp; try with_reducible rfl)); (intro K hK; go_simp; refine hK _ _ ?_; clear hK K)) | ((apply w3_skip); (· go_simp); (intro K hK; go_simp; refine hK _ _ ?_; clear hK K)) | ((apply w3_take); (· exact HY1.out); (· go_simp); (· (intro w1 hS; have d0 := Blk.ext HB.out (HXV.out.trans hS); have d1 := Blk.gets d0; have d2 := Blk.has d0; have d3 := d0.lt; have d4 := Blk.ext HS9.out hS; have d5 := Blk.gets d4; have d6 := Blk.has d4; have d7 := d4.lt; have e4 := Blk.ext HF9.out hS; have e5 := Blk.gets e4; have e6 := Blk.has e4; have e7 := e4.lt;  go_simp; try with_reducible rfl)); (intro K hK; go_simp; refine hK _ _ ?_; clear hK K)) | ((apply w3_pass); (· exact HY1.out); (· go_simp); (intro K hK; go_simp; refine hK _ _ ?_; clear hK K))))
                  (refine w3_act (fun K hK => ?_); go_simp)
                  refine (lcheck_any c2 _ _ w7 (Nat.le_refl _) HP2.out (HLW.out.ext (HXV.out.trans HY1.out))).mono ?_
                  rintro e w8 ⟨rfl, hx8⟩
                  rw [HFJ.out, show fltC (some ⟨10, partName i⟩) = #[.int .i64 10, .string (partName i)] from rfl]
                  have HY2 := Lib.hid (HY1.out.trans hx8)
                  clear hx8
                  refine hK.out _ _ (fun _ => HY2.out) ?_
                  clear hK K
                  (repeat (first | ((apply w3_pure); (· go_simp); (· (intro w1; go_simp; try with_reducible rfl)); (intro K hK; go_simp; refine hK _ _ ?_; clear hK K)) | ((apply w3_skip); (· go_simp); (intro K hK; go_simp; refine hK _ _ ?_; clear hK K)) | (refine w3_end (by kernel_rfl) (fun K hK => ?_); go_simp; refine hK.out _ _ ?_; clear hK K))); refine w3_nil ?_
                  go_wp2_with fail
                  go_roundw
                  case rel => exact ⟨i + 1, by omega, by go_num, HX9.out.trans HY2.out⟩
                  case measure => simp only [intOf]; omega
              · obtain rfl : i = 5 := by omega
                have HXQ := Lib.hid (HXQ.out.trans HXI.out)
                go_wp2_with fail
                refine (told_any _ (HLW.out.ext HXQ.out)).mono ?_
                rintro e w9 ⟨rfl, hx9⟩
                go_wp2_with fail
                go_ret
                exact ⟨rfl, HX0.out.trans (HXQ.out.trans hx9)⟩
        ·
          have x1 := ((Kept.refl (fun _ => False) W1).alloc (.cells #[.int .i64 4, .int .i64 5, .int .i64 6, .int .i64 7, .int .i64 8] 3)).alloc (.cells (scells 5 ⟨#[]⟩ none 0 0 0 0 none 0 0 none 0 0) 34)
          have hS := Blk.new' (W1.alloc (.cells #[.int .i64 4, .int .i64 5, .int .i64 6, .int .i64 7, .int .i64 8] 3)) 34 (scells 5 ⟨#[]⟩ none 0 0 0 0 none 0 0 none 0 0) (W1.heap.size + 1) (by simp)
          go_upto_region 5 with (fail)
          generalize hV : ((W1.alloc (.cells #[.int .i64 4, .int .i64 5, .int .i64 6, .int .i64 7, .int .i64 8] 3)).alloc (.cells (scells 5 ⟨#[]⟩ none 0 0 0 0 none 0 0 none 0 0) 34)) = X0 at x1 hS ⊢
          clear hV
          obtain ⟨sb, hsb⟩ : ∃ sb, sb = W1.heap.size + 1 := ⟨_, rfl⟩
          rw [← hsb] at hS ⊢
          have HSB := Lib.hid (show W1.heap.size ≤ sb by omega)
          have HX1 := Lib.hid x1
          clear hBq hcP hhP hgP hlP
          clear x1 hsb hc0 hc1 hzn hzb hvl ea
          have hBq := Blk.ext HB.out (HXQ.out.trans HX1.out)
          have hcP := Blk.cell hBq
          have hlP := hBq.lt
          obtain ⟨hc0, hc1⟩ := HVC.out _ (HXQ.out.trans HX1.out)
          have hvl := Nat.lt_of_lt_of_le HVL.out (HXQ.out.trans HX1.out).size
          have hcS := Blk.cell hS
          have hfS := Blk.frozen hS
          have hlS := hS.lt
          have hvn : (0 : Int) < vn := by have := HVN.out; omega
          go_upto_region 7 with (fail)
          have hk2 : Kept (· = sb) X0 ((X0.setCell ⟨sb, 1, none⟩ (.string v.name)).setCell ⟨sb, 3, none⟩ (.int .i64 6)) := ((Kept.refl (· = sb) X0).setCell _ _ (fun _ => rfl)).setCell _ _ (fun _ => rfl)
          have hs2 : Blk ((X0.setCell ⟨sb, 1, none⟩ (.string v.name)).setCell ⟨sb, 3, none⟩ (.int .i64 6)) sb 34 (scells 5 v.name none 0 0 6 0 none 0 0 none 0 0) := by
            have q := Blk.set_ (Blk.set_ hS 1 (.string v.name)) 3 (.int .i64 6)
            exact q
          generalize ((X0.setCell ⟨sb, 1, none⟩ (.string v.name)).setCell ⟨sb, 3, none⟩ (.int .i64 6)) = X1 at hk2 hs2 ⊢
          clear hBq hcP hlP hc0 hc1 hvl hcS hfS hlS hvn
          have HSX := Lib.hid hs2
          have HXX := Lib.hid (HX1.out.trans' hk2 (fun i hi q => by have := HSB.out; omega))
          clear hk2 hs2 hS
          go_wp2_with fail
          go_loopw [7] (fun t7 wr => ∃ (j : Nat) (B : Option Addr) (bc : Nat), j ≤ 0 ∧ t7 = .int .i64 j ∧ Blk wr sb 34 (scells 5 v.name B j bc 6 0 none 0 0 none 0 0) ∧ wr.ownsRow (sb + 1) 36 4 (.slice B j bc) j (rowsL Ec.cells (numsL j)) ∧ Ext W1 wr) (fun t7 _ => 0 - (intOf t7).toNat)
          case atStart => exact ⟨0, none, 0, Nat.zero_le _, rfl, HSX.out, World.ownsRow_nil _ _ _ _, HXX.out⟩
          case round =>
            obtain ⟨j, B, bc, hj, rfl, hs, how, hx⟩ := hrel
            have HSJ := Lib.hid hs
            have HOW := Lib.hid how
            have HXJ := Lib.hid hx
            clear hs how hx
            obtain rfl : j = 0 := by omega
            have y1 : Ext wr (wr.alloc (.cells #[.int .i64 0, .int .i64 0, .int .i64 0, .int .i64 0, .int .i64 0, .int .i64 0, .int .i64 1, .int .i64 0, .int .i64 2] 3)) := (Kept.refl (fun _ => False) wr).alloc _
            have hsz := Blk.ext HSJ.out y1
            have hez := nums_at (own_ext HOW.out y1) (by omega)
            go_upto_region 12 with (fail)
            try simp only [show ((0 : Nat) : Int) = (0 : Int) from rfl]
            generalize (wr.alloc (.cells #[.int .i64 0, .int .i64 0, .int .i64 0, .int .i64 0, .int .i64 0, .int .i64 0, .int .i64 1, .int .i64 0, .int .i64 2] 3)) = X2 at y1 hsz hez ⊢
            have HXQ := Lib.hid (HXQ.out.trans (HXJ.out.trans y1))
            have HS := Lib.hid hsz
            have HE := Lib.hid hez
            have HPL := Lib.hid (fun i (hi : i < 5) => show check (So.part p i ⟨5, v.name, numsF 0, 6, 0, .nil, .nil⟩) = if bad 5 i = true then some ⟨10, partName i⟩ else none from places HRO.out.2 HRO.out.1 HVP.out HZ0.out 5 (by omega) i hi)
            clear y1 hsz hez HSX HXX HXJ HOW HSJ HSB HX1 hj
            go_loopw [8] (fun t8 wr => ∃ (i : Nat), i ≤ 5 ∧ t8 = .int .i64 i ∧ Ext X2 wr) (fun t8 _ => 5 - (intOf t8).toNat)
            case atStart => exact ⟨0, by omega, rfl, Kept.refl _ _⟩
            case round =>
              obtain ⟨i, hi5, rfl, hx⟩ := hrel
              have HXI := Lib.hid hx
              clear hx
              by_cases hlt : i < 5
              · have hltI : (i : Int) < 5 := by omega
                by_cases hio : i = 2
                · have hib : ((i : Int) == 2) = true := by simp [hio]
                  have hin : ((i : Int) != 2) = false := by unfold bne; rw [hib]; rfl
                  have HFJ := Lib.hid (show check (So.part p i ⟨5, v.name, numsF 0, 6, 0, .nil, .nil⟩) = none from by rw [HPL.out i hlt, hio]; rfl)
                  clear hio
                  have y2 := (Kept.refl (fun _ => False) wr).alloc (.cells #[.int .i64 0, .string ⟨#[]⟩] 38)
                  have hF := Blk.new wr 38 #[.int .i64 0, .string ⟨#[]⟩]
                  go_upto_region 17 with (fail)
                  generalize (wr.alloc (.cells #[.int .i64 0, .string ⟨#[]⟩] 38)) = X9 at y2 hF ⊢
                  generalize wr.heap.size = fb at hF ⊢
                  have HX9 := Lib.hid (HXI.out.trans y2)
                  have HXV := Lib.hid (HXQ.out.trans HX9.out)
                  have HS9 := Lib.hid (Blk.ext HS.out HX9.out)
                  have HF9 := Lib.hid hF
                  clear y2 hF
                  have HXR := Lib.hid (HX9.out)
                  refine wp_region_3 (fun w1 => Ext X9 w1) [(0, 1), (1, 2), (2, 1), (5, 1), (3, 0), (4, 0), (6, 2)] (by kernel_rfl) (by kernel_rfl) (by kernel_rfl) (by kernel_rfl) ?_; intro l' hl'; simp only [List.map_cons, List.map_nil, List.getD_cons_zero, List.getD_cons_succ] at hl'; subst hl'
                  have HY0 := Lib.hid (show Ext X9 X9.drew from (Kept.refl _ X9).drew)
                  (repeat (first | ((apply w3_pure); (· go_simp); (· (intro w1; go_simp; try with_reducible rfl)); (intro K hK; go_simp; refine hK _ _ ?_; clear hK K)) | ((apply w3_skip); (· go_simp); (intro K hK; go_simp; refine hK _ _ ?_; clear hK K)) | ((apply w3_take); (· exact HY0.out); (· go_simp); (· (intro w1 hS; have d0 := Blk.ext HB.out (HXV.out.trans hS); have d1 := Blk.gets d0; have d2 := Blk.has d0; have d3 := d0.lt; have d4 := Blk.ext HS9.out hS; have d5 := Blk.gets d4; have d6 := Blk.has d4; have d7 := d4.lt; have e4 := Blk.ext HF9.out hS; have e5 := Blk.gets e4; have e6 := Blk.has e4; have e7 := e4.lt;  go_simp; try with_reducible rfl)); (intro K hK; go_simp; refine hK _ _ ?_; clear hK K)) | ((apply w3_pass); (· exact HY0.out); (· go_simp); (intro K hK; go_simp; refine hK _ _ ?_; clear hK K))))
                  (refine w3_act (fun K hK => ?_); go_simp)
                  refine (part_any (⟨cn, cse, cst, ⟨some ⟨vb, vo, none⟩, vn, vc⟩, cs, ct, cpa, cpl, csi, cq, cpy⟩ : Pc) p i hlt 0 _ _ (Nat.le_refl _) ((HPA.out.ext (HXV.out.trans HY0.out) HNW.out).mono (Nat.le_trans HNW.out (HXV.out.trans HY0.out).size)) hcap hroom 5 v.name (numsF 0) 6 0 .nil .nil B bc none 0 none 0 (ok64 (by decide)) (ok64 (by decide)) (ok64 (by decide)) HVK.out ((HE.out.ext (HX9.out.trans HY0.out) (Nat.le_refl _)).mono (HX9.out.trans HY0.out).size) (SSl.nil _ _ _) (SSl.nil _ _ _)).mono ?_
                  rintro e w7 ⟨c2, rfl, hp2, -, -, hx7⟩
                  have HP2 := Lib.hid (hp2 _ _ (Kept.refl (fun _ => False) w7) (fun _ q => q.elim))
                  have HY1 := Lib.hid (HY0.out.trans hx7)
                  clear hp2 hx7
                  refine hK.out _ _ (fun _ => HY1.out) ?_
                  clear hK K
                  (repeat (first | ((apply w3_pure); (· go_simp); (· (intro w1; go_simp; try with_reducible rfl)); (intro K hK; go_simp; refine hK _ _ ?_; clear hK K)) | ((apply w3_skip); (· go_simp); (intro K hK; go_simp; refine hK _ _ ?_; clear hK K)) | ((apply w3_take); (· exact HY1.out); (· go_simp); (· (intro w1 hS; have d0 := Blk.ext HB.out (HXV.out.trans hS); have d1 := Blk.gets d0; have d2 := Blk.has d0; have d3 := d0.lt; have d4 := Blk.ext HS9.out hS; have d5 := Blk.gets d4; have d6 := Blk.has d4; have d7 := d4.lt; have e4 := Blk.ext HF9.out hS; have e5 := Blk.gets e4; have e6 := Blk.has e4; have e7 := e4.lt;  go_simp; try with_reducible rfl)); (intro K hK; go_simp; refine hK _ _ ?_; clear hK K)) | ((apply w3_pass); (· exact HY1.out); (· go_simp); (intro K hK; go_simp; refine hK _ _ ?_; clear hK K))))
                  (refine w3_act (fun K hK => ?_); go_simp)
                  refine (lcheck_any c2 _ _ w7 (Nat.le_refl _) HP2.out (HLW.out.ext (HXV.out.trans HY1.out))).mono ?_
                  rintro e w8 ⟨rfl, hx8⟩
                  rw [HFJ.out, show fltC none = #[.int .i64 0, .string ⟨#[]⟩] from rfl]
                  have HY2 := Lib.hid (HY1.out.trans hx8)
                  clear hx8
                  refine hK.out _ _ (fun _ => HY2.out) ?_
                  clear hK K
                  (repeat (first | ((apply w3_pure); (· go_simp); (· (intro w1; go_simp; try with_reducible rfl)); (intro K hK; go_simp; refine hK _ _ ?_; clear hK K)) | ((apply w3_skip); (· go_simp); (intro K hK; go_simp; refine hK _ _ ?_; clear hK K)) | (refine w3_end (by kernel_rfl) (fun K hK => ?_); go_simp; refine hK.out _ _ ?_; clear hK K))); refine w3_nil ?_
                  go_wp2_with fail
                  go_roundw
                  case rel => exact ⟨i + 1, by omega, by go_num, HX9.out.trans HY2.out⟩
                  case measure => simp only [intOf]; omega
                · have hib : ((i : Int) == 2) = false := by simp; omega
                  have hin : ((i : Int) != 2) = true := by unfold bne; rw [hib]; rfl
                  have HFJ := Lib.hid (show check (So.part p i ⟨5, v.name, numsF 0, 6, 0, .nil, .nil⟩) = some ⟨10, partName i⟩ from by
                    rw [HPL.out i hlt, if_pos (by rcases (by omega : i = 0 ∨ i = 1 ∨ i = 2 ∨ i = 3 ∨ i = 4) with rfl | rfl | rfl | rfl | rfl <;> first | rfl | exact absurd rfl hio)])
                  clear hio
                  have y2 := (Kept.refl (fun _ => False) wr).alloc (.cells #[.int .i64 0, .string ⟨#[]⟩] 38)
                  have hF := Blk.new wr 38 #[.int .i64 0, .string ⟨#[]⟩]
                  go_upto_region 16 with (fail)
                  generalize (wr.alloc (.cells #[.int .i64 0, .string ⟨#[]⟩] 38)) = X8 at y2 hF ⊢
                  obtain ⟨fb, hfb⟩ : ∃ fb, fb = wr.heap.size := ⟨_, rfl⟩
                  rw [← hfb] at hF ⊢
                  have HFB := Lib.hid hfb
                  clear hfb
                  go_wp2_with fail
                  refine (names_any _).mono ?_
                  rintro e2 w3 ⟨rfl, hx3, hbn⟩
                  have hlb := hbn.lt
                  obtain ⟨nb, hnb⟩ : ∃ nb, nb = X8.heap.size := ⟨_, rfl⟩
                  rw [← hnb] at hbn hlb ⊢
                  clear hnb
                  have hcn : w3.cell? ⟨nb, i, none⟩ = some (.string (partName i)) := by
                    rw [Blk.cell hbn i]
                    rcases (by omega : i = 0 ∨ i = 1 ∨ i = 2 ∨ i = 3 ∨ i = 4) with rfl | rfl | rfl | rfl | rfl <;> rfl
                  have hF3 := Blk.ext hF hx3
                  have hhF := Blk.has hF3
                  have hmF := hF3.melts
                  have hlF := hF3.lt
                  go_upto_region 17 with (fail)
                  clear hhF hmF hlF hcn hlb hbn
                  have hk9 : Kept (· = fb) w3 (putAt w3 fb 0 #[.int .i64 10, .string (partName i)]) := Kept.putAt (Kept.refl (· = fb) w3) fb 0 _ (fun _ => rfl)
                  have hf9 : Blk (putAt w3 fb 0 #[.int .i64 10, .string (partName i)]) fb 38 #[.int .i64 10, .string (partName i)] := Blk.put_ hF3 0 #[.int .i64 10, .string (partName i)]
                  generalize (putAt w3 fb 0 #[.int .i64 10, .string (partName i)]) = X9 at hk9 hf9 ⊢
                  have HX9 := Lib.hid (HXI.out.trans ((y2.trans hx3).trans' hk9 (fun i hi q => by have := HFB.out; omega)))
                  have HXV := Lib.hid (HXQ.out.trans HX9.out)
                  have HS9 := Lib.hid (Blk.ext HS.out HX9.out)
                  have HF9 := Lib.hid hf9
                  clear y2 hF hx3 hk9 hf9 hF3 HFB
                  have HXR := Lib.hid (HX9.out)
                  refine wp_region_3 (fun w1 => Ext X9 w1) [(0, 1), (1, 2), (2, 1), (5, 1), (3, 0), (4, 0), (6, 2)] (by kernel_rfl) (by kernel_rfl) (by kernel_rfl) (by kernel_rfl) ?_; intro l' hl'; simp only [List.map_cons, List.map_nil, List.getD_cons_zero, List.getD_cons_succ] at hl'; subst hl'
                  have HY0 := Lib.hid (show Ext X9 X9.drew from (Kept.refl _ X9).drew)
                  (repeat (first | ((apply w3_pure); (· go_simp); (· (intro w1; go_simp; try with_reducible rfl)); (intro K hK; go_simp; refine hK _ _ ?_; clear hK K)) | ((apply w3_skip); (· go_simp); (intro K hK; go_simp; refine hK _ _ ?_; clear hK K)) | ((apply w3_take); (· exact HY0.out); (· go_simp); (· (intro w1 hS; have d0 := Blk.ext HB.out (HXV.out.trans hS); have d1 := Blk.gets d0; have d2 := Blk.has d0; have d3 := d0.lt; have d4 := Blk.ext HS9.out hS; have d5 := Blk.gets d4; have d6 := Blk.has d4; have d7 := d4.lt; have e4 := Blk.ext HF9.out hS; have e5 := Blk.gets e4; have e6 := Blk.has e4; have e7 := e4.lt;  go_simp; try with_reducible rfl)); (intro K hK; go_simp; refine hK _ _ ?_; clear hK K)) | ((apply w3_pass); (· exact HY0.out); (· go_simp); (intro K hK; go_simp; refine hK _ _ ?_; clear hK K))))
                  (refine w3_act (fun K hK => ?_); go_simp)
                  refine (part_any (⟨cn, cse, cst, ⟨some ⟨vb, vo, none⟩, vn, vc⟩, cs, ct, cpa, cpl, csi, cq, cpy⟩ : Pc) p i hlt 0 _ _ (Nat.le_refl _) ((HPA.out.ext (HXV.out.trans HY0.out) HNW.out).mono (Nat.le_trans HNW.out (HXV.out.trans HY0.out).size)) hcap hroom 5 v.name (numsF 0) 6 0 .nil .nil B bc none 0 none 0 (ok64 (by decide)) (ok64 (by decide)) (ok64 (by decide)) HVK.out ((HE.out.ext (HX9.out.trans HY0.out) (Nat.le_refl _)).mono (HX9.out.trans HY0.out).size) (SSl.nil _ _ _) (SSl.nil _ _ _)).mono ?_
                  rintro e w7 ⟨c2, rfl, hp2, -, -, hx7⟩
                  have HP2 := Lib.hid (hp2 _ _ (Kept.refl (fun _ => False) w7) (fun _ q => q.elim))
                  have HY1 := Lib.hid (HY0.out.trans hx7)
                  clear hp2 hx7
                  refine hK.out _ _ (fun _ => HY1.out) ?_
                  clear hK K
                  (repeat (first | ((apply w3_pure); (· go_simp); (· (intro w1; go_simp; try with_reducible rfl)); (intro K hK; go_simp; refine hK _ _ ?_; clear hK K)) | ((apply w3_skip); (· go_simp); (intro K hK; go_simp; refine hK _ _ ?_; clear hK K)) | ((apply w3_take); (· exact HY1.out); (· go_simp); (· (intro w1 hS; have d0 := Blk.ext HB.out (HXV.out.trans hS); have d1 := Blk.gets d0; have d2 := Blk.has d0; have d3 := d0.lt; have d4 := Blk.ext HS9.out hS; have d5 := Blk.gets d4; have d6 := Blk.has d4; have d7 := d4.lt; have e4 := Blk.ext HF9.out hS; have e5 := Blk.gets e4; have e6 := Blk.has e4; have e7 := e4.lt;  go_simp; try with_reducible rfl)); (intro K hK; go_simp; refine hK _ _ ?_; clear hK K)) | ((apply w3_pass); (· exact HY1.out); (· go_simp); (intro K hK; go_simp; refine hK _ _ ?_; clear hK K))))
                  (refine w3_act (fun K hK => ?_); go_simp)
                  refine (lcheck_any c2 _ _ w7 (Nat.le_refl _) HP2.out (HLW.out.ext (HXV.out.trans HY1.out))).mono ?_
                  rintro e w8 ⟨rfl, hx8⟩
                  rw [HFJ.out, show fltC (some ⟨10, partName i⟩) = #[.int .i64 10, .string (partName i)] from rfl]
                  have HY2 := Lib.hid (HY1.out.trans hx8)
                  clear hx8
                  refine hK.out _ _ (fun _ => HY2.out) ?_
                  clear hK K
                  (repeat (first | ((apply w3_pure); (· go_simp); (· (intro w1; go_simp; try with_reducible rfl)); (intro K hK; go_simp; refine hK _ _ ?_; clear hK K)) | ((apply w3_skip); (· go_simp); (intro K hK; go_simp; refine hK _ _ ?_; clear hK K)) | (refine w3_end (by kernel_rfl) (fun K hK => ?_); go_simp; refine hK.out _ _ ?_; clear hK K))); refine w3_nil ?_
                  go_wp2_with fail
                  go_roundw
                  case rel => exact ⟨i + 1, by omega, by go_num, HX9.out.trans HY2.out⟩
                  case measure => simp only [intOf]; omega
              · obtain rfl : i = 5 := by omega
                have HXQ := Lib.hid (HXQ.out.trans HXI.out)
                go_wp2_with fail
                refine (told_any _ (HLW.out.ext HXQ.out)).mono ?_
                rintro e w9 ⟨rfl, hx9⟩
                go_wp2_with fail
                go_ret
                exact ⟨rfl, HX0.out.trans (HXQ.out.trans hx9)⟩
        ·
          have x1 := ((Kept.refl (fun _ => False) W1).alloc (.cells #[.int .i64 4, .int .i64 5, .int .i64 6, .int .i64 7, .int .i64 8] 3)).alloc (.cells (scells 6 ⟨#[]⟩ none 0 0 0 0 none 0 0 none 0 0) 34)
          have hS := Blk.new' (W1.alloc (.cells #[.int .i64 4, .int .i64 5, .int .i64 6, .int .i64 7, .int .i64 8] 3)) 34 (scells 6 ⟨#[]⟩ none 0 0 0 0 none 0 0 none 0 0) (W1.heap.size + 1) (by simp)
          go_upto_region 5 with (fail)
          generalize hV : ((W1.alloc (.cells #[.int .i64 4, .int .i64 5, .int .i64 6, .int .i64 7, .int .i64 8] 3)).alloc (.cells (scells 6 ⟨#[]⟩ none 0 0 0 0 none 0 0 none 0 0) 34)) = X0 at x1 hS ⊢
          clear hV
          obtain ⟨sb, hsb⟩ : ∃ sb, sb = W1.heap.size + 1 := ⟨_, rfl⟩
          rw [← hsb] at hS ⊢
          have HSB := Lib.hid (show W1.heap.size ≤ sb by omega)
          have HX1 := Lib.hid x1
          clear hBq hcP hhP hgP hlP
          clear x1 hsb hc0 hc1 hzn hzb hvl ea
          go_upto_region 7 with (fail)
          have HSX := Lib.hid hS
          have HXX := HX1
          clear hS
          generalize X0 = X1 at HSX HXX ⊢
          go_wp2_with fail
          go_loopw [7] (fun t7 wr => ∃ (j : Nat) (B : Option Addr) (bc : Nat), j ≤ 1 ∧ t7 = .int .i64 j ∧ Blk wr sb 34 (scells 6 ⟨#[]⟩ B j bc 0 0 none 0 0 none 0 0) ∧ wr.ownsRow (sb + 1) 36 4 (.slice B j bc) j (rowsL Ec.cells (numsL j)) ∧ Ext W1 wr) (fun t7 _ => 1 - (intOf t7).toNat)
          case atStart => exact ⟨0, none, 0, Nat.zero_le _, rfl, HSX.out, World.ownsRow_nil _ _ _ _, HXX.out⟩
          case round =>
            obtain ⟨j, B, bc, hj, rfl, hs, how, hx⟩ := hrel
            have HSJ := Lib.hid hs
            have HOW := Lib.hid how
            have HXJ := Lib.hid hx
            clear hs how hx
            by_cases hlt : j < 1
            · have hltI : (j : Int) < 1 := by omega
              have y1 : Ext wr _ := ((Kept.refl (fun _ => False) wr).alloc (.cells #[.int .i64 0, .int .i64 0, .int .i64 0, .int .i64 0, .int .i64 0, .int .i64 0, .int .i64 1, .int .i64 0, .int .i64 2] 3)).alloc (.cells (ecells 0 j ⟨#[]⟩ none 0 0) 36)
              have q6 := Blk.new' (wr.alloc (.cells #[.int .i64 0, .int .i64 0, .int .i64 0, .int .i64 0, .int .i64 0, .int .i64 0, .int .i64 1, .int .i64 0, .int .i64 2] 3)) 36 (ecells 0 j ⟨#[]⟩ none 0 0) (wr.heap.size + 1) (by simp)
              have own := own_ext HOW.out y1
              obtain ⟨v', V4, hrun, ho', hk', -⟩ := appR (f := Ec.cells) elemExprR (fun _ => rfl) (fun _ => rfl) ((wr.alloc (.cells #[.int .i64 0, .int .i64 0, .int .i64 0, .int .i64 0, .int .i64 0, .int .i64 0, .int .i64 1, .int .i64 0, .int .i64 2] 3)).alloc (.cells (ecells 0 j ⟨#[]⟩ none 0 0) 36)) (sb + 1) (.slice B j bc) j (numsL j) own (wr.heap.size + 1) 0 1 1 [⟨0, j, ⟨#[]⟩, none, 0, 0⟩] rfl (Row.of_blk q6) (by omega) (by have := HSJ.out.lt; have := y1.size; omega)
              have y4 : Kept (fun g => sb < g) wr V4 := (y1.mono (fun i _ q => q.elim)).trans (hk'.mono (fun i _ e => by have := (own.lt i e).1; omega))
              have hs4 := Blk.kept HSJ.out y4 (Nat.lt_irrefl _)
              rw [← numsL_succ j (by omega)] at ho'
              obtain ⟨g2, c2, rfl, hrow2, hg2, -⟩ := own_rows ho' (by omega) (by omega)
              have hsC := Blk.cell (Blk.ext HSJ.out y1)
              have hsL := (Blk.ext HSJ.out y1).lt
              have hsC1 := Blk.cell (Blk.ext HSJ.out ((Kept.refl (fun _ => False) wr).alloc (.cells #[.int .i64 0, .int .i64 0, .int .i64 0, .int .i64 0, .int .i64 0, .int .i64 0, .int .i64 1, .int .i64 0, .int .i64 2] 3)))
              have hsL1 := (Blk.ext HSJ.out ((Kept.refl (fun _ => False) wr).alloc (.cells #[.int .i64 0, .int .i64 0, .int .i64 0, .int .i64 0, .int .i64 0, .int .i64 0, .int .i64 1, .int .i64 0, .int .i64 2] 3))).lt
              go_upto_region 10 with (fail)
              go_step
              iterate 5 (refine wpList_step (fun K hK => ?_); go_simp; (try go_bits); refine hK _ _ ?_; clear hK K)
              refine wpList_app rfl (.tmp 55) (.tmp 58) 32 rfl rfl rfl rfl hrun ?_
              clear hrun hsC hsL hsC1 hsL1
              have hcK := Blk.cell hs4
              have hzK := Blk.frozen hs4
              have hlK := hs4.lt
              go_wp2_with fail
              clear hcK hzK hlK
              go_roundw
              case rel =>
                have hk9 : Kept (fun g => sb ≤ g) wr (V4.setCell ⟨sb, 2, none⟩ (.slice (some ⟨g2, 0, none⟩) (j + 1) c2)) := (y4.mono (fun i _ h => Nat.le_of_lt h)).setCell _ _ (fun _ => Nat.le_refl _)
                have hb9 : Blk (V4.setCell ⟨sb, 2, none⟩ (.slice (some ⟨g2, 0, none⟩) (j + 1) c2)) sb 34 (scells 6 ⟨#[]⟩ (some ⟨g2, 0, none⟩) (j + 1) c2 0 0 none 0 0 none 0 0) := by
                  have q := Blk.set_ hs4 2 (.slice (some ⟨g2, 0, none⟩) (j + 1) c2)
                  exact q
                have ho9 := own_kept ho' ((Kept.refl (· = sb) V4).setCell ⟨sb, 2, none⟩ (.slice (some ⟨g2, 0, none⟩) (j + 1) c2) (fun _ => rfl)) (fun g e => by
                  have e2 : g2 = g := Option.some.inj e
                  omega)
                exact ⟨j + 1, some ⟨g2, 0, none⟩, c2, hlt, by go_num, hb9, ho9, HXJ.out.trans' hk9 (fun i hi q => by have := HSB.out; omega)⟩
              case measure => simp only [intOf]; omega
            · obtain rfl : j = 1 := by omega
              have y1 : Ext wr (wr.alloc (.cells #[.int .i64 0, .int .i64 0, .int .i64 0, .int .i64 0, .int .i64 0, .int .i64 0, .int .i64 1, .int .i64 0, .int .i64 2] 3)) := (Kept.refl (fun _ => False) wr).alloc _
              have hsz := Blk.ext HSJ.out y1
              have hez := nums_at (own_ext HOW.out y1) (by omega)
              go_upto_region 12 with (fail)
              try simp only [show ((1 : Nat) : Int) = (1 : Int) from rfl]
              generalize (wr.alloc (.cells #[.int .i64 0, .int .i64 0, .int .i64 0, .int .i64 0, .int .i64 0, .int .i64 0, .int .i64 1, .int .i64 0, .int .i64 2] 3)) = X2 at y1 hsz hez ⊢
              have HXQ := Lib.hid (HXQ.out.trans (HXJ.out.trans y1))
              have HS := Lib.hid hsz
              have HE := Lib.hid hez
              have HPL := Lib.hid (fun i (hi : i < 5) => show check (So.part p i ⟨6, E0, numsF 1, 0, 0, .nil, .nil⟩) = if bad 6 i = true then some ⟨10, partName i⟩ else none from places HRO.out.2 HRO.out.1 HVP.out HZ0.out 6 (by omega) i hi)
              clear y1 hsz hez HSX HXX HXJ HOW HSJ HSB HX1 hj
              go_loopw [8] (fun t8 wr => ∃ (i : Nat), i ≤ 5 ∧ t8 = .int .i64 i ∧ Ext X2 wr) (fun t8 _ => 5 - (intOf t8).toNat)
              case atStart => exact ⟨0, by omega, rfl, Kept.refl _ _⟩
              case round =>
                obtain ⟨i, hi5, rfl, hx⟩ := hrel
                have HXI := Lib.hid hx
                clear hx
                by_cases hlt : i < 5
                · have hltI : (i : Int) < 5 := by omega
                  by_cases hio : i = 1
                  · have hib : ((i : Int) == 1) = true := by simp [hio]
                    have hin : ((i : Int) != 1) = false := by unfold bne; rw [hib]; rfl
                    have HFJ := Lib.hid (show check (So.part p i ⟨6, E0, numsF 1, 0, 0, .nil, .nil⟩) = none from by rw [HPL.out i hlt, hio]; rfl)
                    clear hio
                    have y2 := (Kept.refl (fun _ => False) wr).alloc (.cells #[.int .i64 0, .string ⟨#[]⟩] 38)
                    have hF := Blk.new wr 38 #[.int .i64 0, .string ⟨#[]⟩]
                    go_upto_region 17 with (fail)
                    generalize (wr.alloc (.cells #[.int .i64 0, .string ⟨#[]⟩] 38)) = X9 at y2 hF ⊢
                    generalize wr.heap.size = fb at hF ⊢
                    have HX9 := Lib.hid (HXI.out.trans y2)
                    have HXV := Lib.hid (HXQ.out.trans HX9.out)
                    have HS9 := Lib.hid (Blk.ext HS.out HX9.out)
                    have HF9 := Lib.hid hF
                    clear y2 hF
                    have HXR := Lib.hid (HX9.out)
                    refine wp_region_3 (fun w1 => Ext X9 w1) [(0, 1), (1, 2), (2, 1), (5, 1), (3, 0), (4, 0), (6, 2)] (by kernel_rfl) (by kernel_rfl) (by kernel_rfl) (by kernel_rfl) ?_; intro l' hl'; simp only [List.map_cons, List.map_nil, List.getD_cons_zero, List.getD_cons_succ] at hl'; subst hl'
                    have HY0 := Lib.hid (show Ext X9 X9.drew from (Kept.refl _ X9).drew)
                    (repeat (first | ((apply w3_pure); (· go_simp); (· (intro w1; go_simp; try with_reducible rfl)); (intro K hK; go_simp; refine hK _ _ ?_; clear hK K)) | ((apply w3_skip); (· go_simp); (intro K hK; go_simp; refine hK _ _ ?_; clear hK K)) | ((apply w3_take); (· exact HY0.out); (· go_simp); (· (intro w1 hS; have d0 := Blk.ext HB.out (HXV.out.trans hS); have d1 := Blk.gets d0; have d2 := Blk.has d0; have d3 := d0.lt; have d4 := Blk.ext HS9.out hS; have d5 := Blk.gets d4; have d6 := Blk.has d4; have d7 := d4.lt; have e4 := Blk.ext HF9.out hS; have e5 := Blk.gets e4; have e6 := Blk.has e4; have e7 := e4.lt;  go_simp; try with_reducible rfl)); (intro K hK; go_simp; refine hK _ _ ?_; clear hK K)) | ((apply w3_pass); (· exact HY0.out); (· go_simp); (intro K hK; go_simp; refine hK _ _ ?_; clear hK K))))
                    (refine w3_act (fun K hK => ?_); go_simp)
                    refine (part_any (⟨cn, cse, cst, ⟨some ⟨vb, vo, none⟩, vn, vc⟩, cs, ct, cpa, cpl, csi, cq, cpy⟩ : Pc) p i hlt 0 _ _ (Nat.le_refl _) ((HPA.out.ext (HXV.out.trans HY0.out) HNW.out).mono (Nat.le_trans HNW.out (HXV.out.trans HY0.out).size)) hcap hroom 6 E0 (numsF 1) 0 0 .nil .nil B bc none 0 none 0 (ok64 (by decide)) (ok64 (by decide)) (ok64 (by decide)) (name_ok _ (by decide)) ((HE.out.ext (HX9.out.trans HY0.out) (Nat.le_refl _)).mono (HX9.out.trans HY0.out).size) (SSl.nil _ _ _) (SSl.nil _ _ _)).mono ?_
                    rintro e w7 ⟨c2, rfl, hp2, -, -, hx7⟩
                    have HP2 := Lib.hid (hp2 _ _ (Kept.refl (fun _ => False) w7) (fun _ q => q.elim))
                    have HY1 := Lib.hid (HY0.out.trans hx7)
                    clear hp2 hx7
                    refine hK.out _ _ (fun _ => HY1.out) ?_
                    clear hK K
                    (repeat (first | ((apply w3_pure); (· go_simp); (· (intro w1; go_simp; try with_reducible rfl)); (intro K hK; go_simp; refine hK _ _ ?_; clear hK K)) | ((apply w3_skip); (· go_simp); (intro K hK; go_simp; refine hK _ _ ?_; clear hK K)) | ((apply w3_take); (· exact HY1.out); (· go_simp); (· (intro w1 hS; have d0 := Blk.ext HB.out (HXV.out.trans hS); have d1 := Blk.gets d0; have d2 := Blk.has d0; have d3 := d0.lt; have d4 := Blk.ext HS9.out hS; have d5 := Blk.gets d4; have d6 := Blk.has d4; have d7 := d4.lt; have e4 := Blk.ext HF9.out hS; have e5 := Blk.gets e4; have e6 := Blk.has e4; have e7 := e4.lt;  go_simp; try with_reducible rfl)); (intro K hK; go_simp; refine hK _ _ ?_; clear hK K)) | ((apply w3_pass); (· exact HY1.out); (· go_simp); (intro K hK; go_simp; refine hK _ _ ?_; clear hK K))))
                    (refine w3_act (fun K hK => ?_); go_simp)
                    refine (lcheck_any c2 _ _ w7 (Nat.le_refl _) HP2.out (HLW.out.ext (HXV.out.trans HY1.out))).mono ?_
                    rintro e w8 ⟨rfl, hx8⟩
                    rw [HFJ.out, show fltC none = #[.int .i64 0, .string ⟨#[]⟩] from rfl]
                    have HY2 := Lib.hid (HY1.out.trans hx8)
                    clear hx8
                    refine hK.out _ _ (fun _ => HY2.out) ?_
                    clear hK K
                    (repeat (first | ((apply w3_pure); (· go_simp); (· (intro w1; go_simp; try with_reducible rfl)); (intro K hK; go_simp; refine hK _ _ ?_; clear hK K)) | ((apply w3_skip); (· go_simp); (intro K hK; go_simp; refine hK _ _ ?_; clear hK K)) | (refine w3_end (by kernel_rfl) (fun K hK => ?_); go_simp; refine hK.out _ _ ?_; clear hK K))); refine w3_nil ?_
                    go_wp2_with fail
                    go_roundw
                    case rel => exact ⟨i + 1, by omega, by go_num, HX9.out.trans HY2.out⟩
                    case measure => simp only [intOf]; omega
                  · have hib : ((i : Int) == 1) = false := by simp; omega
                    have hin : ((i : Int) != 1) = true := by unfold bne; rw [hib]; rfl
                    have HFJ := Lib.hid (show check (So.part p i ⟨6, E0, numsF 1, 0, 0, .nil, .nil⟩) = some ⟨10, partName i⟩ from by
                      rw [HPL.out i hlt, if_pos (by rcases (by omega : i = 0 ∨ i = 1 ∨ i = 2 ∨ i = 3 ∨ i = 4) with rfl | rfl | rfl | rfl | rfl <;> first | rfl | exact absurd rfl hio)])
                    clear hio
                    have y2 := (Kept.refl (fun _ => False) wr).alloc (.cells #[.int .i64 0, .string ⟨#[]⟩] 38)
                    have hF := Blk.new wr 38 #[.int .i64 0, .string ⟨#[]⟩]
                    go_upto_region 16 with (fail)
                    generalize (wr.alloc (.cells #[.int .i64 0, .string ⟨#[]⟩] 38)) = X8 at y2 hF ⊢
                    obtain ⟨fb, hfb⟩ : ∃ fb, fb = wr.heap.size := ⟨_, rfl⟩
                    rw [← hfb] at hF ⊢
                    have HFB := Lib.hid hfb
                    clear hfb
                    go_wp2_with fail
                    refine (names_any _).mono ?_
                    rintro e2 w3 ⟨rfl, hx3, hbn⟩
                    have hlb := hbn.lt
                    obtain ⟨nb, hnb⟩ : ∃ nb, nb = X8.heap.size := ⟨_, rfl⟩
                    rw [← hnb] at hbn hlb ⊢
                    clear hnb
                    have hcn : w3.cell? ⟨nb, i, none⟩ = some (.string (partName i)) := by
                      rw [Blk.cell hbn i]
                      rcases (by omega : i = 0 ∨ i = 1 ∨ i = 2 ∨ i = 3 ∨ i = 4) with rfl | rfl | rfl | rfl | rfl <;> rfl
                    have hF3 := Blk.ext hF hx3
                    have hhF := Blk.has hF3
                    have hmF := hF3.melts
                    have hlF := hF3.lt
                    go_upto_region 17 with (fail)
                    clear hhF hmF hlF hcn hlb hbn
                    have hk9 : Kept (· = fb) w3 (putAt w3 fb 0 #[.int .i64 10, .string (partName i)]) := Kept.putAt (Kept.refl (· = fb) w3) fb 0 _ (fun _ => rfl)
                    have hf9 : Blk (putAt w3 fb 0 #[.int .i64 10, .string (partName i)]) fb 38 #[.int .i64 10, .string (partName i)] := Blk.put_ hF3 0 #[.int .i64 10, .string (partName i)]
                    generalize (putAt w3 fb 0 #[.int .i64 10, .string (partName i)]) = X9 at hk9 hf9 ⊢
                    have HX9 := Lib.hid (HXI.out.trans ((y2.trans hx3).trans' hk9 (fun i hi q => by have := HFB.out; omega)))
                    have HXV := Lib.hid (HXQ.out.trans HX9.out)
                    have HS9 := Lib.hid (Blk.ext HS.out HX9.out)
                    have HF9 := Lib.hid hf9
                    clear y2 hF hx3 hk9 hf9 hF3 HFB
                    have HXR := Lib.hid (HX9.out)
                    refine wp_region_3 (fun w1 => Ext X9 w1) [(0, 1), (1, 2), (2, 1), (5, 1), (3, 0), (4, 0), (6, 2)] (by kernel_rfl) (by kernel_rfl) (by kernel_rfl) (by kernel_rfl) ?_; intro l' hl'; simp only [List.map_cons, List.map_nil, List.getD_cons_zero, List.getD_cons_succ] at hl'; subst hl'
                    have HY0 := Lib.hid (show Ext X9 X9.drew from (Kept.refl _ X9).drew)
                    (repeat (first | ((apply w3_pure); (· go_simp); (· (intro w1; go_simp; try with_reducible rfl)); (intro K hK; go_simp; refine hK _ _ ?_; clear hK K)) | ((apply w3_skip); (· go_simp); (intro K hK; go_simp; refine hK _ _ ?_; clear hK K)) | ((apply w3_take); (· exact HY0.out); (· go_simp); (· (intro w1 hS; have d0 := Blk.ext HB.out (HXV.out.trans hS); have d1 := Blk.gets d0; have d2 := Blk.has d0; have d3 := d0.lt; have d4 := Blk.ext HS9.out hS; have d5 := Blk.gets d4; have d6 := Blk.has d4; have d7 := d4.lt; have e4 := Blk.ext HF9.out hS; have e5 := Blk.gets e4; have e6 := Blk.has e4; have e7 := e4.lt;  go_simp; try with_reducible rfl)); (intro K hK; go_simp; refine hK _ _ ?_; clear hK K)) | ((apply w3_pass); (· exact HY0.out); (· go_simp); (intro K hK; go_simp; refine hK _ _ ?_; clear hK K))))
                    (refine w3_act (fun K hK => ?_); go_simp)
                    refine (part_any (⟨cn, cse, cst, ⟨some ⟨vb, vo, none⟩, vn, vc⟩, cs, ct, cpa, cpl, csi, cq, cpy⟩ : Pc) p i hlt 0 _ _ (Nat.le_refl _) ((HPA.out.ext (HXV.out.trans HY0.out) HNW.out).mono (Nat.le_trans HNW.out (HXV.out.trans HY0.out).size)) hcap hroom 6 E0 (numsF 1) 0 0 .nil .nil B bc none 0 none 0 (ok64 (by decide)) (ok64 (by decide)) (ok64 (by decide)) (name_ok _ (by decide)) ((HE.out.ext (HX9.out.trans HY0.out) (Nat.le_refl _)).mono (HX9.out.trans HY0.out).size) (SSl.nil _ _ _) (SSl.nil _ _ _)).mono ?_
                    rintro e w7 ⟨c2, rfl, hp2, -, -, hx7⟩
                    have HP2 := Lib.hid (hp2 _ _ (Kept.refl (fun _ => False) w7) (fun _ q => q.elim))
                    have HY1 := Lib.hid (HY0.out.trans hx7)
                    clear hp2 hx7
                    refine hK.out _ _ (fun _ => HY1.out) ?_
                    clear hK K
                    (repeat (first | ((apply w3_pure); (· go_simp); (· (intro w1; go_simp; try with_reducible rfl)); (intro K hK; go_simp; refine hK _ _ ?_; clear hK K)) | ((apply w3_skip); (· go_simp); (intro K hK; go_simp; refine hK _ _ ?_; clear hK K)) | ((apply w3_take); (· exact HY1.out); (· go_simp); (· (intro w1 hS; have d0 := Blk.ext HB.out (HXV.out.trans hS); have d1 := Blk.gets d0; have d2 := Blk.has d0; have d3 := d0.lt; have d4 := Blk.ext HS9.out hS; have d5 := Blk.gets d4; have d6 := Blk.has d4; have d7 := d4.lt; have e4 := Blk.ext HF9.out hS; have e5 := Blk.gets e4; have e6 := Blk.has e4; have e7 := e4.lt;  go_simp; try with_reducible rfl)); (intro K hK; go_simp; refine hK _ _ ?_; clear hK K)) | ((apply w3_pass); (· exact HY1.out); (· go_simp); (intro K hK; go_simp; refine hK _ _ ?_; clear hK K))))
                    (refine w3_act (fun K hK => ?_); go_simp)
                    refine (lcheck_any c2 _ _ w7 (Nat.le_refl _) HP2.out (HLW.out.ext (HXV.out.trans HY1.out))).mono ?_
                    rintro e w8 ⟨rfl, hx8⟩
                    rw [HFJ.out, show fltC (some ⟨10, partName i⟩) = #[.int .i64 10, .string (partName i)] from rfl]
                    have HY2 := Lib.hid (HY1.out.trans hx8)
                    clear hx8
                    refine hK.out _ _ (fun _ => HY2.out) ?_
                    clear hK K
                    (repeat (first | ((apply w3_pure); (· go_simp); (· (intro w1; go_simp; try with_reducible rfl)); (intro K hK; go_simp; refine hK _ _ ?_; clear hK K)) | ((apply w3_skip); (· go_simp); (intro K hK; go_simp; refine hK _ _ ?_; clear hK K)) | (refine w3_end (by kernel_rfl) (fun K hK => ?_); go_simp; refine hK.out _ _ ?_; clear hK K))); refine w3_nil ?_
                    go_wp2_with fail
                    go_roundw
                    case rel => exact ⟨i + 1, by omega, by go_num, HX9.out.trans HY2.out⟩
                    case measure => simp only [intOf]; omega
                · obtain rfl : i = 5 := by omega
                  have HXQ := Lib.hid (HXQ.out.trans HXI.out)
                  go_wp2_with fail
                  refine (told_any _ (HLW.out.ext HXQ.out)).mono ?_
                  rintro e w9 ⟨rfl, hx9⟩
                  go_wp2_with fail
                  go_ret
                  exact ⟨rfl, HX0.out.trans (HXQ.out.trans hx9)⟩
        ·
          have x1 := ((Kept.refl (fun _ => False) W1).alloc (.cells #[.int .i64 4, .int .i64 5, .int .i64 6, .int .i64 7, .int .i64 8] 3)).alloc (.cells (scells 7 ⟨#[]⟩ none 0 0 0 0 none 0 0 none 0 0) 34)
          have hS := Blk.new' (W1.alloc (.cells #[.int .i64 4, .int .i64 5, .int .i64 6, .int .i64 7, .int .i64 8] 3)) 34 (scells 7 ⟨#[]⟩ none 0 0 0 0 none 0 0 none 0 0) (W1.heap.size + 1) (by simp)
          go_upto_region 5 with (fail)
          generalize hV : ((W1.alloc (.cells #[.int .i64 4, .int .i64 5, .int .i64 6, .int .i64 7, .int .i64 8] 3)).alloc (.cells (scells 7 ⟨#[]⟩ none 0 0 0 0 none 0 0 none 0 0) 34)) = X0 at x1 hS ⊢
          clear hV
          obtain ⟨sb, hsb⟩ : ∃ sb, sb = W1.heap.size + 1 := ⟨_, rfl⟩
          rw [← hsb] at hS ⊢
          have HSB := Lib.hid (show W1.heap.size ≤ sb by omega)
          have HX1 := Lib.hid x1
          clear hBq hcP hhP hgP hlP
          clear x1 hsb hc0 hc1 hzn hzb hvl ea
          go_upto_region 7 with (fail)
          have HSX := Lib.hid hS
          have HXX := HX1
          clear hS
          generalize X0 = X1 at HSX HXX ⊢
          go_wp2_with fail
          go_loopw [7] (fun t7 wr => ∃ (j : Nat) (B : Option Addr) (bc : Nat), j ≤ 0 ∧ t7 = .int .i64 j ∧ Blk wr sb 34 (scells 7 ⟨#[]⟩ B j bc 0 0 none 0 0 none 0 0) ∧ wr.ownsRow (sb + 1) 36 4 (.slice B j bc) j (rowsL Ec.cells (numsL j)) ∧ Ext W1 wr) (fun t7 _ => 0 - (intOf t7).toNat)
          case atStart => exact ⟨0, none, 0, Nat.zero_le _, rfl, HSX.out, World.ownsRow_nil _ _ _ _, HXX.out⟩
          case round =>
            obtain ⟨j, B, bc, hj, rfl, hs, how, hx⟩ := hrel
            have HSJ := Lib.hid hs
            have HOW := Lib.hid how
            have HXJ := Lib.hid hx
            clear hs how hx
            obtain rfl : j = 0 := by omega
            have y1 : Ext wr (wr.alloc (.cells #[.int .i64 0, .int .i64 0, .int .i64 0, .int .i64 0, .int .i64 0, .int .i64 0, .int .i64 1, .int .i64 0, .int .i64 2] 3)) := (Kept.refl (fun _ => False) wr).alloc _
            have hsz := Blk.ext HSJ.out y1
            have hez := nums_at (own_ext HOW.out y1) (by omega)
            go_upto_region 12 with (fail)
            try simp only [show ((0 : Nat) : Int) = (0 : Int) from rfl]
            generalize (wr.alloc (.cells #[.int .i64 0, .int .i64 0, .int .i64 0, .int .i64 0, .int .i64 0, .int .i64 0, .int .i64 1, .int .i64 0, .int .i64 2] 3)) = X2 at y1 hsz hez ⊢
            have HXQ := Lib.hid (HXQ.out.trans (HXJ.out.trans y1))
            have HS := Lib.hid hsz
            have HE := Lib.hid hez
            have HPL := Lib.hid (fun i (hi : i < 5) => show check (So.part p i ⟨7, E0, numsF 0, 0, 0, .nil, .nil⟩) = if bad 7 i = true then some ⟨10, partName i⟩ else none from places HRO.out.2 HRO.out.1 HVP.out HZ0.out 7 (by omega) i hi)
            clear y1 hsz hez HSX HXX HXJ HOW HSJ HSB HX1 hj
            go_loopw [8] (fun t8 wr => ∃ (i : Nat), i ≤ 5 ∧ t8 = .int .i64 i ∧ Ext X2 wr) (fun t8 _ => 5 - (intOf t8).toNat)
            case atStart => exact ⟨0, by omega, rfl, Kept.refl _ _⟩
            case round =>
              obtain ⟨i, hi5, rfl, hx⟩ := hrel
              have HXI := Lib.hid hx
              clear hx
              by_cases hlt : i < 5
              · have hltI : (i : Int) < 5 := by omega
                by_cases hio : i = 1
                · have hib : ((i : Int) == 1) = true := by simp [hio]
                  have hin : ((i : Int) != 1) = false := by unfold bne; rw [hib]; rfl
                  have HFJ := Lib.hid (show check (So.part p i ⟨7, E0, numsF 0, 0, 0, .nil, .nil⟩) = none from by rw [HPL.out i hlt, hio]; rfl)
                  clear hio
                  have y2 := (Kept.refl (fun _ => False) wr).alloc (.cells #[.int .i64 0, .string ⟨#[]⟩] 38)
                  have hF := Blk.new wr 38 #[.int .i64 0, .string ⟨#[]⟩]
                  go_upto_region 17 with (fail)
                  generalize (wr.alloc (.cells #[.int .i64 0, .string ⟨#[]⟩] 38)) = X9 at y2 hF ⊢
                  generalize wr.heap.size = fb at hF ⊢
                  have HX9 := Lib.hid (HXI.out.trans y2)
                  have HXV := Lib.hid (HXQ.out.trans HX9.out)
                  have HS9 := Lib.hid (Blk.ext HS.out HX9.out)
                  have HF9 := Lib.hid hF
                  clear y2 hF
                  have HXR := Lib.hid (HX9.out)
                  refine wp_region_3 (fun w1 => Ext X9 w1) [(0, 1), (1, 2), (2, 1), (5, 1), (3, 0), (4, 0), (6, 2)] (by kernel_rfl) (by kernel_rfl) (by kernel_rfl) (by kernel_rfl) ?_; intro l' hl'; simp only [List.map_cons, List.map_nil, List.getD_cons_zero, List.getD_cons_succ] at hl'; subst hl'
                  have HY0 := Lib.hid (show Ext X9 X9.drew from (Kept.refl _ X9).drew)
                  (repeat (first | ((apply w3_pure); (· go_simp); (· (intro w1; go_simp; try with_reducible rfl)); (intro K hK; go_simp; refine hK _ _ ?_; clear hK K)) | ((apply w3_skip); (· go_simp); (intro K hK; go_simp; refine hK _ _ ?_; clear hK K)) | ((apply w3_take); (· exact HY0.out); (· go_simp); (· (intro w1 hS; have d0 := Blk.ext HB.out (HXV.out.trans hS); have d1 := Blk.gets d0; have d2 := Blk.has d0; have d3 := d0.lt; have d4 := Blk.ext HS9.out hS; have d5 := Blk.gets d4; have d6 := Blk.has d4; have d7 := d4.lt; have e4 := Blk.ext HF9.out hS; have e5 := Blk.gets e4; have e6 := Blk.has e4; have e7 := e4.lt;  go_simp; try with_reducible rfl)); (intro K hK; go_simp; refine hK _ _ ?_; clear hK K)) | ((apply w3_pass); (· exact HY0.out); (· go_simp); (intro K hK; go_simp; refine hK _ _ ?_; clear hK K))))
                  (refine w3_act (fun K hK => ?_); go_simp)
                  refine (part_any (⟨cn, cse, cst, ⟨some ⟨vb, vo, none⟩, vn, vc⟩, cs, ct, cpa, cpl, csi, cq, cpy⟩ : Pc) p i hlt 0 _ _ (Nat.le_refl _) ((HPA.out.ext (HXV.out.trans HY0.out) HNW.out).mono (Nat.le_trans HNW.out (HXV.out.trans HY0.out).size)) hcap hroom 7 E0 (numsF 0) 0 0 .nil .nil B bc none 0 none 0 (ok64 (by decide)) (ok64 (by decide)) (ok64 (by decide)) (name_ok _ (by decide)) ((HE.out.ext (HX9.out.trans HY0.out) (Nat.le_refl _)).mono (HX9.out.trans HY0.out).size) (SSl.nil _ _ _) (SSl.nil _ _ _)).mono ?_
                  rintro e w7 ⟨c2, rfl, hp2, -, -, hx7⟩
                  have HP2 := Lib.hid (hp2 _ _ (Kept.refl (fun _ => False) w7) (fun _ q => q.elim))
                  have HY1 := Lib.hid (HY0.out.trans hx7)
                  clear hp2 hx7
                  refine hK.out _ _ (fun _ => HY1.out) ?_
                  clear hK K
                  (repeat (first | ((apply w3_pure); (· go_simp); (· (intro w1; go_simp; try with_reducible rfl)); (intro K hK; go_simp; refine hK _ _ ?_; clear hK K)) | ((apply w3_skip); (· go_simp); (intro K hK; go_simp; refine hK _ _ ?_; clear hK K)) | ((apply w3_take); (· exact HY1.out); (· go_simp); (· (intro w1 hS; have d0 := Blk.ext HB.out (HXV.out.trans hS); have d1 := Blk.gets d0; have d2 := Blk.has d0; have d3 := d0.lt; have d4 := Blk.ext HS9.out hS; have d5 := Blk.gets d4; have d6 := Blk.has d4; have d7 := d4.lt; have e4 := Blk.ext HF9.out hS; have e5 := Blk.gets e4; have e6 := Blk.has e4; have e7 := e4.lt;  go_simp; try with_reducible rfl)); (intro K hK; go_simp; refine hK _ _ ?_; clear hK K)) | ((apply w3_pass); (· exact HY1.out); (· go_simp); (intro K hK; go_simp; refine hK _ _ ?_; clear hK K))))
                  (refine w3_act (fun K hK => ?_); go_simp)
                  refine (lcheck_any c2 _ _ w7 (Nat.le_refl _) HP2.out (HLW.out.ext (HXV.out.trans HY1.out))).mono ?_
                  rintro e w8 ⟨rfl, hx8⟩
                  rw [HFJ.out, show fltC none = #[.int .i64 0, .string ⟨#[]⟩] from rfl]
                  have HY2 := Lib.hid (HY1.out.trans hx8)
                  clear hx8
                  refine hK.out _ _ (fun _ => HY2.out) ?_
                  clear hK K
                  (repeat (first | ((apply w3_pure); (· go_simp); (· (intro w1; go_simp; try with_reducible rfl)); (intro K hK; go_simp; refine hK _ _ ?_; clear hK K)) | ((apply w3_skip); (· go_simp); (intro K hK; go_simp; refine hK _ _ ?_; clear hK K)) | (refine w3_end (by kernel_rfl) (fun K hK => ?_); go_simp; refine hK.out _ _ ?_; clear hK K))); refine w3_nil ?_
                  go_wp2_with fail
                  go_roundw
                  case rel => exact ⟨i + 1, by omega, by go_num, HX9.out.trans HY2.out⟩
                  case measure => simp only [intOf]; omega
                · have hib : ((i : Int) == 1) = false := by simp; omega
                  have hin : ((i : Int) != 1) = true := by unfold bne; rw [hib]; rfl
                  have HFJ := Lib.hid (show check (So.part p i ⟨7, E0, numsF 0, 0, 0, .nil, .nil⟩) = some ⟨10, partName i⟩ from by
                    rw [HPL.out i hlt, if_pos (by rcases (by omega : i = 0 ∨ i = 1 ∨ i = 2 ∨ i = 3 ∨ i = 4) with rfl | rfl | rfl | rfl | rfl <;> first | rfl | exact absurd rfl hio)])
                  clear hio
                  have y2 := (Kept.refl (fun _ => False) wr).alloc (.cells #[.int .i64 0, .string ⟨#[]⟩] 38)
                  have hF := Blk.new wr 38 #[.int .i64 0, .string ⟨#[]⟩]
                  go_upto_region 16 with (fail)
                  generalize (wr.alloc (.cells #[.int .i64 0, .string ⟨#[]⟩] 38)) = X8 at y2 hF ⊢
                  obtain ⟨fb, hfb⟩ : ∃ fb, fb = wr.heap.size := ⟨_, rfl⟩
                  rw [← hfb] at hF ⊢
                  have HFB := Lib.hid hfb
                  clear hfb
                  go_wp2_with fail
                  refine (names_any _).mono ?_
                  rintro e2 w3 ⟨rfl, hx3, hbn⟩
                  have hlb := hbn.lt
                  obtain ⟨nb, hnb⟩ : ∃ nb, nb = X8.heap.size := ⟨_, rfl⟩
                  rw [← hnb] at hbn hlb ⊢
                  clear hnb
                  have hcn : w3.cell? ⟨nb, i, none⟩ = some (.string (partName i)) := by
                    rw [Blk.cell hbn i]
                    rcases (by omega : i = 0 ∨ i = 1 ∨ i = 2 ∨ i = 3 ∨ i = 4) with rfl | rfl | rfl | rfl | rfl <;> rfl
                  have hF3 := Blk.ext hF hx3
                  have hhF := Blk.has hF3
                  have hmF := hF3.melts
                  have hlF := hF3.lt
                  go_upto_region 17 with (fail)
                  clear hhF hmF hlF hcn hlb hbn
                  have hk9 : Kept (· = fb) w3 (putAt w3 fb 0 #[.int .i64 10, .string (partName i)]) := Kept.putAt (Kept.refl (· = fb) w3) fb 0 _ (fun _ => rfl)
                  have hf9 : Blk (putAt w3 fb 0 #[.int .i64 10, .string (partName i)]) fb 38 #[.int .i64 10, .string (partName i)] := Blk.put_ hF3 0 #[.int .i64 10, .string (partName i)]
                  generalize (putAt w3 fb 0 #[.int .i64 10, .string (partName i)]) = X9 at hk9 hf9 ⊢
                  have HX9 := Lib.hid (HXI.out.trans ((y2.trans hx3).trans' hk9 (fun i hi q => by have := HFB.out; omega)))
                  have HXV := Lib.hid (HXQ.out.trans HX9.out)
                  have HS9 := Lib.hid (Blk.ext HS.out HX9.out)
                  have HF9 := Lib.hid hf9
                  clear y2 hF hx3 hk9 hf9 hF3 HFB
                  have HXR := Lib.hid (HX9.out)
                  refine wp_region_3 (fun w1 => Ext X9 w1) [(0, 1), (1, 2), (2, 1), (5, 1), (3, 0), (4, 0), (6, 2)] (by kernel_rfl) (by kernel_rfl) (by kernel_rfl) (by kernel_rfl) ?_; intro l' hl'; simp only [List.map_cons, List.map_nil, List.getD_cons_zero, List.getD_cons_succ] at hl'; subst hl'
                  have HY0 := Lib.hid (show Ext X9 X9.drew from (Kept.refl _ X9).drew)
                  (repeat (first | ((apply w3_pure); (· go_simp); (· (intro w1; go_simp; try with_reducible rfl)); (intro K hK; go_simp; refine hK _ _ ?_; clear hK K)) | ((apply w3_skip); (· go_simp); (intro K hK; go_simp; refine hK _ _ ?_; clear hK K)) | ((apply w3_take); (· exact HY0.out); (· go_simp); (· (intro w1 hS; have d0 := Blk.ext HB.out (HXV.out.trans hS); have d1 := Blk.gets d0; have d2 := Blk.has d0; have d3 := d0.lt; have d4 := Blk.ext HS9.out hS; have d5 := Blk.gets d4; have d6 := Blk.has d4; have d7 := d4.lt; have e4 := Blk.ext HF9.out hS; have e5 := Blk.gets e4; have e6 := Blk.has e4; have e7 := e4.lt;  go_simp; try with_reducible rfl)); (intro K hK; go_simp; refine hK _ _ ?_; clear hK K)) | ((apply w3_pass); (· exact HY0.out); (· go_simp); (intro K hK; go_simp; refine hK _ _ ?_; clear hK K))))
                  (refine w3_act (fun K hK => ?_); go_simp)
                  refine (part_any (⟨cn, cse, cst, ⟨some ⟨vb, vo, none⟩, vn, vc⟩, cs, ct, cpa, cpl, csi, cq, cpy⟩ : Pc) p i hlt 0 _ _ (Nat.le_refl _) ((HPA.out.ext (HXV.out.trans HY0.out) HNW.out).mono (Nat.le_trans HNW.out (HXV.out.trans HY0.out).size)) hcap hroom 7 E0 (numsF 0) 0 0 .nil .nil B bc none 0 none 0 (ok64 (by decide)) (ok64 (by decide)) (ok64 (by decide)) (name_ok _ (by decide)) ((HE.out.ext (HX9.out.trans HY0.out) (Nat.le_refl _)).mono (HX9.out.trans HY0.out).size) (SSl.nil _ _ _) (SSl.nil _ _ _)).mono ?_
                  rintro e w7 ⟨c2, rfl, hp2, -, -, hx7⟩
                  have HP2 := Lib.hid (hp2 _ _ (Kept.refl (fun _ => False) w7) (fun _ q => q.elim))
                  have HY1 := Lib.hid (HY0.out.trans hx7)
                  clear hp2 hx7
                  refine hK.out _ _ (fun _ => HY1.out) ?_
                  clear hK K
                  (repeat (first | ((apply w3_pure); (· go_simp); (· (intro w1; go_simp; try with_reducible rfl)); (intro K hK; go_simp; refine hK _ _ ?_; clear hK K)) | ((apply w3_skip); (· go_simp); (intro K hK; go_simp; refine hK _ _ ?_; clear hK K)) | ((apply w3_take); (· exact HY1.out); (· go_simp); (· (intro w1 hS; have d0 := Blk.ext HB.out (HXV.out.trans hS); have d1 := Blk.gets d0; have d2 := Blk.has d0; have d3 := d0.lt; have d4 := Blk.ext HS9.out hS; have d5 := Blk.gets d4; have d6 := Blk.has d4; have d7 := d4.lt; have e4 := Blk.ext HF9.out hS; have e5 := Blk.gets e4; have e6 := Blk.has e4; have e7 := e4.lt;  go_simp; try with_reducible rfl)); (intro K hK; go_simp; refine hK _ _ ?_; clear hK K)) | ((apply w3_pass); (· exact HY1.out); (· go_simp); (intro K hK; go_simp; refine hK _ _ ?_; clear hK K))))
                  (refine w3_act (fun K hK => ?_); go_simp)
                  refine (lcheck_any c2 _ _ w7 (Nat.le_refl _) HP2.out (HLW.out.ext (HXV.out.trans HY1.out))).mono ?_
                  rintro e w8 ⟨rfl, hx8⟩
                  rw [HFJ.out, show fltC (some ⟨10, partName i⟩) = #[.int .i64 10, .string (partName i)] from rfl]
                  have HY2 := Lib.hid (HY1.out.trans hx8)
                  clear hx8
                  refine hK.out _ _ (fun _ => HY2.out) ?_
                  clear hK K
                  (repeat (first | ((apply w3_pure); (· go_simp); (· (intro w1; go_simp; try with_reducible rfl)); (intro K hK; go_simp; refine hK _ _ ?_; clear hK K)) | ((apply w3_skip); (· go_simp); (intro K hK; go_simp; refine hK _ _ ?_; clear hK K)) | (refine w3_end (by kernel_rfl) (fun K hK => ?_); go_simp; refine hK.out _ _ ?_; clear hK K))); refine w3_nil ?_
                  go_wp2_with fail
                  go_roundw
                  case rel => exact ⟨i + 1, by omega, by go_num, HX9.out.trans HY2.out⟩
                  case measure => simp only [intOf]; omega
              · obtain rfl : i = 5 := by omega
                have HXQ := Lib.hid (HXQ.out.trans HXI.out)
                go_wp2_with fail
                refine (told_any _ (HLW.out.ext HXQ.out)).mono ?_
                rintro e w9 ⟨rfl, hx9⟩
                go_wp2_with fail
                go_ret
                exact ⟨rfl, HX0.out.trans (HXQ.out.trans hx9)⟩
        ·
          have x1 := ((Kept.refl (fun _ => False) W1).alloc (.cells #[.int .i64 4, .int .i64 5, .int .i64 6, .int .i64 7, .int .i64 8] 3)).alloc (.cells (scells 8 ⟨#[]⟩ none 0 0 0 0 none 0 0 none 0 0) 34)
          have hS := Blk.new' (W1.alloc (.cells #[.int .i64 4, .int .i64 5, .int .i64 6, .int .i64 7, .int .i64 8] 3)) 34 (scells 8 ⟨#[]⟩ none 0 0 0 0 none 0 0 none 0 0) (W1.heap.size + 1) (by simp)
          go_upto_region 5 with (fail)
          generalize hV : ((W1.alloc (.cells #[.int .i64 4, .int .i64 5, .int .i64 6, .int .i64 7, .int .i64 8] 3)).alloc (.cells (scells 8 ⟨#[]⟩ none 0 0 0 0 none 0 0 none 0 0) 34)) = X0 at x1 hS ⊢
          clear hV
          obtain ⟨sb, hsb⟩ : ∃ sb, sb = W1.heap.size + 1 := ⟨_, rfl⟩
          rw [← hsb] at hS ⊢
          have HSB := Lib.hid (show W1.heap.size ≤ sb by omega)
          have HX1 := Lib.hid x1
          clear hBq hcP hhP hgP hlP
          clear x1 hsb hc0 hc1 hzn hzb hvl ea
          go_upto_region 7 with (fail)
          have HSX := Lib.hid hS
          have HXX := HX1
          clear hS
          generalize X0 = X1 at HSX HXX ⊢
          go_wp2_with fail
          go_loopw [7] (fun t7 wr => ∃ (j : Nat) (B : Option Addr) (bc : Nat), j ≤ 2 ∧ t7 = .int .i64 j ∧ Blk wr sb 34 (scells 8 ⟨#[]⟩ B j bc 0 0 none 0 0 none 0 0) ∧ wr.ownsRow (sb + 1) 36 4 (.slice B j bc) j (rowsL Ec.cells (numsL j)) ∧ Ext W1 wr) (fun t7 _ => 2 - (intOf t7).toNat)
          case atStart => exact ⟨0, none, 0, Nat.zero_le _, rfl, HSX.out, World.ownsRow_nil _ _ _ _, HXX.out⟩
          case round =>
            obtain ⟨j, B, bc, hj, rfl, hs, how, hx⟩ := hrel
            have HSJ := Lib.hid hs
            have HOW := Lib.hid how
            have HXJ := Lib.hid hx
            clear hs how hx
            by_cases hlt : j < 2
            · have hltI : (j : Int) < 2 := by omega
              have y1 : Ext wr _ := ((Kept.refl (fun _ => False) wr).alloc (.cells #[.int .i64 0, .int .i64 0, .int .i64 0, .int .i64 0, .int .i64 0, .int .i64 0, .int .i64 1, .int .i64 0, .int .i64 2] 3)).alloc (.cells (ecells 0 j ⟨#[]⟩ none 0 0) 36)
              have q6 := Blk.new' (wr.alloc (.cells #[.int .i64 0, .int .i64 0, .int .i64 0, .int .i64 0, .int .i64 0, .int .i64 0, .int .i64 1, .int .i64 0, .int .i64 2] 3)) 36 (ecells 0 j ⟨#[]⟩ none 0 0) (wr.heap.size + 1) (by simp)
              have own := own_ext HOW.out y1
              obtain ⟨v', V4, hrun, ho', hk', -⟩ := appR (f := Ec.cells) elemExprR (fun _ => rfl) (fun _ => rfl) ((wr.alloc (.cells #[.int .i64 0, .int .i64 0, .int .i64 0, .int .i64 0, .int .i64 0, .int .i64 0, .int .i64 1, .int .i64 0, .int .i64 2] 3)).alloc (.cells (ecells 0 j ⟨#[]⟩ none 0 0) 36)) (sb + 1) (.slice B j bc) j (numsL j) own (wr.heap.size + 1) 0 1 1 [⟨0, j, ⟨#[]⟩, none, 0, 0⟩] rfl (Row.of_blk q6) (by omega) (by have := HSJ.out.lt; have := y1.size; omega)
              have y4 : Kept (fun g => sb < g) wr V4 := (y1.mono (fun i _ q => q.elim)).trans (hk'.mono (fun i _ e => by have := (own.lt i e).1; omega))
              have hs4 := Blk.kept HSJ.out y4 (Nat.lt_irrefl _)
              rw [← numsL_succ j (by omega)] at ho'
              obtain ⟨g2, c2, rfl, hrow2, hg2, -⟩ := own_rows ho' (by omega) (by omega)
              have hsC := Blk.cell (Blk.ext HSJ.out y1)
              have hsL := (Blk.ext HSJ.out y1).lt
              have hsC1 := Blk.cell (Blk.ext HSJ.out ((Kept.refl (fun _ => False) wr).alloc (.cells #[.int .i64 0, .int .i64 0, .int .i64 0, .int .i64 0, .int .i64 0, .int .i64 0, .int .i64 1, .int .i64 0, .int .i64 2] 3)))
              have hsL1 := (Blk.ext HSJ.out ((Kept.refl (fun _ => False) wr).alloc (.cells #[.int .i64 0, .int .i64 0, .int .i64 0, .int .i64 0, .int .i64 0, .int .i64 0, .int .i64 1, .int .i64 0, .int .i64 2] 3))).lt
              go_upto_region 10 with (fail)
              go_step
              iterate 5 (refine wpList_step (fun K hK => ?_); go_simp; (try go_bits); refine hK _ _ ?_; clear hK K)
              refine wpList_app rfl (.tmp 55) (.tmp 58) 32 rfl rfl rfl rfl hrun ?_
              clear hrun hsC hsL hsC1 hsL1
              have hcK := Blk.cell hs4
              have hzK := Blk.frozen hs4
              have hlK := hs4.lt
              go_wp2_with fail
              clear hcK hzK hlK
              go_roundw
              case rel =>
                have hk9 : Kept (fun g => sb ≤ g) wr (V4.setCell ⟨sb, 2, none⟩ (.slice (some ⟨g2, 0, none⟩) (j + 1) c2)) := (y4.mono (fun i _ h => Nat.le_of_lt h)).setCell _ _ (fun _ => Nat.le_refl _)
                have hb9 : Blk (V4.setCell ⟨sb, 2, none⟩ (.slice (some ⟨g2, 0, none⟩) (j + 1) c2)) sb 34 (scells 8 ⟨#[]⟩ (some ⟨g2, 0, none⟩) (j + 1) c2 0 0 none 0 0 none 0 0) := by
                  have q := Blk.set_ hs4 2 (.slice (some ⟨g2, 0, none⟩) (j + 1) c2)
                  exact q
                have ho9 := own_kept ho' ((Kept.refl (· = sb) V4).setCell ⟨sb, 2, none⟩ (.slice (some ⟨g2, 0, none⟩) (j + 1) c2) (fun _ => rfl)) (fun g e => by
                  have e2 : g2 = g := Option.some.inj e
                  omega)
                exact ⟨j + 1, some ⟨g2, 0, none⟩, c2, hlt, by go_num, hb9, ho9, HXJ.out.trans' hk9 (fun i hi q => by have := HSB.out; omega)⟩
              case measure => simp only [intOf]; omega
            · obtain rfl : j = 2 := by omega
              have y1 : Ext wr (wr.alloc (.cells #[.int .i64 0, .int .i64 0, .int .i64 0, .int .i64 0, .int .i64 0, .int .i64 0, .int .i64 1, .int .i64 0, .int .i64 2] 3)) := (Kept.refl (fun _ => False) wr).alloc _
              have hsz := Blk.ext HSJ.out y1
              have hez := nums_at (own_ext HOW.out y1) (by omega)
              go_upto_region 12 with (fail)
              try simp only [show ((2 : Nat) : Int) = (2 : Int) from rfl]
              generalize (wr.alloc (.cells #[.int .i64 0, .int .i64 0, .int .i64 0, .int .i64 0, .int .i64 0, .int .i64 0, .int .i64 1, .int .i64 0, .int .i64 2] 3)) = X2 at y1 hsz hez ⊢
              have HXQ := Lib.hid (HXQ.out.trans (HXJ.out.trans y1))
              have HS := Lib.hid hsz
              have HE := Lib.hid hez
              have HPL := Lib.hid (fun i (hi : i < 5) => show check (So.part p i ⟨8, E0, numsF 2, 0, 0, .nil, .nil⟩) = if bad 8 i = true then some ⟨10, partName i⟩ else none from places HRO.out.2 HRO.out.1 HVP.out HZ0.out 8 (by omega) i hi)
              clear y1 hsz hez HSX HXX HXJ HOW HSJ HSB HX1 hj
              go_loopw [8] (fun t8 wr => ∃ (i : Nat), i ≤ 5 ∧ t8 = .int .i64 i ∧ Ext X2 wr) (fun t8 _ => 5 - (intOf t8).toNat)
              case atStart => exact ⟨0, by omega, rfl, Kept.refl _ _⟩
              case round =>
                obtain ⟨i, hi5, rfl, hx⟩ := hrel
                have HXI := Lib.hid hx
                clear hx
                by_cases hlt : i < 5
                · have hltI : (i : Int) < 5 := by omega
                  by_cases hio : i = 4
                  · have hib : ((i : Int) == 4) = true := by simp [hio]
                    have hin : ((i : Int) != 4) = false := by unfold bne; rw [hib]; rfl
                    have HFJ := Lib.hid (show check (So.part p i ⟨8, E0, numsF 2, 0, 0, .nil, .nil⟩) = none from by rw [HPL.out i hlt, hio]; rfl)
                    clear hio
                    have y2 := (Kept.refl (fun _ => False) wr).alloc (.cells #[.int .i64 0, .string ⟨#[]⟩] 38)
                    have hF := Blk.new wr 38 #[.int .i64 0, .string ⟨#[]⟩]
                    go_upto_region 17 with (fail)
                    generalize (wr.alloc (.cells #[.int .i64 0, .string ⟨#[]⟩] 38)) = X9 at y2 hF ⊢
                    generalize wr.heap.size = fb at hF ⊢
                    have HX9 := Lib.hid (HXI.out.trans y2)
                    have HXV := Lib.hid (HXQ.out.trans HX9.out)
                    have HS9 := Lib.hid (Blk.ext HS.out HX9.out)
                    have HF9 := Lib.hid hF
                    clear y2 hF
                    have HXR := Lib.hid (HX9.out)
                    refine wp_region_3 (fun w1 => Ext X9 w1) [(0, 1), (1, 2), (2, 1), (5, 1), (3, 0), (4, 0), (6, 2)] (by kernel_rfl) (by kernel_rfl) (by kernel_rfl) (by kernel_rfl) ?_; intro l' hl'; simp only [List.map_cons, List.map_nil, List.getD_cons_zero, List.getD_cons_succ] at hl'; subst hl'
                    have HY0 := Lib.hid (show Ext X9 X9.drew from (Kept.refl _ X9).drew)
                    (repeat (first | ((apply w3_pure); (· go_simp); (· (intro w1; go_simp; try with_reducible rfl)); (intro K hK; go_simp; refine hK _ _ ?_; clear hK K)) | ((apply w3_skip); (· go_simp); (intro K hK; go_simp; refine hK _ _ ?_; clear hK K)) | ((apply w3_take); (· exact HY0.out); (· go_simp); (· (intro w1 hS; have d0 := Blk.ext HB.out (HXV.out.trans hS); have d1 := Blk.gets d0; have d2 := Blk.has d0; have d3 := d0.lt; have d4 := Blk.ext HS9.out hS; have d5 := Blk.gets d4; have d6 := Blk.has d4; have d7 := d4.lt; have e4 := Blk.ext HF9.out hS; have e5 := Blk.gets e4; have e6 := Blk.has e4; have e7 := e4.lt;  go_simp; try with_reducible rfl)); (intro K hK; go_simp; refine hK _ _ ?_; clear hK K)) | ((apply w3_pass); (· exact HY0.out); (· go_simp); (intro K hK; go_simp; refine hK _ _ ?_; clear hK K))))
                    (refine w3_act (fun K hK => ?_); go_simp)
                    refine (part_any (⟨cn, cse, cst, ⟨some ⟨vb, vo, none⟩, vn, vc⟩, cs, ct, cpa, cpl, csi, cq, cpy⟩ : Pc) p i hlt 0 _ _ (Nat.le_refl _) ((HPA.out.ext (HXV.out.trans HY0.out) HNW.out).mono (Nat.le_trans HNW.out (HXV.out.trans HY0.out).size)) hcap hroom 8 E0 (numsF 2) 0 0 .nil .nil B bc none 0 none 0 (ok64 (by decide)) (ok64 (by decide)) (ok64 (by decide)) (name_ok _ (by decide)) ((HE.out.ext (HX9.out.trans HY0.out) (Nat.le_refl _)).mono (HX9.out.trans HY0.out).size) (SSl.nil _ _ _) (SSl.nil _ _ _)).mono ?_
                    rintro e w7 ⟨c2, rfl, hp2, -, -, hx7⟩
                    have HP2 := Lib.hid (hp2 _ _ (Kept.refl (fun _ => False) w7) (fun _ q => q.elim))
                    have HY1 := Lib.hid (HY0.out.trans hx7)
                    clear hp2 hx7
                    refine hK.out _ _ (fun _ => HY1.out) ?_
                    clear hK K
                    (repeat (first | ((apply w3_pure); (· go_simp); (· (intro w1; go_simp; try with_reducible rfl)); (intro K hK; go_simp; refine hK _ _ ?_; clear hK K)) | ((apply w3_skip); (· go_simp); (intro K hK; go_simp; refine hK _ _ ?_; clear hK K)) | ((apply w3_take); (· exact HY1.out); (· go_simp); (· (intro w1 hS; have d0 := Blk.ext HB.out (HXV.out.trans hS); have d1 := Blk.gets d0; have d2 := Blk.has d0; have d3 := d0.lt; have d4 := Blk.ext HS9.out hS; have d5 := Blk.gets d4; have d6 := Blk.has d4; have d7 := d4.lt; have e4 := Blk.ext HF9.out hS; have e5 := Blk.gets e4; have e6 := Blk.has e4; have e7 := e4.lt;  go_simp; try with_reducible rfl)); (intro K hK; go_simp; refine hK _ _ ?_; clear hK K)) | ((apply w3_pass); (· exact HY1.out); (· go_simp); (intro K hK; go_simp; refine hK _ _ ?_; clear hK K))))
                    (refine w3_act (fun K hK => ?_); go_simp)
                    refine (lcheck_any c2 _ _ w7 (Nat.le_refl _) HP2.out (HLW.out.ext (HXV.out.trans HY1.out))).mono ?_
                    rintro e w8 ⟨rfl, hx8⟩
                    rw [HFJ.out, show fltC none = #[.int .i64 0, .string ⟨#[]⟩] from rfl]
                    have HY2 := Lib.hid (HY1.out.trans hx8)
                    clear hx8
                    refine hK.out _ _ (fun _ => HY2.out) ?_
                    clear hK K
                    (repeat (first | ((apply w3_pure); (· go_simp); (· (intro w1; go_simp; try with_reducible rfl)); (intro K hK; go_simp; refine hK _ _ ?_; clear hK K)) | ((apply w3_skip); (· go_simp); (intro K hK; go_simp; refine hK _ _ ?_; clear hK K)) | (refine w3_end (by kernel_rfl) (fun K hK => ?_); go_simp; refine hK.out _ _ ?_; clear hK K))); refine w3_nil ?_
                    go_wp2_with fail
                    go_roundw
                    case rel => exact ⟨i + 1, by omega, by go_num, HX9.out.trans HY2.out⟩
                    case measure => simp only [intOf]; omega
                  · have hib : ((i : Int) == 4) = false := by simp; omega
                    have hin : ((i : Int) != 4) = true := by unfold bne; rw [hib]; rfl
                    have HFJ := Lib.hid (show check (So.part p i ⟨8, E0, numsF 2, 0, 0, .nil, .nil⟩) = some ⟨10, partName i⟩ from by
                      rw [HPL.out i hlt, if_pos (by rcases (by omega : i = 0 ∨ i = 1 ∨ i = 2 ∨ i = 3 ∨ i = 4) with rfl | rfl | rfl | rfl | rfl <;> first | rfl | exact absurd rfl hio)])
                    clear hio
                    have y2 := (Kept.refl (fun _ => False) wr).alloc (.cells #[.int .i64 0, .string ⟨#[]⟩] 38)
                    have hF := Blk.new wr 38 #[.int .i64 0, .string ⟨#[]⟩]
                    go_upto_region 16 with (fail)
                    generalize (wr.alloc (.cells #[.int .i64 0, .string ⟨#[]⟩] 38)) = X8 at y2 hF ⊢
                    obtain ⟨fb, hfb⟩ : ∃ fb, fb = wr.heap.size := ⟨_, rfl⟩
                    rw [← hfb] at hF ⊢
                    have HFB := Lib.hid hfb
                    clear hfb
                    go_wp2_with fail
                    refine (names_any _).mono ?_
                    rintro e2 w3 ⟨rfl, hx3, hbn⟩
                    have hlb := hbn.lt
                    obtain ⟨nb, hnb⟩ : ∃ nb, nb = X8.heap.size := ⟨_, rfl⟩
                    rw [← hnb] at hbn hlb ⊢
                    clear hnb
                    have hcn : w3.cell? ⟨nb, i, none⟩ = some (.string (partName i)) := by
                      rw [Blk.cell hbn i]
                      rcases (by omega : i = 0 ∨ i = 1 ∨ i = 2 ∨ i = 3 ∨ i = 4) with rfl | rfl | rfl | rfl | rfl <;> rfl
                    have hF3 := Blk.ext hF hx3
                    have hhF := Blk.has hF3
                    have hmF := hF3.melts
                    have hlF := hF3.lt
                    go_upto_region 17 with (fail)
                    clear hhF hmF hlF hcn hlb hbn
                    have hk9 : Kept (· = fb) w3 (putAt w3 fb 0 #[.int .i64 10, .string (partName i)]) := Kept.putAt (Kept.refl (· = fb) w3) fb 0 _ (fun _ => rfl)
                    have hf9 : Blk (putAt w3 fb 0 #[.int .i64 10, .string (partName i)]) fb 38 #[.int .i64 10, .string (partName i)] := Blk.put_ hF3 0 #[.int .i64 10, .string (partName i)]
                    generalize (putAt w3 fb 0 #[.int .i64 10, .string (partName i)]) = X9 at hk9 hf9 ⊢
                    have HX9 := Lib.hid (HXI.out.trans ((y2.trans hx3).trans' hk9 (fun i hi q => by have := HFB.out; omega)))
                    have HXV := Lib.hid (HXQ.out.trans HX9.out)
                    have HS9 := Lib.hid (Blk.ext HS.out HX9.out)
                    have HF9 := Lib.hid hf9
                    clear y2 hF hx3 hk9 hf9 hF3 HFB
                    have HXR := Lib.hid (HX9.out)
                    refine wp_region_3 (fun w1 => Ext X9 w1) [(0, 1), (1, 2), (2, 1), (5, 1), (3, 0), (4, 0), (6, 2)] (by kernel_rfl) (by kernel_rfl) (by kernel_rfl) (by kernel_rfl) ?_; intro l' hl'; simp only [List.map_cons, List.map_nil, List.getD_cons_zero, List.getD_cons_succ] at hl'; subst hl'
                    have HY0 := Lib.hid (show Ext X9 X9.drew from (Kept.refl _ X9).drew)
                    (repeat (first | ((apply w3_pure); (· go_simp); (· (intro w1; go_simp; try with_reducible rfl)); (intro K hK; go_simp; refine hK _ _ ?_; clear hK K)) | ((apply w3_skip); (· go_simp); (intro K hK; go_simp; refine hK _ _ ?_; clear hK K)) | ((apply w3_take); (· exact HY0.out); (· go_simp); (· (intro w1 hS; have d0 := Blk.ext HB.out (HXV.out.trans hS); have d1 := Blk.gets d0; have d2 := Blk.has d0; have d3 := d0.lt; have d4 := Blk.ext HS9.out hS; have d5 := Blk.gets d4; have d6 := Blk.has d4; have d7 := d4.lt; have e4 := Blk.ext HF9.out hS; have e5 := Blk.gets e4; have e6 := Blk.has e4; have e7 := e4.lt;  go_simp; try with_reducible rfl)); (intro K hK; go_simp; refine hK _ _ ?_; clear hK K)) | ((apply w3_pass); (· exact HY0.out); (· go_simp); (intro K hK; go_simp; refine hK _ _ ?_; clear hK K))))
                    (refine w3_act (fun K hK => ?_); go_simp)
                    refine (part_any (⟨cn, cse, cst, ⟨some ⟨vb, vo, none⟩, vn, vc⟩, cs, ct, cpa, cpl, csi, cq, cpy⟩ : Pc) p i hlt 0 _ _ (Nat.le_refl _) ((HPA.out.ext (HXV.out.trans HY0.out) HNW.out).mono (Nat.le_trans HNW.out (HXV.out.trans HY0.out).size)) hcap hroom 8 E0 (numsF 2) 0 0 .nil .nil B bc none 0 none 0 (ok64 (by decide)) (ok64 (by decide)) (ok64 (by decide)) (name_ok _ (by decide)) ((HE.out.ext (HX9.out.trans HY0.out) (Nat.le_refl _)).mono (HX9.out.trans HY0.out).size) (SSl.nil _ _ _) (SSl.nil _ _ _)).mono ?_
                    rintro e w7 ⟨c2, rfl, hp2, -, -, hx7⟩
                    have HP2 := Lib.hid (hp2 _ _ (Kept.refl (fun _ => False) w7) (fun _ q => q.elim))
                    have HY1 := Lib.hid (HY0.out.trans hx7)
                    clear hp2 hx7
                    refine hK.out _ _ (fun _ => HY1.out) ?_
                    clear hK K
                    (repeat (first | ((apply w3_pure); (· go_simp); (· (intro w1; go_simp; try with_reducible rfl)); (intro K hK; go_simp; refine hK _ _ ?_; clear hK K)) | ((apply w3_skip); (· go_simp); (intro K hK; go_simp; refine hK _ _ ?_; clear hK K)) | ((apply w3_take); (· exact HY1.out); (· go_simp); (· (intro w1 hS; have d0 := Blk.ext HB.out (HXV.out.trans hS); have d1 := Blk.gets d0; have d2 := Blk.has d0; have d3 := d0.lt; have d4 := Blk.ext HS9.out hS; have d5 := Blk.gets d4; have d6 := Blk.has d4; have d7 := d4.lt; have e4 := Blk.ext HF9.out hS; have e5 := Blk.gets e4; have e6 := Blk.has e4; have e7 := e4.lt;  go_simp; try with_reducible rfl)); (intro K hK; go_simp; refine hK _ _ ?_; clear hK K)) | ((apply w3_pass); (· exact HY1.out); (· go_simp); (intro K hK; go_simp; refine hK _ _ ?_; clear hK K))))
                    (refine w3_act (fun K hK => ?_); go_simp)
                    refine (lcheck_any c2 _ _ w7 (Nat.le_refl _) HP2.out (HLW.out.ext (HXV.out.trans HY1.out))).mono ?_
                    rintro e w8 ⟨rfl, hx8⟩
                    rw [HFJ.out, show fltC (some ⟨10, partName i⟩) = #[.int .i64 10, .string (partName i)] from rfl]
                    have HY2 := Lib.hid (HY1.out.trans hx8)
                    clear hx8
                    refine hK.out _ _ (fun _ => HY2.out) ?_
                    clear hK K
                    (repeat (first | ((apply w3_pure); (· go_simp); (· (intro w1; go_simp; try with_reducible rfl)); (intro K hK; go_simp; refine hK _ _ ?_; clear hK K)) | ((apply w3_skip); (· go_simp); (intro K hK; go_simp; refine hK _ _ ?_; clear hK K)) | (refine w3_end (by kernel_rfl) (fun K hK => ?_); go_simp; refine hK.out _ _ ?_; clear hK K))); refine w3_nil ?_
                    go_wp2_with fail
                    go_roundw
                    case rel => exact ⟨i + 1, by omega, by go_num, HX9.out.trans HY2.out⟩
                    case measure => simp only [intOf]; omega
                · obtain rfl : i = 5 := by omega
                  have HXQ := Lib.hid (HXQ.out.trans HXI.out)
                  go_wp2_with fail
                  refine (told_any _ (HLW.out.ext HXQ.out)).mono ?_
                  rintro e w9 ⟨rfl, hx9⟩
                  go_wp2_with fail
                  go_ret
                  exact ⟨rfl, HX0.out.trans (HXQ.out.trans hx9)⟩
      · have hzb : (v.size == 0) = false := by simp [hz]
        have hzn : (v.size != 0) = true := by unfold bne; rw [hzb]; rfl
        clear hz
        go_wp2_with fail
        refine (told_any _ (HLW.out.ext HXQ.out)).mono ?_
        rintro e w9 ⟨rfl, hx9⟩
        go_wp2_with fail
        go_ret
        exact ⟨rfl, HX0.out.trans (HXQ.out.trans hx9)⟩
end Go.Proofs.YtfamkemdgbnegaaDoor

/- SortsPlaces, of all that may come in. -/
namespace Go.Proofs.YtfamkemdgbnegaaDoor
open Go.RowKit Go.Deep Go.ChangeShapes Go.WideShapes So
namespace sortsPlaces
set_option maxRecDepth 100000 in
theorem walk {H : Type} {enc : TypeId × Value → H} (W : World) (base : Nat) (v0 v1 : Value) (d0 d1 : DataW H) (p0 p1 : List MemPlace)
    (o0 : Value.okWide Tryd.prog W .any base 26 v0) (o1 : Value.okWide Tryd.prog W .any base 3 v1)
    (h0 : DataW.Trod enc Tryd.prog W 0 (fun _ => true) true 26 v0 d0 p0) (h1 : DataW.Trod enc Tryd.prog W 0 (fun _ => true) true 3 v1 d1 p1) (hL : laidMetH Tryd.prog Rows.sortsPlacesRow.laid W)
    (z0 : light Tryd.prog 26 d0) (_z1 : light Tryd.prog 3 d1) (hS : W.ShapedOpen Tryd.prog) :
    Calls Tryd.prog 3 #[v0, v1] W fun e w' => e = .returned (.bool true) ∧ Ext W w' := by
  obtain ⟨k, rfl, rfl, rfl, _⟩ := open_int Tryd.underlying3 o1 h1
  obtain ⟨c, q, rfl, hp, hc, hr⟩ := prog_in2 o0 h0 z0
  exact lplaces_any c q k W.heap.size W (Nat.le_refl _) hp (laid_at hL (five_blocks hS)) hc (hr.le (by omega))
end sortsPlaces
end Go.Proofs.YtfamkemdgbnegaaDoor
