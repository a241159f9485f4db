/- Several texts joined: Xf, Ye, Yf, Yg, Ww, Yh. -/
import Derived.OpenShut
import Derived.ChangeArms
import Derived.ChangeSame
import Derived.Lib.LaidTab
import Derived.Test.YtahljceanodhkaaGreatDoorAck
/- Package witness: After and Check of a step that was made, whole. -/
namespace Go.Proofs.YtahljceanodhkaaGreatDoor
open Go.RowKit
theorem dgN_true {H B : Dg} (h : dgB H B = false) : (!H.x0 == B.x0 || (!H.x1 == B.x1 || (!H.x2 == B.x2 || (!H.x3 == B.x3 || (!H.x4 == B.x4 || (!H.x5 == B.x5 || (!H.x6 == B.x6 || !H.x7 == B.x7))))))) = true := by
  unfold dgB at h
  rw [← Bool.not_eq_true'] at h
  simpa [Bool.not_and] using h
set_option maxRecDepth 100000 in
set_option maxHeartbeats 2000000 in
theorem after_other (s : Ws) (p B : Dg) (size : Int) (w : World) (hm : s.mem.ok) (hs1 : 1 ≤ size) (hs2 : size ≤ 2048) (hr : rightS s.pc s.halt s.words = true) (hne : dgB (hHead s.pc s.halt s.words s.mem) B = false) :
    Calls Tryz.prog 37 #[.agg #[.int .u8 p.x0, .int .u8 p.x1, .int .u8 p.x2, .int .u8 p.x3, .int .u8 p.x4, .int .u8 p.x5, .int .u8 p.x6, .int .u8 p.x7], .int .i64 size, .agg B.cells, .agg s.cells] w fun e w' => e = .returned (.tuple #[.agg Dg.zero.cells, .int .i64 23]) ∧ Ext w w' := by
  obtain ⟨h1, h2, h3, h4, h5, h6⟩ : 1 ≤ s.words ∧ s.words ≤ 256 ∧ 0 ≤ s.pc ∧ s.pc ≤ 2048 ∧ 0 ≤ s.halt ∧ s.halt ≤ 2 := by
    simp [rightS] at hr
    omega
  have HM := Lib.hid hm
  have HR := Lib.hid hr
  clear hm hr
  obtain ⟨H, hH⟩ : ∃ H, H = hHead s.pc s.halt s.words s.mem := ⟨_, rfl⟩
  rw [← hH] at hne
  have HH := Lib.hid hH
  have HNE := Lib.hid hne
  clear hH hne
  have hx0 : Ext w _ := ((((Kept.refl _ w).alloc (.cells #[.int .u8 p.x0, .int .u8 p.x1, .int .u8 p.x2, .int .u8 p.x3, .int .u8 p.x4, .int .u8 p.x5, .int .u8 p.x6, .int .u8 p.x7] 30)).alloc (.cells B.cells 30)).alloc (.cells s.cells 45)).alloc (.cells Dg.zero.cells 30)
  have hB0 : Blk _ (w.heap.size + 1) 30 B.cells := Blk.alloc (Blk.alloc (Blk.new' (w.alloc (.cells #[.int .u8 p.x0, .int .u8 p.x1, .int .u8 p.x2, .int .u8 p.x3, .int .u8 p.x4, .int .u8 p.x5, .int .u8 p.x6, .int .u8 p.x7] 30)) _ B.cells _ (by simp)) (.cells s.cells 45)) (.cells Dg.zero.cells 30)
  have hS0 : Blk _ (w.heap.size + 1 + 1) 45 s.cells := Blk.alloc (Blk.new' ((w.alloc (.cells #[.int .u8 p.x0, .int .u8 p.x1, .int .u8 p.x2, .int .u8 p.x3, .int .u8 p.x4, .int .u8 p.x5, .int .u8 p.x6, .int .u8 p.x7] 30)).alloc (.cells B.cells 30)) _ s.cells _ (by simp)) (.cells Dg.zero.cells 30)
  have hR0 : Blk _ (w.heap.size + 1 + 1 + 1) 30 Dg.zero.cells := Blk.new' (((w.alloc (.cells #[.int .u8 p.x0, .int .u8 p.x1, .int .u8 p.x2, .int .u8 p.x3, .int .u8 p.x4, .int .u8 p.x5, .int .u8 p.x6, .int .u8 p.x7] 30)).alloc (.cells B.cells 30)).alloc (.cells s.cells 45)) _ _ _ (by simp)
  go_enter Tryz.func37, Tryz.ntmps37
  go_wp2_with fail
  refine (sright_any s _).mono ?_
  rintro e w1 ⟨rfl, hx1⟩
  rw [HR.out]
  have y1 := hx0.trans hx1
  have hB1 := Blk.ext hB0 hx1
  have hS1 := Blk.ext hS0 hx1
  have hR1 := Blk.ext hR0 hx1
  clear hx0 hx1 hB0 hS0 hR0
  have hlS := Blk.lt hS1
  have hlR := Blk.lt hR1
  go_wp2_with fail
  refine wp_region_3 (fun w2 => Ext w1 w2) [(0, 2), (1, 1), (2, 2), (3, 1), (4, 2), (5, 1), (6, 2), (7, 1), (9, 1), (8, 0), (10, 2)] (by kernel_rfl) (by kernel_rfl) (by kernel_rfl) (by kernel_rfl) ?_; intro l' hl'; simp only [List.map_cons, List.map_nil, List.getD_cons_zero, List.getD_cons_succ] at hl'; subst hl'
  (repeat (first | ((apply w3_pure); (· go_simp); (· (intro w1; go_simp; try with_reducible rfl)); (intro K hK; go_simp; refine hK _ _ ?_; clear hK K)) | ((apply w3_skip); (· go_simp); (intro K hK; go_simp; refine hK _ _ ?_; clear hK K)) | ((apply w3_take); (· exact (Kept.drew (Kept.refl _ _))); (· go_simp); (· (intro w1 hS; have d1 := Blk.ext hS1 hS; have d2 := Blk.ext hB1 hS; have d3 := Blk.cell d1; have d4 := Blk.has d1; have d5 := Blk.gets d1; have d6 := Blk.has d2; have d7 := Blk.gets d2;  go_simp; try with_reducible rfl)); (intro K hK; go_simp; refine hK _ _ ?_; clear hK K)) | ((apply w3_pass); (· exact (Kept.drew (Kept.refl _ _))); (· go_simp); (intro K hK; go_simp; refine hK _ _ ?_; clear hK K))))
  (refine w3_act (fun K hK => ?_); go_simp)
  go_wp2_with fail
  refine (head_any s.pc s.halt s.words s.mem HM.out (by omega) (by omega) (by omega) _).mono ?_
  rintro e w2 ⟨e2, hx2⟩
  replace e2 : e = .returned (.agg H.cells) := by rw [e2, HH.out]
  subst e2
  have y2 : Ext w1 w2 := ((Kept.refl _ w1).drew).trans hx2
  refine hK.out _ _ (fun _ => y2) ?_
  clear hK K
  (repeat (first | ((apply w3_pure); (· go_simp); (· (intro w1; go_simp; try with_reducible rfl)); (intro K hK; go_simp; refine hK _ _ ?_; clear hK K)) | ((apply w3_skip); (· go_simp); (intro K hK; go_simp; refine hK _ _ ?_; clear hK K)) | (refine w3_end (by kernel_rfl) (fun K hK => ?_); go_simp; refine hK.out _ _ ?_; clear hK K))); refine w3_nil ?_
  have hR2 := Blk.ext hR1 y2
  have hh2 := Blk.has hR2
  have hm2 := Blk.melts hR2
  rw [dgN_true HNE.out]
  go_wp2_with fail
  refine ret_ci Tryz.results37 rfl rfl aggDig (by exact sizeDig) (Blk.put_ hR2 _ _) ⟨rfl, ?_⟩
  exact Kept.putAt (y1.trans y2) _ _ _ (fun h => by omega)
set_option maxRecDepth 100000 in
set_option maxHeartbeats 4000000 in
theorem after_goes (s : Ws) (l : List Ins) (n : Nat) (hn : n = l.length) (h2 : n ≤ 2048) (x : Nat) (hxn : x < n) (m : List Int) (k : Nat) (hk : k = m.length) (hg : rightS x 0 k = true) (hok : ∀ i ∈ l, i.ok) (hmok : ∀ z ∈ m, i32ok z) (w : World) (hops : OpsAt w) (hv : StepV w s (makeL l x 0 m)) :
    Calls Tryz.prog 37 #[.agg (codeR l).cells, .int .i64 n, .agg (hHead x 0 k (memR m)).cells, .agg s.cells] w fun e w' => e = .returned (.tuple #[.agg (nextR l x 0 m).cells, .int .i64 0]) ∧ Ext w w' := by
  obtain ⟨k1, k2, _⟩ := rightS_inv hg
  have hok1 : Okay (x : Int) 0 m := ⟨by rw [← hk]; exact hg, hmok⟩
  have hnx := step_okay (c := l) (by rw [← hn]; exact h2) hok1
  obtain ⟨p, hh, m1, hst⟩ : ∃ p hh m1, stepI l x m = (p, hh, m1) := ⟨_, _, _, rfl⟩
  rw [hst] at hnx
  obtain ⟨hok2, hlen2⟩ := hnx
  obtain ⟨_, _, q3, q4, q5, q6⟩ := rightS_inv hok2.right
  simp only at q3 q4 q5 q6 hlen2
  obtain ⟨R, hR⟩ : ∃ R, R = nextR l x 0 m := ⟨_, rfl⟩
  have hR' : R = hHead p hh k (memR m1) := by rw [hR, nextR, runI, if_pos rfl, hst, hk]
  rw [← hR]
  clear hR hok1 hok2
  have hxl : x < l.length := by omega
  obtain ⟨i, hli⟩ : ∃ i, l.getD x ⟨0, 0, 0, 0⟩ = i := ⟨_, rfl⟩
  have hlx : l[x] = i := by rw [← hli]; simp [hxl]
  have hiok : i.ok := by rw [← hlx]; exact hok _ (List.getElem_mem hxl)
  have hL : makeL l x 0 m = ⟨x, 0, k, memR m, i, pathT (l.map ileaf) (hgt l.length) x, (mreads l x 0 m).1.map (showW m), if 0 ≤ (mreads l x 0 m).2 then [showW m (mreads l x 0 m).2] else []⟩ := by
    unfold makeL
    rw [if_neg (by omega), Int.toNat_natCast, hli, hk]
  have hvv := hv
  rw [hL] at hv
  obtain ⟨e1, e2, e3, e4, e5, vp, vr, vw⟩ := hv
  obtain ⟨spc, shalt, swords, smem, sins, spa, spn, spk, sra, srn, srk, swa, swn, swk⟩ := s
  simp only at e1 e2 e3 e4 e5 vp vr vw
  replace e5 := e5.symm
  obtain ⟨M, hM⟩ : ∃ M, M = memR m := ⟨_, rfl⟩
  rw [← hM] at e4 ⊢
  replace e4 := e4.symm
  subst e1 e2 e3 e4 e5
  obtain ⟨pb, po, hp⟩ := vp
  have hpn : spn = hgt n := by rw [hp.len, pathT_len, hn]
  have hck : checkT (codeR l) (x : Int) (ileaf i) (pathT (l.map ileaf) (hgt l.length) x) = true := by
    have := check_path (l := l.map ileaf) (i := (x : Int)) (by omega) (by simpa using hxl) (by simp; omega)
    rw [List.length_map, Int.toNat_natCast] at this
    rw [show (l.map ileaf).getD x Dg.zero = ileaf i by simp [hxl, hlx]] at this
    exact this
  obtain ⟨C, hC⟩ : ∃ C, C = codeR l := ⟨_, rfl⟩
  rw [← hC] at hck ⊢
  obtain ⟨Pt, hPt⟩ : ∃ Pt, Pt = pathT (l.map ileaf) (hgt l.length) x := ⟨_, rfl⟩
  rw [← hPt] at hck hp
  have HIL := Lib.hid hiok
  have HCK := Lib.hid hck
  have HPA := Lib.hid hp
  have HPN := Lib.hid hpn
  have HM := Lib.hid hM
  have HG := Lib.hid hg
  have HVV := Lib.hid hvv
  have HVR := Lib.hid vr
  have HVW := Lib.hid vw
  have HK := Lib.hid hk
  have HN := Lib.hid hn
  have HLX := Lib.hid hlx
  have HLI := Lib.hid hli
  have HMOK := Lib.hid hmok
  have HOPS := Lib.hid hops
  have HST := Lib.hid hst
  have HR := Lib.hid hR'
  have hMok : M.ok := by rw [hM]; exact hWord_ok _ _
  have HMO := Lib.hid hMok
  clear hiok hck hp hpn hM hg hvv vr vw hk hn hlx hli hmok hops hst hR' hMok hL hC hPt hlen2 hok
  obtain ⟨s, hs⟩ : ∃ s : Ws, s = ⟨x, 0, k, M, i, spa, spn, spk, sra, srn, srk, swa, swn, swk⟩ := ⟨_, rfl⟩
  obtain ⟨B, hB⟩ : ∃ B, B = hHead x 0 k M := ⟨_, rfl⟩
  rw [← hB]
  have HB := Lib.hid hB
  clear hB hs
  have hx0 : Ext w _ := ((((Kept.refl _ w).alloc (.cells C.cells 30)).alloc (.cells B.cells 30)).alloc (.cells (Ws.cells ⟨x, 0, k, M, i, spa, spn, spk, sra, srn, srk, swa, swn, swk⟩) 45)).alloc (.cells Dg.zero.cells 30)
  have hC0 : Blk _ w.heap.size 30 C.cells := Blk.alloc (Blk.alloc (Blk.alloc (Blk.new w _ C.cells) (.cells B.cells 30)) (.cells (Ws.cells ⟨x, 0, k, M, i, spa, spn, spk, sra, srn, srk, swa, swn, swk⟩) 45)) (.cells Dg.zero.cells 30)
  have hB0 : Blk _ (w.heap.size + 1) 30 B.cells := Blk.alloc (Blk.alloc (Blk.new' (w.alloc (.cells C.cells 30)) _ B.cells _ (by simp)) (.cells (Ws.cells ⟨x, 0, k, M, i, spa, spn, spk, sra, srn, srk, swa, swn, swk⟩) 45)) (.cells Dg.zero.cells 30)
  have hS0 : Blk _ (w.heap.size + 1 + 1) 45 (Ws.cells ⟨x, 0, k, M, i, spa, spn, spk, sra, srn, srk, swa, swn, swk⟩) := Blk.alloc (Blk.new' ((w.alloc (.cells C.cells 30)).alloc (.cells B.cells 30)) _ (Ws.cells ⟨x, 0, k, M, i, spa, spn, spk, sra, srn, srk, swa, swn, swk⟩) _ (by simp)) (.cells Dg.zero.cells 30)
  have hR0 : Blk _ (w.heap.size + 1 + 1 + 1) 30 Dg.zero.cells := Blk.new' (((w.alloc (.cells C.cells 30)).alloc (.cells B.cells 30)).alloc (.cells (Ws.cells ⟨x, 0, k, M, i, spa, spn, spk, sra, srn, srk, swa, swn, swk⟩) 45)) _ _ _ (by simp)
  go_enter Tryz.func37, Tryz.ntmps37
  go_wp2_with fail
  refine (sright_any ⟨x, 0, k, M, i, spa, spn, spk, sra, srn, srk, swa, swn, swk⟩ _).mono ?_
  rintro e w1 ⟨rfl, hx1⟩
  simp only
  rw [HG.out]
  have y1 := hx0.trans hx1
  have hC1 := Blk.ext hC0 hx1
  have hB1 := Blk.ext hB0 hx1
  have hS1 := Blk.ext hS0 hx1
  have hR1 := Blk.ext hR0 hx1
  clear hx0 hx1 hB0 hS0 hR0 hC0
  have hlS := Blk.lt hS1
  have hlR := Blk.lt hR1
  go_wp2_with fail
  refine wp_region_3 (fun w2 => Ext w1 w2) [(0, 2), (1, 1), (2, 2), (3, 1), (4, 2), (5, 1), (6, 2), (7, 1), (9, 1), (8, 0), (10, 2)] (by kernel_rfl) (by kernel_rfl) (by kernel_rfl) (by kernel_rfl) ?_; intro l' hl'; simp only [List.map_cons, List.map_nil, List.getD_cons_zero, List.getD_cons_succ] at hl'; subst hl'
  (repeat (first | ((apply w3_pure); (· go_simp); (· (intro w1; go_simp; try with_reducible rfl)); (intro K hK; go_simp; refine hK _ _ ?_; clear hK K)) | ((apply w3_skip); (· go_simp); (intro K hK; go_simp; refine hK _ _ ?_; clear hK K)) | ((apply w3_take); (· exact (Kept.drew (Kept.refl _ _))); (· go_simp); (· (intro w1 hS; have d1 := Blk.ext hS1 hS; have d2 := Blk.ext hB1 hS; have d3 := Blk.cell d1; have d4 := Blk.has d1; have d5 := Blk.gets d1; have d6 := Blk.has d2; have d7 := Blk.gets d2;  go_simp; try with_reducible rfl)); (intro K hK; go_simp; refine hK _ _ ?_; clear hK K)) | ((apply w3_pass); (· exact (Kept.drew (Kept.refl _ _))); (· go_simp); (intro K hK; go_simp; refine hK _ _ ?_; clear hK K))))
  (refine w3_act (fun K hK => ?_); go_simp)
  go_wp2_with fail
  refine (head_any x 0 k M HMO.out (by omega) (by omega) (by omega) _).mono ?_
  rintro e w2 ⟨e2, hx2⟩
  replace e2 : e = .returned (.agg B.cells) := by rw [e2, HB.out]
  subst e2
  have y2 : Ext w1 w2 := ((Kept.refl _ w1).drew).trans hx2
  refine hK.out _ _ (fun _ => y2) ?_
  clear hK K
  (repeat (first | ((apply w3_pure); (· go_simp); (· (intro w1; go_simp; try with_reducible rfl)); (intro K hK; go_simp; refine hK _ _ ?_; clear hK K)) | ((apply w3_skip); (· go_simp); (intro K hK; go_simp; refine hK _ _ ?_; clear hK K)) | (refine w3_end (by kernel_rfl) (fun K hK => ?_); go_simp; refine hK.out _ _ ?_; clear hK K))); refine w3_nil ?_
  have hC2 := Blk.ext hC1 y2
  have hS2 := Blk.ext hS1 y2
  have hR2 := Blk.ext hR1 y2
  have y12 := y1.trans y2
  have hc2 := Blk.cell hS2
  have hxnI : (x : Int) < n := by omega
  clear hB1 hC1 hS1 hR1 y1 y2 hx2
  go_upto_region 9 with (fail)
  clear hc2
  obtain ⟨Hn, hHn⟩ : ∃ Hn, Hn = hgt n := ⟨_, rfl⟩
  have hpn2 : spn = Hn := HPN.out.trans hHn.symm
  have HHN := Lib.hid hHn
  clear hHn
  subst hpn2
  obtain ⟨sb, hsb⟩ : ∃ sb, sb = w.heap.size := ⟨_, rfl⟩
  rw [← hsb] at hC2 hS2 hR2 hlS hlR ⊢
  have HSB := Lib.hid hsb
  clear hsb
  have hlC := hC2.lt
  refine wp_region_3 (fun w3 => Ext w2 w3) [(0, 2), (1, 1), (2, 2), (3, 2), (4, 0), (5, 2), (6, 2), (7, 1), (8, 2), (9, 1), (10, 2), (11, 1), (13, 2), (14, 1), (12, 0), (15, 0), (16, 2), (17, 2)] (by kernel_rfl) (by kernel_rfl) (by kernel_rfl) (by kernel_rfl) ?_; intro l' hl'; simp only [List.map_cons, List.map_nil, List.getD_cons_zero, List.getD_cons_succ] at hl'; subst hl'
  (repeat (first | ((apply w3_pure); (· go_simp); (· (intro w1; go_simp; try with_reducible rfl)); (intro K hK; go_simp; refine hK _ _ ?_; clear hK K)) | ((apply w3_skip); (· go_simp); (intro K hK; go_simp; refine hK _ _ ?_; clear hK K)) | ((apply w3_take); (· exact (Kept.drew (Kept.refl _ _))); (· go_simp); (· (intro w1 hS; have d1 := Blk.cell (Blk.ext hS2 hS); have d2 := (Blk.ext hS2 hS).lt; have d3 := Blk.has (Blk.ext hS2 hS); have d4 := Blk.gets (Blk.ext hS2 hS); have d5 := Blk.has (Blk.ext hC2 hS); have d6 := Blk.gets (Blk.ext hC2 hS); have d7 := (Blk.ext hC2 hS).lt;  go_simp; try with_reducible rfl)); (intro K hK; go_simp; refine hK _ _ ?_; clear hK K)) | ((apply w3_pass); (· exact (Kept.drew (Kept.refl _ _))); (· go_simp); (intro K hK; go_simp; refine hK _ _ ?_; clear hK K))))
  have yW : Ext w2 w2.drew := (Kept.refl _ w2).drew
  (refine w3_act (fun K hK => ?_); go_simp)
  go_wp2_with fail
  refine (height_ok n (by omega) (by omega) _).mono ?_
  rintro e w3 ⟨rfl, rfl⟩
  rw [← HHN.out]
  refine hK.out _ _ (fun _ => yW) ?_
  clear hK K
  (repeat (first | ((apply w3_pure); (· go_simp); (· (intro w1; go_simp; try with_reducible rfl)); (intro K hK; go_simp; refine hK _ _ ?_; clear hK K)) | ((apply w3_skip); (· go_simp); (intro K hK; go_simp; refine hK _ _ ?_; clear hK K)) | ((apply w3_take); (· exact yW); (· go_simp); (· (intro w1 hS; have d1 := Blk.cell (Blk.ext hS2 hS); have d2 := (Blk.ext hS2 hS).lt; have d3 := Blk.has (Blk.ext hS2 hS); have d4 := Blk.gets (Blk.ext hS2 hS); have d5 := Blk.has (Blk.ext hC2 hS); have d6 := Blk.gets (Blk.ext hC2 hS); have d7 := (Blk.ext hC2 hS).lt;  go_simp; try with_reducible rfl)); (intro K hK; go_simp; refine hK _ _ ?_; clear hK K)) | ((apply w3_pass); (· exact yW); (· go_simp); (intro K hK; go_simp; refine hK _ _ ?_; clear hK K))))
  (refine w3_act (fun K hK => ?_); go_simp)
  go_wp2_with fail
  refine (ileaf_any i HIL.out _).mono ?_
  rintro e w3 ⟨rfl, hx3⟩
  have y3 : Ext w2 w3 := yW.trans hx3
  refine hK.out _ _ (fun _ => y3) ?_
  clear hK K
  (repeat (first | ((apply w3_pure); (· go_simp); (· (intro w1; go_simp; try with_reducible rfl)); (intro K hK; go_simp; refine hK _ _ ?_; clear hK K)) | ((apply w3_skip); (· go_simp); (intro K hK; go_simp; refine hK _ _ ?_; clear hK K))))
  (refine w3_act (fun K hK => ?_); go_simp)
  go_wp2_with fail
  refine (tcheck_any C x (ileaf i) (ileaf_ok _) spa pb po spn spk Pt _ (HPA.out.ext (y12.trans y3))).mono ?_
  rintro e w4 ⟨rfl, hx4⟩
  rw [HCK.out]
  have y4 : Ext w2 w4 := y3.trans hx4
  refine hK.out _ _ (fun _ => y4) ?_
  clear hK K
  (repeat (first | ((apply w3_pure); (· go_simp); (· (intro w1; go_simp; try with_reducible rfl)); (intro K hK; go_simp; refine hK _ _ ?_; clear hK K)) | ((apply w3_skip); (· go_simp); (intro K hK; go_simp; refine hK _ _ ?_; clear hK K)) | (refine w3_end (by kernel_rfl) (fun K hK => ?_); go_simp; refine hK.out _ _ ?_; clear hK K))); refine w3_nil ?_
  have hS4 := Blk.ext hS2 y4
  have hR4 := Blk.ext hR2 y4
  have y14 := y12.trans y4
  have i1 := Blk.cell hS4
  have i2 := Blk.has hS4
  have i3 := Blk.gets hS4
  clear hC2 hS2 hR2 y12 hx3 y3 hx4 yW
  go_wp2_with fail
  have hir := iright_any i n k w4 (HOPS.out.ext y14)
  cases hri : rightI i n k
  · rw [hri] at hir
    have HRI := Lib.hid hri
    clear hri
    refine hir.mono ?_
    rintro e w5 ⟨rfl, hx5⟩
    clear hir
    have hS5 := Blk.ext hS4 hx5
    have hR5 := Blk.ext hR4 hx5
    have hnone : nextI l x m.length = none := by
      unfold nextI
      rw [Int.toNat_natCast, List.getElem?_eq_getElem hxl, HLX.out, ← HN.out, ← HK.out]
      show (if rightI i n k = true then some i else none) = _
      rw [if_neg (by rw [HRI.out]; simp)]
    have hmr : mreads l x 0 m = ([], -1) := by simp only [mreads, hnone]; rfl
    have hstp : (p, hh, m1) = ((x : Int), (2 : Int), m) := by
      rw [← HST.out]
      unfold stepI
      rw [hnone]
    have hvr := HVR.out.len
    have hvw := HVW.out.len
    rw [hmr] at hvr hvw
    simp at hvr hvw
    have hRR : R = Ws.same ⟨x, 0, k, M, i, spa, spn, spk, sra, srn, srk, swa, swn, swk⟩ := by
      rw [HR.out]
      injection hstp with e1 e2
      injection e2 with e2 e3
      rw [e1, e2, e3, ← HM.out]
      rfl
    have hbare : Ws.bare ⟨x, 0, k, M, i, spa, spn, spk, sra, srn, srk, swa, swn, swk⟩ = true := by
      simp [Ws.bare, hvr, hvw]
    have HRR := Lib.hid hRR
    have HBA := Lib.hid hbare
    clear hnone hmr hstp hvr hvw hRR hbare i1 i2 i3
    have i2 := Blk.has hS5
    have i3 := Blk.gets hS5
    go_wp2_with fail
    refine (sbare_any ⟨x, 0, k, M, i, spa, spn, spk, sra, srn, srk, swa, swn, swk⟩ _).mono ?_
    rintro e w6 ⟨rfl, hx6⟩
    rw [HBA.out]
    have hS6 := Blk.ext hS5 hx6
    have hR6 := Blk.ext hR5 hx6
    clear i2 i3
    have i2 := Blk.has hS6
    have i3 := Blk.gets hS6
    go_wp2_with fail
    have hsm := ssame_any ⟨x, 0, k, M, i, spa, spn, spk, sra, srn, srk, swa, swn, swk⟩ HMO.out HG.out w6
    rw [← HRR.out] at hsm
    refine hsm.mono ?_
    rintro e w7 ⟨rfl, hx7⟩
    have hR7 := Blk.ext hR6 hx7
    have i4 := Blk.has hR7
    have i5 := Blk.melts hR7
    clear i2 i3 hsm
    go_wp2_with fail
    refine ret_ci Tryz.results37 rfl rfl aggDig (by exact sizeDig) (Blk.put_ hR7 _ _) ⟨rfl, ?_⟩
    exact Kept.putAt (((y14.trans hx5).trans hx6).trans hx7) _ _ _ (fun h => by have := HSB.out; omega)
  · rw [hri] at hir
    have HRI := Lib.hid hri
    clear hri
    refine hir.mono ?_
    rintro e w5 ⟨rfl, hx5⟩
    clear hir
    have hS5 := Blk.ext hS4 hx5
    have hR5 := Blk.ext hR4 hx5
    have hsome : nextI l x m.length = some i := by
      unfold nextI
      rw [Int.toNat_natCast, List.getElem?_eq_getElem hxl, HLX.out, ← HN.out, ← HK.out]
      show (if rightI i n k = true then some i else none) = _
      rw [if_pos HRI.out]
    have y15 := y14.trans hx5
    have hdn := done_ok ⟨x, 0, k, M, i, spa, spn, spk, sra, srn, srk, swa, swn, swk⟩ l n HN.out h2 x hxn m k HK.out HG.out i hsome HLI.out HMOK.out w5 (HOPS.out.ext y15) (HVV.out.ext y15) p hh m1 HST.out (by omega) (by omega)
    rw [← HR.out] at hdn
    have HDN := Lib.hid hdn
    clear hsome hdn i1 i2 i3
    have i2 := Blk.has hS5
    have i3 := Blk.gets hS5
    go_wp2_with fail
    refine HDN.out.mono ?_
    rintro e w6 ⟨rfl, hx6⟩
    have hR6 := Blk.ext hR5 hx6
    have i4 := Blk.has hR6
    have i5 := Blk.melts hR6
    clear i2 i3
    go_wp2_with fail
    refine ret_ci Tryz.results37 rfl rfl aggDig (by exact sizeDig) (Blk.put_ hR6 _ _) ⟨rfl, ?_⟩
    exact Kept.putAt (y15.trans hx6) _ _ _ (fun h => by have := HSB.out; omega)
/-- what After says of a made step: the digest behind it, or that it does not fit -/
def aftR (l : List Ins) (pc halt : Int) (m : List Int) (B : Dg) : Dg × Int := if dgB (stateR pc halt m) B = true then (nextR l pc halt m, 0) else (Dg.zero, 23)
theorem after_made (s : Ws) (l : List Ins) (n : Nat) (hn : n = l.length) (h1 : 1 ≤ n) (h2 : n ≤ 2048) (pc halt : Int) (m : List Int) (B : Dg) (hO : Okay pc halt m) (hok : ∀ i ∈ l, i.ok) (w : World) (hops : OpsAt w) (hv : StepV w s (makeL l pc halt m)) :
    Calls Tryz.prog 37 #[.agg (codeR l).cells, .int .i64 n, .agg B.cells, .agg s.cells] w fun e w' => e = .returned (.tuple #[.agg (aftR l pc halt m B).1.cells, .int .i64 (aftR l pc halt m B).2]) ∧ Ext w w' := by
  obtain ⟨_, _, h3, h4, h5, h6⟩ := rightS_inv hO.right
  have hvv := hv
  obtain ⟨e1, e2, e3, e4, e5, vp, vr, vw⟩ := hv
  have hq : (makeL l pc halt m).pc = pc ∧ (makeL l pc halt m).halt = halt ∧ (makeL l pc halt m).words = m.length ∧ (makeL l pc halt m).mem = memR m := by
    unfold makeL
    split <;> exact ⟨rfl, rfl, rfl, rfl⟩
  rw [hq.1] at e1
  rw [hq.2.1] at e2
  rw [hq.2.2.1] at e3
  rw [hq.2.2.2] at e4
  have hright : rightS s.pc s.halt s.words = true := by rw [e1, e2, e3]; exact hO.right
  have hm : s.mem.ok := by rw [e4]; exact hWord_ok _ _
  have hhead : hHead s.pc s.halt s.words s.mem = stateR pc halt m := by rw [e1, e2, e3, e4]; rfl
  unfold aftR
  cases hb : dgB (stateR pc halt m) B
  · rw [if_neg (by simp)]
    exact after_other s (codeR l) B n w hm (by omega) (by omega) hright (by rw [hhead]; exact hb)
  · rw [if_pos rfl]
    obtain rfl := (dgB_iff _ _).1 hb
    by_cases hst : ¬ halt = 0 ∨ (l.length : Int) ≤ pc
    · have hL : makeL l pc halt m = ⟨pc, halt, m.length, memR m, ⟨0, 0, 0, 0⟩, [], [], []⟩ := by unfold makeL; rw [if_pos hst]
      rw [hL] at vp vr vw e5
      have hp : s.pn = 0 := by obtain ⟨_, _, hp⟩ := vp; exact hp.len
      have hr0 : s.rn = 0 := vr.len
      have hw0 : s.wn = 0 := vw.len
      have hsame : s.same = nextR l pc halt m := by
        unfold Ws.same nextR runI
        rw [e1, e2, e3, e4]
        by_cases h0 : halt = 0
        · subst h0
          have hnone : nextI l pc m.length = none := by
            unfold nextI
            rw [List.getElem?_eq_none (by omega)]
          simp only [if_pos, stepI, hnone]
        · rw [if_neg h0, if_neg h0]
      have := after_stays s (codeR l) n w hm (by omega) (by omega) hright (by unfold Ws.stays; rw [e1, e2, hn]; exact hst) e5 hp (by simp [Ws.bare, hr0, hw0])
      rw [hhead, hsame] at this
      exact this
    · obtain ⟨x, rfl⟩ : ∃ x : Nat, pc = x := ⟨pc.toNat, by omega⟩
      obtain rfl : halt = 0 := by omega
      exact after_goes s l n hn h2 x (by omega) m m.length rfl hO.right hok hO.mok w hops hvv
set_option maxRecDepth 100000 in
set_option maxHeartbeats 2000000 in
/-- Check, by what After says -/
theorem check_by (p : Dg) (size : Int) (B Z : Dg) (cs : Array Value) (hcs : (cs.toList.take 18).toArray = cs) (hn : 18 ≤ cs.size) (D : Dg) (e0 : Int) (w : World)
    (hA : ∀ w', Ext w w' → Calls Tryz.prog 37 #[.agg #[.int .u8 p.x0, .int .u8 p.x1, .int .u8 p.x2, .int .u8 p.x3, .int .u8 p.x4, .int .u8 p.x5, .int .u8 p.x6, .int .u8 p.x7], .int .i64 size, .agg #[.int .u8 B.x0, .int .u8 B.x1, .int .u8 B.x2, .int .u8 B.x3, .int .u8 B.x4, .int .u8 B.x5, .int .u8 B.x6, .int .u8 B.x7], .agg cs] w' fun e w'' => e = .returned (.tuple #[.agg D.cells, .int .i64 e0]) ∧ Ext w' w'') :
    Calls Tryz.prog 42 #[.agg #[.int .u8 p.x0, .int .u8 p.x1, .int .u8 p.x2, .int .u8 p.x3, .int .u8 p.x4, .int .u8 p.x5, .int .u8 p.x6, .int .u8 p.x7], .int .i64 size, .agg #[.int .u8 B.x0, .int .u8 B.x1, .int .u8 B.x2, .int .u8 B.x3, .int .u8 B.x4, .int .u8 B.x5, .int .u8 B.x6, .int .u8 B.x7], .agg #[.int .u8 Z.x0, .int .u8 Z.x1, .int .u8 Z.x2, .int .u8 Z.x3, .int .u8 Z.x4, .int .u8 Z.x5, .int .u8 Z.x6, .int .u8 Z.x7], .agg cs] w fun e w' => e = .returned (.int .i64 (if e0 = 0 then (if dgB D Z = true then 0 else 23) else e0)) ∧ Ext w w' := by
  have HA := Lib.hid hA
  clear hA
  obtain ⟨r, hr⟩ : ∃ r : Int, r = (if e0 = 0 then (if dgB D Z = true then 0 else 23) else e0) := ⟨_, rfl⟩
  rw [← hr]
  have HR := Lib.hid hr
  clear hr
  have hx0 : Ext w _ := ((((Kept.refl _ w).alloc (.cells #[.int .u8 p.x0, .int .u8 p.x1, .int .u8 p.x2, .int .u8 p.x3, .int .u8 p.x4, .int .u8 p.x5, .int .u8 p.x6, .int .u8 p.x7] 30)).alloc (.cells B.cells 30)).alloc (.cells Z.cells 30)).alloc (.cells cs 45)
  have hZ0 : Blk _ (w.heap.size + 1 + 1) 30 Z.cells := Blk.alloc (Blk.new' ((w.alloc (.cells #[.int .u8 p.x0, .int .u8 p.x1, .int .u8 p.x2, .int .u8 p.x3, .int .u8 p.x4, .int .u8 p.x5, .int .u8 p.x6, .int .u8 p.x7] 30)).alloc (.cells B.cells 30)) _ Z.cells _ (by simp)) (.cells cs 45)
  go_enter Tryz.func42, Tryz.ntmps42
  go_wp2_with fail
  refine (HA.out _ hx0).mono ?_
  rintro e w1 ⟨rfl, hx1⟩
  have hZ1 := Blk.ext hZ0 hx1
  have hh1 := Blk.has hZ1
  have hg1 := Blk.gets hZ1
  have hl1 := Blk.lt hZ1
  by_cases he : e0 = 0
  · subst he
    by_cases hb : dgB D Z = true
    · have hr := HR.out
      rw [if_pos rfl, if_pos hb] at hr
      obtain rfl := (dgB_iff _ _).1 hb
      subst hr
      clear hb HR
      go_wp2_with fail
      go_ret
      exact ⟨rfl, (hx0.trans hx1).alloc _⟩
    · have hr := HR.out
      rw [if_pos rfl, if_neg hb] at hr
      subst hr
      have HB := Lib.hid (dgN_true (H := D) (B := Z) (by simpa using hb))
      clear hb HR
      go_upto_if 26 with (fail)
      rw [HB.out]
      go_wp2_with fail
      go_ret
      exact ⟨rfl, (hx0.trans hx1).alloc _⟩
  · have hr := HR.out
    rw [if_neg he] at hr
    subst hr
    have he' : (r != 0) = true := by simpa using he
    clear he HR
    go_wp2_with fail
    go_ret
    exact ⟨rfl, (hx0.trans hx1).alloc _⟩
end Go.Proofs.YtahljceanodhkaaGreatDoor

/- The law HalveActs: a deed, where steps can be shown. -/
namespace Go.Proofs.YtahljceanodhkaaGreatDoor
open Go.RowKit
theorem prove_is (r : Rt) (e : Int) : (r.prove e).1 = r ∨ (r.prove e).1 = { r with won := 0 } := by
  unfold Rt.prove
  split
  · exact .inl rfl
  · split
    · exact .inl rfl
    · split
      · exact .inr rfl
      · exact .inl rfl
theorem prove_agree' {K : Nat} {m : Int} (r : Rt) (p : Dg) (sz e : Int) (hE : EInv K (r.tr p sz) m) : proveE (r.tr p sz) e = (r.prove e).2 ∧ proveT (r.tr p sz) e = (r.prove e).1.tr p sz ∧ ∃ m', EInv K ((r.prove e).1.tr p sz) m' := by
  have hb := hE.bounds.2.2.1
  have hE0 := hE
  obtain ⟨h0, hbb, j, hj, hs, hc⟩ := hE
  dsimp only at hb h0 hbb hs hc
  have h3 : ∃ m', EInv K ((r.prove e).1.tr p sz) m' := by
    rcases prove_is r e with hp | hp
    · exact ⟨m, by rw [hp]; exact hE0⟩
    · exact ⟨2 * K + 1, by rw [hp]; exact ⟨h0, hbb, j, hj, hs, .inr (.inr ⟨by simp [Rt.turn], by simp, by omega, by omega⟩)⟩⟩
  refine ⟨?_, ?_, h3⟩
  all_goals
    unfold Rt.prove Rt.tr
    first | unfold proveE | unfold proveT
    unfold askedE
    by_cases h : 0 ≤ r.won
    · simp [h, Rt.turn]
    · cases ht : r.told
      · by_cases hs1 : r.steps = 1
        · by_cases he : e = 0
          · simp [h, ht, hs1, Rt.turn, he]
          · simp [h, ht, hs1, Rt.turn, he]
        · have : 1 < r.steps := by omega
          simp [h, ht, hs1, Rt.turn, this]
      · simp [h, ht, Rt.turn]
set_option maxRecDepth 100000 in
set_option maxHeartbeats 2000000 in
theorem do_prove (b c : Nat) (hbc : ¬ b = c) (r r' : Rt) (k ck : Int) (p q : Dg) (sz sz' wh : Int) (x : Dg) (f : Bool) (un : Int) (g cc a : Nat) (ss : List Ws) (s : Ws) (w : World) (ht : At w b (r.tr p sz)) (hc : Blk w c 49 r.cells) (h0 : 0 ≤ wh) (h1 : wh ≤ 255) (hwh : (wh % 4 == 2) = true)
    (hu0 : 0 ≤ un) (hu1 : un ≤ 255) (hrow : Row w g 0 (rowsL Ws.cells ss)) (hlen : ss.length = 17) (ha : un % 17 = (a : Int)) (hs : ss[a]? = some s) (hgb : ¬ g = b) (hgc : ¬ g = c)
    (hp : ∀ w', Ext w w' → At w' b (r.tr p sz) → Calls Tryz.prog 21 #[.pointer (some ⟨b, 0, none⟩), .agg s.cells] w' fun e w'' => e = .returned (.int .i64 k) ∧ At w'' b (r'.tr p sz) ∧ Kept (· = b) w' w'')
    (hck : ∀ w', Kept (· = b) w w' → Calls Tryz.prog 42 #[.agg #[.int .u8 q.x0, .int .u8 q.x1, .int .u8 q.x2, .int .u8 q.x3, .int .u8 q.x4, .int .u8 q.x5, .int .u8 q.x6, .int .u8 q.x7], .int .i64 sz', .agg #[.int .u8 r.ahead.x0, .int .u8 r.ahead.x1, .int .u8 r.ahead.x2, .int .u8 r.ahead.x3, .int .u8 r.ahead.x4, .int .u8 r.ahead.x5, .int .u8 r.ahead.x6, .int .u8 r.ahead.x7], .agg #[.int .u8 r.behind.x0, .int .u8 r.behind.x1, .int .u8 r.behind.x2, .int .u8 r.behind.x3, .int .u8 r.behind.x4, .int .u8 r.behind.x5, .int .u8 r.behind.x6, .int .u8 r.behind.x7], .agg s.cells] w' fun e w'' => e = .returned (.int .i64 ck) ∧ Ext w' w'')
    (hr : ∀ w, Calls Tryz.prog 63 #[.agg r.cells, .int .i64 ck] w fun e w' => e = .returned (.tuple #[.agg r'.cells, .int .i64 k]) ∧ Ext w w') (hw : r'.won = -1 ∨ r'.won = 0 ∨ r'.won = 1) :
    Calls Tryz.prog 24 #[.pointer (some ⟨b, 0, none⟩), .pointer (some ⟨c, 0, none⟩), .agg (deedCells wh x f (.int .u8 un)), .agg #[.int .u8 q.x0, .int .u8 q.x1, .int .u8 q.x2, .int .u8 q.x3, .int .u8 q.x4, .int .u8 q.x5, .int .u8 q.x6, .int .u8 q.x7], .int .i64 sz', .slice (some ⟨g, 0, none⟩) 17 cc] w fun e w' => e = .returned (.bool true) ∧ At w' b (r'.tr p sz) ∧ Blk w' c 49 r'.cells ∧ Kept (fun i => i = b ∨ i = c) w w' := by
  have hbl := Blk.lt ht
  have hcl := Blk.lt hc
  have hgl := hrow.lt
  have hcb : ¬ c = b := fun e => hbc e.symm
  have ha17 : a < 17 := by omega
  obtain ⟨hrh, hrg⟩ := rowsL_row ws_size hrow a (by omega)
  rw [show ss[a]'(by omega) = s from (List.getElem?_eq_some_iff.1 hs).2] at hrg
  rw [Nat.zero_add] at hrh hrg
  have HP := Lib.hid hp
  have HCK := Lib.hid hck
  have HR := Lib.hid hr
  have HW := Lib.hid hw
  clear hp hr hw hck hs hrow
  have q0 : (wh % 4 == 0) = false := by simp at hwh ⊢; omega
  have q1 : (wh % 4 == 1) = false := by simp at hwh ⊢; omega
  clear hlen
  go_enter Tryz.func24, Tryz.ntmps24
  go_wp2_with fail
  refine (HP.out _ (((Kept.refl _ w).alloc _).alloc _ |>.alloc _) (Blk.alloc (Blk.alloc (Blk.alloc ht _) _) _)).mono ?_
  rintro e w1 ⟨rfl, hA1, hx1⟩
  have hc1 : Blk w1 c 49 r.cells := Blk.kept (Blk.alloc (Blk.alloc (Blk.alloc hc (.cells (deedCells wh x f (.int .u8 un)) 25)) (.cells #[.int .u8 q.x0, .int .u8 q.x1, .int .u8 q.x2, .int .u8 q.x3, .int .u8 q.x4, .int .u8 q.x5, .int .u8 q.x6, .int .u8 q.x7] 30)) (.cells s.cells 45)) hx1 hcb
  have hq1 : Blk w1 (w.heap.size + 1) 30 q.cells := Blk.kept (Blk.alloc (Blk.new' (w.alloc (.cells (deedCells wh x f (.int .u8 un)) 25)) _ _ _ (by simp)) (.cells s.cells 45)) hx1 (fun e => by omega)
  have hs1 : Blk w1 (w.heap.size + 1 + 1) 45 s.cells := Blk.kept (Blk.new' ((w.alloc (.cells (deedCells wh x f (.int .u8 un)) 25)).alloc (.cells #[.int .u8 q.x0, .int .u8 q.x1, .int .u8 q.x2, .int .u8 q.x3, .int .u8 q.x4, .int .u8 q.x5, .int .u8 q.x6, .int .u8 q.x7] 30)) _ _ _ (by simp)) hx1 (fun e => by omega)
  have kw1 : Kept (· = b) w w1 := ((((Kept.refl _ w).alloc (.cells (deedCells wh x f (.int .u8 un)) 25)).alloc (.cells #[.int .u8 q.x0, .int .u8 q.x1, .int .u8 q.x2, .int .u8 q.x3, .int .u8 q.x4, .int .u8 q.x5, .int .u8 q.x6, .int .u8 q.x7] 30)).alloc (.cells s.cells 45)).trans hx1
  clear hrh hrg
  go_wp2_with fail
  refine wp_region_3 (fun w' => Ext w1 w') [(0, 1), (1, 2), (2, 2), (3, 2), (4, 2), (5, 1), (6, 2), (7, 2), (8, 2), (9, 1), (10, 1), (11, 0), (12, 2)] (by kernel_rfl) (by kernel_rfl) (by kernel_rfl) (by kernel_rfl) ?_; intro l' hl'; simp only [List.map_cons, List.map_nil, List.getD_cons_zero, List.getD_cons_succ] at hl'; subst hl'
  (repeat (first | ((apply w3_pure); (· go_simp); (· (intro w1; go_simp; try with_reducible rfl)); (intro K hK; go_simp; refine hK _ _ ?_; clear hK K)) | ((apply w3_skip); (· go_simp); (intro K hK; go_simp; refine hK _ _ ?_; clear hK K)) | ((apply w3_take); (· exact (Kept.drew (Kept.refl _ _))); (· go_simp); (· (intro w1 hS; have c1 := Blk.ext hc1 hS; have d1 := Blk.ext hq1 hS; have e1 := Blk.ext hs1 hS; have hh := Blk.has c1; have hg := Blk.gets c1; have hhd := Blk.has d1; have hgd := Blk.gets d1; have hhe := Blk.has e1; have hge := Blk.gets e1; have hcl := Blk.lt c1;  go_simp; try with_reducible rfl)); (intro K hK; go_simp; refine hK _ _ ?_; clear hK K)) | ((apply w3_pass); (· exact (Kept.drew (Kept.refl _ _))); (· go_simp); (intro K hK; go_simp; refine hK _ _ ?_; clear hK K))))
  (refine w3_act (fun K hK => ?_); go_simp)
  go_wp2_with fail
  refine (HCK.out _ (kw1.drew)).mono ?_
  rintro e w2 ⟨rfl, hx2⟩
  have hx2' : Ext w1 w2 := ((Kept.refl _ w1).drew).trans hx2
  refine hK.out _ _ (fun _ => hx2') ?_
  clear hK K
  (repeat (first | ((apply w3_pure); (· go_simp); (· (intro w1; go_simp; try with_reducible rfl)); (intro K hK; go_simp; refine hK _ _ ?_; clear hK K)) | ((apply w3_skip); (· go_simp); (intro K hK; go_simp; refine hK _ _ ?_; clear hK K)) | (refine w3_end (by kernel_rfl) (fun K hK => ?_); go_simp; refine hK.out _ _ ?_; clear hK K))); refine w3_nil ?_
  have hc2 := Blk.ext hc1 hx2'
  have hh2 := Blk.has hc2
  have hg2 := Blk.gets hc2
  go_wp2_with fail
  refine (HR.out _).mono ?_
  rintro e w3 ⟨rfl, hx3⟩
  have hc3 := Blk.ext hc2 hx3
  have hh3 := Blk.has hc3
  have hm3 := Blk.melts hc3
  go_wp2_with fail
  have hA4 : At (putAt w3 c 0 r'.cells) b (r'.tr p sz) := Blk.putFar (Blk.ext (Blk.ext hA1 hx2') hx3) hbc _ _
  have hc4 : Blk (putAt w3 c 0 r'.cells) c 49 r'.cells := by
    have := Blk.put_ hc3 0 r'.cells
    rwa [splice_all (by rfl)] at this
  have hh4 := Blk.has hc4
  have hg4 := Blk.gets hc4
  refine (same23_any b r' p sz _ hA4 HW.out).mono ?_
  rintro e w5 ⟨rfl, hx5⟩
  go_wp2_with fail
  go_ret
  refine ⟨rfl, Blk.ext hA4 hx5, Blk.ext hc4 hx5, ?_⟩
  have k1 : Kept (fun i => i = b ∨ i = c) w w1 := kw1.mono (fun i _ e => .inl e)
  have k2 := (k1.trans (Kept.ext hx2')).trans (Kept.ext hx3)
  have k3 := Kept.putAt k2 c 0 r'.cells (fun _ => .inr rfl)
  exact k3.trans (Kept.ext hx5)
end Go.Proofs.YtahljceanodhkaaGreatDoor

/- The law HalveActs: any deed. -/
namespace Go.Proofs.YtahljceanodhkaaGreatDoor
open Go.RowKit
theorem blk_not {w : World} {p : Nat} {T E : TypeId} {cs : Array Value} (hb : Blk w p T cs) (hE : ¬ T = E) : ∀ cur fr, ¬ w.heap[p]? = some (.cells cur E fr) := fun cur fr e => by
  unfold Blk at hb
  rw [e] at hb
  injection hb with hb
  injection hb with _ hb _
  exact hE hb.symm
/-- what Check says of a made step -/
def chkR (l : List Ins) (r : Cfg) (B Z : Dg) : Int := if (aftR l r.1 r.2.1 r.2.2 B).2 = 0 then (if dgB (aftR l r.1 r.2.1 r.2.2 B).1 Z = true then 0 else 23) else (aftR l r.1 r.2.1 r.2.2 B).2
theorem check_made (s : Ws) (l : List Ins) (n : Nat) (hn : n = l.length) (h1 : 1 ≤ n) (h2 : n ≤ 2048) (r : Cfg) (B Z : Dg) (hO : Okay r.1 r.2.1 r.2.2) (hok : ∀ i ∈ l, i.ok) (w : World) (hops : OpsAt w) (hv : StepV w s (makeL l r.1 r.2.1 r.2.2)) :
    Calls Tryz.prog 42 #[.agg (codeR l).cells, .int .i64 n, .agg B.cells, .agg Z.cells, .agg s.cells] w fun e w' => e = .returned (.int .i64 (chkR l r B Z)) ∧ Ext w w' :=
  check_by (codeR l) n B Z s.cells rfl (by simp) _ _ w (fun w' hx => after_made s l n hn h1 h2 r.1 r.2.1 r.2.2 B hO hok w' (hops.ext hx) (hv.ext hx))
abbrev MadeV (l : List Ins) : World → Ws → Cfg → Prop := fun w s r => StepV w s (makeL l r.1 r.2.1 r.2.2)
/-- steps of a run in memory -/
structure StepsAt (w : World) (l : List Ins) (r0 : Cfg) (g k : Nat) (ss : List Ws) : Prop where
  row : Row w g 0 (rowsL Ws.cells ss)
  ty : ∃ cur, w.heap[g]? = some (.cells cur 45 (0, 0))
  all : AllV (MadeV l) w ss ((List.range k).map (trajI l r0))
theorem StepsAt.kept {S : Nat → Prop} {w w' : World} {l : List Ins} {r0 : Cfg} {g k : Nat} {ss : List Ws} (h : StepsAt w l r0 g k ss) (hx : Kept S w w') (hs : ∀ i, S i → ∀ cur fr, ¬ w.heap[i]? = some (.cells cur 30 fr)) (hs' : ∀ i, S i → ∀ cur fr, ¬ w.heap[i]? = some (.cells cur 77 fr)) (hs2 : ∀ i, S i → ∀ cur fr, ¬ w.heap[i]? = some (.cells cur 45 fr)) : StepsAt w' l r0 g k ss := by
  obtain ⟨h1, ⟨cur, h2⟩, h3⟩ := h
  have hg : ¬ S g := fun hS => hs2 g hS _ _ h2
  exact ⟨h1.kept hx hg, ⟨cur, (hx.block g h1.lt hg).trans h2⟩, h3.mono (fun a b h => h.kept hx hs hs')⟩
theorem StepsAt.ext {w w' : World} {l : List Ins} {r0 : Cfg} {g k : Nat} {ss : List Ws} (h : StepsAt w l r0 g k ss) (hx : Ext w w') : StepsAt w' l r0 g k ss :=
  h.kept hx (fun _ f => f.elim) (fun _ f => f.elim) (fun _ f => f.elim)
theorem StepsAt.trial {S : Nat → Prop} {w w' : World} {l : List Ins} {r0 : Cfg} {g k : Nat} {ss : List Ws} {b c : Nat} {t : Tr} {r : Rt} (h : StepsAt w l r0 g k ss) (hx : Kept S w w') (hS : ∀ i, S i → i = b ∨ i = c) (hb : At w b t) (hc : Blk w c 49 r.cells) : StepsAt w' l r0 g k ss :=
  h.kept hx (fun i hi => by rcases hS i hi with rfl | rfl; exact blk_not hb (by decide); exact blk_not hc (by decide)) (fun i hi => by rcases hS i hi with rfl | rfl; exact blk_not hb (by decide); exact blk_not hc (by decide)) (fun i hi => by rcases hS i hi with rfl | rfl; exact blk_not hb (by decide); exact blk_not hc (by decide))
/-- what a deed leaves -/
def Done1 (K : Nat) (b c : Nat) (p : Dg) (sz : Int) (w : World) (e : Ending) (w' : World) : Prop :=
  ∃ r' m', e = .returned (.bool true) ∧ At w' b (Rt.tr r' p sz) ∧ Blk w' c 49 r'.cells ∧ Kept (fun i => i = b ∨ i = c) w w' ∧ EInv K (r'.tr p sz) m'
theorem do_acts {K : Nat} {m : Int} (hK : K ≤ 20) (b c : Nat) (hbc : ¬ b = c) (r : Rt) (l : List Ins) (n : Nat) (hn : n = l.length) (h1 : 1 ≤ n) (h2 : n ≤ 2048) (hok : ∀ i ∈ l, i.ok) (r0 : Cfg) (hO : Okay r0.1 r0.2.1 r0.2.2) (wh : Int) (x : Dg) (f : Bool) (un : Int) (g cc : Nat) (ss : List Ws) (w : World) (hops : OpsAt w) (ht : At w b (r.tr (codeR l) n)) (hc : Blk w c 49 r.cells) (hw0 : 0 ≤ wh) (hw1 : wh ≤ 255) (hu0 : 0 ≤ un) (hu1 : un ≤ 255) (hE : EInv K (r.tr (codeR l) n) m) (hs : StepsAt w l r0 g 17 ss) :
    Calls Tryz.prog 24 #[.pointer (some ⟨b, 0, none⟩), .pointer (some ⟨c, 0, none⟩), .agg (deedCells wh x f (.int .u8 un)), .agg (codeR l).cells, .int .i64 n, .slice (some ⟨g, 0, none⟩) 17 cc] w fun e w' => Done1 K b c (codeR l) n w e w' := by
  have hb := hE.bounds
  have hp := pow2_le hK
  have hb1 : 0 ≤ r.steps := by have := hb.2.2.1; dsimp only at this; omega
  have hb2 : r.steps ≤ 1048576 := by have := hb.2.2.2.1; dsimp only at this; omega
  have hb3 : 0 ≤ r.from_ := hb.1
  have hb4 : r.from_ ≤ 1048576 := by have := hb.2.1; dsimp only at this; omega
  rcases (by omega : wh % 4 = 0 ∨ wh % 4 = 1 ∨ wh % 4 = 2 ∨ wh % 4 = 3) with hm | hm | hm | hm
  · have ag := tell_agree r (codeR l) n x
    have hE' := (hE.tell x).1
    rw [ag.2] at hE'
    refine (do_tell b c hbc r (r.tell x).1 (r.tell x).2 (codeR l) (codeR l) n n wh x f (.int .u8 un) (.slice (some ⟨g, 0, none⟩) 17 cc) w ht hc hw0 hw1 (by simpa using hm) (fun w hA => ?_) (fun w => rtell_any r x w) hE'.won).mono ?_
    · have := tell_any b (r.tr (codeR l) n) x w hA
      rwa [ag.1, ag.2] at this
    · rintro e w' ⟨he, h1, h2, h3⟩
      exact ⟨_, _, he, h1, h2, h3, hE'⟩
  · have ag := choose_agree r (codeR l) n f hE
    have hE' := (hE.choose f).1
    rw [ag.2] at hE'
    refine (do_choose b c hbc r (r.choose f).1 (r.choose f).2 (codeR l) (codeR l) n n wh x f (.int .u8 un) (.slice (some ⟨g, 0, none⟩) 17 cc) w ht hc hw0 hw1 (by simpa using hm) (fun w hA => ?_) (fun w => rchoose_any r f w hb1 hb2 hb3 hb4) hE'.won).mono ?_
    · have := choose_any b (r.tr (codeR l) n) f w hA hb1 hb2 hb3 hb4
      rwa [ag.1, ag.2] at this
    · rintro e w' ⟨he, h1, h2, h3⟩
      exact ⟨_, _, he, h1, h2, h3, hE'⟩
  · obtain ⟨a, ha⟩ : ∃ a : Nat, un % 17 = a := ⟨(un % 17).toNat, by omega⟩
    have ha17 : a < 17 := by omega
    have hlen : ss.length = 17 := by have := hs.all.len; simpa using this
    have hal : a < ss.length := by omega
    have hsv := hs.all.get a hal (by simpa using ha17)
    simp only [List.getElem_map, List.getElem_range] at hsv
    have hOa := (traj_okay (by rw [← hn]; exact h2) hO a).1
    obtain ⟨ck, hck⟩ : ∃ ck, ck = chkR l (trajI l r0 a) r.ahead r.behind := ⟨_, rfl⟩
    have hchk : ∀ w', StepV w' ss[a] (makeL l (trajI l r0 a).1 (trajI l r0 a).2.1 (trajI l r0 a).2.2) → OpsAt w' → Calls Tryz.prog 42 #[.agg (codeR l).cells, .int .i64 n, .agg r.ahead.cells, .agg r.behind.cells, .agg (ss[a]).cells] w' fun e w'' => e = .returned (.int .i64 ck) ∧ Ext w' w'' := fun w' hv ho => by
      rw [hck]
      exact check_made ss[a] l n hn h1 h2 (trajI l r0 a) r.ahead r.behind hOa hok w' ho hv
    obtain ⟨ag1, ag2, m', hE'⟩ := prove_agree' r (codeR l) n ck hE
    have hob : OpsAt w → ¬ b = 0 := fun ho e => by
      subst e
      have h1 := Blk.cell ht 1
      rw [ho.at_ 0 (by omega)] at h1
      simp at h1
    refine (do_prove b c hbc r (r.prove ck).1 (r.prove ck).2 ck (codeR l) (codeR l) n n wh x f un g cc a ss ss[a] w ht hc hw0 hw1 (by simpa using hm) hu0 hu1 hs.row hlen ha (List.getElem?_eq_getElem hal) (fun e => by obtain ⟨cur, h⟩ := hs.ty; rw [e] at h; exact blk_not ht (by decide) _ _ h) (fun e => by obtain ⟨cur, h⟩ := hs.ty; rw [e] at h; exact blk_not hc (by decide) _ _ h) (fun w' hx hA => ?_) (fun w' hx => ?_) (fun w => rprove_any r ck w) hE'.won).mono ?_
    · have := prove_any b (r.tr (codeR l) n) (ss[a]).cells ck w' hA rfl (by simp) (fun w'' hx' => hchk w'' ((hsv.ext hx).ext hx') ((hops.ext hx).ext hx'))
      rw [ag1, ag2] at this
      exact this
    · exact hchk w' (hsv.kept hx (fun i hi => by subst hi; exact blk_not ht (by decide)) (fun i hi => by subst hi; exact blk_not ht (by decide))) (hops.kept hx (fun e => hob hops e.symm))
    · rintro e w' ⟨he, h1, h2, h3⟩
      exact ⟨_, _, he, h1, h2, h3, hE'⟩
  · have ag := silence_agree r (codeR l) n
    have hE' := hE.silence.1
    rw [ag.2] at hE'
    refine (do_silence b c hbc r r.silence.1 r.silence.2 (codeR l) (codeR l) n n wh x f (.int .u8 un) (.slice (some ⟨g, 0, none⟩) 17 cc) w ht hc hw0 hw1 (by simpa using hm) (fun w hA => ?_) (fun w => rsilence_any r w) hE'.won).mono ?_
    · have := silence_any b (r.tr (codeR l) n) w hA
      rwa [ag.1, ag.2] at this
    · rintro e w' ⟨he, h1, h2, h3⟩
      exact ⟨_, _, he, h1, h2, h3, hE'⟩
end Go.Proofs.YtahljceanodhkaaGreatDoor

/- The law HalveActs: its walk. -/
namespace Go.Proofs.YtahljceanodhkaaGreatDoor
open Go.RowKit
theorem aggWstp : aggT Tryz.prog 45 = true := by kernel_rfl
theorem sizeWstp : sizeT Tryz.prog 45 = some 18 := by kernel_rfl
theorem wpLoadWstp {dst : Option Tmp} {ty' : TypeId} {x : Operand} {pos : String} {after : Array Edge} {guard : Option (Nat × Bool)} {a : Act} {w : World} {K : Act → World → Prop} {Q : Exit → Act → World → Prop} (hx : isAt (a.eval x) = true) (hh : has w (blkOf (a.eval x)) (offOf (a.eval x)) 18 = true) :
    Oper.wp Tryz.prog { dst := dst, op := .load 45 x, type := ty', pos := pos, after := after, guard := guard } a w K Q = K (a.put dst (.agg (gets w (blkOf (a.eval x)) (offOf (a.eval x)) 18))) w := wp_load_big 18 aggWstp sizeWstp hx hh
theorem runLoadWstp {ρ : Operand → Value} {dst : Option Tmp} {ty' : TypeId} {x : Operand} {pos : String} {after : Array Edge} {guard : Option (Nat × Bool)} {w : World} (hx : isAt (ρ x) = true) (hh : has w (blkOf (ρ x)) (offOf (ρ x)) 18 = true) :
    (execOp ρ { dst := dst, op := .load 45 x, type := ty', pos := pos, after := after, guard := guard }).run Tryz.prog w = .ok (.value (.agg (gets w (blkOf (ρ x)) (offOf (ρ x)) 18))) w := run_exec_load_big 18 aggWstp sizeWstp hx hh
theorem loadVarWstp (w : World) (g off : Nat) (hh : has w g off 18 = true) : (loadVar 45 ⟨g, off, none⟩).run Tryz.prog w = .ok (.agg (gets w g off 18)) w := run_loadVar_big Tryz.prog w _ g off 18 aggWstp sizeWstp hh
attribute [go_sem] aggWstp sizeWstp
attribute [go_sem ↓ high] wpLoadWstp loadVarWstp runLoadWstp
attribute [go_sem high] wpLoadWstp
set_option maxRecDepth 100000 in
set_option maxHeartbeats 2000000 in
theorem rnew_no (a z : Dg) (sz k : Int) (hs : 1 ≤ sz) (hs2 : sz ≤ 2048) (h : k < 0 ∨ 20 < k) (w : World) :
    Calls Tryz.prog 23 #[.int .i64 sz, .int .i64 k, .agg #[.int .u8 a.x0, .int .u8 a.x1, .int .u8 a.x2, .int .u8 a.x3, .int .u8 a.x4, .int .u8 a.x5, .int .u8 a.x6, .int .u8 a.x7], .agg #[.int .u8 z.x0, .int .u8 z.x1, .int .u8 z.x2, .int .u8 z.x3, .int .u8 z.x4, .int .u8 z.x5, .int .u8 z.x6, .int .u8 z.x7]] w fun e w' => e = .returned (.tuple #[.agg (Rt.cells ⟨0, 0, Dg.zero, Dg.zero, false, Dg.zero, 0⟩), .bool false]) ∧ Ext w w' := by
  have hx0 : Ext w _ := (((Kept.refl _ w).alloc (.cells a.cells 23)).alloc (.cells z.cells 23)).alloc (.cells (Rt.cells ⟨0, 0, Dg.zero, Dg.zero, false, Dg.zero, 0⟩) 49)
  have hR0 : Blk _ (w.heap.size + 1 + 1) 49 (Rt.cells ⟨0, 0, Dg.zero, Dg.zero, false, Dg.zero, 0⟩) := Blk.new' ((w.alloc (.cells a.cells 23)).alloc (.cells z.cells 23)) _ _ _ (by simp)
  rcases h with h | h
  · go_enter Tryz.func23, Tryz.ntmps23
    go_wp2_with fail
    refine ret_ci Tryz.results23 rfl rfl aggRt (by exact sizeRt) hR0 ⟨rfl, hx0⟩
  · have h' : ¬ k < 0 := by omega
    go_enter Tryz.func23, Tryz.ntmps23
    go_wp2_with fail
    refine ret_ci Tryz.results23 rfl rfl aggRt (by exact sizeRt) hR0 ⟨rfl, hx0⟩
set_option maxRecDepth 100000 in
set_option maxHeartbeats 1000000 in
theorem acts_not (A : Option Addr) (n cap : Nat) (pc : Int) (A' : Option Addr) (k cap' : Nat) (halt depth : Int) (A2 : Option Addr) (len cap2 : Nat) (w : World) (hm : len ≤ maxLen) (h : smallC n k pc halt = false ∨ 40 < len) :
    Calls Tryz.prog 10 #[.agg (courseC A n cap pc A' k cap' halt), .int .i64 depth, .slice A2 len cap2] w fun e w' => e = .returned (.bool true) ∧ Ext w w' := by
  unfold maxLen at hm
  have hx0 : Ext w _ := (Kept.refl _ w).alloc (.cells (courseC A n cap pc A' k cap' halt) 99)
  have hC0 := Blk.new w 99 (courseC A n cap pc A' k cap' halt)
  have hs := small_any A n cap pc A' k cap' halt (w.alloc (.cells (courseC A n cap pc A' k cap' halt) 99))
  obtain ⟨b, hb⟩ : ∃ b, b = smallC n k pc halt := ⟨_, rfl⟩
  rw [← hb] at hs h
  have HS := Lib.hid hs
  have HH := Lib.hid h
  clear hs hb h
  go_enter Tryz.func10, Tryz.ntmps10
  go_wp2_with fail
  refine HS.out.mono ?_
  rintro e w1 ⟨rfl, hx1⟩
  cases b
  · go_wp2_with fail
    refine (told_any _).mono ?_
    rintro e w2 ⟨rfl, hx2⟩
    go_wp2_with fail
    go_ret
    exact ⟨rfl, (hx0.trans hx1).trans hx2⟩
  · have hl : 40 < len := HH.out.resolve_left (by simp)
    go_wp2_with fail
    refine (told_any _).mono ?_
    rintro e w2 ⟨rfl, hx2⟩
    go_wp2_with fail
    go_ret
    exact ⟨rfl, (hx0.trans hx1).trans hx2⟩
set_option maxRecDepth 100000 in
set_option maxHeartbeats 8000000 in
theorem acts_walk (A : Option Addr) (b off n cap : Nat) (l : List Ins) (pc halt : Int) (b' off' k cap' : Nat) (m : List Int) (depth : Int) (A2 : Option Addr) (b2 off2 len cap2 : Nat) (what : Nat → Int) (dg : Nat → Dg) (first : Nat → Bool) (last : Nat → Int) (w : World)
    (hc : CourseAt w A b off n l pc halt b' off' k m) (hsm : smallC n k pc halt = true) (hl40 : len ≤ 40) (hA2 : 0 < len → A2 = some ⟨b2, off2, none⟩) (hD : Deeds11 w b2 off2 len what dg first (fun i => .int .u8 (last i))) (hlast : ∀ i, i < len → 0 ≤ last i ∧ last i ≤ 255) :
    Calls Tryz.prog 10 #[.agg (courseC A n cap pc (some ⟨b', off', none⟩) k cap' halt), .int .i64 depth, .slice A2 len cap2] w fun e w' => e = .returned (.bool true) ∧ Ext w w' := by
  obtain ⟨k1, k2, _⟩ := rightS_inv hc.right
  obtain rfl := hc.at_
  have n1 := hc.n1
  have n2 := hc.n2
  have hx0 : Ext w _ := (Kept.refl _ w).alloc (.cells (courseC (some ⟨b, off, none⟩) n cap pc (some ⟨b', off', none⟩) k cap' halt) 99)
  have hC0 := Blk.new w 99 (courseC (some ⟨b, off, none⟩) n cap pc (some ⟨b', off', none⟩) k cap' halt)
  have HC := Lib.hid hc
  have HOKT := Lib.hid (traj_okay (r := (pc, halt, m)) (by rw [← hc.n_eq]; exact n2) hc.okay)
  have hst := fun w hw => states_any (some ⟨b, off, none⟩) b off n cap l pc halt b' off' k cap' m 16 (by omega) w hw
  obtain ⟨C, hCe⟩ : ∃ C, C = codeR l := ⟨_, rfl⟩
  have HCE := Lib.hid hCe
  have HST := Lib.hid hst
  have HSM := Lib.hid hsm
  have HA2 := Lib.hid hA2
  have HD := Lib.hid hD
  have HL := Lib.hid hlast
  clear hc hst hCe hsm hA2 hD hlast
  go_enter Tryz.func10, Tryz.ntmps10
  go_upto_region 1 with (fail)
  generalize (w.alloc (.cells (courseC (some ⟨b, off, none⟩) n cap pc (some ⟨b', off', none⟩) k cap' halt) 99)) = W at hx0 hC0 ⊢
  obtain ⟨cb, hcb⟩ : ∃ cb, cb = w.heap.size := ⟨_, rfl⟩
  rw [← hcb] at hC0 ⊢
  have hwc : w.heap.size ≤ cb := by omega
  clear hcb
  have i1 := Blk.has hC0
  have i2 := Blk.gets hC0
  have i3 := Blk.cell hC0
  have i4 := Blk.lt hC0
  go_wp2_with fail
  refine (small_any (some ⟨b, off, none⟩) n cap pc (some ⟨b', off', none⟩) k cap' halt _).mono ?_
  rintro e w1 ⟨rfl, hx1⟩
  rw [HSM.out]
  have hC1 := Blk.ext hC0 hx1
  have x1 := hx0.trans hx1
  clear i1 i2 i3 i4 hC0 hx1 hx0
  have i1 := Blk.has hC1
  have i2 := Blk.gets hC1
  have i3 := Blk.cell hC1
  have i4 := Blk.lt hC1
  go_wp2_with fail
  refine (owncode_any (some ⟨b, off, none⟩) b off cap l n HC.out.n_eq (by omega) (fun _ => rfl) _ (fun _ => HC.out.row.ext x1)).mono ?_
  rintro e w2 ⟨v2, rfl, ho2, hx2⟩
  obtain ⟨A2', g2, c2, rfl, q1, q2, -⟩ := own_I ho2
  have Q1 := Lib.hid q1
  have Q2 := Lib.hid q2
  clear q1 q2 ho2
  go_wp2_with fail
  have hwc2 := wcode_ok A2' g2 0 c2 l n HC.out.n_eq n1 n2 HC.out.iok Q1.out w2 Q2.out
  rw [← HCE.out] at hwc2
  refine hwc2.mono ?_
  rintro e w3 ⟨rfl, hx3⟩
  clear hwc2 i1 i2 i3 i4
  have x3 := (x1.trans hx2).trans hx3
  have hC3 := Blk.ext (Blk.ext hC1 hx2) hx3
  clear hC1 hx2 hx3 x1
  go_upto_region 4 with (fail)
  have x4 := x3.alloc (.cells C.cells 30)
  have hC4 := Blk.alloc hC3 (.cells C.cells 30)
  have hP4 := Blk.new w3 30 C.cells
  have hpc : cb < w3.heap.size := hC3.lt
  generalize (w3.alloc (.cells C.cells 30)) = W4 at x4 hC4 hP4 ⊢
  generalize (w3 : World).heap.size = pb at hP4 hpc ⊢
  clear hC3 x3
  have i1 := Blk.has hC4
  have i2 := Blk.gets hC4
  have i4 := Blk.lt hC4
  go_wp2_with fail
  refine (HST.out _ (HC.out.ext x4)).mono ?_
  rintro e w5 ⟨v5, ss, rfl, ho5, hv5, hx5⟩
  simp only [Nat.reduceAdd] at ho5 hv5
  obtain ⟨g5, c5, rfl, hrow5, hbg5, hty5⟩ := own_rows ho5 (by omega) (by omega)
  have x5 := x4.trans hx5
  have hC5 := Blk.ext hC4 hx5
  have hP5 := Blk.ext hP4 hx5
  have HR5 := Lib.hid hrow5
  have HV5 := Lib.hid hv5
  clear i1 i2 i4 hrow5 hv5 ho5 hty5 hC4 hP4 x4 hx5
  go_wp2_with fail
  go_loopw [10, 11] (fun t10 t11 wr => ∃ (j : Nat) (ts : List Ws), j ≤ 17 ∧ t11 = .int .i64 j ∧ wr.ownsRow w5.heap.size 45 18 t10 j (rowsL Ws.cells ts) ∧ AllV (MadeV l) wr ts ((List.range j).map (trajI l (pc, halt, m))) ∧ Ext w5 wr) (fun _ t11 _ => 17 - (intOf t11).toNat)
  case atStart => exact ⟨0, [], by omega, rfl, World.ownsRow_nil _ _ _ _, .nil, Kept.refl _ _⟩
  case round =>
    obtain ⟨j, ts, hj, rfl, ho, hv, hx⟩ := hrel
    have HO := Lib.hid ho
    have HV := Lib.hid hv
    clear ho hv
    have hC := Blk.ext hC5 hx
    by_cases hlt : j < 17
    · have hlen := HV5.out.len
      simp only [List.length_map, List.length_range] at hlen
      have hrow := HR5.out.ext hx
      obtain ⟨hrh, hrg⟩ := rowsL_row sm_size hrow j (by omega)
      have hsv := HV5.out.get j (by omega) (by simpa using hlt)
      simp only [List.getElem_map, List.getElem_range] at hsv
      obtain ⟨s0, hse⟩ : ∃ s0, s0 = ss[j] := ⟨_, rfl⟩
      rw [← hse] at hrg hsv
      obtain ⟨hpc', hha, hsn, base, hsm⟩ := hsv
      obtain ⟨hok, hokl⟩ := HOKT.out j
      obtain ⟨r, hr⟩ : ∃ r, r = trajI l (pc, halt, m) j := ⟨_, rfl⟩
      rw [← hr] at hpc' hha hsn hsm hok hokl
      obtain ⟨rpc, rha, rm⟩ := r
      obtain ⟨spc, sha, sg, sn, sc⟩ := s0
      simp only at hpc' hha hsn hsm hok hokl hrg
      subst hpc' hha
      have HRJ := Lib.hid hr
      have HSM2 := Lib.hid (hsm.ext hx)
      have HSN := Lib.hid hsn
      have HOKJ := Lib.hid hok
      have hgl := hrow.lt
      clear hr hse hsm hsn hok hokl hlen hrow
      simp only [Nat.zero_add] at hrh hrg
      have hltI : (j : Int) < 17 := by omega
      have hj0 : (0 : Int) ≤ j := by omega
      have h5s := hx.size
      go_upto_region 9 with (fail)
      refine wp_region_4 (fun w2 => Ext wr w2) (.op 0 2 (.op 1 1 (.op 3 2 (.op 4 2 (.op 5 2 (.op 6 1 (.fork 2 (.fork 7 (.op 8 2 (.op 9 2 (.op 10 2 (.op 11 0 (.op 12 0 (.op 13 2 .nil)))))) 11 (.op 7 0 (.op 8 2 (.op 9 2 (.op 10 2 (.op 12 0 (.op 13 2 .nil))))))) 11 (.op 2 0 (.op 7 0 (.op 8 2 (.op 9 2 (.op 10 2 (.op 12 0 (.op 13 2 .nil)))))))))))))) (by kernel_rfl) (by kernel_rfl) (by kernel_rfl) (by kernel_rfl) ?_; intro p' hp'; simp only [Pl0.fill, List.getD_cons_zero, List.getD_cons_succ] at hp'; subst hp'
      (repeat (first | ((apply w4_pure); (· go_simp); (· (intro w1; go_simp; try with_reducible rfl)); (intro K hK; go_simp; refine hK _ _ ?_; clear hK K)) | ((apply w4_skip); (· go_simp); (intro K hK; go_simp; refine hK _ _ ?_; clear hK K)) | ((apply w4_take); (· exact (Kept.drew (Kept.refl _ _))); (· go_simp); (· (intro w1 hS; have d1 := Blk.cell (Blk.ext hC hS); have d2 := (Blk.ext hC hS).lt; have d3 := has_ext hS hgl hrh; have d4 := gets_ext hS hgl hrg; have d5 := Nat.lt_of_lt_of_le hgl hS.size;  go_simp; try with_reducible rfl)); (intro K hK; go_simp; refine hK _ _ ?_; clear hK K)) | ((apply w4_pass); (· exact (Kept.drew (Kept.refl _ _))); (· go_simp); (intro K hK; go_simp; refine hK _ _ ?_; clear hK K))))
      have y : Ext wr wr.drew := (Kept.refl _ wr).drew
      refine w4_fork ?_ ?_
      · (refine w4_act (fun K hK => ?_); go_simp)
        go_wp2_with fail
        refine (owncode_any (some ⟨b, off, none⟩) b off cap l n HC.out.n_eq (by omega) (fun _ => rfl) _ (fun _ => HC.out.row.ext (x5.trans (hx.trans y)))).mono ?_
        rintro e w6 ⟨v6, rfl, ho6, hx6⟩
        obtain ⟨A6, g6, c6, rfl, q1, q2, -⟩ := own_I ho6
        have y6 : Ext wr w6 := y.trans hx6
        refine hK.out _ _ (fun _ => y6) ?_
        clear hK K ho6
        (repeat (first | ((apply w4_pure); (· go_simp); (· (intro w1; go_simp; try with_reducible rfl)); (intro K hK; go_simp; refine hK _ _ ?_; clear hK K)) | ((apply w4_skip); (· go_simp); (intro K hK; go_simp; refine hK _ _ ?_; clear hK K))))
        have hxm : Ext w6 w6 := Kept.refl _ _
        have Q1 := Lib.hid q1
        have Q2 := Lib.hid q2
        clear q1 q2
        refine w4_fork ?_ ?_
        · (refine w4_act (fun K hK => ?_); go_simp)
          go_wp2_with fail
          refine (make_ok A6 g6 0 c6 l n HC.out.n_eq n1 n2 HC.out.iok Q1.out spc sha (some ⟨sg, 0, none⟩) sg 0 sc rm sn HSN.out (by rw [HSN.out]; exact HOKJ.out.right) (fun _ => rfl) HOKJ.out.mok w6 (HC.out.ops.ext (x5.trans (hx.trans y6))) Q2.out (fun _ => (HSM2.out.ext y6).row)).mono ?_
          rintro e w7 ⟨s, rfl, hsv, hx7⟩
          have y7 : Ext wr w7 := y6.trans hx7
          refine hK.out _ _ (fun _ => y7) ?_
          clear hK K
          (repeat (first | ((apply w4_pure); (· go_simp); (· (intro w1; go_simp; try with_reducible rfl)); (intro K hK; go_simp; refine hK _ _ ?_; clear hK K)) | ((apply w4_skip); (· go_simp); (intro K hK; go_simp; refine hK _ _ ?_; clear hK K))))
          (refine w4_act (fun K hK => ?_); go_simp)
          refine hK.out _ _ (fun _ => y7.alloc _) ?_
          clear hK K
          (repeat (first | ((apply w4_pure); (· go_simp); (· (intro w1; go_simp; try with_reducible rfl)); (intro K hK; go_simp; refine hK _ _ ?_; clear hK K)) | ((apply w4_skip); (· go_simp); (intro K hK; go_simp; refine hK _ _ ?_; clear hK K)) | (refine w4_end (by kernel_rfl) (fun K hK => ?_); go_simp; refine hK.out _ _ ?_; clear hK K))); refine w4_nil ?_
          have x8 : Ext wr (w7.alloc (.cells s.cells 45)) := y7.alloc _
          have hN8 := Blk.new w7 45 s.cells
          have hv8 := hsv.ext ((Kept.refl _ w7).alloc (.cells s.cells 45))
          generalize (w7.alloc (.cells s.cells 45)) = W8 at x8 hN8 hv8 ⊢
          generalize (w7 : World).heap.size = p8 at hN8 ⊢
          go_upto_region 10 with (fail)
          have j1 := Blk.has hN8
          have j2 := Blk.gets hN8
          have j3 := Blk.lt hN8
          go_step
          iterate 3 (refine wpList_step (fun K hK => ?_); go_simp; (try go_bits); refine hK _ _ ?_; clear hK K)
          have hsz8 := x8.size
          have y9 : Ext wr (W8.alloc (.cells s.cells 45)) := x8.alloc _
          obtain ⟨v9, w9, hr9, ho9, hk9⟩ := appWs (W8.alloc (.cells s.cells 45)) w5.heap.size u10 j ts (own_ext HO.out y9) W8.heap.size 0 1 1 [s] rfl (by rw [rowsL_one]; exact Row.of_blk (Blk.new W8 45 s.cells)) (by omega) (by simp; omega)
          have hnt1 := own_other (own_ext HO.out y9) (E' := 30) (by decide)
          have hnt2 := own_other (own_ext HO.out y9) (E' := 77) (by decide)
          have hv9 : AllV (MadeV l) w9 (ts ++ [s]) ((List.range (j + 1)).map (trajI l (pc, halt, m))) := by
            rw [List.range_succ, List.map_append]
            refine AllV.mono (w := W8.alloc (.cells s.cells 45)) (fun a b h => h.kept hk9 hnt1 hnt2) ?_
            refine (HV.out.mono (fun a b h => h.ext y9)).snoc ?_
            show MadeV l _ s (trajI l (pc, halt, m) j)
            rw [← HRJ.out]
            exact hv8.ext ((Kept.refl _ W8).alloc _)
          have hx9 : Ext w5 w9 := (hx.trans y9).trans' hk9 (fun i hi e => by have := (HO.out.lt i e).1; omega)
          refine wpList_app rfl (.tmp 58) (.tmp 60) 102 rfl rfl rfl rfl hr9 ?_
          have HO9 := Lib.hid ho9
          have HV9 := Lib.hid hv9
          clear hr9 ho9 hv9 hk9 hnt1 hnt2 j1 j2 j3
          go_wp2_with fail
          go_roundw
          case rel => exact ⟨j + 1, _, hlt, by go_num, HO9.out, HV9.out, hx9⟩
          case measure => simp only [intOf]; omega
        · (refine w4_act (fun K hK => ?_); go_simp)
          have y6a : Ext wr (w6.alloc (.cells zeroW 45)) := y6.alloc _
          have hN6 := Blk.new w6 45 zeroW
          refine hK.out _ _ (fun _ => y6a) ?_
          clear hK K
          (repeat (first | ((apply w4_pure); (· go_simp); (· (intro w1; go_simp; try with_reducible rfl)); (intro K hK; go_simp; refine hK _ _ ?_; clear hK K)) | ((apply w4_skip); (· go_simp); (intro K hK; go_simp; refine hK _ _ ?_; clear hK K))))
          (refine w4_act (fun K hK => ?_); go_simp)
          go_wp2_with fail
          refine (make_ok A6 g6 0 c6 l n HC.out.n_eq n1 n2 HC.out.iok Q1.out spc sha (some ⟨sg, 0, none⟩) sg 0 sc rm sn HSN.out (by rw [HSN.out]; exact HOKJ.out.right) (fun _ => rfl) HOKJ.out.mok _ (HC.out.ops.ext (x5.trans (hx.trans y6a))) (fun h => (Q2.out h).ext ((Kept.refl _ w6).alloc _)) (fun _ => (HSM2.out.ext y6a).row)).mono ?_
          rintro e w7 ⟨s, rfl, hsv, hx7⟩
          have y7 : Ext wr w7 := y6a.trans hx7
          refine hK.out _ _ (fun _ => y7) ?_
          clear hK K
          have hN7 := Blk.ext hN6 hx7
          have hh7 := Blk.has hN7
          have hm7 := Blk.melts hN7
          have hl7 := Blk.lt hN7
          have hg6 : wr.heap.size ≤ w6.heap.size := y6.size
          (repeat (first | ((apply w4_pure); (· go_simp); (· (intro w1; go_simp; try with_reducible rfl)); (intro K hK; go_simp; refine hK _ _ ?_; clear hK K)) | ((apply w4_skip); (· go_simp); (intro K hK; go_simp; refine hK _ _ ?_; clear hK K)) | (refine w4_end (by kernel_rfl) (fun K hK => ?_); go_simp; refine hK.out _ _ ?_; clear hK K))); refine w4_nil ?_
          have x8 : Ext wr (putAt w7 w6.heap.size 0 s.cells) := Kept.putAt y7 _ _ _ (fun h => by omega)
          have hN8 : Blk (putAt w7 w6.heap.size 0 s.cells) w6.heap.size 45 s.cells := Blk.put_ hN7 _ _
          have hv8 : StepV (putAt w7 w6.heap.size 0 s.cells) s (makeL l spc sha rm) := hsv.kept (Kept.putAt (Kept.refl (· = w6.heap.size) w7) _ _ _ (fun _ => rfl)) (fun i hi => by subst hi; exact blk_not hN7 (by decide)) (fun i hi => by subst hi; exact blk_not hN7 (by decide))
          generalize (putAt w7 w6.heap.size 0 s.cells) = W8 at x8 hN8 hv8 ⊢
          generalize (w6 : World).heap.size = p8 at hN8 ⊢
          clear hh7 hm7 hl7 hN7 hN6 hg6
          go_upto_region 10 with (fail)
          have j1 := Blk.has hN8
          have j2 := Blk.gets hN8
          have j3 := Blk.lt hN8
          go_step
          iterate 3 (refine wpList_step (fun K hK => ?_); go_simp; (try go_bits); refine hK _ _ ?_; clear hK K)
          have hsz8 := x8.size
          have y9 : Ext wr (W8.alloc (.cells s.cells 45)) := x8.alloc _
          obtain ⟨v9, w9, hr9, ho9, hk9⟩ := appWs (W8.alloc (.cells s.cells 45)) w5.heap.size u10 j ts (own_ext HO.out y9) W8.heap.size 0 1 1 [s] rfl (by rw [rowsL_one]; exact Row.of_blk (Blk.new W8 45 s.cells)) (by omega) (by simp; omega)
          have hnt1 := own_other (own_ext HO.out y9) (E' := 30) (by decide)
          have hnt2 := own_other (own_ext HO.out y9) (E' := 77) (by decide)
          have hv9 : AllV (MadeV l) w9 (ts ++ [s]) ((List.range (j + 1)).map (trajI l (pc, halt, m))) := by
            rw [List.range_succ, List.map_append]
            refine AllV.mono (w := W8.alloc (.cells s.cells 45)) (fun a b h => h.kept hk9 hnt1 hnt2) ?_
            refine (HV.out.mono (fun a b h => h.ext y9)).snoc ?_
            show MadeV l _ s (trajI l (pc, halt, m) j)
            rw [← HRJ.out]
            exact hv8.ext ((Kept.refl _ W8).alloc _)
          have hx9 : Ext w5 w9 := (hx.trans y9).trans' hk9 (fun i hi e => by have := (HO.out.lt i e).1; omega)
          refine wpList_app rfl (.tmp 58) (.tmp 60) 102 rfl rfl rfl rfl hr9 ?_
          have HO9 := Lib.hid ho9
          have HV9 := Lib.hid hv9
          clear hr9 ho9 hv9 hk9 hnt1 hnt2 j1 j2 j3
          go_wp2_with fail
          go_roundw
          case rel => exact ⟨j + 1, _, hlt, by go_num, HO9.out, HV9.out, hx9⟩
          case measure => simp only [intOf]; omega
      · (refine w4_act (fun K hK => ?_); go_simp)
        have y5a : Ext wr (wr.drew.alloc (.cells zeroW 45)) := y.alloc _
        have hN6 : Blk (wr.drew.alloc (.cells zeroW 45)) wr.heap.size 45 zeroW := Blk.new wr.drew 45 zeroW
        refine hK.out _ _ (fun _ => y5a) ?_
        clear hK K
        (repeat (first | ((apply w4_pure); (· go_simp); (· (intro w1; go_simp; try with_reducible rfl)); (intro K hK; go_simp; refine hK _ _ ?_; clear hK K)) | ((apply w4_skip); (· go_simp); (intro K hK; go_simp; refine hK _ _ ?_; clear hK K))))
        (refine w4_act (fun K hK => ?_); go_simp)
        go_wp2_with fail
        refine (owncode_any (some ⟨b, off, none⟩) b off cap l n HC.out.n_eq (by omega) (fun _ => rfl) _ (fun _ => HC.out.row.ext (x5.trans (hx.trans y5a)))).mono ?_
        rintro e w6 ⟨v6, rfl, ho6, hx6⟩
        obtain ⟨A6, g6, c6, rfl, q1, q2, -⟩ := own_I ho6
        have y6 : Ext wr w6 := y5a.trans hx6
        refine hK.out _ _ (fun _ => y6) ?_
        clear hK K ho6
        have Q1 := Lib.hid q1
        have Q2 := Lib.hid q2
        clear q1 q2
        (repeat (first | ((apply w4_pure); (· go_simp); (· (intro w1; go_simp; try with_reducible rfl)); (intro K hK; go_simp; refine hK _ _ ?_; clear hK K)) | ((apply w4_skip); (· go_simp); (intro K hK; go_simp; refine hK _ _ ?_; clear hK K))))
        (refine w4_act (fun K hK => ?_); go_simp)
        go_wp2_with fail
        refine (make_ok A6 g6 0 c6 l n HC.out.n_eq n1 n2 HC.out.iok Q1.out spc sha (some ⟨sg, 0, none⟩) sg 0 sc rm sn HSN.out (by rw [HSN.out]; exact HOKJ.out.right) (fun _ => rfl) HOKJ.out.mok _ (HC.out.ops.ext (x5.trans (hx.trans y6))) Q2.out (fun _ => (HSM2.out.ext y6).row)).mono ?_
        rintro e w7 ⟨s, rfl, hsv, hx7⟩
        have y7 : Ext wr w7 := y6.trans hx7
        refine hK.out _ _ (fun _ => y7) ?_
        clear hK K
        have hN7 := Blk.ext (Blk.ext hN6 hx6) hx7
        have hh7 := Blk.has hN7
        have hm7 := Blk.melts hN7
        have hl7 := Blk.lt hN7
        (repeat (first | ((apply w4_pure); (· go_simp); (· (intro w1; go_simp; try with_reducible rfl)); (intro K hK; go_simp; refine hK _ _ ?_; clear hK K)) | ((apply w4_skip); (· go_simp); (intro K hK; go_simp; refine hK _ _ ?_; clear hK K)) | (refine w4_end (by kernel_rfl) (fun K hK => ?_); go_simp; refine hK.out _ _ ?_; clear hK K))); refine w4_nil ?_
        have x8 : Ext wr (putAt w7 wr.heap.size 0 s.cells) := Kept.putAt y7 _ _ _ (fun h => by omega)
        have hN8 : Blk (putAt w7 wr.heap.size 0 s.cells) wr.heap.size 45 s.cells := Blk.put_ hN7 _ _
        have hv8 : StepV (putAt w7 wr.heap.size 0 s.cells) s (makeL l spc sha rm) := hsv.kept (Kept.putAt (Kept.refl (· = wr.heap.size) w7) _ _ _ (fun _ => rfl)) (fun i hi => by subst hi; exact blk_not hN7 (by decide)) (fun i hi => by subst hi; exact blk_not hN7 (by decide))
        generalize (putAt w7 wr.heap.size 0 s.cells) = W8 at x8 hN8 hv8 ⊢
        obtain ⟨p8, hp8⟩ : ∃ p8, p8 = wr.heap.size := ⟨_, rfl⟩
        rw [← hp8] at hN8 ⊢
        clear hh7 hm7 hl7 hN7 hN6 hp8
        go_upto_region 10 with (fail)
        have j1 := Blk.has hN8
        have j2 := Blk.gets hN8
        have j3 := Blk.lt hN8
        go_step
        iterate 3 (refine wpList_step (fun K hK => ?_); go_simp; (try go_bits); refine hK _ _ ?_; clear hK K)
        have hsz8 := x8.size
        have y9 : Ext wr (W8.alloc (.cells s.cells 45)) := x8.alloc _
        obtain ⟨v9, w9, hr9, ho9, hk9⟩ := appWs (W8.alloc (.cells s.cells 45)) w5.heap.size u10 j ts (own_ext HO.out y9) W8.heap.size 0 1 1 [s] rfl (by rw [rowsL_one]; exact Row.of_blk (Blk.new W8 45 s.cells)) (by omega) (by simp; omega)
        have hnt1 := own_other (own_ext HO.out y9) (E' := 30) (by decide)
        have hnt2 := own_other (own_ext HO.out y9) (E' := 77) (by decide)
        have hv9 : AllV (MadeV l) w9 (ts ++ [s]) ((List.range (j + 1)).map (trajI l (pc, halt, m))) := by
          rw [List.range_succ, List.map_append]
          refine AllV.mono (w := W8.alloc (.cells s.cells 45)) (fun a b h => h.kept hk9 hnt1 hnt2) ?_
          refine (HV.out.mono (fun a b h => h.ext y9)).snoc ?_
          show MadeV l _ s (trajI l (pc, halt, m) j)
          rw [← HRJ.out]
          exact hv8.ext ((Kept.refl _ W8).alloc _)
        have hx9 : Ext w5 w9 := (hx.trans y9).trans' hk9 (fun i hi e => by have := (HO.out.lt i e).1; omega)
        refine wpList_app rfl (.tmp 58) (.tmp 60) 102 rfl rfl rfl rfl hr9 ?_
        have HO9 := Lib.hid ho9
        have HV9 := Lib.hid hv9
        clear hr9 ho9 hv9 hk9 hnt1 hnt2 j1 j2 j3
        go_wp2_with fail
        go_roundw
        case rel => exact ⟨j + 1, _, hlt, by go_num, HO9.out, HV9.out, hx9⟩
        case measure => simp only [intOf]; omega
    · have ej : j = 17 := by omega
      subst ej
      obtain ⟨g10, c10, hu10, hrow10, hbg10, hty10⟩ := own_rows HO.out (by omega) (by omega)
      subst hu10
      have hSA : StepsAt wr l (pc, halt, m) g10 17 ts := ⟨hrow10, hty10, HV.out⟩
      have HSA := Lib.hid hSA
      have hlen := HV5.out.len
      simp only [List.length_map, List.length_range] at hlen
      have hrow := HR5.out.ext hx
      obtain ⟨h0h, h0g⟩ := rowsL_row sm_size hrow 0 (by omega)
      obtain ⟨h1h, h1g⟩ := rowsL_row sm_size hrow 1 (by omega)
      have hs0 := (HV5.out.get 0 (by omega) (by simp)).ext hx
      have hs1 := (HV5.out.get 1 (by omega) (by simp)).ext hx
      simp only [List.getElem_map, List.getElem_range] at hs0 hs1
      simp only [Nat.zero_add, Nat.zero_mul, Nat.one_mul] at h0h h0g h1h h1g
      obtain ⟨s0, hse0⟩ : ∃ s0, s0 = ss[0] := ⟨_, rfl⟩
      obtain ⟨s1, hse1⟩ : ∃ s1, s1 = ss[1] := ⟨_, rfl⟩
      rw [← hse0] at h0g hs0
      rw [← hse1] at h1g hs1
      have hok0 := (HOKT.out 0).1
      have hok1 := (HOKT.out 1).1
      obtain ⟨r0, hr0⟩ : ∃ r0, r0 = trajI l (pc, halt, m) 0 := ⟨_, rfl⟩
      obtain ⟨r1, hr1⟩ : ∃ r1, r1 = trajI l (pc, halt, m) 1 := ⟨_, rfl⟩
      rw [← hr0] at hs0 hok0
      rw [← hr1] at hs1 hok1
      obtain ⟨pc0, ha0, m0⟩ := r0
      obtain ⟨pc1, ha1, m1⟩ := r1
      obtain ⟨spc0, sha0, sg0, sn0, sc0⟩ := s0
      obtain ⟨spc1, sha1, sg1, sn1, sc1⟩ := s1
      obtain ⟨e01, e02, e03, bs0, e04⟩ := hs0
      obtain ⟨e11, e12, e13, bs1, e14⟩ := hs1
      simp only at e01 e02 e03 e04 e11 e12 e13 e14 hok0 hok1 h0g h1g
      subst e01 e02 e11 e12
      have HL0 := Lib.hid e03
      have HL1 := Lib.hid e13
      have HM0 := Lib.hid e04
      have HM1 := Lib.hid e14
      have HK0 := Lib.hid hok0
      have HK1 := Lib.hid hok1
      have hgl := hrow.lt
      have hP := Blk.ext hP5 hx
      have h5s := hx.size
      clear hrow10 hty10 hSA HO HV hlen hrow hse0 hse1 hr0 hr1 e03 e13 e04 e14 hok0 hok1
      obtain ⟨D0, hD0⟩ : ∃ D0, D0 = stateR spc0 sha0 m0 := ⟨_, rfl⟩
      obtain ⟨D1, hD1⟩ : ∃ D1, D1 = stateR spc1 sha1 m1 := ⟨_, rfl⟩
      have HD0 := Lib.hid hD0
      have HD1 := Lib.hid hD1
      clear hD0 hD1
      go_wp2_with fail
      have hws := wstate_ok spc0 sha0 (some ⟨sg0, 0, none⟩) sg0 0 sc0 m0 sn0 HL0.out (by rw [HL0.out]; exact HK0.out.right) (fun _ => rfl) wr (fun _ => HM0.out.row)
      rw [← HD0.out] at hws
      refine hws.mono ?_
      rintro e w6 ⟨rfl, hx6⟩
      clear hws
      go_upto_region 12 with (fail)
      have x7 : Ext wr (w6.alloc (.cells D0.cells 30)) := hx6.alloc _
      have hF7 := Blk.new w6 30 D0.cells
      generalize (w6.alloc (.cells D0.cells 30)) = W7 at x7 hF7 ⊢
      generalize (w6 : World).heap.size = fb at hF7 ⊢
      have j1 := has_ext x7 hgl h1h
      have j2 := gets_ext x7 hgl h1g
      have j3 := Nat.lt_of_lt_of_le hgl x7.size
      clear h0h h0g h1h h1g hx6
      go_wp2_with fail
      have hws := wstate_ok spc1 sha1 (some ⟨sg1, 0, none⟩) sg1 0 sc1 m1 sn1 HL1.out (by rw [HL1.out]; exact HK1.out.right) (fun _ => rfl) W7 (fun _ => (HM1.out.ext x7).row)
      rw [← HD1.out] at hws
      refine hws.mono ?_
      rintro e w8 ⟨rfl, hx8⟩
      clear hws j1 j2 j3
      go_upto_region 13 with (fail)
      have x9 : Ext wr (w8.alloc (.cells D1.cells 30)) := (x7.trans hx8).alloc _
      have hL9 := Blk.new w8 30 D1.cells
      have hF9 := Blk.alloc (Blk.ext hF7 hx8) (.cells D1.cells 30)
      generalize (w8.alloc (.cells D1.cells 30)) = W9 at x9 hL9 hF9 ⊢
      generalize (w8 : World).heap.size = lb at hL9 ⊢
      have hC9 := Blk.ext hC x9
      have hP9 := Blk.ext hP x9
      have xx9 : Ext w W9 := (x5.trans hx).trans x9
      have hSA9 := HSA.out.ext x9
      have HSA9 := Lib.hid hSA9
      clear hC hP hC5 hP5 hF7 hx8 x7 x9 HSA HM0 HM1 hSA9
      have i1 := Blk.has hP9
      have i2 := Blk.gets hP9
      have i3 := hP9.lt
      have i4 := Blk.cell hC9
      have i5 := hC9.lt
      have i6 := Blk.has hF9
      have i7 := Blk.gets hF9
      have i8 := hF9.lt
      have i9 := Blk.has hL9
      have i10 := Blk.gets hL9
      have i11 := hL9.lt
      by_cases hd : 0 ≤ depth ∧ depth ≤ 20
      · obtain ⟨hd0, hd1⟩ := hd
        go_wp2_with fail
        refine (new_ok C D0 D1 n depth hd0 hd1 (by omega) (by omega) _).mono ?_
        rintro e w10 ⟨g, hg, rfl, hA10, hx10⟩
        have hC10 := Blk.ext hC9 hx10
        have hF10 := Blk.ext hF9 hx10
        have hL10 := Blk.ext hL9 hx10
        clear i1 i2 i3 i4 i5 i6 i7 i8 i9 i10 i11
        have i4 := Blk.cell hC10
        have i5 := hC10.lt
        have i6 := Blk.has hF10
        have i7 := Blk.gets hF10
        have i8 := hF10.lt
        have i9 := Blk.has hL10
        have i10 := Blk.gets hL10
        have i11 := hL10.lt
        go_wp2_with fail
        refine (rnew_ok D0 D1 n depth hd0 hd1 (by omega) (by omega) _).mono ?_
        rintro e w11 ⟨rfl, hx11⟩
        clear i4 i5 i6 i7 i8 i9 i10 i11
        obtain ⟨P2, hP2⟩ : ∃ P2 : Int, P2 = 2 ^ depth.toNat := ⟨_, rfl⟩
        rw [← hP2] at hA10 ⊢
        have HP2 := Lib.hid hP2
        clear hP2
        go_upto_region 15 with (fail)
        have x12 : Ext W9 (w11.alloc (.cells (Rt.cells ⟨0, P2, D0, D1, false, Dg.zero, -1⟩) 49)) := (hx10.trans hx11).alloc _
        have hT12 := Blk.new w11 49 (Rt.cells ⟨0, P2, D0, D1, false, Dg.zero, -1⟩)
        have hA12 := Blk.alloc (Blk.ext hA10 hx11) (.cells (Rt.cells ⟨0, P2, D0, D1, false, Dg.zero, -1⟩) 49)
        have hgc : g < w11.heap.size := Blk.lt (Blk.ext hA10 hx11)
        have hcw : W9.heap.size ≤ w11.heap.size := (hx10.trans hx11).size
        generalize (w11.alloc (.cells (Rt.cells ⟨0, P2, D0, D1, false, Dg.zero, -1⟩) 49)) = W12 at x12 hT12 hA12 ⊢
        generalize (w11 : World).heap.size = tb at hT12 hgc hcw ⊢
        clear hA10 hx10 hx11 hC10 hF10 hL10 hF9 hL9
        go_wp2_with fail
        go_loopw [22] (fun t22 wr => ∃ (i : Nat) (r : Rt) (mm : Int), i ≤ len ∧ t22 = .int .i64 i ∧ EInv depth.toNat (r.tr C n) mm ∧ At wr g (r.tr C n) ∧ Blk wr tb 49 r.cells ∧ Ext W9 wr) (fun t22 _ => len - (intOf t22).toNat)
        case atStart => exact ⟨0, ⟨0, P2, D0, D1, false, Dg.zero, -1⟩, 0, Nat.zero_le _, rfl, by rw [HP2.out]; exact EInv.start _ _ _ _ _ _, At.of hA12 (by rfl), hT12, x12⟩
        case round =>
          obtain ⟨i, r, mm, hi, rfl, hE, hAt, hTt, hxt⟩ := hrel
          clear hA12 hT12 x12
          have HE := Lib.hid hE
          clear hE
          by_cases hlt : i < len
          · have hwr := HD.out.whatR i hlt
            have hlr := HL.out i hlt
            obtain rfl := HA2.out (by omega)
            have hD2 := HD.out.keep (xx9.trans hxt)
            have hdh := hD2.has_ i hlt
            have hdg := hD2.get_ i hlt
            have hdl := hD2.lt (by omega)
            have hCt := Blk.ext hC9 hxt
            have hPt := Blk.ext hP9 hxt
            have hltI : (i : Int) < len := by omega
            have hi0 : (0 : Int) ≤ i := by omega
            clear hD2
            go_upto_region 20 with (fail)
            refine wp_region_3 (fun w2 => Ext wr w2) [(0, 2), (1, 2), (2, 2), (3, 2), (4, 1), (5, 1), (6, 2), (7, 1), (8, 2), (9, 2), (10, 0), (11, 2)] (by kernel_rfl) (by kernel_rfl) (by kernel_rfl) (by kernel_rfl) ?_; intro l' hl'; simp only [List.map_cons, List.map_nil, List.getD_cons_zero, List.getD_cons_succ] at hl'; subst hl'
            (repeat (first | ((apply w3_pure); (· go_simp); (· (intro w1; go_simp; try with_reducible rfl)); (intro K hK; go_simp; refine hK _ _ ?_; clear hK K)) | ((apply w3_skip); (· go_simp); (intro K hK; go_simp; refine hK _ _ ?_; clear hK K)) | ((apply w3_take); (· exact (Kept.drew (Kept.refl _ _))); (· go_simp); (· (intro w1 hS; have d1 := Blk.cell (Blk.ext hCt hS); have d2 := (Blk.ext hCt hS).lt; have d3 := has_ext hS hdl hdh; have d4 := gets_ext hS hdl hdg; have d5 := Nat.lt_of_lt_of_le hdl hS.size; have d6 := Blk.has (Blk.ext hPt hS); have d7 := Blk.gets (Blk.ext hPt hS); have d8 := (Blk.ext hPt hS).lt;  go_simp; try with_reducible rfl)); (intro K hK; go_simp; refine hK _ _ ?_; clear hK K)) | ((apply w3_pass); (· exact (Kept.drew (Kept.refl _ _))); (· go_simp); (intro K hK; go_simp; refine hK _ _ ?_; clear hK K))))
            have yW : Ext wr wr.drew := (Kept.refl _ wr).drew
            (refine w3_end (by kernel_rfl) (fun K hK => ?_); go_simp)
            go_wp2_with fail
            have hdo := do_acts (K := depth.toNat) (by omega) g tb (by omega) r l n HC.out.n_eq n1 n2 HC.out.iok (pc, halt, m) HC.out.okay (what i) (dg i) (first i) (last i) g10 c10 ts wr.drew (HC.out.ops.ext (xx9.trans (hxt.trans yW))) (by rw [← HCE.out]; exact Blk.ext hAt yW) (Blk.ext hTt yW) hwr.1 hwr.2 hlr.1 hlr.2 (by rw [← HCE.out]; exact HE.out) (HSA9.out.ext (hxt.trans yW))
            rw [← HCE.out] at hdo
            refine hdo.mono ?_
            rintro e w13 ⟨r', m', rfl, hA13, hT13, hx13, hE13⟩
            refine hK.out _ _ ?_
            clear hK K hdo
            (repeat (first | ((apply w3_pure); (· go_simp); (· (intro w1; go_simp; try with_reducible rfl)); (intro K hK; go_simp; refine hK _ _ ?_; clear hK K)) | ((apply w3_skip); (· go_simp); (intro K hK; go_simp; refine hK _ _ ?_; clear hK K)) | (refine w3_end (by kernel_rfl) (fun K hK => ?_); go_simp; refine hK.out _ _ ?_; clear hK K))); refine w3_nil ?_
            have HE13 := Lib.hid hE13
            clear hE13 HE
            go_wp2_with fail
            go_roundw
            case rel => exact ⟨i + 1, r', m', hlt, by go_num, HE13.out, hA13, hT13, (hxt.trans yW).trans' hx13 (fun i hi he => by omega)⟩
            case measure => simp only [intOf]; omega
          · have hlt' : ¬ (i : Int) < len := by omega
            go_wp2_with fail
            refine (told_any _).mono ?_
            rintro e w13 ⟨rfl, hx13⟩
            go_wp2_with fail
            go_ret
            exact ⟨rfl, (xx9.trans hxt).trans hx13⟩
      · have hd' : depth < 0 ∨ 20 < depth := by omega
        have HDD := Lib.hid hd'
        clear hd hd'
        go_wp2_with fail
        refine (new_no C D0 D1 n depth (.inr (.inr HDD.out)) _).mono ?_
        rintro e w10 ⟨rfl, hx10⟩
        have hC10 := Blk.ext hC9 hx10
        have hF10 := Blk.ext hF9 hx10
        have hL10 := Blk.ext hL9 hx10
        clear i1 i2 i3 i4 i5 i6 i7 i8 i9 i10 i11
        have i4 := Blk.cell hC10
        have i5 := hC10.lt
        have i6 := Blk.has hF10
        have i7 := Blk.gets hF10
        have i8 := hF10.lt
        have i9 := Blk.has hL10
        have i10 := Blk.gets hL10
        have i11 := hL10.lt
        go_wp2_with fail
        refine (rnew_no D0 D1 n depth (by omega) (by omega) HDD.out _).mono ?_
        rintro e w11 ⟨rfl, hx11⟩
        clear i4 i5 i6 i7 i8 i9 i10 i11
        go_upto_region 15 with (fail)
        have x12 : Ext W9 (w11.alloc (.cells (Rt.cells ⟨0, 0, Dg.zero, Dg.zero, false, Dg.zero, 0⟩) 49)) := (hx10.trans hx11).alloc _
        generalize (w11.alloc (.cells (Rt.cells ⟨0, 0, Dg.zero, Dg.zero, false, Dg.zero, 0⟩) 49)) = W12 at x12 ⊢
        go_wp2_with fail
        go_loopw [22] (fun t22 wr => t22 = .int .i64 0 ∧ Ext W9 wr) (fun _ _ => 0)
        case atStart => exact ⟨rfl, x12⟩
        case round =>
          obtain ⟨rfl, hxt⟩ := hrel
          by_cases hlt : 0 < len
          all_goals
            go_wp2_with fail
            refine (told_any _).mono ?_
            rintro e w13 ⟨rfl, hx13⟩
            go_wp2_with fail
            go_ret
            exact ⟨rfl, (xx9.trans hxt).trans hx13⟩
end Go.Proofs.YtahljceanodhkaaGreatDoor

/- The table of operations that the program's text lays: where the walks read it. -/
namespace Go.Proofs.YtahljceanodhkaaGreatDoor
open Go.RowKit Go.ChangeShapes Go.WideShapes Go.ChangeAt
/-- what laid_baize_code_operations says of operation k -/
def opD (k : Nat) : Option (List UInt8) := match (Rows.laid_baize_code_operations : DataW Unit) with
  | .agg l => match l[k]? with | some (.agg [_, .lit (.string s)]) => some s | _ => none
  | _ => none
theorem opD_all : ∀ k, k < 22 → opD k = some (hasN k) := by decide
theorem opsAt_of {w : World} {cs : Array Value} {fuel : Nat} {p : List MemPlace} {enc : TypeId × Value → Unit} {held : Bool} (hv : w.var? Tryz.prog "baize/code.operations" = some cs) (h : DataW.trod enc Tryz.prog w 0 (fun _ => true) held fuel 275 cs.toList = some (Rows.laid_baize_code_operations, p)) : OpsAt w := by
  obtain ⟨xs, m, rfl, hx, hl, hn, hall⟩ := DataW.trod_array Tryz.underlying275 h
  have hD : (Rows.laid_baize_code_operations : DataW Unit) = .agg (xs.map (·.1)) := congrArg Prod.fst hx
  have hce : Tryz.prog.cellsOf 274 = 2 := by kernel_rfl
  have hct : Tryz.prog.cellsOf 9 = 1 := by kernel_rfl
  have key : ∀ k, k < 22 → cs[k * 2 + 1]? = some (.string (hasS k)) := fun k hk => by
    have h1 := hall k hk
    rw [hce] at h1
    have hxk : xs[k]? = some xs[k] := List.getElem?_eq_getElem (by omega)
    rw [hxk] at h1
    obtain ⟨y0, y1, n', e1, _, _, e2⟩ := trod_struct2 Tryz.underlying274 h1
    obtain ⟨s, e3, e4, _⟩ := DataW.trod_string Tryz.underlying9 e2
    have h2 := opD_all k hk
    unfold opD at h2
    rw [hD] at h2
    simp only [List.getElem?_map, hxk, Option.map_some, e1, e4, Option.some.injEq] at h2
    rw [hct] at e3
    have e5 := congrArg (·[0]?) e3
    simp [List.getElem?_take, List.getElem?_drop] at e5
    rw [e5]
    unfold hasS
    rw [← h2]
  have hg : Tryz.prog.globalNamed "baize/code.operations" = some 0 := by kernel_rfl
  have hcell := fun i => World.var?_cell hg hv i
  have hat : ∀ k, k < 22 → w.cell? ⟨0, k * 2 + 1, none⟩ = some (.string (hasS k)) := fun k hk => (hcell _).trans (key k hk)
  refine ⟨?_, hat⟩
  rcases Nat.lt_or_ge 0 w.heap.size with h0 | h0
  · exact h0
  · have := hat 0 (by omega)
    unfold World.cell? at this
    rw [Array.getElem?_eq_none h0] at this
    cases this
theorem opsAt_laid {w : World} (h : laidMetH Tryz.prog Rows.witnessSmallRow.laid w) : OpsAt w := by
  have h' : laidMet Tryz.prog Rows.witnessSmallRow.laid w := h
  obtain ⟨ps, ⟨_, _, _, _, _, _, _, _, _, _, ⟨_, _, _, _, _, _, _, _, _, _, ⟨_, _, _, _, _, _, _, _, _, _, ⟨g, t, cs, fuel, p, q, hg, ht, hv, hd, _, _⟩, _⟩, _⟩, _⟩, _⟩ := h'
  have hg' : Tryz.prog.globalNamed "baize/code.operations" = some 0 := by kernel_rfl
  obtain rfl := Option.some.inj (hg'.symm.trans hg)
  have ht' : (Tryz.prog.globals[0]?).map (·.type) = some 275 := by kernel_rfl
  obtain rfl := Option.some.inj (ht'.symm.trans ht)
  exact opsAt_of hv hd
end Go.Proofs.YtahljceanodhkaaGreatDoor

/- HalveActs, of all that may come in. -/
namespace Go.Proofs.YtahljceanodhkaaGreatDoor
open Go.RowKit Go.ChangeShapes Go.WideShapes
section
variable {H : Type} {enc : TypeId × Value → H} {w : World} {base : Nat} {spare : Nat → Bool} {held : Bool}
theorem cellsCo : Tryz.prog.cellsOf 99 = 4 := by kernel_rfl
theorem cellsIs : Tryz.prog.cellsOf 58 = 1 := by kernel_rfl
set_option maxRecDepth 100000 in
/-- a course that came in -/
theorem course_of {fuel : Nat} {cs : List Value} {x : DataW H × List MemPlace} (h : DataW.trod enc Tryz.prog w base spare held fuel 99 cs = some x) :
    ∃ (A : Option Addr) (b off n cap : Nat) (l : List Ins) (pc halt : Int) (A' : Option Addr) (b' off' k cap' : Nat) (m : List Int), cs = (courseC A n cap pc A' k cap' halt).toList ∧ (0 < n → A = some ⟨b, off, none⟩) ∧ n = l.length ∧ (0 < n → Row w b off (inss l)) ∧ (∀ i ∈ l, i.ok) ∧
      (0 < k → A' = some ⟨b', off', none⟩) ∧ k = m.length ∧ (0 < k → Row w b' off' (mems m)) ∧ (∀ i ∈ m, i32ok i) := by
  obtain ⟨xs, n, _, _, hl, hxl, hf⟩ := DataW.trod_struct Tryz.underlying99 h
  rw [cellsCo] at hl
  have h0 : DataW.trod enc Tryz.prog w base spare held n 58 ((cs.drop 0).take (Tryz.prog.cellsOf 58)) = xs[0]? := hf 0 _ rfl
  have h1 : DataW.trod enc Tryz.prog w base spare held n 61 ((cs.drop 1).take (Tryz.prog.cellsOf 61)) = xs[1]? := hf 1 _ rfl
  rw [cellsIs] at h0
  rw [cellsSt] at h1
  have hx2 : xs.length = 2 := hxl
  obtain ⟨y0, k0⟩ := field_at (T := 0) (by omega) h0
  obtain ⟨y1, k1⟩ := field_at (T := 0) (by omega) h1
  match cs, hl with
  | [c0, c1, c2, c3], _ =>
    obtain ⟨A, b, off, n, cap, l, e0, hA, hn, hr, hok, _, _⟩ := inss_of k0
    obtain ⟨pc, halt, A', b', off', k, cap', m, e1, hpc, hha, hA', hk, hr', hmok, _, _⟩ := state_of k1
    simp at e0 e1
    obtain ⟨rfl, rfl, rfl⟩ := e1
    subst e0
    exact ⟨A, b, off, n, cap, l, pc, halt, A', b', off', k, cap', m, rfl, hA, hn, hr, hok, hA', hk, hr', hmok⟩
end
theorem opsAt_laid_of {laid : List (String × DataW Unit)} {w : World} (hl : laid = Rows.witnessSmallRow.laid) (h : laidMetH Tryz.prog laid w) : OpsAt w := by
  subst hl
  exact opsAt_laid h
namespace halveActs
set_option maxRecDepth 100000 in
theorem walk {H : Type} {enc : TypeId × Value → H} (W : World) (base : Nat) (v0 v1 v2 : Value) (d0 d1 d2 : DataW H) (p0 p1 p2 : List MemPlace)
    (o0 : Value.okWide Tryz.prog W .any base 99 v0) (o1 : Value.okWide Tryz.prog W .any base 3 v1) (o2 : Value.okWide Tryz.prog W .any base 22 v2)
    (h0 : DataW.Trod enc Tryz.prog W 0 (fun _ => true) true 99 v0 d0 p0) (h1 : DataW.Trod enc Tryz.prog W 0 (fun _ => true) true 3 v1 d1 p1) (h2 : DataW.Trod enc Tryz.prog W 0 (fun _ => true) true 22 v2 d2 p2) (hL : laidMetH Tryz.prog Rows.halveActsRow.laid W) :
    Calls Tryz.prog 10 #[v0, v1, v2] W fun e w' => e = .returned (.bool true) ∧ Ext W w' := by
  obtain ⟨depth, rfl, rfl, rfl, w0⟩ := open_int Tryz.underlying3 o1 h1
  obtain ⟨A2, len, cap2, rfl⟩ := okWide_slice Tryz.underlying22 o2
  obtain ⟨cs, rfl⟩ : ∃ cs, v0 = .agg cs := by
    simp only [Value.okWide, Tryz.underlying99] at o0
    obtain ⟨cs, h1, _⟩ := o0
    exact ⟨cs, h1⟩
  obtain ⟨fuel, hf⟩ := h0
  obtain ⟨A, b, off, n, cap, l, pc, halt, A', b', off', k, cap', m, e, hA, hn, hr, hok, hA', hk, hr', hmok⟩ := course_of hf
  obtain rfl : cs = courseC A n cap pc A' k cap' halt := by
    cases cs
    simpa [Value.cells] using e
  obtain ⟨fuel', hf'⟩ := h2
  obtain ⟨A2', b2, off2, len', cap2', what, dg, first, last, e2, hA2, hD, hlast, hm⟩ := deeds_last hf'
  simp at e2
  obtain ⟨rfl, rfl, rfl⟩ := e2
  by_cases hs : smallC n k pc halt = true ∧ len ≤ 40
  · obtain ⟨hs1, hs2⟩ := hs
    have hs3 := hs1
    simp [smallC] at hs3
    obtain ⟨⟨⟨n1, n2⟩, k2⟩, hright⟩ := hs3
    obtain ⟨k1, _⟩ := rightS_inv hright
    obtain rfl := hA' k1
    exact acts_walk A b off n cap l pc halt b' off' k cap' m depth A2 b2 off2 len cap2 what dg first last W ⟨hA n1, hr n1, hn, n1, by omega, hok, hk, hright, hmok, hr' k1, opsAt_laid_of rfl hL⟩ hs1 hs2 hA2 hD hlast
  · refine acts_not A n cap pc A' k cap' halt depth A2 len cap2 W hm ?_
    cases hb : smallC n k pc halt
    · exact .inl rfl
    · exact .inr (by have : ¬ len ≤ 40 := fun h => hs ⟨hb, h⟩; omega)
end halveActs
end Go.Proofs.YtahljceanodhkaaGreatDoor
