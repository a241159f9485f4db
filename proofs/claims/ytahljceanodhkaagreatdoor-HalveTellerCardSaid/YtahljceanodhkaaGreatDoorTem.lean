/- Several texts joined: Xf, Ye, Yf, Zc, Ww, Zd. -/
import Derived.OpenShut
import Derived.ChangeArms
import Derived.ChangeSame
import Derived.Lib.LaidTab
import Derived.Test.YtahljceanodhkaaGreatDoorTel
/- Package witness: After and Check of a step that was made, whole. -/
namespace Go.Proofs.YtahljceanodhkaaGreatDoor
open Go.RowKit
theorem dgN_true {H B : Dg} (h : dgB H B = false) : (!H.x0 == B.x0 || (!H.x1 == B.x1 || (!H.x2 == B.x2 || (!H.x3 == B.x3 || (!H.x4 == B.x4 || (!H.x5 == B.x5 || (!H.x6 == B.x6 || !H.x7 == B.x7))))))) = true := by
  unfold dgB at h
  rw [← Bool.not_eq_true'] at h
  simpa [Bool.not_and] using h
set_option maxRecDepth 100000 in
set_option maxHeartbeats 2000000 in
theorem after_other (s : Ws) (p B : Dg) (size : Int) (w : World) (hm : s.mem.ok) (hs1 : 1 ≤ size) (hs2 : size ≤ 2048) (hr : rightS s.pc s.halt s.words = true) (hne : dgB (hHead s.pc s.halt s.words s.mem) B = false) :
    Calls Tryz.prog 37 #[.agg #[.int .u8 p.x0, .int .u8 p.x1, .int .u8 p.x2, .int .u8 p.x3, .int .u8 p.x4, .int .u8 p.x5, .int .u8 p.x6, .int .u8 p.x7], .int .i64 size, .agg B.cells, .agg s.cells] w fun e w' => e = .returned (.tuple #[.agg Dg.zero.cells, .int .i64 23]) ∧ Ext w w' := by
  obtain ⟨h1, h2, h3, h4, h5, h6⟩ : 1 ≤ s.words ∧ s.words ≤ 256 ∧ 0 ≤ s.pc ∧ s.pc ≤ 2048 ∧ 0 ≤ s.halt ∧ s.halt ≤ 2 := by
    simp [rightS] at hr
    omega
  have HM := Lib.hid hm
  have HR := Lib.hid hr
  clear hm hr
  obtain ⟨H, hH⟩ : ∃ H, H = hHead s.pc s.halt s.words s.mem := ⟨_, rfl⟩
  rw [← hH] at hne
  have HH := Lib.hid hH
  have HNE := Lib.hid hne
  clear hH hne
  have hx0 : Ext w _ := ((((Kept.refl _ w).alloc (.cells #[.int .u8 p.x0, .int .u8 p.x1, .int .u8 p.x2, .int .u8 p.x3, .int .u8 p.x4, .int .u8 p.x5, .int .u8 p.x6, .int .u8 p.x7] 30)).alloc (.cells B.cells 30)).alloc (.cells s.cells 45)).alloc (.cells Dg.zero.cells 30)
  have hB0 : Blk _ (w.heap.size + 1) 30 B.cells := Blk.alloc (Blk.alloc (Blk.new' (w.alloc (.cells #[.int .u8 p.x0, .int .u8 p.x1, .int .u8 p.x2, .int .u8 p.x3, .int .u8 p.x4, .int .u8 p.x5, .int .u8 p.x6, .int .u8 p.x7] 30)) _ B.cells _ (by simp)) (.cells s.cells 45)) (.cells Dg.zero.cells 30)
  have hS0 : Blk _ (w.heap.size + 1 + 1) 45 s.cells := Blk.alloc (Blk.new' ((w.alloc (.cells #[.int .u8 p.x0, .int .u8 p.x1, .int .u8 p.x2, .int .u8 p.x3, .int .u8 p.x4, .int .u8 p.x5, .int .u8 p.x6, .int .u8 p.x7] 30)).alloc (.cells B.cells 30)) _ s.cells _ (by simp)) (.cells Dg.zero.cells 30)
  have hR0 : Blk _ (w.heap.size + 1 + 1 + 1) 30 Dg.zero.cells := Blk.new' (((w.alloc (.cells #[.int .u8 p.x0, .int .u8 p.x1, .int .u8 p.x2, .int .u8 p.x3, .int .u8 p.x4, .int .u8 p.x5, .int .u8 p.x6, .int .u8 p.x7] 30)).alloc (.cells B.cells 30)).alloc (.cells s.cells 45)) _ _ _ (by simp)
  go_enter Tryz.func37, Tryz.ntmps37
  go_wp2_with fail
  refine (sright_any s _).mono ?_
  rintro e w1 ⟨rfl, hx1⟩
  rw [HR.out]
  have y1 := hx0.trans hx1
  have hB1 := Blk.ext hB0 hx1
  have hS1 := Blk.ext hS0 hx1
  have hR1 := Blk.ext hR0 hx1
  clear hx0 hx1 hB0 hS0 hR0
  have hlS := Blk.lt hS1
  have hlR := Blk.lt hR1
  go_wp2_with fail
  refine wp_region_3 (fun w2 => Ext w1 w2) [(0, 2), (1, 1), (2, 2), (3, 1), (4, 2), (5, 1), (6, 2), (7, 1), (9, 1), (8, 0), (10, 2)] (by kernel_rfl) (by kernel_rfl) (by kernel_rfl) (by kernel_rfl) ?_; intro l' hl'; simp only [List.map_cons, List.map_nil, List.getD_cons_zero, List.getD_cons_succ] at hl'; subst hl'
  (repeat (first | ((apply w3_pure); (· go_simp); (· (intro w1; go_simp; try with_reducible rfl)); (intro K hK; go_simp; refine hK _ _ ?_; clear hK K)) | ((apply w3_skip); (· go_simp); (intro K hK; go_simp; refine hK _ _ ?_; clear hK K)) | ((apply w3_take); (· exact (Kept.drew (Kept.refl _ _))); (· go_simp); (· (intro w1 hS; have d1 := Blk.ext hS1 hS; have d2 := Blk.ext hB1 hS; have d3 := Blk.cell d1; have d4 := Blk.has d1; have d5 := Blk.gets d1; have d6 := Blk.has d2; have d7 := Blk.gets d2;  go_simp; try with_reducible rfl)); (intro K hK; go_simp; refine hK _ _ ?_; clear hK K)) | ((apply w3_pass); (· exact (Kept.drew (Kept.refl _ _))); (· go_simp); (intro K hK; go_simp; refine hK _ _ ?_; clear hK K))))
  (refine w3_act (fun K hK => ?_); go_simp)
  go_wp2_with fail
  refine (head_any s.pc s.halt s.words s.mem HM.out (by omega) (by omega) (by omega) _).mono ?_
  rintro e w2 ⟨e2, hx2⟩
  replace e2 : e = .returned (.agg H.cells) := by rw [e2, HH.out]
  subst e2
  have y2 : Ext w1 w2 := ((Kept.refl _ w1).drew).trans hx2
  refine hK.out _ _ (fun _ => y2) ?_
  clear hK K
  (repeat (first | ((apply w3_pure); (· go_simp); (· (intro w1; go_simp; try with_reducible rfl)); (intro K hK; go_simp; refine hK _ _ ?_; clear hK K)) | ((apply w3_skip); (· go_simp); (intro K hK; go_simp; refine hK _ _ ?_; clear hK K)) | (refine w3_end (by kernel_rfl) (fun K hK => ?_); go_simp; refine hK.out _ _ ?_; clear hK K))); refine w3_nil ?_
  have hR2 := Blk.ext hR1 y2
  have hh2 := Blk.has hR2
  have hm2 := Blk.melts hR2
  rw [dgN_true HNE.out]
  go_wp2_with fail
  refine ret_ci Tryz.results37 rfl rfl aggDig (by exact sizeDig) (Blk.put_ hR2 _ _) ⟨rfl, ?_⟩
  exact Kept.putAt (y1.trans y2) _ _ _ (fun h => by omega)
set_option maxRecDepth 100000 in
set_option maxHeartbeats 4000000 in
theorem after_goes (s : Ws) (l : List Ins) (n : Nat) (hn : n = l.length) (h2 : n ≤ 2048) (x : Nat) (hxn : x < n) (m : List Int) (k : Nat) (hk : k = m.length) (hg : rightS x 0 k = true) (hok : ∀ i ∈ l, i.ok) (hmok : ∀ z ∈ m, i32ok z) (w : World) (hops : OpsAt w) (hv : StepV w s (makeL l x 0 m)) :
    Calls Tryz.prog 37 #[.agg (codeR l).cells, .int .i64 n, .agg (hHead x 0 k (memR m)).cells, .agg s.cells] w fun e w' => e = .returned (.tuple #[.agg (nextR l x 0 m).cells, .int .i64 0]) ∧ Ext w w' := by
  obtain ⟨k1, k2, _⟩ := rightS_inv hg
  have hok1 : Okay (x : Int) 0 m := ⟨by rw [← hk]; exact hg, hmok⟩
  have hnx := step_okay (c := l) (by rw [← hn]; exact h2) hok1
  obtain ⟨p, hh, m1, hst⟩ : ∃ p hh m1, stepI l x m = (p, hh, m1) := ⟨_, _, _, rfl⟩
  rw [hst] at hnx
  obtain ⟨hok2, hlen2⟩ := hnx
  obtain ⟨_, _, q3, q4, q5, q6⟩ := rightS_inv hok2.right
  simp only at q3 q4 q5 q6 hlen2
  obtain ⟨R, hR⟩ : ∃ R, R = nextR l x 0 m := ⟨_, rfl⟩
  have hR' : R = hHead p hh k (memR m1) := by rw [hR, nextR, runI, if_pos rfl, hst, hk]
  rw [← hR]
  clear hR hok1 hok2
  have hxl : x < l.length := by omega
  obtain ⟨i, hli⟩ : ∃ i, l.getD x ⟨0, 0, 0, 0⟩ = i := ⟨_, rfl⟩
  have hlx : l[x] = i := by rw [← hli]; simp [hxl]
  have hiok : i.ok := by rw [← hlx]; exact hok _ (List.getElem_mem hxl)
  have hL : makeL l x 0 m = ⟨x, 0, k, memR m, i, pathT (l.map ileaf) (hgt l.length) x, (mreads l x 0 m).1.map (showW m), if 0 ≤ (mreads l x 0 m).2 then [showW m (mreads l x 0 m).2] else []⟩ := by
    unfold makeL
    rw [if_neg (by omega), Int.toNat_natCast, hli, hk]
  have hvv := hv
  rw [hL] at hv
  obtain ⟨e1, e2, e3, e4, e5, vp, vr, vw⟩ := hv
  obtain ⟨spc, shalt, swords, smem, sins, spa, spn, spk, sra, srn, srk, swa, swn, swk⟩ := s
  simp only at e1 e2 e3 e4 e5 vp vr vw
  replace e5 := e5.symm
  obtain ⟨M, hM⟩ : ∃ M, M = memR m := ⟨_, rfl⟩
  rw [← hM] at e4 ⊢
  replace e4 := e4.symm
  subst e1 e2 e3 e4 e5
  obtain ⟨pb, po, hp⟩ := vp
  have hpn : spn = hgt n := by rw [hp.len, pathT_len, hn]
  have hck : checkT (codeR l) (x : Int) (ileaf i) (pathT (l.map ileaf) (hgt l.length) x) = true := by
    have := check_path (l := l.map ileaf) (i := (x : Int)) (by omega) (by simpa using hxl) (by simp; omega)
    rw [List.length_map, Int.toNat_natCast] at this
    rw [show (l.map ileaf).getD x Dg.zero = ileaf i by simp [hxl, hlx]] at this
    exact this
  obtain ⟨C, hC⟩ : ∃ C, C = codeR l := ⟨_, rfl⟩
  rw [← hC] at hck ⊢
  obtain ⟨Pt, hPt⟩ : ∃ Pt, Pt = pathT (l.map ileaf) (hgt l.length) x := ⟨_, rfl⟩
  rw [← hPt] at hck hp
  have HIL := Lib.hid hiok
  have HCK := Lib.hid hck
  have HPA := Lib.hid hp
  have HPN := Lib.hid hpn
  have HM := Lib.hid hM
  have HG := Lib.hid hg
  have HVV := Lib.hid hvv
  have HVR := Lib.hid vr
  have HVW := Lib.hid vw
  have HK := Lib.hid hk
  have HN := Lib.hid hn
  have HLX := Lib.hid hlx
  have HLI := Lib.hid hli
  have HMOK := Lib.hid hmok
  have HOPS := Lib.hid hops
  have HST := Lib.hid hst
  have HR := Lib.hid hR'
  have hMok : M.ok := by rw [hM]; exact hWord_ok _ _
  have HMO := Lib.hid hMok
  clear hiok hck hp hpn hM hg hvv vr vw hk hn hlx hli hmok hops hst hR' hMok hL hC hPt hlen2 hok
  obtain ⟨s, hs⟩ : ∃ s : Ws, s = ⟨x, 0, k, M, i, spa, spn, spk, sra, srn, srk, swa, swn, swk⟩ := ⟨_, rfl⟩
  obtain ⟨B, hB⟩ : ∃ B, B = hHead x 0 k M := ⟨_, rfl⟩
  rw [← hB]
  have HB := Lib.hid hB
  clear hB hs
  have hx0 : Ext w _ := ((((Kept.refl _ w).alloc (.cells C.cells 30)).alloc (.cells B.cells 30)).alloc (.cells (Ws.cells ⟨x, 0, k, M, i, spa, spn, spk, sra, srn, srk, swa, swn, swk⟩) 45)).alloc (.cells Dg.zero.cells 30)
  have hC0 : Blk _ w.heap.size 30 C.cells := Blk.alloc (Blk.alloc (Blk.alloc (Blk.new w _ C.cells) (.cells B.cells 30)) (.cells (Ws.cells ⟨x, 0, k, M, i, spa, spn, spk, sra, srn, srk, swa, swn, swk⟩) 45)) (.cells Dg.zero.cells 30)
  have hB0 : Blk _ (w.heap.size + 1) 30 B.cells := Blk.alloc (Blk.alloc (Blk.new' (w.alloc (.cells C.cells 30)) _ B.cells _ (by simp)) (.cells (Ws.cells ⟨x, 0, k, M, i, spa, spn, spk, sra, srn, srk, swa, swn, swk⟩) 45)) (.cells Dg.zero.cells 30)
  have hS0 : Blk _ (w.heap.size + 1 + 1) 45 (Ws.cells ⟨x, 0, k, M, i, spa, spn, spk, sra, srn, srk, swa, swn, swk⟩) := Blk.alloc (Blk.new' ((w.alloc (.cells C.cells 30)).alloc (.cells B.cells 30)) _ (Ws.cells ⟨x, 0, k, M, i, spa, spn, spk, sra, srn, srk, swa, swn, swk⟩) _ (by simp)) (.cells Dg.zero.cells 30)
  have hR0 : Blk _ (w.heap.size + 1 + 1 + 1) 30 Dg.zero.cells := Blk.new' (((w.alloc (.cells C.cells 30)).alloc (.cells B.cells 30)).alloc (.cells (Ws.cells ⟨x, 0, k, M, i, spa, spn, spk, sra, srn, srk, swa, swn, swk⟩) 45)) _ _ _ (by simp)
  go_enter Tryz.func37, Tryz.ntmps37
  go_wp2_with fail
  refine (sright_any ⟨x, 0, k, M, i, spa, spn, spk, sra, srn, srk, swa, swn, swk⟩ _).mono ?_
  rintro e w1 ⟨rfl, hx1⟩
  simp only
  rw [HG.out]
  have y1 := hx0.trans hx1
  have hC1 := Blk.ext hC0 hx1
  have hB1 := Blk.ext hB0 hx1
  have hS1 := Blk.ext hS0 hx1
  have hR1 := Blk.ext hR0 hx1
  clear hx0 hx1 hB0 hS0 hR0 hC0
  have hlS := Blk.lt hS1
  have hlR := Blk.lt hR1
  go_wp2_with fail
  refine wp_region_3 (fun w2 => Ext w1 w2) [(0, 2), (1, 1), (2, 2), (3, 1), (4, 2), (5, 1), (6, 2), (7, 1), (9, 1), (8, 0), (10, 2)] (by kernel_rfl) (by kernel_rfl) (by kernel_rfl) (by kernel_rfl) ?_; intro l' hl'; simp only [List.map_cons, List.map_nil, List.getD_cons_zero, List.getD_cons_succ] at hl'; subst hl'
  (repeat (first | ((apply w3_pure); (· go_simp); (· (intro w1; go_simp; try with_reducible rfl)); (intro K hK; go_simp; refine hK _ _ ?_; clear hK K)) | ((apply w3_skip); (· go_simp); (intro K hK; go_simp; refine hK _ _ ?_; clear hK K)) | ((apply w3_take); (· exact (Kept.drew (Kept.refl _ _))); (· go_simp); (· (intro w1 hS; have d1 := Blk.ext hS1 hS; have d2 := Blk.ext hB1 hS; have d3 := Blk.cell d1; have d4 := Blk.has d1; have d5 := Blk.gets d1; have d6 := Blk.has d2; have d7 := Blk.gets d2;  go_simp; try with_reducible rfl)); (intro K hK; go_simp; refine hK _ _ ?_; clear hK K)) | ((apply w3_pass); (· exact (Kept.drew (Kept.refl _ _))); (· go_simp); (intro K hK; go_simp; refine hK _ _ ?_; clear hK K))))
  (refine w3_act (fun K hK => ?_); go_simp)
  go_wp2_with fail
  refine (head_any x 0 k M HMO.out (by omega) (by omega) (by omega) _).mono ?_
  rintro e w2 ⟨e2, hx2⟩
  replace e2 : e = .returned (.agg B.cells) := by rw [e2, HB.out]
  subst e2
  have y2 : Ext w1 w2 := ((Kept.refl _ w1).drew).trans hx2
  refine hK.out _ _ (fun _ => y2) ?_
  clear hK K
  (repeat (first | ((apply w3_pure); (· go_simp); (· (intro w1; go_simp; try with_reducible rfl)); (intro K hK; go_simp; refine hK _ _ ?_; clear hK K)) | ((apply w3_skip); (· go_simp); (intro K hK; go_simp; refine hK _ _ ?_; clear hK K)) | (refine w3_end (by kernel_rfl) (fun K hK => ?_); go_simp; refine hK.out _ _ ?_; clear hK K))); refine w3_nil ?_
  have hC2 := Blk.ext hC1 y2
  have hS2 := Blk.ext hS1 y2
  have hR2 := Blk.ext hR1 y2
  have y12 := y1.trans y2
  have hc2 := Blk.cell hS2
  have hxnI : (x : Int) < n := by omega
  clear hB1 hC1 hS1 hR1 y1 y2 hx2
  go_upto_region 9 with (fail)
  clear hc2
  obtain ⟨Hn, hHn⟩ : ∃ Hn, Hn = hgt n := ⟨_, rfl⟩
  have hpn2 : spn = Hn := HPN.out.trans hHn.symm
  have HHN := Lib.hid hHn
  clear hHn
  subst hpn2
  obtain ⟨sb, hsb⟩ : ∃ sb, sb = w.heap.size := ⟨_, rfl⟩
  rw [← hsb] at hC2 hS2 hR2 hlS hlR ⊢
  have HSB := Lib.hid hsb
  clear hsb
  have hlC := hC2.lt
  refine wp_region_3 (fun w3 => Ext w2 w3) [(0, 2), (1, 1), (2, 2), (3, 2), (4, 0), (5, 2), (6, 2), (7, 1), (8, 2), (9, 1), (10, 2), (11, 1), (13, 2), (14, 1), (12, 0), (15, 0), (16, 2), (17, 2)] (by kernel_rfl) (by kernel_rfl) (by kernel_rfl) (by kernel_rfl) ?_; intro l' hl'; simp only [List.map_cons, List.map_nil, List.getD_cons_zero, List.getD_cons_succ] at hl'; subst hl'
  (repeat (first | ((apply w3_pure); (· go_simp); (· (intro w1; go_simp; try with_reducible rfl)); (intro K hK; go_simp; refine hK _ _ ?_; clear hK K)) | ((apply w3_skip); (· go_simp); (intro K hK; go_simp; refine hK _ _ ?_; clear hK K)) | ((apply w3_take); (· exact (Kept.drew (Kept.refl _ _))); (· go_simp); (· (intro w1 hS; have d1 := Blk.cell (Blk.ext hS2 hS); have d2 := (Blk.ext hS2 hS).lt; have d3 := Blk.has (Blk.ext hS2 hS); have d4 := Blk.gets (Blk.ext hS2 hS); have d5 := Blk.has (Blk.ext hC2 hS); have d6 := Blk.gets (Blk.ext hC2 hS); have d7 := (Blk.ext hC2 hS).lt;  go_simp; try with_reducible rfl)); (intro K hK; go_simp; refine hK _ _ ?_; clear hK K)) | ((apply w3_pass); (· exact (Kept.drew (Kept.refl _ _))); (· go_simp); (intro K hK; go_simp; refine hK _ _ ?_; clear hK K))))
  have yW : Ext w2 w2.drew := (Kept.refl _ w2).drew
  (refine w3_act (fun K hK => ?_); go_simp)
  go_wp2_with fail
  refine (height_ok n (by omega) (by omega) _).mono ?_
  rintro e w3 ⟨rfl, rfl⟩
  rw [← HHN.out]
  refine hK.out _ _ (fun _ => yW) ?_
  clear hK K
  (repeat (first | ((apply w3_pure); (· go_simp); (· (intro w1; go_simp; try with_reducible rfl)); (intro K hK; go_simp; refine hK _ _ ?_; clear hK K)) | ((apply w3_skip); (· go_simp); (intro K hK; go_simp; refine hK _ _ ?_; clear hK K)) | ((apply w3_take); (· exact yW); (· go_simp); (· (intro w1 hS; have d1 := Blk.cell (Blk.ext hS2 hS); have d2 := (Blk.ext hS2 hS).lt; have d3 := Blk.has (Blk.ext hS2 hS); have d4 := Blk.gets (Blk.ext hS2 hS); have d5 := Blk.has (Blk.ext hC2 hS); have d6 := Blk.gets (Blk.ext hC2 hS); have d7 := (Blk.ext hC2 hS).lt;  go_simp; try with_reducible rfl)); (intro K hK; go_simp; refine hK _ _ ?_; clear hK K)) | ((apply w3_pass); (· exact yW); (· go_simp); (intro K hK; go_simp; refine hK _ _ ?_; clear hK K))))
  (refine w3_act (fun K hK => ?_); go_simp)
  go_wp2_with fail
  refine (ileaf_any i HIL.out _).mono ?_
  rintro e w3 ⟨rfl, hx3⟩
  have y3 : Ext w2 w3 := yW.trans hx3
  refine hK.out _ _ (fun _ => y3) ?_
  clear hK K
  (repeat (first | ((apply w3_pure); (· go_simp); (· (intro w1; go_simp; try with_reducible rfl)); (intro K hK; go_simp; refine hK _ _ ?_; clear hK K)) | ((apply w3_skip); (· go_simp); (intro K hK; go_simp; refine hK _ _ ?_; clear hK K))))
  (refine w3_act (fun K hK => ?_); go_simp)
  go_wp2_with fail
  refine (tcheck_any C x (ileaf i) (ileaf_ok _) spa pb po spn spk Pt _ (HPA.out.ext (y12.trans y3))).mono ?_
  rintro e w4 ⟨rfl, hx4⟩
  rw [HCK.out]
  have y4 : Ext w2 w4 := y3.trans hx4
  refine hK.out _ _ (fun _ => y4) ?_
  clear hK K
  (repeat (first | ((apply w3_pure); (· go_simp); (· (intro w1; go_simp; try with_reducible rfl)); (intro K hK; go_simp; refine hK _ _ ?_; clear hK K)) | ((apply w3_skip); (· go_simp); (intro K hK; go_simp; refine hK _ _ ?_; clear hK K)) | (refine w3_end (by kernel_rfl) (fun K hK => ?_); go_simp; refine hK.out _ _ ?_; clear hK K))); refine w3_nil ?_
  have hS4 := Blk.ext hS2 y4
  have hR4 := Blk.ext hR2 y4
  have y14 := y12.trans y4
  have i1 := Blk.cell hS4
  have i2 := Blk.has hS4
  have i3 := Blk.gets hS4
  clear hC2 hS2 hR2 y12 hx3 y3 hx4 yW
  go_wp2_with fail
  have hir := iright_any i n k w4 (HOPS.out.ext y14)
  cases hri : rightI i n k
  · rw [hri] at hir
    have HRI := Lib.hid hri
    clear hri
    refine hir.mono ?_
    rintro e w5 ⟨rfl, hx5⟩
    clear hir
    have hS5 := Blk.ext hS4 hx5
    have hR5 := Blk.ext hR4 hx5
    have hnone : nextI l x m.length = none := by
      unfold nextI
      rw [Int.toNat_natCast, List.getElem?_eq_getElem hxl, HLX.out, ← HN.out, ← HK.out]
      show (if rightI i n k = true then some i else none) = _
      rw [if_neg (by rw [HRI.out]; simp)]
    have hmr : mreads l x 0 m = ([], -1) := by simp only [mreads, hnone]; rfl
    have hstp : (p, hh, m1) = ((x : Int), (2 : Int), m) := by
      rw [← HST.out]
      unfold stepI
      rw [hnone]
    have hvr := HVR.out.len
    have hvw := HVW.out.len
    rw [hmr] at hvr hvw
    simp at hvr hvw
    have hRR : R = Ws.same ⟨x, 0, k, M, i, spa, spn, spk, sra, srn, srk, swa, swn, swk⟩ := by
      rw [HR.out]
      injection hstp with e1 e2
      injection e2 with e2 e3
      rw [e1, e2, e3, ← HM.out]
      rfl
    have hbare : Ws.bare ⟨x, 0, k, M, i, spa, spn, spk, sra, srn, srk, swa, swn, swk⟩ = true := by
      simp [Ws.bare, hvr, hvw]
    have HRR := Lib.hid hRR
    have HBA := Lib.hid hbare
    clear hnone hmr hstp hvr hvw hRR hbare i1 i2 i3
    have i2 := Blk.has hS5
    have i3 := Blk.gets hS5
    go_wp2_with fail
    refine (sbare_any ⟨x, 0, k, M, i, spa, spn, spk, sra, srn, srk, swa, swn, swk⟩ _).mono ?_
    rintro e w6 ⟨rfl, hx6⟩
    rw [HBA.out]
    have hS6 := Blk.ext hS5 hx6
    have hR6 := Blk.ext hR5 hx6
    clear i2 i3
    have i2 := Blk.has hS6
    have i3 := Blk.gets hS6
    go_wp2_with fail
    have hsm := ssame_any ⟨x, 0, k, M, i, spa, spn, spk, sra, srn, srk, swa, swn, swk⟩ HMO.out HG.out w6
    rw [← HRR.out] at hsm
    refine hsm.mono ?_
    rintro e w7 ⟨rfl, hx7⟩
    have hR7 := Blk.ext hR6 hx7
    have i4 := Blk.has hR7
    have i5 := Blk.melts hR7
    clear i2 i3 hsm
    go_wp2_with fail
    refine ret_ci Tryz.results37 rfl rfl aggDig (by exact sizeDig) (Blk.put_ hR7 _ _) ⟨rfl, ?_⟩
    exact Kept.putAt (((y14.trans hx5).trans hx6).trans hx7) _ _ _ (fun h => by have := HSB.out; omega)
  · rw [hri] at hir
    have HRI := Lib.hid hri
    clear hri
    refine hir.mono ?_
    rintro e w5 ⟨rfl, hx5⟩
    clear hir
    have hS5 := Blk.ext hS4 hx5
    have hR5 := Blk.ext hR4 hx5
    have hsome : nextI l x m.length = some i := by
      unfold nextI
      rw [Int.toNat_natCast, List.getElem?_eq_getElem hxl, HLX.out, ← HN.out, ← HK.out]
      show (if rightI i n k = true then some i else none) = _
      rw [if_pos HRI.out]
    have y15 := y14.trans hx5
    have hdn := done_ok ⟨x, 0, k, M, i, spa, spn, spk, sra, srn, srk, swa, swn, swk⟩ l n HN.out h2 x hxn m k HK.out HG.out i hsome HLI.out HMOK.out w5 (HOPS.out.ext y15) (HVV.out.ext y15) p hh m1 HST.out (by omega) (by omega)
    rw [← HR.out] at hdn
    have HDN := Lib.hid hdn
    clear hsome hdn i1 i2 i3
    have i2 := Blk.has hS5
    have i3 := Blk.gets hS5
    go_wp2_with fail
    refine HDN.out.mono ?_
    rintro e w6 ⟨rfl, hx6⟩
    have hR6 := Blk.ext hR5 hx6
    have i4 := Blk.has hR6
    have i5 := Blk.melts hR6
    clear i2 i3
    go_wp2_with fail
    refine ret_ci Tryz.results37 rfl rfl aggDig (by exact sizeDig) (Blk.put_ hR6 _ _) ⟨rfl, ?_⟩
    exact Kept.putAt (y15.trans hx6) _ _ _ (fun h => by have := HSB.out; omega)
/-- what After says of a made step: the digest behind it, or that it does not fit -/
def aftR (l : List Ins) (pc halt : Int) (m : List Int) (B : Dg) : Dg × Int := if dgB (stateR pc halt m) B = true then (nextR l pc halt m, 0) else (Dg.zero, 23)
theorem after_made (s : Ws) (l : List Ins) (n : Nat) (hn : n = l.length) (h1 : 1 ≤ n) (h2 : n ≤ 2048) (pc halt : Int) (m : List Int) (B : Dg) (hO : Okay pc halt m) (hok : ∀ i ∈ l, i.ok) (w : World) (hops : OpsAt w) (hv : StepV w s (makeL l pc halt m)) :
    Calls Tryz.prog 37 #[.agg (codeR l).cells, .int .i64 n, .agg B.cells, .agg s.cells] w fun e w' => e = .returned (.tuple #[.agg (aftR l pc halt m B).1.cells, .int .i64 (aftR l pc halt m B).2]) ∧ Ext w w' := by
  obtain ⟨_, _, h3, h4, h5, h6⟩ := rightS_inv hO.right
  have hvv := hv
  obtain ⟨e1, e2, e3, e4, e5, vp, vr, vw⟩ := hv
  have hq : (makeL l pc halt m).pc = pc ∧ (makeL l pc halt m).halt = halt ∧ (makeL l pc halt m).words = m.length ∧ (makeL l pc halt m).mem = memR m := by
    unfold makeL
    split <;> exact ⟨rfl, rfl, rfl, rfl⟩
  rw [hq.1] at e1
  rw [hq.2.1] at e2
  rw [hq.2.2.1] at e3
  rw [hq.2.2.2] at e4
  have hright : rightS s.pc s.halt s.words = true := by rw [e1, e2, e3]; exact hO.right
  have hm : s.mem.ok := by rw [e4]; exact hWord_ok _ _
  have hhead : hHead s.pc s.halt s.words s.mem = stateR pc halt m := by rw [e1, e2, e3, e4]; rfl
  unfold aftR
  cases hb : dgB (stateR pc halt m) B
  · rw [if_neg (by simp)]
    exact after_other s (codeR l) B n w hm (by omega) (by omega) hright (by rw [hhead]; exact hb)
  · rw [if_pos rfl]
    obtain rfl := (dgB_iff _ _).1 hb
    by_cases hst : ¬ halt = 0 ∨ (l.length : Int) ≤ pc
    · have hL : makeL l pc halt m = ⟨pc, halt, m.length, memR m, ⟨0, 0, 0, 0⟩, [], [], []⟩ := by unfold makeL; rw [if_pos hst]
      rw [hL] at vp vr vw e5
      have hp : s.pn = 0 := by obtain ⟨_, _, hp⟩ := vp; exact hp.len
      have hr0 : s.rn = 0 := vr.len
      have hw0 : s.wn = 0 := vw.len
      have hsame : s.same = nextR l pc halt m := by
        unfold Ws.same nextR runI
        rw [e1, e2, e3, e4]
        by_cases h0 : halt = 0
        · subst h0
          have hnone : nextI l pc m.length = none := by
            unfold nextI
            rw [List.getElem?_eq_none (by omega)]
          simp only [if_pos, stepI, hnone]
        · rw [if_neg h0, if_neg h0]
      have := after_stays s (codeR l) n w hm (by omega) (by omega) hright (by unfold Ws.stays; rw [e1, e2, hn]; exact hst) e5 hp (by simp [Ws.bare, hr0, hw0])
      rw [hhead, hsame] at this
      exact this
    · obtain ⟨x, rfl⟩ : ∃ x : Nat, pc = x := ⟨pc.toNat, by omega⟩
      obtain rfl : halt = 0 := by omega
      exact after_goes s l n hn h2 x (by omega) m m.length rfl hO.right hok hO.mok w hops hvv
set_option maxRecDepth 100000 in
set_option maxHeartbeats 2000000 in
/-- Check, by what After says -/
theorem check_by (p : Dg) (size : Int) (B Z : Dg) (cs : Array Value) (hcs : (cs.toList.take 18).toArray = cs) (hn : 18 ≤ cs.size) (D : Dg) (e0 : Int) (w : World)
    (hA : ∀ w', Ext w w' → Calls Tryz.prog 37 #[.agg #[.int .u8 p.x0, .int .u8 p.x1, .int .u8 p.x2, .int .u8 p.x3, .int .u8 p.x4, .int .u8 p.x5, .int .u8 p.x6, .int .u8 p.x7], .int .i64 size, .agg #[.int .u8 B.x0, .int .u8 B.x1, .int .u8 B.x2, .int .u8 B.x3, .int .u8 B.x4, .int .u8 B.x5, .int .u8 B.x6, .int .u8 B.x7], .agg cs] w' fun e w'' => e = .returned (.tuple #[.agg D.cells, .int .i64 e0]) ∧ Ext w' w'') :
    Calls Tryz.prog 42 #[.agg #[.int .u8 p.x0, .int .u8 p.x1, .int .u8 p.x2, .int .u8 p.x3, .int .u8 p.x4, .int .u8 p.x5, .int .u8 p.x6, .int .u8 p.x7], .int .i64 size, .agg #[.int .u8 B.x0, .int .u8 B.x1, .int .u8 B.x2, .int .u8 B.x3, .int .u8 B.x4, .int .u8 B.x5, .int .u8 B.x6, .int .u8 B.x7], .agg #[.int .u8 Z.x0, .int .u8 Z.x1, .int .u8 Z.x2, .int .u8 Z.x3, .int .u8 Z.x4, .int .u8 Z.x5, .int .u8 Z.x6, .int .u8 Z.x7], .agg cs] w fun e w' => e = .returned (.int .i64 (if e0 = 0 then (if dgB D Z = true then 0 else 23) else e0)) ∧ Ext w w' := by
  have HA := Lib.hid hA
  clear hA
  obtain ⟨r, hr⟩ : ∃ r : Int, r = (if e0 = 0 then (if dgB D Z = true then 0 else 23) else e0) := ⟨_, rfl⟩
  rw [← hr]
  have HR := Lib.hid hr
  clear hr
  have hx0 : Ext w _ := ((((Kept.refl _ w).alloc (.cells #[.int .u8 p.x0, .int .u8 p.x1, .int .u8 p.x2, .int .u8 p.x3, .int .u8 p.x4, .int .u8 p.x5, .int .u8 p.x6, .int .u8 p.x7] 30)).alloc (.cells B.cells 30)).alloc (.cells Z.cells 30)).alloc (.cells cs 45)
  have hZ0 : Blk _ (w.heap.size + 1 + 1) 30 Z.cells := Blk.alloc (Blk.new' ((w.alloc (.cells #[.int .u8 p.x0, .int .u8 p.x1, .int .u8 p.x2, .int .u8 p.x3, .int .u8 p.x4, .int .u8 p.x5, .int .u8 p.x6, .int .u8 p.x7] 30)).alloc (.cells B.cells 30)) _ Z.cells _ (by simp)) (.cells cs 45)
  go_enter Tryz.func42, Tryz.ntmps42
  go_wp2_with fail
  refine (HA.out _ hx0).mono ?_
  rintro e w1 ⟨rfl, hx1⟩
  have hZ1 := Blk.ext hZ0 hx1
  have hh1 := Blk.has hZ1
  have hg1 := Blk.gets hZ1
  have hl1 := Blk.lt hZ1
  by_cases he : e0 = 0
  · subst he
    by_cases hb : dgB D Z = true
    · have hr := HR.out
      rw [if_pos rfl, if_pos hb] at hr
      obtain rfl := (dgB_iff _ _).1 hb
      subst hr
      clear hb HR
      go_wp2_with fail
      go_ret
      exact ⟨rfl, (hx0.trans hx1).alloc _⟩
    · have hr := HR.out
      rw [if_pos rfl, if_neg hb] at hr
      subst hr
      have HB := Lib.hid (dgN_true (H := D) (B := Z) (by simpa using hb))
      clear hb HR
      go_upto_if 26 with (fail)
      rw [HB.out]
      go_wp2_with fail
      go_ret
      exact ⟨rfl, (hx0.trans hx1).alloc _⟩
  · have hr := HR.out
    rw [if_neg he] at hr
    subst hr
    have he' : (r != 0) = true := by simpa using he
    clear he HR
    go_wp2_with fail
    go_ret
    exact ⟨rfl, (hx0.trans hx1).alloc _⟩
end Go.Proofs.YtahljceanodhkaaGreatDoor

/- The law HalveActs: a deed, where steps can be shown. -/
namespace Go.Proofs.YtahljceanodhkaaGreatDoor
open Go.RowKit
theorem prove_is (r : Rt) (e : Int) : (r.prove e).1 = r ∨ (r.prove e).1 = { r with won := 0 } := by
  unfold Rt.prove
  split
  · exact .inl rfl
  · split
    · exact .inl rfl
    · split
      · exact .inr rfl
      · exact .inl rfl
theorem prove_agree' {K : Nat} {m : Int} (r : Rt) (p : Dg) (sz e : Int) (hE : EInv K (r.tr p sz) m) : proveE (r.tr p sz) e = (r.prove e).2 ∧ proveT (r.tr p sz) e = (r.prove e).1.tr p sz ∧ ∃ m', EInv K ((r.prove e).1.tr p sz) m' := by
  have hb := hE.bounds.2.2.1
  have hE0 := hE
  obtain ⟨h0, hbb, j, hj, hs, hc⟩ := hE
  dsimp only at hb h0 hbb hs hc
  have h3 : ∃ m', EInv K ((r.prove e).1.tr p sz) m' := by
    rcases prove_is r e with hp | hp
    · exact ⟨m, by rw [hp]; exact hE0⟩
    · exact ⟨2 * K + 1, by rw [hp]; exact ⟨h0, hbb, j, hj, hs, .inr (.inr ⟨by simp [Rt.turn], by simp, by omega, by omega⟩)⟩⟩
  refine ⟨?_, ?_, h3⟩
  all_goals
    unfold Rt.prove Rt.tr
    first | unfold proveE | unfold proveT
    unfold askedE
    by_cases h : 0 ≤ r.won
    · simp [h, Rt.turn]
    · cases ht : r.told
      · by_cases hs1 : r.steps = 1
        · by_cases he : e = 0
          · simp [h, ht, hs1, Rt.turn, he]
          · simp [h, ht, hs1, Rt.turn, he]
        · have : 1 < r.steps := by omega
          simp [h, ht, hs1, Rt.turn, this]
      · simp [h, ht, Rt.turn]
set_option maxRecDepth 100000 in
set_option maxHeartbeats 2000000 in
theorem do_prove (b c : Nat) (hbc : ¬ b = c) (r r' : Rt) (k ck : Int) (p q : Dg) (sz sz' wh : Int) (x : Dg) (f : Bool) (un : Int) (g cc a : Nat) (ss : List Ws) (s : Ws) (w : World) (ht : At w b (r.tr p sz)) (hc : Blk w c 49 r.cells) (h0 : 0 ≤ wh) (h1 : wh ≤ 255) (hwh : (wh % 4 == 2) = true)
    (hu0 : 0 ≤ un) (hu1 : un ≤ 255) (hrow : Row w g 0 (rowsL Ws.cells ss)) (hlen : ss.length = 17) (ha : un % 17 = (a : Int)) (hs : ss[a]? = some s) (hgb : ¬ g = b) (hgc : ¬ g = c)
    (hp : ∀ w', Ext w w' → At w' b (r.tr p sz) → Calls Tryz.prog 21 #[.pointer (some ⟨b, 0, none⟩), .agg s.cells] w' fun e w'' => e = .returned (.int .i64 k) ∧ At w'' b (r'.tr p sz) ∧ Kept (· = b) w' w'')
    (hck : ∀ w', Kept (· = b) w w' → Calls Tryz.prog 42 #[.agg #[.int .u8 q.x0, .int .u8 q.x1, .int .u8 q.x2, .int .u8 q.x3, .int .u8 q.x4, .int .u8 q.x5, .int .u8 q.x6, .int .u8 q.x7], .int .i64 sz', .agg #[.int .u8 r.ahead.x0, .int .u8 r.ahead.x1, .int .u8 r.ahead.x2, .int .u8 r.ahead.x3, .int .u8 r.ahead.x4, .int .u8 r.ahead.x5, .int .u8 r.ahead.x6, .int .u8 r.ahead.x7], .agg #[.int .u8 r.behind.x0, .int .u8 r.behind.x1, .int .u8 r.behind.x2, .int .u8 r.behind.x3, .int .u8 r.behind.x4, .int .u8 r.behind.x5, .int .u8 r.behind.x6, .int .u8 r.behind.x7], .agg s.cells] w' fun e w'' => e = .returned (.int .i64 ck) ∧ Ext w' w'')
    (hr : ∀ w, Calls Tryz.prog 63 #[.agg r.cells, .int .i64 ck] w fun e w' => e = .returned (.tuple #[.agg r'.cells, .int .i64 k]) ∧ Ext w w') (hw : r'.won = -1 ∨ r'.won = 0 ∨ r'.won = 1) :
    Calls Tryz.prog 24 #[.pointer (some ⟨b, 0, none⟩), .pointer (some ⟨c, 0, none⟩), .agg (deedCells wh x f (.int .u8 un)), .agg #[.int .u8 q.x0, .int .u8 q.x1, .int .u8 q.x2, .int .u8 q.x3, .int .u8 q.x4, .int .u8 q.x5, .int .u8 q.x6, .int .u8 q.x7], .int .i64 sz', .slice (some ⟨g, 0, none⟩) 17 cc] w fun e w' => e = .returned (.bool true) ∧ At w' b (r'.tr p sz) ∧ Blk w' c 49 r'.cells ∧ Kept (fun i => i = b ∨ i = c) w w' := by
  have hbl := Blk.lt ht
  have hcl := Blk.lt hc
  have hgl := hrow.lt
  have hcb : ¬ c = b := fun e => hbc e.symm
  have ha17 : a < 17 := by omega
  obtain ⟨hrh, hrg⟩ := rowsL_row ws_size hrow a (by omega)
  rw [show ss[a]'(by omega) = s from (List.getElem?_eq_some_iff.1 hs).2] at hrg
  rw [Nat.zero_add] at hrh hrg
  have HP := Lib.hid hp
  have HCK := Lib.hid hck
  have HR := Lib.hid hr
  have HW := Lib.hid hw
  clear hp hr hw hck hs hrow
  have q0 : (wh % 4 == 0) = false := by simp at hwh ⊢; omega
  have q1 : (wh % 4 == 1) = false := by simp at hwh ⊢; omega
  clear hlen
  go_enter Tryz.func24, Tryz.ntmps24
  go_wp2_with fail
  refine (HP.out _ (((Kept.refl _ w).alloc _).alloc _ |>.alloc _) (Blk.alloc (Blk.alloc (Blk.alloc ht _) _) _)).mono ?_
  rintro e w1 ⟨rfl, hA1, hx1⟩
  have hc1 : Blk w1 c 49 r.cells := Blk.kept (Blk.alloc (Blk.alloc (Blk.alloc hc (.cells (deedCells wh x f (.int .u8 un)) 25)) (.cells #[.int .u8 q.x0, .int .u8 q.x1, .int .u8 q.x2, .int .u8 q.x3, .int .u8 q.x4, .int .u8 q.x5, .int .u8 q.x6, .int .u8 q.x7] 30)) (.cells s.cells 45)) hx1 hcb
  have hq1 : Blk w1 (w.heap.size + 1) 30 q.cells := Blk.kept (Blk.alloc (Blk.new' (w.alloc (.cells (deedCells wh x f (.int .u8 un)) 25)) _ _ _ (by simp)) (.cells s.cells 45)) hx1 (fun e => by omega)
  have hs1 : Blk w1 (w.heap.size + 1 + 1) 45 s.cells := Blk.kept (Blk.new' ((w.alloc (.cells (deedCells wh x f (.int .u8 un)) 25)).alloc (.cells #[.int .u8 q.x0, .int .u8 q.x1, .int .u8 q.x2, .int .u8 q.x3, .int .u8 q.x4, .int .u8 q.x5, .int .u8 q.x6, .int .u8 q.x7] 30)) _ _ _ (by simp)) hx1 (fun e => by omega)
  have kw1 : Kept (· = b) w w1 := ((((Kept.refl _ w).alloc (.cells (deedCells wh x f (.int .u8 un)) 25)).alloc (.cells #[.int .u8 q.x0, .int .u8 q.x1, .int .u8 q.x2, .int .u8 q.x3, .int .u8 q.x4, .int .u8 q.x5, .int .u8 q.x6, .int .u8 q.x7] 30)).alloc (.cells s.cells 45)).trans hx1
  clear hrh hrg
  go_wp2_with fail
  refine wp_region_3 (fun w' => Ext w1 w') [(0, 1), (1, 2), (2, 2), (3, 2), (4, 2), (5, 1), (6, 2), (7, 2), (8, 2), (9, 1), (10, 1), (11, 0), (12, 2)] (by kernel_rfl) (by kernel_rfl) (by kernel_rfl) (by kernel_rfl) ?_; intro l' hl'; simp only [List.map_cons, List.map_nil, List.getD_cons_zero, List.getD_cons_succ] at hl'; subst hl'
  (repeat (first | ((apply w3_pure); (· go_simp); (· (intro w1; go_simp; try with_reducible rfl)); (intro K hK; go_simp; refine hK _ _ ?_; clear hK K)) | ((apply w3_skip); (· go_simp); (intro K hK; go_simp; refine hK _ _ ?_; clear hK K)) | ((apply w3_take); (· exact (Kept.drew (Kept.refl _ _))); (· go_simp); (· (intro w1 hS; have c1 := Blk.ext hc1 hS; have d1 := Blk.ext hq1 hS; have e1 := Blk.ext hs1 hS; have hh := Blk.has c1; have hg := Blk.gets c1; have hhd := Blk.has d1; have hgd := Blk.gets d1; have hhe := Blk.has e1; have hge := Blk.gets e1; have hcl := Blk.lt c1;  go_simp; try with_reducible rfl)); (intro K hK; go_simp; refine hK _ _ ?_; clear hK K)) | ((apply w3_pass); (· exact (Kept.drew (Kept.refl _ _))); (· go_simp); (intro K hK; go_simp; refine hK _ _ ?_; clear hK K))))
  (refine w3_act (fun K hK => ?_); go_simp)
  go_wp2_with fail
  refine (HCK.out _ (kw1.drew)).mono ?_
  rintro e w2 ⟨rfl, hx2⟩
  have hx2' : Ext w1 w2 := ((Kept.refl _ w1).drew).trans hx2
  refine hK.out _ _ (fun _ => hx2') ?_
  clear hK K
  (repeat (first | ((apply w3_pure); (· go_simp); (· (intro w1; go_simp; try with_reducible rfl)); (intro K hK; go_simp; refine hK _ _ ?_; clear hK K)) | ((apply w3_skip); (· go_simp); (intro K hK; go_simp; refine hK _ _ ?_; clear hK K)) | (refine w3_end (by kernel_rfl) (fun K hK => ?_); go_simp; refine hK.out _ _ ?_; clear hK K))); refine w3_nil ?_
  have hc2 := Blk.ext hc1 hx2'
  have hh2 := Blk.has hc2
  have hg2 := Blk.gets hc2
  go_wp2_with fail
  refine (HR.out _).mono ?_
  rintro e w3 ⟨rfl, hx3⟩
  have hc3 := Blk.ext hc2 hx3
  have hh3 := Blk.has hc3
  have hm3 := Blk.melts hc3
  go_wp2_with fail
  have hA4 : At (putAt w3 c 0 r'.cells) b (r'.tr p sz) := Blk.putFar (Blk.ext (Blk.ext hA1 hx2') hx3) hbc _ _
  have hc4 : Blk (putAt w3 c 0 r'.cells) c 49 r'.cells := by
    have := Blk.put_ hc3 0 r'.cells
    rwa [splice_all (by rfl)] at this
  have hh4 := Blk.has hc4
  have hg4 := Blk.gets hc4
  refine (same23_any b r' p sz _ hA4 HW.out).mono ?_
  rintro e w5 ⟨rfl, hx5⟩
  go_wp2_with fail
  go_ret
  refine ⟨rfl, Blk.ext hA4 hx5, Blk.ext hc4 hx5, ?_⟩
  have k1 : Kept (fun i => i = b ∨ i = c) w w1 := kw1.mono (fun i _ e => .inl e)
  have k2 := (k1.trans (Kept.ext hx2')).trans (Kept.ext hx3)
  have k3 := Kept.putAt k2 c 0 r'.cells (fun _ => .inr rfl)
  exact k3.trans (Kept.ext hx5)
end Go.Proofs.YtahljceanodhkaaGreatDoor

/- The law HalveActs: any deed. -/
namespace Go.Proofs.YtahljceanodhkaaGreatDoor
open Go.RowKit
theorem blk_not {w : World} {p : Nat} {T E : TypeId} {cs : Array Value} (hb : Blk w p T cs) (hE : ¬ T = E) : ∀ cur fr, ¬ w.heap[p]? = some (.cells cur E fr) := fun cur fr e => by
  unfold Blk at hb
  rw [e] at hb
  injection hb with hb
  injection hb with _ hb _
  exact hE hb.symm
/-- what Check says of a made step -/
def chkR (l : List Ins) (r : Cfg) (B Z : Dg) : Int := if (aftR l r.1 r.2.1 r.2.2 B).2 = 0 then (if dgB (aftR l r.1 r.2.1 r.2.2 B).1 Z = true then 0 else 23) else (aftR l r.1 r.2.1 r.2.2 B).2
theorem check_made (s : Ws) (l : List Ins) (n : Nat) (hn : n = l.length) (h1 : 1 ≤ n) (h2 : n ≤ 2048) (r : Cfg) (B Z : Dg) (hO : Okay r.1 r.2.1 r.2.2) (hok : ∀ i ∈ l, i.ok) (w : World) (hops : OpsAt w) (hv : StepV w s (makeL l r.1 r.2.1 r.2.2)) :
    Calls Tryz.prog 42 #[.agg (codeR l).cells, .int .i64 n, .agg B.cells, .agg Z.cells, .agg s.cells] w fun e w' => e = .returned (.int .i64 (chkR l r B Z)) ∧ Ext w w' :=
  check_by (codeR l) n B Z s.cells rfl (by simp) _ _ w (fun w' hx => after_made s l n hn h1 h2 r.1 r.2.1 r.2.2 B hO hok w' (hops.ext hx) (hv.ext hx))
abbrev MadeV (l : List Ins) : World → Ws → Cfg → Prop := fun w s r => StepV w s (makeL l r.1 r.2.1 r.2.2)
/-- steps of a run in memory -/
structure StepsAt (w : World) (l : List Ins) (r0 : Cfg) (g k : Nat) (ss : List Ws) : Prop where
  row : Row w g 0 (rowsL Ws.cells ss)
  ty : ∃ cur, w.heap[g]? = some (.cells cur 45 (0, 0))
  all : AllV (MadeV l) w ss ((List.range k).map (trajI l r0))
theorem StepsAt.kept {S : Nat → Prop} {w w' : World} {l : List Ins} {r0 : Cfg} {g k : Nat} {ss : List Ws} (h : StepsAt w l r0 g k ss) (hx : Kept S w w') (hs : ∀ i, S i → ∀ cur fr, ¬ w.heap[i]? = some (.cells cur 30 fr)) (hs' : ∀ i, S i → ∀ cur fr, ¬ w.heap[i]? = some (.cells cur 77 fr)) (hs2 : ∀ i, S i → ∀ cur fr, ¬ w.heap[i]? = some (.cells cur 45 fr)) : StepsAt w' l r0 g k ss := by
  obtain ⟨h1, ⟨cur, h2⟩, h3⟩ := h
  have hg : ¬ S g := fun hS => hs2 g hS _ _ h2
  exact ⟨h1.kept hx hg, ⟨cur, (hx.block g h1.lt hg).trans h2⟩, h3.mono (fun a b h => h.kept hx hs hs')⟩
theorem StepsAt.ext {w w' : World} {l : List Ins} {r0 : Cfg} {g k : Nat} {ss : List Ws} (h : StepsAt w l r0 g k ss) (hx : Ext w w') : StepsAt w' l r0 g k ss :=
  h.kept hx (fun _ f => f.elim) (fun _ f => f.elim) (fun _ f => f.elim)
theorem StepsAt.trial {S : Nat → Prop} {w w' : World} {l : List Ins} {r0 : Cfg} {g k : Nat} {ss : List Ws} {b c : Nat} {t : Tr} {r : Rt} (h : StepsAt w l r0 g k ss) (hx : Kept S w w') (hS : ∀ i, S i → i = b ∨ i = c) (hb : At w b t) (hc : Blk w c 49 r.cells) : StepsAt w' l r0 g k ss :=
  h.kept hx (fun i hi => by rcases hS i hi with rfl | rfl; exact blk_not hb (by decide); exact blk_not hc (by decide)) (fun i hi => by rcases hS i hi with rfl | rfl; exact blk_not hb (by decide); exact blk_not hc (by decide)) (fun i hi => by rcases hS i hi with rfl | rfl; exact blk_not hb (by decide); exact blk_not hc (by decide))
/-- what a deed leaves -/
def Done1 (K : Nat) (b c : Nat) (p : Dg) (sz : Int) (w : World) (e : Ending) (w' : World) : Prop :=
  ∃ r' m', e = .returned (.bool true) ∧ At w' b (Rt.tr r' p sz) ∧ Blk w' c 49 r'.cells ∧ Kept (fun i => i = b ∨ i = c) w w' ∧ EInv K (r'.tr p sz) m'
theorem do_acts {K : Nat} {m : Int} (hK : K ≤ 20) (b c : Nat) (hbc : ¬ b = c) (r : Rt) (l : List Ins) (n : Nat) (hn : n = l.length) (h1 : 1 ≤ n) (h2 : n ≤ 2048) (hok : ∀ i ∈ l, i.ok) (r0 : Cfg) (hO : Okay r0.1 r0.2.1 r0.2.2) (wh : Int) (x : Dg) (f : Bool) (un : Int) (g cc : Nat) (ss : List Ws) (w : World) (hops : OpsAt w) (ht : At w b (r.tr (codeR l) n)) (hc : Blk w c 49 r.cells) (hw0 : 0 ≤ wh) (hw1 : wh ≤ 255) (hu0 : 0 ≤ un) (hu1 : un ≤ 255) (hE : EInv K (r.tr (codeR l) n) m) (hs : StepsAt w l r0 g 17 ss) :
    Calls Tryz.prog 24 #[.pointer (some ⟨b, 0, none⟩), .pointer (some ⟨c, 0, none⟩), .agg (deedCells wh x f (.int .u8 un)), .agg (codeR l).cells, .int .i64 n, .slice (some ⟨g, 0, none⟩) 17 cc] w fun e w' => Done1 K b c (codeR l) n w e w' := by
  have hb := hE.bounds
  have hp := pow2_le hK
  have hb1 : 0 ≤ r.steps := by have := hb.2.2.1; dsimp only at this; omega
  have hb2 : r.steps ≤ 1048576 := by have := hb.2.2.2.1; dsimp only at this; omega
  have hb3 : 0 ≤ r.from_ := hb.1
  have hb4 : r.from_ ≤ 1048576 := by have := hb.2.1; dsimp only at this; omega
  rcases (by omega : wh % 4 = 0 ∨ wh % 4 = 1 ∨ wh % 4 = 2 ∨ wh % 4 = 3) with hm | hm | hm | hm
  · have ag := tell_agree r (codeR l) n x
    have hE' := (hE.tell x).1
    rw [ag.2] at hE'
    refine (do_tell b c hbc r (r.tell x).1 (r.tell x).2 (codeR l) (codeR l) n n wh x f (.int .u8 un) (.slice (some ⟨g, 0, none⟩) 17 cc) w ht hc hw0 hw1 (by simpa using hm) (fun w hA => ?_) (fun w => rtell_any r x w) hE'.won).mono ?_
    · have := tell_any b (r.tr (codeR l) n) x w hA
      rwa [ag.1, ag.2] at this
    · rintro e w' ⟨he, h1, h2, h3⟩
      exact ⟨_, _, he, h1, h2, h3, hE'⟩
  · have ag := choose_agree r (codeR l) n f hE
    have hE' := (hE.choose f).1
    rw [ag.2] at hE'
    refine (do_choose b c hbc r (r.choose f).1 (r.choose f).2 (codeR l) (codeR l) n n wh x f (.int .u8 un) (.slice (some ⟨g, 0, none⟩) 17 cc) w ht hc hw0 hw1 (by simpa using hm) (fun w hA => ?_) (fun w => rchoose_any r f w hb1 hb2 hb3 hb4) hE'.won).mono ?_
    · have := choose_any b (r.tr (codeR l) n) f w hA hb1 hb2 hb3 hb4
      rwa [ag.1, ag.2] at this
    · rintro e w' ⟨he, h1, h2, h3⟩
      exact ⟨_, _, he, h1, h2, h3, hE'⟩
  · obtain ⟨a, ha⟩ : ∃ a : Nat, un % 17 = a := ⟨(un % 17).toNat, by omega⟩
    have ha17 : a < 17 := by omega
    have hlen : ss.length = 17 := by have := hs.all.len; simpa using this
    have hal : a < ss.length := by omega
    have hsv := hs.all.get a hal (by simpa using ha17)
    simp only [List.getElem_map, List.getElem_range] at hsv
    have hOa := (traj_okay (by rw [← hn]; exact h2) hO a).1
    obtain ⟨ck, hck⟩ : ∃ ck, ck = chkR l (trajI l r0 a) r.ahead r.behind := ⟨_, rfl⟩
    have hchk : ∀ w', StepV w' ss[a] (makeL l (trajI l r0 a).1 (trajI l r0 a).2.1 (trajI l r0 a).2.2) → OpsAt w' → Calls Tryz.prog 42 #[.agg (codeR l).cells, .int .i64 n, .agg r.ahead.cells, .agg r.behind.cells, .agg (ss[a]).cells] w' fun e w'' => e = .returned (.int .i64 ck) ∧ Ext w' w'' := fun w' hv ho => by
      rw [hck]
      exact check_made ss[a] l n hn h1 h2 (trajI l r0 a) r.ahead r.behind hOa hok w' ho hv
    obtain ⟨ag1, ag2, m', hE'⟩ := prove_agree' r (codeR l) n ck hE
    have hob : OpsAt w → ¬ b = 0 := fun ho e => by
      subst e
      have h1 := Blk.cell ht 1
      rw [ho.at_ 0 (by omega)] at h1
      simp at h1
    refine (do_prove b c hbc r (r.prove ck).1 (r.prove ck).2 ck (codeR l) (codeR l) n n wh x f un g cc a ss ss[a] w ht hc hw0 hw1 (by simpa using hm) hu0 hu1 hs.row hlen ha (List.getElem?_eq_getElem hal) (fun e => by obtain ⟨cur, h⟩ := hs.ty; rw [e] at h; exact blk_not ht (by decide) _ _ h) (fun e => by obtain ⟨cur, h⟩ := hs.ty; rw [e] at h; exact blk_not hc (by decide) _ _ h) (fun w' hx hA => ?_) (fun w' hx => ?_) (fun w => rprove_any r ck w) hE'.won).mono ?_
    · have := prove_any b (r.tr (codeR l) n) (ss[a]).cells ck w' hA rfl (by simp) (fun w'' hx' => hchk w'' ((hsv.ext hx).ext hx') ((hops.ext hx).ext hx'))
      rw [ag1, ag2] at this
      exact this
    · exact hchk w' (hsv.kept hx (fun i hi => by subst hi; exact blk_not ht (by decide)) (fun i hi => by subst hi; exact blk_not ht (by decide))) (hops.kept hx (fun e => hob hops e.symm))
    · rintro e w' ⟨he, h1, h2, h3⟩
      exact ⟨_, _, he, h1, h2, h3, hE'⟩
  · have ag := silence_agree r (codeR l) n
    have hE' := hE.silence.1
    rw [ag.2] at hE'
    refine (do_silence b c hbc r r.silence.1 r.silence.2 (codeR l) (codeR l) n n wh x f (.int .u8 un) (.slice (some ⟨g, 0, none⟩) 17 cc) w ht hc hw0 hw1 (by simpa using hm) (fun w hA => ?_) (fun w => rsilence_any r w) hE'.won).mono ?_
    · have := silence_any b (r.tr (codeR l) n) w hA
      rwa [ag.1, ag.2] at this
    · rintro e w' ⟨he, h1, h2, h3⟩
      exact ⟨_, _, he, h1, h2, h3, hE'⟩
end Go.Proofs.YtahljceanodhkaaGreatDoor

/- The law HalveTeller: its walk. -/
namespace Go.Proofs.YtahljceanodhkaaGreatDoor
open Go.RowKit
/-- what a made step leads to is believed -/
theorem chk_next (l : List Ins) (hl : l.length ≤ 2048) (r : Cfg) (hO : Okay r.1 r.2.1 r.2.2) : chkR l r (stateR r.1 r.2.1 r.2.2) (stateR (runI l r.1 r.2.1 r.2.2).1 (runI l r.1 r.2.1 r.2.2).2.1 (runI l r.1 r.2.1 r.2.2).2.2) = 0 := by
  unfold chkR aftR
  rw [dgB_self, if_pos rfl, nextR_state hl hO, if_pos rfl, dgB_self, if_pos rfl]
theorem chk_trace (l : List Ins) (hl : l.length ≤ 2048) (r : Cfg) (hO : Okay r.1 r.2.1 r.2.2) (j : Nat) : chkR l (trajI l r j) (trD l r j) (trD l r (j + 1)) = 0 := chk_next l hl _ (traj_okay hl hO j).1
theorem tell_go (b : Nat) (F s : Nat) (h2 : 2 ≤ s) (a z p d : Dg) (sz : Int) (w : World) (ht : At w b ⟨F, s, a, z, p, sz, 0, Dg.zero, -1⟩) :
    Calls Tryz.prog 15 #[.pointer (some ⟨b, 0, none⟩), .agg d.cells] w fun e w' => e = .returned (.int .i64 0) ∧ At w' b ⟨F, s, a, z, p, sz, 1, d, -1⟩ ∧ Kept (· = b) w w' := by
  have e : askedE ⟨F, s, a, z, p, sz, 0, Dg.zero, -1⟩ 0 false = 0 := by
    have : ¬ (s : Int) = 1 := by omega
    simp [askedE, this]
  have := tell_any b ⟨F, s, a, z, p, sz, 0, Dg.zero, -1⟩ d w ht
  unfold tellT at this
  rw [e, if_pos rfl] at this
  exact this
theorem choose_go (b : Nat) (F s hf : Nat) (hs : s = 2 * hf) (h1 : 1 ≤ hf) (hs2 : s ≤ 1000) (hF : F ≤ 1000) (a z p d : Dg) (sz : Int) (f : Bool) (w : World) (ht : At w b ⟨F, s, a, z, p, sz, 1, d, -1⟩) :
    Calls Tryz.prog 16 #[.pointer (some ⟨b, 0, none⟩), .bool f] w fun e w' => e = .returned (.int .i64 0) ∧ At w' b (if f = true then ⟨F, hf, a, d, p, sz, 0, Dg.zero, -1⟩ else ⟨(F + hf : Nat), hf, d, z, p, sz, 0, Dg.zero, -1⟩) ∧ Kept (· = b) w w' := by
  have e : askedE ⟨F, s, a, z, p, sz, 1, d, -1⟩ 1 false = 0 := by
    have : ¬ (s : Int) = 1 := by omega
    simp [askedE, this]
  have := choose_any b ⟨F, s, a, z, p, sz, 1, d, -1⟩ f w ht (by simp) (by simp only; omega) (by simp) (by simp only; omega)
  unfold chooseT at this
  rw [e, if_pos rfl] at this
  have e1 : (s : Int) / 2 = hf := by omega
  have e2 : (s : Int) - s / 2 = hf := by omega
  simp only [e1] at this
  have e3 : (s : Int) - hf = hf := by omega
  have e4 : (F : Int) + hf = ((F + hf : Nat) : Int) := by omega
  rw [e3, e4] at this
  exact this
set_option maxRecDepth 100000 in
set_option maxHeartbeats 1000000 in
theorem teller_not (A : Option Addr) (n cap : Nat) (pc : Int) (A' : Option Addr) (k cap' : Nat) (halt d h : Int) (hd0 : 0 ≤ d) (w : World) (hs : smallC n k pc halt = false) :
    Calls Tryz.prog 11 #[.agg (courseC A n cap pc A' k cap' halt), .int .u8 d, .int .u8 h] w fun e w' => e = .returned (.bool true) ∧ Ext w w' := by
  have hx0 : Ext w _ := (Kept.refl _ w).alloc (.cells (courseC A n cap pc A' k cap' halt) 99)
  have hsa := small_any A n cap pc A' k cap' halt (w.alloc (.cells (courseC A n cap pc A' k cap' halt) 99))
  rw [hs] at hsa
  have HS := Lib.hid hsa
  clear hsa hs
  go_enter Tryz.func11, Tryz.ntmps11
  go_wp2_with fail
  refine HS.out.mono ?_
  rintro e w1 ⟨rfl, hx1⟩
  go_wp2_with fail
  refine (told_any _).mono ?_
  rintro e w2 ⟨rfl, hx2⟩
  go_wp2_with fail
  go_ret
  exact ⟨rfl, (hx0.trans hx1).trans hx2⟩
set_option maxRecDepth 100000 in
set_option maxHeartbeats 8000000 in
theorem teller_walk (A : Option Addr) (b off n cap : Nat) (l : List Ins) (pc halt : Int) (b' off' k cap' : Nat) (m : List Int) (d h : Int) (hd0 : 0 ≤ d) (hd1 : d ≤ 255) (hh0 : 0 ≤ h) (hh1 : h ≤ 255) (w : World)
    (hc : CourseAt w A b off n l pc halt b' off' k m) (hsm : smallC n k pc halt = true) :
    Calls Tryz.prog 11 #[.agg (courseC A n cap pc (some ⟨b', off', none⟩) k cap' halt), .int .u8 d, .int .u8 h] w fun e w' => e = .returned (.bool true) ∧ Ext w w' := by
  obtain ⟨k1, k2, h3, h4, h5, h6⟩ := rightS_inv hc.right
  obtain rfl := hc.at_
  have n1 := hc.n1
  have n2 := hc.n2
  obtain ⟨kk, hkk⟩ : ∃ kk : Nat, d % 7 = kk := ⟨(d % 7).toNat, by omega⟩
  have hk6 : kk ≤ 6 := by omega
  have hk6I : (kk : Int) ≤ 6 := by omega
  have hk0I : (0 : Int) ≤ kk := by omega
  obtain ⟨N, hN⟩ : ∃ N, N = 2 ^ kk := ⟨_, rfl⟩
  have hN64 : N ≤ 64 := by rw [hN]; exact Nat.le_trans (Nat.pow_le_pow_right (by omega) hk6) (by decide)
  have hN1 : 1 ≤ N := by rw [hN]; exact Nat.one_le_two_pow
  have hwN : IntKind.i64.wrap (2 ^ kk) = (N : Int) := by
    have : (2 : Int) ^ kk = (N : Int) := by rw [hN]; simp
    rw [this, IntKind.wrap_i64]; omega
  have hx0 : Ext w _ := (Kept.refl _ w).alloc (.cells (courseC (some ⟨b, off, none⟩) n cap pc (some ⟨b', off', none⟩) k cap' halt) 99)
  have hC0 := Blk.new w 99 (courseC (some ⟨b, off, none⟩) n cap pc (some ⟨b', off', none⟩) k cap' halt)
  have HC := Lib.hid hc
  have HOKT := Lib.hid (traj_okay (r := (pc, halt, m)) (by rw [← hc.n_eq]; exact n2) hc.okay)
  obtain ⟨C, hCe⟩ : ∃ C, C = codeR l := ⟨_, rfl⟩
  have HCE := Lib.hid hCe
  have HSM := Lib.hid hsm
  have HN := Lib.hid hN
  clear hc hCe hsm hN
  go_enter Tryz.func11, Tryz.ntmps11
  go_upto_region 2 with (fail)
  generalize (w.alloc (.cells (courseC (some ⟨b, off, none⟩) n cap pc (some ⟨b', off', none⟩) k cap' halt) 99)) = W at hx0 hC0 ⊢
  obtain ⟨cb, hcb⟩ : ∃ cb, cb = w.heap.size := ⟨_, rfl⟩
  rw [← hcb] at hC0 ⊢
  have hwc : w.heap.size ≤ cb := by omega
  clear hcb
  have i1 := Blk.has hC0
  have i2 := Blk.gets hC0
  have i4 := Blk.lt hC0
  go_wp2_with fail
  refine (small_any (some ⟨b, off, none⟩) n cap pc (some ⟨b', off', none⟩) k cap' halt _).mono ?_
  rintro e w1 ⟨rfl, hx1⟩
  rw [HSM.out]
  have hC1 := Blk.ext hC0 hx1
  have x1 := hx0.trans hx1
  clear i1 i2 i4 hC0 hx1 hx0
  have i3 := Blk.cell hC1
  have i4 := Blk.lt hC1
  go_wp2_with fail
  refine (owncode_any (some ⟨b, off, none⟩) b off cap l n HC.out.n_eq (by omega) (fun _ => rfl) _ (fun _ => HC.out.row.ext x1)).mono ?_
  rintro e w2 ⟨v2, rfl, ho2, hx2⟩
  obtain ⟨g2, c2, rfl, hrow2, _, _⟩ := own_rows ho2 n1 (by omega)
  have Q2 := Lib.hid hrow2
  have x2 := x1.trans hx2
  have hC2 := Blk.ext hC1 hx2
  clear ho2 i3 i4 hrow2 hC1 hx2 x1
  go_wp2_with fail
  have hwc2 := wcode_ok (some ⟨g2, 0, none⟩) g2 0 c2 l n HC.out.n_eq n1 n2 HC.out.iok (fun _ => rfl) w2 (fun _ => Q2.out)
  rw [← HCE.out] at hwc2
  refine hwc2.mono ?_
  rintro e w3 ⟨rfl, hx3⟩
  clear hwc2
  go_upto_region 6 with (fail)
  have y4 : Ext w2 (w3.alloc (.cells C.cells 30)) := hx3.alloc _
  have hP4 := Blk.new w3 30 C.cells
  have hpc : cb < w3.heap.size := (Blk.ext hC2 hx3).lt
  generalize (w3.alloc (.cells C.cells 30)) = W4 at y4 hP4 ⊢
  generalize (w3 : World).heap.size = pb at hP4 hpc ⊢
  have x4 := x2.trans y4
  have hC4 := Blk.ext hC2 y4
  have hrow4 := Q2.out.ext y4
  have Q4 := Lib.hid hrow4
  clear hC2 Q2 hrow4 hx3 y4 x2
  refine wp_region_3 (fun w2 => Ext W4 w2) [(0, 2), (1, 2), (2, 1), (4, 2), (5, 2), (3, 0), (6, 0), (7, 2), (8, 2), (9, 2), (10, 2), (11, 2)] (by kernel_rfl) (by kernel_rfl) (by kernel_rfl) (by kernel_rfl) ?_; intro l' hl'; simp only [List.map_cons, List.map_nil, List.getD_cons_zero, List.getD_cons_succ] at hl'; subst hl'
  (repeat (first | ((apply w3_pure); (· go_simp); (· (intro w1; go_simp; try with_reducible rfl)); (intro K hK; go_simp; refine hK _ _ ?_; clear hK K)) | ((apply w3_skip); (· go_simp); (intro K hK; go_simp; refine hK _ _ ?_; clear hK K)) | ((apply w3_take); (· exact (Kept.drew (Kept.refl _ _))); (· go_simp); (· (intro w1 hS; have d1 := Blk.has (Blk.ext hC4 hS); have d2 := Blk.gets (Blk.ext hC4 hS); have d3 := (Blk.ext hC4 hS).lt;  go_simp; try with_reducible rfl)); (intro K hK; go_simp; refine hK _ _ ?_; clear hK K)) | ((apply w3_pass); (· exact (Kept.drew (Kept.refl _ _))); (· go_simp); (intro K hK; go_simp; refine hK _ _ ?_; clear hK K))))
  have yW : Ext W4 W4.drew := (Kept.refl _ W4).drew
  (refine w3_act (fun K hK => ?_); go_simp)
  go_wp2_with fail
  refine (own_any pc halt b' off' cap' m k HC.out.k_eq k1 (by omega) _ (HC.out.mrow.ext (x4.trans yW))).mono ?_
  rintro e w5 ⟨v5, rfl, g5, c5, rfl, hm5, hx5⟩
  have y5 : Ext W4 w5 := yW.trans hx5
  simp only [stCells]
  refine hK.out _ _ (fun _ => y5) ?_
  clear hK K
  have hco : CourseAt w5 (some ⟨g2, 0, none⟩) g2 0 n l pc halt g5 0 k m := ⟨rfl, Q4.out.ext y5, HC.out.n_eq, n1, n2, HC.out.iok, HC.out.k_eq, HC.out.right, HC.out.mok, hm5.row, HC.out.ops.ext (x4.trans y5)⟩
  have HCO := Lib.hid hco
  clear hco hm5
  (repeat (first | ((apply w3_pure); (· go_simp); (· (intro w1; go_simp; try with_reducible rfl)); (intro K hK; go_simp; refine hK _ _ ?_; clear hK K)) | ((apply w3_skip); (· go_simp); (intro K hK; go_simp; refine hK _ _ ?_; clear hK K))))
  (refine w3_act (fun K hK => ?_); go_simp)
  go_wp2_with fail
  refine (trace_ok (some ⟨g2, 0, none⟩) g2 0 n c2 l pc halt g5 0 k c5 m N (by omega) w5 HCO.out).mono ?_
  rintro e w6 ⟨v6, rfl, ho6, hx6⟩
  obtain ⟨gt, ct, rfl, hrow6, _, _⟩ := own_rows ho6 (by omega) (by omega)
  have y6 : Ext W4 w6 := y5.trans hx6
  refine hK.out _ _ (fun _ => y6) ?_
  clear hK K
  (repeat (first | ((apply w3_pure); (· go_simp); (· (intro w1; go_simp; try with_reducible rfl)); (intro K hK; go_simp; refine hK _ _ ?_; clear hK K)) | ((apply w3_skip); (· go_simp); (intro K hK; go_simp; refine hK _ _ ?_; clear hK K)) | (refine w3_end (by kernel_rfl) (fun K hK => ?_); go_simp; refine hK.out _ _ ?_; clear hK K))); refine w3_nil ?_
  have x6 := x4.trans y6
  have hC6 := Blk.ext hC4 y6
  have hP6 := Blk.ext hP4 y6
  have hco6 := HCO.out.ext hx6
  obtain ⟨T, hT⟩ : ∃ T, T = (List.range (N + 1)).map (trD l (pc, halt, m)) := ⟨_, rfl⟩
  rw [← hT] at hrow6
  have hTl : T.length = N + 1 := by rw [hT]; simp
  have hTg : ∀ j (hj : j < T.length), T[j] = trD l (pc, halt, m) j := fun j hj => by subst hT; simp
  have HROW := Lib.hid hrow6
  have HCO6 := Lib.hid hco6
  have HTL := Lib.hid hTl
  have HTG := Lib.hid hTg
  have hgt := hrow6.lt
  obtain ⟨h0h, h0g⟩ := hrow6.dig 0 (by omega)
  obtain ⟨hnh, hng⟩ := hrow6.dig N (by omega)
  rw [hTg 0 (by omega)] at h0g
  rw [hTg N (by omega)] at hng
  obtain ⟨D0, hD0⟩ : ∃ D0, D0 = trD l (pc, halt, m) 0 := ⟨_, rfl⟩
  obtain ⟨DN, hDN⟩ : ∃ DN, DN = trD l (pc, halt, m) N := ⟨_, rfl⟩
  rw [← hD0] at h0g
  rw [← hDN] at hng
  simp only [Nat.zero_add, Nat.zero_mul] at h0h h0g hnh hng
  have HD0 := Lib.hid hD0
  have HDN := Lib.hid hDN
  clear hrow6 ho6 hT hTl hTg hD0 hDN hC4 hP4 Q4 HCO y5 y6 hx5 hx6 yW x4 hco6
  have hNI : (0 : Int) ≤ N := by omega
  have hNI2 : (N : Int) < (N : Int) + 1 := by omega
  have hNI3 : (N : Int) ≤ 64 := by omega
  go_upto_region 9 with (fail)
  refine wp_region_3 (fun w2 => Ext w6 w2) [(0, 1), (1, 2), (2, 2), (3, 2), (4, 2), (5, 2), (6, 1), (7, 2), (8, 2), (9, 2), (10, 2), (11, 1), (12, 0), (13, 2), (14, 2), (15, 2), (16, 2), (17, 2)] (by kernel_rfl) (by kernel_rfl) (by kernel_rfl) (by kernel_rfl) ?_; intro l' hl'; simp only [List.map_cons, List.map_nil, List.getD_cons_zero, List.getD_cons_succ] at hl'; subst hl'
  (repeat (first | ((apply w3_pure); (· go_simp); (· (intro w1; go_simp; try with_reducible rfl)); (intro K hK; go_simp; refine hK _ _ ?_; clear hK K)) | ((apply w3_skip); (· go_simp); (intro K hK; go_simp; refine hK _ _ ?_; clear hK K)) | ((apply w3_take); (· exact (Kept.drew (Kept.refl _ _))); (· go_simp); (· (intro w1 hS; have d1 := Blk.has (Blk.ext hP6 hS); have d2 := Blk.gets (Blk.ext hP6 hS); have d3 := (Blk.ext hP6 hS).lt; have d4 := has_ext hS hgt h0h; have d5 := gets_ext hS hgt h0g; have d6 := has_ext hS hgt hnh; have d7 := gets_ext hS hgt hng; have d8 := Nat.lt_of_lt_of_le hgt hS.size;  go_simp; try with_reducible rfl)); (intro K hK; go_simp; refine hK _ _ ?_; clear hK K)) | ((apply w3_pass); (· exact (Kept.drew (Kept.refl _ _))); (· go_simp); (intro K hK; go_simp; refine hK _ _ ?_; clear hK K))))
  (refine w3_act (fun K hK => ?_); go_simp)
  go_wp2_with fail
  refine (new_ok C D0 DN n kk hk0I (by omega) (by omega) (by omega) _).mono ?_
  rintro e w7 ⟨g, hg, rfl, hA7, hx7⟩
  have y7 : Ext w6 w7 := ((Kept.refl _ w6).drew).trans hx7
  refine hK.out _ _ (fun _ => y7) ?_
  clear hK K
  (repeat (first | ((apply w3_pure); (· go_simp); (· (intro w1; go_simp; try with_reducible rfl)); (intro K hK; go_simp; refine hK _ _ ?_; clear hK K)) | ((apply w3_skip); (· go_simp); (intro K hK; go_simp; refine hK _ _ ?_; clear hK K)) | (refine w3_end (by kernel_rfl) (fun K hK => ?_); go_simp; refine hK.out _ _ ?_; clear hK K))); refine w3_nil ?_
  replace hg : w6.heap.size ≤ g := hg
  have hA7' : At w7 g ⟨(0 : Nat), (N : Nat), D0, DN, C, n, 0, Dg.zero, -1⟩ := by
    have e : (2 : Int) ^ (kk : Int).toNat = (N : Int) := by rw [Int.toNat_natCast, HN.out]; simp
    rw [e] at hA7
    exact hA7
  clear hA7 h0h h0g hnh hng hx7
  go_wp2_with fail
  go_loopw [15] (fun t15 wr => ∃ (i F s : Nat), i ≤ kk ∧ t15 = .int .i64 i ∧ s = 2 ^ (kk - i) ∧ F + s ≤ N ∧ At wr g ⟨F, s, trD l (pc, halt, m) F, trD l (pc, halt, m) (F + s), C, n, 0, Dg.zero, -1⟩ ∧ Ext w6 wr) (fun t15 _ => kk - (intOf t15).toNat)
  case atStart => exact ⟨0, 0, N, Nat.zero_le _, rfl, HN.out, by omega, by rw [← HD0.out, Nat.zero_add, ← HDN.out]; exact hA7', y7⟩
  case round =>
    obtain ⟨i, F, s, hi, rfl, hs, hFs, hAt, hxt⟩ := hrel
    clear hA7' y7
    by_cases hlt : i < kk
    · obtain ⟨hf, hhf⟩ : ∃ hf, hf = 2 ^ (kk - (i + 1)) := ⟨_, rfl⟩
      have hs2 : s = 2 * hf := by rw [hs, hhf]; exact pow_halfH kk i hlt
      have hf1 : 1 ≤ hf := by rw [hhf]; exact Nat.one_le_two_pow
      have hltI : (i : Int) < kk := by omega
      have hi0 : (0 : Int) ≤ i := by omega
      have hi6 : (i : Int) ≤ 6 := by omega
      have hrow := HROW.out.ext hxt
      obtain ⟨hmh, hmg⟩ := hrow.dig (F + hf) (by have := HTL.out; omega)
      rw [HTG.out (F + hf) (by have := HTL.out; omega)] at hmg
      have hgl := hrow.lt
      obtain ⟨Da, hDa⟩ : ∃ Da, Da = trD l (pc, halt, m) F := ⟨_, rfl⟩
      obtain ⟨Dm, hDm⟩ : ∃ Dm, Dm = trD l (pc, halt, m) (F + hf) := ⟨_, rfl⟩
      obtain ⟨Dz, hDz⟩ : ∃ Dz, Dz = trD l (pc, halt, m) (F + s) := ⟨_, rfl⟩
      rw [← hDm] at hmg
      rw [← hDa, ← hDz] at hAt
      simp only [Nat.zero_add] at hmh hmg
      have hsI : (2 : Int) ≤ s := by omega
      have hFI : (0 : Int) ≤ F := by omega
      have hFsI : (F : Int) + s ≤ N := by omega
      have hq1 : (s : Int) / 2 = hf := by omega
      have hq2 : (s : Int).tdiv 2 = hf := by rw [Int.tdiv_eq_ediv_of_nonneg (by omega)]; omega
      have hFm : (F : Int) + hf < (N : Int) + 1 := by omega
      have hFm2 : (F : Int) + hf ≤ 64 := by omega
      have HS := Lib.hid hs
      have HHF := Lib.hid hhf
      have HS2 := Lib.hid hs2
      have HDa := Lib.hid hDa
      have HDm := Lib.hid hDm
      have HDz := Lib.hid hDz
      clear hs hhf hs2 hDa hDm hDz hrow
      go_wp2_with fail
      refine (span_any g _ _ hAt).mono ?_
      rintro e w8 ⟨rfl, hx8⟩
      simp only
      go_upto_region 16 with (fail)
      have y9 : Ext wr ((w8.alloc (.cells Da.cells 30)).alloc (.cells Dz.cells 30)) := (hx8.alloc _).alloc _
      generalize ((w8.alloc (.cells Da.cells 30)).alloc (.cells Dz.cells 30)) = W9 at y9 ⊢
      generalize (w8 : World).heap.size = q8
      have hA9 := Blk.ext hAt y9
      have m1 := has_ext y9 hgl hmh
      have m2 := gets_ext y9 hgl hmg
      have m3 := Nat.lt_of_lt_of_le hgl y9.size
      clear hAt hx8 hmh hmg
      go_wp2_with fail
      refine (turn_any g _ _ hA9).mono ?_
      rintro e w10 ⟨rfl, rfl⟩
      simp only
      go_wp2_with fail
      refine (tell_go g F s (by omega) Da Dz C Dm n _ hA9).mono ?_
      rintro e w11 ⟨rfl, hA11, hk11⟩
      clear m1 m2 m3
      go_wp2_with fail
      refine (turn_any g _ _ hA11).mono ?_
      rintro e w12 ⟨rfl, rfl⟩
      simp only
      go_wp2_with fail
      refine (choose_go g F s hf HS2.out hf1 (by omega) (by omega) Da Dz C Dm n _ _ hA11).mono ?_
      rintro e w12 ⟨rfl, hA12, hk12⟩
      have hx12 : Ext w6 w12 := ((hxt.trans y9).trans' hk11 (fun i hi e => by omega)).trans' hk12 (fun i hi e => by omega)
      have HA12 := Lib.hid hA12
      clear hA12 hA11 hA9 hk11 hk12 hq1 hq2
      go_wp2_with fail
      go_roundw
      case rel =>
        have hA := HA12.out
        split at hA
        · refine ⟨i + 1, F, hf, hlt, by go_num, HHF.out, by omega, ?_, hx12⟩
          rw [← HDa.out, ← HDm.out]
          exact hA
        · refine ⟨i + 1, F + hf, hf, hlt, by go_num, HHF.out, by have := HS2.out; omega, ?_, hx12⟩
          rw [← HDm.out, show F + hf + hf = F + s by have := HS2.out; omega, ← HDz.out]
          exact hA
      case measure => simp only [intOf]; omega
    · have ei : i = kk := by omega
      subst ei
      have hs1 : s = 1 := by rw [hs]; simp
      subst hs1
      have hF64 : F < N := by omega
      have hFI : (0 : Int) ≤ F := by omega
      have hFN : (F : Int) < N := by omega
      obtain ⟨Da, hDa⟩ : ∃ Da, Da = trD l (pc, halt, m) F := ⟨_, rfl⟩
      obtain ⟨Dz, hDz⟩ : ∃ Dz, Dz = trD l (pc, halt, m) (F + 1) := ⟨_, rfl⟩
      rw [← hDa, ← hDz] at hAt
      have hck := chk_trace l (by rw [← HC.out.n_eq]; exact n2) (pc, halt, m) HC.out.okay F
      rw [← hDa, ← hDz] at hck
      have HCK := Lib.hid hck
      have hlt' : ¬ (i : Int) < i := by omega
      clear hs hDa hDz hck
      go_wp2_with fail
      refine (span_any g _ _ hAt).mono ?_
      rintro e w8 ⟨rfl, hx8⟩
      simp only
      go_upto_region 21 with (fail)
      have y9 : Ext wr ((w8.alloc (.cells Da.cells 30)).alloc (.cells Dz.cells 30)) := (hx8.alloc _).alloc _
      generalize ((w8.alloc (.cells Da.cells 30)).alloc (.cells Dz.cells 30)) = W9 at y9 ⊢
      generalize (w8 : World).heap.size = q8
      have hA9 := Blk.ext hAt y9
      have y69 : Ext w6 W9 := hxt.trans y9
      have hC9 := Blk.ext hC6 y69
      have j1 := Blk.has hC9
      have j2 := Blk.gets hC9
      have j3 := hC9.lt
      clear hAt hx8
      go_wp2_with fail
      refine (states_any (some ⟨b, off, none⟩) b off n cap l pc halt b' off' k cap' m F (by omega) W9 (HC.out.ext (x6.trans y69))).mono ?_
      rintro e w10 ⟨v10, ss, rfl, ho10, hv10, hx10⟩
      obtain ⟨g10, c10, rfl, hrow10, _, _⟩ := own_rows ho10 (by omega) (by omega)
      have hlen := hv10.len
      simp only [List.length_map, List.length_range] at hlen
      obtain ⟨hrh, hrg⟩ := rowsL_row sm_size hrow10 F (by omega)
      have hsv := hv10.get F (by omega) (by simp)
      simp only [List.getElem_map, List.getElem_range] at hsv
      obtain ⟨s0, hse⟩ : ∃ s0, s0 = ss[F] := ⟨_, rfl⟩
      rw [← hse] at hrg hsv
      obtain ⟨hpc', hha, hsn, bs, hsm⟩ := hsv
      obtain ⟨hok, hokl⟩ := HOKT.out F
      obtain ⟨r, hr⟩ : ∃ r, r = trajI l (pc, halt, m) F := ⟨_, rfl⟩
      rw [← hr] at hpc' hha hsn hsm hok hokl
      have hck2 := HCK.out
      rw [← hr] at hck2
      obtain ⟨rpc, rha, rm⟩ := r
      obtain ⟨spc, sha, sg, sn, sc⟩ := s0
      simp only at hpc' hha hsn hsm hok hokl hrg
      subst hpc' hha
      have HSM2 := Lib.hid hsm
      have HSN := Lib.hid hsn
      have HOKJ := Lib.hid hok
      have HCK2 := Lib.hid hck2
      have hgl := hrow10.lt
      simp only [Nat.zero_add] at hrh hrg
      have hF1 : (F : Int) < (F : Int) + 1 := by omega
      have y10 : Ext w6 w10 := y69.trans hx10
      have hA10 := Blk.ext hA9 hx10
      have hco10 := HCO6.out.ext y10
      have HCO10 := Lib.hid hco10
      clear hr hse hsm hsn hok hokl hlen hrow10 ho10 hv10 hck2 hA9 j1 j2 j3 hco10 HCK
      go_wp2_with fail
      refine (make_ok (some ⟨g2, 0, none⟩) g2 0 c2 l n HC.out.n_eq n1 n2 HC.out.iok (fun _ => rfl) spc sha (some ⟨sg, 0, none⟩) sg 0 sc rm sn HSN.out (by rw [HSN.out]; exact HOKJ.out.right) (fun _ => rfl) HOKJ.out.mok w10 HCO10.out.ops (fun _ => HCO10.out.row) (fun _ => HSM2.out.row)).mono ?_
      rintro e w11 ⟨s, rfl, hsv, hx11⟩
      clear hrh hrg
      go_upto_region 24 with (fail)
      have y12 : Ext w10 (w11.alloc (.cells s.cells 45)) := hx11.alloc _
      have hN12 := Blk.new w11 45 s.cells
      have hv12 := hsv.ext ((Kept.refl _ w11).alloc (.cells s.cells 45))
      generalize (w11.alloc (.cells s.cells 45)) = W12 at y12 hN12 hv12 ⊢
      generalize (w11 : World).heap.size = p12 at hN12 ⊢
      have hA12 := Blk.ext hA10 y12
      have y612 := y10.trans y12
      have HV12 := Lib.hid hv12
      have j1 := Blk.has hN12
      have j2 := Blk.gets hN12
      have j3 := hN12.lt
      clear hsv hx11 hA10 hv12
      go_wp2_with fail
      have hpr := prove_any g ⟨F, (1 : Nat), Da, Dz, C, n, 0, Dg.zero, -1⟩ s.cells 0 W12 hA12 rfl (by simp) (fun w' hx => by
        have := check_made s l n HC.out.n_eq n1 n2 (spc, sha, rm) Da Dz HOKJ.out HC.out.iok w' ((HCO10.out.ext y12).ops.ext hx) (HV12.out.ext hx)
        rw [HCK2.out, ← HCE.out] at this
        exact this)
      have e1 : proveE ⟨F, (1 : Nat), Da, Dz, C, n, 0, Dg.zero, -1⟩ 0 = 0 := by simp [proveE, askedE]
      have e2 : proveT ⟨F, (1 : Nat), Da, Dz, C, n, 0, Dg.zero, -1⟩ 0 = ⟨F, (1 : Nat), Da, Dz, C, n, -1, Dg.zero, 0⟩ := by simp [proveT, askedE]
      rw [e1, e2] at hpr
      refine hpr.mono ?_
      rintro e w13 ⟨rfl, hA13, hk13⟩
      clear hpr e1 e2 j1 j2 j3
      go_wp2_with fail
      refine (winner_any g _ _ hA13).mono ?_
      rintro e w14 ⟨rfl, hx14⟩
      simp only
      go_wp2_with fail
      refine (told_any _).mono ?_
      rintro e w15 ⟨rfl, hx15⟩
      go_wp2_with fail
      go_ret
      exact ⟨rfl, (((x6.trans y612).trans' hk13 (fun i hi e => by have := x6.size; omega)).trans hx14).trans hx15⟩
end Go.Proofs.YtahljceanodhkaaGreatDoor

/- The table of operations that the program's text lays: where the walks read it. -/
namespace Go.Proofs.YtahljceanodhkaaGreatDoor
open Go.RowKit Go.ChangeShapes Go.WideShapes Go.ChangeAt
/-- what laid_baize_code_operations says of operation k -/
def opD (k : Nat) : Option (List UInt8) := match (Rows.laid_baize_code_operations : DataW Unit) with
  | .agg l => match l[k]? with | some (.agg [_, .lit (.string s)]) => some s | _ => none
  | _ => none
theorem opD_all : ∀ k, k < 22 → opD k = some (hasN k) := by decide
theorem opsAt_of {w : World} {cs : Array Value} {fuel : Nat} {p : List MemPlace} {enc : TypeId × Value → Unit} {held : Bool} (hv : w.var? Tryz.prog "baize/code.operations" = some cs) (h : DataW.trod enc Tryz.prog w 0 (fun _ => true) held fuel 275 cs.toList = some (Rows.laid_baize_code_operations, p)) : OpsAt w := by
  obtain ⟨xs, m, rfl, hx, hl, hn, hall⟩ := DataW.trod_array Tryz.underlying275 h
  have hD : (Rows.laid_baize_code_operations : DataW Unit) = .agg (xs.map (·.1)) := congrArg Prod.fst hx
  have hce : Tryz.prog.cellsOf 274 = 2 := by kernel_rfl
  have hct : Tryz.prog.cellsOf 9 = 1 := by kernel_rfl
  have key : ∀ k, k < 22 → cs[k * 2 + 1]? = some (.string (hasS k)) := fun k hk => by
    have h1 := hall k hk
    rw [hce] at h1
    have hxk : xs[k]? = some xs[k] := List.getElem?_eq_getElem (by omega)
    rw [hxk] at h1
    obtain ⟨y0, y1, n', e1, _, _, e2⟩ := trod_struct2 Tryz.underlying274 h1
    obtain ⟨s, e3, e4, _⟩ := DataW.trod_string Tryz.underlying9 e2
    have h2 := opD_all k hk
    unfold opD at h2
    rw [hD] at h2
    simp only [List.getElem?_map, hxk, Option.map_some, e1, e4, Option.some.injEq] at h2
    rw [hct] at e3
    have e5 := congrArg (·[0]?) e3
    simp [List.getElem?_take, List.getElem?_drop] at e5
    rw [e5]
    unfold hasS
    rw [← h2]
  have hg : Tryz.prog.globalNamed "baize/code.operations" = some 0 := by kernel_rfl
  have hcell := fun i => World.var?_cell hg hv i
  have hat : ∀ k, k < 22 → w.cell? ⟨0, k * 2 + 1, none⟩ = some (.string (hasS k)) := fun k hk => (hcell _).trans (key k hk)
  refine ⟨?_, hat⟩
  rcases Nat.lt_or_ge 0 w.heap.size with h0 | h0
  · exact h0
  · have := hat 0 (by omega)
    unfold World.cell? at this
    rw [Array.getElem?_eq_none h0] at this
    cases this
theorem opsAt_laid {w : World} (h : laidMetH Tryz.prog Rows.witnessSmallRow.laid w) : OpsAt w := by
  have h' : laidMet Tryz.prog Rows.witnessSmallRow.laid w := h
  obtain ⟨ps, ⟨_, _, _, _, _, _, _, _, _, _, ⟨_, _, _, _, _, _, _, _, _, _, ⟨_, _, _, _, _, _, _, _, _, _, ⟨g, t, cs, fuel, p, q, hg, ht, hv, hd, _, _⟩, _⟩, _⟩, _⟩, _⟩ := h'
  have hg' : Tryz.prog.globalNamed "baize/code.operations" = some 0 := by kernel_rfl
  obtain rfl := Option.some.inj (hg'.symm.trans hg)
  have ht' : (Tryz.prog.globals[0]?).map (·.type) = some 275 := by kernel_rfl
  obtain rfl := Option.some.inj (ht'.symm.trans ht)
  exact opsAt_of hv hd
end Go.Proofs.YtahljceanodhkaaGreatDoor

/- HalveTeller, of all that may come in. -/
namespace Go.Proofs.YtahljceanodhkaaGreatDoor
open Go.RowKit Go.ChangeShapes Go.WideShapes
section
variable {H : Type} {enc : TypeId × Value → H} {w : World} {base : Nat} {spare : Nat → Bool} {held : Bool}
theorem cellsCo2 : Tryz.prog.cellsOf 99 = 4 := by kernel_rfl
theorem cellsIs2 : Tryz.prog.cellsOf 58 = 1 := by kernel_rfl
set_option maxRecDepth 100000 in
/-- a course that came in -/
theorem course_of2 {fuel : Nat} {cs : List Value} {x : DataW H × List MemPlace} (h : DataW.trod enc Tryz.prog w base spare held fuel 99 cs = some x) :
    ∃ (A : Option Addr) (b off n cap : Nat) (l : List Ins) (pc halt : Int) (A' : Option Addr) (b' off' k cap' : Nat) (m : List Int), cs = (courseC A n cap pc A' k cap' halt).toList ∧ (0 < n → A = some ⟨b, off, none⟩) ∧ n = l.length ∧ (0 < n → Row w b off (inss l)) ∧ (∀ i ∈ l, i.ok) ∧
      (0 < k → A' = some ⟨b', off', none⟩) ∧ k = m.length ∧ (0 < k → Row w b' off' (mems m)) ∧ (∀ i ∈ m, i32ok i) := by
  obtain ⟨xs, n, _, _, hl, hxl, hf⟩ := DataW.trod_struct Tryz.underlying99 h
  rw [cellsCo2] at hl
  have h0 : DataW.trod enc Tryz.prog w base spare held n 58 ((cs.drop 0).take (Tryz.prog.cellsOf 58)) = xs[0]? := hf 0 _ rfl
  have h1 : DataW.trod enc Tryz.prog w base spare held n 61 ((cs.drop 1).take (Tryz.prog.cellsOf 61)) = xs[1]? := hf 1 _ rfl
  rw [cellsIs2] at h0
  rw [cellsSt] at h1
  have hx2 : xs.length = 2 := hxl
  obtain ⟨y0, k0⟩ := field_at (T := 0) (by omega) h0
  obtain ⟨y1, k1⟩ := field_at (T := 0) (by omega) h1
  match cs, hl with
  | [c0, c1, c2, c3], _ =>
    obtain ⟨A, b, off, n, cap, l, e0, hA, hn, hr, hok, _, _⟩ := inss_of k0
    obtain ⟨pc, halt, A', b', off', k, cap', m, e1, hpc, hha, hA', hk, hr', hmok, _, _⟩ := state_of k1
    simp at e0 e1
    obtain ⟨rfl, rfl, rfl⟩ := e1
    subst e0
    exact ⟨A, b, off, n, cap, l, pc, halt, A', b', off', k, cap', m, rfl, hA, hn, hr, hok, hA', hk, hr', hmok⟩
end
theorem opsAt_laid_of2 {laid : List (String × DataW Unit)} {w : World} (hl : laid = Rows.witnessSmallRow.laid) (h : laidMetH Tryz.prog laid w) : OpsAt w := by
  subst hl
  exact opsAt_laid h
namespace halveTeller
set_option maxRecDepth 100000 in
theorem walk {H : Type} {enc : TypeId × Value → H} (W : World) (base : Nat) (v0 v1 v2 : Value) (d0 d1 d2 : DataW H) (p0 p1 p2 : List MemPlace)
    (o0 : Value.okWide Tryz.prog W .any base 99 v0) (o1 : Value.okWide Tryz.prog W .any base 5 v1) (o2 : Value.okWide Tryz.prog W .any base 5 v2)
    (h0 : DataW.Trod enc Tryz.prog W 0 (fun _ => true) true 99 v0 d0 p0) (h1 : DataW.Trod enc Tryz.prog W 0 (fun _ => true) true 5 v1 d1 p1) (h2 : DataW.Trod enc Tryz.prog W 0 (fun _ => true) true 5 v2 d2 p2) (hL : laidMetH Tryz.prog Rows.halveTellerRow.laid W) :
    Calls Tryz.prog 11 #[v0, v1, v2] W fun e w' => e = .returned (.bool true) ∧ Ext W w' := by
  obtain ⟨a1, rfl, rfl, rfl, w1⟩ := open_int Tryz.underlying5 o1 h1
  have q1 : 0 ≤ a1 ∧ a1 ≤ 255 := by simpa [Lit.wf, IntKind.min, IntKind.max, IntKind.signed, IntKind.bits] using w1
  obtain ⟨a2, rfl, rfl, rfl, w2⟩ := open_int Tryz.underlying5 o2 h2
  have q2 : 0 ≤ a2 ∧ a2 ≤ 255 := by simpa [Lit.wf, IntKind.min, IntKind.max, IntKind.signed, IntKind.bits] using w2
  obtain ⟨cs, rfl⟩ : ∃ cs, v0 = .agg cs := by
    simp only [Value.okWide, Tryz.underlying99] at o0
    obtain ⟨cs, h1, _⟩ := o0
    exact ⟨cs, h1⟩
  obtain ⟨fuel, hf⟩ := h0
  obtain ⟨A, b, off, n, cap, l, pc, halt, A', b', off', k, cap', m, e, hA, hn, hr, hok, hA', hk, hr', hmok⟩ := course_of2 hf
  obtain rfl : cs = courseC A n cap pc A' k cap' halt := by
    cases cs
    simpa [Value.cells] using e
  cases hb : smallC n k pc halt
  · exact teller_not A n cap pc A' k cap' halt a1 a2 q1.1 W hb
  · have hs3 := hb
    simp [smallC] at hs3
    obtain ⟨⟨⟨n1, n2⟩, k2⟩, hright⟩ := hs3
    obtain ⟨k1, _⟩ := rightS_inv hright
    obtain rfl := hA' k1
    exact teller_walk A b off n cap l pc halt b' off' k cap' m a1 a2 q1.1 q1.2 q2.1 q2.2 W ⟨hA n1, hr n1, hn, n1, by omega, hok, hk, hright, hmok, hr' k1, opsAt_laid_of2 rfl hL⟩ hb
end halveTeller
end Go.Proofs.YtahljceanodhkaaGreatDoor
