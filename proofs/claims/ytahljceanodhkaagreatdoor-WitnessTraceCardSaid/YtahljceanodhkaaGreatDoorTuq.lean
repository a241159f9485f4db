/- Several texts joined: Xf, Zm, Zk, Ww, Zl. -/
import Derived.OpenShut
import Derived.ChangeArms
import Derived.ChangeSame
import Derived.Lib.LaidTab
import Derived.Test.YtahljceanodhkaaGreatDoorTtf
import Derived.Test.YtahljceanodhkaaGreatDoorTuo
import Derived.Test.YtahljceanodhkaaGreatDoorTug
import Derived.Test.YtahljceanodhkaaGreatDoorTun
import Derived.Test.YtahljceanodhkaaGreatDoorTup
/- Package witness: After and Check of a step that was made, whole. -/
namespace Go.Proofs.YtahljceanodhkaaGreatDoor
open Go.RowKit
theorem dgN_true {H B : Dg} (h : dgB H B = false) : (!H.x0 == B.x0 || (!H.x1 == B.x1 || (!H.x2 == B.x2 || (!H.x3 == B.x3 || (!H.x4 == B.x4 || (!H.x5 == B.x5 || (!H.x6 == B.x6 || !H.x7 == B.x7))))))) = true := by
  unfold dgB at h
  rw [← Bool.not_eq_true'] at h
  simpa [Bool.not_and] using h
set_option maxRecDepth 100000 in
set_option maxHeartbeats 2000000 in
theorem after_other (s : Ws) (p B : Dg) (size : Int) (w : World) (hm : s.mem.ok) (hs1 : 1 ≤ size) (hs2 : size ≤ 2048) (hr : rightS s.pc s.halt s.words = true) (hne : dgB (hHead s.pc s.halt s.words s.mem) B = false) :
    Calls Tryz.prog 37 #[.agg #[.int .u8 p.x0, .int .u8 p.x1, .int .u8 p.x2, .int .u8 p.x3, .int .u8 p.x4, .int .u8 p.x5, .int .u8 p.x6, .int .u8 p.x7], .int .i64 size, .agg B.cells, .agg s.cells] w fun e w' => e = .returned (.tuple #[.agg Dg.zero.cells, .int .i64 23]) ∧ Ext w w' := by
  obtain ⟨h1, h2, h3, h4, h5, h6⟩ : 1 ≤ s.words ∧ s.words ≤ 256 ∧ 0 ≤ s.pc ∧ s.pc ≤ 2048 ∧ 0 ≤ s.halt ∧ s.halt ≤ 2 := by
    simp [rightS] at hr
    omega
  have HM := Lib.hid hm
  have HR := Lib.hid hr
  clear hm hr
  obtain ⟨H, hH⟩ : ∃ H, H = hHead s.pc s.halt s.words s.mem := ⟨_, rfl⟩
  rw [← hH] at hne
  have HH := Lib.hid hH
  have HNE := Lib.hid hne
  clear hH hne
  have hx0 : Ext w _ := ((((Kept.refl _ w).alloc (.cells #[.int .u8 p.x0, .int .u8 p.x1, .int .u8 p.x2, .int .u8 p.x3, .int .u8 p.x4, .int .u8 p.x5, .int .u8 p.x6, .int .u8 p.x7] 30)).alloc (.cells B.cells 30)).alloc (.cells s.cells 45)).alloc (.cells Dg.zero.cells 30)
  have hB0 : Blk _ (w.heap.size + 1) 30 B.cells := Blk.alloc (Blk.alloc (Blk.new' (w.alloc (.cells #[.int .u8 p.x0, .int .u8 p.x1, .int .u8 p.x2, .int .u8 p.x3, .int .u8 p.x4, .int .u8 p.x5, .int .u8 p.x6, .int .u8 p.x7] 30)) _ B.cells _ (by simp)) (.cells s.cells 45)) (.cells Dg.zero.cells 30)
  have hS0 : Blk _ (w.heap.size + 1 + 1) 45 s.cells := Blk.alloc (Blk.new' ((w.alloc (.cells #[.int .u8 p.x0, .int .u8 p.x1, .int .u8 p.x2, .int .u8 p.x3, .int .u8 p.x4, .int .u8 p.x5, .int .u8 p.x6, .int .u8 p.x7] 30)).alloc (.cells B.cells 30)) _ s.cells _ (by simp)) (.cells Dg.zero.cells 30)
  have hR0 : Blk _ (w.heap.size + 1 + 1 + 1) 30 Dg.zero.cells := Blk.new' (((w.alloc (.cells #[.int .u8 p.x0, .int .u8 p.x1, .int .u8 p.x2, .int .u8 p.x3, .int .u8 p.x4, .int .u8 p.x5, .int .u8 p.x6, .int .u8 p.x7] 30)).alloc (.cells B.cells 30)).alloc (.cells s.cells 45)) _ _ _ (by simp)
  go_enter Tryz.func37, Tryz.ntmps37
  go_wp2_with fail
  refine (sright_any s _).mono ?_
  rintro e w1 ⟨rfl, hx1⟩
  rw [HR.out]
  have y1 := hx0.trans hx1
  have hB1 := Blk.ext hB0 hx1
  have hS1 := Blk.ext hS0 hx1
  have hR1 := Blk.ext hR0 hx1
  clear hx0 hx1 hB0 hS0 hR0
  have hlS := Blk.lt hS1
  have hlR := Blk.lt hR1
  go_wp2_with fail
  refine wp_region_3 (fun w2 => Ext w1 w2) [(0, 2), (1, 1), (2, 2), (3, 1), (4, 2), (5, 1), (6, 2), (7, 1), (9, 1), (8, 0), (10, 2)] (by kernel_rfl) (by kernel_rfl) (by kernel_rfl) (by kernel_rfl) ?_; intro l' hl'; simp only [List.map_cons, List.map_nil, List.getD_cons_zero, List.getD_cons_succ] at hl'; subst hl'
  (repeat (first | ((apply w3_pure); (· go_simp); (· (intro w1; go_simp; try with_reducible rfl)); (intro K hK; go_simp; refine hK _ _ ?_; clear hK K)) | ((apply w3_skip); (· go_simp); (intro K hK; go_simp; refine hK _ _ ?_; clear hK K)) | ((apply w3_take); (· exact (Kept.drew (Kept.refl _ _))); (· go_simp); (· (intro w1 hS; have d1 := Blk.ext hS1 hS; have d2 := Blk.ext hB1 hS; have d3 := Blk.cell d1; have d4 := Blk.has d1; have d5 := Blk.gets d1; have d6 := Blk.has d2; have d7 := Blk.gets d2;  go_simp; try with_reducible rfl)); (intro K hK; go_simp; refine hK _ _ ?_; clear hK K)) | ((apply w3_pass); (· exact (Kept.drew (Kept.refl _ _))); (· go_simp); (intro K hK; go_simp; refine hK _ _ ?_; clear hK K))))
  (refine w3_act (fun K hK => ?_); go_simp)
  go_wp2_with fail
  refine (head_any s.pc s.halt s.words s.mem HM.out (by omega) (by omega) (by omega) _).mono ?_
  rintro e w2 ⟨e2, hx2⟩
  replace e2 : e = .returned (.agg H.cells) := by rw [e2, HH.out]
  subst e2
  have y2 : Ext w1 w2 := ((Kept.refl _ w1).drew).trans hx2
  refine hK.out _ _ (fun _ => y2) ?_
  clear hK K
  (repeat (first | ((apply w3_pure); (· go_simp); (· (intro w1; go_simp; try with_reducible rfl)); (intro K hK; go_simp; refine hK _ _ ?_; clear hK K)) | ((apply w3_skip); (· go_simp); (intro K hK; go_simp; refine hK _ _ ?_; clear hK K)) | (refine w3_end (by kernel_rfl) (fun K hK => ?_); go_simp; refine hK.out _ _ ?_; clear hK K))); refine w3_nil ?_
  have hR2 := Blk.ext hR1 y2
  have hh2 := Blk.has hR2
  have hm2 := Blk.melts hR2
  rw [dgN_true HNE.out]
  go_wp2_with fail
  refine ret_ci Tryz.results37 rfl rfl aggDig (by exact sizeDig) (Blk.put_ hR2 _ _) ⟨rfl, ?_⟩
  exact Kept.putAt (y1.trans y2) _ _ _ (fun h => by omega)
set_option maxRecDepth 100000 in
set_option maxHeartbeats 4000000 in
theorem after_goes (s : Ws) (l : List Ins) (n : Nat) (hn : n = l.length) (h2 : n ≤ 2048) (x : Nat) (hxn : x < n) (m : List Int) (k : Nat) (hk : k = m.length) (hg : rightS x 0 k = true) (hok : ∀ i ∈ l, i.ok) (hmok : ∀ z ∈ m, i32ok z) (w : World) (hops : OpsAt w) (hv : StepV w s (makeL l x 0 m)) :
    Calls Tryz.prog 37 #[.agg (codeR l).cells, .int .i64 n, .agg (hHead x 0 k (memR m)).cells, .agg s.cells] w fun e w' => e = .returned (.tuple #[.agg (nextR l x 0 m).cells, .int .i64 0]) ∧ Ext w w' := by
  obtain ⟨k1, k2, _⟩ := rightS_inv hg
  have hok1 : Okay (x : Int) 0 m := ⟨by rw [← hk]; exact hg, hmok⟩
  have hnx := step_okay (c := l) (by rw [← hn]; exact h2) hok1
  obtain ⟨p, hh, m1, hst⟩ : ∃ p hh m1, stepI l x m = (p, hh, m1) := ⟨_, _, _, rfl⟩
  rw [hst] at hnx
  obtain ⟨hok2, hlen2⟩ := hnx
  obtain ⟨_, _, q3, q4, q5, q6⟩ := rightS_inv hok2.right
  simp only at q3 q4 q5 q6 hlen2
  obtain ⟨R, hR⟩ : ∃ R, R = nextR l x 0 m := ⟨_, rfl⟩
  have hR' : R = hHead p hh k (memR m1) := by rw [hR, nextR, runI, if_pos rfl, hst, hk]
  rw [← hR]
  clear hR hok1 hok2
  have hxl : x < l.length := by omega
  obtain ⟨i, hli⟩ : ∃ i, l.getD x ⟨0, 0, 0, 0⟩ = i := ⟨_, rfl⟩
  have hlx : l[x] = i := by rw [← hli]; simp [hxl]
  have hiok : i.ok := by rw [← hlx]; exact hok _ (List.getElem_mem hxl)
  have hL : makeL l x 0 m = ⟨x, 0, k, memR m, i, pathT (l.map ileaf) (hgt l.length) x, (mreads l x 0 m).1.map (showW m), if 0 ≤ (mreads l x 0 m).2 then [showW m (mreads l x 0 m).2] else []⟩ := by
    unfold makeL
    rw [if_neg (by omega), Int.toNat_natCast, hli, hk]
  have hvv := hv
  rw [hL] at hv
  obtain ⟨e1, e2, e3, e4, e5, vp, vr, vw⟩ := hv
  obtain ⟨spc, shalt, swords, smem, sins, spa, spn, spk, sra, srn, srk, swa, swn, swk⟩ := s
  simp only at e1 e2 e3 e4 e5 vp vr vw
  replace e5 := e5.symm
  obtain ⟨M, hM⟩ : ∃ M, M = memR m := ⟨_, rfl⟩
  rw [← hM] at e4 ⊢
  replace e4 := e4.symm
  subst e1 e2 e3 e4 e5
  obtain ⟨pb, po, hp⟩ := vp
  have hpn : spn = hgt n := by rw [hp.len, pathT_len, hn]
  have hck : checkT (codeR l) (x : Int) (ileaf i) (pathT (l.map ileaf) (hgt l.length) x) = true := by
    have := check_path (l := l.map ileaf) (i := (x : Int)) (by omega) (by simpa using hxl) (by simp; omega)
    rw [List.length_map, Int.toNat_natCast] at this
    rw [show (l.map ileaf).getD x Dg.zero = ileaf i by simp [hxl, hlx]] at this
    exact this
  obtain ⟨C, hC⟩ : ∃ C, C = codeR l := ⟨_, rfl⟩
  rw [← hC] at hck ⊢
  obtain ⟨Pt, hPt⟩ : ∃ Pt, Pt = pathT (l.map ileaf) (hgt l.length) x := ⟨_, rfl⟩
  rw [← hPt] at hck hp
  have HIL := Lib.hid hiok
  have HCK := Lib.hid hck
  have HPA := Lib.hid hp
  have HPN := Lib.hid hpn
  have HM := Lib.hid hM
  have HG := Lib.hid hg
  have HVV := Lib.hid hvv
  have HVR := Lib.hid vr
  have HVW := Lib.hid vw
  have HK := Lib.hid hk
  have HN := Lib.hid hn
  have HLX := Lib.hid hlx
  have HLI := Lib.hid hli
  have HMOK := Lib.hid hmok
  have HOPS := Lib.hid hops
  have HST := Lib.hid hst
  have HR := Lib.hid hR'
  have hMok : M.ok := by rw [hM]; exact hWord_ok _ _
  have HMO := Lib.hid hMok
  clear hiok hck hp hpn hM hg hvv vr vw hk hn hlx hli hmok hops hst hR' hMok hL hC hPt hlen2 hok
  obtain ⟨s, hs⟩ : ∃ s : Ws, s = ⟨x, 0, k, M, i, spa, spn, spk, sra, srn, srk, swa, swn, swk⟩ := ⟨_, rfl⟩
  obtain ⟨B, hB⟩ : ∃ B, B = hHead x 0 k M := ⟨_, rfl⟩
  rw [← hB]
  have HB := Lib.hid hB
  clear hB hs
  have hx0 : Ext w _ := ((((Kept.refl _ w).alloc (.cells C.cells 30)).alloc (.cells B.cells 30)).alloc (.cells (Ws.cells ⟨x, 0, k, M, i, spa, spn, spk, sra, srn, srk, swa, swn, swk⟩) 45)).alloc (.cells Dg.zero.cells 30)
  have hC0 : Blk _ w.heap.size 30 C.cells := Blk.alloc (Blk.alloc (Blk.alloc (Blk.new w _ C.cells) (.cells B.cells 30)) (.cells (Ws.cells ⟨x, 0, k, M, i, spa, spn, spk, sra, srn, srk, swa, swn, swk⟩) 45)) (.cells Dg.zero.cells 30)
  have hB0 : Blk _ (w.heap.size + 1) 30 B.cells := Blk.alloc (Blk.alloc (Blk.new' (w.alloc (.cells C.cells 30)) _ B.cells _ (by simp)) (.cells (Ws.cells ⟨x, 0, k, M, i, spa, spn, spk, sra, srn, srk, swa, swn, swk⟩) 45)) (.cells Dg.zero.cells 30)
  have hS0 : Blk _ (w.heap.size + 1 + 1) 45 (Ws.cells ⟨x, 0, k, M, i, spa, spn, spk, sra, srn, srk, swa, swn, swk⟩) := Blk.alloc (Blk.new' ((w.alloc (.cells C.cells 30)).alloc (.cells B.cells 30)) _ (Ws.cells ⟨x, 0, k, M, i, spa, spn, spk, sra, srn, srk, swa, swn, swk⟩) _ (by simp)) (.cells Dg.zero.cells 30)
  have hR0 : Blk _ (w.heap.size + 1 + 1 + 1) 30 Dg.zero.cells := Blk.new' (((w.alloc (.cells C.cells 30)).alloc (.cells B.cells 30)).alloc (.cells (Ws.cells ⟨x, 0, k, M, i, spa, spn, spk, sra, srn, srk, swa, swn, swk⟩) 45)) _ _ _ (by simp)
  go_enter Tryz.func37, Tryz.ntmps37
  go_wp2_with fail
  refine (sright_any ⟨x, 0, k, M, i, spa, spn, spk, sra, srn, srk, swa, swn, swk⟩ _).mono ?_
  rintro e w1 ⟨rfl, hx1⟩
  simp only
  rw [HG.out]
  have y1 := hx0.trans hx1
  have hC1 := Blk.ext hC0 hx1
  have hB1 := Blk.ext hB0 hx1
  have hS1 := Blk.ext hS0 hx1
  have hR1 := Blk.ext hR0 hx1
  clear hx0 hx1 hB0 hS0 hR0 hC0
  have hlS := Blk.lt hS1
  have hlR := Blk.lt hR1
  go_wp2_with fail
  refine wp_region_3 (fun w2 => Ext w1 w2) [(0, 2), (1, 1), (2, 2), (3, 1), (4, 2), (5, 1), (6, 2), (7, 1), (9, 1), (8, 0), (10, 2)] (by kernel_rfl) (by kernel_rfl) (by kernel_rfl) (by kernel_rfl) ?_; intro l' hl'; simp only [List.map_cons, List.map_nil, List.getD_cons_zero, List.getD_cons_succ] at hl'; subst hl'
  (repeat (first | ((apply w3_pure); (· go_simp); (· (intro w1; go_simp; try with_reducible rfl)); (intro K hK; go_simp; refine hK _ _ ?_; clear hK K)) | ((apply w3_skip); (· go_simp); (intro K hK; go_simp; refine hK _ _ ?_; clear hK K)) | ((apply w3_take); (· exact (Kept.drew (Kept.refl _ _))); (· go_simp); (· (intro w1 hS; have d1 := Blk.ext hS1 hS; have d2 := Blk.ext hB1 hS; have d3 := Blk.cell d1; have d4 := Blk.has d1; have d5 := Blk.gets d1; have d6 := Blk.has d2; have d7 := Blk.gets d2;  go_simp; try with_reducible rfl)); (intro K hK; go_simp; refine hK _ _ ?_; clear hK K)) | ((apply w3_pass); (· exact (Kept.drew (Kept.refl _ _))); (· go_simp); (intro K hK; go_simp; refine hK _ _ ?_; clear hK K))))
  (refine w3_act (fun K hK => ?_); go_simp)
  go_wp2_with fail
  refine (head_any x 0 k M HMO.out (by omega) (by omega) (by omega) _).mono ?_
  rintro e w2 ⟨e2, hx2⟩
  replace e2 : e = .returned (.agg B.cells) := by rw [e2, HB.out]
  subst e2
  have y2 : Ext w1 w2 := ((Kept.refl _ w1).drew).trans hx2
  refine hK.out _ _ (fun _ => y2) ?_
  clear hK K
  (repeat (first | ((apply w3_pure); (· go_simp); (· (intro w1; go_simp; try with_reducible rfl)); (intro K hK; go_simp; refine hK _ _ ?_; clear hK K)) | ((apply w3_skip); (· go_simp); (intro K hK; go_simp; refine hK _ _ ?_; clear hK K)) | (refine w3_end (by kernel_rfl) (fun K hK => ?_); go_simp; refine hK.out _ _ ?_; clear hK K))); refine w3_nil ?_
  have hC2 := Blk.ext hC1 y2
  have hS2 := Blk.ext hS1 y2
  have hR2 := Blk.ext hR1 y2
  have y12 := y1.trans y2
  have hc2 := Blk.cell hS2
  have hxnI : (x : Int) < n := by omega
  clear hB1 hC1 hS1 hR1 y1 y2 hx2
  go_upto_region 9 with (fail)
  clear hc2
  obtain ⟨Hn, hHn⟩ : ∃ Hn, Hn = hgt n := ⟨_, rfl⟩
  have hpn2 : spn = Hn := HPN.out.trans hHn.symm
  have HHN := Lib.hid hHn
  clear hHn
  subst hpn2
  obtain ⟨sb, hsb⟩ : ∃ sb, sb = w.heap.size := ⟨_, rfl⟩
  rw [← hsb] at hC2 hS2 hR2 hlS hlR ⊢
  have HSB := Lib.hid hsb
  clear hsb
  have hlC := hC2.lt
  refine wp_region_3 (fun w3 => Ext w2 w3) [(0, 2), (1, 1), (2, 2), (3, 2), (4, 0), (5, 2), (6, 2), (7, 1), (8, 2), (9, 1), (10, 2), (11, 1), (13, 2), (14, 1), (12, 0), (15, 0), (16, 2), (17, 2)] (by kernel_rfl) (by kernel_rfl) (by kernel_rfl) (by kernel_rfl) ?_; intro l' hl'; simp only [List.map_cons, List.map_nil, List.getD_cons_zero, List.getD_cons_succ] at hl'; subst hl'
  (repeat (first | ((apply w3_pure); (· go_simp); (· (intro w1; go_simp; try with_reducible rfl)); (intro K hK; go_simp; refine hK _ _ ?_; clear hK K)) | ((apply w3_skip); (· go_simp); (intro K hK; go_simp; refine hK _ _ ?_; clear hK K)) | ((apply w3_take); (· exact (Kept.drew (Kept.refl _ _))); (· go_simp); (· (intro w1 hS; have d1 := Blk.cell (Blk.ext hS2 hS); have d2 := (Blk.ext hS2 hS).lt; have d3 := Blk.has (Blk.ext hS2 hS); have d4 := Blk.gets (Blk.ext hS2 hS); have d5 := Blk.has (Blk.ext hC2 hS); have d6 := Blk.gets (Blk.ext hC2 hS); have d7 := (Blk.ext hC2 hS).lt;  go_simp; try with_reducible rfl)); (intro K hK; go_simp; refine hK _ _ ?_; clear hK K)) | ((apply w3_pass); (· exact (Kept.drew (Kept.refl _ _))); (· go_simp); (intro K hK; go_simp; refine hK _ _ ?_; clear hK K))))
  have yW : Ext w2 w2.drew := (Kept.refl _ w2).drew
  (refine w3_act (fun K hK => ?_); go_simp)
  go_wp2_with fail
  refine (height_ok n (by omega) (by omega) _).mono ?_
  rintro e w3 ⟨rfl, rfl⟩
  rw [← HHN.out]
  refine hK.out _ _ (fun _ => yW) ?_
  clear hK K
  (repeat (first | ((apply w3_pure); (· go_simp); (· (intro w1; go_simp; try with_reducible rfl)); (intro K hK; go_simp; refine hK _ _ ?_; clear hK K)) | ((apply w3_skip); (· go_simp); (intro K hK; go_simp; refine hK _ _ ?_; clear hK K)) | ((apply w3_take); (· exact yW); (· go_simp); (· (intro w1 hS; have d1 := Blk.cell (Blk.ext hS2 hS); have d2 := (Blk.ext hS2 hS).lt; have d3 := Blk.has (Blk.ext hS2 hS); have d4 := Blk.gets (Blk.ext hS2 hS); have d5 := Blk.has (Blk.ext hC2 hS); have d6 := Blk.gets (Blk.ext hC2 hS); have d7 := (Blk.ext hC2 hS).lt;  go_simp; try with_reducible rfl)); (intro K hK; go_simp; refine hK _ _ ?_; clear hK K)) | ((apply w3_pass); (· exact yW); (· go_simp); (intro K hK; go_simp; refine hK _ _ ?_; clear hK K))))
  (refine w3_act (fun K hK => ?_); go_simp)
  go_wp2_with fail
  refine (ileaf_any i HIL.out _).mono ?_
  rintro e w3 ⟨rfl, hx3⟩
  have y3 : Ext w2 w3 := yW.trans hx3
  refine hK.out _ _ (fun _ => y3) ?_
  clear hK K
  (repeat (first | ((apply w3_pure); (· go_simp); (· (intro w1; go_simp; try with_reducible rfl)); (intro K hK; go_simp; refine hK _ _ ?_; clear hK K)) | ((apply w3_skip); (· go_simp); (intro K hK; go_simp; refine hK _ _ ?_; clear hK K))))
  (refine w3_act (fun K hK => ?_); go_simp)
  go_wp2_with fail
  refine (tcheck_any C x (ileaf i) (ileaf_ok _) spa pb po spn spk Pt _ (HPA.out.ext (y12.trans y3))).mono ?_
  rintro e w4 ⟨rfl, hx4⟩
  rw [HCK.out]
  have y4 : Ext w2 w4 := y3.trans hx4
  refine hK.out _ _ (fun _ => y4) ?_
  clear hK K
  (repeat (first | ((apply w3_pure); (· go_simp); (· (intro w1; go_simp; try with_reducible rfl)); (intro K hK; go_simp; refine hK _ _ ?_; clear hK K)) | ((apply w3_skip); (· go_simp); (intro K hK; go_simp; refine hK _ _ ?_; clear hK K)) | (refine w3_end (by kernel_rfl) (fun K hK => ?_); go_simp; refine hK.out _ _ ?_; clear hK K))); refine w3_nil ?_
  have hS4 := Blk.ext hS2 y4
  have hR4 := Blk.ext hR2 y4
  have y14 := y12.trans y4
  have i1 := Blk.cell hS4
  have i2 := Blk.has hS4
  have i3 := Blk.gets hS4
  clear hC2 hS2 hR2 y12 hx3 y3 hx4 yW
  go_wp2_with fail
  have hir := iright_any i n k w4 (HOPS.out.ext y14)
  cases hri : rightI i n k
  · rw [hri] at hir
    have HRI := Lib.hid hri
    clear hri
    refine hir.mono ?_
    rintro e w5 ⟨rfl, hx5⟩
    clear hir
    have hS5 := Blk.ext hS4 hx5
    have hR5 := Blk.ext hR4 hx5
    have hnone : nextI l x m.length = none := by
      unfold nextI
      rw [Int.toNat_natCast, List.getElem?_eq_getElem hxl, HLX.out, ← HN.out, ← HK.out]
      show (if rightI i n k = true then some i else none) = _
      rw [if_neg (by rw [HRI.out]; simp)]
    have hmr : mreads l x 0 m = ([], -1) := by simp only [mreads, hnone]; rfl
    have hstp : (p, hh, m1) = ((x : Int), (2 : Int), m) := by
      rw [← HST.out]
      unfold stepI
      rw [hnone]
    have hvr := HVR.out.len
    have hvw := HVW.out.len
    rw [hmr] at hvr hvw
    simp at hvr hvw
    have hRR : R = Ws.same ⟨x, 0, k, M, i, spa, spn, spk, sra, srn, srk, swa, swn, swk⟩ := by
      rw [HR.out]
      injection hstp with e1 e2
      injection e2 with e2 e3
      rw [e1, e2, e3, ← HM.out]
      rfl
    have hbare : Ws.bare ⟨x, 0, k, M, i, spa, spn, spk, sra, srn, srk, swa, swn, swk⟩ = true := by
      simp [Ws.bare, hvr, hvw]
    have HRR := Lib.hid hRR
    have HBA := Lib.hid hbare
    clear hnone hmr hstp hvr hvw hRR hbare i1 i2 i3
    have i2 := Blk.has hS5
    have i3 := Blk.gets hS5
    go_wp2_with fail
    refine (sbare_any ⟨x, 0, k, M, i, spa, spn, spk, sra, srn, srk, swa, swn, swk⟩ _).mono ?_
    rintro e w6 ⟨rfl, hx6⟩
    rw [HBA.out]
    have hS6 := Blk.ext hS5 hx6
    have hR6 := Blk.ext hR5 hx6
    clear i2 i3
    have i2 := Blk.has hS6
    have i3 := Blk.gets hS6
    go_wp2_with fail
    have hsm := ssame_any ⟨x, 0, k, M, i, spa, spn, spk, sra, srn, srk, swa, swn, swk⟩ HMO.out HG.out w6
    rw [← HRR.out] at hsm
    refine hsm.mono ?_
    rintro e w7 ⟨rfl, hx7⟩
    have hR7 := Blk.ext hR6 hx7
    have i4 := Blk.has hR7
    have i5 := Blk.melts hR7
    clear i2 i3 hsm
    go_wp2_with fail
    refine ret_ci Tryz.results37 rfl rfl aggDig (by exact sizeDig) (Blk.put_ hR7 _ _) ⟨rfl, ?_⟩
    exact Kept.putAt (((y14.trans hx5).trans hx6).trans hx7) _ _ _ (fun h => by have := HSB.out; omega)
  · rw [hri] at hir
    have HRI := Lib.hid hri
    clear hri
    refine hir.mono ?_
    rintro e w5 ⟨rfl, hx5⟩
    clear hir
    have hS5 := Blk.ext hS4 hx5
    have hR5 := Blk.ext hR4 hx5
    have hsome : nextI l x m.length = some i := by
      unfold nextI
      rw [Int.toNat_natCast, List.getElem?_eq_getElem hxl, HLX.out, ← HN.out, ← HK.out]
      show (if rightI i n k = true then some i else none) = _
      rw [if_pos HRI.out]
    have y15 := y14.trans hx5
    have hdn := done_ok ⟨x, 0, k, M, i, spa, spn, spk, sra, srn, srk, swa, swn, swk⟩ l n HN.out h2 x hxn m k HK.out HG.out i hsome HLI.out HMOK.out w5 (HOPS.out.ext y15) (HVV.out.ext y15) p hh m1 HST.out (by omega) (by omega)
    rw [← HR.out] at hdn
    have HDN := Lib.hid hdn
    clear hsome hdn i1 i2 i3
    have i2 := Blk.has hS5
    have i3 := Blk.gets hS5
    go_wp2_with fail
    refine HDN.out.mono ?_
    rintro e w6 ⟨rfl, hx6⟩
    have hR6 := Blk.ext hR5 hx6
    have i4 := Blk.has hR6
    have i5 := Blk.melts hR6
    clear i2 i3
    go_wp2_with fail
    refine ret_ci Tryz.results37 rfl rfl aggDig (by exact sizeDig) (Blk.put_ hR6 _ _) ⟨rfl, ?_⟩
    exact Kept.putAt (y15.trans hx6) _ _ _ (fun h => by have := HSB.out; omega)
/-- what After says of a made step: the digest behind it, or that it does not fit -/
def aftR (l : List Ins) (pc halt : Int) (m : List Int) (B : Dg) : Dg × Int := if dgB (stateR pc halt m) B = true then (nextR l pc halt m, 0) else (Dg.zero, 23)
theorem after_made (s : Ws) (l : List Ins) (n : Nat) (hn : n = l.length) (h1 : 1 ≤ n) (h2 : n ≤ 2048) (pc halt : Int) (m : List Int) (B : Dg) (hO : Okay pc halt m) (hok : ∀ i ∈ l, i.ok) (w : World) (hops : OpsAt w) (hv : StepV w s (makeL l pc halt m)) :
    Calls Tryz.prog 37 #[.agg (codeR l).cells, .int .i64 n, .agg B.cells, .agg s.cells] w fun e w' => e = .returned (.tuple #[.agg (aftR l pc halt m B).1.cells, .int .i64 (aftR l pc halt m B).2]) ∧ Ext w w' := by
  obtain ⟨_, _, h3, h4, h5, h6⟩ := rightS_inv hO.right
  have hvv := hv
  obtain ⟨e1, e2, e3, e4, e5, vp, vr, vw⟩ := hv
  have hq : (makeL l pc halt m).pc = pc ∧ (makeL l pc halt m).halt = halt ∧ (makeL l pc halt m).words = m.length ∧ (makeL l pc halt m).mem = memR m := by
    unfold makeL
    split <;> exact ⟨rfl, rfl, rfl, rfl⟩
  rw [hq.1] at e1
  rw [hq.2.1] at e2
  rw [hq.2.2.1] at e3
  rw [hq.2.2.2] at e4
  have hright : rightS s.pc s.halt s.words = true := by rw [e1, e2, e3]; exact hO.right
  have hm : s.mem.ok := by rw [e4]; exact hWord_ok _ _
  have hhead : hHead s.pc s.halt s.words s.mem = stateR pc halt m := by rw [e1, e2, e3, e4]; rfl
  unfold aftR
  cases hb : dgB (stateR pc halt m) B
  · rw [if_neg (by simp)]
    exact after_other s (codeR l) B n w hm (by omega) (by omega) hright (by rw [hhead]; exact hb)
  · rw [if_pos rfl]
    obtain rfl := (dgB_iff _ _).1 hb
    by_cases hst : ¬ halt = 0 ∨ (l.length : Int) ≤ pc
    · have hL : makeL l pc halt m = ⟨pc, halt, m.length, memR m, ⟨0, 0, 0, 0⟩, [], [], []⟩ := by unfold makeL; rw [if_pos hst]
      rw [hL] at vp vr vw e5
      have hp : s.pn = 0 := by obtain ⟨_, _, hp⟩ := vp; exact hp.len
      have hr0 : s.rn = 0 := vr.len
      have hw0 : s.wn = 0 := vw.len
      have hsame : s.same = nextR l pc halt m := by
        unfold Ws.same nextR runI
        rw [e1, e2, e3, e4]
        by_cases h0 : halt = 0
        · subst h0
          have hnone : nextI l pc m.length = none := by
            unfold nextI
            rw [List.getElem?_eq_none (by omega)]
          simp only [if_pos, stepI, hnone]
        · rw [if_neg h0, if_neg h0]
      have := after_stays s (codeR l) n w hm (by omega) (by omega) hright (by unfold Ws.stays; rw [e1, e2, hn]; exact hst) e5 hp (by simp [Ws.bare, hr0, hw0])
      rw [hhead, hsame] at this
      exact this
    · obtain ⟨x, rfl⟩ : ∃ x : Nat, pc = x := ⟨pc.toNat, by omega⟩
      obtain rfl : halt = 0 := by omega
      exact after_goes s l n hn h2 x (by omega) m m.length rfl hO.right hok hO.mok w hops hvv
set_option maxRecDepth 100000 in
set_option maxHeartbeats 2000000 in
/-- Check, by what After says -/
theorem check_by (p : Dg) (size : Int) (B Z : Dg) (cs : Array Value) (hcs : (cs.toList.take 18).toArray = cs) (hn : 18 ≤ cs.size) (D : Dg) (e0 : Int) (w : World)
    (hA : ∀ w', Ext w w' → Calls Tryz.prog 37 #[.agg #[.int .u8 p.x0, .int .u8 p.x1, .int .u8 p.x2, .int .u8 p.x3, .int .u8 p.x4, .int .u8 p.x5, .int .u8 p.x6, .int .u8 p.x7], .int .i64 size, .agg #[.int .u8 B.x0, .int .u8 B.x1, .int .u8 B.x2, .int .u8 B.x3, .int .u8 B.x4, .int .u8 B.x5, .int .u8 B.x6, .int .u8 B.x7], .agg cs] w' fun e w'' => e = .returned (.tuple #[.agg D.cells, .int .i64 e0]) ∧ Ext w' w'') :
    Calls Tryz.prog 42 #[.agg #[.int .u8 p.x0, .int .u8 p.x1, .int .u8 p.x2, .int .u8 p.x3, .int .u8 p.x4, .int .u8 p.x5, .int .u8 p.x6, .int .u8 p.x7], .int .i64 size, .agg #[.int .u8 B.x0, .int .u8 B.x1, .int .u8 B.x2, .int .u8 B.x3, .int .u8 B.x4, .int .u8 B.x5, .int .u8 B.x6, .int .u8 B.x7], .agg #[.int .u8 Z.x0, .int .u8 Z.x1, .int .u8 Z.x2, .int .u8 Z.x3, .int .u8 Z.x4, .int .u8 Z.x5, .int .u8 Z.x6, .int .u8 Z.x7], .agg cs] w fun e w' => e = .returned (.int .i64 (if e0 = 0 then (if dgB D Z = true then 0 else 23) else e0)) ∧ Ext w w' := by
  have HA := Lib.hid hA
  clear hA
  obtain ⟨r, hr⟩ : ∃ r : Int, r = (if e0 = 0 then (if dgB D Z = true then 0 else 23) else e0) := ⟨_, rfl⟩
  rw [← hr]
  have HR := Lib.hid hr
  clear hr
  have hx0 : Ext w _ := ((((Kept.refl _ w).alloc (.cells #[.int .u8 p.x0, .int .u8 p.x1, .int .u8 p.x2, .int .u8 p.x3, .int .u8 p.x4, .int .u8 p.x5, .int .u8 p.x6, .int .u8 p.x7] 30)).alloc (.cells B.cells 30)).alloc (.cells Z.cells 30)).alloc (.cells cs 45)
  have hZ0 : Blk _ (w.heap.size + 1 + 1) 30 Z.cells := Blk.alloc (Blk.new' ((w.alloc (.cells #[.int .u8 p.x0, .int .u8 p.x1, .int .u8 p.x2, .int .u8 p.x3, .int .u8 p.x4, .int .u8 p.x5, .int .u8 p.x6, .int .u8 p.x7] 30)).alloc (.cells B.cells 30)) _ Z.cells _ (by simp)) (.cells cs 45)
  go_enter Tryz.func42, Tryz.ntmps42
  go_wp2_with fail
  refine (HA.out _ hx0).mono ?_
  rintro e w1 ⟨rfl, hx1⟩
  have hZ1 := Blk.ext hZ0 hx1
  have hh1 := Blk.has hZ1
  have hg1 := Blk.gets hZ1
  have hl1 := Blk.lt hZ1
  by_cases he : e0 = 0
  · subst he
    by_cases hb : dgB D Z = true
    · have hr := HR.out
      rw [if_pos rfl, if_pos hb] at hr
      obtain rfl := (dgB_iff _ _).1 hb
      subst hr
      clear hb HR
      go_wp2_with fail
      go_ret
      exact ⟨rfl, (hx0.trans hx1).alloc _⟩
    · have hr := HR.out
      rw [if_pos rfl, if_neg hb] at hr
      subst hr
      have HB := Lib.hid (dgN_true (H := D) (B := Z) (by simpa using hb))
      clear hb HR
      go_upto_if 26 with (fail)
      rw [HB.out]
      go_wp2_with fail
      go_ret
      exact ⟨rfl, (hx0.trans hx1).alloc _⟩
  · have hr := HR.out
    rw [if_neg he] at hr
    subst hr
    have he' : (r != 0) = true := by simpa using he
    clear he HR
    go_wp2_with fail
    go_ret
    exact ⟨rfl, (hx0.trans hx1).alloc _⟩
end Go.Proofs.YtahljceanodhkaaGreatDoor

/- What Check says of a step that was made: it leads to the state behind it. -/
namespace Go.Proofs.YtahljceanodhkaaGreatDoor
open Go.RowKit
/-- what Check says of a made step -/
def chkW (l : List Ins) (r : Cfg) (B Z : Dg) : Int := if (aftR l r.1 r.2.1 r.2.2 B).2 = 0 then (if dgB (aftR l r.1 r.2.1 r.2.2 B).1 Z = true then 0 else 23) else (aftR l r.1 r.2.1 r.2.2 B).2
theorem checkW_made (s : Ws) (l : List Ins) (n : Nat) (hn : n = l.length) (h1 : 1 ≤ n) (h2 : n ≤ 2048) (r : Cfg) (B Z : Dg) (hO : Okay r.1 r.2.1 r.2.2) (hok : ∀ i ∈ l, i.ok) (w : World) (hops : OpsAt w) (hv : StepV w s (makeL l r.1 r.2.1 r.2.2)) :
    Calls Tryz.prog 42 #[.agg (codeR l).cells, .int .i64 n, .agg B.cells, .agg Z.cells, .agg s.cells] w fun e w' => e = .returned (.int .i64 (chkW l r B Z)) ∧ Ext w w' :=
  check_by (codeR l) n B Z s.cells rfl (by simp) _ _ w (fun w' hx => after_made s l n hn h1 h2 r.1 r.2.1 r.2.2 B hO hok w' (hops.ext hx) (hv.ext hx))
theorem chkW_next (l : List Ins) (hl : l.length ≤ 2048) (r : Cfg) (hO : Okay r.1 r.2.1 r.2.2) : chkW l r (stateR r.1 r.2.1 r.2.2) (stateR (runI l r.1 r.2.1 r.2.2).1 (runI l r.1 r.2.1 r.2.2).2.1 (runI l r.1 r.2.1 r.2.2).2.2) = 0 := by
  unfold chkW aftR
  rw [dgB_self, if_pos rfl, nextR_state hl hO, if_pos rfl, dgB_self, if_pos rfl]
theorem chkW_trace (l : List Ins) (hl : l.length ≤ 2048) (r : Cfg) (hO : Okay r.1 r.2.1 r.2.2) (j : Nat) : chkW l (trajI l r j) (trD l r j) (trD l r (j + 1)) = 0 := chkW_next l hl _ (traj_okay hl hO j).1
set_option maxRecDepth 100000 in
set_option maxHeartbeats 400000 in
theorem digests_nilW (w : World) : Calls Tryz.prog 41 #[.slice none 0 0] w fun e w' => e = .returned (.slice none 0 0) ∧ w = w' := by
  go_enter Tryz.func41, Tryz.ntmps41
  go_wp2_with fail
  go_loopw [3, 8] (fun t3 t8 wr => t3 = .slice none 0 0 ∧ t8 = .int .i64 0 ∧ w = wr) (fun _ _ _ => 0)
  case atStart => exact ⟨rfl, rfl, rfl⟩
  case round =>
    obtain ⟨rfl, rfl, hw⟩ := hrel
    subst hw
    go_wp2_with fail
    go_ret
    exact ⟨rfl, rfl⟩
set_option maxRecDepth 100000 in
set_option maxHeartbeats 400000 in
theorem rsame4_nilW (w : World) : Calls Tryz.prog 40 #[.slice none 0 0, .slice none 0 0] w fun e w' => e = .returned (.bool true) ∧ w = w' := by
  go_enter Tryz.func40, Tryz.ntmps40
  go_wp2_with fail
  go_loopw [5] (fun t8 wr => t8 = .int .i64 0 ∧ w = wr) (fun _ _ => 0)
  case atStart => exact ⟨rfl, rfl⟩
  case round =>
    obtain ⟨rfl, hw⟩ := hrel
    subst hw
    go_wp2_with fail
    go_ret
    exact ⟨rfl, rfl⟩
end Go.Proofs.YtahljceanodhkaaGreatDoor

/- The law WitnessTrace: its walk. -/
namespace Go.Proofs.YtahljceanodhkaaGreatDoor
open Go.RowKit Go.ChangeShapes Go.WideShapes
namespace witnessTrace
set_option maxRecDepth 100000 in
set_option maxHeartbeats 2000000 in
theorem many (A A' : Option Addr) (n cap k cap' : Nat) (pc halt steps : Int) (w : World) (hf : (decide (n ≤ 20) && decide (k ≤ 20)) = false ∨ (30 < steps ∧ steps ≤ 65536)) :
    Calls Tryz.prog 8 #[.slice A n cap, .agg (stCells pc A' k cap' halt), .int .i64 steps] w fun e w' => e = .returned (.bool true) ∧ Ext w w' := by
  have hx0 : Ext w _ := (Kept.refl _ w).alloc (.cells (stCells pc A' k cap' halt) 61)
  have hS0 := Blk.new w 61 (stCells pc A' k cap' halt)
  have HF : Hid ((decide (n ≤ 20) && decide (k ≤ 20)) = false ∨ ((decide (n ≤ 20) && decide (k ≤ 20)) = true ∧ 30 < steps ∧ steps ≤ 65536)) := Lib.hid (by
    cases hq : (decide (n ≤ 20) && decide (k ≤ 20))
    · exact .inl rfl
    · refine .inr ⟨rfl, ?_⟩
      rcases hf with h | h
      · rw [hq] at h; cases h
      · exact h)
  clear hf
  go_enter Tryz.func8, Tryz.ntmps8
  go_wp2_with fail
  refine (known_any _).mono ?_
  rintro e w1 ⟨rfl, hx1⟩
  have hS1 := Blk.ext hS0 hx1
  have hh1 := Blk.has hS1
  have hg1 := Blk.gets hS1
  go_wp2_with fail
  refine (few_any A A' n cap k cap' pc halt _).mono ?_
  rintro e w2 ⟨rfl, hx2⟩
  rcases HF.out with hf | ⟨hf, h30, h65⟩
  · rw [hf]
    go_wp2_with fail
    refine (known_any _).mono ?_
    rintro e w3 ⟨rfl, hx3⟩
    go_wp2_with fail
    go_ret
    exact ⟨rfl, ((hx0.trans hx1).trans hx2).trans hx3⟩
  · rw [hf]
    go_wp2_with fail
    refine (known_any _).mono ?_
    rintro e w3 ⟨rfl, hx3⟩
    go_wp2_with fail
    go_ret
    exact ⟨rfl, ((hx0.trans hx1).trans hx2).trans hx3⟩
set_option maxRecDepth 100000 in
set_option maxHeartbeats 4000000 in
theorem bad (A : Option Addr) (b off cap : Nat) (l : List Ins) (n : Nat) (hn : n = l.length) (h2 : n ≤ 20) (hok : ∀ i ∈ l, i.ok) (hA : 0 < n → A = some ⟨b, off, none⟩)
    (pc halt : Int) (A' : Option Addr) (b' off' cap' : Nat) (m : List Int) (k : Nat) (hk : k = m.length) (hk2 : k ≤ 20) (hA' : 0 < k → A' = some ⟨b', off', none⟩) (steps : Int) (w : World) (hr : 0 < n → Row w b off (inss l)) (hr' : 0 < k → Row w b' off' (mems m))
    (hst : steps ≤ 30 ∨ 65536 < steps) (hbad : badT n k pc halt steps) :
    Calls Tryz.prog 8 #[.slice A n cap, .agg (stCells pc A' k cap' halt), .int .i64 steps] w fun e w' => e = .returned (.bool true) ∧ Ext w w' := by
  have HB := Lib.hid hbad
  clear hbad
  rcases hst with s30 | s65
  · skip
    have HF := Lib.hid (show (decide (n ≤ 20) && decide (k ≤ 20)) = true by simp [h2, hk2])
    have HN := Lib.hid hn
    have HO := Lib.hid hok
    have HA := Lib.hid hA
    have HR := Lib.hid hr
    have HKn := Lib.hid hk
    have HA' := Lib.hid hA'
    have HR' := Lib.hid hr'
    clear hn hA hr hok hk hA' hr'
    have hx0 : Ext w _ := (Kept.refl _ w).alloc (.cells (stCells pc A' k cap' halt) 61)
    have hS0 := Blk.new w 61 (stCells pc A' k cap' halt)
    go_enter Tryz.func8, Tryz.ntmps8
    go_wp2_with fail
    refine (known_any _).mono ?_
    rintro e w1 ⟨rfl, hx1⟩
    have hS1 := Blk.ext hS0 hx1
    have hh1 := Blk.has hS1
    have hg1 := Blk.gets hS1
    have y1 := hx0.trans hx1
    clear hx0 hS0 hx1
    go_wp2_with fail
    refine (few_any A A' n cap k cap' pc halt _).mono ?_
    rintro e w2 ⟨rfl, hx2⟩
    rw [HF.out]
    have hS2 := Blk.ext hS1 hx2
    have y2 := y1.trans hx2
    clear hh1 hg1 hS1 y1 hx2
    go_wp2_with fail
    refine (law14of_ok A b off cap l n HN.out (by omega) HA.out _ (fun h => (HR.out h).ext y2)).mono ?_
    rintro e w3 ⟨v3, rfl, ho3, hx3⟩
    obtain ⟨A3, g3, c3, rfl, hA3, hr3, hl3⟩ := own_I ho3
    have HA3 := Lib.hid hA3
    have HR3 := Lib.hid hr3
    have hS3 := Blk.ext hS2 hx3
    have y3 := y2.trans hx3
    have i1 := Blk.has hS3
    have i2 := Blk.gets hS3
    have i3 := hS3.lt
    clear hA3 hr3 hl3 ho3 hS2 y2 hx3
    go_wp2_with fail
    refine (of_st A' k cap' pc halt _).mono ?_
    rintro e w4 ⟨rfl, hx4⟩
    have hS4 := Blk.ext hS3 hx4
    have y4 := y3.trans hx4
    have HR4 := Lib.hid (fun h => (HR3.out h).ext hx4)
    clear i1 i2 i3 hS3 y3 HR3 hx4
    go_wp2_with fail
    refine (wtrace_no A3 g3 0 c3 l n HN.out (by omega) HO.out HA3.out pc halt A' b' off' cap' m k HKn.out HA'.out steps _ HR4.out (fun h => (HR'.out h).ext y4) HB.out).mono ?_
    rintro e w5 ⟨rfl, hx5⟩
    have hS5 := Blk.ext hS4 hx5
    have y5 := y4.trans hx5
    clear hS4 y4 hx5
    have i1 := Blk.has hS5
    have i2 := Blk.gets hS5
    have i3 := hS5.lt
    go_wp2_with fail
    refine (rtrace_no A b off cap l n HN.out (by omega) HO.out HA.out pc halt A' b' off' cap' m k HKn.out HA'.out steps _ (fun h => (HR.out h).ext y5) (fun h => (HR'.out h).ext y5) HB.out).mono ?_
    rintro e w6 ⟨rfl, hx6⟩
    have y6 := y5.trans hx6
    clear hS5 y5 hx6 i1 i2 i3
    go_wp2_with fail
    refine (digests_nilW _).mono ?_
    rintro e w7 ⟨rfl, rfl⟩
    go_wp2_with fail
    refine (rsame4_nilW _).mono ?_
    rintro e w8 ⟨rfl, rfl⟩
    go_wp2_with fail
    refine (digests_nilW _).mono ?_
    rintro e w7 ⟨rfl, rfl⟩
    go_wp2_with fail
    refine (rsame4_nilW _).mono ?_
    rintro e w8 ⟨rfl, rfl⟩
    go_wp2_with fail
    go_ret
    exact ⟨rfl, y6⟩
  · have s30' : ¬ steps ≤ 30 := by omega
    have s30 : 30 < steps := by omega
    have s65' : ¬ steps ≤ 65536 := by omega
    have HF := Lib.hid (show (decide (n ≤ 20) && decide (k ≤ 20)) = true by simp [h2, hk2])
    have HN := Lib.hid hn
    have HO := Lib.hid hok
    have HA := Lib.hid hA
    have HR := Lib.hid hr
    have HKn := Lib.hid hk
    have HA' := Lib.hid hA'
    have HR' := Lib.hid hr'
    clear hn hA hr hok hk hA' hr'
    have hx0 : Ext w _ := (Kept.refl _ w).alloc (.cells (stCells pc A' k cap' halt) 61)
    have hS0 := Blk.new w 61 (stCells pc A' k cap' halt)
    go_enter Tryz.func8, Tryz.ntmps8
    go_wp2_with fail
    refine (known_any _).mono ?_
    rintro e w1 ⟨rfl, hx1⟩
    have hS1 := Blk.ext hS0 hx1
    have hh1 := Blk.has hS1
    have hg1 := Blk.gets hS1
    have y1 := hx0.trans hx1
    clear hx0 hS0 hx1
    go_wp2_with fail
    refine (few_any A A' n cap k cap' pc halt _).mono ?_
    rintro e w2 ⟨rfl, hx2⟩
    rw [HF.out]
    have hS2 := Blk.ext hS1 hx2
    have y2 := y1.trans hx2
    clear hh1 hg1 hS1 y1 hx2
    go_wp2_with fail
    refine (law14of_ok A b off cap l n HN.out (by omega) HA.out _ (fun h => (HR.out h).ext y2)).mono ?_
    rintro e w3 ⟨v3, rfl, ho3, hx3⟩
    obtain ⟨A3, g3, c3, rfl, hA3, hr3, hl3⟩ := own_I ho3
    have HA3 := Lib.hid hA3
    have HR3 := Lib.hid hr3
    have hS3 := Blk.ext hS2 hx3
    have y3 := y2.trans hx3
    have i1 := Blk.has hS3
    have i2 := Blk.gets hS3
    have i3 := hS3.lt
    clear hA3 hr3 hl3 ho3 hS2 y2 hx3
    go_wp2_with fail
    refine (of_st A' k cap' pc halt _).mono ?_
    rintro e w4 ⟨rfl, hx4⟩
    have hS4 := Blk.ext hS3 hx4
    have y4 := y3.trans hx4
    have HR4 := Lib.hid (fun h => (HR3.out h).ext hx4)
    clear i1 i2 i3 hS3 y3 HR3 hx4
    go_wp2_with fail
    refine (wtrace_no A3 g3 0 c3 l n HN.out (by omega) HO.out HA3.out pc halt A' b' off' cap' m k HKn.out HA'.out steps _ HR4.out (fun h => (HR'.out h).ext y4) HB.out).mono ?_
    rintro e w5 ⟨rfl, hx5⟩
    have hS5 := Blk.ext hS4 hx5
    have y5 := y4.trans hx5
    clear hS4 y4 hx5
    have i1 := Blk.has hS5
    have i2 := Blk.gets hS5
    have i3 := hS5.lt
    go_wp2_with fail
    refine (rtrace_no A b off cap l n HN.out (by omega) HO.out HA.out pc halt A' b' off' cap' m k HKn.out HA'.out steps _ (fun h => (HR.out h).ext y5) (fun h => (HR'.out h).ext y5) HB.out).mono ?_
    rintro e w6 ⟨rfl, hx6⟩
    have y6 := y5.trans hx6
    clear hS5 y5 hx6 i1 i2 i3
    go_wp2_with fail
    refine (digests_nilW _).mono ?_
    rintro e w7 ⟨rfl, rfl⟩
    go_wp2_with fail
    refine (rsame4_nilW _).mono ?_
    rintro e w8 ⟨rfl, rfl⟩
    go_wp2_with fail
    refine (digests_nilW _).mono ?_
    rintro e w7 ⟨rfl, rfl⟩
    go_wp2_with fail
    refine (rsame4_nilW _).mono ?_
    rintro e w8 ⟨rfl, rfl⟩
    go_wp2_with fail
    go_ret
    exact ⟨rfl, y6⟩
set_option maxRecDepth 100000 in
set_option maxHeartbeats 8000000 in
theorem good (b off cap : Nat) (l : List Ins) (n : Nat) (h2 : n ≤ 20) (pc halt : Int) (b' off' cap' : Nat) (m : List Int) (k : Nat) (hk2 : k ≤ 20) (A : Option Addr) (steps : Nat) (s30 : steps ≤ 30) (w : World) (hc : CourseAt w A b off n l pc halt b' off' k m) :
    Calls Tryz.prog 8 #[.slice A n cap, .agg (stCells pc (some ⟨b', off', none⟩) k cap' halt), .int .i64 steps] w fun e w' => e = .returned (.bool true) ∧ Ext w w' := by
  have n1 := hc.n1
  obtain ⟨k1, _, _, _, _, _⟩ := rightS_inv hc.right
  obtain ⟨A', hA'e⟩ : ∃ A' : Option Addr, A' = some ⟨b', off', none⟩ := ⟨_, rfl⟩
  rw [← hA'e]
  have hn := hc.n_eq
  have hk := hc.k_eq
  have hok := hc.iok
  have hA : 0 < n → A = some ⟨b, off, none⟩ := fun _ => hc.at_
  have hr : 0 < n → Row w b off (inss l) := fun _ => hc.row
  have hA' : 0 < k → A' = some ⟨b', off', none⟩ := fun _ => hA'e
  have hr' : 0 < k → Row w b' off' (mems m) := fun _ => hc.mrow
  have HC := Lib.hid hc
  have HAE := Lib.hid hA'e
  have HOKT := Lib.hid (traj_okay (r := (pc, halt, m)) (by rw [← hc.n_eq]; omega) hc.okay)
  clear hc hA'e
  have s30I : (steps : Int) ≤ 30 := by omega
  have s0I : (0 : Int) ≤ steps := by omega
  have HF := Lib.hid (show (decide (n ≤ 20) && decide (k ≤ 20)) = true by simp [h2, hk2])
  have HN := Lib.hid hn
  have HO := Lib.hid hok
  have HA := Lib.hid hA
  have HR := Lib.hid hr
  have HKn := Lib.hid hk
  have HA' := Lib.hid hA'
  have HR' := Lib.hid hr'
  clear hn hA hr hok hk hA' hr'
  have hx0 : Ext w _ := (Kept.refl _ w).alloc (.cells (stCells pc A' k cap' halt) 61)
  have hS0 := Blk.new w 61 (stCells pc A' k cap' halt)
  go_enter Tryz.func8, Tryz.ntmps8
  go_wp2_with fail
  refine (known_any _).mono ?_
  rintro e w1 ⟨rfl, hx1⟩
  have hS1 := Blk.ext hS0 hx1
  have hh1 := Blk.has hS1
  have hg1 := Blk.gets hS1
  have y1 := hx0.trans hx1
  clear hx0 hS0 hx1
  go_wp2_with fail
  refine (few_any A A' n cap k cap' pc halt _).mono ?_
  rintro e w2 ⟨rfl, hx2⟩
  rw [HF.out]
  have hS2 := Blk.ext hS1 hx2
  have y2 := y1.trans hx2
  clear hh1 hg1 hS1 y1 hx2
  go_wp2_with fail
  refine (law14of_ok A b off cap l n HN.out (by omega) HA.out _ (fun h => (HR.out h).ext y2)).mono ?_
  rintro e w3 ⟨v3, rfl, ho3, hx3⟩
  obtain ⟨A3, g3, c3, rfl, hA3, hr3, hl3⟩ := own_I ho3
  have HA3 := Lib.hid hA3
  have HR3 := Lib.hid hr3
  have hS3 := Blk.ext hS2 hx3
  have y3 := y2.trans hx3
  have i1 := Blk.has hS3
  have i2 := Blk.gets hS3
  have i3 := hS3.lt
  clear hA3 hr3 hl3 ho3 hS2 y2 hx3
  go_wp2_with fail
  refine (of_st A' k cap' pc halt _).mono ?_
  rintro e w4 ⟨rfl, hx4⟩
  have hS4 := Blk.ext hS3 hx4
  have y4 := y3.trans hx4
  have HR4 := Lib.hid (fun h => (HR3.out h).ext hx4)
  clear i1 i2 i3 hS3 y3 HR3 hx4
  go_wp2_with fail
  obtain rfl := HA3.out n1
  obtain rfl := HAE.out
  have hco4 : CourseAt w4 (some ⟨g3, 0, none⟩) g3 0 n l pc halt b' off' k m := ⟨rfl, HR4.out n1, HN.out, n1, by omega, HO.out, HKn.out, HC.out.right, HC.out.mok, (HR'.out k1).ext y4, HC.out.ops.ext y4⟩
  have HCO := Lib.hid hco4
  clear hco4
  refine (trace_ok (some ⟨g3, 0, none⟩) g3 0 n c3 l pc halt b' off' k cap' m steps (by omega) w4 HCO.out).mono ?_
  rintro e w5 ⟨v5, rfl, ho5, hx5⟩
  obtain ⟨gt, ct, rfl, hrow5, _, _⟩ := own_rows ho5 (by omega) (by omega)
  obtain ⟨T, hT⟩ : ∃ T, T = (List.range (steps + 1)).map (trD l (pc, halt, m)) := ⟨_, rfl⟩
  rw [← hT] at hrow5
  have hTl : T.length = steps + 1 := by rw [hT]; simp
  have hTg : ∀ j (hj : j < T.length), T[j] = trD l (pc, halt, m) j := fun j hj => by subst hT; simp
  have HROW := Lib.hid hrow5
  have HT := Lib.hid hT
  have HTL := Lib.hid hTl
  have HTG := Lib.hid hTg
  have hS5 := Blk.ext hS4 hx5
  have y5 := y4.trans hx5
  have HCO5 := Lib.hid (HCO.out.ext hx5)
  clear ho5 hrow5 hT hTl hTg hS4 hx5 HCO y4
  have i1 := Blk.has hS5
  have i2 := Blk.gets hS5
  have i3 := hS5.lt
  go_wp2_with fail
  refine (rtrace_ok A b off n cap l pc halt b' off' k cap' m steps (by omega) w5 (HC.out.ext y5)).mono ?_
  rintro e w6 ⟨v6, rfl, ho6, hx6⟩
  obtain ⟨gr, cr, rfl, hrow6, _, _⟩ := own_rows ho6 (by omega) (by omega)
  rw [← HT.out] at hrow6
  have HROW6 := Lib.hid hrow6
  have hS6 := Blk.ext hS5 hx6
  have y6 := y5.trans hx6
  have HX56 := Lib.hid hx6
  clear ho6 hrow6 hS5 hx6 y5 i1 i2 i3
  go_wp2_with fail
  refine (digests_ok (some ⟨gt, 0, none⟩) gt 0 ct T (steps + 1) HTL.out.symm (by omega) (fun _ => rfl) w6 (fun _ => HROW.out.ext HX56.out)).mono ?_
  rintro e w7 ⟨v7, rfl, ho7, hx7⟩
  obtain ⟨gd, cd, rfl, hrow7, _, _⟩ := own_rows ho7 (by omega) (by omega)
  have HROW7 := Lib.hid hrow7
  clear ho7 hrow7
  go_wp2_with fail
  refine (rsame4_ok gd 0 cd gr 0 cr T (steps + 1) HTL.out.symm (by omega) w7 HROW7.out (HROW6.out.ext hx7)).mono ?_
  rintro e w8 ⟨rfl, hx8⟩
  have x68 := hx7.trans hx8
  have hS8 := Blk.ext hS6 x68
  have y8 := y6.trans x68
  have x58 := HX56.out.trans x68
  have HCO8 := Lib.hid (HCO5.out.ext x58)
  have HROW8 := Lib.hid (HROW.out.ext x58)
  clear hS6 y6 hx7 hx8 x68 x58 HCO5 HROW HROW6 HROW7 HX56
  obtain ⟨C, hCe⟩ : ∃ C, C = codeR l := ⟨_, rfl⟩
  have HCE := Lib.hid hCe
  clear hCe
  go_wp2_with fail
  have hwc := wcode_ok (some ⟨g3, 0, none⟩) g3 0 c3 l n HN.out n1 (by omega) HO.out (fun _ => rfl) w8 (fun _ => HCO8.out.row)
  rw [← HCE.out] at hwc
  refine hwc.mono ?_
  rintro e w9 ⟨rfl, hx9⟩
  clear hwc
  go_upto_region 9 with (fail)
  have x10 : Ext w8 (w9.alloc (.cells C.cells 30)) := hx9.alloc _
  have hP10 := Blk.new w9 30 C.cells
  generalize (w9.alloc (.cells C.cells 30)) = W10 at x10 hP10 ⊢
  generalize (w9 : World).heap.size = pb at hP10 ⊢
  have hS10 := Blk.ext hS8 x10
  have y10 := y8.trans x10
  clear hS8 hx9
  have i1 := Blk.has hS10
  have i2 := Blk.gets hS10
  have i3 := hS10.lt
  go_wp2_with fail
  refine (of_st (some ⟨b', off', none⟩) k cap' pc halt _).mono ?_
  rintro e w11 ⟨rfl, hx11⟩
  clear i1 i2 i3
  go_upto_region 10 with (fail)
  have x12 : Ext W10 (w11.alloc (.cells (stCells pc (some ⟨b', off', none⟩) k cap' halt) 70)) := hx11.alloc _
  have hN12 := Blk.new w11 70 (stCells pc (some ⟨b', off', none⟩) k cap' halt)
  have hpn : pb < w11.heap.size := (Blk.ext hP10 hx11).lt
  have hwn : w.heap.size ≤ w11.heap.size := (y10.trans hx11).size
  have h811 : w8.heap.size ≤ w11.heap.size := (x10.trans hx11).size
  have hgt8 := HROW8.out.lt
  have hg38 := HCO8.out.row.lt
  generalize (w11.alloc (.cells (stCells pc (some ⟨b', off', none⟩) k cap' halt) 70)) = W12 at x12 hN12 ⊢
  generalize (w11 : World).heap.size = nb at hN12 hpn hwn h811 ⊢
  have hP12 := Blk.ext hP10 x12
  have y12 := y10.trans x12
  have x812 := x10.trans x12
  have hco12 := HCO8.out.ext x812
  have hrow12 := HROW8.out.ext x812
  have hgnb : ¬ gt = nb := by omega
  have hg3nb : ¬ g3 = nb := by omega
  clear hP10 hS10 x10 x12 y10 hx11 HCO8 HROW8 y8
  have HCO12 := Lib.hid hco12
  have HROW12 := Lib.hid hrow12
  clear hco12 hrow12
  go_wp2_with fail
  go_loopw [15] (fun t15 wr => ∃ (j g c : Nat) (o : Nat), j ≤ steps ∧ t15 = .int .i64 j ∧ Blk wr nb 70 (stCells (trajI l (pc, halt, m) j).1 (some ⟨g, o, none⟩) k c (trajI l (pc, halt, m) j).2.1) ∧ Row wr g o (mems (trajI l (pc, halt, m) j).2.2) ∧ Kept (· = nb) W12 wr) (fun t15 _ => steps - (intOf t15).toNat)
  case atStart => exact ⟨0, b', cap', off', Nat.zero_le _, rfl, hN12, HCO12.out.mrow, Kept.refl _ _⟩
  case round =>
    obtain ⟨j, g, c, o, hj, rfl, hNb, hM, hk⟩ := hrel
    obtain ⟨hok, hokl⟩ := HOKT.out j
    have hck := chkW_trace l (by have := HN.out; omega) (pc, halt, m) HC.out.okay j
    obtain ⟨r, hr⟩ : ∃ r, r = trajI l (pc, halt, m) j := ⟨_, rfl⟩
    have hnx : trajI l (pc, halt, m) (j + 1) = runI l r.1 r.2.1 r.2.2 := by rw [hr]; rfl
    rw [← hr] at hNb hM hok hokl hck
    obtain ⟨rpc, rha, rm⟩ := r
    simp only at hNb hM hok hokl hnx hck
    rw [← HKn.out] at hokl
    have xw : Ext w wr := y12.trans' hk (fun i hi e => by omega)
    have hownr : Row wr g3 0 (inss l) := HCO12.out.row.kept hk hg3nb
    have hrow : Row wr gt 0 (digs T) := HROW12.out.kept hk hgnb
    have hP := Blk.kept hP12 hk (by omega)
    have HM := Lib.hid hM
    have HOK := Lib.hid hok
    have HLN := Lib.hid hokl
    have HNX := Lib.hid hnx
    have HOWN := Lib.hid hownr
    have HKT := Lib.hid hk
    have HOPS := Lib.hid (HC.out.ext xw).ops
    clear hM hok hokl hnx hr hownr hk
    by_cases hlt : j < steps
    · have hltI : (j : Int) + 1 < (steps : Int) + 1 := by omega
      have hj0 : (0 : Int) ≤ j := by omega
      have hj30 : (j : Int) ≤ 30 := by omega
      have hjl : (j : Int) < (steps : Int) + 1 := by omega
      have hjs : (j : Int) < (steps : Int) := by omega
      have hj1 : (0 : Int) ≤ (j : Int) + 1 := by omega
      have hjt : ((j : Int) + 1).toNat = j + 1 := by omega
      have hwj : IntKind.i64.wrap ((j : Int) + 1) = (j : Int) + 1 := by rw [IntKind.wrap_i64]; omega
      obtain ⟨h0h, h0g⟩ := hrow.dig j (by have := HTL.out; omega)
      obtain ⟨h1h, h1g⟩ := hrow.dig (j + 1) (by have := HTL.out; omega)
      rw [HTG.out j (by have := HTL.out; omega)] at h0g
      rw [HTG.out (j + 1) (by have := HTL.out; omega)] at h1g
      obtain ⟨D0, hD0⟩ : ∃ D0, D0 = trD l (pc, halt, m) j := ⟨_, rfl⟩
      obtain ⟨D1, hD1⟩ : ∃ D1, D1 = trD l (pc, halt, m) (j + 1) := ⟨_, rfl⟩
      rw [← hD0] at h0g hck
      rw [← hD1] at h1g hck
      simp only [Nat.zero_add] at h0h h0g h1h h1g
      have hgl := hrow.lt
      have HCK := Lib.hid hck
      have i1 := Blk.has hNb
      have i2 := Blk.gets hNb
      have i3 := hNb.lt
      clear hD0 hD1 hck hrow
      go_wp2_with fail
      refine (make_ok (some ⟨g3, 0, none⟩) g3 0 c3 l n HN.out n1 (by omega) HO.out (fun _ => rfl) rpc rha (some ⟨g, o, none⟩) g o c rm k HLN.out.symm (by rw [← HLN.out]; exact HOK.out.right) (fun _ => rfl) HOK.out.mok wr HOPS.out (fun _ => HOWN.out) (fun _ => HM.out)).mono ?_
      rintro e w13 ⟨s, rfl, hsv, hx13⟩
      clear i1 i2 i3
      go_upto_region 14 with (fail)
      have z14 : Ext wr (w13.alloc (.cells s.cells 45)) := hx13.alloc _
      have hW14 := Blk.new w13 45 s.cells
      have hv14 := hsv.ext ((Kept.refl _ w13).alloc (.cells s.cells 45))
      generalize (w13.alloc (.cells s.cells 45)) = W14 at z14 hW14 hv14 ⊢
      generalize (w13 : World).heap.size = p14 at hW14 ⊢
      have hP14 := Blk.ext hP z14
      have HV14 := Lib.hid hv14
      have k0h := has_ext z14 hgl h0h
      have k0g := gets_ext z14 hgl h0g
      have k1h := has_ext z14 hgl h1h
      have k1g := gets_ext z14 hgl h1g
      have kgl := Nat.lt_of_lt_of_le hgl z14.size
      clear hv14 hsv hx13 h0h h0g h1h h1g hgl
      refine wp_region_3 (fun w2 => Ext W14 w2) [(0, 2), (1, 2), (2, 2), (3, 2), (4, 2), (5, 2), (6, 2), (7, 1), (8, 2), (9, 2), (10, 2), (11, 2), (12, 2), (13, 1), (14, 2), (15, 2), (16, 2), (17, 2), (18, 1), (19, 1), (20, 0), (21, 2), (22, 2)] (by kernel_rfl) (by kernel_rfl) (by kernel_rfl) (by kernel_rfl) ?_; intro l' hl'; simp only [List.map_cons, List.map_nil, List.getD_cons_zero, List.getD_cons_succ] at hl'; subst hl'
      (repeat (first | ((apply w3_pure); (· go_simp); (· (intro w1; go_simp; try with_reducible rfl)); (intro K hK; go_simp; refine hK _ _ ?_; clear hK K)) | ((apply w3_skip); (· go_simp); (intro K hK; go_simp; refine hK _ _ ?_; clear hK K)) | ((apply w3_take); (· exact (Kept.drew (Kept.refl _ _))); (· go_simp); (· (intro w1 hS; have d1 := Blk.has (Blk.ext hP14 hS); have d2 := Blk.gets (Blk.ext hP14 hS); have d3 := (Blk.ext hP14 hS).lt; have d4 := has_ext hS kgl k0h; have d5 := gets_ext hS kgl k0g; have d6 := has_ext hS kgl k1h; have d7 := gets_ext hS kgl k1g; have d8 := Nat.lt_of_lt_of_le kgl hS.size; have d9 := Blk.has (Blk.ext hW14 hS); have d10 := Blk.gets (Blk.ext hW14 hS); have d11 := (Blk.ext hW14 hS).lt;  go_simp; try with_reducible rfl)); (intro K hK; go_simp; refine hK _ _ ?_; clear hK K)) | ((apply w3_pass); (· exact (Kept.drew (Kept.refl _ _))); (· go_simp); (intro K hK; go_simp; refine hK _ _ ?_; clear hK K))))
      have yW : Ext W14 W14.drew := (Kept.refl _ W14).drew
      (refine w3_act (fun K hK => ?_); go_simp)
      go_wp2_with fail
      have hcm := checkW_made s l n HN.out n1 (by omega) (rpc, rha, rm) D0 D1 HOK.out HO.out W14.drew (HOPS.out.ext (z14.trans yW)) (HV14.out.ext yW)
      rw [HCK.out, ← HCE.out] at hcm
      refine hcm.mono ?_
      rintro e w15 ⟨rfl, hx15⟩
      have y15 : Ext W14 w15 := yW.trans hx15
      refine hK.out _ _ (fun _ => y15) ?_
      clear hK K hcm
      (repeat (first | ((apply w3_pure); (· go_simp); (· (intro w1; go_simp; try with_reducible rfl)); (intro K hK; go_simp; refine hK _ _ ?_; clear hK K)) | ((apply w3_skip); (· go_simp); (intro K hK; go_simp; refine hK _ _ ?_; clear hK K)) | (refine w3_end (by kernel_rfl) (fun K hK => ?_); go_simp; refine hK.out _ _ ?_; clear hK K))); refine w3_nil ?_
      have zz : Ext wr w15 := z14.trans y15
      have hN15 := Blk.ext hNb zz
      have hpre : RunPre w15 (some ⟨g3, 0, none⟩) g3 0 n l g o k rpc rha rm := ⟨HOPS.out.ext zz, fun _ => rfl, fun _ => HOWN.out.ext zz, HN.out, by omega, HLN.out.symm, by rw [← HLN.out]; exact HOK.out.right, HOK.out.mok, HM.out.ext zz⟩
      have hms := mstep_any (some ⟨g3, 0, none⟩) g3 0 n c3 l rpc rha g o k c rm w15 hpre
      rw [← HNX.out] at hms
      obtain ⟨q, hq⟩ : ∃ q, q = trajI l (pc, halt, m) (j + 1) := ⟨_, rfl⟩
      rw [← hq] at hms
      have HQ := Lib.hid hq
      have HMS := Lib.hid hms
      have i1 := Blk.has hN15
      have i2 := Blk.gets hN15
      have i3 := hN15.lt
      clear hq hms hpre k0h k0g k1h k1g kgl hW14 hP14 yW hx15 HV14
      go_wp2_with fail
      refine HMS.out.mono ?_
      rintro e w16 ⟨v16, rfl, g6, c6, rfl, hm6, hx16⟩
      simp only [stCells]
      have hN16 := Blk.ext hN15 hx16
      have hg6 : w15.heap.size ≤ g6 := by obtain ⟨_, cur, hb, _⟩ := hm6.inv; exact hb
      have hnl := hN15.lt
      have kp : Kept (· = nb) w16 (putAt w16 nb 0 (stCells q.1 (some ⟨g6, 0, none⟩) k c6 q.2.1)) := Kept.putAt (Kept.refl (· = nb) w16) nb _ _ (fun _ => rfl)
      have hN17 : Blk (putAt w16 nb 0 (stCells q.1 (some ⟨g6, 0, none⟩) k c6 q.2.1)) nb 70 (stCells q.1 (some ⟨g6, 0, none⟩) k c6 q.2.1) := Blk.put_ hN16 _ _
      have hm7 := hm6.kept kp (by omega)
      have hk7 : Kept (· = nb) W12 (putAt w16 nb 0 (stCells q.1 (some ⟨g6, 0, none⟩) k c6 q.2.1)) := (HKT.out.trans (Kept.ext (zz.trans hx16))).trans kp
      have HM7 := Lib.hid hm7
      have HK7 := Lib.hid hk7
      clear i1 i2 i3 hm6 hm7 hk7 kp
      have i1 := Blk.has hN16
      have i2 := Blk.melts hN16
      have i3 := hN16.lt
      go_wp2_with fail
      go_roundw
      case rel => exact ⟨j + 1, g6, c6, 0, by omega, by go_num, by rw [← HQ.out]; exact hN17, by rw [← HQ.out]; exact HM7.out.row, HK7.out⟩
      case measure => simp only [intOf]; omega
    · have hltI : ¬ (j : Int) + 1 < (steps : Int) + 1 := by omega
      have ej : j = steps := by omega
      subst ej
      go_wp2_with fail
      go_ret
      exact ⟨rfl, xw⟩
end witnessTrace
end Go.Proofs.YtahljceanodhkaaGreatDoor

/- The table of operations that the program's text lays: where the walks read it. -/
namespace Go.Proofs.YtahljceanodhkaaGreatDoor
open Go.RowKit Go.ChangeShapes Go.WideShapes Go.ChangeAt
/-- what laid_baize_code_operations says of operation k -/
def opD (k : Nat) : Option (List UInt8) := match (Rows.laid_baize_code_operations : DataW Unit) with
  | .agg l => match l[k]? with | some (.agg [_, .lit (.string s)]) => some s | _ => none
  | _ => none
theorem opD_all : ∀ k, k < 22 → opD k = some (hasN k) := by decide
theorem opsAt_of {w : World} {cs : Array Value} {fuel : Nat} {p : List MemPlace} {enc : TypeId × Value → Unit} {held : Bool} (hv : w.var? Tryz.prog "baize/code.operations" = some cs) (h : DataW.trod enc Tryz.prog w 0 (fun _ => true) held fuel 275 cs.toList = some (Rows.laid_baize_code_operations, p)) : OpsAt w := by
  obtain ⟨xs, m, rfl, hx, hl, hn, hall⟩ := DataW.trod_array Tryz.underlying275 h
  have hD : (Rows.laid_baize_code_operations : DataW Unit) = .agg (xs.map (·.1)) := congrArg Prod.fst hx
  have hce : Tryz.prog.cellsOf 274 = 2 := by kernel_rfl
  have hct : Tryz.prog.cellsOf 9 = 1 := by kernel_rfl
  have key : ∀ k, k < 22 → cs[k * 2 + 1]? = some (.string (hasS k)) := fun k hk => by
    have h1 := hall k hk
    rw [hce] at h1
    have hxk : xs[k]? = some xs[k] := List.getElem?_eq_getElem (by omega)
    rw [hxk] at h1
    obtain ⟨y0, y1, n', e1, _, _, e2⟩ := trod_struct2 Tryz.underlying274 h1
    obtain ⟨s, e3, e4, _⟩ := DataW.trod_string Tryz.underlying9 e2
    have h2 := opD_all k hk
    unfold opD at h2
    rw [hD] at h2
    simp only [List.getElem?_map, hxk, Option.map_some, e1, e4, Option.some.injEq] at h2
    rw [hct] at e3
    have e5 := congrArg (·[0]?) e3
    simp [List.getElem?_drop] at e5
    rw [e5]
    unfold hasS
    rw [← h2]
  have hg : Tryz.prog.globalNamed "baize/code.operations" = some 0 := by kernel_rfl
  have hcell := fun i => World.var?_cell hg hv i
  have hat : ∀ k, k < 22 → w.cell? ⟨0, k * 2 + 1, none⟩ = some (.string (hasS k)) := fun k hk => (hcell _).trans (key k hk)
  refine ⟨?_, hat⟩
  rcases Nat.lt_or_ge 0 w.heap.size with h0 | h0
  · exact h0
  · have := hat 0 (by omega)
    unfold World.cell? at this
    rw [Array.getElem?_eq_none h0] at this
    cases this
theorem opsAt_laid {w : World} (h : laidMetH Tryz.prog Rows.witnessSmallRow.laid w) : OpsAt w := by
  have h' : laidMet Tryz.prog Rows.witnessSmallRow.laid w := h
  obtain ⟨ps, ⟨_, _, _, _, _, _, _, _, _, _, ⟨_, _, _, _, _, _, _, _, _, _, ⟨_, _, _, _, _, _, _, _, _, _, ⟨g, t, cs, fuel, p, q, hg, ht, hv, hd, _, _⟩, _⟩, _⟩, _⟩, _⟩ := h'
  have hg' : Tryz.prog.globalNamed "baize/code.operations" = some 0 := by kernel_rfl
  obtain rfl := Option.some.inj (hg'.symm.trans hg)
  have ht' : (Tryz.prog.globals[0]?).map (·.type) = some 275 := by kernel_rfl
  obtain rfl := Option.some.inj (ht'.symm.trans ht)
  exact opsAt_of hv hd
end Go.Proofs.YtahljceanodhkaaGreatDoor

/- WitnessTrace, of all that may come in. -/
namespace Go.Proofs.YtahljceanodhkaaGreatDoor
open Go.RowKit Go.ChangeShapes Go.WideShapes
theorem opsAt_laid_of3 {laid : List (String × DataW Unit)} {w : World} (hl : laid = Rows.witnessSmallRow.laid) (h : laidMetH Tryz.prog laid w) : OpsAt w := by
  subst hl
  exact opsAt_laid h
namespace witnessTrace
set_option maxRecDepth 100000 in
theorem walk {H : Type} {enc : TypeId × Value → H} (W : World) (base : Nat) (v0 v1 v2 : Value) (d0 d1 d2 : DataW H) (p0 p1 p2 : List MemPlace)
    (o0 : Value.okWide Tryz.prog W .any base 58 v0) (o1 : Value.okWide Tryz.prog W .any base 61 v1) (o2 : Value.okWide Tryz.prog W .any base 3 v2)
    (h0 : DataW.Trod enc Tryz.prog W 0 (fun _ => true) true 58 v0 d0 p0) (h1 : DataW.Trod enc Tryz.prog W 0 (fun _ => true) true 61 v1 d1 p1) (h2 : DataW.Trod enc Tryz.prog W 0 (fun _ => true) true 3 v2 d2 p2) (hL : laidMetH Tryz.prog Rows.witnessTraceRow.laid W) :
    Calls Tryz.prog 8 #[v0, v1, v2] W fun e w' => e = .returned (.bool true) ∧ Ext W w' := by
  obtain ⟨st, rfl, rfl, rfl, _⟩ := open_int Tryz.underlying3 o2 h2
  obtain ⟨A0, n0, cap0, rfl⟩ := okWide_slice Tryz.underlying58 o0
  obtain ⟨fuel, hf⟩ := h0
  obtain ⟨A, b, off, n, cap, l, e, hA, hn, hr, hok, _, _⟩ := inss_of hf
  simp at e
  obtain ⟨rfl, rfl, rfl⟩ := e
  obtain ⟨cs, rfl⟩ : ∃ cs, v1 = .agg cs := by
    simp only [Value.okWide, Tryz.underlying61] at o1
    obtain ⟨cs, h1, _⟩ := o1
    exact ⟨cs, h1⟩
  obtain ⟨fuel', hf'⟩ := h1
  obtain ⟨pc, halt, A', b', off', k, cap', m, e, hpc, hhalt, hA', hk, hr', hm, _, _⟩ := state_of hf'
  obtain rfl : cs = stCells pc A' k cap' halt := by
    cases cs
    simpa [Value.cells] using e
  by_cases hl : (decide (n0 ≤ 20) && decide (k ≤ 20)) = true
  · by_cases hs : 30 < st ∧ st ≤ 65536
    · exact many A0 A' n0 cap0 k cap' pc halt st W (.inr hs)
    · obtain ⟨l1, l2⟩ : n0 ≤ 20 ∧ k ≤ 20 := by simpa using hl
      by_cases hg : n0 = 0 ∨ rightS pc halt k = false ∨ st < 0 ∨ 65536 < st
      · exact bad A0 b off cap0 l n0 hn l1 hok hA pc halt A' b' off' cap' m k hk l2 hA' st W hr hr' (by omega) hg
      · have g0 : ¬ n0 = 0 := fun e => hg (.inl e)
        have g1 : rightS pc halt k = true := by
          cases hq : rightS pc halt k
          · exact absurd (.inr (.inl hq)) hg
          · rfl
        have g2 : ¬ st < 0 := fun e => hg (.inr (.inr (.inl e)))
        have g3 : ¬ 65536 < st := fun e => hg (.inr (.inr (.inr e)))
        obtain ⟨s, rfl⟩ : ∃ s : Nat, st = s := ⟨st.toNat, by omega⟩
        obtain ⟨k1, _⟩ := rightS_inv g1
        obtain rfl := hA' k1
        exact good b off cap0 l n0 l1 pc halt b' off' cap' m k l2 A0 s (by omega) W ⟨hA (by omega), hr (by omega), hn, by omega, by omega, hok, hk, g1, hm, hr' k1, opsAt_laid_of3 rfl hL⟩
  · exact many A0 A' n0 cap0 k cap' pc halt st W (.inl (by simpa using hl))
end witnessTrace
end Go.Proofs.YtahljceanodhkaaGreatDoor
