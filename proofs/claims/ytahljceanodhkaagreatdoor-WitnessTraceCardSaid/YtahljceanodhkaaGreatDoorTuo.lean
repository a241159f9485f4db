/- Several texts joined: Xd. -/
import Derived.Test.YtahljceanodhkaaGreatDoorTtf
import Derived.Test.YtahljceanodhkaaGreatDoorTuf
/- Package witness: done, of a step that was made: the walk. -/
namespace Go.Proofs.YtahljceanodhkaaGreatDoor
open Go.RowKit
theorem mems_set (m : List Int) (y : Nat) (v : Int) : (mems m).toArray.setIfInBounds y (.int .i32 v) = (mems (m.set y v)).toArray := by
  simp [mems, List.map_set]
theorem inss_set (l : List Ins) (x : Nat) (i : Ins) (hx : x < l.length) : splice (inss l).toArray (x * 4) i.cells = (inss (l.set x i)).toArray := by
  have key : ∀ (l : List Ins) (x : Nat), x < l.length → (inss l).take (x * 4) ++ i.cells.toList ++ (inss l).drop (x * 4 + 4) = inss (l.set x i) := by
    intro l
    induction l with
    | nil => intro x hx; simp at hx
    | cons a l ih =>
      intro x hx
      cases x with
      | zero => simp [inss]
      | succ x =>
        have := ih x (by simpa using hx)
        show ((a.cells.toList ++ inss l).take ((x + 1) * 4)) ++ i.cells.toList ++ ((a.cells.toList ++ inss l).drop ((x + 1) * 4 + 4)) = a.cells.toList ++ inss (l.set x i)
        rw [← this, show (x + 1) * 4 = 4 + x * 4 by omega, show 4 + x * 4 + 4 = 4 + (x * 4 + 4) by omega, List.take_append, List.drop_append, List.take_of_length_le (l := a.cells.toList) (by simp), List.drop_of_length_le (l := a.cells.toList) (by simp)]
        simp
  unfold splice
  simpa using congrArg List.toArray (key l x hx)
theorem mput_ok {m : List Int} {x v : Int} (hm : ∀ z ∈ m, i32ok z) (hv : i32ok v) : ∀ z ∈ mput m x v, i32ok z := fun z hz => by
  rcases List.mem_or_eq_of_mem_set hz with h | h
  · exact hm z h
  · rw [h]; exact hv
theorem mget_ok {m : List Int} {x : Int} (hm : ∀ z ∈ m, i32ok z) : i32ok (mget m x) := getX_ok hm _
theorem spars_ok {m : List Int} (hm : ∀ z ∈ m, i32ok z) : ∀ (rs a : List Int), (∀ z ∈ a, i32ok z) → ∀ z ∈ spars m rs a, i32ok z
  | [], _, ha => ha
  | _ :: rs, _, ha => spars_ok hm rs _ (mput_ok ha (mget_ok hm))
theorem map_show (m rs : List Int) : (rs.map (showW m)).map Wl.at_ = rs := by
  rw [List.map_map]
  exact List.map_id' rs
set_option maxRecDepth 100000 in
set_option maxHeartbeats 20000000 in
theorem done_ok (s : Ws) (l : List Ins) (n : Nat) (hn : n = l.length) (h2 : n ≤ 2048) (x : Nat) (hxn : x < n) (m : List Int) (k : Nat) (hk : k = m.length) (hg : rightS x 0 k = true) (i : Ins) (hnx : nextI l x m.length = some i) (hli : l.getD x ⟨0, 0, 0, 0⟩ = i) (hmok : ∀ z ∈ m, i32ok z) (w : World) (hops : OpsAt w) (hv : StepV w s (makeL l x 0 m))
    (p hh : Int) (m1 : List Int) (hst : stepI l x m = (p, hh, m1)) (hpb : 0 ≤ p ∧ p ≤ 1000000) (hhb : 0 ≤ hh ∧ hh ≤ 1000000) :
    Calls Tryz.prog 85 #[.agg s.cells, .int .i64 n] w fun e w' => e = .returned (.tuple #[.agg (hHead p hh k (memR m1)).cells, .int .i64 0]) ∧ Ext w w' := by
  obtain ⟨k1, k2, _⟩ := rightS_inv hg
  obtain ⟨R, hR⟩ : ∃ R, R = hHead p hh k (memR m1) := ⟨_, rfl⟩
  rw [← hR]
  have HRES := Lib.hid hR
  clear hR
  obtain ⟨rs, wx, hrw⟩ : ∃ rs wx, mreads l x 0 m = (rs, wx) := ⟨_, _, rfl⟩
  obtain ⟨hin, hwx, hrl⟩ := mreads_in l x 0 m
  rw [hrw] at hin hwx hrl
  simp only at hin hwx hrl
  rw [← hk] at hin hwx
  have hL : makeL l x 0 m = ⟨x, 0, k, memR m, i, pathT (l.map ileaf) (hgt l.length) x, rs.map (showW m), if 0 ≤ wx then [showW m wx] else []⟩ := by
    unfold makeL
    rw [if_neg (by omega), hrw, Int.toNat_natCast, hli, hk]
  rw [hL] at hv
  obtain ⟨e1, e2, e3, e4, e5, _, vr, vw⟩ := hv
  obtain ⟨spc, shalt, swords, smem, sins, spa, spn, spk, sra, srn, srk, swa, swn, swk⟩ := s
  simp only at e1 e2 e3 e4 e5 vr vw
  replace e5 := e5.symm
  subst e1 e2 e3 e4 e5
  have hrn : srn = rs.length := by simpa using vr.len
  have hwn : swn ≤ 1 := by have := vw.len; split at this <;> simp at this <;> omega
  obtain ⟨M, hM⟩ : ∃ M, M = memR m := ⟨_, rfl⟩
  rw [← hM]
  have HMM := Lib.hid hM
  have HRN := Lib.hid hrn
  have hrn4 : srn ≤ 4 := by omega
  have HVR := Lib.hid vr
  have HVW := Lib.hid vw
  have HIN := Lib.hid hin
  have HK := Lib.hid hk
  have HN := Lib.hid hn
  have HNX := Lib.hid hnx
  have HLI := Lib.hid hli
  have HMOK := Lib.hid hmok
  have HOPS := Lib.hid hops
  have HST := Lib.hid hst
  have HRW := Lib.hid hrw
  have HG := Lib.hid hg
  clear hL hrn vr vw hin hk hn hnx hli hmok hops hst hrw hM hrl hg
  have x0 : Ext w _ := ((Kept.refl _ w).alloc (.cells (Ws.cells ⟨x, 0, k, M, i, spa, spn, spk, sra, srn, srk, swa, swn, swk⟩) 45)).alloc (.cells Dg.zero.cells 30)
  have hS0 := Blk.alloc (Blk.new w 45 (Ws.cells ⟨x, 0, k, M, i, spa, spn, spk, sra, srn, srk, swa, swn, swk⟩)) (.cells Dg.zero.cells 30)
  have hR0 := Blk.new' (w.alloc (.cells (Ws.cells ⟨x, 0, k, M, i, spa, spn, spk, sra, srn, srk, swa, swn, swk⟩) 45)) 30 Dg.zero.cells (w.heap.size + 1) (by simp)
  go_enter Tryz.func85, Tryz.ntmps85
  go_upto_region 3 with (fail)
  generalize ((w.alloc (.cells (Ws.cells ⟨x, 0, k, M, i, spa, spn, spk, sra, srn, srk, swa, swn, swk⟩) 45)).alloc (.cells Dg.zero.cells 30)) = W0 at x0 hS0 hR0 ⊢
  obtain ⟨sb, hsb⟩ : ∃ sb, sb = w.heap.size := ⟨_, rfl⟩
  rw [← hsb] at hS0 hR0 ⊢
  have HSB := Lib.hid hsb
  clear hsb
  refine wp_region_4 (fun w2 => Ext W0 w2) (.op 0 2 (.op 1 1 (.op 2 2 (.op 3 1 (.op 5 2 (.op 6 1 (.fork 4 (.op 7 2 (.op 8 0 (.op 9 0 .nil))) 8 (.op 4 0 (.op 7 2 (.op 9 0 .nil)))))))))) (by kernel_rfl) (by kernel_rfl) (by kernel_rfl) (by kernel_rfl) ?_; intro p' hp'; simp only [Pl0.fill, List.getD_cons_zero, List.getD_cons_succ] at hp'; subst hp'
  (repeat (first | ((apply w4_pure); (· go_simp); (· (intro w1; go_simp; try with_reducible rfl)); (intro K hK; go_simp; refine hK _ _ ?_; clear hK K)) | ((apply w4_skip); (· go_simp); (intro K hK; go_simp; refine hK _ _ ?_; clear hK K)) | ((apply w4_take); (· exact (Kept.drew (Kept.refl _ _))); (· go_simp); (· (intro w1 hS; have d1 := Blk.cell (Blk.ext hS0 hS); have d2 := (Blk.ext hS0 hS).lt;  go_simp; try with_reducible rfl)); (intro K hK; go_simp; refine hK _ _ ?_; clear hK K)) | ((apply w4_pass); (· exact (Kept.drew (Kept.refl _ _))); (· go_simp); (intro K hK; go_simp; refine hK _ _ ?_; clear hK K))))
  have y : Ext W0 W0.drew := (Kept.refl _ W0).drew
  refine w4_fork ?_ ?_
  · obtain ⟨w1, hr1, hG1, hx1⟩ := makeM W0.drew k (by omega)
    refine w4_act (fun K hK => ?_)
    refine want_if rfl ?_
    refine wp_make_run (.tmp 25) (.tmp 25) 59 rfl rfl rfl hr1 ?_
    have y1 : Ext W0 w1 := y.trans hx1
    refine hK.out _ _ (fun _ => y1) ?_
    clear hK K hr1
    have hgl : W0.heap.size ≤ W0.drew.heap.size := Nat.le_refl _
    generalize W0.drew.heap.size = gm at hG1 hgl ⊢
    have lG := hG1.lt
    (repeat (first | ((apply w4_pure); (· go_simp); (· (intro w1; go_simp; try with_reducible rfl)); (intro K hK; go_simp; refine hK _ _ ?_; clear hK K)) | ((apply w4_skip); (· go_simp); (intro K hK; go_simp; refine hK _ _ ?_; clear hK K))))
    (refine w4_act (fun K hK => ?_); go_simp)
    refine hK.out _ _ (fun _ => Kept.alloc y1 _) ?_
    clear hK K
    (repeat (first | ((apply w4_pure); (· go_simp); (· (intro w1; go_simp; try with_reducible rfl)); (intro K hK; go_simp; refine hK _ _ ?_; clear hK K)) | ((apply w4_skip); (· go_simp); (intro K hK; go_simp; refine hK _ _ ?_; clear hK K)) | (refine w4_end (by kernel_rfl) (fun K hK => ?_); go_simp; refine hK.out _ _ ?_; clear hK K))); refine w4_nil ?_
    have x1 : Ext W0 _ := Kept.alloc y1 (.cells (stCells x (some ⟨gm, 0, none⟩) k k 0) 70)
    have hP := Blk.new w1 70 (stCells x (some ⟨gm, 0, none⟩) k k 0)
    have hG := Blk.alloc hG1 (.cells (stCells x (some ⟨gm, 0, none⟩) k k 0) 70)
    have hpl : W0.heap.size ≤ w1.heap.size := y1.size
    generalize (w1.alloc (.cells (stCells x (some ⟨gm, 0, none⟩) k k 0) 70)) = W at x1 hP hG ⊢
    obtain ⟨pb, hpb'⟩ : ∃ pb, pb = w1.heap.size := ⟨_, rfl⟩
    rw [← hpb'] at hP hpl ⊢
    have hne : ¬ pb = gm := by omega
    clear hpb' lG hG1
    have hS1 := Blk.ext hS0 x1
    have hR1 := Blk.ext hR0 x1
    have lS1 := hS0.lt
    have lR1 := hR0.lt
    have hc1 := Blk.cell hS1
    have lS1' := hS1.lt
    have hsz := x0.size
    go_wp2_with fail
    clear hc1
    go_loopw [33] (fun t33 wr => ∃ (j : Nat), j ≤ srn ∧ t33 = .int .i64 j ∧ Blk wr gm 21 (mems (spars m (rs.take j) (List.replicate k 0))).toArray ∧ Kept (· = gm) W wr) (fun t33 _ => srn - (intOf t33).toNat)
    case atStart => exact ⟨0, by omega, rfl, hG, Kept.refl _ _⟩
    case round =>
      obtain ⟨j, hj, rfl, hGr, hkr⟩ := hrel
      have xr : Ext w wr := (x0.trans x1).trans' hkr (fun i hi e => by omega)
      have HGR := Lib.hid hGr
      clear hGr hG
      by_cases hlt : j < srn
      · obtain ⟨hnl, b, off, ds, q1, q2, _, q4⟩ := HVR.out
        have hltI : (j : Int) < srn := by omega
        have hjr : j < rs.length := by have := HRN.out; omega
        have hjl : j < (rs.map (showW m)).length := by simpa using hjr
        have hjd : j < ds.length := by rw [q4.len]; exact hjl
        obtain rfl := q1 (by omega)
        have hrow := (q2 (by omega)).ext xr
        obtain ⟨hrh, hrg⟩ := hrow.wd j hjd
        have hbl := hrow.lt
        have hwv := (q4.get j hjd hjl).ext xr
        rw [List.getElem_map] at hwv
        obtain ⟨d, hde⟩ : ∃ d, d = ds[j] := ⟨_, rfl⟩
        obtain ⟨z, hz⟩ : ∃ z, z = rs[j] := ⟨_, rfl⟩
        rw [← hde] at hrg hwv
        rw [← hz] at hwv
        obtain ⟨hz0, hz1⟩ := HIN.out z (by rw [hz]; exact List.getElem_mem hjr)
        obtain ⟨a, rfl⟩ : ∃ a : Nat, z = a := ⟨z.toNat, by omega⟩
        have f1 : d.at_ = a := hwv.at_
        have f2 := hwv.is_
        have HWV := Lib.hid hwv
        have HZ := Lib.hid hz
        have HF2 := Lib.hid f2
        have hak : a < k := by omega
        clear hnl q1 q2 q4 hrow hde hwv hz f2 hz0
        obtain ⟨dat, dis, dpa, dpn, dpk⟩ := d
        simp only at f1
        subst f1
        go_upto_region 7 with (fail)
        have xa : Ext wr _ := (Kept.refl _ wr).alloc (.cells (Wd.cells ⟨a, dis, dpa, dpn, dpk⟩) 77)
        have hW7 := Blk.new wr 77 (Wd.cells ⟨a, dis, dpa, dpn, dpk⟩)
        have hS7 := Blk.ext (Blk.kept hS1 hkr (by omega)) xa
        have hP7 := Blk.ext (Blk.kept hP hkr hne) xa
        have hG7 := Blk.ext HGR.out xa
        have hwv7 := HWV.out.ext xa
        have HG7 := Lib.hid hG7
        have HWV7 := Lib.hid hwv7
        generalize (wr.alloc (.cells (Wd.cells ⟨a, dis, dpa, dpn, dpk⟩) 77)) = W7 at xa hW7 hS7 hP7 HG7 HWV7 ⊢
        clear hG7 hwv7 hrh hrg HWV HGR
        generalize (wr : World).heap.size = wb at hW7 ⊢
        have i1 := Blk.has hW7
        have i2 := Blk.gets hW7
        have hst7 := stands_ok ⟨a, dis, dpa, dpn, dpk⟩ (showW m a) sb ⟨x, 0, k, M, i, spa, spn, spk, some ⟨b, off, none⟩, srn, srk, swa, swn, swk⟩ k rfl k1 k2 W7 hS7 HWV7.out (by rw [show (showW m a).path = pathT (m.map leafW) (hgt m.length) a from rfl, pathT_len, HK.out]) (by rw [HMM.out]; exact show_check (by omega) (by rw [← HK.out]; omega) (by rw [← HK.out]; omega))
        have HST7 := Lib.hid hst7
        clear hst7
        go_wp2_with fail
        refine HST7.out.mono ?_
        rintro e w8 ⟨rfl, hx8⟩
        have j1 := Blk.cell (Blk.ext hW7 hx8)
        have j2 := (Blk.ext hW7 hx8).lt
        have j3 := Blk.cell (Blk.ext hS7 hx8)
        have j4 := (Blk.ext hS7 hx8).lt
        have j5 := Blk.cell (Blk.ext hP7 hx8)
        have j6 := (Blk.ext hP7 hx8).lt
        have hG8 := Blk.ext HG7.out hx8
        have j7 := Blk.frozen hG8 a
        have j8 := hG8.lt
        have hgl : (spars m (rs.take j) (List.replicate k 0)).length = k := by rw [spars_len]; simp
        have j9 : w8.cell? ⟨gm, a, none⟩ = some (.int .i32 ((spars m (rs.take j) (List.replicate k 0)).getD a 0)) := by
          rw [Blk.cell hG8 a]
          simp [mems, hgl, hak]
        have HG8 := Lib.hid hG8
        have hakI : (a : Int) < k := by omega
        clear hG8 HG7 i1 i2 hW7 hS7 hP7 hgl
        go_wp2_with fail
        go_roundw
        case rel =>
          refine ⟨j + 1, hlt, by go_num, ?_, ?_⟩
          · have h9 := Blk.set_ HG8.out a (.int .i32 dis)
            rw [mems_set, HF2.out] at h9
            rw [HF2.out, List.take_succ_eq_append_getElem hjr, spars_snoc, ← HZ.out]
            exact h9
          · exact Kept.setCell (hkr.trans' (xa.trans hx8) (fun _ _ f => f.elim)) _ _ (fun _ => rfl)
        case measure => simp only [intOf]; omega
      · have hlt' : ¬ (j : Int) < srn := by omega
        have htk : rs.take j = rs := List.take_of_length_le (by have := HRN.out; omega)
        have hG2 := HGR.out
        rw [htk] at hG2
        have hml : (spars m rs (List.replicate k 0)).length = k := by rw [spars_len]; simp
        have hag : ∀ z ∈ (mreads l x 0 m).1, mget (spars m rs (List.replicate k 0)) z = mget m z := by
          rw [HRW.out]
          intro z hz
          rw [spars_get _ _ _ (fun y hy => by have := HIN.out y hy; simpa using this) _ (HIN.out z hz).1, if_pos hz]
        have hmk' := spars_ok HMOK.out rs (List.replicate k 0) (fun z hz => by rw [(List.mem_replicate.1 hz).2]; unfold i32ok; omega)
        generalize (spars m rs (List.replicate k 0)) = m' at hG2 hml hag hmk'
        obtain ⟨c', hc'⟩ : ∃ c', c' = (List.replicate n (⟨0, 0, 0, 0⟩ : Ins)).set x i := ⟨_, rfl⟩
        have hcl : c'.length = n := by rw [hc']; simp
        have hxl : x < l.length := by have := HN.out; omega
        have hci : c'[(x : Int).toNat]? = l[(x : Int).toNat]? := by
          rw [Int.toNat_natCast, hc', List.getElem?_set_self (by simpa using hxn), List.getElem?_eq_getElem hxl]
          have := HLI.out
          simp [hxl] at this
          rw [this]
        obtain ⟨hrd, p', hh', v, hs1, hs2⟩ := step_sparse HNX.out (hcl.trans HN.out) hci (hml.trans HK.out) hag
        rw [HST.out, HRW.out] at hs1
        rw [HRW.out] at hrd hs2
        injection hs1 with g1 hs1
        injection hs1 with g2 g3
        subst g1 g2
        have HG2 := Lib.hid hG2
        have HRD := Lib.hid hrd
        have HS2 := Lib.hid hs2
        have HM1 := Lib.hid g3
        have HML := Lib.hid hml
        have HMK' := Lib.hid hmk'
        have HC' := Lib.hid hc'
        have HCL := Lib.hid hcl
        have hSr := Blk.kept hS1 hkr (by omega)
        have hRr := Blk.kept hR1 hkr (by omega)
        have hPr := Blk.kept hP hkr hne
        clear hG2 hrd hs2 g3 hml hmk' hc' hcl hag hci htk HGR hxl
        obtain ⟨w2, hr2, hC2, hx2⟩ := makeI wr n (by omega)
        go_upto_region 12 with (fail)
        go_step
        iterate 1 (refine wpList_step (fun K hK => ?_); go_simp; (try go_bits); refine hK _ _ ?_; clear hK K)
        refine wpList_make rfl (.tmp 55) (.tmp 55) 65 rfl rfl rfl hr2 ?_
        clear hr2
        have hS2 := Blk.ext hSr hx2
        have hR2 := Blk.ext hRr hx2
        have hP2 := Blk.ext hPr hx2
        have hG3 := Blk.ext HG2.out hx2
        have hgc : gm < wr.heap.size := HG2.out.lt
        have hpc : pb < wr.heap.size := hPr.lt
        have hsc : sb + 1 < wr.heap.size := hRr.lt
        have hwc : w.heap.size ≤ wr.heap.size := xr.size
        have xr2 := xr.trans hx2
        generalize (wr : World).heap.size = gc at hC2 hgc hpc hsc hwc ⊢
        clear hSr hRr hPr HG2 hx2
        go_upto_region 13 with (fail)
        have i1 := Blk.cell hS2
        have i2 := Blk.has hS2
        have i3 := Blk.gets hS2
        have i4 := hS2.lt
        have i5 := hC2.lt
        have i6 : Proofs.YtahljceanodhkaaGreatDoor.has w2 gc (x * 4) 4 = true := by
          unfold Proofs.YtahljceanodhkaaGreatDoor.has
          rw [show w2.heap[gc]? = _ from hC2]
          simp [inss_rep]
          omega
        have i7 := Blk.melts hC2
        have hxnI : (x : Int) < n := by omega
        go_upto_region 14 with (fail)
        have kp : Kept (· = gc) w2 (putAt w2 gc (x * 4) i.cells) := Kept.putAt (Kept.refl _ w2) _ _ _ (fun _ => rfl)
        have hC3 : Blk (putAt w2 gc (x * 4) i.cells) gc 41 (inss c').toArray := by
          have := Blk.put_ hC2 (x * 4) i.cells
          rw [inss_set _ x i (by simpa using hxn), ← HC'.out] at this
          exact this
        have hS3 := Blk.kept hS2 kp (by omega)
        have hR3 := Blk.kept hR2 kp (by omega)
        have hP3 := Blk.kept hP2 kp (by omega)
        have hG4 := Blk.kept hG3 kp (by omega)
        have xr3 : Ext w (putAt w2 gc (x * 4) i.cells) := xr2.trans' kp (fun i hi e => by omega)
        generalize (putAt w2 gc (x * 4) i.cells) = W3 at hC3 hS3 hR3 hP3 hG4 xr3 ⊢
        clear i1 i2 i3 i6 i7 hC2 hS2 hR2 hP2 hG3 kp xr2
        have hpre : RunPre W3 (some ⟨gc, 0, none⟩) gc 0 n c' gm 0 k x 0 m' := ⟨HOPS.out.ext xr3, fun _ => rfl, fun _ => by simpa using Row.of_blk hC3, HCL.out.symm, h2, HML.out.symm, HG.out, HMK'.out, by simpa using Row.of_blk hG4⟩
        have HPRE := Lib.hid hpre
        have hmr := mreads_any (some ⟨gc, 0, none⟩) gc 0 n n c' x 0 gm 0 k k m' W3 hpre
        rw [HRD.out] at hmr
        have HMR := Lib.hid hmr
        have i1 := Blk.has hP3
        have i2 := Blk.gets hP3
        clear hpre hmr
        go_wp2_with fail
        refine HMR.out.mono ?_
        rintro e w4 ⟨v4, rfl, ho4, hx4⟩
        simp only at ho4
        have hS4 := Blk.ext hS3 hx4
        have hR4 := Blk.ext hR3 hx4
        have hP4 := Blk.ext hP3 hx4
        have hpre4 := HPRE.out.ext hx4
        have xr4 := xr3.trans hx4
        have hlr : rs.length ≤ 100000 := by have := HRN.out; omega
        have hsz4 := xr3.size
        have HO4 := Lib.hid ho4
        have HPRE4 := Lib.hid hpre4
        clear HMR HPRE i1 i2 hS3 hR3 hP3 hG4 hC3 ho4 hpre4 hx4
        have i1 := Blk.cell hS4
        have i4 := hS4.lt
        go_wp2_with fail
        have hat := ats_any sra srn srk (rs.map (showW m)) w4 (HVR.out.ext xr4) hrn4
        rw [map_show] at hat
        refine hat.mono ?_
        rintro e w5 ⟨v5, rfl, ho5, hx5⟩
        have HO5 := Lib.hid ho5
        clear ho5 hat
        go_wp2_with fail
        refine (equal_own HO5.out (own_ext HO4.out hx5) hlr).mono ?_
        rintro e w6 ⟨rfl, hx6⟩
        have hx46 := hx5.trans hx6
        have hS6 := Blk.ext hS4 hx46
        have hR6 := Blk.ext hR4 hx46
        have hP6 := Blk.ext hP4 hx46
        have hpre6 := HPRE4.out.ext hx46
        have xr6 := xr4.trans hx46
        have HPRE6 := Lib.hid hpre6
        clear i1 i4 hS4 hR4 hP4 HPRE4 hpre6 HO4 HO5 hx5 hx6 hx46 xr4
        by_cases hw0 : 0 ≤ wx
        · have hwv := HVW.out
          rw [if_pos hw0] at hwv
          go_upto_region 20 with (fail)
          have xa : Ext w6 _ := (Kept.refl _ w6).alloc (.cells #[.int .i64 wx] 3)
          have ho7 : (w6.alloc (.cells #[.int .i64 wx] 3)).ownsRow w6.heap.size 3 1 (.slice (some ⟨w6.heap.size, 0, none⟩) 1 1) 1 (ints [wx]) := ⟨rfl, .inr ⟨w6.heap.size, 1, _, rfl, Nat.le_refl _, Blk.new w6 3 #[.int .i64 wx], Nat.le_refl _, by unfold maxLen; omega, rfl, rfl⟩⟩
          obtain ⟨ws, hws⟩ : ∃ ws, ws = [wx] := ⟨_, rfl⟩
          have hwv7 : WordsS (w6.alloc (.cells #[.int .i64 wx] 3)) swa swn (ws.map (showW m)) := by rw [hws]; exact hwv.ext (xr6.trans xa)
          have hwi : ∀ y ∈ ws, 0 ≤ y ∧ y < k := by rw [hws]; intro y hy; simp at hy; subst hy; exact ⟨hw0, hwx⟩
          have hwc' : (ws = [] ∧ wx < 0) ∨ (ws = [wx] ∧ 0 ≤ wx) := .inr ⟨hws, hw0⟩
          have ho7' : (w6.alloc (.cells #[.int .i64 wx] 3)).ownsRow w6.heap.size 3 1 (.slice (some ⟨w6.heap.size, 0, none⟩) 1 1) ws.length (ints ws) := by rw [hws]; exact ho7
          have hS7 := Blk.ext hS6 xa
          have hR7 := Blk.ext hR6 xa
          have hpre7 := HPRE6.out.ext xa
          have hP7 := Blk.ext hP6 xa
          have xr7 := xr6.trans xa
          generalize (w6.alloc (.cells #[.int .i64 wx] 3)) = W7 at xa ho7' hwv7 hS7 hR7 hpre7 hP7 xr7 ⊢
          generalize (Value.slice (some ⟨w6.heap.size, 0, none⟩) 1 1) = v7 at ho7' ⊢
          generalize w6.heap.size = b7 at ho7'
          clear hws ho7 hwv hS6 hR6 hP6 HPRE6 xr6 xa hw0
          have hwn' : swn = ws.length := by simpa using hwv7.len
          have HWN := Lib.hid hwn'
          have HWV7 := Lib.hid hwv7
          have HWI := Lib.hid hwi
          have HWC := Lib.hid hwc'
          have HO7 := Lib.hid ho7'
          have HPRE7 := Lib.hid hpre7
          clear hwn' hwv7 hwi hwc' ho7' hpre7
          have i1 := Blk.cell hS7
          have i4 := hS7.lt
          go_wp2_with fail
          have hat := ats_any swa swn swk (ws.map (showW m)) W7 HWV7.out (by omega)
          rw [map_show] at hat
          refine hat.mono ?_
          rintro e w8 ⟨v8, rfl, ho8, hx8⟩
          have HO8 := Lib.hid ho8
          clear ho8 hat
          go_wp2_with fail
          refine (equal_own HO8.out (own_ext HO7.out hx8) (by have := HWN.out; omega)).mono ?_
          rintro e w9 ⟨rfl, hx9⟩
          have hx79 := hx8.trans hx9
          have hS9 := Blk.ext hS7 hx79
          have hR9 := Blk.ext hR7 hx79
          have hP9 := Blk.ext hP7 hx79
          have hpre9 := HPRE7.out.ext hx79
          have hwv9 := HWV7.out.ext hx79
          have xr9 := xr7.trans hx79
          have HPRE9 := Lib.hid hpre9
          have HWV9 := Lib.hid hwv9
          clear i1 i4 hS7 hR7 hP7 HPRE7 hpre9 hwv9 HWV7 HO7 HO8 hx8 hx9 hx79 xr7
          have i1 := Blk.cell hS9
          have i4 := hS9.lt
          go_wp2_with fail
          clear i1
          go_loopw [92] (fun t92 wr => ∃ (j2 : Nat), j2 ≤ swn ∧ t92 = .int .i64 j2 ∧ Ext w9 wr) (fun t92 _ => swn - (intOf t92).toNat)
          case atStart => exact ⟨0, by omega, rfl, Kept.refl _ _⟩
          case round =>
            obtain ⟨j2, hj2, rfl, hxt⟩ := hrel
            by_cases hlt2 : j2 < swn
            · obtain ⟨hnl, b, off, ds, q1, q2, _, q4⟩ := HWV9.out
              have hltI2 : (j2 : Int) < swn := by omega
              have hjr : j2 < ws.length := by have := HWN.out; omega
              have hjl : j2 < (ws.map (showW m)).length := by simpa using hjr
              have hjd : j2 < ds.length := by rw [q4.len]; exact hjl
              obtain rfl := q1 (by omega)
              have hrow := (q2 (by omega)).ext hxt
              obtain ⟨hrh, hrg⟩ := hrow.wd j2 hjd
              have hbl := hrow.lt
              have hwv := (q4.get j2 hjd hjl).ext hxt
              rw [List.getElem_map] at hwv
              obtain ⟨d, hde⟩ : ∃ d, d = ds[j2] := ⟨_, rfl⟩
              obtain ⟨z, hz⟩ : ∃ z, z = ws[j2] := ⟨_, rfl⟩
              rw [← hde] at hrg hwv
              rw [← hz] at hwv
              obtain ⟨hz0, hz1⟩ := HWI.out z (by rw [hz]; exact List.getElem_mem hjr)
              have HWVt := Lib.hid hwv
              clear hnl q1 q2 q4 hrow hde hwv hz
              go_upto_region 25 with (fail)
              have xa : Ext wr _ := (Kept.refl _ wr).alloc (.cells d.cells 77)
              have hWt := Blk.new wr 77 d.cells
              have hSt := Blk.ext (Blk.ext hS9 hxt) xa
              have hwvt := HWVt.out.ext xa
              have HWVu := Lib.hid hwvt
              generalize (wr.alloc (.cells d.cells 77)) = Wt at xa hWt hSt HWVu ⊢
              clear hwvt hrh hrg HWVt
              generalize (wr : World).heap.size = wb at hWt ⊢
              have i1 := Blk.has hWt
              have i2 := Blk.gets hWt
              have hst7 := stands_ok d (showW m z) sb ⟨x, 0, k, M, i, spa, spn, spk, sra, srn, srk, some ⟨b, off, none⟩, swn, swk⟩ k rfl k1 k2 Wt hSt HWVu.out (by rw [show (showW m z).path = pathT (m.map leafW) (hgt m.length) z.toNat from rfl, pathT_len, HK.out]) (by rw [HMM.out]; exact show_check hz0 (by rw [← HK.out]; omega) (by rw [← HK.out]; omega))
              have HST7 := Lib.hid hst7
              clear hst7
              go_wp2_with fail
              refine HST7.out.mono ?_
              rintro e wu ⟨rfl, hxu⟩
              clear HST7 i1 i2 hWt hSt
              go_wp2_with fail
              go_roundw
              case rel => exact ⟨j2 + 1, hlt2, by go_num, (hxt.trans xa).trans hxu⟩
              case measure => simp only [intOf]; omega
            · have hlt2' : ¬ (j2 : Int) < swn := by omega
              have hSt := Blk.ext hS9 hxt
              have hRt := Blk.ext hR9 hxt
              have hPt := Blk.ext hP9 hxt
              have hst := mstep_any (some ⟨gc, 0, none⟩) gc 0 n n c' x 0 gm 0 k k m' wr (HPRE9.out.ext hxt)
              have hrun : runI c' x 0 m' = (p, hh, upd wx v m') := by unfold runI; rw [if_pos rfl]; exact HS2.out
              rw [hrun] at hst
              have HSTp := Lib.hid hst
              have i1 := Blk.has hPt
              have i2 := Blk.gets hPt
              clear hst hrun
              go_wp2_with fail
              refine HSTp.out.mono ?_
              rintro e wv ⟨vv, rfl, g2, c2, rfl, hmv, hxv⟩
              simp only [stCells]
              have hSv := Blk.ext hSt hxv
              have hRv := Blk.ext hRt hxv
              have xrv := (xr9.trans hxt).trans hxv
              clear HSTp i1 i2 hSt hRt hPt
              go_upto_region 29 with (fail)
              have xs : Ext wv _ := (Kept.refl _ wv).alloc (.cells (stCells p (some ⟨g2, 0, none⟩) k c2 hh) 70)
              have hQ := Blk.new wv 70 (stCells p (some ⟨g2, 0, none⟩) k c2 hh)
              have hSw := Blk.ext hSv xs
              have hRw := Blk.ext hRv xs
              have hmw := hmv.ext xs
              have xrw := xrv.trans xs
              generalize (wv.alloc (.cells (stCells p (some ⟨g2, 0, none⟩) k c2 hh) 70)) = Ww at xs hQ hSw hRw hmw xrw ⊢
              have hg2 : wr.heap.size ≤ g2 := hmw.ge
              have hsl : sb + 1 < wr.heap.size := (Blk.ext hR9 hxt).lt
              generalize (wv : World).heap.size = p2 at hQ ⊢
              clear hSv hRv hmv xrv xs
              have i2 := Blk.has hSw
              have i3 := Blk.gets hSw
              have i4' := hSw.lt
              go_upto_region 30 with (fail)
              have xm : Ext Ww _ := (Kept.refl _ Ww).alloc (.cells M.cells 30)
              have hMb := Blk.new Ww 30 M.cells
              have hSm := Blk.ext hSw xm
              have hRm := Blk.ext hRw xm
              have hQm := Blk.ext hQ xm
              have hmm := hmw.ext xm
              have xrm := xrw.trans xm
              have u1 := hSw.lt
              have u2 := hRw.lt
              have u3 := hQ.lt
              have u4 := hmw.lt
              have u5' := xrw.size
              generalize (Ww.alloc (.cells M.cells 30)) = Wm at xm hMb hSm hRm hQm hmm xrm ⊢
              generalize (Ww : World).heap.size = mb at hMb u1 u2 u3 u4 u5' ⊢
              clear i2 i3 i4' hSw hRw hQ hmw
              have HMB := Lib.hid hMb
              have HMV := Lib.hid hmm
              clear hMb hmm
              have i1 := Blk.cell hSm
              have i4' := hSm.lt
              go_wp2_with fail
              clear i1
              go_loopw [110] (fun t110 wr => ∃ (j3 : Nat) (D : Dg), j3 ≤ swn ∧ t110 = .int .i64 j3 ∧ Blk wr mb 30 D.cells ∧ Hid (j3 = 0 → D = M) ∧ Hid (0 < j3 → D = memR m1) ∧ Kept (· = mb) Wm wr) (fun t110 _ => swn - (intOf t110).toNat)
              case atStart => exact ⟨0, M, by omega, rfl, HMB.out, fun _ => rfl, fun h => by omega, Kept.refl _ _⟩
              case round =>
                obtain ⟨j3, D, hj3, rfl, hD, HD0, HD1, hkt⟩ := hrel
                have xrt : Ext w wr := xrm.trans' hkt (fun i hi e => by omega)
                by_cases hlt3 : j3 < swn
                · obtain ⟨hwsx, hw0⟩ : ws = [wx] ∧ 0 ≤ wx := by
                    rcases HWC.out with ⟨h, _⟩ | h
                    · have := HWN.out; rw [h] at this; simp at this; omega
                    · exact h
                  have hj30 : j3 = 0 := by omega
                  subst hj30
                  have hltI3 : ((0 : Nat) : Int) < swn := by omega
                  have hwvt := HVW.out
                  rw [if_pos hw0] at hwvt
                  obtain ⟨hnl, b, off, ds, q1, q2, _, q4⟩ := hwvt
                  have hjd : 0 < ds.length := by rw [q4.len]; simp
                  obtain rfl := q1 (by omega)
                  have hrow := (q2 (by omega)).ext xrt
                  obtain ⟨hrh, hrg⟩ := hrow.wd 0 hjd
                  have hbl := hrow.lt
                  have hwv := (q4.get 0 hjd (by simp)).ext xrt
                  rw [List.getElem_cons_zero] at hwv
                  obtain ⟨d, hde⟩ : ∃ d, d = ds[0] := ⟨_, rfl⟩
                  rw [← hde] at hrg hwv
                  obtain ⟨a, rfl⟩ : ∃ a : Nat, wx = a := ⟨wx.toNat, by omega⟩
                  have hak : a < k := by omega
                  have f1 : d.at_ = a := hwv.at_
                  have HWVt := Lib.hid hwv
                  clear hnl q1 q2 q4 hrow hde hwv
                  obtain ⟨dat, dis, dpa, dpn, dpk⟩ := d
                  simp only at f1
                  subst f1
                  simp only [Nat.zero_mul, Nat.add_zero] at hrh hrg
                  go_upto_region 33 with (fail)
                  have xa : Ext wr _ := (Kept.refl _ wr).alloc (.cells (Wd.cells ⟨a, dis, dpa, dpn, dpk⟩) 77)
                  have hWt := Blk.new wr 77 (Wd.cells ⟨a, dis, dpa, dpn, dpk⟩)
                  have hQt := Blk.ext (Blk.kept hQm hkt (by omega)) xa
                  have hDt := Blk.ext hD xa
                  have hmt := ((HMV.out.kept hkt (by omega)).ext xa)
                  have hml2 : a < (upd (a : Int) v m').length := by unfold upd mput; rw [if_pos hw0, List.length_set, HML.out]; exact hak
                  have hmc := hmt.cell a hml2
                  have hmv' : (upd (a : Int) v m')[a] = v := by simp [upd, mput]
                  rw [hmv'] at hmc
                  have hml := hmt.lt
                  have hwvu := HWVt.out.ext xa
                  have HWVu := Lib.hid hwvu
                  have hdl := hD.lt
                  have kt2 : Kept (· = mb) Wm (wr.alloc (.cells (Wd.cells ⟨a, dis, dpa, dpn, dpk⟩) 77)) := hkt.trans' xa (fun _ _ f => f.elim)
                  generalize (wr.alloc (.cells (Wd.cells ⟨a, dis, dpa, dpn, dpk⟩) 77)) = Wt at xa hWt hQt hDt hmt hmc hml HWVu kt2 ⊢
                  clear hwvu hrh hrg HWVt hmt hmv' hml2
                  generalize (wr : World).heap.size = wb at hWt hdl ⊢
                  have hakI : (a : Int) < k := by omega
                  have hwn1 : ¬ wb = mb := by omega
                  have hp2n : ¬ p2 = mb := by omega
                  have hg2n : ¬ g2 = mb := by omega
                  refine wp_region_3 (fun w2 => Kept (· = mb) Wt w2) [(0, 2), (1, 1), (2, 2), (3, 1), (4, 2), (5, 1), (6, 2), (7, 1), (9, 2), (10, 1), (8, 0), (11, 0), (12, 0)] (by kernel_rfl) (by kernel_rfl) (by kernel_rfl) (by kernel_rfl) ?_; intro l' hl'; simp only [List.map_cons, List.map_nil, List.getD_cons_zero, List.getD_cons_succ] at hl'; subst hl'
                  (repeat (first | ((apply w3_pure); (· go_simp); (· (intro w1; go_simp; try with_reducible rfl)); (intro K hK; go_simp; refine hK _ _ ?_; clear hK K)) | ((apply w3_skip); (· go_simp); (intro K hK; go_simp; refine hK _ _ ?_; clear hK K)) | ((apply w3_take); (· exact (Kept.drew (Kept.refl _ _))); (· go_simp); (· (intro w1 hS; have d1 := Blk.cell (Blk.kept hWt hS hwn1); have d2 := (Blk.kept hWt hS hwn1).lt; have d3 := Blk.cell (Blk.kept hQt hS hp2n); have d4 := (Blk.kept hQt hS hp2n).lt; have d5 := (Kept.cell hS (p := ⟨g2, a, none⟩) hml hg2n).trans hmc; have d6 := Nat.lt_of_lt_of_le hml hS.size;  go_simp; try with_reducible rfl)); (intro K hK; go_simp; refine hK _ _ ?_; clear hK K)) | ((apply w3_pass); (· exact (Kept.drew (Kept.refl _ _))); (· go_simp); (intro K hK; go_simp; refine hK _ _ ?_; clear hK K))))
                  have yW : Ext Wt Wt.drew := (Kept.refl _ Wt).drew
                  (refine w3_act (fun K hK => ?_); go_simp)
                  go_wp2_with fail
                  refine (leaf_any v _).mono ?_
                  rintro e wx1 ⟨rfl, hxx1⟩
                  have yx1 : Ext Wt wx1 := yW.trans hxx1
                  refine hK.out _ _ (fun _ => yx1.ext) ?_
                  clear hK K
                  (repeat (first | ((apply w3_pure); (· go_simp); (· (intro w1; go_simp; try with_reducible rfl)); (intro K hK; go_simp; refine hK _ _ ?_; clear hK K)) | ((apply w3_skip); (· go_simp); (intro K hK; go_simp; refine hK _ _ ?_; clear hK K))))
                  (refine w3_act (fun K hK => ?_); go_simp)
                  go_wp2_with fail
                  obtain ⟨pb', po', hpp⟩ := HWVu.out.path
                  have htw := twith_any (a : Int) (leafW v) (leafW_ok _) dpa pb' po' dpn dpk (showW m a).path wx1 (hpp.ext yx1)
                  rw [show_with (by omega) (by rw [← HK.out]; omega) (by rw [← HK.out]; omega)] at htw
                  refine htw.mono ?_
                  rintro e wx2 ⟨rfl, hxx2⟩
                  clear htw hpp
                  have yx2 : Ext Wt wx2 := yx1.trans hxx2
                  refine hK.out _ _ (fun _ => yx2.ext) ?_
                  clear hK K
                  have hDx := Blk.ext hDt yx2
                  have i1 := Blk.has hDx
                  have i2 := Blk.melts hDx
                  have i3 := hDx.lt
                  (repeat (first | ((apply w3_pure); (· go_simp); (· (intro w1; go_simp; try with_reducible rfl)); (intro K hK; go_simp; refine hK _ _ ?_; clear hK K)) | ((apply w3_skip); (· go_simp); (intro K hK; go_simp; refine hK _ _ ?_; clear hK K))))
                  (refine w3_act (fun K hK => ?_); go_simp)
                  refine hK.out _ _ (fun _ => Kept.putAt yx2.ext _ _ _ (fun _ => rfl)) ?_
                  clear hK K
                  (repeat (first | ((apply w3_pure); (· go_simp); (· (intro w1; go_simp; try with_reducible rfl)); (intro K hK; go_simp; refine hK _ _ ?_; clear hK K)) | ((apply w3_skip); (· go_simp); (intro K hK; go_simp; refine hK _ _ ?_; clear hK K)) | (refine w3_end (by kernel_rfl) (fun K hK => ?_); go_simp; refine hK.out _ _ ?_; clear hK K))); refine w3_nil ?_
                  go_wp2_with fail
                  go_roundw
                  case rel =>
                    refine ⟨1, memR (mput m a v), by omega, by go_num, Blk.put_ hDx _ _, fun h => by omega, fun _ => ?_, Kept.putAt (kt2.trans' yx2 (fun _ _ f => f.elim)) _ _ _ (fun _ => rfl)⟩
                    rw [HM1.out]
                    unfold upd
                    rw [if_pos hw0]
                  case measure => simp only [intOf]; omega
                · have hlt3' : ¬ (j3 : Int) < swn := by omega
                  have hDm : D = memR m1 := by
                    rcases HWC.out with ⟨h, hw0⟩ | ⟨h, hw0⟩
                    · have e0 : swn = 0 := by rw [HWN.out, h]; rfl
                      rw [HD0.out (by omega), HMM.out, HM1.out]
                      unfold upd
                      rw [if_neg (by omega)]
                    · have e1 : swn = 1 := by rw [HWN.out, h]; rfl
                      exact HD1.out (by omega)
                  have HDM := Lib.hid hDm
                  have hSt := Blk.kept hSm hkt (by omega)
                  have hRt := Blk.kept hRm hkt (by omega)
                  have hQt := Blk.kept hQm hkt (by omega)
                  have i1 := Blk.cell hSt
                  have i2 := Blk.cell hQt
                  have i3 := Blk.has hD
                  have i4 := Blk.gets hD
                  clear hDm HMV HMB hD
                  go_wp2_with fail
                  have hhd := head_any p hh k D (by rw [HDM.out]; exact hWord_ok _ _) hpb hhb (by omega) wr
                  rw [HDM.out, ← HRES.out, ← HDM.out] at hhd
                  refine hhd.mono ?_
                  rintro e wz ⟨rfl, hxz⟩
                  have hRz := Blk.ext hRt hxz
                  have i5 := Blk.has hRz
                  have i6 := Blk.melts hRz
                  clear i1 i2 i3 i4 hhd
                  go_wp2_with fail
                  refine ret_ci Tryz.results85 rfl rfl aggDig (by exact sizeDig) (Blk.put_ hRz _ _) ⟨rfl, ?_⟩
                  exact Kept.putAt (xrt.trans hxz) _ _ _ (fun h => by have := HSB.out; omega)
        · have hwv := HVW.out
          rw [if_neg hw0] at hwv
          have hwb : decide (0 ≤ wx) = false := by simpa using hw0
          go_upto_region 20 with (fail)
          clear hwb
          have ho7 : w6.ownsRow 0 3 1 (.slice none 0 0) 0 (ints []) := World.ownsRow_nil _ _ _ _
          obtain ⟨ws, hws⟩ : ∃ ws, ws = ([] : List Int) := ⟨_, rfl⟩
          have hwv7 : WordsS w6 swa swn (ws.map (showW m)) := by rw [hws]; exact hwv.ext xr6
          have hwi : ∀ y ∈ ws, 0 ≤ y ∧ y < k := by rw [hws]; intro y hy; simp at hy
          have hwc' : (ws = [] ∧ wx < 0) ∨ (ws = [wx] ∧ 0 ≤ wx) := .inl ⟨hws, by omega⟩
          obtain ⟨b7, ho7'⟩ : ∃ b7, w6.ownsRow b7 3 1 (.slice none 0 0) ws.length (ints ws) := ⟨0, by rw [hws]; exact ho7⟩
          have hS7 := hS6
          have hR7 := hR6
          have hpre7 := HPRE6.out
          have hP7 := hP6
          have xr7 := xr6
          obtain ⟨W7, hW7⟩ : ∃ W7, W7 = w6 := ⟨_, rfl⟩
          rw [← hW7] at ho7' hwv7 hS7 hR7 hpre7 hP7 xr7 ⊢
          clear hws ho7 hwv hS6 hR6 hP6 HPRE6 xr6 hw0 hW7
          have hwn' : swn = ws.length := by simpa using hwv7.len
          have HWN := Lib.hid hwn'
          have HWV7 := Lib.hid hwv7
          have HWI := Lib.hid hwi
          have HWC := Lib.hid hwc'
          have HO7 := Lib.hid ho7'
          have HPRE7 := Lib.hid hpre7
          clear hwn' hwv7 hwi hwc' ho7' hpre7
          have i1 := Blk.cell hS7
          have i4 := hS7.lt
          go_wp2_with fail
          have hat := ats_any swa swn swk (ws.map (showW m)) W7 HWV7.out (by omega)
          rw [map_show] at hat
          refine hat.mono ?_
          rintro e w8 ⟨v8, rfl, ho8, hx8⟩
          have HO8 := Lib.hid ho8
          clear ho8 hat
          go_wp2_with fail
          refine (equal_own HO8.out (own_ext HO7.out hx8) (by have := HWN.out; omega)).mono ?_
          rintro e w9 ⟨rfl, hx9⟩
          have hx79 := hx8.trans hx9
          have hS9 := Blk.ext hS7 hx79
          have hR9 := Blk.ext hR7 hx79
          have hP9 := Blk.ext hP7 hx79
          have hpre9 := HPRE7.out.ext hx79
          have hwv9 := HWV7.out.ext hx79
          have xr9 := xr7.trans hx79
          have HPRE9 := Lib.hid hpre9
          have HWV9 := Lib.hid hwv9
          clear i1 i4 hS7 hR7 hP7 HPRE7 hpre9 hwv9 HWV7 HO7 HO8 hx8 hx9 hx79 xr7
          have i1 := Blk.cell hS9
          have i4 := hS9.lt
          go_wp2_with fail
          clear i1
          go_loopw [92] (fun t92 wr => ∃ (j2 : Nat), j2 ≤ swn ∧ t92 = .int .i64 j2 ∧ Ext w9 wr) (fun t92 _ => swn - (intOf t92).toNat)
          case atStart => exact ⟨0, by omega, rfl, Kept.refl _ _⟩
          case round =>
            obtain ⟨j2, hj2, rfl, hxt⟩ := hrel
            by_cases hlt2 : j2 < swn
            · obtain ⟨hnl, b, off, ds, q1, q2, _, q4⟩ := HWV9.out
              have hltI2 : (j2 : Int) < swn := by omega
              have hjr : j2 < ws.length := by have := HWN.out; omega
              have hjl : j2 < (ws.map (showW m)).length := by simpa using hjr
              have hjd : j2 < ds.length := by rw [q4.len]; exact hjl
              obtain rfl := q1 (by omega)
              have hrow := (q2 (by omega)).ext hxt
              obtain ⟨hrh, hrg⟩ := hrow.wd j2 hjd
              have hbl := hrow.lt
              have hwv := (q4.get j2 hjd hjl).ext hxt
              rw [List.getElem_map] at hwv
              obtain ⟨d, hde⟩ : ∃ d, d = ds[j2] := ⟨_, rfl⟩
              obtain ⟨z, hz⟩ : ∃ z, z = ws[j2] := ⟨_, rfl⟩
              rw [← hde] at hrg hwv
              rw [← hz] at hwv
              obtain ⟨hz0, hz1⟩ := HWI.out z (by rw [hz]; exact List.getElem_mem hjr)
              have HWVt := Lib.hid hwv
              clear hnl q1 q2 q4 hrow hde hwv hz
              go_upto_region 25 with (fail)
              have xa : Ext wr _ := (Kept.refl _ wr).alloc (.cells d.cells 77)
              have hWt := Blk.new wr 77 d.cells
              have hSt := Blk.ext (Blk.ext hS9 hxt) xa
              have hwvt := HWVt.out.ext xa
              have HWVu := Lib.hid hwvt
              generalize (wr.alloc (.cells d.cells 77)) = Wt at xa hWt hSt HWVu ⊢
              clear hwvt hrh hrg HWVt
              generalize (wr : World).heap.size = wb at hWt ⊢
              have i1 := Blk.has hWt
              have i2 := Blk.gets hWt
              have hst7 := stands_ok d (showW m z) sb ⟨x, 0, k, M, i, spa, spn, spk, sra, srn, srk, some ⟨b, off, none⟩, swn, swk⟩ k rfl k1 k2 Wt hSt HWVu.out (by rw [show (showW m z).path = pathT (m.map leafW) (hgt m.length) z.toNat from rfl, pathT_len, HK.out]) (by rw [HMM.out]; exact show_check hz0 (by rw [← HK.out]; omega) (by rw [← HK.out]; omega))
              have HST7 := Lib.hid hst7
              clear hst7
              go_wp2_with fail
              refine HST7.out.mono ?_
              rintro e wu ⟨rfl, hxu⟩
              clear HST7 i1 i2 hWt hSt
              go_wp2_with fail
              go_roundw
              case rel => exact ⟨j2 + 1, hlt2, by go_num, (hxt.trans xa).trans hxu⟩
              case measure => simp only [intOf]; omega
            · have hlt2' : ¬ (j2 : Int) < swn := by omega
              have hSt := Blk.ext hS9 hxt
              have hRt := Blk.ext hR9 hxt
              have hPt := Blk.ext hP9 hxt
              have hst := mstep_any (some ⟨gc, 0, none⟩) gc 0 n n c' x 0 gm 0 k k m' wr (HPRE9.out.ext hxt)
              have hrun : runI c' x 0 m' = (p, hh, upd wx v m') := by unfold runI; rw [if_pos rfl]; exact HS2.out
              rw [hrun] at hst
              have HSTp := Lib.hid hst
              have i1 := Blk.has hPt
              have i2 := Blk.gets hPt
              clear hst hrun
              go_wp2_with fail
              refine HSTp.out.mono ?_
              rintro e wv ⟨vv, rfl, g2, c2, rfl, hmv, hxv⟩
              simp only [stCells]
              have hSv := Blk.ext hSt hxv
              have hRv := Blk.ext hRt hxv
              have xrv := (xr9.trans hxt).trans hxv
              clear HSTp i1 i2 hSt hRt hPt
              go_upto_region 29 with (fail)
              have xs : Ext wv _ := (Kept.refl _ wv).alloc (.cells (stCells p (some ⟨g2, 0, none⟩) k c2 hh) 70)
              have hQ := Blk.new wv 70 (stCells p (some ⟨g2, 0, none⟩) k c2 hh)
              have hSw := Blk.ext hSv xs
              have hRw := Blk.ext hRv xs
              have hmw := hmv.ext xs
              have xrw := xrv.trans xs
              generalize (wv.alloc (.cells (stCells p (some ⟨g2, 0, none⟩) k c2 hh) 70)) = Ww at xs hQ hSw hRw hmw xrw ⊢
              have hg2 : wr.heap.size ≤ g2 := hmw.ge
              have hsl : sb + 1 < wr.heap.size := (Blk.ext hR9 hxt).lt
              generalize (wv : World).heap.size = p2 at hQ ⊢
              clear hSv hRv hmv xrv xs
              have i2 := Blk.has hSw
              have i3 := Blk.gets hSw
              have i4' := hSw.lt
              go_upto_region 30 with (fail)
              have xm : Ext Ww _ := (Kept.refl _ Ww).alloc (.cells M.cells 30)
              have hMb := Blk.new Ww 30 M.cells
              have hSm := Blk.ext hSw xm
              have hRm := Blk.ext hRw xm
              have hQm := Blk.ext hQ xm
              have hmm := hmw.ext xm
              have xrm := xrw.trans xm
              have u1 := hSw.lt
              have u2 := hRw.lt
              have u3 := hQ.lt
              have u4 := hmw.lt
              have u5' := xrw.size
              generalize (Ww.alloc (.cells M.cells 30)) = Wm at xm hMb hSm hRm hQm hmm xrm ⊢
              generalize (Ww : World).heap.size = mb at hMb u1 u2 u3 u4 u5' ⊢
              clear i2 i3 i4' hSw hRw hQ hmw
              have HMB := Lib.hid hMb
              have HMV := Lib.hid hmm
              clear hMb hmm
              have i1 := Blk.cell hSm
              have i4' := hSm.lt
              go_wp2_with fail
              clear i1
              go_loopw [110] (fun t110 wr => ∃ (j3 : Nat) (D : Dg), j3 ≤ swn ∧ t110 = .int .i64 j3 ∧ Blk wr mb 30 D.cells ∧ Hid (j3 = 0 → D = M) ∧ Hid (0 < j3 → D = memR m1) ∧ Kept (· = mb) Wm wr) (fun t110 _ => swn - (intOf t110).toNat)
              case atStart => exact ⟨0, M, by omega, rfl, HMB.out, fun _ => rfl, fun h => by omega, Kept.refl _ _⟩
              case round =>
                obtain ⟨j3, D, hj3, rfl, hD, HD0, HD1, hkt⟩ := hrel
                have xrt : Ext w wr := xrm.trans' hkt (fun i hi e => by omega)
                by_cases hlt3 : j3 < swn
                · obtain ⟨hwsx, hw0⟩ : ws = [wx] ∧ 0 ≤ wx := by
                    rcases HWC.out with ⟨h, _⟩ | h
                    · have := HWN.out; rw [h] at this; simp at this; omega
                    · exact h
                  have hj30 : j3 = 0 := by omega
                  subst hj30
                  have hltI3 : ((0 : Nat) : Int) < swn := by omega
                  have hwvt := HVW.out
                  rw [if_pos hw0] at hwvt
                  obtain ⟨hnl, b, off, ds, q1, q2, _, q4⟩ := hwvt
                  have hjd : 0 < ds.length := by rw [q4.len]; simp
                  obtain rfl := q1 (by omega)
                  have hrow := (q2 (by omega)).ext xrt
                  obtain ⟨hrh, hrg⟩ := hrow.wd 0 hjd
                  have hbl := hrow.lt
                  have hwv := (q4.get 0 hjd (by simp)).ext xrt
                  rw [List.getElem_cons_zero] at hwv
                  obtain ⟨d, hde⟩ : ∃ d, d = ds[0] := ⟨_, rfl⟩
                  rw [← hde] at hrg hwv
                  obtain ⟨a, rfl⟩ : ∃ a : Nat, wx = a := ⟨wx.toNat, by omega⟩
                  have hak : a < k := by omega
                  have f1 : d.at_ = a := hwv.at_
                  have HWVt := Lib.hid hwv
                  clear hnl q1 q2 q4 hrow hde hwv
                  obtain ⟨dat, dis, dpa, dpn, dpk⟩ := d
                  simp only at f1
                  subst f1
                  simp only [Nat.zero_mul, Nat.add_zero] at hrh hrg
                  go_upto_region 33 with (fail)
                  have xa : Ext wr _ := (Kept.refl _ wr).alloc (.cells (Wd.cells ⟨a, dis, dpa, dpn, dpk⟩) 77)
                  have hWt := Blk.new wr 77 (Wd.cells ⟨a, dis, dpa, dpn, dpk⟩)
                  have hQt := Blk.ext (Blk.kept hQm hkt (by omega)) xa
                  have hDt := Blk.ext hD xa
                  have hmt := ((HMV.out.kept hkt (by omega)).ext xa)
                  have hml2 : a < (upd (a : Int) v m').length := by unfold upd mput; rw [if_pos hw0, List.length_set, HML.out]; exact hak
                  have hmc := hmt.cell a hml2
                  have hmv' : (upd (a : Int) v m')[a] = v := by simp [upd, mput]
                  rw [hmv'] at hmc
                  have hml := hmt.lt
                  have hwvu := HWVt.out.ext xa
                  have HWVu := Lib.hid hwvu
                  have hdl := hD.lt
                  have kt2 : Kept (· = mb) Wm (wr.alloc (.cells (Wd.cells ⟨a, dis, dpa, dpn, dpk⟩) 77)) := hkt.trans' xa (fun _ _ f => f.elim)
                  generalize (wr.alloc (.cells (Wd.cells ⟨a, dis, dpa, dpn, dpk⟩) 77)) = Wt at xa hWt hQt hDt hmt hmc hml HWVu kt2 ⊢
                  clear hwvu hrh hrg HWVt hmt hmv' hml2
                  generalize (wr : World).heap.size = wb at hWt hdl ⊢
                  have hakI : (a : Int) < k := by omega
                  have hwn1 : ¬ wb = mb := by omega
                  have hp2n : ¬ p2 = mb := by omega
                  have hg2n : ¬ g2 = mb := by omega
                  refine wp_region_3 (fun w2 => Kept (· = mb) Wt w2) [(0, 2), (1, 1), (2, 2), (3, 1), (4, 2), (5, 1), (6, 2), (7, 1), (9, 2), (10, 1), (8, 0), (11, 0), (12, 0)] (by kernel_rfl) (by kernel_rfl) (by kernel_rfl) (by kernel_rfl) ?_; intro l' hl'; simp only [List.map_cons, List.map_nil, List.getD_cons_zero, List.getD_cons_succ] at hl'; subst hl'
                  (repeat (first | ((apply w3_pure); (· go_simp); (· (intro w1; go_simp; try with_reducible rfl)); (intro K hK; go_simp; refine hK _ _ ?_; clear hK K)) | ((apply w3_skip); (· go_simp); (intro K hK; go_simp; refine hK _ _ ?_; clear hK K)) | ((apply w3_take); (· exact (Kept.drew (Kept.refl _ _))); (· go_simp); (· (intro w1 hS; have d1 := Blk.cell (Blk.kept hWt hS hwn1); have d2 := (Blk.kept hWt hS hwn1).lt; have d3 := Blk.cell (Blk.kept hQt hS hp2n); have d4 := (Blk.kept hQt hS hp2n).lt; have d5 := (Kept.cell hS (p := ⟨g2, a, none⟩) hml hg2n).trans hmc; have d6 := Nat.lt_of_lt_of_le hml hS.size;  go_simp; try with_reducible rfl)); (intro K hK; go_simp; refine hK _ _ ?_; clear hK K)) | ((apply w3_pass); (· exact (Kept.drew (Kept.refl _ _))); (· go_simp); (intro K hK; go_simp; refine hK _ _ ?_; clear hK K))))
                  have yW : Ext Wt Wt.drew := (Kept.refl _ Wt).drew
                  (refine w3_act (fun K hK => ?_); go_simp)
                  go_wp2_with fail
                  refine (leaf_any v _).mono ?_
                  rintro e wx1 ⟨rfl, hxx1⟩
                  have yx1 : Ext Wt wx1 := yW.trans hxx1
                  refine hK.out _ _ (fun _ => yx1.ext) ?_
                  clear hK K
                  (repeat (first | ((apply w3_pure); (· go_simp); (· (intro w1; go_simp; try with_reducible rfl)); (intro K hK; go_simp; refine hK _ _ ?_; clear hK K)) | ((apply w3_skip); (· go_simp); (intro K hK; go_simp; refine hK _ _ ?_; clear hK K))))
                  (refine w3_act (fun K hK => ?_); go_simp)
                  go_wp2_with fail
                  obtain ⟨pb', po', hpp⟩ := HWVu.out.path
                  have htw := twith_any (a : Int) (leafW v) (leafW_ok _) dpa pb' po' dpn dpk (showW m a).path wx1 (hpp.ext yx1)
                  rw [show_with (by omega) (by rw [← HK.out]; omega) (by rw [← HK.out]; omega)] at htw
                  refine htw.mono ?_
                  rintro e wx2 ⟨rfl, hxx2⟩
                  clear htw hpp
                  have yx2 : Ext Wt wx2 := yx1.trans hxx2
                  refine hK.out _ _ (fun _ => yx2.ext) ?_
                  clear hK K
                  have hDx := Blk.ext hDt yx2
                  have i1 := Blk.has hDx
                  have i2 := Blk.melts hDx
                  have i3 := hDx.lt
                  (repeat (first | ((apply w3_pure); (· go_simp); (· (intro w1; go_simp; try with_reducible rfl)); (intro K hK; go_simp; refine hK _ _ ?_; clear hK K)) | ((apply w3_skip); (· go_simp); (intro K hK; go_simp; refine hK _ _ ?_; clear hK K))))
                  (refine w3_act (fun K hK => ?_); go_simp)
                  refine hK.out _ _ (fun _ => Kept.putAt yx2.ext _ _ _ (fun _ => rfl)) ?_
                  clear hK K
                  (repeat (first | ((apply w3_pure); (· go_simp); (· (intro w1; go_simp; try with_reducible rfl)); (intro K hK; go_simp; refine hK _ _ ?_; clear hK K)) | ((apply w3_skip); (· go_simp); (intro K hK; go_simp; refine hK _ _ ?_; clear hK K)) | (refine w3_end (by kernel_rfl) (fun K hK => ?_); go_simp; refine hK.out _ _ ?_; clear hK K))); refine w3_nil ?_
                  go_wp2_with fail
                  go_roundw
                  case rel =>
                    refine ⟨1, memR (mput m a v), by omega, by go_num, Blk.put_ hDx _ _, fun h => by omega, fun _ => ?_, Kept.putAt (kt2.trans' yx2 (fun _ _ f => f.elim)) _ _ _ (fun _ => rfl)⟩
                    rw [HM1.out]
                    unfold upd
                    rw [if_pos hw0]
                  case measure => simp only [intOf]; omega
                · have hlt3' : ¬ (j3 : Int) < swn := by omega
                  have hDm : D = memR m1 := by
                    rcases HWC.out with ⟨h, hw0⟩ | ⟨h, hw0⟩
                    · have e0 : swn = 0 := by rw [HWN.out, h]; rfl
                      rw [HD0.out (by omega), HMM.out, HM1.out]
                      unfold upd
                      rw [if_neg (by omega)]
                    · have e1 : swn = 1 := by rw [HWN.out, h]; rfl
                      exact HD1.out (by omega)
                  have HDM := Lib.hid hDm
                  have hSt := Blk.kept hSm hkt (by omega)
                  have hRt := Blk.kept hRm hkt (by omega)
                  have hQt := Blk.kept hQm hkt (by omega)
                  have i1 := Blk.cell hSt
                  have i2 := Blk.cell hQt
                  have i3 := Blk.has hD
                  have i4 := Blk.gets hD
                  clear hDm HMV HMB hD
                  go_wp2_with fail
                  have hhd := head_any p hh k D (by rw [HDM.out]; exact hWord_ok _ _) hpb hhb (by omega) wr
                  rw [HDM.out, ← HRES.out, ← HDM.out] at hhd
                  refine hhd.mono ?_
                  rintro e wz ⟨rfl, hxz⟩
                  have hRz := Blk.ext hRt hxz
                  have i5 := Blk.has hRz
                  have i6 := Blk.melts hRz
                  clear i1 i2 i3 i4 hhd
                  go_wp2_with fail
                  refine ret_ci Tryz.results85 rfl rfl aggDig (by exact sizeDig) (Blk.put_ hRz _ _) ⟨rfl, ?_⟩
                  exact Kept.putAt (xrt.trans hxz) _ _ _ (fun h => by have := HSB.out; omega)
  · (refine w4_act (fun K hK => ?_); go_simp)
    have y0 : Ext W0 (W0.alloc (.cells (stCells 0 none 0 0 0) 70)).drew := ((Kept.refl _ W0).alloc _).drew
    have hP0 := Blk.drew (Blk.new W0 70 (stCells 0 none 0 0 0))
    refine hK.out _ _ (fun _ => y0) ?_
    clear hK K
    (repeat (first | ((apply w4_pure); (· go_simp); (· (intro w1; go_simp; try with_reducible rfl)); (intro K hK; go_simp; refine hK _ _ ?_; clear hK K)) | ((apply w4_skip); (· go_simp); (intro K hK; go_simp; refine hK _ _ ?_; clear hK K))))
    obtain ⟨w1, hr1, hG1, hx1⟩ := makeM (W0.alloc (.cells (stCells 0 none 0 0 0) 70)).drew k (by omega)
    refine w4_act (fun K hK => ?_)
    refine want_if rfl ?_
    refine wp_make_run (.tmp 25) (.tmp 25) 59 rfl rfl rfl hr1 ?_
    have y1 : Ext W0 w1 := y0.trans hx1
    refine hK.out _ _ (fun _ => y1) ?_
    clear hK K hr1
    have hgl : W0.heap.size < (W0.alloc (.cells (stCells 0 none 0 0 0) 70)).drew.heap.size := by show _ < (W0.alloc _).heap.size; simp
    have hP1 := Blk.ext hP0 hx1
    generalize (W0.alloc (.cells (stCells 0 none 0 0 0) 70)).drew.heap.size = gm at hG1 hgl ⊢
    have lG := hG1.lt
    have i1 := Blk.has hP1
    have i2 := Blk.melts hP1
    have i3 := Blk.lt hP1
    (repeat (first | ((apply w4_pure); (· go_simp); (· (intro w1; go_simp; try with_reducible rfl)); (intro K hK; go_simp; refine hK _ _ ?_; clear hK K)) | ((apply w4_skip); (· go_simp); (intro K hK; go_simp; refine hK _ _ ?_; clear hK K)) | (refine w4_end (by kernel_rfl) (fun K hK => ?_); go_simp; refine hK.out _ _ ?_; clear hK K))); refine w4_nil ?_
    have x1 : Ext W0 (putAt w1 W0.heap.size 0 (stCells x (some ⟨gm, 0, none⟩) k k 0)) := Kept.putAt y1 _ _ _ (fun h => by omega)
    have hP : Blk (putAt w1 W0.heap.size 0 (stCells x (some ⟨gm, 0, none⟩) k k 0)) W0.heap.size 70 (stCells x (some ⟨gm, 0, none⟩) k k 0) := Blk.put_ hP1 _ _
    have hG := Blk.kept hG1 (Kept.putAt (Kept.refl (· = W0.heap.size) w1) W0.heap.size 0 (stCells x (some ⟨gm, 0, none⟩) k k 0) (fun _ => rfl)) (by omega)
    generalize (putAt w1 W0.heap.size 0 (stCells x (some ⟨gm, 0, none⟩) k k 0)) = W at x1 hP hG ⊢
    obtain ⟨pb, hpb'⟩ : ∃ pb, pb = W0.heap.size := ⟨_, rfl⟩
    have hpl : W0.heap.size ≤ pb := by omega
    have hne : ¬ pb = gm := by omega
    replace hgl : W0.heap.size ≤ gm := by omega
    rw [← hpb'] at hP ⊢
    clear hpb' lG hG1 i1 i2 i3 hP0 hP1
    have hS1 := Blk.ext hS0 x1
    have hR1 := Blk.ext hR0 x1
    have lS1 := hS0.lt
    have lR1 := hR0.lt
    have hc1 := Blk.cell hS1
    have lS1' := hS1.lt
    have hsz := x0.size
    go_wp2_with fail
    clear hc1
    go_loopw [33] (fun t33 wr => ∃ (j : Nat), j ≤ srn ∧ t33 = .int .i64 j ∧ Blk wr gm 21 (mems (spars m (rs.take j) (List.replicate k 0))).toArray ∧ Kept (· = gm) W wr) (fun t33 _ => srn - (intOf t33).toNat)
    case atStart => exact ⟨0, by omega, rfl, hG, Kept.refl _ _⟩
    case round =>
      obtain ⟨j, hj, rfl, hGr, hkr⟩ := hrel
      have xr : Ext w wr := (x0.trans x1).trans' hkr (fun i hi e => by omega)
      have HGR := Lib.hid hGr
      clear hGr hG
      by_cases hlt : j < srn
      · obtain ⟨hnl, b, off, ds, q1, q2, _, q4⟩ := HVR.out
        have hltI : (j : Int) < srn := by omega
        have hjr : j < rs.length := by have := HRN.out; omega
        have hjl : j < (rs.map (showW m)).length := by simpa using hjr
        have hjd : j < ds.length := by rw [q4.len]; exact hjl
        obtain rfl := q1 (by omega)
        have hrow := (q2 (by omega)).ext xr
        obtain ⟨hrh, hrg⟩ := hrow.wd j hjd
        have hbl := hrow.lt
        have hwv := (q4.get j hjd hjl).ext xr
        rw [List.getElem_map] at hwv
        obtain ⟨d, hde⟩ : ∃ d, d = ds[j] := ⟨_, rfl⟩
        obtain ⟨z, hz⟩ : ∃ z, z = rs[j] := ⟨_, rfl⟩
        rw [← hde] at hrg hwv
        rw [← hz] at hwv
        obtain ⟨hz0, hz1⟩ := HIN.out z (by rw [hz]; exact List.getElem_mem hjr)
        obtain ⟨a, rfl⟩ : ∃ a : Nat, z = a := ⟨z.toNat, by omega⟩
        have f1 : d.at_ = a := hwv.at_
        have f2 := hwv.is_
        have HWV := Lib.hid hwv
        have HZ := Lib.hid hz
        have HF2 := Lib.hid f2
        have hak : a < k := by omega
        clear hnl q1 q2 q4 hrow hde hwv hz f2 hz0
        obtain ⟨dat, dis, dpa, dpn, dpk⟩ := d
        simp only at f1
        subst f1
        go_upto_region 7 with (fail)
        have xa : Ext wr _ := (Kept.refl _ wr).alloc (.cells (Wd.cells ⟨a, dis, dpa, dpn, dpk⟩) 77)
        have hW7 := Blk.new wr 77 (Wd.cells ⟨a, dis, dpa, dpn, dpk⟩)
        have hS7 := Blk.ext (Blk.kept hS1 hkr (by omega)) xa
        have hP7 := Blk.ext (Blk.kept hP hkr hne) xa
        have hG7 := Blk.ext HGR.out xa
        have hwv7 := HWV.out.ext xa
        have HG7 := Lib.hid hG7
        have HWV7 := Lib.hid hwv7
        generalize (wr.alloc (.cells (Wd.cells ⟨a, dis, dpa, dpn, dpk⟩) 77)) = W7 at xa hW7 hS7 hP7 HG7 HWV7 ⊢
        clear hG7 hwv7 hrh hrg HWV HGR
        generalize (wr : World).heap.size = wb at hW7 ⊢
        have i1 := Blk.has hW7
        have i2 := Blk.gets hW7
        have hst7 := stands_ok ⟨a, dis, dpa, dpn, dpk⟩ (showW m a) sb ⟨x, 0, k, M, i, spa, spn, spk, some ⟨b, off, none⟩, srn, srk, swa, swn, swk⟩ k rfl k1 k2 W7 hS7 HWV7.out (by rw [show (showW m a).path = pathT (m.map leafW) (hgt m.length) a from rfl, pathT_len, HK.out]) (by rw [HMM.out]; exact show_check (by omega) (by rw [← HK.out]; omega) (by rw [← HK.out]; omega))
        have HST7 := Lib.hid hst7
        clear hst7
        go_wp2_with fail
        refine HST7.out.mono ?_
        rintro e w8 ⟨rfl, hx8⟩
        have j1 := Blk.cell (Blk.ext hW7 hx8)
        have j2 := (Blk.ext hW7 hx8).lt
        have j3 := Blk.cell (Blk.ext hS7 hx8)
        have j4 := (Blk.ext hS7 hx8).lt
        have j5 := Blk.cell (Blk.ext hP7 hx8)
        have j6 := (Blk.ext hP7 hx8).lt
        have hG8 := Blk.ext HG7.out hx8
        have j7 := Blk.frozen hG8 a
        have j8 := hG8.lt
        have hgl : (spars m (rs.take j) (List.replicate k 0)).length = k := by rw [spars_len]; simp
        have j9 : w8.cell? ⟨gm, a, none⟩ = some (.int .i32 ((spars m (rs.take j) (List.replicate k 0)).getD a 0)) := by
          rw [Blk.cell hG8 a]
          simp [mems, hgl, hak]
        have HG8 := Lib.hid hG8
        have hakI : (a : Int) < k := by omega
        clear hG8 HG7 i1 i2 hW7 hS7 hP7 hgl
        go_wp2_with fail
        go_roundw
        case rel =>
          refine ⟨j + 1, hlt, by go_num, ?_, ?_⟩
          · have h9 := Blk.set_ HG8.out a (.int .i32 dis)
            rw [mems_set, HF2.out] at h9
            rw [HF2.out, List.take_succ_eq_append_getElem hjr, spars_snoc, ← HZ.out]
            exact h9
          · exact Kept.setCell (hkr.trans' (xa.trans hx8) (fun _ _ f => f.elim)) _ _ (fun _ => rfl)
        case measure => simp only [intOf]; omega
      · have hlt' : ¬ (j : Int) < srn := by omega
        have htk : rs.take j = rs := List.take_of_length_le (by have := HRN.out; omega)
        have hG2 := HGR.out
        rw [htk] at hG2
        have hml : (spars m rs (List.replicate k 0)).length = k := by rw [spars_len]; simp
        have hag : ∀ z ∈ (mreads l x 0 m).1, mget (spars m rs (List.replicate k 0)) z = mget m z := by
          rw [HRW.out]
          intro z hz
          rw [spars_get _ _ _ (fun y hy => by have := HIN.out y hy; simpa using this) _ (HIN.out z hz).1, if_pos hz]
        have hmk' := spars_ok HMOK.out rs (List.replicate k 0) (fun z hz => by rw [(List.mem_replicate.1 hz).2]; unfold i32ok; omega)
        generalize (spars m rs (List.replicate k 0)) = m' at hG2 hml hag hmk'
        obtain ⟨c', hc'⟩ : ∃ c', c' = (List.replicate n (⟨0, 0, 0, 0⟩ : Ins)).set x i := ⟨_, rfl⟩
        have hcl : c'.length = n := by rw [hc']; simp
        have hxl : x < l.length := by have := HN.out; omega
        have hci : c'[(x : Int).toNat]? = l[(x : Int).toNat]? := by
          rw [Int.toNat_natCast, hc', List.getElem?_set_self (by simpa using hxn), List.getElem?_eq_getElem hxl]
          have := HLI.out
          simp [hxl] at this
          rw [this]
        obtain ⟨hrd, p', hh', v, hs1, hs2⟩ := step_sparse HNX.out (hcl.trans HN.out) hci (hml.trans HK.out) hag
        rw [HST.out, HRW.out] at hs1
        rw [HRW.out] at hrd hs2
        injection hs1 with g1 hs1
        injection hs1 with g2 g3
        subst g1 g2
        have HG2 := Lib.hid hG2
        have HRD := Lib.hid hrd
        have HS2 := Lib.hid hs2
        have HM1 := Lib.hid g3
        have HML := Lib.hid hml
        have HMK' := Lib.hid hmk'
        have HC' := Lib.hid hc'
        have HCL := Lib.hid hcl
        have hSr := Blk.kept hS1 hkr (by omega)
        have hRr := Blk.kept hR1 hkr (by omega)
        have hPr := Blk.kept hP hkr hne
        clear hG2 hrd hs2 g3 hml hmk' hc' hcl hag hci htk HGR hxl
        obtain ⟨w2, hr2, hC2, hx2⟩ := makeI wr n (by omega)
        go_upto_region 12 with (fail)
        go_step
        iterate 1 (refine wpList_step (fun K hK => ?_); go_simp; (try go_bits); refine hK _ _ ?_; clear hK K)
        refine wpList_make rfl (.tmp 55) (.tmp 55) 65 rfl rfl rfl hr2 ?_
        clear hr2
        have hS2 := Blk.ext hSr hx2
        have hR2 := Blk.ext hRr hx2
        have hP2 := Blk.ext hPr hx2
        have hG3 := Blk.ext HG2.out hx2
        have hgc : gm < wr.heap.size := HG2.out.lt
        have hpc : pb < wr.heap.size := hPr.lt
        have hsc : sb + 1 < wr.heap.size := hRr.lt
        have hwc : w.heap.size ≤ wr.heap.size := xr.size
        have xr2 := xr.trans hx2
        generalize (wr : World).heap.size = gc at hC2 hgc hpc hsc hwc ⊢
        clear hSr hRr hPr HG2 hx2
        go_upto_region 13 with (fail)
        have i1 := Blk.cell hS2
        have i2 := Blk.has hS2
        have i3 := Blk.gets hS2
        have i4 := hS2.lt
        have i5 := hC2.lt
        have i6 : Proofs.YtahljceanodhkaaGreatDoor.has w2 gc (x * 4) 4 = true := by
          unfold Proofs.YtahljceanodhkaaGreatDoor.has
          rw [show w2.heap[gc]? = _ from hC2]
          simp [inss_rep]
          omega
        have i7 := Blk.melts hC2
        have hxnI : (x : Int) < n := by omega
        go_upto_region 14 with (fail)
        have kp : Kept (· = gc) w2 (putAt w2 gc (x * 4) i.cells) := Kept.putAt (Kept.refl _ w2) _ _ _ (fun _ => rfl)
        have hC3 : Blk (putAt w2 gc (x * 4) i.cells) gc 41 (inss c').toArray := by
          have := Blk.put_ hC2 (x * 4) i.cells
          rw [inss_set _ x i (by simpa using hxn), ← HC'.out] at this
          exact this
        have hS3 := Blk.kept hS2 kp (by omega)
        have hR3 := Blk.kept hR2 kp (by omega)
        have hP3 := Blk.kept hP2 kp (by omega)
        have hG4 := Blk.kept hG3 kp (by omega)
        have xr3 : Ext w (putAt w2 gc (x * 4) i.cells) := xr2.trans' kp (fun i hi e => by omega)
        generalize (putAt w2 gc (x * 4) i.cells) = W3 at hC3 hS3 hR3 hP3 hG4 xr3 ⊢
        clear i1 i2 i3 i6 i7 hC2 hS2 hR2 hP2 hG3 kp xr2
        have hpre : RunPre W3 (some ⟨gc, 0, none⟩) gc 0 n c' gm 0 k x 0 m' := ⟨HOPS.out.ext xr3, fun _ => rfl, fun _ => by simpa using Row.of_blk hC3, HCL.out.symm, h2, HML.out.symm, HG.out, HMK'.out, by simpa using Row.of_blk hG4⟩
        have HPRE := Lib.hid hpre
        have hmr := mreads_any (some ⟨gc, 0, none⟩) gc 0 n n c' x 0 gm 0 k k m' W3 hpre
        rw [HRD.out] at hmr
        have HMR := Lib.hid hmr
        have i1 := Blk.has hP3
        have i2 := Blk.gets hP3
        clear hpre hmr
        go_wp2_with fail
        refine HMR.out.mono ?_
        rintro e w4 ⟨v4, rfl, ho4, hx4⟩
        simp only at ho4
        have hS4 := Blk.ext hS3 hx4
        have hR4 := Blk.ext hR3 hx4
        have hP4 := Blk.ext hP3 hx4
        have hpre4 := HPRE.out.ext hx4
        have xr4 := xr3.trans hx4
        have hlr : rs.length ≤ 100000 := by have := HRN.out; omega
        have hsz4 := xr3.size
        have HO4 := Lib.hid ho4
        have HPRE4 := Lib.hid hpre4
        clear HMR HPRE i1 i2 hS3 hR3 hP3 hG4 hC3 ho4 hpre4 hx4
        have i1 := Blk.cell hS4
        have i4 := hS4.lt
        go_wp2_with fail
        have hat := ats_any sra srn srk (rs.map (showW m)) w4 (HVR.out.ext xr4) hrn4
        rw [map_show] at hat
        refine hat.mono ?_
        rintro e w5 ⟨v5, rfl, ho5, hx5⟩
        have HO5 := Lib.hid ho5
        clear ho5 hat
        go_wp2_with fail
        refine (equal_own HO5.out (own_ext HO4.out hx5) hlr).mono ?_
        rintro e w6 ⟨rfl, hx6⟩
        have hx46 := hx5.trans hx6
        have hS6 := Blk.ext hS4 hx46
        have hR6 := Blk.ext hR4 hx46
        have hP6 := Blk.ext hP4 hx46
        have hpre6 := HPRE4.out.ext hx46
        have xr6 := xr4.trans hx46
        have HPRE6 := Lib.hid hpre6
        clear i1 i4 hS4 hR4 hP4 HPRE4 hpre6 HO4 HO5 hx5 hx6 hx46 xr4
        by_cases hw0 : 0 ≤ wx
        · have hwv := HVW.out
          rw [if_pos hw0] at hwv
          go_upto_region 20 with (fail)
          have xa : Ext w6 _ := (Kept.refl _ w6).alloc (.cells #[.int .i64 wx] 3)
          have ho7 : (w6.alloc (.cells #[.int .i64 wx] 3)).ownsRow w6.heap.size 3 1 (.slice (some ⟨w6.heap.size, 0, none⟩) 1 1) 1 (ints [wx]) := ⟨rfl, .inr ⟨w6.heap.size, 1, _, rfl, Nat.le_refl _, Blk.new w6 3 #[.int .i64 wx], Nat.le_refl _, by unfold maxLen; omega, rfl, rfl⟩⟩
          obtain ⟨ws, hws⟩ : ∃ ws, ws = [wx] := ⟨_, rfl⟩
          have hwv7 : WordsS (w6.alloc (.cells #[.int .i64 wx] 3)) swa swn (ws.map (showW m)) := by rw [hws]; exact hwv.ext (xr6.trans xa)
          have hwi : ∀ y ∈ ws, 0 ≤ y ∧ y < k := by rw [hws]; intro y hy; simp at hy; subst hy; exact ⟨hw0, hwx⟩
          have hwc' : (ws = [] ∧ wx < 0) ∨ (ws = [wx] ∧ 0 ≤ wx) := .inr ⟨hws, hw0⟩
          have ho7' : (w6.alloc (.cells #[.int .i64 wx] 3)).ownsRow w6.heap.size 3 1 (.slice (some ⟨w6.heap.size, 0, none⟩) 1 1) ws.length (ints ws) := by rw [hws]; exact ho7
          have hS7 := Blk.ext hS6 xa
          have hR7 := Blk.ext hR6 xa
          have hpre7 := HPRE6.out.ext xa
          have hP7 := Blk.ext hP6 xa
          have xr7 := xr6.trans xa
          generalize (w6.alloc (.cells #[.int .i64 wx] 3)) = W7 at xa ho7' hwv7 hS7 hR7 hpre7 hP7 xr7 ⊢
          generalize (Value.slice (some ⟨w6.heap.size, 0, none⟩) 1 1) = v7 at ho7' ⊢
          generalize w6.heap.size = b7 at ho7'
          clear hws ho7 hwv hS6 hR6 hP6 HPRE6 xr6 xa hw0
          have hwn' : swn = ws.length := by simpa using hwv7.len
          have HWN := Lib.hid hwn'
          have HWV7 := Lib.hid hwv7
          have HWI := Lib.hid hwi
          have HWC := Lib.hid hwc'
          have HO7 := Lib.hid ho7'
          have HPRE7 := Lib.hid hpre7
          clear hwn' hwv7 hwi hwc' ho7' hpre7
          have i1 := Blk.cell hS7
          have i4 := hS7.lt
          go_wp2_with fail
          have hat := ats_any swa swn swk (ws.map (showW m)) W7 HWV7.out (by omega)
          rw [map_show] at hat
          refine hat.mono ?_
          rintro e w8 ⟨v8, rfl, ho8, hx8⟩
          have HO8 := Lib.hid ho8
          clear ho8 hat
          go_wp2_with fail
          refine (equal_own HO8.out (own_ext HO7.out hx8) (by have := HWN.out; omega)).mono ?_
          rintro e w9 ⟨rfl, hx9⟩
          have hx79 := hx8.trans hx9
          have hS9 := Blk.ext hS7 hx79
          have hR9 := Blk.ext hR7 hx79
          have hP9 := Blk.ext hP7 hx79
          have hpre9 := HPRE7.out.ext hx79
          have hwv9 := HWV7.out.ext hx79
          have xr9 := xr7.trans hx79
          have HPRE9 := Lib.hid hpre9
          have HWV9 := Lib.hid hwv9
          clear i1 i4 hS7 hR7 hP7 HPRE7 hpre9 hwv9 HWV7 HO7 HO8 hx8 hx9 hx79 xr7
          have i1 := Blk.cell hS9
          have i4 := hS9.lt
          go_wp2_with fail
          clear i1
          go_loopw [92] (fun t92 wr => ∃ (j2 : Nat), j2 ≤ swn ∧ t92 = .int .i64 j2 ∧ Ext w9 wr) (fun t92 _ => swn - (intOf t92).toNat)
          case atStart => exact ⟨0, by omega, rfl, Kept.refl _ _⟩
          case round =>
            obtain ⟨j2, hj2, rfl, hxt⟩ := hrel
            by_cases hlt2 : j2 < swn
            · obtain ⟨hnl, b, off, ds, q1, q2, _, q4⟩ := HWV9.out
              have hltI2 : (j2 : Int) < swn := by omega
              have hjr : j2 < ws.length := by have := HWN.out; omega
              have hjl : j2 < (ws.map (showW m)).length := by simpa using hjr
              have hjd : j2 < ds.length := by rw [q4.len]; exact hjl
              obtain rfl := q1 (by omega)
              have hrow := (q2 (by omega)).ext hxt
              obtain ⟨hrh, hrg⟩ := hrow.wd j2 hjd
              have hbl := hrow.lt
              have hwv := (q4.get j2 hjd hjl).ext hxt
              rw [List.getElem_map] at hwv
              obtain ⟨d, hde⟩ : ∃ d, d = ds[j2] := ⟨_, rfl⟩
              obtain ⟨z, hz⟩ : ∃ z, z = ws[j2] := ⟨_, rfl⟩
              rw [← hde] at hrg hwv
              rw [← hz] at hwv
              obtain ⟨hz0, hz1⟩ := HWI.out z (by rw [hz]; exact List.getElem_mem hjr)
              have HWVt := Lib.hid hwv
              clear hnl q1 q2 q4 hrow hde hwv hz
              go_upto_region 25 with (fail)
              have xa : Ext wr _ := (Kept.refl _ wr).alloc (.cells d.cells 77)
              have hWt := Blk.new wr 77 d.cells
              have hSt := Blk.ext (Blk.ext hS9 hxt) xa
              have hwvt := HWVt.out.ext xa
              have HWVu := Lib.hid hwvt
              generalize (wr.alloc (.cells d.cells 77)) = Wt at xa hWt hSt HWVu ⊢
              clear hwvt hrh hrg HWVt
              generalize (wr : World).heap.size = wb at hWt ⊢
              have i1 := Blk.has hWt
              have i2 := Blk.gets hWt
              have hst7 := stands_ok d (showW m z) sb ⟨x, 0, k, M, i, spa, spn, spk, sra, srn, srk, some ⟨b, off, none⟩, swn, swk⟩ k rfl k1 k2 Wt hSt HWVu.out (by rw [show (showW m z).path = pathT (m.map leafW) (hgt m.length) z.toNat from rfl, pathT_len, HK.out]) (by rw [HMM.out]; exact show_check hz0 (by rw [← HK.out]; omega) (by rw [← HK.out]; omega))
              have HST7 := Lib.hid hst7
              clear hst7
              go_wp2_with fail
              refine HST7.out.mono ?_
              rintro e wu ⟨rfl, hxu⟩
              clear HST7 i1 i2 hWt hSt
              go_wp2_with fail
              go_roundw
              case rel => exact ⟨j2 + 1, hlt2, by go_num, (hxt.trans xa).trans hxu⟩
              case measure => simp only [intOf]; omega
            · have hlt2' : ¬ (j2 : Int) < swn := by omega
              have hSt := Blk.ext hS9 hxt
              have hRt := Blk.ext hR9 hxt
              have hPt := Blk.ext hP9 hxt
              have hst := mstep_any (some ⟨gc, 0, none⟩) gc 0 n n c' x 0 gm 0 k k m' wr (HPRE9.out.ext hxt)
              have hrun : runI c' x 0 m' = (p, hh, upd wx v m') := by unfold runI; rw [if_pos rfl]; exact HS2.out
              rw [hrun] at hst
              have HSTp := Lib.hid hst
              have i1 := Blk.has hPt
              have i2 := Blk.gets hPt
              clear hst hrun
              go_wp2_with fail
              refine HSTp.out.mono ?_
              rintro e wv ⟨vv, rfl, g2, c2, rfl, hmv, hxv⟩
              simp only [stCells]
              have hSv := Blk.ext hSt hxv
              have hRv := Blk.ext hRt hxv
              have xrv := (xr9.trans hxt).trans hxv
              clear HSTp i1 i2 hSt hRt hPt
              go_upto_region 29 with (fail)
              have xs : Ext wv _ := (Kept.refl _ wv).alloc (.cells (stCells p (some ⟨g2, 0, none⟩) k c2 hh) 70)
              have hQ := Blk.new wv 70 (stCells p (some ⟨g2, 0, none⟩) k c2 hh)
              have hSw := Blk.ext hSv xs
              have hRw := Blk.ext hRv xs
              have hmw := hmv.ext xs
              have xrw := xrv.trans xs
              generalize (wv.alloc (.cells (stCells p (some ⟨g2, 0, none⟩) k c2 hh) 70)) = Ww at xs hQ hSw hRw hmw xrw ⊢
              have hg2 : wr.heap.size ≤ g2 := hmw.ge
              have hsl : sb + 1 < wr.heap.size := (Blk.ext hR9 hxt).lt
              generalize (wv : World).heap.size = p2 at hQ ⊢
              clear hSv hRv hmv xrv xs
              have i2 := Blk.has hSw
              have i3 := Blk.gets hSw
              have i4' := hSw.lt
              go_upto_region 30 with (fail)
              have xm : Ext Ww _ := (Kept.refl _ Ww).alloc (.cells M.cells 30)
              have hMb := Blk.new Ww 30 M.cells
              have hSm := Blk.ext hSw xm
              have hRm := Blk.ext hRw xm
              have hQm := Blk.ext hQ xm
              have hmm := hmw.ext xm
              have xrm := xrw.trans xm
              have u1 := hSw.lt
              have u2 := hRw.lt
              have u3 := hQ.lt
              have u4 := hmw.lt
              have u5' := xrw.size
              generalize (Ww.alloc (.cells M.cells 30)) = Wm at xm hMb hSm hRm hQm hmm xrm ⊢
              generalize (Ww : World).heap.size = mb at hMb u1 u2 u3 u4 u5' ⊢
              clear i2 i3 i4' hSw hRw hQ hmw
              have HMB := Lib.hid hMb
              have HMV := Lib.hid hmm
              clear hMb hmm
              have i1 := Blk.cell hSm
              have i4' := hSm.lt
              go_wp2_with fail
              clear i1
              go_loopw [110] (fun t110 wr => ∃ (j3 : Nat) (D : Dg), j3 ≤ swn ∧ t110 = .int .i64 j3 ∧ Blk wr mb 30 D.cells ∧ Hid (j3 = 0 → D = M) ∧ Hid (0 < j3 → D = memR m1) ∧ Kept (· = mb) Wm wr) (fun t110 _ => swn - (intOf t110).toNat)
              case atStart => exact ⟨0, M, by omega, rfl, HMB.out, fun _ => rfl, fun h => by omega, Kept.refl _ _⟩
              case round =>
                obtain ⟨j3, D, hj3, rfl, hD, HD0, HD1, hkt⟩ := hrel
                have xrt : Ext w wr := xrm.trans' hkt (fun i hi e => by omega)
                by_cases hlt3 : j3 < swn
                · obtain ⟨hwsx, hw0⟩ : ws = [wx] ∧ 0 ≤ wx := by
                    rcases HWC.out with ⟨h, _⟩ | h
                    · have := HWN.out; rw [h] at this; simp at this; omega
                    · exact h
                  have hj30 : j3 = 0 := by omega
                  subst hj30
                  have hltI3 : ((0 : Nat) : Int) < swn := by omega
                  have hwvt := HVW.out
                  rw [if_pos hw0] at hwvt
                  obtain ⟨hnl, b, off, ds, q1, q2, _, q4⟩ := hwvt
                  have hjd : 0 < ds.length := by rw [q4.len]; simp
                  obtain rfl := q1 (by omega)
                  have hrow := (q2 (by omega)).ext xrt
                  obtain ⟨hrh, hrg⟩ := hrow.wd 0 hjd
                  have hbl := hrow.lt
                  have hwv := (q4.get 0 hjd (by simp)).ext xrt
                  rw [List.getElem_cons_zero] at hwv
                  obtain ⟨d, hde⟩ : ∃ d, d = ds[0] := ⟨_, rfl⟩
                  rw [← hde] at hrg hwv
                  obtain ⟨a, rfl⟩ : ∃ a : Nat, wx = a := ⟨wx.toNat, by omega⟩
                  have hak : a < k := by omega
                  have f1 : d.at_ = a := hwv.at_
                  have HWVt := Lib.hid hwv
                  clear hnl q1 q2 q4 hrow hde hwv
                  obtain ⟨dat, dis, dpa, dpn, dpk⟩ := d
                  simp only at f1
                  subst f1
                  simp only [Nat.zero_mul, Nat.add_zero] at hrh hrg
                  go_upto_region 33 with (fail)
                  have xa : Ext wr _ := (Kept.refl _ wr).alloc (.cells (Wd.cells ⟨a, dis, dpa, dpn, dpk⟩) 77)
                  have hWt := Blk.new wr 77 (Wd.cells ⟨a, dis, dpa, dpn, dpk⟩)
                  have hQt := Blk.ext (Blk.kept hQm hkt (by omega)) xa
                  have hDt := Blk.ext hD xa
                  have hmt := ((HMV.out.kept hkt (by omega)).ext xa)
                  have hml2 : a < (upd (a : Int) v m').length := by unfold upd mput; rw [if_pos hw0, List.length_set, HML.out]; exact hak
                  have hmc := hmt.cell a hml2
                  have hmv' : (upd (a : Int) v m')[a] = v := by simp [upd, mput]
                  rw [hmv'] at hmc
                  have hml := hmt.lt
                  have hwvu := HWVt.out.ext xa
                  have HWVu := Lib.hid hwvu
                  have hdl := hD.lt
                  have kt2 : Kept (· = mb) Wm (wr.alloc (.cells (Wd.cells ⟨a, dis, dpa, dpn, dpk⟩) 77)) := hkt.trans' xa (fun _ _ f => f.elim)
                  generalize (wr.alloc (.cells (Wd.cells ⟨a, dis, dpa, dpn, dpk⟩) 77)) = Wt at xa hWt hQt hDt hmt hmc hml HWVu kt2 ⊢
                  clear hwvu hrh hrg HWVt hmt hmv' hml2
                  generalize (wr : World).heap.size = wb at hWt hdl ⊢
                  have hakI : (a : Int) < k := by omega
                  have hwn1 : ¬ wb = mb := by omega
                  have hp2n : ¬ p2 = mb := by omega
                  have hg2n : ¬ g2 = mb := by omega
                  refine wp_region_3 (fun w2 => Kept (· = mb) Wt w2) [(0, 2), (1, 1), (2, 2), (3, 1), (4, 2), (5, 1), (6, 2), (7, 1), (9, 2), (10, 1), (8, 0), (11, 0), (12, 0)] (by kernel_rfl) (by kernel_rfl) (by kernel_rfl) (by kernel_rfl) ?_; intro l' hl'; simp only [List.map_cons, List.map_nil, List.getD_cons_zero, List.getD_cons_succ] at hl'; subst hl'
                  (repeat (first | ((apply w3_pure); (· go_simp); (· (intro w1; go_simp; try with_reducible rfl)); (intro K hK; go_simp; refine hK _ _ ?_; clear hK K)) | ((apply w3_skip); (· go_simp); (intro K hK; go_simp; refine hK _ _ ?_; clear hK K)) | ((apply w3_take); (· exact (Kept.drew (Kept.refl _ _))); (· go_simp); (· (intro w1 hS; have d1 := Blk.cell (Blk.kept hWt hS hwn1); have d2 := (Blk.kept hWt hS hwn1).lt; have d3 := Blk.cell (Blk.kept hQt hS hp2n); have d4 := (Blk.kept hQt hS hp2n).lt; have d5 := (Kept.cell hS (p := ⟨g2, a, none⟩) hml hg2n).trans hmc; have d6 := Nat.lt_of_lt_of_le hml hS.size;  go_simp; try with_reducible rfl)); (intro K hK; go_simp; refine hK _ _ ?_; clear hK K)) | ((apply w3_pass); (· exact (Kept.drew (Kept.refl _ _))); (· go_simp); (intro K hK; go_simp; refine hK _ _ ?_; clear hK K))))
                  have yW : Ext Wt Wt.drew := (Kept.refl _ Wt).drew
                  (refine w3_act (fun K hK => ?_); go_simp)
                  go_wp2_with fail
                  refine (leaf_any v _).mono ?_
                  rintro e wx1 ⟨rfl, hxx1⟩
                  have yx1 : Ext Wt wx1 := yW.trans hxx1
                  refine hK.out _ _ (fun _ => yx1.ext) ?_
                  clear hK K
                  (repeat (first | ((apply w3_pure); (· go_simp); (· (intro w1; go_simp; try with_reducible rfl)); (intro K hK; go_simp; refine hK _ _ ?_; clear hK K)) | ((apply w3_skip); (· go_simp); (intro K hK; go_simp; refine hK _ _ ?_; clear hK K))))
                  (refine w3_act (fun K hK => ?_); go_simp)
                  go_wp2_with fail
                  obtain ⟨pb', po', hpp⟩ := HWVu.out.path
                  have htw := twith_any (a : Int) (leafW v) (leafW_ok _) dpa pb' po' dpn dpk (showW m a).path wx1 (hpp.ext yx1)
                  rw [show_with (by omega) (by rw [← HK.out]; omega) (by rw [← HK.out]; omega)] at htw
                  refine htw.mono ?_
                  rintro e wx2 ⟨rfl, hxx2⟩
                  clear htw hpp
                  have yx2 : Ext Wt wx2 := yx1.trans hxx2
                  refine hK.out _ _ (fun _ => yx2.ext) ?_
                  clear hK K
                  have hDx := Blk.ext hDt yx2
                  have i1 := Blk.has hDx
                  have i2 := Blk.melts hDx
                  have i3 := hDx.lt
                  (repeat (first | ((apply w3_pure); (· go_simp); (· (intro w1; go_simp; try with_reducible rfl)); (intro K hK; go_simp; refine hK _ _ ?_; clear hK K)) | ((apply w3_skip); (· go_simp); (intro K hK; go_simp; refine hK _ _ ?_; clear hK K))))
                  (refine w3_act (fun K hK => ?_); go_simp)
                  refine hK.out _ _ (fun _ => Kept.putAt yx2.ext _ _ _ (fun _ => rfl)) ?_
                  clear hK K
                  (repeat (first | ((apply w3_pure); (· go_simp); (· (intro w1; go_simp; try with_reducible rfl)); (intro K hK; go_simp; refine hK _ _ ?_; clear hK K)) | ((apply w3_skip); (· go_simp); (intro K hK; go_simp; refine hK _ _ ?_; clear hK K)) | (refine w3_end (by kernel_rfl) (fun K hK => ?_); go_simp; refine hK.out _ _ ?_; clear hK K))); refine w3_nil ?_
                  go_wp2_with fail
                  go_roundw
                  case rel =>
                    refine ⟨1, memR (mput m a v), by omega, by go_num, Blk.put_ hDx _ _, fun h => by omega, fun _ => ?_, Kept.putAt (kt2.trans' yx2 (fun _ _ f => f.elim)) _ _ _ (fun _ => rfl)⟩
                    rw [HM1.out]
                    unfold upd
                    rw [if_pos hw0]
                  case measure => simp only [intOf]; omega
                · have hlt3' : ¬ (j3 : Int) < swn := by omega
                  have hDm : D = memR m1 := by
                    rcases HWC.out with ⟨h, hw0⟩ | ⟨h, hw0⟩
                    · have e0 : swn = 0 := by rw [HWN.out, h]; rfl
                      rw [HD0.out (by omega), HMM.out, HM1.out]
                      unfold upd
                      rw [if_neg (by omega)]
                    · have e1 : swn = 1 := by rw [HWN.out, h]; rfl
                      exact HD1.out (by omega)
                  have HDM := Lib.hid hDm
                  have hSt := Blk.kept hSm hkt (by omega)
                  have hRt := Blk.kept hRm hkt (by omega)
                  have hQt := Blk.kept hQm hkt (by omega)
                  have i1 := Blk.cell hSt
                  have i2 := Blk.cell hQt
                  have i3 := Blk.has hD
                  have i4 := Blk.gets hD
                  clear hDm HMV HMB hD
                  go_wp2_with fail
                  have hhd := head_any p hh k D (by rw [HDM.out]; exact hWord_ok _ _) hpb hhb (by omega) wr
                  rw [HDM.out, ← HRES.out, ← HDM.out] at hhd
                  refine hhd.mono ?_
                  rintro e wz ⟨rfl, hxz⟩
                  have hRz := Blk.ext hRt hxz
                  have i5 := Blk.has hRz
                  have i6 := Blk.melts hRz
                  clear i1 i2 i3 i4 hhd
                  go_wp2_with fail
                  refine ret_ci Tryz.results85 rfl rfl aggDig (by exact sizeDig) (Blk.put_ hRz _ _) ⟨rfl, ?_⟩
                  exact Kept.putAt (xrt.trans hxz) _ _ _ (fun h => by have := HSB.out; omega)
        · have hwv := HVW.out
          rw [if_neg hw0] at hwv
          have hwb : decide (0 ≤ wx) = false := by simpa using hw0
          go_upto_region 20 with (fail)
          clear hwb
          have ho7 : w6.ownsRow 0 3 1 (.slice none 0 0) 0 (ints []) := World.ownsRow_nil _ _ _ _
          obtain ⟨ws, hws⟩ : ∃ ws, ws = ([] : List Int) := ⟨_, rfl⟩
          have hwv7 : WordsS w6 swa swn (ws.map (showW m)) := by rw [hws]; exact hwv.ext xr6
          have hwi : ∀ y ∈ ws, 0 ≤ y ∧ y < k := by rw [hws]; intro y hy; simp at hy
          have hwc' : (ws = [] ∧ wx < 0) ∨ (ws = [wx] ∧ 0 ≤ wx) := .inl ⟨hws, by omega⟩
          obtain ⟨b7, ho7'⟩ : ∃ b7, w6.ownsRow b7 3 1 (.slice none 0 0) ws.length (ints ws) := ⟨0, by rw [hws]; exact ho7⟩
          have hS7 := hS6
          have hR7 := hR6
          have hpre7 := HPRE6.out
          have hP7 := hP6
          have xr7 := xr6
          obtain ⟨W7, hW7⟩ : ∃ W7, W7 = w6 := ⟨_, rfl⟩
          rw [← hW7] at ho7' hwv7 hS7 hR7 hpre7 hP7 xr7 ⊢
          clear hws ho7 hwv hS6 hR6 hP6 HPRE6 xr6 hw0 hW7
          have hwn' : swn = ws.length := by simpa using hwv7.len
          have HWN := Lib.hid hwn'
          have HWV7 := Lib.hid hwv7
          have HWI := Lib.hid hwi
          have HWC := Lib.hid hwc'
          have HO7 := Lib.hid ho7'
          have HPRE7 := Lib.hid hpre7
          clear hwn' hwv7 hwi hwc' ho7' hpre7
          have i1 := Blk.cell hS7
          have i4 := hS7.lt
          go_wp2_with fail
          have hat := ats_any swa swn swk (ws.map (showW m)) W7 HWV7.out (by omega)
          rw [map_show] at hat
          refine hat.mono ?_
          rintro e w8 ⟨v8, rfl, ho8, hx8⟩
          have HO8 := Lib.hid ho8
          clear ho8 hat
          go_wp2_with fail
          refine (equal_own HO8.out (own_ext HO7.out hx8) (by have := HWN.out; omega)).mono ?_
          rintro e w9 ⟨rfl, hx9⟩
          have hx79 := hx8.trans hx9
          have hS9 := Blk.ext hS7 hx79
          have hR9 := Blk.ext hR7 hx79
          have hP9 := Blk.ext hP7 hx79
          have hpre9 := HPRE7.out.ext hx79
          have hwv9 := HWV7.out.ext hx79
          have xr9 := xr7.trans hx79
          have HPRE9 := Lib.hid hpre9
          have HWV9 := Lib.hid hwv9
          clear i1 i4 hS7 hR7 hP7 HPRE7 hpre9 hwv9 HWV7 HO7 HO8 hx8 hx9 hx79 xr7
          have i1 := Blk.cell hS9
          have i4 := hS9.lt
          go_wp2_with fail
          clear i1
          go_loopw [92] (fun t92 wr => ∃ (j2 : Nat), j2 ≤ swn ∧ t92 = .int .i64 j2 ∧ Ext w9 wr) (fun t92 _ => swn - (intOf t92).toNat)
          case atStart => exact ⟨0, by omega, rfl, Kept.refl _ _⟩
          case round =>
            obtain ⟨j2, hj2, rfl, hxt⟩ := hrel
            by_cases hlt2 : j2 < swn
            · obtain ⟨hnl, b, off, ds, q1, q2, _, q4⟩ := HWV9.out
              have hltI2 : (j2 : Int) < swn := by omega
              have hjr : j2 < ws.length := by have := HWN.out; omega
              have hjl : j2 < (ws.map (showW m)).length := by simpa using hjr
              have hjd : j2 < ds.length := by rw [q4.len]; exact hjl
              obtain rfl := q1 (by omega)
              have hrow := (q2 (by omega)).ext hxt
              obtain ⟨hrh, hrg⟩ := hrow.wd j2 hjd
              have hbl := hrow.lt
              have hwv := (q4.get j2 hjd hjl).ext hxt
              rw [List.getElem_map] at hwv
              obtain ⟨d, hde⟩ : ∃ d, d = ds[j2] := ⟨_, rfl⟩
              obtain ⟨z, hz⟩ : ∃ z, z = ws[j2] := ⟨_, rfl⟩
              rw [← hde] at hrg hwv
              rw [← hz] at hwv
              obtain ⟨hz0, hz1⟩ := HWI.out z (by rw [hz]; exact List.getElem_mem hjr)
              have HWVt := Lib.hid hwv
              clear hnl q1 q2 q4 hrow hde hwv hz
              go_upto_region 25 with (fail)
              have xa : Ext wr _ := (Kept.refl _ wr).alloc (.cells d.cells 77)
              have hWt := Blk.new wr 77 d.cells
              have hSt := Blk.ext (Blk.ext hS9 hxt) xa
              have hwvt := HWVt.out.ext xa
              have HWVu := Lib.hid hwvt
              generalize (wr.alloc (.cells d.cells 77)) = Wt at xa hWt hSt HWVu ⊢
              clear hwvt hrh hrg HWVt
              generalize (wr : World).heap.size = wb at hWt ⊢
              have i1 := Blk.has hWt
              have i2 := Blk.gets hWt
              have hst7 := stands_ok d (showW m z) sb ⟨x, 0, k, M, i, spa, spn, spk, sra, srn, srk, some ⟨b, off, none⟩, swn, swk⟩ k rfl k1 k2 Wt hSt HWVu.out (by rw [show (showW m z).path = pathT (m.map leafW) (hgt m.length) z.toNat from rfl, pathT_len, HK.out]) (by rw [HMM.out]; exact show_check hz0 (by rw [← HK.out]; omega) (by rw [← HK.out]; omega))
              have HST7 := Lib.hid hst7
              clear hst7
              go_wp2_with fail
              refine HST7.out.mono ?_
              rintro e wu ⟨rfl, hxu⟩
              clear HST7 i1 i2 hWt hSt
              go_wp2_with fail
              go_roundw
              case rel => exact ⟨j2 + 1, hlt2, by go_num, (hxt.trans xa).trans hxu⟩
              case measure => simp only [intOf]; omega
            · have hlt2' : ¬ (j2 : Int) < swn := by omega
              have hSt := Blk.ext hS9 hxt
              have hRt := Blk.ext hR9 hxt
              have hPt := Blk.ext hP9 hxt
              have hst := mstep_any (some ⟨gc, 0, none⟩) gc 0 n n c' x 0 gm 0 k k m' wr (HPRE9.out.ext hxt)
              have hrun : runI c' x 0 m' = (p, hh, upd wx v m') := by unfold runI; rw [if_pos rfl]; exact HS2.out
              rw [hrun] at hst
              have HSTp := Lib.hid hst
              have i1 := Blk.has hPt
              have i2 := Blk.gets hPt
              clear hst hrun
              go_wp2_with fail
              refine HSTp.out.mono ?_
              rintro e wv ⟨vv, rfl, g2, c2, rfl, hmv, hxv⟩
              simp only [stCells]
              have hSv := Blk.ext hSt hxv
              have hRv := Blk.ext hRt hxv
              have xrv := (xr9.trans hxt).trans hxv
              clear HSTp i1 i2 hSt hRt hPt
              go_upto_region 29 with (fail)
              have xs : Ext wv _ := (Kept.refl _ wv).alloc (.cells (stCells p (some ⟨g2, 0, none⟩) k c2 hh) 70)
              have hQ := Blk.new wv 70 (stCells p (some ⟨g2, 0, none⟩) k c2 hh)
              have hSw := Blk.ext hSv xs
              have hRw := Blk.ext hRv xs
              have hmw := hmv.ext xs
              have xrw := xrv.trans xs
              generalize (wv.alloc (.cells (stCells p (some ⟨g2, 0, none⟩) k c2 hh) 70)) = Ww at xs hQ hSw hRw hmw xrw ⊢
              have hg2 : wr.heap.size ≤ g2 := hmw.ge
              have hsl : sb + 1 < wr.heap.size := (Blk.ext hR9 hxt).lt
              generalize (wv : World).heap.size = p2 at hQ ⊢
              clear hSv hRv hmv xrv xs
              have i2 := Blk.has hSw
              have i3 := Blk.gets hSw
              have i4' := hSw.lt
              go_upto_region 30 with (fail)
              have xm : Ext Ww _ := (Kept.refl _ Ww).alloc (.cells M.cells 30)
              have hMb := Blk.new Ww 30 M.cells
              have hSm := Blk.ext hSw xm
              have hRm := Blk.ext hRw xm
              have hQm := Blk.ext hQ xm
              have hmm := hmw.ext xm
              have xrm := xrw.trans xm
              have u1 := hSw.lt
              have u2 := hRw.lt
              have u3 := hQ.lt
              have u4 := hmw.lt
              have u5' := xrw.size
              generalize (Ww.alloc (.cells M.cells 30)) = Wm at xm hMb hSm hRm hQm hmm xrm ⊢
              generalize (Ww : World).heap.size = mb at hMb u1 u2 u3 u4 u5' ⊢
              clear i2 i3 i4' hSw hRw hQ hmw
              have HMB := Lib.hid hMb
              have HMV := Lib.hid hmm
              clear hMb hmm
              have i1 := Blk.cell hSm
              have i4' := hSm.lt
              go_wp2_with fail
              clear i1
              go_loopw [110] (fun t110 wr => ∃ (j3 : Nat) (D : Dg), j3 ≤ swn ∧ t110 = .int .i64 j3 ∧ Blk wr mb 30 D.cells ∧ Hid (j3 = 0 → D = M) ∧ Hid (0 < j3 → D = memR m1) ∧ Kept (· = mb) Wm wr) (fun t110 _ => swn - (intOf t110).toNat)
              case atStart => exact ⟨0, M, by omega, rfl, HMB.out, fun _ => rfl, fun h => by omega, Kept.refl _ _⟩
              case round =>
                obtain ⟨j3, D, hj3, rfl, hD, HD0, HD1, hkt⟩ := hrel
                have xrt : Ext w wr := xrm.trans' hkt (fun i hi e => by omega)
                by_cases hlt3 : j3 < swn
                · obtain ⟨hwsx, hw0⟩ : ws = [wx] ∧ 0 ≤ wx := by
                    rcases HWC.out with ⟨h, _⟩ | h
                    · have := HWN.out; rw [h] at this; simp at this; omega
                    · exact h
                  have hj30 : j3 = 0 := by omega
                  subst hj30
                  have hltI3 : ((0 : Nat) : Int) < swn := by omega
                  have hwvt := HVW.out
                  rw [if_pos hw0] at hwvt
                  obtain ⟨hnl, b, off, ds, q1, q2, _, q4⟩ := hwvt
                  have hjd : 0 < ds.length := by rw [q4.len]; simp
                  obtain rfl := q1 (by omega)
                  have hrow := (q2 (by omega)).ext xrt
                  obtain ⟨hrh, hrg⟩ := hrow.wd 0 hjd
                  have hbl := hrow.lt
                  have hwv := (q4.get 0 hjd (by simp)).ext xrt
                  rw [List.getElem_cons_zero] at hwv
                  obtain ⟨d, hde⟩ : ∃ d, d = ds[0] := ⟨_, rfl⟩
                  rw [← hde] at hrg hwv
                  obtain ⟨a, rfl⟩ : ∃ a : Nat, wx = a := ⟨wx.toNat, by omega⟩
                  have hak : a < k := by omega
                  have f1 : d.at_ = a := hwv.at_
                  have HWVt := Lib.hid hwv
                  clear hnl q1 q2 q4 hrow hde hwv
                  obtain ⟨dat, dis, dpa, dpn, dpk⟩ := d
                  simp only at f1
                  subst f1
                  simp only [Nat.zero_mul, Nat.add_zero] at hrh hrg
                  go_upto_region 33 with (fail)
                  have xa : Ext wr _ := (Kept.refl _ wr).alloc (.cells (Wd.cells ⟨a, dis, dpa, dpn, dpk⟩) 77)
                  have hWt := Blk.new wr 77 (Wd.cells ⟨a, dis, dpa, dpn, dpk⟩)
                  have hQt := Blk.ext (Blk.kept hQm hkt (by omega)) xa
                  have hDt := Blk.ext hD xa
                  have hmt := ((HMV.out.kept hkt (by omega)).ext xa)
                  have hml2 : a < (upd (a : Int) v m').length := by unfold upd mput; rw [if_pos hw0, List.length_set, HML.out]; exact hak
                  have hmc := hmt.cell a hml2
                  have hmv' : (upd (a : Int) v m')[a] = v := by simp [upd, mput]
                  rw [hmv'] at hmc
                  have hml := hmt.lt
                  have hwvu := HWVt.out.ext xa
                  have HWVu := Lib.hid hwvu
                  have hdl := hD.lt
                  have kt2 : Kept (· = mb) Wm (wr.alloc (.cells (Wd.cells ⟨a, dis, dpa, dpn, dpk⟩) 77)) := hkt.trans' xa (fun _ _ f => f.elim)
                  generalize (wr.alloc (.cells (Wd.cells ⟨a, dis, dpa, dpn, dpk⟩) 77)) = Wt at xa hWt hQt hDt hmt hmc hml HWVu kt2 ⊢
                  clear hwvu hrh hrg HWVt hmt hmv' hml2
                  generalize (wr : World).heap.size = wb at hWt hdl ⊢
                  have hakI : (a : Int) < k := by omega
                  have hwn1 : ¬ wb = mb := by omega
                  have hp2n : ¬ p2 = mb := by omega
                  have hg2n : ¬ g2 = mb := by omega
                  refine wp_region_3 (fun w2 => Kept (· = mb) Wt w2) [(0, 2), (1, 1), (2, 2), (3, 1), (4, 2), (5, 1), (6, 2), (7, 1), (9, 2), (10, 1), (8, 0), (11, 0), (12, 0)] (by kernel_rfl) (by kernel_rfl) (by kernel_rfl) (by kernel_rfl) ?_; intro l' hl'; simp only [List.map_cons, List.map_nil, List.getD_cons_zero, List.getD_cons_succ] at hl'; subst hl'
                  (repeat (first | ((apply w3_pure); (· go_simp); (· (intro w1; go_simp; try with_reducible rfl)); (intro K hK; go_simp; refine hK _ _ ?_; clear hK K)) | ((apply w3_skip); (· go_simp); (intro K hK; go_simp; refine hK _ _ ?_; clear hK K)) | ((apply w3_take); (· exact (Kept.drew (Kept.refl _ _))); (· go_simp); (· (intro w1 hS; have d1 := Blk.cell (Blk.kept hWt hS hwn1); have d2 := (Blk.kept hWt hS hwn1).lt; have d3 := Blk.cell (Blk.kept hQt hS hp2n); have d4 := (Blk.kept hQt hS hp2n).lt; have d5 := (Kept.cell hS (p := ⟨g2, a, none⟩) hml hg2n).trans hmc; have d6 := Nat.lt_of_lt_of_le hml hS.size;  go_simp; try with_reducible rfl)); (intro K hK; go_simp; refine hK _ _ ?_; clear hK K)) | ((apply w3_pass); (· exact (Kept.drew (Kept.refl _ _))); (· go_simp); (intro K hK; go_simp; refine hK _ _ ?_; clear hK K))))
                  have yW : Ext Wt Wt.drew := (Kept.refl _ Wt).drew
                  (refine w3_act (fun K hK => ?_); go_simp)
                  go_wp2_with fail
                  refine (leaf_any v _).mono ?_
                  rintro e wx1 ⟨rfl, hxx1⟩
                  have yx1 : Ext Wt wx1 := yW.trans hxx1
                  refine hK.out _ _ (fun _ => yx1.ext) ?_
                  clear hK K
                  (repeat (first | ((apply w3_pure); (· go_simp); (· (intro w1; go_simp; try with_reducible rfl)); (intro K hK; go_simp; refine hK _ _ ?_; clear hK K)) | ((apply w3_skip); (· go_simp); (intro K hK; go_simp; refine hK _ _ ?_; clear hK K))))
                  (refine w3_act (fun K hK => ?_); go_simp)
                  go_wp2_with fail
                  obtain ⟨pb', po', hpp⟩ := HWVu.out.path
                  have htw := twith_any (a : Int) (leafW v) (leafW_ok _) dpa pb' po' dpn dpk (showW m a).path wx1 (hpp.ext yx1)
                  rw [show_with (by omega) (by rw [← HK.out]; omega) (by rw [← HK.out]; omega)] at htw
                  refine htw.mono ?_
                  rintro e wx2 ⟨rfl, hxx2⟩
                  clear htw hpp
                  have yx2 : Ext Wt wx2 := yx1.trans hxx2
                  refine hK.out _ _ (fun _ => yx2.ext) ?_
                  clear hK K
                  have hDx := Blk.ext hDt yx2
                  have i1 := Blk.has hDx
                  have i2 := Blk.melts hDx
                  have i3 := hDx.lt
                  (repeat (first | ((apply w3_pure); (· go_simp); (· (intro w1; go_simp; try with_reducible rfl)); (intro K hK; go_simp; refine hK _ _ ?_; clear hK K)) | ((apply w3_skip); (· go_simp); (intro K hK; go_simp; refine hK _ _ ?_; clear hK K))))
                  (refine w3_act (fun K hK => ?_); go_simp)
                  refine hK.out _ _ (fun _ => Kept.putAt yx2.ext _ _ _ (fun _ => rfl)) ?_
                  clear hK K
                  (repeat (first | ((apply w3_pure); (· go_simp); (· (intro w1; go_simp; try with_reducible rfl)); (intro K hK; go_simp; refine hK _ _ ?_; clear hK K)) | ((apply w3_skip); (· go_simp); (intro K hK; go_simp; refine hK _ _ ?_; clear hK K)) | (refine w3_end (by kernel_rfl) (fun K hK => ?_); go_simp; refine hK.out _ _ ?_; clear hK K))); refine w3_nil ?_
                  go_wp2_with fail
                  go_roundw
                  case rel =>
                    refine ⟨1, memR (mput m a v), by omega, by go_num, Blk.put_ hDx _ _, fun h => by omega, fun _ => ?_, Kept.putAt (kt2.trans' yx2 (fun _ _ f => f.elim)) _ _ _ (fun _ => rfl)⟩
                    rw [HM1.out]
                    unfold upd
                    rw [if_pos hw0]
                  case measure => simp only [intOf]; omega
                · have hlt3' : ¬ (j3 : Int) < swn := by omega
                  have hDm : D = memR m1 := by
                    rcases HWC.out with ⟨h, hw0⟩ | ⟨h, hw0⟩
                    · have e0 : swn = 0 := by rw [HWN.out, h]; rfl
                      rw [HD0.out (by omega), HMM.out, HM1.out]
                      unfold upd
                      rw [if_neg (by omega)]
                    · have e1 : swn = 1 := by rw [HWN.out, h]; rfl
                      exact HD1.out (by omega)
                  have HDM := Lib.hid hDm
                  have hSt := Blk.kept hSm hkt (by omega)
                  have hRt := Blk.kept hRm hkt (by omega)
                  have hQt := Blk.kept hQm hkt (by omega)
                  have i1 := Blk.cell hSt
                  have i2 := Blk.cell hQt
                  have i3 := Blk.has hD
                  have i4 := Blk.gets hD
                  clear hDm HMV HMB hD
                  go_wp2_with fail
                  have hhd := head_any p hh k D (by rw [HDM.out]; exact hWord_ok _ _) hpb hhb (by omega) wr
                  rw [HDM.out, ← HRES.out, ← HDM.out] at hhd
                  refine hhd.mono ?_
                  rintro e wz ⟨rfl, hxz⟩
                  have hRz := Blk.ext hRt hxz
                  have i5 := Blk.has hRz
                  have i6 := Blk.melts hRz
                  clear i1 i2 i3 i4 hhd
                  go_wp2_with fail
                  refine ret_ci Tryz.results85 rfl rfl aggDig (by exact sizeDig) (Blk.put_ hRz _ _) ⟨rfl, ?_⟩
                  exact Kept.putAt (xrt.trans hxz) _ _ _ (fun h => by have := HSB.out; omega)
end Go.Proofs.YtahljceanodhkaaGreatDoor
