/- Package baizeref02: In, Out, FromNum, Num, Two. -/
import Derived.Test.YtahljceanodhkaaGreatDoorRa
namespace Go.Proofs.YtahljceanodhkaaGreatDoor
open Go.RowKit
theorem splice_all' {cs vs : Array Value} (h : vs.size = cs.size) : splice cs 0 vs = vs := by
  unfold splice
  simp [h, List.drop_of_length_le]
set_option maxRecDepth 100000 in
set_option maxHeartbeats 1000000 in
theorem rin_any (s : St) (n : Int) (w : World) : Calls Tryz.prog 178 #[.agg s.cells, .int .u64 n] w fun e w' => e = .returned (.agg (taken s n).cells) ∧ Ext w w' := by
  have hx0 : Ext w _ := ((Kept.refl _ w).alloc (.cells #[.int .u64 (bits .xor .u64 s.a n), .int .u64 s.b, .int .u64 s.c, .int .u64 s.d] 254)).alloc (.cells (St.cells ⟨0, 0, 0, 0⟩) 254)
  have hR0 : Blk _ (w.heap.size + 1) 254 (St.cells ⟨0, 0, 0, 0⟩) := Blk.new' (w.alloc (.cells #[.int .u64 (bits .xor .u64 s.a n), .int .u64 s.b, .int .u64 s.c, .int .u64 s.d] 254)) _ _ _ (by simp)
  go_enter Tryz.func178, Tryz.ntmps178
  go_wp2_with fail
  refine (rstir_any { s with a := xor64 s.a n } _).mono ?_
  rintro e w1 ⟨rfl, hx1⟩
  have hR1 := Blk.ext hR0 hx1
  have hh1 := Blk.has hR1
  have hm1 := Blk.melts hR1
  go_wp2_with fail
  refine ret_cell Tryz.results178 rfl rfl aggRs (by exact sizeRs) (Blk.put_ hR1 _ _) ⟨rfl, ?_⟩
  exact Kept.putAt (hx0.trans hx1) _ _ _ (fun h => by omega)
set_option maxRecDepth 100000 in
set_option maxHeartbeats 400000 in
theorem rfromnum_any (n : Int) (w : World) (h0 : 0 ≤ n) (h1 : n < 18446744073709551616) : Calls Tryz.prog 116 #[.int .u64 n] w fun e w' => e = .returned (.agg (dgN n).cells) ∧ Ext w w' := by
  have H1 := Lib.hid h1
  clear h1
  go_enter Tryz.func116, Tryz.ntmps116
  go_wp2
  refine wp_loop_rounds 9 ?_
  iterate 9 (rw [rounds_succ]; go_wp2)
  refine ret_cell Tryz.results116 rfl rfl aggArr8 (by exact sizeArr8) (Blk.alloc (Blk.new' _ _ _ _ (by simp)) _) ⟨?_, ?_⟩
  · have e : ∀ m : Int, 0 ≤ m → m < 18446744073709551616 → IntKind.u64.wrap (m.tdiv 256) = m / 256 := fun m h0 h1 => by
      rw [Int.tdiv_eq_ediv_of_nonneg h0, u64_in (by omega) (by omega)]
    have f : ∀ m : Int, 0 ≤ m → m.tmod 256 % 256 = m % 256 := fun m h0 => by rw [Int.tmod_eq_emod_of_nonneg h0]; omega
    have h1 := H1.out
    simp only [dgN, Dg.cells]
    rw [e n h0 h1, e (n / 256) (by omega) (by omega), e (n / 256 / 256) (by omega) (by omega), e (n / 256 / 256 / 256) (by omega) (by omega), e (n / 256 / 256 / 256 / 256) (by omega) (by omega), e (n / 256 / 256 / 256 / 256 / 256) (by omega) (by omega), e (n / 256 / 256 / 256 / 256 / 256 / 256) (by omega) (by omega)]
    rw [show n / 256 / 256 = n / 65536 by omega, show n / 65536 / 256 = n / 16777216 by omega, show n / 16777216 / 256 = n / 4294967296 by omega, show n / 4294967296 / 256 = n / 1099511627776 by omega, show n / 1099511627776 / 256 = n / 281474976710656 by omega, show n / 281474976710656 / 256 = n / 72057594037927936 by omega]
    rw [f _ (by omega), f _ (by omega), f _ (by omega), f _ (by omega), f _ (by omega), f _ (by omega), f _ (by omega)]
  · ((repeat' (with_reducible (first | apply Kept.drew | apply Kept.drewN | apply Kept.alloc | apply Kept.setCell | apply Kept.putAt | exact Kept.refl _ _))) <;> (intro hlt; first | rfl | (simp at hlt; done) | (exfalso; simp at hlt; omega) | omega))
set_option maxRecDepth 100000 in
set_option maxHeartbeats 1000000 in
theorem rout_any (s : St) (w : World) : Calls Tryz.prog 176 #[.agg s.cells] w fun e w' => e = .returned (.agg (out s).cells) ∧ Ext w w' := by
  have H0 := Lib.hid (xor64_bd s.a s.c).1
  have H1 := Lib.hid (xor64_bd s.a s.c).2
  have hx0 : Ext w _ := ((Kept.refl _ w).alloc (.cells s.cells 254)).alloc (.cells Dg.zero.cells 23)
  have hR0 : Blk _ (w.heap.size + 1) 23 Dg.zero.cells := Blk.new' (w.alloc (.cells s.cells 254)) _ _ _ (by simp)
  go_enter Tryz.func176, Tryz.ntmps176
  go_wp2_with fail
  refine (rfromnum_any _ _ H0.out H1.out).mono ?_
  rintro e w1 ⟨rfl, hx1⟩
  have hR1 := Blk.ext hR0 hx1
  have hh1 := Blk.has hR1
  have hm1 := Blk.melts hR1
  go_wp2_with fail
  refine ret_cell Tryz.results176 rfl rfl aggArr8 (by exact sizeArr8) (Blk.put_ hR1 _ _) ⟨rfl, ?_⟩
  exact Kept.putAt (hx0.trans hx1) _ _ _ (fun h => by omega)
set_option maxRecDepth 100000 in
set_option maxHeartbeats 1000000 in
theorem rnum_any (d : Dg) (hd : d.ok) (w : World) : Calls Tryz.prog 104 #[.agg #[.int .u8 d.x0, .int .u8 d.x1, .int .u8 d.x2, .int .u8 d.x3, .int .u8 d.x4, .int .u8 d.x5, .int .u8 d.x6, .int .u8 d.x7]] w fun e w' => e = .returned (.int .u64 (numD d)) ∧ Ext w w' := by
  have b0 := hd 0
  have b1 := hd 1
  have b2 := hd 2
  have b3 := hd 3
  have b4 := hd 4
  have b5 := hd 5
  have b6 := hd 6
  have b7 := hd 7
  simp only [dgx] at b0 b1 b2 b3 b4 b5 b6 b7
  clear hd
  obtain ⟨x0, x1, x2, x3, x4, x5, x6, x7⟩ := d
  dsimp only at *
  go_enter Tryz.func104, Tryz.ntmps104
  go_wp2
  refine wp_loop_rounds 9 ?_
  iterate 9 (rw [rounds_succ]; go_wp2)
  go_ret
  refine ⟨ret_int ?_, ?_⟩
  · simp [numD, numK, dgx]
    omega
  · ((repeat' (with_reducible (first | apply Kept.drew | apply Kept.drewN | apply Kept.alloc | apply Kept.setCell | apply Kept.putAt | exact Kept.refl _ _))) <;> (intro hlt; first | rfl | (simp at hlt; done) | (exfalso; simp at hlt; omega) | omega))
set_option maxRecDepth 100000 in
set_option maxHeartbeats 1000000 in
theorem rtwo_any (a b : Dg) (ha : a.ok) (hb : b.ok) (w : World) : Calls Tryz.prog 182 #[.agg #[.int .u8 a.x0, .int .u8 a.x1, .int .u8 a.x2, .int .u8 a.x3, .int .u8 a.x4, .int .u8 a.x5, .int .u8 a.x6, .int .u8 a.x7], .agg #[.int .u8 b.x0, .int .u8 b.x1, .int .u8 b.x2, .int .u8 b.x3, .int .u8 b.x4, .int .u8 b.x5, .int .u8 b.x6, .int .u8 b.x7]] w fun e w' => e = .returned (.agg (hTwo a b).cells) ∧ Ext w w' := by
  have HA := Lib.hid ha
  have HB := Lib.hid hb
  clear ha hb
  have hx0 : Ext w _ := (((Kept.refl _ w).alloc (.cells #[.int .u8 a.x0, .int .u8 a.x1, .int .u8 a.x2, .int .u8 a.x3, .int .u8 a.x4, .int .u8 a.x5, .int .u8 a.x6, .int .u8 a.x7] 23)).alloc (.cells #[.int .u8 b.x0, .int .u8 b.x1, .int .u8 b.x2, .int .u8 b.x3, .int .u8 b.x4, .int .u8 b.x5, .int .u8 b.x6, .int .u8 b.x7] 23)).alloc (.cells Dg.zero.cells 23)
  have hB0 : Blk _ (w.heap.size + 1) 23 b.cells := Blk.alloc (Blk.new' (w.alloc (.cells #[.int .u8 a.x0, .int .u8 a.x1, .int .u8 a.x2, .int .u8 a.x3, .int .u8 a.x4, .int .u8 a.x5, .int .u8 a.x6, .int .u8 a.x7] 23)) _ _ _ (by simp)) (.cells Dg.zero.cells 23)
  have hA0 : Blk _ w.heap.size 23 a.cells := Blk.alloc (Blk.alloc (Blk.new w _ _) (.cells #[.int .u8 b.x0, .int .u8 b.x1, .int .u8 b.x2, .int .u8 b.x3, .int .u8 b.x4, .int .u8 b.x5, .int .u8 b.x6, .int .u8 b.x7] 23)) (.cells Dg.zero.cells 23)
  have hR0 : Blk _ (w.heap.size + 1 + 1) 23 Dg.zero.cells := Blk.new' ((w.alloc (.cells #[.int .u8 a.x0, .int .u8 a.x1, .int .u8 a.x2, .int .u8 a.x3, .int .u8 a.x4, .int .u8 a.x5, .int .u8 a.x6, .int .u8 a.x7] 23)).alloc (.cells #[.int .u8 b.x0, .int .u8 b.x1, .int .u8 b.x2, .int .u8 b.x3, .int .u8 b.x4, .int .u8 b.x5, .int .u8 b.x6, .int .u8 b.x7] 23)) _ _ _ (by simp)
  go_enter Tryz.func182, Tryz.ntmps182
  go_wp2_with fail
  generalize (((w.alloc (.cells #[.int .u8 a.x0, .int .u8 a.x1, .int .u8 a.x2, .int .u8 a.x3, .int .u8 a.x4, .int .u8 a.x5, .int .u8 a.x6, .int .u8 a.x7] 23)).alloc (.cells #[.int .u8 b.x0, .int .u8 b.x1, .int .u8 b.x2, .int .u8 b.x3, .int .u8 b.x4, .int .u8 b.x5, .int .u8 b.x6, .int .u8 b.x7] 23)).alloc (.cells #[.int .u8 0, .int .u8 0, .int .u8 0, .int .u8 0, .int .u8 0, .int .u8 0, .int .u8 0, .int .u8 0] 23)) = W at hx0 hA0 hB0 hR0 ⊢
  refine wp_region_3 (fun w1 => Ext W w1) [(1, 1), (4, 1), (0, 0), (2, 0), (3, 0), (5, 0), (6, 0), (7, 0), (8, 0)] (by kernel_rfl) (by kernel_rfl) (by kernel_rfl) (by kernel_rfl) ?_; intro l' hl'; simp only [List.map_cons, List.map_nil, List.getD_cons_zero, List.getD_cons_succ] at hl'; subst hl'
  (repeat (first | ((apply w3_pure); (· go_simp); (· (intro w1; go_simp; try with_reducible rfl)); (intro K hK; go_simp; refine hK _ _ ?_; clear hK K)) | ((apply w3_skip); (· go_simp); (intro K hK; go_simp; refine hK _ _ ?_; clear hK K)) | ((apply w3_take); (· exact (Kept.drew (Kept.refl _ _))); (· go_simp); (· (intro w1 hS; have d1 := Blk.ext hA0 hS; have hh := Blk.has d1; have hg := Blk.gets d1; have d2 := Blk.ext hB0 hS; have hh2 := Blk.has d2; have hg2 := Blk.gets d2;  go_simp; try with_reducible rfl)); (intro K hK; go_simp; refine hK _ _ ?_; clear hK K)) | ((apply w3_pass); (· exact (Kept.drew (Kept.refl _ _))); (· go_simp); (intro K hK; go_simp; refine hK _ _ ?_; clear hK K))))
  (refine w3_act (fun K hK => ?_); go_simp)
  go_wp2_with fail
  refine (rbegin_any 3 _).mono ?_
  rintro e w1 ⟨rfl, hx1⟩
  have y1 : Ext W w1 := ((Kept.refl _ W).drew).trans hx1
  refine hK.out _ _ (fun _ => y1) ?_
  clear hK K
  (refine w3_act (fun K hK => ?_); go_simp)
  go_wp2_with fail
  refine (rnum_any a HA.out _).mono ?_
  rintro e w2 ⟨rfl, hx2⟩
  have y2 := y1.trans hx2
  refine hK.out _ _ (fun _ => y2) ?_
  clear hK K
  (refine w3_act (fun K hK => ?_); go_simp)
  go_wp2_with fail
  refine (rin_any (bg 3) _ _).mono ?_
  rintro e w3 ⟨rfl, hx3⟩
  have y3 := y2.trans hx3
  refine hK.out _ _ (fun _ => y3) ?_
  clear hK K
  (refine w3_act (fun K hK => ?_); go_simp)
  go_wp2_with fail
  refine (rnum_any b HB.out _).mono ?_
  rintro e w4 ⟨rfl, hx4⟩
  have y4 := y3.trans hx4
  refine hK.out _ _ (fun _ => y4) ?_
  clear hK K
  (refine w3_act (fun K hK => ?_); go_simp)
  go_wp2_with fail
  refine (rin_any _ _ _).mono ?_
  rintro e w5 ⟨rfl, hx5⟩
  have y5 := y4.trans hx5
  refine hK.out _ _ (fun _ => y5) ?_
  clear hK K
  (refine w3_act (fun K hK => ?_); go_simp)
  go_wp2_with fail
  refine (rout_any _ _).mono ?_
  rintro e w6 ⟨rfl, hx6⟩
  have y6 := y5.trans hx6
  refine hK.out _ _ (fun _ => y6) ?_
  clear hK K
  have hR6 := Blk.ext hR0 y6
  have hh6 := Blk.has hR6
  have hm6 := Blk.melts hR6
  (repeat (first | ((apply w3_pure); (· go_simp); (· (intro w1; go_simp; try with_reducible rfl)); (intro K hK; go_simp; refine hK _ _ ?_; clear hK K)) | ((apply w3_skip); (· go_simp); (intro K hK; go_simp; refine hK _ _ ?_; clear hK K)) | (refine w3_end (by kernel_rfl) (fun K hK => ?_); go_simp; refine hK.out _ _ ?_; clear hK K))); refine w3_nil ?_
  go_wp2_with fail
  refine ret_cell Tryz.results182 rfl rfl aggArr8 (by exact sizeArr8) (Blk.put_ hR6 _ _) ⟨rfl, ?_⟩
  exact Kept.putAt (hx0.trans y6) _ _ _ (fun h => by omega)
set_option maxRecDepth 100000 in
set_option maxHeartbeats 1000000 in
theorem rmany_any (A : Option Addr) (b off cap : Nat) (l : List Dg) (hl : l.length ≤ 9223372036854775807) (hok : ∀ d ∈ l, d.ok) (w : World) (hA : 0 < l.length → A = some ⟨b, off, none⟩) (hr : 0 < l.length → Row w b off (digs l)) :
    Calls Tryz.prog 131 #[.slice A l.length cap] w fun e w' => e = .returned (.agg (hMany l).cells) ∧ Ext w w' := by
  have HO := Lib.hid hok
  have HA := Lib.hid hA
  have HR := Lib.hid hr
  clear hok hA hr
  have hx0 : Ext w _ := (Kept.refl _ w).alloc (.cells Dg.zero.cells 23)
  have hR0 := Blk.new w 23 Dg.zero.cells
  obtain ⟨n, hn⟩ : ∃ n, n = l.length := ⟨_, rfl⟩
  rw [← hn] at hl ⊢
  have HNn := Lib.hid hn
  clear hn
  go_enter Tryz.func131, Tryz.ntmps131
  go_wp2_with fail
  refine (rbegin_any 5 _).mono ?_
  rintro e w1 ⟨rfl, hx1⟩
  go_wp2_with fail
  have hs1 := Blk.new w1 254 (bg 5).cells
  have hz1 := (Kept.refl (· = w1.heap.size) w1).alloc (.cells (bg 5).cells 254)
  generalize w1.alloc (.cells #[.int .u64 2611923443488327891, .int .u64 1376283091369227076, .int .u64 11820040416388919760, .int .u64 5] 254) = W at hs1 hz1 ⊢
  go_loopw [4] (fun i wr => ∃ k : Nat, k ≤ n ∧ i = .int .i64 k ∧ Blk wr w1.heap.size 254 (manyS (l.take k)).cells ∧ Ext w1 wr) (fun i _ => n - (intOf i).toNat)
  case atStart => exact ⟨0, by omega, rfl, hs1, hz1.mono (fun i hi e => by omega)⟩
  case round =>
    obtain ⟨k, hk, rfl, hs, hx⟩ := hrel
    clear hs1 hz1
    by_cases hlt : k < n
    · have hkl : k < l.length := by have := HNn.out; omega
      obtain rfl := HA.out (by omega)
      have hrow := ((HR.out (by omega)).ext ((hx0.trans hx1).trans hx))
      have HRW := Lib.hid hrow
      clear hrow
      go_wp2_with fail
      refine wp_region_3 (fun w1 => Ext wr w1) [(0, 1), (1, 2), (2, 2), (3, 2), (4, 1), (5, 0), (6, 0), (7, 0)] (by kernel_rfl) (by kernel_rfl) (by kernel_rfl) (by kernel_rfl) ?_; intro l' hl'; simp only [List.map_cons, List.map_nil, List.getD_cons_zero, List.getD_cons_succ] at hl'; subst hl'
      (repeat (first | ((apply w3_pure); (· go_simp); (· (intro w1; go_simp; try with_reducible rfl)); (intro K hK; go_simp; refine hK _ _ ?_; clear hK K)) | ((apply w3_skip); (· go_simp); (intro K hK; go_simp; refine hK _ _ ?_; clear hK K)) | ((apply w3_take); (· exact (Kept.drew (Kept.refl _ _))); (· go_simp); (· (intro w1 hS; have d1 := Blk.ext hs hS; have hh := Blk.has d1; have hg := Blk.gets d1; have hd2 := (HRW.out.ext hS).dig k hkl; obtain ⟨hrh, hrg⟩ := hd2;  go_simp; try with_reducible rfl)); (intro K hK; go_simp; refine hK _ _ ?_; clear hK K)) | ((apply w3_pass); (· exact (Kept.drew (Kept.refl _ _))); (· go_simp); (intro K hK; go_simp; refine hK _ _ ?_; clear hK K))))
      (refine w3_act (fun K hK => ?_); go_simp)
      go_wp2_with fail
      refine (rnum_any l[k] (HO.out _ (List.getElem_mem hkl)) _).mono ?_
      rintro e w2 ⟨rfl, hx2⟩
      have y2 : Ext wr w2 := ((Kept.refl _ wr).drew).trans hx2
      refine hK.out _ _ (fun _ => y2) ?_
      clear hK K
      (refine w3_act (fun K hK => ?_); go_simp)
      go_wp2_with fail
      refine (rin_any _ _ _).mono ?_
      rintro e w3 ⟨rfl, hx3⟩
      have y3 := y2.trans hx3
      refine hK.out _ _ (fun _ => y3) ?_
      clear hK K
      have hs3 := Blk.ext hs y3
      have hh3 := Blk.has hs3
      have hm3 := Blk.melts hs3
      (repeat (first | ((apply w3_pure); (· go_simp); (· (intro w1; go_simp; try with_reducible rfl)); (intro K hK; go_simp; refine hK _ _ ?_; clear hK K)) | ((apply w3_skip); (· go_simp); (intro K hK; go_simp; refine hK _ _ ?_; clear hK K)) | (refine w3_end (by kernel_rfl) (fun K hK => ?_); go_simp; refine hK.out _ _ ?_; clear hK K))); refine w3_nil ?_
      have hs4 := Blk.put_ hs3 0 (taken (manyS (l.take k)) (numD l[k])).cells
      rw [splice_all' (by rfl)] at hs4
      go_wp2_with fail
      go_roundw
      case rel => exact ⟨k + 1, by omega, by go_num, by rw [manyS_take l k hkl]; exact hs4, Kept.putAt (hx.trans y3) _ _ _ (fun h => by omega)⟩
      case measure => (simp only [intOf]; omega)
    · have hkn : k = l.length := by have := HNn.out; omega
      have HK := Lib.hid hkn
      clear hkn
      have hh := Blk.has hs
      have hg := Blk.gets hs
      go_wp2_with fail
      refine (rin_any _ _ _).mono ?_
      rintro e w2 ⟨rfl, hx2⟩
      go_wp2_with fail
      refine (rout_any _ _).mono ?_
      rintro e w3 ⟨rfl, hx3⟩
      have y3 := (hx.trans hx2).trans hx3
      have hR3 := Blk.ext (Blk.ext hR0 hx1) y3
      have hh3 := Blk.has hR3
      have hm3 := Blk.melts hR3
      go_wp2_with fail
      refine ret_cell Tryz.results131 rfl rfl aggArr8 (by exact sizeArr8) (Blk.put_ hR3 _ _) ⟨?_, ?_⟩
      · unfold hMany
        rw [HK.out, List.take_length, HNn.out]
        rfl
      · exact Kept.putAt ((hx0.trans hx1).trans y3) _ _ _ (fun h => by omega)
end Go.Proofs.YtahljceanodhkaaGreatDoor
