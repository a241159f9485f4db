/- Package baizeref02: Bytes; Of. -/
import Derived.Test.YtahljceanodhkaaGreatDoorApp
namespace Go.Proofs.YtahljceanodhkaaGreatDoor
open Go.RowKit
theorem infoU8 : (Tryz.prog.info? 5).map (fun i => (i.zero, i.size, i.bytes)) = some (some (.int .u8 0), 1, 1) := by kernel_rfl
theorem appB (w : World) (base : Nat) (v : Value) (n : Nat) (xs : List Int) (hown : w.ownsRow base 5 1 v n (byts xs)) (b off m c : Nat) (l : List Int) (hm : m = l.length) (hr : Row w b off (byts l)) (hn : n + m ≤ 100000) (hbase : base ≤ w.heap.size) :
    ∃ v' w', (Builtin.append_ #[95, 95] 95 #[v, .slice (some ⟨b, off, none⟩) m c]).run Tryz.prog w = .ok v' w' ∧ w'.ownsRow base 5 1 v' (n + m) (byts (xs ++ l)) ∧ Kept (fun i => v.ownBlock = some i) w w' := by
  obtain ⟨i, hi, hz, h1, h2⟩ := info_parts infoU8
  have := app_some (P := Tryz.prog) Tryz.underlying95 hi hz h1 h2 (by rfl) (by decide) w base v n (byts xs) hown b off m c (byts l) (by rw [byts_length, hm, Nat.mul_one]) hr (byts_flat l) (by unfold maxLen; omega) (by omega) hbase
  rw [show byts xs ++ byts l = byts (xs ++ l) by simp [byts]] at this
  exact this
/-- a slice of bytes that is the call's own, and not empty -/
theorem own_some {w : World} {base : Nat} {v : Value} {n : Nat} {xs : List Int} (h : w.ownsRow base 5 1 v n (byts xs)) (hn : 0 < n) : ∃ g c, v = .slice (some ⟨g, 0, none⟩) n c ∧ base ≤ g ∧ Row w g 0 (byts xs) ∧ n ≤ c ∧ c ≤ maxLen ∧ n = xs.length := by
  have hl := h.1
  rw [byts_length, Nat.mul_one] at hl
  rcases h.2 with ⟨_, h0⟩ | ⟨g, c, cur, hv, hb, hc, hnc, hcm, hcs, htk⟩
  · omega
  · refine ⟨g, c, hv, hb, ?_, hnc, hcm, hl.symm⟩
    have hln : (byts xs).length = n := by rw [byts_length, hl]
    refine ⟨?_, ?_, (Array.getElem?_eq_some_iff.1 hc).1⟩
    · unfold has; rw [hc, hln]; simp; omega
    · unfold gets; rw [hc, hln]; simp only [List.drop_zero]; rw [Nat.mul_one] at htk; rw [htk]
theorem getD_app_zeros (r : List Int) (j k : Nat) : (r ++ List.replicate j 0).getD k 0 = r.getD k 0 := by
  simp only [List.getD]
  by_cases h : k < r.length
  · rw [List.getElem?_append_left h]
  · rw [List.getElem?_append_right (by omega), List.getElem?_eq_none (by omega : r.length ≤ k), List.getElem?_replicate]
    split <;> rfl
theorem dgOf_zeros (r : List Int) (j : Nat) : dgOf (r ++ List.replicate j 0) = dgOf r := by
  simp only [dgOf, getD_app_zeros]
theorem dgOf_app (r q : List Int) (h : 8 ≤ r.length) : dgOf (r ++ q) = dgOf r := by
  have : ∀ k, k < 8 → (r ++ q).getD k 0 = r.getD k 0 := fun k hk => by
    simp only [List.getD]
    rw [List.getElem?_append_left (by omega)]
  simp only [dgOf, this 0 (by omega), this 1 (by omega), this 2 (by omega), this 3 (by omega), this 4 (by omega), this 5 (by omega), this 6 (by omega), this 7 (by omega)]
theorem wholeK_app (s : St) (l q : List Int) : ∀ k, k * 8 ≤ l.length → wholeK s (l ++ q) k = wholeK s l k
  | 0, _ => rfl
  | k + 1, h => by
    simp only [wholeK]
    rw [wholeK_app s l q k (by omega), List.drop_append_of_le_length (by omega), dgOf_app _ _ (by simp; omega)]
theorem wholeK_pad (s : St) (l : List Int) (j : Nat) : wholeK s (l ++ [1] ++ List.replicate j 0) (l.length / 8 + 1) = taken (wholeK s l (l.length / 8)) (numD (padK l)) := by
  simp only [wholeK]
  rw [List.append_assoc, wholeK_app s l _ _ (by omega), List.drop_append_of_le_length (by omega), ← List.append_assoc, dgOf_zeros]
  rfl
theorem Row.byte {w : World} {g : Nat} {xs : List Int} (h : Row w g 0 (byts xs)) (k j : Nat) (hj : j < 8) (hk : k * 8 + j < xs.length) : w.cell? ⟨g, k * 8 + j, none⟩ = some (.int .u8 (dgx (dgOf (xs.drop (k * 8))) j)) := by
  have := h.cell (k * 8 + j) (by rw [byts_length]; exact hk)
  rw [Nat.zero_add] at this
  rw [this, dgx_dgOf _ j hj]
  simp only [byts, List.getElem?_map, List.getD, List.getElem?_drop, List.getElem?_eq_getElem hk]
  rfl
set_option maxRecDepth 100000 in
set_option maxHeartbeats 2000000 in
theorem rbytes_any (s : St) (b off cap : Nat) (l : List Int) (n : Nat) (w : World) (hn : n = l.length) (h0 : 0 < n) (h1 : n ≤ 1000) (hcap : n ≤ cap) (hok : BytesOk l) (hr : Row w b off (byts l)) :
    Calls Tryz.prog 177 #[.agg s.cells, .slice (some ⟨b, off, none⟩) n cap] w fun e w' => e = .returned (.agg (bytesS s l).cells) ∧ Ext w w' := by
  have HN := Lib.hid hn
  have HO := Lib.hid hok
  have HR := Lib.hid hr
  clear hn hok hr
  have hx0 : Ext w _ := ((Kept.refl _ w).alloc (.cells s.cells 254)).alloc (.cells (St.cells ⟨0, 0, 0, 0⟩) 254)
  have hB0 : Blk _ w.heap.size 254 s.cells := Blk.alloc (Blk.new w _ _) (.cells (St.cells ⟨0, 0, 0, 0⟩) 254)
  have hR0 : Blk _ (w.heap.size + 1) 254 (St.cells ⟨0, 0, 0, 0⟩) := Blk.new' (w.alloc (.cells s.cells 254)) _ _ _ (by simp)
  go_enter Tryz.func177, Tryz.ntmps177
  go_upto_region 1 with (fail)
  generalize ((w.alloc (.cells #[.int .u64 s.a, .int .u64 s.b, .int .u64 s.c, .int .u64 s.d] 254)).alloc (.cells #[.int .u64 0, .int .u64 0, .int .u64 0, .int .u64 0] 254)) = W at hx0 hB0 hR0 ⊢
  have hW := hR0.lt
  have ho0 : (W.alloc (.cells #[] 5)).ownsRow W.heap.size 5 1 (.slice (some ⟨W.heap.size, 0, none⟩) 0 0) 0 (byts []) := World.ownsRow_made W #[] 0 (Nat.le_refl _) (by unfold maxLen; omega) rfl
  obtain ⟨v1, w1, hr1, ho1, hk1⟩ := appB _ _ _ _ [] ho0 b off n cap l HN.out ((HR.out.ext hx0).ext ((Kept.refl _ W).alloc _)) (by omega) (by simp)
  have hk1' : Ext W w1 := ((Kept.refl _ W).alloc _).trans' hk1 (fun i hi e => by simp [Value.ownBlock] at e; omega)
  rw [Nat.zero_add, List.nil_append] at ho1
  obtain ⟨g1, c1, rfl, hg1, hq1⟩ := own_some ho1 h0
  clear hq1
  obtain ⟨v2, w2, hr2, ho2, hk2⟩ := appB (w1.alloc (.cells #[.int .u8 1] 5)) _ _ _ l (ho1.alloc _) w1.heap.size 0 1 1 [1] rfl (Row.of_blk (Blk.new w1 _ _)) (by omega) (by have := hk1'.size; simp; omega)
  have hk2' : Ext W w2 := (hk1'.alloc _).trans' hk2 (fun i hi e => by simp [Value.ownBlock] at e; omega)
  obtain ⟨g2, c2, rfl, hg2, hrow2, hc2⟩ := own_some ho2 (by omega)
  clear ho0 hk1 hk2 hrow2 hc2
  go_step
  iterate 2 (refine wpList_step (fun K hK => ?_); go_simp; (try go_bits); refine hK _ _ ?_; clear hK K)
  refine wpList_app rfl (.tmp 9) (.tmp 10) 95 rfl rfl rfl rfl hr1 ?_
  (refine wpList_step (fun K hK => ?_); go_simp; (try go_bits); refine hK _ _ ?_; clear hK K)
  refine wpList_app rfl (.tmp 11) (.tmp 12) 95 rfl rfl rfl rfl hr2 ?_
  clear hr1 hr2 ho1 hg1
  go_wp2_with fail
  have hmod : n % 8 < 8 := Nat.mod_lt _ (by decide)
  obtain ⟨N, hN⟩ : ∃ N, N = (n / 8 + 1) * 8 := ⟨_, rfl⟩
  have hN1 : n + 1 ≤ N := by omega
  have hN2 : N ≤ 1008 := by omega
  have hN3 : N % 8 = 0 := by omega
  have hN4 : N < n + 9 := by omega
  have HNN := Lib.hid hN
  clear hN hmod
  have HN3 := Lib.hid hN3
  clear hN3
  go_loopw [5] (fun t5 wr => ∃ (j m g c : Nat), m = n + 1 + j ∧ m ≤ N ∧ t5 = .slice (some ⟨g, 0, none⟩) m c ∧ W.heap.size ≤ g ∧ wr.ownsRow W.heap.size 5 1 (.slice (some ⟨g, 0, none⟩) m c) m (byts (l ++ [1] ++ List.replicate j 0)) ∧ Ext W wr) (fun t5 _ => match t5 with | .slice _ m _ => N - m | _ => 0)
  case atStart => exact ⟨0, n + 1, g2, c2, rfl, hN1, rfl, hg2, by simpa using ho2, hk2'⟩
  case round =>
    obtain ⟨j, m, g, c, hmj, hmN, rfl, hg, ho, hx⟩ := hrel
    clear ho2 hk2'
    have HJ := Lib.hid hmj
    have hmb : n + 1 ≤ m := by omega
    clear hmj
    by_cases hlt : m = N
    · subst hlt
      have hq0 : (((m : Int) % 8) != 0) = false := by have := HN3.out; simp; omega
      obtain ⟨g', c', hv', _, hrow, hcc⟩ := own_some ho (by omega)
      have hlen := hcc.2.2
      obtain ⟨rfl, rfl⟩ : g = g' ∧ c = c' := by simpa using hv'
      clear hv' hcc
      generalize hxs : l ++ [1] ++ List.replicate j 0 = xs at ho hrow hlen
      have HXS := Lib.hid hxs
      have HLEN := Lib.hid hlen
      have HROW := Lib.hid hrow
      have hgl := hrow.lt
      clear hxs hlen hrow ho
      have hokx : BytesOk xs := by
        rw [← HXS.out]
        intro x hx
        rcases List.mem_append.1 hx with h | h
        · rcases List.mem_append.1 h with h | h
          · exact HO.out x h
          · simp at h; subst h; omega
        · have := List.eq_of_mem_replicate h; subst this; omega
      have HOX := Lib.hid hokx
      clear hokx
      go_wp2_with fail
      clear hq0
      have hBr := Blk.ext hB0 hx
      go_loopw [6] (fun i w5 => ∃ k : Nat, k * 8 ≤ m ∧ i = .int .i64 ((k : Int) * 8) ∧ Blk w5 w.heap.size 254 (wholeK s xs k).cells ∧ Kept (· = w.heap.size) wr w5) (fun i _ => m - (intOf i).toNat)
      case atStart => exact ⟨0, by omega, rfl, hBr, Kept.refl _ _⟩
      case round =>
        obtain ⟨k, hk, rfl, hb5, hx5⟩ := hrel
        clear hBr
        by_cases hlt : k * 8 < m
        · have hk8 : k * 8 + 8 ≤ m := by have := HN3.out; omega
          have hrow5 := HROW.out.kept hx5 (by omega)
          have hg5 := hrow5.lt
          obtain ⟨D, hD⟩ : ∃ D, D = dgOf (xs.drop (k * 8)) := ⟨_, rfl⟩
          have hc0 := hrow5.byte k 0 (by omega) (by rw [← HLEN.out]; omega)
          have hc1 := hrow5.byte k 1 (by omega) (by rw [← HLEN.out]; omega)
          have hc2 := hrow5.byte k 2 (by omega) (by rw [← HLEN.out]; omega)
          have hc3 := hrow5.byte k 3 (by omega) (by rw [← HLEN.out]; omega)
          have hc4 := hrow5.byte k 4 (by omega) (by rw [← HLEN.out]; omega)
          have hc5 := hrow5.byte k 5 (by omega) (by rw [← HLEN.out]; omega)
          have hc6 := hrow5.byte k 6 (by omega) (by rw [← HLEN.out]; omega)
          have hc7 := hrow5.byte k 7 (by omega) (by rw [← HLEN.out]; omega)
          rw [← hD] at hc0 hc1 hc2 hc3 hc4 hc5 hc6 hc7
          simp only [dgx, Nat.add_zero] at hc0 hc1 hc2 hc3 hc4 hc5 hc6 hc7
          have HDD := Lib.hid hD
          clear hD hrow5
          go_wp2_with fail
          refine wp_loop_rounds 9 ?_
          iterate 9 (rw [rounds_succ]; go_wp2_with fail)
          clear hc0 hc1 hc2 hc3 hc4 hc5 hc6 hc7
          have hD6 := Blk.new wr 23 D.cells
          have hb6 := Blk.alloc hb5 (.cells D.cells 23)
          have hx6 : Kept (· = w.heap.size) wr _ := (Kept.refl _ wr).alloc (.cells D.cells 23)
          generalize wr.alloc (.cells #[.int .u8 D.x0, .int .u8 D.x1, .int .u8 D.x2, .int .u8 D.x3, .int .u8 D.x4, .int .u8 D.x5, .int .u8 D.x6, .int .u8 D.x7] 23) = w6 at hD6 hb6 hx6 ⊢
          have hDok : D.ok := by rw [HDD.out]; exact dgOf_ok (HOX.out.drop _)
          have HDO := Lib.hid hDok
          clear hDok
          refine wp_region_3 (fun w1 => Ext w6 w1) [(0, 1), (1, 1), (2, 0), (3, 0), (4, 0)] (by kernel_rfl) (by kernel_rfl) (by kernel_rfl) (by kernel_rfl) ?_; intro l' hl'; simp only [List.map_cons, List.map_nil, List.getD_cons_zero, List.getD_cons_succ] at hl'; subst hl'
          (repeat (first | ((apply w3_pure); (· go_simp); (· (intro w1; go_simp; try with_reducible rfl)); (intro K hK; go_simp; refine hK _ _ ?_; clear hK K)) | ((apply w3_skip); (· go_simp); (intro K hK; go_simp; refine hK _ _ ?_; clear hK K)) | ((apply w3_take); (· exact (Kept.drew (Kept.refl _ _))); (· go_simp); (· (intro w1 hS; have d1 := Blk.ext hb6 hS; have hh := Blk.has d1; have hgg := Blk.gets d1; have d2 := Blk.ext hD6 hS; have hh2 := Blk.has d2; have hgg2 := Blk.gets d2;  go_simp; try with_reducible rfl)); (intro K hK; go_simp; refine hK _ _ ?_; clear hK K)) | ((apply w3_pass); (· exact (Kept.drew (Kept.refl _ _))); (· go_simp); (intro K hK; go_simp; refine hK _ _ ?_; clear hK K))))
          (refine w3_act (fun K hK => ?_); go_simp)
          go_wp2_with fail
          refine (rnum_any D HDO.out _).mono ?_
          rintro e w7 ⟨rfl, hx7⟩
          have y7 : Ext w6 w7 := ((Kept.refl _ w6).drew).trans hx7
          refine hK.out _ _ (fun _ => y7) ?_
          clear hK K
          (refine w3_act (fun K hK => ?_); go_simp)
          go_wp2_with fail
          refine (rin_any _ _ _).mono ?_
          rintro e w8 ⟨rfl, hx8⟩
          have y8 := y7.trans hx8
          refine hK.out _ _ (fun _ => y8) ?_
          clear hK K
          have hb8 := Blk.ext hb6 y8
          have hh8 := Blk.has hb8
          have hm8 := Blk.melts hb8
          (repeat (first | ((apply w3_pure); (· go_simp); (· (intro w1; go_simp; try with_reducible rfl)); (intro K hK; go_simp; refine hK _ _ ?_; clear hK K)) | ((apply w3_skip); (· go_simp); (intro K hK; go_simp; refine hK _ _ ?_; clear hK K)) | (refine w3_end (by kernel_rfl) (fun K hK => ?_); go_simp; refine hK.out _ _ ?_; clear hK K))); refine w3_nil ?_
          have hb9 := Blk.put_ hb8 0 (taken (wholeK s xs k) (numD D)).cells
          rw [splice_all' (by rfl)] at hb9
          have hfin : (taken (wholeK s xs k) (numD D)) = wholeK s xs (k + 1) := by rw [HDD.out]; rfl
          have HF := Lib.hid hfin
          clear hfin hD6
          go_wp2_with fail
          go_roundw
          case rel => exact ⟨k + 1, by omega, by go_num, HF.out ▸ hb9, Kept.putAt ((hx5.trans hx6).trans (Kept.ext y8)) _ _ _ (fun _ => rfl)⟩
          case measure => simp only [intOf]; omega
        · have hkm : k * 8 = m := by omega
          have hh5 := Blk.has hb5
          have hg5 := Blk.gets hb5
          have HKM := Lib.hid hkm
          clear hkm
          have hR5 := Blk.kept (Blk.ext hR0 hx) hx5 (by omega)
          go_wp2_with fail
          refine (rin_any _ _ _).mono ?_
          rintro e w6 ⟨rfl, hx6⟩
          have hR6 := Blk.ext hR5 hx6
          have hh6 := Blk.has hR6
          have hm6 := Blk.melts hR6
          go_wp2_with fail
          refine ret_cell Tryz.results177 rfl rfl aggRs (by exact sizeRs) (Blk.put_ hR6 _ _) ⟨?_, ?_⟩
          · have hk1 : k = l.length / 8 + 1 := by have := HKM.out; have := HNN.out; have := HN.out; omega
            unfold bytesS
            rw [← wholeK_pad s l j, ← hk1, HXS.out, ← HN.out]
            rfl
          · exact Kept.putAt (((hx0.trans hx).trans' hx5 (fun i hi e => by omega)).trans hx6) _ _ _ (fun h => by omega)
    · have hne : m % 8 ≠ 0 := by have := HNN.out; have := HN3.out; omega
      have hq : (((m : Int) % 8) != 0) = true := by simp; omega
      have hltN : m < N := by omega
      clear hlt hne
      obtain ⟨v3, w3, hr3, ho3, hk3⟩ := appB (wr.alloc (.cells #[.int .u8 0] 5)) _ _ _ _ (ho.alloc _) wr.heap.size 0 1 1 [0] rfl (Row.of_blk (Blk.new wr _ _)) (by omega) (by have := hx.size; simp; omega)
      have hk3' : Ext W w3 := (hx.alloc _).trans' hk3 (fun i hi e => by simp [Value.ownBlock] at e; omega)
      obtain ⟨g3, c3, rfl, hg3, hq3⟩ := own_some ho3 (by omega)
      clear hq3 hk3 ho
      go_upto_region 3 with (fail)
      go_step
      iterate 2 (refine wpList_step (fun K hK => ?_); go_simp; (try go_bits); refine hK _ _ ?_; clear hK K)
      refine wpList_app rfl (.tmp 18) (.tmp 19) 95 rfl rfl rfl rfl hr3 ?_
      clear hr3
      go_wp2_with fail
      go_roundw
      case rel => exact ⟨j + 1, m + 1, g3, c3, by have := HJ.out; omega, by omega, rfl, hg3, by rw [List.replicate_succ', ← List.append_assoc]; exact ho3, hk3'⟩
      case measure => simp; omega
set_option maxRecDepth 100000 in
set_option maxHeartbeats 400000 in
theorem rof_any (b off cap : Nat) (l : List Int) (n : Nat) (w : World) (hn : n = l.length) (h0 : 0 < n) (h1 : n ≤ 1000) (hcap : n ≤ cap) (hok : BytesOk l) (hr : Row w b off (byts l)) :
    Calls Tryz.prog 183 #[.slice (some ⟨b, off, none⟩) n cap] w fun e w' => e = .returned (.agg (hOf l).cells) ∧ Ext w w' := by
  have HN := Lib.hid hn
  have HO := Lib.hid hok
  have HR := Lib.hid hr
  clear hn hok hr
  have hx0 : Ext w _ := (Kept.refl _ w).alloc (.cells Dg.zero.cells 23)
  have hR0 := Blk.new w 23 Dg.zero.cells
  go_enter Tryz.func183, Tryz.ntmps183
  go_wp2_with fail
  refine (rbegin_any 1 _).mono ?_
  rintro e w1 ⟨rfl, hx1⟩
  go_wp2_with fail
  refine (rbytes_any (bg 1) b off cap l n _ HN.out h0 h1 hcap HO.out (HR.out.ext (hx0.trans hx1))).mono ?_
  rintro e w2 ⟨rfl, hx2⟩
  go_wp2_with fail
  refine (rout_any _ _).mono ?_
  rintro e w3 ⟨rfl, hx3⟩
  have hR3 := Blk.ext hR0 ((hx1.trans hx2).trans hx3)
  have hh3 := Blk.has hR3
  have hm3 := Blk.melts hR3
  go_wp2_with fail
  refine ret_cell Tryz.results183 rfl rfl aggArr8 (by exact sizeArr8) (Blk.put_ hR3 _ _) ⟨rfl, ?_⟩
  exact Kept.putAt (((hx0.trans hx1).trans hx2).trans hx3) _ _ _ (fun h => by omega)
end Go.Proofs.YtahljceanodhkaaGreatDoor
