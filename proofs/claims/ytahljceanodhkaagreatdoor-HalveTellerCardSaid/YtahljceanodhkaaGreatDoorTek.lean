/- Several texts joined: Do, Refn, Clo, Yd, Xb, Xc. -/
import Derived.Test.YtahljceanodhkaaGreatDoorTej
/- The walks of baizelaw23.same and do: what the program's trial and the document's tell. -/
namespace Go.Proofs.YtahljceanodhkaaGreatDoor
open Go.RowKit
/-- the program's trial that the document's is -/
abbrev Rt.tr (r : Rt) (p : Dg) (sz : Int) : Tr := ⟨r.from_, r.steps, r.ahead, r.behind, p, sz, r.turn, r.mid, r.won⟩
theorem tell_agree (r : Rt) (p : Dg) (sz : Int) (d : Dg) : askedE (r.tr p sz) 0 false = (r.tell d).2 ∧ tellT (r.tr p sz) d = (r.tell d).1.tr p sz := by
  unfold tellT askedE Rt.tell Rt.tr Rt.turn
  by_cases h : 0 ≤ r.won
  · simp [h]
  · cases ht : r.told
    · by_cases hs : r.steps = 1 <;> simp [h, ht, hs]
    · simp [h, ht]
theorem silence_agree (r : Rt) (p : Dg) (sz : Int) : silenceE (r.tr p sz) = r.silence.2 ∧ silenceT (r.tr p sz) = r.silence.1.tr p sz := by
  unfold silenceE silenceT Rt.silence Rt.tr Rt.turn
  by_cases h : 0 ≤ r.won
  · simp [h]
  · cases ht : r.told <;> simp [h]
theorem choose_agree {K : Nat} {m : Int} (r : Rt) (p : Dg) (sz : Int) (f : Bool) (hE : EInv K (r.tr p sz) m) : askedE (r.tr p sz) 1 false = (r.choose f).2 ∧ chooseT (r.tr p sz) f = (r.choose f).1.tr p sz := by
  obtain ⟨h0, hb, j, hj, hs, hc⟩ := hE
  dsimp only at h0 hb hs hc
  unfold chooseT askedE Rt.choose Rt.tr
  by_cases h : 0 ≤ r.won
  · simp [h, Rt.turn]
  · cases ht : r.told
    · simp [h, ht, Rt.turn]
    · have hj1 : 1 ≤ j := by
        rcases hc with ⟨hc, _⟩ | ⟨_, hc, _⟩ | ⟨hc, _⟩
        · simp [Rt.turn, h, ht] at hc
        · exact hc
        · simp [Rt.turn, h, ht] at hc
      have hp := pow_half hj1
      have hq := pow_pos' (j - 1)
      have hne : r.steps ≠ 1 := by omega
      have hh : r.steps - r.steps / 2 = r.steps / 2 := by omega
      cases f <;> simp [h, ht, hne, Rt.turn, hh]
theorem prove_agree {K : Nat} {m : Int} (r : Rt) (p : Dg) (sz e : Int) (he : e ≠ 0) (hE : EInv K (r.tr p sz) m) : (if askedE (r.tr p sz) 0 true = 0 then e else askedE (r.tr p sz) 0 true) = (r.prove e).2 ∧ (r.prove e).1 = r := by
  have hb := hE.bounds.2.2.1
  dsimp only at hb
  unfold askedE Rt.prove Rt.tr
  by_cases h : 0 ≤ r.won
  · simp [h, Rt.turn]
  · cases ht : r.told
    · by_cases hs : r.steps = 1
      · simp [h, ht, hs, Rt.turn, he]
      · have : 1 < r.steps := by omega
        simp [h, ht, hs, Rt.turn, this]
    · simp [h, ht, Rt.turn]
set_option maxRecDepth 100000 in
set_option maxHeartbeats 1000000 in
theorem same23_any (b : Nat) (r : Rt) (p : Dg) (sz : Int) (w : World) (ht : At w b (r.tr p sz)) (hw : r.won = -1 ∨ r.won = 0 ∨ r.won = 1) :
    Calls Tryz.prog 25 #[.pointer (some ⟨b, 0, none⟩), .agg r.cells] w fun e w' => e = .returned (.bool true) ∧ Ext w w' := by
  have HW := Lib.hid hw
  clear hw
  go_enter Tryz.func25, Tryz.ntmps25
  go_wp2_with fail
  have b0 := Blk.new w 49 r.cells
  refine (span_any b _ _ (Blk.alloc ht _)).mono ?_
  rintro e w2 ⟨rfl, hx2⟩
  have hl2 := hx2.size
  go_wp2_with fail
  have bA := Blk.new w2 30 r.ahead.cells
  have bB := Blk.new (w2.alloc (.cells r.ahead.cells 30)) 30 r.behind.cells
  refine (winner_any b _ _ (Blk.alloc (Blk.alloc (Blk.ext (Blk.alloc ht _) hx2) _) _)).mono ?_
  rintro e w3 ⟨rfl, hx3⟩
  have c0 := Blk.ext (Blk.alloc (Blk.alloc (Blk.ext b0 hx2) (.cells r.ahead.cells 30)) (.cells r.behind.cells 30)) hx3
  have cA := Blk.ext (Blk.alloc bA (.cells r.behind.cells 30)) hx3
  have cB := Blk.ext bB hx3
  simp only [World.size_alloc] at cB
  have cT := Blk.ext (Blk.alloc (Blk.alloc (Blk.ext (Blk.alloc ht (.cells r.cells 49)) hx2) (.cells r.ahead.cells 30)) (.cells r.behind.cells 30)) hx3
  clear b0 bA bB
  have hw : ((r.won != -1) = false ∧ decide (0 ≤ r.won) = false) ∨ ((r.won != -1) = true ∧ decide (0 ≤ r.won) = true) := by rcases HW.out with hw | hw | hw <;> simp [hw]
  clear HW
  rcases hw with ⟨hw1, hw2⟩ | ⟨hw1, hw2⟩
  all_goals
    go_wp2_with fail
    refine wp_region_3 (fun w1 => Ext w3 w1) [(0, 2), (1, 2), (2, 1), (3, 2), (4, 2), (5, 2), (6, 2), (7, 1), (8, 2), (9, 2), (10, 2), (11, 1), (12, 2), (13, 1), (14, 2), (15, 2), (16, 2), (17, 1), (18, 2), (19, 1), (20, 2), (21, 2), (22, 2), (23, 2), (25, 1), (24, 0), (26, 0), (27, 2), (28, 2), (29, 2), (30, 2), (31, 2), (32, 1), (33, 2), (34, 2), (35, 2), (36, 2), (37, 2), (38, 1), (39, 2), (40, 2), (41, 2), (42, 2)] (by kernel_rfl) (by kernel_rfl) (by kernel_rfl) (by kernel_rfl) ?_; intro l' hl'; simp only [List.map_cons, List.map_nil, List.getD_cons_zero, List.getD_cons_succ] at hl'; subst hl'
    (repeat (first | ((apply w3_pure); (· go_simp); (· (intro w1; go_simp; try with_reducible rfl)); (intro K hK; go_simp; refine hK _ _ ?_; clear hK K)) | ((apply w3_skip); (· go_simp); (intro K hK; go_simp; refine hK _ _ ?_; clear hK K)) | ((apply w3_take); (· exact (Kept.drew (Kept.refl _ _))); (· go_simp); (· (intro w1 hS; have d0 := Blk.ext c0 hS; have dA := Blk.ext cA hS; have dB := Blk.ext cB hS; have hh := Blk.has d0; have hc := Blk.cell d0; have hg := Blk.gets d0; have hhA := Blk.has dA; have hgA := Blk.gets dA; have hhB := Blk.has dB; have hgB := Blk.gets dB;  go_simp; try with_reducible rfl)); (intro K hK; go_simp; refine hK _ _ ?_; clear hK K)) | ((apply w3_pass); (· exact (Kept.drew (Kept.refl _ _))); (· go_simp); (intro K hK; go_simp; refine hK _ _ ?_; clear hK K))))
    (refine w3_act (fun K hK => ?_); go_simp)
    go_wp2_with fail
    refine (turn_any b _ _ (Blk.drew cT)).mono ?_
    rintro e w4 ⟨rfl, rfl⟩
    refine hK.out _ _ (fun h => h) ?_
    clear hK K
    (refine w3_act (fun K hK => ?_); go_simp)
    go_wp2_with fail
    refine (rturn_any r _).mono ?_
    rintro e w4 ⟨rfl, hx4⟩
    have hx4' : Ext w3 w4 := ((Kept.refl _ w3).drew).trans hx4
    refine hK.out _ _ (fun _ => hx4') ?_
    clear hK K
    (repeat (first | ((apply w3_pure); (· go_simp); (· (intro w1; go_simp; try with_reducible rfl)); (intro K hK; go_simp; refine hK _ _ ?_; clear hK K)) | ((apply w3_skip); (· go_simp); (intro K hK; go_simp; refine hK _ _ ?_; clear hK K)) | ((apply w3_take); (· exact hx4'); (· go_simp); (· (intro w1 hS; have d0 := Blk.ext c0 hS; have hc := Blk.cell d0;  go_simp; try with_reducible rfl)); (intro K hK; go_simp; refine hK _ _ ?_; clear hK K)) | ((apply w3_pass); (· exact hx4'); (· go_simp); (intro K hK; go_simp; refine hK _ _ ?_; clear hK K))))
    refine w3_nil ?_
    go_wp2
    go_ret
    refine ⟨rfl, ?_⟩
    exact ((((((Kept.refl _ w).alloc _).trans hx2).alloc _).alloc _).trans hx3).trans hx4'
theorem splice_all {cs vs : Array Value} (h : vs.size = cs.size) : splice cs 0 vs = vs := by
  unfold splice
  simp [h, List.drop_of_length_le]
set_option maxRecDepth 100000 in
set_option maxHeartbeats 2000000 in
theorem do_tell (b c : Nat) (hbc : ¬ b = c) (r r' : Rt) (k : Int) (p q : Dg) (sz sz' wh : Int) (x : Dg) (f : Bool) (u sl : Value) (w : World) (ht : At w b (r.tr p sz)) (hc : Blk w c 49 r.cells) (h0 : 0 ≤ wh) (h1 : wh ≤ 255) (hwh : (wh % 4 == 0) = true)
    (hp : ∀ w, At w b (r.tr p sz) → Calls Tryz.prog 15 #[.pointer (some ⟨b, 0, none⟩), .agg #[.int .u8 x.x0, .int .u8 x.x1, .int .u8 x.x2, .int .u8 x.x3, .int .u8 x.x4, .int .u8 x.x5, .int .u8 x.x6, .int .u8 x.x7]] w fun e w' => e = .returned (.int .i64 k) ∧ At w' b (r'.tr p sz) ∧ Kept (· = b) w w')
    (hr : ∀ w, Calls Tryz.prog 61 #[.agg r.cells, .agg #[.int .u8 x.x0, .int .u8 x.x1, .int .u8 x.x2, .int .u8 x.x3, .int .u8 x.x4, .int .u8 x.x5, .int .u8 x.x6, .int .u8 x.x7]] w fun e w' => e = .returned (.tuple #[.agg r'.cells, .int .i64 k]) ∧ Ext w w') (hw : r'.won = -1 ∨ r'.won = 0 ∨ r'.won = 1) :
    Calls Tryz.prog 24 #[.pointer (some ⟨b, 0, none⟩), .pointer (some ⟨c, 0, none⟩), .agg #[.int .u8 wh, .int .u8 x.x0, .int .u8 x.x1, .int .u8 x.x2, .int .u8 x.x3, .int .u8 x.x4, .int .u8 x.x5, .int .u8 x.x6, .int .u8 x.x7, .bool f, u], .agg #[.int .u8 q.x0, .int .u8 q.x1, .int .u8 q.x2, .int .u8 q.x3, .int .u8 q.x4, .int .u8 q.x5, .int .u8 q.x6, .int .u8 q.x7], .int .i64 sz', sl] w fun e w' => e = .returned (.bool true) ∧ At w' b (r'.tr p sz) ∧ Blk w' c 49 r'.cells ∧ Kept (fun i => i = b ∨ i = c) w w' := by
  have hbl := Blk.lt ht
  have hcl := Blk.lt hc
  have hcb : ¬ c = b := fun e => hbc e.symm
  have HP := Lib.hid hp
  have HR := Lib.hid hr
  have HW := Lib.hid hw
  clear hp hr hw
  go_enter Tryz.func24, Tryz.ntmps24
  go_wp2_with fail
  refine (HP.out _ (Blk.alloc (Blk.alloc ht _) _)).mono ?_
  rintro e w1 ⟨rfl, hA1, hx1⟩
  have hc1 : Blk w1 c 49 r.cells := Blk.kept (Blk.alloc (Blk.alloc hc (.cells #[.int .u8 wh, .int .u8 x.x0, .int .u8 x.x1, .int .u8 x.x2, .int .u8 x.x3, .int .u8 x.x4, .int .u8 x.x5, .int .u8 x.x6, .int .u8 x.x7, .bool f, u] 25)) (.cells #[.int .u8 q.x0, .int .u8 q.x1, .int .u8 q.x2, .int .u8 q.x3, .int .u8 q.x4, .int .u8 q.x5, .int .u8 q.x6, .int .u8 q.x7] 30)) hx1 hcb
  have hd1 : Blk w1 w.heap.size 25 #[.int .u8 wh, .int .u8 x.x0, .int .u8 x.x1, .int .u8 x.x2, .int .u8 x.x3, .int .u8 x.x4, .int .u8 x.x5, .int .u8 x.x6, .int .u8 x.x7, .bool f, u] := Blk.kept (Blk.alloc (Blk.new w _ _) (.cells #[.int .u8 q.x0, .int .u8 q.x1, .int .u8 q.x2, .int .u8 q.x3, .int .u8 q.x4, .int .u8 q.x5, .int .u8 q.x6, .int .u8 q.x7] 30)) hx1 (fun e => by omega)
  go_wp2_with fail
  refine wp_region_3 (fun w' => Ext w1 w') [(0, 2), (1, 2), (2, 2), (3, 1), (4, 2), (5, 1), (6, 0), (7, 2), (8, 2), (9, 2), (10, 2), (11, 0), (12, 2)] (by kernel_rfl) (by kernel_rfl) (by kernel_rfl) (by kernel_rfl) ?_; intro l' hl'; simp only [List.map_cons, List.map_nil, List.getD_cons_zero, List.getD_cons_succ] at hl'; subst hl'
  (repeat (first | ((apply w3_pure); (· go_simp); (· (intro w1; go_simp; try with_reducible rfl)); (intro K hK; go_simp; refine hK _ _ ?_; clear hK K)) | ((apply w3_skip); (· go_simp); (intro K hK; go_simp; refine hK _ _ ?_; clear hK K)) | ((apply w3_take); (· exact (Kept.drew (Kept.refl _ _))); (· go_simp); (· (intro w1 hS; have c1 := Blk.ext hc1 hS; have d1 := Blk.ext hd1 hS; have hh := Blk.has c1; have hg := Blk.gets c1; have hhd := Blk.has d1; have hgd := Blk.gets d1; have hcd := Blk.cell d1;  go_simp; try with_reducible rfl)); (intro K hK; go_simp; refine hK _ _ ?_; clear hK K)) | ((apply w3_pass); (· exact (Kept.drew (Kept.refl _ _))); (· go_simp); (intro K hK; go_simp; refine hK _ _ ?_; clear hK K))))
  (refine w3_act (fun K hK => ?_); go_simp)
  go_wp2_with fail
  refine (HR.out _).mono ?_
  rintro e w2 ⟨rfl, hx2⟩
  have hx2' : Ext w1 w2 := ((Kept.refl _ w1).drew).trans hx2
  refine hK.out _ _ (fun _ => hx2') ?_
  clear hK K
  have hc2 := Blk.ext hc1 hx2'
  have hh2 := Blk.has hc2
  have hm2 := Blk.melts hc2
  (repeat (first | ((apply w3_pure); (· go_simp); (· (intro w1; go_simp; try with_reducible rfl)); (intro K hK; go_simp; refine hK _ _ ?_; clear hK K)) | ((apply w3_skip); (· go_simp); (intro K hK; go_simp; refine hK _ _ ?_; clear hK K)) | (refine w3_end (by kernel_rfl) (fun K hK => ?_); go_simp; refine hK.out _ _ ?_; clear hK K))); refine w3_nil ?_
  have hA3 : At (putAt w2 c 0 r'.cells) b (r'.tr p sz) := Blk.putFar (Blk.ext hA1 hx2') hbc _ _
  have hc3 : Blk (putAt w2 c 0 r'.cells) c 49 r'.cells := by
    have := Blk.put_ hc2 0 r'.cells
    rwa [splice_all (by rfl)] at this
  have hh3 := Blk.has hc3
  have hg3 := Blk.gets hc3
  go_wp2_with fail
  refine (same23_any b r' p sz _ hA3 HW.out).mono ?_
  rintro e w4 ⟨rfl, hx4⟩
  go_wp2_with fail
  go_ret
  refine ⟨rfl, Blk.ext hA3 hx4, Blk.ext hc3 hx4, ?_⟩
  have k1 : Kept (fun i => i = b ∨ i = c) w w1 := (((Kept.refl _ w).alloc _).alloc _).trans' hx1 (fun i _ e => .inl e)
  have k2 := k1.trans (Kept.ext hx2')
  have k3 := Kept.putAt k2 c 0 r'.cells (fun _ => .inr rfl)
  exact k3.trans (Kept.ext hx4)
set_option maxRecDepth 100000 in
set_option maxHeartbeats 2000000 in
theorem do_choose (b c : Nat) (hbc : ¬ b = c) (r r' : Rt) (k : Int) (p q : Dg) (sz sz' wh : Int) (x : Dg) (f : Bool) (u sl : Value) (w : World) (ht : At w b (r.tr p sz)) (hc : Blk w c 49 r.cells) (h0 : 0 ≤ wh) (h1 : wh ≤ 255) (hwh : (wh % 4 == 1) = true)
    (hp : ∀ w, At w b (r.tr p sz) → Calls Tryz.prog 16 #[.pointer (some ⟨b, 0, none⟩), .bool f] w fun e w' => e = .returned (.int .i64 k) ∧ At w' b (r'.tr p sz) ∧ Kept (· = b) w w')
    (hr : ∀ w, Calls Tryz.prog 62 #[.agg r.cells, .bool f] w fun e w' => e = .returned (.tuple #[.agg r'.cells, .int .i64 k]) ∧ Ext w w') (hw : r'.won = -1 ∨ r'.won = 0 ∨ r'.won = 1) :
    Calls Tryz.prog 24 #[.pointer (some ⟨b, 0, none⟩), .pointer (some ⟨c, 0, none⟩), .agg #[.int .u8 wh, .int .u8 x.x0, .int .u8 x.x1, .int .u8 x.x2, .int .u8 x.x3, .int .u8 x.x4, .int .u8 x.x5, .int .u8 x.x6, .int .u8 x.x7, .bool f, u], .agg #[.int .u8 q.x0, .int .u8 q.x1, .int .u8 q.x2, .int .u8 q.x3, .int .u8 q.x4, .int .u8 q.x5, .int .u8 q.x6, .int .u8 q.x7], .int .i64 sz', sl] w fun e w' => e = .returned (.bool true) ∧ At w' b (r'.tr p sz) ∧ Blk w' c 49 r'.cells ∧ Kept (fun i => i = b ∨ i = c) w w' := by
  have hbl := Blk.lt ht
  have hcl := Blk.lt hc
  have hcb : ¬ c = b := fun e => hbc e.symm
  have HP := Lib.hid hp
  have HR := Lib.hid hr
  have HW := Lib.hid hw
  clear hp hr hw
  have q0 : (wh % 4 == 0) = false := by simp at hwh ⊢; omega
  go_enter Tryz.func24, Tryz.ntmps24
  go_wp2_with fail
  refine (HP.out _ (Blk.alloc (Blk.alloc ht _) _)).mono ?_
  rintro e w1 ⟨rfl, hA1, hx1⟩
  have hc1 : Blk w1 c 49 r.cells := Blk.kept (Blk.alloc (Blk.alloc hc (.cells #[.int .u8 wh, .int .u8 x.x0, .int .u8 x.x1, .int .u8 x.x2, .int .u8 x.x3, .int .u8 x.x4, .int .u8 x.x5, .int .u8 x.x6, .int .u8 x.x7, .bool f, u] 25)) (.cells #[.int .u8 q.x0, .int .u8 q.x1, .int .u8 q.x2, .int .u8 q.x3, .int .u8 q.x4, .int .u8 q.x5, .int .u8 q.x6, .int .u8 q.x7] 30)) hx1 hcb
  have hd1 : Blk w1 w.heap.size 25 #[.int .u8 wh, .int .u8 x.x0, .int .u8 x.x1, .int .u8 x.x2, .int .u8 x.x3, .int .u8 x.x4, .int .u8 x.x5, .int .u8 x.x6, .int .u8 x.x7, .bool f, u] := Blk.kept (Blk.alloc (Blk.new w _ _) (.cells #[.int .u8 q.x0, .int .u8 q.x1, .int .u8 q.x2, .int .u8 q.x3, .int .u8 q.x4, .int .u8 q.x5, .int .u8 q.x6, .int .u8 q.x7] 30)) hx1 (fun e => by omega)
  go_wp2_with fail
  refine wp_region_3 (fun w' => Ext w1 w') [(0, 2), (1, 2), (2, 2), (3, 1), (4, 2), (5, 1), (6, 0), (7, 2), (8, 2), (9, 2), (10, 2), (11, 0), (12, 2)] (by kernel_rfl) (by kernel_rfl) (by kernel_rfl) (by kernel_rfl) ?_; intro l' hl'; simp only [List.map_cons, List.map_nil, List.getD_cons_zero, List.getD_cons_succ] at hl'; subst hl'
  (repeat (first | ((apply w3_pure); (· go_simp); (· (intro w1; go_simp; try with_reducible rfl)); (intro K hK; go_simp; refine hK _ _ ?_; clear hK K)) | ((apply w3_skip); (· go_simp); (intro K hK; go_simp; refine hK _ _ ?_; clear hK K)) | ((apply w3_take); (· exact (Kept.drew (Kept.refl _ _))); (· go_simp); (· (intro w1 hS; have c1 := Blk.ext hc1 hS; have d1 := Blk.ext hd1 hS; have hh := Blk.has c1; have hg := Blk.gets c1; have hhd := Blk.has d1; have hgd := Blk.gets d1; have hcd := Blk.cell d1;  go_simp; try with_reducible rfl)); (intro K hK; go_simp; refine hK _ _ ?_; clear hK K)) | ((apply w3_pass); (· exact (Kept.drew (Kept.refl _ _))); (· go_simp); (intro K hK; go_simp; refine hK _ _ ?_; clear hK K))))
  (refine w3_act (fun K hK => ?_); go_simp)
  go_wp2_with fail
  refine (HR.out _).mono ?_
  rintro e w2 ⟨rfl, hx2⟩
  have hx2' : Ext w1 w2 := ((Kept.refl _ w1).drew).trans hx2
  refine hK.out _ _ (fun _ => hx2') ?_
  clear hK K
  have hc2 := Blk.ext hc1 hx2'
  have hh2 := Blk.has hc2
  have hm2 := Blk.melts hc2
  (repeat (first | ((apply w3_pure); (· go_simp); (· (intro w1; go_simp; try with_reducible rfl)); (intro K hK; go_simp; refine hK _ _ ?_; clear hK K)) | ((apply w3_skip); (· go_simp); (intro K hK; go_simp; refine hK _ _ ?_; clear hK K)) | (refine w3_end (by kernel_rfl) (fun K hK => ?_); go_simp; refine hK.out _ _ ?_; clear hK K))); refine w3_nil ?_
  have hA3 : At (putAt w2 c 0 r'.cells) b (r'.tr p sz) := Blk.putFar (Blk.ext hA1 hx2') hbc _ _
  have hc3 : Blk (putAt w2 c 0 r'.cells) c 49 r'.cells := by
    have := Blk.put_ hc2 0 r'.cells
    rwa [splice_all (by rfl)] at this
  have hh3 := Blk.has hc3
  have hg3 := Blk.gets hc3
  go_wp2_with fail
  refine (same23_any b r' p sz _ hA3 HW.out).mono ?_
  rintro e w4 ⟨rfl, hx4⟩
  go_wp2_with fail
  go_ret
  refine ⟨rfl, Blk.ext hA3 hx4, Blk.ext hc3 hx4, ?_⟩
  have k1 : Kept (fun i => i = b ∨ i = c) w w1 := (((Kept.refl _ w).alloc _).alloc _).trans' hx1 (fun i _ e => .inl e)
  have k2 := k1.trans (Kept.ext hx2')
  have k3 := Kept.putAt k2 c 0 r'.cells (fun _ => .inr rfl)
  exact k3.trans (Kept.ext hx4)
set_option maxRecDepth 100000 in
set_option maxHeartbeats 2000000 in
theorem do_silence (b c : Nat) (hbc : ¬ b = c) (r r' : Rt) (k : Int) (p q : Dg) (sz sz' wh : Int) (x : Dg) (f : Bool) (u sl : Value) (w : World) (ht : At w b (r.tr p sz)) (hc : Blk w c 49 r.cells) (h0 : 0 ≤ wh) (h1 : wh ≤ 255) (hwh : (wh % 4 == 3) = true)
    (hp : ∀ w, At w b (r.tr p sz) → Calls Tryz.prog 18 #[.pointer (some ⟨b, 0, none⟩)] w fun e w' => e = .returned (.int .i64 k) ∧ At w' b (r'.tr p sz) ∧ Kept (· = b) w w')
    (hr : ∀ w, Calls Tryz.prog 64 #[.agg r.cells] w fun e w' => e = .returned (.tuple #[.agg r'.cells, .int .i64 k]) ∧ Ext w w') (hw : r'.won = -1 ∨ r'.won = 0 ∨ r'.won = 1) :
    Calls Tryz.prog 24 #[.pointer (some ⟨b, 0, none⟩), .pointer (some ⟨c, 0, none⟩), .agg #[.int .u8 wh, .int .u8 x.x0, .int .u8 x.x1, .int .u8 x.x2, .int .u8 x.x3, .int .u8 x.x4, .int .u8 x.x5, .int .u8 x.x6, .int .u8 x.x7, .bool f, u], .agg #[.int .u8 q.x0, .int .u8 q.x1, .int .u8 q.x2, .int .u8 q.x3, .int .u8 q.x4, .int .u8 q.x5, .int .u8 q.x6, .int .u8 q.x7], .int .i64 sz', sl] w fun e w' => e = .returned (.bool true) ∧ At w' b (r'.tr p sz) ∧ Blk w' c 49 r'.cells ∧ Kept (fun i => i = b ∨ i = c) w w' := by
  have hbl := Blk.lt ht
  have hcl := Blk.lt hc
  have hcb : ¬ c = b := fun e => hbc e.symm
  have HP := Lib.hid hp
  have HR := Lib.hid hr
  have HW := Lib.hid hw
  clear hp hr hw
  have q0 : (wh % 4 == 0) = false := by simp at hwh ⊢; omega
  have q1 : (wh % 4 == 1) = false := by simp at hwh ⊢; omega
  have q2 : (wh % 4 == 2) = false := by simp at hwh ⊢; omega
  go_enter Tryz.func24, Tryz.ntmps24
  go_wp2_with fail
  refine (HP.out _ (Blk.alloc (Blk.alloc ht _) _)).mono ?_
  rintro e w1 ⟨rfl, hA1, hx1⟩
  have hc1 : Blk w1 c 49 r.cells := Blk.kept (Blk.alloc (Blk.alloc hc (.cells #[.int .u8 wh, .int .u8 x.x0, .int .u8 x.x1, .int .u8 x.x2, .int .u8 x.x3, .int .u8 x.x4, .int .u8 x.x5, .int .u8 x.x6, .int .u8 x.x7, .bool f, u] 25)) (.cells #[.int .u8 q.x0, .int .u8 q.x1, .int .u8 q.x2, .int .u8 q.x3, .int .u8 q.x4, .int .u8 q.x5, .int .u8 q.x6, .int .u8 q.x7] 30)) hx1 hcb
  have hd1 : Blk w1 w.heap.size 25 #[.int .u8 wh, .int .u8 x.x0, .int .u8 x.x1, .int .u8 x.x2, .int .u8 x.x3, .int .u8 x.x4, .int .u8 x.x5, .int .u8 x.x6, .int .u8 x.x7, .bool f, u] := Blk.kept (Blk.alloc (Blk.new w _ _) (.cells #[.int .u8 q.x0, .int .u8 q.x1, .int .u8 q.x2, .int .u8 q.x3, .int .u8 q.x4, .int .u8 q.x5, .int .u8 q.x6, .int .u8 q.x7] 30)) hx1 (fun e => by omega)
  have c1 := Blk.has hc1
  have g1 := Blk.gets hc1
  have dh1 := Blk.has hd1
  have dg1 := Blk.gets hd1
  have dc1 := Blk.cell hd1
  go_wp2_with fail
  refine (HR.out _).mono ?_
  rintro e w2 ⟨rfl, hx2⟩
  have hx2' : Ext w1 w2 := hx2
  have hc2 := Blk.ext hc1 hx2'
  have hh2 := Blk.has hc2
  have hm2 := Blk.melts hc2
  have hA3 : At (putAt w2 c 0 r'.cells) b (r'.tr p sz) := Blk.putFar (Blk.ext hA1 hx2') hbc _ _
  have hc3 : Blk (putAt w2 c 0 r'.cells) c 49 r'.cells := by
    have := Blk.put_ hc2 0 r'.cells
    rwa [splice_all (by rfl)] at this
  have hh3 := Blk.has hc3
  have hg3 := Blk.gets hc3
  go_wp2_with fail
  refine (same23_any b r' p sz _ hA3 HW.out).mono ?_
  rintro e w4 ⟨rfl, hx4⟩
  go_wp2_with fail
  go_ret
  refine ⟨rfl, Blk.ext hA3 hx4, Blk.ext hc3 hx4, ?_⟩
  have k1 : Kept (fun i => i = b ∨ i = c) w w1 := (((Kept.refl _ w).alloc _).alloc _).trans' hx1 (fun i _ e => .inl e)
  have k2 := k1.trans (Kept.ext hx2')
  have k3 := Kept.putAt k2 c 0 r'.cells (fun _ => .inr rfl)
  exact k3.trans (Kept.ext hx4)
set_option maxRecDepth 100000 in
set_option maxHeartbeats 2000000 in
theorem do_prove0 (b c : Nat) (hbc : ¬ b = c) (r : Rt) (k : Int) (p q : Dg) (sz sz' wh : Int) (x : Dg) (f : Bool) (u : Value) (w : World) (ht : At w b (r.tr p sz)) (hc : Blk w c 49 r.cells) (h0 : 0 ≤ wh) (h1 : wh ≤ 255) (hwh : (wh % 4 == 2) = true) (hs1 : 1 ≤ sz') (hs2 : sz' ≤ 2048)
    (hp : ∀ w, At w b (r.tr p sz) → Calls Tryz.prog 21 #[.pointer (some ⟨b, 0, none⟩), .agg zeroStep] w fun e w' => e = .returned (.int .i64 k) ∧ At w' b (r.tr p sz) ∧ Kept (· = b) w w')
    (hr : ∀ w, Calls Tryz.prog 63 #[.agg r.cells, .int .i64 2] w fun e w' => e = .returned (.tuple #[.agg r.cells, .int .i64 k]) ∧ Ext w w') (hw : r.won = -1 ∨ r.won = 0 ∨ r.won = 1) :
    Calls Tryz.prog 24 #[.pointer (some ⟨b, 0, none⟩), .pointer (some ⟨c, 0, none⟩), .agg #[.int .u8 wh, .int .u8 x.x0, .int .u8 x.x1, .int .u8 x.x2, .int .u8 x.x3, .int .u8 x.x4, .int .u8 x.x5, .int .u8 x.x6, .int .u8 x.x7, .bool f, u], .agg #[.int .u8 q.x0, .int .u8 q.x1, .int .u8 q.x2, .int .u8 q.x3, .int .u8 q.x4, .int .u8 q.x5, .int .u8 q.x6, .int .u8 q.x7], .int .i64 sz', .slice none 0 0] w fun e w' => e = .returned (.bool true) ∧ At w' b (r.tr p sz) ∧ Blk w' c 49 r.cells ∧ Kept (fun i => i = b ∨ i = c) w w' := by
  have hbl := Blk.lt ht
  have hcl := Blk.lt hc
  have hcb : ¬ c = b := fun e => hbc e.symm
  have HP := Lib.hid hp
  have HR := Lib.hid hr
  have HW := Lib.hid hw
  clear hp hr hw
  have q0 : (wh % 4 == 0) = false := by simp at hwh ⊢; omega
  have q1 : (wh % 4 == 1) = false := by simp at hwh ⊢; omega
  go_enter Tryz.func24, Tryz.ntmps24
  go_wp2_with fail
  refine (HP.out _ (Blk.alloc (Blk.alloc (Blk.alloc ht _) _) _)).mono ?_
  rintro e w1 ⟨rfl, hA1, hx1⟩
  have hc1 : Blk w1 c 49 r.cells := Blk.kept (Blk.alloc (Blk.alloc (Blk.alloc hc (.cells #[.int .u8 wh, .int .u8 x.x0, .int .u8 x.x1, .int .u8 x.x2, .int .u8 x.x3, .int .u8 x.x4, .int .u8 x.x5, .int .u8 x.x6, .int .u8 x.x7, .bool f, u] 25)) (.cells #[.int .u8 q.x0, .int .u8 q.x1, .int .u8 q.x2, .int .u8 q.x3, .int .u8 q.x4, .int .u8 q.x5, .int .u8 q.x6, .int .u8 q.x7] 30)) (.cells zeroStep 45)) hx1 hcb
  have hq1 : Blk w1 (w.heap.size + 1) 30 q.cells := Blk.kept (Blk.alloc (Blk.new' (w.alloc (.cells #[.int .u8 wh, .int .u8 x.x0, .int .u8 x.x1, .int .u8 x.x2, .int .u8 x.x3, .int .u8 x.x4, .int .u8 x.x5, .int .u8 x.x6, .int .u8 x.x7, .bool f, u] 25)) _ _ _ (by simp)) (.cells zeroStep 45)) hx1 (fun e => by omega)
  have hs1 : Blk w1 (w.heap.size + 1 + 1) 45 zeroStep := Blk.kept (Blk.new' ((w.alloc (.cells #[.int .u8 wh, .int .u8 x.x0, .int .u8 x.x1, .int .u8 x.x2, .int .u8 x.x3, .int .u8 x.x4, .int .u8 x.x5, .int .u8 x.x6, .int .u8 x.x7, .bool f, u] 25)).alloc (.cells #[.int .u8 q.x0, .int .u8 q.x1, .int .u8 q.x2, .int .u8 q.x3, .int .u8 q.x4, .int .u8 q.x5, .int .u8 q.x6, .int .u8 q.x7] 30)) _ _ _ (by simp)) hx1 (fun e => by omega)
  go_wp2_with fail
  refine wp_region_3 (fun w' => Ext w1 w') [(0, 1), (1, 2), (2, 2), (3, 2), (4, 2), (5, 1), (6, 2), (7, 2), (8, 2), (9, 1), (10, 1), (11, 0), (12, 2)] (by kernel_rfl) (by kernel_rfl) (by kernel_rfl) (by kernel_rfl) ?_; intro l' hl'; simp only [List.map_cons, List.map_nil, List.getD_cons_zero, List.getD_cons_succ] at hl'; subst hl'
  (repeat (first | ((apply w3_pure); (· go_simp); (· (intro w1; go_simp; try with_reducible rfl)); (intro K hK; go_simp; refine hK _ _ ?_; clear hK K)) | ((apply w3_skip); (· go_simp); (intro K hK; go_simp; refine hK _ _ ?_; clear hK K)) | ((apply w3_take); (· exact (Kept.drew (Kept.refl _ _))); (· go_simp); (· (intro w1 hS; have c1 := Blk.ext hc1 hS; have d1 := Blk.ext hq1 hS; have e1 := Blk.ext hs1 hS; have hh := Blk.has c1; have hg := Blk.gets c1; have hhd := Blk.has d1; have hgd := Blk.gets d1; have hhe := Blk.has e1; have hge := Blk.gets e1;  go_simp; try with_reducible rfl)); (intro K hK; go_simp; refine hK _ _ ?_; clear hK K)) | ((apply w3_pass); (· exact (Kept.drew (Kept.refl _ _))); (· go_simp); (intro K hK; go_simp; refine hK _ _ ?_; clear hK K))))
  (refine w3_act (fun K hK => ?_); go_simp)
  go_wp2_with fail
  refine (check0 q r.ahead r.behind _ _ (by omega) (by omega)).mono ?_
  rintro e w2 ⟨rfl, hx2⟩
  have hx2' : Ext w1 w2 := ((Kept.refl _ w1).drew).trans hx2
  refine hK.out _ _ (fun _ => hx2') ?_
  clear hK K
  (repeat (first | ((apply w3_pure); (· go_simp); (· (intro w1; go_simp; try with_reducible rfl)); (intro K hK; go_simp; refine hK _ _ ?_; clear hK K)) | ((apply w3_skip); (· go_simp); (intro K hK; go_simp; refine hK _ _ ?_; clear hK K)) | (refine w3_end (by kernel_rfl) (fun K hK => ?_); go_simp; refine hK.out _ _ ?_; clear hK K))); refine w3_nil ?_
  have hc2 := Blk.ext hc1 hx2'
  have hh2 := Blk.has hc2
  have hg2 := Blk.gets hc2
  go_wp2_with fail
  refine (HR.out _).mono ?_
  rintro e w3 ⟨rfl, hx3⟩
  have hc3 := Blk.ext hc2 hx3
  have hh3 := Blk.has hc3
  have hm3 := Blk.melts hc3
  go_wp2_with fail
  have hA4 : At (putAt w3 c 0 r.cells) b (r.tr p sz) := Blk.putFar (Blk.ext (Blk.ext hA1 hx2') hx3) hbc _ _
  have hc4 : Blk (putAt w3 c 0 r.cells) c 49 r.cells := by
    have := Blk.put_ hc3 0 r.cells
    rwa [splice_all (by rfl)] at this
  refine (same23_any b r p sz _ hA4 HW.out).mono ?_
  rintro e w5 ⟨rfl, hx5⟩
  go_wp2_with fail
  go_ret
  refine ⟨rfl, Blk.ext hA4 hx5, Blk.ext hc4 hx5, ?_⟩
  have k1 : Kept (fun i => i = b ∨ i = c) w w1 := ((((Kept.refl _ w).alloc _).alloc _).alloc _).trans' hx1 (fun i _ e => .inl e)
  have k2 := (k1.trans (Kept.ext hx2')).trans (Kept.ext hx3)
  have k3 := Kept.putAt k2 c 0 r.cells (fun _ => .inr rfl)
  exact k3.trans (Kept.ext hx5)
end Go.Proofs.YtahljceanodhkaaGreatDoor

/- The walk of baizeref23.New. -/
namespace Go.Proofs.YtahljceanodhkaaGreatDoor
open Go.RowKit
set_option maxHeartbeats 1000000 in
theorem rnew_ok (a z : Dg) (sz k : Int) (hk : 0 ≤ k) (hk2 : k ≤ 20) (hs : 1 ≤ sz) (hs2 : sz ≤ 2048) (w : World) :
    Calls Tryz.prog 23 #[.int .i64 sz, .int .i64 k, .agg #[.int .u8 a.x0, .int .u8 a.x1, .int .u8 a.x2, .int .u8 a.x3, .int .u8 a.x4, .int .u8 a.x5, .int .u8 a.x6, .int .u8 a.x7], .agg #[.int .u8 z.x0, .int .u8 z.x1, .int .u8 z.x2, .int .u8 z.x3, .int .u8 z.x4, .int .u8 z.x5, .int .u8 z.x6, .int .u8 z.x7]] w fun e w' => e = .returned (.tuple #[.agg (Rt.cells ⟨0, 2 ^ k.toNat, a, z, false, Dg.zero, -1⟩), .bool true]) ∧ Ext w w' := by
  go_enter Tryz.func23, Tryz.ntmps23
  go_wp2
  go_loop [10, 11] (fun n i => ∃ j : Nat, (j : Int) ≤ k ∧ i = .int .i64 j ∧ n = .int .i64 (2 ^ j)) (fun _ i => (k - intOf i).toNat)
  case atStart => exact ⟨0, by omega, rfl, rfl⟩
  case round =>
    obtain ⟨j, hj, rfl, rfl⟩ := hrel
    have hp := pow2_le (n := j) (by omega)
    by_cases hlt : (j : Int) < k
    · go_wp2
      go_round
      case rel => exact ⟨j + 1, by omega, by go_num, by rw [Int.pow_succ, Int.mul_comm]⟩
      case measure => simp [intOf]; omega
    · have hjk : j = k.toNat := by omega
      have HJ := Lib.hid hjk
      clear hjk
      go_wp2
      refine ret_ci Tryz.results23 rfl rfl aggRt (by exact sizeRt) (Blk.new' _ _ _ _ (by simp)) ⟨by rw [← HJ.out]; rfl, ?_⟩
      ((repeat' (with_reducible (first | apply Kept.drew | apply Kept.drewN | apply Kept.alloc | apply Kept.setCell | apply Kept.putAt | exact Kept.refl _ _))) <;> (intro hlt; first | rfl | (simp at hlt; done) | (exfalso; simp at hlt; omega) | omega))
end Go.Proofs.YtahljceanodhkaaGreatDoor

/- The law HalveClone of layer 23: its walk. -/
namespace Go.Proofs.YtahljceanodhkaaGreatDoor
open Go.RowKit Go.Deep Go.ChangeShapes Go.WideShapes
theorem aggDeed : aggT Tryz.prog 25 = true := by kernel_rfl
theorem sizeDeed : sizeT Tryz.prog 25 = some 11 := by kernel_rfl
theorem wpLoadDeed {dst : Option Tmp} {ty' : TypeId} {x : Operand} {pos : String} {after : Array Edge} {guard : Option (Nat × Bool)} {a : Act} {w : World} {K : Act → World → Prop} {Q : Exit → Act → World → Prop} (hx : isAt (a.eval x) = true) (hh : has w (blkOf (a.eval x)) (offOf (a.eval x)) 11 = true) :
    Oper.wp Tryz.prog { dst := dst, op := .load 25 x, type := ty', pos := pos, after := after, guard := guard } a w K Q = K (a.put dst (.agg (gets w (blkOf (a.eval x)) (offOf (a.eval x)) 11))) w := wp_load_big 11 aggDeed sizeDeed hx hh
theorem runLoadDeed {ρ : Operand → Value} {dst : Option Tmp} {ty' : TypeId} {x : Operand} {pos : String} {after : Array Edge} {guard : Option (Nat × Bool)} {w : World} (hx : isAt (ρ x) = true) (hh : has w (blkOf (ρ x)) (offOf (ρ x)) 11 = true) :
    (execOp ρ { dst := dst, op := .load 25 x, type := ty', pos := pos, after := after, guard := guard }).run Tryz.prog w = .ok (.value (.agg (gets w (blkOf (ρ x)) (offOf (ρ x)) 11))) w := run_exec_load_big 11 aggDeed sizeDeed hx hh
theorem loadVarDeed (w : World) (g off : Nat) (hh : has w g off 11 = true) : (loadVar 25 ⟨g, off, none⟩).run Tryz.prog w = .ok (.agg (gets w g off 11)) w := run_loadVar_big Tryz.prog w _ g off 11 aggDeed sizeDeed hh
attribute [go_sem] aggDeed sizeDeed
attribute [go_sem ↓ high] wpLoadDeed loadVarDeed runLoadDeed
attribute [go_sem high] wpLoadDeed
abbrev deedCells (wh : Int) (x : Dg) (f : Bool) (u : Value) : Array Value := #[.int .u8 wh, .int .u8 x.x0, .int .u8 x.x1, .int .u8 x.x2, .int .u8 x.x3, .int .u8 x.x4, .int .u8 x.x5, .int .u8 x.x6, .int .u8 x.x7, .bool f, u]
attribute [go_sem] deedCells
/-- Deeds in memory, each whole. -/
structure Deeds11 (w : World) (b off len : Nat) (what : Nat → Int) (dg : Nat → Dg) (first : Nat → Bool) (last : Nat → Value) : Prop where
  has_ : ∀ i, i < len → has w b (off + i * 11) 11 = true
  get_ : ∀ i, i < len → gets w b (off + i * 11) 11 = deedCells (what i) (dg i) (first i) (last i)
  whatR : ∀ i, i < len → 0 ≤ what i ∧ what i ≤ 255
  lt : 0 < len → b < w.heap.size
theorem Deeds11.keep {w w' : World} {b off len : Nat} {what : Nat → Int} {dg : Nat → Dg} {first : Nat → Bool} {last : Nat → Value} (h : Deeds11 w b off len what dg first last) (hk : Ext w w') : Deeds11 w' b off len what dg first last := by
  have hb : 0 < len → w'.heap[b]? = w.heap[b]? := fun hl => hk.block b (h.lt hl) (fun f => f)
  refine ⟨fun i hi => ?_, fun i hi => ?_, h.whatR, fun hl => Nat.lt_of_lt_of_le (h.lt hl) hk.size⟩
  · have := h.has_ i hi; unfold has at this ⊢; rw [hb (by omega)]; exact this
  · have := h.get_ i hi; unfold gets at this ⊢; rw [hb (by omega)]; exact this
section
variable {H : Type} {enc : TypeId × Value → H} {w : World} {base : Nat} {spare : Nat → Bool} {held : Bool}
set_option maxRecDepth 100000 in
theorem deeds11_of {fuel : Nat} {v : Value} {x : DataW H × List MemPlace} (h : DataW.trod enc Tryz.prog w base spare held fuel 22 [v] = some x) :
    ∃ (A : Option Addr) (b off len cap : Nat) (what : Nat → Int) (dg : Nat → Dg) (first : Nat → Bool) (last : Nat → Value), v = .slice A len cap ∧ (0 < len → A = some ⟨b, off, none⟩) ∧ Deeds11 w b off len what dg first last ∧ len ≤ maxLen := by
  rcases open_slice Tryz.underlying22 h with ⟨hcs, _⟩ | ⟨a, len, cap, m, n, D', Pl, hcs, _, hl, hm, hmm, _, hi⟩
  · simp at hcs
    exact ⟨none, 0, 0, 0, 0, fun _ => 0, fun _ => Dg.zero, fun _ => false, fun _ => .bool false, hcs, fun h => by omega, ⟨fun _ h => by omega, fun _ h => by omega, fun _ h => by omega, fun h => by omega⟩, by simp [maxLen]⟩
  · simp at hcs
    have hlm : len ≤ m := by rw [hmm]; split <;> omega
    have hsp : 0 < len → a = ⟨a.block, a.off, none⟩ ∧ a.block < w.heap.size := fun h0 => by
      obtain ⟨cs', hc, ht⟩ := hi 0 (by omega)
      obtain ⟨_, hcl, hat⟩ := World.cells?_some hc
      rw [cellsDeed] at hcl hat
      have h0' := hat 0 (by omega)
      rw [List.getElem?_eq_getElem (by omega)] at h0'
      have e : (a.add (0 * 11)).add 0 = a := by simp [Addr.add]
      rw [e] at h0'
      refine ⟨?_, block_lt_of_cell h0'⟩
      have := spot_of_cell h0'
      cases a; simp_all
    have hcell : ∀ i, i < len → ∃ (q : Int × Dg × Bool × Value), 0 ≤ q.1 ∧ q.1 ≤ 255 ∧ has w a.block (a.off + i * 11) 11 = true ∧ gets w a.block (a.off + i * 11) 11 = deedCells q.1 q.2.1 q.2.2.1 q.2.2.2 := fun i hil => by
      obtain ⟨cs', hc, ht⟩ := hi i (by omega)
      obtain ⟨wh, d, f, u, h0, h1, rfl⟩ := deed_cells ht
      obtain ⟨_, _, hat⟩ := World.cells?_some hc
      refine ⟨⟨wh, d, f, u⟩, h0, h1, ?_⟩
      rw [cellsDeed] at hat
      exact gets_of_cells (w := w) (b := a.block) (o := a.off + i * 11) [.int .u8 wh, .int .u8 d.x0, .int .u8 d.x1, .int .u8 d.x2, .int .u8 d.x3, .int .u8 d.x4, .int .u8 d.x5, .int .u8 d.x6, .int .u8 d.x7, .bool f, u] (by simp) (fun j hj => by
        have := hat j hj
        rw [(hsp (by omega)).1, addr_add, addr_add] at this
        exact this)
    have hch : ∀ i, ∃ (q : Int × Dg × Bool × Value), i < len → 0 ≤ q.1 ∧ q.1 ≤ 255 ∧ has w a.block (a.off + i * 11) 11 = true ∧ gets w a.block (a.off + i * 11) 11 = deedCells q.1 q.2.1 q.2.2.1 q.2.2.2 := fun i => by
      by_cases hi : i < len
      · obtain ⟨q, hq⟩ := hcell i hi; exact ⟨q, fun _ => hq⟩
      · exact ⟨⟨0, Dg.zero, false, .bool false⟩, fun h => absurd h hi⟩
    refine ⟨some a, a.block, a.off, len, cap, fun i => (hch i).choose.1, fun i => (hch i).choose.2.1, fun i => (hch i).choose.2.2.1, fun i => (hch i).choose.2.2.2, hcs, fun h => by rw [← (hsp h).1], ⟨fun i hi => ((hch i).choose_spec hi).2.2.1, fun i hi => ((hch i).choose_spec hi).2.2.2, fun i hi => ⟨((hch i).choose_spec hi).1, ((hch i).choose_spec hi).2.1⟩, fun h => (hsp h).2⟩, by omega⟩
end
def Chg (r r' : Rt) : Prop := r' = r ∨ (∃ d, r' = { r with told := true, mid := d } ∧ r.told = false ∧ r.turn = 0 ∧ r'.turn = 1) ∨ (∃ v, r' = { r with won := v } ∧ ¬ r.won = v ∧ r'.turn = -1 ∧ ¬ r.turn = -1) ∨ (r'.from_ = r.from_ ∧ ¬ r'.steps = r.steps) ∨ ¬ r'.from_ = r.from_
theorem EInv.won {K : Nat} {t : Tr} {n : Int} (h : EInv K t n) : t.winner = -1 ∨ t.winner = 0 ∨ t.winner = 1 := by
  obtain ⟨_, _, j, _, _, hc⟩ := h
  rcases hc with ⟨_, h, _⟩ | ⟨_, _, h, _⟩ | ⟨_, h, _⟩ <;> omega
theorem chg_tell (r : Rt) (x : Dg) : Chg r (r.tell x).1 := by
  unfold Rt.tell
  by_cases h : 0 ≤ r.won
  · rw [if_pos h]; exact .inl rfl
  · rw [if_neg h]
    cases ht : r.told
    · cases hs : r.steps == 1
      · exact .inr (.inl ⟨x, rfl, ht, by simp [Rt.turn, h, ht], by simp [Rt.turn, h]⟩)
      · exact .inl rfl
    · exact .inl rfl
theorem chg_silence (r : Rt) (_hw : r.won = -1 ∨ r.won = 0 ∨ r.won = 1) : Chg r r.silence.1 := by
  unfold Rt.silence
  by_cases h : 0 ≤ r.won
  · rw [if_pos h]; exact .inl rfl
  · rw [if_neg h]
    refine .inr (.inr (.inl ⟨1 - r.turn, rfl, ?_, ?_, ?_⟩))
    · unfold Rt.turn; cases r.told <;> simp [h] <;> omega
    · cases ht : r.told <;> simp [Rt.turn, h, ht]
    · cases ht : r.told <;> simp [Rt.turn, h, ht]
theorem chg_choose (r : Rt) (f : Bool) (hs : r.told = true → ¬ 0 ≤ r.won → 2 ≤ r.steps) : Chg r (r.choose f).1 := by
  unfold Rt.choose
  by_cases h : 0 ≤ r.won
  · rw [if_pos h]; exact .inl rfl
  · rw [if_neg h]
    cases ht : r.told
    · exact .inl rfl
    · have := hs ht h
      cases f
      · exact .inr (.inr (.inr (.inr (by simp; omega))))
      · exact .inr (.inr (.inr (.inl ⟨rfl, by simp; omega⟩)))
theorem do_any {K : Nat} {m : Int} (hK : K ≤ 20) (b c : Nat) (hbc : ¬ b = c) (r : Rt) (p q : Dg) (sz sz' wh : Int) (x : Dg) (f : Bool) (u : Value) (w : World) (ht : At w b (r.tr p sz)) (hc : Blk w c 49 r.cells) (h0 : 0 ≤ wh) (h1 : wh ≤ 255) (hE : EInv K (r.tr p sz) m) (hz1 : 1 ≤ sz) (hz2 : sz ≤ 2048) (hs1 : 1 ≤ sz') (hs2 : sz' ≤ 2048) :
    Calls Tryz.prog 24 #[.pointer (some ⟨b, 0, none⟩), .pointer (some ⟨c, 0, none⟩), .agg (deedCells wh x f u), .agg #[.int .u8 q.x0, .int .u8 q.x1, .int .u8 q.x2, .int .u8 q.x3, .int .u8 q.x4, .int .u8 q.x5, .int .u8 q.x6, .int .u8 q.x7], .int .i64 sz', .slice none 0 0] w fun e w' => ∃ r' m', e = .returned (.bool true) ∧ At w' b (r'.tr p sz) ∧ Blk w' c 49 r'.cells ∧ Kept (fun i => i = b ∨ i = c) w w' ∧ EInv K (r'.tr p sz) m' ∧ Chg r r' := by
  have hb := hE.bounds
  have hp := pow2_le hK
  have hb1 : 0 ≤ r.steps := by have := hb.2.2.1; dsimp only at this; omega
  have hb2 : r.steps ≤ 1048576 := by have := hb.2.2.2.1; dsimp only at this; omega
  have hb3 : 0 ≤ r.from_ := hb.1
  have hb4 : r.from_ ≤ 1048576 := by have := hb.2.1; dsimp only at this; omega
  rcases (by omega : wh % 4 = 0 ∨ wh % 4 = 1 ∨ wh % 4 = 2 ∨ wh % 4 = 3) with hm | hm | hm | hm
  · have ag := tell_agree r p sz x
    have hE' := (hE.tell x).1
    rw [ag.2] at hE'
    refine (do_tell b c hbc r (r.tell x).1 (r.tell x).2 p q sz sz' wh x f u (.slice none 0 0) w ht hc h0 h1 (by simpa using hm) (fun w hA => ?_) (fun w => rtell_any r x w) hE'.won).mono ?_
    · have := tell_any b (r.tr p sz) x w hA
      rwa [ag.1, ag.2] at this
    · rintro e w' ⟨he, h1, h2, h3⟩
      exact ⟨_, _, he, h1, h2, h3, hE', chg_tell r x⟩
  · have ag := choose_agree r p sz f hE
    have hE' := (hE.choose f).1
    rw [ag.2] at hE'
    refine (do_choose b c hbc r (r.choose f).1 (r.choose f).2 p q sz sz' wh x f u (.slice none 0 0) w ht hc h0 h1 (by simpa using hm) (fun w hA => ?_) (fun w => rchoose_any r f w hb1 hb2 hb3 hb4) hE'.won).mono ?_
    · have := choose_any b (r.tr p sz) f w hA hb1 hb2 hb3 hb4
      rwa [ag.1, ag.2] at this
    · rintro e w' ⟨he, h1, h2, h3⟩
      refine ⟨_, _, he, h1, h2, h3, hE', chg_choose r f fun ht hw => ?_⟩
      obtain ⟨_, _, j, hj, hs, hc⟩ := hE
      dsimp only at hs hc
      have hj1 : 1 ≤ j := by
        rcases hc with ⟨hc, _⟩ | ⟨_, hc, _⟩ | ⟨hc, _⟩
        · simp [Rt.turn, hw, ht] at hc
        · exact hc
        · simp [Rt.turn, hw, ht] at hc
      have hp := pow_half hj1
      have hq := pow_pos' (j - 1)
      omega
  · have ag := prove_agree r p sz 2 (by decide) hE
    refine (do_prove0 b c hbc r (r.prove 2).2 p q sz sz' wh x f u w ht hc h0 h1 (by simpa using hm) hs1 hs2 (fun w hA => ?_) (fun w => ?_) hE.won).mono ?_
    · have := prove_any b (r.tr p sz) zeroStep 2 w hA rfl (by decide) (fun w' _ => check0 p r.ahead r.behind sz w' hz1 hz2)
      rw [show proveE (r.tr p sz) 2 = (r.prove 2).2 from ag.1, show proveT (r.tr p sz) 2 = r.tr p sz from if_neg (by simp)] at this
      exact this
    · have := rprove_any r 2 w
      rwa [ag.2] at this
    · rintro e w' ⟨he, h1, h2, h3⟩
      exact ⟨_, _, he, h1, h2, h3, hE, .inl rfl⟩
  · have ag := silence_agree r p sz
    have hE' := hE.silence.1
    rw [ag.2] at hE'
    refine (do_silence b c hbc r r.silence.1 r.silence.2 p q sz sz' wh x f u (.slice none 0 0) w ht hc h0 h1 (by simpa using hm) (fun w hA => ?_) (fun w => rsilence_any r w) hE'.won).mono ?_
    · have := silence_any b (r.tr p sz) w hA
      rwa [ag.1, ag.2] at this
    · rintro e w' ⟨he, h1, h2, h3⟩
      exact ⟨_, _, he, h1, h2, h3, hE', chg_silence r hE.won⟩
end Go.Proofs.YtahljceanodhkaaGreatDoor

/- The law HalveActs: deeds with their words, and the steps that are shown. -/
namespace Go.Proofs.YtahljceanodhkaaGreatDoor
open Go.RowKit Go.Deep Go.ChangeShapes Go.WideShapes
section
variable {H : Type} {enc : TypeId × Value → H} {w : World} {base : Nat} {spare : Nat → Bool} {held : Bool}
set_option maxRecDepth 100000 in
theorem deed_last {fuel : Nat} {cs : List Value} {x : DataW H × List MemPlace} (h : DataW.trod enc Tryz.prog w base spare held fuel 25 cs = some x) :
    ∃ n : Int, 0 ≤ n ∧ n ≤ 255 ∧ cs[10]? = some (.int .u8 n) := by
  obtain ⟨xs, n, _, _, hl, hxl, hf⟩ := DataW.trod_struct Tryz.underlying25 h
  rw [cellsDeed] at hl
  have h3 : DataW.trod enc Tryz.prog w base spare held n 5 ((cs.drop 10).take (Tryz.prog.cellsOf 5)) = xs[3]? := hf 3 _ rfl
  rw [cellsU8] at h3
  obtain ⟨y3, hy3⟩ : ∃ y, xs[3]? = some y := ⟨xs[3]'(by rw [hxl]; decide), List.getElem?_eq_getElem _⟩
  rw [hy3] at h3
  obtain ⟨wn, e0, _, wf0⟩ := DataW.trod_int Tryz.underlying5 h3
  have hr : 0 ≤ wn ∧ wn ≤ 255 := by simpa [Lit.wf, IntKind.min, IntKind.max, IntKind.signed, IntKind.bits] using wf0
  refine ⟨wn, hr.1, hr.2, ?_⟩
  have := congrArg (fun l => l[0]?) e0
  simpa [List.getElem?_take, List.getElem?_drop] using this
/-- Deeds in memory, each whole, with its last byte. -/
theorem deeds_last {fuel : Nat} {v : Value} {x : DataW H × List MemPlace} (h : DataW.trod enc Tryz.prog w base spare held fuel 22 [v] = some x) :
    ∃ (A : Option Addr) (b off len cap : Nat) (what : Nat → Int) (dg : Nat → Dg) (first : Nat → Bool) (last : Nat → Int), v = .slice A len cap ∧ (0 < len → A = some ⟨b, off, none⟩) ∧ Deeds11 w b off len what dg first (fun i => .int .u8 (last i)) ∧ (∀ i, i < len → 0 ≤ last i ∧ last i ≤ 255) ∧ len ≤ maxLen := by
  obtain ⟨A, b, off, len, cap, css, rfl, hA, hl, hr, hc, h1, h2⟩ := open_rows Tryz.underlying22 cellsDeed (by omega) h
  have hch : ∀ i, ∃ (q : Int × Dg × Bool × Int), i < len → 0 ≤ q.1 ∧ q.1 ≤ 255 ∧ (0 ≤ q.2.2.2 ∧ q.2.2.2 ≤ 255) ∧ css[i]? = some (deedCells q.1 q.2.1 q.2.2.1 (.int .u8 q.2.2.2)).toList := fun i => by
    by_cases hi : i < len
    · have hic : i < css.length := by omega
      obtain ⟨_, n, y, ht⟩ := hc css[i] (List.getElem_mem hic)
      obtain ⟨wh, d, f, u, q0, q1, e⟩ := deed_cells ht
      obtain ⟨n, q2, q3, e'⟩ := deed_last ht
      rw [e] at e'
      simp at e'
      subst e'
      exact ⟨⟨wh, d, f, n⟩, fun _ => ⟨q0, q1, ⟨q2, q3⟩, by rw [List.getElem?_eq_getElem hic, e]⟩⟩
    · exact ⟨⟨0, Dg.zero, false, 0⟩, fun h => absurd h hi⟩
  obtain ⟨Q, hQ⟩ := Classical.axiomOfChoice hch
  have hrow : ∀ i, i < len → Proofs.YtahljceanodhkaaGreatDoor.has w b (off + i * 11) 11 = true ∧ gets w b (off + i * 11) 11 = deedCells (Q i).1 (Q i).2.1 (Q i).2.2.1 (.int .u8 (Q i).2.2.2) := fun i hi => by
    have hlen : ∀ cs ∈ css, cs.length = 11 := fun cs hcs => (hc cs hcs).1
    have hfl := flatten_len css hlen
    have hs := (hr (by omega)).sub (i * 11) 11 (by rw [hfl, hl]; omega)
    have hget : (css.flatten.drop (i * 11)).take 11 = (deedCells (Q i).1 (Q i).2.1 (Q i).2.2.1 (.int .u8 (Q i).2.2.2)).toList := by
      apply List.ext_getElem?
      intro j
      by_cases hj : j < 11
      · rw [List.getElem?_take, if_pos hj, List.getElem?_drop, flatten_get (by omega) css hlen, show (i * 11 + j) / 11 = i by omega, show (i * 11 + j) % 11 = j by omega, List.getD_eq_getElem?_getD, (hQ i hi).2.2.2]
        rfl
      · rw [List.getElem?_eq_none (by simp; omega), List.getElem?_eq_none (by simp; omega)]
    rw [hget] at hs
    exact hs
  exact ⟨A, b, off, len, cap, fun i => (Q i).1, fun i => (Q i).2.1, fun i => (Q i).2.2.1, fun i => (Q i).2.2.2, rfl, hA, ⟨fun i hi => (hrow i hi).1, fun i hi => (hrow i hi).2, fun i hi => ⟨(hQ i hi).1, (hQ i hi).2.1⟩, fun h => (hr h).lt⟩, fun i hi => (hQ i hi).2.2.1, by omega⟩
end
end Go.Proofs.YtahljceanodhkaaGreatDoor

/- Package witness: the closures of done. -/
namespace Go.Proofs.YtahljceanodhkaaGreatDoor
open Go.RowKit
set_option maxRecDepth 100000 in
set_option maxHeartbeats 2000000 in
theorem stands_ok (d : Wd) (x : Wl) (sb : Nat) (s : Ws) (k : Nat) (hk : s.words = k) (h1 : 1 ≤ k) (h2 : k ≤ 256) (w : World) (hS : Blk w sb 45 s.cells) (hd : WordV w d x) (hlen : x.path.length = hgt k) (hck : checkT s.mem x.at_ (leafW x.is_) x.path = true) :
    Calls Tryz.prog 146 #[.agg d.cells, .pointer (some ⟨sb, 0, none⟩)] w fun e w' => e = .returned (.bool true) ∧ Ext w w' := by
  have hx0 : Ext w _ := (Kept.refl _ w).alloc (.cells d.cells 77)
  have hD0 := Blk.new w 77 d.cells
  have hS0 := Blk.alloc hS (.cells d.cells 77)
  obtain ⟨pb, po, hp⟩ := hd.path
  obtain ⟨Hk, hHk⟩ : ∃ Hk, Hk = hgt k := ⟨_, rfl⟩
  have hpn : d.pn = Hk := by rw [hp.len, hlen, hHk]
  have hck' : checkT s.mem d.at_ (leafW d.is_) x.path = true := by rw [hd.at_, hd.is_]; exact hck
  have HP := Lib.hid hp
  have HHK := Lib.hid hHk
  have HCK := Lib.hid hck'
  have hkI : s.words = (k : Int) := hk
  clear hp hlen hHk hck hck' hd hk
  obtain ⟨dat, dis, dpa, dpn, dpk⟩ := d
  obtain ⟨spc, shalt, swords, smem, sins, spa, spn, spk, sra, srn, srk, swa, swn, swk⟩ := s
  simp only at hpn hkI HCK
  subst hpn hkI
  go_enter Tryz.func146, Tryz.ntmps146
  go_upto_region 1 with (fail)
  generalize (w.alloc (.cells (Wd.cells ⟨dat, dis, dpa, dpn, dpk⟩) 77)) = W at hx0 hD0 hS0 ⊢
  generalize (w : World).heap.size = p at hD0 ⊢
  refine wp_region_3 (fun w2 => Ext W w2) [(0, 2), (1, 1), (2, 2), (3, 2), (4, 1), (5, 0), (6, 2), (7, 2), (8, 2), (9, 1), (10, 2), (11, 1), (12, 2), (13, 1), (15, 2), (16, 1), (14, 0), (17, 0), (18, 2), (19, 2)] (by kernel_rfl) (by kernel_rfl) (by kernel_rfl) (by kernel_rfl) ?_; intro l' hl'; simp only [List.map_cons, List.map_nil, List.getD_cons_zero, List.getD_cons_succ] at hl'; subst hl'
  (repeat (first | ((apply w3_pure); (· go_simp); (· (intro w1; go_simp; try with_reducible rfl)); (intro K hK; go_simp; refine hK _ _ ?_; clear hK K)) | ((apply w3_skip); (· go_simp); (intro K hK; go_simp; refine hK _ _ ?_; clear hK K)) | ((apply w3_take); (· exact (Kept.drew (Kept.refl _ _))); (· go_simp); (· (intro w1 hS; have d1 := Blk.cell (Blk.ext hD0 hS); have d2 := (Blk.ext hD0 hS).lt; have d3 := Blk.cell (Blk.ext hS0 hS); have d4 := (Blk.ext hS0 hS).lt; have d5 := Blk.has (Blk.ext hS0 hS); have d6 := Blk.gets (Blk.ext hS0 hS);  go_simp; try with_reducible rfl)); (intro K hK; go_simp; refine hK _ _ ?_; clear hK K)) | ((apply w3_pass); (· exact (Kept.drew (Kept.refl _ _))); (· go_simp); (intro K hK; go_simp; refine hK _ _ ?_; clear hK K))))
  have yW : Ext W W.drew := (Kept.refl _ W).drew
  (refine w3_act (fun K hK => ?_); go_simp)
  go_wp2_with fail
  refine (height_ok k h1 (by omega) _).mono ?_
  rintro e w1 ⟨rfl, rfl⟩
  rw [← HHK.out]
  refine hK.out _ _ (fun _ => yW) ?_
  clear hK K
  (repeat (first | ((apply w3_pure); (· go_simp); (· (intro w1; go_simp; try with_reducible rfl)); (intro K hK; go_simp; refine hK _ _ ?_; clear hK K)) | ((apply w3_skip); (· go_simp); (intro K hK; go_simp; refine hK _ _ ?_; clear hK K)) | ((apply w3_take); (· exact yW); (· go_simp); (· (intro w1 hS; have d1 := Blk.cell (Blk.ext hD0 hS); have d2 := (Blk.ext hD0 hS).lt; have d3 := Blk.cell (Blk.ext hS0 hS); have d4 := (Blk.ext hS0 hS).lt; have d5 := Blk.has (Blk.ext hS0 hS); have d6 := Blk.gets (Blk.ext hS0 hS);  go_simp; try with_reducible rfl)); (intro K hK; go_simp; refine hK _ _ ?_; clear hK K)) | ((apply w3_pass); (· exact yW); (· go_simp); (intro K hK; go_simp; refine hK _ _ ?_; clear hK K))))
  (refine w3_act (fun K hK => ?_); go_simp)
  go_wp2_with fail
  refine (leaf_any dis _).mono ?_
  rintro e w2 ⟨rfl, hx2⟩
  have y2 : Ext W w2 := yW.trans hx2
  refine hK.out _ _ (fun _ => y2) ?_
  clear hK K
  (repeat (first | ((apply w3_pure); (· go_simp); (· (intro w1; go_simp; try with_reducible rfl)); (intro K hK; go_simp; refine hK _ _ ?_; clear hK K)) | ((apply w3_skip); (· go_simp); (intro K hK; go_simp; refine hK _ _ ?_; clear hK K))))
  (refine w3_act (fun K hK => ?_); go_simp)
  go_wp2_with fail
  refine (tcheck_any smem dat (leafW dis) (leafW_ok _) dpa pb po dpn dpk x.path _ (HP.out.ext (hx0.trans y2))).mono ?_
  rintro e w3 ⟨rfl, hx3⟩
  rw [HCK.out]
  have y3 : Ext W w3 := y2.trans hx3
  refine hK.out _ _ (fun _ => y3) ?_
  clear hK K
  (repeat (first | ((apply w3_pure); (· go_simp); (· (intro w1; go_simp; try with_reducible rfl)); (intro K hK; go_simp; refine hK _ _ ?_; clear hK K)) | ((apply w3_skip); (· go_simp); (intro K hK; go_simp; refine hK _ _ ?_; clear hK K)) | (refine w3_end (by kernel_rfl) (fun K hK => ?_); go_simp; refine hK.out _ _ ?_; clear hK K))); refine w3_nil ?_
  go_wp2_with fail
  go_ret
  exact ⟨rfl, hx0.trans y3⟩
set_option maxRecDepth 100000 in
set_option maxHeartbeats 2000000 in
theorem ats_any (A : Option Addr) (n c : Nat) (ls : List Wl) (w : World) (hp : WordsS w A n ls) (hn : n ≤ 4) :
    Calls Tryz.prog 147 #[.slice A n c] w fun e w' => OwnsInts w w' e (ls.map Wl.at_) := by
  obtain ⟨hnl, b, off, ds, h1, h2, h3, h4⟩ := hp
  have HNL := Lib.hid hnl
  have HD := Lib.hid h4.len
  have H1 := Lib.hid h1
  have H2 := Lib.hid h2
  have H4 := Lib.hid h4
  clear hnl h1 h2 h3 h4
  go_enter Tryz.func147, Tryz.ntmps147
  go_wp2_with fail
  go_loopw [3, 8] (fun t3 t8 wr => ∃ (j : Nat), j ≤ n ∧ t8 = .int .i64 j ∧ wr.ownsRow w.heap.size 3 1 t3 j (ints ((ls.take j).map Wl.at_)) ∧ Ext w wr) (fun _ t8 _ => n - (intOf t8).toNat)
  case atStart => exact ⟨0, by omega, rfl, World.ownsRow_nil _ _ _ _, Kept.refl _ _⟩
  case round =>
    obtain ⟨j, hj, rfl, ho, hx⟩ := hrel
    by_cases hlt : j < n
    · have hjl : j < ls.length := by have := HNL.out; omega
      have hjd : j < ds.length := by have := HD.out; omega
      have hltI : (j : Int) < n := by omega
      obtain rfl := H1.out (by omega)
      have hrow := (H2.out (by omega)).ext hx
      obtain ⟨hrh, hrg⟩ := hrow.wd j hjd
      have hbl := hrow.lt
      have hat := (H4.out.get j hjd hjl).at_
      obtain ⟨d, hde⟩ : ∃ d, d = ds[j] := ⟨_, rfl⟩
      rw [← hde] at hrg hat
      have HAT := Lib.hid hat
      have HO := Lib.hid ho
      clear hrow hde hat ho
      go_upto_region 5 with (fail)
      have x1 := hx.alloc (.cells d.cells 77)
      have hW := Blk.new wr 77 d.cells
      have ho5 := HO.out.alloc (.cells d.cells 77)
      have hob : ∀ i, i < w.heap.size → (u3 : Value).ownBlock = some i → False := fun i hi e => by have := (HO.out.lt i e).1; omega
      have HOB := Lib.hid hob
      have HO5 := Lib.hid ho5
      clear ho5 HO hob
      generalize hgW : (wr.alloc (.cells d.cells 77)) = W at x1 hW HO5 ⊢
      generalize (wr : World).heap.size = p at hW ⊢
      clear hgW hrh hrg
      have d1 := Blk.cell hW
      have d2 := hW.lt
      go_step
      iterate 4 (refine wpList_step (fun K hK => ?_); go_simp; (try go_bits); refine hK _ _ ?_; clear hK K)
      have hsz : w.heap.size ≤ W.heap.size := x1.size
      obtain ⟨v2, w2, hr2, ho2, hk2⟩ := appInt (W.alloc (.cells #[.int .i64 d.at_] 3)) _ _ _ ((ls.take j).map Wl.at_) (HO5.out.alloc _) W.heap.size 0 1 1 [d.at_] rfl (by simpa [ints] using Row.of_blk (Blk.new W 3 #[.int .i64 d.at_])) (by omega) (by simp; omega)
      refine wpList_app rfl (.tmp 12) (.tmp 15) 138 rfl rfl rfl rfl hr2 ?_
      have k2 : Kept (fun i => (u3 : Value).ownBlock = some i) W w2 := ((Kept.refl _ W).alloc _).trans hk2
      have ho3 : w2.ownsRow w.heap.size 3 1 v2 (j + 1) (ints ((ls.take (j + 1)).map Wl.at_)) := by
        rw [List.take_succ_eq_append_getElem hjl, List.map_append]
        have := ho2
        rw [HAT.out] at this
        exact this
      have HO3 := Lib.hid ho3
      clear hr2 ho2 ho3 d1
      go_wp2_with fail
      go_roundw
      case rel => exact ⟨j + 1, hlt, by go_num, HO3.out, x1.trans' k2 HOB.out⟩
      case measure => simp only [intOf]; omega
    · have ej : j = n := by omega
      subst ej
      have e1 : (ls.take j) = ls := List.take_of_length_le (Nat.le_of_eq HNL.out.symm)
      rw [e1] at ho
      have e2 : (ls.map Wl.at_).length = j := by simp [HNL.out]
      have HO := Lib.hid ho
      have HE := Lib.hid e2
      clear ho e1 e2
      go_wp2_with fail
      go_ret
      exact ⟨_, rfl, by rw [HE.out]; exact HO.out, hx⟩
end Go.Proofs.YtahljceanodhkaaGreatDoor

/- Package witness: done, of a step that was made. -/
namespace Go.Proofs.YtahljceanodhkaaGreatDoor
open Go.RowKit
theorem want_if {c : Bool} {p q : Prop} (hc : c = true) (h : p) : if c = true then p else q := by rw [if_pos hc]; exact h
theorem wp_make_run {P : Program} {o : Oper} {a : Act} {w : World} {K : Act → World → Prop} {Q : Exit → Act → World → Prop} (x y : Operand) (T : TypeId) (ho : o.op = .makeSlice T x y) {v s v' : Value} {w' : World} (hx : a.eval x = v) (hy : a.eval y = s)
    (hrun : (Instr.makeSlice T v s).run P w = .ok v' w') (h : K (a.put o.dst v') w') : Oper.wp P o a w K Q := by
  unfold Oper.wp execOp
  simp only [ho, Sem.run_bind, Sem.run_pure, Result.andThen_ok, hx, hy, hrun]
  exact h
theorem madeM (n : Nat) : (madeCells #[.int .i32 0] n) = (mems (List.replicate n 0)).toArray := by
  apply Array.ext
  · simp [madeCells, mems]
  · intro i h1 h2
    simp [madeCells, mems, Nat.mod_one]
theorem makeM (w : World) (n : Nat) (h : n ≤ 100000) :
    ∃ w', (Instr.makeSlice 59 (.int .i64 (n : Int)) (.int .i64 (n : Int))).run Tryz.prog w = .ok (.slice (some ⟨w.heap.size, 0, none⟩) n n) w' ∧ Blk w' w.heap.size 21 (mems (List.replicate n 0)).toArray ∧ Ext w w' := by
  obtain ⟨i, hi, hz, h1, h2⟩ := info_parts infoM32
  have hr := run_makeSlice (P := Tryz.prog) w 59 21 i _ Tryz.underlying59 hi hz .i64 .i64 n n (by omega) (Int.le_refl _) (by rw [h1]; simp; omega) (by rw [h2]; omega) (by omega)
  simp only [Int.toNat_natCast] at hr
  rw [h1, Nat.mul_one] at hr
  refine ⟨_, hr, ?_, (Kept.refl _ w).alloc _⟩
  have : (madeCells (Value.int .i32 0).cells n) = (mems (List.replicate n 0)).toArray := madeM n
  rw [this]
  exact Blk.new w _ _
theorem inss_rep (n : Nat) : inss (List.replicate n ⟨0, 0, 0, 0⟩) = List.replicate (n * 4) (.int .i64 0) := by
  induction n with
  | zero => simp [inss]
  | succ n ih => rw [List.replicate_succ, show (n + 1) * 4 = 4 + n * 4 by omega, ← List.replicate_append_replicate, ← ih]; rfl
theorem madeI (n : Nat) : (madeCells (Ins.cells ⟨0, 0, 0, 0⟩) (n * 4)) = (inss (List.replicate n ⟨0, 0, 0, 0⟩)).toArray := by
  rw [inss_rep]
  apply Array.ext
  · simp [madeCells]
  · intro i h1 h2
    have h8 : i % 4 < 4 := Nat.mod_lt _ (by omega)
    simp only [madeCells, List.getElem_toArray, List.getElem_replicate, Array.getElem_map, Array.getElem_range]
    show (Ins.cells ⟨0, 0, 0, 0⟩)[i % 4]! = _
    generalize i % 4 = j at h8
    rcases (by omega : j = 0 ∨ j = 1 ∨ j = 2 ∨ j = 3) with rfl | rfl | rfl | rfl <;> rfl
theorem makeI (w : World) (n : Nat) (h : n ≤ 100000) :
    ∃ w', (Instr.makeSlice 65 (.int .i64 (n : Int)) (.int .i64 (n : Int))).run Tryz.prog w = .ok (.slice (some ⟨w.heap.size, 0, none⟩) n n) w' ∧ Blk w' w.heap.size 41 (inss (List.replicate n ⟨0, 0, 0, 0⟩)).toArray ∧ Ext w w' := by
  obtain ⟨i, hi, hz, h1, h2⟩ := info_parts infoI4
  have hr := run_makeSlice (P := Tryz.prog) w 65 41 i _ Tryz.underlying65 hi hz .i64 .i64 n n (by omega) (Int.le_refl _) (by rw [h1]; simp; omega) (by rw [h2]; omega) (by omega)
  simp only [Int.toNat_natCast] at hr
  rw [h1] at hr
  refine ⟨_, hr, ?_, (Kept.refl _ w).alloc _⟩
  have : (madeCells (Value.agg (Ins.cells ⟨0, 0, 0, 0⟩)).cells (n * 4)) = (inss (List.replicate n ⟨0, 0, 0, 0⟩)).toArray := madeI n
  rw [this]
  exact Blk.new w _ _
/-- slices.Equal of the same numbers -/
theorem equal_own {w : World} {base base' : Nat} {v v' : Value} {l : List Int} (h : w.ownsRow base 3 1 v l.length (ints l)) (h' : w.ownsRow base' 3 1 v' l.length (ints l)) (hn : l.length ≤ 100000) :
    Calls Tryz.prog 148 #[v, v'] w fun e w' => e = .returned (.bool true) ∧ Ext w w' := by
  obtain ⟨_, ho⟩ := ownInt h
  obtain ⟨_, ho'⟩ := ownInt h'
  by_cases h0 : l = []
  · subst h0
    obtain ⟨a1, c1, rfl⟩ : ∃ a1 c1, v = .slice a1 0 c1 := by
      rcases ho with ⟨hv, _⟩ | ⟨g, c, cur, hv, _⟩
      · exact ⟨_, _, hv⟩
      · exact ⟨_, _, hv⟩
    obtain ⟨a2, c2, rfl⟩ : ∃ a2 c2, v' = .slice a2 0 c2 := by
      rcases ho' with ⟨hv, _⟩ | ⟨g, c, cur, hv, _⟩
      · exact ⟨_, _, hv⟩
      · exact ⟨_, _, hv⟩
    refine (Tryz.slices_Equal_int_empty a1 a2 c1 0 c2 w (by omega)).mono ?_
    rintro e w1 ⟨rfl, rfl⟩
    exact ⟨rfl, Kept.refl _ _⟩
  · rcases ho with ⟨_, e⟩ | ⟨g, c, cur, rfl, _, hc, _, _, _, ht⟩
    · exact absurd e h0
    rcases ho' with ⟨_, e⟩ | ⟨g', c', cur', rfl, _, hc', _, _, _, ht'⟩
    · exact absurd e h0
    refine (Tryz.slices_Equal_int g 0 l.length c g' 0 l.length c' l l w (Nat.le_refl _) (Nat.le_refl _) (by omega) (by omega) (fun j hj => by simpa using ownInt_cell hc rfl ht j hj) (fun j hj => by simpa using ownInt_cell hc' rfl ht' j hj)).mono ?_
    rintro e w1 ⟨rfl, q, rfl⟩
    exact ⟨by simp, (Kept.refl _ w).drewN q⟩
theorem may_of {l : List Dg} {i : Int} (h0 : 0 ≤ i) (hi : i < l.length) (h2 : l.length ≤ 4096) : mayB i (hgt l.length) = true := by
  have hb := hgt_bd l.length (by omega) h2
  have e : (2 : Int) ^ hgt l.length = ((2 ^ hgt l.length : Nat) : Int) := by simp
  simp only [mayB, Bool.and_eq_true, decide_eq_true_eq]
  refine ⟨⟨hb.1, h0⟩, ?_⟩
  rw [e]
  omega
/-- a leaf's path is believed -/
theorem check_path {l : List Dg} {i : Int} (h0 : 0 ≤ i) (hi : i < l.length) (h2 : l.length ≤ 4096) : checkT (rootT l) i (l.getD i.toNat Dg.zero) (pathT l (hgt l.length) i.toNat) = true := by
  have hl : i.toNat < l.length := by omega
  unfold checkT withD
  rw [pathT_len, may_of h0 hi h2, if_pos rfl, show l.getD i.toNat Dg.zero = l[i.toNat] by simp [hl], withT_root l i.toNat hl h2, dgB_self]
  rfl
theorem show_check {m : List Int} {x : Int} (h0 : 0 ≤ x) (hx : x < m.length) (h2 : m.length ≤ 256) : checkT (memR m) (showW m x).at_ (leafW (showW m x).is_) (showW m x).path = true := by
  have := check_path (l := m.map leafW) (i := x) h0 (by simpa using hx) (by simp; omega)
  rw [List.length_map] at this
  have e : (m.map leafW).getD x.toNat Dg.zero = leafW (mget m x) := by
    have hl : x.toNat < m.length := by omega
    simp [mget, hl]
  rw [e] at this
  exact this
theorem show_with {m : List Int} {x v : Int} (h0 : 0 ≤ x) (hx : x < m.length) (h2 : m.length ≤ 256) : withD x (leafW v) (showW m x).path = memR (mput m x v) := by
  have e : (showW m x).path = pathT (m.map leafW) (hgt m.length) x.toNat := rfl
  have hm := may_of (l := m.map leafW) (i := x) h0 (by simpa using hx) (by simp; omega)
  rw [List.length_map] at hm
  rw [e]
  unfold withD
  rw [pathT_len, hm, if_pos rfl]
  exact memR_put m x v h0 hx h2
end Go.Proofs.YtahljceanodhkaaGreatDoor
