/- The walks of baizelaw23.same and do: what the program's trial and the document's tell. -/
import Derived.Test.YtahljceanodhkaaGreatDoorRefh
import Derived.Test.YtahljceanodhkaaGreatDoorOrdp
import Derived.Test.YtahljceanodhkaaGreatDoorStep0
import Derived.Test.YtahljceanodhkaaGreatDoorSilw
namespace Go.Proofs.YtahljceanodhkaaGreatDoor
open Go.RowKit
/-- the program's trial that the document's is -/
abbrev Rt.tr (r : Rt) (p : Dg) (sz : Int) : Tr := ⟨r.from_, r.steps, r.ahead, r.behind, p, sz, r.turn, r.mid, r.won⟩
theorem tell_agree (r : Rt) (p : Dg) (sz : Int) (d : Dg) : askedE (r.tr p sz) 0 false = (r.tell d).2 ∧ tellT (r.tr p sz) d = (r.tell d).1.tr p sz := by
  unfold tellT askedE Rt.tell Rt.tr Rt.turn
  by_cases h : 0 ≤ r.won
  · simp [h]
  · cases ht : r.told
    · by_cases hs : r.steps = 1 <;> simp [h, ht, hs]
    · simp [h, ht]
theorem silence_agree (r : Rt) (p : Dg) (sz : Int) : silenceE (r.tr p sz) = r.silence.2 ∧ silenceT (r.tr p sz) = r.silence.1.tr p sz := by
  unfold silenceE silenceT Rt.silence Rt.tr Rt.turn
  by_cases h : 0 ≤ r.won
  · simp [h]
  · cases ht : r.told <;> simp [h]
theorem choose_agree {K : Nat} {m : Int} (r : Rt) (p : Dg) (sz : Int) (f : Bool) (hE : EInv K (r.tr p sz) m) : askedE (r.tr p sz) 1 false = (r.choose f).2 ∧ chooseT (r.tr p sz) f = (r.choose f).1.tr p sz := by
  obtain ⟨h0, hb, j, hj, hs, hc⟩ := hE
  dsimp only at h0 hb hs hc
  unfold chooseT askedE Rt.choose Rt.tr
  by_cases h : 0 ≤ r.won
  · simp [h, Rt.turn]
  · cases ht : r.told
    · simp [h, ht, Rt.turn]
    · have hj1 : 1 ≤ j := by
        rcases hc with ⟨hc, _⟩ | ⟨_, hc, _⟩ | ⟨hc, _⟩
        · simp [Rt.turn, h, ht] at hc
        · exact hc
        · simp [Rt.turn, h, ht] at hc
      have hp := pow_half hj1
      have hq := pow_pos' (j - 1)
      have hne : r.steps ≠ 1 := by omega
      have hh : r.steps - r.steps / 2 = r.steps / 2 := by omega
      cases f <;> simp [h, ht, hne, Rt.turn, hh]
theorem prove_agree {K : Nat} {m : Int} (r : Rt) (p : Dg) (sz e : Int) (he : e ≠ 0) (hE : EInv K (r.tr p sz) m) : (if askedE (r.tr p sz) 0 true = 0 then e else askedE (r.tr p sz) 0 true) = (r.prove e).2 ∧ (r.prove e).1 = r := by
  have hb := hE.bounds.2.2.1
  dsimp only at hb
  unfold askedE Rt.prove Rt.tr
  by_cases h : 0 ≤ r.won
  · simp [h, Rt.turn]
  · cases ht : r.told
    · by_cases hs : r.steps = 1
      · simp [h, ht, hs, Rt.turn, he]
      · have : 1 < r.steps := by omega
        simp [h, ht, hs, Rt.turn, this]
    · simp [h, ht, Rt.turn]
set_option maxRecDepth 100000 in
set_option maxHeartbeats 1000000 in
theorem same23_any (b : Nat) (r : Rt) (p : Dg) (sz : Int) (w : World) (ht : At w b (r.tr p sz)) (hw : r.won = -1 ∨ r.won = 0 ∨ r.won = 1) :
    Calls Tryz.prog 25 #[.pointer (some ⟨b, 0, none⟩), .agg r.cells] w fun e w' => e = .returned (.bool true) ∧ Ext w w' := by
  have HW := Lib.hid hw
  clear hw
  go_enter Tryz.func25, Tryz.ntmps25
  go_wp2_with fail
  have b0 := Blk.new w 49 r.cells
  refine (span_any b _ _ (Blk.alloc ht _)).mono ?_
  rintro e w2 ⟨rfl, hx2⟩
  have hl2 := hx2.size
  go_wp2_with fail
  have bA := Blk.new w2 30 r.ahead.cells
  have bB := Blk.new (w2.alloc (.cells r.ahead.cells 30)) 30 r.behind.cells
  refine (winner_any b _ _ (Blk.alloc (Blk.alloc (Blk.ext (Blk.alloc ht _) hx2) _) _)).mono ?_
  rintro e w3 ⟨rfl, hx3⟩
  have c0 := Blk.ext (Blk.alloc (Blk.alloc (Blk.ext b0 hx2) (.cells r.ahead.cells 30)) (.cells r.behind.cells 30)) hx3
  have cA := Blk.ext (Blk.alloc bA (.cells r.behind.cells 30)) hx3
  have cB := Blk.ext bB hx3
  simp only [World.size_alloc] at cB
  have cT := Blk.ext (Blk.alloc (Blk.alloc (Blk.ext (Blk.alloc ht (.cells r.cells 49)) hx2) (.cells r.ahead.cells 30)) (.cells r.behind.cells 30)) hx3
  clear b0 bA bB
  have hw : ((r.won != -1) = false ∧ decide (0 ≤ r.won) = false) ∨ ((r.won != -1) = true ∧ decide (0 ≤ r.won) = true) := by rcases HW.out with hw | hw | hw <;> simp [hw]
  clear HW
  rcases hw with ⟨hw1, hw2⟩ | ⟨hw1, hw2⟩
  all_goals
    go_wp2_with fail
    refine wp_region_3 (fun w1 => Ext w3 w1) [(0, 2), (1, 2), (2, 1), (3, 2), (4, 2), (5, 2), (6, 2), (7, 1), (8, 2), (9, 2), (10, 2), (11, 1), (12, 2), (13, 1), (14, 2), (15, 2), (16, 2), (17, 1), (18, 2), (19, 1), (20, 2), (21, 2), (22, 2), (23, 2), (25, 1), (24, 0), (26, 0), (27, 2), (28, 2), (29, 2), (30, 2), (31, 2), (32, 1), (33, 2), (34, 2), (35, 2), (36, 2), (37, 2), (38, 1), (39, 2), (40, 2), (41, 2), (42, 2)] (by kernel_rfl) (by kernel_rfl) (by kernel_rfl) (by kernel_rfl) ?_; intro l' hl'; simp only [List.map_cons, List.map_nil, List.getD_cons_zero, List.getD_cons_succ] at hl'; subst hl'
    (repeat (first | ((apply w3_pure); (· go_simp); (· (intro w1; go_simp; try with_reducible rfl)); (intro K hK; go_simp; refine hK _ _ ?_; clear hK K)) | ((apply w3_skip); (· go_simp); (intro K hK; go_simp; refine hK _ _ ?_; clear hK K)) | ((apply w3_take); (· exact (Kept.drew (Kept.refl _ _))); (· go_simp); (· (intro w1 hS; have d0 := Blk.ext c0 hS; have dA := Blk.ext cA hS; have dB := Blk.ext cB hS; have hh := Blk.has d0; have hc := Blk.cell d0; have hg := Blk.gets d0; have hhA := Blk.has dA; have hgA := Blk.gets dA; have hhB := Blk.has dB; have hgB := Blk.gets dB;  go_simp; try with_reducible rfl)); (intro K hK; go_simp; refine hK _ _ ?_; clear hK K)) | ((apply w3_pass); (· exact (Kept.drew (Kept.refl _ _))); (· go_simp); (intro K hK; go_simp; refine hK _ _ ?_; clear hK K))))
    (refine w3_act (fun K hK => ?_); go_simp)
    go_wp2_with fail
    refine (turn_any b _ _ (Blk.drew cT)).mono ?_
    rintro e w4 ⟨rfl, rfl⟩
    refine hK.out _ _ (fun h => h) ?_
    clear hK K
    (refine w3_act (fun K hK => ?_); go_simp)
    go_wp2_with fail
    refine (rturn_any r _).mono ?_
    rintro e w4 ⟨rfl, hx4⟩
    have hx4' : Ext w3 w4 := ((Kept.refl _ w3).drew).trans hx4
    refine hK.out _ _ (fun _ => hx4') ?_
    clear hK K
    (repeat (first | ((apply w3_pure); (· go_simp); (· (intro w1; go_simp; try with_reducible rfl)); (intro K hK; go_simp; refine hK _ _ ?_; clear hK K)) | ((apply w3_skip); (· go_simp); (intro K hK; go_simp; refine hK _ _ ?_; clear hK K)) | ((apply w3_take); (· exact hx4'); (· go_simp); (· (intro w1 hS; have d0 := Blk.ext c0 hS; have hc := Blk.cell d0;  go_simp; try with_reducible rfl)); (intro K hK; go_simp; refine hK _ _ ?_; clear hK K)) | ((apply w3_pass); (· exact hx4'); (· go_simp); (intro K hK; go_simp; refine hK _ _ ?_; clear hK K))))
    refine w3_nil ?_
    go_wp2
    go_ret
    refine ⟨rfl, ?_⟩
    exact ((((((Kept.refl _ w).alloc _).trans hx2).alloc _).alloc _).trans hx3).trans hx4'
theorem splice_all {cs vs : Array Value} (h : vs.size = cs.size) : splice cs 0 vs = vs := by
  unfold splice
  simp [h, List.drop_of_length_le]
set_option maxRecDepth 100000 in
set_option maxHeartbeats 2000000 in
theorem do_tell (b c : Nat) (hbc : ¬ b = c) (r r' : Rt) (k : Int) (p q : Dg) (sz sz' wh : Int) (x : Dg) (f : Bool) (u : Value) (w : World) (ht : At w b (r.tr p sz)) (hc : Blk w c 49 r.cells) (h0 : 0 ≤ wh) (h1 : wh ≤ 255) (hwh : (wh % 4 == 0) = true)
    (hp : ∀ w, At w b (r.tr p sz) → Calls Tryz.prog 15 #[.pointer (some ⟨b, 0, none⟩), .agg #[.int .u8 x.x0, .int .u8 x.x1, .int .u8 x.x2, .int .u8 x.x3, .int .u8 x.x4, .int .u8 x.x5, .int .u8 x.x6, .int .u8 x.x7]] w fun e w' => e = .returned (.int .i64 k) ∧ At w' b (r'.tr p sz) ∧ Kept (· = b) w w')
    (hr : ∀ w, Calls Tryz.prog 61 #[.agg r.cells, .agg #[.int .u8 x.x0, .int .u8 x.x1, .int .u8 x.x2, .int .u8 x.x3, .int .u8 x.x4, .int .u8 x.x5, .int .u8 x.x6, .int .u8 x.x7]] w fun e w' => e = .returned (.tuple #[.agg r'.cells, .int .i64 k]) ∧ Ext w w') (hw : r'.won = -1 ∨ r'.won = 0 ∨ r'.won = 1) :
    Calls Tryz.prog 24 #[.pointer (some ⟨b, 0, none⟩), .pointer (some ⟨c, 0, none⟩), .agg #[.int .u8 wh, .int .u8 x.x0, .int .u8 x.x1, .int .u8 x.x2, .int .u8 x.x3, .int .u8 x.x4, .int .u8 x.x5, .int .u8 x.x6, .int .u8 x.x7, .bool f, u], .agg #[.int .u8 q.x0, .int .u8 q.x1, .int .u8 q.x2, .int .u8 q.x3, .int .u8 q.x4, .int .u8 q.x5, .int .u8 q.x6, .int .u8 q.x7], .int .i64 sz', .slice none 0 0] w fun e w' => e = .returned (.bool true) ∧ At w' b (r'.tr p sz) ∧ Blk w' c 49 r'.cells ∧ Kept (fun i => i = b ∨ i = c) w w' := by
  have hbl := Blk.lt ht
  have hcl := Blk.lt hc
  have hcb : ¬ c = b := fun e => hbc e.symm
  have HP := Lib.hid hp
  have HR := Lib.hid hr
  have HW := Lib.hid hw
  clear hp hr hw
  go_enter Tryz.func24, Tryz.ntmps24
  go_wp2_with fail
  refine (HP.out _ (Blk.alloc (Blk.alloc ht _) _)).mono ?_
  rintro e w1 ⟨rfl, hA1, hx1⟩
  have hc1 : Blk w1 c 49 r.cells := Blk.kept (Blk.alloc (Blk.alloc hc (.cells #[.int .u8 wh, .int .u8 x.x0, .int .u8 x.x1, .int .u8 x.x2, .int .u8 x.x3, .int .u8 x.x4, .int .u8 x.x5, .int .u8 x.x6, .int .u8 x.x7, .bool f, u] 25)) (.cells #[.int .u8 q.x0, .int .u8 q.x1, .int .u8 q.x2, .int .u8 q.x3, .int .u8 q.x4, .int .u8 q.x5, .int .u8 q.x6, .int .u8 q.x7] 30)) hx1 hcb
  have hd1 : Blk w1 w.heap.size 25 #[.int .u8 wh, .int .u8 x.x0, .int .u8 x.x1, .int .u8 x.x2, .int .u8 x.x3, .int .u8 x.x4, .int .u8 x.x5, .int .u8 x.x6, .int .u8 x.x7, .bool f, u] := Blk.kept (Blk.alloc (Blk.new w _ _) (.cells #[.int .u8 q.x0, .int .u8 q.x1, .int .u8 q.x2, .int .u8 q.x3, .int .u8 q.x4, .int .u8 q.x5, .int .u8 q.x6, .int .u8 q.x7] 30)) hx1 (fun e => by omega)
  go_wp2_with fail
  refine wp_region_3 (fun w' => Ext w1 w') [(0, 2), (1, 2), (2, 2), (3, 1), (4, 2), (5, 1), (6, 0), (7, 2), (8, 2), (9, 2), (10, 2), (11, 0), (12, 2)] (by kernel_rfl) (by kernel_rfl) (by kernel_rfl) (by kernel_rfl) ?_; intro l' hl'; simp only [List.map_cons, List.map_nil, List.getD_cons_zero, List.getD_cons_succ] at hl'; subst hl'
  (repeat (first | ((apply w3_pure); (· go_simp); (· (intro w1; go_simp; try with_reducible rfl)); (intro K hK; go_simp; refine hK _ _ ?_; clear hK K)) | ((apply w3_skip); (· go_simp); (intro K hK; go_simp; refine hK _ _ ?_; clear hK K)) | ((apply w3_take); (· exact (Kept.drew (Kept.refl _ _))); (· go_simp); (· (intro w1 hS; have c1 := Blk.ext hc1 hS; have d1 := Blk.ext hd1 hS; have hh := Blk.has c1; have hg := Blk.gets c1; have hhd := Blk.has d1; have hgd := Blk.gets d1; have hcd := Blk.cell d1;  go_simp; try with_reducible rfl)); (intro K hK; go_simp; refine hK _ _ ?_; clear hK K)) | ((apply w3_pass); (· exact (Kept.drew (Kept.refl _ _))); (· go_simp); (intro K hK; go_simp; refine hK _ _ ?_; clear hK K))))
  (refine w3_act (fun K hK => ?_); go_simp)
  go_wp2_with fail
  refine (HR.out _).mono ?_
  rintro e w2 ⟨rfl, hx2⟩
  have hx2' : Ext w1 w2 := ((Kept.refl _ w1).drew).trans hx2
  refine hK.out _ _ (fun _ => hx2') ?_
  clear hK K
  have hc2 := Blk.ext hc1 hx2'
  have hh2 := Blk.has hc2
  have hm2 := Blk.melts hc2
  (repeat (first | ((apply w3_pure); (· go_simp); (· (intro w1; go_simp; try with_reducible rfl)); (intro K hK; go_simp; refine hK _ _ ?_; clear hK K)) | ((apply w3_skip); (· go_simp); (intro K hK; go_simp; refine hK _ _ ?_; clear hK K)) | (refine w3_end (by kernel_rfl) (fun K hK => ?_); go_simp; refine hK.out _ _ ?_; clear hK K))); refine w3_nil ?_
  have hA3 : At (putAt w2 c 0 r'.cells) b (r'.tr p sz) := Blk.putFar (Blk.ext hA1 hx2') hbc _ _
  have hc3 : Blk (putAt w2 c 0 r'.cells) c 49 r'.cells := by
    have := Blk.put_ hc2 0 r'.cells
    rwa [splice_all (by rfl)] at this
  have hh3 := Blk.has hc3
  have hg3 := Blk.gets hc3
  go_wp2_with fail
  refine (same23_any b r' p sz _ hA3 HW.out).mono ?_
  rintro e w4 ⟨rfl, hx4⟩
  go_wp2_with fail
  go_ret
  refine ⟨rfl, Blk.ext hA3 hx4, Blk.ext hc3 hx4, ?_⟩
  have k1 : Kept (fun i => i = b ∨ i = c) w w1 := (((Kept.refl _ w).alloc _).alloc _).trans' hx1 (fun i _ e => .inl e)
  have k2 := k1.trans (Kept.ext hx2')
  have k3 := Kept.putAt k2 c 0 r'.cells (fun _ => .inr rfl)
  exact k3.trans (Kept.ext hx4)
set_option maxRecDepth 100000 in
set_option maxHeartbeats 2000000 in
theorem do_choose (b c : Nat) (hbc : ¬ b = c) (r r' : Rt) (k : Int) (p q : Dg) (sz sz' wh : Int) (x : Dg) (f : Bool) (u : Value) (w : World) (ht : At w b (r.tr p sz)) (hc : Blk w c 49 r.cells) (h0 : 0 ≤ wh) (h1 : wh ≤ 255) (hwh : (wh % 4 == 1) = true)
    (hp : ∀ w, At w b (r.tr p sz) → Calls Tryz.prog 16 #[.pointer (some ⟨b, 0, none⟩), .bool f] w fun e w' => e = .returned (.int .i64 k) ∧ At w' b (r'.tr p sz) ∧ Kept (· = b) w w')
    (hr : ∀ w, Calls Tryz.prog 62 #[.agg r.cells, .bool f] w fun e w' => e = .returned (.tuple #[.agg r'.cells, .int .i64 k]) ∧ Ext w w') (hw : r'.won = -1 ∨ r'.won = 0 ∨ r'.won = 1) :
    Calls Tryz.prog 24 #[.pointer (some ⟨b, 0, none⟩), .pointer (some ⟨c, 0, none⟩), .agg #[.int .u8 wh, .int .u8 x.x0, .int .u8 x.x1, .int .u8 x.x2, .int .u8 x.x3, .int .u8 x.x4, .int .u8 x.x5, .int .u8 x.x6, .int .u8 x.x7, .bool f, u], .agg #[.int .u8 q.x0, .int .u8 q.x1, .int .u8 q.x2, .int .u8 q.x3, .int .u8 q.x4, .int .u8 q.x5, .int .u8 q.x6, .int .u8 q.x7], .int .i64 sz', .slice none 0 0] w fun e w' => e = .returned (.bool true) ∧ At w' b (r'.tr p sz) ∧ Blk w' c 49 r'.cells ∧ Kept (fun i => i = b ∨ i = c) w w' := by
  have hbl := Blk.lt ht
  have hcl := Blk.lt hc
  have hcb : ¬ c = b := fun e => hbc e.symm
  have HP := Lib.hid hp
  have HR := Lib.hid hr
  have HW := Lib.hid hw
  clear hp hr hw
  have q0 : (wh % 4 == 0) = false := by simp at hwh ⊢; omega
  go_enter Tryz.func24, Tryz.ntmps24
  go_wp2_with fail
  refine (HP.out _ (Blk.alloc (Blk.alloc ht _) _)).mono ?_
  rintro e w1 ⟨rfl, hA1, hx1⟩
  have hc1 : Blk w1 c 49 r.cells := Blk.kept (Blk.alloc (Blk.alloc hc (.cells #[.int .u8 wh, .int .u8 x.x0, .int .u8 x.x1, .int .u8 x.x2, .int .u8 x.x3, .int .u8 x.x4, .int .u8 x.x5, .int .u8 x.x6, .int .u8 x.x7, .bool f, u] 25)) (.cells #[.int .u8 q.x0, .int .u8 q.x1, .int .u8 q.x2, .int .u8 q.x3, .int .u8 q.x4, .int .u8 q.x5, .int .u8 q.x6, .int .u8 q.x7] 30)) hx1 hcb
  have hd1 : Blk w1 w.heap.size 25 #[.int .u8 wh, .int .u8 x.x0, .int .u8 x.x1, .int .u8 x.x2, .int .u8 x.x3, .int .u8 x.x4, .int .u8 x.x5, .int .u8 x.x6, .int .u8 x.x7, .bool f, u] := Blk.kept (Blk.alloc (Blk.new w _ _) (.cells #[.int .u8 q.x0, .int .u8 q.x1, .int .u8 q.x2, .int .u8 q.x3, .int .u8 q.x4, .int .u8 q.x5, .int .u8 q.x6, .int .u8 q.x7] 30)) hx1 (fun e => by omega)
  go_wp2_with fail
  refine wp_region_3 (fun w' => Ext w1 w') [(0, 2), (1, 2), (2, 2), (3, 1), (4, 2), (5, 1), (6, 0), (7, 2), (8, 2), (9, 2), (10, 2), (11, 0), (12, 2)] (by kernel_rfl) (by kernel_rfl) (by kernel_rfl) (by kernel_rfl) ?_; intro l' hl'; simp only [List.map_cons, List.map_nil, List.getD_cons_zero, List.getD_cons_succ] at hl'; subst hl'
  (repeat (first | ((apply w3_pure); (· go_simp); (· (intro w1; go_simp; try with_reducible rfl)); (intro K hK; go_simp; refine hK _ _ ?_; clear hK K)) | ((apply w3_skip); (· go_simp); (intro K hK; go_simp; refine hK _ _ ?_; clear hK K)) | ((apply w3_take); (· exact (Kept.drew (Kept.refl _ _))); (· go_simp); (· (intro w1 hS; have c1 := Blk.ext hc1 hS; have d1 := Blk.ext hd1 hS; have hh := Blk.has c1; have hg := Blk.gets c1; have hhd := Blk.has d1; have hgd := Blk.gets d1; have hcd := Blk.cell d1;  go_simp; try with_reducible rfl)); (intro K hK; go_simp; refine hK _ _ ?_; clear hK K)) | ((apply w3_pass); (· exact (Kept.drew (Kept.refl _ _))); (· go_simp); (intro K hK; go_simp; refine hK _ _ ?_; clear hK K))))
  (refine w3_act (fun K hK => ?_); go_simp)
  go_wp2_with fail
  refine (HR.out _).mono ?_
  rintro e w2 ⟨rfl, hx2⟩
  have hx2' : Ext w1 w2 := ((Kept.refl _ w1).drew).trans hx2
  refine hK.out _ _ (fun _ => hx2') ?_
  clear hK K
  have hc2 := Blk.ext hc1 hx2'
  have hh2 := Blk.has hc2
  have hm2 := Blk.melts hc2
  (repeat (first | ((apply w3_pure); (· go_simp); (· (intro w1; go_simp; try with_reducible rfl)); (intro K hK; go_simp; refine hK _ _ ?_; clear hK K)) | ((apply w3_skip); (· go_simp); (intro K hK; go_simp; refine hK _ _ ?_; clear hK K)) | (refine w3_end (by kernel_rfl) (fun K hK => ?_); go_simp; refine hK.out _ _ ?_; clear hK K))); refine w3_nil ?_
  have hA3 : At (putAt w2 c 0 r'.cells) b (r'.tr p sz) := Blk.putFar (Blk.ext hA1 hx2') hbc _ _
  have hc3 : Blk (putAt w2 c 0 r'.cells) c 49 r'.cells := by
    have := Blk.put_ hc2 0 r'.cells
    rwa [splice_all (by rfl)] at this
  have hh3 := Blk.has hc3
  have hg3 := Blk.gets hc3
  go_wp2_with fail
  refine (same23_any b r' p sz _ hA3 HW.out).mono ?_
  rintro e w4 ⟨rfl, hx4⟩
  go_wp2_with fail
  go_ret
  refine ⟨rfl, Blk.ext hA3 hx4, Blk.ext hc3 hx4, ?_⟩
  have k1 : Kept (fun i => i = b ∨ i = c) w w1 := (((Kept.refl _ w).alloc _).alloc _).trans' hx1 (fun i _ e => .inl e)
  have k2 := k1.trans (Kept.ext hx2')
  have k3 := Kept.putAt k2 c 0 r'.cells (fun _ => .inr rfl)
  exact k3.trans (Kept.ext hx4)
set_option maxRecDepth 100000 in
set_option maxHeartbeats 2000000 in
theorem do_silence (b c : Nat) (hbc : ¬ b = c) (r r' : Rt) (k : Int) (p q : Dg) (sz sz' wh : Int) (x : Dg) (f : Bool) (u : Value) (w : World) (ht : At w b (r.tr p sz)) (hc : Blk w c 49 r.cells) (h0 : 0 ≤ wh) (h1 : wh ≤ 255) (hwh : (wh % 4 == 3) = true)
    (hp : ∀ w, At w b (r.tr p sz) → Calls Tryz.prog 18 #[.pointer (some ⟨b, 0, none⟩)] w fun e w' => e = .returned (.int .i64 k) ∧ At w' b (r'.tr p sz) ∧ Kept (· = b) w w')
    (hr : ∀ w, Calls Tryz.prog 64 #[.agg r.cells] w fun e w' => e = .returned (.tuple #[.agg r'.cells, .int .i64 k]) ∧ Ext w w') (hw : r'.won = -1 ∨ r'.won = 0 ∨ r'.won = 1) :
    Calls Tryz.prog 24 #[.pointer (some ⟨b, 0, none⟩), .pointer (some ⟨c, 0, none⟩), .agg #[.int .u8 wh, .int .u8 x.x0, .int .u8 x.x1, .int .u8 x.x2, .int .u8 x.x3, .int .u8 x.x4, .int .u8 x.x5, .int .u8 x.x6, .int .u8 x.x7, .bool f, u], .agg #[.int .u8 q.x0, .int .u8 q.x1, .int .u8 q.x2, .int .u8 q.x3, .int .u8 q.x4, .int .u8 q.x5, .int .u8 q.x6, .int .u8 q.x7], .int .i64 sz', .slice none 0 0] w fun e w' => e = .returned (.bool true) ∧ At w' b (r'.tr p sz) ∧ Blk w' c 49 r'.cells ∧ Kept (fun i => i = b ∨ i = c) w w' := by
  have hbl := Blk.lt ht
  have hcl := Blk.lt hc
  have hcb : ¬ c = b := fun e => hbc e.symm
  have HP := Lib.hid hp
  have HR := Lib.hid hr
  have HW := Lib.hid hw
  clear hp hr hw
  have q0 : (wh % 4 == 0) = false := by simp at hwh ⊢; omega
  have q1 : (wh % 4 == 1) = false := by simp at hwh ⊢; omega
  have q2 : (wh % 4 == 2) = false := by simp at hwh ⊢; omega
  go_enter Tryz.func24, Tryz.ntmps24
  go_wp2_with fail
  refine (HP.out _ (Blk.alloc (Blk.alloc ht _) _)).mono ?_
  rintro e w1 ⟨rfl, hA1, hx1⟩
  have hc1 : Blk w1 c 49 r.cells := Blk.kept (Blk.alloc (Blk.alloc hc (.cells #[.int .u8 wh, .int .u8 x.x0, .int .u8 x.x1, .int .u8 x.x2, .int .u8 x.x3, .int .u8 x.x4, .int .u8 x.x5, .int .u8 x.x6, .int .u8 x.x7, .bool f, u] 25)) (.cells #[.int .u8 q.x0, .int .u8 q.x1, .int .u8 q.x2, .int .u8 q.x3, .int .u8 q.x4, .int .u8 q.x5, .int .u8 q.x6, .int .u8 q.x7] 30)) hx1 hcb
  have hd1 : Blk w1 w.heap.size 25 #[.int .u8 wh, .int .u8 x.x0, .int .u8 x.x1, .int .u8 x.x2, .int .u8 x.x3, .int .u8 x.x4, .int .u8 x.x5, .int .u8 x.x6, .int .u8 x.x7, .bool f, u] := Blk.kept (Blk.alloc (Blk.new w _ _) (.cells #[.int .u8 q.x0, .int .u8 q.x1, .int .u8 q.x2, .int .u8 q.x3, .int .u8 q.x4, .int .u8 q.x5, .int .u8 q.x6, .int .u8 q.x7] 30)) hx1 (fun e => by omega)
  have c1 := Blk.has hc1
  have g1 := Blk.gets hc1
  have dh1 := Blk.has hd1
  have dg1 := Blk.gets hd1
  have dc1 := Blk.cell hd1
  go_wp2_with fail
  refine (HR.out _).mono ?_
  rintro e w2 ⟨rfl, hx2⟩
  have hx2' : Ext w1 w2 := hx2
  have hc2 := Blk.ext hc1 hx2'
  have hh2 := Blk.has hc2
  have hm2 := Blk.melts hc2
  have hA3 : At (putAt w2 c 0 r'.cells) b (r'.tr p sz) := Blk.putFar (Blk.ext hA1 hx2') hbc _ _
  have hc3 : Blk (putAt w2 c 0 r'.cells) c 49 r'.cells := by
    have := Blk.put_ hc2 0 r'.cells
    rwa [splice_all (by rfl)] at this
  have hh3 := Blk.has hc3
  have hg3 := Blk.gets hc3
  go_wp2_with fail
  refine (same23_any b r' p sz _ hA3 HW.out).mono ?_
  rintro e w4 ⟨rfl, hx4⟩
  go_wp2_with fail
  go_ret
  refine ⟨rfl, Blk.ext hA3 hx4, Blk.ext hc3 hx4, ?_⟩
  have k1 : Kept (fun i => i = b ∨ i = c) w w1 := (((Kept.refl _ w).alloc _).alloc _).trans' hx1 (fun i _ e => .inl e)
  have k2 := k1.trans (Kept.ext hx2')
  have k3 := Kept.putAt k2 c 0 r'.cells (fun _ => .inr rfl)
  exact k3.trans (Kept.ext hx4)
set_option maxRecDepth 100000 in
set_option maxHeartbeats 2000000 in
theorem do_prove0 (b c : Nat) (hbc : ¬ b = c) (r : Rt) (k : Int) (p q : Dg) (sz sz' wh : Int) (x : Dg) (f : Bool) (u : Value) (w : World) (ht : At w b (r.tr p sz)) (hc : Blk w c 49 r.cells) (h0 : 0 ≤ wh) (h1 : wh ≤ 255) (hwh : (wh % 4 == 2) = true) (hs1 : 1 ≤ sz') (hs2 : sz' ≤ 2048)
    (hp : ∀ w, At w b (r.tr p sz) → Calls Tryz.prog 21 #[.pointer (some ⟨b, 0, none⟩), .agg zeroStep] w fun e w' => e = .returned (.int .i64 k) ∧ At w' b (r.tr p sz) ∧ Kept (· = b) w w')
    (hr : ∀ w, Calls Tryz.prog 63 #[.agg r.cells, .int .i64 2] w fun e w' => e = .returned (.tuple #[.agg r.cells, .int .i64 k]) ∧ Ext w w') (hw : r.won = -1 ∨ r.won = 0 ∨ r.won = 1) :
    Calls Tryz.prog 24 #[.pointer (some ⟨b, 0, none⟩), .pointer (some ⟨c, 0, none⟩), .agg #[.int .u8 wh, .int .u8 x.x0, .int .u8 x.x1, .int .u8 x.x2, .int .u8 x.x3, .int .u8 x.x4, .int .u8 x.x5, .int .u8 x.x6, .int .u8 x.x7, .bool f, u], .agg #[.int .u8 q.x0, .int .u8 q.x1, .int .u8 q.x2, .int .u8 q.x3, .int .u8 q.x4, .int .u8 q.x5, .int .u8 q.x6, .int .u8 q.x7], .int .i64 sz', .slice none 0 0] w fun e w' => e = .returned (.bool true) ∧ At w' b (r.tr p sz) ∧ Blk w' c 49 r.cells ∧ Kept (fun i => i = b ∨ i = c) w w' := by
  have hbl := Blk.lt ht
  have hcl := Blk.lt hc
  have hcb : ¬ c = b := fun e => hbc e.symm
  have HP := Lib.hid hp
  have HR := Lib.hid hr
  have HW := Lib.hid hw
  clear hp hr hw
  have q0 : (wh % 4 == 0) = false := by simp at hwh ⊢; omega
  have q1 : (wh % 4 == 1) = false := by simp at hwh ⊢; omega
  go_enter Tryz.func24, Tryz.ntmps24
  go_wp2_with fail
  refine (HP.out _ (Blk.alloc (Blk.alloc (Blk.alloc ht _) _) _)).mono ?_
  rintro e w1 ⟨rfl, hA1, hx1⟩
  have hc1 : Blk w1 c 49 r.cells := Blk.kept (Blk.alloc (Blk.alloc (Blk.alloc hc (.cells #[.int .u8 wh, .int .u8 x.x0, .int .u8 x.x1, .int .u8 x.x2, .int .u8 x.x3, .int .u8 x.x4, .int .u8 x.x5, .int .u8 x.x6, .int .u8 x.x7, .bool f, u] 25)) (.cells #[.int .u8 q.x0, .int .u8 q.x1, .int .u8 q.x2, .int .u8 q.x3, .int .u8 q.x4, .int .u8 q.x5, .int .u8 q.x6, .int .u8 q.x7] 30)) (.cells zeroStep 45)) hx1 hcb
  have hq1 : Blk w1 (w.heap.size + 1) 30 q.cells := Blk.kept (Blk.alloc (Blk.new' (w.alloc (.cells #[.int .u8 wh, .int .u8 x.x0, .int .u8 x.x1, .int .u8 x.x2, .int .u8 x.x3, .int .u8 x.x4, .int .u8 x.x5, .int .u8 x.x6, .int .u8 x.x7, .bool f, u] 25)) _ _ _ (by simp)) (.cells zeroStep 45)) hx1 (fun e => by omega)
  have hs1 : Blk w1 (w.heap.size + 1 + 1) 45 zeroStep := Blk.kept (Blk.new' ((w.alloc (.cells #[.int .u8 wh, .int .u8 x.x0, .int .u8 x.x1, .int .u8 x.x2, .int .u8 x.x3, .int .u8 x.x4, .int .u8 x.x5, .int .u8 x.x6, .int .u8 x.x7, .bool f, u] 25)).alloc (.cells #[.int .u8 q.x0, .int .u8 q.x1, .int .u8 q.x2, .int .u8 q.x3, .int .u8 q.x4, .int .u8 q.x5, .int .u8 q.x6, .int .u8 q.x7] 30)) _ _ _ (by simp)) hx1 (fun e => by omega)
  go_wp2_with fail
  refine wp_region_3 (fun w' => Ext w1 w') [(0, 1), (1, 2), (2, 2), (3, 2), (4, 2), (5, 1), (6, 2), (7, 2), (8, 2), (9, 1), (10, 1), (11, 0), (12, 2)] (by kernel_rfl) (by kernel_rfl) (by kernel_rfl) (by kernel_rfl) ?_; intro l' hl'; simp only [List.map_cons, List.map_nil, List.getD_cons_zero, List.getD_cons_succ] at hl'; subst hl'
  (repeat (first | ((apply w3_pure); (· go_simp); (· (intro w1; go_simp; try with_reducible rfl)); (intro K hK; go_simp; refine hK _ _ ?_; clear hK K)) | ((apply w3_skip); (· go_simp); (intro K hK; go_simp; refine hK _ _ ?_; clear hK K)) | ((apply w3_take); (· exact (Kept.drew (Kept.refl _ _))); (· go_simp); (· (intro w1 hS; have c1 := Blk.ext hc1 hS; have d1 := Blk.ext hq1 hS; have e1 := Blk.ext hs1 hS; have hh := Blk.has c1; have hg := Blk.gets c1; have hhd := Blk.has d1; have hgd := Blk.gets d1; have hhe := Blk.has e1; have hge := Blk.gets e1;  go_simp; try with_reducible rfl)); (intro K hK; go_simp; refine hK _ _ ?_; clear hK K)) | ((apply w3_pass); (· exact (Kept.drew (Kept.refl _ _))); (· go_simp); (intro K hK; go_simp; refine hK _ _ ?_; clear hK K))))
  (refine w3_act (fun K hK => ?_); go_simp)
  go_wp2_with fail
  refine (check0 q r.ahead r.behind _ _ (by omega) (by omega)).mono ?_
  rintro e w2 ⟨rfl, hx2⟩
  have hx2' : Ext w1 w2 := ((Kept.refl _ w1).drew).trans hx2
  refine hK.out _ _ (fun _ => hx2') ?_
  clear hK K
  (repeat (first | ((apply w3_pure); (· go_simp); (· (intro w1; go_simp; try with_reducible rfl)); (intro K hK; go_simp; refine hK _ _ ?_; clear hK K)) | ((apply w3_skip); (· go_simp); (intro K hK; go_simp; refine hK _ _ ?_; clear hK K)) | (refine w3_end (by kernel_rfl) (fun K hK => ?_); go_simp; refine hK.out _ _ ?_; clear hK K))); refine w3_nil ?_
  have hc2 := Blk.ext hc1 hx2'
  have hh2 := Blk.has hc2
  have hg2 := Blk.gets hc2
  go_wp2_with fail
  refine (HR.out _).mono ?_
  rintro e w3 ⟨rfl, hx3⟩
  have hc3 := Blk.ext hc2 hx3
  have hh3 := Blk.has hc3
  have hm3 := Blk.melts hc3
  go_wp2_with fail
  have hA4 : At (putAt w3 c 0 r.cells) b (r.tr p sz) := Blk.putFar (Blk.ext (Blk.ext hA1 hx2') hx3) hbc _ _
  have hc4 : Blk (putAt w3 c 0 r.cells) c 49 r.cells := by
    have := Blk.put_ hc3 0 r.cells
    rwa [splice_all (by rfl)] at this
  refine (same23_any b r p sz _ hA4 HW.out).mono ?_
  rintro e w5 ⟨rfl, hx5⟩
  go_wp2_with fail
  go_ret
  refine ⟨rfl, Blk.ext hA4 hx5, Blk.ext hc4 hx5, ?_⟩
  have k1 : Kept (fun i => i = b ∨ i = c) w w1 := ((((Kept.refl _ w).alloc _).alloc _).alloc _).trans' hx1 (fun i _ e => .inl e)
  have k2 := (k1.trans (Kept.ext hx2')).trans (Kept.ext hx3)
  have k3 := Kept.putAt k2 c 0 r.cells (fun _ => .inr rfl)
  exact k3.trans (Kept.ext hx5)
end Go.Proofs.YtahljceanodhkaaGreatDoor
