/- Several texts joined: Zg, Zh. -/
import Derived.Test.YtahljceanodhkaaGreatDoorTtf
import Derived.Test.YtahljceanodhkaaGreatDoorTug
/- The document's answer of layer 15: Place, Next. -/
namespace Go.Proofs.YtahljceanodhkaaGreatDoor
open Go.RowKit
set_option maxRecDepth 100000 in
set_option maxHeartbeats 2000000 in
theorem rplace15 (a b c : Nat) (pc halt : Int) (g off k kc : Nat) (m : List Int) (w : World) (hk : k = m.length) (hk2 : k ≤ 256) (hb : b < k) (hc : c < k) (hm : ∀ z ∈ m, i32ok z) (hr : Row w g off (mems m)) :
    Calls Tryz.prog 153 #[.agg (Ins.cells ⟨15, a, b, c⟩), .agg (stCells pc (some ⟨g, off, none⟩) k kc halt)] w fun e w' => e = .returned (.int .i64 (farI ⟨15, a, b, c⟩ m)) ∧ Ext w w' := by
  have hcl : c < m.length := by omega
  obtain ⟨x, hx⟩ : ∃ x, x = m[c] := ⟨_, rfl⟩
  have hxr : i32ok x := by rw [hx]; exact hm _ (List.getElem_mem hcl)
  unfold i32ok at hxr
  obtain ⟨F, hF⟩ : ∃ F, F = farI ⟨15, a, b, c⟩ m := ⟨_, rfl⟩
  have hFF : F = placeI (b + x) k := by rw [hF, hk, hx]; simp [farI, hcl]
  rw [← hF]
  have hcell := hr.mem c hcl
  rw [← hx] at hcell
  have hgl := hr.lt
  have x0 : Ext w _ := ((Kept.refl _ w).alloc (.cells (Ins.cells ⟨15, a, b, c⟩) 89)).alloc (.cells (stCells pc (some ⟨g, off, none⟩) k kc halt) 61)
  have hI0 := Blk.alloc (Blk.new w 89 (Ins.cells ⟨15, a, b, c⟩)) (.cells (stCells pc (some ⟨g, off, none⟩) k kc halt) 61)
  have hS0 := Blk.new' (w.alloc (.cells (Ins.cells ⟨15, a, b, c⟩) 89)) 61 (stCells pc (some ⟨g, off, none⟩) k kc halt) (w.heap.size + 1) (by simp)
  have HFF := Lib.hid hFF
  have hcI : (c : Int) < k := by omega
  have hc0 : (0 : Int) ≤ c := by omega
  have hbI : (b : Int) < 256 := by omega
  have hkI : (k : Int) ≤ 256 := by omega
  clear hk hm hr hcl hx hF hFF
  go_enter Tryz.func153, Tryz.ntmps153
  go_upto_region 1 with (fail)
  have hcell1 := (Kept.cell x0 (p := ⟨g, off + c, none⟩) hgl (fun f => f)).trans hcell
  have hgl1 := Nat.lt_of_lt_of_le hgl x0.size
  clear hcell hgl
  generalize ((w.alloc (.cells (Ins.cells ⟨15, a, b, c⟩) 89)).alloc (.cells (stCells pc (some ⟨g, off, none⟩) k kc halt) 61)) = W at x0 hI0 hS0 hcell1 hgl1 ⊢
  generalize (w : World).heap.size = sb at hI0 hS0 ⊢
  refine wp_region_3 (fun w2 => Ext W w2) [(0, 2), (1, 1), (2, 2), (3, 1), (4, 2), (5, 1), (6, 2), (7, 1), (8, 1), (9, 2), (10, 2)] (by kernel_rfl) (by kernel_rfl) (by kernel_rfl) (by kernel_rfl) ?_; intro l' hl'; simp only [List.map_cons, List.map_nil, List.getD_cons_zero, List.getD_cons_succ] at hl'; subst hl'
  (repeat (first | ((apply w3_pure); (· go_simp); (· (intro w1; go_simp; try with_reducible rfl)); (intro K hK; go_simp; refine hK _ _ ?_; clear hK K)) | ((apply w3_skip); (· go_simp); (intro K hK; go_simp; refine hK _ _ ?_; clear hK K)) | ((apply w3_take); (· exact (Kept.drew (Kept.refl _ _))); (· go_simp); (· (intro w1 hS; have d1 := Blk.cell (Blk.ext hI0 hS); have d2 := (Blk.ext hI0 hS).lt; have d3 := Blk.cell (Blk.ext hS0 hS); have d4 := (Blk.ext hS0 hS).lt; have d5 := (Kept.cell hS (p := ⟨g, off + c, none⟩) hgl1 (fun f => f)).trans hcell1; have d6 := Nat.lt_of_lt_of_le hgl1 hS.size;  go_simp; try with_reducible rfl)); (intro K hK; go_simp; refine hK _ _ ?_; clear hK K)) | ((apply w3_pass); (· exact (Kept.drew (Kept.refl _ _))); (· go_simp); (intro K hK; go_simp; refine hK _ _ ?_; clear hK K))))
  refine w3_nil ?_
  have i1 := Blk.cell hI0
  have i2 := Blk.cell hS0
  have i3 := hI0.lt
  have i4 := hS0.lt
  by_cases h0 : (b : Int) + x < 0
  · go_wp2_with fail
    go_ret
    exact ⟨ret_int (by rw [HFF.out]; unfold placeI; rw [if_neg (by omega)]), by first | exact x0.drew | exact x0.drew.drew | exact x0.drewN _⟩
  · by_cases h1 : (k : Int) ≤ (b : Int) + x
    · go_wp2_with fail
      go_ret
      exact ⟨ret_int (by rw [HFF.out]; unfold placeI; rw [if_neg (by omega)]), by first | exact x0.drew | exact x0.drew.drew | exact x0.drewN _⟩
    · go_wp2_with fail
      go_ret
      exact ⟨ret_int (by rw [HFF.out]; unfold placeI; rw [if_pos (by omega)]), by first | exact x0.drew | exact x0.drew.drew | exact x0.drewN _⟩
set_option maxRecDepth 100000 in
set_option maxHeartbeats 2000000 in
theorem rplace16 (a b c : Nat) (pc halt : Int) (g off k kc : Nat) (m : List Int) (w : World) (hk : k = m.length) (hk2 : k ≤ 256) (ha : a < k) (hb : b < k) (hc : c < k) (hm : ∀ z ∈ m, i32ok z) (hr : Row w g off (mems m)) :
    Calls Tryz.prog 153 #[.agg (Ins.cells ⟨16, a, b, c⟩), .agg (stCells pc (some ⟨g, off, none⟩) k kc halt)] w fun e w' => e = .returned (.int .i64 (farI ⟨16, a, b, c⟩ m)) ∧ Ext w w' := by
  have hcl : c < m.length := by omega
  have hbl : b < m.length := by omega
  obtain ⟨x, hx⟩ : ∃ x, x = m[c] := ⟨_, rfl⟩
  obtain ⟨y, hy⟩ : ∃ y, y = m[b] := ⟨_, rfl⟩
  have hxr : i32ok x := by rw [hx]; exact hm _ (List.getElem_mem hcl)
  have hyr : i32ok y := by rw [hy]; exact hm _ (List.getElem_mem hbl)
  unfold i32ok at hxr hyr
  obtain ⟨F, hF⟩ : ∃ F, F = farI ⟨16, a, b, c⟩ m := ⟨_, rfl⟩
  have hFF : F = placeI (a + y) k := by rw [hF, hk, hy]; simp [farI, hbl]
  rw [← hF]
  have hcell := hr.mem c hcl
  have hcelb := hr.mem b hbl
  rw [← hx] at hcell
  rw [← hy] at hcelb
  have hgl := hr.lt
  have x0 : Ext w _ := ((Kept.refl _ w).alloc (.cells (Ins.cells ⟨16, a, b, c⟩) 89)).alloc (.cells (stCells pc (some ⟨g, off, none⟩) k kc halt) 61)
  have hI0 := Blk.alloc (Blk.new w 89 (Ins.cells ⟨16, a, b, c⟩)) (.cells (stCells pc (some ⟨g, off, none⟩) k kc halt) 61)
  have hS0 := Blk.new' (w.alloc (.cells (Ins.cells ⟨16, a, b, c⟩) 89)) 61 (stCells pc (some ⟨g, off, none⟩) k kc halt) (w.heap.size + 1) (by simp)
  have HFF := Lib.hid hFF
  have hcI : (c : Int) < k := by omega
  have hc0 : (0 : Int) ≤ c := by omega
  have hbI : (b : Int) < k := by omega
  have hb0 : (0 : Int) ≤ b := by omega
  have haI : (a : Int) < 256 := by omega
  have hbI2 : (b : Int) < 256 := by omega
  have hkI : (k : Int) ≤ 256 := by omega
  clear hk hm hr hcl hbl hx hy hF hFF
  go_enter Tryz.func153, Tryz.ntmps153
  go_upto_region 1 with (fail)
  have hcell1 := (Kept.cell x0 (p := ⟨g, off + c, none⟩) hgl (fun f => f)).trans hcell
  have hcelb1 := (Kept.cell x0 (p := ⟨g, off + b, none⟩) hgl (fun f => f)).trans hcelb
  have hgl1 := Nat.lt_of_lt_of_le hgl x0.size
  clear hcell hcelb hgl
  generalize ((w.alloc (.cells (Ins.cells ⟨16, a, b, c⟩) 89)).alloc (.cells (stCells pc (some ⟨g, off, none⟩) k kc halt) 61)) = W at x0 hI0 hS0 hcell1 hcelb1 hgl1 ⊢
  generalize (w : World).heap.size = sb at hI0 hS0 ⊢
  refine wp_region_3 (fun w2 => Ext W w2) [(0, 2), (1, 1), (2, 2), (3, 1), (4, 2), (5, 1), (6, 2), (7, 1), (8, 1), (9, 2), (10, 2)] (by kernel_rfl) (by kernel_rfl) (by kernel_rfl) (by kernel_rfl) ?_; intro l' hl'; simp only [List.map_cons, List.map_nil, List.getD_cons_zero, List.getD_cons_succ] at hl'; subst hl'
  (repeat (first | ((apply w3_pure); (· go_simp); (· (intro w1; go_simp; try with_reducible rfl)); (intro K hK; go_simp; refine hK _ _ ?_; clear hK K)) | ((apply w3_skip); (· go_simp); (intro K hK; go_simp; refine hK _ _ ?_; clear hK K)) | ((apply w3_take); (· exact (Kept.drew (Kept.refl _ _))); (· go_simp); (· (intro w1 hS; have d1 := Blk.cell (Blk.ext hI0 hS); have d2 := (Blk.ext hI0 hS).lt; have d3 := Blk.cell (Blk.ext hS0 hS); have d4 := (Blk.ext hS0 hS).lt; have d5 := (Kept.cell hS (p := ⟨g, off + c, none⟩) hgl1 (fun f => f)).trans hcell1; have d6 := Nat.lt_of_lt_of_le hgl1 hS.size;  go_simp; try with_reducible rfl)); (intro K hK; go_simp; refine hK _ _ ?_; clear hK K)) | ((apply w3_pass); (· exact (Kept.drew (Kept.refl _ _))); (· go_simp); (intro K hK; go_simp; refine hK _ _ ?_; clear hK K))))
  refine w3_nil ?_
  have i1 := Blk.cell hI0
  have i2 := Blk.cell hS0
  have i3 := hI0.lt
  have i4 := hS0.lt
  go_upto_region 3 with (fail)
  have x1 : Ext W W.drew := (Kept.refl _ W).drew
  refine wp_region_3 (fun w2 => Ext W.drew w2) [(0, 2), (1, 1), (2, 2), (3, 1), (4, 2), (5, 1), (6, 2), (7, 1), (8, 1), (9, 2), (10, 2)] (by kernel_rfl) (by kernel_rfl) (by kernel_rfl) (by kernel_rfl) ?_; intro l' hl'; simp only [List.map_cons, List.map_nil, List.getD_cons_zero, List.getD_cons_succ] at hl'; subst hl'
  (repeat (first | ((apply w3_pure); (· go_simp); (· (intro w1; go_simp; try with_reducible rfl)); (intro K hK; go_simp; refine hK _ _ ?_; clear hK K)) | ((apply w3_skip); (· go_simp); (intro K hK; go_simp; refine hK _ _ ?_; clear hK K)) | ((apply w3_take); (· exact (Kept.drew (Kept.refl _ _))); (· go_simp); (· (intro w1 hS; have d1 := Blk.cell (Blk.ext (Blk.ext hI0 x1) hS); have d2 := (Blk.ext (Blk.ext hI0 x1) hS).lt; have d3 := Blk.cell (Blk.ext (Blk.ext hS0 x1) hS); have d4 := (Blk.ext (Blk.ext hS0 x1) hS).lt; have d5 := (Kept.cell (x1.trans hS) (p := ⟨g, off + b, none⟩) hgl1 (fun f => f)).trans hcelb1; have d6 := Nat.lt_of_lt_of_le hgl1 (x1.trans hS).size;  go_simp; try with_reducible rfl)); (intro K hK; go_simp; refine hK _ _ ?_; clear hK K)) | ((apply w3_pass); (· exact (Kept.drew (Kept.refl _ _))); (· go_simp); (intro K hK; go_simp; refine hK _ _ ?_; clear hK K))))
  refine w3_nil ?_
  by_cases h0 : (a : Int) + y < 0
  · go_wp2_with fail
    go_ret
    exact ⟨ret_int (by rw [HFF.out]; unfold placeI; rw [if_neg (by omega)]), by first | exact x0.drew | exact x0.drew.drew | exact x0.drewN _⟩
  · by_cases h1 : (k : Int) ≤ (a : Int) + y
    · go_wp2_with fail
      go_ret
      exact ⟨ret_int (by rw [HFF.out]; unfold placeI; rw [if_neg (by omega)]), by first | exact x0.drew | exact x0.drew.drew | exact x0.drewN _⟩
    · go_wp2_with fail
      go_ret
      exact ⟨ret_int (by rw [HFF.out]; unfold placeI; rw [if_pos (by omega)]), by first | exact x0.drew | exact x0.drew.drew | exact x0.drewN _⟩
set_option maxRecDepth 100000 in
set_option maxHeartbeats 2000000 in
theorem rnext_past (A : Option Addr) (n cap : Nat) (pc : Int) (M : Option Addr) (k kc : Nat) (w : World) (h2 : n ≤ 2048) (hg : rightS pc 0 k = true) (hp : (n : Int) ≤ pc) :
    Calls Tryz.prog 152 #[.slice A n cap, .agg (stCells pc M k kc 0)] w fun e w' => e = .returned (.tuple #[.agg (Ins.cells ⟨0, 0, 0, 0⟩), .bool false]) ∧ Ext w w' := by
  have x0 : Ext w _ := ((Kept.refl _ w).alloc (.cells (stCells pc M k kc 0) 61)).alloc (.cells (Ins.cells ⟨0, 0, 0, 0⟩) 89)
  have hS0 := Blk.alloc (Blk.new w 61 (stCells pc M k kc 0)) (.cells (Ins.cells ⟨0, 0, 0, 0⟩) 89)
  have hR0 := Blk.new' (w.alloc (.cells (stCells pc M k kc 0) 61)) 89 (Ins.cells ⟨0, 0, 0, 0⟩) (w.heap.size + 1) (by simp)
  have HG := Lib.hid hg
  have hnI : (n : Int) ≤ 2048 := by omega
  have hp' : ¬ pc < n := by omega
  clear hg
  go_enter Tryz.func152, Tryz.ntmps152
  go_upto_region 1 with (fail)
  generalize ((w.alloc (.cells (stCells pc M k kc 0) 61)).alloc (.cells (Ins.cells ⟨0, 0, 0, 0⟩) 89)) = W at x0 hS0 hR0 ⊢
  obtain ⟨sb, hsb⟩ : ∃ sb, sb = w.heap.size := ⟨_, rfl⟩
  rw [← hsb] at hS0 hR0 ⊢
  have HSB := Lib.hid hsb
  clear hsb
  refine wp_region_3 (fun w2 => Ext W w2) [(0, 1), (1, 0), (2, 2), (3, 2), (4, 2), (5, 1), (6, 2), (7, 2), (8, 2), (9, 2), (10, 2), (11, 2), (12, 2), (13, 2), (14, 2), (15, 1), (16, 2), (17, 2), (18, 2), (19, 2), (20, 2), (21, 2), (22, 2), (23, 1), (24, 2), (25, 1), (26, 2), (27, 2), (28, 2), (29, 1), (30, 2), (31, 0), (32, 2), (33, 2)] (by kernel_rfl) (by kernel_rfl) (by kernel_rfl) (by kernel_rfl) ?_; intro l' hl'; simp only [List.map_cons, List.map_nil, List.getD_cons_zero, List.getD_cons_succ] at hl'; subst hl'
  (repeat (first | ((apply w3_pure); (· go_simp); (· (intro w1; go_simp; try with_reducible rfl)); (intro K hK; go_simp; refine hK _ _ ?_; clear hK K)) | ((apply w3_skip); (· go_simp); (intro K hK; go_simp; refine hK _ _ ?_; clear hK K)) | ((apply w3_take); (· exact (Kept.drew (Kept.refl _ _))); (· go_simp); (· (intro w1 hS; have d1 := Blk.cell (Blk.ext hS0 hS); have d2 := (Blk.ext hS0 hS).lt; have d3 := Blk.has (Blk.ext hS0 hS); have d4 := Blk.gets (Blk.ext hS0 hS);  go_simp; try with_reducible rfl)); (intro K hK; go_simp; refine hK _ _ ?_; clear hK K)) | ((apply w3_pass); (· exact (Kept.drew (Kept.refl _ _))); (· go_simp); (intro K hK; go_simp; refine hK _ _ ?_; clear hK K))))
  have yW : Ext W W.drew := (Kept.refl _ W).drew
  (refine w3_act (fun K hK => ?_); go_simp)
  go_wp2_with fail
  have hrr := rright_any pc 0 M k kc W.drew
  rw [HG.out] at hrr
  refine hrr.mono ?_
  rintro e w1 ⟨rfl, hx1⟩
  have y1 : Ext W w1 := yW.trans hx1
  refine hK.out _ _ (fun _ => y1) ?_
  clear hK K hrr
  (repeat (first | ((apply w3_pure); (· go_simp); (· (intro w1; go_simp; try with_reducible rfl)); (intro K hK; go_simp; refine hK _ _ ?_; clear hK K)) | ((apply w3_skip); (· go_simp); (intro K hK; go_simp; refine hK _ _ ?_; clear hK K)) | ((apply w3_take); (· exact y1); (· go_simp); (· (intro w1 hS; have d1 := Blk.cell (Blk.ext hS0 hS); have d2 := (Blk.ext hS0 hS).lt; have d3 := Blk.has (Blk.ext hS0 hS); have d4 := Blk.gets (Blk.ext hS0 hS);  go_simp; try with_reducible rfl)); (intro K hK; go_simp; refine hK _ _ ?_; clear hK K)) | ((apply w3_pass); (· exact y1); (· go_simp); (intro K hK; go_simp; refine hK _ _ ?_; clear hK K))))
  (repeat (first | ((apply w3_pure); (· go_simp); (· (intro w1; go_simp; try with_reducible rfl)); (intro K hK; go_simp; refine hK _ _ ?_; clear hK K)) | ((apply w3_skip); (· go_simp); (intro K hK; go_simp; refine hK _ _ ?_; clear hK K)) | (refine w3_end (by kernel_rfl) (fun K hK => ?_); go_simp; refine hK.out _ _ ?_; clear hK K))); refine w3_nil ?_
  have hR1 := Blk.ext hR0 y1
  have i1 := Blk.has hR1
  have i2 := Blk.melts hR1
  go_wp2_with fail
  refine ret_ci Tryz.results152 rfl rfl aggIns (by exact sizeIns) (Blk.put_ hR1 _ _) ⟨rfl, ?_⟩
  exact Kept.putAt (x0.trans y1) _ _ _ (fun h => by have := HSB.out; omega)
set_option maxRecDepth 100000 in
set_option maxHeartbeats 2000000 in
theorem rnext_at (b off n cap : Nat) (c : List Ins) (x : Nat) (M : Option Addr) (k kc : Nat) (w : World) (h2 : n ≤ 2048) (hg : rightS x 0 k = true) (hx : x < n) (hn : n = c.length) (hr : Row w b off (inss c)) :
    Calls Tryz.prog 152 #[.slice (some ⟨b, off, none⟩) n cap, .agg (stCells x M k kc 0)] w fun e w' => e = .returned (.tuple #[.agg (insO (nextI c x k)).cells, .bool (nextI c x k).isSome]) ∧ Ext w w' := by
  have hxl : x < c.length := by omega
  obtain ⟨hih, hig⟩ := hr.ins x hxl
  have hbl := hr.lt
  obtain ⟨i, hi⟩ : ∃ i, i = c[x] := ⟨_, rfl⟩
  rw [← hi] at hig
  have hnx : nextI c x k = if rightI i n k = true then some i else none := by
    unfold nextI
    rw [Int.toNat_natCast, List.getElem?_eq_getElem hxl, ← hi, ← hn]
  have x0 : Ext w _ := ((Kept.refl _ w).alloc (.cells (stCells x M k kc 0) 61)).alloc (.cells (Ins.cells ⟨0, 0, 0, 0⟩) 89)
  have hS0 := Blk.alloc (Blk.new w 61 (stCells x M k kc 0)) (.cells (Ins.cells ⟨0, 0, 0, 0⟩) 89)
  have hR0 := Blk.new' (w.alloc (.cells (stCells x M k kc 0) 61)) 89 (Ins.cells ⟨0, 0, 0, 0⟩) (w.heap.size + 1) (by simp)
  have i1 := has_ext x0 hbl hih
  have i2 := gets_ext x0 hbl hig
  have i3 := Nat.lt_of_lt_of_le hbl x0.size
  obtain ⟨O, hO⟩ : ∃ O, O = nextI c x k := ⟨_, rfl⟩
  rw [← hO]
  have HO := Lib.hid (hO.trans hnx)
  have HG := Lib.hid hg
  have hnI : (n : Int) ≤ 2048 := by omega
  have hxI : (x : Int) < n := by omega
  have hx0 : (0 : Int) ≤ x := by omega
  clear hg hr hn hnx hO hi hih hig hxl
  go_enter Tryz.func152, Tryz.ntmps152
  go_upto_region 1 with (fail)
  generalize ((w.alloc (.cells (stCells x M k kc 0) 61)).alloc (.cells (Ins.cells ⟨0, 0, 0, 0⟩) 89)) = W at x0 hS0 hR0 i1 i2 i3 ⊢
  obtain ⟨sb, hsb⟩ : ∃ sb, sb = w.heap.size := ⟨_, rfl⟩
  rw [← hsb] at hS0 hR0 ⊢
  have HSB := Lib.hid hsb
  clear hsb hbl
  refine wp_region_3 (fun w2 => Ext W w2) [(0, 1), (1, 0), (2, 2), (3, 2), (4, 2), (5, 1), (6, 2), (7, 2), (8, 2), (9, 2), (10, 2), (11, 2), (12, 2), (13, 2), (14, 2), (15, 1), (16, 2), (17, 2), (18, 2), (19, 2), (20, 2), (21, 2), (22, 2), (23, 1), (24, 2), (25, 1), (26, 2), (27, 2), (28, 2), (29, 1), (30, 2), (31, 0), (32, 2), (33, 2)] (by kernel_rfl) (by kernel_rfl) (by kernel_rfl) (by kernel_rfl) ?_; intro l' hl'; simp only [List.map_cons, List.map_nil, List.getD_cons_zero, List.getD_cons_succ] at hl'; subst hl'
  (repeat (first | ((apply w3_pure); (· go_simp); (· (intro w1; go_simp; try with_reducible rfl)); (intro K hK; go_simp; refine hK _ _ ?_; clear hK K)) | ((apply w3_skip); (· go_simp); (intro K hK; go_simp; refine hK _ _ ?_; clear hK K)) | ((apply w3_take); (· exact (Kept.drew (Kept.refl _ _))); (· go_simp); (· (intro w1 hS; have d1 := Blk.cell (Blk.ext hS0 hS); have d2 := (Blk.ext hS0 hS).lt; have d3 := Blk.has (Blk.ext hS0 hS); have d4 := Blk.gets (Blk.ext hS0 hS);  go_simp; try with_reducible rfl)); (intro K hK; go_simp; refine hK _ _ ?_; clear hK K)) | ((apply w3_pass); (· exact (Kept.drew (Kept.refl _ _))); (· go_simp); (intro K hK; go_simp; refine hK _ _ ?_; clear hK K))))
  have yW : Ext W W.drew := (Kept.refl _ W).drew
  (refine w3_act (fun K hK => ?_); go_simp)
  go_wp2_with fail
  have hrr := rright_any x 0 M k kc W.drew
  rw [HG.out] at hrr
  refine hrr.mono ?_
  rintro e w1 ⟨rfl, hx1⟩
  have y1 : Ext W w1 := yW.trans hx1
  refine hK.out _ _ (fun _ => y1) ?_
  clear hK K hrr
  (repeat (first | ((apply w3_pure); (· go_simp); (· (intro w1; go_simp; try with_reducible rfl)); (intro K hK; go_simp; refine hK _ _ ?_; clear hK K)) | ((apply w3_skip); (· go_simp); (intro K hK; go_simp; refine hK _ _ ?_; clear hK K)) | ((apply w3_take); (· exact y1); (· go_simp); (· (intro w1 hS; have d1 := Blk.cell (Blk.ext hS0 hS); have d2 := (Blk.ext hS0 hS).lt; have d3 := Blk.has (Blk.ext hS0 hS); have d4 := Blk.gets (Blk.ext hS0 hS); have d5 := has_ext hS i3 i1; have d6 := gets_ext hS i3 i2; have d7 := Nat.lt_of_lt_of_le i3 hS.size;  go_simp; try with_reducible rfl)); (intro K hK; go_simp; refine hK _ _ ?_; clear hK K)) | ((apply w3_pass); (· exact y1); (· go_simp); (intro K hK; go_simp; refine hK _ _ ?_; clear hK K))))
  (refine w3_act (fun K hK => ?_); go_simp)
  go_wp2_with fail
  have hr14 := rright14_any i n k w1
  obtain ⟨R, hR⟩ : ∃ R, R = rightI i n k := ⟨_, rfl⟩
  rw [← hR] at hr14
  refine hr14.mono ?_
  rintro e w2 ⟨rfl, hx2⟩
  have HR := Lib.hid hR
  have y2 : Ext W w2 := y1.trans hx2
  refine hK.out _ _ (fun _ => y2) ?_
  clear hK K hr14 hR
  cases R
  · have hOn : O = none := by rw [HO.out, if_neg (by rw [← HR.out]; simp)]
    subst hOn
    (repeat (first | ((apply w3_pure); (· go_simp); (· (intro w1; go_simp; try with_reducible rfl)); (intro K hK; go_simp; refine hK _ _ ?_; clear hK K)) | ((apply w3_skip); (· go_simp); (intro K hK; go_simp; refine hK _ _ ?_; clear hK K)) | (refine w3_end (by kernel_rfl) (fun K hK => ?_); go_simp; refine hK.out _ _ ?_; clear hK K))); refine w3_nil ?_
    have hR2 := Blk.ext hR0 y2
    have j1 := Blk.has hR2
    have j2 := Blk.melts hR2
    go_wp2_with fail
    refine ret_ci Tryz.results152 rfl rfl aggIns (by exact sizeIns) (Blk.put_ hR2 _ _) ⟨rfl, ?_⟩
    exact Kept.putAt (x0.trans y2) _ _ _ (fun h => by have := HSB.out; omega)
  · have hOs : O = some i := by rw [HO.out, if_pos (by rw [← HR.out])]
    subst hOs
    (repeat (first | ((apply w3_pure); (· go_simp); (· (intro w1; go_simp; try with_reducible rfl)); (intro K hK; go_simp; refine hK _ _ ?_; clear hK K)) | ((apply w3_skip); (· go_simp); (intro K hK; go_simp; refine hK _ _ ?_; clear hK K)) | (refine w3_end (by kernel_rfl) (fun K hK => ?_); go_simp; refine hK.out _ _ ?_; clear hK K))); refine w3_nil ?_
    have hR2 := Blk.ext hR0 y2
    have j1 := Blk.has hR2
    have j2 := Blk.melts hR2
    have j3 := Blk.cell (Blk.ext hS0 y2)
    have j4 := (Blk.ext hS0 y2).lt
    have j5 := has_ext y2 i3 i1
    have j6 := gets_ext y2 i3 i2
    have j7 := Nat.lt_of_lt_of_le i3 y2.size
    go_wp2_with fail
    refine ret_ci Tryz.results152 rfl rfl aggIns (by exact sizeIns) (Blk.put_ hR2 _ _) ⟨rfl, ?_⟩
    exact Kept.putAt (x0.trans y2) _ _ _ (fun h => by have := HSB.out; omega)
end Go.Proofs.YtahljceanodhkaaGreatDoor

/- The document's answer of layer 15: Step, case by case. -/
namespace Go.Proofs.YtahljceanodhkaaGreatDoor
open Go.RowKit
/-- the ways through a fork meet again: what is to be shown behind it is shown once -/
theorem fork5 {F M : World → Nat → Nat → Nat → Nat → Prop} {G : Prop} (h : (∀ W g c p z, F W g c p z → M W g c p z) → G) (h2 : ∀ W g c p z, F W g c p z → M W g c p z) : G := h h2
/-- what the document's step asks of memory -/
structure RPre (w : World) (b off n : Nat) (A : Option Addr) (c : List Ins) (g0 off' k : Nat) (x halt : Int) (m : List Int) : Prop where
  n_eq : n = c.length
  n2 : n ≤ 2048
  x0 : 0 ≤ x
  right : rightS x halt k = true
  k_eq : k = m.length
  mok : ∀ z ∈ m, i32ok z
  hA : 0 < n → A = some ⟨b, off, none⟩
  row : 0 < n → Row w b off (inss c)
  mrow : Row w g0 off' (mems m)
theorem blk_notZ {w : World} {p : Nat} {T E : TypeId} {cs : Array Value} (hb : Blk w p T cs) (hE : ¬ T = E) : ∀ cur fr, ¬ w.heap[p]? = some (.cells cur E fr) := fun cur fr e => by
  unfold Blk at hb
  rw [e] at hb
  injection hb with hb
  injection hb with _ hb _
  exact hE hb.symm
/-- memory behind the first region: the copy, and the new state -/
structure RMid (W0 W : World) (g c1 pb : Nat) (x halt : Int) (k : Nat) (m : List Int) : Prop where
  ext : Ext W0 W
  st : Blk W pb 61 (stCells x (some ⟨g, 0, none⟩) k c1 halt)
  mem : MemAt W W0.heap.size g k c1 m
  pg : ¬ pb = g
  le : W0.heap.size ≤ pb
theorem rnext_any (A : Option Addr) (b off n cap : Nat) (c : List Ins) (x : Int) (M : Option Addr) (k kc : Nat) (w : World) (h2 : n ≤ 2048) (hx : 0 ≤ x) (hg : rightS x 0 k = true) (hn : n = c.length) (hA : 0 < n → A = some ⟨b, off, none⟩) (hr : 0 < n → Row w b off (inss c)) :
    Calls Tryz.prog 152 #[.slice A n cap, .agg (stCells x M k kc 0)] w fun e w' => e = .returned (.tuple #[.agg (insO (nextI c x k)).cells, .bool (nextI c x k).isSome]) ∧ Ext w w' := by
  by_cases hp : (n : Int) ≤ x
  · rw [nextI_past c x k (by rw [← hn]; exact hp)]
    exact rnext_past A n cap x M k kc w h2 hg hp
  · obtain ⟨y, rfl⟩ : ∃ y : Nat, x = y := ⟨x.toNat, by omega⟩
    obtain rfl := hA (by omega)
    exact rnext_at b off n cap c y M k kc w h2 hg (by omega) hn (hr (by omega))
theorem exec_two {op a y z : Nat} {x : Int} {m : List Int} {v u : Int} (h3 : 3 ≤ op) (h13 : op ≤ 13) (hyl : y < m.length) (hzl : z < m.length) (hv : v = m[y]) (hu : u = m[z]) : execI ⟨op, a, y, z⟩ x m = (x + 1, 0, m.set a (twoI op v u)) := by
  rcases (by omega : op = 3 ∨ op = 4 ∨ op = 5 ∨ op = 6 ∨ op = 7 ∨ op = 8 ∨ op = 9 ∨ op = 10 ∨ op = 11 ∨ op = 12 ∨ op = 13) with rfl | rfl | rfl | rfl | rfl | rfl | rfl | rfl | rfl | rfl | rfl <;> simp [execI, mput, mget_in hyl, mget_in hzl, hv, hu]
end Go.Proofs.YtahljceanodhkaaGreatDoor
