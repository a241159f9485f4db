/- Package hash: the walks of its basics. -/
import Derived.Test.YtahljceanodhkaaGreatDoorOrdp
import Derived.Test.YtahljceanodhkaaGreatDoorHalve
import Derived.Laws.BitsAllLaws
import Derived.LoopN
namespace Go.Proofs.YtahljceanodhkaaGreatDoor
open Go.RowKit
theorem aggSt : aggT Tryz.prog 262 = true := by kernel_rfl
theorem sizeSt : sizeT Tryz.prog 262 = some 4 := by kernel_rfl
theorem wpLoadSt {dst : Option Tmp} {ty' : TypeId} {x : Operand} {pos : String} {after : Array Edge} {guard : Option (Nat × Bool)} {a : Act} {w : World} {K : Act → World → Prop} {Q : Exit → Act → World → Prop} (hx : isAt (a.eval x) = true) (hh : has w (blkOf (a.eval x)) (offOf (a.eval x)) 4 = true) :
    Oper.wp Tryz.prog { dst := dst, op := .load 262 x, type := ty', pos := pos, after := after, guard := guard } a w K Q = K (a.put dst (.agg (gets w (blkOf (a.eval x)) (offOf (a.eval x)) 4))) w := wp_load_big 4 aggSt sizeSt hx hh
theorem runLoadSt {ρ : Operand → Value} {dst : Option Tmp} {ty' : TypeId} {x : Operand} {pos : String} {after : Array Edge} {guard : Option (Nat × Bool)} {w : World} (hx : isAt (ρ x) = true) (hh : has w (blkOf (ρ x)) (offOf (ρ x)) 4 = true) :
    (execOp ρ { dst := dst, op := .load 262 x, type := ty', pos := pos, after := after, guard := guard }).run Tryz.prog w = .ok (.value (.agg (gets w (blkOf (ρ x)) (offOf (ρ x)) 4))) w := run_exec_load_big 4 aggSt sizeSt hx hh
theorem loadVarSt (w : World) (g off : Nat) (hh : has w g off 4 = true) : (loadVar 262 ⟨g, off, none⟩).run Tryz.prog w = .ok (.agg (gets w g off 4)) w := run_loadVar_big Tryz.prog w _ g off 4 aggSt sizeSt hh
attribute [go_sem] aggSt sizeSt
attribute [go_sem ↓ high] wpLoadSt loadVarSt runLoadSt
attribute [go_sem high] wpLoadSt
structure St where (a b c d : Int)
abbrev St.cells (s : St) : Array Value := #[.int .u64 s.a, .int .u64 s.b, .int .u64 s.c, .int .u64 s.d]
attribute [go_sem] St.cells
def rotl (x : Int) (k : Nat) : Int := bits .or .u64 (IntKind.u64.wrap (x * 2 ^ k)) (x / 2 ^ (64 - k))
def add64 (x y : Int) : Int := IntKind.u64.wrap (x + y)
def xor64 (x y : Int) : Int := bits .xor .u64 x y
set_option maxHeartbeats 400000 in
theorem rot32 (x : Int) (w : World) : Calls Tryz.prog 232 #[.int .u64 x, .int .i64 32] w fun e w' => e = .returned (.int .u64 (rotl x 32)) ∧ w = w' := by
  have hb : bits .and .u64 32 63 = 32 := by decide
  go_enter Tryz.func232, Tryz.ntmps232
  go_wp2
  go_ret
  exact ⟨ret_int (by simp [rotl]), rfl⟩
set_option maxHeartbeats 400000 in
theorem rot24 (x : Int) (w : World) : Calls Tryz.prog 232 #[.int .u64 x, .int .i64 24] w fun e w' => e = .returned (.int .u64 (rotl x 24)) ∧ w = w' := by
  have hb : bits .and .u64 24 63 = 24 := by decide
  go_enter Tryz.func232, Tryz.ntmps232
  go_wp2
  go_ret
  exact ⟨ret_int (by simp [rotl]), rfl⟩
set_option maxHeartbeats 400000 in
theorem rot16 (x : Int) (w : World) : Calls Tryz.prog 232 #[.int .u64 x, .int .i64 16] w fun e w' => e = .returned (.int .u64 (rotl x 16)) ∧ w = w' := by
  have hb : bits .and .u64 16 63 = 16 := by decide
  go_enter Tryz.func232, Tryz.ntmps232
  go_wp2
  go_ret
  exact ⟨ret_int (by simp [rotl]), rfl⟩
set_option maxHeartbeats 400000 in
theorem rot63 (x : Int) (w : World) : Calls Tryz.prog 232 #[.int .u64 x, .int .i64 63] w fun e w' => e = .returned (.int .u64 (rotl x 63)) ∧ w = w' := by
  have hb : bits .and .u64 63 63 = 63 := by decide
  go_enter Tryz.func232, Tryz.ntmps232
  go_wp2
  go_ret
  exact ⟨ret_int (by simp [rotl]), rfl⟩
/-- one round -/
def rnd (s : St) (r : Int) : St :=
  let a := xor64 (add64 s.a s.b) r
  let d := rotl (xor64 s.d a) 32
  let c := add64 s.c d
  let b := rotl (xor64 s.b c) 24
  let a := add64 a b
  let d := rotl (xor64 d a) 16
  let c := add64 c d
  let b := rotl (xor64 b c) 63
  ⟨a, b, c, d⟩
def rnds : Nat → St → St | 0, s => s | n + 1, s => rnd (rnds n s) (n + 1)
def stir (s : St) : St := rnds 6 s
set_option maxRecDepth 100000 in
set_option maxHeartbeats 1000000 in
theorem stir_any (b : Nat) (s : St) (w : World) (hb : Blk w b 262 s.cells) :
    Calls Tryz.prog 215 #[.pointer (some ⟨b, 0, none⟩)] w fun e w' => e = .returned (.tuple #[]) ∧ Blk w' b 262 (stir s).cells ∧ Kept (· = b) w w' := by
  have hl := Blk.lt hb
  go_enter Tryz.func215, Tryz.ntmps215
  go_wp2_with fail
  refine wp_region_3 (fun w1 => Blk w1 b 262 s.cells) [(0, 2), (1, 2), (2, 2), (3, 1), (4, 2), (5, 2), (6, 2), (7, 1), (8, 2), (9, 2), (10, 2), (11, 1), (12, 2), (13, 2), (14, 2), (15, 1), (16, 2), (17, 2), (18, 2), (19, 2)] (by kernel_rfl) (by kernel_rfl) (by kernel_rfl) (by kernel_rfl) ?_; intro l' hl'; simp only [List.map_cons, List.map_nil, List.getD_cons_zero, List.getD_cons_succ] at hl'; subst hl'
  (repeat (first | ((apply w3_pure); (· go_simp); (· (intro w1; go_simp; try with_reducible rfl)); (intro K hK; go_simp; refine hK _ _ ?_; clear hK K)) | ((apply w3_skip); (· go_simp); (intro K hK; go_simp; refine hK _ _ ?_; clear hK K)) | ((apply w3_take); (· exact hb); (· go_simp); (· (intro w1 hS; have hc := Blk.cell hS;  go_simp; try with_reducible rfl)); (intro K hK; go_simp; refine hK _ _ ?_; clear hK K)) | ((apply w3_pass); (· exact hb); (· go_simp); (intro K hK; go_simp; refine hK _ _ ?_; clear hK K))))
  refine w3_nil ?_
  go_wp2_with fail
  go_loop [2, 3, 4, 5, 23] (fun t2 t3 t4 t5 i => ∃ k : Nat, k ≤ 6 ∧ i = .int .u64 k ∧ t2 = .int .u64 (rnds k s).a ∧ t3 = .int .u64 (rnds k s).b ∧ t4 = .int .u64 (rnds k s).c ∧ t5 = .int .u64 (rnds k s).d) (fun _ _ _ _ i => 6 - (intOf i).toNat)
  case atStart => exact ⟨0, by omega, rfl, rfl, rfl, rfl, rfl⟩
  case round =>
    obtain ⟨k, hk, rfl, rfl, rfl, rfl, rfl⟩ := hrel
    by_cases hlt : k < 6
    · go_wp2_with fail
      refine (rot32 _ _).mono ?_
      rintro e w1 ⟨rfl, rfl⟩
      go_wp2_with fail
      refine (rot24 _ _).mono ?_
      rintro e w1 ⟨rfl, rfl⟩
      go_wp2_with fail
      refine (rot16 _ _).mono ?_
      rintro e w1 ⟨rfl, rfl⟩
      go_wp2_with fail
      refine (rot63 _ _).mono ?_
      rintro e w1 ⟨rfl, rfl⟩
      go_wp2_with fail
      go_round
      case rel => exact ⟨k + 1, by omega, by go_num, rfl, rfl, rfl, rfl⟩
      case measure => simp [intOf]; omega
    · have hk6 : k = 6 := by omega
      have hh := Blk.has (Blk.drew hb)
      have hm := Blk.melts (Blk.drew hb)
      subst hk6
      go_wp2_with fail
      go_end0
      refine ⟨rfl, ?_, ?_⟩
      · have := Blk.put_ (Blk.drew hb) 0 (rnds 6 s).cells
        exact this
      · ((repeat' (with_reducible (first | apply Kept.drew | apply Kept.drewN | apply Kept.alloc | apply Kept.setCell | apply Kept.putAt | exact Kept.refl _ _))) <;> (intro hlt; first | rfl | (simp at hlt; done) | (exfalso; simp at hlt; omega) | omega))
set_option maxHeartbeats 400000 in
theorem begin_any (k : Int) (w : World) : Calls Tryz.prog 184 #[.int .u64 k] w fun e w' => e = .returned (.agg (St.cells ⟨2611923443488327891, 1376283091369227076, 11820040416388919760, k⟩)) ∧ Ext w w' := by
  go_enter Tryz.func184, Tryz.ntmps184
  go_wp2
  refine ret_cell Tryz.results184 rfl rfl aggSt (by exact sizeSt) (Blk.new' _ _ _ _ (by simp)) ⟨rfl, ?_⟩
  ((repeat' (with_reducible (first | apply Kept.drew | apply Kept.drewN | apply Kept.alloc | apply Kept.setCell | apply Kept.putAt | exact Kept.refl _ _))) <;> (intro hlt; first | rfl | (simp at hlt; done) | (exfalso; simp at hlt; omega) | omega))
def taken (s : St) (n : Int) : St := stir { s with a := xor64 s.a n }
set_option maxHeartbeats 400000 in
theorem take_any (b : Nat) (s : St) (n : Int) (w : World) (hb : Blk w b 262 s.cells) :
    Calls Tryz.prog 185 #[.pointer (some ⟨b, 0, none⟩), .int .u64 n] w fun e w' => e = .returned (.tuple #[]) ∧ Blk w' b 262 (taken s n).cells ∧ Kept (· = b) w w' := by
  go_enter Tryz.func185, Tryz.ntmps185
  go_wp2_with fail
  refine wp_region_3 (fun w1 => Blk w1 b 262 s.cells) [(0, 2), (1, 2), (2, 2), (3, 1), (4, 2), (5, 2), (6, 2), (7, 2), (8, 0)] (by kernel_rfl) (by kernel_rfl) (by kernel_rfl) (by kernel_rfl) ?_; intro l' hl'; simp only [List.map_cons, List.map_nil, List.getD_cons_zero, List.getD_cons_succ] at hl'; subst hl'
  (repeat (first | ((apply w3_pure); (· go_simp); (· (intro w1; go_simp; try with_reducible rfl)); (intro K hK; go_simp; refine hK _ _ ?_; clear hK K)) | ((apply w3_skip); (· go_simp); (intro K hK; go_simp; refine hK _ _ ?_; clear hK K)) | ((apply w3_take); (· exact hb); (· go_simp); (· (intro w1 hS; have hc := Blk.cell hS;  go_simp; try with_reducible rfl)); (intro K hK; go_simp; refine hK _ _ ?_; clear hK K)) | ((apply w3_pass); (· exact hb); (· go_simp); (intro K hK; go_simp; refine hK _ _ ?_; clear hK K))))
  have hc := Blk.cell (Blk.drew hb)
  have hf := Blk.frozen (Blk.drew hb)
  (repeat (first | ((apply w3_pure); (· go_simp); (· (intro w1; go_simp; try with_reducible rfl)); (intro K hK; go_simp; refine hK _ _ ?_; clear hK K)) | ((apply w3_skip); (· go_simp); (intro K hK; go_simp; refine hK _ _ ?_; clear hK K)) | (refine w3_end (by kernel_rfl) (fun K hK => ?_); go_simp; refine hK.out _ _ ?_; clear hK K))); refine w3_nil ?_
  go_wp2_with fail
  have hb1 : Blk (w.drew.setCell ⟨b, 0, none⟩ (.int .u64 (bits .xor .u64 s.a n))) b 262 (St.cells { s with a := xor64 s.a n }) := Blk.set_ (Blk.drew hb) 0 _
  refine (stir_any b _ _ hb1).mono ?_
  rintro e w2 ⟨rfl, hb2, hx2⟩
  go_wp2_with fail
  go_end0
  refine ⟨rfl, hb2, Kept.trans ?_ hx2⟩
  ((repeat' (with_reducible (first | apply Kept.drew | apply Kept.drewN | apply Kept.alloc | apply Kept.setCell | apply Kept.putAt | exact Kept.refl _ _))) <;> (intro hlt; first | rfl | (simp at hlt; done) | (exfalso; simp at hlt; omega) | omega))
/-! ### a digest's bytes, and its number -/
def dgx (d : Dg) : Nat → Int | 0 => d.x0 | 1 => d.x1 | 2 => d.x2 | 3 => d.x3 | 4 => d.x4 | 5 => d.x5 | 6 => d.x6 | 7 => d.x7 | _ => 0
def Dg.ok (d : Dg) : Prop := ∀ j, 0 ≤ dgx d j ∧ dgx d j ≤ 255
def numK (d : Dg) : Nat → Int | 0 => 0 | k + 1 => numK d k + dgx d k * 2 ^ (8 * k)
def numD (d : Dg) : Int := numK d 8
theorem idxDig (d : Dg) (k : Nat) (hk : k < 8) (w : World) : (Instr.index 30 (.agg #[.int .u8 d.x0, .int .u8 d.x1, .int .u8 d.x2, .int .u8 d.x3, .int .u8 d.x4, .int .u8 d.x5, .int .u8 d.x6, .int .u8 d.x7]) (.int .i64 k)).run Tryz.prog w = .ok (.int .u8 (dgx d k)) w := by
  rcases (by omega : k = 0 ∨ k = 1 ∨ k = 2 ∨ k = 3 ∨ k = 4 ∨ k = 5 ∨ k = 6 ∨ k = 7) with rfl | rfl | rfl | rfl | rfl | rfl | rfl | rfl <;> kernel_rfl
theorem pow_cast (n : Nat) : ((2 ^ n : Nat) : Int) = (2 : Int) ^ n := by simp
theorem u64_in {x : Int} (h0 : 0 ≤ x) (h1 : x < 18446744073709551616) : IntKind.u64.wrap x = x := by
  simp only [IntKind.wrap, IntKind.signed, IntKind.bits]
  simp
  omega
theorem or_step (m x : Int) (j : Nat) (hj : j ≤ 56) (hm0 : 0 ≤ m) (hm : m < 2 ^ j) (hx0 : 0 ≤ x) (hx : x ≤ 255) : bits .or .u64 m (IntKind.u64.wrap (x * 2 ^ j)) = m + x * 2 ^ j ∧ m + x * 2 ^ j < 2 ^ (j + 8) := by
  obtain ⟨a, rfl⟩ := Int.eq_ofNat_of_zero_le hm0
  obtain ⟨b, rfl⟩ := Int.eq_ofNat_of_zero_le hx0
  rw [← pow_cast] at hm ⊢
  rw [← pow_cast]
  have ha : a < 2 ^ j := by omega
  have hb : b ≤ 255 := by omega
  have hp : (2 : Nat) ^ (j + 8) = 2 ^ j * 256 := Nat.pow_add 2 j 8
  have hq : (2 : Nat) ^ j ≤ 2 ^ 56 := Nat.pow_le_pow_right (by omega) hj
  have hbp : b * 2 ^ j ≤ 255 * 2 ^ j := Nat.mul_le_mul_right _ hb
  have e1 : ((b : Int) * ((2 ^ j : Nat) : Int)) = ((b * 2 ^ j : Nat) : Int) := by simp
  rw [e1, u64_in (by omega) (by omega), u64_or_nat _ _ (by omega) (by omega)]
  have e2 : a ||| b * 2 ^ j = a + b * 2 ^ j := by
    have := Nat.two_pow_add_eq_or_of_lt ha b
    rw [Nat.or_comm, Nat.mul_comm b, ← this, Nat.add_comm]
  rw [e2]
  refine ⟨by simp, by rw [hp]; omega⟩
theorem numK_lt {d : Dg} (h : d.ok) : ∀ k, k ≤ 8 → 0 ≤ numK d k ∧ numK d k < 2 ^ (8 * k)
  | 0, _ => by simp [numK]
  | k + 1, hk => by
    have ih := numK_lt h k (by omega)
    have hs := or_step (numK d k) (dgx d k) (8 * k) (by omega) ih.1 ih.2 (h k).1 (h k).2
    have hp : (0 : Int) ≤ dgx d k * 2 ^ (8 * k) := Int.mul_nonneg (h k).1 (by rw [← pow_cast]; exact Int.natCast_nonneg _)
    refine ⟨by simp only [numK]; omega, ?_⟩
    have := hs.2
    rw [show 8 * (k + 1) = 8 * k + 8 by omega]
    exact this
theorem numK_step {d : Dg} (h : d.ok) {k : Nat} (hk : k < 8) : bits .or .u64 (numK d k) (IntKind.u64.wrap (dgx d k * 2 ^ (8 * k))) = numK d (k + 1) :=
  (or_step (numK d k) (dgx d k) (8 * k) (by omega) (numK_lt h k (by omega)).1 (numK_lt h k (by omega)).2 (h k).1 (h k).2).1
set_option maxRecDepth 100000 in
set_option maxHeartbeats 400000 in
theorem num_any (d : Dg) (hd : d.ok) (w : World) : Calls Tryz.prog 95 #[.agg #[.int .u8 d.x0, .int .u8 d.x1, .int .u8 d.x2, .int .u8 d.x3, .int .u8 d.x4, .int .u8 d.x5, .int .u8 d.x6, .int .u8 d.x7]] w fun e w' => e = .returned (.int .u64 (numD d)) ∧ Ext w w' := by
  have HD := Lib.hid hd
  clear hd
  go_enter Tryz.func95, Tryz.ntmps95
  go_wp2
  go_loop [3, 7] (fun n i => ∃ k : Nat, k ≤ 8 ∧ i = .int .i64 k ∧ n = .int .u64 (numK d k)) (fun _ i => 8 - (intOf i).toNat)
  case atStart => exact ⟨0, by omega, rfl, rfl⟩
  case round =>
    obtain ⟨k, hk, rfl, rfl⟩ := hrel
    by_cases hlt : k < 8
    · have hx := idxDig d k hlt
      have hb := HD.out k
      go_wp2
      go_round
      case rel => exact ⟨k + 1, by omega, by go_num, by rw [numK_step HD.out hlt]⟩
      case measure => simp [intOf]; omega
    · have hk6 : k = 8 := by omega
      subst hk6
      go_wp2
      go_ret
      refine ⟨rfl, ?_⟩
      ((repeat' (with_reducible (first | apply Kept.drew | apply Kept.drewN | apply Kept.alloc | apply Kept.setCell | apply Kept.putAt | exact Kept.refl _ _))) <;> (intro hlt; first | rfl | (simp at hlt; done) | (exfalso; simp at hlt; omega) | omega))
def dgN (n : Int) : Dg := ⟨n % 256, n / 256 % 256, n / 65536 % 256, n / 16777216 % 256, n / 4294967296 % 256, n / 1099511627776 % 256, n / 281474976710656 % 256, n / 72057594037927936 % 256⟩
theorem dgN_ok (n : Int) : (dgN n).ok := by
  intro j
  match j with
  | 0 => simp only [dgx, dgN]; omega
  | 1 => simp only [dgx, dgN]; omega
  | 2 => simp only [dgx, dgN]; omega
  | 3 => simp only [dgx, dgN]; omega
  | 4 => simp only [dgx, dgN]; omega
  | 5 => simp only [dgx, dgN]; omega
  | 6 => simp only [dgx, dgN]; omega
  | 7 => simp only [dgx, dgN]; omega
  | n + 8 => simp [dgx]
theorem dg0_ok : Dg.zero.ok := by
  intro j
  match j with
  | 0 | 1 | 2 | 3 | 4 | 5 | 6 | 7 => simp [dgx]
  | n + 8 => simp [dgx]
set_option maxRecDepth 100000 in
set_option maxHeartbeats 400000 in
theorem fromnum_any (n : Int) (w : World) (h0 : 0 ≤ n) : Calls Tryz.prog 129 #[.int .u64 n] w fun e w' => e = .returned (.agg (dgN n).cells) ∧ Ext w w' := by
  go_enter Tryz.func129, Tryz.ntmps129
  go_wp2
  refine wp_loop_rounds 9 ?_
  iterate 9 (rw [rounds_succ]; go_wp2)
  refine ret_cell Tryz.results129 rfl rfl aggDig (by exact sizeDig) (Blk.alloc (Blk.new' _ _ _ _ (by simp)) _) ⟨rfl, ?_⟩
  ((repeat' (with_reducible (first | apply Kept.drew | apply Kept.drewN | apply Kept.alloc | apply Kept.setCell | apply Kept.putAt | exact Kept.refl _ _))) <;> (intro hlt; first | rfl | (simp at hlt; done) | (exfalso; simp at hlt; omega) | omega))
theorem wrap64_bd (x : Int) : 0 ≤ IntKind.u64.wrap x ∧ IntKind.u64.wrap x < 18446744073709551616 := by
  simp only [IntKind.wrap, IntKind.signed, IntKind.bits]
  simp
  omega
theorem xor64_bd (x y : Int) : 0 ≤ xor64 x y ∧ xor64 x y < 18446744073709551616 := wrap64_bd _
def out (s : St) : Dg := dgN (xor64 s.a s.c)
theorem out_ok (s : St) : (out s).ok := dgN_ok _
set_option maxHeartbeats 400000 in
theorem gives_any (b : Nat) (s : St) (w : World) (hb : Blk w b 262 s.cells) :
    Calls Tryz.prog 186 #[.pointer (some ⟨b, 0, none⟩)] w fun e w' => e = .returned (.agg (out s).cells) ∧ Ext w w' := by
  have hl := Blk.lt hb
  have h0 := (xor64_bd s.a s.c).1
  have H0 := Lib.hid h0
  clear h0
  have hr := Blk.new w 30 Dg.zero.cells
  have hb1 := Blk.alloc hb (.cells Dg.zero.cells 30)
  go_enter Tryz.func186, Tryz.ntmps186
  go_wp2_with fail
  refine wp_region_3 (fun w1 => Ext (w.alloc (.cells Dg.zero.cells 30)) w1) [(0, 2), (1, 2), (2, 2), (3, 1), (4, 2), (5, 2), (6, 2), (7, 1), (8, 2), (9, 0), (10, 0)] (by kernel_rfl) (by kernel_rfl) (by kernel_rfl) (by kernel_rfl) ?_; intro l' hl'; simp only [List.map_cons, List.map_nil, List.getD_cons_zero, List.getD_cons_succ] at hl'; subst hl'
  (repeat (first | ((apply w3_pure); (· go_simp); (· (intro w1; go_simp; try with_reducible rfl)); (intro K hK; go_simp; refine hK _ _ ?_; clear hK K)) | ((apply w3_skip); (· go_simp); (intro K hK; go_simp; refine hK _ _ ?_; clear hK K)) | ((apply w3_take); (· exact (Kept.drew (Kept.refl _ _))); (· go_simp); (· (intro w1 hS; have d1 := Blk.ext hb1 hS; have hc := Blk.cell d1;  go_simp; try with_reducible rfl)); (intro K hK; go_simp; refine hK _ _ ?_; clear hK K)) | ((apply w3_pass); (· exact (Kept.drew (Kept.refl _ _))); (· go_simp); (intro K hK; go_simp; refine hK _ _ ?_; clear hK K))))
  (refine w3_act (fun K hK => ?_); go_simp)
  go_wp2_with fail
  refine (fromnum_any _ _ H0.out).mono ?_
  rintro e w2 ⟨rfl, hx2⟩
  have hx2' : Ext (w.alloc (.cells Dg.zero.cells 30)) w2 := ((Kept.refl _ _).drew).trans hx2
  refine hK.out _ _ (fun _ => hx2') ?_
  clear hK K
  have hr2 := Blk.ext hr hx2'
  have hh := Blk.has hr2
  have hm := Blk.melts hr2
  (repeat (first | ((apply w3_pure); (· go_simp); (· (intro w1; go_simp; try with_reducible rfl)); (intro K hK; go_simp; refine hK _ _ ?_; clear hK K)) | ((apply w3_skip); (· go_simp); (intro K hK; go_simp; refine hK _ _ ?_; clear hK K)) | (refine w3_end (by kernel_rfl) (fun K hK => ?_); go_simp; refine hK.out _ _ ?_; clear hK K))); refine w3_nil ?_
  go_wp2
  refine ret_cell Tryz.results186 rfl rfl aggDig (by exact sizeDig) (Blk.put_ hr2 _ _) ⟨rfl, ?_⟩
  exact Kept.putAt (((Kept.refl _ w).alloc _).trans hx2') _ _ _ (fun h => by omega)
end Go.Proofs.YtahljceanodhkaaGreatDoor
