/- Several texts joined: Hb, Hc, Hd, He, Hf, Ra, Rb, Ordq, Rc, App, Rd, Ta, Tb, Re, Halvb, Halvp, Halvn, Refd, Rf, Rg, Rh, Ri, Rj, Rk. -/
import Derived.Laws.BitsAllLaws
import Derived.LoopN
import Derived.Laws.IdiomCopy
import Derived.Lib.ConvBytes
import Derived.Laws.AppendOwn
import Derived.Laws.AppendOwnNone
import Derived.Test.YtahljceanodhkaaGreatDoorShelf
import Derived.Laws.BytesArg
import Derived.Test.YtahljceanodhkaaGreatDoorWba
/- Package hash: the walks of its basics. -/
namespace Go.Proofs.YtahljceanodhkaaGreatDoor
open Go.RowKit
theorem aggSt : aggT Tryz.prog 262 = true := by kernel_rfl
theorem sizeSt : sizeT Tryz.prog 262 = some 4 := by kernel_rfl
theorem wpLoadSt {dst : Option Tmp} {ty' : TypeId} {x : Operand} {pos : String} {after : Array Edge} {guard : Option (Nat × Bool)} {a : Act} {w : World} {K : Act → World → Prop} {Q : Exit → Act → World → Prop} (hx : isAt (a.eval x) = true) (hh : has w (blkOf (a.eval x)) (offOf (a.eval x)) 4 = true) :
    Oper.wp Tryz.prog { dst := dst, op := .load 262 x, type := ty', pos := pos, after := after, guard := guard } a w K Q = K (a.put dst (.agg (gets w (blkOf (a.eval x)) (offOf (a.eval x)) 4))) w := wp_load_big 4 aggSt sizeSt hx hh
theorem runLoadSt {ρ : Operand → Value} {dst : Option Tmp} {ty' : TypeId} {x : Operand} {pos : String} {after : Array Edge} {guard : Option (Nat × Bool)} {w : World} (hx : isAt (ρ x) = true) (hh : has w (blkOf (ρ x)) (offOf (ρ x)) 4 = true) :
    (execOp ρ { dst := dst, op := .load 262 x, type := ty', pos := pos, after := after, guard := guard }).run Tryz.prog w = .ok (.value (.agg (gets w (blkOf (ρ x)) (offOf (ρ x)) 4))) w := run_exec_load_big 4 aggSt sizeSt hx hh
theorem loadVarSt (w : World) (g off : Nat) (hh : has w g off 4 = true) : (loadVar 262 ⟨g, off, none⟩).run Tryz.prog w = .ok (.agg (gets w g off 4)) w := run_loadVar_big Tryz.prog w _ g off 4 aggSt sizeSt hh
attribute [go_sem] aggSt sizeSt
attribute [go_sem ↓ high] wpLoadSt loadVarSt runLoadSt
attribute [go_sem high] wpLoadSt
structure St where (a b c d : Int)
abbrev St.cells (s : St) : Array Value := #[.int .u64 s.a, .int .u64 s.b, .int .u64 s.c, .int .u64 s.d]
attribute [go_sem] St.cells
def rotl (x : Int) (k : Nat) : Int := bits .or .u64 (IntKind.u64.wrap (x * 2 ^ k)) (x / 2 ^ (64 - k))
def add64 (x y : Int) : Int := IntKind.u64.wrap (x + y)
def xor64 (x y : Int) : Int := bits .xor .u64 x y
set_option maxHeartbeats 400000 in
theorem rot32 (x : Int) (w : World) : Calls Tryz.prog 232 #[.int .u64 x, .int .i64 32] w fun e w' => e = .returned (.int .u64 (rotl x 32)) ∧ w = w' := by
  have hb : bits .and .u64 32 63 = 32 := by decide
  go_enter Tryz.func232, Tryz.ntmps232
  go_wp2
  go_ret
  exact ⟨ret_int (by simp [rotl]), rfl⟩
set_option maxHeartbeats 400000 in
theorem rot24 (x : Int) (w : World) : Calls Tryz.prog 232 #[.int .u64 x, .int .i64 24] w fun e w' => e = .returned (.int .u64 (rotl x 24)) ∧ w = w' := by
  have hb : bits .and .u64 24 63 = 24 := by decide
  go_enter Tryz.func232, Tryz.ntmps232
  go_wp2
  go_ret
  exact ⟨ret_int (by simp [rotl]), rfl⟩
set_option maxHeartbeats 400000 in
theorem rot16 (x : Int) (w : World) : Calls Tryz.prog 232 #[.int .u64 x, .int .i64 16] w fun e w' => e = .returned (.int .u64 (rotl x 16)) ∧ w = w' := by
  have hb : bits .and .u64 16 63 = 16 := by decide
  go_enter Tryz.func232, Tryz.ntmps232
  go_wp2
  go_ret
  exact ⟨ret_int (by simp [rotl]), rfl⟩
set_option maxHeartbeats 400000 in
theorem rot63 (x : Int) (w : World) : Calls Tryz.prog 232 #[.int .u64 x, .int .i64 63] w fun e w' => e = .returned (.int .u64 (rotl x 63)) ∧ w = w' := by
  have hb : bits .and .u64 63 63 = 63 := by decide
  go_enter Tryz.func232, Tryz.ntmps232
  go_wp2
  go_ret
  exact ⟨ret_int (by simp [rotl]), rfl⟩
/-- one round -/
def rnd (s : St) (r : Int) : St :=
  let a := xor64 (add64 s.a s.b) r
  let d := rotl (xor64 s.d a) 32
  let c := add64 s.c d
  let b := rotl (xor64 s.b c) 24
  let a := add64 a b
  let d := rotl (xor64 d a) 16
  let c := add64 c d
  let b := rotl (xor64 b c) 63
  ⟨a, b, c, d⟩
def rnds : Nat → St → St | 0, s => s | n + 1, s => rnd (rnds n s) (n + 1)
def stir (s : St) : St := rnds 6 s
set_option maxRecDepth 100000 in
set_option maxHeartbeats 1000000 in
theorem stir_any (b : Nat) (s : St) (w : World) (hb : Blk w b 262 s.cells) :
    Calls Tryz.prog 215 #[.pointer (some ⟨b, 0, none⟩)] w fun e w' => e = .returned (.tuple #[]) ∧ Blk w' b 262 (stir s).cells ∧ Kept (· = b) w w' := by
  have hl := Blk.lt hb
  go_enter Tryz.func215, Tryz.ntmps215
  go_wp2_with fail
  refine wp_region_3 (fun w1 => Blk w1 b 262 s.cells) [(0, 2), (1, 2), (2, 2), (3, 1), (4, 2), (5, 2), (6, 2), (7, 1), (8, 2), (9, 2), (10, 2), (11, 1), (12, 2), (13, 2), (14, 2), (15, 1), (16, 2), (17, 2), (18, 2), (19, 2)] (by kernel_rfl) (by kernel_rfl) (by kernel_rfl) (by kernel_rfl) ?_; intro l' hl'; simp only [List.map_cons, List.map_nil, List.getD_cons_zero, List.getD_cons_succ] at hl'; subst hl'
  (repeat (first | ((apply w3_pure); (· go_simp); (· (intro w1; go_simp; try with_reducible rfl)); (intro K hK; go_simp; refine hK _ _ ?_; clear hK K)) | ((apply w3_skip); (· go_simp); (intro K hK; go_simp; refine hK _ _ ?_; clear hK K)) | ((apply w3_take); (· exact hb); (· go_simp); (· (intro w1 hS; have hc := Blk.cell hS;  go_simp; try with_reducible rfl)); (intro K hK; go_simp; refine hK _ _ ?_; clear hK K)) | ((apply w3_pass); (· exact hb); (· go_simp); (intro K hK; go_simp; refine hK _ _ ?_; clear hK K))))
  refine w3_nil ?_
  go_wp2_with fail
  go_loop [2, 3, 4, 5, 23] (fun t2 t3 t4 t5 i => ∃ k : Nat, k ≤ 6 ∧ i = .int .u64 k ∧ t2 = .int .u64 (rnds k s).a ∧ t3 = .int .u64 (rnds k s).b ∧ t4 = .int .u64 (rnds k s).c ∧ t5 = .int .u64 (rnds k s).d) (fun _ _ _ _ i => 6 - (intOf i).toNat)
  case atStart => exact ⟨0, by omega, rfl, rfl, rfl, rfl, rfl⟩
  case round =>
    obtain ⟨k, hk, rfl, rfl, rfl, rfl, rfl⟩ := hrel
    by_cases hlt : k < 6
    · go_wp2_with fail
      refine (rot32 _ _).mono ?_
      rintro e w1 ⟨rfl, rfl⟩
      go_wp2_with fail
      refine (rot24 _ _).mono ?_
      rintro e w1 ⟨rfl, rfl⟩
      go_wp2_with fail
      refine (rot16 _ _).mono ?_
      rintro e w1 ⟨rfl, rfl⟩
      go_wp2_with fail
      refine (rot63 _ _).mono ?_
      rintro e w1 ⟨rfl, rfl⟩
      go_wp2_with fail
      go_round
      case rel => exact ⟨k + 1, by omega, by go_num, rfl, rfl, rfl, rfl⟩
      case measure => simp [intOf]; omega
    · have hk6 : k = 6 := by omega
      have hh := Blk.has (Blk.drew hb)
      have hm := Blk.melts (Blk.drew hb)
      subst hk6
      go_wp2_with fail
      go_end0
      refine ⟨rfl, ?_, ?_⟩
      · have := Blk.put_ (Blk.drew hb) 0 (rnds 6 s).cells
        exact this
      · ((repeat' (with_reducible (first | apply Kept.drew | apply Kept.drewN | apply Kept.alloc | apply Kept.setCell | apply Kept.putAt | exact Kept.refl _ _))) <;> (intro hlt; first | rfl | (simp at hlt; done) | (exfalso; simp at hlt; omega) | omega))
set_option maxHeartbeats 400000 in
theorem begin_any (k : Int) (w : World) : Calls Tryz.prog 184 #[.int .u64 k] w fun e w' => e = .returned (.agg (St.cells ⟨2611923443488327891, 1376283091369227076, 11820040416388919760, k⟩)) ∧ Ext w w' := by
  go_enter Tryz.func184, Tryz.ntmps184
  go_wp2
  refine ret_cell Tryz.results184 rfl rfl aggSt (by exact sizeSt) (Blk.new' _ _ _ _ (by simp)) ⟨rfl, ?_⟩
  ((repeat' (with_reducible (first | apply Kept.drew | apply Kept.drewN | apply Kept.alloc | apply Kept.setCell | apply Kept.putAt | exact Kept.refl _ _))) <;> (intro hlt; first | rfl | (simp at hlt; done) | (exfalso; simp at hlt; omega) | omega))
def taken (s : St) (n : Int) : St := stir { s with a := xor64 s.a n }
set_option maxHeartbeats 400000 in
theorem take_any (b : Nat) (s : St) (n : Int) (w : World) (hb : Blk w b 262 s.cells) :
    Calls Tryz.prog 185 #[.pointer (some ⟨b, 0, none⟩), .int .u64 n] w fun e w' => e = .returned (.tuple #[]) ∧ Blk w' b 262 (taken s n).cells ∧ Kept (· = b) w w' := by
  go_enter Tryz.func185, Tryz.ntmps185
  go_wp2_with fail
  refine wp_region_3 (fun w1 => Blk w1 b 262 s.cells) [(0, 2), (1, 2), (2, 2), (3, 1), (4, 2), (5, 2), (6, 2), (7, 2), (8, 0)] (by kernel_rfl) (by kernel_rfl) (by kernel_rfl) (by kernel_rfl) ?_; intro l' hl'; simp only [List.map_cons, List.map_nil, List.getD_cons_zero, List.getD_cons_succ] at hl'; subst hl'
  (repeat (first | ((apply w3_pure); (· go_simp); (· (intro w1; go_simp; try with_reducible rfl)); (intro K hK; go_simp; refine hK _ _ ?_; clear hK K)) | ((apply w3_skip); (· go_simp); (intro K hK; go_simp; refine hK _ _ ?_; clear hK K)) | ((apply w3_take); (· exact hb); (· go_simp); (· (intro w1 hS; have hc := Blk.cell hS;  go_simp; try with_reducible rfl)); (intro K hK; go_simp; refine hK _ _ ?_; clear hK K)) | ((apply w3_pass); (· exact hb); (· go_simp); (intro K hK; go_simp; refine hK _ _ ?_; clear hK K))))
  have hc := Blk.cell (Blk.drew hb)
  have hf := Blk.frozen (Blk.drew hb)
  (repeat (first | ((apply w3_pure); (· go_simp); (· (intro w1; go_simp; try with_reducible rfl)); (intro K hK; go_simp; refine hK _ _ ?_; clear hK K)) | ((apply w3_skip); (· go_simp); (intro K hK; go_simp; refine hK _ _ ?_; clear hK K)) | (refine w3_end (by kernel_rfl) (fun K hK => ?_); go_simp; refine hK.out _ _ ?_; clear hK K))); refine w3_nil ?_
  go_wp2_with fail
  have hb1 : Blk (w.drew.setCell ⟨b, 0, none⟩ (.int .u64 (bits .xor .u64 s.a n))) b 262 (St.cells { s with a := xor64 s.a n }) := Blk.set_ (Blk.drew hb) 0 _
  refine (stir_any b _ _ hb1).mono ?_
  rintro e w2 ⟨rfl, hb2, hx2⟩
  go_wp2_with fail
  go_end0
  refine ⟨rfl, hb2, Kept.trans ?_ hx2⟩
  ((repeat' (with_reducible (first | apply Kept.drew | apply Kept.drewN | apply Kept.alloc | apply Kept.setCell | apply Kept.putAt | exact Kept.refl _ _))) <;> (intro hlt; first | rfl | (simp at hlt; done) | (exfalso; simp at hlt; omega) | omega))
/-! ### a digest's bytes, and its number -/
def dgx (d : Dg) : Nat → Int | 0 => d.x0 | 1 => d.x1 | 2 => d.x2 | 3 => d.x3 | 4 => d.x4 | 5 => d.x5 | 6 => d.x6 | 7 => d.x7 | _ => 0
def Dg.ok (d : Dg) : Prop := ∀ j, 0 ≤ dgx d j ∧ dgx d j ≤ 255
def numK (d : Dg) : Nat → Int | 0 => 0 | k + 1 => numK d k + dgx d k * 2 ^ (8 * k)
def numD (d : Dg) : Int := numK d 8
theorem idxDig (d : Dg) (k : Nat) (hk : k < 8) (w : World) : (Instr.index 30 (.agg #[.int .u8 d.x0, .int .u8 d.x1, .int .u8 d.x2, .int .u8 d.x3, .int .u8 d.x4, .int .u8 d.x5, .int .u8 d.x6, .int .u8 d.x7]) (.int .i64 k)).run Tryz.prog w = .ok (.int .u8 (dgx d k)) w := by
  rcases (by omega : k = 0 ∨ k = 1 ∨ k = 2 ∨ k = 3 ∨ k = 4 ∨ k = 5 ∨ k = 6 ∨ k = 7) with rfl | rfl | rfl | rfl | rfl | rfl | rfl | rfl <;> kernel_rfl
theorem pow_cast (n : Nat) : ((2 ^ n : Nat) : Int) = (2 : Int) ^ n := by simp
theorem u64_in {x : Int} (h0 : 0 ≤ x) (h1 : x < 18446744073709551616) : IntKind.u64.wrap x = x := by
  simp only [IntKind.wrap, IntKind.signed, IntKind.bits]
  simp
  omega
theorem or_step (m x : Int) (j : Nat) (hj : j ≤ 56) (hm0 : 0 ≤ m) (hm : m < 2 ^ j) (hx0 : 0 ≤ x) (hx : x ≤ 255) : bits .or .u64 m (IntKind.u64.wrap (x * 2 ^ j)) = m + x * 2 ^ j ∧ m + x * 2 ^ j < 2 ^ (j + 8) := by
  obtain ⟨a, rfl⟩ := Int.eq_ofNat_of_zero_le hm0
  obtain ⟨b, rfl⟩ := Int.eq_ofNat_of_zero_le hx0
  rw [← pow_cast] at hm ⊢
  rw [← pow_cast]
  have ha : a < 2 ^ j := by omega
  have hb : b ≤ 255 := by omega
  have hp : (2 : Nat) ^ (j + 8) = 2 ^ j * 256 := Nat.pow_add 2 j 8
  have hq : (2 : Nat) ^ j ≤ 2 ^ 56 := Nat.pow_le_pow_right (by omega) hj
  have hbp : b * 2 ^ j ≤ 255 * 2 ^ j := Nat.mul_le_mul_right _ hb
  have e1 : ((b : Int) * ((2 ^ j : Nat) : Int)) = ((b * 2 ^ j : Nat) : Int) := by simp
  rw [e1, u64_in (by omega) (by omega), u64_or_nat _ _ (by omega) (by omega)]
  have e2 : a ||| b * 2 ^ j = a + b * 2 ^ j := by
    have := Nat.two_pow_add_eq_or_of_lt ha b
    rw [Nat.or_comm, Nat.mul_comm b, ← this, Nat.add_comm]
  rw [e2]
  refine ⟨by simp, by rw [hp]; omega⟩
theorem numK_lt {d : Dg} (h : d.ok) : ∀ k, k ≤ 8 → 0 ≤ numK d k ∧ numK d k < 2 ^ (8 * k)
  | 0, _ => by simp [numK]
  | k + 1, hk => by
    have ih := numK_lt h k (by omega)
    have hs := or_step (numK d k) (dgx d k) (8 * k) (by omega) ih.1 ih.2 (h k).1 (h k).2
    have hp : (0 : Int) ≤ dgx d k * 2 ^ (8 * k) := Int.mul_nonneg (h k).1 (by rw [← pow_cast]; exact Int.natCast_nonneg _)
    refine ⟨by simp only [numK]; omega, ?_⟩
    have := hs.2
    rw [show 8 * (k + 1) = 8 * k + 8 by omega]
    exact this
theorem numK_step {d : Dg} (h : d.ok) {k : Nat} (hk : k < 8) : bits .or .u64 (numK d k) (IntKind.u64.wrap (dgx d k * 2 ^ (8 * k))) = numK d (k + 1) :=
  (or_step (numK d k) (dgx d k) (8 * k) (by omega) (numK_lt h k (by omega)).1 (numK_lt h k (by omega)).2 (h k).1 (h k).2).1
set_option maxRecDepth 100000 in
set_option maxHeartbeats 400000 in
theorem num_any (d : Dg) (hd : d.ok) (w : World) : Calls Tryz.prog 95 #[.agg #[.int .u8 d.x0, .int .u8 d.x1, .int .u8 d.x2, .int .u8 d.x3, .int .u8 d.x4, .int .u8 d.x5, .int .u8 d.x6, .int .u8 d.x7]] w fun e w' => e = .returned (.int .u64 (numD d)) ∧ Ext w w' := by
  have HD := Lib.hid hd
  clear hd
  go_enter Tryz.func95, Tryz.ntmps95
  go_wp2
  go_loop [3, 7] (fun n i => ∃ k : Nat, k ≤ 8 ∧ i = .int .i64 k ∧ n = .int .u64 (numK d k)) (fun _ i => 8 - (intOf i).toNat)
  case atStart => exact ⟨0, by omega, rfl, rfl⟩
  case round =>
    obtain ⟨k, hk, rfl, rfl⟩ := hrel
    by_cases hlt : k < 8
    · have hx := idxDig d k hlt
      have hb := HD.out k
      go_wp2
      go_round
      case rel => exact ⟨k + 1, by omega, by go_num, by rw [numK_step HD.out hlt]⟩
      case measure => simp [intOf]; omega
    · have hk6 : k = 8 := by omega
      subst hk6
      go_wp2
      go_ret
      refine ⟨rfl, ?_⟩
      ((repeat' (with_reducible (first | apply Kept.drew | apply Kept.drewN | apply Kept.alloc | apply Kept.setCell | apply Kept.putAt | exact Kept.refl _ _))) <;> (intro hlt; first | rfl | (simp at hlt; done) | (exfalso; simp at hlt; omega) | omega))
def dgN (n : Int) : Dg := ⟨n % 256, n / 256 % 256, n / 65536 % 256, n / 16777216 % 256, n / 4294967296 % 256, n / 1099511627776 % 256, n / 281474976710656 % 256, n / 72057594037927936 % 256⟩
theorem dgN_ok (n : Int) : (dgN n).ok := by
  intro j
  match j with
  | 0 => simp only [dgx, dgN]; omega
  | 1 => simp only [dgx, dgN]; omega
  | 2 => simp only [dgx, dgN]; omega
  | 3 => simp only [dgx, dgN]; omega
  | 4 => simp only [dgx, dgN]; omega
  | 5 => simp only [dgx, dgN]; omega
  | 6 => simp only [dgx, dgN]; omega
  | 7 => simp only [dgx, dgN]; omega
  | n + 8 => simp [dgx]
theorem dg0_ok : Dg.zero.ok := by
  intro j
  match j with
  | 0 | 1 | 2 | 3 | 4 | 5 | 6 | 7 => simp [dgx]
  | n + 8 => simp [dgx]
set_option maxRecDepth 100000 in
set_option maxHeartbeats 400000 in
theorem fromnum_any (n : Int) (w : World) (_h0 : 0 ≤ n) : Calls Tryz.prog 129 #[.int .u64 n] w fun e w' => e = .returned (.agg (dgN n).cells) ∧ Ext w w' := by
  go_enter Tryz.func129, Tryz.ntmps129
  go_wp2
  refine wp_loop_rounds 9 ?_
  iterate 9 (rw [rounds_succ]; go_wp2)
  refine ret_cell Tryz.results129 rfl rfl aggDig (by exact sizeDig) (Blk.alloc (Blk.new' _ _ _ _ (by simp)) _) ⟨rfl, ?_⟩
  ((repeat' (with_reducible (first | apply Kept.drew | apply Kept.drewN | apply Kept.alloc | apply Kept.setCell | apply Kept.putAt | exact Kept.refl _ _))) <;> (intro hlt; first | rfl | (simp at hlt; done) | (exfalso; simp at hlt; omega) | omega))
theorem wrap64_bd (x : Int) : 0 ≤ IntKind.u64.wrap x ∧ IntKind.u64.wrap x < 18446744073709551616 := by
  simp only [IntKind.wrap, IntKind.signed, IntKind.bits]
  simp
  omega
theorem xor64_bd (x y : Int) : 0 ≤ xor64 x y ∧ xor64 x y < 18446744073709551616 := wrap64_bd _
def out (s : St) : Dg := dgN (xor64 s.a s.c)
theorem out_ok (s : St) : (out s).ok := dgN_ok _
set_option maxHeartbeats 400000 in
theorem gives_any (b : Nat) (s : St) (w : World) (hb : Blk w b 262 s.cells) :
    Calls Tryz.prog 186 #[.pointer (some ⟨b, 0, none⟩)] w fun e w' => e = .returned (.agg (out s).cells) ∧ Ext w w' := by
  have hl := Blk.lt hb
  have h0 := (xor64_bd s.a s.c).1
  have H0 := Lib.hid h0
  clear h0
  have hr := Blk.new w 30 Dg.zero.cells
  have hb1 := Blk.alloc hb (.cells Dg.zero.cells 30)
  go_enter Tryz.func186, Tryz.ntmps186
  go_wp2_with fail
  refine wp_region_3 (fun w1 => Ext (w.alloc (.cells Dg.zero.cells 30)) w1) [(0, 2), (1, 2), (2, 2), (3, 1), (4, 2), (5, 2), (6, 2), (7, 1), (8, 2), (9, 0), (10, 0)] (by kernel_rfl) (by kernel_rfl) (by kernel_rfl) (by kernel_rfl) ?_; intro l' hl'; simp only [List.map_cons, List.map_nil, List.getD_cons_zero, List.getD_cons_succ] at hl'; subst hl'
  (repeat (first | ((apply w3_pure); (· go_simp); (· (intro w1; go_simp; try with_reducible rfl)); (intro K hK; go_simp; refine hK _ _ ?_; clear hK K)) | ((apply w3_skip); (· go_simp); (intro K hK; go_simp; refine hK _ _ ?_; clear hK K)) | ((apply w3_take); (· exact (Kept.drew (Kept.refl _ _))); (· go_simp); (· (intro w1 hS; have d1 := Blk.ext hb1 hS; have hc := Blk.cell d1;  go_simp; try with_reducible rfl)); (intro K hK; go_simp; refine hK _ _ ?_; clear hK K)) | ((apply w3_pass); (· exact (Kept.drew (Kept.refl _ _))); (· go_simp); (intro K hK; go_simp; refine hK _ _ ?_; clear hK K))))
  (refine w3_act (fun K hK => ?_); go_simp)
  go_wp2_with fail
  refine (fromnum_any _ _ H0.out).mono ?_
  rintro e w2 ⟨rfl, hx2⟩
  have hx2' : Ext (w.alloc (.cells Dg.zero.cells 30)) w2 := ((Kept.refl _ _).drew).trans hx2
  refine hK.out _ _ (fun _ => hx2') ?_
  clear hK K
  have hr2 := Blk.ext hr hx2'
  have hh := Blk.has hr2
  have hm := Blk.melts hr2
  (repeat (first | ((apply w3_pure); (· go_simp); (· (intro w1; go_simp; try with_reducible rfl)); (intro K hK; go_simp; refine hK _ _ ?_; clear hK K)) | ((apply w3_skip); (· go_simp); (intro K hK; go_simp; refine hK _ _ ?_; clear hK K)) | (refine w3_end (by kernel_rfl) (fun K hK => ?_); go_simp; refine hK.out _ _ ?_; clear hK K))); refine w3_nil ?_
  go_wp2
  refine ret_cell Tryz.results186 rfl rfl aggDig (by exact sizeDig) (Blk.put_ hr2 _ _) ⟨rfl, ?_⟩
  exact Kept.putAt (((Kept.refl _ w).alloc _).trans hx2') _ _ _ (fun h => by omega)
end Go.Proofs.YtahljceanodhkaaGreatDoor

/- Package hash: Two; a slice of digests, and Many. -/
namespace Go.Proofs.YtahljceanodhkaaGreatDoor
open Go.RowKit
abbrev bg (k : Int) : St := ⟨2611923443488327891, 1376283091369227076, 11820040416388919760, k⟩
def hTwo (a b : Dg) : Dg := out (taken (taken (bg 3) (numD a)) (numD b))
set_option maxRecDepth 100000 in
set_option maxHeartbeats 1000000 in
theorem two_any (a b : Dg) (ha : a.ok) (hb : b.ok) (w : World) : Calls Tryz.prog 193 #[.agg #[.int .u8 a.x0, .int .u8 a.x1, .int .u8 a.x2, .int .u8 a.x3, .int .u8 a.x4, .int .u8 a.x5, .int .u8 a.x6, .int .u8 a.x7], .agg #[.int .u8 b.x0, .int .u8 b.x1, .int .u8 b.x2, .int .u8 b.x3, .int .u8 b.x4, .int .u8 b.x5, .int .u8 b.x6, .int .u8 b.x7]] w fun e w' => e = .returned (.agg (hTwo a b).cells) ∧ Ext w w' := by
  have HA := Lib.hid ha
  have HB := Lib.hid hb
  clear ha hb
  have hx0 : Ext w _ := (((Kept.refl _ w).alloc (.cells #[.int .u8 a.x0, .int .u8 a.x1, .int .u8 a.x2, .int .u8 a.x3, .int .u8 a.x4, .int .u8 a.x5, .int .u8 a.x6, .int .u8 a.x7] 30)).alloc (.cells #[.int .u8 b.x0, .int .u8 b.x1, .int .u8 b.x2, .int .u8 b.x3, .int .u8 b.x4, .int .u8 b.x5, .int .u8 b.x6, .int .u8 b.x7] 30)).alloc (.cells Dg.zero.cells 30)
  have hB0 : Blk _ (w.heap.size + 1) 30 b.cells := Blk.alloc (Blk.new' (w.alloc (.cells #[.int .u8 a.x0, .int .u8 a.x1, .int .u8 a.x2, .int .u8 a.x3, .int .u8 a.x4, .int .u8 a.x5, .int .u8 a.x6, .int .u8 a.x7] 30)) _ _ _ (by simp)) (.cells Dg.zero.cells 30)
  have hA0 : Blk _ w.heap.size 30 a.cells := Blk.alloc (Blk.alloc (Blk.new w _ _) (.cells #[.int .u8 b.x0, .int .u8 b.x1, .int .u8 b.x2, .int .u8 b.x3, .int .u8 b.x4, .int .u8 b.x5, .int .u8 b.x6, .int .u8 b.x7] 30)) (.cells Dg.zero.cells 30)
  have hR0 : Blk _ (w.heap.size + 1 + 1) 30 Dg.zero.cells := Blk.new' ((w.alloc (.cells #[.int .u8 a.x0, .int .u8 a.x1, .int .u8 a.x2, .int .u8 a.x3, .int .u8 a.x4, .int .u8 a.x5, .int .u8 a.x6, .int .u8 a.x7] 30)).alloc (.cells #[.int .u8 b.x0, .int .u8 b.x1, .int .u8 b.x2, .int .u8 b.x3, .int .u8 b.x4, .int .u8 b.x5, .int .u8 b.x6, .int .u8 b.x7] 30)) _ _ _ (by simp)
  go_enter Tryz.func193, Tryz.ntmps193
  go_wp2_with fail
  refine (begin_any 3 _).mono ?_
  rintro e w1 ⟨rfl, hx1⟩
  have hA1 := Blk.ext hA0 hx1
  have hB1 := Blk.ext hB0 hx1
  have hR1 := Blk.ext hR0 hx1
  have hl1 := Blk.lt hA1
  have hh1 := Blk.has hA1
  have hg1 := Blk.gets hA1
  go_wp2_with fail
  refine (num_any a HA.out _).mono ?_
  rintro e w2 ⟨rfl, hx2⟩
  have hs2 := Blk.ext (Blk.new w1 262 (bg 3).cells) hx2
  go_wp2_with fail
  refine (take_any _ _ _ _ hs2).mono ?_
  rintro e w3 ⟨rfl, hs3, hx3⟩
  have hx30 : Ext w1 w3 := (((Kept.refl _ w1).alloc _).trans hx2).trans' hx3 (fun i hi e => by omega)
  have hB3 := Blk.ext hB1 hx30
  have hh3 := Blk.has hB3
  have hg3 := Blk.gets hB3
  go_wp2_with fail
  refine (num_any b HB.out _).mono ?_
  rintro e w4 ⟨rfl, hx4⟩
  go_wp2_with fail
  refine (take_any _ _ _ _ (Blk.ext hs3 hx4)).mono ?_
  rintro e w5 ⟨rfl, hs5, hx5⟩
  have hx50 : Ext w1 w5 := (hx30.trans hx4).trans' hx5 (fun i hi e => by omega)
  go_wp2_with fail
  refine (gives_any _ _ _ hs5).mono ?_
  rintro e w6 ⟨rfl, hx6⟩
  have hR6 := Blk.ext hR1 (hx50.trans hx6)
  have hh6 := Blk.has hR6
  have hm6 := Blk.melts hR6
  go_wp2_with fail
  refine ret_cell Tryz.results193 rfl rfl aggDig (by exact sizeDig) (Blk.put_ hR6 _ _) ⟨rfl, ?_⟩
  exact Kept.putAt (((hx0.trans hx1).trans hx50).trans hx6) _ _ _ (fun h => by omega)
/-! ### cells in memory, from a place on -/
structure Row (w : World) (b off : Nat) (vs : List Value) : Prop where
  has : has w b off vs.length = true
  get : gets w b off vs.length = vs.toArray
  lt : b < w.heap.size
section
variable {w w' : World} {b off : Nat} {vs : List Value}
theorem Row.inv (h : Row w b off vs) : ∃ c t fr, w.heap[b]? = some (.cells c t fr) ∧ off + vs.length ≤ c.size ∧ (c.toList.drop off).take vs.length = vs := by
  have h1 := h.has
  have h2 := h.get
  unfold Proofs.YtahljceanodhkaaGreatDoor.has at h1
  unfold gets at h2
  split at h1
  · rename_i c t fr hq
    rw [hq] at h2
    exact ⟨c, t, fr, hq, of_decide_eq_true h1, by simpa using h2⟩
  · cases h1
theorem Row.kept {S : Nat → Prop} (h : Row w b off vs) (hk : Kept S w w') (hs : ¬ S b) : Row w' b off vs := by
  have hb := hk.block b h.lt hs
  refine ⟨?_, ?_, Nat.lt_of_lt_of_le h.lt hk.size⟩
  · have := h.has; unfold Proofs.YtahljceanodhkaaGreatDoor.has at this ⊢; rw [hb]; exact this
  · have := h.get; unfold gets at this ⊢; rw [hb]; exact this
theorem Row.ext (h : Row w b off vs) (hk : Ext w w') : Row w' b off vs := h.kept hk (fun f => f)
theorem Row.sub (h : Row w b off vs) (j m : Nat) (hj : j + m ≤ vs.length) : Proofs.YtahljceanodhkaaGreatDoor.has w b (off + j) m = true ∧ gets w b (off + j) m = ((vs.drop j).take m).toArray := by
  obtain ⟨c, t, fr, hq, hle, htk⟩ := h.inv
  unfold Proofs.YtahljceanodhkaaGreatDoor.has gets
  rw [hq]
  refine ⟨by simp; omega, ?_⟩
  show ((c.toList.drop (off + j)).take m).toArray = _
  rw [← htk, List.drop_take, List.take_take, List.drop_drop, Nat.min_eq_left (by omega)]
theorem Row.cell (h : Row w b off vs) (i : Nat) (hi : i < vs.length) : w.cell? ⟨b, off + i, none⟩ = vs[i]? := by
  obtain ⟨c, t, fr, hq, hle, htk⟩ := h.inv
  rw [cell_of_row w b (off + i) c t fr hq, ← htk, List.getElem?_take, if_pos hi, List.getElem?_drop]
  simp
theorem Row.of_blk {t : TypeId} {cs : Array Value} (h : Blk w b t cs) : Row w b 0 cs.toList := by
  refine ⟨by rw [Blk.has h]; simp, ?_, Blk.lt h⟩
  rw [Blk.gets h]
  simp [List.take_of_length_le]
end
/-- digests in memory -/
def digs (l : List Dg) : List Value := l.flatMap fun d => d.cells.toList
theorem digs_length (l : List Dg) : (digs l).length = l.length * 8 := by
  induction l with
  | nil => rfl
  | cons d l ih => simp only [digs, List.flatMap_cons, List.length_append] at ih ⊢; rw [ih]; simp; omega
theorem digs_at : ∀ (l : List Dg) (k : Nat) (hk : k < l.length), ((digs l).drop (k * 8)).take 8 = (l[k]).cells.toList
  | d :: l, 0, _ => by simp [digs]
  | d :: l, k + 1, hk => by
    have ih := digs_at l k (by simpa using hk)
    have e : (digs (d :: l)).drop ((k + 1) * 8) = (digs l).drop (k * 8) := by
      rw [show (k + 1) * 8 = 8 + k * 8 by omega, ← List.drop_drop]
      rfl
    rw [e, ih]
    simp
theorem Row.dig {w : World} {b off : Nat} {l : List Dg} (h : Row w b off (digs l)) (k : Nat) (hk : k < l.length) : Proofs.YtahljceanodhkaaGreatDoor.has w b (off + k * 8) 8 = true ∧ gets w b (off + k * 8) 8 = (l[k]).cells := by
  have := h.sub (k * 8) 8 (by rw [digs_length]; omega)
  rw [digs_at l k hk] at this
  simpa using this
def manyS (l : List Dg) : St := l.foldl (fun s d => taken s (numD d)) (bg 5)
def hMany (l : List Dg) : Dg := out (taken (manyS l) l.length)
theorem manyS_take (l : List Dg) (k : Nat) (hk : k < l.length) : manyS (l.take (k + 1)) = taken (manyS (l.take k)) (numD l[k]) := by
  unfold manyS
  rw [List.take_succ_eq_append_getElem hk, List.foldl_append]
  rfl
set_option maxRecDepth 100000 in
set_option maxHeartbeats 1000000 in
theorem many_any (A : Option Addr) (b off cap : Nat) (l : List Dg) (hl : l.length ≤ 9223372036854775807) (hok : ∀ d ∈ l, d.ok) (w : World) (hA : 0 < l.length → A = some ⟨b, off, none⟩) (hr : 0 < l.length → Row w b off (digs l)) :
    Calls Tryz.prog 128 #[.slice A l.length cap] w fun e w' => e = .returned (.agg (hMany l).cells) ∧ Ext w w' := by
  have HO := Lib.hid hok
  have HA := Lib.hid hA
  have HR := Lib.hid hr
  clear hok hA hr
  have hx0 : Ext w _ := (Kept.refl _ w).alloc (.cells Dg.zero.cells 30)
  have hR0 := Blk.new w 30 Dg.zero.cells
  obtain ⟨n, hn⟩ : ∃ n, n = l.length := ⟨_, rfl⟩
  rw [← hn] at hl ⊢
  have HNn := Lib.hid hn
  clear hn
  go_enter Tryz.func128, Tryz.ntmps128
  go_wp2_with fail
  refine (begin_any 5 _).mono ?_
  rintro e w1 ⟨rfl, hx1⟩
  go_wp2_with fail
  have hs1 := Blk.new w1 262 (bg 5).cells
  go_loopw [9] (fun i wr => ∃ k : Nat, k ≤ n ∧ i = .int .i64 k ∧ Blk wr w1.heap.size 262 (manyS (l.take k)).cells ∧ Ext w1 wr) (fun i _ => n - (intOf i).toNat)
  case atStart => exact ⟨0, by omega, rfl, hs1, (Kept.refl _ _).alloc _⟩
  case round =>
    obtain ⟨k, hk, rfl, hs, hx⟩ := hrel
    clear hs1
    by_cases hlt : k < n
    · have hkl : k < l.length := by have := HNn.out; omega
      obtain rfl := HA.out (by omega)
      have hrow := ((HR.out (by omega)).ext ((hx0.trans hx1).trans hx)).dig k hkl
      obtain ⟨hrh, hrg⟩ := hrow
      have hbl := Nat.lt_of_lt_of_le (HR.out (by omega)).lt ((hx0.trans hx1).trans hx).size
      go_wp2_with fail
      refine (num_any l[k] (HO.out _ (List.getElem_mem hkl)) _).mono ?_
      rintro e w2 ⟨rfl, hx2⟩
      go_wp2_with fail
      refine (take_any _ _ _ _ (Blk.ext (Blk.alloc hs _) hx2)).mono ?_
      rintro e w3 ⟨rfl, hs3, hx3⟩
      go_wp2_with fail
      go_roundw
      case rel => exact ⟨k + 1, by omega, by go_num, by rw [manyS_take l k hkl]; exact hs3, ((hx.alloc _).trans hx2).trans' hx3 (fun i hi e => by omega)⟩
      case measure => (simp only [intOf]; omega)
    · have hkn : k = l.length := by have := HNn.out; omega
      have HK := Lib.hid hkn
      clear hkn
      go_wp2_with fail
      refine (take_any _ _ _ _ hs).mono ?_
      rintro e w2 ⟨rfl, hs2, hx2⟩
      have hx20 : Ext w1 w2 := hx.trans' hx2 (fun i hi e => by omega)
      go_wp2_with fail
      refine (gives_any _ _ _ hs2).mono ?_
      rintro e w3 ⟨rfl, hx3⟩
      have hR3 := Blk.ext (Blk.ext hR0 hx1) (hx20.trans hx3)
      have hh3 := Blk.has hR3
      have hm3 := Blk.melts hR3
      go_wp2_with fail
      refine ret_cell Tryz.results128 rfl rfl aggDig (by exact sizeDig) (Blk.put_ hR3 _ _) ⟨?_, ?_⟩
      · unfold hMany
        rw [HK.out, List.take_length, HNn.out]
        rfl
      · exact Kept.putAt (((hx0.trans hx1).trans hx20).trans hx3) _ _ _ (fun h => by omega)
end Go.Proofs.YtahljceanodhkaaGreatDoor

/- Package hash: bytes taken in. -/
namespace Go.Proofs.YtahljceanodhkaaGreatDoor
open Go.RowKit
theorem addr_add' (b off j : Nat) : (⟨b, off, none⟩ : Addr).add j = ⟨b, off + j, none⟩ := by unfold Addr.add; split <;> simp_all
theorem arrayAtDig (w : World) (a : Option Addr) (len cap : Nat) (h : 8 ≤ len) : (Instr.arrayAt 30 (.slice a len cap)).run Tryz.prog w = .ok (.pointer a) w := by
  simp [Instr.arrayAt, run_underlying Tryz.underlying30]
  omega
attribute [go_sem] arrayAtDig
def byts (l : List Int) : List Value := l.map (Value.int .u8)
theorem byts_length (l : List Int) : (byts l).length = l.length := by simp [byts]
def dgOf (l : List Int) : Dg := ⟨l.getD 0 0, l.getD 1 0, l.getD 2 0, l.getD 3 0, l.getD 4 0, l.getD 5 0, l.getD 6 0, l.getD 7 0⟩
theorem dgOf_cells : ∀ (l : List Int), 8 ≤ l.length → (byts l).take 8 = (dgOf l).cells.toList
  | a :: b :: c :: d :: e :: f :: g :: h :: l, _ => by simp [byts, dgOf]
theorem dgx_dgOf (l : List Int) (j : Nat) (hj : j < 8) : dgx (dgOf l) j = l.getD j 0 := by
  rcases (by omega : j = 0 ∨ j = 1 ∨ j = 2 ∨ j = 3 ∨ j = 4 ∨ j = 5 ∨ j = 6 ∨ j = 7) with rfl | rfl | rfl | rfl | rfl | rfl | rfl | rfl <;> rfl
def BytesOk (l : List Int) : Prop := ∀ x ∈ l, 0 ≤ x ∧ x ≤ 255
theorem dgOf_ok {l : List Int} (h : BytesOk l) : (dgOf l).ok := by
  intro j
  by_cases hj : j < 8
  · rw [dgx_dgOf l j hj]
    by_cases hl : j < l.length
    · simp only [List.getD, List.getElem?_eq_getElem hl, Option.getD_some]; exact h _ (List.getElem_mem hl)
    · simp [List.getD, List.getElem?_eq_none (Nat.le_of_not_lt hl)]
  · match j, hj with
    | n + 8, _ => simp [dgx]
    | 0, h | 1, h | 2, h | 3, h | 4, h | 5, h | 6, h | 7, h => exact absurd (by omega) h
theorem BytesOk.drop {l : List Int} (h : BytesOk l) (n : Nat) : BytesOk (l.drop n) := fun x hx => h x (List.mem_of_mem_drop hx)
def wholeK (s : St) (l : List Int) : Nat → St | 0 => s | k + 1 => taken (wholeK s l k) (numD (dgOf (l.drop (k * 8))))
theorem Row.chunk {w : World} {b off : Nat} {l : List Int} (h : Row w b off (byts l)) (k : Nat) (hk : k * 8 + 8 ≤ l.length) : Proofs.YtahljceanodhkaaGreatDoor.has w b (off + k * 8) 8 = true ∧ gets w b (off + k * 8) 8 = (dgOf (l.drop (k * 8))).cells := by
  have := h.sub (k * 8) 8 (by rw [byts_length]; omega)
  have e : ((byts l).drop (k * 8)) = byts (l.drop (k * 8)) := by simp [byts, List.map_drop]
  rw [e, dgOf_cells _ (by simp; omega)] at this
  simpa using this
set_option maxRecDepth 100000 in
set_option maxHeartbeats 1000000 in
theorem whole_any (g : Nat) (s : St) (A : Option Addr) (b off cap : Nat) (l : List Int) (n : Nat) (hn : n = l.length) (hl : n ≤ cap) (hcap : cap ≤ 9223372036854775807) (hok : BytesOk l) (w : World) (hs : Blk w g 262 s.cells) (hA : 0 < n → A = some ⟨b, off, none⟩) (hr : 0 < n → Row w b off (byts l)) (hbg : 0 < n → ¬ b = g) :
    Calls Tryz.prog 226 #[.pointer (some ⟨g, 0, none⟩), .slice A n cap] w fun e w' => e = .returned (.tuple #[]) ∧ Blk w' g 262 (wholeK s l (n / 8)).cells ∧ Kept (· = g) w w' := by
  have HO := Lib.hid hok
  have HA := Lib.hid hA
  have HR := Lib.hid hr
  have HG := Lib.hid hbg
  have HN := Lib.hid hn
  clear hok hA hr hbg hn
  go_enter Tryz.func226, Tryz.ntmps226
  go_wp2_with fail
  go_loopw [8] (fun i wr => ∃ k : Nat, k ≤ n / 8 ∧ i = .int .i64 k ∧ Blk wr g 262 (wholeK s l k).cells ∧ Kept (· = g) w wr) (fun i _ => n / 8 - (intOf i).toNat)
  case atStart => exact ⟨0, by omega, rfl, hs, Kept.refl _ _⟩
  case round =>
    obtain ⟨k, hk, rfl, hsk, hx⟩ := hrel
    clear hs
    by_cases hlt : k < n / 8
    · have hk8 : k * 8 + 8 ≤ l.length := by have := HN.out; omega
      have hk9 : k * 8 + 8 ≤ n := by omega
      obtain rfl := HA.out (by omega)
      obtain ⟨hrh, hrg⟩ := ((HR.out (by omega)).kept hx (HG.out (by omega))).chunk k hk8
      have hcc : ¬ cap = k * 8 := by omega
      go_wp2_with fail
      refine (num_any _ (dgOf_ok (HO.out.drop _)) _).mono ?_
      rintro e w2 ⟨rfl, hx2⟩
      go_wp2_with fail
      refine (take_any _ _ _ _ (Blk.ext hsk hx2)).mono ?_
      rintro e w3 ⟨rfl, hs3, hx3⟩
      go_wp2_with fail
      go_roundw
      case rel => exact ⟨k + 1, by omega, by go_num, hs3, (hx.trans (Kept.ext hx2)).trans hx3⟩
      case measure => (simp only [intOf]; omega)
    · have hkn : k = n / 8 := by omega
      have HK := Lib.hid hkn
      clear hkn
      go_wp2_with fail
      go_end0
      exact ⟨rfl, HK.out ▸ hsk, hx⟩
theorem copy0 (w : World) (ty : TypeId) (d a : Option Addr) (dLen dCap sCap : Nat) : (Builtin.copy_ #[95, 95] ty #[.slice d dLen dCap, .slice a 0 sCap]).run Tryz.prog w = .ok (.int .i64 0) w := by
  have h := run_copy_none (P := Tryz.prog) w 95 95 ty 5 d a dLen dCap 0 sCap Tryz.underlying95 (by kernel_rfl) (by simp)
  simpa [goInt] using h
theorem copyR (w : World) (ty : TypeId) (g o dLen dCap h p sLen sCap : Nat) (cs : List Value) (hn : cs.length = Nat.min sLen dLen) (hr : Row w h p cs) (hf : flatL cs = true) (hh : has w g o cs.length = true) (hm : melts w g = true) :
    (Builtin.copy_ #[95, 95] ty #[.slice (some ⟨g, o, none⟩) dLen dCap, .slice (some ⟨h, p, none⟩) sLen sCap]).run Tryz.prog w = .ok (.int .i64 cs.length) (putAt w g o cs.toArray) := by
  unfold has at hh
  unfold melts at hm
  split at hh
  · rename_i c t fr hq
    rw [hq] at hm
    have hfr : fr = (0, 0) := by
      revert hm; obtain ⟨a, b⟩ := fr; cases a <;> cases b <;> simp
    subst hfr
    rw [putAt_eq_setRow hq]
    have := run_copy_row (P := Tryz.prog) w 95 95 ty 5 g o dLen dCap ⟨h, p, none⟩ sLen sCap c t cs Tryz.underlying95 (by kernel_rfl) hq hn (fun j v hv => by
      rw [addr_add' h p j, hr.cell j (List.getElem?_eq_some_iff.1 hv).1, hv]) (of_decide_eq_true hh) (flatL_all hf)
    rw [this]
    simp [goInt, splice]
  · cases hh
def padK (l : List Int) : Dg := dgOf (l.drop (l.length / 8 * 8) ++ [1])
def bytesS (s : St) (l : List Int) : St := taken (taken (wholeK s l (l.length / 8)) (numD (padK l))) l.length
theorem pad_cells (r : List Int) (h : r.length < 8) : (splice Dg.zero.cells 0 (byts r).toArray).setIfInBounds r.length (.int .u8 1) = (dgOf (r ++ [1])).cells := by
  match r, h with
  | [], _ => rfl
  | [a], _ => rfl
  | [a, b], _ => rfl
  | [a, b, c], _ => rfl
  | [a, b, c, d], _ => rfl
  | [a, b, c, d, e], _ => rfl
  | [a, b, c, d, e, f], _ => rfl
  | [a, b, c, d, e, f, g], _ => rfl
theorem byts_flat (l : List Int) : flatL (byts l) = true := by
  induction l with
  | nil => rfl
  | cons a l ih => simp only [byts, List.map_cons, flatL, Value.oneCell'] at ih ⊢; simpa using ih
end Go.Proofs.YtahljceanodhkaaGreatDoor

/- Package hash: the end of bytes taken in; bytes; Of; Word. -/
namespace Go.Proofs.YtahljceanodhkaaGreatDoor
open Go.RowKit
abbrev dg1' : Dg := ⟨1, 0, 0, 0, 0, 0, 0, 0⟩
theorem dg1_ok : dg1'.ok := by
  intro j
  match j with
  | 0 | 1 | 2 | 3 | 4 | 5 | 6 | 7 => simp [dgx]
  | n + 8 => simp [dgx]
set_option maxRecDepth 100000 in
set_option maxHeartbeats 1000000 in
theorem end_rest (s0 : Nat) (s : St) (b off cap : Nat) (l : List Int) (n : Nat) (hn : n = l.length) (hl : n ≤ cap) (hcap : cap ≤ 9223372036854775807) (hok : BytesOk l) (w : World) (hs : Blk w s0 262 s.cells) (hr : Row w b off (byts l)) (hm : 0 < n % 8) :
    Calls Tryz.prog 227 #[.pointer (some ⟨s0, 0, none⟩), .slice (some ⟨b, off, none⟩) n cap] w fun e w' => e = .returned (.tuple #[]) ∧ Blk w' s0 262 (taken (taken s (numD (padK l))) n).cells ∧ Kept (· = s0) w w' := by
  have HO := Lib.hid hok
  have HN := Lib.hid hn
  clear hok hn
  go_enter Tryz.func227, Tryz.ntmps227
  go_wp2_with fail
  have hW0 := Blk.new w 30 #[.int .u8 0, .int .u8 0, .int .u8 0, .int .u8 0, .int .u8 0, .int .u8 0, .int .u8 0, .int .u8 0]
  have hx0 : Ext w _ := (Kept.refl _ w).alloc (.cells #[.int .u8 0, .int .u8 0, .int .u8 0, .int .u8 0, .int .u8 0, .int .u8 0, .int .u8 0, .int .u8 0] 30)
  have hs0 := Blk.lt hs
  have hb0 := hr.lt
  generalize w.alloc (.cells #[.int .u8 0, .int .u8 0, .int .u8 0, .int .u8 0, .int .u8 0, .int .u8 0, .int .u8 0, .int .u8 0] 30) = W at hW0 hx0 ⊢
  generalize hg : w.heap.size = g at *
  have hcc : ¬ cap = n / 8 * 8 := by omega
  have hlo : n / 8 * 8 ≤ n := by omega
  have hh := Blk.has hW0
  have hme := Blk.melts hW0
  have hq1 : (0 : Int) ≤ (n : Int) / 8 * 8 := by omega
  have hq2 : ((n : Int) / 8 * 8).toNat = n / 8 * 8 := by omega
  have hq3 : ((n : Int) / 8 * 8) ≤ n := by omega
  have hw1 : IntKind.i64.wrap ((n : Int) / 8) = (n : Int) / 8 := IntWalk.i64_in _ (by omega)
  have hw2 : IntKind.i64.wrap ((n : Int) / 8 * 8) = (n : Int) / 8 * 8 := IntWalk.i64_in _ (by omega)
  obtain ⟨r, hre⟩ : ∃ r, r = (l.drop (n / 8 * 8)).length := ⟨_, rfl⟩
  have hr8 : r = n % 8 := by have := HN.out; simp at hre; omega
  have hrow : Row W.drew b (off + n / 8 * 8) (byts (l.drop (n / 8 * 8))) := by
    have h1 := (hr.ext hx0).sub (n / 8 * 8) (n - n / 8 * 8) (by rw [byts_length]; have := HN.out; omega)
    have e : ((byts l).drop (n / 8 * 8)).take (n - n / 8 * 8) = byts (l.drop (n / 8 * 8)) := by
      rw [List.take_of_length_le (by simp [byts]; have := HN.out; omega)]; simp [byts, List.map_drop]
    have e2 : (byts (l.drop (n / 8 * 8))).length = n - n / 8 * 8 := by rw [byts_length]; simp; have := HN.out; omega
    refine ⟨by rw [e2]; exact h1.1, by rw [e2, ← e]; exact h1.2, Nat.lt_of_lt_of_le hr.lt hx0.size⟩
  have hcp := copyR W.drew 3 g 0 8 8 b (off + n / 8 * 8) (n - n / 8 * 8) (cap - n / 8 * 8) (byts (l.drop (n / 8 * 8))) (by rw [byts_length, ← hre]; simp only [Nat.min_def]; split <;> omega) hrow (byts_flat _) (by rw [has_drew, Blk.has hW0]; rw [byts_length]; simp only [← hre]; simp; omega) hme
  rw [byts_length, ← hre] at hcp
  clear hrow
  have HE := Lib.hid hre
  have H8 := Lib.hid hr8
  have hrl : r < 8 := by omega
  clear hre hr8
  have hB1 := Blk.put_ (Blk.drew hW0) 0 (byts (l.drop (n / 8 * 8))).toArray
  have hx1 : Kept (· = g) W (putAt W.drew g 0 (byts (l.drop (n / 8 * 8))).toArray) := Kept.putAt ((Kept.refl _ W).drew) g 0 _ (fun _ => rfl)
  generalize hX : (byts (l.drop (n / 8 * 8))).toArray = X at hcp hB1 hx1
  have HX := Lib.hid hX
  clear hX
  generalize putAt W.drew g 0 X = W1 at hcp hB1 hx1
  refine wp_region_3 (fun _ => True) [(0, 2), (1, 2), (2, 2), (3, 2), (4, 2), (5, 2), (6, 2), (7, 0), (8, 2)] (by kernel_rfl) (by kernel_rfl) (by kernel_rfl) (by kernel_rfl) ?_; intro l' hl'; simp only [List.map_cons, List.map_nil, List.getD_cons_zero, List.getD_cons_succ] at hl'; subst hl'
  (repeat (first | ((apply w3_pure); (· go_simp); (· (intro w1; go_simp; try with_reducible rfl)); (intro K hK; go_simp; refine hK _ _ ?_; clear hK K)) | ((apply w3_skip); (· go_simp); (intro K hK; go_simp; refine hK _ _ ?_; clear hK K)) | ((apply w3_take); (· exact trivial); (· go_simp); (· (intro w1 hS;  go_simp; try with_reducible rfl)); (intro K hK; go_simp; refine hK _ _ ?_; clear hK K)) | ((apply w3_pass); (· exact trivial); (· go_simp); (intro K hK; go_simp; refine hK _ _ ?_; clear hK K))))
  (refine w3_act (fun K hK => ?_); go_simp)
  refine hK.out _ _ (fun _ => trivial) ?_
  clear hK K
  (repeat (first | ((apply w3_pure); (· go_simp); (· (intro w1; go_simp; try with_reducible rfl)); (intro K hK; go_simp; refine hK _ _ ?_; clear hK K)) | ((apply w3_skip); (· go_simp); (intro K hK; go_simp; refine hK _ _ ?_; clear hK K)) | (refine w3_end (by kernel_rfl) (fun K hK => ?_); go_simp; refine hK.out _ _ ?_; clear hK K))); refine w3_nil ?_
  clear hcp hw1 hw2 hq1 hq2 hq3 hh hme
  have hc1 := Blk.cell hB1
  have hf1 := Blk.frozen hB1
  have hsz : (splice Dg.zero.cells 0 X).size = 8 := by
    rw [← HX.out, splice_size]
    · rfl
    · simp [byts]; have := HE.out; simp at this; omega
  obtain ⟨v0, hv0⟩ : ∃ v0, (splice Dg.zero.cells 0 X)[r]? = some v0 := ⟨_, Array.getElem?_eq_getElem (by omega)⟩
  have hcr : W1.cell? ⟨g, r, none⟩ = some v0 := by rw [← hv0]; exact hc1 r
  clear hc1
  go_upto_region 3 with (fail)
  have hB2 := Blk.set_ hB1 r (.int .u8 1)
  have hpad : (splice Dg.zero.cells 0 X).setIfInBounds r (.int .u8 1) = (padK l).cells := by
    rw [← HX.out, HE.out]
    have := pad_cells (l.drop (n / 8 * 8)) (by rw [← HE.out]; exact hrl)
    rw [HN.out] at this ⊢
    exact this
  rw [hpad] at hB2
  have hx2 : Kept (· = g) W (W1.setCell ⟨g, r, none⟩ (.int .u8 1)) := Kept.setCell hx1 _ _ (fun _ => rfl)
  clear hpad hcr hv0 hsz hB1 hx1 hf1
  generalize W1.setCell ⟨g, r, none⟩ (.int .u8 1) = W2 at hB2 hx2 ⊢
  have hh2 := Blk.has hB2
  have hg2 := Blk.gets hB2
  have hok2 : (padK l).ok := by
    apply dgOf_ok
    intro x hx
    rcases List.mem_append.1 hx with h | h
    · exact HO.out.drop _ x h
    · simp at h; subst h; omega
  have HO2 := Lib.hid hok2
  clear hok2
  go_wp2_with fail
  refine (num_any (padK l) HO2.out _).mono ?_
  rintro e w3 ⟨rfl, hx3⟩
  have hs3 := Blk.ext (Blk.kept (Blk.ext hs hx0) hx2 (by omega)) hx3
  go_wp2_with fail
  refine (take_any _ _ _ _ hs3).mono ?_
  rintro e w4 ⟨rfl, hs4, hx4⟩
  go_wp2_with fail
  refine (take_any _ _ _ _ hs4).mono ?_
  rintro e w5 ⟨rfl, hs5, hx5⟩
  go_wp2_with fail
  go_end0
  refine ⟨rfl, hs5, ?_⟩
  have k1 : Ext w W2 := hx0.trans' hx2 (fun i hi e => by omega)
  exact ((Kept.ext (k1.trans hx3)).trans hx4).trans hx5
set_option maxRecDepth 100000 in
set_option maxHeartbeats 1000000 in
theorem end_whole (s0 : Nat) (s : St) (A : Option Addr) (cap : Nat) (l : List Int) (n : Nat) (hn : n = l.length) (hl : n ≤ cap) (hcap : cap ≤ 9223372036854775807) (w : World) (hs : Blk w s0 262 s.cells) (hA : (A = none ∧ n = 0 ∧ cap = 0) ∨ ∃ b off, A = some ⟨b, off, none⟩) (hm : n % 8 = 0) :
    Calls Tryz.prog 227 #[.pointer (some ⟨s0, 0, none⟩), .slice A n cap] w fun e w' => e = .returned (.tuple #[]) ∧ Blk w' s0 262 (taken (taken s (numD (padK l))) n).cells ∧ Kept (· = s0) w w' := by
  have hpad : padK l = dg1' := by
    unfold padK
    rw [List.drop_of_length_le (by omega)]
    rfl
  rw [hpad]
  clear hpad hn
  have hlo : n / 8 * 8 = n := by omega
  have hs0 := Blk.lt hs
  have hcases : (A = none ∧ n = 0 ∧ cap = 0) ∨ ∃ b off, A = some ⟨b, off, none⟩ ∧ (cap = n ∨ ¬ cap = n) := by
    rcases hA with h | ⟨b, off, h⟩
    · exact .inl h
    · exact .inr ⟨b, off, h, by omega⟩
  clear hA
  have hq1 : (0 : Int) ≤ (n : Int) / 8 * 8 := by omega
  have hq2 : ((n : Int) / 8 * 8) = n := by omega
  have HM := Lib.hid hm
  clear hm
  have hw1 : IntKind.i64.wrap ((n : Int) / 8) = (n : Int) / 8 := IntWalk.i64_in _ (by omega)
  have hw3 : IntKind.i64.wrap (n : Int) = (n : Int) := IntWalk.i64_in _ (by omega)
  clear hlo
  have hw0 : IntKind.i64.wrap 0 = 0 := by decide
  rcases hcases with ⟨rfl, rfl, rfl⟩ | ⟨b, off, rfl, rfl | hne⟩
  all_goals
    go_enter Tryz.func227, Tryz.ntmps227
    go_wp2_with fail
    refine wp_region_3 (fun _ => True) [(0, 2), (1, 2), (2, 2), (3, 2), (4, 2), (5, 2), (6, 2), (7, 0), (8, 2)] (by kernel_rfl) (by kernel_rfl) (by kernel_rfl) (by kernel_rfl) ?_; intro l' hl'; simp only [List.map_cons, List.map_nil, List.getD_cons_zero, List.getD_cons_succ] at hl'; subst hl'
    (repeat (first | ((apply w3_pure); (· go_simp); (· (intro w1; go_simp; try with_reducible rfl)); (intro K hK; go_simp; refine hK _ _ ?_; clear hK K)) | ((apply w3_skip); (· go_simp); (intro K hK; go_simp; refine hK _ _ ?_; clear hK K)) | ((apply w3_take); (· exact trivial); (· go_simp); (· (intro w1 hS;  go_simp; try with_reducible rfl)); (intro K hK; go_simp; refine hK _ _ ?_; clear hK K)) | ((apply w3_pass); (· exact trivial); (· go_simp); (intro K hK; go_simp; refine hK _ _ ?_; clear hK K))))
    (refine w3_act (fun K hK => ?_); go_simp)
    simp only [copy0] 
    go_simp
    refine hK.out _ _ (fun _ => trivial) ?_
    clear hK K
    (repeat (first | ((apply w3_pure); (· go_simp); (· (intro w1; go_simp; try with_reducible rfl)); (intro K hK; go_simp; refine hK _ _ ?_; clear hK K)) | ((apply w3_skip); (· go_simp); (intro K hK; go_simp; refine hK _ _ ?_; clear hK K)) | (refine w3_end (by kernel_rfl) (fun K hK => ?_); go_simp; refine hK.out _ _ ?_; clear hK K))); refine w3_nil ?_
    clear hw1 hw3 hq1 hq2 hw0
    go_wp2_with fail
    refine (num_any dg1' dg1_ok _).mono ?_
    rintro e w3 ⟨rfl, hx3⟩
    have hs3 := Blk.ext (Blk.drew (Blk.alloc hs _)) hx3
    go_wp2_with fail
    refine (take_any _ _ _ _ hs3).mono ?_
    rintro e w4 ⟨rfl, hs4, hx4⟩
    go_wp2_with fail
    refine (take_any _ _ _ _ hs4).mono ?_
    rintro e w5 ⟨rfl, hs5, hx5⟩
    go_wp2_with fail
    go_end0
    refine ⟨rfl, hs5, ?_⟩
    have k1 : Ext w w3 := (((Kept.refl _ w).alloc _).drew).trans hx3
    exact ((Kept.ext k1).trans hx4).trans hx5
/-- a slice of bytes: nil, or cells in memory -/
structure SlB (w : World) (A : Option Addr) (n cap : Nat) (l : List Int) : Prop where
  len : n = l.length
  le : n ≤ cap
  mx : cap ≤ 9223372036854775807
  ok : BytesOk l
  at_ : (A = none ∧ n = 0 ∧ cap = 0) ∨ ∃ b off, A = some ⟨b, off, none⟩ ∧ (0 < n → Row w b off (byts l))
theorem SlB.kept {S : Nat → Prop} {w w' : World} {A : Option Addr} {n cap : Nat} {l : List Int} (h : SlB w A n cap l) (hk : Kept S w w') (hs : ∀ b off, A = some ⟨b, off, none⟩ → 0 < n → ¬ S b) : SlB w' A n cap l := by
  refine ⟨h.len, h.le, h.mx, h.ok, ?_⟩
  rcases h.at_ with h1 | ⟨b, off, rfl, hr⟩
  · exact .inl h1
  · exact .inr ⟨b, off, rfl, fun hn => (hr hn).kept hk (hs b off rfl hn)⟩
theorem SlB.ext {w w' : World} {A : Option Addr} {n cap : Nat} {l : List Int} (h : SlB w A n cap l) (hk : Ext w w') : SlB w' A n cap l := h.kept hk (fun _ _ _ _ f => f)
theorem end_any (s0 : Nat) (s : St) (A : Option Addr) (cap : Nat) (l : List Int) (n : Nat) (w : World) (hs : Blk w s0 262 s.cells) (hb : SlB w A n cap l) :
    Calls Tryz.prog 227 #[.pointer (some ⟨s0, 0, none⟩), .slice A n cap] w fun e w' => e = .returned (.tuple #[]) ∧ Blk w' s0 262 (taken (taken s (numD (padK l))) n).cells ∧ Kept (· = s0) w w' := by
  by_cases hm : n % 8 = 0
  · refine end_whole s0 s A cap l n hb.len hb.le hb.mx w hs ?_ hm
    rcases hb.at_ with h | ⟨b, off, h, _⟩
    · exact .inl h
    · exact .inr ⟨b, off, h⟩
  · rcases hb.at_ with ⟨_, h, _⟩ | ⟨b, off, rfl, hr⟩
    · subst h; exact absurd rfl hm
    · exact end_rest s0 s b off cap l n hb.len hb.le hb.mx hb.ok w hs (hr (by omega)) (by omega)
theorem whole_sl (s0 : Nat) (s : St) (A : Option Addr) (cap : Nat) (l : List Int) (n : Nat) (w : World) (hs : Blk w s0 262 s.cells) (hb : SlB w A n cap l) (hne : ∀ b off, A = some ⟨b, off, none⟩ → 0 < n → ¬ b = s0) :
    Calls Tryz.prog 226 #[.pointer (some ⟨s0, 0, none⟩), .slice A n cap] w fun e w' => e = .returned (.tuple #[]) ∧ Blk w' s0 262 (wholeK s l (n / 8)).cells ∧ Kept (· = s0) w w' := by
  rcases hb.at_ with ⟨h1, h2, _⟩ | ⟨b, off, rfl, hr⟩
  · exact whole_any s0 s A 0 0 cap l n hb.len hb.le hb.mx hb.ok w hs (fun h => by omega) (fun h => by omega) (fun h => by omega)
  · exact whole_any s0 s _ b off cap l n hb.len hb.le hb.mx hb.ok w hs (fun _ => rfl) hr (fun h => hne b off rfl h)
set_option maxHeartbeats 400000 in
theorem bytes_any (s0 : Nat) (s : St) (A : Option Addr) (cap : Nat) (l : List Int) (n : Nat) (w : World) (hs : Blk w s0 262 s.cells) (hb : SlB w A n cap l) (hne : ∀ b off, A = some ⟨b, off, none⟩ → 0 < n → ¬ b = s0) :
    Calls Tryz.prog 194 #[.pointer (some ⟨s0, 0, none⟩), .slice A n cap] w fun e w' => e = .returned (.tuple #[]) ∧ Blk w' s0 262 (bytesS s l).cells ∧ Kept (· = s0) w w' := by
  have HB := Lib.hid hb
  have HN := Lib.hid hne
  clear hb hne
  go_enter Tryz.func194, Tryz.ntmps194
  go_wp2_with fail
  refine (whole_sl s0 s A cap l n w hs HB.out HN.out).mono ?_
  rintro e w1 ⟨rfl, hs1, hx1⟩
  go_wp2_with fail
  refine (end_any s0 _ A cap l n w1 hs1 (HB.out.kept hx1 HN.out)).mono ?_
  rintro e w2 ⟨rfl, hs2, hx2⟩
  go_wp2_with fail
  go_end0
  refine ⟨rfl, ?_, hx1.trans hx2⟩
  unfold bytesS
  rw [← HB.out.len]
  exact hs2
def hOf (l : List Int) : Dg := out (bytesS (bg 1) l)
def hWord (d : Dg) (l : List Int) : Dg := out (bytesS (taken (bg 4) (numD d)) l)
set_option maxHeartbeats 400000 in
theorem of_any (A : Option Addr) (cap : Nat) (l : List Int) (n : Nat) (w : World) (hb : SlB w A n cap l) (hlt : ∀ b off, A = some ⟨b, off, none⟩ → 0 < n → b < w.heap.size) :
    Calls Tryz.prog 141 #[.slice A n cap] w fun e w' => e = .returned (.agg (hOf l).cells) ∧ Ext w w' := by
  have HB := Lib.hid hb
  have HN := Lib.hid hlt
  clear hb hlt
  have hx0 : Ext w _ := (Kept.refl _ w).alloc (.cells Dg.zero.cells 30)
  have hR0 := Blk.new w 30 Dg.zero.cells
  go_enter Tryz.func141, Tryz.ntmps141
  go_wp2_with fail
  refine (begin_any 1 _).mono ?_
  rintro e w1 ⟨rfl, hx1⟩
  have hsz := (hx0.trans hx1).size
  go_wp2_with fail
  refine (bytes_any _ (bg 1) A cap l n _ (Blk.new w1 _ _) (HB.out.ext ((hx0.trans hx1).alloc _)) (fun b off h1 h2 => by have := HN.out b off h1 h2; omega)).mono ?_
  rintro e w2 ⟨rfl, hs2, hx2⟩
  have hx20 : Ext w1 w2 := ((Kept.refl _ w1).alloc _).trans' hx2 (fun i hi e => by omega)
  go_wp2_with fail
  refine (gives_any _ _ _ hs2).mono ?_
  rintro e w3 ⟨rfl, hx3⟩
  have hR3 := Blk.ext (Blk.ext hR0 hx1) (hx20.trans hx3)
  have hh3 := Blk.has hR3
  have hm3 := Blk.melts hR3
  go_wp2_with fail
  refine ret_cell Tryz.results141 rfl rfl aggDig (by exact sizeDig) (Blk.put_ hR3 _ _) ⟨rfl, ?_⟩
  exact Kept.putAt (((hx0.trans hx1).trans hx20).trans hx3) _ _ _ (fun h => by omega)
end Go.Proofs.YtahljceanodhkaaGreatDoor

/- Package hash: Word. -/
namespace Go.Proofs.YtahljceanodhkaaGreatDoor
open Go.RowKit
def strB (s : ByteArray) : List Int := s.data.toList.map fun b => (b.toNat : Int)
theorem strB_length (s : ByteArray) : (strB s).length = s.size := by simp [strB]
theorem strB_ok (s : ByteArray) : BytesOk (strB s) := by
  intro x hx
  simp only [strB, List.mem_map] at hx
  obtain ⟨b, _, rfl⟩ := hx
  have := b.toNat_lt
  omega
theorem bytesWorld_ext (w : World) (e : TypeId) (s : ByteArray) : Ext w (Lib.bytesWorld w e s) :=
  ⟨rfl, rfl, rfl, by rw [Lib.bytesWorld_size]; omega, fun k hk _ => Lib.bytesWorld_at_old w e s k hk⟩
theorem bytesWorld_row (w : World) (e : TypeId) (s : ByteArray) : Row (Lib.bytesWorld w e s) w.heap.size 0 (byts (strB s)) := by
  have hl : (byts (strB s)).length = s.size := by rw [byts_length, strB_length]
  have hc : (Lib.bytesCells w e s).size = s.size + (grownCap w s.size 0 e - s.size) := by simp [Lib.bytesCells]
  refine ⟨?_, ?_, by rw [Lib.bytesWorld_size]; omega⟩
  · unfold has; rw [Lib.bytesWorld_at_new, hl]; simp [hc]
  · unfold gets; rw [Lib.bytesWorld_at_new, hl]
    simp only [List.drop_zero]
    congr 1
    simp only [Lib.bytesCells, Array.toList_append, Array.toList_map]
    rw [List.take_append_of_le_length (by simp), List.take_of_length_le (by simp)]
    simp [byts, strB]
theorem bytesWorld_sl (w : World) (e : TypeId) (s : ByteArray) (hs : s.size ≤ maxLen) : SlB (Lib.bytesWorld w e s) (some ⟨w.heap.size, 0, none⟩) s.size (grownCap w s.size 0 e) (strB s) :=
  ⟨(strB_length s).symm, grownCap_ge _ _ _ _, by have := grownCap_le_maxLen w s.size 0 e hs; unfold maxLen at this; omega, strB_ok s, .inr ⟨_, _, rfl, fun _ => bytesWorld_row w e s⟩⟩
theorem convStr (w : World) (s : ByteArray) : (convert 9 95 (.string s)).run Tryz.prog w = .ok (.slice (some ⟨w.heap.size, 0, none⟩) s.size (grownCap w s.size 0 5)) (Lib.bytesWorld w 5 s) :=
  Lib.run_convert_string_bytes w _ _ _ s Tryz.underlying9 Tryz.underlying95 Tryz.underlying5
set_option maxHeartbeats 400000 in
theorem word_any (d : Dg) (hd : d.ok) (s : ByteArray) (hsz : s.size ≤ maxLen) (w : World) :
    Calls Tryz.prog 174 #[.agg #[.int .u8 d.x0, .int .u8 d.x1, .int .u8 d.x2, .int .u8 d.x3, .int .u8 d.x4, .int .u8 d.x5, .int .u8 d.x6, .int .u8 d.x7], .string s] w fun e w' => e = .returned (.agg (hWord d (strB s)).cells) ∧ Ext w w' := by
  have HD := Lib.hid hd
  have HZ := Lib.hid hsz
  clear hd hsz
  have hx0 : Ext w _ := ((Kept.refl _ w).alloc (.cells #[.int .u8 d.x0, .int .u8 d.x1, .int .u8 d.x2, .int .u8 d.x3, .int .u8 d.x4, .int .u8 d.x5, .int .u8 d.x6, .int .u8 d.x7] 30)).alloc (.cells Dg.zero.cells 30)
  have hA0 : Blk _ w.heap.size 30 d.cells := Blk.alloc (Blk.new w _ _) (.cells Dg.zero.cells 30)
  have hR0 : Blk _ (w.heap.size + 1) 30 Dg.zero.cells := Blk.new' (w.alloc (.cells #[.int .u8 d.x0, .int .u8 d.x1, .int .u8 d.x2, .int .u8 d.x3, .int .u8 d.x4, .int .u8 d.x5, .int .u8 d.x6, .int .u8 d.x7] 30)) _ _ _ (by simp)
  have hcv := fun w => convStr w s
  go_enter Tryz.func174, Tryz.ntmps174
  go_wp2_with fail
  refine (begin_any 4 _).mono ?_
  rintro e w1 ⟨rfl, hx1⟩
  have hA1 := Blk.ext hA0 hx1
  have hR1 := Blk.ext hR0 hx1
  have hl1 := Blk.lt hA1
  have hh1 := Blk.has hA1
  have hg1 := Blk.gets hA1
  go_wp2_with fail
  refine (num_any d HD.out _).mono ?_
  rintro e w2 ⟨rfl, hx2⟩
  have hs2 := Blk.ext (Blk.new w1 262 (bg 4).cells) hx2
  go_wp2_with fail
  refine (take_any _ _ _ _ hs2).mono ?_
  rintro e w3 ⟨rfl, hs3, hx3⟩
  have hx30 : Ext w1 w3 := (((Kept.refl _ w1).alloc _).trans hx2).trans' hx3 (fun i hi e => by omega)
  have hl3 := Blk.lt hs3
  go_wp2_with fail
  have hxb := bytesWorld_ext w3 5 s
  refine (bytes_any _ _ _ _ (strB s) _ _ (Blk.ext hs3 hxb) (bytesWorld_sl w3 _ s HZ.out) (fun b off h1 h2 => by injection h1 with h1; injection h1 with h1; omega)).mono ?_
  rintro e w4 ⟨rfl, hs4, hx4⟩
  have hx40 : Ext w1 w4 := (hx30.trans hxb).trans' hx4 (fun i hi e => by omega)
  go_wp2_with fail
  refine (gives_any _ _ _ hs4).mono ?_
  rintro e w5 ⟨rfl, hx5⟩
  have hR5 := Blk.ext hR1 (hx40.trans hx5)
  have hh5 := Blk.has hR5
  have hm5 := Blk.melts hR5
  go_wp2_with fail
  refine ret_cell Tryz.results174 rfl rfl aggDig (by exact sizeDig) (Blk.put_ hR5 _ _) ⟨rfl, ?_⟩
  exact Kept.putAt (((hx0.trans hx1).trans hx40).trans hx5) _ _ _ (fun h => by omega)
end Go.Proofs.YtahljceanodhkaaGreatDoor

/- Package baizeref02: the walks of its basics. -/
namespace Go.Proofs.YtahljceanodhkaaGreatDoor
open Go.RowKit
theorem aggRs : aggT Tryz.prog 254 = true := by kernel_rfl
theorem sizeRs : sizeT Tryz.prog 254 = some 4 := by kernel_rfl
theorem wpLoadRs {dst : Option Tmp} {ty' : TypeId} {x : Operand} {pos : String} {after : Array Edge} {guard : Option (Nat × Bool)} {a : Act} {w : World} {K : Act → World → Prop} {Q : Exit → Act → World → Prop} (hx : isAt (a.eval x) = true) (hh : has w (blkOf (a.eval x)) (offOf (a.eval x)) 4 = true) :
    Oper.wp Tryz.prog { dst := dst, op := .load 254 x, type := ty', pos := pos, after := after, guard := guard } a w K Q = K (a.put dst (.agg (gets w (blkOf (a.eval x)) (offOf (a.eval x)) 4))) w := wp_load_big 4 aggRs sizeRs hx hh
theorem runLoadRs {ρ : Operand → Value} {dst : Option Tmp} {ty' : TypeId} {x : Operand} {pos : String} {after : Array Edge} {guard : Option (Nat × Bool)} {w : World} (hx : isAt (ρ x) = true) (hh : has w (blkOf (ρ x)) (offOf (ρ x)) 4 = true) :
    (execOp ρ { dst := dst, op := .load 254 x, type := ty', pos := pos, after := after, guard := guard }).run Tryz.prog w = .ok (.value (.agg (gets w (blkOf (ρ x)) (offOf (ρ x)) 4))) w := run_exec_load_big 4 aggRs sizeRs hx hh
theorem loadVarRs (w : World) (g off : Nat) (hh : has w g off 4 = true) : (loadVar 254 ⟨g, off, none⟩).run Tryz.prog w = .ok (.agg (gets w g off 4)) w := run_loadVar_big Tryz.prog w _ g off 4 aggRs sizeRs hh
attribute [go_sem] aggRs sizeRs
attribute [go_sem ↓ high] wpLoadRs loadVarRs runLoadRs
attribute [go_sem high] wpLoadRs
end Go.Proofs.YtahljceanodhkaaGreatDoor

/- Package baizeref02: In, Out, FromNum, Num, Two. -/
namespace Go.Proofs.YtahljceanodhkaaGreatDoor
open Go.RowKit
set_option maxRecDepth 100000 in
set_option maxHeartbeats 400000 in
theorem rfromnum_any (n : Int) (w : World) (h0 : 0 ≤ n) (h1 : n < 18446744073709551616) : Calls Tryz.prog 116 #[.int .u64 n] w fun e w' => e = .returned (.agg (dgN n).cells) ∧ Ext w w' := by
  have H1 := Lib.hid h1
  clear h1
  go_enter Tryz.func116, Tryz.ntmps116
  go_wp2
  refine wp_loop_rounds 9 ?_
  iterate 9 (rw [rounds_succ]; go_wp2)
  refine ret_cell Tryz.results116 rfl rfl aggArr8 (by exact sizeArr8) (Blk.alloc (Blk.new' _ _ _ _ (by simp)) _) ⟨?_, ?_⟩
  · have e : ∀ m : Int, 0 ≤ m → m < 18446744073709551616 → IntKind.u64.wrap (m.tdiv 256) = m / 256 := fun m h0 h1 => by
      rw [Int.tdiv_eq_ediv_of_nonneg h0, u64_in (by omega) (by omega)]
    have f : ∀ m : Int, 0 ≤ m → m.tmod 256 % 256 = m % 256 := fun m h0 => by rw [Int.tmod_eq_emod_of_nonneg h0]; omega
    have h1 := H1.out
    simp only [dgN, Dg.cells]
    rw [e n h0 h1, e (n / 256) (by omega) (by omega), e (n / 256 / 256) (by omega) (by omega), e (n / 256 / 256 / 256) (by omega) (by omega), e (n / 256 / 256 / 256 / 256) (by omega) (by omega), e (n / 256 / 256 / 256 / 256 / 256) (by omega) (by omega), e (n / 256 / 256 / 256 / 256 / 256 / 256) (by omega) (by omega)]
    rw [show n / 256 / 256 = n / 65536 by omega, show n / 65536 / 256 = n / 16777216 by omega, show n / 16777216 / 256 = n / 4294967296 by omega, show n / 4294967296 / 256 = n / 1099511627776 by omega, show n / 1099511627776 / 256 = n / 281474976710656 by omega, show n / 281474976710656 / 256 = n / 72057594037927936 by omega]
    rw [f _ (by omega), f _ (by omega), f _ (by omega), f _ (by omega), f _ (by omega), f _ (by omega), f _ (by omega)]
  · ((repeat' (with_reducible (first | apply Kept.drew | apply Kept.drewN | apply Kept.alloc | apply Kept.setCell | apply Kept.putAt | exact Kept.refl _ _))) <;> (intro hlt; first | rfl | (simp at hlt; done) | (exfalso; simp at hlt; omega) | omega))
set_option maxRecDepth 100000 in
set_option maxHeartbeats 1000000 in
theorem rnum_any (d : Dg) (hd : d.ok) (w : World) : Calls Tryz.prog 104 #[.agg #[.int .u8 d.x0, .int .u8 d.x1, .int .u8 d.x2, .int .u8 d.x3, .int .u8 d.x4, .int .u8 d.x5, .int .u8 d.x6, .int .u8 d.x7]] w fun e w' => e = .returned (.int .u64 (numD d)) ∧ Ext w w' := by
  have b0 := hd 0
  have b1 := hd 1
  have b2 := hd 2
  have b3 := hd 3
  have b4 := hd 4
  have b5 := hd 5
  have b6 := hd 6
  have b7 := hd 7
  simp only [dgx] at b0 b1 b2 b3 b4 b5 b6 b7
  clear hd
  obtain ⟨x0, x1, x2, x3, x4, x5, x6, x7⟩ := d
  dsimp only at *
  go_enter Tryz.func104, Tryz.ntmps104
  go_wp2
  refine wp_loop_rounds 9 ?_
  iterate 9 (rw [rounds_succ]; go_wp2)
  go_ret
  refine ⟨ret_int ?_, ?_⟩
  · simp [numD, numK, dgx]
    omega
  · ((repeat' (with_reducible (first | apply Kept.drew | apply Kept.drewN | apply Kept.alloc | apply Kept.setCell | apply Kept.putAt | exact Kept.refl _ _))) <;> (intro hlt; first | rfl | (simp at hlt; done) | (exfalso; simp at hlt; omega) | omega))
end Go.Proofs.YtahljceanodhkaaGreatDoor

/- A region that draws its order, walked by a plan: as Ordp, and where two acting operations may come up, both ways are walked. -/
namespace Go.Proofs.YtahljceanodhkaaGreatDoor
open Go.RowKit
inductive Pl0 where
  | nil
  | op (i k : Nat) (r : Pl0)
  | fork (i : Nat) (p : Pl0) (j : Nat) (q : Pl0)
inductive Pl where
  | nil
  | op (i k : Nat) (o : Oper) (r : Pl)
  | fork (i : Nat) (o : Oper) (p : Pl) (j : Nat) (o' : Oper) (q : Pl)
def Pl0.fill (l : List Oper) : Pl0 → Pl
  | .nil => .nil
  | .op i k r => .op i k (l.getD i nop) (r.fill l)
  | .fork i p j q => .fork i (l.getD i nop) (p.fill l) j (l.getD j nop) (q.fill l)
def Pl0.st : Pl0 → List Nat
  | .nil => []
  | .op i k r => if k = 1 then i :: r.st else r.st
  | .fork _ p _ q => p.st ++ q.st
def Pl0.len : Pl0 → Nat
  | .nil => 0
  | .op _ _ r => r.len + 1
  | .fork _ p _ q => max p.len q.len + 1
section
variable {P : Program} {ops : Array Oper} {Q : Exit → Act → World → Prop} {S : World → Prop}
def exQ (md : Region.Mode) (ops : Array Oper) (st : List Nat) (j : Nat) : Bool :=
  st.all fun i => i == j || (downMask md ops ops.size (dpMask md ops j)).testBit i
theorem exQ_spec {md : Region.Mode} {st : List Nat} {i j : Nat} {listed : Array Bool} (hf : i ∈ st) (hd : Down md ops listed) (hj : j ∈ Region.ready md ops listed) (hne : j ≠ i) (h : exQ md ops st j = true) :
    listed.getD i false = true := by
  have h1 := List.all_eq_true.1 h _ hf
  simp only [Bool.or_eq_true, beq_iff_eq] at h1
  rcases h1 with h1 | h1
  · exact absurd h1.symm hne
  · obtain ⟨_, oj, hoj, hall⟩ := mem_ready.1 hj
    refine downMask_listed hd _ _ (fun x hx => ?_) i h1
    obtain ⟨o, ho, e, he, hb, rfl⟩ := dpMask_bit hx
    rw [hoj] at ho
    injection ho with ho
    subst ho
    exact hall e he hb
def Pl0.ok (md : Region.Mode) (ops : Array Oper) : Pl0 → Array Bool → Bool
  | .nil, listed => (Region.ready md ops listed).isEmpty
  | .op i 0 r, listed => (Region.ready md ops listed == [i]) && decide (i < ops.size) && r.ok md ops (listed.setIfInBounds i true)
  | .op i (_ + 1) r, listed => Region.free md ops listed i && (Region.ready md ops listed).contains i && decide (i < ops.size) && r.ok md ops (listed.setIfInBounds i true)
  | .fork i p j q, listed => (Region.ready md ops listed == [i, j]) && decide (i < ops.size) && decide (j < ops.size) && p.ok md ops (listed.setIfInBounds i true) && q.ok md ops (listed.setIfInBounds j true)
def wpPl (P : Program) (ops : Array Oper) (Q : Exit → Act → World → Prop) (S : World → Prop) (st : List Nat) : Pl → Act → World → Prop
  | .nil, a, w => Q .normal a w
  | .op k 0 o r, a, w =>
    if Region.wanted o (yielded ops a.tmps) then o.wp P a w (fun a' w' => (exQ .any ops st k = true ∨ (S w → S w')) ∧ wpPl P ops Q S st r a' w') (noP Q) ∨ (o.asks P a w ∧ LetsOut (noP Q))
    else wpPl P ops Q S st r (a.put o.dst undef) w
  | .op _ 1 o r, a, w => S w ∧ ∃ v, YieldsIf P ops S o v a ∧ wpPl P ops Q S st r (a.put o.dst v) w
  | .op _ (_ + 2) o r, a, w => ∃ v, YieldsIf P ops (fun _ => True) o v a ∧ wpPl P ops Q S st r (a.put o.dst v) w
  | .fork k o r k' o' r', a, w =>
    (if Region.wanted o (yielded ops a.tmps) then o.wp P a w (fun a' w' => (exQ .any ops st k = true ∨ (S w → S w')) ∧ wpPl P ops Q S st r a' w') (noP Q) ∨ (o.asks P a w ∧ LetsOut (noP Q))
    else wpPl P ops Q S st r (a.put o.dst undef) w) ∧
    (if Region.wanted o' (yielded ops a.tmps) then o'.wp P a w (fun a' w' => (exQ .any ops st k' = true ∨ (S w → S w')) ∧ wpPl P ops Q S st r' a' w') (noP Q) ∨ (o'.asks P a w ∧ LetsOut (noP Q))
    else wpPl P ops Q S st r' (a.put o'.dst undef) w)
theorem getD_some {l : List Oper} {i : Nat} (h : i < l.toArray.size) : l.toArray[i]? = some (l.getD i nop) := by
  have h' : i < l.length := by simpa using h
  simp [List.getD, List.getElem?_eq_getElem h']
theorem noP_QL {lst : Nat → Bool} {j : Nat} : ∀ (e : Exit) (a : Act) (w : World), noP Q e a w → QL (noP Q) lst j e a w := fun e a w h => by
  unfold QL
  split
  · exact h
  · cases e <;> exact h
theorem wpAnyH_of_pl {l : List Oper} {st : List Nat} (hs : Region.noSelect l.toArray = true) : ∀ (p : Pl0) (fuel : Nat) (listed : Array Bool) (a : Act) (w : World), p.len ≤ fuel → (∀ i ∈ p.st, i ∈ st) → Down .any l.toArray listed →
    p.ok .any l.toArray listed = true → wpPl P l.toArray Q S st (p.fill l) a w → wpAnyH P .any l.toArray (noP Q) S (exQ .any l.toArray st) (fun _ => false) fuel listed a w
  | .nil, fuel, listed, a, w, _, _, _, hB, h => wpAnyH_done (Q := noP Q) (by simpa [Pl0.ok] using hB) h fuel
  | .op _ _ _, 0, listed, a, w, hf, _, _, _, _ => by simp [Pl0.len] at hf
  | .fork _ _ _ _, 0, listed, a, w, hf, _, _, _, _ => by simp [Pl0.len] at hf
  | .op i 1 r, fuel + 1, listed, a, w, hf, hr, hdn, hB, h => by
    obtain ⟨hS, v, hy, h⟩ := h
    simp only [Pl0.ok, Bool.and_eq_true, decide_eq_true_eq] at hB
    simp only [Pl0.st, if_true] at hr
    have ho := getD_some hB.1.2
    exact wpAnyH_first ho (Region.noSelect_spec hs) (fun _ _ _ _ _ hx => by cases hx) (fun j l hd hj hne hx => exQ_spec (hr _ (by simp)) hd hj hne hx) fuel listed a w hdn (Region.free_spec ho hB.1.1.1) (by simpa using hB.1.1.2) hy hS
      (wpAnyH_of_pl hs r fuel _ _ w (by simpa [Pl0.len] using hf) (fun p hp => hr p (by simp [hp])) (hdn.set (by simpa using hB.1.1.2)) hB.2 h)
  | .op i (n + 2) r, fuel + 1, listed, a, w, hf, hr, hdn, hB, h => by
    obtain ⟨v, hy, h⟩ := h
    simp only [Pl0.ok, Bool.and_eq_true, decide_eq_true_eq] at hB
    have ho := getD_some hB.1.2
    exact wpAnyH_pure ho (Region.noSelect_spec hs) (fun _ _ _ _ _ hx => by cases hx) fuel listed a w hdn (Region.free_spec ho hB.1.1.1) (by simpa using hB.1.1.2) hy
      (wpAnyH_of_pl hs r fuel _ _ w (by simpa [Pl0.len] using hf) (fun p hp => hr p (by simp [Pl0.st, hp])) (hdn.set (by simpa using hB.1.1.2)) hB.2 h)
  | .op i 0 r, fuel + 1, listed, a, w, hf, hr, hdn, hB, h => by
    simp only [Pl0.ok, Bool.and_eq_true, beq_iff_eq, decide_eq_true_eq] at hB
    have ho := getD_some hB.1.2
    refine wpAnyH_all hB.1.1 (by simp) fun j hj => ?_
    obtain rfl : j = i := by simpa using hj
    have h1 : wpOp P l.toArray (noP Q) j (fun a' w' => (exQ .any l.toArray st j = true ∨ (S w → S w')) ∧ wpPl P l.toArray Q S st (r.fill l) a' w') a w := by
      unfold wpOp
      rw [ho]
      unfold Pl0.fill wpPl at h
      by_cases hw : Region.wanted (l.getD j nop) (yielded l.toArray a.tmps) = true
      · rw [if_pos hw] at h; simp only [if_pos hw]; exact h
      · rw [if_neg hw] at h; simp only [if_neg hw]; exact ⟨.inr id, h⟩
    exact wpOp_mono (fun a' w' h' => ⟨h'.1, wpAnyH_of_pl hs r fuel _ a' w' (by simpa [Pl0.len] using hf) (fun p hp => hr p (by simp [Pl0.st, hp])) (hdn.set (by rw [hB.1.1]; simp)) hB.2 h'.2⟩) (wpOp_exits noP_QL h1)
  | .fork i p j q, fuel + 1, listed, a, w, hf, hr, hdn, hB, h => by
    simp only [Pl0.ok, Bool.and_eq_true, beq_iff_eq, decide_eq_true_eq] at hB
    obtain ⟨⟨⟨⟨hrd, hi⟩, hj⟩, hp⟩, hq⟩ := hB
    have hoi := getD_some hi
    have hoj := getD_some hj
    have hlen : max p.len q.len ≤ fuel := by simpa [Pl0.len] using hf
    unfold Pl0.fill wpPl at h
    refine wpAnyH_all hrd (by simp) fun k hk => ?_
    rcases (by simpa using hk : k = i ∨ k = j) with rfl | rfl
    · have h1 : wpOp P l.toArray (noP Q) k (fun a' w' => (exQ .any l.toArray st k = true ∨ (S w → S w')) ∧ wpPl P l.toArray Q S st (p.fill l) a' w') a w := by
        unfold wpOp
        rw [hoi]
        have h := h.1
        by_cases hw : Region.wanted (l.getD k nop) (yielded l.toArray a.tmps) = true
        · rw [if_pos hw] at h; simp only [if_pos hw]; exact h
        · rw [if_neg hw] at h; simp only [if_neg hw]; exact ⟨.inr id, h⟩
      exact wpOp_mono (fun a' w' h' => ⟨h'.1, wpAnyH_of_pl hs p fuel _ a' w' (by omega) (fun x hx => hr x (by simp [Pl0.st, hx])) (hdn.set (by rw [hrd]; simp)) hp h'.2⟩) (wpOp_exits noP_QL h1)
    · have h1 : wpOp P l.toArray (noP Q) k (fun a' w' => (exQ .any l.toArray st k = true ∨ (S w → S w')) ∧ wpPl P l.toArray Q S st (q.fill l) a' w') a w := by
        unfold wpOp
        rw [hoj]
        have h := h.2
        by_cases hw : Region.wanted (l.getD k nop) (yielded l.toArray a.tmps) = true
        · rw [if_pos hw] at h; simp only [if_pos hw]; exact h
        · rw [if_neg hw] at h; simp only [if_neg hw]; exact ⟨.inr id, h⟩
      exact wpOp_mono (fun a' w' h' => ⟨h'.1, wpAnyH_of_pl hs q fuel _ a' w' (by omega) (fun x hx => hr x (by simp [Pl0.st, hx])) (hdn.set (by rw [hrd]; simp)) hq h'.2⟩) (wpOp_exits noP_QL h1)
theorem wp_region_4 {id : Nat} {a : Act} {w : World} {l : List Oper} (S : World → Prop) (p : Pl0) (hm : P.follows .mixedOrders = true) (hs : Region.noSelect l.toArray = true)
    (hB : p.ok .any l.toArray (Array.replicate l.toArray.size false) = true) (hin : decide (p.len ≤ l.length) = true)
    (h : ∀ p', p' = p.fill l → wpPl P l.toArray Q S p.st p' a w.drew) : (Code.region id l.toArray true).wp P Q a w :=
  Code.wp_mono noP.imp (wp_region_any hm (wpAny_of_H _ _ _ _ (wpAnyH_of_pl hs p _ _ a _ (by simpa using hin) (fun _ h => h) (Down.init _) hB (h _ rfl))))
variable {st : List Nat} {k : Nat} {r : Pl} {a : Act} {w : World} {o : Oper}
theorem w4_nil (h : Q .normal a w) : wpPl P ops Q S st .nil a w := h
theorem w4_take {v : Value} (hS : S w) (hw : Region.wanted o (yielded ops a.tmps) = true)
    (hy : ∀ w', S w' → (execOp a.eval o).run P w' = .ok (.value v) w') (h : ∀ K : Act → World → Prop, (∀ a w, wpPl P ops Q S st r a w → K a w) → K (a.put o.dst v) w) : wpPl P ops Q S st (.op k 1 o r) a w :=
  ⟨hS, v, .inl ⟨hw, hy⟩, h _ (fun _ _ h => h)⟩
theorem w4_pass (hS : S w) (hw : Region.wanted o (yielded ops a.tmps) = false)
    (h : ∀ K : Act → World → Prop, (∀ a w, wpPl P ops Q S st r a w → K a w) → K (a.put o.dst undef) w) : wpPl P ops Q S st (.op k 1 o r) a w :=
  ⟨hS, undef, .inr ⟨hw, rfl⟩, h _ (fun _ _ h => h)⟩
theorem w4_pure {v : Value} (hw : Region.wanted o (yielded ops a.tmps) = true)
    (hy : ∀ w', (execOp a.eval o).run P w' = .ok (.value v) w') (h : ∀ K : Act → World → Prop, (∀ a w, wpPl P ops Q S st r a w → K a w) → K (a.put o.dst v) w) : wpPl P ops Q S st (.op k 2 o r) a w :=
  ⟨v, .inl ⟨hw, fun w _ => hy w⟩, h _ (fun _ _ h => h)⟩
theorem w4_skip (hw : Region.wanted o (yielded ops a.tmps) = false)
    (h : ∀ K : Act → World → Prop, (∀ a w, wpPl P ops Q S st r a w → K a w) → K (a.put o.dst undef) w) : wpPl P ops Q S st (.op k 2 o r) a w :=
  ⟨undef, .inr ⟨hw, rfl⟩, h _ (fun _ _ h => h)⟩
theorem w4_act (h : ∀ K : Act → World → Prop, Shut (∀ a' w', (S w → S w') → wpPl P ops Q S st r a' w' → K a' w') → if Region.wanted o (yielded ops a.tmps) = true then Oper.wp P o a w K (noP Q) else K (a.put o.dst undef) w) :
    wpPl P ops Q S st (.op k 0 o r) a w := by
  unfold wpPl
  split
  · rename_i hw
    have h := h (fun a' w' => (exQ .any ops st k = true ∨ (S w → S w')) ∧ wpPl P ops Q S st r a' w') (fun a' w' hS h => ⟨.inr hS, h⟩)
    rw [if_pos hw] at h; exact .inl h
  · rename_i hw
    have h := h (fun a' w' => wpPl P ops Q S st r a' w') (fun a' w' _ h => h)
    rw [if_neg hw] at h; exact h
theorem w4_end (hx : exQ .any ops st k = true)
    (h : ∀ K : Act → World → Prop, Shut (∀ a' w', wpPl P ops Q S st r a' w' → K a' w') → if Region.wanted o (yielded ops a.tmps) = true then Oper.wp P o a w K (noP Q) else K (a.put o.dst undef) w) :
    wpPl P ops Q S st (.op k 0 o r) a w := by
  unfold wpPl
  split
  · rename_i hw
    have h := h (fun a' w' => (exQ .any ops st k = true ∨ (S w → S w')) ∧ wpPl P ops Q S st r a' w') (fun a' w' h => ⟨.inl hx, h⟩)
    rw [if_pos hw] at h; exact .inl h
  · rename_i hw
    have h := h (fun a' w' => wpPl P ops Q S st r a' w') (fun a' w' h => h)
    rw [if_neg hw] at h; exact h
theorem w4_fork {k' : Nat} {o' : Oper} {r' : Pl} (h : wpPl P ops Q S st (.op k 0 o r) a w) (h' : wpPl P ops Q S st (.op k' 0 o' r') a w) : wpPl P ops Q S st (.fork k o r k' o' r') a w := ⟨h, h'⟩
end
end Go.Proofs.YtahljceanodhkaaGreatDoor

/- Package baizeref02: Word, by what Bytes answers. -/
namespace Go.Proofs.YtahljceanodhkaaGreatDoor
open Go.RowKit
end Go.Proofs.YtahljceanodhkaaGreatDoor

/- append to a slice of the call's own: what it gives, in one fact. -/
namespace Go.Proofs.YtahljceanodhkaaGreatDoor
open Go.RowKit
theorem Kept.of_grown {w w' : World} {row : Option Nat} (h : w.grownBy w' row) : Kept (fun i => row = some i) w w' :=
  ⟨h.os, h.tape, h.output, h.size, fun k hk hn => h.block k hk (fun e => hn e.symm)⟩
theorem Row.cells {w : World} {b off : Nat} {vs : List Value} (h : Row w b off vs) : ∀ j u, vs[j]? = some u → w.cell? ((⟨b, off, none⟩ : Addr).add j) = some u := fun j u hu => by
  rw [addr_add', h.cell j (List.getElem?_eq_some_iff.1 hu).1, hu]
/-- one more list of elements, laid in memory, behind those that are owned -/
theorem app_some {P : Program} {T E : TypeId} {i : TypeInfo} {z : Value} {sz bytes : Nat} (ht : P.underlying T = some (.slice E)) (hi : P.info? E = some i) (hz : i.zero = some z) (h1 : i.size = sz) (h2 : i.bytes = bytes) (h3 : z.cells.size = sz) (h4 : 0 < sz)
    (w : World) (base : Nat) (v : Value) (n : Nat) (xs : List Value) (hown : w.ownsRow base E sz v n xs) (b off m c : Nat) (ys : List Value) (hl : ys.length = m * sz) (hr : Row w b off ys) (hf : flatL ys = true) (hn : n + m ≤ maxLen) (hb : (n + m) * bytes ≤ 140737488355328) (hbase : base ≤ w.heap.size) :
    ∃ v' w', (Builtin.append_ #[T, T] T #[v, .slice (some ⟨b, off, none⟩) m c]).run P w = .ok v' w' ∧ w'.ownsRow base E sz v' (n + m) (xs ++ ys) ∧ Kept (fun i => v.ownBlock = some i) w w' := by
  obtain ⟨v', w', hrun, ho, hg, _⟩ := run_append_own (P := P) w base T T E i z sz bytes ht hi hz h1 h2 h3 h4 v n xs hown ⟨b, off, none⟩ m c ys hl hr.cells (flatL_all hf) hn hb hbase
  exact ⟨v', w', hrun, ho, Kept.of_grown hg⟩
/-- the operation append, by what its run is known to be -/
theorem wpList_app {P : Program} {w : World} {ops : Array Oper} {rest : List Oper} {o : Oper} {a : Act} {Q : Exit → Act → World → Prop} (hgd : o.guard = none) (x y : Operand) (T : TypeId)
    (ho : o.op = .call { callee := .builtin .append, args := #[x, y], argTypes := #[T, T] }) {ty : TypeId} (hty : o.type = ty) {v s v' : Value} {w' : World} (hx : a.eval x = v) (hy : a.eval y = s)
    (hrun : (Builtin.append_ #[T, T] ty #[v, s]).run P w = .ok v' w') (h : wpList P ops Q rest (a.put o.dst v') w') : wpList P ops Q (o :: rest) a w :=
  wpList_plain hgd fun _ hK => by
    subst hty
    unfold Oper.wp execOp
    simp only [ho, resolve, invoke, builtin, Sem.run_bind, Sem.run_pure, Result.andThen_ok, List.map_toArray, List.map_cons, List.map_nil, hx, hy, hrun]
    exact hK _ _ h
end Go.Proofs.YtahljceanodhkaaGreatDoor

/- Package baizeref02: Bytes; Of. -/
namespace Go.Proofs.YtahljceanodhkaaGreatDoor
open Go.RowKit
theorem infoU8 : (Tryz.prog.info? 5).map (fun i => (i.zero, i.size, i.bytes)) = some (some (.int .u8 0), 1, 1) := by kernel_rfl
theorem appB (w : World) (base : Nat) (v : Value) (n : Nat) (xs : List Int) (hown : w.ownsRow base 5 1 v n (byts xs)) (b off m c : Nat) (l : List Int) (hm : m = l.length) (hr : Row w b off (byts l)) (hn : n + m ≤ 100000) (hbase : base ≤ w.heap.size) :
    ∃ v' w', (Builtin.append_ #[95, 95] 95 #[v, .slice (some ⟨b, off, none⟩) m c]).run Tryz.prog w = .ok v' w' ∧ w'.ownsRow base 5 1 v' (n + m) (byts (xs ++ l)) ∧ Kept (fun i => v.ownBlock = some i) w w' := by
  obtain ⟨i, hi, hz, h1, h2⟩ := info_parts infoU8
  have := app_some (P := Tryz.prog) Tryz.underlying95 hi hz h1 h2 (by rfl) (by decide) w base v n (byts xs) hown b off m c (byts l) (by rw [byts_length, hm, Nat.mul_one]) hr (byts_flat l) (by unfold maxLen; omega) (by omega) hbase
  rw [show byts xs ++ byts l = byts (xs ++ l) by simp [byts]] at this
  exact this
/-- a slice of bytes that is the call's own, and not empty -/
theorem own_some {w : World} {base : Nat} {v : Value} {n : Nat} {xs : List Int} (h : w.ownsRow base 5 1 v n (byts xs)) (hn : 0 < n) : ∃ g c, v = .slice (some ⟨g, 0, none⟩) n c ∧ base ≤ g ∧ Row w g 0 (byts xs) ∧ n ≤ c ∧ c ≤ maxLen ∧ n = xs.length := by
  have hl := h.1
  rw [byts_length, Nat.mul_one] at hl
  rcases h.2 with ⟨_, h0⟩ | ⟨g, c, cur, hv, hb, hc, hnc, hcm, hcs, htk⟩
  · omega
  · refine ⟨g, c, hv, hb, ?_, hnc, hcm, hl.symm⟩
    have hln : (byts xs).length = n := by rw [byts_length, hl]
    refine ⟨?_, ?_, (Array.getElem?_eq_some_iff.1 hc).1⟩
    · unfold has; rw [hc, hln]; simp; omega
    · unfold gets; rw [hc, hln]; simp only [List.drop_zero]; rw [Nat.mul_one] at htk; rw [htk]
end Go.Proofs.YtahljceanodhkaaGreatDoor

/- Package tree: leaves, roots' words. -/
namespace Go.Proofs.YtahljceanodhkaaGreatDoor
open Go.RowKit
def leafB : List Int := [108, 101, 97, 102]
def noneB : List Int := [110, 111, 110, 101]
def hLow (d : Dg) : Dg := hWord d leafB
theorem hWord_ok (d : Dg) (l : List Int) : (hWord d l).ok := out_ok _
theorem hTwo_ok (a b : Dg) : (hTwo a b).ok := out_ok _
theorem hOf_ok (l : List Int) : (hOf l).ok := out_ok _
set_option maxHeartbeats 400000 in
theorem low_any (d : Dg) (hd : d.ok) (w : World) : Calls Tryz.prog 150 #[.agg #[.int .u8 d.x0, .int .u8 d.x1, .int .u8 d.x2, .int .u8 d.x3, .int .u8 d.x4, .int .u8 d.x5, .int .u8 d.x6, .int .u8 d.x7]] w fun e w' => e = .returned (.agg (hLow d).cells) ∧ Ext w w' := by
  have HD := Lib.hid hd
  clear hd
  have hx0 : Ext w _ := ((Kept.refl _ w).alloc (.cells #[.int .u8 d.x0, .int .u8 d.x1, .int .u8 d.x2, .int .u8 d.x3, .int .u8 d.x4, .int .u8 d.x5, .int .u8 d.x6, .int .u8 d.x7] 30)).alloc (.cells Dg.zero.cells 30)
  have hR0 : Blk _ (w.heap.size + 1) 30 Dg.zero.cells := Blk.new' (w.alloc (.cells #[.int .u8 d.x0, .int .u8 d.x1, .int .u8 d.x2, .int .u8 d.x3, .int .u8 d.x4, .int .u8 d.x5, .int .u8 d.x6, .int .u8 d.x7] 30)) _ _ _ (by simp)
  go_enter Tryz.func150, Tryz.ntmps150
  go_wp2_with fail
  refine (word_any d HD.out _ (by decide) _).mono ?_
  rintro e w1 ⟨rfl, hx1⟩
  have hR1 := Blk.ext hR0 hx1
  have hh1 := Blk.has hR1
  have hm1 := Blk.melts hR1
  go_wp2_with fail
  refine ret_cell Tryz.results150 rfl rfl aggDig (by exact sizeDig) (Blk.put_ hR1 _ _) ⟨rfl, ?_⟩
  exact Kept.putAt (hx0.trans hx1) _ _ _ (fun h => by omega)
def digS (h : Nat) : ByteArray := if h < 10 then ⟨#[UInt8.ofNat (48 + h)]⟩ else ⟨#[49, UInt8.ofNat (38 + h)]⟩
set_option maxRecDepth 100000 in
set_option maxHeartbeats 1000000 in
theorem itoa_k (h : Nat) (hh : h ≤ 12) (w : World) : Calls Tryz.prog 175 #[.int .i64 h] w fun e w' => e = .returned (.string (digS h)) ∧ w = w' := by
  rcases (by omega : h = 0 ∨ h = 1 ∨ h = 2 ∨ h = 3 ∨ h = 4 ∨ h = 5 ∨ h = 6 ∨ h = 7 ∨ h = 8 ∨ h = 9 ∨ h = 10 ∨ h = 11 ∨ h = 12) with rfl | rfl | rfl | rfl | rfl | rfl | rfl | rfl | rfl | rfl | rfl | rfl | rfl
  all_goals
    clear hh
    go_enter Tryz.func175, Tryz.ntmps175
    go_wp2
    go_ret
    exact ⟨by kernel_rfl, rfl⟩
end Go.Proofs.YtahljceanodhkaaGreatDoor

/- Package tree: top, Height. -/
namespace Go.Proofs.YtahljceanodhkaaGreatDoor
open Go.RowKit
def rootS (h : Nat) : ByteArray := ⟨#[114, 111, 111, 116]⟩ ++ digS h
def rootB (h : Nat) : List Int := strB (rootS h)
def hTop (d : Dg) (h : Nat) : Dg := hWord d (rootB h)
theorem digS_size (h : Nat) : (digS h).size ≤ 2 := by
  unfold digS
  split
  · exact Nat.le_succ 1
  · exact Nat.le_refl 2
theorem rootS_size (h : Nat) : (rootS h).size ≤ maxLen := by
  have := digS_size h
  have e : (⟨#[114, 111, 111, 116]⟩ : ByteArray).size = 4 := rfl
  unfold rootS maxLen
  rw [ByteArray.size_append, e]
  omega
set_option maxRecDepth 100000 in
set_option maxHeartbeats 1000000 in
theorem top_any (d : Dg) (hd : d.ok) (h : Nat) (hh : h ≤ 12) (w : World) : Calls Tryz.prog 122 #[.agg #[.int .u8 d.x0, .int .u8 d.x1, .int .u8 d.x2, .int .u8 d.x3, .int .u8 d.x4, .int .u8 d.x5, .int .u8 d.x6, .int .u8 d.x7], .int .i64 h] w fun e w' => e = .returned (.agg (hTop d h).cells) ∧ Ext w w' := by
  have HD := Lib.hid hd
  clear hd
  have hx0 : Ext w _ := ((Kept.refl _ w).alloc (.cells #[.int .u8 d.x0, .int .u8 d.x1, .int .u8 d.x2, .int .u8 d.x3, .int .u8 d.x4, .int .u8 d.x5, .int .u8 d.x6, .int .u8 d.x7] 30)).alloc (.cells Dg.zero.cells 30)
  have hA0 : Blk _ w.heap.size 30 d.cells := Blk.alloc (Blk.new w _ _) (.cells Dg.zero.cells 30)
  have hR0 : Blk _ (w.heap.size + 1) 30 Dg.zero.cells := Blk.new' (w.alloc (.cells #[.int .u8 d.x0, .int .u8 d.x1, .int .u8 d.x2, .int .u8 d.x3, .int .u8 d.x4, .int .u8 d.x5, .int .u8 d.x6, .int .u8 d.x7] 30)) _ _ _ (by simp)
  go_enter Tryz.func122, Tryz.ntmps122
  go_wp2_with fail
  refine wp_region_3 (fun w1 => Ext ((w.alloc (.cells #[.int .u8 d.x0, .int .u8 d.x1, .int .u8 d.x2, .int .u8 d.x3, .int .u8 d.x4, .int .u8 d.x5, .int .u8 d.x6, .int .u8 d.x7] 30)).alloc (.cells Dg.zero.cells 30)) w1) [(0, 1), (1, 2), (2, 0), (3, 2), (4, 0), (5, 0)] (by kernel_rfl) (by kernel_rfl) (by kernel_rfl) (by kernel_rfl) ?_; intro l' hl'; simp only [List.map_cons, List.map_nil, List.getD_cons_zero, List.getD_cons_succ] at hl'; subst hl'
  (repeat (first | ((apply w3_pure); (· go_simp); (· (intro w1; go_simp; try with_reducible rfl)); (intro K hK; go_simp; refine hK _ _ ?_; clear hK K)) | ((apply w3_skip); (· go_simp); (intro K hK; go_simp; refine hK _ _ ?_; clear hK K)) | ((apply w3_take); (· exact (Kept.drew (Kept.refl _ _))); (· go_simp); (· (intro w1 hS; have d1 := Blk.ext hA0 hS; have hh := Blk.has d1; have hg := Blk.gets d1;  go_simp; try with_reducible rfl)); (intro K hK; go_simp; refine hK _ _ ?_; clear hK K)) | ((apply w3_pass); (· exact (Kept.drew (Kept.refl _ _))); (· go_simp); (intro K hK; go_simp; refine hK _ _ ?_; clear hK K))))
  (refine w3_act (fun K hK => ?_); go_simp)
  go_wp2_with fail
  refine (itoa_k h hh _).mono ?_
  rintro e w1 ⟨rfl, rfl⟩
  refine hK.out _ _ (fun h => h) ?_
  clear hK K
  have hsum : (⟨#[114, 111, 111, 116]⟩ : ByteArray).size + (digS h).size ≤ 9223372036854775807 := by
    have := digS_size h
    have e : (⟨#[114, 111, 111, 116]⟩ : ByteArray).size = 4 := rfl
    omega
  have hadd := fun w => run_string_add_sum (P := Tryz.prog) w ⟨#[114, 111, 111, 116]⟩ (digS h) hsum
  clear hsum
  (repeat (first | ((apply w3_pure); (· go_simp); (· (intro w1; go_simp; try with_reducible rfl)); (intro K hK; go_simp; refine hK _ _ ?_; clear hK K)) | ((apply w3_skip); (· go_simp); (intro K hK; go_simp; refine hK _ _ ?_; clear hK K))))
  clear hadd
  (refine w3_act (fun K hK => ?_); go_simp)
  go_wp2_with fail
  refine (word_any d HD.out (rootS h) (rootS_size h) _).mono ?_
  rintro e w2 ⟨rfl, hx2⟩
  have hx2' : Ext ((w.alloc (.cells #[.int .u8 d.x0, .int .u8 d.x1, .int .u8 d.x2, .int .u8 d.x3, .int .u8 d.x4, .int .u8 d.x5, .int .u8 d.x6, .int .u8 d.x7] 30)).alloc (.cells Dg.zero.cells 30)) w2 := ((Kept.refl _ _).drew).trans hx2
  refine hK.out _ _ (fun _ => hx2') ?_
  clear hK K
  have hR1 := Blk.ext hR0 hx2'
  have hh1 := Blk.has hR1
  have hm1 := Blk.melts hR1
  (repeat (first | ((apply w3_pure); (· go_simp); (· (intro w1; go_simp; try with_reducible rfl)); (intro K hK; go_simp; refine hK _ _ ?_; clear hK K)) | ((apply w3_skip); (· go_simp); (intro K hK; go_simp; refine hK _ _ ?_; clear hK K)) | (refine w3_end (by kernel_rfl) (fun K hK => ?_); go_simp; refine hK.out _ _ ?_; clear hK K))); refine w3_nil ?_
  go_wp2_with fail
  refine ret_cell Tryz.results122 rfl rfl aggDig (by exact sizeDig) (Blk.put_ hR1 _ _) ⟨rfl, ?_⟩
  exact Kept.putAt (hx0.trans hx2') _ _ _ (fun h => by omega)
/-- how many levels are above so many leaves -/
def hgt (n : Nat) : Nat := Go.Lib.bitLen (n - 1)
set_option maxRecDepth 100000 in
set_option maxHeartbeats 1000000 in
theorem height_ok (n : Nat) (h1 : 1 ≤ n) (h2 : n ≤ 4096) (w : World) : Calls Tryz.prog 81 #[.int .i64 n] w fun e w' => e = .returned (.int .i64 (hgt n)) ∧ w = w' := by
  go_enter Tryz.func81, Tryz.ntmps81
  go_wp2_with fail
  refine (Tryz.bits_Len _ _ (by omega) (by omega)).mono ?_
  rintro e w1 ⟨rfl, rfl⟩
  go_wp2_with fail
  go_ret
  refine ⟨ret_int ?_, rfl⟩
  unfold hgt
  congr 2
end Go.Proofs.YtahljceanodhkaaGreatDoor

/- Package baizeref04: leaves, nodes, roots. -/
namespace Go.Proofs.YtahljceanodhkaaGreatDoor
open Go.RowKit
def hNone : Dg := hWord Dg.zero noneB
/-- the digest of a place on a level -/
def nodeT (l : List Dg) : Nat → Nat → Dg
  | 0, k => match l[k]? with | some d => hLow d | none => hNone
  | v + 1, k => hTwo (nodeT l v (2 * k)) (nodeT l v (2 * k + 1))
theorem nodeT_ok (l : List Dg) : ∀ v k, (nodeT l v k).ok
  | 0, k => by
    unfold nodeT
    split
    · exact hWord_ok _ _
    · exact hWord_ok _ _
  | v + 1, k => hTwo_ok _ _
end Go.Proofs.YtahljceanodhkaaGreatDoor

/- The walks of package halve, more: Choose, New, Span. -/
namespace Go.Proofs.YtahljceanodhkaaGreatDoor
open Go.RowKit
end Go.Proofs.YtahljceanodhkaaGreatDoor

/- Plain facts on a trial's course: no program in sight. -/
namespace Go.Proofs.YtahljceanodhkaaGreatDoor
/-- the count behind a deed that was answered with e -/
def more (n e : Int) : Int := if e = 0 then n + 1 else n
end Go.Proofs.YtahljceanodhkaaGreatDoor

/- The walks of package halve, more: Clone, methods on a nil trial, a trial that cannot be. -/
namespace Go.Proofs.YtahljceanodhkaaGreatDoor
open Go.RowKit
end Go.Proofs.YtahljceanodhkaaGreatDoor

/- The document's trial: its cells, and what it does, in plain words. -/
namespace Go.Proofs.YtahljceanodhkaaGreatDoor
open Go.RowKit
theorem aggRt : aggT Tryz.prog 49 = true := by kernel_rfl
theorem sizeRt : sizeT Tryz.prog 49 = some 28 := by kernel_rfl
theorem wpLoadRt {dst : Option Tmp} {ty' : TypeId} {x : Operand} {pos : String} {after : Array Edge} {guard : Option (Nat × Bool)} {a : Act} {w : World} {K : Act → World → Prop} {Q : Exit → Act → World → Prop} (hx : isAt (a.eval x) = true) (hh : has w (blkOf (a.eval x)) (offOf (a.eval x)) 28 = true) :
    Oper.wp Tryz.prog { dst := dst, op := .load 49 x, type := ty', pos := pos, after := after, guard := guard } a w K Q = K (a.put dst (.agg (gets w (blkOf (a.eval x)) (offOf (a.eval x)) 28))) w := wp_load_big 28 aggRt sizeRt hx hh
theorem runLoadRt {ρ : Operand → Value} {dst : Option Tmp} {ty' : TypeId} {x : Operand} {pos : String} {after : Array Edge} {guard : Option (Nat × Bool)} {w : World} (hx : isAt (ρ x) = true) (hh : has w (blkOf (ρ x)) (offOf (ρ x)) 28 = true) :
    (execOp ρ { dst := dst, op := .load 49 x, type := ty', pos := pos, after := after, guard := guard }).run Tryz.prog w = .ok (.value (.agg (gets w (blkOf (ρ x)) (offOf (ρ x)) 28))) w := run_exec_load_big 28 aggRt sizeRt hx hh
theorem loadVarRt (w : World) (g off : Nat) (hh : has w g off 28 = true) : (loadVar 49 ⟨g, off, none⟩).run Tryz.prog w = .ok (.agg (gets w g off 28)) w := run_loadVar_big Tryz.prog w _ g off 28 aggRt sizeRt hh
attribute [go_sem] aggRt sizeRt
attribute [go_sem ↓ high] wpLoadRt loadVarRt runLoadRt
attribute [go_sem high] wpLoadRt
theorem aggStep : aggT Tryz.prog 45 = true := by kernel_rfl
theorem sizeStep : sizeT Tryz.prog 45 = some 18 := by kernel_rfl
theorem wpLoadStep {dst : Option Tmp} {ty' : TypeId} {x : Operand} {pos : String} {after : Array Edge} {guard : Option (Nat × Bool)} {a : Act} {w : World} {K : Act → World → Prop} {Q : Exit → Act → World → Prop} (hx : isAt (a.eval x) = true) (hh : has w (blkOf (a.eval x)) (offOf (a.eval x)) 18 = true) :
    Oper.wp Tryz.prog { dst := dst, op := .load 45 x, type := ty', pos := pos, after := after, guard := guard } a w K Q = K (a.put dst (.agg (gets w (blkOf (a.eval x)) (offOf (a.eval x)) 18))) w := wp_load_big 18 aggStep sizeStep hx hh
theorem runLoadStep {ρ : Operand → Value} {dst : Option Tmp} {ty' : TypeId} {x : Operand} {pos : String} {after : Array Edge} {guard : Option (Nat × Bool)} {w : World} (hx : isAt (ρ x) = true) (hh : has w (blkOf (ρ x)) (offOf (ρ x)) 18 = true) :
    (execOp ρ { dst := dst, op := .load 45 x, type := ty', pos := pos, after := after, guard := guard }).run Tryz.prog w = .ok (.value (.agg (gets w (blkOf (ρ x)) (offOf (ρ x)) 18))) w := run_exec_load_big 18 aggStep sizeStep hx hh
theorem loadVarStep (w : World) (g off : Nat) (hh : has w g off 18 = true) : (loadVar 45 ⟨g, off, none⟩).run Tryz.prog w = .ok (.agg (gets w g off 18)) w := run_loadVar_big Tryz.prog w _ g off 18 aggStep sizeStep hh
attribute [go_sem] aggStep sizeStep
attribute [go_sem ↓ high] wpLoadStep loadVarStep runLoadStep
attribute [go_sem high] wpLoadStep
/-- Two results: a value of many cells, then one in a slot. -/
theorem ret_ci {P : Program} {fn : Func} {R : Ending → World → Prop} {a : Act} {w : World} {p j : Tmp} {ty t : TypeId} {g : Nat} {cs : Array Value}
    (hres : fn.results = #[.cell p ty, .tmp j]) (hd : a.defers = []) (hp : a.tmps.getD p undef = .pointer (some ⟨g, 0, none⟩)) (ha : aggT P ty = true) (hs : sizeT P ty = some cs.size) (hb : Blk w g t cs)
    (hR : R (.returned (.tuple #[.agg cs, a.tmps.getD j undef])) w) : bodyPost P fn R .ret a w := by
  have hp' : a.tmps[p]?.getD undef = .pointer (some ⟨g, 0, none⟩) := by simpa using hp
  exact bodyPost_ret (by simp [results, hres, hp', asAddr, run_loadVar_blk ha hs hb]) hd hR
structure Rt where (from_ steps : Int) (ahead behind : Dg) (told : Bool) (mid : Dg) (won : Int)
abbrev Rt.cells (r : Rt) : Array Value := #[.int .i64 r.from_, .int .i64 r.steps, .int .u8 r.ahead.x0, .int .u8 r.ahead.x1, .int .u8 r.ahead.x2, .int .u8 r.ahead.x3, .int .u8 r.ahead.x4, .int .u8 r.ahead.x5, .int .u8 r.ahead.x6, .int .u8 r.ahead.x7, .int .u8 r.behind.x0, .int .u8 r.behind.x1, .int .u8 r.behind.x2, .int .u8 r.behind.x3, .int .u8 r.behind.x4, .int .u8 r.behind.x5, .int .u8 r.behind.x6, .int .u8 r.behind.x7, .bool r.told, .int .u8 r.mid.x0, .int .u8 r.mid.x1, .int .u8 r.mid.x2, .int .u8 r.mid.x3, .int .u8 r.mid.x4, .int .u8 r.mid.x5, .int .u8 r.mid.x6, .int .u8 r.mid.x7, .int .i64 r.won]
attribute [go_sem] Rt.cells
def Rt.turn (r : Rt) : Int := if 0 ≤ r.won then -1 else if r.told then 1 else 0
end Go.Proofs.YtahljceanodhkaaGreatDoor

/- Package baizeref04: Height, Root. -/
namespace Go.Proofs.YtahljceanodhkaaGreatDoor
open Go.RowKit
theorem bitLen_zero : Go.Lib.bitLen 0 = 0 := by decide
theorem bitLen_bd : ∀ (h x : Nat), x < 2 ^ h → h ≤ 60 → Go.Lib.bitLen x ≤ h ∧ x < 2 ^ Go.Lib.bitLen x
  | 0, x, hx, _ => by
    obtain rfl : x = 0 := by simpa using hx
    rw [bitLen_zero]; simp
  | h + 1, x, hx, hh => by
    rcases Nat.eq_zero_or_pos x with h0 | h0
    · subst h0; rw [bitLen_zero]; simp
    · have h64 : (2 : Nat) ^ (h + 1) ≤ 2 ^ 64 := Nat.pow_le_pow_right (by omega) (by omega)
      have hq : (2 : Nat) ^ (h + 1) = 2 * 2 ^ h := by rw [Nat.pow_succ]; omega
      have ih := bitLen_bd h (x / 2) (by omega) (by omega)
      rw [Go.Lib.bitLen_half x (by omega) (by omega)]
      refine ⟨by omega, ?_⟩
      rw [Nat.add_comm, Nat.pow_succ]
      omega
theorem hgt_bd (n : Nat) (h1 : 1 ≤ n) (h2 : n ≤ 4096) : hgt n ≤ 12 ∧ n ≤ 2 ^ hgt n := by
  have := bitLen_bd 12 (n - 1) (by omega) (by omega)
  unfold hgt
  omega
end Go.Proofs.YtahljceanodhkaaGreatDoor

/- Package baizeref01: a number's bytes; baizeref22: signed. -/
namespace Go.Proofs.YtahljceanodhkaaGreatDoor
open Go.RowKit
def vint (n : Nat) : List Int := if n < 128 then [(n : Int)] else (128 + (n : Int) % 128) :: vint (n / 128)
termination_by n
decreasing_by omega
theorem vint_small {n : Nat} (h : n < 128) : vint n = [(n : Int)] := by rw [vint, if_pos h]
theorem vint_big {n : Nat} (h : ¬ n < 128) : vint n = (128 + (n : Int) % 128) :: vint (n / 128) := by rw [vint, if_neg h]
theorem vint_len : ∀ (k n : Nat), n < 128 ^ k → 1 ≤ k → (vint n).length ≤ k
  | 0, _, _, h => by omega
  | k + 1, n, hn, _ => by
    by_cases h : n < 128
    · rw [vint_small h]; simp
    · rw [vint_big h]
      have hk : 1 ≤ k := by
        rcases Nat.eq_zero_or_pos k with h0 | h0
        · subst h0; simp at hn; omega
        · exact h0
      have := vint_len k (n / 128) (by rw [Nat.pow_succ] at hn; omega) hk
      simp; omega
theorem vint_pos (n : Nat) : 0 < (vint n).length := by
  by_cases h : n < 128
  · rw [vint_small h]; simp
  · rw [vint_big h]; simp
theorem vint_ok (n : Nat) : BytesOk (vint n) := by
  induction n using Nat.strongRecOn with
  | _ n ih =>
    by_cases h : n < 128
    · rw [vint_small h]; intro x hx; simp at hx; subst hx; omega
    · rw [vint_big h]
      intro x hx
      rcases List.mem_cons.1 hx with rfl | hx
      · omega
      · exact ih _ (by omega) x hx
/-- what hands back bytes of its own -/
def OwnsBytes (w w' : World) (e : Ending) (l : List Int) : Prop :=
  ∃ g c, e = .returned (.slice (some ⟨g, 0, none⟩) l.length c) ∧ w'.ownsRow w.heap.size 5 1 (.slice (some ⟨g, 0, none⟩) l.length c) l.length (byts l) ∧ Ext w w'
set_option maxRecDepth 100000 in
set_option maxHeartbeats 1000000 in
theorem rnum01_any (n : Nat) (hn : n < 18446744073709551616) (w : World) : Calls Tryz.prog 103 #[.int .u64 n] w fun e w' => OwnsBytes w w' e (vint n) := by
  have hlen : (vint n).length ≤ 10 := vint_len 10 n (by omega) (by omega)
  have HL := Lib.hid hlen
  have HB := Lib.hid hn
  clear hlen hn
  go_enter Tryz.func103, Tryz.ntmps103
  go_wp2_with fail
  go_loopw [0, 3] (fun t0 t3 wr => ∃ (m : Nat) (done : List Int), Hid (m ≤ n) ∧ t0 = .int .u64 m ∧ Hid (done ++ vint m = vint n) ∧ wr.ownsRow w.heap.size 5 1 t3 done.length (byts done) ∧ Ext w wr) (fun t0 _ _ => (intOf t0).toNat)
  case atStart => exact ⟨n, [], Nat.le_refl _, rfl, rfl, World.ownsRow_nil _ _ _ _, Kept.refl _ _⟩
  case round =>
    obtain ⟨m, done, hmn, rfl, hd, ho, hx⟩ := hrel
    have hdl : done.length + (vint m).length ≤ 10 := by have h := congrArg List.length hd.out; simp at h; have := HL.out; omega
    have hvp := vint_pos m
    have hob : ∀ i, i < w.heap.size → (u3 : Value).ownBlock = some i → False := fun i hi e => by have := (ho.lt i e).1; omega
    have HOB := Lib.hid hob
    clear hob
    by_cases hlt : m < 128
    · have hq : decide ((128 : Int) ≤ m) = false := by simp; omega
      obtain ⟨v2, w2, hr2, ho2, hk2⟩ := appB (wr.alloc (.cells #[.int .u8 (m : Int)] 5)) _ _ _ done (ho.alloc _) wr.heap.size 0 1 1 [(m : Int)] rfl (Row.of_blk (Blk.new wr _ _)) (by omega) (by have := hx.size; simp; omega)
      go_upto_region 5 with (fail)
      go_step
      iterate 4 (refine wpList_step (fun K hK => ?_); go_simp; (try go_bits); refine hK _ _ ?_; clear hK K)
      refine wpList_app rfl (.tmp 15) (.tmp 18) 95 rfl rfl rfl rfl hr2 ?_
      clear hr2
      go_wp2_with fail
      go_ret
      have hv : done ++ [(m : Int)] = vint n := by rw [← hd.out, vint_small hlt]
      rw [hv, show done.length + 1 = (vint n).length by rw [← hv]; simp] at ho2
      obtain ⟨g, c, hvv, _⟩ := own_some ho2 (vint_pos n)
      subst hvv
      exact ⟨g, c, rfl, ho2, (hx.alloc _).trans' hk2 HOB.out⟩
    · have hq : decide ((128 : Int) ≤ m) = true := by simp; omega
      have hm64 : (m : Int) < 18446744073709551616 := by have := HB.out; have := hmn.out; omega
      obtain ⟨v2, w2, hr2, ho2, hk2⟩ := appB (wr.alloc (.cells #[.int .u8 (128 + (m : Int) % 128)] 5)) _ _ _ done (ho.alloc _) wr.heap.size 0 1 1 [128 + (m : Int) % 128] rfl (Row.of_blk (Blk.new wr _ _)) (by omega) (by have := hx.size; simp; omega)
      have hk2' : Ext w w2 := (hx.alloc _).trans' hk2 HOB.out
      go_upto_region 3 with (fail)
      go_step
      iterate 6 (refine wpList_step (fun K hK => ?_); go_simp; (try go_bits); refine hK _ _ ?_; clear hK K)
      refine wpList_app rfl (.tmp 6) (.tmp 11) 95 rfl rfl rfl rfl hr2 ?_
      clear hr2 ho
      go_wp2_with fail
      go_roundw
      case rel => exact ⟨m / 128, done ++ [128 + (m : Int) % 128], by show _ ≤ _; have := hmn.out; omega, by go_num, by show _ = _; rw [← hd.out, vint_big hlt]; simp, by rw [List.length_append]; exact ho2, hk2'⟩
      case measure => simp only [intOf]; omega
end Go.Proofs.YtahljceanodhkaaGreatDoor

/- Package baizeref22: signed, Leaf, Head. -/
namespace Go.Proofs.YtahljceanodhkaaGreatDoor
open Go.RowKit
/-- the number that tells one with a sign -/
def foldN (n : Int) : Nat := if n < 0 then (2 * (-(n + 1)) + 1).toNat else (2 * n).toNat
theorem foldN_lt {n : Int} (h0 : -9223372036854775808 ≤ n) (h1 : n ≤ 9223372036854775807) : foldN n < 18446744073709551616 := by
  unfold foldN; split <;> omega
set_option maxHeartbeats 400000 in
theorem rfold_any (n : Int) (h0 : -9223372036854775808 ≤ n) (h1 : n ≤ 9223372036854775807) (w : World) : Calls Tryz.prog 163 #[.int .i64 n] w fun e w' => e = .returned (.int .u64 (foldN n)) ∧ w = w' := by
  unfold foldN
  by_cases h : n < 0
  · rw [if_pos h]
    go_enter Tryz.func163, Tryz.ntmps163
    go_wp2
    go_ret
    exact ⟨ret_int (by omega), rfl⟩
  · rw [if_neg h]
    go_enter Tryz.func163, Tryz.ntmps163
    go_wp2
    go_ret
    exact ⟨ret_int (by omega), rfl⟩
set_option maxHeartbeats 400000 in
theorem signed_any (n : Int) (h0 : -9223372036854775808 ≤ n) (h1 : n ≤ 9223372036854775807) (w : World) : Calls Tryz.prog 102 #[.int .i64 n] w fun e w' => OwnsBytes w w' e (vint (foldN n)) := by
  have HF := Lib.hid (foldN_lt h0 h1)
  have H0 := Lib.hid h0
  have H1 := Lib.hid h1
  clear h0 h1
  go_enter Tryz.func102, Tryz.ntmps102
  go_wp2_with fail
  refine (rfold_any n H0.out H1.out _).mono ?_
  rintro e w1 ⟨rfl, rfl⟩
  go_wp2_with fail
  refine (rnum01_any _ HF.out _).mono ?_
  rintro e w2 ⟨g, c, rfl, ho, hx⟩
  go_wp2_with fail
  go_ret
  exact ⟨g, c, rfl, ho, hx⟩
/-- a word's number, without a sign -/
def uword (x : Int) : Int := x % 4294967296
def leafW (x : Int) : Dg := dgN (uword x)
def hHead (pc halt words : Int) (m : Dg) : Dg := hMany [dgN pc, dgN halt, dgN words, m]
end Go.Proofs.YtahljceanodhkaaGreatDoor

/- Package baizeref22: InstrLeaf. -/
namespace Go.Proofs.YtahljceanodhkaaGreatDoor
open Go.RowKit
theorem w3_app {P : Program} {ops : Array Oper} {Q : Exit → Act → World → Prop} {S : World → Prop} {od : List (Nat × Nat)} {k : Nat} {l : List Oper} {r : List (Nat × Nat)} {a : Act} {w : World} {o : Oper} (hgd : o.guard = none) (x y : Operand) (T : TypeId)
    (ho : o.op = .call { callee := .builtin .append, args := #[x, y], argTypes := #[T, T] }) {ty : TypeId} (hty : o.type = ty) {v s v' : Value} {w' : World} (hx : a.eval x = v) (hy : a.eval y = s)
    (hrun : (Builtin.append_ #[T, T] ty #[v, s]).run P w = .ok v' w') (hS : S w → S w') (h : wpOp3 P ops Q S od r l (a.put o.dst v') w') : wpOp3 P ops Q S od ((k, 0) :: r) (o :: l) a w := by
  have hw : Region.wanted o (yielded ops a.tmps) = true := by simp [Region.wanted, hgd]
  unfold wpOp3
  rw [if_pos hw]
  refine .inl ?_
  subst hty
  unfold Oper.wp execOp
  simp only [ho, resolve, invoke, builtin, Sem.run_bind, Sem.run_pure, Result.andThen_ok, List.map_toArray, List.map_cons, List.map_nil, hx, hy, hrun]
  exact ⟨.inr hS, h⟩
theorem own_ext {w w' : World} {base : Nat} {E : TypeId} {sz : Nat} {v : Value} {n : Nat} {xs : List Value} (h : w.ownsRow base E sz v n xs) (hk : Ext w w') : w'.ownsRow base E sz v n xs :=
  h.kept (row := none) ⟨hk.os, hk.tape, hk.output, hk.size, fun k hl _ => hk.block k hl (fun f => f)⟩ (by cases hv : v.ownBlock <;> simp)
theorem own_row {w : World} {base g c n : Nat} {xs : List Int} (h : w.ownsRow base 5 1 (.slice (some ⟨g, 0, none⟩) n c) n (byts xs)) (hn : 0 < n) : base ≤ g ∧ Row w g 0 (byts xs) ∧ n ≤ c := by
  obtain ⟨g', c', e, hb, hr, hc, _⟩ := own_some h hn
  obtain ⟨rfl, rfl⟩ : g = g' ∧ c = c' := by simpa using e
  exact ⟨hb, hr, hc⟩
structure Ins where (op a b c : Int)
abbrev Ins.cells (i : Ins) : Array Value := #[.int .i64 i.op, .int .i64 i.a, .int .i64 i.b, .int .i64 i.c]
attribute [go_sem] Ins.cells
def i64ok (n : Int) : Prop := -9223372036854775808 ≤ n ∧ n ≤ 9223372036854775807
structure Ins.ok (i : Ins) : Prop where
  op : i64ok i.op
  a : i64ok i.a
  b : i64ok i.b
  c : i64ok i.c
def instrB (i : Ins) : List Int := vint (foldN i.op) ++ vint (foldN i.a) ++ vint (foldN i.b) ++ vint (foldN i.c)
def ileaf (i : Ins) : Dg := hOf (instrB i)
theorem vfold_len {n : Int} (h : i64ok n) : (vint (foldN n)).length ≤ 10 := vint_len 10 _ (by have := foldN_lt h.1 h.2; omega) (by omega)
theorem bytesOk_app {l q : List Int} (h : BytesOk l) (h' : BytesOk q) : BytesOk (l ++ q) := fun x hx => (List.mem_append.1 hx).elim (h x) (h' x)
theorem instrB_ok (i : Ins) : BytesOk (instrB i) := bytesOk_app (bytesOk_app (bytesOk_app (vint_ok _) (vint_ok _)) (vint_ok _)) (vint_ok _)
theorem instrB_len {i : Ins} (h : i.ok) : 0 < (instrB i).length ∧ (instrB i).length ≤ 40 := by
  have h1 := vfold_len h.op
  have h2 := vfold_len h.a
  have h3 := vfold_len h.b
  have h4 := vfold_len h.c
  have h5 := vint_pos (foldN i.op)
  unfold instrB
  simp only [List.length_append]
  omega
end Go.Proofs.YtahljceanodhkaaGreatDoor

/- Package baizeref22: codeLeaves. -/
namespace Go.Proofs.YtahljceanodhkaaGreatDoor
open Go.RowKit
theorem aggIns : aggT Tryz.prog 89 = true := by kernel_rfl
theorem sizeIns : sizeT Tryz.prog 89 = some 4 := by kernel_rfl
theorem wpLoadIns {dst : Option Tmp} {ty' : TypeId} {x : Operand} {pos : String} {after : Array Edge} {guard : Option (Nat × Bool)} {a : Act} {w : World} {K : Act → World → Prop} {Q : Exit → Act → World → Prop} (hx : isAt (a.eval x) = true) (hh : has w (blkOf (a.eval x)) (offOf (a.eval x)) 4 = true) :
    Oper.wp Tryz.prog { dst := dst, op := .load 89 x, type := ty', pos := pos, after := after, guard := guard } a w K Q = K (a.put dst (.agg (gets w (blkOf (a.eval x)) (offOf (a.eval x)) 4))) w := wp_load_big 4 aggIns sizeIns hx hh
theorem runLoadIns {ρ : Operand → Value} {dst : Option Tmp} {ty' : TypeId} {x : Operand} {pos : String} {after : Array Edge} {guard : Option (Nat × Bool)} {w : World} (hx : isAt (ρ x) = true) (hh : has w (blkOf (ρ x)) (offOf (ρ x)) 4 = true) :
    (execOp ρ { dst := dst, op := .load 89 x, type := ty', pos := pos, after := after, guard := guard }).run Tryz.prog w = .ok (.value (.agg (gets w (blkOf (ρ x)) (offOf (ρ x)) 4))) w := run_exec_load_big 4 aggIns sizeIns hx hh
theorem loadVarIns (w : World) (g off : Nat) (hh : has w g off 4 = true) : (loadVar 89 ⟨g, off, none⟩).run Tryz.prog w = .ok (.agg (gets w g off 4)) w := run_loadVar_big Tryz.prog w _ g off 4 aggIns sizeIns hh
attribute [go_sem] aggIns sizeIns
attribute [go_sem ↓ high] wpLoadIns loadVarIns runLoadIns
attribute [go_sem high] wpLoadIns
theorem infoD8 : (Tryz.prog.info? 23).map (fun i => (i.zero, i.size, i.bytes)) = some (some (.agg Dg.zero.cells), 8, 8) := by kernel_rfl
theorem digs_flat (l : List Dg) : flatL (digs l) = true := by
  induction l with
  | nil => rfl
  | cons d l ih => show flatL (d.cells.toList ++ digs l) = true; exact ih
theorem appD (w : World) (base : Nat) (v : Value) (n : Nat) (xs : List Dg) (hown : w.ownsRow base 23 8 v n (digs xs)) (b off m c : Nat) (l : List Dg) (hm : m = l.length) (hr : Row w b off (digs l)) (hn : n + m ≤ 100000) (hbase : base ≤ w.heap.size) :
    ∃ v' w', (Builtin.append_ #[80, 80] 80 #[v, .slice (some ⟨b, off, none⟩) m c]).run Tryz.prog w = .ok v' w' ∧ w'.ownsRow base 23 8 v' (n + m) (digs (xs ++ l)) ∧ Kept (fun i => v.ownBlock = some i) w w' := by
  obtain ⟨i, hi, hz, h1, h2⟩ := info_parts infoD8
  have := app_some (P := Tryz.prog) Tryz.underlying80 hi hz h1 h2 (by rfl) (by decide) w base v n (digs xs) hown b off m c (digs l) (by rw [digs_length, hm]) hr (digs_flat l) (by unfold maxLen; omega) (by omega) hbase
  rw [show digs xs ++ digs l = digs (xs ++ l) by simp [digs]] at this
  exact this
def inss (l : List Ins) : List Value := l.flatMap fun d => d.cells.toList
theorem inss_length (l : List Ins) : (inss l).length = l.length * 4 := by
  induction l with
  | nil => rfl
  | cons d l ih => simp only [inss, List.flatMap_cons, List.length_append] at ih ⊢; rw [ih]; simp; omega
theorem inss_at : ∀ (l : List Ins) (k : Nat) (hk : k < l.length), ((inss l).drop (k * 4)).take 4 = (l[k]).cells.toList
  | d :: l, 0, _ => by simp [inss]
  | d :: l, k + 1, hk => by
    have ih := inss_at l k (by simpa using hk)
    have e : (inss (d :: l)).drop ((k + 1) * 4) = (inss l).drop (k * 4) := by
      rw [show (k + 1) * 4 = 4 + k * 4 by omega, ← List.drop_drop]
      rfl
    rw [e, ih]
    simp
theorem Row.ins {w : World} {b off : Nat} {l : List Ins} (h : Row w b off (inss l)) (k : Nat) (hk : k < l.length) : Proofs.YtahljceanodhkaaGreatDoor.has w b (off + k * 4) 4 = true ∧ gets w b (off + k * 4) 4 = (l[k]).cells := by
  have := h.sub (k * 4) 4 (by rw [inss_length]; omega)
  rw [inss_at l k hk] at this
  simpa using this
theorem own_new (w : World) (E : TypeId) (sz : Nat) : (w.alloc (.cells #[] E)).ownsRow w.heap.size E sz (.slice (some ⟨w.heap.size, 0, none⟩) 0 0) 0 [] :=
  ⟨by simp, .inr ⟨w.heap.size, 0, #[], rfl, Nat.le_refl _, heap_alloc_new w _, Nat.le_refl _, by simp, by simp, by simp⟩⟩
/-- what hands back digests of its own -/
def OwnsDigs (w w' : World) (e : Ending) (n : Nat) (l : List Dg) : Prop :=
  ∃ v, e = .returned v ∧ w'.ownsRow w.heap.size 23 8 v n (digs l) ∧ Ext w w'
def mems (l : List Int) : List Value := l.map fun x => .int .i32 x
theorem Row.mem {w : World} {b off : Nat} {l : List Int} (h : Row w b off (mems l)) (k : Nat) (hk : k < l.length) : w.cell? ⟨b, off + k, none⟩ = some (.int .i32 l[k]) := by
  rw [h.cell k (by simpa [mems] using hk)]
  simp [mems, hk]
end Go.Proofs.YtahljceanodhkaaGreatDoor

/- Package baizeref22: Code, State; baizeref15: Right. -/
namespace Go.Proofs.YtahljceanodhkaaGreatDoor
open Go.RowKit
def rootT (l : List Dg) : Dg := hTop (nodeT l (hgt l.length) 0) (hgt l.length)
def codeR (l : List Ins) : Dg := rootT (l.map ileaf)
def memR (l : List Int) : Dg := rootT (l.map leafW)
theorem ileaf_ok (i : Ins) : (ileaf i).ok := hOf_ok _
theorem leafW_ok (x : Int) : (leafW x).ok := dgN_ok _
/-- a state's form -/
def rightS (pc halt n : Int) : Bool := decide (1 ≤ n) && decide (n ≤ 256) && decide (0 ≤ pc) && decide (pc ≤ 2048) && decide (0 ≤ halt) && decide (halt ≤ 2)
abbrev stCells (pc : Int) (A : Option Addr) (n cap : Nat) (halt : Int) : Array Value := #[.int .i64 pc, .slice A n cap, .int .i64 halt]
attribute [go_sem] stCells
def stateR (pc halt : Int) (l : List Int) : Dg := hHead pc halt l.length (memR l)
theorem rightS_inv {pc halt : Int} {n : Nat} (h : rightS pc halt n = true) : 1 ≤ n ∧ n ≤ 256 ∧ 0 ≤ pc ∧ pc ≤ 2048 ∧ 0 ≤ halt ∧ halt ≤ 2 := by
  simp [rightS] at h
  omega
end Go.Proofs.YtahljceanodhkaaGreatDoor
