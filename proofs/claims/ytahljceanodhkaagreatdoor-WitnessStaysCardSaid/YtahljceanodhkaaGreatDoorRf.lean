/- Package baizeref04: Height, Root. -/
import Derived.Test.YtahljceanodhkaaGreatDoorRe
import Derived.Test.YtahljceanodhkaaGreatDoorRefd
namespace Go.Proofs.YtahljceanodhkaaGreatDoor
open Go.RowKit
theorem bitLen_zero : Go.Lib.bitLen 0 = 0 := by decide
theorem bitLen_eq : ∀ (h x : Nat), x < 2 ^ h → (h = 0 ∨ 2 ^ (h - 1) ≤ x) → h ≤ 60 → Go.Lib.bitLen x = h
  | 0, x, hx, _, _ => by
    obtain rfl : x = 0 := by simpa using hx
    exact bitLen_zero
  | h + 1, x, hx, hl, hh => by
    have hl : 2 ^ h ≤ x := by simpa using hl
    have hp : 1 ≤ 2 ^ h := Nat.one_le_two_pow
    have hq : (2 : Nat) ^ (h + 1) = 2 * 2 ^ h := by rw [Nat.pow_succ]; omega
    have h64 : (2 : Nat) ^ (h + 1) ≤ 2 ^ 64 := Nat.pow_le_pow_right (by omega) (by omega)
    rw [Go.Lib.bitLen_half x (by omega) (by omega), bitLen_eq h (x / 2) (by omega) ?_ (by omega)]
    · omega
    · rcases Nat.eq_zero_or_pos h with h0 | h0
      · exact .inl h0
      · refine .inr ?_
        have : (2 : Nat) ^ h = 2 * 2 ^ (h - 1) := by
          obtain ⟨i, rfl⟩ : ∃ i, h = i + 1 := ⟨h - 1, by omega⟩
          rw [Nat.pow_succ]; simp; omega
        omega
theorem bitLen_bd : ∀ (h x : Nat), x < 2 ^ h → h ≤ 60 → Go.Lib.bitLen x ≤ h ∧ x < 2 ^ Go.Lib.bitLen x
  | 0, x, hx, _ => by
    obtain rfl : x = 0 := by simpa using hx
    rw [bitLen_zero]; simp
  | h + 1, x, hx, hh => by
    rcases Nat.eq_zero_or_pos x with h0 | h0
    · subst h0; rw [bitLen_zero]; simp
    · have h64 : (2 : Nat) ^ (h + 1) ≤ 2 ^ 64 := Nat.pow_le_pow_right (by omega) (by omega)
      have hq : (2 : Nat) ^ (h + 1) = 2 * 2 ^ h := by rw [Nat.pow_succ]; omega
      have ih := bitLen_bd h (x / 2) (by omega) (by omega)
      rw [Go.Lib.bitLen_half x (by omega) (by omega)]
      refine ⟨by omega, ?_⟩
      rw [Nat.add_comm, Nat.pow_succ]
      omega
theorem hgt_bd (n : Nat) (h1 : 1 ≤ n) (h2 : n ≤ 4096) : hgt n ≤ 12 ∧ n ≤ 2 ^ hgt n := by
  have := bitLen_bd 12 (n - 1) (by omega) (by omega)
  unfold hgt
  omega
set_option maxRecDepth 100000 in
set_option maxHeartbeats 1000000 in
theorem rheight_ok (n : Nat) (h1 : 1 ≤ n) (h2 : n ≤ 4096) (w : World) : Calls Tryz.prog 46 #[.int .i64 n] w fun e w' => e = .returned (.int .i64 (hgt n)) ∧ w = w' := by
  go_enter Tryz.func46, Tryz.ntmps46
  go_wp2_with fail
  go_loop [3, 4] (fun t3 t4 => ∃ h p : Nat, Hid (p = 2 ^ h) ∧ h ≤ 12 ∧ p ≤ 4096 ∧ t3 = .int .i64 h ∧ t4 = .int .i64 p ∧ Hid (h = 0 ∨ 2 ^ (h - 1) < n)) (fun _ t4 => 8192 - (intOf t4).toNat)
  case atStart => exact ⟨0, 1, rfl, by omega, by omega, rfl, rfl, .inl rfl⟩
  case round =>
    obtain ⟨h, p, hp, hh, hpb, rfl, rfl, hq⟩ := hrel
    have hp1 : 1 ≤ p := by rw [hp.out]; exact Nat.one_le_two_pow
    by_cases hlt : p < n
    · have hh2 : h < 12 := by
        rcases Nat.lt_or_ge h 12 with h' | h'
        · exact h'
        · obtain rfl : h = 12 := by omega
          have := hp.out
          omega
      have hp2 : 2 * p ≤ 4096 := by
        have e := hp.out
        have : (2 : Nat) ^ (h + 1) ≤ 2 ^ 12 := Nat.pow_le_pow_right (by omega) (by omega)
        rw [Nat.pow_succ] at this
        omega
      go_wp2_with fail
      go_round
      case rel => exact ⟨h + 1, 2 * p, by show _ = _; rw [hp.out, Nat.pow_succ]; omega, by omega, by omega, by go_num, by go_num, .inr (by rw [Nat.add_sub_cancel, ← hp.out]; exact hlt)⟩
      case measure => simp [intOf]; omega
    · go_wp2_with fail
      go_ret
      refine ⟨ret_int ?_, rfl⟩
      unfold hgt
      rw [bitLen_eq h (n - 1) (by rw [← hp.out]; omega) (hq.out.imp id (fun h => by omega)) (by omega)]
theorem rootS_sz (h : Nat) : (rootS h).size = 4 + (digS h).size := by
  unfold rootS
  rw [ByteArray.size_append]
  rfl
theorem rootS_pos (h : Nat) : 0 < (rootS h).size := by rw [rootS_sz]; omega
theorem rootS_le (h : Nat) : (rootS h).size ≤ 1000 := by
  have := digS_size h
  rw [rootS_sz]; omega
set_option maxRecDepth 100000 in
set_option maxHeartbeats 1000000 in
theorem rroot_ok (A : Option Addr) (b off cap : Nat) (l : List Dg) (n : Nat) (hn : n = l.length) (h1 : 1 ≤ n) (h2 : n ≤ 4096) (hok : ∀ d ∈ l, d.ok) (hA : 0 < n → A = some ⟨b, off, none⟩) (w : World) (hr : 0 < n → Row w b off (digs l)) :
    Calls Tryz.prog 68 #[.slice A n cap] w fun e w' => e = .returned (.tuple #[.agg (hTop (nodeT l (hgt n) 0) (hgt n)).cells, .int .i64 0]) ∧ Ext w w' := by
  have HN := Lib.hid hn
  have HO := Lib.hid hok
  have HA := Lib.hid hA
  have HR := Lib.hid hr
  clear hn hok hA hr
  have hb := hgt_bd n h1 h2
  have HB := Lib.hid hb.1
  clear hb
  obtain ⟨H, hH⟩ : ∃ H, H = hgt n := ⟨_, rfl⟩
  rw [← hH]
  have HH := Lib.hid hH
  have hH12 : H ≤ 12 := by rw [hH]; exact HB.out
  clear hH
  have hx0 : Ext w _ := (Kept.refl _ w).alloc (.cells Dg.zero.cells 23)
  have hR0 := Blk.new w 23 Dg.zero.cells
  go_enter Tryz.func68, Tryz.ntmps68
  go_wp2_with fail
  refine (rheight_ok n h1 h2 _).mono ?_
  rintro e w1 ⟨rfl, rfl⟩
  rw [← HH.out]
  go_wp2_with fail
  refine (rnode_any A b off cap l n HN.out (by omega) HO.out HA.out H 0 _ (fun h => (HR.out h).ext hx0) ?_ (by omega)).mono ?_
  · have : (2 : Nat) ^ H ≤ 2 ^ 12 := Nat.pow_le_pow_right (by omega) hH12
    omega
  rintro e w2 ⟨rfl, hx2⟩
  go_wp2_with fail
  refine (rname_any H hH12 _).mono ?_
  rintro e w3 ⟨rfl, hx3⟩
  go_wp2_with fail
  refine (rword_any rbytesIs _ (nodeT_ok l H 0) (rootS H) (rootS_pos H) (rootS_le H) _).mono ?_
  rintro e w4 ⟨rfl, hx4⟩
  have hR4 := Blk.ext hR0 ((hx2.trans hx3).trans hx4)
  have hh4 := Blk.has hR4
  have hm4 := Blk.melts hR4
  go_wp2_with fail
  refine ret_ci Tryz.results68 rfl rfl aggArr8 (by exact sizeArr8) (Blk.put_ hR4 _ _) ⟨rfl, ?_⟩
  exact Kept.putAt (((hx0.trans hx2).trans hx3).trans hx4) _ _ _ (fun h => by omega)
end Go.Proofs.YtahljceanodhkaaGreatDoor
