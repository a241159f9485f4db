/- Several texts joined: Oa, Ob, Oc, Od, Oe, Of, Ze, Wt, Og. -/
import Derived.Scope
import Derived.Test.YtahljceanodhkaaGreatDoorWbd
/- Numbers read from bytes: package octet's look, and the document's number. -/
namespace Go.Proofs.YtahljceanodhkaaGreatDoor
open Go.RowKit
/-- how many bytes from the first one on say that one more comes, ten at most -/
def lookK (l : List Int) : Nat := ((l.take 10).takeWhile (fun x => decide (128 ≤ x))).length
/-- what the first bytes say, the lowest part first -/
def valK (l : List Int) : Nat → Int | 0 => 0 | j + 1 => valK l j + l.getD j 0 % 128 * 2 ^ (7 * j)
/-- what is wrong with the first number -/
def lookE (l : List Int) : Int :=
  if lookK l = 10 then 3 else if lookK l = l.length then 4 else if (0 < lookK l ∧ l.getD (lookK l) 0 = 0) ∨ (lookK l = 9 ∧ 1 < l.getD 9 0) then 3 else 0
def lookV (l : List Int) : Int := if lookE l = 0 then valK l (lookK l + 1) else 0
def lookS (l : List Int) : Nat := if lookE l = 0 then lookK l + 1 else 0
theorem tw_eq : ∀ (l : List Int) (i : Nat), i ≤ l.length → (∀ j, j < i → 128 ≤ l.getD j 0) → (i = l.length ∨ l.getD i 0 < 128) → (l.takeWhile (fun x => decide (128 ≤ x))).length = i
  | [], i, h1, _, _ => by simp at h1; simp [h1]
  | x :: r, 0, _, _, h3 => by
    rcases h3 with h3 | h3
    · simp at h3
    · have : ¬ 128 ≤ x := by simp at h3; omega
      simp [this]
  | x :: r, i + 1, h1, h2, h3 => by
    have hx : 128 ≤ x := by simpa using h2 0 (by omega)
    have ih := tw_eq r i (by simpa using h1) (fun j hj => by simpa using h2 (j + 1) (by omega)) (by rcases h3 with h | h; exact .inl (by simpa using h); exact .inr (by simpa using h))
    simp [hx, ih]
theorem lookK_eq {l : List Int} {i : Nat} (h1 : i ≤ l.length) (h10 : i ≤ 10) (h2 : ∀ j, j < i → 128 ≤ l.getD j 0) (h3 : i = 10 ∨ i = l.length ∨ l.getD i 0 < 128) : lookK l = i := by
  unfold lookK
  have hg : ∀ j, j < 10 → (l.take 10).getD j 0 = l.getD j 0 := fun j hj => by
    simp only [List.getD_eq_getElem?_getD, List.getElem?_take, if_pos hj]
  refine tw_eq (l.take 10) i (by rw [List.length_take]; omega) (fun j hj => by rw [hg j (by omega)]; exact h2 j hj) ?_
  rw [List.length_take]
  by_cases e : i = 10
  · exact .inl (by omega)
  · rcases h3 with h | h | h
    · exact absurd h e
    · exact .inl (by omega)
    · exact .inr (by rw [hg i (by omega)]; exact h)
theorem getD_byte {l : List Int} (h : BytesOk l) (j : Nat) : 0 ≤ l.getD j 0 ∧ l.getD j 0 ≤ 255 := by
  rw [List.getD_eq_getElem?_getD]
  cases hq : l[j]? with
  | none => simp
  | some x => exact h x (List.mem_of_getElem? hq)
theorem valK_bd {l : List Int} (h : BytesOk l) : ∀ j, 0 ≤ valK l j ∧ valK l j < 2 ^ (7 * j)
  | 0 => by simp [valK]
  | j + 1 => by
    obtain ⟨a, b⟩ := valK_bd h j
    obtain ⟨c, _⟩ := getD_byte h j
    have hp : (0 : Int) ≤ 2 ^ (7 * j) := by rw [← pow_cast]; exact Int.natCast_nonneg _
    have hm : 0 ≤ l.getD j 0 % 128 := Int.emod_nonneg _ (by omega)
    have hm2 : l.getD j 0 % 128 ≤ 127 := by omega
    have hq : l.getD j 0 % 128 * 2 ^ (7 * j) ≤ 127 * 2 ^ (7 * j) := Int.mul_le_mul_of_nonneg_right hm2 hp
    have hn : 0 ≤ l.getD j 0 % 128 * 2 ^ (7 * j) := Int.mul_nonneg hm hp
    have e : (2 : Int) ^ (7 * (j + 1)) = 128 * 2 ^ (7 * j) := by rw [show 7 * (j + 1) = 7 * j + 7 by omega, Int.pow_add]; omega
    unfold valK
    rw [e]
    omega
theorem or_gen (m x : Int) (j : Nat) (hm0 : 0 ≤ m) (hm : m < 2 ^ j) (hx0 : 0 ≤ x) (hx : x * 2 ^ j < 18446744073709551616) (hm2 : m < 18446744073709551616) : bits .or .u64 m (IntKind.u64.wrap (x * 2 ^ j)) = m + x * 2 ^ j := by
  obtain ⟨a, rfl⟩ := Int.eq_ofNat_of_zero_le hm0
  obtain ⟨b, rfl⟩ := Int.eq_ofNat_of_zero_le hx0
  rw [← pow_cast] at hm hx ⊢
  have ha : a < 2 ^ j := by omega
  have e1 : ((b : Int) * ((2 ^ j : Nat) : Int)) = ((b * 2 ^ j : Nat) : Int) := by simp
  rw [e1] at hx ⊢
  rw [u64_in (by omega) (by omega), u64_or_nat _ _ (by omega) (by omega)]
  have e2 : a ||| b * 2 ^ j = a + b * 2 ^ j := by
    have := Nat.two_pow_add_eq_or_of_lt ha b
    rw [Nat.or_comm, Nat.mul_comm b, ← this, Nat.add_comm]
  rw [e2]
  simp
theorem and127 (x : Int) (h0 : 0 ≤ x) (h1 : x ≤ 255) : bits .and .u8 x 127 = x % 128 := by
  obtain ⟨n, rfl⟩ := Int.eq_ofNat_of_zero_le h0
  have hn : n < 256 := by omega
  have key : ∀ k : Nat, k < 256 → bits .and .u8 (k : Int) 127 = (k : Int) % 128 := by decide +kernel
  exact key n hn
theorem or_look {l : List Int} (h : BytesOk l) {i : Nat} (hi : i ≤ 9) (h9 : i = 9 → l.getD 9 0 ≤ 1) : bits .or .u64 (valK l i) (IntKind.u64.wrap (l.getD i 0 % 128 * 2 ^ (7 * i))) = valK l (i + 1) := by
  obtain ⟨a, b⟩ := valK_bd h i
  obtain ⟨c, d⟩ := getD_byte h i
  have hm : 0 ≤ l.getD i 0 % 128 := Int.emod_nonneg _ (by omega)
  refine or_gen _ _ _ a b hm ?_ ?_
  · rcases (by omega : i = 0 ∨ i = 1 ∨ i = 2 ∨ i = 3 ∨ i = 4 ∨ i = 5 ∨ i = 6 ∨ i = 7 ∨ i = 8 ∨ i = 9) with rfl | rfl | rfl | rfl | rfl | rfl | rfl | rfl | rfl | rfl
    all_goals (try have := h9 rfl); (simp only [Nat.reduceMul, Int.reducePow]; omega)
  · rcases (by omega : i = 0 ∨ i = 1 ∨ i = 2 ∨ i = 3 ∨ i = 4 ∨ i = 5 ∨ i = 6 ∨ i = 7 ∨ i = 8 ∨ i = 9) with rfl | rfl | rfl | rfl | rfl | rfl | rfl | rfl | rfl | rfl
    all_goals (simp only [Nat.reduceMul, Int.reducePow] at b; omega)
set_option maxRecDepth 100000 in
set_option maxHeartbeats 4000000 in
theorem look_any (A : Option Addr) (b off cap : Nat) (l : List Int) (n : Nat) (hn : n = l.length) (h2 : n ≤ 100000) (hok : BytesOk l) (hA : 0 < n → A = some ⟨b, off, none⟩) (w : World) (hr : 0 < n → Row w b off (byts l)) :
    Calls Tryz.prog 212 #[.slice A n cap] w fun e w' => e = .returned (.tuple #[.int .u64 (lookV l), .int .i64 (lookS l), .int .i64 (lookE l)]) ∧ w = w' := by
  have HN := Lib.hid hn
  have HO := Lib.hid hok
  have HA := Lib.hid hA
  have HR := Lib.hid hr
  obtain ⟨q, hq⟩ : ∃ q : Nat, q = min n 10 := ⟨_, rfl⟩
  have hqI : (if (n : Int) ≤ 10 then (n : Int) else 10) = (q : Int) := by split <;> omega
  have hqM : min (n : Int) 10 = (q : Int) := by omega
  have HQ := Lib.hid hq
  clear hn hok hA hr hq
  obtain ⟨V, hV⟩ : ∃ V, V = lookV l := ⟨_, rfl⟩
  obtain ⟨S, hS⟩ : ∃ S, S = lookS l := ⟨_, rfl⟩
  obtain ⟨E, hE⟩ : ∃ E, E = lookE l := ⟨_, rfl⟩
  rw [← hV, ← hS, ← hE]
  have HV := Lib.hid hV
  have HS := Lib.hid hS
  have HE := Lib.hid hE
  clear hV hS hE
  go_enter Tryz.func212, Tryz.ntmps212
  go_upto_region 3 with (fail)
  refine wp_scope_straight ?_
  repeat (first | (refine wp_label ?_; simp only [Exit.then]) | go_step)
  go_loopw [5, 6, 11] (fun t5 t6 t11 wr => ∃ (i : Nat) (m : Int), i ≤ q ∧ t11 = .int .i64 i ∧ t6 = .int .i64 (-1) ∧ t5 = .int .u64 m ∧ (i ≤ 9 → m = valK l i) ∧ (∀ j, j < i → 128 ≤ l.getD j 0) ∧ w = wr) (fun _ _ t11 _ => q - (intOf t11).toNat)
  case atStart => exact ⟨0, 0, Nat.zero_le _, rfl, rfl, rfl, fun _ => rfl, fun j hj => by omega, rfl⟩
  case round =>
    obtain ⟨i, m, hi, rfl, rfl, rfl, hm, hall, hw⟩ := hrel
    subst hw
    have HM := Lib.hid hm
    have HALL := Lib.hid hall
    clear hm hall
    by_cases hlt : i < q
    · have hin : i < n := by have := HQ.out; omega
      have hi9 : i ≤ 9 := by have := HQ.out; omega
      have hiI : (i : Int) < n := by omega
      have hqq : (i : Int) < q := by omega
      have hi0 : (0 : Int) ≤ i := by omega
      have hi9I : (i : Int) ≤ 9 := by omega
      have hil : i < l.length := by have := HN.out; omega
      obtain rfl := HA.out (by omega)
      have hrow := HR.out (by omega)
      have hbl := hrow.lt
      obtain ⟨x, hx⟩ : ∃ x, x = l.getD i 0 := ⟨_, rfl⟩
      have hxe : l[i] = x := by rw [hx]; simp [hil]
      have hc : w.cell? ⟨b, off + i, none⟩ = some (.int .u8 x) := by
        rw [hrow.cell i (by simpa [byts] using hil)]
        simp [byts, hil, hxe]
      obtain ⟨x0, x1⟩ : 0 ≤ x ∧ x ≤ 255 := by rw [hx]; exact getD_byte HO.out i
      have ha := and127 x x0 x1
      have hw7 : ((7 : Int) * i).toNat = 7 * i := by omega
      have hw7b : IntKind.i64.wrap (7 * (i : Int)) = 7 * i := by rw [IntKind.wrap_i64]; omega
      have hsh : 7 * i ≤ 63 := by omega
      obtain ⟨u, hu⟩ : ∃ u, u = bits .or .u64 m (IntKind.u64.wrap (x % 128 * 2 ^ (7 * i))) := ⟨_, rfl⟩
      have hnext : i + 1 ≤ 9 → u = valK l (i + 1) := fun h => by
        rw [hu, hx, HM.out hi9]
        exact or_look HO.out hi9 (fun e => by omega)
      have HU := Lib.hid hu
      have HNX := Lib.hid hnext
      have HX := Lib.hid hx
      clear hu hnext hx hxe
      have hkk : x < 128 → lookK l = i := fun h => lookK_eq (by omega) (by omega) HALL.out (.inr (.inr (by rw [← HX.out]; exact h)))
      have bad : x < 128 → ((0 < i ∧ x = 0) ∨ (i = 9 ∧ 1 < x)) → V = 0 ∧ S = 0 ∧ E = 3 := fun h hb => by
        have e : lookE l = 3 := by
          unfold lookE
          rw [hkk h, if_neg (by omega), if_neg (by omega), if_pos]
          rw [← HX.out]
          rcases hb with hb | ⟨h9, h1⟩
          · exact .inl hb
          · subst h9; exact .inr ⟨rfl, by rw [← HX.out]; exact h1⟩
        rw [HV.out, HS.out, HE.out]
        unfold lookV lookS
        rw [e]
        exact ⟨rfl, rfl, rfl⟩
      have good : x < 128 → ¬ ((0 < i ∧ x = 0) ∨ (i = 9 ∧ 1 < x)) → V = u ∧ S = i + 1 ∧ E = 0 := fun h hb => by
        have e : lookE l = 0 := by
          unfold lookE
          rw [hkk h, if_neg (by omega), if_neg (by omega), if_neg]
          rintro (⟨h0, h1⟩ | ⟨h9, h1⟩)
          · exact hb (.inl ⟨h0, by rw [HX.out]; exact h1⟩)
          · subst h9; exact hb (.inr ⟨rfl, by rw [HX.out]; exact h1⟩)
        rw [HV.out, HS.out, HE.out]
        unfold lookV lookS
        rw [e, if_pos rfl, if_pos rfl, hkk h]
        refine ⟨?_, rfl, rfl⟩
        rw [HU.out, HX.out, HM.out hi9]
        exact (or_look HO.out hi9 (fun e9 => by subst e9; rw [← HX.out]; omega)).symm
      have BAD := Lib.hid bad
      have GOOD := Lib.hid good
      clear bad good hkk
      by_cases h128 : x < 128
      · by_cases e9 : i = 9
        · subst e9
          by_cases hb0 : x = 0
          · have q0 : (x == 0) = true := by simp [hb0]
            have VV := Lib.hid (BAD.out h128 (.inl ⟨by omega, hb0⟩))
            go_wp2_with fail
            all_goals
              go_ret3
              obtain ⟨v1, v2, v3⟩ := VV.out
              exact ⟨by rw [v1, v2, v3]; rfl, rfl⟩
          · have q0 : (x == 0) = false := by simp [hb0]
            by_cases hb1 : 1 < x
            · have q1 : decide (1 < x) = true := by simp [hb1]
              have VV := Lib.hid (BAD.out h128 (.inr ⟨rfl, hb1⟩))
              go_wp2_with fail
              all_goals
                go_ret3
                obtain ⟨v1, v2, v3⟩ := VV.out
                exact ⟨by rw [v1, v2, v3]; rfl, rfl⟩
            · obtain rfl : x = 1 := by omega
              clear hb0 q0 hb1
              have VV := Lib.hid (GOOD.out h128 (by omega))
              go_wp2_with fail
              all_goals
                go_ret3
                obtain ⟨v1, v2, v3⟩ := VV.out
                exact ⟨by rw [v1, v2, v3, HU.out]; rfl, rfl⟩
        · have e9I : ¬ (i : Int) = 9 := by omega
          have q9 : ((i : Int) == 9) = false := by simp; omega
          by_cases hi00 : i = 0
          · have hip : ¬ (0 : Int) < i := by omega
            have qip : decide ((0 : Int) < i) = false := by simp; omega
            have VV := Lib.hid (GOOD.out h128 (by omega))
            clear hi00
            go_wp2_with fail
            all_goals
              go_ret3
              obtain ⟨v1, v2, v3⟩ := VV.out
              exact ⟨by rw [v1, v2, v3, HU.out]; rfl, rfl⟩
          · have hip : (0 : Int) < i := by omega
            have qip : decide ((0 : Int) < i) = true := by simp; omega
            by_cases hb0 : x = 0
            · have q0 : (x == 0) = true := by simp [hb0]
              have VV := Lib.hid (BAD.out h128 (.inl ⟨by omega, hb0⟩))
              go_wp2_with fail
              all_goals
                go_ret3
                obtain ⟨v1, v2, v3⟩ := VV.out
                exact ⟨by rw [v1, v2, v3]; rfl, rfl⟩
            · have q0 : (x == 0) = false := by simp [hb0]
              have VV := Lib.hid (GOOD.out h128 (by omega))
              go_wp2_with fail
              all_goals
                go_ret3
                obtain ⟨v1, v2, v3⟩ := VV.out
                exact ⟨by rw [v1, v2, v3, HU.out]; rfl, rfl⟩
      · go_wp2_with fail
        go_roundw
        case rel => exact ⟨i + 1, _, hlt, by go_num, rfl, rfl, by rw [← HU.out]; exact HNX.out, fun j hj => by
          by_cases e : j = i
          · subst e; rw [← HX.out]; omega
          · exact HALL.out j (by omega), by first | rfl | trivial⟩
        case measure => simp only [intOf]; omega
    · have hltI : ¬ (i : Int) < q := by omega
      have short : n < 10 → V = 0 ∧ S = 0 ∧ E = 4 := fun h => by
        have hk : lookK l = i := lookK_eq (by have := HQ.out; have := HN.out; omega) (by have := HQ.out; omega) HALL.out (.inr (.inl (by have := HQ.out; have := HN.out; omega)))
        have e : lookE l = 4 := by
          unfold lookE
          rw [hk, if_neg (by have := HQ.out; omega), if_pos (by have := HQ.out; have := HN.out; omega)]
        rw [HV.out, HS.out, HE.out]
        unfold lookV lookS
        rw [e]
        exact ⟨rfl, rfl, rfl⟩
      have long : ¬ n < 10 → V = 0 ∧ S = 0 ∧ E = 3 := fun h => by
        have hk : lookK l = i := lookK_eq (by have := HQ.out; have := HN.out; omega) (by have := HQ.out; omega) HALL.out (.inl (by have := HQ.out; omega))
        have e : lookE l = 3 := by
          unfold lookE
          rw [hk, if_pos (by have := HQ.out; omega)]
        rw [HV.out, HS.out, HE.out]
        unfold lookV lookS
        rw [e]
        exact ⟨rfl, rfl, rfl⟩
      have SHORT := Lib.hid short
      have LONG := Lib.hid long
      clear short long
      go_wp2_with fail
      all_goals
        go_ret3
        first
          | (obtain ⟨v1, v2, v3⟩ := SHORT.out (by omega); exact ⟨by rw [v1, v2, v3]; rfl, rfl⟩)
          | (obtain ⟨v1, v2, v3⟩ := LONG.out (by omega); exact ⟨by rw [v1, v2, v3]; rfl, rfl⟩)
end Go.Proofs.YtahljceanodhkaaGreatDoor

/- The document's number read from bytes. -/
namespace Go.Proofs.YtahljceanodhkaaGreatDoor
open Go.RowKit
theorem lookE_bad {l : List Int} {i : Nat} (hk : lookK l = i) (h10 : i < 10) (hl : i < l.length) (hb : (0 < i ∧ l.getD i 0 = 0) ∨ (i = 9 ∧ 1 < l.getD 9 0)) : lookE l = 3 := by
  unfold lookE
  rw [hk, if_neg (by omega), if_neg (by omega), if_pos hb]
theorem lookE_good {l : List Int} {i : Nat} (hk : lookK l = i) (h10 : i < 10) (hl : i < l.length) (hb : ¬ ((0 < i ∧ l.getD i 0 = 0) ∨ (i = 9 ∧ 1 < l.getD 9 0))) : lookE l = 0 := by
  unfold lookE
  rw [hk, if_neg (by omega), if_neg (by omega), if_neg hb]
theorem lookE_short {l : List Int} {i : Nat} (hk : lookK l = i) (h10 : i < 10) (hl : i = l.length) : lookE l = 4 := by
  unfold lookE
  rw [hk, if_neg (by omega), if_pos hl]
theorem lookE_long {l : List Int} (hk : lookK l = 10) : lookE l = 3 := by
  unfold lookE
  rw [hk, if_pos rfl]
theorem look_zero {l : List Int} (h : ¬ lookE l = 0) : lookV l = 0 ∧ lookS l = 0 := by
  unfold lookV lookS
  rw [if_neg h, if_neg h]
  exact ⟨rfl, rfl⟩
theorem look_some {l : List Int} {i : Nat} (hk : lookK l = i) (h : lookE l = 0) : lookV l = valK l (i + 1) ∧ lookS l = i + 1 := by
  unfold lookV lookS
  rw [if_pos h, if_pos h, hk]
  exact ⟨rfl, rfl⟩
theorem valK_64 {l : List Int} (h : BytesOk l) {i : Nat} (hi : i ≤ 9) (h9 : i = 9 → l.getD 9 0 ≤ 1) : valK l (i + 1) < 18446744073709551616 := by
  obtain ⟨a, b⟩ := valK_bd h (i + 1)
  rcases (by omega : i ≤ 8 ∨ i = 9) with h8 | rfl
  · have : (2 : Int) ^ (7 * (i + 1)) ≤ 2 ^ 63 := by
      rw [← pow_cast, ← pow_cast]
      exact Int.ofNat_le.2 (Nat.pow_le_pow_right (by omega) (by omega))
    omega
  · obtain ⟨c, d⟩ := valK_bd h 9
    obtain ⟨e, _⟩ := getD_byte h 9
    have := h9 rfl
    simp only [valK, Nat.reduceMul, Int.reducePow] at *
    omega
set_option maxRecDepth 100000 in
set_option maxHeartbeats 4000000 in
theorem rnumr01_any (A : Option Addr) (b off cap : Nat) (l : List Int) (n : Nat) (hn : n = l.length) (h2 : n ≤ 100000) (hok : BytesOk l) (hA : 0 < n → A = some ⟨b, off, none⟩) (w : World) (hr : 0 < n → Row w b off (byts l)) :
    Calls Tryz.prog 170 #[.slice A n cap] w fun e w' => e = .returned (.tuple #[.int .u64 (lookV l), .int .i64 (lookS l), .int .i64 (lookE l)]) ∧ w = w' := by
  have HN := Lib.hid hn
  have HO := Lib.hid hok
  have HA := Lib.hid hA
  have HR := Lib.hid hr
  clear hn hok hA hr
  obtain ⟨V, hV⟩ : ∃ V, V = lookV l := ⟨_, rfl⟩
  obtain ⟨S, hS⟩ : ∃ S, S = lookS l := ⟨_, rfl⟩
  obtain ⟨E, hE⟩ : ∃ E, E = lookE l := ⟨_, rfl⟩
  rw [← hV, ← hS, ← hE]
  have HV := Lib.hid hV
  have HS := Lib.hid hS
  have HE := Lib.hid hE
  clear hV hS hE
  go_enter Tryz.func170, Tryz.ntmps170
  go_wp2_with fail
  go_loopw [5] (fun t5 wr => ∃ (i : Nat), i ≤ n ∧ i ≤ 10 ∧ t5 = .int .i64 i ∧ (∀ j, j < i → 128 ≤ l.getD j 0) ∧ w = wr) (fun t5 _ => 10 - (intOf t5).toNat)
  case atStart => exact ⟨0, Nat.zero_le _, Nat.zero_le _, rfl, fun j hj => by omega, rfl⟩
  case round =>
    obtain ⟨i, hin, hi10, rfl, hall, hw⟩ := hrel
    subst hw
    have HALL := Lib.hid hall
    clear hall
    by_cases hlt : i < n
    · have hil : i < l.length := by have := HN.out; omega
      obtain rfl := HA.out (by omega)
      have hrow := HR.out (by omega)
      have hbl := hrow.lt
      have hiI : (i : Int) < n := by omega
      have hi0 : (0 : Int) ≤ i := by omega
      by_cases h10 : i < 10
      · have h10I : (i : Int) < 10 := by omega
        have hne10 : ¬ (i : Int) = 10 := by omega
        have hnen : ¬ (i : Int) = n := by omega
        obtain ⟨x, hx⟩ : ∃ x, x = l.getD i 0 := ⟨_, rfl⟩
        have hxe : l[i] = x := by rw [hx]; simp [hil]
        have hc : w.cell? ⟨b, off + i, none⟩ = some (.int .u8 x) := by
          rw [hrow.cell i (by simpa [byts] using hil)]
          simp [byts, hil, hxe]
        obtain ⟨x0, x1⟩ : 0 ≤ x ∧ x ≤ 255 := by rw [hx]; exact getD_byte HO.out i
        have HX := Lib.hid hx
        clear hx hxe
        by_cases h128 : 128 ≤ x
        · go_wp2_with fail
          go_roundw
          case rel => exact ⟨i + 1, by omega, by omega, by go_num, fun j hj => by
            by_cases e : j = i
            · subst e; rw [← HX.out]; exact h128
            · exact HALL.out j (by omega), by first | rfl | trivial⟩
          case measure => simp only [intOf]; omega
        · have hk : lookK l = i := lookK_eq (by omega) (by omega) HALL.out (.inr (.inr (by rw [← HX.out]; omega)))
          have h128' : x < 128 := by omega
          have bad : ((0 < i ∧ x = 0) ∨ (i = 9 ∧ 1 < x)) → V = 0 ∧ S = 0 ∧ E = 3 := fun hb => by
            have e := lookE_bad hk h10 hil (by
              rcases hb with ⟨h0, h1⟩ | ⟨h9, h1⟩
              · exact .inl ⟨h0, by rw [← HX.out]; exact h1⟩
              · subst h9; exact .inr ⟨rfl, by rw [← HX.out]; exact h1⟩)
            obtain ⟨z1, z2⟩ := look_zero (l := l) (by rw [e]; omega)
            exact ⟨by rw [HV.out, z1], by rw [HS.out, z2], by rw [HE.out, e]⟩
          have good : ¬ ((0 < i ∧ x = 0) ∨ (i = 9 ∧ 1 < x)) → V = valK l (i + 1) ∧ S = i + 1 ∧ E = 0 := fun hb => by
            have e := lookE_good hk h10 hil (by
              rintro (⟨h0, h1⟩ | ⟨h9, h1⟩)
              · exact hb (.inl ⟨h0, by rw [HX.out]; exact h1⟩)
              · subst h9; exact hb (.inr ⟨rfl, by rw [HX.out]; exact h1⟩))
            obtain ⟨z1, z2⟩ := look_some hk e
            exact ⟨by rw [HV.out, z1], by rw [HS.out, z2], by rw [HE.out, e]⟩
          have HT : (i = 9 → x ≤ 1) → valK l (i + 1) < 18446744073709551616 := fun h9 => valK_64 HO.out (by omega) (fun e => by subst e; rw [← HX.out]; exact h9 rfl)
          have BAD := Lib.hid bad
          have GOOD := Lib.hid good
          have HTT := Lib.hid HT
          clear bad good HT hk h128
          by_cases e9 : i = 9
          · subst e9
            by_cases hb0 : x = 0
            · have q0 : (x == 0) = true := by simp [hb0]
              have VV := Lib.hid (BAD.out (.inl ⟨by omega, hb0⟩))
              go_wp2_with fail
              all_goals
                go_ret3
                obtain ⟨v1, v2, v3⟩ := VV.out
                exact ⟨by rw [v1, v2, v3]; rfl, rfl⟩
            · have q0 : (x == 0) = false := by simp [hb0]
              by_cases hb1 : 1 < x
              · have q1 : decide (1 < x) = true := by simp [hb1]
                have VV := Lib.hid (BAD.out (.inr ⟨rfl, hb1⟩))
                go_wp2_with fail
                all_goals
                  go_ret3
                  obtain ⟨v1, v2, v3⟩ := VV.out
                  exact ⟨by rw [v1, v2, v3]; rfl, rfl⟩
              · obtain rfl : x = 1 := by omega
                clear hb0 q0 hb1
                have VV := Lib.hid (GOOD.out (by omega))
                have HT := Lib.hid (HTT.out (fun _ => by omega))
                clear BAD GOOD HTT
                go_wp2_with fail
                go_loopw [6, 7] (fun t6 t7 wr => ∃ (j : Nat) (v : Int), j ≤ 9 + 1 ∧ t7 = .int .i64 ((j : Int) - 1) ∧ t6 = .int .u64 v ∧ 0 ≤ v ∧ v * 2 ^ (7 * j) + valK l j = valK l (9 + 1) ∧ w = wr) (fun _ t7 _ => ((intOf t7) + 1).toNat)
                case atStart => exact ⟨9 + 1, 0, Nat.le_refl _, by rw [show (((9 + 1 : Nat) : Int) - 1) = (9 : Nat) by omega]; rfl, rfl, Int.le_refl _, by rw [Int.zero_mul, Int.zero_add], by trivial⟩
                case round =>
                  obtain ⟨j, v, hj, rfl, rfl, hv0, heq, hw2⟩ := hrel
                  subst hw2
                  have HEQ := Lib.hid heq
                  clear heq
                  cases j with
                  | zero =>
                    have hneg : ¬ (0 : Int) ≤ ((0 : Nat) : Int) - 1 := by omega
                    go_wp2_with fail
                    go_ret3
                    obtain ⟨v1, v2, v3⟩ := VV.out
                    have e := HEQ.out
                    rw [show valK l 0 = 0 from rfl, Nat.mul_zero, Int.pow_zero, Int.mul_one, Int.add_zero] at e
                    exact ⟨by rw [v1, v2, v3, ← e]; rfl, rfl⟩
                  | succ p =>
                    have hp0 : (0 : Int) ≤ p := by omega
                    have hp10 : (p : Int) ≤ 10 := by omega
                    have hidx : (((p + 1 : Nat) : Int) - 1) = p := by omega
                    rw [hidx]
                    have hpl : p < l.length := by omega
                    have hpn : (p : Int) < n := by have := HN.out; omega
                    obtain ⟨y, hy⟩ : ∃ y, y = l.getD p 0 := ⟨_, rfl⟩
                    have hye : l[p] = y := by rw [hy]; simp [hpl]
                    have hcy : w.cell? ⟨b, off + p, none⟩ = some (.int .u8 y) := by
                      rw [hrow.cell p (by simpa [byts] using hpl)]
                      simp [byts, hpl, hye]
                    obtain ⟨y0, y1⟩ : 0 ≤ y ∧ y ≤ 255 := by rw [hy]; exact getD_byte HO.out p
                    have hmod : y.tmod 128 = y % 128 := by rw [Int.tmod_eq_emod_of_nonneg y0]
                    have hq0 : 0 ≤ y % 128 := Int.emod_nonneg _ (by omega)
                    obtain ⟨P, hP⟩ : ∃ P : Nat, P = 2 ^ (7 * p) := ⟨_, rfl⟩
                    have hP1 : 1 ≤ P := by rw [hP]; exact Nat.one_le_two_pow
                    have hstep : (128 * v + y % 128) * 2 ^ (7 * p) + valK l p = valK l (9 + 1) := by
                      rw [← HEQ.out]
                      show _ = v * 2 ^ (7 * (p + 1)) + (valK l p + l.getD p 0 % 128 * 2 ^ (7 * p))
                      rw [← hy, show 7 * (p + 1) = 7 * p + 7 by omega, Int.pow_add, Int.add_mul, show (2 : Int) ^ 7 = 128 from rfl]
                      rw [show v * (2 ^ (7 * p) * 128) = 128 * v * 2 ^ (7 * p) by rw [Int.mul_comm (128 : Int) v, Int.mul_assoc, Int.mul_comm (128 : Int)]]
                      omega
                    have hb : 128 * v + y % 128 < 18446744073709551616 := by
                      have h1 := HT.out
                      have h2 := (valK_bd HO.out p).1
                      rw [← hstep, ← pow_cast, ← hP] at h1
                      have h3 : (128 * v + y % 128) * 1 ≤ (128 * v + y % 128) * (P : Int) := Int.mul_le_mul_of_nonneg_left (by omega) (by omega)
                      omega
                    have hw1 : IntKind.u64.wrap (128 * v) = 128 * v := u64_in (by omega) (by omega)
                    have hw2 : IntKind.u64.wrap (128 * v + y % 128) = 128 * v + y % 128 := u64_in (by omega) (by omega)
                    have HST := Lib.hid hstep
                    have HY := Lib.hid hy
                    clear hstep hy hye hidx hP hP1
                    go_wp2_with fail
                    go_roundw
                    case rel => exact ⟨p, 128 * v + y % 128, by omega, by go_num, rfl, by omega, HST.out, by first | rfl | trivial⟩
                    case measure => simp only [intOf]; omega
          · have e9I : ¬ (i : Int) = 9 := by omega
            have q9 : ((i : Int) == 9) = false := by simp; omega
            by_cases hi00 : i = 0
            · have hip : ¬ (0 : Int) < i := by omega
              have qip : decide ((0 : Int) < i) = false := by simp; omega
              have VV := Lib.hid (GOOD.out (by omega))
              have HT := Lib.hid (HTT.out (fun e => absurd e e9))
              clear hi00
              clear BAD GOOD HTT
              go_wp2_with fail
              go_loopw [6, 7] (fun t6 t7 wr => ∃ (j : Nat) (v : Int), j ≤ i + 1 ∧ t7 = .int .i64 ((j : Int) - 1) ∧ t6 = .int .u64 v ∧ 0 ≤ v ∧ v * 2 ^ (7 * j) + valK l j = valK l (i + 1) ∧ w = wr) (fun _ t7 _ => ((intOf t7) + 1).toNat)
              case atStart => exact ⟨i + 1, 0, Nat.le_refl _, by rw [show (((i + 1 : Nat) : Int) - 1) = (i : Nat) by omega], rfl, Int.le_refl _, by rw [Int.zero_mul, Int.zero_add], by trivial⟩
              case round =>
                obtain ⟨j, v, hj, rfl, rfl, hv0, heq, hw2⟩ := hrel
                subst hw2
                have HEQ := Lib.hid heq
                clear heq
                cases j with
                | zero =>
                  have hneg : ¬ (0 : Int) ≤ ((0 : Nat) : Int) - 1 := by omega
                  go_wp2_with fail
                  go_ret3
                  obtain ⟨v1, v2, v3⟩ := VV.out
                  have e := HEQ.out
                  rw [show valK l 0 = 0 from rfl, Nat.mul_zero, Int.pow_zero, Int.mul_one, Int.add_zero] at e
                  exact ⟨by rw [v1, v2, v3, ← e]; rfl, rfl⟩
                | succ p =>
                  have hp0 : (0 : Int) ≤ p := by omega
                  have hp10 : (p : Int) ≤ 10 := by omega
                  have hidx : (((p + 1 : Nat) : Int) - 1) = p := by omega
                  rw [hidx]
                  have hpl : p < l.length := by omega
                  have hpn : (p : Int) < n := by have := HN.out; omega
                  obtain ⟨y, hy⟩ : ∃ y, y = l.getD p 0 := ⟨_, rfl⟩
                  have hye : l[p] = y := by rw [hy]; simp [hpl]
                  have hcy : w.cell? ⟨b, off + p, none⟩ = some (.int .u8 y) := by
                    rw [hrow.cell p (by simpa [byts] using hpl)]
                    simp [byts, hpl, hye]
                  obtain ⟨y0, y1⟩ : 0 ≤ y ∧ y ≤ 255 := by rw [hy]; exact getD_byte HO.out p
                  have hmod : y.tmod 128 = y % 128 := by rw [Int.tmod_eq_emod_of_nonneg y0]
                  have hq0 : 0 ≤ y % 128 := Int.emod_nonneg _ (by omega)
                  obtain ⟨P, hP⟩ : ∃ P : Nat, P = 2 ^ (7 * p) := ⟨_, rfl⟩
                  have hP1 : 1 ≤ P := by rw [hP]; exact Nat.one_le_two_pow
                  have hstep : (128 * v + y % 128) * 2 ^ (7 * p) + valK l p = valK l (i + 1) := by
                    rw [← HEQ.out]
                    show _ = v * 2 ^ (7 * (p + 1)) + (valK l p + l.getD p 0 % 128 * 2 ^ (7 * p))
                    rw [← hy, show 7 * (p + 1) = 7 * p + 7 by omega, Int.pow_add, Int.add_mul, show (2 : Int) ^ 7 = 128 from rfl]
                    rw [show v * (2 ^ (7 * p) * 128) = 128 * v * 2 ^ (7 * p) by rw [Int.mul_comm (128 : Int) v, Int.mul_assoc, Int.mul_comm (128 : Int)]]
                    omega
                  have hb : 128 * v + y % 128 < 18446744073709551616 := by
                    have h1 := HT.out
                    have h2 := (valK_bd HO.out p).1
                    rw [← hstep, ← pow_cast, ← hP] at h1
                    have h3 : (128 * v + y % 128) * 1 ≤ (128 * v + y % 128) * (P : Int) := Int.mul_le_mul_of_nonneg_left (by omega) (by omega)
                    omega
                  have hw1 : IntKind.u64.wrap (128 * v) = 128 * v := u64_in (by omega) (by omega)
                  have hw2 : IntKind.u64.wrap (128 * v + y % 128) = 128 * v + y % 128 := u64_in (by omega) (by omega)
                  have HST := Lib.hid hstep
                  have HY := Lib.hid hy
                  clear hstep hy hye hidx hP hP1
                  go_wp2_with fail
                  go_roundw
                  case rel => exact ⟨p, 128 * v + y % 128, by omega, by go_num, rfl, by omega, HST.out, by first | rfl | trivial⟩
                  case measure => simp only [intOf]; omega
            · have hip : (0 : Int) < i := by omega
              have qip : decide ((0 : Int) < i) = true := by simp; omega
              by_cases hb0 : x = 0
              · have q0 : (x == 0) = true := by simp [hb0]
                have VV := Lib.hid (BAD.out (.inl ⟨by omega, hb0⟩))
                go_wp2_with fail
                all_goals
                  go_ret3
                  obtain ⟨v1, v2, v3⟩ := VV.out
                  exact ⟨by rw [v1, v2, v3]; rfl, rfl⟩
              · have q0 : (x == 0) = false := by simp [hb0]
                have VV := Lib.hid (GOOD.out (by omega))
                have HT := Lib.hid (HTT.out (fun e => absurd e e9))
                clear BAD GOOD HTT
                go_wp2_with fail
                go_loopw [6, 7] (fun t6 t7 wr => ∃ (j : Nat) (v : Int), j ≤ i + 1 ∧ t7 = .int .i64 ((j : Int) - 1) ∧ t6 = .int .u64 v ∧ 0 ≤ v ∧ v * 2 ^ (7 * j) + valK l j = valK l (i + 1) ∧ w = wr) (fun _ t7 _ => ((intOf t7) + 1).toNat)
                case atStart => exact ⟨i + 1, 0, Nat.le_refl _, by rw [show (((i + 1 : Nat) : Int) - 1) = (i : Nat) by omega], rfl, Int.le_refl _, by rw [Int.zero_mul, Int.zero_add], by trivial⟩
                case round =>
                  obtain ⟨j, v, hj, rfl, rfl, hv0, heq, hw2⟩ := hrel
                  subst hw2
                  have HEQ := Lib.hid heq
                  clear heq
                  cases j with
                  | zero =>
                    have hneg : ¬ (0 : Int) ≤ ((0 : Nat) : Int) - 1 := by omega
                    go_wp2_with fail
                    go_ret3
                    obtain ⟨v1, v2, v3⟩ := VV.out
                    have e := HEQ.out
                    rw [show valK l 0 = 0 from rfl, Nat.mul_zero, Int.pow_zero, Int.mul_one, Int.add_zero] at e
                    exact ⟨by rw [v1, v2, v3, ← e]; rfl, rfl⟩
                  | succ p =>
                    have hp0 : (0 : Int) ≤ p := by omega
                    have hp10 : (p : Int) ≤ 10 := by omega
                    have hidx : (((p + 1 : Nat) : Int) - 1) = p := by omega
                    rw [hidx]
                    have hpl : p < l.length := by omega
                    have hpn : (p : Int) < n := by have := HN.out; omega
                    obtain ⟨y, hy⟩ : ∃ y, y = l.getD p 0 := ⟨_, rfl⟩
                    have hye : l[p] = y := by rw [hy]; simp [hpl]
                    have hcy : w.cell? ⟨b, off + p, none⟩ = some (.int .u8 y) := by
                      rw [hrow.cell p (by simpa [byts] using hpl)]
                      simp [byts, hpl, hye]
                    obtain ⟨y0, y1⟩ : 0 ≤ y ∧ y ≤ 255 := by rw [hy]; exact getD_byte HO.out p
                    have hmod : y.tmod 128 = y % 128 := by rw [Int.tmod_eq_emod_of_nonneg y0]
                    have hq0 : 0 ≤ y % 128 := Int.emod_nonneg _ (by omega)
                    obtain ⟨P, hP⟩ : ∃ P : Nat, P = 2 ^ (7 * p) := ⟨_, rfl⟩
                    have hP1 : 1 ≤ P := by rw [hP]; exact Nat.one_le_two_pow
                    have hstep : (128 * v + y % 128) * 2 ^ (7 * p) + valK l p = valK l (i + 1) := by
                      rw [← HEQ.out]
                      show _ = v * 2 ^ (7 * (p + 1)) + (valK l p + l.getD p 0 % 128 * 2 ^ (7 * p))
                      rw [← hy, show 7 * (p + 1) = 7 * p + 7 by omega, Int.pow_add, Int.add_mul, show (2 : Int) ^ 7 = 128 from rfl]
                      rw [show v * (2 ^ (7 * p) * 128) = 128 * v * 2 ^ (7 * p) by rw [Int.mul_comm (128 : Int) v, Int.mul_assoc, Int.mul_comm (128 : Int)]]
                      omega
                    have hb : 128 * v + y % 128 < 18446744073709551616 := by
                      have h1 := HT.out
                      have h2 := (valK_bd HO.out p).1
                      rw [← hstep, ← pow_cast, ← hP] at h1
                      have h3 : (128 * v + y % 128) * 1 ≤ (128 * v + y % 128) * (P : Int) := Int.mul_le_mul_of_nonneg_left (by omega) (by omega)
                      omega
                    have hw1 : IntKind.u64.wrap (128 * v) = 128 * v := u64_in (by omega) (by omega)
                    have hw2 : IntKind.u64.wrap (128 * v + y % 128) = 128 * v + y % 128 := u64_in (by omega) (by omega)
                    have HST := Lib.hid hstep
                    have HY := Lib.hid hy
                    clear hstep hy hye hidx hP hP1
                    go_wp2_with fail
                    go_roundw
                    case rel => exact ⟨p, 128 * v + y % 128, by omega, by go_num, rfl, by omega, HST.out, by first | rfl | trivial⟩
                    case measure => simp only [intOf]; omega
      · obtain rfl : i = 10 := by omega
        have hk : lookK l = 10 := lookK_eq (by omega) (by omega) HALL.out (.inl rfl)
        have e := lookE_long hk
        obtain ⟨z1, z2⟩ := look_zero (l := l) (by rw [e]; omega)
        have VV : Hid (V = 0 ∧ S = 0 ∧ E = 3) := Lib.hid ⟨by rw [HV.out, z1], by rw [HS.out, z2], by rw [HE.out, e]⟩
        have hnen : ¬ (10 : Int) = n := by omega
        clear hk e z1 z2
        go_wp2_with fail
        all_goals
          go_ret3
          obtain ⟨v1, v2, v3⟩ := VV.out
          exact ⟨by rw [v1, v2, v3]; rfl, rfl⟩
    · obtain rfl : i = n := by omega
      by_cases h10 : i < 10
      · have h10I : (i : Int) < 10 := by omega
        have hk : lookK l = i := lookK_eq (by have := HN.out; omega) (by omega) HALL.out (.inr (.inl HN.out))
        have e := lookE_short hk h10 HN.out
        obtain ⟨z1, z2⟩ := look_zero (l := l) (by rw [e]; omega)
        have VV : Hid (V = 0 ∧ S = 0 ∧ E = 4) := Lib.hid ⟨by rw [HV.out, z1], by rw [HS.out, z2], by rw [HE.out, e]⟩
        clear hk e z1 z2
        go_wp2_with fail
        all_goals
          go_ret3
          obtain ⟨v1, v2, v3⟩ := VV.out
          exact ⟨by rw [v1, v2, v3]; rfl, rfl⟩
      · obtain rfl : i = 10 := by omega
        have hk : lookK l = 10 := lookK_eq (by have := HN.out; omega) (by omega) HALL.out (.inl rfl)
        have e := lookE_long hk
        obtain ⟨z1, z2⟩ := look_zero (l := l) (by rw [e]; omega)
        have VV : Hid (V = 0 ∧ S = 0 ∧ E = 3) := Lib.hid ⟨by rw [HV.out, z1], by rw [HS.out, z2], by rw [HE.out, e]⟩
        clear hk e z1 z2
        go_wp2_with fail
        all_goals
          go_ret3
          obtain ⟨v1, v2, v3⟩ := VV.out
          exact ⟨by rw [v1, v2, v3]; rfl, rfl⟩
end Go.Proofs.YtahljceanodhkaaGreatDoor

/- The document's reader: a number, not above the most. -/
namespace Go.Proofs.YtahljceanodhkaaGreatDoor
open Go.RowKit
theorem aggRdR : aggT Tryz.prog 180 = true := by kernel_rfl
theorem sizeRdR : sizeT Tryz.prog 180 = some 3 := by kernel_rfl
theorem wpLoadRdR {dst : Option Tmp} {ty' : TypeId} {x : Operand} {pos : String} {after : Array Edge} {guard : Option (Nat × Bool)} {a : Act} {w : World} {K : Act → World → Prop} {Q : Exit → Act → World → Prop} (hx : isAt (a.eval x) = true) (hh : has w (blkOf (a.eval x)) (offOf (a.eval x)) 3 = true) :
    Oper.wp Tryz.prog { dst := dst, op := .load 180 x, type := ty', pos := pos, after := after, guard := guard } a w K Q = K (a.put dst (.agg (gets w (blkOf (a.eval x)) (offOf (a.eval x)) 3))) w := wp_load_big 3 aggRdR sizeRdR hx hh
theorem runLoadRdR {ρ : Operand → Value} {dst : Option Tmp} {ty' : TypeId} {x : Operand} {pos : String} {after : Array Edge} {guard : Option (Nat × Bool)} {w : World} (hx : isAt (ρ x) = true) (hh : has w (blkOf (ρ x)) (offOf (ρ x)) 3 = true) :
    (execOp ρ { dst := dst, op := .load 180 x, type := ty', pos := pos, after := after, guard := guard }).run Tryz.prog w = .ok (.value (.agg (gets w (blkOf (ρ x)) (offOf (ρ x)) 3))) w := run_exec_load_big 3 aggRdR sizeRdR hx hh
theorem loadVarRdR (w : World) (g off : Nat) (hh : has w g off 3 = true) : (loadVar 180 ⟨g, off, none⟩).run Tryz.prog w = .ok (.agg (gets w g off 3)) w := run_loadVar_big Tryz.prog w _ g off 3 aggRdR sizeRdR hh
attribute [go_sem] aggRdR sizeRdR
attribute [go_sem ↓ high] wpLoadRdR loadVarRdR runLoadRdR
attribute [go_sem high] wpLoadRdR
/-- a number with a sign, told by one without -/
def unf (n : Int) : Int := if n % 2 = 1 then -(n / 2) - 1 else n / 2
/-- what reading a number behind 'at', not above the most, comes to: the error, the place, the number -/
def rdE (l : List Int) (most : Int) (at_ : Nat) (err : Int) : Int := if err = 0 then (if lookE (l.drop at_) = 0 then (if most < lookV (l.drop at_) then 2 else 0) else lookE (l.drop at_)) else err
def rdA (l : List Int) (most : Int) (at_ : Nat) (err : Int) : Nat := if err = 0 ∧ rdE l most at_ err = 0 then at_ + lookS (l.drop at_) else at_
def rdV (l : List Int) (most : Int) (at_ : Nat) (err : Int) : Int := if err = 0 ∧ rdE l most at_ err = 0 then lookV (l.drop at_) else 0
theorem lookS_le (l : List Int) : lookS l ≤ l.length := by
  unfold lookS
  split
  · rename_i h
    unfold lookE at h
    have h1 : lookK l ≤ l.length := by
      unfold lookK
      refine Nat.le_trans (List.takeWhile_sublist _).length_le ?_
      rw [List.length_take]
      omega
    split at h
    · omega
    · split at h
      · omega
      · omega
  · omega
theorem rdA_le (l : List Int) (most : Int) (at_ : Nat) (err : Int) (h : at_ ≤ l.length) : rdA l most at_ err ≤ l.length := by
  unfold rdA
  split
  · have := lookS_le (l.drop at_)
    rw [List.length_drop] at this
    omega
  · exact h
theorem lookV_bd {l : List Int} (h : BytesOk l) : 0 ≤ lookV l ∧ lookV l < 18446744073709551616 := by
  unfold lookV
  split
  · rename_i h0
    refine ⟨(valK_bd h _).1, ?_⟩
    unfold lookE at h0
    split at h0
    · omega
    · split at h0
      · omega
      · split at h0
        · omega
        · rename_i h1 h2 h3
          have hk : lookK l ≤ 10 := by
            unfold lookK
            refine Nat.le_trans (List.takeWhile_sublist _).length_le ?_
            rw [List.length_take]
            omega
          exact valK_64 h (by omega) (fun e => by
            by_cases q : l.getD 9 0 ≤ 1
            · exact q
            · exact absurd (.inr ⟨e, by omega⟩) h3)
  · omega
theorem bytesOk_drop {l : List Int} (h : BytesOk l) (n : Nat) : BytesOk (l.drop n) := fun x hx => h x (List.mem_of_mem_drop hx)
theorem runf_any (n : Int) (h0 : 0 ≤ n) (h1 : n < 18446744073709551616) (w : World) : Calls Tryz.prog 169 #[.int .u64 n] w fun e w' => e = .returned (.int .i64 (unf n)) ∧ w = w' := by
  have e1 : n.tmod 2 = n % 2 := by rw [Int.tmod_eq_emod_of_nonneg h0]
  have e2 : n.tdiv 2 = n / 2 := by rw [Int.tdiv_eq_ediv_of_nonneg h0]
  have e3 : wrap64 (n / 2) = n / 2 := by unfold wrap64; omega
  go_enter Tryz.func169, Tryz.ntmps169
  by_cases h : n % 2 = 1
  · have hb : (n % 2 == 1) = true := by simp [h]
    go_wp2_with fail
    go_ret
    refine ⟨ret_int ?_, rfl⟩
    unfold unf
    rw [if_pos h]
    all_goals first | omega | (simp only [IntKind.wrap_i64]; done) | (simp only [IntKind.wrap_i64]; omega)
  · have hb : (n % 2 == 1) = false := by simp; omega
    go_wp2_with fail
    go_ret
    refine ⟨ret_int ?_, rfl⟩
    unfold unf
    rw [if_neg h]
    all_goals first | rfl | omega
set_option maxRecDepth 100000 in
theorem rfail_any (S : Value) (a e0 e : Int) (hS : ∃ A n c, S = .slice A n c) (w : World) : Calls Tryz.prog 171 #[.agg #[S, .int .i64 a, .int .i64 e0], .int .i64 e] w fun r w' => r = .returned (.agg #[S, .int .i64 a, .int .i64 e]) ∧ Ext w w' := by
  obtain ⟨A, n, c, rfl⟩ := hS
  have x1 := ((Kept.refl (fun _ => False) w).alloc (.cells #[.slice A n c, .int .i64 a, .int .i64 e0] 180)).alloc (.cells #[.slice none 0 0, .int .i64 0, .int .i64 0] 180)
  have hB := (Blk.new w 180 #[.slice A n c, .int .i64 a, .int .i64 e0]).alloc (.cells #[.slice none 0 0, .int .i64 0, .int .i64 0] 180)
  have hD := Blk.new' (w.alloc (.cells #[.slice A n c, .int .i64 a, .int .i64 e0] 180)) 180 #[.slice none 0 0, .int .i64 0, .int .i64 0] (w.heap.size + 1) (by simp)
  go_enter Tryz.func171, Tryz.ntmps171
  go_upto_region 1 with (fail)
  generalize hV : ((w.alloc (.cells #[.slice A n c, .int .i64 a, .int .i64 e0] 180)).alloc (.cells #[.slice none 0 0, .int .i64 0, .int .i64 0] 180)) = V at x1 hB hD ⊢
  clear hV
  have cB := Blk.cell hB
  have fB := Blk.frozen hB
  have lB := hB.lt
  go_upto_region 2 with (fail)
  have hk : Kept (· = w.heap.size) V (V.setCell ⟨w.heap.size, 2, none⟩ (.int .i64 e)) := (Kept.refl _ _).setCell _ _ (fun _ => rfl)
  have hB2 : Blk (V.setCell ⟨w.heap.size, 2, none⟩ (.int .i64 e)) w.heap.size 180 #[.slice A n c, .int .i64 a, .int .i64 e] := by
    have q := Blk.set_ hB 2 (.int .i64 e)
    exact q
  have hD2 := Blk.kept hD hk (by omega)
  have hx := x1.trans' hk (fun i hi q => by omega)
  generalize (V.setCell ⟨w.heap.size, 2, none⟩ (.int .i64 e)) = V2 at hk hB2 hD2 hx ⊢
  clear cB fB lB
  have hhB := Blk.has hB2
  have hgB := Blk.gets hB2
  have hlB := hB2.lt
  have hmD := hD2.melts
  have hhD := Blk.has hD2
  have hlD := hD2.lt
  go_wp2_with fail
  exact ret_cell Tryz.results171 rfl rfl aggRdR (by exact sizeRdR) (Blk.put_ hD2 0 _) ⟨rfl, hx.putAt _ _ _ (fun hlt => absurd hlt (by omega))⟩
end Go.Proofs.YtahljceanodhkaaGreatDoor

/- The document's reader: Read, number, End. -/
namespace Go.Proofs.YtahljceanodhkaaGreatDoor
open Go.RowKit
/-- bytes that lie below block N -/
def BSl (w : World) (N : Nat) (A : Option Addr) (n cap : Nat) (l : List Int) : Prop := n = l.length ∧ n ≤ cap ∧ n ≤ 100000 ∧ BytesOk l ∧ ∃ b off, (0 < n → A = some ⟨b, off, none⟩) ∧ (0 < n → b < N ∧ Row w b off (byts l))
theorem BSl.ext {w w' : World} {N : Nat} {A : Option Addr} {n cap : Nat} {l : List Int} (h : BSl w N A n cap l) (hk : Ext w w') : BSl w' N A n cap l := by
  obtain ⟨h1, h2, h3, h4, b, off, h5, h6⟩ := h
  exact ⟨h1, h2, h3, h4, b, off, h5, fun h0 => ⟨(h6 h0).1, (h6 h0).2.ext hk⟩⟩
abbrev rdC (A : Option Addr) (n cap at_ : Nat) (err : Int) : Array Value := #[.slice A n cap, .int .i64 (at_ : Int), .int .i64 err]
theorem Row.back {w : World} {b off : Nat} {vs : List Value} (h : Row w b off vs) (k : Nat) (hk : k ≤ vs.length) : Row w b (off + k) (vs.drop k) := by
  obtain ⟨h1, h2⟩ := h.sub k (vs.length - k) (by omega)
  have hl : (vs.drop k).length = vs.length - k := List.length_drop ..
  refine ⟨by rw [hl]; exact h1, ?_, h.lt⟩
  rw [hl, h2, List.take_of_length_le (by rw [hl]; exact Nat.le_refl _)]
set_option maxRecDepth 100000 in
set_option maxHeartbeats 1600000 in
theorem rread_any (A : Option Addr) (n cap : Nat) (l : List Int) (at_ : Nat) (err most : Int) (N : Nat) (w : World) (_hN : N ≤ w.heap.size) (h : BSl w N A n cap l) (hat : at_ ≤ n) :
    Calls Tryz.prog 115 #[.agg (rdC A n cap at_ err), .int .u64 most] w fun e w' => e = .returned (.tuple #[.agg (rdC A n cap (rdA l most at_ err) (rdE l most at_ err)), .int .u64 (rdV l most at_ err)]) ∧ Ext w w' := by
  obtain ⟨E, hE⟩ : ∃ E, E = rdE l most at_ err := ⟨_, rfl⟩
  obtain ⟨P, hP⟩ : ∃ P, P = rdA l most at_ err := ⟨_, rfl⟩
  obtain ⟨V, hV⟩ : ∃ V, V = rdV l most at_ err := ⟨_, rfl⟩
  rw [← hE, ← hP, ← hV]
  have HE := Lib.hid hE
  have HP := Lib.hid hP
  have HV := Lib.hid hV
  clear hE hP hV
  have x1 := ((Kept.refl (fun _ => False) w).alloc (.cells (rdC A n cap at_ err) 180)).alloc (.cells #[.slice none 0 0, .int .i64 0, .int .i64 0] 180)
  have hB := (Blk.new w 180 (rdC A n cap at_ err)).alloc (.cells #[.slice none 0 0, .int .i64 0, .int .i64 0] 180)
  have hD := Blk.new' (w.alloc (.cells (rdC A n cap at_ err) 180)) 180 #[.slice none 0 0, .int .i64 0, .int .i64 0] (w.heap.size + 1) (by simp)
  go_enter Tryz.func115, Tryz.ntmps115
  go_upto_region 1 with (fail)
  generalize hW : ((w.alloc (.cells (rdC A n cap at_ err) 180)).alloc (.cells #[.slice none 0 0, .int .i64 0, .int .i64 0] 180)) = W at x1 hB hD ⊢
  clear hW
  have HX := Lib.hid x1
  have HB := Lib.hid hB
  have HD := Lib.hid hD
  have HS := Lib.hid (h.ext x1)
  obtain ⟨rb, hrb⟩ : ∃ rb, rb = w.heap.size + 1 := ⟨_, rfl⟩
  rw [← hrb] at HD ⊢
  have HRB := Lib.hid (show w.heap.size < rb ∧ w.heap.size ≤ w.heap.size from ⟨by omega, Nat.le_refl _⟩)
  clear hrb x1 hB hD h
  obtain ⟨pb, hpb⟩ : ∃ pb, pb = w.heap.size := ⟨_, rfl⟩
  have HPB := Lib.hid hpb
  rw [← hpb] at HB ⊢
  clear hpb
  have cB := Blk.cell HB.out
  have fB := Blk.frozen HB.out
  have lB := HB.out.lt
  have hhB := Blk.has HB.out
  have hgB := Blk.gets HB.out
  have hmD := HD.out.melts
  have hhD := Blk.has HD.out
  have hlD := HD.out.lt
  have hatc : (at_ : Int) ≤ n := by omega
  by_cases he : err = 0
  · subst he
    have hatcap : at_ ≤ cap := Nat.le_trans hat HS.out.2.1
    obtain ⟨hn, hnc, hmx, hok, b, off, hA, hR⟩ := HS.out
    have HNC := Lib.hid hnc
    clear hnc
    have hdl : n - at_ = (l.drop at_).length := by rw [List.length_drop, hn]
    have HA := Lib.hid hA
    have HR := Lib.hid hR
    have HOK := Lib.hid hok
    have HMX := Lib.hid hmx
    have HNL := Lib.hid hn
    clear hA hR hok hmx hn
    have hneg : ∀ (A' : Option Addr) (c' : Nat), (0 < n - at_ → A' = some ⟨b, off + at_, none⟩) → Calls Tryz.prog 170 #[.slice A' (n - at_) c'] W fun e w' => e = .returned (.tuple #[.int .u64 (lookV (l.drop at_)), .int .i64 (lookS (l.drop at_)), .int .i64 (lookE (l.drop at_))]) ∧ W = w' := fun A' c' hA' =>
      rnumr01_any A' b (off + at_) c' (l.drop at_) (n - at_) hdl (by have := HMX.out; omega) (bytesOk_drop HOK.out _) hA' W (fun h0 => by
        have q := (HR.out (by omega)).2
        have q2 := Row.back q at_ (by rw [byts_length]; have := HNL.out; omega)
        rw [show (byts l).drop at_ = byts (l.drop at_) by simp [byts, List.map_drop]] at q2
        exact q2)
    have HNG := Lib.hid hneg
    clear hneg hdl
    by_cases hq : at_ = cap
    · subst hq
      go_wp2_with fail
      refine (HNG.out _ _ (fun h0 => by first | (rw [HA.out (by omega)]; exact congrArg some (oaddr_add _ _ _)) | (have := HNC.out; omega))).mono ?_
      rintro e w1 ⟨rfl, rfl⟩
      obtain ⟨e1, he1⟩ : ∃ e, e = lookE (l.drop at_) := ⟨_, rfl⟩
      obtain ⟨v1, hv1⟩ : ∃ v, v = lookV (l.drop at_) := ⟨_, rfl⟩
      obtain ⟨s1, hs1⟩ : ∃ s, s = lookS (l.drop at_) := ⟨_, rfl⟩
      have hsl : at_ + s1 ≤ 100000 := by
        have := lookS_le (l.drop at_)
        rw [List.length_drop, ← hs1] at this
        have := HMX.out
        have := HNL.out
        omega
      rw [← he1, ← hv1, ← hs1]
      have HEE := Lib.hid (show E = if e1 = 0 then (if most < v1 then 2 else 0) else e1 by rw [HE.out, he1, hv1]; rfl)
      have HPP := Lib.hid (show P = if E = 0 then at_ + s1 else at_ by rw [HP.out, hs1]; unfold rdA; rw [← HE.out]; simp)
      have HVV := Lib.hid (show V = if E = 0 then v1 else 0 by rw [HV.out, hv1]; unfold rdV; rw [← HE.out]; simp)
      clear he1 hv1 hs1 HE HP HV
      by_cases h1 : e1 = 0
      · subst h1
        by_cases h2 : most < v1
        · have HR := Lib.hid (show E = 2 by rw [HEE.out, if_pos rfl, if_pos h2])
          go_wp2_with fail
          refine (rfail_any _ _ _ _ ⟨_, _, _, rfl⟩ _).mono ?_
          rintro r w2 ⟨rfl, hx2⟩
          clear cB fB lB hhB hgB hmD hhD hlD
          have hD2 := Blk.ext HD.out hx2
          have hmD := hD2.melts
          have hhD := Blk.has hD2
          have hlD := hD2.lt
          go_wp2_with fail
          refine ret_ci Tryz.results115 rfl rfl aggRdR (by exact sizeRdR) (Blk.put_ hD2 0 _) ⟨?_, ?_⟩
          · have hE0 : ¬ E = 0 := by rw [HR.out]; omega
            rw [HPP.out, HVV.out, if_neg hE0, if_neg hE0, HR.out]
            rfl
          · exact (HX.out.trans hx2).putAt _ _ _ (fun hlt => absurd hlt (by have := HRB.out; omega))
        · have HR := Lib.hid (show E = 0 by rw [HEE.out, if_pos rfl, if_neg h2])
          have hwp : IntKind.i64.wrap ((at_ : Int) + s1) = (at_ : Int) + s1 := by rw [IntKind.wrap_i64]; omega
          go_upto_region 9 with (fail)
          clear cB fB lB hhB hgB hmD hhD hlD
          have hk : Kept (· = pb) W (W.setCell ⟨pb, 1, none⟩ (.int .i64 ((at_ : Int) + s1))) := (Kept.refl _ _).setCell _ _ (fun _ => rfl)
          have hB2 := (Blk.set_ HB.out 1 (.int .i64 ((at_ : Int) + s1)) : Blk _ pb 180 #[.slice A n _, .int .i64 ((at_ : Int) + s1), .int .i64 0])
          have hD2 := Blk.kept HD.out hk (by have := HRB.out; have := HPB.out; omega)
          have hx2 := HX.out.trans' hk (fun i hi q => by have := HPB.out; omega)
          generalize (W.setCell ⟨pb, 1, none⟩ (.int .i64 ((at_ : Int) + s1))) = W2 at hk hB2 hD2 hx2 ⊢
          have hhB := Blk.has hB2
          have hgB := Blk.gets hB2
          have hlB := hB2.lt
          have hmD := hD2.melts
          have hhD := Blk.has hD2
          have hlD := hD2.lt
          go_wp2_with fail
          refine ret_ci Tryz.results115 rfl rfl aggRdR (by exact sizeRdR) (Blk.put_ hD2 0 _) ⟨?_, ?_⟩
          · rw [HPP.out, HVV.out, HR.out]
            rfl
          · exact hx2.putAt _ _ _ (fun hlt => absurd hlt (by have := HRB.out; omega))
      · have hb1 : (e1 == 0) = false := by simp [h1]
        have hb2 : (e1 != 0) = true := by unfold bne; rw [hb1]; rfl
        have HR := Lib.hid (show E = e1 by rw [HEE.out, if_neg h1])
        go_wp2_with fail
        refine (rfail_any _ _ _ _ ⟨_, _, _, rfl⟩ _).mono ?_
        rintro r w2 ⟨rfl, hx2⟩
        clear cB fB lB hhB hgB hmD hhD hlD
        have hD2 := Blk.ext HD.out hx2
        have hmD := hD2.melts
        have hhD := Blk.has hD2
        have hlD := hD2.lt
        go_wp2_with fail
        refine ret_ci Tryz.results115 rfl rfl aggRdR (by exact sizeRdR) (Blk.put_ hD2 0 _) ⟨?_, ?_⟩
        · have hE0 : ¬ E = 0 := by rw [HR.out]; omega
          rw [HPP.out, HVV.out, if_neg hE0, if_neg hE0, HR.out]
          rfl
        · exact (HX.out.trans hx2).putAt _ _ _ (fun hlt => absurd hlt (by have := HRB.out; omega))
    · have q1 : ¬ cap = at_ := fun e => hq e.symm
      have q2 : ¬ cap - at_ = 0 := by omega
      have q3 : at_ < cap := by omega
      have q4 : ¬ cap ≤ at_ := by omega
      go_wp2_with fail
      refine (HNG.out _ _ (fun h0 => by first | (rw [HA.out (by omega)]; exact congrArg some (oaddr_add _ _ _)) | (have := HNC.out; omega))).mono ?_
      rintro e w1 ⟨rfl, rfl⟩
      obtain ⟨e1, he1⟩ : ∃ e, e = lookE (l.drop at_) := ⟨_, rfl⟩
      obtain ⟨v1, hv1⟩ : ∃ v, v = lookV (l.drop at_) := ⟨_, rfl⟩
      obtain ⟨s1, hs1⟩ : ∃ s, s = lookS (l.drop at_) := ⟨_, rfl⟩
      have hsl : at_ + s1 ≤ 100000 := by
        have := lookS_le (l.drop at_)
        rw [List.length_drop, ← hs1] at this
        have := HMX.out
        have := HNL.out
        omega
      rw [← he1, ← hv1, ← hs1]
      have HEE := Lib.hid (show E = if e1 = 0 then (if most < v1 then 2 else 0) else e1 by rw [HE.out, he1, hv1]; rfl)
      have HPP := Lib.hid (show P = if E = 0 then at_ + s1 else at_ by rw [HP.out, hs1]; unfold rdA; rw [← HE.out]; simp)
      have HVV := Lib.hid (show V = if E = 0 then v1 else 0 by rw [HV.out, hv1]; unfold rdV; rw [← HE.out]; simp)
      clear he1 hv1 hs1 HE HP HV
      by_cases h1 : e1 = 0
      · subst h1
        by_cases h2 : most < v1
        · have HR := Lib.hid (show E = 2 by rw [HEE.out, if_pos rfl, if_pos h2])
          go_wp2_with fail
          refine (rfail_any _ _ _ _ ⟨_, _, _, rfl⟩ _).mono ?_
          rintro r w2 ⟨rfl, hx2⟩
          clear cB fB lB hhB hgB hmD hhD hlD
          have hD2 := Blk.ext HD.out hx2
          have hmD := hD2.melts
          have hhD := Blk.has hD2
          have hlD := hD2.lt
          go_wp2_with fail
          refine ret_ci Tryz.results115 rfl rfl aggRdR (by exact sizeRdR) (Blk.put_ hD2 0 _) ⟨?_, ?_⟩
          · have hE0 : ¬ E = 0 := by rw [HR.out]; omega
            rw [HPP.out, HVV.out, if_neg hE0, if_neg hE0, HR.out]
            rfl
          · exact (HX.out.trans hx2).putAt _ _ _ (fun hlt => absurd hlt (by have := HRB.out; omega))
        · have HR := Lib.hid (show E = 0 by rw [HEE.out, if_pos rfl, if_neg h2])
          have hwp : IntKind.i64.wrap ((at_ : Int) + s1) = (at_ : Int) + s1 := by rw [IntKind.wrap_i64]; omega
          go_upto_region 9 with (fail)
          clear cB fB lB hhB hgB hmD hhD hlD
          have hk : Kept (· = pb) W (W.setCell ⟨pb, 1, none⟩ (.int .i64 ((at_ : Int) + s1))) := (Kept.refl _ _).setCell _ _ (fun _ => rfl)
          have hB2 := (Blk.set_ HB.out 1 (.int .i64 ((at_ : Int) + s1)) : Blk _ pb 180 #[.slice A n _, .int .i64 ((at_ : Int) + s1), .int .i64 0])
          have hD2 := Blk.kept HD.out hk (by have := HRB.out; have := HPB.out; omega)
          have hx2 := HX.out.trans' hk (fun i hi q => by have := HPB.out; omega)
          generalize (W.setCell ⟨pb, 1, none⟩ (.int .i64 ((at_ : Int) + s1))) = W2 at hk hB2 hD2 hx2 ⊢
          have hhB := Blk.has hB2
          have hgB := Blk.gets hB2
          have hlB := hB2.lt
          have hmD := hD2.melts
          have hhD := Blk.has hD2
          have hlD := hD2.lt
          go_wp2_with fail
          refine ret_ci Tryz.results115 rfl rfl aggRdR (by exact sizeRdR) (Blk.put_ hD2 0 _) ⟨?_, ?_⟩
          · rw [HPP.out, HVV.out, HR.out]
            rfl
          · exact hx2.putAt _ _ _ (fun hlt => absurd hlt (by have := HRB.out; omega))
      · have hb1 : (e1 == 0) = false := by simp [h1]
        have hb2 : (e1 != 0) = true := by unfold bne; rw [hb1]; rfl
        have HR := Lib.hid (show E = e1 by rw [HEE.out, if_neg h1])
        go_wp2_with fail
        refine (rfail_any _ _ _ _ ⟨_, _, _, rfl⟩ _).mono ?_
        rintro r w2 ⟨rfl, hx2⟩
        clear cB fB lB hhB hgB hmD hhD hlD
        have hD2 := Blk.ext HD.out hx2
        have hmD := hD2.melts
        have hhD := Blk.has hD2
        have hlD := hD2.lt
        go_wp2_with fail
        refine ret_ci Tryz.results115 rfl rfl aggRdR (by exact sizeRdR) (Blk.put_ hD2 0 _) ⟨?_, ?_⟩
        · have hE0 : ¬ E = 0 := by rw [HR.out]; omega
          rw [HPP.out, HVV.out, if_neg hE0, if_neg hE0, HR.out]
          rfl
        · exact (HX.out.trans hx2).putAt _ _ _ (fun hlt => absurd hlt (by have := HRB.out; omega))
  · have hb : (err == 0) = false := by simp [he]
    have hbn : (err != 0) = true := by unfold bne; rw [hb]; rfl
    go_wp2_with fail
    refine ret_ci Tryz.results115 rfl rfl aggRdR (by exact sizeRdR) (Blk.put_ HD.out 0 _) ⟨?_, ?_⟩
    · rw [HE.out, HP.out, HV.out]
      unfold rdE rdA rdV
      rw [if_neg he, if_neg (fun q => he q.1), if_neg (fun q => he q.1)]
      rfl
    · exact HX.out.putAt _ _ _ (fun hlt => absurd hlt (by have := HRB.out; omega))
end Go.Proofs.YtahljceanodhkaaGreatDoor

/- The document's reader: number, End. -/
namespace Go.Proofs.YtahljceanodhkaaGreatDoor
open Go.RowKit
abbrev allN : Int := 18446744073709551615
/-- a number with a sign, as it is read -/
def rdU (l : List Int) (at_ : Nat) (err : Int) : Int := if rdE l allN at_ err = 0 then unf (rdV l allN at_ err) else 0
theorem rdV_bd {l : List Int} (h : BytesOk l) (most : Int) (at_ : Nat) (err : Int) : 0 ≤ rdV l most at_ err ∧ rdV l most at_ err < 18446744073709551616 := by
  unfold rdV
  split
  · exact lookV_bd (bytesOk_drop h _)
  · omega
set_option maxRecDepth 100000 in
set_option maxHeartbeats 1600000 in
theorem rnum22_any (A : Option Addr) (n cap : Nat) (l : List Int) (at_ : Nat) (err : Int) (N : Nat) (w : World) (hN : N ≤ w.heap.size) (h : BSl w N A n cap l) (hat : at_ ≤ n) :
    Calls Tryz.prog 114 #[.agg (rdC A n cap at_ err)] w fun e w' => e = .returned (.tuple #[.agg (rdC A n cap (rdA l allN at_ err) (rdE l allN at_ err)), .int .i64 (rdU l at_ err)]) ∧ Ext w w' := by
  obtain ⟨E, hE⟩ : ∃ E, E = rdE l allN at_ err := ⟨_, rfl⟩
  obtain ⟨P, hP⟩ : ∃ P, P = rdA l allN at_ err := ⟨_, rfl⟩
  obtain ⟨V, hV⟩ : ∃ V, V = rdV l allN at_ err := ⟨_, rfl⟩
  obtain ⟨U, hU⟩ : ∃ U, U = rdU l at_ err := ⟨_, rfl⟩
  have HBD := Lib.hid (show 0 ≤ V ∧ V < 18446744073709551616 by rw [hV]; exact rdV_bd h.2.2.2.1 _ _ _)
  have HUU := Lib.hid (show U = if E = 0 then unf V else 0 by rw [hU, hE, hV]; rfl)
  rw [← hE, ← hP, ← hU]
  have HE := Lib.hid hE
  have HP := Lib.hid hP
  have HV := Lib.hid hV
  clear hE hP hV hU
  have x1 := ((Kept.refl (fun _ => False) w).alloc (.cells (rdC A n cap at_ err) 180)).alloc (.cells #[.slice none 0 0, .int .i64 0, .int .i64 0] 180)
  have hB := (Blk.new w 180 (rdC A n cap at_ err)).alloc (.cells #[.slice none 0 0, .int .i64 0, .int .i64 0] 180)
  have hD := Blk.new' (w.alloc (.cells (rdC A n cap at_ err) 180)) 180 #[.slice none 0 0, .int .i64 0, .int .i64 0] (w.heap.size + 1) (by simp)
  go_enter Tryz.func114, Tryz.ntmps114
  go_upto_region 1 with (fail)
  generalize hW : ((w.alloc (.cells (rdC A n cap at_ err) 180)).alloc (.cells #[.slice none 0 0, .int .i64 0, .int .i64 0] 180)) = W at x1 hB hD ⊢
  clear hW
  have HX := Lib.hid x1
  have HB := Lib.hid hB
  have HD := Lib.hid hD
  have HS := Lib.hid (h.ext x1)
  have HN := Lib.hid (Nat.le_trans hN x1.size)
  obtain ⟨rb, hrb⟩ : ∃ rb, rb = w.heap.size + 1 := ⟨_, rfl⟩
  rw [← hrb] at HD ⊢
  obtain ⟨pb, hpb⟩ : ∃ pb, pb = w.heap.size := ⟨_, rfl⟩
  rw [← hpb] at HB ⊢
  have HRB := Lib.hid (show w.heap.size ≤ rb ∧ w.heap.size ≤ pb ∧ ¬ rb = pb from ⟨by omega, by omega, by omega⟩)
  clear hrb hpb x1 hB hD h hN
  have hhB := Blk.has HB.out
  have hgB := Blk.gets HB.out
  have lB := HB.out.lt
  go_wp2_with fail
  refine (rread_any A n cap l at_ err allN N W HN.out HS.out hat).mono ?_
  rintro e w1 ⟨rfl, hx1⟩
  rw [← HE.out, ← HP.out, ← HV.out]
  clear hhB hgB lB
  have hB1 := Blk.ext HB.out hx1
  have hmB := hB1.melts
  have hhB := Blk.has hB1
  have lB := hB1.lt
  go_upto_region 2 with (fail)
  clear hmB hhB lB
  have hk : Kept (· = pb) w1 (putAt w1 pb 0 (rdC A n cap P E)) := Kept.putAt (Kept.refl (· = pb) w1) pb 0 _ (fun _ => rfl)
  have hB2 : Blk (putAt w1 pb 0 (rdC A n cap P E)) pb 180 (rdC A n cap P E) := Blk.put_ hB1 0 _
  have hD2 := Blk.kept (Blk.ext HD.out hx1) hk HRB.out.2.2
  have HX2 := Lib.hid ((HX.out.trans hx1).trans' hk (fun i hi q => by have := HRB.out; omega))
  generalize (putAt w1 pb 0 (rdC A n cap P E)) = W2 at hk hB2 hD2 HX2 ⊢
  have HB2 := Lib.hid hB2
  have HD2 := Lib.hid hD2
  clear hk hB2 hD2 hB1 hx1
  have cB := Blk.cell HB2.out
  have hhB := Blk.has HB2.out
  have hgB := Blk.gets HB2.out
  have lB := HB2.out.lt
  have hmD := HD2.out.melts
  have hhD := Blk.has HD2.out
  have hlD := HD2.out.lt
  by_cases he : E = 0
  · have hb : (E == 0) = true := by simp [he]
    have hbn : (E != 0) = false := by unfold bne; rw [hb]; rfl
    have HR := Lib.hid (show U = unf V by rw [HUU.out, if_pos he])
    clear he
    go_upto_region 4 with (fail)
    refine wp_region_3 (fun w1 => Ext W2 w1) [(0, 1), (1, 2), (2, 0), (3, 0), (4, 2)] (by kernel_rfl) (by kernel_rfl) (by kernel_rfl) (by kernel_rfl) ?_; intro l' hl'; simp only [List.map_cons, List.map_nil, List.getD_cons_zero, List.getD_cons_succ] at hl'; subst hl'
    have HY := Lib.hid (show Ext W2 W2.drew from (Kept.refl _ W2).drew)
    clear hmD hhD hlD cB hhB hgB lB
    (repeat (first | ((apply w3_pure); (· go_simp); (· (intro w1; go_simp; try with_reducible rfl)); (intro K hK; go_simp; refine hK _ _ ?_; clear hK K)) | ((apply w3_skip); (· go_simp); (intro K hK; go_simp; refine hK _ _ ?_; clear hK K)) | ((apply w3_take); (· exact HY.out); (· go_simp); (· (intro w1 hS; have d0 := Blk.ext HB2.out hS; have d1 := Blk.gets d0; have d2 := Blk.has d0; have d3 := d0.lt;  go_simp; try with_reducible rfl)); (intro K hK; go_simp; refine hK _ _ ?_; clear hK K)) | ((apply w3_pass); (· exact HY.out); (· go_simp); (intro K hK; go_simp; refine hK _ _ ?_; clear hK K))))
    (refine w3_act (fun K hK => ?_); go_simp)
    refine (runf_any V HBD.out.1 HBD.out.2 _).mono ?_
    rintro e w1 ⟨rfl, rfl⟩
    refine hK.out _ _ (fun h => h) ?_
    clear hK K
    (repeat (first | ((apply w3_pure); (· go_simp); (· (intro w1; go_simp; try with_reducible rfl)); (intro K hK; go_simp; refine hK _ _ ?_; clear hK K)) | ((apply w3_skip); (· go_simp); (intro K hK; go_simp; refine hK _ _ ?_; clear hK K)) | ((apply w3_take); (· exact HY.out); (· go_simp); (· (intro w1 hS; have d0 := Blk.ext HB2.out hS; have d1 := Blk.gets d0; have d2 := Blk.has d0; have d3 := d0.lt;  go_simp; try with_reducible rfl)); (intro K hK; go_simp; refine hK _ _ ?_; clear hK K)) | ((apply w3_pass); (· exact HY.out); (· go_simp); (intro K hK; go_simp; refine hK _ _ ?_; clear hK K))))
    have hD3 := Blk.ext HD2.out HY.out
    have hmD := hD3.melts
    have hhD := Blk.has hD3
    have hlD := hD3.lt
    (repeat (first | ((apply w3_pure); (· go_simp); (· (intro w1; go_simp; try with_reducible rfl)); (intro K hK; go_simp; refine hK _ _ ?_; clear hK K)) | ((apply w3_skip); (· go_simp); (intro K hK; go_simp; refine hK _ _ ?_; clear hK K)) | (refine w3_end (by kernel_rfl) (fun K hK => ?_); go_simp; refine hK.out _ _ ?_; clear hK K))); refine w3_nil ?_
    go_wp2_with fail
    refine ret_ci Tryz.results114 rfl rfl aggRdR (by exact sizeRdR) (Blk.put_ hD3 0 _) ⟨?_, ?_⟩
    · rw [HR.out]
      rfl
    · exact (HX2.out.trans HY.out).putAt _ _ _ (fun hlt => absurd hlt (by have := HRB.out; omega))
  · have hb : (E == 0) = false := by simp [he]
    have hbn : (E != 0) = true := by unfold bne; rw [hb]; rfl
    have HR := Lib.hid (show U = 0 by rw [HUU.out, if_neg he])
    clear he
    go_wp2_with fail
    refine ret_ci Tryz.results114 rfl rfl aggRdR (by exact sizeRdR) (Blk.put_ HD2.out 0 _) ⟨?_, ?_⟩
    · rw [HR.out]
      rfl
    · exact HX2.out.putAt _ _ _ (fun hlt => absurd hlt (by have := HRB.out; omega))
set_option maxRecDepth 100000 in
theorem rend_any (A : Option Addr) (n cap at_ : Nat) (err : Int) (_hn : n ≤ 100000) (w : World) : Calls Tryz.prog 119 #[.agg (rdC A n cap at_ err)] w fun e w' => e = .returned (.int .i64 (if err = 0 ∧ at_ < n then 5 else err)) ∧ Ext w w' := by
  obtain ⟨R, hR⟩ : ∃ R, R = (if err = 0 ∧ at_ < n then 5 else err : Int) := ⟨_, rfl⟩
  rw [← hR]
  have HRR := Lib.hid hR
  clear hR
  have x1 := (Kept.refl (fun _ => False) w).alloc (.cells (rdC A n cap at_ err) 180)
  have hB := Blk.new w 180 (rdC A n cap at_ err)
  go_enter Tryz.func119, Tryz.ntmps119
  go_upto_region 1 with (fail)
  generalize hW : (w.alloc (.cells (rdC A n cap at_ err) 180)) = W at x1 hB ⊢
  clear hW
  have cB := Blk.cell hB
  have lB := hB.lt
  by_cases he : err = 0
  · have hb : (err == 0) = true := by simp [he]
    by_cases hl : (at_ : Int) < n
    · have e5 : R = 5 := by rw [HRR.out]; exact if_pos ⟨he, by omega⟩
      have HE5 := Lib.hid e5
      clear e5 he
      go_wp2_with fail
      go_ret
      exact ⟨ret_int HE5.out.symm, x1⟩
    · have e5 : R = err := by rw [HRR.out]; exact if_neg (fun q => hl (by omega))
      have HE5 := Lib.hid e5
      clear e5 he
      go_wp2_with fail
      go_ret
      exact ⟨ret_int HE5.out.symm, x1⟩
  · have hb : (err == 0) = false := by simp [he]
    have e5 : R = err := by rw [HRR.out]; exact if_neg (fun q => he q.1)
    have HE5 := Lib.hid e5
    clear e5 he
    go_wp2_with fail
    go_ret
    exact ⟨ret_int HE5.out.symm, x1⟩
end Go.Proofs.YtahljceanodhkaaGreatDoor

/- The document's reader: readPath. -/
namespace Go.Proofs.YtahljceanodhkaaGreatDoor
open Go.RowKit
theorem rdV_most {l : List Int} {most : Int} (hm : 0 ≤ most) (at_ : Nat) (err : Int) : rdV l most at_ err ≤ most := by
  unfold rdV
  split
  · rename_i h
    have h2 := h.2
    unfold rdE at h2
    rw [if_pos h.1] at h2
    split at h2
    · split at h2
      · omega
      · omega
    · omega
  · exact hm
/-- digests, as they are read: at most k of them -/
def pthK (l : List Int) (at0 : Nat) (e0 : Int) : Nat → Nat × Int × List Dg
  | 0 => (at0, e0, [])
  | k + 1 => if (pthK l at0 e0 k).2.1 = 0 then (rdA l allN (pthK l at0 e0 k).1 0, rdE l allN (pthK l at0 e0 k).1 0, (pthK l at0 e0 k).2.2 ++ [dgN (rdV l allN (pthK l at0 e0 k).1 0)]) else pthK l at0 e0 k
theorem pthK_stay {l : List Int} {a : Nat} {e : Int} {k : Nat} (h : ¬ (pthK l a e k).2.1 = 0) : ∀ j, pthK l a e (k + j) = pthK l a e k
  | 0 => rfl
  | j + 1 => by
    have ih := pthK_stay h j
    show (if (pthK l a e (k + j)).2.1 = 0 then _ else pthK l a e (k + j)) = _
    rw [ih, if_neg h]
theorem pthK_le {l : List Int} {a : Nat} {e : Int} (h : a ≤ l.length) : ∀ k, (pthK l a e k).1 ≤ l.length
  | 0 => h
  | k + 1 => by
    have ih := pthK_le h (e := e) k
    show (if (pthK l a e k).2.1 = 0 then _ else pthK l a e k).1 ≤ _
    split
    · exact rdA_le _ _ _ _ ih
    · exact ih
/-- a path, as it is read -/
def rdP (l : List Int) (at_ : Nat) (err : Int) : Nat × Int × List Dg := pthK l (rdA l 12 at_ err) (rdE l 12 at_ err) (rdV l 12 at_ err).toNat
set_option maxRecDepth 100000 in
set_option maxHeartbeats 2000000 in
theorem rpath_any (A : Option Addr) (n cap : Nat) (l : List Int) (at_ : Nat) (err : Int) (N : Nat) (w : World) (hN : N ≤ w.heap.size) (h : BSl w N A n cap l) (hat : at_ ≤ n) :
    Calls Tryz.prog 117 #[.agg (rdC A n cap at_ err)] w fun e w' => ∃ v, e = .returned (.tuple #[.agg (rdC A n cap (rdP l at_ err).1 (rdP l at_ err).2.1), v]) ∧ w'.ownsRow w.heap.size 23 8 v (rdP l at_ err).2.2.length (digs (rdP l at_ err).2.2) ∧ Ext w w' := by
  obtain ⟨E, hE⟩ : ∃ E, E = rdE l 12 at_ err := ⟨_, rfl⟩
  obtain ⟨P, hP⟩ : ∃ P, P = rdA l 12 at_ err := ⟨_, rfl⟩
  obtain ⟨V, hV⟩ : ∃ V : Nat, V = (rdV l 12 at_ err).toNat := ⟨_, rfl⟩
  obtain ⟨R, hR⟩ : ∃ R, R = rdP l at_ err := ⟨_, rfl⟩
  have hV1 : (V : Int) = rdV l 12 at_ err := by
    have := (rdV_bd h.2.2.2.1 12 at_ err).1
    omega
  have HV12 := Lib.hid (show V ≤ 12 by have := rdV_most (l := l) (most := 12) (by omega) at_ err; omega)
  have HPN := Lib.hid (show P ≤ l.length by rw [hP]; exact rdA_le _ _ _ _ (by have := h.1; omega))
  have HRR := Lib.hid (show R = pthK l P E V by rw [hR, hE, hV, hP]; rfl)
  rw [← hR]
  have HE := Lib.hid hE
  have HP := Lib.hid hP
  have HV := Lib.hid hV1
  clear hE hP hV hV1 hR
  have HL := Lib.hid h.1
  have HOK := Lib.hid h.2.2.2.1
  have x1 := ((Kept.refl (fun _ => False) w).alloc (.cells (rdC A n cap at_ err) 180)).alloc (.cells #[.slice none 0 0, .int .i64 0, .int .i64 0] 180)
  have hB := (Blk.new w 180 (rdC A n cap at_ err)).alloc (.cells #[.slice none 0 0, .int .i64 0, .int .i64 0] 180)
  have hD := Blk.new' (w.alloc (.cells (rdC A n cap at_ err) 180)) 180 #[.slice none 0 0, .int .i64 0, .int .i64 0] (w.heap.size + 1) (by simp)
  go_enter Tryz.func117, Tryz.ntmps117
  go_upto_region 1 with (fail)
  generalize hW : ((w.alloc (.cells (rdC A n cap at_ err) 180)).alloc (.cells #[.slice none 0 0, .int .i64 0, .int .i64 0] 180)) = W at x1 hB hD ⊢
  clear hW
  have HX := Lib.hid x1
  have HB := Lib.hid hB
  have HD := Lib.hid hD
  have HS := Lib.hid (h.ext x1)
  have HN := Lib.hid (Nat.le_trans hN x1.size)
  have HNW := Lib.hid hN
  have HSW := Lib.hid h
  obtain ⟨rb, hrb⟩ : ∃ rb, rb = w.heap.size + 1 := ⟨_, rfl⟩
  rw [← hrb] at HD ⊢
  obtain ⟨pb, hpb⟩ : ∃ pb, pb = w.heap.size := ⟨_, rfl⟩
  rw [← hpb] at HB ⊢
  have HRB := Lib.hid (show w.heap.size ≤ rb ∧ w.heap.size ≤ pb ∧ ¬ rb = pb from ⟨by omega, by omega, by omega⟩)
  clear hrb hpb x1 hB hD h hN
  have hhB := Blk.has HB.out
  have hgB := Blk.gets HB.out
  have lB := HB.out.lt
  go_wp2_with fail
  refine (rread_any A n cap l at_ err 12 N W HN.out HS.out hat).mono ?_
  rintro e w1 ⟨rfl, hx1⟩
  rw [← HE.out, ← HP.out, ← HV.out]
  clear hhB hgB lB
  have hB1 := Blk.ext HB.out hx1
  have hmB := hB1.melts
  have hhB := Blk.has hB1
  have lB := hB1.lt
  go_upto_region 2 with (fail)
  clear hmB hhB lB
  have hk : Kept (· = pb) w1 (putAt w1 pb 0 (rdC A n cap P E)) := Kept.putAt (Kept.refl (· = pb) w1) pb 0 _ (fun _ => rfl)
  have hB2 : Blk (putAt w1 pb 0 (rdC A n cap P E)) pb 180 (rdC A n cap P E) := Blk.put_ hB1 0 _
  have hD2 := Blk.kept (Blk.ext HD.out hx1) hk HRB.out.2.2
  have HX2 := Lib.hid ((HX.out.trans hx1).trans' hk (fun i hi q => by have := HRB.out; omega))
  generalize (putAt w1 pb 0 (rdC A n cap P E)) = W2 at hk hB2 hD2 HX2 ⊢
  have HB2 := Lib.hid hB2
  have HD2 := Lib.hid hD2
  clear hk hB2 hD2 hB1 hx1
  go_upto_region 3 with (fail)
  have HX3 := Lib.hid (HX2.out.alloc (.cells #[] 23))
  have HB3 := Lib.hid (Blk.alloc HB2.out (.cells #[] 23))
  have HD3 := Lib.hid (Blk.alloc HD2.out (.cells #[] 23))
  have HO3 := Lib.hid (own_mono (own_new W2 23 8) HX2.out.size)
  generalize (W2.alloc (.cells #[] 23)) = W3 at HX3 HB3 HD3 HO3 ⊢
  generalize (W2 : World).heap.size = eb at HO3 ⊢
  go_wp2_with fail
  go_loopw [5, 6, 7] (fun t5 t6 t7 wr => ∃ (k : Nat), k ≤ V ∧ t6 = .int .u64 k ∧ (pthK l P E k).2.2.length = k ∧ wr.ownsRow w.heap.size 23 8 t5 k (digs (pthK l P E k).2.2) ∧ Blk wr pb 180 (rdC A n cap (pthK l P E k).1 (pthK l P E k).2.1) ∧ Blk wr rb 180 #[.slice none 0 0, .int .i64 0, .int .i64 0] ∧ Ext w wr) (fun _ t6 _ _ => V - (intOf t6).toNat)
  case atStart => exact ⟨0, Nat.zero_le _, rfl, rfl, HO3.out, HB3.out, HD3.out, HX3.out⟩
  case round =>
    obtain ⟨k, hk, rfl, hkl, ho, hB, hD, hx⟩ := hrel
    have hnx : pthK l P E (k + 1) = if (pthK l P E k).2.1 = 0 then (rdA l allN (pthK l P E k).1 0, rdE l allN (pthK l P E k).1 0, (pthK l P E k).2.2 ++ [dgN (rdV l allN (pthK l P E k).1 0)]) else pthK l P E k := rfl
    have hle := pthK_le (e := E) HPN.out k
    have hst : ¬ (pthK l P E k).2.1 = 0 → R = pthK l P E k := fun q => by
      rw [HRR.out, ← pthK_stay q (V - k)]
      congr 1
      omega
    have hen : k = V → R = pthK l P E k := fun q => by rw [HRR.out, q]
    obtain ⟨⟨p, e, xs⟩, hq⟩ : ∃ q, q = pthK l P E k := ⟨_, rfl⟩
    rw [← hq] at hkl ho hB hnx hle hst hen
    simp only at hkl ho hB hnx hle hst hen
    clear hq
    have HNX := Lib.hid hnx
    have HLE := Lib.hid hle
    have HST := Lib.hid hst
    have HEN := Lib.hid hen
    have HO := Lib.hid ho
    have HBB := Lib.hid hB
    have HDD := Lib.hid hD
    have HXX := Lib.hid hx
    have HKL := Lib.hid hkl
    have hob' : (u5 : Value).ownBlock ≠ some rb := fun q => own_other ho (E' := 180) (by decide) rb q _ _ hD
    have HOBR := Lib.hid hob'
    clear hnx hle hst hen ho hB hD hx hkl hob'
    have cB := Blk.cell HBB.out
    have hhB := Blk.has HBB.out
    have hgB := Blk.gets HBB.out
    have lB := HBB.out.lt
    by_cases hlt : k < V
    · have hltI : (k : Int) < V := by omega
      by_cases he : e = 0
      · subst he
        go_wp2_with fail
        refine (rread_any A n cap l p 0 allN N wr (Nat.le_trans HNW.out HXX.out.size) (HSW.out.ext HXX.out) (by have := HLE.out; have := HL.out; omega)).mono ?_
        rintro e w3 ⟨rfl, hx3⟩
        obtain ⟨E3, hE3⟩ : ∃ e, e = rdE l allN p 0 := ⟨_, rfl⟩
        obtain ⟨P3, hP3⟩ : ∃ e, e = rdA l allN p 0 := ⟨_, rfl⟩
        obtain ⟨V3, hV3⟩ : ∃ e, e = rdV l allN p 0 := ⟨_, rfl⟩
        have HNX := Lib.hid (show pthK l P E (k + 1) = (P3, E3, xs ++ [dgN V3]) by rw [HNX.out, if_pos trivial, hE3, hP3, hV3])
        have HVB := Lib.hid (show 0 ≤ V3 ∧ V3 < 18446744073709551616 by rw [hV3]; exact rdV_bd HOK.out _ _ _)
        rw [← hE3, ← hP3, ← hV3]
        clear hE3 hP3 hV3 cB hhB hgB lB
        have hB3 := Blk.ext HBB.out hx3
        have hmB := hB3.melts
        have hhB := Blk.has hB3
        have lB := hB3.lt
        go_upto_region 8 with (fail)
        clear hmB hhB lB
        have hob : (u5 : Value).ownBlock ≠ some pb := fun q => own_other HO.out (E' := 180) (by decide) pb q _ _ HBB.out
        have HOB := Lib.hid hob
        clear hob
        have hk : Kept (· = pb) w3 (putAt w3 pb 0 (rdC A n cap P3 E3)) := Kept.putAt (Kept.refl (· = pb) w3) pb 0 _ (fun _ => rfl)
        have hB4 : Blk (putAt w3 pb 0 (rdC A n cap P3 E3)) pb 180 (rdC A n cap P3 E3) := Blk.put_ hB3 0 _
        have hD4 := Blk.kept (Blk.ext HDD.out hx3) hk HRB.out.2.2
        have hO4 := own_kept (own_ext HO.out hx3) hk (fun g hg q => HOB.out (by rw [hg, q]))
        have HX4 := Lib.hid ((HXX.out.trans hx3).trans' hk (fun i hi q => by have := HRB.out; omega))
        generalize (putAt w3 pb 0 (rdC A n cap P3 E3)) = W4 at hk hB4 hD4 hO4 HX4 ⊢
        have HB4 := Lib.hid hB4
        have HD4 := Lib.hid hD4
        have HO4 := Lib.hid hO4
        clear hk hB4 hD4 hO4 hB3 hx3
        go_step
        iterate 2 (refine wpList_step (fun K hK => ?_); go_simp; (try go_bits); refine hK _ _ ?_; clear hK K)
        refine wpList_step (fun K hK => ?_)
        go_wp2_with fail
        refine (rfromnum_any V3 _ HVB.out.1 HVB.out.2).mono ?_
        rintro e w5 ⟨rfl, hx5⟩
        refine hK _ _ ?_
        clear hK K
        have y5 : Ext W4 (w5.alloc (.cells (dgN V3).cells 23)) := hx5.alloc _
        obtain ⟨v6, w6, hr6, ho6, hk6⟩ := appD (w5.alloc (.cells (dgN V3).cells 23)) _ _ _ xs ((own_ext HO4.out hx5).alloc _) w5.heap.size 0 1 1 [dgN V3] rfl (by simpa [digs] using Row.of_blk (Blk.new w5 23 (dgN V3).cells)) (by have := HV12.out; omega) (by have := (HX4.out.trans hx5).size; simp; omega)
        have hB6 := Blk.kept (Blk.ext HB4.out y5) hk6 HOB.out
        have hD6 := Blk.kept (Blk.ext HD4.out y5) hk6 HOBR.out
        have hx6 := (HX4.out.trans y5).trans' hk6 (fun i hi q => by have := (HO4.out.lt i q).1; omega)
        iterate 1 (refine wpList_step (fun K hK => ?_); go_simp; (try go_bits); refine hK _ _ ?_; clear hK K)
        refine wpList_app rfl (.tmp 29) (.tmp 32) 80 rfl rfl rfl rfl hr6 ?_
        clear hr6
        have hw1 : IntKind.u64.wrap ((k : Int) + 1) = (k : Int) + 1 := by have := HV12.out; rw [IntKind.wrap_u64]; omega
        go_wp2_with fail
        go_roundw
        case rel =>
          refine ⟨k + 1, hlt, by go_num, ?_, ?_, ?_, hD6, hx6⟩
          · rw [HNX.out]; simp [HKL.out]
          · rw [HNX.out]; exact ho6
          · rw [HNX.out]; exact hB6
        case measure => simp only [intOf]; omega
      · have hb : (e == 0) = false := by simp [he]
        have HR := Lib.hid (HST.out he)
        clear he
        go_upto_region 9 with (fail)
        clear cB hhB hgB lB
        have hhB := Blk.has HBB.out
        have hgB := Blk.gets HBB.out
        have lB := HBB.out.lt
        have hmD := HDD.out.melts
        have hhD := Blk.has HDD.out
        have hlD := HDD.out.lt
        go_wp2_with fail
        refine ret_ci Tryz.results117 rfl rfl aggRdR (by exact sizeRdR) (Blk.put_ HDD.out 0 _) ⟨u5, ?_, ?_, ?_⟩
        · rw [HR.out]
          rfl
        · rw [HR.out, HKL.out]
          exact own_kept HO.out (Kept.putAt (Kept.refl (· = rb) _) rb 0 _ (fun _ => rfl)) (fun g hg q => HOBR.out (by rw [hg, q]))
        · exact HXX.out.putAt _ _ _ (fun hlt => absurd hlt (by have := HRB.out; omega))
    · have hkV : k = V := by omega
      have HR := Lib.hid (HEN.out hkV)
      have hltI : ¬ (k : Int) < V := by omega
      clear hkV
      go_upto_region 9 with (fail)
      clear cB hhB hgB lB
      have hhB := Blk.has HBB.out
      have hgB := Blk.gets HBB.out
      have lB := HBB.out.lt
      have hmD := HDD.out.melts
      have hhD := Blk.has HDD.out
      have hlD := HDD.out.lt
      go_wp2_with fail
      refine ret_ci Tryz.results117 rfl rfl aggRdR (by exact sizeRdR) (Blk.put_ HDD.out 0 _) ⟨u5, ?_, ?_, ?_⟩
      · rw [HR.out]
        rfl
      · rw [HR.out, HKL.out]
        exact own_kept HO.out (Kept.putAt (Kept.refl (· = rb) _) rb 0 _ (fun _ => rfl)) (fun g hg q => HOBR.out (by rw [hg, q]))
      · exact HXX.out.putAt _ _ _ (fun hlt => absurd hlt (by have := HRB.out; omega))
end Go.Proofs.YtahljceanodhkaaGreatDoor

/- The document's answer of layer 14: Right, and what it calls. -/
namespace Go.Proofs.YtahljceanodhkaaGreatDoor
open Go.RowKit
set_option maxHeartbeats 400000 in
theorem rnumber_any (n : Int) (w : World) : Calls Tryz.prog 172 #[.int .i64 n] w fun e w' => e = .returned (.bool (i32B n)) ∧ w = w' := by
  by_cases h1 : -2147483648 ≤ n
  · go_enter Tryz.func172, Tryz.ntmps172
    go_wp2_with fail
    go_ret
    exact ⟨ret_bool (by rw [Bool.eq_iff_iff]; simp [i32B]; omega), rfl⟩
  · go_enter Tryz.func172, Tryz.ntmps172
    go_wp2_with fail
    go_ret
    exact ⟨ret_bool (by rw [Bool.eq_iff_iff]; simp [i32B]; omega), rfl⟩
end Go.Proofs.YtahljceanodhkaaGreatDoor

/- An empty step is the same as an empty step. -/
namespace Go.Proofs.YtahljceanodhkaaGreatDoor
open Go.RowKit
theorem aggRstep : aggT Tryz.prog 92 = true := by kernel_rfl
theorem sizeRstep : sizeT Tryz.prog 92 = some 18 := by kernel_rfl
theorem wpLoadRstep {dst : Option Tmp} {ty' : TypeId} {x : Operand} {pos : String} {after : Array Edge} {guard : Option (Nat × Bool)} {a : Act} {w : World} {K : Act → World → Prop} {Q : Exit → Act → World → Prop} (hx : isAt (a.eval x) = true) (hh : has w (blkOf (a.eval x)) (offOf (a.eval x)) 18 = true) :
    Oper.wp Tryz.prog { dst := dst, op := .load 92 x, type := ty', pos := pos, after := after, guard := guard } a w K Q = K (a.put dst (.agg (gets w (blkOf (a.eval x)) (offOf (a.eval x)) 18))) w := wp_load_big 18 aggRstep sizeRstep hx hh
theorem runLoadRstep {ρ : Operand → Value} {dst : Option Tmp} {ty' : TypeId} {x : Operand} {pos : String} {after : Array Edge} {guard : Option (Nat × Bool)} {w : World} (hx : isAt (ρ x) = true) (hh : has w (blkOf (ρ x)) (offOf (ρ x)) 18 = true) :
    (execOp ρ { dst := dst, op := .load 92 x, type := ty', pos := pos, after := after, guard := guard }).run Tryz.prog w = .ok (.value (.agg (gets w (blkOf (ρ x)) (offOf (ρ x)) 18))) w := run_exec_load_big 18 aggRstep sizeRstep hx hh
theorem loadVarRstep (w : World) (g off : Nat) (hh : has w g off 18 = true) : (loadVar 92 ⟨g, off, none⟩).run Tryz.prog w = .ok (.agg (gets w g off 18)) w := run_loadVar_big Tryz.prog w _ g off 18 aggRstep sizeRstep hh
attribute [go_sem] aggRstep sizeRstep
attribute [go_sem ↓ high] wpLoadRstep loadVarRstep runLoadRstep
attribute [go_sem high] wpLoadRstep
end Go.Proofs.YtahljceanodhkaaGreatDoor

/- Words and paths of the document in memory; the reader with words that it has read. -/
namespace Go.Proofs.YtahljceanodhkaaGreatDoor
open Go.RowKit
theorem aggRword : aggT Tryz.prog 163 = true := by kernel_rfl
theorem sizeRword : sizeT Tryz.prog 163 = some 3 := by kernel_rfl
theorem wpLoadRword {dst : Option Tmp} {ty' : TypeId} {x : Operand} {pos : String} {after : Array Edge} {guard : Option (Nat × Bool)} {a : Act} {w : World} {K : Act → World → Prop} {Q : Exit → Act → World → Prop} (hx : isAt (a.eval x) = true) (hh : has w (blkOf (a.eval x)) (offOf (a.eval x)) 3 = true) :
    Oper.wp Tryz.prog { dst := dst, op := .load 163 x, type := ty', pos := pos, after := after, guard := guard } a w K Q = K (a.put dst (.agg (gets w (blkOf (a.eval x)) (offOf (a.eval x)) 3))) w := wp_load_big 3 aggRword sizeRword hx hh
theorem runLoadRword {ρ : Operand → Value} {dst : Option Tmp} {ty' : TypeId} {x : Operand} {pos : String} {after : Array Edge} {guard : Option (Nat × Bool)} {w : World} (hx : isAt (ρ x) = true) (hh : has w (blkOf (ρ x)) (offOf (ρ x)) 3 = true) :
    (execOp ρ { dst := dst, op := .load 163 x, type := ty', pos := pos, after := after, guard := guard }).run Tryz.prog w = .ok (.value (.agg (gets w (blkOf (ρ x)) (offOf (ρ x)) 3))) w := run_exec_load_big 3 aggRword sizeRword hx hh
theorem loadVarRword (w : World) (g off : Nat) (hh : has w g off 3 = true) : (loadVar 163 ⟨g, off, none⟩).run Tryz.prog w = .ok (.agg (gets w g off 3)) w := run_loadVar_big Tryz.prog w _ g off 3 aggRword sizeRword hh
attribute [go_sem] aggRword sizeRword
attribute [go_sem ↓ high] wpLoadRword loadVarRword runLoadRword
attribute [go_sem high] wpLoadRword
theorem infoRW3 : (Tryz.prog.info? 163).map (fun i => (i.zero, i.size, i.bytes)) = some (some (.agg #[.int .i64 0, .int .i32 0, .slice none 0 0]), 3, 40) := by kernel_rfl
/-- a path in memory, its elements of type t, below N or in a block of its type -/
structure PG (N : Nat) (t : TypeId) (w : World) (A : Option Addr) (n : Nat) (l : List Dg) : Prop where
  len : n = l.length
  row : 0 < n → ∃ b off, A = some ⟨b, off, none⟩ ∧ Row w b off (digs l) ∧ (b < N ∨ ∃ cur fr, w.heap[b]? = some (.cells cur t fr))
theorem PG.kept {N : Nat} {t : TypeId} {S : Nat → Prop} {w w' : World} {A : Option Addr} {n : Nat} {l : List Dg} (h : PG N t w A n l) (hx : Kept S w w') (hs : ∀ i, S i → N ≤ i ∧ ∀ cur fr, ¬ w.heap[i]? = some (.cells cur t fr)) : PG N t w' A n l := by
  refine ⟨h.len, fun h0 => ?_⟩
  obtain ⟨b, off, h1, h2, h3⟩ := h.row h0
  have hb : ¬ S b := fun q => by
    rcases h3 with h3 | ⟨cur, fr, h3⟩
    · have := (hs b q).1; omega
    · exact (hs b q).2 cur fr h3
  refine ⟨b, off, h1, h2.kept hx hb, ?_⟩
  rcases h3 with h3 | ⟨cur, fr, h3⟩
  · exact .inl h3
  · exact .inr ⟨cur, fr, (hx.block b h2.lt hb).trans h3⟩
theorem PG.ext {N : Nat} {t : TypeId} {w w' : World} {A : Option Addr} {n : Nat} {l : List Dg} (h : PG N t w A n l) (hx : Ext w w') : PG N t w' A n l := h.kept hx (fun _ f => f.elim)
theorem PG.of_own {w : World} {base N : Nat} {t : TypeId} {v : Value} {n : Nat} {l : List Dg} (h : w.ownsRow base t 8 v n (digs l)) : ∃ A c, v = .slice A n c ∧ PG N t w A n l := by
  have hl := h.1
  rw [digs_length] at hl
  rcases h.2 with ⟨hv, h0⟩ | ⟨g, c, cur, hv, hb, hc, hnc, hcm, hcs, htk⟩
  · subst h0
    exact ⟨_, 0, hv, by omega, fun h => by omega⟩
  · refine ⟨_, c, hv, by omega, fun _ => ⟨g, 0, rfl, ?_, .inr ⟨cur, (0, 0), hc⟩⟩⟩
    have hln : (digs l).length = n * 8 := by rw [digs_length, hl]
    refine ⟨?_, ?_, (Array.getElem?_eq_some_iff.1 hc).1⟩
    · unfold has; rw [hc, hln]; simp; omega
    · unfold gets; rw [hc, hln]; simp only [List.drop_zero]; rw [htk]
structure WG (N : Nat) (t : TypeId) (w : World) (d : Wd) (l : Wl) : Prop where
  at_ : d.at_ = l.at_
  is_ : d.is_ = l.is_
  path : PG N t w d.pa d.pn l.path
theorem WG.kept {N : Nat} {t : TypeId} {S : Nat → Prop} {w w' : World} {d : Wd} {l : Wl} (h : WG N t w d l) (hx : Kept S w w') (hs : ∀ i, S i → N ≤ i ∧ ∀ cur fr, ¬ w.heap[i]? = some (.cells cur t fr)) : WG N t w' d l := ⟨h.at_, h.is_, h.path.kept hx hs⟩
theorem WG.ext {N : Nat} {t : TypeId} {w w' : World} {d : Wd} {l : Wl} (h : WG N t w d l) (hx : Ext w w') : WG N t w' d l := h.kept hx (fun _ f => f.elim)
/-- words, one by one -/
inductive WsG (N : Nat) (t : TypeId) (w : World) : List Wd → List Wl → Prop where
  | nil : WsG N t w [] []
  | cons {d : Wd} {l : Wl} {ds : List Wd} {ls : List Wl} : WG N t w d l → WsG N t w ds ls → WsG N t w (d :: ds) (l :: ls)
theorem WsG.kept {N : Nat} {t : TypeId} {S : Nat → Prop} {w w' : World} (hx : Kept S w w') (hs : ∀ i, S i → N ≤ i ∧ ∀ cur fr, ¬ w.heap[i]? = some (.cells cur t fr)) : ∀ {ds : List Wd} {ls : List Wl}, WsG N t w ds ls → WsG N t w' ds ls
  | _, _, .nil => .nil
  | _, _, .cons h r => .cons (h.kept hx hs) (r.kept hx hs)
theorem WsG.ext {N : Nat} {t : TypeId} {w w' : World} {ds : List Wd} {ls : List Wl} (h : WsG N t w ds ls) (hx : Ext w w') : WsG N t w' ds ls := h.kept hx (fun _ f => f.elim)
theorem WsG.len {N : Nat} {t : TypeId} {w : World} : ∀ {ds : List Wd} {ls : List Wl}, WsG N t w ds ls → ds.length = ls.length
  | _, _, .nil => rfl
  | _, _, .cons _ r => by simp [r.len]
theorem WsG.snoc {N : Nat} {t : TypeId} {w : World} {d : Wd} {l : Wl} (h : WG N t w d l) : ∀ {ds : List Wd} {ls : List Wl}, WsG N t w ds ls → WsG N t w (ds ++ [d]) (ls ++ [l])
  | _, _, .nil => .cons h .nil
  | _, _, .cons h' r => .cons h' (r.snoc h)
theorem WsG.get {N : Nat} {t : TypeId} {w : World} : ∀ {ds : List Wd} {ls : List Wl} (_ : WsG N t w ds ls) (k : Nat) (h1 : k < ds.length) (h2 : k < ls.length), WG N t w ds[k] ls[k]
  | _, _, .cons h _, 0, _, _ => h
  | _, _, .cons _ r, k + 1, h1, h2 => r.get k (by simpa using h1) (by simpa using h2)
/-- a slice of words, of type tW, their paths' elements of type t -/
structure SG (N : Nat) (t tW : TypeId) (w : World) (A : Option Addr) (n : Nat) (ls : List Wl) : Prop where
  len : n = ls.length
  row : ∃ b off ds, (0 < n → A = some ⟨b, off, none⟩) ∧ (0 < n → Row w b off (wds ds)) ∧ (0 < n → b < N ∨ ∃ cur fr, w.heap[b]? = some (.cells cur tW fr)) ∧ WsG N t w ds ls
theorem SG.kept {N : Nat} {t tW : TypeId} {S : Nat → Prop} {w w' : World} {A : Option Addr} {n : Nat} {ls : List Wl} (h : SG N t tW w A n ls) (hx : Kept S w w') (hs : ∀ i, S i → N ≤ i ∧ ∀ cur fr, ¬ w.heap[i]? = some (.cells cur t fr)) (hs' : ∀ i, S i → ∀ cur fr, ¬ w.heap[i]? = some (.cells cur tW fr)) : SG N t tW w' A n ls := by
  obtain ⟨hl, b, off, ds, h1, h2, h3, h4⟩ := h
  have hb : 0 < n → ¬ S b := fun h0 q => by
    rcases h3 h0 with h3 | ⟨cur, fr, h3⟩
    · have := (hs b q).1; omega
    · exact hs' b q cur fr h3
  refine ⟨hl, b, off, ds, h1, fun h0 => (h2 h0).kept hx (hb h0), fun h0 => ?_, h4.kept hx hs⟩
  rcases h3 h0 with h3 | ⟨cur, fr, e⟩
  · exact .inl h3
  · exact .inr ⟨cur, fr, (hx.block b (h2 h0).lt (hb h0)).trans e⟩
theorem SG.ext {N : Nat} {t tW : TypeId} {w w' : World} {A : Option Addr} {n : Nat} {ls : List Wl} (h : SG N t tW w A n ls) (hx : Ext w w') : SG N t tW w' A n ls := h.kept hx (fun _ f => f.elim) (fun _ f => f.elim)
theorem SG.of_own {w : World} {base N : Nat} {t tW : TypeId} {v : Value} {n : Nat} {ds : List Wd} {ls : List Wl} (h : w.ownsRow base tW 3 v n (wds ds)) (hw : WsG N t w ds ls) : ∃ A c, v = .slice A n c ∧ SG N t tW w A n ls := by
  have hl := h.1
  rw [wds_length] at hl
  have hlen := hw.len
  rcases h.2 with ⟨hv, h0⟩ | ⟨g, c, cur, hv, hb, hc, hnc, hcm, hcs, htk⟩
  · subst h0
    exact ⟨_, 0, hv, by omega, 0, 0, ds, fun h => by omega, fun h => by omega, fun h => by omega, hw⟩
  · refine ⟨_, c, hv, by omega, g, 0, ds, fun _ => rfl, fun _ => ?_, fun _ => .inr ⟨cur, (0, 0), hc⟩, hw⟩
    have hln : (wds ds).length = n * 3 := by rw [wds_length, hl]
    refine ⟨?_, ?_, (Array.getElem?_eq_some_iff.1 hc).1⟩
    · unfold has; rw [hc, hln]; simp; omega
    · unfold gets; rw [hc, hln]; simp only [List.drop_zero]; rw [htk]
theorem appRW (w : World) (base : Nat) (v : Value) (n : Nat) (xs : List Wd) (hown : w.ownsRow base 163 3 v n (wds xs)) (b off m c : Nat) (l : List Wd) (hm : m = l.length) (hr : Row w b off (wds l)) (hn : n + m ≤ 3000000) (hbase : base ≤ w.heap.size) :
    ∃ v' w', (Builtin.append_ #[90, 90] 90 #[v, .slice (some ⟨b, off, none⟩) m c]).run Tryz.prog w = .ok v' w' ∧ w'.ownsRow base 163 3 v' (n + m) (wds (xs ++ l)) ∧ Kept (fun i => v.ownBlock = some i) w w' := by
  obtain ⟨i, hi, hz, h1, h2⟩ := info_parts infoRW3
  have := app_some (P := Tryz.prog) Tryz.underlying90 hi hz h1 h2 (by rfl) (by decide) w base v n (wds xs) hown b off m c (wds l) (by rw [wds_length, hm]) hr (wds_flatL l) (by unfold maxLen; omega) (by omega) hbase
  rw [show wds xs ++ wds l = wds (xs ++ l) by simp [wds]] at this
  exact this
/-- the reader, and the words that it has read -/
structure Rw (w : World) (base pb rb : Nat) (t : Value) (k : Nat) (ds : List Wd) (ls : List Wl) (cs : Array Value) : Prop where
  own : w.ownsRow base 163 3 t k (wds ds)
  wv : WsG 0 23 w ds ls
  B : Blk w pb 180 cs
  D : Blk w rb 180 #[.slice none 0 0, .int .i64 0, .int .i64 0]
theorem Rw.ext {w w' : World} {base pb rb : Nat} {t : Value} {k : Nat} {ds : List Wd} {ls : List Wl} {cs : Array Value} (h : Rw w base pb rb t k ds ls cs) (hx : Ext w w') : Rw w' base pb rb t k ds ls cs :=
  ⟨own_ext h.own hx, h.wv.ext hx, Blk.ext h.B hx, Blk.ext h.D hx⟩
theorem Rw.kept {w w' : World} {base pb rb wb : Nat} {t : Value} {k : Nat} {ds : List Wd} {ls : List Wl} {cs : Array Value} (h : Rw w base pb rb t k ds ls cs) (hk : Kept (· = wb) w w') (h1 : t.ownBlock ≠ some wb) (h2 : ¬ wb = pb) (h3 : ¬ wb = rb) (h4 : ∀ cur fr, ¬ w.heap[wb]? = some (.cells cur 23 fr)) : Rw w' base pb rb t k ds ls cs :=
  ⟨own_kept h.own hk (fun g hg q => h1 (by rw [hg, q])), h.wv.kept hk (fun i q => ⟨Nat.zero_le _, by subst q; exact h4⟩), Blk.kept h.B hk (fun q => h2 q.symm), Blk.kept h.D hk (fun q => h3 q.symm)⟩
theorem Rw.put {w : World} {base pb rb : Nat} {t : Value} {k : Nat} {ds : List Wd} {ls : List Wl} {cs : Array Value} (h : Rw w base pb rb t k ds ls cs) (cs' : Array Value) (hc : splice cs 0 cs' = cs') (hr : ¬ rb = pb) : Rw (putAt w pb 0 cs') base pb rb t k ds ls cs' := by
  have hk : Kept (· = pb) w (putAt w pb 0 cs') := Kept.putAt (Kept.refl (· = pb) w) pb 0 _ (fun _ => rfl)
  have hB := Blk.put_ h.B 0 cs'
  rw [hc] at hB
  exact ⟨own_kept h.own hk (fun g hg q => by subst q; exact own_other h.own (E' := 180) (by decide) g hg _ _ h.B), h.wv.kept hk (fun i q => ⟨Nat.zero_le _, by subst q; exact step_not h.B (by decide)⟩), hB, Blk.kept h.D hk hr⟩
end Go.Proofs.YtahljceanodhkaaGreatDoor
