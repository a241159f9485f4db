/- Plain facts on a trial's course: no program in sight. -/
import Derived.Test.YtahljceanodhkaaGreatDoorHalvb
namespace Go.Proofs.YtahljceanodhkaaGreatDoor
/-- behind n deeds that were not refused, of a trial over 2^K steps -/
def EInv (K : Nat) (t : Tr) (n : Int) : Prop :=
  0 ≤ t.from_ ∧ t.from_ + t.steps ≤ 2 ^ K ∧ ∃ j : Nat, j ≤ K ∧ t.steps = 2 ^ j ∧
    ((t.turn = 0 ∧ t.winner = -1 ∧ n = 2 * ((K : Int) - j)) ∨ (t.turn = 1 ∧ 1 ≤ j ∧ t.winner = -1 ∧ n = 2 * ((K : Int) - j) + 1) ∨
     (t.turn = -1 ∧ (t.winner = 0 ∨ t.winner = 1) ∧ 0 ≤ n ∧ n ≤ 2 * K + 1))
theorem pow_half {j : Nat} (h : 1 ≤ j) : (2 : Int) ^ j = 2 * 2 ^ (j - 1) := by
  obtain ⟨i, rfl⟩ : ∃ i, j = i + 1 := ⟨j - 1, by omega⟩
  simp [Int.pow_succ, Int.mul_comm]
theorem pow_pos' (j : Nat) : (1 : Int) ≤ 2 ^ j := by
  have : 1 ≤ (2 : Nat) ^ j := Nat.one_le_two_pow
  have e : ((2 ^ j : Nat) : Int) = (2 : Int) ^ j := by simp
  omega
theorem pow_mono' {i j : Nat} (h : i ≤ j) : (2 : Int) ^ i ≤ 2 ^ j := by
  have : (2 : Nat) ^ i ≤ 2 ^ j := Nat.pow_le_pow_right (by omega) h
  have e : ((2 ^ j : Nat) : Int) = (2 : Int) ^ j := by simp
  have e' : ((2 ^ i : Nat) : Int) = (2 : Int) ^ i := by simp
  omega
theorem EInv.start (K : Nat) (a z p : Dg) (s : Int) (m : Dg) : EInv K ⟨0, 2 ^ K, a, z, p, s, 0, m, -1⟩ 0 :=
  ⟨by simp, by simp, K, Nat.le_refl _, rfl, .inl ⟨rfl, rfl, by omega⟩⟩
theorem EInv.bounds {K : Nat} {t : Tr} {n : Int} (h : EInv K t n) : 0 ≤ t.from_ ∧ t.from_ ≤ 2 ^ K ∧ 1 ≤ t.steps ∧ t.steps ≤ 2 ^ K ∧ 0 ≤ n ∧ n ≤ 2 * K + 1 := by
  obtain ⟨h0, h1, j, hj, hs, hc⟩ := h
  have hp := pow_pos' j
  have hm := pow_mono' hj
  refine ⟨h0, by omega, by omega, by omega, ?_, ?_⟩ <;> omega
theorem EInv.wins {K : Nat} {t : Tr} {n : Int} (h : EInv K t n) (hn : 2 * K + 1 ≤ n) : t.winner ≠ -1 := by
  obtain ⟨h0, h1, j, hj, hs, hc⟩ := h
  rcases hc with ⟨_, _, hc⟩ | ⟨_, _, _, hc⟩ | ⟨_, hc, _⟩ <;> omega
/-- the count behind a deed that was answered with e -/
def more (n e : Int) : Int := if e = 0 then n + 1 else n
theorem askedE_cases (t : Tr) (who : Int) (one : Bool) : (askedE t who one = 0 ∧ t.turn ≠ -1 ∧ t.turn = who ∧ (t.steps == 1) = one) ∨ askedE t who one = 10 ∨ askedE t who one = 15 := by
  unfold askedE
  by_cases h1 : t.turn = -1
  · simp [h1]
  · by_cases h2 : t.turn = who
    · subst h2
      by_cases h3 : (t.steps == 1) = one
      · simp [h1, h3]
      · simp [h1, h3]
    · simp [h1, h2]
theorem EInv.tell {K : Nat} {t : Tr} {n : Int} (h : EInv K t n) (d : Dg) : EInv K (tellT t d) (more n (askedE t 0 false)) ∧ (tellT t d).steps = t.steps := by
  unfold tellT more
  rcases askedE_cases t 0 false with ⟨e, h1, h2, h3⟩ | e | e
  · rw [if_pos e, if_pos e]
    obtain ⟨h0, hb, j, hj, hs, hc⟩ := h
    refine ⟨⟨h0, hb, j, hj, hs, .inr (.inl ⟨rfl, ?_, ?_, ?_⟩)⟩, rfl⟩
    · rcases Nat.eq_zero_or_pos j with hz | hz
      · subst hz; simp [hs] at h3
      · exact hz
    · rcases hc with ⟨_, h, _⟩ | ⟨h, _⟩ | ⟨h, _⟩ <;> omega
    · rcases hc with ⟨_, _, h⟩ | ⟨h, _⟩ | ⟨h, _⟩ <;> omega
  · rw [if_neg (by omega), if_neg (by omega)]; exact ⟨h, rfl⟩
  · rw [if_neg (by omega), if_neg (by omega)]; exact ⟨h, rfl⟩
theorem EInv.choose {K : Nat} {t : Tr} {n : Int} (h : EInv K t n) (f : Bool) : EInv K (chooseT t f) (more n (askedE t 1 false)) ∧
    (askedE t 1 false = 0 → (chooseT t f).steps = t.steps / 2 ∧ 1 < t.steps) ∧ (askedE t 1 false ≠ 0 → (chooseT t f).steps = t.steps) := by
  unfold chooseT more
  rcases askedE_cases t 1 false with ⟨e, h1, h2, h3⟩ | e | e
  · rw [if_pos e, if_pos e]
    obtain ⟨h0, hb, j, hj, hs, hc⟩ := h
    have hc : 1 ≤ j ∧ t.winner = -1 ∧ n = 2 * ((K : Int) - j) + 1 := by
      rcases hc with ⟨h, _⟩ | ⟨_, h⟩ | ⟨h, _⟩
      · omega
      · exact h
      · omega
    have hp := pow_half hc.1
    have hq := pow_pos' (j - 1)
    have e1 : t.steps / 2 = 2 ^ (j - 1) := by omega
    have e2 : t.steps - t.steps / 2 = 2 ^ (j - 1) := by omega
    have e3 : t.steps / 2 + t.steps / 2 = t.steps := by omega
    cases f
    · refine ⟨⟨by simp; omega, by simp; omega, j - 1, by omega, by simpa using e2, .inl ⟨rfl, hc.2.1, by omega⟩⟩, fun _ => ⟨by simp; omega, by omega⟩, fun h => absurd e h⟩
    · refine ⟨⟨by simpa using h0, by simp; omega, j - 1, by omega, by simpa using e1, .inl ⟨rfl, hc.2.1, by omega⟩⟩, fun _ => ⟨rfl, by omega⟩, fun h => absurd e h⟩
  · rw [if_neg (by omega), if_neg (by omega)]; exact ⟨h, fun h => by omega, fun _ => rfl⟩
  · rw [if_neg (by omega), if_neg (by omega)]; exact ⟨h, fun h => by omega, fun _ => rfl⟩
theorem EInv.silence {K : Nat} {t : Tr} {n : Int} (h : EInv K t n) : EInv K (silenceT t) (more n (silenceE t)) ∧ (silenceT t).steps = t.steps := by
  obtain ⟨h0, hb, j, hj, hs, hc⟩ := h
  unfold silenceT more silenceE
  rcases hc with ⟨h, hw, hn⟩ | ⟨h, h1, hw, hn⟩ | ⟨h, hw, hn, hm⟩
  · simp only [h]; exact ⟨⟨h0, hb, j, hj, hs, .inr (.inr ⟨rfl, .inr rfl, by simp; omega, by simp; omega⟩)⟩, rfl⟩
  · simp only [h]; exact ⟨⟨h0, hb, j, hj, hs, .inr (.inr ⟨rfl, .inl rfl, by simp; omega, by simp; omega⟩)⟩, rfl⟩
  · simp only [h]; exact ⟨⟨h0, hb, j, hj, hs, .inr (.inr ⟨h, hw, by simpa using hn, by simpa using hm⟩)⟩, rfl⟩
end Go.Proofs.YtahljceanodhkaaGreatDoor
