/- Plain facts on a trial's spans: no program in sight. -/
import Derived.Test.YtbijcmmlgekmiaaHalvp
namespace Go.Proofs.Ytbijcmmlgekmiaa
def SInv (K : Nat) (t : Tr) (ds : List Dg) : Prop :=
  0 ≤ t.from_ ∧ t.from_ + t.steps ≤ 2 ^ K ∧ (∃ j : Nat, j ≤ K ∧ t.steps = 2 ^ j ∧ ∃ q : Int, t.from_ = q * 2 ^ j) ∧
    t.before ∈ ds ∧ t.after ∈ ds ∧ (t.turn = 1 → t.mid ∈ ds)
theorem SInv.start (K : Nat) (a z p : Dg) (s : Int) (m : Dg) : SInv K ⟨0, 2 ^ K, a, z, p, s, 0, m, -1⟩ [a, z] :=
  ⟨by simp, by simp, ⟨K, Nat.le_refl _, rfl, 0, by simp⟩, by simp, by simp, fun h => by simp at h⟩
theorem SInv.bounds {K : Nat} {t : Tr} {ds : List Dg} (h : SInv K t ds) : 0 ≤ t.from_ ∧ t.from_ ≤ 2 ^ K ∧ 1 ≤ t.steps ∧ t.steps ≤ 2 ^ K := by
  obtain ⟨h0, h1, ⟨j, hj, hs, _⟩, _⟩ := h
  have hp := pow_pos' j
  have hm := pow_mono' hj
  omega
theorem SInv.rem {K : Nat} {t : Tr} {ds : List Dg} (h : SInv K t ds) : t.from_ % t.steps = 0 := by
  obtain ⟨h0, h1, ⟨j, hj, hs, q, hq⟩, _⟩ := h
  rw [hs, hq]; exact Int.mul_emod_left _ _
theorem SInv.tell {K : Nat} {t : Tr} {ds : List Dg} (h : SInv K t ds) (d : Dg) : (askedE t 0 false = 0 → SInv K (tellT t d) (ds ++ [d])) ∧ (askedE t 0 false ≠ 0 → SInv K (tellT t d) ds) := by
  unfold tellT
  refine ⟨fun e => ?_, fun e => ?_⟩
  · rw [if_pos e]
    obtain ⟨h0, h1, h2, h3, h4, h5⟩ := h
    exact ⟨h0, h1, h2, by simp [h3], by simp [h4], fun _ => by simp⟩
  · rw [if_neg e]; exact h
theorem SInv.choose {K : Nat} {t : Tr} {ds : List Dg} (h : SInv K t ds) (f : Bool) : SInv K (chooseT t f) ds := by
  unfold chooseT
  rcases askedE_cases t 1 false with ⟨e, h1, h2, h3⟩ | e | e
  · rw [if_pos e]
    obtain ⟨h0, hb, ⟨j, hj, hs, q, hq⟩, hbe, haf, hmi⟩ := h
    have hj1 : 1 ≤ j := by
      rcases Nat.eq_zero_or_pos j with hz | hz
      · subst hz; simp [hs] at h3
      · exact hz
    have hp := pow_half hj1
    have hq' := pow_pos' (j - 1)
    have e1 : t.steps / 2 = 2 ^ (j - 1) := by omega
    have e2 : t.steps - t.steps / 2 = 2 ^ (j - 1) := by omega
    cases f
    · refine ⟨by simp; omega, by simp; omega, ⟨j - 1, by omega, by simpa using e2, 2 * q + 1, ?_⟩, hmi h2, haf, fun h => by simp at h⟩
      simp only [Bool.false_eq_true, if_false]
      rw [e1, hq, hp, Int.add_mul, Int.one_mul]
      rw [show q * (2 * 2 ^ (j - 1)) = 2 * q * 2 ^ (j - 1) from by rw [← Int.mul_assoc, Int.mul_comm q 2]]
    · refine ⟨by simpa using h0, by simp; omega, ⟨j - 1, by omega, by simpa using e1, 2 * q, ?_⟩, hbe, hmi h2, fun h => by simp at h⟩
      simp only [if_true]
      rw [hq, hp, ← Int.mul_assoc, Int.mul_comm q 2]
  · rw [if_neg (by omega)]; exact h
  · rw [if_neg (by omega)]; exact h
theorem and_pow : ∀ j : Fin 21, Go.bits .and .i64 (2 ^ j.val) (2 ^ j.val - 1) = 0 := by decide
theorem SInv.and_ {K : Nat} {t : Tr} {ds : List Dg} (h : SInv K t ds) (hK : K ≤ 20) : Go.bits .and .i64 t.steps (t.steps - 1) = 0 := by
  obtain ⟨h0, h1, ⟨j, hj, hs, q, hq⟩, _⟩ := h
  rw [hs]
  exact and_pow ⟨j, by omega⟩
end Go.Proofs.Ytbijcmmlgekmiaa
