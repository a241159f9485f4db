/- Package hash: bytes taken in. -/
import Derived.Test.YtahljceanodhkaaGreatDoorHc
import Derived.Laws.IdiomCopy
namespace Go.Proofs.YtahljceanodhkaaGreatDoor
open Go.RowKit
theorem addr_add' (b off j : Nat) : (⟨b, off, none⟩ : Addr).add j = ⟨b, off + j, none⟩ := by unfold Addr.add; split <;> simp_all
theorem arrayAtDig (w : World) (a : Option Addr) (len cap : Nat) (h : 8 ≤ len) : (Instr.arrayAt 30 (.slice a len cap)).run Tryz.prog w = .ok (.pointer a) w := by
  simp [Instr.arrayAt, run_underlying Tryz.underlying30]
  omega
attribute [go_sem] arrayAtDig
def byts (l : List Int) : List Value := l.map (Value.int .u8)
theorem byts_length (l : List Int) : (byts l).length = l.length := by simp [byts]
def dgOf (l : List Int) : Dg := ⟨l.getD 0 0, l.getD 1 0, l.getD 2 0, l.getD 3 0, l.getD 4 0, l.getD 5 0, l.getD 6 0, l.getD 7 0⟩
theorem dgOf_cells : ∀ (l : List Int), 8 ≤ l.length → (byts l).take 8 = (dgOf l).cells.toList
  | a :: b :: c :: d :: e :: f :: g :: h :: l, _ => by simp [byts, dgOf]
theorem dgx_dgOf (l : List Int) (j : Nat) (hj : j < 8) : dgx (dgOf l) j = l.getD j 0 := by
  rcases (by omega : j = 0 ∨ j = 1 ∨ j = 2 ∨ j = 3 ∨ j = 4 ∨ j = 5 ∨ j = 6 ∨ j = 7) with rfl | rfl | rfl | rfl | rfl | rfl | rfl | rfl <;> rfl
def BytesOk (l : List Int) : Prop := ∀ x ∈ l, 0 ≤ x ∧ x ≤ 255
theorem dgOf_ok {l : List Int} (h : BytesOk l) : (dgOf l).ok := by
  intro j
  by_cases hj : j < 8
  · rw [dgx_dgOf l j hj]
    by_cases hl : j < l.length
    · simp only [List.getD, List.getElem?_eq_getElem hl, Option.getD_some]; exact h _ (List.getElem_mem hl)
    · simp [List.getD, List.getElem?_eq_none (Nat.le_of_not_lt hl)]
  · match j, hj with
    | n + 8, _ => simp [dgx]
    | 0, h | 1, h | 2, h | 3, h | 4, h | 5, h | 6, h | 7, h => exact absurd (by omega) h
theorem BytesOk.drop {l : List Int} (h : BytesOk l) (n : Nat) : BytesOk (l.drop n) := fun x hx => h x (List.mem_of_mem_drop hx)
def wholeK (s : St) (l : List Int) : Nat → St | 0 => s | k + 1 => taken (wholeK s l k) (numD (dgOf (l.drop (k * 8))))
theorem Row.chunk {w : World} {b off : Nat} {l : List Int} (h : Row w b off (byts l)) (k : Nat) (hk : k * 8 + 8 ≤ l.length) : Proofs.YtahljceanodhkaaGreatDoor.has w b (off + k * 8) 8 = true ∧ gets w b (off + k * 8) 8 = (dgOf (l.drop (k * 8))).cells := by
  have := h.sub (k * 8) 8 (by rw [byts_length]; omega)
  have e : ((byts l).drop (k * 8)) = byts (l.drop (k * 8)) := by simp [byts, List.map_drop]
  rw [e, dgOf_cells _ (by simp; omega)] at this
  simpa using this
set_option maxRecDepth 100000 in
set_option maxHeartbeats 1000000 in
theorem whole_any (g : Nat) (s : St) (A : Option Addr) (b off cap : Nat) (l : List Int) (n : Nat) (hn : n = l.length) (hl : n ≤ cap) (hcap : cap ≤ 9223372036854775807) (hok : BytesOk l) (w : World) (hs : Blk w g 262 s.cells) (hA : 0 < n → A = some ⟨b, off, none⟩) (hr : 0 < n → Row w b off (byts l)) (hbg : 0 < n → ¬ b = g) :
    Calls Tryz.prog 226 #[.pointer (some ⟨g, 0, none⟩), .slice A n cap] w fun e w' => e = .returned (.tuple #[]) ∧ Blk w' g 262 (wholeK s l (n / 8)).cells ∧ Kept (· = g) w w' := by
  have HO := Lib.hid hok
  have HA := Lib.hid hA
  have HR := Lib.hid hr
  have HG := Lib.hid hbg
  have HN := Lib.hid hn
  clear hok hA hr hbg hn
  go_enter Tryz.func226, Tryz.ntmps226
  go_wp2_with fail
  go_loopw [8] (fun i wr => ∃ k : Nat, k ≤ n / 8 ∧ i = .int .i64 k ∧ Blk wr g 262 (wholeK s l k).cells ∧ Kept (· = g) w wr) (fun i _ => n / 8 - (intOf i).toNat)
  case atStart => exact ⟨0, by omega, rfl, hs, Kept.refl _ _⟩
  case round =>
    obtain ⟨k, hk, rfl, hsk, hx⟩ := hrel
    clear hs
    by_cases hlt : k < n / 8
    · have hk8 : k * 8 + 8 ≤ l.length := by have := HN.out; omega
      have hk9 : k * 8 + 8 ≤ n := by omega
      obtain rfl := HA.out (by omega)
      obtain ⟨hrh, hrg⟩ := ((HR.out (by omega)).kept hx (HG.out (by omega))).chunk k hk8
      have hcc : ¬ cap = k * 8 := by omega
      go_wp2_with fail
      refine (num_any _ (dgOf_ok (HO.out.drop _)) _).mono ?_
      rintro e w2 ⟨rfl, hx2⟩
      go_wp2_with fail
      refine (take_any _ _ _ _ (Blk.ext hsk hx2)).mono ?_
      rintro e w3 ⟨rfl, hs3, hx3⟩
      go_wp2_with fail
      go_roundw
      case rel => exact ⟨k + 1, by omega, by go_num, hs3, (hx.trans (Kept.ext hx2)).trans hx3⟩
      case measure => (simp only [intOf]; omega)
    · have hkn : k = n / 8 := by omega
      have HK := Lib.hid hkn
      clear hkn
      go_wp2_with fail
      go_end0
      exact ⟨rfl, HK.out ▸ hsk, hx⟩
theorem copy0 (w : World) (ty : TypeId) (d a : Option Addr) (dLen dCap sCap : Nat) : (Builtin.copy_ #[95, 95] ty #[.slice d dLen dCap, .slice a 0 sCap]).run Tryz.prog w = .ok (.int .i64 0) w := by
  have h := run_copy_none (P := Tryz.prog) w 95 95 ty 5 d a dLen dCap 0 sCap Tryz.underlying95 (by kernel_rfl) (by simp)
  simpa [goInt] using h
theorem copyR (w : World) (ty : TypeId) (g o dLen dCap h p sLen sCap : Nat) (cs : List Value) (hn : cs.length = Nat.min sLen dLen) (hr : Row w h p cs) (hf : flatL cs = true) (hh : has w g o cs.length = true) (hm : melts w g = true) :
    (Builtin.copy_ #[95, 95] ty #[.slice (some ⟨g, o, none⟩) dLen dCap, .slice (some ⟨h, p, none⟩) sLen sCap]).run Tryz.prog w = .ok (.int .i64 cs.length) (putAt w g o cs.toArray) := by
  unfold has at hh
  unfold melts at hm
  split at hh
  · rename_i c t fr hq
    rw [hq] at hm
    have hfr : fr = (0, 0) := by
      revert hm; obtain ⟨a, b⟩ := fr; cases a <;> cases b <;> simp
    subst hfr
    rw [putAt_eq_setRow hq]
    have := run_copy_row (P := Tryz.prog) w 95 95 ty 5 g o dLen dCap ⟨h, p, none⟩ sLen sCap c t cs Tryz.underlying95 (by kernel_rfl) hq hn (fun j v hv => by
      rw [addr_add' h p j, hr.cell j (List.getElem?_eq_some_iff.1 hv).1, hv]) (of_decide_eq_true hh) (flatL_all hf)
    rw [this]
    simp [goInt, splice]
  · cases hh
def padK (l : List Int) : Dg := dgOf (l.drop (l.length / 8 * 8) ++ [1])
def bytesS (s : St) (l : List Int) : St := taken (taken (wholeK s l (l.length / 8)) (numD (padK l))) l.length
theorem pad_cells (r : List Int) (h : r.length < 8) : (splice Dg.zero.cells 0 (byts r).toArray).setIfInBounds r.length (.int .u8 1) = (dgOf (r ++ [1])).cells := by
  match r, h with
  | [], _ => rfl
  | [a], _ => rfl
  | [a, b], _ => rfl
  | [a, b, c], _ => rfl
  | [a, b, c, d], _ => rfl
  | [a, b, c, d, e], _ => rfl
  | [a, b, c, d, e, f], _ => rfl
  | [a, b, c, d, e, f, g], _ => rfl
theorem byts_flat (l : List Int) : flatL (byts l) = true := by
  induction l with
  | nil => rfl
  | cons a l ih => simp only [byts, List.map_cons, flatL, Value.oneCell'] at ih ⊢; simpa using ih
end Go.Proofs.YtahljceanodhkaaGreatDoor
