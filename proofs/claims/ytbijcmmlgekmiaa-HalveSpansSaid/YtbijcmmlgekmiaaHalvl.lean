/- The law HalveEnds of layer 23: its walk. -/
import Derived.Test.YtbijcmmlgekmiaaHalvt
import Derived.Test.YtbijcmmlgekmiaaHalvp
namespace Go.Proofs.Ytbijcmmlgekmiaa
open Go.RowKit
/-- Deeds in memory: so many, of 11 cells each. -/
structure Deeds (w : World) (b off len : Nat) (what : Nat → Int) (dg : Nat → Dg) (first : Nat → Bool) : Prop where
  what_ : ∀ i, i < len → w.cell? ⟨b, off + i * 11, none⟩ = some (.int .u8 (what i))
  whatR : ∀ i, i < len → 0 ≤ what i ∧ what i ≤ 255
  has_ : ∀ i, i < len → has w b (off + i * 11 + 1) 8 = true
  dg_ : ∀ i, i < len → gets w b (off + i * 11 + 1) 8 = (dg i).cells
  first_ : ∀ i, i < len → w.cell? ⟨b, off + i * 11 + 9, none⟩ = some (.bool (first i))
  lt : 0 < len → b < w.heap.size
theorem Deeds.keep {w w' : World} {b off len : Nat} {what : Nat → Int} {dg : Nat → Dg} {first : Nat → Bool} (h : Deeds w b off len what dg first) (hk : Ext w w') : Deeds w' b off len what dg first := by
  have hc : ∀ o, 0 < len → w'.cell? ⟨b, o, none⟩ = w.cell? ⟨b, o, none⟩ := fun o hl => hk.cell (p := ⟨b, o, none⟩) (h.lt hl) (fun f => f)
  have hb : 0 < len → w'.heap[b]? = w.heap[b]? := fun hl => hk.block b (h.lt hl) (fun f => f)
  refine ⟨fun i hi => (hc _ (by omega)).trans (h.what_ i hi), h.whatR, fun i hi => ?_, fun i hi => ?_, fun i hi => (hc _ (by omega)).trans (h.first_ i hi), fun hl => Nat.lt_of_lt_of_le (h.lt hl) hk.size⟩
  · have := h.has_ i hi; unfold has at this ⊢; rw [hb (by omega)]; exact this
  · have := h.dg_ i hi; unfold gets at this ⊢; rw [hb (by omega)]; exact this
theorem silenceE_cases (t : Tr) : silenceE t = 0 ∨ silenceE t = 15 := by
  unfold silenceE
  by_cases h : t.turn = 0
  · simp [h]
  · by_cases h1 : t.turn = 1 <;> simp [h, h1]
set_option maxRecDepth 100000 in
set_option maxHeartbeats 4000000 in
theorem ends_walk (d : Int) (hd0 : 0 ≤ d) (hd1 : d ≤ 255) (A : Option Addr) (b off len cap : Nat) (what : Nat → Int) (dg : Nat → Dg) (first : Nat → Bool) (w : World) (hA : 0 < len → A = some ⟨b, off, none⟩) (hD : Deeds w b off len what dg first) (hl : len ≤ 100) :
    Calls Try.prog 3 #[.int .u8 d, .slice A len cap] w fun e w' => e = .returned (.bool true) ∧ Ext w w' := by
  have HD := Lib.hid hD
  clear hD
  have HA := Lib.hid hA
  clear hA
  go_enter Try.func3, Try.ntmps3
  go_wp2_with fail
  refine (new_ok (dg1 1) (dg1 2) (dg1 3) 7 _ ?_ ?_ (by decide) (by decide) _).mono ?_
  · omega
  · omega
  rintro e w1 ⟨g, hg, rfl, hA1, hx1⟩
  go_wp2_with fail
  go_loopw [8, 9] (fun n i wr => ∃ (k : Nat) (t : Tr) (m : Int), k ≤ len ∧ i = .int .i64 k ∧ n = .int .i64 m ∧ EInv (d % 21).toNat t m ∧ At wr g t ∧ Ext w wr) (fun _ i _ => len - (intOf i).toNat)
  case atStart => exact ⟨0, _, 0, Nat.zero_le _, rfl, rfl, EInv.start _ _ _ _ _ _, hA1, hx1⟩
  case round =>
    obtain ⟨k, t, m, hk, rfl, rfl, hE, hAt, hx⟩ := hrel
    have hb := hE.bounds
    have hp := pow2_le (n := (d % 21).toNat) (by omega)
    have HE := Lib.hid hE
    clear hE hA1 hx1
    have hK : ((d % 21).toNat : Int) = d % 21 := by omega
    have hmb : m ≤ 2 * (d % 21) + 1 := by omega
    have hm0 : 0 ≤ m := by omega
    have hsb : 1 ≤ t.steps ∧ t.steps ≤ 1048576 := by omega
    have hfb : 0 ≤ t.from_ ∧ t.from_ ≤ 1048576 := by omega
    have HK := Lib.hid hK
    clear hK hb hp
    by_cases hlt : k < len
    · have hwr := HD.out.whatR k hlt
      obtain rfl := HA.out (by omega)
      have hne : (t.steps == t.steps / 2) = false := by simp; omega
      by_cases h0 : what k % 4 = 0
      · have q0 : (what k % 4 == 0) = true := by simpa using h0
        have q1 : (what k % 4 == 1) = false := by simp; omega
        clear h0
        go_wp2_with fail
        refine (span_any g t _ hAt).mono ?_
        rintro e w2 ⟨rfl, hx2⟩
        have hD2 := HD.out.keep (hx.trans hx2)
        have hwh := hD2.what_ k hlt
        have hhas := hD2.has_ k hlt
        have hdg := hD2.dg_ k hlt
        have hfi := hD2.first_ k hlt
        have hbl := hD2.lt (by omega)
        have hbl1 := Nat.lt_succ_of_lt hbl
        clear hD2
        go_wp2_with fail
        refine (tell_any g t (dg k) _ ?_).mono ?_
        · exact Blk.alloc (Blk.alloc (Blk.ext hAt hx2) _) _
        rintro e w3 ⟨rfl, hA3, hx3⟩
        have hE3 := (HE.out.tell (dg k)).1
        have hs3 := (HE.out.tell (dg k)).2
        have q3 : ((tellT t (dg k)).steps == t.steps / 2) = false := by rw [hs3]; exact hne
        clear hs3
        rcases askedE_cases t 0 false with ⟨e0, _⟩ | e0 | e0
        all_goals
          rw [e0]
          rw [e0] at hE3
          simp [more] at hE3
          have hb3 := hE3.bounds
          have hno : ∀ i, i < w.heap.size → i = g → False := fun i hi he => by omega
          have hx5 : Ext w w3 := (((hx.trans hx2).alloc _).alloc _).trans' hx3 hno
          have HE3 := Lib.hid hE3
          clear hE3 hno
          have hm3 := hb3.2.2.2.2.2
          rw [HK.out] at hm3
          clear hb3
          go_wp2_with fail
          refine (span_any g _ _ hA3).mono ?_
          rintro e w4 ⟨rfl, hx4⟩
          have hD4 := HD.out.keep (hx5.trans hx4)
          have hwh4 := hD4.what_ k hlt
          have hbl4 := hD4.lt (by omega)
          have hbl5 := Nat.lt_succ_of_lt hbl4
          clear hD4
          go_wp2_with fail
          go_roundw
          case rel => exact ⟨k + 1, _, _, by omega, by go_num, rfl, HE3.out, Blk.alloc (Blk.alloc (Blk.ext hA3 hx4) _) _, ((hx5.trans hx4).alloc _).alloc _⟩
          case measure => (simp only [intOf]; omega)
      · by_cases h1 : what k % 4 = 1
        · have q0 : (what k % 4 == 0) = false := by simp; omega
          have q1 : (what k % 4 == 1) = true := by simpa using h1
          clear h0 h1
          go_wp2_with fail
          refine (span_any g t _ hAt).mono ?_
          rintro e w2 ⟨rfl, hx2⟩
          have hD2 := HD.out.keep (hx.trans hx2)
          have hwh := hD2.what_ k hlt
          have hhas := hD2.has_ k hlt
          have hdg := hD2.dg_ k hlt
          have hfi := hD2.first_ k hlt
          have hbl := hD2.lt (by omega)
          have hbl1 := Nat.lt_succ_of_lt hbl
          clear hD2
          go_wp2_with fail
          refine (choose_any g t (first k) _ ?_ (by omega) (by omega) (by omega) (by omega)).mono ?_
          · exact Blk.alloc (Blk.alloc (Blk.ext hAt hx2) _) _
          rintro e w3 ⟨rfl, hA3, hx3⟩
          obtain ⟨hE3, hs3, hs4⟩ := HE.out.choose (first k)
          rcases askedE_cases t 1 false with ⟨e0, _⟩ | e0 | e0
          · obtain ⟨hs5, hs6⟩ := hs3 e0
            have q3 : ((chooseT t (first k)).steps == t.steps / 2) = true := by rw [hs5]; simp
            clear hs5 hs3 hs4
            rw [e0]
            rw [e0] at hE3
            simp [more] at hE3
            have hb3 := hE3.bounds
            have hno : ∀ i, i < w.heap.size → i = g → False := fun i hi he => by omega
            have hx5 : Ext w w3 := (((hx.trans hx2).alloc _).alloc _).trans' hx3 hno
            have HE3 := Lib.hid hE3
            clear hE3 hno
            have hm3 := hb3.2.2.2.2.2
            rw [HK.out] at hm3
            clear hb3
            go_wp2_with fail
            refine (span_any g _ _ hA3).mono ?_
            rintro e w4 ⟨rfl, hx4⟩
            have hD4 := HD.out.keep (hx5.trans hx4)
            have hwh4 := hD4.what_ k hlt
            have hbl4 := hD4.lt (by omega)
            have hbl5 := Nat.lt_succ_of_lt hbl4
            clear hD4
            go_wp2_with fail
            go_roundw
            case rel => exact ⟨k + 1, _, _, by omega, by go_num, rfl, HE3.out, Blk.alloc (Blk.alloc (Blk.ext hA3 hx4) _) _, ((hx5.trans hx4).alloc _).alloc _⟩
            case measure => (simp only [intOf]; omega)
          all_goals
            have hs5 := hs4 (by omega)
            have q3 : ((chooseT t (first k)).steps == t.steps / 2) = false := by rw [hs5]; exact hne
            clear hs5 hs3 hs4
            rw [e0]
            rw [e0] at hE3
            simp [more] at hE3
            have hb3 := hE3.bounds
            have hno : ∀ i, i < w.heap.size → i = g → False := fun i hi he => by omega
            have hx5 : Ext w w3 := (((hx.trans hx2).alloc _).alloc _).trans' hx3 hno
            have HE3 := Lib.hid hE3
            clear hE3 hno
            have hm3 := hb3.2.2.2.2.2
            rw [HK.out] at hm3
            clear hb3
            go_wp2_with fail
            refine (span_any g _ _ hA3).mono ?_
            rintro e w4 ⟨rfl, hx4⟩
            have hD4 := HD.out.keep (hx5.trans hx4)
            have hwh4 := hD4.what_ k hlt
            have hbl4 := hD4.lt (by omega)
            have hbl5 := Nat.lt_succ_of_lt hbl4
            clear hD4
            go_wp2_with fail
            go_roundw
            case rel => exact ⟨k + 1, _, _, by omega, by go_num, rfl, HE3.out, Blk.alloc (Blk.alloc (Blk.ext hA3 hx4) _) _, ((hx5.trans hx4).alloc _).alloc _⟩
            case measure => (simp only [intOf]; omega)
        · by_cases h3 : what k % 4 = 3
          · have q0 : (what k % 4 == 0) = false := by simp; omega
            have q1 : (what k % 4 == 1) = false := by simp; omega
            have q2 : (what k % 4 == 3) = true := by simpa using h3
            clear h0 h1 h3
            go_wp2_with fail
            refine (span_any g t _ hAt).mono ?_
            rintro e w2 ⟨rfl, hx2⟩
            have hD2 := HD.out.keep (hx.trans hx2)
            have hwh := hD2.what_ k hlt
            have hhas := hD2.has_ k hlt
            have hdg := hD2.dg_ k hlt
            have hfi := hD2.first_ k hlt
            have hbl := hD2.lt (by omega)
            have hbl1 := Nat.lt_succ_of_lt hbl
            clear hD2
            go_wp2_with fail
            refine (silence_any g t _ ?_).mono ?_
            · exact Blk.alloc (Blk.alloc (Blk.ext hAt hx2) _) _
            rintro e w3 ⟨rfl, hA3, hx3⟩
            have hE3 := HE.out.silence.1
            have hs3 := HE.out.silence.2
            have q3 : ((silenceT t).steps == t.steps / 2) = false := by rw [hs3]; exact hne
            clear hs3
            rcases silenceE_cases t with e0 | e0
            all_goals
              rw [e0]
              rw [e0] at hE3
              simp [more] at hE3
              have hb3 := hE3.bounds
              have hno : ∀ i, i < w.heap.size → i = g → False := fun i hi he => by omega
              have hx5 : Ext w w3 := (((hx.trans hx2).alloc _).alloc _).trans' hx3 hno
              have HE3 := Lib.hid hE3
              clear hE3 hno
              have hm3 := hb3.2.2.2.2.2
              rw [HK.out] at hm3
              clear hb3
              go_wp2_with fail
              refine (span_any g _ _ hA3).mono ?_
              rintro e w4 ⟨rfl, hx4⟩
              have hD4 := HD.out.keep (hx5.trans hx4)
              have hwh4 := hD4.what_ k hlt
              have hbl4 := hD4.lt (by omega)
              have hbl5 := Nat.lt_succ_of_lt hbl4
              clear hD4
              go_wp2_with fail
              go_roundw
              case rel => exact ⟨k + 1, _, _, by omega, by go_num, rfl, HE3.out, Blk.alloc (Blk.alloc (Blk.ext hA3 hx4) _) _, ((hx5.trans hx4).alloc _).alloc _⟩
              case measure => (simp only [intOf]; omega)
          · have q0 : (what k % 4 == 0) = false := by simp; omega
            have q1 : (what k % 4 == 1) = false := by simp; omega
            have q2 : (what k % 4 == 3) = false := by simp; omega
            clear h0 h1 h3
            go_wp2_with fail
            refine (span_any g t _ hAt).mono ?_
            rintro e w2 ⟨rfl, hx2⟩
            have hD2 := HD.out.keep (hx.trans hx2)
            have hwh := hD2.what_ k hlt
            have hhas := hD2.has_ k hlt
            have hdg := hD2.dg_ k hlt
            have hfi := hD2.first_ k hlt
            have hbl := hD2.lt (by omega)
            have hbl1 := Nat.lt_succ_of_lt hbl
            clear hD2
            go_wp2_with fail
            have hA3 := Blk.alloc (Blk.alloc (Blk.ext hAt hx2) (.cells t.before.cells 28)) (.cells t.after.cells 28)
            have hx5 : Ext w _ := ((hx.trans hx2).alloc (.cells t.before.cells 28)).alloc (.cells t.after.cells 28)
            refine (span_any g t _ hA3).mono ?_
            rintro e w4 ⟨rfl, hx4⟩
            have HE3 := HE
            have hD4 := HD.out.keep (hx5.trans hx4)
            have hwh4 := hD4.what_ k hlt
            have hbl4 := hD4.lt (by omega)
            have hbl5 := Nat.lt_succ_of_lt hbl4
            clear hD4
            go_wp2_with fail
            go_roundw
            case rel => exact ⟨k + 1, _, _, by omega, by go_num, rfl, HE3.out, Blk.alloc (Blk.alloc (Blk.ext hA3 hx4) _) _, ((hx5.trans hx4).alloc _).alloc _⟩
            case measure => (simp only [intOf]; omega)
    · by_cases hmk : m < 2 * (d % 21) + 1
      · go_wp2_with fail
        refine (winner_any g t _ hAt).mono ?_
        rintro e w2 ⟨rfl, hx2⟩
        go_wp2_with fail
        refine (told_any _).mono ?_
        rintro e w3 ⟨rfl, hx3⟩
        go_wp2_with fail
        go_ret
        exact ⟨rfl, (hx.trans hx2).trans hx3⟩
      · have hwin := HE.out.wins (by rw [HK.out]; omega)
        have qw : (t.winner != -1) = true := by simpa using hwin
        clear hwin
        go_wp2_with fail
        refine (winner_any g t _ hAt).mono ?_
        rintro e w2 ⟨rfl, hx2⟩
        go_wp2_with fail
        refine (told_any _).mono ?_
        rintro e w3 ⟨rfl, hx3⟩
        go_wp2_with fail
        go_ret
        exact ⟨rfl, (hx.trans hx2).trans hx3⟩
end Go.Proofs.Ytbijcmmlgekmiaa
