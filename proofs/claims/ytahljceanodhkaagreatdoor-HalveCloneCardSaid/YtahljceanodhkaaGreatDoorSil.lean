/- The law HalveSilence of layer 23: its walk. -/
import Derived.Test.YtahljceanodhkaaGreatDoorDeeds
import Derived.Test.YtahljceanodhkaaGreatDoorHalvs
namespace Go.Proofs.YtahljceanodhkaaGreatDoor
open Go.RowKit
theorem askedE_over {t : Tr} (h : t.turn = -1) (who : Int) (one : Bool) : askedE t who one = 15 := by simp [askedE, h]
theorem tell_over (b : Nat) (t : Tr) (d : Dg) (w : World) (ht : At w b t) (h : t.turn = -1) :
    Calls Tryz.prog 15 #[.pointer (some ⟨b, 0, none⟩), .agg #[.int .u8 d.x0, .int .u8 d.x1, .int .u8 d.x2, .int .u8 d.x3, .int .u8 d.x4, .int .u8 d.x5, .int .u8 d.x6, .int .u8 d.x7]] w fun e w' => e = .returned (.int .i64 15) ∧ At w' b t ∧ Kept (· = b) w w' := by
  have := tell_no b t d w ht (by rw [askedE_over h]; rfl)
  rwa [askedE_over h] at this
theorem choose_over (b : Nat) (t : Tr) (f : Bool) (w : World) (ht : At w b t) (h : t.turn = -1) :
    Calls Tryz.prog 16 #[.pointer (some ⟨b, 0, none⟩), .bool f] w fun e w' => e = .returned (.int .i64 15) ∧ At w' b t ∧ Kept (· = b) w w' := by
  have := choose_no b t f w ht (by rw [askedE_over h]; rfl)
  rwa [askedE_over h] at this
theorem prove_over (b : Nat) (t : Tr) (cs : Array Value) (w : World) (ht : At w b t) (h : t.turn = -1) :
    Calls Tryz.prog 21 #[.pointer (some ⟨b, 0, none⟩), .agg cs] w fun e w' => e = .returned (.int .i64 15) ∧ Ext w w' := by
  have := prove_no b t cs w ht (by rw [askedE_over h]; rfl)
  rwa [askedE_over h] at this
theorem silence_over' (b : Nat) (t : Tr) (w : World) (ht : At w b t) (h : t.turn = -1) :
    Calls Tryz.prog 18 #[.pointer (some ⟨b, 0, none⟩)] w fun e w' => e = .returned (.int .i64 15) ∧ At w' b t ∧ Kept (· = b) w w' :=
  silence_over b t w ht (by rw [h]; rfl) (by rw [h]; rfl)
theorem tellT_turn {t : Tr} {d : Dg} (h : t.turn ≠ -1) : (tellT t d).turn ≠ -1 := by
  unfold tellT; split <;> simp [h]
theorem chooseT_turn {t : Tr} {f : Bool} (h : t.turn ≠ -1) : (chooseT t f).turn ≠ -1 := by
  unfold chooseT; split
  · cases f <;> simp
  · exact h
theorem EInv.turns {K : Nat} {t : Tr} {n : Int} (h : EInv K t n) (hn : t.turn ≠ -1) : t.turn = 0 ∨ t.turn = 1 := by
  obtain ⟨_, _, j, _, _, hc⟩ := h
  rcases hc with ⟨h, _⟩ | ⟨h, _⟩ | ⟨h, _⟩
  · exact .inl h
  · exact .inr h
  · exact absurd h hn
/-- behind the last deed: who is asked says nothing -/
theorem sil_end_lemma (t : Tr) (h : t.turn = 0 ∨ t.turn = 1) : ∃ v : Int, (t.turn = 0 ∧ v = 1) ∨ (t.turn = 1 ∧ v = 0) := by
  rcases h with h | h
  · exact ⟨1, .inl ⟨h, rfl⟩⟩
  · exact ⟨0, .inr ⟨h, rfl⟩⟩
set_option maxRecDepth 100000 in
set_option maxHeartbeats 4000000 in
theorem sil_walk (d : Int) (hd0 : 0 ≤ d) (hd1 : d ≤ 255) (A : Option Addr) (b off len cap : Nat) (what : Nat → Int) (dg : Nat → Dg) (first : Nat → Bool) (wh : Int) (x : Dg) (f : Bool) (v : Value) (w : World) (hA : 0 < len → A = some ⟨b, off, none⟩) (hD : Deeds w b off len what dg first) (hl : len ≤ 60) :
    Calls Tryz.prog 3 #[.int .u8 d, .slice A len cap, .agg #[.int .u8 wh, .int .u8 x.x0, .int .u8 x.x1, .int .u8 x.x2, .int .u8 x.x3, .int .u8 x.x4, .int .u8 x.x5, .int .u8 x.x6, .int .u8 x.x7, .bool f, v]] w fun e w' => e = .returned (.bool true) ∧ Ext w w' := by
  have HD := Lib.hid hD
  clear hD
  have HA := Lib.hid hA
  clear hA
  go_enter Tryz.func3, Tryz.ntmps3
  go_wp2_with fail
  have b0 := Blk.new w 25 #[.int .u8 wh, .int .u8 x.x0, .int .u8 x.x1, .int .u8 x.x2, .int .u8 x.x3, .int .u8 x.x4, .int .u8 x.x5, .int .u8 x.x6, .int .u8 x.x7, .bool f, v]
  have hx0 : Ext w _ := (Kept.refl _ w).alloc (.cells #[.int .u8 wh, .int .u8 x.x0, .int .u8 x.x1, .int .u8 x.x2, .int .u8 x.x3, .int .u8 x.x4, .int .u8 x.x5, .int .u8 x.x6, .int .u8 x.x7, .bool f, v] 25)
  refine (new_ok (dg1 1) (dg1 2) (dg1 3) 7 _ ?_ ?_ (by decide) (by decide) _).mono ?_
  · omega
  · omega
  rintro e w1 ⟨g, hg, rfl, hA1, hx1⟩
  go_wp2_with fail
  have HB := Lib.hid b0
  clear b0
  go_loopw [9] (fun i wr => ∃ (k : Nat) (t : Tr) (m : Int), k ≤ len ∧ i = .int .i64 k ∧ EInv (d % 21).toNat t m ∧ t.turn ≠ -1 ∧ At wr g t ∧ Ext (w.alloc (.cells #[.int .u8 wh, .int .u8 x.x0, .int .u8 x.x1, .int .u8 x.x2, .int .u8 x.x3, .int .u8 x.x4, .int .u8 x.x5, .int .u8 x.x6, .int .u8 x.x7, .bool f, v] 25)) wr) (fun i _ => len - (intOf i).toNat)
  case atStart => exact ⟨0, _, 0, Nat.zero_le _, rfl, EInv.start _ _ _ _ _ _, by simp, hA1, hx1⟩
  case round =>
    obtain ⟨k, t, m, hk, rfl, hE, htn, hAt, hx⟩ := hrel
    have hb := hE.bounds
    have hp := pow2_le (n := (d % 21).toNat) (by omega)
    have HE := Lib.hid hE
    have HT := Lib.hid htn
    clear hE hA1 hx1 htn
    have hsb : 1 ≤ t.steps ∧ t.steps ≤ 1048576 := by omega
    have hfb : 0 ≤ t.from_ ∧ t.from_ ≤ 1048576 := by omega
    clear hb hp
    have hno : ∀ i, i < (w.alloc (.cells #[.int .u8 wh, .int .u8 x.x0, .int .u8 x.x1, .int .u8 x.x2, .int .u8 x.x3, .int .u8 x.x4, .int .u8 x.x5, .int .u8 x.x6, .int .u8 x.x7, .bool f, v] 25)).heap.size → i = g → False := fun i hi he => by simp at hi hg; omega
    have HN := Lib.hid hno
    clear hno
    by_cases hlt : k < len
    · have hwr := HD.out.whatR k hlt
      obtain rfl := HA.out (by omega)
      have hD2 := HD.out.keep (hx0.trans hx)
      have hwh := hD2.what_ k hlt
      have hhas := hD2.has_ k hlt
      have hdg := hD2.dg_ k hlt
      have hfi := hD2.first_ k hlt
      have hbl := hD2.lt (by omega)
      have hbl1 := Nat.lt_succ_of_lt hbl
      clear hD2
      by_cases h0 : what k % 4 = 0
      · have q0 : (what k % 4 == 0) = true := by simpa using h0
        have q1 : (what k % 4 == 1) = false := by simp; omega
        clear h0
        go_wp2_with fail
        refine (tell_any g t (dg k) _ hAt).mono ?_
        rintro e w3 ⟨rfl, hA3, hx3⟩
        go_wp2_with fail
        go_roundw
        case rel => exact ⟨k + 1, _, _, by omega, by go_num, (HE.out.tell (dg k)).1, tellT_turn HT.out, hA3, hx.trans' hx3 HN.out⟩
        case measure => (simp only [intOf]; omega)
      · by_cases h1 : what k % 4 = 1
        · have q0 : (what k % 4 == 0) = false := by simp; omega
          have q1 : (what k % 4 == 1) = true := by simpa using h1
          clear h0 h1
          go_wp2_with fail
          refine (choose_any g t (first k) _ hAt (by omega) (by omega) (by omega) (by omega)).mono ?_
          rintro e w3 ⟨rfl, hA3, hx3⟩
          go_wp2_with fail
          go_roundw
          case rel => exact ⟨k + 1, _, _, by omega, by go_num, (HE.out.choose (first k)).1, chooseT_turn HT.out, hA3, hx.trans' hx3 HN.out⟩
          case measure => (simp only [intOf]; omega)
        · have q0 : (what k % 4 == 0) = false := by simp; omega
          have q1 : (what k % 4 == 1) = false := by simp; omega
          clear h0 h1
          go_wp2_with fail
          go_roundw
          case rel => exact ⟨k + 1, _, _, by omega, by go_num, HE.out, HT.out, hAt, hx⟩
          case measure => (simp only [intOf]; omega)
    · rcases HE.out.turns HT.out with ht0 | ht0
      all_goals
        go_wp2_with fail
        refine (turn_any g t _ hAt).mono ?_
        rintro e w2 ⟨rfl, rfl⟩
        go_wp2_with fail
        first
          | (refine (silence_teller g t _ hAt (by rw [ht0]; rfl)).mono ?_)
          | (refine (silence_doubter g t _ hAt (by rw [ht0]; rfl) (by rw [ht0]; rfl)).mono ?_)
        rintro e w3 ⟨rfl, hA3, hx3⟩
        have hx30 := hx.trans' hx3 HN.out
        go_wp2_with fail
        refine (winner_any g _ _ hA3).mono ?_
        rintro e w4 ⟨rfl, hx4⟩
        have hA4 := Blk.ext hA3 hx4
        go_wp2_with fail
        refine (clone_any g _ _ hA4).mono ?_
        rintro e w5 ⟨o, ho, rfl, hO5, hx5⟩
        have hA5 := Blk.ext hA4 hx5
        have hgo : ¬ o = g := fun e => by have := Blk.lt hA4; omega
        have hx50 := (hx30.trans hx4).trans hx5
        have b5 := Blk.ext HB.out hx50
        have hh5 := Blk.has b5
        have hg5 := Blk.gets b5
        go_wp2_with fail
        refine (tell_over g _ x _ hA5 rfl).mono ?_
        rintro e w6 ⟨rfl, hA6, hx6⟩
        have hx60 := hx50.trans' hx6 HN.out
        have hO6 := Blk.kept hO5 hx6 hgo
        have b6 := Blk.ext HB.out hx60
        have hc6 := Blk.cell b6
        go_wp2_with fail
        refine (choose_over g _ f _ hA6 rfl).mono ?_
        rintro e w7 ⟨rfl, hA7, hx7⟩
        have hx70 := hx60.trans' hx7 HN.out
        have hO7 := Blk.kept hO6 hx7 hgo
        go_wp2_with fail
        refine (prove_over g _ _ _ hA7 rfl).mono ?_
        rintro e w8 ⟨rfl, hx8⟩
        have hx80 := hx70.trans hx8
        have hO8 := Blk.ext hO7 hx8
        have hA8 := Blk.ext hA7 hx8
        go_wp2_with fail
        refine (silence_over' g _ _ hA8 rfl).mono ?_
        rintro e w9 ⟨rfl, hA9, hx9⟩
        have hx90 := hx80.trans' hx9 HN.out
        have hO9 := Blk.kept hO8 hx9 hgo
        go_wp2_with fail
        refine (same_yes g o _ _ hA9 hO9).mono ?_
        rintro e w10 ⟨rfl, hx10⟩
        go_wp2_with fail
        refine (told_any _).mono ?_
        rintro e w11 ⟨rfl, hx11⟩
        go_wp2_with fail
        go_ret
        exact ⟨rfl, ((hx0.trans hx90).trans hx10).trans hx11⟩
end Go.Proofs.YtahljceanodhkaaGreatDoor
