/- Package hash: the end of bytes taken in; bytes; Of; Word. -/
import Derived.Test.YtahljceanodhkaaGreatDoorHd
namespace Go.Proofs.YtahljceanodhkaaGreatDoor
open Go.RowKit
abbrev dg1' : Dg := ⟨1, 0, 0, 0, 0, 0, 0, 0⟩
theorem dg1_ok : dg1'.ok := by
  intro j
  match j with
  | 0 | 1 | 2 | 3 | 4 | 5 | 6 | 7 => simp [dgx]
  | n + 8 => simp [dgx]
set_option maxRecDepth 100000 in
set_option maxHeartbeats 1000000 in
theorem end_rest (s0 : Nat) (s : St) (b off cap : Nat) (l : List Int) (n : Nat) (hn : n = l.length) (hl : n ≤ cap) (hcap : cap ≤ 9223372036854775807) (hok : BytesOk l) (w : World) (hs : Blk w s0 262 s.cells) (hr : Row w b off (byts l)) (hm : 0 < n % 8) :
    Calls Tryz.prog 227 #[.pointer (some ⟨s0, 0, none⟩), .slice (some ⟨b, off, none⟩) n cap] w fun e w' => e = .returned (.tuple #[]) ∧ Blk w' s0 262 (taken (taken s (numD (padK l))) n).cells ∧ Kept (· = s0) w w' := by
  have HO := Lib.hid hok
  have HN := Lib.hid hn
  clear hok hn
  go_enter Tryz.func227, Tryz.ntmps227
  go_wp2_with fail
  have hW0 := Blk.new w 30 #[.int .u8 0, .int .u8 0, .int .u8 0, .int .u8 0, .int .u8 0, .int .u8 0, .int .u8 0, .int .u8 0]
  have hx0 : Ext w _ := (Kept.refl _ w).alloc (.cells #[.int .u8 0, .int .u8 0, .int .u8 0, .int .u8 0, .int .u8 0, .int .u8 0, .int .u8 0, .int .u8 0] 30)
  have hs0 := Blk.lt hs
  have hb0 := hr.lt
  generalize w.alloc (.cells #[.int .u8 0, .int .u8 0, .int .u8 0, .int .u8 0, .int .u8 0, .int .u8 0, .int .u8 0, .int .u8 0] 30) = W at hW0 hx0 ⊢
  generalize hg : w.heap.size = g at *
  have hcc : ¬ cap = n / 8 * 8 := by omega
  have hlo : n / 8 * 8 ≤ n := by omega
  have hh := Blk.has hW0
  have hme := Blk.melts hW0
  have hq1 : (0 : Int) ≤ (n : Int) / 8 * 8 := by omega
  have hq2 : ((n : Int) / 8 * 8).toNat = n / 8 * 8 := by omega
  have hq3 : ((n : Int) / 8 * 8) ≤ n := by omega
  have hw1 : IntKind.i64.wrap ((n : Int) / 8) = (n : Int) / 8 := IntWalk.i64_in _ (by omega)
  have hw2 : IntKind.i64.wrap ((n : Int) / 8 * 8) = (n : Int) / 8 * 8 := IntWalk.i64_in _ (by omega)
  obtain ⟨r, hre⟩ : ∃ r, r = (l.drop (n / 8 * 8)).length := ⟨_, rfl⟩
  have hr8 : r = n % 8 := by have := HN.out; simp at hre; omega
  have hrow : Row W.drew b (off + n / 8 * 8) (byts (l.drop (n / 8 * 8))) := by
    have h1 := (hr.ext hx0).sub (n / 8 * 8) (n - n / 8 * 8) (by rw [byts_length]; have := HN.out; omega)
    have e : ((byts l).drop (n / 8 * 8)).take (n - n / 8 * 8) = byts (l.drop (n / 8 * 8)) := by
      rw [List.take_of_length_le (by simp [byts]; have := HN.out; omega)]; simp [byts, List.map_drop]
    have e2 : (byts (l.drop (n / 8 * 8))).length = n - n / 8 * 8 := by rw [byts_length]; simp; have := HN.out; omega
    refine ⟨by rw [e2]; exact h1.1, by rw [e2, ← e]; exact h1.2, Nat.lt_of_lt_of_le hr.lt hx0.size⟩
  have hcp := copyR W.drew 3 g 0 8 8 b (off + n / 8 * 8) (n - n / 8 * 8) (cap - n / 8 * 8) (byts (l.drop (n / 8 * 8))) (by rw [byts_length, ← hre]; simp only [Nat.min_def]; split <;> omega) hrow (byts_flat _) (by rw [has_drew, Blk.has hW0]; rw [byts_length]; simp only [← hre]; simp; omega) hme
  rw [byts_length, ← hre] at hcp
  clear hrow
  have HE := Lib.hid hre
  have H8 := Lib.hid hr8
  have hrl : r < 8 := by omega
  clear hre hr8
  have hB1 := Blk.put_ (Blk.drew hW0) 0 (byts (l.drop (n / 8 * 8))).toArray
  have hx1 : Kept (· = g) W (putAt W.drew g 0 (byts (l.drop (n / 8 * 8))).toArray) := Kept.putAt ((Kept.refl _ W).drew) g 0 _ (fun _ => rfl)
  generalize hX : (byts (l.drop (n / 8 * 8))).toArray = X at hcp hB1 hx1
  have HX := Lib.hid hX
  clear hX
  generalize putAt W.drew g 0 X = W1 at hcp hB1 hx1
  refine wp_region_3 (fun _ => True) [(0, 2), (1, 2), (2, 2), (3, 2), (4, 2), (5, 2), (6, 2), (7, 0), (8, 2)] (by kernel_rfl) (by kernel_rfl) (by kernel_rfl) (by kernel_rfl) ?_; intro l' hl'; simp only [List.map_cons, List.map_nil, List.getD_cons_zero, List.getD_cons_succ] at hl'; subst hl'
  (repeat (first | ((apply w3_pure); (· go_simp); (· (intro w1; go_simp; try with_reducible rfl)); (intro K hK; go_simp; refine hK _ _ ?_; clear hK K)) | ((apply w3_skip); (· go_simp); (intro K hK; go_simp; refine hK _ _ ?_; clear hK K)) | ((apply w3_take); (· exact trivial); (· go_simp); (· (intro w1 hS;  go_simp; try with_reducible rfl)); (intro K hK; go_simp; refine hK _ _ ?_; clear hK K)) | ((apply w3_pass); (· exact trivial); (· go_simp); (intro K hK; go_simp; refine hK _ _ ?_; clear hK K))))
  (refine w3_act (fun K hK => ?_); go_simp)
  refine hK.out _ _ (fun _ => trivial) ?_
  clear hK K
  (repeat (first | ((apply w3_pure); (· go_simp); (· (intro w1; go_simp; try with_reducible rfl)); (intro K hK; go_simp; refine hK _ _ ?_; clear hK K)) | ((apply w3_skip); (· go_simp); (intro K hK; go_simp; refine hK _ _ ?_; clear hK K)) | (refine w3_end (by kernel_rfl) (fun K hK => ?_); go_simp; refine hK.out _ _ ?_; clear hK K))); refine w3_nil ?_
  clear hcp hw1 hw2 hq1 hq2 hq3 hh hme
  have hc1 := Blk.cell hB1
  have hf1 := Blk.frozen hB1
  have hsz : (splice Dg.zero.cells 0 X).size = 8 := by
    rw [← HX.out, splice_size]
    · rfl
    · simp [byts]; have := HE.out; simp at this; omega
  obtain ⟨v0, hv0⟩ : ∃ v0, (splice Dg.zero.cells 0 X)[r]? = some v0 := ⟨_, Array.getElem?_eq_getElem (by omega)⟩
  have hcr : W1.cell? ⟨g, r, none⟩ = some v0 := by rw [← hv0]; exact hc1 r
  clear hc1
  go_upto_region 3 with (fail)
  have hB2 := Blk.set_ hB1 r (.int .u8 1)
  have hpad : (splice Dg.zero.cells 0 X).setIfInBounds r (.int .u8 1) = (padK l).cells := by
    rw [← HX.out, HE.out]
    have := pad_cells (l.drop (n / 8 * 8)) (by rw [← HE.out]; exact hrl)
    rw [HN.out] at this ⊢
    exact this
  rw [hpad] at hB2
  have hx2 : Kept (· = g) W (W1.setCell ⟨g, r, none⟩ (.int .u8 1)) := Kept.setCell hx1 _ _ (fun _ => rfl)
  clear hpad hcr hv0 hsz hB1 hx1 hf1
  generalize W1.setCell ⟨g, r, none⟩ (.int .u8 1) = W2 at hB2 hx2 ⊢
  have hh2 := Blk.has hB2
  have hg2 := Blk.gets hB2
  have hok2 : (padK l).ok := by
    apply dgOf_ok
    intro x hx
    rcases List.mem_append.1 hx with h | h
    · exact HO.out.drop _ x h
    · simp at h; subst h; omega
  have HO2 := Lib.hid hok2
  clear hok2
  go_wp2_with fail
  refine (num_any (padK l) HO2.out _).mono ?_
  rintro e w3 ⟨rfl, hx3⟩
  have hs3 := Blk.ext (Blk.kept (Blk.ext hs hx0) hx2 (by omega)) hx3
  go_wp2_with fail
  refine (take_any _ _ _ _ hs3).mono ?_
  rintro e w4 ⟨rfl, hs4, hx4⟩
  go_wp2_with fail
  refine (take_any _ _ _ _ hs4).mono ?_
  rintro e w5 ⟨rfl, hs5, hx5⟩
  go_wp2_with fail
  go_end0
  refine ⟨rfl, hs5, ?_⟩
  have k1 : Ext w W2 := hx0.trans' hx2 (fun i hi e => by omega)
  exact ((Kept.ext (k1.trans hx3)).trans hx4).trans hx5
set_option maxRecDepth 100000 in
set_option maxHeartbeats 1000000 in
theorem end_whole (s0 : Nat) (s : St) (A : Option Addr) (cap : Nat) (l : List Int) (n : Nat) (hn : n = l.length) (hl : n ≤ cap) (hcap : cap ≤ 9223372036854775807) (w : World) (hs : Blk w s0 262 s.cells) (hA : (A = none ∧ n = 0 ∧ cap = 0) ∨ ∃ b off, A = some ⟨b, off, none⟩) (hm : n % 8 = 0) :
    Calls Tryz.prog 227 #[.pointer (some ⟨s0, 0, none⟩), .slice A n cap] w fun e w' => e = .returned (.tuple #[]) ∧ Blk w' s0 262 (taken (taken s (numD (padK l))) n).cells ∧ Kept (· = s0) w w' := by
  have hpad : padK l = dg1' := by
    unfold padK
    rw [List.drop_of_length_le (by omega)]
    rfl
  rw [hpad]
  clear hpad hn
  have hlo : n / 8 * 8 = n := by omega
  have hs0 := Blk.lt hs
  have hcases : (A = none ∧ n = 0 ∧ cap = 0) ∨ ∃ b off, A = some ⟨b, off, none⟩ ∧ (cap = n ∨ ¬ cap = n) := by
    rcases hA with h | ⟨b, off, h⟩
    · exact .inl h
    · exact .inr ⟨b, off, h, by omega⟩
  clear hA
  have hq1 : (0 : Int) ≤ (n : Int) / 8 * 8 := by omega
  have hq2 : ((n : Int) / 8 * 8) = n := by omega
  have HM := Lib.hid hm
  clear hm
  have hw1 : IntKind.i64.wrap ((n : Int) / 8) = (n : Int) / 8 := IntWalk.i64_in _ (by omega)
  have hw3 : IntKind.i64.wrap (n : Int) = (n : Int) := IntWalk.i64_in _ (by omega)
  clear hlo
  have hw0 : IntKind.i64.wrap 0 = 0 := by decide
  rcases hcases with ⟨rfl, rfl, rfl⟩ | ⟨b, off, rfl, rfl | hne⟩
  all_goals
    go_enter Tryz.func227, Tryz.ntmps227
    go_wp2_with fail
    refine wp_region_3 (fun _ => True) [(0, 2), (1, 2), (2, 2), (3, 2), (4, 2), (5, 2), (6, 2), (7, 0), (8, 2)] (by kernel_rfl) (by kernel_rfl) (by kernel_rfl) (by kernel_rfl) ?_; intro l' hl'; simp only [List.map_cons, List.map_nil, List.getD_cons_zero, List.getD_cons_succ] at hl'; subst hl'
    (repeat (first | ((apply w3_pure); (· go_simp); (· (intro w1; go_simp; try with_reducible rfl)); (intro K hK; go_simp; refine hK _ _ ?_; clear hK K)) | ((apply w3_skip); (· go_simp); (intro K hK; go_simp; refine hK _ _ ?_; clear hK K)) | ((apply w3_take); (· exact trivial); (· go_simp); (· (intro w1 hS;  go_simp; try with_reducible rfl)); (intro K hK; go_simp; refine hK _ _ ?_; clear hK K)) | ((apply w3_pass); (· exact trivial); (· go_simp); (intro K hK; go_simp; refine hK _ _ ?_; clear hK K))))
    (refine w3_act (fun K hK => ?_); go_simp)
    simp only [copy0, Nat.sub_self] 
    go_simp
    refine hK.out _ _ (fun _ => trivial) ?_
    clear hK K
    (repeat (first | ((apply w3_pure); (· go_simp); (· (intro w1; go_simp; try with_reducible rfl)); (intro K hK; go_simp; refine hK _ _ ?_; clear hK K)) | ((apply w3_skip); (· go_simp); (intro K hK; go_simp; refine hK _ _ ?_; clear hK K)) | (refine w3_end (by kernel_rfl) (fun K hK => ?_); go_simp; refine hK.out _ _ ?_; clear hK K))); refine w3_nil ?_
    clear hw1 hw3 hq1 hq2 hw0
    go_wp2_with fail
    refine (num_any dg1' dg1_ok _).mono ?_
    rintro e w3 ⟨rfl, hx3⟩
    have hs3 := Blk.ext (Blk.drew (Blk.alloc hs _)) hx3
    go_wp2_with fail
    refine (take_any _ _ _ _ hs3).mono ?_
    rintro e w4 ⟨rfl, hs4, hx4⟩
    go_wp2_with fail
    refine (take_any _ _ _ _ hs4).mono ?_
    rintro e w5 ⟨rfl, hs5, hx5⟩
    go_wp2_with fail
    go_end0
    refine ⟨rfl, hs5, ?_⟩
    have k1 : Ext w w3 := (((Kept.refl _ w).alloc _).drew).trans hx3
    exact ((Kept.ext k1).trans hx4).trans hx5
/-- a slice of bytes: nil, or cells in memory -/
structure SlB (w : World) (A : Option Addr) (n cap : Nat) (l : List Int) : Prop where
  len : n = l.length
  le : n ≤ cap
  mx : cap ≤ 9223372036854775807
  ok : BytesOk l
  at_ : (A = none ∧ n = 0 ∧ cap = 0) ∨ ∃ b off, A = some ⟨b, off, none⟩ ∧ (0 < n → Row w b off (byts l))
theorem SlB.kept {S : Nat → Prop} {w w' : World} {A : Option Addr} {n cap : Nat} {l : List Int} (h : SlB w A n cap l) (hk : Kept S w w') (hs : ∀ b off, A = some ⟨b, off, none⟩ → 0 < n → ¬ S b) : SlB w' A n cap l := by
  refine ⟨h.len, h.le, h.mx, h.ok, ?_⟩
  rcases h.at_ with h1 | ⟨b, off, rfl, hr⟩
  · exact .inl h1
  · exact .inr ⟨b, off, rfl, fun hn => (hr hn).kept hk (hs b off rfl hn)⟩
theorem SlB.ext {w w' : World} {A : Option Addr} {n cap : Nat} {l : List Int} (h : SlB w A n cap l) (hk : Ext w w') : SlB w' A n cap l := h.kept hk (fun _ _ _ _ f => f)
theorem end_any (s0 : Nat) (s : St) (A : Option Addr) (cap : Nat) (l : List Int) (n : Nat) (w : World) (hs : Blk w s0 262 s.cells) (hb : SlB w A n cap l) :
    Calls Tryz.prog 227 #[.pointer (some ⟨s0, 0, none⟩), .slice A n cap] w fun e w' => e = .returned (.tuple #[]) ∧ Blk w' s0 262 (taken (taken s (numD (padK l))) n).cells ∧ Kept (· = s0) w w' := by
  by_cases hm : n % 8 = 0
  · refine end_whole s0 s A cap l n hb.len hb.le hb.mx w hs ?_ hm
    rcases hb.at_ with h | ⟨b, off, h, _⟩
    · exact .inl h
    · exact .inr ⟨b, off, h⟩
  · rcases hb.at_ with ⟨_, h, _⟩ | ⟨b, off, rfl, hr⟩
    · subst h; exact absurd rfl hm
    · exact end_rest s0 s b off cap l n hb.len hb.le hb.mx hb.ok w hs (hr (by omega)) (by omega)
theorem whole_sl (s0 : Nat) (s : St) (A : Option Addr) (cap : Nat) (l : List Int) (n : Nat) (w : World) (hs : Blk w s0 262 s.cells) (hb : SlB w A n cap l) (hne : ∀ b off, A = some ⟨b, off, none⟩ → 0 < n → ¬ b = s0) :
    Calls Tryz.prog 226 #[.pointer (some ⟨s0, 0, none⟩), .slice A n cap] w fun e w' => e = .returned (.tuple #[]) ∧ Blk w' s0 262 (wholeK s l (n / 8)).cells ∧ Kept (· = s0) w w' := by
  rcases hb.at_ with ⟨h1, h2, _⟩ | ⟨b, off, rfl, hr⟩
  · exact whole_any s0 s A 0 0 cap l n hb.len hb.le hb.mx hb.ok w hs (fun h => by omega) (fun h => by omega) (fun h => by omega)
  · exact whole_any s0 s _ b off cap l n hb.len hb.le hb.mx hb.ok w hs (fun _ => rfl) hr (fun h => hne b off rfl h)
set_option maxHeartbeats 400000 in
theorem bytes_any (s0 : Nat) (s : St) (A : Option Addr) (cap : Nat) (l : List Int) (n : Nat) (w : World) (hs : Blk w s0 262 s.cells) (hb : SlB w A n cap l) (hne : ∀ b off, A = some ⟨b, off, none⟩ → 0 < n → ¬ b = s0) :
    Calls Tryz.prog 194 #[.pointer (some ⟨s0, 0, none⟩), .slice A n cap] w fun e w' => e = .returned (.tuple #[]) ∧ Blk w' s0 262 (bytesS s l).cells ∧ Kept (· = s0) w w' := by
  have HB := Lib.hid hb
  have HN := Lib.hid hne
  clear hb hne
  go_enter Tryz.func194, Tryz.ntmps194
  go_wp2_with fail
  refine (whole_sl s0 s A cap l n w hs HB.out HN.out).mono ?_
  rintro e w1 ⟨rfl, hs1, hx1⟩
  go_wp2_with fail
  refine (end_any s0 _ A cap l n w1 hs1 (HB.out.kept hx1 HN.out)).mono ?_
  rintro e w2 ⟨rfl, hs2, hx2⟩
  go_wp2_with fail
  go_end0
  refine ⟨rfl, ?_, hx1.trans hx2⟩
  unfold bytesS
  rw [← HB.out.len]
  exact hs2
def hOf (l : List Int) : Dg := out (bytesS (bg 1) l)
def hWord (d : Dg) (l : List Int) : Dg := out (bytesS (taken (bg 4) (numD d)) l)
set_option maxHeartbeats 400000 in
theorem of_any (A : Option Addr) (cap : Nat) (l : List Int) (n : Nat) (w : World) (hb : SlB w A n cap l) (hlt : ∀ b off, A = some ⟨b, off, none⟩ → 0 < n → b < w.heap.size) :
    Calls Tryz.prog 141 #[.slice A n cap] w fun e w' => e = .returned (.agg (hOf l).cells) ∧ Ext w w' := by
  have HB := Lib.hid hb
  have HN := Lib.hid hlt
  clear hb hlt
  have hx0 : Ext w _ := (Kept.refl _ w).alloc (.cells Dg.zero.cells 30)
  have hR0 := Blk.new w 30 Dg.zero.cells
  go_enter Tryz.func141, Tryz.ntmps141
  go_wp2_with fail
  refine (begin_any 1 _).mono ?_
  rintro e w1 ⟨rfl, hx1⟩
  have hsz := (hx0.trans hx1).size
  go_wp2_with fail
  refine (bytes_any _ (bg 1) A cap l n _ (Blk.new w1 _ _) (HB.out.ext ((hx0.trans hx1).alloc _)) (fun b off h1 h2 => by have := HN.out b off h1 h2; omega)).mono ?_
  rintro e w2 ⟨rfl, hs2, hx2⟩
  have hx20 : Ext w1 w2 := ((Kept.refl _ w1).alloc _).trans' hx2 (fun i hi e => by omega)
  go_wp2_with fail
  refine (gives_any _ _ _ hs2).mono ?_
  rintro e w3 ⟨rfl, hx3⟩
  have hR3 := Blk.ext (Blk.ext hR0 hx1) (hx20.trans hx3)
  have hh3 := Blk.has hR3
  have hm3 := Blk.melts hR3
  go_wp2_with fail
  refine ret_cell Tryz.results141 rfl rfl aggDig (by exact sizeDig) (Blk.put_ hR3 _ _) ⟨rfl, ?_⟩
  exact Kept.putAt (((hx0.trans hx1).trans hx20).trans hx3) _ _ _ (fun h => by omega)
end Go.Proofs.YtahljceanodhkaaGreatDoor
