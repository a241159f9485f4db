/- Package hash: Two; a slice of digests, and Many. -/
import Derived.Test.YtahljceanodhkaaGreatDoorHb
namespace Go.Proofs.YtahljceanodhkaaGreatDoor
open Go.RowKit
abbrev bg (k : Int) : St := ⟨2611923443488327891, 1376283091369227076, 11820040416388919760, k⟩
def hTwo (a b : Dg) : Dg := out (taken (taken (bg 3) (numD a)) (numD b))
set_option maxRecDepth 100000 in
set_option maxHeartbeats 1000000 in
theorem two_any (a b : Dg) (ha : a.ok) (hb : b.ok) (w : World) : Calls Tryz.prog 193 #[.agg #[.int .u8 a.x0, .int .u8 a.x1, .int .u8 a.x2, .int .u8 a.x3, .int .u8 a.x4, .int .u8 a.x5, .int .u8 a.x6, .int .u8 a.x7], .agg #[.int .u8 b.x0, .int .u8 b.x1, .int .u8 b.x2, .int .u8 b.x3, .int .u8 b.x4, .int .u8 b.x5, .int .u8 b.x6, .int .u8 b.x7]] w fun e w' => e = .returned (.agg (hTwo a b).cells) ∧ Ext w w' := by
  have HA := Lib.hid ha
  have HB := Lib.hid hb
  clear ha hb
  have hx0 : Ext w _ := (((Kept.refl _ w).alloc (.cells #[.int .u8 a.x0, .int .u8 a.x1, .int .u8 a.x2, .int .u8 a.x3, .int .u8 a.x4, .int .u8 a.x5, .int .u8 a.x6, .int .u8 a.x7] 30)).alloc (.cells #[.int .u8 b.x0, .int .u8 b.x1, .int .u8 b.x2, .int .u8 b.x3, .int .u8 b.x4, .int .u8 b.x5, .int .u8 b.x6, .int .u8 b.x7] 30)).alloc (.cells Dg.zero.cells 30)
  have hB0 : Blk _ (w.heap.size + 1) 30 b.cells := Blk.alloc (Blk.new' (w.alloc (.cells #[.int .u8 a.x0, .int .u8 a.x1, .int .u8 a.x2, .int .u8 a.x3, .int .u8 a.x4, .int .u8 a.x5, .int .u8 a.x6, .int .u8 a.x7] 30)) _ _ _ (by simp)) (.cells Dg.zero.cells 30)
  have hA0 : Blk _ w.heap.size 30 a.cells := Blk.alloc (Blk.alloc (Blk.new w _ _) (.cells #[.int .u8 b.x0, .int .u8 b.x1, .int .u8 b.x2, .int .u8 b.x3, .int .u8 b.x4, .int .u8 b.x5, .int .u8 b.x6, .int .u8 b.x7] 30)) (.cells Dg.zero.cells 30)
  have hR0 : Blk _ (w.heap.size + 1 + 1) 30 Dg.zero.cells := Blk.new' ((w.alloc (.cells #[.int .u8 a.x0, .int .u8 a.x1, .int .u8 a.x2, .int .u8 a.x3, .int .u8 a.x4, .int .u8 a.x5, .int .u8 a.x6, .int .u8 a.x7] 30)).alloc (.cells #[.int .u8 b.x0, .int .u8 b.x1, .int .u8 b.x2, .int .u8 b.x3, .int .u8 b.x4, .int .u8 b.x5, .int .u8 b.x6, .int .u8 b.x7] 30)) _ _ _ (by simp)
  go_enter Tryz.func193, Tryz.ntmps193
  go_wp2_with fail
  refine (begin_any 3 _).mono ?_
  rintro e w1 ⟨rfl, hx1⟩
  have hA1 := Blk.ext hA0 hx1
  have hB1 := Blk.ext hB0 hx1
  have hR1 := Blk.ext hR0 hx1
  have hl1 := Blk.lt hA1
  have hh1 := Blk.has hA1
  have hg1 := Blk.gets hA1
  go_wp2_with fail
  refine (num_any a HA.out _).mono ?_
  rintro e w2 ⟨rfl, hx2⟩
  have hs2 := Blk.ext (Blk.new w1 262 (bg 3).cells) hx2
  go_wp2_with fail
  refine (take_any _ _ _ _ hs2).mono ?_
  rintro e w3 ⟨rfl, hs3, hx3⟩
  have hx30 : Ext w1 w3 := (((Kept.refl _ w1).alloc _).trans hx2).trans' hx3 (fun i hi e => by omega)
  have hB3 := Blk.ext hB1 hx30
  have hh3 := Blk.has hB3
  have hg3 := Blk.gets hB3
  go_wp2_with fail
  refine (num_any b HB.out _).mono ?_
  rintro e w4 ⟨rfl, hx4⟩
  go_wp2_with fail
  refine (take_any _ _ _ _ (Blk.ext hs3 hx4)).mono ?_
  rintro e w5 ⟨rfl, hs5, hx5⟩
  have hx50 : Ext w1 w5 := (hx30.trans hx4).trans' hx5 (fun i hi e => by omega)
  go_wp2_with fail
  refine (gives_any _ _ _ hs5).mono ?_
  rintro e w6 ⟨rfl, hx6⟩
  have hR6 := Blk.ext hR1 (hx50.trans hx6)
  have hh6 := Blk.has hR6
  have hm6 := Blk.melts hR6
  go_wp2_with fail
  refine ret_cell Tryz.results193 rfl rfl aggDig (by exact sizeDig) (Blk.put_ hR6 _ _) ⟨rfl, ?_⟩
  exact Kept.putAt (((hx0.trans hx1).trans hx50).trans hx6) _ _ _ (fun h => by omega)
/-! ### cells in memory, from a place on -/
structure Row (w : World) (b off : Nat) (vs : List Value) : Prop where
  has : has w b off vs.length = true
  get : gets w b off vs.length = vs.toArray
  lt : b < w.heap.size
section
variable {w w' : World} {b off : Nat} {vs : List Value}
theorem Row.inv (h : Row w b off vs) : ∃ c t fr, w.heap[b]? = some (.cells c t fr) ∧ off + vs.length ≤ c.size ∧ (c.toList.drop off).take vs.length = vs := by
  have h1 := h.has
  have h2 := h.get
  unfold Proofs.YtahljceanodhkaaGreatDoor.has at h1
  unfold gets at h2
  split at h1
  · rename_i c t fr hq
    rw [hq] at h2
    exact ⟨c, t, fr, hq, of_decide_eq_true h1, by simpa using h2⟩
  · cases h1
theorem Row.kept {S : Nat → Prop} (h : Row w b off vs) (hk : Kept S w w') (hs : ¬ S b) : Row w' b off vs := by
  have hb := hk.block b h.lt hs
  refine ⟨?_, ?_, Nat.lt_of_lt_of_le h.lt hk.size⟩
  · have := h.has; unfold Proofs.YtahljceanodhkaaGreatDoor.has at this ⊢; rw [hb]; exact this
  · have := h.get; unfold gets at this ⊢; rw [hb]; exact this
theorem Row.ext (h : Row w b off vs) (hk : Ext w w') : Row w' b off vs := h.kept hk (fun f => f)
theorem Row.sub (h : Row w b off vs) (j m : Nat) (hj : j + m ≤ vs.length) : Proofs.YtahljceanodhkaaGreatDoor.has w b (off + j) m = true ∧ gets w b (off + j) m = ((vs.drop j).take m).toArray := by
  obtain ⟨c, t, fr, hq, hle, htk⟩ := h.inv
  unfold Proofs.YtahljceanodhkaaGreatDoor.has gets
  rw [hq]
  refine ⟨by simp; omega, ?_⟩
  show ((c.toList.drop (off + j)).take m).toArray = _
  rw [← htk, List.drop_take, List.take_take, List.drop_drop, Nat.min_eq_left (by omega)]
theorem Row.cell (h : Row w b off vs) (i : Nat) (hi : i < vs.length) : w.cell? ⟨b, off + i, none⟩ = vs[i]? := by
  obtain ⟨c, t, fr, hq, hle, htk⟩ := h.inv
  rw [cell_of_row w b (off + i) c t fr hq, ← htk, List.getElem?_take, if_pos hi, List.getElem?_drop]
  simp
theorem Row.of_blk {t : TypeId} {cs : Array Value} (h : Blk w b t cs) : Row w b 0 cs.toList := by
  refine ⟨by rw [Blk.has h]; simp, ?_, Blk.lt h⟩
  rw [Blk.gets h]
  simp [List.take_of_length_le]
end
/-- digests in memory -/
def digs (l : List Dg) : List Value := l.flatMap fun d => d.cells.toList
theorem digs_length (l : List Dg) : (digs l).length = l.length * 8 := by
  induction l with
  | nil => rfl
  | cons d l ih => simp only [digs, List.flatMap_cons, List.length_append] at ih ⊢; rw [ih]; simp; omega
theorem digs_at : ∀ (l : List Dg) (k : Nat) (hk : k < l.length), ((digs l).drop (k * 8)).take 8 = (l[k]).cells.toList
  | d :: l, 0, _ => by simp [digs]
  | d :: l, k + 1, hk => by
    have ih := digs_at l k (by simpa using hk)
    have e : (digs (d :: l)).drop ((k + 1) * 8) = (digs l).drop (k * 8) := by
      rw [show (k + 1) * 8 = 8 + k * 8 by omega, ← List.drop_drop]
      rfl
    rw [e, ih]
    simp
theorem Row.dig {w : World} {b off : Nat} {l : List Dg} (h : Row w b off (digs l)) (k : Nat) (hk : k < l.length) : Proofs.YtahljceanodhkaaGreatDoor.has w b (off + k * 8) 8 = true ∧ gets w b (off + k * 8) 8 = (l[k]).cells := by
  have := h.sub (k * 8) 8 (by rw [digs_length]; omega)
  rw [digs_at l k hk] at this
  simpa using this
def manyS (l : List Dg) : St := l.foldl (fun s d => taken s (numD d)) (bg 5)
def hMany (l : List Dg) : Dg := out (taken (manyS l) l.length)
theorem manyS_take (l : List Dg) (k : Nat) (hk : k < l.length) : manyS (l.take (k + 1)) = taken (manyS (l.take k)) (numD l[k]) := by
  unfold manyS
  rw [List.take_succ_eq_append_getElem hk, List.foldl_append]
  rfl
set_option maxRecDepth 100000 in
set_option maxHeartbeats 1000000 in
theorem many_any (A : Option Addr) (b off cap : Nat) (l : List Dg) (hl : l.length ≤ 9223372036854775807) (hok : ∀ d ∈ l, d.ok) (w : World) (hA : 0 < l.length → A = some ⟨b, off, none⟩) (hr : 0 < l.length → Row w b off (digs l)) :
    Calls Tryz.prog 128 #[.slice A l.length cap] w fun e w' => e = .returned (.agg (hMany l).cells) ∧ Ext w w' := by
  have HO := Lib.hid hok
  have HA := Lib.hid hA
  have HR := Lib.hid hr
  clear hok hA hr
  have hx0 : Ext w _ := (Kept.refl _ w).alloc (.cells Dg.zero.cells 30)
  have hR0 := Blk.new w 30 Dg.zero.cells
  obtain ⟨n, hn⟩ : ∃ n, n = l.length := ⟨_, rfl⟩
  rw [← hn] at hl ⊢
  have HNn := Lib.hid hn
  clear hn
  go_enter Tryz.func128, Tryz.ntmps128
  go_wp2_with fail
  refine (begin_any 5 _).mono ?_
  rintro e w1 ⟨rfl, hx1⟩
  go_wp2_with fail
  have hs1 := Blk.new w1 262 (bg 5).cells
  go_loopw [9] (fun i wr => ∃ k : Nat, k ≤ n ∧ i = .int .i64 k ∧ Blk wr w1.heap.size 262 (manyS (l.take k)).cells ∧ Ext w1 wr) (fun i _ => n - (intOf i).toNat)
  case atStart => exact ⟨0, by omega, rfl, hs1, (Kept.refl _ _).alloc _⟩
  case round =>
    obtain ⟨k, hk, rfl, hs, hx⟩ := hrel
    clear hs1
    by_cases hlt : k < n
    · have hkl : k < l.length := by have := HNn.out; omega
      obtain rfl := HA.out (by omega)
      have hrow := ((HR.out (by omega)).ext ((hx0.trans hx1).trans hx)).dig k hkl
      obtain ⟨hrh, hrg⟩ := hrow
      have hbl := Nat.lt_of_lt_of_le (HR.out (by omega)).lt ((hx0.trans hx1).trans hx).size
      go_wp2_with fail
      refine (num_any l[k] (HO.out _ (List.getElem_mem hkl)) _).mono ?_
      rintro e w2 ⟨rfl, hx2⟩
      go_wp2_with fail
      refine (take_any _ _ _ _ (Blk.ext (Blk.alloc hs _) hx2)).mono ?_
      rintro e w3 ⟨rfl, hs3, hx3⟩
      go_wp2_with fail
      go_roundw
      case rel => exact ⟨k + 1, by omega, by go_num, by rw [manyS_take l k hkl]; exact hs3, ((hx.alloc _).trans hx2).trans' hx3 (fun i hi e => by omega)⟩
      case measure => (simp only [intOf]; omega)
    · have hkn : k = l.length := by have := HNn.out; omega
      have HK := Lib.hid hkn
      clear hkn
      go_wp2_with fail
      refine (take_any _ _ _ _ hs).mono ?_
      rintro e w2 ⟨rfl, hs2, hx2⟩
      have hx20 : Ext w1 w2 := hx.trans' hx2 (fun i hi e => by omega)
      go_wp2_with fail
      refine (gives_any _ _ _ hs2).mono ?_
      rintro e w3 ⟨rfl, hx3⟩
      have hR3 := Blk.ext (Blk.ext hR0 hx1) (hx20.trans hx3)
      have hh3 := Blk.has hR3
      have hm3 := Blk.melts hR3
      go_wp2_with fail
      refine ret_cell Tryz.results128 rfl rfl aggDig (by exact sizeDig) (Blk.put_ hR3 _ _) ⟨?_, ?_⟩
      · unfold hMany
        rw [HK.out, List.take_length, HNn.out]
        rfl
      · exact Kept.putAt (((hx0.trans hx1).trans hx20).trans hx3) _ _ _ (fun h => by omega)
end Go.Proofs.YtahljceanodhkaaGreatDoor
