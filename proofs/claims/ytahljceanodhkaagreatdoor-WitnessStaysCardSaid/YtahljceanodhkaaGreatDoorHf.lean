/- Package hash: Word. -/
import Derived.Test.YtahljceanodhkaaGreatDoorHe
import Derived.Lib.ConvBytes
namespace Go.Proofs.YtahljceanodhkaaGreatDoor
open Go.RowKit
def strB (s : ByteArray) : List Int := s.data.toList.map fun b => (b.toNat : Int)
theorem strB_length (s : ByteArray) : (strB s).length = s.size := by simp [strB]
theorem strB_ok (s : ByteArray) : BytesOk (strB s) := by
  intro x hx
  simp only [strB, List.mem_map] at hx
  obtain ⟨b, _, rfl⟩ := hx
  have := b.toNat_lt
  omega
theorem bytesWorld_ext (w : World) (e : TypeId) (s : ByteArray) : Ext w (Lib.bytesWorld w e s) :=
  ⟨rfl, rfl, rfl, by rw [Lib.bytesWorld_size]; omega, fun k hk _ => Lib.bytesWorld_at_old w e s k hk⟩
theorem bytesWorld_row (w : World) (e : TypeId) (s : ByteArray) : Row (Lib.bytesWorld w e s) w.heap.size 0 (byts (strB s)) := by
  have hl : (byts (strB s)).length = s.size := by rw [byts_length, strB_length]
  have hc : (Lib.bytesCells w e s).size = s.size + (grownCap w s.size 0 e - s.size) := by simp [Lib.bytesCells]
  refine ⟨?_, ?_, by rw [Lib.bytesWorld_size]; omega⟩
  · unfold has; rw [Lib.bytesWorld_at_new, hl]; simp [hc]
  · unfold gets; rw [Lib.bytesWorld_at_new, hl]
    simp only [List.drop_zero]
    congr 1
    simp only [Lib.bytesCells, Array.toList_append, Array.toList_map]
    rw [List.take_append_of_le_length (by simp), List.take_of_length_le (by simp)]
    simp [byts, strB]
theorem bytesWorld_sl (w : World) (e : TypeId) (s : ByteArray) (hs : s.size ≤ maxLen) : SlB (Lib.bytesWorld w e s) (some ⟨w.heap.size, 0, none⟩) s.size (grownCap w s.size 0 e) (strB s) :=
  ⟨(strB_length s).symm, grownCap_ge _ _ _ _, by have := grownCap_le_maxLen w s.size 0 e hs; unfold maxLen at this; omega, strB_ok s, .inr ⟨_, _, rfl, fun _ => bytesWorld_row w e s⟩⟩
theorem convStr (w : World) (s : ByteArray) : (convert 9 95 (.string s)).run Tryz.prog w = .ok (.slice (some ⟨w.heap.size, 0, none⟩) s.size (grownCap w s.size 0 5)) (Lib.bytesWorld w 5 s) :=
  Lib.run_convert_string_bytes w _ _ _ s Tryz.underlying9 Tryz.underlying95 Tryz.underlying5
set_option maxHeartbeats 400000 in
theorem word_any (d : Dg) (hd : d.ok) (s : ByteArray) (hsz : s.size ≤ maxLen) (w : World) :
    Calls Tryz.prog 174 #[.agg #[.int .u8 d.x0, .int .u8 d.x1, .int .u8 d.x2, .int .u8 d.x3, .int .u8 d.x4, .int .u8 d.x5, .int .u8 d.x6, .int .u8 d.x7], .string s] w fun e w' => e = .returned (.agg (hWord d (strB s)).cells) ∧ Ext w w' := by
  have HD := Lib.hid hd
  have HZ := Lib.hid hsz
  clear hd hsz
  have hx0 : Ext w _ := ((Kept.refl _ w).alloc (.cells #[.int .u8 d.x0, .int .u8 d.x1, .int .u8 d.x2, .int .u8 d.x3, .int .u8 d.x4, .int .u8 d.x5, .int .u8 d.x6, .int .u8 d.x7] 30)).alloc (.cells Dg.zero.cells 30)
  have hA0 : Blk _ w.heap.size 30 d.cells := Blk.alloc (Blk.new w _ _) (.cells Dg.zero.cells 30)
  have hR0 : Blk _ (w.heap.size + 1) 30 Dg.zero.cells := Blk.new' (w.alloc (.cells #[.int .u8 d.x0, .int .u8 d.x1, .int .u8 d.x2, .int .u8 d.x3, .int .u8 d.x4, .int .u8 d.x5, .int .u8 d.x6, .int .u8 d.x7] 30)) _ _ _ (by simp)
  have hcv := fun w => convStr w s
  go_enter Tryz.func174, Tryz.ntmps174
  go_wp2_with fail
  refine (begin_any 4 _).mono ?_
  rintro e w1 ⟨rfl, hx1⟩
  have hA1 := Blk.ext hA0 hx1
  have hR1 := Blk.ext hR0 hx1
  have hl1 := Blk.lt hA1
  have hh1 := Blk.has hA1
  have hg1 := Blk.gets hA1
  go_wp2_with fail
  refine (num_any d HD.out _).mono ?_
  rintro e w2 ⟨rfl, hx2⟩
  have hs2 := Blk.ext (Blk.new w1 262 (bg 4).cells) hx2
  go_wp2_with fail
  refine (take_any _ _ _ _ hs2).mono ?_
  rintro e w3 ⟨rfl, hs3, hx3⟩
  have hx30 : Ext w1 w3 := (((Kept.refl _ w1).alloc _).trans hx2).trans' hx3 (fun i hi e => by omega)
  have hl3 := Blk.lt hs3
  go_wp2_with fail
  have hxb := bytesWorld_ext w3 5 s
  refine (bytes_any _ _ _ _ (strB s) _ _ (Blk.ext hs3 hxb) (bytesWorld_sl w3 _ s HZ.out) (fun b off h1 h2 => by injection h1 with h1; injection h1 with h1; omega)).mono ?_
  rintro e w4 ⟨rfl, hs4, hx4⟩
  have hx40 : Ext w1 w4 := (hx30.trans hxb).trans' hx4 (fun i hi e => by omega)
  go_wp2_with fail
  refine (gives_any _ _ _ hs4).mono ?_
  rintro e w5 ⟨rfl, hx5⟩
  have hR5 := Blk.ext hR1 (hx40.trans hx5)
  have hh5 := Blk.has hR5
  have hm5 := Blk.melts hR5
  go_wp2_with fail
  refine ret_cell Tryz.results174 rfl rfl aggDig (by exact sizeDig) (Blk.put_ hR5 _ _) ⟨rfl, ?_⟩
  exact Kept.putAt (((hx0.trans hx1).trans hx40).trans hx5) _ _ _ (fun h => by omega)
end Go.Proofs.YtahljceanodhkaaGreatDoor
