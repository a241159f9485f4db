/- Package tree: the tree in memory; height, Root. -/
import Derived.Test.YtahljceanodhkaaGreatDoorTc
namespace Go.Proofs.YtahljceanodhkaaGreatDoor
open Go.RowKit
/-- the tree's own block: its leaves' slice and 13 levels' slices -/
def TreeB (w : World) (p : Nat) (f : Nat → Value) : Prop := Blk w p 196 ((List.range 14).map f).toArray
theorem TreeB.cell {w : World} {p : Nat} {f : Nat → Value} (h : TreeB w p f) (i : Nat) (hi : i < 14) : w.cell? ⟨p, i, none⟩ = some (f i) := by
  rw [Blk.cell h]
  simp [hi]
theorem TreeB.lt {w : World} {p : Nat} {f : Nat → Value} (h : TreeB w p f) : p < w.heap.size := Blk.lt h
theorem TreeB.ext {w w' : World} {p : Nat} {f : Nat → Value} (h : TreeB w p f) (hk : Ext w w') : TreeB w' p f := Blk.ext h hk
theorem TreeB.set {w : World} {p : Nat} {f : Nat → Value} (h : TreeB w p f) (i : Nat) (u : Value) : TreeB (w.setCell ⟨p, i, none⟩ u) p (fun j => if j = i then u else f j) := by
  have := Blk.set_ h i u
  unfold TreeB
  rw [show ((List.range 14).map fun j => if j = i then u else f j).toArray = ((List.range 14).map f).toArray.setIfInBounds i u from ?_]
  · exact this
  · apply Array.ext
    · simp
    · intro j h1 h2
      simp at h1
      simp [Array.getElem_setIfInBounds, h1]
      by_cases e : i = j
      · subst e; simp
      · rw [if_neg (fun q => e q.symm), List.getElem_set_ne e]; simp
set_option maxRecDepth 100000 in
set_option maxHeartbeats 1000000 in
theorem theight_ok (p n c : Nat) (A : Option Addr) (w : World) (h1 : 1 ≤ n) (h2 : n ≤ 4096) (hc : w.cell? ⟨p, 0, none⟩ = some (.slice A n c)) :
    Calls Tryz.prog 121 #[.pointer (some ⟨p, 0, none⟩)] w fun e w' => e = .returned (.int .i64 (hgt n)) ∧ w = w' := by
  obtain ⟨H, hH⟩ : ∃ H, H = hgt n := ⟨_, rfl⟩
  rw [← hH]
  have HH := Lib.hid hH
  clear hH
  go_enter Tryz.func121, Tryz.ntmps121
  go_wp2_with fail
  refine (height_ok n h1 h2 _).mono ?_
  rintro e w1 ⟨rfl, rfl⟩
  rw [← HH.out]
  go_wp2_with fail
  go_ret
  exact ⟨rfl, rfl⟩
set_option maxRecDepth 100000 in
set_option maxHeartbeats 1000000 in
theorem troot_ok (p n c g c1 H : Nat) (A : Option Addr) (d : Dg) (w : World) (hd : d.ok) (h1 : 1 ≤ n) (h2 : n ≤ 4096) (hH : H = hgt n) (hpl : p < w.heap.size) (hc : w.cell? ⟨p, 0, none⟩ = some (.slice A n c)) (hc1 : w.cell? ⟨p, 1 + H, none⟩ = some (.slice (some ⟨g, 0, none⟩) 1 c1)) (hb : Blk w g 30 d.cells) :
    Calls Tryz.prog 67 #[.pointer (some ⟨p, 0, none⟩)] w fun e w' => e = .returned (.agg (hTop d H).cells) ∧ Ext w w' := by
  have hH12 : H ≤ 12 := by rw [hH]; exact (hgt_bd n h1 h2).1
  have hH13 : (H : Int) < 13 := by omega
  have HH := Lib.hid hH
  have HD := Lib.hid hd
  have HC := Lib.hid hc
  have HC1 := Lib.hid hc1
  clear hH hd hc hc1
  have hx0 : Ext w _ := (Kept.refl _ w).alloc (.cells Dg.zero.cells 30)
  have hR0 := Blk.new w 30 Dg.zero.cells
  go_enter Tryz.func67, Tryz.ntmps67
  go_wp2_with fail
  refine (theight_ok p n c A _ h1 h2 ((Kept.cell hx0 (p := ⟨p, 0, none⟩) hpl (fun f => f)).trans HC.out)).mono ?_
  rintro e w1 ⟨rfl, rfl⟩
  rw [← HH.out]
  have d1 := (Kept.cell hx0 (p := ⟨p, 1 + H, none⟩) hpl (fun f => f)).trans HC1.out
  have hb0 := Blk.ext hb hx0
  have hh0 := Blk.has hb0
  have hg0 := Blk.gets hb0
  have hgl := Blk.lt hb
  go_wp2_with fail
  refine (top_any d HD.out H hH12 _).mono ?_
  rintro e w2 ⟨rfl, hx2⟩
  have hR2 := Blk.ext hR0 hx2
  have hh2 := Blk.has hR2
  have hm2 := Blk.melts hR2
  go_wp2_with fail
  refine ret_cell Tryz.results67 rfl rfl aggDig (by exact sizeDig) (Blk.put_ hR2 _ _) ⟨rfl, ?_⟩
  exact Kept.putAt (hx0.trans hx2) _ _ _ (fun h => by omega)
end Go.Proofs.YtahljceanodhkaaGreatDoor
