/- Package tree: leaves, roots' words. -/
import Derived.Test.YtahljceanodhkaaGreatDoorHf
namespace Go.Proofs.YtahljceanodhkaaGreatDoor
open Go.RowKit
def leafB : List Int := [108, 101, 97, 102]
def noneB : List Int := [110, 111, 110, 101]
def hLow (d : Dg) : Dg := hWord d leafB
theorem hWord_ok (d : Dg) (l : List Int) : (hWord d l).ok := out_ok _
theorem hTwo_ok (a b : Dg) : (hTwo a b).ok := out_ok _
theorem hMany_ok (l : List Dg) : (hMany l).ok := out_ok _
theorem hOf_ok (l : List Int) : (hOf l).ok := out_ok _
set_option maxHeartbeats 400000 in
theorem low_any (d : Dg) (hd : d.ok) (w : World) : Calls Tryz.prog 150 #[.agg #[.int .u8 d.x0, .int .u8 d.x1, .int .u8 d.x2, .int .u8 d.x3, .int .u8 d.x4, .int .u8 d.x5, .int .u8 d.x6, .int .u8 d.x7]] w fun e w' => e = .returned (.agg (hLow d).cells) ∧ Ext w w' := by
  have HD := Lib.hid hd
  clear hd
  have hx0 : Ext w _ := ((Kept.refl _ w).alloc (.cells #[.int .u8 d.x0, .int .u8 d.x1, .int .u8 d.x2, .int .u8 d.x3, .int .u8 d.x4, .int .u8 d.x5, .int .u8 d.x6, .int .u8 d.x7] 30)).alloc (.cells Dg.zero.cells 30)
  have hR0 : Blk _ (w.heap.size + 1) 30 Dg.zero.cells := Blk.new' (w.alloc (.cells #[.int .u8 d.x0, .int .u8 d.x1, .int .u8 d.x2, .int .u8 d.x3, .int .u8 d.x4, .int .u8 d.x5, .int .u8 d.x6, .int .u8 d.x7] 30)) _ _ _ (by simp)
  go_enter Tryz.func150, Tryz.ntmps150
  go_wp2_with fail
  refine (word_any d HD.out _ (by decide) _).mono ?_
  rintro e w1 ⟨rfl, hx1⟩
  have hR1 := Blk.ext hR0 hx1
  have hh1 := Blk.has hR1
  have hm1 := Blk.melts hR1
  go_wp2_with fail
  refine ret_cell Tryz.results150 rfl rfl aggDig (by exact sizeDig) (Blk.put_ hR1 _ _) ⟨rfl, ?_⟩
  exact Kept.putAt (hx0.trans hx1) _ _ _ (fun h => by omega)
def digS (h : Nat) : ByteArray := if h < 10 then ⟨#[UInt8.ofNat (48 + h)]⟩ else ⟨#[49, UInt8.ofNat (38 + h)]⟩
set_option maxRecDepth 100000 in
set_option maxHeartbeats 1000000 in
theorem itoa_k (h : Nat) (hh : h ≤ 12) (w : World) : Calls Tryz.prog 175 #[.int .i64 h] w fun e w' => e = .returned (.string (digS h)) ∧ w = w' := by
  rcases (by omega : h = 0 ∨ h = 1 ∨ h = 2 ∨ h = 3 ∨ h = 4 ∨ h = 5 ∨ h = 6 ∨ h = 7 ∨ h = 8 ∨ h = 9 ∨ h = 10 ∨ h = 11 ∨ h = 12) with rfl | rfl | rfl | rfl | rfl | rfl | rfl | rfl | rfl | rfl | rfl | rfl | rfl
  all_goals
    clear hh
    go_enter Tryz.func175, Tryz.ntmps175
    go_wp2
    go_ret
    exact ⟨by kernel_rfl, rfl⟩
end Go.Proofs.YtahljceanodhkaaGreatDoor
