/- Package witness: putInstr, instrLeaf, wordLeaf. -/
import Derived.Test.YtahljceanodhkaaGreatDoorPb
namespace Go.Proofs.YtahljceanodhkaaGreatDoor
open Go.RowKit
theorem aggWins : aggT Tryz.prog 41 = true := by kernel_rfl
theorem sizeWins : sizeT Tryz.prog 41 = some 4 := by kernel_rfl
theorem wpLoadWins {dst : Option Tmp} {ty' : TypeId} {x : Operand} {pos : String} {after : Array Edge} {guard : Option (Nat × Bool)} {a : Act} {w : World} {K : Act → World → Prop} {Q : Exit → Act → World → Prop} (hx : isAt (a.eval x) = true) (hh : has w (blkOf (a.eval x)) (offOf (a.eval x)) 4 = true) :
    Oper.wp Tryz.prog { dst := dst, op := .load 41 x, type := ty', pos := pos, after := after, guard := guard } a w K Q = K (a.put dst (.agg (gets w (blkOf (a.eval x)) (offOf (a.eval x)) 4))) w := wp_load_big 4 aggWins sizeWins hx hh
theorem runLoadWins {ρ : Operand → Value} {dst : Option Tmp} {ty' : TypeId} {x : Operand} {pos : String} {after : Array Edge} {guard : Option (Nat × Bool)} {w : World} (hx : isAt (ρ x) = true) (hh : has w (blkOf (ρ x)) (offOf (ρ x)) 4 = true) :
    (execOp ρ { dst := dst, op := .load 41 x, type := ty', pos := pos, after := after, guard := guard }).run Tryz.prog w = .ok (.value (.agg (gets w (blkOf (ρ x)) (offOf (ρ x)) 4))) w := run_exec_load_big 4 aggWins sizeWins hx hh
theorem loadVarWins (w : World) (g off : Nat) (hh : has w g off 4 = true) : (loadVar 41 ⟨g, off, none⟩).run Tryz.prog w = .ok (.agg (gets w g off 4)) w := run_loadVar_big Tryz.prog w _ g off 4 aggWins sizeWins hh
attribute [go_sem] aggWins sizeWins
attribute [go_sem ↓ high] wpLoadWins loadVarWins runLoadWins
attribute [go_sem high] wpLoadWins
theorem own_mono {w : World} {b b' : Nat} {E : TypeId} {sz : Nat} {v : Value} {n : Nat} {xs : List Value} (h : w.ownsRow b' E sz v n xs) (hb : b ≤ b') : w.ownsRow b E sz v n xs := by
  refine ⟨h.1, ?_⟩
  rcases h.2 with h1 | ⟨g, c, cur, hv, hg, r⟩
  · exact .inl h1
  · exact .inr ⟨g, c, cur, hv, Nat.le_trans hb hg, r⟩
def Ins.at (i : Ins) : Nat → Int | 0 => i.op | 1 => i.a | 2 => i.b | _ => i.c
def instrT (i : Ins) : Nat → List Int | 0 => [] | j + 1 => instrT i j ++ vint (foldN (i.at j))
theorem instrT_all (i : Ins) : instrT i 4 = instrB i := by simp [instrT, instrB, Ins.at]
theorem at_ok {i : Ins} (h : i.ok) : ∀ j, i64ok (i.at j)
  | 0 => h.op
  | 1 => h.a
  | 2 => h.b
  | _ + 3 => h.c
theorem instrT_len {i : Ins} (h : i.ok) : ∀ j, (instrT i j).length ≤ 10 * j
  | 0 => by simp [instrT]
  | j + 1 => by
    have := instrT_len h j
    have := vfold_len (at_ok h j)
    simp only [instrT, List.length_append]
    omega
theorem idxIns (i : Ins) (j : Nat) (hj : j < 4) (w : World) : (Instr.index 238 (.agg i.cells) (.int .i64 j)).run Tryz.prog w = .ok (.int .i64 (i.at j)) w := by
  rcases (by omega : j = 0 ∨ j = 1 ∨ j = 2 ∨ j = 3) with rfl | rfl | rfl | rfl <;> kernel_rfl
set_option maxRecDepth 100000 in
set_option maxHeartbeats 1000000 in
theorem putinstr_any (i : Ins) (hi : i.ok) (w : World) :
    Calls Tryz.prog 96 #[.slice none 0 0, .agg #[.int .i64 i.op, .int .i64 i.a, .int .i64 i.b, .int .i64 i.c]] w fun e w' => OwnsB w w' e (instrB i).length (instrB i) := by
  have HI := Lib.hid hi
  clear hi
  have hx0 : Ext w _ := (Kept.refl _ w).alloc (.cells i.cells 41)
  go_enter Tryz.func96, Tryz.ntmps96
  go_wp2_with fail
  go_loopw [0, 16] (fun t0 t16 wr => ∃ (j : Nat), j ≤ 4 ∧ t16 = .int .i64 j ∧ wr.ownsRow w.heap.size 5 1 t0 (instrT i j).length (byts (instrT i j)) ∧ Ext w wr) (fun _ t16 _ => 4 - (intOf t16).toNat)
  case atStart => exact ⟨0, by omega, rfl, World.ownsRow_nil _ _ _ _, hx0⟩
  case round =>
    obtain ⟨j, hj, rfl, ho, hx⟩ := hrel
    have hl := instrT_len HI.out j
    by_cases hlt : j < 4
    · have key : ∀ (w1 : World) (v1 : Value), w1.ownsRow wr.heap.size 5 1 v1 ((instrT i j).length + (vint (foldN (i.at j))).length) (byts (instrT i j ++ vint (foldN (i.at j)))) → w1.ownsRow w.heap.size 5 1 v1 (instrT i (j + 1)).length (byts (instrT i (j + 1))) := fun w1 v1 h => by
        have := own_mono h hx.size
        rw [← List.length_append] at this
        exact this
      have HP := fun k hk => (putint_any w.heap.size u0 (instrT i j).length (instrT i j) (i.at j) k wr hk (at_ok HI.out j).1 (at_ok HI.out j).2 ho (by omega))
      have HK := Lib.hid key
      have HQ := Lib.hid HP
      clear key HP hl
      have hidx := idxIns i j hlt
      go_wp2_with fail
      refine (HQ.out _ rfl).mono ?_
      rintro e w1 ⟨v1, rfl, ho1, hx1⟩
      go_wp2_with fail
      go_roundw
      case rel => exact ⟨j + 1, hlt, by go_num, HK.out _ _ ho1, hx.trans hx1⟩
      case measure => simp only [intOf]; omega
    · obtain rfl : j = 4 := by omega
      go_wp2_with fail
      go_ret
      rw [instrT_all] at ho
      exact ⟨_, rfl, ho, hx⟩
set_option maxRecDepth 100000 in
set_option maxHeartbeats 1000000 in
theorem ileaf_any (i : Ins) (hi : i.ok) (w : World) : Calls Tryz.prog 83 #[.agg i.cells] w fun e w' => e = .returned (.agg (ileaf i).cells) ∧ Ext w w' := by
  have HI := Lib.hid hi
  have HL := Lib.hid (instrB_len hi)
  clear hi
  obtain ⟨D, hD⟩ : ∃ D, D = ileaf i := ⟨_, rfl⟩
  rw [← hD]
  have HD := Lib.hid hD
  clear hD
  have hx0 : Ext w _ := ((Kept.refl _ w).alloc (.cells i.cells 41)).alloc (.cells Dg.zero.cells 30)
  have hR0 : Blk _ (w.heap.size + 1) 30 Dg.zero.cells := Blk.new' (w.alloc (.cells i.cells 41)) _ _ _ (by simp)
  go_enter Tryz.func83, Tryz.ntmps83
  go_wp2_with fail
  refine (putinstr_any i HI.out _).mono ?_
  rintro e w1 ⟨v1, rfl, ho1, hx1⟩
  obtain ⟨g, c, rfl, hg, hrow, hc, hcm, hl⟩ := own_some ho1 HL.out.1
  clear hl
  go_wp2_with fail
  refine (of_any (some ⟨g, 0, none⟩) c (instrB i) _ _ ⟨rfl, hc, by unfold maxLen at hcm; omega, instrB_ok i, .inr ⟨g, 0, rfl, fun _ => hrow⟩⟩ (fun b off e _ => by simp at e; exact e.1 ▸ hrow.lt)).mono ?_
  rintro e w2 ⟨e2, hx2⟩
  have hcr : hOf (instrB i) = D := HD.out.symm
  rw [hcr] at e2
  subst e2
  clear hcr
  have hR2 := Blk.ext hR0 (hx1.trans hx2)
  have hh2 := Blk.has hR2
  have hm2 := Blk.melts hR2
  go_wp2_with fail
  refine ret_cell Tryz.results83 rfl rfl aggDig (by exact sizeDig) (Blk.put_ hR2 _ _) ⟨rfl, ?_⟩
  exact Kept.putAt ((hx0.trans hx1).trans hx2) _ _ _ (fun h => by omega)
set_option maxHeartbeats 400000 in
theorem leaf_any (x : Int) (w : World) : Calls Tryz.prog 87 #[.int .i32 x] w fun e w' => e = .returned (.agg (leafW x).cells) ∧ Ext w w' := by
  have hx0 : Ext w _ := (Kept.refl _ w).alloc (.cells Dg.zero.cells 30)
  have hR0 := Blk.new w 30 Dg.zero.cells
  have hu : 0 ≤ x % 4294967296 := by omega
  have HU := Lib.hid hu
  clear hu
  go_enter Tryz.func87, Tryz.ntmps87
  go_wp2_with fail
  refine (fromnum_any _ _ HU.out).mono ?_
  rintro e w1 ⟨rfl, hx1⟩
  have hR1 := Blk.ext hR0 hx1
  have hh1 := Blk.has hR1
  have hm1 := Blk.melts hR1
  go_wp2_with fail
  refine ret_cell Tryz.results87 rfl rfl aggDig (by exact sizeDig) (Blk.put_ hR1 _ _) ⟨rfl, ?_⟩
  exact Kept.putAt (hx0.trans hx1) _ _ _ (fun h => by omega)
end Go.Proofs.YtahljceanodhkaaGreatDoor
