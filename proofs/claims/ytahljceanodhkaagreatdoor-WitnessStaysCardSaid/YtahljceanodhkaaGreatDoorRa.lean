/- Package baizeref02: the walks of its basics. -/
import Derived.Test.YtahljceanodhkaaGreatDoorHf
namespace Go.Proofs.YtahljceanodhkaaGreatDoor
open Go.RowKit
theorem aggRs : aggT Tryz.prog 254 = true := by kernel_rfl
theorem sizeRs : sizeT Tryz.prog 254 = some 4 := by kernel_rfl
theorem wpLoadRs {dst : Option Tmp} {ty' : TypeId} {x : Operand} {pos : String} {after : Array Edge} {guard : Option (Nat × Bool)} {a : Act} {w : World} {K : Act → World → Prop} {Q : Exit → Act → World → Prop} (hx : isAt (a.eval x) = true) (hh : has w (blkOf (a.eval x)) (offOf (a.eval x)) 4 = true) :
    Oper.wp Tryz.prog { dst := dst, op := .load 254 x, type := ty', pos := pos, after := after, guard := guard } a w K Q = K (a.put dst (.agg (gets w (blkOf (a.eval x)) (offOf (a.eval x)) 4))) w := wp_load_big 4 aggRs sizeRs hx hh
theorem runLoadRs {ρ : Operand → Value} {dst : Option Tmp} {ty' : TypeId} {x : Operand} {pos : String} {after : Array Edge} {guard : Option (Nat × Bool)} {w : World} (hx : isAt (ρ x) = true) (hh : has w (blkOf (ρ x)) (offOf (ρ x)) 4 = true) :
    (execOp ρ { dst := dst, op := .load 254 x, type := ty', pos := pos, after := after, guard := guard }).run Tryz.prog w = .ok (.value (.agg (gets w (blkOf (ρ x)) (offOf (ρ x)) 4))) w := run_exec_load_big 4 aggRs sizeRs hx hh
theorem loadVarRs (w : World) (g off : Nat) (hh : has w g off 4 = true) : (loadVar 254 ⟨g, off, none⟩).run Tryz.prog w = .ok (.agg (gets w g off 4)) w := run_loadVar_big Tryz.prog w _ g off 4 aggRs sizeRs hh
attribute [go_sem] aggRs sizeRs
attribute [go_sem ↓ high] wpLoadRs loadVarRs runLoadRs
attribute [go_sem high] wpLoadRs
theorem Blk.eq {w : World} {g : Nat} {t : TypeId} {cs cs' : Array Value} (h : Blk w g t cs) (e : cs = cs') : Blk w g t cs' := e ▸ h
set_option maxHeartbeats 400000 in
theorem left32 (x : Int) (w : World) : Calls Tryz.prog 231 #[.int .u64 x, .int .u64 32] w fun e w' => e = .returned (.int .u64 (rotl x 32)) ∧ w = w' := by
  go_enter Tryz.func231, Tryz.ntmps231
  go_wp2
  go_ret
  exact ⟨ret_int (by simp [rotl]), rfl⟩
set_option maxHeartbeats 400000 in
theorem left24 (x : Int) (w : World) : Calls Tryz.prog 231 #[.int .u64 x, .int .u64 24] w fun e w' => e = .returned (.int .u64 (rotl x 24)) ∧ w = w' := by
  go_enter Tryz.func231, Tryz.ntmps231
  go_wp2
  go_ret
  exact ⟨ret_int (by simp [rotl]), rfl⟩
set_option maxHeartbeats 400000 in
theorem left16 (x : Int) (w : World) : Calls Tryz.prog 231 #[.int .u64 x, .int .u64 16] w fun e w' => e = .returned (.int .u64 (rotl x 16)) ∧ w = w' := by
  go_enter Tryz.func231, Tryz.ntmps231
  go_wp2
  go_ret
  exact ⟨ret_int (by simp [rotl]), rfl⟩
set_option maxHeartbeats 400000 in
theorem left63 (x : Int) (w : World) : Calls Tryz.prog 231 #[.int .u64 x, .int .u64 63] w fun e w' => e = .returned (.int .u64 (rotl x 63)) ∧ w = w' := by
  go_enter Tryz.func231, Tryz.ntmps231
  go_wp2
  go_ret
  exact ⟨ret_int (by simp [rotl]), rfl⟩
set_option maxHeartbeats 400000 in
theorem rbegin_any (k : Int) (w : World) : Calls Tryz.prog 179 #[.int .u64 k] w fun e w' => e = .returned (.agg (bg k).cells) ∧ Ext w w' := by
  go_enter Tryz.func179, Tryz.ntmps179
  go_wp2
  refine ret_cell Tryz.results179 rfl rfl aggRs (by exact sizeRs) (Blk.new' _ _ _ _ (by simp)) ⟨rfl, ?_⟩
  ((repeat' (with_reducible (first | apply Kept.drew | apply Kept.drewN | apply Kept.alloc | apply Kept.setCell | apply Kept.putAt | exact Kept.refl _ _))) <;> (intro hlt; first | rfl | (simp at hlt; done) | (exfalso; simp at hlt; omega) | omega))
set_option maxRecDepth 100000 in
set_option maxHeartbeats 2000000 in
theorem rstir_any (s : St) (w : World) : Calls Tryz.prog 214 #[.agg s.cells] w fun e w' => e = .returned (.agg (stir s).cells) ∧ Ext w w' := by
  have hx0 : Ext w _ := ((Kept.refl _ w).alloc (.cells s.cells 254)).alloc (.cells (St.cells ⟨0, 0, 0, 0⟩) 254)
  have hB0 : Blk _ w.heap.size 254 s.cells := Blk.alloc (Blk.new w _ _) (.cells (St.cells ⟨0, 0, 0, 0⟩) 254)
  have hR0 : Blk _ (w.heap.size + 1) 254 (St.cells ⟨0, 0, 0, 0⟩) := Blk.new' (w.alloc (.cells s.cells 254)) _ _ _ (by simp)
  go_enter Tryz.func214, Tryz.ntmps214
  go_wp2_with fail
  generalize ((w.alloc (.cells #[.int .u64 s.a, .int .u64 s.b, .int .u64 s.c, .int .u64 s.d] 254)).alloc (.cells #[.int .u64 0, .int .u64 0, .int .u64 0, .int .u64 0] 254)) = W at hx0 hB0 hR0 ⊢
  go_loopw [3] (fun i wr => ∃ k : Nat, k ≤ 6 ∧ i = .int .u64 (k + 1) ∧ Blk wr w.heap.size 254 (rnds k s).cells ∧ Kept (· = w.heap.size) W wr) (fun i _ => 7 - (intOf i).toNat)
  case atStart => exact ⟨0, by omega, rfl, hB0, Kept.refl _ _⟩
  case round =>
    obtain ⟨k, hk, rfl, hb, hx⟩ := hrel
    clear hB0
    have hc := Blk.cell hb
    have hf := Blk.frozen hb
    by_cases hlt : k < 6
    · obtain ⟨t, ht⟩ : ∃ t, t = rnds k s := ⟨_, rfl⟩
      rw [← ht] at hb hc
      obtain ⟨a, b, c, d⟩ := t
      have HT := Lib.hid ht
      clear ht
      go_upto_region 5 with (fail)
      have y : Blk (wr.setCell ⟨w.heap.size, 0, none⟩ (.int .u64 (bits .xor .u64 (IntKind.u64.wrap (a + b)) ((k : Int) + 1)))) w.heap.size 254 (St.cells ⟨bits .xor .u64 (IntKind.u64.wrap (a + b)) ((k : Int) + 1), b, c, d⟩) := Blk.set_ hb 0 _
      have z := Kept.setCell hx ⟨w.heap.size, 0, none⟩ (.int .u64 (bits .xor .u64 (IntKind.u64.wrap (a + b)) ((k : Int) + 1))) (fun _ => rfl)
      clear hb hx hc hf
      generalize hE : bits .xor .u64 (IntKind.u64.wrap (a + b)) ((k : Int) + 1) = a1 at y z ⊢
      generalize wr.setCell ⟨w.heap.size, 0, none⟩ (.int .u64 a1) = w1 at y z ⊢
      have HE1 := Lib.hid hE
      clear hE
      have hb := y
      have hx := z
      clear y z
      have hc := Blk.cell hb
      have hf := Blk.frozen hb
      go_wp2_with fail
      refine (left32 _ _).mono ?_
      rintro e w' ⟨rfl, rfl⟩
      go_upto_region 6 with (fail)
      have y : Blk (w1.setCell ⟨w.heap.size, 3, none⟩ (.int .u64 (rotl (bits .xor .u64 d a1) 32))) w.heap.size 254 (St.cells ⟨a1, b, c, rotl (bits .xor .u64 d a1) 32⟩) := Blk.set_ hb 3 _
      have z := Kept.setCell hx ⟨w.heap.size, 3, none⟩ (.int .u64 (rotl (bits .xor .u64 d a1) 32)) (fun _ => rfl)
      clear hb hx hc hf
      generalize hE : rotl (bits .xor .u64 d a1) 32 = d1 at y z ⊢
      generalize w1.setCell ⟨w.heap.size, 3, none⟩ (.int .u64 d1) = w2 at y z ⊢
      have HE2 := Lib.hid hE
      clear hE
      have hb := y
      have hx := z
      clear y z
      have hc := Blk.cell hb
      have hf := Blk.frozen hb
      go_upto_region 7 with (fail)
      have y : Blk (w2.setCell ⟨w.heap.size, 2, none⟩ (.int .u64 (IntKind.u64.wrap (c + d1)))) w.heap.size 254 (St.cells ⟨a1, b, IntKind.u64.wrap (c + d1), d1⟩) := Blk.set_ hb 2 _
      have z := Kept.setCell hx ⟨w.heap.size, 2, none⟩ (.int .u64 (IntKind.u64.wrap (c + d1))) (fun _ => rfl)
      clear hb hx hc hf
      generalize hE : IntKind.u64.wrap (c + d1) = c1 at y z ⊢
      generalize w2.setCell ⟨w.heap.size, 2, none⟩ (.int .u64 c1) = w3 at y z ⊢
      have HE3 := Lib.hid hE
      clear hE
      have hb := y
      have hx := z
      clear y z
      have hc := Blk.cell hb
      have hf := Blk.frozen hb
      go_wp2_with fail
      refine (left24 _ _).mono ?_
      rintro e w' ⟨rfl, rfl⟩
      go_upto_region 8 with (fail)
      have y : Blk (w3.setCell ⟨w.heap.size, 1, none⟩ (.int .u64 (rotl (bits .xor .u64 b c1) 24))) w.heap.size 254 (St.cells ⟨a1, rotl (bits .xor .u64 b c1) 24, c1, d1⟩) := Blk.set_ hb 1 _
      have z := Kept.setCell hx ⟨w.heap.size, 1, none⟩ (.int .u64 (rotl (bits .xor .u64 b c1) 24)) (fun _ => rfl)
      clear hb hx hc hf
      generalize hE : rotl (bits .xor .u64 b c1) 24 = b1 at y z ⊢
      generalize w3.setCell ⟨w.heap.size, 1, none⟩ (.int .u64 b1) = w4 at y z ⊢
      have HE4 := Lib.hid hE
      clear hE
      have hb := y
      have hx := z
      clear y z
      have hc := Blk.cell hb
      have hf := Blk.frozen hb
      go_upto_region 9 with (fail)
      have y : Blk (w4.setCell ⟨w.heap.size, 0, none⟩ (.int .u64 (IntKind.u64.wrap (a1 + b1)))) w.heap.size 254 (St.cells ⟨IntKind.u64.wrap (a1 + b1), b1, c1, d1⟩) := Blk.set_ hb 0 _
      have z := Kept.setCell hx ⟨w.heap.size, 0, none⟩ (.int .u64 (IntKind.u64.wrap (a1 + b1))) (fun _ => rfl)
      clear hb hx hc hf
      generalize hE : IntKind.u64.wrap (a1 + b1) = a2 at y z ⊢
      generalize w4.setCell ⟨w.heap.size, 0, none⟩ (.int .u64 a2) = w5 at y z ⊢
      have HE5 := Lib.hid hE
      clear hE
      have hb := y
      have hx := z
      clear y z
      have hc := Blk.cell hb
      have hf := Blk.frozen hb
      go_wp2_with fail
      refine (left16 _ _).mono ?_
      rintro e w' ⟨rfl, rfl⟩
      go_upto_region 10 with (fail)
      have y : Blk (w5.setCell ⟨w.heap.size, 3, none⟩ (.int .u64 (rotl (bits .xor .u64 d1 a2) 16))) w.heap.size 254 (St.cells ⟨a2, b1, c1, rotl (bits .xor .u64 d1 a2) 16⟩) := Blk.set_ hb 3 _
      have z := Kept.setCell hx ⟨w.heap.size, 3, none⟩ (.int .u64 (rotl (bits .xor .u64 d1 a2) 16)) (fun _ => rfl)
      clear hb hx hc hf
      generalize hE : rotl (bits .xor .u64 d1 a2) 16 = d2 at y z ⊢
      generalize w5.setCell ⟨w.heap.size, 3, none⟩ (.int .u64 d2) = w6 at y z ⊢
      have HE6 := Lib.hid hE
      clear hE
      have hb := y
      have hx := z
      clear y z
      have hc := Blk.cell hb
      have hf := Blk.frozen hb
      go_upto_region 11 with (fail)
      have y : Blk (w6.setCell ⟨w.heap.size, 2, none⟩ (.int .u64 (IntKind.u64.wrap (c1 + d2)))) w.heap.size 254 (St.cells ⟨a2, b1, IntKind.u64.wrap (c1 + d2), d2⟩) := Blk.set_ hb 2 _
      have z := Kept.setCell hx ⟨w.heap.size, 2, none⟩ (.int .u64 (IntKind.u64.wrap (c1 + d2))) (fun _ => rfl)
      clear hb hx hc hf
      generalize hE : IntKind.u64.wrap (c1 + d2) = c2 at y z ⊢
      generalize w6.setCell ⟨w.heap.size, 2, none⟩ (.int .u64 c2) = w7 at y z ⊢
      have HE7 := Lib.hid hE
      clear hE
      have hb := y
      have hx := z
      clear y z
      have hc := Blk.cell hb
      have hf := Blk.frozen hb
      go_wp2_with fail
      refine (left63 _ _).mono ?_
      rintro e w' ⟨rfl, rfl⟩
      go_wp2_with fail
      go_roundw
      case rel =>
        have hfin : Blk (w7.setCell ⟨w.heap.size, 1, none⟩ (.int .u64 (rotl (bits .xor .u64 b1 c2) 63))) w.heap.size 254 (rnds (k + 1) s).cells := by
          refine Blk.eq (Blk.set_ hb 1 _) ?_
          have e0 : rnds (k + 1) s = rnd ⟨a, b, c, d⟩ (k + 1) := by rw [HT.out]; rfl
          rw [e0]
          have h1 := HE1.out
          have h2 := HE2.out
          have h3 := HE3.out
          have h4 := HE4.out
          have h5 := HE5.out
          have h6 := HE6.out
          have h7 := HE7.out
          subst h1 h2 h3 h4 h5 h6 h7
          rfl
        have hfk := Kept.setCell hx ⟨w.heap.size, 1, none⟩ (.int .u64 (rotl (bits .xor .u64 b1 c2) 63)) (fun _ => rfl)
        (repeat apply Exists.intro)
        exact ⟨⟨k + 1, by omega, by go_num, hfin, hfk⟩, rfl⟩
      case measure => simp [intOf]; omega
    · have hk6 : k = 6 := by omega
      subst hk6
      have hh := Blk.has hb
      have hg := Blk.gets hb
      have hR := Blk.kept hR0 hx (by omega)
      have hhR := Blk.has hR
      have hmR := Blk.melts hR
      go_wp2_with fail
      refine ret_cell Tryz.results214 rfl rfl aggRs (by exact sizeRs) (Blk.put_ hR _ _) ⟨rfl, ?_⟩
      exact Kept.putAt (hx0.trans' hx (fun i hi e => by omega)) _ _ _ (fun h => by omega)
end Go.Proofs.YtahljceanodhkaaGreatDoor
