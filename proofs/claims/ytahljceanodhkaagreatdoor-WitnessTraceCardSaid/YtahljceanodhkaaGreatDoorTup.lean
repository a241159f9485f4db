/- Several texts joined: Zi, Zj. -/
import Derived.Test.YtahljceanodhkaaGreatDoorTtf
import Derived.Test.YtahljceanodhkaaGreatDoorTuj
import Derived.Test.YtahljceanodhkaaGreatDoorTuk
import Derived.Test.YtahljceanodhkaaGreatDoorTul
import Derived.Test.YtahljceanodhkaaGreatDoorTum
import Derived.Test.YtahljceanodhkaaGreatDoorTun
/- The document's answer of layer 15: Step, of any instruction. -/
namespace Go.Proofs.YtahljceanodhkaaGreatDoor
open Go.RowKit
set_option maxRecDepth 100000 in
theorem rstep_any (A : Option Addr) (b off n cap : Nat) (c : List Ins) (x halt : Int) (g0 off' k cap' : Nat) (m : List Int) (w : World) (h : RPre w b off n A c g0 off' k x halt m) :
    Calls Tryz.prog 88 #[.slice A n cap, .agg (stCells x (some ⟨g0, off', none⟩) k cap' halt)] w fun e w' => ∃ v, e = .returned v ∧ OwnsS w w' v k (runI c x halt m).1 (runI c x halt m).2.1 (runI c x halt m).2.2 := by
  by_cases hz : halt = 0
  · subst hz
    have hkm := h.k_eq
    have hcn := h.n_eq
    rw [show runI c x 0 m = stepI c x m from if_pos rfl]
    cases hnx : nextI c x k with
    | none =>
      have e : stepI c x m = (x, 2, m) := by unfold stepI; rw [← hkm, hnx]
      rw [e]
      exact rst_none A b off n cap c x g0 off' k cap' m w h hnx
    | some i =>
      have hr := nextI_right hnx
      rw [← hcn] at hr
      obtain ⟨h0, h22, ha, hb, hc, he⟩ := rightI_parts hr
      cases hl : lost i m with
      | true =>
        have e : stepI c x m = (x, 2, m) := by unfold stepI; rw [← hkm, hnx]; simp [hl]
        rw [e]
        have hl' := hl
        simp [lost] at hl'
        obtain ⟨op, y, z, u⟩ := i
        simp only at hl' ha hb hc
        rcases hl'.2 with rfl | rfl
        all_goals
          have ha' := okP_w rfl ha
          have hb' := okP_w rfl hb
          have hc' := okP_w rfl hc
          obtain ⟨y, rfl⟩ : ∃ t : Nat, y = t := ⟨Int.toNat y, by omega⟩
          obtain ⟨z, rfl⟩ : ∃ t : Nat, z = t := ⟨Int.toNat z, by omega⟩
          obtain ⟨u, rfl⟩ : ∃ t : Nat, u = t := ⟨Int.toNat u, by omega⟩
        · exact rst_lost15 A b off n cap c x g0 off' k cap' m w h y z u (by omega) (by omega) (by omega) hl'.1 hnx
        · exact rst_lost16 A b off n cap c x g0 off' k cap' m w h y z u (by omega) (by omega) (by omega) hl'.1 hnx
      | false =>
        have e : stepI c x m = execI i x m := by unfold stepI; rw [← hkm, hnx]; simp [hl]
        rw [e]
        have hfb := farI_bd i m
        have hfl := lost_false hl
        obtain ⟨op, y, z, u⟩ := i
        simp only at h0 h22 ha hb hc
        obtain ⟨o, rfl⟩ : ∃ o : Nat, op = o := ⟨op.toNat, by omega⟩
        have hk : o < 22 := by omega
        clear h0 h22 e hl
        have hall : o = 0 ∨ o = 1 ∨ o = 2 ∨ o = 3 ∨ o = 4 ∨ o = 5 ∨ o = 6 ∨ o = 7 ∨ o = 8 ∨ o = 9 ∨ o = 10 ∨ o = 11 ∨ o = 12 ∨ o = 13 ∨ o = 14 ∨ o = 15 ∨ o = 16 ∨ o = 17 ∨ o = 18 ∨ o = 19 ∨ o = 20 ∨ o = 21 := by omega
        rcases hall with rfl | rfl | rfl | rfl | rfl | rfl | rfl | rfl | rfl | rfl | rfl | rfl | rfl | rfl | rfl | rfl | rfl | rfl | rfl | rfl | rfl | rfl
        · have ha' := okP_n rfl ha
          have he' : y = 0 ∨ y = 1 := by simpa [rightE] using he
          exact rst_0 A b off n cap c x g0 off' k cap' m w h y z u (by omega) (by omega) hnx
        · have ha' := okP_w rfl ha
          obtain ⟨y, rfl⟩ : ∃ t : Nat, y = t := ⟨Int.toNat y, by omega⟩
          have hb' := okP_n rfl hb
          exact rst_1 A b off n cap c x g0 off' k cap' m w h y z u (by omega) hb'.1 hb'.2 hnx
        · have ha' := okP_w rfl ha
          obtain ⟨y, rfl⟩ : ∃ t : Nat, y = t := ⟨Int.toNat y, by omega⟩
          have hb' := okP_w rfl hb
          obtain ⟨z, rfl⟩ : ∃ t : Nat, z = t := ⟨Int.toNat z, by omega⟩
          exact rst_2 A b off n cap c x g0 off' k cap' m w h y z u (by omega) (by omega) hnx
        · have ha' := okP_w rfl ha
          obtain ⟨y, rfl⟩ : ∃ t : Nat, y = t := ⟨Int.toNat y, by omega⟩
          have hb' := okP_w rfl hb
          obtain ⟨z, rfl⟩ : ∃ t : Nat, z = t := ⟨Int.toNat z, by omega⟩
          have hc' := okP_w rfl hc
          obtain ⟨u, rfl⟩ : ∃ t : Nat, u = t := ⟨Int.toNat u, by omega⟩
          exact rst_two A b off n cap c x g0 off' k cap' m w h 3 y z u (by omega) (by omega) (by omega) (by omega) (by omega) hnx
        · have ha' := okP_w rfl ha
          obtain ⟨y, rfl⟩ : ∃ t : Nat, y = t := ⟨Int.toNat y, by omega⟩
          have hb' := okP_w rfl hb
          obtain ⟨z, rfl⟩ : ∃ t : Nat, z = t := ⟨Int.toNat z, by omega⟩
          have hc' := okP_w rfl hc
          obtain ⟨u, rfl⟩ : ∃ t : Nat, u = t := ⟨Int.toNat u, by omega⟩
          exact rst_two A b off n cap c x g0 off' k cap' m w h 4 y z u (by omega) (by omega) (by omega) (by omega) (by omega) hnx
        · have ha' := okP_w rfl ha
          obtain ⟨y, rfl⟩ : ∃ t : Nat, y = t := ⟨Int.toNat y, by omega⟩
          have hb' := okP_w rfl hb
          obtain ⟨z, rfl⟩ : ∃ t : Nat, z = t := ⟨Int.toNat z, by omega⟩
          have hc' := okP_w rfl hc
          obtain ⟨u, rfl⟩ : ∃ t : Nat, u = t := ⟨Int.toNat u, by omega⟩
          exact rst_two A b off n cap c x g0 off' k cap' m w h 5 y z u (by omega) (by omega) (by omega) (by omega) (by omega) hnx
        · have ha' := okP_w rfl ha
          obtain ⟨y, rfl⟩ : ∃ t : Nat, y = t := ⟨Int.toNat y, by omega⟩
          have hb' := okP_w rfl hb
          obtain ⟨z, rfl⟩ : ∃ t : Nat, z = t := ⟨Int.toNat z, by omega⟩
          have hc' := okP_w rfl hc
          obtain ⟨u, rfl⟩ : ∃ t : Nat, u = t := ⟨Int.toNat u, by omega⟩
          exact rst_two A b off n cap c x g0 off' k cap' m w h 6 y z u (by omega) (by omega) (by omega) (by omega) (by omega) hnx
        · have ha' := okP_w rfl ha
          obtain ⟨y, rfl⟩ : ∃ t : Nat, y = t := ⟨Int.toNat y, by omega⟩
          have hb' := okP_w rfl hb
          obtain ⟨z, rfl⟩ : ∃ t : Nat, z = t := ⟨Int.toNat z, by omega⟩
          have hc' := okP_w rfl hc
          obtain ⟨u, rfl⟩ : ∃ t : Nat, u = t := ⟨Int.toNat u, by omega⟩
          exact rst_two A b off n cap c x g0 off' k cap' m w h 7 y z u (by omega) (by omega) (by omega) (by omega) (by omega) hnx
        · have ha' := okP_w rfl ha
          obtain ⟨y, rfl⟩ : ∃ t : Nat, y = t := ⟨Int.toNat y, by omega⟩
          have hb' := okP_w rfl hb
          obtain ⟨z, rfl⟩ : ∃ t : Nat, z = t := ⟨Int.toNat z, by omega⟩
          have hc' := okP_w rfl hc
          obtain ⟨u, rfl⟩ : ∃ t : Nat, u = t := ⟨Int.toNat u, by omega⟩
          exact rst_two A b off n cap c x g0 off' k cap' m w h 8 y z u (by omega) (by omega) (by omega) (by omega) (by omega) hnx
        · have ha' := okP_w rfl ha
          obtain ⟨y, rfl⟩ : ∃ t : Nat, y = t := ⟨Int.toNat y, by omega⟩
          have hb' := okP_w rfl hb
          obtain ⟨z, rfl⟩ : ∃ t : Nat, z = t := ⟨Int.toNat z, by omega⟩
          have hc' := okP_w rfl hc
          obtain ⟨u, rfl⟩ : ∃ t : Nat, u = t := ⟨Int.toNat u, by omega⟩
          exact rst_two A b off n cap c x g0 off' k cap' m w h 9 y z u (by omega) (by omega) (by omega) (by omega) (by omega) hnx
        · have ha' := okP_w rfl ha
          obtain ⟨y, rfl⟩ : ∃ t : Nat, y = t := ⟨Int.toNat y, by omega⟩
          have hb' := okP_w rfl hb
          obtain ⟨z, rfl⟩ : ∃ t : Nat, z = t := ⟨Int.toNat z, by omega⟩
          have hc' := okP_w rfl hc
          obtain ⟨u, rfl⟩ : ∃ t : Nat, u = t := ⟨Int.toNat u, by omega⟩
          exact rst_two A b off n cap c x g0 off' k cap' m w h 10 y z u (by omega) (by omega) (by omega) (by omega) (by omega) hnx
        · have ha' := okP_w rfl ha
          obtain ⟨y, rfl⟩ : ∃ t : Nat, y = t := ⟨Int.toNat y, by omega⟩
          have hb' := okP_w rfl hb
          obtain ⟨z, rfl⟩ : ∃ t : Nat, z = t := ⟨Int.toNat z, by omega⟩
          have hc' := okP_w rfl hc
          obtain ⟨u, rfl⟩ : ∃ t : Nat, u = t := ⟨Int.toNat u, by omega⟩
          exact rst_two A b off n cap c x g0 off' k cap' m w h 11 y z u (by omega) (by omega) (by omega) (by omega) (by omega) hnx
        · have ha' := okP_w rfl ha
          obtain ⟨y, rfl⟩ : ∃ t : Nat, y = t := ⟨Int.toNat y, by omega⟩
          have hb' := okP_w rfl hb
          obtain ⟨z, rfl⟩ : ∃ t : Nat, z = t := ⟨Int.toNat z, by omega⟩
          have hc' := okP_w rfl hc
          obtain ⟨u, rfl⟩ : ∃ t : Nat, u = t := ⟨Int.toNat u, by omega⟩
          exact rst_two A b off n cap c x g0 off' k cap' m w h 12 y z u (by omega) (by omega) (by omega) (by omega) (by omega) hnx
        · have ha' := okP_w rfl ha
          obtain ⟨y, rfl⟩ : ∃ t : Nat, y = t := ⟨Int.toNat y, by omega⟩
          have hb' := okP_w rfl hb
          obtain ⟨z, rfl⟩ : ∃ t : Nat, z = t := ⟨Int.toNat z, by omega⟩
          have hc' := okP_w rfl hc
          obtain ⟨u, rfl⟩ : ∃ t : Nat, u = t := ⟨Int.toNat u, by omega⟩
          exact rst_two A b off n cap c x g0 off' k cap' m w h 13 y z u (by omega) (by omega) (by omega) (by omega) (by omega) hnx
        · have ha' := okP_w rfl ha
          obtain ⟨y, rfl⟩ : ∃ t : Nat, y = t := ⟨Int.toNat y, by omega⟩
          have hb' := okP_w rfl hb
          obtain ⟨z, rfl⟩ : ∃ t : Nat, z = t := ⟨Int.toNat z, by omega⟩
          exact rst_14 A b off n cap c x g0 off' k cap' m w h y z u (by omega) (by omega) hnx
        · have ha' := okP_w rfl ha
          obtain ⟨y, rfl⟩ : ∃ t : Nat, y = t := ⟨Int.toNat y, by omega⟩
          have hb' := okP_w rfl hb
          obtain ⟨z, rfl⟩ : ∃ t : Nat, z = t := ⟨Int.toNat z, by omega⟩
          have hc' := okP_w rfl hc
          obtain ⟨u, rfl⟩ : ∃ t : Nat, u = t := ⟨Int.toNat u, by omega⟩
          have hf0 := hfl (.inl rfl)
          obtain ⟨q, hq⟩ : ∃ q : Nat, farI ⟨(15 : Nat), y, z, u⟩ m = q := ⟨Int.toNat _, (Int.toNat_of_nonneg hf0).symm⟩
          exact rst_15 A b off n cap c x g0 off' k cap' m w h y z u q (by omega) (by omega) (by omega) (by rw [hq] at hfb; omega) hq hnx
        · have ha' := okP_w rfl ha
          obtain ⟨y, rfl⟩ : ∃ t : Nat, y = t := ⟨Int.toNat y, by omega⟩
          have hb' := okP_w rfl hb
          obtain ⟨z, rfl⟩ : ∃ t : Nat, z = t := ⟨Int.toNat z, by omega⟩
          have hc' := okP_w rfl hc
          obtain ⟨u, rfl⟩ : ∃ t : Nat, u = t := ⟨Int.toNat u, by omega⟩
          have hf0 := hfl (.inr rfl)
          obtain ⟨q, hq⟩ : ∃ q : Nat, farI ⟨(16 : Nat), y, z, u⟩ m = q := ⟨Int.toNat _, (Int.toNat_of_nonneg hf0).symm⟩
          exact rst_16 A b off n cap c x g0 off' k cap' m w h y z u q (by omega) (by omega) (by omega) (by rw [hq] at hfb; omega) hq hnx
        · have ha' := okP_w rfl ha
          obtain ⟨y, rfl⟩ : ∃ t : Nat, y = t := ⟨Int.toNat y, by omega⟩
          have hb' := okP_n rfl hb
          have hc' := okP_n rfl hc
          exact rst_17 A b off n cap c x g0 off' k cap' m w h y z u (by omega) hb'.1 hb'.2 hc'.1 hc'.2 hnx
        · have ha' := okP_w rfl ha
          obtain ⟨y, rfl⟩ : ∃ t : Nat, y = t := ⟨Int.toNat y, by omega⟩
          have hb' := okP_w rfl hb
          obtain ⟨z, rfl⟩ : ∃ t : Nat, z = t := ⟨Int.toNat z, by omega⟩
          have hc' := okP_n rfl hc
          have he' : 0 ≤ u := by simpa [rightE] using he
          exact rst_18 A b off n cap c x g0 off' k cap' m w h y z u (by omega) (by omega) he' hc'.2 hnx
        · have ha' := okP_p rfl ha
          obtain ⟨y, rfl⟩ : ∃ t : Nat, y = t := ⟨Int.toNat y, by omega⟩
          exact rst_19 A b off n cap c x g0 off' k cap' m w h y z u hnx
        · have ha' := okP_p rfl ha
          obtain ⟨y, rfl⟩ : ∃ t : Nat, y = t := ⟨Int.toNat y, by omega⟩
          have hb' := okP_w rfl hb
          obtain ⟨z, rfl⟩ : ∃ t : Nat, z = t := ⟨Int.toNat z, by omega⟩
          exact rst_20 A b off n cap c x g0 off' k cap' m w h y z u (by omega) hnx
        · have ha' := okP_p rfl ha
          obtain ⟨y, rfl⟩ : ∃ t : Nat, y = t := ⟨Int.toNat y, by omega⟩
          have hb' := okP_w rfl hb
          obtain ⟨z, rfl⟩ : ∃ t : Nat, z = t := ⟨Int.toNat z, by omega⟩
          exact rst_21 A b off n cap c x g0 off' k cap' m w h y z u (by omega) hnx
  · rw [show runI c x halt m = (x, halt, m) from if_neg hz]
    exact rst_halt A b off n cap c x halt g0 off' k cap' m w h (by simpa using hz)
set_option maxRecDepth 100000 in
set_option maxHeartbeats 4000000 in
theorem rtrace_ok (A : Option Addr) (b off n cap : Nat) (l : List Ins) (pc halt : Int) (b' off' k cap' : Nat) (m : List Int) (steps : Nat) (hs : steps ≤ 1000) (w : World) (hc : CourseAt w A b off n l pc halt b' off' k m) :
    Calls Tryz.prog 39 #[.slice A n cap, .agg (stCells pc (some ⟨b', off', none⟩) k cap' halt), .int .i64 steps] w fun e w' => ∃ v, e = .returned (.tuple #[v, .int .i64 0]) ∧ w'.ownsRow w.heap.size 23 8 v (steps + 1) (digs ((List.range (steps + 1)).map (trD l (pc, halt, m)))) ∧ Ext w w' := by
  have n1 := hc.n1
  have n2 := hc.n2
  obtain ⟨k1, k2, _, _, _, _⟩ := rightS_inv hc.right
  obtain ⟨C, hC⟩ : ∃ C, C = codeR l := ⟨_, rfl⟩
  obtain ⟨D, hD⟩ : ∃ D, D = stateR pc halt m := ⟨_, rfl⟩
  have HC := Lib.hid hc
  have HOKT := Lib.hid (traj_okay (r := (pc, halt, m)) (by rw [← hc.n_eq]; exact n2) hc.okay)
  have hcode := fun w hr => rcode_ok A b off cap l n hc.n_eq n1 n2 hc.iok (fun _ => hc.at_) w hr
  have hstate := fun w hr => rstate_ok pc halt (some ⟨b', off', none⟩) b' off' cap' m k hc.k_eq hc.right (fun _ => rfl) w hr
  rw [← hC] at hcode
  rw [← hD] at hstate
  have HCO := Lib.hid hcode
  have HST := Lib.hid hstate
  have hx0 : Ext w _ := (Kept.refl _ w).alloc (.cells (stCells pc (some ⟨b', off', none⟩) k cap' halt) 61)
  have hS0 := Blk.new w 61 (stCells pc (some ⟨b', off', none⟩) k cap' halt)
  clear hc hC hD hcode hstate
  have hsI : (steps : Int) ≤ 65536 := by omega
  have hs0 : (0 : Int) ≤ steps := by omega
  go_enter Tryz.func39, Tryz.ntmps39
  go_upto_region 1 with (fail)
  generalize (w.alloc (.cells (stCells pc (some ⟨b', off', none⟩) k cap' halt) 61)) = W0 at hx0 hS0 ⊢
  obtain ⟨sb, hsb⟩ : ∃ sb, sb = w.heap.size := ⟨_, rfl⟩
  rw [← hsb] at hS0 ⊢
  have hsbw : w.heap.size ≤ sb := by omega
  clear hsb
  go_wp2_with fail
  refine (HCO.out W0 (fun _ => HC.out.row.ext hx0)).mono ?_
  rintro e w1 ⟨rfl, hx1⟩
  go_upto_region 2 with (fail)
  have x1 : Ext w (w1.alloc (.cells C.cells 23)) := (hx0.trans hx1).alloc _
  have hS1 := Blk.alloc (Blk.ext hS0 hx1) (.cells C.cells 23)
  generalize (w1.alloc (.cells C.cells 23)) = W1 at x1 hS1 ⊢
  generalize (w1 : World).heap.size = cb1
  clear hS0 hx1
  have i1 := Blk.has hS1
  have i2 := Blk.gets hS1
  have i3 := hS1.lt
  go_wp2_with fail
  refine (HST.out W1 (fun _ => HC.out.mrow.ext x1)).mono ?_
  rintro e w2 ⟨rfl, hx2⟩
  go_upto_region 5 with (fail)
  have x2 : Ext w (w2.alloc (.cells D.cells 23)) := (x1.trans hx2).alloc _
  have hS2 := Blk.alloc (Blk.ext hS1 hx2) (.cells D.cells 23)
  generalize (w2.alloc (.cells D.cells 23)) = W2 at x2 hS2 ⊢
  generalize (w2 : World).heap.size = cb2
  clear hS1 hx2 i1 i2 i3
  go_upto_region 10 with (fail)
  have x3 : Ext w (W2.alloc (.cells #[] 23)) := x2.alloc _
  have hS3 := Blk.alloc hS2 (.cells #[] 23)
  have ho3 := own_new W2 23 8
  have hw2 := x2.size
  replace ho3 := own_mono ho3 hw2
  generalize (W2.alloc (.cells #[] 23)) = W3 at x3 hS3 ho3 ⊢
  generalize (W2 : World).heap.size = eb at ho3 ⊢
  clear hS2 x2 hw2
  obtain ⟨v3, hv3⟩ : ∃ v3, v3 = Value.slice (some ⟨eb, 0, none⟩) 0 0 := ⟨_, rfl⟩
  rw [← hv3] at ho3 ⊢
  clear hv3
  have HO3 := Lib.hid ho3
  clear ho3
  go_wp2_with fail
  go_loopw [12, 13] (fun t12 t13 wr => ∃ (j : Nat) (g o c : Nat), j ≤ steps + 1 ∧ t13 = .int .i64 j ∧ wr.ownsRow w.heap.size 23 8 t12 j (digs ((List.range j).map (trD l (pc, halt, m)))) ∧ Blk wr sb 61 (stCells (trajI l (pc, halt, m) j).1 (some ⟨g, o, none⟩) k c (trajI l (pc, halt, m) j).2.1) ∧ Row wr g o (mems (trajI l (pc, halt, m) j).2.2) ∧ (g < w.heap.size ∨ ∃ cur fr, wr.heap[g]? = some (.cells cur 21 fr)) ∧ Ext w wr) (fun _ t13 _ => steps + 1 - (intOf t13).toNat)
  case atStart => exact ⟨0, b', off', cap', Nat.zero_le _, rfl, HO3.out, hS3, HC.out.mrow.ext x3, .inl HC.out.mrow.lt, x3⟩
  case round =>
    obtain ⟨j, g, o, c, hj, rfl, ho, hS, hM, hat, hx⟩ := hrel
    clear HO3 hS3 x3
    obtain ⟨hok, hokl⟩ := HOKT.out j
    obtain ⟨r, hr⟩ : ∃ r, r = trajI l (pc, halt, m) j := ⟨_, rfl⟩
    have hnx : trajI l (pc, halt, m) (j + 1) = runI l r.1 r.2.1 r.2.2 := by rw [hr]; rfl
    have htd : trD l (pc, halt, m) j = stateR r.1 r.2.1 r.2.2 := by rw [hr]; rfl
    rw [← hr] at hS hM hok hokl
    obtain ⟨rpc, rha, rm⟩ := r
    simp only at hS hM hok hokl hnx htd
    rw [← HC.out.k_eq] at hokl
    have hob : ∀ i, i < w.heap.size → (u12 : Value).ownBlock = some i → False := fun i hi e => by have := (ho.lt i e).1; omega
    have HOB := Lib.hid hob
    have HO := Lib.hid ho
    have HM := Lib.hid hM
    have HAT := Lib.hid hat
    have HOK := Lib.hid hok
    have HLN := Lib.hid hokl
    have HNX := Lib.hid hnx
    have HTD := Lib.hid htd
    clear hob ho hM hat hok hokl hnx htd hr
    by_cases hlt : j < steps + 1
    · have hltI : (j : Int) ≤ steps := by omega
      obtain ⟨D, hD⟩ : ∃ D, D = trD l (pc, halt, m) j := ⟨_, rfl⟩
      have hst := fun w hr => rstate_ok rpc rha (some ⟨g, o, none⟩) g o c rm k HLN.out.symm (by rw [← HLN.out]; exact HOK.out.right) (fun _ => rfl) w hr
      rw [← HTD.out, ← hD] at hst
      have HST2 := Lib.hid hst
      have HD := Lib.hid hD
      clear hst hD
      have i1 := Blk.has hS
      have i2 := Blk.gets hS
      have i3 := hS.lt
      go_wp2_with fail
      refine (HST2.out wr (fun _ => HM.out)).mono ?_
      rintro e w4 ⟨rfl, hx4⟩
      go_upto_region 14 with (fail)
      have y4 : Ext wr (w4.alloc (.cells D.cells 23)) := hx4.alloc _
      have hD4 := Blk.new w4 23 D.cells
      generalize (w4.alloc (.cells D.cells 23)) = W4 at y4 hD4 ⊢
      generalize (w4 : World).heap.size = db at hD4 ⊢
      clear i1 i2 i3 hx4
      have i1 := Blk.has hD4
      have i2 := Blk.gets hD4
      have i3 := hD4.lt
      go_step
      iterate 3 (refine wpList_step (fun K hK => ?_); go_simp; (try go_bits); refine hK _ _ ?_; clear hK K)
      obtain ⟨v5, w5, hr5, ho5, hk5⟩ := appD (W4.alloc (.cells D.cells 23)) _ _ _ _ ((own_ext HO.out y4).alloc _) W4.heap.size 0 1 1 [D] rfl (by simpa [digs] using Row.of_blk (Blk.new W4 23 D.cells)) (by omega) (by have := (hx.trans y4).size; simp; omega)
      have y5 : Ext wr (W4.alloc (.cells D.cells 23)) := y4.alloc _
      have hos := own_other (own_ext HO.out y5) (E' := 61) (by decide)
      have hoi := own_other (own_ext HO.out y5) (E' := 21) (by decide)
      have hS5 := Blk.kept (Blk.ext hS y5) hk5 (fun e => hos sb e _ _ (Blk.ext hS y5))
      have x5 : Ext w w5 := (hx.trans y5).trans' hk5 HOB.out
      have hgo : g < wr.heap.size := HM.out.lt
      have hng : ¬ (u12 : Value).ownBlock = some g := fun e => by
        rcases HAT.out with h1 | ⟨cur, fr, h1⟩
        · exact HOB.out g h1 e
        · exact own_other HO.out (E' := 21) (by decide) g e _ _ h1
      have hM5 : Row w5 g o (mems rm) := (HM.out.ext y5).kept hk5 hng
      have hat5 : g < w.heap.size ∨ ∃ cur fr, w5.heap[g]? = some (.cells cur 21 fr) := by
        rcases HAT.out with h1 | ⟨cur, fr, h1⟩
        · exact .inl h1
        · refine .inr ⟨cur, fr, ?_⟩
          rw [hk5.block g (by have := y5.size; omega) hng, y5.block g hgo (fun f => f)]
          exact h1
      have ho5' : w5.ownsRow w.heap.size 23 8 v5 (j + 1) (digs ((List.range (j + 1)).map (trD l (pc, halt, m)))) := by
        rw [List.range_succ, List.map_append, show List.map (trD l (pc, halt, m)) [j] = [D] by rw [HD.out]; rfl]
        exact ho5
      refine wpList_app rfl (.tmp 49) (.tmp 51) 80 rfl rfl rfl rfl hr5 ?_
      have HO5 := Lib.hid ho5'
      have HM5 := Lib.hid hM5
      have HAT5 := Lib.hid hat5
      clear hr5 ho5 ho5' hM5 hat5 hk5 hos hoi hng i1 i2 i3 y5 y4 hD4
      have i1 := Blk.has hS5
      have i2 := Blk.gets hS5
      have i3 := hS5.lt
      have i4 := Blk.melts hS5
      go_wp2_with fail
      have hpre : RPre w5 b off n A l g o k rpc rha rm := ⟨HC.out.n_eq, n2, (rightS_inv HOK.out.right).2.2.1, by rw [← HLN.out]; exact HOK.out.right, HLN.out.symm, HOK.out.mok, fun _ => HC.out.at_, fun _ => HC.out.row.ext x5, HM5.out⟩
      have hrs := rstep_any A b off n cap l rpc rha g o k c rm w5 hpre
      rw [← HNX.out] at hrs
      refine hrs.mono ?_
      rintro e w6 ⟨v6, rfl, g6, c6, rfl, hm6, hx6⟩
      simp only [stCells]
      obtain ⟨q, hq⟩ : ∃ q, q = trajI l (pc, halt, m) (j + 1) := ⟨_, rfl⟩
      rw [← hq] at hm6 ⊢
      have HQ := Lib.hid hq
      have HM6 := Lib.hid hm6
      have hS6 := Blk.ext hS5 hx6
      clear i1 i2 i3 i4 hrs hpre hq hm6
      have i1 := Blk.has hS6
      have i2 := Blk.melts hS6
      have i3 := hS6.lt
      have kp : Kept (· = sb) w6 (putAt w6 sb 0 (stCells q.1 (some ⟨g6, 0, none⟩) k c6 q.2.1)) := Kept.putAt (Kept.refl (· = sb) w6) sb _ _ (fun _ => rfl)
      have hS7 : Blk (putAt w6 sb 0 (stCells q.1 (some ⟨g6, 0, none⟩) k c6 q.2.1)) sb 61 (stCells q.1 (some ⟨g6, 0, none⟩) k c6 q.2.1) := Blk.put_ hS6 _ _
      have hg6 : w5.heap.size ≤ g6 := by obtain ⟨_, cur, hb, _⟩ := HM6.out.inv; exact hb
      have hM7 := HM6.out.kept kp (by have := hS5.lt; omega)
      have ho7 := own_kept (own_ext HO5.out hx6) kp (fun i hi e => by
        subst e
        exact own_other HO5.out (E' := 61) (by decide) i hi _ _ hS5)
      have x7 : Ext w (putAt w6 sb 0 (stCells q.1 (some ⟨g6, 0, none⟩) k c6 q.2.1)) := (x5.trans hx6).trans' kp (fun i hi e => by omega)
      have HO7 := Lib.hid ho7
      have HM7 := Lib.hid hM7
      clear ho7 hM7 kp
      go_wp2_with fail
      go_roundw
      case rel => exact ⟨j + 1, g6, 0, c6, by omega, by go_num, HO7.out, by rw [← HQ.out]; exact hS7, by rw [← HQ.out]; exact HM7.out.row, .inr (by obtain ⟨_, cur, _, hcur, _⟩ := HM7.out.inv; exact ⟨cur, _, hcur⟩), x7⟩
      case measure => simp only [intOf]; omega
    · have hltI : ¬ (j : Int) ≤ steps := by omega
      have ej : j = steps + 1 := by omega
      subst ej
      go_wp2_with fail
      go_ret2
      exact ⟨u12, rfl, by have := HO.out; rw [List.range_succ, List.map_append] at this; exact this, hx⟩
end Go.Proofs.YtahljceanodhkaaGreatDoor

/- WitnessTrace's callees: digests as the document's, Same of them, both Traces that come to nothing. -/
namespace Go.Proofs.YtahljceanodhkaaGreatDoor
open Go.RowKit
set_option maxRecDepth 100000 in
set_option maxHeartbeats 1000000 in
theorem digests_ok (A : Option Addr) (b off cap : Nat) (l : List Dg) (n : Nat) (hn : n = l.length) (h2 : n ≤ 4096) (hA : 0 < n → A = some ⟨b, off, none⟩) (w : World) (hr : 0 < n → Row w b off (digs l)) :
    Calls Tryz.prog 41 #[.slice A n cap] w fun e w' => OwnsDigs w w' e n l := by
  have HN := Lib.hid hn
  have HA := Lib.hid hA
  have HR := Lib.hid hr
  clear hn hA hr
  go_enter Tryz.func41, Tryz.ntmps41
  go_wp2_with fail
  go_loopw [3, 8] (fun t3 t8 wr => ∃ (k : Nat), k ≤ n ∧ t8 = .int .i64 k ∧ wr.ownsRow w.heap.size 23 8 t3 k (digs (l.take k)) ∧ Ext w wr) (fun _ t8 _ => n - (intOf t8).toNat)
  case atStart => exact ⟨0, Nat.zero_le _, rfl, World.ownsRow_nil _ _ _ _, Kept.refl _ w⟩
  case round =>
    obtain ⟨k, hk, rfl, ho, hx⟩ := hrel
    have hob : ∀ i, i < w.heap.size → (u3 : Value).ownBlock = some i → False := fun i hi e => by have := (ho.lt i e).1; omega
    have HOB := Lib.hid hob
    have HO := Lib.hid ho
    clear hob ho
    by_cases hlt : k < n
    · have hkl : k < l.length := by have := HN.out; omega
      obtain rfl := HA.out (by omega)
      obtain ⟨hrh, hrg⟩ := ((HR.out (by omega)).ext hx).dig k hkl
      obtain ⟨D, hD⟩ : ∃ D, D = l[k] := ⟨_, rfl⟩
      rw [← hD] at hrg
      have HD := Lib.hid hD
      clear hD
      have hbl := ((HR.out (by omega)).ext hx).lt
      have hkI : (k : Int) < n := by omega
      have hk0 : (0 : Int) ≤ k := by omega
      go_upto_region 5 with (fail)
      have y1 : Ext wr (wr.alloc (.cells D.cells 30)) := (Kept.refl _ wr).alloc _
      have hD1 := Blk.new wr 30 D.cells
      generalize (wr.alloc (.cells D.cells 30)) = W1 at y1 hD1 ⊢
      have hw1 : wr.heap.size ≤ W1.heap.size := y1.size
      generalize (wr : World).heap.size = db at hD1 ⊢
      clear hrh hrg hbl
      have i1 := Blk.has hD1
      have i2 := Blk.gets hD1
      have i3 := hD1.lt
      have hws : w.heap.size ≤ W1.heap.size := (hx.trans y1).size
      obtain ⟨v2, w2, hr2, ho2, hk2⟩ := appD (W1.alloc (.cells D.cells 23)) _ _ _ _ ((own_ext HO.out y1).alloc _) W1.heap.size 0 1 1 [D] rfl (by simpa [digs] using Row.of_blk (Blk.new W1 23 D.cells)) (by omega) (by simp; omega)
      go_step
      iterate 3 (refine wpList_step (fun K hK => ?_); go_simp; (try go_bits); refine hK _ _ ?_; clear hK K)
      refine wpList_app rfl (.tmp 12) (.tmp 14) 80 rfl rfl rfl rfl hr2 ?_
      clear hr2
      go_wp2_with fail
      go_roundw
      case rel => exact ⟨k + 1, hlt, by go_num, by rw [List.take_succ_eq_append_getElem hkl, ← HD.out]; exact ho2, ((hx.trans y1).alloc _).trans' hk2 HOB.out⟩
      case measure => simp only [intOf]; omega
    · go_wp2_with fail
      go_ret
      have e : k = n := by omega
      subst e
      have ho := HO.out
      rw [List.take_of_length_le (Nat.le_of_eq HN.out.symm)] at ho
      exact ⟨_, rfl, ho, hx⟩
set_option maxRecDepth 100000 in
set_option maxHeartbeats 1000000 in
theorem rsame4_ok (g o c g' o' c' : Nat) (l : List Dg) (n : Nat) (hn : n = l.length) (h2 : n ≤ 4096) (w : World) (hr : Row w g o (digs l)) (hr' : Row w g' o' (digs l)) :
    Calls Tryz.prog 40 #[.slice (some ⟨g, o, none⟩) n c, .slice (some ⟨g', o', none⟩) n c'] w fun e w' => e = .returned (.bool true) ∧ Ext w w' := by
  have HN := Lib.hid hn
  have HR := Lib.hid hr
  have HR' := Lib.hid hr'
  clear hn hr hr'
  go_enter Tryz.func40, Tryz.ntmps40
  go_wp2_with fail
  go_loopw [5] (fun t5 wr => ∃ (k : Nat), k ≤ n ∧ t5 = .int .i64 k ∧ Ext w wr) (fun t5 _ => n - (intOf t5).toNat)
  case atStart => exact ⟨0, Nat.zero_le _, rfl, Kept.refl _ w⟩
  case round =>
    obtain ⟨k, hk, rfl, hx⟩ := hrel
    by_cases hlt : k < n
    · have hkl : k < l.length := by have := HN.out; omega
      obtain ⟨hrh, hrg⟩ := (HR.out.ext hx).dig k hkl
      obtain ⟨hrh', hrg'⟩ := (HR'.out.ext hx).dig k hkl
      obtain ⟨D, hD⟩ : ∃ D, D = l[k] := ⟨_, rfl⟩
      rw [← hD] at hrg hrg'
      clear hD
      have hbl := (HR.out.ext hx).lt
      have hbl' := (HR'.out.ext hx).lt
      have hkI : (k : Int) < n := by omega
      have hk0 : (0 : Int) ≤ k := by omega
      have hnI : (n : Int) ≤ 4096 := by omega
      go_upto_region 6 with (fail)
      refine wp_region_3 (fun w2 => Ext wr w2) [(0, 2), (1, 2), (2, 2), (3, 1), (4, 2), (5, 2), (6, 2), (7, 1), (8, 2)] (by kernel_rfl) (by kernel_rfl) (by kernel_rfl) (by kernel_rfl) ?_; intro l' hl'; simp only [List.map_cons, List.map_nil, List.getD_cons_zero, List.getD_cons_succ] at hl'; subst hl'
      (repeat (first | ((apply w3_pure); (· go_simp); (· (intro w1; go_simp; try with_reducible rfl)); (intro K hK; go_simp; refine hK _ _ ?_; clear hK K)) | ((apply w3_skip); (· go_simp); (intro K hK; go_simp; refine hK _ _ ?_; clear hK K)) | ((apply w3_take); (· exact (Kept.drew (Kept.refl _ _))); (· go_simp); (· (intro w1 hS; have d1 := has_ext hS hbl hrh; have d2 := gets_ext hS hbl hrg; have d3 := has_ext hS hbl' hrh'; have d4 := gets_ext hS hbl' hrg'; have d5 := Nat.lt_of_lt_of_le hbl hS.size; have d6 := Nat.lt_of_lt_of_le hbl' hS.size;  go_simp; try with_reducible rfl)); (intro K hK; go_simp; refine hK _ _ ?_; clear hK K)) | ((apply w3_pass); (· exact (Kept.drew (Kept.refl _ _))); (· go_simp); (intro K hK; go_simp; refine hK _ _ ?_; clear hK K))))
      refine w3_nil ?_
      clear hrh hrg hrh' hrg' hbl hbl'
      go_wp2_with fail
      go_roundw
      case rel => exact ⟨k + 1, hlt, by go_num, by first | exact hx.drew | exact hx.drewN _⟩
      case measure => simp only [intOf]; omega
    · have hltI : ¬ (k : Int) < n := by omega
      go_wp2_with fail
      go_ret
      exact ⟨rfl, hx⟩
/-- why a trace comes to nothing -/
def badT (n k : Nat) (pc halt steps : Int) : Prop := n = 0 ∨ rightS pc halt k = false ∨ steps < 0 ∨ 65536 < steps
set_option maxRecDepth 100000 in
set_option maxHeartbeats 2000000 in
theorem wtrace_no (A : Option Addr) (b off cap : Nat) (l : List Ins) (n : Nat) (hn : n = l.length) (h2 : n ≤ 2048) (hok : ∀ i ∈ l, i.ok) (hA : 0 < n → A = some ⟨b, off, none⟩) (pc halt : Int) (A' : Option Addr) (b' off' cap' : Nat) (m : List Int) (k : Nat) (hk : k = m.length) (hA' : 0 < k → A' = some ⟨b', off', none⟩) (steps : Int) (w : World) (hr : 0 < n → Row w b off (inss l)) (hr' : 0 < k → Row w b' off' (mems m)) (hbad : badT n k pc halt steps) :
    Calls Tryz.prog 38 #[.slice A n cap, .agg (stCells pc A' k cap' halt), .int .i64 steps] w fun e w' => e = .returned (.tuple #[.slice none 0 0, .int .i64 2]) ∧ Ext w w' := by
  have x0 : Ext w _ := (Kept.refl _ w).alloc (.cells (stCells pc A' k cap' halt) 70)
  have hS0 := Blk.new w 70 (stCells pc A' k cap' halt)
  have HB := Lib.hid hbad
  have HN := Lib.hid hn
  have HO := Lib.hid hok
  have HA := Lib.hid hA
  have HA' := Lib.hid hA'
  have HR := Lib.hid hr
  have HR' := Lib.hid hr'
  have HK := Lib.hid hk
  clear hbad hn hok hA hA' hr hr' hk
  obtain ⟨C, hC⟩ : ∃ C, C = codeZ l := ⟨_, rfl⟩
  have HC := Lib.hid hC
  clear hC
  go_enter Tryz.func38, Tryz.ntmps38
  go_upto_region 1 with (fail)
  generalize (w.alloc (.cells (stCells pc A' k cap' halt) 70)) = W at x0 hS0 ⊢
  generalize (w : World).heap.size = sb at hS0 ⊢
  go_wp2_with fail
  have hcd := wcode_all A b off cap l n HN.out h2 HO.out HA.out W (fun h => (HR.out h).ext x0)
  rw [← HC.out] at hcd
  by_cases h0 : n = 0
  · rw [show codeK l = 2 by simp [codeK, ← HN.out, h0]] at hcd
    refine hcd.mono ?_
    rintro e w1 ⟨rfl, hx1⟩
    clear hcd
    go_wp2_with fail
    go_ret2
    exact ⟨rfl, (x0.trans hx1).alloc _⟩
  · rw [show codeK l = 0 by simp [codeK, ← HN.out, h0]] at hcd
    refine hcd.mono ?_
    rintro e w1 ⟨rfl, hx1⟩
    clear hcd
    go_upto_region 4 with (fail)
    have x2 : Ext w (w1.alloc (.cells C.cells 30)) := (x0.trans hx1).alloc _
    have hS2 := Blk.alloc (Blk.ext hS0 hx1) (.cells C.cells 30)
    generalize (w1.alloc (.cells C.cells 30)) = W2 at x2 hS2 ⊢
    generalize (w1 : World).heap.size = cbk at ⊢
    clear hS0 hx1 x0
    have i1 := Blk.has hS2
    have i2 := Blk.gets hS2
    have i3 := hS2.lt
    cases hrt : rightS pc halt k with
    | false =>
      have HRT := Lib.hid hrt
      clear hrt
      go_wp2_with fail
      refine (memtree_no pc halt A' cap' k HRT.out _).mono ?_
      rintro e w3 ⟨rfl, hx3⟩
      go_wp2_with fail
      go_ret2
      exact ⟨rfl, x2.trans hx3⟩
    | true =>
      have hst : steps < 0 ∨ 65536 < steps := by
        rcases HB.out with h | h | h | h
        · exact absurd h h0
        · rw [hrt] at h; cases h
        · exact .inl h
        · exact .inr h
      have HRT := Lib.hid hrt
      clear hrt
      go_wp2_with fail
      refine (memtree_ok pc halt A' b' off' cap' m k HK.out HRT.out HA'.out _ (fun h => (HR'.out h).ext x2)).mono ?_
      rintro e w3 ⟨q, rfl, hq, hx3⟩
      clear hq i1 i2 i3
      rcases hst with h | h
      · go_wp2_with fail
        go_ret2
        exact ⟨rfl, x2.trans hx3⟩
      · have h' : ¬ steps < 0 := by omega
        go_wp2_with fail
        go_ret2
        exact ⟨rfl, x2.trans hx3⟩
set_option maxRecDepth 100000 in
set_option maxHeartbeats 2000000 in
theorem rtrace_no (A : Option Addr) (b off cap : Nat) (l : List Ins) (n : Nat) (hn : n = l.length) (h2 : n ≤ 2048) (hok : ∀ i ∈ l, i.ok) (hA : 0 < n → A = some ⟨b, off, none⟩) (pc halt : Int) (A' : Option Addr) (b' off' cap' : Nat) (m : List Int) (k : Nat) (hk : k = m.length) (hA' : 0 < k → A' = some ⟨b', off', none⟩) (steps : Int) (w : World) (hr : 0 < n → Row w b off (inss l)) (hr' : 0 < k → Row w b' off' (mems m)) (hbad : badT n k pc halt steps) :
    Calls Tryz.prog 39 #[.slice A n cap, .agg (stCells pc A' k cap' halt), .int .i64 steps] w fun e w' => e = .returned (.tuple #[.slice none 0 0, .int .i64 2]) ∧ Ext w w' := by
  have x0 : Ext w _ := (Kept.refl _ w).alloc (.cells (stCells pc A' k cap' halt) 61)
  have hS0 := Blk.new w 61 (stCells pc A' k cap' halt)
  have HB := Lib.hid hbad
  have HN := Lib.hid hn
  have HO := Lib.hid hok
  have HA := Lib.hid hA
  have HA' := Lib.hid hA'
  have HR := Lib.hid hr
  have HR' := Lib.hid hr'
  have HK := Lib.hid hk
  clear hbad hn hok hA hA' hr hr' hk
  obtain ⟨C, hC⟩ : ∃ C, C = codeZ l := ⟨_, rfl⟩
  have HC := Lib.hid hC
  clear hC
  obtain ⟨D, hD⟩ : ∃ D, D = stZ pc halt m := ⟨_, rfl⟩
  have HD := Lib.hid hD
  clear hD
  go_enter Tryz.func39, Tryz.ntmps39
  go_upto_region 1 with (fail)
  generalize (w.alloc (.cells (stCells pc A' k cap' halt) 61)) = W at x0 hS0 ⊢
  generalize (w : World).heap.size = sb at hS0 ⊢
  go_wp2_with fail
  have hcd := rcode_all A b off cap l n HN.out h2 HO.out HA.out W (fun h => (HR.out h).ext x0)
  rw [← HC.out] at hcd
  by_cases h0 : n = 0
  · rw [show codeK l = 2 by simp [codeK, ← HN.out, h0]] at hcd
    refine hcd.mono ?_
    rintro e w1 ⟨rfl, hx1⟩
    clear hcd
    go_wp2_with fail
    go_ret2
    exact ⟨rfl, (x0.trans hx1).alloc _⟩
  · rw [show codeK l = 0 by simp [codeK, ← HN.out, h0]] at hcd
    refine hcd.mono ?_
    rintro e w1 ⟨rfl, hx1⟩
    clear hcd
    go_upto_region 4 with (fail)
    have x2 : Ext w (w1.alloc (.cells C.cells 23)) := (x0.trans hx1).alloc _
    have hS2 := Blk.alloc (Blk.ext hS0 hx1) (.cells C.cells 23)
    generalize (w1.alloc (.cells C.cells 23)) = W2 at x2 hS2 ⊢
    generalize (w1 : World).heap.size = cbk at ⊢
    clear hS0 hx1 x0
    have i1 := Blk.has hS2
    have i2 := Blk.gets hS2
    have i3 := hS2.lt
    go_wp2_with fail
    have hst := rstate_all pc halt A' b' off' cap' m k HK.out HA'.out W2 (fun h => (HR'.out h).ext x2)
    rw [← HD.out] at hst
    cases hrt : rightS pc halt k with
    | false =>
      rw [show stK pc halt m = 2 by simp [stK, ← HK.out, hrt]] at hst
      refine hst.mono ?_
      rintro e w3 ⟨rfl, hx3⟩
      clear hst i1 i2 i3
      go_wp2_with fail
      go_ret2
      exact ⟨rfl, (x2.trans hx3).alloc _⟩
    | true =>
      have hsp : steps < 0 ∨ 65536 < steps := by
        rcases HB.out with h | h | h | h
        · exact absurd h h0
        · rw [hrt] at h; cases h
        · exact .inl h
        · exact .inr h
      rw [show stK pc halt m = 0 by simp [stK, ← HK.out, hrt]] at hst
      refine hst.mono ?_
      rintro e w3 ⟨rfl, hx3⟩
      clear hst i1 i2 i3 hrt
      rcases hsp with h | h
      · go_wp2_with fail
        go_ret2
        exact ⟨rfl, (x2.trans hx3).alloc _⟩
      · have h' : ¬ steps < 0 := by omega
        go_wp2_with fail
        go_ret2
        exact ⟨rfl, (x2.trans hx3).alloc _⟩
end Go.Proofs.YtahljceanodhkaaGreatDoor
