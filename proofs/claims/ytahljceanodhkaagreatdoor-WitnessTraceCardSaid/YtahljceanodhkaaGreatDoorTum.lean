/- Several texts joined: Zhd. -/
import Derived.Test.YtahljceanodhkaaGreatDoorTtf
import Derived.Test.YtahljceanodhkaaGreatDoorTui
/- The document's answer of layer 15: Step, case by case. -/
namespace Go.Proofs.YtahljceanodhkaaGreatDoor
open Go.RowKit
set_option maxRecDepth 100000 in
set_option maxHeartbeats 20000000 in
theorem rst_gd (A : Option Addr) (b off n cap : Nat) (c : List Ins) (x : Int) (g0 off' k cap' : Nat) (m : List Int) (w : World) (h : RPre w b off n A c g0 off' k x 0 m) (o : Option Ins) (r : Int × Int × List Int) (hnx : nextI c x k = o)
    (hI : (∃ (a y z p : Nat), o = some ⟨15, a, y, z⟩ ∧ (a < k) ∧ (y < k) ∧ (z < k) ∧ (p < k) ∧ (farI ⟨15, a, y, z⟩ m = (p : Int)) ∧ r = execI ⟨15, a, y, z⟩ x m) ∨ (∃ (q y z a : Nat), o = some ⟨16, q, y, z⟩ ∧ (q < k) ∧ (y < k) ∧ (z < k) ∧ (a < k) ∧ (farI ⟨16, q, y, z⟩ m = (a : Int)) ∧ r = execI ⟨16, q, y, z⟩ x m) ∨ (∃ (a : Nat) (y z : Int), o = some ⟨19, a, y, z⟩ ∧ r = execI ⟨19, a, y, z⟩ x m) ∨ (∃ (a y : Nat) (z : Int), o = some ⟨20, a, y, z⟩ ∧ (y < k) ∧ r = execI ⟨20, a, y, z⟩ x m) ∨ (∃ (a y : Nat) (z : Int), o = some ⟨21, a, y, z⟩ ∧ (y < k) ∧ r = execI ⟨21, a, y, z⟩ x m)) :
    Calls Tryz.prog 88 #[.slice A n cap, .agg (stCells x (some ⟨g0, off', none⟩) k cap' 0)] w fun e w' => ∃ v, e = .returned v ∧ OwnsS w w' v k r.1 r.2.1 r.2.2 := by
  have HNX := Lib.hid hnx
  have HI := Lib.hid hI
  clear hnx hI
  obtain ⟨k1, k2, h3, h4, h5, h6⟩ := rightS_inv h.right
  have HH := Lib.hid h
  clear h
  have hx0 : Ext w _ := ((Kept.refl _ w).alloc (.cells (stCells x (some ⟨g0, off', none⟩) k cap' 0) 61)).alloc (.cells (stCells 0 none 0 0 0) 61)
  have hA0 : Blk _ w.heap.size 61 (stCells x (some ⟨g0, off', none⟩) k cap' 0) := Blk.alloc (Blk.new w _ _) (.cells (stCells 0 none 0 0 0) 61)
  have hR0 : Blk _ (w.heap.size + 1) 61 (stCells 0 none 0 0 0) := Blk.new' (w.alloc (.cells (stCells x (some ⟨g0, off', none⟩) k cap' 0) 61)) _ _ _ (by simp)
  go_enter Tryz.func88, Tryz.ntmps88
  go_upto_region 1 with (fail)
  generalize ((w.alloc (.cells (stCells x (some ⟨g0, off', none⟩) k cap' 0) 61)).alloc (.cells (stCells 0 none 0 0 0) 61)) = W0 at hx0 hA0 hR0 ⊢
  obtain ⟨sb, hsb⟩ : ∃ sb, sb = w.heap.size := ⟨_, rfl⟩
  rw [← hsb] at hA0 hR0 ⊢
  have hsbw : w.heap.size ≤ sb := by omega
  clear hsb
  have hrow := HH.out.mrow.ext hx0
  have hlR := hR0.lt
  apply fork5 (F := fun W g c1 pb zb => RMid W0 W g c1 pb x 0 k m ∧ zb = zb)
  case h =>
    intro KEY0
    have KEY := Lib.hid KEY0
    clear KEY0
    refine wp_region_4 (fun w2 => Ext W0 w2) (.op 0 2 (.op 1 1 (.op 3 2 (.op 4 1 (.op 6 2 (.op 7 1 (.fork 2 (.fork 5 (.op 8 2 (.op 9 0 (.op 10 0 .nil))) 9 (.op 5 0 (.op 8 2 (.op 10 0 .nil)))) 9 (.op 2 0 (.op 5 0 (.op 8 2 (.op 10 0 .nil))))))))))) (by kernel_rfl) (by kernel_rfl) (by kernel_rfl) (by kernel_rfl) ?_; intro p' hp'; simp only [Pl0.fill, List.getD_cons_zero, List.getD_cons_succ] at hp'; subst hp'
    (repeat (first | ((apply w4_pure); (· go_simp); (· (intro w1; go_simp; try with_reducible rfl)); (intro K hK; go_simp; refine hK _ _ ?_; clear hK K)) | ((apply w4_skip); (· go_simp); (intro K hK; go_simp; refine hK _ _ ?_; clear hK K)) | ((apply w4_take); (· exact (Kept.drew (Kept.refl _ _))); (· go_simp); (· (intro w1 hS; have d1 := Blk.cell (Blk.ext hA0 hS); have d2 := (Blk.ext hA0 hS).lt;  go_simp; try with_reducible rfl)); (intro K hK; go_simp; refine hK _ _ ?_; clear hK K)) | ((apply w4_pass); (· exact (Kept.drew (Kept.refl _ _))); (· go_simp); (intro K hK; go_simp; refine hK _ _ ?_; clear hK K))))
    have y : Ext W0 W0.drew := (Kept.refl _ W0).drew
    refine w4_fork ?_ ?_
    · have yA : Ext W0 (W0.alloc (.cells #[] 21)).drew := ((Kept.refl _ W0).alloc _).drew
      (refine w4_act (fun K hK => ?_); go_simp)
      refine hK.out _ _ (fun _ => yA) ?_
      clear hK K
      (repeat (first | ((apply w4_pure); (· go_simp); (· (intro w1; go_simp; try with_reducible rfl)); (intro K hK; go_simp; refine hK _ _ ?_; clear hK K)) | ((apply w4_skip); (· go_simp); (intro K hK; go_simp; refine hK _ _ ?_; clear hK K))))
      have ho0 : (W0.alloc (.cells #[] 21)).drew.ownsRow W0.heap.size 21 1 (.slice (some ⟨W0.heap.size, 0, none⟩) 0 0) 0 (mems []) := ⟨rfl, .inr ⟨W0.heap.size, 0, #[], rfl, Nat.le_refl _, Blk.drew (Blk.new W0 21 #[]), Nat.le_refl _, by unfold maxLen; omega, rfl, rfl⟩⟩
      refine w4_fork ?_ ?_
      · obtain ⟨v2, w2, hr2, ho2, hk2⟩ := appM _ _ _ _ _ ho0 g0 off' k cap' m HH.out.k_eq (hrow.ext yA) (by omega) yA.size
        have y2' : Ext W0 w2 := yA.trans' hk2 (fun i hi e => by simp [Value.ownBlock] at e; omega)
        rw [Nat.zero_add, List.nil_append] at ho2
        obtain ⟨g, c1, rfl, _, hbg, _⟩ := own_rows ho2 k1 (by omega)
        have HO2 := Lib.hid ho2
        clear ho2 hk2 ho0
        refine w4_act (fun K hK => ?_)
        refine iff_want rfl ?_
        refine Lib.wp_append_run _ _ _ _ _ rfl _ _ rfl rfl _ _ hr2 ?_
        refine hK.out _ _ (fun _ => y2') ?_
        clear hK K hr2
        (repeat (first | ((apply w4_pure); (· go_simp); (· (intro w1; go_simp; try with_reducible rfl)); (intro K hK; go_simp; refine hK _ _ ?_; clear hK K)) | ((apply w4_skip); (· go_simp); (intro K hK; go_simp; refine hK _ _ ?_; clear hK K))))
        (refine w4_act (fun K hK => ?_); go_simp)
        refine hK.out _ _ (fun _ => y2'.alloc _) ?_
        clear hK K
        (repeat (first | ((apply w4_pure); (· go_simp); (· (intro w1; go_simp; try with_reducible rfl)); (intro K hK; go_simp; refine hK _ _ ?_; clear hK K)) | ((apply w4_skip); (· go_simp); (intro K hK; go_simp; refine hK _ _ ?_; clear hK K)) | (refine w4_end (by kernel_rfl) (fun K hK => ?_); go_simp; refine hK.out _ _ ?_; clear hK K))); refine w4_nil ?_
        have x1 : Ext W0 (w2.alloc (.cells (stCells x (some ⟨g, 0, none⟩) k c1 0) 61)) := y2'.alloc _
        have hP := Blk.new w2 61 (stCells x (some ⟨g, 0, none⟩) k c1 0)
        have hM : MemAt (w2.alloc (.cells (stCells x (some ⟨g, 0, none⟩) k c1 0) 61)) W0.heap.size g k c1 m := own_ext HO2.out ((Kept.refl _ w2).alloc _)
        have hgl := (show MemAt w2 W0.heap.size g k c1 m from HO2.out).lt
        generalize (w2.alloc (.cells (stCells x (some ⟨g, 0, none⟩) k c1 0) 61)) = W at x1 hP hM ⊢
        have hw2 : W0.heap.size ≤ w2.heap.size := y2'.size
        generalize (w2 : World).heap.size = pb at hP hw2 hgl ⊢
        have hpg : ¬ pb = g := by omega
        clear HO2 y2' yA hgl
        have HF : RMid W0 W g c1 pb x 0 k m := ⟨x1, hP, hM, hpg, hw2⟩
        clear x1 hP hM hpg hw2
        generalize (W0 : World).heap.size = zb
        exact KEY.out W g c1 pb zb ⟨HF, rfl⟩
      · have hN6 := Blk.new (W0.alloc (.cells #[] 21)).drew 61 (stCells 0 none 0 0 0)
        have yB : Ext W0 ((W0.alloc (.cells #[] 21)).drew.alloc (.cells (stCells 0 none 0 0 0) 61)) := yA.alloc _
        (refine w4_act (fun K hK => ?_); go_simp)
        refine hK.out _ _ (fun _ => yB) ?_
        clear hK K
        (repeat (first | ((apply w4_pure); (· go_simp); (· (intro w1; go_simp; try with_reducible rfl)); (intro K hK; go_simp; refine hK _ _ ?_; clear hK K)) | ((apply w4_skip); (· go_simp); (intro K hK; go_simp; refine hK _ _ ?_; clear hK K))))
        obtain ⟨v2, w2, hr2, ho2, hk2⟩ := appM _ _ _ _ _ (own_ext ho0 ((Kept.refl _ _).alloc (.cells (stCells 0 none 0 0 0) 61))) g0 off' k cap' m HH.out.k_eq (hrow.ext yB) (by omega) yB.size
        have y2' : Ext W0 w2 := yB.trans' hk2 (fun i hi e => by simp [Value.ownBlock] at e; omega)
        rw [Nat.zero_add, List.nil_append] at ho2
        obtain ⟨g, c1, rfl, _, hbg, _⟩ := own_rows ho2 k1 (by omega)
        have HO2 := Lib.hid ho2
        have hpv : (W0.alloc (.cells #[] 21)).drew.heap.size = W0.heap.size + 1 := by show (W0.alloc _).heap.size = _; simp
        rw [hpv] at hN6
        have hN7 := Blk.kept hN6 hk2 (fun e => by simp [Value.ownBlock] at e)
        have hpg : ¬ W0.heap.size + 1 = g := fun e => by
          obtain ⟨_, cur, _, hcur, _⟩ := (show MemAt w2 W0.heap.size g k c1 m from HO2.out).inv
          exact blk_notZ (E := 21) hN7 (by decide) _ _ (by rw [e]; exact hcur)
        clear ho2 hk2 ho0 hN6
        refine w4_act (fun K hK => ?_)
        refine iff_want rfl ?_
        refine Lib.wp_append_run _ _ _ _ _ rfl _ _ rfl rfl _ _ hr2 ?_
        refine hK.out _ _ (fun _ => y2') ?_
        clear hK K hr2
        have hh7 := Blk.has hN7
        have hm7 := Blk.melts hN7
        have hl7 := Blk.lt hN7
        (repeat (first | ((apply w4_pure); (· go_simp); (· (intro w1; go_simp; try with_reducible rfl)); (intro K hK; go_simp; refine hK _ _ ?_; clear hK K)) | ((apply w4_skip); (· go_simp); (intro K hK; go_simp; refine hK _ _ ?_; clear hK K)) | (refine w4_end (by kernel_rfl) (fun K hK => ?_); go_simp; refine hK.out _ _ ?_; clear hK K))); refine w4_nil ?_
        have kp : Kept (· = W0.heap.size + 1) w2 (putAt w2 (W0.heap.size + 1) 0 (stCells x (some ⟨g, 0, none⟩) k c1 0)) := Kept.putAt (Kept.refl _ w2) _ _ _ (fun _ => rfl)
        have x1 : Ext W0 (putAt w2 (W0.heap.size + 1) 0 (stCells x (some ⟨g, 0, none⟩) k c1 0)) := Kept.putAt y2' _ _ _ (fun h => by omega)
        have hP : Blk (putAt w2 (W0.heap.size + 1) 0 (stCells x (some ⟨g, 0, none⟩) k c1 0)) (W0.heap.size + 1) 61 (stCells x (some ⟨g, 0, none⟩) k c1 0) := Blk.put_ hN7 _ _
        have hM : MemAt (putAt w2 (W0.heap.size + 1) 0 (stCells x (some ⟨g, 0, none⟩) k c1 0)) W0.heap.size g k c1 m := (show MemAt w2 W0.heap.size g k c1 m from HO2.out).kept kp (fun e => hpg e.symm)
        generalize (putAt w2 (W0.heap.size + 1) 0 (stCells x (some ⟨g, 0, none⟩) k c1 0)) = W at x1 hP hM kp ⊢
        obtain ⟨pb, hpb⟩ : ∃ pb, pb = W0.heap.size + 1 := ⟨_, rfl⟩
        rw [← hpb] at hP hpg ⊢
        have hw2 : W0.heap.size ≤ pb := by omega
        clear HO2 y2' yA yB hh7 hm7 hl7 hN7 kp hpb hpv
        have HF : RMid W0 W g c1 pb x 0 k m := ⟨x1, hP, hM, hpg, hw2⟩
        clear x1 hP hM hpg hw2
        generalize (W0 : World).heap.size = zb
        exact KEY.out W g c1 pb zb ⟨HF, rfl⟩
    · have hN5 := Blk.new W0.drew 61 (stCells 0 none 0 0 0)
      have yA : Ext W0 (W0.drew.alloc (.cells (stCells 0 none 0 0 0) 61)) := y.alloc _
      (refine w4_act (fun K hK => ?_); go_simp)
      refine hK.out _ _ (fun _ => yA) ?_
      clear hK K
      (repeat (first | ((apply w4_pure); (· go_simp); (· (intro w1; go_simp; try with_reducible rfl)); (intro K hK; go_simp; refine hK _ _ ?_; clear hK K)) | ((apply w4_skip); (· go_simp); (intro K hK; go_simp; refine hK _ _ ?_; clear hK K))))
      have yB : Ext W0 ((W0.drew.alloc (.cells (stCells 0 none 0 0 0) 61)).alloc (.cells #[] 21)) := yA.alloc _
      have hN6 := Blk.alloc hN5 (.cells #[] 21)
      (refine w4_act (fun K hK => ?_); go_simp)
      refine hK.out _ _ (fun _ => yB) ?_
      clear hK K
      (repeat (first | ((apply w4_pure); (· go_simp); (· (intro w1; go_simp; try with_reducible rfl)); (intro K hK; go_simp; refine hK _ _ ?_; clear hK K)) | ((apply w4_skip); (· go_simp); (intro K hK; go_simp; refine hK _ _ ?_; clear hK K))))
      have hpv : (W0.drew.alloc (.cells (stCells 0 none 0 0 0) 61)).heap.size = W0.heap.size + 1 := by simp
      have hpv0 : W0.drew.heap.size = W0.heap.size := rfl
      have ho0 : ((W0.drew.alloc (.cells (stCells 0 none 0 0 0) 61)).alloc (.cells #[] 21)).ownsRow W0.heap.size 21 1 (.slice (some ⟨W0.heap.size + 1, 0, none⟩) 0 0) 0 (mems []) := ⟨rfl, .inr ⟨W0.heap.size + 1, 0, #[], rfl, by omega, Blk.new' (W0.drew.alloc (.cells (stCells 0 none 0 0 0) 61)) 21 #[] _ hpv.symm, Nat.le_refl _, by unfold maxLen; omega, rfl, rfl⟩⟩
      obtain ⟨v2, w2, hr2, ho2, hk2⟩ := appM _ _ _ _ _ ho0 g0 off' k cap' m HH.out.k_eq (hrow.ext yB) (by omega) yB.size
      have y2' : Ext W0 w2 := yB.trans' hk2 (fun i hi e => by simp [Value.ownBlock] at e; omega)
      rw [Nat.zero_add, List.nil_append] at ho2
      obtain ⟨g, c1, rfl, _, hbg, _⟩ := own_rows ho2 k1 (by omega)
      have HO2 := Lib.hid ho2
      rw [hpv0] at hN6
      have hN7 := Blk.kept hN6 hk2 (fun e => by simp [Value.ownBlock] at e)
      have hpg : ¬ W0.heap.size = g := fun e => by
        obtain ⟨_, cur, _, hcur, _⟩ := (show MemAt w2 W0.heap.size g k c1 m from HO2.out).inv
        exact blk_notZ (E := 21) hN7 (by decide) _ _ (by rw [e]; exact hcur)
      clear ho2 hk2 ho0 hN6 hN5
      refine w4_act (fun K hK => ?_)
      refine iff_want rfl ?_
      refine Lib.wp_append_run _ _ _ _ _ rfl _ _ rfl rfl _ _ hr2 ?_
      refine hK.out _ _ (fun _ => y2') ?_
      clear hK K hr2
      have hh7 := Blk.has hN7
      have hm7 := Blk.melts hN7
      have hl7 := Blk.lt hN7
      (repeat (first | ((apply w4_pure); (· go_simp); (· (intro w1; go_simp; try with_reducible rfl)); (intro K hK; go_simp; refine hK _ _ ?_; clear hK K)) | ((apply w4_skip); (· go_simp); (intro K hK; go_simp; refine hK _ _ ?_; clear hK K)) | (refine w4_end (by kernel_rfl) (fun K hK => ?_); go_simp; refine hK.out _ _ ?_; clear hK K))); refine w4_nil ?_
      have kp : Kept (· = W0.heap.size) w2 (putAt w2 W0.heap.size 0 (stCells x (some ⟨g, 0, none⟩) k c1 0)) := Kept.putAt (Kept.refl _ w2) _ _ _ (fun _ => rfl)
      have x1 : Ext W0 (putAt w2 W0.heap.size 0 (stCells x (some ⟨g, 0, none⟩) k c1 0)) := Kept.putAt y2' _ _ _ (fun h => by omega)
      have hP : Blk (putAt w2 W0.heap.size 0 (stCells x (some ⟨g, 0, none⟩) k c1 0)) W0.heap.size 61 (stCells x (some ⟨g, 0, none⟩) k c1 0) := Blk.put_ hN7 _ _
      have hM : MemAt (putAt w2 W0.heap.size 0 (stCells x (some ⟨g, 0, none⟩) k c1 0)) W0.heap.size g k c1 m := (show MemAt w2 W0.heap.size g k c1 m from HO2.out).kept kp (fun e => hpg e.symm)
      generalize (putAt w2 W0.heap.size 0 (stCells x (some ⟨g, 0, none⟩) k c1 0)) = W at x1 hP hM kp ⊢
      clear HO2 y2' yA yB hh7 hm7 hl7 hN7 kp hpv hpv0
      have HF : RMid W0 W g c1 W0.heap.size x 0 k m := ⟨x1, hP, hM, hpg, Nat.le_refl _⟩
      clear x1 hP hM hpg
      generalize hzb : (W0 : World).heap.size + 1 = zb
      clear hzb
      generalize (W0 : World).heap.size = pb at HF ⊢
      exact KEY.out W g c1 pb zb ⟨HF, rfl⟩
  intro W g c1 pb zb ⟨⟨x1, hP, hM, hpg, hw2⟩, _⟩
  have hS1 := Blk.ext hA0 x1
  have hR1 := Blk.ext hR0 x1
  have xw := hx0.trans x1
  have hg0 : W0.heap.size ≤ g := (MemAt.inv hM).2.choose_spec.1
  have i1 := Blk.has hS1
  have i2 := Blk.gets hS1
  have i3 := Blk.cell hS1
  have i4 := hS1.lt
  go_wp2_with fail
  have hrr := rright_any x 0 (some ⟨g0, off', none⟩) k cap' W
  rw [HH.out.right] at hrr
  refine hrr.mono ?_
  rintro e w3 ⟨rfl, hx3⟩
  have hS3 := Blk.ext hS1 hx3
  have hR3 := Blk.ext hR1 hx3
  have hP3 := Blk.ext hP hx3
  have hM3 := hM.ext hx3
  have xw3 := xw.trans hx3
  clear i1 i2 i3 i4 hrr hS1 hR1 hP hM xw hx3
  have i1 := Blk.has hS3
  have i2 := Blk.gets hS3
  have i3 := Blk.cell hS3
  have i4 := hS3.lt
  rcases HI.out with ⟨a, y, z, p, rfl, ha, hy, hzz, hp, hfar, rfl⟩ | ⟨q, y, z, a, rfl, hxx, hy, hzz, ha, hfar, rfl⟩ | ⟨a, y, z, rfl, rfl⟩ | ⟨a, y, z, rfl, hy, rfl⟩ | ⟨a, y, z, rfl, hy, rfl⟩
  · clear HI
    have HF := Lib.hid hfar
    clear hfar
    go_wp2_with fail
    have hrn := rnext_any A b off n cap c x (some ⟨g0, off', none⟩) k cap' w3 HH.out.n2 HH.out.x0 HH.out.right HH.out.n_eq HH.out.hA (fun h0 => (HH.out.row h0).ext xw3)
    rw [HNX.out] at hrn
    refine hrn.mono ?_
    rintro e w4 ⟨rfl, hx4⟩
    simp only [insO, Option.getD_some, Option.isSome_some]
    go_upto_region 5 with (fail)
    have x5 : Ext w3 (w4.alloc (.cells (Ins.cells ⟨15, a, y, z⟩) 89)) := hx4.alloc _
    have hI5 := Blk.new w4 89 (Ins.cells ⟨15, a, y, z⟩)
    generalize (w4.alloc (.cells (Ins.cells ⟨15, a, y, z⟩) 89)) = W5 at x5 hI5 ⊢
    have hl4 : pb < w4.heap.size := (Blk.ext hP3 hx4).lt
    have hl5 : g < w4.heap.size := (hM3.ext hx4).lt
    have hl6 : sb + 1 < w4.heap.size := (Blk.ext hR3 hx4).lt
    generalize (w4 : World).heap.size = ib at hI5 hl4 hl5 hl6 ⊢
    have hS5 := Blk.ext hS3 x5
    have hR5 := Blk.ext hR3 x5
    have hP5 := Blk.ext hP3 x5
    have hM5 := hM3.ext x5
    have xw5 := xw3.trans x5
    clear i1 i2 i3 i4 hrn hS3 hR3 hP3 hM3 xw3 hx4 x5
    have i1 := Blk.cell hI5
    have i2 := hI5.lt
    have i3 := Blk.cell hS5
    have i4 := hS5.lt
    have i5 := Blk.cell hP5
    have i6 := hP5.lt
    have i7 := Blk.frozen hP5
    have hal : a < m.length := by have := HH.out.k_eq; omega
    have haI : (a : Int) < k := by omega
    have ha0 : (0 : Int) ≤ a := by omega
    have hpl : p < m.length := by have := HH.out.k_eq; omega
    have hpI : (p : Int) < k := by omega
    have hp0 : (0 : Int) ≤ p := by omega
    have hrow5 := HH.out.mrow.ext xw5
    have i8 := Blk.has hI5
    have i9 := Blk.gets hI5
    have i10 := Blk.has hS5
    have i11 := Blk.gets hS5
    go_wp2_with fail
    have hpc := rplace15 a y z x 0 g0 off' k cap' m W5 HH.out.k_eq k2 hy hzz HH.out.mok hrow5
    rw [HF.out] at hpc
    refine hpc.mono ?_
    rintro e w5 ⟨rfl, hx6⟩
    have hS7 := Blk.ext hS5 hx6
    have hR7 := Blk.ext hR5 hx6
    have hP7 := Blk.ext hP5 hx6
    have hI7 := Blk.ext hI5 hx6
    have hM7 := hM5.ext hx6
    have xw7 := xw5.trans hx6
    clear i1 i2 i3 i4 i5 i6 i7 i8 i9 i10 i11 hS5 hR5 hP5 hI5 hM5 xw5 hrow5 hpc hx6
    have hS5 := hS7
    have hR5 := hR7
    have hP5 := hP7
    have hI5 := hI7
    have hM5 := hM7
    have xw5 := xw7
    clear hS7 hR7 hP7 hI7 hM7 xw7
    have i1 := Blk.cell hI5
    have i2 := hI5.lt
    have i3 := Blk.cell hS5
    have i4 := hS5.lt
    have i5 := Blk.cell hP5
    have i6 := hP5.lt
    have i7 := Blk.frozen hP5
    go_upto_region 12 with (fail)
    have k6 : Kept (· = pb) w5 (w5.setCell ⟨pb, 0, none⟩ (.int .i64 (x + 1))) := Kept.setCell (Kept.refl _ w5) _ _ (fun _ => rfl)
    have hP6 : Blk (w5.setCell ⟨pb, 0, none⟩ (.int .i64 (x + 1))) pb 61 (stCells (x + 1) (some ⟨g, 0, none⟩) k c1 0) := Blk.set_ hP5 0 (.int .i64 (x + 1))
    have hS6 := Blk.kept hS5 k6 (by omega)
    have hR6 := Blk.kept hR5 k6 (by omega)
    have hI6 := Blk.kept hI5 k6 (by omega)
    have hM6 := hM5.kept k6 (by omega)
    have xw6 : Ext w (w5.setCell ⟨pb, 0, none⟩ (.int .i64 (x + 1))) := xw5.trans' k6 (fun i hi e => by have := hx0.size; omega)
    generalize (w5.setCell ⟨pb, 0, none⟩ (.int .i64 (x + 1))) = W6 at k6 hP6 hS6 hR6 hI6 hM6 xw6 ⊢
    clear i1 i2 i3 i4 i5 i6 i7 hS5 hR5 hP5 hM5 hI5 xw5 k6
    have i1 := Blk.cell hI6
    have i2 := hI6.lt
    have i3 := Blk.cell hS6
    have i4 := hS6.lt
    have i5 := Blk.cell hP6
    have i6 := hP6.lt
    have hrow6 := HH.out.mrow.ext xw6
    have hgl6 := hrow6.lt
    obtain ⟨v, hv⟩ : ∃ v, v = m[p] := ⟨_, rfl⟩
    have cv := hrow6.mem p hpl
    rw [← hv] at cv
    have Hvr : Hid (i32ok v) := Lib.hid (by rw [hv]; exact HH.out.mok _ (List.getElem_mem hpl))
    have HE : Hid (execI ⟨15, a, y, z⟩ x m = (x + 1, 0, m.set a v)) := Lib.hid (by simp [execI, mput, HF.out, mget_in hpl, hv])
    clear hv
    go_upto_region 21 with (fail)
    refine wp_region_3 (fun w3 => Ext W6 w3) [(0, 2), (1, 1), (2, 2), (3, 1), (4, 2), (5, 1), (6, 1), (7, 1), (8, 0), (9, 2), (10, 1), (11, 2), (12, 0)] (by kernel_rfl) (by kernel_rfl) (by kernel_rfl) (by kernel_rfl) ?_; intro l' hl'; simp only [List.map_cons, List.map_nil, List.getD_cons_zero, List.getD_cons_succ] at hl'; subst hl'
    (repeat (first | ((apply w3_pure); (· go_simp); (· (intro w1; go_simp; try with_reducible rfl)); (intro K hK; go_simp; refine hK _ _ ?_; clear hK K)) | ((apply w3_skip); (· go_simp); (intro K hK; go_simp; refine hK _ _ ?_; clear hK K)) | ((apply w3_take); (· exact (Kept.drew (Kept.refl _ _))); (· go_simp); (· (intro w1 hS; have d1 := Blk.cell (Blk.ext hI6 hS); have d2 := (Blk.ext hI6 hS).lt; have d3 := Blk.cell (Blk.ext hP6 hS); have d4 := (Blk.ext hP6 hS).lt; have d5 := Blk.cell (Blk.ext hS6 hS); have d6 := (Blk.ext hS6 hS).lt; have d7 := Nat.lt_of_lt_of_le hgl6 hS.size; have e0 := (Kept.cell hS (p := ⟨g0, off' + p, none⟩) hgl6 (fun f => f)).trans cv; have f1 := Blk.has (Blk.ext hI6 hS); have f2 := Blk.gets (Blk.ext hI6 hS); have f3 := Blk.has (Blk.ext hS6 hS); have f4 := Blk.gets (Blk.ext hS6 hS);  go_simp; try with_reducible rfl)); (intro K hK; go_simp; refine hK _ _ ?_; clear hK K)) | ((apply w3_pass); (· exact (Kept.drew (Kept.refl _ _))); (· go_simp); (intro K hK; go_simp; refine hK _ _ ?_; clear hK K))))
    (refine w3_act (fun K hK => ?_); go_simp)
    go_wp2_with fail
    have hpc := rplace15 a y z x 0 g0 off' k cap' m _ HH.out.k_eq k2 hy hzz HH.out.mok (hrow6.ext ((Kept.refl _ W6).drew))
    rw [HF.out] at hpc
    refine hpc.mono ?_
    rintro e w7 ⟨rfl, hx7⟩
    have y7 : Ext W6 w7 := ((Kept.refl _ W6).drew).trans hx7
    refine hK.out _ _ (fun _ => y7) ?_
    clear hK K hpc
    (repeat (first | ((apply w3_pure); (· go_simp); (· (intro w1; go_simp; try with_reducible rfl)); (intro K hK; go_simp; refine hK _ _ ?_; clear hK K)) | ((apply w3_skip); (· go_simp); (intro K hK; go_simp; refine hK _ _ ?_; clear hK K)) | ((apply w3_take); (· exact y7); (· go_simp); (· (intro w1 hS; have d1 := Blk.cell (Blk.ext hI6 hS); have d2 := (Blk.ext hI6 hS).lt; have d3 := Blk.cell (Blk.ext hP6 hS); have d4 := (Blk.ext hP6 hS).lt; have d5 := Blk.cell (Blk.ext hS6 hS); have d6 := (Blk.ext hS6 hS).lt; have d7 := Nat.lt_of_lt_of_le hgl6 hS.size; have e0 := (Kept.cell hS (p := ⟨g0, off' + p, none⟩) hgl6 (fun f => f)).trans cv; have f1 := Blk.has (Blk.ext hI6 hS); have f2 := Blk.gets (Blk.ext hI6 hS); have f3 := Blk.has (Blk.ext hS6 hS); have f4 := Blk.gets (Blk.ext hS6 hS);  go_simp; try with_reducible rfl)); (intro K hK; go_simp; refine hK _ _ ?_; clear hK K)) | ((apply w3_pass); (· exact y7); (· go_simp); (intro K hK; go_simp; refine hK _ _ ?_; clear hK K))))
    have hP8 := Blk.ext hP6 y7
    have hR8 := Blk.ext hR6 y7
    have hI8 := Blk.ext hI6 y7
    have hM8 := hM6.ext y7
    have xw8 := xw6.trans y7
    have j1 := hM8.cell a hal
    have j2 := hM8.frozen a
    have j3 := hM8.lt
    (repeat (first | ((apply w3_pure); (· go_simp); (· (intro w1; go_simp; try with_reducible rfl)); (intro K hK; go_simp; refine hK _ _ ?_; clear hK K)) | ((apply w3_skip); (· go_simp); (intro K hK; go_simp; refine hK _ _ ?_; clear hK K)) | (refine w3_end (by kernel_rfl) (fun K hK => ?_); go_simp; refine hK.out _ _ ?_; clear hK K))); refine w3_nil ?_
    have hM7 : MemAt (w7.setCell ⟨g, a, none⟩ (.int .i32 (v))) W0.heap.size g k c1 (m.set a (v)) := (hM8.set a hal (v))
    have k7 : Kept (· = g) w7 (w7.setCell ⟨g, a, none⟩ (.int .i32 (v))) := (Kept.setCell (Kept.refl _ w7) _ _ (fun _ => rfl))
    have hP7 := Blk.kept hP8 k7 hpg
    have hR7 := Blk.kept hR8 k7 (by omega)
    have hI7 := Blk.kept hI8 k7 (by omega)
    have xw7 : Ext w (w7.setCell ⟨g, a, none⟩ (.int .i32 (v))) := xw8.trans' k7 (fun i hi e => by have := hx0.size; omega)
    generalize (w7.setCell ⟨g, a, none⟩ (.int .i32 (v))) = W7 at hM7 k7 hP7 hR7 hI7 xw7 ⊢
    clear j1 j2 j3 i1 i2 i3 i4 i5 i6 hM6 hP6 hR6 hI6 hS6 xw6 hrow6 hgl6 hM8 hP8 hR8 hI8 xw8
    have q1 := Blk.has hP7
    have q2 := Blk.gets hP7
    have q3 := hP7.lt
    have q4 := Blk.has hR7
    have q5 := Blk.melts hR7
    have q6 := Blk.cell hI7
    have q7 := hI7.lt
    go_wp2_with fail
    refine ret_cell Tryz.results88 rfl rfl aggRst (by exact sizeRst) (Blk.put_ hR7 _ _) ?_
    have kf : Kept (· = sb + 1) W7 (putAt W7 (sb + 1) 0 (stCells (x + 1) (some ⟨g, 0, none⟩) k c1 (0))) := Kept.putAt (Kept.refl _ W7) _ _ _ (fun _ => rfl)
    rw [HE.out]
    exact ⟨_, rfl, g, c1, rfl, own_mono (hM7.kept kf (by omega)) (by have := hx0.size; omega), xw7.trans' kf (fun i hi e => by omega)⟩
  · clear HI
    have HF := Lib.hid hfar
    clear hfar
    go_wp2_with fail
    have hrn := rnext_any A b off n cap c x (some ⟨g0, off', none⟩) k cap' w3 HH.out.n2 HH.out.x0 HH.out.right HH.out.n_eq HH.out.hA (fun h0 => (HH.out.row h0).ext xw3)
    rw [HNX.out] at hrn
    refine hrn.mono ?_
    rintro e w4 ⟨rfl, hx4⟩
    simp only [insO, Option.getD_some, Option.isSome_some]
    go_upto_region 5 with (fail)
    have x5 : Ext w3 (w4.alloc (.cells (Ins.cells ⟨16, q, y, z⟩) 89)) := hx4.alloc _
    have hI5 := Blk.new w4 89 (Ins.cells ⟨16, q, y, z⟩)
    generalize (w4.alloc (.cells (Ins.cells ⟨16, q, y, z⟩) 89)) = W5 at x5 hI5 ⊢
    have hl4 : pb < w4.heap.size := (Blk.ext hP3 hx4).lt
    have hl5 : g < w4.heap.size := (hM3.ext hx4).lt
    have hl6 : sb + 1 < w4.heap.size := (Blk.ext hR3 hx4).lt
    generalize (w4 : World).heap.size = ib at hI5 hl4 hl5 hl6 ⊢
    have hS5 := Blk.ext hS3 x5
    have hR5 := Blk.ext hR3 x5
    have hP5 := Blk.ext hP3 x5
    have hM5 := hM3.ext x5
    have xw5 := xw3.trans x5
    clear i1 i2 i3 i4 hrn hS3 hR3 hP3 hM3 xw3 hx4 x5
    have i1 := Blk.cell hI5
    have i2 := hI5.lt
    have i3 := Blk.cell hS5
    have i4 := hS5.lt
    have i5 := Blk.cell hP5
    have i6 := hP5.lt
    have i7 := Blk.frozen hP5
    have hal : a < m.length := by have := HH.out.k_eq; omega
    have haI : (a : Int) < k := by omega
    have ha0 : (0 : Int) ≤ a := by omega
    have hzl : z < m.length := by have := HH.out.k_eq; omega
    have hzI : (z : Int) < k := by omega
    have hz0 : (0 : Int) ≤ z := by omega
    have hrow5 := HH.out.mrow.ext xw5
    have i8 := Blk.has hI5
    have i9 := Blk.gets hI5
    have i10 := Blk.has hS5
    have i11 := Blk.gets hS5
    go_wp2_with fail
    have hpl := rplace16 q y z x 0 g0 off' k cap' m W5 HH.out.k_eq k2 hxx hy hzz HH.out.mok hrow5
    rw [HF.out] at hpl
    refine hpl.mono ?_
    rintro e w5 ⟨rfl, hx6⟩
    have hS7 := Blk.ext hS5 hx6
    have hR7 := Blk.ext hR5 hx6
    have hP7 := Blk.ext hP5 hx6
    have hI7 := Blk.ext hI5 hx6
    have hM7 := hM5.ext hx6
    have xw7 := xw5.trans hx6
    clear i1 i2 i3 i4 i5 i6 i7 i8 i9 i10 i11 hS5 hR5 hP5 hI5 hM5 xw5 hrow5 hpl hx6
    have hS5 := hS7
    have hR5 := hR7
    have hP5 := hP7
    have hI5 := hI7
    have hM5 := hM7
    have xw5 := xw7
    clear hS7 hR7 hP7 hI7 hM7 xw7
    have i1 := Blk.cell hI5
    have i2 := hI5.lt
    have i3 := Blk.cell hS5
    have i4 := hS5.lt
    have i5 := Blk.cell hP5
    have i6 := hP5.lt
    have i7 := Blk.frozen hP5
    go_upto_region 12 with (fail)
    have k6 : Kept (· = pb) w5 (w5.setCell ⟨pb, 0, none⟩ (.int .i64 (x + 1))) := Kept.setCell (Kept.refl _ w5) _ _ (fun _ => rfl)
    have hP6 : Blk (w5.setCell ⟨pb, 0, none⟩ (.int .i64 (x + 1))) pb 61 (stCells (x + 1) (some ⟨g, 0, none⟩) k c1 0) := Blk.set_ hP5 0 (.int .i64 (x + 1))
    have hS6 := Blk.kept hS5 k6 (by omega)
    have hR6 := Blk.kept hR5 k6 (by omega)
    have hI6 := Blk.kept hI5 k6 (by omega)
    have hM6 := hM5.kept k6 (by omega)
    have xw6 : Ext w (w5.setCell ⟨pb, 0, none⟩ (.int .i64 (x + 1))) := xw5.trans' k6 (fun i hi e => by have := hx0.size; omega)
    generalize (w5.setCell ⟨pb, 0, none⟩ (.int .i64 (x + 1))) = W6 at k6 hP6 hS6 hR6 hI6 hM6 xw6 ⊢
    clear i1 i2 i3 i4 i5 i6 i7 hS5 hR5 hP5 hM5 hI5 xw5 k6
    have i1 := Blk.cell hI6
    have i2 := hI6.lt
    have i3 := Blk.cell hS6
    have i4 := hS6.lt
    have i5 := Blk.cell hP6
    have i6 := hP6.lt
    have hrow6 := HH.out.mrow.ext xw6
    have hgl6 := hrow6.lt
    obtain ⟨v, hv⟩ : ∃ v, v = m[z] := ⟨_, rfl⟩
    have cv := hrow6.mem z hzl
    rw [← hv] at cv
    have Hvr : Hid (i32ok v) := Lib.hid (by rw [hv]; exact HH.out.mok _ (List.getElem_mem hzl))
    have HE : Hid (execI ⟨16, q, y, z⟩ x m = (x + 1, 0, m.set a v)) := Lib.hid (by simp [execI, mput, HF.out, mget_in hzl, hv])
    clear hv
    go_upto_region 23 with (fail)
    refine wp_region_3 (fun w3 => Ext W6 w3) [(0, 2), (1, 1), (2, 1), (3, 1), (5, 2), (6, 1), (7, 2), (8, 1), (9, 2), (10, 1), (4, 0), (11, 2), (12, 0)] (by kernel_rfl) (by kernel_rfl) (by kernel_rfl) (by kernel_rfl) ?_; intro l' hl'; simp only [List.map_cons, List.map_nil, List.getD_cons_zero, List.getD_cons_succ] at hl'; subst hl'
    (repeat (first | ((apply w3_pure); (· go_simp); (· (intro w1; go_simp; try with_reducible rfl)); (intro K hK; go_simp; refine hK _ _ ?_; clear hK K)) | ((apply w3_skip); (· go_simp); (intro K hK; go_simp; refine hK _ _ ?_; clear hK K)) | ((apply w3_take); (· exact (Kept.drew (Kept.refl _ _))); (· go_simp); (· (intro w1 hS; have d1 := Blk.cell (Blk.ext hI6 hS); have d2 := (Blk.ext hI6 hS).lt; have d3 := Blk.cell (Blk.ext hP6 hS); have d4 := (Blk.ext hP6 hS).lt; have d5 := Blk.cell (Blk.ext hS6 hS); have d6 := (Blk.ext hS6 hS).lt; have d7 := Nat.lt_of_lt_of_le hgl6 hS.size; have e0 := (Kept.cell hS (p := ⟨g0, off' + z, none⟩) hgl6 (fun f => f)).trans cv; have f1 := Blk.has (Blk.ext hI6 hS); have f2 := Blk.gets (Blk.ext hI6 hS); have f3 := Blk.has (Blk.ext hS6 hS); have f4 := Blk.gets (Blk.ext hS6 hS);  go_simp; try with_reducible rfl)); (intro K hK; go_simp; refine hK _ _ ?_; clear hK K)) | ((apply w3_pass); (· exact (Kept.drew (Kept.refl _ _))); (· go_simp); (intro K hK; go_simp; refine hK _ _ ?_; clear hK K))))
    (refine w3_act (fun K hK => ?_); go_simp)
    go_wp2_with fail
    have hpl := rplace16 q y z x 0 g0 off' k cap' m _ HH.out.k_eq k2 hxx hy hzz HH.out.mok (hrow6.ext ((Kept.refl _ W6).drew))
    rw [HF.out] at hpl
    refine hpl.mono ?_
    rintro e w7 ⟨rfl, hx7⟩
    have y7 : Ext W6 w7 := ((Kept.refl _ W6).drew).trans hx7
    refine hK.out _ _ (fun _ => y7) ?_
    clear hK K hpl
    (repeat (first | ((apply w3_pure); (· go_simp); (· (intro w1; go_simp; try with_reducible rfl)); (intro K hK; go_simp; refine hK _ _ ?_; clear hK K)) | ((apply w3_skip); (· go_simp); (intro K hK; go_simp; refine hK _ _ ?_; clear hK K)) | ((apply w3_take); (· exact y7); (· go_simp); (· (intro w1 hS; have d1 := Blk.cell (Blk.ext hI6 hS); have d2 := (Blk.ext hI6 hS).lt; have d3 := Blk.cell (Blk.ext hP6 hS); have d4 := (Blk.ext hP6 hS).lt; have d5 := Blk.cell (Blk.ext hS6 hS); have d6 := (Blk.ext hS6 hS).lt; have d7 := Nat.lt_of_lt_of_le hgl6 hS.size; have e0 := (Kept.cell hS (p := ⟨g0, off' + z, none⟩) hgl6 (fun f => f)).trans cv; have f1 := Blk.has (Blk.ext hI6 hS); have f2 := Blk.gets (Blk.ext hI6 hS); have f3 := Blk.has (Blk.ext hS6 hS); have f4 := Blk.gets (Blk.ext hS6 hS);  go_simp; try with_reducible rfl)); (intro K hK; go_simp; refine hK _ _ ?_; clear hK K)) | ((apply w3_pass); (· exact y7); (· go_simp); (intro K hK; go_simp; refine hK _ _ ?_; clear hK K))))
    have hP8 := Blk.ext hP6 y7
    have hR8 := Blk.ext hR6 y7
    have hI8 := Blk.ext hI6 y7
    have hM8 := hM6.ext y7
    have xw8 := xw6.trans y7
    have j1 := hM8.cell a hal
    have j2 := hM8.frozen a
    have j3 := hM8.lt
    (repeat (first | ((apply w3_pure); (· go_simp); (· (intro w1; go_simp; try with_reducible rfl)); (intro K hK; go_simp; refine hK _ _ ?_; clear hK K)) | ((apply w3_skip); (· go_simp); (intro K hK; go_simp; refine hK _ _ ?_; clear hK K)) | (refine w3_end (by kernel_rfl) (fun K hK => ?_); go_simp; refine hK.out _ _ ?_; clear hK K))); refine w3_nil ?_
    have hM7 : MemAt (w7.setCell ⟨g, a, none⟩ (.int .i32 (v))) W0.heap.size g k c1 (m.set a (v)) := (hM8.set a hal (v))
    have k7 : Kept (· = g) w7 (w7.setCell ⟨g, a, none⟩ (.int .i32 (v))) := (Kept.setCell (Kept.refl _ w7) _ _ (fun _ => rfl))
    have hP7 := Blk.kept hP8 k7 hpg
    have hR7 := Blk.kept hR8 k7 (by omega)
    have hI7 := Blk.kept hI8 k7 (by omega)
    have xw7 : Ext w (w7.setCell ⟨g, a, none⟩ (.int .i32 (v))) := xw8.trans' k7 (fun i hi e => by have := hx0.size; omega)
    generalize (w7.setCell ⟨g, a, none⟩ (.int .i32 (v))) = W7 at hM7 k7 hP7 hR7 hI7 xw7 ⊢
    clear j1 j2 j3 i1 i2 i3 i4 i5 i6 hM6 hP6 hR6 hI6 hS6 xw6 hrow6 hgl6 hM8 hP8 hR8 hI8 xw8
    have q1 := Blk.has hP7
    have q2 := Blk.gets hP7
    have q3 := hP7.lt
    have q4 := Blk.has hR7
    have q5 := Blk.melts hR7
    have q6 := Blk.cell hI7
    have q7 := hI7.lt
    go_wp2_with fail
    refine ret_cell Tryz.results88 rfl rfl aggRst (by exact sizeRst) (Blk.put_ hR7 _ _) ?_
    have kf : Kept (· = sb + 1) W7 (putAt W7 (sb + 1) 0 (stCells (x + 1) (some ⟨g, 0, none⟩) k c1 (0))) := Kept.putAt (Kept.refl _ W7) _ _ _ (fun _ => rfl)
    rw [HE.out]
    exact ⟨_, rfl, g, c1, rfl, own_mono (hM7.kept kf (by omega)) (by have := hx0.size; omega), xw7.trans' kf (fun i hi e => by omega)⟩
  · clear HI
    go_wp2_with fail
    have hrn := rnext_any A b off n cap c x (some ⟨g0, off', none⟩) k cap' w3 HH.out.n2 HH.out.x0 HH.out.right HH.out.n_eq HH.out.hA (fun h0 => (HH.out.row h0).ext xw3)
    rw [HNX.out] at hrn
    refine hrn.mono ?_
    rintro e w4 ⟨rfl, hx4⟩
    simp only [insO, Option.getD_some, Option.isSome_some]
    go_upto_region 5 with (fail)
    have x5 : Ext w3 (w4.alloc (.cells (Ins.cells ⟨19, a, y, z⟩) 89)) := hx4.alloc _
    have hI5 := Blk.new w4 89 (Ins.cells ⟨19, a, y, z⟩)
    generalize (w4.alloc (.cells (Ins.cells ⟨19, a, y, z⟩) 89)) = W5 at x5 hI5 ⊢
    have hl4 : pb < w4.heap.size := (Blk.ext hP3 hx4).lt
    have hl5 : g < w4.heap.size := (hM3.ext hx4).lt
    have hl6 : sb + 1 < w4.heap.size := (Blk.ext hR3 hx4).lt
    generalize (w4 : World).heap.size = ib at hI5 hl4 hl5 hl6 ⊢
    have hS5 := Blk.ext hS3 x5
    have hR5 := Blk.ext hR3 x5
    have hP5 := Blk.ext hP3 x5
    have hM5 := hM3.ext x5
    have xw5 := xw3.trans x5
    clear i1 i2 i3 i4 hrn hS3 hR3 hP3 hM3 xw3 hx4 x5
    have i1 := Blk.cell hI5
    have i2 := hI5.lt
    have i3 := Blk.cell hS5
    have i4 := hS5.lt
    have i5 := Blk.cell hP5
    have i6 := hP5.lt
    have i7 := Blk.frozen hP5
    have HE : Hid (execI ⟨19, a, y, z⟩ x m = ((a : Int), 0, m)) := Lib.hid (by simp [execI])
    go_upto_region 12 with (fail)
    have k6 : Kept (· = pb) W5 (W5.setCell ⟨pb, 0, none⟩ (.int .i64 (x + 1))) := Kept.setCell (Kept.refl _ W5) _ _ (fun _ => rfl)
    have hP6 : Blk (W5.setCell ⟨pb, 0, none⟩ (.int .i64 (x + 1))) pb 61 (stCells (x + 1) (some ⟨g, 0, none⟩) k c1 0) := Blk.set_ hP5 0 (.int .i64 (x + 1))
    have hS6 := Blk.kept hS5 k6 (by omega)
    have hR6 := Blk.kept hR5 k6 (by omega)
    have hI6 := Blk.kept hI5 k6 (by omega)
    have hM6 := hM5.kept k6 (by omega)
    have xw6 : Ext w (W5.setCell ⟨pb, 0, none⟩ (.int .i64 (x + 1))) := xw5.trans' k6 (fun i hi e => by have := hx0.size; omega)
    generalize (W5.setCell ⟨pb, 0, none⟩ (.int .i64 (x + 1))) = W6 at k6 hP6 hS6 hR6 hI6 hM6 xw6 ⊢
    clear i1 i2 i3 i4 i5 i6 i7 hS5 hR5 hP5 hM5 hI5 xw5 k6
    have i1 := Blk.cell hI6
    have i2 := hI6.lt
    have i3 := Blk.cell hS6
    have i4 := hS6.lt
    have i5 := Blk.cell hP6
    have i6 := hP6.lt
    have hrow6 := HH.out.mrow.ext xw6
    have hgl6 := hrow6.lt
    have i7 := Blk.frozen hP6
    go_upto_region 35 with (fail)
    have k7 : Kept (· = pb) W6 (W6.setCell ⟨pb, 0, none⟩ (.int .i64 (a : Int))) := Kept.setCell (Kept.refl _ W6) _ _ (fun _ => rfl)
    have hP7 : Blk (W6.setCell ⟨pb, 0, none⟩ (.int .i64 (a : Int))) pb 61 (stCells (a : Int) (some ⟨g, 0, none⟩) k c1 0) := Blk.set_ hP6 0 (.int .i64 (a : Int))
    have hR7 := Blk.kept hR6 k7 (by omega)
    have hI7 := Blk.kept hI6 k7 (by omega)
    have hM7 := hM6.kept k7 (by omega)
    have xw7 : Ext w (W6.setCell ⟨pb, 0, none⟩ (.int .i64 (a : Int))) := xw6.trans' k7 (fun i hi e => by have := hx0.size; omega)
    generalize (W6.setCell ⟨pb, 0, none⟩ (.int .i64 (a : Int))) = W7 at k7 hP7 hR7 hI7 hM7 xw7 ⊢
    clear i1 i2 i3 i4 i5 i6 i7 hM6 hP6 hR6 hI6 hS6 xw6 hrow6 hgl6
    have q1 := Blk.has hP7
    have q2 := Blk.gets hP7
    have q3 := hP7.lt
    have q4 := Blk.has hR7
    have q5 := Blk.melts hR7
    have q6 := Blk.cell hI7
    have q7 := hI7.lt
    go_wp2_with fail
    refine ret_cell Tryz.results88 rfl rfl aggRst (by exact sizeRst) (Blk.put_ hR7 _ _) ?_
    have kf : Kept (· = sb + 1) W7 (putAt W7 (sb + 1) 0 (stCells ((a : Int)) (some ⟨g, 0, none⟩) k c1 (0))) := Kept.putAt (Kept.refl _ W7) _ _ _ (fun _ => rfl)
    rw [HE.out]
    exact ⟨_, rfl, g, c1, rfl, own_mono (hM7.kept kf (by omega)) (by have := hx0.size; omega), xw7.trans' kf (fun i hi e => by omega)⟩
  · clear HI
    go_wp2_with fail
    have hrn := rnext_any A b off n cap c x (some ⟨g0, off', none⟩) k cap' w3 HH.out.n2 HH.out.x0 HH.out.right HH.out.n_eq HH.out.hA (fun h0 => (HH.out.row h0).ext xw3)
    rw [HNX.out] at hrn
    refine hrn.mono ?_
    rintro e w4 ⟨rfl, hx4⟩
    simp only [insO, Option.getD_some, Option.isSome_some]
    go_upto_region 5 with (fail)
    have x5 : Ext w3 (w4.alloc (.cells (Ins.cells ⟨20, a, y, z⟩) 89)) := hx4.alloc _
    have hI5 := Blk.new w4 89 (Ins.cells ⟨20, a, y, z⟩)
    generalize (w4.alloc (.cells (Ins.cells ⟨20, a, y, z⟩) 89)) = W5 at x5 hI5 ⊢
    have hl4 : pb < w4.heap.size := (Blk.ext hP3 hx4).lt
    have hl5 : g < w4.heap.size := (hM3.ext hx4).lt
    have hl6 : sb + 1 < w4.heap.size := (Blk.ext hR3 hx4).lt
    generalize (w4 : World).heap.size = ib at hI5 hl4 hl5 hl6 ⊢
    have hS5 := Blk.ext hS3 x5
    have hR5 := Blk.ext hR3 x5
    have hP5 := Blk.ext hP3 x5
    have hM5 := hM3.ext x5
    have xw5 := xw3.trans x5
    clear i1 i2 i3 i4 hrn hS3 hR3 hP3 hM3 xw3 hx4 x5
    have i1 := Blk.cell hI5
    have i2 := hI5.lt
    have i3 := Blk.cell hS5
    have i4 := hS5.lt
    have i5 := Blk.cell hP5
    have i6 := hP5.lt
    have i7 := Blk.frozen hP5
    have hyl : y < m.length := by have := HH.out.k_eq; omega
    have hyI : (y : Int) < k := by omega
    have hy0 : (0 : Int) ≤ y := by omega
    go_upto_region 12 with (fail)
    have k6 : Kept (· = pb) W5 (W5.setCell ⟨pb, 0, none⟩ (.int .i64 (x + 1))) := Kept.setCell (Kept.refl _ W5) _ _ (fun _ => rfl)
    have hP6 : Blk (W5.setCell ⟨pb, 0, none⟩ (.int .i64 (x + 1))) pb 61 (stCells (x + 1) (some ⟨g, 0, none⟩) k c1 0) := Blk.set_ hP5 0 (.int .i64 (x + 1))
    have hS6 := Blk.kept hS5 k6 (by omega)
    have hR6 := Blk.kept hR5 k6 (by omega)
    have hI6 := Blk.kept hI5 k6 (by omega)
    have hM6 := hM5.kept k6 (by omega)
    have xw6 : Ext w (W5.setCell ⟨pb, 0, none⟩ (.int .i64 (x + 1))) := xw5.trans' k6 (fun i hi e => by have := hx0.size; omega)
    generalize (W5.setCell ⟨pb, 0, none⟩ (.int .i64 (x + 1))) = W6 at k6 hP6 hS6 hR6 hI6 hM6 xw6 ⊢
    clear i1 i2 i3 i4 i5 i6 i7 hS5 hR5 hP5 hM5 hI5 xw5 k6
    have i1 := Blk.cell hI6
    have i2 := hI6.lt
    have i3 := Blk.cell hS6
    have i4 := hS6.lt
    have i5 := Blk.cell hP6
    have i6 := hP6.lt
    have hrow6 := HH.out.mrow.ext xw6
    have hgl6 := hrow6.lt
    have i7 := Blk.frozen hP6
    obtain ⟨v, hv⟩ : ∃ v, v = m[y] := ⟨_, rfl⟩
    have cv := hrow6.mem y hyl
    rw [← hv] at cv
    have Hvr : Hid (i32ok v) := Lib.hid (by rw [hv]; exact HH.out.mok _ (List.getElem_mem hyl))
    by_cases hz : v = 0
    · have b0 : (v == 0) = true := by simp [hz]
      have b1 : (v != 0) = false := by simp [hz]
      have HE : Hid (execI ⟨20, a, y, z⟩ x m = ((a : Int), 0, m)) := Lib.hid (by simp [execI, mget_in hyl, ← hv, hz])
      clear hv hz
      go_upto_region 35 with (fail)
      have k7 : Kept (· = pb) W6 (W6.setCell ⟨pb, 0, none⟩ (.int .i64 (a : Int))) := Kept.setCell (Kept.refl _ W6) _ _ (fun _ => rfl)
      have hP7 : Blk (W6.setCell ⟨pb, 0, none⟩ (.int .i64 (a : Int))) pb 61 (stCells (a : Int) (some ⟨g, 0, none⟩) k c1 0) := Blk.set_ hP6 0 (.int .i64 (a : Int))
      have hR7 := Blk.kept hR6 k7 (by omega)
      have hI7 := Blk.kept hI6 k7 (by omega)
      have hM7 := hM6.kept k7 (by omega)
      have xw7 : Ext w (W6.setCell ⟨pb, 0, none⟩ (.int .i64 (a : Int))) := xw6.trans' k7 (fun i hi e => by have := hx0.size; omega)
      generalize (W6.setCell ⟨pb, 0, none⟩ (.int .i64 (a : Int))) = W7 at k7 hP7 hR7 hI7 hM7 xw7 ⊢
      clear i1 i2 i3 i4 i5 i6 i7 hM6 hP6 hR6 hI6 hS6 xw6 hrow6 hgl6
      have q1 := Blk.has hP7
      have q2 := Blk.gets hP7
      have q3 := hP7.lt
      have q4 := Blk.has hR7
      have q5 := Blk.melts hR7
      have q6 := Blk.cell hI7
      have q7 := hI7.lt
      go_wp2_with fail
      refine ret_cell Tryz.results88 rfl rfl aggRst (by exact sizeRst) (Blk.put_ hR7 _ _) ?_
      have kf : Kept (· = sb + 1) W7 (putAt W7 (sb + 1) 0 (stCells ((a : Int)) (some ⟨g, 0, none⟩) k c1 (0))) := Kept.putAt (Kept.refl _ W7) _ _ _ (fun _ => rfl)
      rw [HE.out]
      exact ⟨_, rfl, g, c1, rfl, own_mono (hM7.kept kf (by omega)) (by have := hx0.size; omega), xw7.trans' kf (fun i hi e => by omega)⟩
    · have b0 : (v == 0) = false := by simp [hz]
      have b1 : (v != 0) = true := by simp [hz]
      have HE : Hid (execI ⟨20, a, y, z⟩ x m = (x + 1, 0, m)) := Lib.hid (by simp [execI, mget_in hyl, ← hv, hz])
      clear hv hz
      have hM7 := hM6
      have hP7 := hP6
      have hR7 := hR6
      have hI7 := hI6
      have xw7 := xw6
      clear hM6 hP6 hR6 hI6 xw6
      have q1 := Blk.has hP7
      have q2 := Blk.gets hP7
      have q3 := hP7.lt
      have q4 := Blk.has hR7
      have q5 := Blk.melts hR7
      have q6 := Blk.cell hI7
      have q7 := hI7.lt
      go_wp2_with fail
      refine ret_cell Tryz.results88 rfl rfl aggRst (by exact sizeRst) (Blk.put_ hR7 _ _) ?_
      have kf : Kept (· = sb + 1) W6 (putAt W6 (sb + 1) 0 (stCells (x + 1) (some ⟨g, 0, none⟩) k c1 (0))) := Kept.putAt (Kept.refl _ W6) _ _ _ (fun _ => rfl)
      rw [HE.out]
      exact ⟨_, rfl, g, c1, rfl, own_mono (hM7.kept kf (by omega)) (by have := hx0.size; omega), xw7.trans' kf (fun i hi e => by omega)⟩
  · clear HI
    go_wp2_with fail
    have hrn := rnext_any A b off n cap c x (some ⟨g0, off', none⟩) k cap' w3 HH.out.n2 HH.out.x0 HH.out.right HH.out.n_eq HH.out.hA (fun h0 => (HH.out.row h0).ext xw3)
    rw [HNX.out] at hrn
    refine hrn.mono ?_
    rintro e w4 ⟨rfl, hx4⟩
    simp only [insO, Option.getD_some, Option.isSome_some]
    go_upto_region 5 with (fail)
    have x5 : Ext w3 (w4.alloc (.cells (Ins.cells ⟨21, a, y, z⟩) 89)) := hx4.alloc _
    have hI5 := Blk.new w4 89 (Ins.cells ⟨21, a, y, z⟩)
    generalize (w4.alloc (.cells (Ins.cells ⟨21, a, y, z⟩) 89)) = W5 at x5 hI5 ⊢
    have hl4 : pb < w4.heap.size := (Blk.ext hP3 hx4).lt
    have hl5 : g < w4.heap.size := (hM3.ext hx4).lt
    have hl6 : sb + 1 < w4.heap.size := (Blk.ext hR3 hx4).lt
    generalize (w4 : World).heap.size = ib at hI5 hl4 hl5 hl6 ⊢
    have hS5 := Blk.ext hS3 x5
    have hR5 := Blk.ext hR3 x5
    have hP5 := Blk.ext hP3 x5
    have hM5 := hM3.ext x5
    have xw5 := xw3.trans x5
    clear i1 i2 i3 i4 hrn hS3 hR3 hP3 hM3 xw3 hx4 x5
    have i1 := Blk.cell hI5
    have i2 := hI5.lt
    have i3 := Blk.cell hS5
    have i4 := hS5.lt
    have i5 := Blk.cell hP5
    have i6 := hP5.lt
    have i7 := Blk.frozen hP5
    have hyl : y < m.length := by have := HH.out.k_eq; omega
    have hyI : (y : Int) < k := by omega
    have hy0 : (0 : Int) ≤ y := by omega
    go_upto_region 12 with (fail)
    have k6 : Kept (· = pb) W5 (W5.setCell ⟨pb, 0, none⟩ (.int .i64 (x + 1))) := Kept.setCell (Kept.refl _ W5) _ _ (fun _ => rfl)
    have hP6 : Blk (W5.setCell ⟨pb, 0, none⟩ (.int .i64 (x + 1))) pb 61 (stCells (x + 1) (some ⟨g, 0, none⟩) k c1 0) := Blk.set_ hP5 0 (.int .i64 (x + 1))
    have hS6 := Blk.kept hS5 k6 (by omega)
    have hR6 := Blk.kept hR5 k6 (by omega)
    have hI6 := Blk.kept hI5 k6 (by omega)
    have hM6 := hM5.kept k6 (by omega)
    have xw6 : Ext w (W5.setCell ⟨pb, 0, none⟩ (.int .i64 (x + 1))) := xw5.trans' k6 (fun i hi e => by have := hx0.size; omega)
    generalize (W5.setCell ⟨pb, 0, none⟩ (.int .i64 (x + 1))) = W6 at k6 hP6 hS6 hR6 hI6 hM6 xw6 ⊢
    clear i1 i2 i3 i4 i5 i6 i7 hS5 hR5 hP5 hM5 hI5 xw5 k6
    have i1 := Blk.cell hI6
    have i2 := hI6.lt
    have i3 := Blk.cell hS6
    have i4 := hS6.lt
    have i5 := Blk.cell hP6
    have i6 := hP6.lt
    have hrow6 := HH.out.mrow.ext xw6
    have hgl6 := hrow6.lt
    have i7 := Blk.frozen hP6
    obtain ⟨v, hv⟩ : ∃ v, v = m[y] := ⟨_, rfl⟩
    have cv := hrow6.mem y hyl
    rw [← hv] at cv
    have Hvr : Hid (i32ok v) := Lib.hid (by rw [hv]; exact HH.out.mok _ (List.getElem_mem hyl))
    by_cases hz : v = 0
    · have b0 : (v == 0) = true := by simp [hz]
      have b1 : (v != 0) = false := by simp [hz]
      have HE : Hid (execI ⟨21, a, y, z⟩ x m = (x + 1, 0, m)) := Lib.hid (by simp [execI, mget_in hyl, ← hv, hz])
      clear hv hz
      have hM7 := hM6
      have hP7 := hP6
      have hR7 := hR6
      have hI7 := hI6
      have xw7 := xw6
      clear hM6 hP6 hR6 hI6 xw6
      have q1 := Blk.has hP7
      have q2 := Blk.gets hP7
      have q3 := hP7.lt
      have q4 := Blk.has hR7
      have q5 := Blk.melts hR7
      have q6 := Blk.cell hI7
      have q7 := hI7.lt
      go_wp2_with fail
      refine ret_cell Tryz.results88 rfl rfl aggRst (by exact sizeRst) (Blk.put_ hR7 _ _) ?_
      have kf : Kept (· = sb + 1) W6 (putAt W6 (sb + 1) 0 (stCells (x + 1) (some ⟨g, 0, none⟩) k c1 (0))) := Kept.putAt (Kept.refl _ W6) _ _ _ (fun _ => rfl)
      rw [HE.out]
      exact ⟨_, rfl, g, c1, rfl, own_mono (hM7.kept kf (by omega)) (by have := hx0.size; omega), xw7.trans' kf (fun i hi e => by omega)⟩
    · have b0 : (v == 0) = false := by simp [hz]
      have b1 : (v != 0) = true := by simp [hz]
      have HE : Hid (execI ⟨21, a, y, z⟩ x m = ((a : Int), 0, m)) := Lib.hid (by simp [execI, mget_in hyl, ← hv, hz])
      clear hv hz
      go_upto_region 35 with (fail)
      have k7 : Kept (· = pb) W6 (W6.setCell ⟨pb, 0, none⟩ (.int .i64 (a : Int))) := Kept.setCell (Kept.refl _ W6) _ _ (fun _ => rfl)
      have hP7 : Blk (W6.setCell ⟨pb, 0, none⟩ (.int .i64 (a : Int))) pb 61 (stCells (a : Int) (some ⟨g, 0, none⟩) k c1 0) := Blk.set_ hP6 0 (.int .i64 (a : Int))
      have hR7 := Blk.kept hR6 k7 (by omega)
      have hI7 := Blk.kept hI6 k7 (by omega)
      have hM7 := hM6.kept k7 (by omega)
      have xw7 : Ext w (W6.setCell ⟨pb, 0, none⟩ (.int .i64 (a : Int))) := xw6.trans' k7 (fun i hi e => by have := hx0.size; omega)
      generalize (W6.setCell ⟨pb, 0, none⟩ (.int .i64 (a : Int))) = W7 at k7 hP7 hR7 hI7 hM7 xw7 ⊢
      clear i1 i2 i3 i4 i5 i6 i7 hM6 hP6 hR6 hI6 hS6 xw6 hrow6 hgl6
      have q1 := Blk.has hP7
      have q2 := Blk.gets hP7
      have q3 := hP7.lt
      have q4 := Blk.has hR7
      have q5 := Blk.melts hR7
      have q6 := Blk.cell hI7
      have q7 := hI7.lt
      go_wp2_with fail
      refine ret_cell Tryz.results88 rfl rfl aggRst (by exact sizeRst) (Blk.put_ hR7 _ _) ?_
      have kf : Kept (· = sb + 1) W7 (putAt W7 (sb + 1) 0 (stCells ((a : Int)) (some ⟨g, 0, none⟩) k c1 (0))) := Kept.putAt (Kept.refl _ W7) _ _ _ (fun _ => rfl)
      rw [HE.out]
      exact ⟨_, rfl, g, c1, rfl, own_mono (hM7.kept kf (by omega)) (by have := hx0.size; omega), xw7.trans' kf (fun i hi e => by omega)⟩
theorem rst_15 (A : Option Addr) (b off n cap : Nat) (c : List Ins) (x : Int) (g0 off' k cap' : Nat) (m : List Int) (w : World) (h : RPre w b off n A c g0 off' k x 0 m) (a y z p : Nat) (ha : a < k) (hy : y < k) (hzz : z < k) (hp : p < k) (hfar : farI ⟨15, a, y, z⟩ m = (p : Int)) (hnx : nextI c x k = some ⟨15, a, y, z⟩) :
    Calls Tryz.prog 88 #[.slice A n cap, .agg (stCells x (some ⟨g0, off', none⟩) k cap' 0)] w fun e w' => ∃ v, e = .returned v ∧ OwnsS w w' v k (execI ⟨15, a, y, z⟩ x m).1 (execI ⟨15, a, y, z⟩ x m).2.1 (execI ⟨15, a, y, z⟩ x m).2.2 :=
  rst_gd A b off n cap c x g0 off' k cap' m w h (some ⟨15, a, y, z⟩) (execI ⟨15, a, y, z⟩ x m) hnx (.inl ⟨a, y, z, p, rfl, ha, hy, hzz, hp, hfar, rfl⟩)
theorem rst_16 (A : Option Addr) (b off n cap : Nat) (c : List Ins) (x : Int) (g0 off' k cap' : Nat) (m : List Int) (w : World) (h : RPre w b off n A c g0 off' k x 0 m) (q y z a : Nat) (hxx : q < k) (hy : y < k) (hzz : z < k) (ha : a < k) (hfar : farI ⟨16, q, y, z⟩ m = (a : Int)) (hnx : nextI c x k = some ⟨16, q, y, z⟩) :
    Calls Tryz.prog 88 #[.slice A n cap, .agg (stCells x (some ⟨g0, off', none⟩) k cap' 0)] w fun e w' => ∃ v, e = .returned v ∧ OwnsS w w' v k (execI ⟨16, q, y, z⟩ x m).1 (execI ⟨16, q, y, z⟩ x m).2.1 (execI ⟨16, q, y, z⟩ x m).2.2 :=
  rst_gd A b off n cap c x g0 off' k cap' m w h (some ⟨16, q, y, z⟩) (execI ⟨16, q, y, z⟩ x m) hnx (.inr (.inl ⟨q, y, z, a, rfl, hxx, hy, hzz, ha, hfar, rfl⟩))
theorem rst_19 (A : Option Addr) (b off n cap : Nat) (c : List Ins) (x : Int) (g0 off' k cap' : Nat) (m : List Int) (w : World) (h : RPre w b off n A c g0 off' k x 0 m) (a : Nat) (y z : Int) (hnx : nextI c x k = some ⟨19, a, y, z⟩) :
    Calls Tryz.prog 88 #[.slice A n cap, .agg (stCells x (some ⟨g0, off', none⟩) k cap' 0)] w fun e w' => ∃ v, e = .returned v ∧ OwnsS w w' v k (execI ⟨19, a, y, z⟩ x m).1 (execI ⟨19, a, y, z⟩ x m).2.1 (execI ⟨19, a, y, z⟩ x m).2.2 :=
  rst_gd A b off n cap c x g0 off' k cap' m w h (some ⟨19, a, y, z⟩) (execI ⟨19, a, y, z⟩ x m) hnx (.inr (.inr (.inl ⟨a, y, z, rfl, rfl⟩)))
theorem rst_20 (A : Option Addr) (b off n cap : Nat) (c : List Ins) (x : Int) (g0 off' k cap' : Nat) (m : List Int) (w : World) (h : RPre w b off n A c g0 off' k x 0 m) (a y : Nat) (z : Int) (hy : y < k) (hnx : nextI c x k = some ⟨20, a, y, z⟩) :
    Calls Tryz.prog 88 #[.slice A n cap, .agg (stCells x (some ⟨g0, off', none⟩) k cap' 0)] w fun e w' => ∃ v, e = .returned v ∧ OwnsS w w' v k (execI ⟨20, a, y, z⟩ x m).1 (execI ⟨20, a, y, z⟩ x m).2.1 (execI ⟨20, a, y, z⟩ x m).2.2 :=
  rst_gd A b off n cap c x g0 off' k cap' m w h (some ⟨20, a, y, z⟩) (execI ⟨20, a, y, z⟩ x m) hnx (.inr (.inr (.inr (.inl ⟨a, y, z, rfl, hy, rfl⟩))))
theorem rst_21 (A : Option Addr) (b off n cap : Nat) (c : List Ins) (x : Int) (g0 off' k cap' : Nat) (m : List Int) (w : World) (h : RPre w b off n A c g0 off' k x 0 m) (a y : Nat) (z : Int) (hy : y < k) (hnx : nextI c x k = some ⟨21, a, y, z⟩) :
    Calls Tryz.prog 88 #[.slice A n cap, .agg (stCells x (some ⟨g0, off', none⟩) k cap' 0)] w fun e w' => ∃ v, e = .returned v ∧ OwnsS w w' v k (execI ⟨21, a, y, z⟩ x m).1 (execI ⟨21, a, y, z⟩ x m).2.1 (execI ⟨21, a, y, z⟩ x m).2.2 :=
  rst_gd A b off n cap c x g0 off' k cap' m w h (some ⟨21, a, y, z⟩) (execI ⟨21, a, y, z⟩ x m) hnx (.inr (.inr (.inr (.inr ⟨a, y, z, rfl, hy, rfl⟩))))
end Go.Proofs.YtahljceanodhkaaGreatDoor
