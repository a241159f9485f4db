/- Several texts joined: Yc, Zb, Refh, Step0, Halvt, Deeds, Halvs, Sil, Silw. -/
import Derived.ProofKit
import Derived.OpenShut
import Derived.ShutString
import Derived.ChangeOld
import Derived.Below
import Derived.Deep.Slices
import Derived.Test.YtahljceanodhkaaGreatDoorTei
/- Layer 23's law: states of a course. -/
namespace Go.Proofs.YtahljceanodhkaaGreatDoor
open Go.RowKit
/-- the state behind so many steps -/
def trajI (c : List Ins) (r : Cfg) : Nat → Cfg
  | 0 => r
  | j + 1 => runI c (trajI c r j).1 (trajI c r j).2.1 (trajI c r j).2.2
theorem traj_okay {c : List Ins} {r : Cfg} (hc : c.length ≤ 2048) (h : Okay r.1 r.2.1 r.2.2) : ∀ j, Okay (trajI c r j).1 (trajI c r j).2.1 (trajI c r j).2.2 ∧ (trajI c r j).2.2.length = r.2.2.length
  | 0 => ⟨h, rfl⟩
  | j + 1 => by
    have ih := traj_okay hc h j
    have := run_okay hc ih.1
    exact ⟨this.1, this.2.trans ih.2⟩
/-- states handed back -/
def IsStates (w w' : World) (e : Ending) (n : Nat) (f : Nat → Cfg) : Prop :=
  ∃ v ss, e = .returned v ∧ w'.ownsRow w.heap.size 70 3 v n (rowsL Sm.cells ss) ∧ AllV StV w' ss ((List.range n).map f) ∧ Ext w w'
/-- what a course is in memory -/
structure CourseAt (w : World) (A : Option Addr) (b off n : Nat) (l : List Ins) (pc halt : Int) (b' off' k : Nat) (m : List Int) : Prop where
  at_ : A = some ⟨b, off, none⟩
  row : Row w b off (inss l)
  n_eq : n = l.length
  n1 : 1 ≤ n
  n2 : n ≤ 2048
  iok : ∀ i ∈ l, i.ok
  k_eq : k = m.length
  right : rightS pc halt k = true
  mok : ∀ z ∈ m, i32ok z
  mrow : Row w b' off' (mems m)
  ops : OpsAt w
theorem CourseAt.ext {w w' : World} {A : Option Addr} {b off n : Nat} {l : List Ins} {pc halt : Int} {b' off' k : Nat} {m : List Int} (h : CourseAt w A b off n l pc halt b' off' k m) (hx : Ext w w') : CourseAt w' A b off n l pc halt b' off' k m :=
  ⟨h.at_, h.row.ext hx, h.n_eq, h.n1, h.n2, h.iok, h.k_eq, h.right, h.mok, h.mrow.ext hx, h.ops.ext hx⟩
theorem CourseAt.okay {w : World} {A : Option Addr} {b off n : Nat} {l : List Ins} {pc halt : Int} {b' off' k : Nat} {m : List Int} (h : CourseAt w A b off n l pc halt b' off' k m) : Okay pc halt m := ⟨by rw [← h.k_eq]; exact h.right, h.mok⟩
set_option maxRecDepth 100000 in
set_option maxHeartbeats 4000000 in
theorem states_any (A : Option Addr) (b off n cap : Nat) (l : List Ins) (pc halt : Int) (b' off' k cap' : Nat) (m : List Int) (steps : Nat) (hs : steps ≤ 1000) (w : World) (hc : CourseAt w A b off n l pc halt b' off' k m) :
    Calls Tryz.prog 50 #[.agg (courseC A n cap pc (some ⟨b', off', none⟩) k cap' halt), .int .i64 steps] w fun e w' => IsStates w w' e (steps + 1) (trajI l (pc, halt, m)) := by
  obtain ⟨k1, k2, _⟩ := rightS_inv hc.right
  obtain rfl := hc.at_
  have n1 := hc.n1
  have n2 := hc.n2
  have hx0 : Ext w _ := (Kept.refl _ w).alloc (.cells (courseC (some ⟨b, off, none⟩) n cap pc (some ⟨b', off', none⟩) k cap' halt) 99)
  have hC0 := Blk.new w 99 (courseC (some ⟨b, off, none⟩) n cap pc (some ⟨b', off', none⟩) k cap' halt)
  have HC := Lib.hid hc
  have HOKT := Lib.hid (traj_okay (r := (pc, halt, m)) (by rw [← hc.n_eq]; exact n2) hc.okay)
  clear hc
  go_enter Tryz.func50, Tryz.ntmps50
  go_upto_region 1 with (fail)
  generalize (w.alloc (.cells (courseC (some ⟨b, off, none⟩) n cap pc (some ⟨b', off', none⟩) k cap' halt) 99)) = W at hx0 hC0 ⊢
  obtain ⟨cb, hcb⟩ : ∃ cb, cb = w.heap.size := ⟨_, rfl⟩
  rw [← hcb] at hC0 ⊢
  have hwc : w.heap.size ≤ cb := by omega
  clear hcb
  have i1 := Blk.has hC0
  have i2 := Blk.gets hC0
  have i3 := Blk.lt hC0
  go_wp2_with fail
  refine (own_any pc halt b' off' cap' m k HC.out.k_eq k1 (by omega) _ (HC.out.mrow.ext hx0)).mono ?_
  rintro e w1 ⟨v1, rfl, g1, c1, rfl, hm1, hx1⟩
  simp only [stCells]
  clear i1 i2
  go_upto_region 2 with (fail)
  have x2 : Ext W _ := hx1.alloc (.cells (Sm.cells ⟨pc, halt, g1, k, c1⟩) 70)
  have hb2 := Blk.new w1 70 (Sm.cells ⟨pc, halt, g1, k, c1⟩)
  have hm2 := hm1.ext ((Kept.refl _ w1).alloc (.cells (Sm.cells ⟨pc, halt, g1, k, c1⟩) 70))
  have hw1 := hx1.size
  generalize (w1.alloc (.cells (Sm.cells ⟨pc, halt, g1, k, c1⟩) 70)) = W2 at x2 hb2 hm2 ⊢
  have ho2 : W2.ownsRow w.heap.size 70 3 (.slice (some ⟨w1.heap.size, 0, none⟩) 1 1) (0 + 1) (rowsL Sm.cells [⟨pc, halt, g1, k, c1⟩]) := ⟨rfl, .inr ⟨w1.heap.size, 1, _, rfl, by omega, hb2, Nat.le_refl _, by unfold maxLen; omega, rfl, rfl⟩⟩
  have hv2 : AllV StV W2 [⟨pc, halt, g1, k, c1⟩] ((List.range (0 + 1)).map (trajI l (pc, halt, m))) := .cons ⟨rfl, rfl, HC.out.k_eq, _, hm2⟩ .nil
  generalize (Value.slice (some ⟨w1.heap.size, 0, none⟩) 1 1) = v2 at ho2 ⊢
  have HO := Lib.hid ho2
  have HV := Lib.hid hv2
  clear ho2 hv2 hm2 hb2 hm1 hx1 hw1
  go_wp2_with fail
  go_loopw [5, 6] (fun t5 t6 wr => ∃ (j : Nat) (ss : List Sm), j ≤ steps ∧ t6 = .int .i64 j ∧ wr.ownsRow w.heap.size 70 3 t5 (j + 1) (rowsL Sm.cells ss) ∧ AllV StV wr ss ((List.range (j + 1)).map (trajI l (pc, halt, m))) ∧ Ext w wr ∧ Blk wr cb 99 (courseC (some ⟨b, off, none⟩) n cap pc (some ⟨b', off', none⟩) k cap' halt)) (fun _ t6 _ => steps - (intOf t6).toNat)
  case atStart => exact ⟨0, _, Nat.zero_le _, rfl, HO.out, HV.out, hx0.trans x2, Blk.ext hC0 x2⟩
  case round =>
    obtain ⟨j, ss, hj, rfl, ho, hv, hx, hC⟩ := hrel
    clear HO HV
    have HO := Lib.hid ho
    have HV := Lib.hid hv
    clear ho hv
    by_cases hlt : j < steps
    · obtain ⟨g, c, hu5, hrow, hbg, hty⟩ := own_rows HO.out (by omega) (by omega)
      subst hu5
      have hlen := HV.out.len
      simp only [List.length_map, List.length_range] at hlen
      obtain ⟨hrh, hrg⟩ := rowsL_row sm_size hrow j (by omega)
      have hsv := HV.out.get j (by omega) (by simp)
      simp only [List.getElem_map, List.getElem_range] at hsv
      obtain ⟨s, hse⟩ : ∃ s, s = ss[j] := ⟨_, rfl⟩
      rw [← hse] at hrg hsv
      obtain ⟨hpc, hha, hsn, base, hsm⟩ := hsv
      obtain ⟨hok, hokl⟩ := HOKT.out j
      obtain ⟨r, hr⟩ : ∃ r, r = trajI l (pc, halt, m) j := ⟨_, rfl⟩
      rw [← hr] at hpc hha hsn hsm hok hokl
      obtain ⟨rpc, rha, rm⟩ := r
      obtain ⟨spc, sha, sg, sn, sc⟩ := s
      simp only at hpc hha hsn hsm hok hokl hrg
      subst hpc hha
      have HR := Lib.hid hr
      have HSM := Lib.hid hsm
      have HSN := Lib.hid hsn
      have HOKJ := Lib.hid hok
      have HLEN := Lib.hid hlen
      have hgl := hrow.lt
      clear hr hse hsm hsn hok hokl hlen hrow hty
      simp only [Nat.zero_add] at hrh hrg
      have hltI : (j : Int) < steps := by omega
      have hjI : (j : Int) < (j : Int) + 1 := by omega
      have hj0 : (0 : Int) ≤ j := by omega
      go_upto_region 5 with (fail)
      refine wp_region_3 (fun w2 => Ext wr w2) [(0, 2), (1, 2), (2, 1), (4, 2), (5, 2), (6, 2), (7, 1), (3, 0), (8, 0), (9, 0), (10, 0), (11, 2)] (by kernel_rfl) (by kernel_rfl) (by kernel_rfl) (by kernel_rfl) ?_; intro l' hl'; simp only [List.map_cons, List.map_nil, List.getD_cons_zero, List.getD_cons_succ] at hl'; subst hl'
      (repeat (first | ((apply w3_pure); (· go_simp); (· (intro w1; go_simp; try with_reducible rfl)); (intro K hK; go_simp; refine hK _ _ ?_; clear hK K)) | ((apply w3_skip); (· go_simp); (intro K hK; go_simp; refine hK _ _ ?_; clear hK K)) | ((apply w3_take); (· exact (Kept.drew (Kept.refl _ _))); (· go_simp); (· (intro w1 hS; have d1 := Blk.cell (Blk.ext hC hS); have d2 := (Blk.ext hC hS).lt; have d3 := has_ext hS hgl hrh; have d4 := gets_ext hS hgl hrg; have d5 := Nat.lt_of_lt_of_le hgl hS.size;  go_simp; try with_reducible rfl)); (intro K hK; go_simp; refine hK _ _ ?_; clear hK K)) | ((apply w3_pass); (· exact (Kept.drew (Kept.refl _ _))); (· go_simp); (intro K hK; go_simp; refine hK _ _ ?_; clear hK K))))
      have yW : Ext wr wr.drew := (Kept.refl _ wr).drew
      (refine w3_act (fun K hK => ?_); go_simp)
      go_wp2_with fail
      refine (owncode_any (some ⟨b, off, none⟩) b off cap l n HC.out.n_eq (by omega) (fun _ => rfl) _ (fun _ => HC.out.row.ext (hx.trans yW))).mono ?_
      rintro e w3 ⟨v3, rfl, ho3, hx3⟩
      have y3 : Ext wr w3 := yW.trans hx3
      obtain ⟨A3, g3, c3, rfl, q1, q2, -⟩ := own_I ho3
      refine hK.out _ _ (fun _ => y3) ?_
      clear hK K ho3
      have hpre : RunPre w3 A3 g3 0 n l sg 0 sn spc sha rm := ⟨HC.out.ops.ext (hx.trans y3), q1, q2, HC.out.n_eq, n2, HSN.out, by rw [HSN.out]; exact HOKJ.out.right, HOKJ.out.mok, by simpa using (HSM.out.ext y3).row⟩
      have hms := mstep_any A3 g3 0 n c3 l spc sha sg 0 sn sc rm w3 hpre
      have HMS := Lib.hid hms
      have HOKN := Lib.hid (run_okay (by rw [← HC.out.n_eq]; exact n2) HOKJ.out)
      clear hms hpre q1 q2
      obtain ⟨r', hr'⟩ : ∃ r', r' = runI l spc sha rm := ⟨_, rfl⟩
      rw [← hr'] at HMS HOKN
      have htr : trajI l (pc, halt, m) (j + 1) = r' := by
        rw [hr', trajI, ← HR.out]
      have HTR := Lib.hid htr
      clear hr' htr
      obtain ⟨pc', ha', m'⟩ := r'
      (repeat (first | ((apply w3_pure); (· go_simp); (· (intro w1; go_simp; try with_reducible rfl)); (intro K hK; go_simp; refine hK _ _ ?_; clear hK K)) | ((apply w3_skip); (· go_simp); (intro K hK; go_simp; refine hK _ _ ?_; clear hK K))))
      (refine w3_act (fun K hK => ?_); go_simp)
      go_wp2_with fail
      with_reducible refine HMS.out.mono ?_
      rintro e w4 ⟨v4, rfl, g4, c4, rfl, hm4, hx4⟩
      have y4 : Ext wr w4 := y3.trans hx4
      simp only [stCells]
      refine hK.out _ _ (fun _ => y4) ?_
      clear hK K HMS
      (repeat (first | ((apply w3_pure); (· go_simp); (· (intro w1; go_simp; try with_reducible rfl)); (intro K hK; go_simp; refine hK _ _ ?_; clear hK K)) | ((apply w3_skip); (· go_simp); (intro K hK; go_simp; refine hK _ _ ?_; clear hK K))))
      (refine w3_act (fun K hK => ?_); go_simp)
      have y5 : Ext wr (w4.alloc (.cells (Sm.cells ⟨pc', ha', g4, sn, c4⟩) 70)) := y4.alloc _
      refine hK.out _ _ (fun _ => y5) ?_
      clear hK K
      have hsz := hx.size
      have hsz4 := y4.size
      have hs5 : AllV StV (w4.alloc (.cells (Sm.cells ⟨pc', ha', g4, sn, c4⟩) 70)) (ss ++ [⟨pc', ha', g4, sn, c4⟩]) ((List.range (j + 1 + 1)).map (trajI l (pc, halt, m))) := by
        rw [List.range_succ, List.map_append]
        refine (HV.out.mono (fun a b h => h.ext y5)).snoc ?_
        show StV _ _ (trajI l (pc, halt, m) (j + 1))
        rw [HTR.out]
        exact ⟨rfl, rfl, by have := HOKN.out.2; simp only at this ⊢; rw [this]; exact HSN.out, _, hm4.ext ((Kept.refl _ w4).alloc _)⟩
      obtain ⟨v6, w6, hr6, ho6, hk6⟩ := appSt (w4.alloc (.cells (Sm.cells ⟨pc', ha', g4, sn, c4⟩) 70)) w.heap.size (.slice (some ⟨g, 0, none⟩) (j + 1) c) (j + 1) ss (own_ext HO.out y5) w4.heap.size 0 1 1 [⟨pc', ha', g4, sn, c4⟩] rfl (by rw [rowsL_one]; exact Row.of_blk (Blk.new w4 70 (Sm.cells ⟨pc', ha', g4, sn, c4⟩))) (by omega) (by simp; omega)
      have hnt := own_other (own_ext HO.out y5) (E' := 21) (by decide)
      have hv6 := hs5.mono (fun a b h => h.kept hk6 hnt)
      have hob : ∀ i, i < w.heap.size → (Value.slice (some ⟨g, 0, none⟩) (j + 1) c).ownBlock = some i → False := fun i hi e => by simp [Value.ownBlock] at e; omega
      have hC6 := Blk.kept (Blk.ext hC y5) hk6 (fun e => by
        obtain ⟨cur, hcur⟩ := own_ty (own_ext HO.out y5) e
        have := Blk.ext hC y5
        unfold Blk at this
        rw [this] at hcur
        injection hcur with hcur
        injection hcur with _ e2 _
        exact absurd e2 (by decide))
      have x6 := (hx.trans y5).trans' hk6 hob
      have HO6 := Lib.hid ho6
      have HV6 := Lib.hid hv6
      clear ho6 hv6 hs5 hnt hk6 hob
      refine w3_end (by kernel_rfl) (fun K hK => ?_)
      refine iff_want rfl ?_
      refine Lib.wp_append_run _ _ _ _ _ rfl _ _ rfl rfl _ _ hr6 ?_
      refine hK.out _ _ ?_
      clear hK K hr6
      (repeat (first | ((apply w3_pure); (· go_simp); (· (intro w1; go_simp; try with_reducible rfl)); (intro K hK; go_simp; refine hK _ _ ?_; clear hK K)) | ((apply w3_skip); (· go_simp); (intro K hK; go_simp; refine hK _ _ ?_; clear hK K)) | (refine w3_end (by kernel_rfl) (fun K hK => ?_); go_simp; refine hK.out _ _ ?_; clear hK K))); refine w3_nil ?_
      go_wp2_with fail
      go_roundw
      case rel => exact ⟨j + 1, _, hlt, by go_num, HO6.out, HV6.out, x6, hC6⟩
      case measure => simp only [intOf]; omega
    · have ej : j = steps := by omega
      subst ej
      have hlt' : ¬ (j : Int) < j := by omega
      go_wp2_with fail
      go_ret
      exact ⟨_, ss, rfl, HO.out, HV.out, hx⟩
end Go.Proofs.YtahljceanodhkaaGreatDoor

/- Package witness: Trace. -/
namespace Go.Proofs.YtahljceanodhkaaGreatDoor
open Go.RowKit
/-- a step writes one word at most, the one that is told -/
theorem step_upd (l : List Ins) (pc : Int) (m : List Int) : ∃ v, (stepI l pc m).2.2 = upd (mreads l pc 0 m).2 v m := by
  cases hn : nextI l pc m.length with
  | none =>
    refine ⟨0, ?_⟩
    unfold stepI
    rw [hn]
    have : mreads l pc 0 m = ([], -1) := by simp only [mreads, hn]; rfl
    rw [this]
    simp [upd]
  | some i =>
    obtain ⟨_, p, hh, v, h1, _⟩ := step_sparse (m' := m) hn rfl rfl rfl (fun _ _ => rfl)
    exact ⟨v, by rw [h1]⟩
/-- the digest of the state behind so many steps -/
def trD (l : List Ins) (r : Cfg) (j : Nat) : Dg := stateR (trajI l r j).1 (trajI l r j).2.1 (trajI l r j).2.2
def IsTrace (w w' : World) (e : Ending) (n : Nat) (f : Nat → Dg) : Prop := ∃ v, e = .returned (.tuple #[v, .int .i64 0]) ∧ w'.ownsRow w.heap.size 30 8 v n (digs ((List.range n).map f)) ∧ Ext w w'
/-- words of a state, and where -/
structure MemW (w0 w : World) (top g off : Nat) (m : List Int) : Prop where
  row : Row w g off (mems m)
  at_ : g < w0.heap.size ∨ (top ≤ g ∧ ∃ cur fr, w.heap[g]? = some (.cells cur 21 fr))
theorem MemW.ext {w0 w w' : World} {top g off : Nat} {m : List Int} (h : MemW w0 w top g off m) (hx : Ext w w') : MemW w0 w' top g off m :=
  ⟨h.row.ext hx, h.at_.imp id (fun ⟨a, cur, fr, e⟩ => ⟨a, cur, fr, (hx.block g h.row.lt (fun f => f)).trans e⟩)⟩
theorem MemW.kept {S : Nat → Prop} {w0 w w' : World} {top g off : Nat} {m : List Int} (h : MemW w0 w top g off m) (hx : Kept S w w') (h1 : ∀ i, S i → w0.heap.size ≤ i) (h2 : ∀ i, S i → top ≤ i → ∀ cur fr, ¬ w.heap[i]? = some (.cells cur 21 fr)) : MemW w0 w' top g off m := by
  have hg : ¬ S g := fun hS => by
    rcases h.at_ with h3 | ⟨h3, cur, fr, e⟩
    · have := h1 g hS; omega
    · exact h2 g hS h3 cur fr e
  exact ⟨h.row.kept hx hg, h.at_.imp id (fun ⟨a, cur, fr, e⟩ => ⟨a, cur, fr, (hx.block g h.row.lt hg).trans e⟩)⟩
set_option maxRecDepth 100000 in
set_option maxHeartbeats 8000000 in
theorem trace_ok (A : Option Addr) (b off n cap : Nat) (l : List Ins) (pc halt : Int) (b' off' k cap' : Nat) (m : List Int) (steps : Nat) (hs : steps ≤ 65536) (w : World) (hc : CourseAt w A b off n l pc halt b' off' k m) :
    Calls Tryz.prog 38 #[.slice A n cap, .agg (stCells pc (some ⟨b', off', none⟩) k cap' halt), .int .i64 steps] w fun e w' => IsTrace w w' e (steps + 1) (trD l (pc, halt, m)) := by
  obtain ⟨k1, k2, h3, h4, h5, h6⟩ := rightS_inv hc.right
  obtain rfl := hc.at_
  have n1 := hc.n1
  have n2 := hc.n2
  have x0 : Ext w _ := (Kept.refl _ w).alloc (.cells (stCells pc (some ⟨b', off', none⟩) k cap' halt) 70)
  have hS0 := Blk.new w 70 (stCells pc (some ⟨b', off', none⟩) k cap' halt)
  have HC := Lib.hid hc
  have HOKT := Lib.hid (traj_okay (r := (pc, halt, m)) (by rw [← hc.n_eq]; exact n2) hc.okay)
  obtain ⟨C, hCe⟩ : ∃ C, C = codeR l := ⟨_, rfl⟩
  have HCE := Lib.hid hCe
  clear hc hCe
  go_enter Tryz.func38, Tryz.ntmps38
  go_upto_region 1 with (fail)
  generalize (w.alloc (.cells (stCells pc (some ⟨b', off', none⟩) k cap' halt) 70)) = W at x0 hS0 ⊢
  obtain ⟨sb, hsb⟩ : ∃ sb, sb = w.heap.size := ⟨_, rfl⟩
  rw [← hsb] at hS0 ⊢
  have hwsb : w.heap.size ≤ sb := by omega
  clear hsb
  go_wp2_with fail
  have hwc2 := wcode_ok (some ⟨b, off, none⟩) b off cap l n HC.out.n_eq n1 n2 HC.out.iok (fun _ => rfl) W (fun _ => HC.out.row.ext x0)
  rw [← HCE.out] at hwc2
  refine hwc2.mono ?_
  rintro e w1 ⟨rfl, hx1⟩
  clear hwc2
  go_upto_region 4 with (fail)
  have x2 : Ext w (w1.alloc (.cells C.cells 30)) := (x0.trans hx1).alloc _
  have hS2 := Blk.alloc (Blk.ext hS0 hx1) (.cells C.cells 30)
  generalize (w1.alloc (.cells C.cells 30)) = W2 at x2 hS2 ⊢
  generalize (w1 : World).heap.size = cbk at ⊢
  clear hS0 hx1 x0
  have i1 := Blk.has hS2
  have i2 := Blk.gets hS2
  have i3 := hS2.lt
  go_wp2_with fail
  refine (memtree_ok pc halt (some ⟨b', off', none⟩) b' off' cap' m k HC.out.k_eq HC.out.right (fun _ => rfl) _ (fun _ => HC.out.mrow.ext x2)).mono ?_
  rintro e w3 ⟨q, rfl, hq, hx3⟩
  have hS3 := Blk.ext hS2 hx3
  have x3 := x2.trans hx3
  have hT3 := TreeIn.of (hq.low x2.size)
  have hsb3 : sb < W2.heap.size := hS2.lt
  obtain ⟨base, hbase⟩ : ∃ base, base = W2.heap.size := ⟨_, rfl⟩
  have hTI : TreeIn w3 base w3.heap.size q (m.map leafW) := by rw [hbase]; exact TreeIn.of hq
  rw [← hbase] at hsb3
  have hbw : w.heap.size ≤ base := by rw [hbase]; exact x2.size
  clear i1 i2 i3 hS2 x2 hx3 hq hT3 hbase
  obtain ⟨top, htop⟩ : ∃ top, top = w3.heap.size := ⟨_, rfl⟩
  rw [← htop] at hTI
  have htb : base ≤ top := by have := hTI.1; obtain ⟨_, cg, cc, f, G, h, _⟩ := hTI; have := h.bp; omega
  obtain ⟨w4, hr4, ho4, hx4⟩ := makeE w3 (steps + 1) (by omega)
  have hstI : (0 : Int) ≤ steps := by omega
  have hstI2 : (steps : Int) ≤ 65536 := by omega
  have hs1 : ((steps + 1 : Nat) : Int) = (steps : Int) + 1 := by omega
  rw [hs1] at hr4
  clear hs1
  go_upto_region 9 with (fail)
  go_step
  iterate 2 (refine wpList_step (fun K hK => ?_); go_simp; (try go_bits); refine hK _ _ ?_; clear hK K)
  refine wpList_make rfl _ _ 42 rfl rfl rfl hr4 ?_
  clear hr4
  have hS4 := Blk.ext hS3 hx4
  have x4 := x3.trans hx4
  have hT4 := hTI.ext hx4
  have hM4 : MemW w w4 top b' off' m := ⟨HC.out.mrow.ext x4, .inl HC.out.mrow.lt⟩
  obtain ⟨v4, hv4⟩ : ∃ v4, v4 = Value.slice (some ⟨w3.heap.size, 0, none⟩) 0 (steps + 1) := ⟨_, rfl⟩
  rw [← hv4] at ho4 ⊢
  rw [← htop] at ho4
  have hs4 : top ≤ w4.heap.size := by rw [htop]; exact hx4.size
  have HO4 := Lib.hid ho4
  have HT4 := Lib.hid hT4
  have HM4 := Lib.hid hM4
  clear hv4 ho4 hT4 hM4 hS3 x3 hTI hx4 htop
  obtain ⟨D0, hD0⟩ : ∃ D0, D0 = trD l (pc, halt, m) 0 := ⟨_, rfl⟩
  obtain ⟨M0, hM0⟩ : ∃ M0, M0 = memR m := ⟨_, rfl⟩
  have hDM : D0 = hHead pc halt k M0 := by rw [hD0, hM0, HC.out.k_eq]; rfl
  have HD0 := Lib.hid hD0
  have HM0 := Lib.hid hM0
  have HDM := Lib.hid hDM
  clear hD0 hM0 hDM
  go_upto_region 10 with (fail)
  refine wp_region_3 (fun w2 => Ext w4 w2) [(0, 2), (1, 2), (2, 1), (3, 2), (4, 1), (5, 2), (6, 1), (7, 2), (8, 2), (9, 0), (10, 0), (11, 0), (12, 0), (13, 2)] (by kernel_rfl) (by kernel_rfl) (by kernel_rfl) (by kernel_rfl) ?_; intro l' hl'; simp only [List.map_cons, List.map_nil, List.getD_cons_zero, List.getD_cons_succ] at hl'; subst hl'
  (repeat (first | ((apply w3_pure); (· go_simp); (· (intro w1; go_simp; try with_reducible rfl)); (intro K hK; go_simp; refine hK _ _ ?_; clear hK K)) | ((apply w3_skip); (· go_simp); (intro K hK; go_simp; refine hK _ _ ?_; clear hK K)) | ((apply w3_take); (· exact (Kept.drew (Kept.refl _ _))); (· go_simp); (· (intro w1 hS; have d1 := Blk.cell (Blk.ext hS4 hS); have d2 := (Blk.ext hS4 hS).lt;  go_simp; try with_reducible rfl)); (intro K hK; go_simp; refine hK _ _ ?_; clear hK K)) | ((apply w3_pass); (· exact (Kept.drew (Kept.refl _ _))); (· go_simp); (intro K hK; go_simp; refine hK _ _ ?_; clear hK K))))
  have yW : Ext w4 w4.drew := (Kept.refl _ w4).drew
  (refine w3_act (fun K hK => ?_); go_simp)
  go_wp2_with fail
  have hrt := troot_tree base q (m.map leafW) w4.drew (by rw [List.length_map, ← HC.out.k_eq]; exact k1) (by rw [List.length_map, ← HC.out.k_eq]; omega) (HT4.out.ok.ext yW)
  rw [show rootT (m.map leafW) = M0 from HM0.out.symm] at hrt
  refine hrt.mono ?_
  rintro e w5 ⟨rfl, hx5⟩
  have y5 : Ext w4 w5 := yW.trans hx5
  refine hK.out _ _ (fun _ => y5) ?_
  clear hK K hrt
  (repeat (first | ((apply w3_pure); (· go_simp); (· (intro w1; go_simp; try with_reducible rfl)); (intro K hK; go_simp; refine hK _ _ ?_; clear hK K)) | ((apply w3_skip); (· go_simp); (intro K hK; go_simp; refine hK _ _ ?_; clear hK K))))
  (refine w3_act (fun K hK => ?_); go_simp)
  go_wp2_with fail
  have hhd := head_any pc halt k M0 (by rw [HM0.out]; exact hWord_ok _ _) (by omega) (by omega) (by omega) w5
  rw [← HDM.out] at hhd
  refine hhd.mono ?_
  rintro e w6 ⟨rfl, hx6⟩
  have y6 : Ext w4 w6 := y5.trans hx6
  refine hK.out _ _ (fun _ => y6) ?_
  clear hK K hhd
  (repeat (first | ((apply w3_pure); (· go_simp); (· (intro w1; go_simp; try with_reducible rfl)); (intro K hK; go_simp; refine hK _ _ ?_; clear hK K)) | ((apply w3_skip); (· go_simp); (intro K hK; go_simp; refine hK _ _ ?_; clear hK K))))
  (refine w3_act (fun K hK => ?_); go_simp)
  have y7 : Ext w4 (w6.alloc (.cells D0.cells 30)) := y6.alloc _
  refine hK.out _ _ (fun _ => y7) ?_
  clear hK K
  have hs6 := y6.size
  obtain ⟨v8, w8, hr8, ho8, hk8⟩ := appE (w6.alloc (.cells D0.cells 30)) top v4 0 [] (own_ext HO4.out y7) w6.heap.size 0 1 1 [D0] rfl (by simpa [digs] using Row.of_blk (Blk.new w6 30 D0.cells)) (by omega) (by simp; omega)
  have hot : ∀ i, (v4 : Value).ownBlock = some i → top ≤ i := fun i e => (HO4.out.lt i e).1
  have hoi := own_other (own_ext HO4.out y7) (E' := 21) (by decide)
  have hos := own_other (own_ext HO4.out y7) (E' := 70) (by decide)
  have hS8 := Blk.kept (Blk.ext hS4 y7) hk8 (fun e => hos sb e _ _ (Blk.ext hS4 y7))
  have hT8 := (HT4.out.ext y7).kept hk8 hot
  have hM8 := (HM4.out.ext y7).kept hk8 (fun i e => by have := hot i e; omega) (fun i e _ => hoi i e)
  have x8 : Ext w w8 := (x4.trans y7).trans' hk8 (fun i hi e => by have := hot i e; omega)
  have ho8' : w8.ownsRow top 30 8 v8 (0 + 1) (digs ((List.range (0 + 1)).map (trD l (pc, halt, m)))) := by
    have e : (List.range (0 + 1)).map (trD l (pc, halt, m)) = [] ++ [D0] := by rw [HD0.out]; rfl
    rw [e]
    exact ho8
  have HO8 := Lib.hid ho8'
  have HT8 := Lib.hid hT8
  have HM8 := Lib.hid hM8
  have hs8 : top ≤ w8.heap.size := by have h7 := y7.size; have h8 := hk8.size; omega
  clear ho8 ho8' hT8 hM8 hk8 hot hoi hos
  refine w3_end (by kernel_rfl) (fun K hK => ?_)
  refine iff_want rfl ?_
  refine Lib.wp_append_run _ _ _ _ _ rfl _ _ rfl rfl _ _ hr8 ?_
  refine hK.out _ _ ?_
  clear hK K hr8
  (repeat (first | ((apply w3_pure); (· go_simp); (· (intro w1; go_simp; try with_reducible rfl)); (intro K hK; go_simp; refine hK _ _ ?_; clear hK K)) | ((apply w3_skip); (· go_simp); (intro K hK; go_simp; refine hK _ _ ?_; clear hK K)) | (refine w3_end (by kernel_rfl) (fun K hK => ?_); go_simp; refine hK.out _ _ ?_; clear hK K))); refine w3_nil ?_
  clear HO4 HT4 HM4 hS4 x4 yW y5 y6 y7 hx5 hx6 hs6
  go_wp2_with fail
  go_loopw [12] (fun t12 wr => ∃ (j : Nat) (g o c : Nat), j ≤ steps ∧ wr.ownsRow top 30 8 t12 (j + 1) (digs ((List.range (j + 1)).map (trD l (pc, halt, m)))) ∧ Blk wr sb 70 (stCells (trajI l (pc, halt, m) j).1 (some ⟨g, o, none⟩) k c (trajI l (pc, halt, m) j).2.1) ∧ MemW w wr top g o (trajI l (pc, halt, m) j).2.2 ∧ TreeIn wr base top q ((trajI l (pc, halt, m) j).2.2.map leafW) ∧ Ext w wr ∧ top ≤ wr.heap.size) (fun t12 _ => match t12 with | .slice _ n _ => steps + 1 - n | _ => 0)
  case atStart => exact ⟨0, b', off', cap', Nat.zero_le _, HO8.out, hS8, HM8.out, HT8.out, x8, hs8⟩
  case round =>
    obtain ⟨j, g, o, c, hj, ho, hS, hM, hT, hx, hts⟩ := hrel
    clear HO8 HT8 HM8 hS8 x8 hs8 HD0 HM0 HDM
    obtain ⟨hok, hokl⟩ := HOKT.out j
    obtain ⟨r, hr⟩ : ∃ r, r = trajI l (pc, halt, m) j := ⟨_, rfl⟩
    have hnx : trajI l (pc, halt, m) (j + 1) = runI l r.1 r.2.1 r.2.2 := by rw [hr]; rfl
    rw [← hr] at hS hM hT hok hokl
    obtain ⟨rpc, rha, rm⟩ := r
    simp only at hS hM hT hok hokl hnx
    rw [← HC.out.k_eq] at hokl
    obtain ⟨g12, c12, hu12, hrow, hbg, hty⟩ := own_rows ho (by omega) (by omega)
    subst hu12
    obtain ⟨_, _, r3, r4, r5, r6⟩ := rightS_inv hok.right
    have HR := Lib.hid hr
    have HO := Lib.hid ho
    have HM := Lib.hid hM
    have HT := Lib.hid hT
    have HOK := Lib.hid hok
    have HLN := Lib.hid hokl
    have HNX := Lib.hid hnx
    clear hr ho hM hT hok hokl hnx hty
    by_cases hlt : j + 1 ≤ steps
    · have hltI : (j : Int) + 1 ≤ steps := by omega
      have i1 := Blk.cell hS
      have i2 := hS.lt
      by_cases h0 : rha = 0
      · subst h0
        have i3 := Blk.has hS
        have i4 := Blk.gets hS
        have hpre : RunPre wr (some ⟨b, off, none⟩) b off n l g o k rpc 0 rm := ⟨HC.out.ops.ext hx, fun _ => rfl, fun _ => HC.out.row.ext hx, HC.out.n_eq, n2, HLN.out.symm, by rw [← HLN.out]; exact HOK.out.right, HOK.out.mok, HM.out.row⟩
        have HPRE := Lib.hid hpre
        obtain ⟨rs, wx, hrw⟩ : ∃ rs wx, mreads l rpc 0 rm = (rs, wx) := ⟨_, _, rfl⟩
        obtain ⟨_, hwx, _⟩ := mreads_in l rpc 0 rm
        have hmr := mreads_any (some ⟨b, off, none⟩) b off n cap l rpc 0 g o k c rm wr hpre
        obtain ⟨v, hup⟩ := step_upd l rpc rm
        rw [hrw] at hwx hmr hup
        simp only at hwx hup
        rw [HLN.out] at hwx
        have hrun : runI l rpc 0 rm = stepI l rpc rm := if_pos rfl
        have hms := fun w h => mstep_any (some ⟨b, off, none⟩) b off n cap l rpc 0 g o k c rm w h
        rw [hrun] at hms
        have hnx := HNX.out
        rw [hrun] at hnx
        obtain ⟨q', hq'⟩ : ∃ q', q' = stepI l rpc rm := ⟨_, rfl⟩
        rw [← hq'] at hms hup hnx
        obtain ⟨p', h', m'⟩ := q'
        simp only at hms hup
        have HMR := Lib.hid hmr
        have HMS := Lib.hid hms
        have HUP := Lib.hid hup
        have HNX2 := Lib.hid hnx
        clear hpre hmr hms hup hnx hrun hq' hrw HNX
        go_wp2_with fail
        refine HMR.out.mono ?_
        rintro e w2 ⟨v2, rfl, -, hx2⟩
        simp only
        have hS2 := Blk.ext hS hx2
        clear HMR i1 i2 i3 i4
        have i1 := Blk.has hS2
        have i2 := Blk.gets hS2
        have i3 := hS2.lt
        go_wp2_with fail
        refine (HMS.out w2 (HPRE.out.ext hx2)).mono ?_
        rintro e w3 ⟨v3, rfl, g3, c3, rfl, hm3, hx3⟩
        simp only [stCells]
        have hS3 := Blk.ext hS2 hx3
        have y3 : Ext wr w3 := hx2.trans hx3
        clear i1 i2 i3
        have i1 := Blk.has hS3
        have i2 := Blk.melts hS3
        have i3 := hS3.lt
        go_upto_region 16 with (fail)
        have kp : Kept (· = sb) w3 (putAt w3 sb 0 (stCells p' (some ⟨g3, 0, none⟩) k c3 h')) := Kept.putAt (Kept.refl (· = sb) w3) sb _ _ (fun _ => rfl)
        have hS4 : Blk (putAt w3 sb 0 (stCells p' (some ⟨g3, 0, none⟩) k c3 h')) sb 70 (stCells p' (some ⟨g3, 0, none⟩) k c3 h') := Blk.put_ hS3 _ _
        have hg3 : w2.heap.size ≤ g3 := by obtain ⟨_, cur, hb, _⟩ := hm3.inv; exact hb
        have hw2s : wr.heap.size ≤ w2.heap.size := hx2.size
        have hm4 : MemW w (putAt w3 sb 0 (stCells p' (some ⟨g3, 0, none⟩) k c3 h')) top g3 0 m' := by
          obtain ⟨_, cur, _, hcur, _⟩ := (hm3.kept kp (by omega)).inv
          exact ⟨(hm3.kept kp (by omega)).row, .inr ⟨by omega, cur, _, hcur⟩⟩
        have hT4 := (HT.out.ext y3).apart kp (fun i e => by omega)
        have ho4 := own_kept (own_ext HO.out y3) kp (fun i hi e => by have := (HO.out.lt i hi).1; omega)
        have x4 : Ext w (putAt w3 sb 0 (stCells p' (some ⟨g3, 0, none⟩) k c3 h')) := (hx.trans y3).trans' kp (fun i hi e => by omega)
        have hm4c := hm3.kept kp (by omega)
        have hts4 : top ≤ (putAt w3 sb 0 (stCells p' (some ⟨g3, 0, none⟩) k c3 h')).heap.size := by have h1 := y3.size; have h2 := kp.size; omega
        generalize (putAt w3 sb 0 (stCells p' (some ⟨g3, 0, none⟩) k c3 h')) = W4 at kp hS4 hm4 hT4 ho4 x4 hm4c hts4 ⊢
        have HO4 := Lib.hid ho4
        have HT4 := Lib.hid hT4
        have HM4 := Lib.hid hm4
        have HMC := Lib.hid hm4c
        clear ho4 hT4 hm4 hm4c kp i1 i2 i3 hS3 hm3 hS2 hS y3 hx3 hx2 HO HM HT HPRE HMS hrow
        by_cases hw0 : 0 ≤ wx
        · obtain ⟨a, rfl⟩ : ∃ a : Nat, wx = a := ⟨wx.toNat, by omega⟩
          have hak : a < k := by omega
          have hakI : (a : Int) < k := by omega
          have hml : m'.length = k := by rw [HUP.out]; unfold upd; rw [if_pos hw0]; rw [put_len, HLN.out]
          have hcell := HMC.out.cell a (by omega)
          have hval : m'[a] = v := by
            have := HUP.out
            subst this
            simp [upd, mput]
          rw [hval] at hcell
          have hmapEq : (rm.map leafW).set a (leafW v) = m'.map leafW := by
            rw [HUP.out]
            unfold upd
            rw [if_pos hw0]
            simp [mput, List.map_set]
          have hgl := HMC.out.lt
          have i1 := Blk.cell hS4
          have i2 := hS4.lt
          have HEQ := Lib.hid hmapEq
          have HML := Lib.hid hml
          clear hval hmapEq hml
          go_wp2_with fail
          refine (leaf_any v _).mono ?_
          rintro e w5 ⟨rfl, hx5⟩
          clear i1 hcell
          go_wp2_with fail
          have hset := tset_ok base top q (rm.map leafW) a (leafW v) (leafW_ok _) w5 (by rw [List.length_map, HLN.out]; exact k1) (by rw [List.length_map, HLN.out]; omega) (by rw [List.length_map, HLN.out]; exact hak) (HT4.out.ext hx5)
          rw [HEQ.out] at hset
          refine hset.mono ?_
          rintro e w6 ⟨rfl, hT6, hk6⟩
          have hS6 := Blk.kept (Blk.ext hS4 hx5) hk6 (fun e => by omega)
          have hM6 := (HM4.out.ext hx5).kept hk6 (fun i e => by omega) (fun i e h => by omega)
          have ho6 := own_kept (own_ext HO4.out hx5) hk6 (fun i hi e => by have := (HO4.out.lt i hi).1; omega)
          have x6 : Ext w w6 := (x4.trans hx5).trans' hk6 (fun i hi e => by omega)
          have hts6 : top ≤ w6.heap.size := by have h1 := hx5.size; have h2 := hk6.size; omega
          have HO6 := Lib.hid ho6
          have HT6 := Lib.hid hT6
          have HM6 := Lib.hid hM6
          clear ho6 hT6 hM6 hset hk6 hx5 HO4 HT4 HM4 HMC x4 hS4 HEQ i2 hgl
          obtain ⟨D, hD⟩ : ∃ D, D = trD l (pc, halt, m) (j + 1) := ⟨_, rfl⟩
          obtain ⟨M, hMe⟩ : ∃ M, M = memR m' := ⟨_, rfl⟩
          have hDM : D = hHead p' h' k M := by rw [hD, hMe]; unfold trD; rw [HNX2.out, ← HML.out]; rfl
          have hokn := (HOKT.out (j + 1)).1
          rw [HNX2.out] at hokn
          obtain ⟨_, _, s3, s4, s5, s6⟩ := rightS_inv hokn.right
          simp only at s3 s4 s5 s6
          have HD := Lib.hid hD
          have HMe := Lib.hid hMe
          have HDM := Lib.hid hDM
          clear hD hMe hDM hokn
          go_upto_region 18 with (fail)
          refine wp_region_3 (fun w2 => Ext w6 w2) [(0, 2), (1, 2), (2, 1), (3, 2), (4, 1), (5, 2), (6, 1), (7, 2), (8, 2), (9, 0), (10, 0), (11, 0), (12, 0), (13, 2)] (by kernel_rfl) (by kernel_rfl) (by kernel_rfl) (by kernel_rfl) ?_; intro l' hl'; simp only [List.map_cons, List.map_nil, List.getD_cons_zero, List.getD_cons_succ] at hl'; subst hl'
          (repeat (first | ((apply w3_pure); (· go_simp); (· (intro w1; go_simp; try with_reducible rfl)); (intro K hK; go_simp; refine hK _ _ ?_; clear hK K)) | ((apply w3_skip); (· go_simp); (intro K hK; go_simp; refine hK _ _ ?_; clear hK K)) | ((apply w3_take); (· exact (Kept.drew (Kept.refl _ _))); (· go_simp); (· (intro w1 hS; have d1 := Blk.cell (Blk.ext hS6 hS); have d2 := (Blk.ext hS6 hS).lt;  go_simp; try with_reducible rfl)); (intro K hK; go_simp; refine hK _ _ ?_; clear hK K)) | ((apply w3_pass); (· exact (Kept.drew (Kept.refl _ _))); (· go_simp); (intro K hK; go_simp; refine hK _ _ ?_; clear hK K))))
          have yW : Ext w6 w6.drew := (Kept.refl _ w6).drew
          (refine w3_act (fun K hK => ?_); go_simp)
          go_wp2_with fail
          have hrt := troot_tree base q (m'.map leafW) w6.drew (by rw [List.length_map, HML.out]; exact k1) (by rw [List.length_map, HML.out]; omega) (HT6.out.ok.ext yW)
          rw [show rootT (m'.map leafW) = M from HMe.out.symm] at hrt
          refine hrt.mono ?_
          rintro e w7 ⟨rfl, hx7⟩
          have y7 : Ext w6 w7 := yW.trans hx7
          refine hK.out _ _ (fun _ => y7) ?_
          clear hK K hrt
          (repeat (first | ((apply w3_pure); (· go_simp); (· (intro w1; go_simp; try with_reducible rfl)); (intro K hK; go_simp; refine hK _ _ ?_; clear hK K)) | ((apply w3_skip); (· go_simp); (intro K hK; go_simp; refine hK _ _ ?_; clear hK K))))
          (refine w3_act (fun K hK => ?_); go_simp)
          go_wp2_with fail
          have hhd := head_any p' h' k M (by rw [HMe.out]; exact hWord_ok _ _) (by omega) (by omega) (by omega) w7
          rw [← HDM.out] at hhd
          refine hhd.mono ?_
          rintro e w8 ⟨rfl, hx8⟩
          have y8 : Ext w6 w8 := y7.trans hx8
          refine hK.out _ _ (fun _ => y8) ?_
          clear hK K hhd
          (repeat (first | ((apply w3_pure); (· go_simp); (· (intro w1; go_simp; try with_reducible rfl)); (intro K hK; go_simp; refine hK _ _ ?_; clear hK K)) | ((apply w3_skip); (· go_simp); (intro K hK; go_simp; refine hK _ _ ?_; clear hK K))))
          (refine w3_act (fun K hK => ?_); go_simp)
          have y9 : Ext w6 (w8.alloc (.cells D.cells 30)) := y8.alloc _
          refine hK.out _ _ (fun _ => y9) ?_
          clear hK K
          have hs9 := y8.size
          obtain ⟨v10, w10, hr10, ho10, hk10⟩ := appE (w8.alloc (.cells D.cells 30)) top (.slice (some ⟨g12, 0, none⟩) (j + 1) c12) (j + 1) _ (own_ext HO6.out y9) w8.heap.size 0 1 1 [D] rfl (by simpa [digs] using Row.of_blk (Blk.new w8 30 D.cells)) (by omega) (by simp; omega)
          have hot : ∀ i, (Value.slice (some ⟨g12, 0, none⟩) (j + 1) c12).ownBlock = some i → top ≤ i := fun i e => (HO6.out.lt i e).1
          have hoi := own_other (own_ext HO6.out y9) (E' := 21) (by decide)
          have hos := own_other (own_ext HO6.out y9) (E' := 70) (by decide)
          have hS10 := Blk.kept (Blk.ext hS6 y9) hk10 (fun e => hos sb e _ _ (Blk.ext hS6 y9))
          have hT10 := (HT6.out.ext y9).kept hk10 hot
          have hM10 := (HM6.out.ext y9).kept hk10 (fun i e => by have := hot i e; omega) (fun i e _ => hoi i e)
          have x10 : Ext w w10 := (x6.trans y9).trans' hk10 (fun i hi e => by have := hot i e; omega)
          have hts10 : top ≤ w10.heap.size := by have h1 := y9.size; have h2 := hk10.size; omega
          have ho10' : w10.ownsRow top 30 8 v10 (j + 1 + 1) (digs ((List.range (j + 1 + 1)).map (trD l (pc, halt, m)))) := by
            rw [List.range_succ, List.map_append, show List.map (trD l (pc, halt, m)) [j + 1] = [D] by rw [HD.out]; rfl]
            exact ho10
          obtain ⟨g10, c10, hv10, _⟩ := own_rows ho10' (by omega) (by omega)
          subst hv10
          have HO10 := Lib.hid ho10'
          have HT10 := Lib.hid hT10
          have HM10 := Lib.hid hM10
          clear ho10 ho10' hT10 hM10 hk10 hot hoi hos
          refine w3_end (by kernel_rfl) (fun K hK => ?_)
          refine iff_want rfl ?_
          refine Lib.wp_append_run _ _ _ _ _ rfl _ _ rfl rfl _ _ hr10 ?_
          refine hK.out _ _ ?_
          clear hK K hr10
          (repeat (first | ((apply w3_pure); (· go_simp); (· (intro w1; go_simp; try with_reducible rfl)); (intro K hK; go_simp; refine hK _ _ ?_; clear hK K)) | ((apply w3_skip); (· go_simp); (intro K hK; go_simp; refine hK _ _ ?_; clear hK K)) | (refine w3_end (by kernel_rfl) (fun K hK => ?_); go_simp; refine hK.out _ _ ?_; clear hK K))); refine w3_nil ?_
          go_wp2_with fail
          go_roundw
          case rel => exact ⟨j + 1, g3, 0, c3, hlt, HO10.out, by rw [HNX2.out]; exact hS10, by rw [HNX2.out]; exact HM10.out, by rw [HNX2.out]; exact HT10.out, x10, hts10⟩
          case measure => simp only; omega
        · have hup := HUP.out
          unfold upd at hup
          rw [if_neg hw0] at hup
          have hT6 := HT4.out
          rw [← hup] at hT6
          have hml : m'.length = k := by rw [hup]; exact HLN.out
          obtain ⟨w6, hw6⟩ : ∃ w6, w6 = W4 := ⟨_, rfl⟩
          have HO6 := Lib.hid (show w6.ownsRow _ _ _ _ _ _ from by rw [hw6]; exact HO4.out)
          have HT6 := Lib.hid (show TreeIn w6 _ _ _ _ from by rw [hw6]; exact hT6)
          have HM6 := Lib.hid (show MemW w w6 _ _ _ _ from by rw [hw6]; exact HM4.out)
          have hS6 : Blk w6 sb 70 (stCells p' (some ⟨g3, 0, none⟩) k c3 h') := by rw [hw6]; exact hS4
          have x6 : Ext w w6 := by rw [hw6]; exact x4
          have hts6 : top ≤ w6.heap.size := by rw [hw6]; exact hts4
          have HML := Lib.hid hml
          rw [← hw6]
          clear hup hT6 hml HO4 HT4 HM4 HMC x4 hS4 hts4 hw6
          obtain ⟨D, hD⟩ : ∃ D, D = trD l (pc, halt, m) (j + 1) := ⟨_, rfl⟩
          obtain ⟨M, hMe⟩ : ∃ M, M = memR m' := ⟨_, rfl⟩
          have hDM : D = hHead p' h' k M := by rw [hD, hMe]; unfold trD; rw [HNX2.out, ← HML.out]; rfl
          have hokn := (HOKT.out (j + 1)).1
          rw [HNX2.out] at hokn
          obtain ⟨_, _, s3, s4, s5, s6⟩ := rightS_inv hokn.right
          simp only at s3 s4 s5 s6
          have HD := Lib.hid hD
          have HMe := Lib.hid hMe
          have HDM := Lib.hid hDM
          clear hD hMe hDM hokn
          go_upto_region 18 with (fail)
          refine wp_region_3 (fun w2 => Ext w6 w2) [(0, 2), (1, 2), (2, 1), (3, 2), (4, 1), (5, 2), (6, 1), (7, 2), (8, 2), (9, 0), (10, 0), (11, 0), (12, 0), (13, 2)] (by kernel_rfl) (by kernel_rfl) (by kernel_rfl) (by kernel_rfl) ?_; intro l' hl'; simp only [List.map_cons, List.map_nil, List.getD_cons_zero, List.getD_cons_succ] at hl'; subst hl'
          (repeat (first | ((apply w3_pure); (· go_simp); (· (intro w1; go_simp; try with_reducible rfl)); (intro K hK; go_simp; refine hK _ _ ?_; clear hK K)) | ((apply w3_skip); (· go_simp); (intro K hK; go_simp; refine hK _ _ ?_; clear hK K)) | ((apply w3_take); (· exact (Kept.drew (Kept.refl _ _))); (· go_simp); (· (intro w1 hS; have d1 := Blk.cell (Blk.ext hS6 hS); have d2 := (Blk.ext hS6 hS).lt;  go_simp; try with_reducible rfl)); (intro K hK; go_simp; refine hK _ _ ?_; clear hK K)) | ((apply w3_pass); (· exact (Kept.drew (Kept.refl _ _))); (· go_simp); (intro K hK; go_simp; refine hK _ _ ?_; clear hK K))))
          have yW : Ext w6 w6.drew := (Kept.refl _ w6).drew
          (refine w3_act (fun K hK => ?_); go_simp)
          go_wp2_with fail
          have hrt := troot_tree base q (m'.map leafW) w6.drew (by rw [List.length_map, HML.out]; exact k1) (by rw [List.length_map, HML.out]; omega) (HT6.out.ok.ext yW)
          rw [show rootT (m'.map leafW) = M from HMe.out.symm] at hrt
          refine hrt.mono ?_
          rintro e w7 ⟨rfl, hx7⟩
          have y7 : Ext w6 w7 := yW.trans hx7
          refine hK.out _ _ (fun _ => y7) ?_
          clear hK K hrt
          (repeat (first | ((apply w3_pure); (· go_simp); (· (intro w1; go_simp; try with_reducible rfl)); (intro K hK; go_simp; refine hK _ _ ?_; clear hK K)) | ((apply w3_skip); (· go_simp); (intro K hK; go_simp; refine hK _ _ ?_; clear hK K))))
          (refine w3_act (fun K hK => ?_); go_simp)
          go_wp2_with fail
          have hhd := head_any p' h' k M (by rw [HMe.out]; exact hWord_ok _ _) (by omega) (by omega) (by omega) w7
          rw [← HDM.out] at hhd
          refine hhd.mono ?_
          rintro e w8 ⟨rfl, hx8⟩
          have y8 : Ext w6 w8 := y7.trans hx8
          refine hK.out _ _ (fun _ => y8) ?_
          clear hK K hhd
          (repeat (first | ((apply w3_pure); (· go_simp); (· (intro w1; go_simp; try with_reducible rfl)); (intro K hK; go_simp; refine hK _ _ ?_; clear hK K)) | ((apply w3_skip); (· go_simp); (intro K hK; go_simp; refine hK _ _ ?_; clear hK K))))
          (refine w3_act (fun K hK => ?_); go_simp)
          have y9 : Ext w6 (w8.alloc (.cells D.cells 30)) := y8.alloc _
          refine hK.out _ _ (fun _ => y9) ?_
          clear hK K
          have hs9 := y8.size
          obtain ⟨v10, w10, hr10, ho10, hk10⟩ := appE (w8.alloc (.cells D.cells 30)) top (.slice (some ⟨g12, 0, none⟩) (j + 1) c12) (j + 1) _ (own_ext HO6.out y9) w8.heap.size 0 1 1 [D] rfl (by simpa [digs] using Row.of_blk (Blk.new w8 30 D.cells)) (by omega) (by simp; omega)
          have hot : ∀ i, (Value.slice (some ⟨g12, 0, none⟩) (j + 1) c12).ownBlock = some i → top ≤ i := fun i e => (HO6.out.lt i e).1
          have hoi := own_other (own_ext HO6.out y9) (E' := 21) (by decide)
          have hos := own_other (own_ext HO6.out y9) (E' := 70) (by decide)
          have hS10 := Blk.kept (Blk.ext hS6 y9) hk10 (fun e => hos sb e _ _ (Blk.ext hS6 y9))
          have hT10 := (HT6.out.ext y9).kept hk10 hot
          have hM10 := (HM6.out.ext y9).kept hk10 (fun i e => by have := hot i e; omega) (fun i e _ => hoi i e)
          have x10 : Ext w w10 := (x6.trans y9).trans' hk10 (fun i hi e => by have := hot i e; omega)
          have hts10 : top ≤ w10.heap.size := by have h1 := y9.size; have h2 := hk10.size; omega
          have ho10' : w10.ownsRow top 30 8 v10 (j + 1 + 1) (digs ((List.range (j + 1 + 1)).map (trD l (pc, halt, m)))) := by
            rw [List.range_succ, List.map_append, show List.map (trD l (pc, halt, m)) [j + 1] = [D] by rw [HD.out]; rfl]
            exact ho10
          obtain ⟨g10, c10, hv10, _⟩ := own_rows ho10' (by omega) (by omega)
          subst hv10
          have HO10 := Lib.hid ho10'
          have HT10 := Lib.hid hT10
          have HM10 := Lib.hid hM10
          clear ho10 ho10' hT10 hM10 hk10 hot hoi hos
          refine w3_end (by kernel_rfl) (fun K hK => ?_)
          refine iff_want rfl ?_
          refine Lib.wp_append_run _ _ _ _ _ rfl _ _ rfl rfl _ _ hr10 ?_
          refine hK.out _ _ ?_
          clear hK K hr10
          (repeat (first | ((apply w3_pure); (· go_simp); (· (intro w1; go_simp; try with_reducible rfl)); (intro K hK; go_simp; refine hK _ _ ?_; clear hK K)) | ((apply w3_skip); (· go_simp); (intro K hK; go_simp; refine hK _ _ ?_; clear hK K)) | (refine w3_end (by kernel_rfl) (fun K hK => ?_); go_simp; refine hK.out _ _ ?_; clear hK K))); refine w3_nil ?_
          go_wp2_with fail
          go_roundw
          case rel => exact ⟨j + 1, g3, 0, c3, hlt, HO10.out, by rw [HNX2.out]; exact hS10, by rw [HNX2.out]; exact HM10.out, by rw [HNX2.out]; exact HT10.out, x10, hts10⟩
          case measure => simp only; omega
      · have hb0 : (rha != 0) = true := by simpa using h0
        have HH0 := Lib.hid h0
        clear h0
        obtain ⟨dh, dgt⟩ := hrow.dig j (by simp)
        simp only [List.getElem_map, List.getElem_range, Nat.zero_add] at dh dgt
        obtain ⟨D, hD⟩ : ∃ D, D = trD l (pc, halt, m) j := ⟨_, rfl⟩
        rw [← hD] at dgt
        have hgl := hrow.lt
        have hnxt : trajI l (pc, halt, m) (j + 1) = (rpc, rha, rm) := by rw [HNX.out]; unfold runI; rw [if_neg HH0.out]
        have hD1 : trD l (pc, halt, m) (j + 1) = D := by rw [hD]; unfold trD; rw [hnxt, ← HR.out]
        have HD1 := Lib.hid hD1
        have HNT := Lib.hid hnxt
        clear hD hD1 hnxt hrow
        have hj0 : (0 : Int) ≤ j := by omega
        have hjl : (j : Int) < (j : Int) + 1 := by omega
        have hjn : j < j + 1 := by omega
        have hj1 : (j : Int) + 1 - 1 = j := by omega
        go_upto_region 13 with (fail)
        go_step
        iterate 8 (refine wpList_step (fun K hK => ?_); go_simp; (try go_bits); refine hK _ _ ?_; clear hK K)
        have y5 : Ext wr (wr.alloc (.cells D.cells 30)) := (Kept.refl _ wr).alloc _
        obtain ⟨v6, w6, hr6, ho6, hk6⟩ := appE (wr.alloc (.cells D.cells 30)) top (.slice (some ⟨g12, 0, none⟩) (j + 1) c12) (j + 1) _ (own_ext HO.out y5) wr.heap.size 0 1 1 [D] rfl (by simpa [digs] using Row.of_blk (Blk.new wr 30 D.cells)) (by omega) (by simp; omega)
        have hot : ∀ i, (Value.slice (some ⟨g12, 0, none⟩) (j + 1) c12).ownBlock = some i → top ≤ i := fun i e => (HO.out.lt i e).1
        have hoi := own_other (own_ext HO.out y5) (E' := 21) (by decide)
        have hos := own_other (own_ext HO.out y5) (E' := 70) (by decide)
        have hS6 := Blk.kept (Blk.ext hS y5) hk6 (fun e => hos sb e _ _ (Blk.ext hS y5))
        have hT6 := (HT.out.ext y5).kept hk6 hot
        have hM6 := (HM.out.ext y5).kept hk6 (fun i e => by have := hot i e; omega) (fun i e _ => hoi i e)
        have x6 : Ext w w6 := (hx.trans y5).trans' hk6 (fun i hi e => by have := hot i e; omega)
        have hts6 : top ≤ w6.heap.size := by have h1 := y5.size; have h2 := hk6.size; omega
        have ho6' : w6.ownsRow top 30 8 v6 (j + 1 + 1) (digs ((List.range (j + 1 + 1)).map (trD l (pc, halt, m)))) := by
          rw [List.range_succ, List.map_append, show List.map (trD l (pc, halt, m)) [j + 1] = [D] by rw [← HD1.out]; rfl]
          exact ho6
        obtain ⟨g6, c6, hv6, _⟩ := own_rows ho6' (by omega) (by omega)
        subst hv6
        refine wpList_app rfl (.tmp 60) (.tmp 67) 42 rfl rfl rfl rfl hr6 ?_
        have HO6 := Lib.hid ho6'
        have HT6 := Lib.hid hT6
        have HM6 := Lib.hid hM6
        clear hr6 ho6 ho6' hT6 hM6 hk6 hot hoi hos dh dgt i1
        go_wp2_with fail
        go_roundw
        case rel => exact ⟨j + 1, g, o, c, hlt, HO6.out, by rw [HNT.out]; exact hS6, by rw [HNT.out]; exact HM6.out, by rw [HNT.out]; exact HT6.out, x6, hts6⟩
        case measure => simp only; omega
    · have hltI : ¬ (j : Int) + 1 ≤ steps := by omega
      have ej : j = steps := by omega
      subst ej
      go_wp2_with fail
      go_ret2
      exact ⟨_, rfl, own_mono HO.out (by omega), hx⟩
end Go.Proofs.YtahljceanodhkaaGreatDoor

/- The walks of package baizeref23 (the document's trial). -/
namespace Go.Proofs.YtahljceanodhkaaGreatDoor
open Go.RowKit
set_option maxHeartbeats 400000 in
theorem rturn_any (r : Rt) (w : World) : Calls Tryz.prog 65 #[.agg r.cells] w fun e w' => e = .returned (.int .i64 r.turn) ∧ Ext w w' := by
  unfold Rt.turn
  by_cases h : 0 ≤ r.won
  · rw [if_pos h]
    go_enter Tryz.func65, Tryz.ntmps65
    go_wp2
    go_ret
    refine ⟨rfl, ?_⟩
    ((repeat' (with_reducible (first | apply Kept.drew | apply Kept.drewN | apply Kept.alloc | apply Kept.setCell | apply Kept.putAt | exact Kept.refl _ _))) <;> (intro hlt; first | rfl | (simp at hlt; done) | (exfalso; simp at hlt; omega) | omega))
  · rw [if_neg h]
    cases ht : r.told
    all_goals
      go_enter Tryz.func65, Tryz.ntmps65
      go_wp2
      go_ret
      refine ⟨rfl, ?_⟩
      ((repeat' (with_reducible (first | apply Kept.drew | apply Kept.drewN | apply Kept.alloc | apply Kept.setCell | apply Kept.putAt | exact Kept.refl _ _))) <;> (intro hlt; first | rfl | (simp at hlt; done) | (exfalso; simp at hlt; omega) | omega))
set_option maxHeartbeats 400000 in
theorem rtell_over (r : Rt) (d : Dg) (w : World) (h : 0 ≤ r.won) : Calls Tryz.prog 61 #[.agg r.cells, .agg #[.int .u8 d.x0, .int .u8 d.x1, .int .u8 d.x2, .int .u8 d.x3, .int .u8 d.x4, .int .u8 d.x5, .int .u8 d.x6, .int .u8 d.x7]] w fun e w' => e = .returned (.tuple #[.agg r.cells, .int .i64 15]) ∧ Ext w w' := by
  go_enter Tryz.func61, Tryz.ntmps61
  go_wp2
  refine ret_ci Tryz.results61 rfl rfl aggRt (by exact sizeRt) (Blk.new' _ _ _ _ (by simp)) ⟨rfl, ?_⟩
  ((repeat' (with_reducible (first | apply Kept.drew | apply Kept.drewN | apply Kept.alloc | apply Kept.setCell | apply Kept.putAt | exact Kept.refl _ _))) <;> (intro hlt; first | rfl | (simp at hlt; done) | (exfalso; simp at hlt; omega) | omega))
set_option maxHeartbeats 400000 in
theorem rtell_told (r : Rt) (d : Dg) (w : World) (h : ¬ 0 ≤ r.won) (ht : r.told = true) : Calls Tryz.prog 61 #[.agg r.cells, .agg #[.int .u8 d.x0, .int .u8 d.x1, .int .u8 d.x2, .int .u8 d.x3, .int .u8 d.x4, .int .u8 d.x5, .int .u8 d.x6, .int .u8 d.x7]] w fun e w' => e = .returned (.tuple #[.agg r.cells, .int .i64 10]) ∧ Ext w w' := by
  go_enter Tryz.func61, Tryz.ntmps61
  go_wp2
  refine ret_ci Tryz.results61 rfl rfl aggRt (by exact sizeRt) (Blk.new' _ _ _ _ (by simp)) ⟨by simp, ?_⟩
  ((repeat' (with_reducible (first | apply Kept.drew | apply Kept.drewN | apply Kept.alloc | apply Kept.setCell | apply Kept.putAt | exact Kept.refl _ _))) <;> (intro hlt; first | rfl | (simp at hlt; done) | (exfalso; simp at hlt; omega) | omega))
set_option maxHeartbeats 400000 in
theorem rtell_one (r : Rt) (d : Dg) (w : World) (h : ¬ 0 ≤ r.won) (ht : r.told = false) (hs : (r.steps == 1) = true) : Calls Tryz.prog 61 #[.agg r.cells, .agg #[.int .u8 d.x0, .int .u8 d.x1, .int .u8 d.x2, .int .u8 d.x3, .int .u8 d.x4, .int .u8 d.x5, .int .u8 d.x6, .int .u8 d.x7]] w fun e w' => e = .returned (.tuple #[.agg r.cells, .int .i64 10]) ∧ Ext w w' := by
  go_enter Tryz.func61, Tryz.ntmps61
  go_wp2
  refine ret_ci Tryz.results61 rfl rfl aggRt (by exact sizeRt) (Blk.new' _ _ _ _ (by simp)) ⟨by simp, ?_⟩
  ((repeat' (with_reducible (first | apply Kept.drew | apply Kept.drewN | apply Kept.alloc | apply Kept.setCell | apply Kept.putAt | exact Kept.refl _ _))) <;> (intro hlt; first | rfl | (simp at hlt; done) | (exfalso; simp at hlt; omega) | omega))
set_option maxHeartbeats 400000 in
theorem rtell_ok (r : Rt) (d : Dg) (w : World) (h : ¬ 0 ≤ r.won) (ht : r.told = false) (hs : (r.steps == 1) = false) : Calls Tryz.prog 61 #[.agg r.cells, .agg #[.int .u8 d.x0, .int .u8 d.x1, .int .u8 d.x2, .int .u8 d.x3, .int .u8 d.x4, .int .u8 d.x5, .int .u8 d.x6, .int .u8 d.x7]] w fun e w' => e = .returned (.tuple #[.agg (Rt.cells { r with told := true, mid := d }), .int .i64 0]) ∧ Ext w w' := by
  go_enter Tryz.func61, Tryz.ntmps61
  go_wp2
  refine wp_region_tx (fun w1 => Blk w1 (w.heap.size + 1) 23 d.cells) [true, true, false, false, false] (by kernel_rfl) (by kernel_rfl) (by kernel_rfl) ?_
  (repeat (first | ((apply wpTx_take); (· exact (Blk.drew (Blk.alloc (Blk.new' _ _ _ _ (by simp)) _))); (· go_simp); (· (intro w1 hS; have hh := Blk.has hS; have hg := Blk.gets hS;  go_simp; try with_reducible rfl)); (intro K hK; go_simp; refine hK _ _ ?_; clear hK K)) | ((apply wpTx_pass); (· exact (Blk.drew (Blk.alloc (Blk.new' _ _ _ _ (by simp)) _))); (· go_simp); (intro K hK; go_simp; refine hK _ _ ?_; clear hK K))))
  (repeat (refine wpTx_act (fun K hK => ?_); go_simp; refine hK.out _ _ (Blk.drew (Blk.alloc (Blk.new' _ _ _ _ (by simp)) _)) (fun _ => ?_); clear hK K))
  refine wpTx_nil ?_
  go_wp2
  refine ret_ci Tryz.results61 rfl rfl aggRt (by exact sizeRt) (Blk.drew (Blk.new' _ _ _ _ (by simp))) ⟨rfl, ?_⟩
  ((repeat' (with_reducible (first | apply Kept.drew | apply Kept.drewN | apply Kept.alloc | apply Kept.setCell | apply Kept.putAt | exact Kept.refl _ _))) <;> (intro hlt; first | rfl | (simp at hlt; done) | (exfalso; simp at hlt; omega) | omega))
theorem rtell_any (r : Rt) (d : Dg) (w : World) : Calls Tryz.prog 61 #[.agg r.cells, .agg #[.int .u8 d.x0, .int .u8 d.x1, .int .u8 d.x2, .int .u8 d.x3, .int .u8 d.x4, .int .u8 d.x5, .int .u8 d.x6, .int .u8 d.x7]] w fun e w' => e = .returned (.tuple #[.agg (r.tell d).1.cells, .int .i64 (r.tell d).2]) ∧ Ext w w' := by
  by_cases h : 0 ≤ r.won
  · rw [show r.tell d = (r, 15) by simp [Rt.tell, h]]
    exact rtell_over r d w h
  · cases ht : r.told
    · cases hs : r.steps == 1
      · rw [show r.tell d = ({ r with told := true, mid := d }, 0) by simp only [Rt.tell, if_neg h, ht, hs]; rfl]
        exact rtell_ok r d w h ht hs
      · rw [show r.tell d = (r, 10) by simp [Rt.tell, h, ht]; simpa using hs]
        exact rtell_one r d w h ht hs
    · rw [show r.tell d = (r, 10) by simp [Rt.tell, h, ht]]
      exact rtell_told r d w h ht
set_option maxHeartbeats 400000 in
theorem rchoose_any (r : Rt) (f : Bool) (w : World) (h0 : 0 ≤ r.steps) (h1 : r.steps ≤ 1048576) (h2 : 0 ≤ r.from_) (h3 : r.from_ ≤ 1048576) :
    Calls Tryz.prog 62 #[.agg r.cells, .bool f] w fun e w' => e = .returned (.tuple #[.agg (r.choose f).1.cells, .int .i64 (r.choose f).2]) ∧ Ext w w' := by
  unfold Rt.choose
  by_cases h : 0 ≤ r.won
  · simp only [if_pos h]
    go_enter Tryz.func62, Tryz.ntmps62
    go_wp2
    refine ret_ci Tryz.results62 rfl rfl aggRt (by exact sizeRt) (Blk.new' _ _ _ _ (by simp)) ⟨rfl, ?_⟩
    ((repeat' (with_reducible (first | apply Kept.drew | apply Kept.drewN | apply Kept.alloc | apply Kept.setCell | apply Kept.putAt | exact Kept.refl _ _))) <;> (intro hlt; first | rfl | (simp at hlt; done) | (exfalso; simp at hlt; omega) | omega))
  · simp only [if_neg h]
    cases ht : r.told
    · simp only [Bool.false_eq_true, if_false]
      go_enter Tryz.func62, Tryz.ntmps62
      go_wp2
      refine ret_ci Tryz.results62 rfl rfl aggRt (by exact sizeRt) (Blk.new' _ _ _ _ (by simp)) ⟨by simp, ?_⟩
      ((repeat' (with_reducible (first | apply Kept.drew | apply Kept.drewN | apply Kept.alloc | apply Kept.setCell | apply Kept.putAt | exact Kept.refl _ _))) <;> (intro hlt; first | rfl | (simp at hlt; done) | (exfalso; simp at hlt; omega) | omega))
    · cases f
      all_goals
        simp only [Bool.false_eq_true, if_false, if_true]
        go_enter Tryz.func62, Tryz.ntmps62
        go_wp2
        refine ret_ci Tryz.results62 rfl rfl aggRt (by exact sizeRt) (Blk.new' _ _ _ _ (by simp)) ⟨rfl, ?_⟩
        ((repeat' (with_reducible (first | apply Kept.drew | apply Kept.drewN | apply Kept.alloc | apply Kept.setCell | apply Kept.putAt | exact Kept.refl _ _))) <;> (intro hlt; first | rfl | (simp at hlt; done) | (exfalso; simp at hlt; omega) | omega))
set_option maxHeartbeats 400000 in
theorem rprove_any (r : Rt) (x : Int) (w : World) : Calls Tryz.prog 63 #[.agg r.cells, .int .i64 x] w fun e w' => e = .returned (.tuple #[.agg (r.prove x).1.cells, .int .i64 (r.prove x).2]) ∧ Ext w w' := by
  unfold Rt.prove
  by_cases h : 0 ≤ r.won
  · simp only [if_pos h]
    go_enter Tryz.func63, Tryz.ntmps63
    go_wp2
    refine ret_ci Tryz.results63 rfl rfl aggRt (by exact sizeRt) (Blk.new' _ _ _ _ (by simp)) ⟨rfl, ?_⟩
    ((repeat' (with_reducible (first | apply Kept.drew | apply Kept.drewN | apply Kept.alloc | apply Kept.setCell | apply Kept.putAt | exact Kept.refl _ _))) <;> (intro hlt; first | rfl | (simp at hlt; done) | (exfalso; simp at hlt; omega) | omega))
  · simp only [if_neg h]
    cases ht : r.told
    · by_cases hs : 1 < r.steps
      · simp only [hs, decide_true, Bool.or_true, if_true]
        go_enter Tryz.func63, Tryz.ntmps63
        go_wp2
        refine ret_ci Tryz.results63 rfl rfl aggRt (by exact sizeRt) (Blk.new' _ _ _ _ (by simp)) ⟨by simp, ?_⟩
        ((repeat' (with_reducible (first | apply Kept.drew | apply Kept.drewN | apply Kept.alloc | apply Kept.setCell | apply Kept.putAt | exact Kept.refl _ _))) <;> (intro hlt; first | rfl | (simp at hlt; done) | (exfalso; simp at hlt; omega) | omega))
      · simp only [hs, decide_false, Bool.or_self, Bool.false_eq_true, if_false]
        by_cases hx : x = 0
        · subst hx
          simp only [if_true]
          go_enter Tryz.func63, Tryz.ntmps63
          go_wp2
          refine ret_ci Tryz.results63 rfl rfl aggRt (by exact sizeRt) (Blk.new' _ _ _ _ (by simp)) ⟨by simp, ?_⟩
          ((repeat' (with_reducible (first | apply Kept.drew | apply Kept.drewN | apply Kept.alloc | apply Kept.setCell | apply Kept.putAt | exact Kept.refl _ _))) <;> (intro hlt; first | rfl | (simp at hlt; done) | (exfalso; simp at hlt; omega) | omega))
        · simp only [if_neg hx]
          have hx' : (x != 0) = true := by simpa using hx
          clear hx
          go_enter Tryz.func63, Tryz.ntmps63
          go_wp2
          refine ret_ci Tryz.results63 rfl rfl aggRt (by exact sizeRt) (Blk.new' _ _ _ _ (by simp)) ⟨by simp, ?_⟩
          ((repeat' (with_reducible (first | apply Kept.drew | apply Kept.drewN | apply Kept.alloc | apply Kept.setCell | apply Kept.putAt | exact Kept.refl _ _))) <;> (intro hlt; first | rfl | (simp at hlt; done) | (exfalso; simp at hlt; omega) | omega))
    · simp only [Bool.true_or, if_true]
      go_enter Tryz.func63, Tryz.ntmps63
      go_wp2
      refine ret_ci Tryz.results63 rfl rfl aggRt (by exact sizeRt) (Blk.new' _ _ _ _ (by simp)) ⟨by simp, ?_⟩
      ((repeat' (with_reducible (first | apply Kept.drew | apply Kept.drewN | apply Kept.alloc | apply Kept.setCell | apply Kept.putAt | exact Kept.refl _ _))) <;> (intro hlt; first | rfl | (simp at hlt; done) | (exfalso; simp at hlt; omega) | omega))
theorem Rt.turn_bounds (r : Rt) : -1 ≤ r.turn ∧ r.turn ≤ 1 := by unfold Rt.turn; split <;> (try split) <;> omega
set_option maxHeartbeats 400000 in
theorem rsilence_any (r : Rt) (w : World) : Calls Tryz.prog 64 #[.agg r.cells] w fun e w' => e = .returned (.tuple #[.agg r.silence.1.cells, .int .i64 r.silence.2]) ∧ Ext w w' := by
  have hb := r.turn_bounds
  unfold Rt.silence
  by_cases h : 0 ≤ r.won
  · simp only [if_pos h]
    go_enter Tryz.func64, Tryz.ntmps64
    go_wp2
    refine ret_ci Tryz.results64 rfl rfl aggRt (by exact sizeRt) (Blk.new' _ _ _ _ (by simp)) ⟨rfl, ?_⟩
    ((repeat' (with_reducible (first | apply Kept.drew | apply Kept.drewN | apply Kept.alloc | apply Kept.setCell | apply Kept.putAt | exact Kept.refl _ _))) <;> (intro hlt; first | rfl | (simp at hlt; done) | (exfalso; simp at hlt; omega) | omega))
  · simp only [if_neg h]
    go_enter Tryz.func64, Tryz.ntmps64
    go_wp2_with fail
    have b1 := Blk.new w 49 r.cells
    refine (rturn_any r _).mono ?_
    rintro e w1 ⟨rfl, hx1⟩
    have b2 := Blk.ext (Blk.alloc b1 _) hx1
    have b3 : Blk w1 (w.heap.size + 1) 49 _ := Blk.ext (Blk.new' _ _ _ _ (by simp)) hx1
    have hh := Blk.has b2
    have hg := Blk.gets b2
    have hc := Blk.cell b2
    have hf := Blk.frozen b2
    have hm := Blk.melts b2
    have hh3 := Blk.has b3
    have hm3 := Blk.melts b3
    go_wp2
    refine ret_ci Tryz.results64 rfl rfl aggRt (by exact sizeRt) (Blk.put_ (Blk.far b3 (by simp) _) _ _) ⟨rfl, ?_⟩
    have k1 : Ext w w1 := (((Kept.refl _ w).alloc _).alloc _).trans hx1
    exact Kept.putAt (Kept.setCell k1 _ _ (fun h => by simp at h)) _ _ _ (fun h => by omega)
end Go.Proofs.YtahljceanodhkaaGreatDoor

/- A step that shows nothing is out of range; a trial's Prove by what Check answers. -/
namespace Go.Proofs.YtahljceanodhkaaGreatDoor
open Go.RowKit
abbrev zeroStep : Array Value := #[.int .i64 0, .int .i64 0, .int .i64 0, .int .u8 0, .int .u8 0, .int .u8 0, .int .u8 0, .int .u8 0, .int .u8 0, .int .u8 0, .int .u8 0, .int .i64 0, .int .i64 0, .int .i64 0, .int .i64 0, .slice none 0 0, .slice none 0 0, .slice none 0 0]
attribute [go_sem] zeroStep
set_option maxHeartbeats 400000 in
theorem right0 (w : World) : Calls Tryz.prog 78 #[.agg zeroStep] w fun e w' => e = .returned (.bool false) ∧ Ext w w' := by
  go_enter Tryz.func78, Tryz.ntmps78
  go_wp2
  go_ret
  refine ⟨rfl, ?_⟩
  ((repeat' (with_reducible (first | apply Kept.drew | apply Kept.drewN | apply Kept.alloc | apply Kept.setCell | apply Kept.putAt | exact Kept.refl _ _))) <;> (intro hlt; first | rfl | (simp at hlt; done) | (exfalso; simp at hlt; omega) | omega))
set_option maxHeartbeats 400000 in
theorem after0 (p a : Dg) (sz : Int) (w : World) (h0 : 1 ≤ sz) (h1 : sz ≤ 2048) : Calls Tryz.prog 37 #[.agg #[.int .u8 p.x0, .int .u8 p.x1, .int .u8 p.x2, .int .u8 p.x3, .int .u8 p.x4, .int .u8 p.x5, .int .u8 p.x6, .int .u8 p.x7], .int .i64 sz, .agg #[.int .u8 a.x0, .int .u8 a.x1, .int .u8 a.x2, .int .u8 a.x3, .int .u8 a.x4, .int .u8 a.x5, .int .u8 a.x6, .int .u8 a.x7], .agg zeroStep] w fun e w' => e = .returned (.tuple #[.agg Dg.zero.cells, .int .i64 2]) ∧ Ext w w' := by
  go_enter Tryz.func37, Tryz.ntmps37
  go_wp2_with fail
  refine (right0 _).mono ?_
  rintro e w1 ⟨rfl, hx1⟩
  have b3 : Blk w1 (w.heap.size + 1 + 1 + 1) 30 Dg.zero.cells := Blk.ext (Blk.new' _ _ _ _ (by simp)) hx1
  have hh3 := Blk.has b3
  have hm3 := Blk.melts b3
  go_wp2
  refine ret_ci Tryz.results37 rfl rfl aggDig (by exact sizeDig) (Blk.put_ b3 _ _) ⟨rfl, ?_⟩
  have k1 : Ext w w1 := ((((Kept.refl _ w).alloc _).alloc _).alloc _).alloc _ |>.trans hx1
  exact Kept.putAt k1 _ _ _ (fun h => by omega)
set_option maxHeartbeats 400000 in
theorem check0 (p a z : Dg) (sz : Int) (w : World) (h0 : 1 ≤ sz) (h1 : sz ≤ 2048) : Calls Tryz.prog 42 #[.agg #[.int .u8 p.x0, .int .u8 p.x1, .int .u8 p.x2, .int .u8 p.x3, .int .u8 p.x4, .int .u8 p.x5, .int .u8 p.x6, .int .u8 p.x7], .int .i64 sz, .agg #[.int .u8 a.x0, .int .u8 a.x1, .int .u8 a.x2, .int .u8 a.x3, .int .u8 a.x4, .int .u8 a.x5, .int .u8 a.x6, .int .u8 a.x7], .agg #[.int .u8 z.x0, .int .u8 z.x1, .int .u8 z.x2, .int .u8 z.x3, .int .u8 z.x4, .int .u8 z.x5, .int .u8 z.x6, .int .u8 z.x7], .agg zeroStep] w fun e w' => e = .returned (.int .i64 2) ∧ Ext w w' := by
  go_enter Tryz.func42, Tryz.ntmps42
  go_wp2_with fail
  refine (after0 p a sz _ h0 h1).mono ?_
  rintro e w1 ⟨rfl, hx1⟩
  go_wp2
  go_ret
  refine ⟨rfl, ?_⟩
  exact (((((Kept.refl _ w).alloc _).alloc _).alloc _).alloc _ |>.trans hx1).alloc _
def proveE (t : Tr) (e : Int) : Int := if askedE t 0 true = 0 then e else askedE t 0 true
def proveT (t : Tr) (e : Int) : Tr := if askedE t 0 true = 0 ∧ e = 0 then { t with turn := -1, winner := 0 } else t
set_option maxRecDepth 100000 in
set_option maxHeartbeats 1000000 in
theorem prove_ask (b : Nat) (t : Tr) (cs : Array Value) (e0 : Int) (w : World) (ht : At w b t) (hcs : (cs.toList.take 18).toArray = cs) (hn : 18 ≤ cs.size) (ha : askedE t 0 true = 0)
    (hk : ∀ w', Ext w w' → Calls Tryz.prog 42 #[.agg #[.int .u8 t.program.x0, .int .u8 t.program.x1, .int .u8 t.program.x2, .int .u8 t.program.x3, .int .u8 t.program.x4, .int .u8 t.program.x5, .int .u8 t.program.x6, .int .u8 t.program.x7], .int .i64 t.size, .agg #[.int .u8 t.before.x0, .int .u8 t.before.x1, .int .u8 t.before.x2, .int .u8 t.before.x3, .int .u8 t.before.x4, .int .u8 t.before.x5, .int .u8 t.before.x6, .int .u8 t.before.x7], .agg #[.int .u8 t.after.x0, .int .u8 t.after.x1, .int .u8 t.after.x2, .int .u8 t.after.x3, .int .u8 t.after.x4, .int .u8 t.after.x5, .int .u8 t.after.x6, .int .u8 t.after.x7], .agg cs] w' fun e w'' => e = .returned (.int .i64 e0) ∧ Ext w' w'') :
    Calls Tryz.prog 21 #[.pointer (some ⟨b, 0, none⟩), .agg cs] w fun e w' => e = .returned (.int .i64 e0) ∧ At w' b (proveT t e0) ∧ Kept (· = b) w w' := by
  have HK := Lib.hid hk
  clear hk
  have hbl := Blk.lt ht
  obtain ⟨t', ht'⟩ : ∃ t', proveT t e0 = t' := ⟨_, rfl⟩
  rw [ht']
  have HT := Lib.hid ht'
  clear ht'
  go_enter Tryz.func21, Tryz.ntmps21
  go_wp2_with (go_at_call 57; refine (asked_any b t _ _ _ (Blk.alloc ht _)).mono ?_; rintro e w' ⟨rfl, rfl⟩)
  have hc1 := Blk.alloc ht (.cells cs 45)
  have hd1 := Blk.new w 45 cs
  refine wp_region_tx (fun w' => Ext (w.alloc (.cells cs 45)) w') [true, true, true, true, true, true, true, true, true, true, true, true, true, true, true, true, true, true, true, false, false] (by kernel_rfl) (by kernel_rfl) (by kernel_rfl) ?_
  (repeat (first | ((apply wpTx_take); (· exact (Kept.drew (Kept.refl _ _))); (· go_simp); (· (intro w1 hS; have c1 := Blk.ext hc1 hS; have d1 := Blk.ext hd1 hS; have hh := Blk.has c1; have hg := Blk.gets c1; have hcc := Blk.cell c1; have hhd := Blk.has d1; have hgd := Blk.gets d1;  go_simp; try with_reducible rfl)); (intro K hK; go_simp; refine hK _ _ ?_; clear hK K)) | ((apply wpTx_pass); (· exact (Kept.drew (Kept.refl _ _))); (· go_simp); (intro K hK; go_simp; refine hK _ _ ?_; clear hK K))))
  (refine wpTx_act (fun K hK => ?_); go_simp)
  go_wp2_with fail
  refine (HK.out _ (((Kept.refl _ w).alloc _).drew)).mono ?_
  rintro e w2 ⟨rfl, hx2⟩
  have hx2' : Ext (w.alloc (.cells cs 45)) w2 := ((Kept.refl _ _).drew).trans hx2
  refine hK.out _ _ hx2' (fun _ => ?_)
  clear hK K
  (repeat (refine wpTx_end (by kernel_rfl) (fun K hK => ?_); go_simp; refine hK.out _ _ ?_; clear hK K)); refine wpTx_nil ?_
  have hA2 : At w2 b t := Blk.ext hc1 hx2'
  have hx3 : Kept (· = b) w w2 := Kept.ext (((Kept.refl _ w).alloc _).trans hx2')
  by_cases he : e0 = 0
  · subst he
    have HT2 := Lib.hid (HT.out.symm.trans (if_pos ⟨ha, rfl⟩))
    go_wp2_with (go_at_call 60; refine (wins_any b t _ _ hA2).mono ?_; rintro e w' ⟨rfl, hA, hK⟩)
    go_ret
    exact ⟨rfl, HT2.out ▸ hA, hx3.trans hK⟩
  · have HT2 := Lib.hid (HT.out.symm.trans (if_neg (fun h => he h.2)))
    have he' : (e0 != 0) = true := by simpa using he
    clear he
    go_wp2_with fail
    go_ret
    exact ⟨rfl, HT2.out ▸ hA2, hx3⟩
theorem prove_any (b : Nat) (t : Tr) (cs : Array Value) (e0 : Int) (w : World) (ht : At w b t) (hcs : (cs.toList.take 18).toArray = cs) (hn : 18 ≤ cs.size)
    (hk : ∀ w', Ext w w' → Calls Tryz.prog 42 #[.agg #[.int .u8 t.program.x0, .int .u8 t.program.x1, .int .u8 t.program.x2, .int .u8 t.program.x3, .int .u8 t.program.x4, .int .u8 t.program.x5, .int .u8 t.program.x6, .int .u8 t.program.x7], .int .i64 t.size, .agg #[.int .u8 t.before.x0, .int .u8 t.before.x1, .int .u8 t.before.x2, .int .u8 t.before.x3, .int .u8 t.before.x4, .int .u8 t.before.x5, .int .u8 t.before.x6, .int .u8 t.before.x7], .agg #[.int .u8 t.after.x0, .int .u8 t.after.x1, .int .u8 t.after.x2, .int .u8 t.after.x3, .int .u8 t.after.x4, .int .u8 t.after.x5, .int .u8 t.after.x6, .int .u8 t.after.x7], .agg cs] w' fun e w'' => e = .returned (.int .i64 e0) ∧ Ext w' w'') :
    Calls Tryz.prog 21 #[.pointer (some ⟨b, 0, none⟩), .agg cs] w fun e w' => e = .returned (.int .i64 (proveE t e0)) ∧ At w' b (proveT t e0) ∧ Kept (· = b) w w' := by
  unfold proveE
  by_cases h : askedE t 0 true = 0
  · rw [if_pos h]; exact prove_ask b t cs e0 w ht hcs hn h hk
  · rw [if_neg h, show proveT t e0 = t from if_neg (fun x => h x.1)]
    refine (prove_no b t cs w ht (by simpa using h)).mono ?_
    rintro e w' ⟨rfl, hx⟩
    exact ⟨rfl, Blk.ext ht hx, Kept.ext hx⟩
end Go.Proofs.YtahljceanodhkaaGreatDoor

/- The walk of the laws' example 'told' of layer 23. -/
namespace Go.Proofs.YtahljceanodhkaaGreatDoor
open Go.RowKit
abbrev dg1 (x : Int) : Dg := ⟨x, 0, 0, 0, 0, 0, 0, 0⟩
abbrev tt0 : Tr := ⟨0, 4, dg1 2, dg1 3, dg1 1, 5, 0, Dg.zero, -1⟩
abbrev tt1 : Tr := ⟨0, 4, dg1 2, dg1 3, dg1 1, 5, 1, dg1 4, -1⟩
abbrev tt2 : Tr := ⟨2, 2, dg1 4, dg1 3, dg1 1, 5, 0, Dg.zero, -1⟩
abbrev tt3 : Tr := ⟨2, 2, dg1 4, dg1 3, dg1 1, 5, 1, dg1 5, -1⟩
abbrev tt4 : Tr := ⟨2, 1, dg1 4, dg1 5, dg1 1, 5, 0, Dg.zero, -1⟩
abbrev tt5 : Tr := ⟨2, 1, dg1 4, dg1 5, dg1 1, 5, -1, Dg.zero, 1⟩
section
variable {w : World} {g : Nat}
theorem told1 (h : At w g tt0) : Calls Tryz.prog 15 #[.pointer (some ⟨g, 0, none⟩), .agg #[.int .u8 4, .int .u8 0, .int .u8 0, .int .u8 0, .int .u8 0, .int .u8 0, .int .u8 0, .int .u8 0]] w fun e w' => e = .returned (.int .i64 0) ∧ At w' g tt1 ∧ Kept (· = g) w w' := tell_any g tt0 (dg1 4) w h
theorem told2 (h : At w g tt1) : Calls Tryz.prog 16 #[.pointer (some ⟨g, 0, none⟩), .bool false] w fun e w' => e = .returned (.int .i64 0) ∧ At w' g tt2 ∧ Kept (· = g) w w' := choose_any g tt1 false w h (by decide) (by decide) (by decide) (by decide)
theorem told3 (h : At w g tt2) : Calls Tryz.prog 15 #[.pointer (some ⟨g, 0, none⟩), .agg #[.int .u8 5, .int .u8 0, .int .u8 0, .int .u8 0, .int .u8 0, .int .u8 0, .int .u8 0, .int .u8 0]] w fun e w' => e = .returned (.int .i64 0) ∧ At w' g tt3 ∧ Kept (· = g) w w' := tell_any g tt2 (dg1 5) w h
theorem told4 (h : At w g tt3) : Calls Tryz.prog 16 #[.pointer (some ⟨g, 0, none⟩), .bool true] w fun e w' => e = .returned (.int .i64 0) ∧ At w' g tt4 ∧ Kept (· = g) w w' := choose_any g tt3 true w h (by decide) (by decide) (by decide) (by decide)
theorem told5 (h : At w g tt4) : Calls Tryz.prog 18 #[.pointer (some ⟨g, 0, none⟩)] w fun e w' => e = .returned (.int .i64 0) ∧ At w' g tt5 ∧ Kept (· = g) w w' := silence_any g tt4 w h
theorem told0 (w : World) : Calls Tryz.prog 13 #[.agg #[.int .u8 1, .int .u8 0, .int .u8 0, .int .u8 0, .int .u8 0, .int .u8 0, .int .u8 0, .int .u8 0], .int .i64 5, .int .i64 2, .agg #[.int .u8 2, .int .u8 0, .int .u8 0, .int .u8 0, .int .u8 0, .int .u8 0, .int .u8 0, .int .u8 0], .agg #[.int .u8 3, .int .u8 0, .int .u8 0, .int .u8 0, .int .u8 0, .int .u8 0, .int .u8 0, .int .u8 0]] w fun e w' => ∃ g, w.heap.size ≤ g ∧ e = .returned (.tuple #[.pointer (some ⟨g, 0, none⟩), .int .i64 0]) ∧ At w' g tt0 ∧ Ext w w' :=
  new_ok (dg1 1) (dg1 2) (dg1 3) 5 2 (by decide) (by decide) (by decide) (by decide) w
end
set_option maxHeartbeats 800000 in
theorem told_any (w : World) : Calls Tryz.prog 14 #[] w fun e w' => e = .returned (.bool true) ∧ Ext w w' := by
  go_enter Tryz.func14, Tryz.ntmps14
  go_wp2_with fail
  refine (told0 _).mono ?_
  rintro e w1 ⟨g, hg, rfl, hA1, hx1⟩
  go_wp2_with fail
  refine (told1 hA1).mono ?_
  rintro e w2 ⟨rfl, hA2, hx2⟩
  go_wp2_with fail
  refine (told2 hA2).mono ?_
  rintro e w3 ⟨rfl, hA3, hx3⟩
  go_wp2_with fail
  refine (told3 hA3).mono ?_
  rintro e w4 ⟨rfl, hA4, hx4⟩
  go_wp2_with fail
  refine (told4 hA4).mono ?_
  rintro e w5 ⟨rfl, hA5, hx5⟩
  go_wp2_with fail
  refine (span_any g tt4 _ hA5).mono ?_
  rintro e w6 ⟨rfl, hx6⟩
  have hA6 : At w6 g tt4 := Blk.ext hA5 hx6
  go_wp2_with fail
  refine (turn_any g tt4 _ (Blk.alloc (Blk.alloc hA6 _) _)).mono ?_
  rintro e w7 ⟨rfl, rfl⟩
  go_wp2_with fail
  refine (told5 (g := g) (Blk.alloc (Blk.alloc hA6 _) _)).mono ?_
  rintro e w8 ⟨rfl, hA8, hx8⟩
  go_wp2_with fail
  refine (winner_any g tt5 _ hA8).mono ?_
  rintro e w9 ⟨rfl, hx9⟩
  go_wp2_with fail
  refine (turn_any g tt5 _ (Blk.ext hA8 hx9)).mono ?_
  rintro e w10 ⟨rfl, rfl⟩
  go_wp2_with fail
  go_ret
  refine ⟨rfl, ?_⟩
  have hno : ∀ i, i < w.heap.size → i = g → False := fun i hi he => by omega
  exact ((((((hx1.trans' hx2 hno).trans' hx3 hno).trans' hx4 hno).trans' hx5 hno).trans hx6).alloc _).alloc _ |>.trans' hx8 hno |>.trans hx9
end Go.Proofs.YtahljceanodhkaaGreatDoor

/- A slice of deeds that came in, opened. -/
namespace Go.Proofs.YtahljceanodhkaaGreatDoor
open Go.RowKit Go.Deep Go.ChangeShapes Go.WideShapes
/-- Deeds in memory: so many, of 11 cells each. -/
structure Deeds (w : World) (b off len : Nat) (what : Nat → Int) (dg : Nat → Dg) (first : Nat → Bool) : Prop where
  what_ : ∀ i, i < len → w.cell? ⟨b, off + i * 11, none⟩ = some (.int .u8 (what i))
  whatR : ∀ i, i < len → 0 ≤ what i ∧ what i ≤ 255
  has_ : ∀ i, i < len → has w b (off + i * 11 + 1) 8 = true
  dg_ : ∀ i, i < len → gets w b (off + i * 11 + 1) 8 = (dg i).cells
  first_ : ∀ i, i < len → w.cell? ⟨b, off + i * 11 + 9, none⟩ = some (.bool (first i))
  lt : 0 < len → b < w.heap.size
theorem Deeds.keep {w w' : World} {b off len : Nat} {what : Nat → Int} {dg : Nat → Dg} {first : Nat → Bool} (h : Deeds w b off len what dg first) (hk : Ext w w') : Deeds w' b off len what dg first := by
  have hc : ∀ o, 0 < len → w'.cell? ⟨b, o, none⟩ = w.cell? ⟨b, o, none⟩ := fun o hl => hk.cell (p := ⟨b, o, none⟩) (h.lt hl) (fun f => f)
  have hb : 0 < len → w'.heap[b]? = w.heap[b]? := fun hl => hk.block b (h.lt hl) (fun f => f)
  refine ⟨fun i hi => (hc _ (by omega)).trans (h.what_ i hi), h.whatR, fun i hi => ?_, fun i hi => ?_, fun i hi => (hc _ (by omega)).trans (h.first_ i hi), fun hl => Nat.lt_of_lt_of_le (h.lt hl) hk.size⟩
  · have := h.has_ i hi; unfold has at this ⊢; rw [hb (by omega)]; exact this
  · have := h.dg_ i hi; unfold gets at this ⊢; rw [hb (by omega)]; exact this
theorem silenceE_cases (t : Tr) : silenceE t = 0 ∨ silenceE t = 15 := by
  unfold silenceE
  by_cases h : t.turn = 0
  · simp [h]
  · by_cases h1 : t.turn = 1 <;> simp [h, h1]
theorem addr_add (b off j : Nat) : (⟨b, off, none⟩ : Addr).add j = ⟨b, off + j, none⟩ := by unfold Addr.add; split <;> simp_all
theorem spot_of_cell {w : World} {a : Addr} {v : Value} (h : w.cell? a = some v) : a.spot = none := by
  unfold World.cell? at h
  split at h
  · split at h
    · cases h
    · rename_i hn; cases hs : a.spot with
      | none => rfl
      | some x => simp [hs] at hn
  · cases h
def intAt (w : World) (b o : Nat) : Int := match w.cell? ⟨b, o, none⟩ with | some (.int _ n) => n | _ => 0
def boolAt (w : World) (b o : Nat) : Bool := match w.cell? ⟨b, o, none⟩ with | some (.bool x) => x | _ => false
def dgAt (w : World) (b o : Nat) : Dg := ⟨intAt w b o, intAt w b (o + 1), intAt w b (o + 2), intAt w b (o + 3), intAt w b (o + 4), intAt w b (o + 5), intAt w b (o + 6), intAt w b (o + 7)⟩
theorem intAt_of {w : World} {b o : Nat} {k : IntKind} {n : Int} (h : w.cell? ⟨b, o, none⟩ = some (.int k n)) : intAt w b o = n := by simp [intAt, h]
theorem boolAt_of {w : World} {b o : Nat} {x : Bool} (h : w.cell? ⟨b, o, none⟩ = some (.bool x)) : boolAt w b o = x := by simp [boolAt, h]
/-- cells known one by one: the row of them -/
theorem gets_of_cells {w : World} {b o : Nat} (vs : List Value) (hne : 0 < vs.length) (h : ∀ j, j < vs.length → w.cell? ⟨b, o + j, none⟩ = vs[j]?) : has w b o vs.length = true ∧ gets w b o vs.length = vs.toArray := by
  have h0 := h 0 hne
  unfold has gets
  cases hq : w.heap[b]? with
  | none => simp [World.cell?, hq, List.getElem?_eq_getElem hne] at h0
  | some ob =>
    cases ob with
    | cells c t fr =>
      have hc : ∀ j, j < vs.length → c[o + j]? = vs[j]? := fun j hj => by have := h j hj; simpa [World.cell?, hq] using this
      have hlast := hc (vs.length - 1) (by omega)
      have hlt : o + (vs.length - 1) < c.size := by
        rw [List.getElem?_eq_getElem (by omega)] at hlast
        exact (Array.getElem?_eq_some_iff.1 hlast).1
      refine ⟨by simp; omega, ?_⟩
      show ((c.toList.drop o).take vs.length).toArray = vs.toArray
      congr 1
      apply List.ext_getElem?
      intro j
      rw [List.getElem?_take]
      split
      · rename_i hj
        rw [List.getElem?_drop, ← hc j hj]; simp
      · rename_i hj
        rw [List.getElem?_eq_none (by omega)]
    | _ => simp [World.cell?, hq, List.getElem?_eq_getElem hne] at h0

section
variable {H : Type} {enc : TypeId × Value → H} {w : World} {base : Nat} {spare : Nat → Bool} {held : Bool}
theorem cellsDeed : Tryz.prog.cellsOf 25 = 11 := by kernel_rfl
theorem cellsArr8 : Tryz.prog.cellsOf 23 = 8 := by kernel_rfl
theorem cellsU8 : Tryz.prog.cellsOf 5 = 1 := by kernel_rfl
theorem cellsBool : Tryz.prog.cellsOf 4 = 1 := by kernel_rfl
set_option maxRecDepth 100000 in
/-- a deed's eleven cells -/
theorem deed_cells {fuel : Nat} {cs : List Value} {x : DataW H × List MemPlace} (h : DataW.trod enc Tryz.prog w base spare held fuel 25 cs = some x) :
    ∃ (wh : Int) (d : Dg) (f : Bool) (v : Value), 0 ≤ wh ∧ wh ≤ 255 ∧ cs = [.int .u8 wh, .int .u8 d.x0, .int .u8 d.x1, .int .u8 d.x2, .int .u8 d.x3, .int .u8 d.x4, .int .u8 d.x5, .int .u8 d.x6, .int .u8 d.x7, .bool f, v] := by
  obtain ⟨xs, n, _, _, hl, hxl, hf⟩ := DataW.trod_struct Tryz.underlying25 h
  rw [cellsDeed] at hl
  have h0 : DataW.trod enc Tryz.prog w base spare held n 5 ((cs.drop 0).take (Tryz.prog.cellsOf 5)) = xs[0]? := hf 0 _ rfl
  have h1 : DataW.trod enc Tryz.prog w base spare held n 23 ((cs.drop 1).take (Tryz.prog.cellsOf 23)) = xs[1]? := hf 1 _ rfl
  have h2 : DataW.trod enc Tryz.prog w base spare held n 4 ((cs.drop 9).take (Tryz.prog.cellsOf 4)) = xs[2]? := hf 2 _ rfl
  rw [cellsU8] at h0
  rw [cellsArr8] at h1
  rw [cellsBool] at h2
  obtain ⟨y0, hy0⟩ : ∃ y, xs[0]? = some y := ⟨xs[0]'(by rw [hxl]; decide), List.getElem?_eq_getElem _⟩
  obtain ⟨y1, hy1⟩ : ∃ y, xs[1]? = some y := ⟨xs[1]'(by rw [hxl]; decide), List.getElem?_eq_getElem _⟩
  obtain ⟨y2, hy2⟩ : ∃ y, xs[2]? = some y := ⟨xs[2]'(by rw [hxl]; decide), List.getElem?_eq_getElem _⟩
  rw [hy0] at h0
  rw [hy1] at h1
  rw [hy2] at h2
  match cs, hl with
  | [c0, c1, c2, c3, c4, c5, c6, c7, c8, c9, c10], _ =>
    obtain ⟨wh, e0, _, wf0⟩ := DataW.trod_int Tryz.underlying5 h0
    obtain ⟨f, e2, _⟩ := DataW.trod_bool Tryz.underlying4 h2
    obtain ⟨zs, m, _, _, _, hzl, hz⟩ := DataW.trod_array Tryz.underlying23 h1
    rw [cellsU8] at hz
    have g : ∀ i (hi : i < 8), ∃ n, (([c0, c1, c2, c3, c4, c5, c6, c7, c8, c9, c10].drop 1).take 8)[i]? = some (.int .u8 n) := fun i hi => by
      have hzi := hz i hi
      rw [List.getElem?_eq_getElem (show i < zs.length by omega)] at hzi
      obtain ⟨n, e, _, _⟩ := DataW.trod_int Tryz.underlying5 hzi
      refine ⟨n, ?_⟩
      have := congrArg (fun l => l[0]?) e
      simpa [List.getElem?_take, List.getElem?_drop, hi] using this
    obtain ⟨n0, g0⟩ := g 0 (by omega)
    obtain ⟨n1, g1⟩ := g 1 (by omega)
    obtain ⟨n2, g2⟩ := g 2 (by omega)
    obtain ⟨n3, g3⟩ := g 3 (by omega)
    obtain ⟨n4, g4⟩ := g 4 (by omega)
    obtain ⟨n5, g5⟩ := g 5 (by omega)
    obtain ⟨n6, g6⟩ := g 6 (by omega)
    obtain ⟨n7, g7⟩ := g 7 (by omega)
    simp at e0 e2 g0 g1 g2 g3 g4 g5 g6 g7
    subst e0 e2 g0 g1 g2 g3 g4 g5 g6 g7
    have hr : 0 ≤ wh ∧ wh ≤ 255 := by simpa [Lit.wf, IntKind.min, IntKind.max, IntKind.signed, IntKind.bits] using wf0
    exact ⟨wh, ⟨n0, n1, n2, n3, n4, n5, n6, n7⟩, f, c10, hr.1, hr.2, rfl⟩
set_option maxRecDepth 100000 in
theorem deeds_of {fuel : Nat} {v : Value} {x : DataW H × List MemPlace} (h : DataW.trod enc Tryz.prog w base spare held fuel 22 [v] = some x) :
    ∃ (A : Option Addr) (b off len cap : Nat) (what : Nat → Int) (dg : Nat → Dg) (first : Nat → Bool), v = .slice A len cap ∧ (0 < len → A = some ⟨b, off, none⟩) ∧ Deeds w b off len what dg first ∧ len ≤ maxLen := by
  rcases open_slice Tryz.underlying22 h with ⟨hcs, _⟩ | ⟨a, len, cap, m, n, D', Pl, hcs, _, hl, hm, hmm, _, hi⟩
  · simp at hcs
    exact ⟨none, 0, 0, 0, 0, fun _ => 0, fun _ => Dg.zero, fun _ => false, hcs, fun h => by omega, ⟨fun _ h => by omega, fun _ h => by omega, fun _ h => by omega, fun _ h => by omega, fun _ h => by omega, fun h => by omega⟩, by simp [maxLen]⟩
  · simp at hcs
    have hlm : len ≤ m := by rw [hmm]; split <;> omega
    have hsp : 0 < len → a = ⟨a.block, a.off, none⟩ ∧ a.block < w.heap.size := fun h0 => by
      obtain ⟨cs', hc, ht⟩ := hi 0 (by omega)
      obtain ⟨_, hcl, hat⟩ := World.cells?_some hc
      rw [cellsDeed] at hcl hat
      have h0' := hat 0 (by omega)
      rw [List.getElem?_eq_getElem (by omega)] at h0'
      have e : (a.add (0 * 11)).add 0 = a := by simp [Addr.add]
      rw [e] at h0'
      refine ⟨?_, block_lt_of_cell h0'⟩
      have := spot_of_cell h0'
      cases a; simp_all
    have hcell : ∀ i, i < len → ∃ (wh : Int) (d : Dg) (f : Bool) (u : Value), 0 ≤ wh ∧ wh ≤ 255 ∧ ∀ j, j < 11 → w.cell? ⟨a.block, a.off + i * 11 + j, none⟩ = [Value.int .u8 wh, .int .u8 d.x0, .int .u8 d.x1, .int .u8 d.x2, .int .u8 d.x3, .int .u8 d.x4, .int .u8 d.x5, .int .u8 d.x6, .int .u8 d.x7, .bool f, u][j]? := fun i hil => by
      obtain ⟨cs', hc, ht⟩ := hi i (by omega)
      obtain ⟨wh, d, f, u, h0, h1, rfl⟩ := deed_cells ht
      obtain ⟨_, _, hat⟩ := World.cells?_some hc
      refine ⟨wh, d, f, u, h0, h1, fun j hj => ?_⟩
      rw [cellsDeed] at hat
      have := hat j hj
      rw [(hsp (by omega)).1, addr_add, addr_add] at this
      exact this
    refine ⟨some a, a.block, a.off, len, cap, fun i => intAt w a.block (a.off + i * 11), fun i => dgAt w a.block (a.off + i * 11 + 1), fun i => boolAt w a.block (a.off + i * 11 + 9), hcs, fun h => by rw [← (hsp h).1], ?_, by omega⟩
    refine ⟨fun i hil => ?_, fun i hil => ?_, fun i hil => ?_, fun i hil => ?_, fun i hil => ?_, fun h => (hsp h).2⟩
    all_goals
      obtain ⟨wh, d, f, u, h0, h1, hj⟩ := hcell i hil
      have j0 := hj 0 (by omega)
      have j9 := hj 9 (by omega)
      have hg := gets_of_cells (w := w) (b := a.block) (o := a.off + i * 11 + 1) [.int .u8 d.x0, .int .u8 d.x1, .int .u8 d.x2, .int .u8 d.x3, .int .u8 d.x4, .int .u8 d.x5, .int .u8 d.x6, .int .u8 d.x7] (by simp) (fun j hj8 => by
        have := hj (1 + j) (by simp at hj8; omega)
        rw [← Nat.add_assoc] at this
        rw [this]
        rw [show 1 + j = j + 1 from by omega]
        match j, hj8 with
        | 0, _ => rfl
        | 1, _ => rfl
        | 2, _ => rfl
        | 3, _ => rfl
        | 4, _ => rfl
        | 5, _ => rfl
        | 6, _ => rfl
        | 7, _ => rfl)
      simp only [Nat.add_zero] at j0
    · rw [j0, intAt_of j0]; rfl
    · rw [intAt_of j0]; exact ⟨h0, h1⟩
    · exact hg.1
    · rw [show dgAt w a.block (a.off + i * 11 + 1) = d from ?_]
      · exact hg.2
      · have k1 := hj 1 (by omega)
        have k2 := hj 2 (by omega)
        have k3 := hj 3 (by omega)
        have k4 := hj 4 (by omega)
        have k5 := hj 5 (by omega)
        have k6 := hj 6 (by omega)
        have k7 := hj 7 (by omega)
        have k8 := hj 8 (by omega)
        simp only [dgAt, Nat.add_assoc, Nat.reduceAdd] at *
        rw [intAt_of k1, intAt_of k2, intAt_of k3, intAt_of k4, intAt_of k5, intAt_of k6, intAt_of k7, intAt_of k8]
    · rw [j9, boolAt_of j9]; rfl
end
end Go.Proofs.YtahljceanodhkaaGreatDoor

/- The walk of (*halve.Trial).Same. -/
namespace Go.Proofs.YtahljceanodhkaaGreatDoor
open Go.RowKit
attribute [go_sem] eqDig
theorem guardSpan : Tryz.prog.eqGuardType Tryz.prog.depth 114 = false := by kernel_rfl
theorem stoodSpan : Tryz.prog.stoodInHeld 114 = false := by kernel_rfl
attribute [go_sem] guardSpan stoodSpan
set_option maxRecDepth 100000 in
set_option maxHeartbeats 1000000 in
theorem same_yes (b b' : Nat) (t : Tr) (w : World) (ht : At w b t) (ht' : At w b' t) :
    Calls Tryz.prog 22 #[.pointer (some ⟨b, 0, none⟩), .pointer (some ⟨b', 0, none⟩)] w fun e w' => e = .returned (.bool true) ∧ Ext w w' := by
  have hc := Blk.cell ht
  have hh := Blk.has ht
  have hg := Blk.gets ht
  have hc' := Blk.cell ht'
  have hh' := Blk.has ht'
  have hg' := Blk.gets ht'
  go_enter Tryz.func22, Tryz.ntmps22
  go_wp2
  refine wp_region_eq [true, true, true, true, true, true, true, true, true, true, true, true, true, true, true, true, true, true, true, true, true, true, true, true, true, true, true, true, true, true, true, true, true, true, true, true, true, true, true, true, true, true, true, true, true, true, true, true, true, true, true, true, true, true, true, true, true, true, true, true, true, true, true, true, true] (by kernel_rfl) (by kernel_rfl) (by kernel_rfl) ?_
  (repeat (first | ((apply wpTx_take); (· exact rfl); (· go_simp); (· (intro w1 hS; subst hS;  go_simp; try with_reducible rfl)); (intro K hK; go_simp; refine hK _ _ ?_; clear hK K)) | ((apply wpTx_pass); (· exact rfl); (· go_simp); (intro K hK; go_simp; refine hK _ _ ?_; clear hK K))))
  refine wpTx_nil ?_
  go_wp2
  go_ret
  refine ⟨rfl, ?_⟩
  ((repeat' (with_reducible (first | apply Kept.drew | apply Kept.drewN | apply Kept.alloc | apply Kept.setCell | apply Kept.putAt | exact Kept.refl _ _))) <;> (intro hlt; first | rfl | (simp at hlt; done) | (exfalso; simp at hlt; omega) | omega))
set_option maxRecDepth 100000 in
set_option maxHeartbeats 1000000 in
theorem same_turn (b b' : Nat) (t : Tr) (u v : Int) (m : Dg) (w : World) (ht : At w b t) (ht' : At w b' { t with mid := m, turn := u, winner := v }) (h : (t.turn == u) = false) :
    Calls Tryz.prog 22 #[.pointer (some ⟨b, 0, none⟩), .pointer (some ⟨b', 0, none⟩)] w fun e w' => e = .returned (.bool false) ∧ Ext w w' := by
  have hc := Blk.cell ht
  have hh := Blk.has ht
  have hg := Blk.gets ht
  have hc' := Blk.cell ht'
  have hh' := Blk.has ht'
  have hg' := Blk.gets ht'
  go_enter Tryz.func22, Tryz.ntmps22
  go_wp2
  refine wp_region_eq [true, true, true, true, true, true, true, true, true, true, true, true, true, true, true, true, true, true, true, true, true, true, true, true, true, true, true, true, true, true, true, true, true, true, true, true, true, true, true, true, true, true, true, true, true, true, true, true, true, true, true, true, true, true, true, true, true, true, true, true, true, true, true, true, true] (by kernel_rfl) (by kernel_rfl) (by kernel_rfl) ?_
  (repeat (first | ((apply wpTx_take); (· exact rfl); (· go_simp); (· (intro w1 hS; subst hS;  go_simp; try with_reducible rfl)); (intro K hK; go_simp; refine hK _ _ ?_; clear hK K)) | ((apply wpTx_pass); (· exact rfl); (· go_simp); (intro K hK; go_simp; refine hK _ _ ?_; clear hK K))))
  refine wpTx_nil ?_
  go_wp2
  go_ret
  refine ⟨rfl, ?_⟩
  ((repeat' (with_reducible (first | apply Kept.drew | apply Kept.drewN | apply Kept.alloc | apply Kept.setCell | apply Kept.putAt | exact Kept.refl _ _))) <;> (intro hlt; first | rfl | (simp at hlt; done) | (exfalso; simp at hlt; omega) | omega))
set_option maxRecDepth 100000 in
set_option maxHeartbeats 1000000 in
theorem same_steps (b b' : Nat) (t o : Tr) (w : World) (ht : At w b t) (ht' : At w b' o) (h : t.from_ = o.from_) (h1 : ¬ t.steps = o.steps) :
    Calls Tryz.prog 22 #[.pointer (some ⟨b, 0, none⟩), .pointer (some ⟨b', 0, none⟩)] w fun e w' => e = .returned (.bool false) ∧ Ext w w' := by
  have hc := Blk.cell ht
  have hh := Blk.has ht
  have hg := Blk.gets ht
  have hc' := Blk.cell ht'
  have hh' := Blk.has ht'
  have hg' := Blk.gets ht'
  go_enter Tryz.func22, Tryz.ntmps22
  go_wp2
  refine wp_region_eq [true, true, true, true, true, true, true, true, true, true, true, true, true, true, true, true, true, true, true, true, true, true, true, true, true, true, true, true, true, true, true, true, true, true, true, true, true, true, true, true, true, true, true, true, true, true, true, true, true, true, true, true, true, true, true, true, true, true, true, true, true, true, true, true, true] (by kernel_rfl) (by kernel_rfl) (by kernel_rfl) ?_
  (repeat (first | ((apply wpTx_take); (· exact rfl); (· go_simp); (· (intro w1 hS; subst hS;  go_simp; try with_reducible rfl)); (intro K hK; go_simp; refine hK _ _ ?_; clear hK K)) | ((apply wpTx_pass); (· exact rfl); (· go_simp); (intro K hK; go_simp; refine hK _ _ ?_; clear hK K))))
  refine wpTx_nil ?_
  go_wp2
  go_ret
  refine ⟨rfl, ?_⟩
  ((repeat' (with_reducible (first | apply Kept.drew | apply Kept.drewN | apply Kept.alloc | apply Kept.setCell | apply Kept.putAt | exact Kept.refl _ _))) <;> (intro hlt; first | rfl | (simp at hlt; done) | (exfalso; simp at hlt; omega) | omega))
set_option maxRecDepth 100000 in
set_option maxHeartbeats 1000000 in
theorem same_from (b b' : Nat) (t o : Tr) (w : World) (ht : At w b t) (ht' : At w b' o) (h : ¬ t.from_ = o.from_) :
    Calls Tryz.prog 22 #[.pointer (some ⟨b, 0, none⟩), .pointer (some ⟨b', 0, none⟩)] w fun e w' => e = .returned (.bool false) ∧ Ext w w' := by
  have hc := Blk.cell ht
  have hh := Blk.has ht
  have hg := Blk.gets ht
  have hc' := Blk.cell ht'
  have hh' := Blk.has ht'
  have hg' := Blk.gets ht'
  go_enter Tryz.func22, Tryz.ntmps22
  go_wp2
  refine wp_region_eq [true, true, true, true, true, true, true, true, true, true, true, true, true, true, true, true, true, true, true, true, true, true, true, true, true, true, true, true, true, true, true, true, true, true, true, true, true, true, true, true, true, true, true, true, true, true, true, true, true, true, true, true, true, true, true, true, true, true, true, true, true, true, true, true, true] (by kernel_rfl) (by kernel_rfl) (by kernel_rfl) ?_
  (repeat (first | ((apply wpTx_take); (· exact rfl); (· go_simp); (· (intro w1 hS; subst hS;  go_simp; try with_reducible rfl)); (intro K hK; go_simp; refine hK _ _ ?_; clear hK K)) | ((apply wpTx_pass); (· exact rfl); (· go_simp); (intro K hK; go_simp; refine hK _ _ ?_; clear hK K))))
  refine wpTx_nil ?_
  go_wp2
  go_ret
  refine ⟨rfl, ?_⟩
  ((repeat' (with_reducible (first | apply Kept.drew | apply Kept.drewN | apply Kept.alloc | apply Kept.setCell | apply Kept.putAt | exact Kept.refl _ _))) <;> (intro hlt; first | rfl | (simp at hlt; done) | (exfalso; simp at hlt; omega) | omega))
end Go.Proofs.YtahljceanodhkaaGreatDoor

/- The law HalveSilence of layer 23: its walk. -/
namespace Go.Proofs.YtahljceanodhkaaGreatDoor
open Go.RowKit
theorem askedE_over {t : Tr} (h : t.turn = -1) (who : Int) (one : Bool) : askedE t who one = 15 := by simp [askedE, h]
theorem tell_over (b : Nat) (t : Tr) (d : Dg) (w : World) (ht : At w b t) (h : t.turn = -1) :
    Calls Tryz.prog 15 #[.pointer (some ⟨b, 0, none⟩), .agg #[.int .u8 d.x0, .int .u8 d.x1, .int .u8 d.x2, .int .u8 d.x3, .int .u8 d.x4, .int .u8 d.x5, .int .u8 d.x6, .int .u8 d.x7]] w fun e w' => e = .returned (.int .i64 15) ∧ At w' b t ∧ Kept (· = b) w w' := by
  have := tell_no b t d w ht (by rw [askedE_over h]; rfl)
  rwa [askedE_over h] at this
theorem choose_over (b : Nat) (t : Tr) (f : Bool) (w : World) (ht : At w b t) (h : t.turn = -1) :
    Calls Tryz.prog 16 #[.pointer (some ⟨b, 0, none⟩), .bool f] w fun e w' => e = .returned (.int .i64 15) ∧ At w' b t ∧ Kept (· = b) w w' := by
  have := choose_no b t f w ht (by rw [askedE_over h]; rfl)
  rwa [askedE_over h] at this
theorem prove_over (b : Nat) (t : Tr) (cs : Array Value) (w : World) (ht : At w b t) (h : t.turn = -1) :
    Calls Tryz.prog 21 #[.pointer (some ⟨b, 0, none⟩), .agg cs] w fun e w' => e = .returned (.int .i64 15) ∧ Ext w w' := by
  have := prove_no b t cs w ht (by rw [askedE_over h]; rfl)
  rwa [askedE_over h] at this
theorem silence_over' (b : Nat) (t : Tr) (w : World) (ht : At w b t) (h : t.turn = -1) :
    Calls Tryz.prog 18 #[.pointer (some ⟨b, 0, none⟩)] w fun e w' => e = .returned (.int .i64 15) ∧ At w' b t ∧ Kept (· = b) w w' :=
  silence_over b t w ht (by rw [h]; rfl) (by rw [h]; rfl)
theorem tellT_turn {t : Tr} {d : Dg} (h : t.turn ≠ -1) : (tellT t d).turn ≠ -1 := by
  unfold tellT; split <;> simp [h]
theorem chooseT_turn {t : Tr} {f : Bool} (h : t.turn ≠ -1) : (chooseT t f).turn ≠ -1 := by
  unfold chooseT; split
  · cases f <;> simp
  · exact h
theorem EInv.turns {K : Nat} {t : Tr} {n : Int} (h : EInv K t n) (hn : t.turn ≠ -1) : t.turn = 0 ∨ t.turn = 1 := by
  obtain ⟨_, _, j, _, _, hc⟩ := h
  rcases hc with ⟨h, _⟩ | ⟨h, _⟩ | ⟨h, _⟩
  · exact .inl h
  · exact .inr h
  · exact absurd h hn
/-- behind the last deed: who is asked says nothing -/
theorem sil_end_lemma (t : Tr) (h : t.turn = 0 ∨ t.turn = 1) : ∃ v : Int, (t.turn = 0 ∧ v = 1) ∨ (t.turn = 1 ∧ v = 0) := by
  rcases h with h | h
  · exact ⟨1, .inl ⟨h, rfl⟩⟩
  · exact ⟨0, .inr ⟨h, rfl⟩⟩
set_option maxRecDepth 100000 in
set_option maxHeartbeats 4000000 in
theorem sil_walk (d : Int) (hd0 : 0 ≤ d) (hd1 : d ≤ 255) (A : Option Addr) (b off len cap : Nat) (what : Nat → Int) (dg : Nat → Dg) (first : Nat → Bool) (wh : Int) (x : Dg) (f : Bool) (v : Value) (w : World) (hA : 0 < len → A = some ⟨b, off, none⟩) (hD : Deeds w b off len what dg first) (hl : len ≤ 60) :
    Calls Tryz.prog 3 #[.int .u8 d, .slice A len cap, .agg #[.int .u8 wh, .int .u8 x.x0, .int .u8 x.x1, .int .u8 x.x2, .int .u8 x.x3, .int .u8 x.x4, .int .u8 x.x5, .int .u8 x.x6, .int .u8 x.x7, .bool f, v]] w fun e w' => e = .returned (.bool true) ∧ Ext w w' := by
  have HD := Lib.hid hD
  clear hD
  have HA := Lib.hid hA
  clear hA
  go_enter Tryz.func3, Tryz.ntmps3
  go_wp2_with fail
  have b0 := Blk.new w 25 #[.int .u8 wh, .int .u8 x.x0, .int .u8 x.x1, .int .u8 x.x2, .int .u8 x.x3, .int .u8 x.x4, .int .u8 x.x5, .int .u8 x.x6, .int .u8 x.x7, .bool f, v]
  have hx0 : Ext w _ := (Kept.refl _ w).alloc (.cells #[.int .u8 wh, .int .u8 x.x0, .int .u8 x.x1, .int .u8 x.x2, .int .u8 x.x3, .int .u8 x.x4, .int .u8 x.x5, .int .u8 x.x6, .int .u8 x.x7, .bool f, v] 25)
  refine (new_ok (dg1 1) (dg1 2) (dg1 3) 7 _ ?_ ?_ (by decide) (by decide) _).mono ?_
  · omega
  · omega
  rintro e w1 ⟨g, hg, rfl, hA1, hx1⟩
  go_wp2_with fail
  have HB := Lib.hid b0
  clear b0
  go_loopw [9] (fun i wr => ∃ (k : Nat) (t : Tr) (m : Int), k ≤ len ∧ i = .int .i64 k ∧ EInv (d % 21).toNat t m ∧ t.turn ≠ -1 ∧ At wr g t ∧ Ext (w.alloc (.cells #[.int .u8 wh, .int .u8 x.x0, .int .u8 x.x1, .int .u8 x.x2, .int .u8 x.x3, .int .u8 x.x4, .int .u8 x.x5, .int .u8 x.x6, .int .u8 x.x7, .bool f, v] 25)) wr) (fun i _ => len - (intOf i).toNat)
  case atStart => exact ⟨0, _, 0, Nat.zero_le _, rfl, EInv.start _ _ _ _ _ _, by simp, hA1, hx1⟩
  case round =>
    obtain ⟨k, t, m, hk, rfl, hE, htn, hAt, hx⟩ := hrel
    have hb := hE.bounds
    have hp := pow2_le (n := (d % 21).toNat) (by omega)
    have HE := Lib.hid hE
    have HT := Lib.hid htn
    clear hE hA1 hx1 htn
    have hsb : 1 ≤ t.steps ∧ t.steps ≤ 1048576 := by omega
    have hfb : 0 ≤ t.from_ ∧ t.from_ ≤ 1048576 := by omega
    clear hb hp
    have hno : ∀ i, i < (w.alloc (.cells #[.int .u8 wh, .int .u8 x.x0, .int .u8 x.x1, .int .u8 x.x2, .int .u8 x.x3, .int .u8 x.x4, .int .u8 x.x5, .int .u8 x.x6, .int .u8 x.x7, .bool f, v] 25)).heap.size → i = g → False := fun i hi he => by simp at hi hg; omega
    have HN := Lib.hid hno
    clear hno
    by_cases hlt : k < len
    · have hwr := HD.out.whatR k hlt
      obtain rfl := HA.out (by omega)
      have hD2 := HD.out.keep (hx0.trans hx)
      have hwh := hD2.what_ k hlt
      have hhas := hD2.has_ k hlt
      have hdg := hD2.dg_ k hlt
      have hfi := hD2.first_ k hlt
      have hbl := hD2.lt (by omega)
      have hbl1 := Nat.lt_succ_of_lt hbl
      clear hD2
      by_cases h0 : what k % 4 = 0
      · have q0 : (what k % 4 == 0) = true := by simpa using h0
        have q1 : (what k % 4 == 1) = false := by simp; omega
        clear h0
        go_wp2_with fail
        refine (tell_any g t (dg k) _ hAt).mono ?_
        rintro e w3 ⟨rfl, hA3, hx3⟩
        go_wp2_with fail
        go_roundw
        case rel => exact ⟨k + 1, _, _, by omega, by go_num, (HE.out.tell (dg k)).1, tellT_turn HT.out, hA3, hx.trans' hx3 HN.out⟩
        case measure => (simp only [intOf]; omega)
      · by_cases h1 : what k % 4 = 1
        · have q0 : (what k % 4 == 0) = false := by simp; omega
          have q1 : (what k % 4 == 1) = true := by simpa using h1
          clear h0 h1
          go_wp2_with fail
          refine (choose_any g t (first k) _ hAt (by omega) (by omega) (by omega) (by omega)).mono ?_
          rintro e w3 ⟨rfl, hA3, hx3⟩
          go_wp2_with fail
          go_roundw
          case rel => exact ⟨k + 1, _, _, by omega, by go_num, (HE.out.choose (first k)).1, chooseT_turn HT.out, hA3, hx.trans' hx3 HN.out⟩
          case measure => (simp only [intOf]; omega)
        · have q0 : (what k % 4 == 0) = false := by simp; omega
          have q1 : (what k % 4 == 1) = false := by simp; omega
          clear h0 h1
          go_wp2_with fail
          go_roundw
          case rel => exact ⟨k + 1, _, _, by omega, by go_num, HE.out, HT.out, hAt, hx⟩
          case measure => (simp only [intOf]; omega)
    · rcases HE.out.turns HT.out with ht0 | ht0
      all_goals
        go_wp2_with fail
        refine (turn_any g t _ hAt).mono ?_
        rintro e w2 ⟨rfl, rfl⟩
        go_wp2_with fail
        first
          | (refine (silence_teller g t _ hAt (by rw [ht0]; rfl)).mono ?_)
          | (refine (silence_doubter g t _ hAt (by rw [ht0]; rfl) (by rw [ht0]; rfl)).mono ?_)
        rintro e w3 ⟨rfl, hA3, hx3⟩
        have hx30 := hx.trans' hx3 HN.out
        go_wp2_with fail
        refine (winner_any g _ _ hA3).mono ?_
        rintro e w4 ⟨rfl, hx4⟩
        have hA4 := Blk.ext hA3 hx4
        go_wp2_with fail
        refine (clone_any g _ _ hA4).mono ?_
        rintro e w5 ⟨o, ho, rfl, hO5, hx5⟩
        have hA5 := Blk.ext hA4 hx5
        have hgo : ¬ o = g := fun e => by have := Blk.lt hA4; omega
        have hx50 := (hx30.trans hx4).trans hx5
        have b5 := Blk.ext HB.out hx50
        have hh5 := Blk.has b5
        have hg5 := Blk.gets b5
        go_wp2_with fail
        refine (tell_over g _ x _ hA5 rfl).mono ?_
        rintro e w6 ⟨rfl, hA6, hx6⟩
        have hx60 := hx50.trans' hx6 HN.out
        have hO6 := Blk.kept hO5 hx6 hgo
        have b6 := Blk.ext HB.out hx60
        have hc6 := Blk.cell b6
        go_wp2_with fail
        refine (choose_over g _ f _ hA6 rfl).mono ?_
        rintro e w7 ⟨rfl, hA7, hx7⟩
        have hx70 := hx60.trans' hx7 HN.out
        have hO7 := Blk.kept hO6 hx7 hgo
        go_wp2_with fail
        refine (prove_over g _ _ _ hA7 rfl).mono ?_
        rintro e w8 ⟨rfl, hx8⟩
        have hx80 := hx70.trans hx8
        have hO8 := Blk.ext hO7 hx8
        have hA8 := Blk.ext hA7 hx8
        go_wp2_with fail
        refine (silence_over' g _ _ hA8 rfl).mono ?_
        rintro e w9 ⟨rfl, hA9, hx9⟩
        have hx90 := hx80.trans' hx9 HN.out
        have hO9 := Blk.kept hO8 hx9 hgo
        go_wp2_with fail
        refine (same_yes g o _ _ hA9 hO9).mono ?_
        rintro e w10 ⟨rfl, hx10⟩
        go_wp2_with fail
        refine (told_any _).mono ?_
        rintro e w11 ⟨rfl, hx11⟩
        go_wp2_with fail
        go_ret
        exact ⟨rfl, ((hx0.trans hx90).trans hx10).trans hx11⟩
end Go.Proofs.YtahljceanodhkaaGreatDoor

/- HalveSilence: the walk for whatever came in. -/
namespace Go.Proofs.YtahljceanodhkaaGreatDoor
open Go.ChangeShapes Go.WideShapes Go.RowKit
theorem okWide_agg {P : Program} {w : World} {r : Reach} {base : Nat} {t : TypeId} {fs : Array Field} {v : Value} (ht : P.underlying t = some (.struct fs)) (h : Value.okWide P w r base t v) : ∃ cs, v = .agg cs ∧ cs.size = P.cellsOf t := by
  simp only [Value.okWide, ht] at h
  obtain ⟨cs, h1, h2, _⟩ := h
  exact ⟨cs, h1, h2⟩
set_option maxRecDepth 100000 in
/-- a deed by value -/
theorem deed_of {H : Type} {enc : TypeId × Value → H} {W : World} {base : Nat} {v : Value} {d : DataW H} {p : List MemPlace} (o : Value.okWide Tryz.prog W .any base 25 v)
    (h : DataW.Trod enc Tryz.prog W 0 (fun _ => true) true 25 v d p) : ∃ (wh : Int) (x : Dg) (f : Bool) (u : Value), v = .agg #[.int .u8 wh, .int .u8 x.x0, .int .u8 x.x1, .int .u8 x.x2, .int .u8 x.x3, .int .u8 x.x4, .int .u8 x.x5, .int .u8 x.x6, .int .u8 x.x7, .bool f, u] ∧ 0 ≤ wh ∧ wh ≤ 255 := by
  obtain ⟨cs, rfl, hsz⟩ := okWide_agg Tryz.underlying25 o
  obtain ⟨fuel, hf⟩ := h
  obtain ⟨wh, x, f, u, h0, h1, e⟩ := deed_cells hf
  refine ⟨wh, x, f, u, ?_, h0, h1⟩
  cases cs
  simpa [Value.cells] using e
namespace halveSilence
set_option maxRecDepth 100000 in
set_option maxHeartbeats 1000000 in
theorem long (d : Int) (hd0 : 0 ≤ d) (hd1 : d ≤ 255) (A : Option Addr) (len cap : Nat) (cs : Array Value) (w : World) (hl : 60 < len) (hm : len ≤ maxLen) :
    Calls Tryz.prog 3 #[.int .u8 d, .slice A len cap, .agg cs] w fun e w' => e = .returned (.bool true) ∧ Ext w w' := by
  unfold maxLen at hm
  go_enter Tryz.func3, Tryz.ntmps3
  go_wp2_with fail
  refine (new_ok (dg1 1) (dg1 2) (dg1 3) 7 _ ?_ ?_ (by decide) (by decide) _).mono ?_
  · omega
  · omega
  rintro e w1 ⟨g, hg, rfl, hA1, hx1⟩
  go_wp2_with fail
  refine (told_any _).mono ?_
  rintro e w2 ⟨rfl, hx2⟩
  go_wp2_with fail
  go_ret
  exact ⟨rfl, (((Kept.refl _ w).alloc _).trans hx1).trans hx2⟩
set_option maxRecDepth 100000 in
theorem walk {H : Type} {enc : TypeId × Value → H} (W : World) (base : Nat) (v0 v1 v2 : Value) (d0 d1 d2 : DataW H) (p0 p1 p2 : List MemPlace)
    (o0 : Value.okWide Tryz.prog W .any base 5 v0) (o1 : Value.okWide Tryz.prog W .any base 22 v1) (o2 : Value.okWide Tryz.prog W .any base 25 v2)
    (h0 : DataW.Trod enc Tryz.prog W 0 (fun _ => true) true 5 v0 d0 p0) (h1 : DataW.Trod enc Tryz.prog W 0 (fun _ => true) true 22 v1 d1 p1) (h2 : DataW.Trod enc Tryz.prog W 0 (fun _ => true) true 25 v2 d2 p2) :
    Calls Tryz.prog 3 #[v0, v1, v2] W fun e w' => e = .returned (.bool true) ∧ Ext W w' := by
  obtain ⟨a0, rfl, rfl, rfl, w0⟩ := open_int Tryz.underlying5 o0 h0
  have hx : 0 ≤ a0 ∧ a0 ≤ 255 := by simpa [Lit.wf, IntKind.min, IntKind.max, IntKind.signed, IntKind.bits] using w0
  obtain ⟨A, len, cap, rfl⟩ := okWide_slice Tryz.underlying22 o1
  obtain ⟨wh, x, f, u, rfl, _, _⟩ := deed_of o2 h2
  obtain ⟨fuel, hf⟩ := h1
  obtain ⟨A', b, off, len', cap', what, dg, first, e, hA', hD, hm⟩ := deeds_of hf
  simp at e
  obtain ⟨rfl, rfl, rfl⟩ := e
  by_cases hl : len ≤ 60
  · exact sil_walk a0 hx.1 hx.2 A b off len cap what dg first wh x f u W hA' hD hl
  · exact long a0 hx.1 hx.2 A len cap _ W (by omega) hm
end halveSilence
end Go.Proofs.YtahljceanodhkaaGreatDoor
