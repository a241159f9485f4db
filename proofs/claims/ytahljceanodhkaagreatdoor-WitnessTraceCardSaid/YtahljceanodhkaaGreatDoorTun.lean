/- Several texts joined: Zb. -/
import Derived.Test.YtahljceanodhkaaGreatDoorTtf
import Derived.Test.YtahljceanodhkaaGreatDoorTug
/- Package witness: Trace. -/
namespace Go.Proofs.YtahljceanodhkaaGreatDoor
open Go.RowKit
/-- a step writes one word at most, the one that is told -/
theorem step_upd (l : List Ins) (pc : Int) (m : List Int) : ∃ v, (stepI l pc m).2.2 = upd (mreads l pc 0 m).2 v m := by
  cases hn : nextI l pc m.length with
  | none =>
    refine ⟨0, ?_⟩
    unfold stepI
    rw [hn]
    have : mreads l pc 0 m = ([], -1) := by simp only [mreads, hn]; rfl
    rw [this]
    simp [upd]
  | some i =>
    obtain ⟨_, p, hh, v, h1, _⟩ := step_sparse (m' := m) hn rfl rfl rfl (fun _ _ => rfl)
    exact ⟨v, by rw [h1]⟩
/-- the digest of the state behind so many steps -/
def trD (l : List Ins) (r : Cfg) (j : Nat) : Dg := stateR (trajI l r j).1 (trajI l r j).2.1 (trajI l r j).2.2
def IsTrace (w w' : World) (e : Ending) (n : Nat) (f : Nat → Dg) : Prop := ∃ v, e = .returned (.tuple #[v, .int .i64 0]) ∧ w'.ownsRow w.heap.size 30 8 v n (digs ((List.range n).map f)) ∧ Ext w w'
/-- words of a state, and where -/
structure MemW (w0 w : World) (top g off : Nat) (m : List Int) : Prop where
  row : Row w g off (mems m)
  at_ : g < w0.heap.size ∨ (top ≤ g ∧ ∃ cur fr, w.heap[g]? = some (.cells cur 21 fr))
theorem MemW.ext {w0 w w' : World} {top g off : Nat} {m : List Int} (h : MemW w0 w top g off m) (hx : Ext w w') : MemW w0 w' top g off m :=
  ⟨h.row.ext hx, h.at_.imp id (fun ⟨a, cur, fr, e⟩ => ⟨a, cur, fr, (hx.block g h.row.lt (fun f => f)).trans e⟩)⟩
theorem MemW.kept {S : Nat → Prop} {w0 w w' : World} {top g off : Nat} {m : List Int} (h : MemW w0 w top g off m) (hx : Kept S w w') (h1 : ∀ i, S i → w0.heap.size ≤ i) (h2 : ∀ i, S i → top ≤ i → ∀ cur fr, ¬ w.heap[i]? = some (.cells cur 21 fr)) : MemW w0 w' top g off m := by
  have hg : ¬ S g := fun hS => by
    rcases h.at_ with h3 | ⟨h3, cur, fr, e⟩
    · have := h1 g hS; omega
    · exact h2 g hS h3 cur fr e
  exact ⟨h.row.kept hx hg, h.at_.imp id (fun ⟨a, cur, fr, e⟩ => ⟨a, cur, fr, (hx.block g h.row.lt hg).trans e⟩)⟩
set_option maxRecDepth 100000 in
set_option maxHeartbeats 8000000 in
theorem trace_ok (A : Option Addr) (b off n cap : Nat) (l : List Ins) (pc halt : Int) (b' off' k cap' : Nat) (m : List Int) (steps : Nat) (hs : steps ≤ 65536) (w : World) (hc : CourseAt w A b off n l pc halt b' off' k m) :
    Calls Tryz.prog 38 #[.slice A n cap, .agg (stCells pc (some ⟨b', off', none⟩) k cap' halt), .int .i64 steps] w fun e w' => IsTrace w w' e (steps + 1) (trD l (pc, halt, m)) := by
  obtain ⟨k1, k2, h3, h4, h5, h6⟩ := rightS_inv hc.right
  obtain rfl := hc.at_
  have n1 := hc.n1
  have n2 := hc.n2
  have x0 : Ext w _ := (Kept.refl _ w).alloc (.cells (stCells pc (some ⟨b', off', none⟩) k cap' halt) 70)
  have hS0 := Blk.new w 70 (stCells pc (some ⟨b', off', none⟩) k cap' halt)
  have HC := Lib.hid hc
  have HOKT := Lib.hid (traj_okay (r := (pc, halt, m)) (by rw [← hc.n_eq]; exact n2) hc.okay)
  obtain ⟨C, hCe⟩ : ∃ C, C = codeR l := ⟨_, rfl⟩
  have HCE := Lib.hid hCe
  clear hc hCe
  go_enter Tryz.func38, Tryz.ntmps38
  go_upto_region 1 with (fail)
  generalize (w.alloc (.cells (stCells pc (some ⟨b', off', none⟩) k cap' halt) 70)) = W at x0 hS0 ⊢
  obtain ⟨sb, hsb⟩ : ∃ sb, sb = w.heap.size := ⟨_, rfl⟩
  rw [← hsb] at hS0 ⊢
  have hwsb : w.heap.size ≤ sb := by omega
  clear hsb
  go_wp2_with fail
  have hwc2 := wcode_ok (some ⟨b, off, none⟩) b off cap l n HC.out.n_eq n1 n2 HC.out.iok (fun _ => rfl) W (fun _ => HC.out.row.ext x0)
  rw [← HCE.out] at hwc2
  refine hwc2.mono ?_
  rintro e w1 ⟨rfl, hx1⟩
  clear hwc2
  go_upto_region 4 with (fail)
  have x2 : Ext w (w1.alloc (.cells C.cells 30)) := (x0.trans hx1).alloc _
  have hS2 := Blk.alloc (Blk.ext hS0 hx1) (.cells C.cells 30)
  generalize (w1.alloc (.cells C.cells 30)) = W2 at x2 hS2 ⊢
  generalize (w1 : World).heap.size = cbk at ⊢
  clear hS0 hx1 x0
  have i1 := Blk.has hS2
  have i2 := Blk.gets hS2
  have i3 := hS2.lt
  go_wp2_with fail
  refine (memtree_ok pc halt (some ⟨b', off', none⟩) b' off' cap' m k HC.out.k_eq HC.out.right (fun _ => rfl) _ (fun _ => HC.out.mrow.ext x2)).mono ?_
  rintro e w3 ⟨q, rfl, hq, hx3⟩
  have hS3 := Blk.ext hS2 hx3
  have x3 := x2.trans hx3
  have hT3 := TreeIn.of (hq.low x2.size)
  have hsb3 : sb < W2.heap.size := hS2.lt
  obtain ⟨base, hbase⟩ : ∃ base, base = W2.heap.size := ⟨_, rfl⟩
  have hTI : TreeIn w3 base w3.heap.size q (m.map leafW) := by rw [hbase]; exact TreeIn.of hq
  rw [← hbase] at hsb3
  have hbw : w.heap.size ≤ base := by rw [hbase]; exact x2.size
  clear i1 i2 i3 hS2 x2 hx3 hq hT3 hbase
  obtain ⟨top, htop⟩ : ∃ top, top = w3.heap.size := ⟨_, rfl⟩
  rw [← htop] at hTI
  have htb : base ≤ top := by have := hTI.1; obtain ⟨_, cg, cc, f, G, h, _⟩ := hTI; have := h.bp; omega
  obtain ⟨w4, hr4, ho4, hx4⟩ := makeE w3 (steps + 1) (by omega)
  have hstI : (0 : Int) ≤ steps := by omega
  have hstI2 : (steps : Int) ≤ 65536 := by omega
  have hs1 : ((steps + 1 : Nat) : Int) = (steps : Int) + 1 := by omega
  rw [hs1] at hr4
  clear hs1
  go_upto_region 9 with (fail)
  go_step
  iterate 2 (refine wpList_step (fun K hK => ?_); go_simp; (try go_bits); refine hK _ _ ?_; clear hK K)
  refine wpList_make rfl _ _ 42 rfl rfl rfl hr4 ?_
  clear hr4
  have hS4 := Blk.ext hS3 hx4
  have x4 := x3.trans hx4
  have hT4 := hTI.ext hx4
  have hM4 : MemW w w4 top b' off' m := ⟨HC.out.mrow.ext x4, .inl HC.out.mrow.lt⟩
  obtain ⟨v4, hv4⟩ : ∃ v4, v4 = Value.slice (some ⟨w3.heap.size, 0, none⟩) 0 (steps + 1) := ⟨_, rfl⟩
  rw [← hv4] at ho4 ⊢
  rw [← htop] at ho4
  have hs4 : top ≤ w4.heap.size := by rw [htop]; exact hx4.size
  have HO4 := Lib.hid ho4
  have HT4 := Lib.hid hT4
  have HM4 := Lib.hid hM4
  clear hv4 ho4 hT4 hM4 hS3 x3 hTI hx4 htop
  obtain ⟨D0, hD0⟩ : ∃ D0, D0 = trD l (pc, halt, m) 0 := ⟨_, rfl⟩
  obtain ⟨M0, hM0⟩ : ∃ M0, M0 = memR m := ⟨_, rfl⟩
  have hDM : D0 = hHead pc halt k M0 := by rw [hD0, hM0, HC.out.k_eq]; rfl
  have HD0 := Lib.hid hD0
  have HM0 := Lib.hid hM0
  have HDM := Lib.hid hDM
  clear hD0 hM0 hDM
  go_upto_region 10 with (fail)
  refine wp_region_3 (fun w2 => Ext w4 w2) [(0, 2), (1, 2), (2, 1), (3, 2), (4, 1), (5, 2), (6, 1), (7, 2), (8, 2), (9, 0), (10, 0), (11, 0), (12, 0), (13, 2)] (by kernel_rfl) (by kernel_rfl) (by kernel_rfl) (by kernel_rfl) ?_; intro l' hl'; simp only [List.map_cons, List.map_nil, List.getD_cons_zero, List.getD_cons_succ] at hl'; subst hl'
  (repeat (first | ((apply w3_pure); (· go_simp); (· (intro w1; go_simp; try with_reducible rfl)); (intro K hK; go_simp; refine hK _ _ ?_; clear hK K)) | ((apply w3_skip); (· go_simp); (intro K hK; go_simp; refine hK _ _ ?_; clear hK K)) | ((apply w3_take); (· exact (Kept.drew (Kept.refl _ _))); (· go_simp); (· (intro w1 hS; have d1 := Blk.cell (Blk.ext hS4 hS); have d2 := (Blk.ext hS4 hS).lt;  go_simp; try with_reducible rfl)); (intro K hK; go_simp; refine hK _ _ ?_; clear hK K)) | ((apply w3_pass); (· exact (Kept.drew (Kept.refl _ _))); (· go_simp); (intro K hK; go_simp; refine hK _ _ ?_; clear hK K))))
  have yW : Ext w4 w4.drew := (Kept.refl _ w4).drew
  (refine w3_act (fun K hK => ?_); go_simp)
  go_wp2_with fail
  have hrt := troot_tree base q (m.map leafW) w4.drew (by rw [List.length_map, ← HC.out.k_eq]; exact k1) (by rw [List.length_map, ← HC.out.k_eq]; omega) (HT4.out.ok.ext yW)
  rw [show rootT (m.map leafW) = M0 from HM0.out.symm] at hrt
  refine hrt.mono ?_
  rintro e w5 ⟨rfl, hx5⟩
  have y5 : Ext w4 w5 := yW.trans hx5
  refine hK.out _ _ (fun _ => y5) ?_
  clear hK K hrt
  (repeat (first | ((apply w3_pure); (· go_simp); (· (intro w1; go_simp; try with_reducible rfl)); (intro K hK; go_simp; refine hK _ _ ?_; clear hK K)) | ((apply w3_skip); (· go_simp); (intro K hK; go_simp; refine hK _ _ ?_; clear hK K))))
  (refine w3_act (fun K hK => ?_); go_simp)
  go_wp2_with fail
  have hhd := head_any pc halt k M0 (by rw [HM0.out]; exact hWord_ok _ _) (by omega) (by omega) (by omega) w5
  rw [← HDM.out] at hhd
  refine hhd.mono ?_
  rintro e w6 ⟨rfl, hx6⟩
  have y6 : Ext w4 w6 := y5.trans hx6
  refine hK.out _ _ (fun _ => y6) ?_
  clear hK K hhd
  (repeat (first | ((apply w3_pure); (· go_simp); (· (intro w1; go_simp; try with_reducible rfl)); (intro K hK; go_simp; refine hK _ _ ?_; clear hK K)) | ((apply w3_skip); (· go_simp); (intro K hK; go_simp; refine hK _ _ ?_; clear hK K))))
  (refine w3_act (fun K hK => ?_); go_simp)
  have y7 : Ext w4 (w6.alloc (.cells D0.cells 30)) := y6.alloc _
  refine hK.out _ _ (fun _ => y7) ?_
  clear hK K
  have hs6 := y6.size
  obtain ⟨v8, w8, hr8, ho8, hk8⟩ := appE (w6.alloc (.cells D0.cells 30)) top v4 0 [] (own_ext HO4.out y7) w6.heap.size 0 1 1 [D0] rfl (by simpa [digs] using Row.of_blk (Blk.new w6 30 D0.cells)) (by omega) (by simp; omega)
  have hot : ∀ i, (v4 : Value).ownBlock = some i → top ≤ i := fun i e => (HO4.out.lt i e).1
  have hoi := own_other (own_ext HO4.out y7) (E' := 21) (by decide)
  have hos := own_other (own_ext HO4.out y7) (E' := 70) (by decide)
  have hS8 := Blk.kept (Blk.ext hS4 y7) hk8 (fun e => hos sb e _ _ (Blk.ext hS4 y7))
  have hT8 := (HT4.out.ext y7).kept hk8 hot
  have hM8 := (HM4.out.ext y7).kept hk8 (fun i e => by have := hot i e; omega) (fun i e _ => hoi i e)
  have x8 : Ext w w8 := (x4.trans y7).trans' hk8 (fun i hi e => by have := hot i e; omega)
  have ho8' : w8.ownsRow top 30 8 v8 (0 + 1) (digs ((List.range (0 + 1)).map (trD l (pc, halt, m)))) := by
    have e : (List.range (0 + 1)).map (trD l (pc, halt, m)) = [] ++ [D0] := by rw [HD0.out]; rfl
    rw [e]
    exact ho8
  have HO8 := Lib.hid ho8'
  have HT8 := Lib.hid hT8
  have HM8 := Lib.hid hM8
  have hs8 : top ≤ w8.heap.size := by have h7 := y7.size; have h8 := hk8.size; omega
  clear ho8 ho8' hT8 hM8 hk8 hot hoi hos
  refine w3_end (by kernel_rfl) (fun K hK => ?_)
  refine iff_want rfl ?_
  refine Lib.wp_append_run _ _ _ _ _ rfl _ _ rfl rfl _ _ hr8 ?_
  refine hK.out _ _ ?_
  clear hK K hr8
  (repeat (first | ((apply w3_pure); (· go_simp); (· (intro w1; go_simp; try with_reducible rfl)); (intro K hK; go_simp; refine hK _ _ ?_; clear hK K)) | ((apply w3_skip); (· go_simp); (intro K hK; go_simp; refine hK _ _ ?_; clear hK K)) | (refine w3_end (by kernel_rfl) (fun K hK => ?_); go_simp; refine hK.out _ _ ?_; clear hK K))); refine w3_nil ?_
  clear HO4 HT4 HM4 hS4 x4 yW y5 y6 y7 hx5 hx6 hs6
  go_wp2_with fail
  go_loopw [12] (fun t12 wr => ∃ (j : Nat) (g o c : Nat), j ≤ steps ∧ wr.ownsRow top 30 8 t12 (j + 1) (digs ((List.range (j + 1)).map (trD l (pc, halt, m)))) ∧ Blk wr sb 70 (stCells (trajI l (pc, halt, m) j).1 (some ⟨g, o, none⟩) k c (trajI l (pc, halt, m) j).2.1) ∧ MemW w wr top g o (trajI l (pc, halt, m) j).2.2 ∧ TreeIn wr base top q ((trajI l (pc, halt, m) j).2.2.map leafW) ∧ Ext w wr ∧ top ≤ wr.heap.size) (fun t12 _ => match t12 with | .slice _ n _ => steps + 1 - n | _ => 0)
  case atStart => exact ⟨0, b', off', cap', Nat.zero_le _, HO8.out, hS8, HM8.out, HT8.out, x8, hs8⟩
  case round =>
    obtain ⟨j, g, o, c, hj, ho, hS, hM, hT, hx, hts⟩ := hrel
    clear HO8 HT8 HM8 hS8 x8 hs8 HD0 HM0 HDM
    obtain ⟨hok, hokl⟩ := HOKT.out j
    obtain ⟨r, hr⟩ : ∃ r, r = trajI l (pc, halt, m) j := ⟨_, rfl⟩
    have hnx : trajI l (pc, halt, m) (j + 1) = runI l r.1 r.2.1 r.2.2 := by rw [hr]; rfl
    rw [← hr] at hS hM hT hok hokl
    obtain ⟨rpc, rha, rm⟩ := r
    simp only at hS hM hT hok hokl hnx
    rw [← HC.out.k_eq] at hokl
    obtain ⟨g12, c12, hu12, hrow, hbg, hty⟩ := own_rows ho (by omega) (by omega)
    subst hu12
    obtain ⟨_, _, r3, r4, r5, r6⟩ := rightS_inv hok.right
    have HR := Lib.hid hr
    have HO := Lib.hid ho
    have HM := Lib.hid hM
    have HT := Lib.hid hT
    have HOK := Lib.hid hok
    have HLN := Lib.hid hokl
    have HNX := Lib.hid hnx
    clear hr ho hM hT hok hokl hnx hty
    by_cases hlt : j + 1 ≤ steps
    · have hltI : (j : Int) + 1 ≤ steps := by omega
      have i1 := Blk.cell hS
      have i2 := hS.lt
      by_cases h0 : rha = 0
      · subst h0
        have i3 := Blk.has hS
        have i4 := Blk.gets hS
        have hpre : RunPre wr (some ⟨b, off, none⟩) b off n l g o k rpc 0 rm := ⟨HC.out.ops.ext hx, fun _ => rfl, fun _ => HC.out.row.ext hx, HC.out.n_eq, n2, HLN.out.symm, by rw [← HLN.out]; exact HOK.out.right, HOK.out.mok, HM.out.row⟩
        have HPRE := Lib.hid hpre
        obtain ⟨rs, wx, hrw⟩ : ∃ rs wx, mreads l rpc 0 rm = (rs, wx) := ⟨_, _, rfl⟩
        obtain ⟨_, hwx, _⟩ := mreads_in l rpc 0 rm
        have hmr := mreads_any (some ⟨b, off, none⟩) b off n cap l rpc 0 g o k c rm wr hpre
        obtain ⟨v, hup⟩ := step_upd l rpc rm
        rw [hrw] at hwx hmr hup
        simp only at hwx hup
        rw [HLN.out] at hwx
        have hrun : runI l rpc 0 rm = stepI l rpc rm := if_pos rfl
        have hms := fun w h => mstep_any (some ⟨b, off, none⟩) b off n cap l rpc 0 g o k c rm w h
        rw [hrun] at hms
        have hnx := HNX.out
        rw [hrun] at hnx
        obtain ⟨q', hq'⟩ : ∃ q', q' = stepI l rpc rm := ⟨_, rfl⟩
        rw [← hq'] at hms hup hnx
        obtain ⟨p', h', m'⟩ := q'
        simp only at hms hup
        have HMR := Lib.hid hmr
        have HMS := Lib.hid hms
        have HUP := Lib.hid hup
        have HNX2 := Lib.hid hnx
        clear hpre hmr hms hup hnx hrun hq' hrw HNX
        go_wp2_with fail
        refine HMR.out.mono ?_
        rintro e w2 ⟨v2, rfl, -, hx2⟩
        simp only
        have hS2 := Blk.ext hS hx2
        clear HMR i1 i2 i3 i4
        have i1 := Blk.has hS2
        have i2 := Blk.gets hS2
        have i3 := hS2.lt
        go_wp2_with fail
        refine (HMS.out w2 (HPRE.out.ext hx2)).mono ?_
        rintro e w3 ⟨v3, rfl, g3, c3, rfl, hm3, hx3⟩
        simp only [stCells]
        have hS3 := Blk.ext hS2 hx3
        have y3 : Ext wr w3 := hx2.trans hx3
        clear i1 i2 i3
        have i1 := Blk.has hS3
        have i2 := Blk.melts hS3
        have i3 := hS3.lt
        go_upto_region 16 with (fail)
        have kp : Kept (· = sb) w3 (putAt w3 sb 0 (stCells p' (some ⟨g3, 0, none⟩) k c3 h')) := Kept.putAt (Kept.refl (· = sb) w3) sb _ _ (fun _ => rfl)
        have hS4 : Blk (putAt w3 sb 0 (stCells p' (some ⟨g3, 0, none⟩) k c3 h')) sb 70 (stCells p' (some ⟨g3, 0, none⟩) k c3 h') := Blk.put_ hS3 _ _
        have hg3 : w2.heap.size ≤ g3 := by obtain ⟨_, cur, hb, _⟩ := hm3.inv; exact hb
        have hw2s : wr.heap.size ≤ w2.heap.size := hx2.size
        have hm4 : MemW w (putAt w3 sb 0 (stCells p' (some ⟨g3, 0, none⟩) k c3 h')) top g3 0 m' := by
          obtain ⟨_, cur, _, hcur, _⟩ := (hm3.kept kp (by omega)).inv
          exact ⟨(hm3.kept kp (by omega)).row, .inr ⟨by omega, cur, _, hcur⟩⟩
        have hT4 := (HT.out.ext y3).apart kp (fun i e => by omega)
        have ho4 := own_kept (own_ext HO.out y3) kp (fun i hi e => by have := (HO.out.lt i hi).1; omega)
        have x4 : Ext w (putAt w3 sb 0 (stCells p' (some ⟨g3, 0, none⟩) k c3 h')) := (hx.trans y3).trans' kp (fun i hi e => by omega)
        have hm4c := hm3.kept kp (by omega)
        have hts4 : top ≤ (putAt w3 sb 0 (stCells p' (some ⟨g3, 0, none⟩) k c3 h')).heap.size := by have h1 := y3.size; have h2 := kp.size; omega
        generalize (putAt w3 sb 0 (stCells p' (some ⟨g3, 0, none⟩) k c3 h')) = W4 at kp hS4 hm4 hT4 ho4 x4 hm4c hts4 ⊢
        have HO4 := Lib.hid ho4
        have HT4 := Lib.hid hT4
        have HM4 := Lib.hid hm4
        have HMC := Lib.hid hm4c
        clear ho4 hT4 hm4 hm4c kp i1 i2 i3 hS3 hm3 hS2 hS y3 hx3 hx2 HO HM HT HPRE HMS hrow
        by_cases hw0 : 0 ≤ wx
        · obtain ⟨a, rfl⟩ : ∃ a : Nat, wx = a := ⟨wx.toNat, by omega⟩
          have hak : a < k := by omega
          have hakI : (a : Int) < k := by omega
          have hml : m'.length = k := by rw [HUP.out]; unfold upd; rw [if_pos hw0]; rw [put_len, HLN.out]
          have hcell := HMC.out.cell a (by omega)
          have hval : m'[a] = v := by
            have := HUP.out
            subst this
            simp [upd, mput]
          rw [hval] at hcell
          have hmapEq : (rm.map leafW).set a (leafW v) = m'.map leafW := by
            rw [HUP.out]
            unfold upd
            rw [if_pos hw0]
            simp [mput, List.map_set]
          have hgl := HMC.out.lt
          have i1 := Blk.cell hS4
          have i2 := hS4.lt
          have HEQ := Lib.hid hmapEq
          have HML := Lib.hid hml
          clear hval hmapEq hml
          go_wp2_with fail
          refine (leaf_any v _).mono ?_
          rintro e w5 ⟨rfl, hx5⟩
          clear i1 hcell
          go_wp2_with fail
          have hset := tset_ok base top q (rm.map leafW) a (leafW v) (leafW_ok _) w5 (by rw [List.length_map, HLN.out]; exact k1) (by rw [List.length_map, HLN.out]; omega) (by rw [List.length_map, HLN.out]; exact hak) (HT4.out.ext hx5)
          rw [HEQ.out] at hset
          refine hset.mono ?_
          rintro e w6 ⟨rfl, hT6, hk6⟩
          have hS6 := Blk.kept (Blk.ext hS4 hx5) hk6 (fun e => by omega)
          have hM6 := (HM4.out.ext hx5).kept hk6 (fun i e => by omega) (fun i e h => by omega)
          have ho6 := own_kept (own_ext HO4.out hx5) hk6 (fun i hi e => by have := (HO4.out.lt i hi).1; omega)
          have x6 : Ext w w6 := (x4.trans hx5).trans' hk6 (fun i hi e => by omega)
          have hts6 : top ≤ w6.heap.size := by have h1 := hx5.size; have h2 := hk6.size; omega
          have HO6 := Lib.hid ho6
          have HT6 := Lib.hid hT6
          have HM6 := Lib.hid hM6
          clear ho6 hT6 hM6 hset hk6 hx5 HO4 HT4 HM4 HMC x4 hS4 HEQ i2 hgl
          obtain ⟨D, hD⟩ : ∃ D, D = trD l (pc, halt, m) (j + 1) := ⟨_, rfl⟩
          obtain ⟨M, hMe⟩ : ∃ M, M = memR m' := ⟨_, rfl⟩
          have hDM : D = hHead p' h' k M := by rw [hD, hMe]; unfold trD; rw [HNX2.out, ← HML.out]; rfl
          have hokn := (HOKT.out (j + 1)).1
          rw [HNX2.out] at hokn
          obtain ⟨_, _, s3, s4, s5, s6⟩ := rightS_inv hokn.right
          simp only at s3 s4 s5 s6
          have HD := Lib.hid hD
          have HMe := Lib.hid hMe
          have HDM := Lib.hid hDM
          clear hD hMe hDM hokn
          go_upto_region 18 with (fail)
          refine wp_region_3 (fun w2 => Ext w6 w2) [(0, 2), (1, 2), (2, 1), (3, 2), (4, 1), (5, 2), (6, 1), (7, 2), (8, 2), (9, 0), (10, 0), (11, 0), (12, 0), (13, 2)] (by kernel_rfl) (by kernel_rfl) (by kernel_rfl) (by kernel_rfl) ?_; intro l' hl'; simp only [List.map_cons, List.map_nil, List.getD_cons_zero, List.getD_cons_succ] at hl'; subst hl'
          (repeat (first | ((apply w3_pure); (· go_simp); (· (intro w1; go_simp; try with_reducible rfl)); (intro K hK; go_simp; refine hK _ _ ?_; clear hK K)) | ((apply w3_skip); (· go_simp); (intro K hK; go_simp; refine hK _ _ ?_; clear hK K)) | ((apply w3_take); (· exact (Kept.drew (Kept.refl _ _))); (· go_simp); (· (intro w1 hS; have d1 := Blk.cell (Blk.ext hS6 hS); have d2 := (Blk.ext hS6 hS).lt;  go_simp; try with_reducible rfl)); (intro K hK; go_simp; refine hK _ _ ?_; clear hK K)) | ((apply w3_pass); (· exact (Kept.drew (Kept.refl _ _))); (· go_simp); (intro K hK; go_simp; refine hK _ _ ?_; clear hK K))))
          have yW : Ext w6 w6.drew := (Kept.refl _ w6).drew
          (refine w3_act (fun K hK => ?_); go_simp)
          go_wp2_with fail
          have hrt := troot_tree base q (m'.map leafW) w6.drew (by rw [List.length_map, HML.out]; exact k1) (by rw [List.length_map, HML.out]; omega) (HT6.out.ok.ext yW)
          rw [show rootT (m'.map leafW) = M from HMe.out.symm] at hrt
          refine hrt.mono ?_
          rintro e w7 ⟨rfl, hx7⟩
          have y7 : Ext w6 w7 := yW.trans hx7
          refine hK.out _ _ (fun _ => y7) ?_
          clear hK K hrt
          (repeat (first | ((apply w3_pure); (· go_simp); (· (intro w1; go_simp; try with_reducible rfl)); (intro K hK; go_simp; refine hK _ _ ?_; clear hK K)) | ((apply w3_skip); (· go_simp); (intro K hK; go_simp; refine hK _ _ ?_; clear hK K))))
          (refine w3_act (fun K hK => ?_); go_simp)
          go_wp2_with fail
          have hhd := head_any p' h' k M (by rw [HMe.out]; exact hWord_ok _ _) (by omega) (by omega) (by omega) w7
          rw [← HDM.out] at hhd
          refine hhd.mono ?_
          rintro e w8 ⟨rfl, hx8⟩
          have y8 : Ext w6 w8 := y7.trans hx8
          refine hK.out _ _ (fun _ => y8) ?_
          clear hK K hhd
          (repeat (first | ((apply w3_pure); (· go_simp); (· (intro w1; go_simp; try with_reducible rfl)); (intro K hK; go_simp; refine hK _ _ ?_; clear hK K)) | ((apply w3_skip); (· go_simp); (intro K hK; go_simp; refine hK _ _ ?_; clear hK K))))
          (refine w3_act (fun K hK => ?_); go_simp)
          have y9 : Ext w6 (w8.alloc (.cells D.cells 30)) := y8.alloc _
          refine hK.out _ _ (fun _ => y9) ?_
          clear hK K
          have hs9 := y8.size
          obtain ⟨v10, w10, hr10, ho10, hk10⟩ := appE (w8.alloc (.cells D.cells 30)) top (.slice (some ⟨g12, 0, none⟩) (j + 1) c12) (j + 1) _ (own_ext HO6.out y9) w8.heap.size 0 1 1 [D] rfl (by simpa [digs] using Row.of_blk (Blk.new w8 30 D.cells)) (by omega) (by simp; omega)
          have hot : ∀ i, (Value.slice (some ⟨g12, 0, none⟩) (j + 1) c12).ownBlock = some i → top ≤ i := fun i e => (HO6.out.lt i e).1
          have hoi := own_other (own_ext HO6.out y9) (E' := 21) (by decide)
          have hos := own_other (own_ext HO6.out y9) (E' := 70) (by decide)
          have hS10 := Blk.kept (Blk.ext hS6 y9) hk10 (fun e => hos sb e _ _ (Blk.ext hS6 y9))
          have hT10 := (HT6.out.ext y9).kept hk10 hot
          have hM10 := (HM6.out.ext y9).kept hk10 (fun i e => by have := hot i e; omega) (fun i e _ => hoi i e)
          have x10 : Ext w w10 := (x6.trans y9).trans' hk10 (fun i hi e => by have := hot i e; omega)
          have hts10 : top ≤ w10.heap.size := by have h1 := y9.size; have h2 := hk10.size; omega
          have ho10' : w10.ownsRow top 30 8 v10 (j + 1 + 1) (digs ((List.range (j + 1 + 1)).map (trD l (pc, halt, m)))) := by
            rw [List.range_succ, List.map_append, show List.map (trD l (pc, halt, m)) [j + 1] = [D] by rw [HD.out]; rfl]
            exact ho10
          obtain ⟨g10, c10, hv10, _⟩ := own_rows ho10' (by omega) (by omega)
          subst hv10
          have HO10 := Lib.hid ho10'
          have HT10 := Lib.hid hT10
          have HM10 := Lib.hid hM10
          clear ho10 ho10' hT10 hM10 hk10 hot hoi hos
          refine w3_end (by kernel_rfl) (fun K hK => ?_)
          refine iff_want rfl ?_
          refine Lib.wp_append_run _ _ _ _ _ rfl _ _ rfl rfl _ _ hr10 ?_
          refine hK.out _ _ ?_
          clear hK K hr10
          (repeat (first | ((apply w3_pure); (· go_simp); (· (intro w1; go_simp; try with_reducible rfl)); (intro K hK; go_simp; refine hK _ _ ?_; clear hK K)) | ((apply w3_skip); (· go_simp); (intro K hK; go_simp; refine hK _ _ ?_; clear hK K)) | (refine w3_end (by kernel_rfl) (fun K hK => ?_); go_simp; refine hK.out _ _ ?_; clear hK K))); refine w3_nil ?_
          go_wp2_with fail
          go_roundw
          case rel => exact ⟨j + 1, g3, 0, c3, hlt, HO10.out, by rw [HNX2.out]; exact hS10, by rw [HNX2.out]; exact HM10.out, by rw [HNX2.out]; exact HT10.out, x10, hts10⟩
          case measure => simp only; omega
        · have hup := HUP.out
          unfold upd at hup
          rw [if_neg hw0] at hup
          have hT6 := HT4.out
          rw [← hup] at hT6
          have hml : m'.length = k := by rw [hup]; exact HLN.out
          obtain ⟨w6, hw6⟩ : ∃ w6, w6 = W4 := ⟨_, rfl⟩
          have HO6 := Lib.hid (show w6.ownsRow _ _ _ _ _ _ from by rw [hw6]; exact HO4.out)
          have HT6 := Lib.hid (show TreeIn w6 _ _ _ _ from by rw [hw6]; exact hT6)
          have HM6 := Lib.hid (show MemW w w6 _ _ _ _ from by rw [hw6]; exact HM4.out)
          have hS6 : Blk w6 sb 70 (stCells p' (some ⟨g3, 0, none⟩) k c3 h') := by rw [hw6]; exact hS4
          have x6 : Ext w w6 := by rw [hw6]; exact x4
          have hts6 : top ≤ w6.heap.size := by rw [hw6]; exact hts4
          have HML := Lib.hid hml
          rw [← hw6]
          clear hup hT6 hml HO4 HT4 HM4 HMC x4 hS4 hts4 hw6
          obtain ⟨D, hD⟩ : ∃ D, D = trD l (pc, halt, m) (j + 1) := ⟨_, rfl⟩
          obtain ⟨M, hMe⟩ : ∃ M, M = memR m' := ⟨_, rfl⟩
          have hDM : D = hHead p' h' k M := by rw [hD, hMe]; unfold trD; rw [HNX2.out, ← HML.out]; rfl
          have hokn := (HOKT.out (j + 1)).1
          rw [HNX2.out] at hokn
          obtain ⟨_, _, s3, s4, s5, s6⟩ := rightS_inv hokn.right
          simp only at s3 s4 s5 s6
          have HD := Lib.hid hD
          have HMe := Lib.hid hMe
          have HDM := Lib.hid hDM
          clear hD hMe hDM hokn
          go_upto_region 18 with (fail)
          refine wp_region_3 (fun w2 => Ext w6 w2) [(0, 2), (1, 2), (2, 1), (3, 2), (4, 1), (5, 2), (6, 1), (7, 2), (8, 2), (9, 0), (10, 0), (11, 0), (12, 0), (13, 2)] (by kernel_rfl) (by kernel_rfl) (by kernel_rfl) (by kernel_rfl) ?_; intro l' hl'; simp only [List.map_cons, List.map_nil, List.getD_cons_zero, List.getD_cons_succ] at hl'; subst hl'
          (repeat (first | ((apply w3_pure); (· go_simp); (· (intro w1; go_simp; try with_reducible rfl)); (intro K hK; go_simp; refine hK _ _ ?_; clear hK K)) | ((apply w3_skip); (· go_simp); (intro K hK; go_simp; refine hK _ _ ?_; clear hK K)) | ((apply w3_take); (· exact (Kept.drew (Kept.refl _ _))); (· go_simp); (· (intro w1 hS; have d1 := Blk.cell (Blk.ext hS6 hS); have d2 := (Blk.ext hS6 hS).lt;  go_simp; try with_reducible rfl)); (intro K hK; go_simp; refine hK _ _ ?_; clear hK K)) | ((apply w3_pass); (· exact (Kept.drew (Kept.refl _ _))); (· go_simp); (intro K hK; go_simp; refine hK _ _ ?_; clear hK K))))
          have yW : Ext w6 w6.drew := (Kept.refl _ w6).drew
          (refine w3_act (fun K hK => ?_); go_simp)
          go_wp2_with fail
          have hrt := troot_tree base q (m'.map leafW) w6.drew (by rw [List.length_map, HML.out]; exact k1) (by rw [List.length_map, HML.out]; omega) (HT6.out.ok.ext yW)
          rw [show rootT (m'.map leafW) = M from HMe.out.symm] at hrt
          refine hrt.mono ?_
          rintro e w7 ⟨rfl, hx7⟩
          have y7 : Ext w6 w7 := yW.trans hx7
          refine hK.out _ _ (fun _ => y7) ?_
          clear hK K hrt
          (repeat (first | ((apply w3_pure); (· go_simp); (· (intro w1; go_simp; try with_reducible rfl)); (intro K hK; go_simp; refine hK _ _ ?_; clear hK K)) | ((apply w3_skip); (· go_simp); (intro K hK; go_simp; refine hK _ _ ?_; clear hK K))))
          (refine w3_act (fun K hK => ?_); go_simp)
          go_wp2_with fail
          have hhd := head_any p' h' k M (by rw [HMe.out]; exact hWord_ok _ _) (by omega) (by omega) (by omega) w7
          rw [← HDM.out] at hhd
          refine hhd.mono ?_
          rintro e w8 ⟨rfl, hx8⟩
          have y8 : Ext w6 w8 := y7.trans hx8
          refine hK.out _ _ (fun _ => y8) ?_
          clear hK K hhd
          (repeat (first | ((apply w3_pure); (· go_simp); (· (intro w1; go_simp; try with_reducible rfl)); (intro K hK; go_simp; refine hK _ _ ?_; clear hK K)) | ((apply w3_skip); (· go_simp); (intro K hK; go_simp; refine hK _ _ ?_; clear hK K))))
          (refine w3_act (fun K hK => ?_); go_simp)
          have y9 : Ext w6 (w8.alloc (.cells D.cells 30)) := y8.alloc _
          refine hK.out _ _ (fun _ => y9) ?_
          clear hK K
          have hs9 := y8.size
          obtain ⟨v10, w10, hr10, ho10, hk10⟩ := appE (w8.alloc (.cells D.cells 30)) top (.slice (some ⟨g12, 0, none⟩) (j + 1) c12) (j + 1) _ (own_ext HO6.out y9) w8.heap.size 0 1 1 [D] rfl (by simpa [digs] using Row.of_blk (Blk.new w8 30 D.cells)) (by omega) (by simp; omega)
          have hot : ∀ i, (Value.slice (some ⟨g12, 0, none⟩) (j + 1) c12).ownBlock = some i → top ≤ i := fun i e => (HO6.out.lt i e).1
          have hoi := own_other (own_ext HO6.out y9) (E' := 21) (by decide)
          have hos := own_other (own_ext HO6.out y9) (E' := 70) (by decide)
          have hS10 := Blk.kept (Blk.ext hS6 y9) hk10 (fun e => hos sb e _ _ (Blk.ext hS6 y9))
          have hT10 := (HT6.out.ext y9).kept hk10 hot
          have hM10 := (HM6.out.ext y9).kept hk10 (fun i e => by have := hot i e; omega) (fun i e _ => hoi i e)
          have x10 : Ext w w10 := (x6.trans y9).trans' hk10 (fun i hi e => by have := hot i e; omega)
          have hts10 : top ≤ w10.heap.size := by have h1 := y9.size; have h2 := hk10.size; omega
          have ho10' : w10.ownsRow top 30 8 v10 (j + 1 + 1) (digs ((List.range (j + 1 + 1)).map (trD l (pc, halt, m)))) := by
            rw [List.range_succ, List.map_append, show List.map (trD l (pc, halt, m)) [j + 1] = [D] by rw [HD.out]; rfl]
            exact ho10
          obtain ⟨g10, c10, hv10, _⟩ := own_rows ho10' (by omega) (by omega)
          subst hv10
          have HO10 := Lib.hid ho10'
          have HT10 := Lib.hid hT10
          have HM10 := Lib.hid hM10
          clear ho10 ho10' hT10 hM10 hk10 hot hoi hos
          refine w3_end (by kernel_rfl) (fun K hK => ?_)
          refine iff_want rfl ?_
          refine Lib.wp_append_run _ _ _ _ _ rfl _ _ rfl rfl _ _ hr10 ?_
          refine hK.out _ _ ?_
          clear hK K hr10
          (repeat (first | ((apply w3_pure); (· go_simp); (· (intro w1; go_simp; try with_reducible rfl)); (intro K hK; go_simp; refine hK _ _ ?_; clear hK K)) | ((apply w3_skip); (· go_simp); (intro K hK; go_simp; refine hK _ _ ?_; clear hK K)) | (refine w3_end (by kernel_rfl) (fun K hK => ?_); go_simp; refine hK.out _ _ ?_; clear hK K))); refine w3_nil ?_
          go_wp2_with fail
          go_roundw
          case rel => exact ⟨j + 1, g3, 0, c3, hlt, HO10.out, by rw [HNX2.out]; exact hS10, by rw [HNX2.out]; exact HM10.out, by rw [HNX2.out]; exact HT10.out, x10, hts10⟩
          case measure => simp only; omega
      · have hb0 : (rha != 0) = true := by simpa using h0
        have HH0 := Lib.hid h0
        clear h0
        obtain ⟨dh, dgt⟩ := hrow.dig j (by simp)
        simp only [List.getElem_map, List.getElem_range, Nat.zero_add] at dh dgt
        obtain ⟨D, hD⟩ : ∃ D, D = trD l (pc, halt, m) j := ⟨_, rfl⟩
        rw [← hD] at dgt
        have hgl := hrow.lt
        have hnxt : trajI l (pc, halt, m) (j + 1) = (rpc, rha, rm) := by rw [HNX.out]; unfold runI; rw [if_neg HH0.out]
        have hD1 : trD l (pc, halt, m) (j + 1) = D := by rw [hD]; unfold trD; rw [hnxt, ← HR.out]
        have HD1 := Lib.hid hD1
        have HNT := Lib.hid hnxt
        clear hD hD1 hnxt hrow
        have hj0 : (0 : Int) ≤ j := by omega
        have hjl : (j : Int) < (j : Int) + 1 := by omega
        have hjn : j < j + 1 := by omega
        have hj1 : (j : Int) + 1 - 1 = j := by omega
        go_upto_region 13 with (fail)
        go_step
        iterate 8 (refine wpList_step (fun K hK => ?_); go_simp; (try go_bits); refine hK _ _ ?_; clear hK K)
        have y5 : Ext wr (wr.alloc (.cells D.cells 30)) := (Kept.refl _ wr).alloc _
        obtain ⟨v6, w6, hr6, ho6, hk6⟩ := appE (wr.alloc (.cells D.cells 30)) top (.slice (some ⟨g12, 0, none⟩) (j + 1) c12) (j + 1) _ (own_ext HO.out y5) wr.heap.size 0 1 1 [D] rfl (by simpa [digs] using Row.of_blk (Blk.new wr 30 D.cells)) (by omega) (by simp; omega)
        have hot : ∀ i, (Value.slice (some ⟨g12, 0, none⟩) (j + 1) c12).ownBlock = some i → top ≤ i := fun i e => (HO.out.lt i e).1
        have hoi := own_other (own_ext HO.out y5) (E' := 21) (by decide)
        have hos := own_other (own_ext HO.out y5) (E' := 70) (by decide)
        have hS6 := Blk.kept (Blk.ext hS y5) hk6 (fun e => hos sb e _ _ (Blk.ext hS y5))
        have hT6 := (HT.out.ext y5).kept hk6 hot
        have hM6 := (HM.out.ext y5).kept hk6 (fun i e => by have := hot i e; omega) (fun i e _ => hoi i e)
        have x6 : Ext w w6 := (hx.trans y5).trans' hk6 (fun i hi e => by have := hot i e; omega)
        have hts6 : top ≤ w6.heap.size := by have h1 := y5.size; have h2 := hk6.size; omega
        have ho6' : w6.ownsRow top 30 8 v6 (j + 1 + 1) (digs ((List.range (j + 1 + 1)).map (trD l (pc, halt, m)))) := by
          rw [List.range_succ, List.map_append, show List.map (trD l (pc, halt, m)) [j + 1] = [D] by rw [← HD1.out]; rfl]
          exact ho6
        obtain ⟨g6, c6, hv6, _⟩ := own_rows ho6' (by omega) (by omega)
        subst hv6
        refine wpList_app rfl (.tmp 60) (.tmp 67) 42 rfl rfl rfl rfl hr6 ?_
        have HO6 := Lib.hid ho6'
        have HT6 := Lib.hid hT6
        have HM6 := Lib.hid hM6
        clear hr6 ho6 ho6' hT6 hM6 hk6 hot hoi hos dh dgt i1
        go_wp2_with fail
        go_roundw
        case rel => exact ⟨j + 1, g, o, c, hlt, HO6.out, by rw [HNT.out]; exact hS6, by rw [HNT.out]; exact HM6.out, by rw [HNT.out]; exact HT6.out, x6, hts6⟩
        case measure => simp only; omega
    · have hltI : ¬ (j : Int) + 1 ≤ steps := by omega
      have ej : j = steps := by omega
      subst ej
      go_wp2_with fail
      go_ret2
      exact ⟨_, rfl, own_mono HO.out (by omega), hx⟩
end Go.Proofs.YtahljceanodhkaaGreatDoor
