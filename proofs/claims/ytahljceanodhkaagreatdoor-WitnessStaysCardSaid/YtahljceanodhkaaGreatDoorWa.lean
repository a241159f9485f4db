/- Package witness: codeTree, memoryTree, Code, State. -/
import Derived.Test.YtahljceanodhkaaGreatDoorTf
namespace Go.Proofs.YtahljceanodhkaaGreatDoor
open Go.RowKit
theorem troot_tree (base p : Nat) (l : List Dg) (w : World) (h1 : 1 ≤ l.length) (h2 : l.length ≤ 4096) (h : TreeOK w base p l) :
    Calls Tryz.prog 67 #[.pointer (some ⟨p, 0, none⟩)] w fun e w' => e = .returned (.agg (rootT l).cells) ∧ Ext w w' := by
  obtain ⟨cg, cc, f, G, h⟩ := h
  have hb := hgt_bd l.length h1 h2
  have hc := h.blk.cell 0 (by omega)
  rw [h.f0] at hc
  have hc1 := h.blk.cell (1 + hgt l.length) (by omega)
  rw [h.fl _ (Nat.le_refl _), Nat.sub_self, Nat.pow_zero] at hc1
  have hB := h.lv _ (Nat.le_refl _)
  rw [lev_top] at hB
  exact troot_ok p l.length cc (G _) 1 (hgt l.length) _ (nodeT l (hgt l.length) 0) w (nodeT_ok _ _ _) h1 h2 rfl h.blk.lt hc hc1 hB
set_option maxRecDepth 100000 in
set_option maxHeartbeats 1000000 in
theorem codetree_ok (A : Option Addr) (b off cap : Nat) (l : List Ins) (n : Nat) (hn : n = l.length) (h1 : 1 ≤ n) (h2 : n ≤ 2048) (hok : ∀ i ∈ l, i.ok) (hA : 0 < n → A = some ⟨b, off, none⟩) (w : World) (hr : 0 < n → Row w b off (inss l)) :
    Calls Tryz.prog 66 #[.slice A n cap] w fun e w' => IsTree w w' e (l.map ileaf) := by
  have HN := Lib.hid hn
  have HO := Lib.hid hok
  have hr := hr h1
  obtain rfl := hA h1
  have hbl := hr.lt
  clear hn hok hA
  obtain ⟨w0, hr0, ho0, hx0⟩ := makeE w n (by omega)
  go_enter Tryz.func66, Tryz.ntmps66
  go_upto_region 3 with (fail)
  go_step
  iterate 2 (refine wpList_step (fun K hK => ?_); go_simp; (try go_bits); refine hK _ _ ?_; clear hK K)
  refine wpList_make rfl _ _ 42 rfl rfl rfl hr0 ?_
  clear hr0
  go_wp2_with fail
  go_loopw [4, 20] (fun t4 t20 wr => ∃ (k : Nat), k ≤ n ∧ t20 = .int .i64 k ∧ wr.ownsRow w.heap.size 30 8 t4 k (digs ((l.take k).map ileaf)) ∧ Ext w wr) (fun _ t20 _ => n - (intOf t20).toNat)
  case atStart => exact ⟨0, Nat.zero_le _, rfl, ho0, hx0⟩
  case round =>
    obtain ⟨k, hk, rfl, ho, hx⟩ := hrel
    have hob : ∀ i, i < w.heap.size → (u4 : Value).ownBlock = some i → False := fun i hi e => by have := (ho.lt i e).1; omega
    have HOB := Lib.hid hob
    clear hob
    by_cases hlt : k < n
    · have hkl : k < l.length := by have := HN.out; omega
      obtain ⟨hrh, hrg⟩ := (hr.ext hx).ins k hkl
      have hbw := (hr.ext hx).lt
      go_upto_region 7 with (fail)
      have hx' := hx.alloc (.cells (l[k]).cells 41)
      have ho' := ho.alloc (.cells (l[k]).cells 41)
      go_step
      iterate 2 (refine wpList_step (fun K hK => ?_); go_simp; (try go_bits); refine hK _ _ ?_; clear hK K)
      refine wpList_step (fun K hK => ?_)
      go_wp2_with fail
      refine (ileaf_any l[k] (HO.out _ (List.getElem_mem hkl)) _).mono ?_
      rintro e w1 ⟨rfl, hx1⟩
      refine hK _ _ ?_
      clear hK K
      obtain ⟨v2, w2, hr2, ho2, hk2⟩ := appE (w1.alloc (.cells (ileaf l[k]).cells 30)) _ _ _ ((l.take k).map ileaf) ((own_ext ho' hx1).alloc _) w1.heap.size 0 1 1 [ileaf l[k]] rfl (by simpa [digs] using Row.of_blk (Blk.new w1 30 (ileaf l[k]).cells)) (by omega) (by have := (hx'.trans hx1).size; simp; omega)
      iterate 1 (refine wpList_step (fun K hK => ?_); go_simp; (try go_bits); refine hK _ _ ?_; clear hK K)
      refine wpList_app rfl (.tmp 24) (.tmp 27) 42 rfl rfl rfl rfl hr2 ?_
      clear hr2
      go_wp2_with fail
      go_roundw
      case rel => exact ⟨k + 1, hlt, by go_num, by rw [List.take_succ_eq_append_getElem hkl, List.map_append]; exact ho2, ((hx'.trans hx1).alloc _).trans' hk2 HOB.out⟩
      case measure => simp only [intOf]; omega
    · have e : k = n := by omega
      subst e
      rw [List.take_of_length_le (Nat.le_of_eq HN.out.symm)] at ho
      obtain ⟨g, c, rfl, hg, hrow, hc, hcm, hl⟩ := own_someE ho h1
      have HL := Lib.hid hl
      clear hl hc hcm
      go_wp2_with fail
      refine (tnew_ok g 0 c (l.map ileaf) _ HL.out h1 (by omega) (by simp; exact fun i _ => ileaf_ok i) _ hrow).mono ?_
      rintro e w1 ⟨p, rfl, ht, hx1⟩
      go_wp2_with fail
      go_ret2
      exact ⟨p, rfl, ht.low hx.size, hx.trans hx1⟩
set_option maxHeartbeats 1000000 in
theorem codetree_no (A : Option Addr) (cap n : Nat) (h : n < 1 ∨ 2048 < n) (w : World) :
    Calls Tryz.prog 66 #[.slice A n cap] w fun e w' => e = .returned (.tuple #[.pointer none, .int .i64 2]) ∧ w = w' := by
  rcases h with h | h
  · go_enter Tryz.func66, Tryz.ntmps66
    go_wp2_with fail
    go_ret2
    exact ⟨rfl, rfl⟩
  · go_enter Tryz.func66, Tryz.ntmps66
    go_wp2_with fail
    go_ret2
    exact ⟨rfl, rfl⟩
set_option maxRecDepth 100000 in
set_option maxHeartbeats 1000000 in
theorem wcode_ok (A : Option Addr) (b off cap : Nat) (l : List Ins) (n : Nat) (hn : n = l.length) (h1 : 1 ≤ n) (h2 : n ≤ 2048) (hok : ∀ i ∈ l, i.ok) (hA : 0 < n → A = some ⟨b, off, none⟩) (w : World) (hr : 0 < n → Row w b off (inss l)) :
    Calls Tryz.prog 29 #[.slice A n cap] w fun e w' => e = .returned (.tuple #[.agg (codeR l).cells, .int .i64 0]) ∧ Ext w w' := by
  have HN := Lib.hid hn
  have HO := Lib.hid hok
  have HA := Lib.hid hA
  have HR := Lib.hid hr
  clear hn hok hA hr
  have hx0 : Ext w _ := (Kept.refl _ w).alloc (.cells Dg.zero.cells 30)
  have hR0 := Blk.new w 30 Dg.zero.cells
  go_enter Tryz.func29, Tryz.ntmps29
  go_wp2_with fail
  refine (codetree_ok A b off cap l n HN.out h1 h2 HO.out HA.out _ (fun h => (HR.out h).ext hx0)).mono ?_
  rintro e w1 ⟨p, rfl, ht, hx1⟩
  have hR1 := Blk.ext hR0 hx1
  go_wp2_with fail
  refine (troot_tree _ p (l.map ileaf) _ (by rw [List.length_map, ← HN.out]; exact h1) (by rw [List.length_map, ← HN.out]; omega) ht).mono ?_
  rintro e w2 ⟨rfl, hx2⟩
  have hR2 := Blk.ext hR1 hx2
  have hh2 := Blk.has hR2
  have hm2 := Blk.melts hR2
  go_wp2_with fail
  refine ret_ci Tryz.results29 rfl rfl aggDig (by exact sizeDig) (Blk.put_ hR2 _ _) ⟨rfl, ?_⟩
  exact Kept.putAt ((hx0.trans hx1).trans hx2) _ _ _ (fun h => by omega)
set_option maxHeartbeats 1000000 in
theorem wcode_no (A : Option Addr) (cap n : Nat) (h : n < 1 ∨ 2048 < n) (w : World) :
    Calls Tryz.prog 29 #[.slice A n cap] w fun e w' => e = .returned (.tuple #[.agg Dg.zero.cells, .int .i64 2]) ∧ Ext w w' := by
  have HX := Lib.hid h
  clear h
  have hx0 : Ext w _ := (Kept.refl _ w).alloc (.cells Dg.zero.cells 30)
  have hR0 := Blk.new w 30 Dg.zero.cells
  go_enter Tryz.func29, Tryz.ntmps29
  go_wp2_with fail
  refine (codetree_no A cap n HX.out _).mono ?_
  rintro e w1 ⟨rfl, rfl⟩
  have hh2 := Blk.has hR0
  have hm2 := Blk.melts hR0
  go_wp2_with fail
  refine ret_ci Tryz.results29 rfl rfl aggDig (by exact sizeDig) hR0 ⟨rfl, hx0⟩
end Go.Proofs.YtahljceanodhkaaGreatDoor
