/- Package witness: wordLeaves. -/
import Derived.Test.YtahljceanodhkaaGreatDoorPc
namespace Go.Proofs.YtahljceanodhkaaGreatDoor
open Go.RowKit
theorem infoE8 : (Tryz.prog.info? 30).map (fun i => (i.zero, i.size, i.bytes)) = some (some (.agg Dg.zero.cells), 8, 8) := by kernel_rfl
theorem appE (w : World) (base : Nat) (v : Value) (n : Nat) (xs : List Dg) (hown : w.ownsRow base 30 8 v n (digs xs)) (b off m c : Nat) (l : List Dg) (hm : m = l.length) (hr : Row w b off (digs l)) (hn : n + m ≤ 100000) (hbase : base ≤ w.heap.size) :
    ∃ v' w', (Builtin.append_ #[42, 42] 42 #[v, .slice (some ⟨b, off, none⟩) m c]).run Tryz.prog w = .ok v' w' ∧ w'.ownsRow base 30 8 v' (n + m) (digs (xs ++ l)) ∧ Kept (fun i => v.ownBlock = some i) w w' := by
  obtain ⟨i, hi, hz, h1, h2⟩ := info_parts infoE8
  have := app_some (P := Tryz.prog) Tryz.underlying42 hi hz h1 h2 (by rfl) (by decide) w base v n (digs xs) hown b off m c (digs l) (by rw [digs_length, hm]) hr (digs_flat l) (by unfold maxLen; omega) (by omega) hbase
  rw [show digs xs ++ digs l = digs (xs ++ l) by simp [digs]] at this
  exact this
theorem own_someE {w : World} {base : Nat} {E : TypeId} {v : Value} {n : Nat} {xs : List Dg} (h : w.ownsRow base E 8 v n (digs xs)) (hn : 0 < n) : ∃ g c, v = .slice (some ⟨g, 0, none⟩) n c ∧ base ≤ g ∧ Row w g 0 (digs xs) ∧ n ≤ c ∧ c ≤ maxLen ∧ n = xs.length := by
  have hl := h.1
  rw [digs_length] at hl
  rcases h.2 with ⟨_, h0⟩ | ⟨g, c, cur, hv, hb, hc, hnc, hcm, hcs, htk⟩
  · omega
  · refine ⟨g, c, hv, hb, ?_, hnc, hcm, by omega⟩
    have hln : (digs xs).length = n * 8 := by rw [digs_length, hl]
    refine ⟨?_, ?_, (Array.getElem?_eq_some_iff.1 hc).1⟩
    · unfold has; rw [hc, hln]; simp; omega
    · unfold gets; rw [hc, hln]; simp only [List.drop_zero]; rw [htk]
theorem makeE (w : World) (c : Nat) (h : c ≤ 100000) :
    ∃ w', (Instr.makeSlice 42 (.int .i64 0) (.int .i64 (c : Int))).run Tryz.prog w = .ok (.slice (some ⟨w.heap.size, 0, none⟩) 0 c) w' ∧ w'.ownsRow w.heap.size 30 8 (.slice (some ⟨w.heap.size, 0, none⟩) 0 c) 0 (digs []) ∧ Ext w w' := by
  obtain ⟨i, hi, hz, h1, h2⟩ := info_parts infoE8
  obtain ⟨w', hr, ho, hg⟩ := run_make_own (P := Tryz.prog) w w.heap.size 42 30 i _ 8 Tryz.underlying42 hi hz h1 .i64 .i64 c (by rw [h2]; omega) (by unfold maxLen; omega) (Nat.le_refl _)
  exact ⟨w', hr, ho, hg.os, hg.tape, hg.output, hg.size, fun k hk _ => hg.block k hk (by simp)⟩
/-- what hands back digests of its own -/
def OwnsE (w w' : World) (e : Ending) (n : Nat) (l : List Dg) : Prop :=
  ∃ v, e = .returned v ∧ w'.ownsRow w.heap.size 30 8 v n (digs l) ∧ Ext w w'
set_option maxRecDepth 100000 in
set_option maxHeartbeats 1000000 in
theorem wordLeaves_ok (A : Option Addr) (b off cap : Nat) (l : List Int) (n : Nat) (hn : n = l.length) (h2 : n ≤ 4096) (hA : 0 < n → A = some ⟨b, off, none⟩) (w : World) (hr : 0 < n → Row w b off (mems l)) :
    Calls Tryz.prog 127 #[.slice A n cap] w fun e w' => OwnsE w w' e n (l.map leafW) := by
  have HN := Lib.hid hn
  have HA := Lib.hid hA
  have HR := Lib.hid hr
  clear hn hA hr
  obtain ⟨w0, hr0, ho0, hx0⟩ := makeE w n (by omega)
  go_enter Tryz.func127, Tryz.ntmps127
  go_upto_region 1 with (fail)
  go_step
  iterate 2 (refine wpList_step (fun K hK => ?_); go_simp; (try go_bits); refine hK _ _ ?_; clear hK K)
  refine wpList_make rfl _ _ 42 rfl rfl rfl hr0 ?_
  clear hr0
  go_wp2_with fail
  go_loopw [3, 11] (fun t3 t11 wr => ∃ (k : Nat), k ≤ n ∧ t11 = .int .i64 k ∧ wr.ownsRow w.heap.size 30 8 t3 k (digs ((l.take k).map leafW)) ∧ Ext w wr) (fun _ t11 _ => n - (intOf t11).toNat)
  case atStart => exact ⟨0, Nat.zero_le _, rfl, ho0, hx0⟩
  case round =>
    obtain ⟨k, hk, rfl, ho, hx⟩ := hrel
    have hob : ∀ i, i < w.heap.size → (u3 : Value).ownBlock = some i → False := fun i hi e => by have := (ho.lt i e).1; omega
    have HOB := Lib.hid hob
    clear hob
    by_cases hlt : k < n
    · have hkl : k < l.length := by have := HN.out; omega
      obtain rfl := HA.out (by omega)
      have hrg := ((HR.out (by omega)).ext hx).mem k hkl
      have hbl := ((HR.out (by omega)).ext hx).lt
      go_upto_region 5 with (fail)
      go_step
      iterate 2 (refine wpList_step (fun K hK => ?_); go_simp; (try go_bits); refine hK _ _ ?_; clear hK K)
      refine wpList_step (fun K hK => ?_)
      go_wp2_with fail
      refine (leaf_any l[k] _).mono ?_
      rintro e w1 ⟨rfl, hx1⟩
      refine hK _ _ ?_
      clear hK K
      obtain ⟨v2, w2, hr2, ho2, hk2⟩ := appE (w1.alloc (.cells (leafW l[k]).cells 30)) _ _ _ ((l.take k).map leafW) ((own_ext ho hx1).alloc _) w1.heap.size 0 1 1 [leafW l[k]] rfl (by simpa [digs] using Row.of_blk (Blk.new w1 30 (leafW l[k]).cells)) (by omega) (by have := (hx.trans hx1).size; simp; omega)
      iterate 1 (refine wpList_step (fun K hK => ?_); go_simp; (try go_bits); refine hK _ _ ?_; clear hK K)
      refine wpList_app rfl (.tmp 15) (.tmp 18) 42 rfl rfl rfl rfl hr2 ?_
      clear hr2
      go_wp2_with fail
      go_roundw
      case rel => exact ⟨k + 1, hlt, by go_num, by rw [List.take_succ_eq_append_getElem hkl, List.map_append]; exact ho2, ((hx.trans hx1).alloc _).trans' hk2 HOB.out⟩
      case measure => simp only [intOf]; omega
    · go_wp2_with fail
      go_ret
      have e : k = n := by omega
      subst e
      rw [List.take_of_length_le (Nat.le_of_eq HN.out.symm)] at ho
      exact ⟨_, rfl, ho, hx⟩
end Go.Proofs.YtahljceanodhkaaGreatDoor
