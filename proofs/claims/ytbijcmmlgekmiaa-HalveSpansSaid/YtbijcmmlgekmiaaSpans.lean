/- The law HalveSpans of layer 23: 'was', and the walk. -/
import Derived.Test.YtbijcmmlgekmiaaDeeds
namespace Go.Proofs.Ytbijcmmlgekmiaa
open Go.RowKit
def dgEq (a b : Dg) : Bool := [a.x0, a.x1, a.x2, a.x3, a.x4, a.x5, a.x6, a.x7] == [b.x0, b.x1, b.x2, b.x3, b.x4, b.x5, b.x6, b.x7]
theorem dgEq_self (a : Dg) : dgEq a a = true := by simp [dgEq]
def flatD (ds : List Dg) : List Value := ds.flatMap fun d => d.cells.toList
theorem flatD_len (ds : List Dg) : (flatD ds).length = ds.length * 8 := by
  induction ds with
  | nil => rfl
  | cons d r ih =>
    have : flatD (d :: r) = d.cells.toList ++ flatD r := rfl
    rw [this, List.length_append, ih]; simp; omega
theorem flatD_at : ∀ (ds : List Dg) (i : Nat) (h : i < ds.length), ((flatD ds).drop (i * 8)).take 8 = (ds[i]).cells.toList
  | [], i, h => by simp at h
  | d :: r, 0, h => by simp [flatD]
  | d :: r, i + 1, h => by
    have e : flatD (d :: r) = d.cells.toList ++ flatD r := rfl
    rw [e, show (i + 1) * 8 = 8 + i * 8 from by omega, ← List.drop_drop]
    rw [List.drop_append_of_le_length (by simp)]
    simpa using flatD_at r i (by simpa using h)
structure Said (w : World) (g : Nat) (cap : Nat) (ds : List Dg) : Prop where
  lt : g < w.heap.size
  has_ : ∀ i, i < ds.length → has w g (i * 8) 8 = true
  dg_ : ∀ i (h : i < ds.length), gets w g (i * 8) 8 = (ds[i]).cells
theorem Said.of_own {w : World} {base : Nat} {v : Value} {ds : List Dg} (h : w.ownsRow base 28 8 v ds.length (flatD ds)) (h0 : 0 < ds.length) : ∃ g cap, v = .slice (some ⟨g, 0, none⟩) ds.length cap ∧ base ≤ g ∧ Said w g cap ds := by
  obtain ⟨hl, h⟩ := h
  rcases h with ⟨_, hn⟩ | ⟨g, cap, cur, hv, hb, hh, hnc, hcm, hcs, ht⟩
  · omega
  · have hB : Blk w g 28 cur := hh
    refine ⟨g, cap, hv, hb, hB.lt, fun i hi => ?_, fun i hi => ?_⟩
    · rw [Blk.has hB]; simp; omega
    · have e := flatD_at ds i hi
      rw [← ht, List.drop_take, List.take_take, show min 8 (ds.length * 8 - i * 8) = 8 from by omega] at e
      rw [Blk.gets hB, e]
theorem Said.keep {w w' : World} {g cap : Nat} {ds : List Dg} (h : Said w g cap ds) (hk : Ext w w') : Said w' g cap ds := by
  have hb : w'.heap[g]? = w.heap[g]? := hk.block g h.lt (fun f => f)
  refine ⟨Nat.lt_of_lt_of_le h.lt hk.size, fun i hi => ?_, fun i hi => ?_⟩
  · have := h.has_ i hi; unfold has at this ⊢; rw [hb]; exact this
  · have := h.dg_ i hi; unfold gets at this ⊢; rw [hb]; exact this
set_option maxHeartbeats 400000 in
theorem was_any (g cap : Nat) (ds : List Dg) (d : Dg) (w : World) (hs : Said w g cap ds) (hl : ds.length ≤ 1000) (hd : ∃ x ∈ ds, dgEq x d = true) :
    Calls Try.prog 12 #[.slice (some ⟨g, 0, none⟩) ds.length cap, .agg #[.int .u8 d.x0, .int .u8 d.x1, .int .u8 d.x2, .int .u8 d.x3, .int .u8 d.x4, .int .u8 d.x5, .int .u8 d.x6, .int .u8 d.x7]] w fun e w' => e = .returned (.bool true) ∧ Ext w w' := by
  have hlt := hs.lt
  have HS := Lib.hid hs
  have HD := Lib.hid hd
  clear hs hd
  generalize hn : ds.length = n at *
  have HN := Lib.hid hn
  clear hn
  go_enter Try.func12, Try.ntmps12
  go_wp2_with fail
  go_loopw [5] (fun i wr => ∃ k : Nat, k ≤ n ∧ i = .int .i64 k ∧ Ext w wr ∧ Blk wr w.heap.size 28 d.cells ∧ ∀ j (h : j < ds.length), j < k → dgEq ds[j] d = false) (fun i _ => n - (intOf i).toNat)
  case atStart => exact ⟨0, Nat.zero_le _, rfl, (Kept.refl _ _).alloc _, Blk.new _ _ _, fun j _ h => by omega⟩
  case round =>
    obtain ⟨k, hk, rfl, hx, hB, hno⟩ := hrel
    have HNO := Lib.hid hno
    clear hno
    by_cases hlt2 : k < n
    · have hkl : k < ds.length := by rw [HN.out]; exact hlt2
      have hsk := HS.out.keep hx
      have hhas := hsk.has_ k hkl
      have hdg := hsk.dg_ k hkl
      have hhB := Blk.has hB
      have hgB := Blk.gets hB
      clear hsk
      generalize hdk : ds[k] = dk at *
      by_cases hq : dgEq dk d = true
      · unfold dgEq at hq
        go_wp2_with fail
        refine wp_region_eq [true, true, true, true, true, true] (by kernel_rfl) (by kernel_rfl) (by kernel_rfl) ?_
        (repeat (first | ((apply wpTx_take); (· exact rfl); (· go_simp); (· (intro w1 hS; subst hS;  go_simp; try with_reducible rfl)); (intro K hK; go_simp; refine hK _ _ ?_; clear hK K)) | ((apply wpTx_pass); (· exact rfl); (· go_simp); (intro K hK; go_simp; refine hK _ _ ?_; clear hK K))))
        (repeat (refine wpTx_end (by kernel_rfl) (fun K hK => ?_); go_simp; refine hK.out _ _ ?_; clear hK K)); refine wpTx_nil ?_
        go_wp2
        go_ret
        exact ⟨rfl, hx.drew⟩
      · have hq2 : dgEq dk d = false := by simpa using hq
        have HQ := Lib.hid hq2
        clear hq
        unfold dgEq at hq2
        go_wp2_with fail
        refine wp_region_eq [true, true, true, true, true, true] (by kernel_rfl) (by kernel_rfl) (by kernel_rfl) ?_
        (repeat (first | ((apply wpTx_take); (· exact rfl); (· go_simp); (· (intro w1 hS; subst hS;  go_simp; try with_reducible rfl)); (intro K hK; go_simp; refine hK _ _ ?_; clear hK K)) | ((apply wpTx_pass); (· exact rfl); (· go_simp); (intro K hK; go_simp; refine hK _ _ ?_; clear hK K))))
        (repeat (refine wpTx_end (by kernel_rfl) (fun K hK => ?_); go_simp; refine hK.out _ _ ?_; clear hK K)); refine wpTx_nil ?_
        go_wp2
        go_roundw
        case rel =>
          refine ⟨k + 1, by omega, by go_num, hx.drew, hB, fun j hj hjk => ?_⟩
          by_cases hjk2 : j < k
          · exact HNO.out j hj hjk2
          · obtain rfl : j = k := by omega
            rw [hdk]
            exact HQ.out
        case measure => (simp only [intOf]; omega)
    · exfalso
      obtain ⟨x, hx, hq⟩ := HD.out
      obtain ⟨j, hj, rfl⟩ := List.getElem_of_mem hx
      have hnn := HN.out
      have := HNO.out j hj (by omega)
      rw [this] at hq
      cases hq
end Go.Proofs.Ytbijcmmlgekmiaa
