/- The law HalveSpans of layer 23: its walk. -/
import Derived.Test.YtbijcmmlgekmiaaSpans
import Derived.Test.YtbijcmmlgekmiaaSpanp
namespace Go.Proofs.Ytbijcmmlgekmiaa
open Go.RowKit
theorem infoDig : (Try.prog.info? 28).map (fun i => (i.zero, i.size, i.bytes)) = some (some (.agg #[.int .u8 0, .int .u8 0, .int .u8 0, .int .u8 0, .int .u8 0, .int .u8 0, .int .u8 0, .int .u8 0]), 8, 8) := by kernel_rfl
theorem own_kept {S : Nat → Prop} {w w' : World} {base : Nat} {e : TypeId} {size : Nat} {v : Value} {n : Nat} {xs : List Value} (h : w.ownsRow base e size v n xs) (hk : Kept S w w') (hs : ∀ g cs, Blk w g e cs → S g → False) : w'.ownsRow base e size v n xs := by
  obtain ⟨h1, h2⟩ := h
  refine ⟨h1, ?_⟩
  rcases h2 with h2 | ⟨g, cap, cur, hv, hg, hh, r⟩
  · exact .inl h2
  · exact .inr ⟨g, cap, cur, hv, hg, (hk.block g (Blk.lt (t := e) (cs := cur) hh) (fun s => hs g cur hh s)).trans hh, r⟩
theorem Blk.ne_ {w : World} {g g' : Nat} {t t' : TypeId} {cs cs' : Array Value} (h : Blk w g t cs) (h' : Blk w g' t' cs') (hne : t ≠ t') : g ≠ g' := by
  rintro rfl
  unfold Blk at h h'
  rw [h] at h'
  injection h' with h'
  injection h' with _ ht
  exact hne ht
theorem own_block {w : World} {base : Nat} {e : TypeId} {size : Nat} {v : Value} {n : Nat} {xs : List Value} (h : w.ownsRow base e size v n xs) {g : Nat} (hg : v.ownBlock = some g) : base ≤ g ∧ ∃ cs, Blk w g e cs := by
  rcases h.2 with ⟨rfl, _⟩ | ⟨g', cap, cur, rfl, hb, hh, _⟩
  · simp [Value.ownBlock] at hg
  · have : g' = g := by simpa [Value.ownBlock] using hg
    subst this
    exact ⟨hb, cur, hh⟩
theorem new_cells (w : World) (cs : Array Value) (t : TypeId) : ∀ j u, cs.toList[j]? = some u → (w.alloc (.cells cs t)).cell? ((⟨w.heap.size, 0, none⟩ : Addr).add j) = some u := fun j u h => by
  rw [addr_add, Nat.zero_add, Blk.cell (Blk.new w t cs)]
  simpa using h
/-- what an append to a row of the call's own leaves as it was -/
theorem Kept.grownBy {S : Nat → Prop} {a w w' : World} {row : Option Nat} (h : Kept S a w) (hg : w.grownBy w' row) (hr : ∀ k, row = some k → k < a.heap.size → S k) : Kept S a w' :=
  ⟨hg.os.trans h.os, hg.tape.trans h.tape, hg.output.trans h.output, Nat.le_trans h.size hg.size,
   fun i hi hn => (hg.block i (Nat.lt_of_lt_of_le hi h.size) (fun e => hn (hr i e.symm hi))).trans (h.block i hi hn)⟩
set_option maxRecDepth 100000 in
set_option maxHeartbeats 4000000 in
theorem spans_walk (d : Int) (hd0 : 0 ≤ d) (hd1 : d ≤ 255) (A : Option Addr) (b off len cap : Nat) (what : Nat → Int) (dg : Nat → Dg) (first : Nat → Bool) (w : World) (hA : 0 < len → A = some ⟨b, off, none⟩) (hD : Deeds w b off len what dg first) (hl : len ≤ 60) :
    Calls Try.prog 4 #[.int .u8 d, .slice A len cap] w fun e w' => e = .returned (.bool true) ∧ Ext w w' := by
  have HD := Lib.hid hD
  clear hD
  have HA := Lib.hid hA
  clear hA
  obtain ⟨i0, hi0, hz0, hz1, hz2⟩ := info_parts infoDig
  have HI := Lib.hid hi0
  have HZ := Lib.hid hz0
  have HZ1 := Lib.hid hz1
  have HZ2 := Lib.hid hz2
  clear hi0 hz0 hz1 hz2
  go_enter Try.func4, Try.ntmps4
  go_wp2_with fail
  refine (new_ok (dg1 1) (dg1 2) (dg1 3) 7 _ ?_ ?_ (by decide) (by decide) _).mono ?_
  · omega
  · omega
  rintro e w1 ⟨g, hg, rfl, hA1, hx1⟩
  go_wp2_with fail
  go_loopw [8, 9] (fun v i wr => ∃ (k : Nat) (t : Tr) (ds : List Dg), k ≤ len ∧ i = .int .i64 k ∧ 0 < ds.length ∧ ds.length ≤ 2 + k ∧ SInv (d % 21).toNat t ds ∧ At wr g t ∧ wr.ownsRow w.heap.size 28 8 v ds.length (flatD ds) ∧ Ext w wr) (fun _ i _ => len - (intOf i).toNat)
  case atStart => exact ⟨0, _, [dg1 2, dg1 3], Nat.zero_le _, rfl, by simp, by simp, SInv.start _ _ _ _ _ _, Blk.alloc hA1 _, ⟨rfl, .inr ⟨w1.heap.size, 2, _, rfl, hx1.size, Blk.new _ _ _, by decide, by decide, rfl, rfl⟩⟩, hx1.alloc _⟩
  case round =>
    obtain ⟨k, t, ds, hk, rfl, hds0, hds, hE, hAt, hown, hx⟩ := hrel
    have hb := hE.bounds
    have hp := pow2_le (n := (d % 21).toNat) (by omega)
    have HE := Lib.hid hE
    have hsb : 1 ≤ t.steps ∧ t.steps ≤ 1048576 := by omega
    have hfb : 0 ≤ t.from_ ∧ t.from_ ≤ 1048576 := by omega
    clear hE hA1 hx1 hb
    have hno : ∀ i, i < w.heap.size → i = g → False := fun i hi he => by omega
    have HNO := Lib.hid hno
    clear hno
    by_cases hlt : k < len
    · have hwr := HD.out.whatR k hlt
      obtain rfl := HA.out (by omega)
      by_cases h0 : what k % 4 = 0
      · have q0 : (what k % 4 == 0) = true := by simpa using h0
        have q1 : (what k % 4 == 1) = false := by simp; omega
        clear h0
        have hD2 := HD.out.keep hx
        have hwh := hD2.what_ k hlt
        have hhas := hD2.has_ k hlt
        have hdg := hD2.dg_ k hlt
        have hfi := hD2.first_ k hlt
        clear hD2
        go_wp2_with fail
        refine (tell_any g t (dg k) _ hAt).mono ?_
        rintro e w2 ⟨rfl, hA2, hx2⟩
        have own2 := own_kept hown hx2 (fun g' cs hb he => Blk.ne_ hAt (he ▸ hb) (by decide) rfl)
        have hxw : Ext w w2 := hx.trans' hx2 HNO.out
        rcases askedE_cases t 0 false with ⟨e0, _⟩ | e0 | e0
        · rw [e0]
          have HE3 := Lib.hid ((HE.out.tell (dg k)).1 e0)
          have hD2 := HD.out.keep hxw
          have hhas2 := hD2.has_ k hlt
          have hdg2 := hD2.dg_ k hlt
          clear hD2
          have hsz2 : w.heap.size ≤ w2.heap.size := hxw.size
          go_upto_region 12 with (fail)
          go_step
          iterate 7 (refine wpList_step (fun K hK => ?_); go_simp; (try go_bits); refine hK _ _ ?_; clear hK K)
          refine wpList_append_own _ rfl (.tmp 67) (.tmp 73) 40 rfl w.heap.size 28 i0 _ 8 8 Try.underlying40 HI.out HZ.out HZ1.out HZ2.out rfl (by decide) _ ds.length (flatD ds) rfl (own2.alloc _) ⟨w2.heap.size, 0, none⟩ 1 1 (dg k).cells.toList rfl rfl (new_cells _ _ _) (flatL_all rfl) (by simp only [maxLen]; omega) (by omega) (by simp; omega) ?_
          intro v3 w3 own3 hg3 _
          go_wp2_with fail
          have hbk : ∀ x, (u8 : Value).ownBlock = some x → w.heap.size ≤ x ∧ x ≠ g := fun x hx' => by
            obtain ⟨h1, cs, h2⟩ := own_block own2 hx'
            exact ⟨h1, fun e => Blk.ne_ hA2 (e ▸ h2) (by decide) rfl⟩
          have hA3 : At w3 g (tellT t (dg k)) := (hg3.block g (by have := Blk.lt hA2; simp; omega) (fun e => (hbk g e.symm).2 rfl)).trans (Blk.alloc hA2 _)
          have hx3 : Ext w w3 := (hxw.alloc _).grownBy hg3 (fun x hx' hlt' => by have := (hbk x hx').1; omega)
          obtain ⟨ds3, h03, hd3, hE3, own4⟩ : ∃ ds3 : List Dg, 0 < ds3.length ∧ ds3.length ≤ 2 + (k + 1) ∧ SInv (d % 21).toNat (tellT t (dg k)) ds3 ∧ w3.ownsRow w.heap.size 28 8 v3 ds3.length (flatD ds3) := by
            refine ⟨ds ++ [dg k], by simp, by simp; omega, HE3.out, ?_⟩
            have e1 : flatD (ds ++ [dg k]) = flatD ds ++ (dg k).cells.toList := by simp [flatD]
            rw [e1, List.length_append]; exact own3
          clear own3 HE3
          have own3 := own4
          have HE3 := Lib.hid hE3
          clear own4 hE3
          clear hbk
          have hb3 := HE3.out.bounds
          have hr3 := HE3.out.rem
          have ha3 := HE3.out.and_ (by omega)
          have hs3 : (tellT t (dg k)).steps ≤ 1048576 := by omega
          have hu3 := HE3.out.2.1
          have qa : (Go.bits .and .i64 (tellT t (dg k)).steps ((tellT t (dg k)).steps - 1) != 0) = false := by simp [ha3]
          have qr : ((tellT t (dg k)).from_ % (tellT t (dg k)).steps != 0) = false := by simp [hr3]
          clear hr3 ha3
          have hf3 : (tellT t (dg k)).from_ ≤ 1048576 := by omega
          have hf4 : 0 ≤ (tellT t (dg k)).from_ := by omega
          have hs4 : 1 ≤ (tellT t (dg k)).steps := by omega
          have hs5 : ¬ (tellT t (dg k)).steps = 0 := by omega
          clear hb3
          refine (span_any g (tellT t (dg k)) _ hA3).mono ?_
          rintro e w4 ⟨rfl, hx4⟩
          obtain ⟨gs, cps, rfl, hgs, hS3⟩ := Said.of_own own3 h03
          have hS4 := hS3.keep hx4
          have hp1 := hp.1
          have hp2 := hp.2
          go_wp2_with fail
          refine (was_any gs cps ds3 (tellT t (dg k)).before _ ((hS4.keep ((Kept.refl _ _).alloc _)).keep ((Kept.refl _ _).alloc _)) (by omega) ⟨_, HE3.out.2.2.2.1, dgEq_self _⟩).mono ?_
          rintro e w5 ⟨rfl, hx5⟩
          have b4 : Blk w5 (w4.heap.size + 1) 28 (tellT t (dg k)).after.cells := Blk.ext (Blk.new' _ _ _ _ (by simp)) hx5
          have hh4 := Blk.has b4
          have hg4 := Blk.gets b4
          go_wp2_with fail
          refine (was_any gs cps ds3 (tellT t (dg k)).after _ (((hS4.keep ((Kept.refl _ _).alloc _)).keep ((Kept.refl _ _).alloc _)).keep hx5) (by omega) ⟨_, HE3.out.2.2.2.2.1, dgEq_self _⟩).mono ?_
          rintro e w6 ⟨rfl, hx6⟩
          go_wp2_with fail
          have hX : Ext w3 w6 := (((hx4.alloc _).alloc _).trans hx5).trans hx6
          go_roundw
          case rel => exact ⟨k + 1, _, ds3, by omega, by go_num, h03, hd3, HE3.out, Blk.ext hA3 hX, own_kept own3 hX (fun _ _ _ h => h), hx3.trans hX⟩
          case measure => (simp only [intOf]; omega)
        all_goals
          rw [e0]
          have HE3 := Lib.hid ((HE.out.tell (dg k)).2 (by omega))
          have h03 := hds0
          have hd3 : ds.length ≤ 2 + (k + 1) := by omega
          obtain ⟨w3, rfl⟩ : ∃ w3, w3 = w2 := ⟨_, rfl⟩
          have own3 := own2
          have hA3 := hA2
          have hx3 := hxw
          go_wp2_with fail
          have hb3 := HE3.out.bounds
          have hr3 := HE3.out.rem
          have ha3 := HE3.out.and_ (by omega)
          have hs3 : (tellT t (dg k)).steps ≤ 1048576 := by omega
          have hu3 := HE3.out.2.1
          have qa : (Go.bits .and .i64 (tellT t (dg k)).steps ((tellT t (dg k)).steps - 1) != 0) = false := by simp [ha3]
          have qr : ((tellT t (dg k)).from_ % (tellT t (dg k)).steps != 0) = false := by simp [hr3]
          clear hr3 ha3
          have hf3 : (tellT t (dg k)).from_ ≤ 1048576 := by omega
          have hf4 : 0 ≤ (tellT t (dg k)).from_ := by omega
          have hs4 : 1 ≤ (tellT t (dg k)).steps := by omega
          have hs5 : ¬ (tellT t (dg k)).steps = 0 := by omega
          clear hb3
          refine (span_any g (tellT t (dg k)) _ hA3).mono ?_
          rintro e w4 ⟨rfl, hx4⟩
          obtain ⟨gs, cps, rfl, hgs, hS3⟩ := Said.of_own own3 h03
          have hS4 := hS3.keep hx4
          have hp1 := hp.1
          have hp2 := hp.2
          go_wp2_with fail
          refine (was_any gs cps ds (tellT t (dg k)).before _ ((hS4.keep ((Kept.refl _ _).alloc _)).keep ((Kept.refl _ _).alloc _)) (by omega) ⟨_, HE3.out.2.2.2.1, dgEq_self _⟩).mono ?_
          rintro e w5 ⟨rfl, hx5⟩
          have b4 : Blk w5 (w4.heap.size + 1) 28 (tellT t (dg k)).after.cells := Blk.ext (Blk.new' _ _ _ _ (by simp)) hx5
          have hh4 := Blk.has b4
          have hg4 := Blk.gets b4
          go_wp2_with fail
          refine (was_any gs cps ds (tellT t (dg k)).after _ (((hS4.keep ((Kept.refl _ _).alloc _)).keep ((Kept.refl _ _).alloc _)).keep hx5) (by omega) ⟨_, HE3.out.2.2.2.2.1, dgEq_self _⟩).mono ?_
          rintro e w6 ⟨rfl, hx6⟩
          go_wp2_with fail
          have hX : Ext w3 w6 := (((hx4.alloc _).alloc _).trans hx5).trans hx6
          go_roundw
          case rel => exact ⟨k + 1, _, ds, by omega, by go_num, h03, hd3, HE3.out, Blk.ext hA3 hX, own_kept own3 hX (fun _ _ _ h => h), hx3.trans hX⟩
          case measure => (simp only [intOf]; omega)
      · by_cases h1 : what k % 4 = 1
        · have q0 : (what k % 4 == 0) = false := by simp; omega
          have q1 : (what k % 4 == 1) = true := by simpa using h1
          clear h0 h1
          have hD2 := HD.out.keep hx
          have hwh := hD2.what_ k hlt
          have hhas := hD2.has_ k hlt
          have hdg := hD2.dg_ k hlt
          have hfi := hD2.first_ k hlt
          clear hD2
          go_wp2_with fail
          refine (choose_any g t (first k) _ hAt (by omega) (by omega) (by omega) (by omega)).mono ?_
          rintro e w3 ⟨rfl, hA3, hx3⟩
          have own3 := own_kept hown hx3 (fun g' cs hb he => Blk.ne_ hAt (he ▸ hb) (by decide) rfl)
          replace hx3 : Ext w w3 := hx.trans' hx3 HNO.out
          have HE3 := Lib.hid (HE.out.choose (first k))
          have h03 := hds0
          have hd3 : ds.length ≤ 2 + (k + 1) := by omega
          go_wp2_with fail
          have hb3 := HE3.out.bounds
          have hr3 := HE3.out.rem
          have ha3 := HE3.out.and_ (by omega)
          have hs3 : (chooseT t (first k)).steps ≤ 1048576 := by omega
          have hu3 := HE3.out.2.1
          have qa : (Go.bits .and .i64 (chooseT t (first k)).steps ((chooseT t (first k)).steps - 1) != 0) = false := by simp [ha3]
          have qr : ((chooseT t (first k)).from_ % (chooseT t (first k)).steps != 0) = false := by simp [hr3]
          clear hr3 ha3
          have hf3 : (chooseT t (first k)).from_ ≤ 1048576 := by omega
          have hf4 : 0 ≤ (chooseT t (first k)).from_ := by omega
          have hs4 : 1 ≤ (chooseT t (first k)).steps := by omega
          have hs5 : ¬ (chooseT t (first k)).steps = 0 := by omega
          clear hb3
          refine (span_any g (chooseT t (first k)) _ hA3).mono ?_
          rintro e w4 ⟨rfl, hx4⟩
          obtain ⟨gs, cps, rfl, hgs, hS3⟩ := Said.of_own own3 h03
          have hS4 := hS3.keep hx4
          have hp1 := hp.1
          have hp2 := hp.2
          go_wp2_with fail
          refine (was_any gs cps ds (chooseT t (first k)).before _ ((hS4.keep ((Kept.refl _ _).alloc _)).keep ((Kept.refl _ _).alloc _)) (by omega) ⟨_, HE3.out.2.2.2.1, dgEq_self _⟩).mono ?_
          rintro e w5 ⟨rfl, hx5⟩
          have b4 : Blk w5 (w4.heap.size + 1) 28 (chooseT t (first k)).after.cells := Blk.ext (Blk.new' _ _ _ _ (by simp)) hx5
          have hh4 := Blk.has b4
          have hg4 := Blk.gets b4
          go_wp2_with fail
          refine (was_any gs cps ds (chooseT t (first k)).after _ (((hS4.keep ((Kept.refl _ _).alloc _)).keep ((Kept.refl _ _).alloc _)).keep hx5) (by omega) ⟨_, HE3.out.2.2.2.2.1, dgEq_self _⟩).mono ?_
          rintro e w6 ⟨rfl, hx6⟩
          go_wp2_with fail
          have hX : Ext w3 w6 := (((hx4.alloc _).alloc _).trans hx5).trans hx6
          go_roundw
          case rel => exact ⟨k + 1, _, ds, by omega, by go_num, h03, hd3, HE3.out, Blk.ext hA3 hX, own_kept own3 hX (fun _ _ _ h => h), hx3.trans hX⟩
          case measure => (simp only [intOf]; omega)
        · have q0 : (what k % 4 == 0) = false := by simp; omega
          have q1 : (what k % 4 == 1) = false := by simp; omega
          clear h0 h1
          obtain ⟨w3, rfl⟩ : ∃ w3, w3 = wr := ⟨_, rfl⟩
          have own3 := hown
          have hA3 := hAt
          have hx3 := hx
          have HE3 := HE
          have h03 := hds0
          have hd3 : ds.length ≤ 2 + (k + 1) := by omega
          have hD2 := HD.out.keep hx
          have hwh := hD2.what_ k hlt
          have hhas := hD2.has_ k hlt
          have hdg := hD2.dg_ k hlt
          have hfi := hD2.first_ k hlt
          clear hD2
          go_wp2_with fail
          have hb3 := HE3.out.bounds
          have hr3 := HE3.out.rem
          have ha3 := HE3.out.and_ (by omega)
          have hs3 : (t).steps ≤ 1048576 := by omega
          have hu3 := HE3.out.2.1
          have qa : (Go.bits .and .i64 (t).steps ((t).steps - 1) != 0) = false := by simp [ha3]
          have qr : ((t).from_ % (t).steps != 0) = false := by simp [hr3]
          clear hr3 ha3
          have hf3 : (t).from_ ≤ 1048576 := by omega
          have hf4 : 0 ≤ (t).from_ := by omega
          have hs4 : 1 ≤ (t).steps := by omega
          have hs5 : ¬ (t).steps = 0 := by omega
          clear hb3
          refine (span_any g t _ hA3).mono ?_
          rintro e w4 ⟨rfl, hx4⟩
          obtain ⟨gs, cps, rfl, hgs, hS3⟩ := Said.of_own own3 h03
          have hS4 := hS3.keep hx4
          have hp1 := hp.1
          have hp2 := hp.2
          go_wp2_with fail
          refine (was_any gs cps ds (t).before _ ((hS4.keep ((Kept.refl _ _).alloc _)).keep ((Kept.refl _ _).alloc _)) (by omega) ⟨_, HE3.out.2.2.2.1, dgEq_self _⟩).mono ?_
          rintro e w5 ⟨rfl, hx5⟩
          have b4 : Blk w5 (w4.heap.size + 1) 28 (t).after.cells := Blk.ext (Blk.new' _ _ _ _ (by simp)) hx5
          have hh4 := Blk.has b4
          have hg4 := Blk.gets b4
          go_wp2_with fail
          refine (was_any gs cps ds (t).after _ (((hS4.keep ((Kept.refl _ _).alloc _)).keep ((Kept.refl _ _).alloc _)).keep hx5) (by omega) ⟨_, HE3.out.2.2.2.2.1, dgEq_self _⟩).mono ?_
          rintro e w6 ⟨rfl, hx6⟩
          go_wp2_with fail
          have hX : Ext w3 w6 := (((hx4.alloc _).alloc _).trans hx5).trans hx6
          go_roundw
          case rel => exact ⟨k + 1, _, ds, by omega, by go_num, h03, hd3, HE3.out, Blk.ext hA3 hX, own_kept own3 hX (fun _ _ _ h => h), hx3.trans hX⟩
          case measure => (simp only [intOf]; omega)
    · go_wp2_with fail
      refine (told_any _).mono ?_
      rintro e w3 ⟨rfl, hx3⟩
      go_wp2_with fail
      go_ret
      exact ⟨rfl, hx.trans hx3⟩
end Go.Proofs.Ytbijcmmlgekmiaa
