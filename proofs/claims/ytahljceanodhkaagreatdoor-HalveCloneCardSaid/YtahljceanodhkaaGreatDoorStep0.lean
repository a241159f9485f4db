/- A step that shows nothing is out of range; a trial's Prove by what Check answers. -/
import Derived.Test.YtahljceanodhkaaGreatDoorRefd
namespace Go.Proofs.YtahljceanodhkaaGreatDoor
open Go.RowKit
abbrev zeroStep : Array Value := #[.int .i64 0, .int .i64 0, .int .i64 0, .int .u8 0, .int .u8 0, .int .u8 0, .int .u8 0, .int .u8 0, .int .u8 0, .int .u8 0, .int .u8 0, .int .i64 0, .int .i64 0, .int .i64 0, .int .i64 0, .slice none 0 0, .slice none 0 0, .slice none 0 0]
attribute [go_sem] zeroStep
set_option maxHeartbeats 400000 in
theorem right0 (w : World) : Calls Tryz.prog 78 #[.agg zeroStep] w fun e w' => e = .returned (.bool false) ∧ Ext w w' := by
  go_enter Tryz.func78, Tryz.ntmps78
  go_wp2
  go_ret
  refine ⟨rfl, ?_⟩
  ((repeat' (with_reducible (first | apply Kept.drew | apply Kept.drewN | apply Kept.alloc | apply Kept.setCell | apply Kept.putAt | exact Kept.refl _ _))) <;> (intro hlt; first | rfl | (simp at hlt; done) | (exfalso; simp at hlt; omega) | omega))
set_option maxHeartbeats 400000 in
theorem after0 (p a : Dg) (sz : Int) (w : World) (h0 : 1 ≤ sz) (h1 : sz ≤ 2048) : Calls Tryz.prog 37 #[.agg #[.int .u8 p.x0, .int .u8 p.x1, .int .u8 p.x2, .int .u8 p.x3, .int .u8 p.x4, .int .u8 p.x5, .int .u8 p.x6, .int .u8 p.x7], .int .i64 sz, .agg #[.int .u8 a.x0, .int .u8 a.x1, .int .u8 a.x2, .int .u8 a.x3, .int .u8 a.x4, .int .u8 a.x5, .int .u8 a.x6, .int .u8 a.x7], .agg zeroStep] w fun e w' => e = .returned (.tuple #[.agg Dg.zero.cells, .int .i64 2]) ∧ Ext w w' := by
  go_enter Tryz.func37, Tryz.ntmps37
  go_wp2_with fail
  refine (right0 _).mono ?_
  rintro e w1 ⟨rfl, hx1⟩
  have b3 : Blk w1 (w.heap.size + 1 + 1 + 1) 30 Dg.zero.cells := Blk.ext (Blk.new' _ _ _ _ (by simp)) hx1
  have hh3 := Blk.has b3
  have hm3 := Blk.melts b3
  go_wp2
  refine ret_ci Tryz.results37 rfl rfl aggDig (by exact sizeDig) (Blk.put_ b3 _ _) ⟨rfl, ?_⟩
  have k1 : Ext w w1 := ((((Kept.refl _ w).alloc _).alloc _).alloc _).alloc _ |>.trans hx1
  exact Kept.putAt k1 _ _ _ (fun h => by omega)
set_option maxHeartbeats 400000 in
theorem check0 (p a z : Dg) (sz : Int) (w : World) (h0 : 1 ≤ sz) (h1 : sz ≤ 2048) : Calls Tryz.prog 42 #[.agg #[.int .u8 p.x0, .int .u8 p.x1, .int .u8 p.x2, .int .u8 p.x3, .int .u8 p.x4, .int .u8 p.x5, .int .u8 p.x6, .int .u8 p.x7], .int .i64 sz, .agg #[.int .u8 a.x0, .int .u8 a.x1, .int .u8 a.x2, .int .u8 a.x3, .int .u8 a.x4, .int .u8 a.x5, .int .u8 a.x6, .int .u8 a.x7], .agg #[.int .u8 z.x0, .int .u8 z.x1, .int .u8 z.x2, .int .u8 z.x3, .int .u8 z.x4, .int .u8 z.x5, .int .u8 z.x6, .int .u8 z.x7], .agg zeroStep] w fun e w' => e = .returned (.int .i64 2) ∧ Ext w w' := by
  go_enter Tryz.func42, Tryz.ntmps42
  go_wp2_with fail
  refine (after0 p a sz _ h0 h1).mono ?_
  rintro e w1 ⟨rfl, hx1⟩
  go_wp2
  go_ret
  refine ⟨rfl, ?_⟩
  exact (((((Kept.refl _ w).alloc _).alloc _).alloc _).alloc _ |>.trans hx1).alloc _
def proveE (t : Tr) (e : Int) : Int := if askedE t 0 true = 0 then e else askedE t 0 true
def proveT (t : Tr) (e : Int) : Tr := if askedE t 0 true = 0 ∧ e = 0 then { t with turn := -1, winner := 0 } else t
set_option maxRecDepth 100000 in
set_option maxHeartbeats 1000000 in
theorem prove_ask (b : Nat) (t : Tr) (cs : Array Value) (e0 : Int) (w : World) (ht : At w b t) (hcs : (cs.toList.take 18).toArray = cs) (hn : 18 ≤ cs.size) (ha : askedE t 0 true = 0)
    (hk : ∀ w', Ext w w' → Calls Tryz.prog 42 #[.agg #[.int .u8 t.program.x0, .int .u8 t.program.x1, .int .u8 t.program.x2, .int .u8 t.program.x3, .int .u8 t.program.x4, .int .u8 t.program.x5, .int .u8 t.program.x6, .int .u8 t.program.x7], .int .i64 t.size, .agg #[.int .u8 t.before.x0, .int .u8 t.before.x1, .int .u8 t.before.x2, .int .u8 t.before.x3, .int .u8 t.before.x4, .int .u8 t.before.x5, .int .u8 t.before.x6, .int .u8 t.before.x7], .agg #[.int .u8 t.after.x0, .int .u8 t.after.x1, .int .u8 t.after.x2, .int .u8 t.after.x3, .int .u8 t.after.x4, .int .u8 t.after.x5, .int .u8 t.after.x6, .int .u8 t.after.x7], .agg cs] w' fun e w'' => e = .returned (.int .i64 e0) ∧ Ext w' w'') :
    Calls Tryz.prog 21 #[.pointer (some ⟨b, 0, none⟩), .agg cs] w fun e w' => e = .returned (.int .i64 e0) ∧ At w' b (proveT t e0) ∧ Kept (· = b) w w' := by
  have HK := Lib.hid hk
  clear hk
  have hbl := Blk.lt ht
  obtain ⟨t', ht'⟩ : ∃ t', proveT t e0 = t' := ⟨_, rfl⟩
  rw [ht']
  have HT := Lib.hid ht'
  clear ht'
  go_enter Tryz.func21, Tryz.ntmps21
  go_wp2_with (go_at_call 57; refine (asked_any b t _ _ _ (Blk.alloc ht _)).mono ?_; rintro e w' ⟨rfl, rfl⟩)
  have hc1 := Blk.alloc ht (.cells cs 45)
  have hd1 := Blk.new w 45 cs
  refine wp_region_tx (fun w' => Ext (w.alloc (.cells cs 45)) w') [true, true, true, true, true, true, true, true, true, true, true, true, true, true, true, true, true, true, true, false, false] (by kernel_rfl) (by kernel_rfl) (by kernel_rfl) ?_
  (repeat (first | ((apply wpTx_take); (· exact (Kept.drew (Kept.refl _ _))); (· go_simp); (· (intro w1 hS; have c1 := Blk.ext hc1 hS; have d1 := Blk.ext hd1 hS; have hh := Blk.has c1; have hg := Blk.gets c1; have hcc := Blk.cell c1; have hhd := Blk.has d1; have hgd := Blk.gets d1;  go_simp; try with_reducible rfl)); (intro K hK; go_simp; refine hK _ _ ?_; clear hK K)) | ((apply wpTx_pass); (· exact (Kept.drew (Kept.refl _ _))); (· go_simp); (intro K hK; go_simp; refine hK _ _ ?_; clear hK K))))
  (refine wpTx_act (fun K hK => ?_); go_simp)
  go_wp2_with fail
  refine (HK.out _ (((Kept.refl _ w).alloc _).drew)).mono ?_
  rintro e w2 ⟨rfl, hx2⟩
  have hx2' : Ext (w.alloc (.cells cs 45)) w2 := ((Kept.refl _ _).drew).trans hx2
  refine hK.out _ _ hx2' (fun _ => ?_)
  clear hK K
  (repeat (refine wpTx_end (by kernel_rfl) (fun K hK => ?_); go_simp; refine hK.out _ _ ?_; clear hK K)); refine wpTx_nil ?_
  have hA2 : At w2 b t := Blk.ext hc1 hx2'
  have hx3 : Kept (· = b) w w2 := Kept.ext (((Kept.refl _ w).alloc _).trans hx2')
  by_cases he : e0 = 0
  · subst he
    have HT2 := Lib.hid (HT.out.symm.trans (if_pos ⟨ha, rfl⟩))
    go_wp2_with (go_at_call 60; refine (wins_any b t _ _ hA2).mono ?_; rintro e w' ⟨rfl, hA, hK⟩)
    go_ret
    exact ⟨rfl, HT2.out ▸ hA, hx3.trans hK⟩
  · have HT2 := Lib.hid (HT.out.symm.trans (if_neg (fun h => he h.2)))
    have he' : (e0 != 0) = true := by simpa using he
    clear he
    go_wp2_with fail
    go_ret
    exact ⟨rfl, HT2.out ▸ hA2, hx3⟩
theorem prove_any (b : Nat) (t : Tr) (cs : Array Value) (e0 : Int) (w : World) (ht : At w b t) (hcs : (cs.toList.take 18).toArray = cs) (hn : 18 ≤ cs.size)
    (hk : ∀ w', Ext w w' → Calls Tryz.prog 42 #[.agg #[.int .u8 t.program.x0, .int .u8 t.program.x1, .int .u8 t.program.x2, .int .u8 t.program.x3, .int .u8 t.program.x4, .int .u8 t.program.x5, .int .u8 t.program.x6, .int .u8 t.program.x7], .int .i64 t.size, .agg #[.int .u8 t.before.x0, .int .u8 t.before.x1, .int .u8 t.before.x2, .int .u8 t.before.x3, .int .u8 t.before.x4, .int .u8 t.before.x5, .int .u8 t.before.x6, .int .u8 t.before.x7], .agg #[.int .u8 t.after.x0, .int .u8 t.after.x1, .int .u8 t.after.x2, .int .u8 t.after.x3, .int .u8 t.after.x4, .int .u8 t.after.x5, .int .u8 t.after.x6, .int .u8 t.after.x7], .agg cs] w' fun e w'' => e = .returned (.int .i64 e0) ∧ Ext w' w'') :
    Calls Tryz.prog 21 #[.pointer (some ⟨b, 0, none⟩), .agg cs] w fun e w' => e = .returned (.int .i64 (proveE t e0)) ∧ At w' b (proveT t e0) ∧ Kept (· = b) w w' := by
  unfold proveE
  by_cases h : askedE t 0 true = 0
  · rw [if_pos h]; exact prove_ask b t cs e0 w ht hcs hn h hk
  · rw [if_neg h, show proveT t e0 = t from if_neg (fun x => h x.1)]
    refine (prove_no b t cs w ht (by simpa using h)).mono ?_
    rintro e w' ⟨rfl, hx⟩
    exact ⟨rfl, Blk.ext ht hx, Kept.ext hx⟩
end Go.Proofs.YtahljceanodhkaaGreatDoor
