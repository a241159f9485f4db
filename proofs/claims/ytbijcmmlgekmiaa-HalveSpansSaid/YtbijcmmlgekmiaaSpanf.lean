/- HalveSpans: for every depth and every list of deeds the law answers true, and what came in reads as it did. No condition. -/
import Derived.Test.YtbijcmmlgekmiaaSpanl
namespace Go.Proofs.Ytbijcmmlgekmiaa.halveSpans
open Go.ChangeShapes Go.WideShapes Go.ChangeAt Go.RowKit

theorem own : ownKnob Try.prog.godebug = none := by kernel_rfl
theorem laidOut : laidOutB Try.prog = true := by kernel_rfl

set_option maxRecDepth 100000 in
set_option maxHeartbeats 1000000 in
theorem long (d : Int) (hd0 : 0 ≤ d) (hd1 : d ≤ 255) (A : Option Addr) (len cap : Nat) (w : World) (hl : 60 < len) (hm : len ≤ maxLen) :
    Calls Try.prog 4 #[.int .u8 d, .slice A len cap] w fun e w' => e = .returned (.bool true) ∧ Ext w w' := by
  unfold maxLen at hm
  go_enter Try.func4, Try.ntmps4
  go_wp2_with fail
  refine (new_ok (dg1 1) (dg1 2) (dg1 3) 7 _ ?_ ?_ (by decide) (by decide) _).mono ?_
  · omega
  · omega
  rintro e w1 ⟨g, hg, rfl, hA1, hx1⟩
  go_wp2_with fail
  refine (told_any _).mono ?_
  rintro e w2 ⟨rfl, hx2⟩
  go_wp2_with fail
  go_ret
  exact ⟨rfl, hx1.trans hx2⟩

set_option maxRecDepth 100000 in
theorem lifted (os : Os) (started : os.Started) (H : Type) (enc : TypeId × Value → H) :
    ReturnsInHanded {} Try.checked os 4 .any (Rows.halveSpansSpec.pre6 enc Try.prog Try.f4 Rows.halveSpansRow.domain false) (Rows.halveSpansSpec.post enc Try.prog Try.f4 false true false false) := by
  refine returnsInHanded_of_change (C := Try.checked) own started (by kernel_rfl) Try.func4
    (ChangeSpec.witness6 (enc := enc) (C := Try.checked) false ⟨#[], #[.int .u8 0, .slice none 0 0], []⟩ 8 (by kernel_rfl) (by kernel_rfl) (by kernel_rfl) (by kernel_rfl)) ?_
  intro W base args ds gs before hval0 hW hcnd _
  have hval : ∀ (j : Nat) t v, Try.f4.params[j]? = some t → args[j]? = some v → Value.okWide Try.prog W .any base t v := hval0
  have hW' := hW
  obtain ⟨p, q, hA0, hV, rfl, hfz, hnd⟩ := hW
  have hA : DataW.TrodAll enc Try.prog W 0 (fun _ => true) true Try.f4.params.toList args.toList ds p := hA0
  rw [Try.params4] at hA hval
  obtain ⟨v0, vs0, d0, ds0, p0, q0, hargs, rfl, rfl, h0, r0⟩ := trodAll_cons hA
  obtain ⟨v1, vs1, d1, ds1, p1, q1, rfl, rfl, rfl, h1, r1⟩ := trodAll_cons r0
  obtain ⟨rfl, rfl, rfl⟩ := trodAll_nil r1
  obtain rfl : args = #[v0, v1] := by cases args; simp_all
  obtain ⟨rfl, rfl⟩ := trodVars_none hV
  obtain ⟨a0, rfl, rfl, rfl, w0⟩ := open_int Try.underlying5 (hval 0 5 v0 rfl rfl) h0
  have k1 := h1
  have lt1 : ∀ x ∈ p1, x.block < W.heap.size := by obtain ⟨m, hm⟩ := k1; exact DataW.trod_lt m _ _ _ hm
  obtain ⟨A, len, cap, rfl⟩ := okWide_slice Try.underlying22 (hval 1 22 v1 rfl rfl)
  have hx : 0 ≤ a0 ∧ a0 ≤ 255 := by simpa [Lit.wf, IntKind.min, IntKind.max, IntKind.signed, IntKind.bits] using w0
  have hwalk : Calls Try.prog 4 #[.int .u8 a0, .slice A len cap] W fun e w' => e = .returned (.bool true) ∧ Ext W w' := by
    obtain ⟨fuel, hf⟩ := h1
    obtain ⟨A', b, off, len', cap', what, dg, first, e, hA', hD, hm⟩ := deeds_of hf
    simp at e
    obtain ⟨rfl, rfl, rfl⟩ := e
    by_cases hl : len ≤ 60
    · exact spans_walk a0 hx.1 hx.2 A b off len cap what dg first W hA' hD hl
    · exact long a0 hx.1 hx.2 A len cap W (by omega) hm
  clear hA0 hval0
  refine hwalk.mono fun e W' ⟨he, hk⟩ => ?_
  have bel := hk.below
  subst he
  exact ⟨_, rfl, _, _, _, [], _, [], hW', trodAll_mk1 (shut_bool Try.underlying4 _), (trodAll_cons_mk (shut_int Try.underlying5 w0) (trodAll_cons_mk (Below.trod laidOut (by kernel_rfl) (of_decide_eq_true (by kernel_rfl)) k1 bel lt1) trodAll_mk0)), rfl, bel.frame _, fun h => by cases h⟩

theorem over : Rows.halveSpansRow.holds Try.pinned (OpenSpec.ofChange Rows.halveSpansSpec) :=
  OpenClaim.holds_of_wide 4 Try.f4 rfl rfl rfl rfl rfl rfl rfl ⟨rfl, rfl, rfl, rfl, rfl⟩ rfl rfl rfl rfl rfl (by kernel_rfl) Try.func4 (by kernel_rfl)
    (of_decide_eq_true (by kernel_rfl)) (by unfold Func.isWrapper; first | (rw [if_pos (by decide +kernel)]; kernel_rfl) | (rw [if_neg (by decide +kernel)]; exact ⟨rfl, rfl⟩))
    (fun os started H enc _ => lifted os started H enc)

theorem proved : Rows.HalveSpansSaid := over
#print axioms proved
end Go.Proofs.Ytbijcmmlgekmiaa.halveSpans
