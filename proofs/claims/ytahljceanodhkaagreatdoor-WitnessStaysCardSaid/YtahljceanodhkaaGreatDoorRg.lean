/- Package baizeref01: a number's bytes; baizeref22: signed. -/
import Derived.Test.YtahljceanodhkaaGreatDoorRf
namespace Go.Proofs.YtahljceanodhkaaGreatDoor
open Go.RowKit
def vint (n : Nat) : List Int := if n < 128 then [(n : Int)] else (128 + (n : Int) % 128) :: vint (n / 128)
termination_by n
decreasing_by omega
theorem vint_small {n : Nat} (h : n < 128) : vint n = [(n : Int)] := by rw [vint, if_pos h]
theorem vint_big {n : Nat} (h : ¬ n < 128) : vint n = (128 + (n : Int) % 128) :: vint (n / 128) := by rw [vint, if_neg h]
theorem vint_len : ∀ (k n : Nat), n < 128 ^ k → 1 ≤ k → (vint n).length ≤ k
  | 0, _, _, h => by omega
  | k + 1, n, hn, _ => by
    by_cases h : n < 128
    · rw [vint_small h]; simp
    · rw [vint_big h]
      have hk : 1 ≤ k := by
        rcases Nat.eq_zero_or_pos k with h0 | h0
        · subst h0; simp at hn; omega
        · exact h0
      have := vint_len k (n / 128) (by rw [Nat.pow_succ] at hn; omega) hk
      simp; omega
theorem vint_pos (n : Nat) : 0 < (vint n).length := by
  by_cases h : n < 128
  · rw [vint_small h]; simp
  · rw [vint_big h]; simp
theorem vint_ok (n : Nat) : BytesOk (vint n) := by
  induction n using Nat.strongRecOn with
  | _ n ih =>
    by_cases h : n < 128
    · rw [vint_small h]; intro x hx; simp at hx; subst hx; omega
    · rw [vint_big h]
      intro x hx
      rcases List.mem_cons.1 hx with rfl | hx
      · omega
      · exact ih _ (by omega) x hx
/-- what hands back bytes of its own -/
def OwnsBytes (w w' : World) (e : Ending) (l : List Int) : Prop :=
  ∃ g c, e = .returned (.slice (some ⟨g, 0, none⟩) l.length c) ∧ w'.ownsRow w.heap.size 5 1 (.slice (some ⟨g, 0, none⟩) l.length c) l.length (byts l) ∧ Ext w w'
set_option maxRecDepth 100000 in
set_option maxHeartbeats 1000000 in
theorem rnum01_any (n : Nat) (hn : n < 18446744073709551616) (w : World) : Calls Tryz.prog 103 #[.int .u64 n] w fun e w' => OwnsBytes w w' e (vint n) := by
  have hlen : (vint n).length ≤ 10 := vint_len 10 n (by omega) (by omega)
  have HL := Lib.hid hlen
  have HB := Lib.hid hn
  clear hlen hn
  go_enter Tryz.func103, Tryz.ntmps103
  go_wp2_with fail
  go_loopw [0, 3] (fun t0 t3 wr => ∃ (m : Nat) (done : List Int), Hid (m ≤ n) ∧ t0 = .int .u64 m ∧ Hid (done ++ vint m = vint n) ∧ wr.ownsRow w.heap.size 5 1 t3 done.length (byts done) ∧ Ext w wr) (fun t0 _ _ => (intOf t0).toNat)
  case atStart => exact ⟨n, [], Nat.le_refl _, rfl, rfl, World.ownsRow_nil _ _ _ _, Kept.refl _ _⟩
  case round =>
    obtain ⟨m, done, hmn, rfl, hd, ho, hx⟩ := hrel
    have hdl : done.length + (vint m).length ≤ 10 := by have h := congrArg List.length hd.out; simp at h; have := HL.out; omega
    have hvp := vint_pos m
    have hob : ∀ i, i < w.heap.size → (u3 : Value).ownBlock = some i → False := fun i hi e => by have := (ho.lt i e).1; omega
    have HOB := Lib.hid hob
    clear hob
    by_cases hlt : m < 128
    · have hq : decide ((128 : Int) ≤ m) = false := by simp; omega
      obtain ⟨v2, w2, hr2, ho2, hk2⟩ := appB (wr.alloc (.cells #[.int .u8 (m : Int)] 5)) _ _ _ done (ho.alloc _) wr.heap.size 0 1 1 [(m : Int)] rfl (Row.of_blk (Blk.new wr _ _)) (by omega) (by have := hx.size; simp; omega)
      go_upto_region 5 with (fail)
      go_step
      iterate 4 (refine wpList_step (fun K hK => ?_); go_simp; (try go_bits); refine hK _ _ ?_; clear hK K)
      refine wpList_app rfl (.tmp 15) (.tmp 18) 95 rfl rfl rfl rfl hr2 ?_
      clear hr2
      go_wp2_with fail
      go_ret
      have hv : done ++ [(m : Int)] = vint n := by rw [← hd.out, vint_small hlt]
      rw [hv, show done.length + 1 = (vint n).length by rw [← hv]; simp] at ho2
      obtain ⟨g, c, hvv, _⟩ := own_some ho2 (vint_pos n)
      subst hvv
      exact ⟨g, c, rfl, ho2, (hx.alloc _).trans' hk2 HOB.out⟩
    · have hq : decide ((128 : Int) ≤ m) = true := by simp; omega
      have hm64 : (m : Int) < 18446744073709551616 := by have := HB.out; have := hmn.out; omega
      obtain ⟨v2, w2, hr2, ho2, hk2⟩ := appB (wr.alloc (.cells #[.int .u8 (128 + (m : Int) % 128)] 5)) _ _ _ done (ho.alloc _) wr.heap.size 0 1 1 [128 + (m : Int) % 128] rfl (Row.of_blk (Blk.new wr _ _)) (by omega) (by have := hx.size; simp; omega)
      have hk2' : Ext w w2 := (hx.alloc _).trans' hk2 HOB.out
      go_upto_region 3 with (fail)
      go_step
      iterate 6 (refine wpList_step (fun K hK => ?_); go_simp; (try go_bits); refine hK _ _ ?_; clear hK K)
      refine wpList_app rfl (.tmp 6) (.tmp 11) 95 rfl rfl rfl rfl hr2 ?_
      clear hr2 ho
      go_wp2_with fail
      go_roundw
      case rel => exact ⟨m / 128, done ++ [128 + (m : Int) % 128], by show _ ≤ _; have := hmn.out; omega, by go_num, by show _ = _; rw [← hd.out, vint_big hlt]; simp, by rw [List.length_append]; exact ho2, hk2'⟩
      case measure => simp only [intOf]; omega
end Go.Proofs.YtahljceanodhkaaGreatDoor
