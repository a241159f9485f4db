/- Package octet: PutNum, PutInt; witness: putInstr, instrLeaf. -/
import Derived.Test.YtahljceanodhkaaGreatDoorPa
namespace Go.Proofs.YtahljceanodhkaaGreatDoor
open Go.RowKit
/-- what hands back bytes of its own, of any number -/
def OwnsB (w w' : World) (e : Ending) (k : Nat) (l : List Int) : Prop :=
  ∃ v, e = .returned v ∧ w'.ownsRow w.heap.size 5 1 v k (byts l) ∧ Ext w w'
set_option maxRecDepth 100000 in
set_option maxHeartbeats 1000000 in
theorem putnum_any (base : Nat) (v : Value) (k : Nat) (xs : List Int) (n : Nat) (m : Nat) (w : World) (hm : m = k + (vint n).length) (hn : n < 18446744073709551616) (hown : w.ownsRow base 5 1 v k (byts xs)) (hk : k ≤ 1000) :
    Calls Tryz.prog 94 #[v, .int .u64 n] w fun e w' => OwnsB w w' e m (xs ++ vint n) := by
  have HM := Lib.hid hm
  have HN := Lib.hid hn
  have HO := Lib.hid hown
  clear hm hn hown
  go_enter Tryz.func94, Tryz.ntmps94
  go_wp2_with fail
  refine (fresh_any base v k xs 10 w HO.out hk (by omega)).mono ?_
  rintro e w1 ⟨v1, rfl, ho1, hx1⟩
  go_wp2_with fail
  refine (number_any w.heap.size v1 k xs n w1 HN.out ho1 hk hx1.size).mono ?_
  rintro e w2 ⟨v2, m2, rfl, rfl, ho2, hk2⟩
  go_wp2_with fail
  go_ret
  rw [← HM.out] at ho2
  exact ⟨_, rfl, ho2, hx1.trans' hk2 (fun i hi h => by omega)⟩
theorem i64_notneg (n : Int) (h : n < 0) (h0 : -9223372036854775808 ≤ n) : bits .xor .i64 (-1) n = -(n + 1) := by
  show IntKind.i64.wrap ((BitVec.ofInt 64 (-1) ^^^ BitVec.ofInt 64 n).toNat : Int) = _
  have h1 : BitVec.ofInt 64 (-1) = BitVec.allOnes 64 := by decide
  rw [h1, BitVec.allOnes_xor, BitVec.toNat_not, BitVec.toNat_ofInt]
  simp [IntKind.wrap, IntKind.bits, IntKind.signed]
  omega
theorem or1_u64 (x : Nat) (h : 2 * x + 1 < 18446744073709551616) : bits .or .u64 (2 * (x : Int)) 1 = 2 * (x : Int) + 1 := by
  have := u64_or_nat (2 * x) 1 (by omega) (by omega)
  have e : 2 * x ||| 1 = 2 * x + 1 := by
    have := Nat.two_pow_add_eq_or_of_lt (show 1 < 2 ^ 1 by decide) x
    rw [Nat.pow_one] at this
    exact this.symm
  rw [e] at this
  simpa using this
theorem put_neg (n : Int) (h : n < 0) (h0 : -9223372036854775808 ≤ n) : bits .or .u64 (IntKind.u64.wrap (IntKind.u64.wrap (bits .xor .i64 (-1) n) * 2)) 1 = ((foldN n : Nat) : Int) := by
  rw [i64_notneg n h h0, u64_in (x := -(n + 1)) (by omega) (by omega), u64_in (by omega) (by omega)]
  obtain ⟨x, hx⟩ : ∃ x : Nat, -(n + 1) = x := ⟨(-(n + 1)).toNat, by omega⟩
  rw [hx, Int.mul_comm, or1_u64 x (by omega)]
  unfold foldN
  rw [if_pos h]
  omega
set_option maxRecDepth 100000 in
set_option maxHeartbeats 1000000 in
theorem putint_any (base : Nat) (v : Value) (k : Nat) (xs : List Int) (n : Int) (m : Nat) (w : World) (hm : m = k + (vint (foldN n)).length) (h0 : -9223372036854775808 ≤ n) (h1 : n ≤ 9223372036854775807) (hown : w.ownsRow base 5 1 v k (byts xs)) (hk : k ≤ 1000) :
    Calls Tryz.prog 93 #[v, .int .i64 n] w fun e w' => OwnsB w w' e m (xs ++ vint (foldN n)) := by
  have HM := Lib.hid hm
  have HO := Lib.hid hown
  have HF := Lib.hid (foldN_lt h0 h1)
  clear hm hown
  by_cases hneg : n < 0
  · go_enter Tryz.func93, Tryz.ntmps93
    go_wp2_with fail
    rw [put_neg n hneg h0]
    refine (putnum_any base v k xs (foldN n) m w HM.out HF.out HO.out hk).mono ?_
    rintro e w1 ⟨v1, rfl, ho1, hx1⟩
    go_wp2_with fail
    go_ret
    exact ⟨_, rfl, ho1, hx1⟩
  · have hf : n * 2 = ((foldN n : Nat) : Int) := by unfold foldN; rw [if_neg hneg]; omega
    have HE := Lib.hid hf
    clear hf
    go_enter Tryz.func93, Tryz.ntmps93
    go_wp2_with fail
    rw [show Value.int IntKind.u64 _ = Value.int IntKind.u64 ((foldN n : Nat) : Int) by rw [← HE.out]]
    refine (putnum_any base v k xs (foldN n) m w HM.out HF.out HO.out hk).mono ?_
    rintro e w1 ⟨v1, rfl, ho1, hx1⟩
    go_wp2_with fail
    go_ret
    exact ⟨_, rfl, ho1, hx1⟩
end Go.Proofs.YtahljceanodhkaaGreatDoor
