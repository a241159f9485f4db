/- Several texts joined: Ma, Mb, Mc, Md, Me, Mf, Mg, Mh, Ze, Zf, Mia. -/
import Derived.Test.YtahljceanodhkaaGreatDoorTte
/- Package code: is, has, three, right, Right. -/
namespace Go.Proofs.YtahljceanodhkaaGreatDoor
open Go.RowKit
/-- what an operation has, by its number -/
def hasN (k : Nat) : List UInt8 := match k with
  | 0 => [110] | 1 => [119, 110] | 2 => [119, 119] | 14 => [119, 119] | 17 => [119, 110, 110] | 18 => [119, 119, 110] | 19 => [112] | 20 => [112, 119] | 21 => [112, 119] | _ => [119, 119, 119]
def hasS (k : Nat) : ByteArray := ⟨(hasN k).toArray⟩
/-- the program's table of operations lies where it was laid -/
structure OpsAt (w : World) : Prop where
  lt : 0 < w.heap.size
  at_ : ∀ k, k < 22 → w.cell? ⟨0, k * 2 + 1, none⟩ = some (.string (hasS k))
theorem OpsAt.ext {w w' : World} (h : OpsAt w) (hx : Ext w w') : OpsAt w' :=
  ⟨Nat.lt_of_lt_of_le h.lt hx.size, fun k hk => (Kept.cell hx (p := ⟨0, k * 2 + 1, none⟩) h.lt (fun f => f)).trans (h.at_ k hk)⟩
theorem OpsAt.kept {S : Nat → Prop} {w w' : World} (h : OpsAt w) (hx : Kept S w w') (hs : ¬ S 0) : OpsAt w' :=
  ⟨Nat.lt_of_lt_of_le h.lt hx.size, fun k hk => (Kept.cell hx (p := ⟨0, k * 2 + 1, none⟩) h.lt hs).trans (h.at_ k hk)⟩
def isOp (op : Int) : Bool := decide (0 ≤ op) && decide (op < 22)
set_option maxHeartbeats 400000 in
theorem is_any (op : Int) (w : World) : Calls Tryz.prog 142 #[.int .i64 op] w fun e w' => e = .returned (.bool (isOp op)) ∧ w = w' := by
  go_enter Tryz.func142, Tryz.ntmps142
  go_wp2_with fail
  all_goals go_ret
  all_goals refine ⟨ret_bool ?_, rfl⟩
  all_goals (rw [Bool.eq_iff_iff]; simp [isOp]; omega)
def i32B (n : Int) : Bool := decide (-2147483648 ≤ n) && decide (n ≤ 2147483647)
set_option maxHeartbeats 400000 in
theorem cright_any (n : Int) (w : World) : Calls Tryz.prog 145 #[.int .i64 n] w fun e w' => e = .returned (.bool (i32B n)) ∧ w = w' := by
  go_enter Tryz.func145, Tryz.ntmps145
  go_wp2_with fail
  all_goals go_ret
  all_goals refine ⟨ret_bool ?_, rfl⟩
  all_goals (rw [Bool.eq_iff_iff]; simp [i32B]; omega)
theorem aggArr3 : aggT Tryz.prog 153 = true := by kernel_rfl
theorem sizeArr3 : sizeT Tryz.prog 153 = some 3 := by kernel_rfl
theorem wpLoadArr3 {dst : Option Tmp} {ty' : TypeId} {x : Operand} {pos : String} {after : Array Edge} {guard : Option (Nat × Bool)} {a : Act} {w : World} {K : Act → World → Prop} {Q : Exit → Act → World → Prop} (hx : isAt (a.eval x) = true) (hh : has w (blkOf (a.eval x)) (offOf (a.eval x)) 3 = true) :
    Oper.wp Tryz.prog { dst := dst, op := .load 153 x, type := ty', pos := pos, after := after, guard := guard } a w K Q = K (a.put dst (.agg (gets w (blkOf (a.eval x)) (offOf (a.eval x)) 3))) w := wp_load_big 3 aggArr3 sizeArr3 hx hh
theorem runLoadArr3 {ρ : Operand → Value} {dst : Option Tmp} {ty' : TypeId} {x : Operand} {pos : String} {after : Array Edge} {guard : Option (Nat × Bool)} {w : World} (hx : isAt (ρ x) = true) (hh : has w (blkOf (ρ x)) (offOf (ρ x)) 3 = true) :
    (execOp ρ { dst := dst, op := .load 153 x, type := ty', pos := pos, after := after, guard := guard }).run Tryz.prog w = .ok (.value (.agg (gets w (blkOf (ρ x)) (offOf (ρ x)) 3))) w := run_exec_load_big 3 aggArr3 sizeArr3 hx hh
theorem loadVarArr3 (w : World) (g off : Nat) (hh : has w g off 3 = true) : (loadVar 153 ⟨g, off, none⟩).run Tryz.prog w = .ok (.agg (gets w g off 3)) w := run_loadVar_big Tryz.prog w _ g off 3 aggArr3 sizeArr3 hh
attribute [go_sem] aggArr3 sizeArr3
attribute [go_sem ↓ high] wpLoadArr3 loadVarArr3 runLoadArr3
attribute [go_sem high] wpLoadArr3
set_option maxHeartbeats 400000 in
theorem three_any (i : Ins) (w : World) : Calls Tryz.prog 144 #[.agg i.cells] w fun e w' => e = .returned (.agg #[.int .i64 i.a, .int .i64 i.b, .int .i64 i.c]) ∧ Ext w w' := by
  go_enter Tryz.func144, Tryz.ntmps144
  go_wp2_with fail
  refine ret_cell Tryz.results144 rfl rfl aggArr3 (by exact sizeArr3) (Blk.new' _ _ _ _ (by simp)) ⟨rfl, ?_⟩
  exact ((Kept.refl _ w).alloc _).alloc _
def hasI (i : Ins) : ByteArray := if isOp i.op = true then hasS i.op.toNat else ⟨#[]⟩
set_option maxHeartbeats 1000000 in
theorem has_any (i : Ins) (w : World) (hops : OpsAt w) : Calls Tryz.prog 143 #[.agg i.cells] w fun e w' => e = .returned (.string (hasI i)) ∧ Ext w w' := by
  have hx0 : Ext w _ := (Kept.refl _ w).alloc (.cells i.cells 41)
  have HOP := Lib.hid (hops.ext hx0)
  clear hops
  by_cases h : isOp i.op = true
  · have hb := h
    simp [isOp] at hb
    obtain ⟨op, a, b, c⟩ := i
    obtain ⟨k, rfl⟩ : ∃ k : Nat, op = k := ⟨op.toNat, by simp at hb; omega⟩
    simp at hb
    have hk : k < 22 := by omega
    have hkI : (k : Int) < 22 := by omega
    have hq : hasI ⟨k, a, b, c⟩ = hasS k := by simp only [hasI, if_pos h]; rfl
    rw [hq]
    have HH := Lib.hid h
    have hcl := HOP.out.at_ k hk
    clear h hq hb
    go_enter Tryz.func143, Tryz.ntmps143
    go_wp2_with fail
    refine (is_any _ _).mono ?_
    rintro e w1 ⟨rfl, rfl⟩
    rw [HH.out]
    go_wp2_with fail
    go_ret
    exact ⟨rfl, hx0⟩
  · have hf : isOp i.op = false := by simpa using h
    have hq : hasI i = ⟨#[]⟩ := by simp only [hasI, if_neg h]
    rw [hq]
    have HH := Lib.hid hf
    clear h hf hq
    go_enter Tryz.func143, Tryz.ntmps143
    go_wp2_with fail
    refine (is_any _ _).mono ?_
    rintro e w1 ⟨rfl, rfl⟩
    rw [HH.out]
    go_wp2_with fail
    go_ret
    exact ⟨rfl, hx0⟩
end Go.Proofs.YtahljceanodhkaaGreatDoor

/- Package code: Right. -/
namespace Go.Proofs.YtahljceanodhkaaGreatDoor
open Go.RowKit
def okN (c : UInt8) (n size words : Int) : Bool := if c = 119 then decide (0 ≤ n) && decide (n < words) else if c = 112 then decide (0 ≤ n) && decide (n < size) else i32B n
def okP (h : List UInt8) (k : Nat) (n size words : Int) : Bool := match h[k]? with | some c => okN c n size words | none => n == 0
def nth3 (i : Ins) : Nat → Int | 0 => i.a | 1 => i.b | _ => i.c
def rightE (i : Ins) : Bool := if i.op = 0 then (i.a == 0 || i.a == 1) else if i.op = 17 then decide (i.b ≤ i.c) else if i.op = 18 then decide (0 ≤ i.c) else true
def rightI (i : Ins) (size words : Int) : Bool := isOp i.op && (okP (hasN i.op.toNat) 0 (nth3 i 0) size words && okP (hasN i.op.toNat) 1 (nth3 i 1) size words && okP (hasN i.op.toNat) 2 (nth3 i 2) size words) && rightE i
theorem rightI_false {i : Ins} {size words : Int} {j : Nat} (hj : j < 3) (h : okP (hasN i.op.toNat) j (nth3 i j) size words = false) : rightI i size words = false := by
  unfold rightI
  rcases (by omega : j = 0 ∨ j = 1 ∨ j = 2) with rfl | rfl | rfl <;> simp [h]
theorem rightI_true {i : Ins} {size words : Int} (ho : isOp i.op = true) (h : ∀ j, j < 3 → okP (hasN i.op.toNat) j (nth3 i j) size words = true) : rightI i size words = rightE i := by
  unfold rightI
  rw [ho, h 0 (by omega), h 1 (by omega), h 2 (by omega)]
  simp
theorem idx3 (i : Ins) (k : Nat) (hk : k < 3) (w : World) : (Instr.index 153 (.agg #[.int .i64 i.a, .int .i64 i.b, .int .i64 i.c]) (.int .i64 k)).run Tryz.prog w = .ok (.int .i64 (nth3 i k)) w := by
  rcases (by omega : k = 0 ∨ k = 1 ∨ k = 2) with rfl | rfl | rfl <;> kernel_rfl
theorem hasN_len (k : Nat) : (hasN k).length ≤ 3 := by
  unfold hasN
  split <;> simp
set_option maxRecDepth 100000 in
set_option maxHeartbeats 2000000 in
theorem iright_any (i : Ins) (size words : Int) (w : World) (hops : OpsAt w) : Calls Tryz.prog 84 #[.agg i.cells, .int .i64 size, .int .i64 words] w fun e w' => e = .returned (.bool (rightI i size words)) ∧ Ext w w' := by
  have hx0 : Ext w _ := (Kept.refl _ w).alloc (.cells i.cells 41)
  have hI0 := Blk.new w 41 i.cells
  have HOP := Lib.hid (hops.ext hx0)
  clear hops
  by_cases h : isOp i.op = true
  · have HH := Lib.hid h
    clear h
    obtain ⟨R, hR⟩ : ∃ R, R = rightI i size words := ⟨_, rfl⟩
    rw [← hR]
    have HR := Lib.hid hR
    clear hR
    go_enter Tryz.func84, Tryz.ntmps84
    go_wp2_with fail
    refine (is_any _ _).mono ?_
    rintro e w1 ⟨rfl, rfl⟩
    rw [HH.out]
    go_wp2_with fail
    refine (has_any i _ HOP.out).mono ?_
    rintro e w2 ⟨e2, hx2⟩
    obtain ⟨h, hh⟩ : ∃ h, h = hasN i.op.toNat := ⟨_, rfl⟩
    replace e2 : e = .returned (.string ⟨h.toArray⟩) := by rw [e2, hasI, if_pos HH.out, hh]; rfl
    subst e2
    have hlen : h.length ≤ 3 := by rw [hh]; exact hasN_len _
    have HHN := Lib.hid hh
    clear hh
    have hI2 := Blk.ext hI0 hx2
    have hh2 := Blk.has hI2
    have hg2 := Blk.gets hI2
    go_wp2_with fail
    refine (three_any i _).mono ?_
    rintro e w3 ⟨rfl, hx3⟩
    have y3 := (hx0.trans hx2).trans hx3
    have hI3 := Blk.ext hI2 hx3
    clear hI0 hI2 hh2 hg2 hx0 hx2 hx3
    go_wp2_with fail
    go_loop [19] (fun t19 => ∃ (k : Nat), k ≤ 3 ∧ t19 = .int .i64 k ∧ (∀ j, j < k → okP h j (nth3 i j) size words = true)) (fun t19 => 3 - (intOf t19).toNat)
    case atStart => exact ⟨0, by omega, rfl, fun j hj => by omega⟩
    case round =>
      obtain ⟨k, hk, rfl, hprev⟩ := hrel
      have HP := Lib.hid hprev
      clear hprev
      by_cases hlt : k < 3
      · have hix := idx3 i k hlt
        obtain ⟨n, hn⟩ : ∃ n, n = nth3 i k := ⟨_, rfl⟩
        rw [← hn] at hix
        have HNn := Lib.hid hn
        clear hn
        have next : okP h k n size words = true → ∀ j, j < k + 1 → okP h j (nth3 i j) size words = true := fun hq j hj => by
          by_cases e : j = k
          · subst e; rw [← HNn.out]; exact hq
          · exact HP.out j (by omega)
        have stop : okP h k n size words = false → R = false := fun hq => by
          rw [HR.out]; exact rightI_false hlt (by rw [← HHN.out, ← HNn.out]; exact hq)
        have NX := Lib.hid next
        have SP := Lib.hid stop
        clear next stop
        by_cases hkl : k < h.length
        · have hklI : (k : Int) < h.length := by omega
          obtain ⟨c, hc⟩ : ∃ c, c = h[k] := ⟨_, rfl⟩
          have hget : h[k]? = some c := by rw [List.getElem?_eq_getElem hkl, hc]
          have hcN : ((⟨h.toArray⟩ : ByteArray)[k]'(show k < h.toArray.size by simpa using hkl)).toNat = c.toNat := by rw [hc]; rfl
          have HG := Lib.hid hget
          clear hget hc
          by_cases h1 : c = 119
          · subst h1
            replace hcN : ((⟨h.toArray⟩ : ByteArray)[k]'(show k < h.toArray.size by simpa using hkl)).toNat = 119 := hcN
            by_cases hn0 : 0 ≤ n
            · by_cases hn1 : n < words
              · have ok : okP h k n size words = true := by simp [okP, okN, HG.out, hn0, hn1]
                have OK := Lib.hid ok
                clear ok
                go_wp2_with fail
                go_round
                case rel => exact ⟨k + 1, hlt, by go_num, NX.out OK.out⟩
                case measure => simp only [intOf]; omega
              · have ok : okP h k n size words = false := by simp [okP, okN, HG.out, hn1]
                have OK := Lib.hid ok
                clear ok
                go_wp2_with fail
                go_ret
                exact ⟨ret_bool (SP.out OK.out).symm, y3⟩
            · have ok : okP h k n size words = false := by simp [okP, okN, HG.out, hn0]
              have OK := Lib.hid ok
              clear ok
              go_wp2_with fail
              go_ret
              exact ⟨ret_bool (SP.out OK.out).symm, y3⟩
          · by_cases h2 : c = 112
            · subst h2
              replace hcN : ((⟨h.toArray⟩ : ByteArray)[k]'(show k < h.toArray.size by simpa using hkl)).toNat = 112 := hcN
              by_cases hn0 : 0 ≤ n
              · by_cases hn1 : n < size
                · have ok : okP h k n size words = true := by simp [okP, okN, HG.out, hn0, hn1]
                  have OK := Lib.hid ok
                  clear ok
                  go_wp2_with fail
                  go_round
                  case rel => exact ⟨k + 1, hlt, by go_num, NX.out OK.out⟩
                  case measure => simp only [intOf]; omega
                · have ok : okP h k n size words = false := by simp [okP, okN, HG.out, hn1]
                  have OK := Lib.hid ok
                  clear ok
                  go_wp2_with fail
                  go_ret
                  exact ⟨ret_bool (SP.out OK.out).symm, y3⟩
              · have ok : okP h k n size words = false := by simp [okP, okN, HG.out, hn0]
                have OK := Lib.hid ok
                clear ok
                go_wp2_with fail
                go_ret
                exact ⟨ret_bool (SP.out OK.out).symm, y3⟩
            · have ok : okP h k n size words = i32B n := by simp [okP, okN, HG.out, h1, h2]
              have hc1 : ¬ c.toNat = 119 := fun e => h1 (UInt8.toNat_inj.1 e)
              have hc2 : ¬ c.toNat = 112 := fun e => h2 (UInt8.toNat_inj.1 e)
              generalize c.toNat = cn at hcN hc1 hc2
              have b1 : (cn == 119) = false := by simpa using hc1
              have b2 : (cn == 112) = false := by simpa using hc2
              have b1' : ((cn : Int) == 119) = false := by simp; omega
              have b2' : ((cn : Int) == 112) = false := by simp; omega
              have OK := Lib.hid ok
              clear ok hc1 hc2 h1 h2
              go_wp2_with fail
              refine (cright_any n _).mono ?_
              rintro e w4 ⟨rfl, rfl⟩
              cases hi : i32B n
              · have HI := Lib.hid hi
                clear hi
                go_wp2_with fail
                go_ret
                exact ⟨ret_bool (SP.out (OK.out.trans HI.out)).symm, y3⟩
              · have HI := Lib.hid hi
                clear hi
                go_wp2_with fail
                go_round
                case rel => exact ⟨k + 1, hlt, by go_num, NX.out (OK.out.trans HI.out)⟩
                case measure => simp only [intOf]; omega
        · have hklI : ¬ (k : Int) < h.length := by omega
          have ok : okP h k n size words = (n == 0) := by simp [okP, List.getElem?_eq_none (show h.length ≤ k by omega)]
          have OK := Lib.hid ok
          clear ok
          cases hi : (n == 0)
          · have HI := Lib.hid hi
            go_wp2_with fail
            go_ret
            exact ⟨ret_bool (SP.out (OK.out.trans HI.out)).symm, y3⟩
          · have HI := Lib.hid hi
            go_wp2_with fail
            go_round
            case rel => exact ⟨k + 1, hlt, by go_num, NX.out (OK.out.trans HI.out)⟩
            case measure => simp only [intOf]; omega
      · obtain rfl : k = 3 := by omega
        have hR3 := rightI_true HH.out (by rw [← HHN.out]; exact HP.out)
        rw [← HR.out] at hR3
        have HR3 := Lib.hid hR3
        clear hR3
        have hc3 := Blk.cell hI3
        have e0 : (i.op == 0) = true ∨ (i.op == 0) = false := by cases (i.op == 0) <;> simp
        have e17 : (i.op == 17) = true ∨ (i.op == 17) = false := by cases (i.op == 17) <;> simp
        have e18 : (i.op == 18) = true ∨ (i.op == 18) = false := by cases (i.op == 18) <;> simp
        have E17 := Lib.hid e17
        have E18 := Lib.hid e18
        clear e17 e18
        rcases e0 with e0 | e0
        · go_wp2_with fail
          all_goals go_ret
          all_goals refine ⟨ret_bool ?_, y3⟩
          all_goals (rw [HR3.out, rightE, if_pos (by simpa using e0)] <;> simp [*])
        · rcases E17.out with e17 | e17
          · go_wp2_with fail
            go_ret
            refine ⟨ret_bool ?_, y3⟩
            rw [HR3.out, rightE, if_neg (by simpa using e0), if_pos (by simpa using e17)]
          · rcases E18.out with e18 | e18
            · go_wp2_with fail
              go_ret
              refine ⟨ret_bool ?_, y3⟩
              rw [HR3.out, rightE, if_neg (by simpa using e0), if_neg (by simpa using e17), if_pos (by simpa using e18)]
            · go_wp2_with fail
              go_ret
              refine ⟨ret_bool ?_, y3⟩
              rw [HR3.out, rightE, if_neg (by simpa using e0), if_neg (by simpa using e17), if_neg (by simpa using e18)]
  · have hf : isOp i.op = false := by simpa using h
    have hq : rightI i size words = false := by simp [rightI, hf]
    rw [hq]
    have HH := Lib.hid hf
    clear h hf hq
    go_enter Tryz.func84, Tryz.ntmps84
    go_wp2_with fail
    refine (is_any _ _).mono ?_
    rintro e w1 ⟨rfl, rfl⟩
    rw [HH.out]
    go_wp2_with fail
    go_ret
    exact ⟨rfl, hx0⟩
end Go.Proofs.YtahljceanodhkaaGreatDoor

/- Package machine: next, far. -/
namespace Go.Proofs.YtahljceanodhkaaGreatDoor
open Go.RowKit
abbrev StAt (w : World) (s : Nat) (t : TypeId) (pc : Int) (A : Option Addr) (n cap : Nat) (halt : Int) : Prop := Blk w s t (stCells pc A n cap halt)
def nextI (c : List Ins) (pc : Int) (k : Nat) : Option Ins := match c[pc.toNat]? with | some i => if rightI i c.length k = true then some i else none | none => none
/-- an instruction and whether it is one -/
abbrev insO (o : Option Ins) : Ins := o.getD ⟨0, 0, 0, 0⟩
set_option maxRecDepth 100000 in
set_option maxHeartbeats 2000000 in
theorem next_past (s : Nat) (pc halt : Int) (M : Option Addr) (k kc : Nat) (A : Option Addr) (n cap : Nat) (w : World) (h2 : n ≤ 2048) (hp : (n : Int) ≤ pc) (hs : StAt w s 70 pc M k kc halt) :
    Calls Tryz.prog 133 #[.pointer (some ⟨s, 0, none⟩), .slice A n cap] w fun e w' => e = .returned (.tuple #[.agg (Ins.cells ⟨0, 0, 0, 0⟩), .bool false]) ∧ Ext w w' := by
  have hx0 : Ext w _ := (Kept.refl _ w).alloc (.cells (Ins.cells ⟨0, 0, 0, 0⟩) 41)
  have hR0 := Blk.new w 41 (Ins.cells ⟨0, 0, 0, 0⟩)
  have hS0 := Blk.alloc hs (.cells (Ins.cells ⟨0, 0, 0, 0⟩) 41)
  have hls := hs.lt
  have b1 : decide ((2048 : Int) < n) = false := by simp; omega
  have b1' : decide (2048 < n) = false := by simp; omega
  have b2 : decide ((n : Int) ≤ pc) = true := by simpa using hp
  clear hs
  go_enter Tryz.func133, Tryz.ntmps133
  go_wp2_with fail
  generalize (w.alloc (.cells (Ins.cells ⟨0, 0, 0, 0⟩) 41)) = W at hx0 hR0 hS0 ⊢
  have hlS := hS0.lt
  refine wp_region_3 (fun w1 => Ext W w1) [(0, 2), (1, 2), (2, 2), (3, 2), (4, 2), (5, 2), (6, 2), (7, 1), (8, 2), (9, 2), (10, 2), (11, 2), (12, 2), (13, 2), (14, 2), (15, 2), (16, 2), (17, 1), (18, 2), (19, 1), (20, 2), (21, 2), (22, 2), (23, 2), (24, 2), (25, 1), (26, 2), (27, 0), (28, 2), (29, 2)] (by kernel_rfl) (by kernel_rfl) (by kernel_rfl) (by kernel_rfl) ?_; intro l' hl'; simp only [List.map_cons, List.map_nil, List.getD_cons_zero, List.getD_cons_succ] at hl'; subst hl'
  (repeat (first | ((apply w3_pure); (· go_simp); (· (intro w1; go_simp; try with_reducible rfl)); (intro K hK; go_simp; refine hK _ _ ?_; clear hK K)) | ((apply w3_skip); (· go_simp); (intro K hK; go_simp; refine hK _ _ ?_; clear hK K)) | ((apply w3_take); (· exact (Kept.drew (Kept.refl _ _))); (· go_simp); (· (intro w1 hS; have d1 := Blk.cell (Blk.ext hS0 hS);  go_simp; try with_reducible rfl)); (intro K hK; go_simp; refine hK _ _ ?_; clear hK K)) | ((apply w3_pass); (· exact (Kept.drew (Kept.refl _ _))); (· go_simp); (intro K hK; go_simp; refine hK _ _ ?_; clear hK K))))
  (refine w3_act (fun K hK => ?_); go_simp)
  refine hK.out _ _ (fun h => h) ?_
  clear hK K
  (repeat (first | ((apply w3_pure); (· go_simp); (· (intro w1; go_simp; try with_reducible rfl)); (intro K hK; go_simp; refine hK _ _ ?_; clear hK K)) | ((apply w3_skip); (· go_simp); (intro K hK; go_simp; refine hK _ _ ?_; clear hK K)) | (refine w3_end (by kernel_rfl) (fun K hK => ?_); go_simp; refine hK.out _ _ ?_; clear hK K))); refine w3_nil ?_
  have hR1 : Blk W.drew w.heap.size 41 (Ins.cells ⟨0, 0, 0, 0⟩) := hR0
  have hh1 := Blk.has hR1
  have hm1 := Blk.melts hR1
  go_wp2_with fail
  refine ret_ci Tryz.results133 rfl rfl aggWins (by exact sizeWins) (Blk.put_ hR1 _ _) ⟨rfl, ?_⟩
  exact Kept.putAt (hx0.drew) _ _ _ (fun h => by omega)
set_option maxRecDepth 100000 in
set_option maxHeartbeats 2000000 in
theorem next_in (s : Nat) (halt : Int) (M : Option Addr) (k kc : Nat) (b off : Nat) (c : List Ins) (n cap p : Nat) (w : World) (hn : n = c.length) (h2 : n ≤ 2048) (hp : p < n) (hops : OpsAt w) (hs : StAt w s 70 p M k kc halt) (hr : Row w b off (inss c)) :
    Calls Tryz.prog 133 #[.pointer (some ⟨s, 0, none⟩), .slice (some ⟨b, off, none⟩) n cap] w fun e w' => e = .returned (.tuple #[.agg (insO (nextI c p k)).cells, .bool (nextI c p k).isSome]) ∧ Ext w w' := by
  have hpl : p < c.length := by omega
  obtain ⟨i, hi⟩ : ∃ i, i = c[p] := ⟨_, rfl⟩
  have hnx : nextI c p k = if rightI i n k = true then some i else none := by
    simp only [nextI, Int.toNat_natCast, List.getElem?_eq_getElem hpl, ← hi, ← hn]
  have hx0 : Ext w _ := (Kept.refl _ w).alloc (.cells (Ins.cells ⟨0, 0, 0, 0⟩) 41)
  have hR0 := Blk.new w 41 (Ins.cells ⟨0, 0, 0, 0⟩)
  have hS0 := Blk.alloc hs (.cells (Ins.cells ⟨0, 0, 0, 0⟩) 41)
  have hC0 := hr.ext hx0
  have HOP := Lib.hid (hops.ext hx0)
  have hls := hs.lt
  have b1 : decide ((2048 : Int) < n) = false := by simp; omega
  have b1' : decide (2048 < n) = false := by simp; omega
  have b2 : decide ((n : Int) ≤ p) = false := by simp; omega
  have b2' : decide (n ≤ p) = false := by simp; omega
  have hpI : (p : Int) < n := by omega
  have HX := Lib.hid hnx
  have HI := Lib.hid hi
  clear hs hr hops hnx
  obtain ⟨a1, a2⟩ := hC0.ins p hpl
  rw [← HI.out] at a2
  clear hi
  have HN := Lib.hid hn
  clear hn
  obtain ⟨R, hR⟩ : ∃ R, R = rightI i n k := ⟨_, rfl⟩
  have HR := Lib.hid hR
  clear hR
  go_enter Tryz.func133, Tryz.ntmps133
  go_wp2_with fail
  generalize (w.alloc (.cells (Ins.cells ⟨0, 0, 0, 0⟩) 41)) = W at hx0 hR0 hS0 hC0 HOP a1 a2 ⊢
  have hlS := hS0.lt
  have hlC := hC0.lt
  refine wp_region_3 (fun w1 => Ext W w1) [(0, 2), (1, 2), (2, 2), (3, 2), (4, 2), (5, 2), (6, 2), (7, 1), (8, 2), (9, 2), (10, 2), (11, 2), (12, 2), (13, 2), (14, 2), (15, 2), (16, 2), (17, 1), (18, 2), (19, 1), (20, 2), (21, 2), (22, 2), (23, 2), (24, 2), (25, 1), (26, 2), (27, 0), (28, 2), (29, 2)] (by kernel_rfl) (by kernel_rfl) (by kernel_rfl) (by kernel_rfl) ?_; intro l' hl'; simp only [List.map_cons, List.map_nil, List.getD_cons_zero, List.getD_cons_succ] at hl'; subst hl'
  (repeat (first | ((apply w3_pure); (· go_simp); (· (intro w1; go_simp; try with_reducible rfl)); (intro K hK; go_simp; refine hK _ _ ?_; clear hK K)) | ((apply w3_skip); (· go_simp); (intro K hK; go_simp; refine hK _ _ ?_; clear hK K)) | ((apply w3_take); (· exact (Kept.drew (Kept.refl _ _))); (· go_simp); (· (intro w1 hS; have d1 := Blk.cell (Blk.ext hS0 hS); have d2 := (hC0.ext hS).ins p hpl; rw [← HI.out] at d2; have d3 := d2.1; have d4 := d2.2;  go_simp; try with_reducible rfl)); (intro K hK; go_simp; refine hK _ _ ?_; clear hK K)) | ((apply w3_pass); (· exact (Kept.drew (Kept.refl _ _))); (· go_simp); (intro K hK; go_simp; refine hK _ _ ?_; clear hK K))))
  (refine w3_act (fun K hK => ?_); go_simp)
  go_wp2_with fail
  refine (iright_any i n k _ (HOP.out.ext ((Kept.refl _ W).drew))).mono ?_
  rintro e w1 ⟨e1, hx1⟩
  replace e1 : e = .returned (.bool R) := by rw [e1, HR.out]
  subst e1
  have y1 : Ext W w1 := ((Kept.refl _ W).drew).trans hx1
  refine hK.out _ _ (fun _ => y1) ?_
  clear hK K
  (repeat (first | ((apply w3_pure); (· go_simp); (· (intro w1; go_simp; try with_reducible rfl)); (intro K hK; go_simp; refine hK _ _ ?_; clear hK K)) | ((apply w3_skip); (· go_simp); (intro K hK; go_simp; refine hK _ _ ?_; clear hK K)) | (refine w3_end (by kernel_rfl) (fun K hK => ?_); go_simp; refine hK.out _ _ ?_; clear hK K))); refine w3_nil ?_
  have hR1 := Blk.ext hR0 y1
  have hh1 := Blk.has hR1
  have hm1 := Blk.melts hR1
  have hS1 := Blk.ext hS0 y1
  have hc1 := Blk.cell hS1
  obtain ⟨q1, q2⟩ := (hC0.ext y1).ins p hpl
  rw [← HI.out] at q2
  cases hq : R
  · have e : nextI c p k = none := by rw [HX.out, ← HR.out, hq]; rfl
    have HE := Lib.hid e
    subst hq
    clear e
    go_wp2_with fail
    refine ret_ci Tryz.results133 rfl rfl aggWins (by exact sizeWins) (Blk.put_ hR1 _ _) ⟨by rw [HE.out]; rfl, ?_⟩
    exact Kept.putAt (hx0.trans y1) _ _ _ (fun h => by omega)
  · have e : nextI c p k = some i := by rw [HX.out, ← HR.out, hq]; rfl
    have HE := Lib.hid e
    subst hq
    clear e
    go_wp2_with fail
    refine ret_ci Tryz.results133 rfl rfl aggWins (by exact sizeWins) (Blk.put_ hR1 _ _) ⟨by rw [HE.out]; rfl, ?_⟩
    exact Kept.putAt (hx0.trans y1) _ _ _ (fun h => by omega)
theorem nextI_past (c : List Ins) (pc : Int) (k : Nat) (h : (c.length : Int) ≤ pc) : nextI c pc k = none := by
  unfold nextI
  rw [List.getElem?_eq_none (by omega)]
/-- next, whatever the place is -/
theorem next_any (s : Nat) (pc halt : Int) (M : Option Addr) (k kc : Nat) (A : Option Addr) (b off : Nat) (c : List Ins) (n cap : Nat) (w : World) (hn : n = c.length) (h2 : n ≤ 2048) (hp : 0 ≤ pc) (hA : 0 < n → A = some ⟨b, off, none⟩) (hops : OpsAt w) (hs : StAt w s 70 pc M k kc halt) (hr : 0 < n → Row w b off (inss c)) :
    Calls Tryz.prog 133 #[.pointer (some ⟨s, 0, none⟩), .slice A n cap] w fun e w' => e = .returned (.tuple #[.agg (insO (nextI c pc k)).cells, .bool (nextI c pc k).isSome]) ∧ Ext w w' := by
  by_cases h : (n : Int) ≤ pc
  · rw [nextI_past c pc k (by omega)]
    exact next_past s pc halt M k kc A n cap w h2 h hs
  · obtain ⟨p, rfl⟩ : ∃ p : Nat, pc = p := ⟨pc.toNat, by omega⟩
    obtain rfl := hA (by omega)
    exact next_in s halt M k kc b off c n cap p w hn h2 (by omega) hops hs (hr (by omega))
end Go.Proofs.YtahljceanodhkaaGreatDoor

/- Package machine: far. -/
namespace Go.Proofs.YtahljceanodhkaaGreatDoor
open Go.RowKit
def placeI (p : Int) (k : Nat) : Int := if 0 ≤ p ∧ p < k then p else -1
def farI (i : Ins) (m : List Int) : Int := if i.op = 15 then placeI (i.b + m.getD i.c.toNat 0) m.length else if i.op = 16 then placeI (i.a + m.getD i.b.toNat 0) m.length else -1
theorem okP_w {h : List UInt8} {k : Nat} {n size words : Int} (hk : h[k]? = some 119) (h1 : okP h k n size words = true) : 0 ≤ n ∧ n < words := by
  simpa [okP, hk, okN] using h1
theorem okP_p {h : List UInt8} {k : Nat} {n size words : Int} (hk : h[k]? = some 112) (h1 : okP h k n size words = true) : 0 ≤ n ∧ n < size := by
  simpa [okP, hk, okN] using h1
theorem okP_n {h : List UInt8} {k : Nat} {n size words : Int} (hk : h[k]? = some 110) (h1 : okP h k n size words = true) : -2147483648 ≤ n ∧ n ≤ 2147483647 := by
  simpa [okP, hk, okN, i32B] using h1
theorem rightI_parts {i : Ins} {size words : Int} (h : rightI i size words = true) : 0 ≤ i.op ∧ i.op < 22 ∧ okP (hasN i.op.toNat) 0 i.a size words = true ∧ okP (hasN i.op.toNat) 1 i.b size words = true ∧ okP (hasN i.op.toNat) 2 i.c size words = true ∧ rightE i = true := by
  simp only [rightI, Bool.and_eq_true] at h
  obtain ⟨⟨h1, ⟨h2, h3⟩, h4⟩, h5⟩ := h
  simp [isOp] at h1
  exact ⟨h1.1, h1.2, h2, h3, h4, h5⟩
set_option maxHeartbeats 1000000 in
theorem far_no (i : Ins) (s : Nat) (pc halt : Int) (M : Option Addr) (k kc : Nat) (w : World) (hk : k ≤ 256) (h15 : (i.op == 15) = false) (h16 : (i.op == 16) = false) (hs : StAt w s 70 pc M k kc halt) :
    Calls Tryz.prog 136 #[.pointer (some ⟨s, 0, none⟩), .agg i.cells] w fun e w' => e = .returned (.int .i64 (-1)) ∧ Ext w w' := by
  have hx0 : Ext w _ := (Kept.refl _ w).alloc (.cells i.cells 41)
  have hS0 := Blk.alloc hs (.cells i.cells 41)
  have hls := hs.lt
  have hc := Blk.cell hs
  have b1 : decide ((k : Int) ≤ -1) = false := by simp; omega
  go_enter Tryz.func136, Tryz.ntmps136
  go_wp2_with fail
  go_ret
  exact ⟨rfl, hx0⟩
set_option maxHeartbeats 1000000 in
theorem far_load (a b c : Nat) (s : Nat) (pc halt : Int) (g off k kc : Nat) (m : List Int) (w : World) (hkm : k = m.length) (hk : k ≤ 256) (hb : b < k) (hc : c < k) (hm : ∀ x ∈ m, i32ok x) (hs : StAt w s 70 pc (some ⟨g, off, none⟩) k kc halt) (hr : Row w g off (mems m)) :
    Calls Tryz.prog 136 #[.pointer (some ⟨s, 0, none⟩), .agg (Ins.cells ⟨15, a, b, c⟩)] w fun e w' => e = .returned (.int .i64 (placeI (b + m.getD c 0) k)) ∧ Ext w w' := by
  have hcl : c < m.length := by omega
  have hx0 : Ext w _ := (Kept.refl _ w).alloc (.cells (Ins.cells ⟨15, a, b, c⟩) 41)
  have hS0 := Blk.alloc hs (.cells (Ins.cells ⟨15, a, b, c⟩) 41)
  have hI0 := Blk.new w 41 (Ins.cells ⟨15, a, b, c⟩)
  have hM0 := hr.ext hx0
  have hls := hs.lt
  obtain ⟨x, hx⟩ : ∃ x, x = m[c] := ⟨_, rfl⟩
  have hxr : i32ok x := by rw [hx]; exact hm _ (List.getElem_mem hcl)
  have hgd : m.getD c 0 = x := by simp [hcl, hx]
  rw [hgd]
  unfold i32ok at hxr
  obtain ⟨hx1, hx2⟩ := hxr
  obtain ⟨q, hq⟩ : ∃ q, q = (b : Int) + x := ⟨_, rfl⟩
  rw [← hq]
  have hw1 : IntKind.i64.wrap ((b : Int) + x) = q := by rw [IntKind.wrap_i64]; omega
  have hw0 : IntKind.i64.wrap x = x := by rw [IntKind.wrap_i64]; omega
  have hcI : (c : Int) < k := by omega
  have HXX := Lib.hid hx
  have HQ := Lib.hid hq
  have HKM := Lib.hid hkm
  clear hs hr hx hgd hq hkm hm
  go_enter Tryz.func136, Tryz.ntmps136
  go_wp2_with fail
  generalize (w.alloc (.cells (Ins.cells ⟨15, a, b, c⟩) 41)) = W at hx0 hS0 hI0 hM0 ⊢
  have l1 := hS0.lt
  have l2 := hI0.lt
  have l3 := hM0.lt
  refine wp_region_3 (fun w1 => Ext W w1) [(0, 2), (1, 1), (2, 2), (3, 2), (4, 2), (5, 1), (6, 2), (7, 1), (8, 2), (9, 1), (10, 1), (11, 2), (12, 2)] (by kernel_rfl) (by kernel_rfl) (by kernel_rfl) (by kernel_rfl) ?_; intro l' hl'; simp only [List.map_cons, List.map_nil, List.getD_cons_zero, List.getD_cons_succ] at hl'; subst hl'
  (repeat (first | ((apply w3_pure); (· go_simp); (· (intro w1; go_simp; try with_reducible rfl)); (intro K hK; go_simp; refine hK _ _ ?_; clear hK K)) | ((apply w3_skip); (· go_simp); (intro K hK; go_simp; refine hK _ _ ?_; clear hK K)) | ((apply w3_take); (· exact (Kept.drew (Kept.refl _ _))); (· go_simp); (· (intro w1 hS; have d1 := Blk.cell (Blk.ext hS0 hS); have d2 := Blk.cell (Blk.ext hI0 hS); have d3 := (hM0.ext hS).mem c hcl; rw [← HXX.out] at d3;  go_simp; try with_reducible rfl)); (intro K hK; go_simp; refine hK _ _ ?_; clear hK K)) | ((apply w3_pass); (· exact (Kept.drew (Kept.refl _ _))); (· go_simp); (intro K hK; go_simp; refine hK _ _ ?_; clear hK K))))
  (repeat (first | ((apply w3_pure); (· go_simp); (· (intro w1; go_simp; try with_reducible rfl)); (intro K hK; go_simp; refine hK _ _ ?_; clear hK K)) | ((apply w3_skip); (· go_simp); (intro K hK; go_simp; refine hK _ _ ?_; clear hK K)) | (refine w3_end (by kernel_rfl) (fun K hK => ?_); go_simp; refine hK.out _ _ ?_; clear hK K))); refine w3_nil ?_
  have hS1 : StAt W.drew s 70 pc (some ⟨g, off, none⟩) k kc halt := hS0
  have hc1 := Blk.cell hS1
  have hq1 : -2147483648 ≤ q := by rw [HQ.out]; omega
  have hq2 : q ≤ 2147483903 := by rw [HQ.out]; omega
  clear hw1 hw0
  by_cases h1 : (k : Int) ≤ q
  · have b1 : decide ((k : Int) ≤ q) = true := by simpa using h1
    go_wp2_with fail
    go_ret
    exact ⟨ret_int (by unfold placeI; rw [if_neg (by omega)]), hx0.drew⟩
  · have b1 : decide ((k : Int) ≤ q) = false := by simpa using h1
    go_wp2_with fail
    go_ret
    refine ⟨ret_int ?_, hx0.drew⟩
    unfold placeI
    by_cases h0 : 0 ≤ q
    · rw [if_pos ⟨h0, by omega⟩, Int.max_eq_left (by omega)]
    · rw [if_neg (by omega), Int.max_eq_right (by omega)]
set_option maxHeartbeats 1000000 in
theorem far_store (a b c : Nat) (s : Nat) (pc halt : Int) (g off k kc : Nat) (m : List Int) (w : World) (hkm : k = m.length) (hk : k ≤ 256) (ha : a < k) (hc : b < k) (hm : ∀ x ∈ m, i32ok x) (hs : StAt w s 70 pc (some ⟨g, off, none⟩) k kc halt) (hr : Row w g off (mems m)) :
    Calls Tryz.prog 136 #[.pointer (some ⟨s, 0, none⟩), .agg (Ins.cells ⟨16, a, b, c⟩)] w fun e w' => e = .returned (.int .i64 (placeI (a + m.getD b 0) k)) ∧ Ext w w' := by
  have hcl : b < m.length := by omega
  have hx0 : Ext w _ := (Kept.refl _ w).alloc (.cells (Ins.cells ⟨16, a, b, c⟩) 41)
  have hS0 := Blk.alloc hs (.cells (Ins.cells ⟨16, a, b, c⟩) 41)
  have hI0 := Blk.new w 41 (Ins.cells ⟨16, a, b, c⟩)
  have hM0 := hr.ext hx0
  have hls := hs.lt
  obtain ⟨x, hx⟩ : ∃ x, x = m[b] := ⟨_, rfl⟩
  have hxr : i32ok x := by rw [hx]; exact hm _ (List.getElem_mem hcl)
  have hgd : m.getD b 0 = x := by simp [hcl, hx]
  rw [hgd]
  unfold i32ok at hxr
  obtain ⟨hx1, hx2⟩ := hxr
  obtain ⟨q, hq⟩ : ∃ q, q = (a : Int) + x := ⟨_, rfl⟩
  rw [← hq]
  have hw1 : IntKind.i64.wrap ((a : Int) + x) = q := by rw [IntKind.wrap_i64]; omega
  have hw0 : IntKind.i64.wrap x = x := by rw [IntKind.wrap_i64]; omega
  have hcI : (b : Int) < k := by omega
  have HXX := Lib.hid hx
  have HQ := Lib.hid hq
  have HKM := Lib.hid hkm
  clear hs hr hx hgd hq hkm hm
  go_enter Tryz.func136, Tryz.ntmps136
  go_wp2_with fail
  generalize (w.alloc (.cells (Ins.cells ⟨16, a, b, c⟩) 41)) = W at hx0 hS0 hI0 hM0 ⊢
  have l1 := hS0.lt
  have l2 := hI0.lt
  have l3 := hM0.lt
  refine wp_region_3 (fun w1 => Ext W w1) [(0, 2), (1, 1), (2, 2), (3, 2), (4, 2), (5, 1), (6, 2), (7, 1), (8, 2), (9, 1), (10, 1), (11, 2), (12, 2)] (by kernel_rfl) (by kernel_rfl) (by kernel_rfl) (by kernel_rfl) ?_; intro l' hl'; simp only [List.map_cons, List.map_nil, List.getD_cons_zero, List.getD_cons_succ] at hl'; subst hl'
  (repeat (first | ((apply w3_pure); (· go_simp); (· (intro w1; go_simp; try with_reducible rfl)); (intro K hK; go_simp; refine hK _ _ ?_; clear hK K)) | ((apply w3_skip); (· go_simp); (intro K hK; go_simp; refine hK _ _ ?_; clear hK K)) | ((apply w3_take); (· exact (Kept.drew (Kept.refl _ _))); (· go_simp); (· (intro w1 hS; have d1 := Blk.cell (Blk.ext hS0 hS); have d2 := Blk.cell (Blk.ext hI0 hS); have d3 := (hM0.ext hS).mem b hcl; rw [← HXX.out] at d3;  go_simp; try with_reducible rfl)); (intro K hK; go_simp; refine hK _ _ ?_; clear hK K)) | ((apply w3_pass); (· exact (Kept.drew (Kept.refl _ _))); (· go_simp); (intro K hK; go_simp; refine hK _ _ ?_; clear hK K))))
  (repeat (first | ((apply w3_pure); (· go_simp); (· (intro w1; go_simp; try with_reducible rfl)); (intro K hK; go_simp; refine hK _ _ ?_; clear hK K)) | ((apply w3_skip); (· go_simp); (intro K hK; go_simp; refine hK _ _ ?_; clear hK K)) | (refine w3_end (by kernel_rfl) (fun K hK => ?_); go_simp; refine hK.out _ _ ?_; clear hK K))); refine w3_nil ?_
  have hS1 : StAt W.drew s 70 pc (some ⟨g, off, none⟩) k kc halt := hS0
  have hc1 := Blk.cell hS1
  have hq1 : -2147483648 ≤ q := by rw [HQ.out]; omega
  have hq2 : q ≤ 2147483903 := by rw [HQ.out]; omega
  clear hw1 hw0
  by_cases h1 : (k : Int) ≤ q
  · have b1 : decide ((k : Int) ≤ q) = true := by simpa using h1
    go_wp2_with fail
    go_ret
    exact ⟨ret_int (by unfold placeI; rw [if_neg (by omega)]), hx0.drew⟩
  · have b1 : decide ((k : Int) ≤ q) = false := by simpa using h1
    go_wp2_with fail
    go_ret
    refine ⟨ret_int ?_, hx0.drew⟩
    unfold placeI
    by_cases h0 : 0 ≤ q
    · rw [if_pos ⟨h0, by omega⟩, Int.max_eq_left (by omega)]
    · rw [if_neg (by omega), Int.max_eq_right (by omega)]
theorem far_any (i : Ins) (size : Int) (s : Nat) (pc halt : Int) (g off k kc : Nat) (m : List Int) (w : World) (hkm : k = m.length) (hk : k ≤ 256) (hi : rightI i size k = true) (hm : ∀ x ∈ m, i32ok x) (hs : StAt w s 70 pc (some ⟨g, off, none⟩) k kc halt) (hr : Row w g off (mems m)) :
    Calls Tryz.prog 136 #[.pointer (some ⟨s, 0, none⟩), .agg i.cells] w fun e w' => e = .returned (.int .i64 (farI i m)) ∧ Ext w w' := by
  obtain ⟨h0, h22, ha, hb, hc, he⟩ := rightI_parts hi
  by_cases h15 : i.op = 15
  · rw [h15] at ha hb hc
    have ha := okP_w rfl ha
    have hb := okP_w rfl hb
    have hc := okP_w rfl hc
    obtain ⟨op, a, b, c⟩ := i
    simp at h15 ha hb hc
    subst h15
    obtain ⟨a, rfl⟩ : ∃ n : Nat, a = n := ⟨a.toNat, by omega⟩
    obtain ⟨b, rfl⟩ : ∃ n : Nat, b = n := ⟨b.toNat, by omega⟩
    obtain ⟨c, rfl⟩ : ∃ n : Nat, c = n := ⟨c.toNat, by omega⟩
    have := far_load a b c s pc halt g off k kc m w hkm hk (by omega) (by omega) hm hs hr
    simpa [farI, ← hkm] using this
  · by_cases h16 : i.op = 16
    · rw [h16] at ha hb hc
      have ha := okP_w rfl ha
      have hb := okP_w rfl hb
      have hc := okP_w rfl hc
      obtain ⟨op, a, b, c⟩ := i
      simp at h16 ha hb hc
      subst h16
      obtain ⟨a, rfl⟩ : ∃ n : Nat, a = n := ⟨a.toNat, by omega⟩
      obtain ⟨b, rfl⟩ : ∃ n : Nat, b = n := ⟨b.toNat, by omega⟩
      obtain ⟨c, rfl⟩ : ∃ n : Nat, c = n := ⟨c.toNat, by omega⟩
      have := far_store a b c s pc halt g off k kc m w hkm hk (by omega) (by omega) hm hs hr
      simpa [farI, ← hkm] using this
    · rw [show farI i m = -1 by simp only [farI, if_neg h15, if_neg h16]]
      exact far_no i s pc halt _ k kc w hk (by simpa using h15) (by simpa using h16) hs
end Go.Proofs.YtahljceanodhkaaGreatDoor

/- Package machine: twos. -/
namespace Go.Proofs.YtahljceanodhkaaGreatDoor
open Go.RowKit
/-- block g is a map's -/
def MapB (w : World) (g : Nat) (es : Array MapEntry) (clock : Nat) : Prop := w.heap[g]? = some (.map es clock)
theorem MapB.lt {w : World} {g : Nat} {es : Array MapEntry} {clock : Nat} (h : MapB w g es clock) : g < w.heap.size := (Array.getElem?_eq_some_iff.1 h).1
theorem MapB.kept {S : Nat → Prop} {w w' : World} {g : Nat} {es : Array MapEntry} {clock : Nat} (h : MapB w g es clock) (hk : Kept S w w') (hs : ¬ S g) : MapB w' g es clock := (hk.block g h.lt hs).trans h
theorem MapB.ext {w w' : World} {g : Nat} {es : Array MapEntry} {clock : Nat} (h : MapB w g es clock) (hk : Ext w w') : MapB w' g es clock := h.kept hk (fun f => f)
theorem insStep (w : World) (g : Nat) (es : Array MapEntry) (clock : Nat) (k : Int) (f : Value) (hb : MapB w g es clock) (hf : Instr.findNow (.int .i64) (.int .i64 k) es.toList 0 = some none) :
    ∃ w', (Instr.mapUpdate 233 (.map (some g)) (.int .i64 k) f).run Tryz.prog w = .ok () w' ∧ MapB w' g (es.push ⟨.int .i64 k, f, clock⟩) (clock + 1) ∧ Kept (· = g) w w' := by
  have hc : (Instr.checkKey false 10000 3 (.int .i64 k)).run Tryz.prog w = .ok () w := MapKept.run_checkKey (k := .int .i64 k) Tryz.underlying3 (by simp [MapKept.IsKey]) false 9999
  refine ⟨{ w with heap := w.heap.setIfInBounds g (.map (es.push ⟨.int .i64 k, f, clock⟩) (clock + 1)) }, ?_, ?_, ⟨rfl, rfl, rfl, by simp, fun j hj hn => ?_⟩⟩
  · simp [Instr.mapUpdate, run_underlying Tryz.underlying233, MapKept.run_getObj_map hb, hc, MapKept.run_findKey Tryz.underlying3 hf, MapKept.run_setObj_map _ hb, Result.andThen]
  · exact (MapKept.heap_set hb).1
  · exact (MapKept.heap_set hb).2 j hn
theorem wpList_ins {P : Program} {w : World} {ops : Array Oper} {rest : List Oper} {o : Oper} {a : Act} {Q : Exit → Act → World → Prop} (hgd : o.guard = none) (T : TypeId) (m k x : Operand)
    (ho : o.op = .insert T m k x) (hd : o.dst = none) {vm vk vx : Value} {w' : World} (hm : a.eval m = vm) (hk : a.eval k = vk) (hx : a.eval x = vx)
    (hrun : (Instr.mapUpdate T vm vk vx).run P w = .ok () w') (h : wpList P ops Q rest a w') : wpList P ops Q (o :: rest) a w := by
  refine wpList_plain hgd fun _ hK => ?_
  unfold Oper.wp execOp
  simp only [ho, Sem.run_bind, Sem.run_pure, Result.andThen_ok, hm, hk, hx, hrun, Oper.upon]
  have e : a.put o.dst undef = a := by rw [hd]; rfl
  rw [e]
  exact hK _ _ h
/-- what the operations of two words are: the map's entries -/
def twosE (n : Nat) : Array MapEntry := (([⟨.int .i64 3, .func (.func 197) #[] #[], 0⟩, ⟨.int .i64 4, .func (.func 198) #[] #[], 1⟩, ⟨.int .i64 5, .func (.func 199) #[] #[], 2⟩, ⟨.int .i64 6, .func (.func 200) #[] #[], 3⟩, ⟨.int .i64 7, .func (.func 201) #[] #[], 4⟩, ⟨.int .i64 8, .func (.func 202) #[] #[], 5⟩, ⟨.int .i64 9, .func (.func 204) #[] #[], 6⟩, ⟨.int .i64 10, .func (.func 205) #[] #[], 7⟩, ⟨.int .i64 11, .func (.func 206) #[] #[], 8⟩, ⟨.int .i64 12, .func (.func 207) #[] #[], 9⟩, ⟨.int .i64 13, .func (.func 208) #[] #[], 10⟩] : List MapEntry).take n).toArray
theorem twos_new (n : Nat) (_hn : n < 11) : ∀ f e, (([⟨.int .i64 3, .func (.func 197) #[] #[], 0⟩, ⟨.int .i64 4, .func (.func 198) #[] #[], 1⟩, ⟨.int .i64 5, .func (.func 199) #[] #[], 2⟩, ⟨.int .i64 6, .func (.func 200) #[] #[], 3⟩, ⟨.int .i64 7, .func (.func 201) #[] #[], 4⟩, ⟨.int .i64 8, .func (.func 202) #[] #[], 5⟩, ⟨.int .i64 9, .func (.func 204) #[] #[], 6⟩, ⟨.int .i64 10, .func (.func 205) #[] #[], 7⟩, ⟨.int .i64 11, .func (.func 206) #[] #[], 8⟩, ⟨.int .i64 12, .func (.func 207) #[] #[], 9⟩, ⟨.int .i64 13, .func (.func 208) #[] #[], 10⟩] : List MapEntry)[n]?) = some ⟨.int .i64 (n + 3), f, e⟩ → twosE (n + 1) = (twosE n).push ⟨.int .i64 (n + 3), f, e⟩ := by
  intro f e h
  unfold twosE
  rw [List.take_add_one, h]
  simp
set_option maxRecDepth 100000 in
set_option maxHeartbeats 1000000 in
theorem twos_any (w : World) : Calls Tryz.prog 157 #[] w fun e w' => e = .returned (.map (some w.heap.size)) ∧ MapB w' w.heap.size (twosE 11) 11 ∧ Ext w w' := by
  have hmm := @run_makeMap Tryz.prog
  go_enter Tryz.func157, Tryz.ntmps157
  go_upto_region 1 with (fail)
  go_step
  iterate 1 (refine wpList_step (fun K hK => ?_); go_simp; (try go_bits); refine hK _ _ ?_; clear hK K)
  have b0 : MapB (w.alloc (.map #[] 0)) w.heap.size (twosE 0) 0 := heap_alloc_new w _
  have y0 : Ext w (w.alloc (.map #[] 0)) := (Kept.refl _ w).alloc _
  generalize (w.alloc (.map #[] 0)) = w0 at b0 y0 ⊢
  obtain ⟨w1, r1, b1, k1⟩ := insStep w0 w.heap.size (twosE 0) 0 3 (.func (.func 197) #[] #[]) b0 (by rfl)
  refine wpList_ins rfl 233 (.tmp 1) (.const (.int .i64 3)) (.func 197) rfl rfl rfl rfl rfl r1 ?_
  replace b1 : MapB w1 w.heap.size (twosE 1) 1 := b1
  have y1 : Ext w w1 := y0.trans' k1 (fun i hi e => by omega)
  clear r1 k1 b0 y0
  obtain ⟨w2, r2, b2, k2⟩ := insStep w1 w.heap.size (twosE 1) 1 4 (.func (.func 198) #[] #[]) b1 (by rfl)
  refine wpList_ins rfl 233 (.tmp 1) (.const (.int .i64 4)) (.func 198) rfl rfl rfl rfl rfl r2 ?_
  replace b2 : MapB w2 w.heap.size (twosE 2) 2 := b2
  have y2 : Ext w w2 := y1.trans' k2 (fun i hi e => by omega)
  clear r2 k2 b1 y1
  obtain ⟨w3, r3, b3, k3⟩ := insStep w2 w.heap.size (twosE 2) 2 5 (.func (.func 199) #[] #[]) b2 (by rfl)
  refine wpList_ins rfl 233 (.tmp 1) (.const (.int .i64 5)) (.func 199) rfl rfl rfl rfl rfl r3 ?_
  replace b3 : MapB w3 w.heap.size (twosE 3) 3 := b3
  have y3 : Ext w w3 := y2.trans' k3 (fun i hi e => by omega)
  clear r3 k3 b2 y2
  obtain ⟨w4, r4, b4, k4⟩ := insStep w3 w.heap.size (twosE 3) 3 6 (.func (.func 200) #[] #[]) b3 (by rfl)
  refine wpList_ins rfl 233 (.tmp 1) (.const (.int .i64 6)) (.func 200) rfl rfl rfl rfl rfl r4 ?_
  replace b4 : MapB w4 w.heap.size (twosE 4) 4 := b4
  have y4 : Ext w w4 := y3.trans' k4 (fun i hi e => by omega)
  clear r4 k4 b3 y3
  obtain ⟨w5, r5, b5, k5⟩ := insStep w4 w.heap.size (twosE 4) 4 7 (.func (.func 201) #[] #[]) b4 (by rfl)
  refine wpList_ins rfl 233 (.tmp 1) (.const (.int .i64 7)) (.func 201) rfl rfl rfl rfl rfl r5 ?_
  replace b5 : MapB w5 w.heap.size (twosE 5) 5 := b5
  have y5 : Ext w w5 := y4.trans' k5 (fun i hi e => by omega)
  clear r5 k5 b4 y4
  obtain ⟨w6, r6, b6, k6⟩ := insStep w5 w.heap.size (twosE 5) 5 8 (.func (.func 202) #[] #[]) b5 (by rfl)
  refine wpList_ins rfl 233 (.tmp 1) (.const (.int .i64 8)) (.func 202) rfl rfl rfl rfl rfl r6 ?_
  replace b6 : MapB w6 w.heap.size (twosE 6) 6 := b6
  have y6 : Ext w w6 := y5.trans' k6 (fun i hi e => by omega)
  clear r6 k6 b5 y5
  obtain ⟨w7, r7, b7, k7⟩ := insStep w6 w.heap.size (twosE 6) 6 9 (.func (.func 204) #[] #[]) b6 (by rfl)
  refine wpList_ins rfl 233 (.tmp 1) (.const (.int .i64 9)) (.func 204) rfl rfl rfl rfl rfl r7 ?_
  replace b7 : MapB w7 w.heap.size (twosE 7) 7 := b7
  have y7 : Ext w w7 := y6.trans' k7 (fun i hi e => by omega)
  clear r7 k7 b6 y6
  obtain ⟨w8, r8, b8, k8⟩ := insStep w7 w.heap.size (twosE 7) 7 10 (.func (.func 205) #[] #[]) b7 (by rfl)
  refine wpList_ins rfl 233 (.tmp 1) (.const (.int .i64 10)) (.func 205) rfl rfl rfl rfl rfl r8 ?_
  replace b8 : MapB w8 w.heap.size (twosE 8) 8 := b8
  have y8 : Ext w w8 := y7.trans' k8 (fun i hi e => by omega)
  clear r8 k8 b7 y7
  obtain ⟨w9, r9, b9, k9⟩ := insStep w8 w.heap.size (twosE 8) 8 11 (.func (.func 206) #[] #[]) b8 (by rfl)
  refine wpList_ins rfl 233 (.tmp 1) (.const (.int .i64 11)) (.func 206) rfl rfl rfl rfl rfl r9 ?_
  replace b9 : MapB w9 w.heap.size (twosE 9) 9 := b9
  have y9 : Ext w w9 := y8.trans' k9 (fun i hi e => by omega)
  clear r9 k9 b8 y8
  obtain ⟨w10, r10, b10, k10⟩ := insStep w9 w.heap.size (twosE 9) 9 12 (.func (.func 207) #[] #[]) b9 (by rfl)
  refine wpList_ins rfl 233 (.tmp 1) (.const (.int .i64 12)) (.func 207) rfl rfl rfl rfl rfl r10 ?_
  replace b10 : MapB w10 w.heap.size (twosE 10) 10 := b10
  have y10 : Ext w w10 := y9.trans' k10 (fun i hi e => by omega)
  clear r10 k10 b9 y9
  obtain ⟨w11, r11, b11, k11⟩ := insStep w10 w.heap.size (twosE 10) 10 13 (.func (.func 208) #[] #[]) b10 (by rfl)
  refine wpList_ins rfl 233 (.tmp 1) (.const (.int .i64 13)) (.func 208) rfl rfl rfl rfl rfl r11 ?_
  replace b11 : MapB w11 w.heap.size (twosE 11) 11 := b11
  have y11 : Ext w w11 := y10.trans' k11 (fun i hi e => by omega)
  clear r11 k11 b10 y10
  go_wp2_with fail
  go_ret
  exact ⟨rfl, b11, y11⟩
theorem lookF (w : World) (g : Nat) (k : Int) (f : Value) (i : Nat) (hb : MapB w g (twosE 11) 11) (hf : Instr.findNow (.int .i64) (.int .i64 k) (twosE 11).toList 0 = some (some (i, f))) :
    (Instr.lookup 233 (.map (some g)) (.int .i64 k) false).run Tryz.prog w = .ok f w := by
  have hc : (Instr.checkKey (twosE 11).isEmpty 10000 3 (.int .i64 k)).run Tryz.prog w = .ok () w := MapKept.run_checkKey (k := .int .i64 k) Tryz.underlying3 (by simp [MapKept.IsKey]) _ 9999
  simp [Instr.lookup, run_underlying Tryz.underlying233, MapKept.run_getObj_map hb, hc, MapKept.run_findKey Tryz.underlying3 hf, Result.andThen]
def truthI (b : Bool) : Int := if b = true then 1 else 0
theorem truth_any (b : Bool) (w : World) : Calls Tryz.prog 203 #[.bool b] w fun e w' => e = .returned (.int .i32 (truthI b)) ∧ w = w' := by
  cases b
  all_goals
    go_enter Tryz.func203, Tryz.ntmps203
    go_wp2_with fail
    go_ret
    exact ⟨rfl, rfl⟩
def twoI (k : Nat) (b c : Int) : Int := match k with
  | 3 => IntKind.i32.wrap (b + c)
  | 4 => IntKind.i32.wrap (b - c)
  | 5 => IntKind.i32.wrap (b * c)
  | 6 => if c = 0 then 0 else IntKind.i32.wrap (b.tdiv c)
  | 7 => if c = 0 then 0 else b.tmod c
  | 8 => truthI (b == c)
  | 9 => truthI (b != c)
  | 10 => truthI (decide (b < c))
  | 11 => truthI (decide (b ≤ c))
  | 12 => truthI (b != 0 && c != 0)
  | _ => truthI (b != 0 || c != 0)
end Go.Proofs.YtahljceanodhkaaGreatDoor

/- Package machine: the operations of two words. -/
namespace Go.Proofs.YtahljceanodhkaaGreatDoor
open Go.RowKit
set_option maxHeartbeats 400000 in
theorem two3 (b c : Int) (_hb : i32ok b) (_hc : i32ok c) (w : World) : Calls Tryz.prog 197 #[.int .i32 b, .int .i32 c] w fun e w' => e = .returned (.int .i32 (twoI 3 b c)) ∧ w = w' := by
  unfold i32ok at _hb _hc
  go_enter Tryz.func197, Tryz.ntmps197
  go_wp2_with fail
  go_ret
  exact ⟨ret_int (by simp [twoI, IntKind.wrap_i32, wrap32]), rfl⟩
set_option maxHeartbeats 400000 in
theorem two4 (b c : Int) (_hb : i32ok b) (_hc : i32ok c) (w : World) : Calls Tryz.prog 198 #[.int .i32 b, .int .i32 c] w fun e w' => e = .returned (.int .i32 (twoI 4 b c)) ∧ w = w' := by
  unfold i32ok at _hb _hc
  go_enter Tryz.func198, Tryz.ntmps198
  go_wp2_with fail
  go_ret
  exact ⟨ret_int (by simp [twoI, IntKind.wrap_i32, wrap32]), rfl⟩
set_option maxHeartbeats 400000 in
theorem two5 (b c : Int) (_hb : i32ok b) (_hc : i32ok c) (w : World) : Calls Tryz.prog 199 #[.int .i32 b, .int .i32 c] w fun e w' => e = .returned (.int .i32 (twoI 5 b c)) ∧ w = w' := by
  unfold i32ok at _hb _hc
  go_enter Tryz.func199, Tryz.ntmps199
  go_wp2_with fail
  go_ret
  exact ⟨ret_int (by simp [twoI, IntKind.wrap_i32, wrap32]), rfl⟩
set_option maxHeartbeats 400000 in
theorem two6 (b c : Int) (_hb : i32ok b) (_hc : i32ok c) (w : World) : Calls Tryz.prog 200 #[.int .i32 b, .int .i32 c] w fun e w' => e = .returned (.int .i32 (twoI 6 b c)) ∧ w = w' := by
  unfold i32ok at _hb _hc
  by_cases h0 : c = 0
  · have b0 : (c == 0) = true := by simp [h0]
    have H0 := Lib.hid h0
    clear h0
    go_enter Tryz.func200, Tryz.ntmps200
    go_wp2_with fail
    go_ret
    exact ⟨ret_int (by simp [twoI, H0.out]), rfl⟩
  · have b0 : (c == 0) = false := by simp [h0]
    have H0 := Lib.hid h0
    go_enter Tryz.func200, Tryz.ntmps200
    go_wp2_with fail
    go_ret
    exact ⟨ret_int (by simp [twoI, H0.out, IntKind.wrap_i32, wrap32]), rfl⟩
set_option maxHeartbeats 400000 in
theorem two7 (b c : Int) (_hb : i32ok b) (_hc : i32ok c) (w : World) : Calls Tryz.prog 201 #[.int .i32 b, .int .i32 c] w fun e w' => e = .returned (.int .i32 (twoI 7 b c)) ∧ w = w' := by
  unfold i32ok at _hb _hc
  by_cases h0 : c = 0
  · have b0 : (c == 0) = true := by simp [h0]
    have H0 := Lib.hid h0
    clear h0
    go_enter Tryz.func201, Tryz.ntmps201
    go_wp2_with fail
    go_ret
    exact ⟨ret_int (by simp [twoI, H0.out]), rfl⟩
  · have b0 : (c == 0) = false := by simp [h0]
    have H0 := Lib.hid h0
    go_enter Tryz.func201, Tryz.ntmps201
    go_wp2_with fail
    go_ret
    exact ⟨ret_int (by simp [twoI, H0.out]), rfl⟩
set_option maxHeartbeats 400000 in
theorem two8 (b c : Int) (_hb : i32ok b) (_hc : i32ok c) (w : World) : Calls Tryz.prog 202 #[.int .i32 b, .int .i32 c] w fun e w' => e = .returned (.int .i32 (twoI 8 b c)) ∧ w = w' := by
  unfold i32ok at _hb _hc
  go_enter Tryz.func202, Tryz.ntmps202
  go_wp2_with fail
  refine (truth_any _ _).mono ?_
  rintro e w1 ⟨rfl, rfl⟩
  go_wp2_with fail
  go_ret
  exact ⟨rfl, rfl⟩
set_option maxHeartbeats 400000 in
theorem two9 (b c : Int) (_hb : i32ok b) (_hc : i32ok c) (w : World) : Calls Tryz.prog 204 #[.int .i32 b, .int .i32 c] w fun e w' => e = .returned (.int .i32 (twoI 9 b c)) ∧ w = w' := by
  unfold i32ok at _hb _hc
  go_enter Tryz.func204, Tryz.ntmps204
  go_wp2_with fail
  refine (truth_any _ _).mono ?_
  rintro e w1 ⟨rfl, rfl⟩
  go_wp2_with fail
  go_ret
  exact ⟨rfl, rfl⟩
set_option maxHeartbeats 400000 in
theorem two10 (b c : Int) (_hb : i32ok b) (_hc : i32ok c) (w : World) : Calls Tryz.prog 205 #[.int .i32 b, .int .i32 c] w fun e w' => e = .returned (.int .i32 (twoI 10 b c)) ∧ w = w' := by
  unfold i32ok at _hb _hc
  go_enter Tryz.func205, Tryz.ntmps205
  go_wp2_with fail
  refine (truth_any _ _).mono ?_
  rintro e w1 ⟨rfl, rfl⟩
  go_wp2_with fail
  go_ret
  exact ⟨rfl, rfl⟩
set_option maxHeartbeats 400000 in
theorem two11 (b c : Int) (_hb : i32ok b) (_hc : i32ok c) (w : World) : Calls Tryz.prog 206 #[.int .i32 b, .int .i32 c] w fun e w' => e = .returned (.int .i32 (twoI 11 b c)) ∧ w = w' := by
  unfold i32ok at _hb _hc
  go_enter Tryz.func206, Tryz.ntmps206
  go_wp2_with fail
  refine (truth_any _ _).mono ?_
  rintro e w1 ⟨rfl, rfl⟩
  go_wp2_with fail
  go_ret
  exact ⟨rfl, rfl⟩
set_option maxHeartbeats 400000 in
theorem two12 (b c : Int) (_hb : i32ok b) (_hc : i32ok c) (w : World) : Calls Tryz.prog 207 #[.int .i32 b, .int .i32 c] w fun e w' => e = .returned (.int .i32 (twoI 12 b c)) ∧ w = w' := by
  unfold i32ok at _hb _hc
  by_cases h0 : b = 0
  · have b0 : (b != 0) = false := by simp [h0]
    have H0 := Lib.hid h0
    clear h0
    go_enter Tryz.func207, Tryz.ntmps207
    go_wp2_with fail
    refine (truth_any _ _).mono ?_
    rintro e w1 ⟨rfl, rfl⟩
    go_wp2_with fail
    go_ret
    exact ⟨ret_int (by simp [twoI, H0.out]), rfl⟩
  · have b0 : (b != 0) = true := by simp [h0]
    have H0 := Lib.hid h0
    clear h0
    go_enter Tryz.func207, Tryz.ntmps207
    go_wp2_with fail
    refine (truth_any _ _).mono ?_
    rintro e w1 ⟨rfl, rfl⟩
    go_wp2_with fail
    go_ret
    exact ⟨ret_int (by unfold twoI; rw [b0]; rfl), rfl⟩
set_option maxHeartbeats 400000 in
theorem two13 (b c : Int) (_hb : i32ok b) (_hc : i32ok c) (w : World) : Calls Tryz.prog 208 #[.int .i32 b, .int .i32 c] w fun e w' => e = .returned (.int .i32 (twoI 13 b c)) ∧ w = w' := by
  unfold i32ok at _hb _hc
  by_cases h0 : b = 0
  · have b0 : (b != 0) = false := by simp [h0]
    have H0 := Lib.hid h0
    clear h0
    go_enter Tryz.func208, Tryz.ntmps208
    go_wp2_with fail
    refine (truth_any _ _).mono ?_
    rintro e w1 ⟨rfl, rfl⟩
    go_wp2_with fail
    go_ret
    exact ⟨ret_int (by simp [twoI, H0.out]), rfl⟩
  · have b0 : (b != 0) = true := by simp [h0]
    have H0 := Lib.hid h0
    clear h0
    go_enter Tryz.func208, Tryz.ntmps208
    go_wp2_with fail
    refine (truth_any _ _).mono ?_
    rintro e w1 ⟨rfl, rfl⟩
    go_wp2_with fail
    go_ret
    exact ⟨ret_int (by unfold twoI; rw [b0]; rfl), rfl⟩
end Go.Proofs.YtahljceanodhkaaGreatDoor

/- Words of a memory of its own; what a step does, in plain words. -/
namespace Go.Proofs.YtahljceanodhkaaGreatDoor
open Go.RowKit
/-- words that the call owns -/
def MemAt (w : World) (base g n kc : Nat) (m : List Int) : Prop := w.ownsRow base 21 1 (.slice (some ⟨g, 0, none⟩) n kc) n (mems m)
section
variable {w w' : World} {base g n kc : Nat} {m : List Int}
theorem mems_len (m : List Int) : (mems m).length = m.length := by simp [mems]
theorem MemAt.inv (h : MemAt w base g n kc m) : n = m.length ∧ ∃ cur, base ≤ g ∧ w.heap[g]? = some (.cells cur 21 (0, 0)) ∧ n ≤ kc ∧ kc ≤ maxLen ∧ cur.size = kc ∧ cur.toList.take n = mems m := by
  have hl := h.1
  rw [mems_len, Nat.mul_one] at hl
  rcases h.2 with ⟨hv, _⟩ | ⟨g', c, cur, hv, hb, hc, hnc, hcm, hcs, htk⟩
  · simp at hv
  · simp at hv
    obtain ⟨rfl, rfl⟩ := hv
    rw [Nat.mul_one] at hcs htk
    exact ⟨hl.symm, cur, hb, hc, hnc, hcm, hcs, htk⟩
theorem MemAt.row (h : MemAt w base g n kc m) : Row w g 0 (mems m) := by
  obtain ⟨hn, cur, hb, hc, hnc, hcm, hcs, htk⟩ := h.inv
  refine ⟨?_, ?_, (Array.getElem?_eq_some_iff.1 hc).1⟩
  · unfold Proofs.YtahljceanodhkaaGreatDoor.has; rw [hc, mems_len]; simp; omega
  · unfold gets; rw [hc, mems_len, ← hn]; simp only [List.drop_zero]; rw [htk]
theorem MemAt.lt (h : MemAt w base g n kc m) : g < w.heap.size := h.row.lt
theorem MemAt.cell (h : MemAt w base g n kc m) (k : Nat) (hk : k < m.length) : w.cell? ⟨g, k, none⟩ = some (.int .i32 m[k]) := by
  have := h.row.mem k hk
  rwa [Nat.zero_add] at this
theorem MemAt.frozen (h : MemAt w base g n kc m) (k : Nat) : w.frozen? ⟨g, k, none⟩ = false := by
  obtain ⟨hn, cur, hb, hc, _⟩ := h.inv
  simp [World.frozen?, hc]
theorem MemAt.kept {S : Nat → Prop} (h : MemAt w base g n kc m) (hk : Kept S w w') (hs : ¬ S g) : MemAt w' base g n kc m := own_kept h hk (fun x hx => by simp [Value.ownBlock] at hx; subst hx; exact hs)
theorem MemAt.ext (h : MemAt w base g n kc m) (hk : Ext w w') : MemAt w' base g n kc m := own_ext h hk
theorem MemAt.far (h : MemAt w base g n kc m) {p : Addr} (hp : ¬ g = p.block) (u : Value) : MemAt (w.setCell p u) base g n kc m :=
  h.kept (Kept.setCell (S := (· = p.block)) (Kept.refl _ w) p u (fun _ => rfl)) hp
theorem MemAt.set (h : MemAt w base g n kc m) (k : Nat) (_hk : k < m.length) (v : Int) : MemAt (w.setCell ⟨g, k, none⟩ (.int .i32 v)) base g n kc (m.set k v) := by
  obtain ⟨hn, cur, hb, hc, hnc, hcm, hcs, htk⟩ := h.inv
  refine ⟨by rw [mems_len]; simp [hn], .inr ⟨g, kc, cur.setIfInBounds k (.int .i32 v), rfl, hb, ?_, hnc, hcm, by simpa using hcs, ?_⟩⟩
  · simp [World.setCell, Array.getElem?_modify, hc]
  · rw [Nat.mul_one, Array.toList_setIfInBounds, List.take_set, htk, mems, mems, List.map_set]
end
/-- what a step leaves of a state and its words -/
structure Stepped (w w' : World) (base s g n kc : Nat) (r : Int × Int × List Int) : Prop where
  st : StAt w' s 70 r.1 (some ⟨g, 0, none⟩) n kc r.2.1
  mem : MemAt w' base g n kc r.2.2
  kept : Kept (fun i => i = s ∨ i = g) w w'
theorem Stepped.goal {w w2 : World} {base s g n kc : Nat} {m : List Int} {pc halt : Int} (hk : Kept (fun i => i = s ∨ i = g) w w2) (hs : StAt w2 s 70 pc (some ⟨g, 0, none⟩) n kc halt) (hm : MemAt w2 base g n kc m) (hsg : ¬ s = g) (pc' : Int) :
    Stepped w (w2.setCell ⟨s, 0, none⟩ (.int .i64 pc')) base s g n kc (pc', halt, m) :=
  ⟨Blk.set_ hs 0 (.int .i64 pc'), hm.far (fun e => hsg e.symm) _, Kept.setCell hk _ _ (fun _ => .inl rfl)⟩
theorem Stepped.halt {w w2 : World} {base s g n kc : Nat} {m : List Int} {pc halt : Int} (hk : Kept (fun i => i = s ∨ i = g) w w2) (hs : StAt w2 s 70 pc (some ⟨g, 0, none⟩) n kc halt) (hm : MemAt w2 base g n kc m) (hsg : ¬ s = g) (halt' : Int) :
    Stepped w (w2.setCell ⟨s, 2, none⟩ (.int .i64 halt')) base s g n kc (pc, halt', m) :=
  ⟨Blk.set_ hs 2 (.int .i64 halt'), hm.far (fun e => hsg e.symm) _, Kept.setCell hk _ _ (fun _ => .inl rfl)⟩
def mget (m : List Int) (i : Int) : Int := m.getD i.toNat 0
def mput (m : List Int) (i : Int) (v : Int) : List Int := m.set i.toNat v
/-- what an instruction that may be does; the word that a load or a store names is there -/
def execI (i : Ins) (pc : Int) (m : List Int) : Int × Int × List Int :=
  if i.op = 0 then (pc, 1 + i.a, m)
  else if i.op = 1 then (pc + 1, 0, mput m i.a i.b)
  else if i.op = 2 then (pc + 1, 0, mput m i.a (mget m i.b))
  else if i.op = 14 then (pc + 1, 0, mput m i.a (truthI (mget m i.b == 0)))
  else if i.op = 15 then (pc + 1, 0, mput m i.a (mget m (farI i m)))
  else if i.op = 16 then (pc + 1, 0, mput m (farI i m) (mget m i.c))
  else if i.op = 17 then (pc + 1, 0, mput m i.a (min (max (mget m i.a) i.b) i.c))
  else if i.op = 18 then (pc + 1, 0, mput m i.a (truthI (decide (0 ≤ mget m i.b) && decide (mget m i.b < i.c))))
  else if i.op = 19 then (i.a, 0, m)
  else if i.op = 20 then (if mget m i.b = 0 then i.a else pc + 1, 0, m)
  else if i.op = 21 then (if mget m i.b = 0 then pc + 1 else i.a, 0, m)
  else (pc + 1, 0, mput m i.a (twoI i.op.toNat (mget m i.b) (mget m i.c)))
def lost (i : Ins) (m : List Int) : Bool := decide (farI i m < 0) && (i.op == 15 || i.op == 16)
def stepI (c : List Ins) (pc : Int) (m : List Int) : Int × Int × List Int :=
  match nextI c pc m.length with
  | none => (pc, 2, m)
  | some i => if lost i m = true then (pc, 2, m) else execI i pc m
end Go.Proofs.YtahljceanodhkaaGreatDoor

/- Package machine: step, operation by operation. -/
namespace Go.Proofs.YtahljceanodhkaaGreatDoor
open Go.RowKit
/-- what a step asks of memory -/
structure StepPre (w : World) (base s g n kc q : Nat) (A : Option Addr) (b off cn : Nat) (c : List Ins) (pc : Int) (m : List Int) : Prop where
  n_eq : n = m.length
  n1 : 1 ≤ n
  n2 : n ≤ 256
  mok : ∀ x ∈ m, i32ok x
  ops : OpsAt w
  st : StAt w s 70 pc (some ⟨g, 0, none⟩) n kc 0
  mem : MemAt w base g n kc m
  map : MapB w q (twosE 11) 11
  cA : 0 < cn → A = some ⟨b, off, none⟩
  row : 0 < cn → Row w b off (inss c)
  cn_eq : cn = c.length
  cn2 : cn ≤ 2048
  pc0 : 0 ≤ pc
  pc1 : pc ≤ 2048
  sg : ¬ s = g
theorem mget_in {m : List Int} {k : Nat} (hk : k < m.length) : mget m (k : Int) = m[k] := by simp [mget, hk]
theorem results_none' {P : Program} {fn : Func} {R : Ending → World → Prop} {a : Act} {w : World} (hres : fn.results = #[]) (hd : a.defers = []) (hR : R (.returned (.tuple #[])) w) : bodyPost P fn R .ret a w :=
  bodyPost_ret (results_none hres _ _ _) hd hR
end Go.Proofs.YtahljceanodhkaaGreatDoor

/- The document's answer of layer 14: Right, and what it calls. -/
namespace Go.Proofs.YtahljceanodhkaaGreatDoor
open Go.RowKit
set_option maxHeartbeats 400000 in
theorem rnumber_any (n : Int) (w : World) : Calls Tryz.prog 172 #[.int .i64 n] w fun e w' => e = .returned (.bool (i32B n)) ∧ w = w' := by
  by_cases h1 : -2147483648 ≤ n
  · go_enter Tryz.func172, Tryz.ntmps172
    go_wp2_with fail
    go_ret
    exact ⟨ret_bool (by rw [Bool.eq_iff_iff]; simp [i32B]; omega), rfl⟩
  · go_enter Tryz.func172, Tryz.ntmps172
    go_wp2_with fail
    go_ret
    exact ⟨ret_bool (by rw [Bool.eq_iff_iff]; simp [i32B]; omega), rfl⟩
set_option maxHeartbeats 400000 in
theorem rthree_any (i : Ins) (w : World) : Calls Tryz.prog 228 #[.agg i.cells] w fun e w' => e = .returned (.agg #[.int .i64 i.a, .int .i64 i.b, .int .i64 i.c]) ∧ Ext w w' := by
  have hx0 : Ext w _ := ((Kept.refl _ w).alloc (.cells i.cells 89)).alloc (.cells #[.int .i64 i.a, .int .i64 i.b, .int .i64 i.c] 153)
  go_enter Tryz.func228, Tryz.ntmps228
  go_wp2_with fail
  refine ret_cell Tryz.results228 rfl rfl aggArr3 (by exact sizeArr3) (Blk.new' _ _ _ _ (by simp)) ⟨rfl, hx0⟩
set_option maxRecDepth 100000 in
set_option maxHeartbeats 2000000 in
theorem rhas_any (k : Int) (h0 : 0 ≤ k) (h1 : k ≤ 21) (w : World) : Calls Tryz.prog 229 #[.int .i64 k] w fun e w' => e = .returned (.string (hasS k.toNat)) ∧ Ext w w' := by
  rcases (by omega : k = 0 ∨ k = 1 ∨ k = 2 ∨ k = 3 ∨ k = 4 ∨ k = 5 ∨ k = 6 ∨ k = 7 ∨ k = 8 ∨ k = 9 ∨ k = 10 ∨ k = 11 ∨ k = 12 ∨ k = 13 ∨ k = 14 ∨ k = 15 ∨ k = 16 ∨ k = 17 ∨ k = 18 ∨ k = 19 ∨ k = 20 ∨ k = 21) with rfl | rfl | rfl | rfl | rfl | rfl | rfl | rfl | rfl | rfl | rfl | rfl | rfl | rfl | rfl | rfl | rfl | rfl | rfl | rfl | rfl | rfl
  all_goals
    clear h0 h1
    go_enter Tryz.func229, Tryz.ntmps229
    go_wp2_with fail
    go_ret
    exact ⟨rfl, (Kept.refl _ w).alloc _⟩
theorem hasN_ch (k : Nat) : ∀ c ∈ hasN k, c = 110 ∨ c = 112 ∨ c = 119 := by
  unfold hasN
  split <;> simp
set_option maxRecDepth 100000 in
set_option maxHeartbeats 2000000 in
theorem rright14_any (i : Ins) (size words : Int) (w : World) : Calls Tryz.prog 195 #[.agg i.cells, .int .i64 size, .int .i64 words] w fun e w' => e = .returned (.bool (rightI i size words)) ∧ Ext w w' := by
  have hx0 : Ext w _ := (Kept.refl _ w).alloc (.cells i.cells 89)
  have hI0 := Blk.new w 89 i.cells
  by_cases h : isOp i.op = true
  · have HH := Lib.hid h
    obtain ⟨o0, o1⟩ : 0 ≤ i.op ∧ i.op ≤ 21 := by simp [isOp] at h; omega
    clear h
    obtain ⟨R, hR⟩ : ∃ R, R = rightI i size words := ⟨_, rfl⟩
    rw [← hR]
    have HR := Lib.hid hR
    clear hR
    go_enter Tryz.func195, Tryz.ntmps195
    go_wp2_with fail
    refine (rthree_any i _).mono ?_
    rintro e w2 ⟨rfl, hx2⟩
    have hI2 := Blk.ext hI0 hx2
    have y2 := hx0.trans hx2
    clear hI0 hx2 hx0
    go_upto_region 4 with (fail)
    have y3 : Ext w (w2.alloc (.cells #[.int .i64 i.a, .int .i64 i.b, .int .i64 i.c] 153)) := y2.alloc _
    have hI3 := Blk.alloc hI2 (.cells #[.int .i64 i.a, .int .i64 i.b, .int .i64 i.c] 153)
    have hT3 := Blk.new w2 153 #[.int .i64 i.a, .int .i64 i.b, .int .i64 i.c]
    generalize (w2.alloc (.cells #[.int .i64 i.a, .int .i64 i.b, .int .i64 i.c] 153)) = W3 at y3 hI3 hT3 ⊢
    generalize (w2 : World).heap.size = tb at hT3 ⊢
    clear hI2 y2
    have j1 := Blk.cell hI3
    have j2 := hI3.lt
    go_wp2_with fail
    refine (rhas_any i.op o0 o1 W3).mono ?_
    rintro e w4 ⟨e4, hx4⟩
    obtain ⟨h, hh⟩ : ∃ h, h = hasN i.op.toNat := ⟨_, rfl⟩
    replace e4 : e = .returned (.string ⟨h.toArray⟩) := by
      rw [e4, hh]
      rfl
    subst e4
    have hlen : h.length ≤ 3 := by rw [hh]; exact hasN_len _
    have hch : ∀ c ∈ h, c = 110 ∨ c = 112 ∨ c = 119 := by rw [hh]; exact hasN_ch _
    have HHN := Lib.hid hh
    have HCH := Lib.hid hch
    have hI4 := Blk.ext hI3 hx4
    have hT4 := Blk.ext hT3 hx4
    have y4 := y3.trans hx4
    have hTl := hT4.lt
    clear hh hch hI3 hT3 hx4 y3 j1 j2
    go_wp2_with fail
    go_loop [9] (fun t9 => ∃ (k : Nat), k ≤ 3 ∧ t9 = .int .i64 k ∧ (∀ j, j < k → okP h j (nth3 i j) size words = true)) (fun t9 => 3 - (intOf t9).toNat)
    case atStart => exact ⟨0, by omega, rfl, fun j hj => by omega⟩
    case round =>
      obtain ⟨k, hk, rfl, hprev⟩ := hrel
      have HP := Lib.hid hprev
      clear hprev
      by_cases hlt : k < 3
      · have hix : w4.cell? ⟨tb, k, none⟩ = some (.int .i64 (nth3 i k)) := by
          rw [Blk.cell hT4 k]
          rcases (by omega : k = 0 ∨ k = 1 ∨ k = 2) with rfl | rfl | rfl <;> rfl
        have hkI : (k : Int) < 3 := by omega
        have hkI0 : (0 : Int) ≤ k := by omega
        obtain ⟨n, hn⟩ : ∃ n, n = nth3 i k := ⟨_, rfl⟩
        rw [← hn] at hix
        have HNn := Lib.hid hn
        clear hn
        have next : okP h k n size words = true → ∀ j, j < k + 1 → okP h j (nth3 i j) size words = true := fun hq j hj => by
          by_cases e : j = k
          · subst e; rw [← HNn.out]; exact hq
          · exact HP.out j (by omega)
        have stop : okP h k n size words = false → R = false := fun hq => by
          rw [HR.out]; exact rightI_false hlt (by rw [← HHN.out, ← HNn.out]; exact hq)
        have NX := Lib.hid next
        have SP := Lib.hid stop
        clear next stop
        by_cases hkl : k < h.length
        · have hklI : (k : Int) < h.length := by omega
          obtain ⟨c, hc⟩ : ∃ c, c = h[k] := ⟨_, rfl⟩
          have hget : h[k]? = some c := by rw [List.getElem?_eq_getElem hkl, hc]
          have hcN : ((⟨h.toArray⟩ : ByteArray)[k]'(show k < h.toArray.size by simpa using hkl)).toNat = c.toNat := by rw [hc]; rfl
          have HG := Lib.hid hget
          clear hget hc
          by_cases h1 : c = 119
          · subst h1
            replace hcN : ((⟨h.toArray⟩ : ByteArray)[k]'(show k < h.toArray.size by simpa using hkl)).toNat = 119 := hcN
            by_cases hn0 : 0 ≤ n
            · by_cases hn1 : n < words
              · have ok : okP h k n size words = true := by simp [okP, okN, HG.out, hn0, hn1]
                have OK := Lib.hid ok
                clear ok
                go_wp2_with fail
                go_round
                case rel => exact ⟨k + 1, hlt, by go_num, NX.out OK.out⟩
                case measure => simp only [intOf]; omega
              · have ok : okP h k n size words = false := by simp [okP, okN, HG.out, hn1]
                have OK := Lib.hid ok
                clear ok
                go_wp2_with fail
                go_ret
                exact ⟨ret_bool (SP.out OK.out).symm, y4⟩
            · have ok : okP h k n size words = false := by simp [okP, okN, HG.out, hn0]
              have OK := Lib.hid ok
              clear ok
              go_wp2_with fail
              go_ret
              exact ⟨ret_bool (SP.out OK.out).symm, y4⟩
          · by_cases h2 : c = 112
            · subst h2
              replace hcN : ((⟨h.toArray⟩ : ByteArray)[k]'(show k < h.toArray.size by simpa using hkl)).toNat = 112 := hcN
              by_cases hn0 : 0 ≤ n
              · by_cases hn1 : n < size
                · have ok : okP h k n size words = true := by simp [okP, okN, HG.out, hn0, hn1]
                  have OK := Lib.hid ok
                  clear ok
                  go_wp2_with fail
                  go_round
                  case rel => exact ⟨k + 1, hlt, by go_num, NX.out OK.out⟩
                  case measure => simp only [intOf]; omega
                · have ok : okP h k n size words = false := by simp [okP, okN, HG.out, hn1]
                  have OK := Lib.hid ok
                  clear ok
                  go_wp2_with fail
                  go_ret
                  exact ⟨ret_bool (SP.out OK.out).symm, y4⟩
              · have ok : okP h k n size words = false := by simp [okP, okN, HG.out, hn0]
                have OK := Lib.hid ok
                clear ok
                go_wp2_with fail
                go_ret
                exact ⟨ret_bool (SP.out OK.out).symm, y4⟩
            · have h3 : c = 110 := by
                have := HCH.out c (by have := HG.out; exact List.mem_of_getElem? this)
                rcases this with e | e | e
                · exact e
                · exact absurd e h2
                · exact absurd e h1
              have ok : okP h k n size words = i32B n := by simp [okP, okN, HG.out, h1, h2]
              subst h3
              replace hcN : ((⟨h.toArray⟩ : ByteArray)[k]'(show k < h.toArray.size by simpa using hkl)).toNat = 110 := hcN
              have OK := Lib.hid ok
              clear ok h1 h2
              go_wp2_with fail
              refine (rnumber_any n _).mono ?_
              rintro e w5 ⟨rfl, rfl⟩
              cases hi : i32B n
              · have HI := Lib.hid hi
                clear hi
                go_wp2_with fail
                go_ret
                exact ⟨ret_bool (SP.out (OK.out.trans HI.out)).symm, y4⟩
              · have HI := Lib.hid hi
                clear hi
                go_wp2_with fail
                go_round
                case rel => exact ⟨k + 1, hlt, by go_num, NX.out (OK.out.trans HI.out)⟩
                case measure => simp only [intOf]; omega
        · have hklI : ¬ (k : Int) < h.length := by omega
          have ok : okP h k n size words = (n == 0) := by simp [okP, List.getElem?_eq_none (show h.length ≤ k by omega)]
          have OK := Lib.hid ok
          clear ok
          cases hi : (n == 0)
          · have HI := Lib.hid hi
            go_wp2_with fail
            go_ret
            exact ⟨ret_bool (SP.out (OK.out.trans HI.out)).symm, y4⟩
          · have HI := Lib.hid hi
            go_wp2_with fail
            go_round
            case rel => exact ⟨k + 1, hlt, by go_num, NX.out (OK.out.trans HI.out)⟩
            case measure => simp only [intOf]; omega
      · obtain rfl : k = 3 := by omega
        have hR3 := rightI_true HH.out (by rw [← HHN.out]; exact HP.out)
        rw [← HR.out] at hR3
        have HR3 := Lib.hid hR3
        clear hR3
        have hc3 := Blk.cell hI4
        have e0 : (i.op == 0) = true ∨ (i.op == 0) = false := by cases (i.op == 0) <;> simp
        have e17 : (i.op == 17) = true ∨ (i.op == 17) = false := by cases (i.op == 17) <;> simp
        have e18 : (i.op == 18) = true ∨ (i.op == 18) = false := by cases (i.op == 18) <;> simp
        have E17 := Lib.hid e17
        have E18 := Lib.hid e18
        clear e17 e18
        rcases e0 with e0 | e0
        · have q17 : (i.op == 17) = false := by simp at e0 ⊢; omega
          have q18 : (i.op == 18) = false := by simp at e0 ⊢; omega
          by_cases a0 : i.a = 0
          · have b0 : (i.a == 0) = true := by simp [a0]
            have b0' : (i.a != 0) = false := by simp [a0]
            have HA := Lib.hid a0
            clear a0
            go_wp2_with fail
            go_ret
            exact ⟨ret_bool (by rw [HR3.out, rightE, if_pos (by simpa using e0)]; simp [HA.out]), y4⟩
          · have b0 : (i.a == 0) = false := by simp [a0]
            have b0' : (i.a != 0) = true := by simp [a0]
            have HA := Lib.hid a0
            clear a0
            by_cases a1 : i.a = 1
            · have b1 : (i.a == 1) = true := by simp [a1]
              have b1' : (i.a != 1) = false := by simp [a1]
              have HA1 := Lib.hid a1
              clear a1
              go_wp2_with fail
              go_ret
              exact ⟨ret_bool (by rw [HR3.out, rightE, if_pos (by simpa using e0)]; simp [HA1.out]), y4⟩
            · have b1 : (i.a == 1) = false := by simp [a1]
              have b1' : (i.a != 1) = true := by simp [a1]
              have HA1 := Lib.hid a1
              clear a1
              go_wp2_with fail
              go_ret
              exact ⟨ret_bool (by rw [HR3.out, rightE, if_pos (by simpa using e0)]; simp [HA.out, HA1.out]), y4⟩
        · rcases E17.out with e17 | e17
          · have q18 : (i.op == 18) = false := by simp at e17 ⊢; omega
            by_cases hbc : i.b ≤ i.c
            · have hbc' : decide (i.c < i.b) = false := by simp; omega
              go_wp2_with fail
              go_ret
              exact ⟨ret_bool (by rw [HR3.out, rightE, if_neg (by simpa using e0), if_pos (by simpa using e17)]; simp [hbc]), y4⟩
            · have hbc' : decide (i.c < i.b) = true := by simp; omega
              go_wp2_with fail
              go_ret
              exact ⟨ret_bool (by rw [HR3.out, rightE, if_neg (by simpa using e0), if_pos (by simpa using e17)]; simp [hbc]), y4⟩
          · rcases E18.out with e18 | e18
            · by_cases hc0 : 0 ≤ i.c
              · have hc0' : decide (i.c < 0) = false := by simp; omega
                go_wp2_with fail
                go_ret
                exact ⟨ret_bool (by rw [HR3.out, rightE, if_neg (by simpa using e0), if_neg (by simpa using e17), if_pos (by simpa using e18)]; simp [hc0]), y4⟩
              · have hc0' : decide (i.c < 0) = true := by simp; omega
                go_wp2_with fail
                go_ret
                exact ⟨ret_bool (by rw [HR3.out, rightE, if_neg (by simpa using e0), if_neg (by simpa using e17), if_pos (by simpa using e18)]; simp [hc0]), y4⟩
            · go_wp2_with fail
              go_ret
              exact ⟨ret_bool (by rw [HR3.out, rightE, if_neg (by simpa using e0), if_neg (by simpa using e17), if_neg (by simpa using e18)]), y4⟩
  · have hf : isOp i.op = false := by simpa using h
    have hq : rightI i size words = false := by simp [rightI, hf]
    rw [hq]
    have ho : i.op < 0 ∨ (¬ i.op < 0 ∧ 21 < i.op) := by simp [isOp] at hf; omega
    clear h hf hq
    rcases ho with h1 | ⟨h1, h2⟩
    all_goals
      go_enter Tryz.func195, Tryz.ntmps195
      go_wp2_with fail
      go_ret
      exact ⟨rfl, hx0⟩
end Go.Proofs.YtahljceanodhkaaGreatDoor

/- The document's answer of layer 15: truth, Two, Place. -/
namespace Go.Proofs.YtahljceanodhkaaGreatDoor
open Go.RowKit
theorem rtruth_any (b : Bool) (w : World) : Calls Tryz.prog 155 #[.bool b] w fun e w' => e = .returned (.int .i32 (truthI b)) ∧ w = w' := by
  cases b
  all_goals
    go_enter Tryz.func155, Tryz.ntmps155
    go_wp2_with fail
    go_ret
    exact ⟨rfl, rfl⟩
set_option maxRecDepth 100000 in
set_option maxHeartbeats 1000000 in
theorem rtwo3 (b c : Int) (_hb : i32ok b) (_hc : i32ok c) (w : World) : Calls Tryz.prog 154 #[.int .i64 3, .int .i32 b, .int .i32 c] w fun e w' => e = .returned (.int .i32 (twoI 3 b c)) ∧ w = w' := by
  unfold i32ok at _hb _hc
  go_enter Tryz.func154, Tryz.ntmps154
  go_wp2_with fail
  go_ret
  exact ⟨ret_int (by simp [twoI, IntKind.wrap_i32, wrap32]), rfl⟩
set_option maxRecDepth 100000 in
set_option maxHeartbeats 1000000 in
theorem rtwo4 (b c : Int) (_hb : i32ok b) (_hc : i32ok c) (w : World) : Calls Tryz.prog 154 #[.int .i64 4, .int .i32 b, .int .i32 c] w fun e w' => e = .returned (.int .i32 (twoI 4 b c)) ∧ w = w' := by
  unfold i32ok at _hb _hc
  go_enter Tryz.func154, Tryz.ntmps154
  go_wp2_with fail
  go_ret
  exact ⟨ret_int (by simp [twoI, IntKind.wrap_i32, wrap32]), rfl⟩
set_option maxRecDepth 100000 in
set_option maxHeartbeats 1000000 in
theorem rtwo5 (b c : Int) (_hb : i32ok b) (_hc : i32ok c) (w : World) : Calls Tryz.prog 154 #[.int .i64 5, .int .i32 b, .int .i32 c] w fun e w' => e = .returned (.int .i32 (twoI 5 b c)) ∧ w = w' := by
  unfold i32ok at _hb _hc
  go_enter Tryz.func154, Tryz.ntmps154
  go_wp2_with fail
  go_ret
  exact ⟨ret_int (by simp [twoI, IntKind.wrap_i32, wrap32]), rfl⟩
set_option maxRecDepth 100000 in
set_option maxHeartbeats 1000000 in
theorem rtwo6 (b c : Int) (_hb : i32ok b) (_hc : i32ok c) (w : World) : Calls Tryz.prog 154 #[.int .i64 6, .int .i32 b, .int .i32 c] w fun e w' => e = .returned (.int .i32 (twoI 6 b c)) ∧ w = w' := by
  unfold i32ok at _hb _hc
  by_cases h0 : c = 0
  · have b0 : (c == 0) = true := by simp [h0]
    have H0 := Lib.hid h0
    clear h0
    go_enter Tryz.func154, Tryz.ntmps154
    go_wp2_with fail
    go_ret
    exact ⟨ret_int (by simp [twoI, H0.out]), rfl⟩
  · have b0 : (c == 0) = false := by simp [h0]
    have H0 := Lib.hid h0
    have ht : (b.tdiv c).natAbs ≤ b.natAbs := by rw [Int.natAbs_tdiv]; exact Nat.div_le_self _ _
    have h1 : -2147483648 ≤ b.tdiv c := by omega
    have h2 : b.tdiv c ≤ 2147483648 := by omega
    go_enter Tryz.func154, Tryz.ntmps154
    go_wp2_with fail
    go_ret
    exact ⟨ret_int (by simp [twoI, H0.out, IntKind.wrap_i32, wrap32]), rfl⟩
set_option maxRecDepth 100000 in
set_option maxHeartbeats 1000000 in
theorem rtwo7 (b c : Int) (_hb : i32ok b) (_hc : i32ok c) (w : World) : Calls Tryz.prog 154 #[.int .i64 7, .int .i32 b, .int .i32 c] w fun e w' => e = .returned (.int .i32 (twoI 7 b c)) ∧ w = w' := by
  unfold i32ok at _hb _hc
  by_cases h0 : c = 0
  · have b0 : (c == 0) = true := by simp [h0]
    have H0 := Lib.hid h0
    clear h0
    go_enter Tryz.func154, Tryz.ntmps154
    go_wp2_with fail
    go_ret
    exact ⟨ret_int (by simp [twoI, H0.out]), rfl⟩
  · have b0 : (c == 0) = false := by simp [h0]
    have H0 := Lib.hid h0
    have ht : (b.tdiv c).natAbs ≤ b.natAbs := by rw [Int.natAbs_tdiv]; exact Nat.div_le_self _ _
    have h1 : -2147483648 ≤ b.tdiv c := by omega
    have h2 : b.tdiv c ≤ 2147483648 := by omega
    have hd := Int.tdiv_mul_add_tmod b c
    obtain ⟨t, hte⟩ : ∃ t, t = b.tmod c := ⟨_, rfl⟩
    have htb : t.natAbs ≤ b.natAbs := by rw [hte, Int.natAbs_tmod]; exact Nat.mod_le _ _
    have hsg : (0 ≤ b → 0 ≤ t) ∧ (b ≤ 0 → t ≤ 0) := by
      refine ⟨fun h => by rw [hte]; exact Int.tmod_nonneg c h, fun h => ?_⟩
      have := Int.tmod_nonneg (a := -b) c (by omega)
      rw [Int.neg_tmod] at this
      omega
    rw [← hte] at hd
    have hm : b.tdiv c * c = b - t := by omega
    have t1 : -2147483648 ≤ t := by omega
    have t2 : t ≤ 2147483647 := by omega
    have s1 : -2147483648 ≤ b - t := by omega
    have s2 : b - t ≤ 2147483647 := by omega
    have s3 : b - (b - t) = t := by omega
    have HTE := Lib.hid hte
    clear hd ht htb hsg hte h0
    go_enter Tryz.func154, Tryz.ntmps154
    go_wp2_with fail
    go_ret
    exact ⟨ret_int (by simp [twoI, H0.out, ← HTE.out]), rfl⟩
set_option maxRecDepth 100000 in
set_option maxHeartbeats 1000000 in
theorem rtwo8 (b c : Int) (_hb : i32ok b) (_hc : i32ok c) (w : World) : Calls Tryz.prog 154 #[.int .i64 8, .int .i32 b, .int .i32 c] w fun e w' => e = .returned (.int .i32 (twoI 8 b c)) ∧ w = w' := by
  unfold i32ok at _hb _hc
  go_enter Tryz.func154, Tryz.ntmps154
  go_wp2_with fail
  refine (rtruth_any _ _).mono ?_
  rintro e w1 ⟨rfl, rfl⟩
  go_wp2_with fail
  go_ret
  exact ⟨rfl, rfl⟩
set_option maxRecDepth 100000 in
set_option maxHeartbeats 1000000 in
theorem rtwo9 (b c : Int) (_hb : i32ok b) (_hc : i32ok c) (w : World) : Calls Tryz.prog 154 #[.int .i64 9, .int .i32 b, .int .i32 c] w fun e w' => e = .returned (.int .i32 (twoI 9 b c)) ∧ w = w' := by
  unfold i32ok at _hb _hc
  go_enter Tryz.func154, Tryz.ntmps154
  go_wp2_with fail
  refine (rtruth_any _ _).mono ?_
  rintro e w1 ⟨rfl, rfl⟩
  go_wp2_with fail
  go_ret
  exact ⟨rfl, rfl⟩
set_option maxRecDepth 100000 in
set_option maxHeartbeats 1000000 in
theorem rtwo10 (b c : Int) (_hb : i32ok b) (_hc : i32ok c) (w : World) : Calls Tryz.prog 154 #[.int .i64 10, .int .i32 b, .int .i32 c] w fun e w' => e = .returned (.int .i32 (twoI 10 b c)) ∧ w = w' := by
  unfold i32ok at _hb _hc
  go_enter Tryz.func154, Tryz.ntmps154
  go_wp2_with fail
  refine (rtruth_any _ _).mono ?_
  rintro e w1 ⟨rfl, rfl⟩
  go_wp2_with fail
  go_ret
  exact ⟨rfl, rfl⟩
set_option maxRecDepth 100000 in
set_option maxHeartbeats 1000000 in
theorem rtwo11 (b c : Int) (_hb : i32ok b) (_hc : i32ok c) (w : World) : Calls Tryz.prog 154 #[.int .i64 11, .int .i32 b, .int .i32 c] w fun e w' => e = .returned (.int .i32 (twoI 11 b c)) ∧ w = w' := by
  unfold i32ok at _hb _hc
  go_enter Tryz.func154, Tryz.ntmps154
  go_wp2_with fail
  refine (rtruth_any _ _).mono ?_
  rintro e w1 ⟨rfl, rfl⟩
  go_wp2_with fail
  go_ret
  exact ⟨rfl, rfl⟩
set_option maxRecDepth 100000 in
set_option maxHeartbeats 1000000 in
theorem rtwo12 (b c : Int) (_hb : i32ok b) (_hc : i32ok c) (w : World) : Calls Tryz.prog 154 #[.int .i64 12, .int .i32 b, .int .i32 c] w fun e w' => e = .returned (.int .i32 (twoI 12 b c)) ∧ w = w' := by
  unfold i32ok at _hb _hc
  by_cases h0 : b = 0
  · have b0 : (b != 0) = false := by simp [h0]
    have H0 := Lib.hid h0
    clear h0
    go_enter Tryz.func154, Tryz.ntmps154
    go_wp2_with fail
    refine (rtruth_any _ _).mono ?_
    rintro e w1 ⟨rfl, rfl⟩
    go_wp2_with fail
    go_ret
    exact ⟨ret_int (by simp [twoI, H0.out]), rfl⟩
  · have b0 : (b != 0) = true := by simp [h0]
    have H0 := Lib.hid h0
    clear h0
    go_enter Tryz.func154, Tryz.ntmps154
    go_wp2_with fail
    refine (rtruth_any _ _).mono ?_
    rintro e w1 ⟨rfl, rfl⟩
    go_wp2_with fail
    go_ret
    exact ⟨ret_int (by unfold twoI; rw [b0]; rfl), rfl⟩
set_option maxRecDepth 100000 in
set_option maxHeartbeats 1000000 in
theorem rtwo13 (b c : Int) (_hb : i32ok b) (_hc : i32ok c) (w : World) : Calls Tryz.prog 154 #[.int .i64 13, .int .i32 b, .int .i32 c] w fun e w' => e = .returned (.int .i32 (twoI 13 b c)) ∧ w = w' := by
  unfold i32ok at _hb _hc
  by_cases h0 : b = 0
  · have b0 : (b != 0) = false := by simp [h0]
    have H0 := Lib.hid h0
    clear h0
    go_enter Tryz.func154, Tryz.ntmps154
    go_wp2_with fail
    refine (rtruth_any _ _).mono ?_
    rintro e w1 ⟨rfl, rfl⟩
    go_wp2_with fail
    go_ret
    exact ⟨ret_int (by simp [twoI, H0.out]), rfl⟩
  · have b0 : (b != 0) = true := by simp [h0]
    have H0 := Lib.hid h0
    clear h0
    go_enter Tryz.func154, Tryz.ntmps154
    go_wp2_with fail
    refine (rtruth_any _ _).mono ?_
    rintro e w1 ⟨rfl, rfl⟩
    go_wp2_with fail
    go_ret
    exact ⟨ret_int (by unfold twoI; rw [b0]; rfl), rfl⟩
theorem rtwoop_any (k : Nat) (h3 : 3 ≤ k) (h13 : k ≤ 13) (b c : Int) (_hb : i32ok b) (_hc : i32ok c) (w : World) : Calls Tryz.prog 154 #[.int .i64 k, .int .i32 b, .int .i32 c] w fun e w' => e = .returned (.int .i32 (twoI k b c)) ∧ w = w' := by
  rcases (by omega : k = 3 ∨ k = 4 ∨ k = 5 ∨ k = 6 ∨ k = 7 ∨ k = 8 ∨ k = 9 ∨ k = 10 ∨ k = 11 ∨ k = 12 ∨ k = 13) with rfl | rfl | rfl | rfl | rfl | rfl | rfl | rfl | rfl | rfl | rfl
  · exact rtwo3 b c _hb _hc w
  · exact rtwo4 b c _hb _hc w
  · exact rtwo5 b c _hb _hc w
  · exact rtwo6 b c _hb _hc w
  · exact rtwo7 b c _hb _hc w
  · exact rtwo8 b c _hb _hc w
  · exact rtwo9 b c _hb _hc w
  · exact rtwo10 b c _hb _hc w
  · exact rtwo11 b c _hb _hc w
  · exact rtwo12 b c _hb _hc w
  · exact rtwo13 b c _hb _hc w
end Go.Proofs.YtahljceanodhkaaGreatDoor

/- Package machine: step, operation by operation. -/
namespace Go.Proofs.YtahljceanodhkaaGreatDoor
open Go.RowKit
set_option maxRecDepth 100000 in
set_option maxHeartbeats 2000000 in
theorem st_0 (w : World) (base s g n kc q : Nat) (A : Option Addr) (b off cn cap : Nat) (c : List Ins) (pc : Int) (m : List Int) (h : StepPre w base s g n kc q A b off cn c pc m) (a y z : Int) (ha : a = 0 ∨ a = 1) (hnx : nextI c pc n = some ⟨0, a, y, z⟩) (hright : rightI ⟨0, a, y, z⟩ cn n = true) :
    Calls Tryz.prog 158 #[.pointer (some ⟨s, 0, none⟩), .slice A cn cap, .map (some q)] w fun e w' => e = .returned (.tuple #[]) ∧ Stepped w w' base s g n kc (execI ⟨0, a, y, z⟩ pc m) := by
  obtain ⟨hn, hn1, hn2, hmok, hops, hst, hmem, hmap, hcA, hrow, hcn, hcn2, hpc0, hpc1, hsg⟩ := h
  have hls := hst.lt
  have hlg := hmem.lt
  have hlq := hmap.lt
  have hgs : ¬ g = s := fun e => hsg e.symm
  have HX := Lib.hid hnx
  have HN := Lib.hid hn
  have HO := Lib.hid hmok
  have HOP := Lib.hid hops
  have HA := Lib.hid hcA
  have HR := Lib.hid hrow
  have HCN := Lib.hid hcn
  have HRT := Lib.hid hright
  clear hnx hn hmok hops hcA hrow hcn hright
  go_enter Tryz.func158, Tryz.ntmps158
  go_wp2_with fail
  refine (next_any s pc 0 (some ⟨g, 0, none⟩) n kc A b off c cn cap _ HCN.out hcn2 hpc0 HA.out HOP.out hst HR.out).mono ?_
  rintro e w1 ⟨e1, hx1⟩
  replace e1 : e = .returned (.tuple #[.agg (Ins.cells ⟨0, a, y, z⟩), .bool true]) := by rw [e1, HX.out]; rfl
  subst e1
  have hI1 := Blk.new w1 41 (Ins.cells ⟨0, a, y, z⟩)
  have x1 := hx1.alloc (.cells (Ins.cells ⟨0, a, y, z⟩) 41)
  have hS1 := Blk.ext hst x1
  have hM1 := hmem.ext x1
  have hQ1 := hmap.ext x1
  have l1 := hx1.size
  clear hst hmem hmap hx1
  go_upto_region 3 with (fail)
  generalize (w1.alloc (.cells (Ins.cells ⟨0, a, y, z⟩) 41)) = W1 at hI1 x1 hS1 hM1 hQ1 ⊢
  generalize w1.heap.size = ic at hI1 l1 ⊢
  have hi1 := Blk.has hI1
  have hj1 := Blk.gets hI1
  go_wp2_with fail
  refine (far_any ⟨0, a, y, z⟩ cn s pc 0 g 0 n kc m _ HN.out hn2 HRT.out HO.out hS1 hM1.row).mono ?_
  rintro e w2 ⟨e2, hx2⟩
  replace e2 : e = .returned (.int .i64 (-1)) := by rw [e2]; rfl
  subst e2
  have x2 := x1.trans hx2
  have hI2 := Blk.ext hI1 hx2
  have hS2 := Blk.ext hS1 hx2
  have hM2 := hM1.ext hx2
  have hQ2 := hQ1.ext hx2
  clear hI1 hS1 hM1 hQ1 x1 hx2 hi1 hj1
  have hcI := Blk.cell hI2
  have hcS := Blk.cell hS2
  have hfS := Blk.frozen hS2
  have lI := hI2.lt
  have lS := hS2.lt
  have lG := hM2.lt
  have ha1 : 0 ≤ a := by omega
  have ha2 : a ≤ 1 := by omega
  clear ha
  go_wp2_with fail
  refine results_none' Tryz.results158 rfl ⟨rfl, ?_⟩
  exact Stepped.halt (Kept.ext x2) hS2 hM2 hsg _
set_option maxRecDepth 100000 in
set_option maxHeartbeats 2000000 in
theorem st_1 (w : World) (base s g n kc q : Nat) (A : Option Addr) (b off cn cap : Nat) (c : List Ins) (pc : Int) (m : List Int) (h : StepPre w base s g n kc q A b off cn c pc m) (a : Nat) (y z : Int) (ha : a < n) (hy1 : -2147483648 ≤ y) (hy2 : y ≤ 2147483647) (hnx : nextI c pc n = some ⟨1, a, y, z⟩) (hright : rightI ⟨1, a, y, z⟩ cn n = true) :
    Calls Tryz.prog 158 #[.pointer (some ⟨s, 0, none⟩), .slice A cn cap, .map (some q)] w fun e w' => e = .returned (.tuple #[]) ∧ Stepped w w' base s g n kc (execI ⟨1, a, y, z⟩ pc m) := by
  obtain ⟨hn, hn1, hn2, hmok, hops, hst, hmem, hmap, hcA, hrow, hcn, hcn2, hpc0, hpc1, hsg⟩ := h
  have hls := hst.lt
  have hlg := hmem.lt
  have hlq := hmap.lt
  have hgs : ¬ g = s := fun e => hsg e.symm
  have HX := Lib.hid hnx
  have HN := Lib.hid hn
  have HO := Lib.hid hmok
  have HOP := Lib.hid hops
  have HA := Lib.hid hcA
  have HR := Lib.hid hrow
  have HCN := Lib.hid hcn
  have HRT := Lib.hid hright
  clear hnx hn hmok hops hcA hrow hcn hright
  go_enter Tryz.func158, Tryz.ntmps158
  go_wp2_with fail
  refine (next_any s pc 0 (some ⟨g, 0, none⟩) n kc A b off c cn cap _ HCN.out hcn2 hpc0 HA.out HOP.out hst HR.out).mono ?_
  rintro e w1 ⟨e1, hx1⟩
  replace e1 : e = .returned (.tuple #[.agg (Ins.cells ⟨1, a, y, z⟩), .bool true]) := by rw [e1, HX.out]; rfl
  subst e1
  have hI1 := Blk.new w1 41 (Ins.cells ⟨1, a, y, z⟩)
  have x1 := hx1.alloc (.cells (Ins.cells ⟨1, a, y, z⟩) 41)
  have hS1 := Blk.ext hst x1
  have hM1 := hmem.ext x1
  have hQ1 := hmap.ext x1
  have l1 := hx1.size
  clear hst hmem hmap hx1
  go_upto_region 3 with (fail)
  generalize (w1.alloc (.cells (Ins.cells ⟨1, a, y, z⟩) 41)) = W1 at hI1 x1 hS1 hM1 hQ1 ⊢
  generalize w1.heap.size = ic at hI1 l1 ⊢
  have hi1 := Blk.has hI1
  have hj1 := Blk.gets hI1
  go_wp2_with fail
  refine (far_any ⟨1, a, y, z⟩ cn s pc 0 g 0 n kc m _ HN.out hn2 HRT.out HO.out hS1 hM1.row).mono ?_
  rintro e w2 ⟨e2, hx2⟩
  replace e2 : e = .returned (.int .i64 (-1)) := by rw [e2]; rfl
  subst e2
  have x2 := x1.trans hx2
  have hI2 := Blk.ext hI1 hx2
  have hS2 := Blk.ext hS1 hx2
  have hM2 := hM1.ext hx2
  have hQ2 := hQ1.ext hx2
  clear hI1 hS1 hM1 hQ1 x1 hx2 hi1 hj1
  have hcI := Blk.cell hI2
  have hcS := Blk.cell hS2
  have hfS := Blk.frozen hS2
  have lI := hI2.lt
  have lS := hS2.lt
  have lG := hM2.lt
  have hal : a < m.length := by have := HN.out; omega
  have haI : (a : Int) < n := by omega
  have hcM := hM2.cell a hal
  have hfM := hM2.frozen
  have hwb : IntKind.i32.wrap y = y := by rw [IntKind.wrap_i32]; omega
  have HE : Hid (execI ⟨1, a, y, z⟩ pc m = (pc + 1, 0, m.set a y)) := Lib.hid (by simp [execI, mput])
  go_upto_region 32 with (fail)
  have hS3 := Blk.far hS2 (p := ⟨g, a, none⟩) hsg (.int .i32 (y))
  have hM3 := hM2.set a hal (y)
  have hk3 : Kept (fun i => i = s ∨ i = g) w (w2.setCell ⟨g, a, none⟩ (.int .i32 (y))) := Kept.setCell (Kept.ext x2) _ _ (fun _ => .inr rfl)
  generalize w2.setCell ⟨g, a, none⟩ (.int .i32 y) = W3 at hS3 hM3 hk3 ⊢
  have hcS3 := Blk.cell hS3
  have hfS3 := Blk.frozen hS3
  go_wp2_with fail
  go_end0
  refine ⟨rfl, ?_⟩
  rw [HE.out]
  exact Stepped.goal hk3 hS3 hM3 hsg _
set_option maxRecDepth 100000 in
set_option maxHeartbeats 2000000 in
theorem st_2 (w : World) (base s g n kc q : Nat) (A : Option Addr) (b off cn cap : Nat) (c : List Ins) (pc : Int) (m : List Int) (h : StepPre w base s g n kc q A b off cn c pc m) (a y : Nat) (z : Int) (ha : a < n) (hy : y < n) (hnx : nextI c pc n = some ⟨2, a, y, z⟩) (hright : rightI ⟨2, a, y, z⟩ cn n = true) :
    Calls Tryz.prog 158 #[.pointer (some ⟨s, 0, none⟩), .slice A cn cap, .map (some q)] w fun e w' => e = .returned (.tuple #[]) ∧ Stepped w w' base s g n kc (execI ⟨2, a, y, z⟩ pc m) := by
  obtain ⟨hn, hn1, hn2, hmok, hops, hst, hmem, hmap, hcA, hrow, hcn, hcn2, hpc0, hpc1, hsg⟩ := h
  have hls := hst.lt
  have hlg := hmem.lt
  have hlq := hmap.lt
  have hgs : ¬ g = s := fun e => hsg e.symm
  have HX := Lib.hid hnx
  have HN := Lib.hid hn
  have HO := Lib.hid hmok
  have HOP := Lib.hid hops
  have HA := Lib.hid hcA
  have HR := Lib.hid hrow
  have HCN := Lib.hid hcn
  have HRT := Lib.hid hright
  clear hnx hn hmok hops hcA hrow hcn hright
  go_enter Tryz.func158, Tryz.ntmps158
  go_wp2_with fail
  refine (next_any s pc 0 (some ⟨g, 0, none⟩) n kc A b off c cn cap _ HCN.out hcn2 hpc0 HA.out HOP.out hst HR.out).mono ?_
  rintro e w1 ⟨e1, hx1⟩
  replace e1 : e = .returned (.tuple #[.agg (Ins.cells ⟨2, a, y, z⟩), .bool true]) := by rw [e1, HX.out]; rfl
  subst e1
  have hI1 := Blk.new w1 41 (Ins.cells ⟨2, a, y, z⟩)
  have x1 := hx1.alloc (.cells (Ins.cells ⟨2, a, y, z⟩) 41)
  have hS1 := Blk.ext hst x1
  have hM1 := hmem.ext x1
  have hQ1 := hmap.ext x1
  have l1 := hx1.size
  clear hst hmem hmap hx1
  go_upto_region 3 with (fail)
  generalize (w1.alloc (.cells (Ins.cells ⟨2, a, y, z⟩) 41)) = W1 at hI1 x1 hS1 hM1 hQ1 ⊢
  generalize w1.heap.size = ic at hI1 l1 ⊢
  have hi1 := Blk.has hI1
  have hj1 := Blk.gets hI1
  go_wp2_with fail
  refine (far_any ⟨2, a, y, z⟩ cn s pc 0 g 0 n kc m _ HN.out hn2 HRT.out HO.out hS1 hM1.row).mono ?_
  rintro e w2 ⟨e2, hx2⟩
  replace e2 : e = .returned (.int .i64 (-1)) := by rw [e2]; rfl
  subst e2
  have x2 := x1.trans hx2
  have hI2 := Blk.ext hI1 hx2
  have hS2 := Blk.ext hS1 hx2
  have hM2 := hM1.ext hx2
  have hQ2 := hQ1.ext hx2
  clear hI1 hS1 hM1 hQ1 x1 hx2 hi1 hj1
  have hcI := Blk.cell hI2
  have hcS := Blk.cell hS2
  have hfS := Blk.frozen hS2
  have lI := hI2.lt
  have lS := hS2.lt
  have lG := hM2.lt
  have hal : a < m.length := by have := HN.out; omega
  have haI : (a : Int) < n := by omega
  have hyl : y < m.length := by have := HN.out; omega
  have hyI : (y : Int) < n := by omega
  have hcM := hM2.cell a hal
  have hfM := hM2.frozen
  have hcY := hM2.cell y hyl
  obtain ⟨v, hv⟩ : ∃ v, v = m[y] := ⟨_, rfl⟩
  have HE : Hid (execI ⟨2, a, y, z⟩ pc m = (pc + 1, 0, m.set a v)) := Lib.hid (by simp [execI, mput, mget_in hyl, hv])
  have HV := Lib.hid hv
  clear hv
  go_upto_region 15 with (fail)
  refine wp_region_3 (fun w3 => Ext w2 w3) [(0, 2), (1, 2), (2, 1), (3, 2), (4, 2), (5, 1), (6, 2), (7, 1), (8, 2), (9, 0)] (by kernel_rfl) (by kernel_rfl) (by kernel_rfl) (by kernel_rfl) ?_; intro l' hl'; simp only [List.map_cons, List.map_nil, List.getD_cons_zero, List.getD_cons_succ] at hl'; subst hl'
  (repeat (first | ((apply w3_pure); (· go_simp); (· (intro w1; go_simp; try with_reducible rfl)); (intro K hK; go_simp; refine hK _ _ ?_; clear hK K)) | ((apply w3_skip); (· go_simp); (intro K hK; go_simp; refine hK _ _ ?_; clear hK K)) | ((apply w3_take); (· exact (Kept.drew (Kept.refl _ _))); (· go_simp); (· (intro w1 hS; have d1 := Blk.cell (Blk.ext hI2 hS); have d2 := (hM2.ext hS).cell y hyl; rw [← HV.out] at d2;  go_simp; try with_reducible rfl)); (intro K hK; go_simp; refine hK _ _ ?_; clear hK K)) | ((apply w3_pass); (· exact (Kept.drew (Kept.refl _ _))); (· go_simp); (intro K hK; go_simp; refine hK _ _ ?_; clear hK K))))
  (repeat (first | ((apply w3_pure); (· go_simp); (· (intro w1; go_simp; try with_reducible rfl)); (intro K hK; go_simp; refine hK _ _ ?_; clear hK K)) | ((apply w3_skip); (· go_simp); (intro K hK; go_simp; refine hK _ _ ?_; clear hK K)) | (refine w3_end (by kernel_rfl) (fun K hK => ?_); go_simp; refine hK.out _ _ ?_; clear hK K))); refine w3_nil ?_
  have hS3 : StAt (w2.setCell ⟨g, a, none⟩ (.int .i32 (v))).drew s 70 pc (some ⟨g, 0, none⟩) n kc 0 := Blk.far hS2 (p := ⟨g, a, none⟩) hsg (.int .i32 (v))
  have hM3 : MemAt (w2.setCell ⟨g, a, none⟩ (.int .i32 (v))).drew base g n kc (m.set a (v)) := (hM2.set a hal (v)).ext ((Kept.refl _ _).drew)
  have hk3 : Kept (fun i => i = s ∨ i = g) w (w2.setCell ⟨g, a, none⟩ (.int .i32 (v))).drew := (Kept.setCell (Kept.ext x2) _ _ (fun _ => .inr rfl)).drew
  generalize (w2.setCell ⟨g, a, none⟩ (.int .i32 (v))).drew = W3 at hS3 hM3 hk3 ⊢
  have hcS3 := Blk.cell hS3
  have hfS3 := Blk.frozen hS3
  go_wp2_with fail
  go_end0
  refine ⟨rfl, ?_⟩
  rw [HE.out]
  exact Stepped.goal hk3 hS3 hM3 hsg _
end Go.Proofs.YtahljceanodhkaaGreatDoor
