/- Several texts joined: Qt, Qu, Qv, Qw, Qx, Qy, Qza. -/
import Derived.Lib.LaidTab
import Derived.Test.YtfamkemdgbnegaaDoorShelf
import Derived.Defers
import Derived.Recover
import Derived.Test.YtfamkemdgbnegaaDoorSde
/- Sorts: package lex: a set of words. -/
namespace Go.Proofs.YtfamkemdgbnegaaDoor
open Go.RowKit So
/-- the tables that the program's text lays lie where they were laid -/
structure LaidAt (w : World) : Prop where
  sp : Lib.TabIs Tryd.prog w "strings.asciiSpace" .u8 Lib.asciiSpaceTab
  sm : ∀ k, k < 10 → w.cell? ⟨1, k, none⟩ = some (.int .i64 (stmtParts (k : Nat)))
  ex : ∀ k, k < 18 → w.cell? ⟨3, k, none⟩ = some (.int .i64 (exprParts (k : Nat)))
  lt : 4 < w.heap.size
theorem LaidAt.kept {S : Nat → Prop} {w w' : World} (h : LaidAt w) (hk : Kept S w w') (hs : ∀ i, i ≤ 4 → ¬ S i) : LaidAt w' := by
  have h4 := h.lt
  refine ⟨?_, fun k hk' => (Kept.cell hk (p := ⟨1, k, none⟩) (by show 1 < _; omega) (hs 1 (by omega))).trans (h.sm k hk'), fun k hk' => (Kept.cell hk (p := ⟨3, k, none⟩) (by show 3 < _; omega) (hs 3 (by omega))).trans (h.ex k hk'), Nat.lt_of_lt_of_le h.lt hk.size⟩
  have hsp := h.sp
  unfold Lib.TabIs World.var? at hsp ⊢
  rw [show Tryd.prog.globalNamed "strings.asciiSpace" = some 0 by kernel_rfl] at hsp ⊢
  rw [← hsp]
  simp [hk.block 0 (by omega) (hs 0 (by omega))]
theorem LaidAt.ext {w w' : World} (h : LaidAt w) (hk : Ext w w') : LaidAt w' := h.kept hk (fun _ _ f => f)
/-- the texts of a list as the keys of a map -/
def setF (l : List Str) : ByteArray → Option Value := fun t => if l.any (fun u => decide (u = t)) = true then some (.bool true) else none
theorem setF_snoc (l : List Str) (x : Str) : ∀ t, (fun t => if t = x then some (Value.bool true) else setF l t) t = setF (l ++ [x]) t := by
  intro t
  unfold setF
  rw [List.any_append]
  by_cases h : t = x
  · subst h; simp
  · have : ¬ x = t := fun e => h e.symm
    have h2 : decide (x = t) = false := decide_eq_false this
    simp only [List.any_cons, List.any_nil, h2, Bool.or_false]
    rw [if_neg h]
theorem run_mkmap (n : Int) (w : World) : (Instr.makeMap 103 (some (.int .i64 n))).run Tryd.prog w = .ok (.map (some w.heap.size)) (w.alloc (.map #[] 0)) := by
  simp [Instr.makeMap, run_underlying Tryd.underlying103, go_sem]
  try rfl
attribute [go_sem] run_mkmap
set_option maxRecDepth 100000 in
set_option maxHeartbeats 1000000 in
theorem set_any (l : List Str) (A : Option Addr) (n c N : Nat) (w : World) (hN : N ≤ w.heap.size) (h : StrSl w N A n l) : Calls Tryd.prog 77 #[.slice A n c] w fun e w' => Ext w w' ∧ ∃ g, e = .returned (.map (some g)) ∧ w.heap.size ≤ g ∧ SMap w' g (setF l) := by
  obtain ⟨hn, hm, b, off, hA, hE⟩ := h
  have HN := Lib.hid hn
  have HA := Lib.hid hA
  have HE := Lib.hid hE
  have hM := SMap.made w
  have hx0 := (Kept.refl (fun _ => False) w).alloc (.map #[] 0)
  clear hn hA hE
  go_enter Tryd.func77, Tryd.ntmps77
  go_upto_region 3 with (fail)
  generalize hW : w.alloc (.map #[] 0) = W at hM hx0 ⊢
  clear hW
  have HX0 := Lib.hid hx0
  have HG := Lib.hid (show w.heap.size ≤ w.heap.size from Nat.le_refl _)
  have HM := Lib.hid hM
  generalize hge : (w.heap.size : Nat) = g at hM HM HG ⊢
  have HGE := Lib.hid hge
  clear hM hx0 hge
  go_loopw [11] (fun t11 wr => ∃ (j : Nat), j ≤ n ∧ t11 = .int .i64 j ∧ SMap wr g (setF (l.take j)) ∧ Kept (· = g) W wr) (fun t11 _ => n - (intOf t11).toNat)
  case atStart => exact ⟨0, Nat.zero_le _, rfl, HM.out.cong (fun t => by simp [setF]), Kept.refl _ _⟩
  case round =>
    obtain ⟨j, hj, rfl, hS, hx⟩ := hrel
    have HS := Lib.hid hS
    have HX := Lib.hid hx
    clear hS hx
    by_cases hlt : j < n
    · have hjl : j < l.length := by have := HN.out; omega
      have hltI : (j : Int) < n := by omega
      obtain rfl := HA.out (by omega)
      have hbg : b < w.heap.size := by have := (HE.out (by omega)).1; omega
      have hrow := ((HE.out (by omega)).2.ext HX0.out).kept HX.out (by have := HGE.out; omega)
      have hc := str_at hrow j hjl
      have hbw := hrow.lt
      obtain ⟨x, hxe⟩ : ∃ x, x = l[j] := ⟨_, rfl⟩
      rw [← hxe] at hc
      have HXE := Lib.hid hxe
      clear hrow hxe
      obtain ⟨w', hrun, hS', hk'⟩ := SMap.put (P := Tryd.prog) HS.out Tryd.underlying103 Tryd.underlying9 x (.bool true)
      have HS' := Lib.hid hS'
      have HK' := Lib.hid hk'
      clear hS' hk'
      go_wp2_with fail
      go_roundw
      case rel => exact ⟨j + 1, hlt, by go_num, HS'.out.cong (fun t => by rw [List.take_add_one, List.getElem?_eq_getElem hjl, ← HXE.out]; exact setF_snoc (l.take j) x t), HX.out.trans HK'.out⟩
      case measure => simp only [intOf]; omega
    · obtain rfl : j = n := by omega
      go_wp2_with fail
      go_ret
      have hS := HS.out
      rw [HN.out, List.take_length] at hS
      exact ⟨HX0.out.trans' HX.out (fun i hi e => by have := HGE.out; omega), g, rfl, by have := HGE.out; omega, hS⟩
def marks : List Str := [⟨#[91]⟩, ⟨#[93]⟩, ⟨#[40]⟩, ⟨#[41]⟩, ⟨#[61]⟩, ⟨#[33, 61]⟩, ⟨#[60]⟩, ⟨#[60, 61]⟩, ⟨#[62]⟩, ⟨#[62, 61]⟩, ⟨#[43]⟩, ⟨#[45]⟩, ⟨#[42]⟩, ⟨#[47]⟩, ⟨#[37]⟩, ⟨#[44]⟩]
theorem fields_sl (s : ByteArray) (l : List Str) (n : Nat) (w : World) (h0 : s.size < 4294967281) (ha : s.data.toList.all (fun b => decide (b.toNat < 128)) = true) (hL : LaidAt w) (hf : (Lib.fields s.data.toList).map (fun x => (⟨x.toArray⟩ : Str)) = l) (hn : l.length = n) (h100 : n ≤ 100) :
    Calls Tryd.prog 95 #[.string s] w fun e w' => Ext w w' ∧ ∃ A c, e = .returned (.slice A n c) ∧ StrSl w' w'.heap.size A n l := by
  refine (Go.Proofs.Tryd.strings_Fields s w h0 (fun j b hb => of_decide_eq_true (List.all_eq_true.1 ha b (List.mem_of_getElem? hb))) hL.sp).mono ?_
  rintro e w' ⟨rfl, rfl⟩
  have hlen : (Lib.fields s.data.toList).length = n := by rw [← hn, ← hf, List.length_map]
  rw [hlen]
  refine ⟨(Kept.refl _ w).alloc _, _, _, rfl, hn.symm, h100, w.heap.size, 0, fun _ => rfl, fun _ => ⟨by simp, ?_⟩⟩
  have hb := Row.of_blk (Blk.new w 9 ((Lib.fields s.data.toList).map fun l => Value.string ⟨l.toArray⟩).toArray)
  rw [← hf, List.map_map]
  exact hb
set_option maxRecDepth 100000 in
set_option maxHeartbeats 1000000 in
theorem swords_any (w : World) (hL : LaidAt w) : Calls Tryd.prog 78 #[] w fun e w' => Ext w w' ∧ ∃ A c, e = .returned (.slice A 23 c) ∧ StrSl w' w'.heap.size A 23 words := by
  go_enter Tryd.func78, Tryd.ntmps78
  go_wp2_with fail
  refine (fields_sl _ words 23 _ (by decide) (by decide) hL (by decide) rfl (by omega)).mono ?_
  rintro e w1 ⟨hx, A, c, rfl, hS⟩
  go_wp2_with fail
  go_ret
  exact ⟨hx, A, c, rfl, hS⟩
set_option maxRecDepth 100000 in
set_option maxHeartbeats 1000000 in
theorem smarks_any (w : World) (hL : LaidAt w) : Calls Tryd.prog 79 #[] w fun e w' => Ext w w' ∧ ∃ A c, e = .returned (.slice A 16 c) ∧ StrSl w' w'.heap.size A 16 marks := by
  go_enter Tryd.func79, Tryd.ntmps79
  go_wp2_with fail
  refine (fields_sl _ marks 16 _ (by decide) (by decide) hL (by decide) rfl (by omega)).mono ?_
  rintro e w1 ⟨hx, A, c, rfl, hS⟩
  go_wp2_with fail
  go_ret
  exact ⟨hx, A, c, rfl, hS⟩
theorem aggScan : aggT Tryd.prog 105 = true := by kernel_rfl
theorem sizeScan : sizeT Tryd.prog 105 = some 2 := by kernel_rfl
theorem wpLoadScan {dst : Option Tmp} {ty' : TypeId} {x : Operand} {pos : String} {after : Array Edge} {guard : Option (Nat × Bool)} {a : Act} {w : World} {K : Act → World → Prop} {Q : Exit → Act → World → Prop} (hx : isAt (a.eval x) = true) (hh : has w (blkOf (a.eval x)) (offOf (a.eval x)) 2 = true) :
    Oper.wp Tryd.prog { dst := dst, op := .load 105 x, type := ty', pos := pos, after := after, guard := guard } a w K Q = K (a.put dst (.agg (gets w (blkOf (a.eval x)) (offOf (a.eval x)) 2))) w := wp_load_big 2 aggScan sizeScan hx hh
theorem runLoadScan {ρ : Operand → Value} {dst : Option Tmp} {ty' : TypeId} {x : Operand} {pos : String} {after : Array Edge} {guard : Option (Nat × Bool)} {w : World} (hx : isAt (ρ x) = true) (hh : has w (blkOf (ρ x)) (offOf (ρ x)) 2 = true) :
    (execOp ρ { dst := dst, op := .load 105 x, type := ty', pos := pos, after := after, guard := guard }).run Tryd.prog w = .ok (.value (.agg (gets w (blkOf (ρ x)) (offOf (ρ x)) 2))) w := run_exec_load_big 2 aggScan sizeScan hx hh
theorem loadVarScan (w : World) (g off : Nat) (hh : has w g off 2 = true) : (loadVar 105 ⟨g, off, none⟩).run Tryd.prog w = .ok (.agg (gets w g off 2)) w := run_loadVar_big Tryd.prog w _ g off 2 aggScan sizeScan hh
attribute [go_sem] aggScan sizeScan
attribute [go_sem ↓ high] wpLoadScan loadVarScan runLoadScan
attribute [go_sem high] wpLoadScan
set_option maxRecDepth 100000 in
set_option maxHeartbeats 1000000 in
theorem start_any (w : World) (hL : LaidAt w) : Calls Tryd.prog 63 #[] w fun e w' => Ext w w' ∧ ∃ g m, e = .returned (.agg #[.map (some g), m]) ∧ SMap w' g (setF words) := by
  go_enter Tryd.func63, Tryd.ntmps63
  go_wp2_with fail
  have hR := Blk.new w 105 #[.map none, .map none]
  have hx0 := (Kept.refl (fun _ => False) w).alloc (.cells #[.map none, .map none] 105)
  refine (swords_any _ (hL.ext hx0)).mono ?_
  rintro e w1 ⟨hx1, A, c, rfl, hS⟩
  have HS := Lib.hid hS
  clear hS
  go_wp2_with fail
  refine (set_any words _ _ _ _ _ (Nat.le_refl _) HS.out).mono ?_
  rintro e w2 ⟨hx2, g, rfl, hg, hM⟩
  have HM := Lib.hid hM
  clear hM
  go_wp2_with fail
  refine (smarks_any _ (hL.ext ((hx0.trans hx1).trans hx2))).mono ?_
  rintro e w3 ⟨hx3, A2, c2, rfl, hS2⟩
  have HS2 := Lib.hid hS2
  clear hS2
  go_wp2_with fail
  refine (set_any marks _ _ _ _ _ (Nat.le_refl _) HS2.out).mono ?_
  rintro e w4 ⟨hx4, g2, rfl, hg2, hM2⟩
  have hD := Blk.ext hR (((hx1.trans hx2).trans hx3).trans hx4)
  have hm := hD.melts
  have hh := Blk.has hD
  go_wp2_with fail
  refine ret_cell Tryd.results63 rfl rfl aggScan (by exact sizeScan) (Blk.put_ hD _ _) ?_
  have hl : g < w2.heap.size := HM.out.lt
  have hw : w.heap.size < g := by have h1 := hx0.size; have h2 := hx1.size; have : (w.alloc (.cells #[.map none, .map none] 105)).heap.size = w.heap.size + 1 := (by simp); omega
  refine ⟨((((hx0.trans hx1).trans hx2).trans hx3).trans hx4).putAt _ _ _ (fun h => absurd h (by omega)), g, .map (some g2), rfl, ?_⟩
  exact ((HM.out.ext (hx3.trans hx4)).kept (Kept.putAt (S := (· = w.heap.size)) (Kept.refl _ _) _ _ _ (fun _ => rfl)) (by omega))
end Go.Proofs.YtfamkemdgbnegaaDoor

/- Sorts: package lex: is it a name? -/
namespace Go.Proofs.YtfamkemdgbnegaaDoor
open Go.RowKit So
set_option maxRecDepth 100000 in
set_option maxHeartbeats 1000000 in
theorem srun_any (s : Str) (hs : s.size ≤ maxLen) (w : World) : Calls Tryd.prog 81 #[.string s, .func (.func 82) #[] #[]] w fun e w' => (∃ t : Str, e = .returned (.string t) ∧ (t = s ↔ s.data.toList.all inner = true)) ∧ w = w' := by
  have hmx : s.size ≤ 9223372036854775807 := by unfold maxLen at hs; omega
  go_enter Tryd.func81, Tryd.ntmps81
  go_wp2_with fail
  go_loopw [5] (fun t5 wr => ∃ (j : Nat), j ≤ s.size ∧ t5 = .int .i64 j ∧ (∀ i (h : i < s.size), i < j → inner s[i] = true) ∧ w = wr) (fun t5 _ => s.size - (intOf t5).toNat)
  case atStart => exact ⟨0, Nat.zero_le _, rfl, fun i _ h => by omega, rfl⟩
  case round =>
    obtain ⟨j, hj, rfl, h1, hw⟩ := hrel
    subst hw
    have H1 := Lib.hid h1
    clear h1
    by_cases hlt : j < s.size
    · have hltI : (j : Int) < s.size := by omega
      go_wp2_with fail
      refine (inner_any _ _).mono ?_
      rintro e w1 ⟨rfl, rfl⟩
      cases hl : innerI (s[j].toNat : Int)
      · have HL := Lib.hid (show inner s[j] = false by rw [← innerI_of]; exact hl)
        go_wp2_with fail
        go_ret
        refine ⟨⟨_, rfl, fun e => ?_, fun e => ?_⟩, rfl⟩
        · have := congrArg ByteArray.size e
          rw [ByteArray.size_extract] at this
          omega
        · have := List.all_eq_true.1 e s[j] (Array.mem_toList_iff.2 (Array.getElem_mem (xs := s.data) hlt))
          rw [HL.out] at this
          cases this
      · have HL := Lib.hid (show inner s[j] = true by rw [← innerI_of]; exact hl)
        go_wp2_with fail
        go_roundw
        case rel => exact ⟨j + 1, hlt, by go_num, fun i hi h => by
          by_cases e : i = j
          · subst e; exact HL.out
          · exact H1.out i hi (by omega), by trivial⟩
        case measure => simp only [intOf]; omega
    · obtain rfl : j = s.size := by omega
      go_wp2_with fail
      go_ret
      refine ⟨⟨_, rfl, fun _ => ?_, fun _ => rfl⟩, rfl⟩
      rw [List.all_eq_true]
      intro x hx
      obtain ⟨i, hi, rfl⟩ := List.getElem_of_mem hx
      exact H1.out i (by simpa using hi) (by simpa using hi)
theorem zero_bool (w : World) : (zeroValue 4).run Tryd.prog w = .ok (.bool false) w := by
  first | kernel_rfl | rfl
set_option maxRecDepth 100000 in
set_option maxHeartbeats 1000000 in
theorem sname_any (s : Str) (hs : s.size ≤ maxLen) (g : Nat) (m : Value) (w : World) (hM : SMap w g (setF words)) : Calls Tryd.prog 64 #[.agg #[.map (some g), m], .string s] w fun e w' => e = .returned (.bool (isName s)) ∧ Ext w w' := by
  have hmx : s.size ≤ 9223372036854775807 := by unfold maxLen at hs; omega
  obtain ⟨r, hr⟩ : ∃ r, r = isName s := ⟨_, rfl⟩
  rw [← hr]
  have hr2 : r = (decide (0 < s.size) && letter (s.data.getD 0 0) && s.data.toList.all inner && decide (s.size ≤ 30) && !(words.any (fun t => decide (t = s)))) := hr
  have HR := Lib.hid hr2
  clear hr hr2
  have hx0 := (Kept.refl (fun _ => False) w).alloc (.cells #[.map (some g), m] 105)
  have hMx := hM.ext hx0
  have hlk := SMap.look (P := Tryd.prog) hMx Tryd.underlying103 Tryd.underlying9 (z := .bool false) zero_bool s
  clear hM hMx
  by_cases h0 : 0 < s.size
  · have hE : (ByteArray.toList s).isEmpty = false := by have := ne_empty s; rw [decide_eq_true h0] at this; simpa using this
    have h0I : (0 : Int) < s.size := by omega
    have HG0 := Lib.hid (show s.data.getD 0 0 = s[0] from str_get0 h0)
    go_enter Tryd.func64, Tryd.ntmps64
    go_wp2_with fail
    refine (sletter_any _ _).mono ?_
    rintro e w1 ⟨rfl, rfl⟩
    cases hl : letterI (s[0].toNat : Int)
    · have HF := Lib.hid (show r = false by rw [HR.out, HG0.out, ← letterI_of, hl]; simp)
      go_wp2_with fail
      go_ret
      exact ⟨ret_bool HF.out.symm, hx0⟩
    · have HL := Lib.hid (show letter (s.data.getD 0 0) = true by rw [HG0.out, ← letterI_of, hl])
      go_wp2_with fail
      refine (srun_any s hs _).mono ?_
      rintro e w1 ⟨⟨t, rfl, ht⟩, rfl⟩
      have HT := Lib.hid ht
      clear ht
      by_cases hts : t = s
      · have hb := str_same hts
        have HA := Lib.hid (HT.out.1 hts)
        clear hts
        by_cases hz : s.size ≤ 30
        · have hzI : (s.size : Int) ≤ 30 := by omega
          have HF := Lib.hid (show r = !(words.any (fun t => decide (t = s))) by rw [HR.out, decide_eq_true h0, HL.out, HA.out, decide_eq_true hz]; rfl)
          cases hw : words.any (fun t => decide (t = s))
          · have hq : setF words s = none := by unfold setF; rw [hw]; rfl
            rw [hq] at hlk
            go_wp2_with fail
            go_ret
            exact ⟨ret_bool (by rw [HF.out, hw]; rfl), hx0⟩
          · have hq : setF words s = some (.bool true) := by unfold setF; rw [hw]; rfl
            rw [hq] at hlk
            go_wp2_with fail
            go_ret
            exact ⟨ret_bool (by rw [HF.out, hw]; rfl), hx0⟩
        · have hzI : ¬ (s.size : Int) ≤ 30 := by omega
          have HF := Lib.hid (show r = false by rw [HR.out, decide_eq_false hz]; simp)
          go_wp2_with fail
          go_ret
          exact ⟨ret_bool HF.out.symm, hx0⟩
      · have hb := str_other hts
        have HA := Lib.hid (show s.data.toList.all inner = false by
          cases h : s.data.toList.all inner
          · rfl
          · exact absurd (HT.out.2 h) hts)
        clear hts
        have HF := Lib.hid (show r = false by rw [HR.out, HA.out]; simp)
        go_wp2_with fail
        go_ret
        exact ⟨ret_bool HF.out.symm, hx0⟩
  · have hE : (ByteArray.toList s).isEmpty = true := by have := ne_empty s; rw [decide_eq_false h0] at this; simpa using this
    have HF := Lib.hid (show r = false by rw [HR.out, decide_eq_false h0]; rfl)
    go_enter Tryd.func64, Tryd.ntmps64
    go_wp2_with fail
    go_ret
    exact ⟨ret_bool HF.out.symm, hx0⟩
set_option maxHeartbeats 1000000 in
theorem sisname_any (s : Str) (hs : s.size ≤ maxLen) (w : World) (hL : LaidAt w) : Calls Tryd.prog 40 #[.string s] w fun e w' => e = .returned (.bool (isName s)) ∧ Ext w w' := by
  go_enter Tryd.func40, Tryd.ntmps40
  go_wp2_with fail
  refine (start_any _ hL).mono ?_
  rintro e w1 ⟨hx1, g, m, rfl, hM⟩
  have HM := Lib.hid hM
  clear hM
  go_wp2_with fail
  refine (sname_any s hs g m _ HM.out).mono ?_
  rintro e w2 ⟨rfl, hx2⟩
  go_wp2_with fail
  go_ret
  exact ⟨rfl, hx1.trans hx2⟩
end Go.Proofs.YtfamkemdgbnegaaDoor

/- Sorts: the checker: what it throws, what it knows. -/
namespace Go.Proofs.YtfamkemdgbnegaaDoor
open Go.RowKit So
/-- what is thrown -/
def thr (f : Flt) : List PanicEntry := [{ v := .iface 61 (.agg #[.int .i64 f.e, .string f.name]), recovered := false }]
def MustR : Option Flt → Ending → Prop
  | none, e => e = .returned (.tuple #[])
  | some f, e => e = .panicked (thr f)
set_option maxHeartbeats 400000 in
theorem must_any (ok : Bool) (er : Int) (s : Str) (w : World) : Calls Tryd.prog 39 #[.bool ok, .int .i64 er, .string s] w fun e w' => MustR (must ok er s) e ∧ w = w' := by
  cases ok
  · go_enter Tryd.func39, Tryd.ntmps39
    go_wp2_with fail
    exact ⟨rfl, rfl, rfl⟩
  · go_enter Tryd.func39, Tryd.ntmps39
    go_wp2_with fail
    go_end0
    exact ⟨rfl, rfl⟩
def knF (κ : Kn) : ByteArray → Option Value := fun s => if κ s = 0 then none else some (.int .i64 ((κ s : Int) - 1))
structure Ck (w : World) (cb g : Nat) (κ : Kn) (part : Str) (fors : Nat) : Prop where
  blk : Blk w cb 76 #[.map (some g), .string part, .int .i64 fors]
  map : SMap w g (knF κ)
theorem Ck.ext {w w' : World} {cb g : Nat} {κ : Kn} {part : Str} {fors : Nat} (h : Ck w cb g κ part fors) (hk : Ext w w') : Ck w' cb g κ part fors := ⟨Blk.ext h.blk hk, h.map.ext hk⟩
theorem zero_sort (w : World) : (zeroValue 102).run Tryd.prog w = .ok (.int .i64 0) w := by
  first | kernel_rfl | rfl
set_option maxHeartbeats 400000 in
theorem knows_any (cb g : Nat) (κ : Kn) (part : Str) (fors : Nat) (s : Str) (w : World) (h : Ck w cb g κ part fors) : Calls Tryd.prog 41 #[.pointer (some ⟨cb, 0, none⟩), .string s] w fun e w' => e = .returned (.bool (κ s != 0)) ∧ w = w' := by
  have hlk := SMap.look_ok (P := Tryd.prog) h.map Tryd.underlying74 Tryd.underlying9 (z := .int .i64 0) zero_sort s
  have hc := Blk.cell h.blk
  have hl := h.blk.lt
  obtain ⟨r, hr⟩ : ∃ r, r = (κ s != 0) := ⟨_, rfl⟩
  rw [← hr]
  have HR := Lib.hid hr
  clear hr
  by_cases hz : κ s = 0
  · have hq : knF κ s = none := by unfold knF; rw [if_pos hz]
    have HF := Lib.hid (show r = false by rw [HR.out, hz]; rfl)
    rw [hq] at hlk
    clear hz hq
    go_enter Tryd.func41, Tryd.ntmps41
    go_wp2_with fail
    go_ret
    exact ⟨ret_bool HF.out.symm, rfl⟩
  · have hq : knF κ s = some (.int .i64 ((κ s : Int) - 1)) := by unfold knF; rw [if_neg hz]
    have HF := Lib.hid (show r = true by rw [HR.out]; simpa using hz)
    rw [hq] at hlk
    generalize (κ s : Int) - 1 = x at hlk
    clear hz hq
    go_enter Tryd.func41, Tryd.ntmps41
    go_wp2_with fail
    go_ret
    exact ⟨ret_bool HF.out.symm, rfl⟩
end Go.Proofs.YtfamkemdgbnegaaDoor

/- Sorts: the checker looks at an expression. -/
namespace Go.Proofs.YtfamkemdgbnegaaDoor
open Go.RowKit So
theorem MustR.none {e : Ending} (h : MustR none e) : e = .returned (.tuple #[]) := h
theorem MustR.some {f : Flt} {e : Ending} (h : MustR (some f) e) : e = .panicked (thr f) := h
abbrev ExSC (cb : Nat) (κ : Kn) (w : World) (F : EF) : Prop := ∀ (op m : Int) (s : Str) (B : Option Addr) (kn kc N : Nat) (w' : World), Ext w w' → N ≤ w.heap.size → ESl w N B kn F →
  Calls Tryd.prog 107 #[.pointer (some ⟨cb, 0, none⟩), .agg (ecells op m s B kn kc)] w' fun e w2 => MustR (chk1 κ op m s F) e ∧ Ext w' w2
theorem elook {w : World} {cb g : Nat} {κ : Kn} {part : Str} {fors : Nat} (h : Ck w cb g κ part fors) (s : Str) : (Instr.lookup 74 (.map (some g)) (.string s) false).run Tryd.prog w = .ok (.int .i64 ((κ s : Int) - 1 + (if κ s = 0 then 1 else 0))) w := by
  have hlk := SMap.look (P := Tryd.prog) h.map Tryd.underlying74 Tryd.underlying9 (z := .int .i64 0) zero_sort s
  rw [hlk]
  unfold knF
  split <;> simp [*]
set_option maxRecDepth 100000 in
set_option maxHeartbeats 2000000 in
theorem sexpr_any (cb g : Nat) (κ : Kn) (part : Str) (fors : Nat) (w0 : World) (hC : Ck w0 cb g κ part fors) (hL : LaidAt w0) (F : EF) : ExSC cb κ w0 F := by
  refine ef_ind (C := ExSC cb κ w0) ?_ F
  intro F IH op m s B kn kc N0 w hx0 hN0 hes
  obtain ⟨X, hX⟩ : ∃ X, X = chk1 κ op m s F := ⟨_, rfl⟩
  rw [← hX]
  obtain ⟨r, hr⟩ : ∃ r, r = chkE κ F := ⟨_, rfl⟩
  have hX2 : X = ored (head1 κ op m s kn) r := by rw [hX, hr, hes.1]; rfl
  have HX2 := Lib.hid hX2
  have HEQ := Lib.hid hr.symm
  clear hX hX2 hr
  obtain ⟨hn, hf, b, off, hA, hE⟩ := hes
  have hm := hf.max (by omega)
  have HN := Lib.hid hn
  have HA := Lib.hid hA
  have HE := Lib.hid hE
  have HI := Lib.hid IH
  clear hn hA hE IH hf
  have hx1 := (Kept.refl (fun _ => False) w).alloc (.cells (ecells op m s B kn kc) 120)
  have hE1 := Blk.new w 120 (ecells op m s B kn kc)
  go_enter Tryd.func107, Tryd.ntmps107
  go_upto_region 1 with (fail)
  generalize hW : (w.alloc (.cells (ecells op m s B kn kc) 120)) = W at hx1 hE1 ⊢
  generalize w.heap.size = eb at hE1 ⊢
  clear hW
  have hE0 := Lib.hid hE1
  have HX0 := Lib.hid hx1
  have HCW := Lib.hid (hC.ext (hx0.trans hx1))
  have HLW := Lib.hid (hL.ext (hx0.trans hx1))
  have HY0 := Lib.hid (show Ext W W.drew from (Kept.refl _ W).drew)
  clear hE1 hx1
  cases hb1 : btw op 0 17
  · have HR := Lib.hid (show X = some ⟨3, E0⟩ by rw [HX2.out]; unfold head1; rw [hb1]; rfl)
    refine wp_region_3 (fun w1 => Ext W w1) [(0, 2), (1, 1), (2, 0), (3, 2), (4, 2), (5, 1), (6, 2), (7, 2), (8, 1), (9, 2), (10, 1), (11, 2), (12, 2), (13, 0)] (by kernel_rfl) (by kernel_rfl) (by kernel_rfl) (by kernel_rfl) ?_; intro l' hl'; simp only [List.map_cons, List.map_nil, List.getD_cons_zero, List.getD_cons_succ] at hl'; subst hl'
    (repeat (first | ((apply w3_pure); (· go_simp); (· (intro w1; go_simp; try with_reducible rfl)); (intro K hK; go_simp; refine hK _ _ ?_; clear hK K)) | ((apply w3_skip); (· go_simp); (intro K hK; go_simp; refine hK _ _ ?_; clear hK K)) | ((apply w3_take); (· exact HY0.out); (· go_simp); (· (intro w1 hS; have d4 := Blk.ext hE0.out hS; have d5 := Blk.cell d4; have d6 := d4.lt;  go_simp; try with_reducible rfl)); (intro K hK; go_simp; refine hK _ _ ?_; clear hK K)) | ((apply w3_pass); (· exact HY0.out); (· go_simp); (intro K hK; go_simp; refine hK _ _ ?_; clear hK K))))
    (refine w3_act (fun K hK => ?_); go_simp)
    refine (between_any _ _ _ _).mono ?_
    rintro e w1 ⟨rfl, rfl⟩
    rw [hb1]
    refine hK.out _ _ (fun _ => HY0.out) ?_
    clear hK K
    (repeat (first | ((apply w3_pure); (· go_simp); (· (intro w1; go_simp; try with_reducible rfl)); (intro K hK; go_simp; refine hK _ _ ?_; clear hK K)) | ((apply w3_skip); (· go_simp); (intro K hK; go_simp; refine hK _ _ ?_; clear hK K)) | ((apply w3_take); (· exact HY0.out); (· go_simp); (· (intro w1 hS; have d4 := Blk.ext hE0.out hS; have d5 := Blk.cell d4; have d6 := d4.lt;  go_simp; try with_reducible rfl)); (intro K hK; go_simp; refine hK _ _ ?_; clear hK K)) | ((apply w3_pass); (· exact HY0.out); (· go_simp); (intro K hK; go_simp; refine hK _ _ ?_; clear hK K))))
    (refine w3_last (by kernel_rfl) (by kernel_rfl) (fun K hK => ?_); go_simp)
    refine (must_any false _ _ _).mono ?_
    rintro e w1 ⟨he, rfl⟩
    have he : e = .panicked (thr ⟨3, E0⟩) := he
    subst he
    show _ ∧ _
    exact ⟨rfl, by rw [HR.out]; exact ⟨rfl, HX0.out.trans HY0.out⟩⟩
  · obtain ⟨k, rfl⟩ : ∃ k : Nat, op = k := ⟨op.toNat, by simp [btw] at hb1; omega⟩
    have hk18 : k < 18 := by simp [btw] at hb1; omega
    have hkI : (k : Int) < 18 := by omega
    have HT := Lib.hid (HLW.out.ex k hk18)
    have HBN := Lib.hid hb1
    refine wp_region_3 (fun w1 => Ext W w1) [(0, 2), (1, 1), (2, 0), (3, 2), (4, 2), (5, 1), (6, 2), (7, 2), (8, 1), (9, 2), (10, 1), (11, 2), (12, 2), (13, 0)] (by kernel_rfl) (by kernel_rfl) (by kernel_rfl) (by kernel_rfl) ?_; intro l' hl'; simp only [List.map_cons, List.map_nil, List.getD_cons_zero, List.getD_cons_succ] at hl'; subst hl'
    (repeat (first | ((apply w3_pure); (· go_simp); (· (intro w1; go_simp; try with_reducible rfl)); (intro K hK; go_simp; refine hK _ _ ?_; clear hK K)) | ((apply w3_skip); (· go_simp); (intro K hK; go_simp; refine hK _ _ ?_; clear hK K)) | ((apply w3_take); (· exact HY0.out); (· go_simp); (· (intro w1 hS; have d4 := Blk.ext hE0.out hS; have d5 := Blk.cell d4; have d6 := d4.lt; have d7 := cell_ext (p := ⟨3, k, none⟩) hS (by have := HLW.out.lt; show 3 < _; omega) HT.out;  go_simp; try with_reducible rfl)); (intro K hK; go_simp; refine hK _ _ ?_; clear hK K)) | ((apply w3_pass); (· exact HY0.out); (· go_simp); (intro K hK; go_simp; refine hK _ _ ?_; clear hK K))))
    (refine w3_act (fun K hK => ?_); go_simp)
    refine (between_any _ _ _ _).mono ?_
    rintro e w1 ⟨rfl, rfl⟩
    rw [hb1]
    refine hK.out _ _ (fun _ => HY0.out) ?_
    clear hK K
    cases hb2 : ((kn : Int) == (exprParts k : Int))
    · have HR := Lib.hid (show X = some ⟨3, E0⟩ by rw [HX2.out]; unfold head1; rw [HBN.out, ← nat_beq, hb2]; rfl)
      (repeat (first | ((apply w3_pure); (· go_simp); (· (intro w1; go_simp; try with_reducible rfl)); (intro K hK; go_simp; refine hK _ _ ?_; clear hK K)) | ((apply w3_skip); (· go_simp); (intro K hK; go_simp; refine hK _ _ ?_; clear hK K)) | ((apply w3_take); (· exact HY0.out); (· go_simp); (· (intro w1 hS; have d4 := Blk.ext hE0.out hS; have d5 := Blk.cell d4; have d6 := d4.lt; have d7 := cell_ext (p := ⟨3, k, none⟩) hS (by have := HLW.out.lt; show 3 < _; omega) HT.out;  go_simp; try with_reducible rfl)); (intro K hK; go_simp; refine hK _ _ ?_; clear hK K)) | ((apply w3_pass); (· exact HY0.out); (· go_simp); (intro K hK; go_simp; refine hK _ _ ?_; clear hK K))))
      (refine w3_last (by kernel_rfl) (by kernel_rfl) (fun K hK => ?_); go_simp)
      refine (must_any false _ _ _).mono ?_
      rintro e w1 ⟨he, rfl⟩
      have he : e = .panicked (thr ⟨3, E0⟩) := he
      subst he
      show _ ∧ _
      exact ⟨rfl, by rw [HR.out]; exact ⟨rfl, HX0.out.trans HY0.out⟩⟩
    · have HX3 : Hid (X = ored (if (k : Int) = 0 then must (word m) 2 E0 else if (k : Int) = 1 ∨ (k : Int) = 2 then ored (must (κ s != 0) 6 s) (must ((κ s == 2) == ((k : Int) == 2)) 11 s) else none) r) := Lib.hid (by rw [HX2.out]; unfold head1; rw [HBN.out, ← nat_beq, hb2]; rfl)
      (repeat (first | ((apply w3_pure); (· go_simp); (· (intro w1; go_simp; try with_reducible rfl)); (intro K hK; go_simp; refine hK _ _ ?_; clear hK K)) | ((apply w3_skip); (· go_simp); (intro K hK; go_simp; refine hK _ _ ?_; clear hK K)) | ((apply w3_take); (· exact HY0.out); (· go_simp); (· (intro w1 hS; have d4 := Blk.ext hE0.out hS; have d5 := Blk.cell d4; have d6 := d4.lt; have d7 := cell_ext (p := ⟨3, k, none⟩) hS (by have := HLW.out.lt; show 3 < _; omega) HT.out;  go_simp; try with_reducible rfl)); (intro K hK; go_simp; refine hK _ _ ?_; clear hK K)) | ((apply w3_pass); (· exact HY0.out); (· go_simp); (intro K hK; go_simp; refine hK _ _ ?_; clear hK K))))
      (refine w3_last (by kernel_rfl) (by kernel_rfl) (fun K hK => ?_); go_simp)
      refine (must_any true _ _ _).mono ?_
      rintro e w1 ⟨he, rfl⟩
      have he := MustR.none he
      subst he
      refine hK.out _ _ ?_
      clear hK K
      (repeat (first | ((apply w3_pure); (· go_simp); (· (intro w1; go_simp; try with_reducible rfl)); (intro K hK; go_simp; refine hK _ _ ?_; clear hK K)) | ((apply w3_skip); (· go_simp); (intro K hK; go_simp; refine hK _ _ ?_; clear hK K)) | (refine w3_end (by kernel_rfl) (fun K hK => ?_); go_simp; refine hK.out _ _ ?_; clear hK K))); refine w3_nil ?_
      have ys := HY0.out
      have hcE := Blk.cell (Blk.ext hE0.out ys)
      have hlE := (Blk.ext hE0.out ys).lt
      clear hb1 hb2 hk18 hkI
      by_cases ho0 : k = 0
      · subst ho0
        have HX4 : Hid (X = ored (must (word m) 2 E0) r) := Lib.hid (by rw [HX3.out]; rfl)
        clear HX3
        go_wp2_with fail
        refine (right_any _ _).mono ?_
        rintro e w1 ⟨rfl, rfl⟩
        cases hw : word m
        · have HR := Lib.hid (show X = some ⟨2, E0⟩ by rw [HX4.out, hw]; rfl)
          go_wp2_with fail
          refine (must_any false _ _ _).mono ?_
          rintro e w1 ⟨he, rfl⟩
          have he : e = .panicked (thr ⟨2, E0⟩) := he
          subst he
          show _ ∧ _
          exact ⟨rfl, by rw [HR.out]; exact ⟨rfl, HX0.out.trans ys⟩⟩
        · have HXR := Lib.hid (show X = r by rw [HX4.out, hw]; rfl)
          go_wp2_with fail
          refine (must_any true _ _ _).mono ?_
          rintro e w1 ⟨he, rfl⟩
          have he := MustR.none he
          subst he
          go_wp2_with fail
          go_loopw [56] (fun t56 wr => ∃ (j : Nat) (R : EF), j + R.len = kn ∧ chkE κ R = r ∧ t56 = .int .i64 j ∧ EFAt w0 N0 R b (off + j * 4) ∧ EF.All (ExSC cb κ w0) R ∧ Ext W wr) (fun t56 _ => kn - (intOf t56).toNat)
          case atStart => exact ⟨0, F, by rw [HN.out, Nat.zero_add], HEQ.out, rfl, by simpa using HE.out, HI.out, ys⟩
          case round =>
            obtain ⟨j, R, hj, hacc, rfl, hR, hI, hx⟩ := hrel
            have HRR := Lib.hid hR
            have HI2 := Lib.hid hI
            have HX := Lib.hid hx
            have HACC := Lib.hid hacc
            clear hR hI hx hacc
            cases R with
            | nil =>
              simp only [EF.len, Nat.add_zero] at hj
              subst hj
              have hr0 : r = none := by rw [← HACC.out]; rfl
              have HR0 := Lib.hid hr0
              clear hr0
              go_wp2_with fail
              go_end0
              exact ⟨by rw [HXR.out, HR0.out]; rfl, HX0.out.trans HX.out⟩
            | cons op' m' name' q rr =>
              obtain ⟨hb, h1, h2, h3, ⟨A', cap, b', off', hh, hg, hl, hA', hk⟩, hr⟩ := HRR.out
              simp only [EF.len] at hj
              have hlt : (j : Int) < kn := by omega
              obtain rfl := HA.out (by omega)
              have hx0r := hx0.trans (HX0.out.trans HX.out)
              have hbl := hx0r.size
              have hh' := has_ext hx0r (by omega) hh
              have hg' := gets_ext hx0r (by omega) hg
              have hbw : b < wr.heap.size := by omega
              have KE := Lib.hid (show ESl w0 N0 A' q.len q from ⟨rfl, hl, b', off', hA', hk⟩)
              have IK := Lib.hid HI2.out.1
              have HX0r := Lib.hid hx0r
              have HR2 := Lib.hid hr
              clear hh hg hl hA' hk h1 h2 h3 HRR hbl hx0r hr
              go_wp2_with fail
              have y0 : Ext wr _ := (Kept.refl _ wr).alloc (.cells (ecells op' m' name' A' q.len cap) 120)
              obtain ⟨f, hf⟩ : ∃ f, f = chk1 κ op' m' name' q := ⟨_, rfl⟩
              have HF := Lib.hid hf
              have HK := Lib.hid (IK.out op' m' name' A' q.len cap N0 _ (HX0r.out.trans y0) hN0 KE.out)
              rw [← hf] at HK
              clear hf
              refine HK.out.mono ?_
              rintro e w1 ⟨he, hx1⟩
              cases f with
              | none =>
                have he := MustR.none he
                subst he
                have HNX := Lib.hid (show chkE κ rr = r by have h := HACC.out; rw [chkE_cons, ← HF.out] at h; exact h)
                go_wp2_with fail
                go_roundw
                case rel => exact ⟨j + 1, rr, by omega, HNX.out, by go_num, by rw [Nat.add_mul, ← Nat.add_assoc]; exact HR2.out, HI2.out.2, HX.out.trans (y0.trans hx1)⟩
                case measure => simp only [intOf]; omega
              | some f =>
                have he := MustR.some he
                subst he
                have HRF := Lib.hid (show X = some f by have h := HACC.out; rw [chkE_cons, ← HF.out] at h; rw [HXR.out, ← h]; rfl)
                show _ ∧ _
                exact ⟨rfl, by rw [HRF.out]; exact ⟨rfl, HX0.out.trans (HX.out.trans (y0.trans hx1))⟩⟩
      · have q0 : ((k : Int) == 0) = false := by simp; omega
        by_cases ho1 : k = 1
        · subst ho1
          have HX4 : Hid (X = ored (ored (must (κ s != 0) 6 s) (must ((κ s == 2) == false) 11 s)) r) := Lib.hid (by rw [HX3.out]; rfl)
          clear HX3
          go_upto_region 7 with (fail)
          obtain ⟨v, hv⟩ : ∃ v, v = κ s := ⟨_, rfl⟩
          have HV := Lib.hid hv
          rw [← hv] at HX4
          clear hv
          generalize hW2 : W.drew = W2 at ys hcE hlE ⊢
          clear hW2
          have HY2 := Lib.hid ys
          refine wp_region_3 (fun w1 => Ext W2 w1) [(0, 2), (1, 2), (2, 1), (4, 2), (5, 1), (3, 0), (6, 0)] (by kernel_rfl) (by kernel_rfl) (by kernel_rfl) (by kernel_rfl) ?_; intro l' hl'; simp only [List.map_cons, List.map_nil, List.getD_cons_zero, List.getD_cons_succ] at hl'; subst hl'
          have HZ0 := Lib.hid (show Ext W2 W2.drew from (Kept.refl _ W2).drew)
          (repeat (first | ((apply w3_pure); (· go_simp); (· (intro w1; go_simp; try with_reducible rfl)); (intro K hK; go_simp; refine hK _ _ ?_; clear hK K)) | ((apply w3_skip); (· go_simp); (intro K hK; go_simp; refine hK _ _ ?_; clear hK K)) | ((apply w3_take); (· exact HZ0.out); (· go_simp); (· (intro w1 hS; have d4 := Blk.ext hE0.out (HY2.out.trans hS); have d5 := Blk.cell d4; have d6 := d4.lt;  go_simp; try with_reducible rfl)); (intro K hK; go_simp; refine hK _ _ ?_; clear hK K)) | ((apply w3_pass); (· exact HZ0.out); (· go_simp); (intro K hK; go_simp; refine hK _ _ ?_; clear hK K))))
          (refine w3_act (fun K hK => ?_); go_simp)
          refine (knows_any cb g κ part fors s _ (HCW.out.ext (HY2.out.trans HZ0.out))).mono ?_
          rintro e w1 ⟨rfl, rfl⟩
          rw [← HV.out]
          refine hK.out _ _ (fun _ => HZ0.out) ?_
          clear hK K
          (repeat (first | ((apply w3_pure); (· go_simp); (· (intro w1; go_simp; try with_reducible rfl)); (intro K hK; go_simp; refine hK _ _ ?_; clear hK K)) | ((apply w3_skip); (· go_simp); (intro K hK; go_simp; refine hK _ _ ?_; clear hK K)) | ((apply w3_take); (· exact HZ0.out); (· go_simp); (· (intro w1 hS; have d4 := Blk.ext hE0.out (HY2.out.trans hS); have d5 := Blk.cell d4; have d6 := d4.lt;  go_simp; try with_reducible rfl)); (intro K hK; go_simp; refine hK _ _ ?_; clear hK K)) | ((apply w3_pass); (· exact HZ0.out); (· go_simp); (intro K hK; go_simp; refine hK _ _ ?_; clear hK K))))
          (refine w3_last (by kernel_rfl) (by kernel_rfl) (fun K hK => ?_); go_simp)
          by_cases hv0 : v = 0
          · have qv : (v != 0) = false := by simp [hv0]
            have HR := Lib.hid (show X = some ⟨6, s⟩ by rw [HX4.out, qv]; rfl)
            rw [qv]
            refine (must_any false _ _ _).mono ?_
            rintro e w1 ⟨he, rfl⟩
            have he : e = .panicked (thr ⟨6, s⟩) := he
            subst he
            show _ ∧ _
            exact ⟨rfl, by rw [HR.out]; exact ⟨rfl, HX0.out.trans (HY2.out.trans HZ0.out)⟩⟩
          · have qv : (v != 0) = true := by simp [hv0]
            rw [qv] at HX4 ⊢
            refine (must_any true _ _ _).mono ?_
            rintro e w1 ⟨he, rfl⟩
            have he := MustR.none he
            subst he
            refine hK.out _ _ ?_
            clear hK K
            (repeat (first | ((apply w3_pure); (· go_simp); (· (intro w1; go_simp; try with_reducible rfl)); (intro K hK; go_simp; refine hK _ _ ?_; clear hK K)) | ((apply w3_skip); (· go_simp); (intro K hK; go_simp; refine hK _ _ ?_; clear hK K)) | (refine w3_end (by kernel_rfl) (fun K hK => ?_); go_simp; refine hK.out _ _ ?_; clear hK K))); refine w3_nil ?_
            have HY3 := Lib.hid (HY2.out.trans HZ0.out)
            clear ys hcE hlE
            go_upto_region 8 with (fail)
            generalize hW3 : W2.drew = W3 at HY3 ⊢
            clear hW3
            refine wp_region_3 (fun w1 => Ext W3 w1) [(0, 2), (1, 2), (2, 2), (3, 1), (4, 2), (5, 1), (6, 1), (7, 2), (8, 2), (9, 1), (10, 2), (11, 2), (12, 2), (13, 1), (14, 0)] (by kernel_rfl) (by kernel_rfl) (by kernel_rfl) (by kernel_rfl) ?_; intro l' hl'; simp only [List.map_cons, List.map_nil, List.getD_cons_zero, List.getD_cons_succ] at hl'; subst hl'
            have HU0 := Lib.hid (show Ext W3 W3.drew from (Kept.refl _ W3).drew)
            have hvI : ((v : Int) - 1 + (if v = 0 then 1 else 0)) = (v : Int) - 1 := by rw [if_neg hv0]; omega
            (repeat (first | ((apply w3_pure); (· go_simp); (· (intro w1; go_simp; try with_reducible rfl)); (intro K hK; go_simp; refine hK _ _ ?_; clear hK K)) | ((apply w3_skip); (· go_simp); (intro K hK; go_simp; refine hK _ _ ?_; clear hK K)) | ((apply w3_take); (· exact HU0.out); (· go_simp); (· (intro w1 hS; have d1 := (HCW.out.ext (HY3.out.trans hS)); have d2 := Blk.cell d1.blk; have d3 := d1.blk.lt; have d7 := elook d1 s; rw [← HV.out, hvI] at d7; clear d1; have d4 := Blk.ext hE0.out (HY3.out.trans hS); have d5 := Blk.cell d4; have d6 := d4.lt;  go_simp; try with_reducible rfl)); (intro K hK; go_simp; refine hK _ _ ?_; clear hK K)) | ((apply w3_pass); (· exact HU0.out); (· go_simp); (intro K hK; go_simp; refine hK _ _ ?_; clear hK K))))
            by_cases hv2 : v = 2
            · have qv2 : ((v : Int) - 1 == 1) = true := by simp [hv2]
              have qn : (v == 2) = true := by simp [hv2]
              rw [qn] at HX4
              clear hvI
              (repeat (first | ((apply w3_pure); (· go_simp); (· (intro w1; go_simp; try with_reducible rfl)); (intro K hK; go_simp; refine hK _ _ ?_; clear hK K)) | ((apply w3_skip); (· go_simp); (intro K hK; go_simp; refine hK _ _ ?_; clear hK K))))
              (refine w3_last (by kernel_rfl) (by kernel_rfl) (fun K hK => ?_); go_simp)
              try rw [qv2]
              refine (must_any false _ _ _).mono ?_
              rintro e w1 ⟨he, rfl⟩
              have he : e = .panicked (thr ⟨11, s⟩) := he
              subst he
              have HR := Lib.hid (show X = some ⟨11, s⟩ by rw [HX4.out]; rfl)
              show _ ∧ _
              exact ⟨rfl, by rw [HR.out]; exact ⟨rfl, HX0.out.trans (HY3.out.trans HU0.out)⟩⟩
            · have qv2 : ((v : Int) - 1 == 1) = false := by simp; omega
              have qn : (v == 2) = false := by simp [hv2]
              rw [qn] at HX4
              clear hvI
              (repeat (first | ((apply w3_pure); (· go_simp); (· (intro w1; go_simp; try with_reducible rfl)); (intro K hK; go_simp; refine hK _ _ ?_; clear hK K)) | ((apply w3_skip); (· go_simp); (intro K hK; go_simp; refine hK _ _ ?_; clear hK K))))
              (refine w3_last (by kernel_rfl) (by kernel_rfl) (fun K hK => ?_); go_simp)
              try rw [qv2]
              refine (must_any true _ _ _).mono ?_
              rintro e w1 ⟨he, rfl⟩
              have he := MustR.none he
              subst he
              have HXR := Lib.hid (show X = r by rw [HX4.out]; rfl)
              refine hK.out _ _ ?_
              clear hK K
              (repeat (first | ((apply w3_pure); (· go_simp); (· (intro w1; go_simp; try with_reducible rfl)); (intro K hK; go_simp; refine hK _ _ ?_; clear hK K)) | ((apply w3_skip); (· go_simp); (intro K hK; go_simp; refine hK _ _ ?_; clear hK K)) | (refine w3_end (by kernel_rfl) (fun K hK => ?_); go_simp; refine hK.out _ _ ?_; clear hK K))); refine w3_nil ?_
              have ys := HY3.out.trans HU0.out
              have hcE := Blk.cell (Blk.ext hE0.out ys)
              have hlE := (Blk.ext hE0.out ys).lt
              go_wp2_with fail
              go_loopw [56] (fun t56 wr => ∃ (j : Nat) (R : EF), j + R.len = kn ∧ chkE κ R = r ∧ t56 = .int .i64 j ∧ EFAt w0 N0 R b (off + j * 4) ∧ EF.All (ExSC cb κ w0) R ∧ Ext W wr) (fun t56 _ => kn - (intOf t56).toNat)
              case atStart => exact ⟨0, F, by rw [HN.out, Nat.zero_add], HEQ.out, rfl, by simpa using HE.out, HI.out, ys⟩
              case round =>
                obtain ⟨j, R, hj, hacc, rfl, hR, hI, hx⟩ := hrel
                have HRR := Lib.hid hR
                have HI2 := Lib.hid hI
                have HX := Lib.hid hx
                have HACC := Lib.hid hacc
                clear hR hI hx hacc
                cases R with
                | nil =>
                  simp only [EF.len, Nat.add_zero] at hj
                  subst hj
                  have hr0 : r = none := by rw [← HACC.out]; rfl
                  have HR0 := Lib.hid hr0
                  clear hr0
                  go_wp2_with fail
                  go_end0
                  exact ⟨by rw [HXR.out, HR0.out]; rfl, HX0.out.trans HX.out⟩
                | cons op' m' name' q rr =>
                  obtain ⟨hb, h1, h2, h3, ⟨A', cap, b', off', hh, hg, hl, hA', hk⟩, hr⟩ := HRR.out
                  simp only [EF.len] at hj
                  have hlt : (j : Int) < kn := by omega
                  obtain rfl := HA.out (by omega)
                  have hx0r := hx0.trans (HX0.out.trans HX.out)
                  have hbl := hx0r.size
                  have hh' := has_ext hx0r (by omega) hh
                  have hg' := gets_ext hx0r (by omega) hg
                  have hbw : b < wr.heap.size := by omega
                  have KE := Lib.hid (show ESl w0 N0 A' q.len q from ⟨rfl, hl, b', off', hA', hk⟩)
                  have IK := Lib.hid HI2.out.1
                  have HX0r := Lib.hid hx0r
                  have HR2 := Lib.hid hr
                  clear hh hg hl hA' hk h1 h2 h3 HRR hbl hx0r hr
                  go_wp2_with fail
                  have y0 : Ext wr _ := (Kept.refl _ wr).alloc (.cells (ecells op' m' name' A' q.len cap) 120)
                  obtain ⟨f, hf⟩ : ∃ f, f = chk1 κ op' m' name' q := ⟨_, rfl⟩
                  have HF := Lib.hid hf
                  have HK := Lib.hid (IK.out op' m' name' A' q.len cap N0 _ (HX0r.out.trans y0) hN0 KE.out)
                  rw [← hf] at HK
                  clear hf
                  refine HK.out.mono ?_
                  rintro e w1 ⟨he, hx1⟩
                  cases f with
                  | none =>
                    have he := MustR.none he
                    subst he
                    have HNX := Lib.hid (show chkE κ rr = r by have h := HACC.out; rw [chkE_cons, ← HF.out] at h; exact h)
                    go_wp2_with fail
                    go_roundw
                    case rel => exact ⟨j + 1, rr, by omega, HNX.out, by go_num, by rw [Nat.add_mul, ← Nat.add_assoc]; exact HR2.out, HI2.out.2, HX.out.trans (y0.trans hx1)⟩
                    case measure => simp only [intOf]; omega
                  | some f =>
                    have he := MustR.some he
                    subst he
                    have HRF := Lib.hid (show X = some f by have h := HACC.out; rw [chkE_cons, ← HF.out] at h; rw [HXR.out, ← h]; rfl)
                    show _ ∧ _
                    exact ⟨rfl, by rw [HRF.out]; exact ⟨rfl, HX0.out.trans (HX.out.trans (y0.trans hx1))⟩⟩
        · have q1 : ((k : Int) == 1) = false := by simp; omega
          by_cases ho2 : k = 2
          · subst ho2
            have HX4 : Hid (X = ored (ored (must (κ s != 0) 6 s) (must ((κ s == 2) == true) 11 s)) r) := Lib.hid (by rw [HX3.out]; rfl)
            clear HX3
            go_upto_region 7 with (fail)
            obtain ⟨v, hv⟩ : ∃ v, v = κ s := ⟨_, rfl⟩
            have HV := Lib.hid hv
            rw [← hv] at HX4
            clear hv
            generalize hW2 : W.drew = W2 at ys hcE hlE ⊢
            clear hW2
            have HY2 := Lib.hid ys
            refine wp_region_3 (fun w1 => Ext W2 w1) [(0, 2), (1, 2), (2, 1), (4, 2), (5, 1), (3, 0), (6, 0)] (by kernel_rfl) (by kernel_rfl) (by kernel_rfl) (by kernel_rfl) ?_; intro l' hl'; simp only [List.map_cons, List.map_nil, List.getD_cons_zero, List.getD_cons_succ] at hl'; subst hl'
            have HZ0 := Lib.hid (show Ext W2 W2.drew from (Kept.refl _ W2).drew)
            (repeat (first | ((apply w3_pure); (· go_simp); (· (intro w1; go_simp; try with_reducible rfl)); (intro K hK; go_simp; refine hK _ _ ?_; clear hK K)) | ((apply w3_skip); (· go_simp); (intro K hK; go_simp; refine hK _ _ ?_; clear hK K)) | ((apply w3_take); (· exact HZ0.out); (· go_simp); (· (intro w1 hS; have d4 := Blk.ext hE0.out (HY2.out.trans hS); have d5 := Blk.cell d4; have d6 := d4.lt;  go_simp; try with_reducible rfl)); (intro K hK; go_simp; refine hK _ _ ?_; clear hK K)) | ((apply w3_pass); (· exact HZ0.out); (· go_simp); (intro K hK; go_simp; refine hK _ _ ?_; clear hK K))))
            (refine w3_act (fun K hK => ?_); go_simp)
            refine (knows_any cb g κ part fors s _ (HCW.out.ext (HY2.out.trans HZ0.out))).mono ?_
            rintro e w1 ⟨rfl, rfl⟩
            rw [← HV.out]
            refine hK.out _ _ (fun _ => HZ0.out) ?_
            clear hK K
            (repeat (first | ((apply w3_pure); (· go_simp); (· (intro w1; go_simp; try with_reducible rfl)); (intro K hK; go_simp; refine hK _ _ ?_; clear hK K)) | ((apply w3_skip); (· go_simp); (intro K hK; go_simp; refine hK _ _ ?_; clear hK K)) | ((apply w3_take); (· exact HZ0.out); (· go_simp); (· (intro w1 hS; have d4 := Blk.ext hE0.out (HY2.out.trans hS); have d5 := Blk.cell d4; have d6 := d4.lt;  go_simp; try with_reducible rfl)); (intro K hK; go_simp; refine hK _ _ ?_; clear hK K)) | ((apply w3_pass); (· exact HZ0.out); (· go_simp); (intro K hK; go_simp; refine hK _ _ ?_; clear hK K))))
            (refine w3_last (by kernel_rfl) (by kernel_rfl) (fun K hK => ?_); go_simp)
            by_cases hv0 : v = 0
            · have qv : (v != 0) = false := by simp [hv0]
              have HR := Lib.hid (show X = some ⟨6, s⟩ by rw [HX4.out, qv]; rfl)
              rw [qv]
              refine (must_any false _ _ _).mono ?_
              rintro e w1 ⟨he, rfl⟩
              have he : e = .panicked (thr ⟨6, s⟩) := he
              subst he
              show _ ∧ _
              exact ⟨rfl, by rw [HR.out]; exact ⟨rfl, HX0.out.trans (HY2.out.trans HZ0.out)⟩⟩
            · have qv : (v != 0) = true := by simp [hv0]
              rw [qv] at HX4 ⊢
              refine (must_any true _ _ _).mono ?_
              rintro e w1 ⟨he, rfl⟩
              have he := MustR.none he
              subst he
              refine hK.out _ _ ?_
              clear hK K
              (repeat (first | ((apply w3_pure); (· go_simp); (· (intro w1; go_simp; try with_reducible rfl)); (intro K hK; go_simp; refine hK _ _ ?_; clear hK K)) | ((apply w3_skip); (· go_simp); (intro K hK; go_simp; refine hK _ _ ?_; clear hK K)) | (refine w3_end (by kernel_rfl) (fun K hK => ?_); go_simp; refine hK.out _ _ ?_; clear hK K))); refine w3_nil ?_
              have HY3 := Lib.hid (HY2.out.trans HZ0.out)
              clear ys hcE hlE
              go_upto_region 8 with (fail)
              generalize hW3 : W2.drew = W3 at HY3 ⊢
              clear hW3
              refine wp_region_3 (fun w1 => Ext W3 w1) [(0, 2), (1, 2), (2, 2), (3, 1), (4, 2), (5, 1), (6, 1), (7, 2), (8, 2), (9, 1), (10, 2), (11, 2), (12, 2), (13, 1), (14, 0)] (by kernel_rfl) (by kernel_rfl) (by kernel_rfl) (by kernel_rfl) ?_; intro l' hl'; simp only [List.map_cons, List.map_nil, List.getD_cons_zero, List.getD_cons_succ] at hl'; subst hl'
              have HU0 := Lib.hid (show Ext W3 W3.drew from (Kept.refl _ W3).drew)
              have hvI : ((v : Int) - 1 + (if v = 0 then 1 else 0)) = (v : Int) - 1 := by rw [if_neg hv0]; omega
              (repeat (first | ((apply w3_pure); (· go_simp); (· (intro w1; go_simp; try with_reducible rfl)); (intro K hK; go_simp; refine hK _ _ ?_; clear hK K)) | ((apply w3_skip); (· go_simp); (intro K hK; go_simp; refine hK _ _ ?_; clear hK K)) | ((apply w3_take); (· exact HU0.out); (· go_simp); (· (intro w1 hS; have d1 := (HCW.out.ext (HY3.out.trans hS)); have d2 := Blk.cell d1.blk; have d3 := d1.blk.lt; have d7 := elook d1 s; rw [← HV.out, hvI] at d7; clear d1; have d4 := Blk.ext hE0.out (HY3.out.trans hS); have d5 := Blk.cell d4; have d6 := d4.lt;  go_simp; try with_reducible rfl)); (intro K hK; go_simp; refine hK _ _ ?_; clear hK K)) | ((apply w3_pass); (· exact HU0.out); (· go_simp); (intro K hK; go_simp; refine hK _ _ ?_; clear hK K))))
              by_cases hv2 : v = 2
              · have qv2 : ((v : Int) - 1 == 1) = true := by simp [hv2]
                have qn : (v == 2) = true := by simp [hv2]
                rw [qn] at HX4
                clear hvI
                (repeat (first | ((apply w3_pure); (· go_simp); (· (intro w1; go_simp; try with_reducible rfl)); (intro K hK; go_simp; refine hK _ _ ?_; clear hK K)) | ((apply w3_skip); (· go_simp); (intro K hK; go_simp; refine hK _ _ ?_; clear hK K))))
                (refine w3_last (by kernel_rfl) (by kernel_rfl) (fun K hK => ?_); go_simp)
                try rw [qv2]
                refine (must_any true _ _ _).mono ?_
                rintro e w1 ⟨he, rfl⟩
                have he := MustR.none he
                subst he
                have HXR := Lib.hid (show X = r by rw [HX4.out]; rfl)
                refine hK.out _ _ ?_
                clear hK K
                (repeat (first | ((apply w3_pure); (· go_simp); (· (intro w1; go_simp; try with_reducible rfl)); (intro K hK; go_simp; refine hK _ _ ?_; clear hK K)) | ((apply w3_skip); (· go_simp); (intro K hK; go_simp; refine hK _ _ ?_; clear hK K)) | (refine w3_end (by kernel_rfl) (fun K hK => ?_); go_simp; refine hK.out _ _ ?_; clear hK K))); refine w3_nil ?_
                have ys := HY3.out.trans HU0.out
                have hcE := Blk.cell (Blk.ext hE0.out ys)
                have hlE := (Blk.ext hE0.out ys).lt
                go_wp2_with fail
                go_loopw [56] (fun t56 wr => ∃ (j : Nat) (R : EF), j + R.len = kn ∧ chkE κ R = r ∧ t56 = .int .i64 j ∧ EFAt w0 N0 R b (off + j * 4) ∧ EF.All (ExSC cb κ w0) R ∧ Ext W wr) (fun t56 _ => kn - (intOf t56).toNat)
                case atStart => exact ⟨0, F, by rw [HN.out, Nat.zero_add], HEQ.out, rfl, by simpa using HE.out, HI.out, ys⟩
                case round =>
                  obtain ⟨j, R, hj, hacc, rfl, hR, hI, hx⟩ := hrel
                  have HRR := Lib.hid hR
                  have HI2 := Lib.hid hI
                  have HX := Lib.hid hx
                  have HACC := Lib.hid hacc
                  clear hR hI hx hacc
                  cases R with
                  | nil =>
                    simp only [EF.len, Nat.add_zero] at hj
                    subst hj
                    have hr0 : r = none := by rw [← HACC.out]; rfl
                    have HR0 := Lib.hid hr0
                    clear hr0
                    go_wp2_with fail
                    go_end0
                    exact ⟨by rw [HXR.out, HR0.out]; rfl, HX0.out.trans HX.out⟩
                  | cons op' m' name' q rr =>
                    obtain ⟨hb, h1, h2, h3, ⟨A', cap, b', off', hh, hg, hl, hA', hk⟩, hr⟩ := HRR.out
                    simp only [EF.len] at hj
                    have hlt : (j : Int) < kn := by omega
                    obtain rfl := HA.out (by omega)
                    have hx0r := hx0.trans (HX0.out.trans HX.out)
                    have hbl := hx0r.size
                    have hh' := has_ext hx0r (by omega) hh
                    have hg' := gets_ext hx0r (by omega) hg
                    have hbw : b < wr.heap.size := by omega
                    have KE := Lib.hid (show ESl w0 N0 A' q.len q from ⟨rfl, hl, b', off', hA', hk⟩)
                    have IK := Lib.hid HI2.out.1
                    have HX0r := Lib.hid hx0r
                    have HR2 := Lib.hid hr
                    clear hh hg hl hA' hk h1 h2 h3 HRR hbl hx0r hr
                    go_wp2_with fail
                    have y0 : Ext wr _ := (Kept.refl _ wr).alloc (.cells (ecells op' m' name' A' q.len cap) 120)
                    obtain ⟨f, hf⟩ : ∃ f, f = chk1 κ op' m' name' q := ⟨_, rfl⟩
                    have HF := Lib.hid hf
                    have HK := Lib.hid (IK.out op' m' name' A' q.len cap N0 _ (HX0r.out.trans y0) hN0 KE.out)
                    rw [← hf] at HK
                    clear hf
                    refine HK.out.mono ?_
                    rintro e w1 ⟨he, hx1⟩
                    cases f with
                    | none =>
                      have he := MustR.none he
                      subst he
                      have HNX := Lib.hid (show chkE κ rr = r by have h := HACC.out; rw [chkE_cons, ← HF.out] at h; exact h)
                      go_wp2_with fail
                      go_roundw
                      case rel => exact ⟨j + 1, rr, by omega, HNX.out, by go_num, by rw [Nat.add_mul, ← Nat.add_assoc]; exact HR2.out, HI2.out.2, HX.out.trans (y0.trans hx1)⟩
                      case measure => simp only [intOf]; omega
                    | some f =>
                      have he := MustR.some he
                      subst he
                      have HRF := Lib.hid (show X = some f by have h := HACC.out; rw [chkE_cons, ← HF.out] at h; rw [HXR.out, ← h]; rfl)
                      show _ ∧ _
                      exact ⟨rfl, by rw [HRF.out]; exact ⟨rfl, HX0.out.trans (HX.out.trans (y0.trans hx1))⟩⟩
              · have qv2 : ((v : Int) - 1 == 1) = false := by simp; omega
                have qn : (v == 2) = false := by simp [hv2]
                rw [qn] at HX4
                clear hvI
                (repeat (first | ((apply w3_pure); (· go_simp); (· (intro w1; go_simp; try with_reducible rfl)); (intro K hK; go_simp; refine hK _ _ ?_; clear hK K)) | ((apply w3_skip); (· go_simp); (intro K hK; go_simp; refine hK _ _ ?_; clear hK K))))
                (refine w3_last (by kernel_rfl) (by kernel_rfl) (fun K hK => ?_); go_simp)
                try rw [qv2]
                refine (must_any false _ _ _).mono ?_
                rintro e w1 ⟨he, rfl⟩
                have he : e = .panicked (thr ⟨11, s⟩) := he
                subst he
                have HR := Lib.hid (show X = some ⟨11, s⟩ by rw [HX4.out]; rfl)
                show _ ∧ _
                exact ⟨rfl, by rw [HR.out]; exact ⟨rfl, HX0.out.trans (HY3.out.trans HU0.out)⟩⟩
          · have q2 : ((k : Int) == 2) = false := by simp; omega
            have HXR := Lib.hid (show X = r by rw [HX3.out, if_neg (by omega), if_neg (by omega)]; rfl)
            go_wp2_with fail
            go_loopw [56] (fun t56 wr => ∃ (j : Nat) (R : EF), j + R.len = kn ∧ chkE κ R = r ∧ t56 = .int .i64 j ∧ EFAt w0 N0 R b (off + j * 4) ∧ EF.All (ExSC cb κ w0) R ∧ Ext W wr) (fun t56 _ => kn - (intOf t56).toNat)
            case atStart => exact ⟨0, F, by rw [HN.out, Nat.zero_add], HEQ.out, rfl, by simpa using HE.out, HI.out, ys⟩
            case round =>
              obtain ⟨j, R, hj, hacc, rfl, hR, hI, hx⟩ := hrel
              have HRR := Lib.hid hR
              have HI2 := Lib.hid hI
              have HX := Lib.hid hx
              have HACC := Lib.hid hacc
              clear hR hI hx hacc
              cases R with
              | nil =>
                simp only [EF.len, Nat.add_zero] at hj
                subst hj
                have hr0 : r = none := by rw [← HACC.out]; rfl
                have HR0 := Lib.hid hr0
                clear hr0
                go_wp2_with fail
                go_end0
                exact ⟨by rw [HXR.out, HR0.out]; rfl, HX0.out.trans HX.out⟩
              | cons op' m' name' q rr =>
                obtain ⟨hb, h1, h2, h3, ⟨A', cap, b', off', hh, hg, hl, hA', hk⟩, hr⟩ := HRR.out
                simp only [EF.len] at hj
                have hlt : (j : Int) < kn := by omega
                obtain rfl := HA.out (by omega)
                have hx0r := hx0.trans (HX0.out.trans HX.out)
                have hbl := hx0r.size
                have hh' := has_ext hx0r (by omega) hh
                have hg' := gets_ext hx0r (by omega) hg
                have hbw : b < wr.heap.size := by omega
                have KE := Lib.hid (show ESl w0 N0 A' q.len q from ⟨rfl, hl, b', off', hA', hk⟩)
                have IK := Lib.hid HI2.out.1
                have HX0r := Lib.hid hx0r
                have HR2 := Lib.hid hr
                clear hh hg hl hA' hk h1 h2 h3 HRR hbl hx0r hr
                go_wp2_with fail
                have y0 : Ext wr _ := (Kept.refl _ wr).alloc (.cells (ecells op' m' name' A' q.len cap) 120)
                obtain ⟨f, hf⟩ : ∃ f, f = chk1 κ op' m' name' q := ⟨_, rfl⟩
                have HF := Lib.hid hf
                have HK := Lib.hid (IK.out op' m' name' A' q.len cap N0 _ (HX0r.out.trans y0) hN0 KE.out)
                rw [← hf] at HK
                clear hf
                refine HK.out.mono ?_
                rintro e w1 ⟨he, hx1⟩
                cases f with
                | none =>
                  have he := MustR.none he
                  subst he
                  have HNX := Lib.hid (show chkE κ rr = r by have h := HACC.out; rw [chkE_cons, ← HF.out] at h; exact h)
                  go_wp2_with fail
                  go_roundw
                  case rel => exact ⟨j + 1, rr, by omega, HNX.out, by go_num, by rw [Nat.add_mul, ← Nat.add_assoc]; exact HR2.out, HI2.out.2, HX.out.trans (y0.trans hx1)⟩
                  case measure => simp only [intOf]; omega
                | some f =>
                  have he := MustR.some he
                  subst he
                  have HRF := Lib.hid (show X = some f by have h := HACC.out; rw [chkE_cons, ← HF.out] at h; rw [HXR.out, ← h]; rfl)
                  show _ ∧ _
                  exact ⟨rfl, by rw [HRF.out]; exact ⟨rfl, HX0.out.trans (HX.out.trans (y0.trans hx1))⟩⟩
end Go.Proofs.YtfamkemdgbnegaaDoor

/- Sorts: the checker: what stands where, what is assigned, a for's head. -/
namespace Go.Proofs.YtfamkemdgbnegaaDoor
open Go.RowKit So
set_option maxRecDepth 100000 in
set_option maxHeartbeats 1000000 in
theorem stands_any (cb g : Nat) (κ : Kn) (i fors : Nat) (hi : i < 5) (k : Int) (l : Bool) (w : World) (hC : Ck w cb g κ (partName i) fors) : Calls Tryd.prog 103 #[.pointer (some ⟨cb, 0, none⟩), .int .i64 k, .bool l] w fun e w' => e = .returned (.bool (stands k i l)) ∧ w = w' := by
  have hc := Blk.cell hC.blk
  have hl := hC.blk.lt
  clear hC
  rcases (by omega : i = 0 ∨ i = 1 ∨ i = 2 ∨ i = 3 ∨ i = 4) with rfl | rfl | rfl | rfl | rfl
  all_goals
    simp only [partName, sStart, sTurn, sPlay, sSilent, sPay] at hc
    go_enter Tryd.func103, Tryd.ntmps103
    go_wp2_with fail
    all_goals go_ret
    all_goals refine ⟨ret_bool ?_, rfl⟩
    all_goals first | (simp_all [stands]; done) | (simp_all [stands, str_eq]; done) | (simp_all [stands, str_eq]; decide) | (simp_all [stands, ByteArray.toList_eq])
set_option maxRecDepth 100000 in
set_option maxHeartbeats 2000000 in
theorem target_any (cb g : Nat) (κ : Kn) (part : Str) (fors : Nat) (kind : Int) (s : Str) (eA : Option Addr) (en ec : Nat) (low high : Int) (lA : Option Addr) (ln lc : Nat) (xA : Option Addr) (xn xc : Nat) (hk : kind = 0 ∨ kind = 1 ∨ kind = 5) (w : World) (hC : Ck w cb g κ part fors) :
    Calls Tryd.prog 104 #[.pointer (some ⟨cb, 0, none⟩), .agg (scells kind s eA en ec low high lA ln lc xA xn xc)] w fun e w' => MustR (target κ kind s low) e ∧ Ext w w' := by
  obtain ⟨X, hX⟩ : ∃ X, X = target κ kind s low := ⟨_, rfl⟩
  rw [← hX]
  obtain ⟨v, hv⟩ : ∃ v, v = κ s := ⟨_, rfl⟩
  have HV := Lib.hid hv
  have HX2 : Hid (X = ored (must (v != 0) 6 s) (ored (must (v == (if kind = 1 then 2 else 1)) 11 s) (if kind = 5 then must (btw low 2 1000) 2 s else none))) := Lib.hid (by rw [hX, hv]; rfl)
  clear hX hv
  have hx1 := (Kept.refl (fun _ => False) w).alloc (.cells (scells kind s eA en ec low high lA ln lc xA xn xc) 83)
  have hE1 := Blk.new w 83 (scells kind s eA en ec low high lA ln lc xA xn xc)
  go_enter Tryd.func104, Tryd.ntmps104
  go_upto_region 1 with (fail)
  generalize hW : (w.alloc (.cells (scells kind s eA en ec low high lA ln lc xA xn xc) 83)) = W at hx1 hE1 ⊢
  generalize w.heap.size = eb at hE1 ⊢
  clear hW
  have hE0 := Lib.hid hE1
  have HX0 := Lib.hid hx1
  have HCW := Lib.hid (hC.ext hx1)
  clear hE1 hx1 hC
  refine wp_region_3 (fun w1 => Ext W w1) [(0, 2), (1, 2), (2, 1), (4, 2), (5, 1), (3, 0), (6, 0)] (by kernel_rfl) (by kernel_rfl) (by kernel_rfl) (by kernel_rfl) ?_; intro l' hl'; simp only [List.map_cons, List.map_nil, List.getD_cons_zero, List.getD_cons_succ] at hl'; subst hl'
  have HY0 := Lib.hid (show Ext W W.drew from (Kept.refl _ W).drew)
  (repeat (first | ((apply w3_pure); (· go_simp); (· (intro w1; go_simp; try with_reducible rfl)); (intro K hK; go_simp; refine hK _ _ ?_; clear hK K)) | ((apply w3_skip); (· go_simp); (intro K hK; go_simp; refine hK _ _ ?_; clear hK K)) | ((apply w3_take); (· exact HY0.out); (· go_simp); (· (intro w1 hS; have d4 := Blk.ext hE0.out hS; have d5 := Blk.cell d4; have d6 := d4.lt;  go_simp; try with_reducible rfl)); (intro K hK; go_simp; refine hK _ _ ?_; clear hK K)) | ((apply w3_pass); (· exact HY0.out); (· go_simp); (intro K hK; go_simp; refine hK _ _ ?_; clear hK K))))
  (refine w3_act (fun K hK => ?_); go_simp)
  refine (knows_any cb g κ part fors s _ (HCW.out.ext HY0.out)).mono ?_
  rintro e w1 ⟨rfl, rfl⟩
  rw [← HV.out]
  refine hK.out _ _ (fun _ => HY0.out) ?_
  clear hK K
  (repeat (first | ((apply w3_pure); (· go_simp); (· (intro w1; go_simp; try with_reducible rfl)); (intro K hK; go_simp; refine hK _ _ ?_; clear hK K)) | ((apply w3_skip); (· go_simp); (intro K hK; go_simp; refine hK _ _ ?_; clear hK K)) | ((apply w3_take); (· exact HY0.out); (· go_simp); (· (intro w1 hS; have d4 := Blk.ext hE0.out hS; have d5 := Blk.cell d4; have d6 := d4.lt;  go_simp; try with_reducible rfl)); (intro K hK; go_simp; refine hK _ _ ?_; clear hK K)) | ((apply w3_pass); (· exact HY0.out); (· go_simp); (intro K hK; go_simp; refine hK _ _ ?_; clear hK K))))
  (refine w3_last (by kernel_rfl) (by kernel_rfl) (fun K hK => ?_); go_simp)
  have HX := Lib.hid (HX0.out.trans HY0.out)
  by_cases hv0 : v = 0
  · have qv : (v != 0) = false := by simp [hv0]
    have HR := Lib.hid (show X = some ⟨6, s⟩ by rw [HX2.out, qv]; rfl)
    rw [qv]
    refine (must_any false _ _ _).mono ?_
    rintro e w1 ⟨he, rfl⟩
    have he := MustR.some he
    subst he
    show _ ∧ _
    exact ⟨rfl, by rw [HR.out]; exact ⟨rfl, HX.out⟩⟩
  · have qv : (v != 0) = true := by simp [hv0]
    have HX3 : Hid (X = ored (must (v == (if kind = 1 then 2 else 1)) 11 s) (if kind = 5 then must (btw low 2 1000) 2 s else none)) := Lib.hid (by rw [HX2.out, qv]; rfl)
    rw [qv]
    refine (must_any true _ _ _).mono ?_
    rintro e w1 ⟨he, rfl⟩
    have he := MustR.none he
    subst he
    refine hK.out _ _ ?_
    clear hK K
    (repeat (first | ((apply w3_pure); (· go_simp); (· (intro w1; go_simp; try with_reducible rfl)); (intro K hK; go_simp; refine hK _ _ ?_; clear hK K)) | ((apply w3_skip); (· go_simp); (intro K hK; go_simp; refine hK _ _ ?_; clear hK K)) | (refine w3_end (by kernel_rfl) (fun K hK => ?_); go_simp; refine hK.out _ _ ?_; clear hK K))); refine w3_nil ?_
    have HY1 := HY0
    have hcE := Blk.cell (Blk.ext hE0.out HY1.out)
    have hlE := (Blk.ext hE0.out HY1.out).lt
    have hvI : ((v : Int) - 1 + (if v = 0 then 1 else 0)) = (v : Int) - 1 := by rw [if_neg hv0]; omega
    rcases hk with rfl | rfl | rfl
    ·
      have HX4 : Hid (X = must (v == 1) 11 s) := Lib.hid (by rw [HX3.out]; simp)
      go_upto_region 5 with (fail)
      clear hcE hlE
      generalize hW3 : W.drew = W3 at HY1 ⊢
      have HY3 := Lib.hid HY1.out
      clear hW3
      refine wp_region_3 (fun w1 => Ext W3 w1) [(0, 2), (1, 2), (2, 2), (3, 1), (4, 2), (5, 1), (6, 1), (7, 2), (8, 2), (9, 2), (10, 1), (11, 0)] (by kernel_rfl) (by kernel_rfl) (by kernel_rfl) (by kernel_rfl) ?_; intro l' hl'; simp only [List.map_cons, List.map_nil, List.getD_cons_zero, List.getD_cons_succ] at hl'; subst hl'
      have HU0 := Lib.hid (show Ext W3 W3.drew from (Kept.refl _ W3).drew)
      (repeat (first | ((apply w3_pure); (· go_simp); (· (intro w1; go_simp; try with_reducible rfl)); (intro K hK; go_simp; refine hK _ _ ?_; clear hK K)) | ((apply w3_skip); (· go_simp); (intro K hK; go_simp; refine hK _ _ ?_; clear hK K)) | ((apply w3_take); (· exact HU0.out); (· go_simp); (· (intro w1 hS; have d1 := (HCW.out.ext (HY3.out.trans hS)); have d2 := Blk.cell d1.blk; have d3 := d1.blk.lt; have d7 := elook d1 s; rw [← HV.out, hvI] at d7; clear d1; have d4 := Blk.ext hE0.out (HY3.out.trans hS); have d5 := Blk.cell d4; have d6 := d4.lt;  go_simp; try with_reducible rfl)); (intro K hK; go_simp; refine hK _ _ ?_; clear hK K)) | ((apply w3_pass); (· exact HU0.out); (· go_simp); (intro K hK; go_simp; refine hK _ _ ?_; clear hK K))))
      have HX := Lib.hid (HX0.out.trans (HY3.out.trans HU0.out))
      clear hvI
      by_cases hv1 : v = 1
      · have qv2 : ((v : Int) - 1 == 0) = true := by simp [hv1]
        have HR := Lib.hid (show X = none by rw [HX4.out, hv1]; rfl)
        (repeat (first | ((apply w3_pure); (· go_simp); (· (intro w1; go_simp; try with_reducible rfl)); (intro K hK; go_simp; refine hK _ _ ?_; clear hK K)) | ((apply w3_skip); (· go_simp); (intro K hK; go_simp; refine hK _ _ ?_; clear hK K))))
        (refine w3_last (by kernel_rfl) (by kernel_rfl) (fun K hK => ?_); go_simp)
        try rw [qv2]
        refine (must_any true _ _ _).mono ?_
        rintro e w1 ⟨he, rfl⟩
        have he := MustR.none he
        subst he
        refine hK.out _ _ ?_
        clear hK K
        (repeat (first | ((apply w3_pure); (· go_simp); (· (intro w1; go_simp; try with_reducible rfl)); (intro K hK; go_simp; refine hK _ _ ?_; clear hK K)) | ((apply w3_skip); (· go_simp); (intro K hK; go_simp; refine hK _ _ ?_; clear hK K)) | (refine w3_end (by kernel_rfl) (fun K hK => ?_); go_simp; refine hK.out _ _ ?_; clear hK K))); refine w3_nil ?_
        have hcE3 := Blk.cell (Blk.ext hE0.out (HY3.out.trans HU0.out))
        have hlE3 := (Blk.ext hE0.out (HY3.out.trans HU0.out)).lt
        go_wp2_with fail
        go_end0
        exact ⟨by rw [HR.out]; rfl, HX.out⟩
      · have qv2 : ((v : Int) - 1 == 0) = false := by simp; omega
        have qn : (v == 1) = false := by simp [hv1]
        have HR := Lib.hid (show X = some ⟨11, s⟩ by rw [HX4.out, qn]; rfl)
        (repeat (first | ((apply w3_pure); (· go_simp); (· (intro w1; go_simp; try with_reducible rfl)); (intro K hK; go_simp; refine hK _ _ ?_; clear hK K)) | ((apply w3_skip); (· go_simp); (intro K hK; go_simp; refine hK _ _ ?_; clear hK K))))
        (refine w3_last (by kernel_rfl) (by kernel_rfl) (fun K hK => ?_); go_simp)
        try rw [qv2]
        refine (must_any false _ _ _).mono ?_
        rintro e w1 ⟨he, rfl⟩
        have he := MustR.some he
        subst he
        show _ ∧ _
        exact ⟨rfl, by rw [HR.out]; exact ⟨rfl, HX.out⟩⟩
    ·
      have HX4 : Hid (X = must (v == 2) 11 s) := Lib.hid (by rw [HX3.out]; simp)
      go_upto_region 5 with (fail)
      clear hcE hlE
      generalize hW3 : W.drew = W3 at HY1 ⊢
      have HY3 := Lib.hid HY1.out
      clear hW3
      refine wp_region_3 (fun w1 => Ext W3 w1) [(0, 2), (1, 2), (2, 2), (3, 1), (4, 2), (5, 1), (6, 1), (7, 2), (8, 2), (9, 2), (10, 1), (11, 0)] (by kernel_rfl) (by kernel_rfl) (by kernel_rfl) (by kernel_rfl) ?_; intro l' hl'; simp only [List.map_cons, List.map_nil, List.getD_cons_zero, List.getD_cons_succ] at hl'; subst hl'
      have HU0 := Lib.hid (show Ext W3 W3.drew from (Kept.refl _ W3).drew)
      (repeat (first | ((apply w3_pure); (· go_simp); (· (intro w1; go_simp; try with_reducible rfl)); (intro K hK; go_simp; refine hK _ _ ?_; clear hK K)) | ((apply w3_skip); (· go_simp); (intro K hK; go_simp; refine hK _ _ ?_; clear hK K)) | ((apply w3_take); (· exact HU0.out); (· go_simp); (· (intro w1 hS; have d1 := (HCW.out.ext (HY3.out.trans hS)); have d2 := Blk.cell d1.blk; have d3 := d1.blk.lt; have d7 := elook d1 s; rw [← HV.out, hvI] at d7; clear d1; have d4 := Blk.ext hE0.out (HY3.out.trans hS); have d5 := Blk.cell d4; have d6 := d4.lt;  go_simp; try with_reducible rfl)); (intro K hK; go_simp; refine hK _ _ ?_; clear hK K)) | ((apply w3_pass); (· exact HU0.out); (· go_simp); (intro K hK; go_simp; refine hK _ _ ?_; clear hK K))))
      have HX := Lib.hid (HX0.out.trans (HY3.out.trans HU0.out))
      clear hvI
      by_cases hv1 : v = 2
      · have qv2 : ((v : Int) - 1 == 1) = true := by simp [hv1]
        have HR := Lib.hid (show X = none by rw [HX4.out, hv1]; rfl)
        (repeat (first | ((apply w3_pure); (· go_simp); (· (intro w1; go_simp; try with_reducible rfl)); (intro K hK; go_simp; refine hK _ _ ?_; clear hK K)) | ((apply w3_skip); (· go_simp); (intro K hK; go_simp; refine hK _ _ ?_; clear hK K))))
        (refine w3_last (by kernel_rfl) (by kernel_rfl) (fun K hK => ?_); go_simp)
        try rw [qv2]
        refine (must_any true _ _ _).mono ?_
        rintro e w1 ⟨he, rfl⟩
        have he := MustR.none he
        subst he
        refine hK.out _ _ ?_
        clear hK K
        (repeat (first | ((apply w3_pure); (· go_simp); (· (intro w1; go_simp; try with_reducible rfl)); (intro K hK; go_simp; refine hK _ _ ?_; clear hK K)) | ((apply w3_skip); (· go_simp); (intro K hK; go_simp; refine hK _ _ ?_; clear hK K)) | (refine w3_end (by kernel_rfl) (fun K hK => ?_); go_simp; refine hK.out _ _ ?_; clear hK K))); refine w3_nil ?_
        have hcE3 := Blk.cell (Blk.ext hE0.out (HY3.out.trans HU0.out))
        have hlE3 := (Blk.ext hE0.out (HY3.out.trans HU0.out)).lt
        go_wp2_with fail
        go_end0
        exact ⟨by rw [HR.out]; rfl, HX.out⟩
      · have qv2 : ((v : Int) - 1 == 1) = false := by simp; omega
        have qn : (v == 2) = false := by simp [hv1]
        have HR := Lib.hid (show X = some ⟨11, s⟩ by rw [HX4.out, qn]; rfl)
        (repeat (first | ((apply w3_pure); (· go_simp); (· (intro w1; go_simp; try with_reducible rfl)); (intro K hK; go_simp; refine hK _ _ ?_; clear hK K)) | ((apply w3_skip); (· go_simp); (intro K hK; go_simp; refine hK _ _ ?_; clear hK K))))
        (refine w3_last (by kernel_rfl) (by kernel_rfl) (fun K hK => ?_); go_simp)
        try rw [qv2]
        refine (must_any false _ _ _).mono ?_
        rintro e w1 ⟨he, rfl⟩
        have he := MustR.some he
        subst he
        show _ ∧ _
        exact ⟨rfl, by rw [HR.out]; exact ⟨rfl, HX.out⟩⟩
    ·
      have HX4 : Hid (X = ored (must (v == 1) 11 s) (must (btw low 2 1000) 2 s)) := Lib.hid (by rw [HX3.out]; simp)
      go_upto_region 5 with (fail)
      clear hcE hlE
      generalize hW3 : W.drew = W3 at HY1 ⊢
      have HY3 := Lib.hid HY1.out
      clear hW3
      refine wp_region_3 (fun w1 => Ext W3 w1) [(0, 2), (1, 2), (2, 2), (3, 1), (4, 2), (5, 1), (6, 1), (7, 2), (8, 2), (9, 2), (10, 1), (11, 0)] (by kernel_rfl) (by kernel_rfl) (by kernel_rfl) (by kernel_rfl) ?_; intro l' hl'; simp only [List.map_cons, List.map_nil, List.getD_cons_zero, List.getD_cons_succ] at hl'; subst hl'
      have HU0 := Lib.hid (show Ext W3 W3.drew from (Kept.refl _ W3).drew)
      (repeat (first | ((apply w3_pure); (· go_simp); (· (intro w1; go_simp; try with_reducible rfl)); (intro K hK; go_simp; refine hK _ _ ?_; clear hK K)) | ((apply w3_skip); (· go_simp); (intro K hK; go_simp; refine hK _ _ ?_; clear hK K)) | ((apply w3_take); (· exact HU0.out); (· go_simp); (· (intro w1 hS; have d1 := (HCW.out.ext (HY3.out.trans hS)); have d2 := Blk.cell d1.blk; have d3 := d1.blk.lt; have d7 := elook d1 s; rw [← HV.out, hvI] at d7; clear d1; have d4 := Blk.ext hE0.out (HY3.out.trans hS); have d5 := Blk.cell d4; have d6 := d4.lt;  go_simp; try with_reducible rfl)); (intro K hK; go_simp; refine hK _ _ ?_; clear hK K)) | ((apply w3_pass); (· exact HU0.out); (· go_simp); (intro K hK; go_simp; refine hK _ _ ?_; clear hK K))))
      have HX := Lib.hid (HX0.out.trans (HY3.out.trans HU0.out))
      clear hvI
      by_cases hv1 : v = 1
      · have qv2 : ((v : Int) - 1 == 0) = true := by simp [hv1]
        have HX5 := Lib.hid (show X = must (btw low 2 1000) 2 s by rw [HX4.out, hv1]; rfl)
        (repeat (first | ((apply w3_pure); (· go_simp); (· (intro w1; go_simp; try with_reducible rfl)); (intro K hK; go_simp; refine hK _ _ ?_; clear hK K)) | ((apply w3_skip); (· go_simp); (intro K hK; go_simp; refine hK _ _ ?_; clear hK K))))
        (refine w3_last (by kernel_rfl) (by kernel_rfl) (fun K hK => ?_); go_simp)
        try rw [qv2]
        refine (must_any true _ _ _).mono ?_
        rintro e w1 ⟨he, rfl⟩
        have he := MustR.none he
        subst he
        refine hK.out _ _ ?_
        clear hK K
        (repeat (first | ((apply w3_pure); (· go_simp); (· (intro w1; go_simp; try with_reducible rfl)); (intro K hK; go_simp; refine hK _ _ ?_; clear hK K)) | ((apply w3_skip); (· go_simp); (intro K hK; go_simp; refine hK _ _ ?_; clear hK K)) | (refine w3_end (by kernel_rfl) (fun K hK => ?_); go_simp; refine hK.out _ _ ?_; clear hK K))); refine w3_nil ?_
        have hcE3 := Blk.cell (Blk.ext hE0.out (HY3.out.trans HU0.out))
        have hlE3 := (Blk.ext hE0.out (HY3.out.trans HU0.out)).lt
        go_upto_region 7 with (fail)
        clear hcE3 hlE3
        generalize hW4 : W3.drew = W4 at HU0 HX ⊢
        have HY4 := Lib.hid (HY3.out.trans HU0.out)
        clear hW4
        refine wp_region_3 (fun w1 => Ext W4 w1) [(0, 2), (1, 1), (3, 2), (4, 1), (2, 0), (5, 0)] (by kernel_rfl) (by kernel_rfl) (by kernel_rfl) (by kernel_rfl) ?_; intro l' hl'; simp only [List.map_cons, List.map_nil, List.getD_cons_zero, List.getD_cons_succ] at hl'; subst hl'
        have HV0 := Lib.hid (show Ext W4 W4.drew from (Kept.refl _ W4).drew)
        (repeat (first | ((apply w3_pure); (· go_simp); (· (intro w1; go_simp; try with_reducible rfl)); (intro K hK; go_simp; refine hK _ _ ?_; clear hK K)) | ((apply w3_skip); (· go_simp); (intro K hK; go_simp; refine hK _ _ ?_; clear hK K)) | ((apply w3_take); (· exact HV0.out); (· go_simp); (· (intro w1 hS; have d4 := Blk.ext hE0.out (HY4.out.trans hS); have d5 := Blk.cell d4; have d6 := d4.lt;  go_simp; try with_reducible rfl)); (intro K hK; go_simp; refine hK _ _ ?_; clear hK K)) | ((apply w3_pass); (· exact HV0.out); (· go_simp); (intro K hK; go_simp; refine hK _ _ ?_; clear hK K))))
        (refine w3_act (fun K hK => ?_); go_simp)
        refine (between_any _ _ _ _).mono ?_
        rintro e w1 ⟨rfl, rfl⟩
        refine hK.out _ _ (fun _ => HV0.out) ?_
        clear hK K
        (repeat (first | ((apply w3_pure); (· go_simp); (· (intro w1; go_simp; try with_reducible rfl)); (intro K hK; go_simp; refine hK _ _ ?_; clear hK K)) | ((apply w3_skip); (· go_simp); (intro K hK; go_simp; refine hK _ _ ?_; clear hK K)) | ((apply w3_take); (· exact HV0.out); (· go_simp); (· (intro w1 hS; have d4 := Blk.ext hE0.out (HY4.out.trans hS); have d5 := Blk.cell d4; have d6 := d4.lt;  go_simp; try with_reducible rfl)); (intro K hK; go_simp; refine hK _ _ ?_; clear hK K)) | ((apply w3_pass); (· exact HV0.out); (· go_simp); (intro K hK; go_simp; refine hK _ _ ?_; clear hK K))))
        (refine w3_last (by kernel_rfl) (by kernel_rfl) (fun K hK => ?_); go_simp)
        have HX := Lib.hid (HX0.out.trans (HY4.out.trans HV0.out))
        cases hb : btw low 2 1000
        · have HR := Lib.hid (show X = some ⟨2, s⟩ by rw [HX5.out, hb]; rfl)
          refine (must_any false _ _ _).mono ?_
          rintro e w1 ⟨he, rfl⟩
          have he := MustR.some he
          subst he
          show _ ∧ _
          exact ⟨rfl, by rw [HR.out]; exact ⟨rfl, HX.out⟩⟩
        · have HR := Lib.hid (show X = none by rw [HX5.out, hb]; rfl)
          refine (must_any true _ _ _).mono ?_
          rintro e w1 ⟨he, rfl⟩
          have he := MustR.none he
          subst he
          refine hK.out _ _ ?_
          clear hK K
          (repeat (first | ((apply w3_pure); (· go_simp); (· (intro w1; go_simp; try with_reducible rfl)); (intro K hK; go_simp; refine hK _ _ ?_; clear hK K)) | ((apply w3_skip); (· go_simp); (intro K hK; go_simp; refine hK _ _ ?_; clear hK K)) | (refine w3_end (by kernel_rfl) (fun K hK => ?_); go_simp; refine hK.out _ _ ?_; clear hK K))); refine w3_nil ?_
          go_wp2_with fail
          go_end0
          exact ⟨by rw [HR.out]; rfl, HX.out⟩
      · have qv2 : ((v : Int) - 1 == 0) = false := by simp; omega
        have qn : (v == 1) = false := by simp [hv1]
        have HR := Lib.hid (show X = some ⟨11, s⟩ by rw [HX4.out, qn]; rfl)
        (repeat (first | ((apply w3_pure); (· go_simp); (· (intro w1; go_simp; try with_reducible rfl)); (intro K hK; go_simp; refine hK _ _ ?_; clear hK K)) | ((apply w3_skip); (· go_simp); (intro K hK; go_simp; refine hK _ _ ?_; clear hK K))))
        (refine w3_last (by kernel_rfl) (by kernel_rfl) (fun K hK => ?_); go_simp)
        try rw [qv2]
        refine (must_any false _ _ _).mono ?_
        rintro e w1 ⟨he, rfl⟩
        have he := MustR.some he
        subst he
        show _ ∧ _
        exact ⟨rfl, by rw [HR.out]; exact ⟨rfl, HX.out⟩⟩
end Go.Proofs.YtfamkemdgbnegaaDoor

/- Sorts: the checker: a for's head. -/
namespace Go.Proofs.YtfamkemdgbnegaaDoor
open Go.RowKit So
set_option maxRecDepth 100000 in
set_option maxHeartbeats 1500000 in
theorem loop_any (cb g : Nat) (κ : Kn) (part : Str) (fors : Nat) (kind : Int) (s : Str) (eA : Option Addr) (en ec : Nat) (low high : Int) (lA : Option Addr) (ln lc : Nat) (xA : Option Addr) (xn xc : Nat) (hs : s.size ≤ maxLen) (w : World) (hC : Ck w cb g κ part fors) (hL : LaidAt w) :
    Calls Tryd.prog 105 #[.pointer (some ⟨cb, 0, none⟩), .agg (scells kind s eA en ec low high lA ln lc xA xn xc)] w fun e w' => MustR (loop κ s low high fors) e ∧ Ext w w' := by
  obtain ⟨X, hX⟩ : ∃ X, X = loop κ s low high fors := ⟨_, rfl⟩
  rw [← hX]
  obtain ⟨v, hv⟩ : ∃ v, v = κ s := ⟨_, rfl⟩
  have HV := Lib.hid hv
  have HX2 : Hid (X = ored (must (isName s) 6 s) (ored (must (v == 0) 7 s) (ored (must (word low && word high && decide (high - low ≤ 63)) 2 s) (must (decide (fors < 8)) 25 s)))) := Lib.hid (by rw [hX, hv]; rfl)
  clear hX hv
  have HSZ := Lib.hid hs
  clear hs
  have hx1 := (Kept.refl (fun _ => False) w).alloc (.cells (scells kind s eA en ec low high lA ln lc xA xn xc) 83)
  have hE1 := Blk.new w 83 (scells kind s eA en ec low high lA ln lc xA xn xc)
  go_enter Tryd.func105, Tryd.ntmps105
  go_upto_region 1 with (fail)
  generalize hW : (w.alloc (.cells (scells kind s eA en ec low high lA ln lc xA xn xc) 83)) = W at hx1 hE1 ⊢
  generalize w.heap.size = eb at hE1 ⊢
  clear hW
  have hE0 := Lib.hid hE1
  have HX0 := Lib.hid hx1
  have HCW := Lib.hid (hC.ext hx1)
  have HLW := Lib.hid (hL.ext hx1)
  clear hE1 hx1 hC hL
  refine wp_region_3 (fun w1 => Ext W w1) [(0, 2), (1, 1), (3, 2), (4, 1), (2, 0), (5, 0)] (by kernel_rfl) (by kernel_rfl) (by kernel_rfl) (by kernel_rfl) ?_; intro l' hl'; simp only [List.map_cons, List.map_nil, List.getD_cons_zero, List.getD_cons_succ] at hl'; subst hl'
  have HY0 := Lib.hid (show Ext W W.drew from (Kept.refl _ W).drew)
  (repeat (first | ((apply w3_pure); (· go_simp); (· (intro w1; go_simp; try with_reducible rfl)); (intro K hK; go_simp; refine hK _ _ ?_; clear hK K)) | ((apply w3_skip); (· go_simp); (intro K hK; go_simp; refine hK _ _ ?_; clear hK K)) | ((apply w3_take); (· exact HY0.out); (· go_simp); (· (intro w1 hS; have d4 := Blk.ext hE0.out hS; have d5 := Blk.cell d4; have d6 := d4.lt;  go_simp; try with_reducible rfl)); (intro K hK; go_simp; refine hK _ _ ?_; clear hK K)) | ((apply w3_pass); (· exact HY0.out); (· go_simp); (intro K hK; go_simp; refine hK _ _ ?_; clear hK K))))
  (refine w3_act (fun K hK => ?_); go_simp)
  refine (sisname_any s HSZ.out _ (HLW.out.ext HY0.out)).mono ?_
  rintro e w1 ⟨rfl, hx1⟩
  have HY1 := Lib.hid (HY0.out.trans hx1)
  clear hx1
  refine hK.out _ _ (fun _ => HY1.out) ?_
  clear hK K
  (repeat (first | ((apply w3_pure); (· go_simp); (· (intro w1; go_simp; try with_reducible rfl)); (intro K hK; go_simp; refine hK _ _ ?_; clear hK K)) | ((apply w3_skip); (· go_simp); (intro K hK; go_simp; refine hK _ _ ?_; clear hK K)) | ((apply w3_take); (· exact HY1.out); (· go_simp); (· (intro w1 hS; have d4 := Blk.ext hE0.out hS; have d5 := Blk.cell d4; have d6 := d4.lt;  go_simp; try with_reducible rfl)); (intro K hK; go_simp; refine hK _ _ ?_; clear hK K)) | ((apply w3_pass); (· exact HY1.out); (· go_simp); (intro K hK; go_simp; refine hK _ _ ?_; clear hK K))))
  (refine w3_last (by kernel_rfl) (by kernel_rfl) (fun K hK => ?_); go_simp)
  have HX := Lib.hid (HX0.out.trans HY1.out)
  cases hn : isName s
  · have HR := Lib.hid (show X = some ⟨6, s⟩ by rw [HX2.out, hn]; rfl)
    refine (must_any false _ _ _).mono ?_
    rintro e w1 ⟨he, rfl⟩
    have he := MustR.some he
    subst he
    show _ ∧ _
    exact ⟨rfl, by rw [HR.out]; exact ⟨rfl, HX.out⟩⟩
  · have HX3 := Lib.hid (show X = ored (must (v == 0) 7 s) (ored (must (word low && word high && decide (high - low ≤ 63)) 2 s) (must (decide (fors < 8)) 25 s)) by rw [HX2.out, hn]; rfl)
    refine (must_any true _ _ _).mono ?_
    rintro e w1 ⟨he, rfl⟩
    have he := MustR.none he
    subst he
    refine hK.out _ _ ?_
    clear hK K
    (repeat (first | ((apply w3_pure); (· go_simp); (· (intro w1; go_simp; try with_reducible rfl)); (intro K hK; go_simp; refine hK _ _ ?_; clear hK K)) | ((apply w3_skip); (· go_simp); (intro K hK; go_simp; refine hK _ _ ?_; clear hK K)) | (refine w3_end (by kernel_rfl) (fun K hK => ?_); go_simp; refine hK.out _ _ ?_; clear hK K))); refine w3_nil ?_
    go_upto_region 2 with (fail)
    refine wp_region_3 (fun w2 => Ext w1 w2) [(0, 2), (1, 2), (2, 1), (5, 2), (6, 1), (3, 0), (4, 2), (7, 0)] (by kernel_rfl) (by kernel_rfl) (by kernel_rfl) (by kernel_rfl) ?_; intro l' hl'; simp only [List.map_cons, List.map_nil, List.getD_cons_zero, List.getD_cons_succ] at hl'; subst hl'
    have HZ0 := Lib.hid (show Ext w1 w1.drew from (Kept.refl _ w1).drew)
    (repeat (first | ((apply w3_pure); (· go_simp); (· (intro w1; go_simp; try with_reducible rfl)); (intro K hK; go_simp; refine hK _ _ ?_; clear hK K)) | ((apply w3_skip); (· go_simp); (intro K hK; go_simp; refine hK _ _ ?_; clear hK K)) | ((apply w3_take); (· exact HZ0.out); (· go_simp); (· (intro w1 hS; have d4 := Blk.ext hE0.out (HY1.out.trans hS); have d5 := Blk.cell d4; have d6 := d4.lt;  go_simp; try with_reducible rfl)); (intro K hK; go_simp; refine hK _ _ ?_; clear hK K)) | ((apply w3_pass); (· exact HZ0.out); (· go_simp); (intro K hK; go_simp; refine hK _ _ ?_; clear hK K))))
    (refine w3_act (fun K hK => ?_); go_simp)
    refine (knows_any cb g κ part fors s _ (HCW.out.ext (HY1.out.trans HZ0.out))).mono ?_
    rintro e w2 ⟨rfl, rfl⟩
    rw [← HV.out]
    refine hK.out _ _ (fun _ => HZ0.out) ?_
    clear hK K
    (repeat (first | ((apply w3_pure); (· go_simp); (· (intro w1; go_simp; try with_reducible rfl)); (intro K hK; go_simp; refine hK _ _ ?_; clear hK K)) | ((apply w3_skip); (· go_simp); (intro K hK; go_simp; refine hK _ _ ?_; clear hK K)) | ((apply w3_take); (· exact HZ0.out); (· go_simp); (· (intro w1 hS; have d4 := Blk.ext hE0.out (HY1.out.trans hS); have d5 := Blk.cell d4; have d6 := d4.lt;  go_simp; try with_reducible rfl)); (intro K hK; go_simp; refine hK _ _ ?_; clear hK K)) | ((apply w3_pass); (· exact HZ0.out); (· go_simp); (intro K hK; go_simp; refine hK _ _ ?_; clear hK K))))
    (refine w3_last (by kernel_rfl) (by kernel_rfl) (fun K hK => ?_); go_simp)
    have HX := Lib.hid (HX0.out.trans (HY1.out.trans HZ0.out))
    by_cases hv0 : v = 0
    · have qv : (v != 0) = false := by simp [hv0]
      have HX4 := Lib.hid (show X = ored (must (word low && word high && decide (high - low ≤ 63)) 2 s) (must (decide (fors < 8)) 25 s) by rw [HX3.out, hv0]; rfl)
      try rw [qv]
      try simp only [Bool.not_false]
      refine (must_any true _ _ _).mono ?_
      rintro e w1 ⟨he, rfl⟩
      have he := MustR.none he
      subst he
      refine hK.out _ _ ?_
      clear hK K
      (repeat (first | ((apply w3_pure); (· go_simp); (· (intro w1; go_simp; try with_reducible rfl)); (intro K hK; go_simp; refine hK _ _ ?_; clear hK K)) | ((apply w3_skip); (· go_simp); (intro K hK; go_simp; refine hK _ _ ?_; clear hK K)) | (refine w3_end (by kernel_rfl) (fun K hK => ?_); go_simp; refine hK.out _ _ ?_; clear hK K))); refine w3_nil ?_
      have HY2 := Lib.hid (HY1.out.trans HZ0.out)
      go_upto_region 3 with (fail)
      generalize hW2 : w1.drew = W2 at HY2 ⊢
      clear hW2
      cases hw1 : word low
      · have HR := Lib.hid (show X = some ⟨2, s⟩ by rw [HX4.out, hw1]; rfl)
        refine wp_region_3 (fun w2 => Ext W2 w2) [(0, 2), (1, 1), (16, 2), (17, 1), (2, 0), (3, 2), (4, 2), (5, 1), (6, 0), (7, 2), (8, 2), (9, 2), (10, 1), (11, 2), (12, 1), (13, 2), (14, 2), (15, 2), (18, 0)] (by kernel_rfl) (by kernel_rfl) (by kernel_rfl) (by kernel_rfl) ?_; intro l' hl'; simp only [List.map_cons, List.map_nil, List.getD_cons_zero, List.getD_cons_succ] at hl'; subst hl'
        have HV0 := Lib.hid (show Ext W2 W2.drew from (Kept.refl _ W2).drew)
        (repeat (first | ((apply w3_pure); (· go_simp); (· (intro w1; go_simp; try with_reducible rfl)); (intro K hK; go_simp; refine hK _ _ ?_; clear hK K)) | ((apply w3_skip); (· go_simp); (intro K hK; go_simp; refine hK _ _ ?_; clear hK K)) | ((apply w3_take); (· exact HV0.out); (· go_simp); (· (intro w1 hS; have d4 := Blk.ext hE0.out (HY2.out.trans hS); have d5 := Blk.cell d4; have d6 := d4.lt;  go_simp; try with_reducible rfl)); (intro K hK; go_simp; refine hK _ _ ?_; clear hK K)) | ((apply w3_pass); (· exact HV0.out); (· go_simp); (intro K hK; go_simp; refine hK _ _ ?_; clear hK K))))
        (refine w3_act (fun K hK => ?_); go_simp)
        refine (right_any _ _).mono ?_
        rintro e w2 ⟨rfl, rfl⟩
        rw [hw1]
        refine hK.out _ _ (fun _ => HV0.out) ?_
        clear hK K
        (repeat (first | ((apply w3_pure); (· go_simp); (· (intro w1; go_simp; try with_reducible rfl)); (intro K hK; go_simp; refine hK _ _ ?_; clear hK K)) | ((apply w3_skip); (· go_simp); (intro K hK; go_simp; refine hK _ _ ?_; clear hK K)) | ((apply w3_take); (· exact HV0.out); (· go_simp); (· (intro w1 hS; have d4 := Blk.ext hE0.out (HY2.out.trans hS); have d5 := Blk.cell d4; have d6 := d4.lt;  go_simp; try with_reducible rfl)); (intro K hK; go_simp; refine hK _ _ ?_; clear hK K)) | ((apply w3_pass); (· exact HV0.out); (· go_simp); (intro K hK; go_simp; refine hK _ _ ?_; clear hK K))))
        (refine w3_act (fun K hK => ?_); go_simp)
        refine hK.out _ _ (fun h => h) ?_
        clear hK K
        (repeat (first | ((apply w3_pure); (· go_simp); (· (intro w1; go_simp; try with_reducible rfl)); (intro K hK; go_simp; refine hK _ _ ?_; clear hK K)) | ((apply w3_skip); (· go_simp); (intro K hK; go_simp; refine hK _ _ ?_; clear hK K)) | ((apply w3_take); (· exact HV0.out); (· go_simp); (· (intro w1 hS; have d4 := Blk.ext hE0.out (HY2.out.trans hS); have d5 := Blk.cell d4; have d6 := d4.lt;  go_simp; try with_reducible rfl)); (intro K hK; go_simp; refine hK _ _ ?_; clear hK K)) | ((apply w3_pass); (· exact HV0.out); (· go_simp); (intro K hK; go_simp; refine hK _ _ ?_; clear hK K))))
        (refine w3_last (by kernel_rfl) (by kernel_rfl) (fun K hK => ?_); go_simp)
        have HX := Lib.hid (HX0.out.trans (HY2.out.trans HV0.out))
        refine (must_any false _ _ _).mono ?_
        rintro e w1 ⟨he, rfl⟩
        have he := MustR.some he
        subst he
        show _ ∧ _
        exact ⟨rfl, by rw [HR.out]; exact ⟨rfl, HX.out⟩⟩
      · cases hw2 : word high
        · have HR := Lib.hid (show X = some ⟨2, s⟩ by rw [HX4.out, hw1, hw2]; rfl)
          refine wp_region_3 (fun w2 => Ext W2 w2) [(0, 2), (1, 1), (16, 2), (17, 1), (2, 0), (3, 2), (4, 2), (5, 1), (6, 0), (7, 2), (8, 2), (9, 2), (10, 1), (11, 2), (12, 1), (13, 2), (14, 2), (15, 2), (18, 0)] (by kernel_rfl) (by kernel_rfl) (by kernel_rfl) (by kernel_rfl) ?_; intro l' hl'; simp only [List.map_cons, List.map_nil, List.getD_cons_zero, List.getD_cons_succ] at hl'; subst hl'
          have HV0 := Lib.hid (show Ext W2 W2.drew from (Kept.refl _ W2).drew)
          (repeat (first | ((apply w3_pure); (· go_simp); (· (intro w1; go_simp; try with_reducible rfl)); (intro K hK; go_simp; refine hK _ _ ?_; clear hK K)) | ((apply w3_skip); (· go_simp); (intro K hK; go_simp; refine hK _ _ ?_; clear hK K)) | ((apply w3_take); (· exact HV0.out); (· go_simp); (· (intro w1 hS; have d4 := Blk.ext hE0.out (HY2.out.trans hS); have d5 := Blk.cell d4; have d6 := d4.lt;  go_simp; try with_reducible rfl)); (intro K hK; go_simp; refine hK _ _ ?_; clear hK K)) | ((apply w3_pass); (· exact HV0.out); (· go_simp); (intro K hK; go_simp; refine hK _ _ ?_; clear hK K))))
          (refine w3_act (fun K hK => ?_); go_simp)
          refine (right_any _ _).mono ?_
          rintro e w2 ⟨rfl, rfl⟩
          rw [hw1]
          refine hK.out _ _ (fun _ => HV0.out) ?_
          clear hK K
          (repeat (first | ((apply w3_pure); (· go_simp); (· (intro w1; go_simp; try with_reducible rfl)); (intro K hK; go_simp; refine hK _ _ ?_; clear hK K)) | ((apply w3_skip); (· go_simp); (intro K hK; go_simp; refine hK _ _ ?_; clear hK K)) | ((apply w3_take); (· exact HV0.out); (· go_simp); (· (intro w1 hS; have d4 := Blk.ext hE0.out (HY2.out.trans hS); have d5 := Blk.cell d4; have d6 := d4.lt;  go_simp; try with_reducible rfl)); (intro K hK; go_simp; refine hK _ _ ?_; clear hK K)) | ((apply w3_pass); (· exact HV0.out); (· go_simp); (intro K hK; go_simp; refine hK _ _ ?_; clear hK K))))
          (refine w3_act (fun K hK => ?_); go_simp)
          refine (right_any _ _).mono ?_
          rintro e w2 ⟨rfl, rfl⟩
          rw [hw2]
          refine hK.out _ _ (fun _ => HV0.out) ?_
          clear hK K
          (repeat (first | ((apply w3_pure); (· go_simp); (· (intro w1; go_simp; try with_reducible rfl)); (intro K hK; go_simp; refine hK _ _ ?_; clear hK K)) | ((apply w3_skip); (· go_simp); (intro K hK; go_simp; refine hK _ _ ?_; clear hK K)) | ((apply w3_take); (· exact HV0.out); (· go_simp); (· (intro w1 hS; have d4 := Blk.ext hE0.out (HY2.out.trans hS); have d5 := Blk.cell d4; have d6 := d4.lt;  go_simp; try with_reducible rfl)); (intro K hK; go_simp; refine hK _ _ ?_; clear hK K)) | ((apply w3_pass); (· exact HV0.out); (· go_simp); (intro K hK; go_simp; refine hK _ _ ?_; clear hK K))))
          (refine w3_last (by kernel_rfl) (by kernel_rfl) (fun K hK => ?_); go_simp)
          have HX := Lib.hid (HX0.out.trans (HY2.out.trans HV0.out))
          refine (must_any false _ _ _).mono ?_
          rintro e w1 ⟨he, rfl⟩
          have he := MustR.some he
          subst he
          show _ ∧ _
          exact ⟨rfl, by rw [HR.out]; exact ⟨rfl, HX.out⟩⟩
        · have hb1 : -2147483648 ≤ low ∧ low ≤ 2147483647 := by simpa [word] using hw1
          have hb2 : -2147483648 ≤ high ∧ high ≤ 2147483647 := by simpa [word] using hw2
          obtain ⟨a1, a2⟩ := hb1
          obtain ⟨a3, a4⟩ := hb2
          have HW1 := Lib.hid hw1
          have HW2 := Lib.hid hw2
          have HX5 := Lib.hid (show X = ored (must (decide (high - low ≤ 63)) 2 s) (must (decide (fors < 8)) 25 s) by rw [HX4.out, hw1, hw2]; rfl)
          refine wp_region_3 (fun w2 => Ext W2 w2) [(0, 2), (1, 1), (16, 2), (17, 1), (2, 0), (3, 2), (4, 2), (5, 1), (6, 0), (7, 2), (8, 2), (9, 2), (10, 1), (11, 2), (12, 1), (13, 2), (14, 2), (15, 2), (18, 0)] (by kernel_rfl) (by kernel_rfl) (by kernel_rfl) (by kernel_rfl) ?_; intro l' hl'; simp only [List.map_cons, List.map_nil, List.getD_cons_zero, List.getD_cons_succ] at hl'; subst hl'
          have HV0 := Lib.hid (show Ext W2 W2.drew from (Kept.refl _ W2).drew)
          (repeat (first | ((apply w3_pure); (· go_simp); (· (intro w1; go_simp; try with_reducible rfl)); (intro K hK; go_simp; refine hK _ _ ?_; clear hK K)) | ((apply w3_skip); (· go_simp); (intro K hK; go_simp; refine hK _ _ ?_; clear hK K)) | ((apply w3_take); (· exact HV0.out); (· go_simp); (· (intro w1 hS; have d4 := Blk.ext hE0.out (HY2.out.trans hS); have d5 := Blk.cell d4; have d6 := d4.lt;  go_simp; try with_reducible rfl)); (intro K hK; go_simp; refine hK _ _ ?_; clear hK K)) | ((apply w3_pass); (· exact HV0.out); (· go_simp); (intro K hK; go_simp; refine hK _ _ ?_; clear hK K))))
          (refine w3_act (fun K hK => ?_); go_simp)
          refine (right_any _ _).mono ?_
          rintro e w2 ⟨rfl, rfl⟩
          rw [HW1.out]
          refine hK.out _ _ (fun _ => HV0.out) ?_
          clear hK K
          (repeat (first | ((apply w3_pure); (· go_simp); (· (intro w1; go_simp; try with_reducible rfl)); (intro K hK; go_simp; refine hK _ _ ?_; clear hK K)) | ((apply w3_skip); (· go_simp); (intro K hK; go_simp; refine hK _ _ ?_; clear hK K)) | ((apply w3_take); (· exact HV0.out); (· go_simp); (· (intro w1 hS; have d4 := Blk.ext hE0.out (HY2.out.trans hS); have d5 := Blk.cell d4; have d6 := d4.lt;  go_simp; try with_reducible rfl)); (intro K hK; go_simp; refine hK _ _ ?_; clear hK K)) | ((apply w3_pass); (· exact HV0.out); (· go_simp); (intro K hK; go_simp; refine hK _ _ ?_; clear hK K))))
          (refine w3_act (fun K hK => ?_); go_simp)
          refine (right_any _ _).mono ?_
          rintro e w2 ⟨rfl, rfl⟩
          rw [HW2.out]
          refine hK.out _ _ (fun _ => HV0.out) ?_
          clear hK K
          have hwr : IntKind.i64.wrap (high - low) = high - low := by rw [IntKind.wrap_i64]; omega
          by_cases hd : high - low ≤ 63
          · have HX6 := Lib.hid (show X = must (decide (fors < 8)) 25 s by rw [HX5.out, decide_eq_true hd]; rfl)
            (repeat (first | ((apply w3_pure); (· go_simp); (· (intro w1; go_simp; try with_reducible rfl)); (intro K hK; go_simp; refine hK _ _ ?_; clear hK K)) | ((apply w3_skip); (· go_simp); (intro K hK; go_simp; refine hK _ _ ?_; clear hK K)) | ((apply w3_take); (· exact HV0.out); (· go_simp); (· (intro w1 hS; have d4 := Blk.ext hE0.out (HY2.out.trans hS); have d5 := Blk.cell d4; have d6 := d4.lt;  go_simp; try with_reducible rfl)); (intro K hK; go_simp; refine hK _ _ ?_; clear hK K)) | ((apply w3_pass); (· exact HV0.out); (· go_simp); (intro K hK; go_simp; refine hK _ _ ?_; clear hK K))))
            (refine w3_last (by kernel_rfl) (by kernel_rfl) (fun K hK => ?_); go_simp)
            refine (must_any true _ _ _).mono ?_
            rintro e w1 ⟨he, rfl⟩
            have he := MustR.none he
            subst he
            refine hK.out _ _ ?_
            clear hK K
            (repeat (first | ((apply w3_pure); (· go_simp); (· (intro w1; go_simp; try with_reducible rfl)); (intro K hK; go_simp; refine hK _ _ ?_; clear hK K)) | ((apply w3_skip); (· go_simp); (intro K hK; go_simp; refine hK _ _ ?_; clear hK K)) | (refine w3_end (by kernel_rfl) (fun K hK => ?_); go_simp; refine hK.out _ _ ?_; clear hK K))); refine w3_nil ?_
            go_upto_region 4 with (fail)
            have HY3 := Lib.hid (HY2.out.trans HV0.out)
            generalize hW3 : W2.drew = W3 at HY3 ⊢
            clear hW3
            refine wp_region_3 (fun w2 => Ext W3 w2) [(0, 2), (1, 2), (2, 2), (3, 1), (4, 2), (5, 2), (6, 1), (7, 0)] (by kernel_rfl) (by kernel_rfl) (by kernel_rfl) (by kernel_rfl) ?_; intro l' hl'; simp only [List.map_cons, List.map_nil, List.getD_cons_zero, List.getD_cons_succ] at hl'; subst hl'
            have HU0 := Lib.hid (show Ext W3 W3.drew from (Kept.refl _ W3).drew)
            (repeat (first | ((apply w3_pure); (· go_simp); (· (intro w1; go_simp; try with_reducible rfl)); (intro K hK; go_simp; refine hK _ _ ?_; clear hK K)) | ((apply w3_skip); (· go_simp); (intro K hK; go_simp; refine hK _ _ ?_; clear hK K)) | ((apply w3_take); (· exact HU0.out); (· go_simp); (· (intro w1 hS; have d1 := (HCW.out.ext (HY3.out.trans hS)); have d2 := Blk.cell d1.blk; have d3 := d1.blk.lt; clear d1; have d4 := Blk.ext hE0.out (HY3.out.trans hS); have d5 := Blk.cell d4; have d6 := d4.lt;  go_simp; try with_reducible rfl)); (intro K hK; go_simp; refine hK _ _ ?_; clear hK K)) | ((apply w3_pass); (· exact HU0.out); (· go_simp); (intro K hK; go_simp; refine hK _ _ ?_; clear hK K))))
            have HX := Lib.hid (HX0.out.trans (HY3.out.trans HU0.out))
            by_cases h8 : fors < 8
            · have h8I : (fors : Int) < 8 := by omega
              have HR := Lib.hid (show X = none by rw [HX6.out, decide_eq_true h8]; rfl)
              (repeat (first | ((apply w3_pure); (· go_simp); (· (intro w1; go_simp; try with_reducible rfl)); (intro K hK; go_simp; refine hK _ _ ?_; clear hK K)) | ((apply w3_skip); (· go_simp); (intro K hK; go_simp; refine hK _ _ ?_; clear hK K))))
              (refine w3_last (by kernel_rfl) (by kernel_rfl) (fun K hK => ?_); go_simp)
              refine (must_any true _ _ _).mono ?_
              rintro e w1 ⟨he, rfl⟩
              have he := MustR.none he
              subst he
              refine hK.out _ _ ?_
              clear hK K
              (repeat (first | ((apply w3_pure); (· go_simp); (· (intro w1; go_simp; try with_reducible rfl)); (intro K hK; go_simp; refine hK _ _ ?_; clear hK K)) | ((apply w3_skip); (· go_simp); (intro K hK; go_simp; refine hK _ _ ?_; clear hK K)) | (refine w3_end (by kernel_rfl) (fun K hK => ?_); go_simp; refine hK.out _ _ ?_; clear hK K))); refine w3_nil ?_
              go_wp2_with fail
              go_end0
              exact ⟨by rw [HR.out]; rfl, HX.out⟩
            · have h8I : ¬ (fors : Int) < 8 := by omega
              have HR := Lib.hid (show X = some ⟨25, s⟩ by rw [HX6.out, decide_eq_false h8]; rfl)
              (repeat (first | ((apply w3_pure); (· go_simp); (· (intro w1; go_simp; try with_reducible rfl)); (intro K hK; go_simp; refine hK _ _ ?_; clear hK K)) | ((apply w3_skip); (· go_simp); (intro K hK; go_simp; refine hK _ _ ?_; clear hK K))))
              (refine w3_last (by kernel_rfl) (by kernel_rfl) (fun K hK => ?_); go_simp)
              refine (must_any false _ _ _).mono ?_
              rintro e w1 ⟨he, rfl⟩
              have he := MustR.some he
              subst he
              show _ ∧ _
              exact ⟨rfl, by rw [HR.out]; exact ⟨rfl, HX.out⟩⟩
          · have HR := Lib.hid (show X = some ⟨2, s⟩ by rw [HX5.out, decide_eq_false hd]; rfl)
            (repeat (first | ((apply w3_pure); (· go_simp); (· (intro w1; go_simp; try with_reducible rfl)); (intro K hK; go_simp; refine hK _ _ ?_; clear hK K)) | ((apply w3_skip); (· go_simp); (intro K hK; go_simp; refine hK _ _ ?_; clear hK K)) | ((apply w3_take); (· exact HV0.out); (· go_simp); (· (intro w1 hS; have d4 := Blk.ext hE0.out (HY2.out.trans hS); have d5 := Blk.cell d4; have d6 := d4.lt;  go_simp; try with_reducible rfl)); (intro K hK; go_simp; refine hK _ _ ?_; clear hK K)) | ((apply w3_pass); (· exact HV0.out); (· go_simp); (intro K hK; go_simp; refine hK _ _ ?_; clear hK K))))
            (refine w3_last (by kernel_rfl) (by kernel_rfl) (fun K hK => ?_); go_simp)
            have HX := Lib.hid (HX0.out.trans (HY2.out.trans HV0.out))
            refine (must_any false _ _ _).mono ?_
            rintro e w1 ⟨he, rfl⟩
            have he := MustR.some he
            subst he
            show _ ∧ _
            exact ⟨rfl, by rw [HR.out]; exact ⟨rfl, HX.out⟩⟩
    · have qv : (v != 0) = true := by simp [hv0]
      have qn : (v == 0) = false := by simp [hv0]
      have HR := Lib.hid (show X = some ⟨7, s⟩ by rw [HX3.out, qn]; rfl)
      try rw [qv]
      try simp only [Bool.not_true]
      refine (must_any false _ _ _).mono ?_
      rintro e w1 ⟨he, rfl⟩
      have he := MustR.some he
      subst he
      show _ ∧ _
      exact ⟨rfl, by rw [HR.out]; exact ⟨rfl, HX.out⟩⟩
end Go.Proofs.YtfamkemdgbnegaaDoor

/- Sorts: the checker: what it forgets behind a block. -/
namespace Go.Proofs.YtfamkemdgbnegaaDoor
open Go.RowKit So
theorem wpList_del {P : Program} {w : World} {ops : Array Oper} {rest : List Oper} {o : Oper} {a : Act} {Q : Exit → Act → World → Prop} (hgd : o.guard = none) (x y : Operand) (T1 T2 : TypeId)
    (ho : o.op = .call { callee := .builtin .delete, args := #[x, y], argTypes := #[T1, T2] }) {ty : TypeId} (hty : o.type = ty) {v s v' : Value} {w' : World} (hx : a.eval x = v) (hy : a.eval y = s)
    (hrun : (Builtin.delete_ #[T1, T2] ty #[v, s]).run P w = .ok v' w') (h : wpList P ops Q rest (a.put o.dst v') w') : wpList P ops Q (o :: rest) a w :=
  wpList_plain hgd fun _ hK => by
    subst hty
    unfold Oper.wp execOp
    simp only [ho, resolve, invoke, builtin, Sem.run_bind, Sem.run_pure, Result.andThen_ok, List.map_toArray, List.map_cons, List.map_nil, hx, hy, hrun]
    exact hK _ _ h
theorem SMap.ne_cell {w : World} {g : Nat} {f : ByteArray → Option Value} (h : SMap w g f) {p : Addr} {v : Value} (hc : w.cell? p = some v) : ¬ p.block = g := fun e => by
  obtain ⟨es, clock, hb, _⟩ := h
  unfold World.cell? at hc
  rw [e, hb] at hc
  cases hc
theorem SMap.ne_row {w : World} {g b off : Nat} {f : ByteArray → Option Value} {vs : List Value} (h : SMap w g f) (hr : Row w b off vs) : ¬ b = g := fun e => by
  obtain ⟨es, clock, hb, _⟩ := h
  obtain ⟨c, t, fr, hq, _⟩ := hr.inv
  rw [e, hb] at hq
  cases hq
/-- a map without these names -/
def delF (f : ByteArray → Option Value) (l : List Str) : ByteArray → Option Value := fun t => if l.any (fun u => decide (u = t)) = true then none else f t
theorem delF_snoc (f : ByteArray → Option Value) (l : List Str) (x : Str) : ∀ t, (fun t => if t = x then none else delF f l t) t = delF f (l ++ [x]) t := by
  intro t
  unfold delF
  rw [List.any_append]
  by_cases h : t = x
  · subst h; simp
  · have : ¬ x = t := fun e => h e.symm
    have h2 : decide (x = t) = false := decide_eq_false this
    simp only [List.any_cons, List.any_nil, h2, Bool.or_false]
    rw [if_neg h]
set_option maxRecDepth 100000 in
set_option maxHeartbeats 1500000 in
theorem forget_any (nb pb cb g : Nat) (A : Option Addr) (n c : Nat) (l : List Str) (f : ByteArray → Option Value) (part : Str) (fors : Int) (u : FrameMode) (N : Nat) (w : World)
    (h1 : w.cell? ⟨nb, 0, none⟩ = some (.slice A n c)) (h2 : w.cell? ⟨pb, 0, none⟩ = some (.pointer (some ⟨cb, 0, none⟩))) (hb : Blk w cb 76 #[.map (some g), .string part, .int .i64 fors]) (hM : SMap w g f) (hS : StrSl w N A n l) :
    CallsD Tryd.prog 97 #[.pointer (some ⟨nb, 0, none⟩), .pointer (some ⟨pb, 0, none⟩)] u w fun e u' w' => u' = u ∧ (e = .returned (.tuple #[]) ∧ SMap w' g (delF f l) ∧ Kept (· = g) w w') := by
  obtain ⟨hn, hm, b, off, hA, hE⟩ := hS
  have HN := Lib.hid hn
  have HA := Lib.hid hA
  have HE := Lib.hid hE
  have HM := Lib.hid hM
  have n1 := Lib.hid (hM.ne_cell h1)
  have n2 := Lib.hid (hM.ne_cell h2)
  have hcb := Blk.cell hb
  have n3 := Lib.hid (hM.ne_cell (p := ⟨cb, 0, none⟩) (hcb 0))
  have l1 := Lib.hid (Nat.lt_of_not_le (fun h => by unfold World.cell? at h1; rw [Array.getElem?_eq_none h] at h1; cases h1) : nb < w.heap.size)
  have l2 := Lib.hid (Nat.lt_of_not_le (fun h => by unfold World.cell? at h2; rw [Array.getElem?_eq_none h] at h2; cases h2) : pb < w.heap.size)
  have HB := Lib.hid hb
  have H2 := Lib.hid h2
  clear hn hA hE hM hcb hb
  go_enter_d Tryd.func97, Tryd.ntmps97
  go_wp2_with fail
  go_loopw [6] (fun t6 wr => ∃ (j : Nat), j ≤ n ∧ t6 = .int .i64 j ∧ SMap wr g (delF f (l.take j)) ∧ Kept (· = g) w wr) (fun t6 _ => n - (intOf t6).toNat)
  case atStart => exact ⟨0, Nat.zero_le _, rfl, HM.out.cong (fun t => by simp [delF]), Kept.refl _ _⟩
  case round =>
    obtain ⟨j, hj, rfl, hS, hx⟩ := hrel
    have HS := Lib.hid hS
    have HX := Lib.hid hx
    clear hS hx h2
    by_cases hlt : j < n
    · have hjl : j < l.length := by have := HN.out; omega
      have hltI : (j : Int) < n := by omega
      obtain rfl := HA.out (by omega)
      have hrow0 := (HE.out (by omega)).2
      have hrow := hrow0.kept HX.out (HM.out.ne_row hrow0)
      have hc := str_at hrow j hjl
      have hbw := hrow.lt
      have c2 := (Kept.cell HX.out (p := ⟨pb, 0, none⟩) l2.out n2.out).trans H2.out
      have bk := Blk.kept HB.out HX.out n3.out
      have cb0 := Blk.cell bk
      have lcb := bk.lt
      obtain ⟨x, hxe⟩ : ∃ x, x = l[j] := ⟨_, rfl⟩
      rw [← hxe] at hc
      have HXE := Lib.hid hxe
      clear hrow hrow0 hxe bk
      obtain ⟨w', hrun, hS', hk'⟩ := SMap.del (P := Tryd.prog) HS.out Tryd.underlying74 Tryd.underlying9 0 x
      have HS' := Lib.hid hS'
      have HK' := Lib.hid hk'
      clear hS' hk'
      go_upto_region 3 with (fail)
      go_step
      iterate 5 (refine wpList_step (fun K hK => ?_); go_simp; (try go_bits); refine hK _ _ ?_; clear hK K)
      refine wpList_del rfl (.tmp 13) (.tmp 14) _ _ rfl rfl rfl rfl hrun ?_
      clear hrun
      go_wp2_with fail
      go_roundw
      case rel => exact ⟨j + 1, hlt, by go_num, HS'.out.cong (fun t => by rw [List.take_add_one, List.getElem?_eq_getElem hjl, ← HXE.out]; exact delF_snoc f (l.take j) x t), HX.out.trans HK'.out⟩
      case measure => simp only [intOf]; omega
    · obtain rfl : j = n := by omega
      go_wp2_with fail
      go_end0
      have hS := HS.out
      rw [HN.out, List.take_length] at hS
      exact ⟨rfl, hS, HX.out⟩
end Go.Proofs.YtfamkemdgbnegaaDoor
