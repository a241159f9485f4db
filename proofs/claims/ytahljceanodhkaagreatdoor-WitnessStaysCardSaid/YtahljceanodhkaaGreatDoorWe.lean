/- The law's own functions of layer 22: Of, few, of, known. -/
import Derived.Test.YtahljceanodhkaaGreatDoorOpn
namespace Go.Proofs.YtahljceanodhkaaGreatDoor
open Go.RowKit
theorem infoI4 : (Tryz.prog.info? 41).map (fun i => (i.zero, i.size, i.bytes)) = some (some (.agg (Ins.cells ⟨0, 0, 0, 0⟩)), 4, 32) := by kernel_rfl
theorem inss_flatL (l : List Ins) : flatL (inss l) = true := by
  induction l with
  | nil => rfl
  | cons d l ih => show flatL (d.cells.toList ++ inss l) = true; simpa [flatL, Value.oneCell'] using ih
theorem inss_app (l q : List Ins) : inss l ++ inss q = inss (l ++ q) := by simp [inss]
theorem appI (w : World) (base : Nat) (v : Value) (n : Nat) (xs : List Ins) (hown : w.ownsRow base 41 4 v n (inss xs)) (b off m c : Nat) (l : List Ins) (hm : m = l.length) (hr : Row w b off (inss l)) (hn : n + m ≤ 100000) (hbase : base ≤ w.heap.size) :
    ∃ v' w', (Builtin.append_ #[65, 65] 65 #[v, .slice (some ⟨b, off, none⟩) m c]).run Tryz.prog w = .ok v' w' ∧ w'.ownsRow base 41 4 v' (n + m) (inss (xs ++ l)) ∧ Kept (fun i => v.ownBlock = some i) w w' := by
  obtain ⟨i, hi, hz, h1, h2⟩ := info_parts infoI4
  have := app_some (P := Tryz.prog) Tryz.underlying65 hi hz h1 h2 (by rfl) (by decide) w base v n (inss xs) hown b off m c (inss l) (by rw [inss_length, hm]) hr (inss_flatL l) (by unfold maxLen; omega) (by omega) hbase
  rw [inss_app] at this
  exact this
/-- instructions of its own -/
def OwnsI (w w' : World) (e : Ending) (n : Nat) (l : List Ins) : Prop :=
  ∃ v, e = .returned v ∧ w'.ownsRow w.heap.size 41 4 v n (inss l) ∧ Ext w w'
theorem own_I {w : World} {base : Nat} {E : TypeId} {v : Value} {n : Nat} {xs : List Ins} (h : w.ownsRow base E 4 v n (inss xs)) : ∃ A g c, v = .slice A n c ∧ (0 < n → A = some ⟨g, 0, none⟩) ∧ (0 < n → Row w g 0 (inss xs)) ∧ n = xs.length := by
  have hl := h.1
  rw [inss_length] at hl
  rcases h.2 with ⟨hv, h0⟩ | ⟨g, c, cur, hv, hb, hc, hnc, hcm, hcs, htk⟩
  · subst h0; exact ⟨none, 0, 0, hv, fun h => by omega, fun h => by omega, by omega⟩
  · refine ⟨_, g, c, hv, fun _ => rfl, fun _ => ?_, by omega⟩
    have hln : (inss xs).length = n * 4 := by rw [inss_length, hl]
    refine ⟨?_, ?_, (Array.getElem?_eq_some_iff.1 hc).1⟩
    · unfold has; rw [hc, hln]; simp; omega
    · unfold gets; rw [hc, hln]; simp only [List.drop_zero]; rw [htk]
set_option maxRecDepth 100000 in
set_option maxHeartbeats 1000000 in
theorem law14of_ok (A : Option Addr) (b off cap : Nat) (l : List Ins) (n : Nat) (hn : n = l.length) (h2 : n ≤ 4096) (hA : 0 < n → A = some ⟨b, off, none⟩) (w : World) (hr : 0 < n → Row w b off (inss l)) :
    Calls Tryz.prog 30 #[.slice A n cap] w fun e w' => OwnsI w w' e n l := by
  have HN := Lib.hid hn
  have HA := Lib.hid hA
  have HR := Lib.hid hr
  clear hn hA hr
  go_enter Tryz.func30, Tryz.ntmps30
  go_wp2_with fail
  go_loopw [3, 8] (fun t3 t8 wr => ∃ (k : Nat), k ≤ n ∧ t8 = .int .i64 k ∧ wr.ownsRow w.heap.size 41 4 t3 k (inss (l.take k)) ∧ Ext w wr) (fun _ t8 _ => n - (intOf t8).toNat)
  case atStart => exact ⟨0, Nat.zero_le _, rfl, World.ownsRow_nil _ _ _ _, Kept.refl _ _⟩
  case round =>
    obtain ⟨k, hk, rfl, ho, hx⟩ := hrel
    have hob : ∀ i, i < w.heap.size → (u3 : Value).ownBlock = some i → False := fun i hi e => by have := (ho.lt i e).1; omega
    have HOB := Lib.hid hob
    clear hob
    by_cases hlt : k < n
    · have hkl : k < l.length := by have := HN.out; omega
      obtain rfl := HA.out (by omega)
      obtain ⟨hrh, hrg⟩ := ((HR.out (by omega)).ext hx).ins k hkl
      have hbw := ((HR.out (by omega)).ext hx).lt
      go_upto_region 5 with (fail)
      have hx' := hx.alloc (.cells (l[k]).cells 89)
      have ho' := ho.alloc (.cells (l[k]).cells 89)
      go_step
      iterate 3 (refine wpList_step (fun K hK => ?_); go_simp; (try go_bits); refine hK _ _ ?_; clear hK K)
      obtain ⟨v2, w2, hr2, ho2, hk2⟩ := appI ((wr.alloc (.cells (l[k]).cells 89)).alloc (.cells (l[k]).cells 41)) _ _ _ (l.take k) (ho'.alloc _) (wr.heap.size + 1) 0 1 1 [l[k]] rfl (by simpa [inss] using Row.of_blk (Blk.new' (wr.alloc (.cells (l[k]).cells 89)) 41 (l[k]).cells (wr.heap.size + 1) (by simp))) (by omega) (by have := hx'.size; simp at this ⊢; omega)
      refine wpList_app rfl (.tmp 12) (.tmp 14) 65 rfl rfl rfl rfl hr2 ?_
      clear hr2
      go_wp2_with fail
      go_roundw
      case rel => exact ⟨k + 1, hlt, by go_num, by rw [List.take_succ_eq_append_getElem hkl]; exact ho2, (hx'.alloc _).trans' hk2 HOB.out⟩
      case measure => simp only [intOf]; omega
    · go_wp2_with fail
      go_ret
      have e : k = n := by omega
      subst e
      rw [List.take_of_length_le (Nat.le_of_eq HN.out.symm)] at ho
      exact ⟨_, rfl, ho, hx⟩
set_option maxHeartbeats 1000000 in
theorem few_any (A A' : Option Addr) (n cap k cap' : Nat) (pc halt : Int) (w : World) :
    Calls Tryz.prog 28 #[.slice A n cap, .agg (stCells pc A' k cap' halt)] w fun e w' => e = .returned (.bool (decide (n ≤ 20) && decide (k ≤ 20))) ∧ Ext w w' := by
  have hx0 : Ext w _ := (Kept.refl _ w).alloc (.cells (stCells pc A' k cap' halt) 61)
  go_enter Tryz.func28, Tryz.ntmps28
  go_wp2_with fail
  all_goals go_ret
  all_goals refine ⟨ret_bool ?_, hx0⟩
  all_goals (rw [Bool.eq_iff_iff]; simp; omega)
theorem aggMst : aggT Tryz.prog 70 = true := by kernel_rfl
theorem sizeMst : sizeT Tryz.prog 70 = some 3 := by kernel_rfl
theorem wpLoadMst {dst : Option Tmp} {ty' : TypeId} {x : Operand} {pos : String} {after : Array Edge} {guard : Option (Nat × Bool)} {a : Act} {w : World} {K : Act → World → Prop} {Q : Exit → Act → World → Prop} (hx : isAt (a.eval x) = true) (hh : has w (blkOf (a.eval x)) (offOf (a.eval x)) 3 = true) :
    Oper.wp Tryz.prog { dst := dst, op := .load 70 x, type := ty', pos := pos, after := after, guard := guard } a w K Q = K (a.put dst (.agg (gets w (blkOf (a.eval x)) (offOf (a.eval x)) 3))) w := wp_load_big 3 aggMst sizeMst hx hh
theorem runLoadMst {ρ : Operand → Value} {dst : Option Tmp} {ty' : TypeId} {x : Operand} {pos : String} {after : Array Edge} {guard : Option (Nat × Bool)} {w : World} (hx : isAt (ρ x) = true) (hh : has w (blkOf (ρ x)) (offOf (ρ x)) 3 = true) :
    (execOp ρ { dst := dst, op := .load 70 x, type := ty', pos := pos, after := after, guard := guard }).run Tryz.prog w = .ok (.value (.agg (gets w (blkOf (ρ x)) (offOf (ρ x)) 3))) w := run_exec_load_big 3 aggMst sizeMst hx hh
theorem loadVarMst (w : World) (g off : Nat) (hh : has w g off 3 = true) : (loadVar 70 ⟨g, off, none⟩).run Tryz.prog w = .ok (.agg (gets w g off 3)) w := run_loadVar_big Tryz.prog w _ g off 3 aggMst sizeMst hh
attribute [go_sem] aggMst sizeMst
attribute [go_sem ↓ high] wpLoadMst loadVarMst runLoadMst
attribute [go_sem high] wpLoadMst
theorem aggRst : aggT Tryz.prog 61 = true := by kernel_rfl
theorem sizeRst : sizeT Tryz.prog 61 = some 3 := by kernel_rfl
theorem wpLoadRst {dst : Option Tmp} {ty' : TypeId} {x : Operand} {pos : String} {after : Array Edge} {guard : Option (Nat × Bool)} {a : Act} {w : World} {K : Act → World → Prop} {Q : Exit → Act → World → Prop} (hx : isAt (a.eval x) = true) (hh : has w (blkOf (a.eval x)) (offOf (a.eval x)) 3 = true) :
    Oper.wp Tryz.prog { dst := dst, op := .load 61 x, type := ty', pos := pos, after := after, guard := guard } a w K Q = K (a.put dst (.agg (gets w (blkOf (a.eval x)) (offOf (a.eval x)) 3))) w := wp_load_big 3 aggRst sizeRst hx hh
theorem runLoadRst {ρ : Operand → Value} {dst : Option Tmp} {ty' : TypeId} {x : Operand} {pos : String} {after : Array Edge} {guard : Option (Nat × Bool)} {w : World} (hx : isAt (ρ x) = true) (hh : has w (blkOf (ρ x)) (offOf (ρ x)) 3 = true) :
    (execOp ρ { dst := dst, op := .load 61 x, type := ty', pos := pos, after := after, guard := guard }).run Tryz.prog w = .ok (.value (.agg (gets w (blkOf (ρ x)) (offOf (ρ x)) 3))) w := run_exec_load_big 3 aggRst sizeRst hx hh
theorem loadVarRst (w : World) (g off : Nat) (hh : has w g off 3 = true) : (loadVar 61 ⟨g, off, none⟩).run Tryz.prog w = .ok (.agg (gets w g off 3)) w := run_loadVar_big Tryz.prog w _ g off 3 aggRst sizeRst hh
attribute [go_sem] aggRst sizeRst
attribute [go_sem ↓ high] wpLoadRst loadVarRst runLoadRst
attribute [go_sem high] wpLoadRst
set_option maxHeartbeats 1000000 in
theorem of_st (A : Option Addr) (n cap : Nat) (pc halt : Int) (w : World) :
    Calls Tryz.prog 33 #[.agg (stCells pc A n cap halt)] w fun e w' => e = .returned (.agg (stCells pc A n cap halt)) ∧ Ext w w' := by
  have hx0 : Ext w _ := ((Kept.refl _ w).alloc (.cells (stCells pc A n cap halt) 61)).alloc (.cells (stCells pc A n cap halt) 70)
  go_enter Tryz.func33, Tryz.ntmps33
  go_wp2_with fail
  refine ret_cell Tryz.results33 rfl rfl aggMst (by exact sizeMst) (Blk.new' _ _ (stCells pc A n cap halt) _ (by simp)) ⟨rfl, hx0⟩
end Go.Proofs.YtahljceanodhkaaGreatDoor
