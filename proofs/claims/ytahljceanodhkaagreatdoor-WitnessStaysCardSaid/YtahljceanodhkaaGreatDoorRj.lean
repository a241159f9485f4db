/- Package baizeref22: codeLeaves. -/
import Derived.Test.YtahljceanodhkaaGreatDoorRi
namespace Go.Proofs.YtahljceanodhkaaGreatDoor
open Go.RowKit
theorem aggIns : aggT Tryz.prog 89 = true := by kernel_rfl
theorem sizeIns : sizeT Tryz.prog 89 = some 4 := by kernel_rfl
theorem wpLoadIns {dst : Option Tmp} {ty' : TypeId} {x : Operand} {pos : String} {after : Array Edge} {guard : Option (Nat × Bool)} {a : Act} {w : World} {K : Act → World → Prop} {Q : Exit → Act → World → Prop} (hx : isAt (a.eval x) = true) (hh : has w (blkOf (a.eval x)) (offOf (a.eval x)) 4 = true) :
    Oper.wp Tryz.prog { dst := dst, op := .load 89 x, type := ty', pos := pos, after := after, guard := guard } a w K Q = K (a.put dst (.agg (gets w (blkOf (a.eval x)) (offOf (a.eval x)) 4))) w := wp_load_big 4 aggIns sizeIns hx hh
theorem runLoadIns {ρ : Operand → Value} {dst : Option Tmp} {ty' : TypeId} {x : Operand} {pos : String} {after : Array Edge} {guard : Option (Nat × Bool)} {w : World} (hx : isAt (ρ x) = true) (hh : has w (blkOf (ρ x)) (offOf (ρ x)) 4 = true) :
    (execOp ρ { dst := dst, op := .load 89 x, type := ty', pos := pos, after := after, guard := guard }).run Tryz.prog w = .ok (.value (.agg (gets w (blkOf (ρ x)) (offOf (ρ x)) 4))) w := run_exec_load_big 4 aggIns sizeIns hx hh
theorem loadVarIns (w : World) (g off : Nat) (hh : has w g off 4 = true) : (loadVar 89 ⟨g, off, none⟩).run Tryz.prog w = .ok (.agg (gets w g off 4)) w := run_loadVar_big Tryz.prog w _ g off 4 aggIns sizeIns hh
attribute [go_sem] aggIns sizeIns
attribute [go_sem ↓ high] wpLoadIns loadVarIns runLoadIns
attribute [go_sem high] wpLoadIns
theorem infoD8 : (Tryz.prog.info? 23).map (fun i => (i.zero, i.size, i.bytes)) = some (some (.agg Dg.zero.cells), 8, 8) := by kernel_rfl
theorem digs_flat (l : List Dg) : flatL (digs l) = true := by
  induction l with
  | nil => rfl
  | cons d l ih => show flatL (d.cells.toList ++ digs l) = true; exact ih
theorem appD (w : World) (base : Nat) (v : Value) (n : Nat) (xs : List Dg) (hown : w.ownsRow base 23 8 v n (digs xs)) (b off m c : Nat) (l : List Dg) (hm : m = l.length) (hr : Row w b off (digs l)) (hn : n + m ≤ 100000) (hbase : base ≤ w.heap.size) :
    ∃ v' w', (Builtin.append_ #[80, 80] 80 #[v, .slice (some ⟨b, off, none⟩) m c]).run Tryz.prog w = .ok v' w' ∧ w'.ownsRow base 23 8 v' (n + m) (digs (xs ++ l)) ∧ Kept (fun i => v.ownBlock = some i) w w' := by
  obtain ⟨i, hi, hz, h1, h2⟩ := info_parts infoD8
  have := app_some (P := Tryz.prog) Tryz.underlying80 hi hz h1 h2 (by rfl) (by decide) w base v n (digs xs) hown b off m c (digs l) (by rw [digs_length, hm]) hr (digs_flat l) (by unfold maxLen; omega) (by omega) hbase
  rw [show digs xs ++ digs l = digs (xs ++ l) by simp [digs]] at this
  exact this
theorem own_someD {w : World} {base : Nat} {v : Value} {n : Nat} {xs : List Dg} (h : w.ownsRow base 23 8 v n (digs xs)) (hn : 0 < n) : ∃ g c, v = .slice (some ⟨g, 0, none⟩) n c ∧ base ≤ g ∧ Row w g 0 (digs xs) ∧ n ≤ c ∧ c ≤ maxLen ∧ n = xs.length := by
  have hl := h.1
  rw [digs_length] at hl
  rcases h.2 with ⟨_, h0⟩ | ⟨g, c, cur, hv, hb, hc, hnc, hcm, hcs, htk⟩
  · omega
  · refine ⟨g, c, hv, hb, ?_, hnc, hcm, by omega⟩
    have hln : (digs xs).length = n * 8 := by rw [digs_length, hl]
    refine ⟨?_, ?_, (Array.getElem?_eq_some_iff.1 hc).1⟩
    · unfold has; rw [hc, hln]; simp; omega
    · unfold gets; rw [hc, hln]; simp only [List.drop_zero]; rw [htk]
def inss (l : List Ins) : List Value := l.flatMap fun d => d.cells.toList
theorem inss_length (l : List Ins) : (inss l).length = l.length * 4 := by
  induction l with
  | nil => rfl
  | cons d l ih => simp only [inss, List.flatMap_cons, List.length_append] at ih ⊢; rw [ih]; simp; omega
theorem inss_at : ∀ (l : List Ins) (k : Nat) (hk : k < l.length), ((inss l).drop (k * 4)).take 4 = (l[k]).cells.toList
  | d :: l, 0, _ => by simp [inss]
  | d :: l, k + 1, hk => by
    have ih := inss_at l k (by simpa using hk)
    have e : (inss (d :: l)).drop ((k + 1) * 4) = (inss l).drop (k * 4) := by
      rw [show (k + 1) * 4 = 4 + k * 4 by omega, ← List.drop_drop]
      rfl
    rw [e, ih]
    simp
theorem Row.ins {w : World} {b off : Nat} {l : List Ins} (h : Row w b off (inss l)) (k : Nat) (hk : k < l.length) : Proofs.YtahljceanodhkaaGreatDoor.has w b (off + k * 4) 4 = true ∧ gets w b (off + k * 4) 4 = (l[k]).cells := by
  have := h.sub (k * 4) 4 (by rw [inss_length]; omega)
  rw [inss_at l k hk] at this
  simpa using this
theorem own_new (w : World) (E : TypeId) (sz : Nat) : (w.alloc (.cells #[] E)).ownsRow w.heap.size E sz (.slice (some ⟨w.heap.size, 0, none⟩) 0 0) 0 [] :=
  ⟨by simp, .inr ⟨w.heap.size, 0, #[], rfl, Nat.le_refl _, heap_alloc_new w _, Nat.le_refl _, by simp, by simp, by simp⟩⟩
/-- what hands back digests of its own -/
def OwnsDigs (w w' : World) (e : Ending) (n : Nat) (l : List Dg) : Prop :=
  ∃ v, e = .returned v ∧ w'.ownsRow w.heap.size 23 8 v n (digs l) ∧ Ext w w'
set_option maxRecDepth 100000 in
set_option maxHeartbeats 1000000 in
theorem rcodeLeaves_ok (A : Option Addr) (b off cap : Nat) (l : List Ins) (n : Nat) (hn : n = l.length) (h2 : n ≤ 4096) (hok : ∀ i ∈ l, i.ok) (hA : 0 < n → A = some ⟨b, off, none⟩) (w : World) (hr : 0 < n → Row w b off (inss l)) :
    Calls Tryz.prog 69 #[.slice A n cap] w fun e w' => OwnsDigs w w' e n (l.map ileaf) := by
  have HN := Lib.hid hn
  have HO := Lib.hid hok
  have HA := Lib.hid hA
  have HR := Lib.hid hr
  clear hn hok hA hr
  go_enter Tryz.func69, Tryz.ntmps69
  go_wp2_with fail
  go_loopw [3, 4] (fun t3 t4 wr => ∃ (k : Nat), k ≤ n ∧ t4 = .int .i64 k ∧ wr.ownsRow w.heap.size 23 8 t3 k (digs ((l.take k).map ileaf)) ∧ Ext w wr) (fun _ t4 _ => n - (intOf t4).toNat)
  case atStart => exact ⟨0, Nat.zero_le _, rfl, own_new _ _ _, (Kept.refl _ w).alloc _⟩
  case round =>
    obtain ⟨k, hk, rfl, ho, hx⟩ := hrel
    have hob : ∀ i, i < w.heap.size → (u3 : Value).ownBlock = some i → False := fun i hi e => by have := (ho.lt i e).1; omega
    have HOB := Lib.hid hob
    clear hob
    by_cases hlt : k < n
    · have hkl : k < l.length := by have := HN.out; omega
      obtain rfl := HA.out (by omega)
      obtain ⟨hrh, hrg⟩ := ((HR.out (by omega)).ext hx).ins k hkl
      have hbl := ((HR.out (by omega)).ext hx).lt
      go_upto_region 5 with (fail)
      go_step
      iterate 5 (refine wpList_step (fun K hK => ?_); go_simp; (try go_bits); refine hK _ _ ?_; clear hK K)
      refine wpList_step (fun K hK => ?_)
      go_wp2_with fail
      refine (rileaf_any l[k] (HO.out _ (List.getElem_mem hkl)) _).mono ?_
      rintro e w1 ⟨rfl, hx1⟩
      refine hK _ _ ?_
      clear hK K
      obtain ⟨v2, w2, hr2, ho2, hk2⟩ := appD (w1.alloc (.cells (ileaf l[k]).cells 23)) _ _ _ ((l.take k).map ileaf) ((own_ext ho hx1).alloc _) w1.heap.size 0 1 1 [ileaf l[k]] rfl (by simpa [digs] using Row.of_blk (Blk.new w1 23 (ileaf l[k]).cells)) (by omega) (by have := (hx.trans hx1).size; simp; omega)
      iterate 1 (refine wpList_step (fun K hK => ?_); go_simp; (try go_bits); refine hK _ _ ?_; clear hK K)
      refine wpList_app rfl (.tmp 12) (.tmp 18) 80 rfl rfl rfl rfl hr2 ?_
      clear hr2
      go_wp2_with fail
      go_roundw
      case rel => exact ⟨k + 1, hlt, by go_num, by rw [List.take_succ_eq_append_getElem hkl, List.map_append]; exact ho2, ((hx.trans hx1).alloc _).trans' hk2 HOB.out⟩
      case measure => simp only [intOf]; omega
    · go_wp2_with fail
      go_ret
      have e : k = n := by omega
      subst e
      rw [List.take_of_length_le (Nat.le_of_eq HN.out.symm)] at ho
      exact ⟨_, rfl, ho, hx⟩
def mems (l : List Int) : List Value := l.map fun x => .int .i32 x
theorem Row.mem {w : World} {b off : Nat} {l : List Int} (h : Row w b off (mems l)) (k : Nat) (hk : k < l.length) : w.cell? ⟨b, off + k, none⟩ = some (.int .i32 l[k]) := by
  rw [h.cell k (by simpa [mems] using hk)]
  simp [mems, hk]
set_option maxRecDepth 100000 in
set_option maxHeartbeats 1000000 in
theorem rmemLeaves_ok (A : Option Addr) (b off cap : Nat) (l : List Int) (n : Nat) (hn : n = l.length) (h2 : n ≤ 4096) (hA : 0 < n → A = some ⟨b, off, none⟩) (w : World) (hr : 0 < n → Row w b off (mems l)) :
    Calls Tryz.prog 73 #[.slice A n cap] w fun e w' => OwnsDigs w w' e n (l.map leafW) := by
  have HN := Lib.hid hn
  have HA := Lib.hid hA
  have HR := Lib.hid hr
  clear hn hA hr
  go_enter Tryz.func73, Tryz.ntmps73
  go_wp2_with fail
  go_loopw [3, 4] (fun t3 t4 wr => ∃ (k : Nat), k ≤ n ∧ t4 = .int .i64 k ∧ wr.ownsRow w.heap.size 23 8 t3 k (digs ((l.take k).map leafW)) ∧ Ext w wr) (fun _ t4 _ => n - (intOf t4).toNat)
  case atStart => exact ⟨0, Nat.zero_le _, rfl, own_new _ _ _, (Kept.refl _ w).alloc _⟩
  case round =>
    obtain ⟨k, hk, rfl, ho, hx⟩ := hrel
    have hob : ∀ i, i < w.heap.size → (u3 : Value).ownBlock = some i → False := fun i hi e => by have := (ho.lt i e).1; omega
    have HOB := Lib.hid hob
    clear hob
    by_cases hlt : k < n
    · have hkl : k < l.length := by have := HN.out; omega
      obtain rfl := HA.out (by omega)
      have hrg := ((HR.out (by omega)).ext hx).mem k hkl
      have hbl := ((HR.out (by omega)).ext hx).lt
      go_upto_region 5 with (fail)
      go_step
      iterate 5 (refine wpList_step (fun K hK => ?_); go_simp; (try go_bits); refine hK _ _ ?_; clear hK K)
      refine wpList_step (fun K hK => ?_)
      go_wp2_with fail
      refine (rleaf_any l[k] _).mono ?_
      rintro e w1 ⟨rfl, hx1⟩
      refine hK _ _ ?_
      clear hK K
      obtain ⟨v2, w2, hr2, ho2, hk2⟩ := appD (w1.alloc (.cells (leafW l[k]).cells 23)) _ _ _ ((l.take k).map leafW) ((own_ext ho hx1).alloc _) w1.heap.size 0 1 1 [leafW l[k]] rfl (by simpa [digs] using Row.of_blk (Blk.new w1 23 (leafW l[k]).cells)) (by omega) (by have := (hx.trans hx1).size; simp; omega)
      iterate 1 (refine wpList_step (fun K hK => ?_); go_simp; (try go_bits); refine hK _ _ ?_; clear hK K)
      refine wpList_app rfl (.tmp 12) (.tmp 18) 80 rfl rfl rfl rfl hr2 ?_
      clear hr2
      go_wp2_with fail
      go_roundw
      case rel => exact ⟨k + 1, hlt, by go_num, by rw [List.take_succ_eq_append_getElem hkl, List.map_append]; exact ho2, ((hx.trans hx1).alloc _).trans' hk2 HOB.out⟩
      case measure => simp only [intOf]; omega
    · go_wp2_with fail
      go_ret
      have e : k = n := by omega
      subst e
      rw [List.take_of_length_le (Nat.le_of_eq HN.out.symm)] at ho
      exact ⟨_, rfl, ho, hx⟩
end Go.Proofs.YtahljceanodhkaaGreatDoor
