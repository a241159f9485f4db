/- The law HalveClone of layer 23: its walk. -/
import Derived.Test.YtahljceanodhkaaGreatDoorDo
import Derived.Test.YtahljceanodhkaaGreatDoorRefn
namespace Go.Proofs.YtahljceanodhkaaGreatDoor
open Go.RowKit Go.Deep Go.ChangeShapes Go.WideShapes
theorem aggDeed : aggT Tryz.prog 25 = true := by kernel_rfl
theorem sizeDeed : sizeT Tryz.prog 25 = some 11 := by kernel_rfl
theorem wpLoadDeed {dst : Option Tmp} {ty' : TypeId} {x : Operand} {pos : String} {after : Array Edge} {guard : Option (Nat × Bool)} {a : Act} {w : World} {K : Act → World → Prop} {Q : Exit → Act → World → Prop} (hx : isAt (a.eval x) = true) (hh : has w (blkOf (a.eval x)) (offOf (a.eval x)) 11 = true) :
    Oper.wp Tryz.prog { dst := dst, op := .load 25 x, type := ty', pos := pos, after := after, guard := guard } a w K Q = K (a.put dst (.agg (gets w (blkOf (a.eval x)) (offOf (a.eval x)) 11))) w := wp_load_big 11 aggDeed sizeDeed hx hh
theorem runLoadDeed {ρ : Operand → Value} {dst : Option Tmp} {ty' : TypeId} {x : Operand} {pos : String} {after : Array Edge} {guard : Option (Nat × Bool)} {w : World} (hx : isAt (ρ x) = true) (hh : has w (blkOf (ρ x)) (offOf (ρ x)) 11 = true) :
    (execOp ρ { dst := dst, op := .load 25 x, type := ty', pos := pos, after := after, guard := guard }).run Tryz.prog w = .ok (.value (.agg (gets w (blkOf (ρ x)) (offOf (ρ x)) 11))) w := run_exec_load_big 11 aggDeed sizeDeed hx hh
theorem loadVarDeed (w : World) (g off : Nat) (hh : has w g off 11 = true) : (loadVar 25 ⟨g, off, none⟩).run Tryz.prog w = .ok (.agg (gets w g off 11)) w := run_loadVar_big Tryz.prog w _ g off 11 aggDeed sizeDeed hh
attribute [go_sem] aggDeed sizeDeed
attribute [go_sem ↓ high] wpLoadDeed loadVarDeed runLoadDeed
attribute [go_sem high] wpLoadDeed
abbrev deedCells (wh : Int) (x : Dg) (f : Bool) (u : Value) : Array Value := #[.int .u8 wh, .int .u8 x.x0, .int .u8 x.x1, .int .u8 x.x2, .int .u8 x.x3, .int .u8 x.x4, .int .u8 x.x5, .int .u8 x.x6, .int .u8 x.x7, .bool f, u]
attribute [go_sem] deedCells
/-- Deeds in memory, each whole. -/
structure Deeds11 (w : World) (b off len : Nat) (what : Nat → Int) (dg : Nat → Dg) (first : Nat → Bool) (last : Nat → Value) : Prop where
  has_ : ∀ i, i < len → has w b (off + i * 11) 11 = true
  get_ : ∀ i, i < len → gets w b (off + i * 11) 11 = deedCells (what i) (dg i) (first i) (last i)
  whatR : ∀ i, i < len → 0 ≤ what i ∧ what i ≤ 255
  lt : 0 < len → b < w.heap.size
theorem Deeds11.keep {w w' : World} {b off len : Nat} {what : Nat → Int} {dg : Nat → Dg} {first : Nat → Bool} {last : Nat → Value} (h : Deeds11 w b off len what dg first last) (hk : Ext w w') : Deeds11 w' b off len what dg first last := by
  have hb : 0 < len → w'.heap[b]? = w.heap[b]? := fun hl => hk.block b (h.lt hl) (fun f => f)
  refine ⟨fun i hi => ?_, fun i hi => ?_, h.whatR, fun hl => Nat.lt_of_lt_of_le (h.lt hl) hk.size⟩
  · have := h.has_ i hi; unfold has at this ⊢; rw [hb (by omega)]; exact this
  · have := h.get_ i hi; unfold gets at this ⊢; rw [hb (by omega)]; exact this
section
variable {H : Type} {enc : TypeId × Value → H} {w : World} {base : Nat} {spare : Nat → Bool} {held : Bool}
set_option maxRecDepth 100000 in
theorem deeds11_of {fuel : Nat} {v : Value} {x : DataW H × List MemPlace} (h : DataW.trod enc Tryz.prog w base spare held fuel 22 [v] = some x) :
    ∃ (A : Option Addr) (b off len cap : Nat) (what : Nat → Int) (dg : Nat → Dg) (first : Nat → Bool) (last : Nat → Value), v = .slice A len cap ∧ (0 < len → A = some ⟨b, off, none⟩) ∧ Deeds11 w b off len what dg first last ∧ len ≤ maxLen := by
  rcases open_slice Tryz.underlying22 h with ⟨hcs, _⟩ | ⟨a, len, cap, m, n, D', Pl, hcs, _, hl, hm, hmm, _, hi⟩
  · simp at hcs
    exact ⟨none, 0, 0, 0, 0, fun _ => 0, fun _ => Dg.zero, fun _ => false, fun _ => .bool false, hcs, fun h => by omega, ⟨fun _ h => by omega, fun _ h => by omega, fun _ h => by omega, fun h => by omega⟩, by simp [maxLen]⟩
  · simp at hcs
    have hlm : len ≤ m := by rw [hmm]; split <;> omega
    have hsp : 0 < len → a = ⟨a.block, a.off, none⟩ ∧ a.block < w.heap.size := fun h0 => by
      obtain ⟨cs', hc, ht⟩ := hi 0 (by omega)
      obtain ⟨_, hcl, hat⟩ := World.cells?_some hc
      rw [cellsDeed] at hcl hat
      have h0' := hat 0 (by omega)
      rw [List.getElem?_eq_getElem (by omega)] at h0'
      have e : (a.add (0 * 11)).add 0 = a := by simp [Addr.add]
      rw [e] at h0'
      refine ⟨?_, block_lt_of_cell h0'⟩
      have := spot_of_cell h0'
      cases a; simp_all
    have hcell : ∀ i, i < len → ∃ (q : Int × Dg × Bool × Value), 0 ≤ q.1 ∧ q.1 ≤ 255 ∧ has w a.block (a.off + i * 11) 11 = true ∧ gets w a.block (a.off + i * 11) 11 = deedCells q.1 q.2.1 q.2.2.1 q.2.2.2 := fun i hil => by
      obtain ⟨cs', hc, ht⟩ := hi i (by omega)
      obtain ⟨wh, d, f, u, h0, h1, rfl⟩ := deed_cells ht
      obtain ⟨_, _, hat⟩ := World.cells?_some hc
      refine ⟨⟨wh, d, f, u⟩, h0, h1, ?_⟩
      rw [cellsDeed] at hat
      exact gets_of_cells (w := w) (b := a.block) (o := a.off + i * 11) [.int .u8 wh, .int .u8 d.x0, .int .u8 d.x1, .int .u8 d.x2, .int .u8 d.x3, .int .u8 d.x4, .int .u8 d.x5, .int .u8 d.x6, .int .u8 d.x7, .bool f, u] (by simp) (fun j hj => by
        have := hat j hj
        rw [(hsp (by omega)).1, addr_add, addr_add] at this
        exact this)
    have hch : ∀ i, ∃ (q : Int × Dg × Bool × Value), i < len → 0 ≤ q.1 ∧ q.1 ≤ 255 ∧ has w a.block (a.off + i * 11) 11 = true ∧ gets w a.block (a.off + i * 11) 11 = deedCells q.1 q.2.1 q.2.2.1 q.2.2.2 := fun i => by
      by_cases hi : i < len
      · obtain ⟨q, hq⟩ := hcell i hi; exact ⟨q, fun _ => hq⟩
      · exact ⟨⟨0, Dg.zero, false, .bool false⟩, fun h => absurd h hi⟩
    refine ⟨some a, a.block, a.off, len, cap, fun i => (hch i).choose.1, fun i => (hch i).choose.2.1, fun i => (hch i).choose.2.2.1, fun i => (hch i).choose.2.2.2, hcs, fun h => by rw [← (hsp h).1], ⟨fun i hi => ((hch i).choose_spec hi).2.2.1, fun i hi => ((hch i).choose_spec hi).2.2.2, fun i hi => ⟨((hch i).choose_spec hi).1, ((hch i).choose_spec hi).2.1⟩, fun h => (hsp h).2⟩, by omega⟩
end
def Chg (r r' : Rt) : Prop := r' = r ∨ (∃ d, r' = { r with told := true, mid := d } ∧ r.told = false ∧ r.turn = 0 ∧ r'.turn = 1) ∨ (∃ v, r' = { r with won := v } ∧ ¬ r.won = v ∧ r'.turn = -1 ∧ ¬ r.turn = -1) ∨ (r'.from_ = r.from_ ∧ ¬ r'.steps = r.steps) ∨ ¬ r'.from_ = r.from_
theorem EInv.won {K : Nat} {t : Tr} {n : Int} (h : EInv K t n) : t.winner = -1 ∨ t.winner = 0 ∨ t.winner = 1 := by
  obtain ⟨_, _, j, _, _, hc⟩ := h
  rcases hc with ⟨_, h, _⟩ | ⟨_, _, h, _⟩ | ⟨_, h, _⟩ <;> omega
theorem chg_tell (r : Rt) (x : Dg) : Chg r (r.tell x).1 := by
  unfold Rt.tell
  by_cases h : 0 ≤ r.won
  · rw [if_pos h]; exact .inl rfl
  · rw [if_neg h]
    cases ht : r.told
    · cases hs : r.steps == 1
      · exact .inr (.inl ⟨x, rfl, ht, by simp [Rt.turn, h, ht], by simp [Rt.turn, h]⟩)
      · exact .inl rfl
    · exact .inl rfl
theorem chg_silence (r : Rt) (_hw : r.won = -1 ∨ r.won = 0 ∨ r.won = 1) : Chg r r.silence.1 := by
  unfold Rt.silence
  by_cases h : 0 ≤ r.won
  · rw [if_pos h]; exact .inl rfl
  · rw [if_neg h]
    refine .inr (.inr (.inl ⟨1 - r.turn, rfl, ?_, ?_, ?_⟩))
    · unfold Rt.turn; cases r.told <;> simp [h] <;> omega
    · cases ht : r.told <;> simp [Rt.turn, h, ht]
    · cases ht : r.told <;> simp [Rt.turn, h, ht]
theorem chg_choose (r : Rt) (f : Bool) (hs : r.told = true → ¬ 0 ≤ r.won → 2 ≤ r.steps) : Chg r (r.choose f).1 := by
  unfold Rt.choose
  by_cases h : 0 ≤ r.won
  · rw [if_pos h]; exact .inl rfl
  · rw [if_neg h]
    cases ht : r.told
    · exact .inl rfl
    · have := hs ht h
      cases f
      · exact .inr (.inr (.inr (.inr (by simp; omega))))
      · exact .inr (.inr (.inr (.inl ⟨rfl, by simp; omega⟩)))
theorem do_any {K : Nat} {m : Int} (hK : K ≤ 20) (b c : Nat) (hbc : ¬ b = c) (r : Rt) (p q : Dg) (sz sz' wh : Int) (x : Dg) (f : Bool) (u : Value) (w : World) (ht : At w b (r.tr p sz)) (hc : Blk w c 49 r.cells) (h0 : 0 ≤ wh) (h1 : wh ≤ 255) (hE : EInv K (r.tr p sz) m) (hz1 : 1 ≤ sz) (hz2 : sz ≤ 2048) (hs1 : 1 ≤ sz') (hs2 : sz' ≤ 2048) :
    Calls Tryz.prog 24 #[.pointer (some ⟨b, 0, none⟩), .pointer (some ⟨c, 0, none⟩), .agg (deedCells wh x f u), .agg #[.int .u8 q.x0, .int .u8 q.x1, .int .u8 q.x2, .int .u8 q.x3, .int .u8 q.x4, .int .u8 q.x5, .int .u8 q.x6, .int .u8 q.x7], .int .i64 sz', .slice none 0 0] w fun e w' => ∃ r' m', e = .returned (.bool true) ∧ At w' b (r'.tr p sz) ∧ Blk w' c 49 r'.cells ∧ Kept (fun i => i = b ∨ i = c) w w' ∧ EInv K (r'.tr p sz) m' ∧ Chg r r' := by
  have hb := hE.bounds
  have hp := pow2_le hK
  have hb1 : 0 ≤ r.steps := by have := hb.2.2.1; dsimp only at this; omega
  have hb2 : r.steps ≤ 1048576 := by have := hb.2.2.2.1; dsimp only at this; omega
  have hb3 : 0 ≤ r.from_ := hb.1
  have hb4 : r.from_ ≤ 1048576 := by have := hb.2.1; dsimp only at this; omega
  rcases (by omega : wh % 4 = 0 ∨ wh % 4 = 1 ∨ wh % 4 = 2 ∨ wh % 4 = 3) with hm | hm | hm | hm
  · have ag := tell_agree r p sz x
    have hE' := (hE.tell x).1
    rw [ag.2] at hE'
    refine (do_tell b c hbc r (r.tell x).1 (r.tell x).2 p q sz sz' wh x f u w ht hc h0 h1 (by simpa using hm) (fun w hA => ?_) (fun w => rtell_any r x w) hE'.won).mono ?_
    · have := tell_any b (r.tr p sz) x w hA
      rwa [ag.1, ag.2] at this
    · rintro e w' ⟨he, h1, h2, h3⟩
      exact ⟨_, _, he, h1, h2, h3, hE', chg_tell r x⟩
  · have ag := choose_agree r p sz f hE
    have hE' := (hE.choose f).1
    rw [ag.2] at hE'
    refine (do_choose b c hbc r (r.choose f).1 (r.choose f).2 p q sz sz' wh x f u w ht hc h0 h1 (by simpa using hm) (fun w hA => ?_) (fun w => rchoose_any r f w hb1 hb2 hb3 hb4) hE'.won).mono ?_
    · have := choose_any b (r.tr p sz) f w hA hb1 hb2 hb3 hb4
      rwa [ag.1, ag.2] at this
    · rintro e w' ⟨he, h1, h2, h3⟩
      refine ⟨_, _, he, h1, h2, h3, hE', chg_choose r f fun ht hw => ?_⟩
      obtain ⟨_, _, j, hj, hs, hc⟩ := hE
      dsimp only at hs hc
      have hj1 : 1 ≤ j := by
        rcases hc with ⟨hc, _⟩ | ⟨_, hc, _⟩ | ⟨hc, _⟩
        · simp [Rt.turn, hw, ht] at hc
        · exact hc
        · simp [Rt.turn, hw, ht] at hc
      have hp := pow_half hj1
      have hq := pow_pos' (j - 1)
      omega
  · have ag := prove_agree r p sz 2 (by decide) hE
    refine (do_prove0 b c hbc r (r.prove 2).2 p q sz sz' wh x f u w ht hc h0 h1 (by simpa using hm) hs1 hs2 (fun w hA => ?_) (fun w => ?_) hE.won).mono ?_
    · have := prove_any b (r.tr p sz) zeroStep 2 w hA rfl (by decide) (fun w' _ => check0 p r.ahead r.behind sz w' hz1 hz2)
      rw [show proveE (r.tr p sz) 2 = (r.prove 2).2 from ag.1, show proveT (r.tr p sz) 2 = r.tr p sz from if_neg (by simp)] at this
      exact this
    · have := rprove_any r 2 w
      rwa [ag.2] at this
    · rintro e w' ⟨he, h1, h2, h3⟩
      exact ⟨_, _, he, h1, h2, h3, hE, .inl rfl⟩
  · have ag := silence_agree r p sz
    have hE' := hE.silence.1
    rw [ag.2] at hE'
    refine (do_silence b c hbc r r.silence.1 r.silence.2 p q sz sz' wh x f u w ht hc h0 h1 (by simpa using hm) (fun w hA => ?_) (fun w => rsilence_any r w) hE'.won).mono ?_
    · have := silence_any b (r.tr p sz) w hA
      rwa [ag.1, ag.2] at this
    · rintro e w' ⟨he, h1, h2, h3⟩
      exact ⟨_, _, he, h1, h2, h3, hE', chg_silence r hE.won⟩
end Go.Proofs.YtahljceanodhkaaGreatDoor
