/- Package tree: New. (under way) -/
import Derived.Test.YtahljceanodhkaaGreatDoorPg
namespace Go.Proofs.YtahljceanodhkaaGreatDoor
open Go.RowKit
def lev (l : List Dg) (H v : Nat) : List Dg := (List.range (2 ^ (H - v))).map (nodeT l v)
def part (l : List Dg) (N v k : Nat) : List Dg := (List.range N).map fun j => if j < k then nodeT l v j else Dg.zero
theorem part_zero (l : List Dg) (N v : Nat) : part l N v 0 = List.replicate N Dg.zero := by
  simp [part, List.map_const']
theorem part_len (l : List Dg) (N v k : Nat) : (part l N v k).length = N := by simp [part]
theorem part_set (l : List Dg) (N v k : Nat) : (part l N v k).set k (nodeT l v k) = part l N v (k + 1) := by
  apply List.ext_getElem
  · simp [part]
  · intro j h1 h2
    simp [part] at h1 ⊢
    rw [List.getElem_set]
    by_cases e : k = j
    · subst e; simp
    · rw [if_neg e]
      simp
      by_cases q : j < k
      · rw [if_pos q, if_pos (by omega)]
      · rw [if_neg q, if_neg (by omega)]
theorem part_all (l : List Dg) (H v : Nat) : part l (2 ^ (H - v)) v (2 ^ (H - v)) = lev l H v := by
  apply List.ext_getElem
  · simp [part, lev]
  · intro j h1 h2
    simp [part] at h1
    simp [part, lev, h1]
theorem none_wrd : nodeT [] 0 0 = hNone := rfl
theorem own_kept {S : Nat → Prop} {w w' : World} {base : Nat} {E : TypeId} {sz : Nat} {v : Value} {n : Nat} {xs : List Value} (h : w.ownsRow base E sz v n xs) (hk : Kept S w w') (hs : ∀ g, v.ownBlock = some g → ¬ S g) : w'.ownsRow base E sz v n xs := by
  refine ⟨h.1, ?_⟩
  rcases h.2 with h1 | ⟨g, c, cur, hv, hg, hc, r⟩
  · exact .inl h1
  · refine .inr ⟨g, c, cur, hv, hg, ?_, r⟩
    rw [hk.block g (Array.getElem?_eq_some_iff.1 hc).1 (hs g (by rw [hv]; rfl))]
    exact hc
/-- a tree in memory, whose levels 0 to v are made -/
structure Lv (w : World) (base p cg cc : Nat) (f : Nat → Value) (G : Nat → Nat) (l : List Dg) (H v : Nat) : Prop where
  blk : TreeB w p f
  f0 : f 0 = .slice (some ⟨cg, 0, none⟩) l.length cc
  own : w.ownsRow base 30 8 (.slice (some ⟨cg, 0, none⟩) l.length cc) l.length (digs l)
  fl : ∀ u, u ≤ v → f (1 + u) = .slice (some ⟨G u, 0, none⟩) (2 ^ (H - u)) (2 ^ (H - u))
  lv : ∀ u, u ≤ v → Blk w (G u) 30 (digs (lev l H u)).toArray
  inj : ∀ u u', u ≤ v → u' ≤ v → G u = G u' → u = u'
  far : ∀ u, u ≤ v → base ≤ G u ∧ ¬ G u = p ∧ ¬ G u = cg
  bp : base ≤ p
  pc : ¬ p = cg
theorem Lv.ext {w w' : World} {base p cg cc : Nat} {f : Nat → Value} {G : Nat → Nat} {l : List Dg} {H v : Nat} (h : Lv w base p cg cc f G l H v) (hx : Ext w w') : Lv w' base p cg cc f G l H v :=
  ⟨h.blk.ext hx, h.f0, own_ext h.own hx, h.fl, fun u hu => Blk.ext (h.lv u hu) hx, h.inj, h.far, h.bp, h.pc⟩
theorem Lv.cgl {w : World} {base p cg cc : Nat} {f : Nat → Value} {G : Nat → Nat} {l : List Dg} {H v : Nat} (h : Lv w base p cg cc f G l H v) : cg < w.heap.size := (h.own.lt cg rfl).2
/-- the next level is made: the tree's block has its slice, its own block is new -/
theorem Lv.step {w w' : World} {base p cg cc : Nat} {f : Nat → Value} {G : Nat → Nat} {l : List Dg} {H v g : Nat} (h : Lv w base p cg cc f G l H v) (hb : base ≤ w.heap.size) (hg : w.heap.size ≤ g) (hk : Kept (· = p) w w')
    (hT : TreeB w' p (fun j => if j = 1 + (v + 1) then .slice (some ⟨g, 0, none⟩) (2 ^ (H - (v + 1))) (2 ^ (H - (v + 1))) else f j)) (hB : Blk w' g 30 (digs (lev l H (v + 1))).toArray) :
    ∃ f' G', Lv w' base p cg cc f' G' l H (v + 1) := by
  have hcg := h.cgl
  have hpl := h.blk.lt
  refine ⟨_, fun u => if u = v + 1 then g else G u, hT, ?_, own_kept h.own hk (fun x hx => ?_), fun u hu => ?_, fun u hu => ?_, fun u u' hu hu' e => ?_, fun u hu => ?_, h.bp, h.pc⟩
  · simp [show ¬ (0 = 1 + (v + 1)) by omega, h.f0]
  · have : cg = x := by simpa [Value.ownBlock] using hx
    have := h.pc
    omega
  · by_cases e : u = v + 1
    · subst e; simp
    · simp only [if_neg e, if_neg (show ¬ (1 + u = 1 + (v + 1)) by omega)]; exact h.fl u (by omega)
  · by_cases e : u = v + 1
    · subst e; simp only [if_true]; exact hB
    · simp only [if_neg e]
      exact Blk.kept (h.lv u (by omega)) hk (h.far u (by omega)).2.1
  · by_cases e1 : u = v + 1
    · by_cases e2 : u' = v + 1
      · omega
      · simp only [if_pos e1, if_neg e2] at e
        have := (h.lv u' (by omega)).lt
        omega
    · by_cases e2 : u' = v + 1
      · simp only [if_neg e1, if_pos e2] at e
        have := (h.lv u (by omega)).lt
        omega
      · simp only [if_neg e1, if_neg e2] at e
        exact h.inj u u' (by omega) (by omega) e
  · by_cases e : u = v + 1
    · simp only [if_pos e]; omega
    · simp only [if_neg e]; exact h.far u (by omega)
/-- a tree of leaves in memory -/
def TreeOK (w : World) (base p : Nat) (l : List Dg) : Prop := ∃ cg cc f G, Lv w base p cg cc f G l (hgt l.length) (hgt l.length)
theorem TreeOK.ext {w w' : World} {base p : Nat} {l : List Dg} (h : TreeOK w base p l) (hx : Ext w w') : TreeOK w' base p l := by
  obtain ⟨cg, cc, f, G, h⟩ := h
  exact ⟨cg, cc, f, G, h.ext hx⟩
theorem TreeOK.low {w : World} {base base' p : Nat} {l : List Dg} (h : TreeOK w base p l) (hb : base' ≤ base) : TreeOK w base' p l := by
  obtain ⟨cg, cc, f, G, h⟩ := h
  exact ⟨cg, cc, f, G, h.blk, h.f0, own_mono h.own hb, h.fl, h.lv, h.inj, fun u hu => ⟨Nat.le_trans hb (h.far u hu).1, (h.far u hu).2⟩, Nat.le_trans hb h.bp, h.pc⟩
theorem lev_getD (l : List Dg) (H v k : Nat) (hk : k < 2 ^ (H - v)) : (lev l H v).getD k Dg.zero = nodeT l v k := by simp [lev, hk]
theorem lev_len (l : List Dg) (H v : Nat) : (lev l H v).length = 2 ^ (H - v) := by simp [lev]
theorem lev_okD (l : List Dg) (H v : Nat) : ∀ d ∈ lev l H v, d.ok := by
  intro d hd
  simp [lev] at hd
  obtain ⟨k, _, rfl⟩ := hd
  exact nodeT_ok l v k
theorem lev_top (l : List Dg) (H : Nat) : lev l H H = [nodeT l H 0] := by simp [lev]
theorem pow_halfH (H v : Nat) (h : v < H) : 2 ^ (H - v) = 2 * 2 ^ (H - (v + 1)) := by rw [show H - v = H - (v + 1) + 1 by omega, Nat.pow_succ]; omega
end Go.Proofs.YtahljceanodhkaaGreatDoor
