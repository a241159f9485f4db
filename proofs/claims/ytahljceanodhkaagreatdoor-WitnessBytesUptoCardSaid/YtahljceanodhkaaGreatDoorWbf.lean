/- Several texts joined: Oh, Wu, Wv, Oi, Oj, Ok, Ol, Om. -/
import Derived.Test.YtahljceanodhkaaGreatDoorWbe
/- The document's reader: readWords. -/
namespace Go.Proofs.YtahljceanodhkaaGreatDoor
open Go.RowKit
/-- behind the two numbers of a word -/
def rdJ (l : List Int) (p : Nat) (e : Int) : Nat × Int := (rdA l allN (rdA l allN p e) (rdE l allN p e), rdE l allN (rdA l allN p e) (rdE l allN p e))
/-- what a word's second number is -/
def rdI (l : List Int) (p : Nat) (e : Int) : Int := rdU l (rdA l allN p e) (rdE l allN p e)
def rdF (l : List Int) (p : Nat) (e : Int) : Int := if (rdJ l p e).2 = 0 ∧ i32B (rdI l p e) = false then 2 else (rdJ l p e).2
/-- a word, as it is read -/
def rdW (l : List Int) (p : Nat) (e : Int) : Nat × Int × Wl :=
  ((rdP l (rdJ l p e).1 (rdF l p e)).1, (rdP l (rdJ l p e).1 (rdF l p e)).2.1, ⟨rdU l p e, wrap32 (rdI l p e), (rdP l (rdJ l p e).1 (rdF l p e)).2.2⟩)
def wrdK (l : List Int) (p0 : Nat) (e0 : Int) : Nat → Nat × Int × List Wl
  | 0 => (p0, e0, [])
  | k + 1 => if (wrdK l p0 e0 k).2.1 = 0 then ((rdW l (wrdK l p0 e0 k).1 0).1, (rdW l (wrdK l p0 e0 k).1 0).2.1, (wrdK l p0 e0 k).2.2 ++ [(rdW l (wrdK l p0 e0 k).1 0).2.2]) else wrdK l p0 e0 k
theorem wrdK_stay {l : List Int} {a : Nat} {e : Int} {k : Nat} (h : ¬ (wrdK l a e k).2.1 = 0) : ∀ j, wrdK l a e (k + j) = wrdK l a e k
  | 0 => rfl
  | j + 1 => by
    have ih := wrdK_stay h j
    show (if (wrdK l a e (k + j)).2.1 = 0 then _ else wrdK l a e (k + j)) = _
    rw [ih, if_neg h]
theorem rdP_le {l : List Int} {a : Nat} (e : Int) (h : a ≤ l.length) : (rdP l a e).1 ≤ l.length := pthK_le (rdA_le _ _ _ _ h) _
theorem rdJ_le {l : List Int} {a : Nat} (e : Int) (h : a ≤ l.length) : (rdJ l a e).1 ≤ l.length := rdA_le _ _ _ _ (rdA_le _ _ _ _ h)
theorem rdW_le {l : List Int} {a : Nat} (e : Int) (h : a ≤ l.length) : (rdW l a e).1 ≤ l.length := rdP_le _ (rdJ_le _ h)
theorem wrdK_le {l : List Int} {a : Nat} {e : Int} (h : a ≤ l.length) : ∀ k, (wrdK l a e k).1 ≤ l.length
  | 0 => h
  | k + 1 => by
    have ih := wrdK_le h (e := e) k
    show (if (wrdK l a e k).2.1 = 0 then _ else wrdK l a e k).1 ≤ _
    split
    · exact rdW_le _ ih
    · exact ih
/-- words, as they are read -/
def rdWs (l : List Int) (most : Int) (at_ : Nat) (err : Int) : Nat × Int × List Wl := wrdK l (rdA l most at_ err) (rdE l most at_ err) (rdV l most at_ err).toNat
set_option maxRecDepth 100000 in
set_option maxHeartbeats 2000000 in
theorem rwords_any (A : Option Addr) (n cap : Nat) (l : List Int) (at_ : Nat) (err most : Int) (hm0 : 0 ≤ most) (hm : most ≤ 100) (N : Nat) (w : World) (hN : N ≤ w.heap.size) (h : BSl w N A n cap l) (hat : at_ ≤ n) :
    Calls Tryz.prog 118 #[.agg (rdC A n cap at_ err), .int .u64 most] w fun e w' => ∃ v ds, e = .returned (.tuple #[.agg (rdC A n cap (rdWs l most at_ err).1 (rdWs l most at_ err).2.1), v]) ∧ w'.ownsRow w.heap.size 163 3 v (rdWs l most at_ err).2.2.length (wds ds) ∧ WsG 0 23 w' ds (rdWs l most at_ err).2.2 ∧ Ext w w' := by
  obtain ⟨E, hE⟩ : ∃ E, E = rdE l most at_ err := ⟨_, rfl⟩
  obtain ⟨P, hP⟩ : ∃ P, P = rdA l most at_ err := ⟨_, rfl⟩
  obtain ⟨V, hV⟩ : ∃ V : Nat, V = (rdV l most at_ err).toNat := ⟨_, rfl⟩
  obtain ⟨R, hR⟩ : ∃ R, R = rdWs l most at_ err := ⟨_, rfl⟩
  have hV1 : (V : Int) = rdV l most at_ err := by
    have := (rdV_bd h.2.2.2.1 most at_ err).1
    omega
  have HV12 := Lib.hid (show V ≤ 100 by have := rdV_most (l := l) hm0 at_ err; omega)
  have HPN := Lib.hid (show P ≤ l.length by rw [hP]; exact rdA_le _ _ _ _ (by have := h.1; omega))
  have HRR := Lib.hid (show R = wrdK l P E V by rw [hR, hE, hV, hP]; rfl)
  rw [← hR]
  have HE := Lib.hid hE
  have HP := Lib.hid hP
  have HV := Lib.hid hV1
  clear hE hP hV hV1 hR
  have HL := Lib.hid h.1
  have HOK := Lib.hid h.2.2.2.1
  have x1 := ((Kept.refl (fun _ => False) w).alloc (.cells (rdC A n cap at_ err) 180)).alloc (.cells #[.slice none 0 0, .int .i64 0, .int .i64 0] 180)
  have hB := (Blk.new w 180 (rdC A n cap at_ err)).alloc (.cells #[.slice none 0 0, .int .i64 0, .int .i64 0] 180)
  have hD := Blk.new' (w.alloc (.cells (rdC A n cap at_ err) 180)) 180 #[.slice none 0 0, .int .i64 0, .int .i64 0] (w.heap.size + 1) (by simp)
  go_enter Tryz.func118, Tryz.ntmps118
  go_upto_region 1 with (fail)
  generalize hW : ((w.alloc (.cells (rdC A n cap at_ err) 180)).alloc (.cells #[.slice none 0 0, .int .i64 0, .int .i64 0] 180)) = W at x1 hB hD ⊢
  clear hW
  have HX := Lib.hid x1
  have HB := Lib.hid hB
  have HD := Lib.hid hD
  have HS := Lib.hid (h.ext x1)
  have HN := Lib.hid (Nat.le_trans hN x1.size)
  have HNW := Lib.hid hN
  have HSW := Lib.hid h
  obtain ⟨rb, hrb⟩ : ∃ rb, rb = w.heap.size + 1 := ⟨_, rfl⟩
  rw [← hrb] at HD ⊢
  obtain ⟨pb, hpb⟩ : ∃ pb, pb = w.heap.size := ⟨_, rfl⟩
  rw [← hpb] at HB ⊢
  have HRB := Lib.hid (show w.heap.size ≤ rb ∧ w.heap.size ≤ pb ∧ ¬ rb = pb from ⟨by omega, by omega, by omega⟩)
  clear hrb hpb x1 hB hD h hN
  have hhB := Blk.has HB.out
  have hgB := Blk.gets HB.out
  have lB := HB.out.lt
  go_wp2_with fail
  refine (rread_any A n cap l at_ err most N W HN.out HS.out hat).mono ?_
  rintro e w1 ⟨rfl, hx1⟩
  rw [← HE.out, ← HP.out, ← HV.out]
  clear hhB hgB lB
  have hB1 := Blk.ext HB.out hx1
  have hmB := hB1.melts
  have hhB := Blk.has hB1
  have lB := hB1.lt
  go_upto_region 2 with (fail)
  clear hmB hhB lB
  have hk : Kept (· = pb) w1 (putAt w1 pb 0 (rdC A n cap P E)) := Kept.putAt (Kept.refl (· = pb) w1) pb 0 _ (fun _ => rfl)
  have hB2 : Blk (putAt w1 pb 0 (rdC A n cap P E)) pb 180 (rdC A n cap P E) := Blk.put_ hB1 0 _
  have hD2 := Blk.kept (Blk.ext HD.out hx1) hk HRB.out.2.2
  have HX2 := Lib.hid ((HX.out.trans hx1).trans' hk (fun i hi q => by have := HRB.out; omega))
  generalize (putAt w1 pb 0 (rdC A n cap P E)) = W2 at hk hB2 hD2 HX2 ⊢
  have HB2 := Lib.hid hB2
  have HD2 := Lib.hid hD2
  clear hk hB2 hD2 hB1 hx1
  go_upto_region 3 with (fail)
  have HX3 := Lib.hid (HX2.out.alloc (.cells #[] 163))
  have HR3 := Lib.hid (show Rw (W2.alloc (.cells #[] 163)) w.heap.size pb rb (.slice (some ⟨W2.heap.size, 0, none⟩) 0 0) 0 [] [] (rdC A n cap P E) from ⟨own_mono (own_new W2 163 3) HX2.out.size, .nil, Blk.alloc HB2.out (.cells #[] 163), Blk.alloc HD2.out (.cells #[] 163)⟩)
  generalize (W2.alloc (.cells #[] 163)) = W3 at HX3 HR3 ⊢
  generalize (W2 : World).heap.size = eb at HR3 ⊢
  go_wp2_with fail
  go_loopw [7, 8, 9, 10] (fun t7 t8 t9 t10 wr => ∃ (k : Nat) (ds : List Wd), k ≤ V ∧ t8 = .int .u64 k ∧ (wrdK l P E k).2.2.length = k ∧ Rw wr w.heap.size pb rb t7 k ds (wrdK l P E k).2.2 (rdC A n cap (wrdK l P E k).1 (wrdK l P E k).2.1) ∧ Ext w wr) (fun _ t8 _ _ _ => V - (intOf t8).toNat)
  case atStart => exact ⟨0, [], Nat.zero_le _, rfl, rfl, HR3.out, HX3.out⟩
  case round =>
    obtain ⟨k, ds, hk, rfl, hkl, hrw, hx⟩ := hrel
    have hnx : wrdK l P E (k + 1) = if (wrdK l P E k).2.1 = 0 then ((rdW l (wrdK l P E k).1 0).1, (rdW l (wrdK l P E k).1 0).2.1, (wrdK l P E k).2.2 ++ [(rdW l (wrdK l P E k).1 0).2.2]) else wrdK l P E k := rfl
    have hle := wrdK_le (e := E) HPN.out k
    have hst : ¬ (wrdK l P E k).2.1 = 0 → R = wrdK l P E k := fun q => by
      rw [HRR.out, ← wrdK_stay q (V - k)]
      congr 1
      omega
    have hen : k = V → R = wrdK l P E k := fun q => by rw [HRR.out, q]
    obtain ⟨⟨p, e, xs⟩, hq⟩ : ∃ q, q = wrdK l P E k := ⟨_, rfl⟩
    rw [← hq] at hkl hrw hnx hle hst hen
    simp only at hkl hrw hnx hle hst hen
    clear hq
    have HNX := Lib.hid hnx
    have HLE := Lib.hid hle
    have HST := Lib.hid hst
    have HEN := Lib.hid hen
    have HRW := Lib.hid hrw
    have HXX := Lib.hid hx
    have HKL := Lib.hid hkl
    clear hnx hle hst hen hrw hx hkl
    have cB := Blk.cell HRW.out.B
    have hhB := Blk.has HRW.out.B
    have hgB := Blk.gets HRW.out.B
    have lB := HRW.out.B.lt
    by_cases hlt : k < V
    · have hltI : (k : Int) < V := by omega
      by_cases he : e = 0
      · subst he
        go_upto_region 7 with (fail)
        clear cB hhB hgB lB
        have hx1 : Ext wr (wr.alloc (.cells #[.int .i64 0, .int .i32 0, .slice none 0 0] 163)) := (Kept.refl _ wr).alloc _
        have HWX := Lib.hid (Blk.new wr 163 #[.int .i64 0, .int .i32 0, .slice none 0 0])
        have HR1 := Lib.hid (HRW.out.ext hx1)
        have HX1 := Lib.hid (HXX.out.trans hx1)
        have hlb := HRW.out.B.lt
        have hlr := HRW.out.D.lt
        have hxs := HXX.out.size
        have hown : (u7 : Value).ownBlock ≠ some wr.heap.size := fun q => by have := (HRW.out.own.lt _ q).2; omega
        generalize (wr.alloc (.cells #[.int .i64 0, .int .i32 0, .slice none 0 0] 163)) = W1 at hx1 HWX HR1 HX1 ⊢
        obtain ⟨wb, hwb⟩ : ∃ wb, wb = wr.heap.size := ⟨_, rfl⟩
        rw [← hwb] at HWX hown ⊢
        have HOW := Lib.hid hown
        have HWB := Lib.hid (show ¬ wb = pb ∧ ¬ wb = rb ∧ w.heap.size ≤ wb from ⟨by omega, by omega, by omega⟩)
        clear hx1 hwb hlb hlr hxs hown
        have hhB := Blk.has HR1.out.B
        have hgB := Blk.gets HR1.out.B
        have lB := HR1.out.B.lt
        go_wp2_with fail
        refine (rnum22_any A n cap l p 0 N W1 (Nat.le_trans HNW.out HX1.out.size) (HSW.out.ext HX1.out) (by have := HLE.out; have := HL.out; omega)).mono ?_
        rintro e w2 ⟨rfl, hx2⟩
        obtain ⟨E1, hE1⟩ : ∃ e, e = rdE l allN p 0 := ⟨_, rfl⟩
        obtain ⟨P1, hP1⟩ : ∃ e, e = rdA l allN p 0 := ⟨_, rfl⟩
        obtain ⟨U1, hU1⟩ : ∃ e, e = rdU l p 0 := ⟨_, rfl⟩
        rw [← hE1, ← hP1, ← hU1]
        have HP1N := Lib.hid (show P1 ≤ l.length by rw [hP1]; exact rdA_le _ _ _ _ HLE.out)
        have HE1 := Lib.hid hE1
        have HP1 := Lib.hid hP1
        have HU1 := Lib.hid hU1
        clear hE1 hP1 hU1 hhB hgB lB
        have r2 := HR1.out.ext hx2
        have HX2' := Lib.hid (HX1.out.trans hx2)
        have hWX2 := Blk.ext HWX.out hx2
        have hmB := r2.B.melts
        have hhB := Blk.has r2.B
        have lB := r2.B.lt
        have hk2 : Kept (· = pb) w2 (putAt w2 pb 0 (rdC A n cap P1 E1)) := Kept.putAt (Kept.refl (· = pb) w2) pb 0 _ (fun _ => rfl)
        have hWX3 := Blk.kept hWX2 hk2 HWB.out.1
        have cW := Blk.cell hWX3
        have fW := Blk.frozen hWX3
        have lW := hWX3.lt
        go_upto_region 9 with (fail)
        clear hmB hhB lB cW fW lW
        have hk3 : Kept (· = wb) (putAt w2 pb 0 (rdC A n cap P1 E1)) ((putAt w2 pb 0 (rdC A n cap P1 E1)).setCell ⟨wb, 0, none⟩ (.int .i64 U1)) := (Kept.refl _ _).setCell _ _ (fun _ => rfl)
        have r3 := (r2.put (rdC A n cap P1 E1) rfl HRB.out.2.2).kept hk3 HOW.out HWB.out.1 HWB.out.2.1 (step_not hWX3 (by decide))
        have hWX4 := (Blk.set_ hWX3 0 (.int .i64 U1) : Blk _ wb 163 #[.int .i64 U1, .int .i32 0, .slice none 0 0])
        have hX4 := (HX2'.out.trans' hk2 (fun i hi q => by have := HRB.out; omega)).trans' hk3 (fun i hi q => by have := HWB.out; omega)
        generalize ((putAt w2 pb 0 (rdC A n cap P1 E1)).setCell ⟨wb, 0, none⟩ (.int .i64 U1)) = W4 at hk3 r3 hWX4 hX4 ⊢
        clear hk2 hk3 hWX3 hWX2 r2 hx2
        have HR4 := Lib.hid r3
        have HW4 := Lib.hid hWX4
        have HX4 := Lib.hid hX4
        clear r3 hWX4 hX4
        have hhB := Blk.has HR4.out.B
        have hgB := Blk.gets HR4.out.B
        have lB := HR4.out.B.lt
        go_wp2_with fail
        refine (rnum22_any A n cap l P1 E1 N W4 (Nat.le_trans HNW.out HX4.out.size) (HSW.out.ext HX4.out) (by have := HP1N.out; have := HL.out; omega)).mono ?_
        rintro e w5 ⟨rfl, hx5⟩
        obtain ⟨E2, hE2⟩ : ∃ e, e = rdE l allN P1 E1 := ⟨_, rfl⟩
        obtain ⟨P2, hP2⟩ : ∃ e, e = rdA l allN P1 E1 := ⟨_, rfl⟩
        obtain ⟨U2, hU2⟩ : ∃ e, e = rdU l P1 E1 := ⟨_, rfl⟩
        rw [← hE2, ← hP2, ← hU2]
        have HP2N := Lib.hid (show P2 ≤ l.length by rw [hP2]; exact rdA_le _ _ _ _ HP1N.out)
        have HJ := Lib.hid (show rdJ l p 0 = (P2, E2) by rw [hP2, hE2, HP1.out, HE1.out]; rfl)
        have HI := Lib.hid (show rdI l p 0 = U2 by rw [hU2, HP1.out, HE1.out]; rfl)
        clear hE2 hP2 hU2 hhB hgB lB
        have r5 := HR4.out.ext hx5
        have hmB := r5.B.melts
        have hhB := Blk.has r5.B
        have lB := r5.B.lt
        go_upto_region 10 with (fail)
        clear hmB hhB lB
        have hk6 : Kept (· = pb) w5 (putAt w5 pb 0 (rdC A n cap P2 E2)) := Kept.putAt (Kept.refl (· = pb) w5) pb 0 _ (fun _ => rfl)
        have r6 := r5.put (rdC A n cap P2 E2) rfl HRB.out.2.2
        have hWX6 := Blk.kept (Blk.ext HW4.out hx5) hk6 HWB.out.1
        have hX6 := (HX4.out.trans hx5).trans' hk6 (fun i hi q => by have := HRB.out; omega)
        generalize (putAt w5 pb 0 (rdC A n cap P2 E2)) = W6 at hk6 r6 hWX6 hX6 ⊢
        have HR6 := Lib.hid r6
        have HW6 := Lib.hid hWX6
        have HX6 := Lib.hid hX6
        clear r6 hWX6 hX6 hk6 r5 hx5
        have cB := Blk.cell HR6.out.B
        have lB := HR6.out.B.lt
        have hhB := Blk.has HR6.out.B
        have hgB := Blk.gets HR6.out.B
        by_cases he2 : E2 = 0
        · subst he2
          go_wp2_with fail
          refine (rnumber_any U2 _).mono ?_
          rintro e w7 ⟨rfl, rfl⟩
          by_cases hi : i32B U2 = true
          · have HF := Lib.hid (show rdF l p 0 = 0 by unfold rdF; rw [HJ.out, HI.out, hi]; simp)
            rw [hi]
            go_upto_region 12 with (fail)
            try clear cB
            try clear hhB
            try clear hgB
            try clear lB
            obtain ⟨F, hFq⟩ : ∃ F, F = rdF l p 0 := ⟨_, rfl⟩
            have HRT := Lib.hid (show Rw W6 w.heap.size pb rb u7 k ds xs (rdC A n cap P2 F) by rw [hFq, HF.out]; exact HR6.out)
            obtain ⟨Q, hQ⟩ : ∃ Q, Q = rdP l P2 F := ⟨_, rfl⟩
            have HQ := Lib.hid (show rdW l p 0 = (Q.1, Q.2.1, ⟨U1, wrap32 U2, Q.2.2⟩) by unfold rdW; rw [hQ, hFq, HJ.out, HI.out, HU1.out])
            clear hFq
            have HQQ := Lib.hid hQ
            clear hQ
            have cW := Blk.cell HW6.out
            have fW := Blk.frozen HW6.out
            have lW := HW6.out.lt
            go_upto_region 13 with (fail)
            clear cW fW lW
            have hk7 : Kept (· = wb) W6 (W6.setCell ⟨wb, 1, none⟩ (.int .i32 (wrap32 U2))) := (Kept.refl _ _).setCell _ _ (fun _ => rfl)
            have r7 := HRT.out.kept hk7 HOW.out HWB.out.1 HWB.out.2.1 (step_not HW6.out (by decide))
            have hWX7 := (Blk.set_ HW6.out 1 (.int .i32 (wrap32 U2)) : Blk _ wb 163 #[.int .i64 U1, .int .i32 (wrap32 U2), .slice none 0 0])
            have hX7 := HX6.out.trans' hk7 (fun i hi q => by have := HWB.out; omega)
            generalize (W6.setCell ⟨wb, 1, none⟩ (.int .i32 (wrap32 U2))) = W7 at hk7 r7 hWX7 hX7 ⊢
            have HR7 := Lib.hid r7
            have HW7 := Lib.hid hWX7
            have HX7 := Lib.hid hX7
            clear hk7 r7 hWX7 hX7
            have hhB := Blk.has HR7.out.B
            have hgB := Blk.gets HR7.out.B
            have lB := HR7.out.B.lt
            go_wp2_with fail
            refine (rpath_any A n cap l P2 F N W7 (Nat.le_trans HNW.out HX7.out.size) (HSW.out.ext HX7.out) (by have := HP2N.out; have := HL.out; omega)).mono ?_
            rintro e w8 ⟨v8, rfl, ho8, hx8⟩
            rw [← HQQ.out]
            rw [← HQQ.out] at ho8
            clear hhB hgB lB
            obtain ⟨A5, c5, rfl, hp8⟩ := PG.of_own (N := 0) ho8
            have HP8 := Lib.hid hp8
            clear ho8 hp8
            have r8 := HR7.out.ext hx8
            have hWX8 := Blk.ext HW7.out hx8
            have hmB := r8.B.melts
            have hhB := Blk.has r8.B
            have lB := r8.B.lt
            have hk9 : Kept (· = pb) w8 (putAt w8 pb 0 (rdC A n cap Q.1 Q.2.1)) := Kept.putAt (Kept.refl (· = pb) w8) pb 0 _ (fun _ => rfl)
            have hWX9 := Blk.kept hWX8 hk9 HWB.out.1
            have cW := Blk.cell hWX9
            have fW := Blk.frozen hWX9
            have lW := hWX9.lt
            go_upto_region 14 with (fail)
            clear hmB hhB lB cW fW lW
            have hk10 : Kept (· = wb) (putAt w8 pb 0 (rdC A n cap Q.1 Q.2.1)) ((putAt w8 pb 0 (rdC A n cap Q.1 Q.2.1)).setCell ⟨wb, 2, none⟩ (.slice A5 Q.2.2.length c5)) := (Kept.refl _ _).setCell _ _ (fun _ => rfl)
            have r10 := (r8.put (rdC A n cap Q.1 Q.2.1) rfl HRB.out.2.2).kept hk10 HOW.out HWB.out.1 HWB.out.2.1 (step_not hWX9 (by decide))
            have hWX10 := (Blk.set_ hWX9 2 (.slice A5 Q.2.2.length c5) : Blk _ wb 163 #[.int .i64 U1, .int .i32 (wrap32 U2), .slice A5 Q.2.2.length c5])
            have hX10 := ((HX7.out.trans hx8).trans' hk9 (fun i hi q => by have := HRB.out; omega)).trans' hk10 (fun i hi q => by have := HWB.out; omega)
            have hp10 := (HP8.out.kept hk9 (fun i q => ⟨Nat.zero_le _, by subst q; exact step_not r8.B (by decide)⟩)).kept hk10 (fun i q => ⟨Nat.zero_le _, by subst q; exact step_not hWX9 (by decide)⟩)
            generalize ((putAt w8 pb 0 (rdC A n cap Q.1 Q.2.1)).setCell ⟨wb, 2, none⟩ (.slice A5 Q.2.2.length c5)) = W10 at hk10 r10 hWX10 hX10 hp10 ⊢
            clear hk9 hk10 hWX9 hWX8 r8 hx8
            have HR10 := Lib.hid r10
            have HX10 := Lib.hid hX10
            have HP10 := Lib.hid hp10
            clear r10 hX10 hp10
            obtain ⟨D, hD⟩ : ∃ D : Wd, D = ⟨U1, wrap32 U2, A5, Q.2.2.length, c5⟩ := ⟨_, rfl⟩
            have HDD := Lib.hid hD
            clear hD
            have hhW := Blk.has hWX10
            have hgW := Blk.gets hWX10
            have lW := hWX10.lt
            obtain ⟨v11, w11, hr11, ho11, hk11⟩ := appRW (W10.alloc (.cells #[.int .i64 U1, .int .i32 (wrap32 U2), .slice A5 Q.2.2.length c5] 163)) _ _ _ ds (HR10.out.own.alloc _) W10.heap.size 0 1 1 [⟨U1, wrap32 U2, A5, Q.2.2.length, c5⟩] rfl (by simpa [wds] using Row.of_blk (Blk.new W10 163 #[.int .i64 U1, .int .i32 (wrap32 U2), .slice A5 Q.2.2.length c5])) (by have := HV12.out; omega) (by have := HX10.out.size; simp; omega)
            have y11 : Ext W10 (W10.alloc (.cells #[.int .i64 U1, .int .i32 (wrap32 U2), .slice A5 Q.2.2.length c5] 163)) := (Kept.refl _ W10).alloc _
            have hoD : ∀ cur fr, ∀ i, (u7 : Value).ownBlock = some i → ¬ (W10.alloc (.cells #[.int .i64 U1, .int .i32 (wrap32 U2), .slice A5 Q.2.2.length c5] 163)).heap[i]? = some (.cells cur 23 fr) := fun cur fr i q => own_other (own_ext HR10.out.own y11) (E' := 23) (by decide) i q cur fr
            have hB11 := Blk.kept (Blk.ext HR10.out.B y11) hk11 (fun q => own_other (own_ext HR10.out.own y11) (E' := 180) (by decide) pb q _ _ (Blk.ext HR10.out.B y11))
            have hD11 := Blk.kept (Blk.ext HR10.out.D y11) hk11 (fun q => own_other (own_ext HR10.out.own y11) (E' := 180) (by decide) rb q _ _ (Blk.ext HR10.out.D y11))
            have hw11 := (HR10.out.wv.ext y11).kept hk11 (fun i q => ⟨Nat.zero_le _, fun cur fr => hoD cur fr i q⟩)
            have hp11 := (HP10.out.ext y11).kept hk11 (fun i q => ⟨Nat.zero_le _, fun cur fr => hoD cur fr i q⟩)
            have hX11 := (HX10.out.trans y11).trans' hk11 (fun i hi q => by have := (HR10.out.own.lt i q).1; omega)
            have HR11 := Lib.hid (show Rw w11 w.heap.size pb rb v11 (k + 1) (ds ++ [⟨U1, wrap32 U2, A5, Q.2.2.length, c5⟩]) (xs ++ [⟨U1, wrap32 U2, Q.2.2⟩]) (rdC A n cap Q.1 Q.2.1) from ⟨ho11, hw11.snoc ⟨rfl, rfl, hp11⟩, hB11, hD11⟩)
            have HX11 := Lib.hid hX11
            have HR11' := Lib.hid hr11
            clear hr11 ho11 hk11 hoD hB11 hD11 hw11 hp11 hX11 y11
            go_step
            iterate 3 (refine wpList_step (fun K hK => ?_); go_simp; (try go_bits); refine hK _ _ ?_; clear hK K)
            refine wpList_app rfl (.tmp 59) (.tmp 61) 90 rfl rfl rfl rfl HR11'.out ?_
            clear HR11' hhW hgW lW hWX10
            have hw1 : IntKind.u64.wrap ((k : Int) + 1) = (k : Int) + 1 := by have := HV12.out; rw [IntKind.wrap_u64]; omega
            go_wp2_with fail
            go_roundw
            case rel =>
              refine ⟨k + 1, ds ++ [⟨U1, wrap32 U2, A5, Q.2.2.length, c5⟩], hlt, by go_num, ?_, ?_, HX11.out⟩
              · rw [HNX.out, if_pos trivial]; simp [HKL.out]
              · rw [HNX.out, if_pos trivial, HQ.out]; exact HR11.out
            case measure => simp only [intOf]; omega
          · have hi' : i32B U2 = false := by simpa using hi
            have HF := Lib.hid (show rdF l p 0 = 2 by unfold rdF; rw [HJ.out, HI.out, hi', if_pos ⟨rfl, rfl⟩])
            rw [hi']
            go_wp2_with fail
            refine (rfail_any _ _ _ _ ⟨_, _, _, rfl⟩ _).mono ?_
            rintro e w7 ⟨rfl, hx7⟩
            clear cB hhB hgB lB
            have r7 := HR6.out.ext hx7
            have hmB := r7.B.melts
            have hhB := Blk.has r7.B
            have lB := r7.B.lt
            go_upto_region 12 with (fail)
            clear hmB hhB lB
            have hk8 : Kept (· = pb) w7 (putAt w7 pb 0 (rdC A n cap P2 2)) := Kept.putAt (Kept.refl (· = pb) w7) pb 0 _ (fun _ => rfl)
            have r8 := r7.put (rdC A n cap P2 2) rfl HRB.out.2.2
            have hWX8 := Blk.kept (Blk.ext HW6.out hx7) hk8 HWB.out.1
            have hX8 := (HX6.out.trans hx7).trans' hk8 (fun i hi q => by have := HRB.out; omega)
            clear HR6 HW6 HX6 r7 hx7
            generalize (putAt w7 pb 0 (rdC A n cap P2 2)) = W6 at hk8 r8 hWX8 hX8 ⊢
            have HR6 := Lib.hid r8
            have HW6 := Lib.hid hWX8
            have HX6 := Lib.hid hX8
            clear hk8 r8 hWX8 hX8
            try clear cB
            try clear hhB
            try clear hgB
            try clear lB
            obtain ⟨F, hFq⟩ : ∃ F, F = rdF l p 0 := ⟨_, rfl⟩
            have HRT := Lib.hid (show Rw W6 w.heap.size pb rb u7 k ds xs (rdC A n cap P2 F) by rw [hFq, HF.out]; exact HR6.out)
            obtain ⟨Q, hQ⟩ : ∃ Q, Q = rdP l P2 F := ⟨_, rfl⟩
            have HQ := Lib.hid (show rdW l p 0 = (Q.1, Q.2.1, ⟨U1, wrap32 U2, Q.2.2⟩) by unfold rdW; rw [hQ, hFq, HJ.out, HI.out, HU1.out])
            clear hFq
            have HQQ := Lib.hid hQ
            clear hQ
            have cW := Blk.cell HW6.out
            have fW := Blk.frozen HW6.out
            have lW := HW6.out.lt
            go_upto_region 13 with (fail)
            clear cW fW lW
            have hk7 : Kept (· = wb) W6 (W6.setCell ⟨wb, 1, none⟩ (.int .i32 (wrap32 U2))) := (Kept.refl _ _).setCell _ _ (fun _ => rfl)
            have r7 := HRT.out.kept hk7 HOW.out HWB.out.1 HWB.out.2.1 (step_not HW6.out (by decide))
            have hWX7 := (Blk.set_ HW6.out 1 (.int .i32 (wrap32 U2)) : Blk _ wb 163 #[.int .i64 U1, .int .i32 (wrap32 U2), .slice none 0 0])
            have hX7 := HX6.out.trans' hk7 (fun i hi q => by have := HWB.out; omega)
            generalize (W6.setCell ⟨wb, 1, none⟩ (.int .i32 (wrap32 U2))) = W7 at hk7 r7 hWX7 hX7 ⊢
            have HR7 := Lib.hid r7
            have HW7 := Lib.hid hWX7
            have HX7 := Lib.hid hX7
            clear hk7 r7 hWX7 hX7
            have hhB := Blk.has HR7.out.B
            have hgB := Blk.gets HR7.out.B
            have lB := HR7.out.B.lt
            go_wp2_with fail
            refine (rpath_any A n cap l P2 F N W7 (Nat.le_trans HNW.out HX7.out.size) (HSW.out.ext HX7.out) (by have := HP2N.out; have := HL.out; omega)).mono ?_
            rintro e w8 ⟨v8, rfl, ho8, hx8⟩
            rw [← HQQ.out]
            rw [← HQQ.out] at ho8
            clear hhB hgB lB
            obtain ⟨A5, c5, rfl, hp8⟩ := PG.of_own (N := 0) ho8
            have HP8 := Lib.hid hp8
            clear ho8 hp8
            have r8 := HR7.out.ext hx8
            have hWX8 := Blk.ext HW7.out hx8
            have hmB := r8.B.melts
            have hhB := Blk.has r8.B
            have lB := r8.B.lt
            have hk9 : Kept (· = pb) w8 (putAt w8 pb 0 (rdC A n cap Q.1 Q.2.1)) := Kept.putAt (Kept.refl (· = pb) w8) pb 0 _ (fun _ => rfl)
            have hWX9 := Blk.kept hWX8 hk9 HWB.out.1
            have cW := Blk.cell hWX9
            have fW := Blk.frozen hWX9
            have lW := hWX9.lt
            go_upto_region 14 with (fail)
            clear hmB hhB lB cW fW lW
            have hk10 : Kept (· = wb) (putAt w8 pb 0 (rdC A n cap Q.1 Q.2.1)) ((putAt w8 pb 0 (rdC A n cap Q.1 Q.2.1)).setCell ⟨wb, 2, none⟩ (.slice A5 Q.2.2.length c5)) := (Kept.refl _ _).setCell _ _ (fun _ => rfl)
            have r10 := (r8.put (rdC A n cap Q.1 Q.2.1) rfl HRB.out.2.2).kept hk10 HOW.out HWB.out.1 HWB.out.2.1 (step_not hWX9 (by decide))
            have hWX10 := (Blk.set_ hWX9 2 (.slice A5 Q.2.2.length c5) : Blk _ wb 163 #[.int .i64 U1, .int .i32 (wrap32 U2), .slice A5 Q.2.2.length c5])
            have hX10 := ((HX7.out.trans hx8).trans' hk9 (fun i hi q => by have := HRB.out; omega)).trans' hk10 (fun i hi q => by have := HWB.out; omega)
            have hp10 := (HP8.out.kept hk9 (fun i q => ⟨Nat.zero_le _, by subst q; exact step_not r8.B (by decide)⟩)).kept hk10 (fun i q => ⟨Nat.zero_le _, by subst q; exact step_not hWX9 (by decide)⟩)
            generalize ((putAt w8 pb 0 (rdC A n cap Q.1 Q.2.1)).setCell ⟨wb, 2, none⟩ (.slice A5 Q.2.2.length c5)) = W10 at hk10 r10 hWX10 hX10 hp10 ⊢
            clear hk9 hk10 hWX9 hWX8 r8 hx8
            have HR10 := Lib.hid r10
            have HX10 := Lib.hid hX10
            have HP10 := Lib.hid hp10
            clear r10 hX10 hp10
            obtain ⟨D, hD⟩ : ∃ D : Wd, D = ⟨U1, wrap32 U2, A5, Q.2.2.length, c5⟩ := ⟨_, rfl⟩
            have HDD := Lib.hid hD
            clear hD
            have hhW := Blk.has hWX10
            have hgW := Blk.gets hWX10
            have lW := hWX10.lt
            obtain ⟨v11, w11, hr11, ho11, hk11⟩ := appRW (W10.alloc (.cells #[.int .i64 U1, .int .i32 (wrap32 U2), .slice A5 Q.2.2.length c5] 163)) _ _ _ ds (HR10.out.own.alloc _) W10.heap.size 0 1 1 [⟨U1, wrap32 U2, A5, Q.2.2.length, c5⟩] rfl (by simpa [wds] using Row.of_blk (Blk.new W10 163 #[.int .i64 U1, .int .i32 (wrap32 U2), .slice A5 Q.2.2.length c5])) (by have := HV12.out; omega) (by have := HX10.out.size; simp; omega)
            have y11 : Ext W10 (W10.alloc (.cells #[.int .i64 U1, .int .i32 (wrap32 U2), .slice A5 Q.2.2.length c5] 163)) := (Kept.refl _ W10).alloc _
            have hoD : ∀ cur fr, ∀ i, (u7 : Value).ownBlock = some i → ¬ (W10.alloc (.cells #[.int .i64 U1, .int .i32 (wrap32 U2), .slice A5 Q.2.2.length c5] 163)).heap[i]? = some (.cells cur 23 fr) := fun cur fr i q => own_other (own_ext HR10.out.own y11) (E' := 23) (by decide) i q cur fr
            have hB11 := Blk.kept (Blk.ext HR10.out.B y11) hk11 (fun q => own_other (own_ext HR10.out.own y11) (E' := 180) (by decide) pb q _ _ (Blk.ext HR10.out.B y11))
            have hD11 := Blk.kept (Blk.ext HR10.out.D y11) hk11 (fun q => own_other (own_ext HR10.out.own y11) (E' := 180) (by decide) rb q _ _ (Blk.ext HR10.out.D y11))
            have hw11 := (HR10.out.wv.ext y11).kept hk11 (fun i q => ⟨Nat.zero_le _, fun cur fr => hoD cur fr i q⟩)
            have hp11 := (HP10.out.ext y11).kept hk11 (fun i q => ⟨Nat.zero_le _, fun cur fr => hoD cur fr i q⟩)
            have hX11 := (HX10.out.trans y11).trans' hk11 (fun i hi q => by have := (HR10.out.own.lt i q).1; omega)
            have HR11 := Lib.hid (show Rw w11 w.heap.size pb rb v11 (k + 1) (ds ++ [⟨U1, wrap32 U2, A5, Q.2.2.length, c5⟩]) (xs ++ [⟨U1, wrap32 U2, Q.2.2⟩]) (rdC A n cap Q.1 Q.2.1) from ⟨ho11, hw11.snoc ⟨rfl, rfl, hp11⟩, hB11, hD11⟩)
            have HX11 := Lib.hid hX11
            have HR11' := Lib.hid hr11
            clear hr11 ho11 hk11 hoD hB11 hD11 hw11 hp11 hX11 y11
            go_step
            iterate 3 (refine wpList_step (fun K hK => ?_); go_simp; (try go_bits); refine hK _ _ ?_; clear hK K)
            refine wpList_app rfl (.tmp 59) (.tmp 61) 90 rfl rfl rfl rfl HR11'.out ?_
            clear HR11' hhW hgW lW hWX10
            have hw1 : IntKind.u64.wrap ((k : Int) + 1) = (k : Int) + 1 := by have := HV12.out; rw [IntKind.wrap_u64]; omega
            go_wp2_with fail
            go_roundw
            case rel =>
              refine ⟨k + 1, ds ++ [⟨U1, wrap32 U2, A5, Q.2.2.length, c5⟩], hlt, by go_num, ?_, ?_, HX11.out⟩
              · rw [HNX.out, if_pos trivial]; simp [HKL.out]
              · rw [HNX.out, if_pos trivial, HQ.out]; exact HR11.out
            case measure => simp only [intOf]; omega
        · have hb2 : (E2 == 0) = false := by simp [he2]
          have HF := Lib.hid (show rdF l p 0 = E2 by unfold rdF; rw [HJ.out, HI.out]; exact if_neg (fun q => he2 q.1))
          clear he2
          go_upto_region 12 with (fail)
          try clear cB
          try clear hhB
          try clear hgB
          try clear lB
          obtain ⟨F, hFq⟩ : ∃ F, F = rdF l p 0 := ⟨_, rfl⟩
          have HRT := Lib.hid (show Rw W6 w.heap.size pb rb u7 k ds xs (rdC A n cap P2 F) by rw [hFq, HF.out]; exact HR6.out)
          obtain ⟨Q, hQ⟩ : ∃ Q, Q = rdP l P2 F := ⟨_, rfl⟩
          have HQ := Lib.hid (show rdW l p 0 = (Q.1, Q.2.1, ⟨U1, wrap32 U2, Q.2.2⟩) by unfold rdW; rw [hQ, hFq, HJ.out, HI.out, HU1.out])
          clear hFq
          have HQQ := Lib.hid hQ
          clear hQ
          have cW := Blk.cell HW6.out
          have fW := Blk.frozen HW6.out
          have lW := HW6.out.lt
          go_upto_region 13 with (fail)
          clear cW fW lW
          have hk7 : Kept (· = wb) W6 (W6.setCell ⟨wb, 1, none⟩ (.int .i32 (wrap32 U2))) := (Kept.refl _ _).setCell _ _ (fun _ => rfl)
          have r7 := HRT.out.kept hk7 HOW.out HWB.out.1 HWB.out.2.1 (step_not HW6.out (by decide))
          have hWX7 := (Blk.set_ HW6.out 1 (.int .i32 (wrap32 U2)) : Blk _ wb 163 #[.int .i64 U1, .int .i32 (wrap32 U2), .slice none 0 0])
          have hX7 := HX6.out.trans' hk7 (fun i hi q => by have := HWB.out; omega)
          generalize (W6.setCell ⟨wb, 1, none⟩ (.int .i32 (wrap32 U2))) = W7 at hk7 r7 hWX7 hX7 ⊢
          have HR7 := Lib.hid r7
          have HW7 := Lib.hid hWX7
          have HX7 := Lib.hid hX7
          clear hk7 r7 hWX7 hX7
          have hhB := Blk.has HR7.out.B
          have hgB := Blk.gets HR7.out.B
          have lB := HR7.out.B.lt
          go_wp2_with fail
          refine (rpath_any A n cap l P2 F N W7 (Nat.le_trans HNW.out HX7.out.size) (HSW.out.ext HX7.out) (by have := HP2N.out; have := HL.out; omega)).mono ?_
          rintro e w8 ⟨v8, rfl, ho8, hx8⟩
          rw [← HQQ.out]
          rw [← HQQ.out] at ho8
          clear hhB hgB lB
          obtain ⟨A5, c5, rfl, hp8⟩ := PG.of_own (N := 0) ho8
          have HP8 := Lib.hid hp8
          clear ho8 hp8
          have r8 := HR7.out.ext hx8
          have hWX8 := Blk.ext HW7.out hx8
          have hmB := r8.B.melts
          have hhB := Blk.has r8.B
          have lB := r8.B.lt
          have hk9 : Kept (· = pb) w8 (putAt w8 pb 0 (rdC A n cap Q.1 Q.2.1)) := Kept.putAt (Kept.refl (· = pb) w8) pb 0 _ (fun _ => rfl)
          have hWX9 := Blk.kept hWX8 hk9 HWB.out.1
          have cW := Blk.cell hWX9
          have fW := Blk.frozen hWX9
          have lW := hWX9.lt
          go_upto_region 14 with (fail)
          clear hmB hhB lB cW fW lW
          have hk10 : Kept (· = wb) (putAt w8 pb 0 (rdC A n cap Q.1 Q.2.1)) ((putAt w8 pb 0 (rdC A n cap Q.1 Q.2.1)).setCell ⟨wb, 2, none⟩ (.slice A5 Q.2.2.length c5)) := (Kept.refl _ _).setCell _ _ (fun _ => rfl)
          have r10 := (r8.put (rdC A n cap Q.1 Q.2.1) rfl HRB.out.2.2).kept hk10 HOW.out HWB.out.1 HWB.out.2.1 (step_not hWX9 (by decide))
          have hWX10 := (Blk.set_ hWX9 2 (.slice A5 Q.2.2.length c5) : Blk _ wb 163 #[.int .i64 U1, .int .i32 (wrap32 U2), .slice A5 Q.2.2.length c5])
          have hX10 := ((HX7.out.trans hx8).trans' hk9 (fun i hi q => by have := HRB.out; omega)).trans' hk10 (fun i hi q => by have := HWB.out; omega)
          have hp10 := (HP8.out.kept hk9 (fun i q => ⟨Nat.zero_le _, by subst q; exact step_not r8.B (by decide)⟩)).kept hk10 (fun i q => ⟨Nat.zero_le _, by subst q; exact step_not hWX9 (by decide)⟩)
          generalize ((putAt w8 pb 0 (rdC A n cap Q.1 Q.2.1)).setCell ⟨wb, 2, none⟩ (.slice A5 Q.2.2.length c5)) = W10 at hk10 r10 hWX10 hX10 hp10 ⊢
          clear hk9 hk10 hWX9 hWX8 r8 hx8
          have HR10 := Lib.hid r10
          have HX10 := Lib.hid hX10
          have HP10 := Lib.hid hp10
          clear r10 hX10 hp10
          obtain ⟨D, hD⟩ : ∃ D : Wd, D = ⟨U1, wrap32 U2, A5, Q.2.2.length, c5⟩ := ⟨_, rfl⟩
          have HDD := Lib.hid hD
          clear hD
          have hhW := Blk.has hWX10
          have hgW := Blk.gets hWX10
          have lW := hWX10.lt
          obtain ⟨v11, w11, hr11, ho11, hk11⟩ := appRW (W10.alloc (.cells #[.int .i64 U1, .int .i32 (wrap32 U2), .slice A5 Q.2.2.length c5] 163)) _ _ _ ds (HR10.out.own.alloc _) W10.heap.size 0 1 1 [⟨U1, wrap32 U2, A5, Q.2.2.length, c5⟩] rfl (by simpa [wds] using Row.of_blk (Blk.new W10 163 #[.int .i64 U1, .int .i32 (wrap32 U2), .slice A5 Q.2.2.length c5])) (by have := HV12.out; omega) (by have := HX10.out.size; simp; omega)
          have y11 : Ext W10 (W10.alloc (.cells #[.int .i64 U1, .int .i32 (wrap32 U2), .slice A5 Q.2.2.length c5] 163)) := (Kept.refl _ W10).alloc _
          have hoD : ∀ cur fr, ∀ i, (u7 : Value).ownBlock = some i → ¬ (W10.alloc (.cells #[.int .i64 U1, .int .i32 (wrap32 U2), .slice A5 Q.2.2.length c5] 163)).heap[i]? = some (.cells cur 23 fr) := fun cur fr i q => own_other (own_ext HR10.out.own y11) (E' := 23) (by decide) i q cur fr
          have hB11 := Blk.kept (Blk.ext HR10.out.B y11) hk11 (fun q => own_other (own_ext HR10.out.own y11) (E' := 180) (by decide) pb q _ _ (Blk.ext HR10.out.B y11))
          have hD11 := Blk.kept (Blk.ext HR10.out.D y11) hk11 (fun q => own_other (own_ext HR10.out.own y11) (E' := 180) (by decide) rb q _ _ (Blk.ext HR10.out.D y11))
          have hw11 := (HR10.out.wv.ext y11).kept hk11 (fun i q => ⟨Nat.zero_le _, fun cur fr => hoD cur fr i q⟩)
          have hp11 := (HP10.out.ext y11).kept hk11 (fun i q => ⟨Nat.zero_le _, fun cur fr => hoD cur fr i q⟩)
          have hX11 := (HX10.out.trans y11).trans' hk11 (fun i hi q => by have := (HR10.out.own.lt i q).1; omega)
          have HR11 := Lib.hid (show Rw w11 w.heap.size pb rb v11 (k + 1) (ds ++ [⟨U1, wrap32 U2, A5, Q.2.2.length, c5⟩]) (xs ++ [⟨U1, wrap32 U2, Q.2.2⟩]) (rdC A n cap Q.1 Q.2.1) from ⟨ho11, hw11.snoc ⟨rfl, rfl, hp11⟩, hB11, hD11⟩)
          have HX11 := Lib.hid hX11
          have HR11' := Lib.hid hr11
          clear hr11 ho11 hk11 hoD hB11 hD11 hw11 hp11 hX11 y11
          go_step
          iterate 3 (refine wpList_step (fun K hK => ?_); go_simp; (try go_bits); refine hK _ _ ?_; clear hK K)
          refine wpList_app rfl (.tmp 59) (.tmp 61) 90 rfl rfl rfl rfl HR11'.out ?_
          clear HR11' hhW hgW lW hWX10
          have hw1 : IntKind.u64.wrap ((k : Int) + 1) = (k : Int) + 1 := by have := HV12.out; rw [IntKind.wrap_u64]; omega
          go_wp2_with fail
          go_roundw
          case rel =>
            refine ⟨k + 1, ds ++ [⟨U1, wrap32 U2, A5, Q.2.2.length, c5⟩], hlt, by go_num, ?_, ?_, HX11.out⟩
            · rw [HNX.out, if_pos trivial]; simp [HKL.out]
            · rw [HNX.out, if_pos trivial, HQ.out]; exact HR11.out
          case measure => simp only [intOf]; omega
      · have hb : (e == 0) = false := by simp [he]
        have HR := Lib.hid (HST.out he)
        clear he
        go_upto_region 15 with (fail)
        clear cB hhB hgB lB
        have hhB := Blk.has HRW.out.B
        have hgB := Blk.gets HRW.out.B
        have lB := HRW.out.B.lt
        have hmD := HRW.out.D.melts
        have hhD := Blk.has HRW.out.D
        have hlD := HRW.out.D.lt
        have hkr : Kept (· = rb) wr (putAt wr rb 0 (rdC A n cap p e)) := Kept.putAt (Kept.refl (· = rb) _) rb 0 _ (fun _ => rfl)
        have hor : (u7 : Value).ownBlock ≠ some rb := fun q => own_other HRW.out.own (E' := 180) (by decide) rb q _ _ HRW.out.D
        have HKR := Lib.hid hkr
        have HOR := Lib.hid hor
        have HTY := Lib.hid (step_not HRW.out.D (show ¬ 180 = 23 by decide))
        clear hkr hor
        go_wp2_with fail
        refine ret_ci Tryz.results118 rfl rfl aggRdR (by exact sizeRdR) (Blk.put_ HRW.out.D 0 _) ⟨u7, ?_, ds, ?_, ?_, ?_⟩
        · rw [HR.out]
          rfl
        · rw [HR.out, HKL.out]
          exact own_kept HRW.out.own HKR.out (fun g hg q => HOR.out (by rw [hg, q]))
        · rw [HR.out]
          exact HRW.out.wv.kept HKR.out (fun i q => ⟨Nat.zero_le _, by subst q; exact HTY.out⟩)
        · exact HXX.out.putAt _ _ _ (fun hlt => absurd hlt (by have := HRB.out; omega))
    · have hkV : k = V := by omega
      have HR := Lib.hid (HEN.out hkV)
      have hltI : ¬ (k : Int) < V := by omega
      clear hkV
      go_upto_region 15 with (fail)
      clear cB hhB hgB lB
      have hhB := Blk.has HRW.out.B
      have hgB := Blk.gets HRW.out.B
      have lB := HRW.out.B.lt
      have hmD := HRW.out.D.melts
      have hhD := Blk.has HRW.out.D
      have hlD := HRW.out.D.lt
      have hkr : Kept (· = rb) wr (putAt wr rb 0 (rdC A n cap p e)) := Kept.putAt (Kept.refl (· = rb) _) rb 0 _ (fun _ => rfl)
      have hor : (u7 : Value).ownBlock ≠ some rb := fun q => own_other HRW.out.own (E' := 180) (by decide) rb q _ _ HRW.out.D
      have HKR := Lib.hid hkr
      have HOR := Lib.hid hor
      have HTY := Lib.hid (step_not HRW.out.D (show ¬ 180 = 23 by decide))
      clear hkr hor
      go_wp2_with fail
      refine ret_ci Tryz.results118 rfl rfl aggRdR (by exact sizeRdR) (Blk.put_ HRW.out.D 0 _) ⟨u7, ?_, ds, ?_, ?_, ?_⟩
      · rw [HR.out]
        rfl
      · rw [HR.out, HKL.out]
        exact own_kept HRW.out.own HKR.out (fun g hg q => HOR.out (by rw [hg, q]))
      · rw [HR.out]
        exact HRW.out.wv.kept HKR.out (fun i q => ⟨Nat.zero_le _, by subst q; exact HTY.out⟩)
      · exact HXX.out.putAt _ _ _ (fun hlt => absurd hlt (by have := HRB.out; omega))
end Go.Proofs.YtahljceanodhkaaGreatDoor

/- What shows a step is small: the plain law. -/
namespace Go.Proofs.YtahljceanodhkaaGreatDoor
open Go.RowKit
/-- what is told of the words that are shown -/
structure WordOK (m : List Int) (x : Wl) : Prop where
  lo : 0 ≤ x.at_
  hi : x.at_ < m.length
  is_ : x.is_ = m.getD x.at_.toNat 0
  path : x.path.length = hgt m.length
  digs : ∀ d ∈ x.path, d.ok
theorem WordOK.i64 {m : List Int} {x : Wl} (h : WordOK m x) (hm : m.length ≤ 256) : i64ok x.at_ := by
  have := h.lo
  have := h.hi
  unfold i64ok
  omega
end Go.Proofs.YtahljceanodhkaaGreatDoor

/- The statement WitnessSmall: the walk. -/
namespace Go.Proofs.YtahljceanodhkaaGreatDoor
open Go.RowKit
theorem if_want {c : Bool} {p q : Prop} (hc : c = true) (h : p) : if c = true then p else q := by rw [if_pos hc]; exact h
def zeroS : Ws := ⟨0, 0, 0, Dg.zero, ⟨0, 0, 0, 0⟩, none, 0, 0, none, 0, 0, none, 0, 0⟩
theorem StepV.put {w : World} {s : Ws} {L : Sl} {p : Nat} {cs : Array Value} (h : StepV w s L) (hb : Blk w p 45 cs) (o : Nat) (vs : Array Value) : StepV (putAt w p o vs) s L := by
  have kf : Kept (· = p) w (putAt w p o vs) := Kept.putAt (Kept.refl _ w) p o vs (fun _ => rfl)
  exact ⟨h.pc, h.halt, h.words, h.mem, h.ins, h.path.kept kf (fun j hj => by subst hj; exact step_not hb (by decide)), h.reads.kept kf (fun j hj => by subst hj; exact step_not hb (by decide)) (fun j hj => by subst hj; exact step_not hb (by decide)), h.writes.kept kf (fun j hj => by subst hj; exact step_not hb (by decide)) (fun j hj => by subst hj; exact step_not hb (by decide))⟩
namespace witnessSmall
end witnessSmall
end Go.Proofs.YtahljceanodhkaaGreatDoor

/- The document's Decode. -/
namespace Go.Proofs.YtahljceanodhkaaGreatDoor
open Go.RowKit
/-- a step in memory: what it says -/
structure SV (N : Nat) (t tW : TypeId) (w : World) (s : Ws) (L : Sl) : Prop where
  pc : s.pc = L.pc
  halt : s.halt = L.halt
  words : s.words = L.words
  mem : s.mem = L.mem
  ins : s.ins = L.ins
  path : PG N t w s.pa s.pn L.path
  reads : SG N t tW w s.ra s.rn L.reads
  writes : SG N t tW w s.wa s.wn L.writes
theorem SV.ext {N : Nat} {t tW : TypeId} {w w' : World} {s : Ws} {L : Sl} (h : SV N t tW w s L) (hx : Ext w w') : SV N t tW w' s L :=
  ⟨h.pc, h.halt, h.words, h.mem, h.ins, h.path.ext hx, h.reads.ext hx, h.writes.ext hx⟩
theorem SV.kept {N : Nat} {t tW : TypeId} {S : Nat → Prop} {w w' : World} {s : Ws} {L : Sl} (h : SV N t tW w s L) (hx : Kept S w w') (hs : ∀ i, S i → N ≤ i ∧ ∀ cur fr, ¬ w.heap[i]? = some (.cells cur t fr)) (hs' : ∀ i, S i → ∀ cur fr, ¬ w.heap[i]? = some (.cells cur tW fr)) : SV N t tW w' s L :=
  ⟨h.pc, h.halt, h.words, h.mem, h.ins, h.path.kept hx hs, h.reads.kept hx hs hs', h.writes.kept hx hs hs'⟩
def dcN (l : List Int) (s : Nat × Int) : Nat × Int := (rdA l allN s.1 s.2, rdE l allN s.1 s.2)
def dcK (l : List Int) : Nat → Nat × Int | 0 => (0, 0) | k + 1 => dcN l (dcK l k)
def dcP (l : List Int) : Nat × Int × List Dg := rdP l (dcK l 8).1 (dcK l 8).2
def dcR (l : List Int) : Nat × Int × List Wl := rdWs l 3 (dcP l).1 (dcP l).2.1
def dcW (l : List Int) : Nat × Int × List Wl := rdWs l 1 (dcR l).1 (dcR l).2.1
def dcU (l : List Int) (k : Nat) : Int := rdU l (dcK l k).1 (dcK l k).2
/-- the step that bytes show, and what is wrong with them -/
def decS (l : List Int) : Sl := ⟨dcU l 0, dcU l 1, dcU l 2, dgN (rdV l allN (dcK l 3).1 (dcK l 3).2), ⟨dcU l 4, dcU l 5, dcU l 6, dcU l 7⟩, (dcP l).2.2, (dcR l).2.2, (dcW l).2.2⟩
def decE (l : List Int) : Int := if (dcW l).2.1 = 0 ∧ (dcW l).1 < l.length then 5 else (dcW l).2.1
theorem dcK_le (l : List Int) : ∀ k, (dcK l k).1 ≤ l.length
  | 0 => Nat.zero_le _
  | k + 1 => rdA_le _ _ _ _ (dcK_le l k)
theorem dcK_succ {l : List Int} {k p p' : Nat} {e e' : Int} (h : (p, e) = dcK l k) (h' : (p', e') = dcK l (k + 1)) : rdA l allN p e = p' ∧ rdE l allN p e = e' := by
  have q : dcK l (k + 1) = dcN l (dcK l k) := rfl
  rw [q, ← h] at h'
  injection h' with h1 h2
  exact ⟨h1.symm, h2.symm⟩
theorem dcU_of {l : List Int} {k p : Nat} {e : Int} (h : (p, e) = dcK l k) : rdU l p e = dcU l k := by unfold dcU; rw [← h]
theorem dcK_leq {l : List Int} {k p : Nat} {e : Int} (h : (p, e) = dcK l k) : p ≤ l.length := by
  have := dcK_le l k
  rw [← h] at this
  exact this
theorem rdWs_le {l : List Int} {most : Int} {a : Nat} (e : Int) (h : a ≤ l.length) : (rdWs l most a e).1 ≤ l.length := wrdK_le (rdA_le _ _ _ _ h) _
theorem dcP_le (l : List Int) : (dcP l).1 ≤ l.length := rdP_le _ (dcK_le l 8)
theorem dcR_le (l : List Int) : (dcR l).1 ≤ l.length := rdWs_le _ (dcP_le l)
/-- Decode's reader and step -/
structure Dc (w0 w : World) (ob sb rb : Nat) (A : Option Addr) (n cap : Nat) (p : Nat × Int) (cs : Array Value) : Prop where
  O : Blk w ob 92 zeroW
  S : Blk w sb 92 cs
  R : Blk w rb 180 (rdC A n cap p.1 p.2)
  x : Ext w0 w
theorem Dc.ext {w0 w w' : World} {ob sb rb : Nat} {A : Option Addr} {n cap : Nat} {p : Nat × Int} {cs : Array Value} (h : Dc w0 w ob sb rb A n cap p cs) (hx : Ext w w') : Dc w0 w' ob sb rb A n cap p cs :=
  ⟨Blk.ext h.O hx, Blk.ext h.S hx, Blk.ext h.R hx, h.x.trans hx⟩
theorem Dc.put {w0 w : World} {ob sb rb : Nat} {A : Option Addr} {n cap : Nat} {p : Nat × Int} {cs : Array Value} (h : Dc w0 w ob sb rb A n cap p cs) (q : Nat × Int) (h1 : ¬ ob = rb) (h2 : ¬ sb = rb) (h3 : w0.heap.size ≤ rb) : Dc w0 (putAt w rb 0 (rdC A n cap q.1 q.2)) ob sb rb A n cap q cs := by
  have hk : Kept (· = rb) w (putAt w rb 0 (rdC A n cap q.1 q.2)) := Kept.putAt (Kept.refl (· = rb) w) rb 0 _ (fun _ => rfl)
  exact ⟨Blk.kept h.O hk h1, Blk.kept h.S hk h2, Blk.put_ h.R 0 _, h.x.trans' hk (fun i hi e => by subst e; omega)⟩
theorem Dc.set {w0 w : World} {ob sb rb : Nat} {A : Option Addr} {n cap : Nat} {p : Nat × Int} {cs : Array Value} (h : Dc w0 w ob sb rb A n cap p cs) (i : Nat) (u : Value) (h1 : ¬ ob = sb) (h2 : ¬ sb = rb) (h3 : w0.heap.size ≤ sb) : Dc w0 (w.setCell ⟨sb, i, none⟩ u) ob sb rb A n cap p (cs.setIfInBounds i u) := by
  have hk : Kept (· = sb) w (w.setCell ⟨sb, i, none⟩ u) := (Kept.refl _ w).setCell _ _ (fun _ => rfl)
  exact ⟨Blk.kept h.O hk h1, Blk.set_ h.S i u, Blk.kept h.R hk (fun e => h2 e.symm), h.x.trans' hk (fun i hi e => by subst e; omega)⟩
theorem Dc.puts {w0 w : World} {ob sb rb : Nat} {A : Option Addr} {n cap : Nat} {p : Nat × Int} {cs : Array Value} (h : Dc w0 w ob sb rb A n cap p cs) (i : Nat) (vs : Array Value) (h1 : ¬ ob = sb) (h2 : ¬ sb = rb) (h3 : w0.heap.size ≤ sb) : Dc w0 (putAt w sb i vs) ob sb rb A n cap p (splice cs i vs) := by
  have hk : Kept (· = sb) w (putAt w sb i vs) := Kept.putAt (Kept.refl (· = sb) w) sb i _ (fun _ => rfl)
  exact ⟨Blk.kept h.O hk h1, Blk.put_ h.S i vs, Blk.kept h.R hk (fun e => h2 e.symm), h.x.trans' hk (fun i hi e => by subst e; omega)⟩
set_option maxRecDepth 100000 in
set_option maxHeartbeats 4000000 in
theorem rdecode_any (A : Option Addr) (n cap : Nat) (l : List Int) (N : Nat) (w : World) (hN : N ≤ w.heap.size) (h : BSl w N A n cap l) :
    Calls Tryz.prog 56 #[.slice A n cap] w fun e w' => ∃ s, e = .returned (.tuple #[.agg (Ws.cells s), .int .i64 (decE l)]) ∧ (decE l = 0 → SV 0 23 163 w' s (decS l)) ∧ (¬ decE l = 0 → s = zeroS) ∧ Ext w w' := by
  have HL := Lib.hid h.1
  have HS := Lib.hid h
  have HN := Lib.hid hN
  have HDP := Lib.hid (show ∀ l, dcP l = rdP l (dcK l 8).1 (dcK l 8).2 from fun _ => rfl)
  clear h hN
  obtain ⟨F, hF⟩ : ∃ F, F = decE l := ⟨_, rfl⟩
  rw [← hF]
  have HFF := Lib.hid hF
  clear hF
  go_enter Tryz.func56, Tryz.ntmps56
  go_upto_region 3 with (fail)
  have d0 : Dc w (((w.alloc (.cells zeroW 92)).alloc (.cells zeroW 92)).alloc (.cells (rdC A n cap 0 0) 180)) w.heap.size (w.heap.size + 1) (w.heap.size + 1 + 1) A n cap (0, 0) zeroW := ⟨Blk.alloc (Blk.alloc (Blk.new w _ _) _) _, Blk.alloc (Blk.new' (w.alloc (.cells zeroW 92)) _ _ _ (by simp)) _, Blk.new' ((w.alloc (.cells zeroW 92)).alloc (.cells zeroW 92)) _ _ _ (by simp), (((Kept.refl _ w).alloc _).alloc _).alloc _⟩
  have d0' : Dc w (((w.alloc (.cells #[.int .i64 0, .int .i64 0, .int .i64 0, .int .u8 0, .int .u8 0, .int .u8 0, .int .u8 0, .int .u8 0, .int .u8 0, .int .u8 0, .int .u8 0, .int .i64 0, .int .i64 0, .int .i64 0, .int .i64 0, .slice none 0 0, .slice none 0 0, .slice none 0 0] 92)).alloc (.cells #[.int .i64 0, .int .i64 0, .int .i64 0, .int .u8 0, .int .u8 0, .int .u8 0, .int .u8 0, .int .u8 0, .int .u8 0, .int .u8 0, .int .u8 0, .int .i64 0, .int .i64 0, .int .i64 0, .int .i64 0, .slice none 0 0, .slice none 0 0, .slice none 0 0] 92)).alloc (.cells #[.slice A n cap, .int .i64 0, .int .i64 0] 180)) w.heap.size (w.heap.size + 1) (w.heap.size + 1 + 1) A n cap (0, 0) zeroW := d0
  clear d0
  generalize (((w.alloc (.cells #[.int .i64 0, .int .i64 0, .int .i64 0, .int .u8 0, .int .u8 0, .int .u8 0, .int .u8 0, .int .u8 0, .int .u8 0, .int .u8 0, .int .u8 0, .int .i64 0, .int .i64 0, .int .i64 0, .int .i64 0, .slice none 0 0, .slice none 0 0, .slice none 0 0] 92)).alloc (.cells #[.int .i64 0, .int .i64 0, .int .i64 0, .int .u8 0, .int .u8 0, .int .u8 0, .int .u8 0, .int .u8 0, .int .u8 0, .int .u8 0, .int .u8 0, .int .i64 0, .int .i64 0, .int .i64 0, .int .i64 0, .slice none 0 0, .slice none 0 0, .slice none 0 0] 92)).alloc (.cells #[.slice A n cap, .int .i64 0, .int .i64 0] 180)) = W at d0' ⊢
  obtain ⟨rb, hrb⟩ : ∃ rb, rb = w.heap.size + 1 + 1 := ⟨_, rfl⟩
  rw [← hrb] at d0' ⊢
  obtain ⟨sb, hsb⟩ : ∃ sb, sb = w.heap.size + 1 := ⟨_, rfl⟩
  rw [← hsb] at d0' ⊢
  obtain ⟨ob, hob⟩ : ∃ ob, ob = w.heap.size := ⟨_, rfl⟩
  rw [← hob] at d0' ⊢
  have HNE := Lib.hid (show ¬ ob = rb ∧ ¬ sb = rb ∧ w.heap.size ≤ rb ∧ ¬ ob = sb ∧ w.heap.size ≤ sb ∧ w.heap.size ≤ ob from ⟨by omega, by omega, by omega, by omega, by omega, by omega⟩)
  clear hrb hsb hob
  have HD0 := Lib.hid (show Dc w W ob sb rb A n cap (0, 0) #[.int .i64 0, .int .i64 0, .int .i64 0, .int .u8 0, .int .u8 0, .int .u8 0, .int .u8 0, .int .u8 0, .int .u8 0, .int .u8 0, .int .u8 0, .int .i64 0, .int .i64 0, .int .i64 0, .int .i64 0, .slice none 0 0, .slice none 0 0, .slice none 0 0] from d0')
  clear d0'
  obtain ⟨p0, hp0⟩ : ∃ p : Nat, p = 0 := ⟨_, rfl⟩
  obtain ⟨e0, he0⟩ : ∃ e : Int, e = 0 := ⟨_, rfl⟩
  have HK0 := Lib.hid (show (p0, e0) = dcK l 0 by rw [hp0, he0]; rfl)
  replace HD0 := Lib.hid (show Dc w W ob sb rb A n cap (p0, e0) #[.int .i64 0, .int .i64 0, .int .i64 0, .int .u8 0, .int .u8 0, .int .u8 0, .int .u8 0, .int .u8 0, .int .u8 0, .int .u8 0, .int .u8 0, .int .i64 0, .int .i64 0, .int .i64 0, .int .i64 0, .slice none 0 0, .slice none 0 0, .slice none 0 0] by rw [hp0, he0]; exact HD0.out)
  clear hp0 he0
  have hhB := Blk.has HD0.out.R
  have hgB := Blk.gets HD0.out.R
  have lB := HD0.out.R.lt
  go_wp2_with fail
  refine (rnum22_any A n cap l p0 e0 N W (Nat.le_trans HN.out HD0.out.x.size) (HS.out.ext HD0.out.x) (by have := dcK_leq HK0.out; have := HL.out; omega)).mono ?_
  rintro e w2 ⟨rfl, hx⟩
  obtain ⟨⟨p1, e1⟩, hq⟩ : ∃ q, q = dcK l 1 := ⟨_, rfl⟩
  have HK1 := Lib.hid hq
  obtain ⟨U0, hU⟩ : ∃ u, u = dcU l 0 := ⟨_, rfl⟩
  have HU0 := Lib.hid hU
  rw [(dcK_succ HK0.out hq).1, (dcK_succ HK0.out hq).2, dcU_of HK0.out, ← hU]
  clear hq hU hhB hgB lB
  have d2 := HD0.out.ext hx
  have hmB := d2.R.melts
  have hhB := Blk.has d2.R
  have lB := d2.R.lt
  have d3 := d2.put (p1, e1) HNE.out.1 HNE.out.2.1 HNE.out.2.2.1
  have cS := Blk.cell d3.S
  have fS := Blk.frozen d3.S
  have lS := d3.S.lt
  go_upto_region 4 with (fail)
  clear hmB hhB lB cS fS lS
  have HD1 := Lib.hid (show Dc w ((putAt w2 rb 0 (rdC A n cap p1 e1)).setCell ⟨sb, 0, none⟩ (.int .i64 U0)) ob sb rb A n cap (p1, e1) #[.int .i64 U0, .int .i64 0, .int .i64 0, .int .u8 0, .int .u8 0, .int .u8 0, .int .u8 0, .int .u8 0, .int .u8 0, .int .u8 0, .int .u8 0, .int .i64 0, .int .i64 0, .int .i64 0, .int .i64 0, .slice none 0 0, .slice none 0 0, .slice none 0 0] from d3.set 0 (.int .i64 U0) HNE.out.2.2.2.1 HNE.out.2.1 HNE.out.2.2.2.2.1)
  clear d2 d3 hx HD0
  generalize ((putAt w2 rb 0 (rdC A n cap p1 e1)).setCell ⟨sb, 0, none⟩ (.int .i64 U0)) = W at HD1 ⊢
  have hhB := Blk.has HD1.out.R
  have hgB := Blk.gets HD1.out.R
  have lB := HD1.out.R.lt
  go_wp2_with fail
  refine (rnum22_any A n cap l p1 e1 N W (Nat.le_trans HN.out HD1.out.x.size) (HS.out.ext HD1.out.x) (by have := dcK_leq HK1.out; have := HL.out; omega)).mono ?_
  rintro e w2 ⟨rfl, hx⟩
  obtain ⟨⟨p2, e2⟩, hq⟩ : ∃ q, q = dcK l 2 := ⟨_, rfl⟩
  have HK2 := Lib.hid hq
  obtain ⟨U1, hU⟩ : ∃ u, u = dcU l 1 := ⟨_, rfl⟩
  have HU1 := Lib.hid hU
  rw [(dcK_succ HK1.out hq).1, (dcK_succ HK1.out hq).2, dcU_of HK1.out, ← hU]
  clear hq hU hhB hgB lB
  have d2 := HD1.out.ext hx
  have hmB := d2.R.melts
  have hhB := Blk.has d2.R
  have lB := d2.R.lt
  have d3 := d2.put (p2, e2) HNE.out.1 HNE.out.2.1 HNE.out.2.2.1
  have cS := Blk.cell d3.S
  have fS := Blk.frozen d3.S
  have lS := d3.S.lt
  go_upto_region 5 with (fail)
  clear hmB hhB lB cS fS lS
  have HD2 := Lib.hid (show Dc w ((putAt w2 rb 0 (rdC A n cap p2 e2)).setCell ⟨sb, 1, none⟩ (.int .i64 U1)) ob sb rb A n cap (p2, e2) #[.int .i64 U0, .int .i64 U1, .int .i64 0, .int .u8 0, .int .u8 0, .int .u8 0, .int .u8 0, .int .u8 0, .int .u8 0, .int .u8 0, .int .u8 0, .int .i64 0, .int .i64 0, .int .i64 0, .int .i64 0, .slice none 0 0, .slice none 0 0, .slice none 0 0] from d3.set 1 (.int .i64 U1) HNE.out.2.2.2.1 HNE.out.2.1 HNE.out.2.2.2.2.1)
  clear d2 d3 hx HD1
  generalize ((putAt w2 rb 0 (rdC A n cap p2 e2)).setCell ⟨sb, 1, none⟩ (.int .i64 U1)) = W at HD2 ⊢
  have hhB := Blk.has HD2.out.R
  have hgB := Blk.gets HD2.out.R
  have lB := HD2.out.R.lt
  go_wp2_with fail
  refine (rnum22_any A n cap l p2 e2 N W (Nat.le_trans HN.out HD2.out.x.size) (HS.out.ext HD2.out.x) (by have := dcK_leq HK2.out; have := HL.out; omega)).mono ?_
  rintro e w2 ⟨rfl, hx⟩
  obtain ⟨⟨p3, e3⟩, hq⟩ : ∃ q, q = dcK l 3 := ⟨_, rfl⟩
  have HK3 := Lib.hid hq
  obtain ⟨U2, hU⟩ : ∃ u, u = dcU l 2 := ⟨_, rfl⟩
  have HU2 := Lib.hid hU
  rw [(dcK_succ HK2.out hq).1, (dcK_succ HK2.out hq).2, dcU_of HK2.out, ← hU]
  clear hq hU hhB hgB lB
  have d2 := HD2.out.ext hx
  have hmB := d2.R.melts
  have hhB := Blk.has d2.R
  have lB := d2.R.lt
  have d3 := d2.put (p3, e3) HNE.out.1 HNE.out.2.1 HNE.out.2.2.1
  have cS := Blk.cell d3.S
  have fS := Blk.frozen d3.S
  have lS := d3.S.lt
  go_upto_region 7 with (fail)
  clear hmB hhB lB cS fS lS
  have HD3 := Lib.hid (show Dc w ((putAt w2 rb 0 (rdC A n cap p3 e3)).setCell ⟨sb, 2, none⟩ (.int .i64 U2)) ob sb rb A n cap (p3, e3) #[.int .i64 U0, .int .i64 U1, .int .i64 U2, .int .u8 0, .int .u8 0, .int .u8 0, .int .u8 0, .int .u8 0, .int .u8 0, .int .u8 0, .int .u8 0, .int .i64 0, .int .i64 0, .int .i64 0, .int .i64 0, .slice none 0 0, .slice none 0 0, .slice none 0 0] from d3.set 2 (.int .i64 U2) HNE.out.2.2.2.1 HNE.out.2.1 HNE.out.2.2.2.2.1)
  clear d2 d3 hx HD2
  generalize ((putAt w2 rb 0 (rdC A n cap p3 e3)).setCell ⟨sb, 2, none⟩ (.int .i64 U2)) = W at HD3 ⊢
  have hhB := Blk.has HD3.out.R
  have hgB := Blk.gets HD3.out.R
  have lB := HD3.out.R.lt
  go_wp2_with fail
  refine (rread_any A n cap l p3 e3 allN N W (Nat.le_trans HN.out HD3.out.x.size) (HS.out.ext HD3.out.x) (by have := dcK_leq HK3.out; have := HL.out; omega)).mono ?_
  rintro e w2 ⟨rfl, hx⟩
  obtain ⟨⟨p4, e4⟩, hq⟩ : ∃ q, q = dcK l 4 := ⟨_, rfl⟩
  have HK4 := Lib.hid hq
  obtain ⟨V, hV⟩ : ∃ u, u = rdV l allN p3 e3 := ⟨_, rfl⟩
  have HVB := Lib.hid (show 0 ≤ V ∧ V < 18446744073709551616 by rw [hV]; exact rdV_bd HS.out.2.2.2.1 _ _ _)
  rw [(dcK_succ HK3.out hq).1, (dcK_succ HK3.out hq).2, ← hV]
  have HV := Lib.hid hV
  clear hq hV hhB hgB lB
  have d2 := HD3.out.ext hx
  have hmB := d2.R.melts
  have hhB := Blk.has d2.R
  have lB := d2.R.lt
  have d3 := d2.put (p4, e4) HNE.out.1 HNE.out.2.1 HNE.out.2.2.1
  go_upto_region 8 with (fail)
  clear hmB hhB lB
  have HD4 := Lib.hid d3
  clear d2 d3 hx HD3
  generalize (putAt w2 rb 0 (rdC A n cap p4 e4)) = W at HD4 ⊢
  go_wp2_with fail
  refine (rfromnum_any V W HVB.out.1 HVB.out.2).mono ?_
  rintro e w2 ⟨rfl, hx⟩
  obtain ⟨M, hM⟩ : ∃ M, M = dgN V := ⟨_, rfl⟩
  rw [← hM]
  have HM := Lib.hid hM
  clear hM
  have d2 := HD4.out.ext hx
  have hmS := d2.S.melts
  have hhS := Blk.has d2.S
  have lS := d2.S.lt
  go_upto_region 9 with (fail)
  clear hmS hhS lS
  replace HD4 := Lib.hid (show Dc w (putAt w2 sb 3 M.cells) ob sb rb A n cap (p4, e4) #[.int .i64 U0, .int .i64 U1, .int .i64 U2, .int .u8 M.x0, .int .u8 M.x1, .int .u8 M.x2, .int .u8 M.x3, .int .u8 M.x4, .int .u8 M.x5, .int .u8 M.x6, .int .u8 M.x7, .int .i64 0, .int .i64 0, .int .i64 0, .int .i64 0, .slice none 0 0, .slice none 0 0, .slice none 0 0] from d2.puts 3 M.cells HNE.out.2.2.2.1 HNE.out.2.1 HNE.out.2.2.2.2.1)
  clear d2 hx
  generalize (putAt w2 sb 3 M.cells) = W at HD4 ⊢
  have hhB := Blk.has HD4.out.R
  have hgB := Blk.gets HD4.out.R
  have lB := HD4.out.R.lt
  go_wp2_with fail
  refine (rnum22_any A n cap l p4 e4 N W (Nat.le_trans HN.out HD4.out.x.size) (HS.out.ext HD4.out.x) (by have := dcK_leq HK4.out; have := HL.out; omega)).mono ?_
  rintro e w2 ⟨rfl, hx⟩
  obtain ⟨⟨p5, e5⟩, hq⟩ : ∃ q, q = dcK l 5 := ⟨_, rfl⟩
  have HK5 := Lib.hid hq
  obtain ⟨U4, hU⟩ : ∃ u, u = dcU l 4 := ⟨_, rfl⟩
  have HU4 := Lib.hid hU
  rw [(dcK_succ HK4.out hq).1, (dcK_succ HK4.out hq).2, dcU_of HK4.out, ← hU]
  clear hq hU hhB hgB lB
  have d2 := HD4.out.ext hx
  have hmB := d2.R.melts
  have hhB := Blk.has d2.R
  have lB := d2.R.lt
  have d3 := d2.put (p5, e5) HNE.out.1 HNE.out.2.1 HNE.out.2.2.1
  have cS := Blk.cell d3.S
  have fS := Blk.frozen d3.S
  have lS := d3.S.lt
  go_upto_region 10 with (fail)
  clear hmB hhB lB cS fS lS
  have HD5 := Lib.hid (show Dc w ((putAt w2 rb 0 (rdC A n cap p5 e5)).setCell ⟨sb, 11, none⟩ (.int .i64 U4)) ob sb rb A n cap (p5, e5) #[.int .i64 U0, .int .i64 U1, .int .i64 U2, .int .u8 M.x0, .int .u8 M.x1, .int .u8 M.x2, .int .u8 M.x3, .int .u8 M.x4, .int .u8 M.x5, .int .u8 M.x6, .int .u8 M.x7, .int .i64 U4, .int .i64 0, .int .i64 0, .int .i64 0, .slice none 0 0, .slice none 0 0, .slice none 0 0] from d3.set 11 (.int .i64 U4) HNE.out.2.2.2.1 HNE.out.2.1 HNE.out.2.2.2.2.1)
  clear d2 d3 hx HD4
  generalize ((putAt w2 rb 0 (rdC A n cap p5 e5)).setCell ⟨sb, 11, none⟩ (.int .i64 U4)) = W at HD5 ⊢
  have hhB := Blk.has HD5.out.R
  have hgB := Blk.gets HD5.out.R
  have lB := HD5.out.R.lt
  go_wp2_with fail
  refine (rnum22_any A n cap l p5 e5 N W (Nat.le_trans HN.out HD5.out.x.size) (HS.out.ext HD5.out.x) (by have := dcK_leq HK5.out; have := HL.out; omega)).mono ?_
  rintro e w2 ⟨rfl, hx⟩
  obtain ⟨⟨p6, e6⟩, hq⟩ : ∃ q, q = dcK l 6 := ⟨_, rfl⟩
  have HK6 := Lib.hid hq
  obtain ⟨U5, hU⟩ : ∃ u, u = dcU l 5 := ⟨_, rfl⟩
  have HU5 := Lib.hid hU
  rw [(dcK_succ HK5.out hq).1, (dcK_succ HK5.out hq).2, dcU_of HK5.out, ← hU]
  clear hq hU hhB hgB lB
  have d2 := HD5.out.ext hx
  have hmB := d2.R.melts
  have hhB := Blk.has d2.R
  have lB := d2.R.lt
  have d3 := d2.put (p6, e6) HNE.out.1 HNE.out.2.1 HNE.out.2.2.1
  have cS := Blk.cell d3.S
  have fS := Blk.frozen d3.S
  have lS := d3.S.lt
  go_upto_region 11 with (fail)
  clear hmB hhB lB cS fS lS
  have HD6 := Lib.hid (show Dc w ((putAt w2 rb 0 (rdC A n cap p6 e6)).setCell ⟨sb, 12, none⟩ (.int .i64 U5)) ob sb rb A n cap (p6, e6) #[.int .i64 U0, .int .i64 U1, .int .i64 U2, .int .u8 M.x0, .int .u8 M.x1, .int .u8 M.x2, .int .u8 M.x3, .int .u8 M.x4, .int .u8 M.x5, .int .u8 M.x6, .int .u8 M.x7, .int .i64 U4, .int .i64 U5, .int .i64 0, .int .i64 0, .slice none 0 0, .slice none 0 0, .slice none 0 0] from d3.set 12 (.int .i64 U5) HNE.out.2.2.2.1 HNE.out.2.1 HNE.out.2.2.2.2.1)
  clear d2 d3 hx HD5
  generalize ((putAt w2 rb 0 (rdC A n cap p6 e6)).setCell ⟨sb, 12, none⟩ (.int .i64 U5)) = W at HD6 ⊢
  have hhB := Blk.has HD6.out.R
  have hgB := Blk.gets HD6.out.R
  have lB := HD6.out.R.lt
  go_wp2_with fail
  refine (rnum22_any A n cap l p6 e6 N W (Nat.le_trans HN.out HD6.out.x.size) (HS.out.ext HD6.out.x) (by have := dcK_leq HK6.out; have := HL.out; omega)).mono ?_
  rintro e w2 ⟨rfl, hx⟩
  obtain ⟨⟨p7, e7⟩, hq⟩ : ∃ q, q = dcK l 7 := ⟨_, rfl⟩
  have HK7 := Lib.hid hq
  obtain ⟨U6, hU⟩ : ∃ u, u = dcU l 6 := ⟨_, rfl⟩
  have HU6 := Lib.hid hU
  rw [(dcK_succ HK6.out hq).1, (dcK_succ HK6.out hq).2, dcU_of HK6.out, ← hU]
  clear hq hU hhB hgB lB
  have d2 := HD6.out.ext hx
  have hmB := d2.R.melts
  have hhB := Blk.has d2.R
  have lB := d2.R.lt
  have d3 := d2.put (p7, e7) HNE.out.1 HNE.out.2.1 HNE.out.2.2.1
  have cS := Blk.cell d3.S
  have fS := Blk.frozen d3.S
  have lS := d3.S.lt
  go_upto_region 12 with (fail)
  clear hmB hhB lB cS fS lS
  have HD7 := Lib.hid (show Dc w ((putAt w2 rb 0 (rdC A n cap p7 e7)).setCell ⟨sb, 13, none⟩ (.int .i64 U6)) ob sb rb A n cap (p7, e7) #[.int .i64 U0, .int .i64 U1, .int .i64 U2, .int .u8 M.x0, .int .u8 M.x1, .int .u8 M.x2, .int .u8 M.x3, .int .u8 M.x4, .int .u8 M.x5, .int .u8 M.x6, .int .u8 M.x7, .int .i64 U4, .int .i64 U5, .int .i64 U6, .int .i64 0, .slice none 0 0, .slice none 0 0, .slice none 0 0] from d3.set 13 (.int .i64 U6) HNE.out.2.2.2.1 HNE.out.2.1 HNE.out.2.2.2.2.1)
  clear d2 d3 hx HD6
  generalize ((putAt w2 rb 0 (rdC A n cap p7 e7)).setCell ⟨sb, 13, none⟩ (.int .i64 U6)) = W at HD7 ⊢
  have hhB := Blk.has HD7.out.R
  have hgB := Blk.gets HD7.out.R
  have lB := HD7.out.R.lt
  go_wp2_with fail
  refine (rnum22_any A n cap l p7 e7 N W (Nat.le_trans HN.out HD7.out.x.size) (HS.out.ext HD7.out.x) (by have := dcK_leq HK7.out; have := HL.out; omega)).mono ?_
  rintro e w2 ⟨rfl, hx⟩
  obtain ⟨⟨p8, e8⟩, hq⟩ : ∃ q, q = dcK l 8 := ⟨_, rfl⟩
  have HK8 := Lib.hid hq
  obtain ⟨U7, hU⟩ : ∃ u, u = dcU l 7 := ⟨_, rfl⟩
  have HU7 := Lib.hid hU
  rw [(dcK_succ HK7.out hq).1, (dcK_succ HK7.out hq).2, dcU_of HK7.out, ← hU]
  clear hq hU hhB hgB lB
  have d2 := HD7.out.ext hx
  have hmB := d2.R.melts
  have hhB := Blk.has d2.R
  have lB := d2.R.lt
  have d3 := d2.put (p8, e8) HNE.out.1 HNE.out.2.1 HNE.out.2.2.1
  have cS := Blk.cell d3.S
  have fS := Blk.frozen d3.S
  have lS := d3.S.lt
  go_upto_region 13 with (fail)
  clear hmB hhB lB cS fS lS
  have HD8 := Lib.hid (show Dc w ((putAt w2 rb 0 (rdC A n cap p8 e8)).setCell ⟨sb, 14, none⟩ (.int .i64 U7)) ob sb rb A n cap (p8, e8) #[.int .i64 U0, .int .i64 U1, .int .i64 U2, .int .u8 M.x0, .int .u8 M.x1, .int .u8 M.x2, .int .u8 M.x3, .int .u8 M.x4, .int .u8 M.x5, .int .u8 M.x6, .int .u8 M.x7, .int .i64 U4, .int .i64 U5, .int .i64 U6, .int .i64 U7, .slice none 0 0, .slice none 0 0, .slice none 0 0] from d3.set 14 (.int .i64 U7) HNE.out.2.2.2.1 HNE.out.2.1 HNE.out.2.2.2.2.1)
  clear d2 d3 hx HD7
  generalize ((putAt w2 rb 0 (rdC A n cap p8 e8)).setCell ⟨sb, 14, none⟩ (.int .i64 U7)) = W at HD8 ⊢
  have hhB := Blk.has HD8.out.R
  have hgB := Blk.gets HD8.out.R
  have lB := HD8.out.R.lt
  go_wp2_with fail
  refine (rpath_any A n cap l p8 e8 N W (Nat.le_trans HN.out HD8.out.x.size) (HS.out.ext HD8.out.x) (by have := dcK_leq HK8.out; have := HL.out; omega)).mono ?_
  rintro e w2 ⟨v, rfl, ho, hx⟩
  obtain ⟨⟨p9, e9, D1⟩, hq⟩ : ∃ q, q = dcP l := ⟨_, rfl⟩
  have hq' : rdP l p8 e8 = (p9, e9, D1) := by rw [hq, HDP.out, ← HK8.out]
  rw [hq'] at ho ⊢
  have HK9 := Lib.hid hq
  obtain ⟨A1, c1, rfl, hnew⟩ := PG.of_own (N := 0) ho
  clear hq hq' ho
  clear hhB hgB lB
  have d2 := HD8.out.ext hx
  have hmB := d2.R.melts
  have hhB := Blk.has d2.R
  have lB := d2.R.lt
  have hkr : Kept (· = rb) w2 (putAt w2 rb 0 (rdC A n cap p9 e9)) := Kept.putAt (Kept.refl (· = rb) w2) rb 0 _ (fun _ => rfl)
  have d3 := d2.put (p9, e9) HNE.out.1 HNE.out.2.1 HNE.out.2.2.1
  have hks : Kept (· = sb) (putAt w2 rb 0 (rdC A n cap p9 e9)) ((putAt w2 rb 0 (rdC A n cap p9 e9)).setCell ⟨sb, 15, none⟩ (.slice A1 D1.length c1)) := (Kept.refl _ _).setCell _ _ (fun _ => rfl)
  have cS := Blk.cell d3.S
  have fS := Blk.frozen d3.S
  have lS := d3.S.lt
  have qHP1 := (hnew.kept hkr (fun i q => ⟨Nat.zero_le _, by subst q; exact step_not d2.R (by decide)⟩)).kept hks (fun i q => ⟨Nat.zero_le _, by subst q; exact step_not d3.S (by decide)⟩)
  go_upto_region 14 with (fail)
  clear hmB hhB lB cS fS lS
  have HD9 := Lib.hid (show Dc w ((putAt w2 rb 0 (rdC A n cap p9 e9)).setCell ⟨sb, 15, none⟩ (.slice A1 D1.length c1)) ob sb rb A n cap (p9, e9) #[.int .i64 U0, .int .i64 U1, .int .i64 U2, .int .u8 M.x0, .int .u8 M.x1, .int .u8 M.x2, .int .u8 M.x3, .int .u8 M.x4, .int .u8 M.x5, .int .u8 M.x6, .int .u8 M.x7, .int .i64 U4, .int .i64 U5, .int .i64 U6, .int .i64 U7, .slice A1 D1.length c1, .slice none 0 0, .slice none 0 0] from d3.set 15 (.slice A1 D1.length c1) HNE.out.2.2.2.1 HNE.out.2.1 HNE.out.2.2.2.2.1)
  clear d2 d3 hx HD8 hkr hks hnew
  generalize ((putAt w2 rb 0 (rdC A n cap p9 e9)).setCell ⟨sb, 15, none⟩ (.slice A1 D1.length c1)) = W at HD9 qHP1 ⊢
  have HP1 := Lib.hid qHP1
  clear qHP1
  have hhB := Blk.has HD9.out.R
  have hgB := Blk.gets HD9.out.R
  have lB := HD9.out.R.lt
  go_wp2_with fail
  refine (rwords_any A n cap l p9 e9 3 (by omega) (by omega) N W (Nat.le_trans HN.out HD9.out.x.size) (HS.out.ext HD9.out.x) (by have := dcP_le l; rw [← HK9.out] at this; have := HL.out; omega)).mono ?_
  rintro e w2 ⟨v, ds, rfl, ho, hv, hx⟩
  obtain ⟨⟨p10, e10, D2⟩, hq⟩ : ∃ q, q = dcR l := ⟨_, rfl⟩
  have hq' : rdWs l 3 p9 e9 = (p10, e10, D2) := by rw [hq]; unfold dcR; rw [← HK9.out]
  rw [hq'] at ho hv ⊢
  have HK10 := Lib.hid hq
  obtain ⟨A2, c2, rfl, hnew⟩ := SG.of_own (N := 0) ho hv
  clear hq hq' ho hv
  clear hhB hgB lB
  have d2 := HD9.out.ext hx
  have hmB := d2.R.melts
  have hhB := Blk.has d2.R
  have lB := d2.R.lt
  have hkr : Kept (· = rb) w2 (putAt w2 rb 0 (rdC A n cap p10 e10)) := Kept.putAt (Kept.refl (· = rb) w2) rb 0 _ (fun _ => rfl)
  have d3 := d2.put (p10, e10) HNE.out.1 HNE.out.2.1 HNE.out.2.2.1
  have hks : Kept (· = sb) (putAt w2 rb 0 (rdC A n cap p10 e10)) ((putAt w2 rb 0 (rdC A n cap p10 e10)).setCell ⟨sb, 16, none⟩ (.slice A2 D2.length c2)) := (Kept.refl _ _).setCell _ _ (fun _ => rfl)
  have cS := Blk.cell d3.S
  have fS := Blk.frozen d3.S
  have lS := d3.S.lt
  have qHP1 := ((HP1.out.ext hx).kept hkr (fun i q => ⟨Nat.zero_le _, by subst q; exact step_not d2.R (by decide)⟩)).kept hks (fun i q => ⟨Nat.zero_le _, by subst q; exact step_not d3.S (by decide)⟩)
  have qHP2 := (hnew.kept hkr (fun i q => ⟨Nat.zero_le _, by subst q; exact step_not d2.R (by decide)⟩) (fun i q => by subst q; exact step_not d2.R (by decide))).kept hks (fun i q => ⟨Nat.zero_le _, by subst q; exact step_not d3.S (by decide)⟩) (fun i q => by subst q; exact step_not d3.S (by decide))
  go_upto_region 15 with (fail)
  clear hmB hhB lB cS fS lS
  have HD10 := Lib.hid (show Dc w ((putAt w2 rb 0 (rdC A n cap p10 e10)).setCell ⟨sb, 16, none⟩ (.slice A2 D2.length c2)) ob sb rb A n cap (p10, e10) #[.int .i64 U0, .int .i64 U1, .int .i64 U2, .int .u8 M.x0, .int .u8 M.x1, .int .u8 M.x2, .int .u8 M.x3, .int .u8 M.x4, .int .u8 M.x5, .int .u8 M.x6, .int .u8 M.x7, .int .i64 U4, .int .i64 U5, .int .i64 U6, .int .i64 U7, .slice A1 D1.length c1, .slice A2 D2.length c2, .slice none 0 0] from d3.set 16 (.slice A2 D2.length c2) HNE.out.2.2.2.1 HNE.out.2.1 HNE.out.2.2.2.2.1)
  clear d2 d3 hx HD9 hkr hks hnew
  generalize ((putAt w2 rb 0 (rdC A n cap p10 e10)).setCell ⟨sb, 16, none⟩ (.slice A2 D2.length c2)) = W at HD10 qHP1 qHP2 ⊢
  replace HP1 := Lib.hid qHP1
  have HP2 := Lib.hid qHP2
  clear qHP1 qHP2
  have hhB := Blk.has HD10.out.R
  have hgB := Blk.gets HD10.out.R
  have lB := HD10.out.R.lt
  go_wp2_with fail
  refine (rwords_any A n cap l p10 e10 1 (by omega) (by omega) N W (Nat.le_trans HN.out HD10.out.x.size) (HS.out.ext HD10.out.x) (by have := dcR_le l; rw [← HK10.out] at this; have := HL.out; omega)).mono ?_
  rintro e w2 ⟨v, ds, rfl, ho, hv, hx⟩
  obtain ⟨⟨p11, e11, D3⟩, hq⟩ : ∃ q, q = dcW l := ⟨_, rfl⟩
  have hq' : rdWs l 1 p10 e10 = (p11, e11, D3) := by rw [hq]; unfold dcW; rw [← HK10.out]
  rw [hq'] at ho hv ⊢
  have HK11 := Lib.hid hq
  obtain ⟨A3, c3, rfl, hnew⟩ := SG.of_own (N := 0) ho hv
  clear hq hq' ho hv
  clear hhB hgB lB
  have d2 := HD10.out.ext hx
  have hmB := d2.R.melts
  have hhB := Blk.has d2.R
  have lB := d2.R.lt
  have hkr : Kept (· = rb) w2 (putAt w2 rb 0 (rdC A n cap p11 e11)) := Kept.putAt (Kept.refl (· = rb) w2) rb 0 _ (fun _ => rfl)
  have d3 := d2.put (p11, e11) HNE.out.1 HNE.out.2.1 HNE.out.2.2.1
  have hks : Kept (· = sb) (putAt w2 rb 0 (rdC A n cap p11 e11)) ((putAt w2 rb 0 (rdC A n cap p11 e11)).setCell ⟨sb, 17, none⟩ (.slice A3 D3.length c3)) := (Kept.refl _ _).setCell _ _ (fun _ => rfl)
  have cS := Blk.cell d3.S
  have fS := Blk.frozen d3.S
  have lS := d3.S.lt
  have qHP1 := ((HP1.out.ext hx).kept hkr (fun i q => ⟨Nat.zero_le _, by subst q; exact step_not d2.R (by decide)⟩)).kept hks (fun i q => ⟨Nat.zero_le _, by subst q; exact step_not d3.S (by decide)⟩)
  have qHP2 := ((HP2.out.ext hx).kept hkr (fun i q => ⟨Nat.zero_le _, by subst q; exact step_not d2.R (by decide)⟩) (fun i q => by subst q; exact step_not d2.R (by decide))).kept hks (fun i q => ⟨Nat.zero_le _, by subst q; exact step_not d3.S (by decide)⟩) (fun i q => by subst q; exact step_not d3.S (by decide))
  have qHP3 := (hnew.kept hkr (fun i q => ⟨Nat.zero_le _, by subst q; exact step_not d2.R (by decide)⟩) (fun i q => by subst q; exact step_not d2.R (by decide))).kept hks (fun i q => ⟨Nat.zero_le _, by subst q; exact step_not d3.S (by decide)⟩) (fun i q => by subst q; exact step_not d3.S (by decide))
  go_upto_region 16 with (fail)
  clear hmB hhB lB cS fS lS
  have HD11 := Lib.hid (show Dc w ((putAt w2 rb 0 (rdC A n cap p11 e11)).setCell ⟨sb, 17, none⟩ (.slice A3 D3.length c3)) ob sb rb A n cap (p11, e11) #[.int .i64 U0, .int .i64 U1, .int .i64 U2, .int .u8 M.x0, .int .u8 M.x1, .int .u8 M.x2, .int .u8 M.x3, .int .u8 M.x4, .int .u8 M.x5, .int .u8 M.x6, .int .u8 M.x7, .int .i64 U4, .int .i64 U5, .int .i64 U6, .int .i64 U7, .slice A1 D1.length c1, .slice A2 D2.length c2, .slice A3 D3.length c3] from d3.set 17 (.slice A3 D3.length c3) HNE.out.2.2.2.1 HNE.out.2.1 HNE.out.2.2.2.2.1)
  clear d2 d3 hx HD10 hkr hks hnew
  generalize ((putAt w2 rb 0 (rdC A n cap p11 e11)).setCell ⟨sb, 17, none⟩ (.slice A3 D3.length c3)) = W at HD11 qHP1 qHP2 qHP3 ⊢
  replace HP1 := Lib.hid qHP1
  replace HP2 := Lib.hid qHP2
  have HP3 := Lib.hid qHP3
  clear qHP1 qHP2 qHP3
  have hhB := Blk.has HD11.out.R
  have hgB := Blk.gets HD11.out.R
  have lB := HD11.out.R.lt
  have HF := Lib.hid (show (if e11 = 0 ∧ p11 < n then 5 else e11 : Int) = F by rw [HFF.out, HL.out]; unfold decE; rw [← HK11.out])
  go_wp2_with fail
  refine (rend_any A n cap p11 e11 HS.out.2.2.1 W).mono ?_
  rintro e w2 ⟨rfl, hx⟩
  rw [HF.out]
  clear hhB hgB lB
  have d2 := HD11.out.ext hx
  have HD12 := Lib.hid d2
  replace HP1 := Lib.hid (HP1.out.ext hx)
  replace HP2 := Lib.hid (HP2.out.ext hx)
  replace HP3 := Lib.hid (HP3.out.ext hx)
  clear d2 hx HD11
  have hmO := HD12.out.O.melts
  have hhO := Blk.has HD12.out.O
  have lO := HD12.out.O.lt
  have hhS := Blk.has HD12.out.S
  have hgS := Blk.gets HD12.out.S
  have lS := HD12.out.S.lt
  by_cases hf : F = 0
  · have hb : (F == 0) = true := by simp [hf]
    have hbn : (F != 0) = false := by unfold bne; rw [hb]; rfl
    have HF0 := Lib.hid hf
    clear hf
    go_wp2_with fail
    refine ret_ci Tryz.results56 rfl rfl aggRstep (by exact sizeRstep) (Blk.put_ HD12.out.O 0 _) ⟨⟨U0, U1, U2, M, ⟨U4, U5, U6, U7⟩, A1, D1.length, c1, A2, D2.length, c2, A3, D3.length, c3⟩, ?_, ?_, ?_, ?_⟩
    · rw [HF0.out]; rfl
    · intro _
      have hk : Kept (· = ob) w2 (putAt w2 ob 0 #[.int .i64 U0, .int .i64 U1, .int .i64 U2, .int .u8 M.x0, .int .u8 M.x1, .int .u8 M.x2, .int .u8 M.x3, .int .u8 M.x4, .int .u8 M.x5, .int .u8 M.x6, .int .u8 M.x7, .int .i64 U4, .int .i64 U5, .int .i64 U6, .int .i64 U7, .slice A1 D1.length c1, .slice A2 D2.length c2, .slice A3 D3.length c3]) := Kept.putAt (Kept.refl (· = ob) _) ob 0 _ (fun _ => rfl)
      exact ⟨HU0.out, HU1.out, HU2.out, by rw [HM.out, HV.out]; unfold decS; rw [← HK3.out], by rw [HU4.out, HU5.out, HU6.out, HU7.out]; rfl, by rw [show (decS l).path = D1 by unfold decS; rw [← HK9.out]]; exact HP1.out.kept hk (fun i q => ⟨Nat.zero_le _, by subst q; exact step_not HD12.out.O (by decide)⟩), by rw [show (decS l).reads = D2 by unfold decS; rw [← HK10.out]]; exact HP2.out.kept hk (fun i q => ⟨Nat.zero_le _, by subst q; exact step_not HD12.out.O (by decide)⟩) (fun i q => by subst q; exact step_not HD12.out.O (by decide)), by rw [show (decS l).writes = D3 by unfold decS; rw [← HK11.out]]; exact HP3.out.kept hk (fun i q => ⟨Nat.zero_le _, by subst q; exact step_not HD12.out.O (by decide)⟩) (fun i q => by subst q; exact step_not HD12.out.O (by decide))⟩
    · exact fun q => absurd HF0.out q
    · exact HD12.out.x.putAt _ _ _ (fun hlt => absurd hlt (by have := HNE.out; omega))
  · have hb : (F == 0) = false := by simp [hf]
    have hbn : (F != 0) = true := by unfold bne; rw [hb]; rfl
    have HF0 := Lib.hid hf
    clear hf
    go_wp2_with fail
    refine ret_ci Tryz.results56 rfl rfl aggRstep (by exact sizeRstep) (Blk.put_ HD12.out.O 0 _) ⟨zeroS, rfl, ?_, ?_, ?_⟩
    · exact fun q => absurd q HF0.out
    · exact fun _ => rfl
    · exact HD12.out.x.putAt _ _ _ (fun hlt => absurd hlt (by have := HNE.out; omega))
end Go.Proofs.YtahljceanodhkaaGreatDoor

/- The program's reader of bytes: Num. -/
namespace Go.Proofs.YtahljceanodhkaaGreatDoor
open Go.RowKit
def nmE (l : List Int) (most : Int) : Int := if lookE l = 0 then (if most < lookV l then 2 else 0) else lookE l
def nmS (l : List Int) (most : Int) : Nat := if nmE l most = 0 then lookS l else 0
def nmV (l : List Int) (most : Int) : Int := if nmE l most = 0 then lookV l else 0
set_option maxRecDepth 100000 in
set_option maxHeartbeats 1000000 in
theorem onum1_any (A : Option Addr) (b off cap : Nat) (l : List Int) (n : Nat) (hn : n = l.length) (h2 : n ≤ 100000) (hok : BytesOk l) (hA : 0 < n → A = some ⟨b, off, none⟩) (mb ob : Nat) (most : Int) (w : World) (hr : 0 < n → Row w b off (byts l)) (hm : Blk w mb 156 #[.int .u64 most]) (ho : Blk w ob 156 #[.int .u64 0]) :
    Calls Tryz.prog 211 #[.slice A n cap, .pointer (some ⟨mb, 0, none⟩), .pointer (some ⟨ob, 0, none⟩)] w fun e w' => e = .returned (.tuple #[.int .i64 (nmS l most), .int .i64 (nmE l most)]) ∧ Blk w' ob 156 #[.int .u64 (nmV l most)] ∧ Kept (· = ob) w w' := by
  obtain ⟨E, hE⟩ : ∃ E, E = lookE l := ⟨_, rfl⟩
  obtain ⟨V, hV⟩ : ∃ V, V = lookV l := ⟨_, rfl⟩
  obtain ⟨S, hS⟩ : ∃ S, S = lookS l := ⟨_, rfl⟩
  obtain ⟨E', hE'⟩ : ∃ E, E = nmE l most := ⟨_, rfl⟩
  obtain ⟨V', hV'⟩ : ∃ V, V = nmV l most := ⟨_, rfl⟩
  obtain ⟨S', hS'⟩ : ∃ S, S = nmS l most := ⟨_, rfl⟩
  have HE := Lib.hid (show E' = if E = 0 then (if most < V then 2 else 0) else E by rw [hE', hE, hV]; rfl)
  have HV := Lib.hid (show V' = if E' = 0 then V else 0 by rw [hE', hV', hV]; rfl)
  have HS := Lib.hid (show S' = if E' = 0 then S else 0 by rw [hE', hS', hS]; rfl)
  have hlk := look_any A b off cap l n hn h2 hok hA w hr
  rw [← hE, ← hV, ← hS] at hlk
  rw [← hE', ← hV', ← hS']
  have HLK := Lib.hid hlk
  clear hE hV hS hE' hV' hS' hlk hr hn h2 hok hA
  have cM := Blk.cell hm
  have lM := hm.lt
  have cO := Blk.cell ho
  have fO := Blk.frozen ho
  have lO := ho.lt
  go_enter Tryz.func211, Tryz.ntmps211
  go_wp2_with fail
  refine HLK.out.mono ?_
  rintro e w1 ⟨rfl, rfl⟩
  by_cases h1 : E = 0
  · subst h1
    by_cases h2 : most < V
    · have e1 : E' = 2 := by rw [HE.out, if_pos rfl, if_pos h2]
      have e2 : V' = 0 := by rw [HV.out, e1]; rfl
      have e3 : S' = 0 := by rw [HS.out, e1]; rfl
      have G1 := Lib.hid e1
      have G2 := Lib.hid e2
      have G3 := Lib.hid e3
      clear e1 e2 e3
      go_wp2_with fail
      go_ret2
      rw [G1.out, G2.out, G3.out]
      exact ⟨rfl, ho, Kept.refl _ _⟩
    · have e1 : E' = 0 := by rw [HE.out, if_pos rfl, if_neg h2]
      have e2 : V' = V := by rw [HV.out, e1]; rfl
      have e3 : S' = S := by rw [HS.out, e1]; rfl
      have G1 := Lib.hid e1
      have G2 := Lib.hid e2
      have G3 := Lib.hid e3
      clear e1 e2 e3
      go_wp2_with fail
      go_ret2
      rw [G1.out, G2.out, G3.out]
      exact ⟨rfl, Blk.set_ ho 0 (.int .u64 V), (Kept.refl _ _).setCell _ _ (fun _ => rfl)⟩
  · have hb1 : (E == 0) = false := by simp [h1]
    have hb2 : (E != 0) = true := by unfold bne; rw [hb1]; rfl
    have e1 : E' = E := by rw [HE.out, if_neg h1]
    have e2 : V' = 0 := by rw [HV.out, e1, if_neg h1]
    have e3 : S' = 0 := by rw [HS.out, e1, if_neg h1]
    have G1 := Lib.hid e1
    have G2 := Lib.hid e2
    have G3 := Lib.hid e3
    clear e1 e2 e3
    go_wp2_with fail
    go_ret2
    rw [G1.out, G2.out, G3.out]
    exact ⟨rfl, ho, Kept.refl _ _⟩
theorem rd_ok {l : List Int} {most : Int} {at_ : Nat} : rdE l most at_ 0 = nmE (l.drop at_) most ∧ rdA l most at_ 0 = at_ + nmS (l.drop at_) most ∧ rdV l most at_ 0 = nmV (l.drop at_) most := by
  have e : rdE l most at_ 0 = nmE (l.drop at_) most := by unfold rdE nmE; rw [if_pos rfl]
  refine ⟨e, ?_, ?_⟩
  · unfold rdA nmS
    rw [e]
    by_cases h : nmE (l.drop at_) most = 0
    · rw [if_pos ⟨rfl, h⟩, if_pos h]
    · rw [if_neg (fun q => h q.2), if_neg h]; rfl
  · unfold rdV nmV
    rw [e]
    by_cases h : nmE (l.drop at_) most = 0
    · rw [if_pos ⟨rfl, h⟩, if_pos h]
    · rw [if_neg (fun q => h q.2), if_neg h]
theorem rd_bad {l : List Int} {most : Int} {at_ : Nat} {err : Int} (h : ¬ err = 0) : rdE l most at_ err = err ∧ rdA l most at_ err = at_ ∧ rdV l most at_ err = 0 := by
  refine ⟨?_, ?_, ?_⟩
  · unfold rdE; rw [if_neg h]
  · unfold rdA; rw [if_neg (fun q => h q.1)]
  · unfold rdV; rw [if_neg (fun q => h q.1)]
set_option maxRecDepth 100000 in
set_option maxHeartbeats 1000000 in
theorem oread_any (A : Option Addr) (n cap : Nat) (l : List Int) (at_ : Nat) (err most : Int) (N : Nat) (rb mb ob : Nat) (w : World) (hN : N ≤ rb) (hN2 : N ≤ ob) (hro : ¬ rb = ob) (h : BSl w N A n cap l) (hat : at_ ≤ n) (hr : Blk w rb 242 (rdC A n cap at_ err)) (hm : Blk w mb 156 #[.int .u64 most]) (ho : Blk w ob 156 #[.int .u64 0]) :
    Calls Tryz.prog 210 #[.pointer (some ⟨rb, 0, none⟩), .func (.func 211) #[] #[.pointer (some ⟨mb, 0, none⟩), .pointer (some ⟨ob, 0, none⟩)]] w fun e w' => e = .returned (.tuple #[]) ∧ Blk w' rb 242 (rdC A n cap (rdA l most at_ err) (rdE l most at_ err)) ∧ Blk w' ob 156 #[.int .u64 (rdV l most at_ err)] ∧ Kept (fun i => i = rb ∨ i = ob) w w' := by
  have HR := Lib.hid hr
  have HS := Lib.hid h
  have HM := Lib.hid hm
  have HO := Lib.hid ho
  have HN := Lib.hid (show N ≤ rb ∧ N ≤ ob ∧ ¬ rb = ob from ⟨hN, hN2, hro⟩)
  clear hr h hm ho hN hN2 hro
  have cR := Blk.cell HR.out
  have fR := Blk.frozen HR.out
  have lR := HR.out.lt
  by_cases he : err = 0
  · subst he
    obtain ⟨hd1, hd2, hd3⟩ := rd_ok (l := l) (most := most) (at_ := at_)
    have HD := Lib.hid (show _ ∧ _ ∧ _ from ⟨hd1, hd2, hd3⟩)
    clear hd1 hd2 hd3
    have hatcap : at_ ≤ cap := Nat.le_trans hat HS.out.2.1
    obtain ⟨hn, hnc, hmx, hok, b, off, hA, hRR⟩ := HS.out
    have HNC := Lib.hid hnc
    have HDL := Lib.hid (show n - at_ = (l.drop at_).length by rw [List.length_drop, hn])
    have HA := Lib.hid hA
    have HRR := Lib.hid hRR
    have HOK := Lib.hid hok
    have HMX := Lib.hid hmx
    have HNL := Lib.hid hn
    clear hA hRR hok hmx hn hnc
    have hatc : (at_ : Int) ≤ n := by omega
    go_enter Tryz.func210, Tryz.ntmps210
    by_cases hq : at_ = cap
    · subst hq
      go_upto_region 1 with (fail)
      refine wp_region_3 (fun w1 => Kept (· = ob) w w1) [(0, 2), (1, 2), (2, 2), (3, 2), (4, 1), (5, 2), (6, 2), (7, 2), (8, 1), (9, 2), (10, 0), (11, 2), (12, 2), (13, 2), (14, 2), (15, 2)] (by kernel_rfl) (by kernel_rfl) (by kernel_rfl) (by kernel_rfl) ?_; intro l' hl'; simp only [List.map_cons, List.map_nil, List.getD_cons_zero, List.getD_cons_succ] at hl'; subst hl'
      have HY := Lib.hid (show Kept (· = ob) w w.drew from (Kept.refl _ w).drew)
      clear cR lR fR
      (repeat (first | ((apply w3_pure); (· go_simp); (· (intro w1; go_simp; try with_reducible rfl)); (intro K hK; go_simp; refine hK _ _ ?_; clear hK K)) | ((apply w3_skip); (· go_simp); (intro K hK; go_simp; refine hK _ _ ?_; clear hK K)) | ((apply w3_take); (· exact HY.out); (· go_simp); (· (intro w1 hS; have d0 := Blk.kept HR.out hS HN.out.2.2; have d1 := Blk.gets d0; have d2 := Blk.has d0; have d3 := d0.lt; have d4 := Blk.cell d0;  go_simp; try with_reducible rfl)); (intro K hK; go_simp; refine hK _ _ ?_; clear hK K)) | ((apply w3_pass); (· exact HY.out); (· go_simp); (intro K hK; go_simp; refine hK _ _ ?_; clear hK K))))
      (refine w3_act (fun K hK => ?_); go_simp)
      refine (onum1_any _ b (off + at_) _ (l.drop at_) (n - at_) HDL.out (by have := HMX.out; omega) (bytesOk_drop HOK.out _) (fun h0 => by first | (rw [HA.out (by omega)]; exact congrArg some (oaddr_add _ _ _)) | (have := HNC.out; omega)) mb ob most _ (fun h0 => by
        have q := ((HRR.out (by omega)).2).ext (Kept.drew (Kept.refl _ w))
        have q2 := Row.back q at_ (by rw [byts_length]; have := HNL.out; omega)
        rw [show (byts l).drop at_ = byts (l.drop at_) by simp [byts, List.map_drop]] at q2
        exact q2) (Blk.ext HM.out (Kept.drew (Kept.refl _ w))) (Blk.ext HO.out (Kept.drew (Kept.refl _ w)))).mono ?_
      rintro e w1 ⟨rfl, ho1, hk1⟩
      obtain ⟨E, hE⟩ : ∃ E, E = nmE (l.drop at_) most := ⟨_, rfl⟩
      obtain ⟨S, hS'⟩ : ∃ S, S = nmS (l.drop at_) most := ⟨_, rfl⟩
      obtain ⟨V, hV⟩ : ∃ V, V = nmV (l.drop at_) most := ⟨_, rfl⟩
      have HE := Lib.hid (show rdE l most at_ 0 = E by rw [hE]; exact HD.out.1)
      have HSS := Lib.hid (show rdA l most at_ 0 = at_ + S by rw [hS']; exact HD.out.2.1)
      have HV := Lib.hid (show rdV l most at_ 0 = V by rw [hV]; exact HD.out.2.2)
      have HSZ := Lib.hid (show ¬ E = 0 → S = 0 by intro q; rw [hS']; unfold nmS; rw [if_neg (by rw [← hE]; exact q)])
      have HSL := Lib.hid (show at_ + S ≤ 100000 by rw [hS']; unfold nmS; split <;> (have := lookS_le (l.drop at_); rw [List.length_drop] at this; have := HMX.out; have := HNL.out; omega))
      rw [← hE, ← hS']
      rw [← hV] at ho1
      clear hE hS' hV HD
      have HY := Lib.hid (HY.out.trans hk1)
      clear hk1
      have HO1 := Lib.hid ho1
      clear ho1
      refine hK.out _ _ (fun _ => HY.out) ?_
      clear hK K
      (repeat (first | ((apply w3_pure); (· go_simp); (· (intro w1; go_simp; try with_reducible rfl)); (intro K hK; go_simp; refine hK _ _ ?_; clear hK K)) | ((apply w3_skip); (· go_simp); (intro K hK; go_simp; refine hK _ _ ?_; clear hK K)) | (refine w3_end (by kernel_rfl) (fun K hK => ?_); go_simp; refine hK.out _ _ ?_; clear hK K))); refine w3_nil ?_
      have r1 := Blk.kept HR.out HY.out HN.out.2.2
      have cR := Blk.cell r1
      have fR := Blk.frozen r1
      have lR := r1.lt
      by_cases h1 : E = 0
      · have hb1 : (E == 0) = true := by simp [h1]
        have hb2 : (E != 0) = false := by unfold bne; rw [hb1]; rfl
        have HE0 := Lib.hid h1
        clear h1
        have hwp : IntKind.i64.wrap ((at_ : Int) + S) = (at_ : Int) + S := by have := HSL.out; rw [IntKind.wrap_i64]; omega
        go_wp2_with fail
        go_end0
        refine ⟨rfl, ?_, ?_, ?_⟩
        · rw [HE.out, HSS.out, HE0.out]
          exact Blk.set_ r1 1 _
        · rw [HV.out]
          exact Blk.far HO1.out (fun q => HN.out.2.2 q.symm) _
        · exact (HY.out.mono (fun i _ q => .inr q)).setCell _ _ (fun _ => .inl rfl)
      · have hb1 : (E == 0) = false := by simp [h1]
        have hb2 : (E != 0) = true := by unfold bne; rw [hb1]; rfl
        have HE0 := Lib.hid (HSZ.out h1)
        clear h1
        go_wp2_with fail
        (try simp only [Exit.inBlock, Exit.then])
        refine bodyPost_ret (results_none rfl _ _ _) rfl ?_
        refine ⟨rfl, ?_, ?_, ?_⟩
        · rw [HE.out, HSS.out, HE0.out]
          exact Blk.set_ r1 2 _
        · rw [HV.out]
          exact Blk.far HO1.out (fun q => HN.out.2.2 q.symm) _
        · exact (HY.out.mono (fun i _ q => .inr q)).setCell _ _ (fun _ => .inl rfl)
    · have q1 : ¬ cap = at_ := fun e => hq e.symm
      have q2 : ¬ cap - at_ = 0 := by omega
      have q3 : at_ < cap := by omega
      have q4 : ¬ cap ≤ at_ := by omega
      go_upto_region 1 with (fail)
      refine wp_region_3 (fun w1 => Kept (· = ob) w w1) [(0, 2), (1, 2), (2, 2), (3, 2), (4, 1), (5, 2), (6, 2), (7, 2), (8, 1), (9, 2), (10, 0), (11, 2), (12, 2), (13, 2), (14, 2), (15, 2)] (by kernel_rfl) (by kernel_rfl) (by kernel_rfl) (by kernel_rfl) ?_; intro l' hl'; simp only [List.map_cons, List.map_nil, List.getD_cons_zero, List.getD_cons_succ] at hl'; subst hl'
      have HY := Lib.hid (show Kept (· = ob) w w.drew from (Kept.refl _ w).drew)
      clear cR lR fR
      (repeat (first | ((apply w3_pure); (· go_simp); (· (intro w1; go_simp; try with_reducible rfl)); (intro K hK; go_simp; refine hK _ _ ?_; clear hK K)) | ((apply w3_skip); (· go_simp); (intro K hK; go_simp; refine hK _ _ ?_; clear hK K)) | ((apply w3_take); (· exact HY.out); (· go_simp); (· (intro w1 hS; have d0 := Blk.kept HR.out hS HN.out.2.2; have d1 := Blk.gets d0; have d2 := Blk.has d0; have d3 := d0.lt; have d4 := Blk.cell d0;  go_simp; try with_reducible rfl)); (intro K hK; go_simp; refine hK _ _ ?_; clear hK K)) | ((apply w3_pass); (· exact HY.out); (· go_simp); (intro K hK; go_simp; refine hK _ _ ?_; clear hK K))))
      (refine w3_act (fun K hK => ?_); go_simp)
      refine (onum1_any _ b (off + at_) _ (l.drop at_) (n - at_) HDL.out (by have := HMX.out; omega) (bytesOk_drop HOK.out _) (fun h0 => by first | (rw [HA.out (by omega)]; exact congrArg some (oaddr_add _ _ _)) | (have := HNC.out; omega)) mb ob most _ (fun h0 => by
        have q := ((HRR.out (by omega)).2).ext (Kept.drew (Kept.refl _ w))
        have q2 := Row.back q at_ (by rw [byts_length]; have := HNL.out; omega)
        rw [show (byts l).drop at_ = byts (l.drop at_) by simp [byts, List.map_drop]] at q2
        exact q2) (Blk.ext HM.out (Kept.drew (Kept.refl _ w))) (Blk.ext HO.out (Kept.drew (Kept.refl _ w)))).mono ?_
      rintro e w1 ⟨rfl, ho1, hk1⟩
      obtain ⟨E, hE⟩ : ∃ E, E = nmE (l.drop at_) most := ⟨_, rfl⟩
      obtain ⟨S, hS'⟩ : ∃ S, S = nmS (l.drop at_) most := ⟨_, rfl⟩
      obtain ⟨V, hV⟩ : ∃ V, V = nmV (l.drop at_) most := ⟨_, rfl⟩
      have HE := Lib.hid (show rdE l most at_ 0 = E by rw [hE]; exact HD.out.1)
      have HSS := Lib.hid (show rdA l most at_ 0 = at_ + S by rw [hS']; exact HD.out.2.1)
      have HV := Lib.hid (show rdV l most at_ 0 = V by rw [hV]; exact HD.out.2.2)
      have HSZ := Lib.hid (show ¬ E = 0 → S = 0 by intro q; rw [hS']; unfold nmS; rw [if_neg (by rw [← hE]; exact q)])
      have HSL := Lib.hid (show at_ + S ≤ 100000 by rw [hS']; unfold nmS; split <;> (have := lookS_le (l.drop at_); rw [List.length_drop] at this; have := HMX.out; have := HNL.out; omega))
      rw [← hE, ← hS']
      rw [← hV] at ho1
      clear hE hS' hV HD
      have HY := Lib.hid (HY.out.trans hk1)
      clear hk1
      have HO1 := Lib.hid ho1
      clear ho1
      refine hK.out _ _ (fun _ => HY.out) ?_
      clear hK K
      (repeat (first | ((apply w3_pure); (· go_simp); (· (intro w1; go_simp; try with_reducible rfl)); (intro K hK; go_simp; refine hK _ _ ?_; clear hK K)) | ((apply w3_skip); (· go_simp); (intro K hK; go_simp; refine hK _ _ ?_; clear hK K)) | (refine w3_end (by kernel_rfl) (fun K hK => ?_); go_simp; refine hK.out _ _ ?_; clear hK K))); refine w3_nil ?_
      have r1 := Blk.kept HR.out HY.out HN.out.2.2
      have cR := Blk.cell r1
      have fR := Blk.frozen r1
      have lR := r1.lt
      by_cases h1 : E = 0
      · have hb1 : (E == 0) = true := by simp [h1]
        have hb2 : (E != 0) = false := by unfold bne; rw [hb1]; rfl
        have HE0 := Lib.hid h1
        clear h1
        have hwp : IntKind.i64.wrap ((at_ : Int) + S) = (at_ : Int) + S := by have := HSL.out; rw [IntKind.wrap_i64]; omega
        go_wp2_with fail
        go_end0
        refine ⟨rfl, ?_, ?_, ?_⟩
        · rw [HE.out, HSS.out, HE0.out]
          exact Blk.set_ r1 1 _
        · rw [HV.out]
          exact Blk.far HO1.out (fun q => HN.out.2.2 q.symm) _
        · exact (HY.out.mono (fun i _ q => .inr q)).setCell _ _ (fun _ => .inl rfl)
      · have hb1 : (E == 0) = false := by simp [h1]
        have hb2 : (E != 0) = true := by unfold bne; rw [hb1]; rfl
        have HE0 := Lib.hid (HSZ.out h1)
        clear h1
        go_wp2_with fail
        (try simp only [Exit.inBlock, Exit.then])
        refine bodyPost_ret (results_none rfl _ _ _) rfl ?_
        refine ⟨rfl, ?_, ?_, ?_⟩
        · rw [HE.out, HSS.out, HE0.out]
          exact Blk.set_ r1 2 _
        · rw [HV.out]
          exact Blk.far HO1.out (fun q => HN.out.2.2 q.symm) _
        · exact (HY.out.mono (fun i _ q => .inr q)).setCell _ _ (fun _ => .inl rfl)
  · have hb : (err == 0) = false := by simp [he]
    have hbn : (err != 0) = true := by unfold bne; rw [hb]; rfl
    obtain ⟨hd1, hd2, hd3⟩ := rd_bad (l := l) (most := most) (at_ := at_) he
    have HD := Lib.hid (show _ ∧ _ ∧ _ from ⟨hd1, hd2, hd3⟩)
    clear hd1 hd2 hd3 he
    go_enter Tryz.func210, Tryz.ntmps210
    go_wp2_with fail
    (try simp only [Exit.inBlock, Exit.then])
    refine bodyPost_ret (results_none rfl _ _ _) rfl ?_
    rw [HD.out.1, HD.out.2.1, HD.out.2.2]
    exact ⟨rfl, HR.out, HO.out, Kept.refl _ _⟩
set_option maxRecDepth 100000 in
set_option maxHeartbeats 1000000 in
theorem onum_any (A : Option Addr) (n cap : Nat) (l : List Int) (at_ : Nat) (err most : Int) (N : Nat) (rb : Nat) (w : World) (hN : N ≤ rb) (h : BSl w N A n cap l) (hat : at_ ≤ n) (hr : Blk w rb 242 (rdC A n cap at_ err)) :
    Calls Tryz.prog 165 #[.pointer (some ⟨rb, 0, none⟩), .int .u64 most] w fun e w' => e = .returned (.int .u64 (rdV l most at_ err)) ∧ Blk w' rb 242 (rdC A n cap (rdA l most at_ err) (rdE l most at_ err)) ∧ Kept (· = rb) w w' := by
  have HN := Lib.hid hN
  have HS := Lib.hid h
  have HR := Lib.hid hr
  clear hN h hr
  have lR := HR.out.lt
  have hnw := HN.out
  go_enter Tryz.func165, Tryz.ntmps165
  go_wp2_with fail
  refine (oread_any A n cap l at_ err most N rb w.heap.size (w.heap.size + 1) _ hnw (by omega) (by omega) (HS.out.ext (((Kept.refl _ w).alloc _).alloc _)) hat (Blk.alloc (Blk.alloc HR.out _) _) (Blk.alloc (Blk.new w _ _) _) (Blk.new' (w.alloc (.cells #[.int .u64 most] 156)) _ _ _ (by simp))).mono ?_
  rintro e w1 ⟨rfl, h1, h2, h3⟩
  have cO := Blk.cell h2
  have lO := h2.lt
  go_wp2_with fail
  go_ret
  refine ⟨rfl, h1, ?_⟩
  have x0 : Ext w ((w.alloc (.cells #[.int .u64 most] 156)).alloc (.cells #[.int .u64 0] 156)) := ((Kept.refl _ w).alloc _).alloc _
  exact (x0.mono (fun _ _ f => f.elim)).trans' h3 (fun i hi q => by rcases q with q | q <;> omega)
end Go.Proofs.YtahljceanodhkaaGreatDoor

/- The program's reader of bytes: Int, Err, Left, End, NewReader. -/
namespace Go.Proofs.YtahljceanodhkaaGreatDoor
open Go.RowKit
theorem rdU_eq (l : List Int) (at_ : Nat) (err : Int) : rdU l at_ err = unf (rdV l allN at_ err) := by
  unfold rdU
  split
  · rfl
  · rename_i h
    have : rdV l allN at_ err = 0 := by unfold rdV; rw [if_neg (fun q => h q.2)]
    rw [this]
    rfl
theorem i64_notpos (n : Int) (h : 0 ≤ n) (h0 : n < 9223372036854775808) : bits .xor .i64 (-1) n = -(n + 1) := by
  show IntKind.i64.wrap ((BitVec.ofInt 64 (-1) ^^^ BitVec.ofInt 64 n).toNat : Int) = _
  have h1 : BitVec.ofInt 64 (-1) = BitVec.allOnes 64 := by decide
  rw [h1, BitVec.allOnes_xor, BitVec.toNat_not, BitVec.toNat_ofInt]
  simp [IntKind.wrap, IntKind.bits, IntKind.signed]
  omega
theorem and1_u64 (n : Int) (h0 : 0 ≤ n) (h1 : n < 18446744073709551616) : bits .and .u64 n 1 = n % 2 := by
  show IntKind.u64.wrap ((BitVec.ofInt 64 n &&& BitVec.ofInt 64 1).toNat : Int) = _
  obtain ⟨x, rfl⟩ : ∃ x : Nat, n = x := ⟨n.toNat, by omega⟩
  rw [BitVec.toNat_and, BitVec.toNat_ofInt, show (BitVec.ofInt 64 1).toNat = 1 by decide, Nat.and_one_is_mod]
  rw [IntKind.wrap_u64]
  omega
set_option maxRecDepth 100000 in
set_option maxHeartbeats 1000000 in
theorem oint_any (A : Option Addr) (n cap : Nat) (l : List Int) (at_ : Nat) (err : Int) (N : Nat) (rb : Nat) (w : World) (hN : N ≤ rb) (h : BSl w N A n cap l) (hat : at_ ≤ n) (hr : Blk w rb 242 (rdC A n cap at_ err)) :
    Calls Tryz.prog 164 #[.pointer (some ⟨rb, 0, none⟩)] w fun e w' => e = .returned (.int .i64 (rdU l at_ err)) ∧ Blk w' rb 242 (rdC A n cap (rdA l allN at_ err) (rdE l allN at_ err)) ∧ Kept (· = rb) w w' := by
  obtain ⟨V, hV⟩ : ∃ V, V = rdV l allN at_ err := ⟨_, rfl⟩
  have hB := rdV_bd h.2.2.2.1 allN at_ err
  rw [← hV] at hB
  rw [rdU_eq, ← hV]
  have HB := Lib.hid hB
  have HV := Lib.hid hV
  clear hB hV
  have HN := Lib.hid hN
  have HS := Lib.hid h
  have HR := Lib.hid hr
  clear hN h hr
  go_enter Tryz.func164, Tryz.ntmps164
  go_wp2_with fail
  refine (onum_any A n cap l at_ err allN N rb w HN.out HS.out hat HR.out).mono ?_
  rintro e w1 ⟨rfl, h1, h2'⟩
  rw [← HV.out]
  have ha := and1_u64 V HB.out.1 HB.out.2
  by_cases h2 : V % 2 = 1
  · have hb : (bits .and .u64 V 1 == 1) = true := by rw [ha, h2]; rfl
    have HU := Lib.hid (show unf V = -(V / 2) - 1 by unfold unf; rw [if_pos h2])
    clear ha h2
    go_wp2_with fail
    go_ret
    exact ⟨ret_int (by rw [HU.out]; have := HB.out; rw [show wrap64 (V / 2) = V / 2 by unfold wrap64; omega, i64_notpos _ (by omega) (by omega)]; omega), h1, h2'⟩
  · have hb : (bits .and .u64 V 1 == 1) = false := by rw [ha]; simp; omega
    have HU := Lib.hid (show unf V = V / 2 by unfold unf; rw [if_neg h2])
    clear ha h2
    go_wp2_with fail
    go_ret
    exact ⟨ret_int (by rw [HU.out]; have := HB.out; unfold wrap64; omega), h1, h2'⟩
set_option maxRecDepth 100000 in
theorem oerr_any (A : Option Addr) (n cap at_ : Nat) (err : Int) (rb : Nat) (w : World) (hr : Blk w rb 242 (rdC A n cap at_ err)) :
    Calls Tryz.prog 167 #[.pointer (some ⟨rb, 0, none⟩)] w fun e w' => e = .returned (.int .i64 err) ∧ w = w' := by
  have cR := Blk.cell hr
  have lR := hr.lt
  go_enter Tryz.func167, Tryz.ntmps167
  go_wp2_with fail
  go_ret
  exact ⟨rfl, rfl⟩
set_option maxRecDepth 100000 in
theorem oleft_any (A : Option Addr) (n cap at_ : Nat) (err : Int) (rb : Nat) (w : World) (hat : at_ ≤ n) (hn : n ≤ 100000) (hr : Blk w rb 242 (rdC A n cap at_ err)) :
    Calls Tryz.prog 168 #[.pointer (some ⟨rb, 0, none⟩)] w fun e w' => e = .returned (.int .i64 ((n : Int) - at_)) ∧ Ext w w' := by
  have lR := hr.lt
  have hwp : IntKind.i64.wrap ((n : Int) - at_) = (n : Int) - at_ := by rw [IntKind.wrap_i64]; omega
  go_enter Tryz.func168, Tryz.ntmps168
  go_wp2_with fail
  refine wp_region_3 (fun w1 => Ext w w1) [(0, 2), (1, 2), (2, 2), (3, 1), (4, 2), (5, 2), (6, 2), (7, 2), (8, 1), (9, 2), (10, 2)] (by kernel_rfl) (by kernel_rfl) (by kernel_rfl) (by kernel_rfl) ?_; intro l' hl'; simp only [List.map_cons, List.map_nil, List.getD_cons_zero, List.getD_cons_succ] at hl'; subst hl'
  (repeat (first | ((apply w3_pure); (· go_simp); (· (intro w1; go_simp; try with_reducible rfl)); (intro K hK; go_simp; refine hK _ _ ?_; clear hK K)) | ((apply w3_skip); (· go_simp); (intro K hK; go_simp; refine hK _ _ ?_; clear hK K)) | ((apply w3_take); (· exact (Kept.drew (Kept.refl _ w))); (· go_simp); (· (intro w1 hS; have d0 := Blk.ext hr hS; have d1 := Blk.gets d0; have d2 := Blk.has d0; have d3 := d0.lt; have d4 := Blk.cell d0;  go_simp; try with_reducible rfl)); (intro K hK; go_simp; refine hK _ _ ?_; clear hK K)) | ((apply w3_pass); (· exact (Kept.drew (Kept.refl _ w))); (· go_simp); (intro K hK; go_simp; refine hK _ _ ?_; clear hK K))))
  (repeat (first | ((apply w3_pure); (· go_simp); (· (intro w1; go_simp; try with_reducible rfl)); (intro K hK; go_simp; refine hK _ _ ?_; clear hK K)) | ((apply w3_skip); (· go_simp); (intro K hK; go_simp; refine hK _ _ ?_; clear hK K)) | (refine w3_end (by kernel_rfl) (fun K hK => ?_); go_simp; refine hK.out _ _ ?_; clear hK K))); refine w3_nil ?_
  go_wp2_with fail
  go_ret
  exact ⟨rfl, Kept.drew (Kept.refl _ w)⟩
set_option maxRecDepth 100000 in
theorem oend_any (A : Option Addr) (n cap at_ : Nat) (err : Int) (rb : Nat) (w : World) (hat : at_ ≤ n) (hn : n ≤ 100000) (hr : Blk w rb 242 (rdC A n cap at_ err)) :
    Calls Tryz.prog 113 #[.pointer (some ⟨rb, 0, none⟩)] w fun e w' => e = .returned (.int .i64 (if err = 0 ∧ at_ < n then 5 else err)) ∧ Ext w w' := by
  obtain ⟨R, hR⟩ : ∃ R, R = (if err = 0 ∧ at_ < n then 5 else err : Int) := ⟨_, rfl⟩
  rw [← hR]
  have HRR := Lib.hid hR
  clear hR
  go_enter Tryz.func113, Tryz.ntmps113
  go_wp2_with fail
  refine (oerr_any A n cap at_ err rb _ hr).mono ?_
  rintro e w1 ⟨rfl, rfl⟩
  by_cases he : err = 0
  · have hb : (err == 0) = true := by simp [he]
    have hbn : (err != 0) = false := by unfold bne; rw [hb]; rfl
    have HE0 := Lib.hid he
    clear he
    go_wp2_with fail
    refine (oleft_any A n cap at_ err rb _ hat hn hr).mono ?_
    rintro e w1 ⟨rfl, hx⟩
    by_cases hl : (at_ : Int) < n
    · have e5 : R = 5 := by rw [HRR.out]; exact if_pos ⟨HE0.out, by omega⟩
      have HE5 := Lib.hid e5
      have hc : (0 : Int) < (n : Int) - at_ := by omega
      clear e5
      go_wp2_with fail
      go_ret
      exact ⟨ret_int HE5.out.symm, hx⟩
    · have e5 : R = 0 := by rw [HRR.out]; rw [if_neg (fun q => hl (by omega)), HE0.out]
      have HE5 := Lib.hid e5
      have hc : ¬ (0 : Int) < (n : Int) - at_ := by omega
      clear e5
      go_wp2_with fail
      go_ret
      exact ⟨ret_int HE5.out.symm, hx⟩
  · have hb : (err == 0) = false := by simp [he]
    have hbn : (err != 0) = true := by unfold bne; rw [hb]; rfl
    have e5 : R = err := by rw [HRR.out]; exact if_neg (fun q => he q.1)
    have HE5 := Lib.hid e5
    clear e5 he
    go_wp2_with fail
    refine (oerr_any A n cap at_ err rb _ hr).mono ?_
    rintro e w1 ⟨rfl, rfl⟩
    go_wp2_with fail
    go_ret
    exact ⟨ret_int HE5.out.symm, Kept.refl _ _⟩
end Go.Proofs.YtahljceanodhkaaGreatDoor

/- The program's reader of bytes: NewReader. -/
namespace Go.Proofs.YtahljceanodhkaaGreatDoor
open Go.RowKit
/-- an append of bytes that lie anywhere -/
theorem appF (w : World) (base : Nat) (v : Value) (n : Nat) (xs : List Int) (hown : w.ownsRow base 5 1 v n (byts xs)) (A : Option Addr) (b off m c : Nat) (l : List Int) (hm : m = l.length) (hA : 0 < m → A = some ⟨b, off, none⟩) (hr : 0 < m → Row w b off (byts l)) (hn : n + m ≤ 100000) (hbase : base ≤ w.heap.size) :
    ∃ v' w', (Builtin.append_ #[95, 95] 95 #[v, .slice A m c]).run Tryz.prog w = .ok v' w' ∧ w'.ownsRow base 5 1 v' (n + m) (byts (xs ++ l)) ∧ Kept (fun i => v.ownBlock = some i) w w' := by
  by_cases h0 : 0 < m
  · obtain rfl := hA h0
    exact appB w base v n xs hown b off m c l hm (hr h0) hn hbase
  · have hm0 : m = 0 := by omega
    subst hm0
    have hl : l = [] := List.eq_nil_of_length_eq_zero hm.symm
    subst hl
    rw [List.append_nil, Nat.add_zero]
    obtain ⟨i, hi, hz, h1, h2⟩ := info_parts infoU8
    rcases A with _ | a
    · refine ⟨v, w, ?_, hown, Kept.refl _ w⟩
      rcases hown.2 with ⟨rfl, rfl⟩ | ⟨g, cap, cur, rfl, _, _, hnc, _⟩
      · simp [Builtin.append_, run_underlying Tryz.underlying95, sizeOf, typeInfo, hi, Builtin.lenOf, Builtin.firstCells]
      · simp [Builtin.append_, run_underlying Tryz.underlying95, sizeOf, typeInfo, hi, Builtin.lenOf, Builtin.firstCells, hnc, storeCells]
    · obtain ⟨v', w', hrun, ho, hg, _⟩ := run_append_own (P := Tryz.prog) w base 95 95 5 i _ 1 1 Tryz.underlying95 hi hz h1 h2 (by rfl) (by decide) v n (byts xs) hown a 0 c [] (by simp) (fun j u h => by simp at h) (fun u h => by simp at h) (by unfold maxLen; omega) (by omega) hbase
      rw [List.append_nil, Nat.add_zero] at ho
      exact ⟨v', w', hrun, ho, Kept.of_grown hg⟩
set_option maxRecDepth 100000 in
set_option maxHeartbeats 1000000 in
theorem freshF_any (A : Option Addr) (b off n cap : Nat) (l : List Int) (w : World) (hn : n = l.length) (h2 : n ≤ 100000) (hA : 0 < n → A = some ⟨b, off, none⟩) (hr : 0 < n → Row w b off (byts l)) :
    Calls Tryz.prog 161 #[.slice A n cap, .int .i64 0] w fun e w' => ∃ v', e = .returned v' ∧ w'.ownsRow w.heap.size 5 1 v' n (byts l) ∧ Ext w w' := by
  obtain ⟨w1, hr1, ho1, hx1⟩ := makeB w n h2
  obtain ⟨v2, w2, hr2, ho2, hk2⟩ := appF w1 _ _ _ [] ho1 A b off n cap l hn hA (fun h => (hr h).ext hx1) (by omega) hx1.size
  have hwp : IntKind.i64.wrap ((n : Int) + 0) = n := by rw [IntKind.wrap_i64]; omega
  clear hn hA hr
  go_enter Tryz.func161, Tryz.ntmps161
  go_upto_region 1 with (fail)
  go_step
  iterate 4 (refine wpList_step (fun K hK => ?_); go_simp; (try go_bits); refine hK _ _ ?_; clear hK K)
  refine wpList_make rfl _ _ 95 rfl rfl rfl hr1 ?_
  clear hr1
  iterate 1 (refine wpList_step (fun K hK => ?_); go_simp; (try go_bits); refine hK _ _ ?_; clear hK K)
  refine wpList_app rfl (.tmp 9) (.tmp 10) 95 rfl rfl rfl rfl hr2 ?_
  clear hr2
  go_wp2_with fail
  go_ret
  rw [Nat.zero_add, List.nil_append] at ho2
  exact ⟨_, rfl, ho2, hx1.trans' hk2 (fun i hi e => by simp [Value.ownBlock] at e; omega)⟩
set_option maxRecDepth 100000 in
set_option maxHeartbeats 1000000 in
theorem onew_any (A : Option Addr) (n cap : Nat) (l : List Int) (N : Nat) (w : World) (h : BSl w N A n cap l) :
    Calls Tryz.prog 107 #[.slice A n cap] w fun e w' => ∃ (A' : Option Addr) (c' rb : Nat), e = .returned (.pointer (some ⟨rb, 0, none⟩)) ∧ w.heap.size ≤ rb ∧ Blk w' rb 242 (rdC A' n c' 0 0) ∧ BSl w' rb A' n c' l ∧ Ext w w' := by
  obtain ⟨hn, hnc, hmx, hok, b, off, hA, hR⟩ := h
  have HF := Lib.hid (freshF_any A b off n cap l w hn hmx hA (fun h => (hR h).2))
  have HN := Lib.hid hn
  clear hn
  go_enter Tryz.func107, Tryz.ntmps107
  go_wp2_with fail
  refine HF.out.mono ?_
  rintro e w1 ⟨v', rfl, ho1, hx1⟩
  have hcs := own_cases ho1
  obtain ⟨A', c', rfl, hb⟩ : ∃ A' c', v' = .slice A' n c' ∧ BSl w1 w1.heap.size A' n c' l := by
    rcases hcs with ⟨rfl, rfl, rfl⟩ | ⟨g, c, rfl, hg, hrow, hc, hl⟩
    · exact ⟨none, 0, rfl, rfl, Nat.le_refl _, by omega, hok, 0, 0, fun h => by omega, fun h => by omega⟩
    · exact ⟨_, c, rfl, hl, hc, hmx, hok, g, 0, fun _ => rfl, fun _ => ⟨hrow.lt, hrow⟩⟩
  have HB := Lib.hid hb
  clear hb hcs ho1
  go_wp2_with fail
  go_ret
  exact ⟨A', c', w1.heap.size, rfl, hx1.size, Blk.new w1 _ _, HB.out.ext ((Kept.refl _ w1).alloc _), hx1.alloc _⟩
end Go.Proofs.YtahljceanodhkaaGreatDoor

/- The program's Decode: reading's int, digest. -/
namespace Go.Proofs.YtahljceanodhkaaGreatDoor
open Go.RowKit
theorem BSl.kept {S : Nat → Prop} {w w' : World} {N : Nat} {A : Option Addr} {n cap : Nat} {l : List Int} (h : BSl w N A n cap l) (hk : Kept S w w') (hs : ∀ i, S i → N ≤ i) : BSl w' N A n cap l := by
  obtain ⟨h1, h2, h3, h4, b, off, h5, h6⟩ := h
  exact ⟨h1, h2, h3, h4, b, off, h5, fun h0 => ⟨(h6 h0).1, (h6 h0).2.kept hk (fun q => by have := hs b q; have := (h6 h0).1; omega)⟩⟩
abbrev rgC (rb : Nat) (re : Int) : Array Value := #[.pointer (some ⟨rb, 0, none⟩), .int .i64 re]
/-- the program's reading in memory -/
structure Rd (w : World) (rb gb : Nat) (A : Option Addr) (n cap : Nat) (l : List Int) (p : Nat) (e re : Int) : Prop where
  R : Blk w rb 242 (rdC A n cap p e)
  G : Blk w gb 175 (rgC rb re)
  B : BSl w rb A n cap l
  hp : p ≤ n
  hg : rb < gb
theorem Rd.kept {S : Nat → Prop} {w w' : World} {rb gb : Nat} {A : Option Addr} {n cap : Nat} {l : List Int} {p : Nat} {e re : Int} (h : Rd w rb gb A n cap l p e re) (hk : Kept S w w') (hs : ∀ i, S i → rb < i ∧ ¬ i = gb) : Rd w' rb gb A n cap l p e re :=
  ⟨Blk.kept h.R hk (fun q => by have := hs _ q; omega), Blk.kept h.G hk (fun q => (hs _ q).2 rfl), h.B.kept hk (fun i q => by have := hs i q; omega), h.hp, h.hg⟩
theorem Rd.ext {w w' : World} {rb gb : Nat} {A : Option Addr} {n cap : Nat} {l : List Int} {p : Nat} {e re : Int} (h : Rd w rb gb A n cap l p e re) (hk : Ext w w') : Rd w' rb gb A n cap l p e re := h.kept hk (fun _ f => f.elim)
theorem Rd.moved {w w' : World} {rb gb : Nat} {A : Option Addr} {n cap : Nat} {l : List Int} {p p' : Nat} {e e' re : Int} (h : Rd w rb gb A n cap l p e re) (hk : Kept (· = rb) w w') (hr : Blk w' rb 242 (rdC A n cap p' e')) (hp : p' ≤ n) : Rd w' rb gb A n cap l p' e' re :=
  ⟨hr, Blk.kept h.G hk (fun q => by have := h.hg; omega), h.B.kept hk (fun i q => by omega), hp, h.hg⟩
theorem Rd.le {w : World} {rb gb : Nat} {A : Option Addr} {n cap : Nat} {l : List Int} {p : Nat} {e re : Int} (h : Rd w rb gb A n cap l p e re) (most : Int) : rdA l most p e ≤ n := by
  have h1 := h.B.1
  have := rdA_le l most p e (by have := h.hp; omega)
  omega
set_option maxRecDepth 100000 in
set_option maxHeartbeats 1000000 in
theorem gint_any (rb gb : Nat) (A : Option Addr) (n cap : Nat) (l : List Int) (p : Nat) (e re : Int) (w : World) (h : Rd w rb gb A n cap l p e re) :
    Calls Tryz.prog 108 #[.pointer (some ⟨gb, 0, none⟩)] w fun r w' => r = .returned (.int .i64 (rdU l p e)) ∧ Rd w' rb gb A n cap l (rdA l allN p e) (rdE l allN p e) re ∧ Kept (· = rb) w w' := by
  have H := Lib.hid h
  clear h
  have cG := Blk.cell H.out.G
  have lG := H.out.G.lt
  go_enter Tryz.func108, Tryz.ntmps108
  go_wp2_with fail
  refine (oint_any A n cap l p e rb rb w (Nat.le_refl _) H.out.B H.out.hp H.out.R).mono ?_
  rintro r w1 ⟨rfl, h1, h2⟩
  have h3 := H.out.moved h2 h1 (H.out.le _)
  have H3 := Lib.hid h3
  clear h1 h3
  go_wp2_with fail
  go_ret
  exact ⟨rfl, H3.out, h2⟩
set_option maxRecDepth 100000 in
set_option maxHeartbeats 1000000 in
theorem gdig_any (rb gb : Nat) (A : Option Addr) (n cap : Nat) (l : List Int) (p : Nat) (e re : Int) (w : World) (h : Rd w rb gb A n cap l p e re) :
    Calls Tryz.prog 109 #[.pointer (some ⟨gb, 0, none⟩)] w fun r w' => r = .returned (.agg (dgN (rdV l allN p e)).cells) ∧ Rd w' rb gb A n cap l (rdA l allN p e) (rdE l allN p e) re ∧ Kept (· = rb) w w' := by
  obtain ⟨V, hV⟩ : ∃ V, V = rdV l allN p e := ⟨_, rfl⟩
  have HVB := Lib.hid (show 0 ≤ V ∧ V < 18446744073709551616 by rw [hV]; exact rdV_bd h.B.2.2.2.1 _ _ _)
  rw [← hV]
  have HV := Lib.hid hV
  clear hV
  have H := Lib.hid h
  clear h
  have x0 : Ext w (w.alloc (.cells #[.int .u8 0, .int .u8 0, .int .u8 0, .int .u8 0, .int .u8 0, .int .u8 0, .int .u8 0, .int .u8 0] 30)) := (Kept.refl _ w).alloc _
  have hD := Blk.new w 30 #[.int .u8 0, .int .u8 0, .int .u8 0, .int .u8 0, .int .u8 0, .int .u8 0, .int .u8 0, .int .u8 0]
  have H0 := Lib.hid (H.out.ext x0)
  have hlt : rb < w.heap.size := H.out.R.lt
  have hlg : gb < w.heap.size := H.out.G.lt
  go_enter Tryz.func109, Tryz.ntmps109
  go_upto_region 1 with (fail)
  generalize (w.alloc (.cells #[.int .u8 0, .int .u8 0, .int .u8 0, .int .u8 0, .int .u8 0, .int .u8 0, .int .u8 0, .int .u8 0] 30)) = W at x0 hD H0 ⊢
  obtain ⟨db, hdb⟩ : ∃ db, db = w.heap.size := ⟨_, rfl⟩
  rw [← hdb] at hD ⊢
  have HNE := Lib.hid (show ¬ db = rb ∧ rb < db ∧ ¬ db = gb ∧ w.heap.size ≤ db from ⟨by omega, by omega, by omega, by omega⟩)
  clear hdb hlt hlg
  have HD := Lib.hid hD
  clear hD
  have cG := Blk.cell H0.out.G
  have lG := H0.out.G.lt
  go_wp2_with fail
  refine (onum_any A n cap l p e allN rb rb W (Nat.le_refl _) H0.out.B H0.out.hp H0.out.R).mono ?_
  rintro r w1 ⟨rfl, h1, h2⟩
  rw [← HV.out]
  have H1 := Lib.hid (H0.out.moved h2 h1 (H0.out.le _))
  have hD1 := Blk.kept HD.out h2 HNE.out.1
  have HK1 := Lib.hid ((x0.mono (fun _ _ f => f.elim) : Kept (· = rb) w W).trans h2)
  clear h1 h2 cG lG
  go_wp2_with fail
  refine (fromnum_any V _ HVB.out.1).mono ?_
  rintro r w2 ⟨rfl, hx2⟩
  have H2 := Lib.hid (H1.out.ext hx2)
  have hD2 := Blk.ext hD1 hx2
  have HK2 := Lib.hid (HK1.out.trans (hx2.mono (fun _ _ f => f.elim)))
  have hmD := hD2.melts
  have hhD := Blk.has hD2
  have hlD := hD2.lt
  clear hx2 hD1
  go_wp2_with fail
  refine ret_cell Tryz.results109 rfl rfl aggDig (by exact sizeDig) (Blk.put_ hD2 _ _) ⟨rfl, ?_, ?_⟩
  · exact H2.out.kept (Kept.putAt (Kept.refl (· = db) w2) db 0 _ (fun _ => rfl)) (fun i q => by subst q; exact ⟨HNE.out.2.1, HNE.out.2.2.1⟩)
  · exact HK2.out.putAt _ _ _ (fun hlt => absurd hlt (by have := HNE.out; omega))
end Go.Proofs.YtahljceanodhkaaGreatDoor
