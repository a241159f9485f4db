/- Several texts joined: On, Oo, Oq, Or, Os, Zf, Xa, Xe, Ya, Zg, Yb, Zh, Zha, Zhb, Zhc, Zhd, Za, Yc, Zb, Zi, Zj, Ot, Ou. -/
import Derived.Lib.AppendZeros
import Derived.Test.YtahljceanodhkaaGreatDoorWbf
/- The program's Decode: path. -/
namespace Go.Proofs.YtahljceanodhkaaGreatDoor
open Go.RowKit
/-- digests, as the program reads them: k, whatever happens -/
def ppK (l : List Int) (p0 : Nat) (e0 : Int) : Nat → Nat × Int × List Dg
  | 0 => (p0, e0, [])
  | k + 1 => (rdA l allN (ppK l p0 e0 k).1 (ppK l p0 e0 k).2.1, rdE l allN (ppK l p0 e0 k).1 (ppK l p0 e0 k).2.1, (ppK l p0 e0 k).2.2 ++ [dgN (rdV l allN (ppK l p0 e0 k).1 (ppK l p0 e0 k).2.1)])
theorem ppK_len (l : List Int) (p : Nat) (e : Int) : ∀ k, (ppK l p e k).2.2.length = k
  | 0 => rfl
  | k + 1 => by
    have := ppK_len l p e k
    show ((ppK l p e k).2.2 ++ [dgN (rdV l allN (ppK l p e k).1 (ppK l p e k).2.1)]).length = _
    rw [List.length_append, this]; rfl
/-- a path, as the program reads it -/
def ppP (l : List Int) (p : Nat) (e : Int) : Nat × Int × List Dg := ppK l (rdA l 12 p e) (rdE l 12 p e) (rdV l 12 p e).toNat
set_option maxRecDepth 100000 in
set_option maxHeartbeats 1000000 in
theorem gsevd_any (rb gb : Nat) (A : Option Addr) (n cap : Nat) (l : List Int) (p : Nat) (e re : Int) (w : World) (h : Rd w rb gb A n cap l p e re) :
    Calls Tryz.prog 166 #[.pointer (some ⟨gb, 0, none⟩), .int .u64 12, .func (.func 109) #[.pointer (some ⟨gb, 0, none⟩)] #[]] w fun r w' => ∃ v, r = .returned v ∧ w'.ownsRow w.heap.size 30 8 v (ppP l p e).2.2.length (digs (ppP l p e).2.2) ∧ Rd w' rb gb A n cap l (ppP l p e).1 (ppP l p e).2.1 re ∧ Kept (· = rb) w w' := by
  obtain ⟨E, hE⟩ : ∃ E, E = rdE l 12 p e := ⟨_, rfl⟩
  obtain ⟨P, hP⟩ : ∃ P, P = rdA l 12 p e := ⟨_, rfl⟩
  obtain ⟨V, hV⟩ : ∃ V : Nat, V = (rdV l 12 p e).toNat := ⟨_, rfl⟩
  obtain ⟨R, hR⟩ : ∃ R, R = ppP l p e := ⟨_, rfl⟩
  have hV1 : (V : Int) = rdV l 12 p e := by
    have := (rdV_bd h.B.2.2.2.1 12 p e).1
    omega
  have HV12 := Lib.hid (show V ≤ 12 by have := rdV_most (l := l) (most := 12) (by omega) p e; omega)
  have HRR := Lib.hid (show R = ppK l P E V by rw [hR, hE, hV, hP]; rfl)
  have HLEN := Lib.hid (show R.2.2.length = V by rw [HRR.out]; exact ppK_len _ _ _ _)
  rw [← hR]
  have HE := Lib.hid hE
  have HP := Lib.hid hP
  have HV := Lib.hid hV1
  clear hE hP hV hV1 hR
  have H := Lib.hid h
  clear h
  have hlt : rb < w.heap.size := H.out.R.lt
  have HLT := Lib.hid hlt
  clear hlt
  have cG := Blk.cell H.out.G
  have lG := H.out.G.lt
  go_enter Tryz.func166, Tryz.ntmps166
  go_wp2_with fail
  refine (onum_any A n cap l p e 12 rb rb w (Nat.le_refl _) H.out.B H.out.hp H.out.R).mono ?_
  rintro r w1 ⟨rfl, h1, h2⟩
  have H1 := Lib.hid (H.out.moved h2 h1 (H.out.le _))
  have HK1 := Lib.hid h2
  rw [← HV.out]
  rw [← HE.out, ← HP.out] at H1
  clear h1 h2 cG lG
  go_wp2_with fail
  go_loopw [7, 14] (fun t7 t14 wr => ∃ (k : Nat), k ≤ V ∧ t14 = .int .u64 k ∧ wr.ownsRow w.heap.size 30 8 t7 k (digs (ppK l P E k).2.2) ∧ Rd wr rb gb A n cap l (ppK l P E k).1 (ppK l P E k).2.1 re ∧ Kept (· = rb) w wr) (fun _ t14 _ => V - (intOf t14).toNat)
  case atStart => exact ⟨0, Nat.zero_le _, rfl, World.ownsRow_nil _ _ _ _, H1.out, HK1.out⟩
  case round =>
    obtain ⟨k, hk, rfl, ho, hrd, hx⟩ := hrel
    have hnx : ppK l P E (k + 1) = (rdA l allN (ppK l P E k).1 (ppK l P E k).2.1, rdE l allN (ppK l P E k).1 (ppK l P E k).2.1, (ppK l P E k).2.2 ++ [dgN (rdV l allN (ppK l P E k).1 (ppK l P E k).2.1)]) := rfl
    have hen : k = V → R = ppK l P E k := fun q => by rw [HRR.out, q]
    obtain ⟨⟨p1, e1, xs⟩, hq⟩ : ∃ q, q = ppK l P E k := ⟨_, rfl⟩
    rw [← hq] at ho hrd hnx hen
    simp only at ho hrd hnx hen
    clear hq
    have HNX := Lib.hid hnx
    have HEN := Lib.hid hen
    have HO := Lib.hid ho
    have HRD := Lib.hid hrd
    have HXX := Lib.hid hx
    have HOB := Lib.hid (show ∀ g, (u7 : Value).ownBlock = some g → ¬ g = rb from fun g hg q => by have := (HO.out.lt g hg).1; have := HLT.out; omega)
    clear hnx hen ho hrd hx
    by_cases hlt : k < V
    · have hltI : (k : Int) < V := by omega
      go_upto_region 4 with (fail)
      go_step
      iterate 2 (refine wpList_step (fun K hK => ?_); go_simp; (try go_bits); refine hK _ _ ?_; clear hK K)
      refine wpList_step (fun K hK => ?_)
      go_wp2_with fail
      refine (gdig_any rb gb A n cap l p1 e1 re _ HRD.out).mono ?_
      rintro r w3 ⟨rfl, h3, hk3⟩
      refine hK _ _ ?_
      clear hK K
      obtain ⟨M, hM⟩ : ∃ M, M = dgN (rdV l allN p1 e1) := ⟨_, rfl⟩
      rw [← hM] at HNX ⊢
      clear hM
      have H3 := Lib.hid h3
      have ho3 := own_kept HO.out hk3 (fun g hg q => HOB.out g hg q)
      have hx3 := HXX.out.trans hk3
      obtain ⟨v6, w6, hr6, ho6, hk6⟩ := appE (w3.alloc (.cells M.cells 30)) _ _ _ xs (ho3.alloc _) w3.heap.size 0 1 1 [M] rfl (by simpa [digs] using Row.of_blk (Blk.new w3 30 M.cells)) (by have := HV12.out; omega) (by have := hx3.size; simp; omega)
      have H6 := Lib.hid ((h3.ext ((Kept.refl _ w3).alloc (.cells M.cells 30))).kept hk6 (fun i q => by
        refine ⟨?_, fun q2 => ?_⟩
        · have := (ho3.lt i q).1; have := HLT.out; omega
        · subst q2
          exact own_other ho3 (E' := 175) (by decide) i q _ _ h3.G))
      have hx6 := ((hx3.alloc (.cells M.cells 30)).trans' hk6 (fun i hi q => by have := (ho3.lt i q).1; omega))
      iterate 1 (refine wpList_step (fun K hK => ?_); go_simp; (try go_bits); refine hK _ _ ?_; clear hK K)
      refine wpList_app rfl (.tmp 16) (.tmp 19) 42 rfl rfl rfl rfl hr6 ?_
      clear hr6 h3 hk3 ho3
      have hw1 : IntKind.u64.wrap ((k : Int) + 1) = (k : Int) + 1 := by have := HV12.out; rw [IntKind.wrap_u64]; omega
      go_wp2_with fail
      go_roundw
      case rel =>
        refine ⟨k + 1, hlt, by go_num, ?_, ?_, hx6⟩
        · rw [HNX.out]; exact ho6
        · rw [HNX.out]; exact H6.out
      case measure => simp only [intOf]; omega
    · have hltI : ¬ (k : Int) < V := by omega
      have hkV : k = V := by omega
      have HR := Lib.hid (HEN.out hkV)
      have HKV := Lib.hid hkV
      clear hkV
      go_wp2_with fail
      go_ret
      refine ⟨_, rfl, ?_, ?_, HXX.out⟩
      · rw [HLEN.out, HR.out, ← HKV.out]; exact HO.out
      · rw [HR.out]; exact HRD.out
set_option maxRecDepth 100000 in
set_option maxHeartbeats 1000000 in
theorem gpath_any (rb gb : Nat) (A : Option Addr) (n cap : Nat) (l : List Int) (p : Nat) (e re : Int) (w : World) (h : Rd w rb gb A n cap l p e re) :
    Calls Tryz.prog 110 #[.pointer (some ⟨gb, 0, none⟩)] w fun r w' => ∃ v, r = .returned v ∧ w'.ownsRow w.heap.size 30 8 v (ppP l p e).2.2.length (digs (ppP l p e).2.2) ∧ Rd w' rb gb A n cap l (ppP l p e).1 (ppP l p e).2.1 re ∧ Kept (· = rb) w w' := by
  have H := Lib.hid (gsevd_any rb gb A n cap l p e re w h)
  clear h
  go_enter Tryz.func110, Tryz.ntmps110
  go_wp2_with fail
  refine H.out.mono ?_
  rintro r w1 ⟨v, rfl, h1, h2, h3⟩
  go_wp2_with fail
  go_ret
  exact ⟨_, rfl, h1, h2, h3⟩
end Go.Proofs.YtahljceanodhkaaGreatDoor

/- The program's Decode: word. -/
namespace Go.Proofs.YtahljceanodhkaaGreatDoor
open Go.RowKit
/-- the reading's own error behind a word -/
def pwE (re e2 : Int) (is_ : Int) : Int := if re = 0 ∧ e2 = 0 ∧ i32B is_ = false then 2 else re
/-- a word, as the program reads it -/
def pwP (l : List Int) (p : Nat) (e : Int) : Nat × Int × List Dg := ppP l (rdJ l p e).1 (rdJ l p e).2
def pwW (l : List Int) (p : Nat) (e : Int) : Wl := ⟨rdU l p e, wrap32 (rdI l p e), (pwP l p e).2.2⟩
theorem Rd.set {w : World} {rb gb : Nat} {A : Option Addr} {n cap : Nat} {l : List Int} {p : Nat} {e re : Int} (h : Rd w rb gb A n cap l p e re) (re' : Int) : Rd (w.setCell ⟨gb, 1, none⟩ (.int .i64 re')) rb gb A n cap l p e re' :=
  ⟨Blk.far h.R (fun q => by have := h.hg; simp at q; omega) _, Blk.set_ h.G 1 _, h.B.kept ((Kept.refl (· = gb) w).setCell _ _ (fun _ => rfl)) (fun i q => by have := h.hg; omega), h.hp, h.hg⟩
set_option maxRecDepth 100000 in
set_option maxHeartbeats 1000000 in
theorem gword_any (rb gb : Nat) (A : Option Addr) (n cap : Nat) (l : List Int) (p : Nat) (e re : Int) (w : World) (h : Rd w rb gb A n cap l p e re) :
    Calls Tryz.prog 112 #[.pointer (some ⟨gb, 0, none⟩)] w fun r w' => ∃ A' c', r = .returned (.agg #[.int .i64 (rdU l p e), .int .i32 (wrap32 (rdI l p e)), .slice A' (pwP l p e).2.2.length c']) ∧ PG 0 30 w' A' (pwP l p e).2.2.length (pwP l p e).2.2 ∧ Rd w' rb gb A n cap l (pwP l p e).1 (pwP l p e).2.1 (pwE re (rdJ l p e).2 (rdI l p e)) ∧ Kept (fun i => i = rb ∨ i = gb) w w' := by
  obtain ⟨U1, hU1⟩ : ∃ U, U = rdU l p e := ⟨_, rfl⟩
  obtain ⟨U2, hU2⟩ : ∃ U, U = rdI l p e := ⟨_, rfl⟩
  obtain ⟨⟨P2, E2⟩, hJ⟩ : ∃ q, q = rdJ l p e := ⟨_, rfl⟩
  obtain ⟨Q, hQ⟩ : ∃ q, q = pwP l p e := ⟨_, rfl⟩
  obtain ⟨RE, hRE⟩ : ∃ q, q = pwE re E2 U2 := ⟨_, rfl⟩
  have HQ := Lib.hid (show Q = ppP l P2 E2 by rw [hQ]; unfold pwP; rw [← hJ])
  have HJ := Lib.hid hJ
  have HU2 := Lib.hid hU2
  have HU1 := Lib.hid hU1
  have HREE := Lib.hid hRE
  rw [← hU1, ← hU2, ← hJ, ← hQ, ← hRE]
  clear hU1 hU2 hJ hQ hRE
  have H := Lib.hid h
  clear h
  have hlt : rb < w.heap.size := H.out.R.lt
  have hlg : gb < w.heap.size := H.out.G.lt
  have x0 : Ext w (w.alloc (.cells #[.int .i64 0, .int .i32 0, .slice none 0 0] 77)) := (Kept.refl _ w).alloc _
  have hD := Blk.new w 77 #[.int .i64 0, .int .i32 0, .slice none 0 0]
  have H0 := Lib.hid (H.out.ext x0)
  go_enter Tryz.func112, Tryz.ntmps112
  go_upto_region 1 with (fail)
  generalize (w.alloc (.cells #[.int .i64 0, .int .i32 0, .slice none 0 0] 77)) = W at x0 hD H0 ⊢
  obtain ⟨db, hdb⟩ : ∃ db, db = w.heap.size := ⟨_, rfl⟩
  rw [← hdb] at hD ⊢
  have HNE := Lib.hid (show ¬ db = rb ∧ rb < db ∧ ¬ db = gb ∧ w.heap.size ≤ db from ⟨by omega, by omega, by omega, by omega⟩)
  clear hdb hlt hlg
  have HD := Lib.hid hD
  clear hD
  go_wp2_with fail
  refine (gint_any rb gb A n cap l p e re W H0.out).mono ?_
  rintro r w1 ⟨rfl, h1, hk1⟩
  rw [← HU1.out]
  have H1 := Lib.hid h1
  clear h1
  go_wp2_with fail
  refine (gint_any rb gb A n cap l _ _ re _ H1.out).mono ?_
  rintro r w2 ⟨rfl, h2, hk2⟩
  rw [show rdU l (rdA l allN p e) (rdE l allN p e) = U2 from HU2.out.symm]
  have H2 := Lib.hid (show Rd w2 rb gb A n cap l P2 E2 re by
    have q := HJ.out
    injection q with q1 q2
    rw [q1, q2]
    exact h2)
  have HK2 := Lib.hid (((x0.mono (fun _ _ f => f.elim) : Kept (· = rb) w W).trans hk1).trans hk2)
  have HD2 := Lib.hid (Blk.kept (Blk.kept HD.out hk1 HNE.out.1) hk2 HNE.out.1)
  clear h2 hk1 hk2 x0
  have cG := Blk.cell H2.out.G
  have lG := H2.out.G.lt
  have fG := Blk.frozen H2.out.G
  have HKK := Lib.hid (HK2.out.mono (fun i _ q => (.inl q : i = rb ∨ i = gb)))
  by_cases hre : re = 0
  · subst hre
    by_cases he2 : E2 = 0
    · subst he2
      by_cases hi : i32B U2 = true
      · have h3 : ¬ U2 < -2147483648 := by unfold i32B at hi; simp at hi; omega
        have h4 : ¬ (2147483647 : Int) < U2 := by unfold i32B at hi; simp at hi; omega
        have HRE := Lib.hid (show RE = 0 by rw [HREE.out]; unfold pwE; rw [hi]; simp)
        have HZ := Lib.hid (show wrap32 U2 = U2 by unfold wrap32; omega)
        clear hi
        go_wp2_with fail
        refine (oerr_any A n cap P2 0 rb _ H2.out.R).mono ?_
        rintro r w3 ⟨rfl, rfl⟩
        go_upto_region 4 with (fail)
        have H4 := H2
        have HD4 := HD2
        have HK4 := HKK
        clear cG lG
        have cG := Blk.cell H4.out.G
        have lG := H4.out.G.lt
        go_wp2_with fail
        refine (gpath_any rb gb A n cap l P2 _ _ _ H4.out).mono ?_
        rintro r w5 ⟨v, rfl, ho5, h5, hk5⟩
        rw [← HQ.out] at ho5 h5
        obtain ⟨A5, c5, rfl, hp5⟩ := PG.of_own (N := 0) ho5
        have H5 := Lib.hid h5
        have HP5 := Lib.hid hp5
        have hD5 := Blk.kept HD4.out hk5 (fun q => HNE.out.1 q)
        have HK5 := Lib.hid (HK4.out.trans (hk5.mono (fun i _ q => .inl q)))
        clear ho5 h5 hp5 hk5
        have hmD := hD5.melts
        have hhD := Blk.has hD5
        have hlD := hD5.lt
        have HD5 := Lib.hid hD5
        go_wp2_with fail
        have hkd : ∀ vs, Kept (· = db) w5 (putAt w5 db 0 vs) := fun vs => Kept.putAt (Kept.refl (· = db) w5) db 0 _ (fun _ => rfl)
        refine ret_cell Tryz.results112 rfl rfl aggWword (by exact sizeWword) (Blk.put_ HD5.out _ _) ⟨A5, c5, ?_, ?_, ?_, ?_⟩
        · first | rfl | (rw [show wrap32 U2 = U2 from HZ.out]; rfl)
        · exact HP5.out.kept (hkd _) (fun i q => ⟨Nat.zero_le _, by subst q; exact step_not HD5.out (by decide)⟩)
        · rw [HRE.out]
          exact H5.out.kept (hkd _) (fun i q => by subst q; exact ⟨HNE.out.2.1, HNE.out.2.2.1⟩)
        · exact HK5.out.putAt _ _ _ (fun hlt => absurd hlt (by have := HNE.out; omega))
      · have hi' : i32B U2 = false := by simpa using hi
        have HRE := Lib.hid (show RE = 2 by rw [HREE.out]; unfold pwE; rw [hi', if_pos ⟨rfl, rfl, rfl⟩])
        have h34 : U2 < -2147483648 ∨ (2147483647 : Int) < U2 := by unfold i32B at hi'; simp at hi'; omega
        clear hi hi'
        rcases h34 with h3 | h4
        · go_wp2_with fail
          refine (oerr_any A n cap P2 0 rb _ H2.out.R).mono ?_
          rintro r w3 ⟨rfl, rfl⟩
          go_upto_region 4 with (fail)
          have H4 := Lib.hid (H2.out.set 2)
          have HD4 := Lib.hid (Blk.far HD2.out (p := ⟨gb, 1, none⟩) (fun q => HNE.out.2.2.1 q) (.int .i64 2))
          have HK4 := Lib.hid (HKK.out.setCell ⟨gb, 1, none⟩ (.int .i64 2) (fun _ => .inr rfl))
          clear fG
          clear cG lG
          have cG := Blk.cell H4.out.G
          have lG := H4.out.G.lt
          go_wp2_with fail
          refine (gpath_any rb gb A n cap l P2 _ _ _ H4.out).mono ?_
          rintro r w5 ⟨v, rfl, ho5, h5, hk5⟩
          rw [← HQ.out] at ho5 h5
          obtain ⟨A5, c5, rfl, hp5⟩ := PG.of_own (N := 0) ho5
          have H5 := Lib.hid h5
          have HP5 := Lib.hid hp5
          have hD5 := Blk.kept HD4.out hk5 (fun q => HNE.out.1 q)
          have HK5 := Lib.hid (HK4.out.trans (hk5.mono (fun i _ q => .inl q)))
          clear ho5 h5 hp5 hk5
          have hmD := hD5.melts
          have hhD := Blk.has hD5
          have hlD := hD5.lt
          have HD5 := Lib.hid hD5
          go_wp2_with fail
          have hkd : ∀ vs, Kept (· = db) w5 (putAt w5 db 0 vs) := fun vs => Kept.putAt (Kept.refl (· = db) w5) db 0 _ (fun _ => rfl)
          refine ret_cell Tryz.results112 rfl rfl aggWword (by exact sizeWword) (Blk.put_ HD5.out _ _) ⟨A5, c5, ?_, ?_, ?_, ?_⟩
          · first | rfl | (rw [show wrap32 U2 = U2 from HZ.out]; rfl)
          · exact HP5.out.kept (hkd _) (fun i q => ⟨Nat.zero_le _, by subst q; exact step_not HD5.out (by decide)⟩)
          · rw [HRE.out]
            exact H5.out.kept (hkd _) (fun i q => by subst q; exact ⟨HNE.out.2.1, HNE.out.2.2.1⟩)
          · exact HK5.out.putAt _ _ _ (fun hlt => absurd hlt (by have := HNE.out; omega))
        · have h3 : ¬ U2 < -2147483648 := by omega
          go_wp2_with fail
          refine (oerr_any A n cap P2 0 rb _ H2.out.R).mono ?_
          rintro r w3 ⟨rfl, rfl⟩
          go_upto_region 4 with (fail)
          have H4 := Lib.hid (H2.out.set 2)
          have HD4 := Lib.hid (Blk.far HD2.out (p := ⟨gb, 1, none⟩) (fun q => HNE.out.2.2.1 q) (.int .i64 2))
          have HK4 := Lib.hid (HKK.out.setCell ⟨gb, 1, none⟩ (.int .i64 2) (fun _ => .inr rfl))
          clear fG
          clear cG lG
          have cG := Blk.cell H4.out.G
          have lG := H4.out.G.lt
          go_wp2_with fail
          refine (gpath_any rb gb A n cap l P2 _ _ _ H4.out).mono ?_
          rintro r w5 ⟨v, rfl, ho5, h5, hk5⟩
          rw [← HQ.out] at ho5 h5
          obtain ⟨A5, c5, rfl, hp5⟩ := PG.of_own (N := 0) ho5
          have H5 := Lib.hid h5
          have HP5 := Lib.hid hp5
          have hD5 := Blk.kept HD4.out hk5 (fun q => HNE.out.1 q)
          have HK5 := Lib.hid (HK4.out.trans (hk5.mono (fun i _ q => .inl q)))
          clear ho5 h5 hp5 hk5
          have hmD := hD5.melts
          have hhD := Blk.has hD5
          have hlD := hD5.lt
          have HD5 := Lib.hid hD5
          go_wp2_with fail
          have hkd : ∀ vs, Kept (· = db) w5 (putAt w5 db 0 vs) := fun vs => Kept.putAt (Kept.refl (· = db) w5) db 0 _ (fun _ => rfl)
          refine ret_cell Tryz.results112 rfl rfl aggWword (by exact sizeWword) (Blk.put_ HD5.out _ _) ⟨A5, c5, ?_, ?_, ?_, ?_⟩
          · first | rfl | (rw [show wrap32 U2 = U2 from HZ.out]; rfl)
          · exact HP5.out.kept (hkd _) (fun i q => ⟨Nat.zero_le _, by subst q; exact step_not HD5.out (by decide)⟩)
          · rw [HRE.out]
            exact H5.out.kept (hkd _) (fun i q => by subst q; exact ⟨HNE.out.2.1, HNE.out.2.2.1⟩)
          · exact HK5.out.putAt _ _ _ (fun hlt => absurd hlt (by have := HNE.out; omega))
    · have hb2 : (E2 == 0) = false := by simp [he2]
      have HRE := Lib.hid (show RE = 0 by rw [HREE.out]; unfold pwE; exact if_neg (fun q => he2 q.2.1))
      clear he2
      go_wp2_with fail
      refine (oerr_any A n cap P2 E2 rb _ H2.out.R).mono ?_
      rintro r w3 ⟨rfl, rfl⟩
      go_upto_region 4 with (fail)
      have H4 := H2
      have HD4 := HD2
      have HK4 := HKK
      clear cG lG
      have cG := Blk.cell H4.out.G
      have lG := H4.out.G.lt
      go_wp2_with fail
      refine (gpath_any rb gb A n cap l P2 _ _ _ H4.out).mono ?_
      rintro r w5 ⟨v, rfl, ho5, h5, hk5⟩
      rw [← HQ.out] at ho5 h5
      obtain ⟨A5, c5, rfl, hp5⟩ := PG.of_own (N := 0) ho5
      have H5 := Lib.hid h5
      have HP5 := Lib.hid hp5
      have hD5 := Blk.kept HD4.out hk5 (fun q => HNE.out.1 q)
      have HK5 := Lib.hid (HK4.out.trans (hk5.mono (fun i _ q => .inl q)))
      clear ho5 h5 hp5 hk5
      have hmD := hD5.melts
      have hhD := Blk.has hD5
      have hlD := hD5.lt
      have HD5 := Lib.hid hD5
      go_wp2_with fail
      have hkd : ∀ vs, Kept (· = db) w5 (putAt w5 db 0 vs) := fun vs => Kept.putAt (Kept.refl (· = db) w5) db 0 _ (fun _ => rfl)
      refine ret_cell Tryz.results112 rfl rfl aggWword (by exact sizeWword) (Blk.put_ HD5.out _ _) ⟨A5, c5, ?_, ?_, ?_, ?_⟩
      · first | rfl | (rw [show wrap32 U2 = U2 from HZ.out]; rfl)
      · exact HP5.out.kept (hkd _) (fun i q => ⟨Nat.zero_le _, by subst q; exact step_not HD5.out (by decide)⟩)
      · rw [HRE.out]
        exact H5.out.kept (hkd _) (fun i q => by subst q; exact ⟨HNE.out.2.1, HNE.out.2.2.1⟩)
      · exact HK5.out.putAt _ _ _ (fun hlt => absurd hlt (by have := HNE.out; omega))
  · have hb2 : (re == 0) = false := by simp [hre]
    have HRE := Lib.hid (show RE = re by rw [HREE.out]; unfold pwE; exact if_neg (fun q => hre q.1))
    clear hre
    go_upto_region 4 with (fail)
    have H4 := H2
    have HD4 := HD2
    have HK4 := HKK
    clear cG lG
    have cG := Blk.cell H4.out.G
    have lG := H4.out.G.lt
    go_wp2_with fail
    refine (gpath_any rb gb A n cap l P2 _ _ _ H4.out).mono ?_
    rintro r w5 ⟨v, rfl, ho5, h5, hk5⟩
    rw [← HQ.out] at ho5 h5
    obtain ⟨A5, c5, rfl, hp5⟩ := PG.of_own (N := 0) ho5
    have H5 := Lib.hid h5
    have HP5 := Lib.hid hp5
    have hD5 := Blk.kept HD4.out hk5 (fun q => HNE.out.1 q)
    have HK5 := Lib.hid (HK4.out.trans (hk5.mono (fun i _ q => .inl q)))
    clear ho5 h5 hp5 hk5
    have hmD := hD5.melts
    have hhD := Blk.has hD5
    have hlD := hD5.lt
    have HD5 := Lib.hid hD5
    go_wp2_with fail
    have hkd : ∀ vs, Kept (· = db) w5 (putAt w5 db 0 vs) := fun vs => Kept.putAt (Kept.refl (· = db) w5) db 0 _ (fun _ => rfl)
    refine ret_cell Tryz.results112 rfl rfl aggWword (by exact sizeWword) (Blk.put_ HD5.out _ _) ⟨A5, c5, ?_, ?_, ?_, ?_⟩
    · first | rfl | (rw [show wrap32 U2 = U2 from HZ.out]; rfl)
    · exact HP5.out.kept (hkd _) (fun i q => ⟨Nat.zero_le _, by subst q; exact step_not HD5.out (by decide)⟩)
    · rw [HRE.out]
      exact H5.out.kept (hkd _) (fun i q => by subst q; exact ⟨HNE.out.2.1, HNE.out.2.2.1⟩)
    · exact HK5.out.putAt _ _ _ (fun hlt => absurd hlt (by have := HNE.out; omega))
end Go.Proofs.YtahljceanodhkaaGreatDoor

/- The program's Decode: words. -/
namespace Go.Proofs.YtahljceanodhkaaGreatDoor
open Go.RowKit
/-- words, as the program reads them: k, whatever happens -/
def pwK (l : List Int) (p0 : Nat) (e0 re0 : Int) : Nat → Nat × Int × Int × List Wl
  | 0 => (p0, e0, re0, [])
  | k + 1 => ((pwP l (pwK l p0 e0 re0 k).1 (pwK l p0 e0 re0 k).2.1).1, (pwP l (pwK l p0 e0 re0 k).1 (pwK l p0 e0 re0 k).2.1).2.1, pwE (pwK l p0 e0 re0 k).2.2.1 (rdJ l (pwK l p0 e0 re0 k).1 (pwK l p0 e0 re0 k).2.1).2 (rdI l (pwK l p0 e0 re0 k).1 (pwK l p0 e0 re0 k).2.1), (pwK l p0 e0 re0 k).2.2.2 ++ [pwW l (pwK l p0 e0 re0 k).1 (pwK l p0 e0 re0 k).2.1])
theorem pwK_len (l : List Int) (p : Nat) (e re : Int) : ∀ k, (pwK l p e re k).2.2.2.length = k
  | 0 => rfl
  | k + 1 => by
    have := pwK_len l p e re k
    show ((pwK l p e re k).2.2.2 ++ [pwW l (pwK l p e re k).1 (pwK l p e re k).2.1]).length = _
    rw [List.length_append, this]; rfl
/-- words, as the program reads them -/
def pwS (l : List Int) (most : Int) (p : Nat) (e re : Int) : Nat × Int × Int × List Wl := pwK l (rdA l most p e) (rdE l most p e) re (rdV l most p e).toNat
set_option maxRecDepth 100000 in
set_option maxHeartbeats 1000000 in
theorem gsevw_any (rb gb : Nat) (A : Option Addr) (n cap : Nat) (l : List Int) (p : Nat) (e re : Int) (most : Int) (hm0 : 0 ≤ most) (hm : most ≤ 100) (w : World) (h : Rd w rb gb A n cap l p e re) :
    Calls Tryz.prog 111 #[.pointer (some ⟨gb, 0, none⟩), .int .u64 most, .func (.func 112) #[.pointer (some ⟨gb, 0, none⟩)] #[]] w fun r w' => ∃ v ds, r = .returned v ∧ w'.ownsRow w.heap.size 77 3 v (pwS l most p e re).2.2.2.length (wds ds) ∧ WsG 0 30 w' ds (pwS l most p e re).2.2.2 ∧ Rd w' rb gb A n cap l (pwS l most p e re).1 (pwS l most p e re).2.1 (pwS l most p e re).2.2.1 ∧ Kept (fun i => i = rb ∨ i = gb) w w' := by
  obtain ⟨E, hE⟩ : ∃ E, E = rdE l most p e := ⟨_, rfl⟩
  obtain ⟨P, hP⟩ : ∃ P, P = rdA l most p e := ⟨_, rfl⟩
  obtain ⟨V, hV⟩ : ∃ V : Nat, V = (rdV l most p e).toNat := ⟨_, rfl⟩
  obtain ⟨R, hR⟩ : ∃ R, R = pwS l most p e re := ⟨_, rfl⟩
  have hV1 : (V : Int) = rdV l most p e := by
    have := (rdV_bd h.B.2.2.2.1 most p e).1
    omega
  have HV12 := Lib.hid (show V ≤ 100 by have := rdV_most (l := l) hm0 p e; omega)
  have HRR := Lib.hid (show R = pwK l P E re V by rw [hR, hE, hV, hP]; rfl)
  have HLEN := Lib.hid (show R.2.2.2.length = V by rw [HRR.out]; exact pwK_len _ _ _ _ _)
  rw [← hR]
  have HE := Lib.hid hE
  have HP := Lib.hid hP
  have HV := Lib.hid hV1
  clear hE hP hV hV1 hR
  have H := Lib.hid h
  clear h
  have HLT := Lib.hid (show rb < w.heap.size ∧ gb < w.heap.size from ⟨H.out.R.lt, H.out.G.lt⟩)
  have cG := Blk.cell H.out.G
  have lG := H.out.G.lt
  go_enter Tryz.func111, Tryz.ntmps111
  go_wp2_with fail
  refine (onum_any A n cap l p e most rb rb w (Nat.le_refl _) H.out.B H.out.hp H.out.R).mono ?_
  rintro r w1 ⟨rfl, h1, h2⟩
  have H1 := Lib.hid (H.out.moved h2 h1 (H.out.le _))
  have HK1 := Lib.hid (h2.mono (fun i _ q => (.inl q : i = rb ∨ i = gb)))
  rw [← HV.out]
  rw [← HE.out, ← HP.out] at H1
  clear h1 h2 cG lG
  go_wp2_with fail
  go_loopw [7, 14] (fun t7 t14 wr => ∃ (k : Nat) (ds : List Wd), k ≤ V ∧ t14 = .int .u64 k ∧ wr.ownsRow w.heap.size 77 3 t7 k (wds ds) ∧ WsG 0 30 wr ds (pwK l P E re k).2.2.2 ∧ Rd wr rb gb A n cap l (pwK l P E re k).1 (pwK l P E re k).2.1 (pwK l P E re k).2.2.1 ∧ Kept (fun i => i = rb ∨ i = gb) w wr) (fun _ t14 _ => V - (intOf t14).toNat)
  case atStart => exact ⟨0, [], Nat.zero_le _, rfl, World.ownsRow_nil _ _ _ _, .nil, H1.out, HK1.out⟩
  case round =>
    obtain ⟨k, ds, hk, rfl, ho, hws, hrd, hx⟩ := hrel
    have hnx : pwK l P E re (k + 1) = ((pwP l (pwK l P E re k).1 (pwK l P E re k).2.1).1, (pwP l (pwK l P E re k).1 (pwK l P E re k).2.1).2.1, pwE (pwK l P E re k).2.2.1 (rdJ l (pwK l P E re k).1 (pwK l P E re k).2.1).2 (rdI l (pwK l P E re k).1 (pwK l P E re k).2.1), (pwK l P E re k).2.2.2 ++ [pwW l (pwK l P E re k).1 (pwK l P E re k).2.1]) := rfl
    have hen : k = V → R = pwK l P E re k := fun q => by rw [HRR.out, q]
    obtain ⟨⟨p1, e1, r1, xs⟩, hq⟩ : ∃ q, q = pwK l P E re k := ⟨_, rfl⟩
    rw [← hq] at hws hrd hnx hen
    simp only at hws hrd hnx hen
    clear hq
    have HNX := Lib.hid hnx
    have HEN := Lib.hid hen
    have HO := Lib.hid ho
    have HRD := Lib.hid hrd
    have HWS := Lib.hid hws
    have HXX := Lib.hid hx
    have HOB := Lib.hid (show ∀ g, (u7 : Value).ownBlock = some g → ¬ (g = rb ∨ g = gb) from fun g hg q => by have := (HO.out.lt g hg).1; have := HLT.out; omega)
    clear hnx hen ho hrd hx hws
    by_cases hlt : k < V
    · have hltI : (k : Int) < V := by omega
      go_upto_region 4 with (fail)
      go_step
      iterate 2 (refine wpList_step (fun K hK => ?_); go_simp; (try go_bits); refine hK _ _ ?_; clear hK K)
      refine wpList_step (fun K hK => ?_)
      go_wp2_with fail
      refine (gword_any rb gb A n cap l p1 e1 r1 _ HRD.out).mono ?_
      rintro r w3 ⟨A', c', rfl, hp3, h3, hk3⟩
      refine hK _ _ ?_
      clear hK K
      obtain ⟨M, hM⟩ : ∃ M, M = pwW l p1 e1 := ⟨_, rfl⟩
      obtain ⟨U1, hU1⟩ : ∃ M, M = rdU l p1 e1 := ⟨_, rfl⟩
      obtain ⟨U2, hU2⟩ : ∃ M, M = wrap32 (rdI l p1 e1) := ⟨_, rfl⟩
      obtain ⟨Q, hQ⟩ : ∃ M, M = pwP l p1 e1 := ⟨_, rfl⟩
      have HM := Lib.hid (show M = ⟨U1, U2, Q.2.2⟩ by rw [hM, hU1, hU2, hQ]; rfl)
      rw [← hQ, ← hM] at HNX
      rw [← hU1, ← hU2, ← hQ]
      rw [← hQ] at hp3 h3
      clear hM hU1 hU2 hQ
      have ho3 := own_kept HO.out hk3 (fun g hg q => HOB.out g hg q)
      have hx3 := HXX.out.trans hk3
      have hw3 := HWS.out.kept hk3 (fun i q => ⟨Nat.zero_le _, by
        rcases q with q | q
        · subst q; exact step_not HRD.out.R (by decide)
        · subst q; exact step_not HRD.out.G (by decide)⟩)
      have y3 : Ext w3 (w3.alloc (.cells #[.int .i64 U1, .int .i32 U2, .slice A' Q.2.2.length c'] 77)) := (Kept.refl _ w3).alloc _
      obtain ⟨v6, w6, hr6, ho6, hk6⟩ := appW (w3.alloc (.cells #[.int .i64 U1, .int .i32 U2, .slice A' Q.2.2.length c'] 77)) _ _ _ ds (ho3.alloc _) w3.heap.size 0 1 1 [⟨U1, U2, A', Q.2.2.length, c'⟩] rfl (by simpa [wds] using Row.of_blk (Blk.new w3 77 #[.int .i64 U1, .int .i32 U2, .slice A' Q.2.2.length c'])) (by have := HV12.out; omega) (by have := hx3.size; simp; omega)
      have hoD : ∀ cur fr, ∀ i, (u7 : Value).ownBlock = some i → ¬ (w3.alloc (.cells #[.int .i64 U1, .int .i32 U2, .slice A' Q.2.2.length c'] 77)).heap[i]? = some (.cells cur 30 fr) := fun cur fr i q => own_other (own_ext ho3 y3) (E' := 30) (by decide) i q cur fr
      have H6 := Lib.hid ((h3.ext y3).kept hk6 (fun i q => by
        have q0 := (ho3.lt i q).1
        have q1 := HLT.out
        exact ⟨by omega, by omega⟩))
      have hw6 := (hw3.ext y3).kept hk6 (fun i q => ⟨Nat.zero_le _, fun cur fr => hoD cur fr i q⟩)
      have hp6 := (hp3.ext y3).kept hk6 (fun i q => ⟨Nat.zero_le _, fun cur fr => hoD cur fr i q⟩)
      have HW6 := Lib.hid (show WsG 0 30 w6 (ds ++ [⟨U1, U2, A', Q.2.2.length, c'⟩]) (xs ++ [M]) from hw6.snoc (by rw [HM.out]; exact ⟨rfl, rfl, hp6⟩))
      have hx6 := ((hx3.alloc (.cells #[.int .i64 U1, .int .i32 U2, .slice A' Q.2.2.length c'] 77)).trans' hk6 (fun i hi q => by have := (ho3.lt i q).1; omega))
      iterate 1 (refine wpList_step (fun K hK => ?_); go_simp; (try go_bits); refine hK _ _ ?_; clear hK K)
      refine wpList_app rfl (.tmp 16) (.tmp 19) 43 rfl rfl rfl rfl hr6 ?_
      clear hr6 h3 hk3 ho3 hw3 hw6 hp6 hp3 y3 hoD
      have hw1 : IntKind.u64.wrap ((k : Int) + 1) = (k : Int) + 1 := by have := HV12.out; rw [IntKind.wrap_u64]; omega
      go_wp2_with fail
      go_roundw
      case rel =>
        refine ⟨k + 1, ds ++ [⟨U1, U2, A', Q.2.2.length, c'⟩], hlt, by go_num, ho6, ?_, ?_, hx6⟩
        · rw [HNX.out]; exact HW6.out
        · rw [HNX.out]; exact H6.out
      case measure => simp only [intOf]; omega
    · have hltI : ¬ (k : Int) < V := by omega
      have hkV : k = V := by omega
      have HR := Lib.hid (HEN.out hkV)
      have HKV := Lib.hid hkV
      clear hkV
      go_wp2_with fail
      go_ret
      refine ⟨_, rfl, ds, ?_, ?_, ?_, HXX.out⟩
      · rw [HLEN.out, ← HKV.out]; exact HO.out
      · rw [HR.out]; exact HWS.out
      · rw [HR.out]; exact HRD.out
end Go.Proofs.YtahljceanodhkaaGreatDoor

/- The plain law of Decode: the program's reading and the document's come to the same. -/
namespace Go.Proofs.YtahljceanodhkaaGreatDoor
theorem pp_pth (l : List Int) (p : Nat) (e : Int) : ∀ k, (ppK l p e k).1 = (pthK l p e k).1 ∧ (ppK l p e k).2.1 = (pthK l p e k).2.1 ∧ ((pthK l p e k).2.1 = 0 → (ppK l p e k).2.2 = (pthK l p e k).2.2)
  | 0 => ⟨rfl, rfl, fun _ => rfl⟩
  | k + 1 => by
    obtain ⟨h1, h2, h3⟩ := pp_pth l p e k
    have hs : pthK l p e (k + 1) = if (pthK l p e k).2.1 = 0 then (rdA l allN (pthK l p e k).1 0, rdE l allN (pthK l p e k).1 0, (pthK l p e k).2.2 ++ [dgN (rdV l allN (pthK l p e k).1 0)]) else pthK l p e k := rfl
    have ht : ppK l p e (k + 1) = (rdA l allN (ppK l p e k).1 (ppK l p e k).2.1, rdE l allN (ppK l p e k).1 (ppK l p e k).2.1, (ppK l p e k).2.2 ++ [dgN (rdV l allN (ppK l p e k).1 (ppK l p e k).2.1)]) := rfl
    rw [hs, ht, h1, h2]
    by_cases h : (pthK l p e k).2.1 = 0
    · rw [if_pos h, h]
      exact ⟨rfl, rfl, fun _ => by rw [h3 h]⟩
    · rw [if_neg h]
      obtain ⟨q1, q2, q3⟩ := rd_bad (l := l) (most := allN) (at_ := (pthK l p e k).1) h
      exact ⟨q2, q1, fun q => absurd q h⟩
theorem ppP_rdP (l : List Int) (p : Nat) (e : Int) : (ppP l p e).1 = (rdP l p e).1 ∧ (ppP l p e).2.1 = (rdP l p e).2.1 ∧ ((rdP l p e).2.1 = 0 → (ppP l p e).2.2 = (rdP l p e).2.2) := pp_pth _ _ _ _
theorem rdP_bad (l : List Int) (p : Nat) {e : Int} (h : ¬ e = 0) : rdP l p e = (p, e, []) := by
  obtain ⟨q1, q2, q3⟩ := rd_bad (l := l) (most := 12) (at_ := p) h
  unfold rdP
  rw [q1, q2, q3]
  rfl
theorem ppP_bad (l : List Int) (p : Nat) {e : Int} (h : ¬ e = 0) : ppP l p e = (p, e, []) := by
  obtain ⟨q1, q2, q3⟩ := rd_bad (l := l) (most := 12) (at_ := p) h
  unfold ppP
  rw [q1, q2, q3]
  rfl
theorem rdJ_bad (l : List Int) (p : Nat) {e : Int} (h : ¬ e = 0) : rdJ l p e = (p, e) := by
  obtain ⟨q1, q2, q3⟩ := rd_bad (l := l) (most := allN) (at_ := p) h
  unfold rdJ
  rw [q1, q2, q1, q2]
/-- the document's place and error, the program's place and two errors -/
def Sim (p : Nat) (d : Int) (p' : Nat) (e re : Int) : Prop := (re = 0 ∧ d = e ∧ p = p') ∨ (¬ re = 0 ∧ d = re)
theorem pwE_keep {re e2 is_ : Int} (h : ¬ re = 0) : pwE re e2 is_ = re := by unfold pwE; exact if_neg (fun q => h q.1)
theorem sim_words (l : List Int) (p0 : Nat) (d0 : Int) (p0' : Nat) (e0 re0 : Int) (h0 : Sim p0 d0 p0' e0 re0) : ∀ k, Sim (wrdK l p0 d0 k).1 (wrdK l p0 d0 k).2.1 (pwK l p0' e0 re0 k).1 (pwK l p0' e0 re0 k).2.1 (pwK l p0' e0 re0 k).2.2.1 ∧ ((wrdK l p0 d0 k).2.1 = 0 → (pwK l p0' e0 re0 k).2.2.2 = (wrdK l p0 d0 k).2.2)
  | 0 => ⟨h0, fun _ => rfl⟩
  | k + 1 => by
    obtain ⟨hS, hL⟩ := sim_words l p0 d0 p0' e0 re0 h0 k
    have hs : wrdK l p0 d0 (k + 1) = if (wrdK l p0 d0 k).2.1 = 0 then ((rdW l (wrdK l p0 d0 k).1 0).1, (rdW l (wrdK l p0 d0 k).1 0).2.1, (wrdK l p0 d0 k).2.2 ++ [(rdW l (wrdK l p0 d0 k).1 0).2.2]) else wrdK l p0 d0 k := rfl
    have ht : pwK l p0' e0 re0 (k + 1) = ((pwP l (pwK l p0' e0 re0 k).1 (pwK l p0' e0 re0 k).2.1).1, (pwP l (pwK l p0' e0 re0 k).1 (pwK l p0' e0 re0 k).2.1).2.1, pwE (pwK l p0' e0 re0 k).2.2.1 (rdJ l (pwK l p0' e0 re0 k).1 (pwK l p0' e0 re0 k).2.1).2 (rdI l (pwK l p0' e0 re0 k).1 (pwK l p0' e0 re0 k).2.1), (pwK l p0' e0 re0 k).2.2.2 ++ [pwW l (pwK l p0' e0 re0 k).1 (pwK l p0' e0 re0 k).2.1]) := rfl
    obtain ⟨⟨p, d, xs⟩, hq⟩ : ∃ q, q = wrdK l p0 d0 k := ⟨_, rfl⟩
    obtain ⟨⟨p', e, re, ys⟩, hr⟩ : ∃ q, q = pwK l p0' e0 re0 k := ⟨_, rfl⟩
    rw [← hq] at hS hL hs
    rw [← hr] at hS hL ht
    simp only at hS hL hs ht
    rw [hs, ht]
    clear hs ht hq hr
    rcases hS with ⟨hre, hd, hp⟩ | ⟨hre, hd⟩
    · subst hre
      subst hd
      subst hp
      by_cases h : d = 0
      · rw [if_pos h]
        subst h
        have hl := hL rfl
        subst hl
        obtain ⟨⟨P, J⟩, hJ⟩ : ∃ q, q = rdJ l p 0 := ⟨_, rfl⟩
        obtain ⟨a1, a2, a3⟩ := ppP_rdP l P J
        unfold rdW pwW pwP rdF pwE
        rw [← hJ]
        simp only
        by_cases hb : J = 0 ∧ i32B (rdI l p 0) = false
        · rw [if_pos hb, if_pos ⟨trivial, hb.1, hb.2⟩, rdP_bad l P (by decide : ¬ (2 : Int) = 0)]
          exact ⟨.inr ⟨by decide, rfl⟩, fun q => absurd q (show ¬ (2 : Int) = 0 by decide)⟩
        · rw [if_neg hb, if_neg (fun q => hb ⟨q.2.1, q.2.2⟩)]
          exact ⟨.inl ⟨rfl, a2.symm, a1.symm⟩, fun q => by rw [a3 q]⟩
      · rw [if_neg h]
        unfold pwP pwE
        rw [rdJ_bad l p h]
        simp only
        rw [ppP_bad l p h, if_neg (fun q => h q.2.1)]
        exact ⟨.inl ⟨rfl, rfl, rfl⟩, fun q => absurd q h⟩
    · have h : ¬ d = 0 := by rw [hd]; exact hre
      rw [if_neg h, pwE_keep hre]
      exact ⟨.inr ⟨hre, hd⟩, fun q => absurd q h⟩
theorem wrdK_bad {l : List Int} {p : Nat} {d : Int} (h : ¬ d = 0) (k : Nat) : wrdK l p d k = (p, d, []) := by
  have := wrdK_stay (l := l) (a := p) (e := d) (k := 0) h k
  rw [Nat.zero_add] at this
  exact this
theorem pwK_keep {l : List Int} {p : Nat} {e re : Int} (h : ¬ re = 0) : ∀ k, (pwK l p e re k).2.2.1 = re
  | 0 => rfl
  | k + 1 => by
    have ih := pwK_keep (l := l) (p := p) (e := e) h k
    show pwE (pwK l p e re k).2.2.1 _ _ = re
    rw [ih, pwE_keep h]
theorem sim_ws (l : List Int) (most : Int) (p : Nat) (d : Int) (p' : Nat) (e re : Int) (h : Sim p d p' e re) : Sim (rdWs l most p d).1 (rdWs l most p d).2.1 (pwS l most p' e re).1 (pwS l most p' e re).2.1 (pwS l most p' e re).2.2.1 ∧ ((rdWs l most p d).2.1 = 0 → d = 0 ∧ (pwS l most p' e re).2.2.2 = (rdWs l most p d).2.2) := by
  rcases h with ⟨hre, hd, hp⟩ | ⟨hre, hd⟩
  · subst hre
    subst hd
    subst hp
    obtain ⟨h1, h2⟩ := sim_words l (rdA l most p d) (rdE l most p d) (rdA l most p d) (rdE l most p d) 0 (.inl ⟨rfl, rfl, rfl⟩) (rdV l most p d).toNat
    refine ⟨h1, fun q => ⟨?_, h2 q⟩⟩
    by_cases h : d = 0
    · exact h
    · exfalso
      obtain ⟨q1, q2, q3⟩ := rd_bad (l := l) (most := most) (at_ := p) h
      unfold rdWs at q
      rw [q1, q2, q3, wrdK_bad h] at q
      exact h q
  · have h : ¬ d = 0 := by rw [hd]; exact hre
    obtain ⟨q1, q2, q3⟩ := rd_bad (l := l) (most := most) (at_ := p) h
    have e1 : rdWs l most p d = (p, d, []) := by unfold rdWs; rw [q1, q2, q3, wrdK_bad h]
    have e2 : (pwS l most p' e re).2.2.1 = re := pwK_keep hre _
    rw [e1, e2]
    exact ⟨.inr ⟨hre, hd⟩, fun q => absurd q h⟩
def pdP (l : List Int) : Nat × Int × List Dg := ppP l (dcK l 8).1 (dcK l 8).2
def pdR (l : List Int) : Nat × Int × Int × List Wl := pwS l 3 (pdP l).1 (pdP l).2.1 0
def pdW (l : List Int) : Nat × Int × Int × List Wl := pwS l 1 (pdR l).1 (pdR l).2.1 (pdR l).2.2.1
/-- what the program's Decode says -/
def pdS (l : List Int) : Sl := ⟨dcU l 0, dcU l 1, dcU l 2, dgN (rdV l allN (dcK l 3).1 (dcK l 3).2), ⟨dcU l 4, dcU l 5, dcU l 6, dcU l 7⟩, (pdP l).2.2, (pdR l).2.2.2, (pdW l).2.2.2⟩
def pdE (l : List Int) : Int := if (pdW l).2.2.1 = 0 then (if (pdW l).2.1 = 0 ∧ (pdW l).1 < l.length then 5 else (pdW l).2.1) else (pdW l).2.2.1
theorem dec_same (l : List Int) : pdE l = decE l ∧ (decE l = 0 → pdS l = decS l) := by
  obtain ⟨a1, a2, a3⟩ := ppP_rdP l (dcK l 8).1 (dcK l 8).2
  have hP : Sim (dcP l).1 (dcP l).2.1 (pdP l).1 (pdP l).2.1 0 := .inl ⟨rfl, a2.symm, a1.symm⟩
  obtain ⟨hR, hR0⟩ := sim_ws l 3 _ _ _ _ _ hP
  obtain ⟨hW, hW0⟩ := sim_ws l 1 _ _ _ _ _ hR
  change Sim (dcW l).1 (dcW l).2.1 (pdW l).1 (pdW l).2.1 (pdW l).2.2.1 at hW
  change (dcW l).2.1 = 0 → (dcR l).2.1 = 0 ∧ (pdW l).2.2.2 = (dcW l).2.2 at hW0
  change (dcR l).2.1 = 0 → (dcP l).2.1 = 0 ∧ (pdR l).2.2.2 = (dcR l).2.2 at hR0
  refine ⟨?_, fun q => ?_⟩
  · unfold pdE decE
    rcases hW with ⟨h1, h2, h3⟩ | ⟨h1, h2⟩
    · rw [if_pos h1, h2, h3]
    · rw [if_neg h1, if_neg (fun q => h1 (by rw [← h2]; exact q.1)), h2]
  · have hd : (dcW l).2.1 = 0 := by
      unfold decE at q
      split at q
      · omega
      · exact q
    obtain ⟨b1, b2⟩ := hW0 hd
    obtain ⟨c1, c2⟩ := hR0 b1
    unfold pdS decS
    rw [b2, c2, show (pdP l).2.2 = (dcP l).2.2 from a3 c1]
end Go.Proofs.YtahljceanodhkaaGreatDoor

/- The program's Decode: the walk. -/
namespace Go.Proofs.YtahljceanodhkaaGreatDoor
open Go.RowKit
/-- Decode's reading and step -/
structure Pc (w0 w : World) (ob sb rb gb : Nat) (A : Option Addr) (n cap : Nat) (l : List Int) (p : Nat × Int) (re : Int) (cs : Array Value) : Prop where
  O : Blk w ob 45 zeroW
  S : Blk w sb 45 cs
  D : Rd w rb gb A n cap l p.1 p.2 re
  x : Ext w0 w
/-- the blocks of Decode -/
structure Pn (w0 : World) (ob sb rb gb : Nat) : Prop where
  a : ¬ ob = rb ∧ ¬ ob = gb ∧ ¬ ob = sb
  b : ¬ sb = rb ∧ ¬ sb = gb
  c : w0.heap.size ≤ rb ∧ w0.heap.size ≤ gb ∧ w0.heap.size ≤ sb ∧ w0.heap.size ≤ ob
  d : rb < sb
theorem Pc.step {w0 w w' : World} {ob sb rb gb : Nat} {A : Option Addr} {n cap : Nat} {l : List Int} {p p' : Nat × Int} {re re' : Int} {cs : Array Value} (h : Pc w0 w ob sb rb gb A n cap l p re cs) (hn : Pn w0 ob sb rb gb) (hk : Kept (fun i => i = rb ∨ i = gb) w w') (hd : Rd w' rb gb A n cap l p'.1 p'.2 re') : Pc w0 w' ob sb rb gb A n cap l p' re' cs :=
  ⟨Blk.kept h.O hk (fun q => by have := hn.a; omega), Blk.kept h.S hk (fun q => by have := hn.b; omega), hd, h.x.trans' hk (fun i hi q => by have := hn.c; omega)⟩
theorem Pc.set {w0 w : World} {ob sb rb gb : Nat} {A : Option Addr} {n cap : Nat} {l : List Int} {p : Nat × Int} {re : Int} {cs : Array Value} (h : Pc w0 w ob sb rb gb A n cap l p re cs) (hn : Pn w0 ob sb rb gb) (i : Nat) (u : Value) : Pc w0 (w.setCell ⟨sb, i, none⟩ u) ob sb rb gb A n cap l p re (cs.setIfInBounds i u) := by
  have hk : Kept (· = sb) w (w.setCell ⟨sb, i, none⟩ u) := (Kept.refl _ w).setCell _ _ (fun _ => rfl)
  exact ⟨Blk.kept h.O hk (fun q => by have := hn.a; omega), Blk.set_ h.S i u, h.D.kept hk (fun j q => by have := hn.b; have := hn.d; omega), h.x.trans' hk (fun j hj q => by have := hn.c; omega)⟩
theorem Pc.puts {w0 w : World} {ob sb rb gb : Nat} {A : Option Addr} {n cap : Nat} {l : List Int} {p : Nat × Int} {re : Int} {cs : Array Value} (h : Pc w0 w ob sb rb gb A n cap l p re cs) (hn : Pn w0 ob sb rb gb) (i : Nat) (vs : Array Value) : Pc w0 (putAt w sb i vs) ob sb rb gb A n cap l p re (splice cs i vs) := by
  have hk : Kept (· = sb) w (putAt w sb i vs) := Kept.putAt (Kept.refl (· = sb) w) sb i _ (fun _ => rfl)
  exact ⟨Blk.kept h.O hk (fun q => by have := hn.a; omega), Blk.put_ h.S i vs, h.D.kept hk (fun j q => by have := hn.b; have := hn.d; omega), h.x.trans' hk (fun j hj q => by have := hn.c; omega)⟩
set_option maxRecDepth 100000 in
set_option maxHeartbeats 4000000 in
theorem pdecode_any (A0 : Option Addr) (n cap0 : Nat) (l : List Int) (N : Nat) (w : World) (h : BSl w N A0 n cap0 l) :
    Calls Tryz.prog 55 #[.slice A0 n cap0] w fun e w' => ∃ s, e = .returned (.tuple #[.agg (Ws.cells s), .int .i64 (pdE l)]) ∧ (pdE l = 0 → SV 0 30 77 w' s (pdS l)) ∧ (¬ pdE l = 0 → s = zeroS) ∧ Ext w w' := by
  have HL := Lib.hid h.1
  have HMX := Lib.hid h.2.2.1
  have HS := Lib.hid h
  clear h
  obtain ⟨F, hF⟩ : ∃ F, F = pdE l := ⟨_, rfl⟩
  rw [← hF]
  have HFF := Lib.hid hF
  clear hF
  have x0 : Ext w (w.alloc (.cells zeroW 45)) := (Kept.refl _ w).alloc _
  have hO := Blk.new w 45 zeroW
  have HS0 := Lib.hid (HS.out.ext x0)
  go_enter Tryz.func55, Tryz.ntmps55
  go_upto_region 1 with (fail)
  have x0' : Ext w (w.alloc (.cells #[.int .i64 0, .int .i64 0, .int .i64 0, .int .u8 0, .int .u8 0, .int .u8 0, .int .u8 0, .int .u8 0, .int .u8 0, .int .u8 0, .int .u8 0, .int .i64 0, .int .i64 0, .int .i64 0, .int .i64 0, .slice none 0 0, .slice none 0 0, .slice none 0 0] 45)) := x0
  have hO' : Blk (w.alloc (.cells #[.int .i64 0, .int .i64 0, .int .i64 0, .int .u8 0, .int .u8 0, .int .u8 0, .int .u8 0, .int .u8 0, .int .u8 0, .int .u8 0, .int .u8 0, .int .i64 0, .int .i64 0, .int .i64 0, .int .i64 0, .slice none 0 0, .slice none 0 0, .slice none 0 0] 45)) w.heap.size 45 #[.int .i64 0, .int .i64 0, .int .i64 0, .int .u8 0, .int .u8 0, .int .u8 0, .int .u8 0, .int .u8 0, .int .u8 0, .int .u8 0, .int .u8 0, .int .i64 0, .int .i64 0, .int .i64 0, .int .i64 0, .slice none 0 0, .slice none 0 0, .slice none 0 0] := hO
  have HS0' := Lib.hid (show BSl (w.alloc (.cells #[.int .i64 0, .int .i64 0, .int .i64 0, .int .u8 0, .int .u8 0, .int .u8 0, .int .u8 0, .int .u8 0, .int .u8 0, .int .u8 0, .int .u8 0, .int .i64 0, .int .i64 0, .int .i64 0, .int .i64 0, .slice none 0 0, .slice none 0 0, .slice none 0 0] 45)) N A0 n cap0 l from HS0.out)
  clear x0 hO HS0
  generalize (w.alloc (.cells #[.int .i64 0, .int .i64 0, .int .i64 0, .int .u8 0, .int .u8 0, .int .u8 0, .int .u8 0, .int .u8 0, .int .u8 0, .int .u8 0, .int .u8 0, .int .i64 0, .int .i64 0, .int .i64 0, .int .i64 0, .slice none 0 0, .slice none 0 0, .slice none 0 0] 45)) = W0 at x0' hO' HS0' ⊢
  obtain ⟨ob, hob⟩ : ∃ ob, ob = w.heap.size := ⟨_, rfl⟩
  rw [← hob] at hO' ⊢
  have HOBB := Lib.hid hob
  have hlo := hO'.lt
  have HLO := Lib.hid (show w.heap.size ≤ ob from by omega)
  clear hob
  go_wp2_with fail
  refine (onew_any A0 n cap0 l N W0 HS0'.out).mono ?_
  rintro r w1 ⟨A, cap, rb, rfl, hrb, hR, hBS, hx1⟩
  have hBl := hR.lt
  have hlR := hR.lt
  have hx2 : Ext w1 ((w1.alloc (.cells (rgC rb 0) 175)).alloc (.cells zeroW 45)) := ((Kept.refl _ w1).alloc _).alloc _
  have P0 : Pc w ((w1.alloc (.cells (rgC rb 0) 175)).alloc (.cells zeroW 45)) ob (w1.heap.size + 1) rb w1.heap.size A n cap l (0, 0) 0 zeroW := ⟨Blk.ext (Blk.ext hO' hx1) hx2, Blk.new' (w1.alloc (.cells (rgC rb 0) 175)) _ _ _ (by simp), ⟨Blk.ext hR hx2, Blk.alloc (Blk.new w1 _ _) _, hBS.ext hx2, Nat.zero_le _, by omega⟩, (x0'.trans hx1).trans hx2⟩
  have hsz0 := x0'.size
  have hobq := HLO.out
  have hsz1 := hx1.size
  have HN0 := Lib.hid (show Pn w ob (w1.heap.size + 1) rb w1.heap.size from ⟨⟨by omega, by omega, by omega⟩, ⟨by omega, by omega⟩, ⟨by omega, by omega, by omega, by omega⟩, by omega⟩)
  have P0' : Pc w ((w1.alloc (.cells #[.pointer (some ⟨rb, 0, none⟩), .int .i64 0] 175)).alloc (.cells #[.int .i64 0, .int .i64 0, .int .i64 0, .int .u8 0, .int .u8 0, .int .u8 0, .int .u8 0, .int .u8 0, .int .u8 0, .int .u8 0, .int .u8 0, .int .i64 0, .int .i64 0, .int .i64 0, .int .i64 0, .slice none 0 0, .slice none 0 0, .slice none 0 0] 45)) ob (w1.heap.size + 1) rb w1.heap.size A n cap l (0, 0) 0 #[.int .i64 0, .int .i64 0, .int .i64 0, .int .u8 0, .int .u8 0, .int .u8 0, .int .u8 0, .int .u8 0, .int .u8 0, .int .u8 0, .int .u8 0, .int .i64 0, .int .i64 0, .int .i64 0, .int .i64 0, .slice none 0 0, .slice none 0 0, .slice none 0 0] := P0
  clear P0 hx2 hobq hsz0 hsz1 hlR hBl hR hBS hx1 hrb hO' hlo x0'
  go_upto_region 3 with (fail)
  generalize ((w1.alloc (.cells #[.pointer (some ⟨rb, 0, none⟩), .int .i64 0] 175)).alloc (.cells #[.int .i64 0, .int .i64 0, .int .i64 0, .int .u8 0, .int .u8 0, .int .u8 0, .int .u8 0, .int .u8 0, .int .u8 0, .int .u8 0, .int .u8 0, .int .i64 0, .int .i64 0, .int .i64 0, .int .i64 0, .slice none 0 0, .slice none 0 0, .slice none 0 0] 45)) = W at P0' ⊢
  obtain ⟨sb, hsb⟩ : ∃ sb, sb = w1.heap.size + 1 := ⟨_, rfl⟩
  rw [← hsb] at P0' HN0 ⊢
  obtain ⟨gb, hgb⟩ : ∃ gb, gb = w1.heap.size := ⟨_, rfl⟩
  rw [← hgb] at P0' HN0 ⊢
  clear hsb hgb
  have HP := Lib.hid P0'
  clear P0'
  obtain ⟨p0, hp0⟩ : ∃ p : Nat, p = 0 := ⟨_, rfl⟩
  obtain ⟨e0, he0⟩ : ∃ e : Int, e = 0 := ⟨_, rfl⟩
  have HK0 := Lib.hid (show (p0, e0) = dcK l 0 by rw [hp0, he0]; rfl)
  replace HP := Lib.hid (show Pc w W ob sb rb gb A n cap l (p0, e0) 0 #[.int .i64 0, .int .i64 0, .int .i64 0, .int .u8 0, .int .u8 0, .int .u8 0, .int .u8 0, .int .u8 0, .int .u8 0, .int .u8 0, .int .u8 0, .int .i64 0, .int .i64 0, .int .i64 0, .int .i64 0, .slice none 0 0, .slice none 0 0, .slice none 0 0] by rw [hp0, he0]; exact HP.out)
  clear hp0 he0
  go_wp2_with fail
  refine (gint_any rb gb A n cap l p0 e0 0 _ HP.out.D).mono ?_
  rintro r w2 ⟨rfl, hd, hk⟩
  obtain ⟨⟨p1, e1⟩, hq⟩ : ∃ q, q = dcK l 1 := ⟨_, rfl⟩
  have HK1 := Lib.hid hq
  obtain ⟨U0, hU⟩ : ∃ u, u = dcU l 0 := ⟨_, rfl⟩
  have HU0 := Lib.hid hU
  rw [(dcK_succ HK0.out hq).1, (dcK_succ HK0.out hq).2] at hd
  rw [dcU_of HK0.out, ← hU]
  replace HP := Lib.hid (HP.out.step (p' := (p1, e1)) HN0.out (hk.mono (fun i _ q => .inl q)) hd)
  clear hq hU hd hk
  go_wp2_with fail
  refine (gint_any rb gb A n cap l p1 e1 0 _ HP.out.D).mono ?_
  rintro r w2 ⟨rfl, hd, hk⟩
  obtain ⟨⟨p2, e2⟩, hq⟩ : ∃ q, q = dcK l 2 := ⟨_, rfl⟩
  have HK2 := Lib.hid hq
  obtain ⟨U1, hU⟩ : ∃ u, u = dcU l 1 := ⟨_, rfl⟩
  have HU1 := Lib.hid hU
  rw [(dcK_succ HK1.out hq).1, (dcK_succ HK1.out hq).2] at hd
  rw [dcU_of HK1.out, ← hU]
  replace HP := Lib.hid (HP.out.step (p' := (p2, e2)) HN0.out (hk.mono (fun i _ q => .inl q)) hd)
  clear hq hU hd hk
  go_wp2_with fail
  refine (gint_any rb gb A n cap l p2 e2 0 _ HP.out.D).mono ?_
  rintro r w2 ⟨rfl, hd, hk⟩
  obtain ⟨⟨p3, e3⟩, hq⟩ : ∃ q, q = dcK l 3 := ⟨_, rfl⟩
  have HK3 := Lib.hid hq
  obtain ⟨U2, hU⟩ : ∃ u, u = dcU l 2 := ⟨_, rfl⟩
  have HU2 := Lib.hid hU
  rw [(dcK_succ HK2.out hq).1, (dcK_succ HK2.out hq).2] at hd
  rw [dcU_of HK2.out, ← hU]
  replace HP := Lib.hid (HP.out.step (p' := (p3, e3)) HN0.out (hk.mono (fun i _ q => .inl q)) hd)
  clear hq hU hd hk
  have cS := Blk.cell HP.out.S
  have fS := Blk.frozen HP.out.S
  have lS := HP.out.S.lt
  go_upto_region 4 with (fail)
  clear cS fS lS
  replace HP := Lib.hid (show Pc w (((w2.setCell ⟨sb, 0, none⟩ (.int .i64 U0)).setCell ⟨sb, 1, none⟩ (.int .i64 U1)).setCell ⟨sb, 2, none⟩ (.int .i64 U2)) ob sb rb gb A n cap l (p3, e3) 0 #[.int .i64 U0, .int .i64 U1, .int .i64 U2, .int .u8 0, .int .u8 0, .int .u8 0, .int .u8 0, .int .u8 0, .int .u8 0, .int .u8 0, .int .u8 0, .int .i64 0, .int .i64 0, .int .i64 0, .int .i64 0, .slice none 0 0, .slice none 0 0, .slice none 0 0] from ((HP.out.set HN0.out 0 (.int .i64 U0)).set HN0.out 1 (.int .i64 U1)).set HN0.out 2 (.int .i64 U2))
  generalize (((w2.setCell ⟨sb, 0, none⟩ (.int .i64 U0)).setCell ⟨sb, 1, none⟩ (.int .i64 U1)).setCell ⟨sb, 2, none⟩ (.int .i64 U2)) = W at HP ⊢
  go_wp2_with fail
  refine (gdig_any rb gb A n cap l p3 e3 0 _ HP.out.D).mono ?_
  rintro r w2 ⟨rfl, hd, hk⟩
  obtain ⟨⟨p4, e4⟩, hq⟩ : ∃ q, q = dcK l 4 := ⟨_, rfl⟩
  have HK4 := Lib.hid hq
  obtain ⟨M, hM⟩ : ∃ M, M = dgN (rdV l allN p3 e3) := ⟨_, rfl⟩
  rw [← hM]
  have HM := Lib.hid hM
  rw [(dcK_succ HK3.out hq).1, (dcK_succ HK3.out hq).2] at hd
  replace HP := Lib.hid (HP.out.step (p' := (p4, e4)) HN0.out (hk.mono (fun i _ q => .inl q)) hd)
  clear hq hM hd hk
  have mS := HP.out.S.melts
  have hS := Blk.has HP.out.S
  have lS := HP.out.S.lt
  go_upto_region 5 with (fail)
  clear mS hS lS
  replace HP := Lib.hid (show Pc w (putAt w2 sb 3 M.cells) ob sb rb gb A n cap l (p4, e4) 0 #[.int .i64 U0, .int .i64 U1, .int .i64 U2, .int .u8 M.x0, .int .u8 M.x1, .int .u8 M.x2, .int .u8 M.x3, .int .u8 M.x4, .int .u8 M.x5, .int .u8 M.x6, .int .u8 M.x7, .int .i64 0, .int .i64 0, .int .i64 0, .int .i64 0, .slice none 0 0, .slice none 0 0, .slice none 0 0] from HP.out.puts HN0.out 3 M.cells)
  generalize (putAt w2 sb 3 M.cells) = W at HP ⊢
  go_wp2_with fail
  refine (gint_any rb gb A n cap l p4 e4 0 _ HP.out.D).mono ?_
  rintro r w2 ⟨rfl, hd, hk⟩
  obtain ⟨⟨p5, e5⟩, hq⟩ : ∃ q, q = dcK l 5 := ⟨_, rfl⟩
  have HK5 := Lib.hid hq
  obtain ⟨U4, hU⟩ : ∃ u, u = dcU l 4 := ⟨_, rfl⟩
  have HU4 := Lib.hid hU
  rw [(dcK_succ HK4.out hq).1, (dcK_succ HK4.out hq).2] at hd
  rw [dcU_of HK4.out, ← hU]
  replace HP := Lib.hid (HP.out.step (p' := (p5, e5)) HN0.out (hk.mono (fun i _ q => .inl q)) hd)
  clear hq hU hd hk
  go_wp2_with fail
  refine (gint_any rb gb A n cap l p5 e5 0 _ HP.out.D).mono ?_
  rintro r w2 ⟨rfl, hd, hk⟩
  obtain ⟨⟨p6, e6⟩, hq⟩ : ∃ q, q = dcK l 6 := ⟨_, rfl⟩
  have HK6 := Lib.hid hq
  obtain ⟨U5, hU⟩ : ∃ u, u = dcU l 5 := ⟨_, rfl⟩
  have HU5 := Lib.hid hU
  rw [(dcK_succ HK5.out hq).1, (dcK_succ HK5.out hq).2] at hd
  rw [dcU_of HK5.out, ← hU]
  replace HP := Lib.hid (HP.out.step (p' := (p6, e6)) HN0.out (hk.mono (fun i _ q => .inl q)) hd)
  clear hq hU hd hk
  go_wp2_with fail
  refine (gint_any rb gb A n cap l p6 e6 0 _ HP.out.D).mono ?_
  rintro r w2 ⟨rfl, hd, hk⟩
  obtain ⟨⟨p7, e7⟩, hq⟩ : ∃ q, q = dcK l 7 := ⟨_, rfl⟩
  have HK7 := Lib.hid hq
  obtain ⟨U6, hU⟩ : ∃ u, u = dcU l 6 := ⟨_, rfl⟩
  have HU6 := Lib.hid hU
  rw [(dcK_succ HK6.out hq).1, (dcK_succ HK6.out hq).2] at hd
  rw [dcU_of HK6.out, ← hU]
  replace HP := Lib.hid (HP.out.step (p' := (p7, e7)) HN0.out (hk.mono (fun i _ q => .inl q)) hd)
  clear hq hU hd hk
  go_wp2_with fail
  refine (gint_any rb gb A n cap l p7 e7 0 _ HP.out.D).mono ?_
  rintro r w2 ⟨rfl, hd, hk⟩
  obtain ⟨⟨p8, e8⟩, hq⟩ : ∃ q, q = dcK l 8 := ⟨_, rfl⟩
  have HK8 := Lib.hid hq
  obtain ⟨U7, hU⟩ : ∃ u, u = dcU l 7 := ⟨_, rfl⟩
  have HU7 := Lib.hid hU
  rw [(dcK_succ HK7.out hq).1, (dcK_succ HK7.out hq).2] at hd
  rw [dcU_of HK7.out, ← hU]
  replace HP := Lib.hid (HP.out.step (p' := (p8, e8)) HN0.out (hk.mono (fun i _ q => .inl q)) hd)
  clear hq hU hd hk
  have cS := Blk.cell HP.out.S
  have fS := Blk.frozen HP.out.S
  have lS := HP.out.S.lt
  go_upto_region 6 with (fail)
  clear cS fS lS
  replace HP := Lib.hid (show Pc w ((((w2.setCell ⟨sb, 11, none⟩ (.int .i64 U4)).setCell ⟨sb, 12, none⟩ (.int .i64 U5)).setCell ⟨sb, 13, none⟩ (.int .i64 U6)).setCell ⟨sb, 14, none⟩ (.int .i64 U7)) ob sb rb gb A n cap l (p8, e8) 0 #[.int .i64 U0, .int .i64 U1, .int .i64 U2, .int .u8 M.x0, .int .u8 M.x1, .int .u8 M.x2, .int .u8 M.x3, .int .u8 M.x4, .int .u8 M.x5, .int .u8 M.x6, .int .u8 M.x7, .int .i64 U4, .int .i64 U5, .int .i64 U6, .int .i64 U7, .slice none 0 0, .slice none 0 0, .slice none 0 0] from ((((HP.out.set HN0.out 11 (.int .i64 U4)).set HN0.out 12 (.int .i64 U5)).set HN0.out 13 (.int .i64 U6)).set HN0.out 14 (.int .i64 U7)))
  generalize ((((w2.setCell ⟨sb, 11, none⟩ (.int .i64 U4)).setCell ⟨sb, 12, none⟩ (.int .i64 U5)).setCell ⟨sb, 13, none⟩ (.int .i64 U6)).setCell ⟨sb, 14, none⟩ (.int .i64 U7)) = W at HP ⊢
  go_wp2_with fail
  refine (gpath_any rb gb A n cap l p8 e8 0 _ HP.out.D).mono ?_
  rintro r w2 ⟨v, rfl, ho, hd, hk⟩
  obtain ⟨⟨p9, e9, D1⟩, hq⟩ : ∃ q, q = pdP l := ⟨_, rfl⟩
  have hq' : ppP l p8 e8 = (p9, e9, D1) := by rw [hq]; unfold pdP; rw [← HK8.out]
  rw [hq'] at ho hd
  have HK9 := Lib.hid hq
  obtain ⟨A1, c1, rfl, hnew⟩ := PG.of_own (N := 0) ho
  replace HP := Lib.hid (HP.out.step (p' := (p9, e9)) HN0.out (hk.mono (fun i _ q => .inl q)) hd)
  clear hq hq' ho hd hk
  have cS := Blk.cell HP.out.S
  have fS := Blk.frozen HP.out.S
  have lS := HP.out.S.lt
  go_upto_region 7 with (fail)
  clear cS fS lS
  have HP1 := Lib.hid (hnew.kept ((Kept.refl (· = sb) w2).setCell ⟨sb, 15, none⟩ (.slice A1 D1.length c1) (fun _ => rfl)) (fun i q => ⟨Nat.zero_le _, by subst q; exact step_not HP.out.S (by decide)⟩))
  replace HP := Lib.hid (show Pc w (w2.setCell ⟨sb, 15, none⟩ (.slice A1 D1.length c1)) ob sb rb gb A n cap l (p9, e9) 0 #[.int .i64 U0, .int .i64 U1, .int .i64 U2, .int .u8 M.x0, .int .u8 M.x1, .int .u8 M.x2, .int .u8 M.x3, .int .u8 M.x4, .int .u8 M.x5, .int .u8 M.x6, .int .u8 M.x7, .int .i64 U4, .int .i64 U5, .int .i64 U6, .int .i64 U7, .slice A1 D1.length c1, .slice none 0 0, .slice none 0 0] from HP.out.set HN0.out 15 (.slice A1 D1.length c1))
  clear hnew
  generalize (w2.setCell ⟨sb, 15, none⟩ (.slice A1 D1.length c1)) = W at HP HP1 ⊢
  go_wp2_with fail
  refine (gsevw_any rb gb A n cap l p9 e9 0 3 (by omega) (by omega) _ HP.out.D).mono ?_
  rintro r w2 ⟨v, ds, rfl, ho, hv, hd, hk⟩
  obtain ⟨⟨p10, e10, r10, D2⟩, hq⟩ : ∃ q, q = pdR l := ⟨_, rfl⟩
  have hq' : pwS l 3 p9 e9 0 = (p10, e10, r10, D2) := by rw [hq]; unfold pdR; rw [← HK9.out]
  rw [hq'] at ho hv hd
  have HK10 := Lib.hid hq
  obtain ⟨A2, c2, rfl, hnew⟩ := SG.of_own (N := 0) ho hv
  replace HP1 := Lib.hid (HP1.out.kept hk (fun i q => ⟨Nat.zero_le _, by rcases q with q | q <;> subst q <;> first | exact step_not HP.out.D.R (by decide) | exact step_not HP.out.D.G (by decide)⟩))
  replace HP := Lib.hid (HP.out.step (p' := (p10, e10)) HN0.out hk hd)
  clear hq hq' ho hv hd hk
  have cS := Blk.cell HP.out.S
  have fS := Blk.frozen HP.out.S
  have lS := HP.out.S.lt
  go_upto_region 8 with (fail)
  clear cS fS lS
  replace HP1 := Lib.hid (HP1.out.kept ((Kept.refl (· = sb) w2).setCell ⟨sb, 16, none⟩ (.slice A2 D2.length c2) (fun _ => rfl)) (fun i q => ⟨Nat.zero_le _, by subst q; exact step_not HP.out.S (by decide)⟩))
  have HP2 := Lib.hid (hnew.kept ((Kept.refl (· = sb) w2).setCell ⟨sb, 16, none⟩ (.slice A2 D2.length c2) (fun _ => rfl)) (fun i q => ⟨Nat.zero_le _, by subst q; exact step_not HP.out.S (by decide)⟩) (fun i q => by subst q; exact step_not HP.out.S (by decide)))
  replace HP := Lib.hid (show Pc w (w2.setCell ⟨sb, 16, none⟩ (.slice A2 D2.length c2)) ob sb rb gb A n cap l (p10, e10) r10 #[.int .i64 U0, .int .i64 U1, .int .i64 U2, .int .u8 M.x0, .int .u8 M.x1, .int .u8 M.x2, .int .u8 M.x3, .int .u8 M.x4, .int .u8 M.x5, .int .u8 M.x6, .int .u8 M.x7, .int .i64 U4, .int .i64 U5, .int .i64 U6, .int .i64 U7, .slice A1 D1.length c1, .slice A2 D2.length c2, .slice none 0 0] from HP.out.set HN0.out 16 (.slice A2 D2.length c2))
  clear hnew
  generalize (w2.setCell ⟨sb, 16, none⟩ (.slice A2 D2.length c2)) = W at HP HP1 HP2 ⊢
  go_wp2_with fail
  refine (gsevw_any rb gb A n cap l p10 e10 r10 1 (by omega) (by omega) _ HP.out.D).mono ?_
  rintro r w2 ⟨v, ds, rfl, ho, hv, hd, hk⟩
  obtain ⟨⟨p11, e11, r11, D3⟩, hq⟩ : ∃ q, q = pdW l := ⟨_, rfl⟩
  have hq' : pwS l 1 p10 e10 r10 = (p11, e11, r11, D3) := by rw [hq]; unfold pdW; rw [← HK10.out]
  rw [hq'] at ho hv hd
  have HK11 := Lib.hid hq
  obtain ⟨A3, c3, rfl, hnew⟩ := SG.of_own (N := 0) ho hv
  replace HP1 := Lib.hid (HP1.out.kept hk (fun i q => ⟨Nat.zero_le _, by rcases q with q | q <;> subst q <;> first | exact step_not HP.out.D.R (by decide) | exact step_not HP.out.D.G (by decide)⟩))
  replace HP2 := Lib.hid (HP2.out.kept hk (fun i q => ⟨Nat.zero_le _, by rcases q with q | q <;> subst q <;> first | exact step_not HP.out.D.R (by decide) | exact step_not HP.out.D.G (by decide)⟩) (fun i q => by rcases q with q | q <;> subst q <;> first | exact step_not HP.out.D.R (by decide) | exact step_not HP.out.D.G (by decide)))
  replace HP := Lib.hid (HP.out.step (p' := (p11, e11)) HN0.out hk hd)
  clear hq hq' ho hv hd hk
  have cS := Blk.cell HP.out.S
  have fS := Blk.frozen HP.out.S
  have lS := HP.out.S.lt
  go_upto_region 9 with (fail)
  clear cS fS lS
  replace HP1 := Lib.hid (HP1.out.kept ((Kept.refl (· = sb) w2).setCell ⟨sb, 17, none⟩ (.slice A3 D3.length c3) (fun _ => rfl)) (fun i q => ⟨Nat.zero_le _, by subst q; exact step_not HP.out.S (by decide)⟩))
  replace HP2 := Lib.hid (HP2.out.kept ((Kept.refl (· = sb) w2).setCell ⟨sb, 17, none⟩ (.slice A3 D3.length c3) (fun _ => rfl)) (fun i q => ⟨Nat.zero_le _, by subst q; exact step_not HP.out.S (by decide)⟩) (fun i q => by subst q; exact step_not HP.out.S (by decide)))
  have HP3 := Lib.hid (hnew.kept ((Kept.refl (· = sb) w2).setCell ⟨sb, 17, none⟩ (.slice A3 D3.length c3) (fun _ => rfl)) (fun i q => ⟨Nat.zero_le _, by subst q; exact step_not HP.out.S (by decide)⟩) (fun i q => by subst q; exact step_not HP.out.S (by decide)))
  replace HP := Lib.hid (show Pc w (w2.setCell ⟨sb, 17, none⟩ (.slice A3 D3.length c3)) ob sb rb gb A n cap l (p11, e11) r11 #[.int .i64 U0, .int .i64 U1, .int .i64 U2, .int .u8 M.x0, .int .u8 M.x1, .int .u8 M.x2, .int .u8 M.x3, .int .u8 M.x4, .int .u8 M.x5, .int .u8 M.x6, .int .u8 M.x7, .int .i64 U4, .int .i64 U5, .int .i64 U6, .int .i64 U7, .slice A1 D1.length c1, .slice A2 D2.length c2, .slice A3 D3.length c3] from HP.out.set HN0.out 17 (.slice A3 D3.length c3))
  clear hnew
  generalize (w2.setCell ⟨sb, 17, none⟩ (.slice A3 D3.length c3)) = W at HP HP1 HP2 HP3 ⊢
  have cG := Blk.cell HP.out.D.G
  have lG := HP.out.D.G.lt
  have HF := Lib.hid (show F = if r11 = 0 then (if e11 = 0 ∧ p11 < n then 5 else e11) else r11 by rw [HFF.out, HL.out]; unfold pdE; rw [← HK11.out])
  have HOX := Lib.hid (show w.heap.size ≤ ob from HLO.out)
  have HOR := Lib.hid HN0.out
  by_cases hr : r11 = 0
  · subst hr
    go_wp2_with fail
    refine (oend_any A n cap p11 e11 rb _ HP.out.D.hp HMX.out HP.out.D.R).mono ?_
    rintro r w2 ⟨rfl, hx⟩
    rw [show (if e11 = 0 ∧ p11 < n then 5 else e11 : Int) = F by rw [HF.out, if_pos trivial]]
    have HQ := Lib.hid (HP.out.step (p' := (p11, e11)) HN0.out (hx.mono (fun _ _ f => f.elim)) (HP.out.D.ext hx))
    replace HP1 := Lib.hid (HP1.out.ext hx)
    replace HP2 := Lib.hid (HP2.out.ext hx)
    replace HP3 := Lib.hid (HP3.out.ext hx)
    clear hx cG lG HP
    have hmO := HQ.out.O.melts
    have hhO := Blk.has HQ.out.O
    have lO := HQ.out.O.lt
    have hhS := Blk.has HQ.out.S
    have hgS := Blk.gets HQ.out.S
    have lS := HQ.out.S.lt
    by_cases hf : F = 0
    · have hb : (F == 0) = true := by simp [hf]
      have hbn : (F != 0) = false := by unfold bne; rw [hb]; rfl
      have HF0 := Lib.hid hf
      clear hf
      go_wp2_with fail
      refine ret_ci Tryz.results55 rfl rfl aggStep (by exact sizeStep) (Blk.put_ HQ.out.O 0 _) ⟨⟨U0, U1, U2, M, ⟨U4, U5, U6, U7⟩, A1, D1.length, c1, A2, D2.length, c2, A3, D3.length, c3⟩, ?_, ?_, ?_, ?_⟩
      · rw [HF0.out]; rfl
      · intro _
        have hk : Kept (· = ob) w2 (putAt w2 ob 0 #[.int .i64 U0, .int .i64 U1, .int .i64 U2, .int .u8 M.x0, .int .u8 M.x1, .int .u8 M.x2, .int .u8 M.x3, .int .u8 M.x4, .int .u8 M.x5, .int .u8 M.x6, .int .u8 M.x7, .int .i64 U4, .int .i64 U5, .int .i64 U6, .int .i64 U7, .slice A1 D1.length c1, .slice A2 D2.length c2, .slice A3 D3.length c3]) := Kept.putAt (Kept.refl (· = ob) _) ob 0 _ (fun _ => rfl)
        exact ⟨HU0.out, HU1.out, HU2.out, by rw [HM.out]; unfold pdS; rw [← HK3.out], by rw [HU4.out, HU5.out, HU6.out, HU7.out]; rfl, by rw [show (pdS l).path = D1 by unfold pdS; rw [← HK9.out]]; exact HP1.out.kept hk (fun i q => ⟨Nat.zero_le _, by subst q; exact step_not HQ.out.O (by decide)⟩), by rw [show (pdS l).reads = D2 by unfold pdS; rw [← HK10.out]]; exact HP2.out.kept hk (fun i q => ⟨Nat.zero_le _, by subst q; exact step_not HQ.out.O (by decide)⟩) (fun i q => by subst q; exact step_not HQ.out.O (by decide)), by rw [show (pdS l).writes = D3 by unfold pdS; rw [← HK11.out]]; exact HP3.out.kept hk (fun i q => ⟨Nat.zero_le _, by subst q; exact step_not HQ.out.O (by decide)⟩) (fun i q => by subst q; exact step_not HQ.out.O (by decide))⟩
      · exact fun q => absurd HF0.out q
      · exact HQ.out.x.putAt _ _ _ (fun hlt => absurd hlt (by have := HOX.out; omega))
    · have hb : (F == 0) = false := by simp [hf]
      have hbn : (F != 0) = true := by unfold bne; rw [hb]; rfl
      have HF0 := Lib.hid hf
      clear hf
      go_wp2_with fail
      refine ret_ci Tryz.results55 rfl rfl aggStep (by exact sizeStep) (Blk.put_ HQ.out.O 0 _) ⟨zeroS, rfl, ?_, ?_, ?_⟩
      · exact fun q => absurd q HF0.out
      · exact fun _ => rfl
      · exact HQ.out.x.putAt _ _ _ (fun hlt => absurd hlt (by have := HOX.out; omega))
  · have hb : (r11 == 0) = false := by simp [hr]
    have hbn : (r11 != 0) = true := by unfold bne; rw [hb]; rfl
    have HF0 := Lib.hid (show F = r11 by rw [HF.out, if_neg hr])
    have HR0 := Lib.hid hr
    clear hr
    go_upto_region 10 with (fail)
    refine wp_region_3 (fun w1 => Kept (· = ob) W w1) [(0, 2), (1, 2), (2, 2), (3, 2), (4, 1), (5, 0), (6, 2)] (by kernel_rfl) (by kernel_rfl) (by kernel_rfl) (by kernel_rfl) ?_; intro l' hl'; simp only [List.map_cons, List.map_nil, List.getD_cons_zero, List.getD_cons_succ] at hl'; subst hl'
    have HY := Lib.hid (show Kept (· = ob) W W.drew from (Kept.refl _ W).drew)
    have HGO := Lib.hid (show ¬ gb = ob from fun q => HN0.out.a.2.1 q.symm)
    clear cG lG
    have HQ := Lib.hid (HP.out.step (p' := (p11, e11)) HN0.out (((Kept.refl (fun i => i = rb ∨ i = gb) W)).drew) (HP.out.D.ext (Kept.drew (Kept.refl _ W))))
    have hmO := HQ.out.O.melts
    have hhO := Blk.has HQ.out.O
    have lO := HQ.out.O.lt
    (repeat (first | ((apply w3_pure); (· go_simp); (· (intro w1; go_simp; try with_reducible rfl)); (intro K hK; go_simp; refine hK _ _ ?_; clear hK K)) | ((apply w3_skip); (· go_simp); (intro K hK; go_simp; refine hK _ _ ?_; clear hK K)) | ((apply w3_take); (· exact HY.out); (· go_simp); (· (intro w1 hS; have d0 := Blk.kept HP.out.D.G hS HGO.out; have d1 := Blk.cell d0; have d3 := d0.lt;  go_simp; try with_reducible rfl)); (intro K hK; go_simp; refine hK _ _ ?_; clear hK K)) | ((apply w3_pass); (· exact HY.out); (· go_simp); (intro K hK; go_simp; refine hK _ _ ?_; clear hK K))))
    (refine w3_act (fun K hK => ?_); go_simp)
    have HY2 := Lib.hid (show Kept (· = ob) W (putAt W.drew ob 0 #[.int .i64 0, .int .i64 0, .int .i64 0, .int .u8 0, .int .u8 0, .int .u8 0, .int .u8 0, .int .u8 0, .int .u8 0, .int .u8 0, .int .u8 0, .int .i64 0, .int .i64 0, .int .i64 0, .int .i64 0, .slice none 0 0, .slice none 0 0, .slice none 0 0]) from HY.out.putAt _ _ _ (fun _ => rfl))
    refine hK.out _ _ (fun _ => HY2.out) ?_
    clear hK K
    (repeat (first | ((apply w3_pure); (· go_simp); (· (intro w1; go_simp; try with_reducible rfl)); (intro K hK; go_simp; refine hK _ _ ?_; clear hK K)) | ((apply w3_skip); (· go_simp); (intro K hK; go_simp; refine hK _ _ ?_; clear hK K)) | ((apply w3_take); (· exact HY2.out); (· go_simp); (· (intro w1 hS; have d0 := Blk.kept HP.out.D.G hS HGO.out; have d1 := Blk.cell d0; have d3 := d0.lt;  go_simp; try with_reducible rfl)); (intro K hK; go_simp; refine hK _ _ ?_; clear hK K)) | ((apply w3_pass); (· exact HY2.out); (· go_simp); (intro K hK; go_simp; refine hK _ _ ?_; clear hK K))))
    (repeat (first | ((apply w3_pure); (· go_simp); (· (intro w1; go_simp; try with_reducible rfl)); (intro K hK; go_simp; refine hK _ _ ?_; clear hK K)) | ((apply w3_skip); (· go_simp); (intro K hK; go_simp; refine hK _ _ ?_; clear hK K)) | (refine w3_end (by kernel_rfl) (fun K hK => ?_); go_simp; refine hK.out _ _ ?_; clear hK K))); refine w3_nil ?_
    go_wp2_with fail
    refine ret_ci Tryz.results55 rfl rfl aggStep (by exact sizeStep) (Blk.put_ HQ.out.O 0 _) ⟨zeroS, by rw [HF0.out]; rfl, ?_, ?_, ?_⟩
    · exact fun q => absurd (HF0.out.symm.trans q) HR0.out
    · exact fun _ => rfl
    · exact HQ.out.x.putAt _ _ _ (fun hlt => absurd hlt (by have := HOX.out; omega))
end Go.Proofs.YtahljceanodhkaaGreatDoor

/- The document's answer of layer 15: truth, Two, Place. -/
namespace Go.Proofs.YtahljceanodhkaaGreatDoor
open Go.RowKit
end Go.Proofs.YtahljceanodhkaaGreatDoor

/- A step seen by its own words alone: the plain law. -/
namespace Go.Proofs.YtahljceanodhkaaGreatDoor
open Go.RowKit
theorem readsK_sub {i : Ins} {h : List UInt8} {x : Int} {k : Nat} (hx : x ∈ readsK i h k) : x ∈ readsK i h (k + 1) := by
  unfold readsK
  split
  · exact hx
  · exact List.mem_append_left _ hx
theorem readsK_mem {i : Ins} {h : List UInt8} {k : Nat} (hs : skipR i (h.getD k 0) k = false) : ∀ n, k < n → nth3 i k ∈ readsK i h n
  | 0, hn => by omega
  | n + 1, hn => by
    by_cases hk : k < n
    · exact readsK_sub (readsK_mem hs n hk)
    · obtain rfl : k = n := by omega
      unfold readsK
      by_cases hc : (readsK i h k).contains (nth3 i k) = true
      · rw [if_pos (.inr hc)]; simpa using hc
      · rw [if_neg (fun f => f.elim (fun f => by rw [hs] at f; cases f) hc)]
        simp
theorem reads_b {i : Ins} {k : Nat} (hk : i.op = k) (h : k = 2 ∨ k = 14 ∨ k = 16 ∨ k = 18 ∨ k = 20 ∨ k = 21 ∨ (3 ≤ k ∧ k ≤ 13)) : i.b ∈ readsN i := by
  have ho : isOp i.op = true := by simp [isOp]; omega
  unfold readsN
  rw [if_pos ho, hk]
  have := fun h' hs hl => readsK_mem (i := i) (h := h') (k := 1) hs h'.length hl
  rcases h with rfl | rfl | rfl | rfl | rfl | rfl | ⟨h1, h2⟩
  iterate 6 exact this _ (by simp [skipR, hk, hasN]) (by simp [hasN])
  rcases (by omega : k = 3 ∨ k = 4 ∨ k = 5 ∨ k = 6 ∨ k = 7 ∨ k = 8 ∨ k = 9 ∨ k = 10 ∨ k = 11 ∨ k = 12 ∨ k = 13) with rfl | rfl | rfl | rfl | rfl | rfl | rfl | rfl | rfl | rfl | rfl <;> exact this _ (by simp [skipR, hk, hasN]) (by simp [hasN])
theorem reads_c {i : Ins} {k : Nat} (hk : i.op = k) (h : k = 15 ∨ k = 16 ∨ (3 ≤ k ∧ k ≤ 13)) : i.c ∈ readsN i := by
  have ho : isOp i.op = true := by simp [isOp]; omega
  unfold readsN
  rw [if_pos ho, hk]
  have := fun h' hs hl => readsK_mem (i := i) (h := h') (k := 2) hs h'.length hl
  rcases h with rfl | rfl | ⟨h1, h2⟩
  iterate 2 exact this _ (by simp [skipR, hasN]) (by simp [hasN])
  rcases (by omega : k = 3 ∨ k = 4 ∨ k = 5 ∨ k = 6 ∨ k = 7 ∨ k = 8 ∨ k = 9 ∨ k = 10 ∨ k = 11 ∨ k = 12 ∨ k = 13) with rfl | rfl | rfl | rfl | rfl | rfl | rfl | rfl | rfl | rfl | rfl <;> exact this _ (by simp [skipR, hasN]) (by simp [hasN])
/-- two memories that agree where an instruction reads -/
structure Agree (i : Ins) (m m' : List Int) : Prop where
  len : m'.length = m.length
  at_ : ∀ x ∈ mplace i m, mget m' x = mget m x
theorem mplace_sub {i : Ins} {m : List Int} {x : Int} (h : x ∈ readsN i) : x ∈ mplace i m := by
  unfold mplace
  split
  · exact List.mem_append_left _ h
  · exact h
theorem Agree.reads {i : Ins} {m m' : List Int} (h : Agree i m m') {x : Int} (hx : x ∈ readsN i) : mget m' x = mget m x := h.at_ x (mplace_sub hx)
theorem Agree.far {i : Ins} {m m' : List Int} (h : Agree i m m') : farI i m' = farI i m := by
  unfold farI
  by_cases h15 : i.op = 15
  · have := h.reads (reads_c (k := 15) h15 (by simp))
    unfold mget at this
    rw [if_pos h15, if_pos h15, this, h.len]
  · rw [if_neg h15, if_neg h15]
    by_cases h16 : i.op = 16
    · have := h.reads (reads_b (k := 16) h16 (by simp))
      unfold mget at this
      rw [if_pos h16, if_pos h16, this, h.len]
    · rw [if_neg h16, if_neg h16]
theorem Agree.writes {i : Ins} {m m' : List Int} (h : Agree i m m') : mwrites i m' = mwrites i m := by unfold mwrites; rw [h.far]
end Go.Proofs.YtahljceanodhkaaGreatDoor

/- A state behind a step is right again. -/
namespace Go.Proofs.YtahljceanodhkaaGreatDoor
open Go.RowKit
end Go.Proofs.YtahljceanodhkaaGreatDoor

/- The laws' own functions of layers 15 and 23: OwnCode, Own, small; rows of states and of steps. -/
namespace Go.Proofs.YtahljceanodhkaaGreatDoor
open Go.RowKit
theorem aggCourse : aggT Tryz.prog 99 = true := by kernel_rfl
theorem sizeCourse : sizeT Tryz.prog 99 = some 4 := by kernel_rfl
theorem wpLoadCourse {dst : Option Tmp} {ty' : TypeId} {x : Operand} {pos : String} {after : Array Edge} {guard : Option (Nat × Bool)} {a : Act} {w : World} {K : Act → World → Prop} {Q : Exit → Act → World → Prop} (hx : isAt (a.eval x) = true) (hh : has w (blkOf (a.eval x)) (offOf (a.eval x)) 4 = true) :
    Oper.wp Tryz.prog { dst := dst, op := .load 99 x, type := ty', pos := pos, after := after, guard := guard } a w K Q = K (a.put dst (.agg (gets w (blkOf (a.eval x)) (offOf (a.eval x)) 4))) w := wp_load_big 4 aggCourse sizeCourse hx hh
theorem runLoadCourse {ρ : Operand → Value} {dst : Option Tmp} {ty' : TypeId} {x : Operand} {pos : String} {after : Array Edge} {guard : Option (Nat × Bool)} {w : World} (hx : isAt (ρ x) = true) (hh : has w (blkOf (ρ x)) (offOf (ρ x)) 4 = true) :
    (execOp ρ { dst := dst, op := .load 99 x, type := ty', pos := pos, after := after, guard := guard }).run Tryz.prog w = .ok (.value (.agg (gets w (blkOf (ρ x)) (offOf (ρ x)) 4))) w := run_exec_load_big 4 aggCourse sizeCourse hx hh
theorem loadVarCourse (w : World) (g off : Nat) (hh : has w g off 4 = true) : (loadVar 99 ⟨g, off, none⟩).run Tryz.prog w = .ok (.agg (gets w g off 4)) w := run_loadVar_big Tryz.prog w _ g off 4 aggCourse sizeCourse hh
attribute [go_sem] aggCourse sizeCourse
attribute [go_sem ↓ high] wpLoadCourse loadVarCourse runLoadCourse
attribute [go_sem high] wpLoadCourse
section
variable {α : Type} {f : α → Array Value} {k : Nat}
end
/-- what lies in memory, and what each says -/
inductive AllV {α β : Type} (V : World → α → β → Prop) (w : World) : List α → List β → Prop where
  | nil : AllV V w [] []
  | cons {a : α} {b : β} {xs : List α} {ys : List β} : V w a b → AllV V w xs ys → AllV V w (a :: xs) (b :: ys)
section
variable {α β : Type} {V : World → α → β → Prop} {w w' : World}
theorem AllV.mono (h : ∀ a b, V w a b → V w' a b) : ∀ {xs : List α} {ys : List β}, AllV V w xs ys → AllV V w' xs ys
  | _, _, .nil => .nil
  | _, _, .cons x r => .cons (h _ _ x) (r.mono h)
theorem AllV.len : ∀ {xs : List α} {ys : List β}, AllV V w xs ys → xs.length = ys.length
  | _, _, .nil => rfl
  | _, _, .cons _ r => by simp [r.len]
theorem AllV.snoc {a : α} {b : β} (h : V w a b) : ∀ {xs : List α} {ys : List β}, AllV V w xs ys → AllV V w (xs ++ [a]) (ys ++ [b])
  | _, _, .nil => .cons h .nil
  | _, _, .cons x r => .cons x (r.snoc h)
theorem AllV.get : ∀ {xs : List α} {ys : List β} (_ : AllV V w xs ys) (j : Nat) (h1 : j < xs.length) (h2 : j < ys.length), V w xs[j] ys[j]
  | _, _, .cons x _, 0, _, _ => x
  | _, _, .cons _ r, j + 1, h1, h2 => r.get j (by simpa using h1) (by simpa using h2)
end
theorem has_ext {w w1 : World} {g o n : Nat} (hS : Ext w w1) (hg : g < w.heap.size) (h : Proofs.YtahljceanodhkaaGreatDoor.has w g o n = true) : Proofs.YtahljceanodhkaaGreatDoor.has w1 g o n = true := by
  unfold Proofs.YtahljceanodhkaaGreatDoor.has at h ⊢
  rw [hS.block g hg (fun f => f)]
  exact h
theorem gets_ext {w w1 : World} {g o n : Nat} {c : Array Value} (hS : Ext w w1) (hg : g < w.heap.size) (h : gets w g o n = c) : gets w1 g o n = c := by
  unfold gets at h ⊢
  rw [hS.block g hg (fun f => f)]
  exact h
/-- a state in memory -/
structure Sm where (pc halt : Int) (g n c : Nat)
abbrev Sm.cells (s : Sm) : Array Value := #[.int .i64 s.pc, .slice (some ⟨s.g, 0, none⟩) s.n s.c, .int .i64 s.halt]
attribute [go_sem] Sm.cells
abbrev Cfg := Int × Int × List Int
structure StV (w : World) (s : Sm) (r : Cfg) : Prop where
  pc : s.pc = r.1
  halt : s.halt = r.2.1
  len : s.n = r.2.2.length
  mem : ∃ base, MemAt w base s.g s.n s.c r.2.2
theorem StV.ext {w w' : World} {s : Sm} {r : Cfg} (h : StV w s r) (hx : Ext w w') : StV w' s r := by
  obtain ⟨h1, h2, h3, b, h4⟩ := h
  exact ⟨h1, h2, h3, b, h4.ext hx⟩
theorem StV.kept {S : Nat → Prop} {w w' : World} {s : Sm} {r : Cfg} (h : StV w s r) (hx : Kept S w w') (hs : ∀ i, S i → ∀ cur fr, ¬ w.heap[i]? = some (.cells cur 21 fr)) : StV w' s r := by
  obtain ⟨h1, h2, h3, b, h4⟩ := h
  obtain ⟨_, cur, _, hc, _⟩ := h4.inv
  exact ⟨h1, h2, h3, b, h4.kept hx (fun hS => hs _ hS _ _ hc)⟩
theorem StepV.kept {S : Nat → Prop} {w w' : World} {s : Ws} {L : Sl} (h : StepV w s L) (hx : Kept S w w') (hs : ∀ i, S i → ∀ cur fr, ¬ w.heap[i]? = some (.cells cur 30 fr)) (hs' : ∀ i, S i → ∀ cur fr, ¬ w.heap[i]? = some (.cells cur 77 fr)) : StepV w' s L :=
  ⟨h.pc, h.halt, h.words, h.mem, h.ins, h.path.kept hx hs, h.reads.kept hx hs hs', h.writes.kept hx hs hs'⟩
end Go.Proofs.YtahljceanodhkaaGreatDoor

/- The document's answer of layer 15: Place, Next. -/
namespace Go.Proofs.YtahljceanodhkaaGreatDoor
open Go.RowKit
end Go.Proofs.YtahljceanodhkaaGreatDoor

/- Layers 15 and 23: Own, small, states. -/
namespace Go.Proofs.YtahljceanodhkaaGreatDoor
open Go.RowKit
abbrev courseC (A : Option Addr) (n cap : Nat) (pc : Int) (A' : Option Addr) (k cap' : Nat) (halt : Int) : Array Value := #[.slice A n cap, .int .i64 pc, .slice A' k cap', .int .i64 halt]
attribute [go_sem] courseC
end Go.Proofs.YtahljceanodhkaaGreatDoor

/- The document's answer of layer 15: Step, case by case. -/
namespace Go.Proofs.YtahljceanodhkaaGreatDoor
open Go.RowKit
end Go.Proofs.YtahljceanodhkaaGreatDoor

/- The document's answer of layer 15: Step, case by case. -/
namespace Go.Proofs.YtahljceanodhkaaGreatDoor
open Go.RowKit
end Go.Proofs.YtahljceanodhkaaGreatDoor

/- The document's answer of layer 15: Step, case by case. -/
namespace Go.Proofs.YtahljceanodhkaaGreatDoor
open Go.RowKit
end Go.Proofs.YtahljceanodhkaaGreatDoor

/- The document's answer of layer 15: Step, case by case. -/
namespace Go.Proofs.YtahljceanodhkaaGreatDoor
open Go.RowKit
end Go.Proofs.YtahljceanodhkaaGreatDoor

/- The document's answer of layer 15: Step, case by case. -/
namespace Go.Proofs.YtahljceanodhkaaGreatDoor
open Go.RowKit
end Go.Proofs.YtahljceanodhkaaGreatDoor

/- Package tree: Set. -/
namespace Go.Proofs.YtahljceanodhkaaGreatDoor
open Go.RowKit
/-- a tree in memory with levels as said -/
structure LvX (w : World) (base p cg cc : Nat) (f : Nat → Value) (G : Nat → Nat) (l : List Dg) (H : Nat) (L : Nat → List Dg) : Prop where
  blk : TreeB w p f
  f0 : f 0 = .slice (some ⟨cg, 0, none⟩) l.length cc
  own : w.ownsRow base 30 8 (.slice (some ⟨cg, 0, none⟩) l.length cc) l.length (digs l)
  fl : ∀ u, u ≤ H → f (1 + u) = .slice (some ⟨G u, 0, none⟩) (2 ^ (H - u)) (2 ^ (H - u))
  lv : ∀ u, u ≤ H → Blk w (G u) 30 (digs (L u)).toArray
  inj : ∀ u u', u ≤ H → u' ≤ H → G u = G u' → u = u'
  far : ∀ u, u ≤ H → base ≤ G u ∧ ¬ G u = p ∧ ¬ G u = cg
  bp : base ≤ p
  pc : ¬ p = cg
section
variable {w w' : World} {base p cg cc : Nat} {f : Nat → Value} {G : Nat → Nat} {l : List Dg} {H : Nat} {L : Nat → List Dg}
theorem LvX.ext (h : LvX w base p cg cc f G l H L) (hx : Ext w w') : LvX w' base p cg cc f G l H L :=
  ⟨h.blk.ext hx, h.f0, own_ext h.own hx, h.fl, fun u hu => Blk.ext (h.lv u hu) hx, h.inj, h.far, h.bp, h.pc⟩
end
/-- a tree whose blocks lie between two numbers -/
def TreeIn (w : World) (base top p : Nat) (l : List Dg) : Prop := p < top ∧ ∃ cg cc f G, Lv w base p cg cc f G l (hgt l.length) (hgt l.length) ∧ cg < top ∧ ∀ u, u ≤ hgt l.length → G u < top
theorem TreeIn.of {w : World} {base p : Nat} {l : List Dg} (h : TreeOK w base p l) : TreeIn w base w.heap.size p l := by
  obtain ⟨cg, cc, f, G, h⟩ := h
  exact ⟨h.blk.lt, cg, cc, f, G, h, h.cgl, fun u hu => (h.lv u hu).lt⟩
theorem TreeIn.ok {w : World} {base top p : Nat} {l : List Dg} (h : TreeIn w base top p l) : TreeOK w base p l := by
  obtain ⟨_, cg, cc, f, G, h, _⟩ := h
  exact ⟨cg, cc, f, G, h⟩
theorem TreeIn.ext {w w' : World} {base top p : Nat} {l : List Dg} (h : TreeIn w base top p l) (hx : Ext w w') : TreeIn w' base top p l := by
  obtain ⟨h0, cg, cc, f, G, h, h1, h2⟩ := h
  exact ⟨h0, cg, cc, f, G, h.ext hx, h1, h2⟩
theorem Lv.kept {S : Nat → Prop} {w w' : World} {base p cg cc : Nat} {f : Nat → Value} {G : Nat → Nat} {l : List Dg} {H v : Nat} (h : Lv w base p cg cc f G l H v) (hx : Kept S w w') (hp : ¬ S p) (hc : ¬ S cg) (hG : ∀ u, u ≤ v → ¬ S (G u)) : Lv w' base p cg cc f G l H v :=
  ⟨Blk.kept h.blk hx hp, h.f0, own_kept h.own hx (fun g hg => by simp [Value.ownBlock] at hg; subst hg; exact hc), h.fl, fun u hu => Blk.kept (h.lv u hu) hx (hG u hu), h.inj, h.far, h.bp, h.pc⟩
/-- what is written lies elsewhere -/
theorem TreeIn.kept {S : Nat → Prop} {w w' : World} {base top p : Nat} {l : List Dg} (h : TreeIn w base top p l) (hx : Kept S w w') (hs : ∀ i, S i → top ≤ i) : TreeIn w' base top p l := by
  obtain ⟨h0, cg, cc, f, G, h, h1, h2⟩ := h
  exact ⟨h0, cg, cc, f, G, h.kept hx (fun q => by have := hs _ q; omega) (fun q => by have := hs _ q; omega) (fun u hu q => by have := hs _ q; have := h2 u hu; omega), h1, h2⟩
/-- what is written lies elsewhere, ahead of it or behind it -/
theorem TreeIn.apart {S : Nat → Prop} {w w' : World} {base top p : Nat} {l : List Dg} (h : TreeIn w base top p l) (hx : Kept S w w') (hs : ∀ i, S i → i < base ∨ top ≤ i) : TreeIn w' base top p l := by
  obtain ⟨h0, cg, cc, f, G, h, h1, h2⟩ := h
  have hcb : base ≤ cg := by
    rcases h.own.2 with ⟨hv, _⟩ | ⟨g', c', cur, hv, hb, _⟩
    · simp at hv
    · simp at hv; omega
  have hpb := h.bp
  exact ⟨h0, cg, cc, f, G, h.kept hx (fun q => by have := hs _ q; omega) (fun q => by have := hs _ q; omega) (fun u hu q => by have := hs _ q; have := h2 u hu; have := (h.far u hu).1; omega), h1, h2⟩
end Go.Proofs.YtahljceanodhkaaGreatDoor

/- Layer 23's law: states of a course. -/
namespace Go.Proofs.YtahljceanodhkaaGreatDoor
open Go.RowKit
/-- what a course is in memory -/
structure CourseAt (w : World) (A : Option Addr) (b off n : Nat) (l : List Ins) (pc halt : Int) (b' off' k : Nat) (m : List Int) : Prop where
  at_ : A = some ⟨b, off, none⟩
  row : Row w b off (inss l)
  n_eq : n = l.length
  n1 : 1 ≤ n
  n2 : n ≤ 2048
  iok : ∀ i ∈ l, i.ok
  k_eq : k = m.length
  right : rightS pc halt k = true
  mok : ∀ z ∈ m, i32ok z
  mrow : Row w b' off' (mems m)
  ops : OpsAt w
theorem CourseAt.ext {w w' : World} {A : Option Addr} {b off n : Nat} {l : List Ins} {pc halt : Int} {b' off' k : Nat} {m : List Int} (h : CourseAt w A b off n l pc halt b' off' k m) (hx : Ext w w') : CourseAt w' A b off n l pc halt b' off' k m :=
  ⟨h.at_, h.row.ext hx, h.n_eq, h.n1, h.n2, h.iok, h.k_eq, h.right, h.mok, h.mrow.ext hx, h.ops.ext hx⟩
end Go.Proofs.YtahljceanodhkaaGreatDoor

/- Package witness: Trace. -/
namespace Go.Proofs.YtahljceanodhkaaGreatDoor
open Go.RowKit
/-- words of a state, and where -/
structure MemW (w0 w : World) (top g off : Nat) (m : List Int) : Prop where
  row : Row w g off (mems m)
  at_ : g < w0.heap.size ∨ (top ≤ g ∧ ∃ cur fr, w.heap[g]? = some (.cells cur 21 fr))
theorem MemW.ext {w0 w w' : World} {top g off : Nat} {m : List Int} (h : MemW w0 w top g off m) (hx : Ext w w') : MemW w0 w' top g off m :=
  ⟨h.row.ext hx, h.at_.imp id (fun ⟨a, cur, fr, e⟩ => ⟨a, cur, fr, (hx.block g h.row.lt (fun f => f)).trans e⟩)⟩
theorem MemW.kept {S : Nat → Prop} {w0 w w' : World} {top g off : Nat} {m : List Int} (h : MemW w0 w top g off m) (hx : Kept S w w') (h1 : ∀ i, S i → w0.heap.size ≤ i) (h2 : ∀ i, S i → top ≤ i → ∀ cur fr, ¬ w.heap[i]? = some (.cells cur 21 fr)) : MemW w0 w' top g off m := by
  have hg : ¬ S g := fun hS => by
    rcases h.at_ with h3 | ⟨h3, cur, fr, e⟩
    · have := h1 g hS; omega
    · exact h2 g hS h3 cur fr e
  exact ⟨h.row.kept hx hg, h.at_.imp id (fun ⟨a, cur, fr, e⟩ => ⟨a, cur, fr, (hx.block g h.row.lt hg).trans e⟩)⟩
end Go.Proofs.YtahljceanodhkaaGreatDoor

/- The document's answer of layer 15: Step, of any instruction. -/
namespace Go.Proofs.YtahljceanodhkaaGreatDoor
open Go.RowKit
end Go.Proofs.YtahljceanodhkaaGreatDoor

/- WitnessTrace's callees: digests as the document's, Same of them, both Traces that come to nothing. -/
namespace Go.Proofs.YtahljceanodhkaaGreatDoor
open Go.RowKit
set_option maxRecDepth 100000 in
set_option maxHeartbeats 1000000 in
theorem digests_ok (A : Option Addr) (b off cap : Nat) (l : List Dg) (n : Nat) (hn : n = l.length) (h2 : n ≤ 4096) (hA : 0 < n → A = some ⟨b, off, none⟩) (w : World) (hr : 0 < n → Row w b off (digs l)) :
    Calls Tryz.prog 41 #[.slice A n cap] w fun e w' => OwnsDigs w w' e n l := by
  have HN := Lib.hid hn
  have HA := Lib.hid hA
  have HR := Lib.hid hr
  clear hn hA hr
  go_enter Tryz.func41, Tryz.ntmps41
  go_wp2_with fail
  go_loopw [3, 8] (fun t3 t8 wr => ∃ (k : Nat), k ≤ n ∧ t8 = .int .i64 k ∧ wr.ownsRow w.heap.size 23 8 t3 k (digs (l.take k)) ∧ Ext w wr) (fun _ t8 _ => n - (intOf t8).toNat)
  case atStart => exact ⟨0, Nat.zero_le _, rfl, World.ownsRow_nil _ _ _ _, Kept.refl _ w⟩
  case round =>
    obtain ⟨k, hk, rfl, ho, hx⟩ := hrel
    have hob : ∀ i, i < w.heap.size → (u3 : Value).ownBlock = some i → False := fun i hi e => by have := (ho.lt i e).1; omega
    have HOB := Lib.hid hob
    have HO := Lib.hid ho
    clear hob ho
    by_cases hlt : k < n
    · have hkl : k < l.length := by have := HN.out; omega
      obtain rfl := HA.out (by omega)
      obtain ⟨hrh, hrg⟩ := ((HR.out (by omega)).ext hx).dig k hkl
      obtain ⟨D, hD⟩ : ∃ D, D = l[k] := ⟨_, rfl⟩
      rw [← hD] at hrg
      have HD := Lib.hid hD
      clear hD
      have hbl := ((HR.out (by omega)).ext hx).lt
      have hkI : (k : Int) < n := by omega
      have hk0 : (0 : Int) ≤ k := by omega
      go_upto_region 5 with (fail)
      have y1 : Ext wr (wr.alloc (.cells D.cells 30)) := (Kept.refl _ wr).alloc _
      have hD1 := Blk.new wr 30 D.cells
      generalize (wr.alloc (.cells D.cells 30)) = W1 at y1 hD1 ⊢
      have hw1 : wr.heap.size ≤ W1.heap.size := y1.size
      generalize (wr : World).heap.size = db at hD1 ⊢
      clear hrh hrg hbl
      have i1 := Blk.has hD1
      have i2 := Blk.gets hD1
      have i3 := hD1.lt
      have hws : w.heap.size ≤ W1.heap.size := (hx.trans y1).size
      obtain ⟨v2, w2, hr2, ho2, hk2⟩ := appD (W1.alloc (.cells D.cells 23)) _ _ _ _ ((own_ext HO.out y1).alloc _) W1.heap.size 0 1 1 [D] rfl (by simpa [digs] using Row.of_blk (Blk.new W1 23 D.cells)) (by omega) (by simp; omega)
      go_step
      iterate 3 (refine wpList_step (fun K hK => ?_); go_simp; (try go_bits); refine hK _ _ ?_; clear hK K)
      refine wpList_app rfl (.tmp 12) (.tmp 14) 80 rfl rfl rfl rfl hr2 ?_
      clear hr2
      go_wp2_with fail
      go_roundw
      case rel => exact ⟨k + 1, hlt, by go_num, by rw [List.take_succ_eq_append_getElem hkl, ← HD.out]; exact ho2, ((hx.trans y1).alloc _).trans' hk2 HOB.out⟩
      case measure => simp only [intOf]; omega
    · go_wp2_with fail
      go_ret
      have e : k = n := by omega
      subst e
      have ho := HO.out
      rw [List.take_of_length_le (Nat.le_of_eq HN.out.symm)] at ho
      exact ⟨_, rfl, ho, hx⟩
end Go.Proofs.YtahljceanodhkaaGreatDoor

/- Steps between the document and the program: ofDigests. -/
namespace Go.Proofs.YtahljceanodhkaaGreatDoor
open Go.RowKit
set_option maxRecDepth 100000 in
set_option maxHeartbeats 1000000 in
theorem ofdigs_ok (A : Option Addr) (b off cap : Nat) (l : List Dg) (n : Nat) (hn : n = l.length) (h2 : n ≤ 4096) (hA : 0 < n → A = some ⟨b, off, none⟩) (w : World) (hr : 0 < n → Row w b off (digs l)) :
    Calls Tryz.prog 100 #[.slice A n cap] w fun e w' => ∃ v, e = .returned v ∧ w'.ownsRow w.heap.size 30 8 v n (digs l) ∧ Ext w w' := by
  have HN := Lib.hid hn
  have HA := Lib.hid hA
  have HR := Lib.hid hr
  clear hn hA hr
  go_enter Tryz.func100, Tryz.ntmps100
  go_wp2_with fail
  go_loopw [3, 8] (fun t3 t8 wr => ∃ (k : Nat), k ≤ n ∧ t8 = .int .i64 k ∧ wr.ownsRow w.heap.size 30 8 t3 k (digs (l.take k)) ∧ Ext w wr) (fun _ t8 _ => n - (intOf t8).toNat)
  case atStart => exact ⟨0, Nat.zero_le _, rfl, World.ownsRow_nil _ _ _ _, Kept.refl _ w⟩
  case round =>
    obtain ⟨k, hk, rfl, ho, hx⟩ := hrel
    have hob : ∀ i, i < w.heap.size → (u3 : Value).ownBlock = some i → False := fun i hi e => by have := (ho.lt i e).1; omega
    have HOB := Lib.hid hob
    have HO := Lib.hid ho
    clear hob ho
    by_cases hlt : k < n
    · have hkl : k < l.length := by have := HN.out; omega
      obtain rfl := HA.out (by omega)
      obtain ⟨hrh, hrg⟩ := ((HR.out (by omega)).ext hx).dig k hkl
      obtain ⟨D, hD⟩ : ∃ D, D = l[k] := ⟨_, rfl⟩
      rw [← hD] at hrg
      have HD := Lib.hid hD
      clear hD
      have hbl := ((HR.out (by omega)).ext hx).lt
      have hkI : (k : Int) < n := by omega
      have hk0 : (0 : Int) ≤ k := by omega
      go_upto_region 5 with (fail)
      have y1 : Ext wr (wr.alloc (.cells D.cells 23)) := (Kept.refl _ wr).alloc _
      have hD1 := Blk.new wr 23 D.cells
      generalize (wr.alloc (.cells D.cells 23)) = W1 at y1 hD1 ⊢
      have hw1 : wr.heap.size ≤ W1.heap.size := y1.size
      generalize (wr : World).heap.size = db at hD1 ⊢
      clear hrh hrg hbl
      have i1 := Blk.has hD1
      have i2 := Blk.gets hD1
      have i3 := hD1.lt
      have hws : w.heap.size ≤ W1.heap.size := (hx.trans y1).size
      obtain ⟨v2, w2, hr2, ho2, hk2⟩ := appE (W1.alloc (.cells D.cells 30)) _ _ _ _ ((own_ext HO.out y1).alloc _) W1.heap.size 0 1 1 [D] rfl (by simpa [digs] using Row.of_blk (Blk.new W1 30 D.cells)) (by omega) (by simp; omega)
      go_step
      iterate 3 (refine wpList_step (fun K hK => ?_); go_simp; (try go_bits); refine hK _ _ ?_; clear hK K)
      refine wpList_app rfl (.tmp 12) (.tmp 14) 42 rfl rfl rfl rfl hr2 ?_
      clear hr2
      go_wp2_with fail
      go_roundw
      case rel => exact ⟨k + 1, hlt, by go_num, by rw [List.take_succ_eq_append_getElem hkl, ← HD.out]; exact ho2, ((hx.trans y1).alloc _).trans' hk2 HOB.out⟩
      case measure => simp only [intOf]; omega
    · go_wp2_with fail
      go_ret
      have e : k = n := by omega
      subst e
      have ho := HO.out
      rw [List.take_of_length_le (Nat.le_of_eq HN.out.symm)] at ho
      exact ⟨_, rfl, ho, hx⟩
end Go.Proofs.YtahljceanodhkaaGreatDoor

/- Steps between the document and the program: words, ofWords. -/
namespace Go.Proofs.YtahljceanodhkaaGreatDoor
open Go.RowKit
set_option maxRecDepth 100000 in
set_option maxHeartbeats 2000000 in
theorem words_ok (N M : Nat) (A : Option Addr) (n cap : Nat) (ls : List Wl) (w : World) (h : SG N 30 77 w A n ls) (hNw : M ≤ w.heap.size) (h2 : n ≤ 1000) (h3 : ∀ x ∈ ls, x.path.length ≤ 4096) :
    Calls Tryz.prog 91 #[.slice A n cap] w fun e w' => ∃ A' c', e = .returned (.slice A' n c') ∧ SG M 23 163 w' A' n ls ∧ Ext w w' := by
  obtain ⟨hn, b, off, sd, hA, hr, _, hg⟩ := h
  have HN := Lib.hid hn
  have HA := Lib.hid hA
  have HR := Lib.hid hr
  have HG := Lib.hid hg
  have HDL := Lib.hid (show n = sd.length from hn.trans hg.len.symm)
  have H3 := Lib.hid h3
  clear hn hA hr hg h3
  go_enter Tryz.func91, Tryz.ntmps91
  go_wp2_with fail
  go_loopw [3, 8] (fun t3 t8 wr => ∃ (k : Nat) (ds : List Wd), k ≤ n ∧ t8 = .int .i64 k ∧ wr.ownsRow w.heap.size 163 3 t3 k (wds ds) ∧ WsG M 23 wr ds (ls.take k) ∧ Ext w wr) (fun _ t8 _ => n - (intOf t8).toNat)
  case atStart => exact ⟨0, [], Nat.zero_le _, rfl, World.ownsRow_nil _ _ _ _, .nil, Kept.refl _ w⟩
  case round =>
    obtain ⟨k, ds, hk, rfl, ho, hw, hx⟩ := hrel
    have hob : ∀ i, i < w.heap.size → (u3 : Value).ownBlock = some i → False := fun i hi e => by have := (ho.lt i e).1; omega
    have HOB := Lib.hid hob
    have HO := Lib.hid ho
    have HW := Lib.hid hw
    have HNW := Lib.hid (show ∀ i, (u3 : Value).ownBlock = some i → M ≤ i from fun i e => by have := (ho.lt i e).1; omega)
    clear hob ho hw
    by_cases hlt : k < n
    · have hkl : k < ls.length := by have := HN.out; omega
      have hkd : k < sd.length := by have := HDL.out; omega
      obtain rfl := HA.out (by omega)
      obtain ⟨hrh, hrg⟩ := ((HR.out (by omega)).ext hx).wd k hkd
      have hWk := (HG.out.get k hkd hkl).ext hx
      obtain ⟨L, hL⟩ : ∃ L, L = ls[k] := ⟨_, rfl⟩
      have hpl : L.path.length ≤ 4096 := by rw [hL]; exact H3.out _ (List.getElem_mem hkl)
      rw [← hL] at hWk
      obtain ⟨D, hD⟩ : ∃ D, D = sd[k] := ⟨_, rfl⟩
      rw [← hD] at hrg hWk
      have HL := Lib.hid hL
      have HWk := Lib.hid hWk
      have HPL := Lib.hid hpl
      clear hD hL hWk hpl
      have hbl := ((HR.out (by omega)).ext hx).lt
      have hkI : (k : Int) < n := by omega
      have hk0 : (0 : Int) ≤ k := by omega
      go_upto_region 5 with (fail)
      have y1 : Ext wr (wr.alloc (.cells D.cells 77)) := (Kept.refl _ wr).alloc _
      have hD1 := Blk.new wr 77 D.cells
      have hne : ¬ (u3 : Value).ownBlock = some wr.heap.size := fun e => by have := (HO.out.lt _ e).2; omega
      have hO1 := Lib.hid (own_ext HO.out y1)
      have hW1 := Lib.hid (HW.out.ext y1)
      generalize (wr.alloc (.cells D.cells 77)) = W1 at y1 hD1 hO1 hW1 ⊢
      generalize (wr : World).heap.size = db at hD1 hne ⊢
      clear hrh hrg hbl
      have HNE := Lib.hid hne
      have hws : w.heap.size ≤ W1.heap.size := (hx.trans y1).size
      have HWS := Lib.hid hws
      clear hne hws
      refine wp_region_3 (fun w2 => Kept (fun i => (u3 : Value).ownBlock = some i) W1 w2) [(0, 2), (1, 2), (2, 1), (3, 2), (4, 1), (5, 2), (6, 1), (7, 0), (8, 2), (9, 0), (10, 0), (11, 2)] (by kernel_rfl) (by kernel_rfl) (by kernel_rfl) (by kernel_rfl) ?_; intro l' hl'; simp only [List.map_cons, List.map_nil, List.getD_cons_zero, List.getD_cons_succ] at hl'; subst hl'
      (repeat (first | ((apply w3_pure); (· go_simp); (· (intro w1; go_simp; try with_reducible rfl)); (intro K hK; go_simp; refine hK _ _ ?_; clear hK K)) | ((apply w3_skip); (· go_simp); (intro K hK; go_simp; refine hK _ _ ?_; clear hK K)) | ((apply w3_take); (· exact (Kept.drew (Kept.refl _ _))); (· go_simp); (· (intro w1 hS; have d0 := Blk.kept hD1 hS HNE.out; have d1 := Blk.cell d0; have d2 := d0.lt;  go_simp; try with_reducible rfl)); (intro K hK; go_simp; refine hK _ _ ?_; clear hK K)) | ((apply w3_pass); (· exact (Kept.drew (Kept.refl _ _))); (· go_simp); (intro K hK; go_simp; refine hK _ _ ?_; clear hK K))))
      have yW : Ext W1 W1.drew := (Kept.refl _ W1).drew
      (refine w3_act (fun K hK => ?_); go_simp)
      go_wp2_with fail
      obtain ⟨pb, po, hpA, hpr⟩ : ∃ pb po, (0 < D.pn → D.pa = some ⟨pb, po, none⟩) ∧ (0 < D.pn → Row W1.drew pb po (digs L.path)) := by
        by_cases h0 : 0 < D.pn
        · obtain ⟨pb, po, e1, e2, _⟩ := (HWk.out.path.ext y1).row h0
          exact ⟨pb, po, fun _ => e1, fun _ => e2.ext yW⟩
        · exact ⟨0, 0, fun h => absurd h h0, fun h => absurd h h0⟩
      refine (digests_ok D.pa pb po D.pk L.path D.pn HWk.out.path.len (by have := HWk.out.path.len; have := HPL.out; omega) hpA W1.drew hpr).mono ?_
      rintro e w1 ⟨v1, rfl, ho1, hx1⟩
      have y2 : Ext W1 w1 := yW.trans hx1
      obtain ⟨pA, pc, rfl, hpg⟩ := PG.of_own (N := M) ho1
      refine hK.out _ _ (fun _ => Kept.ext y2) ?_
      clear hK K hpA hpr ho1
      have HPG := Lib.hid hpg
      clear hpg hx1 yW
      (repeat (first | ((apply w3_pure); (· go_simp); (· (intro w1; go_simp; try with_reducible rfl)); (intro K hK; go_simp; refine hK _ _ ?_; clear hK K)) | ((apply w3_skip); (· go_simp); (intro K hK; go_simp; refine hK _ _ ?_; clear hK K))))
      (refine w3_act (fun K hK => ?_); go_simp)
      have hWd : WG M 23 w1 ⟨D.at_, D.is_, pA, D.pn, pc⟩ L := ⟨HWk.out.at_, HWk.out.is_, HPG.out⟩
      have HWd := Lib.hid hWd
      have yB : Ext w1 (w1.alloc (.cells (Wd.cells ⟨D.at_, D.is_, pA, D.pn, pc⟩) 163)) := (Kept.refl _ w1).alloc _
      refine hK.out _ _ (fun _ => Kept.ext (y2.trans yB)) ?_
      clear hK K hWd
      obtain ⟨v2, w2, hr2, ho2, hk2⟩ := appRW (w1.alloc (.cells (Wd.cells ⟨D.at_, D.is_, pA, D.pn, pc⟩) 163)) _ _ _ ds ((own_ext hO1.out y2).alloc _) w1.heap.size 0 1 1 [⟨D.at_, D.is_, pA, D.pn, pc⟩] rfl (by simpa [wds] using Row.of_blk ((Blk.new w1 163 (Wd.cells ⟨D.at_, D.is_, pA, D.pn, pc⟩)))) (by omega) (by have := HWS.out; have := y2.size; show _ ≤ (w1.alloc _).heap.size; simp; omega)
      have k2 : Kept (fun i => (u3 : Value).ownBlock = some i) w1 w2 := (Kept.ext yB).trans hk2
      have hw2 : WsG M 23 w2 (ds ++ [⟨D.at_, D.is_, pA, D.pn, pc⟩]) (ls.take (k + 1)) := by
        rw [List.take_succ_eq_append_getElem hkl, ← HL.out]
        exact ((hW1.out.ext y2).snoc HWd.out).kept k2 (fun i hi => ⟨HNW.out i hi, own_other (own_ext hO1.out y2) (by decide) i hi⟩)
      have HW2 := Lib.hid hw2
      have HO2 := Lib.hid ho2
      clear hw2 ho2 hk2
      refine w3_act (fun K hK => ?_)
      refine if_want rfl ?_
      refine Lib.wp_append_run _ _ _ _ _ rfl _ _ rfl rfl _ _ hr2 ?_
      refine hK.out _ _ (fun _ => (Kept.ext y2).trans k2) ?_
      clear hK K hr2
      (repeat (first | ((apply w3_pure); (· go_simp); (· (intro w1; go_simp; try with_reducible rfl)); (intro K hK; go_simp; refine hK _ _ ?_; clear hK K)) | ((apply w3_skip); (· go_simp); (intro K hK; go_simp; refine hK _ _ ?_; clear hK K)) | (refine w3_end (by kernel_rfl) (fun K hK => ?_); go_simp; refine hK.out _ _ ?_; clear hK K))); refine w3_nil ?_
      go_wp2_with fail
      go_roundw
      case rel => exact ⟨k + 1, _, hlt, by go_num, HO2.out, HW2.out, ((hx.trans y1).trans y2).trans' k2 HOB.out⟩
      case measure => simp only [intOf]; omega
    · have e : k = n := by omega
      subst e
      have hw := HW.out
      rw [List.take_of_length_le (Nat.le_of_eq HN.out.symm)] at hw
      obtain ⟨A', c', rfl, hS'⟩ := SG.of_own (N := M) HO.out hw
      have HS' := Lib.hid hS'
      clear hw hS' HO HW
      go_wp2_with fail
      go_ret
      exact ⟨_, _, rfl, HS'.out, hx⟩
set_option maxRecDepth 100000 in
set_option maxHeartbeats 2000000 in
theorem ofwords_ok (N M : Nat) (A : Option Addr) (n cap : Nat) (ls : List Wl) (w : World) (h : SG N 23 163 w A n ls) (hNw : M ≤ w.heap.size) (h2 : n ≤ 1000) (h3 : ∀ x ∈ ls, x.path.length ≤ 4096) :
    Calls Tryz.prog 101 #[.slice A n cap] w fun e w' => ∃ A' c', e = .returned (.slice A' n c') ∧ SG M 30 77 w' A' n ls ∧ Ext w w' := by
  obtain ⟨hn, b, off, sd, hA, hr, _, hg⟩ := h
  have HN := Lib.hid hn
  have HA := Lib.hid hA
  have HR := Lib.hid hr
  have HG := Lib.hid hg
  have HDL := Lib.hid (show n = sd.length from hn.trans hg.len.symm)
  have H3 := Lib.hid h3
  clear hn hA hr hg h3
  go_enter Tryz.func101, Tryz.ntmps101
  go_wp2_with fail
  go_loopw [3, 8] (fun t3 t8 wr => ∃ (k : Nat) (ds : List Wd), k ≤ n ∧ t8 = .int .i64 k ∧ wr.ownsRow w.heap.size 77 3 t3 k (wds ds) ∧ WsG M 30 wr ds (ls.take k) ∧ Ext w wr) (fun _ t8 _ => n - (intOf t8).toNat)
  case atStart => exact ⟨0, [], Nat.zero_le _, rfl, World.ownsRow_nil _ _ _ _, .nil, Kept.refl _ w⟩
  case round =>
    obtain ⟨k, ds, hk, rfl, ho, hw, hx⟩ := hrel
    have hob : ∀ i, i < w.heap.size → (u3 : Value).ownBlock = some i → False := fun i hi e => by have := (ho.lt i e).1; omega
    have HOB := Lib.hid hob
    have HO := Lib.hid ho
    have HW := Lib.hid hw
    have HNW := Lib.hid (show ∀ i, (u3 : Value).ownBlock = some i → M ≤ i from fun i e => by have := (ho.lt i e).1; omega)
    clear hob ho hw
    by_cases hlt : k < n
    · have hkl : k < ls.length := by have := HN.out; omega
      have hkd : k < sd.length := by have := HDL.out; omega
      obtain rfl := HA.out (by omega)
      obtain ⟨hrh, hrg⟩ := ((HR.out (by omega)).ext hx).wd k hkd
      have hWk := (HG.out.get k hkd hkl).ext hx
      obtain ⟨L, hL⟩ : ∃ L, L = ls[k] := ⟨_, rfl⟩
      have hpl : L.path.length ≤ 4096 := by rw [hL]; exact H3.out _ (List.getElem_mem hkl)
      rw [← hL] at hWk
      obtain ⟨D, hD⟩ : ∃ D, D = sd[k] := ⟨_, rfl⟩
      rw [← hD] at hrg hWk
      have HL := Lib.hid hL
      have HWk := Lib.hid hWk
      have HPL := Lib.hid hpl
      clear hD hL hWk hpl
      have hbl := ((HR.out (by omega)).ext hx).lt
      have hkI : (k : Int) < n := by omega
      have hk0 : (0 : Int) ≤ k := by omega
      go_upto_region 5 with (fail)
      have y1 : Ext wr (wr.alloc (.cells D.cells 163)) := (Kept.refl _ wr).alloc _
      have hD1 := Blk.new wr 163 D.cells
      have hne : ¬ (u3 : Value).ownBlock = some wr.heap.size := fun e => by have := (HO.out.lt _ e).2; omega
      have hO1 := Lib.hid (own_ext HO.out y1)
      have hW1 := Lib.hid (HW.out.ext y1)
      generalize (wr.alloc (.cells D.cells 163)) = W1 at y1 hD1 hO1 hW1 ⊢
      generalize (wr : World).heap.size = db at hD1 hne ⊢
      clear hrh hrg hbl
      have HNE := Lib.hid hne
      have hws : w.heap.size ≤ W1.heap.size := (hx.trans y1).size
      have HWS := Lib.hid hws
      clear hne hws
      refine wp_region_3 (fun w2 => Kept (fun i => (u3 : Value).ownBlock = some i) W1 w2) [(0, 2), (1, 2), (2, 1), (3, 2), (4, 1), (5, 2), (6, 1), (7, 0), (8, 2), (9, 0), (10, 0), (11, 2)] (by kernel_rfl) (by kernel_rfl) (by kernel_rfl) (by kernel_rfl) ?_; intro l' hl'; simp only [List.map_cons, List.map_nil, List.getD_cons_zero, List.getD_cons_succ] at hl'; subst hl'
      (repeat (first | ((apply w3_pure); (· go_simp); (· (intro w1; go_simp; try with_reducible rfl)); (intro K hK; go_simp; refine hK _ _ ?_; clear hK K)) | ((apply w3_skip); (· go_simp); (intro K hK; go_simp; refine hK _ _ ?_; clear hK K)) | ((apply w3_take); (· exact (Kept.drew (Kept.refl _ _))); (· go_simp); (· (intro w1 hS; have d0 := Blk.kept hD1 hS HNE.out; have d1 := Blk.cell d0; have d2 := d0.lt;  go_simp; try with_reducible rfl)); (intro K hK; go_simp; refine hK _ _ ?_; clear hK K)) | ((apply w3_pass); (· exact (Kept.drew (Kept.refl _ _))); (· go_simp); (intro K hK; go_simp; refine hK _ _ ?_; clear hK K))))
      have yW : Ext W1 W1.drew := (Kept.refl _ W1).drew
      (refine w3_act (fun K hK => ?_); go_simp)
      go_wp2_with fail
      obtain ⟨pb, po, hpA, hpr⟩ : ∃ pb po, (0 < D.pn → D.pa = some ⟨pb, po, none⟩) ∧ (0 < D.pn → Row W1.drew pb po (digs L.path)) := by
        by_cases h0 : 0 < D.pn
        · obtain ⟨pb, po, e1, e2, _⟩ := (HWk.out.path.ext y1).row h0
          exact ⟨pb, po, fun _ => e1, fun _ => e2.ext yW⟩
        · exact ⟨0, 0, fun h => absurd h h0, fun h => absurd h h0⟩
      refine (ofdigs_ok D.pa pb po D.pk L.path D.pn HWk.out.path.len (by have := HWk.out.path.len; have := HPL.out; omega) hpA W1.drew hpr).mono ?_
      rintro e w1 ⟨v1, rfl, ho1, hx1⟩
      have y2 : Ext W1 w1 := yW.trans hx1
      obtain ⟨pA, pc, rfl, hpg⟩ := PG.of_own (N := M) ho1
      refine hK.out _ _ (fun _ => Kept.ext y2) ?_
      clear hK K hpA hpr ho1
      have HPG := Lib.hid hpg
      clear hpg hx1 yW
      (repeat (first | ((apply w3_pure); (· go_simp); (· (intro w1; go_simp; try with_reducible rfl)); (intro K hK; go_simp; refine hK _ _ ?_; clear hK K)) | ((apply w3_skip); (· go_simp); (intro K hK; go_simp; refine hK _ _ ?_; clear hK K))))
      (refine w3_act (fun K hK => ?_); go_simp)
      have hWd : WG M 30 w1 ⟨D.at_, D.is_, pA, D.pn, pc⟩ L := ⟨HWk.out.at_, HWk.out.is_, HPG.out⟩
      have HWd := Lib.hid hWd
      have yB : Ext w1 (w1.alloc (.cells (Wd.cells ⟨D.at_, D.is_, pA, D.pn, pc⟩) 77)) := (Kept.refl _ w1).alloc _
      refine hK.out _ _ (fun _ => Kept.ext (y2.trans yB)) ?_
      clear hK K hWd
      obtain ⟨v2, w2, hr2, ho2, hk2⟩ := appW (w1.alloc (.cells (Wd.cells ⟨D.at_, D.is_, pA, D.pn, pc⟩) 77)) _ _ _ ds ((own_ext hO1.out y2).alloc _) w1.heap.size 0 1 1 [⟨D.at_, D.is_, pA, D.pn, pc⟩] rfl (by simpa [wds] using Row.of_blk ((Blk.new w1 77 (Wd.cells ⟨D.at_, D.is_, pA, D.pn, pc⟩)))) (by omega) (by have := HWS.out; have := y2.size; show _ ≤ (w1.alloc _).heap.size; simp; omega)
      have k2 : Kept (fun i => (u3 : Value).ownBlock = some i) w1 w2 := (Kept.ext yB).trans hk2
      have hw2 : WsG M 30 w2 (ds ++ [⟨D.at_, D.is_, pA, D.pn, pc⟩]) (ls.take (k + 1)) := by
        rw [List.take_succ_eq_append_getElem hkl, ← HL.out]
        exact ((hW1.out.ext y2).snoc HWd.out).kept k2 (fun i hi => ⟨HNW.out i hi, own_other (own_ext hO1.out y2) (by decide) i hi⟩)
      have HW2 := Lib.hid hw2
      have HO2 := Lib.hid ho2
      clear hw2 ho2 hk2
      refine w3_act (fun K hK => ?_)
      refine if_want rfl ?_
      refine Lib.wp_append_run _ _ _ _ _ rfl _ _ rfl rfl _ _ hr2 ?_
      refine hK.out _ _ (fun _ => (Kept.ext y2).trans k2) ?_
      clear hK K hr2
      (repeat (first | ((apply w3_pure); (· go_simp); (· (intro w1; go_simp; try with_reducible rfl)); (intro K hK; go_simp; refine hK _ _ ?_; clear hK K)) | ((apply w3_skip); (· go_simp); (intro K hK; go_simp; refine hK _ _ ?_; clear hK K)) | (refine w3_end (by kernel_rfl) (fun K hK => ?_); go_simp; refine hK.out _ _ ?_; clear hK K))); refine w3_nil ?_
      go_wp2_with fail
      go_roundw
      case rel => exact ⟨k + 1, _, hlt, by go_num, HO2.out, HW2.out, ((hx.trans y1).trans y2).trans' k2 HOB.out⟩
      case measure => simp only [intOf]; omega
    · have e : k = n := by omega
      subst e
      have hw := HW.out
      rw [List.take_of_length_le (Nat.le_of_eq HN.out.symm)] at hw
      obtain ⟨A', c', rfl, hS'⟩ := SG.of_own (N := M) HO.out hw
      have HS' := Lib.hid hS'
      clear hw hS' HO HW
      go_wp2_with fail
      go_ret
      exact ⟨_, _, rfl, HS'.out, hx⟩
end Go.Proofs.YtahljceanodhkaaGreatDoor
