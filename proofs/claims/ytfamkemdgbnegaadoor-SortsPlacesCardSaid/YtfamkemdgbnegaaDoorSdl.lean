/- Several texts joined: Uf. -/
import Derived.Test.YtfamkemdgbnegaaDoorSdk
/- Sorts: the document's answer: a block of statements. -/
namespace Go.Proofs.YtfamkemdgbnegaaDoor
open Go.RowKit So
theorem fltC_two (f : Option Flt) : (fltC f).size = 2 := by cases f <;> rfl
theorem fltC_flat (f : Option Flt) : flatL (fltC f).toList = true := by cases f <;> rfl
theorem Blk.put_flt {w : World} {b : Nat} {t : TypeId} (h : Blk w b t #[.int .i64 0, .string ⟨#[]⟩]) (f : Option Flt) : Blk (putAt w b 0 (fltC f)) b t (fltC f) := by
  have := Blk.put_ h 0 (fltC f)
  cases f <;> exact this
set_option maxRecDepth 100000 in
set_option maxHeartbeats 4000000 in
theorem rblock_any (c : Pc) (p : Pr) (i : Nat) (hi : i < 5) (N : Nat) (w0 : World) (hN : N ≤ w0.heap.size) (h : PAt w0 N c p) (F : SF) : RBlC c p i N w0 F := by
  refine sf_ind (C := RBlC c p i N w0) ?_ F
  clear F
  intro F IH deep top A n kc pl B bn bc w hw hpl hAk hpn hd8 hsl
  obtain ⟨hn, hf, b, off, hA, hE⟩ := hsl
  have hm := hf.max (by omega)
  obtain ⟨κ, hκ⟩ : ∃ κ, κ = updAll (knV p.vars) pl := ⟨_, rfl⟩
  obtain ⟨Z, hZ⟩ : ∃ Z, Z = chkB i κ deep top F := ⟨_, rfl⟩
  rw [← hκ, ← hZ]
  have HKA := Lib.hid hκ
  have HZ := Lib.hid hZ.symm
  have HN := Lib.hid hn
  have HA := Lib.hid hA
  have HE := Lib.hid hE
  have HI := Lib.hid IH
  have HPN := Lib.hid (And.intro hpn hd8)
  have HAK := Lib.hid hAk
  have HW0 := Lib.hid hw
  have HN0 := Lib.hid hN
  have HP0 := Lib.hid h
  clear hκ hZ hn hf hA hE IH hpn hd8 hAk
  have hx0 := ((Kept.refl (fun _ => False) w).alloc (.cells (knCells c A n kc) 96)).alloc (.cells #[.int .i64 0, .string ⟨#[]⟩] 38)
  have hK := (Blk.new w 96 (knCells c A n kc)).alloc (.cells #[.int .i64 0, .string ⟨#[]⟩] 38)
  have hD := Blk.new' (w.alloc (.cells (knCells c A n kc) 96)) 38 #[.int .i64 0, .string ⟨#[]⟩] (w.heap.size + 1) (by simp)
  go_enter Tryd.func57, Tryd.ntmps57
  go_upto_region 1 with (fail)
  have HNW := Lib.hid (show w.heap.size ≤ _ from hx0.size)
  have HPL := Lib.hid (hpl.ext hx0)
  have HWZ := Lib.hid (hw.trans hx0)
  generalize hW : ((w.alloc (.cells (knCells c A n kc) 96)).alloc (.cells #[.int .i64 0, .string ⟨#[]⟩] 38)) = W at hx0 hK hD HNW HPL HWZ ⊢
  clear hW h hpl hw hN
  obtain ⟨rb, hrb⟩ : ∃ rb, rb = w.heap.size + 1 := ⟨_, rfl⟩
  rw [← hrb] at hD ⊢
  obtain ⟨kb, hkb⟩ : ∃ kb, kb = w.heap.size := ⟨_, rfl⟩
  rw [← hkb] at hK ⊢
  have HRW := Lib.hid (show w.heap.size ≤ rb ∧ ¬ rb = kb from ⟨by omega, by omega⟩)
  have HD := Lib.hid hD
  have HX0 := Lib.hid hx0
  have HK := Lib.hid hK
  clear hD hx0 hrb hK hkb
  go_wp2_with fail
  go_loopw [11] (fun t11 wr => ∃ (m : Nat) (R : SF), m + R.len = bn ∧ chkB i κ deep top R = Z ∧ t11 = .int .i64 m ∧ SFAt w0 N R b (off + m * 7) ∧ SF.All (RBlC c p i N w0) R ∧ Ext W wr) (fun t11 _ => bn - (intOf t11).toNat)
  case atStart => exact ⟨0, F, by rw [HN.out, Nat.zero_add], HZ.out, rfl, by simpa using HE.out, HI.out, Kept.refl _ _⟩
  case round =>
    obtain ⟨m, R, hm', hacc, rfl, hR, hall, hx⟩ := hrel
    have HRR := Lib.hid hR
    have HXC := Lib.hid hx
    have HACC := Lib.hid hacc
    have HALL := Lib.hid hall
    clear hR hx hacc hall
    cases R with
    | nil =>
      simp only [SF.len, Nat.add_zero] at hm'
      subst hm'
      have HR := Lib.hid (show Z = none by rw [← HACC.out]; rfl)
      go_wp2_with fail
      refine (fine_any _).mono ?_
      rintro e9 w9 ⟨rfl, hx9⟩
      have HXC := Lib.hid (HXC.out.trans hx9)
      have hDr := Blk.ext HD.out HXC.out
      have hmr := hDr.melts
      have hhr := Blk.has hDr
      have hlr := hDr.lt
      have hhK := Blk.has (Blk.ext HK.out HXC.out)
      have hgK := Blk.gets (Blk.ext HK.out HXC.out)
      have hlK := (Blk.ext HK.out HXC.out).lt
      clear hx9
      go_wp2_with fail
      refine ret_cell (t := 38) (g := rb) (cs := fltC Z) Tryd.results57 rfl rfl aggFaultR (by rw [HR.out]; exact sizeFaultR) (by rw [HR.out]; exact Blk.put_ hDr 0 _) ⟨rfl, ?_⟩
      exact (HX0.out.trans HXC.out).putAt _ _ _ (fun hlt => absurd hlt (by have := HRW.out; omega))
    | cons kind name es low high l x r =>
      obtain ⟨hb, h1, h2, h3, h4, ⟨eA, ec, lA, lc, xA, xc, be, oe, bl, ol, bx, ox, hh, hg, n1, n2, n3, a1, a2, a3, he, hl, hxx⟩, hr⟩ := HRR.out
      simp only [SF.len] at hm'
      have hlt : (m : Int) < bn := by omega
      obtain rfl := HA.out (by omega)
      have hw0 := HWZ.out.trans HXC.out
      have HH0 := Lib.hid (has_ext hw0 (by have := HN0.out; omega) hh)
      have HG0 := Lib.hid (gets_ext hw0 (by have := HN0.out; omega) hg)
      have hbw : b < wr.heap.size := by have := hw0.size; have := HN0.out; omega
      have KE := Lib.hid (show ESl w0 N eA es.len es from ⟨rfl, n1, be, oe, a1, he⟩)
      have KL := Lib.hid (show SSl w0 N lA l.len l from ⟨rfl, n2, bl, ol, a2, hl⟩)
      have KX := Lib.hid (show SSl w0 N xA x.len x from ⟨rfl, n3, bx, ox, a3, hxx⟩)
      have HR2 := Lib.hid hr
      have HAL := Lib.hid HALL.out
      have HSZ := Lib.hid h4
      have HWQ := Lib.hid hw0
      have HHW := Lib.hid hbw
      clear hh hg n1 n2 n3 a1 a2 a3 he hl hxx hb h1 h2 h3 h4 hr HRR hw0
      have HHa := HH0.out
      have HGa := HG0.out
      have HACC := Lib.hid (show Z = ored (chkS i κ deep (top && r.isNil) kind name es low high l x) (chkB i κ deep top r) from HACC.out ▸ chkB_cons i κ deep top kind name es low high l x r)
      have hls : ((m : Int) == (bn : Int) - 1) = r.isNil := by
        cases r with
        | nil => simp only [SF.len] at hm'; simp [SF.isNil]; omega
        | cons => simp only [SF.len] at hm'; simp [SF.isNil]; omega
      obtain ⟨la, hla⟩ : ∃ la, la = r.isNil := ⟨_, rfl⟩
      rw [← hla] at hls
      have HLS := Lib.hid (show ((m : Int) == IntKind.i64.wrap ((bn : Int) - 1)) = la by rw [← hls]; congr 1; rw [IntKind.wrap_i64]; omega)
      clear hls
      cases top
      · have HIK := Lib.hid (fun w' (hw' : Ext w0 w') (hs' : StrSl w' w'.heap.size A n pl) => rstmt_any c p i hi N w0 HN0.out HP0.out deep HPN.out.2 kind name es low high l x eA ec lA lc xA xc false HSZ.out KE.out KL.out KX.out HAL.out.1 HAL.out.2.1 A n kc pl w' hw' hs' HAK.out HPN.out.1)
        obtain ⟨f, hf⟩ : ∃ f, f = chkS i κ deep false kind name es low high l x := ⟨_, rfl⟩
        have HXB := Lib.hid (show Z = ored f (chkB i κ deep false r) from hf ▸ HACC.out)
        clear HLS HACC hla la
        have HF := Lib.hid hf
        clear hf
        go_upto_region 4 with (fail)
        apply meet (F := fun W2 fb => Ext wr W2 ∧ Blk W2 fb 38 (fltC f))
        case h =>
          intro KEY0
          have KEY := Lib.hid KEY0
          clear KEY0
          refine wp_region_4 (fun w1 => Ext wr w1) (.op 0 1 (.op 1 2 (.op 2 2 (.op 3 2 (.op 4 1 (.op 5 2 (.op 6 2 (.op 7 2 (.op 8 2 (.op 9 2 (.op 10 2 (.op 11 2 (.op 12 2 (.op 13 2 (.op 14 2 (.fork 15 (.op 16 0 (.op 17 0 .nil)) 16 (.op 15 0 (.op 17 0 .nil)))))))))))))))))) (by kernel_rfl) (by kernel_rfl) (by kernel_rfl) (by kernel_rfl) ?_; intro p' hp'; simp only [Pl0.fill, List.getD_cons_zero, List.getD_cons_succ] at hp'; subst hp'
          have HY9 := Lib.hid (show Ext wr wr.drew from (Kept.refl _ wr).drew)
          (repeat (first | ((apply w4_pure); (· go_simp); (· (intro w1; go_simp; try with_reducible rfl)); (intro K hK; go_simp; refine hK _ _ ?_; clear hK K)) | ((apply w4_skip); (· go_simp); (intro K hK; go_simp; refine hK _ _ ?_; clear hK K)) | ((apply w4_take); (· exact HY9.out); (· go_simp); (· (intro w1 hS; have d0 := Blk.ext HK.out (HXC.out.trans hS); have d1 := Blk.gets d0; have d2 := Blk.has d0; have d3 := d0.lt; have d7 := has_ext hS HHW.out HH0.out; have d8 := gets_ext hS HHW.out HG0.out; have d9 := Nat.lt_of_lt_of_le HHW.out hS.size;  go_simp; try with_reducible rfl)); (intro K hK; go_simp; refine hK _ _ ?_; clear hK K)) | ((apply w4_pass); (· exact HY9.out); (· go_simp); (intro K hK; go_simp; refine hK _ _ ?_; clear hK K))))
          refine w4_fork ?_ ?_
          · (refine w4_act (fun K hK => ?_); go_simp)
            try rw [HLS.out]
            refine (HIK.out _ (HWQ.out.trans HY9.out) ((HPL.out.ext (HXC.out.trans HY9.out)).mono (Nat.le_trans HNW.out (HXC.out.trans HY9.out).size))).mono ?_
            rintro e4 w1 ⟨rfl, hx1⟩
            rw [← HKA.out, ← HF.out]
            have y1 := HY9.out.trans hx1
            refine hK.out _ _ (fun _ => y1) ?_
            clear hK K
            (repeat (first | ((apply w4_pure); (· go_simp); (· (intro w1; go_simp; try with_reducible rfl)); (intro K hK; go_simp; refine hK _ _ ?_; clear hK K)) | ((apply w4_skip); (· go_simp); (intro K hK; go_simp; refine hK _ _ ?_; clear hK K))))
            (refine w4_act (fun K hK => ?_); go_simp)
            have y2 := y1.alloc (.cells #[.int .i64 0, .string ⟨#[]⟩] 38)
            have hfb := Blk.new w1 38 #[.int .i64 0, .string ⟨#[]⟩]
            refine hK.out _ _ (fun _ => y2) ?_
            clear hK K
            generalize hW2 : w1.alloc (.cells #[.int .i64 0, .string ⟨#[]⟩] 38) = W2 at y2 hfb ⊢
            clear hW2
            have hfl : wr.heap.size ≤ w1.heap.size := y1.size
            generalize w1.heap.size = fb at hfb hfl ⊢
            have hmf := hfb.melts
            have hhf := Blk.has hfb
            have hfc := fltC_two f
            have hff := fltC_flat f
            (repeat (first | ((apply w4_pure); (· go_simp); (· (intro w1; go_simp; try with_reducible rfl)); (intro K hK; go_simp; refine hK _ _ ?_; clear hK K)) | ((apply w4_skip); (· go_simp); (intro K hK; go_simp; refine hK _ _ ?_; clear hK K))))
            (refine w4_act (fun K hK => ?_); go_simp)
            have y3 := y2.putAt fb 0 (fltC f) (fun hlt => absurd hlt (by omega))
            have hf3 := Blk.put_flt hfb f
            refine hK.out _ _ (fun _ => y3) ?_
            clear hK K hmf hhf hfc hff
            (repeat (first | ((apply w4_pure); (· go_simp); (· (intro w1; go_simp; try with_reducible rfl)); (intro K hK; go_simp; refine hK _ _ ?_; clear hK K)) | ((apply w4_skip); (· go_simp); (intro K hK; go_simp; refine hK _ _ ?_; clear hK K)) | (refine w4_end (by kernel_rfl) (fun K hK => ?_); go_simp; refine hK.out _ _ ?_; clear hK K))); refine w4_nil ?_
            generalize putAt W2 fb 0 (fltC f) = W3 at y3 hf3 ⊢
            exact KEY.out _ _ ⟨y3, hf3⟩
          · (refine w4_act (fun K hK => ?_); go_simp)
            have y1 : Ext wr (wr.alloc (.cells #[.int .i64 0, .string ⟨#[]⟩] 38)).drew := ((Kept.refl _ wr).alloc _).drew
            refine hK.out _ _ (fun _ => y1) ?_
            clear hK K
            generalize hW1 : (wr.alloc (.cells #[.int .i64 0, .string ⟨#[]⟩] 38)).drew = W1 at y1 ⊢
            have hfb1 : Blk W1 wr.heap.size 38 #[.int .i64 0, .string ⟨#[]⟩] := by rw [← hW1]; exact Blk.drew (Blk.new wr _ _)
            clear hW1
            have hfl : wr.heap.size ≤ wr.heap.size := Nat.le_refl _
            generalize hfbe : (wr.heap.size : Nat) = fb at hfb1 hfl ⊢
            have HFL := Lib.hid (show wr.heap.size ≤ fb by omega)
            clear hfl hfbe
            have HY1 := Lib.hid y1
            (repeat (first | ((apply w4_pure); (· go_simp); (· (intro w1; go_simp; try with_reducible rfl)); (intro K hK; go_simp; refine hK _ _ ?_; clear hK K)) | ((apply w4_skip); (· go_simp); (intro K hK; go_simp; refine hK _ _ ?_; clear hK K))))
            (repeat (first | ((apply w4_pure); (· go_simp); (· (intro w1; go_simp; try with_reducible rfl)); (intro K hK; go_simp; refine hK _ _ ?_; clear hK K)) | ((apply w4_skip); (· go_simp); (intro K hK; go_simp; refine hK _ _ ?_; clear hK K)) | ((apply w4_take); (· exact HY1.out); (· go_simp); (· (intro w1 hS; have d0 := Blk.ext HK.out (HXC.out.trans hS); have d1 := Blk.gets d0; have d2 := Blk.has d0; have d3 := d0.lt; have d7 := has_ext hS HHW.out HH0.out; have d8 := gets_ext hS HHW.out HG0.out; have d9 := Nat.lt_of_lt_of_le HHW.out hS.size;  go_simp; try with_reducible rfl)); (intro K hK; go_simp; refine hK _ _ ?_; clear hK K)) | ((apply w4_pass); (· exact HY1.out); (· go_simp); (intro K hK; go_simp; refine hK _ _ ?_; clear hK K))))
            (refine w4_act (fun K hK => ?_); go_simp)
            try rw [HLS.out]
            refine (HIK.out _ (HWQ.out.trans HY1.out) ((HPL.out.ext (HXC.out.trans HY1.out)).mono (Nat.le_trans HNW.out (HXC.out.trans HY1.out).size))).mono ?_
            rintro e4 w1 ⟨rfl, hx1⟩
            rw [← HKA.out, ← HF.out]
            have y2 := HY1.out.trans hx1
            refine hK.out _ _ (fun _ => y2) ?_
            clear hK K y1
            have hfb2 := Blk.ext hfb1 hx1
            have hmf := hfb2.melts
            have hhf := Blk.has hfb2
            have hfc := fltC_two f
            have hff := fltC_flat f
            (repeat (first | ((apply w4_pure); (· go_simp); (· (intro w1; go_simp; try with_reducible rfl)); (intro K hK; go_simp; refine hK _ _ ?_; clear hK K)) | ((apply w4_skip); (· go_simp); (intro K hK; go_simp; refine hK _ _ ?_; clear hK K))))
            (refine w4_act (fun K hK => ?_); go_simp)
            have y3 := y2.putAt fb 0 (fltC f) (fun hlt => absurd hlt (by have := HFL.out; omega))
            have hf3 := Blk.put_flt hfb2 f
            refine hK.out _ _ (fun _ => y3) ?_
            clear hK K hmf hhf hfc hff
            (repeat (first | ((apply w4_pure); (· go_simp); (· (intro w1; go_simp; try with_reducible rfl)); (intro K hK; go_simp; refine hK _ _ ?_; clear hK K)) | ((apply w4_skip); (· go_simp); (intro K hK; go_simp; refine hK _ _ ?_; clear hK K)) | (refine w4_end (by kernel_rfl) (fun K hK => ?_); go_simp; refine hK.out _ _ ?_; clear hK K))); refine w4_nil ?_
            generalize putAt w1 fb 0 (fltC f) = W3 at y3 hf3 ⊢
            exact KEY.out _ _ ⟨y3, hf3⟩
        case h2 =>
          rintro W2 fb ⟨y2, hfb⟩
          have HFB := Lib.hid hfb
          have HY2 := Lib.hid (HXC.out.trans y2)
          clear hfb y2 HXC
          cases f with
          | none =>
            go_upto_region 5 with (fail)
            refine wp_region_3 (fun w1 => Ext W2 w1) [(0, 1), (1, 0), (2, 2)] (by kernel_rfl) (by kernel_rfl) (by kernel_rfl) (by kernel_rfl) ?_; intro l' hl'; simp only [List.map_cons, List.map_nil, List.getD_cons_zero, List.getD_cons_succ] at hl'; subst hl'
            have HZ0 := Lib.hid (show Ext W2 W2.drew from (Kept.refl _ W2).drew)
            (repeat (first | ((apply w3_pure); (· go_simp); (· (intro w1; go_simp; try with_reducible rfl)); (intro K hK; go_simp; refine hK _ _ ?_; clear hK K)) | ((apply w3_skip); (· go_simp); (intro K hK; go_simp; refine hK _ _ ?_; clear hK K)) | ((apply w3_take); (· exact HZ0.out); (· go_simp); (· (intro w1 hS; have d0 := Blk.ext HFB.out hS; have d1 := Blk.gets d0; have d2 := Blk.has d0; have d3 := d0.lt;  go_simp; try with_reducible rfl)); (intro K hK; go_simp; refine hK _ _ ?_; clear hK K)) | ((apply w3_pass); (· exact HZ0.out); (· go_simp); (intro K hK; go_simp; refine hK _ _ ?_; clear hK K))))
            (refine w3_act (fun K hK => ?_); go_simp)
            refine (fine_any _).mono ?_
            rintro e4 w1 ⟨rfl, hx1⟩
            have HZ1 := Lib.hid (HZ0.out.trans hx1)
            refine hK.out _ _ (fun _ => HZ1.out) ?_
            clear hK K hx1
            (repeat (first | ((apply w3_pure); (· go_simp); (· (intro w1; go_simp; try with_reducible rfl)); (intro K hK; go_simp; refine hK _ _ ?_; clear hK K)) | ((apply w3_skip); (· go_simp); (intro K hK; go_simp; refine hK _ _ ?_; clear hK K)) | (refine w3_end (by kernel_rfl) (fun K hK => ?_); go_simp; refine hK.out _ _ ?_; clear hK K))); refine w3_nil ?_
            go_wp2_with fail
            go_roundw
            case rel => exact ⟨m + 1, r, by omega, by rw [HXB.out, ored_none], by go_num, by rw [Nat.add_mul, ← Nat.add_assoc]; exact HR2.out, HAL.out.2.2, HY2.out.trans HZ1.out⟩
            case measure => simp only [intOf]; omega
          | some f =>
            obtain ⟨fe, fn⟩ := f
            have hnz := NZ.out (nz_chkS _ _ _ _ _ _ _ _ _ _ _) HF.out.symm
            have HR := Lib.hid (show Z = some ⟨fe, fn⟩ by rw [HXB.out, ored_some])
            go_upto_region 5 with (fail)
            refine wp_region_3 (fun w1 => Ext W2 w1) [(0, 1), (1, 0), (2, 2)] (by kernel_rfl) (by kernel_rfl) (by kernel_rfl) (by kernel_rfl) ?_; intro l' hl'; simp only [List.map_cons, List.map_nil, List.getD_cons_zero, List.getD_cons_succ] at hl'; subst hl'
            have HZ0 := Lib.hid (show Ext W2 W2.drew from (Kept.refl _ W2).drew)
            (repeat (first | ((apply w3_pure); (· go_simp); (· (intro w1; go_simp; try with_reducible rfl)); (intro K hK; go_simp; refine hK _ _ ?_; clear hK K)) | ((apply w3_skip); (· go_simp); (intro K hK; go_simp; refine hK _ _ ?_; clear hK K)) | ((apply w3_take); (· exact HZ0.out); (· go_simp); (· (intro w1 hS; have d0 := Blk.ext HFB.out hS; have d1 := Blk.gets d0; have d2 := Blk.has d0; have d3 := d0.lt;  go_simp; try with_reducible rfl)); (intro K hK; go_simp; refine hK _ _ ?_; clear hK K)) | ((apply w3_pass); (· exact HZ0.out); (· go_simp); (intro K hK; go_simp; refine hK _ _ ?_; clear hK K))))
            (refine w3_act (fun K hK => ?_); go_simp)
            refine (fine_any _).mono ?_
            rintro e4 w1 ⟨rfl, hx1⟩
            have HZ1 := Lib.hid (HZ0.out.trans hx1)
            refine hK.out _ _ (fun _ => HZ1.out) ?_
            clear hK K hx1
            (repeat (first | ((apply w3_pure); (· go_simp); (· (intro w1; go_simp; try with_reducible rfl)); (intro K hK; go_simp; refine hK _ _ ?_; clear hK K)) | ((apply w3_skip); (· go_simp); (intro K hK; go_simp; refine hK _ _ ?_; clear hK K)) | (refine w3_end (by kernel_rfl) (fun K hK => ?_); go_simp; refine hK.out _ _ ?_; clear hK K))); refine w3_nil ?_
            have HXC := Lib.hid (HY2.out.trans HZ1.out)
            have hDr := Blk.ext HD.out HXC.out
            have hmr := hDr.melts
            have hhr := Blk.has hDr
            have hlr := hDr.lt
            have hhK := Blk.has (Blk.ext HK.out HXC.out)
            have hgK := Blk.gets (Blk.ext HK.out HXC.out)
            have hlK := (Blk.ext HK.out HXC.out).lt
            have hFr := Blk.ext HFB.out HZ1.out
            have hgf := Blk.gets hFr
            have hhf := Blk.has hFr
            have hlf := hFr.lt
            go_wp2_with fail
            refine ret_cell (t := 38) (g := rb) (cs := fltC Z) Tryd.results57 rfl rfl aggFaultR (by rw [HR.out]; exact sizeFaultR) (by rw [HR.out]; exact Blk.put_ hDr 0 _) ⟨rfl, ?_⟩
            exact (HX0.out.trans HXC.out).putAt _ _ _ (fun hlt => absurd hlt (by have := HRW.out; omega))
      · have HIK := Lib.hid (fun w' (hw' : Ext w0 w') (hs' : StrSl w' w'.heap.size A n pl) => rstmt_any c p i hi N w0 HN0.out HP0.out deep HPN.out.2 kind name es low high l x eA ec lA lc xA xc la HSZ.out KE.out KL.out KX.out HAL.out.1 HAL.out.2.1 A n kc pl w' hw' hs' HAK.out HPN.out.1)
        obtain ⟨f, hf⟩ : ∃ f, f = chkS i κ deep la kind name es low high l x := ⟨_, rfl⟩
        have HXB := Lib.hid (show Z = ored f (chkB i κ deep true r) from hf ▸ hla ▸ HACC.out)
        clear HACC hla
        have HF := Lib.hid hf
        clear hf
        go_upto_region 4 with (fail)
        apply meet (F := fun W2 fb => Ext wr W2 ∧ Blk W2 fb 38 (fltC f))
        case h =>
          intro KEY0
          have KEY := Lib.hid KEY0
          clear KEY0
          refine wp_region_4 (fun w1 => Ext wr w1) (.op 0 1 (.op 1 2 (.op 2 2 (.op 3 2 (.op 4 1 (.op 5 2 (.op 6 2 (.op 7 2 (.op 8 2 (.op 9 2 (.op 10 2 (.op 11 2 (.op 12 2 (.op 13 2 (.op 14 2 (.fork 15 (.op 16 0 (.op 17 0 .nil)) 16 (.op 15 0 (.op 17 0 .nil)))))))))))))))))) (by kernel_rfl) (by kernel_rfl) (by kernel_rfl) (by kernel_rfl) ?_; intro p' hp'; simp only [Pl0.fill, List.getD_cons_zero, List.getD_cons_succ] at hp'; subst hp'
          have HY9 := Lib.hid (show Ext wr wr.drew from (Kept.refl _ wr).drew)
          (repeat (first | ((apply w4_pure); (· go_simp); (· (intro w1; go_simp; try with_reducible rfl)); (intro K hK; go_simp; refine hK _ _ ?_; clear hK K)) | ((apply w4_skip); (· go_simp); (intro K hK; go_simp; refine hK _ _ ?_; clear hK K)) | ((apply w4_take); (· exact HY9.out); (· go_simp); (· (intro w1 hS; have d0 := Blk.ext HK.out (HXC.out.trans hS); have d1 := Blk.gets d0; have d2 := Blk.has d0; have d3 := d0.lt; have d7 := has_ext hS HHW.out HH0.out; have d8 := gets_ext hS HHW.out HG0.out; have d9 := Nat.lt_of_lt_of_le HHW.out hS.size;  go_simp; try with_reducible rfl)); (intro K hK; go_simp; refine hK _ _ ?_; clear hK K)) | ((apply w4_pass); (· exact HY9.out); (· go_simp); (intro K hK; go_simp; refine hK _ _ ?_; clear hK K))))
          refine w4_fork ?_ ?_
          · (refine w4_act (fun K hK => ?_); go_simp)
            try rw [HLS.out]
            refine (HIK.out _ (HWQ.out.trans HY9.out) ((HPL.out.ext (HXC.out.trans HY9.out)).mono (Nat.le_trans HNW.out (HXC.out.trans HY9.out).size))).mono ?_
            rintro e4 w1 ⟨rfl, hx1⟩
            rw [← HKA.out, ← HF.out]
            have y1 := HY9.out.trans hx1
            refine hK.out _ _ (fun _ => y1) ?_
            clear hK K
            (repeat (first | ((apply w4_pure); (· go_simp); (· (intro w1; go_simp; try with_reducible rfl)); (intro K hK; go_simp; refine hK _ _ ?_; clear hK K)) | ((apply w4_skip); (· go_simp); (intro K hK; go_simp; refine hK _ _ ?_; clear hK K))))
            (refine w4_act (fun K hK => ?_); go_simp)
            have y2 := y1.alloc (.cells #[.int .i64 0, .string ⟨#[]⟩] 38)
            have hfb := Blk.new w1 38 #[.int .i64 0, .string ⟨#[]⟩]
            refine hK.out _ _ (fun _ => y2) ?_
            clear hK K
            generalize hW2 : w1.alloc (.cells #[.int .i64 0, .string ⟨#[]⟩] 38) = W2 at y2 hfb ⊢
            clear hW2
            have hfl : wr.heap.size ≤ w1.heap.size := y1.size
            generalize w1.heap.size = fb at hfb hfl ⊢
            have hmf := hfb.melts
            have hhf := Blk.has hfb
            have hfc := fltC_two f
            have hff := fltC_flat f
            (repeat (first | ((apply w4_pure); (· go_simp); (· (intro w1; go_simp; try with_reducible rfl)); (intro K hK; go_simp; refine hK _ _ ?_; clear hK K)) | ((apply w4_skip); (· go_simp); (intro K hK; go_simp; refine hK _ _ ?_; clear hK K))))
            (refine w4_act (fun K hK => ?_); go_simp)
            have y3 := y2.putAt fb 0 (fltC f) (fun hlt => absurd hlt (by omega))
            have hf3 := Blk.put_flt hfb f
            refine hK.out _ _ (fun _ => y3) ?_
            clear hK K hmf hhf hfc hff
            (repeat (first | ((apply w4_pure); (· go_simp); (· (intro w1; go_simp; try with_reducible rfl)); (intro K hK; go_simp; refine hK _ _ ?_; clear hK K)) | ((apply w4_skip); (· go_simp); (intro K hK; go_simp; refine hK _ _ ?_; clear hK K)) | (refine w4_end (by kernel_rfl) (fun K hK => ?_); go_simp; refine hK.out _ _ ?_; clear hK K))); refine w4_nil ?_
            generalize putAt W2 fb 0 (fltC f) = W3 at y3 hf3 ⊢
            exact KEY.out _ _ ⟨y3, hf3⟩
          · (refine w4_act (fun K hK => ?_); go_simp)
            have y1 : Ext wr (wr.alloc (.cells #[.int .i64 0, .string ⟨#[]⟩] 38)).drew := ((Kept.refl _ wr).alloc _).drew
            refine hK.out _ _ (fun _ => y1) ?_
            clear hK K
            generalize hW1 : (wr.alloc (.cells #[.int .i64 0, .string ⟨#[]⟩] 38)).drew = W1 at y1 ⊢
            have hfb1 : Blk W1 wr.heap.size 38 #[.int .i64 0, .string ⟨#[]⟩] := by rw [← hW1]; exact Blk.drew (Blk.new wr _ _)
            clear hW1
            have hfl : wr.heap.size ≤ wr.heap.size := Nat.le_refl _
            generalize hfbe : (wr.heap.size : Nat) = fb at hfb1 hfl ⊢
            have HFL := Lib.hid (show wr.heap.size ≤ fb by omega)
            clear hfl hfbe
            have HY1 := Lib.hid y1
            (repeat (first | ((apply w4_pure); (· go_simp); (· (intro w1; go_simp; try with_reducible rfl)); (intro K hK; go_simp; refine hK _ _ ?_; clear hK K)) | ((apply w4_skip); (· go_simp); (intro K hK; go_simp; refine hK _ _ ?_; clear hK K))))
            (repeat (first | ((apply w4_pure); (· go_simp); (· (intro w1; go_simp; try with_reducible rfl)); (intro K hK; go_simp; refine hK _ _ ?_; clear hK K)) | ((apply w4_skip); (· go_simp); (intro K hK; go_simp; refine hK _ _ ?_; clear hK K)) | ((apply w4_take); (· exact HY1.out); (· go_simp); (· (intro w1 hS; have d0 := Blk.ext HK.out (HXC.out.trans hS); have d1 := Blk.gets d0; have d2 := Blk.has d0; have d3 := d0.lt; have d7 := has_ext hS HHW.out HH0.out; have d8 := gets_ext hS HHW.out HG0.out; have d9 := Nat.lt_of_lt_of_le HHW.out hS.size;  go_simp; try with_reducible rfl)); (intro K hK; go_simp; refine hK _ _ ?_; clear hK K)) | ((apply w4_pass); (· exact HY1.out); (· go_simp); (intro K hK; go_simp; refine hK _ _ ?_; clear hK K))))
            (refine w4_act (fun K hK => ?_); go_simp)
            try rw [HLS.out]
            refine (HIK.out _ (HWQ.out.trans HY1.out) ((HPL.out.ext (HXC.out.trans HY1.out)).mono (Nat.le_trans HNW.out (HXC.out.trans HY1.out).size))).mono ?_
            rintro e4 w1 ⟨rfl, hx1⟩
            rw [← HKA.out, ← HF.out]
            have y2 := HY1.out.trans hx1
            refine hK.out _ _ (fun _ => y2) ?_
            clear hK K y1
            have hfb2 := Blk.ext hfb1 hx1
            have hmf := hfb2.melts
            have hhf := Blk.has hfb2
            have hfc := fltC_two f
            have hff := fltC_flat f
            (repeat (first | ((apply w4_pure); (· go_simp); (· (intro w1; go_simp; try with_reducible rfl)); (intro K hK; go_simp; refine hK _ _ ?_; clear hK K)) | ((apply w4_skip); (· go_simp); (intro K hK; go_simp; refine hK _ _ ?_; clear hK K))))
            (refine w4_act (fun K hK => ?_); go_simp)
            have y3 := y2.putAt fb 0 (fltC f) (fun hlt => absurd hlt (by have := HFL.out; omega))
            have hf3 := Blk.put_flt hfb2 f
            refine hK.out _ _ (fun _ => y3) ?_
            clear hK K hmf hhf hfc hff
            (repeat (first | ((apply w4_pure); (· go_simp); (· (intro w1; go_simp; try with_reducible rfl)); (intro K hK; go_simp; refine hK _ _ ?_; clear hK K)) | ((apply w4_skip); (· go_simp); (intro K hK; go_simp; refine hK _ _ ?_; clear hK K)) | (refine w4_end (by kernel_rfl) (fun K hK => ?_); go_simp; refine hK.out _ _ ?_; clear hK K))); refine w4_nil ?_
            generalize putAt w1 fb 0 (fltC f) = W3 at y3 hf3 ⊢
            exact KEY.out _ _ ⟨y3, hf3⟩
        case h2 =>
          rintro W2 fb ⟨y2, hfb⟩
          have HFB := Lib.hid hfb
          have HY2 := Lib.hid (HXC.out.trans y2)
          clear hfb y2 HXC
          cases f with
          | none =>
            go_upto_region 5 with (fail)
            refine wp_region_3 (fun w1 => Ext W2 w1) [(0, 1), (1, 0), (2, 2)] (by kernel_rfl) (by kernel_rfl) (by kernel_rfl) (by kernel_rfl) ?_; intro l' hl'; simp only [List.map_cons, List.map_nil, List.getD_cons_zero, List.getD_cons_succ] at hl'; subst hl'
            have HZ0 := Lib.hid (show Ext W2 W2.drew from (Kept.refl _ W2).drew)
            (repeat (first | ((apply w3_pure); (· go_simp); (· (intro w1; go_simp; try with_reducible rfl)); (intro K hK; go_simp; refine hK _ _ ?_; clear hK K)) | ((apply w3_skip); (· go_simp); (intro K hK; go_simp; refine hK _ _ ?_; clear hK K)) | ((apply w3_take); (· exact HZ0.out); (· go_simp); (· (intro w1 hS; have d0 := Blk.ext HFB.out hS; have d1 := Blk.gets d0; have d2 := Blk.has d0; have d3 := d0.lt;  go_simp; try with_reducible rfl)); (intro K hK; go_simp; refine hK _ _ ?_; clear hK K)) | ((apply w3_pass); (· exact HZ0.out); (· go_simp); (intro K hK; go_simp; refine hK _ _ ?_; clear hK K))))
            (refine w3_act (fun K hK => ?_); go_simp)
            refine (fine_any _).mono ?_
            rintro e4 w1 ⟨rfl, hx1⟩
            have HZ1 := Lib.hid (HZ0.out.trans hx1)
            refine hK.out _ _ (fun _ => HZ1.out) ?_
            clear hK K hx1
            (repeat (first | ((apply w3_pure); (· go_simp); (· (intro w1; go_simp; try with_reducible rfl)); (intro K hK; go_simp; refine hK _ _ ?_; clear hK K)) | ((apply w3_skip); (· go_simp); (intro K hK; go_simp; refine hK _ _ ?_; clear hK K)) | (refine w3_end (by kernel_rfl) (fun K hK => ?_); go_simp; refine hK.out _ _ ?_; clear hK K))); refine w3_nil ?_
            go_wp2_with fail
            go_roundw
            case rel => exact ⟨m + 1, r, by omega, by rw [HXB.out, ored_none], by go_num, by rw [Nat.add_mul, ← Nat.add_assoc]; exact HR2.out, HAL.out.2.2, HY2.out.trans HZ1.out⟩
            case measure => simp only [intOf]; omega
          | some f =>
            obtain ⟨fe, fn⟩ := f
            have hnz := NZ.out (nz_chkS _ _ _ _ _ _ _ _ _ _ _) HF.out.symm
            have HR := Lib.hid (show Z = some ⟨fe, fn⟩ by rw [HXB.out, ored_some])
            go_upto_region 5 with (fail)
            refine wp_region_3 (fun w1 => Ext W2 w1) [(0, 1), (1, 0), (2, 2)] (by kernel_rfl) (by kernel_rfl) (by kernel_rfl) (by kernel_rfl) ?_; intro l' hl'; simp only [List.map_cons, List.map_nil, List.getD_cons_zero, List.getD_cons_succ] at hl'; subst hl'
            have HZ0 := Lib.hid (show Ext W2 W2.drew from (Kept.refl _ W2).drew)
            (repeat (first | ((apply w3_pure); (· go_simp); (· (intro w1; go_simp; try with_reducible rfl)); (intro K hK; go_simp; refine hK _ _ ?_; clear hK K)) | ((apply w3_skip); (· go_simp); (intro K hK; go_simp; refine hK _ _ ?_; clear hK K)) | ((apply w3_take); (· exact HZ0.out); (· go_simp); (· (intro w1 hS; have d0 := Blk.ext HFB.out hS; have d1 := Blk.gets d0; have d2 := Blk.has d0; have d3 := d0.lt;  go_simp; try with_reducible rfl)); (intro K hK; go_simp; refine hK _ _ ?_; clear hK K)) | ((apply w3_pass); (· exact HZ0.out); (· go_simp); (intro K hK; go_simp; refine hK _ _ ?_; clear hK K))))
            (refine w3_act (fun K hK => ?_); go_simp)
            refine (fine_any _).mono ?_
            rintro e4 w1 ⟨rfl, hx1⟩
            have HZ1 := Lib.hid (HZ0.out.trans hx1)
            refine hK.out _ _ (fun _ => HZ1.out) ?_
            clear hK K hx1
            (repeat (first | ((apply w3_pure); (· go_simp); (· (intro w1; go_simp; try with_reducible rfl)); (intro K hK; go_simp; refine hK _ _ ?_; clear hK K)) | ((apply w3_skip); (· go_simp); (intro K hK; go_simp; refine hK _ _ ?_; clear hK K)) | (refine w3_end (by kernel_rfl) (fun K hK => ?_); go_simp; refine hK.out _ _ ?_; clear hK K))); refine w3_nil ?_
            have HXC := Lib.hid (HY2.out.trans HZ1.out)
            have hDr := Blk.ext HD.out HXC.out
            have hmr := hDr.melts
            have hhr := Blk.has hDr
            have hlr := hDr.lt
            have hhK := Blk.has (Blk.ext HK.out HXC.out)
            have hgK := Blk.gets (Blk.ext HK.out HXC.out)
            have hlK := (Blk.ext HK.out HXC.out).lt
            have hFr := Blk.ext HFB.out HZ1.out
            have hgf := Blk.gets hFr
            have hhf := Blk.has hFr
            have hlf := hFr.lt
            go_wp2_with fail
            refine ret_cell (t := 38) (g := rb) (cs := fltC Z) Tryd.results57 rfl rfl aggFaultR (by rw [HR.out]; exact sizeFaultR) (by rw [HR.out]; exact Blk.put_ hDr 0 _) ⟨rfl, ?_⟩
            exact (HX0.out.trans HXC.out).putAt _ _ _ (fun hlt => absurd hlt (by have := HRW.out; omega))
end Go.Proofs.YtfamkemdgbnegaaDoor
