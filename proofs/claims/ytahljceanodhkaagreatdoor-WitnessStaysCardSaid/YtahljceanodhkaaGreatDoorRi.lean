/- Package baizeref22: InstrLeaf. -/
import Derived.Test.YtahljceanodhkaaGreatDoorRh
namespace Go.Proofs.YtahljceanodhkaaGreatDoor
open Go.RowKit
theorem w3_app {P : Program} {ops : Array Oper} {Q : Exit → Act → World → Prop} {S : World → Prop} {od : List (Nat × Nat)} {k : Nat} {l : List Oper} {r : List (Nat × Nat)} {a : Act} {w : World} {o : Oper} (hgd : o.guard = none) (x y : Operand) (T : TypeId)
    (ho : o.op = .call { callee := .builtin .append, args := #[x, y], argTypes := #[T, T] }) {ty : TypeId} (hty : o.type = ty) {v s v' : Value} {w' : World} (hx : a.eval x = v) (hy : a.eval y = s)
    (hrun : (Builtin.append_ #[T, T] ty #[v, s]).run P w = .ok v' w') (hS : S w → S w') (h : wpOp3 P ops Q S od r l (a.put o.dst v') w') : wpOp3 P ops Q S od ((k, 0) :: r) (o :: l) a w := by
  have hw : Region.wanted o (yielded ops a.tmps) = true := by simp [Region.wanted, hgd]
  unfold wpOp3
  rw [if_pos hw]
  refine .inl ?_
  subst hty
  unfold Oper.wp execOp
  simp only [ho, resolve, invoke, builtin, Sem.run_bind, Sem.run_pure, Result.andThen_ok, List.map_toArray, List.map_cons, List.map_nil, hx, hy, hrun]
  exact ⟨.inr hS, h⟩
theorem own_ext {w w' : World} {base : Nat} {E : TypeId} {sz : Nat} {v : Value} {n : Nat} {xs : List Value} (h : w.ownsRow base E sz v n xs) (hk : Ext w w') : w'.ownsRow base E sz v n xs :=
  h.kept (row := none) ⟨hk.os, hk.tape, hk.output, hk.size, fun k hl _ => hk.block k hl (fun f => f)⟩ (by cases hv : v.ownBlock <;> simp)
theorem own_row {w : World} {base g c n : Nat} {xs : List Int} (h : w.ownsRow base 5 1 (.slice (some ⟨g, 0, none⟩) n c) n (byts xs)) (hn : 0 < n) : base ≤ g ∧ Row w g 0 (byts xs) ∧ n ≤ c := by
  obtain ⟨g', c', e, hb, hr, hc, _⟩ := own_some h hn
  obtain ⟨rfl, rfl⟩ : g = g' ∧ c = c' := by simpa using e
  exact ⟨hb, hr, hc⟩
structure Ins where (op a b c : Int)
abbrev Ins.cells (i : Ins) : Array Value := #[.int .i64 i.op, .int .i64 i.a, .int .i64 i.b, .int .i64 i.c]
attribute [go_sem] Ins.cells
def i64ok (n : Int) : Prop := -9223372036854775808 ≤ n ∧ n ≤ 9223372036854775807
structure Ins.ok (i : Ins) : Prop where
  op : i64ok i.op
  a : i64ok i.a
  b : i64ok i.b
  c : i64ok i.c
def instrB (i : Ins) : List Int := vint (foldN i.op) ++ vint (foldN i.a) ++ vint (foldN i.b) ++ vint (foldN i.c)
def ileaf (i : Ins) : Dg := hOf (instrB i)
theorem vfold_len {n : Int} (h : i64ok n) : (vint (foldN n)).length ≤ 10 := vint_len 10 _ (by have := foldN_lt h.1 h.2; omega) (by omega)
theorem bytesOk_app {l q : List Int} (h : BytesOk l) (h' : BytesOk q) : BytesOk (l ++ q) := fun x hx => (List.mem_append.1 hx).elim (h x) (h' x)
theorem instrB_ok (i : Ins) : BytesOk (instrB i) := bytesOk_app (bytesOk_app (bytesOk_app (vint_ok _) (vint_ok _)) (vint_ok _)) (vint_ok _)
theorem instrB_len {i : Ins} (h : i.ok) : 0 < (instrB i).length ∧ (instrB i).length ≤ 40 := by
  have h1 := vfold_len h.op
  have h2 := vfold_len h.a
  have h3 := vfold_len h.b
  have h4 := vfold_len h.c
  have h5 := vint_pos (foldN i.op)
  unfold instrB
  simp only [List.length_append]
  omega
set_option maxRecDepth 100000 in
set_option maxHeartbeats 2000000 in
theorem rileaf_any (i : Ins) (hi : i.ok) (w : World) : Calls Tryz.prog 126 #[.agg i.cells] w fun e w' => e = .returned (.agg (ileaf i).cells) ∧ Ext w w' := by
  have HI := Lib.hid hi
  have HL := Lib.hid (instrB_len hi)
  have l1 := vfold_len hi.op
  have l2 := vfold_len hi.a
  have l3 := vfold_len hi.b
  have l4 := vfold_len hi.c
  have p1 := vint_pos (foldN i.op)
  clear hi
  obtain ⟨b1, hb1⟩ : ∃ l, l = vint (foldN i.op) := ⟨_, rfl⟩
  obtain ⟨b2, hb2⟩ : ∃ l, l = vint (foldN i.a) := ⟨_, rfl⟩
  obtain ⟨b3, hb3⟩ : ∃ l, l = vint (foldN i.b) := ⟨_, rfl⟩
  obtain ⟨b4, hb4⟩ : ∃ l, l = vint (foldN i.c) := ⟨_, rfl⟩
  have p2 := vint_pos (foldN i.a)
  have p3 := vint_pos (foldN i.b)
  have p4 := vint_pos (foldN i.c)
  rw [← hb1] at l1 p1
  rw [← hb2] at l2 p2
  rw [← hb3] at l3 p3
  rw [← hb4] at l4 p4
  have HB : Hid (instrB i = b1 ++ b2 ++ b3 ++ b4) := by show _ = _; rw [hb1, hb2, hb3, hb4]; rfl
  have H1 := Lib.hid hb1
  have H2 := Lib.hid hb2
  have H3 := Lib.hid hb3
  have H4 := Lib.hid hb4
  clear hb1 hb2 hb3 hb4
  have hx0 : Ext w _ := ((Kept.refl _ w).alloc (.cells i.cells 89)).alloc (.cells Dg.zero.cells 23)
  have hA0 : Blk _ w.heap.size 89 i.cells := Blk.alloc (Blk.new w _ _) (.cells Dg.zero.cells 23)
  have hR0 : Blk _ (w.heap.size + 1) 23 Dg.zero.cells := Blk.new' (w.alloc (.cells i.cells 89)) _ _ _ (by simp)
  go_enter Tryz.func126, Tryz.ntmps126
  go_wp2_with fail
  generalize ((w.alloc (.cells #[.int .i64 i.op, .int .i64 i.a, .int .i64 i.b, .int .i64 i.c] 89)).alloc (.cells #[.int .u8 0, .int .u8 0, .int .u8 0, .int .u8 0, .int .u8 0, .int .u8 0, .int .u8 0, .int .u8 0] 23)) = W at hx0 hA0 hR0 ⊢
  have hW := hR0.lt
  refine wp_region_3 (fun w1 => Ext W w1) [(0, 2), (1, 1), (3, 2), (4, 1), (7, 2), (8, 1), (11, 2), (12, 1), (2, 0), (5, 0), (6, 0), (9, 0), (10, 0), (13, 0), (14, 0), (15, 2)] (by kernel_rfl) (by kernel_rfl) (by kernel_rfl) (by kernel_rfl) ?_; intro l' hl'; simp only [List.map_cons, List.map_nil, List.getD_cons_zero, List.getD_cons_succ] at hl'; subst hl'
  (repeat (first | ((apply w3_pure); (· go_simp); (· (intro w1; go_simp; try with_reducible rfl)); (intro K hK; go_simp; refine hK _ _ ?_; clear hK K)) | ((apply w3_skip); (· go_simp); (intro K hK; go_simp; refine hK _ _ ?_; clear hK K)) | ((apply w3_take); (· exact (Kept.drew (Kept.refl _ _))); (· go_simp); (· (intro w1 hS; have d1 := Blk.ext hA0 hS; have hc := Blk.cell d1;  go_simp; try with_reducible rfl)); (intro K hK; go_simp; refine hK _ _ ?_; clear hK K)) | ((apply w3_pass); (· exact (Kept.drew (Kept.refl _ _))); (· go_simp); (intro K hK; go_simp; refine hK _ _ ?_; clear hK K))))
  (refine w3_act (fun K hK => ?_); go_simp)
  go_wp2_with fail
  refine (signed_any i.op HI.out.op.1 HI.out.op.2 _).mono ?_
  rintro e w1 ⟨g1, c1, rfl, o1, hx1⟩
  rw [← H1.out] at o1 ⊢
  have y1 : Ext W w1 := ((Kept.refl _ W).drew).trans hx1
  refine hK.out _ _ (fun _ => y1) ?_
  clear hK K
  (refine w3_act (fun K hK => ?_); go_simp)
  go_wp2_with fail
  refine (signed_any i.a HI.out.a.1 HI.out.a.2 _).mono ?_
  rintro e w2 ⟨g2, c2, rfl, o2, hx2⟩
  rw [← H2.out] at o2 ⊢
  have y2 := y1.trans hx2
  refine hK.out _ _ (fun _ => y2) ?_
  clear hK K
  have r2 := (own_row o2 p2).2.1
  obtain ⟨v2a, w2a, hr2, o2a, hk2⟩ := appB w2 _ _ _ b1 (own_ext o1 hx2) g2 0 b2.length c2 b2 rfl r2 (by omega) (by have := y2.size; simpa using this)
  have gb2 := (own_row o1 p1).1
  have y2a : Ext W w2a := y2.trans' hk2 (fun i hi e => by simp [Value.ownBlock] at e; simp at gb2; omega)
  obtain ⟨q2, hq2⟩ : ∃ q, q = b1 ++ b2 := ⟨_, rfl⟩
  have lq2 : q2.length = b1.length + b2.length := by rw [hq2, List.length_append]
  rw [← lq2, ← hq2] at o2a
  have HQ2 := Lib.hid hq2
  have pq2 : 0 < q2.length := by omega
  have mq2 : q2.length ≤ 20 := by omega
  clear hq2 lq2
  obtain ⟨g2a, c2a, e2, _⟩ := own_some o2a (by omega)
  subst e2
  refine w3_app rfl (.tmp 6) (.tmp 9) 95 rfl rfl rfl rfl hr2 (fun _ => y2a) ?_
  clear hr2 hk2 r2 gb2
  (refine w3_act (fun K hK => ?_); go_simp)
  go_wp2_with fail
  refine (signed_any i.b HI.out.b.1 HI.out.b.2 _).mono ?_
  rintro e w3 ⟨g3, c3, rfl, o3, hx3⟩
  rw [← H3.out] at o3 ⊢
  have y3 := y2a.trans hx3
  refine hK.out _ _ (fun _ => y3) ?_
  clear hK K
  have r3 := (own_row o3 p3).2.1
  obtain ⟨v3a, w3a, hr3, o3a, hk3⟩ := appB w3 _ _ _ q2 (own_ext o2a hx3) g3 0 b3.length c3 b3 rfl r3 (by omega) (by have := y3.size; simpa using this)
  have gb3 := (own_row o2a (by omega)).1
  have y3a : Ext W w3a := y3.trans' hk3 (fun i hi e => by simp [Value.ownBlock] at e; simp at gb3; omega)
  obtain ⟨q3, hq3⟩ : ∃ q, q = q2 ++ b3 := ⟨_, rfl⟩
  have lq3 : q3.length = q2.length + b3.length := by rw [hq3, List.length_append]
  rw [← lq3, ← hq3] at o3a
  have HQ3 := Lib.hid hq3
  have pq3 : 0 < q3.length := by omega
  have mq3 : q3.length ≤ 30 := by omega
  clear hq3 lq3
  obtain ⟨g3a, c3a, e3, _⟩ := own_some o3a (by omega)
  subst e3
  refine w3_app rfl (.tmp 10) (.tmp 13) 95 rfl rfl rfl rfl hr3 (fun _ => y3a) ?_
  clear hr3 hk3 r3 gb3
  (refine w3_act (fun K hK => ?_); go_simp)
  go_wp2_with fail
  refine (signed_any i.c HI.out.c.1 HI.out.c.2 _).mono ?_
  rintro e w4 ⟨g4, c4, rfl, o4, hx4⟩
  rw [← H4.out] at o4 ⊢
  have y4 := y3a.trans hx4
  refine hK.out _ _ (fun _ => y4) ?_
  clear hK K
  have r4 := (own_row o4 p4).2.1
  obtain ⟨v4a, w4a, hr4, o4a, hk4⟩ := appB w4 _ _ _ q3 (own_ext o3a hx4) g4 0 b4.length c4 b4 rfl r4 (by omega) (by have := y4.size; simpa using this)
  have gb4 := (own_row o3a (by omega)).1
  have y4a : Ext W w4a := y4.trans' hk4 (fun i hi e => by simp [Value.ownBlock] at e; simp at gb4; omega)
  obtain ⟨q4, hq4⟩ : ∃ q, q = q3 ++ b4 := ⟨_, rfl⟩
  have lq4 : q4.length = q3.length + b4.length := by rw [hq4, List.length_append]
  rw [← lq4, ← hq4] at o4a
  have HQ4 := Lib.hid hq4
  have pq4 : 0 < q4.length := by omega
  have mq4 : q4.length ≤ 40 := by omega
  clear hq4 lq4
  obtain ⟨g4a, c4a, e4, _⟩ := own_some o4a (by omega)
  subst e4
  refine w3_app rfl (.tmp 14) (.tmp 17) 95 rfl rfl rfl rfl hr4 (fun _ => y4a) ?_
  clear hr4 hk4 r4 gb4
  (repeat (first | ((apply w3_pure); (· go_simp); (· (intro w1; go_simp; try with_reducible rfl)); (intro K hK; go_simp; refine hK _ _ ?_; clear hK K)) | ((apply w3_skip); (· go_simp); (intro K hK; go_simp; refine hK _ _ ?_; clear hK K)) | (refine w3_end (by kernel_rfl) (fun K hK => ?_); go_simp; refine hK.out _ _ ?_; clear hK K))); refine w3_nil ?_
  rw [HQ4.out, HQ3.out, HQ2.out, ← HB.out] at o4a ⊢
  have r5 := own_row o4a HL.out.1
  go_wp2_with fail
  refine (rof_any g4a 0 c4a (instrB i) _ _ rfl HL.out.1 (by have := HL.out.2; omega) r5.2.2 (instrB_ok i) r5.2.1).mono ?_
  rintro e w5 ⟨rfl, hx5⟩
  have y5 := y4a.trans hx5
  have hR5 := Blk.ext hR0 y5
  have hh5 := Blk.has hR5
  have hm5 := Blk.melts hR5
  go_wp2_with fail
  refine ret_cell Tryz.results126 rfl rfl aggArr8 (by exact sizeArr8) (Blk.put_ hR5 _ _) ⟨rfl, ?_⟩
  exact Kept.putAt (hx0.trans y5) _ _ _ (fun h => by omega)
end Go.Proofs.YtahljceanodhkaaGreatDoor
