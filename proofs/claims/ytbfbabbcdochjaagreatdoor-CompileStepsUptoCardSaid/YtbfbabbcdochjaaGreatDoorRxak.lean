/- Several texts joined: Qzb, Qzc, Qzd, Qze. -/
import Derived.Test.YtbfbabbcdochjaaGreatDoorRxpk
import Derived.Test.YtbfbabbcdochjaaGreatDoorRxaj
set_option maxHeartbeats 4000000
namespace Go.Proofs.YtbfbabbcdochjaaGreatDoor
open Go.RowKit So
def BlkR (cb g:Nat) (κ:Kn) (part:Str) (fors:Nat):Option Flt→Ending→World→Prop
 | none,e,w=>e=.returned (.tuple #[])∧Ck w cb g κ part fors
 | some f,e,w=>e=.panicked (thr f)∧∃ (m:ByteArray→Option Value) (k:Int),SMap w g m∧Blk w cb 145 #[.map (some g),.string part,.int .i64 k]
abbrev SG (cb g:Nat):Nat→Prop:=fun i=>i=g ∨ i=cb
abbrev BlC (cb g i:Nat) (w0:World) (N:Nat) (F:SF):Prop:=∀ (κ:Kn) (fors:Nat) (top:Bool) (A:Option Addr) (n c:Nat) (B:Option Addr) (bn bc:Nat) (ns:List Str) (w':World),Kept (SG cb g) w0 w'→Ck w' cb g κ (partName i) fors→fors≤8→SSl w0 N A n F →
 StrSl w' w'.heap.size B bn ns→(∀ x,B=some x→¬ x.block=cb)→(∀ s ∈ ns,κ s=0) →
 Calls Tryz.prog 162 #[.pointer (some ⟨cb,0,none⟩),.slice A n c,.bool top,.slice B bn bc] w' fun e w2=>BlkR cb g κ (partName i) fors (chkB i (updAll κ ns) fors top F) e w2∧Kept (SG cb g) w' w2
theorem updAll_one (κ:Kn) (s:Str):updAll κ [s]=upd κ s 3:=by
 funext t
 unfold updAll upd
 by_cases h:t=s
 ·subst h;simp
 ·have:¬ s=t:=fun e=>h e.symm
  simp [h,this]
theorem Ck.lt {w:World} {cb g:Nat} {κ:Kn} {part:Str} {fors:Nat} (h:Ck w cb g κ part fors):cb < w.heap.size:=h.blk.lt
theorem Ck.ne {w:World} {cb g:Nat} {κ:Kn} {part:Str} {fors:Nat} (h:Ck w cb g κ part fors):¬ cb=g:=h.map.ne_cell (p:=⟨cb,0,none⟩) (bC h.blk 0)
theorem chkD_cons (κ:Kn) (op n:Int) (s:Str) (k r:EF):chkD κ (.cons op n s k r)=ored (ored (must (decide (w64 (1+k.deep)≤12)) 25 E0) (chk1 κ op n s k)) (chkD κ r):=rfl
theorem Ck.setFors {w:World} {cb g:Nat} {κ:Kn} {part:Str} {fors:Nat} (h:Ck w cb g κ part fors) (m:Nat):Ck (w.setCell ⟨cb,2,none⟩ (.int .i64 m)) cb g κ part m :=
 ⟨Blk.set_ h.blk 2 (.int .i64 m),h.map.kept (S:=(·=cb)) (Kept.setCell (kR _ w) ⟨cb,2,none⟩ _ (fun _=>rfl)) (fun e=>h.ne e.symm)⟩
theorem loop_lt {κ:Kn} {s:Str} {low high:Int} {fors:Nat} (h:loop κ s low high fors=none):isName s=true∧κ s=0∧fors < 8:=by
 unfold loop must at h
 cases h1:isName s <;> cases h2:(κ s == 0) <;> cases h3:(word low && word high && decide (high - low≤63)) <;> simp [h1,h2,h3,ored] at h ⊢
 ·simp at h2
  exact ⟨h2,h⟩
set_option maxRecDepth 100000 in
theorem stmt_any (cb g i:Nat) (hi:i < 5) (w0:World) (N:Nat) (hN4:4 < N) (hNg:N≤g) (hNc:N≤cb) (hN0:N≤w0.heap.size) (κ:Kn) (fors:Nat) (hf8:fors≤8) (kind:Int) (name:Str) (es:EF) (low high:Int) (l x:SF) (eA:Option Addr) (en ec:Nat) (lA:Option Addr) (ln lc:Nat) (xA:Option Addr) (xn xc:Nat) (last:Bool)
 (hsz:name.size≤maxLen) (he:ESl w0 N eA en es) (hl:SSl w0 N lA ln l) (hxx:SSl w0 N xA xn x) (hBl:BlC cb g i w0 N l) (hBx:BlC cb g i w0 N x) (w:World) (hw:Kept (SG cb g) w0 w) (hC:Ck w cb g κ (partName i) fors) (hL:LaidAt w) :
 Calls Tryz.prog 176 #[.pointer (some ⟨cb,0,none⟩),.agg (scells kind name eA en ec low high lA ln lc xA xn xc),.bool last] w fun e w2=>BlkR cb g κ (partName i) fors (chkS i κ fors last kind name es low high l x) e w2∧Kept (SG cb g) w w2:=by
 have HS4:=J (show ∀ j,SG cb g j→N≤j from fun j h=>by rcases h with h | h <;> omega)
 obtain ⟨X,hX⟩:∃ X,X=chkS i κ fors last kind name es low high l x:=⟨_,rfl⟩
 rw [← hX]
 have hel:=he.1
 have HX2:Hid (X=ored (must (btw kind 0 9 && en == stmtParts kind) 3 E0) (ored (must (stands kind i last) 10 (partName i)) (ored (named κ kind name low high fors) (ored (chkD κ es) (if kind=2 then ored (chkB i κ fors false l) (chkB i κ fors false x) else if kind=3 then chkB i (upd κ name 3) (fors+1) false l else none))))):=J (by rw [hX,hel];rfl)
 clear hX
 have hx1:=(kR (fun _=>False) w).alloc (.cells (scells kind name eA en ec low high lA ln lc xA xn xc) 151)
 have hE1:=bN w 151 (scells kind name eA en ec low high lA ln lc xA xn xc)
 have HNW:=J (Nat.le_trans (Nat.le_trans hN0 hw.size) hx1.size)
 obtain ⟨hn,hf,b,off,hA,hE⟩:=(he.kept hw hN0 HS4.out).ext hx1 (Nat.le_trans hN0 hw.size)
 refine zy25 ?_;intro hm HN HA HE
 have HSL:=J hl
 have HSX:=J hxx
 have HBL:=J hBl
 have HBX:=J hBx
 have HSZ:=J hsz
 have HF8:=J hf8
 have HN4:=J (And.intro hN4 (And.intro hNg hNc))
 clear hn hA hE hf he hl hxx hBl hBx hel hsz hf8 hN4 hNg hNc
 go_enter Tryz.func176,Tryz.ntmps176
 go_upto_region 1 with (fail)
 generalize hW:(w.alloc (.cells (scells kind name eA en ec low high lA ln lc xA xn xc) 151))=W at hx1 hE1 HE HNW ⊢
 have HNE:=J (show ¬ SG cb g w.heap.size from by
  rintro (h | h)
  ·have:=hC.map.lt;omega
  ·have:=hC.lt;omega)
 generalize w.heap.size=eb at hE1 HNE ⊢
 clear hW
 have hE0:=J hE1
 have HX0:=J hx1
 have HCW:=J (hC.ext hx1)
 have HLW:=J (hL.ext hx1)
 refine zy72 ?_;intro HY0
 have HWW:=J hw
 clear hE1 hx1 hC hL hw
 cases hb1:btw kind 0 9
 ·have HR:=J (show X=some ⟨3,E0⟩ by rw [HX2.out,hb1];rfl)
  refine zy57 ?_
  refine zy17 ?_
  refine zy81 ?_;intro K hK
  rintro e w1 ⟨rfl,rfl⟩
  rw [hb1]
  refine hK.out _ _ (fun _=>HY0.out) ?_
  clear hK K
  refine zy17 ?_
  exact zz46
 ·obtain ⟨k,rfl⟩:∃ k:Nat,kind=k:=⟨kind.toNat,by simp [btw] at hb1;omega⟩
  have hk10:k < 10:=by simp [btw] at hb1;omega
  have hkI:(k:Int) < 10:=by omega
  have HT:=J (HLW.out.sm k hk10)
  have HBN:=J hb1
  refine zy57 ?_
  (repeat first|refine qs3 ?_|refine qt3 HY0.out zb6 ?_|refine qp3 HY0.out ?_)
  refine zy81 ?_;intro K hK
  rintro e w1 ⟨rfl,rfl⟩
  rw [hb1]
  refine hK.out _ _ (fun _=>HY0.out) ?_
  clear hK K
  cases hb2:((en:Int) == (stmtParts k:Int))
  ·have HR:=J (show X=some ⟨3,E0⟩ by rw [HX2.out,HBN.out,← nat_beq,hb2];rfl)
   (repeat first|refine qs3 ?_|refine qt3 HY0.out zb6 ?_|refine qp3 HY0.out ?_)
   exact zz46
  ·have HX3:=J (show X=ored (must (stands k i last) 10 (partName i)) (ored (named κ k name low high fors) (ored (chkD κ es) (if (k:Int)=2 then ored (chkB i κ fors false l) (chkB i κ fors false x) else if (k:Int)=3 then chkB i (upd κ name 3) (fors+1) false l else none))) by rw [HX2.out,HBN.out,← nat_beq,hb2];rfl)
   (repeat first|refine qs3 ?_|refine qt3 HY0.out zb6 ?_|refine qp3 HY0.out ?_)
   (refine w3_last zb83 zb83 (fun K hK=>?_);go_simp)
   refine (must_any true _ _ _).mono ?_
   rintro e w1 ⟨he,rfl⟩
   have he:=MustR.none he
   subst he
   refine hK.out _ _ ?_
   clear hK K
   refine qf3 ?_
   go_upto_region 2 with (fail)
   clear hb1 hb2
   generalize hW1:W.drew=W1 at HY0 ⊢
   clear hW1
   have HY1:=HY0
   refine qr3 (fun w1=>Ext W1 w1) [(0,2),(1,2),(2,1),(3,2),(5,2),(6,2),(7,2),(8,1),(4,0),(9,0)] ?_;refine qrl ?_
   have HZ0:=J (show Ext W1 W1.drew from (kR _ W1).drew)
   (repeat first|refine qs3 ?_|refine qt3 HZ0.out zb4 ?_|refine qp3 HZ0.out ?_)
   (refine w3_act (fun K hK=>?_);go_simp)
   refine (stands_any cb g κ i fors hi k last _ (HCW.out.ext (HY1.out.trans HZ0.out))).mono ?_
   rintro e w1 ⟨rfl,rfl⟩
   refine hK.out _ _ (fun _=>HZ0.out) ?_
   clear hK K
   (repeat first|refine qs3 ?_|refine qt3 HZ0.out zb4 ?_|refine qp3 HZ0.out ?_)
   cases hst:stands k i last
   ·have HR:=J (show X=some ⟨10,partName i⟩ by rw [HX3.out,hst];rfl)
    (refine w3_last zb83 zb83 (fun K hK=>?_);go_simp)
    refine (must_any false _ _ _).mono ?_
    rintro e w1 ⟨he,rfl⟩
    have he:e=.panicked (thr ⟨10,partName i⟩):=he
    subst he
    have HCE:=J (HCW.out.ext (HY1.out.trans HZ0.out))
    have HXE:=J (Kept.ext (S:=SG cb g) (HX0.out.trans (HY1.out.trans HZ0.out)))
    exact zz113
   ·have HX4:=J (show X=ored (named κ k name low high fors) (ored (chkD κ es) (if (k:Int)=2 then ored (chkB i κ fors false l) (chkB i κ fors false x) else if (k:Int)=3 then chkB i (upd κ name 3) (fors+1) false l else none)) by rw [HX3.out,hst];rfl)
    clear hst
    (refine w3_last zb83 zb83 (fun K hK=>?_);go_simp)
    refine (must_any true _ _ _).mono ?_
    rintro e w1 ⟨he,rfl⟩
    have he:=MustR.none he
    subst he
    refine hK.out _ _ ?_
    clear hK K
    refine qf3 ?_
    have ys:=HY1.out.trans HZ0.out
    clear hk10 hkI HT HBN HX3 HX2
    have hcE:=bC (bX hE0.out ys)
    by_cases hk0:k=0
    ·have q0:((k:Int) == 0)=true:=by simp;omega
     refine zy51 ?_;intro HX4
     have q2:((k:Int) == 2)=false:=by simp;omega
     have q3:((k:Int) == 3)=false:=by simp;omega
     have hkk:=J (show (k:Int)=0 ∨ (k:Int)=1 ∨ (k:Int)=5 by omega)
     clear hk0
     exact zz5
    ·have q0:((k:Int) == 0)=false:=by simp;omega
     by_cases hk5:k=5
     ·have q5:((k:Int) == 5)=true:=by simp;omega
      refine zy51 ?_;intro HX4
      have q2:((k:Int) == 2)=false:=by simp;omega
      have q3:((k:Int) == 3)=false:=by simp;omega
      have hkk:=J (show (k:Int)=0 ∨ (k:Int)=1 ∨ (k:Int)=5 by omega)
      clear hk0 hk5
      exact zz5
     ·have q5:((k:Int) == 5)=false:=by simp;omega
      by_cases hk1:k=1
      ·have q1:((k:Int) == 1)=true:=by simp;omega
       refine zy51 ?_;intro HX4
       have q2:((k:Int) == 2)=false:=by simp;omega
       have q3:((k:Int) == 3)=false:=by simp;omega
       have hkk:=J (show (k:Int)=0 ∨ (k:Int)=1 ∨ (k:Int)=5 by omega)
       clear hk0 hk5 hk1
       exact zz5
      ·have q1:((k:Int) == 1)=false:=by simp;omega
       by_cases hk3:k=3
       ·have q3:((k:Int) == 3)=true:=by simp;omega
        have q2:((k:Int) == 2)=false:=by simp;omega
        have HX4:=J (show X=ored (loop κ name low high fors) (ored (chkD κ es) (chkB i (upd κ name 3) (fors+1) false l)) by
         have hn:named κ k name low high fors=loop κ name low high fors:=by unfold named;rw [if_neg zb85,if_pos zb85]
         have h:=HX4.out
         rw [hn,if_neg zb85,if_pos zb85] at h
         exact h)
        clear hk0 hk5 hk1 hk3
        have hgE:=bG (bX hE0.out ys)
        have hhE:=bH (bX hE0.out ys)
        have hlE:=(bX hE0.out ys).lt
        go_wp2_with fail
        obtain ⟨t,ht⟩:∃ t,t=loop κ name low high fors:=⟨_,rfl⟩
        have HK:=J (loop_any cb g κ (partName i) fors k name eA en ec low high lA ln lc xA xn xc HSZ.out _ (HCW.out.ext ys) (HLW.out.ext ys))
        rw [← ht] at HK HX4
        have HLT:=J (show t=none→_ from fun h=>loop_lt (ht.symm.trans h))
        clear ht hgE hhE hlE
        refine HK.out.mono ?_
        rintro e w2 ⟨he,hx2⟩
        cases t with
        | some f =>
         exact zz106
        | none =>
         have he:=MustR.none he
         subst he
         have HLT:=J (HLT.out rfl)
         have HXR:=J (show X=ored (chkD κ es) (chkB i (upd κ name 3) (fors+1) false l) from HX4.out)
         have ys:=ys.trans hx2
         clear hx2 HK
         have HYS:=J ys
         have hcE:=bC (bX hE0.out ys)
         have hlE:=(bX hE0.out ys).lt
         obtain ⟨Z,hZ⟩:∃ Z,Z=chkD κ es:=⟨_,rfl⟩
         rw [← hZ] at HXR
         have HZ:=J hZ.symm
         clear hZ ys
         go_wp2_with fail
         go_loopw [49] (fun t49 wr=>∃ (j:Nat) (R:EF),j+R.len=en∧chkD κ R=Z∧t49=.int .i64 j∧EFAt W N R b (off+j * 4)∧Ext W wr) (fun t49 _=>en - (intOf t49).toNat)
         case atStart=>exact ⟨0,es,by rw [HN.out,Nat.zero_add],HZ.out,rfl,by simpa using HE.out,HYS.out⟩
         case round =>
          obtain ⟨j,R,hj,hacc,rfl,hR,hx⟩:=hrel
          have HRR:=J hR
          have HX:=J hx
          have HACC:=J hacc
          have hcE:=bC (bX hE0.out hx)
          have hlE:=(bX hE0.out hx).lt
          clear hR hx hacc
          cases R with
          | nil =>
           simp only [EF.len,Nat.add_zero] at hj
           subst hj
           have hz0:Z=none:=by rw [← HACC.out];rfl
           rw [hz0] at HXR
           have HXQ:=J (show X=chkB i (upd κ name 3) (fors+1) false l from HXR.out)
           clear hz0 HXR
           have HCR:=J (HCW.out.ext HX.out)
           have hcC:=bC HCR.out.blk
           have hzC:=Blk.frozen HCR.out.blk
           have hlC:=HCR.out.lt
           have hf8:=HF8.out
           go_upto_region 22 with (fail)
           have HCQ:=J (show Ck (wr.setCell ⟨cb,2,none⟩ (.int .i64 ((fors:Int)+1))) cb g κ (partName i) (fors+1) from HCR.out.setFors (fors+1))
           have HXW:=J (show Kept (SG cb g) w (wr.setCell ⟨cb,2,none⟩ (.int .i64 ((fors:Int)+1))) from (Kept.ext (HX0.out.trans HX.out)).setCell ⟨cb,2,none⟩ _ (fun _=>Or.inr rfl))
           have HEQ:=J (show Blk (wr.setCell ⟨cb,2,none⟩ (.int .i64 ((fors:Int)+1))) eb _ _ from (bX hE0.out HX.out).far (p:=⟨cb,2,none⟩) (fun e=>HNE.out (Or.inr e)) _)
           generalize (wr.setCell ⟨cb,2,none⟩ (.int .i64 ((fors:Int)+1)))=wq at HCQ HXW HEQ ⊢
           clear hcC hzC hlC hcE hlE HCR HX hf8
           have he2:=bC HEQ.out
           have hl2:=HEQ.out.lt
           go_wp2_with fail
           obtain ⟨hl3,hl4,hl5⟩:=HLT.out trivial
           have hx9:=(kR (fun _=>False) wq).alloc (.cells #[.string name] 9)
           have hE9:=bN wq 9 #[.string name]
           have hqc:=HCQ.out.lt
           have hb:=HBL.out κ (fors+1) false lA ln lc (some ⟨wq.heap.size,0,none⟩) 1 1 [name] _ (HWW.out.trans (HXW.out.trans (Kept.ext hx9))) (HCQ.out.ext hx9) zb85 HSL.out ⟨rfl,by omega,wq.heap.size,0,fun _=>rfl,fun _=>⟨hE9.lt,by simpa using Row.of_blk hE9⟩⟩ (fun x h=>by cases h;show ¬ wq.heap.size=cb;omega) (by intro s hs;rw [List.mem_singleton.1 hs];exact hl4)
           rw [updAll_one,← HXQ.out] at hb
           refine hb.mono ?_
           rintro e w2 ⟨hb2,hk2⟩
           have HX2:=J (HXW.out.trans ((Kept.ext hx9).trans hk2))
           cases X with
           | some f =>
            obtain ⟨he,hm⟩:=hb2
            subst he
            show _∧_
            exact ⟨rfl,⟨rfl,hm⟩,HX2.out⟩
           | none =>
            obtain ⟨he,hc2⟩:=hb2
            subst he
            have HC2:=J hc2
            have hcC:=bC hc2.blk
            have hzC:=Blk.frozen hc2.blk
            have hlC:=hc2.lt
            clear hc2 hb hk2 hx9 hE9 hqc he2 hl2
            have hf8:=HF8.out
            go_wp2_with fail
            go_end0
            exact ⟨⟨rfl,HC2.out.setFors fors⟩,HX2.out.setCell ⟨cb,2,none⟩ _ (fun _=>Or.inr rfl)⟩
          | cons op' m' name' q rr =>
           exact zz7
       ·have q3:((k:Int) == 3)=false:=by simp;omega
        by_cases hk2:k=2
        ·have q2:((k:Int) == 2)=true:=by simp;omega
         have HXR:=J (show X=ored (chkD κ es) (ored (chkB i κ fors false l) (chkB i κ fors false x)) by
          have hn:named κ k name low high fors=none:=by unfold named;rw [if_neg zb85,if_neg zb85]
          have h:=HX4.out
          rw [hn,if_pos zb85] at h
          exact h)
         clear HX4 hk0 hk5 hk1 hk3 hk2
         have HYS:=J ys
         have hcE:=bC (bX hE0.out ys)
         have hlE:=(bX hE0.out ys).lt
         obtain ⟨Z,hZ⟩:∃ Z,Z=chkD κ es:=⟨_,rfl⟩
         rw [← hZ] at HXR
         have HZ:=J hZ.symm
         clear hZ ys
         go_wp2_with fail
         go_loopw [49] (fun t49 wr=>∃ (j:Nat) (R:EF),j+R.len=en∧chkD κ R=Z∧t49=.int .i64 j∧EFAt W N R b (off+j * 4)∧Ext W wr) (fun t49 _=>en - (intOf t49).toNat)
         case atStart=>exact ⟨0,es,by rw [HN.out,Nat.zero_add],HZ.out,rfl,by simpa using HE.out,HYS.out⟩
         case round =>
          obtain ⟨j,R,hj,hacc,rfl,hR,hx⟩:=hrel
          have HRR:=J hR
          have HX:=J hx
          have HACC:=J hacc
          have hcE:=bC (bX hE0.out hx)
          have hlE:=(bX hE0.out hx).lt
          clear hR hx hacc
          cases R with
          | nil =>
           simp only [EF.len,Nat.add_zero] at hj
           subst hj
           have hz0:Z=none:=by rw [← HACC.out];rfl
           rw [hz0] at HXR
           have HXQ:=J (show X=ored (chkB i κ fors false l) (chkB i κ fors false x) from HXR.out)
           clear hz0 HXR
           have HXW:=J (Kept.ext (S:=SG cb g) (HX0.out.trans HX.out))
           have HCR:=J (HCW.out.ext HX.out)
           have HEBR:=J (bX hE0.out HX.out)
           go_wp2_with fail
           have hb:=HBL.out κ fors false lA ln lc none 0 0 [] wr (HWW.out.trans HXW.out) HCR.out HF8.out HSL.out ⟨rfl,by omega,0,0,fun h=>absurd h zb85,fun h=>absurd h zb85⟩ (by nofun) zb86
           rw [updAll_nil] at hb
           obtain ⟨v,hv⟩:∃ v,v=chkB i κ fors false l:=⟨_,rfl⟩
           rw [← hv] at hb HXQ
           clear hv
           refine hb.mono ?_
           rintro e w2 ⟨hb2,hk2⟩
           cases v with
           | some f =>
            obtain ⟨he,hm⟩:=hb2
            subst he
            show _∧_
            refine ⟨rfl,?_,HXW.out.trans hk2⟩
            rw [show X=some f from HXQ.out]
            exact ⟨rfl,hm⟩
           | none =>
            obtain ⟨he,hc2⟩:=hb2
            subst he
            have HXQ:=J (show X=chkB i κ fors false x from HXQ.out)
            have HXW:=J (HXW.out.trans hk2)
            have HC2:=J hc2
            have he2:=bC (bK HEBR.out hk2 HNE.out)
            have hl2:=(bK HEBR.out hk2 HNE.out).lt
            clear hk2 hc2 hb HEBR HCR hcE hlE
            go_wp2_with fail
            have hb:=HBX.out κ fors false xA xn xc none 0 0 [] w2 (HWW.out.trans HXW.out) HC2.out HF8.out HSX.out ⟨rfl,by omega,0,0,fun h=>absurd h zb85,fun h=>absurd h zb85⟩ (by nofun) zb86
            rw [updAll_nil] at hb
            rw [← HXQ.out] at hb
            clear HXQ
            refine hb.mono ?_
            rintro e w3 ⟨hb3,hk3⟩
            cases X with
            | some f =>
             obtain ⟨he,hm⟩:=hb3
             subst he
             show _∧_
             exact ⟨rfl,⟨rfl,hm⟩,HXW.out.trans hk3⟩
            | none =>
             obtain ⟨he,hc3⟩:=hb3
             subst he
             go_wp2_with fail
             go_end0
             exact ⟨⟨rfl,hc3⟩,HXW.out.trans hk3⟩
          | cons op' m' name' q rr =>
           exact zz7
        ·have q2:((k:Int) == 2)=false:=by simp;omega
         have HXR:=J (show X=ored (chkD κ es) none by
          have hn:named κ k name low high fors=none:=by unfold named;rw [if_neg zb85,if_neg zb85]
          have h:=HX4.out
          rw [hn,if_neg zb85,if_neg zb85] at h
          exact h)
         clear HX4 hk0 hk5 hk1 hk3 hk2
         exact zz116
open Go.RowKit So
def addF (f:ByteArray→Option Value) (l:List Str):ByteArray→Option Value:=fun t=>if l.any (fun u=>decide (u=t))=true then some (.int .i64 2) else f t
theorem addF_snoc (f:ByteArray→Option Value) (l:List Str) (x:Str):∀ t,(fun t=>if t=x then some (.int .i64 2) else addF f l t) t=addF f (l ++ [x]) t:=by
 intro t
 unfold addF
 exact zz78
theorem addF_kn (κ:Kn) (l:List Str):∀ t,addF (knF κ) l t=knF (updAll κ l) t:=by
 intro t
 unfold addF knF updAll
 cases h:l.any (fun u=>decide (u=t))
 ·simp
 ·simp
theorem delF_kn (κ:Kn) (l:List Str) (h0:∀ s ∈ l,κ s=0):∀ t,delF (knF (updAll κ l)) l t=knF κ t:=by
 intro t
 unfold delF knF updAll
 cases h:l.any (fun u=>decide (u=t))
 ·simp
 ·obtain ⟨u,hu,hut⟩:=List.any_eq_true.1 h
  have:κ t=0:=of_decide_eq_true hut ▸ h0 u hu
  simp [this]
set_option maxRecDepth 100000 in
theorem block_any (cb g i:Nat) (hi:i < 5) (w0:World) (N:Nat) (hN4:4 < N) (hNg:N≤g) (hNc:N≤cb) (hN0:N≤w0.heap.size) (hL:LaidAt w0) (F:SF):BlC cb g i w0 N F:=by
 have HS4:=J (show ∀ j,SG cb g j→N≤j from fun j h=>by rcases h with h | h <;> omega)
 refine sf_ind (C:=BlC cb g i w0 N) ?_ F
 clear F
 intro F IH κ fors top A n c B bn bc ns w hw hC hf8 hsl hns hBcb hk0
 obtain ⟨hn,hf,b,off,hA,hE⟩:=hsl
 have hm:=hf.max zb85
 obtain ⟨hbn,hbm,bb,bo,hB,hR⟩:=hns
 have HN:=J hn
 have HA:=J hA
 have HE:=J hE
 have HI:=J IH
 have HBN:=J hbn
 have HB:=J hB
 have HR:=J hR
 have HBC:=J hBcb
 have HK0:=J hk0
 have HW:=J hw
 have HC:=J hC
 have HF8:=J hf8
 have HL:=J hL
 have HN4:=J (And.intro hN4 (And.intro hNg hNc))
 clear hn hA hE IH hf hbn hB hR hBcb hk0 hw hC hf8 hL hN4 hNg hNc
 obtain ⟨κ',hk'⟩:∃ κ',κ'=updAll κ ns:=⟨_,rfl⟩
 obtain ⟨Z,hZ⟩:∃ Z,Z=chkB i κ' fors top F:=⟨_,rfl⟩
 rw [← hk',← hZ]
 have HKE:=J hk'
 have HZ:=J hZ.symm
 clear hk' hZ
 refine zy66 ?_;intro hmf
 go_enter_defers Tryz.func162,Tryz.ntmps162
 go_upto_region 1 with (fail)
 obtain ⟨p4,hp4⟩:∃ p4,p4=w.heap.size:=⟨_,rfl⟩
 obtain ⟨W,hW⟩:∃ W,W=(w.alloc (.cells #[.pointer (some ⟨cb,0,none⟩)] 142)).alloc (.cells #[.slice B bn bc] 118):=⟨_,rfl⟩
 have hx0:Ext w W:=by rw [hW];exact ((kR _ w).alloc _).alloc _
 have h4:Blk W p4 142 #[.pointer (some ⟨cb,0,none⟩)]:=by rw [hW,hp4];exact (bN w _ _).alloc _
 have h7:Blk W (p4+1) 118 #[.slice B bn bc]:=by
  rw [hW,hp4]
  exact Blk.new' _ _ _ _ zb86
 rw [← hW,← hp4]
 have hp7:(w.alloc (.cells #[.pointer (some ⟨cb,0,none⟩)] 142)).heap.size=p4+1:=by rw [hp4];simp
 have HP4:=J (show w.heap.size≤p4 from by omega)
 have NE4:¬ SG cb g p4∧¬ SG cb g (p4+1):=by
  have h1:=HC.out.map.lt
  have h2:=HC.out.lt
  constructor <;> (rintro (h | h) <;> omega)
 clear hW hp4
 try rw [hp7]
 clear hp7
 have HX0:=J hx0
 have H4:=J h4
 have H7:=J h7
 have HNE:=J NE4
 have h7c:=bC h7
 clear hx0 h4 h7 NE4
 go_wp2_with fail
 go_loopw [14] (fun t14 wr=>∃ (j:Nat),j≤bn∧t14=.int .i64 j∧SMap wr g (addF (knF κ) (ns.take j))∧Kept (·=g) W wr) (fun t14 _=>bn - (intOf t14).toNat)
 case atStart=>exact ⟨0,Nat.zero_le _,rfl,(HC.out.map.ext HX0.out).cong (fun t=>by simp [addF]),kR _ _⟩
 case round =>
  obtain ⟨j,hj,rfl,hS,hx⟩:=hrel
  have HS:=J hS
  have HX:=J hx
  have hcbB:=bK (bX HC.out.blk HX0.out) hx HC.out.ne
  have H4B:=J (bK H4.out hx (fun e=>HNE.out.1 (Or.inl e)))
  have H7B:=J (bK H7.out hx (fun e=>HNE.out.2 (Or.inl e)))
  have HCB:=J hcbB
  clear hS hx hcbB h7c
  have c4:=bC H4B.out
  have cb0:=bC HCB.out
  have lcb:=HCB.out.lt
  by_cases hlt:j < bn
  ·have hjl:j < ns.length:=by have:=HBN.out;omega
   have hltI:(j:Int) < bn:=by omega
   obtain rfl:=HB.out zb85
   have hrow0:=(HR.out zb85).2
   have hrow:=(hrow0.kept HX0.out (fun f=>f)).kept HX.out (HC.out.map.ne_row hrow0)
   have hc:=str_at hrow j hjl
   have hbw:=hrow.lt
   obtain ⟨x,hxe⟩:∃ x,x=ns[j]:=⟨_,rfl⟩
   rw [← hxe] at hc
   have HXE:=J hxe
   clear hrow hrow0 hxe
   obtain ⟨w',hrun,hS',hk'⟩:=SMap.put (P:=Tryz.prog) HS.out Tryz.underlying143 Tryz.underlying9 x (.int .i64 2)
   have HS':=J hS'
   have HK':=J hk'
   clear hS' hk'
   go_wp2_with fail
   exact ⟨⟨j+1,hlt,by go_num,HS'.out.cong (fun t=>by rw [List.take_add_one,List.getElem?_eq_getElem hjl,← HXE.out];exact addF_snoc (knF κ) (ns.take j) x t),HX.out.trans HK'.out⟩,by simp only [intOf];omega⟩
  ·obtain rfl:j=bn:=by omega
   have HSL:=J (show ∀ w',Kept (SG cb g) wr w'→StrSl w' p4 B j ns from fun w' hk=>⟨HBN.out,hbm,bb,bo,HB.out,fun h=>by
    have hr:=HR.out h
    have hg:=HC.out.map.ne_row hr.2
    have hc:=HBC.out _ (HB.out h)
    refine ⟨by have:=HP4.out;omega,(((hr.2.kept HX0.out (fun f=>f)).kept HX.out hg).kept hk ?_)⟩
    rintro (e | e)
    ·exact hg e
    ·exact hc e⟩)
   have HCK:=J (show Ck wr cb g (updAll κ ns) (partName i) fors from ⟨HCB.out,HS.out.cong (fun t=>by rw [HBN.out,List.take_length];exact addF_kn κ ns t)⟩)
   have HWR:=J (show Kept (SG cb g) w wr from (Kept.ext HX0.out).trans (HX.out.mono (fun _ _ h=>Or.inl h)))
   rw [← HKE.out] at HCK
   have HCX:=J HC.out
   clear HS HX HCB c4 cb0 lcb HB HR HX0 H4 H7 HC
   have HWQ:=J (HW.out.trans HWR.out)
   have HLR:=J (HL.out.kept HWQ.out (fun k hk h=>by have:=HS4.out k h;have:=HN4.out.1;omega))
   have HNR:=J (Nat.le_trans hN0 HWQ.out.size)
   go_wp2_with fail
   go_loopw [27] (fun t27 wq=>∃ (m:Nat) (R:SF),m+R.len=n∧chkB i κ' fors top R=Z∧t27=.int .i64 m∧SFAt w0 N R b (off+m * 7)∧SF.All (BlC cb g i w0 N) R∧Ck wq cb g κ' (partName i) fors∧Kept (SG cb g) wr wq) (fun t27 _=>n - (intOf t27).toNat)
   case atStart=>exact ⟨0,F,by rw [HN.out,Nat.zero_add],HZ.out,rfl,by simpa using HE.out,HI.out,HCK.out,kR _ _⟩
   case round =>
    obtain ⟨m,R,hm',hacc,rfl,hR,hall,hck,hx⟩:=hrel
    have HRR:=J hR
    have HX:=J hx
    have HACC:=J hacc
    have HALL:=J hall
    have HCQ:=J hck
    clear hR hx hacc hall hck
    cases R with
    | nil =>
     simp only [SF.len,Nat.add_zero] at hm'
     subst hm'
     have hz0:Z=none:=by rw [← HACC.out];rfl
     subst hz0
     go_wp2_with fail
     have hk4:=bC (bK H4B.out HX.out HNE.out.1) 0
     have hk7:=bC (bK H7B.out HX.out HNE.out.2) 0
     refine leaves_cons (f:=175) (args:=#[.pointer (some ⟨p4+1,0,none⟩),.pointer (some ⟨p4,0,none⟩)]) zb86 (by simp [go_sem]) ?_
     refine (forget_any (p4+1) p4 cb g B j bc ns (knF κ') (partName i) fors .returning p4 _ hk7 hk4 HCQ.out.blk HCQ.out.map (HSL.out _ HX.out)).mono ?_
     rintro e u' w2 ⟨rfl,rfl,hM2,hk2⟩
     refine ⟨_,results_none rfl _ _ _,⟨rfl,bK HCQ.out.blk hk2 HCX.out.ne,hM2.cong fun t=>?_⟩,HWR.out.trans (HX.out.trans (hk2.mono fun _ _ h=>Or.inl h))⟩
     rw [HKE.out]
     exact delF_kn κ ns HK0.out t
    | cons kind name es low high l x r =>
     obtain ⟨hb,h1,h2,h3,h4,⟨eA,ec,lA,lc,xA,xc,be,oe,bl,ol,bx,ox,hh,hg,n1,n2,n3,a1,a2,a3,he,hl,hxx⟩,hr⟩:=HRR.out
     simp only [SF.len] at hm'
     have hlt:(m:Int) < n:=by omega
     obtain rfl:=HA.out zb85
     have hw0:Kept (SG cb g) w0 _:=HWQ.out.trans HX.out
     have hnb:¬ SG cb g b:=fun h=>by have:=HS4.out b h;omega
     have hh':=(has_keep hw0 zb85 hnb).trans hh
     have hg':=(gets_keep hw0 zb85 hnb).trans hg
     have hbw:b < wr.heap.size:=by have:=hw0.size;omega
     have KE:=J (show ESl w0 N eA es.len es from ⟨rfl,n1,be,oe,a1,he⟩)
     refine zy33 ?_;intro KL KX
     have HR2:=J hr
     have HAL:=J HALL.out
     have HSZ:=J h4
     have c4:=bC (bK H4B.out HX.out HNE.out.1)
     have l4:=(bK H4B.out HX.out HNE.out.1).lt
     have HW0:=J hw0
     clear hh hg n1 n2 n3 a1 a2 a3 he hl hxx hb h1 h2 h3 h4 hr HRR hw0 hnb
     have y0:=(kR (fun _=>False) wr).alloc (.cells (scells kind name eA es.len ec low high lA l.len lc xA x.len xc) 151)
     have HY0:=J y0
     clear y0
     cases top
     ·have HACC:=J (show ored (chkS i κ' fors false kind name es low high l x) (chkB i κ' fors false r)=Z from HACC.out ▸ (chkB_cons i κ' fors false kind name es low high l x r).symm)
      go_wp2_with fail
      have HK:=J (stmt_any cb g i hi w0 N HN4.out.1 HN4.out.2.1 HN4.out.2.2 hN0 κ' fors HF8.out kind name es low high l x eA es.len ec lA l.len lc xA x.len xc false HSZ.out KE.out KL.out KX.out HAL.out.1 HAL.out.2.1 _ (HW0.out.trans (Kept.ext HY0.out)) (HCQ.out.ext HY0.out) (HL.out.kept (HW0.out.trans (Kept.ext HY0.out)) (fun k hk h=>by have:=HS4.out k h;have:=HN4.out.1;omega)))
      obtain ⟨v,hv⟩:∃ v,v=chkS i κ' fors false kind name es low high l x:=⟨_,rfl⟩
      rw [← hv] at HK HACC
      clear hv
      exact zz18
     ·have hls:((m:Int) == (n:Int) - 1)=r.isNil:=by
       cases r with
       | nil=>simp only [SF.len] at hm';simp [SF.isNil];omega
       | cons=>simp only [SF.len] at hm';simp [SF.isNil];omega
      obtain ⟨la,hla⟩:∃ la,la=r.isNil:=⟨_,rfl⟩
      have HACC:=J (show ored (chkS i κ' fors la kind name es low high l x) (chkB i κ' fors true r)=Z from by rw [hla];exact HACC.out ▸ (chkB_cons i κ' fors true kind name es low high l x r).symm)
      rw [← hla] at hls
      have HLS:=J hls
      clear hla hls
      go_wp2_with fail
      rw [HLS.out]
      have HK:=J (stmt_any cb g i hi w0 N HN4.out.1 HN4.out.2.1 HN4.out.2.2 hN0 κ' fors HF8.out kind name es low high l x eA es.len ec lA l.len lc xA x.len xc la HSZ.out KE.out KL.out KX.out HAL.out.1 HAL.out.2.1 _ (HW0.out.trans (Kept.ext HY0.out)) (HCQ.out.ext HY0.out) (HL.out.kept (HW0.out.trans (Kept.ext HY0.out)) (fun k hk h=>by have:=HS4.out k h;have:=HN4.out.1;omega)))
      obtain ⟨v,hv⟩:∃ v,v=chkS i κ' fors la kind name es low high l x:=⟨_,rfl⟩
      rw [← hv] at HK HACC
      clear hv HLS
      exact zz18
open Go.RowKit So
abbrev EndC (w0:World) (F:SF):Prop:=∀ (A:Option Addr) (n c N:Nat) (w:World),Ext w0 w→N≤w0.heap.size→SSl w0 N A n F→Calls Tryz.prog 79 #[.slice A n c] w fun e w'=>e=.returned (.bool (ends F))∧Ext w w'
set_option maxRecDepth 100000 in
theorem sends_any (w0:World) (F:SF):EndC w0 F:=by
 refine sf_ind (C:=EndC w0) ?_ F
 clear F
 intro F IH A n c N w hx0 hN h
 obtain ⟨Z,hZ⟩:∃ Z,Z=ends F:=⟨_,rfl⟩
 rw [← hZ]
 have HZ:=J hZ.symm
 clear hZ
 refine zy111 ?_;clear h IH;intro b off hm HN HA HE HI
 go_enter Tryz.func79,Tryz.ntmps79
 go_wp2_with fail
 go_loopw [7] (fun t7 wr=>∃ (j:Nat) (R:SF),j+R.len=n∧ends R=Z∧t7=.int .i64 j∧SFAt w0 N R b (off+j * 7)∧SF.All (EndC w0) R∧Ext w wr) (fun t7 _=>n - (intOf t7).toNat)
 case atStart=>exact ⟨0,F,by rw [HN.out,Nat.zero_add],HZ.out,rfl,by simpa using HE.out,HI.out,kR _ _⟩
 case round =>
  obtain ⟨j,R,hj,hacc,rfl,hR,hI,hx⟩:=hrel
  have HR:=J hR
  have HI2:=J hI
  have HX:=J hx
  have HACC:=J hacc
  clear hR hI hx hacc
  cases R with
  | nil =>
   simp only [SF.len,Nat.add_zero] at hj
   subst hj
   go_wp2_with fail
   go_ret
   exact ⟨by rw [← HACC.out];rfl,HX.out⟩
  | cons kind name es low high l x r =>
   obtain ⟨hb,h1,h2,h3,h4,⟨eA,ec,lA,lc,xA,xc,be,oe,bl,ol,bx,ox,hh,hg,n1,n2,n3,a1,a2,a3,he,hl,hxx⟩,hr⟩:=HR.out
   simp only [SF.len] at hj
   have hlt:(j:Int) < n:=by omega
   obtain rfl:=HA.out zb85
   have hx0r:=hx0.trans HX.out
   refine zy21 ?_;intro hbl hh' hg' hbw
   refine zy33 ?_;intro KL KX
   have HR2:=J hr
   have y0:=(kR (fun _=>False) wr).alloc (.cells (scells kind name eA es.len ec low high lA l.len lc xA x.len xc) 151)
   have HB:=J (bN wr 151 (scells kind name eA es.len ec low high lA l.len lc xA x.len xc))
   exact zz11
open Go.RowKit So
set_option maxRecDepth 100000 in
theorem walk_any (cb g i:Nat) (hi:i < 5) (w0:World) (N:Nat) (hN4:4 < N) (hNg:N≤g) (hNc:N≤cb) (hN0:N≤w0.heap.size) (hL:LaidAt w0) (F:SF) (κ:Kn) (p0:Str) (A:Option Addr) (n c:Nat) (B:Option Addr) (bn bc:Nat) (ns:List Str) (w:World) (hw:Kept (SG cb g) w0 w) (hC:Ck w cb g κ p0 0)
 (hs:SSl w0 N A n F) (hS:∀ w',Kept (SG cb g) w w'→StrSl w' w'.heap.size B bn ns) (hB:∀ x,B=some x→¬ x.block=cb) (hk:∀ s ∈ ns,κ s=0) :
 Calls Tryz.prog 126 #[.pointer (some ⟨cb,0,none⟩),.string (partName i),.slice A n c,.slice B bn bc] w fun e w2=>BlkR cb g κ (partName i) 0 (chkB i (updAll κ ns) 0 true F) e w2∧Kept (SG cb g) w w2:=by
 have HC:=J hC
 have HS:=J hS
 have HSS:=J hs
 have hcC:=bC hC.blk
 have hzC:=Blk.frozen hC.blk
 have hlC:=hC.lt
 clear hC hS hs
 go_enter Tryz.func126,Tryz.ntmps126
 go_upto_region 1 with (fail)
 have HK:=J ((kR (SG cb g) w).setCell ⟨cb,1,none⟩ (.string (partName i)) (fun _=>Or.inr rfl))
 have HCK:=J (show Ck (w.setCell ⟨cb,1,none⟩ (.string (partName i))) cb g κ (partName i) 0 from ⟨Blk.set_ HC.out.blk 1 (.string (partName i)),HC.out.map.kept (S:=(·=cb)) (Kept.setCell (kR _ w) ⟨cb,1,none⟩ _ (fun _=>rfl)) (fun e=>HC.out.ne e.symm)⟩)
 generalize w.setCell ⟨cb,1,none⟩ (.string (partName i))=W at HK HCK ⊢
 clear hcC hzC hlC
 go_wp2_with fail
 refine (block_any cb g i hi w0 N hN4 hNg hNc hN0 hL F κ 0 true A n c B bn bc ns W (hw.trans HK.out) HCK.out zb85 HSS.out (HS.out _ HK.out) hB hk).mono ?_
 rintro e w2 ⟨hb,hk2⟩
 obtain ⟨Z,hZ⟩:∃ Z,Z=chkB i (updAll κ ns) 0 true F:=⟨_,rfl⟩
 rw [← hZ] at hb
 cases Z with
 | none =>
  obtain ⟨he,hc2⟩:=hb
  subst he
  go_wp2_with fail
  go_end0
  rw [← hZ]
  exact ⟨⟨rfl,hc2⟩,HK.out.trans hk2⟩
 | some f =>
  obtain ⟨he,hm⟩:=hb
  subst he
  show _∧_
  refine ⟨rfl,?_,HK.out.trans hk2⟩
  rw [← hZ]
  exact ⟨rfl,hm⟩
end Go.Proofs.YtbfbabbcdochjaaGreatDoor
