/- Several texts joined: Ue, Jl. -/
import Derived.Test.YtbfbabbcdochjaaGreatDoorRxpk
import Derived.Test.YtbfbabbcdochjaaGreatDoorRxbf
import Derived.Test.YtbfbabbcdochjaaGreatDoorRxbh
set_option maxHeartbeats 4000000
namespace Go.Proofs.YtbfbabbcdochjaaGreatDoor
open Go.RowKit So
theorem nz_named (κ:Kn) (kind:Int) (s:Str) (low high:Int) (fors:Nat):NZ (named κ kind s low high fors):=by
 unfold named target loop
 exact NZ.ite (NZ.ored (NZ.must zb84) (NZ.ored (NZ.must zb84) (NZ.ite (NZ.must zb84) NZ.none))) (NZ.ite (NZ.ored (NZ.must zb84) (NZ.ored (NZ.must zb84) (NZ.ored (NZ.must zb84) (NZ.must zb84)))) NZ.none)
theorem nz_chkD (κ:Kn):∀ F:EF,NZ (chkD κ F)
 | .nil=>NZ.none
 | .cons op n s k r=>by
  rw [chkD_cons]
  exact NZ.ored (NZ.ored (NZ.must zb84) (nz_chk1 κ op n s k)) (nz_chkD κ r)
theorem nz_chkB (part:Nat):∀ (F:SF) (κ:Kn) (fors:Nat) (top:Bool),NZ (chkB part κ fors top F)
 | .nil,_,_,_=>by rw [chkB];exact NZ.none
 | .cons kind name e low high l els r,κ,fors,top=>by
  rw [chkB]
  exact NZ.ored (NZ.ored (NZ.must zb84) (NZ.ored (NZ.must zb84) (NZ.ored (nz_named κ kind name low high fors) (NZ.ored (nz_chkD κ e) (NZ.ite (NZ.ored (nz_chkB part l κ fors false) (nz_chkB part els κ fors false)) (NZ.ite (nz_chkB part l _ _ false) NZ.none)))))) (nz_chkB part r κ fors top)
theorem nz_chkS (part:Nat) (κ:Kn) (fors:Nat) (last:Bool) (kind:Int) (name:Str) (e:EF) (low high:Int) (l els:SF):NZ (chkS part κ fors last kind name e low high l els):=by
 unfold chkS
 exact NZ.ored (NZ.must zb84) (NZ.ored (NZ.must zb84) (NZ.ored (nz_named κ kind name low high fors) (NZ.ored (nz_chkD κ e) (NZ.ite (NZ.ored (nz_chkB part l κ fors false) (nz_chkB part els κ fors false)) (NZ.ite (nz_chkB part l _ _ false) NZ.none)))))
theorem updAll_snoc (κ:Kn) (l:List Str) (s:Str):updAll κ (l ++ [s])=upd (updAll κ l) s 3:=by
 funext t
 unfold updAll upd
 rw [List.any_append]
 by_cases h:t=s
 ·subst h;simp
 ·have h2:decide (s=t)=false:=decide_eq_false (fun e=>h e.symm)
  simp only [List.any_cons,List.any_nil,h2,Bool.or_false]
  rw [if_neg h]
theorem NZ.out {o:Option Flt} (h:NZ o) {fe:Int} {fn:Str} (e:o=.some ⟨fe,fn⟩):(fe == 0)=false:=by simpa using h ⟨fe,fn⟩ e
theorem appA {α:Type} {f:α→Array Value} {P:Program} {T E:TypeId} {sz bytes:Nat} (hE:ElemOk P T E sz bytes) (hf:∀ d,(f d).size=sz) (hfl:∀ d,flatL (f d).toList=true) (w:World) (base:Nat) (v:Value) (n:Nat) (xs:List α) (hown:w.ownsRow base E sz v n (rowsL f xs))
 (A:Option Addr) (m c:Nat) (l:List α) (hm:m=l.length) (hA:A=none→c=0) (hr:0 < m→∃ b off,A=some ⟨b,off,none⟩∧Row w b off (rowsL f l)) (hn:(n+m) * bytes≤140737488355328) (hbase:base≤w.heap.size) (h8:8≤bytes:=by omega) :
 ∃ v' w',(Builtin.append_ #[T,T] T #[v,.slice A m c]).run P w=.ok v' w'∧w'.ownsRow base E sz v' (n+m) (rowsL f (xs ++ l))∧Kept (fun i=>v.ownBlock=some i) w w'∧(∀ i,v'.ownBlock=some i→v.ownBlock=some i ∨ w.heap.size≤i):=by
 by_cases h0:0 < m
 ·obtain ⟨b,off,rfl,hrow⟩:=hr h0
  exact appR hE hf hfl w base v n xs hown b off m c l hm hrow hn hbase h8
 ·obtain rfl:m=0:=by omega
  have hl:l=[]:=List.eq_nil_of_length_eq_zero hm.symm
  subst hl
  obtain ⟨ht,i,z,hi,hz,h1,h2,h3,h4⟩:=hE
  have hx0:xs ++ ([]:List α)=xs:=List.append_nil xs
  rw [hx0]
  cases A with
  | none =>
   obtain rfl:=hA rfl
   exact ⟨v,w,run_append_owned_none (P:=P) (w:=w) base T T E i sz ht hi v n (rowsL f xs) hown,hown,kR _ w,fun i h=>.inl h⟩
  | some a =>
   rcases hown.2 with ⟨rfl,rfl⟩ | ⟨g,cap,cur,rfl,hbg,hgc,hnc,hcm,hcs,htake⟩
   ·have hmx:(0:Nat)+0≤maxLen:=by unfold maxLen;omega
    have hx:rowsL f xs=[]:=List.eq_nil_of_length_eq_zero (by simpa using hown.1)
    obtain ⟨v',w',hrun,ho,hg,hiff⟩:=run_append_own (P:=P) w base T T E i z sz bytes ht hi hz h1 h2 h3 h4 (.slice none 0 0) 0 (rowsL f xs) hown a 0 c [] zb86 (fun j u h=>by simp at h) (fun u h=>by simp at h) hmx hn hbase
    have hv:v'=.slice none 0 0:=hiff.2 ⟨rfl,rfl⟩
    subst hv
    refine ⟨_,w',hrun,?_,Kept.of_grown hg,fun i h=>.inl h⟩
    simpa using ho
   ·have hr2:=run_append_room (P:=P) w T T E i ht hi g n cap cur hgc a 0 c [] zb86 (fun j u h=>by simp at h) (fun u h=>by simp at h) zb85 (by rw [h1,hcs];simp;exact Nat.mul_le_mul_right _ hnc)
    obtain ⟨v',w',hrun,ho,hg,-⟩:=run_append_own (P:=P) w base T T E i z sz bytes ht hi hz h1 h2 h3 h4 (.slice (some ⟨g,0,none⟩) n cap) n (rowsL f xs) hown a 0 c [] zb86 (fun j u h=>by simp at h) (fun u h=>by simp at h) zb85 hn hbase
    rw [hrun] at hr2
    injection hr2 with e1 e2
    subst e1
    refine ⟨_,w',hrun,?_,Kept.of_grown hg,fun i h=>.inl h⟩
    simpa using ho
theorem meet5 {F M:World→Value→Value→Value→Nat→Nat→Prop} {G:Prop} (h:(∀ W a b c d e,F W a b c d e→M W a b c d e)→G) (h2:∀ W a b c d e,F W a b c d e→M W a b c d e):G:=h h2
abbrev RBlC (c:Pc) (p:Pr) (i N:Nat) (w0:World) (F:SF):Prop:=∀ (deep:Nat) (top:Bool) (A:Option Addr) (n k:Nat) (pl:List Str) (B:Option Addr) (bn bc:Nat) (w':World),Ext w0 w'→StrSl w' w'.heap.size A n pl→(A=none→k=0)→pl.length≤40+deep→deep≤8→SSl w0 N B bn F →
 Calls Tryz.prog 54 #[.agg (knCells c A n k),.slice B bn bc,.int .i64 (i:Int),.int .i64 (deep:Int),.bool top] w' fun e w2=>e=.returned (.agg (fltC (chkB i (updAll (knV p.vars) pl) deep top F)))∧Ext w' w2
set_option maxRecDepth 100000 in
theorem rstmt_any (c:Pc) (p:Pr) (i:Nat) (hi:i < 5) (N:Nat) (w0:World) (hN:N≤w0.heap.size) (h:PAt w0 N c p) (deep:Nat) (hd8:deep≤8) (kind:Int) (name:Str) (e:EF) (low high:Int) (l x:SF) (eA:Option Addr) (ec:Nat) (lA:Option Addr) (lc:Nat) (xA:Option Addr) (xc:Nat) (last:Bool) (hs:name.size≤maxLen)
 (he:ESl w0 N eA e.len e) (hl:SSl w0 N lA l.len l) (hx:SSl w0 N xA x.len x) (HBL:RBlC c p i N w0 l) (HBX:RBlC c p i N w0 x) (A:Option Addr) (n kc:Nat) (pl:List Str) (w:World) (hw:Ext w0 w) (hpl:StrSl w w.heap.size A n pl) (hAk:A=none→kc=0) (hpn:pl.length≤40+deep) :
 Calls Tryz.prog 94 #[.agg (knCells c A n kc),.agg (scells kind name eA e.len ec low high lA l.len lc xA x.len xc),.int .i64 (i:Int),.int .i64 (deep:Int),.bool last] w fun e2 w'=>e2=.returned (.agg (fltC (chkS i (updAll (knV p.vars) pl) deep last kind name e low high l x)))∧Ext w w':=by
 obtain ⟨κ,hκ⟩:∃ κ,κ=updAll (knV p.vars) pl:=⟨_,rfl⟩
 obtain ⟨nm,hnm⟩:∃ o,o=named κ kind name low high deep:=⟨_,rfl⟩
 obtain ⟨D,hD0⟩:∃ o,o=chkD κ e:=⟨_,rfl⟩
 obtain ⟨st,hst⟩:∃ b,b=stands kind i last:=⟨_,rfl⟩
 obtain ⟨R,hR0⟩:∃ o,o=(if kind=2 then ored (chkB i κ deep false l) (chkB i κ deep false x) else if kind=3 then chkB i (upd κ name 3) (deep+1) false l else none):=⟨_,rfl⟩
 obtain ⟨X,hX⟩:∃ X,X=ored (must (btw kind 0 9 && e.len == stmtParts kind) 3 E0) (ored (must st 10 (partName i)) (ored nm (ored D R))):=⟨_,rfl⟩
 have hXE:X=chkS i (updAll (knV p.vars) pl) deep last kind name e low high l x:=by rw [hX,hst,hnm,hD0,hR0,hκ];rfl
 rw [← hXE]
 have HX:=J hX
 have HKA:=J hκ
 have HNM:=J hnm
 have HDE:=J hD0
 have HST:=J hst
 have HRE:=J hR0
 clear hXE hX hκ hnm hD0 hst hR0
 have HS0:=J hs
 have HBLk:=J HBL
 have HBXk:=J HBX
 have HPN:=J (And.intro hpn hd8)
 have HAK:=J hAk
 clear hAk
 have HWW:=J hw
 have HL0:=J hl
 have HX00:=J hx
 clear hs HBL HBX hpn hd8 hl hx
 have hx0:=(((kR (fun _=>False) w).alloc (.cells (knCells c A n kc) 120)).alloc (.cells (scells kind name eA e.len ec low high lA l.len lc xA x.len xc) 86)).alloc (.cells #[.int .i64 0,.string ⟨#[]⟩] 60)
 have hK:=((bN w 120 (knCells c A n kc)).alloc (.cells (scells kind name eA e.len ec low high lA l.len lc xA x.len xc) 86)).alloc (.cells #[.int .i64 0,.string ⟨#[]⟩] 60)
 have hS:=(Blk.new' (w.alloc (.cells (knCells c A n kc) 120)) 86 (scells kind name eA e.len ec low high lA l.len lc xA x.len xc) (w.heap.size+1) zb86).alloc (.cells #[.int .i64 0,.string ⟨#[]⟩] 60)
 have hD:=Blk.new' ((w.alloc (.cells (knCells c A n kc) 120)).alloc (.cells (scells kind name eA e.len ec low high lA l.len lc xA x.len xc) 86)) 60 #[.int .i64 0,.string ⟨#[]⟩] (w.heap.size+1+1) zb86
 go_enter Tryz.func94,Tryz.ntmps94
 go_upto_region 1 with (fail)
 have HNQ:=J (show N≤w.heap.size from Nat.le_trans hN hw.size)
 have HPA:=J (((h.ext hw hN).ext hx0 HNQ.out).mono (show N≤w.heap.size from HNQ.out))
 have HSL:=J (hpl.ext hx0)
 have HNW:=J (show w.heap.size≤_ from hx0.size)
 have HES:=J ((he.ext hw hN).ext hx0 HNQ.out)
 have HWZ:=J (hw.trans hx0)
 generalize hW:(((w.alloc (.cells (knCells c A n kc) 120)).alloc (.cells (scells kind name eA e.len ec low high lA l.len lc xA x.len xc) 86)).alloc (.cells #[.int .i64 0,.string ⟨#[]⟩] 60))=W at hx0 hK hS hD HPA HSL HNW HES HWZ ⊢
 clear hW h hpl he hw
 obtain ⟨rb,hrb⟩:∃ rb,rb=w.heap.size+1+1:=⟨_,rfl⟩
 rw [← hrb] at hD ⊢
 obtain ⟨sb,hsb⟩:∃ sb,sb=w.heap.size+1:=⟨_,rfl⟩
 rw [← hsb] at hS ⊢
 obtain ⟨kb,hkb⟩:∃ kb,kb=w.heap.size:=⟨_,rfl⟩
 rw [← hkb] at hK ⊢
 have HRW:=J (show w.heap.size≤rb∧w.heap.size≤kb∧¬ sb=kb∧¬ rb=kb from ⟨by omega,by omega,by omega,by omega⟩)
 have HD:=J hD
 have HX0:=J hx0
 have HK:=J hK
 have HS:=J hS
 clear hD hx0 hrb hsb hK hS hkb
 refine zy72 ?_;intro HY0
 cases hb1:btw kind 0 9
 ·have HR:=J (show X=some ⟨3,E0⟩ by rw [HX.out,hb1,Bool.false_and,must_false,ored_some])
  refine zy63 ?_
  refine zy91 ?_
  (refine w3_act (fun K hK=>?_);go_simp)
  refine (in_any _ _ _ _).mono ?_
  rintro e w1 ⟨rfl,rfl⟩
  rw [hb1]
  refine hK.out _ _ (fun _=>HY0.out) ?_
  clear hK K
  refine zy91 ?_
  (refine w3_act (fun K hK=>?_);go_simp)
  refine hK.out _ _ (fun h=>h) ?_
  clear hK K
  refine zy91 ?_
  refine qf3 ?_
  have HXC:=HY0
  exact zz26
 ·obtain ⟨k,rfl⟩:∃ k:Nat,kind=k:=⟨kind.toNat,by
   have:0≤kind∧kind≤9:=by simpa [btw] using hb1
   omega⟩
  have hk10:k < 10:=by
   have:(0:Int)≤k∧(k:Int)≤9:=by simpa [btw] using hb1
   omega
  have HK10:=J hk10
  refine zy63 ?_
  refine zy91 ?_
  (refine w3_act (fun K hK=>?_);go_simp)
  refine (in_any _ _ _ _).mono ?_
  rintro e w1 ⟨rfl,rfl⟩
  rw [hb1]
  refine hK.out _ _ (fun _=>HY0.out) ?_
  clear hK K
  refine zy91 ?_
  (refine w3_act (fun K hK=>?_);go_simp)
  refine (rparts_any k hk10 _).mono ?_
  refine zy59 ?_;intro w1 HY1
  clear hK K
  have HXC:=HY1
  obtain ⟨en,hen⟩:∃ en,en=e.len:=⟨_,rfl⟩
  have HEN:=J hen
  cases hb2:((e.len:Int) == (stmtParts (k:Int):Int))
  ·have hb2n:((e.len:Int) != (stmtParts (k:Int):Int))=true:=by unfold bne;rw [hb2];rfl
   have HR:=J (show X=some ⟨3,E0⟩ by rw [HX.out,hb1,← nat_beq,hb2,Bool.and_false,must_false,ored_some])
   (repeat first|refine qs3 ?_|refine qt3 HY1.out zb32 ?_|refine qp3 HY1.out ?_)
   refine qf3 ?_
   exact zz26
  ·have hb2n:((e.len:Int) != (stmtParts (k:Int):Int))=false:=by unfold bne;rw [hb2];rfl
   have HX2:=J (show X=ored (must st 10 (partName i)) (ored nm (ored D R)) by rw [HX.out,hb1,← nat_beq,hb2,Bool.and_true,must_true,ored_none])
   (repeat first|refine qs3 ?_|refine qt3 HY1.out zb32 ?_|refine qp3 HY1.out ?_)
   refine qf3 ?_
   clear HX hb1 hb2 hb2n hk10 hen
   refine zy6 ?_;intro hDr hmr hhr hlr hcS hhS hgS hlS hhK hgK hlK
   go_wp2_with fail
   refine (placed_any (k:Int) i hi last _).mono ?_
   rintro e w2 ⟨rfl,rfl⟩
   rw [← HST.out]
   cases st
   ·
    have HR:=J (show X=some ⟨10,partName i⟩ by rw [HX2.out,must_false,ored_some])
    go_wp2_with fail
    refine (names_any _).mono ?_
    rintro e2 w3 ⟨rfl,hx3,hbn⟩
    clear hDr hmr hhr hlr hcS hhS hgS hlS hhK hgK hlK
    have hlb:=hbn.lt
    obtain ⟨nb,hnb⟩:∃ nb,nb=w1.heap.size:=⟨_,rfl⟩
    rw [← hnb] at hbn hlb ⊢
    clear hnb
    have hcn:w3.cell? ⟨nb,i,none⟩=some (.string (partName i)):=by
     rw [bC hbn i]
     exact zz93
    have hi5:(i:Int) < 5:=by omega
    have HXC:=J (HXC.out.trans hx3)
    refine zy6 ?_;intro hDr hmr hhr hlr hcS hhS hgS hlS hhK hgK hlK
    clear hx3 hbn
    exact zz64
   ·have HX3:=J (show X=ored nm (ored D R) by rw [HX2.out,must_true,ored_none])
    clear HX2 HST
    go_wp2_with fail
    refine (rnamed_any c p A n kc pl (k:Int) name eA e.len ec low high lA l.len lc xA x.len xc deep HS0.out w.heap.size _ (Nat.le_trans HNW.out HXC.out.size) (HPA.out.ext HXC.out HNW.out) (HSL.out.ext HXC.out)).mono ?_
    rintro e2 w2 ⟨rfl,hx2⟩
    clear hDr hmr hhr hlr hcS hhS hgS hlS hhK hgK hlK
    have HXC:=J (HXC.out.trans hx2)
    clear hx2
    rw [← HKA.out,← HNM.out]
    cases nm with
    | some f =>
     obtain ⟨fe,fn⟩:=f
     have HNF:=J (NZ.out (nz_named _ _ _ _ _ _) HNM.out.symm)
     have HR:=J (show X=some ⟨fe,fn⟩ by rw [HX3.out,ored_some])
     refine zy77 ?_;intro y3 hV
     go_upto_region 6 with (fail)
     exact zz13
    | none =>
     have HX4:=J (show X=ored D R by rw [HX3.out,ored_none])
     clear HX3
     refine zy71 ?_;intro y3 hV
     go_upto_region 6 with (fail)
     generalize (w2.alloc (.cells #[.int .i64 0,.string ⟨#[]⟩] 60))=W3 at y3 hV ⊢
     refine zy9 ?_;clear hV y3 HXC;intro fb HY3 HFB HZ0 K hK
     rintro e2 w4 ⟨rfl,hx4⟩
     refine zy100 ?_;clear hK K hx4;intro HZ1 HXC
     obtain ⟨hn,hf,b,off,hA,hE⟩:=HES.out
     have hm:=hf.max zb85
     have HA:=J hA
     have HE:=J hE
     clear hA hE hn hf
     have HXS:=HXC
     go_wp2_with fail
     go_loopw [12] (fun t12 wr=>∃ (j:Nat) (Q:EF),j+Q.len=e.len∧ored (chkD κ Q) R=X∧t12=.int .i64 j∧EFAt W N Q b (off+j * 4)∧Ext W wr) (fun t12 _=>e.len - (intOf t12).toNat)
     case atStart=>exact ⟨0,e,by rw [Nat.zero_add],by rw [← HDE.out];exact HX4.out.symm,rfl,by simpa using HE.out,HXS.out⟩
     case round =>
      obtain ⟨j,Q,hj,hacc,rfl,hQ,hx⟩:=hrel
      have HXC:=J hx
      have HACC:=J hacc
      have HQ:=J hQ
      clear hx hacc hQ HXS
      refine zy6 ?_;intro hDr hmr hhr hlr hcS hhS hgS hlS hhK hgK hlK
      cases Q with
      | nil =>
       have hjl:j=e.len:=by simpa [EF.len] using hj
       have hjI:(j:Int)=e.len:=by omega
       have HX5:=J (show X=R by rw [← HACC.out];rfl)
       clear HACC
       clear hj hjl
       by_cases hk3:k=3
       ·have q3:((k:Int) == 3)=true:=by simp [hk3]
        have HX6:=J (show X=chkB i (upd κ name 3) (deep+1) false l by rw [HX5.out,HRE.out,if_neg zb85,if_pos zb85])
        have HDL:=J (loop_lt (show loop κ name low high deep=none by have h:=HNM.out;unfold named at h;rw [if_neg zb85,if_pos zb85] at h;exact h.symm)).2.2
        clear HX5 HRE hk3
        go_upto_region 17 with (fail)
        clear hDr hmr hhr hlr hcS hhS hgS hlS hhK hgK hlK
        obtain ⟨hs1,hs2,sb2,so2,hs3,hs4⟩:=HSL.out
        have HSR:=J (show n=pl.length∧n≤60∧∀ w',Ext wr w'→0 < n→∃ b off,A=some ⟨b,off,none⟩∧Row w' b off (rowsL strC pl) from ⟨hs1,by have:=HPN.out;omega,fun w' hk h0=>⟨sb2,so2,hs3 h0,by rw [strC_rows];exact ((hs4 h0).2.ext HXC.out).ext hk⟩⟩)
        have HLP:=J HDL.out
        clear hs1 hs2 hs3 hs4
        apply meet5 (F:=fun W2 v77 v80 v83 g2 c2=>Kept (·=kb) wr W2∧Blk W2 kb 120 (knCells c (some ⟨g2,0,none⟩) (n+1) c2)∧StrSl W2 W2.heap.size (some ⟨g2,0,none⟩) (n+1) (pl ++ [name]))
        case h =>
         intro KEY0
         have KEY:=J KEY0
         clear KEY0
         refine qr4 (fun w1=>Ext wr w1) (.op 1 2 (.op 2 1 (.op 4 2 (.op 5 1 (.fork 0 (.fork 3 (.op 6 0 (.op 7 0 (.op 8 2 (.op 9 0 .nil)))) 6 (.op 3 0 (.op 7 0 (.op 8 2 (.op 9 0 .nil))))) 6 (.op 0 0 (.op 3 0 (.op 7 0 (.op 8 2 (.op 9 0 .nil)))))))))) ?_;refine qrp ?_
         have HY9:=J (show Ext wr wr.drew from (kR _ wr).drew)
         (repeat (first | refine qs4 ?_ | ((apply w4_take);(· exact HY9.out);(· go_simp);(· (intro w1 hS;have d0:=bX HK.out (HXC.out.trans hS);have d1:=bC d0;have d3:=d0.lt;have d4:=bX HS.out (HXC.out.trans hS);have d5:=bC d4;have d6:=d4.lt; go_simp;try with_reducible rfl));refine qnx ?_) | ((apply w4_pass);(· exact HY9.out);(· go_simp);refine qnx ?_)))
         refine w4_fork ?_ ?_
         ·(refine w4_act (fun K hK=>?_);go_simp)
          have y1:Ext wr (wr.alloc (.cells #[] 9)).drew:=((kR _ wr).alloc _).drew
          have q0:Blk (wr.alloc (.cells #[] 9)).drew wr.heap.size 9 #[]:=(bN wr _ _).drew
          have n0:wr.heap.size≤wr.heap.size:=Nat.le_refl _
          refine hK.out _ _ (fun _=>y1) ?_
          clear hK K
          generalize (wr.alloc (.cells #[] 9)).drew=V1 at y1 q0 ⊢
          obtain ⟨u0,hu0⟩:∃ u,u=wr.heap.size:=⟨_,rfl⟩
          rw [← hu0] at q0 ⊢
          have n0:wr.heap.size≤u0:=by omega
          clear hu0
          have own:V1.ownsRow wr.heap.size 9 1 (.slice (some ⟨u0,0,none⟩) 0 0) 0 (rowsL strC []):=⟨by simp [rowsL],.inr ⟨u0,0,#[],rfl,n0,q0,Nat.le_refl _,by unfold maxLen;omega,by simp,by simp [rowsL]⟩⟩
          (repeat refine qs4 ?_)
          refine w4_fork ?_ ?_
          ·obtain ⟨v80,V2,hrun,ho80,hk80,-⟩:=appA (f:=strC) elemStr (fun _=>rfl) (fun _=>rfl) V1 wr.heap.size (.slice (some ⟨u0,0,none⟩) 0 0) 0 [] own A n kc pl HSR.out.1 HAK.out (HSR.out.2.2 V1 y1) (by have:=HSR.out.2.1;omega) y1.size
           have y2:Ext wr V2:=y1.trans' hk80 (fun i hi e=>by have e2:u0=i:=Option.some.inj e;omega)
           refine w4_act (fun K hK=>?_)
           refine zy60 ?_
           refine hK.out _ _ (fun _=>y2) ?_
           clear hK K hrun
           refine zy47 ?_;intro K hK
           have y3:Ext wr (V2.alloc (.cells #[.string name] 9)):=y2.alloc _
           have q6:Blk (V2.alloc (.cells #[.string name] 9)) V2.heap.size 9 #[.string name]:=bN V2 _ _
           have ho80:=own_ext ho80 ((kR (fun _=>False) V2).alloc (.cells #[.string name] 9))
           refine hK.out _ _ (fun _=>y3) ?_
           clear hK K
           generalize (V2.alloc (.cells #[.string name] 9))=V3 at y3 q6 ho80 ⊢
           generalize V2.heap.size=u6 at q6 ⊢
           exact zz102
          ·(refine w4_act (fun K hK=>?_);go_simp)
           have y2:Ext wr (V1.alloc (.cells #[.string name] 9)):=y1.alloc _
           have q6:Blk (V1.alloc (.cells #[.string name] 9)) V1.heap.size 9 #[.string name]:=bN V1 _ _
           have q0:=q0.alloc (.cells #[.string name] 9)
           have own:=own_ext own ((kR (fun _=>False) V1).alloc (.cells #[.string name] 9))
           refine hK.out _ _ (fun _=>y2) ?_
           clear hK K
           generalize (V1.alloc (.cells #[.string name] 9))=V2 at y2 q6 own q0 ⊢
           generalize V1.heap.size=u6 at q6 ⊢
           exact zz9
         ·(refine w4_act (fun K hK=>?_);go_simp)
          have y1:Ext wr (wr.alloc (.cells #[.string name] 9)).drew:=((kR _ wr).alloc _).drew
          have q6:Blk (wr.alloc (.cells #[.string name] 9)).drew wr.heap.size 9 #[.string name]:=(bN wr _ _).drew
          refine hK.out _ _ (fun _=>y1) ?_
          clear hK K
          generalize (wr.alloc (.cells #[.string name] 9)).drew=V1 at y1 q6 ⊢
          obtain ⟨u6,hu6⟩:∃ u,u=wr.heap.size:=⟨_,rfl⟩
          rw [← hu6] at q6 ⊢
          clear hu6
          refine zy47 ?_;intro K hK
          have y2:Ext wr (V1.alloc (.cells #[] 9)):=y1.alloc _
          have q0:Blk (V1.alloc (.cells #[] 9)) V1.heap.size 9 #[]:=bN V1 _ _
          have n0:wr.heap.size≤V1.heap.size:=y1.size
          have q6:=q6.alloc (.cells #[] 9)
          refine hK.out _ _ (fun _=>y2) ?_
          clear hK K
          generalize (V1.alloc (.cells #[] 9))=V2 at y2 q0 q6 ⊢
          generalize V1.heap.size=u0 at q0 n0 ⊢
          have own:V2.ownsRow wr.heap.size 9 1 (.slice (some ⟨u0,0,none⟩) 0 0) 0 (rowsL strC []):=⟨by simp [rowsL],.inr ⟨u0,0,#[],rfl,n0,q0,Nat.le_refl _,by unfold maxLen;omega,by simp,by simp [rowsL]⟩⟩
          exact zz9
        case h2 =>
         rintro W2 v77 v80 v83 g2 c2 ⟨hk9,hb9,hr9⟩
         have HXW:=J (show Ext w W2 from (HX0.out.trans HXC.out).trans' hk9 (fun i hi e=>by have:=HRW.out.2.1;omega))
         have HD9:=J (bK (bX HD.out HXC.out) hk9 HRW.out.2.2.2)
         have HS9:=J (bK (bX HS.out HXC.out) hk9 HRW.out.2.2.1)
         have HR9:=J hr9
         have hcS:=bC HS9.out
         have hlS:=HS9.out.lt
         have hhK:=bH hb9
         have hgK:=bG hb9
         have hlK:=hb9.lt
         have hd7:=HLP.out
         have hwr:IntKind.i64.wrap ((deep:Int)+1)=((deep+1:Nat):Int):=by rw [IntKind.wrap_i64];omega
         clear hk9 hb9 hr9
         go_wp2_with fail
         refine (HBLk.out (deep+1) false (some ⟨g2,0,none⟩) (n+1) c2 (pl ++ [name]) lA l.len lc W2 (HWW.out.trans HXW.out) HR9.out (fun h=>nomatch h) (by rw [List.length_append];have:=HPN.out.1;simp;omega) zb85 HL0.out).mono ?_
         rintro e2 w5 ⟨rfl,hx5⟩
         rw [updAll_snoc,← HKA.out,← HX6.out]
         have hDr:=bX HD9.out hx5
         have hmr:=hDr.melts
         have hhr:=bH hDr
         have hlr:=hDr.lt
         have HX9:=J (HXW.out.trans hx5)
         clear hcS hlS hhK hgK hlK hx5
         cases X with
         | none =>
          go_wp2_with fail
          exact ret_cell Tryz.results94 rfl rfl aggFaultR (by exact sizeFaultR) (Blk.put_ hDr 0 _) ⟨rfl,HX9.out.putAt _ _ _ (fun hlt=>absurd hlt (by have:=HRW.out.1;omega))⟩
         | some f =>
          obtain ⟨fe,fn⟩:=f
          go_wp2_with fail
          exact ret_cell Tryz.results94 rfl rfl aggFaultR (by exact sizeFaultR) (Blk.put_ hDr 0 _) ⟨rfl,HX9.out.putAt _ _ _ (fun hlt=>absurd hlt (by have:=HRW.out.1;omega))⟩
       ·have q3:((k:Int) == 3)=false:=by simp;omega
        by_cases hk2:k=2
        ·have q2:((k:Int) == 2)=true:=by simp [hk2]
         have HX6:=J (show X=ored (chkB i κ deep false l) (chkB i κ deep false x) by rw [HX5.out,HRE.out,if_pos zb85])
         clear HX5 HRE hk2 hk3
         obtain ⟨Z1,hZ1⟩:∃ Z,Z=chkB i κ deep false l:=⟨_,rfl⟩
         obtain ⟨Z2,hZ2⟩:∃ Z,Z=chkB i κ deep false x:=⟨_,rfl⟩
         rw [← hZ1,← hZ2] at HX6
         have HZ1:=J hZ1
         have HZ2:=J hZ2
         clear hZ1 hZ2
         go_wp2_with fail
         refine (HBLk.out deep false A n kc pl lA l.len lc _ (HWZ.out.trans HXC.out) ((HSL.out.ext HXC.out).mono (Nat.le_trans HNW.out HXC.out.size)) HAK.out HPN.out.1 HPN.out.2 HL0.out).mono ?_
         rintro e2 w2 ⟨rfl,hx2⟩
         clear hDr hmr hhr hlr hcS hhS hgS hlS hhK hgK hlK
         have HXC:=J (HXC.out.trans hx2)
         clear hx2
         rw [← HKA.out,← HZ1.out]
         cases Z1 with
         | some f =>
          obtain ⟨fe,fn⟩:=f
          have HNF:=J (NZ.out (nz_chkB _ _ _ _ _) HZ1.out.symm)
          have HR:=J (show X=some ⟨fe,fn⟩ by rw [HX6.out,ored_some])
          refine zy77 ?_;intro y3 hV
          go_upto_region 21 with (fail)
          exact zz13
         | none =>
          have HX7:=J (show X=Z2 by rw [HX6.out,ored_none])
          clear HX6 HZ1
          refine zy71 ?_;intro y3 hV
          go_upto_region 21 with (fail)
          generalize (w2.alloc (.cells #[.int .i64 0,.string ⟨#[]⟩] 60))=W3 at y3 hV ⊢
          refine zy9 ?_;clear hV y3 HXC;intro fb HY3 HFB HZ0 K hK
          rintro e2 w4 ⟨rfl,hx4⟩
          refine zy100 ?_;clear hK K hx4;intro HZ1 HXC
          refine zy6 ?_;intro hDr hmr hhr hlr hcS hhS hgS hlS hhK hgK hlK
          go_wp2_with fail
          refine (HBXk.out deep false A n kc pl xA x.len xc _ (HWZ.out.trans HXC.out) ((HSL.out.ext HXC.out).mono (Nat.le_trans HNW.out HXC.out.size)) HAK.out HPN.out.1 HPN.out.2 HX00.out).mono ?_
          rintro e2 w5 ⟨rfl,hx5⟩
          clear hDr hmr hhr hlr hcS hhS hgS hlS hhK hgK hlK
          have HXC:=J (HXC.out.trans hx5)
          clear hx5
          rw [← HKA.out,← HZ2.out,← HX7.out]
          refine zy6 ?_;intro hDr hmr hhr hlr hcS hhS hgS hlS hhK hgK hlK
          cases X with
          | none =>
           have HR:=J (show (none:Option Flt)=none from rfl)
           exact zz81
          | some f =>
           obtain ⟨fe,fn⟩:=f
           exact zz81
        ·have q2:((k:Int) == 2)=false:=by simp;omega
         have HR:=J (show X=none by rw [HX5.out,HRE.out,if_neg zb85,if_neg zb85])
         clear HX5 HRE hk2 hk3
         go_wp2_with fail
         refine (fine_any _).mono ?_
         rintro e9 w9 ⟨rfl,hx9⟩
         clear hDr hmr hhr hlr hcS hhS hgS hlS hhK hgK hlK
         have HXC:=J (HXC.out.trans hx9)
         refine zy6 ?_;intro hDr hmr hhr hlr hcS hhS hgS hlS hhK hgK hlK
         clear hx9
         exact zz64
      | cons op' m' name' q rr =>
       obtain ⟨hb,h1,h2,h3,⟨A',cap,b',off',hh,hg,hl,hA',hk⟩,hr⟩:=HQ.out
       simp only [EF.len] at hj
       have hlt:(j:Int) < e.len:=by omega
       obtain rfl:=HA.out zb85
       have hbl:=HXC.out.size
       have hNW2:N≤W.heap.size:=Nat.le_trans HNQ.out HNW.out
       have hh':=has_ext HXC.out zb85 hh
       have hg':=gets_ext HXC.out zb85 hg
       have hbw:b < wr.heap.size:=by omega
       have KE:=J (show ESl W N A' q.len q from ⟨rfl,hl,b',off',hA',hk⟩)
       have HR2:=J hr
       have HNV:=J hNW2
       have HH0:=J hh'
       have HG0:=J hg'
       clear hh hg hl hA' hk h1 h2 h3 HQ hbl hr hb hNW2
       go_wp2_with fail
       refine (rdeep_any W q _ _ _ N _ _ _ _ HXC.out HNV.out KE.out).mono ?_
       rintro e3 w5 ⟨rfl,hx5⟩
       clear hDr hmr hhr hlr hcS hhS hgS hlS hhK hgK hlK
       clear hh' hg'
       obtain ⟨d,hd⟩:∃ d,d=w64 (1+q.deep):=⟨_,rfl⟩
       rw [← hd]
       have hacc:=HACC.out
       rw [chkD_cons,← hd] at hacc
       obtain ⟨f,hf⟩:∃ f,f=chk1 κ op' m' name' q:=⟨_,rfl⟩
       rw [← hf] at hacc
       have HF:=J hf
       have HXA:=J (show X=ored (must (decide (d≤12)) 25 E0) (ored f (ored (chkD κ rr) R)) by rw [← hacc,ored_assoc,ored_assoc])
       clear hd hf hacc HACC
       have HH:=J (has_ext hx5 hbw HH0.out)
       have HG:=J (gets_ext hx5 hbw HG0.out)
       have hbw:=Nat.lt_of_lt_of_le hbw hx5.size
       have HXC:=J (HXC.out.trans hx5)
       clear hx5 HH0 HG0
       refine zy6 ?_;intro hDr hmr hhr hlr hcS hhS hgS hlS hhK hgK hlK
       by_cases hd12:d > 12
       ·have HR:=J (show X=some ⟨25,E0⟩ by rw [HXA.out,decide_eq_false zb85,must_false,ored_some])
        exact zz64
       ·have HXB:=J (show X=ored f (ored (chkD κ rr) R) by rw [HXA.out,decide_eq_true zb85,must_true,ored_none])
        clear HXA
        clear hDr hmr hhr hlr hcS hhS hgS hlS hhK hgK hlK
        go_upto_region 13 with (fail)
        clear hd12
        have HIK:=J (rexpr_any c p A n kc pl w.heap.size W HNW.out HPA.out HSL.out q)
        apply meet (F:=fun W2 fb=>Ext w5 W2∧Blk W2 fb 60 (fltC f))
        case h =>
         intro KEY0
         have KEY:=J KEY0
         clear KEY0
         refine qr4 (fun w1=>Ext w5 w1) (.op 0 1 (.op 1 2 (.op 2 1 (.op 3 2 (.op 4 2 (.op 5 1 (.fork 6 (.op 7 0 (.op 8 0 .nil)) 7 (.op 6 0 (.op 8 0 .nil))))))))) ?_;refine qrp ?_
         have HY9:=J (show Ext w5 w5.drew from (kR _ w5).drew)
         (repeat (first | refine qs4 ?_ | ((apply w4_take);(· exact HY9.out);(· go_simp);(· (intro w1 hS;have d0:=bX HK.out (HXC.out.trans hS);have d1:=bG d0;have d2:=bH d0;have d3:=d0.lt;have d4:=bX HS.out (HXC.out.trans hS);have d5:=bC d4;have d6:=d4.lt;have d7:=has_ext hS hbw HH.out;have d8:=gets_ext hS hbw HG.out;have d9:=Nat.lt_of_lt_of_le hbw hS.size; go_simp;try with_reducible rfl));refine qnx ?_) | ((apply w4_pass);(· exact HY9.out);(· go_simp);refine qnx ?_)))
         refine w4_fork ?_ ?_
         ·(refine w4_act (fun K hK=>?_);go_simp)
          refine (HIK.out op' m' name' A' q.len cap N _ (HXC.out.trans HY9.out) HNV.out KE.out).mono ?_
          rintro e4 w1 ⟨rfl,hx1⟩
          rw [← HKA.out,← HF.out]
          have y1:=HY9.out.trans hx1
          refine zy28 ?_;clear hK K;intro W2 y2 hfb
          have hfl:w5.heap.size≤w1.heap.size:=y1.size
          exact zz104
         ·(refine w4_act (fun K hK=>?_);go_simp)
          have y1:Ext w5 (w5.alloc (.cells #[.int .i64 0,.string ⟨#[]⟩] 60)).drew:=((kR _ w5).alloc _).drew
          refine hK.out _ _ (fun _=>y1) ?_
          clear hK K
          generalize hW1:(w5.alloc (.cells #[.int .i64 0,.string ⟨#[]⟩] 60)).drew=W1 at y1 ⊢
          have hfb1:Blk W1 w5.heap.size 60 #[.int .i64 0,.string ⟨#[]⟩]:=by rw [← hW1];exact Blk.drew (bN w5 _ _)
          clear hW1
          have hfl:w5.heap.size≤w5.heap.size:=Nat.le_refl _
          generalize hfbe:(w5.heap.size:Nat)=fb at hfb1 hfl ⊢
          have HFL:=J (show w5.heap.size≤fb by omega)
          clear hfl hfbe
          have HY1:=J y1
          (repeat refine qs4 ?_)
          (repeat (first | refine qs4 ?_ | ((apply w4_take);(· exact HY1.out);(· go_simp);(· (intro w1 hS;have d0:=bX HK.out (HXC.out.trans hS);have d1:=bG d0;have d2:=bH d0;have d3:=d0.lt;have d4:=bX HS.out (HXC.out.trans hS);have d5:=bC d4;have d6:=d4.lt;have d7:=has_ext hS hbw HH.out;have d8:=gets_ext hS hbw HG.out;have d9:=Nat.lt_of_lt_of_le hbw hS.size; go_simp;try with_reducible rfl));refine qnx ?_) | ((apply w4_pass);(· exact HY1.out);(· go_simp);refine qnx ?_)))
          (refine w4_act (fun K hK=>?_);go_simp)
          refine (HIK.out op' m' name' A' q.len cap N _ (HXC.out.trans HY1.out) HNV.out KE.out).mono ?_
          rintro e4 w1 ⟨rfl,hx1⟩
          rw [← HKA.out,← HF.out]
          exact zz103
        case h2 =>
         rintro W2 fb ⟨y2,hfb⟩
         have HFB:=J hfb
         have HY2:=J (HXC.out.trans y2)
         clear hfb y2 HXC
         cases f with
         | none =>
          go_upto_region 14 with (fail)
          refine zy19 ?_;intro HZ0
          refine zy44 ?_
          refine zy88 ?_;intro K hK
          rintro e4 w1 ⟨rfl,hx1⟩
          refine zy55 ?_;clear hK K hx1;intro HZ1
          go_wp2_with fail
          go_roundw
          case rel=>exact ⟨j+1,rr,by omega,by rw [HXB.out,ored_none],by go_num,by rw [Nat.add_mul,← Nat.add_assoc];exact HR2.out,HY2.out.trans HZ1.out⟩
          case measure=>simp only [intOf];omega
         | some f =>
          obtain ⟨fe,fn⟩:=f
          have hnz:=NZ.out (nz_chk1 κ op' m' name' q) HF.out.symm
          have HR:=J (show X=some ⟨fe,fn⟩ by rw [HXB.out,ored_some])
          go_upto_region 14 with (fail)
          refine zy19 ?_;intro HZ0
          refine zy44 ?_
          refine zy88 ?_;intro K hK
          rintro e4 w1 ⟨rfl,hx1⟩
          refine zy55 ?_;clear hK K hx1;intro HZ1
          have HXC:=J (HY2.out.trans HZ1.out)
          exact zz119
open Go.RowKit So Mc
theorem vflat (d:Vr):flatL (vcells d).toList=true:=rfl
set_option maxRecDepth 100000 in
theorem vclone_any (A:Option Addr) (cap N:Nat) (l:List Vr) (n:Nat) (w:World) (hv:VSl w N A n l) (hn2:n≤1000) :
 Calls Tryz.prog 45 #[.slice A n cap] w fun e w'=>∃ A' c',e=.returned (.slice A' n c')∧VSl w' w'.heap.size A' n l∧Ext w w':=by
 obtain ⟨hn,hf,hok,b,off,hA,hE⟩:=hv
 cases A with
 | none =>
  have h0:n=0:=by
   rcases Nat.eq_zero_or_pos n with h | h
   ·exact h
   ·cases hA h
  subst h0
  have heq:=fun w=>Lib.run_eql_slice_nil (P:=Tryz.prog) w 54 109 none 0 cap 0 0 Tryz.underlying54
  simp only [Option.isNone_none] at heq
  have HN:=J hn
  have HF:=J hf
  clear hn hf hA hE
  go_enter Tryz.func45,Tryz.ntmps45
  go_wp2_with fail
  go_ret
  exact ⟨none,0,rfl,⟨HN.out,HF.out,hok,0,0,fun h=>by omega,fun h=>by omega⟩,kR _ _⟩
 | some a =>
  obtain ⟨v2,w2,hr2,ho2,hk2,hg2⟩:=appA (f:=vcells) elemVarS (fun _=>rfl) vflat (w.alloc (.cells #[] 109)) w.heap.size (.slice (some ⟨w.heap.size,0,none⟩) 0 0) 0 [] (own_new w 109 4) (some a) n cap l hn (fun h=>by cases h) (fun h=>⟨b,off,hA h,((hE h).2).ext ((kR _ w).alloc _)⟩) zb85 zb86
  have heq:=fun w=>Lib.run_eql_slice_nil (P:=Tryz.prog) w 54 109 (some a) n cap 0 0 Tryz.underlying54
  simp only [Option.isNone_some] at heq
  have HN:=J hn
  have HF:=J hf
  clear hn hf hA hE
  go_enter Tryz.func45,Tryz.ntmps45
  go_upto_region 3 with (fail)
  go_step
  iterate 2 refine qls ?_
  refine wpList_app rfl (.tmp 5) (.tmp 6) 54 rfl rfl rfl rfl hr2 ?_
  clear hr2
  go_wp2_with fail
  go_ret
  rw [Nat.zero_add,List.nil_append] at ho2
  have hx:Ext w w2:=((kR _ w).alloc _).trans' hk2 (fun i hi e=>by simp [Value.ownBlock] at e;omega)
  by_cases hz:0 < n
  ·obtain ⟨g,c,rfl,hrow,-,-⟩:=own_rows ho2 hz zb84
   exact ⟨_,c,rfl,⟨HN.out,HF.out,hok,g,0,fun _=>rfl,fun _=>⟨hrow.lt,hrow⟩⟩,hx⟩
  ·rcases ho2.2 with ⟨hv,h0⟩ | ⟨g,c,cur,hv,_⟩
   ·subst hv
    have h0:n=0:=by omega
    subst h0
    exact ⟨none,0,rfl,⟨HN.out,HF.out,hok,0,0,fun h=>by omega,fun h=>by omega⟩,hx⟩
   ·subst hv
    exact ⟨_,c,rfl,⟨HN.out,HF.out,hok,0,0,fun h=>absurd h hz,fun h=>absurd h hz⟩,hx⟩
end Go.Proofs.YtbfbabbcdochjaaGreatDoor
