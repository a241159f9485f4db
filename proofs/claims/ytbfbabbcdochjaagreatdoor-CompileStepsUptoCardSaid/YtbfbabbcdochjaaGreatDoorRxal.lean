/- Several texts joined: Qzf, Qzg, Qzh, Qzi, Qzj. -/
import Derived.Test.YtbfbabbcdochjaaGreatDoorRxpk
import Derived.Test.YtbfbabbcdochjaaGreatDoorRxak
set_option maxHeartbeats 4000000
namespace Go.Proofs.YtbfbabbcdochjaaGreatDoor
open Go.RowKit So
theorem int_at {w:World} {b off:Nat} {l:List Int} (h:Row w b off (l.map (Value.int .i64))) (j:Nat) (hj:j < l.length):w.cell? ⟨b,off+j,none⟩=some (.int .i64 l[j]):=by
 rw [h.cell j (by simpa using hj)]
 simp [hj]
set_option maxRecDepth 100000 in
theorem head_any (ck:Value) (c:Pc) (p:Pr) (N:Nat) (w:World) (_hN:N≤w.heap.size) (h:PAt w N c p) (hL:LaidAt w):Calls Tryz.prog 72 #[ck,.agg c.cells] w fun e w'=>MustR (chkHead p) e∧Ext w w':=by
 obtain ⟨X,hX⟩:∃ X,X=chkHead p:=⟨_,rfl⟩
 rw [← hX]
 have HX2:Hid (X=ored (must (isName p.name) 6 p.name) (ored (must (btw p.seats 2 8) 2 sSeats) (ored (must ((p.stakes.length:Int) == p.seats) 3 sStake) (must (p.stakes.all (fun n=>btw n 1 2147483647)) 2 sStake)))):=J (by rw [hX];rfl)
 clear hX
 have hx1:=(kR (fun _=>False) w).alloc (.cells c.cells 57)
 have hE1:=bN w 57 c.cells
 obtain ⟨hsl,hsf,hso,sb,so,hsA,hsR⟩:=h.stakes
 have hsm:=hsf.max zb85
 have HSL:=J hsl
 have HSA:=J hsA
 have HSR:=J hsR
 have HNM:=J (And.intro h.name h.nameOk)
 have HST:=J h.seats
 clear hsl hsf hso hsA hsR h
 go_enter Tryz.func72,Tryz.ntmps72
 go_upto_region 1 with (fail)
 generalize hW:(w.alloc (.cells c.cells 57))=W at hx1 hE1 ⊢
 generalize w.heap.size=eb at hE1 ⊢
 clear hW
 have hE0:=J hE1
 have HX0:=J hx1
 have HLW:=J (hL.ext hx1)
 clear hE1 hx1 hL
 refine qr3 (fun w1=>Ext W w1) [(0,2),(1,1),(3,2),(4,1),(2,0),(5,0)] ?_;refine qrl ?_
 refine zy72 ?_;intro HY0
 refine zy17 ?_
 (refine w3_act (fun K hK=>?_);go_simp)
 rw [HNM.out.1]
 refine (sisname_any p.name HNM.out.2 _ (HLW.out.ext HY0.out)).mono ?_
 refine zy59 ?_;intro w1 HY1
 clear hK K
 (repeat first|refine qs3 ?_|refine qt3 HY1.out zb31 ?_|refine qp3 HY1.out ?_)
 (refine w3_last zb83 zb83 (fun K hK=>?_);go_simp)
 have HX:=J (HX0.out.trans HY1.out)
 cases hn:isName p.name
 ·have HR:=J (show X=some ⟨6,p.name⟩ by rw [HX2.out,hn];rfl)
  exact zz87
 ·have HX3:=J (show X=ored (must (btw p.seats 2 8) 2 sSeats) (ored (must ((p.stakes.length:Int) == p.seats) 3 sStake) (must (p.stakes.all (fun n=>btw n 1 2147483647)) 2 sStake)) by rw [HX2.out,hn];rfl)
  clear HX2 hn
  refine (must_any true _ _ _).mono ?_
  rintro e w1 ⟨he,rfl⟩
  have he:=MustR.none he
  subst he
  refine hK.out _ _ ?_
  clear hK K
  refine qf3 ?_
  have hcE:=bC (bX hE0.out HY1.out)
  have hlE:=(bX hE0.out HY1.out).lt
  go_wp2_with fail
  rw [HST.out]
  refine (between_any _ _ _ _).mono ?_
  rintro e w2 ⟨rfl,rfl⟩
  cases hb:btw p.seats 2 8
  ·have HR:=J (show X=some ⟨2,sSeats⟩ by rw [HX3.out,hb];rfl)
   go_wp2_with fail
   exact zz87
  ·have HX4:=J (show X=ored (must ((c.stakes.n:Int) == c.seats) 3 sStake) (must (p.stakes.all (fun n=>btw n 1 2147483647)) 2 sStake) by rw [HX3.out,hb,HSL.out,HST.out];rfl)
   clear HX3 hb
   go_wp2_with fail
   refine (must_any true _ _ _).mono ?_
   rintro e w2 ⟨he,rfl⟩
   have he:=MustR.none he
   subst he
   go_wp2_with fail
   cases hq:((c.stakes.n:Int) == c.seats)
   ·have HR:=J (show X=some ⟨3,sStake⟩ by rw [HX4.out,hq];rfl)
    exact zz87
   ·obtain ⟨A0,hA0⟩:∃ A0,A0=p.stakes.all (fun n=>btw n 1 2147483647):=⟨_,rfl⟩
    have HX5:=J (show X=must A0 2 sStake by rw [HX4.out,hq,hA0];rfl)
    have HA0:=J hA0
    clear HX4 hA0
    refine (must_any true _ _ _).mono ?_
    rintro e w2 ⟨he,rfl⟩
    have he:=MustR.none he
    subst he
    clear hq
    go_wp2_with fail
    go_loopw [26] (fun t26 wr=>∃ (j:Nat),j≤c.stakes.n∧t26=.int .i64 j∧(p.stakes.drop j).all (fun n=>btw n 1 2147483647)=A0∧Ext w wr) (fun t26 _=>c.stakes.n - (intOf t26).toNat)
    case atStart=>exact ⟨0,Nat.zero_le _,rfl,HA0.out.symm,HX.out⟩
    case round =>
     obtain ⟨j,hj,rfl,hacc,hx⟩:=hrel
     have HACC:=J hacc
     have HX:=J hx
     clear hacc hx hcE hlE
     by_cases hlt:j < c.stakes.n
     ·have hjl:j < p.stakes.length:=by have:=HSL.out;omega
      have hltI:(j:Int) < c.stakes.n:=by omega
      have hsA:=HSA.out zb85
      have hrow:=(HSR.out zb85).2.kept HX.out (fun f=>f)
      have hc:=int_at hrow j hjl
      have hbw:=hrow.lt
      obtain ⟨x,hxe⟩:∃ x,x=p.stakes[j]:=⟨_,rfl⟩
      rw [← hxe] at hc
      have HNX:=J (show (btw x 1 2147483647 && (p.stakes.drop (j+1)).all (fun n=>btw n 1 2147483647))=A0 by
       rw [← HACC.out,List.drop_eq_getElem_cons hjl,List.all_cons,hxe])
      clear hrow hxe
      go_wp2_with fail
      refine (between_any _ _ _ _).mono ?_
      rintro e w2 ⟨rfl,rfl⟩
      cases hb:btw x 1 2147483647
      ·have HR:=J (show X=some ⟨2,sStake⟩ by rw [HX5.out,← HNX.out,hb];rfl)
       go_wp2_with fail
       exact zz87
      ·have HNX:=J (show (p.stakes.drop (j+1)).all (fun n=>btw n 1 2147483647)=A0 by rw [← HNX.out,hb];rfl)
       clear hb hc
       go_wp2_with fail
       refine (must_any true _ _ _).mono ?_
       rintro e w2 ⟨he,rfl⟩
       have he:=MustR.none he
       subst he
       go_wp2_with fail
       go_roundw
       case rel =>
        rw [hsA]
        exact ⟨_,_,_,_,_,_,_,_,_,⟨j+1,hlt,by go_num,HNX.out,HX.out⟩,rfl⟩
       case measure=>simp [intOf];omega
     ·obtain rfl:j=c.stakes.n:=by omega
      go_wp2_with fail
      go_end0
      rw [HX5.out,← HACC.out,HSL.out,List.drop_length]
      exact ⟨rfl,HX.out⟩
open Go.RowKit So
set_option maxRecDepth 100000 in
theorem catch_idle (p:Addr) (w:World) :
 CallsD Tryz.prog 71 #[.pointer (some p)] .returning w fun e u' w'=>e=.returned (.tuple #[])∧u'=.returning∧Ext w w':=by
 refine callsD_of_wpS Tryz.func71 rfl fun c₀ cs hu=>?_
 apply wpS_seq
 apply wpS_region
 simp [wpOpsS,go_sem,recoverD,hu,Tryz.ntmps71,Exit.thenS]
 refine wpS_of_wp ?_
 go_wp2_with fail
 cases c₀
 simp_all [bodyPostS,results,Tryz.results71]
 exact kR _ _
set_option maxRecDepth 100000 in
theorem catch_panicking (rb:Nat) (f:Flt) (w:World) (hb:Blk w rb 104 #[.int .i64 0,.string ⟨#[]⟩]) :
 CallsD Tryz.prog 71 #[.pointer (some ⟨rb,0,none⟩)] (.panicking (thr f)) w fun e u' w' =>
  e=.returned (.tuple #[])∧settle u'=.returning∧Blk w' rb 104 #[.int .i64 f.e,.string f.name]∧Kept (·=rb) w w':=by
 refine callsD_of_wpS Tryz.func71 rfl fun c₀ cs hu=>?_
 unfold thr at hu
 apply wpS_seq
 apply wpS_region
 simp [wpOpsS,go_sem,recoverD,hu,Tryz.ntmps71,Exit.thenS]
 refine wpS_of_wp ?_
 obtain ⟨v,hv⟩:∃ v,v=(Value.iface 104 (.agg #[.int .i64 f.e,.string f.name])):=⟨_,rfl⟩
 rw [← hv]
 have e1:(#[Value.pointer (some ⟨rb,0,none⟩)] ++ ((Array.replicate 15 undef).setIfInBounds 3 v).setIfInBounds 0 v)=#[Value.pointer (some ⟨rb,0,none⟩),v,undef,undef,v,undef,undef,undef,undef,undef,undef,undef,undef,undef,undef,undef]:=rfl
 rw [e1,hv]
 clear e1 hv v
 have hcb:=bC hb
 have hlb:=hb.lt
 have hta:∀ (v:Value) (w:World),(Instr.typeAssert (.iface 104 v) 20 104 true).run Tryz.prog w=.ok (.tuple #[v,.bool true]) w:=fun v w=>by rfl
 have hzb:=Blk.frozen hb
 go_wp2_with fail
 have HB:=J (show Blk (((w.setCell ⟨rb,0,none⟩ (.int .i64 f.e)).setCell ⟨rb,1,none⟩ (.string f.name)).alloc (.cells #[.int .i64 f.e,.string f.name] 104)) rb 104 #[.int .i64 f.e,.string f.name]∧Kept (·=rb) w (((w.setCell ⟨rb,0,none⟩ (.int .i64 f.e)).setCell ⟨rb,1,none⟩ (.string f.name)).alloc (.cells #[.int .i64 f.e,.string f.name] 104)) from
  ⟨((hb.set_ 0 (.int .i64 f.e)).set_ 1 (.string f.name)).alloc _,(((kR (·=rb) w).setCell ⟨rb,0,none⟩ _ (fun _=>rfl)).setCell ⟨rb,1,none⟩ _ (fun _=>rfl)).alloc _⟩)
 generalize (((w.setCell ⟨rb,0,none⟩ (.int .i64 f.e)).setCell ⟨rb,1,none⟩ (.string f.name)).alloc (.cells #[.int .i64 f.e,.string f.name] 104))=W2 at HB ⊢
 clear hzb hcb hta
 cases c₀
 simp [bodyPostS,results,Tryz.results71,settle] at hu ⊢
 exact HB.out
open Go.RowKit So
theorem u64_w (x:Int):IntKind.u64.wrap x=x % 18446744073709551616:=by simp [IntKind.wrap_u64]
theorem u64_sub (a b:Int) (ha:i64ok a) (hb:i64ok b) (h:b≤a):IntKind.u64.wrap (IntKind.u64.wrap a - IntKind.u64.wrap b)=a - b:=by
 rw [u64_w,u64_w,u64_w]
 unfold i64ok at ha hb
 omega
theorem menu_step (acc:Nat) (d:Int) (h:acc≤513) (hd:0≤d):min (IntKind.u64.wrap ((acc:Int) * IntKind.u64.wrap (min d 512+1))) 513=min ((acc:Int) * (min d 512+1)) 513:=by
 have h1:0≤min d 512+1:=by omega
 have h2:min d 512+1≤513:=by omega
 obtain ⟨k,hk⟩:∃ k:Nat,(k:Int)=min d 512+1:=⟨(min d 512+1).toNat,by omega⟩
 rw [← hk] at h1 h2 ⊢
 have h3:acc * k≤513 * 513:=Nat.mul_le_mul h zb85
 have h4:((acc * k:Nat):Int)=(acc:Int) * k:=by push_cast;rfl
 have h5:IntKind.u64.wrap (k:Int)=k:=by rw [u64_w];omega
 rw [h5,← h4,u64_w]
 congr 1
 omega
set_option maxRecDepth 100000 in
theorem smenu_any (c:Pc) (p:Pr) (N:Nat) (w:World) (_hN:N≤w.heap.size) (h:PAt w N c p):Calls Tryz.prog 123 #[.agg c.cells] w fun e w'=>e=.returned (.int .i64 (menu p.params))∧Ext w w':=by
 obtain ⟨X,hX⟩:∃ X,X=menu p.params:=⟨_,rfl⟩
 rw [← hX]
 have HXM:=J hX
 clear hX
 obtain ⟨cn,cse,cst,cv,cs,ct,⟨A,n,cc⟩,cpl,csi,cq,cpy⟩:=c
 have hx0:=(kR (fun _=>False) w).alloc (.cells (Pc.cells ⟨cn,cse,cst,cv,cs,ct,⟨A,n,cc⟩,cpl,csi,cq,cpy⟩) 57)
 have hB0:=J (bN w 57 (Pc.cells ⟨cn,cse,cst,cv,cs,ct,⟨A,n,cc⟩,cpl,csi,cq,cpy⟩))
 obtain ⟨hn,hf,hok,b,off,hA,hE⟩:=h.params.ext hx0
 refine zy25 ?_;intro hm HN HA HE
 have HX0:=J hx0
 have HOK:=J hok
 clear hn hA hE hok hf h
 go_enter Tryz.func123,Tryz.ntmps123
 go_wp2_with fail
 go_loopw [12] (fun t12 wr=>∃ (j:Nat),j≤n∧t12=.int .i64 j∧(p.params.take j).any (fun v=>decide (v.high < v.low))=false∧Ext (w.alloc (.cells (Pc.cells ⟨cn,cse,cst,cv,cs,ct,⟨A,n,cc⟩,cpl,csi,cq,cpy⟩) 57)) wr) (fun t12 _=>n - (intOf t12).toNat)
 case atStart=>exact ⟨0,Nat.zero_le _,rfl,rfl,kR _ _⟩
 case round =>
  obtain ⟨j,hj,rfl,hacc,hx⟩:=hrel
  have HX:=J hx
  have HACC:=J hacc
  clear hx hacc
  by_cases hlt:j < n
  ·have hjl:j < p.params.length:=by have:=HN.out;omega
   have hltI:(j:Int) < n:=by omega
   obtain rfl:=HA.out zb85
   refine zy70 ?_;intro hrow hh' hg' hbw
   obtain ⟨x,hxe⟩:∃ x,x=p.params[j]:=⟨_,rfl⟩
   rw [← hxe] at hg'
   have HXE:=J hxe
   clear hrow hxe
   have y0:=J (show Ext wr _ from (kR (fun _=>False) wr).alloc (.cells (vcells x) 109))
   exact zz29
  ·obtain rfl:j=n:=by omega
   have hany:p.params.any (fun v=>decide (v.high < v.low))=false:=by
    have h:=HACC.out
    rwa [HN.out,List.take_length] at h
   have HM:=J (show menuF 1 p.params=X by rw [HXM.out];unfold menu;rw [hany];rfl)
   have HAN:=J hany
   clear hany
   have hcB:=bC (bX hB0.out HX.out)
   have hlB:=(bX hB0.out HX.out).lt
   go_wp2_with fail
   go_loopw [5,25] (fun t5 t25 wq=>∃ (m:Nat) (acc:Nat),m≤j∧acc≤513∧t25=.int .i64 m∧t5=.int .u64 acc∧menuF acc (p.params.drop m)=X∧Ext wr wq) (fun _ t25 _=>j - (intOf t25).toNat)
   case atStart=>exact ⟨0,1,Nat.zero_le _,by omega,rfl,rfl,HM.out,kR _ _⟩
   case round =>
    obtain ⟨m,acc,hmj,hacc5,rfl,rfl,hmf,hy⟩:=hrel
    have HY:=J hy
    have HMF:=J hmf
    clear hy hmf hcB hlB
    by_cases hlt2:m < j
    ·have hjl:m < p.params.length:=by have:=HN.out;omega
     have hltI:(m:Int) < j:=by omega
     obtain rfl:=HA.out zb85
     have hrow:=(HE.out zb85).2.ext (HX.out.trans HY.out)
     obtain ⟨hh',hg'⟩:=vr_at hrow m hjl
     have hbw:=hrow.lt
     obtain ⟨x,hxe⟩:∃ x,x=p.params[m]:=⟨_,rfl⟩
     rw [← hxe] at hg'
     have HXE:=J hxe
     clear hrow hxe
     obtain ⟨xn,xs,xl,xh⟩:=x
     go_wp2_with fail
     have hvm:(⟨xn,xs,xl,xh⟩:Vr) ∈ p.params:=by rw [HXE.out];exact List.getElem_mem hjl
     have hvo:=HOK.out _ hvm
     have hge:xl≤xh:=by
      refine Int.not_lt.1 fun h=>?_
      have:=List.any_eq_false.1 HAN.out _ hvm
      exact this (decide_eq_true h)
     have hne:p.params.drop m=⟨xn,xs,xl,xh⟩ :: p.params.drop (m+1):=by rw [HXE.out];exact List.drop_eq_getElem_cons hjl
     have hsub:=u64_sub xh xl zb38 (by have:=hvo;first | exact hvo.low | exact hvo.2.2.1 | exact hvo.2.1) hge
     rw [hsub,menu_step acc (xh - xl) hacc5 zb85]
     obtain ⟨k,hk⟩:∃ k:Nat,(k:Int)=min ((acc:Int) * (min (xh - xl) 512+1)) 513:=by
      have:0≤(acc:Int) * (min (xh - xl) 512+1):=Int.mul_nonneg zb85 zb85
      exact ⟨(min ((acc:Int) * (min (xh - xl) 512+1)) 513).toNat,by omega⟩
     have hmf2:=HMF.out
     rw [hne] at hmf2
     exact ⟨⟨m+1,k,hlt2,by omega,by go_num,by rw [hk],by rw [hk];exact hmf2,HY.out.trans ((kR (fun _=>False) _).alloc _)⟩,by simp only [intOf];omega⟩
    ·obtain rfl:m=j:=by omega
     go_wp2_with fail
     go_ret
     refine ⟨ret_int ?_,HX0.out.trans (HX.out.trans HY.out)⟩
     rw [← HMF.out,HN.out,List.drop_length]
     simp [menuF]
open Go.RowKit So
abbrev REndC (w0:World) (F:SF):Prop:=∀ (A:Option Addr) (n c N:Nat) (w:World),Ext w0 w→N≤w0.heap.size→SSl w0 N A n F→Calls Tryz.prog 55 #[.slice A n c] w fun e w'=>e=.returned (.bool (ends F))∧Ext w w'
set_option maxRecDepth 100000 in
theorem rends_any (w0:World) (F:SF):REndC w0 F:=by
 refine sf_ind (C:=REndC w0) ?_ F
 clear F
 intro F IH A n c N w hx0 hN h
 obtain ⟨Z,hZ⟩:∃ Z,Z=ends F:=⟨_,rfl⟩
 rw [← hZ]
 have HZ:=J hZ.symm
 clear hZ
 refine zy111 ?_;clear h IH;intro b off hm HN HA HE HI
 go_enter Tryz.func55,Tryz.ntmps55
 go_wp2_with fail
 go_loopw [3] (fun t7 wr=>∃ (j:Nat) (R:SF),j+R.len=n∧ends R=Z∧t7=.int .i64 j∧SFAt w0 N R b (off+j * 7)∧SF.All (REndC w0) R∧Ext w wr) (fun t7 _=>n - (intOf t7).toNat)
 case atStart=>exact ⟨0,F,by rw [HN.out,Nat.zero_add],HZ.out,rfl,by simpa using HE.out,HI.out,kR _ _⟩
 case round =>
  obtain ⟨j,R,hj,hacc,rfl,hR,hI,hx⟩:=hrel
  have HR:=J hR
  have HI2:=J hI
  have HX:=J hx
  have HACC:=J hacc
  clear hR hI hx hacc
  cases R with
  | nil =>
   simp only [SF.len,Nat.add_zero] at hj
   subst hj
   go_wp2_with fail
   go_ret
   exact ⟨by rw [← HACC.out];rfl,HX.out⟩
  | cons kind name es low high l x r =>
   obtain ⟨hb,h1,h2,h3,h4,⟨eA,ec,lA,lc,xA,xc,be,oe,bl,ol,bx,ox,hh,hg,n1,n2,n3,a1,a2,a3,he,hl,hxx⟩,hr⟩:=HR.out
   simp only [SF.len] at hj
   have hlt:(j:Int) < n:=by omega
   obtain rfl:=HA.out zb85
   have hx0r:=hx0.trans HX.out
   refine zy21 ?_;intro hbl hh' hg' hbw
   refine zy33 ?_;intro KL KX
   have HR2:=J hr
   have y0:=(kR (fun _=>False) wr).alloc (.cells (scells kind name eA es.len ec low high lA l.len lc xA x.len xc) 86)
   have HB:=J (bN wr 86 (scells kind name eA es.len ec low high lA l.len lc xA x.len xc))
   exact zz11
open Go.RowKit So
set_option maxRecDepth 100000 in
theorem rmenu_any (c:Pc) (p:Pr) (N:Nat) (w:World) (_hN:N≤w.heap.size) (h:PAt w N c p):Calls Tryz.prog 93 #[.agg c.cells] w fun e w'=>e=.returned (.int .i64 (menu p.params))∧Ext w w':=by
 obtain ⟨X,hX⟩:∃ X,X=menu p.params:=⟨_,rfl⟩
 rw [← hX]
 have HXM:=J hX
 clear hX
 obtain ⟨cn,cse,cst,cv,cs,ct,⟨A,n,cc⟩,cpl,csi,cq,cpy⟩:=c
 have hx0:=(kR (fun _=>False) w).alloc (.cells (Pc.cells ⟨cn,cse,cst,cv,cs,ct,⟨A,n,cc⟩,cpl,csi,cq,cpy⟩) 26)
 have hB0:=J (bN w 26 (Pc.cells ⟨cn,cse,cst,cv,cs,ct,⟨A,n,cc⟩,cpl,csi,cq,cpy⟩))
 obtain ⟨hn,hf,hok,b,off,hA,hE⟩:=h.params.ext hx0
 refine zy25 ?_;intro hm HN HA HE
 have HX0:=J hx0
 have HOK:=J hok
 clear hn hA hE hok hf h hx0
 go_enter Tryz.func93,Tryz.ntmps93
 go_upto_region 1 with (fail)
 generalize hW:(w.alloc (.cells (Pc.cells ⟨cn,cse,cst,cv,cs,ct,⟨A,n,cc⟩,cpl,csi,cq,cpy⟩) 26))=W at hB0 HE HX0 ⊢
 clear hW
 generalize w.heap.size=pb at hB0 ⊢
 go_wp2_with fail
 go_loopw [4] (fun t12 wr=>∃ (j:Nat),j≤n∧t12=.int .i64 j∧(p.params.take j).any (fun v=>decide (v.high < v.low))=false∧Ext W wr) (fun t12 _=>n - (intOf t12).toNat)
 case atStart=>exact ⟨0,Nat.zero_le _,rfl,rfl,kR _ _⟩
 case round =>
  obtain ⟨j,hj,rfl,hacc,hx⟩:=hrel
  have HX:=J hx
  have HACC:=J hacc
  clear hx hacc
  have hcB:=bC (bX hB0.out HX.out)
  have hlB:=(bX hB0.out HX.out).lt
  by_cases hlt:j < n
  ·have hjl:j < p.params.length:=by have:=HN.out;omega
   have hltI:(j:Int) < n:=by omega
   obtain rfl:=HA.out zb85
   refine zy70 ?_;intro hrow hh' hg' hbw
   obtain ⟨x,hxe⟩:∃ x,x=p.params[j]:=⟨_,rfl⟩
   rw [← hxe] at hg'
   have HXE:=J hxe
   clear hrow hxe
   have y0:=J (show Ext wr _ from (kR (fun _=>False) wr).alloc (.cells (vcells x) 66))
   exact zz29
  ·obtain rfl:j=n:=by omega
   have hany:p.params.any (fun v=>decide (v.high < v.low))=false:=by
    have h:=HACC.out
    rwa [HN.out,List.take_length] at h
   have HM:=J (show menuF 1 p.params=X by rw [HXM.out];unfold menu;rw [hany];rfl)
   have HAN:=J hany
   clear hany
   go_wp2_with fail
   go_loopw [3,6] (fun t5 t25 wq=>∃ (m:Nat) (acc:Nat),m≤j∧(1≤acc∧acc≤513)∧t25=.int .i64 m∧t5=.int .i64 acc∧menuF acc (p.params.drop m)=X∧Ext wr wq) (fun _ t25 _=>j - (intOf t25).toNat)
   case atStart=>exact ⟨0,1,Nat.zero_le _,by omega,rfl,rfl,HM.out,kR _ _⟩
   case round =>
    obtain ⟨m,acc,hmj,hacc5,rfl,rfl,hmf,hy⟩:=hrel
    have HY:=J hy
    have HMF:=J hmf
    clear hy hmf hcB hlB
    have hcB:=bC (bX hB0.out (HX.out.trans HY.out))
    have hlB:=(bX hB0.out (HX.out.trans HY.out)).lt
    by_cases hlt2:m < j
    ·have hjl:m < p.params.length:=by have:=HN.out;omega
     have hltI:(m:Int) < j:=by omega
     obtain rfl:=HA.out zb85
     have hrow:=(HE.out zb85).2.ext (HX.out.trans HY.out)
     obtain ⟨hh',hg'⟩:=vr_at hrow m hjl
     have hbw:=hrow.lt
     obtain ⟨x,hxe⟩:∃ x,x=p.params[m]:=⟨_,rfl⟩
     rw [← hxe] at hg'
     have HXE:=J hxe
     clear hrow hxe
     obtain ⟨xn,xs,xl,xh⟩:=x
     have hvm:(⟨xn,xs,xl,xh⟩:Vr) ∈ p.params:=by rw [HXE.out];exact List.getElem_mem hjl
     have hvo:=HOK.out _ hvm
     have hge:xl≤xh:=by
      refine Int.not_lt.1 fun h=>?_
      have:=List.any_eq_false.1 HAN.out _ hvm
      exact this (decide_eq_true h)
     have hne:p.params.drop m=⟨xn,xs,xl,xh⟩ :: p.params.drop (m+1):=by rw [HXE.out];exact List.drop_eq_getElem_cons hjl
     have HSUB:=J (u64_sub xh xl zb38 (by have:=hvo;first | exact hvo.low | exact hvo.2.2.1 | exact hvo.2.1) hge)
     have hmf2:=HMF.out
     rw [hne] at hmf2
     have HM2:=J (show menuF (min ((acc:Int) * (min (xh - xl) 512+1)) 513) (p.params.drop (m+1))=X from hmf2)
     have HGE:=J hge
     clear hmf2 hne hvo hvm hge
     go_wp2_with fail
     ·rename_i h6
      rw [HSUB.out] at h6
      have hm2:=HM2.out
      rw [show min (xh - xl) 512=512 by omega,show min ((acc:Int) * (512+1)) 513=((513:Nat):Int) by omega] at hm2
      exact ⟨⟨m+1,513,hlt2,⟨by omega,by omega⟩,by go_num,rfl,hm2,HY.out.trans ((kR (fun _=>False) _).alloc _)⟩,by simp only [intOf];omega⟩
     ·rename_i h6
      rw [HSUB.out] at h6
      have hge:=HGE.out
      have hw:∀ x:Int,-9223372036854775808≤x→x≤9223372036854775807→wrap64 x=x:=fun x a b=>by unfold wrap64;omega
      obtain ⟨d,hd⟩:∃ d:Nat,(d:Int)=xh - xl:=⟨(xh - xl).toNat,by omega⟩
      have hm2:=HM2.out
      rw [← hd] at h6 hm2 ⊢
      have h3:acc * (d+1)≤513 * 601:=Nat.mul_le_mul hacc5.2 zb85
      have h4:((acc * (d+1):Nat):Int)=(acc:Int) * ((d:Int)+1):=by push_cast;rfl
      have h7:1 * (d+1)≤acc * (d+1):=Nat.mul_le_mul_right _ hacc5.1
      have h8:min ((acc:Int) * (min (d:Int) 512+1)) 513=((min (acc * (d+1)) 513:Nat):Int):=by
       by_cases h9:d≤512
       ·rw [show min (d:Int) 512=d by omega,← h4];omega
       ·rw [show min (d:Int) 512=512 by omega];omega
      rw [h8] at hm2
      rw [hw d zb85 zb85,hw ((d:Int)+1) zb85 zb85,← h4,hw _ zb85 zb85]
      exact ⟨⟨m+1,min (acc * (d+1)) 513,hlt2,⟨by omega,by omega⟩,by go_num,by congr 1;omega,hm2,HY.out.trans ((kR (fun _=>False) _).alloc _)⟩,by simp only [intOf];omega⟩
    ·obtain rfl:m=j:=by omega
     go_wp2_with fail
     go_ret
     refine ⟨ret_int ?_,HX0.out.trans (HX.out.trans HY.out)⟩
     rw [← HMF.out,HN.out,List.drop_length]
     simp [menuF]
end Go.Proofs.YtbfbabbcdochjaaGreatDoor
