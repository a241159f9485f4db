/- Several texts joined: Ug. -/
import Derived.Test.YtbfbabbcdochjaaGreatDoorRapk
import Derived.Test.YtbfbabbcdochjaaGreatDoorRabk
set_option maxHeartbeats 4000000
namespace Go.Proofs.YtbfbabbcdochjaaGreatDoor
open Go.RowKit So
def Capd (s:Sl3):Prop:=s.n≤s.c∧(s.A=none→s.c=0)
structure Caps (c:Pc):Prop where
 vars:Capd c.vars
 start:Capd c.start
 turn:Capd c.turn
 params:Capd c.params
 play:Capd c.play
 quiet:Capd c.quiet
 pays:Capd c.pays
def slP (c:Pc):Nat→Sl3 | 0=>c.start | 1=>c.turn | 2=>c.play | 3=>c.quiet | _=>c.pays
def plOf (p:Pr):Nat→List Str | 2=>p.params.map Vr.name | 3=>[p.silent] | _=>[]
theorem PAt.part {w:World} {N:Nat} {c:Pc} {p:Pr} (h:PAt w N c p) (i:Nat):SSl w N (slP c i).A (slP c i).n (partOf p i):=by
 unfold slP partOf
 split
 ·exact h.start
 ·exact h.turn
 ·exact h.play
 ·exact h.quiet
 ·rename_i h0 h1 h2 h3
  split
  ·exact absurd rfl h0
  ·exact absurd rfl h1
  ·exact absurd rfl h2
  ·exact absurd rfl h3
  ·exact h.pays
theorem knOf_pl (p:Pr) (i:Nat):knOf p i=updAll (knV p.vars) (plOf p i):=by
 match i with
 | 0=>rfl
 | 1=>rfl
 | 2=>rfl
 | 3=>rfl
 | _+4=>rfl
def from5 (p:Pr) (M:Option Flt) (i:Nat):Option Flt:=(List.range' i (5 - i)).foldr (fun j r=>ored (chkP p j) r) M
theorem from5_lt (p:Pr) (M:Option Flt) (i:Nat) (hi:i < 5):from5 p M i=ored (chkP p i) (from5 p M (i+1)):=by
 exact zz93
theorem rcheck_chain (p:Pr):check p=ored (must (isName p.name) 6 p.name) (ored (must (btw p.seats 2 8) 2 sSeats) (ored (must ((p.stakes.length:Int) == p.seats) 3 sStake) (ored (must (p.stakes.all (fun n=>btw n 1 2147483647)) 2 sStake) (ored (ored (chkVars [] p.vars) (must (decide (cells p.vars≤64)) 8 sVar))
 (ored (ored (must (decide (p.params.length≤4)) 8 sPlay) (ored (chkPars (knV p.vars) [] p.params) (ored (must (decide (menu p.params≤512)) 8 sPlay) (ored (must (isName p.silent) 6 p.silent) (must (knV p.vars p.silent == 0) 7 p.silent))))) (ored (must (decide (w64 (psize p)≤1000)) 5 p.name) (from5 p (ored (must (ends p.turn) 4 sTurn) (must (restLast p.pays) 4 sPay)) 0))))))):=by
 rw [check,chkAhead,chkHead]
 simp only [ored_assoc]
 rfl
theorem nz_chkVars:∀ (l pre:List Vr),NZ (chkVars pre l)
 | [],_=>by rw [chkVars];exact NZ.none
 | v :: r,pre=>by
  rw [chkVars]
  exact NZ.ored (NZ.must (by decide)) (NZ.ored (NZ.must (by decide)) (NZ.ored (NZ.must (by decide)) (nz_chkVars r _)))
theorem nz_chkPars (κ:Kn):∀ (l pre:List Vr),NZ (chkPars κ pre l)
 | [],_=>by rw [chkPars];exact NZ.none
 | v :: r,pre=>by
  rw [chkPars]
  exact NZ.ored (NZ.must (by decide)) (NZ.ored (NZ.must (by decide)) (NZ.ored (NZ.must (by decide)) (NZ.ored (NZ.must (by decide)) (nz_chkPars κ r _))))
theorem owns_str2 {w:World} {base:Nat} {T:TypeId} {A:Option Addr} {n c:Nat} {l:List Str} (ho:w.ownsRow base T 1 (.slice A n c) n (rowsL strC l)) (hn:n=l.length) (h4:n≤100):StrSl w w.heap.size A n l∧(A=none→c=0):=by
 obtain ⟨B,bc,e,hB,hS⟩:=owns_str ho hn h4
 injection e with e1 e2 e3
 subst e1 e3
 refine ⟨hS,fun h=>?_⟩
 rcases ho.2 with ⟨hv,_⟩ | ⟨g,c',cur,hv,_⟩
 ·injection hv
 ·injection hv with q1
  rw [h] at q1
  cases q1
theorem plOf_len (p:Pr) (i:Nat) (h:p.params.length≤4):(plOf p i).length≤40+0:=by
 unfold plOf
 split
 ·rw [List.length_map];omega
 ·simp
 ·simp
theorem StrSl.ext_ {w w':World} {A:Option Addr} {n:Nat} {l:List Str} (h:StrSl w w.heap.size A n l) (hx:Ext w w'):StrSl w' w'.heap.size A n l:=(h.ext hx).mono hx.size
abbrev partCells (c:Pc):Array Value:=#[c.start.v,c.turn.v,c.play.v,c.quiet.v,c.pays.v]
theorem part_cell (c:Pc) (i:Nat) (hi:i < 5):(partCells c)[i]?=some ((slP c i).v):=by
 exact zz93
set_option maxRecDepth 100000 in
theorem rcheck_any (c:Pc) (p:Pr) (N:Nat) (w:World) (hN:N≤w.heap.size) (h:PAt w N c p) (hcap:Caps c):Calls Tryz.prog 23 #[.agg c.cells] w fun e w'=>e=.returned (.agg (fltC (check p)))∧Ext w w':=by
 obtain ⟨X,hX⟩:∃ X,X=check p:=⟨_,rfl⟩
 rw [← hX]
 replace hX:=hX.trans (rcheck_chain p)
 obtain ⟨b0,hb0⟩:∃ b,b=isName p.name:=⟨_,rfl⟩
 obtain ⟨b1,hb1⟩:∃ b,b=btw p.seats 2 8:=⟨_,rfl⟩
 obtain ⟨b2,hb2⟩:∃ b,b=((p.stakes.length:Int) == p.seats):=⟨_,rfl⟩
 obtain ⟨V,hV⟩:∃ V,V=ored (chkVars [] p.vars) (must (decide (cells p.vars≤64)) 8 sVar):=⟨_,rfl⟩
 obtain ⟨P,hP⟩:∃ P,P=ored (must (decide (p.params.length≤4)) 8 sPlay) (ored (chkPars (knV p.vars) [] p.params) (ored (must (decide (menu p.params≤512)) 8 sPlay) (ored (must (isName p.silent) 6 p.silent) (must (knV p.vars p.silent == 0) 7 p.silent)))):=⟨_,rfl⟩
 obtain ⟨b3,hb3⟩:∃ b,b=decide (w64 (psize p)≤1000):=⟨_,rfl⟩
 obtain ⟨b4,hb4⟩:∃ b,b=ends p.turn:=⟨_,rfl⟩
 obtain ⟨b5,hb5⟩:∃ b,b=restLast p.pays:=⟨_,rfl⟩
 obtain ⟨M,hM⟩:∃ M,M=ored (must b4 4 sTurn) (must b5 4 sPay):=⟨_,rfl⟩
 obtain ⟨T,hT⟩:∃ T,T=from5 p M 0:=⟨_,rfl⟩
 obtain ⟨R1,hR1⟩:∃ R,R=ored V (ored P (ored (must b3 5 p.name) T)):=⟨_,rfl⟩
 rw [← hb0,← hb1,← hb2,← hb3,← hb4,← hb5,← hV,← hP,← hM,← hT,← hR1] at hX
 have HNV:=zhd (show NZ V by rw [hV];exact NZ.ored (nz_chkVars _ _) (NZ.must (by decide)))
 have HNP:=zhd (show NZ P by rw [hP];exact NZ.ored (NZ.must (by decide)) (NZ.ored (nz_chkPars _ _ _) (NZ.ored (NZ.must (by decide)) (NZ.ored (NZ.must (by decide)) (NZ.must (by decide))))))
 have HP4:=zhd (show P=none→p.params.length≤4 by
  intro e
  rw [hP,ored_eq_none] at e
  simpa using must_none.1 e.1)
 have HX:=zhd hX
 have HB0:=zhd hb0
 have HB1:=zhd hb1
 have HB2:=zhd hb2
 have HV:=zhd hV
 have HP:=zhd hP
 have HB3:=zhd hb3
 have HB4:=zhd hb4
 have HB5:=zhd hb5
 have HM:=zhd hM
 have HT:=zhd hT
 have HR1:=zhd hR1
 clear hX hb0 hb1 hb2 hb3 hb4 hb5 hV hP hM hT hR1
 have HCP:=zhd hcap
 obtain ⟨cn,cse,⟨kA,kn,kc⟩,⟨vA,vn,vc⟩,cs,⟨tA,tn,tc⟩,⟨A,n,cc⟩,cpl,csi,cq,⟨zA,zn,zc⟩⟩:=c
 obtain rfl:cn=p.name:=h.name
 obtain rfl:csi=p.silent:=h.silent
 obtain rfl:cse=p.seats:=h.seats
 have hx0:=((Kept.refl (fun _=>False) w).alloc (.cells (Pc.cells (⟨p.name,p.seats,⟨kA,kn,kc⟩,⟨vA,vn,vc⟩,cs,⟨tA,tn,tc⟩,⟨A,n,cc⟩,cpl,p.silent,cq,⟨zA,zn,zc⟩⟩:Pc)) 26)).alloc (.cells #[.int .i64 0,.string ⟨#[]⟩] 60)
 have hB:=(Blk.new w 26 (Pc.cells (⟨p.name,p.seats,⟨kA,kn,kc⟩,⟨vA,vn,vc⟩,cs,⟨tA,tn,tc⟩,⟨A,n,cc⟩,cpl,p.silent,cq,⟨zA,zn,zc⟩⟩:Pc))).alloc (.cells #[.int .i64 0,.string ⟨#[]⟩] 60)
 have hD:=Blk.new' (w.alloc (.cells (Pc.cells (⟨p.name,p.seats,⟨kA,kn,kc⟩,⟨vA,vn,vc⟩,cs,⟨tA,tn,tc⟩,⟨A,n,cc⟩,cpl,p.silent,cq,⟨zA,zn,zc⟩⟩:Pc)) 26)) 60 #[.int .i64 0,.string ⟨#[]⟩] (w.heap.size+1) (by simp)
 have HPA:=zhd (h.ext hx0 hN)
 have HNW:=zhd (Nat.le_trans hN hx0.size)
 have HNO:=zhd h.nameOk
 obtain ⟨hn,hf,hok,b,off,hA,hE⟩:=h.stakes.ext hx0
 have hm:=hf.max (by omega)
 have HN:=zhd (show kn=p.stakes.length from hn)
 have HA:=zhd hA
 have HE:=zhd hE
 have HNN:=zhd (show n=p.params.length from h.params.1)
 have hnm:=Fits.max (show Fits n 40 from h.params.2.1) (by omega)
 have hzm:=Fits.max (show Fits zn 112 from h.pays.2.1) (by omega)
 have HZN:=zhd (show zn=p.pays.len from h.pays.1)
 clear hn hA hE hok hf h hcap
 go_enter Tryz.func23,Tryz.ntmps23
 go_upto_region 1 with (fail)
 generalize hW:((w.alloc (.cells (Pc.cells (⟨p.name,p.seats,⟨kA,kn,kc⟩,⟨vA,vn,vc⟩,cs,⟨tA,tn,tc⟩,⟨A,n,cc⟩,cpl,p.silent,cq,⟨zA,zn,zc⟩⟩:Pc)) 26)).alloc (.cells #[.int .i64 0,.string ⟨#[]⟩] 60))=W at hx0 hB hD HE HPA HNW ⊢
 clear hW
 obtain ⟨rb,hrb⟩:∃ rb,rb=w.heap.size+1:=⟨_,rfl⟩
 rw [← hrb] at hD ⊢
 have HRW:=zhd (show w.heap.size≤rb by omega)
 have HD:=zhd hD
 have HX0:=zhd hx0
 have HB:=zhd hB
 clear hD hx0 hrb hB
 generalize w.heap.size=pb at HB ⊢
 have HXC:=zhd (Kept.refl (fun _=>False) W)
 have hDr:=Blk.ext HD.out HXC.out
 have hmr:=hDr.melts
 have hhr:=Blk.has hDr
 have hlr:=hDr.lt
 have hcP:=Blk.cell (Blk.ext HB.out HXC.out)
 have hhP:=Blk.has (Blk.ext HB.out HXC.out)
 have hgP:=Blk.gets (Blk.ext HB.out HXC.out)
 have hlP:=(Blk.ext HB.out HXC.out).lt
 go_wp2_with fail
 refine (risname_any p.name HNO.out _).mono ?_
 rintro e w1 ⟨rfl,hx1⟩
 clear hDr hmr hhr hlr hcP hhP hgP hlP
 have HXC:=zhd (HXC.out.trans hx1)
 clear hx1
 rw [← HB0.out]
 have hDr:=Blk.ext HD.out HXC.out
 have hmr:=hDr.melts
 have hhr:=Blk.has hDr
 have hlr:=hDr.lt
 have hcP:=Blk.cell (Blk.ext HB.out HXC.out)
 have hhP:=Blk.has (Blk.ext HB.out HXC.out)
 have hgP:=Blk.gets (Blk.ext HB.out HXC.out)
 have hlP:=(Blk.ext HB.out HXC.out).lt
 cases b0
 ·have HR:=zhd (show X=some ⟨6,p.name⟩ by rw [HX.out,must_false,ored_some])
  exact zz59
 ·have HX1:=zhd (show X=ored (must b1 2 sSeats) (ored (must b2 3 sStake) (ored (must (p.stakes.all (fun n=>btw n 1 2147483647)) 2 sStake) R1)) by rw [HX.out,must_true,ored_none])
  clear HX
  go_wp2_with fail
  refine (in_any _ _ _ _).mono ?_
  rintro e w2 ⟨rfl,rfl⟩
  rw [← HB1.out]
  cases b1
  ·have HR:=zhd (show X=some ⟨2,sSeats⟩ by rw [HX1.out,must_false,ored_some])
   exact zz59
  ·have HX2:=zhd (show X=ored (must b2 3 sStake) (ored (must (p.stakes.all (fun n=>btw n 1 2147483647)) 2 sStake) R1) by rw [HX1.out,must_true,ored_none])
   clear HX1
   have hb2:((kn:Int) == p.seats)=b2:=by rw [HB2.out,HN.out]
   have hb2n:((kn:Int) != p.seats)=!b2:=by unfold bne;rw [hb2]
   cases b2
   ·have HR:=zhd (show X=some ⟨3,sStake⟩ by rw [HX2.out,must_false,ored_some])
    exact zz59
   ·have HX3:=zhd (show X=ored (must (p.stakes.all (fun n=>btw n 1 2147483647)) 2 sStake) R1 by rw [HX2.out,must_true,ored_none])
    clear HX2 HB0 HB1 HB2
    go_wp2_with fail
    clear hb2 hb2n
    clear hDr hmr hhr hlr hcP hhP hgP hlP
    have HXS:=HXC
    clear HXC
    go_loopw [3] (fun t3 wr=>∃ (j:Nat),j≤kn∧t3=.int .i64 j∧ored (must ((p.stakes.drop j).all (fun n=>btw n 1 2147483647)) 2 sStake) R1=X∧Ext W wr) (fun t3 _=>kn - (intOf t3).toNat)
    case atStart=>exact ⟨0,Nat.zero_le _,rfl,HX3.out.symm,HXS.out⟩
    case round =>
     obtain ⟨j,hj,rfl,hacc,hx⟩:=hrel
     have HXC:=zhd hx
     have HACC:=zhd hacc
     clear hx hacc HXS HX3
     have hDr:=Blk.ext HD.out HXC.out
     have hmr:=hDr.melts
     have hhr:=Blk.has hDr
     have hlr:=hDr.lt
     have hcP:=Blk.cell (Blk.ext HB.out HXC.out)
     have hhP:=Blk.has (Blk.ext HB.out HXC.out)
     have hgP:=Blk.gets (Blk.ext HB.out HXC.out)
     have hlP:=(Blk.ext HB.out HXC.out).lt
     by_cases hlt:j < kn
     ·have hjl:j < p.stakes.length:=by have:=HN.out;omega
      have hltI:(j:Int) < kn:=by omega
      obtain rfl:=HA.out (by omega)
      have hrow:=(HE.out (by omega)).2.ext HXC.out
      have hci:=int_at hrow j hjl
      have hbw:=hrow.lt
      obtain ⟨x,hxe⟩:∃ x,x=p.stakes[j]:=⟨_,rfl⟩
      have hdrop:p.stakes.drop j=x :: p.stakes.drop (j+1):=by rw [hxe];exact List.drop_eq_getElem_cons hjl
      rw [← hxe] at hci
      have hacc:=HACC.out
      rw [hdrop,List.all_cons] at hacc
      have HACC:=zhd hacc
      clear hrow hxe hdrop hacc
      go_wp2_with fail
      refine (in_any _ _ _ _).mono ?_
      rintro e w2 ⟨rfl,rfl⟩
      obtain ⟨q,hq⟩:∃ q,q=btw x 1 2147483647:=⟨_,rfl⟩
      rw [← hq] at HACC ⊢
      clear hq
      cases q
      ·have HR:=zhd (show X=some ⟨2,sStake⟩ by rw [← HACC.out,Bool.false_and,must_false,ored_some])
       exact zz59
      ·have HA2:=zhd HACC.out
       go_wp2_with fail
       exact ⟨⟨j+1,hlt,by go_num,by rw [Bool.true_and] at HA2;exact HA2.out,HXC.out⟩,by simp only [intOf];omega⟩
     ·obtain rfl:j=kn:=by omega
      have HX4:=zhd (show X=ored V (ored P (ored (must b3 5 p.name) T)) by rw [← HR1.out,← HACC.out,HN.out,List.drop_length,List.all_nil,must_true,ored_none])
      clear HACC HR1 hlt hj
      go_wp2_with fail
      refine (rvars_any p.vars vA vn vc N _ HCP.out.vars.1 (Nat.le_trans HNW.out HXC.out.size) (HPA.out.ext HXC.out HNW.out).vars).mono ?_
      rintro e w2 ⟨rfl,hx2⟩
      clear hDr hmr hhr hlr hcP hhP hgP hlP
      have HXC:=zhd (HXC.out.trans hx2)
      clear hx2
      rw [← HV.out]
      cases V with
      | some f =>
       obtain ⟨fe,fn⟩:=f
       have HNF:=zhd (NZ.out HNV.out rfl)
       have HR:=zhd (show X=some ⟨fe,fn⟩ by rw [HX4.out,ored_some])
       have y3:=(Kept.refl (fun _=>False) w2).alloc (.cells #[.int .i64 fe,.string fn] 60)
       have hV:=Blk.new w2 60 #[.int .i64 fe,.string fn]
       go_upto_region 13 with (fail)
       exact zz14
      | none =>
       have HX5:=zhd (show X=ored P (ored (must b3 5 p.name) T) by rw [HX4.out,ored_none])
       clear HX4 HV HNV
       have y3:=(Kept.refl (fun _=>False) w2).alloc (.cells #[.int .i64 0,.string ⟨#[]⟩] 60)
       have hV:=Blk.new w2 60 #[.int .i64 0,.string ⟨#[]⟩]
       go_upto_region 13 with (fail)
       generalize (w2.alloc (.cells #[.int .i64 0,.string ⟨#[]⟩] 60))=W3 at y3 hV ⊢
       generalize w2.heap.size=fb at hV ⊢
       have HY3:=zhd (HXC.out.trans y3)
       have HFB:=zhd hV
       clear y3 hV HXC
       refine qr3 (fun w1=>Ext W3 w1) [(0,1),(1,0),(2,2)] ?_;refine qrl ?_
       have HZ0:=zhd (show Ext W3 W3.drew from (Kept.refl _ W3).drew)
       (repeat (first | refine qs3 ?_ | ((apply w3_take);(· exact HZ0.out);(· go_simp);(· (intro w1 hS;have d0:=Blk.ext HFB.out hS;have d1:=Blk.gets d0;have d2:=Blk.has d0;have d3:=d0.lt; go_simp;try with_reducible rfl));refine qnx ?_) | ((apply w3_pass);(· exact HZ0.out);(· go_simp);refine qnx ?_)))
       (refine w3_act (fun K hK=>?_);go_simp)
       refine (fine_any _).mono ?_
       rintro e2 w4 ⟨rfl,hx4⟩
       have HZ1:=zhd (HZ0.out.trans hx4)
       refine hK.out _ _ (fun _=>HZ1.out) ?_
       clear hK K hx4
       refine qf3 ?_
       have HXC:=zhd (HY3.out.trans HZ1.out)
       clear HY3 HZ0 HZ1 HFB
       have hDr:=Blk.ext HD.out HXC.out
       have hmr:=hDr.melts
       have hhr:=Blk.has hDr
       have hlr:=hDr.lt
       have hcP:=Blk.cell (Blk.ext HB.out HXC.out)
       have hhP:=Blk.has (Blk.ext HB.out HXC.out)
       have hgP:=Blk.gets (Blk.ext HB.out HXC.out)
       have hlP:=(Blk.ext HB.out HXC.out).lt
       go_wp2_with fail
       refine (rpars_any (⟨p.name,p.seats,⟨kA,j,kc⟩,⟨vA,vn,vc⟩,cs,⟨tA,tn,tc⟩,⟨A,n,cc⟩,cpl,p.silent,cq,⟨zA,zn,zc⟩⟩:Pc) p N _ (Nat.le_trans HNW.out HXC.out.size) (HPA.out.ext HXC.out HNW.out) HCP.out.params.1).mono ?_
       rintro e w2 ⟨rfl,hx2⟩
       clear hDr hmr hhr hlr hcP hhP hgP hlP
       have HXC:=zhd (HXC.out.trans hx2)
       clear hx2
       rw [← HP.out]
       cases P with
       | some f =>
        obtain ⟨fe,fn⟩:=f
        have HNF:=zhd (NZ.out HNP.out rfl)
        have HR:=zhd (show X=some ⟨fe,fn⟩ by rw [HX5.out,ored_some])
        have y3:=(Kept.refl (fun _=>False) w2).alloc (.cells #[.int .i64 fe,.string fn] 60)
        have hV:=Blk.new w2 60 #[.int .i64 fe,.string fn]
        go_upto_region 16 with (fail)
        exact zz14
       | none =>
        have HX6:=zhd (show X=ored (must b3 5 p.name) T by rw [HX5.out,ored_none])
        have HP5:=zhd (show n≤4 by have:=HP4.out rfl;have:=HNN.out;omega)
        clear HX5 HP HNP HP4
        have y3:=(Kept.refl (fun _=>False) w2).alloc (.cells #[.int .i64 0,.string ⟨#[]⟩] 60)
        have hV:=Blk.new w2 60 #[.int .i64 0,.string ⟨#[]⟩]
        go_upto_region 16 with (fail)
        generalize (w2.alloc (.cells #[.int .i64 0,.string ⟨#[]⟩] 60))=W3 at y3 hV ⊢
        generalize w2.heap.size=fb at hV ⊢
        have HY3:=zhd (HXC.out.trans y3)
        have HFB:=zhd hV
        clear y3 hV HXC
        refine qr3 (fun w1=>Ext W3 w1) [(0,1),(1,0),(2,2)] ?_;refine qrl ?_
        have HZ0:=zhd (show Ext W3 W3.drew from (Kept.refl _ W3).drew)
        (repeat (first | refine qs3 ?_ | ((apply w3_take);(· exact HZ0.out);(· go_simp);(· (intro w1 hS;have d0:=Blk.ext HFB.out hS;have d1:=Blk.gets d0;have d2:=Blk.has d0;have d3:=d0.lt; go_simp;try with_reducible rfl));refine qnx ?_) | ((apply w3_pass);(· exact HZ0.out);(· go_simp);refine qnx ?_)))
        (refine w3_act (fun K hK=>?_);go_simp)
        refine (fine_any _).mono ?_
        rintro e2 w4 ⟨rfl,hx4⟩
        have HZ1:=zhd (HZ0.out.trans hx4)
        refine hK.out _ _ (fun _=>HZ1.out) ?_
        clear hK K hx4
        refine qf3 ?_
        have HXC:=zhd (HY3.out.trans HZ1.out)
        clear HY3 HZ0 HZ1 HFB
        have hDr:=Blk.ext HD.out HXC.out
        have hmr:=hDr.melts
        have hhr:=Blk.has hDr
        have hlr:=hDr.lt
        have hcP:=Blk.cell (Blk.ext HB.out HXC.out)
        have hhP:=Blk.has (Blk.ext HB.out HXC.out)
        have hgP:=Blk.gets (Blk.ext HB.out HXC.out)
        have hlP:=(Blk.ext HB.out HXC.out).lt
        go_wp2_with fail
        refine (rsize_any (⟨p.name,p.seats,⟨kA,j,kc⟩,⟨vA,vn,vc⟩,cs,⟨tA,tn,tc⟩,⟨A,n,cc⟩,cpl,p.silent,cq,⟨zA,zn,zc⟩⟩:Pc) p N _ (Nat.le_trans HNW.out HXC.out.size) (HPA.out.ext HXC.out HNW.out)).mono ?_
        rintro e w2 ⟨rfl,hx2⟩
        clear hDr hmr hhr hlr hcP hhP hgP hlP
        have HXC:=zhd (HXC.out.trans hx2)
        clear hx2
        obtain ⟨sz,hsz⟩:∃ sz,sz=w64 (psize p):=⟨_,rfl⟩
        rw [← hsz] at HB3 ⊢
        have hDr:=Blk.ext HD.out HXC.out
        have hmr:=hDr.melts
        have hhr:=Blk.has hDr
        have hlr:=hDr.lt
        have hcP:=Blk.cell (Blk.ext HB.out HXC.out)
        have hhP:=Blk.has (Blk.ext HB.out HXC.out)
        have hgP:=Blk.gets (Blk.ext HB.out HXC.out)
        have hlP:=(Blk.ext HB.out HXC.out).lt
        by_cases h1000:sz > 1000
        ·have HR:=zhd (show X=some ⟨5,p.name⟩ by rw [HX6.out,HB3.out,decide_eq_false (by omega),must_false,ored_some])
         exact zz59
        ·have HX7:=zhd (show X=T by rw [HX6.out,HB3.out,decide_eq_true (by omega),must_true,ored_none])
         clear HX6 HB3 hsz
         obtain ⟨-,-,-,pb2,po2,hA2,hE2⟩:=HPA.out.params
         have HA2:=zhd hA2
         have HE2:=zhd hE2
         clear hA2 hE2
         go_wp2_with fail
         have y0:=(Kept.refl (fun _=>False) w2).alloc (.cells (partCells (⟨p.name,p.seats,⟨kA,j,kc⟩,⟨vA,vn,vc⟩,cs,⟨tA,tn,tc⟩,⟨A,n,cc⟩,cpl,p.silent,cq,⟨zA,zn,zc⟩⟩:Pc)) 24)
         have hab:=Blk.new w2 24 (partCells (⟨p.name,p.seats,⟨kA,j,kc⟩,⟨vA,vn,vc⟩,cs,⟨tA,tn,tc⟩,⟨A,n,cc⟩,cpl,p.silent,cq,⟨zA,zn,zc⟩⟩:Pc))
         clear hDr hmr hhr hlr hcP hhP hgP hlP
         generalize hW5:(w2.alloc (.cells (partCells (⟨p.name,p.seats,⟨kA,j,kc⟩,⟨vA,vn,vc⟩,cs,⟨tA,tn,tc⟩,⟨A,n,cc⟩,cpl,p.silent,cq,⟨zA,zn,zc⟩⟩:Pc)) 24))=W5 at y0 hab ⊢
         generalize w2.heap.size=ab at hab ⊢
         have HAB:=zhd hab
         have HXS:=zhd (HXC.out.trans y0)
         clear hW5 hab y0 HXC h1000
         go_loopw [7] (fun t7 wr=>∃ (i:Nat),i≤5∧t7=.int .i64 i∧from5 p M i=X∧Ext W5 wr) (fun t7 _=>5 - (intOf t7).toNat)
         case atStart=>exact ⟨0,by omega,rfl,by rw [← HT.out];exact HX7.out.symm,Kept.refl _ _⟩
         case round =>
          obtain ⟨i,hi5,rfl,hacc,hx⟩:=hrel
          have HXW:=zhd hx
          have HXC:=zhd (HXS.out.trans hx)
          have HACC:=zhd hacc
          clear hx hacc
          by_cases hlt:i < 5
          ·have hltI:(i:Int) < 5:=by omega
           have HLT:=zhd hlt
           have HAW:=zhd (Blk.ext HAB.out HXW.out)
           obtain ⟨kb,hkb⟩:∃ kb,kb=wr.heap.size:=⟨_,rfl⟩
           have y1:=(Kept.refl (fun _=>False) wr).alloc (.cells (knCells (⟨p.name,p.seats,⟨kA,j,kc⟩,⟨vA,vn,vc⟩,cs,⟨tA,tn,tc⟩,⟨A,n,cc⟩,cpl,p.silent,cq,⟨zA,zn,zc⟩⟩:Pc) none 0 0) 120)
           have hkB:=Blk.new wr 120 (knCells (⟨p.name,p.seats,⟨kA,j,kc⟩,⟨vA,vn,vc⟩,cs,⟨tA,tn,tc⟩,⟨A,n,cc⟩,cpl,p.silent,cq,⟨zA,zn,zc⟩⟩:Pc) none 0 0)
           rw [← hkb] at hkB
           have hDr:=Blk.ext HD.out HXC.out
           have hmr:=hDr.melts
           have hhr:=Blk.has hDr
           have hlr:=hDr.lt
           have hcP:=Blk.cell (Blk.ext HB.out HXC.out)
           have hhP:=Blk.has (Blk.ext HB.out HXC.out)
           have hgP:=Blk.gets (Blk.ext HB.out HXC.out)
           have hlP:=(Blk.ext HB.out HXC.out).lt
           go_wp2_with fail
           clear hDr hmr hhr hlr hcP hhP hgP hlP
           try rw [← hkb]
           generalize hW6:(wr.alloc (.cells (knCells (⟨p.name,p.seats,⟨kA,j,kc⟩,⟨vA,vn,vc⟩,cs,⟨tA,tn,tc⟩,⟨A,n,cc⟩,cpl,p.silent,cq,⟨zA,zn,zc⟩⟩:Pc) none 0 0) 120))=W6 at y1 hkB ⊢
           have HY1:=zhd y1
           have HKB:=zhd hkB
           have HKE:=zhd hkb
           clear hW6 y1 hkB hkb
           go_loopw [9] (fun t9 wq=>∃ (q:Nat) (B:Option Addr) (bc:Nat),q≤n∧(¬ i=2→q=0)∧t9=.int .i64 q∧Blk wq kb 120 (knCells (⟨p.name,p.seats,⟨kA,j,kc⟩,⟨vA,vn,vc⟩,cs,⟨tA,tn,tc⟩,⟨A,n,cc⟩,cpl,p.silent,cq,⟨zA,zn,zc⟩⟩:Pc) B q bc)∧wq.ownsRow (kb+1) 9 1 (.slice B q bc) q (rowsL strC ((p.params.map Vr.name).take q))∧Ext wr wq) (fun t9 _=>n - (intOf t9).toNat)
           case atStart=>exact ⟨0,none,0,Nat.zero_le _,fun _=>rfl,rfl,HKB.out,World.ownsRow_nil _ _ _ _,HY1.out⟩
           case round =>
            obtain ⟨q,B,bc,hq,hq2,rfl,hkq,how,hx⟩:=hrel
            have HKQ:=zhd hkq
            have HOW:=zhd how
            have HXQ:=zhd hx
            have HXB:=zhd (HXC.out.trans hx)
            have HQ2:=zhd hq2
            clear hkq how hx hq2
            have hcP:=Blk.cell (Blk.ext HB.out HXB.out)
            have hlP:=(Blk.ext HB.out HXB.out).lt
            by_cases hqn:q < n
            ·have hqI:(q:Int) < n:=by omega
             by_cases hi2:i=2
             ·have hi2b:((i:Int) == 2)=true:=by simp [hi2]
              have HI2:=zhd hi2
              clear hi2
              have hql:q < p.params.length:=by have:=HNN.out;omega
              obtain rfl:=HA2.out (by omega)
              have hrow:=((HE2.out (by omega)).2.ext HXB.out)
              obtain ⟨hh',hg'⟩:=vr_at hrow q hql
              have hbw:=hrow.lt
              obtain ⟨x,hxe⟩:∃ x,x=p.params[q]:=⟨_,rfl⟩
              rw [← hxe] at hg'
              have htk:(p.params.map Vr.name).take (q+1)=(p.params.map Vr.name).take q ++ [x.name]:=by
               rw [List.take_add_one,List.getElem?_map,List.getElem?_eq_getElem hql,hxe]
               rfl
              have HTK:=zhd htk
              have HH:=zhd hh'
              have HG:=zhd hg'
              have HOL:=zhd (show ¬ kb < pb2∧¬ kb < pb∧pb2 < wr.heap.size∧pb < wr.heap.size∧kb < wr.heap.size from ⟨by
               have h1:=(HE2.out (by omega)).1
               have h2:=HNW.out
               have h3:=HXC.out.size
               have h4:=HKE.out
               omega,by
               have h1:=(Blk.ext HB.out HXC.out).lt
               have h4:=HKE.out
               omega,hbw,hlP,HKQ.out.lt⟩)
              clear hrow hxe htk hh' hg' hbw
              go_upto_region 28 with (fail)
              clear hcP hlP
              refine qr3 (fun w1=>Kept (fun g=>kb < g) wr w1) [(0,2),(1,1),(2,2),(3,1),(4,2),(5,2),(6,2),(7,1),(8,0),(9,0),(10,2),(11,0)] ?_;refine qrl ?_
              have HZ0:=zhd (show Kept (fun g=>kb < g) wr wr.drew from (Kept.refl _ wr).drew)
              (repeat (first | refine qs3 ?_ | ((apply w3_take);(· exact HZ0.out);(· go_simp);(· (intro w1 hS;have d0:=Blk.kept HKQ.out hS (Nat.lt_irrefl _);have d1:=Blk.cell d0;have d3:=d0.lt;have d4:=Blk.kept (Blk.ext HB.out HXB.out) hS HOL.out.2.1;have d5:=Blk.cell d4;have d6:=d4.lt;have d7:=(has_keep hS HOL.out.2.2.1 HOL.out.1).trans HH.out;have d8:=(gets_keep hS HOL.out.2.2.1 HOL.out.1).trans HG.out;have d9:=Nat.lt_of_lt_of_le HOL.out.2.2.1 hS.size;have d10:w1.cell? ⟨pb2,po2+q * 4,none⟩=some (.string x.name):=cell_gets0 d7 d8 (by omega); go_simp;try with_reducible rfl));refine qnx ?_) | ((apply w3_pass);(· exact HZ0.out);(· go_simp);refine qnx ?_)))
              (refine w3_act (fun K hK=>?_);go_simp)
              have y1:Kept (fun g=>kb < g) wr (wr.alloc (.cells #[.string x.name] 9)).drew:=((Kept.refl _ wr).alloc _).drew
              have q6:Blk (wr.alloc (.cells #[.string x.name] 9)).drew wr.heap.size 9 #[.string x.name]:=(Blk.new wr _ _).drew
              have own:=own_ext HOW.out (show Ext wr (wr.alloc (.cells #[.string x.name] 9)).drew from ((Kept.refl _ wr).alloc _).drew)
              refine hK.out _ _ (fun _=>y1) ?_
              clear hK K
              generalize (wr.alloc (.cells #[.string x.name] 9)).drew=V3 at y1 q6 own ⊢
              obtain ⟨u6,hu6⟩:∃ u,u=wr.heap.size:=⟨_,rfl⟩
              rw [← hu6] at q6 ⊢
              obtain ⟨v',V4,hrun,ho',hk',-⟩:=appR (f:=strC) elemStr (fun _=>rfl) (fun _=>rfl) V3 (kb+1) (.slice B q bc) q ((p.params.map Vr.name).take q) own u6 0 1 1 [x.name] rfl (Row.of_blk q6) (by have:=HP5.out;omega) (by have:=HOL.out.2.2.2.2;have:=y1.size;omega)
              have y4:Kept (fun g=>kb < g) wr V4:=y1.trans (hk'.mono (fun i _ e=>by have:=(own.lt i e).1;omega))
              refine w3_act (fun K hK=>?_)
              refine iff_want rfl ?_
              refine Lib.wp_append_run _ _ _ _ _ rfl _ _ rfl rfl _ _ hrun ?_
              refine hK.out _ _ (fun _=>y4) ?_
              clear hK K hrun
              have hkB:=Blk.kept HKQ.out y4 (Nat.lt_irrefl _)
              have hcK:=Blk.cell hkB
              have hzK:=Blk.frozen hkB
              have hlK:=hkB.lt
              rw [← HTK.out] at ho'
              obtain ⟨g2,c2,rfl,hrow2,hg2,-⟩:=own_rows ho' (by omega) (by omega)
              refine qf3 ?_
              have hk9:Kept (fun g=>kb≤g) wr (V4.setCell ⟨kb,11,none⟩ (.slice (some ⟨g2,0,none⟩) (q+1) c2)):=(y4.mono (fun i _ h=>Nat.le_of_lt h)).setCell _ _ (fun _=>Nat.le_refl _)
              have hb9:Blk (V4.setCell ⟨kb,11,none⟩ (.slice (some ⟨g2,0,none⟩) (q+1) c2)) kb 120 (knCells (⟨p.name,p.seats,⟨kA,j,kc⟩,⟨vA,vn,vc⟩,cs,⟨tA,tn,tc⟩,⟨some ⟨pb2,po2,none⟩,n,cc⟩,cpl,p.silent,cq,⟨zA,zn,zc⟩⟩:Pc) (some ⟨g2,0,none⟩) (q+1) c2):=by
               have q:=Blk.set_ hkB 11 (.slice (some ⟨g2,0,none⟩) (q+1) c2)
               exact q
              have ho9:=own_kept ho' ((Kept.refl (·=kb) V4).setCell ⟨kb,11,none⟩ (.slice (some ⟨g2,0,none⟩) (q+1) c2) (fun _=>rfl)) (fun g e=>by
               have e2:g2=g:=Option.some.inj e
               omega)
              generalize V4.setCell ⟨kb,11,none⟩ (.slice (some ⟨g2,0,none⟩) (q+1) c2)=V9 at hk9 hb9 ho9 ⊢
              have HX9:=zhd (HXQ.out.trans' hk9 (fun i hi q=>by have:=HKE.out;omega))
              clear hcK hzK hlK hkB
              go_wp2_with fail
              go_roundw
              case rel=>exact ⟨q+1,some ⟨g2,0,none⟩,c2,hqn,fun h=>absurd HI2.out h,by go_num,hb9,ho9,HX9.out⟩
              case measure=>simp only [intOf];omega
             ·have hi2b:((i:Int) == 2)=false:=by simp;omega
              have HPL:=zhd (show ¬ i=3→(p.params.map Vr.name).take q=plOf p i from fun h3=>by
               rw [HQ2.out hi2]
               rcases (by omega:i=0 ∨ i=1 ∨ i=4) with rfl | rfl | rfl <;> rfl)
              exact zz1
            ·have HPL:=zhd (show ¬ i=3→(p.params.map Vr.name).take q=plOf p i from fun h3=>by
              by_cases hi2:i=2
              ·subst hi2
               exact List.take_of_length_le (by rw [List.length_map];have:=HNN.out;omega)
              ·rw [HQ2.out hi2]
               rcases (by omega:i=0 ∨ i=1 ∨ i=4) with rfl | rfl | rfl <;> rfl)
             exact zz1
          ·obtain rfl:i=5:=by omega
           have HX8:=zhd (show X=M by rw [← HACC.out];rfl)
           have hDr:=Blk.ext HD.out HXC.out
           have hmr:=hDr.melts
           have hhr:=Blk.has hDr
           have hlr:=hDr.lt
           have hcP:=Blk.cell (Blk.ext HB.out HXC.out)
           have hhP:=Blk.has (Blk.ext HB.out HXC.out)
           have hgP:=Blk.gets (Blk.ext HB.out HXC.out)
           have hlP:=(Blk.ext HB.out HXC.out).lt
           go_wp2_with fail
           refine (rends_any wr p.turn tA tn tc N wr (Kept.refl _ _) (Nat.le_trans HNW.out HXC.out.size) (HPA.out.ext HXC.out HNW.out).turn).mono ?_
           rintro e w3 ⟨rfl,hx3⟩
           clear hDr hmr hhr hlr hcP hhP hgP hlP
           have HXC:=zhd (HXC.out.trans hx3)
           clear hx3
           rw [← HB4.out]
           have hDr:=Blk.ext HD.out HXC.out
           have hmr:=hDr.melts
           have hhr:=Blk.has hDr
           have hlr:=hDr.lt
           have hcP:=Blk.cell (Blk.ext HB.out HXC.out)
           have hhP:=Blk.has (Blk.ext HB.out HXC.out)
           have hgP:=Blk.gets (Blk.ext HB.out HXC.out)
           have hlP:=(Blk.ext HB.out HXC.out).lt
           cases b4
           ·have HR:=zhd (show X=some ⟨4,sTurn⟩ by rw [HX8.out,HM.out,must_false,ored_some])
            exact zz59
           ·have HX9:=zhd (show X=must b5 4 sPay by rw [HX8.out,HM.out,must_true,ored_none])
            clear HX8 HM
            obtain ⟨-,-,b9,o9,hA9,hE9⟩:=(HPA.out.ext HXC.out HNW.out).pays
            cases zn with
            | zero =>
             have HR:=zhd (show X=some ⟨4,sPay⟩ by
              have:p.pays=.nil:=by
               have hz:=HZN.out
               cases hq:p.pays with
               | nil=>rfl
               | cons=>rw [hq] at hz;simp [SF.len] at hz
              rw [HX9.out,show b5=false by rw [HB5.out,this];rfl,must_false])
             clear hA9 hE9
             exact zz59
            | succ m =>
             obtain ⟨k,hk,hrl,hbN⟩:=rest_at hE9 (by rw [← HZN.out];exact Nat.succ_pos m)
             obtain rfl:=hA9 (Nat.succ_pos m)
             rw [← HZN.out] at hk
             have hbw:=Nat.lt_of_lt_of_le hbN (Nat.le_trans HNW.out HXC.out.size)
             simp only [Nat.add_sub_cancel] at hk
             have hi1:(m:Int) < ((m:Int)+1):=by omega
             have hi0:(0:Int) < (m:Int)+1:=by omega
             have HRL:=zhd hrl
             clear hrl hE9 hbN
             cases hq:(k == 9)
             ·have HR:=zhd (show X=some ⟨4,sPay⟩ by rw [HX9.out,show b5=false by rw [HB5.out,HRL.out,hq],must_false])
              have hqn:(k != 9)=true:=by unfold bne;rw [hq];rfl
              exact zz59
             ·have HR:=zhd (show X=none by rw [HX9.out,show b5=true by rw [HB5.out,HRL.out,hq],must_true])
              have hqn:(k != 9)=false:=by unfold bne;rw [hq];rfl
              go_wp2_with fail
              refine (fine_any _).mono ?_
              rintro e w4 ⟨rfl,hx4⟩
              clear hDr hmr hhr hlr hcP hhP hgP hlP
              clear hk hbw
              have HXC:=zhd (HXC.out.trans hx4)
              have hDr:=Blk.ext HD.out HXC.out
              have hmr:=hDr.melts
              have hhr:=Blk.has hDr
              have hlr:=hDr.lt
              have hcP:=Blk.cell (Blk.ext HB.out HXC.out)
              have hhP:=Blk.has (Blk.ext HB.out HXC.out)
              have hgP:=Blk.gets (Blk.ext HB.out HXC.out)
              have hlP:=(Blk.ext HB.out HXC.out).lt
              clear hx4
              exact zz59
end Go.Proofs.YtbfbabbcdochjaaGreatDoor
