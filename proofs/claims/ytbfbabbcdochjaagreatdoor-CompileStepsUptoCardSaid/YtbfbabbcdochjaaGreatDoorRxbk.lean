/- Several texts joined: Ug, Jn. -/
import Derived.Test.YtbfbabbcdochjaaGreatDoorRxpk
import Derived.Test.YtbfbabbcdochjaaGreatDoorRxan
import Derived.Test.YtbfbabbcdochjaaGreatDoorRxbi
import Derived.Test.YtbfbabbcdochjaaGreatDoorRxbj
set_option maxHeartbeats 4000000
namespace Go.Proofs.YtbfbabbcdochjaaGreatDoor
open Go.RowKit So
def Capd (s:Sl3):Prop:=s.n≤s.c∧(s.A=none→s.c=0)
structure Caps (c:Pc):Prop where
 vars:Capd c.vars
 start:Capd c.start
 turn:Capd c.turn
 params:Capd c.params
 play:Capd c.play
 quiet:Capd c.quiet
 pays:Capd c.pays
def slP (c:Pc):Nat→Sl3 | 0=>c.start | 1=>c.turn | 2=>c.play | 3=>c.quiet | _=>c.pays
def plOf (p:Pr):Nat→List Str | 2=>p.params.map Vr.name | 3=>[p.silent] | _=>[]
theorem PAt.part {w:World} {N:Nat} {c:Pc} {p:Pr} (h:PAt w N c p) (i:Nat):SSl w N (slP c i).A (slP c i).n (partOf p i):=by
 unfold slP partOf
 split
 ·exact h.start
 ·exact h.turn
 ·exact h.play
 ·exact h.quiet
 ·rename_i h0 h1 h2 h3
  split
  ·exact absurd rfl h0
  ·exact absurd rfl h1
  ·exact absurd rfl h2
  ·exact absurd rfl h3
  ·exact h.pays
theorem knOf_pl (p:Pr) (i:Nat):knOf p i=updAll (knV p.vars) (plOf p i):=by
 match i with
 | 0=>rfl
 | 1=>rfl
 | 2=>rfl
 | 3=>rfl
 | _+4=>rfl
def from5 (p:Pr) (M:Option Flt) (i:Nat):Option Flt:=(List.range' i (5 - i)).foldr (fun j r=>ored (chkP p j) r) M
theorem from5_lt (p:Pr) (M:Option Flt) (i:Nat) (hi:i < 5):from5 p M i=ored (chkP p i) (from5 p M (i+1)):=by
 exact zz93
theorem rcheck_chain (p:Pr):check p=ored (must (isName p.name) 6 p.name) (ored (must (btw p.seats 2 8) 2 sSeats) (ored (must ((p.stakes.length:Int) == p.seats) 3 sStake) (ored (must (p.stakes.all (fun n=>btw n 1 2147483647)) 2 sStake) (ored (ored (chkVars [] p.vars) (must (decide (cells p.vars≤64)) 8 sVar))
 (ored (ored (must (decide (p.params.length≤4)) 8 sPlay) (ored (chkPars (knV p.vars) [] p.params) (ored (must (decide (menu p.params≤512)) 8 sPlay) (ored (must (isName p.silent) 6 p.silent) (must (knV p.vars p.silent == 0) 7 p.silent))))) (ored (must (decide (w64 (psize p)≤1000)) 5 p.name) (from5 p (ored (must (ends p.turn) 4 sTurn) (must (restLast p.pays) 4 sPay)) 0))))))):=by
 rw [check,chkAhead,chkHead]
 simp only [ored_assoc]
 rfl
theorem nz_chkVars:∀ (l pre:List Vr),NZ (chkVars pre l)
 | [],_=>by rw [chkVars];exact NZ.none
 | v :: r,pre=>by
  rw [chkVars]
  exact NZ.ored (NZ.must zb84) (NZ.ored (NZ.must zb84) (NZ.ored (NZ.must zb84) (nz_chkVars r _)))
theorem nz_chkPars (κ:Kn):∀ (l pre:List Vr),NZ (chkPars κ pre l)
 | [],_=>by rw [chkPars];exact NZ.none
 | v :: r,pre=>by
  rw [chkPars]
  exact NZ.ored (NZ.must zb84) (NZ.ored (NZ.must zb84) (NZ.ored (NZ.must zb84) (NZ.ored (NZ.must zb84) (nz_chkPars κ r _))))
theorem owns_str2 {w:World} {base:Nat} {T:TypeId} {A:Option Addr} {n c:Nat} {l:List Str} (ho:w.ownsRow base T 1 (.slice A n c) n (rowsL strC l)) (hn:n=l.length) (h4:n≤100):StrSl w w.heap.size A n l∧(A=none→c=0):=by
 obtain ⟨B,bc,e,hB,hS⟩:=owns_str ho hn h4
 injection e with e1 e2 e3
 subst e1 e3
 refine ⟨hS,fun h=>?_⟩
 rcases ho.2 with ⟨hv,_⟩ | ⟨g,c',cur,hv,_⟩
 ·injection hv
 ·injection hv with q1
  rw [h] at q1
  cases q1
theorem plOf_len (p:Pr) (i:Nat) (h:p.params.length≤4):(plOf p i).length≤40+0:=by
 unfold plOf
 split
 ·rw [List.length_map];omega
 ·simp
 ·simp
theorem StrSl.ext_ {w w':World} {A:Option Addr} {n:Nat} {l:List Str} (h:StrSl w w.heap.size A n l) (hx:Ext w w'):StrSl w' w'.heap.size A n l:=(h.ext hx).mono hx.size
abbrev partCells (c:Pc):Array Value:=#[c.start.v,c.turn.v,c.play.v,c.quiet.v,c.pays.v]
theorem part_cell (c:Pc) (i:Nat) (hi:i < 5):(partCells c)[i]?=some ((slP c i).v):=by
 exact zz93
set_option maxRecDepth 100000 in
theorem rcheck_any (c:Pc) (p:Pr) (N:Nat) (w:World) (hN:N≤w.heap.size) (h:PAt w N c p) (hcap:Caps c):Calls Tryz.prog 23 #[.agg c.cells] w fun e w'=>e=.returned (.agg (fltC (check p)))∧Ext w w':=by
 obtain ⟨X,hX⟩:∃ X,X=check p:=⟨_,rfl⟩
 rw [← hX]
 replace hX:=hX.trans (rcheck_chain p)
 obtain ⟨b0,hb0⟩:∃ b,b=isName p.name:=⟨_,rfl⟩
 obtain ⟨b1,hb1⟩:∃ b,b=btw p.seats 2 8:=⟨_,rfl⟩
 obtain ⟨b2,hb2⟩:∃ b,b=((p.stakes.length:Int) == p.seats):=⟨_,rfl⟩
 obtain ⟨V,hV⟩:∃ V,V=ored (chkVars [] p.vars) (must (decide (cells p.vars≤64)) 8 sVar):=⟨_,rfl⟩
 obtain ⟨P,hP⟩:∃ P,P=ored (must (decide (p.params.length≤4)) 8 sPlay) (ored (chkPars (knV p.vars) [] p.params) (ored (must (decide (menu p.params≤512)) 8 sPlay) (ored (must (isName p.silent) 6 p.silent) (must (knV p.vars p.silent == 0) 7 p.silent)))):=⟨_,rfl⟩
 obtain ⟨b3,hb3⟩:∃ b,b=decide (w64 (psize p)≤1000):=⟨_,rfl⟩
 obtain ⟨b4,hb4⟩:∃ b,b=ends p.turn:=⟨_,rfl⟩
 obtain ⟨b5,hb5⟩:∃ b,b=restLast p.pays:=⟨_,rfl⟩
 obtain ⟨M,hM⟩:∃ M,M=ored (must b4 4 sTurn) (must b5 4 sPay):=⟨_,rfl⟩
 obtain ⟨T,hT⟩:∃ T,T=from5 p M 0:=⟨_,rfl⟩
 obtain ⟨R1,hR1⟩:∃ R,R=ored V (ored P (ored (must b3 5 p.name) T)):=⟨_,rfl⟩
 rw [← hb0,← hb1,← hb2,← hb3,← hb4,← hb5,← hV,← hP,← hM,← hT,← hR1] at hX
 have HNV:=J (show NZ V by rw [hV];exact NZ.ored (nz_chkVars _ _) (NZ.must zb84))
 have HNP:=J (show NZ P by rw [hP];exact NZ.ored (NZ.must zb84) (NZ.ored (nz_chkPars _ _ _) (NZ.ored (NZ.must zb84) (NZ.ored (NZ.must zb84) (NZ.must zb84)))))
 have HP4:=J (show P=none→p.params.length≤4 by
  intro e
  rw [hP,ored_eq_none] at e
  simpa using must_none.1 e.1)
 have HX:=J hX
 have HB0:=J hb0
 have HB1:=J hb1
 have HB2:=J hb2
 have HV:=J hV
 have HP:=J hP
 have HB3:=J hb3
 have HB4:=J hb4
 have HB5:=J hb5
 have HM:=J hM
 have HT:=J hT
 have HR1:=J hR1
 clear hX hb0 hb1 hb2 hb3 hb4 hb5 hV hP hM hT hR1
 have HCP:=J hcap
 obtain ⟨cn,cse,⟨kA,kn,kc⟩,⟨vA,vn,vc⟩,cs,⟨tA,tn,tc⟩,⟨A,n,cc⟩,cpl,csi,cq,⟨zA,zn,zc⟩⟩:=c
 obtain rfl:cn=p.name:=h.name
 obtain rfl:csi=p.silent:=h.silent
 obtain rfl:cse=p.seats:=h.seats
 have hx0:=((kR (fun _=>False) w).alloc (.cells (Pc.cells (⟨p.name,p.seats,⟨kA,kn,kc⟩,⟨vA,vn,vc⟩,cs,⟨tA,tn,tc⟩,⟨A,n,cc⟩,cpl,p.silent,cq,⟨zA,zn,zc⟩⟩:Pc)) 26)).alloc (.cells #[.int .i64 0,.string ⟨#[]⟩] 60)
 have hB:=(bN w 26 (Pc.cells (⟨p.name,p.seats,⟨kA,kn,kc⟩,⟨vA,vn,vc⟩,cs,⟨tA,tn,tc⟩,⟨A,n,cc⟩,cpl,p.silent,cq,⟨zA,zn,zc⟩⟩:Pc))).alloc (.cells #[.int .i64 0,.string ⟨#[]⟩] 60)
 have hD:=Blk.new' (w.alloc (.cells (Pc.cells (⟨p.name,p.seats,⟨kA,kn,kc⟩,⟨vA,vn,vc⟩,cs,⟨tA,tn,tc⟩,⟨A,n,cc⟩,cpl,p.silent,cq,⟨zA,zn,zc⟩⟩:Pc)) 26)) 60 #[.int .i64 0,.string ⟨#[]⟩] (w.heap.size+1) zb86
 refine zy69 ?_;intro HPA HNW
 have HNO:=J h.nameOk
 obtain ⟨hn,hf,hok,b,off,hA,hE⟩:=h.stakes.ext hx0
 have hm:=hf.max zb85
 have HN:=J (show kn=p.stakes.length from hn)
 have HA:=J hA
 have HE:=J hE
 have HNN:=J (show n=p.params.length from h.params.1)
 have hnm:=Fits.max (show Fits n 40 from h.params.2.1) zb85
 have hzm:=Fits.max (show Fits zn 112 from h.pays.2.1) zb85
 have HZN:=J (show zn=p.pays.len from h.pays.1)
 clear hn hA hE hok hf h hcap
 go_enter Tryz.func23,Tryz.ntmps23
 go_upto_region 1 with (fail)
 generalize hW:((w.alloc (.cells (Pc.cells (⟨p.name,p.seats,⟨kA,kn,kc⟩,⟨vA,vn,vc⟩,cs,⟨tA,tn,tc⟩,⟨A,n,cc⟩,cpl,p.silent,cq,⟨zA,zn,zc⟩⟩:Pc)) 26)).alloc (.cells #[.int .i64 0,.string ⟨#[]⟩] 60))=W at hx0 hB hD HE HPA HNW ⊢
 clear hW
 obtain ⟨rb,hrb⟩:∃ rb,rb=w.heap.size+1:=⟨_,rfl⟩
 rw [← hrb] at hD ⊢
 have HRW:=J (show w.heap.size≤rb by omega)
 have HD:=J hD
 have HX0:=J hx0
 have HB:=J hB
 clear hD hx0 hrb hB
 generalize w.heap.size=pb at HB ⊢
 have HXC:=J (kR (fun _=>False) W)
 refine zy2 ?_;intro hDr hmr hhr hlr hcP hhP hgP hlP
 go_wp2_with fail
 refine (risname_any p.name HNO.out _).mono ?_
 rintro e w1 ⟨rfl,hx1⟩
 clear hDr hmr hhr hlr hcP hhP hgP hlP
 have HXC:=J (HXC.out.trans hx1)
 clear hx1
 rw [← HB0.out]
 refine zy2 ?_;intro hDr hmr hhr hlr hcP hhP hgP hlP
 cases b0
 ·have HR:=J (show X=some ⟨6,p.name⟩ by rw [HX.out,must_false,ored_some])
  exact zz65
 ·have HX1:=J (show X=ored (must b1 2 sSeats) (ored (must b2 3 sStake) (ored (must (p.stakes.all (fun n=>btw n 1 2147483647)) 2 sStake) R1)) by rw [HX.out,must_true,ored_none])
  clear HX
  go_wp2_with fail
  refine (in_any _ _ _ _).mono ?_
  rintro e w2 ⟨rfl,rfl⟩
  rw [← HB1.out]
  cases b1
  ·have HR:=J (show X=some ⟨2,sSeats⟩ by rw [HX1.out,must_false,ored_some])
   exact zz65
  ·have HX2:=J (show X=ored (must b2 3 sStake) (ored (must (p.stakes.all (fun n=>btw n 1 2147483647)) 2 sStake) R1) by rw [HX1.out,must_true,ored_none])
   clear HX1
   have hb2:((kn:Int) == p.seats)=b2:=by rw [HB2.out,HN.out]
   have hb2n:((kn:Int) != p.seats)=!b2:=by unfold bne;rw [hb2]
   cases b2
   ·have HR:=J (show X=some ⟨3,sStake⟩ by rw [HX2.out,must_false,ored_some])
    exact zz65
   ·have HX3:=J (show X=ored (must (p.stakes.all (fun n=>btw n 1 2147483647)) 2 sStake) R1 by rw [HX2.out,must_true,ored_none])
    clear HX2 HB0 HB1 HB2
    go_wp2_with fail
    clear hb2 hb2n
    clear hDr hmr hhr hlr hcP hhP hgP hlP
    have HXS:=HXC
    clear HXC
    go_loopw [3] (fun t3 wr=>∃ (j:Nat),j≤kn∧t3=.int .i64 j∧ored (must ((p.stakes.drop j).all (fun n=>btw n 1 2147483647)) 2 sStake) R1=X∧Ext W wr) (fun t3 _=>kn - (intOf t3).toNat)
    case atStart=>exact ⟨0,Nat.zero_le _,rfl,HX3.out.symm,HXS.out⟩
    case round =>
     obtain ⟨j,hj,rfl,hacc,hx⟩:=hrel
     have HXC:=J hx
     have HACC:=J hacc
     clear hx hacc HXS HX3
     refine zy2 ?_;intro hDr hmr hhr hlr hcP hhP hgP hlP
     by_cases hlt:j < kn
     ·have hjl:j < p.stakes.length:=by have:=HN.out;omega
      have hltI:(j:Int) < kn:=by omega
      obtain rfl:=HA.out zb85
      have hrow:=(HE.out zb85).2.ext HXC.out
      have hci:=int_at hrow j hjl
      have hbw:=hrow.lt
      obtain ⟨x,hxe⟩:∃ x,x=p.stakes[j]:=⟨_,rfl⟩
      have hdrop:p.stakes.drop j=x :: p.stakes.drop (j+1):=by rw [hxe];exact List.drop_eq_getElem_cons hjl
      rw [← hxe] at hci
      have hacc:=HACC.out
      rw [hdrop,List.all_cons] at hacc
      have HACC:=J hacc
      clear hrow hxe hdrop hacc
      go_wp2_with fail
      refine (in_any _ _ _ _).mono ?_
      rintro e w2 ⟨rfl,rfl⟩
      obtain ⟨q,hq⟩:∃ q,q=btw x 1 2147483647:=⟨_,rfl⟩
      rw [← hq] at HACC ⊢
      clear hq
      cases q
      ·have HR:=J (show X=some ⟨2,sStake⟩ by rw [← HACC.out,Bool.false_and,must_false,ored_some])
       exact zz65
      ·have HA2:=J HACC.out
       go_wp2_with fail
       exact ⟨⟨j+1,hlt,by go_num,by rw [Bool.true_and] at HA2;exact HA2.out,HXC.out⟩,by simp only [intOf];omega⟩
     ·obtain rfl:j=kn:=by omega
      have HX4:=J (show X=ored V (ored P (ored (must b3 5 p.name) T)) by rw [← HR1.out,← HACC.out,HN.out,List.drop_length,List.all_nil,must_true,ored_none])
      clear HACC HR1 hlt hj
      go_wp2_with fail
      refine (rvars_any p.vars vA vn vc N _ HCP.out.vars.1 (Nat.le_trans HNW.out HXC.out.size) (HPA.out.ext HXC.out HNW.out).vars).mono ?_
      rintro e w2 ⟨rfl,hx2⟩
      clear hDr hmr hhr hlr hcP hhP hgP hlP
      have HXC:=J (HXC.out.trans hx2)
      clear hx2
      rw [← HV.out]
      cases V with
      | some f =>
       obtain ⟨fe,fn⟩:=f
       have HNF:=J (NZ.out HNV.out rfl)
       have HR:=J (show X=some ⟨fe,fn⟩ by rw [HX4.out,ored_some])
       refine zy77 ?_;intro y3 hV
       go_upto_region 13 with (fail)
       exact zz14
      | none =>
       have HX5:=J (show X=ored P (ored (must b3 5 p.name) T) by rw [HX4.out,ored_none])
       clear HX4 HV HNV
       refine zy71 ?_;intro y3 hV
       go_upto_region 13 with (fail)
       generalize (w2.alloc (.cells #[.int .i64 0,.string ⟨#[]⟩] 60))=W3 at y3 hV ⊢
       refine zy9 ?_;clear hV y3 HXC;intro fb HY3 HFB HZ0 K hK
       rintro e2 w4 ⟨rfl,hx4⟩
       refine zy100 ?_;clear hK K hx4;intro HZ1 HXC
       clear HY3 HZ0 HZ1 HFB
       refine zy2 ?_;intro hDr hmr hhr hlr hcP hhP hgP hlP
       go_wp2_with fail
       refine (rpars_any (⟨p.name,p.seats,⟨kA,j,kc⟩,⟨vA,vn,vc⟩,cs,⟨tA,tn,tc⟩,⟨A,n,cc⟩,cpl,p.silent,cq,⟨zA,zn,zc⟩⟩:Pc) p N _ (Nat.le_trans HNW.out HXC.out.size) (HPA.out.ext HXC.out HNW.out) HCP.out.params.1).mono ?_
       rintro e w2 ⟨rfl,hx2⟩
       clear hDr hmr hhr hlr hcP hhP hgP hlP
       have HXC:=J (HXC.out.trans hx2)
       clear hx2
       rw [← HP.out]
       cases P with
       | some f =>
        obtain ⟨fe,fn⟩:=f
        have HNF:=J (NZ.out HNP.out rfl)
        have HR:=J (show X=some ⟨fe,fn⟩ by rw [HX5.out,ored_some])
        refine zy77 ?_;intro y3 hV
        go_upto_region 16 with (fail)
        exact zz14
       | none =>
        have HX6:=J (show X=ored (must b3 5 p.name) T by rw [HX5.out,ored_none])
        have HP5:=J (show n≤4 by have:=HP4.out rfl;have:=HNN.out;omega)
        clear HX5 HP HNP HP4
        refine zy71 ?_;intro y3 hV
        go_upto_region 16 with (fail)
        generalize (w2.alloc (.cells #[.int .i64 0,.string ⟨#[]⟩] 60))=W3 at y3 hV ⊢
        refine zy9 ?_;clear hV y3 HXC;intro fb HY3 HFB HZ0 K hK
        rintro e2 w4 ⟨rfl,hx4⟩
        refine zy100 ?_;clear hK K hx4;intro HZ1 HXC
        clear HY3 HZ0 HZ1 HFB
        refine zy2 ?_;intro hDr hmr hhr hlr hcP hhP hgP hlP
        go_wp2_with fail
        refine (rsize_any (⟨p.name,p.seats,⟨kA,j,kc⟩,⟨vA,vn,vc⟩,cs,⟨tA,tn,tc⟩,⟨A,n,cc⟩,cpl,p.silent,cq,⟨zA,zn,zc⟩⟩:Pc) p N _ (Nat.le_trans HNW.out HXC.out.size) (HPA.out.ext HXC.out HNW.out)).mono ?_
        rintro e w2 ⟨rfl,hx2⟩
        clear hDr hmr hhr hlr hcP hhP hgP hlP
        have HXC:=J (HXC.out.trans hx2)
        clear hx2
        obtain ⟨sz,hsz⟩:∃ sz,sz=w64 (psize p):=⟨_,rfl⟩
        rw [← hsz] at HB3 ⊢
        refine zy2 ?_;intro hDr hmr hhr hlr hcP hhP hgP hlP
        by_cases h1000:sz > 1000
        ·have HR:=J (show X=some ⟨5,p.name⟩ by rw [HX6.out,HB3.out,decide_eq_false zb85,must_false,ored_some])
         exact zz65
        ·have HX7:=J (show X=T by rw [HX6.out,HB3.out,decide_eq_true zb85,must_true,ored_none])
         clear HX6 HB3 hsz
         obtain ⟨-,-,-,pb2,po2,hA2,hE2⟩:=HPA.out.params
         have HA2:=J hA2
         have HE2:=J hE2
         clear hA2 hE2
         go_wp2_with fail
         have y0:=(kR (fun _=>False) w2).alloc (.cells (partCells (⟨p.name,p.seats,⟨kA,j,kc⟩,⟨vA,vn,vc⟩,cs,⟨tA,tn,tc⟩,⟨A,n,cc⟩,cpl,p.silent,cq,⟨zA,zn,zc⟩⟩:Pc)) 24)
         have hab:=bN w2 24 (partCells (⟨p.name,p.seats,⟨kA,j,kc⟩,⟨vA,vn,vc⟩,cs,⟨tA,tn,tc⟩,⟨A,n,cc⟩,cpl,p.silent,cq,⟨zA,zn,zc⟩⟩:Pc))
         clear hDr hmr hhr hlr hcP hhP hgP hlP
         generalize hW5:(w2.alloc (.cells (partCells (⟨p.name,p.seats,⟨kA,j,kc⟩,⟨vA,vn,vc⟩,cs,⟨tA,tn,tc⟩,⟨A,n,cc⟩,cpl,p.silent,cq,⟨zA,zn,zc⟩⟩:Pc)) 24))=W5 at y0 hab ⊢
         generalize w2.heap.size=ab at hab ⊢
         have HAB:=J hab
         have HXS:=J (HXC.out.trans y0)
         clear hW5 hab y0 HXC h1000
         go_loopw [7] (fun t7 wr=>∃ (i:Nat),i≤5∧t7=.int .i64 i∧from5 p M i=X∧Ext W5 wr) (fun t7 _=>5 - (intOf t7).toNat)
         case atStart=>exact ⟨0,by omega,rfl,by rw [← HT.out];exact HX7.out.symm,kR _ _⟩
         case round =>
          obtain ⟨i,hi5,rfl,hacc,hx⟩:=hrel
          have HXW:=J hx
          have HXC:=J (HXS.out.trans hx)
          have HACC:=J hacc
          clear hx hacc
          by_cases hlt:i < 5
          ·have hltI:(i:Int) < 5:=by omega
           have HLT:=J hlt
           have HAW:=J (bX HAB.out HXW.out)
           obtain ⟨kb,hkb⟩:∃ kb,kb=wr.heap.size:=⟨_,rfl⟩
           have y1:=(kR (fun _=>False) wr).alloc (.cells (knCells (⟨p.name,p.seats,⟨kA,j,kc⟩,⟨vA,vn,vc⟩,cs,⟨tA,tn,tc⟩,⟨A,n,cc⟩,cpl,p.silent,cq,⟨zA,zn,zc⟩⟩:Pc) none 0 0) 120)
           have hkB:=bN wr 120 (knCells (⟨p.name,p.seats,⟨kA,j,kc⟩,⟨vA,vn,vc⟩,cs,⟨tA,tn,tc⟩,⟨A,n,cc⟩,cpl,p.silent,cq,⟨zA,zn,zc⟩⟩:Pc) none 0 0)
           rw [← hkb] at hkB
           refine zy2 ?_;intro hDr hmr hhr hlr hcP hhP hgP hlP
           go_wp2_with fail
           clear hDr hmr hhr hlr hcP hhP hgP hlP
           try rw [← hkb]
           generalize hW6:(wr.alloc (.cells (knCells (⟨p.name,p.seats,⟨kA,j,kc⟩,⟨vA,vn,vc⟩,cs,⟨tA,tn,tc⟩,⟨A,n,cc⟩,cpl,p.silent,cq,⟨zA,zn,zc⟩⟩:Pc) none 0 0) 120))=W6 at y1 hkB ⊢
           have HY1:=J y1
           have HKB:=J hkB
           have HKE:=J hkb
           clear hW6 y1 hkB hkb
           go_loopw [9] (fun t9 wq=>∃ (q:Nat) (B:Option Addr) (bc:Nat),q≤n∧(¬ i=2→q=0)∧t9=.int .i64 q∧Blk wq kb 120 (knCells (⟨p.name,p.seats,⟨kA,j,kc⟩,⟨vA,vn,vc⟩,cs,⟨tA,tn,tc⟩,⟨A,n,cc⟩,cpl,p.silent,cq,⟨zA,zn,zc⟩⟩:Pc) B q bc)∧wq.ownsRow (kb+1) 9 1 (.slice B q bc) q (rowsL strC ((p.params.map Vr.name).take q))∧Ext wr wq) (fun t9 _=>n - (intOf t9).toNat)
           case atStart=>exact ⟨0,none,0,Nat.zero_le _,fun _=>rfl,rfl,HKB.out,World.ownsRow_nil _ _ _ _,HY1.out⟩
           case round =>
            obtain ⟨q,B,bc,hq,hq2,rfl,hkq,how,hx⟩:=hrel
            have HKQ:=J hkq
            have HOW:=J how
            have HXQ:=J hx
            have HXB:=J (HXC.out.trans hx)
            have HQ2:=J hq2
            clear hkq how hx hq2
            have hcP:=bC (bX HB.out HXB.out)
            have hlP:=(bX HB.out HXB.out).lt
            by_cases hqn:q < n
            ·have hqI:(q:Int) < n:=by omega
             by_cases hi2:i=2
             ·have hi2b:((i:Int) == 2)=true:=by simp [hi2]
              have HI2:=J hi2
              clear hi2
              have hql:q < p.params.length:=by have:=HNN.out;omega
              obtain rfl:=HA2.out zb85
              have hrow:=((HE2.out zb85).2.ext HXB.out)
              obtain ⟨hh',hg'⟩:=vr_at hrow q hql
              have hbw:=hrow.lt
              obtain ⟨x,hxe⟩:∃ x,x=p.params[q]:=⟨_,rfl⟩
              rw [← hxe] at hg'
              have htk:(p.params.map Vr.name).take (q+1)=(p.params.map Vr.name).take q ++ [x.name]:=by
               rw [List.take_add_one,List.getElem?_map,List.getElem?_eq_getElem hql,hxe]
               rfl
              have HTK:=J htk
              have HH:=J hh'
              have HG:=J hg'
              have HOL:=J (show ¬ kb < pb2∧¬ kb < pb∧pb2 < wr.heap.size∧pb < wr.heap.size∧kb < wr.heap.size from ⟨by
               have h1:=(HE2.out zb85).1
               have h2:=HNW.out
               have h3:=HXC.out.size
               have h4:=HKE.out
               omega,by
               have h1:=(bX HB.out HXC.out).lt
               have h4:=HKE.out
               omega,hbw,hlP,HKQ.out.lt⟩)
              clear hrow hxe htk hh' hg' hbw
              go_upto_region 28 with (fail)
              clear hcP hlP
              refine qr3 (fun w1=>Kept (fun g=>kb < g) wr w1) [(0,2),(1,1),(2,2),(3,1),(4,2),(5,2),(6,2),(7,1),(8,0),(9,0),(10,2),(11,0)] ?_;refine qrl ?_
              have HZ0:=J (show Kept (fun g=>kb < g) wr wr.drew from (kR _ wr).drew)
              (repeat first|refine qs3 ?_|refine qt3 HZ0.out (by intro w1 hS;have d0:=bK HKQ.out hS (Nat.lt_irrefl _);have d1:=bC d0;have d3:=d0.lt;have d4:=bK (bX HB.out HXB.out) hS HOL.out.2.1;have d5:=bC d4;have d6:=d4.lt;have d7:=(has_keep hS HOL.out.2.2.1 HOL.out.1).trans HH.out;have d8:=(gets_keep hS HOL.out.2.2.1 HOL.out.1).trans HG.out;have d9:=Nat.lt_of_lt_of_le HOL.out.2.2.1 hS.size;have d10:w1.cell? ⟨pb2,po2+q * 4,none⟩=some (.string x.name):=cell_gets0 d7 d8 zb85;exact zgo) ?_|refine qp3 HZ0.out ?_)
              (refine w3_act (fun K hK=>?_);go_simp)
              have y1:Kept (fun g=>kb < g) wr (wr.alloc (.cells #[.string x.name] 9)).drew:=((kR _ wr).alloc _).drew
              have q6:Blk (wr.alloc (.cells #[.string x.name] 9)).drew wr.heap.size 9 #[.string x.name]:=(bN wr _ _).drew
              have own:=own_ext HOW.out (show Ext wr (wr.alloc (.cells #[.string x.name] 9)).drew from ((kR _ wr).alloc _).drew)
              refine hK.out _ _ (fun _=>y1) ?_
              clear hK K
              generalize (wr.alloc (.cells #[.string x.name] 9)).drew=V3 at y1 q6 own ⊢
              obtain ⟨u6,hu6⟩:∃ u,u=wr.heap.size:=⟨_,rfl⟩
              rw [← hu6] at q6 ⊢
              obtain ⟨v',V4,hrun,ho',hk',-⟩:=appR (f:=strC) elemStr (fun _=>rfl) (fun _=>rfl) V3 (kb+1) (.slice B q bc) q ((p.params.map Vr.name).take q) own u6 0 1 1 [x.name] rfl (Row.of_blk q6) (by have:=HP5.out;omega) (by have:=HOL.out.2.2.2.2;have:=y1.size;omega)
              have y4:Kept (fun g=>kb < g) wr V4:=y1.trans (hk'.mono (fun i _ e=>by have:=(own.lt i e).1;omega))
              refine w3_act (fun K hK=>?_)
              refine zy60 ?_
              refine hK.out _ _ (fun _=>y4) ?_
              clear hK K hrun
              have hkB:=bK HKQ.out y4 (Nat.lt_irrefl _)
              have hcK:=bC hkB
              have hzK:=Blk.frozen hkB
              have hlK:=hkB.lt
              rw [← HTK.out] at ho'
              obtain ⟨g2,c2,rfl,hrow2,hg2,-⟩:=own_rows ho' zb85 zb85
              refine qf3 ?_
              have hk9:Kept (fun g=>kb≤g) wr (V4.setCell ⟨kb,11,none⟩ (.slice (some ⟨g2,0,none⟩) (q+1) c2)):=(y4.mono (fun i _ h=>Nat.le_of_lt h)).setCell _ _ (fun _=>Nat.le_refl _)
              have hb9:Blk (V4.setCell ⟨kb,11,none⟩ (.slice (some ⟨g2,0,none⟩) (q+1) c2)) kb 120 (knCells (⟨p.name,p.seats,⟨kA,j,kc⟩,⟨vA,vn,vc⟩,cs,⟨tA,tn,tc⟩,⟨some ⟨pb2,po2,none⟩,n,cc⟩,cpl,p.silent,cq,⟨zA,zn,zc⟩⟩:Pc) (some ⟨g2,0,none⟩) (q+1) c2):=by
               have q:=Blk.set_ hkB 11 (.slice (some ⟨g2,0,none⟩) (q+1) c2)
               exact q
              have ho9:=own_kept ho' ((kR (·=kb) V4).setCell ⟨kb,11,none⟩ (.slice (some ⟨g2,0,none⟩) (q+1) c2) (fun _=>rfl)) (fun g e=>by
               have e2:g2=g:=Option.some.inj e
               omega)
              generalize V4.setCell ⟨kb,11,none⟩ (.slice (some ⟨g2,0,none⟩) (q+1) c2)=V9 at hk9 hb9 ho9 ⊢
              have HX9:=J (HXQ.out.trans' hk9 (fun i hi q=>by have:=HKE.out;omega))
              clear hcK hzK hlK hkB
              go_wp2_with fail
              go_roundw
              case rel=>exact ⟨q+1,some ⟨g2,0,none⟩,c2,hqn,fun h=>absurd HI2.out h,by go_num,hb9,ho9,HX9.out⟩
              case measure=>simp only [intOf];omega
             ·have hi2b:((i:Int) == 2)=false:=by simp;omega
              have HPL:=J (show ¬ i=3→(p.params.map Vr.name).take q=plOf p i from fun h3=>by
               rw [HQ2.out hi2]
               rcases (by omega:i=0 ∨ i=1 ∨ i=4) with rfl | rfl | rfl <;> rfl)
              exact zz1
            ·have HPL:=J (show ¬ i=3→(p.params.map Vr.name).take q=plOf p i from fun h3=>by
              by_cases hi2:i=2
              ·subst hi2
               exact List.take_of_length_le (by rw [List.length_map];have:=HNN.out;omega)
              ·rw [HQ2.out hi2]
               rcases (by omega:i=0 ∨ i=1 ∨ i=4) with rfl | rfl | rfl <;> rfl)
             exact zz1
          ·obtain rfl:i=5:=by omega
           have HX8:=J (show X=M by rw [← HACC.out];rfl)
           refine zy2 ?_;intro hDr hmr hhr hlr hcP hhP hgP hlP
           go_wp2_with fail
           refine (rends_any wr p.turn tA tn tc N wr (kR _ _) (Nat.le_trans HNW.out HXC.out.size) (HPA.out.ext HXC.out HNW.out).turn).mono ?_
           rintro e w3 ⟨rfl,hx3⟩
           clear hDr hmr hhr hlr hcP hhP hgP hlP
           have HXC:=J (HXC.out.trans hx3)
           clear hx3
           rw [← HB4.out]
           refine zy2 ?_;intro hDr hmr hhr hlr hcP hhP hgP hlP
           cases b4
           ·have HR:=J (show X=some ⟨4,sTurn⟩ by rw [HX8.out,HM.out,must_false,ored_some])
            exact zz65
           ·have HX9:=J (show X=must b5 4 sPay by rw [HX8.out,HM.out,must_true,ored_none])
            clear HX8 HM
            obtain ⟨-,-,b9,o9,hA9,hE9⟩:=(HPA.out.ext HXC.out HNW.out).pays
            cases zn with
            | zero =>
             have HR:=J (show X=some ⟨4,sPay⟩ by
              have:p.pays=.nil:=by
               have hz:=HZN.out
               cases hq:p.pays with
               | nil=>rfl
               | cons=>rw [hq] at hz;simp [SF.len] at hz
              rw [HX9.out,show b5=false by rw [HB5.out,this];rfl,must_false])
             clear hA9 hE9
             exact zz65
            | succ m =>
             obtain ⟨k,hk,hrl,hbN⟩:=rest_at hE9 (by rw [← HZN.out];exact Nat.succ_pos m)
             obtain rfl:=hA9 (Nat.succ_pos m)
             rw [← HZN.out] at hk
             have hbw:=Nat.lt_of_lt_of_le hbN (Nat.le_trans HNW.out HXC.out.size)
             simp only [Nat.add_sub_cancel] at hk
             have hi1:(m:Int) < ((m:Int)+1):=by omega
             have hi0:(0:Int) < (m:Int)+1:=by omega
             have HRL:=J hrl
             clear hrl hE9 hbN
             cases hq:(k == 9)
             ·have HR:=J (show X=some ⟨4,sPay⟩ by rw [HX9.out,show b5=false by rw [HB5.out,HRL.out,hq],must_false])
              have hqn:(k != 9)=true:=by unfold bne;rw [hq];rfl
              exact zz65
             ·have HR:=J (show X=none by rw [HX9.out,show b5=true by rw [HB5.out,HRL.out,hq],must_true])
              have hqn:(k != 9)=false:=by unfold bne;rw [hq];rfl
              go_wp2_with fail
              refine (fine_any _).mono ?_
              rintro e w4 ⟨rfl,hx4⟩
              clear hDr hmr hhr hlr hcP hhP hgP hlP
              clear hk hbw
              have HXC:=J (HXC.out.trans hx4)
              refine zy2 ?_;intro hDr hmr hhr hlr hcP hhP hgP hlP
              clear hx4
              exact zz65
open Go.RowKit So Mc
theorem cE_len (k:Mk) (W:Wd):∀ (F:EF),(∀ (j:Nat) (t:Int),(cE k W F j t).length≤4 * F.size)∧(∀ t q:Int,(cE k W F 0 t).length+(cE k W F 1 q).length≤4 * F.size)
 | .nil=>by simp [cE]
 | .cons op n name kids r=>by
  obtain ⟨hk,hk2⟩:=cE_len k W kids
  obtain ⟨hr,-⟩:=cE_len k W r
  have h0:∀ t,(cE k W (.cons op n name kids r) 0 t).length≤4 * (1+kids.size):=fun t=>by
   have a:=hk 0 t
   have b1:=hk2 t (t+1)
   have b2:=hk2 (t+1) t
   unfold cE
   repeat' split
   all_goals simp only [List.length_append,List.length_cons,List.length_nil]
   all_goals omega
  refine ⟨fun j t=>?_,fun t q=>?_⟩
  ·cases j with
   | zero=>have:=h0 t;simp only [EF.size];omega
   | succ j=>have:=hr j t;rw [cE];simp only [EF.size];omega
  ·have a:=h0 t
   have b:=hr 0 q
   have e:cE k W (.cons op n name kids r) 1 q=cE k W r 0 q:=by rw [cE]
   rw [e]
   simp only [EF.size]
   omega
theorem cB_len (k:Mk):∀ (F:SF) (W:Wd) (f:Nat) (a:Int),(cB k F W f a).length≤7 * F.size
 | .nil,_,_,_=>by simp [cB]
 | .cons kind name e low high l els r,W,f,a=>by
  rw [cB_cons,List.length_append]
  have hr:=cB_len k r W f (a+(cS k W f a kind name e low high l els).length)
  have hl:=fun W f a=>cB_len k l W f a
  have hx:=fun W f a=>cB_len k els W f a
  obtain ⟨he,he2⟩:=cE_len k W e
  have hS:(cS k W f a kind name e low high l els).length≤7 * (1+e.size+l.size+els.size):=by
   have a0:=he 0 0
   have a1:=he2 0 1
   have a2:(cE k W e 1 0).length+(cE k W e 0 1).length≤4 * e.size:=by have:=he2 1 0;omega
   unfold cS
   split
   ·split
    ·have b:=hl W f (a+(cE k W e 0 0).length+1)
     simp only [cIf1,List.length_append,List.length_cons,List.length_nil]
     omega
    ·have b:=hl W f (a+(cE k W e 0 0).length+1)
     have c:=hx W f (a+(cE k W e 0 0).length+1+(cB k l W f (a+(cE k W e 0 0).length+1)).length+1)
     simp only [cIf,List.length_append,List.length_cons,List.length_nil]
     omega
   ·split
    ·split
     ·simp
     ·have b:=hl (updW W name (upI k f)) (f+1) (a+3)
      simp only [cFor,List.length_append,List.length_cons,List.length_nil]
      omega
    ·unfold cS0
     repeat' split
     all_goals simp only [someI,List.length_append,List.length_cons,List.length_nil]
     all_goals omega
  simp only [SF.size]
  omega
theorem vcell_pos (v:Vr):1≤So.cellsV v:=by unfold So.cellsV;split <;> omega
theorem cells_pos:∀ (l:List Vr),0≤cells l
 | []=>by simp [cells]
 | v :: r=>by have:=vcell_pos v;have:=cells_pos r;simp only [cells];omega
theorem cells_while (q:Vr→Bool):∀ (l:List Vr),cells (l.takeWhile q)≤cells l
 | []=>by simp [cells]
 | v :: r=>by
  have:=cells_while q r
  have:=cells_pos r
  have:=vcell_pos v
  rw [List.takeWhile_cons]
  split <;> simp only [cells] <;> omega
theorem cellN_bd (l:List Vr) (s:Str):0≤cellN l s∧cellN l s≤cells l:=by
 unfold cellN
 split
 ·exact ⟨cells_pos _,cells_while _ l⟩
 ·exact ⟨by omega,cells_pos l⟩
theorem knV_none0 {l:List Vr} {s:Str} (h:knV l s=0):∀ v ∈ l,¬ v.name=s:=fun v hv e=>by
 unfold knV at h
 split at h
 ·rename_i q
  have:=List.find?_eq_none.1 q v hv
  simp at this
  exact this e
 ·split at h <;> omega
theorem cellN_zero {l:List Vr} {s:Str} (h:knV l s=0):cellN l s=0:=by
 unfold cellN
 rw [if_neg]
 intro e
 rw [List.any_eq_true] at e
 obtain ⟨v,hv,q⟩:=e
 exact knV_none0 h v hv (of_decide_eq_true q)
theorem parW_other:∀ (l:List Vr) (W:Wd) (a:Int) (s:Str),(∀ v ∈ l,¬ v.name=s)→parW W a l s=W s
 | [],_,_,_,_=>rfl
 | v :: r,W,a,s,h=>by
  rw [parW,parW_other r _ _ s (fun u hu=>h u (List.mem_cons_of_mem _ hu)),updW,if_neg (fun e=>h v (List.mem_cons_self ..) e.symm)]
theorem parW_bd:∀ (l:List Vr) (W:Wd) (a b:Int) (_:∀ s,0≤W s∧W s≤b) (_:0≤a) (_:a+l.length≤b) (s:Str),0≤parW W a l s∧parW W a l s≤b
 | [],W,_,_,h,_,_,s=>h s
 | v :: r,W,a,b,h,h0,h1,s=>by
  rw [parW]
  simp only [List.length_cons] at h1
  refine parW_bd r _ (a+1) b (fun t=>?_) zb85 zb85 s
  unfold updW
  split
  ·omega
  ·exact h t
theorem topW_bd (p:Pr) (b:Int) (part:Nat) (hb0:0≤b) (hb:b≤100) (hc:cells p.vars≤100) (hp:p.params.length≤4) (s:Str):0≤topW p b part s∧topW p b part s≤1000:=by
 have h:=cellN_bd p.vars
 unfold topW
 split
 ·exact parW_bd _ _ _ 1000 (fun t=>by have:=h t;omega) hb0 zb85 s
 ·split
  ·unfold updW
   split
   ·omega
   ·have:=h s;omega
  ·have:=h s;omega
theorem updAll_zero {κ:Kn} {l:List Str} {s:Str} (h:updAll κ l s=0):κ s=0∧∀ t ∈ l,¬ t=s:=by
 unfold updAll at h
 split at h
 ·omega
 ·rename_i q
  refine ⟨h,fun t ht e=>q ?_⟩
  rw [List.any_eq_true]
  exact ⟨t,ht,decide_eq_true e⟩
theorem topW_zero (p:Pr) (b:Int) (part:Nat) (s:Str) (h:knOf p part s=0):topW p b part s=0:=by
 unfold topW
 split
 ·rename_i e
  subst e
  obtain ⟨h1,h2⟩:=updAll_zero h
  rw [parW_other _ _ _ s (fun v hv e=>h2 v.name (List.mem_map.2 ⟨v,hv,rfl⟩) e)]
  exact cellN_zero h1
 ·split
  ·rename_i e
   subst e
   obtain ⟨h1,h2⟩:=updAll_zero h
   rw [updW,if_neg (fun e=>h2 p.silent zb86 e.symm)]
   exact cellN_zero h1
  ·rename_i e1 e2
   have e3:knOf p part=knV p.vars:=by
    unfold knOf
    split
    ·exact absurd rfl e1
    ·exact absurd rfl e2
    ·rfl
   rw [e3] at h
   exact cellN_zero h
theorem nz_ahead (p:Pr):NZ (chkAhead p):=by
 unfold chkAhead chkHead
 exact NZ.ored (NZ.ored (NZ.must zb84) (NZ.ored (NZ.must zb84) (NZ.ored (NZ.must zb84) (NZ.must zb84)))) (NZ.ored (nz_chkVars _ _) (NZ.ored (NZ.must zb84) (NZ.ored (NZ.must zb84) (NZ.ored (nz_chkPars _ _ _) (NZ.ored (NZ.must zb84) (NZ.ored (NZ.must zb84) (NZ.must zb84)))))))
theorem nz_of (p:Pr):NZ (check p):=by
 unfold check
 exact NZ.ored (nz_ahead p) (NZ.ored (NZ.must zb84) (NZ.ored (nz_chkB _ _ _ _ _) (NZ.ored (nz_chkB _ _ _ _ _) (NZ.ored (nz_chkB _ _ _ _ _) (NZ.ored (nz_chkB _ _ _ _ _) (NZ.ored (nz_chkB _ _ _ _ _) (NZ.ored (NZ.must zb84) (NZ.must zb84))))))))
structure Chk (p:Pr):Prop where
 seats:2≤p.seats∧p.seats≤8
 vars:chkVars [] p.vars=none
 cells:cells p.vars≤64
 np:p.params.length≤4
 pars:chkPars (knV p.vars) [] p.params=none
 silent:knV p.vars p.silent=0
 size:psize p≤1000
 part:∀ i,i < 5→chkB i (knOf p i) 0 true (partOf p i)=none
 ends:ends p.turn=true
 last:restLast p.pays=true
theorem psize_part_le (p:Pr) (i:Nat) (hi:i < 5):(partOf p i).size≤psize p:=by
 rcases (by omega:i=0 ∨ i=1 ∨ i=2 ∨ i=3 ∨ i=4) with rfl | rfl | rfl | rfl | rfl <;> simp only [partOf,psize] <;> omega
theorem Chk.of {p:Pr} (h:check p=none) (hz:psize p≤1099511627776):Chk p:=by
 obtain ⟨h1,h2,h3,h4,h5,h6,h7,h8,h9⟩:=check_none.1 h
 unfold chkAhead chkHead at h1
 simp only [ored_eq_none,must_none,decide_eq_true_eq,beq_iff_eq,btw,Bool.and_eq_true] at h1
 obtain ⟨⟨_,q1,_,_⟩,q2,q3,q4,q5,_,_,q6⟩:=h1
 exact ⟨q1,q2,q3,q4,q5,q6,by rw [w64_def] at h2;omega,parts_none h,h8,h9⟩
theorem Chk.okK {p:Pr} (h:Chk p) (i:Nat) (hi:i < 5):okK (partOf p i):=okK_of (h.part i hi)
theorem Chk.psz {p:Pr} (h:Chk p) (i:Nat) (hi:i < 5):(partOf p i).size≤1000:=Nat.le_trans (psize_part_le p i hi) h.size
def codeB (p:Pr) (i:Nat):List Ins:=cB ⟨p.vars,p.seats,cells p.vars⟩ (partOf p i) (topW p (cells p.vars) i) 0 0
def codeP (p:Pr) (i:Nat):List Ins:=codeB p i ++ [⟨0,0,0,0⟩]
theorem codeB_len {p:Pr} {i:Nat} (h:(partOf p i).size≤256):(codeB p i).length≤1792:=by
 have:=cB_len ⟨p.vars,p.seats,cells p.vars⟩ (partOf p i) (topW p (cells p.vars) i) 0 0
 unfold codeB
 omega
end Go.Proofs.YtbfbabbcdochjaaGreatDoor
