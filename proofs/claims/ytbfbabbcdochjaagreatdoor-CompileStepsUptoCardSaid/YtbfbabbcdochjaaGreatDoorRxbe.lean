/- Several texts joined: Jd, Je. -/
import Derived.Test.YtbfbabbcdochjaaGreatDoorRxpk
import Derived.Test.YtbfbabbcdochjaaGreatDoorRxbd
set_option maxHeartbeats 4000000
namespace Go.Proofs.YtbfbabbcdochjaaGreatDoor
open Go.RowKit So Mc
abbrev BlkB (F:SF):Prop:=∀ (ex st N:Nat) (A:Option Addr) (c:Nat) (w:World),CAt w ex st→SSl w N A F.len F→N≤w.heap.size →
 Calls Tryz.prog 59 #[.agg (cnt ex st),.slice A F.len c] w fun e w'=>e=.returned (.int .i64 (satN (costB F):Nat))∧Ext w w'
def costS1 (kind:Int) (e:EF) (low high:Int) (l els:SF):Nat :=
 ownS kind+(if hasE kind then costF e else 0)+if kind=2 then max (costB l) (costB els) else if kind=3∧low≤high then ((min (high - low) 65536).toNat+1) * (4+costB l) else 0
theorem costB_cons (kind:Int) (s:Str) (e:EF) (low high:Int) (l els r:SF):costB (.cons kind s e low high l els r)=costS1 kind e low high l els+costB r:=rfl
theorem stC_of {kind:Int} (h:0≤kind∧kind≤9):stC kind=some (.agg #[.int .i64 (ownS kind),.bool (hasE kind)]):=by
 have hk:kind=0 ∨ kind=1 ∨ kind=2 ∨ kind=3 ∨ kind=4 ∨ kind=5 ∨ kind=6 ∨ kind=7 ∨ kind=8 ∨ kind=9:=by omega
 rcases hk with rfl | rfl | rfl | rfl | rfl | rfl | rfl | rfl | rfl | rfl <;> rfl
theorem ownS_le (kind:Int):ownS kind≤8:=by
 unfold ownS
 repeat' split
 all_goals omega
theorem satN_mul (a r z:Nat):satN (a+(r+1) * (4+satN z))=satN (a+(r+1) * (4+z)):=by
 by_cases h:z≤65537
 ·rw [satN_self h]
 ·have h1:satN z=65537:=by unfold satN;omega
  rw [h1]
  have h2:4+65537≤(r+1) * (4+65537):=Nat.le_mul_of_pos_left _ zb85
  have h3:4+z≤(r+1) * (4+z):=Nat.le_mul_of_pos_left _ zb85
  unfold satN
  omega
theorem satN_max (a y z:Nat):satN (a+max (satN y) (satN z))=satN (a+max y z):=by unfold satN;omega
set_option maxRecDepth 100000 in
theorem bstmt_any (l els:SF) (ex st N:Nat) (kind low high:Int) (IL:kind=2 ∨ kind=3→BlkB l) (IX:kind=2→BlkB els) (hk:0≤kind∧kind≤9) (ilo:i64ok low) (ihi:i64ok high) (s:Str) (A:Option Addr) (ec:Nat) (F:EF) (lA:Option Addr) (lc:Nat) (xA:Option Addr) (xc:Nat) (w:World) (hC:CAt w ex st) (hE:ESl w N A F.len F) (hl:SSl w N lA l.len l) (hx:SSl w N xA els.len els) (hN:N≤w.heap.size) :
 Calls Tryz.prog 99 #[.agg (cnt ex st),.agg (scells kind s A F.len ec low high lA l.len lc xA els.len xc)] w fun e w'=>e=.returned (.int .i64 (satN (costS1 kind F low high l els):Nat))∧Ext w w':=by
 obtain ⟨W1,hW1⟩:∃ W1,W1=(w.alloc (.cells (cnt ex st) 126)).alloc (.cells (scells kind s A F.len ec low high lA l.len lc xA els.len xc) 151):=⟨_,rfl⟩
 have y1:Ext w W1:=by rw [hW1];exact ((kR _ w).alloc _).alloc _
 have h4:Blk W1 w.heap.size 126 (cnt ex st):=by rw [hW1];exact (bN w _ _).alloc _
 have h7:Blk W1 (w.heap.size+1) 151 (scells kind s A F.len ec low high lA l.len lc xA els.len xc):=by
  rw [hW1]
  exact Blk.new' _ _ _ _ zb86
 have hsz:(w.alloc (.cells (cnt ex st) 126)).heap.size=w.heap.size+1:=by simp
 obtain ⟨own,how⟩:∃ own,own=ownS kind:=⟨_,rfl⟩
 obtain ⟨prt,hpr⟩:∃ prt,prt=hasE kind:=⟨_,rfl⟩
 have hlk:=look_cost (hC.ext y1).2 kind (fv:=.agg #[.int .i64 own,.bool prt]) (bv:=true) (by rw [stC_of hk,how,hpr];rfl) (by rw [stC_of hk];rfl)
 have h8:own≤8:=by rw [how];exact ownS_le _
 have HIL:=J IL
 have HIX:=J IX
 have HC:=J (hC.ext y1)
 have HE:=J (hE.kept y1 hN (fun _ f=>f.elim))
 have HL:=J (hl.kept y1 hN (fun _ f=>f.elim))
 have HX:=J (hx.kept y1 hN (fun _ f=>f.elim))
 have HN1:=J (show N≤W1.heap.size from Nat.le_trans hN y1.size)
 have HK:=J hk
 have HOW:=J how
 have HPR:=J hpr
 have HLH:=J (And.intro ilo ihi)
 clear IL IX hC hE hl hx hk how hpr ilo ihi
 go_enter Tryz.func99,Tryz.ntmps99
 go_upto_region 1 with (fail)
 rw [← hW1]
 try rw [hsz]
 clear hsz hW1
 obtain ⟨p6,hp6⟩:∃ p6,p6=W1.heap.size:=⟨_,rfl⟩
 have HP6:=J hp6
 clear hp6
 have HWS:=J y1.size
 generalize hp4:(w:World).heap.size=p4 at h4 h7 ⊢
 have HP4:=J hp4
 clear hp4
 have H4:=J h4
 have H7:=J h7
 have i1:=bC h4
 have i2:=h4.lt
 have j1:=bC h7
 have j2:=h7.lt
 clear h4 h7
 have y2:Ext W1 (W1.alloc (.cells #[.int .i64 own,.bool prt] 207)):=(kR _ W1).alloc _
 have b2:=bN W1 207 #[.int .i64 own,.bool prt]
 rw [← HP6.out] at b2
 go_upto_region 4 with (fail)
 rw [← HP6.out]
 generalize (W1.alloc (.cells #[.int .i64 own,.bool prt] 207))=W2 at y2 b2 ⊢
 clear i1 i2 j1 j2 hlk
 have B2:=J b2
 have Y2:=J y2
 have i1:=bC b2
 have i2:=b2.lt
 clear b2
 go_wp2_with fail
 refine (bsum_any own _).mono ?_
 rintro e w3 ⟨rfl,b3,y3⟩
 obtain ⟨nb,hnb⟩:∃ nb,nb=W2.heap.size:=⟨_,rfl⟩
 rw [← hnb] at b3 ⊢
 clear i1 i2
 have B3:=J b3
 have Y3:=J (Y2.out.trans y3)
 have B2b:=J (bX B2.out y3)
 have HN3:=J (show N≤nb∧w.heap.size≤nb from by have a:=y2.size;have b:=HN1.out;have c:=HWS.out;omega)
 have HQ:=J (show ¬ p4=nb∧¬ p4+1=nb∧¬ p6=nb from by have a:=y2.size;have b:=H7.out.lt;have c:=B2.out.lt;omega)
 clear b3 y2 y3 hnb
 have HC3:=J (HC.out.ext Y3.out)
 have hce:=HC3.out.ne B3.out
 have HCE:=J hce
 clear hce
 have hwx:=y1
 have hmx:∀ a b:Nat,max (a:Int) (b:Int)=((max a b:Nat):Int):=fun a b=>by omega
 have e1:=bC B2b.out
 have e2:=B2b.out.lt
 have HN3b:=J (show N≤w3.heap.size from Nat.le_trans HN1.out Y3.out.size)
 have HEV:=J (HE.out.kept Y3.out HN1.out (fun _ f=>f.elim))
 cases prt
 ·skip
  obtain ⟨m,hm⟩:∃ m,m=own:=⟨_,rfl⟩
  have BM:=J (show Blk w3 nb 3 #[.int .i64 (m:Int)] from by rw [hm];exact B3.out)
  have KM:=J (show Kept (·=nb) w3 w3 from kR _ _)
  have HM6:=J (show m≤65537 by omega)
  have HMS:=J (show m=satN (own+if hasE kind=true then costF F else 0) from by rw [← HPR.out,hm];exact (satN_self zb85).symm)
  clear hm
  go_upto_region 7 with (fail)
  clear e1 e2
  have hk2:¬ kind=2:=fun h=>by have:=HPR.out;rw [h] at this;cases this
  have he2:(kind == 2)=false:=by simpa using hk2
  refine zy75 ?_;intro i1 i2 i3 i4 i5
  go_upto_region 9 with (fail)
  by_cases hk3:kind=3
  ·skip
   have he3:(kind == 3)=true:=by rw [hk3];rfl
   by_cases hlh:low≤high
   ·skip
    have hle:decide (low≤high)=true:=decide_eq_true hlh
    have HIL2:=J (HIL.out (.inr hk3))
    have ilo:=HLH.out.1
    have ihi:=HLH.out.2
    unfold i64ok at ilo ihi
    have hu:IntKind.u64.wrap (IntKind.u64.wrap high - IntKind.u64.wrap low)=high - low:=by simp only [IntKind.wrap_u64];omega
    obtain ⟨Q0,hQ0⟩:∃ Q0:Int,Q0=min (high - low) 65536:=⟨_,rfl⟩
    have hmn:min (high - low) 65536=Q0:=hQ0.symm
    have hQb:0≤Q0∧Q0≤65536:=by omega
    have hw1:IntKind.i64.wrap Q0=Q0:=wrap_i64 zb74
    have hw2:IntKind.i64.wrap (Q0+1)=Q0+1:=wrap_i64 zb74
    have hzl:=satN_le (costB l)
    have hw3:IntKind.i64.wrap (4+(satN (costB l):Int))=4+(satN (costB l):Int):=wrap_i64 zb74
    obtain ⟨M,hM⟩:∃ M:Nat,M=(Q0.toNat+1) * (4+satN (costB l)):=⟨_,rfl⟩
    have hMI:(Q0+1) * (4+(satN (costB l):Int))=(M:Int):=by
     rw [hM,Int.natCast_mul,Int.natCast_add,Int.natCast_add]
     congr 1
     omega
    have hMb:M≤65537 * 65541:=by rw [hM];exact Nat.mul_le_mul zb85 zb85
    have hw4:IntKind.i64.wrap ((Q0+1) * (4+(satN (costB l):Int)))=(M:Int):=by rw [hMI];exact wrap_i64 zb74
    have HMB:=J hMb
    have HSF:=J (show satN (satN (m+M))=satN (costS1 kind F low high l els) from by
     unfold costS1
     rw [satN_self (satN_le _),if_neg hk2,if_pos (And.intro hk3 hlh),← hQ0,hM,satN_mul,HMS.out,satN_add,HOW.out])
    clear hk2 hk3 hlh hQ0 hQb hzl hM hMI hMb ilo ihi
    go_wp2_with fail
    refine (HIL2.out ex st N lA _ _ (HC3.out.kept (KM.out) HCE.out.1 HCE.out.2) ((HL.out.kept Y3.out HN1.out (fun _ f=>f.elim)).kept (KM.out) HN3b.out (fun i e=>by have:=HN3.out.1;omega)) (Nat.le_trans HN3b.out (KM.out).size)).mono ?_
    rintro e w5 ⟨rfl,y5⟩
    clear i1 i2 i3 i4 i5
    go_wp2_with fail
    refine (bsum1_any nb m M _ HM6.out (by have:=HMB.out;omega) (bX BM.out y5)).mono ?_
    rintro e w7 ⟨rfl,b7,k7⟩
    have BF:=J b7
    have KF:=J (KM.out.trans ((y5.mono (fun _ _ f=>f.elim)).trans k7))
    have HM6:=J (satN_le (m+M))
    clear hmn hu hw1 hw2 hw3 hw4 b7 k7 y5
    generalize satN (m+M)=z at BF HM6 HSF ⊢
    exact zz53
   ·skip
    have HSF:=J (show satN m=satN (costS1 kind F low high l els) from by
     unfold costS1
     rw [HMS.out,if_neg hk2,if_neg (show ¬ (kind=3∧low≤high) from fun h=>hlh h.2),Nat.add_zero,HOW.out,satN_self (satN_le _)])
    have hle:decide (low≤high)=false:=decide_eq_false hlh
    clear hk2 hk3 hlh
    exact zz44
  ·skip
   have HSF:=J (show satN m=satN (costS1 kind F low high l els) from by
    unfold costS1
    rw [HMS.out,if_neg hk2,if_neg (show ¬ (kind=3∧low≤high) from fun h=>hk3 h.1),Nat.add_zero,HOW.out,satN_self (satN_le _)])
   have he3:(kind == 3)=false:=by simpa using hk3
   clear hk2 hk3
   exact zz44
 ·skip
  have HK3:=J (show Kept (·=nb) w3 w3 from kR _ _)
  have q4:=bK (bX H4.out Y3.out) HK3.out HQ.out.1
  have q7:=bK (bX H7.out Y3.out) HK3.out HQ.out.2.1
  have i1:=bC q7
  have i2:=q7.lt
  have i3:=bH q4
  have i4:=bG q4
  have i5:=q4.lt
  clear q4 q7
  go_wp2_with fail
  clear i1 i2 i3 i4 i5 e1 e2
  refine (ball_any F ex st N A _ nb own _ HC3.out HEV.out zb85 B3.out HN3.out.1).mono ?_
  rintro e wc ⟨rfl,b4,k4⟩
  have BM:=J b4
  have KM:=J k4
  have HM6:=J (satN_le (own+costF F))
  have HMS:=J (show satN (own+costF F)=satN (own+if hasE kind=true then costF F else 0) from by rw [← HPR.out];rfl)
  clear b4 k4
  generalize satN (own+costF F)=m at BM HM6 HMS ⊢
  by_cases hk2:kind=2
  ·skip
   have HSS:=J (show satN (m+max (costB l) (costB els))=satN (costS1 kind F low high l els) from by
    unfold costS1
    rw [HMS.out,satN_add,if_pos hk2,HOW.out])
   have he2:(kind == 2)=true:=by rw [hk2];rfl
   have HIL2:=J (HIL.out (.inl hk2))
   have HIX2:=J (HIX.out hk2)
   clear hk2
   refine zy75 ?_;intro i1 i2 i3 i4 i5
   go_upto_region 8 with (fail)
   clear i1 i2 i3 i4 i5
   refine qr3 (fun wz=>Kept (·=nb) wc wz) [(0,2),(1,1),(2,2),(3,1),(5,1),(6,2),(7,1),(4,0),(8,0),(9,1),(10,0)] ?_;refine qrl ?_
   (repeat first|refine qs3 ?_|refine qt3 (Kept.drew (kR _ _)) (by intro w1 hS;have q4:=bK (bX H4.out Y3.out) (KM.out.trans hS) HQ.out.1;have q7:=bK (bX H7.out Y3.out) (KM.out.trans hS) HQ.out.2.1;have i1:=bC q7;have i2:=q7.lt;have i3:=bH q4;have i4:=bG q4;have i5:=q4.lt;exact zgo) ?_|refine qp3 (Kept.drew (kR _ _)) ?_)
   have kd:Kept (·=nb) wc wc.drew:=(kR _ wc).drew
   (refine w3_act (fun K hK=>?_);go_simp)
   go_wp2_with fail
   refine (HIL2.out ex st N lA _ _ (HC3.out.kept (KM.out.trans kd) HCE.out.1 HCE.out.2) ((HL.out.kept Y3.out HN1.out (fun _ f=>f.elim)).kept (KM.out.trans kd) HN3b.out (fun i e=>by have:=HN3.out.1;omega)) (Nat.le_trans HN3b.out (KM.out.trans kd).size)).mono ?_
   rintro e w5 ⟨rfl,y5⟩
   have k5:=kd.trans (y5.mono (fun _ _ f=>f.elim))
   refine hK.out _ _ (fun _=>k5) ?_
   clear hK K
   refine zy23 ?_;intro K hK
   go_wp2_with fail
   refine (HIX2.out ex st N xA _ _ (HC3.out.kept (KM.out.trans k5) HCE.out.1 HCE.out.2) ((HX.out.kept Y3.out HN1.out (fun _ f=>f.elim)).kept (KM.out.trans k5) HN3b.out (fun i e=>by have:=HN3.out.1;omega)) (Nat.le_trans HN3b.out (KM.out.trans k5).size)).mono ?_
   rintro e w6 ⟨rfl,y6⟩
   have k6:=k5.trans (y6.mono (fun _ _ f=>f.elim))
   refine hK.out _ _ (fun _=>k6) ?_
   clear hK K
   (repeat first|refine qs3 ?_|refine qt3 k6 (by intro w1 hS;exact zgo) ?_|refine qp3 k6 ?_)
   (refine w3_act (fun K hK=>?_);go_simp)
   go_wp2_with fail
   refine (bsum1_any nb m (max (satN (costB l)) (satN (costB els))) _ HM6.out (by have a:=satN_le (costB l);have b:=satN_le (costB els);omega) (bX (bX (Blk.drew BM.out) y5) y6)).mono ?_
   rintro e w7 ⟨rfl,b7,k7⟩
   refine hK.out _ _ (fun _=>k6.trans k7) ?_
   clear hK K
   refine qf3 ?_
   have BF:=J b7
   have KF:=J (KM.out.trans (k6.trans k7))
   have HM6:=J (satN_le (m+max (satN (costB l)) (satN (costB els))))
   have HSF:=J (show satN (satN (m+max (satN (costB l)) (satN (costB els))))=satN (costS1 kind F low high l els) from by rw [satN_self (satN_le _),satN_max];exact HSS.out)
   generalize satN (m+max (satN (costB l)) (satN (costB els)))=z at BF HM6 HSF b7 ⊢
   clear b7 k7 k6 k5 kd y5 y6
   exact zz53
  ·skip
   have hk3:¬ kind=3:=fun h=>by have:=HPR.out;rw [h] at this;cases this
   have HSF:=J (show satN m=satN (costS1 kind F low high l els) from by
    unfold costS1
    rw [HMS.out,if_neg hk2,if_neg (show ¬ (kind=3∧low≤high) from fun h=>hk3 h.1),Nat.add_zero,HOW.out,satN_self (satN_le _)])
   have he2:(kind == 2)=false:=by simpa using hk2
   have he3:(kind == 3)=false:=by simpa using hk3
   clear hk2 hk3
   refine zy75 ?_;intro i1 i2 i3 i4 i5
   exact zz44
open Go.RowKit So Mc
def okK:SF→Prop
 | .nil=>True
 | .cons kind _ _ _ _ l x r=>(0≤kind∧kind≤9)∧(kind=2 ∨ kind=3→okK l)∧(kind=2→okK x)∧okK r
theorem okK_of {part:Nat}:∀ {F:SF} {κ:Kn} {f:Nat} {top:Bool},chkB part κ f top F=none→okK F
 | .nil,_,_,_,_=>trivial
 | .cons kind s e low high l x r,κ,f,top,h=>by
  rw [chkB_cons,ored_eq_none] at h
  obtain ⟨h1,h2⟩:=h
  unfold chkS at h1
  rw [ored_eq_none,ored_eq_none,ored_eq_none,ored_eq_none,must_none,Bool.and_eq_true] at h1
  obtain ⟨⟨q1,_⟩,-,-,-,q5⟩:=h1
  refine ⟨by simpa [btw] using q1,fun hk=>?_,fun hk=>?_,okK_of h2⟩
  ·rcases hk with hk | hk
   ·rw [if_pos hk,ored_eq_none] at q5
    exact okK_of q5.1
   ·rw [if_neg zb85,if_pos hk] at q5
    exact okK_of q5
  ·rw [if_pos hk,ored_eq_none] at q5
   exact okK_of q5.2
abbrev BlkK (F:SF):Prop:=okK F→BlkB F
set_option maxRecDepth 100000 in
theorem bblock_any (F:SF):BlkK F:=by
 refine sf_ind (C:=BlkK) ?_ F
 clear F
 intro F IH hok ex st N A c w hC hE hN
 obtain ⟨-,hf,b,off,hA,hEF⟩:=hE
 have hm:=hf.max zb85
 obtain ⟨W1,hW1⟩:∃ W1,W1=w.alloc (.cells (cnt ex st) 126):=⟨_,rfl⟩
 have y1:Ext w W1:=by rw [hW1];exact (kR _ w).alloc _
 have h4:Blk W1 w.heap.size 126 (cnt ex st):=by rw [hW1];exact bN w _ _
 have HC:=J (hC.ext y1)
 have HEF:=J (hEF.kept y1 hN (fun _ f=>f.elim))
 have HI:=J IH
 have HOK:=J hok
 have HA:=J hA
 have H4:=J h4
 have HN1:=J (show N≤W1.heap.size from Nat.le_trans hN y1.size)
 obtain ⟨len,hlen⟩:∃ len,len=F.len:=⟨_,rfl⟩
 have HLEN:=J hlen
 rw [← hlen] at hm hA ⊢
 obtain ⟨T,hT⟩:∃ T,T=costB F:=⟨_,rfl⟩
 have HT:=J hT
 rw [← hT]
 clear hC hEF IH hA h4 hf hlen hT hok
 go_enter Tryz.func59,Tryz.ntmps59
 go_upto_region 1 with (fail)
 rw [← hW1]
 have HWS:=J y1.size
 generalize hp4:(w:World).heap.size=p4 at H4 ⊢
 have HP4:=J hp4
 clear hW1 hp4
 refine wp_scope_straight ?_
 go_wp2_with fail
 refine (bsum_any 0 _).mono ?_
 rintro e W2 ⟨rfl,b2,y2⟩
 generalize hnb:(W1:World).heap.size=nb at b2 ⊢
 have HNE:=J (show ¬ p4=nb by have:=H4.out.lt;omega)
 have HNN:=J (show N≤nb∧w.heap.size≤nb from by have a:=HN1.out;have b:=HWS.out;omega)
 clear hnb
 have HB:=J b2
 have HC2:=J (HC.out.ext y2)
 have HCE:=J (HC2.out.ne b2)
 have HY2:=J y2
 have H42:=J (bX H4.out y2)
 have HEF2:=J (HEF.out.kept y2 HN1.out (fun _ f=>f.elim))
 have HN2:=J (show N≤W2.heap.size from Nat.le_trans HN1.out y2.size)
 clear b2 y2
 go_wp2_with fail
 repeat (first | (refine wp_label ?_;simp only [Exit.then]) | go_step)
 go_loopw [11] (fun t11 wr=>∃ (j:Nat) (R:SF) (m:Nat),j+R.len=len∧t11=.int .i64 j∧SFAt W2 N R b (off+j * 7)∧SF.All BlkK R∧okK R∧m≤65537∧satN (m+costB R)=satN T∧Blk wr nb 3 #[.int .i64 m]∧Kept (·=nb) W2 wr) (fun t11 _=>len - (intOf t11).toNat)
 case atStart=>exact ⟨0,F,0,by rw [HLEN.out,Nat.zero_add],rfl,by simpa using HEF2.out,HI.out,HOK.out,by omega,by rw [HT.out,Nat.zero_add],HB.out,kR _ _⟩
 case round =>
  obtain ⟨j,R,m,hj,rfl,hR,hall,hok,hm6,hsum,hbm,hkm⟩:=hrel
  have HRR:=J hR
  have HALL:=J hall
  have HOKR:=J hok
  have HSUM:=J hsum
  have HBM:=J hbm
  have HKM:=J hkm
  have HM6:=J hm6
  clear hR hall hok hsum hbm hkm hm6
  cases R with
  | nil =>
   simp only [SF.len,Nat.add_zero] at hj
   subst hj
   go_wp2_with fail
   refine (bsum1_any nb m 0 _ HM6.out zb85 HBM.out).mono ?_
   rintro e w9 ⟨rfl,b9,k9⟩
   go_wp2_with fail
   simp only [Exit.noGoto]
   go_ret
   refine ⟨congrArg (fun z:Nat=>Ending.returned (.int .i64 z)) HSUM.out,?_⟩
   exact (y1.trans HY2.out).trans' (HKM.out.trans k9) (fun i hi e=>by have:=HNN.out.2;omega)
  | cons kind s es low high l x r =>
   obtain ⟨hbN,-,i2,i3,-,⟨eA,ec,lA,lc,xA,xc,be,oe,bl,ol,bx,ox,hh,hg,n1,n2,n3,a1,a2,a3,he,hl,hxx⟩,hr⟩:=HRR.out
   simp only [SF.len] at hj
   have hlt:(j:Int) < len:=by omega
   obtain rfl:=HA.out (by have:=HLEN.out;omega)
   have hnb:¬ b=nb:=by have:=HNN.out;omega
   have hh':=(has_keep HKM.out (by have:=HN2.out;omega) hnb).trans hh
   have hg':=(gets_keep HKM.out (by have:=HN2.out;omega) hnb).trans hg
   have hbw:b < wr.heap.size:=by have:=HN2.out;have:=HKM.out.size;omega
   have KE:=J (show ESl W2 N eA es.len es from ⟨rfl,n1,be,oe,a1,he⟩)
   have KL:=J (show SSl W2 N lA l.len l from ⟨rfl,n2,bl,ol,a2,hl⟩)
   have KX:=J (show SSl W2 N xA x.len x from ⟨rfl,n3,bx,ox,a3,hxx⟩)
   have HR2:=J hr
   have HI2:=J (And.intro i2 i3)
   clear hh hg n1 n2 n3 a1 a2 a3 he hl hxx hbN hr HRR i2 i3
   have y3:=(kR (fun _=>False) wr).alloc (.cells (scells kind s eA es.len ec low high lA l.len lc xA x.len xc) 151)
   have b3:=bN wr 151 (scells kind s eA es.len ec low high lA l.len lc xA x.len xc)
   have q4:=bK H42.out HKM.out HNE.out
   go_upto_region 5 with (fail)
   clear hh' hg'
   generalize (wr.alloc (.cells (scells kind s eA es.len ec low high lA l.len lc xA x.len xc) 151))=W3 at y3 b3 ⊢
   generalize wr.heap.size=g at b3 hbw ⊢
   have q5:=bX q4 y3
   have l1:=bH q5
   have l2:=bG q5
   have l3:=q5.lt
   have l4:=bH b3
   have l5:=bG b3
   have l6:=b3.lt
   have HY3:=J y3
   clear q4 q5 b3 y3
   go_wp2_with fail
   have hKE:Kept (·=nb) W2 W3:=HKM.out.trans (HY3.out.mono (fun _ _ f=>f.elim))
   have hSN:∀ i,i=nb→N≤i:=fun i e=>by have:=HNN.out.1;omega
   refine (bstmt_any l x ex st N kind low high (fun h=>HALL.out.1 (HOKR.out.2.1 h)) (fun h=>HALL.out.2.1 (HOKR.out.2.2.1 h)) HOKR.out.1 HI2.out.1 HI2.out.2 s eA ec es lA lc xA xc _ ((HC2.out.kept HKM.out HCE.out.1 HCE.out.2).ext HY3.out) (KE.out.kept hKE HN2.out hSN) (KL.out.kept hKE HN2.out hSN) (KX.out.kept hKE HN2.out hSN) (Nat.le_trans HN2.out hKE.size)).mono ?_
   rintro e w4 ⟨rfl,y4⟩
   go_wp2_with fail
   refine (bsum1_any nb m (satN (costS1 kind es low high l x)) _ HM6.out (by have:=satN_le (costS1 kind es low high l x);omega) (bX (bX HBM.out HY3.out) y4)).mono ?_
   rintro e w5 ⟨rfl,b5,k5⟩
   have HS2:=J (show satN (satN (m+satN (costS1 kind es low high l x))+costB r)=satN T from by
    rw [← HSUM.out,satN_add,costB_cons,← Nat.add_assoc]
    unfold satN
    omega)
   have hz6:=satN_le (m+satN (costS1 kind es low high l x))
   generalize satN (m+satN (costS1 kind es low high l x))=z at b5 HS2 hz6 ⊢
   have HZ6:=J hz6
   have HB5:=J b5
   have HK5:=J (hKE.trans ((y4.mono (fun _ _ f=>f.elim)).trans k5))
   clear b5 k5 y4 l1 l2 l3 l4 l5 l6 hKE hSN
   by_cases hbig:65536 < z
   ·have hg:decide ((65536:Int) < (z:Int))=true:=decide_eq_true zb85
    have HBG:=J hbig
    clear hbig hz6
    go_wp2_with fail
    refine (bsum1_any nb z 0 _ HZ6.out zb85 HB5.out).mono ?_
    rintro e w9 ⟨rfl,b9,k9⟩
    go_wp2_with fail
    simp only [Exit.noGoto]
    go_ret
    refine ⟨congrArg (fun z:Nat=>Ending.returned (.int .i64 z)) ?_,?_⟩
    ·rw [← HS2.out]
     have:=HBG.out
     unfold satN
     omega
    ·exact (y1.trans HY2.out).trans' (HK5.out.trans k9) (fun i hi e=>by have:=HNN.out.2;omega)
   ·have hg:decide ((65536:Int) < (z:Int))=false:=decide_eq_false zb85
    clear hbig
    go_wp2_with fail
    go_roundw
    case rel=>exact ⟨j+1,r,z,by omega,by go_num,by rw [Nat.add_mul,← Nat.add_assoc];exact HR2.out,HALL.out.2.2,HOKR.out.2.2.2,hz6,HS2.out,HB5.out,HK5.out⟩
    case measure=>simp only [intOf];omega
end Go.Proofs.YtbfbabbcdochjaaGreatDoor
