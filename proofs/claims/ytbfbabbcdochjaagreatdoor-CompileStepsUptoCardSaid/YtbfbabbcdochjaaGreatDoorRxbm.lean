/- Several texts joined: Jm. -/
import Derived.Test.YtbfbabbcdochjaaGreatDoorRxpk
import Derived.Test.YtbfbabbcdochjaaGreatDoorRxbl
set_option maxHeartbeats 4000000
namespace Go.Proofs.YtbfbabbcdochjaaGreatDoor
open Go.RowKit So Mc
theorem aggCodeT:aggT Tryz.prog 90=true:=by kernel_rfl
theorem sizeCodeT:sizeT Tryz.prog 90=some 14:=by kernel_rfl
attribute [go_sem] aggCodeT sizeCodeT
theorem aggArr5S:aggT Tryz.prog 106=true:=by kernel_rfl
theorem sizeArr5S:sizeT Tryz.prog 106=some 5:=by kernel_rfl
theorem wpLoadArr5S {dst:Option Tmp} {ty':TypeId} {x:Operand} {pos:String} {after:Array Edge} {guard:Option (Nat × Bool)} {a:Act} {w:World} {K:Act→World→Prop} {Q:Exit→Act→World→Prop} (hx:isAt (a.eval x)=true) (hh:has w (blkOf (a.eval x)) (offOf (a.eval x)) 5=true) :
 Oper.wp Tryz.prog { dst:=dst,op:=.load 106 x,type:=ty',pos:=pos,after:=after,guard:=guard } a w K Q=K (a.put dst (.agg (gets w (blkOf (a.eval x)) (offOf (a.eval x)) 5))) w:=wp_load_big 5 aggArr5S sizeArr5S hx hh
attribute [go_sem] aggArr5S sizeArr5S
attribute [go_sem ↓ high] wpLoadArr5S
attribute [go_sem high] wpLoadArr5S
def only (F:SF):Pr:=⟨⟨#[]⟩,0,[],[],F,.nil,[],.nil,⟨#[]⟩,.nil,.nil⟩
theorem only_size (F:SF):psize (only F)=F.size:=by simp [psize,only,SF.size]
abbrev onlyC (s:Sl3):Pc:=⟨⟨#[]⟩,0,⟨none,0,0⟩,⟨none,0,0⟩,s,⟨none,0,0⟩,⟨none,0,0⟩,⟨none,0,0⟩,⟨#[]⟩,⟨none,0,0⟩,⟨none,0,0⟩⟩
theorem only_at {w:World} {N:Nat} {s:Sl3} {F:SF} (h:SSl w N s.A s.n F):PAt w N (onlyC s) (only F):=by
 have f (k:Nat):Fits 0 k:=by unfold Fits;omega
 have hI:ISl w N none 0 []:=⟨rfl,f 8,fun v hv=>by simp at hv,0,0,fun h=>by omega,fun h=>by omega⟩
 have hV:VSl w N none 0 []:=⟨rfl,f 40,fun v hv=>by simp at hv,0,0,fun h=>by omega,fun h=>by omega⟩
 have hS:SSl w N none 0 .nil:=⟨rfl,f 112,0,0,fun h=>by omega,trivial⟩
 exact ⟨rfl,Nat.zero_le _,rfl,by show i64ok 0;unfold i64ok;omega,hI,hV,h,hS,hV,hS,rfl,Nat.zero_le _,hS,hS⟩
abbrev st5 (p:Pr):Array Value:=#[.int .i64 (stepN p 0:Nat),.int .i64 (stepN p 1:Nat),.int .i64 (stepN p 2:Nat),.int .i64 (stepN p 3:Nat),.int .i64 (stepN p 4:Nat)]
abbrev box5 (c:Pc):Array Value:=#[c.start.v,c.turn.v,c.play.v,c.quiet.v,c.pays.v]
theorem meetC {F M:World→Option Addr→Nat→Nat→Prop} {G:Prop} (h:(∀ W A a b,F W A a b→M W A a b)→G) (h2:∀ W A a b,F W A a b→M W A a b):G:=h h2
abbrev kd0 (p:Pr) (seats:Int) (A:Option Addr) (n cp:Nat) (s:Sl3):Cd:=⟨cells p.vars,seats,s,⟨A,n,cp⟩,⟨none,0,0⟩,⟨none,0,0⟩,⟨none,0,0⟩,⟨none,0,0⟩,⟨none,0,0⟩,stepN p⟩
def InsL (w:World) (lo:Nat) (s:Sl3) (l:List Ins):Prop:=s.n=l.length∧∃ b,s.A=some ⟨b,0,none⟩∧lo < b∧Row w b 0 (inss l)
theorem InsL.kept {S:Nat→Prop} {w w':World} {lo:Nat} {s:Sl3} {l:List Ins} (h:InsL w lo s l) (hk:Kept S w w') (hS:∀ i,S i→i≤lo):InsL w' lo s l:=by
 obtain ⟨h1,b,h2,h3,h4⟩:=h
 exact ⟨h1,b,h2,h3,h4.kept hk (fun q=>by have:=hS b q;omega)⟩
theorem InsL.below {w:World} {lo:Nat} {s:Sl3} {l:List Ins} (h:InsL w lo s l):InsS w w.heap.size s l:=by
 obtain ⟨h1,b,h2,h3,h4⟩:=h
 exact ⟨h1,b,h2,h4.lt,h4⟩
theorem InsL.of_own {w:World} {base lo:Nat} {s:Sl3} {l:List Ins} (h:w.ownsRow base 77 4 s.v s.n (inss l)) (hl:0 < l.length) (hb:lo < base):InsL w lo s l:=by
 have hn:s.n=l.length:=by
  have:=h.1
  rw [inss_length] at this
  omega
 obtain ⟨g,c,e,hr,hg,-⟩:=own_rows h zb85 zb84
 obtain ⟨A,n,cc⟩:=s
 simp only [Sl3.v,Value.slice.injEq] at e
 exact ⟨hn,g,e.1,by omega,hr⟩
abbrev kdI (p:Pr) (seats:Int) (A:Option Addr) (n cp:Nat) (s:Sl3) (I:Nat→Sl3):Cd:=⟨cells p.vars,seats,s,⟨A,n,cp⟩,I 0,I 1,I 2,I 3,I 4,stepN p⟩
def made0 (W7:World) (p:Pr) (seats:Int) (n:Nat) (W:World) (A:Option Addr) (cp cb:Nat):Prop :=
 Ext W7 W∧VSl W cb A n p.params∧Blk W cb 90 (kd0 p seats A n cp ⟨none,0,0⟩).c∧W7.heap.size≤cb
set_option maxRecDepth 100000 in
theorem compile_any (c:Pc) (p:Pr) (N:Nat) (w:World) (hN4:4 < N) (hN:N≤w.heap.size) (hP:PAt w N c p) (hL:LaidAt w) (hz:psize p≤1099511627776) :
 Calls Tryz.prog 21 #[.agg c.cells] w fun e w'=>Ext w w'∧CompOut p w' e:=by
 have y0:=(kR (fun _=>False) w).alloc (.cells c.cells 57)
 have hB:=bN w 57 c.cells
 have HP:=J (hP.ext y0 hN)
 have HLA:=J (hL.ext y0)
 have hN1:=Nat.le_trans hN y0.size
 obtain ⟨X,hX⟩:∃ X,X=check p:=⟨_,rfl⟩
 have HX:=J hX
 have HZ:=J hz
 clear hP hL hX hz
 go_enter Tryz.func21,Tryz.ntmps21
 go_upto_region 1 with (fail)
 generalize (w.alloc (.cells c.cells 57))=W1 at y0 hB HP HLA hN1 ⊢
 generalize w.heap.size=pb at hB ⊢
 have HB:=J hB
 have i1:=bH hB
 have i2:=bG hB
 have i3:=hB.lt
 have HY0:=J y0
 have HN1:=J hN1
 clear hB
 go_wp2_with fail
 refine (scheck_any c p N _ hN4 hN1 HP.out HLA.out).mono ?_
 rintro e W2 ⟨rfl,y2⟩
 clear i1 i2 i3 y0
 rw [← HX.out]
 have HY2:=J y2
 cases X with
 | some f =>
  have hne:(f.e != 0)=true:=bne_iff_ne.2 (nz_of p f HX.out.symm)
  have y3:=(kR (fun _=>False) W2).alloc (.cells #[.int .i64 f.e,.string f.name] 104)
  have hF:=bN W2 104 #[.int .i64 f.e,.string f.name]
  clear y2
  rw [show fltC (some f)=#[.int .i64 f.e,.string f.name] from rfl]
  go_upto_region 2 with (fail)
  generalize (W2.alloc (.cells #[.int .i64 f.e,.string f.name] 104))=W3 at y3 hF ⊢
  generalize W2.heap.size=fb at hF ⊢
  have j1:=bC hF
  have j2:=hF.lt
  have HY3:=J y3
  clear y3
  go_upto_region 3 with (fail)
  go_quiet (fail)
  go_wp2_with fail
  go_ret2
  exact ⟨(HY0.out.trans HY2.out).trans (Kept.drewN HY3.out _),.bad f HX.out.symm⟩
 | none =>
  have HCK:=J (Chk.of HX.out.symm HZ.out)
  have y3:=(kR (fun _=>False) W2).alloc (.cells #[.int .i64 0,.string ⟨#[]⟩] 104)
  have hF:=bN W2 104 #[.int .i64 0,.string ⟨#[]⟩]
  rw [show fltC none=#[.int .i64 0,.string ⟨#[]⟩] from rfl]
  go_upto_region 2 with (fail)
  generalize (W2.alloc (.cells #[.int .i64 0,.string ⟨#[]⟩] 104))=W3 at y3 hF ⊢
  have HY3:=J (y2.trans y3)
  clear y2
  generalize W2.heap.size=fb at hF ⊢
  have j1:=bC hF
  have j2:=hF.lt
  have HB3:=J (HB.out.ext HY3.out)
  clear y3
  have i1:=bC HB3.out
  have i2:=HB3.out.lt
  go_upto_region 4 with (fail)
  have y5:=(kR (fun _=>False) W3).alloc (.cells (box5 c) 106)
  have hA:=bN W3 106 (box5 c)
  clear j1 j2
  go_upto_region 5 with (fail)
  generalize (W3.alloc (.cells (box5 c) 106))=W5 at y5 hA ⊢
  generalize W3.heap.size=ab at hA ⊢
  have HY5:=J (HY3.out.trans y5)
  have HB5:=J (HB3.out.ext y5)
  have HP5:=J (HP.out.ext HY5.out HN1.out)
  have HL5:=J (HLA.out.ext HY5.out)
  have HA5:=J hA
  have HN5:=J (Nat.le_trans HN1.out HY5.out.size)
  clear y5 hA i1 i2
  have i1:=bH HA5.out
  have i2:=bG HA5.out
  have i3:=HA5.out.lt
  clear hN1
  go_upto_region 6 with (fail)
  clear i1 i2 i3
  go_loopw [34] (fun t34 wr=>∃ (j:Nat),j≤5∧t34=.int .i64 j∧(∀ i,i < j→(partOf p i).size≤256)∧Ext W5 wr) (fun t34 _=>5 - (intOf t34).toNat)
  case atStart=>exact ⟨0,by omega,rfl,fun i hi=>by omega,kR _ _⟩
  case round =>
   obtain ⟨j,hj,rfl,hall,hk⟩:=hrel
   have HALL:=J hall
   have HK:=J hk
   clear hall hk
   by_cases hj5:j=5
   ·subst hj5
    have i1:=bH (HB5.out.ext HK.out)
    have i2:=bG (HB5.out.ext HK.out)
    have i3:=(HB5.out.ext HK.out).lt
    go_wp2_with fail
    refine (bsteps_any c p N _ (Nat.le_trans HN5.out HK.out.size) (HP5.out.ext HK.out HN5.out) HCK.out.okK).mono ?_
    rintro e w6 ⟨hd,y6⟩
    clear i1 i2 i3
    have HK6:=J (HK.out.trans y6)
    have HNL:=J (show ¬ longAt p from fun ⟨i,hi,h⟩=>by have:=HALL.out i hi;omega)
    clear y6
    rcases hd with ⟨hall,rfl⟩ | ⟨hex,rfl⟩
    rotate_left
    ·have HEX:=J hex
     clear hex
     have y7:=(kR (fun _=>False) w6).alloc (.cells #[.int .i64 0,.int .i64 0,.int .i64 0,.int .i64 0,.int .i64 0] 62)
     go_upto_region 12 with (fail)
     generalize (w6.alloc (.cells #[.int .i64 0,.int .i64 0,.int .i64 0,.int .i64 0,.int .i64 0] 62))=w7 at y7 ⊢
     have HY7:=J y7
     clear y7
     go_wp2_with fail
     go_ret2
     exact ⟨(HY0.out.trans HY5.out).trans (HK6.out.trans HY7.out),.steps HX.out.symm HNL.out HEX.out⟩
    have HSTP:=J hall
    clear hall
    have y7:=(kR (fun _=>False) w6).alloc (.cells (st5 p) 62)
    have hM:=bN w6 62 (st5 p)
    go_upto_region 12 with (fail)
    generalize (w6.alloc (.cells (st5 p) 62))=w7 at y7 hM ⊢
    generalize w6.heap.size=sb at hM ⊢
    have HY7:=J (HK6.out.trans y7)
    have HM7:=J hM
    clear y7 hM
    go_upto_region 14 with (fail)
    apply meetC (F:=made0 w7 p c.seats c.params.n)
    case h =>
     intro KEY0
     have KEY:=J KEY0
     clear KEY0
     refine qr4 (fun wz=>Ext w7 wz) (.op 0 1 (.op 2 2 (.op 3 1 (.op 4 2 (.op 5 1 (.op 7 1 (.op 1 0 (.op 6 0 (.op 8 2 (.op 9 0 (.op 10 2 .nil))))))))))) ?_;refine qrp ?_
     have HW0:=J (show Ext w7 w7.drew from (kR _ w7).drew)
     have HB7:=J (HB5.out.ext HY7.out)
     have HP7:=J (HP5.out.ext HY7.out HN5.out)
     have HN7:=J (Nat.le_trans HN5.out HY7.out.size)
     (repeat (first | refine qs4 ?_ | ((apply w4_take);(· exact HW0.out);(· go_simp);(· (intro w1 hS;have d0:=bX HB7.out hS;have d1:=bH d0;have d2:=bG d0;have d3:=d0.lt;have d4:=bC d0;have e0:=bX HM7.out hS;have e1:=bH e0;have e2:=bG e0;have e3:=e0.lt; go_simp;try with_reducible rfl));refine qnx ?_) | ((apply w4_pass);(· exact HW0.out);(· go_simp);refine qnx ?_)))
     (refine w4_act (fun K hK=>?_);go_simp)
     go_wp2_with fail
     refine (scells_any c p N _ (Nat.le_trans HN7.out (HW0.out).size) (HP7.out.ext (HW0.out) HN7.out)).mono ?_
     rintro e w8 ⟨rfl,hx8⟩
     have y8:=(HW0.out).trans hx8
     refine hK.out _ _ (fun _=>y8) ?_
     clear hK K
     (repeat (first | refine qs4 ?_ | ((apply w4_take);(· exact y8);(· go_simp);(· (intro w1 hS;have d0:=bX HB7.out hS;have d1:=bH d0;have d2:=bG d0;have d3:=d0.lt;have d4:=bC d0;have e0:=bX HM7.out hS;have e1:=bH e0;have e2:=bG e0;have e3:=e0.lt; go_simp;try with_reducible rfl));refine qnx ?_) | ((apply w4_pass);(· exact y8);(· go_simp);refine qnx ?_)))
     (refine w4_act (fun K hK=>?_);go_simp)
     go_wp2_with fail
     refine (vclone_any c.params.A c.params.c N p.params c.params.n _ (VSl.kept HP7.out.params (y8) (fun _ q=>q.elim)) (by have:=HP7.out.params.1;have:=HCK.out.np;omega)).mono ?_
     rintro e w9 ⟨A',c',rfl,hv9,hx9⟩
     have y9:=(y8).trans hx9
     refine hK.out _ _ (fun _=>y9) ?_
     clear hK K
     (repeat (first | refine qs4 ?_ | ((apply w4_take);(· exact y9);(· go_simp);(· (intro w1 hS;have d0:=bX HB7.out hS;have d1:=bH d0;have d2:=bG d0;have d3:=d0.lt;have d4:=bC d0;have e0:=bX HM7.out hS;have e1:=bH e0;have e2:=bG e0;have e3:=e0.lt; go_simp;try with_reducible rfl));refine qnx ?_) | ((apply w4_pass);(· exact y9);(· go_simp);refine qnx ?_)))
     refine qf4 ?_
     have ya:Ext w9 (w9.alloc (.cells (kd0 p c.seats A' c.params.n c' ⟨none,0,0⟩).c 90)):=(kR (fun _=>False) w9).alloc _
     have hbm:=bN w9 90 (kd0 p c.seats A' c.params.n c' ⟨none,0,0⟩).c
     have hml:w7.heap.size≤w9.heap.size:=y9.size
     have hv:=VSl.kept (hv9) ya (fun _ q=>q.elim)
     have yb:=y9.trans ya
     clear ya
     generalize (w9.alloc (.cells (kd0 p c.seats A' c.params.n c' ⟨none,0,0⟩).c 90))=W9 at yb hbm hv ⊢
     generalize w9.heap.size=cb at hbm hml hv ⊢
     exact KEY.out _ _ _ _ ⟨yb,hv,hbm,hml⟩
    intro w9 pA pc cb hmade
    obtain ⟨y9,hv9,hbm,hcl⟩:=hmade
    have HB9:=J (HB5.out.ext (HY7.out.trans y9))
    have HP9:=J (HP5.out.ext (HY7.out.trans y9) HN5.out)
    have HA9:=J (HA5.out.ext (HY7.out.trans y9))
    have HY9:=J (HY7.out.trans y9)
    have HV9:=J hv9
    have HC9:=J hbm
    have HNC:=J (show N≤cb by have:=HN5.out;have:=HY7.out.size;omega)
    have HNB:=J (show ab < cb∧pb < cb∧cb < w9.heap.size∧w.heap.size≤cb by have:=HY7.out.size;have:=HA5.out.lt;have:=HB5.out.lt;have:=hbm.lt;have:=HY0.out.size;have:=HY5.out.size;omega)
    obtain ⟨B,hB⟩:∃ B,B=w9.heap.size:=⟨_,rfl⟩
    have HBB:=J hB
    clear y9 hv9 hbm hcl hB
    obtain ⟨hvn,hvf,hvo,vb,vo,hvA,hvE⟩:=HP9.out.vars
    have hvm:=hvf.max zb85
    have HVN:=J hvn
    have HVA:=J hvA
    have HVE:=J hvE
    clear hvn hvf hvo hvA hvE
    have a1:=bC HB9.out
    have a2:=HB9.out.lt
    go_wp2_with fail
    clear a1 a2
    go_loopw [63] (fun t63 wr=>∃ (j:Nat) (s:Sl3),j≤c.vars.n∧t63=.int .i64 j∧wr.ownsRow B 21 1 s.v s.n (mems (firsts (p.vars.take j)))∧Blk wr cb 90 (kd0 p c.seats pA c.params.n pc s).c∧Kept (·=cb) w9 wr) (fun t63 _=>c.vars.n - (intOf t63).toNat)
    case atStart=>exact ⟨0,⟨none,0,0⟩,Nat.zero_le _,rfl,⟨by simp [mems,firsts],.inl ⟨rfl,rfl⟩⟩,HC9.out,kR _ _⟩
    case round =>
     obtain ⟨j,s,hj,rfl,ho,hc,hk⟩:=hrel
     have HOJ:=J ho
     have HCJ:=J hc
     have HKJ:=J hk
     clear ho hc hk
     by_cases hlt:j < c.vars.n
     ·have hjl:j < p.vars.length:=by have:=HVN.out;omega
      have hltI:(j:Int) < c.vars.n:=by omega
      have hAA:=HVA.out zb85
      obtain ⟨hvb,hrow⟩:=HVE.out zb85
      have hrw:=hrow.kept HKJ.out (by have:=HNC.out;omega)
      obtain ⟨u2,u3⟩:=vr_at hrw j hjl
      have u1:=hrw.lt
      have HTK:=J (firsts_take hjl)
      have HVK:=J (chkVars_mem p.vars [] HCK.out.vars p.vars[j] (List.getElem_mem _))
      generalize p.vars[j]=v at u3 HTK HVK
      clear hrow hrw hvb
      have y0:=(kR (fun _=>False) wr).alloc (.cells (vcells v) 109)
      have hB0:=bN wr 109 (vcells v)
      rw [hAA]
      go_upto_region 18 with (fail)
      generalize (wr.alloc (.cells (vcells v) 109))=W6 at y0 hB0 ⊢
      generalize wr.heap.size=g at hB0 ⊢
      have HG6:=J hB0
      have HO6:=J (own_ext HOJ.out y0)
      have HC6:=J (HCJ.out.ext y0)
      have HK6:=J (HKJ.out.trans (Kept.ext y0))
      clear y0 hB0 u1 u2 u3 hAA
      obtain ⟨m,hm,hm2⟩:∃ m:Nat,max v.size 1=(m:Int)∧m=(So.cellsV v).toNat:=by
       have:=HVK.out
       refine ⟨(So.cellsV v).toNat,?_,rfl⟩
       have:=vcell_pos v
       unfold So.cellsV at *
       split at this <;> omega
      have HM:=J hm2
      obtain ⟨z,hz0⟩:∃ z,z=min (max 0 v.low) v.high:=⟨_,rfl⟩
      have HZV:=J hz0
      have HM64:=J (show m≤64 by have:=HVK.out;omega)
      clear hm2 hz0
      have g1:=bC HG6.out
      have g2:=HG6.out.lt
      go_upto_region 19 with (fail)
      try rw [hm]
      clear g1 g2 hm
      go_loopw [70] (fun t70 wr=>∃ (i:Nat) (s:Sl3),i≤m∧t70=.int .i64 i∧wr.ownsRow B 21 1 s.v s.n (mems (firsts (p.vars.take j) ++ List.replicate i z))∧Blk wr cb 90 (kd0 p c.seats pA c.params.n pc s).c∧Blk wr g 109 (vcells v)∧Kept (·=cb) w9 wr) (fun t70 _=>m - (intOf t70).toNat)
      case atStart=>exact ⟨0,s,Nat.zero_le _,rfl,by simpa using HO6.out,HC6.out,HG6.out,HK6.out⟩
      case round =>
       obtain ⟨i,q,hi,rfl,ho,hc,hg,hk⟩:=hrel
       have HOI:=J ho
       have HCI:=J hc
       have HGI:=J hg
       have HKI:=J hk
       clear ho hc hg hk
       by_cases hli:i < m
       ·have hliI:(i:Int) < m:=by omega
        go_upto_region 20 with (fail)
        have hcv:IntKind.i32.wrap (min (max 0 v.low) v.high)=z:=by
         have h:=HVK.out
         rw [HZV.out]
         refine wrap32_id ?_
         unfold i32ok at *
         omega
        have hncb:¬ q.v.ownBlock=some cb:=fun e=>own_other HOI.out (E':=90) zb84 cb e _ _ HCI.out
        have hng:¬ q.v.ownBlock=some g:=fun e=>own_other HOI.out (E':=109) zb84 g e _ _ HGI.out
        have HNO:=J (And.intro hncb hng)
        clear hncb hng
        have hqn:q.n≤128:=by
         have h1:=HOI.out.1
         have h2:=firsts_take_len (l:=p.vars) j HCK.out.cells
         have h3:=HM64.out
         rw [mems_len,List.length_append,List.length_replicate] at h1
         omega
        have HQN:=J hqn
        clear hqn
        refine qr3 (fun wz=>Kept (fun i=>q.v.ownBlock=some i) wr wz) [(0,2),(1,2),(2,2),(3,2),(4,1),(5,2),(6,1),(7,1),(8,2),(9,1),(10,1),(11,1),(12,0),(13,0),(14,2),(15,2),(16,0)] ?_;refine qrl ?_
        have yd:Kept (fun i=>q.v.ownBlock=some i) wr wr.drew:=(kR _ wr).drew
        (repeat first|refine qs3 ?_|refine qt3 yd (by intro w1 hS;have d0:=bK HCI.out hS HNO.out.1;have d1:=bC d0;have d2:=d0.lt;have e0:=bK HGI.out hS HNO.out.2;have e1:=bC e0;have e2:=e0.lt;exact zgo) ?_|refine qp3 yd ?_)
        (refine w3_act (fun K hK=>?_);go_simp)
        have yA:Ext wr (wr.alloc (.cells #[.int .i32 z] 21)).drew:=((kR _ wr).alloc _).drew
        refine hK.out _ _ (fun _=>Kept.ext yA) ?_
        clear hK K
        have hrz:Row (wr.alloc (.cells #[.int .i32 z] 21)).drew wr.heap.size 0 (mems [z]):=by
         have h:=Row.of_blk (bN wr 21 #[.int .i32 z])
         exact h.ext (kR _ _).drew
        obtain ⟨v',wa,hra,hoa,hka⟩:=appM _ B q.v q.n _ (own_ext HOI.out yA) wr.heap.size 0 1 1 [z] rfl hrz zb69 (by rw [HBB.out];exact Nat.le_trans HKI.out.size yA.size)
        obtain ⟨A',cp',rfl⟩:=own_slice32 hoa
        have yb:Kept (fun i=>q.v.ownBlock=some i) wr wa:=(Kept.ext yA).trans hka
        have HOA:=J hoa
        have HYB:=J yb
        clear hoa hka yA hrz yd
        refine w3_act (fun K hK=>?_)
        refine if_want' rfl ?_
        refine Lib.wp_append_run _ _ _ _ _ rfl _ _ rfl rfl _ _ hra ?_
        refine hK.out _ _ (fun _=>yb) ?_
        clear hK K hra yb
        have hcw:=bK HCI.out HYB.out HNO.out.1
        have c1:=bC hcw
        have c2:=hcw.lt
        have c3:=Blk.frozen hcw
        have HCW:=J hcw
        clear hcw
        refine qf3 ?_
        have hna:¬ (Value.slice A' (q.n+1) cp').ownBlock=some cb:=fun e=>own_other HOA.out (E':=90) zb84 cb e _ _ HCW.out
        have hset:Kept (·=cb) wa (wa.setCell ⟨cb,2,none⟩ (.slice A' (q.n+1) cp')):=Kept.setCell (kR _ _) _ _ (fun _=>rfl)
        have HO8:=J (own_kept HOA.out hset (fun x hx e=>by subst e;exact hna hx))
        have HC8:=J (show Blk (wa.setCell ⟨cb,2,none⟩ (.slice A' (q.n+1) cp')) cb 90 (kd0 p c.seats pA c.params.n pc ⟨A',q.n+1,cp'⟩).c from Blk.set_ HCW.out 2 _)
        have hgc:¬ g=cb:=fun e=>by have h1:=HGI.out;have h2:=HCI.out;rw [e] at h1;unfold Blk at h1 h2;rw [h1] at h2;injection h2 with h2;injection h2 with _ h2;exact absurd h2 zb84
        have HG8:=J (bK (bK HGI.out HYB.out HNO.out.2) hset hgc)
        have HK8:=J ((HKI.out.trans' (S':=fun i=>q.v.ownBlock=some i) HYB.out (fun x hx e=>by have:=(HOI.out.lt x e).1;have:=HBB.out;omega)).trans hset)
        clear c1 c2 c3 hna hset hgc hcv
        generalize (wa.setCell ⟨cb,2,none⟩ (.slice A' (q.n+1) cp'))=w8 at HO8 HC8 HG8 HK8 ⊢
        have hm64:=HM64.out
        go_wp2_with fail
        go_roundw
        case rel=>exact ⟨i+1,⟨A',q.n+1,cp'⟩,hli,by go_num,by rw [List.replicate_succ',← List.append_assoc];exact HO8.out,HC8.out,HG8.out,HK8.out⟩
        case measure=>simp only [intOf];omega
       ·obtain rfl:i=m:=by omega
        have HOE:=J (show wr.ownsRow B 21 1 q.v q.n (mems (firsts (p.vars.take (j+1)))) from by rw [HTK.out,← HZV.out,← HM.out];exact HOI.out)
        go_wp2_with fail
        go_roundw
        case rel=>exact ⟨j+1,q,hlt,by go_num,HOE.out,HCI.out,HKI.out⟩
        case measure=>simp only [intOf];omega
     ·obtain rfl:j=c.vars.n:=by omega
      have HOF:=J (show wr.ownsRow B 21 1 s.v s.n (mems (firsts p.vars)) from by have h:=HOJ.out;rw [HVN.out,List.take_length] at h;exact h)
      have HBJ:=J (bK HB9.out HKJ.out zb68)
      have HAJ:=J (bK HA9.out HKJ.out zb68)
      have HPJ:=J (HP9.out.kept HKJ.out (by have:=HNC.out;have:=HNB.out;omega) (fun i e=>by have:=HNC.out;omega))
      have HVJ:=J (VSl.kept HV9.out HKJ.out (fun i e=>by omega))
      have a1:=bH HAJ.out
      have a2:=bG HAJ.out
      have a3:=HAJ.out.lt
      go_wp2_with fail
      clear a1 a2 a3
      go_loopw [91] (fun t91 wx=>∃ (k:Nat) (I:Nat→Sl3),k≤5∧t91=.int .i64 k∧Blk wx cb 90 (kdI p c.seats pA c.params.n pc s I).c∧(∀ i,i < k→InsL wx cb (I i) (codeP p i))∧Kept (·=cb) wr wx) (fun t91 _=>5 - (intOf t91).toNat)
      case atStart=>exact ⟨0,fun _=>⟨none,0,0⟩,by omega,rfl,HCJ.out,fun i hi=>by omega,kR _ _⟩
      case round =>
       obtain ⟨k,I,hk,rfl,hc,hi,hkk⟩:=hrel
       have HCI:=J hc
       have HII:=J hi
       have HKI:=J hkk
       clear hc hi hkk
       by_cases hk5:k=5
       ·subst hk5
        have HFI:=J (own_kept HOF.out HKI.out (fun x hx e=>by subst e;exact own_other HOF.out (E':=90) zb84 _ hx _ _ HCJ.out))
        go_wp2_with fail
        go_ret2
        have h9:Ext w wr:=((HY0.out.trans HY5.out).trans HY9.out).trans' (HKJ.out.trans HKI.out) (fun i hi e=>by have:=HNB.out;omega)
        exact ⟨h9,.ok HX.out.symm HNL.out HSTP.out cb _ ⟨HCI.out.lt,Nat.le_refl _,HCI.out,rfl,HP9.out.seats,I32S.of_own HFI.out,VSl.up (VSl.kept HVJ.out HKI.out (fun i e=>by omega)) (Nat.le_of_lt HCI.out.lt),fun i hi=>by
         rcases (by omega:i=0 ∨ i=1 ∨ i=2 ∨ i=3 ∨ i=4) with rfl | rfl | rfl | rfl | rfl
         ·exact (HII.out 0 zb85).below
         ·exact (HII.out 1 zb85).below
         ·exact (HII.out 2 zb85).below
         ·exact (HII.out 3 zb85).below
         ·exact (HII.out 4 zb85).below,fun i hi=>rfl⟩⟩
       have hj':k=0 ∨ k=1 ∨ k=2 ∨ k=3 ∨ k=4:=by omega
       clear hk hk5
       rcases hj' with rfl | rfl | rfl | rfl | rfl
       ·skip
        have hix:(Instr.index 106 (.agg (box5 c)) (.int .i64 0)).run Tryz.prog wr=.ok c.start.v wr:=idx5 c.start c.turn c.play c.quiet c.pays 0 zb85 wr
        go_upto_region 26 with (fail)
        clear hix
        have HBI:=J (bK HBJ.out HKI.out zb68)
        refine zy110 ?_;intro HPI HCC
        have HSL:=J (show (partOf p 0).size≤256 from Nat.le_of_not_lt (fun h=>HNL.out ⟨0,by omega,h⟩))
        refine zy13 ?_;intro HCP yd K hK
        go_wp2_with fail
        refine (make_any 0 zb85 cb N c p (cells p.vars) c.start.A c.start.n c.start.c (partOf p 0) (knOf p 0) _ (Nat.le_trans zb51 yd.size) (HPI.out.ext yd zb51) ((Kept.cell yd (p:=⟨cb,0,none⟩) HCI.out.lt (fun f=>f)).trans HCC.out) HCP.out.1 zb65 ((HPI.out.ext yd zb51).start) (HCK.out.part 0 zb85) zb72 (topW_bd p (cells p.vars) 0 HCP.out.1 zb65 zb65 HCK.out.np) (topW_zero p (cells p.vars) 0) zb42 HCK.out.np).mono ?_
        rintro e w6 ⟨A',n',c',rfl,hx6,ho6,hok6⟩
        have y6:=yd.trans hx6
        refine hK.out _ _ (fun _=>y6) ?_
        clear hK K
        have HC6:=J (bX HCI.out y6)
        have HO6:=J (show w6.ownsRow (wr.drew.heap.size+1) 77 4 (Sl3.v ⟨A',n',c'⟩) (Sl3.n ⟨A',n',c'⟩) (inss (codeP p 0)) from ho6)
        have HY6:=J y6
        clear ho6 hx6 hok6 y6 yd
        refine zy62 ?_
        have hset:Kept (·=cb) w6 (w6.setCell ⟨cb,4,none⟩ (.slice A' n' c')):=Kept.setCell (kR _ _) _ _ (fun _=>rfl)
        have HL6:=J (InsL.of_own (lo:=cb) HO6.out zb77 zb43)
        have HC8:=J (show Blk (w6.setCell ⟨cb,4,none⟩ (.slice A' n' c')) cb 90 (kdI p c.seats pA c.params.n pc s (fun i=>if i=0 then ⟨A',n',c'⟩ else I i)).c from Blk.set_ HC6.out 4 _)
        have HI8:=J (show ∀ i,i < 0+1→InsL (w6.setCell ⟨cb,4,none⟩ (.slice A' n' c')) cb ((fun i=>if i=0 then ⟨A',n',c'⟩ else I i) i) (codeP p i) from fun i hi=>by
         by_cases e:i=0
         ·subst e
          exact zz100
         ·simp only [e,if_false]
          exact ((HII.out i zb85).kept HY6.out (fun _ f=>f.elim)).kept hset (fun i e=>by omega))
        have HK8:=J ((HKI.out.trans (Kept.ext HY6.out)).trans hset)
        clear hset
        generalize (w6.setCell ⟨cb,4,none⟩ (.slice A' n' c'))=w8 at HC8 HI8 HK8 ⊢
        go_wp2_with fail
        go_roundw
        case rel=>exact ⟨0+1,_,by omega,by go_num,HC8.out,HI8.out,HK8.out⟩
        case measure=>simp only [intOf];omega
       ·skip
        have hix:(Instr.index 106 (.agg (box5 c)) (.int .i64 1)).run Tryz.prog wr=.ok c.turn.v wr:=idx5 c.start c.turn c.play c.quiet c.pays 1 zb85 wr
        go_upto_region 26 with (fail)
        clear hix
        have HBI:=J (bK HBJ.out HKI.out zb68)
        refine zy110 ?_;intro HPI HCC
        have HSL:=J (show (partOf p 1).size≤256 from Nat.le_of_not_lt (fun h=>HNL.out ⟨1,by omega,h⟩))
        refine zy13 ?_;intro HCP yd K hK
        go_wp2_with fail
        refine (make_any 1 zb85 cb N c p (cells p.vars) c.turn.A c.turn.n c.turn.c (partOf p 1) (knOf p 1) _ (Nat.le_trans zb51 yd.size) (HPI.out.ext yd zb51) ((Kept.cell yd (p:=⟨cb,0,none⟩) HCI.out.lt (fun f=>f)).trans HCC.out) HCP.out.1 zb65 ((HPI.out.ext yd zb51).turn) (HCK.out.part 1 zb85) zb72 (topW_bd p (cells p.vars) 1 HCP.out.1 zb65 zb65 HCK.out.np) (topW_zero p (cells p.vars) 1) zb42 HCK.out.np).mono ?_
        rintro e w6 ⟨A',n',c',rfl,hx6,ho6,hok6⟩
        have y6:=yd.trans hx6
        refine hK.out _ _ (fun _=>y6) ?_
        clear hK K
        have HC6:=J (bX HCI.out y6)
        have HO6:=J (show w6.ownsRow (wr.drew.heap.size+1) 77 4 (Sl3.v ⟨A',n',c'⟩) (Sl3.n ⟨A',n',c'⟩) (inss (codeP p 1)) from ho6)
        have HY6:=J y6
        clear ho6 hx6 hok6 y6 yd
        refine zy62 ?_
        have hset:Kept (·=cb) w6 (w6.setCell ⟨cb,5,none⟩ (.slice A' n' c')):=Kept.setCell (kR _ _) _ _ (fun _=>rfl)
        have HL6:=J (InsL.of_own (lo:=cb) HO6.out zb77 zb43)
        have HC8:=J (show Blk (w6.setCell ⟨cb,5,none⟩ (.slice A' n' c')) cb 90 (kdI p c.seats pA c.params.n pc s (fun i=>if i=1 then ⟨A',n',c'⟩ else I i)).c from Blk.set_ HC6.out 5 _)
        have HI8:=J (show ∀ i,i < 1+1→InsL (w6.setCell ⟨cb,5,none⟩ (.slice A' n' c')) cb ((fun i=>if i=1 then ⟨A',n',c'⟩ else I i) i) (codeP p i) from fun i hi=>by
         by_cases e:i=1
         ·subst e
          exact zz100
         ·simp only [e,if_false]
          exact ((HII.out i zb85).kept HY6.out (fun _ f=>f.elim)).kept hset (fun i e=>by omega))
        have HK8:=J ((HKI.out.trans (Kept.ext HY6.out)).trans hset)
        clear hset
        generalize (w6.setCell ⟨cb,5,none⟩ (.slice A' n' c'))=w8 at HC8 HI8 HK8 ⊢
        go_wp2_with fail
        go_roundw
        case rel=>exact ⟨1+1,_,by omega,by go_num,HC8.out,HI8.out,HK8.out⟩
        case measure=>simp only [intOf];omega
       ·skip
        have hix:(Instr.index 106 (.agg (box5 c)) (.int .i64 2)).run Tryz.prog wr=.ok c.play.v wr:=idx5 c.start c.turn c.play c.quiet c.pays 2 zb85 wr
        go_upto_region 26 with (fail)
        clear hix
        have HBI:=J (bK HBJ.out HKI.out zb68)
        refine zy110 ?_;intro HPI HCC
        have HSL:=J (show (partOf p 2).size≤256 from Nat.le_of_not_lt (fun h=>HNL.out ⟨2,by omega,h⟩))
        refine zy13 ?_;intro HCP yd K hK
        go_wp2_with fail
        refine (make_any 2 zb85 cb N c p (cells p.vars) c.play.A c.play.n c.play.c (partOf p 2) (knOf p 2) _ (Nat.le_trans zb51 yd.size) (HPI.out.ext yd zb51) ((Kept.cell yd (p:=⟨cb,0,none⟩) HCI.out.lt (fun f=>f)).trans HCC.out) HCP.out.1 zb65 ((HPI.out.ext yd zb51).play) (HCK.out.part 2 zb85) zb72 (topW_bd p (cells p.vars) 2 HCP.out.1 zb65 zb65 HCK.out.np) (topW_zero p (cells p.vars) 2) zb42 HCK.out.np).mono ?_
        rintro e w6 ⟨A',n',c',rfl,hx6,ho6,hok6⟩
        have y6:=yd.trans hx6
        refine hK.out _ _ (fun _=>y6) ?_
        clear hK K
        have HC6:=J (bX HCI.out y6)
        have HO6:=J (show w6.ownsRow (wr.drew.heap.size+1) 77 4 (Sl3.v ⟨A',n',c'⟩) (Sl3.n ⟨A',n',c'⟩) (inss (codeP p 2)) from ho6)
        have HY6:=J y6
        clear ho6 hx6 hok6 y6 yd
        refine zy62 ?_
        have hset:Kept (·=cb) w6 (w6.setCell ⟨cb,6,none⟩ (.slice A' n' c')):=Kept.setCell (kR _ _) _ _ (fun _=>rfl)
        have HL6:=J (InsL.of_own (lo:=cb) HO6.out zb77 zb43)
        have HC8:=J (show Blk (w6.setCell ⟨cb,6,none⟩ (.slice A' n' c')) cb 90 (kdI p c.seats pA c.params.n pc s (fun i=>if i=2 then ⟨A',n',c'⟩ else I i)).c from Blk.set_ HC6.out 6 _)
        have HI8:=J (show ∀ i,i < 2+1→InsL (w6.setCell ⟨cb,6,none⟩ (.slice A' n' c')) cb ((fun i=>if i=2 then ⟨A',n',c'⟩ else I i) i) (codeP p i) from fun i hi=>by
         by_cases e:i=2
         ·subst e
          exact zz100
         ·simp only [e,if_false]
          exact ((HII.out i zb85).kept HY6.out (fun _ f=>f.elim)).kept hset (fun i e=>by omega))
        have HK8:=J ((HKI.out.trans (Kept.ext HY6.out)).trans hset)
        clear hset
        generalize (w6.setCell ⟨cb,6,none⟩ (.slice A' n' c'))=w8 at HC8 HI8 HK8 ⊢
        go_wp2_with fail
        go_roundw
        case rel=>exact ⟨2+1,_,by omega,by go_num,HC8.out,HI8.out,HK8.out⟩
        case measure=>simp only [intOf];omega
       ·skip
        have hix:(Instr.index 106 (.agg (box5 c)) (.int .i64 3)).run Tryz.prog wr=.ok c.quiet.v wr:=idx5 c.start c.turn c.play c.quiet c.pays 3 zb85 wr
        go_upto_region 26 with (fail)
        clear hix
        have HBI:=J (bK HBJ.out HKI.out zb68)
        refine zy110 ?_;intro HPI HCC
        have HSL:=J (show (partOf p 3).size≤256 from Nat.le_of_not_lt (fun h=>HNL.out ⟨3,by omega,h⟩))
        refine zy13 ?_;intro HCP yd K hK
        go_wp2_with fail
        refine (make_any 3 zb85 cb N c p (cells p.vars) c.quiet.A c.quiet.n c.quiet.c (partOf p 3) (knOf p 3) _ (Nat.le_trans zb51 yd.size) (HPI.out.ext yd zb51) ((Kept.cell yd (p:=⟨cb,0,none⟩) HCI.out.lt (fun f=>f)).trans HCC.out) HCP.out.1 zb65 ((HPI.out.ext yd zb51).quiet) (HCK.out.part 3 zb85) zb72 (topW_bd p (cells p.vars) 3 HCP.out.1 zb65 zb65 HCK.out.np) (topW_zero p (cells p.vars) 3) zb42 HCK.out.np).mono ?_
        rintro e w6 ⟨A',n',c',rfl,hx6,ho6,hok6⟩
        have y6:=yd.trans hx6
        refine hK.out _ _ (fun _=>y6) ?_
        clear hK K
        have HC6:=J (bX HCI.out y6)
        have HO6:=J (show w6.ownsRow (wr.drew.heap.size+1) 77 4 (Sl3.v ⟨A',n',c'⟩) (Sl3.n ⟨A',n',c'⟩) (inss (codeP p 3)) from ho6)
        have HY6:=J y6
        clear ho6 hx6 hok6 y6 yd
        refine zy62 ?_
        have hset:Kept (·=cb) w6 (w6.setCell ⟨cb,7,none⟩ (.slice A' n' c')):=Kept.setCell (kR _ _) _ _ (fun _=>rfl)
        have HL6:=J (InsL.of_own (lo:=cb) HO6.out zb77 zb43)
        have HC8:=J (show Blk (w6.setCell ⟨cb,7,none⟩ (.slice A' n' c')) cb 90 (kdI p c.seats pA c.params.n pc s (fun i=>if i=3 then ⟨A',n',c'⟩ else I i)).c from Blk.set_ HC6.out 7 _)
        have HI8:=J (show ∀ i,i < 3+1→InsL (w6.setCell ⟨cb,7,none⟩ (.slice A' n' c')) cb ((fun i=>if i=3 then ⟨A',n',c'⟩ else I i) i) (codeP p i) from fun i hi=>by
         by_cases e:i=3
         ·subst e
          exact zz100
         ·simp only [e,if_false]
          exact ((HII.out i zb85).kept HY6.out (fun _ f=>f.elim)).kept hset (fun i e=>by omega))
        have HK8:=J ((HKI.out.trans (Kept.ext HY6.out)).trans hset)
        clear hset
        generalize (w6.setCell ⟨cb,7,none⟩ (.slice A' n' c'))=w8 at HC8 HI8 HK8 ⊢
        go_wp2_with fail
        go_roundw
        case rel=>exact ⟨3+1,_,by omega,by go_num,HC8.out,HI8.out,HK8.out⟩
        case measure=>simp only [intOf];omega
       ·skip
        have hix:(Instr.index 106 (.agg (box5 c)) (.int .i64 4)).run Tryz.prog wr=.ok c.pays.v wr:=idx5 c.start c.turn c.play c.quiet c.pays 4 zb85 wr
        go_upto_region 26 with (fail)
        clear hix
        have HBI:=J (bK HBJ.out HKI.out zb68)
        refine zy110 ?_;intro HPI HCC
        have HSL:=J (show (partOf p 4).size≤256 from Nat.le_of_not_lt (fun h=>HNL.out ⟨4,by omega,h⟩))
        refine zy13 ?_;intro HCP yd K hK
        go_wp2_with fail
        refine (make_any 4 zb85 cb N c p (cells p.vars) c.pays.A c.pays.n c.pays.c (partOf p 4) (knOf p 4) _ (Nat.le_trans zb51 yd.size) (HPI.out.ext yd zb51) ((Kept.cell yd (p:=⟨cb,0,none⟩) HCI.out.lt (fun f=>f)).trans HCC.out) HCP.out.1 zb65 ((HPI.out.ext yd zb51).pays) (HCK.out.part 4 zb85) zb72 (topW_bd p (cells p.vars) 4 HCP.out.1 zb65 zb65 HCK.out.np) (topW_zero p (cells p.vars) 4) zb42 HCK.out.np).mono ?_
        rintro e w6 ⟨A',n',c',rfl,hx6,ho6,hok6⟩
        have y6:=yd.trans hx6
        refine hK.out _ _ (fun _=>y6) ?_
        clear hK K
        have HC6:=J (bX HCI.out y6)
        have HO6:=J (show w6.ownsRow (wr.drew.heap.size+1) 77 4 (Sl3.v ⟨A',n',c'⟩) (Sl3.n ⟨A',n',c'⟩) (inss (codeP p 4)) from ho6)
        have HY6:=J y6
        clear ho6 hx6 hok6 y6 yd
        refine zy62 ?_
        have hset:Kept (·=cb) w6 (w6.setCell ⟨cb,8,none⟩ (.slice A' n' c')):=Kept.setCell (kR _ _) _ _ (fun _=>rfl)
        have HL6:=J (InsL.of_own (lo:=cb) HO6.out zb77 zb43)
        have HC8:=J (show Blk (w6.setCell ⟨cb,8,none⟩ (.slice A' n' c')) cb 90 (kdI p c.seats pA c.params.n pc s (fun i=>if i=4 then ⟨A',n',c'⟩ else I i)).c from Blk.set_ HC6.out 8 _)
        have HI8:=J (show ∀ i,i < 4+1→InsL (w6.setCell ⟨cb,8,none⟩ (.slice A' n' c')) cb ((fun i=>if i=4 then ⟨A',n',c'⟩ else I i) i) (codeP p i) from fun i hi=>by
         by_cases e:i=4
         ·subst e
          exact zz100
         ·simp only [e,if_false]
          exact ((HII.out i zb85).kept HY6.out (fun _ f=>f.elim)).kept hset (fun i e=>by omega))
        have HK8:=J ((HKI.out.trans (Kept.ext HY6.out)).trans hset)
        clear hset
        generalize (w6.setCell ⟨cb,8,none⟩ (.slice A' n' c'))=w8 at HC8 HI8 HK8 ⊢
        go_wp2_with fail
        go_roundw
        case rel=>exact ⟨4+1,_,by omega,by go_num,HC8.out,HI8.out,HK8.out⟩
        case measure=>simp only [intOf];omega
   have hj':j=0 ∨ j=1 ∨ j=2 ∨ j=3 ∨ j=4:=by omega
   clear hj hj5
   rcases hj' with rfl | rfl | rfl | rfl | rfl
   ·skip
    have hix:(Instr.index 106 (.agg (box5 c)) (.int .i64 0)).run Tryz.prog wr=.ok c.start.v wr:=idx5 c.start c.turn c.play c.quiet c.pays 0 zb85 wr
    go_wp2_with fail
    refine (ssize_any (onlyC c.start) (only p.start) N _ (Nat.le_trans HN5.out HK.out.size) (only_at (HP5.out.start.ext HK.out HN5.out))).mono ?_
    rintro e w4 ⟨rfl,y4⟩
    have HK4:=J (HK.out.trans y4)
    have hw:w64 ((psize (only p.start):Nat):Int)=(p.start.size:Nat):=by
     rw [only_size,w64_def]
     have:=HCK.out.psz 0 zb85
     simp only [partOf] at this
     omega
    rw [hw]
    clear hw hix y4
    by_cases hbig:256 < p.start.size
    ·have hg:decide ((256:Int) < (p.start.size:Int))=true:=decide_eq_true zb85
     have HBG:=J hbig
     clear hbig
     go_wp2_with fail
     go_ret2
     exact ⟨(HY0.out.trans HY5.out).trans HK4.out,.long HX.out.symm ⟨0,by omega,HBG.out⟩⟩
    ·have hg:decide ((256:Int) < (p.start.size:Int))=false:=decide_eq_false zb85
     have HBG:=J hbig
     clear hbig
     go_wp2_with fail
     go_roundw
     case rel=>exact ⟨0+1,by omega,by go_num,fun i hi=>by rcases (by omega:i < 0 ∨ i=0) with q | q;exact HALL.out i q;rw [q];have:=HBG.out;simp only [partOf];omega,HK4.out⟩
     case measure=>simp only [intOf];omega
   ·skip
    have hix:(Instr.index 106 (.agg (box5 c)) (.int .i64 1)).run Tryz.prog wr=.ok c.turn.v wr:=idx5 c.start c.turn c.play c.quiet c.pays 1 zb85 wr
    go_wp2_with fail
    refine (ssize_any (onlyC c.turn) (only p.turn) N _ (Nat.le_trans HN5.out HK.out.size) (only_at (HP5.out.turn.ext HK.out HN5.out))).mono ?_
    rintro e w4 ⟨rfl,y4⟩
    have HK4:=J (HK.out.trans y4)
    have hw:w64 ((psize (only p.turn):Nat):Int)=(p.turn.size:Nat):=by
     rw [only_size,w64_def]
     have:=HCK.out.psz 1 zb85
     simp only [partOf] at this
     omega
    rw [hw]
    clear hw hix y4
    by_cases hbig:256 < p.turn.size
    ·have hg:decide ((256:Int) < (p.turn.size:Int))=true:=decide_eq_true zb85
     have HBG:=J hbig
     clear hbig
     go_wp2_with fail
     go_ret2
     exact ⟨(HY0.out.trans HY5.out).trans HK4.out,.long HX.out.symm ⟨1,by omega,HBG.out⟩⟩
    ·have hg:decide ((256:Int) < (p.turn.size:Int))=false:=decide_eq_false zb85
     have HBG:=J hbig
     clear hbig
     go_wp2_with fail
     go_roundw
     case rel=>exact ⟨1+1,by omega,by go_num,fun i hi=>by rcases (by omega:i < 1 ∨ i=1) with q | q;exact HALL.out i q;rw [q];have:=HBG.out;simp only [partOf];omega,HK4.out⟩
     case measure=>simp only [intOf];omega
   ·skip
    have hix:(Instr.index 106 (.agg (box5 c)) (.int .i64 2)).run Tryz.prog wr=.ok c.play.v wr:=idx5 c.start c.turn c.play c.quiet c.pays 2 zb85 wr
    go_wp2_with fail
    refine (ssize_any (onlyC c.play) (only p.play) N _ (Nat.le_trans HN5.out HK.out.size) (only_at (HP5.out.play.ext HK.out HN5.out))).mono ?_
    rintro e w4 ⟨rfl,y4⟩
    have HK4:=J (HK.out.trans y4)
    have hw:w64 ((psize (only p.play):Nat):Int)=(p.play.size:Nat):=by
     rw [only_size,w64_def]
     have:=HCK.out.psz 2 zb85
     simp only [partOf] at this
     omega
    rw [hw]
    clear hw hix y4
    by_cases hbig:256 < p.play.size
    ·have hg:decide ((256:Int) < (p.play.size:Int))=true:=decide_eq_true zb85
     have HBG:=J hbig
     clear hbig
     go_wp2_with fail
     go_ret2
     exact ⟨(HY0.out.trans HY5.out).trans HK4.out,.long HX.out.symm ⟨2,by omega,HBG.out⟩⟩
    ·have hg:decide ((256:Int) < (p.play.size:Int))=false:=decide_eq_false zb85
     have HBG:=J hbig
     clear hbig
     go_wp2_with fail
     go_roundw
     case rel=>exact ⟨2+1,by omega,by go_num,fun i hi=>by rcases (by omega:i < 2 ∨ i=2) with q | q;exact HALL.out i q;rw [q];have:=HBG.out;simp only [partOf];omega,HK4.out⟩
     case measure=>simp only [intOf];omega
   ·skip
    have hix:(Instr.index 106 (.agg (box5 c)) (.int .i64 3)).run Tryz.prog wr=.ok c.quiet.v wr:=idx5 c.start c.turn c.play c.quiet c.pays 3 zb85 wr
    go_wp2_with fail
    refine (ssize_any (onlyC c.quiet) (only p.quiet) N _ (Nat.le_trans HN5.out HK.out.size) (only_at (HP5.out.quiet.ext HK.out HN5.out))).mono ?_
    rintro e w4 ⟨rfl,y4⟩
    have HK4:=J (HK.out.trans y4)
    have hw:w64 ((psize (only p.quiet):Nat):Int)=(p.quiet.size:Nat):=by
     rw [only_size,w64_def]
     have:=HCK.out.psz 3 zb85
     simp only [partOf] at this
     omega
    rw [hw]
    clear hw hix y4
    by_cases hbig:256 < p.quiet.size
    ·have hg:decide ((256:Int) < (p.quiet.size:Int))=true:=decide_eq_true zb85
     have HBG:=J hbig
     clear hbig
     go_wp2_with fail
     go_ret2
     exact ⟨(HY0.out.trans HY5.out).trans HK4.out,.long HX.out.symm ⟨3,by omega,HBG.out⟩⟩
    ·have hg:decide ((256:Int) < (p.quiet.size:Int))=false:=decide_eq_false zb85
     have HBG:=J hbig
     clear hbig
     go_wp2_with fail
     go_roundw
     case rel=>exact ⟨3+1,by omega,by go_num,fun i hi=>by rcases (by omega:i < 3 ∨ i=3) with q | q;exact HALL.out i q;rw [q];have:=HBG.out;simp only [partOf];omega,HK4.out⟩
     case measure=>simp only [intOf];omega
   ·skip
    have hix:(Instr.index 106 (.agg (box5 c)) (.int .i64 4)).run Tryz.prog wr=.ok c.pays.v wr:=idx5 c.start c.turn c.play c.quiet c.pays 4 zb85 wr
    go_wp2_with fail
    refine (ssize_any (onlyC c.pays) (only p.pays) N _ (Nat.le_trans HN5.out HK.out.size) (only_at (HP5.out.pays.ext HK.out HN5.out))).mono ?_
    rintro e w4 ⟨rfl,y4⟩
    have HK4:=J (HK.out.trans y4)
    have hw:w64 ((psize (only p.pays):Nat):Int)=(p.pays.size:Nat):=by
     rw [only_size,w64_def]
     have:=HCK.out.psz 4 zb85
     simp only [partOf] at this
     omega
    rw [hw]
    clear hw hix y4
    by_cases hbig:256 < p.pays.size
    ·have hg:decide ((256:Int) < (p.pays.size:Int))=true:=decide_eq_true zb85
     have HBG:=J hbig
     clear hbig
     go_wp2_with fail
     go_ret2
     exact ⟨(HY0.out.trans HY5.out).trans HK4.out,.long HX.out.symm ⟨4,by omega,HBG.out⟩⟩
    ·have hg:decide ((256:Int) < (p.pays.size:Int))=false:=decide_eq_false zb85
     have HBG:=J hbig
     clear hbig
     go_wp2_with fail
     go_roundw
     case rel=>exact ⟨4+1,by omega,by go_num,fun i hi=>by rcases (by omega:i < 4 ∨ i=4) with q | q;exact HALL.out i q;rw [q];have:=HBG.out;simp only [partOf];omega,HK4.out⟩
     case measure=>simp only [intOf];omega
end Go.Proofs.YtbfbabbcdochjaaGreatDoor
