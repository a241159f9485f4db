import Derived.WalkKit
import Derived.WalkSpells
import Derived.WalkLawsBesides
import Derived.RegionTactic
import Derived.BigRegion
import Derived.Deep.QuietTactic
import Derived.BigQuiet
import Derived.Outline
import Derived.Lib.Hide
import Derived.Deep.RegionWith
import Derived.Deep.LoopGhost
import Derived.Deep.DeepCutAuto
import Derived.StillTailTactics
import Derived.Deep.RegionHeld3
set_option maxRecDepth 100000
namespace Go.Proofs.YtnhelcmddjbafaaGreatDoor
open Go.RowKit
variable{p0 p1 p2 p3 p4 p5 p6 p7 p8 p9 p10 p11 p12 p13 p14:Prop}{R:Ending→World→Prop}
variable {G K:Prop}
theorem ay:∀{n m k:Nat},n<=m->m<=k->n<=k:=@Nat.le_trans
theorem af.{u}:∀{c:Prop} {_:Decidable c},¬c->∀{α:Sort u} {t e:α},(if c then t else e)=e:=@if_neg
theorem cy.{u}:∀{α:Type u} {as bs:List α},List.length (as++bs)=List.length as+List.length bs:=@List.length_append
theorem av.{u}:∀{c:Prop} {_:Decidable c},c->∀{α:Sort u} {t e:α},(if c then t else e)=t:=@if_pos
theorem cU:∀{p:Prop} [Decidable p],¬p->decide p=false:=@decide_eq_false
theorem cO:∀{p:Prop} [Decidable p],p->decide p=true:=@decide_eq_true
theorem dT.{u}:∀{α:Type u} {a:α} {as:List α},List.length (a::as)=List.length as+1:=@List.length_cons
theorem cK.{u_1}:∀{α:Type u_1} {l:List α} {n:Nat} (h:n<List.length l),l[n]∈l:=@List.getElem_mem
theorem eH:∀(n:Nat),n<=n:=@Nat.le_refl
theorem fy.{u}:∀{α:Type u} (as bs cs:List α),as++bs++cs=as++(bs++cs):=@List.append_assoc
theorem fz:∀(a b:Bool),((a&&b)=true)=(a=true/\b=true):=@Bool.and_eq_true
theorem de:∀(n:Nat),0<=n:=@Nat.zero_le
theorem gw:∀{n m k:Nat},n<m->m<=k->n<k:=@Nat.lt_of_lt_of_le
theorem fm.{u_1,u_2}:∀{α:Type u_1} {β:Type u_2} {as:List α} (f:α->β),List.length (List.map f as)=List.length as:=@List.length_map
theorem fB.{u}:∀{α:Type u},([]:List α).length=0:=@List.length_nil
theorem dU:∀(n:Nat),0+n=n:=@Nat.zero_add
theorem gZ:∀{p:Prop} [Decidable p],(decide p=true)=p:=@decide_eq_true_eq
theorem df:∀{a b:Prop},a->b->a/\b:=@And.intro
theorem fC:∀(n:Nat),n+0=n:=@Nat.add_zero
theorem lY.{u_1}:∀{α:Type u_1} {i:Nat} {l:List α},List.length l<=i->List.take i l=l:=@List.take_of_length_le
theorem gH:∀(n m k:Nat),n+m+k=n+(m+k):=@Nat.add_assoc
theorem jH:∀(n:Int),IntKind.wrap IntKind.i64 n=(n+9223372036854775808)%18446744073709551616 - 9223372036854775808:=@IntKind.wrap_i64
theorem ld:∀(n:Int),-9223372036854775808<=n/\n<=9223372036854775807->RowKit.wrap64 n=n:=@IntWalk.wrap64_in
theorem lf.{u_1}:∀{α:Type u_1} {l:List α},List.take (List.length l) l=l:=@List.take_length
theorem mJ.{u_1}:∀{α:Type u_1} {l:List α} {i:Nat},List.take (i+1) l=List.take i l++Option.toList l[i]?:=@List.take_add_one
theorem ui.{u_1}:∀{α:Type u_1} {i:Nat} {l:List α} (h:i<List.length l),List.drop i l=l[i]::List.drop (i+1) l:=@List.drop_eq_getElem_cons
theorem nB.{u}:∀{α:Type u} (as:List α),[]++as=as:=@List.nil_append
theorem rF:∀(n:Nat),Int.toNat (n:Int)=n:=@Int.toNat_natCast
theorem nC.{u,v}:∀{α:Type u} {β:Type v} {f:α->β} {a:α} {l:List α},List.map f (a::l)=f a::List.map f l:=@List.map_cons
theorem qW.{u}:∀{α:Type u} {l:List α},List.drop 0 l=l:=@List.drop_zero
theorem rG:∀(b:Bool),(true&&b)=b:=@Bool.true_and
theorem vQ.{u_1,u_2}:∀{α:Type u_1} {β:Type u_2} {f:α->β} {l₁ l₂:List α},List.map f (l₁++l₂)=List.map f l₁++List.map f l₂:=@List.map_append
theorem vR.{u_1}:∀{α:Type u_1} {i:Nat} {l:List α},List.length (List.take i l)=min i (List.length l):=@List.length_take
theorem uj.{u_1}:∀{α:Type u_1} {l:List α},List.drop (List.length l) l=[]:=@List.drop_length
theorem mK.{u_1}:∀{α:Type u_1} {a:α} {s t:List α},a∈s++t↔a∈s∨a∈t:=@List.mem_append
theorem vS:(!true)=false:=@Bool.not_true
structure gq (p:Prop):Prop where o:p
theorem J {p:Prop} (h:p):gq p:=⟨h⟩
theorem nm' {α:Sort _} (a:α):∃x,x=a:=⟨a,rfl⟩
theorem J3' (a0:p0) (a1:p1) (a2:p2):gq p0/\gq p1/\gq p2:=⟨J a0,J a1,J a2⟩
theorem J4' (a0:p0) (a1:p1) (a2:p2) (a3:p3):gq p0/\gq p1/\gq p2/\gq p3:=⟨J a0,J a1,J a2,J a3⟩
theorem J5' (a0:p0) (a1:p1) (a2:p2) (a3:p3) (a4:p4):gq p0/\gq p1/\gq p2/\gq p3/\gq p4:=⟨J a0,J a1,J a2,J a3,J a4⟩
theorem J6' (a0:p0) (a1:p1) (a2:p2) (a3:p3) (a4:p4) (a5:p5):gq p0/\gq p1/\gq p2/\gq p3/\gq p4/\gq p5:=⟨J a0,J a1,J a2,J a3,J a4,J a5⟩
theorem J7' (a0:p0) (a1:p1) (a2:p2) (a3:p3) (a4:p4) (a5:p5) (a6:p6):gq p0/\gq p1/\gq p2/\gq p3/\gq p4/\gq p5/\gq p6:=⟨J a0,J a1,J a2,J a3,J a4,J a5,J a6⟩
theorem J8' (a0:p0) (a1:p1) (a2:p2) (a3:p3) (a4:p4) (a5:p5) (a6:p6) (a7:p7):gq p0/\gq p1/\gq p2/\gq p3/\gq p4/\gq p5/\gq p6/\gq p7:=⟨J a0,J a1,J a2,J a3,J a4,J a5,J a6,J a7⟩
theorem J9' (a0:p0) (a1:p1) (a2:p2) (a3:p3) (a4:p4) (a5:p5) (a6:p6) (a7:p7) (a8:p8):gq p0/\gq p1/\gq p2/\gq p3/\gq p4/\gq p5/\gq p6/\gq p7/\gq p8:=⟨J a0,J a1,J a2,J a3,J a4,J a5,J a6,J a7,J a8⟩
theorem J10 (a0:p0) (a1:p1) (a2:p2) (a3:p3) (a4:p4) (a5:p5) (a6:p6) (a7:p7) (a8:p8) (a9:p9):gq p0/\gq p1/\gq p2/\gq p3/\gq p4/\gq p5/\gq p6/\gq p7/\gq p8/\gq p9:=⟨J a0,J a1,J a2,J a3,J a4,J a5,J a6,J a7,J a8,J a9⟩
theorem J11 (a0:p0) (a1:p1) (a2:p2) (a3:p3) (a4:p4) (a5:p5) (a6:p6) (a7:p7) (a8:p8) (a9:p9) (a10:p10):gq p0/\gq p1/\gq p2/\gq p3/\gq p4/\gq p5/\gq p6/\gq p7/\gq p8/\gq p9/\gq p10:=⟨J a0,J a1,J a2,J a3,J a4,J a5,J a6,J a7,J a8,J a9,J a10⟩
theorem J12 (a0:p0) (a1:p1) (a2:p2) (a3:p3) (a4:p4) (a5:p5) (a6:p6) (a7:p7) (a8:p8) (a9:p9) (a10:p10) (a11:p11):gq p0/\gq p1/\gq p2/\gq p3/\gq p4/\gq p5/\gq p6/\gq p7/\gq p8/\gq p9/\gq p10/\gq p11:=⟨J a0,J a1,J a2,J a3,J a4,J a5,J a6,J a7,J a8,J a9,J a10,J a11⟩
theorem J14 (a0:p0) (a1:p1) (a2:p2) (a3:p3) (a4:p4) (a5:p5) (a6:p6) (a7:p7) (a8:p8) (a9:p9) (a10:p10) (a11:p11) (a12:p12) (a13:p13):gq p0/\gq p1/\gq p2/\gq p3/\gq p4/\gq p5/\gq p6/\gq p7/\gq p8/\gq p9/\gq p10/\gq p11/\gq p12/\gq p13:=⟨J a0,J a1,J a2,J a3,J a4,J a5,J a6,J a7,J a8,J a9,J a10,J a11,J a12,J a13⟩
theorem J15 (a0:p0) (a1:p1) (a2:p2) (a3:p3) (a4:p4) (a5:p5) (a6:p6) (a7:p7) (a8:p8) (a9:p9) (a10:p10) (a11:p11) (a12:p12) (a13:p13) (a14:p14):gq p0/\gq p1/\gq p2/\gq p3/\gq p4/\gq p5/\gq p6/\gq p7/\gq p8/\gq p9/\gq p10/\gq p11/\gq p12/\gq p13/\gq p14:=⟨J a0,J a1,J a2,J a3,J a4,J a5,J a6,J a7,J a8,J a9,J a10,J a11,J a12,J a13,J a14⟩
theorem J17 {p15 p16:Prop} (a0:p0) (a1:p1) (a2:p2) (a3:p3) (a4:p4) (a5:p5) (a6:p6) (a7:p7) (a8:p8) (a9:p9) (a10:p10) (a11:p11) (a12:p12) (a13:p13) (a14:p14) (a15:p15) (a16:p16):gq p0/\gq p1/\gq p2/\gq p3/\gq p4/\gq p5/\gq p6/\gq p7/\gq p8/\gq p9/\gq p10/\gq p11/\gq p12/\gq p13/\gq p14/\gq p15/\gq p16:=⟨J a0,J a1,J a2,J a3,J a4,J a5,J a6,J a7,J a8,J a9,J a10,J a11,J a12,J a13,J a14,J a15,J a16⟩
theorem bV (g:K) (h:gq K->G:=by(intro QQ;(first|((apply acP);(· go_simp);(· (intro w1;go_simp;try with_reducible rfl)))|((apply acQ);(· go_simp))|fail);(intro K hK;go_simp;refine hK _ _ ?_;clear hK K);exact QQ.o)):G:=h (J g)
theorem oh (g:K) (h:gq K->G:=by(intro QQ;(first|((apply acS);(· go_simp);(· (intro w1;go_simp;try with_reducible rfl)))|((apply acT);(· go_simp))|fail);(intro K hK;go_simp;refine hK _ _ ?_;clear hK K);exact QQ.o)):G:=h (J g)
theorem qs5 (g:K) (h:gq K->G:=by(intro QQ;(first|((apply anT);(· go_simp);(· (intro w1;go_simp;try with_reducible rfl)))|((apply anU);(· go_simp))|fail);(intro K hK;go_simp;refine hK _ _ ?_;clear hK K);exact QQ.o)):G:=h (J g)
theorem iR (g:K) (h:gq K->G:=by(intro QQ;(intro K hK;go_simp;refine hK _ _ ?_;clear hK K);exact QQ.o)):G:=h (J g)
theorem kT (g:K) (h:gq K->G:=by(intro QQ;(refine wpList_step (λK hK=>?_);go_simp;(try go_bits);refine hK _ _ ?_;clear hK K);exact QQ.o)):G:=h (J g)
theorem eX (g:K) (h:gq K->G:=by(intro QQ;intro l' hl';simp only [nC,List.map_nil,List.getD_cons_zero,List.getD_cons_succ]at hl';subst hl';exact QQ.o)):G:=h (J g)
theorem WC (g:K) (h:gq K->G:=by(intro QQ;intro p' hp';simp only [tT.fill,List.getD_cons_zero,List.getD_cons_succ]at hp';subst hp';exact QQ.o)):G:=h (J g)
theorem fc (g:K) (h:gq K->G:=by(intro QQ;(repeat (first|(refine bV ?_)|(refine DZ (by kernel_rfl) (λK hK=>?_);go_simp;refine hK.out _ _ ?_;clear hK K)|fail));refine ZZ ?_;exact QQ.o)):G:=h (J g)
theorem JQ (g:K) (h:gq K->G:=by(intro QQ;(repeat (first|(refine oh ?_)|(refine ahx (by kernel_rfl) (λK hK=>?_);go_simp;refine hK.out _ _ ?_;clear hK K)|fail));refine ahy ?_;exact QQ.o)):G:=h (J g)
theorem qf5 (g:K) (h:gq K->G:=by(intro QQ;(repeat (first|(refine qs5 ?_)|(refine aqq (by kernel_rfl) (λK hK=>?_);go_simp;refine hK.out _ _ ?_;clear hK K)|fail));refine aqr ?_;exact QQ.o)):G:=h (J g)
theorem fE (h:G:=by(go_simp;(try with_reducible rfl);first|done|fail)):G:=h
theorem zb1 (h:G:=by intro w1 hS;have d1:=bC (bX gX hS);have d2:=(bX gX hS).lt;have d3:=bH (bX gX hS);have d4:=bG (bX gX hS);have d5:=bH (bX TO hS);have d6:=bG (bX TO hS);have d7:=(bX TO hS).lt;exact fE):G:=h
theorem zb2 (h:G:=by intro w1 hS;have d1:=(tO.o.ext (eP.o.trans hS));have d2:=bC d1.blk;have d3:=d1.blk.lt;have d7:=ajo d1 s;rw [<-HV.o,hvI]at d7;clear d1;have d4:=bX mf.o (eP.o.trans hS);have d5:=bC d4;have d6:=d4.lt;exact fE):G:=h
theorem zb3 (h:G:=by intro w1 hS;have d0:=bX HB.o hS;have d1:=bC d0;have d2:=d0.lt;have iP:=HM.o.ext hS;obtain⟨A',n',oU,fJ,_⟩:=iP.blk;have d3:=bC fJ;have d4:=fJ.lt;have d5:=Ui iP.Qa op HF.o.1 HF.o.2;exact fE):G:=h
theorem zb4 (h:G:=by intro w1 hS;have d0:=KT.block hS.1 pq.o (by decide) (by decide);have d1:=bC d0;have d2:=d0.lt;obtain⟨L',iP⟩:=hS.2;obtain⟨A',n',oU,fJ,_⟩:=iP.blk;have d3:=bC fJ;have d4:=fJ.lt;have d5:=MS.look iP;exact fE):G:=h
theorem zb5 (h:G:=by intro w1 hS;have d1:=bC (bX Gh hS);have d2:=(bX Gh hS).lt;have d3:=bC (bX kV hS);have d4:=(bX kV hS).lt;have d5:=bH (bX kV hS);have d6:=bG (bX kV hS);exact fE):G:=h
theorem zb6 (h:G:=by intro w1 hS;have d1:=(tO.o.ext (dR.o.trans hS));have d2:=bC d1.blk;have d3:=d1.blk.lt;clear d1;have d4:=bX mf.o (dR.o.trans hS);have d5:=bC d4;have d6:=d4.lt;exact fE):G:=h
theorem zb7 (h:G:=by intro w1 hS;have d0:=bX ot.o hS;have d1:=bH d0;have d2:=bG d0;have d3:=d0.lt;have e1:=HW3.o.ext hS;obtain⟨e2,e3⟩:=ajm e1 HD.o;have e4:=e1.lt;exact fE):G:=h
theorem zb8 (h:G:=by intro w1 hS;have d1:=bX ed hS;have d2:=bX tY hS;have d3:=bC d1;have d4:=bH d1;have d5:=bG d1;have d6:=bH d2;have d7:=bG d2;exact fE):G:=h
theorem zb9 (h:G:=by intro w1 hS;have d0:=bX aiD.o hS;have d1:=bH d0;have d2:=bG d0;have d3:=d0.lt;have e0:=bX vL.o hS;have e1:=bC e0;have e2:=e0.lt;exact fE):G:=h
theorem ahz (h:G:=by intro w1 hS;have d4:=bX mf.o hS;have d5:=bC d4;have d6:=d4.lt;have d7:=me (p:=⟨2,k,none⟩) hS (by have:=yh.o.lt;show 2<_;omega) HT.o;exact fE):G:=h
theorem ahA (h:G:=by intro w1 hS;have d4:=bX mf.o hS;have d5:=bC d4;have d6:=d4.lt;have d7:=me (p:=⟨5,k,none⟩) hS (by have:=yh.o.lt;show 5<_;omega) HT.o;exact fE):G:=h
theorem Vu (h:G:=by intro w1 hS;have d0:=bK HB6.o hS (by have:=vu.o;have:=HG.o;omega);have d1:=bC d0;have d2:=bH d0;have d3:=bG d0;have d4:=d0.lt;exact fE):G:=h
theorem ahB (h:G:=by intro w1 hS;have d4:=bX QT.o hS;have d5:=bC d4;have d6:=d4.lt;have e4:=bX HB.o (cH.o.trans hS);have e5:=bC e4;have e6:=e4.lt;exact fE):G:=h
theorem ahC (h:G:=by intro w1 hS;have d4:=bK oO.o (jy.o.trans (Kept.ext hS)) mw.o.1;have d5:=bC d4;have d6:=d4.lt;have d7:=bH d4;have d8:=bG d4;exact fE):G:=h
theorem aqt (h:G:=by intro w1 hS;have d0:=bK HCF.o hS (by have:=EP.o;omega);have d1:=bH d0;have d2:=bG d0;have d3:=d0.lt;have d4:=bC d0;exact fE):G:=h
theorem aqu (h:G:=by intro w1 hS;have d0:=bK hA hS (show¬w.heap.size=w.heap.size+1 by omega);have d1:=bC d0;have d2:=bH d0;have d3:=bG d0;exact fE):G:=h
theorem amj (h:G:=by intro w1 hS;have d0:=bX QS.o hS;have d1:=bC d0;have d2:=d0.lt;have e0:=bX MZ.o hS;have e1:=bC e0;have e2:=e0.lt;exact fE):G:=h
theorem aqv (h:G:=by intro w1 hS;have d0:=bX HBI.o hS;have d1:=bH d0;have d2:=bG d0;have d3:=d0.lt;have e0:=bX BV.o hS;have e1:=e0.lt;exact fE):G:=h
theorem amk (h:G:=by intro w1 hS;have d4:=bX hV.o (fg.o.trans hS);have d5:=bC d4;have d6:=d4.lt;have d7:=bH d4;have d8:=bG d4;exact fE):G:=h
theorem aml (h:G:=by intro w1 hS;have d4:=bX hV.o (eP.o.trans hS);have d5:=bC d4;have d6:=d4.lt;have d7:=bH d4;have d8:=bG d4;exact fE):G:=h
theorem acZ (h:G:=by intro w1 hS;have d0:=bK Hr.o hS (by have:=EP.o;intro q;omega);have d1:=bH d0;have d2:=bG d0;have d3:=d0.lt;exact fE):G:=h
theorem aqw (h:G:=by intro w1 hS;have d0:=bK HD.o hS (by have:=HQ.o;intro q;omega);have d1:=bH d0;have d2:=bG d0;have d3:=d0.lt;exact fE):G:=h
theorem Qv (h:G:=by intro w1 hS;have d0:=bX ot.o hS;have d1:=bH d0;have d2:=bG d0;have d3:=bC d0;have d4:=d0.lt;exact fE):G:=h
theorem ada (h:G:=by intro w1 hS;have d4:=bK oO.o (jy.o.trans (Kept.ext hS)) mw.o.1;have d5:=bC d4;have d6:=d4.lt;exact fE):G:=h
theorem ahD (h:G:=by intro w1 hS;have d4:=bX hV.o (fg.o.trans hS);have d5:=bC d4;have d6:=d4.lt;have d7:=HLK.o _ hS;exact fE):G:=h
theorem o7 (h:G:=by have:=HL.o;rw [rD.o]at this;simp only [cy,dT,fB,jP]at this⊢;omega):G:=h
theorem adb (h:G:=by intro w1 hS;have d0:=bK hC.o hS (by rw [oO.o];exact HPO.o);have d1:=bC d0;have d2:=d0.lt;exact fE):G:=h
theorem ahE (h:G:=by intro w1 hS;have d1:=me hS ie C2.o;have d2:=me hS ie C5.o;have d3:=me hS ie C6.o;exact fE):G:=h
theorem qa (h:G:=by have:=HL.o;rw [rD.o]at this;simp only [cy,dT,fB]at this⊢;omega):G:=h
theorem aqx (h:G:=by intro w1 hS;have d1:=bC (bX kI hS);have d2:=(eE.ext hS).cell y qh;rw [<-HV.o]at d2;exact fE):G:=h
theorem amm (h:G:=by intro w1 hS;have d0:=bX Be.o hS;have d1:=bG d0;have d2:=bH d0;have d3:=d0.lt;exact fE):G:=h
theorem amn (h:G:=by intro w1 hS;have d4:=bX mf.o (dR.o.trans hS);have d5:=bC d4;have d6:=d4.lt;exact fE):G:=h
theorem Vv (h:G:=by intro w1 hS;have d4:=bX mf.o (fg.o.trans hS);have d5:=bC d4;have d6:=d4.lt;exact fE):G:=h
theorem amo (h:G:=by intro w1 hS;have d4:=bX mf.o (kB.o.trans hS);have d5:=bC d4;have d6:=d4.lt;exact fE):G:=h
theorem amp (h:G:=by intro w1 hS;have d4:=bX hV.o (dR.o.trans hS);have d5:=bC d4;have d6:=d4.lt;exact fE):G:=h
theorem Qw (h:G:=by intro w1 hS;have d0:=bK hC.o hS ET.o;have d1:=bC d0;have d2:=d0.lt;exact fE):G:=h
theorem Mz (h:G:=by intro w1 hS;have d1:=bC (bX hC.o hS);have d2:=(bX hC.o hS).lt;exact fE):G:=h
theorem Vw (h:G:=by have:=M4.o;(try simp only [cy,dT,fB]);omega):G:=h
theorem Z' (h:G:=by intro w1 hS;have d0:=bX HC.o.box hS;have d1:=bC d0;have d2:=d0.lt;exact fE):G:=h
theorem amq (h:G:=by intro w1 hS;have d1:=bX hA0 hS;have hh:=bH d1;have hg:=bG d1;exact fE):G:=h
theorem amr (h:G:=by intro w1 hS;have d1:=bX kI hS;have d2:=bH d1;have d3:=bG d1;exact fE):G:=h
theorem ahF (h:G:=by intro w1 hS;have d4:=bX mf.o hS;have d5:=bC d4;have d6:=d4.lt;exact fE):G:=h
theorem ahG (h:G:=by intro w1 hS;have d4:=bX HS.o hS;have d5:=bC d4;have d6:=d4.lt;exact fE):G:=h
theorem ade (h:G:=by intro w1 hS;have d4:=bX hV.o hS;have d5:=bC d4;have d6:=d4.lt;exact fE):G:=h
theorem ahH (h:G:=by have:=HLX.o;simp only [cy,dT,fB];omega):G:=h
theorem ahI (h:G:=by rw [HJ.o];simp only [cy,dT,fB];omega):G:=h
theorem ams (h:G:=by(try simp only [cy,dT,fB]);omega):G:=h
theorem amt (h:G:=by unfold exC;rw [af (by omega),af (by omega),af (by omega)];rfl):G:=h
theorem amu (h:G:=by have:=uS;first|exact uS.high|exact uS.2.2.2|exact uS.2.2.1):G:=h
theorem aac (h:G:=by have:=HXL.o;have:=WI.o;have:=HAB.o;have:=HG.o;omega):G:=h
theorem aad (h:G:=by have a:=Bi.o;have b:=WR.o;have d:=y4.size;omega):G:=h
theorem aqy (h:G:=by have:=HNC.o;have:=eJ.o;have:=vM.o.size;omega):G:=h
theorem aae (h:G:=by have:=QR.o;have a:=Bi.o;have b:=WR.o;omega):G:=h
theorem aaf (h:G:=by have:=F3 zp.o;unfold Ct at this;omega):G:=h
theorem aag (h:G:=by have:=BV.o.lt;show cb<wr.heap.size+1;omega):G:=h
theorem aah (h:G:=by have:=HXL.o;have:=WI.o;have:=HAB.o;omega):G:=h
theorem Eh (h:G:=by simp [bt,fp,nc qh,nc sd,hv,hu]):G:=h
theorem Ei (h:G:=by rw [hu];exact HO.o _ (cK sd)):G:=h
theorem vj (h:G:=by rw [hv];exact HO.o _ (cK qh)):G:=h
theorem adf (h:G:=by rw [fm,<-WN.o];exact k1):G:=h
theorem adg (h:G:=by rw [fm,<-HN.o];exact h1):G:=h
theorem aqz (h:G:=by have a:=WR.o;have b:=eJ.o;omega):G:=h
theorem aai (h:G:=by have a:=Bi.o;have b:=WR.o;omega):G:=h
theorem ahJ (h:G:=by rw [HN.o,lf];exact hv):G:=h
theorem vl (h:G:=by have:=HNC.o;have:=BV.o.lt;omega):G:=h
theorem adh (h:G:=by rw [fm,<-WN.o];omega):G:=h
theorem adi (h:G:=by have:=Er.o;have:=WM.o.1;omega):G:=h
theorem adj (h:G:=by rw [fm,<-HN.o];omega):G:=h
theorem adk (h:G:=by rw [gi];exact cK ft):G:=h
theorem ahK (h:G:=by simp [gR,IntKind.wrap_i32,wrap32]):G:=h
theorem Qx (h:G:=by rw [HR.o];exact aj.cI eg 0 _):G:=h
theorem adl (h:G:=by simp [bt,nc qh,<-hv,hz]):G:=h
theorem adn (h:G:=by show aI 0;unfold aI;omega):G:=h
theorem Qy (h:G:=by rw [HR.o];exact gQ):G:=h
theorem FB (h:G:=by rw [<-HSC.o];exact HLC.o):G:=h
theorem Vx (h:G:=by exact aj.cI HR.o 0 _):G:=h
theorem ado (h:G:=by have:=DD i;omega):G:=h
theorem adp (h:G:=by rw [<-HF.o];exact hF0):G:=h
theorem adq (h:G:=by rw [<-iF.o];exact hq):G:=h
theorem vq (h:G:=by have:=FH.o.2;omega):G:=h
theorem Vy (h:G:=by rw [h]at hr;cases hr):G:=h
theorem amv (h:G:=by have:=VO.o;omega):G:=h
theorem Vz (h:G:=by have:=WL.o;omega):G:=h
theorem Qz (h:G:=by have:=eJ.o;omega):G:=h
theorem aaj (h:G:=by have:=HQN.o;omega):G:=h
theorem MA (h:G:=by have:=B_.o;omega):G:=h
theorem aak (h:G:=by have:=zp.o;omega):G:=h
theorem VA (h:G:=by rw [<-HK.o];omega):G:=h
theorem MB (h:G:=by unfold maxLen;omega):G:=h
theorem aal (h:G:=by have:=HN.o;omega):G:=h
theorem aam (h:G:=by simpa using hB.1.2):G:=h
theorem Ej (h:G:=by unfold ax;omega):G:=h
theorem mu (h:G:=by unfold aI;omega):G:=h
theorem aan (h:G:=by unfold aR;simp):G:=h
theorem VB (h:G:=by rw [gO.o];rfl):G:=h
theorem VC (h:G:=by exact tz):G:=h
theorem Ek (h:G:=by unfold fr;omega):G:=h
theorem VD (h:G:=by simp<;>omega):G:=h
theorem ke (h:G:=by exact xv):G:=h
theorem Aw (h:G:=by exact BJ):G:=h
theorem He (h:G:=by intro q;omega):G:=h
theorem Hf (h:G:=by rw [h2];omega):G:=h
theorem Eg (h:G:=by simpa using h):G:=h
theorem bd (h:G:=by kernel_rfl):G:=h
theorem kQ (h:G:=by simp;omega):G:=h
theorem ae (h:G:=by decide):G:=h
theorem ad (h:G:=by omega):G:=h
theorem aC (h:G:=by simp):G:=h
theorem dZ (h:G:=by rfl):G:=h
theorem zz4 (h:G:=by
 have hc5:=bC TN;have hh5:=bH uM;have yH:=aj.aJ uM;have hh6:=bH AJ;have hg6:=bG AJ;have tf:¬w.heap.size=c9:=by omega
 have hcR:¬w.heap.size+1=c9:=by omega
 have im:¬h2s=c9:=by omega
 have bx:decide ((n:Int)<=x)=false:=by simp;omega
 have bx':decide (n<=x)=false:=by simp;omega
 have hxI:(x:Int)<n:=by omega
 have o_:x<l.length:=by have:=HN.o;omega
 have arh:=y5.size;have ael:=(HR.o h1).ext y5;obtain rfl:=HA.o h1;obtain⟨a1,a2⟩:=ael.ins x o_;have lC:=ael.lt;obtain⟨i,hi⟩:=nm' (l[x]);rw [<-hi]at a2;have HI:=J hi;clear hi;have j1:=bH AJ;have j2:=aj.aJ AJ;have lA5:=TN.lt;clear hh5 yH hh6 hg6;go_upto_region 11 with(fail);have hA6:=aj.DA TN tf 11 i.cells;have JH:=aj.DA uM hcR 11 i.cells;have TT:=aj.DA hP5 im 11 i.cells;have hN6:aj (putAt W5 c9 11 i.cells) c9 74 (Ws.cells ⟨x,0,k,M,i,none,0,0,none,0,0,none,0,0⟩):=aj.cI AJ 11 i.cells;have y6:al w (putAt W5 c9 11 i.cells):=Kept.putAt y5 _ _ _ (λh=>by omega);have kW:Kept (λi=>W.heap.size<=i) W (putAt W5 c9 11 i.cells):=Kept.putAt (Kept.ext xW) _ _ _ (λ_=>hlW);have ht6:=ht3.Xq kW;clear TN uM hP5 AJ y5 xW a1 a2 j1 j2 hc5;generalize (putAt W5 c9 11 i.cells)=W6 at hA6 JH TT hN6 y6 kW ht6⊢;have apc:=bC hA6;have lA6:=hA6.lt;go_wp21;refine(Mj _ p (l.map iJ) x _ adg adj (by rw [fm,<-HN.o];exact hxn) ht6).mono ?_;rintro e w7 ⟨v7,rfl,RH,Bv⟩;obtain⟨pA,pk,rfl,hpv⟩:=mL.gF RH (LL _ _ _);obtain⟨Hh,hHh⟩:∃Hh,jb (l.map iJ).length=Hh:=⟨_,rfl⟩;rw [hHh]at hpv⊢;have HHH:=J hHh;have hA7:=bX hA6 Bv;have V5:=bX JH Bv;have TU:=bX TT Bv;have hN7:=bX hN6 Bv;have y7:=y6.trans Bv;have k7:=kW.trans (Kept.ext Bv);have hc7:=bC hN7;have hf7:=aj.frozen hN7;have lN6:=hN6.lt;clear hA6 JH TT hN6 y6 kW ht6 apc hHh RH;obtain⟨U,hU⟩:=nm' (Value.slice pA Hh pk);have hA8:=aj.nI hA7 (p:=⟨c9,15,none⟩) tf U;have hR8:=aj.nI V5 (p:=⟨c9,15,none⟩) hcR U;have hP8:=aj.nI TU (p:=⟨c9,15,none⟩) im U;have hN8:aj (w7.setCell ⟨c9,15,none⟩ U) c9 74 (Ws.cells ⟨x,0,k,M,i,pA,Hh,pk,none,0,0,none,0,0⟩):=by rw [hU];exact aj.fw hN7 15 (.slice pA Hh pk)
 have y8:al w (w7.setCell ⟨c9,15,none⟩ U):=Kept.setCell y7 ⟨c9,15,none⟩ _ (λh=>by have:c9<w.heap.size:=h;omega);have k8:Kept (λi=>W.heap.size<=i) W (w7.setCell ⟨c9,15,none⟩ U):=Kept.setCell k7 ⟨c9,15,none⟩ _ (λ_=>hlW)
 have ajB:∀du fr,¬w7.heap[c9]?=some (.cells du 25 fr):=λdu fr e=>by
  rw [hN7]at e;injection e with e;injection e with _ e _;exact absurd e ae
 have agN:mL (w7.setCell ⟨c9,15,none⟩ U) pA Hh _:=hpv.kept (Kept.setCell (S:=(·=c9)) (kR _ w7) ⟨c9,15,none⟩ U (λ_=>rfl)) (λj hj=>by subst hj;exact ajB);refine ahQ ?_;intro qe;go_upto_region 15 with(fail);rw [<-hU];clear hc7 hf7 hA7 V5 TU hN7 y7 k7 hpv ajB qe;generalize (w7.setCell ⟨c9,15,none⟩ U)=W8 at hA8 hR8 hP8 hN8 y8 k8 agN⊢;clear hU;have i1:=bH hA8;have i2:=bG hA8;have lA8:=hA8.lt;go_wp21;obtain⟨R,hR⟩:=nm' (dq l x 0 m);have agt:=yP l x 0 m;rw [<-hR,<-WN.o]at agt;have HRn:=J hR;have afC:=J agt;clear hR agt;refine(uX (some ⟨b,off,none⟩) b off n cap l x 0 b' bR k eD m _ (qd.o.ext y8)).mono ?_;rintro e w9 ⟨v9,e9,ho9,r_⟩;rw [<-HRn.o]at e9 ho9;obtain⟨rl,rw9⟩:=R;simp only at e9 ho9;subst e9;have hA9:=bX hA8 r_;have hR9:=bX hR8 r_;have hP9:=bX hP8 r_;have hN9:=bX hN8 r_;have y9:=y8.trans r_;have k9:=k8.trans (Kept.ext r_);have akL:=agN.ext r_;clear i1 i2 hA8 hR8 hP8 hN8 y8 k8 agN r_;go_wp21;refine(GX v9 _ rl.length rl h2s w.heap.size q x 0 b' bR k eD m _ _ ho9 (by have:=afC.o.2.2;omega) afC.o.1 WN.o k1 k2 (YL.Xq k9) hP9 hA9 ((HR'.o k1).ext y9)).mono ?_;rintro e G7 ⟨wA,wn,wc,rfl,OD,La⟩;have ajs:=bX hA9 La;have ajE:=bX hR9 La;have ajC:=bX hP9 La;have KH:=bX hN9 La;have JR:=y9.trans La;have xS:=k9.trans (Kept.ext La);have aee:=akL.ext La;have apa:=bC KH;have apf:=aj.frozen KH;have lN:=KH.lt;clear hA9 hR9 hP9 hN9 y9 k9 akL La ho9;have ago:=aj.nI ajs (p:=⟨c9,16,none⟩) tf (.slice wA wn wc);have Ff:=aj.nI ajE (p:=⟨c9,16,none⟩) hcR (.slice wA wn wc);have ags:=aj.nI ajC (p:=⟨c9,16,none⟩) im (.slice wA wn wc);have TQ:aj (G7.setCell ⟨c9,16,none⟩ (.slice wA wn wc)) c9 74 (Ws.cells ⟨x,0,k,M,i,pA,Hh,pk,wA,wn,wc,none,0,0⟩):=aj.fw KH 16 (.slice wA wn wc);have WD:al w (G7.setCell ⟨c9,16,none⟩ (.slice wA wn wc)):=Kept.setCell JR ⟨c9,16,none⟩ _ (λh=>by have:c9<w.heap.size:=h;omega);have Y4:Kept (λi=>W.heap.size<=i) W (G7.setCell ⟨c9,16,none⟩ (.slice wA wn wc)):=Kept.setCell xS ⟨c9,16,none⟩ _ (λ_=>hlW);have agY:Kept (·=c9) G7 (G7.setCell ⟨c9,16,none⟩ (.slice wA wn wc)):=Kept.setCell (kR _ G7) ⟨c9,16,none⟩ _ (λ_=>rfl);have RJ:=aee.kept agY (λj hj=>by subst hj;exact ga KH ae);have RP:=OD.kept agY (λj hj=>by subst hj;exact ga KH ae) (λj hj=>by subst hj;exact ga KH ae);go_upto_region 17 with(fail);clear ajs ajE ajC KH JR xS aee apa apf OD agY;generalize (G7.setCell ⟨c9,16,none⟩ (.slice wA wn wc))=W11 at ago Ff ags TQ WD Y4 RJ RP⊢;have arz:=TQ.lt;have arC:=Ff.lt
 by_cases qg:0<=rw9
 ·have bw0:decide (0<=rw9)=true:=by simpa using qg
  have YV:rw9<k:=afC.o.2.1;have x12:=dz W11 (.cells #[.int .i64 rw9] 3);have ajJ:=bN W11 3 #[.int .i64 rw9];have akF:(W11.alloc (.cells #[.int .i64 rw9] 3)).ownsRow W11.heap.size 3 1 (.slice (some ⟨W11.heap.size,0,none⟩) 1 1) 1 (ints [rw9]):=⟨rfl,.inr ⟨W11.heap.size,1,#[.int .i64 rw9],rfl,eH _,ajJ,eH _,by unfold maxLen;omega,rfl,rfl⟩⟩;have ajt:=bX ago x12;have ajF:=bX Ff x12;have ajD:=bX ags x12;have ajz:=bX TQ x12;have BR:=WD.trans x12;have k12:=Y4.trans (Kept.ext x12);have aef:=RJ.ext x12;have aep:=RP.ext x12;clear ago Ff ags TQ WD Y4 RJ RP x12 ajJ;go_wp21;refine(GX (.slice (some ⟨W11.heap.size,0,none⟩) 1 1) _ 1 [rw9] h2s w.heap.size q x 0 b' bR k eD m _ _ akF ad (λz hz=>by simp at hz;subst hz;exact⟨qg,YV⟩) WN.o k1 k2 (YL.Xq k12) ajD ajt ((HR'.o k1).ext BR)).mono ?_;rintro e w13 ⟨zA,zn,zc,rfl,hzs,T'⟩;have ajG:=bX ajF T';have Fc:=bX ajz T';have y13:=BR.trans T';have aeg:=aef.ext T';have aeq:=aep.ext T';have apb:=bC Fc;have apg:=aj.frozen Fc;have arA:=Fc.lt;clear ajt ajF ajD ajz BR k12 aef aep T' akF;have Fg:=aj.nI ajG (p:=⟨c9,17,none⟩) hcR (.slice zA zn zc);have abK:aj (w13.setCell ⟨c9,17,none⟩ (.slice zA zn zc)) c9 74 (Ws.cells ⟨x,0,k,M,i,pA,Hh,pk,wA,wn,wc,zA,zn,zc⟩):=aj.fw Fc 17 (.slice zA zn zc);have y14:al w (w13.setCell ⟨c9,17,none⟩ (.slice zA zn zc)):=Kept.setCell y13 ⟨c9,17,none⟩ _ (λh=>by have:c9<w.heap.size:=h;omega);have acf:Kept (·=c9) w13 (w13.setCell ⟨c9,17,none⟩ (.slice zA zn zc)):=Kept.setCell (kR _ w13) ⟨c9,17,none⟩ _ (λ_=>rfl);have aeh:=aeg.kept acf (λj hj=>by subst hj;exact ga Fc ae);have aer:=aeq.kept acf (λj hj=>by subst hj;exact ga Fc ae) (λj hj=>by subst hj;exact ga Fc ae);have aes:=hzs.kept acf (λj hj=>by subst hj;exact ga Fc ae) (λj hj=>by subst hj;exact ga Fc ae);go_upto_region 19 with(fail);clear ajG Fc y13 aeg aeq apb apg acf hzs;generalize (w13.setCell ⟨c9,17,none⟩ (.slice zA zn zc))=W14 at Fg abK y14 aeh aer aes⊢;have arB:=abK.lt;have arD:=Fg.lt;have i1:=bH abK;have i2:=bG abK;have i3:=bH Fg;have i4:=aj.aJ Fg;go_wp21;refine eB Tryz.results118 rfl rfl ou (by exact mr) (aj.cI Fg _ _) ⟨⟨x,0,k,M,i,pA,Hh,pk,wA,wn,wc,zA,zn,zc⟩,rfl,?_,Kept.putAt y14 _ _ _ (λh=>by omega)⟩;have kf:Kept (·=w.heap.size+1) W14 _:=Kept.putAt (kR _ W14) (w.heap.size+1) 0 (Ws.cells ⟨x,0,k,M,i,pA,Hh,pk,wA,wn,wc,zA,zn,zc⟩) (λ_=>rfl);rw [Lu (show(l.length:Int)=n by rw [HN.o]) hxI];refine⟨rfl,rfl,by rw [WN.o],HM.o,by simp [HI.o,o_],?_,?_,?_⟩
  ·have:=aeh.kept kf (λj hj=>by subst hj;exact ga Fg ae)
   have e:=HHH.o;rw [fm]at e;rw [e];exact this
  ·have:=aer.kept kf (λj hj=>by subst hj;exact ga Fg ae) (λj hj=>by subst hj;exact ga Fg ae)
   rw [<-HRn.o];exact this
  ·have:=aes.kept kf (λj hj=>by subst hj;exact ga Fg ae) (λj hj=>by subst hj;exact ga Fg ae)
   rw [<-HRn.o];simp only;rw [av ad];exact this
 ·have bw0:decide (0<=rw9)=false:=by simpa using qg
  have i1:=bH TQ;have i2:=bG TQ;have i3:=bH Ff;have i4:=aj.aJ Ff;go_wp21;refine eB Tryz.results118 rfl rfl ou (by exact mr) (aj.cI Ff _ _) ⟨⟨x,0,k,M,i,pA,Hh,pk,wA,wn,wc,none,0,0⟩,rfl,?_,Kept.putAt WD _ _ _ (λh=>by omega)⟩;have kf:Kept (·=w.heap.size+1) W11 _:=Kept.putAt (kR _ W11) (w.heap.size+1) 0 (Ws.cells ⟨x,0,k,M,i,pA,Hh,pk,wA,wn,wc,none,0,0⟩) (λ_=>rfl);rw [Lu (show(l.length:Int)=n by rw [HN.o]) hxI];refine⟨rfl,rfl,by rw [WN.o],HM.o,by simp [HI.o,o_],?_,?_,?_⟩
  ·have:=RJ.kept kf (λj hj=>by subst hj;exact ga Ff ae)
   have e:=HHH.o;rw [fm]at e;rw [e];exact this
  ·have:=RP.kept kf (λj hj=>by subst hj;exact ga Ff ae) (λj hj=>by subst hj;exact ga Ff ae)
   rw [<-HRn.o];exact this
  ·rw [<-HRn.o];simp only;rw [af ad];exact hJ.none _):G:=h
theorem zz9 (h:G:=by
 intro jX;have EW:=J jX;clear jX;refine WB (λwz=>SM x f W W1 wz) (.op 0 2 (.op 1 2 (.op 2 2 (.op 3 1 (.op 4 2 (.op 5 1 (.fork 6 (.op 7 2 (.op 8 2 (.op 9 2 (.op 10 2 (.op 11 0 (.op 12 2 (.op 13 0 (.op 14 2 .nil)))))))) 11 (.op 6 0 (.op 7 2 (.op 8 2 (.op 9 2 (.op 10 2 (.op 12 2 (.op 13 0 (.op 14 2 .nil))))))))))))))) ?_;refine WC ?_;have bT:=J (pj W1)
 (repeat (first|refine oh ?_|((apply c_);(· exact⟨KT.ext bT.o,_,Es.o.ext bT.o⟩);(· go_simp);(· (intro w1 hS;have d0:=KT.block hS.1 pq.o ae ae;have d1:=bC d0;have d2:=d0.lt;obtain⟨L',iP⟩:=hS.2;obtain⟨A',n',oU,fJ,_⟩:=iP.blk;have d3:=bC fJ;have d4:=fJ.lt;have d5:=MS.look iP;have d6:=bH fJ;have d7:=bG fJ;go_simp;try with_reducible rfl));refine iR ?_)|((apply cZ);(· exact⟨KT.ext bT.o,_,Es.o.ext bT.o⟩);(· go_simp);refine iR ?_)))
 refine gL ?_ ?_
 ·(refine cw (λK hK=>?_);go_simp)
  go_wp21;refine(yX x.c x.p s x.N _ (ay Oz bT.o.size) (Es.o.ext bT.o).prog).mono ?_;rintro e w1 ⟨rfl,aB⟩;have y2:=bT.o.trans aB;refine hK.out _ _ (λ_=>⟨KT.ext y2,_,Es.o.ext y2⟩) ?_;clear hK K;refine o8 ?_;intro K hK;have y3:=y2.alloc (.cells #[.string ⟨#[]⟩,.int .i64 0,.int .i64 0,.int .i64 0] 232);have qt:=bN w1 232 #[.string ⟨#[]⟩,.int .i64 0,.int .i64 0,.int .i64 0];refine hK.out _ _ (λ_=>⟨KT.ext y3,_,Es.o.ext y3⟩) ?_;clear hK K;generalize Fh:w1.alloc (.cells #[.string ⟨#[]⟩,.int .i64 0,.int .i64 0,.int .i64 0] 232)=W2 at y3 qt⊢;clear Fh;have tj:(W1:World).heap.size<=w1.heap.size:=y2.size;generalize w1.heap.size=fb at qt tj⊢;have qe:=qt.aJ;have zG:=bH qt;refine o8 ?_;intro K hK;have y4:=y3.putAt fb 0 (aO (a_ x.p.vars s)) (λaX=>absurd aX ad);have hf4:aj (putAt W2 fb 0 (aO (a_ x.p.vars s))) fb 232 (aO (a_ x.p.vars s)):=aj.cI qt 0 (aO (a_ x.p.vars s));refine hK.out _ _ (λ_=>⟨KT.ext y4,_,Es.o.ext y4⟩) ?_;clear hK K qe zG;refine JQ ?_;generalize putAt W2 fb 0 (aO (a_ x.p.vars s))=W3 at y4 hf4⊢;exact EW.o _ _ ⟨y4,hf4⟩
 ·(refine cw (λK hK=>?_);go_simp)
  have y1':al W1 (W1.alloc (.cells #[.string ⟨#[]⟩,.int .i64 0,.int .i64 0,.int .i64 0] 232)).drew:=(dS W1 _).drew;refine hK.out _ _ (λ_=>⟨KT.ext y1',_,Es.o.ext y1'⟩) ?_;clear hK K;generalize hWx:(W1.alloc (.cells #[.string ⟨#[]⟩,.int .i64 0,.int .i64 0,.int .i64 0] 232)).drew=Wx at y1'⊢;have qu:aj Wx W1.heap.size 232 #[.string ⟨#[]⟩,.int .i64 0,.int .i64 0,.int .i64 0]:=by rw [<-hWx];exact aj.drew (bN W1 _ _)
  clear hWx;have tj:(W1:World).heap.size<=W1.heap.size:=eH _;generalize Yp:(W1.heap.size:Nat)=fb at qu tj⊢;have HFL:=J (show(W1:World).heap.size<=fb by omega);clear tj Yp;have dR:=J y1';refine o8 ?_;intro K hK;go_wp21;refine(yX x.c x.p s x.N _ (ay Oz dR.o.size) (Es.o.ext dR.o).prog).mono ?_;rintro e w1 ⟨rfl,aB⟩;have y2:=dR.o.trans aB;refine hK.out _ _ (λ_=>⟨KT.ext y2,_,Es.o.ext y2⟩) ?_;clear hK K y1';have CO:=bX qu aB;have qe:=CO.aJ;have zG:=bH CO;refine o8 ?_;intro K hK;have y4:=y2.putAt fb 0 (aO (a_ x.p.vars s)) (λaX=>absurd aX (by have:=HFL.o;omega));have hf4:aj (putAt w1 fb 0 (aO (a_ x.p.vars s))) fb 232 (aO (a_ x.p.vars s)):=aj.cI CO 0 (aO (a_ x.p.vars s));refine hK.out _ _ (λ_=>⟨KT.ext y4,_,Es.o.ext y4⟩) ?_;clear hK K qe zG;refine JQ ?_;generalize putAt w1 fb 0 (aO (a_ x.p.vars s))=W3 at y4 hf4⊢;exact EW.o _ _ ⟨y4,hf4⟩):G:=h
theorem amJ (h:G:=by
 obtain⟨D,hD⟩:=nm' (ru l (pc,halt,m) (j+1));obtain⟨M,hMe⟩:=nm' (kX m');have hDM:D=mM p' h' k M:=by rw [hD,hMe];unfold ru;rw [WS.o,<-QK.o];rfl
 have agK:=(aiI.o (j+1)).1;rw [WS.o]at agK;obtain⟨_,_,s3,s4,s5,s6⟩:=bU agK.right;simp only at s3 s4 s5 s6;have⟨HD,HMe,HDM⟩:=J3' hD hMe hDM;clear hD hMe hDM agK;go_upto_region 18 with(fail);refine eW (λw2=>al w6 w2) [(0,2),(1,2),(2,1),(3,2),(4,1),(5,2),(6,1),(7,2),(8,2),(9,0),(10,0),(11,0),(12,0),(13,2)] ?_;refine eX ?_
 (repeat first|refine bV ?_|refine cF dQ (by intro w1 hS;have d1:=bC (bX Oe hS);have d2:=(bX Oe hS).lt;exact fE) ?_|refine cD dQ ?_)
 have yW:al w6 w6.drew:=(kR _ w6).drew
 (refine ap (λK hK=>?_);go_simp)
 go_wp2_with fail;have hrt:=jm base q (m'.map dD) w6.drew (by rw [fm,QK.o];exact k1) (by rw [fm,QK.o];omega) (HT6.o.ok.ext yW);rw [show xk (m'.map dD)=M from HMe.o.symm]at hrt;refine hrt.mono ?_;rintro e w7 ⟨rfl,Bv⟩;have y7:al w6 w7:=yW.trans Bv;refine hK.out _ _ (λ_=>y7) ?_;clear hK K hrt;refine kZ ?_;intro K hK;go_wp2_with fail;have Wc:=ji p' h' k M (by rw [HMe.o];exact kJ _ _) ad ad ad w7;rw [<-HDM.o]at Wc;refine Wc.mono ?_;rintro e w8 ⟨rfl,EB⟩;have y8:al w6 w8:=y7.trans EB;refine hK.out _ _ (λ_=>y8) ?_;clear hK K Wc;refine kZ ?_;intro K hK;have y9:al w6 (w8.alloc (.cells D.cells 25)):=y8.alloc _;refine hK.out _ _ (λ_=>y9) ?_;clear hK K;have hs9:=y8.size;obtain⟨v10,G7,akN,akE,rZ⟩:=J9 (w8.alloc (.cells D.cells 25)) fT (.slice (some ⟨g12,0,none⟩) (j+1) c12) (j+1) _ (aQ ER.o y9) w8.heap.size 0 1 1 [D] rfl (by simpa [dc]using Row.cR (bN w8 25 D.cells)) ad kQ;have RI:∀i,(Value.slice (some ⟨g12,0,none⟩) (j+1) c12).ownBlock=some i->fT<=i:=λi e=>(ER.o.lt i e).1;have hoi:=cY (aQ ER.o y9) (E':=21) ae;have Bu:=cY (aQ ER.o y9) (E':=47) ae;have aoW:=bK (bX Oe y9) rZ (λe=>Bu sb e _ _ (bX Oe y9));have ajH:=(HT6.o.ext y9).kept rZ RI;have ajx:=(uh.o.ext y9).kept rZ (λi e=>by have:=RI i e;omega) (λi e _=>hoi i e);have x10:al w G7:=(x6.trans y9).trans' rZ (λi hi e=>by have:=RI i e;omega);have akS:fT<=G7.heap.size:=by have h1:=y9.size;have h2:=rZ.size;omega
 have YG:G7.ownsRow fT 25 8 v10 (j+1+1) (dc ((List.range (j+1+1)).map (ru l (pc,halt,m)))):=by
  rw [List.range_succ,vQ,show List.map (ru l (pc,halt,m)) [j+1]=[D]by rw [HD.o];rfl];exact akE
 obtain⟨g10,c10,apM,_⟩:=fq YG ad ad;subst apM;have⟨aor,aoA,aft⟩:=J3' YG ajH ajx;clear akE YG ajH ajx rZ RI hoi Bu;refine DZ bd (λK hK=>?_);refine CZ rfl ?_;refine Lib.wp_append_run _ _ _ _ _ rfl _ _ rfl rfl _ _ akN ?_;refine hK.out _ _ ?_;clear hK K akN;refine fc ?_;go_wp2_with fail;go_roundw
 case rel=>exact⟨j+1,g3,0,c3,aX,aor.o,by rw [WS.o];exact aoW,by rw [WS.o];exact aft.o,by rw [WS.o];exact aoA.o,x10,akS⟩
 case measure=>simp only;omega):G:=h
theorem aqE (h:G:=by
 have iI:(j:Int)<xB:=by omega
 have hjr:j<rs.length:=by have:=HRN.o;omega
 have ft:j<(rs.map (gp m)).length:=by simpa using hjr
 have Yv:j<ds.length:=by rw [q4.len];exact ft
 obtain rfl:=q1 ad;have aG:=(q2 ad).ext xr;obtain⟨YM,Nh⟩:=aG.wd j Yv;have rV:=aG.lt;have uT:=(q4.get j Yv ft).ext xr;rw [List.getElem_map]at uT;obtain⟨d,Yl⟩:=nm' (ds[j]);obtain⟨z,hz⟩:=nm' (rs[j]);rw [<-Yl]at Nh uT;rw [<-hz]at uT;obtain⟨hz0,hz1⟩:=WM.o z (by rw [hz];exact cK hjr);obtain⟨a,rfl⟩:∃a:Nat,z=a:=⟨z.toNat,by omega⟩;have f1:d.at_=a:=uT.at_;have f2:=uT.Wz;have⟨HWV,HZ,HF2⟩:=J3' uT hz f2;have hak:a<k:=by omega
 clear Ov q1 q2 q4 aG Yl uT hz f2 hz0;obtain⟨dat,Rk,Tq,Tv,Ts⟩:=d;simp only at f1;subst f1;go_upto_region 7 with(fail);have xa:al wr _:=dS wr (.cells (Wd.cells ⟨a,Rk,Tq,Tv,Ts⟩) 271);have hW7:=bN wr 271 (Wd.cells ⟨a,Rk,Tq,Tv,Ts⟩);have TV:=bX (bK ed yG ad) xa;have TU:=bX (bK hP yG gM) xa;have Rr:=bX HGR.o xa;have IC:=HWV.o.ext xa;have HG7:=J Rr;have SU:=J IC;generalize (wr.alloc (.cells (Wd.cells ⟨a,Rk,Tq,Tv,Ts⟩) 271))=W7 at xa hW7 TV TU HG7 SU⊢;clear Rr IC YM Nh HWV HGR;generalize (wr:World).heap.size=wb at hW7⊢;have i1:=bH hW7;have i2:=bG hW7;have YQ:=G1 ⟨a,Rk,Tq,Tv,Ts⟩ (gp m a) sb ⟨x,0,k,M,i,EC,BK,ED,some ⟨b,off,none⟩,xB,EE,DU,rc,EG⟩ k rfl k1 k2 W7 TV SU.o (by rw [show(gp m a).path=iw (m.map dD) (jb m.length) a from rfl,kj,HK.o]) (by rw [HMM.o];exact DM ad VA VA);have abl:=J YQ;clear YQ;go_wp21;refine abl.o.mono ?_;rintro e w8 ⟨rfl,EB⟩;have j1:=bC (bX hW7 EB);have j2:=(bX hW7 EB).lt;have j3:=bC (bX TV EB);have j4:=(bX TV EB).lt;have j5:=bC (bX TU EB);have j6:=(bX TU EB).lt;have hG8:=bX HG7.o EB;have j7:=aj.frozen hG8 a;have j8:=hG8.lt;have AP:(nV m (rs.take j) (List.replicate k 0)).length=k:=by rw [zf];simp
 have j9:w8.cell? ⟨gm,a,none⟩=some (.int .i32 ((nV m (rs.take j) (List.replicate k 0)).getD a 0)):=by
  rw [bC hG8 a];simp [bJ,AP,hak]
 have HG8:=J hG8;have ajL:(a:Int)<k:=by omega
 clear hG8 HG7 i1 i2 hW7 TV TU AP;go_wp21;go_roundw
 case rel=>
  refine⟨j+1,aX,by go_num,?_,?_⟩
  ·have h9:=aj.fw HG8.o a (.int .i32 Rk)
   rw [Zl,HF2.o]at h9;rw [HF2.o,List.take_succ_eq_append_getElem hjr,P8,<-HZ.o];exact h9
  ·exact Kept.setCell (yG.trans' (xa.trans EB) (λ_ _ f=>f.elim)) _ _ (λ_=>rfl)
 case measure=>simp only [intOf];omega):G:=h
theorem aid (h:G:=by
 go_wp21
 go_loopw [56] (λt56 wr=>∃(j:Nat) (R:EF),j+R.len=kn/\mB κ R=r/\t56=.int .i64 j/\lU w0 N0 R b (off+j*4)/\EF.xO (afk cb κ w0) R/\al W wr) (λt56 _=>kn - (intOf t56).toNat)
 case atStart=>exact⟨0,F,by rw [HN.o,dU],HEQ.o,rfl,by simpa using HE.o,HI.o,ys⟩
 case round=>
  obtain⟨j,R,hj,bO,rfl,hR,hI,hx⟩:=hrel;have⟨qd,rh,HX,cr⟩:=J4' hR hI hx bO;clear hR hI hx bO
  cases R with
  |nil=>
   simp only [EF.len,fC]at hj;subst hj;have zT:r=none:=by rw [<-cr.o];rfl
   have HR0:=J zT;clear zT;go_wp21;go_end0;exact⟨by rw [mI.o,HR0.o];rfl,dX.o.trans HX.o⟩
  |cons sq m' name' q rr=>
   obtain⟨hb,h1,h2,h3,⟨A',cap,b',bR,hh,hg,hl,tX,hk⟩,hr⟩:=qd.o;simp only [EF.len]at hj;have aX:(j:Int)<kn:=by omega
   obtain rfl:=HA.o ad;have jj:=aK.trans (dX.o.trans HX.o);refine FC ?_;intro rV jM hg' ie;have⟨KE,IK,J_,sP⟩:=J4' (show lJ w0 N0 A' q.len q from⟨rfl,hl,b',bR,tX,hk⟩) rh.o.1 jj hr;clear hh hg hl tX hk h1 h2 h3 qd rV jj hr;go_wp21;have y0:al wr _:=dS wr (.cells (aF sq m' name' A' q.len cap) 354);obtain⟨f,hf⟩:=nm' (Cs κ sq m' name' q);have HF:=J hf;have HK:=J (IK.o sq m' name' A' q.len cap N0 _ (J_.o.trans y0) Rs KE.o);rw [<-hf]at HK;clear hf;refine HK.o.mono ?_;rintro e w1 ⟨he,aB⟩
   cases f with
   |none=>
    have he:=cP.none he;subst he;have zm:=J (show mB κ rr=r by have h:=cr.o;rw [sX,<-HF.o]at h;exact h);go_wp21;go_roundw
    case rel=>exact⟨j+1,rr,by omega,zm.o,by go_num,by rw [Nat.add_mul,<-gH];exact sP.o,rh.o.2,HX.o.trans (y0.trans aB)⟩
    case measure=>simp only [intOf];omega
   |some f=>
    have he:=cP.some he;subst he;have HRF:=J (show X=some f by have h:=cr.o;rw [sX,<-HF.o]at h;rw [mI.o,<-h];rfl);show _/\_;exact⟨rfl,by rw [HRF.o];exact⟨rfl,dX.o.trans (HX.o.trans (y0.trans aB))⟩⟩):G:=h
theorem aif (h:G:=by
 clear VV;obtain⟨aq,nq,cq,m0,mo⟩:=(HMa.o).blk;have m1:=m0.lt;have m0:=bC m0;clear mo;go_wp21;obtain⟨RM,hsf,sb,so,hsA,hsE⟩:=HS.o;have akQ:jc w N A F.len F:=⟨rfl,by rw [<-RM];exact hsf,sb,so,λh=>hsA (by rw [RM];exact h),hsE⟩;have oZ:=(akQ.kept HWX.o (by rw [oO.o];exact hN) (λ_ f=>f.elim)).kt HKa.o Od Wj.o;subst RM;refine(Pb ⟨B,N,mb,p,c,b,wm,sm,em⟩ part F 0 (ka p b part) κ true A cap [] _ ⟨hbb.1,hbb.2,λs=>(QU.o s).1,λs=>(QU.o s).2⟩ Ny.o ad HMa.o oZ HC.o hz (by have:=HL.o;show 0+(cB ⟨p.vars,p.aP,b⟩ F (ka p b part) 0 0).length<=4000;omega)).mono ?_;rintro e wb ⟨rfl,Wo,Bs⟩;have HMb:=J (show MS wb B N mb p c b wm sm em 0 (ka p b part) (cB ⟨p.vars,p.aP,b⟩ F (ka p b part) 0 0)from Wo);have HKb:=J (HKa.o.trans (show KT B wm _ wb from Bs));clear Wo Bs m0 m1 hsf hsA hsE oZ akQ;go_wp21;refine(cj B N mb wm sm em 0 p c b (ka p b part) (cB ⟨p.vars,p.aP,b⟩ F (ka p b part) 0 0) ⟨0,0,0,0⟩ ⟨adn,adn,adn,adn⟩ (by have:=HL.o;omega) _ HMb.o).mono ?_;rintro e wz ⟨rfl,zL,Wh⟩;have HKz:=J (HKb.o.trans Wh);obtain⟨az,nz,cz,z0,zo⟩:=zL.blk;have z1:=z0.lt;have z0:=bC z0;have oN:=J zL.okL;have HZO:=J zo;clear zL Wh zo;go_wp21;go_ret;refine⟨az,nz,cz,?_,?_,?_,oN.o⟩
 ·rfl
 ·exact HWX.o.trans' (HKz.o.below) (λi hi e=>by have:=fx.o;have:=oO.o;omega)
 ·rw [oO.o,fx.o];exact HZO.o):G:=h
theorem amR (h:G:=by
 go_wp21;refine amx ?_;intro uM y5 hM5;go_wp21;refine R6 Tryz.results50 rfl rfl nE Aw uM ⟨_,_,_,rfl,g,kc,?_,?_,y5⟩
 ·rw [<-WW.o]
 ·rw [<-WW.o];exact hM5):G:=h
theorem amS (h:G:=by
 go_wp21;refine amx ?_;intro uM y5 hM5;go_wp21;refine R6 Tryz.results50 rfl rfl nE Aw uM ?_;exact FIN.o _ uM hM5 y5):G:=h
theorem VL (h:G:=by
 have HC:=J pF;clear h hX hf pF;go_enter Tryz.func299,Tryz.ntmps299;go_upto_region 1 with(fail);generalize (w.alloc (.cells (aF op n s A F.len kc) 354))=W1 at y1 cG ja jh⊢;generalize (w:World).heap.size=g at cG⊢;have⟨HB,HX,HM⟩:=J3' cG jh ja;clear ja cG jh;refine eW (λw2=>al W1 w2) [(0,2),(1,2),(2,2),(3,1),(4,2),(5,1),(6,1),(7,2),(8,2),(9,2),(10,2),(11,2)] ?_;refine eX ?_;have y2:al W1 W1.drew:=(kR _ W1).drew
 (repeat first|refine bV ?_|refine cF y2 zb3 ?_|refine cD y2 ?_)
 refine fc ?_;have mP:=bX HB.o y2;have i1:=bH mP;have i2:=bG mP;have i3:=mP.lt;clear mP;go_wp21;refine(HC.o _ (HM.o.ext y2) (HX.o.kt (KT.ext (B:=x.B) (wm:=x.wm) y2) HM.o.hN HM.o.hB)).mono ?_;rintro e w2 ⟨rfl,jG,eC⟩;go_wp21;refine iS Tryz.results299 rfl ?_;exact⟨rfl,jG,(KT.ext (y1.trans y2)).trans eC⟩):G:=h
theorem amT (h:G:=by
 rw [e6]at hb6;clear e6 eC iz;have HB6:=J hb6;have Ht:=J (Kept.trans (Kept.ext (S:=(·=g)) yd) rp);clear hb6 rp yd;refine DZ bd (λK hK=>?_);refine se rfl ?_;refine Lib.wp_copy_run _ _ _ _ _ rfl _ _ rfl rfl (Wu _) ?_;refine hK.out _ _ ?_;clear hK K Wu;refine fc ?_;have hs6:=bK QS.o Ht.o vH;have Wu:=bK (bK ug.o vz.o (by have:=HRL.o;omega)) Ht.o (by have:=HRL.o;omega);have l1:=bH hs6;have l2:=bG hs6;have l3:=hs6.lt;have l4:=bH Wu;have l5:=aj.aJ Wu;have l6:=Wu.lt;have HR6:=J Wu;have tQ:=J hs6;clear Wu hs6;go_wp21;have kp:Kept (·=rb) w6 (putAt w6 rb 0 #[.int .i64 0,.slice (some ⟨g,0,none⟩) (bI p) (bI p),.int .i64 0]):=Kept.putAt (kR _ _) _ 0 _ (λ_=>rfl);refine eB (t:=47) (g:=rb) (cs:=ai 0 (some ⟨g,0,none⟩) (bI p) (bI p) 0) Tryz.results46 rfl rfl nE Aw (by exact aj.cI HR6.o 0 _) ⟨?_,.ok HF0.o g sM.o (bK HB6.o kp (by have:=HRL.o;omega))⟩;exact((bT.o.trans fg.o).trans kB.o).trans' (((vz.o.trans Ht.o).mono (S':=λi=>i=g∨i=rb) (λ_ _ e=>Or.inl e)).trans' kp (λi hi e=>Or.inr e)) (λi hi e=>by have h1:=ET.o;have h2:=sM.o;omega)):G:=h
theorem amU (h:G:=by
 refine HK.o.mono ?_;rintro e w2 ⟨hb,eC⟩;have fN:=J (HX.o.trans ((Kept.ext bT.o).trans eC));clear eC HK
 cases v with
 |none=>
  obtain⟨he,hc2⟩:=hb;subst he;have JT:=J hc2;have zm:=J (show cC i MW aU _ r=Z from cr.o);clear hc2;go_wp21;go_roundw
  case rel=>exact⟨m+1,r,by omega,zm.o,by go_num,by rw [Nat.add_mul,<-gH];exact sP.o,Hq.o.2.2,JT.o,fN.o⟩
  case measure=>simp only [intOf];omega
 |some f=>
  obtain⟨he,mm,kk,gX,zB⟩:=hb;subst he;have⟨HZF,tP,mP⟩:=J3' (show Z=some f from cr.o.symm) gX zB;have zI:=bC (bK H4B.o fN.o mw.o.1) 0;have nM:=bC (bK H7B.o fN.o mw.o.2) 0;clear gX zB c4 l4;refine leaves_cons (f:=319) (args:=#[.pointer (some ⟨p4+1,0,none⟩),.pointer (some ⟨p4,0,none⟩)]) aC (by simp [go_sem]) ?_;refine(CH (p4+1) p4 cb g B j bc ns mm (bZ i) kk (.panicking (Vd f)) p4 _ nM zI mP.o tP.o (zp.o _ fN.o)).mono ?_;rintro e u' w3 ⟨rfl,rfl,vE,iz⟩;refine⟨?_,HWR.o.trans (fN.o.trans (iz.mono λ_ _ h=>Or.inl h))⟩;rw [HZF.o];exact⟨rfl,_,_,vE,bK mP.o iz rD.o.ne⟩):G:=h
theorem amV (h:G:=by
 go_wp21;refine(jv b _ _ afE.o).mono ?_;rintro e w' ⟨rfl,rfl⟩;go_wp21;refine(lH b c _ _ _ afE.o HV.o aiv.o HP.o).mono ?_;rintro e w' ⟨rfl,rfl⟩;go_wp21;refine(CX b c _ F s hf tP.o hf1 Vz Vz Da Dz C Dm L _ _ _ _ ⟨HBC.o,afE.o,HV.o,aiv.o,HP.o,by have:=SR.o;have:=HW.o;show og (T+t.window)=true;simp [og];omega,rfl,Int.le_refl _,by have:=HW.o;exact⟨this.1,by show t.window<=1048576;omega⟩⟩).mono ?_;rintro e wd ⟨rfl,htd,had,hkd⟩;have HAD:=J had;clear had;go_wp21;go_roundw
 case rel=>
  refine⟨aok.o.trans hkd,.inl ?_⟩;have hti:=SR.o;have hwi:=HW.o;have hA:=HAD.o
  split at hA
  ·refine⟨i+1,F,hf,T+t.window+t.window,aX,by go_num,VQ.o,by have:=WL.o;have:=tP.o;omega,by omega,by push_cast;omega,htd,?_⟩
   rw [<-HDa.o,<-HDm.o];exact hA
  ·refine⟨i+1,F+hf,hf,T+t.window+t.window,aX,by go_num,VQ.o,by have:=WL.o;have:=tP.o;omega,by omega,by push_cast;omega,htd,?_⟩
   rw [<-HDm.o,show F+hf+hf=F+s by have:=tP.o;omega,<-HDz.o];exact hA
 case measure=>simp only [intOf];omega):G:=h
theorem amW (h:G:=by
 refine hK.out _ _ (bX (w:=w.drew) ht hx) (λpd=>?_);clear hK K;have KU:=bH pd;have Nd:=aj.aJ pd;have hc1:=bC pd;have hf1:=aj.frozen pd
 (repeat (refine sK (λK hK=>?_);go_simp;refine hK.out _ _ pd (λ_=>?_);clear hK K))
 (refine Ed bd (λK hK=>?_);go_simp)
 refine hK.out _ _ ?_;clear hK K;refine xK ?_
 go_wp2
 go_ret;refine⟨rfl,?_,?_⟩
 ·(apply At.of;(· (repeat' (with_reducible (first|assumption|apply aj.fw|apply aj.cI|apply aj.alloc|apply aj.drew|apply aj.drewN))));(· kernel_rfl))
 ·refine Kept.trans' (w:=w') (S':=(·=b)) (Kept.ext (Kept.trans (w:=w.drew) ?_ hx)) ?_ (λ_ _ h=>h)
  ·((repeat' (with_reducible (first|apply Kept.drew|apply Kept.drewN|apply Kept.alloc|apply Kept.setCell|apply Kept.putAt|exact kR _ _)))<;>(intro aX;first|rfl|(simp at aX;done)|(exfalso;simp at aX;omega)|omega))
  ·((repeat' (with_reducible (first|apply Kept.drew|apply Kept.drewN|apply Kept.alloc|apply Kept.setCell|apply Kept.putAt|exact kR _ _)))<;>(intro aX;first|rfl|(simp at aX;done)|(exfalso;simp at aX;omega)|omega))):G:=h
theorem Em (h:G:=by
 rw [<-ht];have HT:=J ht;clear ht;refine fc ?_;have rj:oQ (w2.setCell ⟨g,a,none⟩ (.int .i32 (t))).drew s 47 pc (some ⟨g,0,none⟩) n kc 0:=aj.nI gX (p:=⟨g,a,none⟩) oc (.int .i32 (t));have vE:eo (w2.setCell ⟨g,a,none⟩ (.int .i32 (t))).drew base g n kc (m.set a (t)):=(eE.set a nl (t)).ext ((kR _ _).drew);have iz:Kept (λi=>i=s∨i=g) w (w2.setCell ⟨g,a,none⟩ (.int .i32 (t))).drew:=(Kept.setCell (Kept.ext x2) _ _ (λ_=>.inr rfl)).drew;generalize (w2.setCell ⟨g,a,none⟩ (.int .i32 (t))).drew=W3 at rj vE iz⊢;have apd:=bC rj;have aph:=aj.frozen rj;go_wp21;go_end0;refine⟨rfl,?_⟩;rw [HE.o,<-HT.o];exact Stepped.goal iz rj vE oc _):G:=h
theorem ane (h:G:=by
 refine fc ?_;have ed:oQ W.drew s 47 pc (some ⟨g,off,none⟩) k kc halt:=kV;have hc1:=bC ed;have hq1:-2147483648<=q:=by rw [HQ.o];omega
 have Wq:q<=2147483903:=by rw [HQ.o];omega
 clear mO qg
 by_cases h1:(k:Int)<=q
 ·have b1:decide ((k:Int)<=q)=true:=by simpa using h1
  go_wp21;go_ret;exact⟨cL (by unfold u7;rw [af ad]),aK.drew⟩
 ·have b1:decide ((k:Int)<=q)=false:=by simpa using h1
  go_wp21;go_ret;refine⟨cL ?_,aK.drew⟩;unfold u7
  by_cases h0:0<=q
  ·rw [av ⟨h0,by omega⟩,Int.max_eq_left ad]
  ·rw [af ad,Int.max_eq_right ad]):G:=h
theorem ang (h:G:=by
 obtain⟨xn,xs,xl,xh⟩:=x
 by_cases hq:xh<xl
 ·have hqg:xl>xh:=hq
  go_wp2_with fail;go_ret;have uO:p.params.any (λv=>decide (v.high<v.low))=true:=List.any_eq_true.2 ⟨p.params[j],cK ft,by rw [<-iF.o];exact cO hq⟩;refine⟨?_,dX.o.trans (HX.o.trans y0.o)⟩;rw [JC.o];unfold na;rw [uO]
  rfl
 ·have hqg:¬xl>xh:=hq
  go_wp2_with fail;have Wq:decide (xh<xl)=false:=cU hq;exact⟨⟨j+1,aX,by go_num,by rw [mJ,List.getElem?_eq_getElem ft,<-iF.o,List.any_append,cr.o];simp [Wq],HX.o.trans y0.o⟩,by simp only [intOf];omega⟩):G:=h
theorem anh (h:G:=by
 obtain⟨A',oU,rfl⟩:=oI Fo;have QO:=J Fo;have Nt:=J (show al W wa from((vM.o.trans HYC.o).trans y1).trans' RB (λi hi e=>by have:=((aQ (aQ HOJ.o HYC.o) y1).lt i e).1;omega));clear Fo RB y1 oD;go_step
 iterate 3 refine kT ?_
 refine cJ rfl (.tmp 37) (.tmp 39) 40 rfl rfl rfl rfl RL ?_;clear RL;go_wp21;go_roundw
 case rel=>exact⟨j+1,⟨A',s.n+1,oU⟩,by omega,by go_num,rfl,by show wa.ownsRow _ _ _ _ _ (bJ ((List.range (j+1)).map _));rw [va,HXV.o];exact QO.o,Nt.o⟩
 case measure=>simp only [intOf];omega):G:=h
theorem anj (h:G:=by
 obtain⟨A',oU,rfl⟩:=oI Fo;have QO:=J Fo;have Nt:=J (show al wc wa from(M3.o.trans y1).trans' RB (λi hi e=>by have:=((aQ HOQ.o y1).lt i e).1;omega));clear Fo RB y1 oD;go_step
 iterate 3 refine kT ?_
 refine cJ rfl (.tmp 87) (.tmp 89) 40 rfl rfl rfl rfl RL ?_;clear RL;go_wp21;go_roundw
 case rel=>exact⟨i+1,by omega,by go_num,⟨A',q.n+1,oU⟩,⟨rfl,rfl,rfl⟩,by show wa.ownsRow _ _ _ _ _ (bJ ((List.range (i+1)).map _));rw [va,HXV.o];exact QO.o,Nt.o⟩
 case measure=>simp only [intOf];omega):G:=h
theorem ank (h:G:=by
 obtain⟨A',oU,rfl⟩:=oI Fo;have QO:=J Fo;have Nt:=J (show al wc wa from(qV.o.trans y1).trans' RB (λi hi e=>by have:=((aQ Nx.o y1).lt i e).1;omega));clear Fo RB y1 oD;go_step
 iterate 3 refine kT ?_
 refine cJ rfl (.tmp 87) (.tmp 89) 40 rfl rfl rfl rfl RL ?_;clear RL;go_wp2_with fail;go_roundw
 case rel=>exact⟨i+1,⟨A',q.n+1,oU⟩,by omega,by go_num,rfl,by show wa.ownsRow _ _ _ _ _ (bJ ((List.range (i+1)).map _));rw [va,HXV.o];exact QO.o,Nt.o⟩
 case measure=>simp only [intOf];omega):G:=h
theorem anm (h:G:=by
 have HR:=J (show X=none by rw [eK.o,oE];rfl);refine ML ?_;intro K hK
 try rw [LN]
 refine(bj true _ _ _).mono ?_;rintro e w1 ⟨he,rfl⟩;have he:=cP.none he;subst he;refine hK.out _ _ ?_;clear hK K;refine fc ?_;have ajP:=bC (bX mf.o (eP.o.trans rz.o));have ako:=(bX mf.o (eP.o.trans rz.o)).lt;go_wp21;go_end0;exact⟨by rw [HR.o];rfl,HX.o⟩):G:=h
theorem FE (h:G:=by
 rintro e w5 ⟨rfl,yH,mY⟩;rw [<-HSC.o]at yH;refine hK.out _ _ (λ_=>⟨yd.trans mY,_,yH⟩) ?_;clear hK K;refine fc ?_;have Bg:=J yH;have vz:=J (SI.o.trans (bT.o.trans (yd.trans mY)));clear yH mY yd;go_wp21;go_roundw
 case rel=>exact⟨m+1,r,Lm++SC,by omega,rv.o,HZN.o,by go_num,by rw [Nat.add_mul,<-gH];exact HRN.o,VN.o,Bg.o,vu.o,vz.o⟩
 case measure=>simp only [intOf];omega):G:=h
theorem ano (h:G:=by
 rintro e w2 ⟨e2,bM⟩;replace e2:e=.returned (.int .i64 F):=by rw [e2,HF.o]
 subst e2;have x2:=x1.trans bM;have kI:=bX dW bM;have gX:=bX ed bM;have eE:=eT.ext bM;clear dW ed eT x1 bM lP mX;have xQ:=bC kI;have jZ:=bC gX;have AO:=aj.frozen gX;have lI:=kI.lt;have lS:=gX.lt;go_wp21;refine iS Tryz.results115 rfl ⟨rfl,?_⟩;exact Stepped.halt (Kept.ext x2) gX eE oc _):G:=h
theorem aih (h:G:=by
 have hi:i<(es.toList.map (·.key)).length:=by rw [fm];exact(List.getElem?_eq_some_iff.1 hx).1
 have Yu:j<(es.toList.map (·.key)).length:=by rw [fm];exact(List.getElem?_eq_some_iff.1 h2).1
 refine(List.getElem_inj hn (h₀:=hi) (h₁:=Yu)).1 ?_;have e1:=(List.getElem?_eq_some_iff.1 hx).2;have e2:=(List.getElem?_eq_some_iff.1 h2).2;rw [List.getElem_map,List.getElem_map,e1,e2,je,h3]):G:=h
theorem aaV (h:G:=by
 refine leaves_cons (f:=190) (args:=#[.pointer (some ⟨rb,0,none⟩)]) aC (by simp [go_sem]) ?_;refine(AG rb _ _ (bK ET.o jy.o mw.o.2)).mono ?_;rintro e u' w9 ⟨rfl,hu,KQ,yx⟩;show Leaves _ _ _ _ _ _ _;rw [hu];refine⟨_,results_cell_row Tryz.results136 _ _ rb _ _ _ _ rfl KQ Tryz.underlying225 rfl qM,?_⟩;rw [HR.o];exact⟨rfl,aiM.o _ _ jy.o yx⟩):G:=h
theorem aii (h:G:=by
 go_upto_region 13 with(fail);clear i1 i2 i3 i4 i5;go_wp21;refine(eR nb m 0 _ uh.o ad BM.o).mono ?_;rintro e wf ⟨rfl,bf,kf⟩;go_wp21;go_ret;refine⟨congrArg (λz:Nat=>Ending.returned (.int .i64 z)) (by first|exact B5.o|(rw [fC];exact B5.o)),?_⟩;exact(Wv.trans Y3.o).trans' (KM.o.trans kf) (λi hi e=>by have:=WR.o.2;omega)):G:=h
theorem anq (h:G:=by
 rw [qn]at eK;clear hvI;refine ML ?_;intro K hK
 try rw [LN]
 refine(bj false _ _ _).mono ?_;rintro e w1 ⟨he,rfl⟩;have he:e=.panicked (Vd ⟨11,s⟩):=he;subst he;have HR:=J (show X=some ⟨11,s⟩by rw [eK.o];rfl);show _/\_;exact⟨rfl,by rw [HR.o];exact⟨rfl,dX.o.trans (eP.o.trans rz.o)⟩⟩):G:=h
theorem adB (h:G:=by
 go_wp21;refine(L5 Gm ado).mono ?_;rintro e w6 ⟨rfl,zO,rp⟩;have y6:al w w6:=y5.trans' rp (λj hj e=>by have:=sM.o j e;omega);have RH:=ii zO (show w.heap.size<=W2.heap.size by omega);clear rp zO Gm;go_wp21
 go_ret2
 refine⟨v3,by rw [HRS.o,HMW.o];rfl,?_,y6⟩;rw [HRS.o,HMP.o]
 simpa [nU]using RH):G:=h
theorem ans (h:G:=by
 obtain⟨es,clock,hb,_,_,_,h1|⟨j,e,h1,_,_,h4⟩⟩:=h.find s
 ·simp [Instr.lookup,run_underlying hu,MapKept.run_getObj_map hb,MapKept.run_checkKey hk (mZ s),MapKept.run_findKey hk h1.1,hz,Result.andThen,h1.2.1]
 ·simp [Instr.lookup,run_underlying hu,MapKept.run_getObj_map hb,MapKept.run_checkKey hk (mZ s),MapKept.run_findKey hk h1,Result.andThen,h4]):G:=h
theorem anu (h:G:=by
 obtain⟨es,clock,hb,_,_,_,h1|⟨j,e,h1,_,_,h4⟩⟩:=h.find s
 ·simp [Instr.lookup,run_underlying hu,MapKept.run_getObj_map hb,MapKept.run_checkKey hk (qC s),MapKept.run_findKey hk h1.1,hz,Result.andThen,h1.2.1]
 ·simp [Instr.lookup,run_underlying hu,MapKept.run_getObj_map hb,MapKept.run_checkKey hk (qC s),MapKept.run_findKey hk h1,Result.andThen,h4]):G:=h
theorem aik (h:G:=by
 have HQ:=J hq;clear hq;go_wp2_with fail;go_roundw
 case rel=>exact⟨j+1,aX,by go_num,by
  intro v hv;rw [mJ,List.getElem?_eq_getElem ft,<-HX.o]at hv;simp only [Option.toList_some,mK,List.mem_singleton]at hv
  rcases hv with hv|rfl
  ·exact BZ.o v hv
  ·exact HQ.o,by trivial⟩
 case measure=>simp only [intOf];omega):G:=h
theorem anv (h:G:=by
 rintro e w1 ⟨e1,aB⟩;replace e1:e=.returned (.agg D.cells):=by rw [e1,HD.o];simp [Ws.same,H0.o]
 subst e1;have gW:=bX fU aB;have KU:=bH gW;have Nd:=aj.aJ gW;go_wp21;refine bQ Tryz.results185 rfl rfl dK ke (aj.cI gW _ _) ⟨rfl,?_⟩;exact Kept.putAt (aK.trans aB) _ _ _ (λh=>by omega)):G:=h
theorem anx (h:G:=by
 go_wp21;refine(eR nb z 0 _ uh.o ad BF.o).mono ?_;rintro e wf ⟨rfl,bf,kf⟩;go_wp21;go_ret;refine⟨congrArg (λz:Nat=>Ending.returned (.int .i64 z)) (by first|exact B5.o|(rw [fC];exact B5.o)),?_⟩;exact(Wv.trans Y3.o).trans' (KF.o.trans kf) (λi hi e=>by have:=WR.o.2;omega)):G:=h
theorem ain (h:G:=by
 have HFA:=J (show wr.ownsRow w.heap.size 21 1 q.v q.n (bJ (fW p part A))from by unfold fW;rw [HGV.o];exact ii Nx.o (ay dX.o.size HYW.o.size));have aob:=J (aQ Hy.o qV.o);go_wp21
 go_ret2
 exact⟨s,q,rfl,aob.o,HFA.o,dX.o.trans (HYW.o.trans qV.o)⟩):G:=h
theorem anA (h:G:=by
 refine ads ?_;clear My hK K;intro w2 Z9 jT YR3;clear Z9 pq;go_wp21;go_end0;refine⟨rfl,?_,(KT.ext y1).trans YR3.o⟩;exact(jT.o)):G:=h
theorem anB (h:G:=by
 rw [af (show¬t=0 by omega),af (show¬t=1 by omega),af (show¬t=2 by omega),af (show¬t=3 by omega),af (show¬t=4 by omega),af (show¬t=5 by omega),af (show¬t=6 by omega),af (show¬t=7 by omega),af (show¬t=8 by omega),af (show¬t=9 by omega)]):G:=h
theorem anD (h:G:=by
 have HR:=J (show X=some ⟨6,s⟩by rw [eK.o,qv];rfl);rw [qv];refine(bj false _ _ _).mono ?_;rintro e w1 ⟨he,rfl⟩;have he:e=.panicked (Vd ⟨6,s⟩):=he;subst he;show _/\_;exact⟨rfl,by rw [HR.o];exact⟨rfl,dX.o.trans (fg.o.trans eL.o)⟩⟩):G:=h
theorem anE (h:G:=by
 have zU:cx i h (0+1)=cx i h 0:=kl (.inl (by rw [HGD.o];exact AW));have JY:=J zU;clear AW zU;go_wp21
 go_roundg (h.length - (0+1))
 case measure=>have:=HGK.o;omega
 case rel=>exact⟨0+1,rfl,aX,yw,by rw [JY.o];exact n8,X8,TW,yn⟩):G:=h
theorem anF (h:G:=by
 have zU:cx i h (1+1)=cx i h 1:=kl (.inl (by rw [HGD.o];exact AW));have JY:=J zU;clear AW zU;go_wp21
 go_roundg (h.length - (1+1))
 case measure=>have:=HGK.o;omega
 case rel=>exact⟨1+1,rfl,aX,yw,by rw [JY.o];exact n8,X8,TW,yn⟩):G:=h
theorem anH (h:G:=by
 (refine dJ bd bd (λK hK=>?_);go_simp)
 refine(bj false _ _ _).mono ?_;rintro e w1 ⟨he,rfl⟩;have he:e=.panicked (Vd ⟨3,E0⟩):=he;subst he;show _/\_;exact⟨rfl,by rw [HR.o];exact⟨rfl,dX.o.trans bT.o⟩⟩):G:=h
theorem anK (h:G:=by
 rintro e w5 ⟨rfl,b5,k5⟩;go_wp21;go_ret;refine⟨congrArg (λz:Nat=>Ending.returned (.int .i64 z)) (by rw [HVV.o];exact iT (eO _)),?_⟩;exact(y1.trans Y3.o).trans' (k4.trans k5) (λi hi e=>by have:=Ov;omega)):G:=h
theorem adD (h:G:=by
 have l1:=bC HB.o;have l2:=HB.o.lt
 have hF0:F=0:=by
  rw [HF.o];unfold gx;rw [af ad,af hok,af ad]
 have HF0:=J hF0;clear hF0 hok;go_wp21;go_ret;exact⟨cL HF0.o.symm,HY.o⟩):G:=h
theorem aio (h:G:=by
 go_wp21;go_roundw
 case rel=>exact⟨j+1,aX,by go_num,λi hi h=>by
  by_cases e:i=j
  ·subst e;exact oN.o
  ·exact H1.o i hi ad,λh0 _=>H2.o h0 ad,by trivial⟩
 case measure=>simp only [intOf];omega):G:=h
theorem anL (h:G:=by
 have hln:(fF xs).length=n:=by rw [fH,hl]
 refine⟨?_,?_,(Array.getElem?_eq_some_iff.1 hc).1⟩
 ·unfold has;rw [hc,hln];simp;omega
 ·unfold gets;rw [hc,hln];simp only [qW];rw [Nat.mul_one]at mN;rw [mN]):G:=h
theorem anM (h:G:=by
 go_wp21;refine eB Tryz.results118 rfl rfl ou (by exact mr) (aj.cI uM _ _) ⟨?_,?_⟩
 ·have e1:=HM.o
  have e2:=WN.o;subst e1;subst e2
  rfl
 ·exact Kept.putAt y5 _ _ _ (λh=>by omega)):G:=h
theorem VM (h:G:=by
 refine(bj false _ _ _).mono ?_;rintro e w8 ⟨he,rfl⟩;have he:=cP.some he;subst he;show _/\_;refine⟨rfl,?_,iF.o⟩;rw [HR.o];exact⟨rfl,_,_,(rD.o.ext iF.o).map,(rD.o.ext iF.o).blk⟩):G:=h
theorem anO (h:G:=by
 have HE:=J e;subst hq;clear e;go_wp21;refine eB Tryz.results159 rfl rfl wl (by exact sD) (aj.cI gW _ _) ⟨by rw [HE.o];rfl,?_⟩;exact Kept.putAt (aK.trans y1) _ _ _ (λh=>by omega)):G:=h
theorem aip (h:G:=by
 obtain⟨jd,_,kL⟩:=hC 0 h0;have h0':=kL 0 lz;rw [List.getElem?_eq_getElem ad]at h0';have e:(a.add (0*sz)).add 0=a:=by simp [Addr.add]
 rw [e]at h0';have:=Ft h0'
 cases a;simp_all):G:=h
theorem anP (h:G:=by
 subst hF
 rcases ho.2 with⟨hv,_⟩|⟨g,c,du,hv,_⟩
 ·exact⟨none,0,by rw [hv],hn,hf,0,0,λq=>by omega,trivial⟩
 ·exact⟨some ⟨g,0,none⟩,c,by rw [hv],hn,hf,0,0,λq=>by omega,trivial⟩):G:=h
theorem aiq (h:G:=by
 rw [List.any_append]
 by_cases h:t=x
 ·subst h;simp
 ·have:¬x=t:=λe=>h e.symm
  have h2:decide (x=t)=false:=cU this;simp only [List.any_cons,List.any_nil,h2,Bool.or_false];rw [af h]):G:=h
theorem anQ (h:G:=by
 refine(bj true _ _ _).mono ?_;rintro e w1 ⟨he,rfl⟩;have he:=cP.none he;subst he;refine hK.out _ _ ?_;clear hK K;refine fc ?_;go_wp21;go_end0;exact⟨by rw [HR.o];rfl,HX.o⟩):G:=h
theorem aaY (h:G:=by
 have hq:=Et.o;exact(y1.trans Y3.o).trans' ((Ep.o.mono (λ_ _ e=>Or.inr e)).trans (Kept.putAt (S:=λi=>i=p4+1∨i=p4+2) (kR _ _) _ 0 _ (λ_=>Or.inl rfl))) (λi hi e=>by omega)):G:=h
theorem anR (h:G:=by
 go_wp21;exact bQ Tryz.results216 rfl rfl eQ (by exact gQ) (aj.cI eg 0 _) ⟨rfl,(dX.o.trans cH.o).putAt _ _ _ (λaX=>absurd aX MA)⟩):G:=h
theorem aeH (h:G:=by
 by_cases hw:Region.wanted (l.getD k nop) (yielded l.toArray a.tmps)=true
 ·rw [av hw]at h;simp only [av hw];exact h
 ·rw [af hw]at h;simp only [af hw];exact⟨.inr id,h⟩):G:=h
theorem Sn (h:G:=by
 have hp':a.tmps[p]?.getD undef=.pointer (some ⟨g,0,none⟩):=by simpa using hp
 exact bodyPost_ret (by simp [results,Fp,hp',asAddr,mH ha hs hb]) hd hR):G:=h
theorem Sr (h:G:=by
 go_wp21;exact eB (t:=25) (g:=g) (cs:=Dg.zero.cells) Tryz.results10 rfl rfl dK ke (by exact aj.cI hA0 0 _) ⟨rfl,fin _ rfl⟩):G:=h
theorem rf (h:G:=by
 refine(bj false _ _ _).mono ?_;rintro e w1 ⟨he,rfl⟩;have he:=cP.some he;subst he;show _/\_;exact⟨rfl,by rw [HR.o];exact⟨rfl,HX.o⟩⟩):G:=h
theorem aaM (h:G:=by
 refine⟨?_,?_,(Array.getElem?_eq_some_iff.1 hc).1⟩
 ·unfold has;rw [hc,hln];simp;omega
 ·unfold gets;rw [hc,hln];simp only [qW];rw [mN]):G:=h
theorem Ay (h:G:=by
 have apd:=bC rj;have aph:=aj.frozen rj;go_wp21;go_end0;refine⟨rfl,?_⟩;rw [HE.o];exact Stepped.goal iz rj vE oc _):G:=h
theorem MO (h:G:=by
 have HF1:=J Oc;clear e2 Oc;have l1:=bC HB.o;have l2:=HB.o.lt;go_wp21;go_ret;exact⟨cL HF1.o.symm,HY.o⟩):G:=h
theorem aaN (h:G:=by
 go_enter Tryz.func235,Tryz.ntmps235;go_wp21;refine eB Tryz.results235 rfl rfl dK ke fU ⟨rfl,aK⟩):G:=h
theorem aaO (h:G:=by
 go_wp21;refine(Y_ _ _).mono ?_;rintro e w1 ⟨rfl,rfl⟩;rw [HH.o];go_wp21;go_ret;exact⟨rfl,aK⟩):G:=h
theorem Ss (h:G:=by
 go_wp21;refine(gJ h _).mono ?_;rintro e w' ⟨rfl,rfl⟩;go_wp21;go_ret;exact⟨rfl,rfl⟩):G:=h
theorem aaP (h:G:=by
 go_wp21;refine(XI h s _ _).mono ?_;rintro e w' ⟨rfl,rfl⟩;go_wp21;go_ret;exact⟨rfl,y0⟩):G:=h
theorem Sv (h:G:=by
 go_wp21;refine(kq _ _).mono ?_;rintro e w1 ⟨rfl,rfl⟩;go_wp21;go_ret;exact⟨rfl,rfl⟩):G:=h
theorem amK (h:G:=by
 refine Rz k ok hk hki ?_ AV
 by_cases hjk:j=k
 ·subst hjk;exact abP
 ·rw [getD_set_ne true hjk]at hun;exact hun):G:=h
theorem aaQ (h:G:=by
 rintro e w2 ⟨rfl,h1,h2,h3⟩;go_wp21;go_ret;exact⟨rfl,h1,h2,(Kept.ext HY.o).trans h3⟩):G:=h
theorem Sw (h:G:=by
 rcases(by omega:i=0∨i=1∨i=2∨i=3∨i=4)with rfl|rfl|rfl|rfl|rfl<;>rfl):G:=h
theorem MP (h:G:=by
 have HF1:=J Oc;clear e1 Oc;go_wp21;go_ret;exact⟨cL HF1.o.symm,HY.o⟩):G:=h
theorem Sy (h:G:=by
 have OK:=J ok;clear ok;go_wp21;go_ret;exact⟨aV (SP.o OK.o).symm,y3⟩):G:=h
theorem Sz (h:G:=by
 go_enter Tryz.func309,Tryz.ntmps309
 go_wp2
 go_ret;exact⟨cL (by simp [rotl]),rfl⟩):G:=h
theorem MQ (h:G:=by
 rw [HF.o];unfold gx;rw [af ad,av (Or.inl (by rw [hw];omega))]):G:=h
theorem MR (h:G:=by
 rw [HF.o];unfold gx;rw [af ad,av (Or.inr (by rw [hw];omega))]):G:=h
theorem MT (h:G:=by
 go_wp21;go_ret;exact⟨cL (by simp [gR,H0.o]),rfl⟩):G:=h
theorem MU (h:G:=by
 simp only [if_true];exact HL6.o.kept fQ (λi e=>by omega)):G:=h
theorem aeI (h:G:=by
 have akW:rc=ws.length:=by simpa using IC.len
 have⟨HWN,SU,HWI,HWC,HO7,adG⟩:=J6' akW IC hwi agR Ox K6;clear akW IC hwi agR Ox K6;have i1:=bC TV;have i4:=TV.lt;go_wp21;have kL:=Ra DU rc EG (ws.map (gp m)) W7 SU.o ad;rw [Lx]at kL;refine kL.mono ?_;rintro e w8 ⟨v8,rfl,ho8,EB⟩;have HO8:=J ho8;clear ho8 kL;go_wp21;refine(F7 HO8.o (aQ HO7.o EB) (by have:=HWN.o;omega)).mono ?_;rintro e w9 ⟨rfl,r_⟩;have OE:=EB.trans r_;have hS9:=bX TV OE;have hR9:=bX V5 OE;have hP9:=bX TU OE;have aec:=adG.o.ext OE;have akY:=SU.o.ext OE;have xr9:=xr7.trans OE;have aiO:=J aec;have aoD:=J akY;clear i1 i4 TV V5 TU adG aec akY SU HO7 HO8 EB r_ OE xr7;have i1:=bC hS9;have i4:=hS9.lt;go_wp21;clear i1
 go_loopw [92] (λt92 wr=>∃(j2:Nat),j2<=rc/\t92=.int .i64 j2/\al w9 wr) (λt92 _=>rc - (intOf t92).toNat)
 case atStart=>exact⟨0,by omega,rfl,kR _ _⟩
 case round=>
  obtain⟨j2,hj2,rfl,hxt⟩:=hrel
  by_cases K_:j2<rc
  ·obtain⟨Ov,b,off,ds,q1,q2,_,q4⟩:=aoD.o
   have aqL:(j2:Int)<rc:=by omega
   have hjr:j2<ws.length:=by have:=HWN.o;omega
   have ft:j2<(ws.map (gp m)).length:=by simpa using hjr
   have Yv:j2<ds.length:=by rw [q4.len];exact ft
   obtain rfl:=q1 ad;have aG:=(q2 ad).ext hxt;obtain⟨YM,Nh⟩:=aG.wd j2 Yv;have rV:=aG.lt;have uT:=(q4.get j2 Yv ft).ext hxt;rw [List.getElem_map]at uT;obtain⟨d,Yl⟩:=nm' (ds[j2]);obtain⟨z,hz⟩:=nm' (ws[j2]);rw [<-Yl]at Nh uT;rw [<-hz]at uT;obtain⟨hz0,hz1⟩:=HWI.o z (by rw [hz];exact cK hjr);have W_:=J uT;clear Ov q1 q2 q4 aG Yl uT hz;go_upto_region 25 with(fail);have xa:al wr _:=dS wr (.cells d.cells 271);have hWt:=bN wr 271 d.cells;have hSt:=bX (bX hS9 hxt) xa;have YW:=W_.o.ext xa;have Xa:=J YW;generalize (wr.alloc (.cells d.cells 271))=Wt at xa hWt hSt Xa⊢;clear YW YM Nh W_;generalize (wr:World).heap.size=wb at hWt⊢;have i1:=bH hWt;have i2:=bG hWt;have YQ:=G1 d (gp m z) sb ⟨x,0,k,M,i,EC,BK,ED,Fv,xB,EE,some ⟨b,off,none⟩,rc,EG⟩ k rfl k1 k2 Wt hSt Xa.o (by rw [show(gp m z).path=iw (m.map dD) (jb m.length) z.toNat from rfl,kj,HK.o]) (by rw [HMM.o];exact DM hz0 VA VA);have abl:=J YQ;clear YQ;go_wp21;refine abl.o.mono ?_;rintro e wu ⟨rfl,hxu⟩;clear abl i1 i2 hWt hSt;go_wp21;go_roundw
   case rel=>exact⟨j2+1,K_,by go_num,(hxt.trans xa).trans hxu⟩
   case measure=>simp only [intOf];omega
  ·have aqI:¬(j2:Int)<rc:=by omega
   have hSt:=bX hS9 hxt;have hRt:=bX hR9 hxt;have hPt:=bX hP9 hxt;have dF:=GF (some ⟨gc,0,none⟩) gc 0 n n c' x 0 gm 0 k k m' wr (aiO.o.ext hxt);have dr:jO c' x 0 m'=(p,hh,oK wx v m'):=by unfold jO;rw [av rfl];exact tP.o
   rw [dr]at dF;have aiR:=J dF;have i1:=bH hPt;have i2:=bG hPt;clear dF dr;go_wp21;refine aiR.o.mono ?_;rintro e wv ⟨vv,rfl,g2,c2,rfl,hmv,rC⟩;simp only [ai];have hSv:=bX hSt rC;have hRv:=bX hRt rC;have xrv:=(xr9.trans hxt).trans rC;clear aiR i1 i2 hSt hRt hPt;go_upto_region 29 with(fail);have xs:al wv _:=dS wv (.cells (ai p (some ⟨g2,0,none⟩) k c2 hh) 47);have hQ:=bN wv 47 (ai p (some ⟨g2,0,none⟩) k c2 hh);have hSw:=bX hSv xs;have hRw:=bX hRv xs;have zK:=hmv.ext xs;have xrw:=xrv.trans xs;generalize (wv.alloc (.cells (ai p (some ⟨g2,0,none⟩) k c2 hh) 47))=Ww at xs hQ hSw hRw zK xrw⊢;have RA:wr.heap.size<=g2:=zK.ge;have oZ:sb+1<wr.heap.size:=(bX hR9 hxt).lt;generalize (wv:World).heap.size=p2 at hQ⊢;clear hSv hRv hmv xrv xs;have i2:=bH hSw;have i3:=bG hSw;have i4':=hSw.lt;go_upto_region 30 with(fail);have xm:al Ww _:=dS Ww (.cells M.cells 25);have hMb:=bN Ww 25 M.cells;have hSm:=bX hSw xm;have hRm:=bX hRw xm;have hQm:=bX hQ xm;have CU:=zK.ext xm;have xrm:=xrw.trans xm;have u1:=hSw.lt;have u2:=hRw.lt;have u3:=hQ.lt;have u4:=zK.lt;have u5':=xrw.size;generalize (Ww.alloc (.cells M.cells 25))=Wm at xm hMb hSm hRm hQm CU xrm⊢;generalize (Ww:World).heap.size=mb at hMb u1 u2 u3 u4 u5'⊢;clear i2 i3 i4' hSw hRw hQ zK;have WO:=J hMb;have HMV:=J CU;clear hMb CU;have i1:=bC hSm;have i4':=hSm.lt;go_wp21;clear i1
   go_loopw [110] (λt110 wr=>∃(j3:Nat) (D:Dg),j3<=rc/\t110=.int .i64 j3/\aj wr mb 25 D.cells/\gq (j3=0->D=M)/\gq (0<j3->D=kX m1)/\Kept (·=mb) Wm wr) (λt110 _=>rc - (intOf t110).toNat)
   case atStart=>exact⟨0,M,by omega,rfl,WO.o,J (λ_=>rfl),J (λh=>by omega),kR _ _⟩
   case round=>
    obtain⟨j3,D,hj3,rfl,hD,HD0,HD1,hkt⟩:=hrel;have xrt:al w wr:=xrm.trans' hkt (λi hi e=>by omega)
    by_cases abS:j3<rc
    ·obtain⟨ary,qg⟩:ws=[wx]/\0<=wx:=by
      rcases HWC.o with⟨h,_⟩|h
      ·have:=HWN.o;rw [h]at this;simp at this;omega
      ·exact h
     have aps:j3=0:=by omega
     subst aps;have aqM:((0:Nat):Int)<rc:=by omega
     have YW:=HVW.o;rw [av qg]at YW;obtain⟨Ov,b,off,ds,q1,q2,_,q4⟩:=YW;have Yv:0<ds.length:=by rw [q4.len];simp
     obtain rfl:=q1 ad;have aG:=(q2 ad).ext xrt;obtain⟨YM,Nh⟩:=aG.wd 0 Yv;have rV:=aG.lt;have uT:=(q4.get 0 Yv aC).ext xrt;rw [List.getElem_cons_zero]at uT;obtain⟨d,Yl⟩:=nm' (ds[0]);rw [<-Yl]at Nh uT;obtain⟨a,rfl⟩:∃a:Nat,wx=a:=⟨wx.toNat,by omega⟩;have hak:a<k:=by omega
     have f1:d.at_=a:=uT.at_;have W_:=J uT;clear Ov q1 q2 q4 aG Yl uT;obtain⟨dat,Rk,Tq,Tv,Ts⟩:=d;simp only at f1;subst f1;simp only [Nat.zero_mul,fC]at YM Nh;go_upto_region 33 with(fail);have xa:al wr _:=dS wr (.cells (Wd.cells ⟨a,Rk,Tq,Tv,Ts⟩) 271);have hWt:=bN wr 271 (Wd.cells ⟨a,Rk,Tq,Tv,Ts⟩);have hQt:=bX (bK hQm hkt ad) xa;have hDt:=bX hD xa;have hmt:=((HMV.o.kept hkt ad).ext xa);have akz:a<(oK (a:Int) v m').length:=by unfold oK fp;rw [av qg,List.length_set,QK.o];exact hak
     have hmc:=hmt.cell a akz;have akA:(oK (a:Int) v m')[a]=v:=by simp [oK,fp]
     rw [akA]at hmc;have xR:=hmt.lt;have akZ:=W_.o.ext xa;have Xa:=J akZ;have hdl:=hD.lt;have kt2:Kept (·=mb) Wm (wr.alloc (.cells (Wd.cells ⟨a,Rk,Tq,Tv,Ts⟩) 271)):=hkt.trans' xa (λ_ _ f=>f.elim);generalize (wr.alloc (.cells (Wd.cells ⟨a,Rk,Tq,Tv,Ts⟩) 271))=Wt at xa hWt hQt hDt hmt hmc xR Xa kt2⊢;clear akZ YM Nh W_ hmt akA akz;generalize (wr:World).heap.size=wb at hWt hdl⊢;have ajL:(a:Int)<k:=by omega
     have akX:¬wb=mb:=by omega
     have akJ:¬p2=mb:=by omega
     have api:¬g2=mb:=by omega
     refine eW (λw2=>Kept (·=mb) Wt w2) [(0,2),(1,1),(2,2),(3,1),(4,2),(5,1),(6,2),(7,1),(9,2),(10,1),(8,0),(11,0),(12,0)] ?_;refine eX ?_
     (repeat first|refine bV ?_|refine cF dQ (by intro w1 hS;have d1:=bC (bK hWt hS akX);have d2:=(bK hWt hS akX).lt;have d3:=bC (bK hQt hS akJ);have d4:=(bK hQt hS akJ).lt;have d5:=(Kept.cell hS (p:=⟨g2,a,none⟩) xR api).trans hmc;have d6:=gw xR hS.size;exact fE) ?_|refine cD dQ ?_)
     have yW:al Wt Wt.drew:=(kR _ Wt).drew
     (refine ap (λK hK=>?_);go_simp)
     go_wp21;refine(wZ v _).mono ?_;rintro e wx1 ⟨rfl,apP⟩;have yx1:al Wt wx1:=yW.trans apP;refine hK.out _ _ (λ_=>yx1.ext) ?_;clear hK K;refine kZ ?_;intro K hK;go_wp21;obtain⟨pb',po',hpp⟩:=Xa.o.path;have htw:=Vm (a:Int) (dD v) (wY _) Tq pb' po' Tv Ts (gp m a).path wx1 (hpp.ext yx1);rw [U0 ad VA VA]at htw;refine htw.mono ?_;rintro e wx2 ⟨rfl,apQ⟩;clear htw hpp;have yx2:al Wt wx2:=yx1.trans apQ;refine hK.out _ _ (λ_=>yx2.ext) ?_;clear hK K;have hDx:=bX hDt yx2;have i1:=bH hDx;have i2:=aj.aJ hDx;have i3:=hDx.lt;refine kZ ?_;intro K hK;refine hK.out _ _ (λ_=>Kept.putAt yx2.ext _ _ _ (λ_=>rfl)) ?_;clear hK K;refine fc ?_;go_wp21;go_roundw
     case rel=>
      refine⟨1,kX (fp m a v),by omega,by go_num,aj.cI hDx _ _,J (λh=>by omega),J (λ_=>?_),Kept.putAt (kt2.trans' yx2 (λ_ _ f=>f.elim)) _ _ _ (λ_=>rfl)⟩;rw [fj.o];unfold oK;rw [av qg]
     case measure=>simp only [intOf];omega
    ·have aqJ:¬(j3:Int)<rc:=by omega
     have hDm:D=kX m1:=by
      rcases HWC.o with⟨h,qg⟩|⟨h,qg⟩
      ·have e0:rc=0:=by rw [HWN.o,h];rfl
       rw [HD0.o ad,HMM.o,fj.o];unfold oK;rw [af ad]
      ·have e1:rc=1:=by rw [HWN.o,h];rfl
       exact HD1.o ad
     have HDM:=J hDm;have hSt:=bK hSm hkt ad;have hRt:=bK hRm hkt ad;have hQt:=bK hQm hkt ad;have i1:=bC hSt;have i2:=bC hQt;have i3:=bH hD;have i4:=bG hD;clear hDm HMV WO hD;go_wp21;have Wc:=ji p hh k D (by rw [HDM.o];exact kJ _ _) zR hhb ad wr;rw [HDM.o,<-aox.o,<-HDM.o]at Wc;refine Wc.mono ?_;rintro e wz ⟨rfl,hxz⟩;have hRz:=bX hRt hxz;have i5:=bH hRz;have i6:=aj.aJ hRz;clear i1 i2 i3 i4 Wc;go_wp21;refine eB Tryz.results189 rfl rfl dK ke (aj.cI hRz _ _) ⟨rfl,?_⟩;exact Kept.putAt (xrt.trans hxz) _ _ _ (λh=>by have:=HSB.o;omega)):G:=h
theorem aeK (h:G:=by
 have ed:=bX kV x1;have gW:=bX fU x1;have lS1:=kV.lt;have lR1:=fU.lt;have hc1:=bC ed;have arE:=ed.lt;have hsz:=x0.size;go_wp2_with fail;clear hc1
 go_loopw [33] (λt33 wr=>∃(j:Nat),j<=xB/\t33=.int .i64 j/\aj wr gm 21 (bJ (nV m (rs.take j) (List.replicate k 0))).toArray/\Kept (·=gm) W wr) (λt33 _=>xB - (intOf t33).toNat)
 case atStart=>exact⟨0,by omega,rfl,hG,kR _ _⟩
 case round=>
  obtain⟨j,hj,rfl,hGr,yG⟩:=hrel;have xr:al w wr:=(x0.trans x1).trans' yG (λi hi e=>by omega);have HGR:=J hGr;clear hGr hG
  by_cases aX:j<xB
  ·obtain⟨Ov,b,off,ds,q1,q2,_,q4⟩:=HVR.o
   exact aqE
  ·have ari:¬(j:Int)<xB:=by omega
   have mN:rs.take j=rs:=lY (by have:=HRN.o;omega);have hG2:=HGR.o;rw [mN]at hG2;have xR:(nV m rs (List.replicate k 0)).length=k:=by rw [zf];simp
   have hag:∀z∈(dq l x 0 m).1,cW (nV m rs (List.replicate k 0)) z=cW m z:=by
    rw [B_.o];intro z hz;rw [GZ _ _ _ (λy hy=>by have:=WM.o y hy;simpa using this) _ (WM.o z hz).1,av hz]
   have agD:=L6 abj.o rs (List.replicate k 0) (λz hz=>by rw [(List.mem_replicate.1 hz).2];unfold ax;omega);generalize (nV m rs (List.replicate k 0))=m' at hG2 xR hag agD;obtain⟨c',Bq⟩:=nm' ((List.replicate n (⟨0,0,0,0⟩:Ins)).set x i);have jd:c'.length=n:=by rw [Bq];simp
   have o_:x<l.length:=by have:=HN.o;omega
   have hci:c'[(x:Int).toNat]?=l[(x:Int).toNat]?:=by
    rw [rF,Bq,List.getElem?_set_self (by simpa using hxn),List.getElem?_eq_getElem o_];have:=HLI.o;simp [o_]at this;rw [this]
   obtain⟨hrd,p',jM,v,IA,pK⟩:=Ac zm.o (jd.trans HN.o) hci (xR.trans HK.o) hag;rw [tQ.o,B_.o]at IA;rw [B_.o]at hrd pK;injection IA with g1 IA;injection IA with g2 g3;subst g1 g2;have⟨HG2,HRD,tP,fj,QK,aop,HC',VO⟩:=J8' hG2 hrd pK g3 xR agD Bq jd;have hSr:=bK ed yG ad;have Rv:=bK gW yG ad;have hPr:=bK hP yG gM;clear hG2 hrd pK g3 xR agD Bq jd hag hci mN HGR o_;obtain⟨w2,ki,TO,bM⟩:=alw wr n ad;go_upto_region 12 with(fail);go_step
   iterate 1 refine kT ?_
   refine iy rfl (.tmp 55) (.tmp 55) 48 rfl rfl rfl ki ?_;clear ki;have gX:=bX hSr bM;have nL:=bX Rv bM;have JG:=bX hPr bM;have hG3:=bX HG2.o bM;have hgc:gm<wr.heap.size:=HG2.o.lt;have hpc:pb<wr.heap.size:=hPr.lt;have hsc:sb+1<wr.heap.size:=Rv.lt;have hwc:w.heap.size<=wr.heap.size:=xr.size;have xr2:=xr.trans bM;generalize (wr:World).heap.size=gc at TO hgc hpc hsc hwc⊢;clear hSr Rv hPr HG2 bM;go_upto_region 13 with(fail);have i1:=bC gX;have i2:=bH gX;have i3:=bG gX;have i4:=gX.lt;have i5:=TO.lt
   have i6:Proofs.YtnhelcmddjbafaaGreatDoor.has w2 gc (x*4) 4=true:=by
    unfold Proofs.YtnhelcmddjbafaaGreatDoor.has;rw [show w2.heap[gc]?=_ from TO];simp [Le]
    omega
   have i7:=aj.aJ TO;have apO:(x:Int)<n:=by omega
   go_upto_region 14 with(fail);have kp:Kept (·=gc) w2 (putAt w2 gc (x*4) i.cells):=Kept.putAt (kR _ w2) _ _ _ (λ_=>rfl)
   have hC3:aj (putAt w2 gc (x*4) i.cells) gc 71 (cM c').toArray:=by
    have:=aj.cI TO (x*4) i.cells;rw [wW _ x i (by simpa using hxn),<-HC'.o]at this;exact this
   have rj:=bK gX kp ad;have oY:=bK nL kp ad;have hP3:=bK JG kp ad;have hG4:=bK hG3 kp ad;have xr3:al w (putAt w2 gc (x*4) i.cells):=xr2.trans' kp (λi hi e=>by omega);generalize (putAt w2 gc (x*4) i.cells)=W3 at hC3 rj oY hP3 hG4 xr3⊢;clear i1 i2 i3 i6 i7 TO gX nL JG hG3 kp xr2;have yI:lm W3 (some ⟨gc,0,none⟩) gc 0 n c' gm 0 k x 0 m':=⟨WU.o.ext xr3,λ_=>rfl,λ_=>by simpa using Row.cR hC3,VO.o.symm,h2,QK.o.symm,HG.o,aop.o,by simpa using Row.cR hG4⟩;have Hz:=J yI;have fY:=uX (some ⟨gc,0,none⟩) gc 0 n n c' x 0 gm 0 k k m' W3 yI;rw [HRD.o]at fY;have VS:=J fY;have i1:=bH hP3;have i2:=bG hP3;clear yI fY;go_wp2_with fail;refine VS.o.mono ?_;rintro e w4 ⟨v4,rfl,Ow,eV⟩;simp only at Ow;have rU:=bX rj eV;have KN:=bX oY eV;have hP4:=bX hP3 eV;have aea:=Hz.o.ext eV;have xr4:=xr3.trans eV;have gy:rs.length<=100000:=by have:=HRN.o;omega
   have arq:=xr3.size;have QN:=J Ow;have adF:=J aea;clear VS Hz i1 i2 rj oY hP3 hG4 hC3 Ow aea eV;have i1:=bC rU;have i4:=rU.lt;go_wp2_with fail;have kL:=Ra Fv xB EE (rs.map (gp m)) w4 (HVR.o.ext xr4) apJ;rw [Lx]at kL;refine kL.mono ?_;rintro e w5 ⟨v5,rfl,Gm,iY⟩;have HO5:=J Gm;clear Gm kL;go_wp2_with fail;refine(F7 HO5.o (aQ QN.o iY) gy).mono ?_;rintro e w6 ⟨rfl,qz⟩;have Ua:=iY.trans qz;have Oe:=bX rU Ua;have JH:=bX KN Ua;have TT:=bX hP4 Ua;have aeb:=adF.o.ext Ua;have xr6:=xr4.trans Ua;have QP:=J aeb;clear i1 i4 rU KN hP4 adF aeb QN HO5 iY qz Ua xr4
   by_cases qg:0<=wx
   ·have uT:=HVW.o
    exact zz2
   ·have uT:=HVW.o
    exact zz3):G:=h
theorem aeL (h:G:=by
 (repeat refine oh ?_)
 obtain⟨v84,V4,dr,apE,apv,-⟩:=NL (f:=zg) wL (λ_=>rfl) (λ_=>rfl) V3 wr.heap.size v80 (0+n) ([]++pl) T5 u6 0 1 1 [name] rfl (Row.cR q6) (by have:=WX.o.2.1;omega) y3.size;have y4:al wr V4:=y3.trans' apv (λi hi e=>by have:=(T5.lt i e).1;omega);refine cw (λK hK=>?_);refine VJ ?_;refine hK.out _ _ (λ_=>y4) ?_;clear hK K dr;have Ez:=bX HK.o (cH.o.trans y4);have hcK:=bC Ez;have hzK:=aj.frozen Ez;have nZ:=Ez.lt;obtain⟨g2,c2,rfl,aG,RA,-⟩:=fq apE ad ad;rw [dU];refine JQ ?_;have yx:Kept (·=kb) wr (V4.setCell ⟨kb,11,none⟩ (.slice (some ⟨g2,0,none⟩) (n+1) c2)):=(Kept.ext y4).setCell _ _ (λ_=>rfl)
 have KQ:aj (V4.setCell ⟨kb,11,none⟩ (.slice (some ⟨g2,0,none⟩) (n+1) c2)) kb 243 (cQ c (some ⟨g2,0,none⟩) (n+1) c2):=by
  have q:=aj.fw Ez 11 (.slice (some ⟨g2,0,none⟩) (n+1) c2);exact q
 have gM:¬g2=kb:=by have:=(bX HK.o cH.o).lt;omega
 have hr9:dV (V4.setCell ⟨kb,11,none⟩ (.slice (some ⟨g2,0,none⟩) (n+1) c2)) (V4.setCell ⟨kb,11,none⟩ (.slice (some ⟨g2,0,none⟩) (n+1) c2)).heap.size (some ⟨g2,0,none⟩) (n+1) (pl++[name]):=by
  have hq:=aG.kept ((kR (·=kb) V4).setCell ⟨kb,11,none⟩ (.slice (some ⟨g2,0,none⟩) (n+1) c2) (λ_=>rfl)) gM;rw [tH,nB]at hq;exact⟨by rw [cy,<-WX.o.1];rfl,by have:=WX.o.2.1;omega,g2,0,λ_=>rfl,λ_=>⟨hq.lt,hq⟩⟩
 generalize V4.setCell ⟨kb,11,none⟩ (.slice (some ⟨g2,0,none⟩) (n+1) c2)=V9 at yx KQ hr9⊢;generalize (Value.slice (some ⟨u0,0,none⟩) 0 0)=v77;generalize (Value.slice (some ⟨u6,0,none⟩) 1 1)=v83;exact EW.o V9 v77 v80 v83 g2 c2 ⟨yx,KQ,hr9⟩):G:=h
theorem aeM (h:G:=by
 have y2:=dR.o.trans aB;refine hK.out _ _ (λ_=>y2) ?_;clear hK K y1;have CO:=bX qu aB;have qe:=CO.aJ;have zG:=bH CO;have hfc:(gf f).size=2:=by cases f<;>rfl
 have hff:eI (gf f).toList=true:=by cases f<;>rfl
 refine o8 ?_;intro K hK;have y3:=y2.putAt fb 0 (gf f) (λaX=>absurd aX (by have:=HFL.o;omega))
 have Yo:aj (putAt w1 fb 0 (gf f)) fb 166 (gf f):=by
  have:=aj.cI CO 0 (gf f)
  cases f<;>exact this
 refine hK.out _ _ (λ_=>y3) ?_;clear hK K qe zG hfc hff;refine JQ ?_;generalize putAt w1 fb 0 (gf f)=W3 at y3 Yo⊢;exact EW.o _ _ ⟨y3,Yo⟩):G:=h
theorem aeN (h:G:=by
 generalize w1.heap.size=fb at qt tj⊢;have qe:=qt.aJ;have zG:=bH qt;have hfc:(gf f).size=2:=by cases f<;>rfl
 have hff:eI (gf f).toList=true:=by cases f<;>rfl
 refine o8 ?_;intro K hK;have y3:=y2.putAt fb 0 (gf f) (λaX=>absurd aX ad)
 have Yo:aj (putAt W2 fb 0 (gf f)) fb 166 (gf f):=by
  have:=aj.cI qt 0 (gf f)
  cases f<;>exact this
 refine hK.out _ _ (λ_=>y3) ?_;clear hK K qe zG hfc hff;refine JQ ?_;generalize putAt W2 fb 0 (gf f)=W3 at y3 Yo⊢;exact EW.o _ _ ⟨y3,Yo⟩):G:=h
theorem aeO (h:G:=by
 clear hK K
 (repeat first|refine bV ?_|refine cF y4 Qv ?_|refine cD y4 ?_)
 refine fc ?_;go_wp21
 go_ret2
 exact⟨rfl,eP.o.trans y4⟩):G:=h
theorem aaR (h:G:=by
 have eg:=bX fU.o yr;have fY:=eg.aJ;have gD:=bH eg;go_wp21;refine bQ (t:=166) (g:=rb) (cs:=gf X) Tryz.results276 rfl rfl eQ Qy Qx ⟨rfl,?_⟩;exact(dX.o.trans yr).putAt _ _ _ (λaX=>absurd aX MA)):G:=h
theorem aeP (h:G:=by
 have hq:j / sz<len:=Nat.div_lt_of_lt_mul (by rw [Nat.mul_comm];exact hj);have hr:=(hC (j / sz) hq).2.2 (j%sz) (Nat.mod_lt _ lz);rw [hsp h0,GG,GG,gH]at hr;rw [show j / sz*sz+j%sz=j by rw [Nat.mul_comm];exact Nat.div_add_mod j sz]at hr;rw [hr];simp [hq]):G:=h
theorem aeQ (h:G:=by
 have he:=cP.some he;subst he;have⟨HR,pr,iF⟩:=J3' (show X=some f from eK.o) (tO.o.ext (ys.trans bM)) (Kept.ext (S:=SG cb g) (dX.o.trans (ys.trans bM)));show _/\_;refine⟨rfl,?_,iF.o⟩;rw [HR.o];exact⟨rfl,_,_,pr.o.map,pr.o.blk⟩):G:=h
theorem amM (h:G:=by
 simp only [EF.len,fC]at hj;subst hj;have hz0:Z=none:=by rw [<-cr.o];rfl
 rw [hz0]at mI;have JD:=J mI.o;clear hz0 mI;go_wp21;go_end0;have h:=JD.o;rw [show X=none from h];exact⟨⟨rfl,tO.o.ext HX.o⟩,Kept.ext (dX.o.trans HX.o)⟩):G:=h
theorem aeS (h:G:=by
 refine⟨rfl,?_⟩
 ((repeat' (with_reducible (first|apply Kept.drew|apply Kept.drewN|apply Kept.alloc|apply Kept.setCell|apply Kept.putAt|exact kR _ _)))<;>(intro aX;first|rfl|(simp at aX;done)|(exfalso;simp at aX;omega)|omega))):G:=h
theorem aeT (h:G:=by
 rcases h1 with h1|h1
 ·exact absurd h1.symm gM
 ·obtain⟨_,oj,T6,hall⟩:=mem_ready.1 hj
  refine mD hd _ _ (λx hx=>?_) i h1;obtain⟨o,ho,e,he,hb,rfl⟩:=uK hx;rw [T6]at ho;injection ho with ho;subst ho;exact hall e he hb):G:=h
theorem aeU (h:G:=by
 go_upto_region 23 with(fail);generalize (wA.alloc (.cells R.cells 78))=wB at abg VR QO⊢;go_wp21;refine(j' _ VR.o QO.o).mono ?_;rintro e wC ⟨rfl,yC⟩;go_wp21;go_ret;exact⟨rfl,abg.o _ yC⟩):G:=h
theorem aeV (h:G:=by
 go_wp21;exact eB (t:=78) (g:=g) (cs:=(⟨0,0,0,0,0,0,0,0,false⟩:H9).cells) Tryz.results31 rfl rfl yl (by exact tF) (by exact aj.cI HB.o 0 _) ⟨rfl,Kept.putAt HY.o _ _ _ (λh=>by have:=HG.o;omega)⟩):G:=h
theorem aeW (h:G:=by
 generalize (w2.alloc (.cells (c13 P fi fs) 50))=w3 at y3⊢;go_wp21;refine(j' _ (HL.o.ext y3) (HO.o.ext y3)).mono ?_;rintro e w4 ⟨rfl,y4⟩;go_wp21;go_ret;exact⟨rfl,bT.o.trans (y3.trans y4)⟩):G:=h
theorem aeX (h:G:=by
 generalize (w4.alloc (.cells (nd none 0 0 c b wm 0 sm em) 303))=W9 at y9 zD RF hs9 he9⊢;generalize w4.heap.size=mb at zD xR⊢;exact EW.o _ _ _ _ _ ⟨y9,RF,hs9,he9,zD,YV,xR⟩):G:=h
theorem aaS (h:G:=by
 go_wp21;go_roundw
 case rel=>exact⟨j+1,r,by omega,zm.o,by go_num,by rw [Nat.add_mul,<-gH];exact sP.o,rh.o.2.2,iF.o⟩
 case measure=>simp only [intOf];omega):G:=h
theorem aaT (h:G:=by
 rcases Nat.lt_or_ge i listed.size with h'|h'
 ·simp [h']at h0 h1;rw [h0]at h1;cases h1
 ·simp [Array.getElem?_eq_none h']at h1):G:=h
theorem MV (h:G:=by
 show _/\_;refine⟨rfl,?_,iF.o⟩;rw [HR.o];exact⟨rfl,_,_,pr.o.map,pr.o.blk⟩):G:=h
theorem Hl (h:G:=by
 exact(dX.o.trans cH.o).putAt _ _ _ (λaX=>absurd aX MA)):G:=h
theorem zz1 (h:G:=by
 obtain⟨dF,Yk⟩:=UD Hy.o (by rw [vR,fm];have:=sO.o;omega) (by have:=M6.o;omega);have HAQ:=J (bX HAW.o JD.o)
 by_cases Yr:i=3
 ·have apq:((i:Int)==3)=true:=by simp [Yr]
  have HI3:=J Yr;clear Yr;have y1:al wr _:=dz wr (.cells #[.string p.silent] 9);have q6:=bN wr 9 #[.string p.silent];have Ez:=bX M3.o y1;have hcK:=bC Ez;have hzK:=aj.frozen Ez;have nZ:=Ez.lt;have HAV:=J (bX HAQ.o y1);go_upto_region 31 with(fail);have yx:Kept (λg=>kb<=g) wr ((wr.alloc (.cells #[.string p.silent] 9)).setCell ⟨kb,11,none⟩ (.slice (some ⟨wr.heap.size,0,none⟩) 1 1)):=(y1.mono (λi _ h=>h.elim)).setCell _ _ (λ_=>eH _)
  have KQ:aj ((wr.alloc (.cells #[.string p.silent] 9)).setCell ⟨kb,11,none⟩ (.slice (some ⟨wr.heap.size,0,none⟩) 1 1)) kb 243 (cQ (⟨p.name,p.aP,⟨kA,j,kc⟩,⟨vA,vn,vc⟩,cs,⟨tA,tn,tc⟩,⟨A,n,cc⟩,iV,p.silent,cq,⟨zA,zn,zc⟩⟩:Pc) (some ⟨wr.heap.size,0,none⟩) 1 1):=by
   have q:=aj.fw Ez 11 (.slice (some ⟨wr.heap.size,0,none⟩) 1 1);exact q
  have hke:Kept (·=kb) (wr.alloc (.cells #[.string p.silent] 9)) ((wr.alloc (.cells #[.string p.silent] 9)).setCell ⟨kb,11,none⟩ (.slice (some ⟨wr.heap.size,0,none⟩) 1 1)):=(kR _ _).setCell _ _ (λ_=>rfl);have gM:¬wr.heap.size=kb:=by have:=M3.o.lt;omega
  have Ni:=(Row.cR q6).kept hke gM;have hq6:=bK q6 hke gM
  have haq:=bK HAV.o hke (λe=>by
   have h1:=HAW.o.lt;have h2:=jy.o
   omega)
  generalize ((wr.alloc (.cells #[.string p.silent] 9)).setCell ⟨kb,11,none⟩ (.slice (some ⟨wr.heap.size,0,none⟩) 1 1))=V9 at yx KQ Ni hq6 haq⊢;generalize wr.heap.size=u6 at KQ Ni hq6⊢;have aiU:=J (JD.o.trans' yx (λi hi q=>by have:=jy.o;omega));clear hcK hzK nZ Ez y1 q6 hke gM JD H3 M3 Hy HAQ HAV yx dF Yk im ig;obtain⟨wr,hwq⟩:∃w,w=V9:=⟨_,rfl⟩;subst hwq;have JD:=aiU;have⟨H3,M3,HAQ⟩:=J3' (cH.o.trans JD.o) KQ haq
  have tQ:=J (show dV wr wr.heap.size (some ⟨u6,0,none⟩) 1 (AY p i)by
   rw [HI3.o];exact⟨rfl,by omega,u6,0,λ_=>rfl,λ_=>⟨hq6.lt,Ni⟩⟩)
  have MY:=J (show(some ⟨u6,0,none⟩:Option Addr)=none->1=0 from λh=>nomatch h);clear KQ Ni hq6 haq aiU;refine aqB ?_;intro sA sn sc HSS HAC f hf;have HIK:=J (λw' (K9:al wr w') (K7:dV w' w'.heap.size (some ⟨u6,0,none⟩) 1 (AY p i))=>DC (⟨p.name,p.aP,⟨kA,j,kc⟩,⟨vA,vn,vc⟩,cs,⟨tA,tn,tc⟩,⟨A,n,cc⟩,iV,p.silent,cq,⟨zA,zn,zc⟩⟩:Pc) p i aX N wr (ay fx.o H3.o.size) (iq.o.ext H3.o fx.o) (partOf p i) 0 true (some ⟨u6,0,none⟩) 1 1 (AY p i) sA sn sc w' K9 K7 MY.o (LM p i (by have:=sO.o;have:=M6.o;omega)) ad HSS.o);exact aeJ
 ·have apq:((i:Int)==3)=false:=by simp;omega
  have tQ:=J (show dV wr wr.heap.size B q (AY p i)from HPL.o Yr▸dF);have MY:=J Yk;clear dF Yk;go_upto_region 31 with(fail);clear im ig;refine aqB ?_;intro sA sn sc HSS HAC f hf;have HIK:=J (λw' (K9:al wr w') (K7:dV w' w'.heap.size B q (AY p i))=>DC (⟨p.name,p.aP,⟨kA,j,kc⟩,⟨vA,vn,vc⟩,cs,⟨tA,tn,tc⟩,⟨A,n,cc⟩,iV,p.silent,cq,⟨zA,zn,zc⟩⟩:Pc) p i aX N wr (ay fx.o H3.o.size) (iq.o.ext H3.o fx.o) (partOf p i) 0 true B q bc (AY p i) sA sn sc w' K9 K7 MY.o (LM p i (by have:=sO.o;have:=M6.o;omega)) ad HSS.o);exact aeJ):G:=h
theorem zz2 (h:G:=by
 rw [av qg]at uT;go_upto_region 20 with(fail);have xa:al w6 _:=dS w6 (.cells #[.int .i64 wx] 3);have RH:(w6.alloc (.cells #[.int .i64 wx] 3)).ownsRow w6.heap.size 3 1 (.slice (some ⟨w6.heap.size,0,none⟩) 1 1) 1 (ints [wx]):=⟨rfl,.inr ⟨w6.heap.size,1,_,rfl,eH _,bN w6 3 #[.int .i64 wx],eH _,by unfold maxLen;omega,rfl,rfl⟩⟩;obtain⟨ws,OD⟩:=nm' ([wx]);have IC:hJ (w6.alloc (.cells #[.int .i64 wx] 3)) DU rc (ws.map (gp m)):=by rw [OD];exact uT.ext (xr6.trans xa)
 have hwi:∀y∈ws,0<=y/\y<k:=by rw [OD];intro y hy;simp at hy;subst hy;exact⟨qg,Wv⟩
 have agR:(ws=[]/\wx<0)∨(ws=[wx]/\0<=wx):=.inr ⟨OD,qg⟩;have Ox:(w6.alloc (.cells #[.int .i64 wx] 3)).ownsRow w6.heap.size 3 1 (.slice (some ⟨w6.heap.size,0,none⟩) 1 1) ws.length (ints ws):=by rw [OD];exact RH
 have TV:=bX Oe xa;have V5:=bX JH xa;have K6:=QP.o.ext xa;have TU:=bX TT xa;have xr7:=xr6.trans xa;generalize (w6.alloc (.cells #[.int .i64 wx] 3))=W7 at xa Ox IC TV V5 K6 TU xr7⊢;generalize (Value.slice (some ⟨w6.heap.size,0,none⟩) 1 1)=v7 at Ox⊢;generalize w6.heap.size=b7 at Ox;clear OD RH uT Oe JH TT QP xr6 xa qg;exact aeI):G:=h
theorem zz3 (h:G:=by
 rw [af qg]at uT;have hwb:decide (0<=wx)=false:=by simpa using qg
 go_upto_region 20 with(fail);clear hwb;have RH:w6.ownsRow 0 3 1 (.slice none 0 0) 0 (ints []):=World.ownsRow_nil _ _ _ _;obtain⟨ws,OD⟩:=nm' (([]:List Int));have IC:hJ w6 DU rc (ws.map (gp m)):=by rw [OD];exact uT.ext xr6
 have hwi:∀y∈ws,0<=y/\y<k:=by rw [OD];intro y hy;simp at hy
 have agR:(ws=[]/\wx<0)∨(ws=[wx]/\0<=wx):=.inl ⟨OD,by omega⟩;obtain⟨b7,Ox⟩:∃b7,w6.ownsRow b7 3 1 (.slice none 0 0) ws.length (ints ws):=⟨0,by rw [OD];exact RH⟩;have TV:=Oe;have V5:=JH;have K6:=QP.o;have TU:=TT;have xr7:=xr6;obtain⟨W7,hW7⟩:=nm' w6;rw [<-hW7]at Ox IC TV V5 K6 TU xr7⊢;clear OD RH uT Oe JH TT QP xr6 qg hW7;exact aeI):G:=h
theorem zz5 (h:G:=by
 have ys:=yt;have zE:=abN;exact zz6):G:=h
theorem zz6 (h:G:=by
 go_wp21
 go_loopw [6] (λt6 wr=>∃(j:Nat) (R:EF),j+R.len=kn/\mB (bu (fK p.vars) l) R=r/\t6=.int .i64 j/\lU w0 N0 R b (off+j*4)/\EF.xO (afj c (bu (fK p.vars) l) A n k w0) R/\al W wr) (λt6 _=>kn - (intOf t6).toNat)
 case atStart=>exact⟨0,F,by rw [HN.o,dU],HEQ.o,rfl,by simpa using HE.o,HI.o,ys⟩
 case round=>
  obtain⟨j,R,hj,bO,rfl,hR,hI,hx⟩:=hrel;have⟨qd,rh,HX,cr⟩:=J4' hR hI hx bO;have yG:=bX hK0.o hx;have her:=bX mf.o hx;have hce:=bC her;have hle:=her.lt;clear hR hI hx bO
  cases R with
  |nil=>
   simp only [EF.len,fC]at hj;subst hj;have zT:r=none:=by rw [<-cr.o];rfl
   have HR0:=J zT;clear zT;go_wp21;refine(kH _).mono ?_;rintro e w1 ⟨rfl,aB⟩;have eg:=bX fU.o (HX.o.trans aB);have fY:=eg.aJ;have gD:=bH eg;go_wp21;refine bQ (t:=166) (g:=rb) (cs:=gf X) Tryz.results276 rfl rfl eQ (by rw [mI.o,HR0.o];exact gQ) (by rw [mI.o,HR0.o];exact aj.cI eg 0 _) ⟨rfl,?_⟩;exact((dX.o.trans HX.o).trans aB).putAt _ _ _ (λaX=>absurd aX MA)
  |cons sq m' name' q rr=>
   obtain⟨hb,h1,h2,h3,⟨A',cap,b',bR,hh,hg,hl,tX,hk⟩,hr⟩:=qd.o;simp only [EF.len]at hj;have aX:(j:Int)<kn:=by omega
   obtain rfl:=HA.o ad;have jj:=aK.trans (dX.o.trans HX.o);refine FC ?_;intro rV jM hg' ie;have⟨KE,IK,J_,sP,HH,HG,SI,HER⟩:=J8' (show lJ w0 N0 A' q.len q from⟨rfl,hl,b',bR,tX,hk⟩) rh.o.1 jj hr jM hg' yG her;clear hh hg hl tX hk h1 h2 h3 qd rV jj hr;go_upto_region 14 with(fail);clear jM hg' hce hle yG her;obtain⟨f,hf⟩:=nm' (Cs (bu (fK p.vars) l) sq m' name' q);have HF:=J hf;clear hf;apply Pg (F:=λW2 fb=>al wr W2/\aj W2 fb 166 (gf f))
   case h=>
    intro jX;have EW:=J jX;clear jX;refine WB (λw1=>al wr w1) (.op 0 1 (.op 1 2 (.op 2 1 (.op 3 2 (.op 4 2 (.op 5 1 (.fork 6 (.op 7 0 (.op 8 0 .nil)) 7 (.op 6 0 (.op 8 0 .nil))))))))) ?_;refine WC ?_;have bT:=J (pj wr)
    (repeat (first|refine oh ?_|((apply c_);(· exact bT.o);(· go_simp);(· (intro w1 hS;have d0:=bX SI.o hS;have d1:=bG d0;have d2:=bH d0;have d3:=d0.lt;have d4:=bX HER.o hS;have d5:=bC d4;have d6:=d4.lt;have d7:=kK hS ie HH.o;have d8:=jg hS ie HG.o;have d9:=gw ie hS.size;go_simp;try with_reducible rfl));refine iR ?_)|((apply cZ);(· exact bT.o);(· go_simp);refine iR ?_)))
    refine gL ?_ ?_
    ·(refine cw (λK hK=>?_);go_simp)
     refine(IK.o sq m' name' A' q.len cap N0 _ (J_.o.trans bT.o) Rs KE.o).mono ?_;rintro e w1 ⟨rfl,aB⟩;rw [<-HF.o];have y1:=bT.o.trans aB;refine hK.out _ _ (λ_=>y1) ?_;clear hK K;refine o8 ?_;intro K hK;refine ahU ?_;clear hK K;intro W2 y2 qt;have tj:wr.heap.size<=w1.heap.size:=y1.size;exact aeN
    ·refine aax ?_;intro W1 ku y1
     have qu:aj W1 wr.heap.size 166 #[.int .i64 0,.string ⟨#[]⟩]:=by rw [<-ku];exact aj.drew (bN wr _ _)
     refine aia ?_;clear ku qu;intro fb qu HFL dR
     (repeat (first|refine oh ?_|((apply c_);(· exact dR.o);(· go_simp);(· (intro w1 hS;have d0:=bX SI.o hS;have d1:=bG d0;have d2:=bH d0;have d3:=d0.lt;have d4:=bX HER.o hS;have d5:=bC d4;have d6:=d4.lt;have d7:=kK hS ie HH.o;have d8:=jg hS ie HG.o;have d9:=gw ie hS.size;go_simp;try with_reducible rfl));refine iR ?_)|((apply cZ);(· exact dR.o);(· go_simp);refine iR ?_)))
     (refine cw (λK hK=>?_);go_simp)
     refine(IK.o sq m' name' A' q.len cap N0 _ (J_.o.trans dR.o) Rs KE.o).mono ?_;rintro e w1 ⟨rfl,aB⟩;rw [<-HF.o];exact aeM
   case h2=>
    rintro W2 fb ⟨y2,qt⟩;have Be:=J qt;have fg:=J y2;clear qt y2
    cases f with
    |none=>
     have zm:=J (show mB (bu (fK p.vars) l) rr=r by have h:=cr.o;rw [sX,<-HF.o]at h;exact h);go_upto_region 15 with(fail);refine MF ?_;intro eL;refine ahS ?_;refine MM ?_;intro K hK;rintro e w1 ⟨rfl,aB⟩;refine MI ?_;clear hK K aB;intro ny;go_wp21;go_roundw
     case rel=>exact⟨j+1,rr,by omega,zm.o,by go_num,by rw [Nat.add_mul,<-gH];exact sP.o,rh.o.2,(HX.o.trans fg.o).trans ny.o⟩
     case measure=>simp only [intOf];omega
    |some f=>
     obtain⟨fe,fn⟩:=f;have hnz:(fe==0)=false:=by simpa using IY (bu (fK p.vars) l) sq m' name' q ⟨fe,fn⟩ HF.o.symm
     have HRF:=J (show X=some ⟨fe,fn⟩by have h:=cr.o;rw [sX,<-HF.o]at h;rw [mI.o,<-h];rfl);go_upto_region 15 with(fail);refine MF ?_;intro eL;refine ahS ?_;refine MM ?_;intro K hK;rintro e w1 ⟨rfl,aB⟩;refine MI ?_;clear hK K aB;intro ny;have eg:=bX fU.o ((HX.o.trans fg.o).trans ny.o);have fY:=eg.aJ;have gD:=bH eg;have Ip:=bX Be.o ny.o;have hgf:=bG Ip;have zG:=bH Ip;have hlf:=Ip.lt;go_wp21;refine bQ (t:=166) (g:=rb) (cs:=gf X) Tryz.results276 rfl rfl eQ (by rw [HRF.o];exact gQ) (by rw [HRF.o];exact aj.cI eg 0 _) ⟨rfl,?_⟩;exact((dX.o.trans HX.o).trans (fg.o.trans ny.o)).putAt _ _ _ (λaX=>absurd aX MA)):G:=h
theorem aic (h:G:=by
 obtain⟨hb,h1,h2,h3,⟨A',cap,b',bR,hh,hg,hl,tX,hk⟩,hr⟩:=qd.o;simp only [EF.len]at hj;have aX:(j:Int)<en:=by omega
 obtain rfl:=HA.o ad;have rV:=HX.o.size;have jM:=kK HX.o (by have:=fx.o;omega) hh;have hg':=jg HX.o (by have:=fx.o;omega) hg;have ie:b<wr.heap.size:=by have:=fx.o;omega
 have KE:=J (show lJ W N A' q.len q from⟨rfl,hl,b',bR,tX,hk⟩);have sP:=J hr;clear hh hg hl tX hk h1 h2 h3 qd rV hr;have y0:al wr _:=dS wr (.cells (aF sq m' name' A' q.len cap) 354);have hEB:=bN wr 354 (aF sq m' name' A' q.len cap);go_wp21;refine(UX W q _ _ _ N _ _ _ _ (HX.o.trans y0) fx.o KE.o).mono ?_;rintro e w1 ⟨rfl,aB⟩;obtain⟨d,hd⟩:=nm' (jw (1+q.deep));rw [<-hd];have HD:=J hd;have gN:=J (HX.o.trans (y0.trans aB));have agq:=bX hEB aB;have hgE:=bG agq;have hhE:=bH agq;have Wj:=agq.lt;clear hd;obtain⟨f,hf⟩:=nm' (Cs κ sq m' name' q);have HF:=J hf;clear hf
 by_cases abO:d<=12
 ·go_wp21
  refine(bj true _ _ _).mono ?_;rintro e w2 ⟨he,rfl⟩;have he:=cP.none he;subst he;go_wp21;have HK:=J (U_ cb g κ (bZ i) aU W tO.o yh.o q sq m' name' A' q.len cap N _ gN.o fx.o KE.o);rw [<-HF.o]at HK;refine HK.o.mono ?_;rintro e w2 ⟨he,bM⟩;have fN:=J (gN.o.trans bM)
  cases f with
  |none=>
   have he:=cP.none he;subst he;have zm:=J (show kG κ rr=Z by have h:=cr.o;rw [pC,<-HD.o,cO abO,<-HF.o]at h;exact h);go_wp21;go_roundw
   case rel=>exact⟨j+1,rr,by omega,zm.o,by go_num,by rw [Nat.add_mul,<-gH];exact sP.o,fN.o⟩
   case measure=>simp only [intOf];omega
  |some f=>
   have he:=cP.some he;subst he;have⟨HR,pr,iF⟩:=J3' (show X=some f by have h:=cr.o;rw [pC,<-HD.o,cO abO,<-HF.o]at h;rw [mI.o,<-h];rfl) (tO.o.ext fN.o) (Kept.ext (S:=SG cb g) (dX.o.trans fN.o));exact MV
 ·go_wp21
  rw [cU (show¬d<=12 by omega)];refine(bj false _ _ _).mono ?_;rintro e w2 ⟨he,rfl⟩;have he:e=.panicked (Vd ⟨25,E0⟩):=he;subst he;have⟨HR,pr,iF⟩:=J3' (show X=some ⟨25,E0⟩by have h:=cr.o;rw [pC,<-HD.o,cU ad]at h;rw [mI.o,<-h];rfl) (tO.o.ext gN.o) (Kept.ext (S:=SG cb g) (dX.o.trans gN.o));exact MV):G:=h
theorem amL (h:G:=by
 rw [qn]at eK;clear hvI;refine ML ?_;intro K hK
 try rw [LN]
 refine(bj true _ _ _).mono ?_;rintro e w1 ⟨he,rfl⟩;have he:=cP.none he;subst he;have mI:=J (show X=r by rw [eK.o];rfl);refine hK.out _ _ ?_;clear hK K;refine fc ?_;have ys:=eP.o.trans rz.o;have zE:=bC (bX mf.o ys);have CQ:=(bX mf.o ys).lt;exact aid):G:=h
theorem amN (h:G:=by
 (repeat refine oh ?_)
 obtain⟨v80,V3,dr,T5,abQ,-⟩:=afL (f:=zg) wL (λ_=>rfl) (λ_=>rfl) V2 wr.heap.size (.slice (some ⟨u0,0,none⟩) 0 0) 0 [] own A n kc pl WX.o.1 HAK.o (WX.o.2.2 V2 y2) (by have:=WX.o.2.1;omega) y2.size;have y3:al wr V3:=y2.trans' abQ (λi hi e=>by have e2:u0=i:=Option.some.inj e;omega);have q6:=bK q6 abQ (λe=>by have e2:u0=u6:=Option.some.inj e;have q:=q0;rw [e2]at q;have q:=aj.aqp q q6;simp at q);refine cw (λK hK=>?_);refine VJ ?_;refine hK.out _ _ (λ_=>y3) ?_;clear hK K dr;exact aeL):G:=h
theorem aie (h:G:=by
 have⟨vL,HB8,afl,EO⟩:=J4' (n7.o.kept ((Kept.ext HE7.o).trans k8) (λi hi e=>by have:=HLB.o;omega)) (bK EL.o k8 (by have:=vu.o;omega)) (bK Nq.o k8 (by have:=vu.o;have:=HBO.o;omega)) k8;have j1:=bH b8;have j2:=bG b8;have j3:=b8.lt;have i1:=bC HB8.o;have i4:=HB8.o.lt;have q1:=bC afl.o;have q2:=afl.o.lt;clear k8 b8;go_wp21;rw [vL.o.part];refine(G5 x.cb w8.heap.size k p j HJ.o.1 x.vs x.ag V' A' _ _ _ _ _ bw h0 h1 E3 _ (eH _) vL.o.code vL.o.vs vL.o.ag vL.o.uE vL.o.fit HFO.o).mono ?_;rintro e w9 ⟨rfl,y9⟩;have⟨Hr,JS,sR⟩:=J3' (bX HB8.o y9) (bX afl.o y9) y9;clear y9 i1 i4 q1 q2 j1 j2 j3;have i1:=bC Hr.o;have i4:=Hr.o.lt;have q1:=bC JS.o;have q2:=JS.o.lt;go_wp21;refine aib ?_;intro wA yA R yB;clear i1 i4 q1 q2;have fin:∀w',al (wA.alloc (.cells R.cells 78)) w'->al w w':=λw' hx=>Eu.o.trans' (EO.o.trans (Kept.ext (yB.trans hx))) (λi hi e=>by have:=eP.o.size;have:=HLB.o;have e:=(show i=lb by simpa using e);omega);have⟨abg,VR,QO⟩:=J3' fin ((HL.o.ext M8.o).kept (EO.o.trans (Kept.ext yB)) (λi hi e=>by have h5:=HL.o.lt;have h6:=HLB.o;have h7:=gO.o.size;have e:=(show i=lb by simpa using e);omega)) ((HO.o.ext M8.o).kept (EO.o.trans (Kept.ext yB)) (by have:=vu.o;simp;omega));clear fin yB
 by_cases hz:E0=0
 ·obtain rfl:E3=3:=HE3.o.trans (av hz)
  subst hz;exact aeU
 ·obtain rfl:E3=E0:=HE3.o.trans (af hz)
  have e0:(E3==0)=false:=by simp [hz]
  exact aeU):G:=h
theorem amO (h:G:=by
 have iF:=J (HX.o.trans y0);have bT:=J y0;clear hh hg n1 n2 n3 a1 a2 a3 he hl AX hb h1 h2 h3 h4 hr HR jj rV y0;have hcB:=bC HB.o
 cases q6:(kind==6)
 ·cases q7:(kind==7)
  ·cases q2:(kind==2)
   ·have zm:=J (show ends r=Z by rw [<-cr.o];simp [ends,q6,q7,q2])
    exact aaS
   ·have HQ:=J (show((ends l&&ends x)||ends r)=Z by rw [<-cr.o];simp [ends,q6,q7,q2])
    clear hcB;go_wp21;refine(rh.o.1 _ _ _ N _ (aK.trans iF.o) hN KL.o).mono ?_;rintro e w2 ⟨rfl,bM⟩;have iF:=J (iF.o.trans bM);have mP:=J (bX HB.o bM);have hcB:=bC mP.o;have Wj:=mP.o.lt;clear bM HB bT;obtain⟨el,Iv⟩:=nm' (ends l);rw [<-Iv]at HQ⊢;clear Iv
    cases el
    ·have zm:=J (show ends r=Z from HQ.o)
     exact aaS
    ·go_wp21
     refine(rh.o.2.1 _ _ _ N _ (aK.trans iF.o) hN KX.o).mono ?_;rintro e w3 ⟨rfl,ea⟩;have iF:=J (iF.o.trans ea);clear ea;obtain⟨el,Iv⟩:=nm' (ends x);rw [<-Iv]at HQ⊢;clear Iv
     cases el
     ·have zm:=J (show ends r=Z from HQ.o)
      exact aaS
     ·go_wp21
      go_ret;exact⟨by rw [<-HQ.o];rfl,iF.o⟩
  ·have HQ:=J q7
   go_wp21;go_ret;rw [<-cr.o];exact⟨by simp [ends,HQ.o],iF.o⟩
 ·have HQ:=J q6
  go_wp21;go_ret;rw [<-cr.o];exact⟨by simp [ends,HQ.o],iF.o⟩):G:=h
theorem amQ (h:G:=by
 generalize (w2.alloc (.cells #[.int .i64 fe,.string fn] 166))=W3 at y3 hV⊢;refine zy9 ?_;clear hV y3 cH;intro fb eP Be eL K hK;rintro e2 w4 ⟨rfl,eV⟩;have ny:=J (eL.o.trans eV);refine hK.out _ _ (λ_=>ny.o) ?_;clear hK K eV;have hnz:=HNF.o;refine fc ?_;have cH:=J (eP.o.trans ny.o);refine Hj ?_;intro eg fY gD gy im lO lL ig;have Ip:=bX Be.o ny.o;have hgf:=bG Ip;have zG:=bH Ip;have hlf:=Ip.lt;exact Eo):G:=h
theorem amX (h:G:=by
 rintro e w4 ⟨rfl,eV⟩;have y4:=yd.trans eV;refine hK.out _ _ (λ_=>y4) ?_;clear hK K;rw [h5]
 (repeat first|refine bV ?_|refine cF y4 Qv ?_|refine cD y4 ?_)
 (refine ap (λK hK=>?_);go_simp)
 go_wp21;refine(uH cb k _ (bX HC.o.box (eP.o.trans y4)) zj.o).mono ?_;rintro e w5 ⟨rfl,rfl⟩;refine hK.out _ _ (λ_=>y4) ?_;exact aeO):G:=h
theorem amY (h:G:=by
 rw [ev];have rj:oQ (w2.setCell ⟨g,a,none⟩ (.int .i32 (cT (decide (0<=v)&&decide (v<z))))).drew s 47 pc (some ⟨g,0,none⟩) n kc 0:=aj.nI gX (p:=⟨g,a,none⟩) oc (.int .i32 (cT (decide (0<=v)&&decide (v<z))));have vE:eo (w2.setCell ⟨g,a,none⟩ (.int .i32 (cT (decide (0<=v)&&decide (v<z))))).drew base g n kc (m.set a (cT (decide (0<=v)&&decide (v<z)))):=(eE.set a nl (cT (decide (0<=v)&&decide (v<z)))).ext ((kR _ _).drew);have iz:Kept (λi=>i=s∨i=g) w (w2.setCell ⟨g,a,none⟩ (.int .i32 (cT (decide (0<=v)&&decide (v<z))))).drew:=(Kept.setCell (Kept.ext x2) _ _ (λ_=>.inr rfl)).drew;generalize (w2.setCell ⟨g,a,none⟩ (.int .i32 (cT (decide (0<=v)&&decide (v<z))))).drew=W3 at rj vE iz⊢;exact Ay):G:=h
theorem adz (h:G:=by
 clear hv hz;go_upto_region 30 with(fail);refine eW (λw3=>al w2 w3) [(0,2),(1,2),(2,1),(3,2),(4,1),(5,2),(6,2),(7,1),(8,2),(9,2)] ?_;refine eX ?_;refine amB ?_;refine fc ?_;have rj:oQ w2.drew s 47 pc (some ⟨g,0,none⟩) n kc 0:=gX;have vE:eo w2.drew base g n kc m:=eE.ext ((kR _ _).drew);have iz:Kept (λi=>i=s∨i=g) w w2.drew:=(Kept.ext x2).drew;have hI3:aj w2.drew ic 71 _:=kI;have ara:=bC hI3;exact Ay):G:=h
theorem ana (h:G:=by
 have HR:=J (show X=none by rw [gO.o,oE];rfl);clear oE;exact adA):G:=h
theorem adA (h:G:=by
 go_wp21;refine(kH _).mono ?_;rintro e w9 ⟨rfl,r_⟩;clear eg fY gD gy jZ pJ pI pH nZ;have cH:=J (cH.o.trans r_);refine QB ?_;intro eg fY gD gy jZ pJ pI pH nZ;clear r_;exact En):G:=h
theorem anb (h:G:=by
 refine fc ?_;have rj:oQ (w2.setCell ⟨g,a,none⟩ (.int .i32 (v))).drew s 47 pc (some ⟨g,0,none⟩) n kc 0:=aj.nI gX (p:=⟨g,a,none⟩) oc (.int .i32 (v));have vE:eo (w2.setCell ⟨g,a,none⟩ (.int .i32 (v))).drew base g n kc (m.set a (v)):=(eE.set a nl (v)).ext ((kR _ _).drew);have iz:Kept (λi=>i=s∨i=g) w (w2.setCell ⟨g,a,none⟩ (.int .i32 (v))).drew:=(Kept.setCell (Kept.ext x2) _ _ (λ_=>.inr rfl)).drew;generalize (w2.setCell ⟨g,a,none⟩ (.int .i32 (v))).drew=W3 at rj vE iz⊢;exact Ay):G:=h
theorem anc (h:G:=by
 refine zy6 ?_;intro eg fY gD gy jZ JM Ey pJ pI pH nZ;exact aaX):G:=h
theorem anf (h:G:=by
 refine xM ?_;refine fc ?_;have yr:=bT.o;exact aaR):G:=h
theorem anl (h:G:=by
 go_wp21;exact aaU):G:=h
theorem aaU (h:G:=by
 refine(bj false _ _ _).mono ?_;rintro e w8 ⟨he,rfl⟩;have he:=cP.some he;subst he;exact aaV):G:=h
theorem ann (h:G:=by
 rw [fm,List.length_range]at tj;refine xo _ (by rw [tj];exact Nat.mul_pos h0 lz) (λj hj=>?_);rw [tj]at hj;rw [rR lz _ KZ];exact aeP):G:=h
theorem anp (h:G:=by
 have HR:=J (show X=some ⟨6,s⟩by rw [eK.o,<-HV.o];rfl);exact ail):G:=h
theorem anr (h:G:=by
 (refine dJ bd bd (λK hK=>?_);go_simp)
 refine(bj false _ _ _).mono ?_;rintro e w1 ⟨he,rfl⟩;have he:e=.panicked (Vd ⟨3,E0⟩):=he;subst he;have pr:=J (tO.o.ext bT.o);have iF:=J (Kept.ext (S:=SG cb g) (dX.o.trans bT.o));exact MV):G:=h
theorem ant (h:G:=by
 have qn:(v==1)=false:=by simp [oE]
 have HR:=J (show X=some ⟨11,s⟩by rw [eK.o,qn];rfl);refine ML ?_;intro K hK
 try rw [LN]
 exact rf):G:=h
theorem aij (h:G:=by
 obtain rfl:E=2:=HE.o.trans he;clear he;subst hr;go_wp21;refine(GN aS _).mono ?_;rintro e w' ⟨rfl,rfl⟩;exact aeV):G:=h
theorem adC (h:G:=by
 refine QE ?_;intro eg fY gD gy;exact aaW):G:=h
theorem anw (h:G:=by
 have HR:=J (show X=some ⟨11,name⟩by rw [gO.o,n1,aT]);clear oE;exact En):G:=h
theorem ail (h:G:=by
 have yr:=yt;exact aaR):G:=h
theorem aim (h:G:=by
 have HR:=J (show X=some ⟨6,name⟩by rw [fN.o,jB];rfl);clear jB;exact En):G:=h
theorem anz (h:G:=by
 have h1:=List.all_eq_true.1 h _ hf;simp only [Bool.or_eq_true,beq_iff_eq]at h1;exact aeT):G:=h
theorem anC (h:G:=by
 obtain rfl:E=28:=HE.o.trans he;clear he;subst hr;exact aeV):G:=h
theorem aaW (h:G:=by
 go_wp21;refine bQ (t:=166) (g:=rb) (cs:=gf X) Tryz.results146 rfl rfl eQ Qy Qx ⟨rfl,?_⟩;exact Hl):G:=h
theorem Bb (h:G:=by
 go_wp21;refine bQ (t:=166) (g:=rb) (cs:=gf X) Tryz.results148 rfl rfl eQ Qy Qx ⟨rfl,?_⟩;exact Hl):G:=h
theorem En (h:G:=by
 go_wp21;refine bQ (t:=166) (g:=rb) (cs:=gf X) Tryz.results274 rfl rfl eQ Qy Qx ⟨rfl,?_⟩;exact Hl):G:=h
theorem aaX (h:G:=by
 go_wp21;refine bQ (t:=166) (g:=rb) (cs:=gf X) Tryz.results216 rfl rfl eQ Qy Qx ⟨rfl,?_⟩;exact Hl):G:=h
theorem Eo (h:G:=by
 go_wp21;refine bQ (t:=166) (g:=rb) (cs:=gf X) Tryz.results100 rfl rfl eQ Qy Qx ⟨rfl,?_⟩;exact Hl):G:=h
theorem anG (h:G:=by
 go_ret;exact aeS):G:=h
theorem anI (h:G:=by
 go_upto_region 3 with(fail);exact aeW):G:=h
theorem anJ (h:G:=by
 try simp only [vS]
 exact VM):G:=h
theorem anN (h:G:=by
 have he9:=(hi4).ext ya;exact aeX):G:=h
theorem anS (h:G:=by
 have h1:=hall e he hb;have h0:=(mem_ready.1 hr).1;rw [heq]at h1;exact aaT):G:=h
theorem aeF (h:G:=by
 have h1:=akr j listed pG hj zH h;have h0:=(mem_ready.1 hr).1;exact aaT):G:=h
theorem aeG (h:G:=by
 have h1:=hex j listed pG hj zH h;have h0:=(mem_ready.1 hr).1;exact aaT):G:=h
theorem MN (h:G:=by
 refine(bj false _ _ _).mono ?_;rintro e w8 ⟨he,rfl⟩;have he:=cP.some he;subst he;exact MV):G:=h
theorem aeY (h:G:=by
 have y1:=sR.o.trans aB;refine hK.out _ _ (λ_=>y1) ?_;clear hK K;refine o8 ?_;intro K hK;refine ahU ?_;clear hK K;intro W2 y2 qt;have tj:wr.heap.size<=w1.heap.size:=y1.size;generalize w1.heap.size=fb at qt tj⊢;have qe:=qt.aJ;have zG:=bH qt;have hfc:=KB f;have hff:=Ge f;refine o8 ?_;intro K hK;have y3:=y2.putAt fb 0 (gf f) (λaX=>absurd aX ad);have Yo:=aj.R5 qt f;refine hK.out _ _ (λ_=>y3) ?_;clear hK K qe zG hfc hff;refine JQ ?_;generalize putAt W2 fb 0 (gf f)=W3 at y3 Yo⊢;exact EW.o _ _ ⟨y3,Yo⟩):G:=h
theorem aeZ (h:G:=by
 have HYS:=J ys;have zE:=bC (bX mf.o ys);have CQ:=(bX mf.o ys).lt;obtain⟨Z,hZ⟩:=nm' (kG κ es);rw [<-hZ]at mI;have HZ:=J hZ.symm;clear hZ ys;go_wp21
 go_loopw [49] (λt49 wr=>∃(j:Nat) (R:EF),j+R.len=en/\kG κ R=Z/\t49=.int .i64 j/\lU W N R b (off+j*4)/\al W wr) (λt49 _=>en - (intOf t49).toNat)
 case atStart=>exact⟨0,es,by rw [HN.o,dU],HZ.o,rfl,by simpa using HE.o,HYS.o⟩
 case round=>
  obtain⟨j,R,hj,bO,rfl,hR,hx⟩:=hrel;have⟨qd,HX,cr⟩:=J3' hR hx bO;have zE:=bC (bX mf.o hx);have CQ:=(bX mf.o hx).lt;clear hR hx bO
  cases R with
  |nil=>
   exact amM
  |cons sq m' name' q rr=>
   exact aic):G:=h
theorem afa (h:G:=by
 go_wp21
 go_loopw [11,15] (λt11 t15 wx=>∃(i:Nat) (q:iu),i<=0/\t15=.int .i64 i/\t11=q.v/\wx.ownsRow wc.heap.size 21 1 q.v q.n (bJ ((List.range i).map (argN p part A)))/\al wc wx) (λ_ t15 _=>0 - (intOf t15).toNat)
 case atStart=>exact⟨0,⟨none,0,0⟩,de _,rfl,rfl,⟨by simp [bJ],.inl ⟨rfl,rfl⟩⟩,kR _ _⟩
 case round=>
  obtain⟨i,q,hi,rfl,rfl,ho,hk⟩:=hrel;have⟨Nx,qV,HQN⟩:=J3' ho hk (show q.n=i by have h:=ho.1;rw [fZ]at h;simp at h;omega);clear ho hk;obtain rfl:i=0:=by omega
  exact ain):G:=h
theorem afb (h:G:=by
 have y2:=dR.o.trans aB;refine hK.out _ _ (λ_=>y2) ?_;clear hK K y1;have CO:=bX qu aB;have qe:=CO.aJ;have zG:=bH CO;have hfc:=KB f;have hff:=Ge f;refine o8 ?_;intro K hK;have y3:=y2.putAt fb 0 (gf f) (λaX=>absurd aX (by have:=HFL.o;omega));have Yo:=aj.R5 CO f;refine hK.out _ _ (λ_=>y3) ?_;clear hK K qe zG hfc hff;refine JQ ?_;generalize putAt w1 fb 0 (gf f)=W3 at y3 Yo⊢;exact EW.o _ _ ⟨y3,Yo⟩):G:=h
theorem afc (h:G:=by
 refine zy6 ?_;intro eg fY gD gy jZ JM Ey pJ pI pH nZ;have Ip:=bX Be.o ny.o;have hgf:=bG Ip;have zG:=bH Ip;have hlf:=Ip.lt;exact aaX):G:=h
theorem afd (h:G:=by
 refine aaG ?_
 (refine dJ bd bd (λK hK=>?_);go_simp)
 have HX:=J (dX.o.trans (fg.o.trans Bj.o));exact rf):G:=h
theorem aeR (h:G:=by
 go_wp21;refine bQ (t:=166) (g:=rb) (cs:=gf Z) Tryz.results149 rfl rfl eQ Qy Qx ⟨rfl,?_⟩;exact Hl):G:=h
theorem zz7 (h:G:=by
 have HF:=J hf;clear hf;go_upto_region 4 with(fail);apply Pg (F:=λW2 fb=>al wr W2/\aj W2 fb 166 (gf f))
 case h=>
  intro jX;have EW:=J jX;clear jX;refine WB (λw1=>al wr w1) (.op 0 1 (.op 1 2 (.op 2 2 (.op 3 2 (.op 4 1 (.op 5 2 (.op 6 2 (.op 7 2 (.op 8 2 (.op 9 2 (.op 10 2 (.op 11 2 (.op 12 2 (.op 13 2 (.op 14 2 (.fork 15 (.op 16 0 (.op 17 0 .nil)) 16 (.op 15 0 (.op 17 0 .nil)))))))))))))))))) ?_;refine WC ?_;have sR:=J (pj wr)
  (repeat (first|refine oh ?_|((apply c_);(· exact sR.o);(· go_simp);(· (intro w1 hS;have d0:=bX HK.o (cH.o.trans hS);have d1:=bG d0;have d2:=bH d0;have d3:=d0.lt;have d7:=kK hS HHW.o HH0.o;have d8:=jg hS HHW.o VP.o;have d9:=gw HHW.o hS.size;go_simp;try with_reducible rfl));refine iR ?_)|((apply cZ);(· exact sR.o);(· go_simp);refine iR ?_)))
  refine gL ?_ ?_
  ·(refine cw (λK hK=>?_);go_simp)
   try rw [HLS.o]
   refine(HIK.o _ (HWQ.o.trans sR.o) ((HPL.o.ext (cH.o.trans sR.o)).mono (ay fx.o (cH.o.trans sR.o).size))).mono ?_;rintro e4 w1 ⟨rfl,aB⟩;rw [<-Nt.o,<-HF.o];exact aeY
  ·refine aax ?_;intro W1 ku y1
   have qu:aj W1 wr.heap.size 166 #[.int .i64 0,.string ⟨#[]⟩]:=by rw [<-ku];exact aj.drew (bN wr _ _)
   refine aia ?_;clear ku qu;intro fb qu HFL dR
   (repeat (first|refine oh ?_|((apply c_);(· exact dR.o);(· go_simp);(· (intro w1 hS;have d0:=bX HK.o (cH.o.trans hS);have d1:=bG d0;have d2:=bH d0;have d3:=d0.lt;have d7:=kK hS HHW.o HH0.o;have d8:=jg hS HHW.o VP.o;have d9:=gw HHW.o hS.size;go_simp;try with_reducible rfl));refine iR ?_)|((apply cZ);(· exact dR.o);(· go_simp);refine iR ?_)))
   (refine cw (λK hK=>?_);go_simp)
   try rw [HLS.o]
   refine(HIK.o _ (HWQ.o.trans dR.o) ((HPL.o.ext (cH.o.trans dR.o)).mono (ay fx.o (cH.o.trans dR.o).size))).mono ?_;rintro e4 w1 ⟨rfl,aB⟩;rw [<-Nt.o,<-HF.o];exact afb
 case h2=>
  rintro W2 fb ⟨y2,qt⟩;have Be:=J qt;have fg:=J (cH.o.trans y2);clear qt y2 cH
  cases f with
  |none=>
   go_upto_region 5 with(fail);refine MF ?_;intro eL;refine ahS ?_;refine MM ?_;intro K hK;rintro e4 w1 ⟨rfl,aB⟩;refine MI ?_;clear hK K aB;intro ny;go_wp21;go_roundw
   case rel=>exact⟨m+1,r,by omega,by rw [H3.o,aY],by go_num,by rw [Nat.add_mul,<-gH];exact sP.o,Hq.o.2.2,fg.o.trans ny.o⟩
   case measure=>simp only [intOf];omega
  |some f=>
   obtain⟨fe,fn⟩:=f;have hnz:=NZ.o (acq _ _ _ _ _ _ _ _ _ _ _) HF.o.symm;have HR:=J (show Z=some ⟨fe,fn⟩by rw [H3.o,aZ]);go_upto_region 5 with(fail);refine MF ?_;intro eL;refine ahS ?_;refine MM ?_;intro K hK;rintro e4 w1 ⟨rfl,aB⟩;refine MI ?_;clear hK K aB;intro ny;have cH:=J (fg.o.trans ny.o);refine QE ?_;intro eg fY gD gy;have pI:=bH (bX HK.o cH.o);have pH:=bG (bX HK.o cH.o);have nZ:=(bX HK.o cH.o).lt;have Ip:=bX Be.o ny.o;have hgf:=bG Ip;have zG:=bH Ip;have hlf:=Ip.lt;exact aeR):G:=h
theorem zz8 (h:G:=by
 have hgE:=bG (bX mf.o ys);have hhE:=bH (bX mf.o ys);have CQ:=(bX mf.o ys).lt;go_wp21;obtain⟨t,ht⟩:=nm' (target κ k name low);have HK:=J (Qb cb g κ (bZ i) aU k name eA en ec low high lA ln lc xA xn xc KY.o _ (tO.o.ext ys));rw [<-ht]at HK eK;clear ht hgE hhE CQ;refine HK.o.mono ?_;rintro e w2 ⟨he,bM⟩
 cases t with
 |some f=>
  exact aeQ
 |none=>
  have he:=cP.none he;subst he;have mI:=J (show X=ak (kG κ es) none from eK.o);have ys:=ys.trans bM;clear bM HK;exact aeZ):G:=h
theorem amP (h:G:=by
 generalize (w2.alloc (.cells #[.int .i64 fe,.string fn] 166))=W3 at y3 hV⊢;refine zy9 ?_;clear hV y3 cH;intro fb eP Be eL K hK;rintro e2 w4 ⟨rfl,eV⟩;have ny:=J (eL.o.trans eV);refine hK.out _ _ (λ_=>ny.o) ?_;clear hK K eV;have hnz:=HNF.o;refine fc ?_;have cH:=J (eP.o.trans ny.o);exact afc):G:=h
theorem amZ (h:G:=by
 clear Ng;exact afa):G:=h
theorem ani (h:G:=by
 clear hK K;exact afd):G:=h
theorem aeJ (h:G:=by
 have⟨HF,AA,HNZ⟩:=J3' (show cC i (bu (fK p.vars) (AY p i)) 0 true (partOf p i)=f by rw [hf,lu,acg]) (show X=ak f (Gf p M (i+1))by rw [hf,<-cr.o,X_ p M i aX]) (show NZ f by rw [hf,lu];exact i_ _ _ _ _ _);clear hf;apply Pg (F:=λW2 fb=>al wr W2/\aj W2 fb 166 (gf f))
 case h=>
  intro jX;have EW:=J jX;clear jX;refine WB (λw1=>al wr w1) (.op 0 1 (.op 1 2 (.op 2 2 (.op 3 2 (.op 4 1 (.op 5 2 (.fork 6 (.op 7 0 (.op 8 0 .nil)) 7 (.op 6 0 (.op 8 0 .nil))))))))) ?_;refine WC ?_;have sR:=J (pj wr)
  (repeat (first|refine oh ?_|((apply c_);(· exact sR.o);(· go_simp);(· (intro w1 hS;have d0:=bX M3.o hS;have d1:=bG d0;have d2:=bH d0;have d3:=d0.lt;have d4:=bX HAQ.o hS;have d5:w1.cell? ⟨ab,i,none⟩=some (.slice sA sn sc):=(bC d4 i).trans HAC.o;have d6:=d4.lt;go_simp;try with_reducible rfl));refine iR ?_)|((apply cZ);(· exact sR.o);(· go_simp);refine iR ?_)))
  refine gL ?_ ?_
  ·(refine cw (λK hK=>?_);go_simp)
   refine(HIK.o _ sR.o (tQ.o.ajp sR.o)).mono ?_;rintro e4 w1 ⟨rfl,aB⟩;rw [HF.o];exact aeY
  ·refine aax ?_;intro W1 ku y1
   have qu:aj W1 wr.heap.size 166 #[.int .i64 0,.string ⟨#[]⟩]:=by rw [<-ku];exact aj.drew (bN wr _ _)
   refine aia ?_;clear ku qu;intro fb qu HFL dR
   (repeat (first|refine oh ?_|((apply c_);(· exact dR.o);(· go_simp);(· (intro w1 hS;have d0:=bX M3.o hS;have d1:=bG d0;have d2:=bH d0;have d3:=d0.lt;have d4:=bX HAQ.o hS;have d5:w1.cell? ⟨ab,i,none⟩=some (.slice sA sn sc):=(bC d4 i).trans HAC.o;have d6:=d4.lt;go_simp;try with_reducible rfl));refine iR ?_)|((apply cZ);(· exact dR.o);(· go_simp);refine iR ?_)))
   (refine cw (λK hK=>?_);go_simp)
   refine(HIK.o _ dR.o (tQ.o.ajp dR.o)).mono ?_;rintro e4 w1 ⟨rfl,aB⟩;rw [HF.o];exact afb
 case h2=>
  rintro W2 fb ⟨y2,qt⟩;have⟨Be,HYR,cH⟩:=J3' qt (JD.o.trans y2) (H3.o.trans y2);clear qt y2
  cases f with
  |none=>
   go_upto_region 32 with(fail);refine MF ?_;intro eL;refine ahS ?_;refine MM ?_;intro K hK;rintro e4 w1 ⟨rfl,aB⟩;refine MI ?_;clear hK K aB;intro ny;go_wp21;go_roundw
   case rel=>exact⟨i+1,by omega,by go_num,by rw [AA.o,aY],AB.o.trans (HYR.o.trans ny.o)⟩
   case measure=>simp only [intOf];omega
  |some f=>
   obtain⟨fe,fn⟩:=f;have hnz:=NZ.o HNZ.o rfl;have HR:=J (show X=some ⟨fe,fn⟩by rw [AA.o,aZ]);go_upto_region 32 with(fail);refine MF ?_;intro eL;refine ahS ?_;refine MM ?_;intro K hK;rintro e4 w1 ⟨rfl,aB⟩;refine MI ?_;clear hK K aB;intro ny;have cH:=J (cH.o.trans ny.o);refine Hj ?_;intro eg fY gD gy im lO lL ig;have Ip:=bX Be.o ny.o;have hgf:=bG Ip;have zG:=bH Ip;have hlf:=Ip.lt;exact Eo):G:=h
theorem Hi (g:K) (h:gq K->G:=by
 intro QQ;obtain⟨hn,ua,kM,iB,eN,dF,dm,dl,tf,aG,tg,jD,ly,mh,oc⟩:=id h;have qy:=dF.lt;have CR:=dm.lt;have CT:=dl.lt;have vH:¬g=s:=λe=>oc e.symm;have⟨HX,HN,HO,my,HA,HR,rv,mz⟩:=J8' eU hn iB eN tf aG tg bS;clear hn iB eN tf aG tg;go_enter Tryz.func115,Tryz.ntmps115;revert ua kM dF dm dl jD ly mh oc qy CR CT vH HX HN HO my HA HR rv mz;exact QQ.o):G:=h (J g)
theorem Hj (g:K) (h:gq K->G:=by
 intro QQ;have eg:=bX HD.o cH.o;have fY:=eg.aJ;have gD:=bH eg;have gy:=eg.lt;have im:=bC (bX HB.o cH.o);have lO:=bH (bX HB.o cH.o);have lL:=bG (bX HB.o cH.o);have ig:=(bX HB.o cH.o).lt;revert eg fY gD gy im lO lL ig;exact QQ.o):G:=h (J g)
theorem EI (g:K) (h:gq K->G:=by
 intro QQ;have x2:=x1.trans bM;have kI:=bX dW bM;have gX:=bX ed bM;have eE:=eT.ext bM;have td:=jE.ext bM;have xQ:=bC kI;have jZ:=bC gX;have AO:=aj.frozen gX;have lI:=kI.lt;have lS:=gX.lt;have lG:=eE.lt;revert x2 kI gX eE td xQ jZ AO lI lS lG;exact QQ.o):G:=h (J g)
theorem Ba (g:K) (h:gq K->G:=by
 intro QQ;refine(LD s pc 0 (some ⟨g,0,none⟩) n kc A b off c cn cap _ rv.o jD ly HA.o my.o dF HR.o).mono ?_;rintro e w1 ⟨e1,aB⟩;revert e w1 e1 aB;exact QQ.o):G:=h (J g)
theorem zy5 (g:K) (h:gq K->G:=by
 intro QQ;have cG:=cG;generalize wr.heap.size=g at cG⊢;have⟨HB,fj,gN,bT⟩:=J4' cG (EK.o.ext y0) (tQ.o.kt (KT.ext (B:=x.B) (wm:=x.wm) y0) EK.o.hN EK.o.hB) (KT.ext (B:=x.B) (wm:=x.wm) y0);clear cG;refine eW (λwz=>SM x f W W1 wz) [(0,2),(1,2),(2,2),(3,1),(4,2),(5,1),(6,1),(7,2),(8,1),(9,0)] ?_;refine eX ?_;revert g HB fj gN bT;exact QQ.o):G:=h (J g)
theorem zy6 (g:K) (h:gq K->G:=by
 intro QQ;have eg:=bX HD.o cH.o;have fY:=eg.aJ;have gD:=bH eg;have gy:=eg.lt;have jZ:=bC (bX HS.o cH.o);have JM:=bH (bX HS.o cH.o);have Ey:=bG (bX HS.o cH.o);have pJ:=(bX HS.o cH.o).lt;have pI:=bH (bX HK.o cH.o);have pH:=bG (bX HK.o cH.o);have nZ:=(bX HK.o cH.o).lt;revert eg fY gD gy jZ JM Ey pJ pI pH nZ;exact QQ.o):G:=h (J g)
theorem QD (g:K) (h:gq K->G:=by
 intro QQ;have cG:=cG;generalize (w:World).heap.size=g at cG⊢;have⟨HB,HX,kz,HL,Y0,Jz⟩:=J6' cG jh ja hL (KT.refl x.B x.wm W1) (show x.B<=W1.heap.size from ja.hB);clear cG;revert g HB HX kz HL Y0 Jz;exact QQ.o):G:=h (J g)
theorem zy8 (g:K) (h:gq K->G:=by
 intro QQ;refine eW (λw3=>al w2 w3) [(0,2),(1,2),(2,1),(3,2),(4,2),(5,1),(6,1),(7,2),(8,2),(9,1),(10,2),(11,1),(12,2),(13,2),(14,1),(15,2),(16,1),(17,0),(18,2),(19,0)] ?_;refine eX ?_;exact QQ.o):G:=h (J g)
theorem zy9 (g:K) (h:gq K->G:=by
 intro QQ;have hV:=hV;generalize w2.heap.size=fb at hV⊢;have eP:=J (cH.o.trans y3);have Be:=J hV;clear hV;refine eW (λw1=>al W3 w1) [(0,1),(1,0),(2,2)] ?_;refine eX ?_;have eL:=J (pj W3)
 (repeat first|refine bV ?_|refine cF eL.o amm ?_|refine cD eL.o ?_)
 (refine ap (λK hK=>?_);go_simp)
 refine(kH _).mono ?_;revert fb eP Be eL K hK;exact QQ.o):G:=h (J g)
theorem aqA (g:K) (h:gq K->G:=by
 intro QQ;have HB:=J (show aj (putAt wA g 0 #[.int .i64 0,.int .i64 0,.int .i64 (k.params.n:Nat),.int .i64 1,.int .i64 0]) g 169 #[.int .i64 0,.int .i64 0,.int .i64 (k.params.n:Nat),.int .i64 1,.int .i64 0]from aj.cI BA.o 0 _);have HY:=J (show al w (putAt wA g 0 #[.int .i64 0,.int .i64 0,.int .i64 (k.params.n:Nat),.int .i64 1,.int .i64 0])from yA.trans' RD (λi hi e=>by have:=HG.o;omega));revert HB HY;exact QQ.o):G:=h (J g)
theorem aas (g:K) (h:gq K->G:=by
 intro QQ;have yA:al w (w.alloc (.cells #[.int .i64 0,.int .i64 0,.int .i64 0,.int .i64 0,.int .i64 0] 169)).drew:=(dS w _).drew;refine hK.out _ _ (λ_=>yA) ?_;have bA:=(bN w 169 #[.int .i64 0,.int .i64 0,.int .i64 0,.int .i64 0,.int .i64 0]).drew;generalize (w.alloc (.cells #[.int .i64 0,.int .i64 0,.int .i64 0,.int .i64 0,.int .i64 0] 169)).drew=wA at yA bA⊢;revert wA yA bA;exact QQ.o):G:=h (J g)
theorem QB (g:K) (h:gq K->G:=by
 intro QQ;have eg:=bX HD.o cH.o;have fY:=eg.aJ;have gD:=bH eg;have gy:=eg.lt;have jZ:=bC (bX HS.o cH.o);have pJ:=(bX HS.o cH.o).lt;have pI:=bH (bX HK.o cH.o);have pH:=bG (bX HK.o cH.o);have nZ:=(bX HK.o cH.o).lt;revert eg fY gD gy jZ pJ pI pH nZ;exact QQ.o):G:=h (J g)
theorem QC (g:K) (h:gq K->G:=by
 intro QQ;have y1:al w (w.alloc (.cells (aF op n s A F.len kc) 354)):=dS w _;have cG:=bN w 354 (aF op n s A F.len kc);have ja:=h.ext y1;have jh:=hX.kt (KT.ext (B:=x.B) (wm:=x.wm) y1) h.hN h.hB;have eJ:=J (df h.hN h.hB);revert y1 cG ja jh eJ;exact QQ.o):G:=h (J g)
theorem aat (g:K) (h:gq K->G:=by
 intro QQ;have b6:=b6;rw [RM]at b6⊢;have Ol:=bK (bX (bX HB.o y4) y5) k6 aqz;have m1:=bC Ol;have m2:=Ol.lt;have m3:=aj.frozen Ol;have EL:=J Ol;have nM:Kept (·=p4+2) W3 w6:=HK.o.trans' ((y4.trans' ((y5.mono (S':=(·=nb)) (λ_ _ f=>f.elim)).trans k6) (λi hi e=>by have b:=eJ.o;omega)).mono (S':=(·=p4+2)) (λ_ _ f=>f.elim)) (λ_ _ e=>e);revert b6 Ol m1 m2 m3 EL nM;exact QQ.o):G:=h (J g)
theorem aau (g:K) (h:gq K->G:=by
 intro QQ;have FH:=J (df (eS p.vars) lX.o.cells);refine eW (λwz=>al wr wz) [(0,2),(1,2),(2,2),(3,2),(4,2),(5,1),(7,2),(8,2),(6,0),(9,2),(10,0)] ?_;refine eX ?_;have yd:al wr wr.drew:=(kR _ wr).drew
 (repeat first|refine bV ?_|refine cF yd aqv ?_|refine cD yd ?_)
 (refine ap (λK hK=>?_);go_simp)
 revert FH yd K hK;exact QQ.o):G:=h (J g)
theorem amw (g:K) (h:gq K->G:=by
 intro QQ;have aK:al w _:=(((dS w (.cells #[.int .u8 p.x0,.int .u8 p.x1,.int .u8 p.x2,.int .u8 p.x3,.int .u8 p.x4,.int .u8 p.x5,.int .u8 p.x6,.int .u8 p.x7] 25)).alloc (.cells B.cells 25)).alloc (.cells s.cells 74)).alloc (.cells Dg.zero.cells 25);have cG:aj _ (w.heap.size+1) 25 B.cells:=aj.alloc (aj.alloc (aj.d_ (w.alloc (.cells #[.int .u8 p.x0,.int .u8 p.x1,.int .u8 p.x2,.int .u8 p.x3,.int .u8 p.x4,.int .u8 p.x5,.int .u8 p.x6,.int .u8 p.x7] 25)) _ B.cells _ aC) (.cells s.cells 74)) (.cells Dg.zero.cells 25);have kV:aj _ (w.heap.size+1+1) 74 s.cells:=aj.alloc (aj.d_ ((w.alloc (.cells #[.int .u8 p.x0,.int .u8 p.x1,.int .u8 p.x2,.int .u8 p.x3,.int .u8 p.x4,.int .u8 p.x5,.int .u8 p.x6,.int .u8 p.x7] 25)).alloc (.cells B.cells 25)) _ s.cells _ aC) (.cells Dg.zero.cells 25);have fU:aj _ (w.heap.size+1+1+1) 25 Dg.zero.cells:=aj.d_ (((w.alloc (.cells #[.int .u8 p.x0,.int .u8 p.x1,.int .u8 p.x2,.int .u8 p.x3,.int .u8 p.x4,.int .u8 p.x5,.int .u8 p.x6,.int .u8 p.x7] 25)).alloc (.cells B.cells 25)).alloc (.cells s.cells 74)) _ _ _ aC;go_enter Tryz.func126,Tryz.ntmps126;revert aK cG kV fU;exact QQ.o):G:=h (J g)
theorem VF (g:K) (h:gq K->G:=by
 intro QQ;have Gt:=Gt;have Gs:=Gs;simp only [Nat.zero_mul,Nat.one_mul,fC]at Gt Gs;have⟨EY,EX,AE,AC,B6,Ev⟩:=J6' Gt Gs O1 OY OX O0;clear Gt Gs;revert EY EX AE AC B6 Ev;exact QQ.o):G:=h (J g)
theorem aav (g:K) (h:gq K->G:=by
 intro QQ;refine(pB 8 _).mono ?_;rintro e w4 ⟨rfl,b4,y4⟩;obtain⟨nb,oC⟩:=nm' wr.heap.size;rw [<-oC]at b4⊢;have eJ:=J oC;have pf:W3.heap.size<=wr.heap.size:=HK.o.size;have kc:=bX (bK vu.o HK.o amv) y4;have l1:=bH kc;have l2:=bG kc;have l3:=kc.lt;clear kc oC;revert w4 y4 nb b4 eJ pf l1 l2 l3;exact QQ.o):G:=h (J g)
theorem kZ (g:K) (h:gq K->G:=by
 intro QQ
 (repeat refine bV ?_)
 (refine ap (λK hK=>?_);go_simp)
 revert K hK;exact QQ.o):G:=h (J g)
theorem VG (g:K) (h:gq K->G:=by
 intro QQ;have im:=bC (bK oO.o jy.o mw.o.1);have ig:=(bK oO.o jy.o mw.o.1).lt;have lO:=bH (bK oO.o jy.o mw.o.1);have lL:=bG (bK oO.o jy.o mw.o.1);revert im ig lO lL;exact QQ.o):G:=h (J g)
theorem xM (g:K) (h:gq K->G:=by
 intro QQ
 (repeat first|refine bV ?_|refine cF bT.o ahF ?_|refine cD bT.o ?_)
 exact QQ.o):G:=h (J g)
theorem amx (g:K) (h:gq K->G:=by
 intro QQ;refine eW (λw1=>Kept (·=w.heap.size+1) wr w1) [(0,1),(1,2),(2,2),(3,1),(4,2),(5,0),(6,2),(7,2)] ?_;refine eX ?_
 (repeat first|refine bV ?_|refine cF dQ aqu ?_|refine cD dQ ?_)
 (refine ap (λK hK=>?_);go_simp)
 refine hK.out _ _ (λh=>Kept.putAt h _ _ _ (λ_=>rfl)) ?_;clear hK K;refine fc ?_;have uM:aj (putAt wr (w.heap.size+1) 0 (ai fh (some ⟨g,0,none⟩) n kc aN)).drew (w.heap.size+1) 47 (ai fh (some ⟨g,0,none⟩) n kc aN):=aj.cI Rv _ _;have y5:al w (putAt wr (w.heap.size+1) 0 (ai fh (some ⟨g,0,none⟩) n kc aN)).drew:=(Kept.putAt yr _ _ _ (λh=>by omega)).drew;have hM5:eo (putAt wr (w.heap.size+1) 0 (ai fh (some ⟨g,0,none⟩) n kc aN)).drew w.heap.size g n kc m':=hM.kept ((Kept.putAt (S:=(·=w.heap.size+1)) (kR _ wr) _ _ _ (λ_=>rfl)).drew) ad;revert uM y5 hM5;exact QQ.o):G:=h (J g)
theorem MF (g:K) (h:gq K->G:=by
 intro QQ;refine eW (λw1=>al W2 w1) [(0,1),(1,0),(2,2)] ?_;refine eX ?_;have eL:=J (pj W2);revert eL;exact QQ.o):G:=h (J g)
theorem FC (g:K) (h:gq K->G:=by
 intro QQ;have rV:=jj.size;have jM:=kK jj ad hh;have hg':=jg jj ad hg;have ie:b<wr.heap.size:=by omega
 revert rV jM hg' ie;exact QQ.o):G:=h (J g)
theorem o8 (g:K) (h:gq K->G:=by
 intro QQ
 (repeat refine oh ?_)
 (refine cw (λK hK=>?_);go_simp)
 revert K hK;exact QQ.o):G:=h (J g)
theorem ni (g:K) (h:gq K->G:=by
 intro QQ;have dW:=dW;have l1:=l1;generalize w1.heap.size=ic at dW l1⊢;have lP:=bH dW;have mX:=bG dW;revert ic dW l1 lP mX;exact QQ.o):G:=h (J g)
theorem ahL (g:K) (h:gq K->G:=by
 intro QQ;refine eW (λw2=>al W2 w2) [(0,2),(1,1),(16,2),(17,1),(2,0),(3,2),(4,2),(5,1),(6,0),(7,2),(8,2),(9,2),(10,1),(11,2),(12,1),(13,2),(14,2),(15,2),(18,0)] ?_;refine eX ?_;have Bj:=J (pj W2)
 (repeat first|refine bV ?_|refine cF Bj.o Vv ?_|refine cD Bj.o ?_)
 (refine ap (λK hK=>?_);go_simp)
 refine(fM _ _).mono ?_;revert Bj K hK;exact QQ.o):G:=h (J g)
theorem zi (g:K) (h:gq K->G:=by
 intro QQ;have hm:=hf.max ad;have⟨HN,HA,HE⟩:=J3' hn hA hE;revert hm HN HA HE;exact QQ.o):G:=h (J g)
theorem ahM (g:K) (h:gq K->G:=by
 intro QQ;have h2:=wpOp_putIf T6 (Rz j oj T6 zH abP agG) (λcs b=>abW i oi cs b hi) (λcs b=>abW j oj cs b T6) hQ hy h1
 have uQ:∀k ok,ops[k]?=some ok->k≠i->(listed.setIfInBounds j true).getD k true=false->
  (∀e∈ok.after,Region.binds md e=true->e.on≠i)->oi.apart ops ok=true:=λk ok hk hki hun AV=>by
  exact amK
 refine wpOp_mono (λa' w' h3=>?_) h2;revert h2 uQ a' w' h3;exact QQ.o):G:=h (J g)
theorem FD (g:K) (h:gq K->G:=by
 intro QQ;have yd:KT x.B x.wm W1 W1.drew:=KT.ext (kR _ W1).drew
 (refine ap (λK hK=>?_);go_simp)
 revert yd K hK;exact QQ.o):G:=h (J g)
theorem xN (g:K) (h:gq K->G:=by
 intro QQ;have ja:=h.ext y1;have jh:=hX.kt (KT.ext (B:=x.B) (wm:=x.wm) y1) h.hN h.hB;revert ja jh;exact QQ.o):G:=h (J g)
theorem ahN (g:K) (h:gq K->G:=by
 intro QQ;refine WB (λw2=>al W w2) (.op 0 2 (.op 1 1 (.op 2 2 (.op 3 1 (.op 4 2 (.op 5 1 (.op 6 2 (.op 7 1 (.fork 8 (.op 9 2 (.op 10 0 (.op 11 0 .nil))) 10 (.op 8 0 (.op 9 2 (.op 11 0 .nil)))))))))))) ?_;refine WC ?_
 (repeat (first|refine oh ?_|((apply c_);(· exact dQ);(· go_simp);(· (intro w1 hS;have d1:=bC (bX M' hS);have d2:=bC (bX JG hS);go_simp;try with_reducible rfl));refine iR ?_)|((apply cZ);(· exact dQ);(· go_simp);refine iR ?_)))
 have y:al W W.drew:=(kR _ W).drew;revert y;exact QQ.o):G:=h (J g)
theorem amy (g:K) (h:gq K->G:=by
 intro QQ;have KL:=J (show jc w0 N lA l.len l from⟨rfl,n2,bl,ol,a2,hl⟩);have KX:=J (show jc w0 N xA x.len x from⟨rfl,n3,bx,ox,a3,AX⟩);revert KL KX;exact QQ.o):G:=h (J g)
theorem VH (g:K) (h:gq K->G:=by
 intro QQ;have RD:Kept (·=g) wA (putAt wA g 0 #[.int .i64 0,.int .i64 0,.int .i64 (k.params.n:Nat),.int .i64 1,.int .i64 0]):=Kept.putAt (kR _ _) _ 0 _ (λ_=>rfl);revert RD;exact QQ.o):G:=h (J g)
theorem aqB (g:K) (h:gq K->G:=by
 intro QQ;obtain⟨⟨sA,sn,sc⟩,hs⟩:∃s,s=U3 (⟨p.name,p.aP,⟨kA,j,kc⟩,⟨vA,vn,vc⟩,cs,⟨tA,tn,tc⟩,⟨A,n,cc⟩,iV,p.silent,cq,⟨zA,zn,zc⟩⟩:Pc) i:=⟨_,rfl⟩;have hpt:=(iq.o.ext H3.o fx.o).part i;have hac:=UF (⟨p.name,p.aP,⟨kA,j,kc⟩,⟨vA,vn,vc⟩,cs,⟨tA,tn,tc⟩,⟨A,n,cc⟩,iV,p.silent,cq,⟨zA,zn,zc⟩⟩:Pc) i aX;rw [<-hs]at hpt hac;have HSS:=J hpt;have HAC:=J (show(pP (⟨p.name,p.aP,⟨kA,j,kc⟩,⟨vA,vn,vc⟩,cs,⟨tA,tn,tc⟩,⟨A,n,cc⟩,iV,p.silent,cq,⟨zA,zn,zc⟩⟩:Pc))[i]?=some (Value.slice sA sn sc)from hac);clear hs hpt hac;obtain⟨f,hf⟩:=nm' (lu p i);revert sA sn sc HSS HAC f hf;exact QQ.o):G:=h (J g)
theorem amz (g:K) (h:gq K->G:=by
 intro QQ;refine JQ ?_;have y9:al W1 (w4.alloc (.cells (nd none 0 0 c b wm 0 sm em) 303)):=(y4).alloc _;have zD:=bN w4 303 (nd none 0 0 c b wm 0 sm em);have xR:W1.heap.size<=w4.heap.size:=(y4).size;have ya:al w4 (w4.alloc (.cells (nd none 0 0 c b wm 0 sm em) 303)):=dz w4 _;revert y9 zD xR ya;exact QQ.o):G:=h (J g)
theorem ahO (g:K) (h:gq K->G:=by
 intro QQ;refine(L4 c p A n k l name N _ (ay fx.o cH.o.size) (iq.o.ext cH.o fx.o) (zp.o.ext cH.o)).mono ?_;rintro e w2 ⟨rfl,bM⟩;rw [<-HV.o];have cH:=J (cH.o.trans bM);clear bM;revert w2 cH;exact QQ.o):G:=h (J g)
theorem adr (g:K) (h:gq K->G:=by
 intro QQ
 (repeat first|refine bV ?_|refine cF ⟨KT.ext dQ,_,(kz.o).drew⟩ zb4 ?_|refine cD ⟨KT.ext dQ,_,(kz.o).drew⟩ ?_)
 have My:KT x.B x.wm W1 W1.drew:=KT.ext (kR _ W1).drew;have H6:=J (kz.o).drew
 (refine ap (λK hK=>?_);go_simp)
 revert My H6 K hK;exact QQ.o):G:=h (J g)
theorem ahP (g:K) (h:gq K->G:=by
 intro QQ;rintro e w1 ⟨rfl,Nd,mF⟩;have⟨JE,fj,Hu⟩:=J3' ((Y0.o).trans mF) Nd mF;clear Nd mF;revert w1 JE fj Hu;exact QQ.o):G:=h (J g)
theorem MG (g:K) (h:gq K->G:=by
 intro QQ;refine eW (λw2=>al w1 w2) [(0,2),(1,1),(2,2),(3,1),(4,2),(5,1),(6,2),(7,1),(9,1),(8,0),(10,2)] ?_;refine eX ?_
 (repeat first|refine bV ?_|refine cF dQ zb8 ?_|refine cD dQ ?_)
 (refine ap (λK hK=>?_);go_simp)
 revert K hK;exact QQ.o):G:=h (J g)
theorem ahQ (g:K) (h:gq K->G:=by
 intro QQ;have qe:∀(fn:Fn) (first cap:Array Value) (w:World),(Instr.makeFunc fn first cap).run Tryz.prog w=.ok (.func fn first cap) w:=λ_ _ _ _=>rfl;revert qe;exact QQ.o):G:=h (J g)
theorem aaw (g:K) (h:gq K->G:=by
 intro QQ;refine eW (λwz=>al w wz) [(0,2),(1,2),(2,2),(3,1),(4,2),(5,2),(6,2),(7,1),(8,2),(9,2),(10,0),(11,2),(12,0)] ?_;refine eX ?_;exact QQ.o):G:=h (J g)
theorem aax (g:K) (h:gq K->G:=by
 intro QQ
 (refine cw (λK hK=>?_);go_simp)
 have y1:al wr (wr.alloc (.cells #[.int .i64 0,.string ⟨#[]⟩] 166)).drew:=(dS wr _).drew;refine hK.out _ _ (λ_=>y1) ?_;clear hK K;generalize ku:(wr.alloc (.cells #[.int .i64 0,.string ⟨#[]⟩] 166)).drew=W1 at y1⊢;revert W1 ku y1;exact QQ.o):G:=h (J g)
theorem ahR (g:K) (h:gq K->G:=by
 intro QQ;have b3:=b3;rw [<-oC]at b3⊢;have⟨B3,Y3,eJ⟩:=J3' b3 (Y2.o.trans y3) oC;have i1:=bC (bX B2.o y3);have i2:=(bX B2.o y3).lt;have j1:=bC (bX H7.o Y3.o);have j2:=(bX H7.o Y3.o).lt;have l1:=bH (bX H4.o Y3.o);have l2:=bG (bX H4.o Y3.o);have l3:=(bX H4.o Y3.o).lt;clear b3;revert B3 Y3 eJ i1 i2 j1 j2 l1 l2 l3;exact QQ.o):G:=h (J g)
theorem ahS (g:K) (h:gq K->G:=by
 intro QQ
 (repeat first|refine bV ?_|refine cF eL.o amm ?_|refine cD eL.o ?_)
 exact QQ.o):G:=h (J g)
theorem MH (g:K) (h:gq K->G:=by
 intro QQ;have m1:=m0.lt;have m0:=bC m0;have u0:=kP ((KT.ext y1).trans Y0.o) eJ.o Ev.o EY.o EX.o;have Fx:=u0.1;have Fy:=u0.2.1;have Fz:=u0.2.2;clear u0;revert m1 m0 Fx Fy Fz;exact QQ.o):G:=h (J g)
theorem aay (g:K) (h:gq K->G:=by
 intro QQ;refine eW (λwz=>Kept (·=ob+1) wF wz) [(0,1),(1,2),(2,2),(3,2),(4,2),(5,2),(6,2),(7,2),(8,1),(9,2),(10,2),(11,1),(12,2),(13,2),(14,2),(15,2),(16,0),(17,2)] ?_;refine eX ?_;have yd:al wF wF.drew:=(kR _ wF).drew
 (repeat first|refine bV ?_|refine cF (Kept.ext yd) aqt ?_|refine cD (Kept.ext yd) ?_)
 have B5:=J (bX ES.o.res yd);have f1:=bH B5.o;have f2:=aj.aJ B5.o;have f3:=B5.o.lt
 (refine ap (λK hK=>?_);go_simp)
 refine hK.out _ _ (λh=>Kept.putAt h _ _ _ (λ_=>rfl)) ?_;clear hK K;refine fc ?_;revert yd B5 f1 f2 f3;exact QQ.o):G:=h (J g)
theorem amA (g:K) (h:gq K->G:=by
 intro QQ;have aK:al w _:=(dS w (.cells #[.int .u8 d.x0,.int .u8 d.x1,.int .u8 d.x2,.int .u8 d.x3,.int .u8 d.x4,.int .u8 d.x5,.int .u8 d.x6,.int .u8 d.x7] 25)).alloc (.cells Dg.zero.cells 25);have hA0:aj _ w.heap.size 25 d.cells:=aj.alloc (bN w _ _) (.cells Dg.zero.cells 25);have fU:aj _ (w.heap.size+1) 25 Dg.zero.cells:=aj.d_ (w.alloc (.cells #[.int .u8 d.x0,.int .u8 d.x1,.int .u8 d.x2,.int .u8 d.x3,.int .u8 d.x4,.int .u8 d.x5,.int .u8 d.x6,.int .u8 d.x7] 25)) _ _ _ aC;revert aK hA0 fU;exact QQ.o):G:=h (J g)
theorem amB (g:K) (h:gq K->G:=by
 intro QQ
 (repeat first|refine bV ?_|refine cF dQ aqx ?_|refine cD dQ ?_)
 exact QQ.o):G:=h (J g)
theorem aaz (g:K) (h:gq K->G:=by
 intro QQ;refine eW (λwz=>al w3 wz) [(0,1),(1,0),(2,2),(3,2),(4,2),(5,1),(6,2),(7,2),(8,0),(9,2),(10,2),(11,2),(12,2),(13,1),(14,2),(15,2)] ?_;refine eX ?_;exact QQ.o):G:=h (J g)
theorem ahT (g:K) (h:gq K->G:=by
 intro QQ
 have eK:=J (show X=ak (target κ k name low) (ak (kG κ es) none)by
  have hn:named κ k name low high aU=target κ k name low:=by unfold named;rw [av ad]
  have h:=eK.o;rw [hn,af ad,af ad]at h;exact h)
 revert eK;exact QQ.o):G:=h (J g)
theorem aaA (g:K) (h:gq K->G:=by
 intro QQ;have b0:cu (w.alloc (.map #[] 0)) w.heap.size (λ_=>none):=cu.made w;have y0:al w (w.alloc (.map #[] 0)):=dS w _;revert b0 y0;exact QQ.o):G:=h (J g)
theorem amC (g:K) (h:gq K->G:=by
 intro QQ;have aK:al w _:=(dS w (.cells #[.int .u8 leaf.x0,.int .u8 leaf.x1,.int .u8 leaf.x2,.int .u8 leaf.x3,.int .u8 leaf.x4,.int .u8 leaf.x5,.int .u8 leaf.x6,.int .u8 leaf.x7] 25)).alloc (.cells Dg.zero.cells 25);have fU:aj _ (w.heap.size+1) 25 Dg.zero.cells:=aj.d_ (w.alloc (.cells #[.int .u8 leaf.x0,.int .u8 leaf.x1,.int .u8 leaf.x2,.int .u8 leaf.x3,.int .u8 leaf.x4,.int .u8 leaf.x5,.int .u8 leaf.x6,.int .u8 leaf.x7] 25)) _ _ _ aC;revert aK fU;exact QQ.o):G:=h (J g)
theorem MI (g:K) (h:gq K->G:=by
 intro QQ;have ny:=J (eL.o.trans aB);refine hK.out _ _ (λ_=>ny.o) ?_;refine fc ?_;revert ny;exact QQ.o):G:=h (J g)
theorem amD (g:K) (h:gq K->G:=by
 intro QQ;have aK:al w _:=(dS w (.cells (ai pc (some ⟨b',bR,none⟩) n eD halt) 47)).alloc (.cells (ai 0 none 0 0 0) 47);have hA0:aj _ w.heap.size 47 (ai pc (some ⟨b',bR,none⟩) n eD halt):=aj.alloc (bN w _ _) (.cells (ai 0 none 0 0 0) 47);have fU:aj _ (w.heap.size+1) 47 (ai 0 none 0 0 0):=aj.d_ (w.alloc (.cells (ai pc (some ⟨b',bR,none⟩) n eD halt) 47)) _ _ _ aC;have zT:=CV.ext aK;go_enter Tryz.func50,Tryz.ntmps50;revert aK hA0 fU zT;exact QQ.o):G:=h (J g)
theorem aaB (g:K) (h:gq K->G:=by
 intro QQ
 (repeat first|refine bV ?_|refine cF (Kept.ext yd) aqw ?_|refine cD (Kept.ext yd) ?_)
 (refine ap (λK hK=>?_);go_simp)
 revert K hK;exact QQ.o):G:=h (J g)
theorem ahU (g:K) (h:gq K->G:=by
 intro QQ;have y2:=y1.alloc (.cells #[.int .i64 0,.string ⟨#[]⟩] 166);have qt:=bN w1 166 #[.int .i64 0,.string ⟨#[]⟩];refine hK.out _ _ (λ_=>y2) ?_;generalize Fh:w1.alloc (.cells #[.int .i64 0,.string ⟨#[]⟩] 166)=W2 at y2 qt⊢;clear Fh;revert W2 y2 qt;exact QQ.o):G:=h (J g)
theorem ads (g:K) (h:gq K->G:=by
 intro QQ;rintro e w2 ⟨rfl,jG,eC⟩;have Z9:=(My).trans eC;have jT:=J jG;clear jG eC;refine hK.out _ _ (λ_=>⟨Z9,_,(jT.o)⟩) ?_;refine fc ?_;have YR3:=J ((Y0.o).trans Z9);revert w2 Z9 jT YR3;exact QQ.o):G:=h (J g)
theorem adt (g:K) (h:gq K->G:=by
 intro QQ;refine eW (λw1=>al W w1) [(0,2),(1,1),(2,0),(3,2),(4,2),(5,1),(6,2),(7,2),(8,1),(9,2),(10,1),(11,2),(12,2),(13,0)] ?_;refine eX ?_;exact QQ.o):G:=h (J g)
theorem VI (g:K) (h:gq K->G:=by
 intro QQ;rintro e w1 ⟨rfl,aB⟩;have dR:=J (bT.o.trans aB);clear aB;refine hK.out _ _ (λ_=>dR.o) ?_;revert w1 dR;exact QQ.o):G:=h (J g)
theorem amE (g:K) (h:gq K->G:=by
 intro QQ;refine ng (λw1=>At w1 b t) [true,true,true,true,true,true,true,true,true,false,false,false,false] bd bd bd ?_
 (repeat (first|((apply tL);(· exact ht);(· go_simp);(· (intro w1 hS;have hh:=bH hS;have hg:=bG hS;go_simp;try with_reducible rfl));refine iR ?_)|((apply tK);(· exact ht);(· go_simp);refine iR ?_)))
 exact QQ.o):G:=h (J g)
theorem VJ (g:K) (h:gq K->G:=by
 intro QQ;refine CZ rfl ?_;refine Lib.wp_append_run _ _ _ _ _ rfl _ _ rfl rfl _ _ dr ?_;exact QQ.o):G:=h (J g)
theorem amF (g:K) (h:gq K->G:=by
 intro QQ;refine eW (λw2=>al w1 w2) [(0,2),(1,2),(2,1),(12,2),(13,1),(3,0),(4,2),(5,2),(6,2),(7,2),(8,1),(9,1),(10,2),(11,2),(14,0)] ?_;refine eX ?_;have eL:=J (pj w1)
 (repeat first|refine bV ?_|refine cF eL.o ahD ?_|refine cD eL.o ?_)
 (refine ap (λK hK=>?_);go_simp)
 refine(lB cb g κ E0 0 x.name _ (rD.o.ext (HZW.o.trans (fg.o.trans eL.o)))).mono ?_;revert eL K hK;exact QQ.o):G:=h (J g)
theorem aaC (g:K) (h:gq K->G:=by
 intro QQ;have c1:=bC xX.o;have c2:=xX.o.lt;have c3:=aj.frozen xX.o;refine fc ?_;clear c1 c2 c3;exact QQ.o):G:=h (J g)
theorem adu (g:K) (h:gq K->G:=by
 intro QQ;refine eW (λw1=>al W w1) [(0,2),(1,1),(2,0),(3,2),(4,2),(5,2),(6,1),(7,2),(8,2),(9,1),(10,0),(11,2),(12,2)] ?_;refine eX ?_;exact QQ.o):G:=h (J g)
theorem amG (g:K) (h:gq K->G:=by
 intro QQ
 
 refine eW (λw2=>al w1 w2) [(0,2),(1,1),(2,2),(3,1),(4,0),(5,2),(6,2),(7,1),(8,2),(9,2),(10,2),(11,1),(12,0),(13,2)] ?_;refine eX ?_;have eL:=J (pj w1)
 (repeat first|refine bV ?_|refine cF eL.o ahB ?_|refine cD eL.o ?_)
 (refine ap (λK hK=>?_);go_simp)
 refine(wN p.vars x.name vA vn vc N _ (iq.o.ext (cH.o.trans eL.o) fx.o).vars).mono ?_;revert eL K hK;exact QQ.o):G:=h (J g)
theorem aaD (g:K) (h:gq K->G:=by
 intro QQ;have hE4:al W3 wr∨True:=Or.inr trivial;clear hE4;have uP:QH wr ex st:=n7.o.kept HK.o HES.o.1 HES.o.2;revert uP;exact QQ.o):G:=h (J g)
theorem MJ (g:K) (h:gq K->G:=by
 intro QQ;have hK:=(wM x f W hM κ F).2;obtain⟨h0,h1,h2,h3⟩:=id hM;have Ym:=hX.dp_;have eJ:=J (df h.hN h.hB);revert hK h0 h1 h2 h3 Ym eJ;exact QQ.o):G:=h (J g)
theorem MK (g:K) (h:gq K->G:=by
 intro QQ;have aG:=(HE.o ad).2.ext HX.o;obtain⟨jM,hg'⟩:=oL aG j ft;have ie:=aG.lt;revert aG jM hg' ie;exact QQ.o):G:=h (J g)
theorem adv (g:K) (h:gq K->G:=by
 intro QQ;have y3:=dz w2 (.cells #[.int .i64 0,.string ⟨#[]⟩] 166);have hV:=bN w2 166 #[.int .i64 0,.string ⟨#[]⟩];revert y3 hV;exact QQ.o):G:=h (J g)
theorem VK (g:K) (h:gq K->G:=by
 intro QQ;rintro e w2 ⟨rfl,jG,eC⟩;have⟨Bk,jT,yf⟩:=J3' ((JE.o).trans eC) jG eC;clear jG eC;revert w2 Bk jT yf;exact QQ.o):G:=h (J g)
theorem El (g:K) (h:gq K->G:=by
 intro QQ;have bT:=J (pj W);revert bT;exact QQ.o):G:=h (J g)
theorem ML (g:K) (h:gq K->G:=by
 intro QQ
 (repeat refine bV ?_)
 (refine dJ bd bd (λK hK=>?_);go_simp)
 revert K hK;exact QQ.o):G:=h (J g)
theorem aaE (g:K) (h:gq K->G:=by
 intro QQ;have mv:=J hbig;have hr:=bK HRC.o Ep.o ad;have l4:=bH hr;have l5:=aj.aJ hr;have l6:=hr.lt;have HR:=J hr;clear hr;revert mv l4 l5 l6 HR;exact QQ.o):G:=h (J g)
theorem ahV (g:K) (h:gq K->G:=by
 intro QQ;have q4:=bK (bX H4.o Y3.o) KM.o HQ.o.1;have q7:=bK (bX H7.o Y3.o) KM.o HQ.o.2.1;have i1:=bC q7;have i2:=q7.lt;have i3:=bH q4;have i4:=bG q4;have i5:=q4.lt;clear q4 q7;revert i1 i2 i3 i4 i5;exact QQ.o):G:=h (J g)
theorem adw (g:K) (h:gq K->G:=by
 intro QQ;have y3:=dz w2 (.cells #[.int .i64 fe,.string fn] 166);have hV:=bN w2 166 #[.int .i64 fe,.string fn];revert y3 hV;exact QQ.o):G:=h (J g)
theorem ahW (g:K) (h:gq K->G:=by
 intro QQ;have Oo:=yw.kept k5 ad;have hI5:=bK X8 k5 ad;have hT5:=bK TW k5 ad;have y5:al w w5:=yn.trans' k5 (λj hj e=>by omega);refine cJ rfl (.tmp 40) (.tmp 44) 35 rfl rfl rfl rfl Wr ?_;revert Oo hI5 hT5 y5;exact QQ.o):G:=h (J g)
theorem aqC (g:K) (h:gq K->G:=by
 intro QQ;have EM:=J (show wr.cell? ⟨cb,0,none⟩=some (.int .i64 (cells p.vars))from bC BV.o 0);revert EM;exact QQ.o):G:=h (J g)
theorem ahX (g:K) (h:gq K->G:=by
 intro QQ;have hk:Rows.uptoBulkAll ([d0,d1,d2]++gs)<=1048576:=of_decide_eq_true hk;simp only [List.cons_append,Rows.uptoBulkAll]at hk;obtain⟨hLA,hOA⟩:=Lk hL (zz hS);obtain⟨j,hj,hj2⟩:=Uq n 5 ae ae;revert hk hLA hOA j hj hj2;exact QQ.o):G:=h (J g)
theorem ahY (g:K) (h:gq K->G:=by
 intro QQ;refine DZ bd (λK hK=>?_);refine se rfl ?_;refine Ef _ _ _ _ _ rfl rfl rfl rfl rfl dr ?_;refine hK.out _ _ ?_;clear hK K;refine fc ?_;exact QQ.o):G:=h (J g)
theorem ahZ (g:K) (h:gq K->G:=by
 intro QQ;rintro W1 vb ⟨ye,hvb⟩;have⟨JB,QZ,fj,YVB⟩:=J4' hvb (Y0.o.trans (KT.ext (B:=x.B) (wm:=x.wm) ye)) (Es.o.ext ye) (KT.refl x.B x.wm W1);clear ye hvb;have q0:=KT.block QZ.o HB.o ae ae;have i1:=bC q0;have i2:=q0.lt;revert W1 vb JB QZ fj YVB q0 i1 i2;exact QQ.o):G:=h (J g)
theorem QE (g:K) (h:gq K->G:=by
 intro QQ;have eg:=bX HD.o cH.o;have fY:=eg.aJ;have gD:=bH eg;have gy:=eg.lt;revert eg fY gD gy;exact QQ.o):G:=h (J g)
theorem aaF (g:K) (h:gq K->G:=by
 intro QQ;have aK:al w _:=dS w (.cells Dg.zero.cells 25);have fU:=bN w 25 Dg.zero.cells;revert aK fU;exact QQ.o):G:=h (J g)
theorem aqD (g:K) (h:gq K->G:=by
 intro QQ;have HB:=HB;have HY:=HY;generalize (putAt wA g 0 #[.int .i64 0,.int .i64 0,.int .i64 (k.params.n:Nat),.int .i64 1,.int .i64 0])=w4 at HB HY⊢;revert w4 HB HY;exact QQ.o):G:=h (J g)
theorem amH (g:K) (h:gq K->G:=by
 intro QQ;refine hK.out _ _ ?_;refine fc ?_;have eP:=J (fg.o.trans eL.o);go_upto_region 8 with(fail);generalize Yd:W2.drew=W3 at eP⊢;clear Yd;refine eW (λw1=>al W3 w1) [(0,2),(1,2),(2,2),(3,1),(4,2),(5,1),(6,1),(7,2),(8,2),(9,1),(10,2),(11,2),(12,2),(13,1),(14,0)] ?_;refine eX ?_;have rz:=J (pj W3);revert W3 eP rz;exact QQ.o):G:=h (J g)
theorem MM (g:K) (h:gq K->G:=by
 intro QQ
 (refine ap (λK hK=>?_);go_simp)
 refine(kH _).mono ?_;revert K hK;exact QQ.o):G:=h (J g)
theorem aaG (g:K) (h:gq K->G:=by
 intro QQ
 (repeat first|refine bV ?_|refine cF Bj.o Vv ?_|refine cD Bj.o ?_)
 exact QQ.o):G:=h (J g)
theorem aaH (g:K) (h:gq K->G:=by
 intro QQ
 (repeat first|refine bV ?_|refine cF rz.o amk ?_|refine cD rz.o ?_)
 exact QQ.o):G:=h (J g)
theorem aaI (g:K) (h:gq K->G:=by
 intro QQ
 (repeat first|refine bV ?_|refine cF bT.o ahG ?_|refine cD bT.o ?_)
 exact QQ.o):G:=h (J g)
theorem QF (g:K) (h:gq K->G:=by
 intro QQ;have q0:=KT.block Y0.o HB.o ae ae;have i1:=bC q0;have i2:=q0.lt;revert q0 i1 i2;exact QQ.o):G:=h (J g)
theorem aaJ (g:K) (h:gq K->G:=by
 intro QQ;rintro e w3 ⟨rfl,Fl,iz⟩;have⟨ND,xP,JU⟩:=J3' ((Bk.o).trans iz) Fl iz;clear Fl iz;revert w3 ND xP JU;exact QQ.o):G:=h (J g)
theorem aia (g:K) (h:gq K->G:=by
 intro QQ;have qu:=qu;have tj:wr.heap.size<=wr.heap.size:=eH _;generalize Yp:(wr.heap.size:Nat)=fb at qu tj⊢;have HFL:=J (show wr.heap.size<=fb by omega);clear tj Yp;have dR:=J y1
 (repeat refine oh ?_)
 revert fb qu HFL dR;exact QQ.o):G:=h (J g)
theorem aaK (g:K) (h:gq K->G:=by
 intro QQ
 (repeat first|refine bV ?_|refine cF rz.o zb2 ?_|refine cD rz.o ?_)
 exact QQ.o):G:=h (J g)
theorem adx (g:K) (h:gq K->G:=by
 intro QQ;have y3:=dz w2 (.cells (x.cells n N L dd) 50);have b3:=bN w2 50 (x.cells n N L dd);revert y3 b3;exact QQ.o):G:=h (J g)
theorem amI (g:K) (h:gq K->G:=by
 intro QQ;refine eW (λw1=>al W w1) [(0,2),(1,2),(2,2),(3,2),(4,2),(5,2),(6,2),(7,1),(8,2),(9,2),(10,2),(11,2),(12,2),(13,2),(14,2),(15,2),(16,2),(17,1),(18,2),(19,1),(20,2),(21,2),(22,2),(23,2),(24,2),(25,1),(26,2),(27,0),(28,2),(29,2)] ?_;refine eX ?_;exact QQ.o):G:=h (J g)
theorem QG (g:K) (h:gq K->G:=by
 intro QQ
 (refine ap (λK hK=>?_);go_simp)
 refine hK.out _ _ (λh=>h) ?_;revert K hK;exact QQ.o):G:=h (J g)
theorem aaL (g:K) (h:gq K->G:=by
 intro QQ;have aK:=dz w (.cells c.cells 39);have hB:=bN w 39 c.cells;revert aK hB;exact QQ.o):G:=h (J g)
theorem ady (g:K) (h:gq K->G:=by
 intro QQ;have ny:=J (eL.o.trans eV);refine hK.out _ _ (λ_=>ny.o) ?_;refine fc ?_;have cH:=J (eP.o.trans ny.o);revert ny cH;exact QQ.o):G:=h (J g)
theorem aib (g:K) (h:gq K->G:=by
 intro QQ;refine(PS bw dd h0 h1 _).mono ?_;rintro e wA ⟨rfl,yA⟩;rw [<-HE0.o];generalize IV bw dd h0 h1=R;have yB:=sR.o.trans (yA.alloc (.cells R.cells 78));revert wA yA R yB;exact QQ.o):G:=h (J g)
theorem aeD (g:K) (h:gq K->G:=by
 intro QQ;refine(L4 c p A n k l s N _ (ay hN (aK.trans (dX.o.trans ys)).size) (HP.o.ext (aK.trans (dX.o.trans ys)) hN) (HL.o.ext (aK.trans (dX.o.trans ys)))).mono ?_;rintro e w1 ⟨rfl,hxs⟩;obtain⟨v,hv⟩:=nm' (bu (fK p.vars) l s);rw [<-hv];have HV:=J hv;have yt:=ys.trans hxs;have abN:=bC (bX mf.o yt);revert w1 hxs v hv HV yt abN;exact QQ.o):G:=h (J g)
theorem aap (g:K) (h:gq K->G:=by
 intro QQ;have⟨iq,fx,HL,HO,HV,HA,HZ,BU,HJ⟩:=J9' (h.ext y0 (eH _)) y0.size (hL.ext y0) (hO.ext y0) (hv.ext y0) (ha.ext y0) hz mE (df Br hj);revert iq fx HL HO HV HA HZ BU HJ;exact QQ.o):G:=h (J g)
theorem aeE (g:K) (h:gq K->G:=by
 intro QQ;have eE:eo (putAt w1 w.heap.size 0 (ai pc (some ⟨g,0,none⟩) n kc halt)) w.heap.size g n kc m:=ii (eT.kept (Kept.putAt (S:=(·=w.heap.size)) (kR _ w1) w.heap.size 0 (ai pc (some ⟨g,0,none⟩) n kc halt) (λ_=>rfl)) ad) ad;revert eE;exact QQ.o):G:=h (J g)
theorem aaq (g:K) (h:gq K->G:=by
 intro QQ;refine eW (λw1=>al W3 w1) [(0,2),(1,2),(2,2),(3,1),(4,2),(5,1),(6,1),(7,2),(8,2),(9,2),(10,1),(11,0)] ?_;refine eX ?_;exact QQ.o):G:=h (J g)
theorem aar (g:K) (h:gq K->G:=by
 intro QQ;obtain⟨d1,p1,g1,k1,l1⟩:=hf 1 _ rfl;replace k1:DataW.trod enc Tryz.prog w base (λ_=>true) held m 3 ((cs.drop 1).take (Tryz.prog.cellsOf 3))=some (d1,p1):=k1;rw [jf]at k1;revert d1 p1 g1 l1 k1;exact QQ.o):G:=h (J g)
theorem MC (g:K) (h:gq K->G:=by
 intro QQ;obtain⟨o0,n0,s0,K0,A0,c0,qY,qZ,Bw,O0,Gt,Gs,O1,OY,OX⟩:=nQ hK hX.kids hX.uE (tw:=(0:Int)) ae ad (j:=0) AQ;refine VF ?_;clear Gt Gs O1 OY OX O0;intro EY EX AE AC B6 Ev;revert o0 n0 s0 K0 A0 c0 qY qZ Bw EY EX AE AC B6 Ev;exact QQ.o):G:=h (J g)
theorem MD (g:K) (h:gq K->G:=by
 intro QQ;refine fc ?_;refine VH ?_;intro RD;refine aqA ?_;intro HB HY;clear RD;refine aqD ?_;clear HB HY;intro w4 HB HY;revert w4 HB HY;exact QQ.o):G:=h (J g)
theorem ME (g:K) (h:gq K->G:=by
 intro QQ;have M7:=J (HPJ.o.kept qV.o aqy (λi e=>by have:=HNC.o;omega));refine aqC ?_;intro EM;revert M7 EM;exact QQ.o):G:=h (J g)
theorem Ax {G G':Prop} (g:G') (h:G'->G:=by
 intro qq;have QQ:=J qq;clear qq;obtain⟨hn,hf,b,off,hA,hE⟩:=id h;refine zi ?_;intro hm HN HA HE;have HI:=J IH;clear hn hA hE hf;revert b off hm HN HA HE HI;exact QQ.o):G:=h g
theorem kU {P:Program} {f:Nat} {a:Array Value} {w:World} {v:Value} {Q:World→Prop} (h:Calls P f a w λe w'=>e=.returned v/\Q w') (k:∀w',Q w'→R (.returned v) w'):Calls P f a w R:=h.mono (λ_ w' ⟨e,q⟩=>e▸k w' q)
theorem uW {P:Program} {f:Nat} {a:Array Value} {w:World} {v:Value} (h:Calls P f a w λe w'=>e=.returned v/\w=w') (k:R (.returned v) w):Calls P f a w R:=h.mono (λ_ _ ⟨e,q⟩=>e▸q▸k)
