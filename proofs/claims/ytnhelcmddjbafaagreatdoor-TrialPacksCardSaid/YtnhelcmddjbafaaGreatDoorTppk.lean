import Derived.WalkKit
import Derived.WalkSpells
import Derived.WalkLawsBesides
import Derived.RegionTactic
import Derived.BigRegion
import Derived.Deep.QuietTactic
import Derived.BigQuiet
import Derived.Outline
import Derived.Lib.Hide
import Derived.Deep.RegionWith
import Derived.Deep.LoopGhost
import Derived.Deep.DeepCutAuto
import Derived.StillTailTactics
import Derived.Deep.RegionHeld3
set_option maxRecDepth 100000
namespace Go.Proofs.YtnhelcmddjbafaaGreatDoor
open Go.RowKit
variable{p0 p1 p2 p3 p4 p6 p10 p11 p12 p13 p14:Prop}
variable {G K:Prop}
theorem ax:∀{n m k:Nat},n<=m->m<=k->n<=k:=@Nat.le_trans
theorem af.{u}:∀{c:Prop} {_:Decidable c},¬c->∀{α:Sort u} {t e:α},(if c then t else e)=e:=@if_neg
theorem ak.{u}:∀{c:Prop} {_:Decidable c},c->∀{α:Sort u} {t e:α},(if c then t else e)=t:=@if_pos
theorem dn.{u}:∀{α:Type u} {as bs:List α},List.length (as++bs)=List.length as+List.length bs:=@List.length_append
theorem cT:∀{p:Prop} [Decidable p],¬p->decide p=false:=@decide_eq_false
theorem cJ:∀{p:Prop} [Decidable p],p->decide p=true:=@decide_eq_true
theorem cr:∀(n:Nat),n<=n:=@Nat.le_refl
theorem ed.{Eb}:∀{α:Type Eb} {l:List α} {n:Nat} (h:n<List.length l),l[n]∈l:=@List.getElem_mem
theorem cI:∀(n:Nat),0<=n:=@Nat.zero_le
theorem gK:∀{n m k:Nat},n<m->m<=k->n<k:=@Nat.lt_of_lt_of_le
theorem dT:∀(n:Nat),0+n=n:=@Nat.zero_add
theorem gR:∀(a b:Bool),((a&&b)=true)=(a=true/\b=true):=@Bool.and_eq_true
theorem eW:∀(n:Nat),n+0=n:=@Nat.add_zero
theorem gu.{Eb,u_2}:∀{α:Type Eb} {β:Type u_2} {as:List α} (f:α->β),List.length (List.map f as)=List.length as:=@List.length_map
theorem kI.{Eb}:∀{α:Type Eb} {i:Nat} {l:List α},List.length l<=i->List.take i l=l:=@List.take_of_length_le
theorem im:∀(n:Int),IntKind.wrap IntKind.i64 n=(n+9223372036854775808)%18446744073709551616 - 9223372036854775808:=@IntKind.wrap_i64
theorem gw:∀(n m k:Nat),n+m+k=n+(m+k):=@Nat.add_assoc
theorem iQ.{u}:∀{α:Type u} {a:α} {as:List α},List.length (a::as)=List.length as+1:=@List.length_cons
theorem jP:∀{p:Prop} [Decidable p],(decide p=true)=p:=@decide_eq_true_eq
theorem jr.{Eb}:∀{α:Type Eb} {l:List α},List.take (List.length l) l=l:=@List.take_length
theorem ew:∀{a b:Prop},a->b->a/\b:=@And.intro
theorem lq.{Eb}:∀{α:Type Eb} {l:List α} {i:Nat},List.take (i+1) l=List.take i l++Option.toList l[i]?:=@List.take_add_one
theorem q_.{Eb}:∀{α:Type Eb} {i:Nat} {l:List α} (h:i<List.length l),List.drop i l=l[i]::List.drop (i+1) l:=@List.drop_eq_getElem_cons
theorem my.{u}:∀{α:Type u} (as bs cs:List α),as++bs++cs=as++(bs++cs):=@List.append_assoc
theorem mz.{Eb}:∀{α:Type Eb} {i:Nat} {l:List α},List.length (List.take i l)=min i (List.length l):=@List.length_take
theorem oW.{u}:∀{α:Type u},([]:List α).length=0:=@List.length_nil
theorem rc:∀(n:Nat),Int.toNat (n:Int)=n:=@Int.toNat_natCast
theorem qx.{u}:∀{α:Type u} (as:List α),[]++as=as:=@List.nil_append
theorem qy.{Eb,u_2}:∀{α:Type Eb} {β:Type u_2} {f:α->β} {aiz aiA:List α},List.map f (aiz++aiA)=List.map f aiz++List.map f aiA:=@List.map_append
theorem tp.{Eb}:∀{α:Type Eb} {l:List α},List.drop (List.length l) l=[]:=@List.drop_length
theorem re.{u}:∀{α:Type u} {l:List α},List.drop 0 l=l:=@List.drop_zero
theorem rf:∀(b:Bool),(true&&b)=b:=@Bool.true_and
theorem lr.{Eb}:∀{α:Type Eb} {a:α} {s t:List α},a∈s++t↔a∈s∨a∈t:=@List.mem_append
theorem tq.{u,v}:∀{α:Type u} {β:Type v} {f:α->β} {a:α} {l:List α},List.map f (a::l)=f a::List.map f l:=@List.map_cons
theorem uM:(!true)=false:=@Bool.not_true
theorem AE.{Eb}:∀{α:Type Eb} {i:Nat} {l:List α},List.length (List.drop i l)=List.length l - i:=@List.length_drop
structure aoR (p:Prop):Prop where o:p
theorem J {p:Prop} (h:p):aoR p:=⟨h⟩
theorem nm' {α:Sort _} (a:α):∃x,x=a:=⟨a,rfl⟩
theorem J3' (a0:p0) (a1:p1) (a2:p2):aoR p0/\aoR p1/\aoR p2:=⟨J a0,J a1,J a2⟩
theorem J4' (a0:p0) (a1:p1) (a2:p2) (a3:p3):aoR p0/\aoR p1/\aoR p2/\aoR p3:=⟨J a0,J a1,J a2,J a3⟩
theorem J5' (a0:p0) (a1:p1) (a2:p2) (a3:p3) (a4:p4):aoR p0/\aoR p1/\aoR p2/\aoR p3/\aoR p4:=⟨J a0,J a1,J a2,J a3,J a4⟩
theorem J6' {p5:Prop} (a0:p0) (a1:p1) (a2:p2) (a3:p3) (a4:p4) (a5:p5):aoR p0/\aoR p1/\aoR p2/\aoR p3/\aoR p4/\aoR p5:=⟨J a0,J a1,J a2,J a3,J a4,J a5⟩
theorem J7' {p5:Prop} (a0:p0) (a1:p1) (a2:p2) (a3:p3) (a4:p4) (a5:p5) (a6:p6):aoR p0/\aoR p1/\aoR p2/\aoR p3/\aoR p4/\aoR p5/\aoR p6:=⟨J a0,J a1,J a2,J a3,J a4,J a5,J a6⟩
theorem J8' {p5 p7:Prop} (a0:p0) (a1:p1) (a2:p2) (a3:p3) (a4:p4) (a5:p5) (a6:p6) (a7:p7):aoR p0/\aoR p1/\aoR p2/\aoR p3/\aoR p4/\aoR p5/\aoR p6/\aoR p7:=⟨J a0,J a1,J a2,J a3,J a4,J a5,J a6,J a7⟩
theorem J9' {p5 p7 p8:Prop} (a0:p0) (a1:p1) (a2:p2) (a3:p3) (a4:p4) (a5:p5) (a6:p6) (a7:p7) (a8:p8):aoR p0/\aoR p1/\aoR p2/\aoR p3/\aoR p4/\aoR p5/\aoR p6/\aoR p7/\aoR p8:=⟨J a0,J a1,J a2,J a3,J a4,J a5,J a6,J a7,J a8⟩
theorem J10 {p5 p7 p8 p9:Prop} (a0:p0) (a1:p1) (a2:p2) (a3:p3) (a4:p4) (a5:p5) (a6:p6) (a7:p7) (a8:p8) (a9:p9):aoR p0/\aoR p1/\aoR p2/\aoR p3/\aoR p4/\aoR p5/\aoR p6/\aoR p7/\aoR p8/\aoR p9:=⟨J a0,J a1,J a2,J a3,J a4,J a5,J a6,J a7,J a8,J a9⟩
theorem J11 {p5 p7 p8 p9:Prop} (a0:p0) (a1:p1) (a2:p2) (a3:p3) (a4:p4) (a5:p5) (a6:p6) (a7:p7) (a8:p8) (a9:p9) (a10:p10):aoR p0/\aoR p1/\aoR p2/\aoR p3/\aoR p4/\aoR p5/\aoR p6/\aoR p7/\aoR p8/\aoR p9/\aoR p10:=⟨J a0,J a1,J a2,J a3,J a4,J a5,J a6,J a7,J a8,J a9,J a10⟩
theorem J12 {p5 p7 p8 p9:Prop} (a0:p0) (a1:p1) (a2:p2) (a3:p3) (a4:p4) (a5:p5) (a6:p6) (a7:p7) (a8:p8) (a9:p9) (a10:p10) (a11:p11):aoR p0/\aoR p1/\aoR p2/\aoR p3/\aoR p4/\aoR p5/\aoR p6/\aoR p7/\aoR p8/\aoR p9/\aoR p10/\aoR p11:=⟨J a0,J a1,J a2,J a3,J a4,J a5,J a6,J a7,J a8,J a9,J a10,J a11⟩
theorem J14 {p5 p7 p8 p9:Prop} (a0:p0) (a1:p1) (a2:p2) (a3:p3) (a4:p4) (a5:p5) (a6:p6) (a7:p7) (a8:p8) (a9:p9) (a10:p10) (a11:p11) (a12:p12) (a13:p13):aoR p0/\aoR p1/\aoR p2/\aoR p3/\aoR p4/\aoR p5/\aoR p6/\aoR p7/\aoR p8/\aoR p9/\aoR p10/\aoR p11/\aoR p12/\aoR p13:=⟨J a0,J a1,J a2,J a3,J a4,J a5,J a6,J a7,J a8,J a9,J a10,J a11,J a12,J a13⟩
theorem J15 {p5 p7 p8 p9:Prop} (a0:p0) (a1:p1) (a2:p2) (a3:p3) (a4:p4) (a5:p5) (a6:p6) (a7:p7) (a8:p8) (a9:p9) (a10:p10) (a11:p11) (a12:p12) (a13:p13) (a14:p14):aoR p0/\aoR p1/\aoR p2/\aoR p3/\aoR p4/\aoR p5/\aoR p6/\aoR p7/\aoR p8/\aoR p9/\aoR p10/\aoR p11/\aoR p12/\aoR p13/\aoR p14:=⟨J a0,J a1,J a2,J a3,J a4,J a5,J a6,J a7,J a8,J a9,J a10,J a11,J a12,J a13,J a14⟩
theorem J17 {p5 p7 p8 p9 p15 p16:Prop} (a0:p0) (a1:p1) (a2:p2) (a3:p3) (a4:p4) (a5:p5) (a6:p6) (a7:p7) (a8:p8) (a9:p9) (a10:p10) (a11:p11) (a12:p12) (a13:p13) (a14:p14) (a15:p15) (a16:p16):aoR p0/\aoR p1/\aoR p2/\aoR p3/\aoR p4/\aoR p5/\aoR p6/\aoR p7/\aoR p8/\aoR p9/\aoR p10/\aoR p11/\aoR p12/\aoR p13/\aoR p14/\aoR p15/\aoR p16:=⟨J a0,J a1,J a2,J a3,J a4,J a5,J a6,J a7,J a8,J a9,J a10,J a11,J a12,J a13,J a14,J a15,J a16⟩
theorem cx (g:K) (h:aoR K->G:=by(intro QQ;(first|((apply aaZ);(· go_simp);(· (intro w1;go_simp;try with_reducible rfl)))|((apply abb);(· go_simp))|fail);(intro K hK;go_simp;refine hK _ _ ?_;clear hK K);exact QQ.o)):G:=h (J g)
theorem nV (g:K) (h:aoR K->G:=by(intro QQ;(first|((apply abe);(· go_simp);(· (intro w1;go_simp;try with_reducible rfl)))|((apply abf);(· go_simp))|fail);(intro K hK;go_simp;refine hK _ _ ?_;clear hK K);exact QQ.o)):G:=h (J g)
theorem qs5 (g:K) (h:aoR K->G:=by(intro QQ;(first|((apply alk);(· go_simp);(· (intro w1;go_simp;try with_reducible rfl)))|((apply alm);(· go_simp))|fail);(intro K hK;go_simp;refine hK _ _ ?_;clear hK K);exact QQ.o)):G:=h (J g)
theorem iJ (g:K) (h:aoR K->G:=by(intro QQ;(intro K hK;go_simp;refine hK _ _ ?_;clear hK K);exact QQ.o)):G:=h (J g)
theorem kE (g:K) (h:aoR K->G:=by(intro QQ;(refine wpList_step (λK hK=>?_);go_simp;(try go_bits);refine hK _ _ ?_;clear hK K);exact QQ.o)):G:=h (J g)
theorem fI (g:K) (h:aoR K->G:=by(intro QQ;intro l' YO;simp only [tq,List.map_nil,List.getD_cons_zero,List.getD_cons_succ]at YO;subst YO;exact QQ.o)):G:=h (J g)
theorem WV (g:K) (h:aoR K->G:=by(intro QQ;intro p' hp';simp only [sZ.fill,List.getD_cons_zero,List.getD_cons_succ]at hp';subst hp';exact QQ.o)):G:=h (J g)
theorem fx (g:K) (h:aoR K->G:=by(intro QQ;(repeat (first|(refine cx ?_)|(refine CN (by kernel_rfl) (λK hK=>?_);go_simp;refine hK.out _ _ ?_;clear hK K)|fail));refine XD ?_;exact QQ.o)):G:=h (J g)
theorem LL (g:K) (h:aoR K->G:=by(intro QQ;(repeat (first|(refine nV ?_)|(refine afm (by kernel_rfl) (λK hK=>?_);go_simp;refine hK.out _ _ ?_;clear hK K)|fail));refine afn ?_;exact QQ.o)):G:=h (J g)
theorem qf5 (g:K) (h:aoR K->G:=by(intro QQ;(repeat (first|(refine qs5 ?_)|(refine anE (by kernel_rfl) (λK hK=>?_);go_simp;refine hK.out _ _ ?_;clear hK K)|fail));refine anF ?_;exact QQ.o)):G:=h (J g)
theorem fV (h:G:=by(go_simp;(try with_reducible rfl);first|done|fail)):G:=h
theorem zb1 (h:G:=by intro w1 hS;have d1:=bC (bX gx hS);have d2:=(bX gx hS).lt;have d3:=bH (bX gx hS);have d4:=bG (bX gx hS);have d5:=bH (bX Q9 hS);have d6:=bG (bX Q9 hS);have d7:=(bX Q9 hS).lt;exact fV):G:=h
theorem zb2 (h:G:=by intro w1 hS;have d1:=(sY.o.ext (fL.o.trans hS));have d2:=bC d1.blk;have d3:=d1.blk.lt;have d7:=agR d1 s;rw [<-HV.o,hvI]at d7;clear d1;have d4:=bX l0.o (fL.o.trans hS);have d5:=bC d4;have d6:=d4.lt;exact fV):G:=h
theorem zb3 (h:G:=by intro w1 hS;have d0:=KT.block hS.1 HBr.o (by decide) (by decide);have d1:=bC d0;have d2:=d0.lt;obtain⟨L',qO⟩:=hS.2;obtain⟨A',n',uB,jw,_⟩:=qO.blk;have d3:=bC jw;have d4:=jw.lt;have d5:=MS.look qO;exact fV):G:=h
theorem zb4 (h:G:=by intro w1 hS;have d1:=bC (bX EM hS);have d2:=(bX EM hS).lt;have d3:=bC (bX kB hS);have d4:=(bX kB hS).lt;have d5:=bH (bX kB hS);have d6:=bG (bX kB hS);exact fV):G:=h
theorem zb5 (h:G:=by intro w1 hS;have d1:=LR.o _ hS;have d3:=bX OM.o hS;have d4:=bH d3;have d5:=bG d3;have d6:=d3.lt;have d7:=bX tN.o hS;have d8:=bH d7;have d9:=bG d7;have d10:=d7.lt;exact fV):G:=h
theorem zb6 (h:G:=by intro w1 hS;have d1:=(sY.o.ext (dQ.o.trans hS));have d2:=bC d1.blk;have d3:=d1.blk.lt;clear d1;have d4:=bX l0.o (dQ.o.trans hS);have d5:=bC d4;have d6:=d4.lt;exact fV):G:=h
theorem zb7 (h:G:=by intro w1 hS;have d1:=bX dK hS;have d2:=bX wK hS;have d3:=bC d1;have d4:=bH d1;have d5:=bG d1;have d6:=bH d2;have d7:=bG d2;exact fV):G:=h
theorem zb8 (h:G:=by intro w1 hS;have d0:=bX agj.o hS;have d1:=bH d0;have d2:=bG d0;have d3:=d0.lt;have e0:=bX Df.o hS;have e1:=bC e0;have e2:=e0.lt;exact fV):G:=h
theorem zb9 (h:G:=by intro w1 hS;have d4:=bX l0.o hS;have d5:=bC d4;have d6:=d4.lt;have d7:=ly (p:=⟨2,k,none⟩) hS (by have:=wU.o.lt;show 2<_;omega) HT.o;exact fV):G:=h
theorem afo (h:G:=by intro w1 hS;have d4:=bX l0.o hS;have d5:=bC d4;have d6:=d4.lt;have d7:=ly (p:=⟨5,k,none⟩) hS (by have:=wU.o.lt;show 5<_;omega) HT.o;exact fV):G:=h
theorem afp (h:G:=by intro w1 hS;have d4:=bX Ek.o hS;have d5:=bC d4;have d6:=d4.lt;have e4:=bX HB.o (cy.o.trans hS);have e5:=bC e4;have e6:=e4.lt;exact fV):G:=h
theorem afq (h:G:=by intro w1 hS;have d4:=bK ku.o (je.o.trans (Kept.ext hS)) mS.o.1;have d5:=bC d4;have d6:=d4.lt;have d7:=bH d4;have d8:=bG d4;exact fV):G:=h
theorem anG (h:G:=by intro w1 hS;have d0:=bK HCF.o hS (by have:=DD.o;omega);have d1:=bH d0;have d2:=bG d0;have d3:=d0.lt;have d4:=bC d0;exact fV):G:=h
theorem anH (h:G:=by intro w1 hS;have d0:=bK hA hS (show¬w.heap.size=w.heap.size+1 by omega);have d1:=bC d0;have d2:=bH d0;have d3:=bG d0;exact fV):G:=h
theorem ajs (h:G:=by intro w1 hS;have d0:=bX OM.o hS;have d1:=bC d0;have d2:=d0.lt;have e0:=bX OC.o hS;have e1:=bC e0;have e2:=e0.lt;exact fV):G:=h
theorem anI (h:G:=by intro w1 hS;have d0:=bX HBI.o hS;have d1:=bH d0;have d2:=bG d0;have d3:=d0.lt;have e0:=bX Ay.o hS;have e1:=e0.lt;exact fV):G:=h
theorem ajt (h:G:=by intro w1 hS;have d4:=bX hV.o (fp.o.trans hS);have d5:=bC d4;have d6:=d4.lt;have d7:=bH d4;have d8:=bG d4;exact fV):G:=h
theorem aju (h:G:=by intro w1 hS;have d4:=bX hV.o (fL.o.trans hS);have d5:=bC d4;have d6:=d4.lt;have d7:=bH d4;have d8:=bG d4;exact fV):G:=h
theorem abj (h:G:=by intro w1 hS;have d0:=bK HB9.o hS (by have:=DD.o;intro q;omega);have d1:=bH d0;have d2:=bG d0;have d3:=d0.lt;exact fV):G:=h
theorem afr (h:G:=by intro w1 hS;have d0:=bK HD.o hS (by have:=HQ.o;intro q;omega);have d1:=bH d0;have d2:=bG d0;have d3:=d0.lt;exact fV):G:=h
theorem afs (h:G:=by intro w1 hS;have d0:=bX tM.o hS;have d1:=bH d0;have d2:=bG d0;have d3:=bC d0;have d4:=d0.lt;exact fV):G:=h
theorem abk (h:G:=by intro w1 hS;have d4:=bK ku.o (je.o.trans (Kept.ext hS)) mS.o.1;have d5:=bC d4;have d6:=d4.lt;exact fV):G:=h
theorem aft (h:G:=by intro w1 hS;have d4:=bX hV.o (fp.o.trans hS);have d5:=bC d4;have d6:=d4.lt;have d7:=HLK.o _ hS;exact fV):G:=h
theorem afu (h:G:=by have:=HL.o;rw [LR.o]at this;simp only [dn,iQ,oW,vP]at this⊢;omega):G:=h
theorem abl (h:G:=by intro w1 hS;have d0:=bK hC.o hS (by rw [ku.o];exact HPO.o);have d1:=bC d0;have d2:=d0.lt;exact fV):G:=h
theorem afv (h:G:=by intro w1 hS;have d1:=ly hS gB C2.o;have d2:=ly hS gB C5.o;have d3:=ly hS gB C6.o;exact fV):G:=h
theorem ajv (h:G:=by have:=HL.o;rw [LR.o]at this;simp only [dn,iQ,oW]at this⊢;omega):G:=h
theorem anJ (h:G:=by intro w1 hS;have d1:=bC (bX ki hS);have d2:=(eN.ext hS).cell y pL;rw [<-HV.o]at d2;exact fV):G:=h
theorem ajw (h:G:=by intro w1 hS;have d0:=bX zV.o hS;have d1:=bG d0;have d2:=bH d0;have d3:=d0.lt;exact fV):G:=h
theorem ajx (h:G:=by intro w1 hS;have d4:=bX l0.o (dQ.o.trans hS);have d5:=bC d4;have d6:=d4.lt;exact fV):G:=h
theorem S8 (h:G:=by intro w1 hS;have d4:=bX l0.o (fp.o.trans hS);have d5:=bC d4;have d6:=d4.lt;exact fV):G:=h
theorem ajy (h:G:=by intro w1 hS;have d4:=bX l0.o (lp.o.trans hS);have d5:=bC d4;have d6:=d4.lt;exact fV):G:=h
theorem ajz (h:G:=by intro w1 hS;have d4:=bX hV.o (dQ.o.trans hS);have d5:=bC d4;have d6:=d4.lt;exact fV):G:=h
theorem Ot (h:G:=by intro w1 hS;have d0:=bK hC.o hS wW.o;have d1:=bC d0;have d2:=d0.lt;exact fV):G:=h
theorem K7 (h:G:=by intro w1 hS;have d1:=bC (bX hC.o hS);have d2:=(bX hC.o hS).lt;exact fV):G:=h
theorem XI (h:G:=by intro w1 hS;have d0:=bX HC.o.box hS;have d1:=bC d0;have d2:=d0.lt;exact fV):G:=h
theorem ajA (h:G:=by intro w1 hS;have d1:=bX hA0 hS;have hh:=bH d1;have hg:=bG d1;exact fV):G:=h
theorem ajB (h:G:=by intro w1 hS;have d1:=bX ki hS;have d2:=bH d1;have d3:=bG d1;exact fV):G:=h
theorem afw (h:G:=by intro w1 hS;have d4:=bX l0.o hS;have d5:=bC d4;have d6:=d4.lt;exact fV):G:=h
theorem afx (h:G:=by intro w1 hS;have d4:=bX HS.o hS;have d5:=bC d4;have d6:=d4.lt;exact fV):G:=h
theorem abm (h:G:=by intro w1 hS;have d4:=bX hV.o hS;have d5:=bC d4;have d6:=d4.lt;exact fV):G:=h
theorem ajC (h:G:=by have:=HH.o;rw [HHD.o]at this;simp only [dn]at this;simp;omega):G:=h
theorem ajD (h:G:=by have:=HH.o;rw [HHD.o]at this;simp only [dn]at this;omega):G:=h
theorem ajE (h:G:=by(try simp only [dn,iQ,oW]);omega):G:=h
theorem ajF (h:G:=by unfold exC;rw [af (by omega),af (by omega),af (by omega)];rfl):G:=h
theorem ajG (h:G:=by have:=Ds;first|exact Ds.high|exact Ds.2.2.2|exact Ds.2.2.1):G:=h
theorem XJ (h:G:=by have a:=uA.o;have b:=Uf.o;have d:=y4.size;omega):G:=h
theorem anK (h:G:=by have:=Yw.o;have:=qI.o;have:=uH.o.size;omega):G:=h
theorem XK (h:G:=by have:=OL.o;have a:=uA.o;have b:=Uf.o;omega):G:=h
theorem XL (h:G:=by have:=Ey wI.o;unfold Ba at this;omega):G:=h
theorem XM (h:G:=by have:=Ay.o.lt;show cb<wr.heap.size+1;omega):G:=h
theorem C3 (h:G:=by simp [aX,gV,mM pL,mM rC,hv,hu]):G:=h
theorem C4 (h:G:=by rw [hu];exact HO.o _ (ed rC)):G:=h
theorem uv (h:G:=by rw [hv];exact HO.o _ (ed pL)):G:=h
theorem abn (h:G:=by rw [gu,<-Uc.o];exact k1):G:=h
theorem abo (h:G:=by rw [gu,<-HN.o];exact h1):G:=h
theorem anL (h:G:=by have a:=Uf.o;have b:=qI.o;omega):G:=h
theorem XN (h:G:=by have a:=uA.o;have b:=Uf.o;omega):G:=h
theorem afy (h:G:=by rw [HN.o,jr];exact hv):G:=h
theorem uw (h:G:=by have:=Yw.o;have:=Ay.o.lt;omega):G:=h
theorem abp (h:G:=by rw [gu,<-Uc.o];omega):G:=h
theorem abq (h:G:=by have:=zX.o;have:=Ub.o.1;omega):G:=h
theorem abr (h:G:=by rw [gu,<-HN.o];omega):G:=h
theorem abt (h:G:=by rw [fj];exact ed d_):G:=h
theorem afz (h:G:=by simp [gI,IntKind.wrap_i32,wrap32]):G:=h
theorem Ou (h:G:=by rw [HR.o];exact ai.cw dW 0 _):G:=h
theorem abu (h:G:=by simp [aX,mM pL,<-hv,hz]):G:=h
theorem abv (h:G:=by have:=HQ.o;have:=HN.o;omega):G:=h
theorem abw (h:G:=by show br 0;unfold br;omega):G:=h
theorem Ov (h:G:=by rw [HR.o];exact gH):G:=h
theorem S9 (h:G:=by exact ai.cw HR.o 0 _):G:=h
theorem XO (h:G:=by have:=hx.size;simp;omega):G:=h
theorem abx (h:G:=by have:=Cr i;omega):G:=h
theorem aby (h:G:=by rw [<-HF.o];exact hF0):G:=h
theorem abz (h:G:=by rw [<-gZ.o];exact hq):G:=h
theorem XP (h:G:=by exact ai.cw vl 0 _):G:=h
theorem ux (h:G:=by have:=Ef.o.2;omega):G:=h
theorem Ta (h:G:=by rw [h]at hr;cases hr):G:=h
theorem ajH (h:G:=by have:=Yq.o;omega):G:=h
theorem Ow (h:G:=by have:=qI.o;omega):G:=h
theorem Tc (h:G:=by have:=ku.o;omega):G:=h
theorem XQ (h:G:=by have:=HQN.o;omega):G:=h
theorem K8 (h:G:=by have:=AB.o;omega):G:=h
theorem XR (h:G:=by have:=wI.o;omega):G:=h
theorem Td (h:G:=by rw [<-HK.o];omega):G:=h
theorem Ib (h:G:=by unfold maxLen;omega):G:=h
theorem Te (h:G:=by have:=HN.o;omega):G:=h
theorem XS (h:G:=by have:=HQ.o;omega):G:=h
theorem XT (h:G:=by simpa using hB.1.2):G:=h
theorem C7 (h:G:=by unfold av;omega):G:=h
theorem C8 (h:G:=by unfold br;omega):G:=h
theorem XU (h:G:=by unfold aK;simp):G:=h
theorem Tf (h:G:=by rw [gq.o];rfl):G:=h
theorem Tg (h:G:=by exact sK):G:=h
theorem Ti (h:G:=by simp<;>omega):G:=h
theorem kH (h:G:=by exact vM):G:=h
theorem zQ (h:G:=by exact Ao):G:=h
theorem Tj (h:G:=by intro q;omega):G:=h
theorem Tk (h:G:=by rw [h2];omega):G:=h
theorem rU (h:G:=by simpa using h):G:=h
theorem aV (h:G:=by kernel_rfl):G:=h
theorem kr (h:G:=by simp;omega):G:=h
theorem ap (h:G:=by decide):G:=h
theorem ad (h:G:=by omega):G:=h
theorem aB (h:G:=by simp):G:=h
theorem fK (h:G:=by rfl):G:=h
theorem zz4 (h:G:=by
 have hc5:=bC Q8;have hh5:=bH tV;have hm5:=ai.aC tV;have hh6:=bH zC;have hg6:=bG zC;have sl:¬w.heap.size=c9:=by omega
 have hcR:¬w.heap.size+1=c9:=by omega
 have gY:¬h2s=c9:=by omega
 have bx:decide ((n:Int)<=x)=false:=by simp;omega
 have bx':decide (n<=x)=false:=by simp;omega
 have hxI:(x:Int)<n:=by omega
 have Ag:x<l.length:=by have:=HN.o;omega
 have aov:=y5.size;have acu:=(HR.o h1).ext y5;obtain rfl:=HA.o h1;obtain⟨a1,a2⟩:=acu.ins x Ag;have lC:=acu.lt;obtain⟨i,hi⟩:=nm' (l[x]);rw [<-hi]at a2;have HI:=J hi;clear hi;have j1:=bH zC;have j2:=ai.aC zC;have lA5:=Q8.lt;clear hh5 hm5 hh6 hg6;go_upto_region 11 with(fail);have hA6:=ai.Co Q8 sl 11 i.cells;have Ip:=ai.Co tV hcR 11 i.cells;have Rf:=ai.Co hP5 gY 11 i.cells;have hN6:ai (putAt W5 c9 11 i.cells) c9 74 (Ws.cells ⟨x,0,k,M,i,none,0,0,none,0,0,none,0,0⟩):=ai.cw zC 11 i.cells;have y6:al w (putAt W5 c9 11 i.cells):=Kept.putAt y5 _ _ _ (λh=>by omega);have kW:Kept (λi=>W.heap.size<=i) W (putAt W5 c9 11 i.cells):=Kept.putAt (Kept.ext xW) _ _ _ (λ_=>hlW);have ht6:=ht3.UA kW;clear Q8 tV hP5 zC y5 xW a1 a2 j1 j2 hc5;generalize (putAt W5 c9 11 i.cells)=W6 at hA6 Ip Rf hN6 y6 kW ht6⊢;have amp:=bC hA6;have lA6:=hA6.lt;go_wp21;refine(KV _ p (l.map iq) x _ abo abr (by rw [gu,<-HN.o];exact hxn) ht6).mono ?_;rintro e w7 ⟨v7,rfl,D4,zK⟩;obtain⟨pA,pk,rfl,hpv⟩:=kJ.eT D4 (Kb _ _ _);obtain⟨Hh,hHh⟩:∃Hh,iM (l.map iq).length=Hh:=⟨_,rfl⟩;rw [hHh]at hpv⊢;have HHH:=J hHh;have hA7:=bX hA6 zK;have TM:=bX Ip zK;have Rh:=bX Rf zK;have hN7:=bX hN6 zK;have y7:=y6.trans zK;have k7:=kW.trans (Kept.ext zK);have hc7:=bC hN7;have hf7:=ai.frozen hN7;have lN6:=hN6.lt;clear hA6 Ip Rf hN6 y6 kW ht6 amp hHh D4;obtain⟨U,hU⟩:=nm' (Value.slice pA Hh pk);have hA8:=ai.kV hA7 (p:=⟨c9,15,none⟩) sl U;have hR8:=ai.kV TM (p:=⟨c9,15,none⟩) hcR U;have vl:=ai.kV Rh (p:=⟨c9,15,none⟩) gY U;have hN8:ai (w7.setCell ⟨c9,15,none⟩ U) c9 74 (Ws.cells ⟨x,0,k,M,i,pA,Hh,pk,none,0,0,none,0,0⟩):=by rw [hU];exact ai.eK hN7 15 (.slice pA Hh pk)
 have y8:al w (w7.setCell ⟨c9,15,none⟩ U):=Kept.setCell y7 ⟨c9,15,none⟩ _ (λh=>by have:c9<w.heap.size:=h;omega);have k8:Kept (λi=>W.heap.size<=i) W (w7.setCell ⟨c9,15,none⟩ U):=Kept.setCell k7 ⟨c9,15,none⟩ _ (λ_=>hlW)
 have ahe:∀cV fr,¬w7.heap[c9]?=some (.cells cV 25 fr):=λcV fr e=>by
  rw [hN7]at e;injection e with e;injection e with _ e _;exact absurd e ap
 have aeB:kJ (w7.setCell ⟨c9,15,none⟩ U) pA Hh _:=hpv.kept (Kept.setCell (S:=(·=c9)) (kR _ w7) ⟨c9,15,none⟩ U (λ_=>rfl)) (λj hj=>by subst hj;exact ahe);refine abD ?_;intro D2;go_upto_region 15 with(fail);rw [<-hU];clear hc7 hf7 hA7 TM Rh hN7 y7 k7 hpv ahe D2;generalize (w7.setCell ⟨c9,15,none⟩ U)=W8 at hA8 hR8 vl hN8 y8 k8 aeB⊢;clear hU;have i1:=bH hA8;have i2:=bG hA8;have lA8:=hA8.lt;go_wp21;obtain⟨R,hR⟩:=nm' (dm l x 0 m);have aeg:=xx l x 0 m;rw [<-hR,<-Uc.o]at aeg;have HRn:=J hR;have adA:=J aeg;clear hR aeg;refine(uf (some ⟨b,off,none⟩) b off n cap l x 0 b' bL k eF m _ (mv.o.ext y8)).mono ?_;rintro e w9 ⟨v9,e9,ER,tF⟩;rw [<-HRn.o]at e9 ER;obtain⟨rl,Y7⟩:=R;simp only at e9 ER;subst e9;have hA9:=bX hA8 tF;have hR9:=bX hR8 tF;have YI:=bX vl tF;have hN9:=bX hN8 tF;have y9:=y8.trans tF;have k9:=k8.trans (Kept.ext tF);have aia:=aeB.ext tF;clear i1 i2 hA8 hR8 vl hN8 y8 k8 aeB tF;go_wp21;refine(Fl v9 _ rl.length rl h2s w.heap.size q x 0 b' bL k eF m _ _ ER (by have:=adA.o.2.2;omega) adA.o.1 Uc.o k1 k2 (VW.UA k9) YI hA9 ((HR'.o k1).ext y9)).mono ?_;rintro e IA ⟨wA,wn,wc,rfl,MP,zJ⟩;have agV:=bX hA9 zJ;have ahh:=bX hR9 zJ;have ahf:=bX YI zJ;have Jm:=bX hN9 zJ;have S7:=y9.trans zJ;have M5:=k9.trans (Kept.ext zJ);have acm:=aia.ext zJ;have amn:=bC Jm;have ams:=ai.frozen Jm;have lN:=Jm.lt;clear hA9 hR9 YI hN9 y9 k9 aia zJ ER;have aeb:=ai.kV agV (p:=⟨c9,16,none⟩) sl (.slice wA wn wc);have DW:=ai.kV ahh (p:=⟨c9,16,none⟩) hcR (.slice wA wn wc);have aef:=ai.kV ahf (p:=⟨c9,16,none⟩) gY (.slice wA wn wc);have Rc:ai (IA.setCell ⟨c9,16,none⟩ (.slice wA wn wc)) c9 74 (Ws.cells ⟨x,0,k,M,i,pA,Hh,pk,wA,wn,wc,none,0,0⟩):=ai.eK Jm 16 (.slice wA wn wc);have Y':al w (IA.setCell ⟨c9,16,none⟩ (.slice wA wn wc)):=Kept.setCell S7 ⟨c9,16,none⟩ _ (λh=>by have:c9<w.heap.size:=h;omega);have YX:Kept (λi=>W.heap.size<=i) W (IA.setCell ⟨c9,16,none⟩ (.slice wA wn wc)):=Kept.setCell M5 ⟨c9,16,none⟩ _ (λ_=>hlW);have aeM:Kept (·=c9) IA (IA.setCell ⟨c9,16,none⟩ (.slice wA wn wc)):=Kept.setCell (kR _ IA) ⟨c9,16,none⟩ _ (λ_=>rfl);have Pv:=acm.kept aeM (λj hj=>by subst hj;exact dV Jm ap);have PA:=MP.kept aeM (λj hj=>by subst hj;exact dV Jm ap) (λj hj=>by subst hj;exact dV Jm ap);go_upto_region 17 with(fail);clear agV ahh ahf Jm S7 M5 acm amn ams MP aeM;generalize (IA.setCell ⟨c9,16,none⟩ (.slice wA wn wc))=ZK at aeb DW aef Rc Y' YX Pv PA⊢;have aoK:=Rc.lt;have aoN:=DW.lt
 by_cases pK:0<=Y7
 ·have bw0:decide (0<=Y7)=true:=by simpa using pK
  have T7:Y7<k:=adA.o.2.1;have x12:=dY ZK (.cells #[.int .i64 Y7] 3);have ahm:=bN ZK 3 #[.int .i64 Y7];have ahV:(ZK.alloc (.cells #[.int .i64 Y7] 3)).ownsRow ZK.heap.size 3 1 (.slice (some ⟨ZK.heap.size,0,none⟩) 1 1) 1 (ints [Y7]):=⟨rfl,.inr ⟨ZK.heap.size,1,#[.int .i64 Y7],rfl,cr _,ahm,cr _,by unfold maxLen;omega,rfl,rfl⟩⟩;have agW:=bX aeb x12;have ahi:=bX DW x12;have ahg:=bX aef x12;have ahc:=bX Rc x12;have Dx:=Y'.trans x12;have k12:=YX.trans (Kept.ext x12);have acn:=Pv.ext x12;have acx:=PA.ext x12;clear aeb DW aef Rc Y' YX Pv PA x12 ahm;go_wp21;refine(Fl (.slice (some ⟨ZK.heap.size,0,none⟩) 1 1) _ 1 [Y7] h2s w.heap.size q x 0 b' bL k eF m _ _ ahV ad (λz hz=>by simp at hz;subst hz;exact⟨pK,T7⟩) Uc.o k1 k2 (VW.UA k12) ahg agW ((HR'.o k1).ext Dx)).mono ?_;rintro e w13 ⟨zA,zn,zc,rfl,hzs,Ry⟩;have ahj:=bX ahi Ry;have DV:=bX ahc Ry;have y13:=Dx.trans Ry;have aco:=acn.ext Ry;have acy:=acx.ext Ry;have amo:=bC DV;have amt:=ai.frozen DV;have aoL:=DV.lt;clear agW ahi ahg ahc Dx k12 acn acx Ry ahV;have DX:=ai.kV ahj (p:=⟨c9,17,none⟩) hcR (.slice zA zn zc);have Z9:ai (w13.setCell ⟨c9,17,none⟩ (.slice zA zn zc)) c9 74 (Ws.cells ⟨x,0,k,M,i,pA,Hh,pk,wA,wn,wc,zA,zn,zc⟩):=ai.eK DV 17 (.slice zA zn zc);have y14:al w (w13.setCell ⟨c9,17,none⟩ (.slice zA zn zc)):=Kept.setCell y13 ⟨c9,17,none⟩ _ (λh=>by have:c9<w.heap.size:=h;omega);have aao:Kept (·=c9) w13 (w13.setCell ⟨c9,17,none⟩ (.slice zA zn zc)):=Kept.setCell (kR _ w13) ⟨c9,17,none⟩ _ (λ_=>rfl);have acp:=aco.kept aao (λj hj=>by subst hj;exact dV DV ap);have acz:=acy.kept aao (λj hj=>by subst hj;exact dV DV ap) (λj hj=>by subst hj;exact dV DV ap);have acA:=hzs.kept aao (λj hj=>by subst hj;exact dV DV ap) (λj hj=>by subst hj;exact dV DV ap);go_upto_region 19 with(fail);clear ahj DV y13 aco acy amo amt aao hzs;generalize (w13.setCell ⟨c9,17,none⟩ (.slice zA zn zc))=W14 at DX Z9 y14 acp acz acA⊢;have aoM:=Z9.lt;have aoO:=DX.lt;have i1:=bH Z9;have i2:=bG Z9;have i3:=bH DX;have i4:=ai.aC DX;go_wp21;refine di Tryz.results118 rfl rfl n6 (by exact lV) (ai.cw DX _ _) ⟨⟨x,0,k,M,i,pA,Hh,pk,wA,wn,wc,zA,zn,zc⟩,rfl,?_,Kept.putAt y14 _ _ _ (λh=>by omega)⟩;have kf:Kept (·=w.heap.size+1) W14 _:=Kept.putAt (kR _ W14) (w.heap.size+1) 0 (Ws.cells ⟨x,0,k,M,i,pA,Hh,pk,wA,wn,wc,zA,zn,zc⟩) (λ_=>rfl);rw [JW (show(l.length:Int)=n by rw [HN.o]) hxI];refine⟨rfl,rfl,by rw [Uc.o],HM.o,by simp [HI.o,Ag],?_,?_,?_⟩
  ·have:=acp.kept kf (λj hj=>by subst hj;exact dV DX ap)
   have e:=HHH.o;rw [gu]at e;rw [e];exact this
  ·have:=acz.kept kf (λj hj=>by subst hj;exact dV DX ap) (λj hj=>by subst hj;exact dV DX ap)
   rw [<-HRn.o];exact this
  ·have:=acA.kept kf (λj hj=>by subst hj;exact dV DX ap) (λj hj=>by subst hj;exact dV DX ap)
   rw [<-HRn.o];simp only;rw [ak ad];exact this
 ·have bw0:decide (0<=Y7)=false:=by simpa using pK
  have i1:=bH Rc;have i2:=bG Rc;have i3:=bH DW;have i4:=ai.aC DW;go_wp21;refine di Tryz.results118 rfl rfl n6 (by exact lV) (ai.cw DW _ _) ⟨⟨x,0,k,M,i,pA,Hh,pk,wA,wn,wc,none,0,0⟩,rfl,?_,Kept.putAt Y' _ _ _ (λh=>by omega)⟩;have kf:Kept (·=w.heap.size+1) ZK _:=Kept.putAt (kR _ ZK) (w.heap.size+1) 0 (Ws.cells ⟨x,0,k,M,i,pA,Hh,pk,wA,wn,wc,none,0,0⟩) (λ_=>rfl);rw [JW (show(l.length:Int)=n by rw [HN.o]) hxI];refine⟨rfl,rfl,by rw [Uc.o],HM.o,by simp [HI.o,Ag],?_,?_,?_⟩
  ·have:=Pv.kept kf (λj hj=>by subst hj;exact dV DW ap)
   have e:=HHH.o;rw [gu]at e;rw [e];exact this
  ·have:=PA.kept kf (λj hj=>by subst hj;exact dV DW ap) (λj hj=>by subst hj;exact dV DW ap)
   rw [<-HRn.o];exact this
  ·rw [<-HRn.o];simp only;rw [af ad];exact gi.none _):G:=h
theorem zz9 (h:G:=by
 obtain⟨D,hD⟩:=nm' (tI l (pc,halt,m) (j+1));obtain⟨M,hMe⟩:=nm' (kC m');have hDM:D=mA p' h' k M:=by rw [hD,hMe];unfold tI;rw [Ug.o,<-OI.o];rfl
 have aey:=(ago.o (j+1)).1;rw [Ug.o]at aey;obtain⟨_,_,s3,s4,s5,s6⟩:=cG aey.right;simp only at s3 s4 s5 s6;have⟨HD,HMe,HDM⟩:=J3' hD hMe hDM;clear hD hMe hDM aey;go_upto_region 18 with(fail);refine fH (λw2=>al w6 w2) [(0,2),(1,2),(2,1),(3,2),(4,1),(5,2),(6,1),(7,2),(8,2),(9,0),(10,0),(11,0),(12,0),(13,2)] ?_;refine fI ?_
 (repeat first|refine cx ?_|refine de fU (by intro w1 hS;have d1:=bC (bX MA hS);have d2:=(bX MA hS).lt;exact fV) ?_|refine dc fU ?_)
 have yW:al w6 w6.drew:=(kR _ w6).drew
 (refine au (λK hK=>?_);go_simp)
 go_wp2_with fail;have hrt:=iY base q (m'.map dx) w6.drew (by rw [gu,OI.o];exact k1) (by rw [gu,OI.o];omega) (HT6.o.ok.ext yW);rw [show vI (m'.map dx)=M from HMe.o.symm]at hrt;refine hrt.mono ?_;rintro e w7 ⟨rfl,zK⟩;have y7:al w6 w7:=yW.trans zK;refine hK.out _ _ (λ_=>y7) ?_;clear hK K hrt;refine tj ?_;intro K hK;go_wp2_with fail;have TU:=iU p' h' k M (by rw [HMe.o];exact kj _ _) ad ad ad w7;rw [<-HDM.o]at TU;refine TU.mono ?_;rintro e w8 ⟨rfl,oo⟩;have y8:al w6 w8:=y7.trans oo;refine hK.out _ _ (λ_=>y8) ?_;clear hK K TU;refine tj ?_;intro K hK;have y9:al w6 (w8.alloc (.cells D.cells 25)):=y8.alloc _;refine hK.out _ _ (λ_=>y9) ?_;clear hK K;have hs9:=y8.size;obtain⟨v10,IA,VX,VN,ta⟩:=L7 (w8.alloc (.cells D.cells 25)) fy (.slice (some ⟨g12,0,none⟩) (j+1) c12) (j+1) _ (aI DG.o y9) w8.heap.size 0 1 1 [D] rfl (by simpa [cY]using Row.cF (bN w8 25 D.cells)) ad kr;have Pu:∀i,(Value.slice (some ⟨g12,0,none⟩) (j+1) c12).ownBlock=some i->fy<=i:=λi e=>(DG.o.lt i e).1;have YQ:=dl (aI DG.o y9) (E':=21) ap;have Af:=dl (aI DG.o y9) (E':=47) ap;have ami:=bK (bX MA y9) ta (λe=>Af sb e _ _ (bX MA y9));have ahk:=(HT6.o.ext y9).kept ta Pu;have aha:=(DE.o.ext y9).kept ta (λi e=>by have:=Pu i e;omega) (λi e _=>YQ i e);have x10:al w IA:=(x6.trans y9).trans' ta (λi hi e=>by have:=Pu i e;omega);have aih:fy<=IA.heap.size:=by have h1:=y9.size;have h2:=ta.size;omega
 have VO:IA.ownsRow fy 25 8 v10 (j+1+1) (cY ((List.range (j+1+1)).map (tI l (pc,halt,m)))):=by
  rw [List.range_succ,qy,show List.map (tI l (pc,halt,m)) [j+1]=[D]by rw [HD.o];rfl];exact VN
 obtain⟨g10,c10,amW,_⟩:=fh VO ad ad;subst amW;have⟨adz,alR,alF⟩:=J3' VO ahk aha;clear VN VO ahk aha ta Pu YQ Af;refine CN aV (λK hK=>?_);refine BJ rfl ?_;refine Lib.wp_append_run _ _ _ _ _ rfl _ _ rfl rfl _ _ VX ?_;refine hK.out _ _ ?_;clear hK K VX;refine fx ?_;go_wp2_with fail;go_roundw
 case rel=>exact⟨j+1,g3,0,c3,aP,adz.o,by rw [Ug.o];exact ami,by rw [Ug.o];exact alF.o,by rw [Ug.o];exact alR.o,x10,aih⟩
 case measure=>simp only;omega):G:=h
theorem ajZ (h:G:=by
 go_upto_region 1 with(fail);refine fH (λw1=>Kept (·=ob) w w1) [(0,2),(1,2),(2,2),(3,2),(4,1),(5,2),(6,2),(7,2),(8,1),(9,2),(10,0),(11,2),(12,2),(13,2),(14,2),(15,2)] ?_;refine fI ?_;have HY:=J (show Kept (·=ob) w w.drew from(kR _ w).drew);clear cR lR fR
 (repeat first|refine cx ?_|refine de HY.o (by intro w1 hS;have d0:=bK HR.o hS HN.o.2.2;have d1:=bG d0;have d2:=bH d0;have d3:=d0.lt;have d4:=bC d0;exact fV) ?_|refine dc HY.o ?_)
 (refine au (λK hK=>?_);go_simp)
 refine(R_ _ b (off+at_) _ (l.drop at_) (n - at_) HDL.o (by have:=HMX.o;omega) (j' lm.o _) (λh0=>by first|(rw [HA.o ad];exact congrArg some (sF _ _ _))|(have:=Yw.o;omega)) mb ob most _ (λh0=>by
  have q:=((mv.o ad).2).ext (Kept.drew (kR _ w));have q2:=Row.back q at_ (by rw [dR];have:=uA.o;omega);rw [show(cu l).drop at_=cu (l.drop at_)by simp [cu,List.map_drop]]at q2;exact q2) (bX HM.o (Kept.drew (kR _ w))) (bX HO.o (Kept.drew (kR _ w)))).mono ?_
 rintro e w1 ⟨rfl,qD,jZ⟩;obtain⟨E,hE⟩:=nm' (YZ (l.drop at_) most);obtain⟨S,qW⟩:=nm' (nmS (l.drop at_) most);obtain⟨V,hV⟩:=nm' (nmV (l.drop at_) most);have⟨HE,TD,HV,TE,wI⟩:=J5' (show oO l most at_ 0=E by rw [hE];exact HD.o.1) (show pw l most at_ 0=at_+S by rw [qW];exact HD.o.2.1) (show oU l most at_ 0=V by rw [hV];exact HD.o.2.2) (show¬E=0->S=0 by intro q;rw [qW];unfold nmS;rw [af (by rw [<-hE];exact q)]) (show at_+S<=100000 by rw [qW];unfold nmS;split<;>(have:=BW (l.drop at_);rw [AE]at this;have:=HMX.o;have:=uA.o;omega));rw [<-hE,<-qW];rw [<-hV]at qD;clear hE qW hV HD;have HY:=J (HY.o.trans jZ);clear jZ;have HO1:=J qD;clear qD;refine hK.out _ _ (λ_=>HY.o) ?_;clear hK K;refine fx ?_;have r1:=bK HR.o HY.o HN.o.2.2;have cR:=bC r1;have fR:=ai.frozen r1;have lR:=r1.lt
 by_cases h1:E=0
 ·have hJ:(E==0)=true:=by simp [h1]
  have jo:(E !=0)=false:=by unfold bne;rw [hJ];rfl
  have Yr:=J h1;clear h1;have hwp:IntKind.i64.wrap ((at_:Int)+S)=(at_:Int)+S:=by have:=wI.o;rw [im];omega
  go_wp21;go_end0;refine⟨rfl,?_,?_,?_⟩
  ·rw [HE.o,TD.o,Yr.o]
   exact ai.eK r1 1 _
  ·rw [HV.o]
   exact ai.kV HO1.o (λq=>HN.o.2.2 q.symm) _
  ·exact(HY.o.mono (λi _ q=>.inr q)).setCell _ _ (λ_=>.inl rfl)
 ·have hJ:(E==0)=false:=by simp [h1]
  have jo:(E !=0)=true:=by unfold bne;rw [hJ];rfl
  have Yr:=J (TE.o h1);clear h1;go_wp21
  (try simp only [Exit.inBlock,Exit.then])
  refine bodyPost_ret (results_none rfl _ _ _) rfl ?_;refine⟨rfl,?_,?_,?_⟩
  ·rw [HE.o,TD.o,Yr.o]
   exact ai.eK r1 2 _
  ·rw [HV.o]
   exact ai.kV HO1.o (λq=>HN.o.2.2 q.symm) _
  ·exact(HY.o.mono (λi _ q=>.inr q)).setCell _ _ (λ_=>.inl rfl)):G:=h
theorem anP (h:G:=by
 have gD:(j:Int)<vR:=by omega
 have hjr:j<rs.length:=by have:=HRN.o;omega
 have d_:j<(rs.map (f_ m)).length:=by simpa using hjr
 have VF:j<ds.length:=by rw [q4.len];exact d_
 obtain rfl:=q1 ad;have aE:=(q2 ad).ext xr;obtain⟨VY,LF⟩:=aE.wd j VF;have qB:=aE.lt;have ud:=(q4.get j VF d_).ext xr;rw [List.getElem_map]at ud;obtain⟨d,Vw⟩:=nm' (ds[j]);obtain⟨z,hz⟩:=nm' (rs[j]);rw [<-Vw]at LF ud;rw [<-hz]at ud;obtain⟨hz0,hz1⟩:=Ub.o z (by rw [hz];exact ed hjr);obtain⟨a,rfl⟩:∃a:Nat,z=a:=⟨z.toNat,by omega⟩;have f1:d.at_=a:=ud.at_;have f2:=ud.EW;have⟨ZB,HZ,HF2⟩:=J3' ud hz f2;have hak:a<k:=by omega
 clear It q1 q2 q4 aE Vw ud hz f2 hz0;obtain⟨dat,O2,QO,QR,QP⟩:=d;simp only at f1;subst f1;go_upto_region 7 with(fail);have xa:al wr _:=dM wr (.cells (Wd.cells ⟨a,O2,QO,QR,QP⟩) 271);have YK:=bN wr 271 (Wd.cells ⟨a,O2,QO,QR,QP⟩);have Ri:=bX (bK dK Ae ad) xa;have Rh:=bX (bK hP Ae iF) xa;have O7:=bX HGR.o xa;have Gn:=ZB.o.ext xa;have HG7:=J O7;have Qq:=J Gn;generalize (wr.alloc (.cells (Wd.cells ⟨a,O2,QO,QR,QP⟩) 271))=W7 at xa YK Ri Rh HG7 Qq⊢;clear O7 Gn VY LF ZB HGR;generalize (wr:World).heap.size=wb at YK⊢;have i1:=bH YK;have i2:=bG YK;have V5:=Fq ⟨a,O2,QO,QR,QP⟩ (f_ m a) sb ⟨x,0,k,M,i,Dt,Ap,Du,some ⟨b,off,none⟩,vR,Dv,CI,qF,Dw⟩ k rfl k1 k2 W7 Ri Qq.o (by rw [show(f_ m a).path=h_ (m.map dx) (iM m.length) a from rfl,jS,HK.o]) (by rw [HMM.o];exact Cy ad Td Td);have Zx:=J V5;clear V5;go_wp21;refine Zx.o.mono ?_;rintro e w8 ⟨rfl,oo⟩;have j1:=bC (bX YK oo);have j2:=(bX YK oo).lt;have j3:=bC (bX Ri oo);have j4:=(bX Ri oo).lt;have j5:=bC (bX Rh oo);have j6:=(bX Rh oo).lt;have hG8:=bX HG7.o oo;have j7:=ai.frozen hG8 a;have j8:=hG8.lt;have Bz:(nI m (rs.take j) (List.replicate k 0)).length=k:=by rw [xL];simp
 have j9:w8.cell? ⟨gm,a,none⟩=some (.int .i32 ((nI m (rs.take j) (List.replicate k 0)).getD a 0)):=by
  rw [bC hG8 a];simp [bj,Bz,hak]
 have HG8:=J hG8;have ahn:(a:Int)<k:=by omega
 clear hG8 HG7 i1 i2 YK Ri Rh Bz;go_wp21;go_roundw
 case rel=>
  refine⟨j+1,aP,by go_num,?_,?_⟩
  ·have h9:=ai.eK HG8.o a (.int .i32 O2)
   rw [WA,HF2.o]at h9;rw [HF2.o,List.take_succ_eq_append_getElem hjr,N7,<-HZ.o];exact h9
  ·exact Kept.setCell (Ae.trans' (xa.trans oo) (λ_ _ f=>f.elim)) _ _ (λ_=>rfl)
 case measure=>simp only [intOf];omega):G:=h
theorem afO (h:G:=by
 go_wp21
 go_loopw [56] (λt56 wr=>∃(j:Nat) (R:EF),j+R.len=kn/\mh κ R=r/\t56=.int .i64 j/\mc w0 N0 R b (off+j*4)/\EF.wG (adr cb κ w0) R/\al W wr) (λt56 _=>kn - (intOf t56).toNat)
 case atStart=>exact⟨0,F,by rw [HN.o,dT],OG.o,rfl,by simpa using HE.o,HI.o,ys⟩
 case round=>
  obtain⟨j,R,hj,bw,rfl,hR,hI,hx⟩:=hrel;have⟨mv,oD,HX,ca⟩:=J4' hR hI hx bw;clear hR hI hx bw
  cases R with
  |nil=>
   simp only [EF.len,eW]at hj;subst hj;have tE:r=none:=by rw [<-ca.o];rfl
   have Zu:=J tE;clear tE;go_wp21;go_end0;exact⟨by rw [mw.o,Zu.o];rfl,dS.o.trans HX.o⟩
  |cons rH m' name' q rr=>
   obtain⟨hb,h1,h2,h3,⟨A',cap,b',bL,hh,hg,hl,qK,hk⟩,hr⟩:=mv.o;simp only [EF.len]at hj;have aP:(j:Int)<kn:=by omega
   obtain rfl:=HA.o ad;have iO:=aF.trans (dS.o.trans HX.o);refine Ee ?_;intro qB jx hg' gB;have⟨KE,IK,IJ,qR⟩:=J4' (show me w0 N0 A' q.len q from⟨rfl,hl,b',bL,qK,hk⟩) oD.o.1 iO hr;clear hh hg hl qK hk h1 h2 h3 mv qB iO hr;go_wp21;have y0:al wr _:=dM wr (.cells (bJ rH m' name' A' q.len cap) 354);obtain⟨f,hf⟩:=nm' (A8 κ rH m' name' q);have HF:=J hf;have HK:=J (IK.o rH m' name' A' q.len cap N0 _ (IJ.o.trans y0) O8 KE.o);rw [<-hf]at HK;clear hf;refine HK.o.mono ?_;rintro e w1 ⟨he,aw⟩
   cases f with
   |none=>
    have he:=cK.none he;subst he;have wH:=J (show mh κ rr=r by have h:=ca.o;rw [sd,<-HF.o]at h;exact h);go_wp21;go_roundw
    case rel=>exact⟨j+1,rr,by omega,wH.o,by go_num,by rw [Nat.add_mul,<-gw];exact qR.o,oD.o.2,HX.o.trans (y0.trans aw)⟩
    case measure=>simp only [intOf];omega
   |some f=>
    have he:=cK.some he;subst he;have HRF:=J (show X=some f by have h:=ca.o;rw [sd,<-HF.o]at h;rw [mw.o,<-h];rfl);show _/\_;exact⟨rfl,by rw [HRF.o];exact⟨rfl,dS.o.trans (HX.o.trans (y0.trans aw))⟩⟩):G:=h
theorem afP (h:G:=by
 clear HTX;obtain⟨aq,nq,cq,m0,mo⟩:=(HMa.o).blk;have m1:=m0.lt;have m0:=bC m0;clear mo;go_wp21;obtain⟨LI,hsf,sb,so,hsA,hsE⟩:=HS.o;have aie:jm w N A F.len F:=⟨rfl,by rw [<-LI];exact hsf,sb,so,λh=>hsA (by rw [LI];exact h),hsE⟩;have oh:=(aie.kept HWX.o (by rw [ku.o];exact hN) (λ_ f=>f.elim)).kt HKa.o Mz Pq.o;subst LI;refine(Nh ⟨B,N,mb,p,c,b,wm,sm,em⟩ part F 0 (jO p b part) κ true A cap [] _ ⟨hbb.1,hbb.2,λs=>(OO.o s).1,λs=>(OO.o s).2⟩ L_.o HWz.o ad HMa.o oh HC.o hz (by have:=HL.o;show 0+(cB ⟨p.vars,p.aL,b⟩ F (jO p b part) 0 0).length<=4000;omega)).mono ?_;rintro e wb ⟨rfl,YP,yl⟩;have HMb:=J (show MS wb B N mb p c b wm sm em 0 (jO p b part) (cB ⟨p.vars,p.aL,b⟩ F (jO p b part) 0 0)from YP);have HKb:=J (HKa.o.trans (show KT B wm _ wb from yl));clear YP yl m0 m1 hsf hsA hsE oh aie;go_wp21;refine(qa B N mb wm sm em 0 p c b (jO p b part) (cB ⟨p.vars,p.aL,b⟩ F (jO p b part) 0 0) ⟨0,0,0,0⟩ ⟨abw,abw,abw,abw⟩ (by have:=HL.o;omega) _ HMb.o).mono ?_;rintro e wz ⟨rfl,EQ,TY⟩;have HKz:=J (HKb.o.trans TY);obtain⟨az,nz,cz,z0,zo⟩:=EQ.blk;have z1:=z0.lt;have z0:=bC z0;have lm:=J EQ.okL;have HZO:=J zo;clear EQ TY zo;go_wp21;go_ret;refine⟨az,nz,cz,?_,?_,?_,lm.o⟩
 ·rfl
 ·exact HWX.o.trans' (HKz.o.below) (λi hi e=>by have:=fX.o;have:=ku.o;omega)
 ·rw [ku.o,fX.o];exact HZO.o):G:=h
theorem akh (h:G:=by
 go_wp21;refine ajJ ?_;intro tV y5 hM5;go_wp21;refine PV Tryz.results50 rfl rfl jK zQ tV ⟨_,_,_,rfl,g,kc,?_,?_,y5⟩
 ·rw [<-Ul.o]
 ·rw [<-Ul.o];exact hM5):G:=h
theorem aki (h:G:=by
 go_wp21;refine ajJ ?_;intro tV y5 hM5;go_wp21;refine PV Tryz.results50 rfl rfl jK zQ tV ?_;exact FIN.o _ tV hM5 y5):G:=h
theorem akj (h:G:=by
 rw [e6]at hb6;clear e6 eV jq;have HB6:=J hb6;have FJ:=J (Kept.trans (Kept.ext (S:=(·=g)) yd) yj);clear hb6 yj yd;refine CN aV (λK hK=>?_);refine BI rfl ?_;refine Lib.wp_copy_run _ _ _ _ _ rfl _ _ rfl rfl (T5 _) ?_;refine hK.out _ _ ?_;clear hK K T5;refine fx ?_;have YS:=bK OM.o FJ.o uG;have T5:=bK (bK uy.o uz.o (by have:=Zv.o;omega)) FJ.o (by have:=Zv.o;omega);have l1:=bH YS;have l2:=bG YS;have l3:=YS.lt;have l4:=bH T5;have l5:=ai.aC T5;have l6:=T5.lt;have HR6:=J T5;have qT:=J YS;clear T5 YS;go_wp21;have kp:Kept (·=rb) w6 (putAt w6 rb 0 #[.int .i64 0,.slice (some ⟨g,0,none⟩) (bR p) (bR p),.int .i64 0]):=Kept.putAt (kR _ _) _ 0 _ (λ_=>rfl);refine di (t:=47) (g:=rb) (cs:=ae 0 (some ⟨g,0,none⟩) (bR p) (bR p) 0) Tryz.results46 rfl rfl jK zQ (by exact ai.cw HR6.o 0 _) ⟨?_,.ok HF0.o g rV.o (bK HB6.o kp (by have:=Zv.o;omega))⟩;exact((cC.o.trans fp.o).trans lp.o).trans' (((uz.o.trans FJ.o).mono (S':=λi=>i=g∨i=rb) (λ_ _ e=>Or.inl e)).trans' kp (λi hi e=>Or.inr e)) (λi hi e=>by have h1:=wW.o;have h2:=rV.o;omega)):G:=h
theorem akk (h:G:=by
 refine HK.o.mono ?_;rintro e w2 ⟨hb,eV⟩;have gf:=J (HX.o.trans ((Kept.ext cC.o).trans eV));clear eV HK
 cases v with
 |none=>
  obtain⟨he,hc2⟩:=hb;subst he;have IC:=J hc2;have wH:=J (show cH i Lp aO _ r=Z from ca.o);clear hc2;go_wp21;go_roundw
  case rel=>exact⟨m+1,r,by omega,wH.o,by go_num,by rw [Nat.add_mul,<-gw];exact qR.o,FI.o.2.2,IC.o,gf.o⟩
  case measure=>simp only [intOf];omega
 |some f=>
  obtain⟨he,mm,kk,gx,pJ⟩:=hb;subst he;have⟨HZF,oQ,nQ⟩:=J3' (show Z=some f from ca.o.symm) gx pJ;have VG:=bC (bK H4B.o gf.o mS.o.1) 0;have qC:=bC (bK H7B.o gf.o mS.o.2) 0;clear gx pJ c4 l4;refine leaves_cons (f:=319) (args:=#[.pointer (some ⟨p4+1,0,none⟩),.pointer (some ⟨p4,0,none⟩)]) aB (by simp [go_sem]) ?_;refine(Bo (p4+1) p4 cb g B j bc ns mm (bV i) kk (.panicking (SX f)) p4 _ qC VG nQ.o oQ.o (wI.o _ gf.o)).mono ?_;rintro e u' w3 ⟨rfl,rfl,xf,jq⟩;refine⟨?_,ZA.o.trans (gf.o.trans (jq.mono λ_ _ h=>Or.inl h))⟩;rw [HZF.o];exact⟨rfl,_,_,xf,bK nQ.o jq LR.o.ne⟩):G:=h
theorem akl (h:G:=by
 go_wp21;refine(sS b _ _ adC.o).mono ?_;rintro e w' ⟨rfl,rfl⟩;go_wp21;refine(nK b c _ _ _ adC.o HV.o age.o HP.o).mono ?_;rintro e w' ⟨rfl,rfl⟩;go_wp21;refine(ML b c _ F s hf oQ.o hf1 (by have:=HFs.o;omega) (by have:=HFs.o;omega) Da Dz C Dm L _ _ _ _ ⟨HBC.o,adC.o,HV.o,age.o,HP.o,by have:=HTi.o;have:=HW.o;show M3 (T+t.window)=true;simp [M3];omega,rfl,Int.le_refl _,by have:=HW.o;exact⟨this.1,by show t.window<=1048576;omega⟩⟩).mono ?_;rintro e wd ⟨rfl,htd,had,hkd⟩;have HAD:=J had;clear had;go_wp21;go_roundw
 case rel=>
  refine⟨alE.o.trans hkd,.inl ?_⟩;have hti:=HTi.o;have hwi:=HW.o;have hA:=HAD.o
  split at hA
  ·refine⟨i+1,F,hf,T+t.window+t.window,aP,by go_num,HHF.o,by have:=HFs.o;have:=oQ.o;omega,by omega,by push_cast;omega,htd,?_⟩
   rw [<-HDa.o,<-HDm.o];exact hA
  ·refine⟨i+1,F+hf,hf,T+t.window+t.window,aP,by go_num,HHF.o,by have:=HFs.o;have:=oQ.o;omega,by omega,by push_cast;omega,htd,?_⟩
   rw [<-HDm.o,show F+hf+hf=F+s by have:=oQ.o;omega,<-HDz.o];exact hA
 case measure=>simp only [intOf];omega):G:=h
theorem akm (h:G:=by
 refine hK.out _ _ (bX (w:=w.drew) ht hx) (λoS=>?_);clear hK K;have Jw:=bH oS;have EP:=ai.aC oS;have hc1:=bC oS;have hf1:=ai.frozen oS
 (repeat (refine rT (λK hK=>?_);go_simp;refine hK.out _ _ oS (λ_=>?_);clear hK K))
 (refine C0 aV (λK hK=>?_);go_simp)
 refine hK.out _ _ ?_;clear hK K;refine wi ?_
 go_wp2
 go_ret;refine⟨rfl,?_,?_⟩
 ·(apply At.of;(· (repeat' (with_reducible (first|assumption|apply ai.eK|apply ai.cw|apply ai.alloc|apply ai.drew|apply ai.drewN))));(· kernel_rfl))
 ·refine Kept.trans' (w:=w') (S':=(·=b)) (Kept.ext (Kept.trans (w:=w.drew) ?_ hx)) ?_ (λ_ _ h=>h)
  ·((repeat' (with_reducible (first|apply Kept.drew|apply Kept.drewN|apply Kept.alloc|apply Kept.setCell|apply Kept.putAt|exact kR _ _)))<;>(intro aP;first|rfl|(simp at aP;done)|(exfalso;simp at aP;omega)|omega))
  ·((repeat' (with_reducible (first|apply Kept.drew|apply Kept.drewN|apply Kept.alloc|apply Kept.setCell|apply Kept.putAt|exact kR _ _)))<;>(intro aP;first|rfl|(simp at aP;done)|(exfalso;simp at aP;omega)|omega))):G:=h
theorem C' (h:G:=by
 rw [<-ht];have HT:=J ht;clear ht;refine fx ?_;have qL:oF (w2.setCell ⟨g,a,none⟩ (.int .i32 (t))).drew s 47 pc (some ⟨g,0,none⟩) n kc 0:=ai.kV gx (p:=⟨g,a,none⟩) nT (.int .i32 (t));have xf:eg (w2.setCell ⟨g,a,none⟩ (.int .i32 (t))).drew base g n kc (m.set a (t)):=(eN.set a dJ (t)).ext ((kR _ _).drew);have jq:Kept (λi=>i=s∨i=g) w (w2.setCell ⟨g,a,none⟩ (.int .i32 (t))).drew:=(Kept.setCell (Kept.ext x2) _ _ (λ_=>.inr rfl)).drew;generalize (w2.setCell ⟨g,a,none⟩ (.int .i32 (t))).drew=W3 at qL xf jq⊢;have amq:=bC qL;have amu:=ai.frozen qL;go_wp21;go_end0;refine⟨rfl,?_⟩;rw [HE.o,<-HT.o];exact Stepped.goal jq qL xf nT _):G:=h
theorem aks (h:G:=by
 refine fx ?_;have dK:oF W.drew s 47 pc (some ⟨g,off,none⟩) k kc halt:=kB;have hc1:=bC dK;have hq1:-2147483648<=q:=by rw [HQ.o];omega
 have T4:q<=2147483903:=by rw [HQ.o];omega
 clear om pK
 by_cases h1:(k:Int)<=q
 ·have b1:decide ((k:Int)<=q)=true:=by simpa using h1
  go_wp21;go_ret;exact⟨bB (by unfold uj;rw [af ad]),aF.drew⟩
 ·have b1:decide ((k:Int)<=q)=false:=by simpa using h1
  go_wp21;go_ret;refine⟨bB ?_,aF.drew⟩;unfold uj
  by_cases h0:0<=q
  ·rw [ak ⟨h0,by omega⟩,Int.max_eq_left ad]
  ·rw [af ad,Int.max_eq_right ad]):G:=h
theorem aku (h:G:=by
 obtain⟨xn,xs,xl,xh⟩:=x
 by_cases hq:xh<xl
 ·have hqg:xl>xh:=hq
  go_wp2_with fail;go_ret;have tY:p.params.any (λv=>decide (v.high<v.low))=true:=List.any_eq_true.2 ⟨p.params[j],ed d_,by rw [<-gZ.o];exact cJ hq⟩;refine⟨?_,dS.o.trans (HX.o.trans y0.o)⟩;rw [Ii.o];unfold mL;rw [tY]
  rfl
 ·have hqg:¬xl>xh:=hq
  go_wp2_with fail;have T4:decide (xh<xl)=false:=cT hq;exact⟨⟨j+1,aP,by go_num,by rw [lq,List.getElem?_eq_getElem d_,<-gZ.o,List.any_append,ca.o];simp [T4],HX.o.trans y0.o⟩,by simp only [intOf];omega⟩):G:=h
theorem akv (h:G:=by
 obtain⟨A',uB,rfl⟩:=oy D5;have Uh:=J D5;have LV:=J (show al W wa from((uH.o.trans ZD.o).trans y1).trans' Pm (λi hi e=>by have:=((aI (aI HOJ.o ZD.o) y1).lt i e).1;omega));clear D5 Pm y1 og;go_step
 iterate 3 refine kE ?_
 refine cj rfl (.tmp 37) (.tmp 39) 40 rfl rfl rfl rfl Pw ?_;clear Pw;go_wp2_with fail;go_roundw
 case rel=>exact⟨j+1,⟨A',s.n+1,uB⟩,by omega,by go_num,rfl,by show wa.ownsRow _ _ _ _ _ (bj ((List.range (j+1)).map _));rw [ul,ZC.o];exact Uh.o,LV.o⟩
 case measure=>simp only [intOf];omega):G:=h
theorem akx (h:G:=by
 obtain⟨A',uB,rfl⟩:=oy D5;have Uh:=J D5;have LV:=J (show al wc wa from(Lu.o.trans y1).trans' Pm (λi hi e=>by have:=((aI HOQ.o y1).lt i e).1;omega));clear D5 Pm y1 og;go_step
 iterate 3 refine kE ?_
 refine cj rfl (.tmp 87) (.tmp 89) 40 rfl rfl rfl rfl Pw ?_;clear Pw;go_wp21;go_roundw
 case rel=>exact⟨i+1,by omega,by go_num,⟨A',q.n+1,uB⟩,⟨rfl,rfl,rfl⟩,by show wa.ownsRow _ _ _ _ _ (bj ((List.range (i+1)).map _));rw [ul,ZC.o];exact Uh.o,LV.o⟩
 case measure=>simp only [intOf];omega):G:=h
theorem aky (h:G:=by
 obtain⟨A',uB,rfl⟩:=oy D5;have Uh:=J D5;have LV:=J (show al wc wa from(qu.o.trans y1).trans' Pm (λi hi e=>by have:=((aI LZ.o y1).lt i e).1;omega));clear D5 Pm y1 og;go_step
 iterate 3 refine kE ?_
 refine cj rfl (.tmp 87) (.tmp 89) 40 rfl rfl rfl rfl Pw ?_;clear Pw;go_wp2_with fail;go_roundw
 case rel=>exact⟨i+1,⟨A',q.n+1,uB⟩,by omega,by go_num,rfl,by show wa.ownsRow _ _ _ _ _ (bj ((List.range (i+1)).map _));rw [ul,ZC.o];exact Uh.o,LV.o⟩
 case measure=>simp only [intOf];omega):G:=h
theorem akA (h:G:=by
 have HR:=J (show X=none by rw [eU.o,mJ];rfl);refine C9 ?_;intro K hK
 try rw [Kd]
 refine(aW true _ _ _).mono ?_;rintro e w1 ⟨he,rfl⟩;have he:=cK.none he;subst he;refine hK.out _ _ ?_;clear hK K;refine fx ?_;have ahr:=bC (bX l0.o (fL.o.trans qU.o));have ahK:=(bX l0.o (fL.o.trans qU.o)).lt;go_wp21;go_end0;exact⟨by rw [HR.o];rfl,HX.o⟩):G:=h
theorem akB (h:G:=by
 rintro e w5 ⟨rfl,hm5,ss⟩;rw [<-HSC.o]at hm5;refine hK.out _ _ (λ_=>⟨yd.trans ss,_,hm5⟩) ?_;clear hK K;refine fx ?_;have Ig:=J hm5;have uz:=J (Zm.o.trans (cC.o.trans (yd.trans ss)));clear hm5 ss yd;go_wp21;go_roundw
 case rel=>exact⟨m+1,r,Lm++SC,by omega,qQ.o,ZE.o,HZK.o,by go_num,by rw [Nat.add_mul,<-gw];exact HRN.o,OB.o,Ig.o,zU.o,uz.o⟩
 case measure=>simp only [intOf];omega):G:=h
theorem akC (h:G:=by
 rintro e w2 ⟨e2,bd⟩;replace e2:e=.returned (.int .i64 F):=by rw [e2,HF.o]
 subst e2;have x2:=x1.trans bd;have ki:=bX dO bd;have gx:=bX dK bd;have eN:=eR.ext bd;clear dO dK eR x1 bd ma mI;have wM:=bC ki;have jL:=bC gx;have zF:=ai.frozen gx;have lI:=ki.lt;have lS:=gx.lt;go_wp21;refine jA Tryz.results115 rfl ⟨rfl,?_⟩;exact Stepped.halt (Kept.ext x2) gx eN nT _):G:=h
theorem afQ (h:G:=by
 have hi:i<(es.toList.map (·.key)).length:=by rw [gu];exact(List.getElem?_eq_some_iff.1 hx).1
 have VE:j<(es.toList.map (·.key)).length:=by rw [gu];exact(List.getElem?_eq_some_iff.1 h2).1
 refine(List.getElem_inj hn (h₀:=hi) (h₁:=VE)).1 ?_;have e1:=(List.getElem?_eq_some_iff.1 hx).2;have e2:=(List.getElem?_eq_some_iff.1 h2).2;rw [List.getElem_map,List.getElem_map,e1,e2,iP,h3]):G:=h
theorem Yj (h:G:=by
 refine leaves_cons (f:=190) (args:=#[.pointer (some ⟨rb,0,none⟩)]) aB (by simp [go_sem]) ?_;refine(zz rb _ _ (bK wW.o je.o mS.o.2)).mono ?_;rintro e u' w9 ⟨rfl,hu,Jt,yk⟩;show Leaves _ _ _ _ _ _ _;rw [hu];refine⟨_,results_cell_row Tryz.results136 _ _ rb _ _ _ _ rfl Jt Tryz.underlying225 rfl qi,?_⟩;rw [HR.o];exact⟨rfl,ags.o _ _ je.o yk⟩):G:=h
theorem akE (h:G:=by
 go_enter Tryz.func128,Tryz.ntmps128;go_upto_region 1 with(fail);go_step
 iterate 4 refine kE ?_
 refine ia rfl _ _ 89 rfl rfl rfl ET ?_;clear ET
 iterate 1 refine kE ?_
 refine cj rfl (.tmp 9) (.tmp 10) 89 rfl rfl rfl rfl iV ?_;clear iV;go_wp21;go_ret;rw [dT,qx]at mq;exact⟨_,rfl,mq,aw.trans' eV (λi hi e=>by simp [Value.ownBlock]at e;omega)⟩):G:=h
theorem afR (h:G:=by
 go_upto_region 13 with(fail);clear i1 i2 i3 i4 i5;go_wp21;refine(eM nb m 0 _ DE.o ad BM.o).mono ?_;rintro e wf ⟨rfl,bf,kf⟩;go_wp21;go_ret;refine⟨congrArg (λz:Nat=>Ending.returned (.int .i64 z)) (by first|exact AC.o|(rw [eW];exact AC.o)),?_⟩;exact(T8.trans Y3.o).trans' (KM.o.trans kf) (λi hi e=>by have:=Uf.o.2;omega)):G:=h
theorem akF (h:G:=by
 rw [qn]at eU;clear hvI;refine C9 ?_;intro K hK
 try rw [Kd]
 refine(aW false _ _ _).mono ?_;rintro e w1 ⟨he,rfl⟩;have he:e=.panicked (SX ⟨11,s⟩):=he;subst he;have HR:=J (show X=some ⟨11,s⟩by rw [eU.o];rfl);show _/\_;exact⟨rfl,by rw [HR.o];exact⟨rfl,dS.o.trans (fL.o.trans qU.o)⟩⟩):G:=h
theorem abK (h:G:=by
 go_wp21;refine(KB xk abx).mono ?_;rintro e w6 ⟨rfl,tD,yj⟩;have y6:al w w6:=y5.trans' yj (λj hj e=>by have:=rV.o j e;omega);have D4:=eI tD (show w.heap.size<=W2.heap.size by omega);clear yj tD xk;go_wp21
 go_ret2
 refine⟨v3,by rw [HRS.o,HMW.o];rfl,?_,y6⟩;rw [HRS.o,HMP.o]
 simpa [nH]using D4):G:=h
theorem akH (h:G:=by
 obtain⟨es,clock,hb,_,_,_,h1|⟨j,e,h1,_,_,h4⟩⟩:=h.find s
 ·simp [Instr.lookup,run_underlying hu,MapKept.run_getObj_map hb,MapKept.run_checkKey hk (mK s),MapKept.run_findKey hk h1.1,hz,Result.andThen,h1.2.1]
 ·simp [Instr.lookup,run_underlying hu,MapKept.run_getObj_map hb,MapKept.run_checkKey hk (mK s),MapKept.run_findKey hk h1,Result.andThen,h4]):G:=h
theorem akJ (h:G:=by
 obtain⟨es,clock,hb,_,_,_,h1|⟨j,e,h1,_,_,h4⟩⟩:=h.find s
 ·simp [Instr.lookup,run_underlying hu,MapKept.run_getObj_map hb,MapKept.run_checkKey hk (pZ s),MapKept.run_findKey hk h1.1,hz,Result.andThen,h1.2.1]
 ·simp [Instr.lookup,run_underlying hu,MapKept.run_getObj_map hb,MapKept.run_checkKey hk (pZ s),MapKept.run_findKey hk h1,Result.andThen,h4]):G:=h
theorem afS (h:G:=by
 have HQ:=J hq;clear hq;go_wp2_with fail;go_roundw
 case rel=>exact⟨j+1,aP,by go_num,by
  intro v hv;rw [lq,List.getElem?_eq_getElem d_,<-HX.o]at hv;simp only [Option.toList_some,lr,List.mem_singleton]at hv
  rcases hv with hv|rfl
  ·exact AA.o v hv
  ·exact HQ.o,by trivial⟩
 case measure=>simp only [intOf];omega):G:=h
theorem akK (h:G:=by
 rintro e w1 ⟨e1,aw⟩;replace e1:e=.returned (.agg D.cells):=by rw [e1,HD.o];simp [Ws.same,H0.o]
 subst e1;have g_:=bX fz aw;have Jw:=bH g_;have EP:=ai.aC g_;go_wp21;refine bu Tryz.results185 rfl rfl dU kH (ai.cw g_ _ _) ⟨rfl,?_⟩;exact Kept.putAt (aF.trans aw) _ _ _ (λh=>by omega)):G:=h
theorem akM (h:G:=by
 go_wp21;refine(eM nb z 0 _ DE.o ad BF.o).mono ?_;rintro e wf ⟨rfl,bf,kf⟩;go_wp21;go_ret;refine⟨congrArg (λz:Nat=>Ending.returned (.int .i64 z)) (by first|exact AC.o|(rw [eW];exact AC.o)),?_⟩;exact(T8.trans Y3.o).trans' (KF.o.trans kf) (λi hi e=>by have:=Uf.o.2;omega)):G:=h
theorem afV (h:G:=by
 have HFA:=J (show wr.ownsRow w.heap.size 21 1 q.v q.n (bj (fC p part A))from by unfold fC;rw [HGV.o];exact eI LZ.o (ax dS.o.size YB.o.size));have alu:=J (aI FN.o qu.o);go_wp21
 go_ret2
 exact⟨s,q,rfl,alu.o,HFA.o,dS.o.trans (YB.o.trans qu.o)⟩):G:=h
theorem akO (h:G:=by
 rw [af (show¬t=0 by omega),af (show¬t=1 by omega),af (show¬t=2 by omega),af (show¬t=3 by omega),af (show¬t=4 by omega),af (show¬t=5 by omega),af (show¬t=6 by omega),af (show¬t=7 by omega),af (show¬t=8 by omega),af (show¬t=9 by omega)]):G:=h
theorem akP (h:G:=by
 have HR:=J (show X=some ⟨6,s⟩by rw [eU.o,qv];rfl);rw [qv];refine(aW false _ _ _).mono ?_;rintro e w1 ⟨he,rfl⟩;have he:e=.panicked (SX ⟨6,s⟩):=he;subst he;show _/\_;exact⟨rfl,by rw [HR.o];exact⟨rfl,dS.o.trans (fp.o.trans eE.o)⟩⟩):G:=h
theorem akQ (h:G:=by
 have yv:cf i h (0+1)=cf i h 0:=jU (.inl (by rw [HGD.o];exact zI));have II:=J yv;clear zI yv;go_wp21
 go_roundg (h.length - (0+1))
 case measure=>have:=Zk.o;omega
 case rel=>exact⟨0+1,rfl,aP,xj,by rw [II.o];exact oL,Vc,Rj,yn⟩):G:=h
theorem akR (h:G:=by
 have yv:cf i h (1+1)=cf i h 1:=jU (.inl (by rw [HGD.o];exact zI));have II:=J yv;clear zI yv;go_wp21
 go_roundg (h.length - (1+1))
 case measure=>have:=Zk.o;omega
 case rel=>exact⟨1+1,rfl,aP,xj,by rw [II.o];exact oL,Vc,Rj,yn⟩):G:=h
theorem akS (h:G:=by
 go_wp21;refine di (t:=47) (g:=pb) (cs:=ae 0 none 0 0 0) Tryz.results37 rfl rfl jK zQ (by exact ai.cw HP8.o 0 _) ?_;rw [zZ.o];exact⟨0,none,0,0,0,rfl,HPW.o _,λh=>absurd h ap,λ_=>⟨rfl,rfl,rfl,rfl,rfl⟩⟩):G:=h
theorem akU (h:G:=by
 (refine dG aV aV (λK hK=>?_);go_simp)
 refine(aW false _ _ _).mono ?_;rintro e w1 ⟨he,rfl⟩;have he:e=.panicked (SX ⟨3,E0⟩):=he;subst he;show _/\_;exact⟨rfl,by rw [HR.o];exact⟨rfl,dS.o.trans cC.o⟩⟩):G:=h
theorem akV (h:G:=by
 show IntKind.i64.wrap ((BitVec.ofInt 64 (-1)^^^BitVec.ofInt 64 n).toNat:Int)=_;have h1:BitVec.ofInt 64 (-1)=BitVec.allOnes 64:=by decide
 rw [h1,BitVec.allOnes_xor,BitVec.toNat_not,BitVec.toNat_ofInt];simp [IntKind.wrap,IntKind.bits,IntKind.signed]
 omega):G:=h
theorem akX (h:G:=by
 rintro e w5 ⟨rfl,b5,k5⟩;go_wp21;go_ret;refine⟨congrArg (λz:Nat=>Ending.returned (.int .i64 z)) (by rw [Qp.o];exact iB (eJ _)),?_⟩;exact(y1.trans Y3.o).trans' (k4.trans k5) (λi hi e=>by have:=It;omega)):G:=h
theorem abM (h:G:=by
 have l1:=bC HB.o;have l2:=HB.o.lt
 have hF0:F=0:=by
  rw [HF.o];unfold jg;rw [af ad,af hok,af ad]
 have HF0:=J hF0;clear hF0 hok;go_wp21;go_ret;exact⟨bB HF0.o.symm,HY.o⟩):G:=h
theorem afW (h:G:=by
 go_wp21;go_roundw
 case rel=>exact⟨j+1,aP,by go_num,λi hi h=>by
  by_cases e:i=j
  ·subst e;exact lm.o
  ·exact H1.o i hi ad,λh0 _=>H2.o h0 ad,by trivial⟩
 case measure=>simp only [intOf];omega):G:=h
theorem akY (h:G:=by
 have hln:(cu xs).length=n:=by rw [dR,hl]
 refine⟨?_,?_,(Array.getElem?_eq_some_iff.1 hc).1⟩
 ·unfold has;rw [hc,hln];simp;omega
 ·unfold gets;rw [hc,hln];simp only [re];rw [Nat.mul_one]at mX;rw [mX]):G:=h
theorem akZ (h:G:=by
 go_wp21;refine di Tryz.results118 rfl rfl n6 (by exact lV) (ai.cw tV _ _) ⟨?_,?_⟩
 ·have e1:=HM.o
  have e2:=Uc.o;subst e1;subst e2
  rfl
 ·exact Kept.putAt y5 _ _ _ (λh=>by omega)):G:=h
theorem Tq (h:G:=by
 refine(aW false _ _ _).mono ?_;rintro e w8 ⟨he,rfl⟩;have he:=cK.some he;subst he;show _/\_;refine⟨rfl,?_,gZ.o⟩;rw [HR.o];exact⟨rfl,_,_,(LR.o.ext gZ.o).map,(LR.o.ext gZ.o).blk⟩):G:=h
theorem alb (h:G:=by
 have HE:=J e;subst hq;clear e;go_wp21;refine di Tryz.results159 rfl rfl uY (by exact rO) (ai.cw g_ _ _) ⟨by rw [HE.o];rfl,?_⟩;exact Kept.putAt (aF.trans y1) _ _ _ (λh=>by omega)):G:=h
theorem ale (h:G:=by
 subst hF
 rcases ho.2 with⟨hv,_⟩|⟨g,c,cV,hv,_⟩
 ·exact⟨none,0,by rw [hv],hn,hf,0,0,λq=>by omega,trivial⟩
 ·exact⟨some ⟨g,0,none⟩,c,by rw [hv],hn,hf,0,0,λq=>by omega,trivial⟩):G:=h
theorem afX (h:G:=by
 rw [List.any_append]
 by_cases h:t=x
 ·subst h;simp
 ·have:¬x=t:=λe=>h e.symm
  have h2:decide (x=t)=false:=cT this;simp only [List.any_cons,List.any_nil,h2,Bool.or_false];rw [af h]):G:=h
theorem alf (h:G:=by
 refine(aW true _ _ _).mono ?_;rintro e w1 ⟨he,rfl⟩;have he:=cK.none he;subst he;refine hK.out _ _ ?_;clear hK K;refine fx ?_;go_wp21;go_end0;exact⟨by rw [HR.o];rfl,HX.o⟩):G:=h
theorem Ym (h:G:=by
 have hq:=Di.o;exact(y1.trans Y3.o).trans' ((Dh.o.mono (λ_ _ e=>Or.inr e)).trans (Kept.putAt (S:=λi=>i=p4+1∨i=p4+2) (kR _ _) _ 0 _ (λ_=>Or.inl rfl))) (λi hi e=>by omega)):G:=h
theorem alg (h:G:=by
 go_wp21;exact bu Tryz.results216 rfl rfl eL (by exact gH) (ai.cw dW 0 _) ⟨rfl,(dS.o.trans cy.o).putAt _ _ _ (λaP=>absurd aP K8)⟩):G:=h
theorem acM (h:G:=by
 by_cases hw:Region.wanted (l.getD k nop) (yielded l.toArray a.tmps)=true
 ·rw [ak hw]at h;simp only [ak hw];exact h
 ·rw [af hw]at h;simp only [af hw];exact⟨.inr id,h⟩):G:=h
theorem Qd (h:G:=by
 have hp':a.tmps[p]?.getD undef=.pointer (some ⟨g,0,none⟩):=by simpa using hp
 exact bodyPost_ret (by simp [results,D6,hp',asAddr,mu ha hs hb]) hd hR):G:=h
theorem qH (h:G:=by
 refine(aW false _ _ _).mono ?_;rintro e w1 ⟨he,rfl⟩;have he:=cK.some he;subst he;show _/\_;exact⟨rfl,by rw [HR.o];exact⟨rfl,HX.o⟩⟩):G:=h
theorem zp (h:G:=by
 have amq:=bC qL;have amu:=ai.frozen qL;go_wp21;go_end0;refine⟨rfl,?_⟩;rw [HE.o];exact Stepped.goal jq qL xf nT _):G:=h
theorem Lg (h:G:=by
 have HF1:=J Ra;clear e2 Ra;have l1:=bC HB.o;have l2:=HB.o.lt;go_wp21;go_ret;exact⟨bB HF1.o.symm,HY.o⟩):G:=h
theorem Yb (h:G:=by
 go_enter Tryz.func235,Tryz.ntmps235;go_wp21;refine di Tryz.results235 rfl rfl dU kH fz ⟨rfl,aF⟩):G:=h
theorem Yc (h:G:=by
 go_wp21;refine(Wf _ _).mono ?_;rintro e w1 ⟨rfl,rfl⟩;rw [HH.o];go_wp21;go_ret;exact⟨rfl,aF⟩):G:=h
theorem Qe (h:G:=by
 go_wp21;refine(jW _ _).mono ?_;rintro e w1 ⟨rfl,rfl⟩;go_wp21;go_ret;exact⟨rfl,rfl⟩):G:=h
theorem ajY (h:G:=by
 refine Ph k ok hk hki ?_ Dr
 by_cases hjk:j=k
 ·subst hjk;exact aaf
 ·rw [getD_set_ne true hjk]at hun;exact hun):G:=h
theorem Yd (h:G:=by
 rintro e w2 ⟨rfl,h1,h2,h3⟩;go_wp21;go_ret;exact⟨rfl,h1,h2,(Kept.ext HY.o).trans h3⟩):G:=h
theorem Qf (h:G:=by
 unfold fP;refine ax (List.takeWhile_sublist _).length_le ?_;rw [mz]
 omega):G:=h
theorem Qg (h:G:=by
 rcases(by omega:i=0∨i=1∨i=2∨i=3∨i=4)with rfl|rfl|rfl|rfl|rfl<;>rfl):G:=h
theorem Lh (h:G:=by
 have HF1:=J Ra;clear e1 Ra;go_wp21;go_ret;exact⟨bB HF1.o.symm,HY.o⟩):G:=h
theorem Qh (h:G:=by
 have OK:=J ok;clear ok;go_wp21;go_ret;exact⟨aR (SP.o OK.o).symm,y3⟩):G:=h
theorem Qi (h:G:=by
 go_enter Tryz.func309,Tryz.ntmps309
 go_wp2
 go_ret;exact⟨bB (by simp [rotl]),rfl⟩):G:=h
theorem Li (h:G:=by
 rw [HF.o];unfold jg;rw [af ad,ak (Or.inl (by rw [hw];omega))]):G:=h
theorem Lj (h:G:=by
 rw [HF.o];unfold jg;rw [af ad,ak (Or.inr (by rw [hw];omega))]):G:=h
theorem wy (h:G:=by
 go_ret3
 obtain⟨v1,v2,v3⟩:=VV.o;exact⟨by rw [v1,v2,v3];rfl,rfl⟩):G:=h
theorem Lk (h:G:=by
 go_wp21;go_ret;exact⟨bB (by simp [gI,H0.o]),rfl⟩):G:=h
theorem Ll (h:G:=by
 simp only [if_true];exact HL6.o.kept fu (λi e=>by omega)):G:=h
theorem acN (h:G:=by
 have aij:qF=ws.length:=by simpa using Gn.len
 have⟨HWN,Qq,HWI,HWC,HO7,abO⟩:=J6' aij Gn hwi aeE MK JG;clear aij Gn hwi aeE MK JG;have i1:=bC Ri;have i4:=Ri.lt;go_wp21;have l7:=OV CI qF Dw (ws.map (f_ m)) W7 Qq.o ad;rw [JY]at l7;refine l7.mono ?_;rintro e w8 ⟨v8,rfl,VP,oo⟩;have wV:=J VP;clear VP l7;go_wp21;refine(EB wV.o (aI HO7.o oo) (by have:=HWN.o;omega)).mono ?_;rintro e w9 ⟨rfl,tF⟩;have MQ:=oo.trans tF;have hS9:=bX Ri MQ;have hR9:=bX TM MQ;have YI:=bX Rh MQ;have acj:=abO.o.ext MQ;have ail:=Qq.o.ext MQ;have xr9:=xr7.trans MQ;have agu:=J acj;have alS:=J ail;clear i1 i4 Ri TM Rh abO acj ail Qq HO7 wV oo tF MQ xr7;have i1:=bC hS9;have i4:=hS9.lt;go_wp21;clear i1
 go_loopw [92] (λt92 wr=>∃(j2:Nat),j2<=qF/\t92=.int .i64 j2/\al w9 wr) (λt92 _=>qF - (intOf t92).toNat)
 case atStart=>exact⟨0,by omega,rfl,kR _ _⟩
 case round=>
  obtain⟨j2,hj2,rfl,YW⟩:=hrel
  by_cases JB:j2<qF
  ·obtain⟨It,b,off,ds,q1,q2,_,q4⟩:=alS.o
   have anV:(j2:Int)<qF:=by omega
   have hjr:j2<ws.length:=by have:=HWN.o;omega
   have d_:j2<(ws.map (f_ m)).length:=by simpa using hjr
   have VF:j2<ds.length:=by rw [q4.len];exact d_
   obtain rfl:=q1 ad;have aE:=(q2 ad).ext YW;obtain⟨VY,LF⟩:=aE.wd j2 VF;have qB:=aE.lt;have ud:=(q4.get j2 VF d_).ext YW;rw [List.getElem_map]at ud;obtain⟨d,Vw⟩:=nm' (ds[j2]);obtain⟨z,hz⟩:=nm' (ws[j2]);rw [<-Vw]at LF ud;rw [<-hz]at ud;obtain⟨hz0,hz1⟩:=HWI.o z (by rw [hz];exact ed hjr);have Ur:=J ud;clear It q1 q2 q4 aE Vw ud hz;go_upto_region 25 with(fail);have xa:al wr _:=dM wr (.cells d.cells 271);have YL:=bN wr 271 d.cells;have hSt:=bX (bX hS9 YW) xa;have V7:=Ur.o.ext xa;have Us:=J V7;generalize (wr.alloc (.cells d.cells 271))=Wt at xa YL hSt Us⊢;clear V7 VY LF Ur;generalize (wr:World).heap.size=wb at YL⊢;have i1:=bH YL;have i2:=bG YL;have V5:=Fq d (f_ m z) sb ⟨x,0,k,M,i,Dt,Ap,Du,Ea,vR,Dv,some ⟨b,off,none⟩,qF,Dw⟩ k rfl k1 k2 Wt hSt Us.o (by rw [show(f_ m z).path=h_ (m.map dx) (iM m.length) z.toNat from rfl,jS,HK.o]) (by rw [HMM.o];exact Cy hz0 Td Td);have Zx:=J V5;clear V5;go_wp21;refine Zx.o.mono ?_;rintro e wu ⟨rfl,hxu⟩;clear Zx i1 i2 YL hSt;go_wp21;go_roundw
   case rel=>exact⟨j2+1,JB,by go_num,(YW.trans xa).trans hxu⟩
   case measure=>simp only [intOf];omega
  ·have anS:¬(j2:Int)<qF:=by omega
   have hSt:=bX hS9 YW;have hRt:=bX hR9 YW;have hPt:=bX YI YW;have dw:=E8 (some ⟨gc,0,none⟩) gc 0 n n c' x 0 gm 0 k k m' wr (agu.o.ext YW);have dz:jB c' x 0 m'=(p,hh,pM wx v m'):=by unfold jB;rw [ak rfl];exact oQ.o
   rw [dz]at dw;have agx:=J dw;have i1:=bH hPt;have i2:=bG hPt;clear dw dz;go_wp21;refine agx.o.mono ?_;rintro e wv ⟨vv,rfl,g2,c2,rfl,hmv,qY⟩;simp only [ae];have hSv:=bX hSt qY;have hRv:=bX hRt qY;have xrv:=(xr9.trans YW).trans qY;clear agx i1 i2 hSt hRt hPt;go_upto_region 29 with(fail);have xs:al wv _:=dM wv (.cells (ae p (some ⟨g2,0,none⟩) k c2 hh) 47);have hQ:=bN wv 47 (ae p (some ⟨g2,0,none⟩) k c2 hh);have hSw:=bX hSv xs;have hRw:=bX hRv xs;have yo:=hmv.ext xs;have xrw:=xrv.trans xs;generalize (wv.alloc (.cells (ae p (some ⟨g2,0,none⟩) k c2 hh) 47))=Ww at xs hQ hSw hRw yo xrw⊢;have Pj:wr.heap.size<=g2:=yo.ge;have oh:sb+1<wr.heap.size:=(bX hR9 YW).lt;generalize (wv:World).heap.size=p2 at hQ⊢;clear hSv hRv hmv xrv xs;have i2:=bH hSw;have i3:=bG hSw;have i4':=hSw.lt;go_upto_region 30 with(fail);have xm:al Ww _:=dM Ww (.cells M.cells 25);have hMb:=bN Ww 25 M.cells;have hSm:=bX hSw xm;have hRm:=bX hRw xm;have hQm:=bX hQ xm;have Dq:=yo.ext xm;have xrm:=xrw.trans xm;have u1:=hSw.lt;have u2:=hRw.lt;have u3:=hQ.lt;have u4:=yo.lt;have u5':=xrw.size;generalize (Ww.alloc (.cells M.cells 25))=Wm at xm hMb hSm hRm hQm Dq xrm⊢;generalize (Ww:World).heap.size=mb at hMb u1 u2 u3 u4 u5'⊢;clear i2 i3 i4' hSw hRw hQ yo;have Ud:=J hMb;have HMV:=J Dq;clear hMb Dq;have i1:=bC hSm;have i4':=hSm.lt;go_wp21;clear i1
   go_loopw [110] (λt110 wr=>∃(j3:Nat) (D:Dg),j3<=qF/\t110=.int .i64 j3/\ai wr mb 25 D.cells/\aoR (j3=0->D=M)/\aoR (0<j3->D=kC m1)/\Kept (·=mb) Wm wr) (λt110 _=>qF - (intOf t110).toNat)
   case atStart=>exact⟨0,M,by omega,rfl,Ud.o,J (λ_=>rfl),J (λh=>by omega),kR _ _⟩
   case round=>
    obtain⟨j3,D,hj3,rfl,hD,HD0,HD1,hkt⟩:=hrel;have xrt:al w wr:=xrm.trans' hkt (λi hi e=>by omega)
    by_cases aai:j3<qF
    ·obtain⟨aoJ,pK⟩:ws=[wx]/\0<=wx:=by
      rcases HWC.o with⟨h,_⟩|h
      ·have:=HWN.o;rw [h]at this;simp at this;omega
      ·exact h
     have amD:j3=0:=by omega
     subst amD;have anW:((0:Nat):Int)<qF:=by omega
     have V7:=HVW.o;rw [ak pK]at V7;obtain⟨It,b,off,ds,q1,q2,_,q4⟩:=V7;have VF:0<ds.length:=by rw [q4.len];simp
     obtain rfl:=q1 ad;have aE:=(q2 ad).ext xrt;obtain⟨VY,LF⟩:=aE.wd 0 VF;have qB:=aE.lt;have ud:=(q4.get 0 VF aB).ext xrt;rw [List.getElem_cons_zero]at ud;obtain⟨d,Vw⟩:=nm' (ds[0]);rw [<-Vw]at LF ud;obtain⟨a,rfl⟩:∃a:Nat,wx=a:=⟨wx.toNat,by omega⟩;have hak:a<k:=by omega
     have f1:d.at_=a:=ud.at_;have Ur:=J ud;clear It q1 q2 q4 aE Vw ud;obtain⟨dat,O2,QO,QR,QP⟩:=d;simp only at f1;subst f1;simp only [Nat.zero_mul,eW]at VY LF;go_upto_region 33 with(fail);have xa:al wr _:=dM wr (.cells (Wd.cells ⟨a,O2,QO,QR,QP⟩) 271);have YL:=bN wr 271 (Wd.cells ⟨a,O2,QO,QR,QP⟩);have hQt:=bX (bK hQm hkt ad) xa;have hDt:=bX hD xa;have hmt:=((HMV.o.kept hkt ad).ext xa);have ahP:a<(pM (a:Int) v m').length:=by unfold pM gV;rw [ak pK,List.length_set,OI.o];exact hak
     have hmc:=hmt.cell a ahP;have ahR:(pM (a:Int) v m')[a]=v:=by simp [pM,gV]
     rw [ahR]at hmc;have wN:=hmt.lt;have aim:=Ur.o.ext xa;have Us:=J aim;have hdl:=hD.lt;have kt2:Kept (·=mb) Wm (wr.alloc (.cells (Wd.cells ⟨a,O2,QO,QR,QP⟩) 271)):=hkt.trans' xa (λ_ _ f=>f.elim);generalize (wr.alloc (.cells (Wd.cells ⟨a,O2,QO,QR,QP⟩) 271))=Wt at xa YL hQt hDt hmt hmc wN Us kt2⊢;clear aim VY LF Ur hmt ahR ahP;generalize (wr:World).heap.size=wb at YL hdl⊢;have ahn:(a:Int)<k:=by omega
     have aik:¬wb=mb:=by omega
     have ahY:¬p2=mb:=by omega
     have amv:¬g2=mb:=by omega
     refine fH (λw2=>Kept (·=mb) Wt w2) [(0,2),(1,1),(2,2),(3,1),(4,2),(5,1),(6,2),(7,1),(9,2),(10,1),(8,0),(11,0),(12,0)] ?_;refine fI ?_
     (repeat first|refine cx ?_|refine de fU (by intro w1 hS;have d1:=bC (bK YL hS aik);have d2:=(bK YL hS aik).lt;have d3:=bC (bK hQt hS ahY);have d4:=(bK hQt hS ahY).lt;have d5:=(Kept.cell hS (p:=⟨g2,a,none⟩) wN amv).trans hmc;have d6:=gK wN hS.size;exact fV) ?_|refine dc fU ?_)
     have yW:al Wt Wt.drew:=(kR _ Wt).drew
     (refine au (λK hK=>?_);go_simp)
     go_wp21;refine(vB v _).mono ?_;rintro e wx1 ⟨rfl,amZ⟩;have yx1:al Wt wx1:=yW.trans amZ;refine hK.out _ _ (λ_=>yx1.ext) ?_;clear hK K;refine tj ?_;intro K hK;go_wp21;obtain⟨pb',po',hpp⟩:=Us.o.path;have htw:=S_ (a:Int) (dx v) (vz _) QO pb' po' QR QP (f_ m a).path wx1 (hpp.ext yx1);rw [SH ad Td Td]at htw;refine htw.mono ?_;rintro e wx2 ⟨rfl,ana⟩;clear htw hpp;have yx2:al Wt wx2:=yx1.trans ana;refine hK.out _ _ (λ_=>yx2.ext) ?_;clear hK K;have hDx:=bX hDt yx2;have i1:=bH hDx;have i2:=ai.aC hDx;have i3:=hDx.lt;refine tj ?_;intro K hK;refine hK.out _ _ (λ_=>Kept.putAt yx2.ext _ _ _ (λ_=>rfl)) ?_;clear hK K;refine fx ?_;go_wp21;go_roundw
     case rel=>
      refine⟨1,kC (gV m a v),by omega,by go_num,ai.cw hDx _ _,J (λh=>by omega),J (λ_=>?_),Kept.putAt (kt2.trans' yx2 (λ_ _ f=>f.elim)) _ _ _ (λ_=>rfl)⟩;rw [zq.o];unfold pM;rw [ak pK]
     case measure=>simp only [intOf];omega
    ·have anT:¬(j3:Int)<qF:=by omega
     have hDm:D=kC m1:=by
      rcases HWC.o with⟨h,pK⟩|⟨h,pK⟩
      ·have e0:qF=0:=by rw [HWN.o,h];rfl
       rw [HD0.o ad,HMM.o,zq.o];unfold pM;rw [af ad]
      ·have e1:qF=1:=by rw [HWN.o,h];rfl
       exact HD1.o ad
     have HDM:=J hDm;have hSt:=bK hSm hkt ad;have hRt:=bK hRm hkt ad;have hQt:=bK hQm hkt ad;have i1:=bC hSt;have i2:=bC hQt;have i3:=bH hD;have i4:=bG hD;clear hDm HMV Ud hD;go_wp21;have TU:=iU p hh k D (by rw [HDM.o];exact kj _ _) mV hhb ad wr;rw [HDM.o,<-alO.o,<-HDM.o]at TU;refine TU.mono ?_;rintro e wz ⟨rfl,hxz⟩;have hRz:=bX hRt hxz;have i5:=bH hRz;have i6:=ai.aC hRz;clear i1 i2 i3 i4 TU;go_wp21;refine di Tryz.results189 rfl rfl dU kH (ai.cw hRz _ _) ⟨rfl,?_⟩;exact Kept.putAt (xrt.trans hxz) _ _ _ (λh=>by have:=Yy.o;omega)):G:=h
theorem acP (h:G:=by
 have dK:=bX kB x1;have g_:=bX fz x1;have lS1:=kB.lt;have lR1:=fz.lt;have hc1:=bC dK;have aoP:=dK.lt;have hsz:=x0.size;go_wp21;clear hc1
 go_loopw [33] (λt33 wr=>∃(j:Nat),j<=vR/\t33=.int .i64 j/\ai wr gm 21 (bj (nI m (rs.take j) (List.replicate k 0))).toArray/\Kept (·=gm) W wr) (λt33 _=>vR - (intOf t33).toNat)
 case atStart=>exact⟨0,by omega,rfl,hG,kR _ _⟩
 case round=>
  obtain⟨j,hj,rfl,hGr,Ae⟩:=hrel;have xr:al w wr:=(x0.trans x1).trans' Ae (λi hi e=>by omega);have HGR:=J hGr;clear hGr hG
  by_cases aP:j<vR
  ·obtain⟨It,b,off,ds,q1,q2,_,q4⟩:=HVR.o
   exact anP
  ·have aow:¬(j:Int)<vR:=by omega
   have mX:rs.take j=rs:=kI (by have:=HRN.o;omega);have hG2:=HGR.o;rw [mX]at hG2;have wN:(nI m rs (List.replicate k 0)).length=k:=by rw [xL];simp
   have hag:∀z∈(dm l x 0 m).1,eP (nI m rs (List.replicate k 0)) z=eP m z:=by
    rw [AB.o];intro z hz;rw [Fo _ _ _ (λy hy=>by have:=Ub.o y hy;simpa using this) _ (Ub.o z hz).1,ak hz]
   have aes:=KC Zq.o rs (List.replicate k 0) (λz hz=>by rw [(List.mem_replicate.1 hz).2];unfold av;omega);generalize (nI m rs (List.replicate k 0))=m' at hG2 wN hag aes;obtain⟨c',Ad⟩:=nm' ((List.replicate n (⟨0,0,0,0⟩:Ins)).set x i);have nw:c'.length=n:=by rw [Ad];simp
   have Ag:x<l.length:=by have:=HN.o;omega
   have hci:c'[(x:Int).toNat]?=l[(x:Int).toNat]?:=by
    rw [rc,Ad,List.getElem?_set_self (by simpa using hxn),List.getElem?_eq_getElem Ag];have:=HLI.o;simp [Ag]at this;rw [this]
   obtain⟨hrd,p',jx,v,xp,td⟩:=yN wH.o (nw.trans HN.o) hci (wN.trans HK.o) hag;rw [qT.o,AB.o]at xp;rw [AB.o]at hrd td;injection xp with g1 xp;injection xp with g2 g3;subst g1 g2;have⟨HG2,HRD,oQ,zq,OI,alH,HC',Yq⟩:=J8' hG2 hrd td g3 wN aes Ad nw;have hSr:=bK dK Ae ad;have O9:=bK g_ Ae ad;have hPr:=bK hP Ae iF;clear hG2 hrd td g3 wN aes Ad nw hag hci mX HGR Ag;obtain⟨w2,iV,Q9,bd⟩:=aiF wr n ad;go_upto_region 12 with(fail);go_step
   iterate 1 refine kE ?_
   refine ia rfl (.tmp 55) (.tmp 55) 48 rfl rfl rfl iV ?_;clear iV;have gx:=bX hSr bd;have oK:=bX O9 bd;have Io:=bX hPr bd;have hG3:=bX HG2.o bd;have hgc:gm<wr.heap.size:=HG2.o.lt;have hpc:pb<wr.heap.size:=hPr.lt;have hsc:sb+1<wr.heap.size:=O9.lt;have hwc:w.heap.size<=wr.heap.size:=xr.size;have xr2:=xr.trans bd;generalize (wr:World).heap.size=gc at Q9 hgc hpc hsc hwc⊢;clear hSr O9 hPr HG2 bd;go_upto_region 13 with(fail);have i1:=bC gx;have i2:=bH gx;have i3:=bG gx;have i4:=gx.lt;have i5:=Q9.lt
   have i6:Proofs.YtnhelcmddjbafaaGreatDoor.has w2 gc (x*4) 4=true:=by
    unfold Proofs.YtnhelcmddjbafaaGreatDoor.has;rw [show w2.heap[gc]?=_ from Q9];simp [JL]
    omega
   have i7:=ai.aC Q9;have amY:(x:Int)<n:=by omega
   go_upto_region 14 with(fail);have kp:Kept (·=gc) w2 (putAt w2 gc (x*4) i.cells):=Kept.putAt (kR _ w2) _ _ _ (λ_=>rfl)
   have hC3:ai (putAt w2 gc (x*4) i.cells) gc 71 (db c').toArray:=by
    have:=ai.cw Q9 (x*4) i.cells;rw [BL _ x i (by simpa using hxn),<-HC'.o]at this;exact this
   have qL:=bK gx kp ad;have o4:=bK oK kp ad;have hP3:=bK Io kp ad;have hG4:=bK hG3 kp ad;have xr3:al w (putAt w2 gc (x*4) i.cells):=xr2.trans' kp (λi hi e=>by omega);generalize (putAt w2 gc (x*4) i.cells)=W3 at hC3 qL o4 hP3 hG4 xr3⊢;clear i1 i2 i3 i6 i7 Q9 gx oK Io hG3 kp xr2;have xo:kO W3 (some ⟨gc,0,none⟩) gc 0 n c' gm 0 k x 0 m':=⟨Uj.o.ext xr3,λ_=>rfl,λ_=>by simpa using Row.cF hC3,Yq.o.symm,h2,OI.o.symm,HG.o,alH.o,by simpa using Row.cF hG4⟩;have FO:=J xo;have fE:=uf (some ⟨gc,0,none⟩) gc 0 n n c' x 0 gm 0 k k m' W3 xo;rw [HRD.o]at fE;have Tz:=J fE;have i1:=bH hP3;have i2:=bG hP3;clear xo fE;go_wp21;refine Tz.o.mono ?_;rintro e w4 ⟨v4,rfl,D3,eS⟩;simp only at D3;have xg:=bX qL eS;have Jp:=bX o4 eS;have hP4:=bX hP3 eS;have ach:=FO.o.ext eS;have xr4:=xr3.trans eS;have gg:rs.length<=100000:=by have:=HRN.o;omega
   have aoE:=xr3.size;have IF:=J D3;have abN:=J ach;clear Tz FO i1 i2 qL o4 hP3 hG4 hC3 D3 ach eS;have i1:=bC xg;have i4:=xg.lt;go_wp21;have l7:=OV Ea vR Dv (rs.map (f_ m)) w4 (HVR.o.ext xr4) amT;rw [JY]at l7;refine l7.mono ?_;rintro e w5 ⟨v5,rfl,xk,iG⟩;have HO5:=J xk;clear xk l7;go_wp21;refine(EB HO5.o (aI IF.o iG) gg).mono ?_;rintro e w6 ⟨rfl,nU⟩;have Rz:=iG.trans nU;have MA:=bX xg Rz;have Ip:=bX Jp Rz;have Rf:=bX hP4 Rz;have aci:=abN.o.ext Rz;have xr6:=xr4.trans Rz;have OJ:=J aci;clear i1 i4 xg Jp hP4 abN aci IF HO5 iG nU Rz xr4
   by_cases pK:0<=wx
   ·have ud:=HVW.o
    exact zz2
   ·have ud:=HVW.o
    exact zz3):G:=h
theorem acQ (h:G:=by
 (repeat refine nV ?_)
 obtain⟨v84,V4,dz,amP,amF,-⟩:=L8 (f:=xN) vf (λ_=>rfl) (λ_=>rfl) V3 wr.heap.size v80 (0+n) ([]++pl) Rq u6 0 1 1 [name] rfl (Row.cF q6) (by have:=Um.o.2.1;omega) y3.size;have y4:al wr V4:=y3.trans' amF (λi hi e=>by have:=(Rq.lt i e).1;omega);refine ci (λK hK=>?_);refine Tp ?_;refine hK.out _ _ (λ_=>y4) ?_;clear hK K dz;have Dn:=bX HK.o (cy.o.trans y4);have hcK:=bC Dn;have hzK:=ai.frozen Dn;have nO:=Dn.lt;obtain⟨g2,c2,rfl,aE,Pj,-⟩:=fh amP ad ad;rw [dT];refine LL ?_;have yk:Kept (·=kb) wr (V4.setCell ⟨kb,11,none⟩ (.slice (some ⟨g2,0,none⟩) (n+1) c2)):=(Kept.ext y4).setCell _ _ (λ_=>rfl)
 have Jt:ai (V4.setCell ⟨kb,11,none⟩ (.slice (some ⟨g2,0,none⟩) (n+1) c2)) kb 243 (cL c (some ⟨g2,0,none⟩) (n+1) c2):=by
  have q:=ai.eK Dn 11 (.slice (some ⟨g2,0,none⟩) (n+1) c2);exact q
 have iF:¬g2=kb:=by have:=(bX HK.o cy.o).lt;omega
 have hr9:dN (V4.setCell ⟨kb,11,none⟩ (.slice (some ⟨g2,0,none⟩) (n+1) c2)) (V4.setCell ⟨kb,11,none⟩ (.slice (some ⟨g2,0,none⟩) (n+1) c2)).heap.size (some ⟨g2,0,none⟩) (n+1) (pl++[name]):=by
  have hq:=aE.kept ((kR (·=kb) V4).setCell ⟨kb,11,none⟩ (.slice (some ⟨g2,0,none⟩) (n+1) c2) (λ_=>rfl)) iF;rw [sR,qx]at hq;exact⟨by rw [dn,<-Um.o.1];rfl,by have:=Um.o.2.1;omega,g2,0,λ_=>rfl,λ_=>⟨hq.lt,hq⟩⟩
 generalize V4.setCell ⟨kb,11,none⟩ (.slice (some ⟨g2,0,none⟩) (n+1) c2)=V9 at yk Jt hr9⊢;generalize (Value.slice (some ⟨u0,0,none⟩) 0 0)=v77;generalize (Value.slice (some ⟨u6,0,none⟩) 1 1)=v83;exact Ik.o V9 v77 v80 v83 g2 c2 ⟨yk,Jt,hr9⟩):G:=h
theorem acR (h:G:=by
 have hb:128*v+y%128<18446744073709551616:=by
  have h1:=HT.o;have h2:=(qm HO.o p).1;rw [<-Px,<-lP,<-hP]at h1;have h3:(128*v+y%128)*1<=(128*v+y%128)*(P:Int):=Int.mul_le_mul_of_nonneg_left ad ad
  omega
 have om:IntKind.u64.wrap (128*v)=128*v:=u64_in ad ad;have tf:IntKind.u64.wrap (128*v+y%128)=128*v+y%128:=u64_in ad ad;have qT:=J Px;have HY:=J hy;clear Px hy hye VB hP Ac;go_wp21;go_roundw
 case rel=>exact⟨p,128*v+y%128,by omega,by go_num,rfl,by omega,qT.o,by first|rfl|trivial⟩
 case measure=>simp only [intOf];omega):G:=h
theorem acS (h:G:=by
 have y2:=dQ.o.trans aw;refine hK.out _ _ (λ_=>y2) ?_;clear hK K y1;have MG:=bX s9 aw;have D2:=MG.aC;have Jx:=bH MG;have hfc:(fM f).size=2:=by cases f<;>rfl
 have hff:eB (fM f).toList=true:=by cases f<;>rfl
 refine ww ?_;intro K hK;have y3:=y2.putAt fb 0 (fM f) (λaP=>absurd aP (by have:=HFL.o;omega))
 have Vy:ai (putAt w1 fb 0 (fM f)) fb 166 (fM f):=by
  have:=ai.cw MG 0 (fM f)
  cases f<;>exact this
 refine hK.out _ _ (λ_=>y3) ?_;clear hK K D2 Jx hfc hff;refine LL ?_;generalize putAt w1 fb 0 (fM f)=W3 at y3 Vy⊢;exact Ik.o _ _ ⟨y3,Vy⟩):G:=h
theorem acT (h:G:=by
 generalize w1.heap.size=fb at t_ D_⊢;have D2:=t_.aC;have Jx:=bH t_;have hfc:(fM f).size=2:=by cases f<;>rfl
 have hff:eB (fM f).toList=true:=by cases f<;>rfl
 refine ww ?_;intro K hK;have y3:=y2.putAt fb 0 (fM f) (λaP=>absurd aP ad)
 have Vy:ai (putAt W2 fb 0 (fM f)) fb 166 (fM f):=by
  have:=ai.cw t_ 0 (fM f)
  cases f<;>exact this
 refine hK.out _ _ (λ_=>y3) ?_;clear hK K D2 Jx hfc hff;refine LL ?_;generalize putAt W2 fb 0 (fM f)=W3 at y3 Vy⊢;exact Ik.o _ _ ⟨y3,Vy⟩):G:=h
theorem acU (h:G:=by
 go_wp21;refine(Si _ _ _ _ ⟨_,_,_,rfl⟩ _).mono ?_;rintro r w2 ⟨rfl,bd⟩;clear cB fB lB hhB hgB hmD hhD hlD;have LB:=bX HD.o bd;have hmD:=LB.aC;have hhD:=bH LB;have hlD:=LB.lt;go_wp21;refine di Tryz.results93 rfl rfl rj (by exact oA) (ai.cw LB 0 _) ⟨?_,?_⟩
 ·have l0:¬E=0:=by rw [HR.o];omega
  rw [HPP.o,Qp.o,af l0,af l0,HR.o]
  rfl
 ·exact(HX.o.trans bd).putAt _ _ _ (λaP=>absurd aP (by have:=wW.o;omega))):G:=h
theorem Ye (h:G:=by
 have dW:=bX fz.o yr;have fE:=dW.aC;have gl:=bH dW;go_wp21;refine bu (t:=166) (g:=rb) (cs:=fM X) Tryz.results276 rfl rfl eL Ov Ou ⟨rfl,?_⟩;exact(dS.o.trans yr).putAt _ _ _ (λaP=>absurd aP K8)):G:=h
theorem acV (h:G:=by
 rw [<-OG.o];show _=v*2^(7*(p+1))+(gJ l p+l.getD p 0%128*2^(7*p));rw [<-hy,show 7*(p+1)=7*p+7 by omega,Int.pow_add,Int.add_mul,show(2:Int)^7=128 from rfl];rw [show v*(2^(7*p)*128)=128*v*2^(7*p)by rw [Int.mul_comm (128:Int) v,Int.mul_assoc,Int.mul_comm (128:Int)]]
 omega):G:=h
theorem acW (h:G:=by
 have he:=cK.some he;subst he;have⟨HR,pO,gZ⟩:=J3' (show X=some f from eU.o) (sY.o.ext (ys.trans bd)) (Kept.ext (S:=SG cb g) (dS.o.trans (ys.trans bd)));show _/\_;refine⟨rfl,?_,gZ.o⟩;rw [HR.o];exact⟨rfl,_,_,pO.o.map,pO.o.blk⟩):G:=h
theorem aka (h:G:=by
 simp only [EF.len,eW]at hj;subst hj;have hz0:Z=none:=by rw [<-ca.o];rfl
 rw [hz0]at mw;have Ij:=J mw.o;clear hz0 mw;go_wp21;go_end0;have h:=Ij.o;rw [show X=none from h];exact⟨⟨rfl,sY.o.ext HX.o⟩,Kept.ext (dS.o.trans HX.o)⟩):G:=h
theorem acY (h:G:=by
 refine⟨rfl,?_⟩
 ((repeat' (with_reducible (first|apply Kept.drew|apply Kept.drewN|apply Kept.alloc|apply Kept.setCell|apply Kept.putAt|exact kR _ _)))<;>(intro aP;first|rfl|(simp at aP;done)|(exfalso;simp at aP;omega)|omega))):G:=h
theorem acZ (h:G:=by
 rcases h1 with h1|h1
 ·exact absurd h1.symm iF
 ·obtain⟨_,oj,Rr,hall⟩:=mem_ready.1 hj
  refine ml hd _ _ (λx hx=>?_) i h1;obtain⟨o,ho,e,he,hb,rfl⟩:=tT hx;rw [Rr]at ho;injection ho with ho;subst ho;exact hall e he hb):G:=h
theorem ada (h:G:=by
 have uc:¬(0:Int)<=((0:Nat):Int) - 1:=by omega
 go_wp21
 go_ret3
 obtain⟨v1,v2,v3⟩:=VV.o;have e:=OG.o;rw [show gJ l 0=0 from rfl,Nat.mul_zero,Int.pow_zero,Int.mul_one,Int.add_zero]at e;exact⟨by rw [v1,v2,v3,<-e];rfl,rfl⟩):G:=h
theorem adb (h:G:=by
 generalize (w4.alloc (.cells (oq none 0 0 c b wm 0 sm em) 303))=W9 at y9 xZ hm9 hs9 he9⊢;generalize w4.heap.size=mb at xZ wN⊢;exact Ik.o _ _ _ _ _ ⟨y9,hm9,hs9,he9,xZ,T7,wN⟩):G:=h
theorem Yf (h:G:=by
 go_wp21;go_roundw
 case rel=>exact⟨j+1,r,by omega,wH.o,by go_num,by rw [Nat.add_mul,<-gw];exact qR.o,oD.o.2.2,gZ.o⟩
 case measure=>simp only [intOf];omega):G:=h
theorem Yg (h:G:=by
 refine⟨?_,?_,(Array.getElem?_eq_some_iff.1 hc).1⟩
 ·unfold has;rw [hc,hln];simp;omega
 ·unfold gets;rw [hc,hln];simp only [re];rw [mX]):G:=h
theorem Yh (h:G:=by
 rcases Nat.lt_or_ge i listed.size with h'|h'
 ·simp [h']at h0 h1;rw [h0]at h1;cases h1
 ·simp [Array.getElem?_eq_none h']at h1):G:=h
theorem Ln (h:G:=by
 show _/\_;refine⟨rfl,?_,gZ.o⟩;rw [HR.o];exact⟨rfl,_,_,pO.o.map,pO.o.blk⟩):G:=h
theorem FE (h:G:=by
 exact(dS.o.trans cy.o).putAt _ _ _ (λaP=>absurd aP K8)):G:=h
theorem zz1 (h:G:=by
 obtain⟨dw,ME⟩:=R3 FN.o (by rw [mz,gu];have:=rX.o;omega) (by have:=Lx.o;omega);have HAQ:=J (bX HAW.o Ij.o)
 by_cases VA:i=3
 ·have amB:((i:Int)==3)=true:=by simp [VA]
  have HI3:=J VA;clear VA;have y1:al wr _:=dY wr (.cells #[.string p.silent] 9);have q6:=bN wr 9 #[.string p.silent];have Dn:=bX Lu.o y1;have hcK:=bC Dn;have hzK:=ai.frozen Dn;have nO:=Dn.lt;have HAV:=J (bX HAQ.o y1);go_upto_region 31 with(fail);have yk:Kept (λg=>kb<=g) wr ((wr.alloc (.cells #[.string p.silent] 9)).setCell ⟨kb,11,none⟩ (.slice (some ⟨wr.heap.size,0,none⟩) 1 1)):=(y1.mono (λi _ h=>h.elim)).setCell _ _ (λ_=>cr _)
  have Jt:ai ((wr.alloc (.cells #[.string p.silent] 9)).setCell ⟨kb,11,none⟩ (.slice (some ⟨wr.heap.size,0,none⟩) 1 1)) kb 243 (cL (⟨p.name,p.aL,⟨kA,j,kc⟩,⟨vA,vn,vc⟩,cs,⟨tA,tn,tc⟩,⟨A,n,cc⟩,iD,p.silent,cq,⟨zA,zn,zc⟩⟩:Pc) (some ⟨wr.heap.size,0,none⟩) 1 1):=by
   have q:=ai.eK Dn 11 (.slice (some ⟨wr.heap.size,0,none⟩) 1 1);exact q
  have hke:Kept (·=kb) (wr.alloc (.cells #[.string p.silent] 9)) ((wr.alloc (.cells #[.string p.silent] 9)).setCell ⟨kb,11,none⟩ (.slice (some ⟨wr.heap.size,0,none⟩) 1 1)):=(kR _ _).setCell _ _ (λ_=>rfl);have iF:¬wr.heap.size=kb:=by have:=Lu.o.lt;omega
  have LG:=(Row.cF q6).kept hke iF;have hq6:=bK q6 hke iF
  have haq:=bK HAV.o hke (λe=>by
   have h1:=HAW.o.lt;have h2:=je.o
   omega)
  generalize ((wr.alloc (.cells #[.string p.silent] 9)).setCell ⟨kb,11,none⟩ (.slice (some ⟨wr.heap.size,0,none⟩) 1 1))=V9 at yk Jt LG hq6 haq⊢;generalize wr.heap.size=u6 at Jt LG hq6⊢;have agA:=J (Ij.o.trans' yk (λi hi q=>by have:=je.o;omega));clear hcK hzK nO Dn y1 q6 hke iF Ij z_ Lu FN HAQ HAV yk dw ME gY gU;obtain⟨wr,hwq⟩:∃w,w=V9:=⟨_,rfl⟩;subst hwq;have Ij:=agA;have⟨z_,Lu,HAQ⟩:=J3' (cy.o.trans Ij.o) Jt haq
  have qT:=J (show dN wr wr.heap.size (some ⟨u6,0,none⟩) 1 (zM p i)by
   rw [HI3.o];exact⟨rfl,by omega,u6,0,λ_=>rfl,λ_=>⟨hq6.lt,LG⟩⟩)
  have Lq:=J (show(some ⟨u6,0,none⟩:Option Addr)=none->1=0 from λh=>nomatch h);clear Jt LG hq6 haq agA;refine ajL ?_;intro sA sn sc TD HAC f hf;have Yu:=J (λw' (YV:al wr w') (LH:dN w' w'.heap.size (some ⟨u6,0,none⟩) 1 (zM p i))=>Cq (⟨p.name,p.aL,⟨kA,j,kc⟩,⟨vA,vn,vc⟩,cs,⟨tA,tn,tc⟩,⟨A,n,cc⟩,iD,p.silent,cq,⟨zA,zn,zc⟩⟩:Pc) p i aP N wr (ax fX.o z_.o.size) (jh.o.ext z_.o fX.o) (partOf p i) 0 true (some ⟨u6,0,none⟩) 1 1 (zM p i) sA sn sc w' YV LH Lq.o (Kc p i (by have:=rX.o;have:=Lx.o;omega)) ad TD.o);exact acO
 ·have amB:((i:Int)==3)=false:=by simp;omega
  have qT:=J (show dN wr wr.heap.size B q (zM p i)from HPL.o VA▸dw);have Lq:=J ME;clear dw ME;go_upto_region 31 with(fail);clear gY gU;refine ajL ?_;intro sA sn sc TD HAC f hf;have Yu:=J (λw' (YV:al wr w') (LH:dN w' w'.heap.size B q (zM p i))=>Cq (⟨p.name,p.aL,⟨kA,j,kc⟩,⟨vA,vn,vc⟩,cs,⟨tA,tn,tc⟩,⟨A,n,cc⟩,iD,p.silent,cq,⟨zA,zn,zc⟩⟩:Pc) p i aP N wr (ax fX.o z_.o.size) (jh.o.ext z_.o fX.o) (partOf p i) 0 true B q bc (zM p i) sA sn sc w' YV LH Lq.o (Kc p i (by have:=rX.o;have:=Lx.o;omega)) ad TD.o);exact acO):G:=h
theorem zz2 (h:G:=by
 rw [ak pK]at ud;go_upto_region 20 with(fail);have xa:al w6 _:=dM w6 (.cells #[.int .i64 wx] 3);have D4:(w6.alloc (.cells #[.int .i64 wx] 3)).ownsRow w6.heap.size 3 1 (.slice (some ⟨w6.heap.size,0,none⟩) 1 1) 1 (ints [wx]):=⟨rfl,.inr ⟨w6.heap.size,1,_,rfl,cr _,bN w6 3 #[.int .i64 wx],cr _,by unfold maxLen;omega,rfl,rfl⟩⟩;obtain⟨ws,MP⟩:=nm' ([wx]);have Gn:gi (w6.alloc (.cells #[.int .i64 wx] 3)) CI qF (ws.map (f_ m)):=by rw [MP];exact ud.ext (xr6.trans xa)
 have hwi:∀y∈ws,0<=y/\y<k:=by rw [MP];intro y hy;simp at hy;subst hy;exact⟨pK,T8⟩
 have aeE:(ws=[]/\wx<0)∨(ws=[wx]/\0<=wx):=.inr ⟨MP,pK⟩;have MK:(w6.alloc (.cells #[.int .i64 wx] 3)).ownsRow w6.heap.size 3 1 (.slice (some ⟨w6.heap.size,0,none⟩) 1 1) ws.length (ints ws):=by rw [MP];exact D4
 have Ri:=bX MA xa;have TM:=bX Ip xa;have JG:=OJ.o.ext xa;have Rh:=bX Rf xa;have xr7:=xr6.trans xa;generalize (w6.alloc (.cells #[.int .i64 wx] 3))=W7 at xa MK Gn Ri TM JG Rh xr7⊢;generalize (Value.slice (some ⟨w6.heap.size,0,none⟩) 1 1)=v7 at MK⊢;generalize w6.heap.size=b7 at MK;clear MP D4 ud MA Ip Rf OJ xr6 xa pK;exact acN):G:=h
theorem zz3 (h:G:=by
 rw [af pK]at ud;have hwb:decide (0<=wx)=false:=by simpa using pK
 go_upto_region 20 with(fail);clear hwb;have D4:w6.ownsRow 0 3 1 (.slice none 0 0) 0 (ints []):=World.ownsRow_nil _ _ _ _;obtain⟨ws,MP⟩:=nm' (([]:List Int));have Gn:gi w6 CI qF (ws.map (f_ m)):=by rw [MP];exact ud.ext xr6
 have hwi:∀y∈ws,0<=y/\y<k:=by rw [MP];intro y hy;simp at hy
 have aeE:(ws=[]/\wx<0)∨(ws=[wx]/\0<=wx):=.inl ⟨MP,by omega⟩;obtain⟨b7,MK⟩:∃b7,w6.ownsRow b7 3 1 (.slice none 0 0) ws.length (ints ws):=⟨0,by rw [MP];exact D4⟩;have Ri:=MA;have TM:=Ip;have JG:=OJ.o;have Rh:=Rf;have xr7:=xr6;obtain⟨W7,YK⟩:=nm' w6;rw [<-YK]at MK Gn Ri TM JG Rh xr7⊢;clear MP D4 ud MA Ip Rf OJ xr6 pK YK;exact acN):G:=h
theorem zz5 (h:G:=by
 have ys:=yt;have x9:=aad;exact zz6):G:=h
theorem zz6 (h:G:=by
 go_wp21
 go_loopw [6] (λt6 wr=>∃(j:Nat) (R:EF),j+R.len=kn/\mh (a_ (fm p.vars) l) R=r/\t6=.int .i64 j/\mc w0 N0 R b (off+j*4)/\EF.wG (adq c (a_ (fm p.vars) l) A n k w0) R/\al W wr) (λt6 _=>kn - (intOf t6).toNat)
 case atStart=>exact⟨0,F,by rw [HN.o,dT],OG.o,rfl,by simpa using HE.o,HI.o,ys⟩
 case round=>
  obtain⟨j,R,hj,bw,rfl,hR,hI,hx⟩:=hrel;have⟨mv,oD,HX,ca⟩:=J4' hR hI hx bw;have Ae:=bX hK0.o hx;have her:=bX l0.o hx;have hce:=bC her;have hle:=her.lt;clear hR hI hx bw
  cases R with
  |nil=>
   simp only [EF.len,eW]at hj;subst hj;have tE:r=none:=by rw [<-ca.o];rfl
   have Zu:=J tE;clear tE;go_wp21;refine(kh _).mono ?_;rintro e w1 ⟨rfl,aw⟩;have dW:=bX fz.o (HX.o.trans aw);have fE:=dW.aC;have gl:=bH dW;go_wp21;refine bu (t:=166) (g:=rb) (cs:=fM X) Tryz.results276 rfl rfl eL (by rw [mw.o,Zu.o];exact gH) (by rw [mw.o,Zu.o];exact ai.cw dW 0 _) ⟨rfl,?_⟩;exact((dS.o.trans HX.o).trans aw).putAt _ _ _ (λaP=>absurd aP K8)
  |cons rH m' name' q rr=>
   obtain⟨hb,h1,h2,h3,⟨A',cap,b',bL,hh,hg,hl,qK,hk⟩,hr⟩:=mv.o;simp only [EF.len]at hj;have aP:(j:Int)<kn:=by omega
   obtain rfl:=HA.o ad;have iO:=aF.trans (dS.o.trans HX.o);refine Ee ?_;intro qB jx hg' gB;have⟨KE,IK,IJ,qR,HH,HG,Zm,HER⟩:=J8' (show me w0 N0 A' q.len q from⟨rfl,hl,b',bL,qK,hk⟩) oD.o.1 iO hr jx hg' Ae her;clear hh hg hl qK hk h1 h2 h3 mv qB iO hr;go_upto_region 14 with(fail);clear jx hg' hce hle Ae her;obtain⟨f,hf⟩:=nm' (A8 (a_ (fm p.vars) l) rH m' name' q);have HF:=J hf;clear hf;apply aat (F:=λW2 fb=>al wr W2/\ai W2 fb 166 (fM f))
   case h=>
    intro ky;have Ik:=J ky;clear ky;refine WU (λw1=>al wr w1) (.op 0 1 (.op 1 2 (.op 2 1 (.op 3 2 (.op 4 2 (.op 5 1 (.fork 6 (.op 7 0 (.op 8 0 .nil)) 7 (.op 6 0 (.op 8 0 .nil))))))))) ?_;refine WV ?_;have cC:=J (pg wr)
    (repeat (first|refine nV ?_|((apply c_);(· exact cC.o);(· go_simp);(· (intro w1 hS;have d0:=bX Zm.o hS;have d1:=bG d0;have d2:=bH d0;have d3:=d0.lt;have d4:=bX HER.o hS;have d5:=bC d4;have d6:=d4.lt;have d7:=kl hS gB HH.o;have d8:=iT hS gB HG.o;have d9:=gK gB hS.size;go_simp;try with_reducible rfl));refine iJ ?_)|((apply cZ);(· exact cC.o);(· go_simp);refine iJ ?_)))
    refine gQ ?_ ?_
    ·(refine ci (λK hK=>?_);go_simp)
     refine(IK.o rH m' name' A' q.len cap N0 _ (IJ.o.trans cC.o) O8 KE.o).mono ?_;rintro e w1 ⟨rfl,aw⟩;rw [<-HF.o];have y1:=cC.o.trans aw;refine afC ?_;clear hK K;intro W2 y2 t_;have D_:wr.heap.size<=w1.heap.size:=y1.size;exact acT
    ·refine afF ?_;intro W1 kX y1
     have s9:ai W1 wr.heap.size 166 #[.int .i64 0,.string ⟨#[]⟩]:=by rw [<-kX];exact ai.drew (bN wr _ _)
     refine X7 ?_;clear kX s9;intro fb s9 HFL dQ
     (repeat (first|refine nV ?_|((apply c_);(· exact dQ.o);(· go_simp);(· (intro w1 hS;have d0:=bX Zm.o hS;have d1:=bG d0;have d2:=bH d0;have d3:=d0.lt;have d4:=bX HER.o hS;have d5:=bC d4;have d6:=d4.lt;have d7:=kl hS gB HH.o;have d8:=iT hS gB HG.o;have d9:=gK gB hS.size;go_simp;try with_reducible rfl));refine iJ ?_)|((apply cZ);(· exact dQ.o);(· go_simp);refine iJ ?_)))
     (refine ci (λK hK=>?_);go_simp)
     refine(IK.o rH m' name' A' q.len cap N0 _ (IJ.o.trans dQ.o) O8 KE.o).mono ?_;rintro e w1 ⟨rfl,aw⟩;rw [<-HF.o];exact acS
   case h2=>
    rintro W2 fb ⟨y2,t_⟩;have zV:=J t_;have fp:=J y2;clear t_ y2
    cases f with
    |none=>
     have wH:=J (show mh (a_ (fm p.vars) l) rr=r by have h:=ca.o;rw [sd,<-HF.o]at h;exact h);go_upto_region 15 with(fail);refine K9 ?_;intro eE;refine K' ?_;refine ajT ?_;intro K hK;rintro e w1 ⟨rfl,aw⟩;refine La ?_;clear hK K aw;intro nh;go_wp21;go_roundw
     case rel=>exact⟨j+1,rr,by omega,wH.o,by go_num,by rw [Nat.add_mul,<-gw];exact qR.o,oD.o.2,(HX.o.trans fp.o).trans nh.o⟩
     case measure=>simp only [intOf];omega
    |some f=>
     obtain⟨fe,fn⟩:=f;have hnz:(fe==0)=false:=by simpa using GH (a_ (fm p.vars) l) rH m' name' q ⟨fe,fn⟩ HF.o.symm
     have HRF:=J (show X=some ⟨fe,fn⟩by have h:=ca.o;rw [sd,<-HF.o]at h;rw [mw.o,<-h];rfl);go_upto_region 15 with(fail);refine K9 ?_;intro eE;refine K' ?_;refine ajT ?_;intro K hK;rintro e w1 ⟨rfl,aw⟩;refine La ?_;clear hK K aw;intro nh;have dW:=bX fz.o ((HX.o.trans fp.o).trans nh.o);have fE:=dW.aC;have gl:=bH dW;have Gb:=bX zV.o nh.o;have hgf:=bG Gb;have Jx:=bH Gb;have hlf:=Gb.lt;go_wp21;refine bu (t:=166) (g:=rb) (cs:=fM X) Tryz.results276 rfl rfl eL (by rw [HRF.o];exact gH) (by rw [HRF.o];exact ai.cw dW 0 _) ⟨rfl,?_⟩;exact((dS.o.trans HX.o).trans (fp.o.trans nh.o)).putAt _ _ _ (λaP=>absurd aP K8)):G:=h
theorem ajX (h:G:=by
 go_wp2_with fail;refine(HNG.o _ _ (λh0=>by first|(rw [HA.o ad];exact congrArg some (sF _ _ _))|(have:=Yw.o;omega))).mono ?_;rintro e w1 ⟨rfl,rfl⟩;obtain⟨e1,he1⟩:∃e,e=eC (l.drop at_):=⟨_,rfl⟩;obtain⟨v1,mJ⟩:∃v,v=gM (l.drop at_):=⟨_,rfl⟩;obtain⟨s1,xp⟩:∃s,s=iw (l.drop at_):=⟨_,rfl⟩
 have oh:at_+s1<=100000:=by
  have:=BW (l.drop at_);rw [AE,<-xp]at this;have:=HMX.o;have:=uA.o
  omega
 rw [<-he1,<-mJ,<-xp];have⟨HEE,HPP,Qp⟩:=J3' (show E=if e1=0 then(if most<v1 then 2 else 0)else e1 by rw [HE.o,he1,mJ];rfl) (show P=if E=0 then at_+s1 else at_ by rw [HP.o,xp];unfold pw;rw [<-HE.o];simp) (show V=if E=0 then v1 else 0 by rw [HV.o,mJ];unfold oU;rw [<-HE.o];simp);clear he1 mJ xp HE HP HV
 by_cases h1:e1=0
 ·subst h1
  by_cases h2:most<v1
  ·have HR:=J (show E=2 by rw [HEE.o,ak rfl,ak h2])
   exact acU
  ·have HR:=J (show E=0 by rw [HEE.o,ak rfl,af h2])
   have hwp:IntKind.i64.wrap ((at_:Int)+s1)=(at_:Int)+s1:=by rw [im];omega
   go_upto_region 9 with(fail);clear cB fB lB hhB hgB hmD hhD hlD;have hk:Kept (·=pb) W (W.setCell ⟨pb,1,none⟩ (.int .i64 ((at_:Int)+s1))):=(kR _ _).setCell _ _ (λ_=>rfl);have pJ:=(ai.eK HB.o 1 (.int .i64 ((at_:Int)+s1)):ai _ pb 152 #[.slice A n _,.int .i64 ((at_:Int)+s1),.int .i64 0]);have LB:=bK HD.o hk (by have:=wW.o;have:=ku.o;omega);have bd:=HX.o.trans' hk (λi hi q=>by have:=ku.o;omega);generalize (W.setCell ⟨pb,1,none⟩ (.int .i64 ((at_:Int)+s1)))=W2 at hk pJ LB bd⊢;have hhB:=bH pJ;have hgB:=bG pJ;have Pq:=pJ.lt;have hmD:=LB.aC;have hhD:=bH LB;have hlD:=LB.lt;go_wp2_with fail;refine di Tryz.results93 rfl rfl rj (by exact oA) (ai.cw LB 0 _) ⟨?_,?_⟩
   ·rw [HPP.o,Qp.o,HR.o]
    rfl
   ·exact bd.putAt _ _ _ (λaP=>absurd aP (by have:=wW.o;omega))
 ·have hJ:(e1==0)=false:=by simp [h1]
  have jo:(e1 !=0)=true:=by unfold bne;rw [hJ];rfl
  have HR:=J (show E=e1 by rw [HEE.o,af h1]);exact acU):G:=h
theorem afN (h:G:=by
 obtain⟨hb,h1,h2,h3,⟨A',cap,b',bL,hh,hg,hl,qK,hk⟩,hr⟩:=mv.o;simp only [EF.len]at hj;have aP:(j:Int)<en:=by omega
 obtain rfl:=HA.o ad;have qB:=HX.o.size;have jx:=kl HX.o (by have:=fX.o;omega) hh;have hg':=iT HX.o (by have:=fX.o;omega) hg;have gB:b<wr.heap.size:=by have:=fX.o;omega
 have KE:=J (show me W N A' q.len q from⟨rfl,hl,b',bL,qK,hk⟩);have qR:=J hr;clear hh hg hl qK hk h1 h2 h3 mv qB hr;have y0:al wr _:=dM wr (.cells (bJ rH m' name' A' q.len cap) 354);have hEB:=bN wr 354 (bJ rH m' name' A' q.len cap);go_wp21;refine(SA W q _ _ _ N _ _ _ _ (HX.o.trans y0) fX.o KE.o).mono ?_;rintro e w1 ⟨rfl,aw⟩;obtain⟨d,hd⟩:=nm' (jc (1+q.deep));rw [<-hd];have HD:=J hd;have ji:=J (HX.o.trans (y0.trans aw));have aed:=bX hEB aw;have hgE:=bG aed;have hhE:=bH aed;have Pq:=aed.lt;clear hd;obtain⟨f,hf⟩:=nm' (A8 κ rH m' name' q);have HF:=J hf;clear hf
 by_cases aae:d<=12
 ·go_wp21
  refine(aW true _ _ _).mono ?_;rintro e w2 ⟨he,rfl⟩;have he:=cK.none he;subst he;go_wp21;have HK:=J (SE cb g κ (bV i) aO W sY.o wU.o q rH m' name' A' q.len cap N _ ji.o fX.o KE.o);rw [<-HF.o]at HK;refine HK.o.mono ?_;rintro e w2 ⟨he,bd⟩;have gf:=J (ji.o.trans bd)
  cases f with
  |none=>
   have he:=cK.none he;subst he;have wH:=J (show ke κ rr=Z by have h:=ca.o;rw [oZ,<-HD.o,cJ aae,<-HF.o]at h;exact h);go_wp21;go_roundw
   case rel=>exact⟨j+1,rr,by omega,wH.o,by go_num,by rw [Nat.add_mul,<-gw];exact qR.o,gf.o⟩
   case measure=>simp only [intOf];omega
  |some f=>
   have he:=cK.some he;subst he;have⟨HR,pO,gZ⟩:=J3' (show X=some f by have h:=ca.o;rw [oZ,<-HD.o,cJ aae,<-HF.o]at h;rw [mw.o,<-h];rfl) (sY.o.ext gf.o) (Kept.ext (S:=SG cb g) (dS.o.trans gf.o));exact Ln
 ·go_wp21
  rw [cT (show¬d<=12 by omega)];refine(aW false _ _ _).mono ?_;rintro e w2 ⟨he,rfl⟩;have he:e=.panicked (SX ⟨25,E0⟩):=he;subst he;have⟨HR,pO,gZ⟩:=J3' (show X=some ⟨25,E0⟩by have h:=ca.o;rw [oZ,<-HD.o,cT ad]at h;rw [mw.o,<-h];rfl) (sY.o.ext ji.o) (Kept.ext (S:=SG cb g) (dS.o.trans ji.o));exact Ln):G:=h
theorem akb (h:G:=by
 rw [qn]at eU;clear hvI;refine C9 ?_;intro K hK
 try rw [Kd]
 refine(aW true _ _ _).mono ?_;rintro e w1 ⟨he,rfl⟩;have he:=cK.none he;subst he;have mw:=J (show X=r by rw [eU.o];rfl);refine hK.out _ _ ?_;clear hK K;refine fx ?_;have ys:=fL.o.trans qU.o;have x9:=bC (bX l0.o ys);have BB:=(bX l0.o ys).lt;exact afO):G:=h
theorem akc (h:G:=by
 clear Zb FH HTT;go_wp21
 go_loopw [6,7] (λt6 t7 wr=>∃(j:Nat) (v:Int),j<=i+1/\t7=.int .i64 ((j:Int) - 1)/\t6=.int .u64 v/\0<=v/\v*2^(7*j)+gJ l j=gJ l (i+1)/\w=wr) (λ_ t7 _=>((intOf t7)+1).toNat)
 case atStart=>exact⟨i+1,0,cr _,by rw [show(((i+1:Nat):Int) - 1)=(i:Nat)by omega],rfl,Int.le_refl _,by rw [Int.zero_mul,Int.zero_add],by trivial⟩
 case round=>
  obtain⟨j,v,hj,rfl,rfl,i',heq,tf⟩:=hrel;subst tf;have OG:=J heq;clear heq
  cases j with
  |zero=>
   exact ada
  |succ p=>
   have Iu:(0:Int)<=p:=by omega
   have amQ:(p:Int)<=10:=by omega
   have VB:(((p+1:Nat):Int) - 1)=p:=by omega
   rw [VB];have mW:p<l.length:=by omega
   have yq:(p:Int)<n:=by have:=HN.o;omega
   obtain⟨y,hy⟩:=nm' (l.getD p 0);have hye:l[p]=y:=by rw [hy];simp [mW]
   have hcy:w.cell? ⟨b,off+p,none⟩=some (.int .u8 y):=by
    rw [aE.cell p (by simpa [cu]using mW)];simp [cu,mW,hye]
   obtain⟨y0,y1⟩:0<=y/\y<=255:=by rw [hy];exact jQ HO.o p
   have amK:y.tmod 128=y%128:=by rw [Int.tmod_eq_emod_of_nonneg y0]
   have hq0:0<=y%128:=Int.emod_nonneg _ ad;obtain⟨P,hP⟩:∃P:Nat,P=2^(7*p):=⟨_,rfl⟩;have Ac:1<=P:=by rw [hP];exact Nat.one_le_two_pow
   have Px:(128*v+y%128)*2^(7*p)+gJ l p=gJ l (i+1):=by
    exact acV
   exact acR):G:=h
theorem akd (h:G:=by
 (repeat refine nV ?_)
 obtain⟨v80,V3,dz,Rq,aag,-⟩:=adK (f:=xN) vf (λ_=>rfl) (λ_=>rfl) V2 wr.heap.size (.slice (some ⟨u0,0,none⟩) 0 0) 0 [] own A n kc pl Um.o.1 HAK.o (Um.o.2.2 V2 y2) (by have:=Um.o.2.1;omega) y2.size;have y3:al wr V3:=y2.trans' aag (λi hi e=>by have e2:u0=i:=Option.some.inj e;omega);have q6:=bK q6 aag (λe=>by have e2:u0=u6:=Option.some.inj e;have q:=q0;rw [e2]at q;have q:=ai.anC q q6;simp at q);refine ci (λK hK=>?_);refine Tp ?_;refine hK.out _ _ (λ_=>y3) ?_;clear hK K dz;exact acQ):G:=h
theorem ake (h:G:=by
 have gZ:=J (HX.o.trans y0);have cC:=J y0;clear hh hg n1 n2 n3 a1 a2 a3 he hl zL hb h1 h2 h3 h4 hr HR iO qB y0;have hcB:=bC HB.o
 cases q6:(kind==6)
 ·cases q7:(kind==7)
  ·cases q2:(kind==2)
   ·have wH:=J (show ends r=Z by rw [<-ca.o];simp [ends,q6,q7,q2])
    exact Yf
   ·have HQ:=J (show((ends l&&ends x)||ends r)=Z by rw [<-ca.o];simp [ends,q6,q7,q2])
    clear hcB;go_wp21;refine(oD.o.1 _ _ _ N _ (aF.trans gZ.o) hN KL.o).mono ?_;rintro e w2 ⟨rfl,bd⟩;have gZ:=J (gZ.o.trans bd);have nQ:=J (bX HB.o bd);have hcB:=bC nQ.o;have Pq:=nQ.o.lt;clear bd HB cC;obtain⟨el,TP⟩:=nm' (ends l);rw [<-TP]at HQ⊢;clear TP
    cases el
    ·have wH:=J (show ends r=Z from HQ.o)
     exact Yf
    ·go_wp21
     refine(oD.o.2.1 _ _ _ N _ (aF.trans gZ.o) hN KX.o).mono ?_;rintro e w3 ⟨rfl,dv⟩;have gZ:=J (gZ.o.trans dv);clear dv;obtain⟨el,TP⟩:=nm' (ends x);rw [<-TP]at HQ⊢;clear TP
     cases el
     ·have wH:=J (show ends r=Z from HQ.o)
      exact Yf
     ·go_wp21
      go_ret;exact⟨by rw [<-HQ.o];rfl,gZ.o⟩
  ·have HQ:=J q7
   go_wp21;go_ret;rw [<-ca.o];exact⟨by simp [ends,HQ.o],gZ.o⟩
 ·have HQ:=J q6
  go_wp21;go_ret;rw [<-ca.o];exact⟨by simp [ends,HQ.o],gZ.o⟩):G:=h
theorem akg (h:G:=by
 generalize (w2.alloc (.cells #[.int .i64 fe,.string fn] 166))=W3 at y3 hV⊢;refine zy7 ?_;clear hV y3 cy;intro fb fL zV eE K hK;rintro e2 w4 ⟨rfl,eS⟩;have nh:=J (eE.o.trans eS);refine hK.out _ _ (λ_=>nh.o) ?_;clear hK K eS;have hnz:=HNF.o;refine fx ?_;have cy:=J (fL.o.trans nh.o);refine FD ?_;intro dW fE gl gg gY lh lf gU;have Gb:=bX zV.o nh.o;have hgf:=bG Gb;have Jx:=bH Gb;have hlf:=Gb.lt;exact Dc):G:=h
theorem akn (h:G:=by
 rw [ev];have qL:oF (w2.setCell ⟨g,a,none⟩ (.int .i32 (cN (decide (0<=v)&&decide (v<z))))).drew s 47 pc (some ⟨g,0,none⟩) n kc 0:=ai.kV gx (p:=⟨g,a,none⟩) nT (.int .i32 (cN (decide (0<=v)&&decide (v<z))));have xf:eg (w2.setCell ⟨g,a,none⟩ (.int .i32 (cN (decide (0<=v)&&decide (v<z))))).drew base g n kc (m.set a (cN (decide (0<=v)&&decide (v<z)))):=(eN.set a dJ (cN (decide (0<=v)&&decide (v<z)))).ext ((kR _ _).drew);have jq:Kept (λi=>i=s∨i=g) w (w2.setCell ⟨g,a,none⟩ (.int .i32 (cN (decide (0<=v)&&decide (v<z))))).drew:=(Kept.setCell (Kept.ext x2) _ _ (λ_=>.inr rfl)).drew;generalize (w2.setCell ⟨g,a,none⟩ (.int .i32 (cN (decide (0<=v)&&decide (v<z))))).drew=W3 at qL xf jq⊢;exact zp):G:=h
theorem abI (h:G:=by
 clear hv hz;go_upto_region 30 with(fail);refine fH (λw3=>al w2 w3) [(0,2),(1,2),(2,1),(3,2),(4,1),(5,2),(6,2),(7,1),(8,2),(9,2)] ?_;refine fI ?_;refine X_ ?_;refine fx ?_;have qL:oF w2.drew s 47 pc (some ⟨g,0,none⟩) n kc 0:=gx;have xf:eg w2.drew base g n kc m:=eN.ext ((kR _ _).drew);have jq:Kept (λi=>i=s∨i=g) w w2.drew:=(Kept.ext x2).drew;have hI3:ai w2.drew ic 71 _:=ki;have aon:=bC hI3;exact zp):G:=h
theorem akp (h:G:=by
 have HR:=J (show X=none by rw [gq.o,mJ];rfl);clear mJ;exact abJ):G:=h
theorem abJ (h:G:=by
 go_wp21;refine(kh _).mono ?_;rintro e w9 ⟨rfl,tF⟩;clear dW fE gl gg jL o8 o6 o5 nO;have cy:=J (cy.o.trans tF);refine Oy ?_;intro dW fE gl gg jL o8 o6 o5 nO;clear tF;exact Db):G:=h
theorem akq (h:G:=by
 refine fx ?_;have qL:oF (w2.setCell ⟨g,a,none⟩ (.int .i32 (v))).drew s 47 pc (some ⟨g,0,none⟩) n kc 0:=ai.kV gx (p:=⟨g,a,none⟩) nT (.int .i32 (v));have xf:eg (w2.setCell ⟨g,a,none⟩ (.int .i32 (v))).drew base g n kc (m.set a (v)):=(eN.set a dJ (v)).ext ((kR _ _).drew);have jq:Kept (λi=>i=s∨i=g) w (w2.setCell ⟨g,a,none⟩ (.int .i32 (v))).drew:=(Kept.setCell (Kept.ext x2) _ _ (λ_=>.inr rfl)).drew;generalize (w2.setCell ⟨g,a,none⟩ (.int .i32 (v))).drew=W3 at qL xf jq⊢;exact zp):G:=h
theorem akr (h:G:=by
 refine zy5 ?_;intro dW fE gl gg jL Is Dk o8 o6 o5 nO;exact Yl):G:=h
theorem akt (h:G:=by
 refine wl ?_;refine fx ?_;have yr:=cC.o;exact Ye):G:=h
theorem akz (h:G:=by
 go_wp2_with fail;exact Yi):G:=h
theorem Yi (h:G:=by
 refine(aW false _ _ _).mono ?_;rintro e w8 ⟨he,rfl⟩;have he:=cK.some he;subst he;exact Yj):G:=h
theorem akD (h:G:=by
 have HR:=J (show X=some ⟨6,s⟩by rw [eU.o,<-HV.o];rfl);exact afT):G:=h
theorem akG (h:G:=by
 (refine dG aV aV (λK hK=>?_);go_simp)
 refine(aW false _ _ _).mono ?_;rintro e w1 ⟨he,rfl⟩;have he:e=.panicked (SX ⟨3,E0⟩):=he;subst he;have pO:=J (sY.o.ext cC.o);have gZ:=J (Kept.ext (S:=SG cb g) (dS.o.trans cC.o));exact Ln):G:=h
theorem akI (h:G:=by
 have qn:(v==1)=false:=by simp [mJ]
 have HR:=J (show X=some ⟨11,s⟩by rw [eU.o,qn];rfl);refine C9 ?_;intro K hK
 try rw [Kd]
 exact qH):G:=h
theorem abL (h:G:=by
 refine afK ?_;intro dW fE gl gg;exact Yk):G:=h
theorem akL (h:G:=by
 have HR:=J (show X=some ⟨11,name⟩by rw [gq.o,n1,aM]);clear mJ;exact Db):G:=h
theorem afT (h:G:=by
 have yr:=yt;exact Ye):G:=h
theorem afU (h:G:=by
 have HR:=J (show X=some ⟨6,name⟩by rw [gf.o,i'];rfl);clear i';exact Db):G:=h
theorem akN (h:G:=by
 have h1:=List.all_eq_true.1 h _ hf;simp only [Bool.or_eq_true,beq_iff_eq]at h1;exact acZ):G:=h
theorem Yk (h:G:=by
 go_wp21;refine bu (t:=166) (g:=rb) (cs:=fM X) Tryz.results146 rfl rfl eL Ov Ou ⟨rfl,?_⟩;exact FE):G:=h
theorem zT (h:G:=by
 go_wp21;refine bu (t:=166) (g:=rb) (cs:=fM X) Tryz.results148 rfl rfl eL Ov Ou ⟨rfl,?_⟩;exact FE):G:=h
theorem Db (h:G:=by
 go_wp21;refine bu (t:=166) (g:=rb) (cs:=fM X) Tryz.results274 rfl rfl eL Ov Ou ⟨rfl,?_⟩;exact FE):G:=h
theorem Yl (h:G:=by
 go_wp21;refine bu (t:=166) (g:=rb) (cs:=fM X) Tryz.results216 rfl rfl eL Ov Ou ⟨rfl,?_⟩;exact FE):G:=h
theorem Dc (h:G:=by
 go_wp21;refine bu (t:=166) (g:=rb) (cs:=fM X) Tryz.results100 rfl rfl eL Ov Ou ⟨rfl,?_⟩;exact FE):G:=h
theorem akT (h:G:=by
 go_ret;exact acY):G:=h
theorem akW (h:G:=by
 try simp only [uM]
 exact Tq):G:=h
theorem ala (h:G:=by
 have he9:=(hi4).ext ya;exact adb):G:=h
theorem alc (h:G:=by
 have hln:(cY l).length=n*8:=by rw [eh,hl]
 exact Yg):G:=h
theorem ald (h:G:=by
 have hln:(zP ds).length=n*3:=by rw [nM,hl]
 exact Yg):G:=h
theorem alh (h:G:=by
 have h1:=hall e he hb;have h0:=(mem_ready.1 hr).1;rw [heq]at h1;exact Yh):G:=h
theorem ali (h:G:=by
 have h1:=ahN j listed qN hj yi h;have h0:=(mem_ready.1 hr).1;exact Yh):G:=h
theorem alj (h:G:=by
 have h1:=hex j listed qN hj yi h;have h0:=(mem_ready.1 hr).1;exact Yh):G:=h
theorem Lf (h:G:=by
 refine(aW false _ _ _).mono ?_;rintro e w8 ⟨he,rfl⟩;have he:=cK.some he;subst he;exact Ln):G:=h
theorem ade (h:G:=by
 have y1:=DI.o.trans aw;refine afC ?_;clear hK K;intro W2 y2 t_;have D_:wr.heap.size<=w1.heap.size:=y1.size;generalize w1.heap.size=fb at t_ D_⊢;have D2:=t_.aC;have Jx:=bH t_;have hfc:=Ji f;have hff:=EJ f;refine ww ?_;intro K hK;have y3:=y2.putAt fb 0 (fM f) (λaP=>absurd aP ad);have Vy:=ai.PS t_ f;refine hK.out _ _ (λ_=>y3) ?_;clear hK K D2 Jx hfc hff;refine LL ?_;generalize putAt W2 fb 0 (fM f)=W3 at y3 Vy⊢;exact Ik.o _ _ ⟨y3,Vy⟩):G:=h
theorem adf (h:G:=by
 have HYS:=J ys;have x9:=bC (bX l0.o ys);have BB:=(bX l0.o ys).lt;obtain⟨Z,hZ⟩:=nm' (ke κ es);rw [<-hZ]at mw;have HZ:=J hZ.symm;clear hZ ys;go_wp21
 go_loopw [49] (λt49 wr=>∃(j:Nat) (R:EF),j+R.len=en/\ke κ R=Z/\t49=.int .i64 j/\mc W N R b (off+j*4)/\al W wr) (λt49 _=>en - (intOf t49).toNat)
 case atStart=>exact⟨0,es,by rw [HN.o,dT],HZ.o,rfl,by simpa using HE.o,HYS.o⟩
 case round=>
  obtain⟨j,R,hj,bw,rfl,hR,hx⟩:=hrel;have⟨mv,HX,ca⟩:=J3' hR hx bw;have x9:=bC (bX l0.o hx);have BB:=(bX l0.o hx).lt;clear hR hx bw
  cases R with
  |nil=>
   exact aka
  |cons rH m' name' q rr=>
   exact afN):G:=h
theorem adg (h:G:=by
 go_wp21
 go_loopw [11,15] (λt11 t15 wx=>∃(i:Nat) (q:i_),i<=0/\t15=.int .i64 i/\t11=q.v/\wx.ownsRow wc.heap.size 21 1 q.v q.n (bj ((List.range i).map (argN p part A)))/\al wc wx) (λ_ t15 _=>0 - (intOf t15).toNat)
 case atStart=>exact⟨0,⟨none,0,0⟩,cI _,rfl,rfl,⟨by simp [bj],.inl ⟨rfl,rfl⟩⟩,kR _ _⟩
 case round=>
  obtain⟨i,q,hi,rfl,rfl,ho,hk⟩:=hrel;have⟨LZ,qu,HQN⟩:=J3' ho hk (show q.n=i by have h:=ho.1;rw [fG]at h;simp at h;omega);clear ho hk;obtain rfl:i=0:=by omega
  exact afV):G:=h
theorem adh (h:G:=by
 have y2:=dQ.o.trans aw;refine hK.out _ _ (λ_=>y2) ?_;clear hK K y1;have MG:=bX s9 aw;have D2:=MG.aC;have Jx:=bH MG;have hfc:=Ji f;have hff:=EJ f;refine ww ?_;intro K hK;have y3:=y2.putAt fb 0 (fM f) (λaP=>absurd aP (by have:=HFL.o;omega));have Vy:=ai.PS MG f;refine hK.out _ _ (λ_=>y3) ?_;clear hK K D2 Jx hfc hff;refine LL ?_;generalize putAt w1 fb 0 (fM f)=W3 at y3 Vy⊢;exact Ik.o _ _ ⟨y3,Vy⟩):G:=h
theorem adi (h:G:=by
 refine zy5 ?_;intro dW fE gl gg jL Is Dk o8 o6 o5 nO;have Gb:=bX zV.o nh.o;have hgf:=bG Gb;have Jx:=bH Gb;have hlf:=Gb.lt;exact Yl):G:=h
theorem adj (h:G:=by
 refine Ld ?_
 (refine dG aV aV (λK hK=>?_);go_simp)
 have HX:=J (dS.o.trans (fp.o.trans qV.o));exact qH):G:=h
theorem acX (h:G:=by
 go_wp21;refine bu (t:=166) (g:=rb) (cs:=fM Z) Tryz.results149 rfl rfl eL Ov Ou ⟨rfl,?_⟩;exact FE):G:=h
theorem zz7 (h:G:=by
 have HF:=J hf;clear hf;go_upto_region 4 with(fail);apply aat (F:=λW2 fb=>al wr W2/\ai W2 fb 166 (fM f))
 case h=>
  intro ky;have Ik:=J ky;clear ky;refine WU (λw1=>al wr w1) (.op 0 1 (.op 1 2 (.op 2 2 (.op 3 2 (.op 4 1 (.op 5 2 (.op 6 2 (.op 7 2 (.op 8 2 (.op 9 2 (.op 10 2 (.op 11 2 (.op 12 2 (.op 13 2 (.op 14 2 (.fork 15 (.op 16 0 (.op 17 0 .nil)) 16 (.op 15 0 (.op 17 0 .nil)))))))))))))))))) ?_;refine WV ?_;have DI:=J (pg wr)
  (repeat (first|refine nV ?_|((apply c_);(· exact DI.o);(· go_simp);(· (intro w1 hS;have d0:=bX HK.o (cy.o.trans hS);have d1:=bG d0;have d2:=bH d0;have d3:=d0.lt;have d7:=kl hS HHW.o HH0.o;have d8:=iT hS HHW.o Tx.o;have d9:=gK HHW.o hS.size;go_simp;try with_reducible rfl));refine iJ ?_)|((apply cZ);(· exact DI.o);(· go_simp);refine iJ ?_)))
  refine gQ ?_ ?_
  ·(refine ci (λK hK=>?_);go_simp)
   try rw [HLS.o]
   refine(Yu.o _ (HWQ.o.trans DI.o) ((HPL.o.ext (cy.o.trans DI.o)).mono (ax fX.o (cy.o.trans DI.o).size))).mono ?_;rintro e4 w1 ⟨rfl,aw⟩;rw [<-LV.o,<-HF.o];exact ade
  ·refine afF ?_;intro W1 kX y1
   have s9:ai W1 wr.heap.size 166 #[.int .i64 0,.string ⟨#[]⟩]:=by rw [<-kX];exact ai.drew (bN wr _ _)
   refine X7 ?_;clear kX s9;intro fb s9 HFL dQ
   (repeat (first|refine nV ?_|((apply c_);(· exact dQ.o);(· go_simp);(· (intro w1 hS;have d0:=bX HK.o (cy.o.trans hS);have d1:=bG d0;have d2:=bH d0;have d3:=d0.lt;have d7:=kl hS HHW.o HH0.o;have d8:=iT hS HHW.o Tx.o;have d9:=gK HHW.o hS.size;go_simp;try with_reducible rfl));refine iJ ?_)|((apply cZ);(· exact dQ.o);(· go_simp);refine iJ ?_)))
   (refine ci (λK hK=>?_);go_simp)
   try rw [HLS.o]
   refine(Yu.o _ (HWQ.o.trans dQ.o) ((HPL.o.ext (cy.o.trans dQ.o)).mono (ax fX.o (cy.o.trans dQ.o).size))).mono ?_;rintro e4 w1 ⟨rfl,aw⟩;rw [<-LV.o,<-HF.o];exact adh
 case h2=>
  rintro W2 fb ⟨y2,t_⟩;have zV:=J t_;have fp:=J (cy.o.trans y2);clear t_ y2 cy
  cases f with
  |none=>
   go_upto_region 5 with(fail);refine K9 ?_;intro eE;refine K' ?_;refine ajT ?_;intro K hK;rintro e4 w1 ⟨rfl,aw⟩;refine La ?_;clear hK K aw;intro nh;go_wp21;go_roundw
   case rel=>exact⟨m+1,r,by omega,by rw [z_.o,aS],by go_num,by rw [Nat.add_mul,<-gw];exact qR.o,FI.o.2.2,fp.o.trans nh.o⟩
   case measure=>simp only [intOf];omega
  |some f=>
   obtain⟨fe,fn⟩:=f;have hnz:=NZ.o (aax _ _ _ _ _ _ _ _ _ _ _) HF.o.symm;have HR:=J (show Z=some ⟨fe,fn⟩by rw [z_.o,aT]);go_upto_region 5 with(fail);refine K9 ?_;intro eE;refine K' ?_;refine ajT ?_;intro K hK;rintro e4 w1 ⟨rfl,aw⟩;refine La ?_;clear hK K aw;intro nh;have cy:=J (fp.o.trans nh.o);refine afK ?_;intro dW fE gl gg;have o6:=bH (bX HK.o cy.o);have o5:=bG (bX HK.o cy.o);have nO:=(bX HK.o cy.o).lt;have Gb:=bX zV.o nh.o;have hgf:=bG Gb;have Jx:=bH Gb;have hlf:=Gb.lt;exact acX):G:=h
theorem zz8 (h:G:=by
 have hgE:=bG (bX l0.o ys);have hhE:=bH (bX l0.o ys);have BB:=(bX l0.o ys).lt;go_wp21;obtain⟨t,ht⟩:=nm' (target κ k name low);have HK:=J (Ob cb g κ (bV i) aO k name eA en ec low high lA ln lc xA xn xc Gi.o _ (sY.o.ext ys));rw [<-ht]at HK eU;clear ht hgE hhE BB;refine HK.o.mono ?_;rintro e w2 ⟨he,bd⟩
 cases t with
 |some f=>
  exact acW
 |none=>
  have he:=cK.none he;subst he;have mw:=J (show X=aj (ke κ es) none from eU.o);have ys:=ys.trans bd;clear bd HK;exact adf):G:=h
theorem akf (h:G:=by
 generalize (w2.alloc (.cells #[.int .i64 fe,.string fn] 166))=W3 at y3 hV⊢;refine zy7 ?_;clear hV y3 cy;intro fb fL zV eE K hK;rintro e2 w4 ⟨rfl,eS⟩;have nh:=J (eE.o.trans eS);refine hK.out _ _ (λ_=>nh.o) ?_;clear hK K eS;have hnz:=HNF.o;refine fx ?_;have cy:=J (fL.o.trans nh.o);exact adi):G:=h
theorem ako (h:G:=by
 clear Iu;exact adg):G:=h
theorem akw (h:G:=by
 clear hK K;exact adj):G:=h
theorem acO (h:G:=by
 have⟨HF,zu,HNZ⟩:=J3' (show cH i (a_ (fm p.vars) (zM p i)) 0 true (partOf p i)=f by rw [hf,kU,aap]) (show X=aj f (EK p M (i+1))by rw [hf,<-ca.o,U7 p M i aP]) (show NZ f by rw [hf,kU];exact iI _ _ _ _ _);clear hf;apply aat (F:=λW2 fb=>al wr W2/\ai W2 fb 166 (fM f))
 case h=>
  intro ky;have Ik:=J ky;clear ky;refine WU (λw1=>al wr w1) (.op 0 1 (.op 1 2 (.op 2 2 (.op 3 2 (.op 4 1 (.op 5 2 (.fork 6 (.op 7 0 (.op 8 0 .nil)) 7 (.op 6 0 (.op 8 0 .nil))))))))) ?_;refine WV ?_;have DI:=J (pg wr)
  (repeat (first|refine nV ?_|((apply c_);(· exact DI.o);(· go_simp);(· (intro w1 hS;have d0:=bX Lu.o hS;have d1:=bG d0;have d2:=bH d0;have d3:=d0.lt;have d4:=bX HAQ.o hS;have d5:w1.cell? ⟨ab,i,none⟩=some (.slice sA sn sc):=(bC d4 i).trans HAC.o;have d6:=d4.lt;go_simp;try with_reducible rfl));refine iJ ?_)|((apply cZ);(· exact DI.o);(· go_simp);refine iJ ?_)))
  refine gQ ?_ ?_
  ·(refine ci (λK hK=>?_);go_simp)
   refine(Yu.o _ DI.o (qT.o.agS DI.o)).mono ?_;rintro e4 w1 ⟨rfl,aw⟩;rw [HF.o];exact ade
  ·refine afF ?_;intro W1 kX y1
   have s9:ai W1 wr.heap.size 166 #[.int .i64 0,.string ⟨#[]⟩]:=by rw [<-kX];exact ai.drew (bN wr _ _)
   refine X7 ?_;clear kX s9;intro fb s9 HFL dQ
   (repeat (first|refine nV ?_|((apply c_);(· exact dQ.o);(· go_simp);(· (intro w1 hS;have d0:=bX Lu.o hS;have d1:=bG d0;have d2:=bH d0;have d3:=d0.lt;have d4:=bX HAQ.o hS;have d5:w1.cell? ⟨ab,i,none⟩=some (.slice sA sn sc):=(bC d4 i).trans HAC.o;have d6:=d4.lt;go_simp;try with_reducible rfl));refine iJ ?_)|((apply cZ);(· exact dQ.o);(· go_simp);refine iJ ?_)))
   (refine ci (λK hK=>?_);go_simp)
   refine(Yu.o _ dQ.o (qT.o.agS dQ.o)).mono ?_;rintro e4 w1 ⟨rfl,aw⟩;rw [HF.o];exact adh
 case h2=>
  rintro W2 fb ⟨y2,t_⟩;have⟨zV,HYR,cy⟩:=J3' t_ (Ij.o.trans y2) (z_.o.trans y2);clear t_ y2
  cases f with
  |none=>
   go_upto_region 32 with(fail);refine K9 ?_;intro eE;refine K' ?_;refine ajT ?_;intro K hK;rintro e4 w1 ⟨rfl,aw⟩;refine La ?_;clear hK K aw;intro nh;go_wp21;go_roundw
   case rel=>exact⟨i+1,by omega,by go_num,by rw [zu.o,aS],zv.o.trans (HYR.o.trans nh.o)⟩
   case measure=>simp only [intOf];omega
  |some f=>
   obtain⟨fe,fn⟩:=f;have hnz:=NZ.o HNZ.o rfl;have HR:=J (show X=some ⟨fe,fn⟩by rw [zu.o,aT]);go_upto_region 32 with(fail);refine K9 ?_;intro eE;refine K' ?_;refine ajT ?_;intro K hK;rintro e4 w1 ⟨rfl,aw⟩;refine La ?_;clear hK K aw;intro nh;have cy:=J (cy.o.trans nh.o);refine FD ?_;intro dW fE gl gg gY lh lf gU;have Gb:=bX zV.o nh.o;have hgf:=bG Gb;have Jx:=bH Gb;have hlf:=Gb.lt;exact Dc):G:=h
theorem FC (g:K) (h:aoR K->G:=by
 intro QQ;obtain⟨hn,tC,lF,ie,eH,dw,da,dj,sl,aE,sq,jj,kY,lH,nT⟩:=id h;have pV:=dw.lt;have BD:=da.lt;have BE:=dj.lt;have uG:¬g=s:=λe=>nT e.symm;have⟨HX,HN,HO,mD,HA,HR,qQ,mf⟩:=J8' eO hn ie eH sl aE sq bS;clear hn ie eH sl aE sq;go_enter Tryz.func115,Tryz.ntmps115;revert tC lF dw da dj jj kY lH nT pV BD BE uG HX HN HO mD HA HR qQ mf;exact QQ.o):G:=h (J g)
theorem FD (g:K) (h:aoR K->G:=by
 intro QQ;have dW:=bX HD.o cy.o;have fE:=dW.aC;have gl:=bH dW;have gg:=dW.lt;have gY:=bC (bX HB.o cy.o);have lh:=bH (bX HB.o cy.o);have lf:=bG (bX HB.o cy.o);have gU:=(bX HB.o cy.o).lt;revert dW fE gl gg gY lh lf gU;exact QQ.o):G:=h (J g)
theorem Dy (g:K) (h:aoR K->G:=by
 intro QQ;have x2:=x1.trans bd;have ki:=bX dO bd;have gx:=bX dK bd;have eN:=eR.ext bd;have sk:=jn.ext bd;have wM:=bC ki;have jL:=bC gx;have zF:=ai.frozen gx;have lI:=ki.lt;have lS:=gx.lt;have lG:=eN.lt;revert x2 ki gx eN sk wM jL zF lI lS lG;exact QQ.o):G:=h (J g)
theorem zR (g:K) (h:aoR K->G:=by
 intro QQ;refine(J4 s pc 0 (some ⟨g,0,none⟩) n kc A b off c cn cap _ qQ.o jj kY HA.o mD.o dw HR.o).mono ?_;rintro e w1 ⟨e1,aw⟩;revert e w1 e1 aw;exact QQ.o):G:=h (J g)
theorem zy5 (g:K) (h:aoR K->G:=by
 intro QQ;have dW:=bX HD.o cy.o;have fE:=dW.aC;have gl:=bH dW;have gg:=dW.lt;have jL:=bC (bX HS.o cy.o);have Is:=bH (bX HS.o cy.o);have Dk:=bG (bX HS.o cy.o);have o8:=(bX HS.o cy.o).lt;have o6:=bH (bX HK.o cy.o);have o5:=bG (bX HK.o cy.o);have nO:=(bX HK.o cy.o).lt;revert dW fE gl gg jL Is Dk o8 o6 o5 nO;exact QQ.o):G:=h (J g)
theorem X3 (g:K) (h:aoR K->G:=by
 intro QQ;refine fH (λw3=>al w2 w3) [(0,2),(1,2),(2,1),(3,2),(4,2),(5,1),(6,1),(7,2),(8,2),(9,1),(10,2),(11,1),(12,2),(13,2),(14,1),(15,2),(16,1),(17,0),(18,2),(19,0)] ?_;refine fI ?_;exact QQ.o):G:=h (J g)
theorem zy7 (g:K) (h:aoR K->G:=by
 intro QQ;have hV:=hV;generalize w2.heap.size=fb at hV⊢;have fL:=J (cy.o.trans y3);have zV:=J hV;clear hV;refine fH (λw1=>al W3 w1) [(0,1),(1,0),(2,2)] ?_;refine fI ?_;have eE:=J (pg W3)
 (repeat first|refine cx ?_|refine de eE.o ajw ?_|refine dc eE.o ?_)
 (refine au (λK hK=>?_);go_simp)
 refine(kh _).mono ?_;revert fb fL zV eE K hK;exact QQ.o):G:=h (J g)
theorem zy8 (g:K) (h:aoR K->G:=by
 intro QQ;have HB:=J (show ai (putAt wA g 0 #[.int .i64 0,.int .i64 0,.int .i64 (k.params.n:Nat),.int .i64 1,.int .i64 0]) g 169 #[.int .i64 0,.int .i64 0,.int .i64 (k.params.n:Nat),.int .i64 1,.int .i64 0]from ai.cw BA.o 0 _);have HY:=J (show al w (putAt wA g 0 #[.int .i64 0,.int .i64 0,.int .i64 (k.params.n:Nat),.int .i64 1,.int .i64 0])from yA.trans' Pp (λi hi e=>by have:=HG.o;omega));revert HB HY;exact QQ.o):G:=h (J g)
theorem zy9 (g:K) (h:aoR K->G:=by
 intro QQ;have yA:al w (w.alloc (.cells #[.int .i64 0,.int .i64 0,.int .i64 0,.int .i64 0,.int .i64 0] 169)).drew:=(dM w _).drew;refine hK.out _ _ (λ_=>yA) ?_;have bA:=(bN w 169 #[.int .i64 0,.int .i64 0,.int .i64 0,.int .i64 0,.int .i64 0]).drew;generalize (w.alloc (.cells #[.int .i64 0,.int .i64 0,.int .i64 0,.int .i64 0,.int .i64 0] 169)).drew=wA at yA bA⊢;revert wA yA bA;exact QQ.o):G:=h (J g)
theorem Oy (g:K) (h:aoR K->G:=by
 intro QQ;have dW:=bX HD.o cy.o;have fE:=dW.aC;have gl:=bH dW;have gg:=dW.lt;have jL:=bC (bX HS.o cy.o);have o8:=(bX HS.o cy.o).lt;have o6:=bH (bX HK.o cy.o);have o5:=bG (bX HK.o cy.o);have nO:=(bX HK.o cy.o).lt;revert dW fE gl gg jL o8 o6 o5 nO;exact QQ.o):G:=h (J g)
theorem XW (g:K) (h:aoR K->G:=by
 intro QQ;have b6:=b6;rw [LI]at b6⊢;have MD:=bK (bX (bX HB.o y4) y5) k6 anL;have m1:=bC MD;have m2:=MD.lt;have m3:=ai.frozen MD;have LQ:=J MD;have qC:Kept (·=p4+2) W3 w6:=HK.o.trans' ((y4.trans' ((y5.mono (S':=(·=nb)) (λ_ _ f=>f.elim)).trans k6) (λi hi e=>by have b:=qI.o;omega)).mono (S':=(·=p4+2)) (λ_ _ f=>f.elim)) (λ_ _ e=>e);revert b6 MD m1 m2 m3 LQ qC;exact QQ.o):G:=h (J g)
theorem XX (g:K) (h:aoR K->G:=by
 intro QQ;have Ef:=J (ew (eZ p.vars) lj.o.cells);refine fH (λwz=>al wr wz) [(0,2),(1,2),(2,2),(3,2),(4,2),(5,1),(7,2),(8,2),(6,0),(9,2),(10,0)] ?_;refine fI ?_;have yd:al wr wr.drew:=(kR _ wr).drew
 (repeat first|refine cx ?_|refine de yd anI ?_|refine dc yd ?_)
 (refine au (λK hK=>?_);go_simp)
 revert Ef yd K hK;exact QQ.o):G:=h (J g)
theorem ajI (g:K) (h:aoR K->G:=by
 intro QQ;have aF:al w _:=(((dM w (.cells #[.int .u8 p.x0,.int .u8 p.x1,.int .u8 p.x2,.int .u8 p.x3,.int .u8 p.x4,.int .u8 p.x5,.int .u8 p.x6,.int .u8 p.x7] 25)).alloc (.cells B.cells 25)).alloc (.cells s.cells 74)).alloc (.cells Dg.zero.cells 25);have eY:ai _ (w.heap.size+1) 25 B.cells:=ai.alloc (ai.alloc (ai.ea (w.alloc (.cells #[.int .u8 p.x0,.int .u8 p.x1,.int .u8 p.x2,.int .u8 p.x3,.int .u8 p.x4,.int .u8 p.x5,.int .u8 p.x6,.int .u8 p.x7] 25)) _ B.cells _ aB) (.cells s.cells 74)) (.cells Dg.zero.cells 25);have kB:ai _ (w.heap.size+1+1) 74 s.cells:=ai.alloc (ai.ea ((w.alloc (.cells #[.int .u8 p.x0,.int .u8 p.x1,.int .u8 p.x2,.int .u8 p.x3,.int .u8 p.x4,.int .u8 p.x5,.int .u8 p.x6,.int .u8 p.x7] 25)).alloc (.cells B.cells 25)) _ s.cells _ aB) (.cells Dg.zero.cells 25);have fz:ai _ (w.heap.size+1+1+1) 25 Dg.zero.cells:=ai.ea (((w.alloc (.cells #[.int .u8 p.x0,.int .u8 p.x1,.int .u8 p.x2,.int .u8 p.x3,.int .u8 p.x4,.int .u8 p.x5,.int .u8 p.x6,.int .u8 p.x7] 25)).alloc (.cells B.cells 25)).alloc (.cells s.cells 74)) _ _ _ aB;go_enter Tryz.func126,Tryz.ntmps126;revert aF eY kB fz;exact QQ.o):G:=h (J g)
theorem XY (g:K) (h:aoR K->G:=by
 intro QQ;refine(oY 8 _).mono ?_;rintro e w4 ⟨rfl,b4,y4⟩;obtain⟨nb,qX⟩:=nm' wr.heap.size;rw [<-qX]at b4⊢;have qI:=J qX;have nS:W3.heap.size<=wr.heap.size:=HK.o.size;have kc:=bX (bK zU.o HK.o ajH) y4;have l1:=bH kc;have l2:=bG kc;have l3:=kc.lt;clear kc qX;revert w4 y4 nb b4 qI nS l1 l2 l3;exact QQ.o):G:=h (J g)
theorem Tm (g:K) (h:aoR K->G:=by
 intro QQ;have gY:=bC (bK ku.o je.o mS.o.1);have gU:=(bK ku.o je.o mS.o.1).lt;have lh:=bH (bK ku.o je.o mS.o.1);have lf:=bG (bK ku.o je.o mS.o.1);revert gY gU lh lf;exact QQ.o):G:=h (J g)
theorem wl (g:K) (h:aoR K->G:=by
 intro QQ
 (repeat first|refine cx ?_|refine de cC.o afw ?_|refine dc cC.o ?_)
 exact QQ.o):G:=h (J g)
theorem ajJ (g:K) (h:aoR K->G:=by
 intro QQ;refine fH (λw1=>Kept (·=w.heap.size+1) wr w1) [(0,1),(1,2),(2,2),(3,1),(4,2),(5,0),(6,2),(7,2)] ?_;refine fI ?_
 (repeat first|refine cx ?_|refine de fU anH ?_|refine dc fU ?_)
 (refine au (λK hK=>?_);go_simp)
 refine hK.out _ _ (λh=>Kept.putAt h _ _ _ (λ_=>rfl)) ?_;clear hK K;refine fx ?_;have tV:ai (putAt wr (w.heap.size+1) 0 (ae jk (some ⟨g,0,none⟩) n kc bU)).drew (w.heap.size+1) 47 (ae jk (some ⟨g,0,none⟩) n kc bU):=ai.cw O9 _ _;have y5:al w (putAt wr (w.heap.size+1) 0 (ae jk (some ⟨g,0,none⟩) n kc bU)).drew:=(Kept.putAt yr _ _ _ (λh=>by omega)).drew;have hM5:eg (putAt wr (w.heap.size+1) 0 (ae jk (some ⟨g,0,none⟩) n kc bU)).drew w.heap.size g n kc m':=hM.kept ((Kept.putAt (S:=(·=w.heap.size+1)) (kR _ wr) _ _ _ (λ_=>rfl)).drew) ad;revert tV y5 hM5;exact QQ.o):G:=h (J g)
theorem K9 (g:K) (h:aoR K->G:=by
 intro QQ;refine fH (λw1=>al W2 w1) [(0,1),(1,0),(2,2)] ?_;refine fI ?_;have eE:=J (pg W2);revert eE;exact QQ.o):G:=h (J g)
theorem Ee (g:K) (h:aoR K->G:=by
 intro QQ;have qB:=iO.size;have jx:=kl iO ad hh;have hg':=iT iO ad hg;have gB:b<wr.heap.size:=by omega
 revert qB jx hg' gB;exact QQ.o):G:=h (J g)
theorem mQ (g:K) (h:aoR K->G:=by
 intro QQ;have dO:=dO;have l1:=l1;generalize w1.heap.size=ic at dO l1⊢;have ma:=bH dO;have mI:=bG dO;revert ic dO l1 ma mI;exact QQ.o):G:=h (J g)
theorem afA (g:K) (h:aoR K->G:=by
 intro QQ;refine fH (λw2=>al W2 w2) [(0,2),(1,1),(16,2),(17,1),(2,0),(3,2),(4,2),(5,1),(6,0),(7,2),(8,2),(9,2),(10,1),(11,2),(12,1),(13,2),(14,2),(15,2),(18,0)] ?_;refine fI ?_;have qV:=J (pg W2)
 (repeat first|refine cx ?_|refine de qV.o S8 ?_|refine dc qV.o ?_)
 (refine au (λK hK=>?_);go_simp)
 refine(fT _ _).mono ?_;revert qV K hK;exact QQ.o):G:=h (J g)
theorem xP (g:K) (h:aoR K->G:=by
 intro QQ;have hm:=hf.max ad;have⟨HN,HA,HE⟩:=J3' hn hA hE;revert hm HN HA HE;exact QQ.o):G:=h (J g)
theorem afB (g:K) (h:aoR K->G:=by
 intro QQ;have h2:=wpOp_putIf Rr (Ph j oj Rr yi aaf aeu) (λcs b=>aaj i oi cs b hi) (λcs b=>aaj j oj cs b Rr) hQ hy h1
 have ua:∀k ok,ops[k]?=some ok->k≠i->(listed.setIfInBounds j true).getD k true=false->
  (∀e∈ok.after,Region.binds md e=true->e.on≠i)->oi.apart ops ok=true:=λk ok hk hki hun Dr=>by
  exact ajY
 refine wpOp_mono (λa' w' h3=>?_) h2;revert h2 ua a' w' h3;exact QQ.o):G:=h (J g)
theorem afC (g:K) (h:aoR K->G:=by
 intro QQ;refine hK.out _ _ (λ_=>y1) ?_
 (repeat refine nV ?_)
 (refine ci (λK hK=>?_);go_simp)
 have y2:=y1.alloc (.cells #[.int .i64 0,.string ⟨#[]⟩] 166);have t_:=bN w1 166 #[.int .i64 0,.string ⟨#[]⟩];refine hK.out _ _ (λ_=>y2) ?_;clear hK K;generalize Jq:w1.alloc (.cells #[.int .i64 0,.string ⟨#[]⟩] 166)=W2 at y2 t_⊢;clear Jq;revert W2 y2 t_;exact QQ.o):G:=h (J g)
theorem ajK (g:K) (h:aoR K->G:=by
 intro QQ;refine WU (λw2=>al W w2) (.op 0 2 (.op 1 1 (.op 2 2 (.op 3 1 (.op 4 2 (.op 5 1 (.op 6 2 (.op 7 1 (.fork 8 (.op 9 2 (.op 10 0 (.op 11 0 .nil))) 10 (.op 8 0 (.op 9 2 (.op 11 0 .nil)))))))))))) ?_;refine WV ?_
 (repeat (first|refine nV ?_|((apply c_);(· exact fU);(· go_simp);(· (intro w1 hS;have d1:=bC (bX LA hS);have d2:=bC (bX Io hS);go_simp;try with_reducible rfl));refine iJ ?_)|((apply cZ);(· exact fU);(· go_simp);refine iJ ?_)))
 have y:al W W.drew:=(kR _ W).drew;revert y;exact QQ.o):G:=h (J g)
theorem Tn (g:K) (h:aoR K->G:=by
 intro QQ;have KL:=J (show jm w0 N lA l.len l from⟨rfl,n2,bl,ol,a2,hl⟩);have KX:=J (show jm w0 N xA x.len x from⟨rfl,n3,bx,ox,a3,zL⟩);revert KL KX;exact QQ.o):G:=h (J g)
theorem anM (g:K) (h:aoR K->G:=by
 intro QQ;have Pp:Kept (·=g) wA (putAt wA g 0 #[.int .i64 0,.int .i64 0,.int .i64 (k.params.n:Nat),.int .i64 1,.int .i64 0]):=Kept.putAt (kR _ _) _ 0 _ (λ_=>rfl);revert Pp;exact QQ.o):G:=h (J g)
theorem ajL (g:K) (h:aoR K->G:=by
 intro QQ;obtain⟨⟨sA,sn,sc⟩,hs⟩:∃s,s=Y8 (⟨p.name,p.aL,⟨kA,j,kc⟩,⟨vA,vn,vc⟩,cs,⟨tA,tn,tc⟩,⟨A,n,cc⟩,iD,p.silent,cq,⟨zA,zn,zc⟩⟩:Pc) i:=⟨_,rfl⟩;have hpt:=(jh.o.ext z_.o fX.o).part i;have hac:=R7 (⟨p.name,p.aL,⟨kA,j,kc⟩,⟨vA,vn,vc⟩,cs,⟨tA,tn,tc⟩,⟨A,n,cc⟩,iD,p.silent,cq,⟨zA,zn,zc⟩⟩:Pc) i aP;rw [<-hs]at hpt hac;have TD:=J hpt;have HAC:=J (show(pv (⟨p.name,p.aL,⟨kA,j,kc⟩,⟨vA,vn,vc⟩,cs,⟨tA,tn,tc⟩,⟨A,n,cc⟩,iD,p.silent,cq,⟨zA,zn,zc⟩⟩:Pc))[i]?=some (Value.slice sA sn sc)from hac);clear hs hpt hac;obtain⟨f,hf⟩:=nm' (kU p i);revert sA sn sc TD HAC f hf;exact QQ.o):G:=h (J g)
theorem afD (g:K) (h:aoR K->G:=by
 intro QQ;refine LL ?_;have y9:al W1 (w4.alloc (.cells (oq none 0 0 c b wm 0 sm em) 303)):=(y4).alloc _;have xZ:=bN w4 303 (oq none 0 0 c b wm 0 sm em);have wN:W1.heap.size<=w4.heap.size:=(y4).size;have ya:al w4 (w4.alloc (.cells (oq none 0 0 c b wm 0 sm em) 303)):=dY w4 _;revert y9 xZ wN ya;exact QQ.o):G:=h (J g)
theorem abA (g:K) (h:aoR K->G:=by
 intro QQ;refine(KA c p A n k l name N _ (ax fX.o cy.o.size) (jh.o.ext cy.o fX.o) (wI.o.ext cy.o)).mono ?_;rintro e w2 ⟨rfl,bd⟩;rw [<-HV.o];have cy:=J (cy.o.trans bd);clear bd;revert w2 cy;exact QQ.o):G:=h (J g)
theorem tj (g:K) (h:aoR K->G:=by
 intro QQ
 (repeat refine cx ?_)
 (refine au (λK hK=>?_);go_simp)
 revert K hK;exact QQ.o):G:=h (J g)
theorem afE (g:K) (h:aoR K->G:=by
 intro QQ;refine fH (λw2=>al w1 w2) [(0,2),(1,1),(2,2),(3,1),(4,2),(5,1),(6,2),(7,1),(9,1),(8,0),(10,2)] ?_;refine fI ?_
 (repeat first|refine cx ?_|refine de fU zb7 ?_|refine dc fU ?_)
 (refine au (λK hK=>?_);go_simp)
 revert K hK;exact QQ.o):G:=h (J g)
theorem XZ (g:K) (h:aoR K->G:=by
 intro QQ;refine fH (λwz=>al w wz) [(0,2),(1,2),(2,2),(3,1),(4,2),(5,2),(6,2),(7,1),(8,2),(9,2),(10,0),(11,2),(12,0)] ?_;refine fI ?_;exact QQ.o):G:=h (J g)
theorem afF (g:K) (h:aoR K->G:=by
 intro QQ
 (refine ci (λK hK=>?_);go_simp)
 have y1:al wr (wr.alloc (.cells #[.int .i64 0,.string ⟨#[]⟩] 166)).drew:=(dM wr _).drew;refine hK.out _ _ (λ_=>y1) ?_;clear hK K;generalize kX:(wr.alloc (.cells #[.int .i64 0,.string ⟨#[]⟩] 166)).drew=W1 at y1⊢;revert W1 kX y1;exact QQ.o):G:=h (J g)
theorem afG (g:K) (h:aoR K->G:=by
 intro QQ;have b3:=b3;rw [<-qX]at b3⊢;have⟨B3,Y3,qI⟩:=J3' b3 (Y2.o.trans y3) qX;have i1:=bC (bX B2.o y3);have i2:=(bX B2.o y3).lt;have j1:=bC (bX H7.o Y3.o);have j2:=(bX H7.o Y3.o).lt;have l1:=bH (bX H4.o Y3.o);have l2:=bG (bX H4.o Y3.o);have l3:=(bX H4.o Y3.o).lt;clear b3;revert B3 Y3 qI i1 i2 j1 j2 l1 l2 l3;exact QQ.o):G:=h (J g)
theorem K' (g:K) (h:aoR K->G:=by
 intro QQ
 (repeat first|refine cx ?_|refine de eE.o ajw ?_|refine dc eE.o ?_)
 exact QQ.o):G:=h (J g)
theorem ajM (g:K) (h:aoR K->G:=by
 intro QQ;refine fH (λwz=>Kept (·=ob+1) wF wz) [(0,1),(1,2),(2,2),(3,2),(4,2),(5,2),(6,2),(7,2),(8,1),(9,2),(10,2),(11,1),(12,2),(13,2),(14,2),(15,2),(16,0),(17,2)] ?_;refine fI ?_;have yd:al wF wF.drew:=(kR _ wF).drew
 (repeat first|refine cx ?_|refine de (Kept.ext yd) anG ?_|refine dc (Kept.ext yd) ?_)
 have AC:=J (bX DH.o.res yd);have f1:=bH AC.o;have f2:=ai.aC AC.o;have f3:=AC.o.lt
 (refine au (λK hK=>?_);go_simp)
 refine hK.out _ _ (λh=>Kept.putAt h _ _ _ (λ_=>rfl)) ?_;clear hK K;refine fx ?_;revert yd AC f1 f2 f3;exact QQ.o):G:=h (J g)
theorem ww (g:K) (h:aoR K->G:=by
 intro QQ
 (repeat refine nV ?_)
 (refine ci (λK hK=>?_);go_simp)
 revert K hK;exact QQ.o):G:=h (J g)
theorem ajN (g:K) (h:aoR K->G:=by
 intro QQ;have aF:al w _:=(dM w (.cells #[.int .u8 d.x0,.int .u8 d.x1,.int .u8 d.x2,.int .u8 d.x3,.int .u8 d.x4,.int .u8 d.x5,.int .u8 d.x6,.int .u8 d.x7] 25)).alloc (.cells Dg.zero.cells 25);have hA0:ai _ w.heap.size 25 d.cells:=ai.alloc (bN w _ _) (.cells Dg.zero.cells 25);have fz:ai _ (w.heap.size+1) 25 Dg.zero.cells:=ai.ea (w.alloc (.cells #[.int .u8 d.x0,.int .u8 d.x1,.int .u8 d.x2,.int .u8 d.x3,.int .u8 d.x4,.int .u8 d.x5,.int .u8 d.x6,.int .u8 d.x7] 25)) _ _ _ aB;revert aF hA0 fz;exact QQ.o):G:=h (J g)
theorem X_ (g:K) (h:aoR K->G:=by
 intro QQ
 (repeat first|refine cx ?_|refine de fU anJ ?_|refine dc fU ?_)
 exact QQ.o):G:=h (J g)
theorem afH (g:K) (h:aoR K->G:=by
 intro QQ
 have eU:=J (show X=aj (target κ k name low) (aj (ke κ es) none)by
  have hn:named κ k name low high aO=target κ k name low:=by unfold named;rw [ak ad]
  have h:=eU.o;rw [hn,af ad,af ad]at h;exact h)
 revert eU;exact QQ.o):G:=h (J g)
theorem ajO (g:K) (h:aoR K->G:=by
 intro QQ;have aF:al w _:=(dM w (.cells #[.int .u8 leaf.x0,.int .u8 leaf.x1,.int .u8 leaf.x2,.int .u8 leaf.x3,.int .u8 leaf.x4,.int .u8 leaf.x5,.int .u8 leaf.x6,.int .u8 leaf.x7] 25)).alloc (.cells Dg.zero.cells 25);have fz:ai _ (w.heap.size+1) 25 Dg.zero.cells:=ai.ea (w.alloc (.cells #[.int .u8 leaf.x0,.int .u8 leaf.x1,.int .u8 leaf.x2,.int .u8 leaf.x3,.int .u8 leaf.x4,.int .u8 leaf.x5,.int .u8 leaf.x6,.int .u8 leaf.x7] 25)) _ _ _ aB;revert aF fz;exact QQ.o):G:=h (J g)
theorem La (g:K) (h:aoR K->G:=by
 intro QQ;have nh:=J (eE.o.trans aw);refine hK.out _ _ (λ_=>nh.o) ?_;refine fx ?_;revert nh;exact QQ.o):G:=h (J g)
theorem ajP (g:K) (h:aoR K->G:=by
 intro QQ;have aF:al w _:=(dM w (.cells (ae pc (some ⟨b',bL,none⟩) n eF halt) 47)).alloc (.cells (ae 0 none 0 0 0) 47);have hA0:ai _ w.heap.size 47 (ae pc (some ⟨b',bL,none⟩) n eF halt):=ai.alloc (bN w _ _) (.cells (ae 0 none 0 0 0) 47);have fz:ai _ (w.heap.size+1) 47 (ae 0 none 0 0 0):=ai.ea (w.alloc (.cells (ae pc (some ⟨b',bL,none⟩) n eF halt) 47)) _ _ _ aB;have tE:=BG.ext aF;go_enter Tryz.func50,Tryz.ntmps50;revert aF hA0 fz tE;exact QQ.o):G:=h (J g)
theorem abB (g:K) (h:aoR K->G:=by
 intro QQ;refine fH (λw1=>al W w1) [(0,2),(1,1),(2,0),(3,2),(4,2),(5,1),(6,2),(7,2),(8,1),(9,2),(10,1),(11,2),(12,2),(13,0)] ?_;refine fI ?_;exact QQ.o):G:=h (J g)
theorem To (g:K) (h:aoR K->G:=by
 intro QQ;rintro e w1 ⟨rfl,aw⟩;have dQ:=J (cC.o.trans aw);clear aw;refine hK.out _ _ (λ_=>dQ.o) ?_;revert w1 dQ;exact QQ.o):G:=h (J g)
theorem ajQ (g:K) (h:aoR K->G:=by
 intro QQ;refine mO (λw1=>At w1 b t) [true,true,true,true,true,true,true,true,true,false,false,false,false] aV aV aV ?_
 (repeat (first|((apply sV);(· exact ht);(· go_simp);(· (intro w1 hS;have hh:=bH hS;have hg:=bG hS;go_simp;try with_reducible rfl));refine iJ ?_)|((apply sU);(· exact ht);(· go_simp);refine iJ ?_)))
 exact QQ.o):G:=h (J g)
theorem Tp (g:K) (h:aoR K->G:=by
 intro QQ;refine BJ rfl ?_;refine Lib.wp_append_run _ _ _ _ _ rfl _ _ rfl rfl _ _ dz ?_;exact QQ.o):G:=h (J g)
theorem ajR (g:K) (h:aoR K->G:=by
 intro QQ;refine fH (λw2=>al w1 w2) [(0,2),(1,2),(2,1),(12,2),(13,1),(3,0),(4,2),(5,2),(6,2),(7,2),(8,1),(9,1),(10,2),(11,2),(14,0)] ?_;refine fI ?_;have eE:=J (pg w1)
 (repeat first|refine cx ?_|refine de eE.o aft ?_|refine dc eE.o ?_)
 (refine au (λK hK=>?_);go_simp)
 refine(kZ cb g κ E0 0 x.name _ (LR.o.ext (HZW.o.trans (fp.o.trans eE.o)))).mono ?_;revert eE K hK;exact QQ.o):G:=h (J g)
theorem X0 (g:K) (h:aoR K->G:=by
 intro QQ;have c1:=bC DA.o;have c2:=DA.o.lt;have c3:=ai.frozen DA.o;refine fx ?_;clear c1 c2 c3;exact QQ.o):G:=h (J g)
theorem abC (g:K) (h:aoR K->G:=by
 intro QQ;refine fH (λw1=>al W w1) [(0,2),(1,1),(2,0),(3,2),(4,2),(5,2),(6,1),(7,2),(8,2),(9,1),(10,0),(11,2),(12,2)] ?_;refine fI ?_;exact QQ.o):G:=h (J g)
theorem ajS (g:K) (h:aoR K->G:=by
 intro QQ
 
 refine fH (λw2=>al w1 w2) [(0,2),(1,1),(2,2),(3,1),(4,0),(5,2),(6,2),(7,1),(8,2),(9,2),(10,2),(11,1),(12,0),(13,2)] ?_;refine fI ?_;have eE:=J (pg w1)
 (repeat first|refine cx ?_|refine de eE.o afp ?_|refine dc eE.o ?_)
 (refine au (λK hK=>?_);go_simp)
 refine(vh p.vars x.name vA vn vc N _ (jh.o.ext (cy.o.trans eE.o) fX.o).vars).mono ?_;revert eE K hK;exact QQ.o):G:=h (J g)
theorem X1 (g:K) (h:aoR K->G:=by
 intro QQ;have hE4:al W3 wr∨True:=Or.inr trivial;clear hE4;have tZ:OA wr ex st:=De.o.kept HK.o HES.o.1 HES.o.2;revert tZ;exact QQ.o):G:=h (J g)
theorem abD (g:K) (h:aoR K->G:=by
 intro QQ;have D2:∀(fn:Fn) (first cap:Array Value) (w:World),(Instr.makeFunc fn first cap).run Tryz.prog w=.ok (.func fn first cap) w:=λ_ _ _ _=>rfl;revert D2;exact QQ.o):G:=h (J g)
theorem Lb (g:K) (h:aoR K->G:=by
 intro QQ;have y3:=dY w2 (.cells #[.int .i64 0,.string ⟨#[]⟩] 166);have hV:=bN w2 166 #[.int .i64 0,.string ⟨#[]⟩];revert y3 hV;exact QQ.o):G:=h (J g)
theorem abE (g:K) (h:aoR K->G:=by
 intro QQ;have cC:=J (pg W);revert cC;exact QQ.o):G:=h (J g)
theorem C9 (g:K) (h:aoR K->G:=by
 intro QQ
 (repeat refine cx ?_)
 (refine dG aV aV (λK hK=>?_);go_simp)
 revert K hK;exact QQ.o):G:=h (J g)
theorem Lc (g:K) (h:aoR K->G:=by
 intro QQ;have mR:=J hbig;have hr:=bK HRC.o Dh.o ad;have l4:=bH hr;have l5:=ai.aC hr;have l6:=hr.lt;have HR:=J hr;clear hr;revert mR l4 l5 l6 HR;exact QQ.o):G:=h (J g)
theorem X2 (g:K) (h:aoR K->G:=by
 intro QQ;have b0:df (w.alloc (.map #[] 0)) w.heap.size (λ_=>none):=df.made w;have y0:al w (w.alloc (.map #[] 0)):=dM w _;revert b0 y0;exact QQ.o):G:=h (J g)
theorem abF (g:K) (h:aoR K->G:=by
 intro QQ;have q4:=bK (bX H4.o Y3.o) KM.o HQ.o.1;have q7:=bK (bX H7.o Y3.o) KM.o HQ.o.2.1;have i1:=bC q7;have i2:=q7.lt;have i3:=bH q4;have i4:=bG q4;have i5:=q4.lt;clear q4 q7;revert i1 i2 i3 i4 i5;exact QQ.o):G:=h (J g)
theorem afI (g:K) (h:aoR K->G:=by
 intro QQ;have y3:=dY w2 (.cells #[.int .i64 fe,.string fn] 166);have hV:=bN w2 166 #[.int .i64 fe,.string fn];revert y3 hV;exact QQ.o):G:=h (J g)
theorem abG (g:K) (h:aoR K->G:=by
 intro QQ;have MH:=xj.kept k5 ad;have YG:=bK Vc k5 ad;have YJ:=bK Rj k5 ad;have y5:al w w5:=yn.trans' k5 (λj hj e=>by omega);refine cj rfl (.tmp 40) (.tmp 44) 35 rfl rfl rfl rfl Gl ?_;revert MH YG YJ y5;exact QQ.o):G:=h (J g)
theorem afJ (g:K) (h:aoR K->G:=by
 intro QQ;have DB:=J (show wr.cell? ⟨cb,0,none⟩=some (.int .i64 (cells p.vars))from bC Ay.o 0);revert DB;exact QQ.o):G:=h (J g)
theorem anN (g:K) (h:aoR K->G:=by
 intro QQ;refine CN aV (λK hK=>?_);refine BI rfl ?_;refine On _ _ _ _ _ rfl rfl rfl rfl rfl dz ?_;refine hK.out _ _ ?_;clear hK K;refine fx ?_;exact QQ.o):G:=h (J g)
theorem afK (g:K) (h:aoR K->G:=by
 intro QQ;have dW:=bX HD.o cy.o;have fE:=dW.aC;have gl:=bH dW;have gg:=dW.lt;revert dW fE gl gg;exact QQ.o):G:=h (J g)
theorem Oz (g:K) (h:aoR K->G:=by
 intro QQ;have aF:al w _:=dM w (.cells Dg.zero.cells 25);have fz:=bN w 25 Dg.zero.cells;revert aF fz;exact QQ.o):G:=h (J g)
theorem X4 (g:K) (h:aoR K->G:=by
 intro QQ;have HB:=HB;have HY:=HY;generalize (putAt wA g 0 #[.int .i64 0,.int .i64 0,.int .i64 (k.params.n:Nat),.int .i64 1,.int .i64 0])=w4 at HB HY⊢;revert w4 HB HY;exact QQ.o):G:=h (J g)
theorem anO (g:K) (h:aoR K->G:=by
 intro QQ;refine hK.out _ _ ?_;refine fx ?_;have fL:=J (fp.o.trans eE.o);go_upto_region 8 with(fail);generalize Vl:W2.drew=W3 at fL⊢;clear Vl;refine fH (λw1=>al W3 w1) [(0,2),(1,2),(2,2),(3,1),(4,2),(5,1),(6,1),(7,2),(8,2),(9,1),(10,2),(11,2),(12,2),(13,1),(14,0)] ?_;refine fI ?_;have qU:=J (pg W3);revert W3 fL qU;exact QQ.o):G:=h (J g)
theorem ajT (g:K) (h:aoR K->G:=by
 intro QQ
 (refine au (λK hK=>?_);go_simp)
 refine(kh _).mono ?_;revert K hK;exact QQ.o):G:=h (J g)
theorem Ld (g:K) (h:aoR K->G:=by
 intro QQ
 (repeat first|refine cx ?_|refine de qV.o S8 ?_|refine dc qV.o ?_)
 exact QQ.o):G:=h (J g)
theorem X5 (g:K) (h:aoR K->G:=by
 intro QQ
 (repeat first|refine cx ?_|refine de qU.o ajt ?_|refine dc qU.o ?_)
 exact QQ.o):G:=h (J g)
theorem X6 (g:K) (h:aoR K->G:=by
 intro QQ
 (repeat first|refine cx ?_|refine de cC.o afx ?_|refine dc cC.o ?_)
 exact QQ.o):G:=h (J g)
theorem X7 (g:K) (h:aoR K->G:=by
 intro QQ;have s9:=s9;have D_:wr.heap.size<=wr.heap.size:=cr _;generalize aem:(wr.heap.size:Nat)=fb at s9 D_⊢;have HFL:=J (show wr.heap.size<=fb by omega);clear D_ aem;have dQ:=J y1
 (repeat refine nV ?_)
 revert fb s9 HFL dQ;exact QQ.o):G:=h (J g)
theorem afL (g:K) (h:aoR K->G:=by
 intro QQ
 (repeat first|refine cx ?_|refine de qU.o zb2 ?_|refine dc qU.o ?_)
 exact QQ.o):G:=h (J g)
theorem X8 (g:K) (h:aoR K->G:=by
 intro QQ;have aE:=(HE.o ad).2.ext HX.o;obtain⟨jx,hg'⟩:=oB aE j d_;have gB:=aE.lt;obtain⟨x,fj⟩:=nm' (p.vars[j]);rw [<-fj]at hg';have gZ:=J fj;clear aE fj;revert jx gB x hg' gZ;exact QQ.o):G:=h (J g)
theorem ajU (g:K) (h:aoR K->G:=by
 intro QQ;refine fH (λw1=>al W w1) [(0,2),(1,2),(2,2),(3,2),(4,2),(5,2),(6,2),(7,1),(8,2),(9,2),(10,2),(11,2),(12,2),(13,2),(14,2),(15,2),(16,2),(17,1),(18,2),(19,1),(20,2),(21,2),(22,2),(23,2),(24,2),(25,1),(26,2),(27,0),(28,2),(29,2)] ?_;refine fI ?_;exact QQ.o):G:=h (J g)
theorem X9 (g:K) (h:aoR K->G:=by
 intro QQ;have aF:=dY w (.cells c.cells 39);have hB:=bN w 39 c.cells;revert aF hB;exact QQ.o):G:=h (J g)
theorem abH (g:K) (h:aoR K->G:=by
 intro QQ;have nh:=J (eE.o.trans eS);refine hK.out _ _ (λ_=>nh.o) ?_;refine fx ?_;have cy:=J (fL.o.trans nh.o);revert nh cy;exact QQ.o):G:=h (J g)
theorem ajV (g:K) (h:aoR K->G:=by
 intro QQ;refine(KA c p A n k l s N _ (ax hN (aF.trans (dS.o.trans ys)).size) (HP.o.ext (aF.trans (dS.o.trans ys)) hN) (HL.o.ext (aF.trans (dS.o.trans ys)))).mono ?_;rintro e w1 ⟨rfl,hxs⟩;obtain⟨v,hv⟩:=nm' (a_ (fm p.vars) l s);rw [<-hv];have HV:=J hv;have yt:=ys.trans hxs;have aad:=bC (bX l0.o yt);revert w1 hxs v hv HV yt aad;exact QQ.o):G:=h (J g)
theorem ajW (g:K) (h:aoR K->G:=by
 intro QQ;have eN:eg (putAt w1 w.heap.size 0 (ae pc (some ⟨g,0,none⟩) n kc halt)) w.heap.size g n kc m:=eI (eR.kept (Kept.putAt (S:=(·=w.heap.size)) (kR _ w1) w.heap.size 0 (ae pc (some ⟨g,0,none⟩) n kc halt) (λ_=>rfl)) ad) ad;revert eN;exact QQ.o):G:=h (J g)
theorem afM (g:K) (h:aoR K->G:=by
 intro QQ;refine fH (λw1=>al W3 w1) [(0,2),(1,2),(2,2),(3,1),(4,2),(5,1),(6,1),(7,2),(8,2),(9,2),(10,1),(11,0)] ?_;refine fI ?_;exact QQ.o):G:=h (J g)
theorem X' (g:K) (h:aoR K->G:=by
 intro QQ;refine fx ?_;refine anM ?_;intro Pp;refine zy8 ?_;intro HB HY;clear Pp;refine X4 ?_;clear HB HY;intro w4 HB HY;revert w4 HB HY;exact QQ.o):G:=h (J g)
theorem Ya (g:K) (h:aoR K->G:=by
 intro QQ;have Ly:=J (HPJ.o.kept qu.o anK (λi e=>by have:=Yw.o;omega));refine afJ ?_;intro DB;revert Ly DB;exact QQ.o):G:=h (J g)
theorem Le {G G':Prop} (g:G') (h:G'->G:=by
 intro qq;have QQ:=J qq;clear qq;obtain⟨hn,hf,b,off,hA,hE⟩:=id h;refine xP ?_;intro hm HN HA HE;have HI:=J IH;clear hn hA hE hf;revert b off hm HN HA HE HI;exact QQ.o):G:=h g
theorem aoS {P:Program} {f:Nat} {a:Array Value} {w:World} {v:Value} {Q:World→Prop} {R:Ending→World→Prop} (h:Calls P f a w λe w'=>e=.returned v/\Q w') (k:∀w',Q w'→R (.returned v) w'):Calls P f a w R:=h.mono (λ_ w' ⟨e,q⟩=>e▸k w' q)
theorem aoT {P:Program} {f:Nat} {a:Array Value} {w:World} {v:Value} {R:Ending→World→Prop} (h:Calls P f a w λe w'=>e=.returned v/\w=w') (k:R (.returned v) w):Calls P f a w R:=h.mono (λ_ _ ⟨e,q⟩=>e▸q▸k)
