/- Several texts joined: Jr. -/
import Derived.Test.YtbfbabbcdochjaaGreatDoorRmpk
import Derived.Test.YtbfbabbcdochjaaGreatDoorRmbf
set_option maxHeartbeats 4000000
set_option maxRecDepth 100000
open Go.Proofs.Tryz
namespace Go.Proofs.YtbfbabbcdochjaaGreatDoor
open Go.RowKit So Mc
theorem fI:jQ prog 38=true:=by kernel_rfl
theorem uI:sizeT prog 38=some 7:=by kernel_rfl
theorem EG {dst:Option Tmp} {ty':TypeId} {x:Operand} {pos:String} {after:Array Edge} {guard:Option (Nat×Bool)} {a:Act} {w:World} {K:Act->World->Prop} {Q:Exit->Act->World->Prop} (hx:iy (a.eval x)=true) (hh:has w (bE (a.eval x)) (bJ (a.eval x)) 7=true):
 Oper.wp prog {dst:=dst,op:=.load 38 x,type:=ty',pos:=pos,after:=after,guard:=guard} a w K Q=K (a.put dst (.agg (gets w (bE (a.eval x)) (bJ (a.eval x)) 7))) w:=dJ 7 fI uI hx hh
theorem L9 {ρ:Operand->Value} {dst:Option Tmp} {ty':TypeId} {x:Operand} {pos:String} {after:Array Edge} {guard:Option (Nat×Bool)} {w:World} (hx:iy (ρ x)=true) (hh:has w (bE (ρ x)) (bJ (ρ x)) 7=true):
 (execOp ρ {dst:=dst,op:=.load 38 x,type:=ty',pos:=pos,after:=after,guard:=guard}).run prog w=.ok (.value (.agg (gets w (bE (ρ x)) (bJ (ρ x)) 7))) w:=aZ 7 fI uI hx hh
theorem LG (w:World) (g off:Nat) (hh:has w g off 7=true):(loadVar 38 ⟨g,off,none⟩).run prog w=.ok (.agg (gets w g off 7)) w:=jy prog w _ g off 7 fI uI hh
attribute [go_sem] fI uI
attribute [go_sem↓high] EG LG L9
attribute [go_sem high] EG
structure Ou where (vars:List Int) (refused:Bool) (seat cell sides:Int) (asks:List Int) (rest:Int)
structure fU where (vars:jg) (refused:Bool) (seat cell sides:Int) (asks:jg) (rest:Int)
abbrev fU.c (v:fU):Array Value:=#[v.vars.v,.bool v.refused,.int .i64 v.seat,.int .i64 v.cell,.int .i64 v.sides,v.asks.v,.int .i64 v.rest]
abbrev fu:fU:=⟨⟨none,0,0⟩,false,0,0,0,⟨none,0,0⟩,0⟩
structure jE (w w':World) (v:fU) (o:Ou):Prop where
 vars:w'.ownsRow w.heap.size 21 1 v.vars.v v.vars.n (aM o.vars)
 asks:w'.ownsRow w.heap.size 21 1 v.asks.v v.asks.n (aM o.asks)
 refused:v.refused=o.refused
 seat:v.seat=o.seat
 cell:v.cell=o.cell
 sides:v.sides=o.sides
 rest:v.rest=o.rest
def jO (p:Pr):Nat:=(cells p.vars).toNat
def tu (p:Pr) (part:Nat) (halt:Int) (m:List Int):Ou:=
 if halt=2 then⟨[],true,0,0,0,[],0⟩
 else if part=1 then⟨[],false,m.getD (jO p+4) 0,0,0,[],0⟩
 else if part=4 then⟨[],false,0,0,0,(m.drop (jO p+8)).take p.seats.toNat,m.getD (jO p+7) 0⟩
 else if part=2 then⟨m.take (jO p),false,0,m.getD (jO p+5) 0,m.getD (jO p+6) 0,[],0⟩
 else⟨m.take (jO p),false,0,0,0,[],0⟩
theorem eD (w:World) (base:Nat):w.ownsRow base 21 1 (jg.v ⟨none,0,0⟩) 0 (aM []):=⟨rfl,.inl ⟨rfl,rfl⟩⟩
theorem slL (W:World) (g n cap l:Nat) (h1:l<=n) (h2:l<cap):(Instr.slice 27 (.slice (some ⟨g,0,none⟩) n cap) (some (.int .i64 (l:Int))) none none).run prog W=.ok (.slice (some ⟨g,l,none⟩) (n - l) (cap - l)) W:=by
 refine afq ?_;intro hz ht' he;rw [run_slice_l W 27 _ _ _ ht' .i64 _ aj aj,he,hz]
 by_cases h0:l=0
 ·subst h0;simp [Result.andThen,sliced,Addr.add]
 ·have:¬cap=l:=by omega
  simp [Result.andThen,sliced,Addr.add,h0,this]
theorem slH (W:World) (g n cap h:Nat) (h2:h<=cap):(Instr.slice 27 (.slice (some ⟨g,0,none⟩) n cap) none (some (.int .i64 (h:Int))) none).run prog W=.ok (.slice (some ⟨g,0,none⟩) h cap) W:=by
 refine afq ?_;intro hz ht' he;rw [run_slice_h W 27 _ _ _ ht' .i64 _ aj aj,he,hz];simp [Result.andThen,sliced,Addr.add]
theorem alp (W:World) (g o n cap l h:Nat) (h1:l<=h) (h2:h<=cap) (h3:0<l) (h4:l<cap):(Instr.slice 27 (.slice (some ⟨g,o,none⟩) n cap) (some (.int .i64 (l:Int))) (some (.int .i64 (h:Int))) none).run prog W=.ok (.slice (some ⟨g,o+l,none⟩) (h - l) (cap - l)) W:=by
 refine afq ?_;intro hz ht' he;rw [run_slice_lh W 27 _ _ _ ht' .i64 .i64 _ _ aj aj aj,he,hz];have a1:¬cap=l:=by omega
 have a2:¬l=0:=by omega
 simp [Result.andThen,sliced,Addr.add,a1,a2]
theorem wY (b off cap:Nat) (l:List Int) (n:Nat) (hn:n=l.length) (h2:n<=4096) (w:World) (hr:Row w b off (aM l)):
 Calls prog 66 #[.slice (some ⟨b,off,none⟩) n cap] w λe w'=>∃s:jg,e=.returned s.v/\s.n=n/\w'.ownsRow w.heap.size 21 1 s.v s.n (aM l)/\Ext w w':=by
 obtain⟨v2,w2,hr2,ho2,hk2⟩:=FI (w.alloc (.cells #[] 21)) _ _ 0 [] (vv w 21 1) b off n cap l hn (hr.ext ((kR _ w).alloc _)) aj aG;obtain⟨A2,c2,rfl⟩:=kQ ho2;have HN:=J hn;clear hn;have heq:=λw=>Lib.run_eql_slice_nil (P:=prog) w 27 21 (some ⟨b,off,none⟩) n cap 0 0 underlying27;simp only [Option.isNone_some]at heq;have HO:=J ho2;have HK:=J hk2;clear ho2 hk2;go_enter func66,ntmps66;go_upto_region 3 with(fail);go_step
 iterate 2 refine qY ?_
 refine fM rfl (.tmp 5) (.tmp 6) 27 rfl rfl rfl rfl hr2 ?_;clear hr2;go_wp2_with fail;go_ret;have ho3:=HO.out;rw [List.nil_append,Nat.zero_add]at ho3;exact⟨⟨A2,n,c2⟩,rfl,rfl,ho3,((kR _ w).alloc _).trans' HK.out (λi hi e=>by simp [Value.ownBlock]at e;omega)⟩
theorem Row.seg {w:World} {b off:Nat} {l:List Int} (h:Row w b off (aM l)) (j m:Nat) (hj:j+m<=l.length):Row w b (off+j) (aM ((l.drop j).take m)):=by
 obtain⟨h1,h2⟩:=h.sub j m (by rw [dQ];exact hj);have e:(aM ((l.drop j).take m)).length=m:=by rw [dQ];simp;omega
 have e2:((aM l).drop j).take m=aM ((l.drop j).take m):=by simp [aM,List.map_take,List.map_drop]
 rw [e2]at h2;exact⟨by rw [e];exact h1,by rw [e];exact h2,h.lt⟩
theorem Row.mem' {w:World} {b:Nat} {l:List Int} (h:Row w b 0 (aM l)) (k:Nat) (hk:k<l.length):w.cell? ⟨b,k,none⟩=some (.int .i32 (l.getD k 0)):=by
 have:=h.mem k hk;rw [Nat.zero_add]at this;rw [this];simp [hk]
theorem nK {l:List Int} (h:∀x∈l,au x) (k:Nat):au (l.getD k 0):=by
 by_cases hk:k<l.length
 ·simp [hk];exact h _ (List.getElem_mem hk)
 ·simp [hk];unfold au;omega
inductive N_ (p:Pr) (part:Nat) (halt:Int) (m:List Int) (w w':World):Ending->Prop
 |runs (h:halt=0):N_ p part halt m w w' (.returned (.tuple #[.agg fu.c,.int .i64 10]))
 |ok (h:¬halt=0) (v:fU) (hv:jE w w' v (tu p part halt m)):N_ p part halt m w w' (.returned (.tuple #[.agg v.c,.int .i64 0]))
theorem og (cb N:Nat) (k:Cd) (p:Pr) (part:Nat) (hp:part<=4) (pc halt:Int) (hh:halt=0∨halt=1∨halt=2) (g cap:Nat) (m:List Int) (hm:m.length=bO p) (hcap:bO p<=cap) (hok:∀x∈m,au x) (w:World) (hr:Row w g 0 (aM m)) (hN:N<=w.heap.size) (hC:jZ w N cb k p) (hk:tF p):
 Calls prog 29 #[.pointer (some ⟨cb,0,none⟩),.int .i64 part,.agg (aN pc (some ⟨g,0,none⟩) (bO p) cap halt)] w λe w'=>Ext w w'/\N_ p part halt m w w' e:=by
 have hkc:cells p.vars=((jO p:Nat):Int):=by have:=dS p.vars;unfold jO;omega
 have hmn:bO p=jO p+49:=by have:=dS p.vars;unfold bO jO;omega
 have agQ:jO p<=64:=by have:=hk.cells;omega
 have Bt:=J hkc;have zu:=J hmn;have aaf:=J agQ;have HCAP:=J hcap;have HM:=J hm;have nV:=J hok;have HC:=J hC;have HN:=J hN;have HK:=J hk;have HR:=J hr
 have hb:(decide (0<=(part:Int))&&decide ((part:Int)<5))=true:=by
  rw [Bool.and_eq_true,decide_eq_true_eq,decide_eq_true_eq]
  omega
 have Rw:k.cells+49=((bO p:Nat):Int):=by rw [hC.kc];omega
 have zO:∀w',Ext w w'->Calls prog 30 #[.pointer (some ⟨cb,0,none⟩)] w' λe w''=>e=.returned (.int .i64 (bO p))/\w'=w'':=λw' y=>by
  have h:=rG cb k w' (bX hC.box y) (by rw [hC.kc];omega);rw [Rw]at h;exact h
 have ahj:∀W,(Instr.slice 27 (.slice (some ⟨g,0,none⟩) (bO p) cap) (some (.int .i64 k.cells)) none none).run prog W=.ok (.slice (some ⟨g,jO p,none⟩) 49 (cap - jO p)) W:=λW=>by
  have h:=slL W g (bO p) cap (jO p) aj aj;rw [<-hkc,<-hC.kc,show bO p - jO p=49 by omega]at h;exact h
 have ahk:∀W,(Instr.slice 27 (.slice (some ⟨g,0,none⟩) (bO p) cap) none (some (.int .i64 k.cells)) none).run prog W=.ok (.slice (some ⟨g,0,none⟩) (jO p) cap) W:=λW=>by
  have h:=slH W g (bO p) cap (jO p) aj;rw [<-hkc,<-hC.kc]at h;exact h
 have HSL:=J ahj;have HSH:=J ahk;have HWD:=J zO;obtain⟨W1,hW1⟩:∃W1,W1=(w.alloc (.cells (aN pc (some ⟨g,0,none⟩) (bO p) cap halt) 49)).alloc (.cells fu.c 38):=⟨_,rfl⟩;have y1:Ext w W1:=by rw [hW1];exact((kR _ w).alloc _).alloc _
 have hz1:(w.alloc (.cells (aN pc (some ⟨g,0,none⟩) (bO p) cap halt) 49)).heap.size=w.heap.size+1:=by simp
 have b1:aH W1 w.heap.size 49 (aN pc (some ⟨g,0,none⟩) (bO p) cap halt):=by rw [hW1];exact(bN w _ _).alloc _
 have b2:aH W1 (w.heap.size+1) 38 fu.c:=by rw [hW1];exact aH.new' _ _ _ _ aG
 have alc:bO p=jO p+49:=hmn;clear hkc hmn agQ hcap hm hok hC hN hk hr Rw zO ahj ahk alc;go_enter func29,ntmps29;go_upto_region 1 with(fail)
 try rw [hz1]
 rw [<-hW1];clear hz1 hW1;generalize hsb:(w:World).heap.size=sb at b1 b2⊢;have Bv:=J hsb;have HB1:=J b1;have HB2:=J b2;have dX:=J y1;clear b1 b2 y1 hsb;go_wp2_with fail;refine(nJ _ _).mono ?_;rintro e w1 ⟨rfl,rfl⟩;rw [hb];have l1:=bC HB1.out;have l2:=HB1.out.lt;have l4:=bH HB2.out;have l5:=aH.bF HB2.out;have l6:=HB2.out.lt
 rcases hh with rfl|rfl|rfl
 ·go_wp2_with fail
  have kp:Kept (·=sb+1) W1 (putAt W1 (sb+1) 0 fu.c):=Kept.putAt (kR _ _) _ 0 _ (λ_=>rfl);refine dU (t:=38) (g:=sb+1) (cs:=fu.c) results29 rfl rfl fI sF (by exact aH.gL HB2.out 0 _) ⟨?_,.runs rfl⟩;exact dX.out.trans' kp (λi hi e=>by have:=Bv.out;omega)
 rotate_left
 ·go_upto_region 4 with(fail)
  refine gM (λwz=>Ext W1 wz) [(0,2),(1,1),(2,2),(3,2),(4,0),(5,2),(6,2)] ?_;refine gN ?_;have yd:Ext W1 W1.drew:=(kR _ W1).drew
  (repeat first|refine cu ?_|refine dL yd ais ?_|refine dK yd ?_)
  (refine aC (λK hK=>?_);go_simp)
  go_wp2_with fail;refine(HWD.out _ (dX.out.trans yd)).mono ?_;rintro e w5 ⟨rfl,rfl⟩;refine hK.out _ _ (λ_=>yd) ?_;clear hK K;refine gI ?_;have HD1:=J (HB1.out.drew);have HD2:=J (HB2.out.drew);clear l1 l2 l4 l5 l6;generalize W1.drew=W2 at HD1 HD2 yd⊢;have fH:=J (dX.out.trans yd);clear yd;have l1:=bC HD1.out;have l2:=HD1.out.lt;have l4:=bH HD2.out;have l5:=aH.bF HD2.out;have l6:=HD2.out.lt;go_wp2_with fail;have kp:Kept (·=sb+1) W2 (putAt W2 (sb+1) 0 (fU.c ⟨⟨none,0,0⟩,true,0,0,0,⟨none,0,0⟩,0⟩)):=Kept.putAt (kR _ _) _ 0 _ (λ_=>rfl);refine dU (t:=38) (g:=sb+1) (cs:=fU.c ⟨⟨none,0,0⟩,true,0,0,0,⟨none,0,0⟩,0⟩) results29 rfl rfl fI sF (by exact aH.gL HD2.out 0 _) ⟨?_,.ok ak _ ⟨eD _ _,eD _ _,rfl,rfl,rfl,rfl,rfl⟩⟩;exact fH.out.trans' kp (λi hi e=>by have:=Bv.out;omega)
 ·go_upto_region 4 with(fail)
  refine gM (λwz=>Ext W1 wz) [(0,2),(1,1),(2,2),(3,2),(4,0),(5,2),(6,2)] ?_;refine gN ?_;have yd:Ext W1 W1.drew:=(kR _ W1).drew
  (repeat first|refine cu ?_|refine dL yd ais ?_|refine dK yd ?_)
  (refine aC (λK hK=>?_);go_simp)
  go_wp2_with fail;refine(HWD.out _ (dX.out.trans yd)).mono ?_;rintro e w5 ⟨rfl,rfl⟩;refine hK.out _ _ (λ_=>yd) ?_;clear hK K;refine gI ?_;have HD1:=J (HB1.out.drew);have HD2:=J (HB2.out.drew);clear l1 l2 l4 l5 l6;generalize W1.drew=W2 at HD1 HD2 yd⊢;have fH:=J (dX.out.trans yd);clear yd;have l1:=bC HD1.out;have l2:=HD1.out.lt;have l4:=bH HD2.out;have l5:=aH.bF HD2.out;have l6:=HD2.out.lt;have hsl:=HSL.out;have c1:=bC (bX HC.out.box fH.out);have c2:=(bX HC.out.box fH.out).lt;go_upto_region 8 with(fail)
  go_quiet (fail)
  clear hsl c1 c2 l1 l2 l4 l5 l6;go_upto_region 10 with(fail);have y3:Ext W2 ((W2.drewN nq).alloc (.cells fu.c 38)):=((kR (λ_=>False) W2).drewN nq).alloc _;have bo:aH ((W2.drewN nq).alloc (.cells fu.c 38)) W2.heap.size 38 fu.c:=bN (W2.drewN nq) 38 fu.c;generalize ((W2.drewN nq).alloc (.cells fu.c 38))=W3 at y3 bo⊢;generalize Z7:W2.heap.size=ob at bo⊢;have HRO:=J (show sb+1<ob by have h:W2.heap.size=ob:=Z7;have:=HD2.out.lt;omega);have CV:=J bo;have eX:=J (fH.out.trans y3);have ZT:=J (HD1.out.ext y3);have HR3:=J (HD2.out.ext y3);have pY:=J (HR.out.ext eX.out);have tH:=J (bX HC.out.box eX.out);have Q9:=J (show¬ob=sb+1/\w.heap.size<=ob by have:=Bv.out;have:=HRO.out;omega);clear bo y3 Z7;have o1:=bC CV.out;have o2:=CV.out.lt;have o3:=aH.frozen CV.out;have m2:=pY.out.lt
  by_cases p1:part=1
  ·have e1:((part:Int)==1)=true:=by simp [p1]
   have NT:=J (show tu p part 1 m=⟨[],false,m.getD (jO p+4) 0,0,0,[],0⟩by unfold tu;rw [if_neg ak,if_pos p1]);clear p1;have hx:=Row.mem' pY.out (jO p+4) Vh;have hxo:=nK nV.out (jO p+4);generalize m.getD (jO p+4) 0=x at hx hxo NT;have hwx:IntKind.i64.wrap x=x:=wrap_i64 (by unfold au at hxo;unfold aL;omega);clear hxo;go_upto_region 20 with(fail);clear hx hwx o1 o2 o3 m2;have ks:Kept (·=ob) W3 (W3.setCell ⟨ob,2,none⟩ (.int .i64 x)):=Kept.setCell (kR _ _) _ _ (λ_=>rfl);have SA:=J (show aH (W3.setCell ⟨ob,2,none⟩ (.int .i64 x)) ob 38 (fU.c ⟨⟨none,0,0⟩,false,x,0,0,⟨none,0,0⟩,0⟩)from aH.gW CV.out 2 _);have Wp:=J (bK HR3.out ks (λe=>Q9.out.1 e.symm));have Kr:=J (eX.out.trans' ks (λi hi e=>by have:=Q9.out.2;omega));clear ks;generalize (W3.setCell ⟨ob,2,none⟩ (.int .i64 x))=W8 at SA Wp Kr⊢;have HON:=J (show∀w',jE w w' ⟨⟨none,0,0⟩,false,x,0,0,⟨none,0,0⟩,0⟩ (tu p part 1 m)from λw'=>by rw [NT.out];exact⟨eD _ _,eD _ _,rfl,rfl,rfl,rfl,rfl⟩);refine Sv ?_;intro l1 l2 l3 l4 l5 l6;go_wp2_with fail;have kp:Kept (·=sb+1) W8 (putAt W8 (sb+1) 0 (fU.c ⟨⟨none,0,0⟩,false,x,0,0,⟨none,0,0⟩,0⟩)):=Kept.putAt (kR _ _) _ 0 _ (λ_=>rfl);refine dU (t:=38) (g:=sb+1) (cs:=fU.c ⟨⟨none,0,0⟩,false,x,0,0,⟨none,0,0⟩,0⟩) results29 rfl rfl fI sF abM ⟨?_,.ok ak _ (HON.out _)⟩;exact Kr.out.trans' kp (λi hi e=>by have:=Bv.out;omega)
  ·have e1:((part:Int)==1)=false:=by simp;omega
   by_cases p4:part=4
   ·have e4:((part:Int)==4)=true:=by simp [p4]
    have NT:=J (show tu p part 1 m=⟨[],false,0,0,0,(m.drop (jO p+8)).take p.seats.toNat,m.getD (jO p+7) 0⟩by unfold tu;rw [if_neg ak,if_neg p1,if_pos p4]);have hst:=HK.out.seats;have hks:=HC.out.ks;have hw8:IntKind.i64.wrap (8+k.seats)=8+k.seats:=wrap_i64 jP
    have hsl:∀W,(Instr.slice 27 (.slice (some ⟨g,jO p,none⟩) 49 (cap - jO p)) (some (.int .i64 8)) (some (.int .i64 (8+k.seats))) none).run prog W=.ok (.slice (some ⟨g,jO p+8,none⟩) p.seats.toNat (cap - jO p - 8)) W:=λW=>by
     have h:=alp W g (jO p) 49 (cap - jO p) 8 (8+p.seats.toNat) aj (by have:=HCAP.out;have:=zu.out;omega) aj (by have:=HCAP.out;have:=zu.out;omega);rw [show 8+p.seats.toNat - 8=p.seats.toNat by omega,show(((8+p.seats.toNat:Nat)):Int)=8+k.seats by omega]at h;exact h
    have HSE:=J hst;clear p1 p4 hst hks;have q1:=bC tH.out;have q2:=tH.out.lt;go_wp2_with fail;refine(wY g (jO p+8) (cap - jO p - 8) ((m.drop (jO p+8)).take p.seats.toNat) p.seats.toNat (by have:=HM.out;have:=zu.out;have:=HSE.out;simp;omega) (by have:=HSE.out;omega) W3 (by have h:=Row.seg pY.out (jO p+8) p.seats.toNat (by have:=HM.out;have:=zu.out;have:=HSE.out;omega);rw [Nat.zero_add]at h;exact h)).mono ?_;rintro e w5 ⟨s5,rfl,hs5,ho5,y5⟩;clear o1 o2 o3 m2 hsl q1 q2 hw8;have nC:=J (CV.out.ext y5);have xI:=J (HR3.out.ext y5);have HO5:=J ho5;have hx:=Row.mem' (pY.out.ext y5) (jO p+7) Vh;have hxl:=(pY.out.ext y5).lt;have hxo:=nK nV.out (jO p+7);have kX:=J y5;have HWL:=J (show w.heap.size<=W3.heap.size from eX.out.size);clear hs5 ho5 y5;generalize m.getD (jO p+7) 0=x at hx hxo NT;have hwx:IntKind.i64.wrap x=x:=wrap_i64 (by unfold au at hxo;unfold aL;omega);clear hxo;refine afr ?_;intro o1 o2 o3 fP J8;have ks5:Kept (·=ob) w5 (w5.setCell ⟨ob,5,none⟩ s5.v):=Kept.setCell (kR _ _) _ _ (λ_=>rfl);have B5:aH (w5.setCell ⟨ob,5,none⟩ s5.v) ob 38 (fU.c ⟨⟨none,0,0⟩,false,0,0,0,s5,0⟩):=aH.gW nC.out 5 _;have hx':=(Kept.cell ks5 (p:=⟨g,jO p+7,none⟩) hxl (by have:=HRO.out;have h:=pY.out.lt;have:=Q9.out.2;have:=HR.out.lt;show¬g=ob;omega)).trans hx;have ahm:=Nat.lt_of_lt_of_le hxl ks5.size;go_upto_region 16 with(fail);clear hx hxl o1 o2 o3;have yX:=J (bK xI.out ks5 (λe=>Q9.out.1 e.symm));have Fx:=J (bS HO5.out ks5 (λx hx e=>by subst e;exact fP.out hx));have jc:=J ((eX.out.trans kX.out).trans' ks5 (λi hi e=>by have:=Q9.out.2;omega));clear ks5;generalize (w5.setCell ⟨ob,5,none⟩ s5.v)=W6 at B5 hx' ahm yX Fx jc⊢;have NJ:=J B5;clear B5;have o1:=bC NJ.out;have o2:=NJ.out.lt;have o3:=aH.frozen NJ.out;go_upto_region 20 with(fail);clear hx' ahm hwx o1 o2 o3;have ks:Kept (·=ob) W6 (W6.setCell ⟨ob,6,none⟩ (.int .i64 x)):=Kept.setCell (kR _ _) _ _ (λ_=>rfl);have SA:=J (show aH (W6.setCell ⟨ob,6,none⟩ (.int .i64 x)) ob 38 (fU.c ⟨⟨none,0,0⟩,false,0,0,0,s5,x⟩)from aH.gW NJ.out 6 _);have Wp:=J (bK yX.out ks (λe=>Q9.out.1 e.symm));have Kr:=J (jc.out.trans' ks (λi hi e=>by have:=Q9.out.2;omega));have Wn:=J (bS Fx.out ks (λx hx e=>by subst e;exact fP.out hx));clear ks;generalize (W6.setCell ⟨ob,6,none⟩ (.int .i64 x))=W8 at SA Wp Kr Wn⊢;have HON:=J (show∀w',Kept (·=sb+1) W8 w'->jE w w' ⟨⟨none,0,0⟩,false,0,0,0,s5,x⟩ (tu p part 1 m)from λw' kk=>by rw [NT.out];exact⟨eD _ _,gZ (bS Wn.out kk (λx hx e=>by subst e;exact J8.out hx)) HWL.out,rfl,rfl,rfl,rfl,rfl⟩);refine Sv ?_;intro l1 l2 l3 l4 l5 l6;go_wp2_with fail;have kp:Kept (·=sb+1) W8 (putAt W8 (sb+1) 0 (fU.c ⟨⟨none,0,0⟩,false,0,0,0,s5,x⟩)):=Kept.putAt (kR _ _) _ 0 _ (λ_=>rfl);refine dU (t:=38) (g:=sb+1) (cs:=fU.c ⟨⟨none,0,0⟩,false,0,0,0,s5,x⟩) results29 rfl rfl fI sF abM ⟨?_,.ok ak _ (HON.out _ kp)⟩;exact Kr.out.trans' kp (λi hi e=>by have:=Bv.out;omega)
   ·have e4:((part:Int)==4)=false:=by simp;omega
    by_cases p2:part=2
    ·have e2:((part:Int)==2)=true:=by simp [p2]
     have NT:=J (show tu p part 1 m=⟨m.take (jO p),false,0,m.getD (jO p+5) 0,m.getD (jO p+6) 0,[],0⟩by unfold tu;rw [if_neg ak,if_neg p1,if_neg p4,if_pos p2]);clear p1 p4 p2;have NM:=J (show¬g=ob by have:=HRO.out;have h:=pY.out.lt;have:=Q9.out.2;have:=HR.out.lt;omega)
     have kg:=J (show∀w',Kept (·=ob) W3 w'->w'.cell? ⟨g,jO p+5,none⟩=some (.int .i32 (m.getD (jO p+5) 0))/\w'.cell? ⟨g,jO p+6,none⟩=some (.int .i32 (m.getD (jO p+6) 0))/\g<w'.heap.size from λw' kk=>
      ⟨Row.mem' (pY.out.kept kk NM.out) (jO p+5) Vh,Row.mem' (pY.out.kept kk NM.out) (jO p+6) Vh,(pY.out.kept kk NM.out).lt⟩)
     have hx5:=nK nV.out (jO p+5);have hx6:=nK nV.out (jO p+6);generalize m.getD (jO p+5) 0=x5 at hx5 kg NT;generalize m.getD (jO p+6) 0=x6 at hx6 kg NT;have hw5:IntKind.i64.wrap x5=x5:=wrap_i64 (by unfold au at hx5;unfold aL;omega);have hw6:IntKind.i64.wrap x6=x6:=wrap_i64 (by unfold au at hx6;unfold aL;omega);clear hx5 hx6;go_upto_region 18 with(fail);clear o1 o2 o3 m2;refine gM (λwz=>Kept (·=ob) W3 wz) [(0,2),(1,2),(2,1),(3,1),(4,2),(5,2),(6,1),(7,1),(8,2),(9,0),(10,2),(11,0)] ?_;refine gN ?_;have yd:Kept (·=ob) W3 W3.drew:=(kR _ W3).drew
     (repeat first|refine cu ?_|refine dL yd (by intro w1 hS;obtain⟨d1,d2,d3⟩:=kg.out _ hS;exact gX) ?_|refine dK yd ?_)
     have o1:=bC CV.out.drew;have o2:=CV.out.drew.lt;have o3:=aH.frozen CV.out.drew
     (refine aC (λK hK=>?_);go_simp)
     have ks1:Kept (·=ob) W3 (W3.setCell ⟨ob,3,none⟩ (.int .i64 x5)).drew:=(Kept.setCell (S:=(·=ob)) (kR _ W3) ⟨ob,3,none⟩ (.int .i64 x5) (λ_=>rfl)).drew;have HBx:=J (show aH (W3.setCell ⟨ob,3,none⟩ (.int .i64 x5)).drew ob 38 (fU.c ⟨⟨none,0,0⟩,false,0,x5,0,⟨none,0,0⟩,0⟩)from(aH.gW CV.out 3 _).drew);refine hK.out _ _ (λ_=>ks1) ?_;clear hK K o1 o2 o3;have o1:=bC HBx.out;have o2:=HBx.out.lt;have o3:=aH.frozen HBx.out;refine gI ?_;clear o1 o2 o3 hw5 hw6;have ks2:Kept (·=ob) W3 ((W3.setCell ⟨ob,3,none⟩ (.int .i64 x5)).setCell ⟨ob,4,none⟩ (.int .i64 x6)).drew:=(Kept.setCell (S:=(·=ob)) (Kept.setCell (S:=(·=ob)) (kR _ W3) ⟨ob,3,none⟩ (.int .i64 x5) (λ_=>rfl)) ⟨ob,4,none⟩ (.int .i64 x6) (λ_=>rfl)).drew;have HBy:=J ((aH.gW (aH.gW CV.out 3 (.int .i64 x5)) 4 (.int .i64 x6)).drew);generalize ((W3.setCell ⟨ob,3,none⟩ (.int .i64 x5)).setCell ⟨ob,4,none⟩ (.int .i64 x6)).drew=W4 at ks2 HBy⊢;have NU:=J (bK ZT.out ks2 (by have:=HRO.out;omega));have HR4:=J (bK HR3.out ks2 (by have:=HRO.out;omega));have vL:=J (pY.out.kept ks2 NM.out);have HC4:=J (bK tH.out ks2 (by have:=HC.out.lt;have:=HN.out;have:=Q9.out.2;omega));have o_:=J (eX.out.trans' ks2 (λi hi e=>by have:=Q9.out.2;omega));have ZH:=J (show aH W4 ob 38 (fU.c ⟨⟨none,0,0⟩,false,0,x5,x6,⟨none,0,0⟩,0⟩)from HBy.out);clear ks1 ks2 yd;have hsl:=HSH.out;go_upto_region 19 with(fail);refine gM (λwz=>Ext W4 wz) [(0,2),(1,1),(2,2),(3,2),(4,2),(5,1),(6,2),(7,0),(8,2),(9,0)] ?_;refine gN ?_;have yd:Ext W4 W4.drew:=(kR _ W4).drew
     (repeat first|refine cu ?_|refine dL yd (by intro w1 hS;have d0:=bX NU.out hS;have d1:=bC d0;have d2:=d0.lt;have c0:=bX HC4.out hS;have c1:=bC c0;have c3:=c0.lt;exact gX) ?_|refine dK yd ?_)
     (refine aC (λK hK=>?_);go_simp)
     go_wp2_with fail;refine(wY g 0 cap (m.take (jO p)) (jO p) (by have:=HM.out;have:=zu.out;simp;omega) (by have:=aaf.out;omega) _ (by have h:=Row.seg (vL.out.ext yd) 0 (jO p) Vh;rw [List.drop_zero]at h;exact h)).mono ?_;rintro e w5 ⟨s5,rfl,hs5,ho5,y5⟩;have y6:=yd.trans y5;refine hK.out _ _ (λ_=>y6) ?_;clear hK K hsl hs5;have nC:=J (ZH.out.ext y6);have xI:=J (HR4.out.ext y6);have HO5:=J ho5;have kX:=J (o_.out.trans y6);have HWL:=J (show w.heap.size<=W4.drew.heap.size from o_.out.size);clear ho5 y5 y6 yd;refine afr ?_;intro o1 o2 o3 fP J8;refine gI ?_;clear o1 o2 o3;have ks:Kept (·=ob) w5 (w5.setCell ⟨ob,0,none⟩ s5.v):=Kept.setCell (kR _ _) _ _ (λ_=>rfl);have SA:=J (show aH (w5.setCell ⟨ob,0,none⟩ s5.v) ob 38 (fU.c ⟨s5,false,0,x5,x6,⟨none,0,0⟩,0⟩)from aH.gW nC.out 0 _);have Wp:=J (bK xI.out ks (λe=>Q9.out.1 e.symm));have Kr:=J (kX.out.trans' ks (λi hi e=>by have:=Q9.out.2;omega));have Wn:=J (bS HO5.out ks (λx hx e=>by subst e;exact fP.out hx));clear ks;generalize (w5.setCell ⟨ob,0,none⟩ s5.v)=W8 at SA Wp Kr Wn⊢;have HON:=J (show∀w',Kept (·=sb+1) W8 w'->jE w w' ⟨s5,false,0,x5,x6,⟨none,0,0⟩,0⟩ (tu p part 1 m)from λw' kk=>by rw [NT.out];exact⟨gZ (bS Wn.out kk (λx hx e=>by subst e;exact J8.out hx)) HWL.out,eD _ _,rfl,rfl,rfl,rfl,rfl⟩);refine Sv ?_;intro l1 l2 l3 l4 l5 l6;go_wp2_with fail;have kp:Kept (·=sb+1) W8 (putAt W8 (sb+1) 0 (fU.c ⟨s5,false,0,x5,x6,⟨none,0,0⟩,0⟩)):=Kept.putAt (kR _ _) _ 0 _ (λ_=>rfl);refine dU (t:=38) (g:=sb+1) (cs:=fU.c ⟨s5,false,0,x5,x6,⟨none,0,0⟩,0⟩) results29 rfl rfl fI sF abM ⟨?_,.ok ak _ (HON.out _ kp)⟩;exact Kr.out.trans' kp (λi hi e=>by have:=Bv.out;omega)
    ·have e2:((part:Int)==2)=false:=by simp;omega
     have NT:=J (show tu p part 1 m=⟨m.take (jO p),false,0,0,0,[],0⟩by unfold tu;rw [if_neg ak,if_neg p1,if_neg p4,if_neg p2]);clear p1 p4 p2 o1 o2 o3 m2;have hsl:=HSH.out;go_upto_region 11 with(fail);refine gM (λwz=>Ext W3 wz) [(0,2),(1,1),(2,2),(3,2),(4,2),(5,1),(6,2),(7,0),(8,2),(9,0)] ?_;refine gN ?_;have yd:Ext W3 W3.drew:=(kR _ W3).drew
     (repeat first|refine cu ?_|refine dL yd (by intro w1 hS;have d0:=bX ZT.out hS;have d1:=bC d0;have d2:=d0.lt;have c0:=bX tH.out hS;have c1:=bC c0;have c3:=c0.lt;exact gX) ?_|refine dK yd ?_)
     (refine aC (λK hK=>?_);go_simp)
     go_wp2_with fail;refine(wY g 0 cap (m.take (jO p)) (jO p) (by have:=HM.out;have:=zu.out;simp;omega) (by have:=aaf.out;omega) _ (by have h:=Row.seg (pY.out.ext yd) 0 (jO p) Vh;rw [List.drop_zero]at h;exact h)).mono ?_;rintro e w5 ⟨s5,rfl,hs5,ho5,y5⟩;have y6:=yd.trans y5;refine hK.out _ _ (λ_=>y6) ?_;clear hK K hsl hs5;have nC:=J (CV.out.ext y6);have xI:=J (HR3.out.ext y6);have HO5:=J ho5;have kX:=J (eX.out.trans y6);have HWL:=J (show w.heap.size<=W3.drew.heap.size from eX.out.size);clear ho5 y5 y6 yd;refine afr ?_;intro o1 o2 o3 fP J8;refine gI ?_;clear o1 o2 o3;have ks:Kept (·=ob) w5 (w5.setCell ⟨ob,0,none⟩ s5.v):=Kept.setCell (kR _ _) _ _ (λ_=>rfl);have SA:=J (show aH (w5.setCell ⟨ob,0,none⟩ s5.v) ob 38 (fU.c ⟨s5,false,0,0,0,⟨none,0,0⟩,0⟩)from aH.gW nC.out 0 _);have Wp:=J (bK xI.out ks (λe=>Q9.out.1 e.symm));have Kr:=J (kX.out.trans' ks (λi hi e=>by have:=Q9.out.2;omega));have Wn:=J (bS HO5.out ks (λx hx e=>by subst e;exact fP.out hx));clear ks;generalize (w5.setCell ⟨ob,0,none⟩ s5.v)=W8 at SA Wp Kr Wn⊢;have HON:=J (show∀w',Kept (·=sb+1) W8 w'->jE w w' ⟨s5,false,0,0,0,⟨none,0,0⟩,0⟩ (tu p part 1 m)from λw' kk=>by rw [NT.out];exact⟨gZ (bS Wn.out kk (λx hx e=>by subst e;exact J8.out hx)) HWL.out,eD _ _,rfl,rfl,rfl,rfl,rfl⟩);refine Sv ?_;intro l1 l2 l3 l4 l5 l6;go_wp2_with fail;have kp:Kept (·=sb+1) W8 (putAt W8 (sb+1) 0 (fU.c ⟨s5,false,0,0,0,⟨none,0,0⟩,0⟩)):=Kept.putAt (kR _ _) _ 0 _ (λ_=>rfl);refine dU (t:=38) (g:=sb+1) (cs:=fU.c ⟨s5,false,0,0,0,⟨none,0,0⟩,0⟩) results29 rfl rfl fI sF abM ⟨?_,.ok ak _ (HON.out _ kp)⟩;exact Kr.out.trans' kp (λi hi e=>by have:=Bv.out;omega)
end Go.Proofs.YtbfbabbcdochjaaGreatDoor
