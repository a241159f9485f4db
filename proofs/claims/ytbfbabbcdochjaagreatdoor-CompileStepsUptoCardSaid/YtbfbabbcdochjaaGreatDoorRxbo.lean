/- Several texts joined: Jr. -/
import Derived.Test.YtbfbabbcdochjaaGreatDoorRxpk
import Derived.Test.YtbfbabbcdochjaaGreatDoorRxbn
set_option maxHeartbeats 4000000
namespace Go.Proofs.YtbfbabbcdochjaaGreatDoor
open Go.RowKit So Mc
theorem aggOutT:aggT Tryz.prog 38=true:=by kernel_rfl
theorem sizeOutT:sizeT Tryz.prog 38=some 7:=by kernel_rfl
theorem wpLoadOutT {dst:Option Tmp} {ty':TypeId} {x:Operand} {pos:String} {after:Array Edge} {guard:Option (Nat × Bool)} {a:Act} {w:World} {K:Act→World→Prop} {Q:Exit→Act→World→Prop} (hx:isAt (a.eval x)=true) (hh:has w (blkOf (a.eval x)) (offOf (a.eval x)) 7=true) :
 Oper.wp Tryz.prog { dst:=dst,op:=.load 38 x,type:=ty',pos:=pos,after:=after,guard:=guard } a w K Q=K (a.put dst (.agg (gets w (blkOf (a.eval x)) (offOf (a.eval x)) 7))) w:=wp_load_big 7 aggOutT sizeOutT hx hh
attribute [go_sem] aggOutT sizeOutT
attribute [go_sem ↓ high] wpLoadOutT
attribute [go_sem high] wpLoadOutT
structure Ou where (vars:List Int) (refused:Bool) (seat cell sides:Int) (asks:List Int) (rest:Int)
structure OutV where (vars:Sl3) (refused:Bool) (seat cell sides:Int) (asks:Sl3) (rest:Int)
abbrev OutV.c (v:OutV):Array Value:=#[v.vars.v,.bool v.refused,.int .i64 v.seat,.int .i64 v.cell,.int .i64 v.sides,v.asks.v,.int .i64 v.rest]
abbrev outZ:OutV:=⟨⟨none,0,0⟩,false,0,0,0,⟨none,0,0⟩,0⟩
structure OutNew (w w':World) (v:OutV) (o:Ou):Prop where
 vars:w'.ownsRow w.heap.size 21 1 v.vars.v v.vars.n (mems o.vars)
 asks:w'.ownsRow w.heap.size 21 1 v.asks.v v.asks.n (mems o.asks)
 refused:v.refused=o.refused
 seat:v.seat=o.seat
 cell:v.cell=o.cell
 sides:v.sides=o.sides
 rest:v.rest=o.rest
def kcN (p:Pr):Nat:=(cells p.vars).toNat
def outP (p:Pr) (part:Nat) (halt:Int) (m:List Int):Ou :=
 if halt=2 then ⟨[],true,0,0,0,[],0⟩
 else if part=1 then ⟨[],false,m.getD (kcN p+4) 0,0,0,[],0⟩
 else if part=4 then ⟨[],false,0,0,0,(m.drop (kcN p+8)).take p.seats.toNat,m.getD (kcN p+7) 0⟩
 else if part=2 then ⟨m.take (kcN p),false,0,m.getD (kcN p+5) 0,m.getD (kcN p+6) 0,[],0⟩
 else ⟨m.take (kcN p),false,0,0,0,[],0⟩
theorem own_none (w:World) (base:Nat):w.ownsRow base 21 1 (Sl3.v ⟨none,0,0⟩) 0 (mems []):=⟨rfl,.inl ⟨rfl,rfl⟩⟩
theorem slL (W:World) (g n cap l:Nat) (h1:l≤n) (h2:l < cap):(Instr.slice 27 (.slice (some ⟨g,0,none⟩) n cap) (some (.int .i64 (l:Int))) none none).run Tryz.prog W=.ok (.slice (some ⟨g,l,none⟩) (n - l) (cap - l)) W:=by
 refine zy52 ?_;intro hz ht' he
 rw [run_slice_l W 27 _ _ _ ht' .i64 _ zb85 zb85,he,hz]
 by_cases h0:l=0
 ·subst h0;simp [Result.andThen,sliced,Addr.add]
 ·have:¬ cap=l:=by omega
  simp [Result.andThen,sliced,Addr.add,h0,this]
theorem slH (W:World) (g n cap h:Nat) (h2:h≤cap):(Instr.slice 27 (.slice (some ⟨g,0,none⟩) n cap) none (some (.int .i64 (h:Int))) none).run Tryz.prog W=.ok (.slice (some ⟨g,0,none⟩) h cap) W:=by
 refine zy52 ?_;intro hz ht' he
 rw [run_slice_h W 27 _ _ _ ht' .i64 _ zb85 zb85,he,hz]
 simp [Result.andThen,sliced,Addr.add]
theorem slLH (W:World) (g o n cap l h:Nat) (h1:l≤h) (h2:h≤cap) (h3:0 < l) (h4:l < cap):(Instr.slice 27 (.slice (some ⟨g,o,none⟩) n cap) (some (.int .i64 (l:Int))) (some (.int .i64 (h:Int))) none).run Tryz.prog W=.ok (.slice (some ⟨g,o+l,none⟩) (h - l) (cap - l)) W:=by
 refine zy52 ?_;intro hz ht' he
 rw [run_slice_lh W 27 _ _ _ ht' .i64 .i64 _ _ zb85 zb85 zb85,he,hz]
 have a1:¬ cap=l:=by omega
 have a2:¬ l=0:=by omega
 simp [Result.andThen,sliced,Addr.add,a1,a2]
set_option maxRecDepth 100000 in
theorem wclone_any (b off cap:Nat) (l:List Int) (n:Nat) (hn:n=l.length) (h2:n≤4096) (w:World) (hr:Row w b off (mems l)) :
 Calls Tryz.prog 66 #[.slice (some ⟨b,off,none⟩) n cap] w fun e w'=>∃ s:Sl3,e=.returned s.v∧s.n=n∧w'.ownsRow w.heap.size 21 1 s.v s.n (mems l)∧Ext w w':=by
 obtain ⟨v2,w2,hr2,ho2,hk2⟩:=appM (w.alloc (.cells #[] 21)) _ _ 0 [] (own_new w 21 1) b off n cap l hn (hr.ext ((kR _ w).alloc _)) zb85 zb86
 obtain ⟨A2,c2,rfl⟩:=own_slice32 ho2
 have HN:=J hn
 clear hn
 have heq:=fun w=>Lib.run_eql_slice_nil (P:=Tryz.prog) w 27 21 (some ⟨b,off,none⟩) n cap 0 0 Tryz.underlying27
 simp only [Option.isNone_some] at heq
 have HO:=J ho2
 have HK:=J hk2
 clear ho2 hk2
 go_enter Tryz.func66,Tryz.ntmps66
 go_upto_region 3 with (fail)
 go_step
 iterate 2 refine qls ?_
 refine wpList_app rfl (.tmp 5) (.tmp 6) 27 rfl rfl rfl rfl hr2 ?_
 clear hr2
 go_wp2_with fail
 go_ret
 have ho3:=HO.out
 rw [List.nil_append,Nat.zero_add] at ho3
 exact ⟨⟨A2,n,c2⟩,rfl,rfl,ho3,((kR _ w).alloc _).trans' HK.out (fun i hi e=>by simp [Value.ownBlock] at e;omega)⟩
theorem Row.seg {w:World} {b off:Nat} {l:List Int} (h:Row w b off (mems l)) (j m:Nat) (hj:j+m≤l.length):Row w b (off+j) (mems ((l.drop j).take m)):=by
 obtain ⟨h1,h2⟩:=h.sub j m (by rw [mems_len];exact hj)
 have e:(mems ((l.drop j).take m)).length=m:=by rw [mems_len];simp;omega
 have e2:((mems l).drop j).take m=mems ((l.drop j).take m):=by simp [mems,List.map_take,List.map_drop]
 rw [e2] at h2
 exact ⟨by rw [e];exact h1,by rw [e];exact h2,h.lt⟩
theorem Row.mem' {w:World} {b:Nat} {l:List Int} (h:Row w b 0 (mems l)) (k:Nat) (hk:k < l.length):w.cell? ⟨b,k,none⟩=some (.int .i32 (l.getD k 0)):=by
 have:=h.mem k hk
 rw [Nat.zero_add] at this
 rw [this]
 simp [hk]
theorem getD_ok {l:List Int} (h:∀ x ∈ l,i32ok x) (k:Nat):i32ok (l.getD k 0):=by
 by_cases hk:k < l.length
 ·simp [hk];exact h _ (List.getElem_mem hk)
 ·simp [hk];unfold i32ok;omega
inductive OutOut (p:Pr) (part:Nat) (halt:Int) (m:List Int) (w w':World):Ending→Prop
 | runs (h:halt=0):OutOut p part halt m w w' (.returned (.tuple #[.agg outZ.c,.int .i64 10]))
 | ok (h:¬ halt=0) (v:OutV) (hv:OutNew w w' v (outP p part halt m)):OutOut p part halt m w w' (.returned (.tuple #[.agg v.c,.int .i64 0]))
set_option maxRecDepth 100000 in
theorem cout_any (cb N:Nat) (k:Cd) (p:Pr) (part:Nat) (hp:part≤4) (pc halt:Int) (hh:halt=0 ∨ halt=1 ∨ halt=2) (g cap:Nat) (m:List Int) (hm:m.length=memN p) (hcap:memN p≤cap) (hok:∀ x ∈ m,i32ok x) (w:World) (hr:Row w g 0 (mems m)) (hN:N≤w.heap.size) (hC:CodeAt w N cb k p) (hk:Chk p) :
 Calls Tryz.prog 29 #[.pointer (some ⟨cb,0,none⟩),.int .i64 part,.agg (stCells pc (some ⟨g,0,none⟩) (memN p) cap halt)] w fun e w'=>Ext w w'∧OutOut p part halt m w w' e:=by
 have hkc:cells p.vars=((kcN p:Nat):Int):=by have:=cells_pos p.vars;unfold kcN;omega
 have hmn:memN p=kcN p+49:=by have:=cells_pos p.vars;unfold memN kcN;omega
 have hk64:kcN p≤64:=by have:=hk.cells;omega
 have HKC:=J hkc
 have HMN:=J hmn
 have HK64:=J hk64
 have HCAP:=J hcap
 have HM:=J hm
 have HOK:=J hok
 have HC:=J hC
 have HN:=J hN
 have HK:=J hk
 have HR:=J hr
 have hb:(decide (0≤(part:Int)) && decide ((part:Int) < 5))=true:=by
  rw [Bool.and_eq_true,decide_eq_true_eq,decide_eq_true_eq]
  omega
 have hkcells:k.cells+49=((memN p:Nat):Int):=by rw [hC.kc];omega
 have hwords:∀ w',Ext w w'→Calls Tryz.prog 30 #[.pointer (some ⟨cb,0,none⟩)] w' fun e w''=>e=.returned (.int .i64 (memN p))∧w'=w'':=fun w' y=>by
  have h:=cwords_any cb k w' (bX hC.box y) (by rw [hC.kc];omega)
  rw [hkcells] at h
  exact h
 have hslc:∀ W,(Instr.slice 27 (.slice (some ⟨g,0,none⟩) (memN p) cap) (some (.int .i64 k.cells)) none none).run Tryz.prog W=.ok (.slice (some ⟨g,kcN p,none⟩) 49 (cap - kcN p)) W:=fun W=>by
  have h:=slL W g (memN p) cap (kcN p) zb85 zb85
  rw [← hkc,← hC.kc,show memN p - kcN p=49 by omega] at h
  exact h
 have hslh:∀ W,(Instr.slice 27 (.slice (some ⟨g,0,none⟩) (memN p) cap) none (some (.int .i64 k.cells)) none).run Tryz.prog W=.ok (.slice (some ⟨g,0,none⟩) (kcN p) cap) W:=fun W=>by
  have h:=slH W g (memN p) cap (kcN p) zb85
  rw [← hkc,← hC.kc] at h
  exact h
 have HSL:=J hslc
 have HSH:=J hslh
 have HWD:=J hwords
 obtain ⟨W1,hW1⟩:∃ W1,W1=(w.alloc (.cells (stCells pc (some ⟨g,0,none⟩) (memN p) cap halt) 49)).alloc (.cells outZ.c 38):=⟨_,rfl⟩
 have y1:Ext w W1:=by rw [hW1];exact ((kR _ w).alloc _).alloc _
 have hz1:(w.alloc (.cells (stCells pc (some ⟨g,0,none⟩) (memN p) cap halt) 49)).heap.size=w.heap.size+1:=by simp
 have b1:Blk W1 w.heap.size 49 (stCells pc (some ⟨g,0,none⟩) (memN p) cap halt):=by rw [hW1];exact (bN w _ _).alloc _
 have b2:Blk W1 (w.heap.size+1) 38 outZ.c:=by rw [hW1];exact Blk.new' _ _ _ _ zb86
 have hm49:memN p=kcN p+49:=hmn
 clear hkc hmn hk64 hcap hm hok hC hN hk hr hkcells hwords hslc hslh hm49
 go_enter Tryz.func29,Tryz.ntmps29
 go_upto_region 1 with (fail)
 try rw [hz1]
 rw [← hW1]
 clear hz1 hW1
 generalize hsb:(w:World).heap.size=sb at b1 b2 ⊢
 have HSB:=J hsb
 have HB1:=J b1
 have HB2:=J b2
 have HY1:=J y1
 clear b1 b2 y1 hsb
 go_wp2_with fail
 refine (cis_any _ _).mono ?_
 rintro e w1 ⟨rfl,rfl⟩
 rw [hb]
 have l1:=bC HB1.out
 have l2:=HB1.out.lt
 have l4:=bH HB2.out
 have l5:=Blk.melts HB2.out
 have l6:=HB2.out.lt
 rcases hh with rfl | rfl | rfl
 ·go_wp2_with fail
  have kp:Kept (·=sb+1) W1 (putAt W1 (sb+1) 0 outZ.c):=Kept.putAt (kR _ _) _ 0 _ (fun _=>rfl)
  refine ret_ci (t:=38) (g:=sb+1) (cs:=outZ.c) Tryz.results29 rfl rfl aggOutT zb81 (by exact Blk.put_ HB2.out 0 _) ⟨?_,.runs rfl⟩
  exact HY1.out.trans' kp (fun i hi e=>by have:=HSB.out;omega)
 rotate_left
 ·go_upto_region 4 with (fail)
  refine qr3 (fun wz=>Ext W1 wz) [(0,2),(1,1),(2,2),(3,2),(4,0),(5,2),(6,2)] ?_;refine qrl ?_
  have yd:Ext W1 W1.drew:=(kR _ W1).drew
  (repeat first|refine qs3 ?_|refine qt3 yd zb30 ?_|refine qp3 yd ?_)
  (refine w3_act (fun K hK=>?_);go_simp)
  go_wp2_with fail
  refine (HWD.out _ (HY1.out.trans yd)).mono ?_
  rintro e w5 ⟨rfl,rfl⟩
  refine hK.out _ _ (fun _=>yd) ?_
  clear hK K
  refine qf3 ?_
  have HD1:=J (HB1.out.drew)
  have HD2:=J (HB2.out.drew)
  clear l1 l2 l4 l5 l6
  generalize W1.drew=W2 at HD1 HD2 yd ⊢
  have HY2:=J (HY1.out.trans yd)
  clear yd
  have l1:=bC HD1.out
  have l2:=HD1.out.lt
  have l4:=bH HD2.out
  have l5:=Blk.melts HD2.out
  have l6:=HD2.out.lt
  go_wp2_with fail
  have kp:Kept (·=sb+1) W2 (putAt W2 (sb+1) 0 (OutV.c ⟨⟨none,0,0⟩,true,0,0,0,⟨none,0,0⟩,0⟩)):=Kept.putAt (kR _ _) _ 0 _ (fun _=>rfl)
  refine ret_ci (t:=38) (g:=sb+1) (cs:=OutV.c ⟨⟨none,0,0⟩,true,0,0,0,⟨none,0,0⟩,0⟩) Tryz.results29 rfl rfl aggOutT zb81 (by exact Blk.put_ HD2.out 0 _) ⟨?_,.ok zb84 _ ⟨own_none _ _,own_none _ _,rfl,rfl,rfl,rfl,rfl⟩⟩
  exact HY2.out.trans' kp (fun i hi e=>by have:=HSB.out;omega)
 ·go_upto_region 4 with (fail)
  refine qr3 (fun wz=>Ext W1 wz) [(0,2),(1,1),(2,2),(3,2),(4,0),(5,2),(6,2)] ?_;refine qrl ?_
  have yd:Ext W1 W1.drew:=(kR _ W1).drew
  (repeat first|refine qs3 ?_|refine qt3 yd zb30 ?_|refine qp3 yd ?_)
  (refine w3_act (fun K hK=>?_);go_simp)
  go_wp2_with fail
  refine (HWD.out _ (HY1.out.trans yd)).mono ?_
  rintro e w5 ⟨rfl,rfl⟩
  refine hK.out _ _ (fun _=>yd) ?_
  clear hK K
  refine qf3 ?_
  have HD1:=J (HB1.out.drew)
  have HD2:=J (HB2.out.drew)
  clear l1 l2 l4 l5 l6
  generalize W1.drew=W2 at HD1 HD2 yd ⊢
  have HY2:=J (HY1.out.trans yd)
  clear yd
  have l1:=bC HD1.out
  have l2:=HD1.out.lt
  have l4:=bH HD2.out
  have l5:=Blk.melts HD2.out
  have l6:=HD2.out.lt
  have hsl:=HSL.out
  have c1:=bC (bX HC.out.box HY2.out)
  have c2:=(bX HC.out.box HY2.out).lt
  go_upto_region 8 with (fail)
  go_quiet (fail)
  clear hsl c1 c2 l1 l2 l4 l5 l6
  go_upto_region 10 with (fail)
  have y3:Ext W2 ((W2.drewN nq).alloc (.cells outZ.c 38)):=((kR (fun _=>False) W2).drewN nq).alloc _
  have bo:Blk ((W2.drewN nq).alloc (.cells outZ.c 38)) W2.heap.size 38 outZ.c:=bN (W2.drewN nq) 38 outZ.c
  generalize ((W2.drewN nq).alloc (.cells outZ.c 38))=W3 at y3 bo ⊢
  generalize hob:W2.heap.size=ob at bo ⊢
  have HRO:=J (show sb+1 < ob by have h:W2.heap.size=ob:=hob;have:=HD2.out.lt;omega)
  have HBO:=J bo
  have HY3:=J (HY2.out.trans y3)
  have HS3:=J (HD1.out.ext y3)
  have HR3:=J (HD2.out.ext y3)
  have HM3:=J (HR.out.ext HY3.out)
  have HC3:=J (bX HC.out.box HY3.out)
  have HWO:=J (show ¬ ob=sb+1∧w.heap.size≤ob by have:=HSB.out;have:=HRO.out;omega)
  clear bo y3 hob
  have o1:=bC HBO.out
  have o2:=HBO.out.lt
  have o3:=Blk.frozen HBO.out
  have m2:=HM3.out.lt
  by_cases p1:part=1
  ·have e1:((part:Int) == 1)=true:=by simp [p1]
   have HOU:=J (show outP p part 1 m=⟨[],false,m.getD (kcN p+4) 0,0,0,[],0⟩ by unfold outP;rw [if_neg zb84,if_pos p1])
   clear p1
   have hx:=Row.mem' HM3.out (kcN p+4) zb55
   have hxo:=getD_ok HOK.out (kcN p+4)
   generalize m.getD (kcN p+4) 0=x at hx hxo HOU
   have hwx:IntKind.i64.wrap x=x:=wrap_i64 zb47
   clear hxo
   go_upto_region 20 with (fail)
   clear hx hwx o1 o2 o3 m2
   have ks:Kept (·=ob) W3 (W3.setCell ⟨ob,2,none⟩ (.int .i64 x)):=Kept.setCell (kR _ _) _ _ (fun _=>rfl)
   have HB8:=J (show Blk (W3.setCell ⟨ob,2,none⟩ (.int .i64 x)) ob 38 (OutV.c ⟨⟨none,0,0⟩,false,x,0,0,⟨none,0,0⟩,0⟩) from Blk.set_ HBO.out 2 _)
   have HR8:=J (bK HR3.out ks (fun e=>HWO.out.1 e.symm))
   have HY8:=J (HY3.out.trans' ks (fun i hi e=>by have:=HWO.out.2;omega))
   clear ks
   generalize (W3.setCell ⟨ob,2,none⟩ (.int .i64 x))=W8 at HB8 HR8 HY8 ⊢
   have HON:=J (show ∀ w',OutNew w w' ⟨⟨none,0,0⟩,false,x,0,0,⟨none,0,0⟩,0⟩ (outP p part 1 m) from fun w'=>by rw [HOU.out];exact ⟨own_none _ _,own_none _ _,rfl,rfl,rfl,rfl,rfl⟩)
   refine zy102 ?_;intro l1 l2 l3 l4 l5 l6
   go_wp2_with fail
   have kp:Kept (·=sb+1) W8 (putAt W8 (sb+1) 0 (OutV.c ⟨⟨none,0,0⟩,false,x,0,0,⟨none,0,0⟩,0⟩)):=Kept.putAt (kR _ _) _ 0 _ (fun _=>rfl)
   refine ret_ci (t:=38) (g:=sb+1) (cs:=OutV.c ⟨⟨none,0,0⟩,false,x,0,0,⟨none,0,0⟩,0⟩) Tryz.results29 rfl rfl aggOutT zb81 zb61 ⟨?_,.ok zb84 _ (HON.out _)⟩
   exact HY8.out.trans' kp (fun i hi e=>by have:=HSB.out;omega)
  ·have e1:((part:Int) == 1)=false:=by simp;omega
   by_cases p4:part=4
   ·have e4:((part:Int) == 4)=true:=by simp [p4]
    have HOU:=J (show outP p part 1 m=⟨[],false,0,0,0,(m.drop (kcN p+8)).take p.seats.toNat,m.getD (kcN p+7) 0⟩ by unfold outP;rw [if_neg zb84,if_neg p1,if_pos p4])
    have hst:=HK.out.seats
    have hks:=HC.out.ks
    have hw8:IntKind.i64.wrap (8+k.seats)=8+k.seats:=wrap_i64 zb74
    have hsl:∀ W,(Instr.slice 27 (.slice (some ⟨g,kcN p,none⟩) 49 (cap - kcN p)) (some (.int .i64 8)) (some (.int .i64 (8+k.seats))) none).run Tryz.prog W=.ok (.slice (some ⟨g,kcN p+8,none⟩) p.seats.toNat (cap - kcN p - 8)) W:=fun W=>by
     have h:=slLH W g (kcN p) 49 (cap - kcN p) 8 (8+p.seats.toNat) zb85 (by have:=HCAP.out;have:=HMN.out;omega) zb85 (by have:=HCAP.out;have:=HMN.out;omega)
     rw [show 8+p.seats.toNat - 8=p.seats.toNat by omega,show (((8+p.seats.toNat:Nat)):Int)=8+k.seats by omega] at h
     exact h
    have HSE:=J hst
    clear p1 p4 hst hks
    have q1:=bC HC3.out
    have q2:=HC3.out.lt
    go_wp2_with fail
    refine (wclone_any g (kcN p+8) (cap - kcN p - 8) ((m.drop (kcN p+8)).take p.seats.toNat) p.seats.toNat (by have:=HM.out;have:=HMN.out;have:=HSE.out;simp;omega) (by have:=HSE.out;omega) W3 (by have h:=Row.seg HM3.out (kcN p+8) p.seats.toNat (by have:=HM.out;have:=HMN.out;have:=HSE.out;omega);rw [Nat.zero_add] at h;exact h)).mono ?_
    rintro e w5 ⟨s5,rfl,hs5,ho5,y5⟩
    clear o1 o2 o3 m2 hsl q1 q2 hw8
    have HB5:=J (HBO.out.ext y5)
    have HR5:=J (HR3.out.ext y5)
    have HO5:=J ho5
    have hx:=Row.mem' (HM3.out.ext y5) (kcN p+7) zb55
    have hxl:=(HM3.out.ext y5).lt
    have hxo:=getD_ok HOK.out (kcN p+7)
    have HY5:=J y5
    have HWL:=J (show w.heap.size≤W3.heap.size from HY3.out.size)
    clear hs5 ho5 y5
    generalize m.getD (kcN p+7) 0=x at hx hxo HOU
    have hwx:IntKind.i64.wrap x=x:=wrap_i64 zb47
    clear hxo
    refine zy54 ?_;intro o1 o2 o3 HNB HNR
    have ks5:Kept (·=ob) w5 (w5.setCell ⟨ob,5,none⟩ s5.v):=Kept.setCell (kR _ _) _ _ (fun _=>rfl)
    have B5:Blk (w5.setCell ⟨ob,5,none⟩ s5.v) ob 38 (OutV.c ⟨⟨none,0,0⟩,false,0,0,0,s5,0⟩):=Blk.set_ HB5.out 5 _
    have hx':=(Kept.cell ks5 (p:=⟨g,kcN p+7,none⟩) hxl (by have:=HRO.out;have h:=HM3.out.lt;have:=HWO.out.2;have:=HR.out.lt;show ¬ g=ob;omega)).trans hx
    have hxl':=Nat.lt_of_lt_of_le hxl ks5.size
    go_upto_region 16 with (fail)
    clear hx hxl o1 o2 o3
    have HR6:=J (bK HR5.out ks5 (fun e=>HWO.out.1 e.symm))
    have HO6:=J (own_kept HO5.out ks5 (fun x hx e=>by subst e;exact HNB.out hx))
    have HY6:=J ((HY3.out.trans HY5.out).trans' ks5 (fun i hi e=>by have:=HWO.out.2;omega))
    clear ks5
    generalize (w5.setCell ⟨ob,5,none⟩ s5.v)=W6 at B5 hx' hxl' HR6 HO6 HY6 ⊢
    have HB6:=J B5
    clear B5
    have o1:=bC HB6.out
    have o2:=HB6.out.lt
    have o3:=Blk.frozen HB6.out
    go_upto_region 20 with (fail)
    clear hx' hxl' hwx o1 o2 o3
    have ks:Kept (·=ob) W6 (W6.setCell ⟨ob,6,none⟩ (.int .i64 x)):=Kept.setCell (kR _ _) _ _ (fun _=>rfl)
    have HB8:=J (show Blk (W6.setCell ⟨ob,6,none⟩ (.int .i64 x)) ob 38 (OutV.c ⟨⟨none,0,0⟩,false,0,0,0,s5,x⟩) from Blk.set_ HB6.out 6 _)
    have HR8:=J (bK HR6.out ks (fun e=>HWO.out.1 e.symm))
    have HY8:=J (HY6.out.trans' ks (fun i hi e=>by have:=HWO.out.2;omega))
    have HO8:=J (own_kept HO6.out ks (fun x hx e=>by subst e;exact HNB.out hx))
    clear ks
    generalize (W6.setCell ⟨ob,6,none⟩ (.int .i64 x))=W8 at HB8 HR8 HY8 HO8 ⊢
    have HON:=J (show ∀ w',Kept (·=sb+1) W8 w'→OutNew w w' ⟨⟨none,0,0⟩,false,0,0,0,s5,x⟩ (outP p part 1 m) from fun w' kk=>by rw [HOU.out];exact ⟨own_none _ _,own_mono (own_kept HO8.out kk (fun x hx e=>by subst e;exact HNR.out hx)) HWL.out,rfl,rfl,rfl,rfl,rfl⟩)
    refine zy102 ?_;intro l1 l2 l3 l4 l5 l6
    go_wp2_with fail
    have kp:Kept (·=sb+1) W8 (putAt W8 (sb+1) 0 (OutV.c ⟨⟨none,0,0⟩,false,0,0,0,s5,x⟩)):=Kept.putAt (kR _ _) _ 0 _ (fun _=>rfl)
    refine ret_ci (t:=38) (g:=sb+1) (cs:=OutV.c ⟨⟨none,0,0⟩,false,0,0,0,s5,x⟩) Tryz.results29 rfl rfl aggOutT zb81 zb61 ⟨?_,.ok zb84 _ (HON.out _ kp)⟩
    exact HY8.out.trans' kp (fun i hi e=>by have:=HSB.out;omega)
   ·have e4:((part:Int) == 4)=false:=by simp;omega
    by_cases p2:part=2
    ·have e2:((part:Int) == 2)=true:=by simp [p2]
     have HOU:=J (show outP p part 1 m=⟨m.take (kcN p),false,0,m.getD (kcN p+5) 0,m.getD (kcN p+6) 0,[],0⟩ by unfold outP;rw [if_neg zb84,if_neg p1,if_neg p4,if_pos p2])
     clear p1 p4 p2
     have HGO:=J (show ¬ g=ob by have:=HRO.out;have h:=HM3.out.lt;have:=HWO.out.2;have:=HR.out.lt;omega)
     have HX5:=J (show ∀ w',Kept (·=ob) W3 w'→w'.cell? ⟨g,kcN p+5,none⟩=some (.int .i32 (m.getD (kcN p+5) 0))∧w'.cell? ⟨g,kcN p+6,none⟩=some (.int .i32 (m.getD (kcN p+6) 0))∧g < w'.heap.size from fun w' kk =>
      ⟨Row.mem' (HM3.out.kept kk HGO.out) (kcN p+5) zb55,Row.mem' (HM3.out.kept kk HGO.out) (kcN p+6) zb55,(HM3.out.kept kk HGO.out).lt⟩)
     have hx5:=getD_ok HOK.out (kcN p+5)
     have hx6:=getD_ok HOK.out (kcN p+6)
     generalize m.getD (kcN p+5) 0=x5 at hx5 HX5 HOU
     generalize m.getD (kcN p+6) 0=x6 at hx6 HX5 HOU
     have hw5:IntKind.i64.wrap x5=x5:=wrap_i64 (by unfold i32ok at hx5;unfold i64ok;omega)
     have hw6:IntKind.i64.wrap x6=x6:=wrap_i64 (by unfold i32ok at hx6;unfold i64ok;omega)
     clear hx5 hx6
     go_upto_region 18 with (fail)
     clear o1 o2 o3 m2
     refine qr3 (fun wz=>Kept (·=ob) W3 wz) [(0,2),(1,2),(2,1),(3,1),(4,2),(5,2),(6,1),(7,1),(8,2),(9,0),(10,2),(11,0)] ?_;refine qrl ?_
     have yd:Kept (·=ob) W3 W3.drew:=(kR _ W3).drew
     (repeat first|refine qs3 ?_|refine qt3 yd (by intro w1 hS;obtain ⟨d1,d2,d3⟩:=HX5.out _ hS;exact zgo) ?_|refine qp3 yd ?_)
     have o1:=bC HBO.out.drew
     have o2:=HBO.out.drew.lt
     have o3:=Blk.frozen HBO.out.drew
     (refine w3_act (fun K hK=>?_);go_simp)
     have ks1:Kept (·=ob) W3 (W3.setCell ⟨ob,3,none⟩ (.int .i64 x5)).drew:=(Kept.setCell (S:=(·=ob)) (kR _ W3) ⟨ob,3,none⟩ (.int .i64 x5) (fun _=>rfl)).drew
     have HBx:=J (show Blk (W3.setCell ⟨ob,3,none⟩ (.int .i64 x5)).drew ob 38 (OutV.c ⟨⟨none,0,0⟩,false,0,x5,0,⟨none,0,0⟩,0⟩) from (Blk.set_ HBO.out 3 _).drew)
     refine hK.out _ _ (fun _=>ks1) ?_
     clear hK K o1 o2 o3
     have o1:=bC HBx.out
     have o2:=HBx.out.lt
     have o3:=Blk.frozen HBx.out
     refine qf3 ?_
     clear o1 o2 o3 hw5 hw6
     have ks2:Kept (·=ob) W3 ((W3.setCell ⟨ob,3,none⟩ (.int .i64 x5)).setCell ⟨ob,4,none⟩ (.int .i64 x6)).drew:=(Kept.setCell (S:=(·=ob)) (Kept.setCell (S:=(·=ob)) (kR _ W3) ⟨ob,3,none⟩ (.int .i64 x5) (fun _=>rfl)) ⟨ob,4,none⟩ (.int .i64 x6) (fun _=>rfl)).drew
     have HBy:=J ((Blk.set_ (Blk.set_ HBO.out 3 (.int .i64 x5)) 4 (.int .i64 x6)).drew)
     generalize ((W3.setCell ⟨ob,3,none⟩ (.int .i64 x5)).setCell ⟨ob,4,none⟩ (.int .i64 x6)).drew=W4 at ks2 HBy ⊢
     have HS4:=J (bK HS3.out ks2 (by have:=HRO.out;omega))
     have HR4:=J (bK HR3.out ks2 (by have:=HRO.out;omega))
     have HM4:=J (HM3.out.kept ks2 HGO.out)
     have HC4:=J (bK HC3.out ks2 (by have:=HC.out.lt;have:=HN.out;have:=HWO.out.2;omega))
     have HY4:=J (HY3.out.trans' ks2 (fun i hi e=>by have:=HWO.out.2;omega))
     have HB4:=J (show Blk W4 ob 38 (OutV.c ⟨⟨none,0,0⟩,false,0,x5,x6,⟨none,0,0⟩,0⟩) from HBy.out)
     clear ks1 ks2 yd
     have hsl:=HSH.out
     go_upto_region 19 with (fail)
     refine qr3 (fun wz=>Ext W4 wz) [(0,2),(1,1),(2,2),(3,2),(4,2),(5,1),(6,2),(7,0),(8,2),(9,0)] ?_;refine qrl ?_
     have yd:Ext W4 W4.drew:=(kR _ W4).drew
     (repeat first|refine qs3 ?_|refine qt3 yd (by intro w1 hS;have d0:=bX HS4.out hS;have d1:=bC d0;have d2:=d0.lt;have c0:=bX HC4.out hS;have c1:=bC c0;have c3:=c0.lt;exact zgo) ?_|refine qp3 yd ?_)
     (refine w3_act (fun K hK=>?_);go_simp)
     go_wp2_with fail
     refine (wclone_any g 0 cap (m.take (kcN p)) (kcN p) (by have:=HM.out;have:=HMN.out;simp;omega) (by have:=HK64.out;omega) _ (by have h:=Row.seg (HM4.out.ext yd) 0 (kcN p) zb55;rw [List.drop_zero] at h;exact h)).mono ?_
     rintro e w5 ⟨s5,rfl,hs5,ho5,y5⟩
     have y6:=yd.trans y5
     refine hK.out _ _ (fun _=>y6) ?_
     clear hK K hsl hs5
     have HB5:=J (HB4.out.ext y6)
     have HR5:=J (HR4.out.ext y6)
     have HO5:=J ho5
     have HY5:=J (HY4.out.trans y6)
     have HWL:=J (show w.heap.size≤W4.drew.heap.size from HY4.out.size)
     clear ho5 y5 y6 yd
     refine zy54 ?_;intro o1 o2 o3 HNB HNR
     refine qf3 ?_
     clear o1 o2 o3
     have ks:Kept (·=ob) w5 (w5.setCell ⟨ob,0,none⟩ s5.v):=Kept.setCell (kR _ _) _ _ (fun _=>rfl)
     have HB8:=J (show Blk (w5.setCell ⟨ob,0,none⟩ s5.v) ob 38 (OutV.c ⟨s5,false,0,x5,x6,⟨none,0,0⟩,0⟩) from Blk.set_ HB5.out 0 _)
     have HR8:=J (bK HR5.out ks (fun e=>HWO.out.1 e.symm))
     have HY8:=J (HY5.out.trans' ks (fun i hi e=>by have:=HWO.out.2;omega))
     have HO8:=J (own_kept HO5.out ks (fun x hx e=>by subst e;exact HNB.out hx))
     clear ks
     generalize (w5.setCell ⟨ob,0,none⟩ s5.v)=W8 at HB8 HR8 HY8 HO8 ⊢
     have HON:=J (show ∀ w',Kept (·=sb+1) W8 w'→OutNew w w' ⟨s5,false,0,x5,x6,⟨none,0,0⟩,0⟩ (outP p part 1 m) from fun w' kk=>by rw [HOU.out];exact ⟨own_mono (own_kept HO8.out kk (fun x hx e=>by subst e;exact HNR.out hx)) HWL.out,own_none _ _,rfl,rfl,rfl,rfl,rfl⟩)
     refine zy102 ?_;intro l1 l2 l3 l4 l5 l6
     go_wp2_with fail
     have kp:Kept (·=sb+1) W8 (putAt W8 (sb+1) 0 (OutV.c ⟨s5,false,0,x5,x6,⟨none,0,0⟩,0⟩)):=Kept.putAt (kR _ _) _ 0 _ (fun _=>rfl)
     refine ret_ci (t:=38) (g:=sb+1) (cs:=OutV.c ⟨s5,false,0,x5,x6,⟨none,0,0⟩,0⟩) Tryz.results29 rfl rfl aggOutT zb81 zb61 ⟨?_,.ok zb84 _ (HON.out _ kp)⟩
     exact HY8.out.trans' kp (fun i hi e=>by have:=HSB.out;omega)
    ·have e2:((part:Int) == 2)=false:=by simp;omega
     have HOU:=J (show outP p part 1 m=⟨m.take (kcN p),false,0,0,0,[],0⟩ by unfold outP;rw [if_neg zb84,if_neg p1,if_neg p4,if_neg p2])
     clear p1 p4 p2 o1 o2 o3 m2
     have hsl:=HSH.out
     go_upto_region 11 with (fail)
     refine qr3 (fun wz=>Ext W3 wz) [(0,2),(1,1),(2,2),(3,2),(4,2),(5,1),(6,2),(7,0),(8,2),(9,0)] ?_;refine qrl ?_
     have yd:Ext W3 W3.drew:=(kR _ W3).drew
     (repeat first|refine qs3 ?_|refine qt3 yd (by intro w1 hS;have d0:=bX HS3.out hS;have d1:=bC d0;have d2:=d0.lt;have c0:=bX HC3.out hS;have c1:=bC c0;have c3:=c0.lt;exact zgo) ?_|refine qp3 yd ?_)
     (refine w3_act (fun K hK=>?_);go_simp)
     go_wp2_with fail
     refine (wclone_any g 0 cap (m.take (kcN p)) (kcN p) (by have:=HM.out;have:=HMN.out;simp;omega) (by have:=HK64.out;omega) _ (by have h:=Row.seg (HM3.out.ext yd) 0 (kcN p) zb55;rw [List.drop_zero] at h;exact h)).mono ?_
     rintro e w5 ⟨s5,rfl,hs5,ho5,y5⟩
     have y6:=yd.trans y5
     refine hK.out _ _ (fun _=>y6) ?_
     clear hK K hsl hs5
     have HB5:=J (HBO.out.ext y6)
     have HR5:=J (HR3.out.ext y6)
     have HO5:=J ho5
     have HY5:=J (HY3.out.trans y6)
     have HWL:=J (show w.heap.size≤W3.drew.heap.size from HY3.out.size)
     clear ho5 y5 y6 yd
     refine zy54 ?_;intro o1 o2 o3 HNB HNR
     refine qf3 ?_
     clear o1 o2 o3
     have ks:Kept (·=ob) w5 (w5.setCell ⟨ob,0,none⟩ s5.v):=Kept.setCell (kR _ _) _ _ (fun _=>rfl)
     have HB8:=J (show Blk (w5.setCell ⟨ob,0,none⟩ s5.v) ob 38 (OutV.c ⟨s5,false,0,0,0,⟨none,0,0⟩,0⟩) from Blk.set_ HB5.out 0 _)
     have HR8:=J (bK HR5.out ks (fun e=>HWO.out.1 e.symm))
     have HY8:=J (HY5.out.trans' ks (fun i hi e=>by have:=HWO.out.2;omega))
     have HO8:=J (own_kept HO5.out ks (fun x hx e=>by subst e;exact HNB.out hx))
     clear ks
     generalize (w5.setCell ⟨ob,0,none⟩ s5.v)=W8 at HB8 HR8 HY8 HO8 ⊢
     have HON:=J (show ∀ w',Kept (·=sb+1) W8 w'→OutNew w w' ⟨s5,false,0,0,0,⟨none,0,0⟩,0⟩ (outP p part 1 m) from fun w' kk=>by rw [HOU.out];exact ⟨own_mono (own_kept HO8.out kk (fun x hx e=>by subst e;exact HNR.out hx)) HWL.out,own_none _ _,rfl,rfl,rfl,rfl,rfl⟩)
     refine zy102 ?_;intro l1 l2 l3 l4 l5 l6
     go_wp2_with fail
     have kp:Kept (·=sb+1) W8 (putAt W8 (sb+1) 0 (OutV.c ⟨s5,false,0,0,0,⟨none,0,0⟩,0⟩)):=Kept.putAt (kR _ _) _ 0 _ (fun _=>rfl)
     refine ret_ci (t:=38) (g:=sb+1) (cs:=OutV.c ⟨s5,false,0,0,0,⟨none,0,0⟩,0⟩) Tryz.results29 rfl rfl aggOutT zb81 zb61 ⟨?_,.ok zb84 _ (HON.out _ kp)⟩
     exact HY8.out.trans' kp (fun i hi e=>by have:=HSB.out;omega)
end Go.Proofs.YtbfbabbcdochjaaGreatDoor
