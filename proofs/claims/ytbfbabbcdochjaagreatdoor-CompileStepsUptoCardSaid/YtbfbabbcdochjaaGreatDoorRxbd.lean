/- Several texts joined: Ja, Jb, Jc. -/
import Derived.Test.YtbfbabbcdochjaaGreatDoorRxpk
import Derived.Test.YtbfbabbcdochjaaGreatDoorRxbc
set_option maxHeartbeats 4000000
namespace Go.Proofs.YtbfbabbcdochjaaGreatDoor
open Go.RowKit So Mc
theorem aggCounter:aggT Tryz.prog 126=true:=by kernel_rfl
theorem sizeCounter:sizeT Tryz.prog 126=some 2:=by kernel_rfl
theorem wpLoadCounter {dst:Option Tmp} {ty':TypeId} {x:Operand} {pos:String} {after:Array Edge} {guard:Option (Nat × Bool)} {a:Act} {w:World} {K:Act→World→Prop} {Q:Exit→Act→World→Prop} (hx:isAt (a.eval x)=true) (hh:has w (blkOf (a.eval x)) (offOf (a.eval x)) 2=true) :
 Oper.wp Tryz.prog { dst:=dst,op:=.load 126 x,type:=ty',pos:=pos,after:=after,guard:=guard } a w K Q=K (a.put dst (.agg (gets w (blkOf (a.eval x)) (offOf (a.eval x)) 2))) w:=wp_load_big 2 aggCounter sizeCounter hx hh
theorem runLoadCounter {ρ:Operand→Value} {dst:Option Tmp} {ty':TypeId} {x:Operand} {pos:String} {after:Array Edge} {guard:Option (Nat × Bool)} {w:World} (hx:isAt (ρ x)=true) (hh:has w (blkOf (ρ x)) (offOf (ρ x)) 2=true) :
 (execOp ρ { dst:=dst,op:=.load 126 x,type:=ty',pos:=pos,after:=after,guard:=guard }).run Tryz.prog w=.ok (.value (.agg (gets w (blkOf (ρ x)) (offOf (ρ x)) 2))) w:=run_exec_load_big 2 aggCounter sizeCounter hx hh
attribute [go_sem] aggCounter sizeCounter
attribute [go_sem ↓ high] wpLoadCounter runLoadCounter
attribute [go_sem high] wpLoadCounter
theorem aggCost:aggT Tryz.prog 207=true:=by kernel_rfl
theorem sizeCost:sizeT Tryz.prog 207=some 2:=by kernel_rfl
attribute [go_sem] aggCost sizeCost
def exC (t:Int):Option Value:=if t=0 then some (.agg #[.int .i64 1,.bool false]) else if t=1 then some (.agg #[.int .i64 1,.bool false]) else if t=2 then some (.agg #[.int .i64 6,.bool true]) else none
def stC (t:Int):Option Value:=if t=0 then some (.agg #[.int .i64 3,.bool true]) else if t=1 then some (.agg #[.int .i64 6,.bool true]) else if t=2 then some (.agg #[.int .i64 3,.bool true]) else if t=3 then some (.agg #[.int .i64 3,.bool false]) else if t=4 then some (.agg #[.int .i64 2,.bool false]) else if t=5 then some (.agg #[.int .i64 4,.bool false]) else if t=6 then some (.agg #[.int .i64 3,.bool true]) else if t=7 then some (.agg #[.int .i64 2,.bool false]) else if t=8 then some (.agg #[.int .i64 8,.bool true]) else if t=9 then some (.agg #[.int .i64 3,.bool true]) else none
set_option maxRecDepth 100000 in
theorem ofexpr_any (w:World):Calls Tryz.prog 96 #[] w fun e w'=>e=.returned (.map (some w.heap.size))∧IMap w' w.heap.size exC∧Ext w w':=by
 have hmm:=@run_makeMap Tryz.prog
 have hu:Tryz.prog.underlying 124=some (.map 3 _):=Tryz.underlying124
 refine zy50 ?_;intro b0 y0
 go_enter Tryz.func96,Tryz.ntmps96
 go_upto_region 1 with (fail)
 go_step
 iterate 1 refine qls ?_
 obtain ⟨w1,r1,b1,k1⟩:=IMap.put b0 hu Tryz.underlying3 (0) (.agg #[.int .i64 1,.bool false])
 have y1:=y0.trans' k1 (fun i hi e=>by omega)
 iterate 1 refine qls ?_
 refine Mc.wpList_ins rfl 124 (.tmp 1) (.const (.int .i64 0)) (.tmp 2) rfl rfl rfl rfl rfl r1 ?_
 clear r1 k1 b0 y0
 obtain ⟨w2,r2,b2,k2⟩:=IMap.put b1 hu Tryz.underlying3 (1) (.agg #[.int .i64 1,.bool false])
 have y2:=y1.trans' k2 (fun i hi e=>by omega)
 iterate 1 refine qls ?_
 refine Mc.wpList_ins rfl 124 (.tmp 1) (.const (.int .i64 1)) (.tmp 3) rfl rfl rfl rfl rfl r2 ?_
 clear r2 k2 b1 y1
 obtain ⟨w3,r3,b3,k3⟩:=IMap.put b2 hu Tryz.underlying3 (2) (.agg #[.int .i64 6,.bool true])
 have y3:=y2.trans' k3 (fun i hi e=>by omega)
 iterate 1 refine qls ?_
 refine Mc.wpList_ins rfl 124 (.tmp 1) (.const (.int .i64 2)) (.tmp 4) rfl rfl rfl rfl rfl r3 ?_
 clear r3 k3 b2 y2
 go_wp2_with fail
 go_ret
 refine ⟨rfl,IMap.cong b3 (fun t=>?_),y3⟩
 by_cases h:t=0 ∨ t=1 ∨ t=2
 ·rcases h with rfl | rfl | rfl <;> rfl
 ·unfold exC
  rw [if_neg (show ¬ t=2 by omega),if_neg (show ¬ t=1 by omega),if_neg (show ¬ t=0 by omega)]
  rw [if_neg (show ¬ t=0 by omega),if_neg (show ¬ t=1 by omega),if_neg (show ¬ t=2 by omega)]
set_option maxRecDepth 100000 in
theorem ofstmt_any (w:World):Calls Tryz.prog 97 #[] w fun e w'=>e=.returned (.map (some w.heap.size))∧IMap w' w.heap.size stC∧Ext w w':=by
 have hmm:=@run_makeMap Tryz.prog
 have hu:Tryz.prog.underlying 124=some (.map 3 _):=Tryz.underlying124
 refine zy50 ?_;intro b0 y0
 go_enter Tryz.func97,Tryz.ntmps97
 go_upto_region 1 with (fail)
 go_step
 iterate 1 refine qls ?_
 obtain ⟨w1,r1,b1,k1⟩:=IMap.put b0 hu Tryz.underlying3 (0) (.agg #[.int .i64 3,.bool true])
 have y1:=y0.trans' k1 (fun i hi e=>by omega)
 iterate 1 refine qls ?_
 refine Mc.wpList_ins rfl 124 (.tmp 1) (.const (.int .i64 0)) (.tmp 2) rfl rfl rfl rfl rfl r1 ?_
 clear r1 k1 b0 y0
 obtain ⟨w2,r2,b2,k2⟩:=IMap.put b1 hu Tryz.underlying3 (1) (.agg #[.int .i64 6,.bool true])
 have y2:=y1.trans' k2 (fun i hi e=>by omega)
 iterate 1 refine qls ?_
 refine Mc.wpList_ins rfl 124 (.tmp 1) (.const (.int .i64 1)) (.tmp 3) rfl rfl rfl rfl rfl r2 ?_
 clear r2 k2 b1 y1
 obtain ⟨w3,r3,b3,k3⟩:=IMap.put b2 hu Tryz.underlying3 (2) (.agg #[.int .i64 3,.bool true])
 have y3:=y2.trans' k3 (fun i hi e=>by omega)
 iterate 1 refine qls ?_
 refine Mc.wpList_ins rfl 124 (.tmp 1) (.const (.int .i64 2)) (.tmp 4) rfl rfl rfl rfl rfl r3 ?_
 clear r3 k3 b2 y2
 obtain ⟨w4,r4,b4,k4⟩:=IMap.put b3 hu Tryz.underlying3 (3) (.agg #[.int .i64 3,.bool false])
 have y4:=y3.trans' k4 (fun i hi e=>by omega)
 iterate 1 refine qls ?_
 refine Mc.wpList_ins rfl 124 (.tmp 1) (.const (.int .i64 3)) (.tmp 5) rfl rfl rfl rfl rfl r4 ?_
 clear r4 k4 b3 y3
 obtain ⟨w5,r5,b5,k5⟩:=IMap.put b4 hu Tryz.underlying3 (4) (.agg #[.int .i64 2,.bool false])
 have y5:=y4.trans' k5 (fun i hi e=>by omega)
 iterate 1 refine qls ?_
 refine Mc.wpList_ins rfl 124 (.tmp 1) (.const (.int .i64 4)) (.tmp 6) rfl rfl rfl rfl rfl r5 ?_
 clear r5 k5 b4 y4
 obtain ⟨w6,r6,b6,k6⟩:=IMap.put b5 hu Tryz.underlying3 (7) (.agg #[.int .i64 2,.bool false])
 have y6:=y5.trans' k6 (fun i hi e=>by omega)
 iterate 1 refine qls ?_
 refine Mc.wpList_ins rfl 124 (.tmp 1) (.const (.int .i64 7)) (.tmp 7) rfl rfl rfl rfl rfl r6 ?_
 clear r6 k6 b5 y5
 obtain ⟨w7,r7,b7,k7⟩:=IMap.put b6 hu Tryz.underlying3 (5) (.agg #[.int .i64 4,.bool false])
 have y7:=y6.trans' k7 (fun i hi e=>by omega)
 iterate 1 refine qls ?_
 refine Mc.wpList_ins rfl 124 (.tmp 1) (.const (.int .i64 5)) (.tmp 8) rfl rfl rfl rfl rfl r7 ?_
 clear r7 k7 b6 y6
 obtain ⟨w8,r8,b8,k8⟩:=IMap.put b7 hu Tryz.underlying3 (6) (.agg #[.int .i64 3,.bool true])
 have y8:=y7.trans' k8 (fun i hi e=>by omega)
 iterate 1 refine qls ?_
 refine Mc.wpList_ins rfl 124 (.tmp 1) (.const (.int .i64 6)) (.tmp 9) rfl rfl rfl rfl rfl r8 ?_
 clear r8 k8 b7 y7
 obtain ⟨w9,r9,b9,k9⟩:=IMap.put b8 hu Tryz.underlying3 (9) (.agg #[.int .i64 3,.bool true])
 have y9:=y8.trans' k9 (fun i hi e=>by omega)
 iterate 1 refine qls ?_
 refine Mc.wpList_ins rfl 124 (.tmp 1) (.const (.int .i64 9)) (.tmp 10) rfl rfl rfl rfl rfl r9 ?_
 clear r9 k9 b8 y8
 obtain ⟨w10,r10,b10,k10⟩:=IMap.put b9 hu Tryz.underlying3 (8) (.agg #[.int .i64 8,.bool true])
 have y10:=y9.trans' k10 (fun i hi e=>by omega)
 iterate 1 refine qls ?_
 refine Mc.wpList_ins rfl 124 (.tmp 1) (.const (.int .i64 8)) (.tmp 11) rfl rfl rfl rfl rfl r10 ?_
 clear r10 k10 b9 y9
 go_wp2_with fail
 go_ret
 refine ⟨rfl,IMap.cong b10 (fun t=>?_),y10⟩
 by_cases h:t=0 ∨ t=1 ∨ t=2 ∨ t=3 ∨ t=4 ∨ t=7 ∨ t=5 ∨ t=6 ∨ t=9 ∨ t=8
 ·rcases h with rfl | rfl | rfl | rfl | rfl | rfl | rfl | rfl | rfl | rfl <;> rfl
 ·unfold stC
  rw [if_neg (show ¬ t=8 by omega),if_neg (show ¬ t=9 by omega),if_neg (show ¬ t=6 by omega),if_neg (show ¬ t=5 by omega),if_neg (show ¬ t=7 by omega),if_neg (show ¬ t=4 by omega),if_neg (show ¬ t=3 by omega),if_neg (show ¬ t=2 by omega),if_neg (show ¬ t=1 by omega),if_neg (show ¬ t=0 by omega)]
  exact zz59
def CAt (w:World) (ex st:Nat):Prop:=IMap w ex exC∧IMap w st stC
abbrev cnt (ex st:Nat):Array Value:=#[.map (some ex),.map (some st)]
set_option maxRecDepth 100000 in
theorem bstart_any (w:World):Calls Tryz.prog 57 #[] w fun e w'=>∃ ex st,e=.returned (.agg (cnt ex st))∧CAt w' ex st∧Ext w w'∧w.heap.size≤ex∧w.heap.size≤st:=by
 have y0:=(kR (fun _=>False) w).alloc (.cells #[.map none,.map none] 126)
 have b0:=bN w 126 #[.map none,.map none]
 have hsz:(w.alloc (.cells #[.map none,.map none] 126)).heap.size=w.heap.size+1:=by simp
 go_enter Tryz.func57,Tryz.ntmps57
 go_upto_region 1 with (fail)
 generalize (w.alloc (.cells #[.map none,.map none] 126))=W0 at y0 b0 hsz ⊢
 go_wp2_with fail
 refine (ofexpr_any _).mono ?_
 rintro e w1 ⟨rfl,h1,y1⟩
 go_wp2_with fail
 refine (ofstmt_any _).mono ?_
 rintro e w2 ⟨rfl,h2,y2⟩
 have b2:=bX b0 (y1.trans y2)
 have i1:=Blk.melts b2
 have i2:=bH b2
 have i3:=b2.lt
 have h1':=h1.ext y2
 rw [hsz] at h1'
 have hex:=y1.size
 have yy:=y0.trans (y1.trans y2)
 have hst:=(y0.trans y1).size
 generalize w1.heap.size=st at h2 hst hex ⊢
 clear h1
 go_wp2_with fail
 have yp:Ext w (putAt w2 w.heap.size 0 #[.map (some (w.heap.size+1)),.map (some st)]):=yy.putAt _ 0 _ (fun h=>absurd h zb85)
 have kp:Kept (·=w.heap.size) w2 (putAt w2 w.heap.size 0 #[.map (some (w.heap.size+1)),.map (some st)]):=Kept.putAt (kR _ _) _ 0 _ (fun _=>rfl)
 refine ret_cell Tryz.results57 rfl rfl aggCounter (by exact sizeCounter) (Blk.put_ b2 0 _) ⟨w.heap.size+1,st,rfl,⟨h1'.kept kp zb85,h2.kept kp zb85⟩,yp,by omega,by omega⟩
theorem bsum_any (n:Int) (w:World):Calls Tryz.prog 58 #[.int .i64 n] w fun e w'=>e=.returned (.func (.func 98) #[] #[.pointer (some ⟨w.heap.size,0,none⟩)])∧Blk w' w.heap.size 3 #[.int .i64 n]∧Ext w w':=by
 refine zy66 ?_;intro hmf
 have y0:Ext w (w.alloc (.cells #[.int .i64 n] 3)):=(kR _ w).alloc _
 have b0:=bN w 3 #[.int .i64 n]
 go_enter Tryz.func58,Tryz.ntmps58
 go_wp2_with fail
 go_ret
 exact ⟨rfl,b0,y0⟩
def satN (n:Nat):Nat:=min n 65537
set_option maxRecDepth 100000 in
theorem bsum1_any (nb n m:Nat) (w:World) (hn:n≤65537) (hm:m≤4611686018427387904) (hb:Blk w nb 3 #[.int .i64 n]) :
 Calls Tryz.prog 98 #[.int .i64 m,.pointer (some ⟨nb,0,none⟩)] w fun e w'=>e=.returned (.int .i64 (satN (n+m):Nat))∧Blk w' nb 3 #[.int .i64 (satN (n+m):Nat)]∧Kept (·=nb) w w':=by
 have i1:=bC hb
 have i2:=hb.lt
 have i3:=Blk.frozen hb
 have hs:=Blk.set_ hb 0 (.int .i64 (satN (n+m):Nat))
 have hk:Kept (·=nb) w (w.setCell ⟨nb,0,none⟩ (.int .i64 (satN (n+m):Nat))):=Kept.setCell (kR _ w) _ _ (fun _=>rfl)
 have hw:=wrap_i64 (n:=(n:Int)+m) zb74
 have hmin:min ((n:Int)+m) 65537=(satN (n+m):Nat):=by unfold satN;omega
 clear hb
 go_enter Tryz.func98,Tryz.ntmps98
 go_wp2_with fail
 go_ret
 exact ⟨rfl,by simpa using hs,hk⟩
open Go.RowKit So Mc
abbrev sumV (nb:Nat):Value:=.func (.func 98) #[] #[.pointer (some ⟨nb,0,none⟩)]
theorem satN_le (n:Nat):satN n≤65537:=Nat.min_le_right _ _
theorem satN_add (a b:Nat):satN (satN a+b)=satN (a+b):=by unfold satN;omega
theorem satN_add' (a b:Nat):satN (a+satN b)=satN (a+b):=by unfold satN;omega
theorem satN_self {a:Nat} (h:a≤65537):satN a=a:=by unfold satN;omega
theorem CAt.ext {w w':World} {ex st:Nat} (h:CAt w ex st) (hx:Ext w w'):CAt w' ex st:=⟨h.1.ext hx,h.2.ext hx⟩
theorem CAt.ne {w:World} {ex st b:Nat} {t:TypeId} {cs:Array Value} (h:CAt w ex st) (hb:Blk w b t cs):¬ ex=b∧¬ st=b:=by
 constructor <;> intro e <;> subst e
 ·obtain ⟨es,clock,hq,_⟩:=h.1
  rw [show w.heap[_]?=_ from hb] at hq
  cases hq
 ·obtain ⟨es,clock,hq,_⟩:=h.2
  rw [show w.heap[_]?=_ from hb] at hq
  cases hq
theorem CAt.kept {w w':World} {ex st b:Nat} (h:CAt w ex st) (hk:Kept (·=b) w w') (h1:¬ ex=b) (h2:¬ st=b):CAt w' ex st:=⟨h.1.kept hk h1,h.2.kept hk h2⟩
abbrev AllB (F:EF):Prop:=∀ (ex st N:Nat) (A:Option Addr) (c nb n:Nat) (w:World),CAt w ex st→ESl w N A F.len F→n≤65537→Blk w nb 3 #[.int .i64 n]→N≤nb →
 Calls Tryz.prog 152 #[.agg (cnt ex st),sumV nb,.slice A F.len c] w fun e w'=>e=.returned (.tuple #[])∧Blk w' nb 3 #[.int .i64 (satN (n+costF F):Nat)]∧Kept (·=nb) w w'
def cost1 (op:Int) (F:EF):Nat:=ownE op+if op=0 ∨ op=1 then 0 else costF F
theorem look_cost {w:World} {g:Nat} {f:Int→Option Value} (h:IMap w g f) (op:Int) {fv:Value} {bv:Bool} (hf:(f op).getD (.agg #[.int .i64 0,.bool false])=fv) (hb:(f op).isSome=bv):(Instr.lookup 124 (.map (some g)) (.int .i64 op) true).run Tryz.prog w=.ok (.tuple #[fv,.bool bv]) w:=by
 have hlk:=IMap.look_ok (P:=Tryz.prog) h Tryz.underlying124 Tryz.underlying3 (z:=.agg #[.int .i64 0,.bool false]) (fun w=>by kernel_rfl) op
 rw [hlk,hf,hb]
set_option maxRecDepth 100000 in
theorem bexpr_any (F:EF) (IH:AllB F) (ex st N:Nat) (op n:Int) (s:Str) (A:Option Addr) (kc:Nat) (w:World) (hC:CAt w ex st) (hE:ESl w N A F.len F) (hN:N≤w.heap.size) :
 Calls Tryz.prog 171 #[.agg (cnt ex st),.agg (ecells op n s A F.len kc)] w fun e w'=>e=.returned (.int .i64 (satN (cost1 op F):Nat))∧Ext w w':=by
 obtain ⟨W1,hW1⟩:∃ W1,W1=(w.alloc (.cells (cnt ex st) 126)).alloc (.cells (ecells op n s A F.len kc) 200):=⟨_,rfl⟩
 have y1:Ext w W1:=by rw [hW1];exact ((kR _ w).alloc _).alloc _
 have h4:Blk W1 w.heap.size 126 (cnt ex st):=by rw [hW1];exact (bN w _ _).alloc _
 have h7:Blk W1 (w.heap.size+1) 200 (ecells op n s A F.len kc):=by
  rw [hW1]
  exact Blk.new' _ _ _ _ zb86
 have hsz:(w.alloc (.cells (cnt ex st) 126)).heap.size=w.heap.size+1:=by simp
 have HI:=J IH
 have HC:=J (hC.ext y1)
 have HE:=J (hE.kept y1 hN (fun _ f=>f.elim))
 clear IH hC hE
 go_enter Tryz.func171,Tryz.ntmps171
 go_upto_region 1 with (fail)
 rw [← hW1]
 try rw [hsz]
 clear hsz
 have HW1:=J hW1
 clear hW1
 generalize hp4:(w:World).heap.size=p4 at h4 h7 hN ⊢
 have HP4:=J hp4
 clear hp4
 have H4:=J h4
 have H7:=J h7
 have i1:=bC h4
 have i2:=h4.lt
 have j1:=bC h7
 have j2:=h7.lt
 clear h4 h7
 have HOP:=J (show (op=0 ∨ op=1) ∨ op=2 ∨ ¬ (op=0 ∨ op=1 ∨ op=2) from by omega)
 obtain ⟨p6,hp6⟩:∃ p6,p6=W1.heap.size:=⟨_,rfl⟩
 have HP6:=J hp6
 clear hp6
 rcases HOP.out with ho | ho | ho
 ·skip
  have hlk:=look_cost (HC.out).1 op (fv:=(.agg #[.int .i64 1,.bool false])) (bv:=true) (by rcases ho with rfl | rfl <;> rfl) (by rcases ho with rfl | rfl <;> rfl)
  have HVV:=J (show cost1 op F=1 from by rcases ho with rfl | rfl <;> rfl)
  clear ho
  have y2:Ext W1 (W1.alloc (.cells #[.int .i64 1,.bool false] 207)):=(kR _ W1).alloc _
  have b2:=bN W1 207 #[.int .i64 1,.bool false]
  rw [← HP6.out] at b2
  have hl6:¬ W1.heap.size < W1.heap.size:=by omega
  go_upto_region 4 with (fail)
  rw [← HP6.out]
  generalize (W1.alloc (.cells #[.int .i64 1,.bool false] 207))=W2 at y2 b2 ⊢
  clear i1 i2 j1 j2 hlk hl6
  have B2:=J b2
  have Y2:=J y2
  have i1:=bC B2.out
  have i2:=B2.out.lt
  go_wp2_with fail
  refine (bsum_any 1 _).mono ?_
  rintro e w3 ⟨rfl,b3,y3⟩
  obtain ⟨nb,hnb⟩:∃ nb,nb=W2.heap.size:=⟨_,rfl⟩
  refine zy42 ?_;clear b3 i1 i2 y2 y3 hnb;intro B3 Y3 HNB i1 i2 j1 j2 l1 l2 l3
  go_wp2_with fail
  refine (bsum1_any nb 1 0 _ zb85 zb85 B3.out).mono ?_
  rintro e w5 ⟨rfl,b5,k5⟩
  go_wp2_with fail
  go_ret
  refine ⟨congrArg (fun z:Nat=>Ending.returned (.int .i64 z)) (by rw [HVV.out]),?_⟩
  exact (y1.trans Y3.out).trans' k5 (fun i hi e=>by have:=(y1.trans Y2.out).size;have:=HNB.out;omega)
 ·skip
  have hlk:=look_cost (HC.out).1 op (fv:=(.agg #[.int .i64 6,.bool true])) (bv:=true) (by subst ho;rfl) (by subst ho;rfl)
  have HVV:=J (show cost1 op F=6+costF F from by subst ho;rfl)
  clear ho
  have y2:Ext W1 (W1.alloc (.cells #[.int .i64 6,.bool true] 207)):=(kR _ W1).alloc _
  have b2:=bN W1 207 #[.int .i64 6,.bool true]
  rw [← HP6.out] at b2
  have hl6:¬ W1.heap.size < W1.heap.size:=by omega
  go_upto_region 4 with (fail)
  rw [← HP6.out]
  generalize (W1.alloc (.cells #[.int .i64 6,.bool true] 207))=W2 at y2 b2 ⊢
  clear i1 i2 j1 j2 hlk hl6
  have B2:=J b2
  have Y2:=J y2
  have i1:=bC B2.out
  have i2:=B2.out.lt
  go_wp2_with fail
  refine (bsum_any 6 _).mono ?_
  rintro e w3 ⟨rfl,b3,y3⟩
  obtain ⟨nb,hnb⟩:∃ nb,nb=W2.heap.size:=⟨_,rfl⟩
  refine zy42 ?_;clear b3 i1 i2 y2 y3 hnb;intro B3 Y3 HNB i1 i2 j1 j2 l1 l2 l3
  go_wp2_with fail
  have hnl:w.heap.size≤nb:=by rw [HNB.out];exact (y1.trans Y2.out).size
  refine (HI.out ex st N A _ nb 6 _ (HC.out.ext Y3.out) (HE.out.kept Y3.out (by have a:=y1.size;have b:=HP4.out;omega) (fun _ f=>f.elim)) zb85 B3.out (by have b:=HP4.out;omega)).mono ?_
  rintro e w4 ⟨rfl,b4,k4⟩
  clear i1 i2 j1 j2 l1 l2 l3
  go_wp2_with fail
  refine (bsum1_any nb (satN (6+costF F)) 0 _ (satN_le _) zb85 b4).mono ?_
  exact zz68
 ·skip
  have hlk:=look_cost (HC.out).1 op (fv:=(.agg #[.int .i64 0,.bool false])) (bv:=false) zb37 zb37
  have HVV:=J (show cost1 op F=2+costF F from by unfold cost1 ownE;rw [if_neg zb85,if_neg zb85,if_neg zb85])
  clear ho
  have y2:Ext W1 (W1.alloc (.cells #[.int .i64 0,.bool false] 207)):=(kR _ W1).alloc _
  have b2:=bN W1 207 #[.int .i64 0,.bool false]
  rw [← HP6.out] at b2
  have hl6:¬ W1.heap.size < W1.heap.size:=by omega
  have k1:=bH b2
  have k2:=Blk.melts b2
  have k3:=b2.lt
  go_upto_region 2 with (fail)
  rw [← HP6.out]
  have y3:=y2.putAt p6 0 #[.int .i64 2,.bool true] (fun h=>absurd h (by rw [HP6.out];omega))
  have b3:Blk (putAt (W1.alloc (.cells #[.int .i64 0,.bool false] 207)) p6 0 #[.int .i64 2,.bool true]) p6 207 #[.int .i64 2,.bool true]:=Blk.put_ b2 0 _
  generalize (W1.alloc (.cells #[.int .i64 0,.bool false] 207))=W2 at y2 b2 k1 k2 k3 y3 b3 ⊢
  go_upto_region 4 with (fail)
  clear i1 i2 j1 j2 hlk hl6 y2 b2 k1 k2 k3
  generalize (putAt W2 p6 0 #[.int .i64 2,.bool true])=W3 at y3 b3 ⊢
  have y2:=y3
  clear y3
  have B2:=J b3
  clear b3
  have Y2:=J y2
  have i1:=bC B2.out
  have i2:=B2.out.lt
  go_wp2_with fail
  refine (bsum_any 2 _).mono ?_
  rintro e w3 ⟨rfl,b3,y3⟩
  obtain ⟨nb,hnb⟩:∃ nb,nb=W3.heap.size:=⟨_,rfl⟩
  refine zy42 ?_;clear b3 i1 i2 y2 y3 hnb;intro B3 Y3 HNB i1 i2 j1 j2 l1 l2 l3
  go_wp2_with fail
  have hnl:w.heap.size≤nb:=by rw [HNB.out];exact (y1.trans Y2.out).size
  refine (HI.out ex st N A _ nb 2 _ (HC.out.ext Y3.out) (HE.out.kept Y3.out (by have a:=y1.size;have b:=HP4.out;omega) (fun _ f=>f.elim)) zb85 B3.out (by have b:=HP4.out;omega)).mono ?_
  rintro e w4 ⟨rfl,b4,k4⟩
  clear i1 i2 j1 j2 l1 l2 l3
  go_wp2_with fail
  refine (bsum1_any nb (satN (2+costF F)) 0 _ (satN_le _) zb85 b4).mono ?_
  exact zz68
open Go.RowKit So Mc
set_option maxRecDepth 100000 in
theorem ball_any (F:EF):AllB F:=by
 refine ef_ind (C:=AllB) ?_ F
 clear F
 intro F IH ex st N A c nb n w hC hE hn hb hNn
 obtain ⟨-,hf,b,off,hA,hEF⟩:=hE
 have hm:=hf.max zb85
 obtain ⟨W1,hW1⟩:∃ W1,W1=w.alloc (.cells (cnt ex st) 126):=⟨_,rfl⟩
 have y1:Ext w W1:=by rw [hW1];exact (kR _ w).alloc _
 have h4:Blk W1 w.heap.size 126 (cnt ex st):=by rw [hW1];exact bN w _ _
 have hN:N≤w.heap.size:=by have:=hb.lt;omega
 have HB:=J (bX hb y1)
 have HNE:=J (show ¬ w.heap.size=nb by have:=hb.lt;omega)
 have hce:=hC.ne hb
 have HCE:=J hce
 have HC:=J (hC.ext y1)
 have HEF:=J (hEF.kept y1 hN (fun _ f=>f.elim))
 have HI:=J IH
 have HA:=J hA
 have H4:=J h4
 have HN1:=J (show N≤W1.heap.size from Nat.le_trans hN y1.size)
 have HNN:=J hNn
 obtain ⟨len,hlen⟩:∃ len,len=F.len:=⟨_,rfl⟩
 have HLEN:=J hlen
 rw [← hlen] at hm hA ⊢
 obtain ⟨T,hT⟩:∃ T,T=n+costF F:=⟨_,rfl⟩
 have HT:=J hT
 rw [← hT]
 have hNS:=satN_self hn
 have HNS:=J hNS
 clear hC hEF IH hA h4 hb hf hNn hlen hT hce hNS
 go_enter Tryz.func152,Tryz.ntmps152
 go_upto_region 1 with (fail)
 refine wp_scope_straight ?_
 repeat (first | (refine wp_label ?_;simp only [Exit.then]) | go_step)
 rw [← hW1]
 generalize hp4:(w:World).heap.size=p4 at HNE H4 hN ⊢
 clear hW1
 go_loopw [10] (fun t10 wr=>∃ (j:Nat) (R:EF) (m:Nat),j+R.len=len∧t10=.int .i64 j∧EFAt W1 N R b (off+j * 4)∧EF.All AllB R∧m≤65537∧satN (m+costF R)=satN T∧Blk wr nb 3 #[.int .i64 m]∧Kept (·=nb) W1 wr) (fun t10 _=>len - (intOf t10).toNat)
 case atStart=>exact ⟨0,F,n,by rw [HLEN.out,Nat.zero_add],rfl,by simpa using HEF.out,HI.out,hn,by rw [HT.out],HB.out,kR _ _⟩
 case round =>
  obtain ⟨j,R,m,hj,rfl,hR,hall,hm6,hsum,hbm,hkm⟩:=hrel
  have HRR:=J hR
  have HALL:=J hall
  have HSUM:=J hsum
  have HBM:=J hbm
  have HKM:=J hkm
  clear hR hall hsum hbm hkm
  cases R with
  | nil =>
   simp only [EF.len,Nat.add_zero] at hj
   subst hj
   go_wp2_with fail
   simp only [Exit.noGoto]
   go_end0
   have hs:=HSUM.out
   rw [show costF .nil=0 from rfl,Nat.add_zero,satN_self hm6] at hs
   exact ⟨rfl,hs ▸ HBM.out,(y1.mono (fun _ _ f=>f.elim)).trans HKM.out⟩
  | cons op' n' s' K r =>
   obtain ⟨hbN,-,-,-,⟨A',cap,b',off',hh,hg,hfk,hAk,hek⟩,hr⟩:=HRR.out
   simp only [EF.len] at hj
   have hlt:(j:Int) < len:=by omega
   obtain rfl:=HA.out (by have:=HLEN.out;omega)
   have hnb:¬ b=nb:=by have:=HNN.out;omega
   have hh':=(has_keep HKM.out (by have:=HN1.out;omega) hnb).trans hh
   have hg':=(gets_keep HKM.out (by have:=HN1.out;omega) hnb).trans hg
   have hbw:b < wr.heap.size:=by have:=HN1.out;have:=HKM.out.size;omega
   have HK:=J (show ESl W1 N A' K.len K from ⟨rfl,hfk,b',off',hAk,hek⟩)
   have HR2:=J hr
   have HA1:=J HALL.out.1
   have HA2:=J HALL.out.2
   clear hh hg hfk hAk hek hbN hr HRR HALL
   have y3:=(kR (fun _=>False) wr).alloc (.cells (ecells op' n' s' A' K.len cap) 200)
   have b3:=bN wr 200 (ecells op' n' s' A' K.len cap)
   have q4:=bK H4.out HKM.out HNE.out
   go_upto_region 4 with (fail)
   clear hh' hg'
   generalize (wr.alloc (.cells (ecells op' n' s' A' K.len cap) 200))=W3 at y3 b3 ⊢
   generalize wr.heap.size=g at b3 hbw ⊢
   have q5:=bX q4 y3
   have l1:=bH q5
   have l2:=bG q5
   have l3:=q5.lt
   have l4:=bH b3
   have l5:=bG b3
   have l6:=b3.lt
   have HY3:=J y3
   clear q4 q5 b3 y3
   go_wp2_with fail
   have hKE:Kept (·=nb) W1 W3:=HKM.out.trans (HY3.out.mono (fun _ _ f=>f.elim))
   refine (bexpr_any K HA1.out ex st N op' n' s' A' cap _ ((HC.out.kept HKM.out HCE.out.1 HCE.out.2).ext HY3.out) (HK.out.kept hKE HN1.out (fun i e=>by have:=HNN.out;omega)) (by have:=HN1.out;have:=hKE.size;omega)).mono ?_
   rintro e w4 ⟨rfl,y4⟩
   go_wp2_with fail
   refine (bsum1_any nb m (satN (cost1 op' K)) _ hm6 (by have:=satN_le (cost1 op' K);omega) (bX (bX HBM.out HY3.out) y4)).mono ?_
   rintro e w5 ⟨rfl,b5,k5⟩
   have HS2:=J (show satN (satN (m+satN (cost1 op' K))+costF r)=satN T from by
    rw [← HSUM.out,satN_add,show costF (.cons op' n' s' K r)=cost1 op' K+costF r from rfl,← Nat.add_assoc]
    unfold satN
    omega)
   have hz6:=satN_le (m+satN (cost1 op' K))
   generalize satN (m+satN (cost1 op' K))=z at b5 HS2 hz6 ⊢
   have HB5:=J b5
   have HK5:=J (hKE.trans ((y4.mono (fun _ _ f=>f.elim)).trans k5))
   clear b5 k5 y4 l1 l2 l3 l4 l5 l6
   by_cases hbig:65536 < z
   ·have hg:decide ((65536:Int) < (z:Int))=true:=decide_eq_true zb85
    have HBG:=J hbig
    clear hbig
    go_wp2_with fail
    simp only [Exit.noGoto]
    go_end0
    have hs:=HS2.out
    rw [show satN (z+costF r)=z by have:=HBG.out;unfold satN;omega] at hs
    exact ⟨rfl,hs ▸ HB5.out,(y1.mono (fun _ _ f=>f.elim)).trans HK5.out⟩
   ·have hg:decide ((65536:Int) < (z:Int))=false:=decide_eq_false zb85
    clear hbig
    go_wp2_with fail
    go_roundw
    case rel=>exact ⟨j+1,r,z,by omega,by go_num,by rw [Nat.add_mul,← Nat.add_assoc];exact HR2.out,HA2.out,hz6,HS2.out,HB5.out,HK5.out⟩
    case measure=>simp only [intOf];omega
end Go.Proofs.YtbfbabbcdochjaaGreatDoor
