/- Several texts joined: Ke, Kf, Kg, Kh, Kia, Kib. -/
import Derived.Test.YtbfbabbcdochjaaGreatDoorRxpk
import Derived.Test.YtbfbabbcdochjaaGreatDoorRxao
set_option maxHeartbeats 4000000
namespace Go.Proofs.YtbfbabbcdochjaaGreatDoor.Mc
open Go.RowKit
def MapB (w:World) (g:Nat) (es:Array MapEntry) (clock:Nat):Prop:=w.heap[g]?=some (.map es clock)
theorem MapB.lt {w:World} {g:Nat} {es:Array MapEntry} {clock:Nat} (h:MapB w g es clock):g < w.heap.size:=(Array.getElem?_eq_some_iff.1 h).1
theorem MapB.kept {S:Nat→Prop} {w w':World} {g:Nat} {es:Array MapEntry} {clock:Nat} (h:MapB w g es clock) (hk:Kept S w w') (hs:¬ S g):MapB w' g es clock:=(hk.block g h.lt hs).trans h
theorem MapB.ext {w w':World} {g:Nat} {es:Array MapEntry} {clock:Nat} (h:MapB w g es clock) (hk:Ext w w'):MapB w' g es clock:=h.kept hk (fun f=>f)
theorem insStep (w:World) (g:Nat) (es:Array MapEntry) (clock:Nat) (k:Int) (f:Value) (hb:MapB w g es clock) (hf:Instr.findNow (.int .i64) (.int .i64 k) es.toList 0=some none) :
 ∃ w',(Instr.mapUpdate 131 (.map (some g)) (.int .i64 k) f).run Tryz.prog w=.ok () w'∧MapB w' g (es.push ⟨.int .i64 k,f,clock⟩) (clock+1)∧Kept (·=g) w w':=by
 have hc:(Instr.checkKey false 10000 3 (.int .i64 k)).run Tryz.prog w=.ok () w:=MapKept.run_checkKey (k:=.int .i64 k) Tryz.underlying3 (by simp [MapKept.IsKey]) false 9999
 refine ⟨{ w with heap:=w.heap.setIfInBounds g (.map (es.push ⟨.int .i64 k,f,clock⟩) (clock+1)) },?_,?_,⟨rfl,rfl,rfl,by simp,fun j hj hn=>?_⟩⟩
 ·simp [Instr.mapUpdate,run_underlying Tryz.underlying131,MapKept.run_getObj_map hb,hc,MapKept.run_findKey Tryz.underlying3 hf,MapKept.run_setObj_map _ hb,Result.andThen]
 ·exact (MapKept.heap_set hb).1
 ·exact (MapKept.heap_set hb).2 j hn
theorem wpList_ins {P:Program} {w:World} {ops:Array Oper} {rest:List Oper} {o:Oper} {a:Act} {Q:Exit→Act→World→Prop} (hgd:o.guard=none) (T:TypeId) (m k x:Operand)
 (ho:o.op=.insert T m k x) (hd:o.dst=none) {vm vk vx:Value} {w':World} (hm:a.eval m=vm) (hk:a.eval k=vk) (hx:a.eval x=vx)
 (hrun:(Instr.mapUpdate T vm vk vx).run P w=.ok () w') (h:wpList P ops Q rest a w'):wpList P ops Q (o :: rest) a w:=by
 refine wpList_plain hgd fun _ hK=>?_
 unfold Oper.wp execOp
 simp only [ho,Sem.run_bind,Sem.run_pure,Result.andThen_ok,hm,hk,hx,hrun,Oper.upon]
 have e:a.put o.dst undef=a:=by rw [hd];rfl
 rw [e]
 exact hK _ _ h
def twosE (n:Nat):Array MapEntry:=(([⟨.int .i64 3,.func (.func 100) #[] #[],0⟩,⟨.int .i64 4,.func (.func 101) #[] #[],1⟩,⟨.int .i64 5,.func (.func 102) #[] #[],2⟩,⟨.int .i64 6,.func (.func 103) #[] #[],3⟩,⟨.int .i64 7,.func (.func 104) #[] #[],4⟩,⟨.int .i64 8,.func (.func 105) #[] #[],5⟩,⟨.int .i64 9,.func (.func 107) #[] #[],6⟩,⟨.int .i64 10,.func (.func 108) #[] #[],7⟩,⟨.int .i64 11,.func (.func 109) #[] #[],8⟩,⟨.int .i64 12,.func (.func 110) #[] #[],9⟩,⟨.int .i64 13,.func (.func 111) #[] #[],10⟩]:List MapEntry).take n).toArray
set_option maxRecDepth 100000 in
theorem twos_any (w:World):Calls Tryz.prog 62 #[] w fun e w'=>e=.returned (.map (some w.heap.size))∧MapB w' w.heap.size (twosE 11) 11∧Ext w w':=by
 have hmm:=@run_makeMap Tryz.prog
 go_enter Tryz.func62,Tryz.ntmps62
 go_upto_region 1 with (fail)
 go_step
 iterate 1 refine qls ?_
 have b0:MapB (w.alloc (.map #[] 0)) w.heap.size (twosE 0) 0:=heap_alloc_new w _
 have y0:Ext w (w.alloc (.map #[] 0)):=(kR _ w).alloc _
 generalize (w.alloc (.map #[] 0))=w0 at b0 y0 ⊢
 obtain ⟨w1,r1,b1,k1⟩:=insStep w0 w.heap.size (twosE 0) 0 3 (.func (.func 100) #[] #[]) b0 zb87
 refine wpList_ins rfl 131 (.tmp 1) (.const (.int .i64 3)) (.func 100) rfl rfl rfl rfl rfl r1 ?_
 replace b1:MapB w1 w.heap.size (twosE 1) 1:=b1
 have y1:Ext w w1:=y0.trans' k1 (fun i hi e=>by omega)
 clear r1 k1 b0 y0
 obtain ⟨w2,r2,b2,k2⟩:=insStep w1 w.heap.size (twosE 1) 1 4 (.func (.func 101) #[] #[]) b1 zb87
 refine wpList_ins rfl 131 (.tmp 1) (.const (.int .i64 4)) (.func 101) rfl rfl rfl rfl rfl r2 ?_
 replace b2:MapB w2 w.heap.size (twosE 2) 2:=b2
 have y2:Ext w w2:=y1.trans' k2 (fun i hi e=>by omega)
 clear r2 k2 b1 y1
 obtain ⟨w3,r3,b3,k3⟩:=insStep w2 w.heap.size (twosE 2) 2 5 (.func (.func 102) #[] #[]) b2 zb87
 refine wpList_ins rfl 131 (.tmp 1) (.const (.int .i64 5)) (.func 102) rfl rfl rfl rfl rfl r3 ?_
 replace b3:MapB w3 w.heap.size (twosE 3) 3:=b3
 have y3:Ext w w3:=y2.trans' k3 (fun i hi e=>by omega)
 clear r3 k3 b2 y2
 obtain ⟨w4,r4,b4,k4⟩:=insStep w3 w.heap.size (twosE 3) 3 6 (.func (.func 103) #[] #[]) b3 zb87
 refine wpList_ins rfl 131 (.tmp 1) (.const (.int .i64 6)) (.func 103) rfl rfl rfl rfl rfl r4 ?_
 replace b4:MapB w4 w.heap.size (twosE 4) 4:=b4
 have y4:Ext w w4:=y3.trans' k4 (fun i hi e=>by omega)
 clear r4 k4 b3 y3
 obtain ⟨w5,r5,b5,k5⟩:=insStep w4 w.heap.size (twosE 4) 4 7 (.func (.func 104) #[] #[]) b4 zb87
 refine wpList_ins rfl 131 (.tmp 1) (.const (.int .i64 7)) (.func 104) rfl rfl rfl rfl rfl r5 ?_
 replace b5:MapB w5 w.heap.size (twosE 5) 5:=b5
 have y5:Ext w w5:=y4.trans' k5 (fun i hi e=>by omega)
 clear r5 k5 b4 y4
 obtain ⟨w6,r6,b6,k6⟩:=insStep w5 w.heap.size (twosE 5) 5 8 (.func (.func 105) #[] #[]) b5 zb87
 refine wpList_ins rfl 131 (.tmp 1) (.const (.int .i64 8)) (.func 105) rfl rfl rfl rfl rfl r6 ?_
 replace b6:MapB w6 w.heap.size (twosE 6) 6:=b6
 have y6:Ext w w6:=y5.trans' k6 (fun i hi e=>by omega)
 clear r6 k6 b5 y5
 obtain ⟨w7,r7,b7,k7⟩:=insStep w6 w.heap.size (twosE 6) 6 9 (.func (.func 107) #[] #[]) b6 zb87
 refine wpList_ins rfl 131 (.tmp 1) (.const (.int .i64 9)) (.func 107) rfl rfl rfl rfl rfl r7 ?_
 replace b7:MapB w7 w.heap.size (twosE 7) 7:=b7
 have y7:Ext w w7:=y6.trans' k7 (fun i hi e=>by omega)
 clear r7 k7 b6 y6
 obtain ⟨w8,r8,b8,k8⟩:=insStep w7 w.heap.size (twosE 7) 7 10 (.func (.func 108) #[] #[]) b7 zb87
 refine wpList_ins rfl 131 (.tmp 1) (.const (.int .i64 10)) (.func 108) rfl rfl rfl rfl rfl r8 ?_
 replace b8:MapB w8 w.heap.size (twosE 8) 8:=b8
 have y8:Ext w w8:=y7.trans' k8 (fun i hi e=>by omega)
 clear r8 k8 b7 y7
 obtain ⟨w9,r9,b9,k9⟩:=insStep w8 w.heap.size (twosE 8) 8 11 (.func (.func 109) #[] #[]) b8 zb87
 refine wpList_ins rfl 131 (.tmp 1) (.const (.int .i64 11)) (.func 109) rfl rfl rfl rfl rfl r9 ?_
 replace b9:MapB w9 w.heap.size (twosE 9) 9:=b9
 have y9:Ext w w9:=y8.trans' k9 (fun i hi e=>by omega)
 clear r9 k9 b8 y8
 obtain ⟨w10,r10,b10,k10⟩:=insStep w9 w.heap.size (twosE 9) 9 12 (.func (.func 110) #[] #[]) b9 zb87
 refine wpList_ins rfl 131 (.tmp 1) (.const (.int .i64 12)) (.func 110) rfl rfl rfl rfl rfl r10 ?_
 replace b10:MapB w10 w.heap.size (twosE 10) 10:=b10
 have y10:Ext w w10:=y9.trans' k10 (fun i hi e=>by omega)
 clear r10 k10 b9 y9
 obtain ⟨w11,r11,b11,k11⟩:=insStep w10 w.heap.size (twosE 10) 10 13 (.func (.func 111) #[] #[]) b10 zb87
 refine wpList_ins rfl 131 (.tmp 1) (.const (.int .i64 13)) (.func 111) rfl rfl rfl rfl rfl r11 ?_
 replace b11:MapB w11 w.heap.size (twosE 11) 11:=b11
 have y11:Ext w w11:=y10.trans' k11 (fun i hi e=>by omega)
 clear r11 k11 b10 y10
 go_wp2_with fail
 go_ret
 exact ⟨rfl,b11,y11⟩
theorem lookF (w:World) (g:Nat) (k:Int) (f:Value) (i:Nat) (hb:MapB w g (twosE 11) 11) (hf:Instr.findNow (.int .i64) (.int .i64 k) (twosE 11).toList 0=some (some (i,f))) :
 (Instr.lookup 131 (.map (some g)) (.int .i64 k) false).run Tryz.prog w=.ok f w:=by
 have hc:(Instr.checkKey (twosE 11).isEmpty 10000 3 (.int .i64 k)).run Tryz.prog w=.ok () w:=MapKept.run_checkKey (k:=.int .i64 k) Tryz.underlying3 (by simp [MapKept.IsKey]) _ 9999
 simp [Instr.lookup,run_underlying Tryz.underlying131,MapKept.run_getObj_map hb,hc,MapKept.run_findKey Tryz.underlying3 hf,Result.andThen]
def truthI (b:Bool):Int:=if b=true then 1 else 0
theorem truth_any (b:Bool) (w:World):Calls Tryz.prog 106 #[.bool b] w fun e w'=>e=.returned (.int .i32 (truthI b))∧w=w':=by
 cases b
 all_goals
  go_enter Tryz.func106,Tryz.ntmps106
  go_wp2_with fail
  go_ret
  exact ⟨rfl,rfl⟩
def twoI (k:Nat) (b c:Int):Int:=match k with
 | 3=>IntKind.i32.wrap (b+c)
 | 4=>IntKind.i32.wrap (b - c)
 | 5=>IntKind.i32.wrap (b * c)
 | 6=>if c=0 then 0 else IntKind.i32.wrap (b.tdiv c)
 | 7=>if c=0 then 0 else b.tmod c
 | 8=>truthI (b == c)
 | 9=>truthI (b != c)
 | 10=>truthI (decide (b < c))
 | 11=>truthI (decide (b≤c))
 | 12=>truthI (b != 0 && c != 0)
 | _=>truthI (b != 0 || c != 0)
open Go.RowKit
theorem two3 (b c:Int) (_hb:i32ok b) (_hc:i32ok c) (w:World):Calls Tryz.prog 100 #[.int .i32 b,.int .i32 c] w fun e w'=>e=.returned (.int .i32 (twoI 3 b c))∧w=w':=by
 unfold i32ok at _hb _hc
 go_enter Tryz.func100,Tryz.ntmps100
 go_wp2_with fail
 go_ret
 exact ⟨ret_int zb53,rfl⟩
theorem two4 (b c:Int) (_hb:i32ok b) (_hc:i32ok c) (w:World):Calls Tryz.prog 101 #[.int .i32 b,.int .i32 c] w fun e w'=>e=.returned (.int .i32 (twoI 4 b c))∧w=w':=by
 unfold i32ok at _hb _hc
 go_enter Tryz.func101,Tryz.ntmps101
 go_wp2_with fail
 go_ret
 exact ⟨ret_int zb53,rfl⟩
theorem two5 (b c:Int) (_hb:i32ok b) (_hc:i32ok c) (w:World):Calls Tryz.prog 102 #[.int .i32 b,.int .i32 c] w fun e w'=>e=.returned (.int .i32 (twoI 5 b c))∧w=w':=by
 unfold i32ok at _hb _hc
 go_enter Tryz.func102,Tryz.ntmps102
 go_wp2_with fail
 go_ret
 exact ⟨ret_int zb53,rfl⟩
theorem two6 (b c:Int) (_hb:i32ok b) (_hc:i32ok c) (w:World):Calls Tryz.prog 103 #[.int .i32 b,.int .i32 c] w fun e w'=>e=.returned (.int .i32 (twoI 6 b c))∧w=w':=by
 unfold i32ok at _hb _hc
 by_cases h0:c=0
 ·have b0:(c == 0)=true:=by simp [h0]
  have H0:=J h0
  clear h0
  go_enter Tryz.func103,Tryz.ntmps103
  exact zz99
 ·have b0:(c == 0)=false:=by simp [h0]
  have H0:=J h0
  go_enter Tryz.func103,Tryz.ntmps103
  go_wp2_with fail
  go_ret
  exact ⟨ret_int (by simp [twoI,H0.out,IntKind.wrap_i32,wrap32]),rfl⟩
theorem two7 (b c:Int) (_hb:i32ok b) (_hc:i32ok c) (w:World):Calls Tryz.prog 104 #[.int .i32 b,.int .i32 c] w fun e w'=>e=.returned (.int .i32 (twoI 7 b c))∧w=w':=by
 unfold i32ok at _hb _hc
 by_cases h0:c=0
 ·have b0:(c == 0)=true:=by simp [h0]
  have H0:=J h0
  clear h0
  go_enter Tryz.func104,Tryz.ntmps104
  exact zz99
 ·have b0:(c == 0)=false:=by simp [h0]
  have H0:=J h0
  go_enter Tryz.func104,Tryz.ntmps104
  exact zz99
theorem two8 (b c:Int) (_hb:i32ok b) (_hc:i32ok c) (w:World):Calls Tryz.prog 105 #[.int .i32 b,.int .i32 c] w fun e w'=>e=.returned (.int .i32 (twoI 8 b c))∧w=w':=by
 unfold i32ok at _hb _hc
 go_enter Tryz.func105,Tryz.ntmps105
 exact zz91
theorem two9 (b c:Int) (_hb:i32ok b) (_hc:i32ok c) (w:World):Calls Tryz.prog 107 #[.int .i32 b,.int .i32 c] w fun e w'=>e=.returned (.int .i32 (twoI 9 b c))∧w=w':=by
 unfold i32ok at _hb _hc
 go_enter Tryz.func107,Tryz.ntmps107
 exact zz91
theorem two10 (b c:Int) (_hb:i32ok b) (_hc:i32ok c) (w:World):Calls Tryz.prog 108 #[.int .i32 b,.int .i32 c] w fun e w'=>e=.returned (.int .i32 (twoI 10 b c))∧w=w':=by
 unfold i32ok at _hb _hc
 go_enter Tryz.func108,Tryz.ntmps108
 exact zz91
theorem two11 (b c:Int) (_hb:i32ok b) (_hc:i32ok c) (w:World):Calls Tryz.prog 109 #[.int .i32 b,.int .i32 c] w fun e w'=>e=.returned (.int .i32 (twoI 11 b c))∧w=w':=by
 unfold i32ok at _hb _hc
 go_enter Tryz.func109,Tryz.ntmps109
 exact zz91
theorem two12 (b c:Int) (_hb:i32ok b) (_hc:i32ok c) (w:World):Calls Tryz.prog 110 #[.int .i32 b,.int .i32 c] w fun e w'=>e=.returned (.int .i32 (twoI 12 b c))∧w=w':=by
 unfold i32ok at _hb _hc
 by_cases h0:b=0
 ·have b0:(b != 0)=false:=by simp [h0]
  have H0:=J h0
  clear h0
  go_enter Tryz.func110,Tryz.ntmps110
  go_wp2_with fail
  refine (truth_any _ _).mono ?_
  rintro e w1 ⟨rfl,rfl⟩
  exact zz99
 ·have b0:(b != 0)=true:=by simp [h0]
  have H0:=J h0
  clear h0
  go_enter Tryz.func110,Tryz.ntmps110
  go_wp2_with fail
  refine (truth_any _ _).mono ?_
  rintro e w1 ⟨rfl,rfl⟩
  go_wp2_with fail
  go_ret
  exact ⟨ret_int (by unfold twoI;rw [b0];rfl),rfl⟩
theorem two13 (b c:Int) (_hb:i32ok b) (_hc:i32ok c) (w:World):Calls Tryz.prog 111 #[.int .i32 b,.int .i32 c] w fun e w'=>e=.returned (.int .i32 (twoI 13 b c))∧w=w':=by
 unfold i32ok at _hb _hc
 by_cases h0:b=0
 ·have b0:(b != 0)=false:=by simp [h0]
  have H0:=J h0
  clear h0
  go_enter Tryz.func111,Tryz.ntmps111
  go_wp2_with fail
  refine (truth_any _ _).mono ?_
  rintro e w1 ⟨rfl,rfl⟩
  exact zz99
 ·have b0:(b != 0)=true:=by simp [h0]
  have H0:=J h0
  clear h0
  go_enter Tryz.func111,Tryz.ntmps111
  go_wp2_with fail
  refine (truth_any _ _).mono ?_
  rintro e w1 ⟨rfl,rfl⟩
  go_wp2_with fail
  go_ret
  exact ⟨ret_int (by unfold twoI;rw [b0];rfl),rfl⟩
open Go.RowKit
def MemAt (w:World) (base g n kc:Nat) (m:List Int):Prop:=w.ownsRow base 21 1 (.slice (some ⟨g,0,none⟩) n kc) n (mems m)
section
variable {w w':World} {base g n kc:Nat} {m:List Int}
theorem mems_len (m:List Int):(mems m).length=m.length:=by simp [mems]
theorem MemAt.inv (h:MemAt w base g n kc m):n=m.length∧∃ cur,base≤g∧w.heap[g]?=some (.cells cur 21 (0,0))∧n≤kc∧kc≤maxLen∧cur.size=kc∧cur.toList.take n=mems m:=by
 have hl:=h.1
 rw [mems_len,Nat.mul_one] at hl
 rcases h.2 with ⟨hv,_⟩ | ⟨g',c,cur,hv,hb,hc,hnc,hcm,hcs,htk⟩
 ·simp at hv
 ·simp at hv
  obtain ⟨rfl,rfl⟩:=hv
  rw [Nat.mul_one] at hcs htk
  exact ⟨hl.symm,cur,hb,hc,hnc,hcm,hcs,htk⟩
theorem MemAt.row (h:MemAt w base g n kc m):Row w g 0 (mems m):=by
 obtain ⟨hn,cur,hb,hc,hnc,hcm,hcs,htk⟩:=h.inv
 refine ⟨?_,?_,(Array.getElem?_eq_some_iff.1 hc).1⟩
 ·unfold Proofs.YtbfbabbcdochjaaGreatDoor.has;rw [hc,mems_len];simp;omega
 ·unfold gets;rw [hc,mems_len,← hn];simp only [List.drop_zero];rw [htk]
theorem MemAt.lt (h:MemAt w base g n kc m):g < w.heap.size:=h.row.lt
theorem MemAt.cell (h:MemAt w base g n kc m) (k:Nat) (hk:k < m.length):w.cell? ⟨g,k,none⟩=some (.int .i32 m[k]):=by
 have:=h.row.mem k hk
 rwa [Nat.zero_add] at this
theorem MemAt.frozen (h:MemAt w base g n kc m) (k:Nat):w.frozen? ⟨g,k,none⟩=false:=by
 obtain ⟨hn,cur,hb,hc,_⟩:=h.inv
 simp [World.frozen?,hc]
theorem MemAt.kept {S:Nat→Prop} (h:MemAt w base g n kc m) (hk:Kept S w w') (hs:¬ S g):MemAt w' base g n kc m:=own_kept h hk (fun x hx=>by simp [Value.ownBlock] at hx;subst hx;exact hs)
theorem MemAt.ext (h:MemAt w base g n kc m) (hk:Ext w w'):MemAt w' base g n kc m:=own_ext h hk
theorem MemAt.far (h:MemAt w base g n kc m) {p:Addr} (hp:¬ g=p.block) (u:Value):MemAt (w.setCell p u) base g n kc m :=
 h.kept (Kept.setCell (S:=(·=p.block)) (kR _ w) p u (fun _=>rfl)) hp
theorem MemAt.set (h:MemAt w base g n kc m) (k:Nat) (_hk:k < m.length) (v:Int):MemAt (w.setCell ⟨g,k,none⟩ (.int .i32 v)) base g n kc (m.set k v):=by
 obtain ⟨hn,cur,hb,hc,hnc,hcm,hcs,htk⟩:=h.inv
 refine ⟨by rw [mems_len];simp [hn],.inr ⟨g,kc,cur.setIfInBounds k (.int .i32 v),rfl,hb,?_,hnc,hcm,by simpa using hcs,?_⟩⟩
 ·simp [World.setCell,Array.getElem?_modify,hc]
 ·rw [Nat.mul_one,Array.toList_setIfInBounds,List.take_set,htk,mems,mems,List.map_set]
end
structure Stepped (w w':World) (base s g n kc:Nat) (r:Int × Int × List Int):Prop where
 st:StAt w' s 49 r.1 (some ⟨g,0,none⟩) n kc r.2.1
 mem:MemAt w' base g n kc r.2.2
 kept:Kept (fun i=>i=s ∨ i=g) w w'
theorem Stepped.goal {w w2:World} {base s g n kc:Nat} {m:List Int} {pc halt:Int} (hk:Kept (fun i=>i=s ∨ i=g) w w2) (hs:StAt w2 s 49 pc (some ⟨g,0,none⟩) n kc halt) (hm:MemAt w2 base g n kc m) (hsg:¬ s=g) (pc':Int) :
 Stepped w (w2.setCell ⟨s,0,none⟩ (.int .i64 pc')) base s g n kc (pc',halt,m) :=
 ⟨Blk.set_ hs 0 (.int .i64 pc'),hm.far (fun e=>hsg e.symm) _,Kept.setCell hk _ _ (fun _=>.inl rfl)⟩
theorem Stepped.halt {w w2:World} {base s g n kc:Nat} {m:List Int} {pc halt:Int} (hk:Kept (fun i=>i=s ∨ i=g) w w2) (hs:StAt w2 s 49 pc (some ⟨g,0,none⟩) n kc halt) (hm:MemAt w2 base g n kc m) (hsg:¬ s=g) (halt':Int) :
 Stepped w (w2.setCell ⟨s,2,none⟩ (.int .i64 halt')) base s g n kc (pc,halt',m) :=
 ⟨Blk.set_ hs 2 (.int .i64 halt'),hm.far (fun e=>hsg e.symm) _,Kept.setCell hk _ _ (fun _=>.inl rfl)⟩
def mget (m:List Int) (i:Int):Int:=m.getD i.toNat 0
def mput (m:List Int) (i:Int) (v:Int):List Int:=m.set i.toNat v
def execI (i:Ins) (pc:Int) (m:List Int):Int × Int × List Int :=
 if i.op=0 then (pc,1+i.a,m)
 else if i.op=1 then (pc+1,0,mput m i.a i.b)
 else if i.op=2 then (pc+1,0,mput m i.a (mget m i.b))
 else if i.op=14 then (pc+1,0,mput m i.a (truthI (mget m i.b == 0)))
 else if i.op=15 then (pc+1,0,mput m i.a (mget m (farI i m)))
 else if i.op=16 then (pc+1,0,mput m (farI i m) (mget m i.c))
 else if i.op=17 then (pc+1,0,mput m i.a (min (max (mget m i.a) i.b) i.c))
 else if i.op=18 then (pc+1,0,mput m i.a (truthI (decide (0≤mget m i.b) && decide (mget m i.b < i.c))))
 else if i.op=19 then (i.a,0,m)
 else if i.op=20 then (if mget m i.b=0 then i.a else pc+1,0,m)
 else if i.op=21 then (if mget m i.b=0 then pc+1 else i.a,0,m)
 else (pc+1,0,mput m i.a (twoI i.op.toNat (mget m i.b) (mget m i.c)))
def lost (i:Ins) (m:List Int):Bool:=decide (farI i m < 0) && (i.op == 15 || i.op == 16)
def stepI (c:List Ins) (pc:Int) (m:List Int):Int × Int × List Int :=
 match nextI c pc m.length with
 | none=>(pc,2,m)
 | some i=>if lost i m=true then (pc,2,m) else execI i pc m
open Go.RowKit
structure StepPre (w:World) (base s g n kc q:Nat) (A:Option Addr) (b off cn:Nat) (c:List Ins) (pc:Int) (m:List Int):Prop where
 n_eq:n=m.length
 n1:1≤n
 n2:n≤256
 mok:∀ x ∈ m,i32ok x
 ops:OpsAt w
 st:StAt w s 49 pc (some ⟨g,0,none⟩) n kc 0
 mem:MemAt w base g n kc m
 map:MapB w q (twosE 11) 11
 cA:0 < cn→A=some ⟨b,off,none⟩
 row:0 < cn→Row w b off (inss c)
 cn_eq:cn=c.length
 cn2:cn≤2048
 pc0:0≤pc
 pc1:pc≤2048
 sg:¬ s=g
theorem mget_in {m:List Int} {k:Nat} (hk:k < m.length):mget m (k:Int)=m[k]:=by simp [mget,hk]
theorem results_none' {P:Program} {fn:Func} {R:Ending→World→Prop} {a:Act} {w:World} (hres:fn.results=#[]) (hd:a.defers=[]) (hR:R (.returned (.tuple #[])) w):bodyPost P fn R .ret a w :=
 bodyPost_ret (results_none hres _ _ _) hd hR
open Go.RowKit
set_option maxRecDepth 100000 in
theorem st_0 (w:World) (base s g n kc q:Nat) (A:Option Addr) (b off cn cap:Nat) (c:List Ins) (pc:Int) (m:List Int) (h:StepPre w base s g n kc q A b off cn c pc m) (a y z:Int) (ha:a=0 ∨ a=1) (hnx:nextI c pc n=some ⟨0,a,y,z⟩) (hright:rightI ⟨0,a,y,z⟩ cn n=true) :
 Calls Tryz.prog 63 #[.pointer (some ⟨s,0,none⟩),.slice A cn cap,.map (some q)] w fun e w'=>e=.returned (.tuple #[])∧Stepped w w' base s g n kc (execI ⟨0,a,y,z⟩ pc m):=by
 refine zy1 ?_;clear h hnx hright;intro hn1 hn2 hst hmem hmap hcn2 hpc0 hpc1 hsg hls hlg hlq hgs HX HN HO HOP HA HR HCN HRT
 go_wp2_with fail
 refine zy4 ?_;intro e w1 e1 hx1
 replace e1:e=.returned (.tuple #[.agg (Ins.cells ⟨0,a,y,z⟩),.bool true]):=by rw [e1,HX.out];rfl
 subst e1
 have hI1:=bN w1 77 (Ins.cells ⟨0,a,y,z⟩)
 have x1:=hx1.alloc (.cells (Ins.cells ⟨0,a,y,z⟩) 77)
 have hS1:=bX hst x1
 have hM1:=hmem.ext x1
 have hQ1:=hmap.ext x1
 have l1:=hx1.size
 clear hst hmem hmap hx1
 go_upto_region 3 with (fail)
 generalize (w1.alloc (.cells (Ins.cells ⟨0,a,y,z⟩) 77))=W1 at hI1 x1 hS1 hM1 hQ1 ⊢
 refine zy20 ?_;clear hI1 l1;intro ic hI1 l1 hi1 hj1
 go_wp2_with fail
 refine (far_any ⟨0,a,y,z⟩ cn s pc 0 g 0 n kc m _ HN.out hn2 HRT.out HO.out hS1 hM1.row).mono ?_
 rintro e w2 ⟨e2,hx2⟩
 replace e2:e=.returned (.int .i64 (-1)):=by rw [e2];rfl
 subst e2
 refine zy3 ?_;clear hI1 hS1 hM1 hQ1 x1 hx2 hi1 hj1;intro x2 hI2 hS2 hM2 hQ2 hcI hcS hfS lI lS lG
 have ha1:0≤a:=by omega
 have ha2:a≤1:=by omega
 clear ha
 go_wp2_with fail
 refine results_none' Tryz.results63 rfl ⟨rfl,?_⟩
 exact Stepped.halt (Kept.ext x2) hS2 hM2 hsg _
set_option maxRecDepth 100000 in
theorem st_1 (w:World) (base s g n kc q:Nat) (A:Option Addr) (b off cn cap:Nat) (c:List Ins) (pc:Int) (m:List Int) (h:StepPre w base s g n kc q A b off cn c pc m) (a:Nat) (y z:Int) (ha:a < n) (hy1:-2147483648≤y) (hy2:y≤2147483647) (hnx:nextI c pc n=some ⟨1,a,y,z⟩) (hright:rightI ⟨1,a,y,z⟩ cn n=true) :
 Calls Tryz.prog 63 #[.pointer (some ⟨s,0,none⟩),.slice A cn cap,.map (some q)] w fun e w'=>e=.returned (.tuple #[])∧Stepped w w' base s g n kc (execI ⟨1,a,y,z⟩ pc m):=by
 refine zy1 ?_;clear h hnx hright;intro hn1 hn2 hst hmem hmap hcn2 hpc0 hpc1 hsg hls hlg hlq hgs HX HN HO HOP HA HR HCN HRT
 go_wp2_with fail
 refine zy4 ?_;intro e w1 e1 hx1
 replace e1:e=.returned (.tuple #[.agg (Ins.cells ⟨1,a,y,z⟩),.bool true]):=by rw [e1,HX.out];rfl
 subst e1
 have hI1:=bN w1 77 (Ins.cells ⟨1,a,y,z⟩)
 have x1:=hx1.alloc (.cells (Ins.cells ⟨1,a,y,z⟩) 77)
 have hS1:=bX hst x1
 have hM1:=hmem.ext x1
 have hQ1:=hmap.ext x1
 have l1:=hx1.size
 clear hst hmem hmap hx1
 go_upto_region 3 with (fail)
 generalize (w1.alloc (.cells (Ins.cells ⟨1,a,y,z⟩) 77))=W1 at hI1 x1 hS1 hM1 hQ1 ⊢
 refine zy20 ?_;clear hI1 l1;intro ic hI1 l1 hi1 hj1
 go_wp2_with fail
 refine (far_any ⟨1,a,y,z⟩ cn s pc 0 g 0 n kc m _ HN.out hn2 HRT.out HO.out hS1 hM1.row).mono ?_
 rintro e w2 ⟨e2,hx2⟩
 replace e2:e=.returned (.int .i64 (-1)):=by rw [e2];rfl
 subst e2
 refine zy3 ?_;clear hI1 hS1 hM1 hQ1 x1 hx2 hi1 hj1;intro x2 hI2 hS2 hM2 hQ2 hcI hcS hfS lI lS lG
 have hal:a < m.length:=by have:=HN.out;omega
 have haI:(a:Int) < n:=by omega
 have hcM:=hM2.cell a hal
 have hfM:=hM2.frozen
 have hwb:IntKind.i32.wrap y=y:=by rw [IntKind.wrap_i32];omega
 have HE:Hid (execI ⟨1,a,y,z⟩ pc m=(pc+1,0,m.set a y)):=J (by simp [execI,mput])
 go_upto_region 32 with (fail)
 have hS3:=Blk.far hS2 (p:=⟨g,a,none⟩) hsg (.int .i32 (y))
 have hM3:=hM2.set a hal (y)
 have hk3:Kept (fun i=>i=s ∨ i=g) w (w2.setCell ⟨g,a,none⟩ (.int .i32 (y))):=Kept.setCell (Kept.ext x2) _ _ (fun _=>.inr rfl)
 generalize w2.setCell ⟨g,a,none⟩ (.int .i32 y)=W3 at hS3 hM3 hk3 ⊢
 exact zz88
set_option maxRecDepth 100000 in
theorem st_2 (w:World) (base s g n kc q:Nat) (A:Option Addr) (b off cn cap:Nat) (c:List Ins) (pc:Int) (m:List Int) (h:StepPre w base s g n kc q A b off cn c pc m) (a y:Nat) (z:Int) (ha:a < n) (hy:y < n) (hnx:nextI c pc n=some ⟨2,a,y,z⟩) (hright:rightI ⟨2,a,y,z⟩ cn n=true) :
 Calls Tryz.prog 63 #[.pointer (some ⟨s,0,none⟩),.slice A cn cap,.map (some q)] w fun e w'=>e=.returned (.tuple #[])∧Stepped w w' base s g n kc (execI ⟨2,a,y,z⟩ pc m):=by
 refine zy1 ?_;clear h hnx hright;intro hn1 hn2 hst hmem hmap hcn2 hpc0 hpc1 hsg hls hlg hlq hgs HX HN HO HOP HA HR HCN HRT
 go_wp2_with fail
 refine zy4 ?_;intro e w1 e1 hx1
 replace e1:e=.returned (.tuple #[.agg (Ins.cells ⟨2,a,y,z⟩),.bool true]):=by rw [e1,HX.out];rfl
 subst e1
 have hI1:=bN w1 77 (Ins.cells ⟨2,a,y,z⟩)
 have x1:=hx1.alloc (.cells (Ins.cells ⟨2,a,y,z⟩) 77)
 have hS1:=bX hst x1
 have hM1:=hmem.ext x1
 have hQ1:=hmap.ext x1
 have l1:=hx1.size
 clear hst hmem hmap hx1
 go_upto_region 3 with (fail)
 generalize (w1.alloc (.cells (Ins.cells ⟨2,a,y,z⟩) 77))=W1 at hI1 x1 hS1 hM1 hQ1 ⊢
 refine zy20 ?_;clear hI1 l1;intro ic hI1 l1 hi1 hj1
 go_wp2_with fail
 refine (far_any ⟨2,a,y,z⟩ cn s pc 0 g 0 n kc m _ HN.out hn2 HRT.out HO.out hS1 hM1.row).mono ?_
 rintro e w2 ⟨e2,hx2⟩
 replace e2:e=.returned (.int .i64 (-1)):=by rw [e2];rfl
 subst e2
 refine zy3 ?_;clear hI1 hS1 hM1 hQ1 x1 hx2 hi1 hj1;intro x2 hI2 hS2 hM2 hQ2 hcI hcS hfS lI lS lG
 have hal:a < m.length:=by have:=HN.out;omega
 have haI:(a:Int) < n:=by omega
 have hyl:y < m.length:=by have:=HN.out;omega
 have hyI:(y:Int) < n:=by omega
 have hcM:=hM2.cell a hal
 have hfM:=hM2.frozen
 have hcY:=hM2.cell y hyl
 obtain ⟨v,hv⟩:∃ v,v=m[y]:=⟨_,rfl⟩
 have HE:Hid (execI ⟨2,a,y,z⟩ pc m=(pc+1,0,m.set a v)):=J (by simp [execI,mput,mget_in hyl,hv])
 have HV:=J hv
 clear hv
 go_upto_region 15 with (fail)
 refine qr3 (fun w3=>Ext w2 w3) [(0,2),(1,2),(2,1),(3,2),(4,2),(5,1),(6,2),(7,1),(8,2),(9,0)] ?_;refine qrl ?_
 refine zy49 ?_
 exact zz25
open Go.RowKit
set_option maxRecDepth 100000 in
theorem st_14 (w:World) (base s g n kc q:Nat) (A:Option Addr) (b off cn cap:Nat) (c:List Ins) (pc:Int) (m:List Int) (h:StepPre w base s g n kc q A b off cn c pc m) (a y:Nat) (z:Int) (ha:a < n) (hy:y < n) (hnx:nextI c pc n=some ⟨14,a,y,z⟩) (hright:rightI ⟨14,a,y,z⟩ cn n=true) :
 Calls Tryz.prog 63 #[.pointer (some ⟨s,0,none⟩),.slice A cn cap,.map (some q)] w fun e w'=>e=.returned (.tuple #[])∧Stepped w w' base s g n kc (execI ⟨14,a,y,z⟩ pc m):=by
 refine zy1 ?_;clear h hnx hright;intro hn1 hn2 hst hmem hmap hcn2 hpc0 hpc1 hsg hls hlg hlq hgs HX HN HO HOP HA HR HCN HRT
 go_wp2_with fail
 refine zy4 ?_;intro e w1 e1 hx1
 replace e1:e=.returned (.tuple #[.agg (Ins.cells ⟨14,a,y,z⟩),.bool true]):=by rw [e1,HX.out];rfl
 subst e1
 have hI1:=bN w1 77 (Ins.cells ⟨14,a,y,z⟩)
 have x1:=hx1.alloc (.cells (Ins.cells ⟨14,a,y,z⟩) 77)
 have hS1:=bX hst x1
 have hM1:=hmem.ext x1
 have hQ1:=hmap.ext x1
 have l1:=hx1.size
 clear hst hmem hmap hx1
 go_upto_region 3 with (fail)
 generalize (w1.alloc (.cells (Ins.cells ⟨14,a,y,z⟩) 77))=W1 at hI1 x1 hS1 hM1 hQ1 ⊢
 refine zy20 ?_;clear hI1 l1;intro ic hI1 l1 hi1 hj1
 go_wp2_with fail
 refine (far_any ⟨14,a,y,z⟩ cn s pc 0 g 0 n kc m _ HN.out hn2 HRT.out HO.out hS1 hM1.row).mono ?_
 rintro e w2 ⟨e2,hx2⟩
 replace e2:e=.returned (.int .i64 (-1)):=by rw [e2];rfl
 subst e2
 refine zy3 ?_;clear hI1 hS1 hM1 hQ1 x1 hx2 hi1 hj1;intro x2 hI2 hS2 hM2 hQ2 hcI hcS hfS lI lS lG
 have hal:a < m.length:=by have:=HN.out;omega
 have haI:(a:Int) < n:=by omega
 have hyl:y < m.length:=by have:=HN.out;omega
 have hyI:(y:Int) < n:=by omega
 have hcM:=hM2.cell a hal
 have hfM:=hM2.frozen
 obtain ⟨v,hv⟩:∃ v,v=m[y]:=⟨_,rfl⟩
 have Hvr:Hid (i32ok v):=J zb46
 have HE:Hid (execI ⟨14,a,y,z⟩ pc m=(pc+1,0,m.set a (truthI (v == 0)))):=J (by simp [execI,mput,mget_in hyl,hv])
 have HV:=J hv
 clear hv
 go_upto_region 17 with (fail)
 refine qr3 (fun w3=>Ext w2 w3) [(0,2),(1,2),(2,1),(3,2),(4,2),(5,1),(6,2),(7,1),(8,2),(9,0),(10,2),(11,0)] ?_;refine qrl ?_
 refine zy49 ?_
 (refine w3_act (fun K hK=>?_);go_simp)
 go_wp2_with fail
 refine (truth_any _ _).mono ?_
 rintro e w3 ⟨rfl,rfl⟩
 refine hK.out _ _ (fun h=>h) ?_
 clear hK K
 refine qf3 ?_
 have hS3:StAt (w2.setCell ⟨g,a,none⟩ (.int .i32 (truthI (v == 0)))).drew s 49 pc (some ⟨g,0,none⟩) n kc 0:=Blk.far hS2 (p:=⟨g,a,none⟩) hsg (.int .i32 (truthI (v == 0)))
 have hM3:MemAt (w2.setCell ⟨g,a,none⟩ (.int .i32 (truthI (v == 0)))).drew base g n kc (m.set a (truthI (v == 0))):=(hM2.set a hal (truthI (v == 0))).ext ((kR _ _).drew)
 have hk3:Kept (fun i=>i=s ∨ i=g) w (w2.setCell ⟨g,a,none⟩ (.int .i32 (truthI (v == 0)))).drew:=(Kept.setCell (Kept.ext x2) _ _ (fun _=>.inr rfl)).drew
 generalize (w2.setCell ⟨g,a,none⟩ (.int .i32 (truthI (v == 0)))).drew=W3 at hS3 hM3 hk3 ⊢
 exact zz88
set_option maxRecDepth 100000 in
theorem st_15 (w:World) (base s g n kc q:Nat) (A:Option Addr) (b off cn cap:Nat) (c:List Ins) (pc:Int) (m:List Int) (h:StepPre w base s g n kc q A b off cn c pc m) (a y z p:Nat) (ha:a < n) (hp:p < n) (hfar:farI ⟨15,a,y,z⟩ m=(p:Int)) (hnx:nextI c pc n=some ⟨15,a,y,z⟩) (hright:rightI ⟨15,a,y,z⟩ cn n=true) :
 Calls Tryz.prog 63 #[.pointer (some ⟨s,0,none⟩),.slice A cn cap,.map (some q)] w fun e w'=>e=.returned (.tuple #[])∧Stepped w w' base s g n kc (execI ⟨15,a,y,z⟩ pc m):=by
 obtain ⟨hn,hn1,hn2,hmok,hops,hst,hmem,hmap,hcA,hrow,hcn,hcn2,hpc0,hpc1,hsg⟩:=h
 have hls:=hst.lt
 have hlg:=hmem.lt
 have hlq:=hmap.lt
 have hgs:¬ g=s:=fun e=>hsg e.symm
 have HX:=J hnx
 have HN:=J hn
 have HO:=J hmok
 have HOP:=J hops
 have HA:=J hcA
 have HR:=J hrow
 have HCN:=J hcn
 have HRT:=J hright
 have HF:=J hfar
 clear hfar
 clear hnx hn hmok hops hcA hrow hcn hright
 go_enter Tryz.func63,Tryz.ntmps63
 go_wp2_with fail
 refine zy4 ?_;intro e w1 e1 hx1
 replace e1:e=.returned (.tuple #[.agg (Ins.cells ⟨15,a,y,z⟩),.bool true]):=by rw [e1,HX.out];rfl
 subst e1
 have hI1:=bN w1 77 (Ins.cells ⟨15,a,y,z⟩)
 have x1:=hx1.alloc (.cells (Ins.cells ⟨15,a,y,z⟩) 77)
 have hS1:=bX hst x1
 have hM1:=hmem.ext x1
 have hQ1:=hmap.ext x1
 have l1:=hx1.size
 clear hst hmem hmap hx1
 go_upto_region 3 with (fail)
 generalize (w1.alloc (.cells (Ins.cells ⟨15,a,y,z⟩) 77))=W1 at hI1 x1 hS1 hM1 hQ1 ⊢
 refine zy20 ?_;clear hI1 l1;intro ic hI1 l1 hi1 hj1
 go_wp2_with fail
 refine (far_any ⟨15,a,y,z⟩ cn s pc 0 g 0 n kc m _ HN.out hn2 HRT.out HO.out hS1 hM1.row).mono ?_
 rintro e w2 ⟨e2,hx2⟩
 replace e2:e=.returned (.int .i64 (p)):=by rw [e2];rw [HF.out]
 subst e2
 refine zy3 ?_;clear hI1 hS1 hM1 hQ1 x1 hx2 hi1 hj1;intro x2 hI2 hS2 hM2 hQ2 hcI hcS hfS lI lS lG
 have hal:a < m.length:=by have:=HN.out;omega
 have haI:(a:Int) < n:=by omega
 have hpl:p < m.length:=by have:=HN.out;omega
 have hpI:(p:Int) < n:=by omega
 have hcM:=hM2.cell a hal
 have hfM:=hM2.frozen
 obtain ⟨v,hv⟩:∃ v,v=m[p]:=⟨_,rfl⟩
 have Hvr:Hid (i32ok v):=J (by rw [hv];exact HO.out _ (List.getElem_mem hpl))
 have HE:Hid (execI ⟨15,a,y,z⟩ pc m=(pc+1,0,m.set a v)):=J (by simp [execI,mput,HF.out,mget_in hpl,hv])
 have HV:=J hv
 clear hv
 go_upto_region 19 with (fail)
 refine qr3 (fun w3=>Ext w2 w3) [(0,2),(1,2),(2,1),(3,2),(4,2),(5,2),(6,1),(7,2),(8,0)] ?_;refine qrl ?_
 (repeat first|refine qs3 ?_|refine qt3 (Kept.drew (kR _ _)) (by intro w1 hS;have d1:=bC (bX hI2 hS);have d2:=(hM2.ext hS).cell p hpl;rw [← HV.out] at d2;exact zgo) ?_|refine qp3 (Kept.drew (kR _ _)) ?_)
 exact zz25
set_option maxRecDepth 100000 in
theorem st_16 (w:World) (base s g n kc q:Nat) (A:Option Addr) (b off cn cap:Nat) (c:List Ins) (pc:Int) (m:List Int) (h:StepPre w base s g n kc q A b off cn c pc m) (x y z a:Nat) (ha:a < n) (hz:z < n) (hfar:farI ⟨16,x,y,z⟩ m=(a:Int)) (hnx:nextI c pc n=some ⟨16,x,y,z⟩) (hright:rightI ⟨16,x,y,z⟩ cn n=true) :
 Calls Tryz.prog 63 #[.pointer (some ⟨s,0,none⟩),.slice A cn cap,.map (some q)] w fun e w'=>e=.returned (.tuple #[])∧Stepped w w' base s g n kc (execI ⟨16,x,y,z⟩ pc m):=by
 obtain ⟨hn,hn1,hn2,hmok,hops,hst,hmem,hmap,hcA,hrow,hcn,hcn2,hpc0,hpc1,hsg⟩:=h
 have hls:=hst.lt
 have hlg:=hmem.lt
 have hlq:=hmap.lt
 have hgs:¬ g=s:=fun e=>hsg e.symm
 have HX:=J hnx
 have HN:=J hn
 have HO:=J hmok
 have HOP:=J hops
 have HA:=J hcA
 have HR:=J hrow
 have HCN:=J hcn
 have HRT:=J hright
 have HF:=J hfar
 clear hfar
 clear hnx hn hmok hops hcA hrow hcn hright
 go_enter Tryz.func63,Tryz.ntmps63
 go_wp2_with fail
 refine zy4 ?_;intro e w1 e1 hx1
 replace e1:e=.returned (.tuple #[.agg (Ins.cells ⟨16,x,y,z⟩),.bool true]):=by rw [e1,HX.out];rfl
 subst e1
 have hI1:=bN w1 77 (Ins.cells ⟨16,x,y,z⟩)
 have x1:=hx1.alloc (.cells (Ins.cells ⟨16,x,y,z⟩) 77)
 have hS1:=bX hst x1
 have hM1:=hmem.ext x1
 have hQ1:=hmap.ext x1
 have l1:=hx1.size
 clear hst hmem hmap hx1
 go_upto_region 3 with (fail)
 generalize (w1.alloc (.cells (Ins.cells ⟨16,x,y,z⟩) 77))=W1 at hI1 x1 hS1 hM1 hQ1 ⊢
 refine zy20 ?_;clear hI1 l1;intro ic hI1 l1 hi1 hj1
 go_wp2_with fail
 refine (far_any ⟨16,x,y,z⟩ cn s pc 0 g 0 n kc m _ HN.out hn2 HRT.out HO.out hS1 hM1.row).mono ?_
 rintro e w2 ⟨e2,hx2⟩
 replace e2:e=.returned (.int .i64 (a)):=by rw [e2];rw [HF.out]
 subst e2
 refine zy3 ?_;clear hI1 hS1 hM1 hQ1 x1 hx2 hi1 hj1;intro x2 hI2 hS2 hM2 hQ2 hcI hcS hfS lI lS lG
 have hal:a < m.length:=by have:=HN.out;omega
 have haI:(a:Int) < n:=by omega
 have hzl:z < m.length:=by have:=HN.out;omega
 have hzI:(z:Int) < n:=by omega
 have hcM:=hM2.cell a hal
 have hfM:=hM2.frozen
 obtain ⟨v,hv⟩:∃ v,v=m[z]:=⟨_,rfl⟩
 have Hvr:Hid (i32ok v):=J (by rw [hv];exact HO.out _ (List.getElem_mem hzl))
 have HE:Hid (execI ⟨16,x,y,z⟩ pc m=(pc+1,0,m.set a v)):=J (by simp [execI,mput,HF.out,mget_in hzl,hv])
 have hcZ:=hM2.cell z hzl
 rw [← hv] at hcZ
 have HV:=J hv
 clear hv
 go_upto_region 32 with (fail)
 have hS3:=Blk.far hS2 (p:=⟨g,a,none⟩) hsg (.int .i32 (v))
 have hM3:=hM2.set a hal (v)
 have hk3:Kept (fun i=>i=s ∨ i=g) w (w2.setCell ⟨g,a,none⟩ (.int .i32 (v))):=Kept.setCell (Kept.ext x2) _ _ (fun _=>.inr rfl)
 generalize w2.setCell ⟨g,a,none⟩ (.int .i32 v)=W3 at hS3 hM3 hk3 ⊢
 exact zz88
end Go.Proofs.YtbfbabbcdochjaaGreatDoor.Mc
