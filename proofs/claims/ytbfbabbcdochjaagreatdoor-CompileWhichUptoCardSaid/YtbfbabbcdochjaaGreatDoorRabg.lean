/- Several texts joined: Jf, Jg, Jh, Ji, Jj, Jk, Qzp. -/
import Derived.Laws.MakeOwn
import Derived.Test.YtbfbabbcdochjaaGreatDoorRapk
import Derived.Test.YtbfbabbcdochjaaGreatDoorRaaq
import Derived.Test.YtbfbabbcdochjaaGreatDoorRabf
set_option maxHeartbeats 4000000
namespace Go.Proofs.YtbfbabbcdochjaaGreatDoor
open Go.RowKit So Mc
theorem aggArr5i:aggT Tryz.prog 62=true:=by kernel_rfl
theorem sizeArr5i:sizeT Tryz.prog 62=some 5:=by kernel_rfl
theorem wpLoadArr5i {dst:Option Tmp} {ty':TypeId} {x:Operand} {pos:String} {after:Array Edge} {guard:Option (Nat × Bool)} {a:Act} {w:World} {K:Act→World→Prop} {Q:Exit→Act→World→Prop} (hx:isAt (a.eval x)=true) (hh:has w (blkOf (a.eval x)) (offOf (a.eval x)) 5=true) :
 Oper.wp Tryz.prog { dst:=dst,op:=.load 62 x,type:=ty',pos:=pos,after:=after,guard:=guard } a w K Q=K (a.put dst (.agg (gets w (blkOf (a.eval x)) (offOf (a.eval x)) 5))) w:=wp_load_big 5 aggArr5i sizeArr5i hx hh
theorem runLoadArr5i {ρ:Operand→Value} {dst:Option Tmp} {ty':TypeId} {x:Operand} {pos:String} {after:Array Edge} {guard:Option (Nat × Bool)} {w:World} (hx:isAt (ρ x)=true) (hh:has w (blkOf (ρ x)) (offOf (ρ x)) 5=true) :
 (execOp ρ { dst:=dst,op:=.load 62 x,type:=ty',pos:=pos,after:=after,guard:=guard }).run Tryz.prog w=.ok (.value (.agg (gets w (blkOf (ρ x)) (offOf (ρ x)) 5))) w:=run_exec_load_big 5 aggArr5i sizeArr5i hx hh
theorem loadVarArr5i (w:World) (g off:Nat) (hh:has w g off 5=true):(loadVar 62 ⟨g,off,none⟩).run Tryz.prog w=.ok (.agg (gets w g off 5)) w:=run_loadVar_big Tryz.prog w _ g off 5 aggArr5i sizeArr5i hh
attribute [go_sem] aggArr5i sizeArr5i
attribute [go_sem ↓ high] wpLoadArr5i loadVarArr5i runLoadArr5i
attribute [go_sem high] wpLoadArr5i
def stepN (p:Pr) (i:Nat):Nat:=satN (8+costB (partOf p i))
abbrev arr5 (v:Nat→Nat) (j:Nat):Array Value:=#[.int .i64 (if 0 < j then v 0 else 0:Nat),.int .i64 (if 1 < j then v 1 else 0:Nat),.int .i64 (if 2 < j then v 2 else 0:Nat),.int .i64 (if 3 < j then v 3 else 0:Nat),.int .i64 (if 4 < j then v 4 else 0:Nat)]
set_option maxRecDepth 100000 in
theorem bsteps_any (c:Pc) (p:Pr) (N:Nat) (w:World) (hN:N≤w.heap.size) (hP:PAt w N c p) (hk:∀ i,i < 5→okK (partOf p i)) :
 Calls Tryz.prog 25 #[.agg c.cells] w fun e w'=>((∀ i,i < 5→stepN p i≤65536)∧e=.returned (.tuple #[.agg (arr5 (stepN p) 5),.int .i64 0]) ∨ (∃ i,i < 5∧65536 < stepN p i)∧e=.returned (.tuple #[.agg (arr5 (stepN p) 0),.int .i64 12]))∧Ext w w':=by
 obtain ⟨W1,hW1⟩:∃ W1,W1=((w.alloc (.cells c.cells 57)).alloc (.cells #[.int .i64 0,.int .i64 0,.int .i64 0,.int .i64 0,.int .i64 0] 62)).alloc (.cells #[.int .i64 0,.int .i64 0,.int .i64 0,.int .i64 0,.int .i64 0] 62):=⟨_,rfl⟩
 have y1:Ext w W1:=by rw [hW1];exact (((Kept.refl _ w).alloc _).alloc _).alloc _
 have hz:((w.alloc (.cells c.cells 57)).alloc (.cells #[.int .i64 0,.int .i64 0,.int .i64 0,.int .i64 0,.int .i64 0] 62)).heap.size=w.heap.size+2:=by simp
 have hz1:(w.alloc (.cells c.cells 57)).heap.size=w.heap.size+1:=by simp
 have hpB:Blk W1 w.heap.size 57 c.cells:=by rw [hW1];exact ((Blk.new w _ _).alloc _).alloc _
 have hrB:Blk W1 (w.heap.size+1) 62 (arr5 (stepN p) 0):=by rw [hW1];exact (Blk.new' _ _ _ _ (by simp)).alloc _
 have hsB:Blk W1 (w.heap.size+2) 62 (arr5 (stepN p) 0):=by rw [hW1];exact Blk.new' _ _ _ _ (by simp)
 have HP:=zhd (hP.kept y1 hN (fun _ f=>f.elim))
 have HOKS:=zhd hk
 clear hP hk
 go_enter Tryz.func25,Tryz.ntmps25
 go_upto_region 2 with (fail)
 try rw [hz]
 try rw [hz1]
 rw [← hW1]
 clear hz hz1 hW1
 have HWS:=zhd y1.size
 have HSB:=zhd hsB.lt
 generalize hp4:(w:World).heap.size=p4 at hpB hrB hsB ⊢
 have HP4:=zhd hp4
 clear hp4
 have HPB:=zhd hpB
 have HRB:=zhd hrB
 have HSB2:=zhd hsB
 clear hpB hrB hsB
 go_wp2_with fail
 refine (bstart_any _).mono ?_
 rintro e W2 ⟨ex,st,rfl,hC,y2,he1,he2⟩
 have hsl:p4+2 < W1.heap.size:=HSB2.out.lt
 have yc:Ext W2 (W2.alloc (.cells (cnt ex st) 126)):=(Kept.refl _ W2).alloc _
 have bc:=Blk.new W2 126 (cnt ex st)
 go_upto_region 3 with (fail)
 generalize (W2.alloc (.cells (cnt ex st) 126))=W3 at yc bc ⊢
 have hcl:p4+2 < W2.heap.size:=by have:=y2.size;omega
 generalize W2.heap.size=cb at bc hcl ⊢
 have Y3:=zhd (y2.trans yc)
 have HC3:=zhd (hC.ext yc)
 have HCB:=zhd bc
 have HES:=zhd (show ¬ ex=p4+2∧¬ st=p4+2 by omega)
 have HPC:=zhd (Blk.ext HPB.out Y3.out)
 have HPV:=zhd (HP.out.kept Y3.out (by have:=HWS.out;omega) (fun _ f=>f.elim))
 have HRC:=zhd (Blk.ext HRB.out Y3.out)
 have HSC:=zhd (Blk.ext HSB2.out Y3.out)
 have HNL:=zhd (show N≤p4 by have:=HP4.out;omega)
 have HN3:=zhd (show p4+2 < W3.heap.size from (HSC.out).lt)
 have HCL:=zhd hcl
 clear y2 yc bc hC he1 he2 hsl hcl
 have i1:=Blk.cell HPC.out
 have i2:=HPC.out.lt
 go_wp2_with fail
 clear i1 i2
 go_loopw [21] (fun t21 wr=>∃ (j:Nat),j≤5∧t21=.int .i64 j∧(∀ i,i < j→stepN p i≤65536)∧Blk wr (p4+2) 62 (arr5 (stepN p) j)∧Kept (·=p4+2) W3 wr) (fun t21 _=>5 - (intOf t21).toNat)
 case atStart=>exact ⟨0,by omega,rfl,fun i hi=>by omega,HSC.out,Kept.refl _ _⟩
 case round =>
  obtain ⟨j,hj,rfl,hall,hB,hk⟩:=hrel
  have HALL:=zhd hall
  have HB:=zhd hB
  have HK:=zhd hk
  clear hall hB hk
  by_cases hj5:j=5
  ·subst hj5
   have hr:=Blk.kept HRC.out HK.out (by omega)
   have l1:=Blk.has HB.out
   have l2:=Blk.gets HB.out
   have l3:=HB.out.lt
   have l4:=Blk.has hr
   have l5:=Blk.melts hr
   have l6:=hr.lt
   have HR:=zhd hr
   clear hr
   go_wp2_with fail
   refine ret_ci (t:=62) (g:=p4+1) (cs:=arr5 (stepN p) 5) Tryz.results25 rfl rfl aggArr5i (by exact sizeArr5i) (by exact Blk.put_ HR.out 0 _) ⟨Or.inl ⟨HALL.out,rfl⟩,?_⟩
   have hq:=HP4.out
   exact (y1.trans Y3.out).trans' ((HK.out.mono (fun _ _ e=>Or.inr e)).trans (Kept.putAt (S:=fun i=>i=p4+1 ∨ i=p4+2) (Kept.refl _ _) _ 0 _ (fun _=>Or.inl rfl))) (fun i hi e=>by omega)
  have hj':j=0 ∨ j=1 ∨ j=2 ∨ j=3 ∨ j=4:=by omega
  clear hj hj5
  rcases hj' with rfl | rfl | rfl | rfl | rfl
  ·skip
   have hix:(Instr.index 106 (.agg #[c.start.v,c.turn.v,c.play.v,c.quiet.v,c.pays.v]) (.int .i64 0)).run Tryz.prog wr=.ok c.start.v wr:=idx5 c.start c.turn c.play c.quiet c.pays 0 (by omega) wr
   have hsl:=HPV.out.start
   go_wp2_with fail
   refine (bsum_any 8 _).mono ?_
   rintro e w4 ⟨rfl,b4,y4⟩
   obtain ⟨nb,hnb⟩:∃ nb,nb=wr.heap.size:=⟨_,rfl⟩
   rw [← hnb] at b4 ⊢
   have HNB:=zhd hnb
   have hkl:W3.heap.size≤wr.heap.size:=HK.out.size
   have kc:=Blk.ext (Blk.kept HCB.out HK.out (by have:=HCL.out;omega)) y4
   have l1:=Blk.has kc
   have l2:=Blk.gets kc
   have l3:=kc.lt
   clear kc hix hnb
   go_wp2_with fail
   have hNB:¬ cb=nb:=by have a:=HCB.out.lt;have b:=HNB.out;omega
   have hE4:Ext W3 wr ∨ True:=Or.inr trivial
   clear hE4
   have hcr:CAt wr ex st:=HC3.out.kept HK.out HES.out.1 HES.out.2
   have hsr:SSl wr N c.start.A c.start.n p.start:=hsl.kept HK.out (by have:=HPV.out;have a:=HNL.out;have b:=HN3.out;omega) (fun i e=>by have a:=HNL.out;omega)
   have HNQ:=zhd (show c.start.n=p.start.len from hsl.1)
   rw [HNQ.out] at hsr
   have hbk:=bblock_any p.start (HOKS.out 0 (by omega)) ex st N c.start.A c.start.c w4 (hcr.ext y4) (hsr.kept y4 (by have a:=HNL.out;have b:=HN3.out;omega) (fun _ f=>f.elim)) (by have a:=HNL.out;have b:=HN3.out;have d:=y4.size;omega)
   rw [← HNQ.out] at hbk
   refine hbk.mono ?_
   rintro e w5 ⟨rfl,y5⟩
   go_wp2_with fail
   refine (bsum1_any nb 8 (satN (costB p.start)) _ (by omega) (by have:=satN_le (costB p.start);omega) (Blk.ext b4 y5)).mono ?_
   rintro e w6 ⟨rfl,b6,k6⟩
   have hsn:satN (8+satN (costB p.start))=stepN p 0:=satN_add' _ _
   rw [hsn] at b6 ⊢
   have hb7:=Blk.kept (Blk.ext (Blk.ext HB.out y4) y5) k6 (by have a:=HN3.out;have b:=HNB.out;omega)
   have m1:=Blk.cell hb7
   have m2:=hb7.lt
   have m3:=Blk.frozen hb7
   have HB7:=zhd hb7
   have hk7:Kept (·=p4+2) W3 w6:=HK.out.trans' ((y4.trans' ((y5.mono (S':=(·=nb)) (fun _ _ f=>f.elim)).trans k6) (fun i hi e=>by have b:=HNB.out;omega)).mono (S':=(·=p4+2)) (fun _ _ f=>f.elim)) (fun _ _ e=>e)
   have hset:=Blk.set_ HB7.out 0 (.int .i64 (stepN p 0:Nat))
   have HKS:=zhd (hk7.trans (Kept.setCell (S:=(·=p4+2)) (Kept.refl _ w6) ⟨p4+2,0,none⟩ (.int .i64 (stepN p 0:Nat)) (fun _=>rfl)))
   have HSET:=zhd (show Blk (w6.setCell ⟨p4+2,0,none⟩ (.int .i64 (stepN p 0:Nat))) (p4+2) 62 (arr5 (stepN p) (0+1)) from hset)
   clear hb7 l1 l2 l3 hset hk7 hbk hsr hcr b4 y4 y5 b6 k6 hsl hsn
   go_upto_region 8 with (fail)
   generalize (w6.setCell ⟨p4+2,0,none⟩ (.int .i64 (stepN p 0:Nat)))=w8 at HKS HSET ⊢
   clear m1 m2 m3
   have m1:=Blk.cell HSET.out
   have m2:=HSET.out.lt
   by_cases hbig:65536 < stepN p 0
   ·have hg:decide ((65536:Int) < (stepN p 0:Int))=true:=decide_eq_true (by omega)
    have HBG:=zhd hbig
    have hr:=Blk.kept HRC.out HKS.out (by omega)
    have l4:=Blk.has hr
    have l5:=Blk.melts hr
    have l6:=hr.lt
    have HR:=zhd hr
    clear hbig hr
    go_wp2_with fail
    refine ret_ci (t:=62) (g:=p4+1) (cs:=arr5 (stepN p) 0) Tryz.results25 rfl rfl aggArr5i (by exact sizeArr5i) (by exact Blk.put_ HR.out 0 _) ⟨Or.inr ⟨⟨0,by omega,HBG.out⟩,rfl⟩,?_⟩
    exact zz75
   ·have hg:decide ((65536:Int) < (stepN p 0:Int))=false:=decide_eq_false (by omega)
    have HBG:=zhd hbig
    clear hbig
    go_wp2_with fail
    go_roundw
    case rel=>exact ⟨0+1,by omega,by go_num,fun i hi=>by rcases (by omega:i < 0 ∨ i=0) with q | q;exact HALL.out i q;rw [q];have:=HBG.out;omega,HSET.out,HKS.out⟩
    case measure=>simp only [intOf];omega
  ·skip
   have hix:(Instr.index 106 (.agg #[c.start.v,c.turn.v,c.play.v,c.quiet.v,c.pays.v]) (.int .i64 1)).run Tryz.prog wr=.ok c.turn.v wr:=idx5 c.start c.turn c.play c.quiet c.pays 1 (by omega) wr
   have hsl:=HPV.out.turn
   go_wp2_with fail
   refine (bsum_any 8 _).mono ?_
   rintro e w4 ⟨rfl,b4,y4⟩
   obtain ⟨nb,hnb⟩:∃ nb,nb=wr.heap.size:=⟨_,rfl⟩
   rw [← hnb] at b4 ⊢
   have HNB:=zhd hnb
   have hkl:W3.heap.size≤wr.heap.size:=HK.out.size
   have kc:=Blk.ext (Blk.kept HCB.out HK.out (by have:=HCL.out;omega)) y4
   have l1:=Blk.has kc
   have l2:=Blk.gets kc
   have l3:=kc.lt
   clear kc hix hnb
   go_wp2_with fail
   have hNB:¬ cb=nb:=by have a:=HCB.out.lt;have b:=HNB.out;omega
   have hE4:Ext W3 wr ∨ True:=Or.inr trivial
   clear hE4
   have hcr:CAt wr ex st:=HC3.out.kept HK.out HES.out.1 HES.out.2
   have hsr:SSl wr N c.turn.A c.turn.n p.turn:=hsl.kept HK.out (by have:=HPV.out;have a:=HNL.out;have b:=HN3.out;omega) (fun i e=>by have a:=HNL.out;omega)
   have HNQ:=zhd (show c.turn.n=p.turn.len from hsl.1)
   rw [HNQ.out] at hsr
   have hbk:=bblock_any p.turn (HOKS.out 1 (by omega)) ex st N c.turn.A c.turn.c w4 (hcr.ext y4) (hsr.kept y4 (by have a:=HNL.out;have b:=HN3.out;omega) (fun _ f=>f.elim)) (by have a:=HNL.out;have b:=HN3.out;have d:=y4.size;omega)
   rw [← HNQ.out] at hbk
   refine hbk.mono ?_
   rintro e w5 ⟨rfl,y5⟩
   go_wp2_with fail
   refine (bsum1_any nb 8 (satN (costB p.turn)) _ (by omega) (by have:=satN_le (costB p.turn);omega) (Blk.ext b4 y5)).mono ?_
   rintro e w6 ⟨rfl,b6,k6⟩
   have hsn:satN (8+satN (costB p.turn))=stepN p 1:=satN_add' _ _
   rw [hsn] at b6 ⊢
   have hb7:=Blk.kept (Blk.ext (Blk.ext HB.out y4) y5) k6 (by have a:=HN3.out;have b:=HNB.out;omega)
   have m1:=Blk.cell hb7
   have m2:=hb7.lt
   have m3:=Blk.frozen hb7
   have HB7:=zhd hb7
   have hk7:Kept (·=p4+2) W3 w6:=HK.out.trans' ((y4.trans' ((y5.mono (S':=(·=nb)) (fun _ _ f=>f.elim)).trans k6) (fun i hi e=>by have b:=HNB.out;omega)).mono (S':=(·=p4+2)) (fun _ _ f=>f.elim)) (fun _ _ e=>e)
   have hset:=Blk.set_ HB7.out 1 (.int .i64 (stepN p 1:Nat))
   have HKS:=zhd (hk7.trans (Kept.setCell (S:=(·=p4+2)) (Kept.refl _ w6) ⟨p4+2,1,none⟩ (.int .i64 (stepN p 1:Nat)) (fun _=>rfl)))
   have HSET:=zhd (show Blk (w6.setCell ⟨p4+2,1,none⟩ (.int .i64 (stepN p 1:Nat))) (p4+2) 62 (arr5 (stepN p) (1+1)) from hset)
   clear hb7 l1 l2 l3 hset hk7 hbk hsr hcr b4 y4 y5 b6 k6 hsl hsn
   go_upto_region 8 with (fail)
   generalize (w6.setCell ⟨p4+2,1,none⟩ (.int .i64 (stepN p 1:Nat)))=w8 at HKS HSET ⊢
   clear m1 m2 m3
   have m1:=Blk.cell HSET.out
   have m2:=HSET.out.lt
   by_cases hbig:65536 < stepN p 1
   ·have hg:decide ((65536:Int) < (stepN p 1:Int))=true:=decide_eq_true (by omega)
    have HBG:=zhd hbig
    have hr:=Blk.kept HRC.out HKS.out (by omega)
    have l4:=Blk.has hr
    have l5:=Blk.melts hr
    have l6:=hr.lt
    have HR:=zhd hr
    clear hbig hr
    go_wp2_with fail
    refine ret_ci (t:=62) (g:=p4+1) (cs:=arr5 (stepN p) 0) Tryz.results25 rfl rfl aggArr5i (by exact sizeArr5i) (by exact Blk.put_ HR.out 0 _) ⟨Or.inr ⟨⟨1,by omega,HBG.out⟩,rfl⟩,?_⟩
    exact zz75
   ·have hg:decide ((65536:Int) < (stepN p 1:Int))=false:=decide_eq_false (by omega)
    have HBG:=zhd hbig
    clear hbig
    go_wp2_with fail
    go_roundw
    case rel=>exact ⟨1+1,by omega,by go_num,fun i hi=>by rcases (by omega:i < 1 ∨ i=1) with q | q;exact HALL.out i q;rw [q];have:=HBG.out;omega,HSET.out,HKS.out⟩
    case measure=>simp only [intOf];omega
  ·skip
   have hix:(Instr.index 106 (.agg #[c.start.v,c.turn.v,c.play.v,c.quiet.v,c.pays.v]) (.int .i64 2)).run Tryz.prog wr=.ok c.play.v wr:=idx5 c.start c.turn c.play c.quiet c.pays 2 (by omega) wr
   have hsl:=HPV.out.play
   go_wp2_with fail
   refine (bsum_any 8 _).mono ?_
   rintro e w4 ⟨rfl,b4,y4⟩
   obtain ⟨nb,hnb⟩:∃ nb,nb=wr.heap.size:=⟨_,rfl⟩
   rw [← hnb] at b4 ⊢
   have HNB:=zhd hnb
   have hkl:W3.heap.size≤wr.heap.size:=HK.out.size
   have kc:=Blk.ext (Blk.kept HCB.out HK.out (by have:=HCL.out;omega)) y4
   have l1:=Blk.has kc
   have l2:=Blk.gets kc
   have l3:=kc.lt
   clear kc hix hnb
   go_wp2_with fail
   have hNB:¬ cb=nb:=by have a:=HCB.out.lt;have b:=HNB.out;omega
   have hE4:Ext W3 wr ∨ True:=Or.inr trivial
   clear hE4
   have hcr:CAt wr ex st:=HC3.out.kept HK.out HES.out.1 HES.out.2
   have hsr:SSl wr N c.play.A c.play.n p.play:=hsl.kept HK.out (by have:=HPV.out;have a:=HNL.out;have b:=HN3.out;omega) (fun i e=>by have a:=HNL.out;omega)
   have HNQ:=zhd (show c.play.n=p.play.len from hsl.1)
   rw [HNQ.out] at hsr
   have hbk:=bblock_any p.play (HOKS.out 2 (by omega)) ex st N c.play.A c.play.c w4 (hcr.ext y4) (hsr.kept y4 (by have a:=HNL.out;have b:=HN3.out;omega) (fun _ f=>f.elim)) (by have a:=HNL.out;have b:=HN3.out;have d:=y4.size;omega)
   rw [← HNQ.out] at hbk
   refine hbk.mono ?_
   rintro e w5 ⟨rfl,y5⟩
   go_wp2_with fail
   refine (bsum1_any nb 8 (satN (costB p.play)) _ (by omega) (by have:=satN_le (costB p.play);omega) (Blk.ext b4 y5)).mono ?_
   rintro e w6 ⟨rfl,b6,k6⟩
   have hsn:satN (8+satN (costB p.play))=stepN p 2:=satN_add' _ _
   rw [hsn] at b6 ⊢
   have hb7:=Blk.kept (Blk.ext (Blk.ext HB.out y4) y5) k6 (by have a:=HN3.out;have b:=HNB.out;omega)
   have m1:=Blk.cell hb7
   have m2:=hb7.lt
   have m3:=Blk.frozen hb7
   have HB7:=zhd hb7
   have hk7:Kept (·=p4+2) W3 w6:=HK.out.trans' ((y4.trans' ((y5.mono (S':=(·=nb)) (fun _ _ f=>f.elim)).trans k6) (fun i hi e=>by have b:=HNB.out;omega)).mono (S':=(·=p4+2)) (fun _ _ f=>f.elim)) (fun _ _ e=>e)
   have hset:=Blk.set_ HB7.out 2 (.int .i64 (stepN p 2:Nat))
   have HKS:=zhd (hk7.trans (Kept.setCell (S:=(·=p4+2)) (Kept.refl _ w6) ⟨p4+2,2,none⟩ (.int .i64 (stepN p 2:Nat)) (fun _=>rfl)))
   have HSET:=zhd (show Blk (w6.setCell ⟨p4+2,2,none⟩ (.int .i64 (stepN p 2:Nat))) (p4+2) 62 (arr5 (stepN p) (2+1)) from hset)
   clear hb7 l1 l2 l3 hset hk7 hbk hsr hcr b4 y4 y5 b6 k6 hsl hsn
   go_upto_region 8 with (fail)
   generalize (w6.setCell ⟨p4+2,2,none⟩ (.int .i64 (stepN p 2:Nat)))=w8 at HKS HSET ⊢
   clear m1 m2 m3
   have m1:=Blk.cell HSET.out
   have m2:=HSET.out.lt
   by_cases hbig:65536 < stepN p 2
   ·have hg:decide ((65536:Int) < (stepN p 2:Int))=true:=decide_eq_true (by omega)
    have HBG:=zhd hbig
    have hr:=Blk.kept HRC.out HKS.out (by omega)
    have l4:=Blk.has hr
    have l5:=Blk.melts hr
    have l6:=hr.lt
    have HR:=zhd hr
    clear hbig hr
    go_wp2_with fail
    refine ret_ci (t:=62) (g:=p4+1) (cs:=arr5 (stepN p) 0) Tryz.results25 rfl rfl aggArr5i (by exact sizeArr5i) (by exact Blk.put_ HR.out 0 _) ⟨Or.inr ⟨⟨2,by omega,HBG.out⟩,rfl⟩,?_⟩
    exact zz75
   ·have hg:decide ((65536:Int) < (stepN p 2:Int))=false:=decide_eq_false (by omega)
    have HBG:=zhd hbig
    clear hbig
    go_wp2_with fail
    go_roundw
    case rel=>exact ⟨2+1,by omega,by go_num,fun i hi=>by rcases (by omega:i < 2 ∨ i=2) with q | q;exact HALL.out i q;rw [q];have:=HBG.out;omega,HSET.out,HKS.out⟩
    case measure=>simp only [intOf];omega
  ·skip
   have hix:(Instr.index 106 (.agg #[c.start.v,c.turn.v,c.play.v,c.quiet.v,c.pays.v]) (.int .i64 3)).run Tryz.prog wr=.ok c.quiet.v wr:=idx5 c.start c.turn c.play c.quiet c.pays 3 (by omega) wr
   have hsl:=HPV.out.quiet
   go_wp2_with fail
   refine (bsum_any 8 _).mono ?_
   rintro e w4 ⟨rfl,b4,y4⟩
   obtain ⟨nb,hnb⟩:∃ nb,nb=wr.heap.size:=⟨_,rfl⟩
   rw [← hnb] at b4 ⊢
   have HNB:=zhd hnb
   have hkl:W3.heap.size≤wr.heap.size:=HK.out.size
   have kc:=Blk.ext (Blk.kept HCB.out HK.out (by have:=HCL.out;omega)) y4
   have l1:=Blk.has kc
   have l2:=Blk.gets kc
   have l3:=kc.lt
   clear kc hix hnb
   go_wp2_with fail
   have hNB:¬ cb=nb:=by have a:=HCB.out.lt;have b:=HNB.out;omega
   have hE4:Ext W3 wr ∨ True:=Or.inr trivial
   clear hE4
   have hcr:CAt wr ex st:=HC3.out.kept HK.out HES.out.1 HES.out.2
   have hsr:SSl wr N c.quiet.A c.quiet.n p.quiet:=hsl.kept HK.out (by have:=HPV.out;have a:=HNL.out;have b:=HN3.out;omega) (fun i e=>by have a:=HNL.out;omega)
   have HNQ:=zhd (show c.quiet.n=p.quiet.len from hsl.1)
   rw [HNQ.out] at hsr
   have hbk:=bblock_any p.quiet (HOKS.out 3 (by omega)) ex st N c.quiet.A c.quiet.c w4 (hcr.ext y4) (hsr.kept y4 (by have a:=HNL.out;have b:=HN3.out;omega) (fun _ f=>f.elim)) (by have a:=HNL.out;have b:=HN3.out;have d:=y4.size;omega)
   rw [← HNQ.out] at hbk
   refine hbk.mono ?_
   rintro e w5 ⟨rfl,y5⟩
   go_wp2_with fail
   refine (bsum1_any nb 8 (satN (costB p.quiet)) _ (by omega) (by have:=satN_le (costB p.quiet);omega) (Blk.ext b4 y5)).mono ?_
   rintro e w6 ⟨rfl,b6,k6⟩
   have hsn:satN (8+satN (costB p.quiet))=stepN p 3:=satN_add' _ _
   rw [hsn] at b6 ⊢
   have hb7:=Blk.kept (Blk.ext (Blk.ext HB.out y4) y5) k6 (by have a:=HN3.out;have b:=HNB.out;omega)
   have m1:=Blk.cell hb7
   have m2:=hb7.lt
   have m3:=Blk.frozen hb7
   have HB7:=zhd hb7
   have hk7:Kept (·=p4+2) W3 w6:=HK.out.trans' ((y4.trans' ((y5.mono (S':=(·=nb)) (fun _ _ f=>f.elim)).trans k6) (fun i hi e=>by have b:=HNB.out;omega)).mono (S':=(·=p4+2)) (fun _ _ f=>f.elim)) (fun _ _ e=>e)
   have hset:=Blk.set_ HB7.out 3 (.int .i64 (stepN p 3:Nat))
   have HKS:=zhd (hk7.trans (Kept.setCell (S:=(·=p4+2)) (Kept.refl _ w6) ⟨p4+2,3,none⟩ (.int .i64 (stepN p 3:Nat)) (fun _=>rfl)))
   have HSET:=zhd (show Blk (w6.setCell ⟨p4+2,3,none⟩ (.int .i64 (stepN p 3:Nat))) (p4+2) 62 (arr5 (stepN p) (3+1)) from hset)
   clear hb7 l1 l2 l3 hset hk7 hbk hsr hcr b4 y4 y5 b6 k6 hsl hsn
   go_upto_region 8 with (fail)
   generalize (w6.setCell ⟨p4+2,3,none⟩ (.int .i64 (stepN p 3:Nat)))=w8 at HKS HSET ⊢
   clear m1 m2 m3
   have m1:=Blk.cell HSET.out
   have m2:=HSET.out.lt
   by_cases hbig:65536 < stepN p 3
   ·have hg:decide ((65536:Int) < (stepN p 3:Int))=true:=decide_eq_true (by omega)
    have HBG:=zhd hbig
    have hr:=Blk.kept HRC.out HKS.out (by omega)
    have l4:=Blk.has hr
    have l5:=Blk.melts hr
    have l6:=hr.lt
    have HR:=zhd hr
    clear hbig hr
    go_wp2_with fail
    refine ret_ci (t:=62) (g:=p4+1) (cs:=arr5 (stepN p) 0) Tryz.results25 rfl rfl aggArr5i (by exact sizeArr5i) (by exact Blk.put_ HR.out 0 _) ⟨Or.inr ⟨⟨3,by omega,HBG.out⟩,rfl⟩,?_⟩
    exact zz75
   ·have hg:decide ((65536:Int) < (stepN p 3:Int))=false:=decide_eq_false (by omega)
    have HBG:=zhd hbig
    clear hbig
    go_wp2_with fail
    go_roundw
    case rel=>exact ⟨3+1,by omega,by go_num,fun i hi=>by rcases (by omega:i < 3 ∨ i=3) with q | q;exact HALL.out i q;rw [q];have:=HBG.out;omega,HSET.out,HKS.out⟩
    case measure=>simp only [intOf];omega
  ·skip
   have hix:(Instr.index 106 (.agg #[c.start.v,c.turn.v,c.play.v,c.quiet.v,c.pays.v]) (.int .i64 4)).run Tryz.prog wr=.ok c.pays.v wr:=idx5 c.start c.turn c.play c.quiet c.pays 4 (by omega) wr
   have hsl:=HPV.out.pays
   go_wp2_with fail
   refine (bsum_any 8 _).mono ?_
   rintro e w4 ⟨rfl,b4,y4⟩
   obtain ⟨nb,hnb⟩:∃ nb,nb=wr.heap.size:=⟨_,rfl⟩
   rw [← hnb] at b4 ⊢
   have HNB:=zhd hnb
   have hkl:W3.heap.size≤wr.heap.size:=HK.out.size
   have kc:=Blk.ext (Blk.kept HCB.out HK.out (by have:=HCL.out;omega)) y4
   have l1:=Blk.has kc
   have l2:=Blk.gets kc
   have l3:=kc.lt
   clear kc hix hnb
   go_wp2_with fail
   have hNB:¬ cb=nb:=by have a:=HCB.out.lt;have b:=HNB.out;omega
   have hE4:Ext W3 wr ∨ True:=Or.inr trivial
   clear hE4
   have hcr:CAt wr ex st:=HC3.out.kept HK.out HES.out.1 HES.out.2
   have hsr:SSl wr N c.pays.A c.pays.n p.pays:=hsl.kept HK.out (by have:=HPV.out;have a:=HNL.out;have b:=HN3.out;omega) (fun i e=>by have a:=HNL.out;omega)
   have HNQ:=zhd (show c.pays.n=p.pays.len from hsl.1)
   rw [HNQ.out] at hsr
   have hbk:=bblock_any p.pays (HOKS.out 4 (by omega)) ex st N c.pays.A c.pays.c w4 (hcr.ext y4) (hsr.kept y4 (by have a:=HNL.out;have b:=HN3.out;omega) (fun _ f=>f.elim)) (by have a:=HNL.out;have b:=HN3.out;have d:=y4.size;omega)
   rw [← HNQ.out] at hbk
   refine hbk.mono ?_
   rintro e w5 ⟨rfl,y5⟩
   go_wp2_with fail
   refine (bsum1_any nb 8 (satN (costB p.pays)) _ (by omega) (by have:=satN_le (costB p.pays);omega) (Blk.ext b4 y5)).mono ?_
   rintro e w6 ⟨rfl,b6,k6⟩
   have hsn:satN (8+satN (costB p.pays))=stepN p 4:=satN_add' _ _
   rw [hsn] at b6 ⊢
   have hb7:=Blk.kept (Blk.ext (Blk.ext HB.out y4) y5) k6 (by have a:=HN3.out;have b:=HNB.out;omega)
   have m1:=Blk.cell hb7
   have m2:=hb7.lt
   have m3:=Blk.frozen hb7
   have HB7:=zhd hb7
   have hk7:Kept (·=p4+2) W3 w6:=HK.out.trans' ((y4.trans' ((y5.mono (S':=(·=nb)) (fun _ _ f=>f.elim)).trans k6) (fun i hi e=>by have b:=HNB.out;omega)).mono (S':=(·=p4+2)) (fun _ _ f=>f.elim)) (fun _ _ e=>e)
   have hset:=Blk.set_ HB7.out 4 (.int .i64 (stepN p 4:Nat))
   have HKS:=zhd (hk7.trans (Kept.setCell (S:=(·=p4+2)) (Kept.refl _ w6) ⟨p4+2,4,none⟩ (.int .i64 (stepN p 4:Nat)) (fun _=>rfl)))
   have HSET:=zhd (show Blk (w6.setCell ⟨p4+2,4,none⟩ (.int .i64 (stepN p 4:Nat))) (p4+2) 62 (arr5 (stepN p) (4+1)) from hset)
   clear hb7 l1 l2 l3 hset hk7 hbk hsr hcr b4 y4 y5 b6 k6 hsl hsn
   go_upto_region 8 with (fail)
   generalize (w6.setCell ⟨p4+2,4,none⟩ (.int .i64 (stepN p 4:Nat)))=w8 at HKS HSET ⊢
   clear m1 m2 m3
   have m1:=Blk.cell HSET.out
   have m2:=HSET.out.lt
   by_cases hbig:65536 < stepN p 4
   ·have hg:decide ((65536:Int) < (stepN p 4:Int))=true:=decide_eq_true (by omega)
    have HBG:=zhd hbig
    have hr:=Blk.kept HRC.out HKS.out (by omega)
    have l4:=Blk.has hr
    have l5:=Blk.melts hr
    have l6:=hr.lt
    have HR:=zhd hr
    clear hbig hr
    go_wp2_with fail
    refine ret_ci (t:=62) (g:=p4+1) (cs:=arr5 (stepN p) 0) Tryz.results25 rfl rfl aggArr5i (by exact sizeArr5i) (by exact Blk.put_ HR.out 0 _) ⟨Or.inr ⟨⟨4,by omega,HBG.out⟩,rfl⟩,?_⟩
    exact zz75
   ·have hg:decide ((65536:Int) < (stepN p 4:Int))=false:=decide_eq_false (by omega)
    have HBG:=zhd hbig
    clear hbig
    go_wp2_with fail
    go_roundw
    case rel=>exact ⟨4+1,by omega,by go_num,fun i hi=>by rcases (by omega:i < 4 ∨ i=4) with q | q;exact HALL.out i q;rw [q];have:=HBG.out;omega,HSET.out,HKS.out⟩
    case measure=>simp only [intOf];omega
open Go.RowKit So Mc
set_option maxRecDepth 100000 in
theorem cis_any (n:Int) (w:World):Calls Tryz.prog 64 #[.int .i64 n] w fun e w'=>e=.returned (.bool (decide (0≤n) && decide (n < 5)))∧w=w':=by
 by_cases h0:0≤n
 ·have g0:decide (0≤n)=true:=decide_eq_true h0
  clear h0
  by_cases h5:n < 5
  ·have g5:decide (n < 5)=true:=decide_eq_true h5
   clear h5
   rw [g0,g5]
   go_enter Tryz.func64,Tryz.ntmps64
   go_wp2_with fail
   go_ret
   exact ⟨rfl,rfl⟩
  ·have g5:decide (n < 5)=false:=decide_eq_false h5
   clear h5
   rw [g0,g5]
   go_enter Tryz.func64,Tryz.ntmps64
   go_wp2_with fail
   go_ret
   exact ⟨rfl,rfl⟩
 ·have g0:decide (0≤n)=false:=decide_eq_false h0
  clear h0
  rw [g0,Bool.false_and]
  go_enter Tryz.func64,Tryz.ntmps64
  go_wp2_with fail
  go_ret
  exact ⟨rfl,rfl⟩
open Go.RowKit So Mc
theorem makeM (n:Nat) (hn:n≤4096) (w:World):(Instr.makeSlice 27 (.int .i64 n) (.int .i64 n)).run Tryz.prog w=.ok (.slice (some ⟨w.heap.size,0,none⟩) n n) (w.alloc (.cells (mems (List.replicate n 0)).toArray 21)):=by
 obtain ⟨i,hi,hz,h1,h2⟩:=info_parts infoM32
 have hr:=run_make (P:=Tryz.prog) w 27 21 i _ Tryz.underlying27 hi hz .i64 .i64 n n (by omega) (Int.le_refl _) (by rw [h2];omega) (by omega)
 rw [hr,h1]
 have e:madeCells (Value.cells (.int .i32 0)) (((n:Int)).toNat * 1)=(mems (List.replicate n 0)).toArray:=by
  apply Array.ext
  ·simp [madeCells,mems]
  ·intro j hj hj'
   simp [madeCells,mems,Value.cells,Nat.mod_one]
 rw [e]
 simp
set_option maxRecDepth 100000 in
theorem mnew_any (n:Nat) (h1:1≤n) (h2:n≤256) (w:World):Calls Tryz.prog 40 #[.int .i64 n] w fun e w'=>∃ g,e=.returned (.tuple #[.agg (stCells 0 (some ⟨g,0,none⟩) n n 0),.int .i64 0])∧Blk w' g 21 (mems (List.replicate n 0)).toArray∧Ext w w'∧w.heap.size≤g:=by
 have g1:decide ((n:Int) < 1)=false:=decide_eq_false (by omega)
 have g2:decide ((256:Int) < n)=false:=decide_eq_false (by omega)
 have hmk:=makeM n (by omega)
 clear h1 h2
 have y0:=(Kept.refl (fun _=>False) w).alloc (.cells #[.int .i64 0,.slice none 0 0,.int .i64 0] 49)
 have b0:=Blk.new w 49 #[.int .i64 0,.slice none 0 0,.int .i64 0]
 go_enter Tryz.func40,Tryz.ntmps40
 go_upto_region 1 with (fail)
 generalize (w.alloc (.cells #[.int .i64 0,.slice none 0 0,.int .i64 0] 49))=W1 at y0 b0 ⊢
 generalize hg:(w:World).heap.size=g at b0 ⊢
 have HG:=zhd hg
 clear hg
 go_upto_region 3 with (fail)
 go_step
 iterate 1 refine qls ?_
 refine wpList_make rfl _ _ 27 rfl rfl rfl (hmk W1) ?_
 have y1:Ext W1 (W1.alloc (.cells (mems (List.replicate n 0)).toArray 21)):=(Kept.refl _ W1).alloc _
 have bm:=Blk.new W1 21 (mems (List.replicate n 0)).toArray
 have hgl:g < W1.heap.size:=b0.lt
 have b1:=Blk.ext b0 y1
 generalize (W1.alloc (.cells (mems (List.replicate n 0)).toArray 21))=W2 at y1 bm b1 ⊢
 have hyl:=y0.size
 generalize W1.heap.size=gm at bm hgl hyl ⊢
 have l1:=Blk.has b1
 have l2:=Blk.melts b1
 have l3:=b1.lt
 clear hmk
 have B1:=zhd b1
 have BM:=zhd bm
 go_wp2_with fail
 have kp:Kept (·=g) W2 (putAt W2 g 0 #[.int .i64 0,.slice (some ⟨gm,0,none⟩) n n,.int .i64 0]):=Kept.putAt (Kept.refl _ _) _ 0 _ (fun _=>rfl)
 refine ret_ci (t:=49) (g:=g) (cs:=stCells 0 (some ⟨gm,0,none⟩) n n 0) Tryz.results40 rfl rfl aggMst (by exact sizeMst) (by exact Blk.put_ B1.out 0 _) ⟨gm,rfl,Blk.kept BM.out kp (by omega),?_,hyl⟩
 exact (y0.trans y1).trans' kp (fun i hi e=>by have:=HG.out;omega)
open Go.RowKit So Mc
structure Cd where (cells seats:Int) (first params i0 i1 i2 i3 i4:Sl3) (m:Nat→Nat)
abbrev Cd.c (k:Cd):Array Value:=#[.int .i64 k.cells,.int .i64 k.seats,k.first.v,k.params.v,k.i0.v,k.i1.v,k.i2.v,k.i3.v,k.i4.v,.int .i64 (k.m 0),.int .i64 (k.m 1),.int .i64 (k.m 2),.int .i64 (k.m 3),.int .i64 (k.m 4)]
set_option maxRecDepth 100000 in
theorem cwords_any (cb:Nat) (k:Cd) (w:World) (hb:Blk w cb 90 k.c) (h0:0≤k.cells∧k.cells≤1000):Calls Tryz.prog 30 #[.pointer (some ⟨cb,0,none⟩)] w fun e w'=>e=.returned (.int .i64 (k.cells+49))∧w=w':=by
 have i1:=Blk.cell hb
 have i2:=hb.lt
 have hw:=wrap_i64 (n:=k.cells+49) (by unfold i64ok;omega)
 clear hb
 go_enter Tryz.func30,Tryz.ntmps30
 go_wp2_with fail
 go_ret
 exact ⟨rfl,rfl⟩
open Go.RowKit So Mc
open Go.RowKit So Mc
def Cd.i (k:Cd):Nat→Sl3 | 0=>k.i0 | 1=>k.i1 | 2=>k.i2 | 3=>k.i3 | _=>k.i4
open Go.RowKit So
section
variable {w:World} {N:Nat} {c:Pc} {p:Pr} {A:Option Addr} {n cap:Nat} {F:SF}
theorem ESl.mono {M:Nat} {F:EF} (h:ESl w N A n F) (hM:N≤M):ESl w M A n F:=by
 obtain ⟨h1,h2,b,off,h3,h4⟩:=h
 exact ⟨h1,h2,b,off,h3,h4.mono hM⟩
theorem SSl.mono {M:Nat} (h:SSl w N A n F) (hM:N≤M):SSl w M A n F:=by
 obtain ⟨h1,h2,b,off,h3,h4⟩:=h
 exact ⟨h1,h2,b,off,h3,h4.mono hM⟩
theorem PAt.mono {M:Nat} (h:PAt w N c p) (hM:N≤M):PAt w M c p:=⟨h.name,h.nameOk,h.seats,h.seatsOk,h.stakes.mono hM,h.vars.mono hM,h.start.mono hM,h.turn.mono hM,h.params.mono hM,h.play.mono hM,h.silent,h.silentOk,h.quiet.mono hM,h.pays.mono hM⟩
end
end Go.Proofs.YtbfbabbcdochjaaGreatDoor
