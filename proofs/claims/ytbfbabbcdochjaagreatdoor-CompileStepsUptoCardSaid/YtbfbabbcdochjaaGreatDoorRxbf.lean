/- Several texts joined: Jf, Jg, Jh, Ji, Jj, Jk, Qzp. -/
import Derived.Laws.MakeOwn
import Derived.Test.YtbfbabbcdochjaaGreatDoorRxpk
import Derived.Test.YtbfbabbcdochjaaGreatDoorRxao
import Derived.Test.YtbfbabbcdochjaaGreatDoorRxbe
set_option maxHeartbeats 4000000
namespace Go.Proofs.YtbfbabbcdochjaaGreatDoor
open Go.RowKit So Mc
theorem aggArr5i:aggT Tryz.prog 62=true:=by kernel_rfl
theorem sizeArr5i:sizeT Tryz.prog 62=some 5:=by kernel_rfl
theorem wpLoadArr5i {dst:Option Tmp} {ty':TypeId} {x:Operand} {pos:String} {after:Array Edge} {guard:Option (Nat × Bool)} {a:Act} {w:World} {K:Act→World→Prop} {Q:Exit→Act→World→Prop} (hx:isAt (a.eval x)=true) (hh:has w (blkOf (a.eval x)) (offOf (a.eval x)) 5=true) :
 Oper.wp Tryz.prog { dst:=dst,op:=.load 62 x,type:=ty',pos:=pos,after:=after,guard:=guard } a w K Q=K (a.put dst (.agg (gets w (blkOf (a.eval x)) (offOf (a.eval x)) 5))) w:=wp_load_big 5 aggArr5i sizeArr5i hx hh
theorem runLoadArr5i {ρ:Operand→Value} {dst:Option Tmp} {ty':TypeId} {x:Operand} {pos:String} {after:Array Edge} {guard:Option (Nat × Bool)} {w:World} (hx:isAt (ρ x)=true) (hh:has w (blkOf (ρ x)) (offOf (ρ x)) 5=true) :
 (execOp ρ { dst:=dst,op:=.load 62 x,type:=ty',pos:=pos,after:=after,guard:=guard }).run Tryz.prog w=.ok (.value (.agg (gets w (blkOf (ρ x)) (offOf (ρ x)) 5))) w:=run_exec_load_big 5 aggArr5i sizeArr5i hx hh
attribute [go_sem] aggArr5i sizeArr5i
attribute [go_sem ↓ high] wpLoadArr5i runLoadArr5i
attribute [go_sem high] wpLoadArr5i
def stepN (p:Pr) (i:Nat):Nat:=satN (8+costB (partOf p i))
abbrev arr5 (v:Nat→Nat) (j:Nat):Array Value:=#[.int .i64 (if 0 < j then v 0 else 0:Nat),.int .i64 (if 1 < j then v 1 else 0:Nat),.int .i64 (if 2 < j then v 2 else 0:Nat),.int .i64 (if 3 < j then v 3 else 0:Nat),.int .i64 (if 4 < j then v 4 else 0:Nat)]
set_option maxRecDepth 100000 in
theorem bsteps_any (c:Pc) (p:Pr) (N:Nat) (w:World) (hN:N≤w.heap.size) (hP:PAt w N c p) (hk:∀ i,i < 5→okK (partOf p i)) :
 Calls Tryz.prog 25 #[.agg c.cells] w fun e w'=>((∀ i,i < 5→stepN p i≤65536)∧e=.returned (.tuple #[.agg (arr5 (stepN p) 5),.int .i64 0]) ∨ (∃ i,i < 5∧65536 < stepN p i)∧e=.returned (.tuple #[.agg (arr5 (stepN p) 0),.int .i64 12]))∧Ext w w':=by
 obtain ⟨W1,hW1⟩:∃ W1,W1=((w.alloc (.cells c.cells 57)).alloc (.cells #[.int .i64 0,.int .i64 0,.int .i64 0,.int .i64 0,.int .i64 0] 62)).alloc (.cells #[.int .i64 0,.int .i64 0,.int .i64 0,.int .i64 0,.int .i64 0] 62):=⟨_,rfl⟩
 have y1:Ext w W1:=by rw [hW1];exact (((kR _ w).alloc _).alloc _).alloc _
 have hz:((w.alloc (.cells c.cells 57)).alloc (.cells #[.int .i64 0,.int .i64 0,.int .i64 0,.int .i64 0,.int .i64 0] 62)).heap.size=w.heap.size+2:=by simp
 have hz1:(w.alloc (.cells c.cells 57)).heap.size=w.heap.size+1:=by simp
 have hpB:Blk W1 w.heap.size 57 c.cells:=by rw [hW1];exact ((bN w _ _).alloc _).alloc _
 have hrB:Blk W1 (w.heap.size+1) 62 (arr5 (stepN p) 0):=by rw [hW1];exact (Blk.new' _ _ _ _ zb86).alloc _
 have hsB:Blk W1 (w.heap.size+2) 62 (arr5 (stepN p) 0):=by rw [hW1];exact Blk.new' _ _ _ _ zb86
 have HP:=J (hP.kept y1 hN (fun _ f=>f.elim))
 have HOKS:=J hk
 clear hP hk
 go_enter Tryz.func25,Tryz.ntmps25
 go_upto_region 2 with (fail)
 try rw [hz]
 try rw [hz1]
 rw [← hW1]
 clear hz hz1 hW1
 have HWS:=J y1.size
 have HSB:=J hsB.lt
 generalize hp4:(w:World).heap.size=p4 at hpB hrB hsB ⊢
 have HP4:=J hp4
 clear hp4
 have HPB:=J hpB
 have HRB:=J hrB
 have HSB2:=J hsB
 clear hpB hrB hsB
 go_wp2_with fail
 refine (bstart_any _).mono ?_
 rintro e W2 ⟨ex,st,rfl,hC,y2,he1,he2⟩
 have hsl:p4+2 < W1.heap.size:=HSB2.out.lt
 have yc:Ext W2 (W2.alloc (.cells (cnt ex st) 126)):=(kR _ W2).alloc _
 have bc:=bN W2 126 (cnt ex st)
 go_upto_region 3 with (fail)
 generalize (W2.alloc (.cells (cnt ex st) 126))=W3 at yc bc ⊢
 have hcl:p4+2 < W2.heap.size:=by have:=y2.size;omega
 generalize W2.heap.size=cb at bc hcl ⊢
 have Y3:=J (y2.trans yc)
 have HC3:=J (hC.ext yc)
 have HCB:=J bc
 have HES:=J (show ¬ ex=p4+2∧¬ st=p4+2 by omega)
 have HPC:=J (bX HPB.out Y3.out)
 have HPV:=J (HP.out.kept Y3.out (by have:=HWS.out;omega) (fun _ f=>f.elim))
 have HRC:=J (bX HRB.out Y3.out)
 have HSC:=J (bX HSB2.out Y3.out)
 have HNL:=J (show N≤p4 by have:=HP4.out;omega)
 have HN3:=J (show p4+2 < W3.heap.size from (HSC.out).lt)
 have HCL:=J hcl
 clear y2 yc bc hC he1 he2 hsl hcl
 have i1:=bC HPC.out
 have i2:=HPC.out.lt
 go_wp2_with fail
 clear i1 i2
 go_loopw [21] (fun t21 wr=>∃ (j:Nat),j≤5∧t21=.int .i64 j∧(∀ i,i < j→stepN p i≤65536)∧Blk wr (p4+2) 62 (arr5 (stepN p) j)∧Kept (·=p4+2) W3 wr) (fun t21 _=>5 - (intOf t21).toNat)
 case atStart=>exact ⟨0,by omega,rfl,fun i hi=>by omega,HSC.out,kR _ _⟩
 case round =>
  obtain ⟨j,hj,rfl,hall,hB,hk⟩:=hrel
  have HALL:=J hall
  have HB:=J hB
  have HK:=J hk
  clear hall hB hk
  by_cases hj5:j=5
  ·subst hj5
   have hr:=bK HRC.out HK.out zb85
   have l1:=bH HB.out
   have l2:=bG HB.out
   have l3:=HB.out.lt
   have l4:=bH hr
   have l5:=Blk.melts hr
   have l6:=hr.lt
   have HR:=J hr
   clear hr
   go_wp2_with fail
   refine ret_ci (t:=62) (g:=p4+1) (cs:=arr5 (stepN p) 5) Tryz.results25 rfl rfl aggArr5i zb79 zb63 ⟨Or.inl ⟨HALL.out,rfl⟩,?_⟩
   have hq:=HP4.out
   exact (y1.trans Y3.out).trans' ((HK.out.mono (fun _ _ e=>Or.inr e)).trans (Kept.putAt (S:=fun i=>i=p4+1 ∨ i=p4+2) (kR _ _) _ 0 _ (fun _=>Or.inl rfl))) (fun i hi e=>by omega)
  have hj':j=0 ∨ j=1 ∨ j=2 ∨ j=3 ∨ j=4:=by omega
  clear hj hj5
  rcases hj' with rfl | rfl | rfl | rfl | rfl
  ·skip
   have hix:(Instr.index 106 (.agg #[c.start.v,c.turn.v,c.play.v,c.quiet.v,c.pays.v]) (.int .i64 0)).run Tryz.prog wr=.ok c.start.v wr:=idx5 c.start c.turn c.play c.quiet c.pays 0 zb85 wr
   have hsl:=HPV.out.start
   go_wp2_with fail
   refine zy15 ?_;clear hix;intro w4 y4 nb b4 HNB hkl l1 l2 l3
   go_wp2_with fail
   have hNB:¬ cb=nb:=by have a:=HCB.out.lt;have b:=HNB.out;omega
   refine zy64 ?_;intro hcr
   have hsr:SSl wr N c.start.A c.start.n p.start:=hsl.kept HK.out zb41 (fun i e=>by have a:=HNL.out;omega)
   have HNQ:=J (show c.start.n=p.start.len from hsl.1)
   rw [HNQ.out] at hsr
   have hbk:=bblock_any p.start (HOKS.out 0 zb85) ex st N c.start.A c.start.c w4 (hcr.ext y4) (hsr.kept y4 zb49 (fun _ f=>f.elim)) zb39
   rw [← HNQ.out] at hbk
   refine hbk.mono ?_
   rintro e w5 ⟨rfl,y5⟩
   go_wp2_with fail
   refine (bsum1_any nb 8 (satN (costB p.start)) _ zb85 (by have:=satN_le (costB p.start);omega) (bX b4 y5)).mono ?_
   rintro e w6 ⟨rfl,b6,k6⟩
   have hsn:satN (8+satN (costB p.start))=stepN p 0:=satN_add' _ _
   refine zy12 ?_;clear b6;intro b6 hb7 m1 m2 m3 HB7 hk7
   have hset:=Blk.set_ HB7.out 0 (.int .i64 (stepN p 0:Nat))
   have HKS:=J (hk7.trans (Kept.setCell (S:=(·=p4+2)) (kR _ w6) ⟨p4+2,0,none⟩ (.int .i64 (stepN p 0:Nat)) (fun _=>rfl)))
   have HSET:=J (show Blk (w6.setCell ⟨p4+2,0,none⟩ (.int .i64 (stepN p 0:Nat))) (p4+2) 62 (arr5 (stepN p) (0+1)) from hset)
   clear hb7 l1 l2 l3 hset hk7 hbk hsr hcr b4 y4 y5 b6 k6 hsl hsn
   go_upto_region 8 with (fail)
   generalize (w6.setCell ⟨p4+2,0,none⟩ (.int .i64 (stepN p 0:Nat)))=w8 at HKS HSET ⊢
   clear m1 m2 m3
   have m1:=bC HSET.out
   have m2:=HSET.out.lt
   by_cases hbig:65536 < stepN p 0
   ·have hg:decide ((65536:Int) < (stepN p 0:Int))=true:=decide_eq_true zb85
    refine zy74 ?_;clear hbig;intro HBG l4 l5 l6 HR
    go_wp2_with fail
    refine ret_ci (t:=62) (g:=p4+1) (cs:=arr5 (stepN p) 0) Tryz.results25 rfl rfl aggArr5i zb79 zb63 ⟨Or.inr ⟨⟨0,by omega,HBG.out⟩,rfl⟩,?_⟩
    exact zz80
   ·have hg:decide ((65536:Int) < (stepN p 0:Int))=false:=decide_eq_false zb85
    have HBG:=J hbig
    clear hbig
    go_wp2_with fail
    go_roundw
    case rel=>exact ⟨0+1,by omega,by go_num,fun i hi=>by rcases (by omega:i < 0 ∨ i=0) with q | q;exact HALL.out i q;rw [q];have:=HBG.out;omega,HSET.out,HKS.out⟩
    case measure=>simp only [intOf];omega
  ·skip
   have hix:(Instr.index 106 (.agg #[c.start.v,c.turn.v,c.play.v,c.quiet.v,c.pays.v]) (.int .i64 1)).run Tryz.prog wr=.ok c.turn.v wr:=idx5 c.start c.turn c.play c.quiet c.pays 1 zb85 wr
   have hsl:=HPV.out.turn
   go_wp2_with fail
   refine zy15 ?_;clear hix;intro w4 y4 nb b4 HNB hkl l1 l2 l3
   go_wp2_with fail
   have hNB:¬ cb=nb:=by have a:=HCB.out.lt;have b:=HNB.out;omega
   refine zy64 ?_;intro hcr
   have hsr:SSl wr N c.turn.A c.turn.n p.turn:=hsl.kept HK.out zb41 (fun i e=>by have a:=HNL.out;omega)
   have HNQ:=J (show c.turn.n=p.turn.len from hsl.1)
   rw [HNQ.out] at hsr
   have hbk:=bblock_any p.turn (HOKS.out 1 zb85) ex st N c.turn.A c.turn.c w4 (hcr.ext y4) (hsr.kept y4 zb49 (fun _ f=>f.elim)) zb39
   rw [← HNQ.out] at hbk
   refine hbk.mono ?_
   rintro e w5 ⟨rfl,y5⟩
   go_wp2_with fail
   refine (bsum1_any nb 8 (satN (costB p.turn)) _ zb85 (by have:=satN_le (costB p.turn);omega) (bX b4 y5)).mono ?_
   rintro e w6 ⟨rfl,b6,k6⟩
   have hsn:satN (8+satN (costB p.turn))=stepN p 1:=satN_add' _ _
   refine zy12 ?_;clear b6;intro b6 hb7 m1 m2 m3 HB7 hk7
   have hset:=Blk.set_ HB7.out 1 (.int .i64 (stepN p 1:Nat))
   have HKS:=J (hk7.trans (Kept.setCell (S:=(·=p4+2)) (kR _ w6) ⟨p4+2,1,none⟩ (.int .i64 (stepN p 1:Nat)) (fun _=>rfl)))
   have HSET:=J (show Blk (w6.setCell ⟨p4+2,1,none⟩ (.int .i64 (stepN p 1:Nat))) (p4+2) 62 (arr5 (stepN p) (1+1)) from hset)
   clear hb7 l1 l2 l3 hset hk7 hbk hsr hcr b4 y4 y5 b6 k6 hsl hsn
   go_upto_region 8 with (fail)
   generalize (w6.setCell ⟨p4+2,1,none⟩ (.int .i64 (stepN p 1:Nat)))=w8 at HKS HSET ⊢
   clear m1 m2 m3
   have m1:=bC HSET.out
   have m2:=HSET.out.lt
   by_cases hbig:65536 < stepN p 1
   ·have hg:decide ((65536:Int) < (stepN p 1:Int))=true:=decide_eq_true zb85
    refine zy74 ?_;clear hbig;intro HBG l4 l5 l6 HR
    go_wp2_with fail
    refine ret_ci (t:=62) (g:=p4+1) (cs:=arr5 (stepN p) 0) Tryz.results25 rfl rfl aggArr5i zb79 zb63 ⟨Or.inr ⟨⟨1,by omega,HBG.out⟩,rfl⟩,?_⟩
    exact zz80
   ·have hg:decide ((65536:Int) < (stepN p 1:Int))=false:=decide_eq_false zb85
    have HBG:=J hbig
    clear hbig
    go_wp2_with fail
    go_roundw
    case rel=>exact ⟨1+1,by omega,by go_num,fun i hi=>by rcases (by omega:i < 1 ∨ i=1) with q | q;exact HALL.out i q;rw [q];have:=HBG.out;omega,HSET.out,HKS.out⟩
    case measure=>simp only [intOf];omega
  ·skip
   have hix:(Instr.index 106 (.agg #[c.start.v,c.turn.v,c.play.v,c.quiet.v,c.pays.v]) (.int .i64 2)).run Tryz.prog wr=.ok c.play.v wr:=idx5 c.start c.turn c.play c.quiet c.pays 2 zb85 wr
   have hsl:=HPV.out.play
   go_wp2_with fail
   refine zy15 ?_;clear hix;intro w4 y4 nb b4 HNB hkl l1 l2 l3
   go_wp2_with fail
   have hNB:¬ cb=nb:=by have a:=HCB.out.lt;have b:=HNB.out;omega
   refine zy64 ?_;intro hcr
   have hsr:SSl wr N c.play.A c.play.n p.play:=hsl.kept HK.out zb41 (fun i e=>by have a:=HNL.out;omega)
   have HNQ:=J (show c.play.n=p.play.len from hsl.1)
   rw [HNQ.out] at hsr
   have hbk:=bblock_any p.play (HOKS.out 2 zb85) ex st N c.play.A c.play.c w4 (hcr.ext y4) (hsr.kept y4 zb49 (fun _ f=>f.elim)) zb39
   rw [← HNQ.out] at hbk
   refine hbk.mono ?_
   rintro e w5 ⟨rfl,y5⟩
   go_wp2_with fail
   refine (bsum1_any nb 8 (satN (costB p.play)) _ zb85 (by have:=satN_le (costB p.play);omega) (bX b4 y5)).mono ?_
   rintro e w6 ⟨rfl,b6,k6⟩
   have hsn:satN (8+satN (costB p.play))=stepN p 2:=satN_add' _ _
   refine zy12 ?_;clear b6;intro b6 hb7 m1 m2 m3 HB7 hk7
   have hset:=Blk.set_ HB7.out 2 (.int .i64 (stepN p 2:Nat))
   have HKS:=J (hk7.trans (Kept.setCell (S:=(·=p4+2)) (kR _ w6) ⟨p4+2,2,none⟩ (.int .i64 (stepN p 2:Nat)) (fun _=>rfl)))
   have HSET:=J (show Blk (w6.setCell ⟨p4+2,2,none⟩ (.int .i64 (stepN p 2:Nat))) (p4+2) 62 (arr5 (stepN p) (2+1)) from hset)
   clear hb7 l1 l2 l3 hset hk7 hbk hsr hcr b4 y4 y5 b6 k6 hsl hsn
   go_upto_region 8 with (fail)
   generalize (w6.setCell ⟨p4+2,2,none⟩ (.int .i64 (stepN p 2:Nat)))=w8 at HKS HSET ⊢
   clear m1 m2 m3
   have m1:=bC HSET.out
   have m2:=HSET.out.lt
   by_cases hbig:65536 < stepN p 2
   ·have hg:decide ((65536:Int) < (stepN p 2:Int))=true:=decide_eq_true zb85
    refine zy74 ?_;clear hbig;intro HBG l4 l5 l6 HR
    go_wp2_with fail
    refine ret_ci (t:=62) (g:=p4+1) (cs:=arr5 (stepN p) 0) Tryz.results25 rfl rfl aggArr5i zb79 zb63 ⟨Or.inr ⟨⟨2,by omega,HBG.out⟩,rfl⟩,?_⟩
    exact zz80
   ·have hg:decide ((65536:Int) < (stepN p 2:Int))=false:=decide_eq_false zb85
    have HBG:=J hbig
    clear hbig
    go_wp2_with fail
    go_roundw
    case rel=>exact ⟨2+1,by omega,by go_num,fun i hi=>by rcases (by omega:i < 2 ∨ i=2) with q | q;exact HALL.out i q;rw [q];have:=HBG.out;omega,HSET.out,HKS.out⟩
    case measure=>simp only [intOf];omega
  ·skip
   have hix:(Instr.index 106 (.agg #[c.start.v,c.turn.v,c.play.v,c.quiet.v,c.pays.v]) (.int .i64 3)).run Tryz.prog wr=.ok c.quiet.v wr:=idx5 c.start c.turn c.play c.quiet c.pays 3 zb85 wr
   have hsl:=HPV.out.quiet
   go_wp2_with fail
   refine zy15 ?_;clear hix;intro w4 y4 nb b4 HNB hkl l1 l2 l3
   go_wp2_with fail
   have hNB:¬ cb=nb:=by have a:=HCB.out.lt;have b:=HNB.out;omega
   refine zy64 ?_;intro hcr
   have hsr:SSl wr N c.quiet.A c.quiet.n p.quiet:=hsl.kept HK.out zb41 (fun i e=>by have a:=HNL.out;omega)
   have HNQ:=J (show c.quiet.n=p.quiet.len from hsl.1)
   rw [HNQ.out] at hsr
   have hbk:=bblock_any p.quiet (HOKS.out 3 zb85) ex st N c.quiet.A c.quiet.c w4 (hcr.ext y4) (hsr.kept y4 zb49 (fun _ f=>f.elim)) zb39
   rw [← HNQ.out] at hbk
   refine hbk.mono ?_
   rintro e w5 ⟨rfl,y5⟩
   go_wp2_with fail
   refine (bsum1_any nb 8 (satN (costB p.quiet)) _ zb85 (by have:=satN_le (costB p.quiet);omega) (bX b4 y5)).mono ?_
   rintro e w6 ⟨rfl,b6,k6⟩
   have hsn:satN (8+satN (costB p.quiet))=stepN p 3:=satN_add' _ _
   refine zy12 ?_;clear b6;intro b6 hb7 m1 m2 m3 HB7 hk7
   have hset:=Blk.set_ HB7.out 3 (.int .i64 (stepN p 3:Nat))
   have HKS:=J (hk7.trans (Kept.setCell (S:=(·=p4+2)) (kR _ w6) ⟨p4+2,3,none⟩ (.int .i64 (stepN p 3:Nat)) (fun _=>rfl)))
   have HSET:=J (show Blk (w6.setCell ⟨p4+2,3,none⟩ (.int .i64 (stepN p 3:Nat))) (p4+2) 62 (arr5 (stepN p) (3+1)) from hset)
   clear hb7 l1 l2 l3 hset hk7 hbk hsr hcr b4 y4 y5 b6 k6 hsl hsn
   go_upto_region 8 with (fail)
   generalize (w6.setCell ⟨p4+2,3,none⟩ (.int .i64 (stepN p 3:Nat)))=w8 at HKS HSET ⊢
   clear m1 m2 m3
   have m1:=bC HSET.out
   have m2:=HSET.out.lt
   by_cases hbig:65536 < stepN p 3
   ·have hg:decide ((65536:Int) < (stepN p 3:Int))=true:=decide_eq_true zb85
    refine zy74 ?_;clear hbig;intro HBG l4 l5 l6 HR
    go_wp2_with fail
    refine ret_ci (t:=62) (g:=p4+1) (cs:=arr5 (stepN p) 0) Tryz.results25 rfl rfl aggArr5i zb79 zb63 ⟨Or.inr ⟨⟨3,by omega,HBG.out⟩,rfl⟩,?_⟩
    exact zz80
   ·have hg:decide ((65536:Int) < (stepN p 3:Int))=false:=decide_eq_false zb85
    have HBG:=J hbig
    clear hbig
    go_wp2_with fail
    go_roundw
    case rel=>exact ⟨3+1,by omega,by go_num,fun i hi=>by rcases (by omega:i < 3 ∨ i=3) with q | q;exact HALL.out i q;rw [q];have:=HBG.out;omega,HSET.out,HKS.out⟩
    case measure=>simp only [intOf];omega
  ·skip
   have hix:(Instr.index 106 (.agg #[c.start.v,c.turn.v,c.play.v,c.quiet.v,c.pays.v]) (.int .i64 4)).run Tryz.prog wr=.ok c.pays.v wr:=idx5 c.start c.turn c.play c.quiet c.pays 4 zb85 wr
   have hsl:=HPV.out.pays
   go_wp2_with fail
   refine zy15 ?_;clear hix;intro w4 y4 nb b4 HNB hkl l1 l2 l3
   go_wp2_with fail
   have hNB:¬ cb=nb:=by have a:=HCB.out.lt;have b:=HNB.out;omega
   refine zy64 ?_;intro hcr
   have hsr:SSl wr N c.pays.A c.pays.n p.pays:=hsl.kept HK.out zb41 (fun i e=>by have a:=HNL.out;omega)
   have HNQ:=J (show c.pays.n=p.pays.len from hsl.1)
   rw [HNQ.out] at hsr
   have hbk:=bblock_any p.pays (HOKS.out 4 zb85) ex st N c.pays.A c.pays.c w4 (hcr.ext y4) (hsr.kept y4 zb49 (fun _ f=>f.elim)) zb39
   rw [← HNQ.out] at hbk
   refine hbk.mono ?_
   rintro e w5 ⟨rfl,y5⟩
   go_wp2_with fail
   refine (bsum1_any nb 8 (satN (costB p.pays)) _ zb85 (by have:=satN_le (costB p.pays);omega) (bX b4 y5)).mono ?_
   rintro e w6 ⟨rfl,b6,k6⟩
   have hsn:satN (8+satN (costB p.pays))=stepN p 4:=satN_add' _ _
   refine zy12 ?_;clear b6;intro b6 hb7 m1 m2 m3 HB7 hk7
   have hset:=Blk.set_ HB7.out 4 (.int .i64 (stepN p 4:Nat))
   have HKS:=J (hk7.trans (Kept.setCell (S:=(·=p4+2)) (kR _ w6) ⟨p4+2,4,none⟩ (.int .i64 (stepN p 4:Nat)) (fun _=>rfl)))
   have HSET:=J (show Blk (w6.setCell ⟨p4+2,4,none⟩ (.int .i64 (stepN p 4:Nat))) (p4+2) 62 (arr5 (stepN p) (4+1)) from hset)
   clear hb7 l1 l2 l3 hset hk7 hbk hsr hcr b4 y4 y5 b6 k6 hsl hsn
   go_upto_region 8 with (fail)
   generalize (w6.setCell ⟨p4+2,4,none⟩ (.int .i64 (stepN p 4:Nat)))=w8 at HKS HSET ⊢
   clear m1 m2 m3
   have m1:=bC HSET.out
   have m2:=HSET.out.lt
   by_cases hbig:65536 < stepN p 4
   ·have hg:decide ((65536:Int) < (stepN p 4:Int))=true:=decide_eq_true zb85
    refine zy74 ?_;clear hbig;intro HBG l4 l5 l6 HR
    go_wp2_with fail
    refine ret_ci (t:=62) (g:=p4+1) (cs:=arr5 (stepN p) 0) Tryz.results25 rfl rfl aggArr5i zb79 zb63 ⟨Or.inr ⟨⟨4,by omega,HBG.out⟩,rfl⟩,?_⟩
    exact zz80
   ·have hg:decide ((65536:Int) < (stepN p 4:Int))=false:=decide_eq_false zb85
    have HBG:=J hbig
    clear hbig
    go_wp2_with fail
    go_roundw
    case rel=>exact ⟨4+1,by omega,by go_num,fun i hi=>by rcases (by omega:i < 4 ∨ i=4) with q | q;exact HALL.out i q;rw [q];have:=HBG.out;omega,HSET.out,HKS.out⟩
    case measure=>simp only [intOf];omega
open Go.RowKit So Mc
set_option maxRecDepth 100000 in
theorem cis_any (n:Int) (w:World):Calls Tryz.prog 64 #[.int .i64 n] w fun e w'=>e=.returned (.bool (decide (0≤n) && decide (n < 5)))∧w=w':=by
 by_cases h0:0≤n
 ·have g0:decide (0≤n)=true:=decide_eq_true h0
  clear h0
  by_cases h5:n < 5
  ·have g5:decide (n < 5)=true:=decide_eq_true h5
   clear h5
   rw [g0,g5]
   go_enter Tryz.func64,Tryz.ntmps64
   go_wp2_with fail
   go_ret
   exact ⟨rfl,rfl⟩
  ·have g5:decide (n < 5)=false:=decide_eq_false h5
   clear h5
   rw [g0,g5]
   go_enter Tryz.func64,Tryz.ntmps64
   go_wp2_with fail
   go_ret
   exact ⟨rfl,rfl⟩
 ·have g0:decide (0≤n)=false:=decide_eq_false h0
  clear h0
  rw [g0,Bool.false_and]
  go_enter Tryz.func64,Tryz.ntmps64
  go_wp2_with fail
  go_ret
  exact ⟨rfl,rfl⟩
open Go.RowKit So Mc
theorem makeM (n:Nat) (hn:n≤4096) (w:World):(Instr.makeSlice 27 (.int .i64 n) (.int .i64 n)).run Tryz.prog w=.ok (.slice (some ⟨w.heap.size,0,none⟩) n n) (w.alloc (.cells (mems (List.replicate n 0)).toArray 21)):=by
 obtain ⟨i,hi,hz,h1,h2⟩:=info_parts infoM32
 have hr:=run_make (P:=Tryz.prog) w 27 21 i _ Tryz.underlying27 hi hz .i64 .i64 n n zb85 (Int.le_refl _) (by rw [h2];omega) zb85
 rw [hr,h1]
 have e:madeCells (Value.cells (.int .i32 0)) (((n:Int)).toNat * 1)=(mems (List.replicate n 0)).toArray:=by
  apply Array.ext
  ·simp [madeCells,mems]
  ·intro j hj hj'
   simp [madeCells,mems,Value.cells,Nat.mod_one]
 rw [e]
 simp
set_option maxRecDepth 100000 in
theorem mnew_any (n:Nat) (h1:1≤n) (h2:n≤256) (w:World):Calls Tryz.prog 40 #[.int .i64 n] w fun e w'=>∃ g,e=.returned (.tuple #[.agg (stCells 0 (some ⟨g,0,none⟩) n n 0),.int .i64 0])∧Blk w' g 21 (mems (List.replicate n 0)).toArray∧Ext w w'∧w.heap.size≤g:=by
 have g1:decide ((n:Int) < 1)=false:=decide_eq_false zb85
 have g2:decide ((256:Int) < n)=false:=decide_eq_false zb85
 have hmk:=makeM n zb85
 clear h1 h2
 have y0:=(kR (fun _=>False) w).alloc (.cells #[.int .i64 0,.slice none 0 0,.int .i64 0] 49)
 have b0:=bN w 49 #[.int .i64 0,.slice none 0 0,.int .i64 0]
 go_enter Tryz.func40,Tryz.ntmps40
 go_upto_region 1 with (fail)
 generalize (w.alloc (.cells #[.int .i64 0,.slice none 0 0,.int .i64 0] 49))=W1 at y0 b0 ⊢
 generalize hg:(w:World).heap.size=g at b0 ⊢
 have HG:=J hg
 clear hg
 go_upto_region 3 with (fail)
 go_step
 iterate 1 refine qls ?_
 refine wpList_make rfl _ _ 27 rfl rfl rfl (hmk W1) ?_
 have y1:Ext W1 (W1.alloc (.cells (mems (List.replicate n 0)).toArray 21)):=(kR _ W1).alloc _
 have bm:=bN W1 21 (mems (List.replicate n 0)).toArray
 have hgl:g < W1.heap.size:=b0.lt
 have b1:=bX b0 y1
 generalize (W1.alloc (.cells (mems (List.replicate n 0)).toArray 21))=W2 at y1 bm b1 ⊢
 have hyl:=y0.size
 generalize W1.heap.size=gm at bm hgl hyl ⊢
 have l1:=bH b1
 have l2:=Blk.melts b1
 have l3:=b1.lt
 clear hmk
 have B1:=J b1
 have BM:=J bm
 go_wp2_with fail
 have kp:Kept (·=g) W2 (putAt W2 g 0 #[.int .i64 0,.slice (some ⟨gm,0,none⟩) n n,.int .i64 0]):=Kept.putAt (kR _ _) _ 0 _ (fun _=>rfl)
 refine ret_ci (t:=49) (g:=g) (cs:=stCells 0 (some ⟨gm,0,none⟩) n n 0) Tryz.results40 rfl rfl aggMst (by exact sizeMst) (by exact Blk.put_ B1.out 0 _) ⟨gm,rfl,bK BM.out kp zb85,?_,hyl⟩
 exact (y0.trans y1).trans' kp (fun i hi e=>by have:=HG.out;omega)
open Go.RowKit So Mc
structure Cd where (cells seats:Int) (first params i0 i1 i2 i3 i4:Sl3) (m:Nat→Nat)
abbrev Cd.c (k:Cd):Array Value:=#[.int .i64 k.cells,.int .i64 k.seats,k.first.v,k.params.v,k.i0.v,k.i1.v,k.i2.v,k.i3.v,k.i4.v,.int .i64 (k.m 0),.int .i64 (k.m 1),.int .i64 (k.m 2),.int .i64 (k.m 3),.int .i64 (k.m 4)]
set_option maxRecDepth 100000 in
theorem cwords_any (cb:Nat) (k:Cd) (w:World) (hb:Blk w cb 90 k.c) (h0:0≤k.cells∧k.cells≤1000):Calls Tryz.prog 30 #[.pointer (some ⟨cb,0,none⟩)] w fun e w'=>e=.returned (.int .i64 (k.cells+49))∧w=w':=by
 have i1:=bC hb
 have i2:=hb.lt
 have hw:=wrap_i64 (n:=k.cells+49) zb74
 clear hb
 go_enter Tryz.func30,Tryz.ntmps30
 go_wp2_with fail
 go_ret
 exact ⟨rfl,rfl⟩
set_option maxRecDepth 100000 in
theorem cmost_any (cb:Nat) (k:Cd) (w:World) (hb:Blk w cb 90 k.c) (part:Nat) (hp:part < 5):Calls Tryz.prog 28 #[.pointer (some ⟨cb,0,none⟩),.int .i64 part] w fun e w'=>e=.returned (.int .i64 (k.m part))∧w=w':=by
 have i1:=bC hb
 have i2:=hb.lt
 clear hb
 have hj:part=0 ∨ part=1 ∨ part=2 ∨ part=3 ∨ part=4:=by omega
 clear hp
 rcases hj with rfl | rfl | rfl | rfl | rfl
 all_goals
  go_enter Tryz.func28,Tryz.ntmps28
  go_wp2_with fail
  refine (cis_any _ _).mono ?_
  rintro e w1 ⟨rfl,rfl⟩
  go_wp2_with fail
  go_ret
  exact ⟨rfl,rfl⟩
open Go.RowKit So Mc
set_option maxRecDepth 100000 in
theorem iclone_any (b off cap:Nat) (l:List Ins) (n:Nat) (hn:n=l.length) (h1:1≤n) (h2:n≤50000) (w:World) (hr:Row w b off (inss l)) :
 Calls Tryz.prog 65 #[.slice (some ⟨b,off,none⟩) n cap] w fun e w'=>∃ v,e=.returned v∧w'.ownsRow w.heap.size 77 4 v n (inss l)∧Ext w w':=by
 obtain ⟨v2,w2,hr2,ho2,hk2⟩:=appI4 (w.alloc (.cells #[] 77)) _ _ 0 [] (own_new w 77 4) b off n cap l hn (hr.ext ((kR _ w).alloc _)) zb85 zb86
 have HN:=J hn
 clear hn
 have heq:=fun w=>Lib.run_eql_slice_nil (P:=Tryz.prog) w 71 77 (some ⟨b,off,none⟩) n cap 0 0 Tryz.underlying71
 simp only [Option.isNone_some] at heq
 go_enter Tryz.func65,Tryz.ntmps65
 go_upto_region 3 with (fail)
 go_step
 iterate 2 refine qls ?_
 refine wpList_app rfl (.tmp 5) (.tmp 6) 71 rfl rfl rfl rfl hr2 ?_
 clear hr2
 go_wp2_with fail
 go_ret
 rw [Nat.zero_add,List.nil_append] at ho2
 exact ⟨_,rfl,ho2,((kR _ w).alloc _).trans' hk2 (fun i hi e=>by simp [Value.ownBlock] at e;omega)⟩
open Go.RowKit So Mc
def Cd.i (k:Cd):Nat→Sl3 | 0=>k.i0 | 1=>k.i1 | 2=>k.i2 | 3=>k.i3 | _=>k.i4
set_option maxRecDepth 100000 in
theorem cinstrs_any (cb:Nat) (k:Cd) (w:World) (hb:Blk w cb 90 k.c) (part:Nat) (hp:part < 5) (b off:Nat) (l:List Ins) (hn:(k.i part).n=l.length) (h1:1≤(k.i part).n) (h2:(k.i part).n≤50000) (hA:(k.i part).A=some ⟨b,off,none⟩) (hr:Row w b off (inss l)) :
 Calls Tryz.prog 27 #[.pointer (some ⟨cb,0,none⟩),.int .i64 part] w fun e w'=>∃ v,e=.returned v∧w'.ownsRow w.heap.size 77 4 v l.length (inss l)∧Ext w w':=by
 have i1:=bC hb
 have i2:=hb.lt
 have hcl:=iclone_any b off (k.i part).c l (k.i part).n hn h1 h2 w hr
 rw [← hA,hn] at hcl
 have HN:=J hn
 clear hb hA hr h1 h2
 have hj:part=0 ∨ part=1 ∨ part=2 ∨ part=3 ∨ part=4:=by omega
 clear hp hn
 have HCL:=J hcl
 clear hcl
 rcases hj with rfl | rfl | rfl | rfl | rfl
 all_goals
  go_enter Tryz.func27,Tryz.ntmps27
  go_wp2_with fail
  refine (cis_any _ _).mono ?_
  rintro e w1 ⟨rfl,rfl⟩
  go_wp2_with fail
  have hcl:=HCL.out
  rw [← HN.out] at hcl
  refine (hcl:_).mono ?_
  rintro e w2 ⟨v,rfl,ho,hx⟩
  go_wp2_with fail
  go_ret
  exact ⟨v,rfl,by rw [← HN.out];exact ho,hx⟩
open Go.RowKit So
section
variable {w:World} {N:Nat} {c:Pc} {p:Pr} {A:Option Addr} {n cap:Nat} {F:SF}
theorem ESl.mono {M:Nat} {F:EF} (h:ESl w N A n F) (hM:N≤M):ESl w M A n F:=by
 obtain ⟨h1,h2,b,off,h3,h4⟩:=h
 exact ⟨h1,h2,b,off,h3,h4.mono hM⟩
theorem SSl.mono {M:Nat} (h:SSl w N A n F) (hM:N≤M):SSl w M A n F:=by
 obtain ⟨h1,h2,b,off,h3,h4⟩:=h
 exact ⟨h1,h2,b,off,h3,h4.mono hM⟩
theorem PAt.mono {M:Nat} (h:PAt w N c p) (hM:N≤M):PAt w M c p:=⟨h.name,h.nameOk,h.seats,h.seatsOk,h.stakes.mono hM,h.vars.mono hM,h.start.mono hM,h.turn.mono hM,h.params.mono hM,h.play.mono hM,h.silent,h.silentOk,h.quiet.mono hM,h.pays.mono hM⟩
end
end Go.Proofs.YtbfbabbcdochjaaGreatDoor
