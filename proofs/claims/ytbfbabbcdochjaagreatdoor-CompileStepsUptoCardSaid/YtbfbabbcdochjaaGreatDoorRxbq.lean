/- Several texts joined: Jv, Jw. -/
import Derived.Test.YtbfbabbcdochjaaGreatDoorRxpk
import Derived.Test.YtbfbabbcdochjaaGreatDoorRxbp
set_option maxHeartbeats 4000000
namespace Go.Proofs.YtbfbabbcdochjaaGreatDoor
open Go.RowKit So Mc
structure SmallB (w:World) (n:Nat):Prop where
 b2:Blk w (n+1+1) 3 #[.int .i64 1,.int .i64 1]
 b3:Blk w (n+1+1+1) 66 #[.string sA,.int .i64 0,.int .i64 0,.int .i64 1,.string sL,.int .i64 3,.int .i64 0,.int .i64 1]
 b4:Blk w (n+1+1+1+1) 86 (scells 7 E0 none 0 0 0 0 none 0 0 none 0 0)
 b5:Blk w (n+1+1+1+1+1) 84 (ecells 0 0 E0 none 0 0)
 b6:Blk w (n+1+1+1+1+1+1) 86 (scells 9 E0 (some ⟨n+1+1+1+1+1,0,none⟩) 1 1 0 0 none 0 0 none 0 0)
set_option maxRecDepth 100000 in
theorem small_raw (w:World):Calls Tryz.prog 33 #[] w fun e w'=>Ext w w'∧e=.returned (.agg (smallC w.heap.size).cells)∧SmallB w' w.heap.size:=by
 go_enter Tryz.func33,Tryz.ntmps33
 go_upto_region 2 with (fail)
 go_wp2_with fail
 obtain ⟨W,hW⟩:∃ W,W=((((((w.alloc (.cells (smallC w.heap.size).cells 26)).alloc (.cells (ecells 0 0 E0 none 0 0) 84)).alloc (.cells #[.int .i64 1,.int .i64 1] 3)).alloc (.cells #[.string sA,.int .i64 0,.int .i64 0,.int .i64 1,.string sL,.int .i64 3,.int .i64 0,.int .i64 1] 66)).alloc (.cells (scells 7 E0 none 0 0 0 0 none 0 0 none 0 0) 86)).alloc (.cells (ecells 0 0 E0 none 0 0) 84)).alloc (.cells (scells 9 E0 (some ⟨w.heap.size+1+1+1+1+1,0,none⟩) 1 1 0 0 none 0 0 none 0 0) 86):=⟨_,rfl⟩
 have hx:Ext w W:=by rw [hW];exact (((((((kR _ w).alloc _).alloc _).alloc _).alloc _).alloc _).alloc _).alloc _
 have b0:Blk W w.heap.size 26 (smallC w.heap.size).cells:=by rw [hW];exact ((((((bN w _ _).alloc _).alloc _).alloc _).alloc _).alloc _).alloc _
 have b2:Blk W (w.heap.size+1+1) 3 #[.int .i64 1,.int .i64 1]:=by rw [hW];exact ((((Blk.new' _ _ _ _ zb86).alloc _).alloc _).alloc _).alloc _
 have b3:Blk W (w.heap.size+1+1+1) 66 #[.string sA,.int .i64 0,.int .i64 0,.int .i64 1,.string sL,.int .i64 3,.int .i64 0,.int .i64 1]:=by rw [hW];exact (((Blk.new' _ _ _ _ zb86).alloc _).alloc _).alloc _
 have b4:Blk W (w.heap.size+1+1+1+1) 86 (scells 7 E0 none 0 0 0 0 none 0 0 none 0 0):=by rw [hW];exact ((Blk.new' _ _ _ _ zb86).alloc _).alloc _
 have b5:Blk W (w.heap.size+1+1+1+1+1) 84 (ecells 0 0 E0 none 0 0):=by rw [hW];exact (Blk.new' _ _ _ _ zb86).alloc _
 have b6:Blk W (w.heap.size+1+1+1+1+1+1) 86 (scells 9 E0 (some ⟨w.heap.size+1+1+1+1+1,0,none⟩) 1 1 0 0 none 0 0 none 0 0):=by rw [hW];exact Blk.new' _ _ _ _ zb86
 have hsz:w.heap.size+7≤W.heap.size:=by have:=b6.lt;omega
 show bodyPost _ _ _ _ _ (((((((w.alloc (.cells (smallC w.heap.size).cells 26)).alloc (.cells (ecells 0 0 E0 none 0 0) 84)).alloc (.cells #[.int .i64 1,.int .i64 1] 3)).alloc (.cells #[.string sA,.int .i64 0,.int .i64 0,.int .i64 1,.string sL,.int .i64 3,.int .i64 0,.int .i64 1] 66)).alloc (.cells (scells 7 E0 none 0 0 0 0 none 0 0 none 0 0) 86)).alloc (.cells (ecells 0 0 E0 none 0 0) 84)).alloc (.cells (scells 9 E0 (some ⟨w.heap.size+1+1+1+1+1,0,none⟩) 1 1 0 0 none 0 0 none 0 0) 86))
 rw [← hW]
 exact ret_cell Tryz.results33 rfl rfl aggProgR (by exact sizeProgR) b0 ⟨hx,rfl,b2,b3,b4,b5,b6⟩
def tE1:EF:=.cons 0 7 E0 .nil (.cons 0 0 E0 .nil .nil)
def tE2:EF:=.cons 6 0 E0 tE1 (.cons 0 5 E0 .nil .nil)
def tE3:EF:=.cons 8 0 E0 tE2 .nil
def tE4:EF:=.cons 0 9 E0 .nil (.cons 0 4 E0 .nil .nil)
def smallPays:SF:=.cons 9 E0 e0F 0 0 .nil .nil .nil
def toldP:Pr:=⟨sG,2,[1,1],[⟨sA,0,0,3⟩,⟨sL,3,0,1⟩],.cons 0 sA tE3 0 0 .nil .nil .nil,smallT,[],.nil,sW,.nil,.cons 8 E0 tE4 0 0 .nil .nil smallPays⟩
theorem toldP_ok:check toldP=none:=by kernel_rfl
theorem toldP_long:longB toldP=false:=by kernel_rfl
theorem toldP_steps:∀ i,i < 5→stepN toldP i≤65536:=by decide
theorem toldP_fits0:fitsN toldP 0 [] []=0:=by kernel_rfl
theorem toldP_fits4:fitsN toldP 4 [3,0,0,0] []=0:=by kernel_rfl
theorem toldP_run0:lastS toldP 0 [] []=lastS toldP 0 [] []∧(lastS toldP 0 [] []).2.1=1:=⟨rfl,by kernel_rfl⟩
theorem toldP_run4:(lastS toldP 4 [3,0,0,0] []).2.1=1:=by kernel_rfl
theorem toldP_out0:(outP toldP 0 (lastS toldP 0 [] []).2.1 (lastS toldP 0 [] []).2.2).vars=[3,0,0,0]:=by kernel_rfl
theorem toldP_out4:(outP toldP 4 (lastS toldP 4 [3,0,0,0] []).2.1 (lastS toldP 4 [3,0,0,0] []).2.2).asks=[4,0]:=by kernel_rfl
abbrev A2 (q:Nat):Array Value:=#[.int .i64 6,.int .i64 0,.string ⟨#[]⟩,.slice (some ⟨q,0,none⟩) 2 2,.int .i64 0,.int .i64 5,.string ⟨#[]⟩,.slice none 0 0]
abbrev A3 (q:Nat):Array Value:=#[.int .i64 8,.int .i64 0,.string ⟨#[]⟩,.slice (some ⟨q+1,0,none⟩) 2 2]
abbrev A4 (q:Nat):Array Value:=#[.int .i64 0,.string ⟨#[97]⟩,.slice (some ⟨q+1+1,0,none⟩) 1 1,.int .i64 0,.int .i64 0,.slice none 0 0,.slice none 0 0]
abbrev B1:Array Value:=#[.int .i64 0,.int .i64 9,.string ⟨#[]⟩,.slice none 0 0,.int .i64 0,.int .i64 4,.string ⟨#[]⟩,.slice none 0 0]
abbrev B2 (q:Nat):Array Value:=#[.int .i64 8,.string ⟨#[]⟩,.slice (some ⟨q,0,none⟩) 2 2,.int .i64 0,.int .i64 0,.slice none 0 0,.slice none 0 0]
theorem ef_two {w:World} {N b:Nat} {t:TypeId} {op n:Int} {name:Str} {A:Option Addr} {cap:Nat} {k:EF} {op' n':Int} {name':Str} {A':Option Addr} {cap':Nat} {k':EF} (hB:Blk w b t #[.int .i64 op,.int .i64 n,.string name,.slice A k.len cap,.int .i64 op',.int .i64 n',.string name',.slice A' k'.len cap']) (hb:b < N)
 (h1:i64ok op) (h2:i64ok n) (h3:name.size≤maxLen) (hk:ESl w N A k.len k) (h1':i64ok op') (h2':i64ok n') (h3':name'.size≤maxLen) (hk':ESl w N A' k'.len k'):ESl w N (some ⟨b,0,none⟩) 2 (.cons op n name k (.cons op' n' name' k' .nil)):=by
 obtain ⟨-,hf,b1,off1,hA,hE⟩:=hk
 obtain ⟨-,hf',b2,off2,hA',hE'⟩:=hk'
 refine ⟨rfl,by unfold Fits;omega,b,0,fun _=>rfl,hb,h1,h2,h3,⟨A,cap,b1,off1,?_,?_,hf,hA,hE⟩,hb,h1',h2',h3',⟨A',cap',b2,off2,?_,?_,hf',hA',hE'⟩,trivial⟩
 ·rw [bH hB];simp
 ·rw [bG hB];rfl
 ·rw [bH hB];simp
 ·rw [bG hB];rfl
theorem sf_two {w:World} {N b:Nat} {k1 k2:Int} {n1 n2:Str} {e e':EF} {eA eA':Option Addr} {ec ec':Nat} (hr:Row w b 0 (rowsL Sc.cells [(⟨k1,n1,eA,e.len,ec,0,0,none,0,0,none,0,0⟩:Sc),⟨k2,n2,eA',e'.len,ec',0,0,none,0,0,none,0,0⟩])) (hb:b < N)
 (h1:i64ok k1) (h2:i64ok k2) (h3:n1.size≤maxLen∧n2.size≤maxLen) (he:ESl w N eA e.len e) (he':ESl w N eA' e'.len e'):SSl w N (some ⟨b,0,none⟩) 2 (.cons k1 n1 e 0 0 .nil .nil (.cons k2 n2 e' 0 0 .nil .nil .nil)):=by
 obtain ⟨-,f1,be,oe,a1,e1⟩:=he
 obtain ⟨-,f2,be2,oe2,a2,e2⟩:=he'
 have z:i64ok 0:=by unfold i64ok;omega
 have fz:∀ k,Fits 0 k:=fun k=>by unfold Fits;omega
 obtain ⟨p1,p2⟩:=hr.sub 0 7 (by simp [rowsL])
 obtain ⟨p3,p4⟩:=hr.sub 7 7 (by simp [rowsL])
 refine ⟨rfl,by unfold Fits;omega,b,0,fun _=>rfl,hb,h1,z,z,h3.1,⟨eA,ec,none,0,none,0,be,oe,0,0,0,0,p1,p2,f1,fz _,fz _,a1,fun h=>absurd h (by simp [SF.len]),fun h=>absurd h (by simp [SF.len]),e1,trivial,trivial⟩,hb,h2,z,z,h3.2,⟨eA',ec',none,0,none,0,be2,oe2,0,0,0,0,p3,p4,f2,fz _,fz _,a2,fun h=>absurd h (by simp [SF.len]),fun h=>absurd h (by simp [SF.len]),e2,trivial,trivial⟩,trivial⟩
theorem m32_nil (w:World) (N:Nat):M32 w N ⟨none,0,0⟩ []:=⟨rfl,fun x hx=>by simp at hx,0,0,fun h=>absurd h zb86,fun h=>absurd h zb86⟩
theorem M32.of_own {w:World} {base:Nat} {s:Sl3} {l:List Int} (h:w.ownsRow base 21 1 s.v s.n (mems l)) (hl:∀ x ∈ l,i32ok x):M32 w w.heap.size s l:=(I32S.of_own h).words hl
abbrev A1:Array Value:=#[.int .i64 0,.int .i64 7,.string ⟨#[]⟩,.slice none 0 0,.int .i64 0,.int .i64 0,.string ⟨#[]⟩,.slice none 0 0]
set_option maxRecDepth 100000 in
theorem told16_any (w:World) (hL:LaidAt w) (hO:OpsAt w):Calls Tryz.prog 13 #[] w fun e w'=>e=.returned (.bool true)∧Ext w w':=by
 have HL:=J hL
 have HO:=J hO
 clear hL hO
 go_enter Tryz.func13,Tryz.ntmps13
 go_upto_region 1 with (fail)
 go_wp2_with fail
 refine (small_raw _).mono ?_
 rintro e w1 ⟨y1,rfl,hb⟩
 have HY1:=J y1
 have HSB:=J hb
 have HN1:=J (show w.heap.size+7≤w1.heap.size by have:=hb.b6.lt;omega)
 clear y1 hb
 generalize hn:(w:World).heap.size=n at HSB HN1 ⊢
 have HN:=J hn
 clear hn
 have y2:=(kR (fun _=>False) w1).alloc (.cells (smallC n).cells 26)
 have bp:=bN w1 26 (smallC n).cells
 go_upto_region 2 with (fail)
 generalize (w1.alloc (.cells (smallC n).cells 26))=w2 at y2 bp ⊢
 generalize hpb:(w1:World).heap.size=pb at bp HN1 ⊢
 have HBP:=J bp
 have HY2:=J (HY1.out.trans y2)
 have b2:=bX HSB.out.b2 y2
 have b3:=bX HSB.out.b3 y2
 have b4:=bX HSB.out.b4 y2
 have b5:=bX HSB.out.b5 y2
 have b6:=bX HSB.out.b6 y2
 have HB:=J (show SmallB w2 n from ⟨b2,b3,b4,b5,b6⟩)
 clear bp y2 b2 b4 b5 b6 hpb
 have i1:=bC HBP.out
 have i2:=HBP.out.lt
 have i3:=bC b3
 have i4:=Blk.frozen b3
 have i5:=b3.lt
 go_upto_region 3 with (fail)
 have ks:Kept (·=n+1+1+1) w2 (w2.setCell ⟨n+1+1+1,3,none⟩ (.int .i64 3)):=Kept.setCell (S:=(·=n+1+1+1)) (kR _ w2) ⟨n+1+1+1,3,none⟩ (.int .i64 3) (fun _=>rfl)
 have HV3:=J (show Blk (w2.setCell ⟨n+1+1+1,3,none⟩ (.int .i64 3)) (n+1+1+1) 66 #[.string sA,.int .i64 0,.int .i64 0,.int .i64 3,.string sL,.int .i64 3,.int .i64 0,.int .i64 1] from Blk.set_ b3 3 _)
 have hp3:=bK HBP.out ks (by have:=HN1.out;omega)
 have HB2:=J (bK HB.out.b2 ks zb85)
 have HB4:=J (bK HB.out.b4 ks zb85)
 have HB5:=J (bK HB.out.b5 ks zb85)
 have HB6:=J (bK HB.out.b6 ks zb85)
 have HK3:=J ks
 clear ks i1 i2 i3 i4 i5 b3
 generalize (w2.setCell ⟨n+1+1+1,3,none⟩ (.int .i64 3))=w3 at hp3 HV3 HB2 HB4 HB5 HB6 HK3 ⊢
 have HP3:=J hp3
 clear hp3
 have i1:=bC HP3.out
 have i2:=HP3.out.lt
 have i3:=Blk.frozen HP3.out
 obtain ⟨q,hq⟩:∃ q,q=w3.heap.size:=⟨_,rfl⟩
 have HQ:=J (show pb < q∧n+7≤pb by have:=HN1.out;omega)
 obtain ⟨X4,hX4⟩:∃ X4,X4=(((w3.alloc (.cells A1 84)).alloc (.cells (A2 q) 84)).alloc (.cells (A3 q) 84)).alloc (.cells (A4 q) 86):=⟨_,rfl⟩
 have y4:Ext w3 X4:=by rw [hX4];exact ((((kR _ w3).alloc _).alloc _).alloc _).alloc _
 have e1:Blk X4 q 84 A1:=by rw [hX4,hq];exact (((bN w3 _ _).alloc _).alloc _).alloc _
 have e2:Blk X4 (q+1) 84 (A2 q):=by rw [hX4];exact ((Blk.new' _ _ _ _ (by simp [hq])).alloc _).alloc _
 have e3:Blk X4 (q+1+1) 84 (A3 q):=by rw [hX4];exact (Blk.new' _ _ _ _ (by simp [hq])).alloc _
 have e4:Blk X4 (q+1+1+1) 86 (A4 q):=by rw [hX4];exact Blk.new' _ _ _ _ (by simp [hq])
 have HX4:=J hX4
 have HE:=J (And.intro e1 (And.intro e2 (And.intro e3 e4)))
 have HY4:=J y4
 have HQQ:=J hq
 clear hX4 e1 e2 e3 e4 y4 hq i1 i2 i3
 go_step
 iterate 10 refine qls ?_
 rw [← HQQ.out]
 rw [← HX4.out]
 have hp4:=HP3.out.ext HY4.out
 have i1:=bC hp4
 have i2:=hp4.lt
 have i3:=Blk.frozen hp4
 have HP4:=J hp4
 clear hp4
 go_upto_region 4 with (fail)
 have ks:Kept (·=pb) X4 (X4.setCell ⟨pb,4,none⟩ (.slice (some ⟨q+1+1+1,0,none⟩) 1 1)):=Kept.setCell (S:=(·=pb)) (kR _ X4) ⟨pb,4,none⟩ _ (fun _=>rfl)
 have HP5:=J (show Blk (X4.setCell ⟨pb,4,none⟩ (.slice (some ⟨q+1+1+1,0,none⟩) 1 1)) pb 26 (Pc.cells { smallC n with start:=⟨some ⟨q+1+1+1,0,none⟩,1,1⟩ }) from Blk.set_ HP4.out 4 _)
 have HK5:=J ks
 clear ks i1 i2 i3
 generalize (X4.setCell ⟨pb,4,none⟩ (.slice (some ⟨q+1+1+1,0,none⟩) 1 1))=w5 at HP5 HK5 ⊢
 obtain ⟨r,hr⟩:∃ r,r=w5.heap.size:=⟨_,rfl⟩
 obtain ⟨X6,hX6⟩:∃ X6,X6=(w5.alloc (.cells B1 84)).alloc (.cells (B2 r) 86):=⟨_,rfl⟩
 have y6:Ext w5 X6:=by rw [hX6];exact ((kR _ w5).alloc _).alloc _
 have e1:Blk X6 r 84 B1:=by rw [hX6,hr];exact (bN w5 _ _).alloc _
 have e2:Blk X6 (r+1) 86 (B2 r):=by rw [hX6];exact Blk.new' _ _ _ _ (by simp [hr])
 have HX6:=J hX6
 have HE6:=J (And.intro e1 e2)
 have HY6:=J y6
 have HRR:=J hr
 have HRL:=J (show q+1+1+1 < r by have h1:=HE.out.2.2.2.lt;have h2:=HK5.out.size;omega)
 clear hX6 e1 e2 y6 hr
 go_step
 iterate 5 refine qls ?_
 rw [← HRR.out]
 rw [← HX6.out]
 have hp6:=HP5.out.ext HY6.out
 have i1:=bC hp6
 have i2:=hp6.lt
 have i3:=Blk.frozen hp6
 iterate 2 refine qls ?_
 have HP6:=J hp6
 have HK6:=J (show Kept (fun i=>i=n+1+1+1 ∨ i=pb) w2 X6 from ((HK3.out.mono (fun _ _ e=>Or.inl e)).trans (Kept.ext HY4.out)).trans ((HK5.out.mono (fun _ _ e=>Or.inr e)).trans (Kept.ext HY6.out)))
 have HZ6:=J (show X6.heap.size=r+1+1 by rw [HX6.out];simp [HRR.out])
 have hP6:SSl X6 (r+1) (some ⟨n+1+1+1+1+1+1,0,none⟩) 1 smallPays:=by
  have h6:=bX (bK (HB6.out.ext HY4.out) HK5.out (by have:=HQ.out;omega)) HY6.out
  have h5:=bX (bK (HB5.out.ext HY4.out) HK5.out (by have:=HQ.out;omega)) HY6.out
  have:=HQ.out
  have:=HRL.out
  exact sf_one (e:=e0F) (l:=.nil) (x:=.nil) h6 zb85 (ok64 zb84) (ok64 zb84) (ok64 zb84) (name_ok _ zb84) (ef_one (k:=.nil) h5 zb85 (ok64 zb84) (ok64 zb84) (name_ok _ zb84) (ESl.nil _ _ _)) (SSl.nil _ _ _) (SSl.nil _ _ _)
 have hE6:ESl X6 (r+1) (some ⟨r,0,none⟩) 2 tE4:=ef_two (k:=.nil) (k':=.nil) HE6.out.1 zb85 (ok64 zb84) (ok64 zb84) (name_ok _ zb84) (ESl.nil _ _ _) (ok64 zb84) (ok64 zb84) (name_ok _ zb84) (ESl.nil _ _ _)
 have h66:=bX (bK (HB6.out.ext HY4.out) HK5.out (by have:=HQ.out;omega)) HY6.out
 have own:X6.ownsRow (r+1) 86 7 (.slice (some ⟨r+1,0,none⟩) 1 1) 1 (rowsL Sc.cells [(⟨8,E0,some ⟨r,0,none⟩,2,2,0,0,none,0,0,none,0,0⟩:Sc)]):=⟨by simp [rowsL],.inr ⟨r+1,1,B2 r,rfl,Nat.le_refl _,HE6.out.2,by omega,by unfold maxLen;omega,by simp,by simp [rowsL,E0]⟩⟩
 obtain ⟨v',w7,hrun,ho7,hk7,-⟩:=appA (f:=Sc.cells) elemStmtR (fun _=>rfl) (fun _=>rfl) X6 (r+1) (.slice (some ⟨r+1,0,none⟩) 1 1) 1 [(⟨8,E0,some ⟨r,0,none⟩,2,2,0,0,none,0,0,none,0,0⟩:Sc)] own (some ⟨n+1+1+1+1+1+1,0,none⟩) 1 1 [(⟨9,E0,some ⟨n+1+1+1+1+1,0,none⟩,1,1,0,0,none,0,0,none,0,0⟩:Sc)] rfl (fun h=>nomatch h) (fun _=>⟨_,0,rfl,by have h:=Row.of_blk h66;simpa [rowsL] using h⟩) zb85 (by have:=HZ6.out;omega)
 obtain ⟨g,c',rfl,hrow,hgb,-⟩:=own_rows ho7 zb85 zb85
 have HROW:=J hrow
 have HGB:=J hgb
 have HK7:=J (show Kept (·=r+1) X6 w7 from hk7.mono (fun i _ h=>by
  have:some (r+1)=some i:=h
  injection this with e
  exact e.symm))
 clear own ho7 hk7 hrow hgb h66 hP6 hE6
 refine wpList_app rfl (.tmp 28) (.tmp 30) 24 rfl rfl rfl rfl hrun ?_
 clear hrun i1 i2 i3 hp6
 have hp7:=bK HP6.out HK7.out (by have:=HRL.out;have:=HQ.out;omega)
 have i1:=bC hp7
 have i2:=hp7.lt
 have i3:=Blk.frozen hp7
 have HP7:=J hp7
 clear hp7
 go_upto_region 5 with (fail)
 have ks:Kept (·=pb) w7 (w7.setCell ⟨pb,10,none⟩ (.slice (some ⟨g,0,none⟩) 2 c')):=Kept.setCell (S:=(·=pb)) (kR _ w7) ⟨pb,10,none⟩ _ (fun _=>rfl)
 have HP8:=J (show Blk (w7.setCell ⟨pb,10,none⟩ (.slice (some ⟨g,0,none⟩) 2 c')) pb 26 (Pc.cells { smallC n with start:=⟨some ⟨q+1+1+1,0,none⟩,1,1⟩,pays:=⟨some ⟨g,0,none⟩,2,c'⟩ }) from Blk.set_ HP7.out 10 _)
 have HK8:=J ks
 clear ks i1 i2 i3
 generalize (w7.setCell ⟨pb,10,none⟩ (.slice (some ⟨g,0,none⟩) 2 c'))=w8 at HP8 HK8 ⊢
 have hPA:PAt w8 w8.heap.size { smallC n with start:=⟨some ⟨q+1+1+1,0,none⟩,1,1⟩,pays:=⟨some ⟨g,0,none⟩,2,c'⟩ } toldP:=by
  have q1:=HQ.out
  have q2:=HRL.out
  have q3:=HGB.out
  have up6:∀ {i t cs},Blk X4 i t cs→¬ i=pb→i < r→Blk w8 i t cs:=fun h h1 h2=>bK (bK (bX (bK h HK5.out h1) HY6.out) HK7.out zb85) HK8.out h1
  have up3:∀ {i t cs},Blk w3 i t cs→¬ i=pb→i < r→Blk w8 i t cs:=fun h h1 h2=>up6 (h.ext HY4.out) h1 h2
  have upx:∀ {i t cs},Blk X6 i t cs→¬ i=pb→¬ i=r+1→Blk w8 i t cs:=fun h h1 h2=>bK (bK h HK7.out h2) HK8.out h1
  have s2:=up3 HB2.out zb85 zb85
  have s3:=up3 HV3.out zb85 zb85
  have s4:=up3 HB4.out zb85 zb85
  have s5:=up3 HB5.out zb85 zb85
  obtain ⟨f1,f2,f3,f4⟩:=HE.out
  have t1:=up6 f1 zb85 zb85
  have t2:=up6 f2 zb85 zb85
  have t3:=up6 f3 zb85 zb85
  have t4:=up6 f4 zb85 zb85
  have u1:=upx HE6.out.1 zb85 zb85
  have hr8:=HROW.out.kept HK8.out zb85
  have z1:=t4.lt
  have z2:=u1.lt
  have z3:=hr8.lt
  have hE1:ESl w8 w8.heap.size (some ⟨q,0,none⟩) 2 tE1:=ef_two (k:=.nil) (k':=.nil) t1 zb85 (ok64 zb84) (ok64 zb84) (name_ok _ zb84) (ESl.nil _ _ _) (ok64 zb84) (ok64 zb84) (name_ok _ zb84) (ESl.nil _ _ _)
  have hE2:ESl w8 w8.heap.size (some ⟨q+1,0,none⟩) 2 tE2:=ef_two (k:=tE1) (k':=.nil) t2 zb85 (ok64 zb84) (ok64 zb84) (name_ok _ zb84) hE1 (ok64 zb84) (ok64 zb84) (name_ok _ zb84) (ESl.nil _ _ _)
  have hE3:ESl w8 w8.heap.size (some ⟨q+1+1,0,none⟩) 1 tE3:=ef_one (k:=tE2) t3 zb85 (ok64 zb84) (ok64 zb84) (name_ok _ zb84) hE2
  have hE4:ESl w8 w8.heap.size (some ⟨r,0,none⟩) 2 tE4:=ef_two (k:=.nil) (k':=.nil) u1 zb85 (ok64 zb84) (ok64 zb84) (name_ok _ zb84) (ESl.nil _ _ _) (ok64 zb84) (ok64 zb84) (name_ok _ zb84) (ESl.nil _ _ _)
  have hE5:ESl w8 w8.heap.size (some ⟨n+1+1+1+1+1,0,none⟩) 1 e0F:=ef_one (k:=.nil) s5 zb85 (ok64 zb84) (ok64 zb84) (name_ok _ zb84) (ESl.nil _ _ _)
  refine ⟨rfl,name_ok _ zb84,rfl,ok64 zb84,⟨rfl,show Fits 2 8 by unfold Fits;omega,?_,n+1+1,0,fun _=>rfl,fun _=>⟨by omega,Row.of_blk s2⟩⟩,⟨rfl,show Fits 2 40 by unfold Fits;omega,?_,n+1+1+1,0,fun _=>rfl,fun _=>⟨by omega,Row.of_blk s3⟩⟩,
   sf_one (e:=tE3) (l:=.nil) (x:=.nil) t4 zb85 (ok64 zb84) (ok64 zb84) (ok64 zb84) (name_ok _ zb84) hE3 (SSl.nil _ _ _) (SSl.nil _ _ _),
   sf_one (e:=.nil) (l:=.nil) (x:=.nil) s4 zb85 (ok64 zb84) (ok64 zb84) (ok64 zb84) (name_ok _ zb84) (ESl.nil _ _ _) (SSl.nil _ _ _) (SSl.nil _ _ _),VSl.nil _ _ _,SSl.nil _ _ _,rfl,name_ok _ zb84,SSl.nil _ _ _,?_⟩
  ·intro v hv
   have:v=1:=by simpa [toldP] using hv
   subst this
   exact ok64 zb84
  ·intro v hv
   have:v=⟨sA,0,0,3⟩ ∨ v=⟨sL,3,0,1⟩:=by simpa [toldP] using hv
   rcases this with rfl | rfl <;> exact ⟨name_ok _ zb84,ok64 zb84,ok64 zb84,ok64 zb84⟩
  ·exact sf_two (e:=tE4) (e':=e0F) hr8 zb85 (ok64 zb84) (ok64 zb84) ⟨name_ok _ zb84,name_ok _ zb84⟩ hE4 hE5
 have HPA:=J hPA
 have HY8:=J (show Ext w w8 from HY2.out.trans' (HK6.out.trans' ((HK7.out.mono (fun _ _ e=>Or.inl e)).trans (HK8.out.mono (fun _ _ e=>Or.inr e))) (S':=fun i=>i=r+1 ∨ i=pb) (fun i hi e=>by have h1:=HQ.out;have h2:=HRL.out;have h3:=HK3.out.size;have h4:=HY4.out.size;have h5:=HQQ.out;omega)) (fun i hi e=>by have h1:=HN.out;have h2:=HN1.out;omega))
 have i1:=bH HP8.out
 have i2:=bG HP8.out
 have i3:=HP8.out.lt
 clear hPA
 go_wp2_with fail
 refine (of_any _ toldP _ w8 (Nat.le_refl _) HPA.out).mono ?_
 rintro e w9 ⟨y9,c9,rfl,hp9⟩
 clear i1 i2 i3
 have HY9:=J (HY8.out.trans y9)
 have HP9:=J hp9
 have HL9:=J (HL.out.ext HY9.out)
 clear y9 hp9
 go_wp2_with fail
 refine (compile_any c9 toldP _ w9 HL9.out.lt (Nat.le_refl _) HP9.out HL9.out zb84).mono ?_
 rintro e w10 ⟨y10,ho⟩
 have HY10:=J (HY9.out.trans y10)
 clear y10
 cases ho with
 | bad f h=>rw [toldP_ok] at h;cases h
 | long h hl=>have:=(longB_iff _).2 hl;rw [toldP_long] at this;cases this
 | steps h hl hs=>obtain ⟨i,hi,e⟩:=hs;have:=toldP_steps i hi;omega
 | ok h hl hs cb k hc =>
  have HC:=J hc
  have HNL:=J hl
  have HST:=J hs
  have HCK:=J (Chk.of toldP_ok zb84)
  have HO10:=J (HO.out.ext HY10.out)
  clear h hl hs hc
  go_wp2_with fail
  refine (crun_any cb _ k toldP 0 ⟨none,0,0⟩ ⟨none,0,0⟩ [] [] w10 (Nat.le_refl _) HC.out (m32_nil _ _) (m32_nil _ _) HCK.out HNL.out HST.out HO10.out).mono ?_
  rintro e w11 ⟨y11,ho⟩
  have HY11:=J y11
  clear y11
  cases ho with
  | bad h=>exact absurd toldP_fits0 h
  | runs K hK h hh =>
   have hK0:K=0:=by omega
   subst hK0
   rw [toldP_run0.2] at hh
   cases hh
  | ok K hK h hh v hv =>
   have hK0:K=0:=by omega
   subst hK0
   have hv1:=hv.vars
   rw [toldP_out0] at hv1
   have HV1:=J hv1
   clear hv hv1 h hh hK
   have y12:=(kR (fun _=>False) w11).alloc (.cells v.c 38)
   have b12:=bN w11 38 v.c
   go_upto_region 9 with (fail)
   generalize (w11.alloc (.cells v.c 38))=w12 at y12 b12 ⊢
   generalize w11.heap.size=ob at b12 ⊢
   have HY12:=J y12
   have HB12:=J b12
   clear y12 b12
   have y13:=(kR (fun _=>False) w12).alloc (.cells #[.int .i32 3,.int .i32 0,.int .i32 0,.int .i32 0] 21)
   have b13:=bN w12 21 #[.int .i32 3,.int .i32 0,.int .i32 0,.int .i32 0]
   go_wp2_with fail
   generalize (w12.alloc (.cells #[.int .i32 3,.int .i32 0,.int .i32 0,.int .i32 0] 21))=w13 at y13 b13 ⊢
   generalize w12.heap.size=vb at b13 ⊢
   have HY13b:=J y13
   have HY13:=J (HY12.out.trans y13)
   have HV13:=J (show M32 w13 w13.heap.size ⟨some ⟨vb,0,none⟩,4,4⟩ [3,0,0,0] from ⟨rfl,fun x hx=>by simp at hx;unfold i32ok;omega,vb,0,fun _=>rfl,fun _=>⟨b13.lt,Row.of_blk b13⟩⟩)
   have HE13:=J (HY11.out.trans HY13.out)
   clear y13 b13
   refine (crun_any cb w13.heap.size k toldP 4 ⟨some ⟨vb,0,none⟩,4,4⟩ ⟨none,0,0⟩ [3,0,0,0] [] w13 (Nat.le_refl _) ((HC.out.ext HE13.out).up HE13.out.size (Nat.le_refl _)) HV13.out (m32_nil _ _) HCK.out HNL.out HST.out (HO10.out.ext HE13.out)).mono ?_
   rintro e w14 ⟨y14,ho⟩
   have HY14:=J y14
   clear y14
   cases ho with
   | bad h=>exact absurd toldP_fits4 h
   | runs K hK h hh =>
    have hK0:K=4:=by omega
    subst hK0
    rw [toldP_run4] at hh
    cases hh
   | ok K hK h hh u hu =>
    have hK0:K=4:=by omega
    subst hK0
    have hu1:=hu.asks
    rw [toldP_out4] at hu1
    have HU1:=J hu1
    clear hu hu1 h hh hK
    have y15:=(kR (fun _=>False) w14).alloc (.cells u.c 38)
    have b15:=bN w14 38 u.c
    go_upto_region 10 with (fail)
    generalize (w14.alloc (.cells u.c 38))=w15 at y15 b15 ⊢
    generalize w14.heap.size=ub at b15 ⊢
    have HY14b:=J y15
    have HY15:=J (HY14.out.trans y15)
    have HB15:=J b15
    clear y15 b15
    have i1:=bC (HB12.out.ext (HY13b.out.trans HY15.out))
    have i2:=(HB12.out.ext (HY13b.out.trans HY15.out)).lt
    have y16:=(kR (fun _=>False) w15).alloc (.cells #[.int .i32 3,.int .i32 0,.int .i32 0,.int .i32 0] 21)
    have b16:=bN w15 21 #[.int .i32 3,.int .i32 0,.int .i32 0,.int .i32 0]
    go_wp2_with fail
    generalize (w15.alloc (.cells #[.int .i32 3,.int .i32 0,.int .i32 0,.int .i32 0] 21))=w16 at y16 b16 ⊢
    generalize w15.heap.size=ab at b16 ⊢
    have HY16f:=J y16
    have HY16:=J (HY15.out.trans y16)
    have HX16:=J (HY13.out.trans HY16.out)
    have hs:=rsame32_any v.vars ⟨some ⟨ab,0,none⟩,4,4⟩ [3,0,0,0] [3,0,0,0] _ _ w16 (M32.of_own (own_ext HV1.out HX16.out) (fun x hx=>by simp at hx;unfold i32ok;omega)) (show M32 w16 w16.heap.size _ _ from ⟨rfl,fun x hx=>by simp at hx;unfold i32ok;omega,ab,0,fun _=>rfl,fun _=>⟨b16.lt,Row.of_blk b16⟩⟩) zb84
    clear i1 i2 y16 b16
    refine hs.mono ?_
    clear hs
    rintro e w17 ⟨rfl,y17⟩
    have HY17f:=J (HY16f.out.trans y17)
    have HY17:=J (HY16.out.trans y17)
    clear y17
    have i1:=bC (HB15.out.ext HY17f.out)
    have i2:=(HB15.out.ext HY17f.out).lt
    have y18:=(kR (fun _=>False) w17).alloc (.cells #[.int .i32 4,.int .i32 0] 21)
    have b18:=bN w17 21 #[.int .i32 4,.int .i32 0]
    go_wp2_with fail
    generalize (w17.alloc (.cells #[.int .i32 4,.int .i32 0] 21))=w18 at y18 b18 ⊢
    generalize w17.heap.size=db at b18 ⊢
    have HY18:=J (HY17.out.trans y18)
    have HX18:=J (HY14b.out.trans (HY17f.out.trans y18))
    have hs:=rsame32_any u.asks ⟨some ⟨db,0,none⟩,2,2⟩ [4,0] [4,0] _ _ w18 (M32.of_own (own_ext HU1.out HX18.out) (fun x hx=>by simp at hx;unfold i32ok;omega)) (show M32 w18 w18.heap.size _ _ from ⟨rfl,fun x hx=>by simp at hx;unfold i32ok;omega,db,0,fun _=>rfl,fun _=>⟨b18.lt,Row.of_blk b18⟩⟩) zb84
    clear i1 i2 y18 b18
    refine hs.mono ?_
    clear hs
    rintro e w19 ⟨rfl,y19⟩
    have HY19:=J (HY18.out.trans y19)
    clear y19
    go_wp2_with fail
    go_ret
    exact ⟨rfl,HY10.out.trans (HE13.out.trans HY19.out)⟩
open Go.RowKit So Mc
theorem field_fault (w:World) (a:Int) (s:Str):(Instr.field 60 (.agg #[.int .i64 a,.string s]) 0).run Tryz.prog w=.ok (.int .i64 a) w:=by kernel_rfl
attribute [go_sem] field_fault
end Go.Proofs.YtbfbabbcdochjaaGreatDoor
