/- Several texts joined: Jv, Jw, Cr. -/
import Derived.Test.YtbfbabbcdochjaaGreatDoorRmpk
import Derived.Test.YtbfbabbcdochjaaGreatDoorRmas
import Derived.Test.YtbfbabbcdochjaaGreatDoorRmbh
set_option maxHeartbeats 4000000
set_option maxRecDepth 100000
open Go.Proofs.Tryz
namespace Go.Proofs.YtbfbabbcdochjaaGreatDoor
open Go.RowKit So Mc
structure WK (w:World) (n:Nat):Prop where
 b2:aH w (n+1+1) 3 #[.int .i64 1,.int .i64 1]
 b3:aH w (n+1+1+1) 66 #[.string sA,.int .i64 0,.int .i64 0,.int .i64 1,.string sL,.int .i64 3,.int .i64 0,.int .i64 1]
 b4:aH w (n+1+1+1+1) 86 (aB 7 E0 none 0 0 0 0 none 0 0 none 0 0)
 b5:aH w (n+1+1+1+1+1) 84 (aI 0 0 E0 none 0 0)
 b6:aH w (n+1+1+1+1+1+1) 86 (aB 9 E0 (some ⟨n+1+1+1+1+1,0,none⟩) 1 1 0 0 none 0 0 none 0 0)
theorem U1 (w:World):Calls prog 33 #[] w λe w'=>Ext w w'/\e=.returned (.agg (pV w.heap.size).cells)/\WK w' w.heap.size:=by
 go_enter func33,ntmps33;go_upto_region 2 with(fail);go_wp2_with fail;obtain⟨W,hW⟩:∃W,W=((((((w.alloc (.cells (pV w.heap.size).cells 26)).alloc (.cells (aI 0 0 E0 none 0 0) 84)).alloc (.cells #[.int .i64 1,.int .i64 1] 3)).alloc (.cells #[.string sA,.int .i64 0,.int .i64 0,.int .i64 1,.string sL,.int .i64 3,.int .i64 0,.int .i64 1] 66)).alloc (.cells (aB 7 E0 none 0 0 0 0 none 0 0 none 0 0) 86)).alloc (.cells (aI 0 0 E0 none 0 0) 84)).alloc (.cells (aB 9 E0 (some ⟨w.heap.size+1+1+1+1+1,0,none⟩) 1 1 0 0 none 0 0 none 0 0) 86):=⟨_,rfl⟩;have hx:Ext w W:=by rw [hW];exact(((((((kR _ w).alloc _).alloc _).alloc _).alloc _).alloc _).alloc _).alloc _
 have b0:aH W w.heap.size 26 (pV w.heap.size).cells:=by rw [hW];exact((((((bN w _ _).alloc _).alloc _).alloc _).alloc _).alloc _).alloc _
 have b2:aH W (w.heap.size+1+1) 3 #[.int .i64 1,.int .i64 1]:=by rw [hW];exact((((aH.new' _ _ _ _ aG).alloc _).alloc _).alloc _).alloc _
 have b3:aH W (w.heap.size+1+1+1) 66 #[.string sA,.int .i64 0,.int .i64 0,.int .i64 1,.string sL,.int .i64 3,.int .i64 0,.int .i64 1]:=by rw [hW];exact(((aH.new' _ _ _ _ aG).alloc _).alloc _).alloc _
 have b4:aH W (w.heap.size+1+1+1+1) 86 (aB 7 E0 none 0 0 0 0 none 0 0 none 0 0):=by rw [hW];exact((aH.new' _ _ _ _ aG).alloc _).alloc _
 have b5:aH W (w.heap.size+1+1+1+1+1) 84 (aI 0 0 E0 none 0 0):=by rw [hW];exact(aH.new' _ _ _ _ aG).alloc _
 have b6:aH W (w.heap.size+1+1+1+1+1+1) 86 (aB 9 E0 (some ⟨w.heap.size+1+1+1+1+1,0,none⟩) 1 1 0 0 none 0 0 none 0 0):=by rw [hW];exact aH.new' _ _ _ _ aG
 have hsz:w.heap.size+7<=W.heap.size:=by have:=b6.lt;omega
 show bodyPost _ _ _ _ _ (((((((w.alloc (.cells (pV w.heap.size).cells 26)).alloc (.cells (aI 0 0 E0 none 0 0) 84)).alloc (.cells #[.int .i64 1,.int .i64 1] 3)).alloc (.cells #[.string sA,.int .i64 0,.int .i64 0,.int .i64 1,.string sL,.int .i64 3,.int .i64 0,.int .i64 1] 66)).alloc (.cells (aB 7 E0 none 0 0 0 0 none 0 0 none 0 0) 86)).alloc (.cells (aI 0 0 E0 none 0 0) 84)).alloc (.cells (aB 9 E0 (some ⟨w.heap.size+1+1+1+1+1,0,none⟩) 1 1 0 0 none 0 0 none 0 0) 86));rw [<-hW];exact fD results33 rfl rfl xM (by exact vE) b0 ⟨hx,rfl,b2,b3,b4,b5,b6⟩
def tE1:EF:=.cons 0 7 E0 .nil (.cons 0 0 E0 .nil .nil)
def tE2:EF:=.cons 6 0 E0 tE1 (.cons 0 5 E0 .nil .nil)
def tE3:EF:=.cons 8 0 E0 tE2 .nil
def tE4:EF:=.cons 0 9 E0 .nil (.cons 0 4 E0 .nil .nil)
def G_:SF:=.cons 9 E0 e0F 0 0 .nil .nil .nil
def jY:Pr:=⟨sG,2,[1,1],[⟨sA,0,0,3⟩,⟨sL,3,0,1⟩],.cons 0 sA tE3 0 0 .nil .nil .nil,aeL,[],.nil,sW,.nil,.cons 8 E0 tE4 0 0 .nil .nil G_⟩
theorem MB:check jY=none:=by kernel_rfl
theorem Qz:vV jY=false:=by kernel_rfl
theorem MC:∀i,i<5->bB jY i<=65536:=by decide
theorem Mw:dO jY 0 [] []=0:=by kernel_rfl
theorem Mx:dO jY 4 [3,0,0,0] []=0:=by kernel_rfl
theorem QC:iJ jY 0 [] []=iJ jY 0 [] []/\(iJ jY 0 [] []).2.1=1:=⟨rfl,by kernel_rfl⟩
theorem QD:(iJ jY 4 [3,0,0,0] []).2.1=1:=by kernel_rfl
theorem QA:(tu jY 0 (iJ jY 0 [] []).2.1 (iJ jY 0 [] []).2.2).vars=[3,0,0,0]:=by kernel_rfl
theorem QB:(tu jY 4 (iJ jY 4 [3,0,0,0] []).2.1 (iJ jY 4 [3,0,0,0] []).2.2).asks=[4,0]:=by kernel_rfl
abbrev A2 (q:Nat):Array Value:=#[.int .i64 6,.int .i64 0,.string ⟨#[]⟩,.slice (some ⟨q,0,none⟩) 2 2,.int .i64 0,.int .i64 5,.string ⟨#[]⟩,.slice none 0 0]
abbrev A3 (q:Nat):Array Value:=#[.int .i64 8,.int .i64 0,.string ⟨#[]⟩,.slice (some ⟨q+1,0,none⟩) 2 2]
abbrev A4 (q:Nat):Array Value:=#[.int .i64 0,.string ⟨#[97]⟩,.slice (some ⟨q+1+1,0,none⟩) 1 1,.int .i64 0,.int .i64 0,.slice none 0 0,.slice none 0 0]
abbrev B1:Array Value:=#[.int .i64 0,.int .i64 9,.string ⟨#[]⟩,.slice none 0 0,.int .i64 0,.int .i64 4,.string ⟨#[]⟩,.slice none 0 0]
abbrev B2 (q:Nat):Array Value:=#[.int .i64 8,.string ⟨#[]⟩,.slice (some ⟨q,0,none⟩) 2 2,.int .i64 0,.int .i64 0,.slice none 0 0,.slice none 0 0]
theorem Ih {w:World} {N b:Nat} {t:TypeId} {op n:Int} {name:Str} {A:Option Addr} {cap:Nat} {k:EF} {op' n':Int} {name':Str} {A':Option Addr} {cap':Nat} {k':EF} (hB:aH w b t #[.int .i64 op,.int .i64 n,.string name,.slice A k.len cap,.int .i64 op',.int .i64 n',.string name',.slice A' k'.len cap']) (hb:b<N)
 (h1:aL op) (h2:aL n) (h3:name.size<=maxLen) (hk:g_ w N A k.len k) (h1':aL op') (h2':aL n') (h3':name'.size<=maxLen) (hk':g_ w N A' k'.len k'):g_ w N (some ⟨b,0,none⟩) 2 (.cons op n name k (.cons op' n' name' k' .nil)):=by
 obtain⟨-,hf,b1,off1,hA,hE⟩:=hk;obtain⟨-,hf',b2,off2,hA',hE'⟩:=hk';refine⟨rfl,by unfold Fits;omega,b,0,λ_=>rfl,hb,h1,h2,h3,⟨A,cap,b1,off1,?_,?_,hf,hA,hE⟩,hb,h1',h2',h3',⟨A',cap',b2,off2,?_,?_,hf',hA',hE'⟩,trivial⟩
 ·rw [bH hB];simp
 ·rw [bG hB];rfl
 ·rw [bH hB];simp
 ·rw [bG hB];rfl
theorem aeJ {w:World} {N b:Nat} {k1 k2:Int} {n1 n2:Str} {e e':EF} {eA eA':Option Addr} {ec ec':Nat} (hr:Row w b 0 (aR Sc.cells [(⟨k1,n1,eA,e.len,ec,0,0,none,0,0,none,0,0⟩:Sc),⟨k2,n2,eA',e'.len,ec',0,0,none,0,0,none,0,0⟩])) (hb:b<N)
 (h1:aL k1) (h2:aL k2) (h3:n1.size<=maxLen/\n2.size<=maxLen) (he:g_ w N eA e.len e) (he':g_ w N eA' e'.len e'):iO w N (some ⟨b,0,none⟩) 2 (.cons k1 n1 e 0 0 .nil .nil (.cons k2 n2 e' 0 0 .nil .nil .nil)):=by
 obtain⟨-,f1,be,oe,a1,e1⟩:=he;obtain⟨-,f2,be2,oe2,a2,e2⟩:=he';have z:aL 0:=by unfold aL;omega
 have fz:∀k,Fits 0 k:=λk=>by unfold Fits;omega
 obtain⟨p1,p2⟩:=hr.sub 0 7 (by simp [aR]);obtain⟨p3,p4⟩:=hr.sub 7 7 (by simp [aR]);refine⟨rfl,by unfold Fits;omega,b,0,λ_=>rfl,hb,h1,z,z,h3.1,⟨eA,ec,none,0,none,0,be,oe,0,0,0,0,p1,p2,f1,fz _,fz _,a1,λh=>absurd h (by simp [SF.len]),λh=>absurd h (by simp [SF.len]),e1,trivial,trivial⟩,hb,h2,z,z,h3.2,⟨eA',ec',none,0,none,0,be2,oe2,0,0,0,0,p3,p4,f2,fz _,fz _,a2,λh=>absurd h (by simp [SF.len]),λh=>absurd h (by simp [SF.len]),e2,trivial,trivial⟩,trivial⟩
theorem rU (w:World) (N:Nat):j5 w N ⟨none,0,0⟩ []:=⟨rfl,λx hx=>by simp at hx,0,0,λh=>absurd h aG,λh=>absurd h aG⟩
theorem j5.gy {w:World} {base:Nat} {s:jg} {l:List Int} (h:w.ownsRow base 21 1 s.v s.n (aM l)) (hl:∀x∈l,au x):j5 w w.heap.size s l:=(xL.gy h).words hl
abbrev A1:Array Value:=#[.int .i64 0,.int .i64 7,.string ⟨#[]⟩,.slice none 0 0,.int .i64 0,.int .i64 0,.string ⟨#[]⟩,.slice none 0 0]
theorem kN (w:World) (hL:fG w) (hO:OpsAt w):Calls prog 13 #[] w λe w'=>e=.returned (.bool true)/\Ext w w':=by
 have HL:=J hL;have HO:=J hO;clear hL hO;go_enter func13,ntmps13;go_upto_region 1 with(fail);go_wp2_with fail;refine(U1 _).mono ?_;rintro e w1 ⟨y1,rfl,hb⟩;have dX:=J y1;have Bv:=J hb;have Bu:=J (show w.heap.size+7<=w1.heap.size by have:=hb.b6.lt;omega);clear y1 hb;generalize hn:(w:World).heap.size=n at Bv Bu⊢;have HN:=J hn;clear hn;have y2:=(kR (λ_=>False) w1).alloc (.cells (pV n).cells 26);have bp:=bN w1 26 (pV n).cells;go_upto_region 2 with(fail);generalize (w1.alloc (.cells (pV n).cells 26))=w2 at y2 bp⊢;generalize hpb:(w1:World).heap.size=pb at bp Bu⊢;have HBP:=J bp;have fH:=J (dX.out.trans y2);have b2:=bX Bv.out.b2 y2;have b3:=bX Bv.out.b3 y2;have b4:=bX Bv.out.b4 y2;have b5:=bX Bv.out.b5 y2;have b6:=bX Bv.out.b6 y2;have HB:=J (show WK w2 n from⟨b2,b3,b4,b5,b6⟩);clear bp y2 b2 b4 b5 b6 hpb;have i1:=bC HBP.out;have i2:=HBP.out.lt;have i3:=bC b3;have i4:=aH.frozen b3;have i5:=b3.lt;go_upto_region 3 with(fail);have ks:Kept (·=n+1+1+1) w2 (w2.setCell ⟨n+1+1+1,3,none⟩ (.int .i64 3)):=Kept.setCell (S:=(·=n+1+1+1)) (kR _ w2) ⟨n+1+1+1,3,none⟩ (.int .i64 3) (λ_=>rfl);have HV3:=J (show aH (w2.setCell ⟨n+1+1+1,3,none⟩ (.int .i64 3)) (n+1+1+1) 66 #[.string sA,.int .i64 0,.int .i64 0,.int .i64 3,.string sL,.int .i64 3,.int .i64 0,.int .i64 1]from aH.gW b3 3 _);have hp3:=bK HBP.out ks (by have:=Bu.out;omega);have HB2:=J (bK HB.out.b2 ks aj);have ZH:=J (bK HB.out.b4 ks aj);have nC:=J (bK HB.out.b5 ks aj);have NJ:=J (bK HB.out.b6 ks aj);have JO:=J ks;clear ks i1 i2 i3 i4 i5 b3;generalize (w2.setCell ⟨n+1+1+1,3,none⟩ (.int .i64 3))=w3 at hp3 HV3 HB2 ZH nC NJ JO⊢;have HP3:=J hp3;clear hp3;have i1:=bC HP3.out;have i2:=HP3.out.lt;have i3:=aH.frozen HP3.out;obtain⟨q,hq⟩:∃q,q=w3.heap.size:=⟨_,rfl⟩;have HQ:=J (show pb<q/\n+7<=pb by have:=Bu.out;omega);obtain⟨X4,hX4⟩:∃X4,X4=(((w3.alloc (.cells A1 84)).alloc (.cells (A2 q) 84)).alloc (.cells (A3 q) 84)).alloc (.cells (A4 q) 86):=⟨_,rfl⟩;have y4:Ext w3 X4:=by rw [hX4];exact((((kR _ w3).alloc _).alloc _).alloc _).alloc _
 have e1:aH X4 q 84 A1:=by rw [hX4,hq];exact(((bN w3 _ _).alloc _).alloc _).alloc _
 have e2:aH X4 (q+1) 84 (A2 q):=by rw [hX4];exact((aH.new' _ _ _ _ (by simp [hq])).alloc _).alloc _
 have e3:aH X4 (q+1+1) 84 (A3 q):=by rw [hX4];exact(aH.new' _ _ _ _ (by simp [hq])).alloc _
 have e4:aH X4 (q+1+1+1) 86 (A4 q):=by rw [hX4];exact aH.new' _ _ _ _ (by simp [hq])
 have fZ:=J hX4;have HE:=J (And.intro e1 (And.intro e2 (And.intro e3 e4)));have o_:=J y4;have HQQ:=J hq;clear hX4 e1 e2 e3 e4 y4 hq i1 i2 i3;go_step
 iterate 10 refine qY ?_
 rw [<-HQQ.out];rw [<-fZ.out];have uY:=HP3.out.ext o_.out;have i1:=bC uY;have i2:=uY.lt;have i3:=aH.frozen uY;have C9:=J uY;clear uY;go_upto_region 4 with(fail);have ks:Kept (·=pb) X4 (X4.setCell ⟨pb,4,none⟩ (.slice (some ⟨q+1+1+1,0,none⟩) 1 1)):=Kept.setCell (S:=(·=pb)) (kR _ X4) ⟨pb,4,none⟩ _ (λ_=>rfl);have wE:=J (show aH (X4.setCell ⟨pb,4,none⟩ (.slice (some ⟨q+1+1+1,0,none⟩) 1 1)) pb 26 (Pc.cells {pV n with start:=⟨some ⟨q+1+1+1,0,none⟩,1,1⟩})from aH.gW C9.out 4 _);have pG:=J ks;clear ks i1 i2 i3;generalize (X4.setCell ⟨pb,4,none⟩ (.slice (some ⟨q+1+1+1,0,none⟩) 1 1))=w5 at wE pG⊢;obtain⟨r,hr⟩:∃r,r=w5.heap.size:=⟨_,rfl⟩;obtain⟨X6,hX6⟩:∃X6,X6=(w5.alloc (.cells B1 84)).alloc (.cells (B2 r) 86):=⟨_,rfl⟩;have y6:Ext w5 X6:=by rw [hX6];exact((kR _ w5).alloc _).alloc _
 have e1:aH X6 r 84 B1:=by rw [hX6,hr];exact(bN w5 _ _).alloc _
 have e2:aH X6 (r+1) 86 (B2 r):=by rw [hX6];exact aH.new' _ _ _ _ (by simp [hr])
 have qj:=J hX6;have HE6:=J (And.intro e1 e2);have jc:=J y6;have HRR:=J hr;have Q8:=J (show q+1+1+1<r by have h1:=HE.out.2.2.2.lt;have h2:=pG.out.size;omega);clear hX6 e1 e2 y6 hr;go_step
 iterate 5 refine qY ?_
 rw [<-HRR.out];rw [<-qj.out];have XF:=wE.out.ext jc.out;have i1:=bC XF;have i2:=XF.lt;have i3:=aH.frozen XF
 iterate 2 refine qY ?_
 have VN:=J XF;have JQ:=J (show Kept (λi=>i=n+1+1+1∨i=pb) w2 X6 from((JO.out.mono (λ_ _ e=>Or.inl e)).trans (Kept.ext o_.out)).trans ((pG.out.mono (λ_ _ e=>Or.inr e)).trans (Kept.ext jc.out)));have HZ6:=J (show X6.heap.size=r+1+1 by rw [qj.out];simp [HRR.out])
 have hP6:iO X6 (r+1) (some ⟨n+1+1+1+1+1+1,0,none⟩) 1 G_:=by
  have h6:=bX (bK (NJ.out.ext o_.out) pG.out (by have:=HQ.out;omega)) jc.out;have h5:=bX (bK (nC.out.ext o_.out) pG.out (by have:=HQ.out;omega)) jc.out;have:=HQ.out;have:=Q8.out;exact PX (e:=e0F) (l:=.nil) (x:=.nil) h6 aj (jw ak) (jw ak) (jw ak) (gV _ ak) (OA (k:=.nil) h5 aj (jw ak) (jw ak) (gV _ ak) (g_.nil _ _ _)) (iO.nil _ _ _) (iO.nil _ _ _)
 have hE6:g_ X6 (r+1) (some ⟨r,0,none⟩) 2 tE4:=Ih (k:=.nil) (k':=.nil) HE6.out.1 aj (jw ak) (jw ak) (gV _ ak) (g_.nil _ _ _) (jw ak) (jw ak) (gV _ ak) (g_.nil _ _ _);have h66:=bX (bK (NJ.out.ext o_.out) pG.out (by have:=HQ.out;omega)) jc.out;have own:X6.ownsRow (r+1) 86 7 (.slice (some ⟨r+1,0,none⟩) 1 1) 1 (aR Sc.cells [(⟨8,E0,some ⟨r,0,none⟩,2,2,0,0,none,0,0,none,0,0⟩:Sc)]):=⟨by simp [aR],.inr ⟨r+1,1,B2 r,rfl,Nat.le_refl _,HE6.out.2,by omega,by unfold maxLen;omega,by simp,by simp [aR,E0]⟩⟩;obtain⟨v',w7,hrun,RF,ou,-⟩:=aan (f:=Sc.cells) Tw (λ_=>rfl) (λ_=>rfl) X6 (r+1) (.slice (some ⟨r+1,0,none⟩) 1 1) 1 [(⟨8,E0,some ⟨r,0,none⟩,2,2,0,0,none,0,0,none,0,0⟩:Sc)] own (some ⟨n+1+1+1+1+1+1,0,none⟩) 1 1 [(⟨9,E0,some ⟨n+1+1+1+1+1,0,none⟩,1,1,0,0,none,0,0,none,0,0⟩:Sc)] rfl (λh=>nomatch h) (λ_=>⟨_,0,rfl,by have h:=Row.eZ h66;simpa [aR]using h⟩) aj (by have:=HZ6.out;omega);obtain⟨g,c',rfl,hrow,hgb,-⟩:=gu RF aj aj;have akm:=J hrow;have HGB:=J hgb
 have NQ:=J (show Kept (·=r+1) X6 w7 from ou.mono (λi _ h=>by
  have:some (r+1)=some i:=h;injection this with e;exact e.symm))
 clear own RF ou hrow hgb h66 hP6 hE6;refine fM rfl (.tmp 28) (.tmp 30) 24 rfl rfl rfl rfl hrun ?_;clear hrun i1 i2 i3 XF;have XG:=bK VN.out NQ.out (by have:=Q8.out;have:=HQ.out;omega);have i1:=bC XG;have i2:=XG.lt;have i3:=aH.frozen XG;have HP7:=J XG;clear XG;go_upto_region 5 with(fail);have ks:Kept (·=pb) w7 (w7.setCell ⟨pb,10,none⟩ (.slice (some ⟨g,0,none⟩) 2 c')):=Kept.setCell (S:=(·=pb)) (kR _ w7) ⟨pb,10,none⟩ _ (λ_=>rfl);have HP8:=J (show aH (w7.setCell ⟨pb,10,none⟩ (.slice (some ⟨g,0,none⟩) 2 c')) pb 26 (Pc.cells {pV n with start:=⟨some ⟨q+1+1+1,0,none⟩,1,1⟩,pays:=⟨some ⟨g,0,none⟩,2,c'⟩})from aH.gW HP7.out 10 _);have Ac:=J ks;clear ks i1 i2 i3;generalize (w7.setCell ⟨pb,10,none⟩ (.slice (some ⟨g,0,none⟩) 2 c'))=w8 at HP8 Ac⊢
 have hPA:lT w8 w8.heap.size {pV n with start:=⟨some ⟨q+1+1+1,0,none⟩,1,1⟩,pays:=⟨some ⟨g,0,none⟩,2,c'⟩} jY:=by
  have q1:=HQ.out;have q2:=Q8.out;have q3:=HGB.out;have up6:∀{i t cs},aH X4 i t cs->¬i=pb->i<r->aH w8 i t cs:=λh h1 h2=>bK (bK (bX (bK h pG.out h1) jc.out) NQ.out aj) Ac.out h1;have up3:∀{i t cs},aH w3 i t cs->¬i=pb->i<r->aH w8 i t cs:=λh h1 h2=>up6 (h.ext o_.out) h1 h2;have upx:∀{i t cs},aH X6 i t cs->¬i=pb->¬i=r+1->aH w8 i t cs:=λh h1 h2=>bK (bK h NQ.out h2) Ac.out h1;have s2:=up3 HB2.out aj aj;have s3:=up3 HV3.out aj aj;have s4:=up3 ZH.out aj aj;have s5:=up3 nC.out aj aj;obtain⟨f1,f2,f3,f4⟩:=HE.out;have t1:=up6 f1 aj aj;have t2:=up6 f2 aj aj;have t3:=up6 f3 aj aj;have t4:=up6 f4 aj aj;have u1:=upx HE6.out.1 aj aj;have hr8:=akm.out.kept Ac.out aj;have z1:=t4.lt;have z2:=u1.lt;have z3:=hr8.lt;have hE1:g_ w8 w8.heap.size (some ⟨q,0,none⟩) 2 tE1:=Ih (k:=.nil) (k':=.nil) t1 aj (jw ak) (jw ak) (gV _ ak) (g_.nil _ _ _) (jw ak) (jw ak) (gV _ ak) (g_.nil _ _ _);have hE2:g_ w8 w8.heap.size (some ⟨q+1,0,none⟩) 2 tE2:=Ih (k:=tE1) (k':=.nil) t2 aj (jw ak) (jw ak) (gV _ ak) hE1 (jw ak) (jw ak) (gV _ ak) (g_.nil _ _ _);have hE3:g_ w8 w8.heap.size (some ⟨q+1+1,0,none⟩) 1 tE3:=OA (k:=tE2) t3 aj (jw ak) (jw ak) (gV _ ak) hE2;have hE4:g_ w8 w8.heap.size (some ⟨r,0,none⟩) 2 tE4:=Ih (k:=.nil) (k':=.nil) u1 aj (jw ak) (jw ak) (gV _ ak) (g_.nil _ _ _) (jw ak) (jw ak) (gV _ ak) (g_.nil _ _ _);have hE5:g_ w8 w8.heap.size (some ⟨n+1+1+1+1+1,0,none⟩) 1 e0F:=OA (k:=.nil) s5 aj (jw ak) (jw ak) (gV _ ak) (g_.nil _ _ _)
  refine⟨rfl,gV _ ak,rfl,jw ak,⟨rfl,show Fits 2 8 by unfold Fits;omega,?_,n+1+1,0,λ_=>rfl,λ_=>⟨by omega,Row.eZ s2⟩⟩,⟨rfl,show Fits 2 40 by unfold Fits;omega,?_,n+1+1+1,0,λ_=>rfl,λ_=>⟨by omega,Row.eZ s3⟩⟩,
   PX (e:=tE3) (l:=.nil) (x:=.nil) t4 aj (jw ak) (jw ak) (jw ak) (gV _ ak) hE3 (iO.nil _ _ _) (iO.nil _ _ _),
   PX (e:=.nil) (l:=.nil) (x:=.nil) s4 aj (jw ak) (jw ak) (jw ak) (gV _ ak) (g_.nil _ _ _) (iO.nil _ _ _) (iO.nil _ _ _),tL.nil _ _ _,iO.nil _ _ _,rfl,gV _ ak,iO.nil _ _ _,?_⟩
  ·intro v hv
   have:v=1:=by simpa [jY]using hv
   subst this;exact jw ak
  ·intro v hv
   have:v=⟨sA,0,0,3⟩∨v=⟨sL,3,0,1⟩:=by simpa [jY]using hv
   rcases this with rfl|rfl<;>exact⟨gV _ ak,jw ak,jw ak,jw ak⟩
  ·exact aeJ (e:=tE4) (e':=e0F) hr8 aj (jw ak) (jw ak) ⟨gV _ ak,gV _ ak⟩ hE4 hE5
 have iY:=J hPA;have Kr:=J (show Ext w w8 from fH.out.trans' (JQ.out.trans' ((NQ.out.mono (λ_ _ e=>Or.inl e)).trans (Ac.out.mono (λ_ _ e=>Or.inr e))) (S':=λi=>i=r+1∨i=pb) (λi hi e=>by have h1:=HQ.out;have h2:=Q8.out;have h3:=JO.out.size;have h4:=o_.out.size;have h5:=HQQ.out;omega)) (λi hi e=>by have h1:=HN.out;have h2:=Bu.out;omega));have i1:=bH HP8.out;have i2:=bG HP8.out;have i3:=HP8.out.lt;clear hPA;go_wp2_with fail;refine(Yc _ jY _ w8 (Nat.le_refl _) iY.out).mono ?_;rintro e w9 ⟨y9,c9,rfl,hp9⟩;clear i1 i2 i3;have tT:=J (Kr.out.trans y9);have HP9:=J hp9;have HL9:=J (HL.out.ext tT.out);clear y9 hp9;go_wp2_with fail;refine(Ak c9 jY _ w9 HL9.out.lt (Nat.le_refl _) HP9.out HL9.out ak).mono ?_;rintro e w10 ⟨Sq,ho⟩;have agh:=J (tT.out.trans Sq);clear Sq
 cases ho with
 |bad f h=>rw [MB]at h;cases h
 |long h hl=>have:=(Gy _).2 hl;rw [Qz]at this;cases this
 |steps h hl hs=>obtain⟨i,hi,e⟩:=hs;have:=MC i hi;omega
 |ok h hl hs cb k hc=>
  have HC:=J hc;have uS:=J hl;have HST:=J hs;have gD:=J (tF.of MB ak);have aah:=J (HO.out.ext agh.out);clear h hl hs hc;go_wp2_with fail;refine(xY cb _ k jY 0 ⟨none,0,0⟩ ⟨none,0,0⟩ [] [] w10 (Nat.le_refl _) HC.out (rU _ _) (rU _ _) gD.out uS.out HST.out aah.out).mono ?_;rintro e w11 ⟨y11,ho⟩;have aky:=J y11;clear y11
  cases ho with
  |bad h=>exact absurd Mw h
  |runs K hK h hh=>
   have Xq:K=0:=by omega
   subst Xq;rw [QC.2]at hh
   cases hh
  |ok K hK h hh v hv=>
   have Xq:K=0:=by omega
   subst Xq;have hv1:=hv.vars;rw [QA]at hv1;have qh:=J hv1;clear hv hv1 h hh hK;have NG:=(kR (λ_=>False) w11).alloc (.cells v.c 38);have b12:=bN w11 38 v.c;go_upto_region 9 with(fail);generalize (w11.alloc (.cells v.c 38))=w12 at NG b12⊢;generalize w11.heap.size=ob at b12⊢;have akz:=J NG;have afN:=J b12;clear NG b12;have y13:=(kR (λ_=>False) w12).alloc (.cells #[.int .i32 3,.int .i32 0,.int .i32 0,.int .i32 0] 21);have b13:=bN w12 21 #[.int .i32 3,.int .i32 0,.int .i32 0,.int .i32 0];go_wp2_with fail;generalize (w12.alloc (.cells #[.int .i32 3,.int .i32 0,.int .i32 0,.int .i32 0] 21))=w13 at y13 b13⊢;generalize w12.heap.size=vb at b13⊢;have acp:=J y13;have agi:=J (akz.out.trans y13);have akq:=J (show j5 w13 w13.heap.size ⟨some ⟨vb,0,none⟩,4,4⟩ [3,0,0,0]from⟨rfl,λx hx=>by simp at hx;unfold au;omega,vb,0,λ_=>rfl,λ_=>⟨b13.lt,Row.eZ b13⟩⟩);have aae:=J (aky.out.trans agi.out);clear y13 b13;refine(xY cb w13.heap.size k jY 4 ⟨some ⟨vb,0,none⟩,4,4⟩ ⟨none,0,0⟩ [3,0,0,0] [] w13 (Nat.le_refl _) ((HC.out.ext aae.out).up aae.out.size (Nat.le_refl _)) akq.out (rU _ _) gD.out uS.out HST.out (aah.out.ext aae.out)).mono ?_;rintro e w14 ⟨y14,ho⟩;have akA:=J y14;clear y14
   cases ho with
   |bad h=>exact absurd Mx h
   |runs K hK h hh=>
    have Xq:K=4:=by omega
    subst Xq;rw [QD]at hh
    cases hh
   |ok K hK h hh u hu=>
    have Xq:K=4:=by omega
    subst Xq;have hu1:=hu.asks;rw [QB]at hu1;have Ww:=J hu1;clear hu hu1 h hh hK;have y15:=(kR (λ_=>False) w14).alloc (.cells u.c 38);have b15:=bN w14 38 u.c;go_upto_region 10 with(fail);generalize (w14.alloc (.cells u.c 38))=w15 at y15 b15⊢;generalize w14.heap.size=ub at b15⊢;have agj:=J y15;have adQ:=J (akA.out.trans y15);have afO:=J b15;clear y15 b15;have i1:=bC (afN.out.ext (acp.out.trans adQ.out));have i2:=(afN.out.ext (acp.out.trans adQ.out)).lt;have y16:=(kR (λ_=>False) w15).alloc (.cells #[.int .i32 3,.int .i32 0,.int .i32 0,.int .i32 0] 21);have b16:=bN w15 21 #[.int .i32 3,.int .i32 0,.int .i32 0,.int .i32 0];go_wp2_with fail;generalize (w15.alloc (.cells #[.int .i32 3,.int .i32 0,.int .i32 0,.int .i32 0] 21))=w16 at y16 b16⊢;generalize w15.heap.size=ab at b16⊢;have agl:=J y16;have agk:=J (adQ.out.trans y16);have akv:=J (agi.out.trans agk.out);have hs:=kU v.vars ⟨some ⟨ab,0,none⟩,4,4⟩ [3,0,0,0] [3,0,0,0] _ _ w16 (j5.gy (bD qh.out akv.out) (λx hx=>by simp at hx;unfold au;omega)) (show j5 w16 w16.heap.size _ _ from⟨rfl,λx hx=>by simp at hx;unfold au;omega,ab,0,λ_=>rfl,λ_=>⟨b16.lt,Row.eZ b16⟩⟩) ak;clear i1 i2 y16 b16;refine hs.mono ?_;clear hs;rintro e w17 ⟨rfl,y17⟩;have WA:=J (agl.out.trans y17);have akB:=J (agk.out.trans y17);clear y17;have i1:=bC (afO.out.ext WA.out);have i2:=(afO.out.ext WA.out).lt;have y18:=(kR (λ_=>False) w17).alloc (.cells #[.int .i32 4,.int .i32 0] 21);have b18:=bN w17 21 #[.int .i32 4,.int .i32 0];go_wp2_with fail;generalize (w17.alloc (.cells #[.int .i32 4,.int .i32 0] 21))=w18 at y18 b18⊢;generalize w17.heap.size=db at b18⊢;have akC:=J (akB.out.trans y18);have akw:=J (agj.out.trans (WA.out.trans y18));have hs:=kU u.asks ⟨some ⟨db,0,none⟩,2,2⟩ [4,0] [4,0] _ _ w18 (j5.gy (bD Ww.out akw.out) (λx hx=>by simp at hx;unfold au;omega)) (show j5 w18 w18.heap.size _ _ from⟨rfl,λx hx=>by simp at hx;unfold au;omega,db,0,λ_=>rfl,λ_=>⟨b18.lt,Row.eZ b18⟩⟩) ak;clear i1 i2 y18 b18;refine hs.mono ?_;clear hs;rintro e w19 ⟨rfl,y19⟩;have akD:=J (akC.out.trans y19);clear y19;go_wp2_with fail;go_ret;exact⟨rfl,agh.out.trans (aae.out.trans akD.out)⟩
open Go.RowKit So Mc
theorem KS (w:World) (a:Int) (s:Str):(Instr.field 60 (.agg #[.int .i64 a,.string s]) 0).run prog w=.ok (.int .i64 a) w:=by kernel_rfl
attribute [go_sem] KS
open Go.RowKit So Mc
section
variable {L b:Int}
theorem uG {a n:Int} (h1:0<=a/\a<b+49) (h2:au n):bM ⟨1,a,n,0⟩ L (b+49)=true:=by
 unfold au at h2;simp [bM,isOp,oP,pR,GJ,wO,tq,ji]
 omega
theorem CO {a n:Int} (h1:0<=a/\a<b+49) (h2:0<=n/\n<b+49):bM ⟨2,a,n,0⟩ L (b+49)=true:=by
 simp [bM,isOp,oP,pR,GJ,tq,ji]
 omega
theorem iW {op a c d:Int} (ho:3<=op/\op<=13∨op=15∨op=16) (h1:0<=a/\a<b+49) (h2:0<=c/\c<b+49) (h3:0<=d/\d<b+49):bM ⟨op,a,c,d⟩ L (b+49)=true:=by
 have h:op=3∨op=4∨op=5∨op=6∨op=7∨op=8∨op=9∨op=10∨op=11∨op=12∨op=13∨op=15∨op=16:=by omega
 rcases h with rfl|rfl|rfl|rfl|rfl|rfl|rfl|rfl|rfl|rfl|rfl|rfl|rfl<;>(simp [bM,isOp,oP,pR,GJ,tq,ji];omega)
theorem aeI {a n:Int} (h1:0<=a/\a<b+49) (h2:0<=n/\n<b+49):bM ⟨14,a,n,0⟩ L (b+49)=true:=by
 simp [bM,isOp,oP,pR,GJ,tq,ji]
 omega
theorem I5 {a l h:Int} (h1:0<=a/\a<b+49) (h2:au l) (h3:au h) (h4:l<=h):bM ⟨17,a,l,h⟩ L (b+49)=true:=by
 unfold au at h2 h3;simp [bM,isOp,oP,pR,GJ,wO,tq,ji]
 omega
theorem zV {a c n:Int} (h1:0<=a/\a<b+49) (h2:0<=c/\c<b+49) (h3:0<=n/\n<=2147483647):bM ⟨18,a,c,n⟩ L (b+49)=true:=by
 simp [bM,isOp,oP,pR,GJ,wO,tq,ji]
 omega
theorem abl {a:Int} (h1:0<=a/\a<L):bM ⟨19,a,0,0⟩ L (b+49)=true:=by
 simp [bM,isOp,oP,pR,GJ,tq,ji]
 omega
theorem R6 {op a c:Int} (ho:op=20∨op=21) (h1:0<=a/\a<L) (h2:0<=c/\c<b+49):bM ⟨op,a,c,0⟩ L (b+49)=true:=by
 rcases ho with rfl|rfl<;>(simp [bM,isOp,oP,pR,GJ,tq,ji];omega)
theorem CK {a:Int} (h1:a=0∨a=1):bM ⟨0,a,0,0⟩ L (b+49)=true:=by
 rcases h1 with rfl|rfl<;>simp [bM,isOp,oP,pR,GJ,wO,tq,ji]
def cK (L b:Int) (l:List Ins):Prop:=∀i∈l,bM i L (b+49)=true
theorem cK.nil:cK L b []:=λi h=>by simp at h
theorem cK.cons {i:Ins} {l:List Ins} (h:bM i L (b+49)=true) (h':cK L b l):cK L b (i::l):=λj hj=>by
 rcases List.mem_cons.1 hj with q|q
 ·rw [q];exact h
 ·exact h' j q
theorem cK.app {l l':List Ins} (h:cK L b l) (h':cK L b l'):cK L b (l++l'):=λj hj=>by
 rcases List.mem_append.1 hj with q|q
 ·exact h j q
 ·exact h' j q
def WdR (b:Int) (W:Wd):Prop:=∀s,0<=W s/\W s<b+33
theorem rC {V:List Vr} (hv:∀v∈V,0<=v.size/\v.size<=64/\au v.low/\au v.high/\v.low<=v.high) (s:Str):0<=(aD V s).size/\(aD V s).size<=64/\au (aD V s).low/\au (aD V s).high/\(aD V s).low<=(aD V s).high:=by
 unfold aD
 cases h:V.find? (λv=>decide (v.name=s))with
 |none=>simp [au]
 |some v=>exact hv v (List.mem_of_find?_eq_some h)
theorem DU {u:Int} (hb:0<=b) (h0:0<=u) (h1:u<16):0<=fr b u/\fr b u<b+49:=by unfold fr;omega
theorem En (k:Mk) (W:Wd) (κ:Kn) (hb:0<=k.b) (hW:WdR k.b W) (hv:∀v∈k.V,0<=v.size/\v.size<=64/\au v.low/\au v.high/\v.low<=v.high):
 ∀(F:EF) (j:Nat) (u:Int),gq κ F=none->0<=u->u+Tt F j<=16->cK L k.b (cE k W F j u)
 | .nil,_,_,_,_,_=>by rw [cE];exact cK.nil
 | .cons _ _ _ _ r,j+1,u,hc,h0,h1=>by
  rw [cE];rw [gq,av]at hc;exact En k W κ hb hW hv r j u hc.2 h0 (by simpa [Tt]using h1)
 | .cons op n name kids r,0,u,hc,h0,h1=>by
  rw [gq,av,av]at hc;obtain⟨⟨hh,agS⟩,-⟩:=hc;simp only [Tt]at h1;unfold gY at hh;rw [av,aP,Bool.and_eq_true]at hh;obtain⟨⟨hop,hlen⟩,hrest⟩:=hh;simp only [jq,Bool.and_eq_true,decide_eq_true_eq]at hop;simp only [beq_iff_eq]at hlen;have hk0:∀(j:Nat) (u:Int),0<=u->u+Tt kids j<=16->cK L k.b (cE k W kids j u):=λj u a c=>En k W κ hb hW hv kids j u agS a c;have hd:=DK kids;have hpos:=Ig kids;have hw:=hW name;have hx:=rC hv name;unfold cE
  split
  ·rename_i e
   subst e;simp only [if_true,aP,word,Bool.and_eq_true,decide_eq_true_eq]at hrest;exact cK.cons (uG (DU hb h0 aj) hrest) cK.nil
  split
  ·exact cK.cons (CO (DU hb h0 aj) aj) cK.nil
  have hl1:1<=kids.len:=by
   rw [hlen];unfold exprParts
   split
   ·omega
   ·split<;>omega
  have hp0:=hpos 0 aj;have hd0:=hd 0;have f0:=DU (b:=k.b) hb h0 aj;have f1:=DU (b:=k.b) (u:=u+1) hb aj aj
  split
  ·refine cK.app (hk0 0 u h0 aj) (cK.cons (zV f1 f0 aj) (cK.cons (iW aj f0 f0 f1) (cK.cons (iW aj f0 aj f0) (cK.cons (iW aj f0 f0 f1) cK.nil))))
  split
  ·exact cK.app (hk0 0 u h0 aj) (cK.cons (uG f1 kG) (cK.cons (iW aj f0 f1 f0) cK.nil))
  split
  ·exact cK.app (hk0 0 u h0 aj) (cK.cons (aeI f0 f0) cK.nil)
  have hd1:=hd 1;have hop2:=uP (op:=op) aj
  split
  ·exact cK.app (cK.app (hk0 1 u h0 aj) (hk0 0 (u+1) aj aj)) (cK.cons (iW aj f0 f0 f1) cK.nil)
  ·exact cK.app (cK.app (hk0 0 u h0 aj) (hk0 1 (u+1) aj aj)) (cK.cons (iW aj f0 f0 f1) cK.nil)
theorem WdR.upd {W:Wd} (h:WdR b W) (s:Str) {v:Int} (h0:0<=v) (h1:v<b+33):WdR b (gG W s v):=λt=>by
 unfold gG
 split
 ·omega
 ·exact h t
theorem qP (k:Mk) (part:Nat) (hb:0<=k.b) (hb2:k.b<=100) (hs2:0<=k.seats/\k.seats<=8) (hv:∀v∈k.V,0<=v.size/\v.size<=64/\au v.low/\au v.high/\v.low<=v.high):
 ∀(F:SF) (κ:Kn) (W:Wd) (f:Nat) (top:Bool) (a:Int),bV part κ f top F=none->F.size<=1099511627776->WdR k.b W->f<=8->0<=a->a+(cB k F W f a).length<L->cK L k.b (cB k F W f a)
 | .nil,_,_,_,_,_,_,_,_,_,_,_=>by rw [cB];exact cK.nil
 | .cons kind name e low high l els r,κ,W,f,top,a,hc,hz,hW,hf,ha,hL=>by
  rw [jT,av]at hc;obtain⟨hc1,hcr⟩:=hc;rw [Cm]at hL⊢;rw [List.length_append]at hL;simp only [SF.size]at hz;refine cK.app ?_ (qP k part hb hb2 hs2 hv r κ W f top _ hcr aj hW hf aj aj);unfold nu at hc1;rw [av,av,av,av,aP,Bool.and_eq_true,aP]at hc1;obtain⟨⟨hkd,hlen⟩,-,hnm,hcd,hblk⟩:=hc1;simp only [jq,Bool.and_eq_true,decide_eq_true_eq]at hkd;simp only [beq_iff_eq]at hlen;obtain⟨Av,hdp⟩:=DF hcd aj;have hE:∀(j:Nat) (u:Int),0<=u->u<=4->cK L k.b (cE k W e j u):=λj u a0 a4=>En k W κ hb hW hv e j u Av a0 (by have:=DK e j;omega);have hx:=rC hv name;have hw:=hW name;have F:∀i:Int,0<=i->i<16->0<=fr k.b i/\fr k.b i<k.b+49:=λi h0 h1=>DU hb h0 h1;have F0:=F 0 aj aj;have F1:=F 1 aj aj;have F2:=F 2 aj aj;have hsm:∀i:Int,0<=i->i<15->cK L k.b (gT k i):=λi h0 h1=>cK.cons (zV (F (i+1) aj aj) (F i h0 aj) aj) (cK.cons (iW aj (F i h0 aj) (F i h0 aj) (F (i+1) aj aj)) cK.nil)
  by_cases k2:kind=2
  ·subst k2
   simp only [if_true]at hblk;rw [av]at hblk;unfold cS at hL⊢;simp only [if_true]at hL⊢
   cases hn:els.isNil
   ·simp only [hn,VT,Bool.false_eq_true,if_false,List.length_append,List.length_cons,List.length_nil]at hL⊢
    refine cK.app (cK.app (cK.app (cK.app (hE 0 0 aj aj) (cK.cons (R6 aj aj F0) cK.nil)) (qP k part hb hb2 hs2 hv l κ W f false _ hblk.1 aj hW hf aj aj)) (cK.cons (abl aj) cK.nil)) (qP k part hb hb2 hs2 hv els κ W f false _ hblk.2 aj hW hf aj aj)
   ·simp only [hn,FJ,if_true,List.length_append,List.length_cons,List.length_nil]at hL⊢
    refine cK.app (cK.app (hE 0 0 aj aj) (cK.cons (R6 aj aj F0) cK.nil)) (qP k part hb hb2 hs2 hv l κ W f false _ hblk.1 aj hW hf aj aj)
  by_cases k3:kind=3
  ·subst k3
   simp only [show¬(3:Int)=2 by omega,if_false,if_true]at hblk;unfold cS at hL⊢;simp only [show¬(3:Int)=2 by omega,if_false,if_true]at hL⊢;unfold named at hnm;simp only [show¬((3:Int)=0∨(3:Int)=1∨(3:Int)=5)by omega,if_false,if_true]at hnm;unfold loop at hnm;simp only [av,aP,Bool.and_eq_true,decide_eq_true_eq,word]at hnm;obtain⟨-,-,⟨⟨hlo,hhi⟩,amg⟩,VX⟩:=hnm
   split
   ·exact cK.nil
   ·rename_i hlh
    rw [if_neg hlh]at hL;simp only [BI,List.length_append,List.length_cons,List.length_nil]at hL⊢;have hu:0<=oV k f/\oV k f+1<k.b+33:=by unfold oV;omega
    refine cK.app (cK.app (cK.cons (uG aj kG) (cK.cons (uG aj kG) (cK.cons (uG aj kG) cK.nil))) (qP k part hb hb2 hs2 hv l _ _ (f+1) false _ hblk aj (hW.upd name aj aj) aj aj aj)) (cK.cons (iW aj aj aj aj) (cK.cons (iW aj aj aj aj) (cK.cons (R6 aj aj aj) cK.nil)))
  ·unfold cS at hL⊢
   rw [if_neg k2,if_neg k3]at hL⊢;unfold pJ at hL⊢
   split
   ·exact cK.app (hE 0 0 aj aj) (cK.cons (I5 F0 hx.2.2.1 hx.2.2.2.1 hx.2.2.2.2) (cK.cons (CO aj F0) cK.nil))
   split
   ·rename_i q0 q1
    rw [if_neg q0,if_pos q1]at hL;simp only [List.length_append,List.length_cons,List.length_nil]at hL;exact cK.app (cK.app (hE 0 0 aj aj) (hE 1 1 aj aj)) (cK.cons (zV F2 F0 aj) (cK.cons (R6 aj aj F2) (cK.cons (I5 F1 hx.2.2.1 hx.2.2.2.1 hx.2.2.2.2) (cK.cons (iW aj aj F0 F1) cK.nil))))
   split
   ·exact cK.cons (CK aj) cK.nil
   split
   ·rename_i q5
    unfold named at hnm;rw [if_pos aj]at hnm;unfold target at hnm;rw [av,av,if_pos q5,aP]at hnm;obtain⟨-,-,hlw⟩:=hnm;have amu:2<=low/\low<=1000:=by simpa [jq]using aP.1 hlw
    exact cK.cons (uG aj kG) (cK.cons (uG aj kG) cK.nil)
   split
   ·exact cK.app (hE 0 0 aj aj) (cK.cons (CO aj F0) (cK.cons (CK aj) cK.nil))
   split
   ·exact cK.cons (uG aj kG) (cK.cons (CK aj) cK.nil)
   split
   ·exact cK.app (cK.app (cK.app (hE 1 0 aj aj) (hE 0 1 aj aj)) (hsm 1 aj aj)) (cK.cons (I5 F0 kG kG aj) (cK.cons (iW aj F2 aj F1) (cK.cons (iW aj F0 F0 F2) (cK.cons (I5 F0 kG kG aj) (cK.cons (iW aj aj F1 F0) cK.nil)))))
   ·exact cK.app (cK.app (hE 0 0 aj aj) (hsm 0 aj aj)) (cK.cons (CO aj F0) cK.nil)
end
theorem aeO (p:Pr) (part:Nat) (hk:tF p):WdR (cells p.vars) (iC p (cells p.vars) part):=by
 have h:=xU p.vars;have h0:=dS p.vars;have hn:=hk.np;intro s;unfold iC
 split
 ·have:=IW p.params (aS p.vars) (cells p.vars) (cells p.vars+4) (λt=>by have:=h t;omega) h0 aj s
  omega
 ·split
  ·unfold gG
   split
   ·omega
   ·have:=h s;omega
  ·have:=h s;omega
theorem Aj {p:Pr} (hk:tF p) (i:Nat) (hi:i<5):ND (dM p i) (bO p):=by
 have h0:=dS p.vars;have h1:=hk.cells;have hs:=hk.seats;have hm:(bO p:Int)=cells p.vars+49:=by unfold bO;omega
 have hlen:((dM p i).length:Int)=(sI p i).length+1:=by unfold dM;simp
 intro x hx;rw [hm];have hB:cK (dM p i).length (cells p.vars) (sI p i):=qP ⟨p.vars,p.seats,cells p.vars⟩ i h0 (by show cells p.vars<=100;omega) (by show 0<=p.seats/\p.seats<=8;omega) (jR p.vars [] hk.vars) (partOf p i) (jI p i) (iC p (cells p.vars) i) 0 true 0 (hk.part i hi) (by have:=hk.V5 i hi;omega) (aeO p i hk) aj (Int.le_refl _) (by rw [hlen];unfold sI;omega);unfold dM at hx
 rcases List.mem_append.1 hx with q|q
 ·exact hB x q
 ·simp at q
  subst q;exact CK aj
end Go.Proofs.YtbfbabbcdochjaaGreatDoor
