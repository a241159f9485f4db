/- Several texts joined: Lc, Ld. -/
import Derived.Test.YtbfbabbcdochjaaGreatDoorRmpk
import Derived.Test.YtbfbabbcdochjaaGreatDoorRmbk
set_option maxHeartbeats 4000000
set_option maxRecDepth 100000
open Go.Proofs.Tryz
namespace Go.Proofs.YtbfbabbcdochjaaGreatDoor
open Go.RowKit So Mc
theorem WQ (V:List Vr) (R:RS):∀(F:EF) (j:Nat) {op n:Int} {s:Str} {K:EF},F9 F j=some (op,n,s,K)->ev V R F j=ev V R (.cons op n s K .nil) 0
 | .nil,_,_,_,_,_,h=>by simp [F9]at h
 | .cons op n s k _,0,_,_,_,_,h=>by
  simp only [F9,Option.some.injEq,Prod.mk.injEq]at h;obtain⟨rfl,rfl,rfl,rfl⟩:=h;rw [ev,ev]
 | .cons _ _ _ _ r,j+1,_,_,_,_,h=>by rw [ev];exact WQ V R r j h
theorem Ta {B:List (Str×Int)} {s:Str} {v:Int} (h:iq B s=some v):∃b∈B,b.2=v:=by
 unfold iq at h
 cases hq:B.find? (λx=>decide (x.1=s))with
 |none=>rw [hq]at h;cases h
 |some b=>rw [hq]at h;exact⟨b,List.mem_of_find?_eq_some hq,by simpa using h⟩
theorem X7 {V:List Vr} {se:Int} {κ:Kn} {R:RS} (h:RInv V se κ R) (s:Str):au (yF V R s):=by
 unfold yF
 cases hq:iq R.binds s with
 |none=>exact nK h.J2 _
 |some v=>obtain⟨b,hb,rfl⟩:=Ta hq;exact h.bok b hb
theorem qB {V:List Vr} {se:Int} {κ:Kn} {R:RS} (h:RInv V se κ R):∀(F:EF) (j:Nat),gq κ F=none->au (ev V R F j)
 | .nil,_,_=>by rw [ev];unfold au;omega
 | .cons op n s k r,j,hc=>by
  rw [gq,av,av]at hc
  cases j with
  |succ j=>rw [ev];exact qB h r j hc.2
  |zero=>
   have h0:=qB h k 0 hc.1.2;have h1:=qB h k 1 hc.1.2;have ho:=Co hc.1.1;rw [ev]
   split
   ·exact lM _
   ·split
    ·exact X7 h s
    ·split
     ·split
      ·unfold au;omega
      ·exact nK h.J2 _
     ·split
      ·exact RJ 9 kG h0 aj
      ·split
       ·exact So.kD _
       ·exact RJ op h0 h1 aj
abbrev EvM (x:Rx) (R:RS) (κ:Kn) (F:EF):Prop:=∀(op n:Int) (s:Str) (A:Option Addr) (kc:Nat) (w:World),jJ x w R->g_ w x.N A F.len F->aL n->gY κ op n s F.len=none->gq κ F=none->
 Calls prog 119 #[.pointer (some ⟨x.mb,0,none⟩),.agg (aI op n s A F.len kc)] w λe w'=>e=.returned (.int .i32 (ev x.p.vars R (.cons op n s F .nil) 0))/\Ext w w'
def zf (x:Rx) (R:RS) (κ:Kn):EF->Prop| .nil=>True| .cons _ _ _ k r=>EvM x R κ k/\zf x R κ r
theorem zf.at {x:Rx} {R:RS} {κ:Kn}:∀{F:EF} {j:Nat} {op n:Int} {s:Str} {K:EF},F9 F j=some (op,n,s,K)->zf x R κ F->EvM x R κ K
 | .nil,_,_,_,_,_,h,_=>by simp [F9]at h
 | .cons op n s k _,0,_,_,_,_,h,hA=>by
  simp only [F9,Option.some.injEq,Prod.mk.injEq]at h;obtain⟨rfl,rfl,rfl,rfl⟩:=h;exact hA.1
 | .cons _ _ _ _ r,j+1,_,_,_,_,h,hA=>zf.at (F:=r) (j:=j) h hA.2
theorem UH {x:Rx} {R:RS} {κ:Kn} {F:EF} {A:Option Addr} {w:World} {n:Nat} (hn:n=F.len) (hA:zf x R κ F) (hE:g_ w x.N A n F) (hc:gq κ F=none) (hN:x.N<=w.heap.size) {j:Nat} (hj:j<F.len):
 ∃cs b off,A=some ⟨b,off,none⟩/\b<x.N/\Proofs.YtbfbabbcdochjaaGreatDoor.has w b (off+j*4) 4=true/\gets w b (off+j*4) 4=cs/\
  ∀w1,Ext w w1->jJ x w1 R->Calls prog 119 #[.pointer (some ⟨x.mb,0,none⟩),.agg cs] w1 λe w'=>e=.returned (.int .i32 (ev x.p.vars R F j))/\Ext w1 w':=by
 subst hn;obtain⟨op,n,s,K,ha⟩:=Dz F j hj;obtain⟨_,_,b,off,yY,hEF⟩:=hE;obtain⟨a1,a2,a3,a4,A',cap,a5,a6,a7⟩:=zC ha hEF;obtain⟨c1,c2,c3⟩:=Ia ha hc;refine⟨_,b,off,yY aj,a1,a5,a6,λw1 hx h1=>?_⟩;rw [WQ x.p.vars R F j ha];exact zf.at ha hA op n s A' cap w1 h1 (a7.ext hx hN) a3 c1 c2
theorem abf (x:Rx) (R:RS) (κ:Kn) (hI:RInv x.p.vars x.p.seats κ R) (n:Int) (s:Str) (A:Option Addr) (kc:Nat) (F:EF) (w:World) (h:jJ x w R) (hE:g_ w x.N A F.len F) (hn:aL n) (hh:gY κ 0 n s F.len=none) (hc:gq κ F=none):
 Calls prog 119 #[.pointer (some ⟨x.mb,0,none⟩),.agg (aI 0 n s A F.len kc)] w λe w'=>e=.returned (.int .i32 (ev x.p.vars R (.cons 0 n s F .nil) 0))/\Ext w w':=by
 obtain⟨v,hv⟩:∃v,v=ev x.p.vars R (.cons 0 n s F .nil) 0:=⟨_,rfl⟩;rw [<-hv];have HV:=J hv;have y1:Ext w (w.alloc (.cells (aI 0 n s A F.len kc) 84)):=(kR _ w).alloc _;have hB0:=bN w 84 (aI 0 n s A F.len kc);refine Vt ?_;intro HM HN HH HI kK hN0 dR qZ;clear h hE hv hn hh hI hc hN0;go_enter func119,ntmps119;go_upto_region 1 with(fail);generalize (w.alloc (.cells (aI 0 n s A F.len kc) 84))=W1 at y1 hB0 HM⊢;generalize (w:World).heap.size=g at hB0⊢;have HB:=J hB0;have HY:=J y1;clear y1 hB0;have d0:=HB.out;have d1:=bC d0;have d2:=d0.lt;clear d0;unfold aL at HN;have hn:=HN.out;go_wp2_with fail;go_ret;refine⟨lK ?_,HY.out⟩;rw [HV.out,ev,if_pos rfl];exact Sn _
theorem abg (x:Rx) (R:RS) (κ:Kn) (hI:RInv x.p.vars x.p.seats κ R) (n:Int) (s:Str) (A:Option Addr) (kc:Nat) (F:EF) (w:World) (h:jJ x w R) (hE:g_ w x.N A F.len F) (hn:aL n) (hh:gY κ 1 n s F.len=none) (hc:gq κ F=none):
 Calls prog 119 #[.pointer (some ⟨x.mb,0,none⟩),.agg (aI 1 n s A F.len kc)] w λe w'=>e=.returned (.int .i32 (ev x.p.vars R (.cons 1 n s F .nil) 0))/\Ext w w':=by
 obtain⟨v,hv⟩:∃v,v=ev x.p.vars R (.cons 1 n s F .nil) 0:=⟨_,rfl⟩;rw [<-hv];have HV:=J hv;have y1:Ext w (w.alloc (.cells (aI 1 n s A F.len kc) 84)):=(kR _ w).alloc _;have hB0:=bN w 84 (aI 1 n s A F.len kc);refine Vt ?_;intro HM HN HH HI kK hN0 dR qZ;clear h hE hv hn hh hI hc hN0;go_enter func119,ntmps119;go_upto_region 1 with(fail);generalize (w.alloc (.cells (aI 1 n s A F.len kc) 84))=W1 at y1 hB0 HM⊢;generalize (w:World).heap.size=g at hB0⊢;have HB:=J hB0;have HY:=J y1;clear y1 hB0;have d0:=HB.out;have d1:=bC d0;have d2:=d0.lt;clear d0;go_wp2_with fail;refine(UL x R s W1 HM.out ?_).mono ?_
 ·have hk:=HH.out
  unfold gY at hk;rw [av,if_neg ak,if_pos (.inl rfl),av]at hk;simp only [aP]at hk;have h3:=HI.out.le3 s;have h0:κ s≠0:=by simpa using hk.2.1
  have h2:κ s≠2:=by simpa using hk.2.2
  rcases(by omega:κ s=1∨κ s=3)with q|q
  ·exact .inr (HI.out.one s q)
  ·exact .inl (HI.out.fix s q)
 rintro e w1 ⟨rfl,hx⟩;go_wp2_with fail;go_ret;refine⟨lK ?_,HY.out.trans hx⟩;rw [HV.out,ev,if_neg ak,if_pos rfl]
theorem abj (x:Rx) (R:RS) (κ:Kn) (hI:RInv x.p.vars x.p.seats κ R) (n:Int) (s:Str) (A:Option Addr) (kc:Nat) (F:EF) (w:World) (h:jJ x w R) (hE:g_ w x.N A F.len F) (hn:aL n) (hh:gY κ 3 n s F.len=none) (hc:gq κ F=none) (hA:zf x R κ F):
 Calls prog 119 #[.pointer (some ⟨x.mb,0,none⟩),.agg (aI 3 n s A F.len kc)] w λe w'=>e=.returned (.int .i32 (ev x.p.vars R (.cons 3 n s F .nil) 0))/\Ext w w':=by
 have hl0:0<F.len:=by rw [kr hh];decide
 obtain⟨cs0,b0,iM,rfl,hb0,hk0,hg0,wh⟩:=UH rfl hA hE hc (Nat.le_trans h.hN h.hB) hl0;have VG:=J hk0;have VF:=J hg0;have JN:=J hb0;have Hl:=J wh;clear hk0 hg0 hb0 wh;obtain⟨v,hv⟩:∃v,v=ev x.p.vars R (.cons 3 n s F .nil) 0:=⟨_,rfl⟩;rw [<-hv];have HV:=J hv;have y1:Ext w (w.alloc (.cells (aI 3 n s (some ⟨b0,iM,none⟩) F.len kc) 84)):=(kR _ w).alloc _;have hB0:=bN w 84 (aI 3 n s (some ⟨b0,iM,none⟩) F.len kc);refine Vt ?_;intro HM HN HH HI kK hN0 dR qZ;have Ry:(0:Int)<F.len:=by omega
 have XC:=qZ.out.max aj;clear h hE hv hn hh hI hc hN0;go_enter func119,ntmps119;go_upto_region 1 with(fail);generalize (w.alloc (.cells (aI 3 n s (some ⟨b0,iM,none⟩) F.len kc) 84))=W1 at y1 hB0 HM⊢;generalize (w:World).heap.size=g at hB0⊢;have HB:=J hB0;have HY:=J y1;clear y1 hB0;have d0:=HB.out;have d1:=bC d0;have d2:=d0.lt;clear d0;refine Bo ?_;intro u0 BS pW;simp only [Nat.zero_mul,Nat.add_zero]at u0 BS;have OJ:(0:Int)<F.len:=by omega
 go_wp2_with fail;refine(Hl.out W1 HY.out HM.out).mono ?_;rintro e w1 ⟨rfl,hx⟩;have HX:=J hx;have HO:=J (qB HI.out F 0 kK.out);clear hx u0 BS pW d1 d2;obtain⟨v0,hv0⟩:∃v0,v0=ev x.p.vars R F 0:=⟨_,rfl⟩;rw [<-hv0];rw [<-hv0]at HO;have j4:=J hv0;clear hv0;go_wp2_with fail;refine(GU 9 0 v0 aj kG HO.out _).mono ?_;rintro e w2 ⟨rfl,rfl⟩;go_wp2_with fail;go_ret;refine⟨lK ?_,HY.out.trans HX.out⟩;rw [HV.out,ev,if_neg ak,if_neg ak,if_neg ak,if_pos rfl,j4.out]
theorem abk (x:Rx) (R:RS) (κ:Kn) (hI:RInv x.p.vars x.p.seats κ R) (n:Int) (s:Str) (A:Option Addr) (kc:Nat) (F:EF) (w:World) (h:jJ x w R) (hE:g_ w x.N A F.len F) (hn:aL n) (hh:gY κ 4 n s F.len=none) (hc:gq κ F=none) (hA:zf x R κ F):
 Calls prog 119 #[.pointer (some ⟨x.mb,0,none⟩),.agg (aI 4 n s A F.len kc)] w λe w'=>e=.returned (.int .i32 (ev x.p.vars R (.cons 4 n s F .nil) 0))/\Ext w w':=by
 have hl0:0<F.len:=by rw [kr hh];decide
 obtain⟨cs0,b0,iM,rfl,hb0,hk0,hg0,wh⟩:=UH rfl hA hE hc (Nat.le_trans h.hN h.hB) hl0;have VG:=J hk0;have VF:=J hg0;have JN:=J hb0;have Hl:=J wh;clear hk0 hg0 hb0 wh;obtain⟨v,hv⟩:∃v,v=ev x.p.vars R (.cons 4 n s F .nil) 0:=⟨_,rfl⟩;rw [<-hv];have HV:=J hv;have y1:Ext w (w.alloc (.cells (aI 4 n s (some ⟨b0,iM,none⟩) F.len kc) 84)):=(kR _ w).alloc _;have hB0:=bN w 84 (aI 4 n s (some ⟨b0,iM,none⟩) F.len kc);refine Vt ?_;intro HM HN HH HI kK hN0 dR qZ;have Ry:(0:Int)<F.len:=by omega
 have XC:=qZ.out.max aj;clear h hE hv hn hh hI hc hN0;go_enter func119,ntmps119;go_upto_region 1 with(fail);generalize (w.alloc (.cells (aI 4 n s (some ⟨b0,iM,none⟩) F.len kc) 84))=W1 at y1 hB0 HM⊢;generalize (w:World).heap.size=g at hB0⊢;have HB:=J hB0;have HY:=J y1;clear y1 hB0;have d0:=HB.out;have d1:=bC d0;have d2:=d0.lt;clear d0;refine Bo ?_;intro u0 BS pW;simp only [Nat.zero_mul,Nat.add_zero]at u0 BS;have OJ:(0:Int)<F.len:=by omega
 go_wp2_with fail;refine(Hl.out W1 HY.out HM.out).mono ?_;rintro e w1 ⟨rfl,hx⟩;have HX:=J hx;have HO:=J (qB HI.out F 0 kK.out);clear hx u0 BS pW d1 d2;go_wp2_with fail;refine(wV _ _).mono ?_;rintro e w2 ⟨rfl,rfl⟩;go_wp2_with fail;go_ret;refine⟨lK ?_,HY.out.trans HX.out⟩;rw [HV.out,ev,if_neg ak,if_neg ak,if_neg ak,if_neg ak,if_pos rfl]
theorem UF (x:Rx) (R:RS) (κ:Kn) (hI:RInv x.p.vars x.p.seats κ R) (op:Int) (ho:5<=op/\op<=17) (n:Int) (s:Str) (A:Option Addr) (kc:Nat) (F:EF) (w:World) (h:jJ x w R) (hE:g_ w x.N A F.len F) (hn:aL n) (hh:gY κ op n s F.len=none) (hc:gq κ F=none) (hA:zf x R κ F):
 Calls prog 119 #[.pointer (some ⟨x.mb,0,none⟩),.agg (aI op n s A F.len kc)] w λe w'=>e=.returned (.int .i32 (ev x.p.vars R (.cons op n s F .nil) 0))/\Ext w w':=by
 have hl0:0<F.len:=by rw [kr hh];unfold exprParts;rw [if_neg aj,if_neg aj];omega
 obtain⟨cs0,b0,iM,rfl,hb0,hk0,hg0,wh⟩:=UH rfl hA hE hc (Nat.le_trans h.hN h.hB) hl0;have VG:=J hk0;have VF:=J hg0;have JN:=J hb0;have Hl:=J wh;clear hk0 hg0 hb0 wh;have hl1:1<F.len:=by rw [kr hh];unfold exprParts;rw [if_neg aj,if_neg aj];omega
 obtain⟨cs1,b1,off1,Rs,hb1,hk1,hg1,SH⟩:=UH rfl hA hE hc (Nat.le_trans h.hN h.hB) hl1;obtain⟨rfl,rfl⟩:b0=b1/\iM=off1:=by injection Rs with Rs;injection Rs with h1 h2;exact⟨h1,h2⟩
 clear Rs;have EH1:=J hk1;have EG1:=J hg1;have V7:=J hb1;have EC1:=J SH;clear hk1 hg1 hb1 SH;obtain⟨v,hv⟩:∃v,v=ev x.p.vars R (.cons op n s F .nil) 0:=⟨_,rfl⟩;rw [<-hv];have HV:=J hv;have y1:Ext w (w.alloc (.cells (aI op n s (some ⟨b0,iM,none⟩) F.len kc) 84)):=(kR _ w).alloc _;have hB0:=bN w 84 (aI op n s (some ⟨b0,iM,none⟩) F.len kc);refine Vt ?_;intro HM HN HH HI kK hN0 dR qZ;have Ry:(1:Int)<F.len:=by omega
 have XC:=qZ.out.max aj;clear h hE hv hn hh hI hc hN0;go_enter func119,ntmps119;go_upto_region 1 with(fail);generalize (w.alloc (.cells (aI op n s (some ⟨b0,iM,none⟩) F.len kc) 84))=W1 at y1 hB0 HM⊢;generalize (w:World).heap.size=g at hB0⊢;have HB:=J hB0;have HY:=J y1;clear y1 hB0;have d0:=HB.out;have d1:=bC d0;have d2:=d0.lt;clear d0;have q0:(op==0)=false:=by simp;omega
 have q1:(op==1)=false:=by simp;omega
 have q2:(op==2)=false:=by simp;omega
 have q3:(op==3)=false:=by simp;omega
 have q4:(op==4)=false:=by simp;omega
 refine Bo ?_;intro u0 BS pW;simp only [Nat.zero_mul,Nat.add_zero]at u0 BS;go_wp2_with fail;refine(Hl.out W1 HY.out HM.out).mono ?_;rintro e w1 ⟨rfl,hx⟩;have HX:=J hx;have HO:=J (qB HI.out F 0 kK.out);clear hx u0 BS pW d1 d2 q0 q1 q2 q3 q4;have d0:=bX HB.out HX.out;have d1:=bC d0;have d2:=d0.lt;have u1:=iB (HY.out.trans HX.out) (Nat.lt_of_lt_of_le V7.out dR.out) EH1.out;have u1':=gH (HY.out.trans HX.out) (Nat.lt_of_lt_of_le V7.out dR.out) EG1.out;have YH:b0<w1.heap.size:=Nat.lt_of_lt_of_le (Nat.lt_of_lt_of_le V7.out dR.out) ((HY.out.trans HX.out)).size;simp only [Nat.one_mul]at u1 u1';obtain⟨v0,hv0⟩:∃v0,v0=ev x.p.vars R F 0:=⟨_,rfl⟩;rw [<-hv0];rw [<-hv0]at HO;have j4:=J hv0;clear hv0 d0;go_wp2_with fail;refine(EC1.out w1 (HY.out.trans HX.out) (HM.out.ext HX.out)).mono ?_;rintro e w2 ⟨rfl,hx⟩;have eU:=J (HX.out.trans hx);have HO1:=J (qB HI.out F 1 kK.out);have d0:=bX HB.out eU.out;clear hx u1 u1' YH d1 d2;have d1:=bC d0;have d2:=d0.lt;obtain⟨v1,hv1⟩:∃v1,v1=ev x.p.vars R F 1:=⟨_,rfl⟩;rw [<-hv1];rw [<-hv1]at HO1;have qh:=J hv1;clear hv1 d0;go_wp2_with fail;refine(GU op v0 v1 ho HO.out HO1.out _).mono ?_;rintro e w3 ⟨rfl,rfl⟩;go_wp2_with fail;go_ret;refine⟨lK ?_,HY.out.trans eU.out⟩;rw [HV.out,ev,if_neg aj,if_neg aj,if_neg aj,if_neg aj,if_neg aj,j4.out,qh.out]
theorem abh (x:Rx) (R:RS) (κ:Kn) (hI:RInv x.p.vars x.p.seats κ R) (n:Int) (s:Str) (A:Option Addr) (kc:Nat) (F:EF) (w:World) (h:jJ x w R) (hE:g_ w x.N A F.len F) (hn:aL n) (hh:gY κ 2 n s F.len=none) (hc:gq κ F=none) (hA:zf x R κ F):
 Calls prog 119 #[.pointer (some ⟨x.mb,0,none⟩),.agg (aI 2 n s A F.len kc)] w λe w'=>e=.returned (.int .i32 (ev x.p.vars R (.cons 2 n s F .nil) 0))/\Ext w w':=by
 have hl0:0<F.len:=by rw [kr hh];decide
 obtain⟨cs0,b0,iM,rfl,hb0,hk0,hg0,wh⟩:=UH rfl hA hE hc (Nat.le_trans h.hN h.hB) hl0;have VG:=J hk0;have VF:=J hg0;have JN:=J hb0;have Hl:=J wh;clear hk0 hg0 hb0 wh;obtain⟨v,hv⟩:∃v,v=ev x.p.vars R (.cons 2 n s F .nil) 0:=⟨_,rfl⟩;rw [<-hv];have HV:=J hv;have y1:Ext w (w.alloc (.cells (aI 2 n s (some ⟨b0,iM,none⟩) F.len kc) 84)):=(kR _ w).alloc _;have hB0:=bN w 84 (aI 2 n s (some ⟨b0,iM,none⟩) F.len kc);refine Vt ?_;intro HM HN HH HI kK hN0 dR qZ;have Ry:(0:Int)<F.len:=by omega
 have XC:=qZ.out.max aj;clear h hE hv hn hh hI hc hN0;go_enter func119,ntmps119;go_upto_region 1 with(fail);generalize (w.alloc (.cells (aI 2 n s (some ⟨b0,iM,none⟩) F.len kc) 84))=W1 at y1 hB0 HM⊢;generalize (w:World).heap.size=g at hB0⊢;have HB:=J hB0;have HY:=J y1;clear y1 hB0;have d0:=HB.out;have d1:=bC d0;have d2:=d0.lt;clear d0;refine Bo ?_;intro u0 BS pW;simp only [Nat.zero_mul,Nat.add_zero]at u0 BS;go_wp2_with fail;refine(Hl.out W1 HY.out HM.out).mono ?_;rintro e w1 ⟨rfl,hx⟩;have HX:=J (HY.out.trans hx);have HO:=J (qB HI.out F 0 kK.out);have oK:=J (bX HB.out hx);have eY:=J (HM.out.ext hx);have E_:=J (Nat.le_trans dR.out HX.out.size);obtain⟨bA,bn,bc,hm1,-⟩:=eY.out.box;have sS:=J hm1;have Ki:=J eY.out.prog
 have sQ:=J (show 0<=aS x.p.vars s/\aS x.p.vars s+(aD x.p.vars s).size<=R.vars.length from by
  have hk:=HH.out;unfold gY at hk;rw [av,if_neg ak,if_pos (.inr rfl),av]at hk;simp only [aP]at hk;exact HI.out.two s (by simpa using hk.2.2))
 clear hx u0 BS pW d1 d2 hm1;obtain⟨v0,hv0⟩:∃v0,v0=ev x.p.vars R F 0:=⟨_,rfl⟩;rw [<-hv0];rw [<-hv0]at HO;have j4:=J hv0;clear hv0;go_upto_region 8 with(fail);have hs0:x.N<=(w1:World).heap.size:=E_.out;apply meet (F:=λW2 vb=>Ext w1 W2/\aH W2 vb 66 (aJ (aD x.p.vars s)))
 case h=>
  intro jr;have KEY:=J jr;clear jr;refine Uz (λwz=>Ext w1 wz) (.op 0 2 (.op 1 2 (.op 2 2 (.op 3 1 (.op 4 2 (.op 5 1 (.fork 6 (.op 7 2 (.op 8 2 (.op 9 2 (.op 10 2 (.op 11 0 (.op 12 2 (.op 13 0 (.op 14 2 .nil)))))))) 11 (.op 6 0 (.op 7 2 (.op 8 2 (.op 9 2 (.op 10 2 (.op 12 2 (.op 13 0 (.op 14 2 .nil))))))))))))))) ?_;refine UA ?_;have bU:=J (show Ext w1 w1.drew from(kR _ w1).drew);refine aiG ?_;refine iE ?_ ?_
  ·(refine dz (λK hK=>?_);go_simp)
   go_wp2_with fail;refine(nR x.c x.p s x.N _ (Nat.le_trans hs0 bU.out.size) (Ki.out.ext bU.out hs0)).mono ?_;rintro e Ve ⟨rfl,hx1⟩;have y2:=bU.out.trans hx1;refine hK.out _ _ (λ_=>y2) ?_;clear hK K;refine m_ ?_;intro K hK;refine acS ?_;clear hK K;intro W2 y3 oQ;have hfl:(w1:World).heap.size<=Ve.heap.size:=y2.size;generalize Ve.heap.size=fb at oQ hfl⊢;have oN:=oQ.bF;have Cw:=bH oQ;refine m_ ?_;intro K hK;have y4:=y3.putAt fb 0 (aJ (aD x.p.vars s)) (λhlt=>absurd hlt aj);have Lv:aH (putAt W2 fb 0 (aJ (aD x.p.vars s))) fb 66 (aJ (aD x.p.vars s)):=aH.gL oQ 0 (aJ (aD x.p.vars s));refine hK.out _ _ (λ_=>y4) ?_;clear hK K oN Cw;refine LY ?_;generalize putAt W2 fb 0 (aJ (aD x.p.vars s))=W3 at y4 Lv⊢;exact KEY.out _ _ ⟨y4,Lv⟩
  ·(refine dz (λK hK=>?_);go_simp)
   have y1':Ext w1 (w1.alloc (.cells #[.string ⟨#[]⟩,.int .i64 0,.int .i64 0,.int .i64 0] 66)).drew:=((kR _ w1).alloc _).drew;refine hK.out _ _ (λ_=>y1') ?_;clear hK K;generalize hWx:(w1.alloc (.cells #[.string ⟨#[]⟩,.int .i64 0,.int .i64 0,.int .i64 0] 66)).drew=Wx at y1'⊢;have nA:aH Wx w1.heap.size 66 #[.string ⟨#[]⟩,.int .i64 0,.int .i64 0,.int .i64 0]:=by rw [<-hWx];exact aH.drew (bN w1 _ _)
   clear hWx;have hfl:(w1:World).heap.size<=w1.heap.size:=Nat.le_refl _;generalize Ir:(w1.heap.size:Nat)=fb at nA hfl⊢;have qZ:=J (show(w1:World).heap.size<=fb by omega);clear hfl Ir;have dX:=J y1';refine m_ ?_;intro K hK;go_wp2_with fail;refine(nR x.c x.p s x.N _ (Nat.le_trans hs0 dX.out.size) (Ki.out.ext dX.out hs0)).mono ?_;rintro e Ve ⟨rfl,hx1⟩;have y2:=dX.out.trans hx1;refine hK.out _ _ (λ_=>y2) ?_;clear hK K y1';have rM:=bX nA hx1;have oN:=rM.bF;have Cw:=bH rM;refine m_ ?_;intro K hK;have y4:=y2.putAt fb 0 (aJ (aD x.p.vars s)) (λhlt=>absurd hlt YS);have Lv:aH (putAt Ve fb 0 (aJ (aD x.p.vars s))) fb 66 (aJ (aD x.p.vars s)):=aH.gL rM 0 (aJ (aD x.p.vars s));refine hK.out _ _ (λ_=>y4) ?_;clear hK K oN Cw;refine LY ?_;generalize putAt Ve fb 0 (aJ (aD x.p.vars s))=W3 at y4 Lv⊢;exact KEY.out _ _ ⟨y4,Lv⟩
 case h2=>
 rintro W2 vb ⟨ye,hvb⟩;have Af:=J hvb;have wF:=J ye;clear ye hvb hs0;have iF:=J (eY.out.ext wF.out);have i1:=bC Af.out;have i2:=Af.out.lt;have hso:=qp Ki.out s;have hso:=hso.size;have hv0:=HO.out;unfold au at hv0;unfold aL at hso;have hkk:=sQ.out
 by_cases hz:0<=v0/\v0<(aD x.p.vars s).size
 ·obtain⟨k,hk⟩:∃k:Nat,aS x.p.vars s=(k:Nat):=⟨(aS x.p.vars s).toNat,by omega⟩
  obtain⟨m,hm⟩:∃m:Nat,v0=(m:Nat):=⟨v0.toNat,by omega⟩;rw [hk];have HKK:=J hk;rw [hk]at hkk;have hvl:=iF.out.vars.1;rw [dQ,Nat.mul_one]at hvl;obtain⟨vg,vc,hv,hrow,-⟩:=gu iF.out.vars aj ak;injection hv with J_ Fj hvc;have hcell:=Row.mem' hrow (k+m) aj;have XB:((k+m:Nat):Int)<x.vn:=by omega
  have hlv:=hrow.lt;obtain⟨bA2,bn2,bc2,hm2,-⟩:=iF.out.box;have i3:W2.cell? ⟨x.mb,11,none⟩=some (.slice (some ⟨vg,0,none⟩) x.vn x.vc):=by rw [<-J_];exact bC hm2 11
  have i4:=hm2.lt;have HZ:=J hz;have HMM:=J hm;have g1:decide (v0<0)=false:=decide_eq_false aj;have g2:decide ((aD x.p.vars s).size<=v0)=false:=decide_eq_false aj;have g3:(k:Int)+v0=((k+m:Nat):Int):=by omega
  have ami:=HI.out.kE;go_wp2_with fail;go_ret;refine⟨lK ?_,HX.out.trans wF.out⟩;rw [HV.out,ev,if_neg ak,if_neg ak,if_pos rfl,<-j4.out,if_neg (by have:=HZ.out;omega),HKK.out,HMM.out]
  rfl
 ·have HZ:=J hz
  go_wp2_with fail
  all_goals go_ret
  all_goals
   refine⟨lK ?_,HX.out.trans wF.out⟩;rw [HV.out,ev,if_neg ak,if_neg ak,if_pos rfl,<-j4.out,if_pos (by have:=HZ.out;omega)]
theorem Em (x:Rx) (R:RS) (κ:Kn) (hI:RInv x.p.vars x.p.seats κ R) (F:EF) (hA:zf x R κ F):EvM x R κ F:=λop n s A kc w h hE hn hh hc=>by
 have ho:=Co hh
 rcases(by omega:op=0∨op=1∨op=2∨op=3∨op=4∨(5<=op/\op<=17))with rfl|rfl|rfl|rfl|rfl|q
 ·exact abf x R κ hI n s A kc F w h hE hn hh hc
 ·exact abg x R κ hI n s A kc F w h hE hn hh hc
 ·exact abh x R κ hI n s A kc F w h hE hn hh hc hA
 ·exact abj x R κ hI n s A kc F w h hE hn hh hc hA
 ·exact abk x R κ hI n s A kc F w h hE hn hh hc hA
 ·exact UF x R κ hI op q n s A kc F w h hE hn hh hc hA
theorem zT (x:Rx) (R:RS) (κ:Kn) (hI:RInv x.p.vars x.p.seats κ R):∀F:EF,EvM x R κ F/\zf x R κ F
 | .nil=>⟨Em x R κ hI .nil trivial,trivial⟩
 | .cons op n s k r=>by
  have hA:zf x R κ (.cons op n s k r):=⟨(zT x R κ hI k).1,(zT x R κ hI r).2⟩;exact⟨Em x R κ hI _ hA,hA⟩
open Go.RowKit So Mc
section
variable {x:Rx} {w w1:World} {R R':RS}
theorem Rx.Ib (h:jJ x w R) {A:Option Addr} {n cp:Nat} {l:List (Str×Int)} (ho:w.ownsRow x.B 98 2 (.slice A n cp) n (aR Cj l)):∀g,(Value.slice A n cp).ownBlock=some g->¬x.S g:=λg hg q=>by
 rcases q with q|q|q
 ·obtain⟨bA,bn,bc,h1,-⟩:=h.box
  subst q;exact dI ho (E':=95) ak _ hg _ _ h1
 ·obtain⟨cur,e⟩:=oC h.vars q
  exact dI ho (E':=21) ak _ hg _ _ e
 ·obtain⟨cur,e⟩:=oC h.asks q
  exact dI ho (E':=21) ak _ hg _ _ e
theorem Rx.SB (h:jJ x w R):∀i,x.S i->x.B<=i:=λi q=>by
 rcases q with q|q|q
 ·rw [q];exact h.GA
 ·exact(h.vars.lt i q).1
 ·exact(h.asks.lt i q).1
theorem Rx.below (h:jJ x w R):∀i,x.S i->x.N<=i:=λi q=>Nat.le_trans h.hN (Rx.SB h i q)
theorem jJ.boxed (h:jJ x w R) (hk:Kept (·=x.mb) w w1) {bA:Option Addr} {bn bc:Nat} (hb:aH w1 x.mb 95 (rmC x.c x.vA x.vn x.vc bA bn bc x.aA x.an x.ac R')) (hbd:w.ownsRow x.B 98 2 (.slice bA bn bc) bn (aR Cj R'.binds))
 (e1:R'.vars=R.vars) (e2:R'.asks=R.asks) (hl:R'.binds.length<=100):jJ x w1 R'/\Kept x.S w w1:=by
 obtain⟨_,_,_,h1,-⟩:=h.box;have hne:∀{E:TypeId} {sz:Nat} {v:Value} {n:Nat} {xs:List Value},w.ownsRow x.B E sz v n xs->¬E=95->∀g,v.ownBlock=some g->¬g=x.mb:=λho hE g hg q=>by subst q;exact dI ho hE _ hg _ _ h1
 refine⟨⟨⟨bA,bn,bc,hb,bS hbd hk (hne hbd ak)⟩,?_,?_,h.prog.kept hk (Nat.le_trans h.hN h.hB) (λi q=>by rw [q];exact Nat.le_trans h.hN h.GA),h.sep,h.hN,Nat.le_trans h.hB hk.size,h.GA,hl⟩,hk.mono λi _ q=>.inl q⟩
 ·rw [e1];exact bS h.vars hk (hne h.vars ak)
 ·rw [e2];exact bS h.asks hk (hne h.asks ak)
theorem LU {w:World} {base g n cp:Nat} {L:List Int} (h:w.ownsRow base 21 1 (.slice (some ⟨g,0,none⟩) n cp) n (aM L)) (j:Nat) (hj:j<n) (v:Int):
 (w.setCell ⟨g,j,none⟩ (.int .i32 v)).ownsRow base 21 1 (.slice (some ⟨g,0,none⟩) n cp) n (aM (L.set j v)):=by
 rcases h.2 with⟨hv,h0⟩|⟨g',c',cur,hv,hb,hc,hnc,hcm,hcs,htk⟩
 ·omega
 ·obtain⟨rfl,rfl⟩:g=g'/\cp=c':=by simpa using hv
  refine⟨by have:=h.1;rw [dQ]at this⊢;simpa using this,.inr ⟨g,cp,cur.setIfInBounds j (.int .i32 v),rfl,hb,?_,hnc,hcm,by simpa using hcs,?_⟩⟩
  ·simp [World.setCell,Array.getElem?_modify,hc]
  ·rw [Array.toList_setIfInBounds,List.take_set,htk]
   simp [aM,List.map_set]
theorem qN {w:World} {base:Nat} {A:Option Addr} {n cp:Nat} {L:List Int} (h:w.ownsRow base 21 1 (.slice A n cp) n (aM L)) (hn:0<n):∃g,A=some ⟨g,0,none⟩/\base<=g/\g<w.heap.size/\(∀k,w.frozen? ⟨g,k,none⟩=false)/\Row w g 0 (aM L):=by
 rcases h.2 with⟨hv,h0⟩|⟨g,c,cur,hv,hb,hc,-⟩
 ·omega
 ·obtain⟨g',c',hv',hr,-⟩:=gu h hn aj
  obtain⟨rfl,-⟩:g=g'/\c=c':=by rw [hv]at hv';simpa using hv'
  exact⟨g,by injection hv,hb,(Array.getElem?_eq_some_iff.1 hc).1,λk=>by simp [World.frozen?,hc],hr⟩
theorem jJ.Ev (h:jJ x w R) {g:Nat} (hA:x.vA=some ⟨g,0,none⟩) (j:Nat) (hj:j<x.vn) (v:Int):jJ x (w.setCell ⟨g,j,none⟩ (.int .i32 v)) {R with vars:=R.vars.set j v}/\Kept x.S w (w.setCell ⟨g,j,none⟩ (.int .i32 v)):=by
 have hg:x.v.ownBlock=some g:=by unfold Rx.v;rw [hA];rfl
 have hk:Kept (·=g) w (w.setCell ⟨g,j,none⟩ (.int .i32 v)):=Kept.setCell (kR _ _) _ _ (λ_=>rfl);obtain⟨cur,hty⟩:=oC h.vars hg;obtain⟨bA,bn,bc,h1,h2⟩:=h.box;refine⟨⟨⟨bA,bn,bc,h1.kept hk (λq=>by rw [<-q]at hty;rw [show w.heap[x.mb]?=_ from h1]at hty;cases hty),bS h2 hk (λi hi q=>by subst q;exact dI h2 (E':=21) ak _ hi _ _ hty)⟩,?_,bS h.asks hk (λi hi q=>by subst q;exact h.sep _ hg hi),h.prog.kept hk (Nat.le_trans h.hN h.hB) (λi q=>by rw [q];exact Nat.le_trans h.hN (h.vars.lt g hg).1),h.sep,h.hN,Nat.le_trans h.hB hk.size,h.GA,h.len⟩,hk.mono λi _ q=>.inr (.inl (by rw [q];exact hg))⟩;have hv:=h.vars;unfold Rx.v at hv⊢;rw [hA]at hv⊢;exact LU hv j hj v
theorem jJ.PW (h:jJ x w R) {g:Nat} (hA:x.aA=some ⟨g,0,none⟩) (j:Nat) (hj:j<x.an) (v:Int):jJ x (w.setCell ⟨g,j,none⟩ (.int .i32 v)) {R with asks:=R.asks.set j v}/\Kept x.S w (w.setCell ⟨g,j,none⟩ (.int .i32 v)):=by
 have hg:x.a.ownBlock=some g:=by unfold Rx.a;rw [hA];rfl
 have hk:Kept (·=g) w (w.setCell ⟨g,j,none⟩ (.int .i32 v)):=Kept.setCell (kR _ _) _ _ (λ_=>rfl);obtain⟨cur,hty⟩:=oC h.asks hg;obtain⟨bA,bn,bc,h1,h2⟩:=h.box;refine⟨⟨⟨bA,bn,bc,h1.kept hk (λq=>by rw [<-q]at hty;rw [show w.heap[x.mb]?=_ from h1]at hty;cases hty),bS h2 hk (λi hi q=>by subst q;exact dI h2 (E':=21) ak _ hi _ _ hty)⟩,bS h.vars hk (λi hi q=>by subst q;exact h.sep _ hi hg),?_,h.prog.kept hk (Nat.le_trans h.hN h.hB) (λi q=>by rw [q];exact Nat.le_trans h.hN (h.asks.lt g hg).1),h.sep,h.hN,Nat.le_trans h.hB hk.size,h.GA,h.len⟩,hk.mono λi _ q=>.inr (.inr (by rw [q];exact hg))⟩;have hv:=h.asks;unfold Rx.a at hv⊢;rw [hA]at hv⊢;exact LU hv j hj v
end
/-! ### plain -/
theorem uZ:∀F:SF,SX (λ_ _ _=>True) F
 | .nil=>trivial
 | .cons _ _ _ _ _ l x r=>by
  unfold SX;exact⟨trivial,λ_=>uZ l,λ_=>uZ x,uZ r⟩
structure RQ (n:Nat) (s:Int) (R:RS):Prop where
 kE:R.vars.length=n
 J2:∀v∈R.vars,au v
 lZ:(R.asks.length:Int)=s
 Kw:∀v∈R.asks,0<=v/\v<=1073741823
theorem JG {P:Int->Prop} {l:List Int} (h:∀v∈l,P v) {x:Int} (hx:P x) (j:Nat):∀v∈l.set j x,P v:=λv hv=>by
 rcases List.mem_or_eq_of_mem_set hv with q|q
 ·exact h v q
 ·rw [q];exact hx
theorem aeH {n:Nat} {s:Int} (V:List Vr) (seats kind:Int) (name:Str) (e:EF) (low:Int) {R:RS} (h:RQ n s R):RQ n s (Al V seats kind name e low R):=by
 unfold Al
 split
 ·exact⟨by simpa using h.kE,JG h.J2 (lM _) _,h.lZ,h.Kw⟩
 ·split
  ·split
   ·exact⟨by simpa using h.kE,JG h.J2 (lM _) _,h.lZ,h.Kw⟩
   ·exact h
  ·split
   ·exact⟨h.kE,h.J2,h.lZ,h.Kw⟩
   ·split
    ·exact⟨h.kE,h.J2,h.lZ,h.Kw⟩
    ·split
     ·exact⟨h.kE,h.J2,h.lZ,h.Kw⟩
     ·split
      ·exact⟨h.kE,h.J2,h.lZ,h.Kw⟩
      ·split
       ·exact⟨h.kE,h.J2,by simpa using h.lZ,JG h.Kw (Cn kG kG aj) _⟩
       ·split
        ·exact⟨h.kE,h.J2,h.lZ,h.Kw⟩
        ·exact h
theorem Ym {n:Nat} {s:Int} (V:List Vr) (seats:Int) (F:SF) {R:RS} (h:RQ n s R):RQ n s (oL V seats F R):=
 yg (λ_ _ _=>True) (RQ n s) V seats (λkind name e low _ _ h=>aeH V seats kind name e low h) (λ_ _ h=>⟨h.kE,h.J2,h.lZ,h.Kw⟩) F R (uZ F) h
theorem RInv.rq {V:List Vr} {se:Int} {κ:Kn} {R:RS} (h:RInv V se κ R):RQ R.vars.length se R:=⟨rfl,h.J2,h.lZ,h.Kw⟩
theorem RInv.acL {V:List Vr} {se:Int} {κ:Kn} {R R':RS} (h:RInv V se κ R) (hq:RQ R.vars.length se R') (hb:R'.binds=R.binds):RInv V se κ R':=
 ⟨h.le3,λs q=>by rw [hq.kE];exact h.one s q,λs q=>by rw [hq.kE];exact h.two s q,λs q=>by rw [hb];exact h.fix s q,hq.J2,by rw [hq.kE];exact h.kE,by rw [hb];exact h.bok,h.hs,hq.lZ,hq.Kw⟩
theorem L6 {V:List Vr} {se:Int} {κ:Kn} {R:RS} (h:RInv V se κ R) (F:SF):RInv V se κ (oL V se F R):=h.acL (Ym V se F h.rq) (qz V se F R)
theorem Oi (B:List (Str×Int)) (s t:Str) (v:Int):iq (B++[(s,v)]) t=match iq B t with|some u=>some u|none=>if s=t then some v else none:=by
 unfold iq;rw [List.find?_append]
 cases hq:B.find? (λx=>decide (x.1=t))with
 |none=>by_cases e:s=t<;>simp [e]
 |some b=>simp
theorem RInv.into {V:List Vr} {se:Int} {κ:Kn} {R:RS} (h:RInv V se κ R) (name:Str) (i:Int) (hi:au i):RInv V se (upd κ name 3) {R with binds:=R.binds++[(name,i)]}:=by
 refine⟨λs=>?_,λs q=>?_,λs q=>?_,λs q=>?_,h.J2,h.kE,λb hb=>?_,h.hs,h.lZ,h.Kw⟩
 ·unfold upd;split;exact Nat.le_refl _;exact h.le3 s
 ·unfold upd at q;split at q;omega;exact h.one s q
 ·unfold upd at q;split at q;omega;exact h.two s q
 ·rw [Oi]
  by_cases e:s=name
  ·cases hq:iq R.binds s with
   |none=>exact⟨i,by rw [if_pos e.symm]⟩
   |some u=>exact⟨u,rfl⟩
  ·unfold upd at q
   rw [if_neg e]at q;obtain⟨v,hv⟩:=h.fix s q;exact⟨v,by rw [hv]⟩
 ·rcases List.mem_append.1 hb with q|q
  ·exact h.bok b q
  ·simp at q;rw [q];exact hi
end Go.Proofs.YtbfbabbcdochjaaGreatDoor
