import Derived.Test.YtnhelcmddjbafaaGreatDoorTaas
import Derived.Test.YtnhelcmddjbafaaGreatDoorTaat
set_option maxHeartbeats 4000000
set_option maxRecDepth 100000
open Go.Proofs.Tryz
namespace Go.Proofs.YtnhelcmddjbafaaGreatDoor
open Go.RowKit
namespace Mc
variable{dst:Option Tmp}{pos:String}{after:Array Edge}{guard:Option (Nat×Bool)}
section
variable (h s:Int)
include h s
theorem XI (v) (w):Calls prog 61 #[.pointer none,.int .i64 h,.int .i64 s,v] w λe w'=>e=.returned (.int .i64 1)/\w=w':=by
 go_enter func61,ntmps61;go_wp21;go_ret;exact⟨rfl,rfl⟩
theorem Vl (d:Dg) (w):Calls prog 23 #[.pointer none,.int .i64 h,.int .i64 s,.agg d.cells] w λe w'=>e=.returned (.int .i64 1)/\al w w':=by
 have y0:=dz w (.cells d.cells 25);go_enter func23,ntmps23;go_upto_region 1 with(fail);generalize (w.alloc (.cells d.cells 25))=w1 at y0⊢;exact aaP
theorem Mh (f) (w):Calls prog 25 #[.pointer none,.int .i64 h,.int .i64 s,.bool f] w λe w'=>e=.returned (.int .i64 1)/\al w w':=by
 have y0:=dz w (.cells #[.bool f] 4);go_enter func25,ntmps25;go_upto_region 1 with(fail);generalize (w.alloc (.cells #[.bool f] 4))=w1 at y0⊢;exact aaP
theorem Qh (x:Ws) (w):Calls prog 27 #[.pointer none,.int .i64 h,.int .i64 s,.agg x.cells] w λe w'=>e=.returned (.int .i64 1)/\al w w':=by
 have y0:=dz w (.cells x.cells 74);go_enter func27,ntmps27;go_upto_region 1 with(fail);generalize (w.alloc (.cells x.cells 74))=w1 at y0⊢;exact aaP
theorem Tp (w):Calls prog 15 #[.pointer none,.int .i64 h,.int .i64 s] w λe w'=>e=.returned (.int .i64 1)/\w=w':=by
 go_enter func15,ntmps15;go_wp21;go_ret;exact⟨rfl,rfl⟩
end
theorem Za (h) (w):Calls prog 21 #[.pointer none,.int .i64 h] w λe w'=>e=.returned (.int .i64 1)/\w=w':=by
 go_enter func21,ntmps21;go_wp21;go_ret;exact⟨rfl,rfl⟩
section
variable (w:World)
include w
theorem Qc:Calls prog 26 #[.pointer none] w λe w'=>e=.returned (.int .i64 (-1))/\w=w':=by
 go_enter func26,ntmps26;go_wp21;go_ret;exact⟨rfl,rfl⟩
theorem Qe:Calls prog 18 #[.pointer none] w λe w'=>e=.returned (.int .i64 (-1))/\w=w':=by
 go_enter func18,ntmps18;go_wp21;go_ret;exact⟨rfl,rfl⟩
theorem Qf:Calls prog 17 #[.pointer none] w λe w'=>e=.returned (.int .i64 0)/\w=w':=by
 go_enter func17,ntmps17;go_wp21;go_ret;exact⟨rfl,rfl⟩
theorem Qi:Calls prog 24 #[.pointer none] w λe w'=>e=.returned (.int .i64 0)/\w=w':=by
 go_enter func24,ntmps24;go_wp21;go_ret;exact⟨rfl,rfl⟩
theorem Qd:Calls prog 28 #[.pointer none] w λe w'=>e=.returned (.pointer none)/\w=w':=by
 go_enter func28,ntmps28;go_wp21;go_ret;exact⟨rfl,rfl⟩
theorem Vh:Calls prog 29 #[.pointer none,.pointer none] w λe w'=>e=.returned (.bool true)/\w=w':=by
 go_enter func29,ntmps29;go_wp21;go_ret;exact⟨rfl,rfl⟩
end
theorem Vi (b) (w):Calls prog 29 #[.pointer none,.pointer (some ⟨b,0,none⟩)] w λe w'=>e=.returned (.bool false)/\w=w':=by
 go_enter func29,ntmps29;go_wp21;go_ret;exact⟨rfl,rfl⟩
theorem Vj (w):Calls prog 22 #[.pointer none] w λe w'=>e=.returned (.tuple #[.int .i64 0,.int .i64 0,.agg Dg.zero.cells,.agg Dg.zero.cells])/\al w w':=by
 have y0:=(dz w (.cells Dg.zero.cells 25)).alloc (.cells Dg.zero.cells 25);have b1:aj _ w.heap.size 25 Dg.zero.cells:=(bN w _ _).alloc (.cells Dg.zero.cells 25);have b2:aj _ (w.heap.size+1) 25 Dg.zero.cells:=aj.d_ (w.alloc (.cells Dg.zero.cells 25)) _ _ _ aC;go_enter func22,ntmps22;go_upto_region 1 with(fail);generalize ((w.alloc (.cells Dg.zero.cells 25)).alloc (.cells Dg.zero.cells 25))=w2 at y0 b1 b2⊢;generalize hg:(w:World).heap.size=g at b1 b2⊢;have⟨Jy,mP,HY,HG⟩:=J4' b1 b2 y0 hg;have i1:=bH b1;have i2:=aj.aJ b1;have i3:=b1.lt;have j1:=bH b2;have j2:=aj.aJ b2;have j3:=b2.lt;clear b1 b2 y0 hg;go_wp21;refine DE results22 rfl rfl rfl dK ke (bK (aj.cI Jy.o 0 Dg.zero.cells) (Kept.putAt (S:=(·=g+1)) (kR _ _) (g+1) 0 Dg.zero.cells (λ_=>rfl)) ad) dK ke (aj.cI (bK mP.o (Kept.putAt (S:=(·=g)) (kR _ _) g 0 Dg.zero.cells (λ_=>rfl)) ad) 0 Dg.zero.cells) ⟨rfl,?_⟩;exact Kept.putAt (Kept.putAt HY.o _ _ _ (λh=>by have:=HG.o;omega)) _ _ _ (λh=>by have:=HG.o;omega)
open Sq
def uc (bw aS window:Int):Int:=if Lg bw=false then 28 else if og aS=false∨window<1∨1048576<window then 2 else 0
theorem Vg (part) (vs ag:iu) (fh:Int) (A') (gn gk) (aN bw aS window) (w):
 Calls prog 14 #[.pointer none,.int .i64 part,vs.v,ag.v,.agg (ai fh A' gn gk aN),.int .i64 bw,.int .i64 aS,.int .i64 window] w λe w'=>e=.returned (.tuple #[.pointer none,.int .i64 1])/\al w w':=by
 have y0:=dz w (.cells (ai fh A' gn gk aN) 47);go_enter func14,ntmps14;go_upto_region 1 with(fail);generalize (w.alloc (.cells (ai fh A' gn gk aN) 47))=W1 at y0⊢;go_wp21
 go_ret2
 exact⟨rfl,y0⟩
def NB (p:Pr) (fh aN:Int) (gn:Nat) (bw aS window E:Int):Prop:=(Lg bw=false/\E=28)∨(Lg bw=true/\(og aS=false∨(og aS=true/\window<1)∨(og aS=true/\¬window<1/\1048576<window))/\E=2)∨  (Lg bw=true/\og aS=true/\¬window<1/\¬1048576<window/\(dj fh aN gn=false∨(dj fh aN gn=true/\¬gn=bI p)∨(dj fh aN gn=true/\gn=bI p/\aN=0))/\E=3)
theorem G5 (cb N:Nat) (k:Cd) (p:Pr) (part:Nat) (_hp5:part<5) (vs ag:iu) (V Ar:List Int) (fh:Int) (A':Option Addr) (gn gk:Nat) (aN bw aS window E:Int) (w:World) (hN:N<=w.heap.size) (hC:gj w N cb k p) (hv:mR w N vs V) (ha:mR w N ag Ar) (hk:Bd p) (rY:gx p part V Ar=0)
 (ajN:NB p fh aN gn bw aS window E):
 Calls prog 14 #[.pointer (some ⟨cb,0,none⟩),.int .i64 part,vs.v,ag.v,.agg (ai fh A' gn gk aN),.int .i64 bw,.int .i64 aS,.int .i64 window] w λe w'=>e=.returned (.tuple #[.pointer none,.int .i64 E])/\al w w':=by
 have⟨HC,HV,HA,HN,HK,WK,SB⟩:=J7' hC hv ha hN hk rY ajN;clear hC hv ha hN hk rY ajN;have y0:=dz w (.cells (ai fh A' gn gk aN) 47);have b0:=bN w 47 (ai fh A' gn gk aN);go_enter func14,ntmps14;go_upto_region 1 with(fail);generalize (w.alloc (.cells (ai fh A' gn gk aN) 47))=W1 at y0 b0⊢;generalize (w:World).heap.size=lb at b0⊢;have vt:=J b0;have bT:=J y0;clear b0 y0;go_wp2_with fail;refine(qp cb N k p part vs ag V Ar _ (ay HN.o bT.o.size) (HC.o.ext bT.o) (HV.o.ext bT.o) (HA.o.ext bT.o) HK.o).mono ?_;rintro e w2 ⟨y2,ho⟩;have fg:=J (bT.o.trans y2);have mP:=J (bX vt.o y2);clear y2
 cases ho with
 |bad abU=>exact absurd WK.o abU
 |ok _ fb qt hF=>
  have y3:=dz w2 (.cells (ai 0 (some ⟨fb,0,none⟩) (bI p) (bI p) 0) 47);go_upto_region 4 with(fail);generalize (w2.alloc (.cells (ai 0 (some ⟨fb,0,none⟩) (bI p) (bI p) 0) 47))=w3 at y3⊢;have eP:=J (fg.o.trans y3);have ot:=J (bX mP.o y3);clear y3 hF qt;go_wp2_with fail;refine uW (uV bw _) ?_
  rcases SB.o with⟨h1,rfl⟩|⟨h1,h2,rfl⟩|⟨h1,h2,h3,h4,h5,rfl⟩
  .go_wp2_with fail
   go_ret2
   exact⟨rfl,eP.o⟩
  .go_wp2_with fail
   refine uW (gJ aS _) ?_
   rcases h2 with h2|⟨h2,h3⟩|⟨h2,h3,h4⟩
   all_goals
    go_wp2_with fail
    go_ret2
    exact⟨rfl,eP.o⟩
  .go_wp2_with fail
   refine uW (gJ aS _) ?_
   have Fk:0<=k.cells/\k.cells<=1000:=by
    have:=HK.o.cells;have:=eS p.vars;rw [HC.o.kc];omega
   have zj:=J Fk
   have hg:bI p=k.cells+49:=by
    unfold bI;rw [HC.o.kc]at Fk⊢
    omega
   have HG:=J hg;clear Fk hg
   rcases h5 with h5|⟨h5,h6⟩|⟨h5,h6,h7⟩
   .go_upto_region 10 with(fail)
    refine aaz ?_;have yd:al w3 w3.drew:=(kR _ w3).drew
    repeat first|refine bV ?_|refine cF yd Qv ?_|refine cD yd ?_
    refine ap (λK hK=>?_);go_simp;go_wp2_with fail;refine kU (fM fh aN A' gn gk _) λw4 eV=>?_;have y4:=yd.trans eV;refine hK.out _ _ (λ_=>y4) ?_;clear hK K;rw [h5]
    repeat first|refine bV ?_|refine cF y4 Qv ?_|refine cD y4 ?_
    refine QG ?_;intro K hK;exact aeO
   .have g1:((gn:Int) !=k.cells+49)=true:=by
     have:=HG.o;simp;omega
    go_upto_region 10 with(fail);refine aaz ?_;have yd:al w3 w3.drew:=(kR _ w3).drew
    repeat first|refine bV ?_|refine cF yd Qv ?_|refine cD yd ?_
    refine ap (λK hK=>?_);go_simp;go_wp2_with fail;refine(fM fh aN A' gn gk _).mono ?_;exact amX
   .have g1:((gn:Int) !=k.cells+49)=false:=by
     have:=HG.o;simp;omega
    subst h7;clear h6;go_upto_region 10 with(fail);refine aaz ?_;have yd:al w3 w3.drew:=(kR _ w3).drew
    repeat first|refine bV ?_|refine cF yd Qv ?_|refine cD yd ?_
    refine ap (λK hK=>?_);go_simp;go_wp2_with fail;refine(fM fh 0 A' gn gk _).mono ?_;exact amX
theorem yl:gB prog 78=true:=by kernel_rfl
theorem tF:dw prog 78=some 9:=by kernel_rfl
theorem Hc {eY} {x} {a} {w} {K} {Q} (hx:eG (a.eval x)=true) (hh:has w (aL (a.eval x)) (aM (a.eval x)) 9=true):
 Oper.wp prog ⟨dst,.load 78 x,eY,pos,after,guard⟩ a w K Q=K (a.put dst (.agg (gets w (aL (a.eval x)) (aM (a.eval x)) 9))) w:=bB 9 yl tF hx hh
theorem P0 {ρ} {eY} {x} {w} (hx:eG (ρ x)=true) (hh:has w (aL (ρ x)) (aM (ρ x)) 9=true):
 (execOp ρ ⟨dst,.load 78 x,eY,pos,after,guard⟩).run prog w=.ok (.value (.agg (gets w (aL (ρ x)) (aM (ρ x)) 9))) w:=aH 9 yl tF hx hh
theorem O6 (w) (g off) (hh:has w g off 9=true):(loadVar 78 ⟨g,off,none⟩).run prog w=.ok (.agg (gets w g off 9)) w:=cN prog w _ g off 9 yl tF hh
attribute [go_sem] yl tF
attribute [go_sem↓high] Hc O6 P0
attribute [go_sem high] Hc
attribute [go_sem] H9.cells
theorem GN (n) (w):Calls prog 74 #[.int .i64 n] w λe w'=>e=.returned (.bool (og n))/\w=w':=by
 unfold og
 by_cases h:0<=n
 .go_enter func74,ntmps74
  go_wp21;go_ret;exact⟨by simp [h],rfl⟩
 .go_enter func74,ntmps74
  go_wp21;go_ret;exact⟨by simp;omega,rfl⟩
def IV (bw depth aS window:Int):H9:=if uc bw aS window=0 then⟨bw,window,depth,0,aS+window,-1,0,0,false⟩else⟨0,0,0,0,0,0,0,0,false⟩
theorem Pq (bw aS window):(bw<0/\uc bw aS window=28)∨(¬bw<0/\7<bw/\uc bw aS window=28)∨(¬bw<0/\¬7<bw/\og aS=false/\uc bw aS window=2)∨(¬bw<0/\¬7<bw/\og aS=true/\window<1/\uc bw aS window=2)∨
 (¬bw<0/\¬7<bw/\og aS=true/\¬window<1/\1048576<window/\uc bw aS window=2)∨(¬bw<0/\¬7<bw/\og aS=true/\¬window<1/\¬1048576<window/\uc bw aS window=0):=by
 unfold uc Lg
 cases h:og aS<;>(simp;omega)
theorem PS (bw depth aS window) (w):Calls prog 31 #[.int .i64 bw,.int .i64 depth,.int .i64 aS,.int .i64 window] w λe w'=>e=.returned (.tuple #[.agg (IV bw depth aS window).cells,.int .i64 (uc bw aS window)])/\al w w':=by
 obtain⟨R,hR⟩:=nm' (IV bw depth aS window);obtain⟨E,hE⟩:=nm' (uc bw aS window);rw [<-hR,<-hE];have HR:=J hR;have HE:=J hE;clear hR hE;have y0:=dz w (.cells (⟨0,0,0,0,0,0,0,0,false⟩:H9).cells 78);have b0:=bN w 78 (⟨0,0,0,0,0,0,0,0,false⟩:H9).cells;go_enter func31,ntmps31;go_upto_region 1 with(fail);generalize (w.alloc (.cells (⟨0,0,0,0,0,0,0,0,false⟩:H9).cells 78))=W1 at y0 b0⊢;generalize hg:(w:World).heap.size=g at b0⊢;have⟨HG,HY,HB⟩:=J3' hg y0 b0;have i1:=bH b0;have i2:=aj.aJ b0;have i3:=b0.lt;clear y0 b0 hg
 rcases Pq bw aS window with⟨h1,he⟩|⟨h1,h2,he⟩|⟨h1,h2,h3,he⟩|⟨h1,h2,h3,h4,he⟩|⟨h1,h2,h3,h4,h5,he⟩|⟨h1,h2,h3,h4,h5,he⟩
 .have hr:R=⟨0,0,0,0,0,0,0,0,false⟩:=by rw [HR.o];unfold IV;rw [he];rfl
  exact anC
 .have hr:R=⟨0,0,0,0,0,0,0,0,false⟩:=by rw [HR.o];unfold IV;rw [he];rfl
  exact anC
 .have hr:R=⟨0,0,0,0,0,0,0,0,false⟩:=by rw [HR.o];unfold IV;rw [he];rfl
  exact aij
 .have hr:R=⟨0,0,0,0,0,0,0,0,false⟩:=by rw [HR.o];unfold IV;rw [he];rfl
  exact aij
 .have hr:R=⟨0,0,0,0,0,0,0,0,false⟩:=by rw [HR.o];unfold IV;rw [he];rfl
  exact aij
 .have hr:R=⟨bw,window,depth,0,aS+window,-1,0,0,false⟩:=by rw [HR.o];unfold IV;rw [he];rfl
  obtain rfl:E=0:=HE.o.trans he;have hw:wrap64 (aS+window)=aS+window:=ld _ (by simp only [og,fz,gZ]at h3;omega);clear he;subst hr;go_wp21;refine uW (GN aS _) ?_;go_wp21;exact eB (t:=78) (g:=g) (cs:=(⟨bw,window,depth,0,aS+window,-1,0,0,false⟩:H9).cells) results31 rfl rfl yl (by exact tF) (by exact aj.cI HB.o 0 _) ⟨rfl,Kept.putAt HY.o _ _ _ (λh=>by have:=HG.o;omega)⟩
theorem Vf (cb N) (k) (p) (part) (vs ag) (V Ar) (fh) (A') (gn gk:Nat) (aN bw aS window:Int) (w:World) (hN:N<=w.heap.size) (hC:gj w N cb k p) (hv:mR w N vs V) (ha:mR w N ag Ar) (hk:Bd p) (rY:gx p part V Ar=1):
 Calls prog 14 #[.pointer (some ⟨cb,0,none⟩),.int .i64 part,vs.v,ag.v,.agg (ai fh A' gn gk aN),.int .i64 bw,.int .i64 aS,.int .i64 window] w λe w'=>e=.returned (.tuple #[.pointer none,.int .i64 1])/\al w w':=by
 have HF:=J rY;clear rY;have y0:=dz w (.cells (ai fh A' gn gk aN) 47);have⟨HN,HC,HV,HA⟩:=J4' (ay hN y0.size) (hC.ext y0) (hv.ext y0) (ha.ext y0);clear hN hC hv ha;go_enter func14,ntmps14;go_upto_region 1 with(fail);generalize (w.alloc (.cells (ai fh A' gn gk aN) 47))=W1 at y0 HN HC HV HA⊢;go_wp21;refine(qp cb N k p part vs ag V Ar _ HN.o HC.o HV.o HA.o hk).mono ?_;rintro e w2 ⟨y2,ho⟩;have fg:=J (y0.trans y2);clear y2 y0
 cases ho with
 |bad abU=>
  rw [HF.o];have y3:=fg.o.alloc (.cells (ai 0 none 0 0 0) 47);go_upto_region 2 with(fail);generalize (w2.alloc (.cells (ai 0 none 0 0 0) 47))=w3 at y3⊢;go_wp21
  go_ret2
  exact⟨rfl,y3⟩
 |ok h _ _ _=>
  rw [HF.o]at h
  cases h
theorem Ps (bw aS window):(uc bw aS window=0/\Lg bw=true/\og aS=true/\¬window<1/\¬1048576<window)∨(¬uc bw aS window=0/\((Lg bw=false/\uc bw aS window=28)∨
 (Lg bw=true/\(og aS=false∨(og aS=true/\window<1)∨(og aS=true/\¬window<1/\1048576<window))/\uc bw aS window=2))):=by
 unfold uc
 cases h1:Lg bw<;>cases h2:og aS<;>simp
 omega
theorem Ug (c:Pc) (p:Pr) (part:Int) (j:Nat) (Br:j<5) (hj:wrap64 ((IntKind.u64.wrap part).tmod 5)=(j:Int)) (vs ag:iu) (V A:List Int) (bw h0 h1 h2 h3:Int) (w:World)
 (h:lZ w w.heap.size c p) (hL:ew w) (hO:OpsAt w) (mE:Ho c) (hz:dE p<=1099511627776) (hv:mR w w.heap.size vs V) (ha:mR w w.heap.size ag A):
 Calls prog 6 #[.agg (BB c part vs ag),.int .i64 bw,.agg #[.int .i64 h0,.int .i64 h1,.int .i64 h2,.int .i64 h3]] w λe w'=>e=.returned (.bool true)/\al w w':=by
 have y0:=(dz w (.cells (BB c part vs ag) 42)).alloc (.cells #[.int .i64 h0,.int .i64 h1,.int .i64 h2,.int .i64 h3] 68);have b0:aj _ w.heap.size 42 (BB c part vs ag):=aj.alloc (bN w _ _) (.cells #[.int .i64 h0,.int .i64 h1,.int .i64 h2,.int .i64 h3] 68);have b1:aj _ (w.heap.size+1) 68 #[.int .i64 h0,.int .i64 h1,.int .i64 h2,.int .i64 h3]:=aj.d_ (w.alloc (.cells (BB c part vs ag) 42)) _ _ _ aC;refine aap ?_;intro iq fx HL HO HV HA HZ BU HJ;clear h hL hO mE hz hv ha hj Br;go_enter func6,ntmps6;go_upto_region 1 with(fail);generalize ((w.alloc (.cells (BB c part vs ag) 42)).alloc (.cells #[.int .i64 h0,.int .i64 h1,.int .i64 h2,.int .i64 h3] 68))=W1 at y0 b0 b1 iq fx HL HO HV HA⊢;generalize uR:(w:World).heap.size=ob at b0 b1 iq fx HV HA⊢;have⟨vt,Jy,bT⟩:=J3' b0 b1 y0;clear b0 b1 y0;go_wp21;refine kU (Vj _) λwa OG=>?_;go_upto_region 3 with(fail);have ya:=(OG.alloc (.cells Dg.zero.cells 25)).alloc (.cells Dg.zero.cells 25);generalize ((wa.alloc (.cells Dg.zero.cells 25)).alloc (.cells Dg.zero.cells 25))=Wa at ya⊢;clear OG;go_wp21;refine uW (Tp 0 0 _) ?_;go_wp21;refine kU (Vl 0 0 Dg.zero _) λwb hxb=>?_;go_wp21;refine kU (Mh 0 0 true _) λwc hxc=>?_;go_wp21;refine kU (Qh 0 0 ⟨0,0,0,Dg.zero,⟨0,0,0,0⟩,none,0,0,none,0,0,none,0,0⟩ _) λwd hxd=>?_;have yd:=ya.trans (hxb.trans (hxc.trans hxd));clear ya hxb hxc hxd;go_wp21;refine uW (Za 0 _) ?_;go_wp21;refine uW (Qc _) ?_;go_wp21;refine uW (Qe _) ?_;go_wp21;refine uW (Qf _) ?_;go_wp21;refine uW (Qi _) ?_;go_wp21;refine uW (Qd _) ?_;go_wp21;refine uW (Vh _) ?_;have hbo:=bX vt.o yd;have i1:=bH hbo;have i2:=bG hbo;have i3:=hbo.lt;have HYD:=J yd;clear hbo yd;go_wp21;refine(xi c p part j HJ.o.1 HJ.o.2 vs ag V A ob _ (ay fx.o HYD.o.size) (iq.o.ext HYD.o fx.o) (HL.o.ext HYD.o) (HO.o.ext HYD.o) BU.o HZ.o (HV.o.ext HYD.o) (HA.o.ext HYD.o)).mono ?_;rintro e w2 ⟨y2,ho⟩;have fN:=J (HYD.o.trans y2);have fg:=J (bT.o.trans fN.o);have mP:=J (bX Jy.o fN.o);clear y2 i1 i2 i3
 rcases Bo HJ.o.1 HZ.o ho with⟨P,fi,fs,AV,rfl⟩|⟨k,x,m0,m1,l,V',A',n,N,L,dd,hc,rfl⟩
 .have y3:=fN.o.alloc (.cells (c13 P fi fs) 50)
  go_upto_region 7 with(fail);exact aeW
 clear ho;refine adx ?_;intro y3 b3;go_upto_region 8 with(fail);generalize (w2.alloc (.cells (x.cells n N L dd) 50))=w3 at y3 b3⊢;have akH:=mP.o.lt;generalize (w2:World).heap.size=cb at b3 akH⊢;have⟨n7,ot,gO,eP,HBH,HBO⟩:=J6' (hc.ext y3) b3 (fN.o.trans y3) (fg.o.trans y3) (bX mP.o y3) (show ob+1<cb from akH);have i1:=bC b3;have i2:=bH b3;have i3:=bG b3;have i4:=b3.lt;clear b3 y3 hc;go_wp21;have hr:=bU n7.o.gr;refine(lE x.fh x.aN x.gb 0 x.gk m1 n n7.o.at_.gn (by have:=hr.1;omega) (by have:=hr.2.1;omega) _ n7.o.at_.grow).mono ?_;rintro e w4 ⟨v,rfl,gb,gc,rfl,zL,hx⟩;have BX:=J zL;have eK:=J hx;clear zL hx hr i1 i2 i3 i4;have hl4:w3.heap.size<=w4.heap.size:=eK.o.size;have y5:=eK.o.alloc (.cells (ai x.fh (some ⟨gb,0,none⟩) n gc x.aN) 47);have b5:=bN w4 47 (ai x.fh (some ⟨gb,0,none⟩) n gc x.aN);go_upto_region 9 with(fail);have r5:=BX.o.row.ext (dz w4 (.cells (ai x.fh (some ⟨gb,0,none⟩) n gc x.aN) 47));generalize (w4.alloc (.cells (ai x.fh (some ⟨gb,0,none⟩) n gc x.aN) 47))=w5 at y5 b5 r5⊢;have HR5:=J r5;generalize Wk:(w4:World).heap.size=lb at b5 hl4⊢;have⟨HLB,HE5,MZ,tN,anW,QS,k_,uz,vu⟩:=J9' hl4 y5 (n7.o.ext y5) (bX ot.o y5) (bX HBH.o y5) b5 (gO.o.trans y5) (eP.o.trans y5) (show cb<lb by have:=(bX ot.o eK.o).lt;omega);have j1:=bH b5;have j2:=bG b5;have j3:=b5.lt;have i1:=bC tN.o;have i4:=tN.o.lt;clear y5 b5 Wk hl4 r5;go_wp21;refine kU (Vg x.part x.vs x.ag x.fh (some ⟨gb,0,none⟩) n gc x.aN 0 0 1 _) λw6 y6=>?_;have⟨HE6,HR6,xX,HB6,anX,HS6,pu,sQ⟩:=J8' (HE5.o.trans y6) (HR5.o.ext y6) (MZ.o.ext y6) (bX tN.o y6) (bX anW.o y6) (bX QS.o y6) (k_.o.trans y6) (uz.o.trans y6);clear y6 i1 i4 j1 j2 j3;have j1:=bH HS6.o;have j2:=bG HS6.o;have j3:=HS6.o.lt;have i1:=bC HB6.o;have i4:=HB6.o.lt;go_wp21;refine(Vf x.cb w6.heap.size k p 5 x.vs x.ag V' A' x.fh (some ⟨gb,0,none⟩) n gc x.aN 0 0 1 _ (eH _) xX.o.code xX.o.vs xX.o.ag xX.o.uE (by unfold gx;simp)).mono ?_;rintro e w7 ⟨rfl,y7⟩;have⟨HE7,HR7,xY,EL,Nq,HS7,M8,Eu⟩:=J8' (HE6.o.trans y7) (HR6.o.ext y7) (xX.o.ext y7) (bX HB6.o y7) (bX anX.o y7) (bX HS6.o y7) (pu.o.trans y7) (sQ.o.trans y7);clear y7 i1 i4 j1 j2 j3;obtain⟨m,t_,hm⟩:=Uq h3 4 ae ae;simp only [Int.cast_ofNat_Int]at hm;have k1:=bC Nq.o;have k2:=Nq.o.lt;go_upto_region 13 with(fail);rw [hm];obtain⟨E0,mf⟩:=nm' (uc bw h0 h1);have HE0:=J mf;have HSP:=J (Ps bw h0 h1);rw [<-mf]at HSP;have bS:=xY.o.gr;have mz:=J bS;have Nu:=J (show n=bI p from xY.o.hn);clear mf hm k1 k2 bS;have j1:=bC HS7.o;have j2:=aj.frozen HS7.o;have j3:=HS7.o.lt;have ua:(1:Int)<=n:=by have:=(bU mz.o).1;omega
 obtain⟨E3,hE3⟩:=nm' ((if E0=0 then 3 else E0))
 have WH:=J (show∀(pc2 Gj:Int) (n2:Nat),(dj pc2 Gj n2=false∨(dj pc2 Gj n2=true/\¬n2=bI p)∨(dj pc2 Gj n2=true/\n2=bI p/\Gj=0))->
  NB p pc2 Gj n2 bw h0 h1 E3 from λpc2 Gj n2 hf=>by
  rcases HSP.o with⟨q0,q1,q2,q3,q4⟩|⟨q0,⟨q1,q2⟩|⟨q1,q2,q3⟩⟩
  .exact Or.inr (Or.inr ⟨q1,q2,q3,q4,hf,by rw [hE3,av q0]⟩)
  .exact Or.inl ⟨q1,by rw [hE3,af q0];exact q2⟩
  .exact Or.inr (Or.inl ⟨q1,q2,by rw [hE3,af q0];exact q3⟩))
 have HE3:=J hE3;clear hE3
 rcases(by omega:m=0∨m=1∨m=2∨m=3)with rfl|rfl|rfl|rfl
 .go_upto_region 19 with(fail)
  have i1:=bC EL.o;have i4:=EL.o.lt;have q1:=bC Nq.o;have q2:=Nq.o.lt;have p1:=bH HS7.o;have p2:=bG HS7.o;clear j1 j2
  rcases HSP.o with⟨hz,g1,g2,g3,g4⟩|⟨hz,hb⟩
  .go_wp21
   rw [xY.o.part];refine(Ml x.cb w7.heap.size k p j HJ.o.1 x.vs x.ag V' A' x.fh gb 0 n gc x.aN m1 bw h0 h1 w7 (eH _) xY.o.code xY.o.vs xY.o.ag xY.o.uE xY.o.fit xY.o.long (by have:=xY.o.most;omega) (by rw [<-xY.o.hl];exact xY.o.at_.iok) (by rw [<-xY.o.hm];exact xY.o.at_.fok) HR7.o xY.o.at_.gn xY.o.gr xY.o.hn xY.o.hh g1 g2 ad).mono ?_;rintro e w9 ⟨tb,ib,ik,fb,zb,zk,_,rfl,_,_,y9⟩;have sR:=J y9;subst hz;clear y9 g1 g2 g3 g4;have Hr:=J (bX EL.o sR.o);have JS:=J (bX Nq.o sR.o);clear i1 i4 q1 q2 p1 p2 j3;have i1:=bC Hr.o;have i4:=Hr.o.lt;have q1:=bC JS.o;have q2:=JS.o.lt;go_wp21;refine aib ?_;intro wA yA R yB;clear i1 i4 q1 q2;have AA:=J (M8.o.trans yB);clear yB;go_upto_region 23 with(fail);generalize (wA.alloc (.cells R.cells 78))=wB at AA⊢;go_wp21;refine kU (j' _ (HL.o.ext AA.o) (HO.o.ext AA.o)) λwC yC=>?_;go_wp21;refine uW (Vi tb _) ?_;go_wp21;go_ret;exact⟨rfl,bT.o.trans (AA.o.trans yC)⟩
  .have eJ:=J (show NB p x.fh x.aN n bw h0 h1 E0 from by
    rcases hb with⟨a1,a2⟩|⟨a1,a2,a3⟩
    .exact Or.inl ⟨a1,a2⟩
    .exact Or.inr (Or.inl ⟨a1,a2,a3⟩))
   clear hb;go_wp21;rw [xY.o.part];refine kU (G5 x.cb w7.heap.size k p j HJ.o.1 x.vs x.ag V' A' _ _ _ _ _ bw h0 h1 E0 _ (eH _) xY.o.code xY.o.vs xY.o.ag xY.o.uE xY.o.fit eJ.o) λw9 y9=>?_;have sR:=J y9;have e0:(E0==0)=false:=by simp [hz]
   clear y9;have Hr:=J (bX EL.o sR.o);have JS:=J (bX Nq.o sR.o);clear i1 i4 q1 q2 p1 p2 j3;have i1:=bC Hr.o;have i4:=Hr.o.lt;have q1:=bC JS.o;have q2:=JS.o.lt;go_wp21;refine aib ?_;intro wA yA R yB;clear i1 i4 q1 q2;have AA:=J (M8.o.trans yB);clear yB;go_upto_region 23 with(fail);generalize (wA.alloc (.cells R.cells 78))=wB at AA⊢;go_wp21;refine kU (j' _ (HL.o.ext AA.o) (HO.o.ext AA.o)) λwC yC=>?_;go_wp21;go_ret;exact⟨rfl,bT.o.trans (AA.o.trans yC)⟩
 .go_upto_region 19 with(fail)
  have k8:=(kR (·=lb) w7).setCell ⟨lb,2,none⟩ (.int .i64 0) (λ_=>rfl);have b8:aj (w7.setCell ⟨lb,2,none⟩ (.int .i64 0)) lb 47 (ai x.fh (some ⟨gb,0,none⟩) n gc 0):=aj.fw HS7.o 2 (.int .i64 0);generalize (w7.setCell ⟨lb,2,none⟩ (.int .i64 0))=w8 at k8 b8⊢;have HFO:=J (WH.o x.fh 0 n (by cases q:dj x.fh 0 n;exact .inl rfl;exact .inr (.inr ⟨rfl,Nu.o,rfl⟩)));exact aie
 .go_upto_region 19 with(fail)
  generalize (if gc=1 then(some ⟨gb,0,none⟩:Option Addr)else some ⟨gb,1,none⟩)=A2;have k8:=(kR (·=lb) w7).setCell ⟨lb,1,none⟩ (.slice A2 (n - 1) (gc - 1)) (λ_=>rfl);have b8:aj (w7.setCell ⟨lb,1,none⟩ (.slice A2 (n - 1) (gc - 1))) lb 47 (ai x.fh A2 (n - 1) (gc - 1) x.aN):=aj.fw HS7.o 1 (.slice A2 (n - 1) (gc - 1));generalize (w7.setCell ⟨lb,1,none⟩ (.slice A2 (n - 1) (gc - 1)))=w8 at k8 b8⊢;have HFO:=J (WH.o x.fh x.aN (n - 1) (by cases q:dj x.fh x.aN (n - 1:Nat);exact .inl rfl;exact .inr (.inl ⟨rfl,by have:=Nu.o;omega⟩)));exact aie
 .go_upto_region 19 with(fail)
  have k8:=(kR (·=lb) w7).setCell ⟨lb,0,none⟩ (.int .i64 2049) (λ_=>rfl);have b8:aj (w7.setCell ⟨lb,0,none⟩ (.int .i64 2049)) lb 47 (ai 2049 (some ⟨gb,0,none⟩) n gc x.aN):=aj.fw HS7.o 0 (.int .i64 2049);generalize (w7.setCell ⟨lb,0,none⟩ (.int .i64 2049))=w8 at k8 b8⊢;have HFO:=J (WH.o 2049 x.aN n (.inl (by simp [dj])));exact aie
end Mc
open Go.Deep Go.ChangeShapes Go.WideShapes Sq Mc
theorem alf {H} {enc} {W} {base} {v:Value} {d:DataW H} {p:List MemPlace} (o:Value.okWide prog W .any base 68 v) (h:DataW.Trod enc prog W 0 (λ_=>true) true 68 v d p):∃a b c e,v=.agg #[.int .i64 a,.int .i64 b,.int .i64 c,.int .i64 e]:=by
 obtain⟨cs,rfl⟩:∃cs,v=.agg cs:=by
  simp only [Value.okWide,underlying68]at o;obtain⟨cs,h1,_⟩:=o;exact⟨cs,h1⟩
 obtain⟨fuel,hf⟩:=h;obtain⟨xs,m,_,hx,hl,o_,hz⟩:=DataW.trod_array underlying68 hf;have g0:=hz 0 ad;have g1:=hz 1 ad;have g2:=hz 2 ad;have g3:=hz 3 ad;rw [jf]at g0 g1 g2 g3;have Iw:(Value.agg cs).cells.toList.length=4:=hl;simp only [Value.cells]at g0 g1 g2 g3 Iw;obtain⟨l⟩:=cs
 match l,Iw with
 |[a,b,c,e],_=>
  obtain⟨x0,e0,-⟩:=DataW.trod_int underlying3 (show DataW.trod enc prog W 0 (λ_=>true) true m 3 [a]=some xs[0]by simpa [List.getElem?_eq_getElem (show 0<xs.length by omega)]using g0);obtain⟨x1,e1,-⟩:=DataW.trod_int underlying3 (show DataW.trod enc prog W 0 (λ_=>true) true m 3 [b]=some xs[1]by simpa [List.getElem?_eq_getElem (show 1<xs.length by omega)]using g1);obtain⟨x2,e2,-⟩:=DataW.trod_int underlying3 (show DataW.trod enc prog W 0 (λ_=>true) true m 3 [c]=some xs[2]by simpa [List.getElem?_eq_getElem (show 2<xs.length by omega)]using g2);obtain⟨x3,e3,-⟩:=DataW.trod_int underlying3 (show DataW.trod enc prog W 0 (λ_=>true) true m 3 [e]=some xs[3]by simpa [List.getElem?_eq_getElem (show 3<xs.length by omega)]using g3);injection e0 with e0;injection e1 with e1;injection e2 with e2;injection e3 with e3;subst e0 e1 e2 e3;exact⟨x0,x1,x2,x3,rfl⟩
namespace trialNews
theorem walk {H} {enc} (W) (base) (v0 v1 v2) (d0) (p0:List MemPlace) (d1:DataW H) (p1:List MemPlace) (d2:DataW H) (p2:List MemPlace)
 (o0:Value.okWide prog W .any base 42 v0) (o1:Value.okWide prog W .any base 3 v1) (o2:Value.okWide prog W .any base 68 v2)
 (h0:DataW.Trod enc prog W 0 (λ_=>true) true 42 v0 d0 p0) (h1:DataW.Trod enc prog W 0 (λ_=>true) true 3 v1 d1 p1) (h2:DataW.Trod enc prog W 0 (λ_=>true) true 68 v2 d2 p2) (hL:laidMetH prog Rows.trialNewsUptoRow.laid W)
 {gs:List (DataW H)} (hk:Rows.uptoSmall H ([d0,d1,d2]++gs)=true)
 (z0:light prog 42 d0) (_z1:light prog 3 d1) (_z2:light prog 68 d2) (hS:W.ShapedOpen prog):
 Calls prog 6 #[v0,v1,v2] W λe w'=>e=.returned (.bool true)/\al W w':=by
 obtain⟨c,q,n,s,t,V,A,rfl,hp,hc,hs,hV,hA⟩:=Zq o0 h0 z0;obtain⟨a,rfl,_⟩:=wX o1 h1;obtain⟨x0,x1,x2,x3,rfl⟩:=alf o2 h2;refine ahX ?_;intro hk hLA hOA j hj hj2;exact Ug c q n j hj hj2 s t V A a x0 x1 x2 x3 W hp hLA hOA hc ad hV hA
