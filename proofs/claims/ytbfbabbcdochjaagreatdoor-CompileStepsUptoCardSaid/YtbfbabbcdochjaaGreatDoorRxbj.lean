/- Several texts joined: Dn, Uf. -/
import Derived.Test.YtbfbabbcdochjaaGreatDoorRxpk
import Derived.Test.YtbfbabbcdochjaaGreatDoorRxbc
import Derived.Test.YtbfbabbcdochjaaGreatDoorRxbi
set_option maxHeartbeats 4000000
namespace Go.Proofs.YtbfbabbcdochjaaGreatDoor
open Go.RowKit So Mc
theorem meet4 {F M:World→Nat→Nat→Nat→Nat→Prop} {G:Prop} (h:(∀ W a b c d,F W a b c d→M W a b c d)→G) (h2:∀ W a b c d,F W a b c d→M W a b c d):G:=h h2
def parW:Wd→Int→List Vr→Wd
 | W,_,[]=>W
 | W,a,v :: r=>parW (updW W v.name a) (a+1) r
def topW (p:Pr) (b:Int) (part:Nat):Wd:=if part=2 then parW (cellN p.vars) b p.params else if part=3 then updW (cellN p.vars) p.silent b else cellN p.vars
def maker0 (W1:World) (c:Pc) (b:Int) (W3:World) (wm sm em mb:Nat):Prop :=
 Ext W1 W3∧SMap W3 wm (fun _=>none)∧IMap W3 sm stmtF∧IMap W3 em exprF∧Blk W3 mb 160 (mkCells none 0 0 c b wm 0 sm em)∧W1.heap.size≤wm∧W1.heap.size≤mb
def vW (l:List Vr) (j:Nat):Wd:=fun s=>if (l.take j).any (fun v=>decide (v.name=s))=true then cellN l s else 0
theorem vW_zero (l:List Vr):vW l 0=fun _=>0:=by funext s;simp [vW]
theorem vW_all (l:List Vr):vW l l.length=cellN l:=by
 funext s
 unfold vW cellN
 rw [List.take_length]
 split <;> rfl
theorem vW_step (l:List Vr) (j:Nat) (hj:j < l.length) (x:Vr) (hx:x=l[j]):updW (vW l j) x.name (cellN l x.name)=vW l (j+1):=by
 funext s
 unfold updW vW
 rw [List.take_add_one,List.getElem?_eq_getElem hj,← hx]
 simp only [Option.toList_some,List.any_append,List.any_cons,List.any_nil,Bool.or_false]
 by_cases e:s=x.name
 ·subst e;simp
 ·have:decide (x.name=s)=false:=decide_eq_false (fun h=>e h.symm)
  rw [if_neg e,this,Bool.or_false]
theorem parW_snoc:∀ (l:List Vr) (W:Wd) (a:Int) (v:Vr),parW W a (l ++ [v])=updW (parW W a l) v.name (a+l.length)
 | [],W,a,v=>by simp [parW]
 | u :: l,W,a,v=>by
  show parW (updW W u.name a) (a+1) (l ++ [v])=_
  rw [parW_snoc l _ _ v]
  show updW (parW (updW W u.name a) (a+1) l) v.name _=updW (parW (updW W u.name a) (a+1) l) v.name _
  congr 1
  simp only [List.length_cons]
  omega
set_option maxRecDepth 100000 in
theorem make_any (part:Nat) (_hpart:part≤4) (cb N:Nat) (c:Pc) (p:Pr) (b:Int) (A:Option Addr) (n cap:Nat) (F:SF) (κ:Kn) (w:World) (hN:N≤w.heap.size) (hP:PAt w N c p) (hcb:w.cell? ⟨cb,0,none⟩=some (.int .i64 b)) (b0:0≤b) (b1:b≤100)
 (hs:SSl w N A n F) (hc:chkB part κ 0 true F=none) (hz:F.size≤1099511627776) (hW0:∀ s,0≤topW p b part s∧topW p b part s≤1000) (hWz:∀ s,κ s=0→topW p b part s=0) (hL:(cB ⟨p.vars,p.seats,b⟩ F (topW p b part) 0 0).length≤3900) (hpl:p.params.length≤4) :
 Calls Tryz.prog 46 #[.pointer (some ⟨cb,0,none⟩),.int .i64 part,.slice A n cap,.agg c.cells] w fun e w'=>∃ A' n' c',e=.returned (.slice A' n' c')∧Ext w w'∧w'.ownsRow (w.heap.size+1) 77 4 (.slice A' n' c') n' (inss (cB ⟨p.vars,p.seats,b⟩ F (topW p b part) 0 0 ++ [⟨0,0,0,0⟩]))∧∀ i ∈ cB ⟨p.vars,p.seats,b⟩ F (topW p b part) 0 0 ++ [⟨0,0,0,0⟩],i.ok:=by
 have y1:Ext w (w.alloc (.cells c.cells 57)):=(kR _ w).alloc _
 have hB0:=bN w 57 c.cells
 have hcl:cb < w.heap.size:=Nat.lt_of_not_le (fun h=>by unfold World.cell? at hcb;rw [Array.getElem?_eq_none h] at hcb;cases hcb)
 have HCB:=J (show ∀ w',Ext w w'→w'.cell? ⟨cb,0,none⟩=some (.int .i64 b)∧cb < w'.heap.size from fun w' hx=>⟨(Kept.cell hx (p:=⟨cb,0,none⟩) hcl (fun f=>f)).trans hcb,Nat.lt_of_lt_of_le hcl hx.size⟩)
 have HP:=J hP
 have HS:=J hs
 have HC:=J hc
 have HW0:=J hW0
 have HWz:=J hWz
 have HL:=J hL
 have HNW:=J (show w.heap.size+1=(w.alloc (.cells c.cells 57)).heap.size by simp)
 have hbb:=And.intro b0 b1
 have hmm:=@run_makeMap Tryz.prog
 clear hP hcb hcl hs hc hW0 hWz hL
 go_enter Tryz.func46,Tryz.ntmps46
 go_upto_region 1 with (fail)
 generalize hW1:(w.alloc (.cells c.cells 57))=W1 at y1 hB0 HNW ⊢
 clear hW1
 generalize hpb:(w:World).heap.size=pb at hB0 HNW hN ⊢
 have HPB:=J hpb
 have HB:=J hB0
 have HY1:=J y1
 clear hB0 y1 hpb
 apply meet4 (F:=maker0 W1 c b)
 case h =>
  intro KEY0
  have KEY:=J KEY0
  clear KEY0
  refine qr4 (fun wz=>Ext W1 wz) (.op 0 1 (.op 1 2 (.op 2 2 (.op 3 2 (.op 4 1 (.fork 5 (.op 6 0 (.op 7 0 (.op 8 2 (.op 9 0 (.op 10 2 .nil))))) 6 (.fork 5 (.op 7 0 (.op 8 2 (.op 9 0 (.op 10 2 .nil)))) 7 (.op 5 0 (.op 8 2 (.op 9 0 (.op 10 2 .nil))))))))))) ?_;refine qrp ?_
  have HY0:=J (show Ext W1 W1.drew from (kR _ W1).drew)
  (repeat (first | refine qs4 ?_ | ((apply w4_take);(· exact HY0.out);(· go_simp);(· (intro w1 hS;have d0:=bX HB.out hS;have d1:=bH d0;have d2:=bG d0;have d3:=d0.lt;have d4:=(HCB.out _ (HY1.out.trans hS)).1;have d5:=(HCB.out _ (HY1.out.trans hS)).2; go_simp;try with_reducible rfl));refine qnx ?_) | ((apply w4_pass);(· exact HY0.out);(· go_simp);refine qnx ?_)))
  refine w4_fork ?_ ?_
  ·skip
   (refine w4_act (fun K hK=>?_);go_simp)
   have ym:Ext W1 (W1.alloc (.map #[] 0)).drew:=((kR (fun _=>False) W1).alloc _).drew
   have y2:Ext W1 (W1.alloc (.map #[] 0)).drew:=(kR (fun _=>False) W1).trans ym
   have hm2:SMap (W1.alloc (.map #[] 0)).drew W1.heap.size (fun _=>none):=(SMap.made W1).ext (kR _ _).drew
   refine hK.out _ _ (fun _=>y2) ?_
   clear hK K
   generalize hWq:(W1.alloc (.map #[] 0)).drew=w2 at ym y2 hm2 ⊢
   clear hWq
   generalize hwm:W1.heap.size=wm at hm2 ⊢
   have hwl:W1.heap.size≤wm:=by rw [← hwm];exact (kR (fun _=>False) W1).size
   clear hwm
   refine zy47 ?_;intro K hK
   go_wp2_with fail
   refine (stmts_tab _).mono ?_
   rintro e w3 ⟨rfl,hi3,hx3⟩
   have y3:=(y2).trans hx3
   refine hK.out _ _ (fun _=>y3) ?_
   clear hK K
   (repeat refine qs4 ?_)
   generalize hsm:w2.heap.size=sm at hi3 ⊢
   clear hsm
   (refine w4_act (fun K hK=>?_);go_simp)
   go_wp2_with fail
   refine (exprs_tab _).mono ?_
   rintro e w4 ⟨rfl,hi4,hx4⟩
   have y4:=(y3).trans hx4
   refine hK.out _ _ (fun _=>y4) ?_
   clear hK K
   generalize hem:w3.heap.size=em at hi4 ⊢
   clear hem
   refine zy36 ?_;intro y9 hbm hml ya
   have hm9:=(hm2.ext (hx3.trans hx4)).ext ya
   have hs9:=(hi3.ext hx4).ext ya
   exact zz72
  ·skip
   (refine w4_act (fun K hK=>?_);go_simp)
   go_wp2_with fail
   refine (stmts_tab _).mono ?_
   rintro e w2 ⟨rfl,hi2,hx2⟩
   have y2:=(HY0.out).trans hx2
   refine hK.out _ _ (fun _=>y2) ?_
   clear hK K
   generalize hsm:W1.drew.heap.size=sm at hi2 ⊢
   clear hsm
   (repeat refine qs4 ?_)
   refine w4_fork ?_ ?_
   ·skip
    (refine w4_act (fun K hK=>?_);go_simp)
    have ym:Ext w2 (w2.alloc (.map #[] 0)):=((kR (fun _=>False) w2).alloc _)
    have y3:Ext W1 (w2.alloc (.map #[] 0)):=(y2).trans ym
    have hm3:SMap (w2.alloc (.map #[] 0)) w2.heap.size (fun _=>none):=(SMap.made w2)
    refine hK.out _ _ (fun _=>y3) ?_
    clear hK K
    generalize hWq:(w2.alloc (.map #[] 0))=w3 at ym y3 hm3 ⊢
    clear hWq
    generalize hwm:w2.heap.size=wm at hm3 ⊢
    have hwl:W1.heap.size≤wm:=by rw [← hwm];exact (y2).size
    clear hwm
    refine zy47 ?_;intro K hK
    go_wp2_with fail
    refine (exprs_tab _).mono ?_
    rintro e w4 ⟨rfl,hi4,hx4⟩
    have y4:=(y3).trans hx4
    refine hK.out _ _ (fun _=>y4) ?_
    clear hK K
    generalize hem:w3.heap.size=em at hi4 ⊢
    clear hem
    refine zy36 ?_;intro y9 hbm hml ya
    have hm9:=(hm3.ext hx4).ext ya
    have hs9:=(hi2.ext (ym.trans hx4)).ext ya
    exact zz72
   ·skip
    (refine w4_act (fun K hK=>?_);go_simp)
    go_wp2_with fail
    refine (exprs_tab _).mono ?_
    rintro e w3 ⟨rfl,hi3,hx3⟩
    have y3:=(y2).trans hx3
    refine hK.out _ _ (fun _=>y3) ?_
    clear hK K
    generalize hem:w2.heap.size=em at hi3 ⊢
    clear hem
    refine zy47 ?_;intro K hK
    have ym:Ext w3 (w3.alloc (.map #[] 0)):=((kR (fun _=>False) w3).alloc _)
    have y4:Ext W1 (w3.alloc (.map #[] 0)):=(y3).trans ym
    have hm4:SMap (w3.alloc (.map #[] 0)) w3.heap.size (fun _=>none):=(SMap.made w3)
    refine hK.out _ _ (fun _=>y4) ?_
    clear hK K
    generalize hWq:(w3.alloc (.map #[] 0))=w4 at ym y4 hm4 ⊢
    clear hWq
    generalize hwm:w3.heap.size=wm at hm4 ⊢
    have hwl:W1.heap.size≤wm:=by rw [← hwm];exact (y3).size
    clear hwm
    refine zy36 ?_;intro y9 hbm hml ya
    have hm9:=(hm4).ext ya
    have hs9:=(hi2.ext (hx3.trans ym)).ext ya
    have he9:=(hi3.ext ym).ext ya
    exact zz110
 case h2 =>
  intro W3 wm sm em mb hmk
  obtain ⟨y3,hm0,hs0,he0,hbm,hwl,hml⟩:=hmk
  obtain ⟨B,hBd⟩:∃ B,B=W1.heap.size:=⟨_,rfl⟩
  rw [← hBd] at hwl hml HNW
  have hlB:=J (show B≤W3.heap.size by rw [hBd];exact y3.size)
  have hNB:N≤B:=by have:=hN;have:=HNW.out;omega
  have HM0:=J (show MS W3 B N mb p c b wm sm em 0 (vW p.vars 0) [] from ⟨⟨none,0,0,hbm,⟨by simp [inss],.inl ⟨rfl,rfl⟩⟩⟩,HP.out.kept (HY1.out.trans y3) (by rw [HPB.out];exact hN) (fun _ f=>f.elim),⟨_,hm0,fun s=>by simp [vW_zero]⟩,hs0,he0,hNB,hlB.out,hml,hwl,by simp⟩)
  have HPG:=J (bX HB.out y3)
  have HWX:=J (HY1.out.trans y3)
  have hcw:=(HCB.out _ HWX.out).1
  have hcl:=(HCB.out _ (kR _ w)).2
  have HC3:=J (And.intro hcw (show cb < B by rw [HPB.out] at hcl;have:=HNW.out;omega))
  have HVS:=J (HM0.out.prog.vars)
  have HPS:=J (HM0.out.prog.params)
  clear y3 hm0 hs0 he0 hbm hwl hml hBd hcw hcl HP HB HY1 HCB
  have hwb0:IntKind.i64.wrap (b+0)=b:=by rw [Int.add_zero];exact wrap_i64 zb74
  obtain ⟨hvn,hvf,hvo,vb,vo,hvA,hvE⟩:=HVS.out
  have hvm:=hvf.max zb85
  have HVN:=J hvn
  have HVA:=J hvA
  have HVE:=J hvE
  clear hvn hvf hvo hvA hvE
  obtain ⟨vA,hvA⟩:∃ vA,vA=c.vars.A:=⟨_,rfl⟩
  have a1:=bC HPG.out
  have a2:=HPG.out.lt
  go_wp2_with fail
  clear a1 a2
  go_loopw [28] (fun t28 wr=>∃ (j:Nat),j≤c.vars.n∧t28=.int .i64 j∧MS wr B N mb p c b wm sm em 0 (vW p.vars j) []∧KT B wm W3 wr) (fun t28 _=>c.vars.n - (intOf t28).toNat)
  case atStart=>exact ⟨0,Nat.zero_le _,rfl,HM0.out,KT.refl _ _ _⟩
  case round =>
   obtain ⟨j,hj,rfl,hmj,hkj⟩:=hrel
   have HMJ:=J hmj
   have HKJ:=J hkj
   clear hmj hkj
   by_cases hlt:j < c.vars.n
   ·have hjl:j < p.vars.length:=by have:=HVN.out;omega
    have hltI:(j:Int) < c.vars.n:=by omega
    have hAA:=HVA.out zb85
    obtain ⟨hvb,hrow⟩:=HVE.out zb85
    obtain ⟨hh',hg'⟩:=vr_at hrow j hjl
    obtain ⟨u1,u2,u3⟩:=kid_kt HKJ.out ⟨hNB,hlB.out⟩ hvb hh' hg'
    obtain ⟨v,hve⟩:∃ v,v=p.vars[j]:=⟨_,rfl⟩
    rw [← hve] at u2
    have HVV:=J hve
    clear hrow hve hh' hg' hvb
    have y0:=(kR (fun _=>False) wr).alloc (.cells (vcells v) 109)
    have hB0:=bN wr 109 (vcells v)
    rw [hAA]
    go_upto_region 5 with (fail)
    generalize (wr.alloc (.cells (vcells v) 109))=W5 at y0 hB0 ⊢
    generalize wr.heap.size=g at hB0 ⊢
    have HB5:=J hB0
    have HM5:=J (HMJ.out.ext y0)
    have HK5:=J (HKJ.out.trans (KT.ext (B:=B) (wm:=wm) y0))
    clear y0 hB0 u1 u2 u3 hAA
    have HP5:=J (KT.block HK5.out HPG.out zb84 zb84)
    refine qr3 (fun wz=>Ext W5 wz) [(0,2),(1,2),(2,2),(3,1),(4,2),(5,1),(6,1),(7,2),(8,1),(9,0),(10,2),(11,2),(12,2),(13,2),(14,0)] ?_;refine qrl ?_
    have yd:Ext W5 W5.drew:=(kR _ W5).drew
    (repeat first|refine qs3 ?_|refine qt3 yd (by intro w1 hS;have d0:=bX HB5.out hS;have d1:=bC d0;have d2:=d0.lt;have hm':=HM5.out.ext hS;obtain ⟨A',n',cp',hb',_⟩:=hm'.blk;have d3:=bC hb';have d4:=hb'.lt;have d9:=bX HP5.out hS;have dA:=bH d9;have dB:=bG d9;have dC:=d9.lt;exact zgo) ?_|refine qp3 yd ?_)
    (refine w3_act (fun K hK=>?_);go_simp)
    go_wp2_with fail
    refine (scell_any c p v.name N _ (Nat.le_trans hNB (HM5.out.ext yd).hB) (HM5.out.ext yd).prog).mono ?_
    rintro e w6 ⟨rfl,hx6⟩
    have y6:=yd.trans hx6
    refine hK.out _ _ (fun _=>y6) ?_
    clear hK K
    (repeat refine qs3 ?_)
    have HM6:=J (HM5.out.ext y6)
    obtain ⟨G,hG,hGW⟩:=HM6.out.words
    obtain ⟨w7,hrun,hG7,hk7⟩:=SMap.put (P:=Tryz.prog) hG Tryz.underlying154 Tryz.underlying9 v.name (.int .i64 (cellN p.vars v.name))
    obtain ⟨hM7,hK7⟩:=HM6.out.word hk7 hG7 (updW_on _ v.name _ G hGW)
    rw [vW_step p.vars j hjl v HVV.out] at hM7
    have HM7:=J hM7
    have HK7:=J (HK5.out.trans ((KT.ext (B:=B) (wm:=wm) y6).trans hK7))
    clear hM7 hK7 hk7 hG7 hG hGW
    refine zy82 ?_;clear hrun
    go_wp2_with fail
    go_roundw
    case rel=>exact ⟨j+1,hlt,by go_num,HM7.out,HK7.out⟩
    case measure=>simp only [intOf];omega
   ·obtain rfl:j=c.vars.n:=by omega
    have hm8:=HMJ.out
    rw [HVN.out,vW_all] at hm8
    have HM8:=J hm8
    clear hm8
    have hc8:=(Kept.cell HKJ.out.below (p:=⟨cb,0,none⟩) (by have:=HC3.out.2;have:=hlB.out;show cb < W3.heap.size;omega) (by have:=HC3.out.2;show ¬ B≤cb;omega)).trans HC3.out.1
    have hc9:cb < wr.heap.size:=by have:=HC3.out.2;have:=HM8.out.hB;omega
    have b0:=bC (KT.block HKJ.out HPG.out zb84 zb84)
    have b2:=(KT.block HKJ.out HPG.out zb84 zb84).lt
    have hwb:IntKind.i64.wrap b=b:=wrap_i64 zb74
    have HPB4:=J (KT.block HKJ.out HPG.out zb84 zb84)
    by_cases hp2:part=2
    ·have he2:((part:Int) == 2)=true:=by simp [hp2]
     have HTW:=J (show topW p b part=parW (cellN p.vars) b p.params from by rw [hp2];unfold topW;rw [if_pos rfl])
     clear hp2
     obtain ⟨hpn,hpf,hpo,qb,qo,hpA,hpE⟩:=HPS.out
     have hpm:=hpf.max zb85
     have HPN:=J hpn
     have HPA:=J hpA
     have HPE:=J hpE
     clear hpn hpf hpo hpA hpE
     go_wp2_with fail
     clear b0 b2 hc8 hc9
     go_loopw [58] (fun t58 wq=>∃ (j:Nat),j≤c.params.n∧t58=.int .i64 j∧MS wq B N mb p c b wm sm em 0 (parW (cellN p.vars) b (p.params.take j)) []∧KT B wm W3 wq) (fun t58 _=>c.params.n - (intOf t58).toNat)
     case atStart=>exact ⟨0,Nat.zero_le _,rfl,HM8.out,HKJ.out⟩
     case round =>
      obtain ⟨i,hi,rfl,hmi,hki⟩:=hrel
      have HMI:=J hmi
      have HKI:=J hki
      clear hmi hki
      by_cases hlt:i < c.params.n
      ·have hjl:i < p.params.length:=by have:=HPN.out;omega
       have hltI:(i:Int) < c.params.n:=by omega
       have hAA:=HPA.out zb85
       obtain ⟨hvb,hrow⟩:=HPE.out zb85
       obtain ⟨hh',hg'⟩:=vr_at hrow i hjl
       obtain ⟨u1,u2,u3⟩:=kid_kt HKI.out ⟨hNB,hlB.out⟩ hvb hh' hg'
       obtain ⟨v,hve⟩:∃ v,v=p.params[i]:=⟨_,rfl⟩
       rw [← hve] at u2
       have HVV:=J hve
       clear hrow hve hh' hg' hvb
       have hwj:IntKind.i64.wrap (b+(i:Int))=b+i:=wrap_i64 zb74
       have y0:=(kR (fun _=>False) wr).alloc (.cells (vcells v) 109)
       have hB0:=bN wr 109 (vcells v)
       rw [hAA]
       go_upto_region 13 with (fail)
       generalize (wr.alloc (.cells (vcells v) 109))=W5 at y0 hB0 ⊢
       generalize wr.heap.size=g at hB0 ⊢
       have HB5:=J hB0
       have HM5:=J (HMI.out.ext y0)
       have HK5:=J (HKI.out.trans (KT.ext (B:=B) (wm:=wm) y0))
       clear y0 hB0 u1 u2 u3 hAA
       refine qr3 (fun wz=>Ext W5 wz) [(0,2),(1,2),(2,2),(3,1),(4,2),(5,1),(6,2),(7,2),(8,2),(9,0)] ?_;refine qrl ?_
       have yd:Ext W5 W5.drew:=(kR _ W5).drew
       (repeat first|refine qs3 ?_|refine qt3 yd (by intro w1 hS;have hm':=HM5.out.ext hS;obtain ⟨A',n',cp',hb',_⟩:=hm'.blk;have d3:=bC hb';have d4:=hb'.lt;have d0:=bX HB5.out hS;have d1:=bC d0;have d2:=d0.lt;exact zgo) ?_|refine qp3 yd ?_)
       have HMd:=J (HM5.out.ext yd)
       obtain ⟨G,hG,hGW⟩:=HMd.out.words
       obtain ⟨w7,hrun,hG7,hk7⟩:=SMap.put (P:=Tryz.prog) hG Tryz.underlying154 Tryz.underlying9 v.name (.int .i64 (b+(i:Int)))
       obtain ⟨hM7,hK7⟩:=HMd.out.word hk7 hG7 (updW_on _ v.name _ G hGW)
       have hpe:updW (parW (cellN p.vars) b (p.params.take i)) v.name (b+(i:Int))=parW (cellN p.vars) b (p.params.take (i+1)):=by rw [List.take_add_one,List.getElem?_eq_getElem hjl,← HVV.out,Option.toList_some,parW_snoc,List.length_take,Nat.min_eq_left zb85]
       rw [hpe] at hM7
       clear hpe
       have HM7:=J hM7
       have HKw7:=J ((KT.ext (B:=B) (wm:=wm) yd).trans hK7)
       clear hM7 hK7 hk7 hG7 hG hGW yd HMd
       refine zy82 ?_;clear hrun
       go_wp2_with fail
       go_roundw
       case rel=>exact ⟨i+1,hlt,by go_num,HM7.out,HK5.out.trans HKw7.out⟩
       case measure=>simp only [intOf];omega
      ·obtain rfl:i=c.params.n:=by omega
       have hm9:=HMI.out
       rw [HPN.out,List.take_length] at hm9
       have HM9:=J hm9
       clear hm9
       have HTX:=HTW.out
       have HMa:=J (show MS wr B N mb p c b wm sm em 0 (topW p b part) [] from by rw [HTX];exact HM9.out)
       have HKa:=J (HKI.out)
       exact zz12
    by_cases hp3:part=3
    ·have he2:((part:Int) == 2)=false:=by simp [hp3]
     have he3:((part:Int) == 3)=true:=by simp [hp3]
     have HTW:=J (show topW p b part=updW (cellN p.vars) p.silent b from by rw [hp3];unfold topW;rw [if_neg zb84,if_pos rfl])
     clear hp2 hp3
     have hsi:=J HM8.out.prog.silent
     go_upto_region 16 with (fail)
     clear b0 b2 hc8 hc9
     refine qr3 (fun wz=>Ext wr wz) [(0,2),(1,2),(2,2),(3,1),(4,2),(5,1),(6,2),(7,0)] ?_;refine qrl ?_
     have yd:Ext wr wr.drew:=(kR _ wr).drew
     (repeat first|refine qs3 ?_|refine qt3 yd (by intro w1 hS;have hm':=HM8.out.ext hS;obtain ⟨A',n',cp',hb',_⟩:=hm'.blk;have d3:=bC hb';have d4:=hb'.lt;have d9:=bX HPB4.out hS;have dA:=bC d9;have dC:=d9.lt;exact zgo) ?_|refine qp3 yd ?_)
     have HMd:=J (HM8.out.ext yd)
     obtain ⟨G,hG,hGW⟩:=HMd.out.words
     obtain ⟨w7,hrun,hG7,hk7⟩:=SMap.put (P:=Tryz.prog) hG Tryz.underlying154 Tryz.underlying9 c.silent (.int .i64 (b))
     obtain ⟨hM7,hK7⟩:=HMd.out.word hk7 hG7 (updW_on _ c.silent _ G hGW)
     rw [hsi.out] at hM7
     have HM7:=J hM7
     have HKw7:=J ((KT.ext (B:=B) (wm:=wm) yd).trans hK7)
     clear hM7 hK7 hk7 hG7 hG hGW yd HMd
     refine zy82 ?_;clear hrun
     have HKS:=J (HKJ.out.trans HKw7.out)
     have HTX:=HTW.out
     have HMa:=J (show MS w7 B N mb p c b wm sm em 0 (topW p b part) [] from by rw [HTX];exact HM7.out)
     have HKa:=J (HKS.out)
     exact zz12
    have he2:((part:Int) == 2)=false:=by simp;omega
    have he3:((part:Int) == 3)=false:=by simp;omega
    have htw:topW p b part=cellN p.vars:=by unfold topW;rw [if_neg hp2,if_neg hp3]
    have HTW:=J htw
    clear hp2 hp3 htw
    go_upto_region 17 with (fail)
    clear b0 b2 hc8 hc9
    have HTX:=HTW.out
    have HMa:=J (show MS wr B N mb p c b wm sm em 0 (topW p b part) [] from by rw [HTX];exact HM8.out)
    have HKa:=J (HKJ.out)
    exact zz12
open Go.RowKit So
theorem fltC_two (f:Option Flt):(fltC f).size=2:=by cases f <;> rfl
theorem fltC_flat (f:Option Flt):flatL (fltC f).toList=true:=by cases f <;> rfl
theorem Blk.put_flt {w:World} {b:Nat} {t:TypeId} (h:Blk w b t #[.int .i64 0,.string ⟨#[]⟩]) (f:Option Flt):Blk (putAt w b 0 (fltC f)) b t (fltC f):=by
 have:=Blk.put_ h 0 (fltC f)
 cases f <;> exact this
set_option maxRecDepth 100000 in
theorem rblock_any (c:Pc) (p:Pr) (i:Nat) (hi:i < 5) (N:Nat) (w0:World) (hN:N≤w0.heap.size) (h:PAt w0 N c p) (F:SF):RBlC c p i N w0 F:=by
 refine sf_ind (C:=RBlC c p i N w0) ?_ F
 clear F
 intro F IH deep top A n kc pl B bn bc w hw hpl hAk hpn hd8 hsl
 obtain ⟨hn,hf,b,off,hA,hE⟩:=hsl
 have hm:=hf.max zb85
 obtain ⟨κ,hκ⟩:∃ κ,κ=updAll (knV p.vars) pl:=⟨_,rfl⟩
 obtain ⟨Z,hZ⟩:∃ Z,Z=chkB i κ deep top F:=⟨_,rfl⟩
 rw [← hκ,← hZ]
 have HKA:=J hκ
 have HZ:=J hZ.symm
 have HN:=J hn
 have HA:=J hA
 have HE:=J hE
 have HI:=J IH
 have HPN:=J (And.intro hpn hd8)
 have HAK:=J hAk
 have HW0:=J hw
 have HN0:=J hN
 have HP0:=J h
 clear hκ hZ hn hf hA hE IH hpn hd8 hAk
 have hx0:=((kR (fun _=>False) w).alloc (.cells (knCells c A n kc) 120)).alloc (.cells #[.int .i64 0,.string ⟨#[]⟩] 60)
 have hK:=(bN w 120 (knCells c A n kc)).alloc (.cells #[.int .i64 0,.string ⟨#[]⟩] 60)
 have hD:=Blk.new' (w.alloc (.cells (knCells c A n kc) 120)) 60 #[.int .i64 0,.string ⟨#[]⟩] (w.heap.size+1) zb86
 go_enter Tryz.func54,Tryz.ntmps54
 go_upto_region 1 with (fail)
 have HNW:=J (show w.heap.size≤_ from hx0.size)
 have HPL:=J (hpl.ext hx0)
 have HWZ:=J (hw.trans hx0)
 generalize hW:((w.alloc (.cells (knCells c A n kc) 120)).alloc (.cells #[.int .i64 0,.string ⟨#[]⟩] 60))=W at hx0 hK hD HNW HPL HWZ ⊢
 clear hW h hpl hw hN
 obtain ⟨rb,hrb⟩:∃ rb,rb=w.heap.size+1:=⟨_,rfl⟩
 rw [← hrb] at hD ⊢
 obtain ⟨kb,hkb⟩:∃ kb,kb=w.heap.size:=⟨_,rfl⟩
 rw [← hkb] at hK ⊢
 have HRW:=J (show w.heap.size≤rb∧¬ rb=kb from ⟨by omega,by omega⟩)
 have HD:=J hD
 have HX0:=J hx0
 have HK:=J hK
 clear hD hx0 hrb hK hkb
 go_wp2_with fail
 go_loopw [11] (fun t11 wr=>∃ (m:Nat) (R:SF),m+R.len=bn∧chkB i κ deep top R=Z∧t11=.int .i64 m∧SFAt w0 N R b (off+m * 7)∧SF.All (RBlC c p i N w0) R∧Ext W wr) (fun t11 _=>bn - (intOf t11).toNat)
 case atStart=>exact ⟨0,F,by rw [HN.out,Nat.zero_add],HZ.out,rfl,by simpa using HE.out,HI.out,kR _ _⟩
 case round =>
  obtain ⟨m,R,hm',hacc,rfl,hR,hall,hx⟩:=hrel
  have HRR:=J hR
  have HXC:=J hx
  have HACC:=J hacc
  have HALL:=J hall
  clear hR hx hacc hall
  cases R with
  | nil =>
   simp only [SF.len,Nat.add_zero] at hm'
   subst hm'
   have HR:=J (show Z=none by rw [← HACC.out];rfl)
   go_wp2_with fail
   refine (fine_any _).mono ?_
   rintro e9 w9 ⟨rfl,hx9⟩
   have HXC:=J (HXC.out.trans hx9)
   refine zy84 ?_;intro hDr hmr hhr hlr
   have hhK:=bH (bX HK.out HXC.out)
   have hgK:=bG (bX HK.out HXC.out)
   have hlK:=(bX HK.out HXC.out).lt
   clear hx9
   exact zz108
  | cons kind name es low high l x r =>
   obtain ⟨hb,h1,h2,h3,h4,⟨eA,ec,lA,lc,xA,xc,be,oe,bl,ol,bx,ox,hh,hg,n1,n2,n3,a1,a2,a3,he,hl,hxx⟩,hr⟩:=HRR.out
   simp only [SF.len] at hm'
   have hlt:(m:Int) < bn:=by omega
   obtain rfl:=HA.out zb85
   have hw0:=HWZ.out.trans HXC.out
   have HH0:=J (has_ext hw0 (by have:=HN0.out;omega) hh)
   have HG0:=J (gets_ext hw0 (by have:=HN0.out;omega) hg)
   have hbw:b < wr.heap.size:=by have:=hw0.size;have:=HN0.out;omega
   have KE:=J (show ESl w0 N eA es.len es from ⟨rfl,n1,be,oe,a1,he⟩)
   refine zy33 ?_;intro KL KX
   have HR2:=J hr
   have HAL:=J HALL.out
   have HSZ:=J h4
   have HWQ:=J hw0
   have HHW:=J hbw
   clear hh hg n1 n2 n3 a1 a2 a3 he hl hxx hb h1 h2 h3 h4 hr HRR hw0
   have HHa:=HH0.out
   have HGa:=HG0.out
   have HACC:=J (show Z=ored (chkS i κ deep (top && r.isNil) kind name es low high l x) (chkB i κ deep top r) from HACC.out ▸ chkB_cons i κ deep top kind name es low high l x r)
   have hls:((m:Int) == (bn:Int) - 1)=r.isNil:=by
    cases r with
    | nil=>simp only [SF.len] at hm';simp [SF.isNil];omega
    | cons=>simp only [SF.len] at hm';simp [SF.isNil];omega
   obtain ⟨la,hla⟩:∃ la,la=r.isNil:=⟨_,rfl⟩
   rw [← hla] at hls
   have HLS:=J (show ((m:Int) == IntKind.i64.wrap ((bn:Int) - 1))=la by rw [← hls];congr 1;rw [IntKind.wrap_i64];omega)
   clear hls
   cases top
   ·have HIK:=J (fun w' (hw':Ext w0 w') (hs':StrSl w' w'.heap.size A n pl)=>rstmt_any c p i hi N w0 HN0.out HP0.out deep HPN.out.2 kind name es low high l x eA ec lA lc xA xc false HSZ.out KE.out KL.out KX.out HAL.out.1 HAL.out.2.1 A n kc pl w' hw' hs' HAK.out HPN.out.1)
    obtain ⟨f,hf⟩:∃ f,f=chkS i κ deep false kind name es low high l x:=⟨_,rfl⟩
    have HXB:=J (show Z=ored f (chkB i κ deep false r) from hf ▸ HACC.out)
    clear HLS HACC hla la
    exact zz4
   ·have HIK:=J (fun w' (hw':Ext w0 w') (hs':StrSl w' w'.heap.size A n pl)=>rstmt_any c p i hi N w0 HN0.out HP0.out deep HPN.out.2 kind name es low high l x eA ec lA lc xA xc la HSZ.out KE.out KL.out KX.out HAL.out.1 HAL.out.2.1 A n kc pl w' hw' hs' HAK.out HPN.out.1)
    obtain ⟨f,hf⟩:∃ f,f=chkS i κ deep la kind name es low high l x:=⟨_,rfl⟩
    have HXB:=J (show Z=ored f (chkB i κ deep true r) from hf ▸ hla ▸ HACC.out)
    clear HACC hla
    exact zz4
end Go.Proofs.YtbfbabbcdochjaaGreatDoor
