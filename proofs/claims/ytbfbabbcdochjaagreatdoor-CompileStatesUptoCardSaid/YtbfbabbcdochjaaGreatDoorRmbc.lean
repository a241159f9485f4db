/- Several texts joined: Dn, Uf. -/
import Derived.Test.YtbfbabbcdochjaaGreatDoorRmpk
import Derived.Test.YtbfbabbcdochjaaGreatDoorRmax
import Derived.Test.YtbfbabbcdochjaaGreatDoorRmbb
set_option maxHeartbeats 4000000
set_option maxRecDepth 100000
open Go.Proofs.Tryz
namespace Go.Proofs.YtbfbabbcdochjaaGreatDoor
open Go.RowKit So Mc
theorem ahy {F M:World->Nat->Nat->Nat->Nat->Prop} {G:Prop} (h:(∀W a b c d,F W a b c d->M W a b c d)->G) (h2:∀W a b c d,F W a b c d->M W a b c d):G:=h h2
def pU:Wd->Int->List Vr->Wd
 |W,_,[]=>W
 |W,a,v::r=>pU (gG W v.name a) (a+1) r
def iC (p:Pr) (b:Int) (part:Nat):Wd:=if part=2 then pU (aS p.vars) b p.params else if part=3 then gG (aS p.vars) p.silent b else aS p.vars
def aeA (W1:World) (c:Pc) (b:Int) (W3:World) (wm sm em mb:Nat):Prop:=
 Ext W1 W3/\SMap W3 wm (λ_=>none)/\dx W3 sm yL/\dx W3 em gP/\aH W3 mb 160 (nN none 0 0 c b wm 0 sm em)/\W1.heap.size<=wm/\W1.heap.size<=mb
def vW (l:List Vr) (j:Nat):Wd:=λs=>if (l.take j).any (λv=>decide (v.name=s))=true then aS l s else 0
theorem abu (l:List Vr):vW l 0=λ_=>0:=by funext s;simp [vW]
theorem aeQ (l:List Vr):vW l l.length=aS l:=by
 funext s
 unfold vW aS;rw [List.take_length]
 split<;>rfl
theorem abt (l:List Vr) (j:Nat) (hj:j<l.length) (x:Vr) (hx:x=l[j]):gG (vW l j) x.name (aS l x.name)=vW l (j+1):=by
 funext s
 unfold gG vW;rw [List.take_add_one,List.getElem?_eq_getElem hj,<-hx];simp only [Option.toList_some,List.any_append,List.any_cons,List.any_nil,Bool.or_false]
 by_cases e:s=x.name
 ·subst e;simp
 ·have:decide (x.name=s)=false:=decide_eq_false (λh=>e h.symm)
  rw [if_neg e,this,Bool.or_false]
theorem GN:∀(l:List Vr) (W:Wd) (a:Int) (v:Vr),pU W a (l++[v])=gG (pU W a l) v.name (a+l.length)
 |[],W,a,v=>by simp [pU]
 |u::l,W,a,v=>by
  show pU (gG W u.name a) (a+1) (l++[v])=_;rw [GN l _ _ v];show gG (pU (gG W u.name a) (a+1) l) v.name _=gG (pU (gG W u.name a) (a+1) l) v.name _
  congr 1
  simp only [List.length_cons]
  omega
theorem uy (part:Nat) (_akL:part<=4) (cb N:Nat) (c:Pc) (p:Pr) (b:Int) (A:Option Addr) (n cap:Nat) (F:SF) (κ:Kn) (w:World) (hN:N<=w.heap.size) (hP:lT w N c p) (hcb:w.cell? ⟨cb,0,none⟩=some (.int .i64 b)) (b0:0<=b) (b1:b<=100)
 (hs:iO w N A n F) (hc:bV part κ 0 true F=none) (hz:F.size<=1099511627776) (hW0:∀s,0<=iC p b part s/\iC p b part s<=1000) (NC:∀s,κ s=0->iC p b part s=0) (hL:(cB ⟨p.vars,p.seats,b⟩ F (iC p b part) 0 0).length<=3900) (hpl:p.params.length<=4):
 Calls prog 46 #[.pointer (some ⟨cb,0,none⟩),.int .i64 part,.slice A n cap,.agg c.cells] w λe w'=>∃A' n' c',e=.returned (.slice A' n' c')/\Ext w w'/\w'.ownsRow (w.heap.size+1) 77 4 (.slice A' n' c') n' (fV (cB ⟨p.vars,p.seats,b⟩ F (iC p b part) 0 0++[⟨0,0,0,0⟩]))/\∀i∈cB ⟨p.vars,p.seats,b⟩ F (iC p b part) 0 0++[⟨0,0,0,0⟩],i.ok:=by
 have y1:Ext w (w.alloc (.cells c.cells 57)):=(kR _ w).alloc _;have hB0:=bN w 57 c.cells;have hcl:cb<w.heap.size:=Nat.lt_of_not_le (λh=>by unfold World.cell? at hcb;rw [Array.getElem?_eq_none h]at hcb;cases hcb);have Hq:=J (show∀w',Ext w w'->w'.cell? ⟨cb,0,none⟩=some (.int .i64 b)/\cb<w'.heap.size from λw' hx=>⟨(Kept.cell hx (p:=⟨cb,0,none⟩) hcl (λf=>f)).trans hcb,Nat.lt_of_lt_of_le hcl hx.size⟩);have HP:=J hP;have HS:=J hs;have HC:=J hc;have HW0:=J hW0;have NV:=J NC;have HL:=J hL;have dR:=J (show w.heap.size+1=(w.alloc (.cells c.cells 57)).heap.size by simp);have hbb:=And.intro b0 b1;have hmm:=@run_makeMap prog;clear hP hcb hcl hs hc hW0 NC hL;go_enter func46,ntmps46;go_upto_region 1 with(fail);generalize hW1:(w.alloc (.cells c.cells 57))=W1 at y1 hB0 dR⊢;clear hW1;generalize hpb:(w:World).heap.size=pb at hB0 dR hN⊢;have lN:=J hpb;have HB:=J hB0;have dX:=J y1;clear hB0 y1 hpb;apply ahy (F:=aeA W1 c b)
 case h=>
  intro jr;have KEY:=J jr;clear jr;refine Uz (λwz=>Ext W1 wz) (.op 0 1 (.op 1 2 (.op 2 2 (.op 3 2 (.op 4 1 (.fork 5 (.op 6 0 (.op 7 0 (.op 8 2 (.op 9 0 (.op 10 2 .nil))))) 6 (.fork 5 (.op 7 0 (.op 8 2 (.op 9 0 (.op 10 2 .nil)))) 7 (.op 5 0 (.op 8 2 (.op 9 0 (.op 10 2 .nil))))))))))) ?_;refine UA ?_;have bU:=J (show Ext W1 W1.drew from(kR _ W1).drew)
  (repeat (first|refine zS ?_|((apply ig);(· exact bU.out);(· go_simp);(· (intro w1 hS;have d0:=bX HB.out hS;have d1:=bH d0;have d2:=bG d0;have d3:=d0.lt;have d4:=(Hq.out _ (dX.out.trans hS)).1;have d5:=(Hq.out _ (dX.out.trans hS)).2;go_simp;try with_reducible rfl));refine tO ?_)|((apply h_);(· exact bU.out);(· go_simp);refine tO ?_)))
  refine iE ?_ ?_
  ·skip
   (refine dz (λK hK=>?_);go_simp)
   have ym:Ext W1 (W1.alloc (.map #[] 0)).drew:=((kR (λ_=>False) W1).alloc _).drew;have y2:Ext W1 (W1.alloc (.map #[] 0)).drew:=(kR (λ_=>False) W1).trans ym;have hm2:SMap (W1.alloc (.map #[] 0)).drew W1.heap.size (λ_=>none):=(SMap.made W1).ext (kR _ _).drew;refine hK.out _ _ (λ_=>y2) ?_;clear hK K;generalize TM:(W1.alloc (.map #[] 0)).drew=w2 at ym y2 hm2⊢;clear TM;generalize hwm:W1.heap.size=wm at hm2⊢;have hwl:W1.heap.size<=wm:=by rw [<-hwm];exact(kR (λ_=>False) W1).size
   clear hwm;refine m_ ?_;intro K hK;go_wp2_with fail;refine(G5 _).mono ?_;rintro e w3 ⟨rfl,hi3,hx3⟩;have y3:=(y2).trans hx3;refine hK.out _ _ (λ_=>y3) ?_;clear hK K
   (repeat refine zS ?_)
   generalize hsm:w2.heap.size=sm at hi3⊢;clear hsm
   (refine dz (λK hK=>?_);go_simp)
   go_wp2_with fail;refine(zL _).mono ?_;rintro e w4 ⟨rfl,hi4,hx4⟩;have y4:=(y3).trans hx4;refine hK.out _ _ (λ_=>y4) ?_;clear hK K;generalize hem:w3.heap.size=em at hi4⊢;clear hem;refine afl ?_;intro y9 Au hml ya;have RB:=(hm2.ext (hx3.trans hx4)).ext ya;have hs9:=(hi3.ext hx4).ext ya;exact ajC
  ·skip
   (refine dz (λK hK=>?_);go_simp)
   go_wp2_with fail;refine(G5 _).mono ?_;rintro e w2 ⟨rfl,hi2,hx2⟩;have y2:=(bU.out).trans hx2;refine hK.out _ _ (λ_=>y2) ?_;clear hK K;generalize hsm:W1.drew.heap.size=sm at hi2⊢;clear hsm
   (repeat refine zS ?_)
   refine iE ?_ ?_
   ·skip
    (refine dz (λK hK=>?_);go_simp)
    have ym:Ext w2 (w2.alloc (.map #[] 0)):=((kR (λ_=>False) w2).alloc _);have y3:Ext W1 (w2.alloc (.map #[] 0)):=(y2).trans ym;have Rz:SMap (w2.alloc (.map #[] 0)) w2.heap.size (λ_=>none):=(SMap.made w2);refine hK.out _ _ (λ_=>y3) ?_;clear hK K;generalize TM:(w2.alloc (.map #[] 0))=w3 at ym y3 Rz⊢;clear TM;generalize hwm:w2.heap.size=wm at Rz⊢;have hwl:W1.heap.size<=wm:=by rw [<-hwm];exact(y2).size
    clear hwm;refine m_ ?_;intro K hK;go_wp2_with fail;refine(zL _).mono ?_;rintro e w4 ⟨rfl,hi4,hx4⟩;have y4:=(y3).trans hx4;refine hK.out _ _ (λ_=>y4) ?_;clear hK K;generalize hem:w3.heap.size=em at hi4⊢;clear hem;refine afl ?_;intro y9 Au hml ya;have RB:=(Rz.ext hx4).ext ya;have hs9:=(hi2.ext (ym.trans hx4)).ext ya;exact ajC
   ·skip
    (refine dz (λK hK=>?_);go_simp)
    go_wp2_with fail;refine(zL _).mono ?_;rintro e w3 ⟨rfl,hi3,hx3⟩;have y3:=(y2).trans hx3;refine hK.out _ _ (λ_=>y3) ?_;clear hK K;generalize hem:w2.heap.size=em at hi3⊢;clear hem;refine m_ ?_;intro K hK;have ym:Ext w3 (w3.alloc (.map #[] 0)):=((kR (λ_=>False) w3).alloc _);have y4:Ext W1 (w3.alloc (.map #[] 0)):=(y3).trans ym;have Ay:SMap (w3.alloc (.map #[] 0)) w3.heap.size (λ_=>none):=(SMap.made w3);refine hK.out _ _ (λ_=>y4) ?_;clear hK K;generalize TM:(w3.alloc (.map #[] 0))=w4 at ym y4 Ay⊢;clear TM;generalize hwm:w3.heap.size=wm at Ay⊢;have hwl:W1.heap.size<=wm:=by rw [<-hwm];exact(y3).size
    clear hwm;refine afl ?_;intro y9 Au hml ya;have RB:=(Ay).ext ya;have hs9:=(hi2.ext (hx3.trans ym)).ext ya;have he9:=(hi3.ext ym).ext ya;exact adf
 case h2=>
  intro W3 wm sm em mb hmk;obtain⟨y3,hm0,hs0,he0,Au,hwl,hml⟩:=hmk;obtain⟨B,hBd⟩:∃B,B=W1.heap.size:=⟨_,rfl⟩;rw [<-hBd]at hwl hml dR;have hlB:=J (show B<=W3.heap.size by rw [hBd];exact y3.size);have OC:N<=B:=by have:=hN;have:=dR.out;omega
  have lQ:=J (show MS W3 B N mb p c b wm sm em 0 (vW p.vars 0) []from⟨⟨none,0,0,Au,⟨by simp [fV],.inl ⟨rfl,rfl⟩⟩⟩,HP.out.kept (dX.out.trans y3) (by rw [lN.out];exact hN) (λ_ f=>f.elim),⟨_,hm0,λs=>by simp [abu]⟩,hs0,he0,OC,hlB.out,hml,hwl,by simp⟩);have HPG:=J (bX HB.out y3);have HWX:=J (dX.out.trans y3);have hcw:=(Hq.out _ HWX.out).1;have hcl:=(Hq.out _ (kR _ w)).2;have tH:=J (And.intro hcw (show cb<B by rw [lN.out]at hcl;have:=dR.out;omega));have HVS:=J (lQ.out.prog.vars);have HPS:=J (lQ.out.prog.params);clear y3 hm0 hs0 he0 Au hwl hml hBd hcw hcl HP HB dX Hq;have amx:IntKind.i64.wrap (b+0)=b:=by rw [Int.add_zero];exact wrap_i64 jP
  obtain⟨Fj,hvf,qH,vb,vo,J_,hvE⟩:=HVS.out;have hvm:=hvf.max aj;have xu:=J Fj;have Hy:=J J_;have Wy:=J hvE;clear Fj hvf qH J_ hvE;obtain⟨vA,J_⟩:∃vA,vA=c.vars.A:=⟨_,rfl⟩;have a1:=bC HPG.out;have a2:=HPG.out.lt;go_wp2_with fail;clear a1 a2
  go_loopw [28] (λt28 wr=>∃(j:Nat),j<=c.vars.n/\t28=.int .i64 j/\MS wr B N mb p c b wm sm em 0 (vW p.vars j) []/\KT B wm W3 wr) (λt28 _=>c.vars.n - (intOf t28).toNat)
  case atStart=>exact⟨0,Nat.zero_le _,rfl,lQ.out,KT.refl _ _ _⟩
  case round=>
   obtain⟨j,hj,rfl,hmj,hkj⟩:=hrel;have HMJ:=J hmj;have oZ:=J hkj;clear hmj hkj
   by_cases hlt:j<c.vars.n
   ·have hjl:j<p.vars.length:=by have:=xu.out;omega
    have jd:(j:Int)<c.vars.n:=by omega
    have yY:=Hy.out aj;obtain⟨hvb,hrow⟩:=Wy.out aj;obtain⟨hh',hg'⟩:=mZ hrow j hjl;obtain⟨u1,u2,u3⟩:=lJ oZ.out ⟨OC,hlB.out⟩ hvb hh' hg';obtain⟨v,RG⟩:∃v,v=p.vars[j]:=⟨_,rfl⟩;rw [<-RG]at u2;have Ko:=J RG;clear hrow RG hh' hg' hvb;have y0:=(kR (λ_=>False) wr).alloc (.cells (aJ v) 109);have hB0:=bN wr 109 (aJ v);rw [yY];go_upto_region 5 with(fail);generalize (wr.alloc (.cells (aJ v) 109))=W5 at y0 hB0⊢;generalize wr.heap.size=g at hB0⊢;have nC:=J hB0;have wD:=J (HMJ.out.ext y0);have pG:=J (oZ.out.trans (KT.ext (B:=B) (wm:=wm) y0));clear y0 hB0 u1 u2 u3 yY;have wE:=J (KT.block pG.out HPG.out ak ak);refine gM (λwz=>Ext W5 wz) [(0,2),(1,2),(2,2),(3,1),(4,2),(5,1),(6,1),(7,2),(8,1),(9,0),(10,2),(11,2),(12,2),(13,2),(14,0)] ?_;refine gN ?_;have yd:Ext W5 W5.drew:=(kR _ W5).drew
    (repeat first|refine cu ?_|refine dL yd (by intro w1 hS;have d0:=bX nC.out hS;have d1:=bC d0;have d2:=d0.lt;have hm':=wD.out.ext hS;obtain⟨A',n',cp',hb',_⟩:=hm'.blk;have d3:=bC hb';have d4:=hb'.lt;have d9:=bX wE.out hS;have dA:=bH d9;have dB:=bG d9;have dC:=d9.lt;exact gX) ?_|refine dK yd ?_)
    (refine aC (λK hK=>?_);go_simp)
    go_wp2_with fail;refine(zW c p v.name N _ (Nat.le_trans OC (wD.out.ext yd).hB) (wD.out.ext yd).prog).mono ?_;rintro e w6 ⟨rfl,hx6⟩;have y6:=yd.trans hx6;refine hK.out _ _ (λ_=>y6) ?_;clear hK K
    (repeat refine cu ?_)
    have oO:=J (wD.out.ext y6);obtain⟨G,hG,hGW⟩:=oO.out.words;obtain⟨w7,hrun,hG7,ou⟩:=SMap.put (P:=prog) hG underlying154 underlying9 v.name (.int .i64 (aS p.vars v.name));obtain⟨Xr,hK7⟩:=oO.out.word ou hG7 (CU _ v.name _ G hGW);rw [abt p.vars j hjl v Ko.out]at Xr;have Fw:=J Xr;have NQ:=J (pG.out.trans ((KT.ext (B:=B) (wm:=wm) y6).trans hK7));clear Xr hK7 ou hG7 hG hGW;refine afu ?_;clear hrun;go_wp2_with fail;go_roundw
    case rel=>exact⟨j+1,hlt,by go_num,Fw.out,NQ.out⟩
    case measure=>simp only [intOf];omega
   ·obtain rfl:j=c.vars.n:=by omega
    have hm8:=HMJ.out;rw [xu.out,aeQ]at hm8;have ZM:=J hm8;clear hm8;have hc8:=(Kept.cell oZ.out.below (p:=⟨cb,0,none⟩) (by have:=tH.out.2;have:=hlB.out;show cb<W3.heap.size;omega) (by have:=tH.out.2;show¬B<=cb;omega)).trans tH.out.1;have hc9:cb<wr.heap.size:=by have:=tH.out.2;have:=ZM.out.hB;omega
    have b0:=bC (KT.block oZ.out HPG.out ak ak);have b2:=(KT.block oZ.out HPG.out ak ak).lt;have hwb:IntKind.i64.wrap b=b:=wrap_i64 jP;have akj:=J (KT.block oZ.out HPG.out ak ak)
    by_cases hp2:part=2
    ·have he2:((part:Int)==2)=true:=by simp [hp2]
     have HTW:=J (show iC p b part=pU (aS p.vars) b p.params from by rw [hp2];unfold iC;rw [if_pos rfl]);clear hp2;obtain⟨hpn,hpf,hpo,qb,qo,JZ,OM⟩:=HPS.out;have hpm:=hpf.max aj;have Ca:=J hpn;have iY:=J JZ;have HPE:=J OM;clear hpn hpf hpo JZ OM;go_wp2_with fail;clear b0 b2 hc8 hc9
     go_loopw [58] (λt58 wq=>∃(j:Nat),j<=c.params.n/\t58=.int .i64 j/\MS wq B N mb p c b wm sm em 0 (pU (aS p.vars) b (p.params.take j)) []/\KT B wm W3 wq) (λt58 _=>c.params.n - (intOf t58).toNat)
     case atStart=>exact⟨0,Nat.zero_le _,rfl,ZM.out,oZ.out⟩
     case round=>
      obtain⟨i,hi,rfl,hmi,hki⟩:=hrel;have HMI:=J hmi;have qg:=J hki;clear hmi hki
      by_cases hlt:i<c.params.n
      ·have hjl:i<p.params.length:=by have:=Ca.out;omega
       have jd:(i:Int)<c.params.n:=by omega
       have yY:=iY.out aj;obtain⟨hvb,hrow⟩:=HPE.out aj;obtain⟨hh',hg'⟩:=mZ hrow i hjl;obtain⟨u1,u2,u3⟩:=lJ qg.out ⟨OC,hlB.out⟩ hvb hh' hg';obtain⟨v,RG⟩:∃v,v=p.params[i]:=⟨_,rfl⟩;rw [<-RG]at u2;have Ko:=J RG;clear hrow RG hh' hg' hvb;have hwj:IntKind.i64.wrap (b+(i:Int))=b+i:=wrap_i64 jP;have y0:=(kR (λ_=>False) wr).alloc (.cells (aJ v) 109);have hB0:=bN wr 109 (aJ v);rw [yY];go_upto_region 13 with(fail);generalize (wr.alloc (.cells (aJ v) 109))=W5 at y0 hB0⊢;generalize wr.heap.size=g at hB0⊢;have nC:=J hB0;have wD:=J (HMI.out.ext y0);have pG:=J (qg.out.trans (KT.ext (B:=B) (wm:=wm) y0));clear y0 hB0 u1 u2 u3 yY;refine gM (λwz=>Ext W5 wz) [(0,2),(1,2),(2,2),(3,1),(4,2),(5,1),(6,2),(7,2),(8,2),(9,0)] ?_;refine gN ?_;have yd:Ext W5 W5.drew:=(kR _ W5).drew
       (repeat first|refine cu ?_|refine dL yd (by intro w1 hS;have hm':=wD.out.ext hS;obtain⟨A',n',cp',hb',_⟩:=hm'.blk;have d3:=bC hb';have d4:=hb'.lt;have d0:=bX nC.out hS;have d1:=bC d0;have d2:=d0.lt;exact gX) ?_|refine dK yd ?_)
       have HMd:=J (wD.out.ext yd);obtain⟨G,hG,hGW⟩:=HMd.out.words;obtain⟨w7,hrun,hG7,ou⟩:=SMap.put (P:=prog) hG underlying154 underlying9 v.name (.int .i64 (b+(i:Int)));obtain⟨Xr,hK7⟩:=HMd.out.word ou hG7 (CU _ v.name _ G hGW);have hpe:gG (pU (aS p.vars) b (p.params.take i)) v.name (b+(i:Int))=pU (aS p.vars) b (p.params.take (i+1)):=by rw [List.take_add_one,List.getElem?_eq_getElem hjl,<-Ko.out,Option.toList_some,GN,List.length_take,Nat.min_eq_left aj]
       rw [hpe]at Xr;clear hpe;have Fw:=J Xr;have adA:=J ((KT.ext (B:=B) (wm:=wm) yd).trans hK7);clear Xr hK7 ou hG7 hG hGW yd HMd;refine afu ?_;clear hrun;go_wp2_with fail;go_roundw
       case rel=>exact⟨i+1,hlt,by go_num,Fw.out,pG.out.trans adA.out⟩
       case measure=>simp only [intOf];omega
      ·obtain rfl:i=c.params.n:=by omega
       have RB:=HMI.out;rw [Ca.out,List.take_length]at RB;have HM9:=J RB;clear RB;have HTX:=HTW.out;have HMa:=J (show MS wr B N mb p c b wm sm em 0 (iC p b part) []from by rw [HTX];exact HM9.out);have HKa:=J (qg.out);exact afy
    by_cases hp3:part=3
    ·have he2:((part:Int)==2)=false:=by simp [hp3]
     have he3:((part:Int)==3)=true:=by simp [hp3]
     have HTW:=J (show iC p b part=gG (aS p.vars) p.silent b from by rw [hp3];unfold iC;rw [if_neg ak,if_pos rfl]);clear hp2 hp3;have hsi:=J ZM.out.prog.silent;go_upto_region 16 with(fail);clear b0 b2 hc8 hc9;refine gM (λwz=>Ext wr wz) [(0,2),(1,2),(2,2),(3,1),(4,2),(5,1),(6,2),(7,0)] ?_;refine gN ?_;have yd:Ext wr wr.drew:=(kR _ wr).drew
     (repeat first|refine cu ?_|refine dL yd (by intro w1 hS;have hm':=ZM.out.ext hS;obtain⟨A',n',cp',hb',_⟩:=hm'.blk;have d3:=bC hb';have d4:=hb'.lt;have d9:=bX akj.out hS;have dA:=bC d9;have dC:=d9.lt;exact gX) ?_|refine dK yd ?_)
     have HMd:=J (ZM.out.ext yd);obtain⟨G,hG,hGW⟩:=HMd.out.words;obtain⟨w7,hrun,hG7,ou⟩:=SMap.put (P:=prog) hG underlying154 underlying9 c.silent (.int .i64 (b));obtain⟨Xr,hK7⟩:=HMd.out.word ou hG7 (CU _ c.silent _ G hGW);rw [hsi.out]at Xr;have Fw:=J Xr;have adA:=J ((KT.ext (B:=B) (wm:=wm) yd).trans hK7);clear Xr hK7 ou hG7 hG hGW yd HMd;refine afu ?_;clear hrun;have EY:=J (oZ.out.trans adA.out);have HTX:=HTW.out;have HMa:=J (show MS w7 B N mb p c b wm sm em 0 (iC p b part) []from by rw [HTX];exact Fw.out);have HKa:=J (EY.out);exact afy
    have he2:((part:Int)==2)=false:=by simp;omega
    have he3:((part:Int)==3)=false:=by simp;omega
    have VZ:iC p b part=aS p.vars:=by unfold iC;rw [if_neg hp2,if_neg hp3]
    have HTW:=J VZ;clear hp2 hp3 VZ;go_upto_region 17 with(fail);clear b0 b2 hc8 hc9;have HTX:=HTW.out;have HMa:=J (show MS wr B N mb p c b wm sm em 0 (iC p b part) []from by rw [HTX];exact ZM.out);have HKa:=J (oZ.out);exact afy
open Go.RowKit So
theorem KV (f:Option oW):(gU f).size=2:=by cases f<;>rfl
theorem Gn (f:Option oW):iQ (gU f).toList=true:=by cases f<;>rfl
theorem aH.R4 {w:World} {b:Nat} {t:TypeId} (h:aH w b t #[.int .i64 0,.string ⟨#[]⟩]) (f:Option oW):aH (putAt w b 0 (gU f)) b t (gU f):=by
 have:=aH.gL h 0 (gU f)
 cases f<;>exact this
theorem El (c:Pc) (p:Pr) (i:Nat) (hi:i<5) (N:Nat) (w0:World) (hN:N<=w0.heap.size) (h:lT w0 N c p) (F:SF):WH c p i N w0 F:=by
 refine sj (C:=WH c p i N w0) ?_ F;clear F;intro F IH deep top A n kc pl B bn bc w hw hpl hAk hpn hd8 hsl;obtain⟨hn,hf,b,off,hA,hE⟩:=hsl;have hm:=hf.max aj;obtain⟨κ,V_⟩:∃κ,κ=aU (fB p.vars) pl:=⟨_,rfl⟩;obtain⟨Z,hZ⟩:∃Z,Z=bV i κ deep top F:=⟨_,rfl⟩;rw [<-V_,<-hZ];have NR:=J V_;have HZ:=J hZ.symm;have HN:=J hn;have HA:=J hA;have HE:=J hE;have HI:=J IH;have Ca:=J (And.intro hpn hd8);have HAK:=J hAk;have HW0:=J hw;have HN0:=J hN;have HP0:=J h;clear V_ hZ hn hf hA hE IH hpn hd8 hAk;have hx0:=((kR (λ_=>False) w).alloc (.cells (dP c A n kc) 120)).alloc (.cells #[.int .i64 0,.string ⟨#[]⟩] 60);have hK:=(bN w 120 (dP c A n kc)).alloc (.cells #[.int .i64 0,.string ⟨#[]⟩] 60);have hD:=aH.new' (w.alloc (.cells (dP c A n kc) 120)) 60 #[.int .i64 0,.string ⟨#[]⟩] (w.heap.size+1) aG;go_enter func54,ntmps54;go_upto_region 1 with(fail);have dR:=J (show w.heap.size<=_ from hx0.size);have HPL:=J (hpl.ext hx0);have HWZ:=J (hw.trans hx0);generalize hW:((w.alloc (.cells (dP c A n kc) 120)).alloc (.cells #[.int .i64 0,.string ⟨#[]⟩] 60))=W at hx0 hK hD dR HPL HWZ⊢;clear hW h hpl hw hN;obtain⟨rb,hrb⟩:∃rb,rb=w.heap.size+1:=⟨_,rfl⟩;rw [<-hrb]at hD⊢;obtain⟨kb,hkb⟩:∃kb,kb=w.heap.size:=⟨_,rfl⟩;rw [<-hkb]at hK⊢;have HRW:=J (show w.heap.size<=rb/\¬rb=kb from⟨by omega,by omega⟩);have HD:=J hD;have HX0:=J hx0;have HK:=J hK;clear hD hx0 hrb hK hkb;go_wp2_with fail
 go_loopw [11] (λt11 wr=>∃(m:Nat) (R:SF),m+R.len=bn/\bV i κ deep top R=Z/\t11=.int .i64 m/\nk w0 N R b (off+m*7)/\SF.All (WH c p i N w0) R/\Ext W wr) (λt11 _=>bn - (intOf t11).toNat)
 case atStart=>exact⟨0,F,by rw [HN.out,Nat.zero_add],HZ.out,rfl,by simpa using HE.out,HI.out,kR _ _⟩
 case round=>
  obtain⟨m,R,hm',hacc,rfl,hR,hall,hx⟩:=hrel;have HRR:=J hR;have dF:=J hx;have dw:=J hacc;have iL:=J hall;clear hR hx hacc hall
  cases R with
  |nil=>
   simp only [SF.len,Nat.add_zero]at hm';subst hm';have HR:=J (show Z=none by rw [<-dw.out];rfl);go_wp2_with fail;refine(lD _).mono ?_;rintro e9 w9 ⟨rfl,Gr⟩;have dF:=J (dF.out.trans Gr);refine ER ?_;intro fq hmr iw hlr;have qE:=bH (bX HK.out dF.out);have qD:=bG (bX HK.out dF.out);have oM:=(bX HK.out dF.out).lt;clear Gr;exact adb
  |cons kind name es low high l x r=>
   obtain⟨hb,h1,h2,h3,h4,⟨eA,ec,lA,lc,xA,xc,be,oe,bl,ol,bx,ox,hh,hg,n1,n2,n3,a1,a2,a3,he,hl,Az⟩,hr⟩:=HRR.out;simp only [SF.len]at hm';have hlt:(m:Int)<bn:=by omega
   obtain rfl:=HA.out aj;have hw0:=HWZ.out.trans dF.out;have HH0:=J (iB hw0 (by have:=HN0.out;omega) hh);have HG0:=J (gH hw0 (by have:=HN0.out;omega) hg);have hbw:b<wr.heap.size:=by have:=hw0.size;have:=HN0.out;omega
   have KE:=J (show g_ w0 N eA es.len es from⟨rfl,n1,be,oe,a1,he⟩);refine Vs ?_;intro KL KX;have HR2:=J hr;have sH:=J iL.out;have xJ:=J h4;have HWQ:=J hw0;have HHW:=J hbw;clear hh hg n1 n2 n3 a1 a2 a3 he hl Az hb h1 h2 h3 h4 hr HRR hw0;have HHa:=HH0.out;have HGa:=HG0.out;have dw:=J (show Z=ay (nu i κ deep (top&&r.isNil) kind name es low high l x) (bV i κ deep top r)from dw.out▸jT i κ deep top kind name es low high l x r)
   have hls:((m:Int)==(bn:Int) - 1)=r.isNil:=by
    cases r with
    |nil=>simp only [SF.len]at hm';simp [SF.isNil];omega
    |cons=>simp only [SF.len]at hm';simp [SF.isNil];omega
   obtain⟨la,hla⟩:∃la,la=r.isNil:=⟨_,rfl⟩;rw [<-hla]at hls;have HLS:=J (show((m:Int)==IntKind.i64.wrap ((bn:Int) - 1))=la by rw [<-hls];congr 1;rw [IntKind.wrap_i64];omega);clear hls
   cases top
   ·have ZK:=J (λw' (hw':Ext w0 w') (hs':eO w' w'.heap.size A n pl)=>GY c p i hi N w0 HN0.out HP0.out deep Ca.out.2 kind name es low high l x eA ec lA lc xA xc false xJ.out KE.out KL.out KX.out sH.out.1 sH.out.2.1 A n kc pl w' hw' hs' HAK.out Ca.out.1)
    obtain⟨f,hf⟩:∃f,f=nu i κ deep false kind name es low high l x:=⟨_,rfl⟩;have HXB:=J (show Z=ay f (bV i κ deep false r)from hf▸dw.out);clear HLS dw hla la;exact zz4
   ·have ZK:=J (λw' (hw':Ext w0 w') (hs':eO w' w'.heap.size A n pl)=>GY c p i hi N w0 HN0.out HP0.out deep Ca.out.2 kind name es low high l x eA ec lA lc xA xc la xJ.out KE.out KL.out KX.out sH.out.1 sH.out.2.1 A n kc pl w' hw' hs' HAK.out Ca.out.1)
    obtain⟨f,hf⟩:∃f,f=nu i κ deep la kind name es low high l x:=⟨_,rfl⟩;have HXB:=J (show Z=ay f (bV i κ deep true r)from hf▸hla▸dw.out);clear dw hla;exact zz4
end Go.Proofs.YtbfbabbcdochjaaGreatDoor
