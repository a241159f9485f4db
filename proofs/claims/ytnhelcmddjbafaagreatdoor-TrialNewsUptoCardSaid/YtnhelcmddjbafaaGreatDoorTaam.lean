import Derived.Test.YtnhelcmddjbafaaGreatDoorTaal
set_option maxHeartbeats 4000000
set_option maxRecDepth 100000
open Go.Proofs.Tryz
namespace Go.Proofs.YtnhelcmddjbafaaGreatDoor
open Go.RowKit Mc Sq
variable{base:Nat}
theorem alx {F M:World->Nat->Nat->Nat->Nat->Prop} {G:Prop} (h:(∀W a b c d,F W a b c d->M W a b c d)->G) (h2:∀W a b c d,F W a b c d->M W a b c d):G:=h h2
def sr:Wd->Int->List Vr->Wd
 |W,_,[]=>W
 |W,a,v::r=>sr (gY W v.name a) (a+1) r
def ka (p:Pr) (b:Int) (part:Nat):Wd:=if part=2 then sr (fL p.vars) b p.params else if part=3 then gY (fL p.vars) p.silent b else fL p.vars
def aha (W1:World) (c:Pc) (b:Int) (W3:World) (wm sm em mb:Nat):Prop:=
 al W1 W3/\dt W3 wm (λ_=>none)/\cu W3 sm xC/\cu W3 em fV/\aj W3 mb 303 (nd none 0 0 c b wm 0 sm em)/\W1.heap.size<=wm/\W1.heap.size<=mb
def vW (l:List Vr) (j:Nat):Wd:=λs=>if (l.take j).any (λv=>decide (v.name=s))=true then fL l s else 0
theorem acN (l):vW l 0=λ_=>0:=by funext s;simp [vW]
theorem ahv (l):vW l l.length=fL l:=by
 funext s
 unfold vW fL;rw [lf]
 split<;>rfl
theorem acM (l) (j) (hj) (x:Vr) (hx:x=l[j]):gY (vW l j) x.name (fL l x.name)=vW l (j+1):=by
 funext s
 unfold gY vW;rw [mJ,List.getElem?_eq_getElem hj,<-hx];simp only [Option.toList_some,List.any_append,List.any_cons,List.any_nil,Bool.or_false]
 by_cases e:s=x.name
 .subst e;simp
 .have:decide (x.name=s)=false:=cU (λh=>e h.symm)
  rw [af e,this,Bool.or_false]
theorem GK:∀(l:List Vr) (W:Wd) (a:Int) (v:Vr),sr W a (l++[v])=gY (sr W a l) v.name (a+l.length)
 |[],W,a,v=>by simp [sr]
 |u::l,W,a,v=>by
  show sr (gY W u.name a) (a+1) (l++[v])=_;rw [GK l _ _ v];show gY (sr (gY W u.name a) (a+1) l) v.name _=gY (sr (gY W u.name a) (a+1) l) v.name _
  congr 1
  simp only [dT]
  omega
theorem sj (part:Nat) (_aoO:part<=4) (cb N:Nat) (c:Pc) (p:Pr) (b) (A) (n cap) (F) (κ) (w) (hN:N<=w.heap.size) (hP:lZ w N c p) (zF:w.cell? ⟨cb,0,none⟩=some (.int .i64 b)) (b0:0<=b) (b1:b<=100)
 (hs:jc w N A n F) (hc:cC part κ 0 true F=none) (hz:F.size<=1099511627776) (JI:∀s,0<=ka p b part s/\ka p b part s<=1000) (Na:∀s,κ s=0->ka p b part s=0) (hL:(cB ⟨p.vars,p.aP,b⟩ F (ka p b part) 0 0).length<=3900) (qf:p.params.length<=4):
 Calls prog 141 #[.pointer (some ⟨cb,0,none⟩),.int .i64 part,.slice A n cap,.agg c.cells] w λe w'=>∃A' n' c',e=.returned (.slice A' n' c')/\al w w'/\w'.ownsRow (w.heap.size+1) 71 4 (.slice A' n' c') n' (cM (cB ⟨p.vars,p.aP,b⟩ F (ka p b part) 0 0++[⟨0,0,0,0⟩]))/\∀i∈cB ⟨p.vars,p.aP,b⟩ F (ka p b part) 0 0++[⟨0,0,0,0⟩],i.ok:=by
 have y1:al w (w.alloc (.cells c.cells 163)):=dS w _;have cG:=bN w 163 c.cells;have jd:cb<w.heap.size:=Nat.lt_of_not_le (λh=>by unfold World.cell? at zF;rw [Array.getElem?_eq_none h]at zF;cases zF);have⟨vu,HP,HS,HC,QU,Ny,HL,fx⟩:=J8' (show∀w',al w w'->w'.cell? ⟨cb,0,none⟩=some (.int .i64 b)/\cb<w'.heap.size from λw' hx=>⟨(Kept.cell hx (p:=⟨cb,0,none⟩) jd (λf=>f)).trans zF,gw jd hx.size⟩) hP hs hc JI Na hL (show w.heap.size+1=(w.alloc (.cells c.cells 163)).heap.size by simp);have hbb:=df b0 b1;have CU:=@run_makeMap prog;clear hP zF jd hs hc JI Na hL;go_enter func141,ntmps141;go_upto_region 1 with(fail);generalize ku:(w.alloc (.cells c.cells 163))=W1 at y1 cG fx⊢;clear ku;generalize zR:(w:World).heap.size=pb at cG fx hN⊢;have⟨oO,HB,dR⟩:=J3' zR cG y1;clear cG y1 zR;apply alx (F:=aha W1 c b)
 case h=>
  intro jX;have EW:=J jX;clear jX;refine WB (λwz=>al W1 wz) (.op 0 1 (.op 1 2 (.op 2 2 (.op 3 2 (.op 4 1 (.fork 5 (.op 6 0 (.op 7 0 (.op 8 2 (.op 9 0 (.op 10 2 .nil))))) 6 (.fork 5 (.op 7 0 (.op 8 2 (.op 9 0 (.op 10 2 .nil)))) 7 (.op 5 0 (.op 8 2 (.op 9 0 (.op 10 2 .nil))))))))))) ?_;refine WC ?_;have bT:=J (pj W1)
  (repeat (first|refine oh ?_|((apply c_);(· exact bT.o);(· go_simp);(· (intro w1 hS;have d0:=bX HB.o hS;have d1:=bH d0;have d2:=bG d0;have d3:=d0.lt;have d4:=(vu.o _ (dR.o.trans hS)).1;have d5:=(vu.o _ (dR.o.trans hS)).2;go_simp;try with_reducible rfl));refine iR ?_)|((apply cZ);(· exact bT.o);(· go_simp);refine iR ?_)))
  refine gL ?_ ?_
  .skip
   refine cw (λK hK=>?_);go_simp;have ym:al W1 (W1.alloc (.map #[] 0)).drew:=(dz W1 _).drew;have y2:al W1 (W1.alloc (.map #[] 0)).drew:=(kR (λ_=>False) W1).trans ym;have jG:dt (W1.alloc (.map #[] 0)).drew W1.heap.size (λ_=>none):=(dt.made W1).ext (kR _ _).drew;refine hK.out _ _ (λ_=>y2) ?_;clear hK K;generalize hWq:(W1.alloc (.map #[] 0)).drew=w2 at ym y2 jG⊢;clear hWq;generalize hwm:W1.heap.size=wm at jG⊢;have YV:W1.heap.size<=wm:=by rw [<-hwm];exact(kR (λ_=>False) W1).size
   clear hwm;refine o8 ?_;intro K hK;go_wp21;refine(G3 _).mono ?_;rintro e w3 ⟨rfl,Yr,ea⟩;have y3:=(y2).trans ea;refine hK.out _ _ (λ_=>y3) ?_;clear hK K
   repeat refine oh ?_
   generalize YP:w2.heap.size=sm at Yr⊢;clear YP;refine cw (λK hK=>?_);go_simp;go_wp21;refine(yu _).mono ?_;rintro e w4 ⟨rfl,hi4,eV⟩;have y4:=(y3).trans eV;refine hK.out _ _ (λ_=>y4) ?_;clear hK K;generalize hem:w3.heap.size=em at hi4⊢;clear hem;refine amz ?_;intro y9 zD xR ya;have RF:=(jG.ext (ea.trans eV)).ext ya;have hs9:=(Yr.ext eV).ext ya;exact anN
  .skip
   refine cw (λK hK=>?_);go_simp;go_wp21;refine(G3 _).mono ?_;rintro e w2 ⟨rfl,On,bM⟩;have y2:=(bT.o).trans bM;refine hK.out _ _ (λ_=>y2) ?_;clear hK K;generalize YP:W1.drew.heap.size=sm at On⊢;clear YP
   repeat refine oh ?_
   refine gL ?_ ?_
   .skip
    refine cw (λK hK=>?_);go_simp;have ym:al w2 (w2.alloc (.map #[] 0)):=(dz w2 _);have y3:al W1 (w2.alloc (.map #[] 0)):=(y2).trans ym;have Fl:dt (w2.alloc (.map #[] 0)) w2.heap.size (λ_=>none):=(dt.made w2);refine hK.out _ _ (λ_=>y3) ?_;clear hK K;generalize hWq:(w2.alloc (.map #[] 0))=w3 at ym y3 Fl⊢;clear hWq;generalize hwm:w2.heap.size=wm at Fl⊢;have YV:W1.heap.size<=wm:=by rw [<-hwm];exact(y2).size
    clear hwm;refine o8 ?_;intro K hK;go_wp21;refine(yu _).mono ?_;rintro e w4 ⟨rfl,hi4,eV⟩;have y4:=(y3).trans eV;refine hK.out _ _ (λ_=>y4) ?_;clear hK K;generalize hem:w3.heap.size=em at hi4⊢;clear hem;refine amz ?_;intro y9 zD xR ya;have RF:=(Fl.ext eV).ext ya;have hs9:=(On.ext (ym.trans eV)).ext ya;exact anN
   .skip
    refine cw (λK hK=>?_);go_simp;go_wp21;refine(yu _).mono ?_;rintro e w3 ⟨rfl,Yr,ea⟩;have y3:=(y2).trans ea;refine hK.out _ _ (λ_=>y3) ?_;clear hK K;generalize hem:w2.heap.size=em at Yr⊢;clear hem;refine o8 ?_;intro K hK;have ym:al w3 (w3.alloc (.map #[] 0)):=(dz w3 _);have y4:al W1 (w3.alloc (.map #[] 0)):=(y3).trans ym;have t_:dt (w3.alloc (.map #[] 0)) w3.heap.size (λ_=>none):=(dt.made w3);refine hK.out _ _ (λ_=>y4) ?_;clear hK K;generalize hWq:(w3.alloc (.map #[] 0))=w4 at ym y4 t_⊢;clear hWq;generalize hwm:w3.heap.size=wm at t_⊢;have YV:W1.heap.size<=wm:=by rw [<-hwm];exact(y3).size
    clear hwm;refine amz ?_;intro y9 zD xR ya;have RF:=(t_).ext ya;have hs9:=(On.ext (ea.trans ym)).ext ya;have he9:=(Yr.ext ym).ext ya;exact aeX
 case h2=>
  intro W3 wm sm em mb hmk;obtain⟨y3,hm0,Oz,he0,zD,YV,xR⟩:=hmk;obtain⟨B,hBd⟩:=nm' W1.heap.size;rw [<-hBd]at YV xR fx;have Wj:=J (show B<=W3.heap.size by rw [hBd];exact y3.size);have Od:N<=B:=by have:=hN;have:=fx.o;omega
  have kz:=J (show MS W3 B N mb p c b wm sm em 0 (vW p.vars 0) []from⟨⟨none,0,0,zD,⟨by simp [cM],.inl ⟨rfl,rfl⟩⟩⟩,HP.o.kept (dR.o.trans y3) (by rw [oO.o];exact hN) (λ_ f=>f.elim),⟨_,hm0,λs=>by simp [acN]⟩,Oz,he0,Od,Wj.o,xR,YV,by simp⟩);have HPG:=J (bX HB.o y3);have HWX:=J (dR.o.trans y3);have hcw:=(vu.o _ HWX.o).1;have jd:=(vu.o _ (kR _ w)).2;have⟨n7,HVS,HPS⟩:=J3' (df hcw (show cb<B by rw [oO.o]at jd;have:=fx.o;omega)) (kz.o.prog.vars) (kz.o.prog.params);clear y3 hm0 Oz he0 zD YV xR hBd hcw jd HP HB dR vu;have arw:IntKind.i64.wrap (b+0)=b:=by rw [Int.add_zero];exact wrap_i64 mu
  obtain⟨hvn,hvf,uS,vb,vo,hvA,hvE⟩:=HVS.o;have hvm:=hvf.max ad;have⟨HVN,HVA,HVE⟩:=J3' hvn hvA hvE;clear hvn hvf uS hvA hvE;obtain⟨vA,hvA⟩:=nm' c.vars.A;have a1:=bC HPG.o;have a2:=HPG.o.lt;go_wp21;clear a1 a2
  go_loopw [28] (λt28 wr=>∃(j:Nat),j<=c.vars.n/\t28=.int .i64 j/\MS wr B N mb p c b wm sm em 0 (vW p.vars j) []/\KT B wm W3 wr) (λt28 _=>c.vars.n - (intOf t28).toNat)
  case atStart=>exact⟨0,de _,rfl,kz.o,KT.refl _ _ _⟩
  case round=>
   obtain⟨j,hj,rfl,hmj,hkj⟩:=hrel;have HMJ:=J hmj;have vM:=J hkj;clear hmj hkj
   by_cases aX:j<c.vars.n
   .have ft:j<p.vars.length:=by have:=HVN.o;omega
    have iI:(j:Int)<c.vars.n:=by omega
    have Im:=HVA.o ad;obtain⟨hvb,aG⟩:=HVE.o ad;obtain⟨jM,hg'⟩:=oL aG j ft;obtain⟨u1,u2,u3⟩:=kP vM.o ⟨Od,Wj.o⟩ hvb jM hg';obtain⟨v,hve⟩:=nm' (p.vars[j]);rw [<-hve]at u2;have HVV:=J hve;clear aG hve jM hg' hvb;have y0:=dz wr (.cells (aO v) 232);have cG:=bN wr 232 (aO v);rw [Im];go_upto_region 5 with(fail);generalize (wr.alloc (.cells (aO v) 232))=W5 at y0 cG⊢;generalize wr.heap.size=g at cG⊢;have⟨tN,Bg,vz⟩:=J3' cG (HMJ.o.ext y0) (vM.o.trans (KT.ext (B:=B) (wm:=wm) y0));clear y0 cG u1 u2 u3 Im;have M6:=J (KT.block vz.o HPG.o ae ae);refine eW (λwz=>al W5 wz) [(0,2),(1,2),(2,2),(3,1),(4,2),(5,1),(6,1),(7,2),(8,1),(9,0),(10,2),(11,2),(12,2),(13,2),(14,0)] ?_;refine eX ?_;have yd:al W5 W5.drew:=(kR _ W5).drew
    repeat first|refine bV ?_|refine cF yd (by intro w1 hS;have d0:=bX tN.o hS;have d1:=bC d0;have d2:=d0.lt;have iP:=Bg.o.ext hS;obtain⟨A',n',oU,fJ,_⟩:=iP.blk;have d3:=bC fJ;have d4:=fJ.lt;have d9:=bX M6.o hS;have dA:=bH d9;have dB:=bG d9;have dC:=d9.lt;exact fE) ?_|refine cD yd ?_
    refine ap (λK hK=>?_);go_simp;go_wp21;refine kU (yX c p v.name N _ (ay Od (Bg.o.ext yd).hB) (Bg.o.ext yd).prog) λw6 qz=>?_;have y6:=yd.trans qz;refine hK.out _ _ (λ_=>y6) ?_;clear hK K
    repeat refine bV ?_
    have uh:=J (Bg.o.ext y6);obtain⟨G,hG,hGW⟩:=uh.o.words;obtain⟨w7,dr,Rr,nM⟩:=dt.put (P:=prog) hG underlying297 underlying9 v.name (.int .i64 (fL p.vars v.name));obtain⟨X',hK7⟩:=uh.o.word nM Rr (BO _ v.name _ G hGW);rw [acM p.vars j ft v HVV.o]at X';have EQ:=J X';have HK7:=J (vz.o.trans ((KT.ext (B:=B) (wm:=wm) y6).trans hK7));clear X' hK7 nM Rr hG hGW;refine ahY ?_;clear dr;go_wp21;go_roundw
    case rel=>exact⟨j+1,aX,by go_num,EQ.o,HK7.o⟩
    case measure=>simp only [intOf];omega
   .obtain rfl:j=c.vars.n:=by omega
    have Wn:=HMJ.o;rw [HVN.o,ahv]at Wn;have JV:=J Wn;clear Wn;have hc8:=(Kept.cell vM.o.below (p:=⟨cb,0,none⟩) (by have:=n7.o.2;have:=Wj.o;show cb<W3.heap.size;omega) (by have:=n7.o.2;show¬B<=cb;omega)).trans n7.o.1;have hc9:cb<wr.heap.size:=by have:=n7.o.2;have:=JV.o.hB;omega
    have b0:=bC (KT.block vM.o HPG.o ae ae);have b2:=(KT.block vM.o HPG.o ae ae).lt;have hwb:IntKind.i64.wrap b=b:=wrap_i64 mu;have aow:=J (KT.block vM.o HPG.o ae ae)
    by_cases Wp:part=2
    .have T_:((part:Int)==2)=true:=by simp [Wp]
     have HTW:=J (show ka p b part=sr (fL p.vars) b p.params from by rw [Wp];unfold ka;rw [av rfl]);clear Wp;obtain⟨JN,hpf,hpo,qb,qo,hpA,hpE⟩:=HPS.o;have hpm:=hpf.max ad;have⟨FL,iq,HPE⟩:=J3' JN hpA hpE;clear JN hpf hpo hpA hpE;go_wp21;clear b0 b2 hc8 hc9
     go_loopw [58] (λt58 wq=>∃(j:Nat),j<=c.params.n/\t58=.int .i64 j/\MS wq B N mb p c b wm sm em 0 (sr (fL p.vars) b (p.params.take j)) []/\KT B wm W3 wq) (λt58 _=>c.params.n - (intOf t58).toNat)
     case atStart=>exact⟨0,de _,rfl,JV.o,vM.o⟩
     case round=>
      obtain⟨i,hi,rfl,hmi,hki⟩:=hrel;have HMI:=J hmi;have qV:=J hki;clear hmi hki
      by_cases aX:i<c.params.n
      .have ft:i<p.params.length:=by have:=FL.o;omega
       have iI:(i:Int)<c.params.n:=by omega
       have Im:=iq.o ad;obtain⟨hvb,aG⟩:=HPE.o ad;obtain⟨jM,hg'⟩:=oL aG i ft;obtain⟨u1,u2,u3⟩:=kP qV.o ⟨Od,Wj.o⟩ hvb jM hg';obtain⟨v,hve⟩:=nm' (p.params[i]);rw [<-hve]at u2;have HVV:=J hve;clear aG hve jM hg' hvb;have hwj:IntKind.i64.wrap (b+(i:Int))=b+i:=wrap_i64 mu;have y0:=dz wr (.cells (aO v) 232);have cG:=bN wr 232 (aO v);rw [Im];go_upto_region 13 with(fail);generalize (wr.alloc (.cells (aO v) 232))=W5 at y0 cG⊢;generalize wr.heap.size=g at cG⊢;have⟨tN,Bg,vz⟩:=J3' cG (HMI.o.ext y0) (qV.o.trans (KT.ext (B:=B) (wm:=wm) y0));clear y0 cG u1 u2 u3 Im;refine eW (λwz=>al W5 wz) [(0,2),(1,2),(2,2),(3,1),(4,2),(5,1),(6,2),(7,2),(8,2),(9,0)] ?_;refine eX ?_;have yd:al W5 W5.drew:=(kR _ W5).drew
       repeat first|refine bV ?_|refine cF yd (by intro w1 hS;have iP:=Bg.o.ext hS;obtain⟨A',n',oU,fJ,_⟩:=iP.blk;have d3:=bC fJ;have d4:=fJ.lt;have d0:=bX tN.o hS;have d1:=bC d0;have d2:=d0.lt;exact fE) ?_|refine cD yd ?_
       have HMd:=J (Bg.o.ext yd);obtain⟨G,hG,hGW⟩:=HMd.o.words;obtain⟨w7,dr,Rr,nM⟩:=dt.put (P:=prog) hG underlying297 underlying9 v.name (.int .i64 (b+(i:Int)));obtain⟨X',hK7⟩:=HMd.o.word nM Rr (BO _ v.name _ G hGW);have hpe:gY (sr (fL p.vars) b (p.params.take i)) v.name (b+(i:Int))=sr (fL p.vars) b (p.params.take (i+1)):=by rw [mJ,List.getElem?_eq_getElem ft,<-HVV.o,Option.toList_some,GK,vR,Nat.min_eq_left ad]
       rw [hpe]at X';clear hpe;have EQ:=J X';have afr:=J ((KT.ext (B:=B) (wm:=wm) yd).trans hK7);clear X' hK7 nM Rr hG hGW yd HMd;refine ahY ?_;clear dr;go_wp21;go_roundw
       case rel=>exact⟨i+1,aX,by go_num,EQ.o,vz.o.trans afr.o⟩
       case measure=>simp only [intOf];omega
      .obtain rfl:i=c.params.n:=by omega
       have RF:=HMI.o;rw [FL.o,lf]at RF;have HM9:=J RF;clear RF;have VV:=HTW.o;have HMa:=J (show MS wr B N mb p c b wm sm em 0 (ka p b part) []from by rw [VV];exact HM9.o);have HKa:=J (qV.o);exact aif
    by_cases hp3:part=3
    .have T_:((part:Int)==2)=false:=by simp [hp3]
     have he3:((part:Int)==3)=true:=by simp [hp3]
     have HTW:=J (show ka p b part=gY (fL p.vars) p.silent b from by rw [hp3];unfold ka;rw [af ae,av rfl]);clear Wp hp3;have hsi:=J JV.o.prog.silent;go_upto_region 16 with(fail);clear b0 b2 hc8 hc9;refine eW (λwz=>al wr wz) [(0,2),(1,2),(2,2),(3,1),(4,2),(5,1),(6,2),(7,0)] ?_;refine eX ?_;have yd:al wr wr.drew:=(kR _ wr).drew
     repeat first|refine bV ?_|refine cF yd (by intro w1 hS;have iP:=JV.o.ext hS;obtain⟨A',n',oU,fJ,_⟩:=iP.blk;have d3:=bC fJ;have d4:=fJ.lt;have d9:=bX aow.o hS;have dA:=bC d9;have dC:=d9.lt;exact fE) ?_|refine cD yd ?_
     have HMd:=J (JV.o.ext yd);obtain⟨G,hG,hGW⟩:=HMd.o.words;obtain⟨w7,dr,Rr,nM⟩:=dt.put (P:=prog) hG underlying297 underlying9 c.silent (.int .i64 (b));obtain⟨X',hK7⟩:=HMd.o.word nM Rr (BO _ c.silent _ G hGW);rw [hsi.o]at X';have EQ:=J X';have afr:=J ((KT.ext (B:=B) (wm:=wm) yd).trans hK7);clear X' hK7 nM Rr hG hGW yd HMd;refine ahY ?_;clear dr;have Ep:=J (vM.o.trans afr.o);have VV:=HTW.o;have HMa:=J (show MS w7 B N mb p c b wm sm em 0 (ka p b part) []from by rw [VV];exact EQ.o);have HKa:=J (Ep.o);exact aif
    have T_:((part:Int)==2)=false:=by simp;omega
    have he3:((part:Int)==3)=false:=by simp;omega
    have htw:ka p b part=fL p.vars:=by unfold ka;rw [af Wp,af hp3]
    have HTW:=J htw;clear Wp hp3 htw;go_upto_region 17 with(fail);clear b0 b2 hc8 hc9;have VV:=HTW.o;have HMa:=J (show MS wr B N mb p c b wm sm em 0 (ka p b part) []from by rw [VV];exact JV.o);have HKa:=J (vM.o);exact aif
theorem KB (f):(gf f).size=2:=by cases f<;>rfl
theorem Ge (f):eI (gf f).toList=true:=by cases f<;>rfl
theorem aj.R5 {w} {b} {t} (h:aj w b t #[.int .i64 0,.string ⟨#[]⟩]) (f:Option oq):aj (putAt w b 0 (gf f)) b t (gf f):=by
 have:=aj.cI h 0 (gf f)
 cases f<;>exact this
theorem DC (c) (p) (i:Nat) (hi:i<5) (N:Nat) (w0:World) (hN:N<=w0.heap.size) (h:lZ w0 N c p) (F:SF):Xm c p i N w0 F:=by
 refine qL (C:=Xm c p i N w0) ?_ F;clear F;intro F IH deep fT A n kc pl B bn bc w hw qf hAk JN hd8 oZ;obtain⟨hn,hf,b,off,hA,hE⟩:=oZ;have hm:=hf.max ad;obtain⟨κ,Wy⟩:=nm' (bu (fK p.vars) pl);obtain⟨Z,hZ⟩:=nm' (cC i κ deep fT F);rw [<-Wy,<-hZ];have⟨Nt,HZ,HN,HA,HE,HI,FL,HAK,QU,HN0,HP0⟩:=J11 Wy hZ.symm hn hA hE IH (df JN hd8) hAk hw hN h;clear Wy hZ hn hf hA hE IH JN hd8 hAk;have aK:=(dz w (.cells (cQ c A n kc) 243)).alloc (.cells #[.int .i64 0,.string ⟨#[]⟩] 166);have hK:=(bN w 243 (cQ c A n kc)).alloc (.cells #[.int .i64 0,.string ⟨#[]⟩] 166);have hD:=aj.d_ (w.alloc (.cells (cQ c A n kc) 243)) 166 #[.int .i64 0,.string ⟨#[]⟩] (w.heap.size+1) aC;go_enter func149,ntmps149;go_upto_region 1 with(fail);have⟨fx,HPL,HWZ⟩:=J3' (show w.heap.size<=_ from aK.size) (qf.ext aK) (hw.trans aK);generalize hW:((w.alloc (.cells (cQ c A n kc) 243)).alloc (.cells #[.int .i64 0,.string ⟨#[]⟩] 166))=W at aK hK hD fx HPL HWZ⊢;clear hW h qf hw hN;obtain⟨rb,pg⟩:=nm' (w.heap.size+1);rw [<-pg]at hD⊢;obtain⟨kb,Bs⟩:=nm' w.heap.size;rw [<-Bs]at hK⊢;have⟨B_,HD,dX,HK⟩:=J4' (show w.heap.size<=rb/\¬rb=kb from⟨by omega,by omega⟩) hD aK hK;clear hD aK pg hK Bs;go_wp21
 go_loopw [11] (λt11 wr=>∃(m:Nat) (R:SF),m+R.len=bn/\cC i κ deep fT R=Z/\t11=.int .i64 m/\mS w0 N R b (off+m*7)/\SF.xO (Xm c p i N w0) R/\al W wr) (λt11 _=>bn - (intOf t11).toNat)
 case atStart=>exact⟨0,F,by rw [HN.o,dU],HZ.o,rfl,by simpa using HE.o,HI.o,kR _ _⟩
 case round=>
  obtain⟨m,R,iP,bO,rfl,hR,hall,hx⟩:=hrel;have⟨qd,cH,cr,i'⟩:=J4' hR hx bO hall;clear hR hx bO hall
  cases R with
  |nil=>
   simp only [SF.len,fC]at iP;subst iP;have HR:=J (show Z=none by rw [<-cr.o];rfl);go_wp21;refine kU (kH _) λw9 r_=>?_;have cH:=J (cH.o.trans r_);refine QE ?_;intro eg fY gD gy;have pI:=bH (bX HK.o cH.o);have pH:=bG (bX HK.o cH.o);have nZ:=(bX HK.o cH.o).lt;clear r_;exact aeR
  |cons kind name es low high l x r=>
   obtain⟨hb,h1,h2,h3,h4,⟨eA,ec,lA,lc,xA,xc,be,oe,bl,ol,bx,ox,hh,hg,n1,n2,n3,a1,a2,a3,he,hl,AX⟩,hr⟩:=qd.o;simp only [SF.len]at iP;have aX:(m:Int)<bn:=by omega
   obtain rfl:=HA.o ad;have qg:=HWZ.o.trans cH.o;have HH0:=J (kK qg (by have:=HN0.o;omega) hh);have VP:=J (jg qg (by have:=HN0.o;omega) hg);have ie:b<wr.heap.size:=by have:=qg.size;have:=HN0.o;omega
   have KE:=J (show lJ w0 N eA es.len es from⟨rfl,n1,be,oe,a1,he⟩);refine amy ?_;intro KL KX;have⟨sP,Hq,HSZ,HWQ,HHW⟩:=J5' hr i'.o h4 qg ie;clear hh hg n1 n2 n3 a1 a2 a3 he hl AX hb h1 h2 h3 h4 hr qd qg;have HHa:=HH0.o;have HGa:=VP.o;have cr:=J (show Z=ak (oS i κ deep (fT&&r.isNil) kind name es low high l x) (cC i κ deep fT r)from cr.o▸lr i κ deep fT kind name es low high l x r)
   have qy:((m:Int)==(bn:Int) - 1)=r.isNil:=by
    cases r with
    |nil=>simp only [SF.len]at iP;simp [SF.isNil];omega
    |cons=>simp only [SF.len]at iP;simp [SF.isNil];omega
   obtain⟨la,T3⟩:=nm' r.isNil;rw [<-T3]at qy;have HLS:=J (show((m:Int)==IntKind.i64.wrap ((bn:Int) - 1))=la by rw [<-qy];congr 1;rw [jH];omega);clear qy
   cases fT
   .have HIK:=J (λw' (K9:al w0 w') (K7:dV w' w'.heap.size A n pl)=>GU c p i hi N w0 HN0.o HP0.o deep FL.o.2 kind name es low high l x eA ec lA lc xA xc false HSZ.o KE.o KL.o KX.o Hq.o.1 Hq.o.2.1 A n kc pl w' K9 K7 HAK.o FL.o.1)
    obtain⟨f,hf⟩:=nm' (oS i κ deep false kind name es low high l x);have H3:=J (show Z=ak f (cC i κ deep false r)from hf▸cr.o);clear HLS cr T3 la;exact zz7
   .have HIK:=J (λw' (K9:al w0 w') (K7:dV w' w'.heap.size A n pl)=>GU c p i hi N w0 HN0.o HP0.o deep FL.o.2 kind name es low high l x eA ec lA lc xA xc la HSZ.o KE.o KL.o KX.o Hq.o.1 Hq.o.2.1 A n kc pl w' K9 K7 HAK.o FL.o.1)
    obtain⟨f,hf⟩:=nm' (oS i κ deep la kind name es low high l x);have H3:=J (show Z=ak f (cC i κ deep true r)from hf▸T3▸cr.o);clear cr T3;exact zz7
def Nl (s:iu):Prop:=s.n<=s.c/\(s.A=none->s.c=0)
structure Ho (c:Pc):Prop where
 vars:Nl c.vars
 start:Nl c.start
 turn:Nl c.turn
 params:Nl c.params
 ci:Nl c.ci
 quiet:Nl c.quiet
 bP:Nl c.bP
def U3 (c:Pc):Nat->iu|0=>c.start|1=>c.turn|2=>c.ci|3=>c.quiet|_=>c.bP
def AY (p:Pr):Nat->List Str|2=>p.params.map Vr.name|3=>[p.silent]|_=>[]
theorem lZ.part {w} {N} {c} {p} (h:lZ w N c p) (i:Nat):jc w N (U3 c i).A (U3 c i).n (partOf p i):=by
 unfold U3 partOf
 split
 .exact h.start
 .exact h.turn
 .exact h.ci
 .exact h.quiet
 .rename_i h0 h1 h2 h3
  split
  .exact absurd rfl h0
  .exact absurd rfl h1
  .exact absurd rfl h2
  .exact absurd rfl h3
  .exact h.bP
theorem acg (p) (i):o5 p i=bu (fK p.vars) (AY p i):=by
 match i with
 |0=>rfl
 |1=>rfl
 |2=>rfl
 |3=>rfl
 |_+4=>rfl
def Gf (p:Pr) (M:Option oq) (i:Nat):Option oq:=(List.range' i (5 - i)).foldr (λj r=>ak (lu p j) r) M
theorem X_ (p) (M) (i) (hi:i<5):Gf p M i=ak (lu p i) (Gf p M (i+1)):=by
 exact Sw
theorem I9 (p):check p=ak (must (dv p.name) 6 p.name) (ak (must (iX p.aP 2 8) 2 vf) (ak (must ((p.cd.length:Int)==p.aP) 3 gP) (ak (must (p.cd.all (λn=>iX n 1 2147483647)) 2 gP) (ak (ak (eM [] p.vars) (must (decide (cells p.vars<=64)) 8 rq))
 (ak (ak (must (decide (p.params.length<=4)) 8 f_) (ak (dH (fK p.vars) [] p.params) (ak (must (decide (na p.params<=512)) 8 f_) (ak (must (dv p.silent) 6 p.silent) (must (fK p.vars p.silent==0) 7 p.silent))))) (ak (must (decide (jw (dE p)<=1000)) 5 p.name) (Gf p (ak (must (ends p.turn) 4 li) (must (jN p.bP) 4 om)) 0))))))):=by
 rw [check,kE,mT];simp only [dx]
 rfl
theorem u_:∀(l pre:List Vr),NZ (eM pre l)
 |[],_=>by rw [eM];exact NZ.none
 |v::r,pre=>by
  rw [eM];exact NZ.ak (NZ.must ae) (NZ.ak (NZ.must ae) (NZ.ak (NZ.must ae) (u_ r _)))
theorem uZ (κ:Kn):∀(l pre:List Vr),NZ (dH κ pre l)
 |[],_=>by rw [dH];exact NZ.none
 |v::r,pre=>by
  rw [dH];exact NZ.ak (NZ.must ae) (NZ.ak (NZ.must ae) (NZ.ak (NZ.must ae) (NZ.ak (NZ.must ae) (uZ κ r _))))
theorem UD {w} {T} {A} {n c} {l:List Str} (ho:w.ownsRow base T 1 (.slice A n c) n (b_ zg l)) (hn:n=l.length) (h4:n<=100):dV w w.heap.size A n l/\(A=none->c=0):=by
 obtain⟨B,bc,e,hB,hS⟩:=LH ho hn h4;injection e with e1 e2 e3;subst e1 e3;refine⟨hS,λh=>?_⟩
 rcases ho.2 with⟨hv,_⟩|⟨g,c',du,hv,_⟩
 .injection hv
 .injection hv with q1
  rw [h]at q1
  cases q1
theorem LM (p) (i) (h:p.params.length<=4):(AY p i).length<=40+0:=by
 unfold AY
 split
 .rw [fm];omega
 .simp
 .simp
theorem dV.ajp {w w'} {A} {n} {l} (h:dV w w.heap.size A n l) (hx:al w w'):dV w' w'.heap.size A n l:=(h.ext hx).mono hx.size
abbrev pP (c:Pc):Array Value:=#[c.start.v,c.turn.v,c.ci.v,c.quiet.v,c.bP.v]
theorem UF (c) (i) (hi:i<5):(pP c)[i]?=some ((U3 c i).v):=by
 exact Sw
theorem PK (c) (p) (N) (w:World) (hN:N<=w.heap.size) (h:lZ w N c p) (mE:Ho c):Calls prog 100 #[.agg c.cells] w λe w'=>e=.returned (.agg (gf (check p)))/\al w w':=by
 obtain⟨X,hX⟩:=nm' (check p);rw [<-hX];replace hX:=hX.trans (I9 p);obtain⟨b0,JK⟩:=nm' (dv p.name);obtain⟨b1,jq⟩:=nm' (iX p.aP 2 8);obtain⟨b2,jF⟩:=nm' (((p.cd.length:Int)==p.aP));obtain⟨V,hV⟩:=nm' (ak (eM [] p.vars) (must (decide (cells p.vars<=64)) 8 rq));obtain⟨P,hP⟩:=nm' (ak (must (decide (p.params.length<=4)) 8 f_) (ak (dH (fK p.vars) [] p.params) (ak (must (decide (na p.params<=512)) 8 f_) (ak (must (dv p.silent) 6 p.silent) (must (fK p.vars p.silent==0) 7 p.silent)))));obtain⟨b3,hb3⟩:=nm' (decide (jw (dE p)<=1000));obtain⟨b4,CM⟩:=nm' (ends p.turn);obtain⟨b5,Fi⟩:=nm' (jN p.bP);obtain⟨M,hM⟩:=nm' (ak (must b4 4 li) (must b5 4 om));obtain⟨T,hT⟩:=nm' (Gf p M 0);obtain⟨R1,gW⟩:=nm' (ak V (ak P (ak (must b3 5 p.name) T)));rw [<-JK,<-jq,<-jF,<-hb3,<-CM,<-Fi,<-hV,<-hP,<-hM,<-hT,<-gW]at hX;have Nw:=J (show NZ V by rw [hV];exact NZ.ak (u_ _ _) (NZ.must ae));have HNP:=J (show NZ P by rw [hP];exact NZ.ak (NZ.must ae) (NZ.ak (uZ _ _ _) (NZ.ak (NZ.must ae) (NZ.ak (NZ.must ae) (NZ.must ae)))))
 have Et:=J (show P=none->p.params.length<=4 by
  intro e;rw [hP,aD]at e
  simpa using di.1 e.1)
 have⟨HX,vt,Jy,mP,HV,HP,ot,ug,tN,HM,HT,H_⟩:=J12 hX JK jq jF hV hP hb3 CM Fi hM hT gW;clear hX JK jq jF hb3 CM Fi hV hP hM hT gW;have FH:=J mE;obtain⟨cn,kv,⟨kA,kn,kc⟩,⟨vA,vn,vc⟩,cs,⟨tA,tn,tc⟩,⟨A,n,cc⟩,iV,mC,cq,⟨zA,zn,zc⟩⟩:=c;obtain rfl:cn=p.name:=h.name;obtain rfl:mC=p.silent:=h.silent;obtain rfl:kv=p.aP:=h.aP;have aK:=(dz w (.cells (Pc.cells (⟨p.name,p.aP,⟨kA,kn,kc⟩,⟨vA,vn,vc⟩,cs,⟨tA,tn,tc⟩,⟨A,n,cc⟩,iV,p.silent,cq,⟨zA,zn,zc⟩⟩:Pc)) 39)).alloc (.cells #[.int .i64 0,.string ⟨#[]⟩] 166);have hB:=(bN w 39 (Pc.cells (⟨p.name,p.aP,⟨kA,kn,kc⟩,⟨vA,vn,vc⟩,cs,⟨tA,tn,tc⟩,⟨A,n,cc⟩,iV,p.silent,cq,⟨zA,zn,zc⟩⟩:Pc))).alloc (.cells #[.int .i64 0,.string ⟨#[]⟩] 166);have hD:=aj.d_ (w.alloc (.cells (Pc.cells (⟨p.name,p.aP,⟨kA,kn,kc⟩,⟨vA,vn,vc⟩,cs,⟨tA,tn,tc⟩,⟨A,n,cc⟩,iV,p.silent,cq,⟨zA,zn,zc⟩⟩:Pc)) 39)) 166 #[.int .i64 0,.string ⟨#[]⟩] (w.heap.size+1) aC;have⟨iq,fx,BZ⟩:=J3' (h.ext aK hN) (ay hN aK.size) h.Df;obtain⟨hn,hf,hok,b,off,hA,hE⟩:=h.cd.ext aK;have hm:=hf.max ad;have⟨HN,HA,HE,sO⟩:=J4' (show kn=p.cd.length from hn) hA hE (show n=p.params.length from h.params.1);have hnm:=Fits.max (show Fits n 40 from h.params.2.1) ad;have hzm:=Fits.max (show Fits zn 112 from h.bP.2.1) ad;have HZN:=J (show zn=p.bP.len from h.bP.1);clear hn hA hE hok hf h mE;go_enter func100,ntmps100;go_upto_region 1 with(fail);generalize hW:((w.alloc (.cells (Pc.cells (⟨p.name,p.aP,⟨kA,kn,kc⟩,⟨vA,vn,vc⟩,cs,⟨tA,tn,tc⟩,⟨A,n,cc⟩,iV,p.silent,cq,⟨zA,zn,zc⟩⟩:Pc)) 39)).alloc (.cells #[.int .i64 0,.string ⟨#[]⟩] 166))=W at aK hB hD HE iq fx⊢;clear hW;obtain⟨rb,pg⟩:=nm' (w.heap.size+1);rw [<-pg]at hD⊢;have⟨B_,HD,dX,HB⟩:=J4' (show w.heap.size<=rb by omega) hD aK hB;clear hD aK pg hB;generalize w.heap.size=pb at HB⊢;have cH:=J (kR (λ_=>False) W);refine Hj ?_;intro eg fY gD gy im lO lL ig;go_wp2_with fail;refine kU (ml p.name BZ.o _) λw1 aB=>?_;clear eg fY gD gy im lO lL ig;have cH:=J (cH.o.trans aB);clear aB;rw [<-vt.o];refine Hj ?_;intro eg fY gD gy im lO lL ig
 cases b0
 .have HR:=J (show X=some ⟨6,p.name⟩by rw [HX.o,aT,aZ])
  exact Eo
 .have gN:=J (show X=ak (must b1 2 vf) (ak (must b2 3 gP) (ak (must (p.cd.all (λn=>iX n 1 2147483647)) 2 gP) R1))by rw [HX.o,bL,aY])
  clear HX;go_wp2_with fail;refine uW (qB _ _ _ _) ?_;rw [<-Jy.o]
  cases b1
  .have HR:=J (show X=some ⟨2,vf⟩by rw [gN.o,aT,aZ])
   exact Eo
  .have fN:=J (show X=ak (must b2 3 gP) (ak (must (p.cd.all (λn=>iX n 1 2147483647)) 2 gP) R1)by rw [gN.o,bL,aY])
   clear gN;have jF:((kn:Int)==p.aP)=b2:=by rw [mP.o,HN.o]
   have Oj:((kn:Int) !=p.aP)=!b2:=by unfold bne;rw [jF]
   cases b2
   .have HR:=J (show X=some ⟨3,gP⟩by rw [fN.o,aT,aZ])
    exact Eo
   .have gO:=J (show X=ak (must (p.cd.all (λn=>iX n 1 2147483647)) 2 gP) R1 by rw [fN.o,bL,aY])
    clear fN vt Jy mP;go_wp2_with fail;clear jF Oj eg fY gD gy im lO lL ig;have HXS:=cH;clear cH
    go_loopw [3] (λt3 wr=>∃(j:Nat),j<=kn/\t3=.int .i64 j/\ak (must ((p.cd.drop j).all (λn=>iX n 1 2147483647)) 2 gP) R1=X/\al W wr) (λt3 _=>kn - (intOf t3).toNat)
    case atStart=>exact⟨0,de _,rfl,gO.o.symm,HXS.o⟩
    case round=>
     obtain⟨j,hj,rfl,bO,hx⟩:=hrel;have cH:=J hx;have cr:=J bO;clear hx bO HXS gO;refine Hj ?_;intro eg fY gD gy im lO lL ig
     by_cases aX:j<kn
     .have ft:j<p.cd.length:=by have:=HN.o;omega
      have iI:(j:Int)<kn:=by omega
      obtain rfl:=HA.o ad;have aG:=(HE.o ad).2.ext cH.o;have hci:=YY aG j ft;have ie:=aG.lt;obtain⟨x,gi⟩:=nm' (p.cd[j]);have oB:p.cd.drop j=x::p.cd.drop (j+1):=by rw [gi];exact ui ft
      rw [<-gi]at hci;have bO:=cr.o;rw [oB,List.all_cons]at bO;have cr:=J bO;clear aG gi oB bO;go_wp2_with fail;refine uW (qB _ _ _ _) ?_;obtain⟨q,hq⟩:=nm' (iX x 1 2147483647);rw [<-hq]at cr⊢;clear hq
      cases q
      .have HR:=J (show X=some ⟨2,gP⟩by rw [<-cr.o,Bool.false_and,aT,aZ])
       exact Eo
      .have HA2:=J cr.o
       go_wp2_with fail;exact⟨⟨j+1,aX,by go_num,by rw [rG]at HA2;exact HA2.o,cH.o⟩,by simp only [intOf];omega⟩
     .obtain rfl:j=kn:=by omega
      have eK:=J (show X=ak V (ak P (ak (must b3 5 p.name) T))by rw [<-H_.o,<-cr.o,HN.o,uj,List.all_nil,bL,aY]);clear cr H_ aX hj;go_wp2_with fail;refine kU (UW p.vars vA vn vc N _ FH.o.vars.1 (ay fx.o cH.o.size) (iq.o.ext cH.o fx.o).vars) λw2 bM=>?_;clear eg fY gD gy im lO lL ig;have cH:=J (cH.o.trans bM);clear bM;rw [<-HV.o]
      cases V with
      |some f=>
       obtain⟨fe,fn⟩:=f;have HNF:=J (NZ.o Nw.o rfl);have HR:=J (show X=some ⟨fe,fn⟩by rw [eK.o,aZ]);refine adw ?_;intro y3 hV;go_upto_region 13 with(fail);exact amQ
      |none=>
       have k_:=J (show X=ak P (ak (must b3 5 p.name) T)by rw [eK.o,aY]);clear eK HV Nw;refine adv ?_;intro y3 hV;go_upto_region 13 with(fail);generalize (w2.alloc (.cells #[.int .i64 0,.string ⟨#[]⟩] 166))=W3 at y3 hV⊢;refine zy9 ?_;clear hV y3 cH;intro fb eP Be eL K hK;rintro e2 w4 ⟨rfl,eV⟩;refine ady ?_;clear hK K eV;intro ny cH;clear eP eL ny Be;refine Hj ?_;intro eg fY gD gy im lO lL ig;go_wp2_with fail;refine kU (US (⟨p.name,p.aP,⟨kA,j,kc⟩,⟨vA,vn,vc⟩,cs,⟨tA,tn,tc⟩,⟨A,n,cc⟩,iV,p.silent,cq,⟨zA,zn,zc⟩⟩:Pc) p N _ (ay fx.o cH.o.size) (iq.o.ext cH.o fx.o) FH.o.params.1) λw2 bM=>?_;clear eg fY gD gy im lO lL ig;have cH:=J (cH.o.trans bM);clear bM;rw [<-HP.o]
       cases P with
       |some f=>
        obtain⟨fe,fn⟩:=f;have HNF:=J (NZ.o HNP.o rfl);have HR:=J (show X=some ⟨fe,fn⟩by rw [k_.o,aZ]);refine adw ?_;intro y3 hV;go_upto_region 16 with(fail);exact amQ
       |none=>
        have pu:=J (show X=ak (must b3 5 p.name) T by rw [k_.o,aY]);have M6:=J (show n<=4 by have:=Et.o rfl;have:=sO.o;omega);clear k_ HP HNP Et;refine adv ?_;intro y3 hV;go_upto_region 16 with(fail);generalize (w2.alloc (.cells #[.int .i64 0,.string ⟨#[]⟩] 166))=W3 at y3 hV⊢;refine zy9 ?_;clear hV y3 cH;intro fb eP Be eL K hK;rintro e2 w4 ⟨rfl,eV⟩;refine ady ?_;clear hK K eV;intro ny cH;clear eP eL ny Be;refine Hj ?_;intro eg fY gD gy im lO lL ig;go_wp2_with fail;refine kU (GR (⟨p.name,p.aP,⟨kA,j,kc⟩,⟨vA,vn,vc⟩,cs,⟨tA,tn,tc⟩,⟨A,n,cc⟩,iV,p.silent,cq,⟨zA,zn,zc⟩⟩:Pc) p N _ (ay fx.o cH.o.size) (iq.o.ext cH.o fx.o)) λw2 bM=>?_;clear eg fY gD gy im lO lL ig;have cH:=J (cH.o.trans bM);clear bM;obtain⟨sz,hsz⟩:=nm' (jw (dE p));rw [<-hsz]at ot⊢;refine Hj ?_;intro eg fY gD gy im lO lL ig
        by_cases ajr:sz>1000
        .have HR:=J (show X=some ⟨5,p.name⟩by rw [pu.o,ot.o,cU ad,aT,aZ])
         exact Eo
        .have M8:=J (show X=T by rw [pu.o,ot.o,cO ad,bL,aY])
         clear pu ot hsz;obtain⟨-,-,-,pb2,po2,vC,hE2⟩:=iq.o.params;have HA2:=J vC;have QI:=J hE2;clear vC hE2;go_wp2_with fail;have y0:=dz w2 (.cells (pP (⟨p.name,p.aP,⟨kA,j,kc⟩,⟨vA,vn,vc⟩,cs,⟨tA,tn,tc⟩,⟨A,n,cc⟩,iV,p.silent,cq,⟨zA,zn,zc⟩⟩:Pc)) 37);have hab:=bN w2 37 (pP (⟨p.name,p.aP,⟨kA,j,kc⟩,⟨vA,vn,vc⟩,cs,⟨tA,tn,tc⟩,⟨A,n,cc⟩,iV,p.silent,cq,⟨zA,zn,zc⟩⟩:Pc));clear eg fY gD gy im lO lL ig;generalize hW5:(w2.alloc (.cells (pP (⟨p.name,p.aP,⟨kA,j,kc⟩,⟨vA,vn,vc⟩,cs,⟨tA,tn,tc⟩,⟨A,n,cc⟩,iV,p.silent,cq,⟨zA,zn,zc⟩⟩:Pc)) 37))=W5 at y0 hab⊢;generalize w2.heap.size=ab at hab⊢;have HAB:=J hab;have HXS:=J (cH.o.trans y0);clear hW5 hab y0 cH ajr
         go_loopw [7] (λt7 wr=>∃(i:Nat),i<=5/\t7=.int .i64 i/\Gf p M i=X/\al W5 wr) (λt7 _=>5 - (intOf t7).toNat)
         case atStart=>exact⟨0,by omega,rfl,by rw [<-HT.o];exact M8.o.symm,kR _ _⟩
         case round=>
          obtain⟨i,hi5,rfl,bO,hx⟩:=hrel;have⟨AB,cH,cr⟩:=J3' hx (HXS.o.trans hx) bO;clear hx bO
          by_cases aX:i<5
          .have iI:(i:Int)<5:=by omega
           have HLT:=J aX;have HAW:=J (bX HAB.o AB.o);obtain⟨kb,Bs⟩:=nm' wr.heap.size;have y1:=dz wr (.cells (cQ (⟨p.name,p.aP,⟨kA,j,kc⟩,⟨vA,vn,vc⟩,cs,⟨tA,tn,tc⟩,⟨A,n,cc⟩,iV,p.silent,cq,⟨zA,zn,zc⟩⟩:Pc) none 0 0) 243);have Ez:=bN wr 243 (cQ (⟨p.name,p.aP,⟨kA,j,kc⟩,⟨vA,vn,vc⟩,cs,⟨tA,tn,tc⟩,⟨A,n,cc⟩,iV,p.silent,cq,⟨zA,zn,zc⟩⟩:Pc) none 0 0);rw [<-Bs]at Ez;refine Hj ?_;intro eg fY gD gy im lO lL ig;go_wp2_with fail;clear eg fY gD gy im lO lL ig
           try rw [<-Bs]
           generalize hW6:(wr.alloc (.cells (cQ (⟨p.name,p.aP,⟨kA,j,kc⟩,⟨vA,vn,vc⟩,cs,⟨tA,tn,tc⟩,⟨A,n,cc⟩,iV,p.silent,cq,⟨zA,zn,zc⟩⟩:Pc) none 0 0) 243))=W6 at y1 Ez⊢;have⟨dR,EP,jy⟩:=J3' y1 Ez Bs;clear hW6 y1 Ez Bs
           go_loopw [9] (λt9 wq=>∃(q:Nat) (B:Option Addr) (bc:Nat),q<=n/\(¬i=2->q=0)/\t9=.int .i64 q/\aj wq kb 243 (cQ (⟨p.name,p.aP,⟨kA,j,kc⟩,⟨vA,vn,vc⟩,cs,⟨tA,tn,tc⟩,⟨A,n,cc⟩,iV,p.silent,cq,⟨zA,zn,zc⟩⟩:Pc) B q bc)/\wq.ownsRow (kb+1) 9 1 (.slice B q bc) q (b_ zg ((p.params.map Vr.name).take q))/\al wr wq) (λt9 _=>n - (intOf t9).toNat)
           case atStart=>exact⟨0,none,0,de _,λ_=>rfl,rfl,EP.o,World.ownsRow_nil _ _ _ _,dR.o⟩
           case round=>
            obtain⟨q,B,bc,hq,Wq,rfl,hkq,how,hx⟩:=hrel;have⟨M3,Hy,JD,H3,HQ2⟩:=J5' hkq how hx (cH.o.trans hx) Wq;clear hkq how hx Wq;have im:=bC (bX HB.o H3.o);have ig:=(bX HB.o H3.o).lt
            by_cases hqn:q<n
            .have hqI:(q:Int)<n:=by omega
             by_cases On:i=2
             .have apo:((i:Int)==2)=true:=by simp [On]
              have rh:=J On;clear On;have hql:q<p.params.length:=by have:=sO.o;omega
              obtain rfl:=HA2.o ad;have aG:=((QI.o ad).2.ext H3.o);obtain⟨jM,hg'⟩:=oL aG q hql;have ie:=aG.lt;obtain⟨x,gi⟩:=nm' (p.params[q]);rw [<-gi]at hg'
              have mN:(p.params.map Vr.name).take (q+1)=(p.params.map Vr.name).take q++[x.name]:=by
               rw [mJ,List.getElem?_map,List.getElem?_eq_getElem hql,gi]
               rfl
              have⟨FM,HH,HG⟩:=J3' mN jM hg'
              have HOL:=J (show¬kb<pb2/\¬kb<pb/\pb2<wr.heap.size/\pb<wr.heap.size/\kb<wr.heap.size from⟨by
               have h1:=(QI.o ad).1;have h2:=fx.o;have h3:=cH.o.size;have h4:=jy.o
               omega,by
               have h1:=(bX HB.o cH.o).lt;have h4:=jy.o
               omega,ie,ig,M3.o.lt⟩)
              clear aG gi mN jM hg' ie;go_upto_region 28 with(fail);clear im ig;refine eW (λw1=>Kept (λg=>kb<g) wr w1) [(0,2),(1,1),(2,2),(3,1),(4,2),(5,2),(6,2),(7,1),(8,0),(9,0),(10,2),(11,0)] ?_;refine eX ?_;have eL:=J (show Kept (λg=>kb<g) wr wr.drew from(kR _ wr).drew)
              repeat first|refine bV ?_|refine cF eL.o (by intro w1 hS;have d0:=bK M3.o hS (Nat.lt_irrefl _);have d1:=bC d0;have d3:=d0.lt;have d4:=bK (bX HB.o H3.o) hS HOL.o.2.1;have d5:=bC d4;have d6:=d4.lt;have d7:=(jK hS HOL.o.2.2.1 HOL.o.1).trans HH.o;have d8:=(iO hS HOL.o.2.2.1 HOL.o.1).trans HG.o;have d9:=gw HOL.o.2.2.1 hS.size;have d10:w1.cell? ⟨pb2,po2+q*4,none⟩=some (.string x.name):=ql d7 d8 ad;exact fE) ?_|refine cD eL.o ?_
              refine ap (λK hK=>?_);go_simp;have y1:Kept (λg=>kb<g) wr (wr.alloc (.cells #[.string x.name] 9)).drew:=(dS wr _).drew;have q6:aj (wr.alloc (.cells #[.string x.name] 9)).drew wr.heap.size 9 #[.string x.name]:=(bN wr _ _).drew;have own:=aQ Hy.o (show al wr (wr.alloc (.cells #[.string x.name] 9)).drew from(dS wr _).drew);refine hK.out _ _ (λ_=>y1) ?_;clear hK K;generalize (wr.alloc (.cells #[.string x.name] 9)).drew=V3 at y1 q6 own⊢;obtain⟨u6,hu6⟩:=nm' wr.heap.size;rw [<-hu6]at q6⊢;obtain⟨v',V4,dr,n8,kh,-⟩:=NL (f:=zg) wL (λ_=>rfl) (λ_=>rfl) V3 (kb+1) (.slice B q bc) q ((p.params.map Vr.name).take q) own u6 0 1 1 [x.name] rfl (Row.cR q6) (by have:=M6.o;omega) (by have:=HOL.o.2.2.2.2;have:=y1.size;omega);have y4:Kept (λg=>kb<g) wr V4:=y1.trans (kh.mono (λi _ e=>by have:=(own.lt i e).1;omega));refine ap (λK hK=>?_);refine VJ ?_;refine hK.out _ _ (λ_=>y4) ?_;clear hK K dr;have Ez:=bK M3.o y4 (Nat.lt_irrefl _);have hcK:=bC Ez;have hzK:=aj.frozen Ez;have nZ:=Ez.lt;rw [<-FM.o]at n8;obtain⟨g2,c2,rfl,aqO,RA,-⟩:=fq n8 ad ad;refine fc ?_;have yx:Kept (λg=>kb<=g) wr (V4.setCell ⟨kb,11,none⟩ (.slice (some ⟨g2,0,none⟩) (q+1) c2)):=(y4.mono (λi _ h=>Nat.le_of_lt h)).setCell _ _ (λ_=>eH _)
              have KQ:aj (V4.setCell ⟨kb,11,none⟩ (.slice (some ⟨g2,0,none⟩) (q+1) c2)) kb 243 (cQ (⟨p.name,p.aP,⟨kA,j,kc⟩,⟨vA,vn,vc⟩,cs,⟨tA,tn,tc⟩,⟨some ⟨pb2,po2,none⟩,n,cc⟩,iV,p.silent,cq,⟨zA,zn,zc⟩⟩:Pc) (some ⟨g2,0,none⟩) (q+1) c2):=by
               have q:=aj.fw Ez 11 (.slice (some ⟨g2,0,none⟩) (q+1) c2);exact q
              have ho9:=dy n8 ((kR (·=kb) V4).setCell ⟨kb,11,none⟩ (.slice (some ⟨g2,0,none⟩) (q+1) c2) (λ_=>rfl)) (λg e=>by
               have e2:g2=g:=Option.some.inj e
               omega)
              generalize V4.setCell ⟨kb,11,none⟩ (.slice (some ⟨g2,0,none⟩) (q+1) c2)=V9 at yx KQ ho9⊢;have AA:=J (JD.o.trans' yx (λi hi q=>by have:=jy.o;omega));clear hcK hzK nZ Ez;go_wp2_with fail;go_roundw
              case rel=>exact⟨q+1,some ⟨g2,0,none⟩,c2,hqn,λh=>absurd rh.o h,by go_num,KQ,ho9,AA.o⟩
              case measure=>simp only [intOf];omega
             .have apo:((i:Int)==2)=false:=by simp;omega
              have HPL:=J (show¬i=3->(p.params.map Vr.name).take q=AY p i from λh3=>by
               rw [HQ2.o On]
               rcases(by omega:i=0∨i=1∨i=4)with rfl|rfl|rfl<;>rfl)
              exact zz1
            .have HPL:=J (show¬i=3->(p.params.map Vr.name).take q=AY p i from λh3=>by
              by_cases On:i=2
              .subst On
               exact lY (by rw [fm];have:=sO.o;omega)
              .rw [HQ2.o On]
               rcases(by omega:i=0∨i=1∨i=4)with rfl|rfl|rfl<;>rfl)
             exact zz1
          .obtain rfl:i=5:=by omega
           have Xc:=J (show X=M by rw [<-cr.o];rfl);refine Hj ?_;intro eg fY gD gy im lO lL ig;go_wp2_with fail;refine kU (UN wr p.turn tA tn tc N wr (kR _ _) (ay fx.o cH.o.size) (iq.o.ext cH.o fx.o).turn) λw3 ea=>?_;clear eg fY gD gy im lO lL ig;have cH:=J (cH.o.trans ea);clear ea;rw [<-ug.o];refine Hj ?_;intro eg fY gD gy im lO lL ig
           cases b4
           .have HR:=J (show X=some ⟨4,li⟩by rw [Xc.o,HM.o,aT,aZ])
            exact Eo
           .have AA:=J (show X=must b5 4 om by rw [Xc.o,HM.o,bL,aY])
            clear Xc HM;obtain⟨-,-,b9,o9,hA9,hE9⟩:=(iq.o.ext cH.o fx.o).bP
            cases zn with
            |zero=>
             have HR:=J (show X=some ⟨4,om⟩by
              have:p.bP=.nil:=by
               have hz:=HZN.o
               cases hq:p.bP with
               |nil=>rfl
               |cons=>rw [hq]at hz;simp [SF.len]at hz
              rw [AA.o,show b5=false by rw [tN.o,this];rfl,aT])
             clear hA9 hE9;exact Eo
            |succ m=>
             obtain⟨k,hk,YO,hbN⟩:=Ja hE9 (by rw [<-HZN.o];exact Nat.succ_pos m);obtain rfl:=hA9 (Nat.succ_pos m);rw [<-HZN.o]at hk;have ie:=gw hbN (ay fx.o cH.o.size);simp only [Nat.add_sub_cancel]at hk;have lP:(m:Int)<((m:Int)+1):=by omega
             have Yq:(0:Int)<(m:Int)+1:=by omega
             have HRL:=J YO;clear YO hE9 hbN
             cases hq:(k==9)
             .have HR:=J (show X=some ⟨4,om⟩by rw [AA.o,show b5=false by rw [tN.o,HRL.o,hq],aT])
              have hqn:(k !=9)=true:=by unfold bne;rw [hq];rfl
              exact Eo
             .have HR:=J (show X=none by rw [AA.o,show b5=true by rw [tN.o,HRL.o,hq],bL])
              have hqn:(k !=9)=false:=by unfold bne;rw [hq];rfl
              go_wp2_with fail;refine kU (kH _) λw4 eV=>?_;clear eg fY gD gy im lO lL ig hk ie;have cH:=J (cH.o.trans eV);refine Hj ?_;intro eg fY gD gy im lO lL ig;clear eV;exact Eo
theorem NT (k:Mk) (W:Wd):∀(F:EF),(∀(j:Nat) (t:Int),(cE k W F j t).length<=4*F.size)/\(∀t q:Int,(cE k W F 0 t).length+(cE k W F 1 q).length<=4*F.size)
 | .nil=>by simp [cE]
 | .cons op n name kids r=>by
  obtain⟨hk,eC⟩:=NT k W kids;obtain⟨hr,-⟩:=NT k W r
  have h0:∀t,(cE k W (.cons op n name kids r) 0 t).length<=4*(1+kids.size):=λt=>by
   have a:=hk 0 t;have b1:=eC t (t+1);have b2:=eC (t+1) t;unfold cE
   repeat' split
   all_goals simp only [cy,dT,fB]
   all_goals omega
  refine⟨λj t=>?_,λt q=>?_⟩
  .cases j with
   |zero=>have:=h0 t;simp only [EF.size];omega
   |succ j=>have:=hr j t;rw [cE];simp only [EF.size];omega
  .have a:=h0 t
   have b:=hr 0 q;have e:cE k W (.cons op n name kids r) 1 q=cE k W r 0 q:=by rw [cE]
   rw [e];simp only [EF.size]
   omega
theorem Ib (k:Mk):∀(F:SF) (W:Wd) (f:Nat) (a:Int),(cB k F W f a).length<=7*F.size
 | .nil,_,_,_=>by simp [cB]
 | .cons kind name e low high l bY r,W,f,a=>by
  rw [Ia,cy];have hr:=Ib k r W f (a+(cS k W f a kind name e low high l bY).length);have hl:=λW f a=>Ib k l W f a;have hx:=λW f a=>Ib k bY W f a;obtain⟨he,T_⟩:=NT k W e
  have hS:(cS k W f a kind name e low high l bY).length<=7*(1+e.size+l.size+bY.size):=by
   have a0:=he 0 0;have a1:=T_ 0 1;have a2:(cE k W e 1 0).length+(cE k W e 0 1).length<=4*e.size:=by have:=T_ 1 0;omega
   unfold cS
   split
   .split
    .have b:=hl W f (a+(cE k W e 0 0).length+1)
     simp only [Ke,cy,dT,fB]
     omega
    .have b:=hl W f (a+(cE k W e 0 0).length+1)
     have c:=hx W f (a+(cE k W e 0 0).length+1+(cB k l W f (a+(cE k W e 0 0).length+1)).length+1);simp only [cIf,cy,dT,fB]
     omega
   .split
    .split
     .simp
     .have b:=hl (gY W name (Qm k f)) (f+1) (a+3)
      simp only [Fa,cy,dT,fB]
      omega
    .unfold qX
     repeat' split
     all_goals simp only [jP,cy,dT,fB]
     all_goals omega
  simp only [SF.size]
  omega
theorem tJ (v):1<=Sq.fO v:=by unfold Sq.fO;split<;>omega
theorem eS:∀(l:List Vr),0<=cells l
 |[]=>by simp [cells]
 |v::r=>by have:=tJ v;have:=eS r;simp only [cells];omega
theorem zu (q:Vr->Bool):∀(l:List Vr),cells (l.takeWhile q)<=cells l
 |[]=>by simp [cells]
 |v::r=>by
  have:=zu q r;have:=eS r;have:=tJ v;rw [List.takeWhile_cons]
  split<;>simp only [cells]<;>omega
theorem Kf (l) (s):0<=fL l s/\fL l s<=cells l:=by
 unfold fL
 split
 .exact⟨eS _,zu _ l⟩
 .exact⟨by omega,eS l⟩
theorem Ue {l} {s} (h:fK l s=0):∀v∈l,¬v.name=s:=λv hv e=>by
 unfold fK at h
 split at h
 .rename_i q
  have:=List.find?_eq_none.1 q v hv;simp at this;exact this e
 .split at h<;>omega
theorem uC {l} {s} (h:fK l s=0):fL l s=0:=by
 unfold fL;rw [af];intro e;rw [List.any_eq_true]at e;obtain⟨v,hv,q⟩:=e;exact Ue h v hv (of_decide_eq_true q)
theorem Du:∀(l:List Vr) (W:Wd) (a:Int) (s:Str),(∀v∈l,¬v.name=s)->sr W a l s=W s
 |[],_,_,_,_=>rfl
 |v::r,W,a,s,h=>by
  rw [sr,Du r _ _ s (λu hu=>h u (List.mem_cons_of_mem _ hu)),gY,af (λe=>h v (List.mem_cons_self ..) e.symm)]
theorem I5:∀(l:List Vr) (W:Wd) (a b:Int) (_:∀s,0<=W s/\W s<=b) (_:0<=a) (_:a+l.length<=b) (s:Str),0<=sr W a l s/\sr W a l s<=b
 |[],W,_,_,h,_,_,s=>h s
 |v::r,W,a,b,h,h0,h1,s=>by
  rw [sr];simp only [dT]at h1;refine I5 r _ (a+1) b (λt=>?_) ad ad s;unfold gY
  split
  .omega
  .exact h t
theorem xD (p) (b) (part:Nat) (JK:0<=b) (hb:b<=100) (hc:cells p.vars<=100) (hp:p.params.length<=4) (s:Str):0<=ka p b part s/\ka p b part s<=1000:=by
 have h:=Kf p.vars;unfold ka
 split
 .exact I5 _ _ _ 1000 (λt=>by have:=h t;omega) JK ad s
 .split
  .unfold gY
   split
   .omega
   .have:=h s;omega
  .have:=h s;omega
theorem Ae {κ} {l} {s} (h:bu κ l s=0):κ s=0/\∀t∈l,¬t=s:=by
 unfold bu at h
 split at h
 .omega
 .rename_i q
  refine⟨h,λt ht e=>q ?_⟩;rw [List.any_eq_true];exact⟨t,ht,cO e⟩
theorem pY (p) (b) (part) (s:Str) (h:o5 p part s=0):ka p b part s=0:=by
 unfold ka
 split
 .rename_i e
  subst e;obtain⟨h1,h2⟩:=Ae h;rw [Du _ _ _ s (λv hv e=>h2 v.name (List.mem_map.2 ⟨v,hv,rfl⟩) e)];exact uC h1
 .split
  .rename_i e
   subst e;obtain⟨h1,h2⟩:=Ae h;rw [gY,af (λe=>h2 p.silent aC e.symm)];exact uC h1
  .rename_i e1 e2
   have e3:o5 p part=fK p.vars:=by
    unfold o5
    split
    .exact absurd rfl e1
    .exact absurd rfl e2
    .rfl
   rw [e3]at h;exact uC h
theorem Zp (p):NZ (kE p):=by
 unfold kE mT;exact NZ.ak (NZ.ak (NZ.must ae) (NZ.ak (NZ.must ae) (NZ.ak (NZ.must ae) (NZ.must ae)))) (NZ.ak (u_ _ _) (NZ.ak (NZ.must ae) (NZ.ak (NZ.must ae) (NZ.ak (uZ _ _ _) (NZ.ak (NZ.must ae) (NZ.ak (NZ.must ae) (NZ.must ae)))))))
theorem alG (p):NZ (check p):=by
 unfold check;exact NZ.ak (Zp p) (NZ.ak (NZ.must ae) (NZ.ak (i_ _ _ _ _ _) (NZ.ak (i_ _ _ _ _ _) (NZ.ak (i_ _ _ _ _ _) (NZ.ak (i_ _ _ _ _ _) (NZ.ak (i_ _ _ _ _ _) (NZ.ak (NZ.must ae) (NZ.must ae))))))))
structure Bd (p:Pr):Prop where
 aP:2<=p.aP/\p.aP<=8
 vars:eM [] p.vars=none
 cells:cells p.vars<=64
 np:p.params.length<=4
 ahi:dH (fK p.vars) [] p.params=none
 silent:fK p.vars p.silent=0
 size:dE p<=1000
 part:∀i,i<5->cC i (o5 p i) 0 true (partOf p i)=none
 ends:ends p.turn=true
 last:jN p.bP=true
theorem uv (p) (i) (hi:i<5):(partOf p i).size<=dE p:=by
 rcases(by omega:i=0∨i=1∨i=2∨i=3∨i=4)with rfl|rfl|rfl|rfl|rfl<;>simp only [partOf,dE]<;>omega
theorem Bd.of {p} (h:check p=none) (hz:dE p<=1099511627776):Bd p:=by
 obtain⟨h1,h2,h3,h4,h5,h6,h7,h8,h9⟩:=uD.1 h;unfold kE mT at h1;simp only [aD,di,gZ,beq_iff_eq,iX,fz]at h1;obtain⟨⟨_,q1,_,_⟩,q2,q3,q4,q5,_,_,q6⟩:=h1;exact⟨q1,q2,q3,q4,q5,q6,by rw [eF]at h2;omega,Dw h,h8,h9⟩
theorem Bd.okK {p} (h:Bd p) (i:Nat) (hi:i<5):okK (partOf p i):=Dr (h.part i hi)
theorem Bd.psz {p} (h:Bd p) (i:Nat) (hi:i<5):(partOf p i).size<=1000:=ay (uv p i hi) h.size
def Ct (p:Pr) (i:Nat):List Ins:=cB ⟨p.vars,p.aP,cells p.vars⟩ (partOf p i) (ka p (cells p.vars) i) 0 0
def aR (p:Pr) (i:Nat):List Ins:=Ct p i++[⟨0,0,0,0⟩]
theorem F3 {p} {i} (h:(partOf p i).size<=256):(Ct p i).length<=1792:=by
 have:=Ib ⟨p.vars,p.aP,cells p.vars⟩ (partOf p i) (ka p (cells p.vars) i) 0 0;unfold Ct
 omega
def dM:List Vr->List Int
 |[]=>[]
 |v::r=>List.replicate (Sq.fO v).toNat (min (max 0 v.low) v.high)++dM r
theorem qs:∀l:List Vr,((dM l).length:Int)=cells l
 |[]=>rfl
 |v::r=>by
  have:=tJ v;have:=qs r;simp only [dM,cy,List.length_replicate,cells]
  omega
theorem CB:∀a b:List Vr,dM (a++b)=dM a++dM b
 |[],b=>rfl
 |v::r,b=>by rw [List.cons_append,dM,dM,CB r b,fy]
theorem KA {l:List Vr} {j} (hj):dM (l.take (j+1))=dM (l.take j)++List.replicate (Sq.fO l[j]).toNat (min (max 0 l[j].low) l[j].high):=by
 rw [mJ,List.getElem?_eq_getElem hj,CB];simp [dM]
theorem um:∀(l:List Vr) (j:Nat),cells (l.take j)<=cells l
 |[],j=>by simp [cells]
 |v::r,0=>by have:=eS (v::r);simpa [cells]using this
 |v::r,j+1=>by have:=um r j;simp only [List.take_succ_cons,cells];omega
theorem AH {l} (j) (h:cells l<=64):(dM (l.take j)).length<=64:=by
 have:=qs (l.take j);have:=um l j
 omega
theorem ow:∀(l pre:List Vr),eM pre l=none->∀v∈l,0<=v.size/\v.size<=64/\ax v.low/\ax v.high/\v.low<=v.high
 |[],_,_,v,hv=>by simp at hv
 |u::r,pre,h,v,hv=>by
  rw [eM]at h;simp only [aD,di,fz,iX,span,word,gZ]at h;obtain⟨-,-,h3,h4⟩:=h
  rcases List.mem_cons.1 hv with q|q
  .subst q
   unfold ax
   omega
  .exact ow r _ h4 v q
theorem oI {w:World} {v} {n:Nat} {l:List Int} (h:w.ownsRow base 21 1 v n (bJ l)):∃A c,v=.slice A n c:=by
 rcases h.2 with⟨hv,h0⟩|⟨g,c,du,hv,_⟩
 .exact⟨none,0,by rw [hv,h0]⟩
 .exact⟨_,c,hv⟩
theorem Vq {x} (h:ax x):IntKind.i32.wrap x=x:=by
 unfold ax at h;simp [IntKind.wrap_i32]
 try unfold Go.RowKit.wrap32
 omega
def EV (w:World) (N:Nat) (s:iu) (l:List Ins):Prop:=s.n=l.length/\∃b,s.A=some ⟨b,0,none⟩/\b<N/\Row w b 0 (cM l)
def vP (w:World) (N:Nat) (s:iu) (l:List Int):Prop:=s.n=l.length/\(0<s.n->∃b,s.A=some ⟨b,0,none⟩/\b<N/\Row w b 0 (bJ l))
section
variable {S:Nat->Prop} {w w':World} {N:Nat} {s:iu}
include S w w' N s
theorem EV.kept {l} (h:EV w N s l) (hk:Kept S w w') (hS:∀i,i<N->¬S i):EV w' N s l:=by
 obtain⟨h1,b,h2,h3,h4⟩:=h;exact⟨h1,b,h2,h3,h4.kept hk (hS b h3)⟩
theorem vP.kept {l} (h:vP w N s l) (hk:Kept S w w') (hS:∀i,i<N->¬S i):vP w' N s l:=by
 obtain⟨h1,h2⟩:=h;exact⟨h1,λh0=>by obtain⟨b,a1,a2,a3⟩:=h2 h0;exact⟨b,a1,a2,a3.kept hk (hS b a2)⟩⟩
end
section
variable{base:Nat}
variable {w:World}
include w
theorem EV.gF {s} {l} (h:w.ownsRow base 71 4 s.v s.n (cM l)) (hl:0<l.length):EV w w.heap.size s l:=by
 have hn:s.n=l.length:=by
  have:=h.1;rw [jk]at this
  omega
 obtain⟨g,c,e,hr,-,-⟩:=fq h ad ae;obtain⟨A,n,cc⟩:=s;simp only [iu.v,Value.slice.injEq]at e;exact⟨hn,g,e.1,hr.lt,hr⟩
theorem vP.gF {s} {l:List Int} (h:w.ownsRow base 21 1 s.v s.n (bJ l)):vP w w.heap.size s l:=by
 have hn:s.n=l.length:=by
  have:=h.1;rw [fZ]at this
  omega
 refine⟨hn,λh0=>?_⟩;obtain⟨g,c,e,hr,-,-⟩:=fq h h0 ae;obtain⟨A,n,cc⟩:=s;simp only [iu.v,Value.slice.injEq]at e;exact⟨g,e.1,hr.lt,hr⟩
theorem EV.mono {N N'} {s} {l} (h:EV w N s l) (hN:N<=N'):EV w N' s l:=by
 obtain⟨h1,b,h2,h3,h4⟩:=h;exact⟨h1,b,h2,by omega,h4⟩
theorem vP.mono {N N'} {s} {l} (h:vP w N s l) (hN:N<=N'):vP w N' s l:=by
 obtain⟨h1,h2⟩:=h;exact⟨h1,λh0=>by obtain⟨b,a1,a2,a3⟩:=h2 h0;exact⟨b,a1,by omega,a3⟩⟩
theorem rA.up {N N'} {A} {n} {l:List Vr} (h:rA w N A n l) (hN:N<=N'):rA w N' A n l:=by
 obtain⟨h1,h2,h3,b,off,h4,h5⟩:=h;exact⟨h1,h2,h3,b,off,h4,λh0=>⟨by have:=(h5 h0).1;omega,(h5 h0).2⟩⟩
end
structure gj (w:World) (N cb:Nat) (k:Cd) (p:Pr):Prop where
 lt:cb<N
 le:N<=w.heap.size
 box:aj w cb 171 k.c
 kc:k.cells=cells p.vars
 ks:k.aP=p.aP
 first:vP w N k.first (dM p.vars)
 params:rA w N k.params.A k.params.n p.params
 ins:∀i,i<5->EV w N (k.i i) (aR p i)
 most:∀i,i<5->k.m i=br p i
theorem gj.kept {S} {w w'} {N cb:Nat} {k:Cd} {p:Pr} (h:gj w N cb k p) (hk:Kept S w w') (hS:∀i,i<N->¬S i):gj w' N cb k p:=
 ⟨h.lt,ay h.le hk.size,bK h.box hk (hS cb h.lt),h.kc,h.ks,h.first.kept hk hS,h.params.kept hk (λi hi=>Nat.le_of_not_lt (λq=>hS i q hi)),λi hi=>(h.ins i hi).kept hk hS,h.most⟩
theorem gj.ext {w w'} {N cb} {k} {p} (h:gj w N cb k p) (hk:al w w'):gj w' N cb k p:=h.kept hk (λ_ _ f=>f)
theorem gj.up {w} {N N' cb} {k} {p:Pr} (h:gj w N cb k p) (hN:N<=N') (hw:N'<=w.heap.size):gj w N' cb k p:=
 ⟨by have:=h.lt;omega,hw,h.box,h.kc,h.ks,h.first.mono hN,rA.up h.params hN,λi hi=>(h.ins i hi).mono hN,h.most⟩
def nR (p:Pr):Prop:=∃i,i<5/\256<(partOf p i).size
inductive vK (p:Pr) (w':World):Ending->Prop
 |bad (f:oq) (h:check p=some f):vK p w' (.returned (.tuple #[.pointer none,.int .i64 f.e]))
 |long (h:check p=none) (hl:nR p):vK p w' (.returned (.tuple #[.pointer none,.int .i64 5]))
 |steps (h:check p=none) (hl:¬nR p) (hs:∃i,i<5/\65536<br p i):vK p w' (.returned (.tuple #[.pointer none,.int .i64 12]))
 |ok (h:check p=none) (hl:¬nR p) (hs:∀i,i<5->br p i<=65536) (cb:Nat) (k:Cd) (hc:gj w' w'.heap.size cb k p):vK p w' (.returned (.tuple #[.pointer (some ⟨cb,0,none⟩),.int .i64 0]))

