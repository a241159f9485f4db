import Derived.Test.YtnhelcmddjbafaaGreatDoorTaaj
set_option maxHeartbeats 4000000
set_option maxRecDepth 100000
open Go.Proofs.Tryz
namespace Go.Proofs.YtnhelcmddjbafaaGreatDoor
open Go.RowKit Mc Sq
theorem se {c} {A B:Prop} (hc:c=true) (h:A):if c=true then A else B:=by rw [av hc];exact h
section
variable {P:Program} (w:World) {o:Oper} {a:Act} {K:Act->World->Prop} {Q:Exit->Act->World->Prop}
include P w o a K Q
theorem Qs (x y) (T1 T2) (ho:o.op=.call {callee:=.builtin .delete,args:=#[x,y],argTypes:=#[T1,T2]}) {v s v'} {w'} (hx:a.eval x=v) (hy:a.eval y=s) (hr:(Builtin.delete_ #[T1,T2] o.type #[v,s]).run P w=.ok v' w') (h:K (a.put o.dst v') w'):o.wp P a w K Q:=by
 unfold Oper.wp execOp;simp only [ho,resolve,invoke,builtin,Sem.run_bind,Sem.run_pure,Result.andThen_ok,List.map_toArray,nC,List.map_nil,hx,hy,hr];exact h
theorem Ef (T) (m k x) (ho:o.op=.mapUpdate T m k x) (_hd:o.dst=none) {vm vk vx:Value} {w':World} (hm:a.eval m=vm) (hk:a.eval k=vk) (hx:a.eval x=vx) (hr:(Instr.mapUpdate T vm vk vx).run P w=.ok () w') (h:K (a.put o.dst undef) w'):o.wp P a w K Q:=by
 unfold Oper.wp execOp;simp only [ho,Sem.run_bind,Sem.run_pure,Result.andThen_ok,hm,hk,hx,hr,Oper.upon];exact h
end
section
variable {w w1:World} {B N mb wm sm em f:Nat} {p:Pr} {c:Pc} {b:Int} {W:Wd} {L:List Ins}
theorem MS.aU (h:MS w B N mb p c b wm sm em f W L) (f':Nat):MS (w.setCell ⟨mb,14,none⟩ (.int .i64 f')) B N mb p c b wm sm em f' W L/\KT B wm w (w.setCell ⟨mb,14,none⟩ (.int .i64 f')):=by
 obtain⟨A,n,cp,hb,ho⟩:=h.blk;have kS:Kept (·=mb) w (w.setCell ⟨mb,14,none⟩ (.int .i64 f')):=Kept.setCell (kR _ w) _ _ (λ_=>rfl)
 have CU:∀g es clock,w.heap[g]?=some (.map es clock)->¬g=mb:=λg es clock e q=>by
  subst q;rw [show w.heap[g]?=_ from hb]at e
  cases e
 have kk:KT B wm w (w.setCell ⟨mb,14,none⟩ (.int .i64 f')):=KT.aeA hb h.mbB kS;refine⟨⟨⟨A,n,cp,by simpa using aj.fw hb 14 (.int .i64 f'),dy ho kS (λg hg q=>by subst q;exact cY ho (E':=303) ae g hg _ _ hb)⟩,h.prog.kept kk.below (ay h.hN h.hB) (λi q=>ay h.hN q),?_,?_,?_,h.hN,ay h.hB kk.size,h.mbB,h.wmB,h.okL⟩,kk⟩
 .obtain⟨F,h3,h4⟩:=h.words
  obtain⟨es,clock,he,r⟩:=h3;exact⟨F,dt.kept (f:=F) ⟨es,clock,he,r⟩ kS (CU _ _ _ he),h4⟩
 .obtain⟨es,clock,he,r⟩:=h.ue
  exact cu.kept (f:=xC) ⟨es,clock,he,r⟩ kS (CU _ _ _ he)
 .obtain⟨es,clock,he,r⟩:=h.Qa
  exact cu.kept (f:=fV) ⟨es,clock,he,r⟩ kS (CU _ _ _ he)
theorem dt.R_ {g g'} {F} {G} (h:dt w g F) (h':cu w g' G) {v:Value} (hv:G 0=some v):¬g'=g:=λe=>by
 subst e;obtain⟨es,clock,hb,hk,_⟩:=h;obtain⟨es',aoQ,fJ,_,_,hm⟩:=h';rw [hb]at fJ;injection fJ with fJ;injection fJ with e1 e2;subst e1;obtain⟨y,hy,hky,_⟩:=(hm 0 v).1 hv;have:=hk y hy;rw [hky]at this;simp [MapKept.IsKey]at this
theorem dt.yQ {g b'} {F} {t} {cs} (h:dt w g F) (hb:aj w b' t cs):¬b'=g:=λe=>by
 obtain⟨es,clock,hq,_⟩:=h;rw [<-e,show w.heap[b']?=_ from hb]at hq
 cases hq
theorem MS.word (h:MS w B N mb p c b wm sm em f W L) (hk:Kept (·=wm) w w1) {F':ByteArray->Option Value} (hm:dt w1 wm F') {W':Wd} (hF:∀s,(F' s).getD (.int .i64 0)=.int .i64 (W' s)):
 MS w1 B N mb p c b wm sm em f W' L/\KT B wm w w1:=by
 obtain⟨A,n,cp,hb,ho⟩:=h.blk;obtain⟨F,h3,h4⟩:=h.words;have h3':=h3;obtain⟨es,clock,he,r⟩:=h3';have kk:KT B wm w w1:=KT.of_map he h.wmB hk;refine⟨⟨⟨A,n,cp,bK hb hk (λq=>?_),dy ho hk (λg hg q=>?_)⟩,h.prog.kept kk.below (ay h.hN h.hB) (λi q=>ay h.hN q),⟨F',hm,hF⟩,h.ue.kept hk (h3.R_ h.ue (v:=.func (.func 253) #[] #[]) rfl),h.Qa.kept hk (h3.R_ h.Qa (v:=.func (.func 263) #[] #[]) rfl),h.hN,ay h.hB kk.size,h.mbB,h.wmB,h.okL⟩,kk⟩
 .subst q
  rw [show w.heap[mb]?=_ from hb]at he
  cases he
 .subst q
  obtain⟨du,e'⟩:=Dt ho hg;rw [he]at e'
  cases e'
end
variable{κ:Kn}{lA xA:Option Addr}{bY:SF}
theorem Vn (W) (s) (v) (h:W s=0) (F:ByteArray->Option Value) (hF:∀t,(F t).getD (.int .i64 0)=.int .i64 (gY W s v t)):∀t,((λt=>if t=s then none else F t) t).getD (.int .i64 0)=.int .i64 (W t):=by
 intro t
 by_cases e:t=s
 .subst e;simp [h]
 .have:=hF t
  simp only [gY,af e]at this;simp only [af e,this]
theorem BO (W) (s:Str) (v:Int) (F:ByteArray->Option Value) (hF:∀t,(F t).getD (.int .i64 0)=.int .i64 (W t)):∀t,((λt=>if t=s then some (.int .i64 v)else F t) t).getD (.int .i64 0)=.int .i64 (gY W s v t):=by
 intro t
 by_cases e:t=s
 .subst e;simp [gY]
 .have:=hF t
  simp only [gY,af e,this]
theorem Ql (x:lj) (f:Nat) (W:Wd) (hf:f<=8) (low high:Int) (s:Str) (h0:W s=0) (v:Int) (ec lc xc:Nat) (A lA xA:Option Addr) (n ln xn:Nat) (mp sp:Nat) (_aqS:¬mp=sp) (L:List Ins) (u:FrameMode) (w:World) (h:x.at w (f+1) (gY W s v) L)
 (hm:aj w mp 296 #[.pointer (some ⟨x.mb,0,none⟩)]) (hs:aj w sp 288 (au 3 s A n ec low high lA ln lc xA xn xc)):
 CallsD prog 302 #[.pointer (some ⟨mp,0,none⟩),.pointer (some ⟨sp,0,none⟩)] u w λe u' w'=>u'=u/\(e=.returned (.tuple #[])/\x.at w' f W L/\KT x.B x.wm w w'):=by
 obtain⟨A1,n1,cp1,hb,-⟩:=h.blk;obtain⟨eT,V0⟩:=h.aU f;obtain⟨w1,mO⟩:=nm' (w.setCell ⟨x.mb,14,none⟩ (.int .i64 f));have HW1:=J mO;have m1:=bC hb;have m2:=hb.lt;have m3:=aj.frozen hb;have i1:=bC hm;have i2:=hm.lt;have⟨Hm,Hs,fj,FJ⟩:=J4' hm hs eT V0
 have hfw:IntKind.i64.wrap (((f+1:Nat):Int) - 1)=f:=by
  rw [show((f+1:Nat):Int) - 1=f by omega];exact wrap_i64 mu
 clear h hb eT V0 mO hm hs
 go_enter_d func302,ntmps302
 go_upto_region 1 with(fail);rw [<-HW1.o]at fj FJ⊢;have km:aj w1 mp 296 #[.pointer (some ⟨x.mb,0,none⟩)]:=FJ.o.block Hm.o ae ae;have ks:aj w1 sp 288 (au 3 s A n ec low high lA ln lc xA xn xc):=FJ.o.block Hs.o ae ae;obtain⟨A2,n2,cp2,jF,-⟩:=fj.o.blk;obtain⟨F,hF,hFW⟩:=fj.o.words;obtain⟨w2,dr,hF2,eC⟩:=dt.del (P:=prog) (hF.ext (kR (λ_=>False) w1).drew) underlying297 underlying9 0 s;obtain⟨eE,hK2⟩:=(fj.o.ext (kR (λ_=>False) w1).drew).word eC hF2 (Vn W s v h0 F hFW);have⟨jT,Bf,H2⟩:=J3' eE ((KT.ext (B:=x.B) (wm:=x.wm) (kR (λ_=>False) w1).drew).trans hK2) eC;clear m1 m2 m3 i1 i2 eE hK2 hF2 eC;have⟨Km,Ks,B2,e1,e2,e3⟩:=J6' km ks jF (hF.yQ km) (hF.yQ ks) (hF.yQ jF);clear km ks jF hF hFW;refine eW (λwz=>Kept (·=x.wm) w1 wz) [(0,1),(1,2),(2,2),(3,1),(4,2),(5,1),(6,0)] ?_;refine eX ?_
 repeat first|refine bV ?_|refine cF dQ (by intro w1 hS;have d1:=bC (bK Km.o hS e1.o);have d2:=(bK Km.o hS e1.o).lt;have d3:=bC (bK Ks.o hS e2.o);have d4:=(bK Ks.o hS e2.o).lt;have d5:=bC (bK B2.o hS e3.o);have d6:=(bK B2.o hS e3.o).lt;exact fE) ?_|refine cD dQ ?_
 refine ap (λK hK=>?_);refine se rfl ?_;refine Qs _ _ _ _ _ rfl rfl rfl dr ?_;refine hK.out _ _ (λ_=>dQ.trans H2.o) ?_;clear hK K dr;refine fc ?_;go_wp21;go_end0;exact⟨rfl,jT.o,FJ.o.trans Bf.o⟩
theorem Up (x:lj) (part f:Nat) (W:Wd) (hM:tS x W) (κ:Kn) (Na:∀s,κ s=0->W s=0) (f8:f<8) (low high) (s) (A) (n ec) (lA) (lc) (l) (xA:Option Addr) (xn xc:Nat) (L:List Ins) (w:World) (h:x.at w f W L)
 (hk:κ s=0) (hlo:-2147483648<=low/\low<=2147483647) (hhi:-2147483648<=high/\high<=2147483647) (hl:jc w x.N lA l.len l) (il:BkM x part l) (hc:cC part (oK κ s 3) (f+1) false l=none) (zl:l.size<=1099511627776) (e:EF) (bY:SF) (hL:L.length+(cS x.k W f L.length 3 s e low high l bY).length<=4000):
 Calls prog 256 #[.pointer (some ⟨x.mb,0,none⟩),.agg (au 3 s A n ec low high lA l.len lc xA xn xc)] w λz w'=>z=.returned (.tuple #[])/\x.at w' f W (L++cS x.k W f L.length 3 s e low high l bY)/\KT x.B x.wm w w':=by
 have JI:=Na s hk;obtain⟨up,K8⟩:=nm' (Qm x.k f);obtain⟨Bc,hBc⟩:=nm' (cB x.k l (gY W s up) (f+1) ((L.length:Int)+3));have akT:up=x.b+17+2*f:=by rw [K8];rfl
 have rW:cS x.k W f L.length 3 s e low high l bY=if high<low then []else Fa x.k f L.length low high Bc:=by rw [hBc,K8];rfl
 rw [rW]at hL⊢;obtain⟨CD,hCD⟩:=nm' (if high<low then []else Fa x.k f L.length low high Bc);have⟨SD,HBc,HUP⟩:=J3' hCD hBc K8;obtain⟨h0,h1,h2,h3⟩:=hM;have hMW:tS x (gY W s up):=⟨h0,h1,λt=>by unfold gY;split;omega;exact h2 t,λt=>by unfold gY;split;omega;exact h3 t⟩
 have hWW:∀t,oK κ s 3 t=0->gY W s up t=0:=λt ht=>by
  unfold oK at ht;unfold gY
  split at ht
  .exact absurd ht ae
  .rename_i gM
   rw [af gM];exact Na t ht
 have⟨HMW,HWW,HC,HZ,HIl,HSl,eJ⟩:=J7' hMW hWW hc zl il hl (df h.hN h.hB);refine ahQ ?_;intro qe;have ars:=wrap_i64 (n:=x.b+16) mu;have aru:=wrap_i64 (n:=x.b+17) mu;have rB:=wrap_i64 (n:=2*(f:Int)) mu;have hwu:IntKind.i64.wrap (x.b+17+2*(f:Int))=up:=by rw [akT];exact wrap_i64 mu
 have YV:=wrap_i64 (n:=up+1) mu;have hwf:=wrap_i64 (n:=(f:Int)+1) mu;have hwd:=wrap_i64 (n:=high - low) mu;have hwe:=wrap_i64 (n:=high - low+1) mu;have iup:aI up:=by unfold aI;omega
 have ace:aI (up+1):=by unfold aI;omega
 have ion:aI (x.b+16):=by unfold aI;omega
 have ilo:aI low:=by unfold aI;omega
 have ird:aI (high - low+1):=by unfold aI;omega
 have hl6:high<low∨L.length+6+Bc.length<=4000:=by
  by_cases q:high<low
  .exact .inl q
  .rw [af q]at hL
   simp only [Fa,cy,dT,fB]at hL;exact .inr ad
 rw [<-hCD];clear K8 akT hBc rW hMW hWW hc zl il hl Na hL hCD
 go_enter_defers func256,ntmps256
 go_upto_region 1 with(fail);obtain⟨p4,zQ⟩:=nm' w.heap.size;obtain⟨W1,ku⟩:=nm' ((w.alloc (.cells #[.pointer (some ⟨x.mb,0,none⟩)] 296)).alloc (.cells (au 3 s A n ec low high lA l.len lc xA xn xc) 288));have y1:al w W1:=by rw [ku];exact(dS w _).alloc _
 have h4:aj W1 p4 296 #[.pointer (some ⟨x.mb,0,none⟩)]:=by rw [ku,zQ];exact(bN w _ _).alloc _
 have h7:aj W1 (p4+1) 288 (au 3 s A n ec low high lA l.len lc xA xn xc):=by
  rw [ku,zQ];exact aj.d_ _ _ _ _ aC
 rw [<-ku,<-zQ];have hp7:(w.alloc (.cells #[.pointer (some ⟨x.mb,0,none⟩)] 296)).heap.size=p4+1:=by rw [zQ];simp
 clear ku zQ
 try rw [hp7]
 clear hp7;have⟨H4,H7,kz,Y0⟩:=J4' h4 h7 (h.ext y1) (KT.refl x.B x.wm W1);have i1:=bC h4;have i2:=h4.lt;have j1:=bC h7;have j2:=h7.lt;clear h h4 h7
 by_cases aX:high<low
 .have hg:decide (high<low)=true:=cO aX
  go_wp21;refine⟨_,results_none rfl _ _ _,rfl,?_,KT.ext y1⟩;rw [SD.o,av aX,List.append_nil];exact kz.o
 have hg:decide (high<low)=false:=cU aX;have pr:=J (show CD=Fa x.k f L.length low high Bc from by rw [SD.o,af aX]);have M4:=J (hl6.resolve_left aX);clear hl6 aX;obtain⟨_,_,_,m0,_⟩:=(kz.o).blk;have m1:=m0.lt;have m2:=aj.frozen m0;have vt:=J m0;have m0:=bC m0;go_upto_region 3 with(fail);clear i1 i2 j1 j2 m0 m1 m2;refine eW (λwz=>Kept (λ_=>False) W1 wz) [(0,1),(1,2),(2,2),(3,1),(4,2),(5,1),(6,2),(7,2),(8,1),(9,2),(10,2),(11,2)] ?_;refine eX ?_
 repeat first|refine bV ?_|refine cF dQ (by intro w1 hS;have d1:=bC (bX H4.o hS);have d2:=(bX H4.o hS).lt;have d5:=bC (bX vt.o hS);have d6:=(bX vt.o hS).lt;exact fE) ?_|refine cD dQ ?_
 refine fc ?_;have yd:=(kR (λ_=>False) W1).drew;have fj:=J (kz.o.ext yd);have Y1:=J (KT.ext (B:=x.B) (wm:=x.wm) yd);clear yd vt;have q4:=KT.block Y1.o H4.o ae ae;have i1:=bC q4;have i2:=q4.lt;have q7:=KT.block Y1.o H7.o ae ae;have j1:=bC q7;have j2:=q7.lt;obtain⟨aq,nq,cq,m0,mo⟩:=(fj.o).blk;have K4:=(fj.o).len mo;have m1:=m0.lt;have m2:=aj.frozen m0;have m0:=bC m0;clear q4 q7 mo K4;obtain⟨w2,rB⟩:=nm' ((W1.setCell ⟨x.mb,14,none⟩ (.int .i64 ((f:Int)+1))).drew);obtain⟨eE,hK2⟩:MS w2 x.B x.N x.mb x.p x.c x.b x.wm x.sm x.em (f+1) W L/\KT x.B x.wm W1.drew w2:=by rw [rB];exact fj.o.aU (f+1)
 have⟨jT,Y2,HW2⟩:=J3' eE (Y1.o.trans hK2) rB;clear eE hK2 rB;go_upto_region 6 with(fail);rw [<-HW2.o];clear i1 i2 j1 j2 m0 m1 m2;obtain⟨F,hF,hFW⟩:=jT.o.words;obtain⟨w3,dr,hF3,iz⟩:=dt.put (P:=prog) (hF.ext (kR (λ_=>False) w2).drew) underlying297 underlying9 s (.int .i64 up);obtain⟨vE,hK3⟩:=(jT.o.ext (kR (λ_=>False) w2).drew).word iz hF3 (BO W s up F hFW);have⟨xP,Y3,K3,B4,B7⟩:=J5' vE (Y2.o.trans ((KT.ext (B:=x.B) (wm:=x.wm) (kR (λ_=>False) w2).drew).trans hK3)) iz (KT.block Y2.o H4.o ae ae) (KT.block Y2.o H7.o ae ae);obtain⟨_,_,_,m0,_⟩:=(jT.o).blk;have⟨B2,e1,e2,e3⟩:=J4' m0 (hF.yQ B4.o) (hF.yQ B7.o) (hF.yQ m0);clear vE hK3 iz hF3 hFW hF m0;refine eW (λwz=>Kept (·=x.wm) w2 wz) [(0,1),(1,2),(2,2),(3,1),(4,2),(5,1),(6,2),(7,0)] ?_;refine eX ?_
 repeat first|refine bV ?_|refine cF dQ (by intro w1 hS;have d1:=bC (bK B4.o hS e1.o);have d2:=(bK B4.o hS e1.o).lt;have d3:=bC (bK B7.o hS e2.o);have d4:=(bK B7.o hS e2.o).lt;have d5:=bC (bK B2.o hS e3.o);have d6:=(bK B2.o hS e3.o).lt;exact fE) ?_|refine cD dQ ?_
 refine ap (λK hK=>?_);refine se rfl ?_;refine Ef _ _ _ _ _ rfl rfl rfl rfl rfl dr ?_;refine hK.out _ _ (λ_=>dQ.trans K3.o) ?_;clear hK K dr;refine fc ?_;clear B4 B7 B2 e1 e2 e3 K3;have q4:=KT.block Y3.o H4.o ae ae;have i1:=bC q4;have i2:=q4.lt;have q7:=KT.block Y3.o H7.o ae ae;have j1:=bC q7;have j2:=q7.lt;obtain⟨aq,nq,cq,m0,mo⟩:=(xP.o).blk;have K4:=(xP.o).len mo;have m1:=m0.lt;have m2:=aj.frozen m0;have m0:=bC m0;clear q4 q7 mo K4;go_wp21;refine(cj x.B x.N x.mb x.wm x.sm x.em (f+1) x.p x.c x.b (gY W s up) (L) ⟨1,x.b+16,1,0⟩ ⟨(aw (n:=1) ae),ion,(aw (n:=1) ae),(aw (n:=0) ae)⟩ Vw _ (xP.o)).mono ?_;rintro e w11 ⟨rfl,akt,akf⟩;have afu:=J akt;have Y11:=J (Y3.o.trans akf);clear akt akf i1 i2 j1 j2 m0 m1 m2;have q4:=KT.block Y11.o H4.o ae ae;have i1:=bC q4;have i2:=q4.lt;have q7:=KT.block Y11.o H7.o ae ae;have j1:=bC q7;have j2:=q7.lt;obtain⟨aq,nq,cq,m0,mo⟩:=(afu.o).blk;have K4:=(afu.o).len mo;have m1:=m0.lt;have m2:=aj.frozen m0;have m0:=bC m0;clear q4 q7 mo K4;go_wp21;refine(cj x.B x.N x.mb x.wm x.sm x.em (f+1) x.p x.c x.b (gY W s up) (L++[⟨1,x.b+16,1,0⟩]) ⟨1,up,low,0⟩ ⟨(aw (n:=1) ae),iup,ilo,(aw (n:=0) ae)⟩ Vw _ (afu.o)).mono ?_;rintro e w12 ⟨rfl,Yz,Yw⟩;have SJ:=J Yz;have Y12:=J (Y11.o.trans Yw);clear Yz Yw i1 i2 j1 j2 m0 m1 m2;have q4:=KT.block Y12.o H4.o ae ae;have i1:=bC q4;have i2:=q4.lt;have q7:=KT.block Y12.o H7.o ae ae;have j1:=bC q7;have j2:=q7.lt;obtain⟨aq,nq,cq,m0,mo⟩:=(SJ.o).blk;have K4:=(SJ.o).len mo;have m1:=m0.lt;have m2:=aj.frozen m0;have m0:=bC m0;clear q4 q7 mo K4;go_wp21;refine(cj x.B x.N x.mb x.wm x.sm x.em (f+1) x.p x.c x.b (gY W s up) (L++[⟨1,x.b+16,1,0⟩]++[⟨1,up,low,0⟩]) ⟨1,up+1,high - low+1,0⟩ ⟨(aw (n:=1) ae),ace,ird,(aw (n:=0) ae)⟩ Vw _ (SJ.o)).mono ?_;rintro e w13 ⟨rfl,aku,agz⟩;have afv:=J aku;have Y13:=J (Y12.o.trans agz);clear aku agz i1 i2 j1 j2 m0 m1 m2;have q4:=KT.block Y13.o H4.o ae ae;have i1:=bC q4;have i2:=q4.lt;have q7:=KT.block Y13.o H7.o ae ae;have j1:=bC q7;have j2:=q7.lt;obtain⟨aq,nq,cq,m0,mo⟩:=(afv.o).blk;have K4:=(afv.o).len mo;have m1:=m0.lt;have m2:=aj.frozen m0;have m0:=bC m0;clear q4 q7 mo;obtain⟨bg,Nb⟩:=nm' ((L++[⟨1,x.b+16,1,0⟩]++[⟨1,up,low,0⟩]++[⟨1,up+1,high - low+1,0⟩]:List Ins).length);rw [<-Nb]at K4;have apD:=K4.symm;clear K4;subst apD;have mv:=J Nb;clear Nb
 -- S1
 go_wp21
 -- S2
 have kL:(((L++[⟨1,x.b+16,1,0⟩]++[⟨1,up,low,0⟩]++[⟨1,up+1,high - low+1,0⟩]:List Ins).length:Nat):Int)=(L.length:Int)+3:=by simp only [cy,dT,fB];omega
 refine(HIl.o (f+1) (gY W s up) (oK κ s 3) false lA lc (L++[⟨1,x.b+16,1,0⟩]++[⟨1,up,low,0⟩]++[⟨1,up+1,high - low+1,0⟩]) _ HMW.o HWW.o ad (afv.o) (HSl.o.kt ((KT.ext y1).trans Y13.o) eJ.o.1 eJ.o.2) HC.o HZ.o (by rw [kL,<-HBc.o];have:=M4.o;simp only [cy,dT,fB];omega)).mono ?_;rintro e w20 ⟨rfl,abT,akh⟩;rw [kL,<-HBc.o]at abT;have afw:=J abT;have Y20:=J (Y13.o.trans akh);clear abT akh kL i1 i2 j1 j2 m0 m1 m2;have q4:=KT.block Y20.o H4.o ae ae;have i1:=bC q4;have i2:=q4.lt;have q7:=KT.block Y20.o H7.o ae ae;have j1:=bC q7;have j2:=q7.lt;obtain⟨aq,nq,cq,m0,mo⟩:=(afw.o).blk;have K4:=(afw.o).len mo;have m1:=m0.lt;have m2:=aj.frozen m0;have m0:=bC m0;clear q4 q7 mo K4;go_wp21;refine(cj x.B x.N x.mb x.wm x.sm x.em (f+1) x.p x.c x.b (gY W s up) (L++[⟨1,x.b+16,1,0⟩]++[⟨1,up,low,0⟩]++[⟨1,up+1,high - low+1,0⟩]++Bc) ⟨3,up,up,x.b+16⟩ ⟨(aw (n:=3) ae),iup,iup,ion⟩ Vw _ (afw.o)).mono ?_;rintro e w21 ⟨rfl,akw,aki⟩;have afx:=J akw;have Y21:=J (Y20.o.trans aki);clear akw aki i1 i2 j1 j2 m0 m1 m2;have q4:=KT.block Y21.o H4.o ae ae;have i1:=bC q4;have i2:=q4.lt;have q7:=KT.block Y21.o H7.o ae ae;have j1:=bC q7;have j2:=q7.lt;obtain⟨aq,nq,cq,m0,mo⟩:=(afx.o).blk;have K4:=(afx.o).len mo;have m1:=m0.lt;have m2:=aj.frozen m0;have m0:=bC m0;clear q4 q7 mo K4;go_wp21;refine(cj x.B x.N x.mb x.wm x.sm x.em (f+1) x.p x.c x.b (gY W s up) (L++[⟨1,x.b+16,1,0⟩]++[⟨1,up,low,0⟩]++[⟨1,up+1,high - low+1,0⟩]++Bc++[⟨3,up,up,x.b+16⟩]) ⟨4,up+1,up+1,x.b+16⟩ ⟨(aw (n:=4) ae),ace,ace,ion⟩ Vw _ (afx.o)).mono ?_;rintro e w22 ⟨rfl,akx,akj⟩;have afy:=J akx;have Y22:=J (Y21.o.trans akj);clear akx akj i1 i2 j1 j2 m0 m1 m2;have q4:=KT.block Y22.o H4.o ae ae;have i1:=bC q4;have i2:=q4.lt;have q7:=KT.block Y22.o H7.o ae ae;have j1:=bC q7;have j2:=q7.lt;obtain⟨aq,nq,cq,m0,mo⟩:=(afy.o).blk;have K4:=(afy.o).len mo;have m1:=m0.lt;have m2:=aj.frozen m0;have m0:=bC m0;clear q4 q7 mo K4;go_wp21;refine(cj x.B x.N x.mb x.wm x.sm x.em (f+1) x.p x.c x.b (gY W s up) (L++[⟨1,x.b+16,1,0⟩]++[⟨1,up,low,0⟩]++[⟨1,up+1,high - low+1,0⟩]++Bc++[⟨3,up,up,x.b+16⟩]++[⟨4,up+1,up+1,x.b+16⟩]) ⟨21,bg,up+1,0⟩ ⟨(aw (n:=21) ae),(by have:=M4.o;have e:=mv.o;simp only [cy,dT,fB]at e;show aI (bg:Int);unfold aI;omega),ace,(aw (n:=0) ae)⟩ Vw _ (afy.o)).mono ?_;rintro e w23 ⟨rfl,aky,akk⟩;have aom:=J aky;have Y23:=J (Y22.o.trans akk);clear aky akk i1 i2 j1 j2 m0 m1 m2;have q4:=KT.block Y23.o H4.o ae ae;have q7:=KT.block Y23.o H7.o ae ae;have Q4:=J q4;have Q7:=J q7;clear q4 q7
 -- S3
 go_wp21
 -- S4
 refine leaves_cons (f:=302) (args:=#[.pointer (some ⟨p4,0,none⟩),.pointer (some ⟨p4+1,0,none⟩)]) aC (by simp [go_sem]) ?_;refine(Ql x f W ad low high s JI up ec lc xc A lA xA n l.len xn p4 (p4+1) ad (L++[⟨1,x.b+16,1,0⟩]++[⟨1,up,low,0⟩]++[⟨1,up+1,high - low+1,0⟩]++Bc++[⟨3,up,up,x.b+16⟩]++[⟨4,up+1,up+1,x.b+16⟩]++[⟨21,bg,up+1,0⟩]) .returning _ (aom.o) Q4.o Q7.o).mono ?_
 -- S5
 rintro e u' w30 ⟨rfl,rfl,qe,hkf⟩;refine⟨_,results_none rfl _ _ _,rfl,?_,(KT.ext y1).trans (Y23.o.trans hkf)⟩
 have Nb:(bg:Int)=(L.length:Int)+3:=by
  have e:=mv.o;simp only [cy,dT,fB]at e
  omega
 rw [Nb]at qe;rw [HUP.o]at qe;rw [pr.o];unfold Fa;simp only [fy,List.cons_append,nB]at qe⊢;exact qe
structure QY (x:lj) (w:World) (part f:Nat) (κ:Kn) (kind low high:Int) (s:Str) (A:Option Addr) (F:EF) (lA:Option Addr) (l:SF) (xA:Option Addr) (bY:SF):Prop where
 sx:Sx w x.N κ kind s A F low high
 hl:jc w x.N lA l.len l
 hx:jc w x.N xA bY.len bY
 il:BkM x part l
 ix:BkM x part bY
 c2:kind=2->cC part κ f false l=none/\cC part κ f false bY=none
 c3:kind=3->κ s=0/\(-2147483648<=low/\low<=2147483647)/\(-2147483648<=high/\high<=2147483647)/\f<8/\cC part (oK κ s 3) (f+1) false l=none
 zl:l.size<=1099511627776
 zx:bY.size<=1099511627776
theorem QY.kt {x} {w w'} {part f} {kind low high} {s} {A} {F} {l} {B wm} (h:QY x w part f κ kind low high s A F lA l xA bY) (hk:KT B wm w w') (hN:x.N<=B) (hB:B<=w.heap.size):QY x w' part f κ kind low high s A F lA l xA bY:=
 ⟨h.sx.kt hk hN hB,h.hl.kt hk hN hB,h.hx.kt hk hN hB,h.il,h.ix,h.c2,h.c3,h.zl,h.zx⟩
theorem ahs {x} {w} {part f} {last} {kind low high} {s} {F:EF} {l:SF} {A:Option Addr} {be oe bl ol bx ox:Nat} (hc:oS part κ f last kind s F low high l bY=none) (hz:1+F.size+l.size+bY.size<=1099511627776)
 (i2:aI low) (i3:aI high) (i4:s.size<=maxLen) (n1:Fits F.len 56) (n2:Fits l.len 112) (n3:Fits bY.len 112) (a1:0<F.len->A=some ⟨be,oe,none⟩) (a2:0<l.len->lA=some ⟨bl,ol,none⟩) (a3:0<bY.len->xA=some ⟨bx,ox,none⟩) (he:lU w x.N F be oe) (hl:mS w x.N l bl ol) (hx:mS w x.N bY bx ox)
 (il:BkM x part l) (ix:BkM x part bY):(0<=kind/\kind<=9)/\QY x w part f κ kind low high s A F lA l xA bY:=by
 unfold oS at hc;rw [aD,aD,aD,aD,di,fz]at hc;obtain⟨⟨q1,q2⟩,-,q3,q4,q5⟩:=hc;have e:=NW q4 ad;refine⟨by simpa [iX]using q1,⟨⟨i2,i3,i4,⟨rfl,n1,be,oe,a1,he⟩,by simpa using q2,e.1,e.2⟩,⟨rfl,n2,bl,ol,a2,hl⟩,⟨rfl,n3,bx,ox,a3,hx⟩,il,ix,λh=>?_,λh=>?_,by omega,by omega⟩⟩
 .rw [av h,aD]at q5
  exact q5
 .subst h
  rw [af ae,av rfl]at q5;unfold named at q3;rw [af ae,av rfl]at q3;unfold loop at q3;rw [aD,aD,aD,di,di,di,di]at q3;obtain⟨-,r1,r2,r3⟩:=q3;simp only [word,fz,gZ]at r2 r3;exact⟨by simpa using r1,r2.1.1,r2.1.2,r3,q5⟩
theorem iQ {w} {g:Nat} (h:cu w g xC) (op:Int) {fv:Value} (hf:(xC op).getD .nilFunc=fv):(Instr.lookup 298 (.map (some g)) (.int .i64 op) false).run prog w=.ok fv w:=by
 have ur:=cu.look (P:=prog) h underlying298 underlying3 (z:=.nilFunc) (λw=>by kernel_rfl) op;rw [ur,hf]
section
variable (x:lj)
include x
theorem afQ (part f:Nat) (W:Wd) (hM:tS x W) (κ:Kn) (_NF:∀s,κ s=0->W s=0) (_f8:f<=8) (low high:Int) (s:Str) (A:Option Addr) (ec:Nat) (F:EF) (lA:Option Addr) (lc:Nat) (l:SF) (xA:Option Addr) (xc:Nat) (bY:SF) (L:List Ins) (w:World) (h:x.at w f W L) (hX:QY x w part f κ 0 low high s A F lA l xA bY) (hL:L.length+(cS x.k W f L.length 0 s F low high l bY).length<=4000):
 Calls prog 253 #[.pointer (some ⟨x.mb,0,none⟩),.agg (au 0 s A F.len ec low high lA l.len lc xA bY.len xc)] w λe w'=>e=.returned (.tuple #[])/\x.at w' f W (L++cS x.k W f L.length 0 s F low high l bY)/\KT x.B x.wm w w':=by
 have e:cS x.k W f L.length 0 s F low high l bY=qX x.k W L.length 0 s F low:=by unfold cS;rw [af ae,af ae]
 rw [e]at hL⊢;exact NQ x f W hM κ low high s A ec F lA l.len lc xA bY.len xc L w h hX.sx hL
theorem afR (part f:Nat) (W:Wd) (hM:tS x W) (κ:Kn) (_NF:∀s,κ s=0->W s=0) (_f8:f<=8) (low high:Int) (s:Str) (A:Option Addr) (ec:Nat) (F:EF) (lA:Option Addr) (lc:Nat) (l:SF) (xA:Option Addr) (xc:Nat) (bY:SF) (L:List Ins) (w:World) (h:x.at w f W L) (hX:QY x w part f κ 1 low high s A F lA l xA bY) (hL:L.length+(cS x.k W f L.length 1 s F low high l bY).length<=4000):
 Calls prog 254 #[.pointer (some ⟨x.mb,0,none⟩),.agg (au 1 s A F.len ec low high lA l.len lc xA bY.len xc)] w λe w'=>e=.returned (.tuple #[])/\x.at w' f W (L++cS x.k W f L.length 1 s F low high l bY)/\KT x.B x.wm w w':=by
 have e:cS x.k W f L.length 1 s F low high l bY=qX x.k W L.length 1 s F low:=by unfold cS;rw [af ae,af ae]
 rw [e]at hL⊢;exact Vb x f W hM κ low high s A ec F lA l.len lc xA bY.len xc L w h hX.sx hL
theorem afS (part f:Nat) (W:Wd) (hM:tS x W) (κ:Kn) (Na:∀s,κ s=0->W s=0) (f8:f<=8) (low high:Int) (s:Str) (A:Option Addr) (ec:Nat) (F:EF) (lA:Option Addr) (lc:Nat) (l:SF) (xA:Option Addr) (xc:Nat) (bY:SF) (L:List Ins) (w:World) (h:x.at w f W L) (hX:QY x w part f κ 2 low high s A F lA l xA bY) (hL:L.length+(cS x.k W f L.length 2 s F low high l bY).length<=4000):
 Calls prog 255 #[.pointer (some ⟨x.mb,0,none⟩),.agg (au 2 s A F.len ec low high lA l.len lc xA bY.len xc)] w λe w'=>e=.returned (.tuple #[])/\x.at w' f W (L++cS x.k W f L.length 2 s F low high l bY)/\KT x.B x.wm w w':=by
 exact uG x part f W hM κ Na f8 low high s A ec F lA lc l xA xc bY L w h hX.sx hX.hl hX.hx hX.il hX.ix (hX.c2 rfl).1 (hX.c2 rfl).2 hX.zl hX.zx hL
theorem afT (part f:Nat) (W:Wd) (hM:tS x W) (κ:Kn) (Na:∀s,κ s=0->W s=0) (_f8:f<=8) (low high:Int) (s:Str) (A:Option Addr) (ec:Nat) (F:EF) (lA:Option Addr) (lc:Nat) (l:SF) (xA:Option Addr) (xc:Nat) (bY:SF) (L:List Ins) (w:World) (h:x.at w f W L) (hX:QY x w part f κ 3 low high s A F lA l xA bY) (hL:L.length+(cS x.k W f L.length 3 s F low high l bY).length<=4000):
 Calls prog 256 #[.pointer (some ⟨x.mb,0,none⟩),.agg (au 3 s A F.len ec low high lA l.len lc xA bY.len xc)] w λe w'=>e=.returned (.tuple #[])/\x.at w' f W (L++cS x.k W f L.length 3 s F low high l bY)/\KT x.B x.wm w w':=by
 obtain⟨q1,q2,q3,q4,q5⟩:=hX.c3 rfl;exact Up x part f W hM κ Na q4 low high s A F.len ec lA lc l xA bY.len xc L w h q1 q2 q3 hX.hl hX.il q5 hX.zl F bY hL
theorem afU (part f:Nat) (W:Wd) (hM:tS x W) (κ:Kn) (_NF:∀s,κ s=0->W s=0) (_f8:f<=8) (low high:Int) (s:Str) (A:Option Addr) (ec:Nat) (F:EF) (lA:Option Addr) (lc:Nat) (l:SF) (xA:Option Addr) (xc:Nat) (bY:SF) (L:List Ins) (w:World) (h:x.at w f W L) (hX:QY x w part f κ 4 low high s A F lA l xA bY) (hL:L.length+(cS x.k W f L.length 4 s F low high l bY).length<=4000):
 Calls prog 257 #[.pointer (some ⟨x.mb,0,none⟩),.agg (au 4 s A F.len ec low high lA l.len lc xA bY.len xc)] w λe w'=>e=.returned (.tuple #[])/\x.at w' f W (L++cS x.k W f L.length 4 s F low high l bY)/\KT x.B x.wm w w':=by
 have e:cS x.k W f L.length 4 s F low high l bY=qX x.k W L.length 4 s F low:=by unfold cS;rw [af ae,af ae]
 rw [e]at hL⊢;exact PO x f W hM κ low high s A ec F lA l.len lc xA bY.len xc L w h hX.sx hL
theorem afV (part f:Nat) (W:Wd) (hM:tS x W) (κ:Kn) (_NF:∀s,κ s=0->W s=0) (_f8:f<=8) (low high:Int) (s:Str) (A:Option Addr) (ec:Nat) (F:EF) (lA:Option Addr) (lc:Nat) (l:SF) (xA:Option Addr) (xc:Nat) (bY:SF) (L:List Ins) (w:World) (h:x.at w f W L) (hX:QY x w part f κ 5 low high s A F lA l xA bY) (hL:L.length+(cS x.k W f L.length 5 s F low high l bY).length<=4000):
 Calls prog 258 #[.pointer (some ⟨x.mb,0,none⟩),.agg (au 5 s A F.len ec low high lA l.len lc xA bY.len xc)] w λe w'=>e=.returned (.tuple #[])/\x.at w' f W (L++cS x.k W f L.length 5 s F low high l bY)/\KT x.B x.wm w w':=by
 have e:cS x.k W f L.length 5 s F low high l bY=qX x.k W L.length 5 s F low:=by unfold cS;rw [af ae,af ae]
 rw [e]at hL⊢;exact ZC x f W hM κ low high s A ec F lA l.len lc xA bY.len xc L w h hX.sx hL
theorem afW (part f:Nat) (W:Wd) (hM:tS x W) (κ:Kn) (_NF:∀s,κ s=0->W s=0) (_f8:f<=8) (low high:Int) (s:Str) (A:Option Addr) (ec:Nat) (F:EF) (lA:Option Addr) (lc:Nat) (l:SF) (xA:Option Addr) (xc:Nat) (bY:SF) (L:List Ins) (w:World) (h:x.at w f W L) (hX:QY x w part f κ 6 low high s A F lA l xA bY) (hL:L.length+(cS x.k W f L.length 6 s F low high l bY).length<=4000):
 Calls prog 259 #[.pointer (some ⟨x.mb,0,none⟩),.agg (au 6 s A F.len ec low high lA l.len lc xA bY.len xc)] w λe w'=>e=.returned (.tuple #[])/\x.at w' f W (L++cS x.k W f L.length 6 s F low high l bY)/\KT x.B x.wm w w':=by
 have e:cS x.k W f L.length 6 s F low high l bY=qX x.k W L.length 6 s F low:=by unfold cS;rw [af ae,af ae]
 rw [e]at hL⊢;exact ZI x f W hM κ low high s A ec F lA l.len lc xA bY.len xc L w h hX.sx hL
theorem afX (part f:Nat) (W:Wd) (hM:tS x W) (κ:Kn) (_NF:∀s,κ s=0->W s=0) (_f8:f<=8) (low high:Int) (s:Str) (A:Option Addr) (ec:Nat) (F:EF) (lA:Option Addr) (lc:Nat) (l:SF) (xA:Option Addr) (xc:Nat) (bY:SF) (L:List Ins) (w:World) (h:x.at w f W L) (hX:QY x w part f κ 7 low high s A F lA l xA bY) (hL:L.length+(cS x.k W f L.length 7 s F low high l bY).length<=4000):
 Calls prog 260 #[.pointer (some ⟨x.mb,0,none⟩),.agg (au 7 s A F.len ec low high lA l.len lc xA bY.len xc)] w λe w'=>e=.returned (.tuple #[])/\x.at w' f W (L++cS x.k W f L.length 7 s F low high l bY)/\KT x.B x.wm w w':=by
 have e:cS x.k W f L.length 7 s F low high l bY=qX x.k W L.length 7 s F low:=by unfold cS;rw [af ae,af ae]
 rw [e]at hL⊢;exact Zs x f W hM κ low high s A ec F lA l.len lc xA bY.len xc L w h hX.sx hL
theorem afY (part f:Nat) (W:Wd) (hM:tS x W) (κ:Kn) (_NF:∀s,κ s=0->W s=0) (_f8:f<=8) (low high:Int) (s:Str) (A:Option Addr) (ec:Nat) (F:EF) (lA:Option Addr) (lc:Nat) (l:SF) (xA:Option Addr) (xc:Nat) (bY:SF) (L:List Ins) (w:World) (h:x.at w f W L) (hX:QY x w part f κ 8 low high s A F lA l xA bY) (hL:L.length+(cS x.k W f L.length 8 s F low high l bY).length<=4000):
 Calls prog 261 #[.pointer (some ⟨x.mb,0,none⟩),.agg (au 8 s A F.len ec low high lA l.len lc xA bY.len xc)] w λe w'=>e=.returned (.tuple #[])/\x.at w' f W (L++cS x.k W f L.length 8 s F low high l bY)/\KT x.B x.wm w w':=by
 have e:cS x.k W f L.length 8 s F low high l bY=qX x.k W L.length 8 s F low:=by unfold cS;rw [af ae,af ae]
 rw [e]at hL⊢;exact acz x f W hM κ low high s A ec F lA l.len lc xA bY.len xc L w h hX.sx hL
theorem afZ (part f:Nat) (W:Wd) (hM:tS x W) (κ:Kn) (_NF:∀s,κ s=0->W s=0) (_f8:f<=8) (low high:Int) (s:Str) (A:Option Addr) (ec:Nat) (F:EF) (lA:Option Addr) (lc:Nat) (l:SF) (xA:Option Addr) (xc:Nat) (bY:SF) (L:List Ins) (w:World) (h:x.at w f W L) (hX:QY x w part f κ 9 low high s A F lA l xA bY) (hL:L.length+(cS x.k W f L.length 9 s F low high l bY).length<=4000):
 Calls prog 262 #[.pointer (some ⟨x.mb,0,none⟩),.agg (au 9 s A F.len ec low high lA l.len lc xA bY.len xc)] w λe w'=>e=.returned (.tuple #[])/\x.at w' f W (L++cS x.k W f L.length 9 s F low high l bY)/\KT x.B x.wm w w':=by
 have e:cS x.k W f L.length 9 s F low high l bY=qX x.k W L.length 9 s F low:=by unfold cS;rw [af ae,af ae]
 rw [e]at hL⊢;exact ZB x f W hM κ low high s A ec F lA l.len lc xA bY.len xc L w h hX.sx hL
theorem Pb (part) (F:SF):BkM x part F:=by
 refine qL (C:=BkM x part) ?_ F;clear F;intro F IH f W κ fT A cap L w hM Na f8 h oZ hc hz hL;obtain⟨-,hf,b,off,hA,hE⟩:=oZ;have hm:=hf.max ad;have⟨HA,HE,HI,SK,Ny,HH,HC,HZ,HL,FI,eJ⟩:=J11 hA hE IH hM Na h hc hz hL f8 (df h.hN h.hB);obtain⟨CD,hCD⟩:=nm' (cB x.k F W f L.length);have SD:=J hCD;obtain⟨n,hn⟩:=nm' F.len;have HN:=J hn;rw [<-hCD,<-hn];rw [<-hn]at hm;clear hf hA hE IH hM Na h hc hz hL f8 hCD hn;go_enter func207,ntmps207;go_wp21
 go_loopw [8] (λt8 wr=>∃(m:Nat) (R:SF) (Lm:List Ins),m+R.len=n/\cC part κ f fT R=none/\R.size<=1099511627776/\t8=.int .i64 m/\mS w x.N R b (off+m*7)/\SF.xO (BkM x part) R/\x.at wr f W Lm/\L++CD=Lm++cB x.k R W f Lm.length/\KT x.B x.wm w wr) (λt8 _=>n - (intOf t8).toNat)
 case atStart=>exact⟨0,F,L,by rw [HN.o,dU],HC.o,HZ.o,rfl,by simpa using HE.o,HI.o,HH.o,by rw [SD.o],KT.refl _ _ _⟩
 case round=>
  obtain⟨m,R,Lm,iP,uP,hzr,rfl,hR,hall,kL,rW,yG⟩:=hrel;have⟨qd,EK,EN,i',HCO,SI,HZR⟩:=J7' hR kL uP hall rW yG hzr;clear hR kL uP hall rW yG hzr
  cases R with
  |nil=>
   simp only [SF.len,fC]at iP;subst iP;go_wp21;go_end0;refine⟨rfl,?_,SI.o⟩;rw [HCO.o,show cB x.k .nil W f Lm.length=[]from rfl,List.append_nil];exact EK.o
  |cons kind name es low high l bY r=>
   obtain⟨hb,h1,h2,h3,h4,⟨eA,ec,lA,lc,xA,xc,be,oe,bl,ol,bx,ox,hh,hg,n1,n2,n3,a1,a2,a3,he,hl,AX⟩,hr⟩:=qd.o;simp only [SF.len]at iP;have aX:(m:Int)<n:=by omega
   obtain rfl:=HA.o aal;have yv:=EN.o;rw [lr,aD]at yv;have hzc:=HZR.o;simp only [SF.size]at hzc;obtain⟨akn,dF⟩:=ahs (x:=x) (w:=w) yv.1 ad h2 h3 h4 n1 n2 n3 a1 a2 a3 he hl AX i'.o.1 i'.o.2.1;have⟨tQ,rv,HZN,HRN,VN⟩:=J5' (dF.kt SI.o eJ.o.1 eJ.o.2) yv.2 (show r.size<=1099511627776 by omega) hr i'.o.2.2;have u:=kP SI.o eJ.o hb hh hg;have u1:=u.1;have u2:=u.2.1;have u3:=u.2.2;have zF:=HCO.o;rw [Ia,<-fy]at zF;obtain⟨SC,hSC⟩:=nm' (cS x.k W f Lm.length kind name es low high l bY);rw [<-hSC]at zF;have HSC:=J hSC;have vu:=J (show L++CD=Lm++SC++cB x.k r W f ((Lm++SC).length:Nat)from by rw [cy];exact zF)
   have HLC:=J (show Lm.length+SC.length<=4000 from by
    have e:=congrArg List.length zF;have:=HL.o;rw [<-SD.o]at this;simp only [cy]at e
    omega)
   clear u yv hzc dF zF hSC hh hg n1 n2 n3 a1 a2 a3 he hl AX hb h1 h2 h3 h4 hr qd EN HZR i' HCO;have KY:kind=0∨kind=1∨kind=2∨kind=3∨kind=4∨kind=5∨kind=6∨kind=7∨kind=8∨kind=9:=by omega
   clear akn
   rcases KY with rfl|rfl|rfl|rfl|rfl|rfl|rfl|rfl|rfl|rfl
   .skip
    have y0:=dz wr (.cells (au 0 name eA es.len ec low high lA l.len lc xA bY.len xc) 288);have cG:=bN wr 288 (au 0 name eA es.len ec low high lA l.len lc xA bY.len xc);go_upto_region 3 with(fail);generalize (wr.alloc (.cells (au 0 name eA es.len ec low high lA l.len lc xA bY.len xc) 288))=W1 at y0 cG⊢;refine zy5 ?_;clear cG y0 u1 u2 u3;intro g HB fj gN bT
    repeat first|refine bV ?_|refine cF ⟨KT.ext dQ,_,(fj.o).drew⟩ (by intro w1 hS;have d0:=KT.block hS.1 (HB.o) ae ae;have d1:=bC d0;have d2:=d0.lt;obtain⟨L',iP⟩:=hS.2;obtain⟨A',n',oU,fJ,_⟩:=iP.blk;have d3:=bC fJ;have d4:=fJ.lt;have d5:=iQ iP.ue 0 (fv:=.func (.func 253) #[] #[]) rfl;have d6:=bH d0;have d7:=bG d0;exact fE) ?_|refine cD ⟨KT.ext dQ,_,(fj.o).drew⟩ ?_
    refine FD ?_;intro yd K hK;go_wp21;refine(afQ x part f W SK.o κ Ny.o FI.o low high name eA ec es lA lc l xA xc bY Lm _ (fj.o).drew (gN.o.kt yd fj.o.hN fj.o.hB) FB).mono ?_;exact FE
   .skip
    have y0:=dz wr (.cells (au 1 name eA es.len ec low high lA l.len lc xA bY.len xc) 288);have cG:=bN wr 288 (au 1 name eA es.len ec low high lA l.len lc xA bY.len xc);go_upto_region 3 with(fail);generalize (wr.alloc (.cells (au 1 name eA es.len ec low high lA l.len lc xA bY.len xc) 288))=W1 at y0 cG⊢;refine zy5 ?_;clear cG y0 u1 u2 u3;intro g HB fj gN bT
    repeat first|refine bV ?_|refine cF ⟨KT.ext dQ,_,(fj.o).drew⟩ (by intro w1 hS;have d0:=KT.block hS.1 (HB.o) ae ae;have d1:=bC d0;have d2:=d0.lt;obtain⟨L',iP⟩:=hS.2;obtain⟨A',n',oU,fJ,_⟩:=iP.blk;have d3:=bC fJ;have d4:=fJ.lt;have d5:=iQ iP.ue 1 (fv:=.func (.func 254) #[] #[]) rfl;have d6:=bH d0;have d7:=bG d0;exact fE) ?_|refine cD ⟨KT.ext dQ,_,(fj.o).drew⟩ ?_
    refine FD ?_;intro yd K hK;go_wp21;refine(afR x part f W SK.o κ Ny.o FI.o low high name eA ec es lA lc l xA xc bY Lm _ (fj.o).drew (gN.o.kt yd fj.o.hN fj.o.hB) FB).mono ?_;exact FE
   .skip
    have y0:=dz wr (.cells (au 2 name eA es.len ec low high lA l.len lc xA bY.len xc) 288);have cG:=bN wr 288 (au 2 name eA es.len ec low high lA l.len lc xA bY.len xc);go_upto_region 3 with(fail);generalize (wr.alloc (.cells (au 2 name eA es.len ec low high lA l.len lc xA bY.len xc) 288))=W1 at y0 cG⊢;refine zy5 ?_;clear cG y0 u1 u2 u3;intro g HB fj gN bT
    repeat first|refine bV ?_|refine cF ⟨KT.ext dQ,_,(fj.o).drew⟩ (by intro w1 hS;have d0:=KT.block hS.1 (HB.o) ae ae;have d1:=bC d0;have d2:=d0.lt;obtain⟨L',iP⟩:=hS.2;obtain⟨A',n',oU,fJ,_⟩:=iP.blk;have d3:=bC fJ;have d4:=fJ.lt;have d5:=iQ iP.ue 2 (fv:=.func (.func 255) #[] #[]) rfl;have d6:=bH d0;have d7:=bG d0;exact fE) ?_|refine cD ⟨KT.ext dQ,_,(fj.o).drew⟩ ?_
    refine FD ?_;intro yd K hK;go_wp21;refine(afS x part f W SK.o κ Ny.o FI.o low high name eA ec es lA lc l xA xc bY Lm _ (fj.o).drew (gN.o.kt yd fj.o.hN fj.o.hB) FB).mono ?_;exact FE
   .skip
    have y0:=dz wr (.cells (au 3 name eA es.len ec low high lA l.len lc xA bY.len xc) 288);have cG:=bN wr 288 (au 3 name eA es.len ec low high lA l.len lc xA bY.len xc);go_upto_region 3 with(fail);generalize (wr.alloc (.cells (au 3 name eA es.len ec low high lA l.len lc xA bY.len xc) 288))=W1 at y0 cG⊢;refine zy5 ?_;clear cG y0 u1 u2 u3;intro g HB fj gN bT
    repeat first|refine bV ?_|refine cF ⟨KT.ext dQ,_,(fj.o).drew⟩ (by intro w1 hS;have d0:=KT.block hS.1 (HB.o) ae ae;have d1:=bC d0;have d2:=d0.lt;obtain⟨L',iP⟩:=hS.2;obtain⟨A',n',oU,fJ,_⟩:=iP.blk;have d3:=bC fJ;have d4:=fJ.lt;have d5:=iQ iP.ue 3 (fv:=.func (.func 256) #[] #[]) rfl;have d6:=bH d0;have d7:=bG d0;exact fE) ?_|refine cD ⟨KT.ext dQ,_,(fj.o).drew⟩ ?_
    refine FD ?_;intro yd K hK;go_wp21;refine(afT x part f W SK.o κ Ny.o FI.o low high name eA ec es lA lc l xA xc bY Lm _ (fj.o).drew (gN.o.kt yd fj.o.hN fj.o.hB) FB).mono ?_;exact FE
   .skip
    have y0:=dz wr (.cells (au 4 name eA es.len ec low high lA l.len lc xA bY.len xc) 288);have cG:=bN wr 288 (au 4 name eA es.len ec low high lA l.len lc xA bY.len xc);go_upto_region 3 with(fail);generalize (wr.alloc (.cells (au 4 name eA es.len ec low high lA l.len lc xA bY.len xc) 288))=W1 at y0 cG⊢;refine zy5 ?_;clear cG y0 u1 u2 u3;intro g HB fj gN bT
    repeat first|refine bV ?_|refine cF ⟨KT.ext dQ,_,(fj.o).drew⟩ (by intro w1 hS;have d0:=KT.block hS.1 (HB.o) ae ae;have d1:=bC d0;have d2:=d0.lt;obtain⟨L',iP⟩:=hS.2;obtain⟨A',n',oU,fJ,_⟩:=iP.blk;have d3:=bC fJ;have d4:=fJ.lt;have d5:=iQ iP.ue 4 (fv:=.func (.func 257) #[] #[]) rfl;have d6:=bH d0;have d7:=bG d0;exact fE) ?_|refine cD ⟨KT.ext dQ,_,(fj.o).drew⟩ ?_
    refine FD ?_;intro yd K hK;go_wp21;refine(afU x part f W SK.o κ Ny.o FI.o low high name eA ec es lA lc l xA xc bY Lm _ (fj.o).drew (gN.o.kt yd fj.o.hN fj.o.hB) FB).mono ?_;exact FE
   .skip
    have y0:=dz wr (.cells (au 5 name eA es.len ec low high lA l.len lc xA bY.len xc) 288);have cG:=bN wr 288 (au 5 name eA es.len ec low high lA l.len lc xA bY.len xc);go_upto_region 3 with(fail);generalize (wr.alloc (.cells (au 5 name eA es.len ec low high lA l.len lc xA bY.len xc) 288))=W1 at y0 cG⊢;refine zy5 ?_;clear cG y0 u1 u2 u3;intro g HB fj gN bT
    repeat first|refine bV ?_|refine cF ⟨KT.ext dQ,_,(fj.o).drew⟩ (by intro w1 hS;have d0:=KT.block hS.1 (HB.o) ae ae;have d1:=bC d0;have d2:=d0.lt;obtain⟨L',iP⟩:=hS.2;obtain⟨A',n',oU,fJ,_⟩:=iP.blk;have d3:=bC fJ;have d4:=fJ.lt;have d5:=iQ iP.ue 5 (fv:=.func (.func 258) #[] #[]) rfl;have d6:=bH d0;have d7:=bG d0;exact fE) ?_|refine cD ⟨KT.ext dQ,_,(fj.o).drew⟩ ?_
    refine FD ?_;intro yd K hK;go_wp21;refine(afV x part f W SK.o κ Ny.o FI.o low high name eA ec es lA lc l xA xc bY Lm _ (fj.o).drew (gN.o.kt yd fj.o.hN fj.o.hB) FB).mono ?_;exact FE
   .skip
    have y0:=dz wr (.cells (au 6 name eA es.len ec low high lA l.len lc xA bY.len xc) 288);have cG:=bN wr 288 (au 6 name eA es.len ec low high lA l.len lc xA bY.len xc);go_upto_region 3 with(fail);generalize (wr.alloc (.cells (au 6 name eA es.len ec low high lA l.len lc xA bY.len xc) 288))=W1 at y0 cG⊢;refine zy5 ?_;clear cG y0 u1 u2 u3;intro g HB fj gN bT
    repeat first|refine bV ?_|refine cF ⟨KT.ext dQ,_,(fj.o).drew⟩ (by intro w1 hS;have d0:=KT.block hS.1 (HB.o) ae ae;have d1:=bC d0;have d2:=d0.lt;obtain⟨L',iP⟩:=hS.2;obtain⟨A',n',oU,fJ,_⟩:=iP.blk;have d3:=bC fJ;have d4:=fJ.lt;have d5:=iQ iP.ue 6 (fv:=.func (.func 259) #[] #[]) rfl;have d6:=bH d0;have d7:=bG d0;exact fE) ?_|refine cD ⟨KT.ext dQ,_,(fj.o).drew⟩ ?_
    refine FD ?_;intro yd K hK;go_wp21;refine(afW x part f W SK.o κ Ny.o FI.o low high name eA ec es lA lc l xA xc bY Lm _ (fj.o).drew (gN.o.kt yd fj.o.hN fj.o.hB) FB).mono ?_;exact FE
   .skip
    have y0:=dz wr (.cells (au 7 name eA es.len ec low high lA l.len lc xA bY.len xc) 288);have cG:=bN wr 288 (au 7 name eA es.len ec low high lA l.len lc xA bY.len xc);go_upto_region 3 with(fail);generalize (wr.alloc (.cells (au 7 name eA es.len ec low high lA l.len lc xA bY.len xc) 288))=W1 at y0 cG⊢;refine zy5 ?_;clear cG y0 u1 u2 u3;intro g HB fj gN bT
    repeat first|refine bV ?_|refine cF ⟨KT.ext dQ,_,(fj.o).drew⟩ (by intro w1 hS;have d0:=KT.block hS.1 (HB.o) ae ae;have d1:=bC d0;have d2:=d0.lt;obtain⟨L',iP⟩:=hS.2;obtain⟨A',n',oU,fJ,_⟩:=iP.blk;have d3:=bC fJ;have d4:=fJ.lt;have d5:=iQ iP.ue 7 (fv:=.func (.func 260) #[] #[]) rfl;have d6:=bH d0;have d7:=bG d0;exact fE) ?_|refine cD ⟨KT.ext dQ,_,(fj.o).drew⟩ ?_
    refine FD ?_;intro yd K hK;go_wp21;refine(afX x part f W SK.o κ Ny.o FI.o low high name eA ec es lA lc l xA xc bY Lm _ (fj.o).drew (gN.o.kt yd fj.o.hN fj.o.hB) FB).mono ?_;exact FE
   .skip
    have y0:=dz wr (.cells (au 8 name eA es.len ec low high lA l.len lc xA bY.len xc) 288);have cG:=bN wr 288 (au 8 name eA es.len ec low high lA l.len lc xA bY.len xc);go_upto_region 3 with(fail);generalize (wr.alloc (.cells (au 8 name eA es.len ec low high lA l.len lc xA bY.len xc) 288))=W1 at y0 cG⊢;refine zy5 ?_;clear cG y0 u1 u2 u3;intro g HB fj gN bT
    repeat first|refine bV ?_|refine cF ⟨KT.ext dQ,_,(fj.o).drew⟩ (by intro w1 hS;have d0:=KT.block hS.1 (HB.o) ae ae;have d1:=bC d0;have d2:=d0.lt;obtain⟨L',iP⟩:=hS.2;obtain⟨A',n',oU,fJ,_⟩:=iP.blk;have d3:=bC fJ;have d4:=fJ.lt;have d5:=iQ iP.ue 8 (fv:=.func (.func 261) #[] #[]) rfl;have d6:=bH d0;have d7:=bG d0;exact fE) ?_|refine cD ⟨KT.ext dQ,_,(fj.o).drew⟩ ?_
    refine FD ?_;intro yd K hK;go_wp21;refine(afY x part f W SK.o κ Ny.o FI.o low high name eA ec es lA lc l xA xc bY Lm _ (fj.o).drew (gN.o.kt yd fj.o.hN fj.o.hB) FB).mono ?_;exact FE
   .skip
    have y0:=dz wr (.cells (au 9 name eA es.len ec low high lA l.len lc xA bY.len xc) 288);have cG:=bN wr 288 (au 9 name eA es.len ec low high lA l.len lc xA bY.len xc);go_upto_region 3 with(fail);generalize (wr.alloc (.cells (au 9 name eA es.len ec low high lA l.len lc xA bY.len xc) 288))=W1 at y0 cG⊢;refine zy5 ?_;clear cG y0 u1 u2 u3;intro g HB fj gN bT
    repeat first|refine bV ?_|refine cF ⟨KT.ext dQ,_,(fj.o).drew⟩ (by intro w1 hS;have d0:=KT.block hS.1 (HB.o) ae ae;have d1:=bC d0;have d2:=d0.lt;obtain⟨L',iP⟩:=hS.2;obtain⟨A',n',oU,fJ,_⟩:=iP.blk;have d3:=bC fJ;have d4:=fJ.lt;have d5:=iQ iP.ue 9 (fv:=.func (.func 262) #[] #[]) rfl;have d6:=bH d0;have d7:=bG d0;exact fE) ?_|refine cD ⟨KT.ext dQ,_,(fj.o).drew⟩ ?_
    refine FD ?_;intro yd K hK;go_wp21;refine(afZ x part f W SK.o κ Ny.o FI.o low high name eA ec es lA lc l xA xc bY Lm _ (fj.o).drew (gN.o.kt yd fj.o.hN fj.o.hB) FB).mono ?_;exact FE
end
variable{dst:Option Tmp}{pos:String}{after:Array Edge}{guard:Option (Nat×Bool)}
theorem qj:gB prog 292=true:=by kernel_rfl
theorem oJ:dw prog 292=some 2:=by kernel_rfl
theorem uw {eY} {x} {a} {w} {K} {Q} (hx:eG (a.eval x)=true) (hh:has w (aL (a.eval x)) (aM (a.eval x)) 2=true):
 Oper.wp prog ⟨dst,.load 292 x,eY,pos,after,guard⟩ a w K Q=K (a.put dst (.agg (gets w (aL (a.eval x)) (aM (a.eval x)) 2))) w:=bB 2 qj oJ hx hh
theorem DG {ρ} {eY} {x} {w} (hx:eG (ρ x)=true) (hh:has w (aL (ρ x)) (aM (ρ x)) 2=true):
 (execOp ρ ⟨dst,.load 292 x,eY,pos,after,guard⟩).run prog w=.ok (.value (.agg (gets w (aL (ρ x)) (aM (ρ x)) 2))) w:=aH 2 qj oJ hx hh
attribute [go_sem] qj oJ
attribute [go_sem↓high] uw DG
attribute [go_sem high] uw
theorem abt:gB prog 377=true:=by kernel_rfl
theorem ZL:dw prog 377=some 2:=by kernel_rfl
attribute [go_sem] abt ZL
def exC (t:Int):Option Value:=if t=0 then some (.agg #[.int .i64 1,.bool false])else if t=1 then some (.agg #[.int .i64 1,.bool false])else if t=2 then some (.agg #[.int .i64 6,.bool true])else none
def stC (t:Int):Option Value:=if t=0 then some (.agg #[.int .i64 3,.bool true])else if t=1 then some (.agg #[.int .i64 6,.bool true])else if t=2 then some (.agg #[.int .i64 3,.bool true])else if t=3 then some (.agg #[.int .i64 3,.bool false])else if t=4 then some (.agg #[.int .i64 2,.bool false])else if t=5 then some (.agg #[.int .i64 4,.bool false])else if t=6 then some (.agg #[.int .i64 3,.bool true])else if t=7 then some (.agg #[.int .i64 2,.bool false])else if t=8 then some (.agg #[.int .i64 8,.bool true])else if t=9 then some (.agg #[.int .i64 3,.bool true])else none
theorem Px (w:World):Calls prog 249 #[] w λe w'=>e=.returned (.map (some w.heap.size))/\cu w' w.heap.size exC/\al w w':=by
 have CU:=@run_makeMap prog;have hu:prog.underlying 290=some (.map 3 _):=underlying290;refine aaA ?_;intro b0 y0;go_enter func249,ntmps249;go_upto_region 1 with(fail);go_step
 iterate 1 refine kT ?_
 obtain⟨w1,r1,b1,k1⟩:=cu.put b0 hu underlying3 (0) (.agg #[.int .i64 1,.bool false]);have y1:=y0.trans' k1 (λi hi e=>by omega)
 iterate 1 refine kT ?_
 refine Mc.aE rfl 290 (.tmp 1) (.const (.int .i64 0)) (.tmp 2) rfl rfl rfl rfl rfl r1 ?_;obtain⟨w2,r2,b2,k2⟩:=cu.put b1 hu underlying3 (1) (.agg #[.int .i64 1,.bool false]);have y2:=y1.trans' k2 (λi hi e=>by omega)
 iterate 1 refine kT ?_
 refine Mc.aE rfl 290 (.tmp 1) (.const (.int .i64 1)) (.tmp 3) rfl rfl rfl rfl rfl r2 ?_;obtain⟨w3,r3,b3,k3⟩:=cu.put b2 hu underlying3 (2) (.agg #[.int .i64 6,.bool true]);have y3:=y2.trans' k3 (λi hi e=>by omega)
 iterate 1 refine kT ?_
 refine Mc.aE rfl 290 (.tmp 1) (.const (.int .i64 2)) (.tmp 4) rfl rfl rfl rfl rfl r3 ?_;go_wp21;go_ret;refine⟨rfl,cu.nH b3 (λt=>?_),y3⟩
 by_cases h:t=0∨t=1∨t=2
 .rcases h with rfl|rfl|rfl<;>rfl
 .unfold exC
  rw [af (show¬t=2 by omega),af (show¬t=1 by omega),af (show¬t=0 by omega)];rw [af (show¬t=0 by omega),af (show¬t=1 by omega),af (show¬t=2 by omega)]
theorem Py (w:World):Calls prog 250 #[] w λe w'=>e=.returned (.map (some w.heap.size))/\cu w' w.heap.size stC/\al w w':=by
 have CU:=@run_makeMap prog;have hu:prog.underlying 290=some (.map 3 _):=underlying290;refine aaA ?_;intro b0 y0;go_enter func250,ntmps250;go_upto_region 1 with(fail);go_step
 iterate 1 refine kT ?_
 obtain⟨w1,r1,b1,k1⟩:=cu.put b0 hu underlying3 (0) (.agg #[.int .i64 3,.bool true]);have y1:=y0.trans' k1 (λi hi e=>by omega)
 iterate 1 refine kT ?_
 refine Mc.aE rfl 290 (.tmp 1) (.const (.int .i64 0)) (.tmp 2) rfl rfl rfl rfl rfl r1 ?_;obtain⟨w2,r2,b2,k2⟩:=cu.put b1 hu underlying3 (1) (.agg #[.int .i64 6,.bool true]);have y2:=y1.trans' k2 (λi hi e=>by omega)
 iterate 1 refine kT ?_
 refine Mc.aE rfl 290 (.tmp 1) (.const (.int .i64 1)) (.tmp 3) rfl rfl rfl rfl rfl r2 ?_;obtain⟨w3,r3,b3,k3⟩:=cu.put b2 hu underlying3 (2) (.agg #[.int .i64 3,.bool true]);have y3:=y2.trans' k3 (λi hi e=>by omega)
 iterate 1 refine kT ?_
 refine Mc.aE rfl 290 (.tmp 1) (.const (.int .i64 2)) (.tmp 4) rfl rfl rfl rfl rfl r3 ?_;obtain⟨w4,r4,b4,k4⟩:=cu.put b3 hu underlying3 (3) (.agg #[.int .i64 3,.bool false]);have y4:=y3.trans' k4 (λi hi e=>by omega)
 iterate 1 refine kT ?_
 refine Mc.aE rfl 290 (.tmp 1) (.const (.int .i64 3)) (.tmp 5) rfl rfl rfl rfl rfl r4 ?_;obtain⟨w5,r5,b5,k5⟩:=cu.put b4 hu underlying3 (4) (.agg #[.int .i64 2,.bool false]);have y5:=y4.trans' k5 (λi hi e=>by omega)
 iterate 1 refine kT ?_
 refine Mc.aE rfl 290 (.tmp 1) (.const (.int .i64 4)) (.tmp 6) rfl rfl rfl rfl rfl r5 ?_;obtain⟨w6,r6,b6,k6⟩:=cu.put b5 hu underlying3 (7) (.agg #[.int .i64 2,.bool false]);have y6:=y5.trans' k6 (λi hi e=>by omega)
 iterate 1 refine kT ?_
 refine Mc.aE rfl 290 (.tmp 1) (.const (.int .i64 7)) (.tmp 7) rfl rfl rfl rfl rfl r6 ?_;obtain⟨w7,r7,b7,k7⟩:=cu.put b6 hu underlying3 (5) (.agg #[.int .i64 4,.bool false]);have y7:=y6.trans' k7 (λi hi e=>by omega)
 iterate 1 refine kT ?_
 refine Mc.aE rfl 290 (.tmp 1) (.const (.int .i64 5)) (.tmp 8) rfl rfl rfl rfl rfl r7 ?_;obtain⟨w8,r8,b8,k8⟩:=cu.put b7 hu underlying3 (6) (.agg #[.int .i64 3,.bool true]);have y8:=y7.trans' k8 (λi hi e=>by omega)
 iterate 1 refine kT ?_
 refine Mc.aE rfl 290 (.tmp 1) (.const (.int .i64 6)) (.tmp 9) rfl rfl rfl rfl rfl r8 ?_;obtain⟨w9,r9,b9,k9⟩:=cu.put b8 hu underlying3 (9) (.agg #[.int .i64 3,.bool true]);have y9:=y8.trans' k9 (λi hi e=>by omega)
 iterate 1 refine kT ?_
 refine Mc.aE rfl 290 (.tmp 1) (.const (.int .i64 9)) (.tmp 10) rfl rfl rfl rfl rfl r9 ?_;obtain⟨G7,r10,S6,xS⟩:=cu.put b9 hu underlying3 (8) (.agg #[.int .i64 8,.bool true]);have JR:=y9.trans' xS (λi hi e=>by omega)
 iterate 1 refine kT ?_
 refine Mc.aE rfl 290 (.tmp 1) (.const (.int .i64 8)) (.tmp 11) rfl rfl rfl rfl rfl r10 ?_;go_wp21;go_ret;refine⟨rfl,cu.nH S6 (λt=>?_),JR⟩
 by_cases h:t=0∨t=1∨t=2∨t=3∨t=4∨t=7∨t=5∨t=6∨t=9∨t=8
 .rcases h with rfl|rfl|rfl|rfl|rfl|rfl|rfl|rfl|rfl|rfl<;>rfl
 .unfold stC
  rw [af (show¬t=8 by omega),af (show¬t=9 by omega),af (show¬t=6 by omega),af (show¬t=5 by omega),af (show¬t=7 by omega),af (show¬t=4 by omega),af (show¬t=3 by omega),af (show¬t=2 by omega),af (show¬t=1 by omega),af (show¬t=0 by omega)];exact anB
def QH (w:World) (ex st:Nat):Prop:=cu w ex exC/\cu w st stC
abbrev JF (ex st:Nat):Array Value:=#[.map (some ex),.map (some st)]
theorem NR (w:World):Calls prog 200 #[] w λe w'=>∃ex st,e=.returned (.agg (JF ex st))/\QH w' ex st/\al w w'/\w.heap.size<=ex/\w.heap.size<=st:=by
 have y0:=dz w (.cells #[.map none,.map none] 292);have b0:=bN w 292 #[.map none,.map none];have hsz:(w.alloc (.cells #[.map none,.map none] 292)).heap.size=w.heap.size+1:=by simp
 go_enter func200,ntmps200;go_upto_region 1 with(fail);generalize (w.alloc (.cells #[.map none,.map none] 292))=W0 at y0 b0 hsz⊢;go_wp21;refine(Px _).mono ?_;rintro e w1 ⟨rfl,h1,y1⟩;go_wp21;refine(Py _).mono ?_;rintro e w2 ⟨rfl,h2,y2⟩;have b2:=bX b0 (y1.trans y2);have i1:=aj.aJ b2;have i2:=bH b2;have i3:=b2.lt;have h1':=h1.ext y2;rw [hsz]at h1';have hex:=y1.size;have yy:=y0.trans (y1.trans y2);have dF:=(y0.trans y1).size;generalize w1.heap.size=st at h2 dF hex⊢;go_wp21;have yp:al w (putAt w2 w.heap.size 0 #[.map (some (w.heap.size+1)),.map (some st)]):=yy.putAt _ 0 _ (λh=>absurd h ad);have kp:Kept (·=w.heap.size) w2 (putAt w2 w.heap.size 0 #[.map (some (w.heap.size+1)),.map (some st)]):=Kept.putAt (kR _ _) _ 0 _ (λ_=>rfl);refine bQ results200 rfl rfl qj (by exact oJ) (aj.cI b2 0 _) ⟨w.heap.size+1,st,rfl,⟨h1'.kept kp ad,h2.kept kp ad⟩,yp,by omega,by omega⟩
theorem pB (n) (w:World):Calls prog 201 #[.int .i64 n] w λe w'=>e=.returned (.func (.func 251) #[] #[.pointer (some ⟨w.heap.size,0,none⟩)])/\aj w' w.heap.size 3 #[.int .i64 n]/\al w w':=by
 refine ahQ ?_;intro qe;have y0:al w (w.alloc (.cells #[.int .i64 n] 3)):=dS w _;have b0:=bN w 3 #[.int .i64 n];go_enter func201,ntmps201;go_wp21;go_ret;exact⟨rfl,b0,y0⟩
def bW (n:Nat):Nat:=min n 65537
theorem eR (nb n m:Nat) (w) (hn:n<=65537) (hm:m<=4611686018427387904) (hb:aj w nb 3 #[.int .i64 n]):
 Calls prog 251 #[.int .i64 m,.pointer (some ⟨nb,0,none⟩)] w λe w'=>e=.returned (.int .i64 (bW (n+m):Nat))/\aj w' nb 3 #[.int .i64 (bW (n+m):Nat)]/\Kept (·=nb) w w':=by
 have i1:=bC hb;have i2:=hb.lt;have i3:=aj.frozen hb;have hs:=aj.fw hb 0 (.int .i64 (bW (n+m):Nat));have hk:Kept (·=nb) w (w.setCell ⟨nb,0,none⟩ (.int .i64 (bW (n+m):Nat))):=Kept.setCell (kR _ w) _ _ (λ_=>rfl);have hw:=wrap_i64 (n:=(n:Int)+m) mu;have arm:min ((n:Int)+m) 65537=(bW (n+m):Nat):=by unfold bW;omega
 go_enter func251,ntmps251;go_wp21;go_ret;exact⟨rfl,by simpa using hs,hk⟩
abbrev aqh (nb:Nat):Value:=.func (.func 251) #[] #[.pointer (some ⟨nb,0,none⟩)]
theorem eO (n:Nat):bW n<=65537:=Nat.min_le_right _ _
theorem xp (a b:Nat):bW (bW a+b)=bW (a+b):=by unfold bW;omega
theorem pT (a b:Nat):bW (a+bW b)=bW (a+b):=by unfold bW;omega
theorem iT {a} (h:a<=65537):bW a=a:=by unfold bW;omega
theorem QH.ext {w w'} {ex st} (h:QH w ex st) (hx:al w w'):QH w' ex st:=⟨h.1.ext hx,h.2.ext hx⟩
theorem QH.ne {w} {ex st b} {t} {cs} (h:QH w ex st) (hb:aj w b t cs):¬ex=b/\¬st=b:=by
 constructor<;>intro e<;>subst e
 .obtain⟨es,clock,hq,_⟩:=h.1
  rw [show w.heap[_]?=_ from hb]at hq
  cases hq
 .obtain⟨es,clock,hq,_⟩:=h.2
  rw [show w.heap[_]?=_ from hb]at hq
  cases hq
theorem QH.kept {w w'} {ex st b:Nat} (h:QH w ex st) (hk:Kept (·=b) w w') (h1:¬ex=b) (h2:¬st=b):QH w' ex st:=⟨h.1.kept hk h1,h.2.kept hk h2⟩
abbrev abe (F:EF):Prop:=∀(ex st N:Nat) (A:Option Addr) (c nb n:Nat) (w:World),QH w ex st->lJ w N A F.len F->n<=65537->aj w nb 3 #[.int .i64 n]->N<=nb->
 Calls prog 298 #[.agg (JF ex st),aqh nb,.slice A F.len c] w λe w'=>e=.returned (.tuple #[])/\aj w' nb 3 #[.int .i64 (bW (n+jA F):Nat)]/\Kept (·=nb) w w'
def rN (op:Int) (F:EF):Nat:=ahg op+if op=0∨op=1 then 0 else jA F
theorem tq {w} {g} {f:Int->Option Value} (h:cu w g f) (op:Int) {fv:Value} {bv:Bool} (hf:(f op).getD (.agg #[.int .i64 0,.bool false])=fv) (hb:(f op).isSome=bv):(Instr.lookup 290 (.map (some g)) (.int .i64 op) true).run prog w=.ok (.tuple #[fv,.bool bv]) w:=by
 have ur:=cu.look_ok (P:=prog) h underlying290 underlying3 (z:=.agg #[.int .i64 0,.bool false]) (λw=>by kernel_rfl) op;rw [ur,hf,hb]
theorem S8 (F:EF) (IH:abe F) (ex st N:Nat) (op n:Int) (s:Str) (A:Option Addr) (kc:Nat) (w:World) (hC:QH w ex st) (hE:lJ w N A F.len F) (hN:N<=w.heap.size):
 Calls prog 321 #[.agg (JF ex st),.agg (aF op n s A F.len kc)] w λe w'=>e=.returned (.int .i64 (bW (rN op F):Nat))/\al w w':=by
 obtain⟨W1,ku⟩:=nm' ((w.alloc (.cells (JF ex st) 292)).alloc (.cells (aF op n s A F.len kc) 354));have y1:al w W1:=by rw [ku];exact(dS w _).alloc _
 have h4:aj W1 w.heap.size 292 (JF ex st):=by rw [ku];exact(bN w _ _).alloc _
 have h7:aj W1 (w.heap.size+1) 354 (aF op n s A F.len kc):=by
  rw [ku];exact aj.d_ _ _ _ _ aC
 have hsz:(w.alloc (.cells (JF ex st) 292)).heap.size=w.heap.size+1:=by simp
 have⟨HI,HC,HE⟩:=J3' IH (hC.ext y1) (hE.kept y1 hN (λ_ f=>f.elim));clear IH hC hE;go_enter func321,ntmps321;go_upto_region 1 with(fail);rw [<-ku]
 try rw [hsz]
 clear hsz;have HW1:=J ku;clear ku;generalize zQ:(w:World).heap.size=p4 at h4 h7 hN⊢;have Et:=J zQ;clear zQ;have H4:=J h4;have H7:=J h7;have i1:=bC h4;have i2:=h4.lt;have j1:=bC h7;have j2:=h7.lt;clear h4 h7;have my:=J (show(op=0∨op=1)∨op=2∨¬(op=0∨op=1∨op=2)from by omega);obtain⟨p6,hp6⟩:=nm' W1.heap.size;have VT:=J hp6;clear hp6
 rcases my.o with ho|ho|ho
 .skip
  have ur:=tq (HC.o).1 op (fv:=(.agg #[.int .i64 1,.bool false])) (bv:=true) (by rcases ho with rfl|rfl<;>rfl) (by rcases ho with rfl|rfl<;>rfl);have HVV:=J (show rN op F=1 from by rcases ho with rfl|rfl<;>rfl);clear ho;have y2:al W1 (W1.alloc (.cells #[.int .i64 1,.bool false] 377)):=dS W1 _;have b2:=bN W1 377 #[.int .i64 1,.bool false];rw [<-VT.o]at b2;have hl6:¬W1.heap.size<W1.heap.size:=by omega
  go_upto_region 4 with(fail);rw [<-VT.o];generalize (W1.alloc (.cells #[.int .i64 1,.bool false] 377))=W2 at y2 b2⊢;clear i1 i2 j1 j2 ur hl6;have B2:=J b2;have Y2:=J y2;have i1:=bC B2.o;have i2:=B2.o.lt;go_wp21;refine(pB 1 _).mono ?_;rintro e w3 ⟨rfl,b3,y3⟩;obtain⟨nb,oC⟩:=nm' W2.heap.size;refine ahR ?_;clear b3 i1 i2 y2 y3 oC;intro B3 Y3 eJ i1 i2 j1 j2 l1 l2 l3;go_wp21;refine(eR nb 1 0 _ ad ad B3.o).mono ?_;rintro e w5 ⟨rfl,b5,k5⟩;go_wp21;go_ret;refine⟨congrArg (λz:Nat=>Ending.returned (.int .i64 z)) (by rw [HVV.o]),?_⟩;exact(y1.trans Y3.o).trans' k5 (λi hi e=>by have:=(y1.trans Y2.o).size;have:=eJ.o;omega)
 .skip
  have ur:=tq (HC.o).1 op (fv:=(.agg #[.int .i64 6,.bool true])) (bv:=true) (by subst ho;rfl) (by subst ho;rfl);have HVV:=J (show rN op F=6+jA F from by subst ho;rfl);clear ho;have y2:al W1 (W1.alloc (.cells #[.int .i64 6,.bool true] 377)):=dS W1 _;have b2:=bN W1 377 #[.int .i64 6,.bool true];rw [<-VT.o]at b2;have hl6:¬W1.heap.size<W1.heap.size:=by omega
  go_upto_region 4 with(fail);rw [<-VT.o];generalize (W1.alloc (.cells #[.int .i64 6,.bool true] 377))=W2 at y2 b2⊢;clear i1 i2 j1 j2 ur hl6;have B2:=J b2;have Y2:=J y2;have i1:=bC B2.o;have i2:=B2.o.lt;go_wp21;refine(pB 6 _).mono ?_;rintro e w3 ⟨rfl,b3,y3⟩;obtain⟨nb,oC⟩:=nm' W2.heap.size;refine ahR ?_;clear b3 i1 i2 y2 y3 oC;intro B3 Y3 eJ i1 i2 j1 j2 l1 l2 l3;go_wp21;have Ov:w.heap.size<=nb:=by rw [eJ.o];exact(y1.trans Y2.o).size
  refine(HI.o ex st N A _ nb 6 _ (HC.o.ext Y3.o) (HE.o.kept Y3.o (by have a:=y1.size;have b:=Et.o;omega) (λ_ f=>f.elim)) ad B3.o (by have b:=Et.o;omega)).mono ?_;rintro e w4 ⟨rfl,b4,k4⟩;clear i1 i2 j1 j2 l1 l2 l3;go_wp21;refine(eR nb (bW (6+jA F)) 0 _ (eO _) ad b4).mono ?_;exact anK
 .skip
  have ur:=tq (HC.o).1 op (fv:=(.agg #[.int .i64 0,.bool false])) (bv:=false) amt amt;have HVV:=J (show rN op F=2+jA F from by unfold rN ahg;rw [af ad,af ad,af ad]);clear ho;have y2:al W1 (W1.alloc (.cells #[.int .i64 0,.bool false] 377)):=dS W1 _;have b2:=bN W1 377 #[.int .i64 0,.bool false];rw [<-VT.o]at b2;have hl6:¬W1.heap.size<W1.heap.size:=by omega
  have k1:=bH b2;have k2:=aj.aJ b2;have k3:=b2.lt;go_upto_region 2 with(fail);rw [<-VT.o];have y3:=y2.putAt p6 0 #[.int .i64 2,.bool true] (λh=>absurd h (by rw [VT.o];omega));have b3:aj (putAt (W1.alloc (.cells #[.int .i64 0,.bool false] 377)) p6 0 #[.int .i64 2,.bool true]) p6 377 #[.int .i64 2,.bool true]:=aj.cI b2 0 _;generalize (W1.alloc (.cells #[.int .i64 0,.bool false] 377))=W2 at y2 b2 k1 k2 k3 y3 b3⊢;go_upto_region 4 with(fail);clear i1 i2 j1 j2 ur hl6 y2 b2 k1 k2 k3;generalize (putAt W2 p6 0 #[.int .i64 2,.bool true])=W3 at y3 b3⊢;have y2:=y3;clear y3;have B2:=J b3;clear b3;have Y2:=J y2;have i1:=bC B2.o;have i2:=B2.o.lt;go_wp21;refine(pB 2 _).mono ?_;rintro e w3 ⟨rfl,b3,y3⟩;obtain⟨nb,oC⟩:=nm' W3.heap.size;refine ahR ?_;clear b3 i1 i2 y2 y3 oC;intro B3 Y3 eJ i1 i2 j1 j2 l1 l2 l3;go_wp21;have Ov:w.heap.size<=nb:=by rw [eJ.o];exact(y1.trans Y2.o).size
  refine(HI.o ex st N A _ nb 2 _ (HC.o.ext Y3.o) (HE.o.kept Y3.o (by have a:=y1.size;have b:=Et.o;omega) (λ_ f=>f.elim)) ad B3.o (by have b:=Et.o;omega)).mono ?_;rintro e w4 ⟨rfl,b4,k4⟩;clear i1 i2 j1 j2 l1 l2 l3;go_wp21;refine(eR nb (bW (2+jA F)) 0 _ (eO _) ad b4).mono ?_;exact anK
theorem Xu (F:EF):abe F:=by
 refine rP (C:=abe) ?_ F;clear F;intro F IH ex st N A c nb n w hC hE hn hb hNn;obtain⟨-,hf,b,off,hA,hEF⟩:=hE;have hm:=hf.max ad;obtain⟨W1,ku⟩:=nm' (w.alloc (.cells (JF ex st) 292));have y1:al w W1:=by rw [ku];exact dS w _
 have h4:aj W1 w.heap.size 292 (JF ex st):=by rw [ku];exact bN w _ _
 have hN:N<=w.heap.size:=by have:=hb.lt;omega
 have HB:=J (bX hb y1);have mw:=J (show¬w.heap.size=nb by have:=hb.lt;omega);have hce:=hC.ne hb;have⟨pr,HC,HEF,HI,HA,H4,Hw,sO⟩:=J8' hce (hC.ext y1) (hEF.kept y1 hN (λ_ f=>f.elim)) IH hA h4 (show N<=W1.heap.size from ay hN y1.size) hNn;obtain⟨len,hlen⟩:=nm' F.len;have yg:=J hlen;rw [<-hlen]at hm hA⊢;obtain⟨T,hT⟩:=nm' (n+jA F);have HT:=J hT;rw [<-hT];have hNS:=iT hn;have HNS:=J hNS;clear hC hEF IH hA h4 hb hf hNn hlen hT hce hNS;go_enter func298,ntmps298;go_upto_region 1 with(fail);refine wp_scope_straight ?_
 repeat (first|(refine wp_label ?_;simp only [Exit.then])|go_step)
 rw [<-ku];generalize zQ:(w:World).heap.size=p4 at mw H4 hN⊢;clear ku
 go_loopw [10] (λt10 wr=>∃(j:Nat) (R:EF) (m:Nat),j+R.len=len/\t10=.int .i64 j/\lU W1 N R b (off+j*4)/\EF.xO abe R/\m<=65537/\bW (m+jA R)=bW T/\aj wr nb 3 #[.int .i64 m]/\Kept (·=nb) W1 wr) (λt10 _=>len - (intOf t10).toNat)
 case atStart=>exact⟨0,F,n,by rw [yg.o,dU],rfl,by simpa using HEF.o,HI.o,hn,by rw [HT.o],HB.o,kR _ _⟩
 case round=>
  obtain⟨j,R,m,hj,rfl,hR,hall,Fm,OB,zD,EA⟩:=hrel;have⟨qd,i',WY,HBM,FK⟩:=J5' hR hall OB zD EA;clear hR hall OB zD EA
  cases R with
  |nil=>
   simp only [EF.len,fC]at hj;subst hj;go_wp21;simp only [Exit.noGoto];go_end0;have hs:=WY.o;rw [show jA .nil=0 from rfl,fC,iT Fm]at hs;exact⟨rfl,hs▸HBM.o,(y1.mono (λ_ _ f=>f.elim)).trans FK.o⟩
  |cons sq n' s' K r=>
   obtain⟨hbN,-,-,-,⟨A',cap,b',bR,hh,hg,hfk,hAk,hek⟩,hr⟩:=qd.o;simp only [EF.len]at hj;have aX:(j:Int)<len:=by omega
   obtain rfl:=HA.o (by have:=yg.o;omega);have oC:¬b=nb:=by have:=sO.o;omega
   have jM:=(jK FK.o (by have:=Hw.o;omega) oC).trans hh;have hg':=(iO FK.o (by have:=Hw.o;omega) oC).trans hg;have ie:b<wr.heap.size:=by have:=Hw.o;have:=FK.o.size;omega
   have⟨HK,sP,HA1,HA2⟩:=J4' (show lJ W1 N A' K.len K from⟨rfl,hfk,b',bR,hAk,hek⟩) hr i'.o.1 i'.o.2;clear hh hg hfk hAk hek hbN hr qd i';have y3:=dz wr (.cells (aF sq n' s' A' K.len cap) 354);have b3:=bN wr 354 (aF sq n' s' A' K.len cap);have q4:=bK H4.o FK.o mw.o;go_upto_region 4 with(fail);clear jM hg';generalize (wr.alloc (.cells (aF sq n' s' A' K.len cap) 354))=W3 at y3 b3⊢;generalize wr.heap.size=g at b3 ie⊢;have q5:=bX q4 y3;have l1:=bH q5;have l2:=bG q5;have l3:=q5.lt;have l4:=bH b3;have l5:=bG b3;have l6:=b3.lt;have eP:=J y3;clear q4 q5 b3 y3;go_wp21;have hKE:Kept (·=nb) W1 W3:=FK.o.trans (eP.o.mono (λ_ _ f=>f.elim));refine(S8 K HA1.o ex st N sq n' s' A' cap _ ((HC.o.kept FK.o pr.o.1 pr.o.2).ext eP.o) (HK.o.kept hKE Hw.o (λi e=>by have:=sO.o;omega)) (by have:=Hw.o;have:=hKE.size;omega)).mono ?_;rintro e w4 ⟨rfl,y4⟩;go_wp21;refine(eR nb m (bW (rN sq K)) _ Fm (by have:=eO (rN sq K);omega) (bX (bX HBM.o eP.o) y4)).mono ?_;rintro e w5 ⟨rfl,b5,k5⟩
   have tP:=J (show bW (bW (m+bW (rN sq K))+jA r)=bW T from by
    rw [<-WY.o,xp,show jA (.cons sq n' s' K r)=rN sq K+jA r from rfl,<-gH];unfold bW
    omega)
   have hz6:=eO (m+bW (rN sq K));generalize bW (m+bW (rN sq K))=z at b5 tP hz6⊢;have tN:=J b5;have vz:=J (hKE.trans ((y4.mono (λ_ _ f=>f.elim)).trans k5));clear b5 k5 y4 l1 l2 l3 l4 l5 l6
   by_cases hbig:65536<z
   .have hg:decide ((65536:Int)<(z:Int))=true:=cO ad
    have mv:=J hbig;clear hbig;go_wp21;simp only [Exit.noGoto];go_end0;have hs:=tP.o;rw [show bW (z+jA r)=z by have:=mv.o;unfold bW;omega]at hs;exact⟨rfl,hs▸tN.o,(y1.mono (λ_ _ f=>f.elim)).trans vz.o⟩
   .have hg:decide ((65536:Int)<(z:Int))=false:=cU ad
    clear hbig;go_wp21;go_roundw
    case rel=>exact⟨j+1,r,z,by omega,by go_num,by rw [Nat.add_mul,<-gH];exact sP.o,HA2.o,hz6,tP.o,tN.o,vz.o⟩
    case measure=>simp only [intOf];omega
abbrev afe (F:SF):Prop:=∀(ex st N:Nat) (A:Option Addr) (c:Nat) (w:World),QH w ex st->jc w N A F.len F->N<=w.heap.size->
 Calls prog 202 #[.agg (JF ex st),.slice A F.len c] w λe w'=>e=.returned (.int .i64 (bW (dL F):Nat))/\al w w'
def iU (kind:Int) (e:EF) (low high:Int) (l bY:SF):Nat:=
 UA kind+(if TY kind then jA e else 0)+if kind=2 then max (dL l) (dL bY)else if kind=3/\low<=high then((min (high - low) 65536).toNat+1)*(4+dL l)else 0
theorem N_ (kind) (s) (e) (low high) (l bY r):dL (.cons kind s e low high l bY r)=iU kind e low high l bY+dL r:=rfl
theorem ZP {kind} (h:0<=kind/\kind<=9):stC kind=some (.agg #[.int .i64 (UA kind),.bool (TY kind)]):=by
 have hk:kind=0∨kind=1∨kind=2∨kind=3∨kind=4∨kind=5∨kind=6∨kind=7∨kind=8∨kind=9:=by omega
 rcases hk with rfl|rfl|rfl|rfl|rfl|rfl|rfl|rfl|rfl|rfl<;>rfl
theorem acv (kind:Int):UA kind<=8:=by
 unfold UA
 repeat' split
 all_goals omega
theorem ZH (a r z:Nat):bW (a+(r+1)*(4+bW z))=bW (a+(r+1)*(4+z)):=by
 by_cases h:z<=65537
 .rw [iT h]
 .have h1:bW z=65537:=by unfold bW;omega
  rw [h1];have h2:4+65537<=(r+1)*(4+65537):=Nat.le_mul_of_pos_left _ ad;have h3:4+z<=(r+1)*(4+z):=Nat.le_mul_of_pos_left _ ad;unfold bW
  omega
theorem ZG (a y z:Nat):bW (a+max (bW y) (bW z))=bW (a+max y z):=by unfold bW;omega
theorem Ta (l bY:SF) (ex st N:Nat) (kind low high:Int) (IL:kind=2∨kind=3->afe l) (IX:kind=2->afe bY) (hk:0<=kind/\kind<=9) (ilo:aI low) (ihi:aI high) (s:Str) (A:Option Addr) (ec:Nat) (F:EF) (lA:Option Addr) (lc:Nat) (xA:Option Addr) (xc:Nat) (w:World) (hC:QH w ex st) (hE:lJ w N A F.len F) (hl:jc w N lA l.len l) (hx:jc w N xA bY.len bY) (hN:N<=w.heap.size):
 Calls prog 252 #[.agg (JF ex st),.agg (au kind s A F.len ec low high lA l.len lc xA bY.len xc)] w λe w'=>e=.returned (.int .i64 (bW (iU kind F low high l bY):Nat))/\al w w':=by
 obtain⟨W1,ku⟩:=nm' ((w.alloc (.cells (JF ex st) 292)).alloc (.cells (au kind s A F.len ec low high lA l.len lc xA bY.len xc) 288));have y1:al w W1:=by rw [ku];exact(dS w _).alloc _
 have h4:aj W1 w.heap.size 292 (JF ex st):=by rw [ku];exact(bN w _ _).alloc _
 have h7:aj W1 (w.heap.size+1) 288 (au kind s A F.len ec low high lA l.len lc xA bY.len xc):=by
  rw [ku];exact aj.d_ _ _ _ _ aC
 have hsz:(w.alloc (.cells (JF ex st) 292)).heap.size=w.heap.size+1:=by simp
 obtain⟨own,how⟩:=nm' (UA kind);obtain⟨prt,hpr⟩:=nm' (TY kind);have ur:=tq (hC.ext y1).2 kind (fv:=.agg #[.int .i64 own,.bool prt]) (bv:=true) (by rw [ZP hk,how,hpr];rfl) (by rw [ZP hk];rfl);have h8:own<=8:=by rw [how];exact acv _
 have⟨HIL,HIX,HC,HE,HL,HX,Hw,HK,Hy,HPR,HLH⟩:=J11 IL IX (hC.ext y1) (hE.kept y1 hN (λ_ f=>f.elim)) (hl.kept y1 hN (λ_ f=>f.elim)) (hx.kept y1 hN (λ_ f=>f.elim)) (show N<=W1.heap.size from ay hN y1.size) hk how hpr (df ilo ihi);clear IL IX hC hE hl hx hk how hpr ilo ihi;go_enter func252,ntmps252;go_upto_region 1 with(fail);rw [<-ku]
 try rw [hsz]
 clear hsz ku;obtain⟨p6,hp6⟩:=nm' W1.heap.size;have VT:=J hp6;clear hp6;have WZ:=J y1.size;generalize zQ:(w:World).heap.size=p4 at h4 h7⊢;have Et:=J zQ;clear zQ;have H4:=J h4;have H7:=J h7;have i1:=bC h4;have i2:=h4.lt;have j1:=bC h7;have j2:=h7.lt;clear h4 h7;have y2:al W1 (W1.alloc (.cells #[.int .i64 own,.bool prt] 377)):=dS W1 _;have b2:=bN W1 377 #[.int .i64 own,.bool prt];rw [<-VT.o]at b2;go_upto_region 4 with(fail);rw [<-VT.o];generalize (W1.alloc (.cells #[.int .i64 own,.bool prt] 377))=W2 at y2 b2⊢;clear i1 i2 j1 j2 ur;have B2:=J b2;have Y2:=J y2;have i1:=bC b2;have i2:=b2.lt;clear b2;go_wp21;refine(pB own _).mono ?_;rintro e w3 ⟨rfl,b3,y3⟩;obtain⟨nb,oC⟩:=nm' W2.heap.size;rw [<-oC]at b3⊢;clear i1 i2;have⟨B3,Y3,B2b,WR,HQ⟩:=J5' b3 (Y2.o.trans y3) (bX B2.o y3) (show N<=nb/\w.heap.size<=nb from by have a:=y2.size;have b:=Hw.o;have c:=WZ.o;omega) (show¬p4=nb/\¬p4+1=nb/\¬p6=nb from by have a:=y2.size;have b:=H7.o.lt;have c:=B2.o.lt;omega);clear b3 y2 y3 oC;have n7:=J (HC.o.ext Y3.o);have hce:=n7.o.ne B3.o;have pr:=J hce;clear hce;have Wv:=y1;have Nf:∀a b:Nat,max (a:Int) (b:Int)=((max a b:Nat):Int):=λa b=>by omega
 have e1:=bC B2b.o;have e2:=B2b.o.lt;have SL:=J (show N<=w3.heap.size from ay Hw.o Y3.o.size);have HEV:=J (HE.o.kept Y3.o Hw.o (λ_ f=>f.elim))
 cases prt
 .skip
  obtain⟨m,hm⟩:=nm' own;have⟨BM,KM,uh,QM⟩:=J4' (show aj w3 nb 3 #[.int .i64 (m:Int)]from by rw [hm];exact B3.o) (show Kept (·=nb) w3 w3 from kR _ _) (show m<=65537 by omega) (show m=bW (own+if TY kind=true then jA F else 0)from by rw [<-HPR.o,hm];exact(iT ad).symm);clear hm;go_upto_region 7 with(fail);clear e1 e2;have eC:¬kind=2:=λh=>by have:=HPR.o;rw [h]at this;cases this
  have T_:(kind==2)=false:=by simpa using eC
  refine ahV ?_;intro i1 i2 i3 i4 i5;go_upto_region 9 with(fail)
  by_cases iz:kind=3
  .skip
   have he3:(kind==3)=true:=by rw [iz];rfl
   by_cases hlh:low<=high
   .skip
    have hle:decide (low<=high)=true:=cO hlh;have afn:=J (HIL.o (.inr iz));have ilo:=HLH.o.1;have ihi:=HLH.o.2;unfold aI at ilo ihi;have hu:IntKind.u64.wrap (IntKind.u64.wrap high - IntKind.u64.wrap low)=high - low:=by simp only [IntKind.wrap_u64];omega
    obtain⟨Q0,hQ0⟩:∃Q0:Int,Q0=min (high - low) 65536:=⟨_,rfl⟩;have hmn:min (high - low) 65536=Q0:=hQ0.symm;have hQb:0<=Q0/\Q0<=65536:=by omega
    have mO:IntKind.i64.wrap Q0=Q0:=wrap_i64 mu;have rB:IntKind.i64.wrap (Q0+1)=Q0+1:=wrap_i64 mu;have sd:=eO (dL l);have hw3:IntKind.i64.wrap (4+(bW (dL l):Int))=4+(bW (dL l):Int):=wrap_i64 mu;obtain⟨M,hM⟩:∃M:Nat,M=(Q0.toNat+1)*(4+bW (dL l)):=⟨_,rfl⟩
    have hMI:(Q0+1)*(4+(bW (dL l):Int))=(M:Int):=by
     rw [hM,Int.natCast_mul,Int.natCast_add,Int.natCast_add]
     congr 1
     omega
    have hMb:M<=65537*65541:=by rw [hM];exact Nat.mul_le_mul ad ad
    have hw4:IntKind.i64.wrap ((Q0+1)*(4+(bW (dL l):Int)))=(M:Int):=by rw [hMI];exact wrap_i64 mu
    have WO:=J hMb
    have B5:=J (show bW (bW (m+M))=bW (iU kind F low high l bY)from by
     unfold iU;rw [iT (eO _),af eC,av (df iz hlh),<-hQ0,hM,ZH,QM.o,xp,Hy.o])
    clear eC iz hlh hQ0 hQb sd hM hMI hMb ilo ihi;go_wp21;refine(afn.o ex st N lA _ _ (n7.o.kept (KM.o) pr.o.1 pr.o.2) ((HL.o.kept Y3.o Hw.o (λ_ f=>f.elim)).kept (KM.o) SL.o (λi e=>by have:=WR.o.1;omega)) (ay SL.o (KM.o).size)).mono ?_;rintro e w5 ⟨rfl,y5⟩;clear i1 i2 i3 i4 i5;go_wp21;refine(eR nb m M _ uh.o (by have:=WO.o;omega) (bX BM.o y5)).mono ?_;rintro e w7 ⟨rfl,b7,k7⟩;have⟨BF,KF,uh⟩:=J3' b7 (KM.o.trans ((y5.mono (λ_ _ f=>f.elim)).trans k7)) (eO (m+M));clear hmn hu mO rB hw3 hw4 b7 k7 y5;generalize bW (m+M)=z at BF uh B5⊢;exact anx
   .skip
    have B5:=J (show bW m=bW (iU kind F low high l bY)from by
     unfold iU;rw [QM.o,af eC,af (show¬(kind=3/\low<=high)from λh=>hlh h.2),fC,Hy.o,iT (eO _)])
    have hle:decide (low<=high)=false:=cU hlh;clear eC iz hlh;exact aii
  .skip
   have B5:=J (show bW m=bW (iU kind F low high l bY)from by
    unfold iU;rw [QM.o,af eC,af (show¬(kind=3/\low<=high)from λh=>iz h.1),fC,Hy.o,iT (eO _)])
   have he3:(kind==3)=false:=by simpa using iz
   clear eC iz;exact aii
 .skip
  have M2:=J (show Kept (·=nb) w3 w3 from kR _ _);have q4:=bK (bX H4.o Y3.o) M2.o HQ.o.1;have q7:=bK (bX H7.o Y3.o) M2.o HQ.o.2.1;have i1:=bC q7;have i2:=q7.lt;have i3:=bH q4;have i4:=bG q4;have i5:=q4.lt;clear q4 q7;go_wp21;clear i1 i2 i3 i4 i5 e1 e2;refine(Xu F ex st N A _ nb own _ n7.o HEV.o ad B3.o WR.o.1).mono ?_;rintro e wc ⟨rfl,b4,k4⟩;have⟨BM,KM,uh,QM⟩:=J4' b4 k4 (eO (own+jA F)) (show bW (own+jA F)=bW (own+if TY kind=true then jA F else 0)from by rw [<-HPR.o];rfl);clear b4 k4;generalize bW (own+jA F)=m at BM uh QM⊢
  by_cases eC:kind=2
  .skip
   have HSS:=J (show bW (m+max (dL l) (dL bY))=bW (iU kind F low high l bY)from by
    unfold iU;rw [QM.o,xp,av eC,Hy.o])
   have T_:(kind==2)=true:=by rw [eC];rfl
   have afn:=J (HIL.o (.inl eC));have aod:=J (HIX.o eC);clear eC;refine ahV ?_;intro i1 i2 i3 i4 i5;go_upto_region 8 with(fail);clear i1 i2 i3 i4 i5;refine eW (λwz=>Kept (·=nb) wc wz) [(0,2),(1,1),(2,2),(3,1),(5,1),(6,2),(7,1),(4,0),(8,0),(9,1),(10,0)] ?_;refine eX ?_
   repeat first|refine bV ?_|refine cF dQ (by intro w1 hS;have q4:=bK (bX H4.o Y3.o) (KM.o.trans hS) HQ.o.1;have q7:=bK (bX H7.o Y3.o) (KM.o.trans hS) HQ.o.2.1;have i1:=bC q7;have i2:=q7.lt;have i3:=bH q4;have i4:=bG q4;have i5:=q4.lt;exact fE) ?_|refine cD dQ ?_
   have kd:Kept (·=nb) wc wc.drew:=(kR _ wc).drew;refine ap (λK hK=>?_);go_simp;go_wp21;refine(afn.o ex st N lA _ _ (n7.o.kept (KM.o.trans kd) pr.o.1 pr.o.2) ((HL.o.kept Y3.o Hw.o (λ_ f=>f.elim)).kept (KM.o.trans kd) SL.o (λi e=>by have:=WR.o.1;omega)) (ay SL.o (KM.o.trans kd).size)).mono ?_;rintro e w5 ⟨rfl,y5⟩;have k5:=kd.trans (y5.mono (λ_ _ f=>f.elim));refine hK.out _ _ (λ_=>k5) ?_;clear hK K;refine kZ ?_;intro K hK;go_wp21;refine(aod.o ex st N xA _ _ (n7.o.kept (KM.o.trans k5) pr.o.1 pr.o.2) ((HX.o.kept Y3.o Hw.o (λ_ f=>f.elim)).kept (KM.o.trans k5) SL.o (λi e=>by have:=WR.o.1;omega)) (ay SL.o (KM.o.trans k5).size)).mono ?_;rintro e w6 ⟨rfl,y6⟩;have k6:=k5.trans (y6.mono (λ_ _ f=>f.elim));refine hK.out _ _ (λ_=>k6) ?_;clear hK K
   repeat first|refine bV ?_|refine cF k6 (by intro w1 hS;exact fE) ?_|refine cD k6 ?_
   refine ap (λK hK=>?_);go_simp;go_wp21;refine(eR nb m (max (bW (dL l)) (bW (dL bY))) _ uh.o (by have a:=eO (dL l);have b:=eO (dL bY);omega) (bX (bX (aj.drew BM.o) y5) y6)).mono ?_;rintro e w7 ⟨rfl,b7,k7⟩;refine hK.out _ _ (λ_=>k6.trans k7) ?_;clear hK K;refine fc ?_;have⟨BF,KF,uh,B5⟩:=J4' b7 (KM.o.trans (k6.trans k7)) (eO (m+max (bW (dL l)) (bW (dL bY)))) (show bW (bW (m+max (bW (dL l)) (bW (dL bY))))=bW (iU kind F low high l bY)from by rw [iT (eO _),ZG];exact HSS.o);generalize bW (m+max (bW (dL l)) (bW (dL bY)))=z at BF uh B5 b7⊢;clear b7 k7 k6 k5 kd y5 y6;exact anx
  .skip
   have iz:¬kind=3:=λh=>by have:=HPR.o;rw [h]at this;cases this
   have B5:=J (show bW m=bW (iU kind F low high l bY)from by
    unfold iU;rw [QM.o,af eC,af (show¬(kind=3/\low<=high)from λh=>iz h.1),fC,Hy.o,iT (eO _)])
   have T_:(kind==2)=false:=by simpa using eC
   have he3:(kind==3)=false:=by simpa using iz
   clear eC iz;refine ahV ?_;intro i1 i2 i3 i4 i5;exact aii
def okK:SF->Prop
 | .nil=>True
 | .cons kind _ _ _ _ l x r=>(0<=kind/\kind<=9)/\(kind=2∨kind=3->okK l)/\(kind=2->okK x)/\okK r
theorem Dr {part:Nat}:∀{F:SF} {κ:Kn} {f:Nat} {fT:Bool},cC part κ f fT F=none->okK F
 | .nil,_,_,_,_=>trivial
 | .cons kind s e low high l x r,κ,f,fT,h=>by
  rw [lr,aD]at h;obtain⟨h1,h2⟩:=h;unfold oS at h1;rw [aD,aD,aD,aD,di,fz]at h1;obtain⟨⟨q1,_⟩,-,-,-,q5⟩:=h1;refine⟨by simpa [iX]using q1,λhk=>?_,λhk=>?_,Dr h2⟩
  .rcases hk with hk|hk
   .rw [av hk,aD]at q5
    exact Dr q5.1
   .rw [af ad,av hk]at q5
    exact Dr q5
  .rw [av hk,aD]at q5
   exact Dr q5.2
abbrev aff (F:SF):Prop:=okK F->afe F
theorem nF (F:SF):aff F:=by
 refine qL (C:=aff) ?_ F;clear F;intro F IH hok ex st N A c w hC hE hN;obtain⟨-,hf,b,off,hA,hEF⟩:=hE;have hm:=hf.max ad;obtain⟨W1,ku⟩:=nm' (w.alloc (.cells (JF ex st) 292));have y1:al w W1:=by rw [ku];exact dS w _
 have h4:aj W1 w.heap.size 292 (JF ex st):=by rw [ku];exact bN w _ _
 have⟨HC,HEF,HI,oN,HA,H4,Hw⟩:=J7' (hC.ext y1) (hEF.kept y1 hN (λ_ f=>f.elim)) IH hok hA h4 (show N<=W1.heap.size from ay hN y1.size);obtain⟨len,hlen⟩:=nm' F.len;have yg:=J hlen;rw [<-hlen]at hm hA⊢;obtain⟨T,hT⟩:=nm' (dL F);have HT:=J hT;rw [<-hT];clear hC hEF IH hA h4 hf hlen hT hok;go_enter func202,ntmps202;go_upto_region 1 with(fail);rw [<-ku];have WZ:=J y1.size;generalize zQ:(w:World).heap.size=p4 at H4⊢;have Et:=J zQ;clear ku zQ;refine wp_scope_straight ?_;go_wp21;refine(pB 0 _).mono ?_;rintro e W2 ⟨rfl,b2,y2⟩;generalize oC:(W1:World).heap.size=nb at b2⊢;have mw:=J (show¬p4=nb by have:=H4.o.lt;omega);have sO:=J (show N<=nb/\w.heap.size<=nb from by have a:=Hw.o;have b:=WZ.o;omega);clear oC;have HB:=J b2;have JT:=J (HC.o.ext y2);have⟨pr,fg,H42,aoa,WQ⟩:=J5' (JT.o.ne b2) y2 (bX H4.o y2) (HEF.o.kept y2 Hw.o (λ_ f=>f.elim)) (show N<=W2.heap.size from ay Hw.o y2.size);clear b2 y2;go_wp21
 repeat (first|(refine wp_label ?_;simp only [Exit.then])|go_step)
 go_loopw [11] (λt11 wr=>∃(j:Nat) (R:SF) (m:Nat),j+R.len=len/\t11=.int .i64 j/\mS W2 N R b (off+j*7)/\SF.xO aff R/\okK R/\m<=65537/\bW (m+dL R)=bW T/\aj wr nb 3 #[.int .i64 m]/\Kept (·=nb) W2 wr) (λt11 _=>len - (intOf t11).toNat)
 case atStart=>exact⟨0,F,0,by rw [yg.o,dU],rfl,by simpa using aoa.o,HI.o,oN.o,by omega,by rw [HT.o,dU],HB.o,kR _ _⟩
 case round=>
  obtain⟨j,R,m,hj,rfl,hR,hall,hok,Fm,OB,zD,EA⟩:=hrel;have⟨qd,i',abk,WY,HBM,FK,uh⟩:=J7' hR hall hok OB zD EA Fm;clear hR hall hok OB zD EA Fm
  cases R with
  |nil=>
   simp only [SF.len,fC]at hj;subst hj;go_wp21;refine(eR nb m 0 _ uh.o ad HBM.o).mono ?_;rintro e w9 ⟨rfl,b9,k9⟩;go_wp21;simp only [Exit.noGoto];go_ret;refine⟨congrArg (λz:Nat=>Ending.returned (.int .i64 z)) WY.o,?_⟩;exact(y1.trans fg.o).trans' (FK.o.trans k9) (λi hi e=>by have:=sO.o.2;omega)
  |cons kind s es low high l x r=>
   obtain⟨hbN,-,i2,i3,-,⟨eA,ec,lA,lc,xA,xc,be,oe,bl,ol,bx,ox,hh,hg,n1,n2,n3,a1,a2,a3,he,hl,AX⟩,hr⟩:=qd.o;simp only [SF.len]at hj;have aX:(j:Int)<len:=by omega
   obtain rfl:=HA.o (by have:=yg.o;omega);have oC:¬b=nb:=by have:=sO.o;omega
   have jM:=(jK FK.o (by have:=WQ.o;omega) oC).trans hh;have hg':=(iO FK.o (by have:=WQ.o;omega) oC).trans hg;have ie:b<wr.heap.size:=by have:=WQ.o;have:=FK.o.size;omega
   have⟨KE,KL,KX,sP,rh⟩:=J5' (show lJ W2 N eA es.len es from⟨rfl,n1,be,oe,a1,he⟩) (show jc W2 N lA l.len l from⟨rfl,n2,bl,ol,a2,hl⟩) (show jc W2 N xA x.len x from⟨rfl,n3,bx,ox,a3,AX⟩) hr (df i2 i3);clear hh hg n1 n2 n3 a1 a2 a3 he hl AX hbN hr qd i2 i3;have y3:=dz wr (.cells (au kind s eA es.len ec low high lA l.len lc xA x.len xc) 288);have b3:=bN wr 288 (au kind s eA es.len ec low high lA l.len lc xA x.len xc);have q4:=bK H42.o FK.o mw.o;go_upto_region 5 with(fail);clear jM hg';generalize (wr.alloc (.cells (au kind s eA es.len ec low high lA l.len lc xA x.len xc) 288))=W3 at y3 b3⊢;generalize wr.heap.size=g at b3 ie⊢;have q5:=bX q4 y3;have l1:=bH q5;have l2:=bG q5;have l3:=q5.lt;have l4:=bH b3;have l5:=bG b3;have l6:=b3.lt;have eP:=J y3;clear q4 q5 b3 y3;go_wp21;have hKE:Kept (·=nb) W2 W3:=FK.o.trans (eP.o.mono (λ_ _ f=>f.elim));have hSN:∀i,i=nb->N<=i:=λi e=>by have:=sO.o.1;omega
   refine kU (Ta l x ex st N kind low high (λh=>i'.o.1 (abk.o.2.1 h)) (λh=>i'.o.2.1 (abk.o.2.2.1 h)) abk.o.1 rh.o.1 rh.o.2 s eA ec es lA lc xA xc _ ((JT.o.kept FK.o pr.o.1 pr.o.2).ext eP.o) (KE.o.kept hKE WQ.o hSN) (KL.o.kept hKE WQ.o hSN) (KX.o.kept hKE WQ.o hSN) (ay WQ.o hKE.size)) λw4 y4=>?_;go_wp21;refine(eR nb m (bW (iU kind es low high l x)) _ uh.o (by have:=eO (iU kind es low high l x);omega) (bX (bX HBM.o eP.o) y4)).mono ?_;rintro e w5 ⟨rfl,b5,k5⟩
   have tP:=J (show bW (bW (m+bW (iU kind es low high l x))+dL r)=bW T from by
    rw [<-WY.o,xp,N_,<-gH];unfold bW
    omega)
   have hz6:=eO (m+bW (iU kind es low high l x));generalize bW (m+bW (iU kind es low high l x))=z at b5 tP hz6⊢;have⟨HZ6,tN,vz⟩:=J3' hz6 b5 (hKE.trans ((y4.mono (λ_ _ f=>f.elim)).trans k5));clear b5 k5 y4 l1 l2 l3 l4 l5 l6 hKE hSN
   by_cases hbig:65536<z
   .have hg:decide ((65536:Int)<(z:Int))=true:=cO ad
    have mv:=J hbig;clear hbig hz6;go_wp21;refine(eR nb z 0 _ HZ6.o ad tN.o).mono ?_;rintro e w9 ⟨rfl,b9,k9⟩;go_wp21;simp only [Exit.noGoto];go_ret;refine⟨congrArg (λz:Nat=>Ending.returned (.int .i64 z)) ?_,?_⟩
    .rw [<-tP.o]
     have:=mv.o;unfold bW
     omega
    .exact(y1.trans fg.o).trans' (vz.o.trans k9) (λi hi e=>by have:=sO.o.2;omega)
   .have hg:decide ((65536:Int)<(z:Int))=false:=cU ad
    clear hbig;go_wp21;go_roundw
    case rel=>exact⟨j+1,r,z,by omega,by go_num,by rw [Nat.add_mul,<-gH];exact sP.o,i'.o.2.2,abk.o.2.2.2,hz6,tP.o,tN.o,vz.o⟩
    case measure=>simp only [intOf];omega

