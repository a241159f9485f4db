/- Several texts joined: Dj, Dk, Dl. -/
import Derived.Defers
import Derived.Test.YtbfbabbcdochjaaGreatDoorRmpk
import Derived.Test.YtbfbabbcdochjaaGreatDoorRmav
set_option maxHeartbeats 4000000
set_option maxRecDepth 100000
open Go.Proofs.Tryz
namespace Go.Proofs.YtbfbabbcdochjaaGreatDoor
open Go.RowKit So Mc
theorem iO.kt {w w':World} {B wm N:Nat} {A:Option Addr} {n:Nat} {F:SF} (h:iO w N A n F) (hk:KT B wm w w') (hN:N<=B) (hB:B<=w.heap.size):iO w' N A n F:=
 h.kept hk.below (Nat.le_trans hN hB) (λ_i q=>Nat.le_trans hN q)
abbrev ZG (x:lY) (part:Nat) (F:SF):Prop:=∀(f:Nat) (W:Wd) (κ:Kn) (top:Bool) (A:Option Addr) (cap:Nat) (L:List Ins) (w:World),vM x W->(∀s,κ s=0->W s=0)->f<=8->x.at w f W L->iO w x.N A F.len F->bV part κ f top F=none->F.size<=1099511627776->L.length+(cB x.k F W f L.length).length<=4000->
 Calls prog 85 #[.pointer (some ⟨x.mb,0,none⟩),.slice A F.len cap] w λe w'=>e=.returned (.tuple #[])/\x.at w' f W (L++cB x.k F W f L.length)/\KT x.B x.wm w w'
theorem Gt (F:SF):F.isNil=decide (F.len=0):=by cases F<;>simp [SF.isNil,SF.len]
theorem Ov (x:lY) (part f:Nat) (W:Wd) (hM:vM x W) (κ:Kn) (NC:∀s,κ s=0->W s=0) (f8:f<=8) (low high:Int) (s:Str) (A:Option Addr) (ec:Nat) (F:EF) (lA:Option Addr) (lc:Nat) (l:SF) (xA:Option Addr) (xc:Nat) (els:SF) (L:List Ins) (w:World) (h:x.at w f W L) (hX:Sx w x.N κ 2 s A F low high)
 (hl:iO w x.N lA l.len l) (hx:iO w x.N xA els.len els) (il:ZG x part l) (ix:ZG x part els) (hcl:bV part κ f false l=none) (hcx:bV part κ f false els=none) (zl:l.size<=1099511627776) (zx:els.size<=1099511627776) (hL:L.length+(cS x.k W f L.length 2 s F low high l els).length<=4000):
 Calls prog 130 #[.pointer (some ⟨x.mb,0,none⟩),.agg (aB 2 s A F.len ec low high lA l.len lc xA els.len xc)] w λe w'=>e=.returned (.tuple #[])/\x.at w' f W (L++(cS x.k W f L.length 2 s F low high l els))/\KT x.B x.wm w w':=by
 have hK:=(yu x f W hM κ F).2;have SQ:=J hM;obtain⟨h0,h1,h2,h3⟩:=hM;have hdp:=hX.dp_;have fP:=J (And.intro h.hN h.hB);have HSl:=J hl;have HSx:=J hx;have HIl:=J il;have HIx:=J ix;have HCl:=J (And.intro hcl hcx);have HZ:=J (And.intro zl zx);have NV:=J NC;have hl0:0<F.len:=by rw [hX.len];decide
 refine M_ ?_;intro o0 n0 s0 K0 A0 c0 sM sN Cy FD FC BD Bz Dq Fe;subst Cy;have OJ:(0:Int)<F.len:=by omega
 obtain⟨E,hE⟩:∃E,E=cX x W o0 n0 s0 K0 0:=⟨_,rfl⟩;obtain⟨Lb,hLb⟩:∃Lb,Lb=cB x.k l W f ((L.length:Int)+E.length+1):=⟨_,rfl⟩
 have hcode:cS x.k W f L.length 2 s F low high l els=if els.isNil then FJ x.k L.length E Lb else VT x.k L.length E Lb (cB x.k els W f ((L.length:Int)+E.length+1+Lb.length+1)):=by
  rw [hLb,hE,<-Dq.out]
  rfl
 have HE:=J hE;have HLb:=J hLb;have HCO:=J hcode
 have SK:=J (show L.length+E.length+1+Lb.length<=4000 from by
  rw [hcode]at hL
  split at hL<;>simp only [FJ,VT,List.length_append,List.length_cons,List.length_nil]at hL<;>omega)
 clear hcode hE hLb;have y1:Ext w (w.alloc (.cells (aB 2 s (some ⟨sM,sN,none⟩) F.len ec low high lA l.len lc xA els.len xc) 151)):=(kR _ w).alloc _;have hB0:=bN w 151 (aB 2 s (some ⟨sM,sN,none⟩) F.len ec low high lA l.len lc xA els.len xc);refine yU ?_;intro jM hX1;clear h hX hl hx il ix hcl hcx zl zx NC hK;go_enter func130,ntmps130;go_upto_region 1 with(fail);generalize (w.alloc (.cells (aB 2 s (some ⟨sM,sN,none⟩) F.len ec low high lA l.len lc xA els.len xc) 151))=W1 at y1 hB0 jM hX1⊢;refine QX ?_;clear hB0 jM hX1 hL;intro g HB HX lQ HL Y0 Ny;refine ES ?_;intro q0 i1 i2;obtain⟨_,_,_,m0,_⟩:=(lQ.out).blk;refine Zg ?_;intro m1 m0 FR FT FU;go_wp2_with fail;refine(Bz.out o0 n0 s0 A0 c0 0 (L) _ (lQ.out) (BD.out.kt ((KT.ext y1).trans Y0.out) fP.out.1 fP.out.2) (by have:=SK.out;rw [HE.out]at this;omega)).mono ?_;refine M5 ?_;intro w1 JX eY Hr;clear FR FT FU;have adB:=eY.out;rw [show L++cX x W o0 n0 s0 K0 0=L++E from by rw [HE.out]]at adB;have afV:=J adB;clear adB;go_wp2_with fail;refine(cZ x.B x.N x.mb x.wm x.sm x.em f x.p x.c x.b W (L++E) 0 _ (afV.out) ⟨h0,by omega⟩ ⟨by decide,by decide⟩).mono ?_;rintro e wf ⟨rfl,rfl⟩;go_wp2_with fail;refine(dh x.B x.N x.mb x.wm x.sm x.em f x.p x.c x.b W (L++E) ⟨20,0,fr x.b 0,0⟩ ⟨(aF (n:=20) ak),(aF (n:=0) ak),(eF h0 h1 (i:=0) ak ak),(aF (n:=0) ak)⟩ (by have:=SK.out;simp only [List.length_append];omega) _ (afV.out)).mono ?_;refine VA ?_;intro w2 Ci iF zq;obtain⟨jn,hjn⟩:∃jn,jn=(L++E).length:=⟨_,rfl⟩;rw [<-hjn];have HJ:=J hjn;clear hjn;clear q0 i1 i2 m0 m1;have q0:=KT.block Ci.out HB.out ak ak;have i1:=bC q0;have i2:=q0.lt;obtain⟨_,_,_,m0,_⟩:=(iF.out).blk;have m1:=m0.lt;have m0:=bC m0;go_wp2_with fail;refine(HIl.out f W κ false lA lc (L++E++[⟨20,0,fr x.b 0,0⟩]) _ SQ.out NV.out f8 (iF.out) (HSl.out.kt ((KT.ext y1).trans Ci.out) fP.out.1 fP.out.2) HCl.out.1 HZ.out.1 (by rw [show(((L++E++[⟨20,0,fr x.b 0,0⟩]:List Ins).length:Nat):Int)=(L.length:Int)+E.length+1 from by simp only [List.length_append,List.length_cons,List.length_nil];omega,<-HLb.out];have:=SK.out;simp only [List.length_append,List.length_cons,List.length_nil];omega)).mono ?_;refine MR ?_;intro w3 N9 pY J7;have adH:=pY.out;rw [show L++E++[⟨20,0,fr x.b 0,0⟩]++cB x.k l W f (L++E++[⟨20,0,fr x.b 0,0⟩]:List Ins).length=L++E++[⟨20,0,fr x.b 0,0⟩]++Lb from by rw [show(((L++E++[⟨20,0,fr x.b 0,0⟩]:List Ins).length:Nat):Int)=(L.length:Int)+E.length+1 from by simp only [List.length_append,List.length_cons,List.length_nil];omega,<-HLb.out]]at adH;have adI:=J adH;clear adH;clear q0 i1 i2 m0 m1;have q0:=KT.block N9.out HB.out ak ak;have i1:=bC q0;have i2:=q0.lt;obtain⟨_,_,_,m0,_⟩:=(adI.out).blk;have m1:=m0.lt;have m0:=bC m0
 by_cases hn:els.len=0
 ·skip
  have hnil:((els.len:Int)==0)=true:=by simp [hn]
  have HI0:=J (show els.isNil=true from by rw [Gt];simp [hn]);clear hn;go_wp2_with fail;refine(yD x.B x.N x.mb x.wm x.sm x.em f x.p x.c x.b W (L++E++[⟨20,0,fr x.b 0,0⟩]++Lb) jn afd (by have:=SK.out;simp only [List.length_append,List.length_cons,List.length_nil];omega) _ (adI.out)).mono ?_;rintro e w4 ⟨rfl,Ay,hk4⟩;have YK4:=J ((N9.out).trans hk4);have vL:=J Ay;have aag:=J hk4;clear Ay hk4
  have hgo:om (L++E++[⟨20,0,fr x.b 0,0⟩]++Lb) jn ((L++E++[⟨20,0,fr x.b 0,0⟩]++Lb:List Ins).length:Nat)=L++cS x.k W f L.length 2 s F low high l els:=by
   rw [HCO.out,if_pos HI0.out,HJ.out]
   have hv:(((L++E++[⟨20,0,fr x.b 0,0⟩]++Lb:List Ins).length:Nat):Int)=(L.length:Int)+E.length+1+Lb.length:=by
    simp only [List.length_append,List.length_cons,List.length_nil];omega
   rw [hv,uW (L++E) Lb ⟨20,0,fr x.b 0,0⟩ ((L.length:Int)+E.length+1+Lb.length)];simp only [FJ,List.append_assoc]
  go_wp2_with fail;refine jC results130 rfl ?_;have oN:=vL.out;rw [hgo]at oN;exact⟨rfl,oN,(KT.ext y1).trans YK4.out⟩
 ·skip
  have hnil:((els.len:Int)==0)=false:=by simp [hn]
  have hfl:els.isNil=false:=by rw [Gt];simp [hn]
  obtain⟨Xb,hXb⟩:∃Xb,Xb=cB x.k els W f ((L.length:Int)+E.length+1+Lb.length+1):=⟨_,rfl⟩;have HXb:=J hXb;have afQ:=J (show cS x.k W f L.length 2 s F low high l els=VT x.k L.length E Lb Xb from by rw [HCO.out,hfl,hXb];rfl)
  have HLX:=J (show L.length+E.length+1+Lb.length+1+Xb.length<=4000 from by
   have:=HL.out;rw [afQ.out]at this;simp only [VT,List.length_append,List.length_cons,List.length_nil]at this
   omega)
  clear hn hXb hfl;go_wp2_with fail;refine(dh x.B x.N x.mb x.wm x.sm x.em f x.p x.c x.b W (L++E++[⟨20,0,fr x.b 0,0⟩]++Lb) ⟨19,0,0,0⟩ ⟨(aF (n:=19) ak),(aF (n:=0) ak),(aF (n:=0) ak),(aF (n:=0) ak)⟩ afc _ (adI.out)).mono ?_;rintro e w4 ⟨rfl,Ay,hk4⟩;have YK4:=J ((N9.out).trans hk4);have vL:=J Ay;have aag:=J hk4;clear Ay hk4;obtain⟨dn,hdn⟩:∃dn,dn=(L++E++[⟨20,0,fr x.b 0,0⟩]++Lb:List Ins).length:=⟨_,rfl⟩;rw [<-hdn];have HD:=J hdn;clear hdn;go_wp2_with fail;refine(yD x.B x.N x.mb x.wm x.sm x.em f x.p x.c x.b W (L++E++[⟨20,0,fr x.b 0,0⟩]++Lb++[⟨19,0,0,0⟩]) jn afd afc _ (vL.out)).mono ?_;rintro e w5 ⟨rfl,yZ,hk5⟩;have YK5:=J ((YK4.out).trans hk5);have wD:=J yZ;have akc:=J hk5;clear yZ hk5
  have hg1:om (L++E++[⟨20,0,fr x.b 0,0⟩]++Lb++[⟨19,0,0,0⟩]) jn ((L++E++[⟨20,0,fr x.b 0,0⟩]++Lb++[⟨19,0,0,0⟩]:List Ins).length:Nat)=L++E++[⟨20,(L.length:Int)+E.length+1+Lb.length+1,fr x.b 0,0⟩]++Lb++[⟨19,0,0,0⟩]:=by
   rw [HJ.out]
   have hv:(((L++E++[⟨20,0,fr x.b 0,0⟩]++Lb++[⟨19,0,0,0⟩]:List Ins).length:Nat):Int)=(L.length:Int)+E.length+1+Lb.length+1:=by
    simp only [List.length_append,List.length_cons,List.length_nil];omega
   have:=uW (L++E) (Lb++[⟨19,0,0,0⟩]) ⟨20,0,fr x.b 0,0⟩ ((L.length:Int)+E.length+1+Lb.length+1);rw [hv];simp only [<-List.append_assoc]at this⊢;exact this
  have hmg:=wD.out;rw [hg1]at hmg;have afW:=J hmg;clear hmg hg1;clear q0 i1 i2 m0 m1;have q0:=KT.block YK5.out HB.out ak ak;have i1:=bC q0;have i2:=q0.lt;obtain⟨_,_,_,m0,_⟩:=(afW.out).blk;have m1:=m0.lt;have m0:=bC m0;go_wp2_with fail;refine(HIx.out f W κ false xA xc (L++E++[⟨20,(L.length:Int)+E.length+1+Lb.length+1,fr x.b 0,0⟩]++Lb++[⟨19,0,0,0⟩]) _ SQ.out NV.out f8 (afW.out) (HSx.out.kt ((KT.ext y1).trans YK5.out) fP.out.1 fP.out.2) HCl.out.2 HZ.out.2 (by rw [show(((L++E++[⟨20,(L.length:Int)+E.length+1+Lb.length+1,fr x.b 0,0⟩]++Lb++[⟨19,0,0,0⟩]:List Ins).length:Nat):Int)=(L.length:Int)+E.length+1+Lb.length+1 from by simp only [List.length_append,List.length_cons,List.length_nil];omega,<-HXb.out];have:=HLX.out;simp only [List.length_append,List.length_cons,List.length_nil];omega)).mono ?_;rintro e w6 ⟨rfl,RA,xw⟩;have YK6:=J ((YK5.out).trans xw);have oO:=J RA;have akd:=J xw;clear RA xw;have adJ:=oO.out;rw [show L++E++[⟨20,(L.length:Int)+E.length+1+Lb.length+1,fr x.b 0,0⟩]++Lb++[⟨19,0,0,0⟩]++cB x.k els W f (L++E++[⟨20,(L.length:Int)+E.length+1+Lb.length+1,fr x.b 0,0⟩]++Lb++[⟨19,0,0,0⟩]:List Ins).length=L++E++[⟨20,(L.length:Int)+E.length+1+Lb.length+1,fr x.b 0,0⟩]++Lb++[⟨19,0,0,0⟩]++Xb from by rw [show(((L++E++[⟨20,(L.length:Int)+E.length+1+Lb.length+1,fr x.b 0,0⟩]++Lb++[⟨19,0,0,0⟩]:List Ins).length:Nat):Int)=(L.length:Int)+E.length+1+Lb.length+1 from by simp only [List.length_append,List.length_cons,List.length_nil];omega,<-HXb.out]]at adJ;have akh:=J adJ;clear adJ;go_wp2_with fail;refine(yD x.B x.N x.mb x.wm x.sm x.em f x.p x.c x.b W (L++E++[⟨20,(L.length:Int)+E.length+1+Lb.length+1,fr x.b 0,0⟩]++Lb++[⟨19,0,0,0⟩]++Xb) dn (by rw [HD.out];simp only [List.length_append,List.length_cons,List.length_nil];omega) afc _ (akh.out)).mono ?_;rintro e w7 ⟨rfl,XE,ou⟩;have YK7:=J ((YK6.out).trans ou);have Fw:=J XE;have adz:=J ou;clear XE ou
  have hgo:om (L++E++[⟨20,(L.length:Int)+E.length+1+Lb.length+1,fr x.b 0,0⟩]++Lb++[⟨19,0,0,0⟩]++Xb) dn ((L++E++[⟨20,(L.length:Int)+E.length+1+Lb.length+1,fr x.b 0,0⟩]++Lb++[⟨19,0,0,0⟩]++Xb:List Ins).length:Nat)=L++cS x.k W f L.length 2 s F low high l els:=by
   rw [afQ.out,HD.out]
   have hv:(((L++E++[⟨20,(L.length:Int)+E.length+1+Lb.length+1,fr x.b 0,0⟩]++Lb++[⟨19,0,0,0⟩]++Xb:List Ins).length:Nat):Int)=(L.length:Int)+E.length+1+Lb.length+1+Xb.length:=by
    simp only [List.length_append,List.length_cons,List.length_nil];omega
   have hdl:(L++E++[⟨20,0,fr x.b 0,0⟩]++Lb:List Ins).length=(L++E++[⟨20,(L.length:Int)+E.length+1+Lb.length+1,fr x.b 0,0⟩]++Lb:List Ins).length:=by
    simp only [List.length_append,List.length_cons,List.length_nil]
   have hm:=uW (L++E++([⟨20,(L.length:Int)+E.length+1+Lb.length+1,fr x.b 0,0⟩]:List Ins)++Lb) Xb (⟨19,0,0,0⟩:Ins) ((L.length:Int)+E.length+1+Lb.length+1+Xb.length);rw [hv,hdl];simp only [VT,<-List.append_assoc]at hm⊢;exact hm
  go_wp2_with fail;go_end0;have oN:=Fw.out;rw [hgo]at oN;exact⟨rfl,oN,(KT.ext y1).trans YK7.out⟩
open Go.RowKit So Mc
theorem uo {c:Bool} {A B:Prop} (hc:c=true) (h:A):if c=true then A else B:=by rw [if_pos hc];exact h
theorem QM {P:Program} (w:World) {o:Oper} {a:Act} {K:Act->World->Prop} {Q:Exit->Act->World->Prop} (x y:Operand) (T1 T2:TypeId)
 (ho:o.op=.call {callee:=.builtin .delete,args:=#[x,y],argTypes:=#[T1,T2]}) {v s v':Value} {w':World} (hx:a.eval x=v) (hy:a.eval y=s)
 (hr:(Builtin.delete_ #[T1,T2] o.type #[v,s]).run P w=.ok v' w') (h:K (a.put o.dst v') w'):o.wp P a w K Q:=by
 unfold Oper.wp execOp;simp only [ho,resolve,invoke,builtin,Sem.run_bind,Sem.run_pure,Result.andThen_ok,List.map_toArray,List.map_cons,List.map_nil,hx,hy,hr];exact h
theorem EM {P:Program} (w:World) {o:Oper} {a:Act} {K:Act->World->Prop} {Q:Exit->Act->World->Prop} (T:TypeId) (m k x:Operand)
 (ho:o.op=.mapUpdate T m k x) (_hd:o.dst=none) {vm vk vx:Value} {w':World} (hm:a.eval m=vm) (hk:a.eval k=vk) (hx:a.eval x=vx)
 (hr:(Instr.mapUpdate T vm vk vx).run P w=.ok () w') (h:K (a.put o.dst undef) w'):o.wp P a w K Q:=by
 unfold Oper.wp execOp;simp only [ho,Sem.run_bind,Sem.run_pure,Result.andThen_ok,hm,hk,hx,hr,Oper.upon];exact h
section
variable {w w1:World} {B N mb wm sm em f:Nat} {p:Pr} {c:Pc} {b:Int} {W:Wd} {L:List Ins}
theorem MS.aQ (h:MS w B N mb p c b wm sm em f W L) (f':Nat):MS (w.setCell ⟨mb,14,none⟩ (.int .i64 f')) B N mb p c b wm sm em f' W L/\KT B wm w (w.setCell ⟨mb,14,none⟩ (.int .i64 f')):=by
 obtain⟨A,n,cp,hb,ho⟩:=h.blk;have kS:Kept (·=mb) w (w.setCell ⟨mb,14,none⟩ (.int .i64 f')):=Kept.setCell (kR _ w) _ _ (λ_=>rfl)
 have hmm:∀g es clock,w.heap[g]?=some (.map es clock)->¬g=mb:=λg es clock e q=>by
  subst q;rw [show w.heap[g]?=_ from hb]at e
  cases e
 have kk:KT B wm w (w.setCell ⟨mb,14,none⟩ (.int .i64 f')):=KT.acK hb h.GA kS;refine⟨⟨⟨A,n,cp,by simpa using aH.gW hb 14 (.int .i64 f'),bS ho kS (λg hg q=>by subst q;exact dI ho (E':=160) ak g hg _ _ hb)⟩,h.prog.kept kk.below (Nat.le_trans h.hN h.hB) (λi q=>Nat.le_trans h.hN q),?_,?_,?_,h.hN,Nat.le_trans h.hB kk.size,h.GA,h.wmB,h.okL⟩,kk⟩
 ·obtain⟨F,h3,h4⟩:=h.words
  obtain⟨es,clock,he,r⟩:=h3;exact⟨F,SMap.kept (f:=F) ⟨es,clock,he,r⟩ kS (hmm _ _ _ he),h4⟩
 ·obtain⟨es,clock,he,r⟩:=h.vS
  exact dx.kept (f:=yL) ⟨es,clock,he,r⟩ kS (hmm _ _ _ he)
 ·obtain⟨es,clock,he,r⟩:=h.Ql
  exact dx.kept (f:=gP) ⟨es,clock,he,r⟩ kS (hmm _ _ _ he)
theorem SMap.RV {g g':Nat} {F:ByteArray->Option Value} {G:Int->Option Value} (h:SMap w g F) (h':dx w g' G) {v:Value} (hv:G 0=some v):¬g'=g:=λe=>by
 subst e;obtain⟨es,clock,hb,hk,_⟩:=h;obtain⟨es',clock',hb',_,_,hm⟩:=h';rw [hb]at hb';injection hb' with hb';injection hb' with e1 e2;subst e1;obtain⟨y,hy,hky,_⟩:=(hm 0 v).1 hv;have:=hk y hy;rw [hky]at this;simp [MapKept.IsKey]at this
theorem SMap.zR {g b':Nat} {F:ByteArray->Option Value} {t:TypeId} {cs:Array Value} (h:SMap w g F) (hb:aH w b' t cs):¬b'=g:=λe=>by
 obtain⟨es,clock,hq,_⟩:=h;rw [<-e,show w.heap[b']?=_ from hb]at hq
 cases hq
theorem MS.word (h:MS w B N mb p c b wm sm em f W L) (hk:Kept (·=wm) w w1) {F':ByteArray->Option Value} (hm:SMap w1 wm F') {W':Wd} (hF:∀s,(F' s).getD (.int .i64 0)=.int .i64 (W' s)):
 MS w1 B N mb p c b wm sm em f W' L/\KT B wm w w1:=by
 obtain⟨A,n,cp,hb,ho⟩:=h.blk;obtain⟨F,h3,h4⟩:=h.words;have h3':=h3;obtain⟨es,clock,he,r⟩:=h3';have kk:KT B wm w w1:=KT.of_map he h.wmB hk;refine⟨⟨⟨A,n,cp,bK hb hk (λq=>?_),bS ho hk (λg hg q=>?_)⟩,h.prog.kept kk.below (Nat.le_trans h.hN h.hB) (λi q=>Nat.le_trans h.hN q),⟨F',hm,hF⟩,h.vS.kept hk (h3.RV h.vS (v:=.func (.func 128) #[] #[]) rfl),h.Ql.kept hk (h3.RV h.Ql (v:=.func (.func 138) #[] #[]) rfl),h.hN,Nat.le_trans h.hB kk.size,h.GA,h.wmB,h.okL⟩,kk⟩
 ·subst q
  rw [show w.heap[mb]?=_ from hb]at he
  cases he
 ·subst q
  obtain⟨cur,e'⟩:=oC ho hg;rw [he]at e'
  cases e'
end
theorem Vb (W:Wd) (s:Str) (v:Int) (h:W s=0) (F:ByteArray->Option Value) (hF:∀t,(F t).getD (.int .i64 0)=.int .i64 (gG W s v t)):∀t,((λt=>if t=s then none else F t) t).getD (.int .i64 0)=.int .i64 (W t):=by
 intro t
 by_cases e:t=s
 ·subst e;simp [h]
 ·have:=hF t
  simp only [gG,if_neg e]at this;simp only [if_neg e,this]
theorem CU (W:Wd) (s:Str) (v:Int) (F:ByteArray->Option Value) (hF:∀t,(F t).getD (.int .i64 0)=.int .i64 (W t)):∀t,((λt=>if t=s then some (.int .i64 v)else F t) t).getD (.int .i64 0)=.int .i64 (gG W s v t):=by
 intro t
 by_cases e:t=s
 ·subst e;simp [gG]
 ·have:=hF t
  simp only [gG,if_neg e,this]
theorem QG (x:lY) (f:Nat) (W:Wd) (hf:f<=8) (low high:Int) (s:Str) (h0:W s=0) (v:Int) (ec lc xc:Nat) (A lA xA:Option Addr) (n ln xn:Nat) (mp sp:Nat) (_amm:¬mp=sp) (L:List Ins) (u:FrameMode) (w:World) (h:x.at w (f+1) (gG W s v) L)
 (hm:aH w mp 153 #[.pointer (some ⟨x.mb,0,none⟩)]) (hs:aH w sp 151 (aB 3 s A n ec low high lA ln lc xA xn xc)):
 CallsD prog 166 #[.pointer (some ⟨mp,0,none⟩),.pointer (some ⟨sp,0,none⟩)] u w λe u' w'=>u'=u/\(e=.returned (.tuple #[])/\x.at w' f W L/\KT x.B x.wm w w'):=by
 obtain⟨A1,n1,cp1,hb,-⟩:=h.blk;obtain⟨hM1,hK1⟩:=h.aQ f;obtain⟨w1,hw1⟩:∃w1,w1=w.setCell ⟨x.mb,14,none⟩ (.int .i64 f):=⟨_,rfl⟩;have HW1:=J hw1;have m1:=bC hb;have m2:=hb.lt;have m3:=aH.frozen hb;have i1:=bC hm;have i2:=hm.lt;have Hm:=J hm;have Hs:=J hs;have eY:=J hM1;have Nv:=J hK1
 have hfw:IntKind.i64.wrap (((f+1:Nat):Int) - 1)=f:=by
  rw [show((f+1:Nat):Int) - 1=f by omega];exact wrap_i64 jP
 clear h hb hM1 hK1 hw1 hm hs
 go_enter_d func166,ntmps166
 go_upto_region 1 with(fail);rw [<-HW1.out]at eY Nv⊢;have km:aH w1 mp 153 #[.pointer (some ⟨x.mb,0,none⟩)]:=Nv.out.block Hm.out ak ak;have ks:aH w1 sp 151 (aB 3 s A n ec low high lA ln lc xA xn xc):=Nv.out.block Hs.out ak ak;obtain⟨A2,n2,cp2,hb2,-⟩:=eY.out.blk;obtain⟨F,hF,hFW⟩:=eY.out.words;obtain⟨w2,hrun,hF2,hk2⟩:=SMap.del (P:=prog) (hF.ext (kR (λ_=>False) w1).drew) underlying154 underlying9 0 s;obtain⟨hM2,hK2⟩:=(eY.out.ext (kR (λ_=>False) w1).drew).word hk2 hF2 (Vb W s v h0 F hFW);have iF:=J hM2;have sQ:=J ((KT.ext (B:=x.B) (wm:=x.wm) (kR (λ_=>False) w1).drew).trans hK2);have H2:=J hk2;clear m1 m2 m3 i1 i2 hM2 hK2 hF2 hk2;have Km:=J km;have Ks:=J ks;have B2:=J hb2;have e1:=J (hF.zR km);have e2:=J (hF.zR ks);have e3:=J (hF.zR hb2);clear km ks hb2 hF hFW;refine gM (λwz=>Kept (·=x.wm) w1 wz) [(0,1),(1,2),(2,2),(3,1),(4,2),(5,1),(6,0)] ?_;refine gN ?_
 (repeat first|refine cu ?_|refine dL (Kept.drew (kR _ _)) (by intro w1 hS;have d1:=bC (bK Km.out hS e1.out);have d2:=(bK Km.out hS e1.out).lt;have d3:=bC (bK Ks.out hS e2.out);have d4:=(bK Ks.out hS e2.out).lt;have d5:=bC (bK B2.out hS e3.out);have d6:=(bK B2.out hS e3.out).lt;exact gX) ?_|refine dK (Kept.drew (kR _ _)) ?_)
 refine aC (λK hK=>?_);refine uo rfl ?_;refine QM _ _ _ _ _ rfl rfl rfl hrun ?_;refine hK.out _ _ (λ_=>(Kept.drew (kR _ _)).trans H2.out) ?_;clear hK K hrun;refine gI ?_;go_wp2_with fail;go_end0;exact⟨rfl,iF.out,Nv.out.trans sQ.out⟩
open Go.RowKit So Mc
theorem Un (x:lY) (part f:Nat) (W:Wd) (hM:vM x W) (κ:Kn) (NC:∀s,κ s=0->W s=0) (f8:f<8) (low high:Int) (s:Str) (A:Option Addr) (n ec:Nat) (lA:Option Addr) (lc:Nat) (l:SF) (xA:Option Addr) (xn xc:Nat) (L:List Ins) (w:World) (h:x.at w f W L)
 (hk:κ s=0) (hlo:-2147483648<=low/\low<=2147483647) (hhi:-2147483648<=high/\high<=2147483647) (hl:iO w x.N lA l.len l) (il:ZG x part l) (hc:bV part (upd κ s 3) (f+1) false l=none) (zl:l.size<=1099511627776) (e:EF) (els:SF) (hL:L.length+(cS x.k W f L.length 3 s e low high l els).length<=4000):
 Calls prog 131 #[.pointer (some ⟨x.mb,0,none⟩),.agg (aB 3 s A n ec low high lA l.len lc xA xn xc)] w λz w'=>z=.returned (.tuple #[])/\x.at w' f W (L++cS x.k W f L.length 3 s e low high l els)/\KT x.B x.wm w w':=by
 have hW0:=NC s hk;obtain⟨up,hup⟩:∃up,up=oV x.k f:=⟨_,rfl⟩;obtain⟨Bc,hBc⟩:∃Bc,Bc=cB x.k l (gG W s up) (f+1) ((L.length:Int)+3):=⟨_,rfl⟩;have ahl:up=x.b+17+2*f:=by rw [hup];rfl
 have hcode:cS x.k W f L.length 3 s e low high l els=if high<low then []else BI x.k f L.length low high Bc:=by rw [hBc,hup];rfl
 rw [hcode]at hL⊢;obtain⟨CD,hCD⟩:∃CD,CD=if high<low then []else BI x.k f L.length low high Bc:=⟨_,rfl⟩;have HCD:=J hCD;have HBc:=J hBc;have HUP:=J hup;obtain⟨h0,h1,h2,h3⟩:=hM;have hMW:vM x (gG W s up):=⟨h0,h1,λt=>by unfold gG;split;omega;exact h2 t,λt=>by unfold gG;split;omega;exact h3 t⟩
 have hWW:∀t,upd κ s 3 t=0->gG W s up t=0:=λt ht=>by
  unfold upd at ht;unfold gG
  split at ht
  ·exact absurd ht ak
  ·rename_i hne
   rw [if_neg hne];exact NC t ht
 have HMW:=J hMW;have HWW:=J hWW;have HC:=J hc;have HZ:=J zl;have HIl:=J il;have HSl:=J hl;have fP:=J (And.intro h.hN h.hB);refine abX ?_;intro oN;have hw16:=wrap_i64 (n:=x.b+16) jP;have amw:=wrap_i64 (n:=x.b+17) jP;have hw2:=wrap_i64 (n:=2*(f:Int)) jP;have hwu:IntKind.i64.wrap (x.b+17+2*(f:Int))=up:=by rw [ahl];exact wrap_i64 jP
 have hwl:=wrap_i64 (n:=up+1) jP;have hwf:=wrap_i64 (n:=(f:Int)+1) jP;have hwd:=wrap_i64 (n:=high - low) jP;have hwe:=wrap_i64 (n:=high - low+1) jP;have iup:aL up:=by unfold aL;omega
 have aaM:aL (up+1):=by unfold aL;omega
 have ion:aL (x.b+16):=by unfold aL;omega
 have ilo:aL low:=by unfold aL;omega
 have ird:aL (high - low+1):=by unfold aL;omega
 have hl6:high<low∨L.length+6+Bc.length<=4000:=by
  by_cases q:high<low
  ·exact .inl q
  ·rw [if_neg q]at hL
   simp only [BI,List.length_append,List.length_cons,List.length_nil]at hL;exact .inr aj
 rw [<-hCD];clear hup ahl hBc hcode hMW hWW hc zl il hl NC hL hCD
 go_enter_defers func131,ntmps131
 go_upto_region 1 with(fail);obtain⟨p4,uY⟩:∃p4,p4=w.heap.size:=⟨_,rfl⟩;obtain⟨W1,hW1⟩:∃W1,W1=(w.alloc (.cells #[.pointer (some ⟨x.mb,0,none⟩)] 153)).alloc (.cells (aB 3 s A n ec low high lA l.len lc xA xn xc) 151):=⟨_,rfl⟩;have y1:Ext w W1:=by rw [hW1];exact((kR _ w).alloc _).alloc _
 have h4:aH W1 p4 153 #[.pointer (some ⟨x.mb,0,none⟩)]:=by rw [hW1,uY];exact(bN w _ _).alloc _
 have h7:aH W1 (p4+1) 151 (aB 3 s A n ec low high lA l.len lc xA xn xc):=by
  rw [hW1,uY];exact aH.new' _ _ _ _ aG
 rw [<-hW1,<-uY];have XG:(w.alloc (.cells #[.pointer (some ⟨x.mb,0,none⟩)] 153)).heap.size=p4+1:=by rw [uY];simp
 clear hW1 uY
 try rw [XG]
 clear XG;have H4:=J h4;have H7:=J h7;have lQ:=J (h.ext y1);have Y0:=J (KT.refl x.B x.wm W1);have i1:=bC h4;have i2:=h4.lt;have j1:=bC h7;have j2:=h7.lt;clear h h4 h7
 by_cases hlt:high<low
 ·have hg:decide (high<low)=true:=decide_eq_true hlt
  go_wp2_with fail;refine⟨_,results_none rfl _ _ _,rfl,?_,KT.ext y1⟩;rw [HCD.out,if_pos hlt,List.append_nil];exact lQ.out
 have hg:decide (high<low)=false:=decide_eq_false hlt;have kK:=J (show CD=BI x.k f L.length low high Bc from by rw [HCD.out,if_neg hlt]);have SK:=J (hl6.resolve_left hlt);clear hl6 hlt;obtain⟨_,_,_,m0,_⟩:=(lQ.out).blk;have m1:=m0.lt;have m2:=aH.frozen m0;have HB0:=J m0;have m0:=bC m0;go_upto_region 3 with(fail);clear i1 i2 j1 j2 m0 m1 m2;refine gM (λwz=>Kept (λ_=>False) W1 wz) [(0,1),(1,2),(2,2),(3,1),(4,2),(5,1),(6,2),(7,2),(8,1),(9,2),(10,2),(11,2)] ?_;refine gN ?_
 (repeat first|refine cu ?_|refine dL (Kept.drew (kR _ _)) (by intro w1 hS;have d1:=bC (bX H4.out hS);have d2:=(bX H4.out hS).lt;have d5:=bC (bX HB0.out hS);have d6:=(bX HB0.out hS).lt;exact gX) ?_|refine dK (Kept.drew (kR _ _)) ?_)
 refine gI ?_;have yd:=(kR (λ_=>False) W1).drew;have eY:=J (lQ.out.ext yd);have Y1:=J (KT.ext (B:=x.B) (wm:=x.wm) yd);clear yd HB0;have q4:=KT.block Y1.out H4.out ak ak;have i1:=bC q4;have i2:=q4.lt;have q7:=KT.block Y1.out H7.out ak ak;have j1:=bC q7;have j2:=q7.lt;obtain⟨aq,nq,cq,m0,mo⟩:=(eY.out).blk;have hnq:=(eY.out).len mo;have m1:=m0.lt;have m2:=aH.frozen m0;have m0:=bC m0;clear q4 q7 mo;clear hnq;obtain⟨w2,hw2⟩:∃w2,w2=(W1.setCell ⟨x.mb,14,none⟩ (.int .i64 ((f:Int)+1))).drew:=⟨_,rfl⟩;obtain⟨hM2,hK2⟩:MS w2 x.B x.N x.mb x.p x.c x.b x.wm x.sm x.em (f+1) W L/\KT x.B x.wm W1.drew w2:=by rw [hw2];exact eY.out.aQ (f+1)
 have iF:=J hM2;have Y2:=J (Y1.out.trans hK2);have HW2:=J hw2;clear hM2 hK2 hw2;go_upto_region 6 with(fail);rw [<-HW2.out];clear i1 i2 j1 j2 m0 m1 m2;obtain⟨F,hF,hFW⟩:=iF.out.words;obtain⟨w3,hrun,hF3,hk3⟩:=SMap.put (P:=prog) (hF.ext (kR (λ_=>False) w2).drew) underlying154 underlying9 s (.int .i64 up);obtain⟨Aq,hK3⟩:=(iF.out.ext (kR (λ_=>False) w2).drew).word hk3 hF3 (CU W s up F hFW);have pY:=J Aq;have Y3:=J (Y2.out.trans ((KT.ext (B:=x.B) (wm:=x.wm) (kR (λ_=>False) w2).drew).trans hK3));have K3:=J hk3;have B4:=J (KT.block Y2.out H4.out ak ak);have B7:=J (KT.block Y2.out H7.out ak ak);obtain⟨_,_,_,m0,_⟩:=(iF.out).blk;have B2:=J m0;have e1:=J (hF.zR B4.out);have e2:=J (hF.zR B7.out);have e3:=J (hF.zR m0);clear Aq hK3 hk3 hF3 hFW hF m0;refine gM (λwz=>Kept (·=x.wm) w2 wz) [(0,1),(1,2),(2,2),(3,1),(4,2),(5,1),(6,2),(7,0)] ?_;refine gN ?_
 (repeat first|refine cu ?_|refine dL (Kept.drew (kR _ _)) (by intro w1 hS;have d1:=bC (bK B4.out hS e1.out);have d2:=(bK B4.out hS e1.out).lt;have d3:=bC (bK B7.out hS e2.out);have d4:=(bK B7.out hS e2.out).lt;have d5:=bC (bK B2.out hS e3.out);have d6:=(bK B2.out hS e3.out).lt;exact gX) ?_|refine dK (Kept.drew (kR _ _)) ?_)
 refine aC (λK hK=>?_);refine uo rfl ?_;refine EM _ _ _ _ _ rfl rfl rfl rfl rfl hrun ?_;refine hK.out _ _ (λ_=>(Kept.drew (kR _ _)).trans K3.out) ?_;clear hK K hrun;refine gI ?_;clear B4 B7 B2 e1 e2 e3 K3;have q4:=KT.block Y3.out H4.out ak ak;have i1:=bC q4;have i2:=q4.lt;have q7:=KT.block Y3.out H7.out ak ak;have j1:=bC q7;have j2:=q7.lt;obtain⟨aq,nq,cq,m0,mo⟩:=(pY.out).blk;have hnq:=(pY.out).len mo;have m1:=m0.lt;have m2:=aH.frozen m0;have m0:=bC m0;clear q4 q7 mo;clear hnq;go_wp2_with fail;refine(dh x.B x.N x.mb x.wm x.sm x.em (f+1) x.p x.c x.b (gG W s up) (L) ⟨1,x.b+16,1,0⟩ ⟨(aF (n:=1) ak),ion,(aF (n:=1) ak),(aF (n:=0) ak)⟩ Vg _ (pY.out)).mono ?_;rintro e w11 ⟨rfl,agX,agJ⟩;have adC:=J agX;have Y11:=J (Y3.out.trans agJ);clear agX agJ;clear i1 i2 j1 j2 m0 m1 m2;have q4:=KT.block Y11.out H4.out ak ak;have i1:=bC q4;have i2:=q4.lt;have q7:=KT.block Y11.out H7.out ak ak;have j1:=bC q7;have j2:=q7.lt;obtain⟨aq,nq,cq,m0,mo⟩:=(adC.out).blk;have hnq:=(adC.out).len mo;have m1:=m0.lt;have m2:=aH.frozen m0;have m0:=bC m0;clear q4 q7 mo;clear hnq;go_wp2_with fail;refine(dh x.B x.N x.mb x.wm x.sm x.em (f+1) x.p x.c x.b (gG W s up) (L++[⟨1,x.b+16,1,0⟩]) ⟨1,up,low,0⟩ ⟨(aF (n:=1) ak),iup,ilo,(aF (n:=0) ak)⟩ Vg _ (adC.out)).mono ?_;rintro e w12 ⟨rfl,XD,XA⟩;have SL:=J XD;have Y12:=J (Y11.out.trans XA);clear XD XA;clear i1 i2 j1 j2 m0 m1 m2;have q4:=KT.block Y12.out H4.out ak ak;have i1:=bC q4;have i2:=q4.lt;have q7:=KT.block Y12.out H7.out ak ak;have j1:=bC q7;have j2:=q7.lt;obtain⟨aq,nq,cq,m0,mo⟩:=(SL.out).blk;have hnq:=(SL.out).len mo;have m1:=m0.lt;have m2:=aH.frozen m0;have m0:=bC m0;clear q4 q7 mo;clear hnq;go_wp2_with fail;refine(dh x.B x.N x.mb x.wm x.sm x.em (f+1) x.p x.c x.b (gG W s up) (L++[⟨1,x.b+16,1,0⟩]++[⟨1,up,low,0⟩]) ⟨1,up+1,high - low+1,0⟩ ⟨(aF (n:=1) ak),aaM,ird,(aF (n:=0) ak)⟩ Vg _ (SL.out)).mono ?_;rintro e w13 ⟨rfl,agY,agK⟩;have adD:=J agY;have Y13:=J (Y12.out.trans agK);clear agY agK;clear i1 i2 j1 j2 m0 m1 m2;have q4:=KT.block Y13.out H4.out ak ak;have i1:=bC q4;have i2:=q4.lt;have q7:=KT.block Y13.out H7.out ak ak;have j1:=bC q7;have j2:=q7.lt;obtain⟨aq,nq,cq,m0,mo⟩:=(adD.out).blk;have hnq:=(adD.out).len mo;have m1:=m0.lt;have m2:=aH.frozen m0;have m0:=bC m0;clear q4 q7 mo;obtain⟨bg,hbg⟩:∃bg,bg=(L++[⟨1,x.b+16,1,0⟩]++[⟨1,up,low,0⟩]++[⟨1,up+1,high - low+1,0⟩]:List Ins).length:=⟨_,rfl⟩;rw [<-hbg]at hnq;have alf:=hnq.symm;clear hnq;subst alf;have kY:=J hbg;clear hbg
 -- S1
 go_wp2_with fail
 -- S2
 have hat:(((L++[⟨1,x.b+16,1,0⟩]++[⟨1,up,low,0⟩]++[⟨1,up+1,high - low+1,0⟩]:List Ins).length:Nat):Int)=(L.length:Int)+3:=by simp only [List.length_append,List.length_cons,List.length_nil];omega
 refine(HIl.out (f+1) (gG W s up) (upd κ s 3) false lA lc (L++[⟨1,x.b+16,1,0⟩]++[⟨1,up,low,0⟩]++[⟨1,up+1,high - low+1,0⟩]) _ HMW.out HWW.out aj (adD.out) (HSl.out.kt ((KT.ext y1).trans Y13.out) fP.out.1 fP.out.2) HC.out HZ.out (by rw [hat,<-HBc.out];have:=SK.out;simp only [List.length_append,List.length_cons,List.length_nil];omega)).mono ?_;rintro e w20 ⟨rfl,aes,agM⟩;rw [hat,<-HBc.out]at aes;have adE:=J aes;have Y20:=J (Y13.out.trans agM);clear aes agM hat;clear i1 i2 j1 j2 m0 m1 m2;have q4:=KT.block Y20.out H4.out ak ak;have i1:=bC q4;have i2:=q4.lt;have q7:=KT.block Y20.out H7.out ak ak;have j1:=bC q7;have j2:=q7.lt;obtain⟨aq,nq,cq,m0,mo⟩:=(adE.out).blk;have hnq:=(adE.out).len mo;have m1:=m0.lt;have m2:=aH.frozen m0;have m0:=bC m0;clear q4 q7 mo;clear hnq;go_wp2_with fail;refine(dh x.B x.N x.mb x.wm x.sm x.em (f+1) x.p x.c x.b (gG W s up) (L++[⟨1,x.b+16,1,0⟩]++[⟨1,up,low,0⟩]++[⟨1,up+1,high - low+1,0⟩]++Bc) ⟨3,up,up,x.b+16⟩ ⟨(aF (n:=3) ak),iup,iup,ion⟩ Vg _ (adE.out)).mono ?_;rintro e w21 ⟨rfl,aha,agN⟩;have adF:=J aha;have Y21:=J (Y20.out.trans agN);clear aha agN;clear i1 i2 j1 j2 m0 m1 m2;have q4:=KT.block Y21.out H4.out ak ak;have i1:=bC q4;have i2:=q4.lt;have q7:=KT.block Y21.out H7.out ak ak;have j1:=bC q7;have j2:=q7.lt;obtain⟨aq,nq,cq,m0,mo⟩:=(adF.out).blk;have hnq:=(adF.out).len mo;have m1:=m0.lt;have m2:=aH.frozen m0;have m0:=bC m0;clear q4 q7 mo;clear hnq;go_wp2_with fail;refine(dh x.B x.N x.mb x.wm x.sm x.em (f+1) x.p x.c x.b (gG W s up) (L++[⟨1,x.b+16,1,0⟩]++[⟨1,up,low,0⟩]++[⟨1,up+1,high - low+1,0⟩]++Bc++[⟨3,up,up,x.b+16⟩]) ⟨4,up+1,up+1,x.b+16⟩ ⟨(aF (n:=4) ak),aaM,aaM,ion⟩ Vg _ (adF.out)).mono ?_;rintro e w22 ⟨rfl,ahb,agO⟩;have adG:=J ahb;have Y22:=J (Y21.out.trans agO);clear ahb agO;clear i1 i2 j1 j2 m0 m1 m2;have q4:=KT.block Y22.out H4.out ak ak;have i1:=bC q4;have i2:=q4.lt;have q7:=KT.block Y22.out H7.out ak ak;have j1:=bC q7;have j2:=q7.lt;obtain⟨aq,nq,cq,m0,mo⟩:=(adG.out).blk;have hnq:=(adG.out).len mo;have m1:=m0.lt;have m2:=aH.frozen m0;have m0:=bC m0;clear q4 q7 mo;clear hnq;go_wp2_with fail;refine(dh x.B x.N x.mb x.wm x.sm x.em (f+1) x.p x.c x.b (gG W s up) (L++[⟨1,x.b+16,1,0⟩]++[⟨1,up,low,0⟩]++[⟨1,up+1,high - low+1,0⟩]++Bc++[⟨3,up,up,x.b+16⟩]++[⟨4,up+1,up+1,x.b+16⟩]) ⟨21,bg,up+1,0⟩ ⟨(aF (n:=21) ak),(by have:=SK.out;have e:=kY.out;simp only [List.length_append,List.length_cons,List.length_nil]at e;show aL (bg:Int);unfold aL;omega),aaM,(aF (n:=0) ak)⟩ Vg _ (adG.out)).mono ?_;rintro e w23 ⟨rfl,ahc,agP⟩;have akg:=J ahc;have Y23:=J (Y22.out.trans agP);clear ahc agP;clear i1 i2 j1 j2 m0 m1 m2;have q4:=KT.block Y23.out H4.out ak ak;have q7:=KT.block Y23.out H7.out ak ak;have Q4:=J q4;have Q7:=J q7;clear q4 q7
 -- S3
 go_wp2_with fail
 -- S4
 refine leaves_cons (f:=166) (args:=#[.pointer (some ⟨p4,0,none⟩),.pointer (some ⟨p4+1,0,none⟩)]) aG (by simp [go_sem]) ?_;refine(QG x f W aj low high s hW0 up ec lc xc A lA xA n l.len xn p4 (p4+1) aj (L++[⟨1,x.b+16,1,0⟩]++[⟨1,up,low,0⟩]++[⟨1,up+1,high - low+1,0⟩]++Bc++[⟨3,up,up,x.b+16⟩]++[⟨4,up+1,up+1,x.b+16⟩]++[⟨21,bg,up+1,0⟩]) .returning _ (akg.out) Q4.out Q7.out).mono ?_
 -- S5
 rintro e u' w30 ⟨rfl,rfl,oN,hkf⟩;refine⟨_,results_none rfl _ _ _,rfl,?_,(KT.ext y1).trans (Y23.out.trans hkf)⟩
 have hbg:(bg:Int)=(L.length:Int)+3:=by
  have e:=kY.out;simp only [List.length_append,List.length_cons,List.length_nil]at e
  omega
 rw [hbg]at oN;rw [HUP.out]at oN;rw [kK.out];unfold BI;simp only [List.append_assoc,List.cons_append,List.nil_append]at oN⊢;exact oN
end Go.Proofs.YtbfbabbcdochjaaGreatDoor
