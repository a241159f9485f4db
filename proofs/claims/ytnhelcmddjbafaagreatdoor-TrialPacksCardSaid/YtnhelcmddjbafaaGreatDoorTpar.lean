import Derived.Test.YtnhelcmddjbafaaGreatDoorTpaq
set_option maxHeartbeats 4000000
set_option maxRecDepth 100000
open Go.Proofs.Tryz
namespace Go.Proofs.YtnhelcmddjbafaaGreatDoor
open Go.RowKit
namespace Mc
variable{dst:Option Tmp}{pos:String}{after:Array Edge}{guard:Option (Nat×Bool)}{dJ rb sb:Nat}{W:World}{T:Nat->Prop}{rest:List Int}
def YZ (l:List Int) (most:Int):Int:=if eC l=0 then(if most<gM l then 2 else 0)else eC l
def nmS (l:List Int) (most:Int):Nat:=if YZ l most=0 then iw l else 0
def nmV (l:List Int) (most:Int):Int:=if YZ l most=0 then gM l else 0
theorem R_ (A:Option Addr) (b off cap:Nat) (l:List Int) (n:Nat) (hn:n=l.length) (h2:n<=100000) (hok:bI l) (hA:0<n->A=some ⟨b,off,none⟩) (mb ob:Nat) (most:Int) (w:World) (hr:0<n->Row w b off (cu l)) (hm:ai w mb 27 #[.int .u64 most]) (ho:ai w ob 27 #[.int .u64 0]):
 Calls prog 130 #[.slice A n cap,.pointer (some ⟨mb,0,none⟩),.pointer (some ⟨ob,0,none⟩)] w λe w'=>e=.returned (.tuple #[.int .i64 (nmS l most),.int .i64 (YZ l most)])/\ai w' ob 27 #[.int .u64 (nmV l most)]/\Kept (·=ob) w w':=by
 obtain⟨E,hE⟩:=nm' (eC l);obtain⟨V,hV⟩:=nm' (gM l);obtain⟨S,hS⟩:=nm' (iw l);obtain⟨E',hE'⟩:=nm' (YZ l most);obtain⟨V',hV'⟩:=nm' (nmV l most);obtain⟨S',qW⟩:=nm' (nmS l most);have⟨HE,HV,HS⟩:=J3' (show E'=if E=0 then(if most<V then 2 else 0)else E by rw [hE',hE,hV];rfl) (show V'=if E'=0 then V else 0 by rw [hE',hV',hV];rfl) (show S'=if E'=0 then S else 0 by rw [hE',qW,hS];rfl);have su:=Wo A b off cap l n hn h2 hok hA w hr;rw [<-hE,<-hV,<-hS]at su;rw [<-hE',<-hV',<-qW];have HLK:=J su;clear hE hV hS hE' hV' qW su hr hn h2 hok hA;have cM:=bC hm;have lM:=hm.lt;have cO:=bC ho;have fO:=ai.frozen ho;have lO:=ho.lt;go_enter func130,ntmps130;go_wp21;refine HLK.o.mono ?_;rintro e w1 ⟨rfl,rfl⟩
 by_cases h1:E=0
 .subst h1
  by_cases h2:most<V
  .have e1:E'=2:=by rw [HE.o,ak rfl,ak h2]
   have e2:V'=0:=by rw [HV.o,e1];rfl
   have e3:S'=0:=by rw [HS.o,e1];rfl
   have⟨G1,G2,G3⟩:=J3' e1 e2 e3;clear e1 e2 e3;go_wp21
   go_ret2
   rw [G1.o,G2.o,G3.o];exact⟨rfl,ho,kR _ _⟩
  .have e1:E'=0:=by rw [HE.o,ak rfl,af h2]
   have e2:V'=V:=by rw [HV.o,e1];rfl
   have e3:S'=S:=by rw [HS.o,e1];rfl
   have⟨G1,G2,G3⟩:=J3' e1 e2 e3;clear e1 e2 e3;go_wp21
   go_ret2
   rw [G1.o,G2.o,G3.o];exact⟨rfl,ai.eK ho 0 (.int .u64 V),(kR _ _).setCell _ _ (λ_=>rfl)⟩
 .have hJ:(E==0)=false:=by simp [h1]
  have jo:(E !=0)=true:=by unfold bne;rw [hJ];rfl
  have e1:E'=E:=by rw [HE.o,af h1]
  have e2:V'=0:=by rw [HV.o,e1,af h1]
  have e3:S'=0:=by rw [HS.o,e1,af h1]
  have⟨G1,G2,G3⟩:=J3' e1 e2 e3;clear e1 e2 e3;go_wp21
  go_ret2
  rw [G1.o,G2.o,G3.o];exact⟨rfl,ho,kR _ _⟩
theorem aiS {l:List Int} {most:Int} {at_:Nat}:oO l most at_ 0=YZ (l.drop at_) most/\pw l most at_ 0=at_+nmS (l.drop at_) most/\oU l most at_ 0=nmV (l.drop at_) most:=by
 have e:oO l most at_ 0=YZ (l.drop at_) most:=by unfold oO YZ;rw [ak rfl]
 refine⟨e,?_,?_⟩
 .unfold pw nmS
  rw [e]
  by_cases h:YZ (l.drop at_) most=0
  .rw [ak ⟨rfl,h⟩,ak h]
  .rw [af (λq=>h q.2),af h];rfl
 .unfold oU nmV
  rw [e]
  by_cases h:YZ (l.drop at_) most=0
  .rw [ak ⟨rfl,h⟩,ak h]
  .rw [af (λq=>h q.2),af h]
theorem WY {l:List Int} {most:Int} {at_:Nat} {err:Int} (h:¬err=0):oO l most at_ err=err/\pw l most at_ err=at_/\oU l most at_ err=0:=by
 refine⟨?_,?_,?_⟩
 .unfold oO;rw [af h]
 .unfold pw;rw [af (λq=>h q.1)]
 .unfold oU;rw [af (λq=>h q.1)]
theorem R0 (A:Option Addr) (n cap:Nat) (l:List Int) (at_:Nat) (err most:Int) (N:Nat) (rb mb ob:Nat) (w:World) (hN:N<=rb) (Bu:N<=ob) (hro:¬rb=ob) (h:Ic w N A n cap l) (l7:at_<=n) (hr:ai w rb 211 (pz A n cap at_ err)) (hm:ai w mb 27 #[.int .u64 most]) (ho:ai w ob 27 #[.int .u64 0]):
 Calls prog 129 #[.pointer (some ⟨rb,0,none⟩),.func (.func 130) #[] #[.pointer (some ⟨mb,0,none⟩),.pointer (some ⟨ob,0,none⟩)]] w λe w'=>e=.returned (.tuple #[])/\ai w' rb 211 (pz A n cap (pw l most at_ err) (oO l most at_ err))/\ai w' ob 27 #[.int .u64 (oU l most at_ err)]/\Kept (λi=>i=rb∨i=ob) w w':=by
 have⟨HR,HS,HM,HO,HN⟩:=J5' hr h hm ho (show N<=rb/\N<=ob/\¬rb=ob from⟨hN,Bu,hro⟩);clear hr h hm ho hN Bu hro;have cR:=bC HR.o;have fR:=ai.frozen HR.o;have lR:=HR.o.lt
 by_cases he:err=0
 .subst he
  obtain⟨Pf,Vu,Vv⟩:=aiS (l:=l) (most:=most) (at_:=at_);have HD:=J (show _/\_/\_ from⟨Pf,Vu,Vv⟩);clear Pf Vu Vv;have aej:at_<=cap:=ax l7 HS.o.2.1;obtain⟨hn,rB,zG,hok,b,off,hA,Vh⟩:=HS.o;have⟨Yw,HDL,HA,mv,lm,HMX,uA⟩:=J7' rB (show n - at_=(l.drop at_).length by rw [AE,hn]) hA Vh hok zG hn;clear hA Vh hok zG hn rB;have aml:(at_:Int)<=n:=by omega
  go_enter func129,ntmps129
  by_cases hq:at_=cap
  .subst hq
   exact ajZ
  .have q1:¬cap=at_:=λe=>hq e.symm
   have q2:¬cap - at_=0:=by omega
   have q3:at_<cap:=by omega
   have q4:¬cap<=at_:=by omega
   exact ajZ
 .have hb:(err==0)=false:=by simp [he]
  have ME:(err !=0)=true:=by unfold bne;rw [hb];rfl
  obtain⟨Pf,Vu,Vv⟩:=WY (l:=l) (most:=most) (at_:=at_) he;have HD:=J (show _/\_/\_ from⟨Pf,Vu,Vv⟩);clear Pf Vu Vv he;go_enter func129,ntmps129;go_wp21
  (try simp only [Exit.inBlock,Exit.then])
  refine bodyPost_ret (results_none rfl _ _ _) rfl ?_;rw [HD.o.1,HD.o.2.1,HD.o.2.2];exact⟨rfl,HR.o,HO.o,kR _ _⟩
theorem vG (A:Option Addr) (n cap:Nat) (l:List Int) (at_:Nat) (err most:Int) (N:Nat) (rb:Nat) (w:World) (hN:N<=rb) (h:Ic w N A n cap l) (l7:at_<=n) (hr:ai w rb 211 (pz A n cap at_ err)):
 Calls prog 87 #[.pointer (some ⟨rb,0,none⟩),.int .u64 most] w λe w'=>e=.returned (.int .u64 (oU l most at_ err))/\ai w' rb 211 (pz A n cap (pw l most at_ err) (oO l most at_ err))/\Kept (·=rb) w w':=by
 have⟨HN,HS,HR⟩:=J3' hN h hr;clear hN h hr;have lR:=HR.o.lt;have hnw:=HN.o;go_enter func87,ntmps87;go_wp21;refine(R0 A n cap l at_ err most N rb w.heap.size (w.heap.size+1) _ hnw ad ad (HS.o.ext ((dM w _).alloc _)) l7 (ai.alloc (ai.alloc HR.o _) _) (ai.alloc (bN w _ _) _) (ai.ea (w.alloc (.cells #[.int .u64 most] 27)) _ _ _ aB)).mono ?_;rintro e w1 ⟨rfl,h1,h2,h3⟩;have cO:=bC h2;have lO:=h2.lt;go_wp21;go_ret;refine⟨rfl,h1,?_⟩;have x0:al w ((w.alloc (.cells #[.int .u64 most] 27)).alloc (.cells #[.int .u64 0] 27)):=(dM w _).alloc _;exact(x0.mono (λ_ _ f=>f.elim)).trans' h3 (λi hi q=>by rcases q with q|q<;>omega)
theorem NG (l:List Int) (at_:Nat) (err:Int):Y1 l at_ err=LM (oU l kz at_ err):=by
 unfold Y1
 split
 .rfl
 .rename_i h
  have:oU l kz at_ err=0:=by unfold oU;rw [af (λq=>h q.2)]
  rw [this]
  rfl
theorem MU (n:Int) (h:0<=n) (h0:n<9223372036854775808):bits .xor .i64 (-1) n=-(n+1):=by
 exact akV
theorem UD (n:Int) (h0:0<=n) (h1:n<18446744073709551616):bits .and .u64 n 1=n%2:=by
 show IntKind.u64.wrap ((BitVec.ofInt 64 n&&&BitVec.ofInt 64 1).toNat:Int)=_;obtain⟨x,rfl⟩:∃x:Nat,n=x:=⟨n.toNat,by omega⟩;rw [BitVec.toNat_and,BitVec.toNat_ofInt,show(BitVec.ofInt 64 1).toNat=1 by decide,Nat.and_one_is_mod];rw [IntKind.wrap_u64]
 omega
theorem WI (A:Option Addr) (n cap:Nat) (l:List Int) (at_:Nat) (err:Int) (N:Nat) (rb:Nat) (w:World) (hN:N<=rb) (h:Ic w N A n cap l) (l7:at_<=n) (hr:ai w rb 211 (pz A n cap at_ err)):
 Calls prog 88 #[.pointer (some ⟨rb,0,none⟩)] w λe w'=>e=.returned (.int .i64 (Y1 l at_ err))/\ai w' rb 211 (pz A n cap (pw l kz at_ err) (oO l kz at_ err))/\Kept (·=rb) w w':=by
 obtain⟨V,hV⟩:=nm' (oU l kz at_ err);have hB:=nF h.2.2.2.1 kz at_ err;rw [<-hV]at hB;rw [NG,<-hV];have HB:=J hB;have HV:=J hV;clear hB hV;have⟨HN,HS,HR⟩:=J3' hN h hr;clear hN h hr;go_enter func88,ntmps88;go_wp21;refine(vG A n cap l at_ err kz N rb w HN.o HS.o l7 HR.o).mono ?_;rintro e w1 ⟨rfl,h1,h2'⟩;rw [<-HV.o];have ha:=UD V HB.o.1 HB.o.2
 by_cases h2:V%2=1
 .have hb:(bits .and .u64 V 1==1)=true:=by rw [ha,h2];rfl
  have HU:=J (show LM V=-(V / 2) - 1 by unfold LM;rw [ak h2]);clear ha h2;go_wp21;go_ret;exact⟨bB (by rw [HU.o];have:=HB.o;rw [show wrap64 (V / 2)=V / 2 by unfold wrap64;omega,MU _ ad ad];omega),h1,h2'⟩
 .have hb:(bits .and .u64 V 1==1)=false:=by rw [ha];simp;omega
  have HU:=J (show LM V=V / 2 by unfold LM;rw [af h2]);clear ha h2;go_wp21;go_ret;exact⟨bB (by rw [HU.o];have:=HB.o;unfold wrap64;omega),h1,h2'⟩
theorem Cc (A:Option Addr) (n cap at_:Nat) (err:Int) (rb:Nat) (w:World) (hr:ai w rb 211 (pz A n cap at_ err)):
 Calls prog 89 #[.pointer (some ⟨rb,0,none⟩)] w λe w'=>e=.returned (.int .i64 err)/\w=w':=by
 have cR:=bC hr;have lR:=hr.lt;go_enter func89,ntmps89;go_wp21;go_ret;exact⟨rfl,rfl⟩
theorem RZ (A:Option Addr) (n cap at_:Nat) (err:Int) (rb:Nat) (w:World) (l7:at_<=n) (hn:n<=100000) (hr:ai w rb 211 (pz A n cap at_ err)):
 Calls prog 132 #[.pointer (some ⟨rb,0,none⟩)] w λe w'=>e=.returned (.int .i64 ((n:Int) - at_))/\al w w':=by
 have lR:=hr.lt;have hwp:IntKind.i64.wrap ((n:Int) - at_)=(n:Int) - at_:=by rw [im];omega
 go_enter func132,ntmps132;go_wp21;refine fH (λw1=>al w w1) [(0,2),(1,2),(2,2),(3,1),(4,2),(5,2),(6,2),(7,2),(8,1),(9,2),(10,2)] ?_;refine fI ?_
 repeat first|refine cx ?_|refine de (Kept.drew (kR _ w)) (by intro w1 hS;have d0:=bX hr hS;have d1:=bG d0;have d2:=bH d0;have d3:=d0.lt;have d4:=bC d0;exact fV) ?_|refine dc (Kept.drew (kR _ w)) ?_
 refine fx ?_;go_wp21;go_ret;exact⟨rfl,Kept.drew (kR _ w)⟩
theorem WH (A:Option Addr) (n cap at_:Nat) (err:Int) (rb:Nat) (w:World) (l7:at_<=n) (hn:n<=100000) (hr:ai w rb 211 (pz A n cap at_ err)):
 Calls prog 90 #[.pointer (some ⟨rb,0,none⟩)] w λe w'=>e=.returned (.int .i64 (if err=0/\at_<n then 5 else err))/\al w w':=by
 obtain⟨R,hR⟩:=nm' ((if err=0/\at_<n then 5 else err:Int));rw [<-hR];have mv:=J hR;clear hR;go_enter func90,ntmps90;go_wp21;refine aoT (Cc A n cap at_ err rb _ hr) ?_
 by_cases he:err=0
 .have hb:(err==0)=true:=by simp [he]
  have ME:(err !=0)=false:=by unfold bne;rw [hb];rfl
  have Yr:=J he;clear he;go_wp21;refine aoS (RZ A n cap at_ err rb _ l7 hn hr) λw1 hx=>?_
  by_cases hl:(at_:Int)<n
  .have e5:R=5:=by rw [mv.o];exact ak ⟨Yr.o,by omega⟩
   have OE:=J e5;have hc:(0:Int)<(n:Int) - at_:=by omega
   clear e5;go_wp21;go_ret;exact⟨bB OE.o.symm,hx⟩
  .have e5:R=0:=by rw [mv.o];rw [af (λq=>hl ad),Yr.o]
   have OE:=J e5;have hc:¬(0:Int)<(n:Int) - at_:=by omega
   clear e5;go_wp21;go_ret;exact⟨bB OE.o.symm,hx⟩
 .have hb:(err==0)=false:=by simp [he]
  have ME:(err !=0)=true:=by unfold bne;rw [hb];rfl
  have e5:R=err:=by rw [mv.o];exact af (λq=>he q.1)
  have OE:=J e5;clear e5 he;go_wp21;refine aoT (Cc A n cap at_ err rb _ hr) ?_;go_wp21;go_ret;exact⟨bB OE.o.symm,kR _ _⟩
theorem alZ (w:World) (base:Nat) (v:Value) (n:Nat) (xs:List Int) (gp:w.ownsRow base 5 1 v n (cu xs)) (A:Option Addr) (b off m c:Nat) (l:List Int) (hm:m=l.length) (hA:0<m->A=some ⟨b,off,none⟩) (hr:0<m->Row w b off (cu l)) (hn:n+m<=100000) (gL:base<=w.heap.size):
 ∃v' w',(Builtin.append_ #[89,89] 89 #[v,.slice A m c]).run prog w=.ok v' w'/\w'.ownsRow base 5 1 v' (n+m) (cu (xs++l))/\Kept (λi=>v.ownBlock=some i) w w':=by
 by_cases h0:0<m
 .obtain rfl:=hA h0
  exact FT w base v n xs gp b off m c l hm (hr h0) hn gL
 .have hm0:m=0:=by omega
  subst hm0;have hl:l=[]:=List.eq_nil_of_length_eq_zero hm.symm;subst hl;rw [List.append_nil,eW];obtain⟨i,hi,hz,h1,h2⟩:=info_parts Gq
  rcases A with _|a
  .refine⟨v,w,?_,gp,kR _ w⟩
   rcases gp.2 with⟨rfl,rfl⟩|⟨g,cap,cV,rfl,_,_,rB,_⟩
   .simp [Builtin.append_,run_underlying underlying89,sizeOf,typeInfo,hi,Builtin.lenOf,Builtin.firstCells]
   .simp [Builtin.append_,run_underlying underlying89,sizeOf,typeInfo,hi,Builtin.lenOf,Builtin.firstCells,rB,storeCells]
  .obtain⟨v',w',dz,ho,hg,_⟩:=run_append_own (P:=prog) w base 89 89 5 i _ 1 1 underlying89 hi hz h1 h2 fK ap v n (cu xs) gp a 0 c [] aB (λj u h=>by simp at h) (λu h=>by simp at h) Ib ad gL
   rw [List.append_nil,eW]at ho;exact⟨v',w',dz,ho,Kept.pr hg⟩
theorem Mx (A:Option Addr) (b off n cap:Nat) (l:List Int) (w:World) (hn:n=l.length) (h2:n<=100000) (hA:0<n->A=some ⟨b,off,none⟩) (hr:0<n->Row w b off (cu l)):
 Calls prog 128 #[.slice A n cap,.int .i64 0] w λe w'=>∃v',e=.returned v'/\w'.ownsRow w.heap.size 5 1 v' n (cu l)/\al w w':=by
 obtain⟨w1,ET,qD,aw⟩:=Wq w n h2;obtain⟨v2,w2,iV,mq,eV⟩:=alZ w1 _ _ _ [] qD A b off n cap l hn hA (λh=>(hr h).ext aw) ad aw.size;have hwp:IntKind.i64.wrap ((n:Int)+0)=n:=by rw [im];omega
 clear hn hA hr;exact akE
theorem WJ (A:Option Addr) (n cap:Nat) (l:List Int) (N:Nat) (w:World) (h:Ic w N A n cap l):
 Calls prog 86 #[.slice A n cap] w λe w'=>∃(A':Option Addr) (c' rb:Nat),e=.returned (.pointer (some ⟨rb,0,none⟩))/\w.heap.size<=rb/\ai w' rb 211 (pz A' n c' 0 0)/\Ic w' rb A' n c' l/\al w w':=by
 obtain⟨hn,rB,zG,hok,b,off,hA,hR⟩:=h;have HF:=J (Mx A b off n cap l w hn zG hA (λh=>(hR h).2));have HN:=J hn;clear hn;go_enter func86,ntmps86;go_wp21;refine HF.o.mono ?_;rintro e w1 ⟨v',rfl,qD,aw⟩;have kL:=Fc qD
 obtain⟨A',c',rfl,hb⟩:∃A' c',v'=.slice A' n c'/\Ic w1 w1.heap.size A' n c' l:=by
  rcases kL with⟨rfl,rfl,rfl⟩|⟨g,c,rfl,hg,aE,hc,hl⟩
  .exact⟨none,0,rfl,rfl,cr _,by omega,hok,0,0,λh=>by omega,λh=>by omega⟩
  .exact⟨_,c,rfl,hl,hc,zG,hok,g,0,λ_=>rfl,λ_=>⟨aE.lt,aE⟩⟩
 have HB:=J hb;clear hb kL qD;go_wp21;go_ret;exact⟨A',c',w1.heap.size,rfl,aw.size,bN w1 _ _,HB.o.ext (dM w1 _),aw.alloc _⟩
theorem vJ (pc halt:Int) (A:Option Addr) (n cap:Nat) (w:World):
 Calls prog 35 #[.agg (ae pc A n cap halt)] w λe w'=>e=.returned (.bool (cQ pc halt n))/\al w w':=by
 have aF:al w _:=dM w (.cells (ae pc A n cap halt) 93);go_enter func35,ntmps35;go_wp21
 all_goals go_ret
 all_goals refine⟨?_,aF⟩
 all_goals simp [cQ]
 all_goals (intros;first|omega|(rw [Bool.eq_iff_iff];simp;omega))
theorem j0:ga prog 93=true:=by kernel_rfl
theorem jb:dr prog 93=some 3:=by kernel_rfl
theorem zd {eD:TypeId} {x:Operand} {a:Act} {w:World} {K:Act->World->Prop} {Q:Exit->Act->World->Prop} (hx:d' (a.eval x)=true) (hh:has w (aG (a.eval x)) (aH (a.eval x)) 3=true):
 Oper.wp prog ⟨dst,.load 93 x,eD,pos,after,guard⟩ a w K Q=K (a.put dst (.agg (gets w (aG (a.eval x)) (aH (a.eval x)) 3))) w:=aY 3 j0 jb hx hh
theorem Hi {ρ:Operand->Value} {eD:TypeId} {x:Operand} {w:World} (hx:d' (ρ x)=true) (hh:has w (aG (ρ x)) (aH (ρ x)) 3=true):
 (execOp ρ ⟨dst,.load 93 x,eD,pos,after,guard⟩).run prog w=.ok (.value (.agg (gets w (aG (ρ x)) (aH (ρ x)) 3))) w:=aD 3 j0 jb hx hh
theorem Gu (w:World) (g off:Nat) (hh:has w g off 3=true):(loadVar 93 ⟨g,off,none⟩).run prog w=.ok (.agg (gets w g off 3)) w:=cD prog w _ g off 3 j0 jb hh
attribute [go_sem] j0 jb
attribute [go_sem↓high] zd Gu Hi
attribute [go_sem high] zd
theorem jT (pc halt:Int) (A:Option Addr) (n cap:Nat) (w:World):
 Calls prog 36 #[.agg (ae pc A n cap halt)] w λe w'=>e=.returned (.agg (ae pc A n cap halt))/\al w w':=by
 have y0:=(dY w (.cells (ae pc A n cap halt) 47)).alloc (.cells (ae 0 none 0 0 0) 93);have hB:=(bN w 47 (ae pc A n cap halt)).alloc (.cells (ae 0 none 0 0 0) 93);have hD:=bN (w.alloc (.cells (ae pc A n cap halt) 47)) 93 (ae 0 none 0 0 0);go_enter func36,ntmps36;go_upto_region 1 with(fail);rw [show(w.alloc (.cells (ae pc A n cap halt) 47)).heap.size=w.heap.size+1 by simp]at hD;generalize (w.alloc (.cells (ae pc A n cap halt) 47)).alloc (.cells (ae 0 none 0 0 0) 93)=W at y0 hB hD⊢;have HY:=J y0;have HD:=J hD;generalize mV:w.heap.size=pb at hB hD HD⊢;have ku:=J mV;have i1:=bC hB;have i2:=hB.lt;have j1:=bH hD;have j2:=ai.aC hD;have j3:=hD.lt;clear y0 hB hD mV;go_wp21;refine bu (t:=93) (g:=pb+1) (cs:=ae pc A n cap halt) results36 rfl rfl j0 (by exact jb) (by exact ai.cw HD.o 0 _) ⟨rfl,?_⟩;exact HY.o.putAt _ _ _ (λaP=>absurd aP Tc)
theorem yJ (pc halt:Int) (aA bA:Option Addr) (n ac bc:Nat) (l:List Int) (N M:Nat) (w:World) (ha:mT w N ⟨aA,n,ac⟩ l) (hb:mT w M ⟨bA,n,bc⟩ l) (hl:l.length<=100000):
 Calls prog 39 #[.agg (ae pc aA n ac halt),.agg (ae pc bA n bc halt)] w λe w'=>e=.returned (.bool true)/\al w w':=by
 obtain⟨Iq,-,ab,ao,Js,ha3⟩:=ha;obtain⟨-,-,bb,bo,jo,Pa⟩:=hb;simp only at Iq Js ha3 jo Pa;have Vo:n<=100000:=by omega
 have⟨OB,HAA,HBA,HAR,HBR⟩:=J5' Iq Js jo ha3 Pa;clear Iq Js ha3 jo Pa hl;have y0:=(dY w (.cells (ae pc aA n ac halt) 93)).alloc (.cells (ae pc bA n bc halt) 93);have hB:=(bN w 93 (ae pc aA n ac halt)).alloc (.cells (ae pc bA n bc halt) 93);have hD:=bN (w.alloc (.cells (ae pc aA n ac halt) 93)) 93 (ae pc bA n bc halt);go_enter func39,ntmps39;go_upto_region 1 with(fail);rw [show(w.alloc (.cells (ae pc aA n ac halt) 93)).heap.size=w.heap.size+1 by simp]at hD;generalize (w.alloc (.cells (ae pc aA n ac halt) 93)).alloc (.cells (ae pc bA n bc halt) 93)=W at y0 hB hD⊢;have⟨HY,HB,HD⟩:=J3' y0 hB hD;generalize w.heap.size=pb at hB hD HB HD⊢;have i1:=bC hB;have i2:=hB.lt;have j1:=bC hD;have j2:=hD.lt;have q1:(pc !=pc)=false:=by simp
 have q2:(halt !=halt)=false:=by simp
 have q3:((n:Int) !=n)=false:=by simp
 clear y0 hB hD;go_wp21
 go_loopw [5] (λt5 wr=>∃j:Nat,j<=n/\t5=.int .i64 j/\al W wr) (λt5 _=>n - (intOf t5).toNat)
 case atStart=>exact⟨0,cI _,rfl,kR _ _⟩
 case round=>
  obtain⟨j,hj,rfl,hk⟩:=hrel;have HK:=J hk;clear hk i1 i2 j1 j2 q1 q2 q3;have b1:=bC (bX HB.o HK.o);have b2:=(bX HB.o HK.o).lt;have d1:=bC (bX HD.o HK.o);have d2:=(bX HD.o HK.o).lt
  by_cases aP:j<n
  .have d_:j<l.length:=by have:=OB.o;omega
   have gD:(j:Int)<n:=by omega
   have h1:=HAA.o ad;have h2:=HBA.o ad;have r1:=(HAR.o ad).2.ext (HY.o.trans HK.o);have r2:=(HBR.o ad).2.ext (HY.o.trans HK.o);have c1:=Row.mem r1 j d_;have c2:=Row.mem r2 j d_;have c3:=r1.lt;have c4:=r2.lt;clear r1 r2;subst h1 h2;generalize l[j]=x at c1 c2;have q1:(x !=x)=false:=by simp
   go_upto_region 6 with(fail)
   go_quiet (fail)
   go_wp21;go_roundw
   case rel=>exact⟨j+1,aP,by go_num,Kept.drewN HK.o _⟩
   case measure=>simp only [intOf];omega
  .obtain rfl:j=n:=by omega
   go_wp21;go_ret;exact⟨rfl,HY.o.trans HK.o⟩
def k_ (l:List Int):List Int:=(l.map λx=>b_ (eX x)).flatten
def iW (p dJ:Nat) (l:List Int):List Int:=b_ p++b_ dJ++b_ l.length++k_ l
theorem xw {l:List Int} {j:Nat} (h:j<l.length):k_ (l.take (j+1))=k_ (l.take j)++b_ (eX l[j]):=by
 unfold k_;rw [lq,List.getElem?_eq_getElem h,qy,List.flatten_append];simp only [Option.toList,tq,List.map_nil,List.flatten_cons,List.flatten_nil,List.append_nil]
theorem Mw {x:Int} (h:av x):eX x<4294967296:=by
 unfold av at h;unfold eX
 split<;>omega
theorem vD {l:List Int} (hok:∀x∈l,av x):∀j,j<=l.length->(k_ (l.take j)).length<=5*j
 |0,_=>by simp [k_]
 |j+1,h=>by
  have hj:j<l.length:=by omega
  have h1:=vD hok j ad;have h2:=jD 5 (eX l[j]) (by have:=Mw (hok _ (ed hj));omega) ad;rw [xw hj,dn]
  omega
theorem xC {p n:Nat} (h1:p<=2048) (h2:dJ<=2) (h3:n<=256):(b_ p++b_ dJ++b_ n).length<=6:=by
 have a:=jD 2 p ad ad;have b:=jD 1 dJ ad ad;have c:=jD 2 n ad ad;simp only [dn]
 omega
theorem Xs (pc halt:Int) (A:Option Addr) (n cap:Nat) (w:World) (hr:cQ pc halt n=false):
 Calls prog 34 #[.agg (ae pc A n cap halt)] w λe w'=>e=.returned (.tuple #[.slice none 0 0,.int .i64 3])/\al w w':=by
 have y0:al w _:=dM w (.cells (ae pc A n cap halt) 47);have hB:=bN w 47 (ae pc A n cap halt);go_enter func34,ntmps34;go_upto_region 1 with(fail);have hg:=bG hB;have hh:=bH hB;have hl:=hB.lt;generalize (w.alloc (.cells (ae pc A n cap halt) 47))=W at y0 hB hg hh hl⊢;go_wp21;refine aoS (fT pc halt A n cap _) λw1 aw=>?_;rw [hr];go_wp21
 go_ret2
 exact⟨rfl,y0.trans aw⟩
theorem KU (p dJ:Nat) (A:Option Addr) (n cap:Nat) (l:List Int) (N:Nat) (w:World) (hr:cQ p dJ n=true) (hm:mT w N ⟨A,n,cap⟩ l):
 Calls prog 34 #[.agg (ae p A n cap dJ)] w λe w'=>∃v,e=.returned (.tuple #[v,.int .i64 0])/\w'.ownsRow w.heap.size 5 1 v (iW p dJ l).length (cu (iW p dJ l))/\al w w':=by
 obtain⟨hn,hok,b,off,hA,hR⟩:=hm;simp only at hn hA hR;have hb:1<=n/\n<=256/\p<=2048/\dJ<=2:=by unfold cQ at hr;simp at hr;omega
 obtain⟨n1,n2,p2,h2⟩:=hb;have⟨mf,HN,lm⟩:=J3' hr hn hok;have HR:=J (hR ad).2;obtain rfl:=hA ad;have HP:=J (show iW p dJ l=b_ p++b_ dJ++b_ n++k_ (l.take n)by rw [hn,jr];rfl);have HH:=J (xC p2 h2 n2);rw [HP.o];obtain⟨H,hH⟩:=nm' (b_ p++b_ dJ++b_ n);rw [<-hH]at HH⊢;have HHD:=J hH;clear hH HP hr hn hok hA hR;have y0:al w _:=dM w (.cells (ae p (some ⟨b,off,none⟩) n cap dJ) 47);have hB:=bN w 47 (ae p (some ⟨b,off,none⟩) n cap dJ);go_enter func34,ntmps34;go_upto_region 1 with(fail);generalize (w.alloc (.cells (ae p (some ⟨b,off,none⟩) n cap dJ) 47))=W at y0 hB⊢;have HB:=J hB;have HY:=J y0;generalize mV:w.heap.size=pb at hB HB⊢;have ku:=J mV;clear y0 mV;have hg:=bG hB;have hh:=bH hB;have hl:=hB.lt;clear hB;go_wp21;refine aoS (fT p dJ (some ⟨b,off,none⟩) n cap _) λw1 aw=>?_;rw [mf.o];clear hg hh hl;have c1:=bC (bX HB.o aw);have l1:=(bX HB.o aw).lt;go_wp21;refine(nE pb (.slice none 0 0) 0 [] p _ w1 rfl ad (World.ownsRow_nil _ _ _ _) ad).mono ?_;rintro e w2 ⟨v2,rfl,mq,bd⟩;have gf:=J (aw.trans bd);have Zs:=J (eI mq (Nat.le_of_lt l1));clear c1 l1 aw bd mq;have c1:=bC (bX HB.o gf.o);have l1:=(bX HB.o gf.o).lt;go_wp21;refine(nE pb v2 _ _ dJ _ w2 rfl ad Zs.o ajC).mono ?_;rintro e w3 ⟨v3,rfl,JE,dv⟩;have gq:=J (gf.o.trans dv);have HO3:=J (eI JE (Nat.le_of_lt l1));clear c1 l1 dv JE;have c1:=bC (bX HB.o gq.o);have l1:=(bX HB.o gq.o).lt;go_wp21;refine(nE pb v3 _ _ n _ w3 rfl ad HO3.o ajC).mono ?_;rintro e w4 ⟨v4,rfl,D3,eS⟩;have eU:=J (gq.o.trans eS);have IF:=J (eI D3 (Nat.le_of_lt l1));clear c1 l1 eS D3;have c1:=bC (bX HB.o eU.o);have l1:=(bX HB.o eU.o).lt;go_wp21;have pW:pb<=W.heap.size:=Nat.le_of_lt HB.o.lt
 have xk:w4.ownsRow pb 5 1 v4 (b_ p++b_ dJ++b_ n).length (cu (b_ p++b_ dJ++b_ n)):=by
  have q:=IF.o;simp only [qx,dT]at q;rw [show(b_ p).length+(b_ dJ).length+(b_ n).length=(b_ p++b_ dJ++b_ n).length by simp only [dn]]at q;exact q
 rw [<-HHD.o]at xk;clear Zs HO3 IF gf gq c1 l1
 go_loopw [4,28] (λt4 t28 wr=>∃j:Nat,j<=n/\t28=.int .i64 j/\wr.ownsRow pb 5 1 t4 (H++k_ (l.take j)).length (cu (H++k_ (l.take j)))/\al W wr) (λ_ t28 _=>n - (intOf t28).toNat)
 case atStart=>exact⟨0,cI _,rfl,by simpa [k_]using xk,eU.o⟩
 case round=>
  obtain⟨j,hj,rfl,ho,hx⟩:=hrel;have HO:=J ho;have HX:=J hx;clear xk ho hx
  by_cases aP:j<n
  .have d_:j<l.length:=by have:=HN.o;omega
   have gD:(j:Int)<n:=by omega
   have aE:=HR.o.ext (HY.o.trans HX.o);have g1:=Row.mem aE j d_;have g2:=aE.lt;have hok:=lm.o l[j] (ed d_);have hlen:=vD lm.o j ad;have HM:=J (xw d_);generalize l[j]=x at g1 hok HM;unfold av at hok;obtain⟨x1,x2⟩:=hok;clear aE;go_wp21;refine(Cp pb u4 _ _ x _ wr rfl ad ad HO.o (by have:=HH.o;simp only [dn];omega)).mono ?_;rintro e w5 ⟨v5,rfl,tD,iG⟩;have DG:=J (eI tD (ax pW HX.o.size));clear tD hlen;go_wp21;go_roundw
   case rel=>exact⟨j+1,aP,by go_num,by rw [HM.o,<-my,dn];exact DG.o,HX.o.trans iG⟩
   case measure=>simp only [intOf];omega
  .obtain rfl:j=n:=by omega
   go_wp21
   go_ret2
   exact⟨_,rfl,by rw [ku.o];exact HO.o,HY.o.trans HX.o⟩
theorem Ki (p dJ:Nat) (A:Option Addr) (n cap:Nat) (l:List Int) (N:Nat) (w:World) (hr:cQ p dJ n=true) (hm:mT w N ⟨A,n,cap⟩ l):
 Calls prog 38 #[.agg (ae p A n cap dJ)] w λe w'=>OP w w' e (iW p dJ l).length (iW p dJ l):=by
 obtain⟨hn,hok,b,off,hA,hR⟩:=hm;simp only at hn hA hR;have hb:1<=n/\n<=256/\p<=2048/\dJ<=2:=by unfold cQ at hr;simp at hr;omega
 obtain⟨n1,n2,p2,h2⟩:=hb;have⟨HN,HW1,HW2,HW3,Ts,nQ,lm⟩:=J7' hn (show IntKind.u64.wrap (p:Int)=p by rw [IntKind.wrap_u64];omega) (show IntKind.u64.wrap (dJ:Int)=dJ by rw [IntKind.wrap_u64];omega) (show IntKind.u64.wrap (n:Int)=n by rw [IntKind.wrap_u64];omega) (show p<18446744073709551616 by omega) (show dJ<18446744073709551616 by omega) hok;have HR:=J (hR ad).2;obtain rfl:=hA ad;have HP:=J (show iW p dJ l=b_ p++b_ dJ++b_ n++k_ (l.take n)by rw [hn,jr];rfl);have HH:=J (xC p2 h2 n2);rw [HP.o];obtain⟨H,hH⟩:=nm' (b_ p++b_ dJ++b_ n);rw [<-hH]at HH⊢;have HHD:=J hH;clear hH HP hr hn hok hA hR;have y0:al w _:=dM w (.cells (ae p (some ⟨b,off,none⟩) n cap dJ) 93);have hB:=bN w 93 (ae p (some ⟨b,off,none⟩) n cap dJ);go_enter func38,ntmps38;go_upto_region 1 with(fail);generalize (w.alloc (.cells (ae p (some ⟨b,off,none⟩) n cap dJ) 93))=W at y0 hB⊢;have HB:=J hB;have HY:=J y0;generalize mV:w.heap.size=pb at hB HB⊢;have ku:=J mV;have pW:pb<=W.heap.size:=Nat.le_of_lt hB.lt;clear y0 mV hB;refine fH (λw2=>al W w2) [(0,2),(1,1),(2,1),(4,2),(5,1),(6,1),(3,0),(7,0),(8,0),(9,2)] ?_;refine fI ?_
 repeat first|refine cx ?_|refine de fU (by intro w1 hS;have d1:=bC (bX HB.o hS);have d2:=(bX HB.o hS).lt;exact fV) ?_|refine dc fU ?_
 have yW:al W W.drew:=(kR _ W).drew;refine au (λK hK=>?_);go_simp;go_wp21;rw [HW1.o];refine(qf p Ts.o _).mono ?_;rintro e w3 ⟨g3,c3,rfl,JE,dv⟩;have y3:al W w3:=yW.trans dv;have HO3:=J (eI JE yW.size);clear JE dv;refine hK.out _ _ (λ_=>y3) ?_;clear hK K;refine tj ?_;intro K hK;go_wp21;rw [HW2.o];refine(qf dJ nQ.o _).mono ?_;rintro e w4 ⟨g4,c4,rfl,D3,eS⟩;have y4:al W w4:=y3.trans eS;obtain⟨g4',c4',e4,_,r4,_,_,_⟩:=nD D3 (lZ _);obtain⟨v5,w5,Gl,xk,ss⟩:=FT w4 W.heap.size _ _ (b_ p) (aI HO3.o eS) g4' 0 _ c4' (b_ dJ) rfl r4 ajD y4.size;have kv:=J (y4.trans' ss (λi hi e=>by have:=(HO3.o.lt i e).1;omega));rw [<-e4]at Gl;have HO5:=J xk;clear xk D3 eS r4 e4;refine hK.out _ _ (λ_=>y4) ?_;clear hK K
 repeat refine cx ?_
 refine au (λK hK=>?_);refine aam rfl ?_;refine Lib.wp_append_run _ _ _ _ _ rfl _ _ rfl rfl _ _ Gl ?_;refine hK.out _ _ (λ_=>kv.o) ?_;clear hK K;refine fx ?_;clear Gl y3 y4 yW;have c5:=bC (bX HB.o kv.o);have l5:=(bX HB.o kv.o).lt;go_wp21;refine(qf n ad _).mono ?_;rintro e w6 ⟨g6,c6,rfl,tD,nU⟩;obtain⟨g6',c6',e6,_,r6,_,_,_⟩:=nD tD (lZ _);obtain⟨v7,w7,Ru,D4,qC⟩:=FT w6 W.heap.size _ _ (b_ p++b_ dJ) (aI HO5.o nU) g6' 0 _ c6' (b_ n) rfl r6 ajD (kv.o.trans nU).size;have Ih:=J ((kv.o.trans nU).trans' qC (λi hi e=>by have:=(HO5.o.lt i e).1;omega));rw [<-e6]at Ru
 have VP:w7.ownsRow W.heap.size 5 1 v7 H.length (cu H):=by
  rw [HHD.o,dn,dn];exact D4
 clear D4 tD nU r6 e6 c5 l5;go_wp2_with (at_builtin;refine Lib.wpList_append_run _ rfl _ _ _ _ rfl _ _ rfl rfl _ _ Ru ?_);have wV:=J VP;clear Ru VP ss qC
 go_loopw [3,4] (λt3 t4 wr=>∃j:Nat,j<=n/\t4=.int .i64 j/\wr.ownsRow W.heap.size 5 1 t3 (H++k_ (l.take j)).length (cu (H++k_ (l.take j)))/\al W wr) (λ_ t4 _=>n - (intOf t4).toNat)
 case atStart=>exact⟨0,cI _,rfl,by simpa [k_]using wV.o,Ih.o⟩
 case round=>
  obtain⟨j,hj,rfl,ho,hx⟩:=hrel;have HO:=J ho;have HX:=J hx;clear ho hx;have c1:=bC (bX HB.o HX.o);have l1:=(bX HB.o HX.o).lt
  by_cases aP:j<n
  .have d_:j<l.length:=by have:=HN.o;omega
   have gD:(j:Int)<n:=by omega
   have aE:=HR.o.ext (HY.o.trans HX.o);have g1:=Row.mem aE j d_;have g2:=aE.lt;have hok:=lm.o l[j] (ed d_);have HM:=J (xw d_);have zX:=J (vD lm.o j ad);generalize l[j]=x at g1 hok HM;have HF:=J (jD 5 (eX x) (by have:=Mw hok;omega) ad);have HFN:=J (Nat.lt_trans (Mw hok) (by decide:4294967296<18446744073709551616));unfold av at hok;obtain⟨x1,x2⟩:=hok;clear aE;go_wp21;refine(Sj x ad ad _).mono ?_;rintro e w8 ⟨rfl,rfl⟩;go_wp21;refine(qf _ HFN.o _).mono ?_;rintro e w8 ⟨g8,c8,rfl,ER,oo⟩;obtain⟨g9,c9,e9,_,r9,_,_,_⟩:=nD ER (lZ _);obtain⟨v10,IA,VX,VN,ta⟩:=FT w8 W.heap.size _ _ _ (aI HO.o oo) g9 0 _ c9 (b_ (eX x)) rfl r9 (by have h1:=HH.o;have h2:=zX.o;have h3:=HF.o;rw [dn];omega) (HX.o.trans oo).size;have alU:=J ((HX.o.trans oo).trans' ta (λi hi e=>by have:=(HO.o.lt i e).1;omega));rw [<-e9]at VX;have adz:=J VN;clear VN ER oo r9 e9 ta c1 l1 g1 g2;go_wp2_with (at_builtin;refine Lib.wpList_append_run _ rfl _ _ _ _ rfl _ _ rfl rfl _ _ VX ?_);go_roundw
   case rel=>exact⟨j+1,aP,by go_num,by rw [HM.o,<-my,dn];exact adz.o,alU.o⟩
   case measure=>simp only [intOf];omega
  .obtain rfl:j=n:=by omega
   go_wp21;go_ret;exact⟨_,rfl,by rw [ku.o];exact eI HO.o pW,HY.o.trans HX.o⟩
def KY (l:List Int):Nat:=pw l 2048 0 0
def Ix (l:List Int):Int:=oO l 2048 0 0
def Xy (l:List Int):Int:=oU l 2048 0 0
def Hx (l:List Int):Nat:=pw l 2 (KY l) (Ix l)
def Hy (l:List Int):Int:=oO l 2 (KY l) (Ix l)
def T' (l:List Int):Int:=oU l 2 (KY l) (Ix l)
def nd (l:List Int):Nat:=pw l 256 (Hx l) (Hy l)
def Iy (l:List Int):Int:=oO l 256 (Hx l) (Hy l)
def uN (l:List Int):Nat:=(oU l 256 (Hx l) (Hy l)).toNat
def uP (l:List Int) (a:Nat):Nat->Nat|0=>a|j+1=>pw l kz (uP l a j) 0
def uX (l:List Int) (a j:Nat):Int:=Y1 l (uP l a j) 0
def vV (l:List Int) (a j:Nat):Int:=if oO l kz (uP l a j) 0=0 then(if -2147483648<=uX l a j/\uX l a j<=2147483647 then 0 else 2)else oO l kz (uP l a j) 0
def uF (l:List Int) (a:Nat):Nat->Int|0=>0|j+1=>if uF l a j=0 then vV l a j else uF l a j
def Av (l:List Int) (a n:Nat):List Int:=(List.range n).map (uX l a)
def nX (l:List Int):Int:=
 if Iy l=0 then(if uF l (nd l) (uN l)=0 then(if uP l (nd l) (uN l)<l.length then 5 else if uN l=0 then 3 else 0)else uF l (nd l) (uN l))else Iy l
theorem um {l:List Int} {most:Int} (h0:0<=most) (at_:Nat) (err:Int):oU l most at_ err<=most:=by
 unfold oU
 split
 .rename_i h
  obtain⟨he,hr⟩:=h;unfold oO at hr;rw [ak he]at hr
  split at hr
  .split at hr
   .cases hr
   .omega
  .contradiction
 .exact h0
theorem PT {l:List Int} {most:Int} {at_:Nat} {err:Int} (h:¬oO l most at_ err=0):oU l most at_ err=0:=by
 unfold oU;rw [af (λq=>h q.2)]
theorem G_ {l:List Int} {most:Int} {at_:Nat} {err:Int} (h:¬err=0):oO l most at_ err=err:=by
 unfold oO;rw [af h]
theorem P7 (l:List Int):uN l<=256:=by
 have:=um (l:=l) (most:=256) ap (Hx l) (Hy l);unfold uN
 omega
theorem afi {l:List Int} (h:¬Iy l=0):uN l=0:=by
 unfold uN;rw [PT h]
 rfl
theorem P6 {l:List Int} {a n:Nat} (h:uF l a n=0):∀j,j<=n->uF l a j=0:=by
 induction n with
 |zero=>intro j hj;obtain rfl:j=0:=ad;exact h
 |succ n ih=>
  intro j hj;unfold uF at h
  by_cases e:uF l a n=0
  .rcases(by omega:j<=n∨j=n+1)with q|q
   .exact ih e j q
   .subst q;unfold uF;exact h
  .rw [af e]at h;contradiction
theorem Au {l:List Int} {a j:Nat} (h:¬uF l a j=0):∀n,j<=n->uF l a n=uF l a j:=by
 intro n
 induction n with
 |zero=>intro hj;obtain rfl:j=0:=ad;rfl
 |succ n ih=>
  intro hj
  rcases(by omega:j<=n∨j=n+1)with q|q
  .have e:=ih q
   conv=>lhs;unfold uF
   rw [af (by rw [e];exact h),e]
  .subst q;rfl
theorem vX (l:List Int) (a j:Nat):Av l a (j+1)=Av l a j++[uX l a j]:=by
 unfold Av;rw [List.range_succ,qy]
 rfl
theorem Hz (l:List Int) (a j:Nat):(Av l a j).length=j:=by simp [Av]
theorem Xz {l:List Int} {a n:Nat} (h:uF l a n=0):∀x∈Av l a n,av x:=by
 intro x hx;unfold Av at hx;obtain⟨j,hj,rfl⟩:=List.mem_map.1 hx;have hj:=List.mem_range.1 hj;have q:=P6 h (j+1) hj;unfold uF at q;rw [ak (P6 h j ad)]at q;unfold vV at q
 split at q
 .split at q
  .assumption
  .cases q
 .contradiction
theorem Ic.yx {S:Nat->Prop} {w w':World} {N:Nat} {A:Option Addr} {n cap:Nat} {l:List Int} (h:Ic w N A n cap l) (hk:Kept S w w') (hs:∀i,S i->N<=i):Ic w' N A n cap l:=by
 obtain⟨h1,h2,h3,h4,b,off,h5,h6⟩:=h;exact⟨h1,h2,h3,h4,b,off,h5,λh0=>⟨(h6 h0).1,(h6 h0).2.kept hk (λq=>by have:=hs b q;have:=(h6 h0).1;omega)⟩⟩
structure IR (W w:World) (rb sb:Nat) (A:Option Addr) (n c:Nat) (l:List Int) (p:Nat) (e:Int) (cs:Array Value):Prop where
 R:ai w rb 211 (pz A n c p e)
 S:ai w sb 47 cs
 B:Ic w rb A n c l
 hW:W.heap.size<=rb
 Rv:rb<sb
 hp:p<=n
 X:al W w
theorem IR.num {w w':World} {A:Option Addr} {n c:Nat} {l:List Int} {p p':Nat} {e e':Int} {cs:Array Value} (h:IR W w rb sb A n c l p e cs) (hk:Kept (·=rb) w w') (hr:ai w' rb 211 (pz A n c p' e')) (hp:p'<=n):IR W w' rb sb A n c l p' e' cs:=
 ⟨hr,h.S.kept hk (by have:=h.Rv;omega),h.B.yx hk (λi e=>by omega),h.hW,h.Rv,hp,h.X.trans' hk (λi hi e=>by have:=h.hW;omega)⟩
theorem IR.set {w:World} {A:Option Addr} {n c:Nat} {l:List Int} {p:Nat} {e:Int} {cs:Array Value} (h:IR W w rb sb A n c l p e cs) (i:Nat) (u:Value):IR W (w.setCell ⟨sb,i,none⟩ u) rb sb A n c l p e (cs.setIfInBounds i u):=
 have hk:Kept (·=sb) w (w.setCell ⟨sb,i,none⟩ u):=Kept.setCell (kR _ w) _ _ (λ_=>rfl)
 ⟨h.R.kept hk (by have:=h.Rv;omega),h.S.eK i u,h.B.yx hk (λj e=>by have:=h.Rv;omega),h.hW,h.Rv,h.hp,h.X.trans' hk (λi hi e=>by have:=h.hW;have:=h.Rv;omega)⟩
theorem IR.kV {w w':World} {A:Option Addr} {n c:Nat} {l:List Int} {p:Nat} {e:Int} {cs:Array Value} (h:IR W w rb sb A n c l p e cs) (hk:Kept T w w') (hs:∀i,T i->sb<i):IR W w' rb sb A n c l p e cs:=
 ⟨h.R.kept hk (λq=>by have:=hs _ q;have:=h.Rv;omega),h.S.kept hk (λq=>by have:=hs _ q;omega),h.B.yx hk (λi q=>by have:=hs i q;have:=h.Rv;omega),h.hW,h.Rv,h.hp,h.X.trans' hk (λi hi q=>by have:=hs i q;have:=h.hW;have:=h.Rv;omega)⟩
theorem IR.rd {w:World} {A:Option Addr} {n c:Nat} {l:List Int} {p:Nat} {e:Int} {cs:Array Value} (h:IR W w rb sb A n c l p e cs) (most:Int):pw l most p e<=n:=by
 have h1:=h.B.1;have:=WW l most p e (by rw [<-h1];exact h.hp)
 omega
theorem yQ (A:Option Addr) (n cap:Nat) (l:List Int) (N:Nat) (w:World) (h:Ic w N A n cap l):
 Calls prog 37 #[.slice A n cap] w λe w'=>∃(pc:Int) (A':Option Addr) (n' c':Nat) (dJ:Int),e=.returned (.tuple #[.agg (ae pc A' n' c' dJ),.int .i64 (nX l)])/\al w w'/\
  (nX l=0->pc=Xy l/\dJ=T' l/\w'.ownsRow w.heap.size 21 1 (.slice A' n' c') (uN l) (bj (Av l (nd l) (uN l))))/\(¬nX l=0->pc=0/\A'=none/\n'=0/\c'=0/\dJ=0):=by
 have y0:al w _:=dM w (.cells (ae 0 none 0 0 0) 47);have hB:=bN w 47 (ae 0 none 0 0 0);have⟨HL,HM,H0⟩:=J3' h.1 h.2.2.1 (h.ext y0);clear h;go_enter func37,ntmps37;go_upto_region 1 with(fail);generalize (w.alloc (.cells (ae 0 none 0 0 0) 47))=W at y0 hB H0⊢;have HY:=J y0;have HB:=J hB;generalize mV:w.heap.size=pb at hB HB⊢;have ku:=J mV;have pW:=hB.lt;clear y0 hB mV;go_wp21;refine(WJ A n cap l N W H0.o).mono ?_;rintro e w1 ⟨A',c',rb,rfl,mC,ET,xp,aw⟩;go_upto_region 3 with(fail);have gx:=bN w1 47 (ae 0 none 0 0 0);have HU2:=J (show IR W (w1.alloc (.cells (ae 0 none 0 0 0) 47)) rb w1.heap.size A' n c' l 0 0 (ae 0 none 0 0 0)from⟨ET.alloc _,gx,xp.ext (dM w1 _),mC,ET.lt,cI _,aw.alloc _⟩);generalize (w1.alloc (.cells (ae 0 none 0 0 0) 47))=w2 at HU2⊢;generalize w1.heap.size=sb at HU2⊢;clear gx ET xp aw mC pW;have HBD:=J HU2.o.B.2.2.2.1;obtain⟨P,hP⟩:=nm' (Xy l);have bP:0<=P/\P<=2048:=by rw [hP];exact⟨(nF HBD.o 2048 0 0).1,um ap 0 0⟩
 have HPC:=J hP;clear hP;go_wp21;refine(vG A' n c' l 0 0 2048 rb rb w2 (cr _) HU2.o.B (cI _) HU2.o.R).mono ?_;rintro e w3 ⟨rfl,hr3,jq⟩;have HU3:=J (HU2.o.num jq hr3 (HU2.o.rd 2048));rw [show oU l 2048 0 0=P from HPC.o.symm];clear hr3 jq HU2;have c3:=bC HU3.o.S;have l3:=HU3.o.S.lt;have m3:=ai.frozen HU3.o.S;go_upto_region 4 with(fail);have HU4:=J (show IR W (w3.setCell ⟨sb,0,none⟩ (.int .i64 P)) rb sb A' n c' l (KY l) (Ix l) (ae P none 0 0 0)from HU3.o.set 0 (.int .i64 P));generalize (w3.setCell ⟨sb,0,none⟩ (.int .i64 P))=w4 at HU4⊢;clear c3 l3 m3 HU3;obtain⟨Q,hQ⟩:=nm' (T' l);have bQ:0<=Q/\Q<=2:=by rw [hQ];exact⟨(nF HBD.o 2 _ _).1,um ap _ _⟩
 have HQC:=J hQ;clear hQ;go_wp21;refine(vG A' n c' l _ _ 2 rb rb w4 (cr _) HU4.o.B HU4.o.hp HU4.o.R).mono ?_;rintro e w5 ⟨rfl,Gl,ss⟩;have HU5:=J (HU4.o.num ss Gl (HU4.o.rd 2));rw [show oU l 2 (KY l) (Ix l)=Q from HQC.o.symm];clear Gl ss HU4;have c3:=bC HU5.o.S;have l3:=HU5.o.S.lt;have m3:=ai.frozen HU5.o.S;go_upto_region 5 with(fail);have HU6:=J (show IR W (w5.setCell ⟨sb,2,none⟩ (.int .i64 Q)) rb sb A' n c' l (Hx l) (Hy l) (ae P none 0 0 Q)from HU5.o.set 2 (.int .i64 Q));generalize (w5.setCell ⟨sb,2,none⟩ (.int .i64 Q))=w6 at HU6⊢;clear c3 l3 m3 HU5;obtain⟨M,hM⟩:=nm' (uN l);have bM:M<=256:=by rw [hM];exact P7 l
 have FK:=J hM;have HMV:=J (show oU l 256 (Hx l) (Hy l)=(M:Int)by rw [hM,uN];have:=(nF HBD.o 256 (Hx l) (Hy l)).1;omega);clear hM;go_wp21;refine(vG A' n c' l _ _ 256 rb rb w6 (cr _) HU6.o.B HU6.o.hp HU6.o.R).mono ?_;rintro e w7 ⟨rfl,Ru,qC⟩;have HU7:=J (show IR W w7 rb sb A' n c' l (nd l) (Iy l) (ae P none 0 0 Q)from HU6.o.num qC Ru (HU6.o.rd 256));rw [HMV.o];clear Ru qC HU6;go_wp21;have hsw:sb+1<=w7.heap.size:=HU7.o.S.lt
 go_loopw [23] (λt23 wr=>∃(j:Nat) (v:Value),j<=M/\t23=.int .i64 j/\uF l (nd l) j=0/\IR W wr rb sb A' n c' l (uP l (nd l) j) (Iy l) #[.int .i64 P,v,.int .i64 Q]/\wr.ownsRow (sb+1) 21 1 v j (bj (Av l (nd l) j))) (λt23 _=>M - (intOf t23).toNat)
 case atStart=>exact⟨0,_,cI _,rfl,rfl,HU7.o,World.ownsRow_nil _ _ _ _⟩
 case round=>
  obtain⟨j,v,hj,rfl,hf,hU,ho⟩:=hrel;have⟨HF,HU,HO⟩:=J3' hf hU ho;clear hf hU ho
  by_cases aP:j<M
  .have gD:(j:Int)<M:=by omega
   have HE:=J (show Iy l=0 from by
    by_cases e:Iy l=0
    .exact e
    .have:=afi e;have:=FK.o;omega)
   obtain⟨X,hX⟩:=nm' (uX l (nd l) j);have TH:=J hX;clear hX;have HR:=J (show IR W wr rb sb A' n c' l (uP l (nd l) j) 0 #[.int .i64 P,v,.int .i64 Q]by have:=HU.o;rwa [HE.o]at this);go_wp21;refine(WI A' n c' l (uP l (nd l) j) 0 rb rb wr (cr _) HR.o.B HR.o.hp HR.o.R).mono ?_;rintro e w8 ⟨rfl,hr8,Gh⟩;have Yz:=J (HR.o.num Gh hr8 (HR.o.rd kz));have wV:=J (cU HO.o Gh (λi hi e=>by have:=(HO.o.lt i hi).1;have:=HR.o.Rv;omega));rw [show Y1 l (uP l (nd l) j) 0=X from TH.o.symm];clear hr8;go_wp21;refine aoT (Cc A' n c' _ _ rb w8 Yz.o.R) ?_;obtain⟨E,hE⟩:=nm' (oO l kz (uP l (nd l) j) 0);rw [<-hE];have HEE:=J hE;clear hE
   by_cases e0:E=0
   .have q0:(E !=0)=false:=by simp [e0]
    have Yr:=J (show oO l kz (uP l (nd l) j) 0=0 from HEE.o.symm.trans e0)
    by_cases hx:-2147483648<=X/\X<=2147483647
    .have HS:=J (show uF l (nd l) (j+1)=0 from by
      unfold uF;rw [ak HF.o];unfold vV;rw [ak Yr.o,ak (by rw [<-TH.o];exact hx)])
     obtain⟨x1,x2⟩:=hx;have c8:=bC Yz.o.S;have l8:=Yz.o.S.lt;have m8:=ai.frozen Yz.o.S;go_upto_region 13 with(fail);obtain⟨v9,w9,hr9,ER,yk⟩:=DO (w8.alloc (.cells #[.int .i32 X] 21)) (sb+1) v j (Av l (nd l) j) ((aI wV.o (dM w8 _))) w8.heap.size 0 1 1 [X] rfl (by simpa [bj]using Row.cF (bN w8 21 #[.int .i32 X])) (by have:=bM;omega) (by simp;have:=Yz.o.S.lt;omega)
     obtain⟨g9,k9,rfl⟩:∃g c,v9=.slice (some ⟨g,0,none⟩) (j+1) c:=by
      rcases ER.2 with⟨_,h0⟩|⟨g,c,cV,hv,r⟩
      .omega
      .exact⟨g,c,hv⟩
     have HU9:=J ((Yz.o.kV (dY w8 (.cells #[.int .i32 X] 21)) (λ_ f=>f.elim)).kV yk (λi e=>(wV.o.lt i e).1));have HO9:=J ER;have c9:=bC HU9.o.S;have l9:=HU9.o.S.lt;have m9:=ai.frozen HU9.o.S;clear ER yk;go_wp2_with (at_builtin;refine Lib.wpList_append_run _ rfl _ _ _ _ rfl _ _ rfl rfl _ _ hr9 ?_);go_roundw
     case rel=>
      refine⟨j+1,.slice (some ⟨g9,0,none⟩) (j+1:Nat) k9,aP,by go_num,HS.o,?_,?_⟩
      .have q:=HU9.o.set 1 (.slice (some ⟨g9,0,none⟩) (j+1:Nat) k9)
       rw [Yr.o]at q;rw [HE.o];exact q
      .rw [vX,<-TH.o]
       exact cU HO9.o (Kept.setCell (S:=(·=sb)) (kR _ w9) _ _ (λ_=>rfl)) (λi hi e=>by have:=(HO9.o.lt i hi).1;omega)
     case measure=>simp only [intOf];omega
    .have zZ:=J (show nX l=2 from by
      have hb:vV l (nd l) j=2:=by unfold vV;rw [ak Yr.o,af (by rw [<-TH.o];exact hx)]
      have hs:uF l (nd l) (j+1)=2:=by unfold uF;rw [ak HF.o,hb]
      have hp:=Au (by rw [hs];decide) (uN l) (by have:=FK.o;omega);unfold nX;rw [ak HE.o,hp,hs,af ap])
     have vl:=bX HB.o Yz.o.X;have d1:=bH vl;have d2:=ai.aC vl;have d3:=vl.lt
     rcases(by omega:X< -2147483648∨(-2147483648<=X/\2147483647<X))with x1|⟨x1,x2⟩
     all_goals go_wp21
     all_goals refine di (t:=47) (g:=pb) (cs:=ae 0 none 0 0 0) results37 rfl rfl jK zQ XP ?_
     all_goals rw [zZ.o]
     all_goals exact⟨0,none,0,0,0,rfl,(HY.o.trans Yz.o.X).putAt _ _ _ (λaP=>absurd aP Tc),λh=>absurd h ap,λ_=>⟨rfl,rfl,rfl,rfl,rfl⟩⟩
   .have q0:(E !=0)=true:=by simp [e0]
    have zZ:=J (show nX l=E from by
     have hb:vV l (nd l) j=E:=by unfold vV;rw [<-HEE.o,af e0]
     have hs:uF l (nd l) (j+1)=E:=by unfold uF;rw [ak HF.o,hb]
     have hp:=Au (by rw [hs];exact e0) (uN l) (by have:=FK.o;omega);unfold nX;rw [ak HE.o,hp,hs,af e0])
    have vl:=bX HB.o Yz.o.X;have d1:=bH vl;have d2:=ai.aC vl;have d3:=vl.lt;go_wp21;refine di (t:=47) (g:=pb) (cs:=ae 0 none 0 0 0) results37 rfl rfl jK zQ XP ?_;rw [zZ.o];exact⟨0,none,0,0,0,rfl,(HY.o.trans Yz.o.X).putAt _ _ _ (λaP=>absurd aP Tc),λh=>absurd h e0,λ_=>⟨rfl,rfl,rfl,rfl,rfl⟩⟩
  .obtain rfl:j=M:=by omega
   go_wp21;refine aoS (WH A' n c' (uP l (nd l) j) (Iy l) rb wr HU.o.hp HM.o HU.o.R) λw8 oo=>?_;have uI:=J (HY.o.trans (HU.o.X.trans oo));have hS8:=HU.o.S.ext oo;have HS8:=J hS8;have vl:=bX HB.o (HU.o.X.trans oo);have HP8:=J vl;have wV:=J (aI HO.o oo);have hpw:∀u:Array Value,al w (putAt w8 pb 0 u):=λu=>uI.o.putAt _ _ _ (λaP=>absurd aP Tc);have HPW:=J hpw;clear oo hpw hS8
   by_cases hE:Iy l=0/\uP l (nd l) j<n
   .have zZ:=J (show nX l=5 by unfold nX;rw [ak hE.1,<-FK.o,ak HF.o,ak (by rw [<-HL.o];exact hE.2)])
    rw [ak hE];have d1:=bH vl;have d2:=ai.aC vl;have d3:=vl.lt;exact akS
   rw [af hE]
   by_cases hE3:Iy l=0
   rotate_left
   .have zZ:=J (show nX l=Iy l by unfold nX;rw [af hE3])
    have mS:=J hE3;generalize Iy l=E at zZ mS hE3⊢;have q0:(E !=0)=true:=by simp [hE3]
    have d1:=bH vl;have d2:=ai.aC vl;have d3:=vl.lt;go_wp21;refine di (t:=47) (g:=pb) (cs:=ae 0 none 0 0 0) results37 rfl rfl jK zQ (by exact ai.cw HP8.o 0 _) ?_;rw [zZ.o];exact⟨0,none,0,0,0,rfl,HPW.o _,λh=>absurd h mS.o,λ_=>⟨rfl,rfl,rfl,rfl,rfl⟩⟩
   rw [hE3];have l7:¬uP l (nd l) j<l.length:=by have:=HL.o;rw [<-this];exact λq=>hE ⟨hE3,q⟩
   have IB:=J l7;have HE3:=J hE3
   have LI:∃(A9:Option Addr) (c9:Nat),v=.slice A9 j c9:=by
    rcases wV.o.2 with⟨h1,h0⟩|⟨g,c,cV,hv,r⟩
    .exact⟨none,0,by rw [h1,h0]⟩
    .exact⟨_,c,hv⟩
   obtain⟨A9,c9,rfl⟩:=LI;clear hE hE3 l7;have i1:=bC HS8.o;have i2:=HS8.o.lt;have i3:=bH HS8.o;have i4:=bG HS8.o;have d1:=bH vl;have d2:=ai.aC vl;have d3:=vl.lt
   by_cases Pk:j=0
   .have zZ:=J (show nX l=3 by unfold nX;rw [ak HE3.o,<-FK.o,ak HF.o,af IB.o,ak Pk])
    have q0:((j:Int)==0)=true:=by simp [Pk]
    exact akS
   .have zZ:=J (show nX l=0 by unfold nX;rw [ak HE3.o,<-FK.o,ak HF.o,af IB.o,af Pk])
    have q0:((j:Int)==0)=false:=by simp [Pk]
    go_wp21;refine di (t:=47) (g:=pb) (cs:=ae P A9 j c9 Q) results37 rfl rfl jK zQ (by exact ai.cw HP8.o 0 _) ?_;rw [zZ.o];refine⟨P,A9,j,c9,Q,rfl,HPW.o _,λ_=>⟨HPC.o,HQC.o,?_⟩,λh=>absurd rfl h⟩;rw [<-FK.o];exact eI (cU wV.o (Kept.putAt (S:=(·=pb)) (kR _ w8) _ _ _ (λ_=>rfl)) (λi hi e=>by have:=(wV.o.lt i hi).1;have:=HU.o.hW;have:=HU.o.Rv;have:=HB.o.lt;omega)) (by have:=ku.o;have:=HU.o.hW;have:=HU.o.Rv;have:=HB.o.lt;omega)
structure Qs (W w:World) (N rb:Nat) (A:Option Addr) (n c:Nat) (l:List Int) (p:Nat) (e:Int):Prop where
 R:ai w rb 152 (pz A n c p e)
 B:Ic w N A n c l
 hN:N<=W.heap.size
 hW:W.heap.size<=rb
 hp:p<=n
 X:al W w
theorem Qs.rd {w:World} {N:Nat} {A:Option Addr} {n c:Nat} {l:List Int} {p:Nat} {e:Int} (h:Qs W w N rb A n c l p e) (most:Int):pw l most p e<=n:=by
 have h1:=h.B.1;have:=WW l most p e (by rw [<-h1];exact h.hp)
 omega
theorem Qs.ext {w w':World} {N:Nat} {A:Option Addr} {n c:Nat} {l:List Int} {p:Nat} {e:Int} (h:Qs W w N rb A n c l p e) (hx:al w w'):Qs W w' N rb A n c l p e:=
 ⟨h.R.ext hx,h.B.ext hx,h.hN,h.hW,h.hp,h.X.trans hx⟩
theorem Qs.put {w:World} {N:Nat} {A:Option Addr} {n c:Nat} {l:List Int} {p:Nat} {e:Int} (h:Qs W w N rb A n c l p e) (p':Nat) (e':Int) (hp:p'<=n):Qs W (putAt w rb 0 (pz A n c p' e')) N rb A n c l p' e':=
 have hk:Kept (·=rb) w (putAt w rb 0 (pz A n c p' e')):=Kept.putAt (kR _ w) _ _ _ (λ_=>rfl)
 ⟨h.R.cw 0 _,h.B.yx hk (λi e=>by have:=h.hN;have:=h.hW;omega),h.hN,h.hW,hp,h.X.trans' hk (λi hi e=>by have:=h.hW;omega)⟩
structure OQ (W w:World) (N rb sb:Nat) (A:Option Addr) (n c:Nat) (l:List Int) (p:Nat) (e:Int) (cs:Array Value):Prop where
 V:Qs W w N rb A n c l p e
 S:ai w sb 93 cs
 hs:rb<sb
theorem OQ.ext {w w':World} {N:Nat} {A:Option Addr} {n c:Nat} {l:List Int} {p:Nat} {e:Int} {cs:Array Value} (h:OQ W w N rb sb A n c l p e cs) (hx:al w w'):OQ W w' N rb sb A n c l p e cs:=⟨h.V.ext hx,h.S.ext hx,h.hs⟩
theorem OQ.put {w:World} {N:Nat} {A:Option Addr} {n c:Nat} {l:List Int} {p:Nat} {e:Int} {cs:Array Value} (h:OQ W w N rb sb A n c l p e cs) (p':Nat) (e':Int) (hp:p'<=n):OQ W (putAt w rb 0 (pz A n c p' e')) N rb sb A n c l p' e' cs:=
 ⟨h.V.put p' e' hp,h.S.kept (S:=(·=rb)) (Kept.putAt (kR _ w) _ _ _ (λ_=>rfl)) (by have:=h.hs;omega),h.hs⟩
theorem OQ.kV {w w':World} {N:Nat} {A:Option Addr} {n c:Nat} {l:List Int} {p:Nat} {e:Int} {cs:Array Value} (h:OQ W w N rb sb A n c l p e cs) (hk:Kept T w w') (hs:∀i,T i->sb<i):OQ W w' N rb sb A n c l p e cs:=
 ⟨⟨h.V.R.kept hk (λq=>by have:=hs _ q;have:=h.hs;omega),h.V.B.yx hk (λi q=>by have:=hs i q;have:=h.V.hN;have:=h.V.hW;have:=h.hs;omega),h.V.hN,h.V.hW,h.V.hp,h.V.X.trans' hk (λi hi q=>by have:=hs i q;have:=h.V.hW;have:=h.hs;omega)⟩,h.S.kept hk (λq=>by have:=hs _ q;omega),h.hs⟩
theorem OQ.set {w:World} {N:Nat} {A:Option Addr} {n c:Nat} {l:List Int} {p:Nat} {e:Int} {cs:Array Value} (h:OQ W w N rb sb A n c l p e cs) (i:Nat) (u:Value):OQ W (w.setCell ⟨sb,i,none⟩ u) N rb sb A n c l p e (cs.setIfInBounds i u):=
 have hk:Kept (·=sb) w (w.setCell ⟨sb,i,none⟩ u):=Kept.setCell (kR _ w) _ _ (λ_=>rfl)
 ⟨⟨h.V.R.kept hk (by have:=h.hs;omega),h.V.B.yx hk (λj q=>by have:=h.V.hN;have:=h.V.hW;have:=h.hs;omega),h.V.hN,h.V.hW,h.V.hp,h.V.X.trans' hk (λj hj q=>by have:=h.V.hW;have:=h.hs;omega)⟩,h.S.eK i u,h.hs⟩
theorem Kt (A:Option Addr) (n cap:Nat) (l:List Int) (N:Nat) (w:World) (hNw:N<=w.heap.size) (h:Ic w N A n cap l):
 Calls prog 40 #[.slice A n cap] w λe w'=>∃(pc:Int) (A':Option Addr) (n' c':Nat) (dJ:Int),e=.returned (.tuple #[.agg (ae pc A' n' c' dJ),.int .i64 (nX l)])/\al w w'/\
  (nX l=0->pc=Xy l/\dJ=T' l/\w'.ownsRow w.heap.size 21 1 (.slice A' n' c') (uN l) (bj (Av l (nd l) (uN l))))/\(¬nX l=0->pc=0/\A'=none/\n'=0/\c'=0/\dJ=0):=by
 have y0:al w _:=dM w (.cells (ae 0 none 0 0 0) 93);have hB:=bN w 93 (ae 0 none 0 0 0);have⟨HL,HM,H0⟩:=J3' h.1 h.2.2.1 (h.ext y0);clear h;go_enter func40,ntmps40;go_upto_region 1 with(fail);generalize (w.alloc (.cells (ae 0 none 0 0 0) 93))=W at y0 hB H0⊢;have HY:=J y0;have HB:=J hB;generalize mV:w.heap.size=pb at hB HB⊢;have ku:=J mV;have pW:=hB.lt;clear y0 hB mV;go_upto_region 2 with(fail);have qV:=J (show Qs W (W.alloc (.cells (pz A n cap 0 0) 152)) N W.heap.size A n cap l 0 0 from⟨bN W 152 (pz A n cap 0 0),H0.o.ext (dM W _),ax hNw HY.o.size,cr _,cI _,dM W _⟩);generalize (W.alloc (.cells (pz A n cap 0 0) 152))=w0 at qV⊢;obtain⟨rb,mC⟩:=nm' W.heap.size;rw [<-mC]at qV⊢;have wW:=J mC;clear mC pW;have c0:=bH qV.o.R;have c1:=bG qV.o.R;have c2:=qV.o.R.lt;have HBD:=J H0.o.2.2.2.1;obtain⟨P,hP⟩:=nm' (Xy l);have bP:0<=P/\P<=2048:=by rw [hP];exact⟨(nF HBD.o 2048 0 0).1,um ap 0 0⟩
 have HPC:=J hP;clear hP;go_wp2_with fail;refine aoS (sJ A n cap l 0 0 2048 N w0 (ax qV.o.hN qV.o.X.size) qV.o.B (cI _)) λw1 aw=>?_;rw [show oU l 2048 0 0=P from HPC.o.symm];have Ek:=J (qV.o.ext aw);clear c0 c1 c2 aw;have c0:=bH Ek.o.R;have c2:=Ek.o.R.lt;have c3:=ai.aC Ek.o.R;go_upto_region 3 with(fail);have zt:=J (show Qs W (putAt w1 rb 0 (pz A n cap (pw l 2048 0 0) (oO l 2048 0 0))) N rb A n cap l (KY l) (Ix l)from Ek.o.put _ _ (qV.o.rd 2048));generalize (putAt w1 rb 0 (pz A n cap (pw l 2048 0 0) (oO l 2048 0 0)))=w2 at zt⊢;clear c0 c2 c3 Ek qV;obtain⟨Q,hQ⟩:=nm' (T' l);have bQ:0<=Q/\Q<=2:=by rw [hQ];exact⟨(nF HBD.o 2 _ _).1,um ap _ _⟩
 have HQC:=J hQ;clear hQ;have c0:=bH zt.o.R;have c1:=bG zt.o.R;have c2:=zt.o.R.lt;go_wp2_with fail;refine aoS (sJ A n cap l _ _ 2 N w2 (ax zt.o.hN zt.o.X.size) zt.o.B zt.o.hp) λw3 dv=>?_;rw [show oU l 2 (KY l) (Ix l)=Q from HQC.o.symm];have HV3:=J (zt.o.ext dv);clear c0 c1 c2 dv;have c0:=bH HV3.o.R;have c2:=HV3.o.R.lt;have c3:=ai.aC HV3.o.R;go_upto_region 4 with(fail);have Up:=J (show Qs W (putAt w3 rb 0 (pz A n cap (pw l 2 (KY l) (Ix l)) (oO l 2 (KY l) (Ix l)))) N rb A n cap l (Hx l) (Hy l)from HV3.o.put _ _ (zt.o.rd 2));generalize (putAt w3 rb 0 (pz A n cap (pw l 2 (KY l) (Ix l)) (oO l 2 (KY l) (Ix l))))=w4 at Up⊢;clear c0 c2 c3 HV3 zt;obtain⟨M,hM⟩:=nm' (uN l);have bM:M<=256:=by rw [hM];exact P7 l
 have FK:=J hM;have HMV:=J (show oU l 256 (Hx l) (Hy l)=(M:Int)by rw [hM,uN];have:=(nF HBD.o 256 (Hx l) (Hy l)).1;omega);clear hM;have c0:=bH Up.o.R;have c1:=bG Up.o.R;have c2:=Up.o.R.lt;go_wp2_with fail;refine aoS (sJ A n cap l _ _ 256 N w4 (ax Up.o.hN Up.o.X.size) Up.o.B Up.o.hp) λw5 iG=>?_;rw [HMV.o];have HV5:=J (Up.o.ext iG);clear c0 c1 c2 iG;have c0:=bH HV5.o.R;have c2:=HV5.o.R.lt;have c3:=ai.aC HV5.o.R;go_upto_region 5 with(fail);have HV6:=J (show Qs W (putAt w5 rb 0 (pz A n cap (pw l 256 (Hx l) (Hy l)) (oO l 256 (Hx l) (Hy l)))) N rb A n cap l (nd l) (Iy l)from HV5.o.put _ _ (Up.o.rd 256));generalize (putAt w5 rb 0 (pz A n cap (pw l 256 (Hx l) (Hy l)) (oO l 256 (Hx l) (Hy l))))=w6 at HV6⊢;clear c0 c2 c3 HV5 Up;go_upto_region 6 with(fail);have Ih:=J (show OQ W (w6.alloc (.cells (ae P none 0 0 Q) 93)) N rb w6.heap.size A n cap l (nd l) (Iy l) (ae P none 0 0 Q)from⟨HV6.o.ext (dM w6 _),bN w6 _ _,HV6.o.R.lt⟩);generalize (w6.alloc (.cells (ae P none 0 0 Q) 93))=w7 at Ih⊢;generalize w6.heap.size=sb at Ih⊢;clear HV6;go_wp2_with fail;have hsw:sb+1<=w7.heap.size:=Ih.o.S.lt
 go_loopw [9] (λt9 wr=>∃(j p:Nat) (e:Int) (v:Value) (ws:List Int),j<=M/\t9=.int .i64 j/\ws.length=j/\(e=0->Iy l=0/\uF l (nd l) j=0/\p=uP l (nd l) j/\ws=Av l (nd l) j)/\(¬e=0->nX l=e)/\OQ W wr N rb sb A n cap l p e #[.int .i64 P,v,.int .i64 Q]/\wr.ownsRow (sb+1) 21 1 v j (bj ws)) (λt9 _=>M - (intOf t9).toNat)
 case atStart=>exact⟨0,_,_,_,[],cI _,rfl,rfl,λh=>⟨h,rfl,rfl,rfl⟩,λh=>by unfold nX;rw [af h],Ih.o,World.ownsRow_nil _ _ _ _⟩
 case round=>
  obtain⟨j,p,e,v,ws,hj,rfl,T7,h0,h1,hX,ho⟩:=hrel;have⟨HWL,H0J,H1J,HX,HO⟩:=J5' T7 h0 h1 hX ho;clear T7 h0 h1 hX ho;have c0:=bH HX.o.V.R;have c1:=bG HX.o.V.R;have c2:=HX.o.V.R.lt
  by_cases aP:j<M
  .have gD:(j:Int)<M:=by omega
   obtain⟨E,hE⟩:=nm' (oO l kz p e);obtain⟨P',hP'⟩:=nm' (pw l kz p e);obtain⟨V,hV⟩:=nm' (oU l kz p e);have⟨HE,HPP,HV⟩:=J3' hE hP' hV;have hVb:=nF HBD.o kz p e;rw [<-hV]at hVb;obtain⟨v1,v2⟩:=hVb;clear hE hP' hV;go_wp2_with fail;refine aoS (sJ A n cap l p e kz N wr (ax HX.o.V.hN HX.o.V.X.size) HX.o.V.B HX.o.V.hp) λw8 oo=>?_;rw [<-HE.o,<-HPP.o,<-HV.o];clear c0 c1 c2;go_upto_region 10 with(fail);have uI:=J (HX.o.ext (oo.alloc (.cells (pz A n cap P' E) 152)));have b8:=bN w8 152 (pz A n cap P' E);have wV:=J (aI HO.o (oo.alloc (.cells (pz A n cap P' E) 152)));generalize (w8.alloc (.cells (pz A n cap P' E) 152))=w9 at uI wV b8⊢;generalize w8.heap.size=nb at b8⊢;have c0:=bH b8;have c1:=bG b8;have c2:=b8.lt;have d0:=bH uI.o.V.R;have d1:=ai.aC uI.o.V.R;have d2:=uI.o.V.R.lt;clear oo b8;go_upto_region 11 with(fail);have vl:P'<=n:=by rw [HPP.o];exact HX.o.V.rd kz
   have zu:=J (uI.o.put P' E vl);have HO9:=J (cU (S:=(·=rb)) wV.o (Kept.putAt (kR _ w9) rb 0 (pz A n cap P' E) (λ_=>rfl)) (λi hi q=>by have:=(wV.o.lt i hi).1;have:=uI.o.hs;omega));generalize (putAt w9 rb 0 (pz A n cap P' E))=wa at zu HO9⊢;clear c0 c1 c2 d0 d1 d2 uI wV;obtain⟨X,hX⟩:=nm' (LM V);go_wp2_with fail;refine aoT (Xc V v1 v2 wa) ?_;rw [<-hX];have TH:=J hX;clear hX v1 v2;have c1:=bC zu.o.V.R;have c2:=zu.o.V.R.lt;have s1:=bC zu.o.S;have s2:=zu.o.S.lt
   by_cases aek:E=0/\¬(-2147483648<=X/\X<=2147483647)
   .obtain⟨Pg,hx⟩:=aek
    have q0:(E==0)=true:=by simp [Pg]
    have zZ:=J (show nX l=2 from by
     have hz:e=0:=by
      by_cases q:e=0
      .exact q
      .have:=HE.o;rw [G_ q]at this;omega
     subst hz;obtain⟨f0,f1,f2,f3⟩:=H0J.o rfl
     have hb:vV l (nd l) j=2:=by
      unfold vV uX;rw [<-f2,<-HE.o,ak Pg,NG,<-HV.o,<-TH.o,af hx]
     have hs:uF l (nd l) (j+1)=2:=by unfold uF;rw [ak f1,hb]
     have hp:=Au (by rw [hs];decide) (uN l) (by have:=FK.o;omega);unfold nX;rw [ak f0,hp,hs,af ap])
    have YI:=bX HB.o zu.o.V.X;have d1:=bH YI;have d2:=ai.aC YI;have d3:=YI.lt
    rcases(by omega:X< -2147483648∨(-2147483648<=X/\2147483647<X))with x1|⟨x1,x2⟩
    all_goals clear hx Pg
    all_goals go_wp2_with fail
    all_goals refine di (t:=93) (g:=pb) (cs:=ae 0 none 0 0 0) results40 rfl rfl j0 (by exact jb) (by exact ai.cw YI 0 _) ?_
    all_goals rw [zZ.o]
    all_goals exact⟨0,none,0,0,0,rfl,(HY.o.trans zu.o.V.X).putAt _ _ _ (λaP=>absurd aP Tc),λh=>absurd h ap,λ_=>⟨rfl,rfl,rfl,rfl,rfl⟩⟩
   .have hx:-2147483648<=X/\X<=2147483647:=by
     by_cases q:E=0
     .by_cases hx:-2147483648<=X/\X<=2147483647
      .exact hx
      .exact absurd ⟨q,hx⟩ aek
     .have:V=0:=by rw [HV.o];exact PT (by rw [<-HE.o];exact q)
      rw [TH.o,this]
      decide
    have H0N:=J (show E=0->Iy l=0/\uF l (nd l) (j+1)=0/\P'=uP l (nd l) (j+1)/\ws++[X]=Av l (nd l) (j+1)from λPg=>by
     have hz:e=0:=by
      by_cases q:e=0
      .exact q
      .have:=HE.o;rw [G_ q]at this;omega
     subst hz;obtain⟨f0,f1,f2,f3⟩:=H0J.o rfl;have fj:X=uX l (nd l) j:=by unfold uX;rw [<-f2,NG,<-HV.o];exact TH.o
     refine⟨f0,?_,by rw [HPP.o,f2];rfl,by rw [vX,f3,fj]⟩;unfold uF;rw [ak f1];unfold vV;rw [<-f2,<-HE.o,ak Pg,<-fj,ak hx])
    have H1N:=J (show¬E=0->nX l=E from λPg=>by
     by_cases q:e=0
     .subst q
      obtain⟨f0,f1,f2,f3⟩:=H0J.o rfl;have hb:vV l (nd l) j=E:=by unfold vV;rw [<-f2,<-HE.o,af Pg]
      have hs:uF l (nd l) (j+1)=E:=by unfold uF;rw [ak f1,hb]
      have hp:=Au (by rw [hs];exact Pg) (uN l) (by have:=FK.o;omega);unfold nX;rw [ak f0,hp,hs,af Pg]
     .rw [HE.o,G_ q];exact H1J.o q)
    obtain⟨x1,x2⟩:=hx;clear aek;have hs:(E==0)=true∨(E==0)=false:=by cases(E==0)<;>simp
    obtain⟨v9,w9,hr9,ER,yk⟩:=DO (wa.alloc (.cells #[.int .i32 X] 21)) (sb+1) v j ws (aI HO9.o (dM wa _)) wa.heap.size 0 1 1 [X] rfl (by simpa [bj]using Row.cF (bN wa 21 #[.int .i32 X])) (by have:=bM;omega) (by simp;have:=zu.o.S.lt;omega)
    obtain⟨g9,k9,rfl⟩:∃g c,v9=.slice (some ⟨g,0,none⟩) (j+1) c:=by
     rcases ER.2 with⟨_,h0⟩|⟨g,c,cV,hv,r⟩
     .omega
     .exact⟨g,c,hv⟩
    have z_:=J ((zu.o.kV (dY wa (.cells #[.int .i32 X] 21)) (λ_ f=>f.elim)).kV yk (λi e=>(HO9.o.lt i e).1));have qw:=J ER;have b1:=bC z_.o.S;have b2:=z_.o.S.lt;have b3:=ai.frozen z_.o.S;clear ER yk
    rcases hs with q0|q0
    all_goals go_upto_region 14 with(fail)
    all_goals go_wp2_with (at_builtin;refine Lib.wpList_append_run _ rfl _ _ _ _ rfl _ _ rfl rfl _ _ hr9 ?_)
    all_goals go_roundw
    all_goals first|(simp only [intOf];omega)|refine⟨j+1,P',E,.slice (some ⟨g9,0,none⟩) (j+1:Nat) k9,ws++[X],aP,by go_num,by simp [HWL.o],H0N.o,H1N.o,z_.o.set 1 (.slice (some ⟨g9,0,none⟩) (j+1:Nat) k9),cU qw.o (Kept.setCell (S:=(·=sb)) (kR _ w9) _ _ (λ_=>rfl)) (λi hi e=>by have:=(qw.o.lt i hi).1;omega)⟩
  .obtain rfl:j=M:=by omega
   go_wp2_with fail;refine aoS (WZ A n cap p e HM.o wr) λw8 oo=>?_;have uI:=J (HX.o.ext oo);have wV:=J (aI HO.o oo);have vl:=bX HB.o uI.o.V.X;have hpw:∀u:Array Value,al w (putAt w8 pb 0 u):=λu=>(HY.o.trans uI.o.V.X).putAt _ _ _ (λaP=>absurd aP Tc);have HPW:=J hpw;clear c0 c1 c2 oo hpw;have d1:=bH vl;have d2:=ai.aC vl;have d3:=vl.lt;obtain⟨R,hR⟩:=nm' ((if e=0/\p<n then 5 else e:Int));rw [<-hR]
   by_cases tE:R=0
   rotate_left
   .have q0:(R !=0)=true:=by simp [tE]
    have zZ:=J (show nX l=R by
     by_cases q:e=0
     .subst q
      obtain⟨f0,f1,f2,f3⟩:=H0J.o rfl
      have yq:p<n:=by
       by_cases z:p<n
       .exact z
       .rw [af (λq=>z q.2)]at hR;exact absurd hR tE
      rw [ak ⟨rfl,yq⟩]at hR;unfold nX;rw [ak f0,<-FK.o,ak f1,<-f2,ak (by rw [<-HL.o];exact yq),hR]
     .rw [af (λz=>q z.1)]at hR
      rw [hR];exact H1J.o q)
    have mS:=J tE;clear hR tE;go_wp2_with fail;refine di (t:=93) (g:=pb) (cs:=ae 0 none 0 0 0) results40 rfl rfl j0 (by exact jb) XP ?_;rw [zZ.o];exact⟨0,none,0,0,0,rfl,HPW.o _,λh=>absurd h mS.o,λ_=>⟨rfl,rfl,rfl,rfl,rfl⟩⟩
   .have Pg:e=0:=by
     by_cases q:e=0
     .exact q
     .rw [af (λz=>q z.1)]at hR;omega
    subst Pg;have yq:¬p<n:=λz=>by rw [ak ⟨rfl,z⟩]at hR;omega
    subst tE;clear hR;obtain⟨f0,f1,f2,f3⟩:=H0J.o rfl;have HPU:=J (show¬uP l (nd l) j<l.length by rw [<-f2,<-HL.o];exact yq);have HF:=J (ew f0 f1);rw [f3]at wV;clear f0 f1 f2 f3 yq
    by_cases Pk:j=0
    .have zZ:=J (show nX l=3 by unfold nX;rw [ak HF.o.1,<-FK.o,ak HF.o.2,af HPU.o,ak Pk])
     have q0:((j:Int)==0)=true:=by simp [Pk]
     clear Pk;go_wp2_with fail;refine di (t:=93) (g:=pb) (cs:=ae 0 none 0 0 0) results40 rfl rfl j0 (by exact jb) XP ?_;rw [zZ.o];exact⟨0,none,0,0,0,rfl,HPW.o _,λh=>absurd h ap,λ_=>⟨rfl,rfl,rfl,rfl,rfl⟩⟩
    .have zZ:=J (show nX l=0 by unfold nX;rw [ak HF.o.1,<-FK.o,ak HF.o.2,af HPU.o,af Pk])
     have q0:((j:Int)==0)=false:=by simp [Pk]
     obtain⟨A9,c9,rfl⟩:∃(A9:Option Addr) (c9:Nat),v=.slice A9 j c9:=by
      rcases wV.o.2 with⟨h1,h0⟩|⟨g,c,cV,hv,r⟩
      .exact⟨none,0,by rw [h1,h0]⟩
      .exact⟨_,c,hv⟩
     have i2:=uI.o.S.lt;have i3:=bH uI.o.S;have i4:=bG uI.o.S;clear Pk;go_wp2_with fail;refine di (t:=93) (g:=pb) (cs:=ae P A9 j c9 Q) results40 rfl rfl j0 (by exact jb) XP ?_;rw [zZ.o];refine⟨P,A9,j,c9,Q,rfl,HPW.o _,λ_=>⟨HPC.o,HQC.o,?_⟩,λh=>absurd rfl h⟩;rw [<-FK.o];exact eI (cU wV.o (Kept.putAt (S:=(·=pb)) (kR _ w8) _ _ _ (λ_=>rfl)) (λi hi e=>by have:=(wV.o.lt i hi).1;have:=uI.o.V.hW;have:=uI.o.hs;have:=HB.o.lt;omega)) (by have:=ku.o;have:=uI.o.V.hW;have:=uI.o.hs;have:=HB.o.lt;omega)
theorem xO (x:Int) (r:List Int):∀k,gJ (x::r) (k+1)=x%128+128*gJ r k
 |0=>by simp [gJ]
 |k+1=>by
  have ih:=xO x r k;rw [gJ,ih];show _=x%128+128*(gJ r k+r.getD k 0%128*2^(7*k));rw [List.getD_cons_succ,show 7*(k+1)=7+7*k by omega,Int.pow_add];rw [Int.mul_add,<-Int.add_assoc]
  congr 1
  rw [show(2:Int)^7=128 by decide,<-Int.mul_assoc,Int.mul_comm _ 128,Int.mul_assoc]
structure Em (d:List Int) (k:Nat):Prop where
 lt:k<d.length
 more:∀j,j<k->128<=d.getD j 0
 last:d.getD k 0<128
 nz:0<k->¬d.getD k 0=0
theorem Qa:∀(k:Nat) (d:List Int),bI d->Em d k->0<=gJ d (k+1)/\b_ (gJ d (k+1)).toNat=d.take (k+1)
 |_,[],_,h=>by have:=h.lt;simp at this
 |0,x::r,hb,h=>by
  have hx:=hb x aB;have hl:=h.last;simp at hl;have e:gJ (x::r) 1=x:=by simp [gJ];omega
  rw [e];refine⟨hx.1,?_⟩;rw [ii ad];simp
  omega
 |k+1,x::r,hb,h=>by
  have hx:=hb x aB;have h0:=h.more 0 ad;simp at h0;have hn:=h.nz ad;simp only [List.getD_cons_succ]at hn;have hr:Em r k:=⟨by have:=h.lt;simpa using this,λj hj=>by have:=h.more (j+1) ad;simpa using this,by have:=h.last;simpa using this,λ_=>hn⟩;obtain⟨ih0,ih⟩:=Qa k r (λy hy=>hb y (by simp [hy])) hr;have hv:=xO x r (k+1)
  have hm:0<gJ r (k+1):=by
   rcases(by omega:gJ r (k+1)=0∨0<gJ r (k+1))with q|q
   .exfalso
    rw [q]at ih;have e:b_ (0:Int).toNat=[0]:=by rw [ii ap];rfl
    rw [e]at ih;have hl:=congrArg List.length ih;rw [mz]at hl;have:=hr.lt;simp at hl;have hk:k=0:=by omega
    subst hk;have hg:=congrArg (λl=>l.getD 0 0) ih
    cases r with
    |nil=>simp at this
    |cons y r=>simp at hg hn;exact hn hg.symm
   .exact q
  rw [hv];refine⟨by omega,?_⟩;rw [lY ad,List.take_succ_cons]
  congr 1
  .omega
  .rw [<-ih]
   congr 1
   omega
theorem aaX (n:Nat) (rest:List Int):∃k,(b_ n).length=k+1/\Em (b_ n++rest) k/\gJ (b_ n++rest) (k+1)=n:=by
 induction n using Nat.strongRecOn with
 |_ n ih=>
  by_cases h:n<128
  .rw [ii h]
   refine⟨0,rfl,⟨by simp,λj hj=>by omega,by simp;omega,λq=>by omega⟩,?_⟩;simp [gJ]
   omega
  .rw [lY h]
   obtain⟨k,h1,h2,h3⟩:=ih (n / 128) ad;refine⟨k+1,by simp [h1],⟨?_,?_,?_,?_⟩,?_⟩
   .have:=h2.lt
    simp only [List.cons_append,iQ]
    omega
   .intro j hj
    cases j with
    |zero=>simp;omega
    |succ j=>simp only [List.cons_append,List.getD_cons_succ];exact h2.more j ad
   .simp only [List.cons_append,List.getD_cons_succ];exact h2.last
   .intro _
    simp only [List.cons_append,List.getD_cons_succ]
    rcases Nat.eq_zero_or_pos k with rfl|hk
    .have hs:b_ (n / 128)=[((n / 128:Nat):Int)]:=by
      by_cases q:n / 128<128
      .rw [ii q]
      .rw [lY q]at h1
       have:=lZ (n / 128 / 128);simp at h1;rw [h1]at this;simp at this
     rw [hs];simp
     omega
    .exact h2.nz hk
   .rw [List.cons_append,xO,h3]
    omega
theorem Em.look {d:List Int} {k:Nat} (h:Em d k) (hk:k<=9) (h9:k=9->d.getD 9 0<=1):eC d=0/\iw d=k+1/\gM d=gJ d (k+1):=by
 have hl:fP d=k:=lK (Nat.le_of_lt h.lt) ad h.more (.inr (.inr h.last))
 have he:eC d=0:=by
  unfold eC;rw [hl,af ad,af (by have:=h.lt;omega),af];rintro(⟨q1,q2⟩|⟨q1,q2⟩)
  .exact h.nz q1 q2
  .have:=h9 q1
   omega
 unfold iw gM;rw [ak he,ak he,hl];exact⟨he,rfl,rfl⟩
theorem RH (n:Nat) (hn:n<18446744073709551616) (rest:List Int) (hr:bI rest):eC (b_ n++rest)=0/\iw (b_ n++rest)=(b_ n).length/\gM (b_ n++rest)=n:=by
 obtain⟨k,h1,h2,h3⟩:=aaX n rest;have hlen:=jD 10 n ad ad
 have hb:bI (b_ n++rest):=λx hx=>by
  rcases lr.1 hx with hx|hx
  .exact mN n x hx
  .exact hr x hx
 have h9:k=9->(b_ n++rest).getD 9 0<=1:=by
  rintro rfl;have h4:=(qm hb 9).1;have h5:gJ (b_ n++rest) 10=gJ (b_ n++rest) 9+(b_ n++rest).getD 9 0%128*2^63:=rfl;have h6:=h2.last;have h7:=(jQ hb 9).1;rw [h3]at h5
  omega
 obtain⟨q1,q2,q3⟩:=h2.look ad h9;exact⟨q1,by rw [q2,h1],by rw [q3,h3]⟩
theorem P3 (p:Int->Bool):∀(l:List Int) (j:Nat),j<(l.takeWhile p).length->p (l.getD j 0)=true
 |[],j,h=>by simp at h
 |x::r,j,h=>by
  rw [List.takeWhile_cons]at h
  split at h
  .rename_i hx
   cases j with
   |zero=>simpa using hx
   |succ j=>simp only [List.getD_cons_succ];exact P3 p r j rU
  .simp at h
theorem P2 (p:Int->Bool):∀(l:List Int),(l.takeWhile p).length<l.length->p (l.getD (l.takeWhile p).length 0)=false
 |[],h=>by simp at h
 |x::r,h=>by
  by_cases hx:p x=true
  .have ht:(x::r).takeWhile p=x::r.takeWhile p:=by rw [List.takeWhile_cons,ak hx]
   rw [ht]at h⊢;simp only [iQ,List.getD_cons_succ];exact P2 p r rU
  .have ht:(x::r).takeWhile p=[]:=by rw [List.takeWhile_cons,af hx]
   rw [ht]
   simpa using hx
theorem S2 (d:List Int) (hb:bI d) (h:eC d=0):d=b_ (gM d).toNat++d.drop (iw d):=by
 have hk:fP d<=10:=by
  exact Qf
 have nS:fP d<=d.length:=by
  exact Qf
 have h':=h;unfold eC at h'
 split at h'
 .omega
 rename_i n10
 split at h'
 .omega
 rename_i aoQ
 split at h'
 .omega
 rename_i anf
 have hg:∀j,j<10->(d.take 10).getD j 0=d.getD j 0:=λj hj=>by
  simp only [List.getD_eq_getElem?_getD,List.getElem?_take,ak hj]
 have hN:Em d (fP d):=by
  refine⟨by omega,λj hj=>?_,?_,λq1 q2=>anf (.inl ⟨q1,q2⟩)⟩
  .have:=P3 (λx=>decide (128<=x)) (d.take 10) j hj
   rw [hg j ad]at this
   simpa using this
  .have:=P2 (λx=>decide (128<=x)) (d.take 10) (by
    show fP d<_;rw [mz];omega)
   change (λx=>decide (128<=x)) ((d.take 10).getD (fP d) 0)=false at this;rw [hg _ ad]at this;simp at this;exact this
 obtain⟨_,hv⟩:=Qa _ d hb hN;have e1:gM d=gJ d (fP d+1):=by unfold gM;rw [ak h]
 have e2:iw d=fP d+1:=by unfold iw;rw [ak h]
 rw [e1,e2,hv,List.take_append_drop]
theorem FU {a b:List Int} (h:bI (a++b)):bI b:=λx hx=>h x (List.mem_append_right _ hx)
theorem PU {l:List Int} (hb:bI l) {most:Int} {p m:Nat} (h:l.drop p=b_ m++rest) (hm:m<18446744073709551616) (ahQ:(m:Int)<=most):oO l most p 0=0/\oU l most p 0=m/\l.drop (pw l most p 0)=rest:=by
 have hr:bI rest:=FU (by rw [<-h];exact j' hb p);obtain⟨q1,q2,q3⟩:=RH m hm rest hr;rw [<-h]at q1 q2 q3
 have e:oO l most p 0=0:=by
  unfold oO;rw [ak rfl,ak q1,q3,af ad]
 unfold pw oU;rw [ak ⟨rfl,e⟩,ak ⟨rfl,e⟩,q2,q3];refine⟨e,rfl,?_⟩;rw [<-List.drop_drop,h,List.drop_left]
theorem Aj {l:List Int} (hb:bI l) {most:Int} {p:Nat} {e:Int} (h:oO l most p e=0):e=0/\l.drop p=b_ (oU l most p e).toNat++l.drop (pw l most p e):=by
 have he:e=0:=by
  by_cases q:e=0
  .exact q
  .rw [(WY (l:=l) (most:=most) (at_:=p) q).1]at h
   exact h
 subst he;refine⟨rfl,?_⟩
 have hl:eC (l.drop p)=0:=by
  unfold oO at h;rw [ak rfl]at h
  split at h
  .assumption
  .exact h
 unfold oU pw;rw [ak ⟨rfl,h⟩,ak ⟨rfl,h⟩,<-List.drop_drop];exact S2 _ (j' hb p) hl
theorem XA (n:Int):LM (eX n)=n:=by
 unfold LM eX
 by_cases h:n<0
 .rw [ak h,ak ad];omega
 .rw [af h,af ad];omega
theorem U6 {v:Int} (h:0<=v):eX (LM v)=v.toNat:=by
 unfold LM
 by_cases h1:v%2=1
 .rw [ak h1]
  unfold eX;rw [ak ad]
  omega
 .rw [af h1]
  unfold eX;rw [af ad]
  omega
theorem afj {v:Int} (h0:0<=v) (h1:v<18446744073709551616):br (LM v):=by
 unfold LM br
 split<;>omega
theorem aeY {l:List Int} (hb:bI l) {p:Nat} {n:Int} (hn:br n) (h:l.drop p=b_ (eX n)++rest):oO l kz p 0=0/\Y1 l p 0=n/\l.drop (pw l kz p 0)=rest:=by
 have hf:=Bm hn.1 hn.2;obtain⟨a1,a2,a3⟩:=PU hb (most:=kz) h hf (by show(_:Int)<=18446744073709551615;omega);refine⟨a1,?_,a3⟩;unfold Y1;rw [ak a1,a2,XA]
theorem WX {l:List Int} (hb:bI l) {p:Nat} {e:Int} (h:oO l kz p e=0):e=0/\l.drop p=b_ (eX (Y1 l p e))++l.drop (pw l kz p e)/\br (Y1 l p e):=by
 obtain⟨he,b⟩:=Aj hb h;have hv:=nF hb kz p e;unfold Y1;rw [ak h,U6 hv.1];exact⟨he,b,afj hv.1 hv.2⟩
theorem E7 (x:Int) (l:List Int):k_ (x::l)=b_ (eX x)++k_ l:=by simp [k_]
theorem PI:∀l:List Int,bI (k_ l)
 |[]=>λx hx=>by simp [k_]at hx
 |x::l=>by rw [E7];exact iR (mN _) (PI l)
theorem J8 (p dJ:Nat) (l:List Int):bI (iW p dJ l):=iR (iR (iR (mN _) (mN _)) (mN _)) (PI l)
theorem Wb {x:Int} (h:av x):br x:=by unfold av at h;unfold br;omega
theorem J_ {b:List Int} (hb:bI b) {a:Nat} {l:List Int} (hok:∀x∈l,av x) (h:b.drop a=k_ l):∀j,j<=l.length->b.drop (uP b a j)=k_ (l.drop j)/\uF b a j=0/\Av b a j=l.take j
 |0,_=>⟨by simpa [uP]using h,rfl,by simp [Av]⟩
 |j+1,hj=>by
  obtain⟨h1,h2,h3⟩:=J_ hb hok h j ad;have d_:j<l.length:=by omega
  rw [q_ d_,E7]at h1;have ho:=hok _ (ed d_);obtain⟨a1,a2,a3⟩:=aeY hb (Wb ho) h1;have hx:uX b a j=l[j]:=a2;refine⟨a3,?_,?_⟩
  .unfold uF
   rw [ak h2];unfold vV;rw [ak a1,hx,ak (show _/\_ from ho)]
  .rw [vX,h3,hx,List.take_succ_eq_append_getElem d_]
theorem R5 {p:Nat} {l:List Int} (hp:p<=2048) (hh:dJ<=2) (h1:1<=l.length) (hn:l.length<=256) (hok:∀x∈l,av x):
 nX (iW p dJ l)=0/\Xy (iW p dJ l)=p/\T' (iW p dJ l)=dJ/\uN (iW p dJ l)=l.length/\Av (iW p dJ l) (nd (iW p dJ l)) (uN (iW p dJ l))=l:=by
 have hb:=J8 p dJ l;have e0:(iW p dJ l).drop 0=b_ p++(b_ dJ++(b_ l.length++k_ l)):=by simp [iW]
 generalize iW p dJ l=b at hb e0⊢;obtain⟨a1,a2,a3⟩:=PU hb (most:=2048) e0 ad ad;have f1:Ix b=0:=a1;obtain⟨b1,b2,b3⟩:=PU hb (most:=2) a3 ad ad;have f2:Hy b=0:=by unfold Hy;rw [f1];exact b1
 have g2:Hx b=pw b 2 (pw b 2048 0 0) 0:=by unfold Hx;rw [f1];rfl
 obtain⟨c1,c2,c3⟩:=PU hb (most:=256) b3 ad ad;have f3:Iy b=0:=by unfold Iy;rw [f2,g2];exact c1
 have g3:nd b=pw b 256 (pw b 2 (pw b 2048 0 0) 0) 0:=by unfold nd;rw [f2,g2]
 have hN:uN b=l.length:=by unfold uN;rw [f2,g2,c2];rfl
 rw [<-g3]at c3;obtain⟨d1,d2,d3⟩:=J_ hb hok c3 l.length (cr _);refine⟨?_,a2,by unfold T';rw [f1];exact b2,hN,by rw [hN,d3,jr]⟩
 have hl:¬uP b (nd b) l.length<b.length:=by
  have q:=congrArg List.length d1;rw [tp,AE]at q;simp [k_]at q
  omega
 unfold nX;rw [ak f3,hN,ak d2,af hl,af ad]
theorem JZ {b:List Int} (hb:bI b) {a n:Nat} (h:uF b a n=0):∀j,j<=n->b.drop a=k_ (Av b a j)++b.drop (uP b a j)
 |0,_=>by simp [Av,k_,uP]
 |j+1,hj=>by
  have ih:=JZ hb h j ad;have q:=P6 h (j+1) hj;unfold uF at q;rw [ak (P6 h j ad)]at q;unfold vV at q
  split at q
  .rename_i h0
   obtain⟨_,b2,_⟩:=WX hb h0;rw [vX,ih,b2];show _=k_ (_++[uX b a j])++b.drop (pw b kz (uP b a j) 0);unfold k_;simp only [qy,List.flatten_append,tq,List.map_nil,List.flatten_cons,List.flatten_nil,List.append_nil,my]
   rfl
  .contradiction
theorem R4 {b:List Int} (hb:bI b) (h:nX b=0):
 iW (Xy b).toNat (T' b).toNat (Av b (nd b) (uN b))=b/\0<=Xy b/\Xy b<=2048/\0<=T' b/\T' b<=2/\1<=uN b/\uN b<=256/\∀x∈Av b (nd b) (uN b),av x:=by
 unfold nX at h
 split at h
 .rename_i h3
  split at h
  .rename_i hF
   split at h
   .cases h
   .rename_i hl
    split at h
    .cases h
    .rename_i hn
     obtain⟨e2,r3⟩:=Aj hb (show oO b 256 (Hx b) (Hy b)=0 from h3);obtain⟨e1,r2⟩:=Aj hb (show oO b 2 (KY b) (Ix b)=0 from e2);obtain⟨_,r1⟩:=Aj hb (show oO b 2048 0 0=0 from e1);have hm:=JZ hb hF (uN b) (cr _);have hd:b.drop (uP b (nd b) (uN b))=[]:=List.drop_eq_nil_of_le ad;rw [hd,List.append_nil]at hm;have v1:=nF hb 2048 0 0;have v2:=nF hb 2 (KY b) (Ix b);have w1:=um (l:=b) (most:=2048) ap 0 0;have w2:=um (l:=b) (most:=2) ap (KY b) (Ix b);refine⟨?_,v1.1,w1,v2.1,w2,by omega,P7 b,Xz hF⟩;unfold iW;rw [Hz,<-hm,my,my];show b_ (oU b 2048 0 0).toNat++(b_ (oU b 2 (KY b) (Ix b)).toNat++(b_ (oU b 256 (Hx b) (Hy b)).toNat++b.drop (pw b 256 (Hx b) (Hy b))))=b;rw [<-r3];show b_ (oU b 2048 0 0).toNat++(b_ (oU b 2 (KY b) (Ix b)).toNat++b.drop (pw b 2 (KY b) (Ix b)))=b;rw [<-r2];exact r1.symm
  .contradiction
 .contradiction
