import Derived.Test.YtnhelcmddjbafaaGreatDoorTpai
set_option maxHeartbeats 4000000
set_option maxRecDepth 100000
open Go.Proofs.Tryz
namespace Go.Proofs.YtnhelcmddjbafaaGreatDoor
open Go.RowKit Mc Sq
variable{dst:Option Tmp}{pos:String}{after:Array Edge}{guard:Option (Nat×Bool)}{K:Act->World->Prop}{ρ:Operand->Value}
theorem pP:ga prog 292=true:=by kernel_rfl
theorem oz:dr prog 292=some 2:=by kernel_rfl
theorem tJ {eD:TypeId} {x:Operand} {a:Act} {w:World} {Q:Exit->Act->World->Prop} (hx:d' (a.eval x)=true) (hh:has w (aG (a.eval x)) (aH (a.eval x)) 2=true):
 Oper.wp prog ⟨dst,.load 292 x,eD,pos,after,guard⟩ a w K Q=K (a.put dst (.agg (gets w (aG (a.eval x)) (aH (a.eval x)) 2))) w:=aY 2 pP oz hx hh
theorem Ct {eD:TypeId} {x:Operand} {w:World} (hx:d' (ρ x)=true) (hh:has w (aG (ρ x)) (aH (ρ x)) 2=true):
 (execOp ρ ⟨dst,.load 292 x,eD,pos,after,guard⟩).run prog w=.ok (.value (.agg (gets w (aG (ρ x)) (aH (ρ x)) 2))) w:=aD 2 pP oz hx hh
attribute [go_sem] pP oz
attribute [go_sem↓high] tJ Ct
attribute [go_sem high] tJ
theorem ZM:ga prog 377=true:=by kernel_rfl
theorem Xi:dr prog 377=some 2:=by kernel_rfl
attribute [go_sem] ZM Xi
def exC (t:Int):Option Value:=if t=0 then some (.agg #[.int .i64 1,.bool false])else if t=1 then some (.agg #[.int .i64 1,.bool false])else if t=2 then some (.agg #[.int .i64 6,.bool true])else none
def stC (t:Int):Option Value:=if t=0 then some (.agg #[.int .i64 3,.bool true])else if t=1 then some (.agg #[.int .i64 6,.bool true])else if t=2 then some (.agg #[.int .i64 3,.bool true])else if t=3 then some (.agg #[.int .i64 3,.bool false])else if t=4 then some (.agg #[.int .i64 2,.bool false])else if t=5 then some (.agg #[.int .i64 4,.bool false])else if t=6 then some (.agg #[.int .i64 3,.bool true])else if t=7 then some (.agg #[.int .i64 2,.bool false])else if t=8 then some (.agg #[.int .i64 8,.bool true])else if t=9 then some (.agg #[.int .i64 3,.bool true])else none
theorem Nv (w:World):Calls prog 249 #[] w λe w'=>e=.returned (.map (some w.heap.size))/\df w' w.heap.size exC/\al w w':=by
 have Dq:=@run_makeMap prog;have hu:prog.underlying 290=some (.map 3 _):=underlying290;refine X2 ?_;intro b0 y0;go_enter func249,ntmps249;go_upto_region 1 with(fail);go_step
 iterate 1 refine kE ?_
 obtain⟨w1,r1,b1,k1⟩:=df.put b0 hu underlying3 (0) (.agg #[.int .i64 1,.bool false]);have y1:=y0.trans' k1 (λi hi e=>by omega)
 iterate 1 refine kE ?_
 refine Mc.aJ rfl 290 (.tmp 1) (.const (.int .i64 0)) (.tmp 2) rfl rfl rfl rfl rfl r1 ?_;clear r1 k1 b0 y0;obtain⟨w2,r2,b2,k2⟩:=df.put b1 hu underlying3 (1) (.agg #[.int .i64 1,.bool false]);have y2:=y1.trans' k2 (λi hi e=>by omega)
 iterate 1 refine kE ?_
 refine Mc.aJ rfl 290 (.tmp 1) (.const (.int .i64 1)) (.tmp 3) rfl rfl rfl rfl rfl r2 ?_;clear r2 k2 b1 y1;obtain⟨w3,r3,b3,k3⟩:=df.put b2 hu underlying3 (2) (.agg #[.int .i64 6,.bool true]);have y3:=y2.trans' k3 (λi hi e=>by omega)
 iterate 1 refine kE ?_
 refine Mc.aJ rfl 290 (.tmp 1) (.const (.int .i64 2)) (.tmp 4) rfl rfl rfl rfl rfl r3 ?_;clear r3 k3 b2 y2;go_wp21;go_ret;refine⟨rfl,df.nR b3 (λt=>?_),y3⟩
 by_cases h:t=0∨t=1∨t=2
 .rcases h with rfl|rfl|rfl<;>rfl
 .unfold exC
  rw [af (show¬t=2 by omega),af (show¬t=1 by omega),af (show¬t=0 by omega)];rw [af (show¬t=0 by omega),af (show¬t=1 by omega),af (show¬t=2 by omega)]
theorem Nw (w:World):Calls prog 250 #[] w λe w'=>e=.returned (.map (some w.heap.size))/\df w' w.heap.size stC/\al w w':=by
 have Dq:=@run_makeMap prog;have hu:prog.underlying 290=some (.map 3 _):=underlying290;refine X2 ?_;intro b0 y0;go_enter func250,ntmps250;go_upto_region 1 with(fail);go_step
 iterate 1 refine kE ?_
 obtain⟨w1,r1,b1,k1⟩:=df.put b0 hu underlying3 (0) (.agg #[.int .i64 3,.bool true]);have y1:=y0.trans' k1 (λi hi e=>by omega)
 iterate 1 refine kE ?_
 refine Mc.aJ rfl 290 (.tmp 1) (.const (.int .i64 0)) (.tmp 2) rfl rfl rfl rfl rfl r1 ?_;clear r1 k1 b0 y0;obtain⟨w2,r2,b2,k2⟩:=df.put b1 hu underlying3 (1) (.agg #[.int .i64 6,.bool true]);have y2:=y1.trans' k2 (λi hi e=>by omega)
 iterate 1 refine kE ?_
 refine Mc.aJ rfl 290 (.tmp 1) (.const (.int .i64 1)) (.tmp 3) rfl rfl rfl rfl rfl r2 ?_;clear r2 k2 b1 y1;obtain⟨w3,r3,b3,k3⟩:=df.put b2 hu underlying3 (2) (.agg #[.int .i64 3,.bool true]);have y3:=y2.trans' k3 (λi hi e=>by omega)
 iterate 1 refine kE ?_
 refine Mc.aJ rfl 290 (.tmp 1) (.const (.int .i64 2)) (.tmp 4) rfl rfl rfl rfl rfl r3 ?_;clear r3 k3 b2 y2;obtain⟨w4,r4,b4,k4⟩:=df.put b3 hu underlying3 (3) (.agg #[.int .i64 3,.bool false]);have y4:=y3.trans' k4 (λi hi e=>by omega)
 iterate 1 refine kE ?_
 refine Mc.aJ rfl 290 (.tmp 1) (.const (.int .i64 3)) (.tmp 5) rfl rfl rfl rfl rfl r4 ?_;clear r4 k4 b3 y3;obtain⟨w5,r5,b5,k5⟩:=df.put b4 hu underlying3 (4) (.agg #[.int .i64 2,.bool false]);have y5:=y4.trans' k5 (λi hi e=>by omega)
 iterate 1 refine kE ?_
 refine Mc.aJ rfl 290 (.tmp 1) (.const (.int .i64 4)) (.tmp 6) rfl rfl rfl rfl rfl r5 ?_;clear r5 k5 b4 y4;obtain⟨w6,r6,b6,k6⟩:=df.put b5 hu underlying3 (7) (.agg #[.int .i64 2,.bool false]);have y6:=y5.trans' k6 (λi hi e=>by omega)
 iterate 1 refine kE ?_
 refine Mc.aJ rfl 290 (.tmp 1) (.const (.int .i64 7)) (.tmp 7) rfl rfl rfl rfl rfl r6 ?_;clear r6 k6 b5 y5;obtain⟨w7,r7,b7,k7⟩:=df.put b6 hu underlying3 (5) (.agg #[.int .i64 4,.bool false]);have y7:=y6.trans' k7 (λi hi e=>by omega)
 iterate 1 refine kE ?_
 refine Mc.aJ rfl 290 (.tmp 1) (.const (.int .i64 5)) (.tmp 8) rfl rfl rfl rfl rfl r7 ?_;clear r7 k7 b6 y6;obtain⟨w8,r8,b8,k8⟩:=df.put b7 hu underlying3 (6) (.agg #[.int .i64 3,.bool true]);have y8:=y7.trans' k8 (λi hi e=>by omega)
 iterate 1 refine kE ?_
 refine Mc.aJ rfl 290 (.tmp 1) (.const (.int .i64 6)) (.tmp 9) rfl rfl rfl rfl rfl r8 ?_;clear r8 k8 b7 y7;obtain⟨w9,r9,b9,k9⟩:=df.put b8 hu underlying3 (9) (.agg #[.int .i64 3,.bool true]);have y9:=y8.trans' k9 (λi hi e=>by omega)
 iterate 1 refine kE ?_
 refine Mc.aJ rfl 290 (.tmp 1) (.const (.int .i64 9)) (.tmp 10) rfl rfl rfl rfl rfl r9 ?_;clear r9 k9 b8 y8;obtain⟨IA,r10,TI,M5⟩:=df.put b9 hu underlying3 (8) (.agg #[.int .i64 8,.bool true]);have S7:=y9.trans' M5 (λi hi e=>by omega)
 iterate 1 refine kE ?_
 refine Mc.aJ rfl 290 (.tmp 1) (.const (.int .i64 8)) (.tmp 11) rfl rfl rfl rfl rfl r10 ?_;clear r10 M5 b9 y9;go_wp21;go_ret;refine⟨rfl,df.nR TI (λt=>?_),S7⟩
 by_cases h:t=0∨t=1∨t=2∨t=3∨t=4∨t=7∨t=5∨t=6∨t=9∨t=8
 .rcases h with rfl|rfl|rfl|rfl|rfl|rfl|rfl|rfl|rfl|rfl<;>rfl
 .unfold stC
  rw [af (show¬t=8 by omega),af (show¬t=9 by omega),af (show¬t=6 by omega),af (show¬t=5 by omega),af (show¬t=7 by omega),af (show¬t=4 by omega),af (show¬t=3 by omega),af (show¬t=2 by omega),af (show¬t=1 by omega),af (show¬t=0 by omega)];exact akO
def OA (w:World) (ex st:Nat):Prop:=df w ex exC/\df w st stC
abbrev Im (ex st:Nat):Array Value:=#[.map (some ex),.map (some st)]
theorem Mb (w:World):Calls prog 200 #[] w λe w'=>∃ex st,e=.returned (.agg (Im ex st))/\OA w' ex st/\al w w'/\w.heap.size<=ex/\w.heap.size<=st:=by
 have y0:=dY w (.cells #[.map none,.map none] 292);have b0:=bN w 292 #[.map none,.map none];have hsz:(w.alloc (.cells #[.map none,.map none] 292)).heap.size=w.heap.size+1:=by simp
 go_enter func200,ntmps200;go_upto_region 1 with(fail);generalize (w.alloc (.cells #[.map none,.map none] 292))=W0 at y0 b0 hsz⊢;go_wp21;refine(Nv _).mono ?_;rintro e w1 ⟨rfl,h1,y1⟩;go_wp21;refine(Nw _).mono ?_;rintro e w2 ⟨rfl,h2,y2⟩;have b2:=bX b0 (y1.trans y2);have i1:=ai.aC b2;have i2:=bH b2;have i3:=b2.lt;have h1':=h1.ext y2;rw [hsz]at h1';have hex:=y1.size;have yy:=y0.trans (y1.trans y2);have dw:=(y0.trans y1).size;generalize w1.heap.size=st at h2 dw hex⊢;clear h1;go_wp21;have yp:al w (putAt w2 w.heap.size 0 #[.map (some (w.heap.size+1)),.map (some st)]):=yy.putAt _ 0 _ (λh=>absurd h ad);have kp:Kept (·=w.heap.size) w2 (putAt w2 w.heap.size 0 #[.map (some (w.heap.size+1)),.map (some st)]):=Kept.putAt (kR _ _) _ 0 _ (λ_=>rfl);refine bu results200 rfl rfl pP (by exact oz) (ai.cw b2 0 _) ⟨w.heap.size+1,st,rfl,⟨h1'.kept kp ad,h2.kept kp ad⟩,yp,by omega,by omega⟩
theorem oY (n:Int) (w:World):Calls prog 201 #[.int .i64 n] w λe w'=>e=.returned (.func (.func 251) #[] #[.pointer (some ⟨w.heap.size,0,none⟩)])/\ai w' w.heap.size 3 #[.int .i64 n]/\al w w':=by
 refine abD ?_;intro D2;have y0:al w (w.alloc (.cells #[.int .i64 n] 3)):=dM w _;have b0:=bN w 3 #[.int .i64 n];go_enter func201,ntmps201;go_wp21;go_ret;exact⟨rfl,b0,y0⟩
def bT (n:Nat):Nat:=min n 65537
theorem eM (nb n m:Nat) (w:World) (hn:n<=65537) (hm:m<=4611686018427387904) (hb:ai w nb 3 #[.int .i64 n]):
 Calls prog 251 #[.int .i64 m,.pointer (some ⟨nb,0,none⟩)] w λe w'=>e=.returned (.int .i64 (bT (n+m):Nat))/\ai w' nb 3 #[.int .i64 (bT (n+m):Nat)]/\Kept (·=nb) w w':=by
 have i1:=bC hb;have i2:=hb.lt;have i3:=ai.frozen hb;have hs:=ai.eK hb 0 (.int .i64 (bT (n+m):Nat));have hk:Kept (·=nb) w (w.setCell ⟨nb,0,none⟩ (.int .i64 (bT (n+m):Nat))):=Kept.setCell (kR _ w) _ _ (λ_=>rfl);have hw:=wrap_i64 (n:=(n:Int)+m) C8;have aoA:min ((n:Int)+m) 65537=(bT (n+m):Nat):=by unfold bT;omega
 clear hb;go_enter func251,ntmps251;go_wp21;go_ret;exact⟨rfl,by simpa using hs,hk⟩
abbrev ant (nb:Nat):Value:=.func (.func 251) #[] #[.pointer (some ⟨nb,0,none⟩)]
theorem eJ (n:Nat):bT n<=65537:=Nat.min_le_right _ _
theorem vK (a b:Nat):bT (bT a+b)=bT (a+b):=by unfold bT;omega
theorem pD (a b:Nat):bT (a+bT b)=bT (a+b):=by unfold bT;omega
theorem iB {a:Nat} (h:a<=65537):bT a=a:=by unfold bT;omega
theorem OA.ext {w w':World} {ex st:Nat} (h:OA w ex st) (hx:al w w'):OA w' ex st:=⟨h.1.ext hx,h.2.ext hx⟩
theorem OA.ne {w:World} {ex st b:Nat} {t:TypeId} {cs:Array Value} (h:OA w ex st) (hb:ai w b t cs):¬ex=b/\¬st=b:=by
 constructor<;>intro e<;>subst e
 .obtain⟨es,clock,hq,_⟩:=h.1
  rw [show w.heap[_]?=_ from hb]at hq
  cases hq
 .obtain⟨es,clock,hq,_⟩:=h.2
  rw [show w.heap[_]?=_ from hb]at hq
  cases hq
theorem OA.kept {w w':World} {ex st b:Nat} (h:OA w ex st) (hk:Kept (·=b) w w') (h1:¬ex=b) (h2:¬st=b):OA w' ex st:=⟨h.1.kept hk h1,h.2.kept hk h2⟩
abbrev Za (F:EF):Prop:=∀(ex st N:Nat) (A:Option Addr) (c nb n:Nat) (w:World),OA w ex st->me w N A F.len F->n<=65537->ai w nb 3 #[.int .i64 n]->N<=nb->
 Calls prog 298 #[.agg (Im ex st),ant nb,.slice A F.len c] w λe w'=>e=.returned (.tuple #[])/\ai w' nb 3 #[.int .i64 (bT (n+jf F):Nat)]/\Kept (·=nb) w w'
def rv (op:Int) (F:EF):Nat:=aeU op+if op=0∨op=1 then 0 else jf F
theorem sB {w:World} {g:Nat} {f:Int->Option Value} (h:df w g f) (op:Int) {fv:Value} {bv:Bool} (hf:(f op).getD (.agg #[.int .i64 0,.bool false])=fv) (hb:(f op).isSome=bv):(Instr.lookup 290 (.map (some g)) (.int .i64 op) true).run prog w=.ok (.tuple #[fv,.bool bv]) w:=by
 have su:=df.look_ok (P:=prog) h underlying290 underlying3 (z:=.agg #[.int .i64 0,.bool false]) (λw=>by kernel_rfl) op;rw [su,hf,hb]
theorem Qy (F:EF) (IH:Za F) (ex st N:Nat) (op n:Int) (s:Str) (A:Option Addr) (kc:Nat) (w:World) (hC:OA w ex st) (hE:me w N A F.len F) (hN:N<=w.heap.size):
 Calls prog 321 #[.agg (Im ex st),.agg (bJ op n s A F.len kc)] w λe w'=>e=.returned (.int .i64 (bT (rv op F):Nat))/\al w w':=by
 obtain⟨W1,kX⟩:=nm' ((w.alloc (.cells (Im ex st) 292)).alloc (.cells (bJ op n s A F.len kc) 354));have y1:al w W1:=by rw [kX];exact(dM w _).alloc _
 have h4:ai W1 w.heap.size 292 (Im ex st):=by rw [kX];exact(bN w _ _).alloc _
 have h7:ai W1 (w.heap.size+1) 354 (bJ op n s A F.len kc):=by
  rw [kX];exact ai.ea _ _ _ _ aB
 have hsz:(w.alloc (.cells (Im ex st) 292)).heap.size=w.heap.size+1:=by simp
 have⟨HI,HC,HE⟩:=J3' IH (hC.ext y1) (hE.kept y1 hN (λ_ f=>f.elim));clear IH hC hE;go_enter func321,ntmps321;go_upto_region 1 with(fail);rw [<-kX]
 try rw [hsz]
 clear hsz;have HW1:=J kX;clear kX;generalize ES:(w:World).heap.size=p4 at h4 h7 hN⊢;have Di:=J ES;clear ES;have H4:=J h4;have H7:=J h7;have i1:=bC h4;have i2:=h4.lt;have j1:=bC h7;have j2:=h7.lt;clear h4 h7;have mD:=J (show(op=0∨op=1)∨op=2∨¬(op=0∨op=1∨op=2)from by omega);obtain⟨p6,hp6⟩:=nm' W1.heap.size;have TC:=J hp6;clear hp6
 rcases mD.o with ho|ho|ho
 .skip
  have su:=sB (HC.o).1 op (fv:=(.agg #[.int .i64 1,.bool false])) (bv:=true) (by rcases ho with rfl|rfl<;>rfl) (by rcases ho with rfl|rfl<;>rfl);have Qp:=J (show rv op F=1 from by rcases ho with rfl|rfl<;>rfl);clear ho;have y2:al W1 (W1.alloc (.cells #[.int .i64 1,.bool false] 377)):=dM W1 _;have b2:=bN W1 377 #[.int .i64 1,.bool false];rw [<-TC.o]at b2;have hl6:¬W1.heap.size<W1.heap.size:=by omega
  go_upto_region 4 with(fail);rw [<-TC.o];generalize (W1.alloc (.cells #[.int .i64 1,.bool false] 377))=W2 at y2 b2⊢;clear i1 i2 j1 j2 su hl6;have B2:=J b2;have Y2:=J y2;have i1:=bC B2.o;have i2:=B2.o.lt;go_wp21;refine(oY 1 _).mono ?_;rintro e w3 ⟨rfl,b3,y3⟩;obtain⟨nb,qX⟩:=nm' W2.heap.size;refine afG ?_;clear b3 i1 i2 y2 y3 qX;intro B3 Y3 qI i1 i2 j1 j2 l1 l2 l3;go_wp21;refine(eM nb 1 0 _ ad ad B3.o).mono ?_;rintro e w5 ⟨rfl,b5,k5⟩;go_wp21;go_ret;refine⟨congrArg (λz:Nat=>Ending.returned (.int .i64 z)) (by rw [Qp.o]),?_⟩;exact(y1.trans Y3.o).trans' k5 (λi hi e=>by have:=(y1.trans Y2.o).size;have:=qI.o;omega)
 .skip
  have su:=sB (HC.o).1 op (fv:=(.agg #[.int .i64 6,.bool true])) (bv:=true) (by subst ho;rfl) (by subst ho;rfl);have Qp:=J (show rv op F=6+jf F from by subst ho;rfl);clear ho;have y2:al W1 (W1.alloc (.cells #[.int .i64 6,.bool true] 377)):=dM W1 _;have b2:=bN W1 377 #[.int .i64 6,.bool true];rw [<-TC.o]at b2;have hl6:¬W1.heap.size<W1.heap.size:=by omega
  go_upto_region 4 with(fail);rw [<-TC.o];generalize (W1.alloc (.cells #[.int .i64 6,.bool true] 377))=W2 at y2 b2⊢;clear i1 i2 j1 j2 su hl6;have B2:=J b2;have Y2:=J y2;have i1:=bC B2.o;have i2:=B2.o.lt;go_wp21;refine(oY 6 _).mono ?_;rintro e w3 ⟨rfl,b3,y3⟩;obtain⟨nb,qX⟩:=nm' W2.heap.size;refine afG ?_;clear b3 i1 i2 y2 y3 qX;intro B3 Y3 qI i1 i2 j1 j2 l1 l2 l3;go_wp21;have It:w.heap.size<=nb:=by rw [qI.o];exact(y1.trans Y2.o).size
  refine(HI.o ex st N A _ nb 6 _ (HC.o.ext Y3.o) (HE.o.kept Y3.o (by have a:=y1.size;have b:=Di.o;omega) (λ_ f=>f.elim)) ad B3.o (by have b:=Di.o;omega)).mono ?_;rintro e w4 ⟨rfl,b4,k4⟩;clear i1 i2 j1 j2 l1 l2 l3;go_wp21;refine(eM nb (bT (6+jf F)) 0 _ (eJ _) ad b4).mono ?_;exact akX
 .skip
  have su:=sB (HC.o).1 op (fv:=(.agg #[.int .i64 0,.bool false])) (bv:=false) ajF ajF;have Qp:=J (show rv op F=2+jf F from by unfold rv aeU;rw [af ad,af ad,af ad]);clear ho;have y2:al W1 (W1.alloc (.cells #[.int .i64 0,.bool false] 377)):=dM W1 _;have b2:=bN W1 377 #[.int .i64 0,.bool false];rw [<-TC.o]at b2;have hl6:¬W1.heap.size<W1.heap.size:=by omega
  have k1:=bH b2;have k2:=ai.aC b2;have k3:=b2.lt;go_upto_region 2 with(fail);rw [<-TC.o];have y3:=y2.putAt p6 0 #[.int .i64 2,.bool true] (λh=>absurd h (by rw [TC.o];omega));have b3:ai (putAt (W1.alloc (.cells #[.int .i64 0,.bool false] 377)) p6 0 #[.int .i64 2,.bool true]) p6 377 #[.int .i64 2,.bool true]:=ai.cw b2 0 _;generalize (W1.alloc (.cells #[.int .i64 0,.bool false] 377))=W2 at y2 b2 k1 k2 k3 y3 b3⊢;go_upto_region 4 with(fail);clear i1 i2 j1 j2 su hl6 y2 b2 k1 k2 k3;generalize (putAt W2 p6 0 #[.int .i64 2,.bool true])=W3 at y3 b3⊢;have y2:=y3;clear y3;have B2:=J b3;clear b3;have Y2:=J y2;have i1:=bC B2.o;have i2:=B2.o.lt;go_wp21;refine(oY 2 _).mono ?_;rintro e w3 ⟨rfl,b3,y3⟩;obtain⟨nb,qX⟩:=nm' W3.heap.size;refine afG ?_;clear b3 i1 i2 y2 y3 qX;intro B3 Y3 qI i1 i2 j1 j2 l1 l2 l3;go_wp21;have It:w.heap.size<=nb:=by rw [qI.o];exact(y1.trans Y2.o).size
  refine(HI.o ex st N A _ nb 2 _ (HC.o.ext Y3.o) (HE.o.kept Y3.o (by have a:=y1.size;have b:=Di.o;omega) (λ_ f=>f.elim)) ad B3.o (by have b:=Di.o;omega)).mono ?_;rintro e w4 ⟨rfl,b4,k4⟩;clear i1 i2 j1 j2 l1 l2 l3;go_wp21;refine(eM nb (bT (2+jf F)) 0 _ (eJ _) ad b4).mono ?_;exact akX
theorem UF (F:EF):Za F:=by
 refine rz (C:=Za) ?_ F;clear F;intro F IH ex st N A c nb n w hC hE hn hb hNn;obtain⟨-,hf,b,off,hA,hEF⟩:=hE;have hm:=hf.max ad;obtain⟨W1,kX⟩:=nm' (w.alloc (.cells (Im ex st) 292));have y1:al w W1:=by rw [kX];exact dM w _
 have h4:ai W1 w.heap.size 292 (Im ex st):=by rw [kX];exact bN w _ _
 have hN:N<=w.heap.size:=by have:=hb.lt;omega
 have HB:=J (bX hb y1);have mS:=J (show¬w.heap.size=nb by have:=hb.lt;omega);have hce:=hC.ne hb;have⟨pO,HC,HEF,HI,HA,H4,FL,rX⟩:=J8' hce (hC.ext y1) (hEF.kept y1 hN (λ_ f=>f.elim)) IH hA h4 (show N<=W1.heap.size from ax hN y1.size) hNn;obtain⟨len,hlen⟩:=nm' F.len;have wT:=J hlen;rw [<-hlen]at hm hA⊢;obtain⟨T,hT⟩:=nm' (n+jf F);have HT:=J hT;rw [<-hT];have hNS:=iB hn;have HNS:=J hNS;clear hC hEF IH hA h4 hb hf hNn hlen hT hce hNS;go_enter func298,ntmps298;go_upto_region 1 with(fail);refine wp_scope_straight ?_
 repeat (first|(refine wp_label ?_;simp only [Exit.then])|go_step)
 rw [<-kX];generalize ES:(w:World).heap.size=p4 at mS H4 hN⊢;clear kX
 go_loopw [10] (λt10 wr=>∃(j:Nat) (R:EF) (m:Nat),j+R.len=len/\t10=.int .i64 j/\mc W1 N R b (off+j*4)/\EF.wG Za R/\m<=65537/\bT (m+jf R)=bT T/\ai wr nb 3 #[.int .i64 m]/\Kept (·=nb) W1 wr) (λt10 _=>len - (intOf t10).toNat)
 case atStart=>exact⟨0,F,n,by rw [wT.o,dT],rfl,by simpa using HEF.o,HI.o,hn,by rw [HT.o],HB.o,kR _ _⟩
 case round=>
  obtain⟨j,R,m,hj,rfl,hR,hall,hm6,JH,xZ,Dp⟩:=hrel;have⟨mv,fW,Un,HBM,Eh⟩:=J5' hR hall JH xZ Dp;clear hR hall JH xZ Dp
  cases R with
  |nil=>
   simp only [EF.len,eW]at hj;subst hj;go_wp21;simp only [Exit.noGoto];go_end0;have hs:=Un.o;rw [show jf .nil=0 from rfl,eW,iB hm6]at hs;exact⟨rfl,hs▸HBM.o,(y1.mono (λ_ _ f=>f.elim)).trans Eh.o⟩
  |cons rH n' s' K r=>
   obtain⟨hbN,-,-,-,⟨A',cap,b',bL,hh,hg,hfk,hAk,hek⟩,hr⟩:=mv.o;simp only [EF.len]at hj;have aP:(j:Int)<len:=by omega
   obtain rfl:=HA.o (by have:=wT.o;omega);have qX:¬b=nb:=by have:=rX.o;omega
   have jx:=(jv Eh.o (by have:=FL.o;omega) qX).trans hh;have hg':=(iz Eh.o (by have:=FL.o;omega) qX).trans hg;have gB:b<wr.heap.size:=by have:=FL.o;have:=Eh.o.size;omega
   have⟨HK,qR,HA1,HA2⟩:=J4' (show me W1 N A' K.len K from⟨rfl,hfk,b',bL,hAk,hek⟩) hr fW.o.1 fW.o.2;clear hh hg hfk hAk hek hbN hr mv fW;have y3:=dY wr (.cells (bJ rH n' s' A' K.len cap) 354);have b3:=bN wr 354 (bJ rH n' s' A' K.len cap);have q4:=bK H4.o Eh.o mS.o;go_upto_region 4 with(fail);clear jx hg';generalize (wr.alloc (.cells (bJ rH n' s' A' K.len cap) 354))=W3 at y3 b3⊢;generalize wr.heap.size=g at b3 gB⊢;have q5:=bX q4 y3;have l1:=bH q5;have l2:=bG q5;have l3:=q5.lt;have l4:=bH b3;have l5:=bG b3;have l6:=b3.lt;have fL:=J y3;clear q4 q5 b3 y3;go_wp21;have YH:Kept (·=nb) W1 W3:=Eh.o.trans (fL.o.mono (λ_ _ f=>f.elim));refine(Qy K HA1.o ex st N rH n' s' A' cap _ ((HC.o.kept Eh.o pO.o.1 pO.o.2).ext fL.o) (HK.o.kept YH FL.o (λi e=>by have:=rX.o;omega)) (by have:=FL.o;have:=YH.size;omega)).mono ?_;rintro e w4 ⟨rfl,y4⟩;go_wp21;refine(eM nb m (bT (rv rH K)) _ hm6 (by have:=eJ (rv rH K);omega) (bX (bX HBM.o fL.o) y4)).mono ?_;rintro e w5 ⟨rfl,b5,k5⟩
   have oQ:=J (show bT (bT (m+bT (rv rH K))+jf r)=bT T from by
    rw [<-Un.o,vK,show jf (.cons rH n' s' K r)=rv rH K+jf r from rfl,<-gw];unfold bT
    omega)
   have hz6:=eJ (m+bT (rv rH K));generalize bT (m+bT (rv rH K))=z at b5 oQ hz6⊢;have tN:=J b5;have uz:=J (YH.trans ((y4.mono (λ_ _ f=>f.elim)).trans k5));clear b5 k5 y4 l1 l2 l3 l4 l5 l6
   by_cases hbig:65536<z
   .have hg:decide ((65536:Int)<(z:Int))=true:=cJ ad
    have mR:=J hbig;clear hbig;go_wp21;simp only [Exit.noGoto];go_end0;have hs:=oQ.o;rw [show bT (z+jf r)=z by have:=mR.o;unfold bT;omega]at hs;exact⟨rfl,hs▸tN.o,(y1.mono (λ_ _ f=>f.elim)).trans uz.o⟩
   .have hg:decide ((65536:Int)<(z:Int))=false:=cT ad
    clear hbig;go_wp21;go_roundw
    case rel=>exact⟨j+1,r,z,by omega,by go_num,by rw [Nat.add_mul,<-gw];exact qR.o,HA2.o,hz6,oQ.o,tN.o,uz.o⟩
    case measure=>simp only [intOf];omega
abbrev adk (F:SF):Prop:=∀(ex st N:Nat) (A:Option Addr) (c:Nat) (w:World),OA w ex st->jm w N A F.len F->N<=w.heap.size->
 Calls prog 202 #[.agg (Im ex st),.slice A F.len c] w λe w'=>e=.returned (.int .i64 (bT (dH F):Nat))/\al w w'
def iC (kind:Int) (e:EF) (low high:Int) (l fi:SF):Nat:=
 R2 kind+(if Rk kind then jf e else 0)+if kind=2 then max (dH l) (dH fi)else if kind=3/\low<=high then((min (high - low) 65536).toNat+1)*(4+dH l)else 0
theorem Ml (kind:Int) (s:Str) (e:EF) (low high:Int) (l fi r:SF):dH (.cons kind s e low high l fi r)=iC kind e low high l fi+dH r:=rfl
theorem Xn {kind:Int} (h:0<=kind/\kind<=9):stC kind=some (.agg #[.int .i64 (R2 kind),.bool (Rk kind)]):=by
 have hk:kind=0∨kind=1∨kind=2∨kind=3∨kind=4∨kind=5∨kind=6∨kind=7∨kind=8∨kind=9:=by omega
 rcases hk with rfl|rfl|rfl|rfl|rfl|rfl|rfl|rfl|rfl|rfl<;>rfl
theorem aaB (kind:Int):R2 kind<=8:=by
 unfold R2
 repeat' split
 all_goals omega
theorem Xf (a r z:Nat):bT (a+(r+1)*(4+bT z))=bT (a+(r+1)*(4+z)):=by
 by_cases h:z<=65537
 .rw [iB h]
 .have h1:bT z=65537:=by unfold bT;omega
  rw [h1];have h2:4+65537<=(r+1)*(4+65537):=Nat.le_mul_of_pos_left _ ad;have h3:4+z<=(r+1)*(4+z):=Nat.le_mul_of_pos_left _ ad;unfold bT
  omega
theorem Xe (a y z:Nat):bT (a+max (bT y) (bT z))=bT (a+max y z):=by unfold bT;omega
theorem QA (l fi:SF) (ex st N:Nat) (kind low high:Int) (IL:kind=2∨kind=3->adk l) (IX:kind=2->adk fi) (hk:0<=kind/\kind<=9) (ilo:br low) (ihi:br high) (s:Str) (A:Option Addr) (ec:Nat) (F:EF) (lA:Option Addr) (lc:Nat) (xA:Option Addr) (xc:Nat) (w:World) (hC:OA w ex st) (hE:me w N A F.len F) (hl:jm w N lA l.len l) (hx:jm w N xA fi.len fi) (hN:N<=w.heap.size):
 Calls prog 252 #[.agg (Im ex st),.agg (aN kind s A F.len ec low high lA l.len lc xA fi.len xc)] w λe w'=>e=.returned (.int .i64 (bT (iC kind F low high l fi):Nat))/\al w w':=by
 obtain⟨W1,kX⟩:=nm' ((w.alloc (.cells (Im ex st) 292)).alloc (.cells (aN kind s A F.len ec low high lA l.len lc xA fi.len xc) 288));have y1:al w W1:=by rw [kX];exact(dM w _).alloc _
 have h4:ai W1 w.heap.size 292 (Im ex st):=by rw [kX];exact(bN w _ _).alloc _
 have h7:ai W1 (w.heap.size+1) 288 (aN kind s A F.len ec low high lA l.len lc xA fi.len xc):=by
  rw [kX];exact ai.ea _ _ _ _ aB
 have hsz:(w.alloc (.cells (Im ex st) 292)).heap.size=w.heap.size+1:=by simp
 obtain⟨own,how⟩:=nm' (R2 kind);obtain⟨prt,hpr⟩:=nm' (Rk kind);have su:=sB (hC.ext y1).2 kind (fv:=.agg #[.int .i64 own,.bool prt]) (bv:=true) (by rw [Xn hk,how,hpr];rfl) (by rw [Xn hk];rfl);have h8:own<=8:=by rw [how];exact aaB _
 have⟨HIL,HIX,HC,HE,HL,HX,FL,HK,FN,HPR,HLH⟩:=J11 IL IX (hC.ext y1) (hE.kept y1 hN (λ_ f=>f.elim)) (hl.kept y1 hN (λ_ f=>f.elim)) (hx.kept y1 hN (λ_ f=>f.elim)) (show N<=W1.heap.size from ax hN y1.size) hk how hpr (ew ilo ihi);clear IL IX hC hE hl hx hk how hpr ilo ihi;go_enter func252,ntmps252;go_upto_region 1 with(fail);rw [<-kX]
 try rw [hsz]
 clear hsz kX;obtain⟨p6,hp6⟩:=nm' W1.heap.size;have TC:=J hp6;clear hp6;have Uq:=J y1.size;generalize ES:(w:World).heap.size=p4 at h4 h7⊢;have Di:=J ES;clear ES;have H4:=J h4;have H7:=J h7;have i1:=bC h4;have i2:=h4.lt;have j1:=bC h7;have j2:=h7.lt;clear h4 h7;have y2:al W1 (W1.alloc (.cells #[.int .i64 own,.bool prt] 377)):=dM W1 _;have b2:=bN W1 377 #[.int .i64 own,.bool prt];rw [<-TC.o]at b2;go_upto_region 4 with(fail);rw [<-TC.o];generalize (W1.alloc (.cells #[.int .i64 own,.bool prt] 377))=W2 at y2 b2⊢;clear i1 i2 j1 j2 su;have B2:=J b2;have Y2:=J y2;have i1:=bC b2;have i2:=b2.lt;clear b2;go_wp21;refine(oY own _).mono ?_;rintro e w3 ⟨rfl,b3,y3⟩;obtain⟨nb,qX⟩:=nm' W2.heap.size;rw [<-qX]at b3⊢;clear i1 i2;have⟨B3,Y3,B2b,Uf,HQ⟩:=J5' b3 (Y2.o.trans y3) (bX B2.o y3) (show N<=nb/\w.heap.size<=nb from by have a:=y2.size;have b:=FL.o;have c:=Uq.o;omega) (show¬p4=nb/\¬p4+1=nb/\¬p6=nb from by have a:=y2.size;have b:=H7.o.lt;have c:=B2.o.lt;omega);clear b3 y2 y3 qX;have De:=J (HC.o.ext Y3.o);have hce:=De.o.ne B3.o;have pO:=J hce;clear hce;have T8:=y1;have zG:∀a b:Nat,max (a:Int) (b:Int)=((max a b:Nat):Int):=λa b=>by omega
 have e1:=bC B2b.o;have e2:=B2b.o.lt;have Qm:=J (show N<=w3.heap.size from ax FL.o Y3.o.size);have HEV:=J (HE.o.kept Y3.o FL.o (λ_ f=>f.elim))
 cases prt
 .skip
  obtain⟨m,hm⟩:=nm' own;have⟨BM,KM,DE,TA⟩:=J4' (show ai w3 nb 3 #[.int .i64 (m:Int)]from by rw [hm];exact B3.o) (show Kept (·=nb) w3 w3 from kR _ _) (show m<=65537 by omega) (show m=bT (own+if Rk kind=true then jf F else 0)from by rw [<-HPR.o,hm];exact(iB ad).symm);clear hm;go_upto_region 7 with(fail);clear e1 e2;have eV:¬kind=2:=λh=>by have:=HPR.o;rw [h]at this;cases this
  have Rm:(kind==2)=false:=by simpa using eV
  refine abF ?_;intro i1 i2 i3 i4 i5;go_upto_region 9 with(fail)
  by_cases jq:kind=3
  .skip
   have he3:(kind==3)=true:=by rw [jq];rfl
   by_cases hlh:low<=high
   .skip
    have hle:decide (low<=high)=true:=cJ hlh;have adw:=J (HIL.o (.inr jq));have ilo:=HLH.o.1;have ihi:=HLH.o.2;unfold br at ilo ihi;have hu:IntKind.u64.wrap (IntKind.u64.wrap high - IntKind.u64.wrap low)=high - low:=by simp only [IntKind.wrap_u64];omega
    obtain⟨Q0,hQ0⟩:∃Q0:Int,Q0=min (high - low) 65536:=⟨_,rfl⟩;have VK:min (high - low) 65536=Q0:=hQ0.symm;have hQb:0<=Q0/\Q0<=65536:=by omega
    have om:IntKind.i64.wrap Q0=Q0:=wrap_i64 C8;have tf:IntKind.i64.wrap (Q0+1)=Q0+1:=wrap_i64 C8;have rC:=eJ (dH l);have hw3:IntKind.i64.wrap (4+(bT (dH l):Int))=4+(bT (dH l):Int):=wrap_i64 C8;obtain⟨M,hM⟩:∃M:Nat,M=(Q0.toNat+1)*(4+bT (dH l)):=⟨_,rfl⟩
    have hMI:(Q0+1)*(4+(bT (dH l):Int))=(M:Int):=by
     rw [hM,Int.natCast_mul,Int.natCast_add,Int.natCast_add]
     congr 1
     omega
    have hMb:M<=65537*65541:=by rw [hM];exact Nat.mul_le_mul ad ad
    have hw4:IntKind.i64.wrap ((Q0+1)*(4+(bT (dH l):Int)))=(M:Int):=by rw [hMI];exact wrap_i64 C8
    have Ud:=J hMb
    have AC:=J (show bT (bT (m+M))=bT (iC kind F low high l fi)from by
     unfold iC;rw [iB (eJ _),af eV,ak (ew jq hlh),<-hQ0,hM,Xf,TA.o,vK,FN.o])
    clear eV jq hlh hQ0 hQb rC hM hMI hMb ilo ihi;go_wp21;refine(adw.o ex st N lA _ _ (De.o.kept (KM.o) pO.o.1 pO.o.2) ((HL.o.kept Y3.o FL.o (λ_ f=>f.elim)).kept (KM.o) Qm.o (λi e=>by have:=Uf.o.1;omega)) (ax Qm.o (KM.o).size)).mono ?_;rintro e w5 ⟨rfl,y5⟩;clear i1 i2 i3 i4 i5;go_wp21;refine(eM nb m M _ DE.o (by have:=Ud.o;omega) (bX BM.o y5)).mono ?_;rintro e w7 ⟨rfl,b7,k7⟩;have⟨BF,KF,DE⟩:=J3' b7 (KM.o.trans ((y5.mono (λ_ _ f=>f.elim)).trans k7)) (eJ (m+M));clear VK hu om tf hw3 hw4 b7 k7 y5;generalize bT (m+M)=z at BF DE AC⊢;exact akM
   .skip
    have AC:=J (show bT m=bT (iC kind F low high l fi)from by
     unfold iC;rw [TA.o,af eV,af (show¬(kind=3/\low<=high)from λh=>hlh h.2),eW,FN.o,iB (eJ _)])
    have hle:decide (low<=high)=false:=cT hlh;clear eV jq hlh;exact afR
  .skip
   have AC:=J (show bT m=bT (iC kind F low high l fi)from by
    unfold iC;rw [TA.o,af eV,af (show¬(kind=3/\low<=high)from λh=>jq h.1),eW,FN.o,iB (eJ _)])
   have he3:(kind==3)=false:=by simpa using jq
   clear eV jq;exact afR
 .skip
  have Lt:=J (show Kept (·=nb) w3 w3 from kR _ _);have q4:=bK (bX H4.o Y3.o) Lt.o HQ.o.1;have q7:=bK (bX H7.o Y3.o) Lt.o HQ.o.2.1;have i1:=bC q7;have i2:=q7.lt;have i3:=bH q4;have i4:=bG q4;have i5:=q4.lt;clear q4 q7;go_wp21;clear i1 i2 i3 i4 i5 e1 e2;refine(UF F ex st N A _ nb own _ De.o HEV.o ad B3.o Uf.o.1).mono ?_;rintro e wc ⟨rfl,b4,k4⟩;have⟨BM,KM,DE,TA⟩:=J4' b4 k4 (eJ (own+jf F)) (show bT (own+jf F)=bT (own+if Rk kind=true then jf F else 0)from by rw [<-HPR.o];rfl);clear b4 k4;generalize bT (own+jf F)=m at BM DE TA⊢
  by_cases eV:kind=2
  .skip
   have TD:=J (show bT (m+max (dH l) (dH fi))=bT (iC kind F low high l fi)from by
    unfold iC;rw [TA.o,vK,ak eV,FN.o])
   have Rm:(kind==2)=true:=by rw [eV];rfl
   have adw:=J (HIL.o (.inl eV));have alw:=J (HIX.o eV);clear eV;refine abF ?_;intro i1 i2 i3 i4 i5;go_upto_region 8 with(fail);clear i1 i2 i3 i4 i5;refine fH (λwz=>Kept (·=nb) wc wz) [(0,2),(1,1),(2,2),(3,1),(5,1),(6,2),(7,1),(4,0),(8,0),(9,2),(10,0)] ?_;refine fI ?_
   repeat first|refine cx ?_|refine de fU (by intro w1 hS;have q4:=bK (bX H4.o Y3.o) (KM.o.trans hS) HQ.o.1;have q7:=bK (bX H7.o Y3.o) (KM.o.trans hS) HQ.o.2.1;have i1:=bC q7;have i2:=q7.lt;have i3:=bH q4;have i4:=bG q4;have i5:=q4.lt;exact fV) ?_|refine dc fU ?_
   have kd:Kept (·=nb) wc wc.drew:=(kR _ wc).drew;refine au (λK hK=>?_);go_simp;go_wp21;refine(adw.o ex st N lA _ _ (De.o.kept (KM.o.trans kd) pO.o.1 pO.o.2) ((HL.o.kept Y3.o FL.o (λ_ f=>f.elim)).kept (KM.o.trans kd) Qm.o (λi e=>by have:=Uf.o.1;omega)) (ax Qm.o (KM.o.trans kd).size)).mono ?_;rintro e w5 ⟨rfl,y5⟩;have k5:=kd.trans (y5.mono (λ_ _ f=>f.elim));refine hK.out _ _ (λ_=>k5) ?_;clear hK K;refine tj ?_;intro K hK;go_wp21;refine(alw.o ex st N xA _ _ (De.o.kept (KM.o.trans k5) pO.o.1 pO.o.2) ((HX.o.kept Y3.o FL.o (λ_ f=>f.elim)).kept (KM.o.trans k5) Qm.o (λi e=>by have:=Uf.o.1;omega)) (ax Qm.o (KM.o.trans k5).size)).mono ?_;rintro e w6 ⟨rfl,y6⟩;have k6:=k5.trans (y6.mono (λ_ _ f=>f.elim));refine hK.out _ _ (λ_=>k6) ?_;clear hK K
   repeat first|refine cx ?_|refine de k6 (by intro w1 hS;exact fV) ?_|refine dc k6 ?_
   refine au (λK hK=>?_);go_simp;go_wp21;refine(eM nb m (max (bT (dH l)) (bT (dH fi))) _ DE.o (by have a:=eJ (dH l);have b:=eJ (dH fi);omega) (bX (bX (ai.drew BM.o) y5) y6)).mono ?_;rintro e w7 ⟨rfl,b7,k7⟩;refine hK.out _ _ (λ_=>k6.trans k7) ?_;clear hK K;refine fx ?_;have⟨BF,KF,DE,AC⟩:=J4' b7 (KM.o.trans (k6.trans k7)) (eJ (m+max (bT (dH l)) (bT (dH fi)))) (show bT (bT (m+max (bT (dH l)) (bT (dH fi))))=bT (iC kind F low high l fi)from by rw [iB (eJ _),Xe];exact TD.o);generalize bT (m+max (bT (dH l)) (bT (dH fi)))=z at BF DE AC b7⊢;clear b7 k7 k6 k5 kd y5 y6;exact akM
  .skip
   have jq:¬kind=3:=λh=>by have:=HPR.o;rw [h]at this;cases this
   have AC:=J (show bT m=bT (iC kind F low high l fi)from by
    unfold iC;rw [TA.o,af eV,af (show¬(kind=3/\low<=high)from λh=>jq h.1),eW,FN.o,iB (eJ _)])
   have Rm:(kind==2)=false:=by simpa using eV
   have he3:(kind==3)=false:=by simpa using jq
   clear eV jq;refine abF ?_;intro i1 i2 i3 i4 i5;exact afR
def Y_:SF->Prop
 | .nil=>True
 | .cons kind _ _ _ _ l x r=>(0<=kind/\kind<=9)/\(kind=2∨kind=3->Y_ l)/\(kind=2->Y_ x)/\Y_ r
theorem Ch {part:Nat}:∀{F:SF} {κ:Kn} {f:Nat} {fy:Bool},cH part κ f fy F=none->Y_ F
 | .nil,_,_,_,_=>trivial
 | .cons kind s e low high l x r,κ,f,fy,h=>by
  rw [kT,ay]at h;obtain⟨h1,h2⟩:=h;unfold oG at h1;rw [ay,ay,ay,ay,dt,gR]at h1;obtain⟨⟨q1,_⟩,-,-,-,q5⟩:=h1;refine⟨by simpa [iL]using q1,λhk=>?_,λhk=>?_,Ch h2⟩
  .rcases hk with hk|hk
   .rw [ak hk,ay]at q5
    exact Ch q5.1
   .rw [af ad,ak hk]at q5
    exact Ch q5
  .rw [ak hk,ay]at q5
   exact Ch q5.2
abbrev adl (F:SF):Prop:=Y_ F->adk F
theorem nr (F:SF):adl F:=by
 refine qh (C:=adl) ?_ F;clear F;intro F IH hok ex st N A c w hC hE hN;obtain⟨-,hf,b,off,hA,hEF⟩:=hE;have hm:=hf.max ad;obtain⟨W1,kX⟩:=nm' (w.alloc (.cells (Im ex st) 292));have y1:al w W1:=by rw [kX];exact dM w _
 have h4:ai W1 w.heap.size 292 (Im ex st):=by rw [kX];exact bN w _ _
 have⟨HC,HEF,HI,lm,HA,H4,FL⟩:=J7' (hC.ext y1) (hEF.kept y1 hN (λ_ f=>f.elim)) IH hok hA h4 (show N<=W1.heap.size from ax hN y1.size);obtain⟨len,hlen⟩:=nm' F.len;have wT:=J hlen;rw [<-hlen]at hm hA⊢;obtain⟨T,hT⟩:=nm' (dH F);have HT:=J hT;rw [<-hT];clear hC hEF IH hA h4 hf hlen hT hok;go_enter func202,ntmps202;go_upto_region 1 with(fail);rw [<-kX];have Uq:=J y1.size;generalize ES:(w:World).heap.size=p4 at H4⊢;have Di:=J ES;clear kX ES;refine wp_scope_straight ?_;go_wp21;refine(oY 0 _).mono ?_;rintro e W2 ⟨rfl,b2,y2⟩;generalize qX:(W1:World).heap.size=nb at b2⊢;have mS:=J (show¬p4=nb by have:=H4.o.lt;omega);have rX:=J (show N<=nb/\w.heap.size<=nb from by have a:=FL.o;have b:=Uq.o;omega);clear qX;have HB:=J b2;have IC:=J (HC.o.ext y2);have⟨pO,fp,H42,alr,Ue⟩:=J5' (IC.o.ne b2) y2 (bX H4.o y2) (HEF.o.kept y2 FL.o (λ_ f=>f.elim)) (show N<=W2.heap.size from ax FL.o y2.size);clear b2 y2;go_wp21
 repeat (first|(refine wp_label ?_;simp only [Exit.then])|go_step)
 go_loopw [11] (λt11 wr=>∃(j:Nat) (R:SF) (m:Nat),j+R.len=len/\t11=.int .i64 j/\nk W2 N R b (off+j*7)/\SF.wG adl R/\Y_ R/\m<=65537/\bT (m+dH R)=bT T/\ai wr nb 3 #[.int .i64 m]/\Kept (·=nb) W2 wr) (λt11 _=>len - (intOf t11).toNat)
 case atStart=>exact⟨0,F,0,by rw [wT.o,dT],rfl,by simpa using alr.o,HI.o,lm.o,by omega,by rw [HT.o,dT],HB.o,kR _ _⟩
 case round=>
  obtain⟨j,R,m,hj,rfl,hR,hall,hok,hm6,JH,xZ,Dp⟩:=hrel;have⟨mv,fW,Zt,Un,HBM,Eh,DE⟩:=J7' hR hall hok JH xZ Dp hm6;clear hR hall hok JH xZ Dp hm6
  cases R with
  |nil=>
   simp only [SF.len,eW]at hj;subst hj;go_wp21;refine(eM nb m 0 _ DE.o ad HBM.o).mono ?_;rintro e w9 ⟨rfl,b9,k9⟩;go_wp21;simp only [Exit.noGoto];go_ret;refine⟨congrArg (λz:Nat=>Ending.returned (.int .i64 z)) Un.o,?_⟩;exact(y1.trans fp.o).trans' (Eh.o.trans k9) (λi hi e=>by have:=rX.o.2;omega)
  |cons kind s es low high l x r=>
   obtain⟨hbN,-,i2,i3,-,⟨eA,ec,lA,lc,xA,xc,be,oe,bl,ol,bx,ox,hh,hg,n1,n2,n3,a1,a2,a3,he,hl,zL⟩,hr⟩:=mv.o;simp only [SF.len]at hj;have aP:(j:Int)<len:=by omega
   obtain rfl:=HA.o (by have:=wT.o;omega);have qX:¬b=nb:=by have:=rX.o;omega
   have jx:=(jv Eh.o (by have:=Ue.o;omega) qX).trans hh;have hg':=(iz Eh.o (by have:=Ue.o;omega) qX).trans hg;have gB:b<wr.heap.size:=by have:=Ue.o;have:=Eh.o.size;omega
   have⟨KE,KL,KX,qR,oD⟩:=J5' (show me W2 N eA es.len es from⟨rfl,n1,be,oe,a1,he⟩) (show jm W2 N lA l.len l from⟨rfl,n2,bl,ol,a2,hl⟩) (show jm W2 N xA x.len x from⟨rfl,n3,bx,ox,a3,zL⟩) hr (ew i2 i3);clear hh hg n1 n2 n3 a1 a2 a3 he hl zL hbN hr mv i2 i3;have y3:=dY wr (.cells (aN kind s eA es.len ec low high lA l.len lc xA x.len xc) 288);have b3:=bN wr 288 (aN kind s eA es.len ec low high lA l.len lc xA x.len xc);have q4:=bK H42.o Eh.o mS.o;go_upto_region 5 with(fail);clear jx hg';generalize (wr.alloc (.cells (aN kind s eA es.len ec low high lA l.len lc xA x.len xc) 288))=W3 at y3 b3⊢;generalize wr.heap.size=g at b3 gB⊢;have q5:=bX q4 y3;have l1:=bH q5;have l2:=bG q5;have l3:=q5.lt;have l4:=bH b3;have l5:=bG b3;have l6:=b3.lt;have fL:=J y3;clear q4 q5 b3 y3;go_wp21;have YH:Kept (·=nb) W2 W3:=Eh.o.trans (fL.o.mono (λ_ _ f=>f.elim));have hSN:∀i,i=nb->N<=i:=λi e=>by have:=rX.o.1;omega
   refine aoS (QA l x ex st N kind low high (λh=>fW.o.1 (Zt.o.2.1 h)) (λh=>fW.o.2.1 (Zt.o.2.2.1 h)) Zt.o.1 oD.o.1 oD.o.2 s eA ec es lA lc xA xc _ ((IC.o.kept Eh.o pO.o.1 pO.o.2).ext fL.o) (KE.o.kept YH Ue.o hSN) (KL.o.kept YH Ue.o hSN) (KX.o.kept YH Ue.o hSN) (ax Ue.o YH.size)) λw4 y4=>?_;go_wp21;refine(eM nb m (bT (iC kind es low high l x)) _ DE.o (by have:=eJ (iC kind es low high l x);omega) (bX (bX HBM.o fL.o) y4)).mono ?_;rintro e w5 ⟨rfl,b5,k5⟩
   have oQ:=J (show bT (bT (m+bT (iC kind es low high l x))+dH r)=bT T from by
    rw [<-Un.o,vK,Ml,<-gw];unfold bT
    omega)
   have hz6:=eJ (m+bT (iC kind es low high l x));generalize bT (m+bT (iC kind es low high l x))=z at b5 oQ hz6⊢;have⟨HZ6,tN,uz⟩:=J3' hz6 b5 (YH.trans ((y4.mono (λ_ _ f=>f.elim)).trans k5));clear b5 k5 y4 l1 l2 l3 l4 l5 l6 YH hSN
   by_cases hbig:65536<z
   .have hg:decide ((65536:Int)<(z:Int))=true:=cJ ad
    have mR:=J hbig;clear hbig hz6;go_wp21;refine(eM nb z 0 _ HZ6.o ad tN.o).mono ?_;rintro e w9 ⟨rfl,b9,k9⟩;go_wp21;simp only [Exit.noGoto];go_ret;refine⟨congrArg (λz:Nat=>Ending.returned (.int .i64 z)) ?_,?_⟩
    .rw [<-oQ.o]
     have:=mR.o;unfold bT
     omega
    .exact(y1.trans fp.o).trans' (uz.o.trans k9) (λi hi e=>by have:=rX.o.2;omega)
   .have hg:decide ((65536:Int)<(z:Int))=false:=cT ad
    clear hbig;go_wp21;go_roundw
    case rel=>exact⟨j+1,r,z,by omega,by go_num,by rw [Nat.add_mul,<-gw];exact qR.o,fW.o.2.2,Zt.o.2.2.2,hz6,oQ.o,tN.o,uz.o⟩
    case measure=>simp only [intOf];omega
theorem j_:ga prog 169=true:=by kernel_rfl
theorem sK:dr prog 169=some 5:=by kernel_rfl
theorem yV {eD:TypeId} {x:Operand} {a:Act} {w:World} {Q:Exit->Act->World->Prop} (hx:d' (a.eval x)=true) (hh:has w (aG (a.eval x)) (aH (a.eval x)) 5=true):
 Oper.wp prog ⟨dst,.load 169 x,eD,pos,after,guard⟩ a w K Q=K (a.put dst (.agg (gets w (aG (a.eval x)) (aH (a.eval x)) 5))) w:=aY 5 j_ sK hx hh
theorem Hb {eD:TypeId} {x:Operand} {w:World} (hx:d' (ρ x)=true) (hh:has w (aG (ρ x)) (aH (ρ x)) 5=true):
 (execOp ρ ⟨dst,.load 169 x,eD,pos,after,guard⟩).run prog w=.ok (.value (.agg (gets w (aG (ρ x)) (aH (ρ x)) 5))) w:=aD 5 j_ sK hx hh
attribute [go_sem] j_ sK
attribute [go_sem↓high] yV Hb
attribute [go_sem high] yV
def aU (p:Pr) (i:Nat):Nat:=bT (8+dH (partOf p i))
abbrev s7 (v:Nat->Nat) (j:Nat):Array Value:=#[.int .i64 (if 0<j then v 0 else 0:Nat),.int .i64 (if 1<j then v 1 else 0:Nat),.int .i64 (if 2<j then v 2 else 0:Nat),.int .i64 (if 3<j then v 3 else 0:Nat),.int .i64 (if 4<j then v 4 else 0:Nat)]
theorem Md (c:Pc) (p:Pr) (N:Nat) (w:World) (hN:N<=w.heap.size) (hP:nj w N c p) (hk:∀i,i<5->Y_ (partOf p i)):
 Calls prog 138 #[.agg c.cells] w λe w'=>((∀i,i<5->aU p i<=65536)/\e=.returned (.tuple #[.agg (s7 (aU p) 5),.int .i64 0])∨(∃i,i<5/\65536<aU p i)/\e=.returned (.tuple #[.agg (s7 (aU p) 0),.int .i64 12]))/\al w w':=by
 obtain⟨W1,kX⟩:=nm' (((w.alloc (.cells c.cells 163)).alloc (.cells #[.int .i64 0,.int .i64 0,.int .i64 0,.int .i64 0,.int .i64 0] 169)).alloc (.cells #[.int .i64 0,.int .i64 0,.int .i64 0,.int .i64 0,.int .i64 0] 169));have y1:al w W1:=by rw [kX];exact((dM w _).alloc _).alloc _
 have hz:((w.alloc (.cells c.cells 163)).alloc (.cells #[.int .i64 0,.int .i64 0,.int .i64 0,.int .i64 0,.int .i64 0] 169)).heap.size=w.heap.size+2:=by simp
 have hz1:(w.alloc (.cells c.cells 163)).heap.size=w.heap.size+1:=by simp
 have hpB:ai W1 w.heap.size 163 c.cells:=by rw [kX];exact((bN w _ _).alloc _).alloc _
 have hrB:ai W1 (w.heap.size+1) 169 (s7 (aU p) 0):=by rw [kX];exact(ai.ea _ _ _ _ aB).alloc _
 have hsB:ai W1 (w.heap.size+2) 169 (s7 (aU p) 0):=by rw [kX];exact ai.ea _ _ _ _ aB
 have HP:=J (hP.kept y1 hN (λ_ f=>f.elim));have Ui:=J hk;clear hP hk;go_enter func138,ntmps138;go_upto_region 2 with(fail)
 try rw [hz]
 try rw [hz1]
 rw [<-kX];clear hz hz1 kX;have Uq:=J y1.size;have Yy:=J hsB.lt;generalize ES:(w:World).heap.size=p4 at hpB hrB hsB⊢;have Di:=J ES;clear ES;have⟨ku,wW,agw⟩:=J3' hpB hrB hsB;clear hpB hrB hsB;go_wp21;refine(Mb _).mono ?_;rintro e W2 ⟨ex,st,rfl,hC,y2,he1,Rm⟩;have oh:p4+2<W1.heap.size:=agw.o.lt;have yc:al W2 (W2.alloc (.cells (Im ex st) 292)):=dM W2 _;have bc:=bN W2 292 (Im ex st);go_upto_region 3 with(fail);generalize (W2.alloc (.cells (Im ex st) 292))=W3 at yc bc⊢;have nw:p4+2<W2.heap.size:=by have:=y2.size;omega
 generalize W2.heap.size=cb at bc nw⊢;have⟨Y3,De,zU,HES⟩:=J4' (y2.trans yc) (hC.ext yc) bc (show¬ex=p4+2/\¬st=p4+2 by omega);have⟨HPC,OL,HRC,HSC,uA⟩:=J5' (bX ku.o Y3.o) (HP.o.kept Y3.o (by have:=Uq.o;omega) (λ_ f=>f.elim)) (bX wW.o Y3.o) (bX agw.o Y3.o) (show N<=p4 by have:=Di.o;omega);have Uf:=J (show p4+2<W3.heap.size from(HSC.o).lt);have Yq:=J nw;clear y2 yc bc hC he1 Rm oh nw;have i1:=bC HPC.o;have i2:=HPC.o.lt;go_wp21;clear i1 i2
 go_loopw [21] (λt21 wr=>∃(j:Nat),j<=5/\t21=.int .i64 j/\(∀i,i<j->aU p i<=65536)/\ai wr (p4+2) 169 (s7 (aU p) j)/\Kept (·=p4+2) W3 wr) (λt21 _=>5 - (intOf t21).toNat)
 case atStart=>exact⟨0,by omega,rfl,λi hi=>by omega,HSC.o,kR _ _⟩
 case round=>
  obtain⟨j,hj,rfl,hall,hB,hk⟩:=hrel;have⟨fW,HB,HK⟩:=J3' hall hB hk;clear hall hB hk
  by_cases Jz:j=5
  .subst Jz
   have hr:=bK HRC.o HK.o ad;have l1:=bH HB.o;have l2:=bG HB.o;have l3:=HB.o.lt;have l4:=bH hr;have l5:=ai.aC hr;have l6:=hr.lt;have HR:=J hr;clear hr;go_wp21;refine di (t:=169) (g:=p4+1) (cs:=s7 (aU p) 5) results138 rfl rfl j_ Tg S9 ⟨Or.inl ⟨fW.o,rfl⟩,?_⟩;have hq:=Di.o;exact(y1.trans Y3.o).trans' ((HK.o.mono (λ_ _ e=>Or.inr e)).trans (Kept.putAt (S:=λi=>i=p4+1∨i=p4+2) (kR _ _) _ 0 _ (λ_=>Or.inl rfl))) (λi hi e=>by omega)
  have VE:j=0∨j=1∨j=2∨j=3∨j=4:=by omega
  clear hj Jz
  rcases VE with rfl|rfl|rfl|rfl|rfl
  .skip
   have pU:(Instr.index 227 (.agg #[c.start.v,c.turn.v,c.cd.v,c.quiet.v,c.bO.v]) (.int .i64 0)).run prog wr=.ok c.start.v wr:=pf c.start c.turn c.cd c.quiet c.bO 0 ad wr;have oh:=OL.o.start;go_wp21;refine XY ?_;clear pU;intro w4 y4 nb b4 qI nS l1 l2 l3;go_wp21;have Mz:¬cb=nb:=by have a:=zU.o.lt;have b:=qI.o;omega
   refine X1 ?_;intro tZ;have Gm:jm wr N c.start.A c.start.n p.start:=oh.kept HK.o XK (λi e=>by have a:=uA.o;omega);have FM:=J (show c.start.n=p.start.len from oh.1);rw [FM.o]at Gm;have Gg:=nr p.start (Ui.o 0 ad) ex st N c.start.A c.start.c w4 (tZ.ext y4) (Gm.kept y4 XN (λ_ f=>f.elim)) XJ;rw [<-FM.o]at Gg;refine Gg.mono ?_;rintro e w5 ⟨rfl,y5⟩;go_wp21;refine(eM nb 8 (bT (dH p.start)) _ ad (by have:=eJ (dH p.start);omega) (bX b4 y5)).mono ?_;rintro e w6 ⟨rfl,b6,k6⟩;have LI:bT (8+bT (dH p.start))=aU p 0:=pD _ _;refine XW ?_;clear b6;intro b6 MD m1 m2 m3 LQ qC;have fu:=ai.eK LQ.o 0 (.int .i64 (aU p 0:Nat));have Dh:=J (qC.trans (Kept.setCell (S:=(·=p4+2)) (kR _ w6) ⟨p4+2,0,none⟩ (.int .i64 (aU p 0:Nat)) (λ_=>rfl)));have mE:=J (show ai (w6.setCell ⟨p4+2,0,none⟩ (.int .i64 (aU p 0:Nat))) (p4+2) 169 (s7 (aU p) (0+1))from fu);clear MD l1 l2 l3 fu qC Gg Gm tZ b4 y4 y5 b6 k6 oh LI;go_upto_region 8 with(fail);generalize (w6.setCell ⟨p4+2,0,none⟩ (.int .i64 (aU p 0:Nat)))=w8 at Dh mE⊢;clear m1 m2 m3;have m1:=bC mE.o;have m2:=mE.o.lt
   by_cases hbig:65536<aU p 0
   .have hg:decide ((65536:Int)<(aU p 0:Int))=true:=cJ ad
    refine Lc ?_;clear hbig;intro mR l4 l5 l6 HR;go_wp21;refine di (t:=169) (g:=p4+1) (cs:=s7 (aU p) 0) results138 rfl rfl j_ Tg S9 ⟨Or.inr ⟨⟨0,by omega,mR.o⟩,rfl⟩,?_⟩;exact Ym
   .have hg:decide ((65536:Int)<(aU p 0:Int))=false:=cT ad
    have mR:=J hbig;clear hbig;go_wp21;go_roundw
    case rel=>exact⟨0+1,by omega,by go_num,λi hi=>by rcases(by omega:i<0∨i=0)with q|q;exact fW.o i q;rw [q];have:=mR.o;omega,mE.o,Dh.o⟩
    case measure=>simp only [intOf];omega
  .skip
   have pU:(Instr.index 227 (.agg #[c.start.v,c.turn.v,c.cd.v,c.quiet.v,c.bO.v]) (.int .i64 1)).run prog wr=.ok c.turn.v wr:=pf c.start c.turn c.cd c.quiet c.bO 1 ad wr;have oh:=OL.o.turn;go_wp21;refine XY ?_;clear pU;intro w4 y4 nb b4 qI nS l1 l2 l3;go_wp21;have Mz:¬cb=nb:=by have a:=zU.o.lt;have b:=qI.o;omega
   refine X1 ?_;intro tZ;have Gm:jm wr N c.turn.A c.turn.n p.turn:=oh.kept HK.o XK (λi e=>by have a:=uA.o;omega);have FM:=J (show c.turn.n=p.turn.len from oh.1);rw [FM.o]at Gm;have Gg:=nr p.turn (Ui.o 1 ad) ex st N c.turn.A c.turn.c w4 (tZ.ext y4) (Gm.kept y4 XN (λ_ f=>f.elim)) XJ;rw [<-FM.o]at Gg;refine Gg.mono ?_;rintro e w5 ⟨rfl,y5⟩;go_wp21;refine(eM nb 8 (bT (dH p.turn)) _ ad (by have:=eJ (dH p.turn);omega) (bX b4 y5)).mono ?_;rintro e w6 ⟨rfl,b6,k6⟩;have LI:bT (8+bT (dH p.turn))=aU p 1:=pD _ _;refine XW ?_;clear b6;intro b6 MD m1 m2 m3 LQ qC;have fu:=ai.eK LQ.o 1 (.int .i64 (aU p 1:Nat));have Dh:=J (qC.trans (Kept.setCell (S:=(·=p4+2)) (kR _ w6) ⟨p4+2,1,none⟩ (.int .i64 (aU p 1:Nat)) (λ_=>rfl)));have mE:=J (show ai (w6.setCell ⟨p4+2,1,none⟩ (.int .i64 (aU p 1:Nat))) (p4+2) 169 (s7 (aU p) (1+1))from fu);clear MD l1 l2 l3 fu qC Gg Gm tZ b4 y4 y5 b6 k6 oh LI;go_upto_region 8 with(fail);generalize (w6.setCell ⟨p4+2,1,none⟩ (.int .i64 (aU p 1:Nat)))=w8 at Dh mE⊢;clear m1 m2 m3;have m1:=bC mE.o;have m2:=mE.o.lt
   by_cases hbig:65536<aU p 1
   .have hg:decide ((65536:Int)<(aU p 1:Int))=true:=cJ ad
    refine Lc ?_;clear hbig;intro mR l4 l5 l6 HR;go_wp21;refine di (t:=169) (g:=p4+1) (cs:=s7 (aU p) 0) results138 rfl rfl j_ Tg S9 ⟨Or.inr ⟨⟨1,by omega,mR.o⟩,rfl⟩,?_⟩;exact Ym
   .have hg:decide ((65536:Int)<(aU p 1:Int))=false:=cT ad
    have mR:=J hbig;clear hbig;go_wp21;go_roundw
    case rel=>exact⟨1+1,by omega,by go_num,λi hi=>by rcases(by omega:i<1∨i=1)with q|q;exact fW.o i q;rw [q];have:=mR.o;omega,mE.o,Dh.o⟩
    case measure=>simp only [intOf];omega
  .skip
   have pU:(Instr.index 227 (.agg #[c.start.v,c.turn.v,c.cd.v,c.quiet.v,c.bO.v]) (.int .i64 2)).run prog wr=.ok c.cd.v wr:=pf c.start c.turn c.cd c.quiet c.bO 2 ad wr;have oh:=OL.o.cd;go_wp21;refine XY ?_;clear pU;intro w4 y4 nb b4 qI nS l1 l2 l3;go_wp21;have Mz:¬cb=nb:=by have a:=zU.o.lt;have b:=qI.o;omega
   refine X1 ?_;intro tZ;have Gm:jm wr N c.cd.A c.cd.n p.cd:=oh.kept HK.o XK (λi e=>by have a:=uA.o;omega);have FM:=J (show c.cd.n=p.cd.len from oh.1);rw [FM.o]at Gm;have Gg:=nr p.cd (Ui.o 2 ad) ex st N c.cd.A c.cd.c w4 (tZ.ext y4) (Gm.kept y4 XN (λ_ f=>f.elim)) XJ;rw [<-FM.o]at Gg;refine Gg.mono ?_;rintro e w5 ⟨rfl,y5⟩;go_wp21;refine(eM nb 8 (bT (dH p.cd)) _ ad (by have:=eJ (dH p.cd);omega) (bX b4 y5)).mono ?_;rintro e w6 ⟨rfl,b6,k6⟩;have LI:bT (8+bT (dH p.cd))=aU p 2:=pD _ _;refine XW ?_;clear b6;intro b6 MD m1 m2 m3 LQ qC;have fu:=ai.eK LQ.o 2 (.int .i64 (aU p 2:Nat));have Dh:=J (qC.trans (Kept.setCell (S:=(·=p4+2)) (kR _ w6) ⟨p4+2,2,none⟩ (.int .i64 (aU p 2:Nat)) (λ_=>rfl)));have mE:=J (show ai (w6.setCell ⟨p4+2,2,none⟩ (.int .i64 (aU p 2:Nat))) (p4+2) 169 (s7 (aU p) (2+1))from fu);clear MD l1 l2 l3 fu qC Gg Gm tZ b4 y4 y5 b6 k6 oh LI;go_upto_region 8 with(fail);generalize (w6.setCell ⟨p4+2,2,none⟩ (.int .i64 (aU p 2:Nat)))=w8 at Dh mE⊢;clear m1 m2 m3;have m1:=bC mE.o;have m2:=mE.o.lt
   by_cases hbig:65536<aU p 2
   .have hg:decide ((65536:Int)<(aU p 2:Int))=true:=cJ ad
    refine Lc ?_;clear hbig;intro mR l4 l5 l6 HR;go_wp21;refine di (t:=169) (g:=p4+1) (cs:=s7 (aU p) 0) results138 rfl rfl j_ Tg S9 ⟨Or.inr ⟨⟨2,by omega,mR.o⟩,rfl⟩,?_⟩;exact Ym
   .have hg:decide ((65536:Int)<(aU p 2:Int))=false:=cT ad
    have mR:=J hbig;clear hbig;go_wp21;go_roundw
    case rel=>exact⟨2+1,by omega,by go_num,λi hi=>by rcases(by omega:i<2∨i=2)with q|q;exact fW.o i q;rw [q];have:=mR.o;omega,mE.o,Dh.o⟩
    case measure=>simp only [intOf];omega
  .skip
   have pU:(Instr.index 227 (.agg #[c.start.v,c.turn.v,c.cd.v,c.quiet.v,c.bO.v]) (.int .i64 3)).run prog wr=.ok c.quiet.v wr:=pf c.start c.turn c.cd c.quiet c.bO 3 ad wr;have oh:=OL.o.quiet;go_wp21;refine XY ?_;clear pU;intro w4 y4 nb b4 qI nS l1 l2 l3;go_wp21;have Mz:¬cb=nb:=by have a:=zU.o.lt;have b:=qI.o;omega
   refine X1 ?_;intro tZ;have Gm:jm wr N c.quiet.A c.quiet.n p.quiet:=oh.kept HK.o XK (λi e=>by have a:=uA.o;omega);have FM:=J (show c.quiet.n=p.quiet.len from oh.1);rw [FM.o]at Gm;have Gg:=nr p.quiet (Ui.o 3 ad) ex st N c.quiet.A c.quiet.c w4 (tZ.ext y4) (Gm.kept y4 XN (λ_ f=>f.elim)) XJ;rw [<-FM.o]at Gg;refine Gg.mono ?_;rintro e w5 ⟨rfl,y5⟩;go_wp21;refine(eM nb 8 (bT (dH p.quiet)) _ ad (by have:=eJ (dH p.quiet);omega) (bX b4 y5)).mono ?_;rintro e w6 ⟨rfl,b6,k6⟩;have LI:bT (8+bT (dH p.quiet))=aU p 3:=pD _ _;refine XW ?_;clear b6;intro b6 MD m1 m2 m3 LQ qC;have fu:=ai.eK LQ.o 3 (.int .i64 (aU p 3:Nat));have Dh:=J (qC.trans (Kept.setCell (S:=(·=p4+2)) (kR _ w6) ⟨p4+2,3,none⟩ (.int .i64 (aU p 3:Nat)) (λ_=>rfl)));have mE:=J (show ai (w6.setCell ⟨p4+2,3,none⟩ (.int .i64 (aU p 3:Nat))) (p4+2) 169 (s7 (aU p) (3+1))from fu);clear MD l1 l2 l3 fu qC Gg Gm tZ b4 y4 y5 b6 k6 oh LI;go_upto_region 8 with(fail);generalize (w6.setCell ⟨p4+2,3,none⟩ (.int .i64 (aU p 3:Nat)))=w8 at Dh mE⊢;clear m1 m2 m3;have m1:=bC mE.o;have m2:=mE.o.lt
   by_cases hbig:65536<aU p 3
   .have hg:decide ((65536:Int)<(aU p 3:Int))=true:=cJ ad
    refine Lc ?_;clear hbig;intro mR l4 l5 l6 HR;go_wp21;refine di (t:=169) (g:=p4+1) (cs:=s7 (aU p) 0) results138 rfl rfl j_ Tg S9 ⟨Or.inr ⟨⟨3,by omega,mR.o⟩,rfl⟩,?_⟩;exact Ym
   .have hg:decide ((65536:Int)<(aU p 3:Int))=false:=cT ad
    have mR:=J hbig;clear hbig;go_wp21;go_roundw
    case rel=>exact⟨3+1,by omega,by go_num,λi hi=>by rcases(by omega:i<3∨i=3)with q|q;exact fW.o i q;rw [q];have:=mR.o;omega,mE.o,Dh.o⟩
    case measure=>simp only [intOf];omega
  .skip
   have pU:(Instr.index 227 (.agg #[c.start.v,c.turn.v,c.cd.v,c.quiet.v,c.bO.v]) (.int .i64 4)).run prog wr=.ok c.bO.v wr:=pf c.start c.turn c.cd c.quiet c.bO 4 ad wr;have oh:=OL.o.bO;go_wp21;refine XY ?_;clear pU;intro w4 y4 nb b4 qI nS l1 l2 l3;go_wp21;have Mz:¬cb=nb:=by have a:=zU.o.lt;have b:=qI.o;omega
   refine X1 ?_;intro tZ;have Gm:jm wr N c.bO.A c.bO.n p.bO:=oh.kept HK.o XK (λi e=>by have a:=uA.o;omega);have FM:=J (show c.bO.n=p.bO.len from oh.1);rw [FM.o]at Gm;have Gg:=nr p.bO (Ui.o 4 ad) ex st N c.bO.A c.bO.c w4 (tZ.ext y4) (Gm.kept y4 XN (λ_ f=>f.elim)) XJ;rw [<-FM.o]at Gg;refine Gg.mono ?_;rintro e w5 ⟨rfl,y5⟩;go_wp21;refine(eM nb 8 (bT (dH p.bO)) _ ad (by have:=eJ (dH p.bO);omega) (bX b4 y5)).mono ?_;rintro e w6 ⟨rfl,b6,k6⟩;have LI:bT (8+bT (dH p.bO))=aU p 4:=pD _ _;refine XW ?_;clear b6;intro b6 MD m1 m2 m3 LQ qC;have fu:=ai.eK LQ.o 4 (.int .i64 (aU p 4:Nat));have Dh:=J (qC.trans (Kept.setCell (S:=(·=p4+2)) (kR _ w6) ⟨p4+2,4,none⟩ (.int .i64 (aU p 4:Nat)) (λ_=>rfl)));have mE:=J (show ai (w6.setCell ⟨p4+2,4,none⟩ (.int .i64 (aU p 4:Nat))) (p4+2) 169 (s7 (aU p) (4+1))from fu);clear MD l1 l2 l3 fu qC Gg Gm tZ b4 y4 y5 b6 k6 oh LI;go_upto_region 8 with(fail);generalize (w6.setCell ⟨p4+2,4,none⟩ (.int .i64 (aU p 4:Nat)))=w8 at Dh mE⊢;clear m1 m2 m3;have m1:=bC mE.o;have m2:=mE.o.lt
   by_cases hbig:65536<aU p 4
   .have hg:decide ((65536:Int)<(aU p 4:Int))=true:=cJ ad
    refine Lc ?_;clear hbig;intro mR l4 l5 l6 HR;go_wp21;refine di (t:=169) (g:=p4+1) (cs:=s7 (aU p) 0) results138 rfl rfl j_ Tg S9 ⟨Or.inr ⟨⟨4,by omega,mR.o⟩,rfl⟩,?_⟩;exact Ym
   .have hg:decide ((65536:Int)<(aU p 4:Int))=false:=cT ad
    have mR:=J hbig;clear hbig;go_wp21;go_roundw
    case rel=>exact⟨4+1,by omega,by go_num,λi hi=>by rcases(by omega:i<4∨i=4)with q|q;exact fW.o i q;rw [q];have:=mR.o;omega,mE.o,Dh.o⟩
    case measure=>simp only [intOf];omega
theorem n9 (n:Int) (w:World):Calls prog 102 #[.int .i64 n] w λe w'=>e=.returned (.bool (decide (0<=n)&&decide (n<5)))/\w=w':=by
 by_cases h0:0<=n
 .have g0:decide (0<=n)=true:=cJ h0
  clear h0
  by_cases h5:n<5
  .have g5:decide (n<5)=true:=cJ h5
   clear h5;rw [g0,g5];go_enter func102,ntmps102;go_wp21;go_ret;exact⟨rfl,rfl⟩
  .have g5:decide (n<5)=false:=cT h5
   clear h5;rw [g0,g5];go_enter func102,ntmps102;go_wp21;go_ret;exact⟨rfl,rfl⟩
 .have g0:decide (0<=n)=false:=cT h0
  clear h0;rw [g0,Bool.false_and];go_enter func102,ntmps102;go_wp21;go_ret;exact⟨rfl,rfl⟩
theorem PH (n:Nat) (hn:n<=4096) (w:World):(Instr.makeSlice 40 (.int .i64 n) (.int .i64 n)).run prog w=.ok (.slice (some ⟨w.heap.size,0,none⟩) n n) (w.alloc (.cells (bj (List.replicate n 0)).toArray 21)):=by
 obtain⟨i,hi,hz,h1,h2⟩:=info_parts Gp;have hr:=run_make (P:=prog) w 40 21 i _ underlying40 hi hz .i64 .i64 n n ad (Int.le_refl _) Tk ad;rw [hr,h1]
 have e:madeCells (Value.cells (.int .i32 0)) (((n:Int)).toNat*1)=(bj (List.replicate n 0)).toArray:=by
  apply Array.ext
  .simp [madeCells,bj]
  .intro j hj VE
   simp [madeCells,bj,Value.cells,Nat.mod_one]
 rw [e];simp
theorem WB (n:Nat) (h1:1<=n) (h2:n<=256) (w:World):Calls prog 105 #[.int .i64 n] w λe w'=>∃g,e=.returned (.tuple #[.agg (ae 0 (some ⟨g,0,none⟩) n n 0),.int .i64 0])/\ai w' g 21 (bj (List.replicate n 0)).toArray/\al w w'/\w.heap.size<=g:=by
 have g1:decide ((n:Int)<1)=false:=cT ad;have g2:decide ((256:Int)<n)=false:=cT ad;have hmk:=PH n ad;clear h1 h2;have y0:=dY w (.cells #[.int .i64 0,.slice none 0 0,.int .i64 0] 47);have b0:=bN w 47 #[.int .i64 0,.slice none 0 0,.int .i64 0];go_enter func105,ntmps105;go_upto_region 1 with(fail);generalize (w.alloc (.cells #[.int .i64 0,.slice none 0 0,.int .i64 0] 47))=W1 at y0 b0⊢;generalize hg:(w:World).heap.size=g at b0⊢;have HG:=J hg;clear hg;go_upto_region 3 with(fail);go_step
 iterate 1 refine kE ?_
 refine ia rfl _ _ 40 rfl rfl rfl (hmk W1) ?_;have y1:al W1 (W1.alloc (.cells (bj (List.replicate n 0)).toArray 21)):=dM W1 _;have bm:=bN W1 21 (bj (List.replicate n 0)).toArray;have Bz:g<W1.heap.size:=b0.lt;have b1:=bX b0 y1;generalize (W1.alloc (.cells (bj (List.replicate n 0)).toArray 21))=W2 at y1 bm b1⊢;have pL:=y0.size;generalize W1.heap.size=gm at bm Bz pL⊢;have l1:=bH b1;have l2:=ai.aC b1;have l3:=b1.lt;clear hmk;have B1:=J b1;have BM:=J bm;go_wp21;have kp:Kept (·=g) W2 (putAt W2 g 0 #[.int .i64 0,.slice (some ⟨gm,0,none⟩) n n,.int .i64 0]):=Kept.putAt (kR _ _) _ 0 _ (λ_=>rfl);refine di (t:=47) (g:=g) (cs:=ae 0 (some ⟨gm,0,none⟩) n n 0) results105 rfl rfl jK zQ (by exact ai.cw B1.o 0 _) ⟨gm,rfl,bK BM.o kp ad,?_,pL⟩;exact(y0.trans y1).trans' kp (λi hi e=>by have:=HG.o;omega)
structure Cd where (cells aL:Int) (first params i0 i1 i2 i3 i4:i_) (m:Nat->Nat)
abbrev Cd.c (k:Cd):Array Value:=#[.int .i64 k.cells,.int .i64 k.aL,k.first.v,k.params.v,k.i0.v,k.i1.v,k.i2.v,k.i3.v,k.i4.v,.int .i64 (k.m 0),.int .i64 (k.m 1),.int .i64 (k.m 2),.int .i64 (k.m 3),.int .i64 (k.m 4)]
theorem Bc (cb:Nat) (k:Cd) (w:World) (hb:ai w cb 171 k.c) (h0:0<=k.cells/\k.cells<=1000):Calls prog 54 #[.pointer (some ⟨cb,0,none⟩)] w λe w'=>e=.returned (.int .i64 (k.cells+49))/\w=w':=by
 have i1:=bC hb;have i2:=hb.lt;have hw:=wrap_i64 (n:=k.cells+49) C8;clear hb;go_enter func54,ntmps54;go_wp21;go_ret;exact⟨rfl,rfl⟩
theorem se (cb:Nat) (k:Cd) (w:World) (hb:ai w cb 171 k.c) (part:Nat) (hp:part<5):Calls prog 44 #[.pointer (some ⟨cb,0,none⟩),.int .i64 part] w λe w'=>e=.returned (.int .i64 (k.m part))/\w=w':=by
 have i1:=bC hb;have i2:=hb.lt;clear hb;have hj:part=0∨part=1∨part=2∨part=3∨part=4:=by omega
 clear hp
 rcases hj with rfl|rfl|rfl|rfl|rfl
 all_goals
  go_enter func44,ntmps44;go_wp21;refine aoT (n9 _ _) ?_;go_wp21;go_ret;exact⟨rfl,rfl⟩
theorem MV (b off cap:Nat) (l:List Ins) (n:Nat) (hn:n=l.length) (h1:1<=n) (h2:n<=50000) (w:World) (hr:Row w b off (db l)):
 Calls prog 69 #[.slice (some ⟨b,off,none⟩) n cap] w λe w'=>∃v,e=.returned v/\w'.ownsRow w.heap.size 71 4 v n (db l)/\al w w':=by
 obtain⟨v2,w2,iV,mq,eV⟩:=abS (w.alloc (.cells #[] 71)) _ _ 0 [] (Ai w 71 4) b off n cap l hn (hr.ext (dM w _)) ad aB;have HN:=J hn;clear hn;have heq:=λw=>Lib.run_eql_slice_nil (P:=prog) w 48 71 (some ⟨b,off,none⟩) n cap 0 0 underlying48;simp only [Option.isNone_some]at heq;go_enter func69,ntmps69;go_upto_region 3 with(fail);go_step
 iterate 2 refine kE ?_
 refine cj rfl (.tmp 5) (.tmp 6) 48 rfl rfl rfl rfl iV ?_;clear iV;go_wp21;go_ret;rw [dT,qx]at mq;exact⟨_,rfl,mq,(dM w _).trans' eV (λi hi e=>by simp [Value.ownBlock]at e;omega)⟩
def Cd.i (k:Cd):Nat->i_|0=>k.i0|1=>k.i1|2=>k.i2|3=>k.i3|_=>k.i4
theorem rq (cb:Nat) (k:Cd) (w:World) (hb:ai w cb 171 k.c) (part:Nat) (hp:part<5) (b off:Nat) (l:List Ins) (hn:(k.i part).n=l.length) (h1:1<=(k.i part).n) (h2:(k.i part).n<=50000) (hA:(k.i part).A=some ⟨b,off,none⟩) (hr:Row w b off (db l)):
 Calls prog 47 #[.pointer (some ⟨cb,0,none⟩),.int .i64 part] w λe w'=>∃v,e=.returned v/\w'.ownsRow w.heap.size 71 4 v l.length (db l)/\al w w':=by
 have i1:=bC hb;have i2:=hb.lt;have nw:=MV b off (k.i part).c l (k.i part).n hn h1 h2 w hr;rw [<-hA,hn]at nw;have HN:=J hn;clear hb hA hr h1 h2;have hj:part=0∨part=1∨part=2∨part=3∨part=4:=by omega
 clear hp hn;have Yq:=J nw;clear nw
 rcases hj with rfl|rfl|rfl|rfl|rfl
 all_goals
  go_enter func47,ntmps47;go_wp21;refine aoT (n9 _ _) ?_;go_wp21;have nw:=Yq.o;rw [<-HN.o]at nw;refine(nw:_).mono ?_;rintro e w2 ⟨v,rfl,ho,hx⟩;go_wp21;go_ret;exact⟨v,rfl,by rw [<-HN.o];exact ho,hx⟩
theorem RV (w:World):Calls prog 273 #[] w λe w'=>e=.returned (.slice (some ⟨w.heap.size,0,none⟩) 5 5)/\al w w'/\ai w' w.heap.size 9 #[.string NY,.string kN,.string fJ,.string Hs,.string nW]:=by
 go_enter func273,ntmps273;go_wp21;go_ret;exact⟨rfl,dM w _,bN w _ _⟩
theorem NQ (k:Nat) (hk:k<10) (w:World):Calls prog 271 #[.int .i64 (k:Int)] w λe w'=>e=.returned (.int .i64 (stmtParts (k:Int)))/\al w w':=by
 have hx:=dY w (.cells #[.int .i64 1,.int .i64 2,.int .i64 1,.int .i64 0,.int .i64 0,.int .i64 0,.int .i64 1,.int .i64 0,.int .i64 2,.int .i64 1] 3);have hkI:(k:Int)<10:=by omega
 have hc:(w.alloc (.cells #[.int .i64 1,.int .i64 2,.int .i64 1,.int .i64 0,.int .i64 0,.int .i64 0,.int .i64 1,.int .i64 0,.int .i64 2,.int .i64 1] 3)).cell? ⟨w.heap.size,k,none⟩=some (.int .i64 (stmtParts (k:Int))):=by
  rw [bC (bN w _ _)];have:∀k,k<10->Aq[k]?=some ((stmtParts (k:Nat):Nat):Int):=by decide
  have h2:=this k hk;have h3:(#[Value.int .i64 1,.int .i64 2,.int .i64 1,.int .i64 0,.int .i64 0,.int .i64 0,.int .i64 1,.int .i64 0,.int .i64 2,.int .i64 1]:Array Value)=(Aq.map (Value.int .i64)).toArray:=rfl;rw [h3,List.getElem?_toArray,List.getElem?_map,h2]
  rfl
 go_enter func271,ntmps271;go_wp21;go_ret;exact⟨rfl,hx⟩
theorem BS (l:List Vr) (s:Str):(fm l s==0)=!(l.any (λv=>decide (v.name=s))):=by
 unfold fm
 cases hf:l.find? (λv=>decide (v.name=s))with
 |none=>
  have:l.any (λv=>decide (v.name=s))=false:=by
   rw [List.any_eq_false];intro v hv;exact List.find?_eq_none.1 hf v hv
  rw [this];rfl
 |some v=>
  have:l.any (λv=>decide (v.name=s))=true:=by
   rw [List.any_eq_true];exact⟨v,List.mem_of_find?_eq_some hf,List.find?_some (p:=λv:Vr=>decide (v.name=s)) hf⟩
  rw [this];simp only
  split<;>rfl
theorem ri.take {w:World} {N:Nat} {A:Option Addr} {n:Nat} {l:List Vr} (h:ri w N A n l) (j:Nat) (hj:j<=n):ri w N A j (l.take j):=by
 obtain⟨h1,h2,h3,b,off,h4,h5⟩:=h;refine⟨by rw [mz];omega,?_,λv hv=>h3 v (List.mem_of_mem_take hv),b,off,λh0=>h4 ad,λh0=>⟨(h5 ad).1,?_⟩⟩
 .unfold Fits at h2⊢
  have:j*40<=n*40:=Nat.mul_le_mul_right _ hj
  omega
 .have hr:=(h5 ad).2
  have hs:=hr.sub 0 (j*4) (by rw [ja (f:=aZ) (k:=4) (λ_=>rfl)];omega)
  have he:(bZ aZ l).take (j*4)=bZ aZ (l.take j):=by
   have e1:bZ aZ l=bZ aZ (l.take j)++bZ aZ (l.drop j):=by rw [Fh,List.take_append_drop]
   have e2:(bZ aZ (l.take j)).length=j*4:=by rw [ja (f:=aZ) (k:=4) (λ_=>rfl),mz];rw [Nat.min_eq_left ad]
   rw [e1,<-e2,List.take_left]
  have e3:(bZ aZ (l.take j)).length=j*4:=by rw [ja (f:=aZ) (k:=4) (λ_=>rfl),mz];rw [Nat.min_eq_left ad]
  rw [eW,re,he]at hs;exact⟨by rw [e3];exact hs.1,by rw [e3];exact hs.2,hr.lt⟩
theorem Sy (l:List Vr) (A:Option Addr) (n c N:Nat) (w:World) (qM:n<=c) (hN:N<=w.heap.size) (h:ri w N A n l):Calls prog 146 #[.slice A n c] w λe w'=>e=.returned (.agg (fM (aj (eG [] l) (must (decide (cells l<=64)) 8 qP))))/\al w w':=by
 obtain⟨X,hX⟩:=nm' (aj (eG [] l) (must (decide (cells l<=64)) 8 qP));rw [<-hX];have HX:=J hX.symm;clear hX;have aF:=dY w (.cells #[.int .i64 0,.string ⟨#[]⟩] 166);have hD:=bN w 166 #[.int .i64 0,.string ⟨#[]⟩];have HV:=J (h.ext aF);obtain⟨hn,hf,hok,b,off,hA,hE⟩:=h.ext aF;refine xP ?_;intro hm HN HA HE;have lm:=J hok;have fX:=J (ax hN aF.size);clear hn hA hE hok hf h;go_enter func146,ntmps146;go_upto_region 1 with(fail);generalize hW:(w.alloc (.cells #[.int .i64 0,.string ⟨#[]⟩] 166))=W at aF hD HE HV fX⊢;clear hW;obtain⟨rb,mC⟩:=nm' w.heap.size;rw [<-mC]at hD⊢;have⟨AB,HD,dS⟩:=J3' (show w.heap.size<=rb by omega) hD aF;clear hD aF mC;go_wp21
 go_loopw [3,4] (λt3 t4 wr=>∃(j:Nat),j<=n/\t4=.int .i64 j/\t3=.int .i64 (jc (cells (l.take j)))/\aj (eG (l.take j) (l.drop j)) (must (decide (cells l<=64)) 8 qP)=X/\al W wr) (λ_ t4 _=>n - (intOf t4).toNat)
 case atStart=>exact⟨0,cI _,rfl,by simp [cells,eu],HX.o,kR _ _⟩
 case round=>
  obtain⟨j,hj,rfl,rfl,bw,hx⟩:=hrel;have cy:=J hx;have ca:=J bw;clear hx bw
  by_cases aP:j<n
  .have d_:j<l.length:=by have:=HN.o;omega
   have gD:(j:Int)<n:=by omega
   have hjc:(j:Int)<=c:=by omega
   have HJV:=J (HV.o.take j hj);obtain rfl:=HA.o ad;have aE:=(HE.o ad).2.ext cy.o;obtain⟨jx,hg'⟩:=oB aE j d_;have gB:=aE.lt;obtain⟨x,fj⟩:=nm' (l[j]);have HVO:=J (lm.o x abt);have oc:l.drop j=x::l.drop (j+1):=by rw [fj];exact q_ d_
   have pd:l.take (j+1)=l.take j++[x]:=by rw [fj,lq,List.getElem?_eq_getElem d_];rfl
   have HCT:=J (show cells (l.take (j+1))=cells (l.take j)+Sq.fq x by rw [nt d_,<-fj]);rw [<-fj]at hg';have bw:=ca.o;rw [oc]at bw;have Ej:=J pd;obtain⟨Y,hY⟩:=nm' (aj (eG (l.take j++[x]) (l.drop (j+1))) (must (decide (cells l<=64)) 8 qP));have YA:=J hY
   have gf:aoR (X=aj (must (dq x.name) 6 x.name) (aj (must (!((l.take j).any (λv=>decide (v.name=x.name)))) 7 x.name) (aj (must (iL x.size 0 64&&span x) 2 x.name) Y))):=J (by
    rw [<-bw,hY,eG,du,du,du,BS])
   clear aE fj bw oc pd hY ca;have y0:=dY wr (.cells (aZ x) 174);have Ge:=bN wr 174 (aZ x);go_upto_region 6 with(fail);clear jx hg' gB;have HZ:=J (cy.o.trans y0);generalize kX:(wr.alloc (.cells (aZ x) 174))=W1 at y0 Ge HZ⊢;generalize wr.heap.size=eb at Ge⊢;have Zz:=J Ge;clear kX y0 Ge cy;have MF:=bC Zz.o;have MI:=Zz.o.lt;go_wp21;refine aoS (lQ x.name HVO.o.name _) λw1 aw=>?_;have cy:=J (HZ.o.trans aw);have Ek:=J (bX Zz.o aw);clear MF MI aw Zz HZ;have MF:=bC Ek.o;have MI:=Ek.o.lt;refine afK ?_;intro dW fE gl gg
   cases hn:dq x.name
   .have HR:=J (show X=some ⟨6,x.name⟩by rw [gf.o,hn,aM,aT])
    exact Yk
   .have gq:=J (show X=aj (must (!((l.take j).any (λv=>decide (v.name=x.name)))) 7 x.name) (aj (must (iL x.size 0 64&&span x) 2 x.name) Y)by rw [gf.o,hn,bt,aS])
    clear gf hn dW fE gl gg MF MI;go_upto_region 8 with(fail);refine fH (λw2=>al w1 w2) [(0,2),(1,2),(2,2),(3,2),(4,1),(5,0)] ?_;refine fI ?_;have eE:=J (pg w1)
    repeat first|refine cx ?_|refine de eE.o (by intro w1 hS;have d4:=bX Ek.o hS;have d5:=bC d4;have d6:=d4.lt;exact fV) ?_|refine dc eE.o ?_
    refine au (λK hK=>?_);go_simp;refine aoT (vh (l.take j) x.name _ j _ N _ (HJV.o.ext (cy.o.trans eE.o))) ?_;refine hK.out _ _ (λ_=>eE.o) ?_;clear hK K;refine fx ?_;have cy:=J (cy.o.trans eE.o);have zt:=J (bX Ek.o eE.o);generalize w1.drew=W2 at cy zt⊢;clear eE Ek;have MF:=bC zt.o;have MI:=zt.o.lt;refine afK ?_;intro dW fE gl gg;obtain⟨an,Vo⟩:=nm' ((l.take j).any (λv=>decide (v.name=x.name)));rw [<-Vo]at gq⊢;clear Vo
    cases an
    .have eU:=J (show X=aj (must (iL x.size 0 64&&(word x.low&&word x.high&&decide (x.low<=x.high))) 2 x.name) Y by rw [gq.o,Bool.not_false,bt,aS];rfl)
     clear gq dW fE gl gg;go_wp21;refine aoT (pX x.size 0 64 _) ?_
     cases hb:iL x.size 0 64
     .have HR:=J (show X=some ⟨2,x.name⟩by rw [eU.o,hb,Bool.false_and,aM,aT])
      exact abL
     .go_wp21
      refine aoT (iZ x.low _) ?_
      cases om:word x.low
      .have HR:=J (show X=some ⟨2,x.name⟩by rw [eU.o,hb,om];rfl)
       exact abL
      .go_wp21
       refine aoT (iZ x.high _) ?_
       cases tf:word x.high
       .have HR:=J (show X=some ⟨2,x.name⟩by rw [eU.o,hb,om,tf];rfl)
        exact abL
       .have kv:=J (show X=aj (must (decide (x.low<=x.high)) 2 x.name) Y by rw [eU.o,hb,om,tf,rf,rf,rf])
        clear eU hb om tf
        by_cases iM:x.low>x.high
        .have HR:=J (show X=some ⟨2,x.name⟩by rw [kv.o,cT ad,aM,aT])
         exact abL
        .have tm:=J (show X=Y by rw [kv.o,cJ ad,bt,aS])
         have hhV:=bH zt.o;have hgV:=bG zt.o;go_wp21;refine aoS (xd x _) λw4 eS=>?_;go_wp21;go_roundw
         case rel=>exact⟨j+1,aP,by go_num,by rw [HCT.o];simp only [ij],by rw [Ej.o,<-YA.o,tm.o],cy.o.trans eS⟩
         case measure=>simp only [intOf];omega
    .have HR:=J (show X=some ⟨7,x.name⟩by rw [gq.o,uM,aM,aT])
     exact Yk
  .obtain rfl:j=n:=by omega
   have hXM:X=must (decide (cells l<=64)) 8 qP:=by rw [<-ca.o,HN.o,tp];rfl
   have hz:jc (cells (l.take j))=cells l:=by rw [HN.o,jr,pI Te]
   rw [hz];have Ii:=J hXM;obtain⟨z,hze⟩:=nm' (cells l);rw [<-hze]at Ii⊢;clear hz hXM ca hze;refine afK ?_;intro dW fE gl gg
   by_cases h64:z>64
   .have HR:=J (show X=some ⟨8,qP⟩by rw [Ii.o,cT ad,aM])
    exact Yk
   .have HR:=J (show X=none by rw [Ii.o,cJ ad,bt])
    clear dW fE gl gg;go_wp21;refine aoS (kh _) λw2 bd=>?_;have cy:=J (cy.o.trans bd);refine afK ?_;intro dW fE gl gg;clear bd;exact Yk

