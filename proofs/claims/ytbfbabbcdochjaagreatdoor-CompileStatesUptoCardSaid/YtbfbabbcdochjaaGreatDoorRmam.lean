/- Several texts joined: Kc, Kd, Ke, Kf, Kg, Kh, Kia. -/
import Derived.Test.YtbfbabbcdochjaaGreatDoorRmpk
import Derived.Test.YtbfbabbcdochjaaGreatDoorRmal
set_option maxHeartbeats 4000000
set_option maxRecDepth 100000
open Go.Proofs.Tryz
namespace Go.Proofs.YtbfbabbcdochjaaGreatDoor.Mc
open Go.RowKit
abbrev q8 (w:World) (s:Nat) (t:TypeId) (pc:Int) (A:Option Addr) (n cap:Nat) (halt:Int):Prop:=aH w s t (aN pc A n cap halt)
def fC (c:List Ins) (pc:Int) (k:Nat):Option Ins:=match c[pc.toNat]? with|some i=>if bM i c.length k=true then some i else none|none=>none
abbrev aho (o:Option Ins):Ins:=o.getD ⟨0,0,0,0⟩
theorem Ur (s:Nat) (pc halt:Int) (M:Option Addr) (k kc:Nat) (A:Option Addr) (n cap:Nat) (w:World) (h2:n<=2048) (hp:(n:Int)<=pc) (hs:q8 w s 49 pc M k kc halt):
 Calls prog 112 #[.pointer (some ⟨s,0,none⟩),.slice A n cap] w λe w'=>e=.returned (.tuple #[.agg (Ins.cells ⟨0,0,0,0⟩),.bool false])/\Ext w w':=by
 have hx0:Ext w _:=(kR _ w).alloc (.cells (Ins.cells ⟨0,0,0,0⟩) 77);have hR0:=bN w 77 (Ins.cells ⟨0,0,0,0⟩);have hS0:=aH.alloc hs (.cells (Ins.cells ⟨0,0,0,0⟩) 77);have hls:=hs.lt;have b1:decide ((2048:Int)<n)=false:=by simp;omega
 have b1':decide (2048<n)=false:=by simp;omega
 have b2:decide ((n:Int)<=pc)=true:=by simpa using hp
 clear hs;go_enter func112,ntmps112;go_wp2_with fail;generalize (w.alloc (.cells (Ins.cells ⟨0,0,0,0⟩) 77))=W at hx0 hR0 hS0⊢;have sZ:=hS0.lt;refine acR ?_
 (repeat first|refine cu ?_|refine dL (Kept.drew (kR _ _)) (by intro w1 hS;have d1:=bC (bX hS0 hS);exact gX) ?_|refine dK (Kept.drew (kR _ _)) ?_)
 (refine aC (λK hK=>?_);go_simp)
 refine hK.out _ _ (λh=>h) ?_;clear hK K;refine gI ?_;have yB:aH W.drew w.heap.size 77 (Ins.cells ⟨0,0,0,0⟩):=hR0;have hh1:=bH yB;have hm1:=aH.bF yB;go_wp2_with fail;refine dU results112 rfl rfl xS (by exact uM) (aH.gL yB _ _) ⟨rfl,?_⟩;exact Kept.putAt (hx0.drew) _ _ _ (λh=>by omega)
theorem aaP (s:Nat) (halt:Int) (M:Option Addr) (k kc:Nat) (b off:Nat) (c:List Ins) (n cap p:Nat) (w:World) (hn:n=c.length) (h2:n<=2048) (hp:p<n) (hops:OpsAt w) (hs:q8 w s 49 p M k kc halt) (hr:Row w b off (fV c)):
 Calls prog 112 #[.pointer (some ⟨s,0,none⟩),.slice (some ⟨b,off,none⟩) n cap] w λe w'=>e=.returned (.tuple #[.agg (aho (fC c p k)).cells,.bool (fC c p k).isSome])/\Ext w w':=by
 have hpl:p<c.length:=by omega
 obtain⟨i,hi⟩:∃i,i=c[p]:=⟨_,rfl⟩
 have hnx:fC c p k=if bM i n k=true then some i else none:=by
  simp only [fC,Int.toNat_natCast,List.getElem?_eq_getElem hpl,<-hi,<-hn]
 have hx0:Ext w _:=(kR _ w).alloc (.cells (Ins.cells ⟨0,0,0,0⟩) 77);have hR0:=bN w 77 (Ins.cells ⟨0,0,0,0⟩);have hS0:=aH.alloc hs (.cells (Ins.cells ⟨0,0,0,0⟩) 77);have hC0:=hr.ext hx0;have nQ:=J (hops.ext hx0);have hls:=hs.lt;have b1:decide ((2048:Int)<n)=false:=by simp;omega
 have b1':decide (2048<n)=false:=by simp;omega
 have b2:decide ((n:Int)<=p)=false:=by simp;omega
 have b2':decide (n<=p)=false:=by simp;omega
 have hpI:(p:Int)<n:=by omega
 have HX:=J hnx;have HI:=J hi;clear hs hr hops hnx;obtain⟨a1,a2⟩:=hC0.ins p hpl;rw [<-HI.out]at a2;clear hi;have HN:=J hn;clear hn;obtain⟨R,hR⟩:∃R,R=bM i n k:=⟨_,rfl⟩;have HR:=J hR;clear hR;go_enter func112,ntmps112;go_wp2_with fail;generalize (w.alloc (.cells (Ins.cells ⟨0,0,0,0⟩) 77))=W at hx0 hR0 hS0 hC0 nQ a1 a2⊢;have sZ:=hS0.lt;have hlC:=hC0.lt;refine acR ?_
 (repeat first|refine cu ?_|refine dL (Kept.drew (kR _ _)) (by intro w1 hS;have d1:=bC (bX hS0 hS);have d2:=(hC0.ext hS).ins p hpl;rw [<-HI.out]at d2;have d3:=d2.1;have d4:=d2.2;exact gX) ?_|refine dK (Kept.drew (kR _ _)) ?_)
 (refine aC (λK hK=>?_);go_simp)
 go_wp2_with fail;refine(DX i n k _ (nQ.out.ext ((kR _ W).drew))).mono ?_;rintro e w1 ⟨e1,hx1⟩;replace e1:e=.returned (.bool R):=by rw [e1,HR.out]
 subst e1;have y1:Ext W w1:=((kR _ W).drew).trans hx1;refine hK.out _ _ (λ_=>y1) ?_;clear hK K;refine gI ?_;have yB:=bX hR0 y1;have hh1:=bH yB;have hm1:=aH.bF yB;have hS1:=bX hS0 y1;have hc1:=bC hS1;obtain⟨q1,q2⟩:=(hC0.ext y1).ins p hpl;rw [<-HI.out]at q2
 cases hq:R
 ·have e:fC c p k=none:=by rw [HX.out,<-HR.out,hq];rfl
  exact ajD
 ·have e:fC c p k=some i:=by rw [HX.out,<-HR.out,hq];rfl
  exact ajD
theorem Pk (c:List Ins) (pc:Int) (k:Nat) (h:(c.length:Int)<=pc):fC c pc k=none:=by
 unfold fC;rw [List.getElem?_eq_none aj]
theorem X9 (s:Nat) (pc halt:Int) (M:Option Addr) (k kc:Nat) (A:Option Addr) (b off:Nat) (c:List Ins) (n cap:Nat) (w:World) (hn:n=c.length) (h2:n<=2048) (hp:0<=pc) (hA:0<n->A=some ⟨b,off,none⟩) (hops:OpsAt w) (hs:q8 w s 49 pc M k kc halt) (hr:0<n->Row w b off (fV c)):
 Calls prog 112 #[.pointer (some ⟨s,0,none⟩),.slice A n cap] w λe w'=>e=.returned (.tuple #[.agg (aho (fC c pc k)).cells,.bool (fC c pc k).isSome])/\Ext w w':=by
 by_cases h:(n:Int)<=pc
 ·rw [Pk c pc k aj]
  exact Ur s pc halt M k kc A n cap w h2 h hs
 ·obtain⟨p,rfl⟩:∃p:Nat,pc=p:=⟨pc.toNat,by omega⟩
  obtain rfl:=hA aj;exact aaP s halt M k kc b off c n cap p w hn h2 aj hops hs (hr aj)
open Go.RowKit
def rX (p:Int) (k:Nat):Int:=if 0<=p/\p<k then p else -1
def lC (i:Ins) (m:List Int):Int:=if i.op=15 then rX (i.b+m.getD i.c.toNat 0) m.length else if i.op=16 then rX (i.a+m.getD i.b.toNat 0) m.length else -1
theorem dV {h:List UInt8} {k:Nat} {n size words:Int} (hk:h[k]?=some 119) (h1:pR h k n size words=true):0<=n/\n<words:=by
 simpa [pR,hk,GJ]using h1
theorem GK {h:List UInt8} {k:Nat} {n size words:Int} (hk:h[k]?=some 112) (h1:pR h k n size words=true):0<=n/\n<size:=by
 simpa [pR,hk,GJ]using h1
theorem AJ {h:List UInt8} {k:Nat} {n size words:Int} (hk:h[k]?=some 110) (h1:pR h k n size words=true):-2147483648<=n/\n<=2147483647:=by
 simpa [pR,hk,GJ,wO]using h1
theorem rY {i:Ins} {size words:Int} (h:bM i size words=true):0<=i.op/\i.op<22/\pR (oP i.op.toNat) 0 i.a size words=true/\pR (oP i.op.toNat) 1 i.b size words=true/\pR (oP i.op.toNat) 2 i.c size words=true/\ji i=true:=by
 simp only [bM,Bool.and_eq_true]at h;obtain⟨⟨h1,⟨h2,h3⟩,h4⟩,h5⟩:=h;simp [isOp]at h1;exact⟨h1.1,h1.2,h2,h3,h4,h5⟩
theorem aeh (i:Ins) (s:Nat) (pc halt:Int) (M:Option Addr) (k kc:Nat) (w:World) (hk:k<=256) (Z_:(i.op==15)=false) (h16:(i.op==16)=false) (hs:q8 w s 49 pc M k kc halt):
 Calls prog 113 #[.pointer (some ⟨s,0,none⟩),.agg i.cells] w λe w'=>e=.returned (.int .i64 (-1))/\Ext w w':=by
 have hx0:Ext w _:=(kR _ w).alloc (.cells i.cells 77);have hS0:=aH.alloc hs (.cells i.cells 77);have hls:=hs.lt;have hc:=bC hs;have b1:decide ((k:Int)<=-1)=false:=by simp;omega
 go_enter func113,ntmps113;go_wp2_with fail;go_ret;exact⟨rfl,hx0⟩
theorem Xl (a b c:Nat) (s:Nat) (pc halt:Int) (g off k kc:Nat) (m:List Int) (w:World) (hkm:k=m.length) (hk:k<=256) (hb:b<k) (hc:c<k) (hm:∀x∈m,au x) (hs:q8 w s 49 pc (some ⟨g,off,none⟩) k kc halt) (hr:Row w g off (aM m)):
 Calls prog 113 #[.pointer (some ⟨s,0,none⟩),.agg (Ins.cells ⟨15,a,b,c⟩)] w λe w'=>e=.returned (.int .i64 (rX (b+m.getD c 0) k))/\Ext w w':=by
 have hcl:c<m.length:=by omega
 have hx0:Ext w _:=(kR _ w).alloc (.cells (Ins.cells ⟨15,a,b,c⟩) 77);have hS0:=aH.alloc hs (.cells (Ins.cells ⟨15,a,b,c⟩) 77);have hI0:=bN w 77 (Ins.cells ⟨15,a,b,c⟩);have hM0:=hr.ext hx0;have hls:=hs.lt;obtain⟨x,hx⟩:∃x,x=m[c]:=⟨_,rfl⟩;have hxr:au x:=by rw [hx];exact hm _ (List.getElem_mem hcl)
 have hgd:m.getD c 0=x:=by simp [hcl,hx]
 rw [hgd];unfold au at hxr;obtain⟨hx1,hx2⟩:=hxr;obtain⟨q,hq⟩:∃q,q=(b:Int)+x:=⟨_,rfl⟩;rw [<-hq];have hw1:IntKind.i64.wrap ((b:Int)+x)=q:=by rw [IntKind.wrap_i64];omega
 have hw0:IntKind.i64.wrap x=x:=by rw [IntKind.wrap_i64];omega
 have hcI:(c:Int)<k:=by omega
 have HXX:=J hx;have HQ:=J hq;have Ht:=J hkm;clear hs hr hx hgd hq hkm hm;go_enter func113,ntmps113;go_wp2_with fail;generalize (w.alloc (.cells (Ins.cells ⟨15,a,b,c⟩) 77))=W at hx0 hS0 hI0 hM0⊢;have l1:=hS0.lt;have l2:=hI0.lt;have l3:=hM0.lt;refine gM (λw1=>Ext W w1) [(0,2),(1,1),(2,2),(3,2),(4,2),(5,1),(6,2),(7,1),(8,2),(9,1),(10,1),(11,2),(12,2)] ?_;refine gN ?_
 (repeat first|refine cu ?_|refine dL (Kept.drew (kR _ _)) (by intro w1 hS;have d1:=bC (bX hS0 hS);have d2:=bC (bX hI0 hS);have d3:=(hM0.ext hS).mem c hcl;rw [<-HXX.out]at d3;exact gX) ?_|refine dK (Kept.drew (kR _ _)) ?_)
 exact aja
theorem TF (a b c:Nat) (s:Nat) (pc halt:Int) (g off k kc:Nat) (m:List Int) (w:World) (hkm:k=m.length) (hk:k<=256) (ha:a<k) (hc:b<k) (hm:∀x∈m,au x) (hs:q8 w s 49 pc (some ⟨g,off,none⟩) k kc halt) (hr:Row w g off (aM m)):
 Calls prog 113 #[.pointer (some ⟨s,0,none⟩),.agg (Ins.cells ⟨16,a,b,c⟩)] w λe w'=>e=.returned (.int .i64 (rX (a+m.getD b 0) k))/\Ext w w':=by
 have hcl:b<m.length:=by omega
 have hx0:Ext w _:=(kR _ w).alloc (.cells (Ins.cells ⟨16,a,b,c⟩) 77);have hS0:=aH.alloc hs (.cells (Ins.cells ⟨16,a,b,c⟩) 77);have hI0:=bN w 77 (Ins.cells ⟨16,a,b,c⟩);have hM0:=hr.ext hx0;have hls:=hs.lt;obtain⟨x,hx⟩:∃x,x=m[b]:=⟨_,rfl⟩;have hxr:au x:=by rw [hx];exact hm _ (List.getElem_mem hcl)
 have hgd:m.getD b 0=x:=by simp [hcl,hx]
 rw [hgd];unfold au at hxr;obtain⟨hx1,hx2⟩:=hxr;obtain⟨q,hq⟩:∃q,q=(a:Int)+x:=⟨_,rfl⟩;rw [<-hq];have hw1:IntKind.i64.wrap ((a:Int)+x)=q:=by rw [IntKind.wrap_i64];omega
 have hw0:IntKind.i64.wrap x=x:=by rw [IntKind.wrap_i64];omega
 have hcI:(b:Int)<k:=by omega
 have HXX:=J hx;have HQ:=J hq;have Ht:=J hkm;clear hs hr hx hgd hq hkm hm;go_enter func113,ntmps113;go_wp2_with fail;generalize (w.alloc (.cells (Ins.cells ⟨16,a,b,c⟩) 77))=W at hx0 hS0 hI0 hM0⊢;have l1:=hS0.lt;have l2:=hI0.lt;have l3:=hM0.lt;refine gM (λw1=>Ext W w1) [(0,2),(1,1),(2,2),(3,2),(4,2),(5,1),(6,2),(7,1),(8,2),(9,1),(10,1),(11,2),(12,2)] ?_;refine gN ?_
 (repeat first|refine cu ?_|refine dL (Kept.drew (kR _ _)) (by intro w1 hS;have d1:=bC (bX hS0 hS);have d2:=bC (bX hI0 hS);have d3:=(hM0.ext hS).mem b hcl;rw [<-HXX.out]at d3;exact gX) ?_|refine dK (Kept.drew (kR _ _)) ?_)
 exact aja
theorem fE (i:Ins) (size:Int) (s:Nat) (pc halt:Int) (g off k kc:Nat) (m:List Int) (w:World) (hkm:k=m.length) (hk:k<=256) (hi:bM i size k=true) (hm:∀x∈m,au x) (hs:q8 w s 49 pc (some ⟨g,off,none⟩) k kc halt) (hr:Row w g off (aM m)):
 Calls prog 113 #[.pointer (some ⟨s,0,none⟩),.agg i.cells] w λe w'=>e=.returned (.int .i64 (lC i m))/\Ext w w':=by
 obtain⟨h0,h22,ha,hb,hc,he⟩:=rY hi
 by_cases Z_:i.op=15
 ·rw [Z_]at ha hb hc
  have ha:=dV rfl ha;have hb:=dV rfl hb;have hc:=dV rfl hc;obtain⟨op,a,b,c⟩:=i;simp at Z_ ha hb hc;subst Z_;obtain⟨a,rfl⟩:∃n:Nat,a=n:=⟨a.toNat,by omega⟩;obtain⟨b,rfl⟩:∃n:Nat,b=n:=⟨b.toNat,by omega⟩;obtain⟨c,rfl⟩:∃n:Nat,c=n:=⟨c.toNat,by omega⟩;have:=Xl a b c s pc halt g off k kc m w hkm hk aj aj hm hs hr
  simpa [lC,<-hkm]using this
 ·by_cases h16:i.op=16
  ·rw [h16]at ha hb hc
   have ha:=dV rfl ha;have hb:=dV rfl hb;have hc:=dV rfl hc;obtain⟨op,a,b,c⟩:=i;simp at h16 ha hb hc;subst h16;obtain⟨a,rfl⟩:∃n:Nat,a=n:=⟨a.toNat,by omega⟩;obtain⟨b,rfl⟩:∃n:Nat,b=n:=⟨b.toNat,by omega⟩;obtain⟨c,rfl⟩:∃n:Nat,c=n:=⟨c.toNat,by omega⟩;have:=TF a b c s pc halt g off k kc m w hkm hk aj aj hm hs hr
   simpa [lC,<-hkm]using this
  ·rw [show lC i m=-1 by simp only [lC,if_neg Z_,if_neg h16]]
   exact aeh i s pc halt _ k kc w hk (by simpa using Z_) (by simpa using h16) hs
open Go.RowKit
def ni (w:World) (g:Nat) (es:Array MapEntry) (clock:Nat):Prop:=w.heap[g]?=some (.map es clock)
theorem ni.lt {w:World} {g:Nat} {es:Array MapEntry} {clock:Nat} (h:ni w g es clock):g<w.heap.size:=(Array.getElem?_eq_some_iff.1 h).1
theorem ni.kept {S:Nat->Prop} {w w':World} {g:Nat} {es:Array MapEntry} {clock:Nat} (h:ni w g es clock) (hk:Kept S w w') (hs:¬S g):ni w' g es clock:=(hk.block g h.lt hs).trans h
theorem ni.ext {w w':World} {g:Nat} {es:Array MapEntry} {clock:Nat} (h:ni w g es clock) (hk:Ext w w'):ni w' g es clock:=h.kept hk (λf=>f)
theorem lH (w:World) (g:Nat) (es:Array MapEntry) (clock:Nat) (k:Int) (f:Value) (hb:ni w g es clock) (hf:Instr.findNow (.int .i64) (.int .i64 k) es.toList 0=some none):
 ∃w',(Instr.mapUpdate 131 (.map (some g)) (.int .i64 k) f).run prog w=.ok () w'/\ni w' g (es.push ⟨.int .i64 k,f,clock⟩) (clock+1)/\Kept (·=g) w w':=by
 have hc:(Instr.checkKey false 10000 3 (.int .i64 k)).run prog w=.ok () w:=MapKept.run_checkKey (k:=.int .i64 k) underlying3 (by simp [MapKept.IsKey]) false 9999;refine⟨{w with heap:=w.heap.setIfInBounds g (.map (es.push ⟨.int .i64 k,f,clock⟩) (clock+1))},?_,?_,⟨rfl,rfl,rfl,by simp,λj hj hn=>?_⟩⟩
 ·simp [Instr.mapUpdate,run_underlying underlying131,MapKept.run_getObj_map hb,hc,MapKept.run_findKey underlying3 hf,MapKept.run_setObj_map _ hb,Result.andThen]
 ·exact(MapKept.heap_set hb).1
 ·exact(MapKept.heap_set hb).2 j hn
theorem aK {P:Program} {w:World} {ops:Array Oper} {rest:List Oper} {o:Oper} {a:Act} {Q:Exit->Act->World->Prop} (hgd:o.guard=none) (T:TypeId) (m k x:Operand)
 (ho:o.op=.insert T m k x) (hd:o.dst=none) {vm vk vx:Value} {w':World} (hm:a.eval m=vm) (hk:a.eval k=vk) (hx:a.eval x=vx)
 (hrun:(Instr.mapUpdate T vm vk vx).run P w=.ok () w') (h:wpList P ops Q rest a w'):wpList P ops Q (o::rest) a w:=by
 refine wpList_plain hgd λ_ hK=>?_;unfold Oper.wp execOp;simp only [ho,Sem.run_bind,Sem.run_pure,Result.andThen_ok,hm,hk,hx,hrun,Oper.upon];have e:a.put o.dst undef=a:=by rw [hd];rfl
 rw [e];exact hK _ _ h
def iK (n:Nat):Array MapEntry:=(([⟨.int .i64 3,.func (.func 100) #[] #[],0⟩,⟨.int .i64 4,.func (.func 101) #[] #[],1⟩,⟨.int .i64 5,.func (.func 102) #[] #[],2⟩,⟨.int .i64 6,.func (.func 103) #[] #[],3⟩,⟨.int .i64 7,.func (.func 104) #[] #[],4⟩,⟨.int .i64 8,.func (.func 105) #[] #[],5⟩,⟨.int .i64 9,.func (.func 107) #[] #[],6⟩,⟨.int .i64 10,.func (.func 108) #[] #[],7⟩,⟨.int .i64 11,.func (.func 109) #[] #[],8⟩,⟨.int .i64 12,.func (.func 110) #[] #[],9⟩,⟨.int .i64 13,.func (.func 111) #[] #[],10⟩]:List MapEntry).take n).toArray
theorem YG (w:World):Calls prog 62 #[] w λe w'=>e=.returned (.map (some w.heap.size))/\ni w' w.heap.size (iK 11) 11/\Ext w w':=by
 have hmm:=@run_makeMap prog;go_enter func62,ntmps62;go_upto_region 1 with(fail);go_step
 iterate 1 refine qY ?_
 have b0:ni (w.alloc (.map #[] 0)) w.heap.size (iK 0) 0:=heap_alloc_new w _;have y0:Ext w (w.alloc (.map #[] 0)):=(kR _ w).alloc _;generalize (w.alloc (.map #[] 0))=w0 at b0 y0⊢;obtain⟨w1,r1,b1,k1⟩:=lH w0 w.heap.size (iK 0) 0 3 (.func (.func 100) #[] #[]) b0 jf;refine aK rfl 131 (.tmp 1) (.const (.int .i64 3)) (.func 100) rfl rfl rfl rfl rfl r1 ?_;replace b1:ni w1 w.heap.size (iK 1) 1:=b1;have y1:Ext w w1:=y0.trans' k1 (λi hi e=>by omega);clear r1 k1 b0 y0;obtain⟨w2,r2,b2,k2⟩:=lH w1 w.heap.size (iK 1) 1 4 (.func (.func 101) #[] #[]) b1 jf;refine aK rfl 131 (.tmp 1) (.const (.int .i64 4)) (.func 101) rfl rfl rfl rfl rfl r2 ?_;replace b2:ni w2 w.heap.size (iK 2) 2:=b2;have y2:Ext w w2:=y1.trans' k2 (λi hi e=>by omega);clear r2 k2 b1 y1;obtain⟨w3,r3,b3,k3⟩:=lH w2 w.heap.size (iK 2) 2 5 (.func (.func 102) #[] #[]) b2 jf;refine aK rfl 131 (.tmp 1) (.const (.int .i64 5)) (.func 102) rfl rfl rfl rfl rfl r3 ?_;replace b3:ni w3 w.heap.size (iK 3) 3:=b3;have y3:Ext w w3:=y2.trans' k3 (λi hi e=>by omega);clear r3 k3 b2 y2;obtain⟨w4,r4,b4,k4⟩:=lH w3 w.heap.size (iK 3) 3 6 (.func (.func 103) #[] #[]) b3 jf;refine aK rfl 131 (.tmp 1) (.const (.int .i64 6)) (.func 103) rfl rfl rfl rfl rfl r4 ?_;replace b4:ni w4 w.heap.size (iK 4) 4:=b4;have y4:Ext w w4:=y3.trans' k4 (λi hi e=>by omega);clear r4 k4 b3 y3;obtain⟨w5,r5,b5,k5⟩:=lH w4 w.heap.size (iK 4) 4 7 (.func (.func 104) #[] #[]) b4 jf;refine aK rfl 131 (.tmp 1) (.const (.int .i64 7)) (.func 104) rfl rfl rfl rfl rfl r5 ?_;replace b5:ni w5 w.heap.size (iK 5) 5:=b5;have y5:Ext w w5:=y4.trans' k5 (λi hi e=>by omega);clear r5 k5 b4 y4;obtain⟨w6,r6,b6,k6⟩:=lH w5 w.heap.size (iK 5) 5 8 (.func (.func 105) #[] #[]) b5 jf;refine aK rfl 131 (.tmp 1) (.const (.int .i64 8)) (.func 105) rfl rfl rfl rfl rfl r6 ?_;replace b6:ni w6 w.heap.size (iK 6) 6:=b6;have y6:Ext w w6:=y5.trans' k6 (λi hi e=>by omega);clear r6 k6 b5 y5;obtain⟨w7,r7,b7,k7⟩:=lH w6 w.heap.size (iK 6) 6 9 (.func (.func 107) #[] #[]) b6 jf;refine aK rfl 131 (.tmp 1) (.const (.int .i64 9)) (.func 107) rfl rfl rfl rfl rfl r7 ?_;replace b7:ni w7 w.heap.size (iK 7) 7:=b7;have y7:Ext w w7:=y6.trans' k7 (λi hi e=>by omega);clear r7 k7 b6 y6;obtain⟨w8,r8,b8,k8⟩:=lH w7 w.heap.size (iK 7) 7 10 (.func (.func 108) #[] #[]) b7 jf;refine aK rfl 131 (.tmp 1) (.const (.int .i64 10)) (.func 108) rfl rfl rfl rfl rfl r8 ?_;replace b8:ni w8 w.heap.size (iK 8) 8:=b8;have y8:Ext w w8:=y7.trans' k8 (λi hi e=>by omega);clear r8 k8 b7 y7;obtain⟨w9,r9,b9,k9⟩:=lH w8 w.heap.size (iK 8) 8 11 (.func (.func 109) #[] #[]) b8 jf;refine aK rfl 131 (.tmp 1) (.const (.int .i64 11)) (.func 109) rfl rfl rfl rfl rfl r9 ?_;replace b9:ni w9 w.heap.size (iK 9) 9:=b9;have y9:Ext w w9:=y8.trans' k9 (λi hi e=>by omega);clear r9 k9 b8 y8;obtain⟨w10,UC,b10,k10⟩:=lH w9 w.heap.size (iK 9) 9 12 (.func (.func 110) #[] #[]) b9 jf;refine aK rfl 131 (.tmp 1) (.const (.int .i64 12)) (.func 110) rfl rfl rfl rfl rfl UC ?_;replace b10:ni w10 w.heap.size (iK 10) 10:=b10;have Sq:Ext w w10:=y9.trans' k10 (λi hi e=>by omega);clear UC k10 b9 y9;obtain⟨w11,r11,b11,k11⟩:=lH w10 w.heap.size (iK 10) 10 13 (.func (.func 111) #[] #[]) b10 jf;refine aK rfl 131 (.tmp 1) (.const (.int .i64 13)) (.func 111) rfl rfl rfl rfl rfl r11 ?_;replace b11:ni w11 w.heap.size (iK 11) 11:=b11;have y11:Ext w w11:=Sq.trans' k11 (λi hi e=>by omega);clear r11 k11 b10 Sq;go_wp2_with fail;go_ret;exact⟨rfl,b11,y11⟩
theorem uw (w:World) (g:Nat) (k:Int) (f:Value) (i:Nat) (hb:ni w g (iK 11) 11) (hf:Instr.findNow (.int .i64) (.int .i64 k) (iK 11).toList 0=some (some (i,f))):
 (Instr.lookup 131 (.map (some g)) (.int .i64 k) false).run prog w=.ok f w:=by
 have hc:(Instr.checkKey (iK 11).isEmpty 10000 3 (.int .i64 k)).run prog w=.ok () w:=MapKept.run_checkKey (k:=.int .i64 k) underlying3 (by simp [MapKept.IsKey]) _ 9999;simp [Instr.lookup,run_underlying underlying131,MapKept.run_getObj_map hb,hc,MapKept.run_findKey underlying3 hf,Result.andThen]
def bR (b:Bool):Int:=if b=true then 1 else 0
theorem kV (b:Bool) (w:World):Calls prog 106 #[.bool b] w λe w'=>e=.returned (.int .i32 (bR b))/\w=w':=by
 cases b
 all_goals
  go_enter func106,ntmps106;go_wp2_with fail;go_ret;exact⟨rfl,rfl⟩
def gJ (k:Nat) (b c:Int):Int:=match k with
 |3=>IntKind.i32.wrap (b+c)
 |4=>IntKind.i32.wrap (b - c)
 |5=>IntKind.i32.wrap (b*c)
 |6=>if c=0 then 0 else IntKind.i32.wrap (b.tdiv c)
 |7=>if c=0 then 0 else b.tmod c
 |8=>bR (b==c)
 |9=>bR (b !=c)
 |10=>bR (decide (b<c))
 |11=>bR (decide (b<=c))
 |12=>bR (b !=0&&c !=0)
 |_=>bR (b !=0||c !=0)
open Go.RowKit
theorem alD (b c:Int) (_hb:au b) (_Fg:au c) (w:World):Calls prog 100 #[.int .i32 b,.int .i32 c] w λe w'=>e=.returned (.int .i32 (gJ 3 b c))/\w=w':=by
 unfold au at _hb _Fg;go_enter func100,ntmps100;go_wp2_with fail;go_ret;exact⟨b_ afh,rfl⟩
theorem alE (b c:Int) (_hb:au b) (_Fg:au c) (w:World):Calls prog 101 #[.int .i32 b,.int .i32 c] w λe w'=>e=.returned (.int .i32 (gJ 4 b c))/\w=w':=by
 unfold au at _hb _Fg;go_enter func101,ntmps101;go_wp2_with fail;go_ret;exact⟨b_ afh,rfl⟩
theorem alF (b c:Int) (_hb:au b) (_Fg:au c) (w:World):Calls prog 102 #[.int .i32 b,.int .i32 c] w λe w'=>e=.returned (.int .i32 (gJ 5 b c))/\w=w':=by
 unfold au at _hb _Fg;go_enter func102,ntmps102;go_wp2_with fail;go_ret;exact⟨b_ afh,rfl⟩
theorem alG (b c:Int) (_hb:au b) (_Fg:au c) (w:World):Calls prog 103 #[.int .i32 b,.int .i32 c] w λe w'=>e=.returned (.int .i32 (gJ 6 b c))/\w=w':=by
 unfold au at _hb _Fg
 by_cases h0:c=0
 ·have b0:(c==0)=true:=by simp [h0]
  have H0:=J h0;clear h0;go_enter func103,ntmps103;exact Nj
 ·have b0:(c==0)=false:=by simp [h0]
  have H0:=J h0;go_enter func103,ntmps103;go_wp2_with fail;go_ret;exact⟨b_ (by simp [gJ,H0.out,IntKind.wrap_i32,wrap32]),rfl⟩
theorem alH (b c:Int) (_hb:au b) (_Fg:au c) (w:World):Calls prog 104 #[.int .i32 b,.int .i32 c] w λe w'=>e=.returned (.int .i32 (gJ 7 b c))/\w=w':=by
 unfold au at _hb _Fg
 by_cases h0:c=0
 ·have b0:(c==0)=true:=by simp [h0]
  have H0:=J h0;clear h0;go_enter func104,ntmps104;exact Nj
 ·have b0:(c==0)=false:=by simp [h0]
  have H0:=J h0;go_enter func104,ntmps104;exact Nj
theorem alI (b c:Int) (_hb:au b) (_Fg:au c) (w:World):Calls prog 105 #[.int .i32 b,.int .i32 c] w λe w'=>e=.returned (.int .i32 (gJ 8 b c))/\w=w':=by
 unfold au at _hb _Fg;go_enter func105,ntmps105;exact Sw
theorem alJ (b c:Int) (_hb:au b) (_Fg:au c) (w:World):Calls prog 107 #[.int .i32 b,.int .i32 c] w λe w'=>e=.returned (.int .i32 (gJ 9 b c))/\w=w':=by
 unfold au at _hb _Fg;go_enter func107,ntmps107;exact Sw
theorem aic (b c:Int) (_hb:au b) (_Fg:au c) (w:World):Calls prog 108 #[.int .i32 b,.int .i32 c] w λe w'=>e=.returned (.int .i32 (gJ 10 b c))/\w=w':=by
 unfold au at _hb _Fg;go_enter func108,ntmps108;exact Sw
theorem aie (b c:Int) (_hb:au b) (_Fg:au c) (w:World):Calls prog 109 #[.int .i32 b,.int .i32 c] w λe w'=>e=.returned (.int .i32 (gJ 11 b c))/\w=w':=by
 unfold au at _hb _Fg;go_enter func109,ntmps109;exact Sw
theorem aif (b c:Int) (_hb:au b) (_Fg:au c) (w:World):Calls prog 110 #[.int .i32 b,.int .i32 c] w λe w'=>e=.returned (.int .i32 (gJ 12 b c))/\w=w':=by
 unfold au at _hb _Fg
 by_cases h0:b=0
 ·have b0:(b !=0)=false:=by simp [h0]
  have H0:=J h0;clear h0;go_enter func110,ntmps110;go_wp2_with fail;refine(kV _ _).mono ?_;rintro e w1 ⟨rfl,rfl⟩;exact Nj
 ·have b0:(b !=0)=true:=by simp [h0]
  have H0:=J h0;clear h0;go_enter func110,ntmps110;go_wp2_with fail;refine(kV _ _).mono ?_;rintro e w1 ⟨rfl,rfl⟩;go_wp2_with fail;go_ret;exact⟨b_ (by unfold gJ;rw [b0];rfl),rfl⟩
theorem aii (b c:Int) (_hb:au b) (_Fg:au c) (w:World):Calls prog 111 #[.int .i32 b,.int .i32 c] w λe w'=>e=.returned (.int .i32 (gJ 13 b c))/\w=w':=by
 unfold au at _hb _Fg
 by_cases h0:b=0
 ·have b0:(b !=0)=false:=by simp [h0]
  have H0:=J h0;clear h0;go_enter func111,ntmps111;go_wp2_with fail;refine(kV _ _).mono ?_;rintro e w1 ⟨rfl,rfl⟩;exact Nj
 ·have b0:(b !=0)=true:=by simp [h0]
  have H0:=J h0;clear h0;go_enter func111,ntmps111;go_wp2_with fail;refine(kV _ _).mono ?_;rintro e w1 ⟨rfl,rfl⟩;go_wp2_with fail;go_ret;exact⟨b_ (by unfold gJ;rw [b0];rfl),rfl⟩
open Go.RowKit
def eB (w:World) (base g n kc:Nat) (m:List Int):Prop:=w.ownsRow base 21 1 (.slice (some ⟨g,0,none⟩) n kc) n (aM m)
section
variable {w w':World} {base g n kc:Nat} {m:List Int}
theorem dQ (m:List Int):(aM m).length=m.length:=by simp [aM]
theorem eB.inv (h:eB w base g n kc m):n=m.length/\∃cur,base<=g/\w.heap[g]?=some (.cells cur 21 (0,0))/\n<=kc/\kc<=maxLen/\cur.size=kc/\cur.toList.take n=aM m:=by
 have hl:=h.1;rw [dQ,Nat.mul_one]at hl
 rcases h.2 with⟨hv,_⟩|⟨g',c,cur,hv,hb,hc,hnc,hcm,hcs,htk⟩
 ·simp at hv
 ·simp at hv
  obtain⟨rfl,rfl⟩:=hv;rw [Nat.mul_one]at hcs htk;exact⟨hl.symm,cur,hb,hc,hnc,hcm,hcs,htk⟩
theorem eB.row (h:eB w base g n kc m):Row w g 0 (aM m):=by
 obtain⟨hn,cur,hb,hc,hnc,hcm,hcs,htk⟩:=h.inv;refine⟨?_,?_,(Array.getElem?_eq_some_iff.1 hc).1⟩
 ·unfold Proofs.YtbfbabbcdochjaaGreatDoor.has;rw [hc,dQ];simp;omega
 ·unfold gets;rw [hc,dQ,<-hn];simp only [List.drop_zero];rw [htk]
theorem eB.lt (h:eB w base g n kc m):g<w.heap.size:=h.row.lt
theorem eB.cell (h:eB w base g n kc m) (k:Nat) (hk:k<m.length):w.cell? ⟨g,k,none⟩=some (.int .i32 m[k]):=by
 have:=h.row.mem k hk
 rwa [Nat.zero_add]at this
theorem eB.frozen (h:eB w base g n kc m) (k:Nat):w.frozen? ⟨g,k,none⟩=false:=by
 obtain⟨hn,cur,hb,hc,_⟩:=h.inv;simp [World.frozen?,hc]
theorem eB.kept {S:Nat->Prop} (h:eB w base g n kc m) (hk:Kept S w w') (hs:¬S g):eB w' base g n kc m:=bS h hk (λx hx=>by simp [Value.ownBlock]at hx;subst hx;exact hs)
theorem eB.ext (h:eB w base g n kc m) (hk:Ext w w'):eB w' base g n kc m:=bD h hk
theorem eB.far (h:eB w base g n kc m) {p:Addr} (hp:¬g=p.block) (u:Value):eB (w.setCell p u) base g n kc m:=
 h.kept (Kept.setCell (S:=(·=p.block)) (kR _ w) p u (λ_=>rfl)) hp
theorem eB.set (h:eB w base g n kc m) (k:Nat) (_hk:k<m.length) (v:Int):eB (w.setCell ⟨g,k,none⟩ (.int .i32 v)) base g n kc (m.set k v):=by
 obtain⟨hn,cur,hb,hc,hnc,hcm,hcs,htk⟩:=h.inv;refine⟨by rw [dQ];simp [hn],.inr ⟨g,kc,cur.setIfInBounds k (.int .i32 v),rfl,hb,?_,hnc,hcm,by simpa using hcs,?_⟩⟩
 ·simp [World.setCell,Array.getElem?_modify,hc]
 ·rw [Nat.mul_one,Array.toList_setIfInBounds,List.take_set,htk,aM,aM,List.map_set]
end
structure Stepped (w w':World) (base s g n kc:Nat) (r:Int×Int×List Int):Prop where
 st:q8 w' s 49 r.1 (some ⟨g,0,none⟩) n kc r.2.1
 mem:eB w' base g n kc r.2.2
 kept:Kept (λi=>i=s∨i=g) w w'
theorem Stepped.goal {w w2:World} {base s g n kc:Nat} {m:List Int} {pc halt:Int} (hk:Kept (λi=>i=s∨i=g) w w2) (hs:q8 w2 s 49 pc (some ⟨g,0,none⟩) n kc halt) (hm:eB w2 base g n kc m) (hsg:¬s=g) (pc':Int):
 Stepped w (w2.setCell ⟨s,0,none⟩ (.int .i64 pc')) base s g n kc (pc',halt,m):=
 ⟨aH.gW hs 0 (.int .i64 pc'),hm.far (λe=>hsg e.symm) _,Kept.setCell hk _ _ (λ_=>.inl rfl)⟩
theorem Stepped.halt {w w2:World} {base s g n kc:Nat} {m:List Int} {pc halt:Int} (hk:Kept (λi=>i=s∨i=g) w w2) (hs:q8 w2 s 49 pc (some ⟨g,0,none⟩) n kc halt) (hm:eB w2 base g n kc m) (hsg:¬s=g) (oo:Int):
 Stepped w (w2.setCell ⟨s,2,none⟩ (.int .i64 oo)) base s g n kc (pc,oo,m):=
 ⟨aH.gW hs 2 (.int .i64 oo),hm.far (λe=>hsg e.symm) _,Kept.setCell hk _ _ (λ_=>.inl rfl)⟩
def aV (m:List Int) (i:Int):Int:=m.getD i.toNat 0
def cO (m:List Int) (i:Int) (v:Int):List Int:=m.set i.toNat v
def bQ (i:Ins) (pc:Int) (m:List Int):Int×Int×List Int:=
 if i.op=0 then(pc,1+i.a,m)
 else if i.op=1 then(pc+1,0,cO m i.a i.b)
 else if i.op=2 then(pc+1,0,cO m i.a (aV m i.b))
 else if i.op=14 then(pc+1,0,cO m i.a (bR (aV m i.b==0)))
 else if i.op=15 then(pc+1,0,cO m i.a (aV m (lC i m)))
 else if i.op=16 then(pc+1,0,cO m (lC i m) (aV m i.c))
 else if i.op=17 then(pc+1,0,cO m i.a (min (max (aV m i.a) i.b) i.c))
 else if i.op=18 then(pc+1,0,cO m i.a (bR (decide (0<=aV m i.b)&&decide (aV m i.b<i.c))))
 else if i.op=19 then(i.a,0,m)
 else if i.op=20 then(if aV m i.b=0 then i.a else pc+1,0,m)
 else if i.op=21 then(if aV m i.b=0 then pc+1 else i.a,0,m)
 else(pc+1,0,cO m i.a (gJ i.op.toNat (aV m i.b) (aV m i.c)))
def lost (i:Ins) (m:List Int):Bool:=decide (lC i m<0)&&(i.op==15||i.op==16)
def lV (c:List Ins) (pc:Int) (m:List Int):Int×Int×List Int:=
 match fC c pc m.length with
 |none=>(pc,2,m)
 |some i=>if lost i m=true then(pc,2,m)else bQ i pc m
open Go.RowKit
structure eG (w:World) (base s g n kc q:Nat) (A:Option Addr) (b off cn:Nat) (c:List Ins) (pc:Int) (m:List Int):Prop where
 n_eq:n=m.length
 n1:1<=n
 n2:n<=256
 vQ:∀x∈m,au x
 ops:OpsAt w
 st:q8 w s 49 pc (some ⟨g,0,none⟩) n kc 0
 mem:eB w base g n kc m
 map:ni w q (iK 11) 11
 cA:0<cn->A=some ⟨b,off,none⟩
 row:0<cn->Row w b off (fV c)
 W_:cn=c.length
 cn2:cn<=2048
 pc0:0<=pc
 pc1:pc<=2048
 sg:¬s=g
theorem nM {m:List Int} {k:Nat} (hk:k<m.length):aV m (k:Int)=m[k]:=by simp [aV,hk]
theorem jC {P:Program} {fn:Func} {R:Ending->World->Prop} {a:Act} {w:World} (hres:fn.results=#[]) (hd:a.defers=[]) (hR:R (.returned (.tuple #[])) w):bodyPost P fn R .ret a w:=
 bodyPost_ret (results_none hres _ _ _) hd hR
open Go.RowKit
theorem alq (w:World) (base s g n kc q:Nat) (A:Option Addr) (b off cn cap:Nat) (c:List Ins) (pc:Int) (m:List Int) (h:eG w base s g n kc q A b off cn c pc m) (a y z:Int) (ha:a=0∨a=1) (hnx:fC c pc n=some ⟨0,a,y,z⟩) (hright:bM ⟨0,a,y,z⟩ cn n=true):
 Calls prog 63 #[.pointer (some ⟨s,0,none⟩),.slice A cn cap,.map (some q)] w λe w'=>e=.returned (.tuple #[])/\Stepped w w' base s g n kc (bQ ⟨0,a,y,z⟩ pc m):=by
 refine G9 ?_;clear h hnx hright;intro hn1 hn2 hst hmem hmap lF mq mU hsg hls DW hlq hgs HX HN HO nQ HA HR wo ng;go_wp2_with fail;refine BX ?_;intro e w1 e1 hx1;replace e1:e=.returned (.tuple #[.agg (Ins.cells ⟨0,a,y,z⟩),.bool true]):=by rw [e1,HX.out];rfl
 subst e1;have hI1:=bN w1 77 (Ins.cells ⟨0,a,y,z⟩);have x1:=hx1.alloc (.cells (Ins.cells ⟨0,a,y,z⟩) 77);have hS1:=bX hst x1;have hM1:=hmem.ext x1;have j6:=hmap.ext x1;have l1:=hx1.size;clear hst hmem hmap hx1;go_upto_region 3 with(fail);generalize (w1.alloc (.cells (Ins.cells ⟨0,a,y,z⟩) 77))=W1 at hI1 x1 hS1 hM1 j6⊢;refine nP ?_;clear hI1 l1;intro ic hI1 l1 hi1 hj1;go_wp2_with fail;refine(fE ⟨0,a,y,z⟩ cn s pc 0 g 0 n kc m _ HN.out hn2 ng.out HO.out hS1 hM1.row).mono ?_;rintro e w2 ⟨e2,hx2⟩;replace e2:e=.returned (.int .i64 (-1)):=by rw [e2];rfl
 subst e2;refine Fp ?_;clear hI1 hS1 hM1 j6 x1 hx2 hi1 hj1;intro x2 hI2 hS2 hM2 uX hcI kW BK lI lS lG;have ha1:0<=a:=by omega
 have ha2:a<=1:=by omega
 clear ha;go_wp2_with fail;refine jC results63 rfl ⟨rfl,?_⟩;exact Stepped.halt (Kept.ext x2) hS2 hM2 hsg _
theorem alr (w:World) (base s g n kc q:Nat) (A:Option Addr) (b off cn cap:Nat) (c:List Ins) (pc:Int) (m:List Int) (h:eG w base s g n kc q A b off cn c pc m) (a:Nat) (y z:Int) (ha:a<n) (hy1:-2147483648<=y) (hy2:y<=2147483647) (hnx:fC c pc n=some ⟨1,a,y,z⟩) (hright:bM ⟨1,a,y,z⟩ cn n=true):
 Calls prog 63 #[.pointer (some ⟨s,0,none⟩),.slice A cn cap,.map (some q)] w λe w'=>e=.returned (.tuple #[])/\Stepped w w' base s g n kc (bQ ⟨1,a,y,z⟩ pc m):=by
 refine G9 ?_;clear h hnx hright;intro hn1 hn2 hst hmem hmap lF mq mU hsg hls DW hlq hgs HX HN HO nQ HA HR wo ng;go_wp2_with fail;refine BX ?_;intro e w1 e1 hx1;replace e1:e=.returned (.tuple #[.agg (Ins.cells ⟨1,a,y,z⟩),.bool true]):=by rw [e1,HX.out];rfl
 subst e1;have hI1:=bN w1 77 (Ins.cells ⟨1,a,y,z⟩);have x1:=hx1.alloc (.cells (Ins.cells ⟨1,a,y,z⟩) 77);have hS1:=bX hst x1;have hM1:=hmem.ext x1;have j6:=hmap.ext x1;have l1:=hx1.size;clear hst hmem hmap hx1;go_upto_region 3 with(fail);generalize (w1.alloc (.cells (Ins.cells ⟨1,a,y,z⟩) 77))=W1 at hI1 x1 hS1 hM1 j6⊢;refine nP ?_;clear hI1 l1;intro ic hI1 l1 hi1 hj1;go_wp2_with fail;refine(fE ⟨1,a,y,z⟩ cn s pc 0 g 0 n kc m _ HN.out hn2 ng.out HO.out hS1 hM1.row).mono ?_;rintro e w2 ⟨e2,hx2⟩;replace e2:e=.returned (.int .i64 (-1)):=by rw [e2];rfl
 subst e2;refine Fp ?_;clear hI1 hS1 hM1 j6 x1 hx2 hi1 hj1;intro x2 hI2 hS2 hM2 uX hcI kW BK lI lS lG;have hal:a<m.length:=by have:=HN.out;omega
 have K9:(a:Int)<n:=by omega
 have Lu:=hM2.cell a hal;have Lx:=hM2.frozen;have hwb:IntKind.i32.wrap y=y:=by rw [IntKind.wrap_i32];omega
 have HE:Hid (bQ ⟨1,a,y,z⟩ pc m=(pc+1,0,m.set a y)):=J (by simp [bQ,cO]);go_upto_region 32 with(fail);have FM:=aH.far hS2 (p:=⟨g,a,none⟩) hsg (.int .i32 (y));have Aq:=hM2.set a hal (y);have hk3:Kept (λi=>i=s∨i=g) w (w2.setCell ⟨g,a,none⟩ (.int .i32 (y))):=Kept.setCell (Kept.ext x2) _ _ (λ_=>.inr rfl);generalize w2.setCell ⟨g,a,none⟩ (.int .i32 y)=W3 at FM Aq hk3⊢;exact Nn
theorem als (w:World) (base s g n kc q:Nat) (A:Option Addr) (b off cn cap:Nat) (c:List Ins) (pc:Int) (m:List Int) (h:eG w base s g n kc q A b off cn c pc m) (a y:Nat) (z:Int) (ha:a<n) (hy:y<n) (hnx:fC c pc n=some ⟨2,a,y,z⟩) (hright:bM ⟨2,a,y,z⟩ cn n=true):
 Calls prog 63 #[.pointer (some ⟨s,0,none⟩),.slice A cn cap,.map (some q)] w λe w'=>e=.returned (.tuple #[])/\Stepped w w' base s g n kc (bQ ⟨2,a,y,z⟩ pc m):=by
 refine G9 ?_;clear h hnx hright;intro hn1 hn2 hst hmem hmap lF mq mU hsg hls DW hlq hgs HX HN HO nQ HA HR wo ng;go_wp2_with fail;refine BX ?_;intro e w1 e1 hx1;replace e1:e=.returned (.tuple #[.agg (Ins.cells ⟨2,a,y,z⟩),.bool true]):=by rw [e1,HX.out];rfl
 subst e1;have hI1:=bN w1 77 (Ins.cells ⟨2,a,y,z⟩);have x1:=hx1.alloc (.cells (Ins.cells ⟨2,a,y,z⟩) 77);have hS1:=bX hst x1;have hM1:=hmem.ext x1;have j6:=hmap.ext x1;have l1:=hx1.size;clear hst hmem hmap hx1;go_upto_region 3 with(fail);generalize (w1.alloc (.cells (Ins.cells ⟨2,a,y,z⟩) 77))=W1 at hI1 x1 hS1 hM1 j6⊢;refine nP ?_;clear hI1 l1;intro ic hI1 l1 hi1 hj1;go_wp2_with fail;refine(fE ⟨2,a,y,z⟩ cn s pc 0 g 0 n kc m _ HN.out hn2 ng.out HO.out hS1 hM1.row).mono ?_;rintro e w2 ⟨e2,hx2⟩;replace e2:e=.returned (.int .i64 (-1)):=by rw [e2];rfl
 subst e2;refine Fp ?_;clear hI1 hS1 hM1 j6 x1 hx2 hi1 hj1;intro x2 hI2 hS2 hM2 uX hcI kW BK lI lS lG;have hal:a<m.length:=by have:=HN.out;omega
 have K9:(a:Int)<n:=by omega
 have hyl:y<m.length:=by have:=HN.out;omega
 have OO:(y:Int)<n:=by omega
 have Lu:=hM2.cell a hal;have Lx:=hM2.frozen;have hcY:=hM2.cell y hyl;obtain⟨v,hv⟩:∃v,v=m[y]:=⟨_,rfl⟩;have HE:Hid (bQ ⟨2,a,y,z⟩ pc m=(pc+1,0,m.set a v)):=J (by simp [bQ,cO,nM hyl,hv]);have HV:=J hv;clear hv;go_upto_region 15 with(fail);refine gM (λw3=>Ext w2 w3) [(0,2),(1,2),(2,1),(3,2),(4,2),(5,1),(6,2),(7,1),(8,2),(9,0)] ?_;refine gN ?_;refine Zi ?_;exact aiY
end Go.Proofs.YtbfbabbcdochjaaGreatDoor.Mc
