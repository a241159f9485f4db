/- Several texts joined: Lf, Lg. -/
import Derived.Test.YtbfbabbcdochjaaGreatDoorRmpk
import Derived.Test.YtbfbabbcdochjaaGreatDoorRmbm
set_option maxHeartbeats 4000000
set_option maxRecDepth 100000
open Go.Proofs.Tryz
namespace Go.Proofs.YtbfbabbcdochjaaGreatDoor
open Go.RowKit So Mc
theorem aey:(prog.info? 98).map (λi=>(i.zero,i.size,i.bytes))=some (some (.agg #[.string ⟨#[]⟩,.int .i32 0]),2,24):=by kernel_rfl
theorem Rj {P:Program} {T E:TypeId} {i:TypeInfo} {z:Value} {sz bytes:Nat} (ht:P.underlying T=some (.slice E)) (hi:P.info? E=some i) (hz:i.zero=some z) (h1:i.size=sz) (h2:i.bytes=bytes) (h3:z.cells.size=sz) (h4:0<sz)
 (w:World) (base:Nat) (v:Value) (n:Nat) (xs:List Value) (hown:w.ownsRow base E sz v n xs) (A:Option Addr) (b off m c:Nat) (ys:List Value) (hl:ys.length=m*sz) (hA:0<m->A=some ⟨b,off,none⟩) (hr:0<m->Row w b off ys) (hf:iQ ys=true) (hn:n+m<=maxLen) (hb:(n+m)*bytes<=140737488355328) (hbase:base<=w.heap.size):
 ∃v' w',(Builtin.append_ #[T,T] T #[v,.slice A m c]).run P w=.ok v' w'/\w'.ownsRow base E sz v' (n+m) (xs++ys)/\Kept (λi=>v.ownBlock=some i) w w':=by
 by_cases h0:0<m
 ·obtain rfl:=hA h0
  exact Dy ht hi hz h1 h2 h3 h4 w base v n xs hown b off m c ys hl (hr h0) hf hn hb hbase
 ·have hm0:m=0:=by omega
  subst hm0;have hy:ys=[]:=List.eq_nil_of_length_eq_zero aj;subst hy;rw [List.append_nil,Nat.add_zero]
  rcases A with _|a
  ·refine⟨v,w,?_,hown,kR _ w⟩
   rcases hown.2 with⟨rfl,rfl⟩|⟨g,cap,cur,rfl,_,_,hnc,_⟩
   ·simp [Builtin.append_,run_underlying ht,sizeOf,typeInfo,hi,Builtin.lenOf,Builtin.firstCells]
   ·simp [Builtin.append_,run_underlying ht,sizeOf,typeInfo,hi,Builtin.lenOf,Builtin.firstCells,hnc,storeCells]
  ·obtain⟨v',w',hrun,ho,hg,_⟩:=run_append_own (P:=P) w base T T E i z sz bytes ht hi hz h1 h2 h3 h4 v n xs hown a 0 c [] aG (λj u h=>by simp at h) (λu h=>by simp at h) hn hb hbase
   rw [List.append_nil,Nat.add_zero]at ho;exact⟨v',w',hrun,ho,Kept.uz hg⟩
theorem WO (w:World) (base:Nat) (v:Value) (n:Nat) (xs:List (Str×Int)) (hown:w.ownsRow base 98 2 v n (aR Cj xs)) (A:Option Addr) (b off m c:Nat) (l:List (Str×Int)) (hm:m=l.length) (hA:0<m->A=some ⟨b,off,none⟩) (hr:0<m->Row w b off (aR Cj l)) (hn:n+m<=100000) (hbase:base<=w.heap.size):
 ∃v' w',(Builtin.append_ #[93,93] 93 #[v,.slice A m c]).run prog w=.ok v' w'/\w'.ownsRow base 98 2 v' (n+m) (aR Cj (xs++l))/\Kept (λi=>v.ownBlock=some i) w w':=by
 obtain⟨i,hi,hz,h1,h2⟩:=info_parts aey;have:=Rj (P:=prog) underlying93 hi hz h1 h2 jf ak w base v n (aR Cj xs) hown A b off m c (aR Cj l) (by rw [iV (k:=2) (λ_=>rfl),hm]) hA hr (Er (λ_=>rfl) l) (by unfold maxLen;omega) aj hbase;rw [zU]at this;exact this
theorem akM (w:World) (base:Nat) (v:Value) (n:Nat) (xs:List Int) (hown:w.ownsRow base 21 1 v n (aM xs)) (A:Option Addr) (b off m c:Nat) (l:List Int) (hm:m=l.length) (hA:0<m->A=some ⟨b,off,none⟩) (hr:0<m->Row w b off (aM l)) (hn:n+m<=100000) (hbase:base<=w.heap.size):
 ∃v' w',(Builtin.append_ #[27,27] 27 #[v,.slice A m c]).run prog w=.ok v' w'/\w'.ownsRow base 21 1 v' (n+m) (aM (xs++l))/\Kept (λi=>v.ownBlock=some i) w w':=by
 obtain⟨i,hi,hz,h1,h2⟩:=info_parts Cx;have:=Rj (P:=prog) underlying27 hi hz h1 h2 jf ak w base v n (aM xs) hown A b off m c (aM l) (by rw [dQ,hm,Nat.mul_one]) hA hr (wQ l) (by unfold maxLen;omega) aj hbase;rw [show aM xs++aM l=aM (xs++l)by simp [aM]]at this;exact this
theorem wT {w:World} {base:Nat} {v:Value} {n:Nat} {l:List (Str×Int)} (h:w.ownsRow base 98 2 v n (aR Cj l)):∃A c,v=.slice A n c:=by
 exact Zt
theorem ahI (x:Rx) (R:RS) (κ:Kn) (hI:RInv x.p.vars x.p.seats κ R) (part f:Nat) (l els:SF) (il:Hg x part l) (ix:Hg x part els) (hcl:bV part κ f false l=none) (hcx:bV part κ f false els=none) (zl:l.size<=1099511627776) (zx:els.size<=1099511627776) (hf:R.binds.length<=f+4)
 (name:Str) (e:EF) (low high:Int) (eA:Option Addr) (ec:Nat) (lA:Option Addr) (ln lc:Nat) (xA:Option Addr) (xn xc:Nat) (w:World) (h:jJ x w R) (hE:g_ w x.N eA e.len e) (hc:gq κ e=none) (hl0:0<e.len) (hl:ln=l.len) (hx:xn=els.len) (hL:iO w x.N lA ln l) (hX:iO w x.N xA xn els):
 Calls prog 70 #[.pointer (some ⟨x.mb,0,none⟩),.agg (aB 2 name eA e.len ec low high lA ln lc xA xn xc)] w λe' w'=>e'=.returned (.tuple #[])/\jJ x w' (if ev x.p.vars R e 0≠0 then oL x.p.vars x.p.seats l R else oL x.p.vars x.p.seats els R)/\Kept x.S w w':=by
 obtain⟨R2,hR2⟩:∃R2,R2=(if ev x.p.vars R e 0≠0 then oL x.p.vars x.p.seats l R else oL x.p.vars x.p.seats els R):=⟨_,rfl⟩;rw [<-hR2];have HRR:=J hR2;clear hR2;have ZL:=J il;have HIX:=J ix;have Nr:=J hcl;have sP:=J hcx;have HSL:=J hL;have HSX:=J hX;have SK:=J hl;have HLX:=J hx;have HF:=J hf;clear il ix hcl hcx hL hX hl hx hf;obtain⟨cs0,b0,iM,rfl,hb0,hk0,hg0,wh⟩:=Ml hI hE hc (Nat.le_trans h.hN h.hB) hl0;simp only [Nat.zero_mul,Nat.add_zero]at hk0 hg0;have VG:=J hk0;have VF:=J hg0;have JN:=J hb0;have Hl:=J wh;clear hk0 hg0 hb0 wh;have y1:Ext w (w.alloc (.cells (aB 2 name (some ⟨b0,iM,none⟩) e.len ec low high lA ln lc xA xn xc) 86)):=(kR _ w).alloc _;have hB0:=bN w 86 (aB 2 name (some ⟨b0,iM,none⟩) e.len ec low high lA ln lc xA xn xc);refine FZ ?_;intro HM HI kK dR qZ;have Ry:(0:Int)<e.len:=by omega
 have XC:=qZ.out.max aj;clear h hE hI hc;go_enter func70,ntmps70;go_upto_region 1 with(fail);generalize (w.alloc (.cells (aB 2 name (some ⟨b0,iM,none⟩) e.len ec low high lA ln lc xA xn xc) 86))=W1 at y1 hB0 HM⊢;generalize (w:World).heap.size=g at hB0⊢;have HB:=J hB0;have HY:=J y1;clear y1 hB0;have d0:=HB.out;have d1:=bC d0;have d2:=d0.lt;clear d0;refine Bo ?_;intro u0 BS pW;go_wp2_with fail;refine(Hl.out W1 HY.out HM.out).mono ?_;rintro e' w1 ⟨rfl,hx⟩;clear u0 BS pW;refine abQ ?_;intro v0 VL j4 HX eY;have d0:=bX HB.out hx;clear hx d1 d2;have d1:=bC d0;have d2:=d0.lt;have yV:=J (Nat.le_trans eY.out.hN eY.out.hB);clear d0
 by_cases hz:v0=0
 ·have hq:(v0==0)=true:=by simp [hz]
  have HZ:=J (show(if ev x.p.vars R e 0≠0 then oL x.p.vars x.p.seats l R else oL x.p.vars x.p.seats els R)=oL x.p.vars x.p.seats els R from by rw [<-j4.out,if_neg (by simp [hz])]);clear hz;go_wp2_with fail;have hxs:=HSX.out;rw [HLX.out]at hxs⊢;refine(HIX.out κ f false xA xc R _ eY.out HI.out HF.out sP.out zx (hxs.ext HX.out dR.out)).mono ?_;rintro e' w2 ⟨rfl,hr,hk⟩;go_wp2_with fail;go_end0;rw [HRR.out,HZ.out];exact⟨rfl,hr,(Kept.ext HX.out).trans hk⟩
 ·have hq:(v0==0)=false:=by simp [hz]
  have HZ:=J (show(if ev x.p.vars R e 0≠0 then oL x.p.vars x.p.seats l R else oL x.p.vars x.p.seats els R)=oL x.p.vars x.p.seats l R from by rw [<-j4.out,if_pos hz]);clear hz;go_wp2_with fail;have hxs:=HSL.out;rw [SK.out]at hxs⊢;refine(ZL.out κ f false lA lc R _ eY.out HI.out HF.out Nr.out zl (hxs.ext HX.out dR.out)).mono ?_;rintro e' w2 ⟨rfl,hr,hk⟩;go_wp2_with fail;go_end0;rw [HRR.out,HZ.out];exact⟨rfl,hr,(Kept.ext HX.out).trans hk⟩
theorem ahx {F M:World->Nat->Nat->Value->Option Addr->Nat->Prop} {G:Prop} (h:(∀W a b c d e,F W a b c d e->M W a b c d e)->G) (h2:∀W a b c d e,F W a b c d e->M W a b c d e):G:=h h2
abbrev rnd (x:Rx) (R:RS) (name:Str) (l:SF) (i:Int) (R':RS):RS:=oL x.p.vars x.p.seats l {R' with binds:=R.binds++[(name,w32 i)]}
theorem ahJ (x:Rx) (R:RS) (κ:Kn) (hI:RInv x.p.vars x.p.seats κ R) (part f:Nat) (l:SF) (il:Hg x part l) (name:Str) (hcl:bV part (upd κ name 3) (f+1) false l=none) (zl:l.size<=1099511627776) (hf:R.binds.length<=f+4) (VX:f<8)
 (e:EF) (low high:Int) (h1:au low) (h2:au high) (eA:Option Addr) (ec:Nat) (lA:Option Addr) (ln lc:Nat) (xA:Option Addr) (xn xc:Nat) (w:World) (h:jJ x w R) (hE:g_ w x.N eA e.len e) (hc:gq κ e=none) (hl:ln=l.len) (hL:iO w x.N lA ln l):
 Calls prog 70 #[.pointer (some ⟨x.mb,0,none⟩),.agg (aB 3 name eA e.len ec low high lA ln lc xA xn xc)] w λe' w'=>e'=.returned (.tuple #[])/\jJ x w' {f_ (rnd x R name l) (high - low+1).toNat low R with binds:=R.binds}/\Kept x.S w w':=by
 obtain⟨R2,hR2⟩:∃R2,R2=({f_ (rnd x R name l) (high - low+1).toNat low R with binds:=R.binds}:RS):=⟨_,rfl⟩;rw [<-hR2];have HRR:=J hR2;have ZL:=J il;have Nr:=J hcl;have HSL:=J hL;have SK:=J hl;have HF:=J hf;have Fv:=J VX;clear hR2 il hcl hL hl hf VX;have y1:Ext w (w.alloc (.cells (aB 3 name eA e.len ec low high lA ln lc xA xn xc) 86)):=(kR _ w).alloc _;have hB0:=bN w 86 (aB 3 name eA e.len ec low high lA ln lc xA xn xc);refine FZ ?_;intro HM HI kK dR qZ;clear h hE hI hc;go_enter func70,ntmps70;go_upto_region 1 with(fail);generalize (w.alloc (.cells (aB 3 name eA e.len ec low high lA ln lc xA xn xc) 86))=W1 at y1 hB0 HM⊢;generalize (w:World).heap.size=g at hB0⊢;have HB:=J hB0;have HY:=J y1;clear y1 hB0;have d0:=HB.out;have d1:=bC d0;have d2:=d0.lt;clear d0;obtain⟨bA,bn,bc,hm,ho⟩:=HM.out.box;obtain⟨hbn,bg,hbr⟩:=Pt ho;have Bq:=J hbn;have HBA:=J (show 0<bn->bA=some ⟨bg,0,none⟩from λh0=>(hbr h0).1);have ajP:=J (show 0<bn->Row W1 bg 0 (aR Cj R.binds)from λh0=>(hbr h0).2);have CV:=J ho;have HBX:=J (Rx.Ib HM.out ho);have amk:=J hm
 have HGM:=J (show¬x.S g from λq=>by
  rcases q with q|q|q
  ·have hh:=HB.out;rw [q]at hh;cases(show W1.heap[x.mb]?=_ from hh).symm.trans (show W1.heap[x.mb]?=_ from hm)
  ·obtain⟨cur,e1⟩:=oC HM.out.vars q;cases(show W1.heap[g]?=_ from HB.out).symm.trans e1
  ·obtain⟨cur,e1⟩:=oC HM.out.asks q;cases(show W1.heap[g]?=_ from HB.out).symm.trans e1)
 have i1:=bC hm;have i2:=hm.lt;unfold au at h1 h2;clear hbn ho hbr hm;go_upto_region 18 with(fail);clear i1 i2 d1 d2;generalize hn:(high - low+1).toNat=n at HRR⊢;have xH:=J hn;clear hn
 go_loopw [13] (λt13 wr=>∃(j:Nat) (R':RS),j<=n/\t13=.int .i64 (low+(j:Int))/\f_ (rnd x R name l) (n - j) (low+(j:Int)) R'=f_ (rnd x R name l) n low R/\RInv x.p.vars x.p.seats κ {R' with binds:=R.binds}/\jJ x wr R'/\Kept x.S W1 wr) (λt13 _=>n - (intOf t13 - low).toNat)
 case atStart=>exact⟨0,R,Nat.zero_le _,by simp,by simp,HI.out,HM.out,kR _ _⟩
 case round=>
  obtain⟨j,R',hj,rfl,hro,hri,hra,hk⟩:=hrel;have HRO:=J hro;have HRI:=J hri;have HRj:=J hra;have oZ:=J hk;have HBj:=J (HB.out.kept hk HGM.out);obtain⟨uA,un,uc,hm,-⟩:=hra.box;have sS:=J hm;have d0:=HBj.out;have d1:=bC d0;have d2:=d0.lt;have i1:=bC hm;have i2:=hm.lt;clear d0 hm hro hri hra hk
  by_cases hjn:j<n
  ·cases hov:R'.over
   ·have hle:decide (low+(j:Int)<=high)=true:=decide_eq_true (by have:=xH.out;omega)
    have hjh:low+(j:Int)<=high:=by have:=xH.out;omega
    have HOV:=J hov;go_upto_region 20 with(fail);clear d1 d2 i1 i2 hle;have HBR:=J (show 0<bn->Row wr bg 0 (aR Cj R.binds)from λh0=>(ajP.out h0).kept oZ.out (HBX.out bg (by rw [HBA.out h0];rfl)));have SE:=J HRj.out.hB;apply ahx (F:=λWz g1 g9 v3 vA vc=>jJ x Wz {R' with binds:=R.binds++[(name,w32 (low+(j:Int)))]}/\Kept x.S wr Wz)
    case h=>
     intro jr;have KEY:=J jr;clear jr;refine Uz (λwz=>Ext wr wz) (.op 0 2 (.op 2 2 (.op 4 2 (.op 5 1 (.op 6 2 (.op 7 1 (.op 8 2 (.fork 1 (.fork 3 (.op 9 0 (.op 10 0 (.op 11 2 (.op 12 2 (.op 13 0 .nil))))) 9 (.op 3 0 (.op 10 0 (.op 11 2 (.op 12 2 (.op 13 0 .nil)))))) 9 (.op 1 0 (.op 3 0 (.op 10 0 (.op 11 2 (.op 12 2 (.op 13 0 .nil)))))))))))))) ?_;refine UA ?_;have YD:=J (show Ext wr wr.drew from(kR _ wr).drew)
     (repeat (first|refine zS ?_|((apply ig);(· exact YD.out);(· go_simp);(· (intro w1 hS;have a0:=bX HBj.out hS;have a1:=bC a0;have a2:=a0.lt;go_simp;try with_reducible rfl));refine tO ?_)|((apply h_);(· exact YD.out);(· go_simp);refine tO ?_)))
     refine iE ?_ ?_
     ·skip
      (refine dz (λK hK=>?_);go_simp)
      have x1:Ext wr.drew (wr.alloc (.cells #[] 98)).drew:=(show Ext wr.drew (wr.alloc _).drew from⟨rfl,rfl,rfl,by simp,λk hk _=>Below.heap_alloc _ _ _ hk⟩);have y1:Ext wr (wr.alloc (.cells #[] 98)).drew:=YD.out.trans x1;refine hK.out _ _ (λ_=>y1) ?_;clear hK K;have b1:aH (wr.alloc (.cells #[] 98)).drew wr.heap.size 98 #[]:=aH.drew (bN _ _ _);generalize hW:(wr.alloc (.cells #[] 98)).drew=nW at x1 y1 b1⊢;clear hW;generalize hg:wr.heap.size=g1 at b1⊢;have s1:wr.heap.size<=g1:=by rw [<-hg];exact Nat.le_refl _
      have G1:=J hg;clear hg;have ho:nW.ownsRow wr.heap.size 98 2 (.slice (some ⟨g1,0,none⟩) 0 0) 0 (aR Cj []):=⟨rfl,.inr ⟨g1,0,#[],rfl,s1,b1,Nat.le_refl _,by unfold maxLen;omega,by simp,by simp [aR]⟩⟩;refine iE ?_ ?_
      ·skip
       obtain⟨v3,tX,hr2,ho3,hk2⟩:=WO nW wr.heap.size _ 0 [] ho bA bg 0 bn bc R.binds Bq.out HBA.out (λh0=>(HBR.out h0).ext y1) aff y1.size;have y2:Ext wr tX:=y1.trans' hk2 (λi hi e=>by have:=(ho.lt i e).1;omega);refine dz (λK hK=>?_);refine ku rfl ?_;refine Lib.wp_append_run _ _ _ _ _ rfl _ _ rfl rfl _ _ hr2 ?_;refine hK.out _ _ (λ_=>y2) ?_;clear hK K hr2
       (refine dz (λK hK=>?_);go_simp)
       have x3:Ext tX (tX.alloc (.cells (#[.string name,.int .i32 (w32 (low+(j:Int)))]:Array Value) 98)):=(kR _ _).alloc _;have y3:Ext wr (tX.alloc (.cells (#[.string name,.int .i32 (w32 (low+(j:Int)))]:Array Value) 98)):=y2.trans x3;refine hK.out _ _ (λ_=>y3) ?_;clear hK K;have b3:aH (tX.alloc (.cells (#[.string name,.int .i32 (w32 (low+(j:Int)))]:Array Value) 98)) tX.heap.size 98 (#[.string name,.int .i32 (w32 (low+(j:Int)))]:Array Value):=bN _ _ _;generalize hW:(tX.alloc (.cells (#[.string name,.int .i32 (w32 (low+(j:Int)))]:Array Value) 98))=JW at x3 y3 b3⊢;clear hW;generalize hg:tX.heap.size=g9 at b3⊢;have s3:wr.heap.size<=g9:=by rw [<-hg];exact y2.size
       have G3:=J hg;clear hg;have hrow:Row JW g9 0 (aR Cj [(name,w32 (low+(j:Int)))]):=Row.eZ b3;have ho3:=bD ho3 x3;exact acW
      ·skip
       (refine dz (λK hK=>?_);go_simp)
       have x2:Ext nW (nW.alloc (.cells (#[.string name,.int .i32 (w32 (low+(j:Int)))]:Array Value) 98)):=(kR _ _).alloc _;have y2:Ext wr (nW.alloc (.cells (#[.string name,.int .i32 (w32 (low+(j:Int)))]:Array Value) 98)):=y1.trans x2;refine hK.out _ _ (λ_=>y2) ?_;clear hK K;have b2:aH (nW.alloc (.cells (#[.string name,.int .i32 (w32 (low+(j:Int)))]:Array Value) 98)) nW.heap.size 98 (#[.string name,.int .i32 (w32 (low+(j:Int)))]:Array Value):=bN _ _ _;generalize hW:(nW.alloc (.cells (#[.string name,.int .i32 (w32 (low+(j:Int)))]:Array Value) 98))=tX at x2 y2 b2⊢;clear hW;generalize hg:nW.heap.size=g9 at b2⊢;have s2:wr.heap.size<=g9:=by rw [<-hg];exact y1.size
       have G2:=J hg;clear hg;have hrow:Row tX g9 0 (aR Cj [(name,w32 (low+(j:Int)))]):=Row.eZ b2;have ho:=bD ho x2;have hne:g1<g9:=by have:=b1.lt;have:=G2.out;omega
       exact aiN
     ·skip
      (refine dz (λK hK=>?_);go_simp)
      have x1:Ext wr.drew (wr.alloc (.cells (#[.string name,.int .i32 (w32 (low+(j:Int)))]:Array Value) 98)).drew:=(show Ext wr.drew (wr.alloc _).drew from⟨rfl,rfl,rfl,by simp,λk hk _=>Below.heap_alloc _ _ _ hk⟩);have y1:Ext wr (wr.alloc (.cells (#[.string name,.int .i32 (w32 (low+(j:Int)))]:Array Value) 98)).drew:=YD.out.trans x1;refine hK.out _ _ (λ_=>y1) ?_;clear hK K;have b1:aH (wr.alloc (.cells (#[.string name,.int .i32 (w32 (low+(j:Int)))]:Array Value) 98)).drew wr.heap.size 98 (#[.string name,.int .i32 (w32 (low+(j:Int)))]:Array Value):=aH.drew (bN _ _ _);generalize hW:(wr.alloc (.cells (#[.string name,.int .i32 (w32 (low+(j:Int)))]:Array Value) 98)).drew=nW at x1 y1 b1⊢;clear hW;generalize hg:wr.heap.size=g9 at b1⊢;have s1:wr.heap.size<=g9:=by rw [<-hg];exact Nat.le_refl _
      have G1:=J hg;clear hg;have hrow:Row nW g9 0 (aR Cj [(name,w32 (low+(j:Int)))]):=Row.eZ b1
      (refine dz (λK hK=>?_);go_simp)
      have x2:Ext nW (nW.alloc (.cells #[] 98)):=(kR _ _).alloc _;have y2:Ext wr (nW.alloc (.cells #[] 98)):=y1.trans x2;refine hK.out _ _ (λ_=>y2) ?_;clear hK K;have b2:aH (nW.alloc (.cells #[] 98)) nW.heap.size 98 #[]:=bN _ _ _;generalize hW:(nW.alloc (.cells #[] 98))=tX at x2 y2 b2⊢;clear hW;generalize hg:nW.heap.size=g1 at b2⊢;have s2:wr.heap.size<=g1:=by rw [<-hg];exact y1.size
      have G2:=J hg;clear hg;have ho:tX.ownsRow wr.heap.size 98 2 (.slice (some ⟨g1,0,none⟩) 0 0) 0 (aR Cj []):=⟨rfl,.inr ⟨g1,0,#[],rfl,s2,b2,Nat.le_refl _,by unfold maxLen;omega,by simp,by simp [aR]⟩⟩;have hrow:=hrow.ext x2;have hne:g9<g1:=by have:=b1.lt;have:=G2.out;omega
      exact aiN
    intro W5 g1 g9 v3 vA vc h5;obtain⟨h5,k5⟩:=h5;have xI:=J h5;have pG:=J (oZ.out.trans k5);have nC:=J (HBj.out.kept k5 HGM.out);have d0:=nC.out;have d1:=bC d0;have d2:=d0.lt;clear d0 h5 k5;have hls:=HSL.out;rw [SK.out]at hls;have HLS:=J (hls.kept ((Kept.ext HY.out).trans pG.out) dR.out (λi q=>Rx.below HM.out i q));clear hls;go_wp2_with fail;have hcall:=(ZL.out (upd κ name 3) (f+1) false lA lc {R' with binds:=R.binds++[(name,w32 (low+(j:Int)))]} W5 xI.out (by have:=HRI.out.into name (w32 (low+(j:Int))) (lM _);simpa using this) (by simp;have:=HF.out;omega) Nr.out zl HLS.out);rw [<-SK.out]at hcall;refine hcall.mono ?_;clear hcall;rintro e' w6 ⟨rfl,xB,xw⟩;have yX:=J xB;have JQ:=J (pG.out.trans xw);clear xB xw d1 d2;go_wp2_with fail;go_roundw
    case rel=>
     refine⟨j+1,rnd x R name l (low+(j:Int)) R',hjn,by go_num,?_,?_,yX.out,JQ.out⟩
     ·rw [<-HRO.out,show n - j=(n - (j+1))+1 by omega,f_,if_neg (by rw [HOV.out];exact Bool.false_ne_true),show low+((j+1:Nat):Int)=low+(j:Int)+1 by omega]
     ·have q:=Ym x.p.vars x.p.seats l (R:={R' with binds:=R.binds++[(name,w32 (low+(j:Int)))]}) ⟨rfl,HRI.out.J2,HRI.out.lZ,HRI.out.Kw⟩
      exact HRI.out.acL ⟨q.kE,q.J2,q.lZ,q.Kw⟩ rfl
    case measure=>simp only [intOf];omega
   ·have hle:decide (low+(j:Int)<=high)=true:=decide_eq_true (by have:=xH.out;omega)
    have Ae:=J (show f_ (rnd x R name l) n low R=R' from by rw [<-HRO.out];exact AP _ hov _ _);exact ajn
  ·obtain rfl:j=n:=by omega
   have hle:decide (low+(j:Int)<=high)=false:=decide_eq_false (by have:=xH.out;omega);have Ae:=J (show f_ (rnd x R name l) j low R=R' from by rw [<-HRO.out,Nat.sub_self,f_]);exact ajn
open Go.RowKit So Mc
theorem abd (x:Rx) (R:RS) (κ:Kn) (hI:RInv x.p.vars x.p.seats κ R) (part f:Nat) (last:Bool) (l els:SF) (il:Hg x part l) (ix:Hg x part els) (hf:R.binds.length<=f+4)
 (kind:Int) (name:Str) (e:EF) (low high:Int) (hc:nu part κ f last kind name e low high l els=none) (ze:e.size<=1099511627776) (zl:l.size<=1099511627776) (zx:els.size<=1099511627776) (eA:Option Addr) (ec:Nat) (lA:Option Addr) (lc:Nat) (xA:Option Addr) (xc:Nat) (w:World) (h:jJ x w R)
 (hE:g_ w x.N eA e.len e) (hL:iO w x.N lA l.len l) (hX:iO w x.N xA els.len els):
 Calls prog 70 #[.pointer (some ⟨x.mb,0,none⟩),.agg (aB kind name eA e.len ec low high lA l.len lc xA els.len xc)] w λe' w'=>e'=.returned (.tuple #[])/\jJ x w' (doS x.p.vars x.p.seats kind name e low high l els R)/\Kept x.S w w':=by
 unfold nu at hc;rw [av,av,av,av,aP,Bool.and_eq_true]at hc;obtain⟨⟨hk,hlen⟩,_,hnm,hD,hrest⟩:=hc;have hk':0<=kind/\kind<=9:=by simpa [jq]using hk
 have hlen':e.len=stmtParts kind:=by simpa using hlen
 obtain⟨nm1,nm2,nm3,nm4⟩:=GH hnm;have Z5:=(DF hD ze).1
 rcases(by omega:kind=0∨kind=1∨kind=2∨kind=3∨kind=4∨kind=5∨kind=6∨kind=7∨kind=8∨kind=9)with rfl|rfl|rfl|rfl|rfl|rfl|rfl|rfl|rfl|rfl
 ·exact ahG x R κ hI name e low high eA ec lA _ lc xA _ xc w h hE Z5 yS (nm1 (.inl rfl)) (qp h.prog name)
 ·exact ahH x R κ hI name e low high eA ec lA _ lc xA _ xc w h hE Z5 yS yS (nm2 rfl)
 ·simp only [if_true,av]at hrest
  exact ahI x R κ hI part f l els il ix hrest.1 hrest.2 zl zx hf name e low high eA ec lA _ lc xA _ xc w h hE Z5 yS rfl rfl hL hX
 ·obtain⟨a1,a2,a3,a4,a5⟩:=nm4 rfl
  have hrest':bV part (upd κ name 3) (f+1) false l=none:=by simpa using hrest
  exact ahJ x R κ hI part f l il name hrest' zl hf a5 e low high a2 a3 eA ec lA _ lc xA _ xc w h hE Z5 rfl hL
 ·exact ahK x R κ hI name e low high eA ec lA _ lc xA _ xc w h hE Z5
 ·have ho:=hI.one name (nm1 (.inr rfl))
  have hv:=hI.kE;exact ahL x R κ hI name e low high eA ec lA _ lc xA _ xc w h hE Z5 (by have:=nm3 rfl;unfold aL;omega) aj
 ·exact ahM x R κ hI name e low high eA ec lA _ lc xA _ xc w h hE Z5 yS
 ·exact ahN x R κ hI name e low high eA ec lA _ lc xA _ xc w h hE Z5
 ·exact ahO x R κ hI name e low high eA ec lA _ lc xA _ xc w h hE Z5 yS yS
 ·exact ahP x R κ hI name e low high eA ec lA _ lc xA _ xc w h hE Z5 yS
def WB (x:Rx) (part:Nat):SF->Prop| .nil=>True| .cons _ _ _ _ _ l els r=>Hg x part l/\Hg x part els/\WB x part r
theorem Yk {V:List Vr} {se:Int} {κ:Kn} {R:RS} (h:RInv V se κ R) (hov:R.over=false) (kind:Int) (name:Str) (e:EF) (low high:Int) (l els:SF):RInv V se κ (doS V se kind name e low high l els R):=by
 have:=L6 h (.cons kind name e low high l els .nil);rw [ko,if_neg (by rw [hov];decide),oL]at this;exact this
theorem Tq (V:List Vr) (se:Int) {R:RS} (hov:R.over=false) (kind:Int) (name:Str) (e:EF) (low high:Int) (l els:SF):(doS V se kind name e low high l els R).binds=R.binds:=by
 have:=qz V se (.cons kind name e low high l els .nil) R;rw [ko,if_neg (by rw [hov];decide),oL]at this;exact this
theorem GQ (x:Rx) (part:Nat) (F:SF) (hK:WB x part F):Hg x part F:=fun κ f top A cap R w h hI hf hc hz hS=>by
 obtain⟨n,hn⟩:∃n,n=F.len:=⟨_,rfl⟩;rw [<-hn]at hS⊢;obtain⟨hn',hft,b,off,hA,hF⟩:=hS;have XC:=hft.max aj;have HA:=J hA;have HF:=J hF;have HN:=J hn;have H0:=J h;obtain⟨R2,hR2⟩:∃R2,R2=oL x.p.vars x.p.seats F R:=⟨_,rfl⟩;rw [<-hR2];have HR2:=J hR2;have dR:=J (Nat.le_trans h.hN h.hB);have HI:=J hI;have HFF:=J hf;have HC:=J hc;have HZ:=J hz;have HK:=J hK;clear hA hF hn hn' hft hR2 h hI hf hc hz hK;go_enter func37,ntmps37;go_upto_region 1 with(fail)
 go_loopw [4] (λt4 wr=>∃(j:Nat) (G:SF) (R':RS),j+G.len=n/\t4=.int .i64 (j:Int)/\nk w x.N G b (off+j*7)/\WB x part G/\(∃t,bV part κ f t G=none)/\G.size<=1099511627776/\oL x.p.vars x.p.seats G R'=oL x.p.vars x.p.seats F R/\RInv x.p.vars x.p.seats κ R'/\R'.binds.length<=f+4/\jJ x wr R'/\Kept x.S w wr) (λt4 _=>n - (intOf t4).toNat)
 case atStart=>exact⟨0,F,R,by rw [HN.out,Nat.zero_add],rfl,by simpa using HF.out,HK.out,⟨_,HC.out⟩,HZ.out,rfl,HI.out,HFF.out,H0.out,kR _ _⟩
 case round=>
  obtain⟨j,G,R',hj,rfl,hG,hK,ht,hz,hdo,hI,hf,hr,hk⟩:=hrel;have HG:=J hG;have HKG:=J hK;have HT:=J ht;have HZ2:=J hz;have HDO:=J hdo;have HIJ:=J hI;have HFJ:=J hf;have Ws:=J hr;have oZ:=J hk;obtain⟨uA,un,uc,hm,-⟩:=hr.box;have i1:=bC hm;have i2:=hm.lt;clear hG hK ht hz hdo hI hf hr hk hm
  cases G with
  |nil=>
   obtain rfl:j=n:=by simpa [SF.len]using hj
   have HE:=J (show R2=R' from by rw [HR2.out,<-HDO.out,oL]);go_wp2_with fail;go_end0;rw [HE.out];exact⟨rfl,Ws.out,oZ.out⟩
  |cons kind name e low high l els r=>
   simp only [SF.len]at hj;have hlt:j<n:=by omega
   have jd:(j:Int)<n:=by omega
   cases hov:R'.over
   ·obtain⟨hb,s1,s2,s3,s4,⟨eA,ec,lA,lc,xA,xc,be,oe,bl,ol,bx,ox,hh,hg,n1,n2,n3,a1,a2,a3,hE,hL,hX⟩,ahg⟩:=HG.out
    obtain rfl:=HA.out aj;have hnb:¬x.S b:=λq=>by have:=Rx.below H0.out b q;omega
    have hbl:=Nat.lt_of_lt_of_le hb dR.out;have g1:=(jS (o:=off+j*7) (n:=7) oZ.out hbl hnb).trans hh;have g2:=(iR (o:=off+j*7) (n:=7) oZ.out hbl hnb).trans hg;have g3:=Nat.lt_of_lt_of_le hbl oZ.out.size;obtain⟨t,htc⟩:=HT.out;rw [jT,av]at htc;have hzz:=HZ2.out;simp only [SF.size]at hzz;have hS0:=Rx.below H0.out;have hcall:=abd x R' κ HIJ.out part f _ l els HKG.out.1 HKG.out.2.1 HFJ.out kind name e low high htc.1 aj aj aj eA ec lA lc xA xc wr Ws.out (g_.kept ⟨rfl,n1,be,oe,a1,hE⟩ oZ.out dR.out hS0) (iO.kept ⟨rfl,n2,bl,ol,a2,hL⟩ oZ.out dR.out hS0) (iO.kept ⟨rfl,n3,bx,ox,a3,hX⟩ oZ.out dR.out hS0);have aco:=J hcall;have HOV:=J hov;have akn:=J ahg;have HTR:=J htc.2;have HZR:=J (show r.size<=1099511627776 by omega);clear hh hg n1 n2 n3 a1 a2 a3 hE hL hX ahg htc hzz hcall hnb hS0 s1 s2 s3 s4;go_wp2_with fail;refine aco.out.mono ?_;rintro e' w5 ⟨rfl,hr5,hk5⟩;have xI:=J hr5;have pG:=J (oZ.out.trans hk5);clear hr5 hk5 g1 g2 g3 aco i1 i2;go_wp2_with fail;go_roundw
    case rel=>
     refine⟨j+1,r,_,by omega,by go_num,?_,HKG.out.2.2,⟨_,HTR.out⟩,HZR.out,?_,Yk HIJ.out HOV.out _ _ _ _ _ _ _,?_,xI.out,pG.out⟩
     ·rw [show off+(j+1)*7=off+j*7+7 by omega];exact akn.out
     ·rw [<-HDO.out,ko,if_neg (by rw [HOV.out];decide)]
     ·rw [Tq _ _ HOV.out];exact HFJ.out
    case measure=>simp only [intOf];omega
   ·have HE:=J (show R2=R' from by rw [HR2.out,<-HDO.out,ko,if_pos hov])
    go_wp2_with fail;go_end0;rw [HE.out];exact⟨rfl,Ws.out,oZ.out⟩
theorem mW (x:Rx) (part:Nat):∀F:SF,Hg x part F/\WB x part F
 | .nil=>⟨GQ x part .nil trivial,trivial⟩
 | .cons kind name e low high l els r=>by
  have hK:WB x part (.cons kind name e low high l els r):=⟨(mW x part l).1,(mW x part els).1,(mW x part r).2⟩;exact⟨GQ x part _ hK,hK⟩
end Go.Proofs.YtbfbabbcdochjaaGreatDoor
