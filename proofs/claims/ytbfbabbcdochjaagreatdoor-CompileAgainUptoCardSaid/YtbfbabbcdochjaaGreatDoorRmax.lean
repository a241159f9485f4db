/- Several texts joined: Dm, Ja. -/
import Derived.Test.YtbfbabbcdochjaaGreatDoorRmpk
import Derived.Test.YtbfbabbcdochjaaGreatDoorRmaw
set_option maxHeartbeats 4000000
set_option maxRecDepth 100000
open Go.Proofs.Tryz
namespace Go.Proofs.YtbfbabbcdochjaaGreatDoor
open Go.RowKit So Mc
structure Rb (x:lY) (w:World) (part f:Nat) (κ:Kn) (kind low high:Int) (s:Str) (A:Option Addr) (F:EF) (lA:Option Addr) (l:SF) (xA:Option Addr) (els:SF):Prop where
 sx:Sx w x.N κ kind s A F low high
 hl:iO w x.N lA l.len l
 hx:iO w x.N xA els.len els
 il:ZG x part l
 ix:ZG x part els
 c2:kind=2->bV part κ f false l=none/\bV part κ f false els=none
 c3:kind=3->κ s=0/\(-2147483648<=low/\low<=2147483647)/\(-2147483648<=high/\high<=2147483647)/\f<8/\bV part (upd κ s 3) (f+1) false l=none
 zl:l.size<=1099511627776
 zx:els.size<=1099511627776
theorem Rb.kt {x:lY} {w w':World} {part f:Nat} {κ:Kn} {kind low high:Int} {s:Str} {A:Option Addr} {F:EF} {lA:Option Addr} {l:SF} {xA:Option Addr} {els:SF} {B wm:Nat} (h:Rb x w part f κ kind low high s A F lA l xA els) (hk:KT B wm w w') (hN:x.N<=B) (hB:B<=w.heap.size):Rb x w' part f κ kind low high s A F lA l xA els:=
 ⟨h.sx.kt hk hN hB,h.hl.kt hk hN hB,h.hx.kt hk hN hB,h.il,h.ix,h.c2,h.c3,h.zl,h.zx⟩
theorem aeN {x:lY} {w:World} {part f:Nat} {κ:Kn} {last:Bool} {kind low high:Int} {s:Str} {F:EF} {l els:SF} {A lA xA:Option Addr} {be oe bl ol bx ox:Nat} (hc:nu part κ f last kind s F low high l els=none) (hz:1+F.size+l.size+els.size<=1099511627776)
 (i2:aL low) (i3:aL high) (i4:s.size<=maxLen) (n1:Fits F.len 56) (n2:Fits l.len 112) (n3:Fits els.len 112) (a1:0<F.len->A=some ⟨be,oe,none⟩) (a2:0<l.len->lA=some ⟨bl,ol,none⟩) (a3:0<els.len->xA=some ⟨bx,ox,none⟩) (he:mK w x.N F be oe) (hl:nk w x.N l bl ol) (hx:nk w x.N els bx ox)
 (il:ZG x part l) (ix:ZG x part els):(0<=kind/\kind<=9)/\Rb x w part f κ kind low high s A F lA l xA els:=by
 unfold nu at hc;rw [av,av,av,av,aP,Bool.and_eq_true]at hc;obtain⟨⟨q1,q2⟩,-,q3,q4,q5⟩:=hc;have e:=DF q4 aj;refine⟨by simpa [jq]using q1,⟨⟨i2,i3,i4,⟨rfl,n1,be,oe,a1,he⟩,by simpa using q2,e.1,e.2⟩,⟨rfl,n2,bl,ol,a2,hl⟩,⟨rfl,n3,bx,ox,a3,hx⟩,il,ix,λh=>?_,λh=>?_,by omega,by omega⟩⟩
 ·rw [if_pos h,av]at q5
  exact q5
 ·subst h
  rw [if_neg ak,if_pos rfl]at q5;unfold named at q3;rw [if_neg ak,if_pos rfl]at q3;unfold loop at q3;rw [av,av,av,aP,aP,aP,aP]at q3;obtain⟨-,r1,r2,r3⟩:=q3;simp only [word,Bool.and_eq_true,decide_eq_true_eq]at r2 r3;exact⟨by simpa using r1,r2.1.1,r2.1.2,r3,q5⟩
theorem jB {w:World} {g:Nat} (h:dx w g yL) (op:Int) {fv:Value} (hf:(yL op).getD .nilFunc=fv):(Instr.lookup 155 (.map (some g)) (.int .i64 op) false).run prog w=.ok fv w:=by
 have hlk:=dx.look (P:=prog) h underlying155 underlying3 (z:=.nilFunc) (λw=>by kernel_rfl) op;rw [hlk,hf]
theorem adW (x:lY) (part f:Nat) (W:Wd) (hM:vM x W) (κ:Kn) (_Ob:∀s,κ s=0->W s=0) (_f8:f<=8) (low high:Int) (s:Str) (A:Option Addr) (ec:Nat) (F:EF) (lA:Option Addr) (lc:Nat) (l:SF) (xA:Option Addr) (xc:Nat) (els:SF) (L:List Ins) (w:World) (h:x.at w f W L) (hX:Rb x w part f κ 0 low high s A F lA l xA els) (hL:L.length+(cS x.k W f L.length 0 s F low high l els).length<=4000):
 Calls prog 128 #[.pointer (some ⟨x.mb,0,none⟩),.agg (aB 0 s A F.len ec low high lA l.len lc xA els.len xc)] w λe w'=>e=.returned (.tuple #[])/\x.at w' f W (L++cS x.k W f L.length 0 s F low high l els)/\KT x.B x.wm w w':=by
 have e:cS x.k W f L.length 0 s F low high l els=pJ x.k W L.length 0 s F low:=by unfold cS;rw [if_neg ak,if_neg ak]
 rw [e]at hL⊢;exact Og x f W hM κ low high s A ec F lA l.len lc xA els.len xc L w h hX.sx hL
theorem adX (x:lY) (part f:Nat) (W:Wd) (hM:vM x W) (κ:Kn) (_Ob:∀s,κ s=0->W s=0) (_f8:f<=8) (low high:Int) (s:Str) (A:Option Addr) (ec:Nat) (F:EF) (lA:Option Addr) (lc:Nat) (l:SF) (xA:Option Addr) (xc:Nat) (els:SF) (L:List Ins) (w:World) (h:x.at w f W L) (hX:Rb x w part f κ 1 low high s A F lA l xA els) (hL:L.length+(cS x.k W f L.length 1 s F low high l els).length<=4000):
 Calls prog 129 #[.pointer (some ⟨x.mb,0,none⟩),.agg (aB 1 s A F.len ec low high lA l.len lc xA els.len xc)] w λe w'=>e=.returned (.tuple #[])/\x.at w' f W (L++cS x.k W f L.length 1 s F low high l els)/\KT x.B x.wm w w':=by
 have e:cS x.k W f L.length 1 s F low high l els=pJ x.k W L.length 1 s F low:=by unfold cS;rw [if_neg ak,if_neg ak]
 rw [e]at hL⊢;exact U8 x f W hM κ low high s A ec F lA l.len lc xA els.len xc L w h hX.sx hL
theorem adY (x:lY) (part f:Nat) (W:Wd) (hM:vM x W) (κ:Kn) (NC:∀s,κ s=0->W s=0) (f8:f<=8) (low high:Int) (s:Str) (A:Option Addr) (ec:Nat) (F:EF) (lA:Option Addr) (lc:Nat) (l:SF) (xA:Option Addr) (xc:Nat) (els:SF) (L:List Ins) (w:World) (h:x.at w f W L) (hX:Rb x w part f κ 2 low high s A F lA l xA els) (hL:L.length+(cS x.k W f L.length 2 s F low high l els).length<=4000):
 Calls prog 130 #[.pointer (some ⟨x.mb,0,none⟩),.agg (aB 2 s A F.len ec low high lA l.len lc xA els.len xc)] w λe w'=>e=.returned (.tuple #[])/\x.at w' f W (L++cS x.k W f L.length 2 s F low high l els)/\KT x.B x.wm w w':=by
 exact Ov x part f W hM κ NC f8 low high s A ec F lA lc l xA xc els L w h hX.sx hX.hl hX.hx hX.il hX.ix (hX.c2 rfl).1 (hX.c2 rfl).2 hX.zl hX.zx hL
theorem adZ (x:lY) (part f:Nat) (W:Wd) (hM:vM x W) (κ:Kn) (NC:∀s,κ s=0->W s=0) (_f8:f<=8) (low high:Int) (s:Str) (A:Option Addr) (ec:Nat) (F:EF) (lA:Option Addr) (lc:Nat) (l:SF) (xA:Option Addr) (xc:Nat) (els:SF) (L:List Ins) (w:World) (h:x.at w f W L) (hX:Rb x w part f κ 3 low high s A F lA l xA els) (hL:L.length+(cS x.k W f L.length 3 s F low high l els).length<=4000):
 Calls prog 131 #[.pointer (some ⟨x.mb,0,none⟩),.agg (aB 3 s A F.len ec low high lA l.len lc xA els.len xc)] w λe w'=>e=.returned (.tuple #[])/\x.at w' f W (L++cS x.k W f L.length 3 s F low high l els)/\KT x.B x.wm w w':=by
 obtain⟨q1,q2,q3,q4,q5⟩:=hX.c3 rfl;exact Un x part f W hM κ NC q4 low high s A F.len ec lA lc l xA els.len xc L w h q1 q2 q3 hX.hl hX.il q5 hX.zl F els hL
theorem aea (x:lY) (part f:Nat) (W:Wd) (hM:vM x W) (κ:Kn) (_Ob:∀s,κ s=0->W s=0) (_f8:f<=8) (low high:Int) (s:Str) (A:Option Addr) (ec:Nat) (F:EF) (lA:Option Addr) (lc:Nat) (l:SF) (xA:Option Addr) (xc:Nat) (els:SF) (L:List Ins) (w:World) (h:x.at w f W L) (hX:Rb x w part f κ 4 low high s A F lA l xA els) (hL:L.length+(cS x.k W f L.length 4 s F low high l els).length<=4000):
 Calls prog 132 #[.pointer (some ⟨x.mb,0,none⟩),.agg (aB 4 s A F.len ec low high lA l.len lc xA els.len xc)] w λe w'=>e=.returned (.tuple #[])/\x.at w' f W (L++cS x.k W f L.length 4 s F low high l els)/\KT x.B x.wm w w':=by
 have e:cS x.k W f L.length 4 s F low high l els=pJ x.k W L.length 4 s F low:=by unfold cS;rw [if_neg ak,if_neg ak]
 rw [e]at hL⊢;exact Pz x f W hM κ low high s A ec F lA l.len lc xA els.len xc L w h hX.sx hL
theorem aeb (x:lY) (part f:Nat) (W:Wd) (hM:vM x W) (κ:Kn) (_Ob:∀s,κ s=0->W s=0) (_f8:f<=8) (low high:Int) (s:Str) (A:Option Addr) (ec:Nat) (F:EF) (lA:Option Addr) (lc:Nat) (l:SF) (xA:Option Addr) (xc:Nat) (els:SF) (L:List Ins) (w:World) (h:x.at w f W L) (hX:Rb x w part f κ 5 low high s A F lA l xA els) (hL:L.length+(cS x.k W f L.length 5 s F low high l els).length<=4000):
 Calls prog 133 #[.pointer (some ⟨x.mb,0,none⟩),.agg (aB 5 s A F.len ec low high lA l.len lc xA els.len xc)] w λe w'=>e=.returned (.tuple #[])/\x.at w' f W (L++cS x.k W f L.length 5 s F low high l els)/\KT x.B x.wm w w':=by
 have e:cS x.k W f L.length 5 s F low high l els=pJ x.k W L.length 5 s F low:=by unfold cS;rw [if_neg ak,if_neg ak]
 rw [e]at hL⊢;exact Yl x f W hM κ low high s A ec F lA l.len lc xA els.len xc L w h hX.sx hL
theorem aec (x:lY) (part f:Nat) (W:Wd) (hM:vM x W) (κ:Kn) (_Ob:∀s,κ s=0->W s=0) (_f8:f<=8) (low high:Int) (s:Str) (A:Option Addr) (ec:Nat) (F:EF) (lA:Option Addr) (lc:Nat) (l:SF) (xA:Option Addr) (xc:Nat) (els:SF) (L:List Ins) (w:World) (h:x.at w f W L) (hX:Rb x w part f κ 6 low high s A F lA l xA els) (hL:L.length+(cS x.k W f L.length 6 s F low high l els).length<=4000):
 Calls prog 134 #[.pointer (some ⟨x.mb,0,none⟩),.agg (aB 6 s A F.len ec low high lA l.len lc xA els.len xc)] w λe w'=>e=.returned (.tuple #[])/\x.at w' f W (L++cS x.k W f L.length 6 s F low high l els)/\KT x.B x.wm w w':=by
 have e:cS x.k W f L.length 6 s F low high l els=pJ x.k W L.length 6 s F low:=by unfold cS;rw [if_neg ak,if_neg ak]
 rw [e]at hL⊢;exact Yr x f W hM κ low high s A ec F lA l.len lc xA els.len xc L w h hX.sx hL
theorem aed (x:lY) (part f:Nat) (W:Wd) (hM:vM x W) (κ:Kn) (_Ob:∀s,κ s=0->W s=0) (_f8:f<=8) (low high:Int) (s:Str) (A:Option Addr) (ec:Nat) (F:EF) (lA:Option Addr) (lc:Nat) (l:SF) (xA:Option Addr) (xc:Nat) (els:SF) (L:List Ins) (w:World) (h:x.at w f W L) (hX:Rb x w part f κ 7 low high s A F lA l xA els) (hL:L.length+(cS x.k W f L.length 7 s F low high l els).length<=4000):
 Calls prog 135 #[.pointer (some ⟨x.mb,0,none⟩),.agg (aB 7 s A F.len ec low high lA l.len lc xA els.len xc)] w λe w'=>e=.returned (.tuple #[])/\x.at w' f W (L++cS x.k W f L.length 7 s F low high l els)/\KT x.B x.wm w w':=by
 have e:cS x.k W f L.length 7 s F low high l els=pJ x.k W L.length 7 s F low:=by unfold cS;rw [if_neg ak,if_neg ak]
 rw [e]at hL⊢;exact Yd x f W hM κ low high s A ec F lA l.len lc xA els.len xc L w h hX.sx hL
theorem aee (x:lY) (part f:Nat) (W:Wd) (hM:vM x W) (κ:Kn) (_Ob:∀s,κ s=0->W s=0) (_f8:f<=8) (low high:Int) (s:Str) (A:Option Addr) (ec:Nat) (F:EF) (lA:Option Addr) (lc:Nat) (l:SF) (xA:Option Addr) (xc:Nat) (els:SF) (L:List Ins) (w:World) (h:x.at w f W L) (hX:Rb x w part f κ 8 low high s A F lA l xA els) (hL:L.length+(cS x.k W f L.length 8 s F low high l els).length<=4000):
 Calls prog 136 #[.pointer (some ⟨x.mb,0,none⟩),.agg (aB 8 s A F.len ec low high lA l.len lc xA els.len xc)] w λe w'=>e=.returned (.tuple #[])/\x.at w' f W (L++cS x.k W f L.length 8 s F low high l els)/\KT x.B x.wm w w':=by
 have e:cS x.k W f L.length 8 s F low high l els=pJ x.k W L.length 8 s F low:=by unfold cS;rw [if_neg ak,if_neg ak]
 rw [e]at hL⊢;exact aaZ x f W hM κ low high s A ec F lA l.len lc xA els.len xc L w h hX.sx hL
theorem aef (x:lY) (part f:Nat) (W:Wd) (hM:vM x W) (κ:Kn) (_Ob:∀s,κ s=0->W s=0) (_f8:f<=8) (low high:Int) (s:Str) (A:Option Addr) (ec:Nat) (F:EF) (lA:Option Addr) (lc:Nat) (l:SF) (xA:Option Addr) (xc:Nat) (els:SF) (L:List Ins) (w:World) (h:x.at w f W L) (hX:Rb x w part f κ 9 low high s A F lA l xA els) (hL:L.length+(cS x.k W f L.length 9 s F low high l els).length<=4000):
 Calls prog 137 #[.pointer (some ⟨x.mb,0,none⟩),.agg (aB 9 s A F.len ec low high lA l.len lc xA els.len xc)] w λe w'=>e=.returned (.tuple #[])/\x.at w' f W (L++cS x.k W f L.length 9 s F low high l els)/\KT x.B x.wm w w':=by
 have e:cS x.k W f L.length 9 s F low high l els=pJ x.k W L.length 9 s F low:=by unfold cS;rw [if_neg ak,if_neg ak]
 rw [e]at hL⊢;exact Yj x f W hM κ low high s A ec F lA l.len lc xA els.len xc L w h hX.sx hL
theorem Pg (x:lY) (part:Nat) (F:SF):ZG x part F:=by
 refine sj (C:=ZG x part) ?_ F;clear F;intro F IH f W κ top A cap L w hM NC f8 h hsl hc hz hL;obtain⟨-,hf,b,off,hA,hE⟩:=hsl;have hm:=hf.max aj;have HA:=J hA;have HE:=J hE;have HI:=J IH;have SQ:=J hM;have NV:=J NC;have HH:=J h;have HC:=J hc;have HZ:=J hz;have HL:=J hL;have Fv:=J f8;have fP:=J (And.intro h.hN h.hB);obtain⟨CD,hCD⟩:∃CD,CD=cB x.k F W f L.length:=⟨_,rfl⟩;have HCD:=J hCD;obtain⟨n,hn⟩:∃n,n=F.len:=⟨_,rfl⟩;have HN:=J hn;rw [<-hCD,<-hn];rw [<-hn]at hm;clear hf hA hE IH hM NC h hc hz hL f8 hCD hn;go_enter func85,ntmps85;go_wp2_with fail
 go_loopw [8] (λt8 wr=>∃(m:Nat) (R:SF) (Lm:List Ins),m+R.len=n/\bV part κ f top R=none/\R.size<=1099511627776/\t8=.int .i64 m/\nk w x.N R b (off+m*7)/\SF.All (ZG x part) R/\x.at wr f W Lm/\L++CD=Lm++cB x.k R W f Lm.length/\KT x.B x.wm w wr) (λt8 _=>n - (intOf t8).toNat)
 case atStart=>exact⟨0,F,L,by rw [HN.out,Nat.zero_add],HC.out,HZ.out,rfl,by simpa using HE.out,HI.out,HH.out,by rw [HCD.out],KT.refl _ _ _⟩
 case round=>
  obtain⟨m,R,Lm,hm',hcr,hzr,rfl,hR,hall,hat,hcode,hkr⟩:=hrel;have HRR:=J hR;have HAT:=J hat;have Fu:=J hcr;have iL:=J hall;have HCO:=J hcode;have HKR:=J hkr;have HZR:=J hzr;clear hR hat hcr hall hcode hkr hzr
  cases R with
  |nil=>
   simp only [SF.len,Nat.add_zero]at hm';subst hm';go_wp2_with fail;go_end0;refine⟨rfl,?_,HKR.out⟩;rw [HCO.out,show cB x.k .nil W f Lm.length=[]from rfl,List.append_nil];exact HAT.out
  |cons kind name es low high l els r=>
   obtain⟨hb,h1,h2,h3,h4,⟨eA,ec,lA,lc,xA,xc,be,oe,bl,ol,bx,ox,hh,hg,n1,n2,n3,a1,a2,a3,he,hl,Az⟩,hr⟩:=HRR.out;simp only [SF.len]at hm';have hlt:(m:Int)<n:=by omega
   obtain rfl:=HA.out (by have:=HN.out;omega);have hcc:=Fu.out;rw [jT,av]at hcc;have hzc:=HZR.out;simp only [SF.size]at hzc;obtain⟨hkind,hst⟩:=aeN (x:=x) (w:=w) hcc.1 aj h2 h3 h4 n1 n2 n3 a1 a2 a3 he hl Az iL.out.1 iL.out.2.1;have HST:=J (hst.kt HKR.out fP.out.1 fP.out.2);have wo:=J hcc.2;have HZN:=J (show r.size<=1099511627776 by omega);have HRN:=J hr;have xq:=J iL.out.2.2;have u:=lJ HKR.out fP.out hb hh hg;have u1:=u.1;have u2:=u.2.1;have u3:=u.2.2;have hcb:=HCO.out;rw [Cm,<-List.append_assoc]at hcb;obtain⟨SC,hSC⟩:∃SC,SC=cS x.k W f Lm.length kind name es low high l els:=⟨_,rfl⟩;rw [<-hSC]at hcb;have ZU:=J hSC;have Hq:=J (show L++CD=Lm++SC++cB x.k r W f ((Lm++SC).length:Nat)from by rw [List.length_append];exact hcb)
   have HLC:=J (show Lm.length+SC.length<=4000 from by
    have e:=congrArg List.length hcb;have:=HL.out;rw [<-HCD.out]at this;simp only [List.length_append]at e
    omega)
   clear u hcc hzc hst hcb hSC hh hg n1 n2 n3 a1 a2 a3 he hl Az hb h1 h2 h3 h4 hr HRR Fu HZR iL HCO;have hkk:kind=0∨kind=1∨kind=2∨kind=3∨kind=4∨kind=5∨kind=6∨kind=7∨kind=8∨kind=9:=by omega
   clear hkind
   rcases hkk with rfl|rfl|rfl|rfl|rfl|rfl|rfl|rfl|rfl|rfl
   ·skip
    have y0:=(kR (λ_=>False) wr).alloc (.cells (aB 0 name eA es.len ec low high lA l.len lc xA els.len xc) 151);have hB0:=bN wr 151 (aB 0 name eA es.len ec low high lA l.len lc xA els.len xc);go_upto_region 3 with(fail);generalize (wr.alloc (.cells (aB 0 name eA es.len ec low high lA l.len lc xA els.len xc) 151))=W1 at y0 hB0⊢;refine zy5 ?_;clear hB0 y0 u1 u2 u3;intro g HB eY eH bU
    (repeat first|refine cu ?_|refine dL ⟨KT.ext (Kept.drew (kR _ _)),_,(eY.out).drew⟩ (by intro w1 hS;have d0:=KT.block hS.1 (HB.out) ak ak;have d1:=bC d0;have d2:=d0.lt;obtain⟨L',hm'⟩:=hS.2;obtain⟨A',n',cp',hb',_⟩:=hm'.blk;have d3:=bC hb';have d4:=hb'.lt;have d5:=jB hm'.vS 0 (fv:=.func (.func 128) #[] #[]) rfl;have d6:=bH d0;have d7:=bG d0;exact gX) ?_|refine dK ⟨KT.ext (Kept.drew (kR _ _)),_,(eY.out).drew⟩ ?_)
    refine F3 ?_;intro yd K hK;go_wp2_with fail;refine(adW x part f W SQ.out κ NV.out Fv.out low high name eA ec es lA lc l xA xc els Lm _ (eY.out).drew (eH.out.kt yd eY.out.hN eY.out.hB) FV).mono ?_;exact F4
   ·skip
    have y0:=(kR (λ_=>False) wr).alloc (.cells (aB 1 name eA es.len ec low high lA l.len lc xA els.len xc) 151);have hB0:=bN wr 151 (aB 1 name eA es.len ec low high lA l.len lc xA els.len xc);go_upto_region 3 with(fail);generalize (wr.alloc (.cells (aB 1 name eA es.len ec low high lA l.len lc xA els.len xc) 151))=W1 at y0 hB0⊢;refine zy5 ?_;clear hB0 y0 u1 u2 u3;intro g HB eY eH bU
    (repeat first|refine cu ?_|refine dL ⟨KT.ext (Kept.drew (kR _ _)),_,(eY.out).drew⟩ (by intro w1 hS;have d0:=KT.block hS.1 (HB.out) ak ak;have d1:=bC d0;have d2:=d0.lt;obtain⟨L',hm'⟩:=hS.2;obtain⟨A',n',cp',hb',_⟩:=hm'.blk;have d3:=bC hb';have d4:=hb'.lt;have d5:=jB hm'.vS 1 (fv:=.func (.func 129) #[] #[]) rfl;have d6:=bH d0;have d7:=bG d0;exact gX) ?_|refine dK ⟨KT.ext (Kept.drew (kR _ _)),_,(eY.out).drew⟩ ?_)
    refine F3 ?_;intro yd K hK;go_wp2_with fail;refine(adX x part f W SQ.out κ NV.out Fv.out low high name eA ec es lA lc l xA xc els Lm _ (eY.out).drew (eH.out.kt yd eY.out.hN eY.out.hB) FV).mono ?_;exact F4
   ·skip
    have y0:=(kR (λ_=>False) wr).alloc (.cells (aB 2 name eA es.len ec low high lA l.len lc xA els.len xc) 151);have hB0:=bN wr 151 (aB 2 name eA es.len ec low high lA l.len lc xA els.len xc);go_upto_region 3 with(fail);generalize (wr.alloc (.cells (aB 2 name eA es.len ec low high lA l.len lc xA els.len xc) 151))=W1 at y0 hB0⊢;refine zy5 ?_;clear hB0 y0 u1 u2 u3;intro g HB eY eH bU
    (repeat first|refine cu ?_|refine dL ⟨KT.ext (Kept.drew (kR _ _)),_,(eY.out).drew⟩ (by intro w1 hS;have d0:=KT.block hS.1 (HB.out) ak ak;have d1:=bC d0;have d2:=d0.lt;obtain⟨L',hm'⟩:=hS.2;obtain⟨A',n',cp',hb',_⟩:=hm'.blk;have d3:=bC hb';have d4:=hb'.lt;have d5:=jB hm'.vS 2 (fv:=.func (.func 130) #[] #[]) rfl;have d6:=bH d0;have d7:=bG d0;exact gX) ?_|refine dK ⟨KT.ext (Kept.drew (kR _ _)),_,(eY.out).drew⟩ ?_)
    refine F3 ?_;intro yd K hK;go_wp2_with fail;refine(adY x part f W SQ.out κ NV.out Fv.out low high name eA ec es lA lc l xA xc els Lm _ (eY.out).drew (eH.out.kt yd eY.out.hN eY.out.hB) FV).mono ?_;exact F4
   ·skip
    have y0:=(kR (λ_=>False) wr).alloc (.cells (aB 3 name eA es.len ec low high lA l.len lc xA els.len xc) 151);have hB0:=bN wr 151 (aB 3 name eA es.len ec low high lA l.len lc xA els.len xc);go_upto_region 3 with(fail);generalize (wr.alloc (.cells (aB 3 name eA es.len ec low high lA l.len lc xA els.len xc) 151))=W1 at y0 hB0⊢;refine zy5 ?_;clear hB0 y0 u1 u2 u3;intro g HB eY eH bU
    (repeat first|refine cu ?_|refine dL ⟨KT.ext (Kept.drew (kR _ _)),_,(eY.out).drew⟩ (by intro w1 hS;have d0:=KT.block hS.1 (HB.out) ak ak;have d1:=bC d0;have d2:=d0.lt;obtain⟨L',hm'⟩:=hS.2;obtain⟨A',n',cp',hb',_⟩:=hm'.blk;have d3:=bC hb';have d4:=hb'.lt;have d5:=jB hm'.vS 3 (fv:=.func (.func 131) #[] #[]) rfl;have d6:=bH d0;have d7:=bG d0;exact gX) ?_|refine dK ⟨KT.ext (Kept.drew (kR _ _)),_,(eY.out).drew⟩ ?_)
    refine F3 ?_;intro yd K hK;go_wp2_with fail;refine(adZ x part f W SQ.out κ NV.out Fv.out low high name eA ec es lA lc l xA xc els Lm _ (eY.out).drew (eH.out.kt yd eY.out.hN eY.out.hB) FV).mono ?_;exact F4
   ·skip
    have y0:=(kR (λ_=>False) wr).alloc (.cells (aB 4 name eA es.len ec low high lA l.len lc xA els.len xc) 151);have hB0:=bN wr 151 (aB 4 name eA es.len ec low high lA l.len lc xA els.len xc);go_upto_region 3 with(fail);generalize (wr.alloc (.cells (aB 4 name eA es.len ec low high lA l.len lc xA els.len xc) 151))=W1 at y0 hB0⊢;refine zy5 ?_;clear hB0 y0 u1 u2 u3;intro g HB eY eH bU
    (repeat first|refine cu ?_|refine dL ⟨KT.ext (Kept.drew (kR _ _)),_,(eY.out).drew⟩ (by intro w1 hS;have d0:=KT.block hS.1 (HB.out) ak ak;have d1:=bC d0;have d2:=d0.lt;obtain⟨L',hm'⟩:=hS.2;obtain⟨A',n',cp',hb',_⟩:=hm'.blk;have d3:=bC hb';have d4:=hb'.lt;have d5:=jB hm'.vS 4 (fv:=.func (.func 132) #[] #[]) rfl;have d6:=bH d0;have d7:=bG d0;exact gX) ?_|refine dK ⟨KT.ext (Kept.drew (kR _ _)),_,(eY.out).drew⟩ ?_)
    refine F3 ?_;intro yd K hK;go_wp2_with fail;refine(aea x part f W SQ.out κ NV.out Fv.out low high name eA ec es lA lc l xA xc els Lm _ (eY.out).drew (eH.out.kt yd eY.out.hN eY.out.hB) FV).mono ?_;exact F4
   ·skip
    have y0:=(kR (λ_=>False) wr).alloc (.cells (aB 5 name eA es.len ec low high lA l.len lc xA els.len xc) 151);have hB0:=bN wr 151 (aB 5 name eA es.len ec low high lA l.len lc xA els.len xc);go_upto_region 3 with(fail);generalize (wr.alloc (.cells (aB 5 name eA es.len ec low high lA l.len lc xA els.len xc) 151))=W1 at y0 hB0⊢;refine zy5 ?_;clear hB0 y0 u1 u2 u3;intro g HB eY eH bU
    (repeat first|refine cu ?_|refine dL ⟨KT.ext (Kept.drew (kR _ _)),_,(eY.out).drew⟩ (by intro w1 hS;have d0:=KT.block hS.1 (HB.out) ak ak;have d1:=bC d0;have d2:=d0.lt;obtain⟨L',hm'⟩:=hS.2;obtain⟨A',n',cp',hb',_⟩:=hm'.blk;have d3:=bC hb';have d4:=hb'.lt;have d5:=jB hm'.vS 5 (fv:=.func (.func 133) #[] #[]) rfl;have d6:=bH d0;have d7:=bG d0;exact gX) ?_|refine dK ⟨KT.ext (Kept.drew (kR _ _)),_,(eY.out).drew⟩ ?_)
    refine F3 ?_;intro yd K hK;go_wp2_with fail;refine(aeb x part f W SQ.out κ NV.out Fv.out low high name eA ec es lA lc l xA xc els Lm _ (eY.out).drew (eH.out.kt yd eY.out.hN eY.out.hB) FV).mono ?_;exact F4
   ·skip
    have y0:=(kR (λ_=>False) wr).alloc (.cells (aB 6 name eA es.len ec low high lA l.len lc xA els.len xc) 151);have hB0:=bN wr 151 (aB 6 name eA es.len ec low high lA l.len lc xA els.len xc);go_upto_region 3 with(fail);generalize (wr.alloc (.cells (aB 6 name eA es.len ec low high lA l.len lc xA els.len xc) 151))=W1 at y0 hB0⊢;refine zy5 ?_;clear hB0 y0 u1 u2 u3;intro g HB eY eH bU
    (repeat first|refine cu ?_|refine dL ⟨KT.ext (Kept.drew (kR _ _)),_,(eY.out).drew⟩ (by intro w1 hS;have d0:=KT.block hS.1 (HB.out) ak ak;have d1:=bC d0;have d2:=d0.lt;obtain⟨L',hm'⟩:=hS.2;obtain⟨A',n',cp',hb',_⟩:=hm'.blk;have d3:=bC hb';have d4:=hb'.lt;have d5:=jB hm'.vS 6 (fv:=.func (.func 134) #[] #[]) rfl;have d6:=bH d0;have d7:=bG d0;exact gX) ?_|refine dK ⟨KT.ext (Kept.drew (kR _ _)),_,(eY.out).drew⟩ ?_)
    refine F3 ?_;intro yd K hK;go_wp2_with fail;refine(aec x part f W SQ.out κ NV.out Fv.out low high name eA ec es lA lc l xA xc els Lm _ (eY.out).drew (eH.out.kt yd eY.out.hN eY.out.hB) FV).mono ?_;exact F4
   ·skip
    have y0:=(kR (λ_=>False) wr).alloc (.cells (aB 7 name eA es.len ec low high lA l.len lc xA els.len xc) 151);have hB0:=bN wr 151 (aB 7 name eA es.len ec low high lA l.len lc xA els.len xc);go_upto_region 3 with(fail);generalize (wr.alloc (.cells (aB 7 name eA es.len ec low high lA l.len lc xA els.len xc) 151))=W1 at y0 hB0⊢;refine zy5 ?_;clear hB0 y0 u1 u2 u3;intro g HB eY eH bU
    (repeat first|refine cu ?_|refine dL ⟨KT.ext (Kept.drew (kR _ _)),_,(eY.out).drew⟩ (by intro w1 hS;have d0:=KT.block hS.1 (HB.out) ak ak;have d1:=bC d0;have d2:=d0.lt;obtain⟨L',hm'⟩:=hS.2;obtain⟨A',n',cp',hb',_⟩:=hm'.blk;have d3:=bC hb';have d4:=hb'.lt;have d5:=jB hm'.vS 7 (fv:=.func (.func 135) #[] #[]) rfl;have d6:=bH d0;have d7:=bG d0;exact gX) ?_|refine dK ⟨KT.ext (Kept.drew (kR _ _)),_,(eY.out).drew⟩ ?_)
    refine F3 ?_;intro yd K hK;go_wp2_with fail;refine(aed x part f W SQ.out κ NV.out Fv.out low high name eA ec es lA lc l xA xc els Lm _ (eY.out).drew (eH.out.kt yd eY.out.hN eY.out.hB) FV).mono ?_;exact F4
   ·skip
    have y0:=(kR (λ_=>False) wr).alloc (.cells (aB 8 name eA es.len ec low high lA l.len lc xA els.len xc) 151);have hB0:=bN wr 151 (aB 8 name eA es.len ec low high lA l.len lc xA els.len xc);go_upto_region 3 with(fail);generalize (wr.alloc (.cells (aB 8 name eA es.len ec low high lA l.len lc xA els.len xc) 151))=W1 at y0 hB0⊢;refine zy5 ?_;clear hB0 y0 u1 u2 u3;intro g HB eY eH bU
    (repeat first|refine cu ?_|refine dL ⟨KT.ext (Kept.drew (kR _ _)),_,(eY.out).drew⟩ (by intro w1 hS;have d0:=KT.block hS.1 (HB.out) ak ak;have d1:=bC d0;have d2:=d0.lt;obtain⟨L',hm'⟩:=hS.2;obtain⟨A',n',cp',hb',_⟩:=hm'.blk;have d3:=bC hb';have d4:=hb'.lt;have d5:=jB hm'.vS 8 (fv:=.func (.func 136) #[] #[]) rfl;have d6:=bH d0;have d7:=bG d0;exact gX) ?_|refine dK ⟨KT.ext (Kept.drew (kR _ _)),_,(eY.out).drew⟩ ?_)
    refine F3 ?_;intro yd K hK;go_wp2_with fail;refine(aee x part f W SQ.out κ NV.out Fv.out low high name eA ec es lA lc l xA xc els Lm _ (eY.out).drew (eH.out.kt yd eY.out.hN eY.out.hB) FV).mono ?_;exact F4
   ·skip
    have y0:=(kR (λ_=>False) wr).alloc (.cells (aB 9 name eA es.len ec low high lA l.len lc xA els.len xc) 151);have hB0:=bN wr 151 (aB 9 name eA es.len ec low high lA l.len lc xA els.len xc);go_upto_region 3 with(fail);generalize (wr.alloc (.cells (aB 9 name eA es.len ec low high lA l.len lc xA els.len xc) 151))=W1 at y0 hB0⊢;refine zy5 ?_;clear hB0 y0 u1 u2 u3;intro g HB eY eH bU
    (repeat first|refine cu ?_|refine dL ⟨KT.ext (Kept.drew (kR _ _)),_,(eY.out).drew⟩ (by intro w1 hS;have d0:=KT.block hS.1 (HB.out) ak ak;have d1:=bC d0;have d2:=d0.lt;obtain⟨L',hm'⟩:=hS.2;obtain⟨A',n',cp',hb',_⟩:=hm'.blk;have d3:=bC hb';have d4:=hb'.lt;have d5:=jB hm'.vS 9 (fv:=.func (.func 137) #[] #[]) rfl;have d6:=bH d0;have d7:=bG d0;exact gX) ?_|refine dK ⟨KT.ext (Kept.drew (kR _ _)),_,(eY.out).drew⟩ ?_)
    refine F3 ?_;intro yd K hK;go_wp2_with fail;refine(aef x part f W SQ.out κ NV.out Fv.out low high name eA ec es lA lc l xA xc els Lm _ (eY.out).drew (eH.out.kt yd eY.out.hN eY.out.hB) FV).mono ?_;exact F4
open Go.RowKit So Mc
theorem ru:jQ prog 126=true:=by kernel_rfl
theorem pE:sizeT prog 126=some 2:=by kernel_rfl
theorem vZ {dst:Option Tmp} {ty':TypeId} {x:Operand} {pos:String} {after:Array Edge} {guard:Option (Nat×Bool)} {a:Act} {w:World} {K:Act->World->Prop} {Q:Exit->Act->World->Prop} (hx:iy (a.eval x)=true) (hh:has w (bE (a.eval x)) (bJ (a.eval x)) 2=true):
 Oper.wp prog {dst:=dst,op:=.load 126 x,type:=ty',pos:=pos,after:=after,guard:=guard} a w K Q=K (a.put dst (.agg (gets w (bE (a.eval x)) (bJ (a.eval x)) 2))) w:=dJ 2 ru pE hx hh
theorem Es {ρ:Operand->Value} {dst:Option Tmp} {ty':TypeId} {x:Operand} {pos:String} {after:Array Edge} {guard:Option (Nat×Bool)} {w:World} (hx:iy (ρ x)=true) (hh:has w (bE (ρ x)) (bJ (ρ x)) 2=true):
 (execOp ρ {dst:=dst,op:=.load 126 x,type:=ty',pos:=pos,after:=after,guard:=guard}).run prog w=.ok (.value (.agg (gets w (bE (ρ x)) (bJ (ρ x)) 2))) w:=aZ 2 ru pE hx hh
attribute [go_sem] ru pE
attribute [go_sem↓high] vZ Es
attribute [go_sem high] vZ
theorem aam:jQ prog 207=true:=by kernel_rfl
theorem Yy:sizeT prog 207=some 2:=by kernel_rfl
attribute [go_sem] aam Yy
def exC (t:Int):Option Value:=if t=0 then some (.agg #[.int .i64 1,.bool false])else if t=1 then some (.agg #[.int .i64 1,.bool false])else if t=2 then some (.agg #[.int .i64 6,.bool true])else none
def stC (t:Int):Option Value:=if t=0 then some (.agg #[.int .i64 3,.bool true])else if t=1 then some (.agg #[.int .i64 6,.bool true])else if t=2 then some (.agg #[.int .i64 3,.bool true])else if t=3 then some (.agg #[.int .i64 3,.bool false])else if t=4 then some (.agg #[.int .i64 2,.bool false])else if t=5 then some (.agg #[.int .i64 4,.bool false])else if t=6 then some (.agg #[.int .i64 3,.bool true])else if t=7 then some (.agg #[.int .i64 2,.bool false])else if t=8 then some (.agg #[.int .i64 8,.bool true])else if t=9 then some (.agg #[.int .i64 3,.bool true])else none
theorem Po (w:World):Calls prog 96 #[] w λe w'=>e=.returned (.map (some w.heap.size))/\dx w' w.heap.size exC/\Ext w w':=by
 have hmm:=@run_makeMap prog;have hu:prog.underlying 124=some (.map 3 _):=underlying124;refine Zj ?_;intro b0 y0;go_enter func96,ntmps96;go_upto_region 1 with(fail);go_step
 iterate 1 refine qY ?_
 obtain⟨w1,r1,b1,k1⟩:=dx.put b0 hu underlying3 (0) (.agg #[.int .i64 1,.bool false]);have y1:=y0.trans' k1 (λi hi e=>by omega)
 iterate 1 refine qY ?_
 refine Mc.aK rfl 124 (.tmp 1) (.const (.int .i64 0)) (.tmp 2) rfl rfl rfl rfl rfl r1 ?_;clear r1 k1 b0 y0;obtain⟨w2,r2,b2,k2⟩:=dx.put b1 hu underlying3 (1) (.agg #[.int .i64 1,.bool false]);have y2:=y1.trans' k2 (λi hi e=>by omega)
 iterate 1 refine qY ?_
 refine Mc.aK rfl 124 (.tmp 1) (.const (.int .i64 1)) (.tmp 3) rfl rfl rfl rfl rfl r2 ?_;clear r2 k2 b1 y1;obtain⟨w3,r3,b3,k3⟩:=dx.put b2 hu underlying3 (2) (.agg #[.int .i64 6,.bool true]);have y3:=y2.trans' k3 (λi hi e=>by omega)
 iterate 1 refine qY ?_
 refine Mc.aK rfl 124 (.tmp 1) (.const (.int .i64 2)) (.tmp 4) rfl rfl rfl rfl rfl r3 ?_;clear r3 k3 b2 y2;go_wp2_with fail;go_ret;refine⟨rfl,dx.qx b3 (λt=>?_),y3⟩
 by_cases h:t=0∨t=1∨t=2
 ·rcases h with rfl|rfl|rfl<;>rfl
 ·unfold exC
  rw [if_neg (show¬t=2 by omega),if_neg (show¬t=1 by omega),if_neg (show¬t=0 by omega)];rw [if_neg (show¬t=0 by omega),if_neg (show¬t=1 by omega),if_neg (show¬t=2 by omega)]
theorem Pp (w:World):Calls prog 97 #[] w λe w'=>e=.returned (.map (some w.heap.size))/\dx w' w.heap.size stC/\Ext w w':=by
 have hmm:=@run_makeMap prog;have hu:prog.underlying 124=some (.map 3 _):=underlying124;refine Zj ?_;intro b0 y0;go_enter func97,ntmps97;go_upto_region 1 with(fail);go_step
 iterate 1 refine qY ?_
 obtain⟨w1,r1,b1,k1⟩:=dx.put b0 hu underlying3 (0) (.agg #[.int .i64 3,.bool true]);have y1:=y0.trans' k1 (λi hi e=>by omega)
 iterate 1 refine qY ?_
 refine Mc.aK rfl 124 (.tmp 1) (.const (.int .i64 0)) (.tmp 2) rfl rfl rfl rfl rfl r1 ?_;clear r1 k1 b0 y0;obtain⟨w2,r2,b2,k2⟩:=dx.put b1 hu underlying3 (1) (.agg #[.int .i64 6,.bool true]);have y2:=y1.trans' k2 (λi hi e=>by omega)
 iterate 1 refine qY ?_
 refine Mc.aK rfl 124 (.tmp 1) (.const (.int .i64 1)) (.tmp 3) rfl rfl rfl rfl rfl r2 ?_;clear r2 k2 b1 y1;obtain⟨w3,r3,b3,k3⟩:=dx.put b2 hu underlying3 (2) (.agg #[.int .i64 3,.bool true]);have y3:=y2.trans' k3 (λi hi e=>by omega)
 iterate 1 refine qY ?_
 refine Mc.aK rfl 124 (.tmp 1) (.const (.int .i64 2)) (.tmp 4) rfl rfl rfl rfl rfl r3 ?_;clear r3 k3 b2 y2;obtain⟨w4,r4,b4,k4⟩:=dx.put b3 hu underlying3 (3) (.agg #[.int .i64 3,.bool false]);have y4:=y3.trans' k4 (λi hi e=>by omega)
 iterate 1 refine qY ?_
 refine Mc.aK rfl 124 (.tmp 1) (.const (.int .i64 3)) (.tmp 5) rfl rfl rfl rfl rfl r4 ?_;clear r4 k4 b3 y3;obtain⟨w5,r5,b5,k5⟩:=dx.put b4 hu underlying3 (4) (.agg #[.int .i64 2,.bool false]);have y5:=y4.trans' k5 (λi hi e=>by omega)
 iterate 1 refine qY ?_
 refine Mc.aK rfl 124 (.tmp 1) (.const (.int .i64 4)) (.tmp 6) rfl rfl rfl rfl rfl r5 ?_;clear r5 k5 b4 y4;obtain⟨w6,r6,b6,k6⟩:=dx.put b5 hu underlying3 (7) (.agg #[.int .i64 2,.bool false]);have y6:=y5.trans' k6 (λi hi e=>by omega)
 iterate 1 refine qY ?_
 refine Mc.aK rfl 124 (.tmp 1) (.const (.int .i64 7)) (.tmp 7) rfl rfl rfl rfl rfl r6 ?_;clear r6 k6 b5 y5;obtain⟨w7,r7,b7,k7⟩:=dx.put b6 hu underlying3 (5) (.agg #[.int .i64 4,.bool false]);have y7:=y6.trans' k7 (λi hi e=>by omega)
 iterate 1 refine qY ?_
 refine Mc.aK rfl 124 (.tmp 1) (.const (.int .i64 5)) (.tmp 8) rfl rfl rfl rfl rfl r7 ?_;clear r7 k7 b6 y6;obtain⟨w8,r8,b8,k8⟩:=dx.put b7 hu underlying3 (6) (.agg #[.int .i64 3,.bool true]);have y8:=y7.trans' k8 (λi hi e=>by omega)
 iterate 1 refine qY ?_
 refine Mc.aK rfl 124 (.tmp 1) (.const (.int .i64 6)) (.tmp 9) rfl rfl rfl rfl rfl r8 ?_;clear r8 k8 b7 y7;obtain⟨w9,r9,b9,k9⟩:=dx.put b8 hu underlying3 (9) (.agg #[.int .i64 3,.bool true]);have y9:=y8.trans' k9 (λi hi e=>by omega)
 iterate 1 refine qY ?_
 refine Mc.aK rfl 124 (.tmp 1) (.const (.int .i64 9)) (.tmp 10) rfl rfl rfl rfl rfl r9 ?_;clear r9 k9 b8 y8;obtain⟨w10,UC,b10,k10⟩:=dx.put b9 hu underlying3 (8) (.agg #[.int .i64 8,.bool true]);have Sq:=y9.trans' k10 (λi hi e=>by omega)
 iterate 1 refine qY ?_
 refine Mc.aK rfl 124 (.tmp 1) (.const (.int .i64 8)) (.tmp 11) rfl rfl rfl rfl rfl UC ?_;clear UC k10 b9 y9;go_wp2_with fail;go_ret;refine⟨rfl,dx.qx b10 (λt=>?_),Sq⟩
 by_cases h:t=0∨t=1∨t=2∨t=3∨t=4∨t=7∨t=5∨t=6∨t=9∨t=8
 ·rcases h with rfl|rfl|rfl|rfl|rfl|rfl|rfl|rfl|rfl|rfl<;>rfl
 ·unfold stC
  rw [if_neg (show¬t=8 by omega),if_neg (show¬t=9 by omega),if_neg (show¬t=6 by omega),if_neg (show¬t=5 by omega),if_neg (show¬t=7 by omega),if_neg (show¬t=4 by omega),if_neg (show¬t=3 by omega),if_neg (show¬t=2 by omega),if_neg (show¬t=1 by omega),if_neg (show¬t=0 by omega)];exact ajx
def Q_ (w:World) (ex st:Nat):Prop:=dx w ex exC/\dx w st stC
abbrev cnt (ex st:Nat):Array Value:=#[.map (some ex),.map (some st)]
theorem Oj (w:World):Calls prog 57 #[] w λe w'=>∃ex st,e=.returned (.agg (cnt ex st))/\Q_ w' ex st/\Ext w w'/\w.heap.size<=ex/\w.heap.size<=st:=by
 have y0:=(kR (λ_=>False) w).alloc (.cells #[.map none,.map none] 126);have b0:=bN w 126 #[.map none,.map none];have hsz:(w.alloc (.cells #[.map none,.map none] 126)).heap.size=w.heap.size+1:=by simp
 go_enter func57,ntmps57;go_upto_region 1 with(fail);generalize (w.alloc (.cells #[.map none,.map none] 126))=W0 at y0 b0 hsz⊢;go_wp2_with fail;refine(Po _).mono ?_;rintro e w1 ⟨rfl,h1,y1⟩;go_wp2_with fail;refine(Pp _).mono ?_;rintro e w2 ⟨rfl,h2,y2⟩;have b2:=bX b0 (y1.trans y2);have i1:=aH.bF b2;have i2:=bH b2;have i3:=b2.lt;have h1':=h1.ext y2;rw [hsz]at h1';have hex:=y1.size;have yy:=y0.trans (y1.trans y2);have hst:=(y0.trans y1).size;generalize w1.heap.size=st at h2 hst hex⊢;clear h1;go_wp2_with fail;have yp:Ext w (putAt w2 w.heap.size 0 #[.map (some (w.heap.size+1)),.map (some st)]):=yy.putAt _ 0 _ (λh=>absurd h aj);have kp:Kept (·=w.heap.size) w2 (putAt w2 w.heap.size 0 #[.map (some (w.heap.size+1)),.map (some st)]):=Kept.putAt (kR _ _) _ 0 _ (λ_=>rfl);refine fD results57 rfl rfl ru (by exact pE) (aH.gL b2 0 _) ⟨w.heap.size+1,st,rfl,⟨h1'.kept kp aj,h2.kept kp aj⟩,yp,by omega,by omega⟩
theorem qm (n:Int) (w:World):Calls prog 58 #[.int .i64 n] w λe w'=>e=.returned (.func (.func 98) #[] #[.pointer (some ⟨w.heap.size,0,none⟩)])/\aH w' w.heap.size 3 #[.int .i64 n]/\Ext w w':=by
 refine abX ?_;intro oN;have y0:Ext w (w.alloc (.cells #[.int .i64 n] 3)):=(kR _ w).alloc _;have b0:=bN w 3 #[.int .i64 n];go_enter func58,ntmps58;go_wp2_with fail;go_ret;exact⟨rfl,b0,y0⟩
def bW (n:Nat):Nat:=min n 65537
theorem fT (nb n m:Nat) (w:World) (hn:n<=65537) (hm:m<=4611686018427387904) (hb:aH w nb 3 #[.int .i64 n]):
 Calls prog 98 #[.int .i64 m,.pointer (some ⟨nb,0,none⟩)] w λe w'=>e=.returned (.int .i64 (bW (n+m):Nat))/\aH w' nb 3 #[.int .i64 (bW (n+m):Nat)]/\Kept (·=nb) w w':=by
 have i1:=bC hb;have i2:=hb.lt;have i3:=aH.frozen hb;have hs:=aH.gW hb 0 (.int .i64 (bW (n+m):Nat));have hk:Kept (·=nb) w (w.setCell ⟨nb,0,none⟩ (.int .i64 (bW (n+m):Nat))):=Kept.setCell (kR _ w) _ _ (λ_=>rfl);have hw:=wrap_i64 (n:=(n:Int)+m) jP;have hmin:min ((n:Int)+m) 65537=(bW (n+m):Nat):=by unfold bW;omega
 clear hb;go_enter func98,ntmps98;go_wp2_with fail;go_ret;exact⟨rfl,by simpa using hs,hk⟩
end Go.Proofs.YtbfbabbcdochjaaGreatDoor
