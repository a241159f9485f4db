import Derived.ChangeSame
import Derived.Test.YtnhelcmddjbafaaGreatDoorTaaq
set_option maxHeartbeats 4000000
set_option maxRecDepth 100000
open Go.Proofs.Tryz
namespace Go.Proofs.YtnhelcmddjbafaaGreatDoor
open Go.RowKit
section
open Sq Mc
section
variable {L b:Int}
theorem sw {a n} (h1:0<=a/\a<b+49) (h2:ax n):aW ⟨1,a,n,0⟩ L (b+49)=true:=by
 unfold ax at h2;simp [aW,iL,fP,n6,Fs,ub,gl,iD]
 omega
theorem BH {a n} (h1:0<=a/\a<b+49) (h2:0<=n/\n<b+49):aW ⟨2,a,n,0⟩ L (b+49)=true:=by
 simp [aW,iL,fP,n6,Fs,gl,iD]
 omega
theorem ij {op a c d} (ho:3<=op/\op<=13∨op=15∨op=16) (h1:0<=a/\a<b+49) (h2:0<=c/\c<b+49) (h3:0<=d/\d<b+49):aW ⟨op,a,c,d⟩ L (b+49)=true:=by
 have h:op=3∨op=4∨op=5∨op=6∨op=7∨op=8∨op=9∨op=10∨op=11∨op=12∨op=13∨op=15∨op=16:=by omega
 rcases h with rfl|rfl|rfl|rfl|rfl|rfl|rfl|rfl|rfl|rfl|rfl|rfl|rfl<;>(simp [aW,iL,fP,n6,Fs,gl,iD];omega)
theorem ahl {a n} (h1:0<=a/\a<b+49) (h2:0<=n/\n<b+49):aW ⟨14,a,n,0⟩ L (b+49)=true:=by
 simp [aW,iL,fP,n6,Fs,gl,iD]
 omega
theorem Jc {a l h} (h1:0<=a/\a<b+49) (h2:ax l) (h3:ax h) (h4:l<=h):aW ⟨17,a,l,h⟩ L (b+49)=true:=by
 unfold ax at h2 h3;simp [aW,iL,fP,n6,Fs,ub,gl,iD]
 omega
theorem yV {a c n} (h1:0<=a/\a<b+49) (h2:0<=c/\c<b+49) (h3:0<=n/\n<=2147483647):aW ⟨18,a,c,n⟩ L (b+49)=true:=by
 simp [aW,iL,fP,n6,Fs,ub,gl,iD]
 omega
theorem acE {a} (h1:0<=a/\a<L):aW ⟨19,a,0,0⟩ L (b+49)=true:=by
 simp [aW,iL,fP,n6,Fs,gl,iD]
 omega
theorem R8 {op a c} (ho:op=20∨op=21) (h1:0<=a/\a<L) (h2:0<=c/\c<b+49):aW ⟨op,a,c,0⟩ L (b+49)=true:=by
 rcases ho with rfl|rfl<;>(simp [aW,iL,fP,n6,Fs,gl,iD];omega)
theorem BG {a} (h1:a=0∨a=1):aW ⟨0,a,0,0⟩ L (b+49)=true:=by
 rcases h1 with rfl|rfl<;>simp [aW,iL,fP,n6,Fs,ub,gl,iD]
def ca (L b:Int) (l:List Ins):Prop:=∀i∈l,aW i L (b+49)=true
theorem ca.nil:ca L b []:=λi h=>by simp at h
theorem ca.cons {i} {l} (h:aW i L (b+49)=true) (h':ca L b l):ca L b (i::l):=λj hj=>by
 rcases List.mem_cons.1 hj with q|q
 .rw [q];exact h
 .exact h' j q
theorem ca.app {l l'} (h:ca L b l) (h':ca L b l'):ca L b (l++l'):=λj hj=>by
 rcases mK.1 hj with q|q
 .exact h j q
 .exact h' j q
def WdR (b:Int) (W:Sq.Wd):Prop:=∀s,0<=W s/\W s<b+33
theorem Cq {V} (hv:∀v∈V,0<=v.size/\v.size<=64/\ax v.low/\ax v.high/\v.low<=v.high) (s:Str):0<=(a_ V s).size/\(a_ V s).size<=64/\ax (a_ V s).low/\ax (a_ V s).high/\(a_ V s).low<=(a_ V s).high:=by
 unfold a_
 cases h:V.find? (λv=>decide (v.name=s))with
 |none=>simp [ax]
 |some v=>exact hv v (List.mem_of_find?_eq_some h)
theorem CI {u} (hb:0<=b) (h0:0<=u) (h1:u<16):0<=fr b u/\fr b u<b+49:=by unfold fr;omega
theorem DF (k:Mk) (W:Sq.Wd) (κ:Kn) (hb:0<=k.b) (hW:WdR k.b W) (hv:∀v∈k.V,0<=v.size/\v.size<=64/\ax v.low/\ax v.high/\v.low<=v.high):
 ∀(F:EF) (j:Nat) (u:Int),mB κ F=none->0<=u->u+dpN F j<=16->ca L k.b (cE k W F j u)
 | .nil,_,_,_,_,_=>by rw [cE];exact ca.nil
 | .cons _ _ _ _ r,j+1,u,hc,h0,h1=>by
  rw [cE];rw [mB,aD]at hc;exact DF k W κ hb hW hv r j u hc.2 h0 (by simpa [dpN]using h1)
 | .cons op n name kids r,0,u,hc,h0,h1=>by
  rw [mB,aD,aD]at hc;obtain⟨⟨hh,akm⟩,-⟩:=hc;simp only [dpN]at h1;unfold jL at hh;rw [aD,di,fz]at hh;obtain⟨⟨nN,hlen⟩,aej⟩:=hh;simp only [iX,fz,gZ]at nN;simp only [beq_iff_eq]at hlen;have KW:∀(j:Nat) (u:Int),0<=u->u+dpN kids j<=16->ca L k.b (cE k W kids j u):=λj u a c=>DF k W κ hb hW hv kids j u akm a c;have hd:=N6 kids;have lz:=Rm kids;have hw:=hW name;have hx:=Cq hv name;unfold cE
  split
  .rename_i e
   subst e;simp only [if_true,di,word,fz,gZ]at aej;exact ca.cons (sw (CI hb h0 ad) aej) ca.nil
  split
  .exact ca.cons (BH (CI hb h0 ad) ad) ca.nil
  have Bt:1<=kids.len:=by
   rw [hlen];unfold exprParts
   split
   .omega
   .split<;>omega
  have Ng:=lz 0 ad;have hd0:=hd 0;have f0:=CI (b:=k.b) hb h0 ad;have f1:=CI (b:=k.b) (u:=u+1) hb ad ad
  split
  .refine ca.app (KW 0 u h0 ad) (ca.cons (yV f1 f0 ad) (ca.cons (ij ad f0 f0 f1) (ca.cons (ij ad f0 ad f0) (ca.cons (ij ad f0 f0 f1) ca.nil))))
  split
  .exact ca.app (KW 0 u h0 ad) (ca.cons (sw f1 Ej) (ca.cons (ij ad f0 f1 f0) ca.nil))
  split
  .exact ca.app (KW 0 u h0 ad) (ca.cons (ahl f0 f0) ca.nil)
  have hd1:=hd 1;have arn:=Mm (op:=op) ad
  split
  .exact ca.app (ca.app (KW 1 u h0 ad) (KW 0 (u+1) ad ad)) (ca.cons (ij ad f0 f0 f1) ca.nil)
  .exact ca.app (ca.app (KW 0 u h0 ad) (KW 1 (u+1) ad ad)) (ca.cons (ij ad f0 f0 f1) ca.nil)
theorem WdR.oK {W} (h:WdR b W) (s:Str) {v:Int} (h0:0<=v) (h1:v<b+33):WdR b (gY W s v):=λt=>by
 unfold gY
 split
 .omega
 .exact h t
theorem pR (k:Mk) (part:Nat) (hb:0<=k.b) (jF:k.b<=100) (pK:0<=k.aP/\k.aP<=8) (hv:∀v∈k.V,0<=v.size/\v.size<=64/\ax v.low/\ax v.high/\v.low<=v.high):
 ∀(F:SF) (κ:Kn) (W:Sq.Wd) (f:Nat) (fT:Bool) (a:Int),cC part κ f fT F=none->F.size<=1099511627776->WdR k.b W->f<=8->0<=a->a+(cB k F W f a).length<L->ca L k.b (cB k F W f a)
 | .nil,_,_,_,_,_,_,_,_,_,_,_=>by rw [cB];exact ca.nil
 | .cons kind name e low high l bY r,κ,W,f,fT,a,hc,hz,hW,hf,ha,hL=>by
  rw [lr,aD]at hc;obtain⟨hc1,uP⟩:=hc;rw [Ia]at hL⊢;rw [cy]at hL;simp only [SF.size]at hz;refine ca.app ?_ (pR k part hb jF pK hv r κ W f fT _ uP ad hW hf ad ad);unfold oS at hc1;rw [aD,aD,aD,aD,di,fz,di]at hc1;obtain⟨⟨hkd,hlen⟩,-,hnm,hcd,hblk⟩:=hc1;simp only [iX,fz,gZ]at hkd;simp only [beq_iff_eq]at hlen;obtain⟨zE,Ym⟩:=NW hcd ad;have hE:∀(j:Nat) (u:Int),0<=u->u<=4->ca L k.b (cE k W e j u):=λj u a0 a4=>DF k W κ hb hW hv e j u zE a0 (by have:=N6 e j;omega);have hx:=Cq hv name;have hw:=hW name;have F:∀i:Int,0<=i->i<16->0<=fr k.b i/\fr k.b i<k.b+49:=λi h0 h1=>CI hb h0 h1;have F0:=F 0 ad ad;have F1:=F 1 ad ad;have F2:=F 2 ad ad;have YP:∀i:Int,0<=i->i<15->ca L k.b (jP k i):=λi h0 h1=>ca.cons (yV (F (i+1) ad ad) (F i h0 ad) ad) (ca.cons (ij ad (F i h0 ad) (F i h0 ad) (F (i+1) ad ad)) ca.nil)
  by_cases k2:kind=2
  .subst k2
   simp only [if_true]at hblk;rw [aD]at hblk;unfold cS at hL⊢;simp only [if_true]at hL⊢
   cases hn:bY.isNil
   .simp only [hn,cIf,Bool.false_eq_true,if_false,cy,dT,fB]at hL⊢
    refine ca.app (ca.app (ca.app (ca.app (hE 0 0 ad ad) (ca.cons (R8 ad ad F0) ca.nil)) (pR k part hb jF pK hv l κ W f false _ hblk.1 ad hW hf ad ad)) (ca.cons (acE ad) ca.nil)) (pR k part hb jF pK hv bY κ W f false _ hblk.2 ad hW hf ad ad)
   .simp only [hn,Ke,if_true,cy,dT,fB]at hL⊢
    refine ca.app (ca.app (hE 0 0 ad ad) (ca.cons (R8 ad ad F0) ca.nil)) (pR k part hb jF pK hv l κ W f false _ hblk.1 ad hW hf ad ad)
  by_cases k3:kind=3
  .subst k3
   simp only [show¬(3:Int)=2 by omega,if_false,if_true]at hblk;unfold cS at hL⊢;simp only [show¬(3:Int)=2 by omega,if_false,if_true]at hL⊢;unfold named at hnm;simp only [show¬((3:Int)=0∨(3:Int)=1∨(3:Int)=5)by omega,if_false,if_true]at hnm;unfold loop at hnm;simp only [aD,di,fz,gZ,word]at hnm;obtain⟨-,-,⟨⟨hlo,hhi⟩,aqH⟩,hf8⟩:=hnm
   split
   .exact ca.nil
   .rename_i hlh
    rw [af hlh]at hL;simp only [Fa,cy,dT,fB]at hL⊢;have hu:0<=Qm k f/\Qm k f+1<k.b+33:=by unfold Qm;omega
    refine ca.app (ca.app (ca.cons (sw ad Ej) (ca.cons (sw ad Ej) (ca.cons (sw ad Ej) ca.nil))) (pR k part hb jF pK hv l _ _ (f+1) false _ hblk ad (hW.oK name ad ad) ad ad ad)) (ca.cons (ij ad ad ad ad) (ca.cons (ij ad ad ad ad) (ca.cons (R8 ad ad ad) ca.nil)))
  .unfold cS at hL⊢
   rw [af k2,af k3]at hL⊢;unfold qX at hL⊢
   split
   .exact ca.app (hE 0 0 ad ad) (ca.cons (Jc F0 hx.2.2.1 hx.2.2.2.1 hx.2.2.2.2) (ca.cons (BH ad F0) ca.nil))
   split
   .rename_i q0 q1
    rw [af q0,av q1]at hL;simp only [cy,dT,fB]at hL;exact ca.app (ca.app (hE 0 0 ad ad) (hE 1 1 ad ad)) (ca.cons (yV F2 F0 ad) (ca.cons (R8 ad ad F2) (ca.cons (Jc F1 hx.2.2.1 hx.2.2.2.1 hx.2.2.2.2) (ca.cons (ij ad ad F0 F1) ca.nil))))
   split
   .exact ca.cons (BG ad) ca.nil
   split
   .rename_i q5
    unfold named at hnm;rw [av ad]at hnm;unfold target at hnm;rw [aD,aD,av q5,di]at hnm;obtain⟨-,-,hlw⟩:=hnm;have arl:2<=low/\low<=1000:=by simpa [iX]using di.1 hlw
    exact ca.cons (sw ad Ej) (ca.cons (sw ad Ej) ca.nil)
   split
   .exact ca.app (hE 0 0 ad ad) (ca.cons (BH ad F0) (ca.cons (BG ad) ca.nil))
   split
   .exact ca.cons (sw ad Ej) (ca.cons (BG ad) ca.nil)
   split
   .exact ca.app (ca.app (ca.app (hE 1 0 ad ad) (hE 0 1 ad ad)) (YP 1 ad ad)) (ca.cons (Jc F0 Ej Ej ad) (ca.cons (ij ad F2 ad F1) (ca.cons (ij ad F0 F0 F2) (ca.cons (Jc F0 Ej Ej ad) (ca.cons (ij ad ad F1 F0) ca.nil)))))
   .exact ca.app (ca.app (hE 0 0 ad ad) (YP 0 ad ad)) (ca.cons (BH ad F0) ca.nil)
end
theorem aht (p) (part) (hk:Bd p):WdR (cells p.vars) (ka p (cells p.vars) part):=by
 have h:=Kf p.vars;have h0:=eS p.vars;have hn:=hk.np;intro s;unfold ka
 split
 .have:=I5 p.params (fL p.vars) (cells p.vars) (cells p.vars+4) (λt=>by have:=h t;omega) h0 ad s
  omega
 .split
  .unfold gY
   split
   .omega
   .have:=h s;omega
  .have:=h s;omega
theorem Ko {p} (hk:Bd p) (i:Nat) (hi:i<5):okC (aR p i) (bI p):=by
 have h0:=eS p.vars;have h1:=hk.cells;have hs:=hk.aP;have hm:(bI p:Int)=cells p.vars+49:=by unfold bI;omega
 have hlen:((aR p i).length:Int)=(Ct p i).length+1:=by unfold aR;simp
 intro x hx;rw [hm];have hB:ca (aR p i).length (cells p.vars) (Ct p i):=pR ⟨p.vars,p.aP,cells p.vars⟩ i h0 (by show cells p.vars<=100;omega) (by show 0<=p.aP/\p.aP<=8;omega) (ow p.vars [] hk.vars) (partOf p i) (o5 p i) (ka p (cells p.vars) i) 0 true 0 (hk.part i hi) (by have:=hk.psz i hi;omega) (aht p i hk) ad (Int.le_refl _) (by rw [hlen];unfold Ct;omega);unfold aR at hx
 rcases mK.1 hx with q|q
 .exact hB x q
 .simp at q
  subst q;exact BG ad
theorem I6 (κ:Kn):∀(l pre:List Vr),dH κ pre l=none->(∀v∈l,κ v.name=0/\(∀u∈pre,¬u.name=v.name)/\ax v.low/\ax v.high/\v.low<=v.high)/\(l.map Vr.name).Nodup
 |[],_,_=>⟨λv hv=>by simp at hv,by simp⟩
 |v::r,pre,h=>by
  rw [dH]at h;simp only [aD,di,fz,Bool.not_eq_true',beq_iff_eq,span,word,gZ]at h;obtain⟨-,⟨h1,h2⟩,-,h3,h4⟩:=h;obtain⟨i1,i2⟩:=I6 κ r (pre++[v]) h4;refine⟨λu hu=>?_,?_⟩
  .rcases List.mem_cons.1 hu with q|q
   .subst q
    refine⟨h1,λx hx e=>?_,by unfold ax;omega,by unfold ax;omega,by omega⟩;rw [List.any_eq_false]at h2;exact h2 x hx (cO e)
   .obtain⟨a1,a2,a3⟩:=i1 u q
    exact⟨a1,λx hx=>a2 x (List.mem_append_left _ hx),a3⟩
  .rw [nC,List.nodup_cons]
   refine⟨λhm=>?_,i2⟩;obtain⟨u,hu,e⟩:=List.mem_map.1 hm;exact(i1 u hu).2.1 v (List.mem_append_right _ aC) e.symm
inductive BS (p:Pr) (w':World):Ending->Prop
 |no (h:¬(Ky p=true/\check p=none/\¬nR p/\∀i,i<5->br p i<=65536)):BS p w' (.returned (.tuple #[.pointer none,.bool false]))
 |ok (hf:Ky p=true) (h:check p=none) (hl:¬nR p) (hs:∀i,i<5->br p i<=65536) (cb:Nat) (k:Cd) (hc:gj w' w'.heap.size cb k p):BS p w' (.returned (.tuple #[.pointer (some ⟨cb,0,none⟩),.bool true]))
theorem O3 (c) (p) (N) (w) (hN:N<=w.heap.size) (h:lZ w N c p) (hL:ew w) (hz:dE p<=1099511627776):
 Calls prog 42 #[.agg c.cells] w λe w'=>al w w'/\BS p w' e:=by
 refine aaL ?_;intro aK hB;go_enter func42,ntmps42;go_upto_region 1 with(fail);have⟨iq,fx,yh,HZ⟩:=J4' (h.ext aK hN) (ay hN aK.size) (hL.ext aK) hz;generalize hW:w.alloc (.cells c.cells 39)=W at aK hB iq fx yh⊢;have dX:=J aK;have HB:=J hB;clear hW aK hB h hN hL hz;generalize w.heap.size=pb at HB⊢;have i1:=bH HB.o;have i2:=bG HB.o;have i3:=HB.o.lt;go_wp21;refine kU (F9 c p N _ fx.o iq.o) λw1 aB=>?_;have gN:=J aB;clear aB i1 i2 i3;obtain⟨r,hr⟩:=nm' (Ky p);rw [<-hr];have ET:=J hr;clear hr
 cases r
 .go_wp21
  go_ret2
  exact⟨dX.o.trans gN.o,.no (λq=>by have:=q.1;rw [<-ET.o]at this;cases this)⟩
 .have i1:=bH (HB.o.ext gN.o)
  have i2:=bG (HB.o.ext gN.o);have i3:=(HB.o.ext gN.o).lt;go_wp21;refine(Pw c p N _ (ay fx.o gN.o.size) (iq.o.ext gN.o fx.o)).mono ?_;rintro e w2 ⟨bM,c1,rfl,hp1⟩;have fN:=J (gN.o.trans bM);have HP1:=J hp1;have HL2:=J (yh.o.ext fN.o);clear bM hp1 i1 i2 i3;go_wp21;refine(Kp c1 p _ w2 HL2.o.lt (eH _) HP1.o HL2.o HZ.o).mono ?_;rintro e w3 ⟨ea,ho⟩;have gO:=J (fN.o.trans ea);clear ea
  cases ho with
  |bad f hf=>
   go_wp21
   go_ret2
   exact⟨dX.o.trans gO.o,.no (λq=>by rw [hf]at q;cases q.2.1)⟩
  |long hc hl=>
   go_wp21
   go_ret2
   exact⟨dX.o.trans gO.o,.no (λq=>q.2.2.1 hl)⟩
  |steps hc hl hs=>
   go_wp21
   go_ret2
   exact⟨dX.o.trans gO.o,.no (λq=>by obtain⟨i,hi,hs⟩:=hs;have:=q.2.2.2 i hi;omega)⟩
  |ok hc hl hs cb k hk=>
   have⟨HC,HL,HS,HK⟩:=J4' hc hl hs hk;clear hc hl hs hk;go_wp21
   go_ret2
   exact⟨dX.o.trans gO.o,.ok ET.o.symm HC.o HL.o HS.o cb k HK.o⟩
theorem O9 (c) (p) (N:Nat) (w:World) (hN:N<=w.heap.size) (h:lZ w N c p) (mE:Ho c) (hz:dE p<=1099511627776) (hf:Ky p=true) (hc:check p=none) (hl:¬nR p):
 Calls prog 43 #[.agg c.cells] w λe w'=>e=.returned (.bool true)/\al w w':=by
 refine aaL ?_;intro aK hB
 have Wk:us p=false:=by
  cases h:us p
  .rfl
  .exact absurd ((Gw p).1 h) hl
 go_enter func43,ntmps43;go_upto_region 1 with(fail);have⟨iq,fx,BU,HZ,HF,HC,HLB⟩:=J7' (h.ext aK hN) (ay hN aK.size) mE hz hf hc Wk;generalize hW:w.alloc (.cells c.cells 39)=W at aK hB iq fx⊢;have dX:=J aK;have HB:=J hB;clear hW aK hB h hN mE hz hf hc hl Wk;generalize w.heap.size=pb at HB⊢;have i1:=bH HB.o;have i2:=bG HB.o;have i3:=HB.o.lt;go_wp21;refine kU (F9 c p N _ fx.o iq.o) λw1 aB=>?_;rw [HF.o];have gN:=J aB;clear aB i1 i2 i3;have i1:=bH (HB.o.ext gN.o);have i2:=bG (HB.o.ext gN.o);have i3:=(HB.o.ext gN.o).lt;go_wp21;refine kU (PK c p N _ (ay fx.o gN.o.size) (iq.o.ext gN.o fx.o) BU.o) λw4 eV=>?_;have eK:=J (gN.o.trans eV);clear eV i1 i2 i3;rw [HC.o,show gf none=#[.int .i64 0,.string ⟨#[]⟩]from rfl];have i1:=bH (HB.o.ext eK.o);have i2:=bG (HB.o.ext eK.o);have i3:=(HB.o.ext eK.o).lt;go_wp21;refine kU (UQ c p N _ (ay fx.o eK.o.size) (iq.o.ext eK.o fx.o) HZ.o) λw5 iY=>?_;rw [HLB.o];have k_:=J (eK.o.trans iY);clear iY i1 i2 i3;go_wp21;go_ret;exact⟨rfl,dX.o.trans k_.o⟩
def gg (p:Pr) (part:Nat) (V:List Int):List Int:=if part=0 then []else(List.range (WA p)).map (λi=>V.getD i 0)
def iW (v:Vr) (n:Int):Int:=v.low+(n%18446744073709551616)%(v.high - v.low+1)
def argN (p:Pr) (part:Nat) (A:List Int) (i:Nat):Int:=if part=2 then iW ((p.params[i]?).getD ⟨E0,0,0,0⟩) (A.getD i 0)else A.getD i 0
def fW (p:Pr) (part:Nat) (A:List Int):List Int:=(List.range (fX p part)).map (argN p part A)
theorem va {f:Nat->Int} (j:Nat):(List.range (j+1)).map f=(List.range j).map f++[f j]:=by rw [List.range_succ,vQ];rfl
theorem Zb (c:Pc) (p:Pr) (part:Nat) (hp:part<5) (vs ag:iu) (V A:List Int) (N:Nat) (w:World) (hN:N<=w.heap.size) (h:lZ w N c p) (hv:mR w N vs V) (ha:mR w N ag A) (hk:Bd p):
 Calls prog 45 #[.agg c.cells,.int .i64 part,vs.v,ag.v] w λe w'=>∃sv sa:iu,e=.returned (.tuple #[sv.v,sa.v])/\w'.ownsRow w.heap.size 21 1 sv.v sv.n (bJ (gg p part V))/\w'.ownsRow w.heap.size 21 1 sa.v sa.n (bJ (fW p part A))/\al w w':=by
 obtain⟨vA,vn,vc⟩:=vs;obtain⟨aA,an,ac⟩:=ag;change Calls prog _ #[.agg c.cells,.int .i64 part,.slice vA vn vc,.slice aA an ac] w _;obtain⟨kc,Fk⟩:=nm' (WA p);have akl:cells p.vars=(kc:Int):=by have:=eS p.vars;rw [Fk];unfold WA;omega
 have RC:kc<=64:=by have:=hk.cells;omega
 have⟨zj,aof,aoe,HK,M6⟩:=J5' akl Fk RC hk hp;clear Fk akl RC;obtain⟨nv,hnv⟩:=nm' (if part=0 then 0 else kc);have⟨Nw,aiF,HFV⟩:=J3' hnv (show nv<=kc by rw [hnv];split<;>omega) (show gg p part V=(List.range nv).map (λi=>V.getD i 0)by unfold gg;rw [hnv,aof.o];split<;>rfl);clear hnv;refine aaL ?_;intro aK hB;go_enter func45,ntmps45;go_upto_region 1 with(fail);have⟨iq,fx,HV,HA⟩:=J4' (h.ext aK hN) (ay hN aK.size) (hv.ext aK) (ha.ext aK);generalize hW:w.alloc (.cells c.cells 39)=W at aK hB iq fx HV HA⊢;have dX:=J aK;have HB:=J hB;clear hW aK hB h hN hv ha hk hp;generalize w.heap.size=pb at HB⊢;obtain⟨hvn,uS,vb,vo,hvA,hvE⟩:=HV.o;obtain⟨han,hao,ab,ao,haA,haE⟩:=HA.o;simp only at hvn hvA hvE han haA haE;have⟨HVN,HVA,HVE,VN,HAA,HAE⟩:=J6' hvn hvA hvE han haA haE;clear hvn uS hvA hvE han hao haA haE;go_upto_region 3 with(fail)
 go_loopw [10,12] (λt10 t12 wr=>∃(j:Nat) (s:iu),j<=nv/\t12=.int .i64 j/\t10=s.v/\wr.ownsRow W.heap.size 21 1 s.v s.n (bJ ((List.range j).map (λi=>V.getD i 0)))/\al W wr) (λ_ t12 _=>nv - (intOf t12).toNat)
 case atStart=>exact⟨0,⟨none,0,0⟩,de _,rfl,rfl,⟨by simp [bJ],.inl ⟨rfl,rfl⟩⟩,kR _ _⟩
 case round=>
  obtain⟨j,s,hj,rfl,rfl,ho,hk⟩:=hrel;have⟨HOJ,vM,HSN,HNJ⟩:=J4' ho hk (show s.n=j by have h:=ho.1;rw [fZ]at h;simp at h;omega) hj;clear ho hk;have i1:=bH (HB.o.ext vM.o);have i2:=bG (HB.o.ext vM.o);have i3:=(HB.o.ext vM.o).lt;go_wp2_with fail;refine kU (PJ c p N _ (ay fx.o vM.o.size) (iq.o.ext vM.o fx.o)) λwc hyc=>?_;have HYC:=J hyc;clear i1 i2 i3 hyc;rw [zj.o];have RC:=aoe.o;have akD:=aiF.o
  by_cases aX:j<nv
  .have ur:(j:Int)<kc:=by omega
   have p0:((part:Int) !=0)=true:=bne_iff_ne.2 (λe=>by have h:=Nw.o;rw [av ad]at h;omega)
   by_cases wV:j<vn
   .have Ys:(j:Int)<vn:=by omega
    have ft:j<V.length:=by have:=HVN.o;omega
    have Im:=HVA.o ad;have hr:=(HVE.o ad).2.ext (vM.o.trans HYC.o);have hc:=Row.mem hr j ft;have jd:=hr.lt;have HXV:=J (show V.getD j 0=V[j]by simp [ft]);generalize V[j]=x at hc HXV;clear hr;subst Im;go_upto_region 7 with(fail);go_upto_region 8 with(fail);have y1:=dz wc (.cells #[.int .i32 x] 21);have oD:Row (wc.alloc (.cells #[.int .i32 x] 21)) wc.heap.size 0 (bJ [x]):=Row.cR (bN wc 21 #[.int .i32 x]);obtain⟨v',wa,RL,Fo,RB⟩:=J' _ W.heap.size s.v s.n _ (aQ (aQ HOJ.o HYC.o) y1) wc.heap.size 0 1 1 [x] rfl oD (by have:=HSN.o;omega) (ay vM.o.size (ay HYC.o.size y1.size));exact anh
   .have Ys:¬(j:Int)<vn:=by omega
    have HXV:=J (show V.getD j 0=0 by have:=HVN.o;simp [show V.length<=j by omega]);go_upto_region 8 with(fail);have y1:=dz wc (.cells #[.int .i32 0] 21);have oD:Row (wc.alloc (.cells #[.int .i32 0] 21)) wc.heap.size 0 (bJ [0]):=Row.cR (bN wc 21 #[.int .i32 0]);obtain⟨v',wa,RL,Fo,RB⟩:=J' _ W.heap.size s.v s.n _ (aQ (aQ HOJ.o HYC.o) y1) wc.heap.size 0 1 1 [0] rfl oD (by have:=HSN.o;omega) (ay vM.o.size (ay HYC.o.size y1.size));exact anh
  .obtain rfl:j=nv:=by omega
   have Hy:=J (show wc.ownsRow w.heap.size 21 1 s.v s.n (bJ (gg p part V))from by rw [HFV.o];exact ii (aQ HOJ.o HYC.o) dX.o.size);have HYW:=J (vM.o.trans HYC.o);clear aX
   have ajQ:((j:Int)<kc/\((part:Int) !=0)=false/\((part:Int)==2)=false/\((part:Int)==3)=false/\part=0)∨(¬(j:Int)<kc/\((part:Int) !=0)=false/\((part:Int)==2)=false/\((part:Int)==3)=false/\part=0)∨
    (¬(j:Int)<kc/\((part:Int)==2)=false/\((part:Int)==3)=false/\¬part=2/\¬part=3)∨(¬(j:Int)<kc/\((part:Int)==2)=false/\((part:Int)==3)=true/\part=3)∨(¬(j:Int)<kc/\((part:Int)==2)=true/\part=2):=by
    have h:=Nw.o
    by_cases p0:part=0
    .rw [av p0]at h
     by_cases q:(j:Int)<kc
     .exact Or.inl ⟨q,by simp [p0],by simp [p0],by simp [p0],p0⟩
     .exact Or.inr (Or.inl ⟨q,by simp [p0],by simp [p0],by simp [p0],p0⟩)
    .rw [af p0]at h
     have q:¬(j:Int)<kc:=by omega
     by_cases p2:part=2
     .exact Or.inr (Or.inr (Or.inr (Or.inr ⟨q,by simp [p2],p2⟩)))
     .by_cases p3:part=3
      .exact Or.inr (Or.inr (Or.inr (Or.inl ⟨q,by simp [p3],by simp [p3],p3⟩)))
      .exact Or.inr (Or.inr (Or.inl ⟨q,by simp;omega,by simp;omega,p2,p3⟩))
   clear RC akD
   rcases ajQ with⟨g1,g2,g3,g4,Ng⟩|⟨g1,g2,g3,g4,Ng⟩|⟨g1,g3,g4,kM,hn3⟩|⟨g1,g3,g4,hp3⟩|⟨g1,g3,Wp⟩
   .have HGV:=J (show fX p part=0 by unfold fX;rw [af ad,af ad])
    exact amZ
   .have HGV:=J (show fX p part=0 by unfold fX;rw [af ad,af ad])
    exact amZ
   .have HGV:=J (show fX p part=0 by unfold fX;rw [af ad,af ad])
    clear kM hn3;exact afa
   .have HGV:=J (show fX p part=1 by unfold fX;rw [af ad,av ad])
    have HAG:=J (show∀i,argN p part A i=A.getD i 0 from λi=>by unfold argN;rw [af ad]);clear hp3;go_wp2_with fail
    go_loopw [11,15] (λt11 t15 wx=>∃(i:Nat) (q:iu),i<=1/\t15=.int .i64 i/\t11=q.v/\wx.ownsRow wc.heap.size 21 1 q.v q.n (bJ ((List.range i).map (argN p part A)))/\al wc wx) (λ_ t15 _=>1 - (intOf t15).toNat)
    case atStart=>exact⟨0,⟨none,0,0⟩,de _,rfl,rfl,⟨by simp [bJ],.inl ⟨rfl,rfl⟩⟩,kR _ _⟩
    case round=>
     obtain⟨i,q,hi,rfl,rfl,ho,hk⟩:=hrel;have⟨Nx,qV,HQN⟩:=J3' ho hk (show q.n=i by have h:=ho.1;rw [fZ]at h;simp at h;omega);clear ho hk
     by_cases Ot:i<1
     .have akq:(i:Int)<1:=by omega
      by_cases wV:i<an
      .have Ys:(i:Int)<an:=by omega
       have ft:i<A.length:=by have:=VN.o;omega
       have Im:=HAA.o ad;have hr:=(HAE.o ad).2.ext (HYW.o.trans qV.o);have hc:=Row.mem hr i ft;have jd:=hr.lt;have VW:=J (show A.getD i 0=A[i]by simp [ft]);generalize A[i]=x at hc VW;clear hr;subst Im;have HXV:=J ((HAG.o i).trans VW.o);go_upto_region 23 with(fail);have y1:=dz wr (.cells #[.int .i32 x] 21);have oD:Row (wr.alloc (.cells #[.int .i32 x] 21)) wr.heap.size 0 (bJ [x]):=Row.cR (bN wr 21 #[.int .i32 x]);obtain⟨v',wa,RL,Fo,RB⟩:=J' _ wc.heap.size q.v q.n _ (aQ Nx.o y1) wr.heap.size 0 1 1 [x] rfl oD aaj (ay qV.o.size y1.size);exact ank
      .have Ys:¬(i:Int)<an:=by omega
       have VW:=J (show A.getD i 0=0 by have:=VN.o;simp [show A.length<=i by omega]);have HXV:=J ((HAG.o i).trans VW.o);go_upto_region 23 with(fail);have y1:=dz wr (.cells #[.int .i32 0] 21);have oD:Row (wr.alloc (.cells #[.int .i32 0] 21)) wr.heap.size 0 (bJ [0]):=Row.cR (bN wr 21 #[.int .i32 0]);obtain⟨v',wa,RL,Fo,RB⟩:=J' _ wc.heap.size q.v q.n _ (aQ Nx.o y1) wr.heap.size 0 1 1 [0] rfl oD aaj (ay qV.o.size y1.size);exact ank
     .obtain rfl:i=1:=by omega
      exact ain
   .have HGV:=J (show fX p part=p.params.length by unfold fX;rw [av ad])
    have HAG:=J (show∀i,argN p part A i=iW ((p.params[i]?).getD ⟨E0,0,0,0⟩) (A.getD i 0)from λi=>by unfold argN;rw [av Wp]);clear Wp;have i1:=bC (HB.o.ext HYW.o);have i2:=(HB.o.ext HYW.o).lt;go_wp2_with fail;clear i1 i2
    go_loopw [11,15] (λt11 t15 wx=>∃(i:Nat) (q:iu),i<=c.params.n/\t15=.int .i64 i/\t11=q.v/\wx.ownsRow wc.heap.size 21 1 q.v q.n (bJ ((List.range i).map (argN p part A)))/\al wc wx) (λ_ t15 _=>c.params.n - (intOf t15).toNat)
    case atStart=>exact⟨0,⟨none,0,0⟩,de _,rfl,rfl,⟨by simp [bJ],.inl ⟨rfl,rfl⟩⟩,kR _ _⟩
    case round=>
     obtain⟨i,q,hi,rfl,rfl,ho,hk⟩:=hrel;have⟨Nx,qV,HQN⟩:=J3' ho hk (show q.n=i by have h:=ho.1;rw [fZ]at h;simp at h;omega);clear ho hk;have FL:=J iq.o.params.1;have aro:c.params.n<=4:=by have:=FL.o;have:=HK.o.np;omega
     by_cases Ot:i<c.params.n
     .have akq:(i:Int)<c.params.n:=by omega
      have wU:i<p.params.length:=by have:=FL.o;omega
      obtain⟨-,-,-,qb,qo,hpA,hpE⟩:=iq.o.params;have hA:=hpA ad;have aG:=(hpE ad).2.ext (HYW.o.trans qV.o);obtain⟨hh,hg⟩:=oL aG i wU;have HVI:=J (show(p.params[i]?).getD ⟨E0,0,0,0⟩=p.params[i]by simp [wU]);have HVR:=J ((I6 (fK p.vars) p.params [] HK.o.ahi).1 p.params[i] (cK wU));generalize p.params[i]=v at hg HVI HVR;have⟨HLO,HHI,HQL,HA6⟩:=J4' (show wr.cell? ⟨qb,qo+i*4+2,none⟩=some (.int .i64 v.low)from lq hh hg 2 ad) (show wr.cell? ⟨qb,qo+i*4+3,none⟩=some (.int .i64 v.high)from lq hh hg 3 ad) aG.lt (show wr.cell? ⟨pb,6,none⟩=some (.slice (some ⟨qb,qo,none⟩) c.params.n c.params.c)from by rw [<-hA];exact bC (HB.o.ext (HYW.o.trans qV.o)) 6);clear hpA hpE hA aG hh hg
      by_cases wV:i<an
      .have Ys:(i:Int)<an:=by omega
       have ft:i<A.length:=by have:=VN.o;omega
       have Im:=HAA.o ad;have hr:=(HAE.o ad).2.ext (HYW.o.trans qV.o);have hc:=Row.mem hr i ft;have jd:=hr.lt;have VW:=J (show A.getD i 0=A[i]by simp [ft]);generalize A[i]=x at hc VW;clear hr;subst Im;have HXV:=J ((HAG.o i).trans (show iW ((p.params[i]?).getD ⟨E0,0,0,0⟩) (A.getD i 0)=iW v x by rw [VW.o,HVI.o]));have d1:=HA6.o;have d2:=HLO.o;have d3:=HHI.o;have d4:=HQL.o;have d5:=(HB.o.ext (HYW.o.trans qV.o)).lt;go_upto_region 21 with(fail)
       go_quiet (fail)
       clear d1 d2 d3 d4 d5;have HOQ:=J (aQ Nx.o (show al wr (wr.drewN nq)from(kR _ wr).drewN nq));have M3:=J (Kept.drewN qV.o nq);generalize (wr.drewN nq)=wq at HOQ M3⊢;have hvr:=HVR.o.2.2;unfold ax at hvr;have hd1:wrap64 (v.high - v.low)=v.high - v.low:=by unfold wrap64;omega
       have hd2:wrap64 (v.high - v.low+1)=v.high - v.low+1:=by unfold wrap64;omega
       have hd3:IntKind.u64.wrap (v.high - v.low+1)=v.high - v.low+1:=by rw [xF];omega
       have gM:¬(v.high - v.low+1=0):=by omega
       have hval:wrap32 (wrap64 (v.low+wrap64 ((IntKind.u64.wrap x).tmod (v.high - v.low+1))))=iW v x:=by
        rw [xF,Int.tmod_eq_emod_of_nonneg ad];unfold iW;have h1:=Int.emod_nonneg (x%18446744073709551616) gM;have h2:=Int.emod_lt_of_pos (x%18446744073709551616) (show 0<v.high - v.low+1 by omega);generalize x%18446744073709551616%(v.high - v.low+1)=y at h1 h2;unfold wrap32 wrap64
        omega
       clear hvr;go_upto_region 23 with(fail);rw [hval];clear hd1 hd2 hd3 gM hval;have y1:=dz wq (.cells #[.int .i32 (iW v x)] 21);have oD:Row (wq.alloc (.cells #[.int .i32 (iW v x)] 21)) wq.heap.size 0 (bJ [(iW v x)]):=Row.cR (bN wq 21 #[.int .i32 (iW v x)]);obtain⟨v',wa,RL,Fo,RB⟩:=J' _ wc.heap.size q.v q.n _ (aQ HOQ.o y1) wq.heap.size 0 1 1 [(iW v x)] rfl oD aaj (ay M3.o.size y1.size);exact anj
      .have Ys:¬(i:Int)<an:=by omega
       have VW:=J (show A.getD i 0=0 by have:=VN.o;simp [show A.length<=i by omega]);have HXV:=J ((HAG.o i).trans (show iW ((p.params[i]?).getD ⟨E0,0,0,0⟩) (A.getD i 0)=v.low by rw [VW.o,HVI.o];unfold iW;simp));have d1:=HA6.o;have d2:=HLO.o;have d3:=HHI.o;have d4:=HQL.o;have d5:=(HB.o.ext (HYW.o.trans qV.o)).lt;go_upto_region 21 with(fail)
       go_quiet (fail)
       clear d1 d2 d3 d4 d5;have HOQ:=J (aQ Nx.o (show al wr (wr.drewN nq)from(kR _ wr).drewN nq));have M3:=J (Kept.drewN qV.o nq);generalize (wr.drewN nq)=wq at HOQ M3⊢;have hvr:=HVR.o.2.2;unfold ax at hvr;have hd1:wrap64 (v.high - v.low)=v.high - v.low:=by unfold wrap64;omega
       have hd2:wrap64 (v.high - v.low+1)=v.high - v.low+1:=by unfold wrap64;omega
       have hd3:IntKind.u64.wrap (v.high - v.low+1)=v.high - v.low+1:=by rw [xF];omega
       have gM:¬(v.high - v.low+1=0):=by omega
       have Bt:wrap64 v.low=v.low:=by unfold wrap64;omega
       have Iw:wrap32 v.low=v.low:=by unfold wrap32;omega
       clear hvr;go_upto_region 23 with(fail);rw [Iw];clear hd1 hd2 hd3 gM Bt Iw;have y1:=dz wq (.cells #[.int .i32 v.low] 21);have oD:Row (wq.alloc (.cells #[.int .i32 v.low] 21)) wq.heap.size 0 (bJ [v.low]):=Row.cR (bN wq 21 #[.int .i32 v.low]);obtain⟨v',wa,RL,Fo,RB⟩:=J' _ wc.heap.size q.v q.n _ (aQ HOQ.o y1) wq.heap.size 0 1 1 [v.low] rfl oD aaj (ay M3.o.size y1.size);exact anj
     .obtain rfl:i=c.params.n:=by omega
      have HGV:=J (show fX p part=c.params.n by rw [HGV.o,FL.o]);exact ain
theorem Gc {v} (h1:ax v.low) (h2:ax v.high) (h3:v.low<=v.high) (n:Int):v.low<=iW v n/\iW v n<=v.high/\ax (iW v n):=by
 unfold iW;have a:=Int.emod_nonneg (n%18446744073709551616) (show v.high - v.low+1≠0 by omega);have b:=Int.emod_lt_of_pos (n%18446744073709551616) (show 0<v.high - v.low+1 by omega);generalize n%18446744073709551616%(v.high - v.low+1)=y at a b;unfold ax at*
 omega
theorem Il {p} {i} {V} (h:∀x∈V,ax x):∀x∈gg p i V,ax x:=λx hx=>by
 unfold gg at hx
 split at hx
 .simp at hx
 .obtain⟨j,-,e⟩:=List.mem_map.1 hx
  rw [<-e];exact Rp h j
theorem Ik {p} (hk:Bd p) {i:Nat} {A:List Int} (h:∀x∈A,ax x):∀x∈fW p i A,ax x:=λx hx=>by
 unfold fW at hx;obtain⟨j,hj,e⟩:=List.mem_map.1 hx;rw [List.mem_range]at hj;rw [<-e];unfold argN
 split
 .rename_i e2
  have Yu:j<p.params.length:=by unfold fX at hj;rw [av ad]at hj;exact hj
  obtain⟨-,-,a1,a2,a3⟩:=(I6 (fK p.vars) p.params [] hk.ahi).1 p.params[j] (cK Yu);rw [show(p.params[j]?).getD ⟨E0,0,0,0⟩=p.params[j]by simp [Yu]];exact(Gc a1 a2 a3 _).2.2
 .exact Rp h j
theorem wO {p} (hk:Bd p) {i:Nat} (hi:i<5) (V A:List Int):gx p i (gg p i V) (fW p i A)=0:=by
 have h0:=eS p.vars;have Fk:(WA p:Int)=cells p.vars:=by unfold WA;omega
 have h1:((gg p i V).length:Int)=jS p i:=by
  unfold gg jS
  by_cases e:i=0
  .rw [av e,av ad];rfl
  .rw [af e,af ad,fm,List.length_range];exact Fk
 have h2:(fW p i A).length=fX p i:=by unfold fW;rw [fm,List.length_range]
 unfold gx;rw [af ad,af (by rw [h1,h2];simp)]
 by_cases e:i=2
 .subst e
  have hb:E8 p.params (fW p 2 A)=false:=Cl (λj a b=>by
   obtain⟨-,-,a1,a2,a3⟩:=(I6 (fK p.vars) p.params [] hk.ahi).1 p.params[j] (cK a)
   have e:(fW p 2 A)[j]=iW p.params[j] (A.getD j 0):=by
    simp only [fW,List.getElem_map,List.getElem_range,argN,if_true];rw [show(p.params[j]?).getD ⟨E0,0,0,0⟩=p.params[j]by simp [a]]
   rw [e];have:=Gc a1 a2 a3 (A.getD j 0)
   omega)
  rw [hb,af aC]
 .rw [af ad]
end
namespace Mc
open Sq
variable{dst:Option Tmp}{pos:String}{after:Array Edge}{guard:Option (Nat×Bool)}{B0 ob fb sb lb ib zb dd:Nat}{sv sa:iu}{m1 m0:List Int}{aS:Int}{w0:World}
theorem Ch:gB prog 42=true:=by kernel_rfl
theorem xw:dw prog 42=some 14:=by kernel_rfl
theorem Hb {eY} {x} {a} {w} {K} {Q} (hx:eG (a.eval x)=true) (hh:has w (aL (a.eval x)) (aM (a.eval x)) 14=true):
 Oper.wp prog ⟨dst,.load 42 x,eY,pos,after,guard⟩ a w K Q=K (a.put dst (.agg (gets w (aL (a.eval x)) (aM (a.eval x)) 14))) w:=bB 14 Ch xw hx hh
theorem P_ {ρ} {eY} {x} {w} (hx:eG (ρ x)=true) (hh:has w (aL (ρ x)) (aM (ρ x)) 14=true):
 (execOp ρ ⟨dst,.load 42 x,eY,pos,after,guard⟩).run prog w=.ok (.value (.agg (gets w (aL (ρ x)) (aM (ρ x)) 14))) w:=aH 14 Ch xw hx hh
theorem O5 (w) (g off) (hh:has w g off 14=true):(loadVar 42 ⟨g,off,none⟩).run prog w=.ok (.agg (gets w g off 14)) w:=cN prog w _ g off 14 Ch xw hh
attribute [go_sem] Ch xw
attribute [go_sem↓high] Hb O5 P_
attribute [go_sem high] Hb
abbrev BB (c:Pc) (part:Int) (vs ag:iu):Array Value:=#[.string c.name,.int .i64 c.aP,c.cd.v,c.vars.v,c.start.v,c.turn.v,c.params.v,c.ci.v,.string c.silent,c.quiet.v,c.bP.v,.int .i64 part,vs.v,ag.v]
abbrev wy:Array Value:=#[.pointer none,.int .i64 0,.slice none 0 0,.slice none 0 0,.int .i64 0,.slice none 0 0,.int .i64 0,.int .i64 0,.slice none 0 0,.int .i64 0,.slice none 0 0,.int .i64 0,.slice none 0 0]
abbrev FY (cb j:Nat):Array Value:=#[.pointer (some ⟨cb,0,none⟩),.int .i64 j,.slice none 0 0,.slice none 0 0,.int .i64 0,.slice none 0 0,.int .i64 0,.int .i64 0,.slice none 0 0,.int .i64 0,.slice none 0 0,.int .i64 0,.slice none 0 0]
abbrev ajg (cb j:Nat) (sv sa:iu):Array Value:=#[.pointer (some ⟨cb,0,none⟩),.int .i64 j,sv.v,sa.v,.int .i64 0,.slice none 0 0,.int .i64 0,.int .i64 0,.slice none 0 0,.int .i64 0,.slice none 0 0,.int .i64 0,.slice none 0 0]
abbrev ajh (cb j:Nat) (sv sa:iu) (fb n:Nat) (lb L lk:Nat):Array Value:=#[.pointer (some ⟨cb,0,none⟩),.int .i64 j,sv.v,sa.v,.int .i64 0,.slice (some ⟨fb,0,none⟩) n n,.int .i64 0,.int .i64 0,.slice none 0 0,.int .i64 0,.slice none 0 0,.int .i64 0,.slice (some ⟨lb,0,none⟩) L lk]
abbrev aji (cb j:Nat) (sv sa:iu) (fb n:Nat) (lb L lk:Nat) (d:Int):Array Value:=#[.pointer (some ⟨cb,0,none⟩),.int .i64 j,sv.v,sa.v,.int .i64 0,.slice (some ⟨fb,0,none⟩) n n,.int .i64 0,.int .i64 0,.slice none 0 0,.int .i64 0,.slice none 0 0,.int .i64 d,.slice (some ⟨lb,0,none⟩) L lk]
structure B' (w:World) (B0 B1 cb ob fb sb lb:Nat) (k:Cd) (p:Pr) (j:Nat) (V A:List Int) (sv sa:iu):Prop where
 code:gj w B0 cb k p
 res:aj w (ob+1) 50 wy
 ov:w.ownsRow B1 21 1 sv.v sv.n (bJ (gg p j V))
 oa:w.ownsRow B1 21 1 sa.v sa.n (bJ (fW p j A))
 first:aj w fb 21 (bJ (fR p j (gg p j V) (fW p j A))).toArray
 st:aj w sb 47 (ai 0 (some ⟨fb,0,none⟩) (bI p) (bI p) 0)
 row:Row w lb 0 (cM (aR p j))
 ops:OpsAt w
theorem B'.ext {w w'} {B1 cb} {k} {p} {j} {V A} (h:B' w B0 B1 cb ob fb sb lb k p j V A sv sa) (hx:al w w'):B' w' B0 B1 cb ob fb sb lb k p j V A sv sa:=
 ⟨h.code.ext hx,bX h.res hx,aQ h.ov hx,aQ h.oa hx,bX h.first hx,bX h.st hx,h.row.ext hx,h.ops.ext hx⟩
theorem B'.kept {w w'} {B1 cb kb} {k} {p} {j} {V A} {cs} (h:B' w B0 B1 cb ob fb sb lb k p j V A sv sa) (hx:Kept (·=kb) w w') (hb:aj w kb 50 cs) (hB:B0<=kb) (h1:ob+1<kb) (h2:¬fb=kb) (h3:¬sb=kb) (h4:¬lb=kb):B' w' B0 B1 cb ob fb sb lb k p j V A sv sa:=
 ⟨h.code.kept hx (λi hi=>by omega),bK h.res hx ad,dy h.ov hx (λg hg e=>cY (E':=50) h.ov ae g hg cs (0,0) (by rw [e];exact hb)),
  dy h.oa hx (λg hg e=>cY (E':=50) h.oa ae g hg cs (0,0) (by rw [e];exact hb)),bK h.first hx h2,bK h.st hx h3,h.row.kept hx h4,h.ops.kept hx ad⟩
theorem Tc:∀(i:Nat) (s:Str),¬wy[i]?=some (Value.string s):=λi s h=>by
 have q:=Array.mem_of_getElem? h;simp at q
structure yi (p:Pr) (j:Nat) (V A:List Int):Prop where
 few:Ky p=true
 uE:check p=none
 long:¬nR p
 steps:∀i,i<5->br p i<=65536
 most:br p j<=128
 Yg:¬(ky (aR p j) (2^jb (br p j)) (0,0,fR p j (gg p j V) (fW p j A))).2.1=0
inductive vU (p:Pr) (j:Nat) (V A:List Int) (w w':World):Ending->Prop
 |no {P:Option Addr} {i0 i1 i2 i3 i4 i5:Int} {A0 A1 A2 A3 A4 A5:Option Addr} {n0 n1 n2 n3 n4 n5 c0 c1 c2 c3 c4 c5:Nat} (h:¬yi p j V A):vU p j V A w w' (.returned (.tuple #[.agg #[.pointer P,.int .i64 i0,.slice A0 n0 c0,.slice A1 n1 c1,.int .i64 i1,.slice A2 n2 c2,.int .i64 i2,.int .i64 i3,.slice A3 n3 c3,.int .i64 i4,.slice A4 n4 c4,.int .i64 i5,.slice A5 n5 c5],.bool false]))
 |ok (h:yi p j V A) (k:Cd) (x:Ks) (m1:List Int) (hp:x.part=j) (hC:gj w' w'.heap.size x.cb k p)
  (hv:mR w' w'.heap.size x.vs (gg p j V)) (ha:mR w' w'.heap.size x.ag (fW p j A))
  (hk:NA w' x (aR p j) (fR p j (gg p j V) (fW p j A)) m1 (bI p) (2^jb (br p j)) (aR p j).length):
  vU p j V A w w' (.returned (.tuple #[.agg (x.cells (bI p) (2^jb (br p j)) (aR p j).length (jb (br p j))),.bool true]))
abbrev ajj (cb j:Nat) (sv sa:iu) (fb n tb N tk lb L lk:Nat) (d:Int):Array Value:=#[.pointer (some ⟨cb,0,none⟩),.int .i64 j,sv.v,sa.v,.int .i64 0,.slice (some ⟨fb,0,none⟩) n n,.int .i64 0,.int .i64 0,.slice none 0 0,.int .i64 0,.slice (some ⟨tb,0,none⟩) (N+1) tk,.int .i64 d,.slice (some ⟨lb,0,none⟩) L lk]
theorem apS:∀n:Fin 128,Lib.bitLen n.val<=7:=by decide+kernel
theorem akd (n) (h1:1<=n) (h2:n<=128):jb n<=7:=apS ⟨n - 1,by omega⟩
def alo (w0:World) (l:List Ins) (N:Nat) (m0:List Int) (n:Nat) (w:World) (mb gb gk _kk:Nat):Prop:=
 al w0 w/\aj w mb 47 (ai (ky l N (0,0,m0)).1 (some ⟨gb,0,none⟩) n gk (ky l N (0,0,m0)).2.1)/\Row w gb 0 (bJ (ky l N (0,0,m0)).2.2)/\w0.heap.size<=mb/\w0.heap.size<=gb
theorem alB {F M:World->Nat->Nat->Nat->Nat->Prop} {G:Prop} (h:(∀W a b c d,F W a b c d->M W a b c d)->G) (h2:∀W a b c d,F W a b c d->M W a b c d):G:=h h2
theorem xi (c:Pc) (p:Pr) (part:Int) (j:Nat) (Br:j<5) (hj:wrap64 ((IntKind.u64.wrap part).tmod 5)=(j:Int)) (vs ag:iu) (V A:List Int) (N:Nat) (w:World) (hN:N<=w.heap.size) (h:lZ w N c p) (hL:ew w) (hO:OpsAt w) (mE:Ho c) (hz:dE p<=1099511627776) (hv:mR w N vs V) (ha:mR w N ag A):
 Calls prog 13 #[.agg (BB c part vs ag)] w λe w'=>al w w'/\vU p j V A w w' e:=by
 have y0:=(dz w (.cells (BB c part vs ag) 42)).alloc (.cells wy 50);have b0:aj _ w.heap.size 42 (BB c part vs ag):=aj.alloc (bN w _ _) (.cells wy 50);have s0:aj _ (w.heap.size+1) 50 wy:=aj.d_ (w.alloc (.cells (BB c part vs ag) 42)) _ _ _ aC;go_enter func13,ntmps13;go_upto_region 1 with(fail);have⟨iq,fx,yh,Hy,HO0,HV,HA,HZ,BU,HJ⟩:=J10 (h.ext y0 hN) (ay hN y0.size) (hL.ext y0) (hO.ext y0) hO (hv.ext y0) (ha.ext y0) hz mE hj;generalize ((w.alloc (.cells (BB c part vs ag) 42)).alloc (.cells wy 50))=W1 at y0 b0 s0 iq fx yh Hy HV HA⊢;generalize uR:(w:World).heap.size=ob at b0 s0⊢;have⟨vN,vt,HS0,bT⟩:=J4' uR b0 s0 y0;clear b0 s0 y0 uR h hN hL hO mE hz hv ha hj;have i1:=bH vt.o;have i2:=bG vt.o;have i3:=vt.o.lt;go_wp21;refine(O3 c p N _ fx.o iq.o yh.o HZ.o).mono ?_;rintro e w2 ⟨bM,hb⟩;have⟨fN,fg,mP,tP⟩:=J4' bM (bT.o.trans bM) (bX vt.o bM) (bX HS0.o bM);clear bM i1 i2 i3
 cases hb with
 |no AV=>
  have BZ:=J AV;have k1:=bH tP.o;have k2:=aj.aJ tP.o;have k3:=tP.o.lt;clear AV;go_wp21;refine eB (t:=50) (g:=ob+1) (cs:=wy) results13 rfl rfl mc (by exact ko) (by exact aj.cI tP.o 0 _) ⟨?_,.no (λq=>BZ.o ⟨q.few,q.uE,q.long,q.steps⟩)⟩;exact Kept.putAt fg.o _ _ _ (λh=>by have:=vN.o;omega)
 |ok hf hc hl hs cb k hk=>
  have⟨HF,HC,Bi,tQ,HK,lX⟩:=J6' hf hc hl hs hk (Bd.of hc HZ.o);clear hf hc hl hs hk;have i1:=bH mP.o;have i2:=bG mP.o;have i3:=mP.o.lt;go_wp21;refine kU (O9 c p N _ (ay fx.o fN.o.size) (iq.o.ext fN.o fx.o) BU.o HZ.o HF.o HC.o Bi.o) λw3 ea=>?_;have⟨gO,eP,ot,HS3,M2⟩:=J5' (fN.o.trans ea) (fg.o.trans ea) (bX mP.o ea) (bX tP.o ea) ((HK.o.ext ea).up ea.size (eH _));clear ea i1 i2 i3;obtain⟨M,hM⟩:=nm' (br p j);have EA:k.m j=M:=by rw [hM];exact HK.o.most j Br
  have HM:=J hM;have FK:=J EA;have i1:=bC ot.o;have i3:=ot.o.lt;have hjj:=HJ.o;have y4:=dz w3 (.cells (FY cb j) 50);have b4:=bN w3 50 (FY cb j);clear hM EA;go_upto_region 5 with(fail);generalize (w3.alloc (.cells (FY cb j) 50))=w4 at y4 b4⊢;generalize Bs:(w3:World).heap.size=kb at b4⊢;have⟨EP,SE,kB,eK,ug,ry,xZ,HE4,FG⟩:=J9' (show ob+1<kb by have:=HS3.o.lt;omega) Bs (eP.o.trans y4) (gO.o.trans y4) (bX ot.o y4) (bX HS3.o y4) ((M2.o.ext y4).up y4.size (eH _)) y4 b4;clear y4 b4 Bs i1 i3 hjj;have i1:=bC FG.o;have i3:=FG.o.lt;go_wp21;refine uW (sY cb k _ xZ.o.box j Br) ?_;rw [FK.o]
  by_cases hM:M<=128
  .have hMI:¬(128:Int)<M:=by omega
   have JV:=J hM;clear hM;have j1:=bH ug.o;have j2:=bG ug.o;have j3:=ug.o.lt;have j4:=bC ug.o;go_wp21;refine(Zb c p j Br vs ag V A N _ (ay fx.o eK.o.size) (iq.o.ext eK.o fx.o) (HV.o.ext eK.o) (HA.o.ext eK.o) lX.o).mono ?_;rintro e w5 ⟨sv,sa,rfl,hov,Fo,iY⟩;have⟨k_,uz,tN,QS,MZ,HE5⟩:=J6' (eK.o.trans iY) (kB.o.trans iY) (bX ug.o iY) (bX ry.o iY) (bX FG.o iY) (HE4.o.trans iY);have hsz:=FG.o.lt;have⟨HSZ,HOV,QO⟩:=J3' hsz hov Fo;clear iY i1 i3 j1 j2 j3 j4 hMI hov Fo hsz;have i1:=bC MZ.o;have i3:=MZ.o.lt;have i4:=aj.frozen MZ.o;go_upto_region 8 with(fail);have k6:Kept (·=kb) w5 ((w5.setCell ⟨kb,2,none⟩ sv.v).setCell ⟨kb,3,none⟩ sa.v):=((kR (·=kb) w5).setCell _ _ (λ_=>rfl)).setCell _ _ (λ_=>rfl);have b6:aj ((w5.setCell ⟨kb,2,none⟩ sv.v).setCell ⟨kb,3,none⟩ sa.v) kb 50 (ajg cb j sv sa):=aj.fw (aj.fw MZ.o 2 sv.v) 3 sa.v;have y6:al w ((w5.setCell ⟨kb,2,none⟩ sv.v).setCell ⟨kb,3,none⟩ sa.v):=(uz.o.setCell ⟨kb,2,none⟩ sv.v (λ(h:kb<w.heap.size)=>by have:=EP.o;have:=vN.o;omega)).setCell ⟨kb,3,none⟩ sa.v (λ(h:kb<w.heap.size)=>by have:=EP.o;have:=vN.o;omega);generalize ((w5.setCell ⟨kb,2,none⟩ sv.v).setCell ⟨kb,3,none⟩ sa.v)=w6 at k6 b6 y6⊢;have⟨sQ,xX,HS6,aiL,aiG,Ht⟩:=J6' y6 b6 (bK QS.o k6 (by have:=EP.o;omega)) (dy HOV.o k6 (λg hg e=>cY (E':=50) HOV.o ae g hg (FY cb j) (0,0) (by rw [e];exact MZ.o))) (dy QO.o k6 (λg hg e=>cY (E':=50) QO.o ae g hg (FY cb j) (0,0) (by rw [e];exact MZ.o))) ((M2.o.ext HE5.o).kept k6 (λi hi=>by have:=SE.o;omega));have hs6:w3.heap.size<=w6.heap.size:=ay HE5.o.size k6.size;have aoy:=J hs6;clear k6 b6 y6 i1 i3 i4 hs6;have i1:=bC xX.o;have i3:=xX.o.lt;go_wp21;refine(qp cb w6.heap.size k p j sv sa (gg p j V) (fW p j A) w6 (eH _) (Ht.o.up aoy.o (eH _)) (mR.gF aiL.o (Il HV.o.2.1)) (mR.gF aiG.o (Ik lX.o HA.o.2.1)) lX.o).mono ?_;rintro e w7 ⟨Bv,ho⟩;have⟨HE7,Eu,xY,HS7⟩:=J4' Bv (sQ.o.trans Bv) (bX xX.o Bv) (bX HS6.o Bv);clear i1 i3 Bv
   cases ho with
   |bad gM=>exact absurd (wO lX.o Br V A) gM
   |ok _ fb qt hF=>
    have HF7:=J hF;have Be:=J qt;have y8:=dz w7 (.cells (ai 0 (some ⟨fb,0,none⟩) (bI p) (bI p) 0) 47);have b8:=bN w7 47 (ai 0 (some ⟨fb,0,none⟩) (bI p) (bI p) 0);clear hF qt;go_upto_region 11 with(fail);generalize (w7.alloc (.cells (ai 0 (some ⟨fb,0,none⟩) (bI p) (bI p) 0) 47))=w8 at y8 b8⊢;generalize Gn:(w7:World).heap.size=sb at b8⊢;have⟨HE8,HY8,vL,HS8,FI,aiD⟩:=J6' (HE7.o.trans y8) (Eu.o.trans y8) (bX xY.o y8) (bX HS7.o y8) (bX HF7.o y8) b8;have akC:kb<sb:=by have:=xY.o.lt;omega
    have aoq:=J akC;clear y8 b8 Gn akC;refine eW (λwz=>al w8 wz) [(0,1),(1,2),(2,2),(3,1),(5,2),(4,0),(6,0),(7,2),(8,0)] ?_;refine eX ?_;have yd:al w8 w8.drew:=(kR _ w8).drew
    repeat first|refine bV ?_|refine cF yd zb9 ?_|refine cD yd ?_
    refine ap (λK hK=>?_);go_simp;go_wp21;obtain⟨wV,ib0,hiA,hib,KV⟩:=Ht.o.ins j Br
    have hsz:(partOf p j).size<=256:=by
     rcases Nat.lt_or_ge 256 (partOf p j).size with q|q
     .exact absurd ⟨j,Br,q⟩ Bi.o
     .exact q
    have Bt:=F4 hsz;have AQ:1<=(aR p j).length:=by unfold aR;simp
    have Er:=J (df AQ Bt);refine(rL cb k _ (bX Ht.o.box (HE8.o.trans yd)) j Br ib0 0 (aR p j) wV ad ad hiA (KV.ext (HE8.o.trans yd))).mono ?_;rintro e w9 ⟨v,rfl,hol,r_⟩;obtain⟨lb,lk,rfl,adX,akp,_⟩:=fq hol Er.o.1 ae;have y9:=yd.trans r_;have HLR:=J adX;have HLG:=J (show w8.heap.size<=lb from ay yd.size akp);refine hK.out _ _ (λ_=>y9) ?_;clear hK K hol adX akp wV hiA hib KV hsz Bt AQ
    repeat first|refine bV ?_|refine cF y9 zb9 ?_|refine cD y9 ?_
    have HC9:=J (bX vL.o y9);have f1:=bH HC9.o;have f2:=aj.aJ HC9.o;have f3:=HC9.o.lt;have f4:=bC HC9.o;have f5:=aj.frozen HC9.o;have HF9:=J (bX FI.o y9);refine fc ?_
    have hfk:¬fb=kb:=by
     intro e;have q:=HF9.o;rw [e]at q;exact Bn HC9.o ae _ _ q
    have AW:¬sb=kb:=by have:=aoq.o;omega
    have ur:¬lb=kb:=by have:=HLG.o;have:=vL.o.lt;omega
    have Nv:=J (df hfk (df AW ur))
    have aos:=J (show B' w9 w3.heap.size w4.heap.size cb ob fb sb lb k p j V A sv sa from
     ⟨Ht.o.ext (HE8.o.trans y9),bX HS8.o y9,aQ aiL.o (HE8.o.trans y9),aQ aiG.o (HE8.o.trans y9),HF9.o,bX aiD.o y9,HLR.o,HO0.o.ext (HY8.o.trans y9)⟩)
    have xS:Kept (·=kb) w9 ((putAt w9 kb 4 (ai 0 (some ⟨fb,0,none⟩) (bI p) (bI p) 0)).setCell ⟨kb,12,none⟩ (.slice (some ⟨lb,0,none⟩) (aR p j).length lk)):=(Kept.putAt (S:=(·=kb)) (kR _ w9) kb 4 _ (λ_=>rfl)).setCell _ _ (λ_=>rfl);have S6:aj ((putAt w9 kb 4 (ai 0 (some ⟨fb,0,none⟩) (bI p) (bI p) 0)).setCell ⟨kb,12,none⟩ (.slice (some ⟨lb,0,none⟩) (aR p j).length lk)) kb 50 (ajh cb j sv sa fb (bI p) lb (aR p j).length lk):=aj.fw (aj.cI HC9.o 4 (ai 0 (some ⟨fb,0,none⟩) (bI p) (bI p) 0)) 12 (.slice (some ⟨lb,0,none⟩) (aR p j).length lk);have JR:al w ((putAt w9 kb 4 (ai 0 (some ⟨fb,0,none⟩) (bI p) (bI p) 0)).setCell ⟨kb,12,none⟩ (.slice (some ⟨lb,0,none⟩) (aR p j).length lk)):=(Kept.putAt (HY8.o.trans y9) kb 4 _ (λ(h:kb<w.heap.size)=>by have:=EP.o;have:=vN.o;omega)).setCell ⟨kb,12,none⟩ _ (λ(h:kb<w.heap.size)=>by have:=EP.o;have:=vN.o;omega);have Bu:=aos.o.kept xS HC9.o (by have:=SE.o;omega) EP.o Nv.o.1 Nv.o.2.1 Nv.o.2.2;clear f1 f2 f3 f4 f5;generalize ((putAt w9 kb 4 (ai 0 (some ⟨fb,0,none⟩) (bI p) (bI p) 0)).setCell ⟨kb,12,none⟩ (.slice (some ⟨lb,0,none⟩) (aR p j).length lk))=wA at xS S6 JR Bu⊢;have⟨aiK,HYA,WI,fj⟩:=J4' Bu JR S6 (show 1<=M by have:=HM.o;rw [this];unfold br bW;omega);clear Bu JR S6 xS hfk AW ur;have i1:=bC WI.o;have i3:=WI.o.lt;have i4:=aj.frozen WI.o;go_wp21;refine uW (sY cb k _ aiK.o.code.box j Br) ?_;rw [FK.o];go_wp21;refine(ve M fj.o (by have:=JV.o;omega) _).mono ?_;rintro e w' ⟨rfl,rfl⟩;go_upto_region 13 with(fail);obtain⟨D,hD⟩:=nm' (jb M);rw [<-hD];have HD:=J hD;have hD7:D<=7:=by rw [HD.o];exact akd M fj.o JV.o
    have HD7:=J hD7;have Y4:Kept (·=kb) wA (wA.setCell ⟨kb,11,none⟩ (.int .i64 D)):=(kR (·=kb) wA).setCell _ _ (λ_=>rfl);have b11:aj (wA.setCell ⟨kb,11,none⟩ (.int .i64 D)) kb 50 (aji cb j sv sa fb (bI p) lb (aR p j).length lk D):=aj.fw WI.o 11 (.int .i64 D);have WD:al w (wA.setCell ⟨kb,11,none⟩ (.int .i64 D)):=HYA.o.setCell ⟨kb,11,none⟩ _ (λ(h:kb<w.heap.size)=>by have:=EP.o;have:=vN.o;omega);have Bu:=aiK.o.kept Y4 WI.o (by have:=SE.o;omega) EP.o Nv.o.1 Nv.o.2.1 Nv.o.2.2;clear i1 i3 i4 hD hD7;generalize (wA.setCell ⟨kb,11,none⟩ (.int .i64 D))=wB at Y4 b11 WD Bu⊢;have⟨WV,HYB,vu⟩:=J3' Bu WD b11;clear Bu WD b11 Y4;obtain⟨Nn,hNn⟩:=nm' (2^D);have Ru:Nn<=128:=by rw [hNn];exact ay (Nat.pow_le_pow_right ad HD7.o) ae
    have hwN:IntKind.i64.wrap (2^D)=(Nn:Int):=by
     have:(2:Int)^D=(Nn:Int):=by rw [hNn];simp
     rw [this,jH];omega
    have⟨sO,JW,SO,abh,QK⟩:=J5' hNn Ru (Oa (wO lX.o Br V A) lX.o (Il HV.o.2.1) (Ik lX.o HA.o.2.1)) (show∀i∈aR p j,i.ok from λi hi=>agW (size:=(aR p j).length) (words:=bI p) (by have:=Er.o.2;omega) (by have:=lX.o.cells;have:=eS p.vars;unfold bI;omega) (Ko lX.o j Br i hi)) (w_ (wO lX.o Br V A) lX.o);have aqV:(D:Int)<=7:=by have:=HD7.o;omega
    clear hNn Ru
    have ajV:∀w',al wB w'->nx w' (some ⟨lb,0,none⟩) lb 0 (aR p j).length (aR p j) 0 0 fb 0 (bI p) (fR p j (gg p j V) (fW p j A)):=λw' hx=>
     ⟨rfl,WV.o.row.ext hx,rfl,Er.o.1,by have:=Er.o.2;omega,abh.o,QK.o.symm,by have:=SO.o.right;rw [QK.o]at this;exact this,SO.o.Dd,(Row.cR WV.o.first).ext hx,WV.o.ops.ext hx⟩
    have anZ:=J ajV;clear ajV;go_upto_region 13 with(fail);refine eW (λwz=>al wB wz) [(0,2),(1,1),(2,1),(3,2),(4,1),(5,2),(6,0),(7,2),(8,2),(9,2),(10,2),(11,0),(12,2)] ?_;refine eX ?_;have yd:al wB wB.drew:=(kR _ wB).drew
    repeat first|refine bV ?_|refine cF yd (by intro w1 hS;have d0:=bX WV.o.st hS;have d1:=bH d0;have d2:=bG d0;have d3:=d0.lt;have e0:=bX vu.o hS;have e1:=bC e0;have e2:=e0.lt;exact fE) ?_|refine cD yd ?_
    refine ap (λK hK=>?_);go_simp;go_wp21;refine(ZU (some ⟨lb,0,none⟩) lb 0 (aR p j).length lk (aR p j) 0 0 fb 0 (bI p) (bI p) (fR p j (gg p j V) (fW p j A)) Nn (by have:=JW.o;omega) _ (anZ.o _ yd)).mono ?_;rintro e wC ⟨vT,rfl,hoT,hxC⟩;have yC:=yd.trans hxC;obtain⟨tb,tk,rfl,adO,ajI,_⟩:=fq hoT ad ae;have HTR:=J adO;have HTG:=J (show wB.heap.size<=tb from ay yd.size ajI);refine hK.out _ _ (λ_=>yC) ?_;clear hK K hoT adO ajI;have EM:=J (bX vu.o yC);have f1:=bC EM.o;have f2:=aj.frozen EM.o;have f3:=EM.o.lt;refine fc ?_;have kD:Kept (·=kb) wC (wC.setCell ⟨kb,10,none⟩ (.slice (some ⟨tb,0,none⟩) (Nn+1) tk)):=(kR (·=kb) wC).setCell _ _ (λ_=>rfl);have bD:aj (wC.setCell ⟨kb,10,none⟩ (.slice (some ⟨tb,0,none⟩) (Nn+1) tk)) kb 50 (ajj cb j sv sa fb (bI p) tb Nn tk lb (aR p j).length lk D):=aj.fw EM.o 10 (.slice (some ⟨tb,0,none⟩) (Nn+1) tk);have yD:al w (wC.setCell ⟨kb,10,none⟩ (.slice (some ⟨tb,0,none⟩) (Nn+1) tk)):=(HYB.o.trans yC).setCell ⟨kb,10,none⟩ _ (λ(h:kb<w.heap.size)=>by have:=EP.o;have:=vN.o;omega);have Bu:=(WV.o.ext yC).kept kD EM.o (by have:=SE.o;omega) EP.o Nv.o.1 Nv.o.2.1 Nv.o.2.2;have htr:=HTR.o.kept kD (by have:=HTG.o;have:=vu.o.lt;omega);have hsD:wB.heap.size<=(wC.setCell ⟨kb,10,none⟩ (.slice (some ⟨tb,0,none⟩) (Nn+1) tk)).heap.size:=ay yC.size kD.size;clear f1 f2 f3 yC hxC;generalize (wC.setCell ⟨kb,10,none⟩ (.slice (some ⟨tb,0,none⟩) (Nn+1) tk))=wD at kD bD yD Bu htr hsD⊢;have⟨JX,HYD,SD,HTD⟩:=J4' Bu yD bD htr
    have dr:∀w',al wD w'->lm w' (some ⟨lb,0,none⟩) lb 0 (aR p j).length (aR p j) fb 0 (bI p) 0 0 (fR p j (gg p j V) (fW p j A)):=λw' hx=>
     ⟨JX.o.ops.ext hx,λ_=>rfl,λ_=>JX.o.row.ext hx,rfl,by have:=Er.o.2;omega,QK.o.symm,by have:=SO.o.right;rw [QK.o]at this;exact this,SO.o.Dd,(Row.cR JX.o.first).ext hx⟩
    have WW:=J dr;clear Bu yD bD kD htr hsD dr;go_upto_region 14 with(fail);apply alB (F:=alo wD (aR p j) Nn (fR p j (gg p j V) (fW p j A)) (bI p))
    case h=>
     intro jX;have EW:=J jX;clear jX
    -- anV
     refine WB (λwz=>al wD wz) (.op 0 2 (.op 1 1 (.op 2 1 (.op 3 2 (.op 4 1 (.op 5 2 (.fork 6 (.op 7 2 (.op 8 2 (.op 9 2 (.op 10 2 (.op 11 0 (.op 12 0 (.op 13 2 (.op 14 2 .nil)))))))) 11 (.op 6 0 (.op 7 2 (.op 8 2 (.op 9 2 (.op 10 2 (.op 12 0 (.op 13 2 (.op 14 2 .nil))))))))))))))) ?_;refine WC ?_;have YD:=J (pj wD)
     (repeat (first|refine oh ?_|((apply c_);(· exact YD.o);(· go_simp);(· (intro w1 hS;have d0:=bX JX.o.st hS;have d1:=bH d0;have d2:=bG d0;have d3:=d0.lt;have e0:=bX SD.o hS;have e1:=bC e0;have e2:=e0.lt;go_simp;try with_reducible rfl));refine iR ?_)|((apply cZ);(· exact YD.o);(· go_simp);refine iR ?_)))
     refine gL ?_ ?_
     .skip
      refine cw (λK hK=>?_);go_simp;go_wp21;refine(Jp (some ⟨lb,0,none⟩) lb 0 (aR p j).length lk (aR p j) 0 0 fb 0 (bI p) (bI p) (fR p j (gg p j V) (fW p j A)) Nn (by have:=JW.o;omega) _ (WW.o _ (YD.o))).mono ?_;rintro e w1 ⟨v,kk,rfl,KY,gb,gk,rfl,zL,hx⟩;have y2:=(YD.o).trans hx;have BX:=J zL.row;have HGB:=J (show wD.heap.size<=gb from ay (YD.o).size zL.ge);refine hK.out _ _ (λ_=>y2) ?_;clear hK K zL hx KY
      (repeat (first|refine oh ?_|((apply c_);(· exact y2);(· go_simp);(· (intro w1 hS;have d0:=bX JX.o.st hS;have d1:=bH d0;have d2:=bG d0;have d3:=d0.lt;have e0:=bX SD.o hS;have e1:=bC e0;have e2:=e0.lt;go_simp;try with_reducible rfl));refine iR ?_)|((apply cZ);(· exact y2);(· go_simp);refine iR ?_)))
      refine cw (λK hK=>?_);go_simp;have y3:al wD (w1.alloc (.cells #[.int .i64 0,.slice none 0 0,.int .i64 0] 47)):=(y2).alloc _;have z4:=bN w1 47 #[.int .i64 0,.slice none 0 0,.int .i64 0];have s6:al w1 (w1.alloc (.cells #[.int .i64 0,.slice none 0 0,.int .i64 0] 47)):=dz w1 _;have adY:=BX.o.lt;replace BX:=J (BX.o.ext s6);refine hK.out _ _ (λ_=>y3) ?_;clear hK K s6;have mg:wD.heap.size<=w1.heap.size:=(y2).size;generalize (w1.alloc (.cells #[.int .i64 0,.slice none 0 0,.int .i64 0] 47))=w5 at y3 z4 BX⊢;generalize w1.heap.size=mb at z4 mg adY⊢;have sM:=J mg;have HZ:=J z4;clear mg z4;have uk:=J (show¬gb=mb by omega);clear adY
      repeat refine oh ?_
      have hz1:=bH HZ.o;have hz2:=aj.aJ HZ.o;have hz3:=HZ.o.lt;refine JQ ?_;have dF:=Kept.putAt (S:=(·=mb)) (kR _ w5) mb 0 (ai (ky (aR p j) Nn (0,0,fR p j (gg p j V) (fW p j A))).1 (some ⟨gb,0,none⟩) (bI p) gk (ky (aR p j) Nn (0,0,fR p j (gg p j V) (fW p j A))).2.1) (λ_=>rfl);have hyz:al wD (putAt w5 mb 0 (ai (ky (aR p j) Nn (0,0,fR p j (gg p j V) (fW p j A))).1 (some ⟨gb,0,none⟩) (bI p) gk (ky (aR p j) Nn (0,0,fR p j (gg p j V) (fW p j A))).2.1)):=Kept.putAt (y3) _ _ _ (λh=>by have:=sM.o;omega);have hbz:aj (putAt w5 mb 0 (ai (ky (aR p j) Nn (0,0,fR p j (gg p j V) (fW p j A))).1 (some ⟨gb,0,none⟩) (bI p) gk (ky (aR p j) Nn (0,0,fR p j (gg p j V) (fW p j A))).2.1)) mb 47 (ai (ky (aR p j) Nn (0,0,fR p j (gg p j V) (fW p j A))).1 (some ⟨gb,0,none⟩) (bI p) gk (ky (aR p j) Nn (0,0,fR p j (gg p j V) (fW p j A))).2.1):=aj.cI HZ.o 0 _;have zS:=BX.o.kept dF uk.o;clear dF;generalize (putAt w5 mb 0 (ai (ky (aR p j) Nn (0,0,fR p j (gg p j V) (fW p j A))).1 (some ⟨gb,0,none⟩) (bI p) gk (ky (aR p j) Nn (0,0,fR p j (gg p j V) (fW p j A))).2.1))=wF at hyz hbz zS⊢;exact EW.o _ _ _ _ kk ⟨hyz,hbz,zS,sM.o,HGB.o⟩
     .skip
      refine cw (λK hK=>?_);go_simp;have y7:al wD (wD.alloc (.cells #[.int .i64 0,.slice none 0 0,.int .i64 0] 47)).drew:=(dz wD _).drew;have z8:=aj.drew (bN wD 47 #[.int .i64 0,.slice none 0 0,.int .i64 0]);refine hK.out _ _ (λ_=>y7) ?_;clear hK K;generalize (wD.alloc (.cells #[.int .i64 0,.slice none 0 0,.int .i64 0] 47)).drew=w9 at y7 z8⊢;generalize Wo:wD.heap.size=mb at z8⊢;have mg:wD.heap.size<=mb:=Nat.le_of_eq Wo;clear Wo;have sM:=J mg;have HZ:=J z8;clear mg z8
      (repeat (first|refine oh ?_|((apply c_);(· exact y7);(· go_simp);(· (intro w1 hS;have d0:=bX JX.o.st hS;have d1:=bH d0;have d2:=bG d0;have d3:=d0.lt;have e0:=bX SD.o hS;have e1:=bC e0;have e2:=e0.lt;go_simp;try with_reducible rfl));refine iR ?_)|((apply cZ);(· exact y7);(· go_simp);refine iR ?_)))
      refine cw (λK hK=>?_);go_simp;go_wp21;have sd:=HZ.o.lt;refine(Jp (some ⟨lb,0,none⟩) lb 0 (aR p j).length lk (aR p j) 0 0 fb 0 (bI p) (bI p) (fR p j (gg p j V) (fW p j A)) Nn (by have:=JW.o;omega) _ (WW.o _ (y7))).mono ?_;rintro e w11 ⟨v,kk,rfl,KY,gb,gk,rfl,zL,hx⟩;have BR:=(y7).trans hx;replace HZ:=J (HZ.o.ext hx);have⟨BX,HGB,uk⟩:=J3' zL.row (show wD.heap.size<=gb from ay (y7).size zL.ge) (show¬gb=mb by have:=zL.ge;omega);clear sd;refine hK.out _ _ (λ_=>BR) ?_;clear hK K zL hx KY
      (repeat (first|refine oh ?_|((apply c_);(· exact BR);(· go_simp);(· (intro w1 hS;have d0:=bX JX.o.st hS;have d1:=bH d0;have d2:=bG d0;have d3:=d0.lt;have e0:=bX SD.o hS;have e1:=bC e0;have e2:=e0.lt;go_simp;try with_reducible rfl));refine iR ?_)|((apply cZ);(· exact BR);(· go_simp);refine iR ?_)))
      have hz1:=bH HZ.o;have hz2:=aj.aJ HZ.o;have hz3:=HZ.o.lt;refine JQ ?_;have dF:=Kept.putAt (S:=(·=mb)) (kR _ w11) mb 0 (ai (ky (aR p j) Nn (0,0,fR p j (gg p j V) (fW p j A))).1 (some ⟨gb,0,none⟩) (bI p) gk (ky (aR p j) Nn (0,0,fR p j (gg p j V) (fW p j A))).2.1) (λ_=>rfl);have hyz:al wD (putAt w11 mb 0 (ai (ky (aR p j) Nn (0,0,fR p j (gg p j V) (fW p j A))).1 (some ⟨gb,0,none⟩) (bI p) gk (ky (aR p j) Nn (0,0,fR p j (gg p j V) (fW p j A))).2.1)):=Kept.putAt (BR) _ _ _ (λh=>by have:=sM.o;omega);have hbz:aj (putAt w11 mb 0 (ai (ky (aR p j) Nn (0,0,fR p j (gg p j V) (fW p j A))).1 (some ⟨gb,0,none⟩) (bI p) gk (ky (aR p j) Nn (0,0,fR p j (gg p j V) (fW p j A))).2.1)) mb 47 (ai (ky (aR p j) Nn (0,0,fR p j (gg p j V) (fW p j A))).1 (some ⟨gb,0,none⟩) (bI p) gk (ky (aR p j) Nn (0,0,fR p j (gg p j V) (fW p j A))).2.1):=aj.cI HZ.o 0 _;have zS:=BX.o.kept dF uk.o;clear dF;generalize (putAt w11 mb 0 (ai (ky (aR p j) Nn (0,0,fR p j (gg p j V) (fW p j A))).1 (some ⟨gb,0,none⟩) (bI p) gk (ky (aR p j) Nn (0,0,fR p j (gg p j V) (fW p j A))).2.1))=wF at hyz hbz zS⊢;exact EW.o _ _ _ _ kk ⟨hyz,hbz,zS,sM.o,HGB.o⟩
    -- END
    intro wE mb gb gk kk RE;obtain⟨yE,bE,rE,gE,gG⟩:=RE;obtain⟨r,hr⟩:=nm' (ky (aR p j) Nn (0,0,fR p j (gg p j V) (fW p j A)));rw [<-hr]at bE rE⊢;have⟨qd,aot,HYE,pr,HTE,sM,HBE,WO⟩:=J8' hr (JX.o.ext yE) (HYD.o.trans yE) (bX SD.o yE) (HTD.o.ext yE) rE bE (show kb<mb by have:=SD.o.lt;omega);have i1:=bH bE;have i2:=bG bE;have i3:=bE.lt;have j1:=bH pr.o;have j2:=aj.aJ pr.o;have j3:=pr.o.lt;have HGG:=J (show kb<gb by have:=SD.o.lt;omega);clear yE bE rE gE gG hr;go_upto_region 16 with(fail);have kF:Kept (·=kb) wE (putAt wE kb 7 (ai r.1 (some ⟨gb,0,none⟩) (bI p) gk r.2.1)):=Kept.putAt (S:=(·=kb)) (kR _ wE) kb 7 _ (λ_=>rfl);have bF:aj (putAt wE kb 7 (ai r.1 (some ⟨gb,0,none⟩) (bI p) gk r.2.1)) kb 50 (Ks.cells ⟨cb,j,sv,sa,fb,bI p,gb,gk,tb,tk,lb,lk,r.1,r.2.1⟩ (bI p) Nn (aR p j).length D):=aj.cI pr.o 7 (ai r.1 (some ⟨gb,0,none⟩) (bI p) gk r.2.1);have yF:al w (putAt wE kb 7 (ai r.1 (some ⟨gb,0,none⟩) (bI p) gk r.2.1)):=Kept.putAt HYE.o kb 7 _ (λ(h:kb<w.heap.size)=>by have:=EP.o;have:=vN.o;omega);have Bu:=aot.o.kept kF pr.o (by have:=SE.o;omega) EP.o Nv.o.1 Nv.o.2.1 Nv.o.2.2;clear i1 i2 i3 j1 j2 j3;generalize (putAt wE kb 7 (ai r.1 (some ⟨gb,0,none⟩) (bI p) gk r.2.1))=wF at kF bF yF Bu⊢;have⟨ES,HYF,HCF,HKF⟩:=J4' Bu yF bF kF;clear Bu yF bF kF;have mO:IntKind.i64.wrap ((Nn:Int)+1)=(Nn:Int)+1:=by rw [jH];have:=JW.o;omega
    by_cases hz:r.2.1=0
    .have HZR:=J hz
     have b1:(r.2.1==0)=true:=by simp [hz]
     clear hz;refine aay ?_;intro yd B5 f1 f2 f3;go_wp21;refine eB (t:=50) (g:=ob+1) (cs:=Ks.cells ⟨cb,j,sv,sa,fb,bI p,gb,gk,tb,tk,lb,lk,r.1,r.2.1⟩ (bI p) Nn (aR p j).length D) results13 rfl rfl mc (by exact ko) (by exact aj.cI B5.o 0 _) ⟨?_,?_⟩
     .exact Kept.putAt (HYF.o.trans yd) _ _ _ (λh=>by have:=vN.o;omega)
     .exact .no (λq=>q.Yg (by rw [<-HM.o,<-HD.o,<-sO.o,<-qd.o];exact HZR.o))
    .have HZR:=J hz
     have b1:(r.2.1==0)=false:=by simp [hz]
     clear hz;refine aay ?_;intro yd B5 f1 f2 f3;go_wp21;refine eB (t:=50) (g:=ob+1) (cs:=Ks.cells ⟨cb,j,sv,sa,fb,bI p,gb,gk,tb,tk,lb,lk,r.1,r.2.1⟩ (bI p) Nn (aR p j).length D) results13 rfl rfl mc (by exact ko) (by exact aj.cI B5.o 0 _) ⟨?_,?_⟩
     .exact Kept.putAt (HYF.o.trans yd) _ _ _ (λh=>by have:=vN.o;omega)
     .obtain⟨CS,hCS⟩:=nm' (Ks.cells ⟨cb,j,sv,sa,fb,bI p,gb,gk,tb,tk,lb,lk,r.1,r.2.1⟩ (bI p) Nn (aR p j).length D)
      have Wh:Kept (·=ob+1) wF.drew (putAt wF.drew (ob+1) 0 CS):=Kept.putAt (S:=(·=ob+1)) (kR _ _) (ob+1) 0 _ (λ_=>rfl);have Bs:=EP.o;have zJ:=vL.o.lt;have Ez:=vu.o.lt;have rW:=(gj.alg (ES.o.code.ext yd) Wh B5.o rfl Tc ae).up (N':=(putAt wF.drew (ob+1) 0 CS).heap.size) (ay (by have:=HCF.o.lt;have:=SE.o;omega) (ay yd.size Wh.size)) (eH _);have oE:=mR.gF (dy (aQ ES.o.ov yd) Wh (λg hg e=>cY (E':=50) (aQ ES.o.ov yd) ae g hg wy (0,0) (by rw [e];exact B5.o))) (Il HV.o.2.1);have Rw:=mR.gF (dy (aQ ES.o.oa yd) Wh (λg hg e=>cY (E':=50) (aQ ES.o.oa yd) ae g hg wy (0,0) (by rw [e];exact B5.o))) (Ik lX.o HA.o.2.1)
      have hfz:¬fb=ob+1:=by
       intro e;have q:=ES.o.first.ext yd;rw [e]at q;exact Bn B5.o ae _ _ q
      have e1:2^jb (br p j)=Nn:=by rw [<-HM.o,<-HD.o,<-sO.o]
      have e2:jb (br p j)=D:=by rw [<-HM.o,<-HD.o]
      have hok:yi p j V A:=⟨HF.o,HC.o,Bi.o,tQ.o,by rw [<-HM.o];exact JV.o,by rw [e1,<-qd.o];exact HZR.o⟩;have hio:=C3 (c:=aR p j) (by have:=Er.o.2;omega) (s:=(0,0,fR p j (gg p j V) (fW p j A))) SO.o Nn;rw [<-qd.o]at hio
      have apw:NA (putAt wF.drew (ob+1) 0 CS) ⟨cb,j,sv,sa,fb,bI p,gb,gk,tb,tk,lb,lk,r.1,r.2.1⟩ (aR p j) (fR p j (gg p j V) (fW p j A)) r.2.2 (bI p) Nn (aR p j).length:=
       {ops:=(ES.o.ops.ext yd).kept Wh ad,Fq:=(ES.o.row.ext yd).kept Wh (by have:=HLG.o;show¬lb=ob+1;omega),ll:=rfl,l1:=Er.o.1,l2:=by have:=Er.o.2;omega,iok:=abh.o,rS:=((Row.cR ES.o.first).ext yd).kept Wh hfz,fn:=QK.o.symm,fok:=SO.o,grow:=((sM.o.kept HKF.o (by have:=HGG.o;omega)).ext yd).kept Wh (by have:=HGG.o;show¬gb=ob+1;omega),gn:=by rw [hio.2];exact QK.o.symm,tl:=JW.o,last:=by rw [BN,<-qd.o],Fw:=((HTE.o.kept HKF.o (by have:=HTG.o;omega)).ext yd).kept Wh (by have:=HTG.o;show¬tb=ob+1;omega)}
      have q:=vU.ok (w:=w) (w':=putAt wF.drew (ob+1) 0 CS) hok k ⟨cb,j,sv,sa,fb,bI p,gb,gk,tb,tk,lb,lk,r.1,r.2.1⟩ r.2.2 rfl rW oE Rw (by rw [e1];exact apw);rw [e1,e2]at q;subst hCS;exact q
  .have hMI:(128:Int)<M:=by omega
   have i1:=bH FG.o;have i2:=bG FG.o;have k1:=bH ry.o;have k2:=aj.aJ ry.o;have k3:=ry.o.lt;go_wp21;refine eB (t:=50) (g:=ob+1) (cs:=FY cb j) results13 rfl rfl mc (by exact ko) (by exact aj.cI ry.o 0 _) ⟨?_,.no (λq=>hM (by rw [HM.o];exact q.most))⟩;exact Kept.putAt kB.o _ _ _ (λh=>by have:=vN.o;omega)
abbrev onZ:Array Value:=#[.string ⟨#[]⟩,.int .i64 0,.slice none 0 0,.slice none 0 0,.slice none 0 0,.slice none 0 0,.slice none 0 0,.slice none 0 0,.string ⟨#[]⟩,.slice none 0 0,.slice none 0 0,.int .i64 0,.slice none 0 0,.slice none 0 0]
theorem L3 (w):Calls prog 41 #[] w λe w'=>al w w'/\∃c:Pc,e=.returned (.agg (BB c 1 ⟨none,0,0⟩ ⟨none,0,0⟩))/\lZ w' w'.heap.size c lF/\Ho c:=by
 have y0:=dz w (.cells onZ 42);have b0:=bN w 42 onZ;go_enter func41,ntmps41;go_upto_region 1 with(fail);generalize (w.alloc (.cells onZ 42))=W1 at y0 b0⊢;generalize hq:(w:World).heap.size=q at b0⊢;go_wp21;refine(U4 _).mono ?_;rintro e w2 ⟨hx,rfl,hs⟩;have b2:=bX b0 hx;have i1:=bH b2;have i2:=aj.aJ b2;have i3:=b2.lt;have aX:q<W1.heap.size:=b0.lt;go_wp21;have k:=Kept.putAt (S:=(·=q)) (kR _ w2) q 0 (BB (_root_.Go.Proofs.YtnhelcmddjbafaaGreatDoor.qO W1.heap.size) 1 ⟨none,0,0⟩ ⟨none,0,0⟩) (λ_=>rfl);have bz:aj (putAt w2 q 0 (BB (_root_.Go.Proofs.YtnhelcmddjbafaaGreatDoor.qO W1.heap.size) 1 ⟨none,0,0⟩ ⟨none,0,0⟩)) q 42 (BB (_root_.Go.Proofs.YtnhelcmddjbafaaGreatDoor.qO W1.heap.size) 1 ⟨none,0,0⟩ ⟨none,0,0⟩):=aj.cI b2 0 _;have h6:=bK hs.b6 k ad;refine bQ results41 rfl rfl Ch (by exact xw) bz ⟨(y0.trans hx).putAt _ _ _ (λh=>by omega),_,rfl,ZM (n:=W1.heap.size) h6.lt (bK hs.b2 k ad) (bK hs.b3 k ad) (bK hs.b4 k ad) (bK hs.b5 k ad) h6,?_⟩
 constructor<;>exact⟨eH _,λh=>by first|rfl|cases h⟩
theorem P6:yi lF 1 [] []:=by
 refine⟨by kernel_rfl,ZN,λh=>?_,by decide,by decide,λh=>?_⟩
 .have:=(Gw _).2 h
  rw [show us lF=false by kernel_rfl]at this
  cases this
 .rw [show(ky (aR lF 1) (2^jb (br lF 1)) (0,0,fR lF ((1:Nat):Int) (gg lF 1 []) (fW lF 1 []))).2.1=1 by kernel_rfl]at h
  cases h
theorem Pz {p} {j} {V A:List Int} (hj:j<5) (h:yi p j V A) (hz:dE p<=1099511627776) {w:World} {x:Ks} {N L:Nat} (hN:N=2^jb (br p j)) (hk:NA w x (aR p j) (fR p j (gg p j V) (fW p j A)) m1 (bI p) N L):
 Bd p/\gx p j (gg p j V) (fW p j A)=0/\dj x.fh x.aN (bI p)=true/\¬x.aN=0:=by
 have hc:=Bd.of h.uE hz;have hl:=hk.last;have ho:=nw (c:=aR p j) (r:=(0,0,fR p j (gg p j V) (fW p j A))) (by rw [<-hk.ll];exact hk.l2) hk.fok N;rw [<-hl]at ho;refine⟨hc,wO hc hj V A,?_,?_⟩
 .rw [hk.gn]
  exact ho.1.right
 .have h1:=h.Yg
  rw [<-BN,<-hN,<-hl]at h1;exact h1
theorem Yh {p} {j M ik} {fh} {gn zk} {aN bw window} {N} (hN:N=2^jb M) (hl:(fh,aN,m1)=gU (aR p j) (0,0,m0) N):
 Gk (R0 p j M fb ib ik fh zb gn zk aN bw window aS) (aR p j) m0 m1=fI 0 N (ru (aR p j) (0,0,m0) 0) (ru (aR p j) (0,0,m0) N) (jz (aR p j)) Dg.zero (aR p j).length 0 (-1):=by
 unfold Gk fI ru;rw [<-hl,hN];simp [gU]
structure qi (w:World) (p:Pr) (j:Nat) (V A:List Int) (x:Ks) (k:Cd) (m1:List Int) (l:List Ins) (m0:List Int) (n N L dd:Nat):Prop where
 j5:j<5
 part:x.part=j
 code:gj w w.heap.size x.cb k p
 vs:mR w w.heap.size x.vs V
 ag:mR w w.heap.size x.ag A
 at_:NA w x l m0 m1 n N L
 hl:l=aR p j
 hm:m0=fR p j V A
 hn:n=bI p
 hN:N=2^dd
 hd:dd=jb (br p j)
 d7:dd<=7
 uE:Bd p
 fit:gx p j V A=0
 gr:dj x.fh x.aN n=true
 hh:¬x.aN=0
 long:¬nR p
 most:br p j<=128
theorem qi.ext {w w'} {p} {j} {V A} {x} {k} {l} {n N L:Nat} (h:qi w p j V A x k m1 l m0 n N L dd) (hx:al w w'):qi w' p j V A x k m1 l m0 n N L dd:=
 {h with code:=(h.code.ext hx).up hx.size (eH _),vs:=(h.vs.ext hx).mono hx.size,ag:=(h.ag.ext hx).mono hx.size,at_:=h.at_.ext hx}
abbrev c13 (P:Option Addr) (i:Nat->Int) (s:Nat->iu):Array Value:=#[.pointer P,.int .i64 (i 0),(s 0).v,(s 1).v,.int .i64 (i 1),(s 2).v,.int .i64 (i 2),.int .i64 (i 3),(s 3).v,.int .i64 (i 4),(s 4).v,.int .i64 (i 5),(s 5).v]
theorem Bo {w} {p} {j} {V A:List Int} {e:Ending} (hj:j<5) (hz:dE p<=1099511627776) (ho:vU p j V A w0 w e):
 (∃P i s,¬yi p j V A/\e=.returned (.tuple #[.agg (c13 P i s),.bool false]))∨∃(k:Cd) (x:Ks) (m0 m1:List Int) (l:List Ins) (V' A':List Int) (n N L dd:Nat),qi w p j V' A' x k m1 l m0 n N L dd/\e=.returned (.tuple #[.agg (x.cells n N L dd),.bool true]):=by
 cases ho with
 | @no P i0 i1 i2 i3 i4 i5 A0 A1 A2 A3 A4 A5 n0 n1 n2 n3 n4 n5 c0 c1 c2 c3 c4 c5 h=>exact .inl ⟨P,λi=>#[i0,i1,i2,i3,i4,i5].getD i 0,λi=>#[⟨A0,n0,c0⟩,⟨A1,n1,c1⟩,⟨A2,n2,c2⟩,⟨A3,n3,c3⟩,⟨A4,n4,c4⟩,⟨A5,n5,c5⟩].getD i ⟨none,0,0⟩,h,rfl⟩
 |ok h k x m1 hp hC hv ha hk=>
  obtain⟨hc,hf,hg,hh⟩:=Pz hj h hz rfl hk;exact .inr ⟨k,x,_,m1,_,_,_,_,_,_,_,⟨hj,hp,hC,hv,ha,hk,rfl,rfl,rfl,rfl,rfl,akd _ (by unfold br bW;omega) h.most,hc,hf,hg,hh,h.long,h.most⟩,rfl⟩
structure NewAt (w w':World) (tb:Nat) (t:Tt) (ib fb zb:Nat) (l:List Ins) (m0 m1:List Int) (N L:Nat) (bw aS window:Int) (x:Ks) (n:Nat):Prop where
 ge:w.heap.size<=tb
 tb:TB w' tb t
 m:QX w' t l m0 m1 ib 0 fb 0 zb 0
 xt:al w w'
 phase:t.phase=0
 gd:t.gd=aS+window
 bw:t.bw=bw
 window:t.window=window
 hv:t.hv=none
 pc:t.fh=x.fh
 nn:t.n'=n
 ha:t.aN=x.aN
 aoY:Gk t l m0 m1=fI 0 N (ru l (0,0,m0) 0) (ru l (0,0,m0) N) (jz l) Dg.zero L 0 (-1)
theorem xf {w} {p} {j} {V A} {x} {k} {l} {n N L:Nat} (h:qi w p j V A x k m1 l m0 n N L dd) (gk:Nat) (bw aS window:Int) (hs:Lg bw=true) (hh:og aS=true) (hw:1<=window/\window<=1048576):
 Calls prog 14 #[.pointer (some ⟨x.cb,0,none⟩),.int .i64 x.part,x.vs.v,x.ag.v,.agg (ai x.fh (some ⟨x.gb,0,none⟩) n gk x.aN),.int .i64 bw,.int .i64 aS,.int .i64 window] w λe w'=>∃tb t ib fb zb,e=.returned (.tuple #[.pointer (some ⟨tb,0,none⟩),.int .i64 0])/\NewAt w w' tb t ib fb zb l m0 m1 N L bw aS window x n:=by
 rw [h.part];refine(Ml x.cb w.heap.size k p j h.j5 x.vs x.ag V A x.fh x.gb 0 n gk x.aN m1 bw aS window w (eH _) h.code h.vs h.ag h.uE h.fit h.long (by have:=h.most;omega) (by rw [<-h.hl];exact h.at_.iok) (by rw [<-h.hm];exact h.at_.fok) h.at_.grow h.at_.gn h.gr h.hn h.hh hs hh hw).mono ?_;rintro e w' ⟨tb,ib,ik,fb,zb,zk,h1,rfl,h2,h3,h4⟩;rw [<-h.hl,<-h.hm]at h3;exact⟨tb,_,ib,fb,zb,rfl,h1,h2,h3,h4,rfl,rfl,rfl,rfl,rfl,rfl,rfl,rfl,by rw [h.hl,show L=(aR p j).length from by rw [<-h.hl];exact h.at_.ll];exact Yh (by rw [h.hN,h.hd]) (by rw [<-h.hl];exact h.at_.last)⟩
theorem uI {w} {tb} {t} {l} {N L} {bw window} {x} {n:Nat} (hn:NewAt w0 w tb t ib fb zb l m0 m1 N L bw aS window x n) (hw:1<=window/\window<=1048576) (h s:Int) (hh:og h=true) (hl:h<=aS+window) (hs:Lg s=true) (pK:¬s=bw):
 Calls prog 15 #[.pointer (some ⟨tb,0,none⟩),.int .i64 h,.int .i64 s] w λe w'=>∃g,w.heap.size<=g/\e=.returned (.int .i64 0)/\TB w' tb (lx t h s g)/\At w' g (fI 0 N (ru l (0,0,m0) 0) (ru l (0,0,m0) N) (jz l) Dg.zero L 0 (-1))/\Kept (·=tb) w w':=by
 have q:=XL tb t l m0 m1 ib 0 fb 0 zb 0 h s w hn.tb hn.m hn.phase hh (by rw [hn.gd];exact hl) hs (by rw [hn.bw];exact pK) (by rw [hn.window];omega);rw [hn.aoY]at q;exact q
theorem zP {w} {p} {j} {V A} {x} {k:Cd} {l:List Ins} {n N L:Nat} (h:qi w0 p j V A x k m1 l m0 n N L dd) {tb g:Nat} {t:Tt} (h1:w0.heap.size<=tb) (h2:tb<g) (hk:Kept (·=tb) w0 w) (ht:TB w tb t) (hv:t.hv=some ⟨g,0,none⟩) (hp:t.phase=1) (hT:0<=t.gd/\t.gd<=1000) (hw:0<=t.window/\t.window<=10)
 (hr:At w g (fI 0 N (ru l (0,0,m0) 0) (ru l (0,0,m0) N) (jz l) Dg.zero L 0 (-1))) (XD:Option Addr) (Kk uE bb bo:Nat) (bs:List Bool) (jd:Kk=bs.length) (Iu:0<Kk->XD=some ⟨bb,bo,none⟩/\bb<w0.heap.size/\Row w0 bb bo (bs.map .bool)):
 Calls prog 16 #[.pointer (some ⟨tb,0,none⟩),.agg (x.cells n N L dd),.slice XD Kk uE] w λe w'=>e=.returned (.bool true)/\(∃T,TB w' tb {t with gd:=T,phase:=2})/\Kept (λi=>i=tb∨i=g) w w':=by
 have a0:=h.at_.ops.1;have a1:=h.at_.Fq.lt;have a2:=h.at_.rS.lt;have a3:=h.at_.grow.lt;have a4:=h.at_.Fw.lt;refine(Oy tb g ad t x l m0 m1 n N L dd h.d7 h.hN w (h.at_.kept hk ad ad ad ad ad) ht hv hp hT hw hr ⟨by omega,by omega⟩ ⟨by omega,by omega,by omega,by omega,by omega,by omega,by omega,by omega⟩ XD Kk uE bb bo bs jd (λq=>⟨(Iu q).1,(Iu q).2.2.kept hk (by have:=(Iu q).2.1;omega),by have:=(Iu q).2.1;omega,by have:=(Iu q).2.1;omega⟩)).mono ?_;rintro e w' ⟨e1,e2,_,e4⟩;exact⟨e1,e2,e4⟩
theorem j' (w) (hL:ew w) (hO:OpsAt w):Calls prog 12 #[] w λe w'=>e=.returned (.bool true)/\al w w':=by
 have HL:=J hL;have HO:=J hO;clear hL hO;go_enter func12,ntmps12;go_upto_region 1 with(fail);go_wp21;refine(L3 _).mono ?_;rintro e w1 ⟨y1,c,rfl,hp,mE⟩;have⟨dR,HP1,HC⟩:=J3' y1 hp mE;clear y1 hp mE;go_wp21;refine(xi c lF 1 1 ae (by rw [u64_in ae ae,ld _ ae];rfl) ⟨none,0,0⟩ ⟨none,0,0⟩ [] [] w1.heap.size w1 (eH _) HP1.o (HL.o.ext dR.o) (HO.o.ext dR.o) HC.o ae (RV _ _) (RV _ _)).mono ?_;rintro e w2 ⟨y2,ho⟩;have fg:=J (dR.o.trans y2);clear y2 HP1 HC HL HO dR
 rcases Bo ae ae ho with⟨P,i,s,h,rfl⟩|⟨k,x,m0,m1,l,V,A,n,N,L,dd,hc,rfl⟩
 .exact absurd P6 h
 clear ho;refine adx ?_;intro y3 b3;go_upto_region 2 with(fail);generalize (w2.alloc (.cells (x.cells n N L dd) 50))=w3 at y3 b3⊢;generalize (w2:World).heap.size=cb at b3⊢;have⟨n7,ot,eP⟩:=J3' (hc.ext y3) b3 (fg.o.trans y3);have i1:=bC b3;have i2:=bH b3;have i3:=bG b3;have i4:=b3.lt;clear b3 y3 hc fg;go_wp21;refine(xf n7.o x.gk 1 10 5 dZ dZ ae).mono ?_;rintro e w4 ⟨tb,t,ib,fb,zb,rfl,hn⟩;have HN:=J hn;have p1:(t.gd !=15)=false:=by simp [hn.gd]
 clear hn i1 i2 i3 i4;go_wp21;refine uW (jv tb t _ HN.o.tb) ?_;go_wp21;refine(uI HN.o ae 15 0 dZ ae dZ ae).mono ?_;rintro e w5 ⟨g,hg,rfl,ht,hr,hk⟩;have⟨HT,HR,HK,HG⟩:=J4' ht hr hk (show tb<g by have:=HN.o.tb.lt;omega);clear hg ht hr hk p1;have p2:(qk (lx t 15 0 g) (fI 0 N (ru l (0,0,m0) 0) (ru l (0,0,m0) N) (jz l) Dg.zero L 0 (-1)) !=1)=false:=by simp [qk,fI,HN.o.bw]
 go_wp21;refine uW (lH tb g _ _ _ HT.o rfl HR.o rfl) ?_;have HX:=J (show Kept (·=tb) w3 w5 from(Kept.ext HN.o.xt).trans HK.o);have b5:=bK ot.o HX.o (by have:=HN.o.ge;have:=ot.o.lt;omega);have i1:=bC b5;have i2:=bH b5;have i3:=bG b5;have i4:=b5.lt;clear b5;go_wp21;refine(zP n7.o HN.o.ge HG.o HX.o HT.o rfl rfl (by simp [HN.o.window]) (by simp [HN.o.window]) HR.o none 0 0 0 0 [] rfl (λh=>absurd h ae)).mono ?_;rintro e w6 ⟨rfl,⟨T,ht6⟩,rp⟩;clear i1 i2 i3 i4;go_wp21;refine uW (lD tb _ _ ht6) ?_;go_wp21;refine uW (yN tb g _ _ ht6 rfl) ?_;go_wp21;go_ret;refine⟨rfl,eP.o.trans' ((HX.o.mono (λ_ _ e=>Or.inl e)).trans rp) (λi hi e=>?_)⟩;have:=eP.o.size;have:=HN.o.ge;have:=HG.o
 omega
end Mc
section
open Go.Deep Go.ChangeShapes Go.WideShapes Go.ChangeAt Sq Mc
def opD (k:Nat):Option (List UInt8):=match (Rows.laid_baize_code_operations:DataW Unit)with
 | .agg l=>match l[k]? with|some (.agg [_,.lit (.string s)])=>some s|_=>none
 |_=>none
theorem acr:∀k,k<22->opD k=some (fP k):=by decide
theorem opsAt_of {w} {cs} {fuel} {p : List MemPlace} {enc : TypeId × Value → Unit} {held : Bool} (hv : w.var? prog "baize/code.operations" = some cs) (h : DataW.trod enc prog w 0 (fun _ => true) held fuel 364 cs.toList = some (Rows.laid_baize_code_operations, p)) : OpsAt w := by
 obtain⟨xs,m,rfl,hx,hl,hn,hall⟩:=DataW.trod_array underlying364 h;have hD:(Rows.laid_baize_code_operations:DataW Unit)=.agg (xs.map (·.1)):=congrArg Prod.fst hx;have hce:prog.cellsOf 363=2:=by kernel_rfl
 have CN:prog.cellsOf 9=1:=by kernel_rfl
 have key:∀k,k<22->cs[k*2+1]?=some (.string (It k)):=λk hk=>by
  have h1:=hall k hk;rw [hce]at h1;have je:xs[k]?=some xs[k]:=List.getElem?_eq_getElem ad;rw [je]at h1;obtain⟨y0,y1,n',e1,_,_,e2⟩:=trod_struct2 underlying363 h1;obtain⟨s,e3,e4,_⟩:=DataW.trod_string underlying9 e2;have h2:=acr k hk;unfold opD at h2;rw [hD]at h2;simp only [List.getElem?_map,je,Option.map_some,e1,e4,Option.some.injEq]at h2;rw [CN]at e3;have e5:=congrArg (·[0]?) e3;simp [List.getElem?_drop]at e5;rw [e5];unfold It;rw [<-h2]
 have hg : prog.globalNamed "baize/code.operations" = some 0 := by kernel_rfl
 have wS:=λi=>World.var?_cell hg hv i;have kL:∀k,k<22->w.cell? ⟨0,k*2+1,none⟩=some (.string (It k)):=λk hk=>(wS _).trans (key k hk);refine⟨?_,kL⟩
 rcases Nat.lt_or_ge 0 w.heap.size with h0|h0
 .exact h0
 .have:=kL 0 ad
  unfold World.cell? at this;rw [Array.getElem?_eq_none h0]at this
  cases this
theorem Lk {w} (h:laidMetH prog Rows.trialMiddlesRow.laid w) (h4:5<w.heap.size):ew w/\OpsAt w:=by
 have h':laidMet prog Rows.trialMiddlesRow.laid w:=h;obtain⟨ps,⟨_,_,_,_,_,_,_,_,_,_,⟨_,_,_,_,_,_,_,_,_,_,⟨_,_,_,_,_,_,_,_,_,_,⟨_,_,_,_,_,_,_,_,_,_,⟨g1,t1,cs1,f1,p1,q1,Nc,zW,oE,hd1,⟨go,to_,cso,fo,po,qo,JL,hto,uS,hdo,⟨g2,t2,cs2,f2,p2,q2,RA,JO,Nj,hd2,⟨g3,t3,cs3,f3,p3,q3,hg3,ht3,hv3,hd3,_⟩,_⟩,_⟩,_⟩,_⟩,_⟩,_⟩,_⟩,_⟩:=h'
 have e1 : prog.globalNamed "strings.asciiSpace" = some 1 := by kernel_rfl
 have e2 : prog.globalNamed "baize/sorts.stmtParts" = some 2 := by kernel_rfl
 have e3 : prog.globalNamed "baize/sorts.exprParts" = some 5 := by kernel_rfl
 obtain rfl:=Option.some.inj (e1.symm.trans Nc);obtain rfl:=Option.some.inj (e2.symm.trans RA);obtain rfl:=Option.some.inj (e3.symm.trans hg3);obtain rfl:=Option.some.inj ((show(prog.globals[1]?).map (·.type)=some 405 by kernel_rfl).symm.trans zW);obtain rfl:=Option.some.inj ((show(prog.globals[2]?).map (·.type)=some 408 by kernel_rfl).symm.trans JO);obtain rfl:=Option.some.inj ((show(prog.globals[5]?).map (·.type)=some 419 by kernel_rfl).symm.trans ht3);have c1:=Lib.cells_of_tab (zs:=Lib.asciiSpaceTab) (k:=.u8) underlying405 underlying5 bd bd hd1;have c2:=Lib.cells_of_tab (zs:=BL) (k:=.i64) underlying408 underlying3 bd bd hd2;have c3:=Lib.cells_of_tab (zs:=Ro) (k:=.i64) underlying419 underlying3 bd bd hd3
 have e0 : prog.globalNamed "baize/code.operations" = some 0 := by kernel_rfl
 obtain rfl:=Option.some.inj (e0.symm.trans JL);obtain rfl:=Option.some.inj ((show(prog.globals[0]?).map (·.type)=some 364 by kernel_rfl).symm.trans hto);refine⟨?_,opsAt_of uS hdo⟩;refine⟨?_,λk hk=>?_,λk hk=>?_,h4⟩
 .unfold Lib.TabIs
  rw [oE,<-c1]
 .rw [World.var?_cell e2 Nj k,<-Array.getElem?_toList,c2]
  have:∀k,k<10->BL[k]?=some ((stmtParts (k:Nat):Nat):Int):=by decide
  rw [List.getElem?_map,this k hk]
  rfl
 .rw [World.var?_cell e3 hv3 k,<-Array.getElem?_toList,c3]
  have:∀k,k<18->Ro[k]?=some ((exprParts (k:Nat):Nat):Int):=by decide
  rw [List.getElem?_map,this k hk]
  rfl
set_option maxRecDepth 100000
end
namespace Mc
variable{m0 m1:List Int}{ib fb gb:Nat}
theorem QX.kept {S} {w w'} {t} {l} {io fo go} (h:QX w t l m0 m1 ib io fb fo gb go) (hx:Kept S w w') (h1:¬S ib) (h2:¬S fb) (h3:¬S gb):QX w' t l m0 m1 ib io fb fo gb go:=
 {h with OT:=h.OT.kept hx h1,rS:=h.rS.kept hx h2,grow:=h.grow.kept hx h3}
theorem QX.ne {w} {b} {t t'} {l} (h:QX w t l m0 m1 ib 0 fb 0 gb 0) (ht:TB w b t'):¬ib=b/\¬fb=b/\¬gb=b:=by
 have key:∀(b' n:Nat) (m:List Int),n=m.length->1<=n->Row w b' 0 (bJ m)->¬b'=b:=λb' n m hn h1 hr e=>by
  subst e
  obtain⟨x,r,rfl⟩:∃x r,m=x::r:=by
   cases m with
   |nil=>simp at hn;omega
   |cons x r=>exact⟨x,r,rfl⟩
  have q:=hr.cell 0 (by simp [bJ]);rw [show(0:Nat)+0=0 from rfl,bC ht 0]at q;simp [bJ]at q
 refine⟨λe=>?_,key fb t.n m0 h.fn (bU h.fr).1 h.rS,key gb t.n' m1 h.gn (bU h.gr).1 h.grow⟩;subst e
 obtain⟨x,r,hl⟩:∃x r,l=x::r:=by
  cases l with
  |nil=>have:=h.iN;have:=h.i1;simp at*;omega
  |cons x r=>exact⟨x,r,rfl⟩
 have q:=h.OT.cell 1 (by rw [hl];simp [cM]);rw [show(0:Nat)+1=1 from rfl,bC ht 1,hl]at q;simp [cM]at q
open Sq
structure H9 where (bw window depth phase gd mW from_ steps:Int) (told:Bool)
abbrev H9.cells (r:H9):Array Value:=#[.int .i64 r.bw,.int .i64 r.window,.int .i64 r.depth,.int .i64 r.phase,.int .i64 r.gd,.int .i64 r.mW,.int .i64 r.from_,.int .i64 r.steps,.bool r.told]
theorem qi.kept {S} {w w'} {p} {j} {V A} {x} {k:Cd} {l:List Ins} {n N L dd:Nat} (h:qi w p j V A x k m1 l m0 n N L dd) (hx:Kept S w w') (hs:∀i,i<w.heap.size->¬S i):qi w' p j V A x k m1 l m0 n N L dd:=
 {h with code:=(h.code.kept hx hs).up hx.size (eH _),vs:=(h.vs.kept hx hs).mono hx.size,ag:=(h.ag.kept hx hs).mono hx.size,at_:=h.at_.kept hx (hs _ h.at_.ops.lt) (hs _ h.at_.Fq.lt) (hs _ h.at_.rS.lt) (hs _ h.at_.grow.lt) (hs _ h.at_.Fw.lt)}
