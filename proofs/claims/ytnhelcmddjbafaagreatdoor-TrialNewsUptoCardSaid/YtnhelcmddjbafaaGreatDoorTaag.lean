import Derived.Test.YtnhelcmddjbafaaGreatDoorTaaf
set_option maxHeartbeats 4000000
set_option maxRecDepth 100000
open Go.Proofs.Tryz
namespace Go.Proofs.YtnhelcmddjbafaaGreatDoor
open Go.RowKit
namespace Mc
variable{es:Array MapEntry}{clock:Nat}{w2:World}
def fP (k:Nat):List UInt8:=match k with
 |0=>[110]|1=>[119,110]|2=>[119,119]|14=>[119,119]|17=>[119,110,110]|18=>[119,119,110]|19=>[112]|20=>[112,119]|21=>[112,119]|_=>[119,119,119]
def It (k:Nat):ByteArray:=⟨(fP k).toArray⟩
structure OpsAt (w:World):Prop where
 lt:0<w.heap.size
 at_:∀k,k<22->w.cell? ⟨0,k*2+1,none⟩=some (.string (It k))
theorem OpsAt.ext {w w':World} (h:OpsAt w) (hx:al w w'):OpsAt w':=
 ⟨gw h.lt hx.size,λk hk=>(Kept.cell hx (p:=⟨0,k*2+1,none⟩) h.lt (λf=>f)).trans (h.at_ k hk)⟩
theorem OpsAt.kept {S} {w w':World} (h:OpsAt w) (hx:Kept S w w') (hs:¬S 0):OpsAt w':=
 ⟨gw h.lt hx.size,λk hk=>(Kept.cell hx (p:=⟨0,k*2+1,none⟩) h.lt hs).trans (h.at_ k hk)⟩
def iL (op:Int):Bool:=decide (0<=op)&&decide (op<22)
theorem Y_ (op) (w:World):Calls prog 236 #[.int .i64 op] w λe w'=>e=.returned (.bool (iL op))/\w=w':=by
 go_enter func236,ntmps236;go_wp21
 all_goals go_ret
 all_goals refine⟨aV ?_,rfl⟩
 all_goals (rw [Bool.eq_iff_iff];simp [iL];omega)
def ub (n:Int):Bool:=decide (-2147483648<=n)&&decide (n<=2147483647)
theorem N1 (n) (w:World):Calls prog 237 #[.int .i64 n] w λe w'=>e=.returned (.bool (ub n))/\w=w':=by
 go_enter func237,ntmps237;go_wp21
 all_goals go_ret
 all_goals refine⟨aV ?_,rfl⟩
 all_goals (rw [Bool.eq_iff_iff];simp [ub];omega)
theorem Q5:gB prog 322=true:=by kernel_rfl
theorem L0:dw prog 322=some 3:=by kernel_rfl
attribute [go_sem] Q5 L0
theorem G4 (i:Ins) (w:World):Calls prog 225 #[.agg i.cells] w λe w'=>e=.returned (.agg #[.int .i64 i.a,.int .i64 i.b,.int .i64 i.c])/\al w w':=by
 go_enter func225,ntmps225;go_wp21;refine bQ results225 rfl rfl Q5 (by exact L0) (aj.d_ _ _ _ _ aC) ⟨rfl,?_⟩;exact(dS w _).alloc _
def AK (i:Ins):ByteArray:=if iL i.op=true then It i.op.toNat else⟨#[]⟩
theorem wR (i) (w) (eN:OpsAt w):Calls prog 226 #[.agg i.cells] w λe w'=>e=.returned (.string (AK i))/\al w w':=by
 have aK:al w _:=dS w (.cells i.cells 71);have my:=J (eN.ext aK);clear eN
 by_cases h:iL i.op=true
 .have hb:=h
  simp [iL]at hb;obtain⟨op,a,b,c⟩:=i;obtain⟨k,rfl⟩:∃k:Nat,op=k:=⟨op.toNat,by simp at hb;omega⟩;simp at hb;have hk:k<22:=by omega
  have hkI:(k:Int)<22:=by omega
  have hq:AK ⟨k,a,b,c⟩=It k:=by simp only [AK,av h];rfl
  rw [hq];have HH:=J h;have jd:=my.o.at_ k hk;clear h hq hb;go_enter func226,ntmps226;exact aaO
 .have hf:iL i.op=false:=by simpa using h
  have hq:AK i=⟨#[]⟩:=by simp only [AK,af h]
  rw [hq];have HH:=J hf;clear h hf hq;go_enter func226,ntmps226;exact aaO
def Fs (c:UInt8) (n size words:Int):Bool:=if c=119 then decide (0<=n)&&decide (n<words)else if c=112 then decide (0<=n)&&decide (n<size)else ub n
def n6 (h:List UInt8) (k:Nat) (n size words:Int):Bool:=match h[k]? with|some c=>Fs c n size words|none=>n==0
def gl (i:Ins):Nat->Int|0=>i.a|1=>i.b|_=>i.c
def iD (i:Ins):Bool:=if i.op=0 then(i.a==0||i.a==1)else if i.op=17 then decide (i.b<=i.c)else if i.op=18 then decide (0<=i.c)else true
def aW (i:Ins) (size words:Int):Bool:=iL i.op&&(n6 (fP i.op.toNat) 0 (gl i 0) size words&&n6 (fP i.op.toNat) 1 (gl i 1) size words&&n6 (fP i.op.toNat) 2 (gl i 2) size words)&&iD i
theorem Jb {i} {size words} {j} (hj:j<3) (h:n6 (fP i.op.toNat) j (gl i j) size words=false):aW i size words=false:=by
 unfold aW
 rcases(by omega:j=0∨j=1∨j=2)with rfl|rfl|rfl<;>simp [h]
theorem LO {i} {size words} (ho:iL i.op=true) (h:∀j,j<3->n6 (fP i.op.toNat) j (gl i j) size words=true):aW i size words=iD i:=by
 unfold aW;rw [ho,h 0 ad,h 1 ad,h 2 ad];simp
theorem apR (i) (k:Nat) (hk:k<3) (w:World):(Instr.index 322 (.agg #[.int .i64 i.a,.int .i64 i.b,.int .i64 i.c]) (.int .i64 k)).run prog w=.ok (.int .i64 (gl i k)) w:=by
 rcases(by omega:k=0∨k=1∨k=2)with rfl|rfl|rfl<;>kernel_rfl
theorem wQ (k:Nat):(fP k).length<=3:=by
 unfold fP
 split<;>simp
theorem C1 (i) (size words) (w) (eN:OpsAt w):Calls prog 188 #[.agg i.cells,.int .i64 size,.int .i64 words] w λe w'=>e=.returned (.bool (aW i size words))/\al w w':=by
 have aK:al w _:=dS w (.cells i.cells 71);have Iq:=bN w 71 i.cells;have my:=J (eN.ext aK);clear eN
 by_cases h:iL i.op=true
 .have HH:=J h
  clear h;obtain⟨R,hR⟩:=nm' (aW i size words);rw [<-hR];have HR:=J hR;clear hR;go_enter func188,ntmps188;go_wp21;refine uW (Y_ _ _) ?_;rw [HH.o];go_wp21;refine(wR i _ my.o).mono ?_;rintro e w2 ⟨e2,bM⟩;obtain⟨h,hh⟩:=nm' (fP i.op.toNat);replace e2:e=.returned (.string ⟨h.toArray⟩):=by rw [e2,AK,av HH.o,hh];rfl
  subst e2;have hlen:h.length<=3:=by rw [hh];exact wQ _
  have HHN:=J hh;clear hh;have kI:=bX Iq bM;have Wb:=bH kI;have RA:=bG kI;go_wp21;refine kU (G4 i _) λw3 ea=>?_;have y3:=(aK.trans bM).trans ea;have hI3:=bX kI ea;clear Iq kI Wb RA aK bM ea;go_wp21
  go_loop [19] (λt19=>∃(k:Nat),k<=3/\t19=.int .i64 k/\(∀j,j<k->n6 h j (gl i j) size words=true)) (λt19=>3 - (intOf t19).toNat)
  case atStart=>exact⟨0,by omega,rfl,λj hj=>by omega⟩
  case round=>
   obtain⟨k,hk,rfl,aed⟩:=hrel;have HP:=J aed;clear aed
   by_cases aX:k<3
   .have qx:=apR i k aX
    obtain⟨n,hn⟩:=nm' (gl i k);rw [<-hn]at qx;have HNn:=J hn;clear hn
    have next:n6 h k n size words=true->∀j,j<k+1->n6 h j (gl i j) size words=true:=λhq j hj=>by
     by_cases e:j=k
     .subst e;rw [<-HNn.o];exact hq
     .exact HP.o j ad
    have stop:n6 h k n size words=false->R=false:=λhq=>by
     rw [HR.o];exact Jb aX (by rw [<-HHN.o,<-HNn.o];exact hq)
    have NX:=J next
    have SP:=J stop;clear next stop
    by_cases pf:k<h.length
    .have apy:(k:Int)<h.length:=by omega
     obtain⟨c,hc⟩:=nm' (h[k]);have akc:h[k]?=some c:=by rw [List.getElem?_eq_getElem pf,hc]
     have hcN:((⟨h.toArray⟩:ByteArray)[k]'(show k<h.toArray.size by simpa using pf)).toNat=c.toNat:=by rw [hc];rfl
     have HG:=J akc;clear akc hc
     by_cases h1:c=119
     .subst h1
      replace hcN:((⟨h.toArray⟩:ByteArray)[k]'(show k<h.toArray.size by simpa using pf)).toNat=119:=hcN
      by_cases hn0:0<=n
      .by_cases ua:n<words
       .have ok:n6 h k n size words=true:=by simp [n6,Fs,HG.o,hn0,ua]
        have OK:=J ok;clear ok;go_wp21
        go_round
        case rel=>exact⟨k+1,aX,by go_num,NX.o OK.o⟩
        case measure=>simp only [intOf];omega
       .have ok:n6 h k n size words=false:=by simp [n6,Fs,HG.o,ua]
        exact Sy
      .have ok:n6 h k n size words=false:=by simp [n6,Fs,HG.o,hn0]
       exact Sy
     .by_cases h2:c=112
      .subst h2
       replace hcN:((⟨h.toArray⟩:ByteArray)[k]'(show k<h.toArray.size by simpa using pf)).toNat=112:=hcN
       by_cases hn0:0<=n
       .by_cases ua:n<size
        .have ok:n6 h k n size words=true:=by simp [n6,Fs,HG.o,hn0,ua]
         have OK:=J ok;clear ok;go_wp21
         go_round
         case rel=>exact⟨k+1,aX,by go_num,NX.o OK.o⟩
         case measure=>simp only [intOf];omega
        .have ok:n6 h k n size words=false:=by simp [n6,Fs,HG.o,ua]
         exact Sy
       .have ok:n6 h k n size words=false:=by simp [n6,Fs,HG.o,hn0]
        exact Sy
      .have ok:n6 h k n size words=ub n:=by simp [n6,Fs,HG.o,h1,h2]
       have hc1:¬c.toNat=119:=λe=>h1 (UInt8.toNat_inj.1 e);have hc2:¬c.toNat=112:=λe=>h2 (UInt8.toNat_inj.1 e);generalize c.toNat=cn at hcN hc1 hc2;have b1:(cn==119)=false:=by simpa using hc1
       have b2:(cn==112)=false:=by simpa using hc2
       have b1':((cn:Int)==119)=false:=by simp;omega
       have b2':((cn:Int)==112)=false:=by simp;omega
       have OK:=J ok;clear ok hc1 hc2 h1 h2;go_wp21;refine uW (N1 n _) ?_
       cases hi:ub n
       .have HI:=J hi
        clear hi;go_wp21;go_ret;exact⟨aV (SP.o (OK.o.trans HI.o)).symm,y3⟩
       .have HI:=J hi
        clear hi;go_wp21
        go_round
        case rel=>exact⟨k+1,aX,by go_num,NX.o (OK.o.trans HI.o)⟩
        case measure=>simp only [intOf];omega
    .have apy:¬(k:Int)<h.length:=by omega
     have ok:n6 h k n size words=(n==0):=by simp [n6,List.getElem?_eq_none (show h.length<=k by omega)]
     have OK:=J ok;clear ok
     cases hi:(n==0)
     .have HI:=J hi
      go_wp21;go_ret;exact⟨aV (SP.o (OK.o.trans HI.o)).symm,y3⟩
     .have HI:=J hi
      go_wp21
      go_round
      case rel=>exact⟨k+1,aX,by go_num,NX.o (OK.o.trans HI.o)⟩
      case measure=>simp only [intOf];omega
   .obtain rfl:k=3:=by omega
    have oY:=LO HH.o (by rw [<-HHN.o];exact HP.o);rw [<-HR.o]at oY;have HR3:=J oY;clear oY;have hc3:=bC hI3;have e0:(i.op==0)=true∨(i.op==0)=false:=by cases(i.op==0)<;>simp
    have VY:(i.op==17)=true∨(i.op==17)=false:=by cases(i.op==17)<;>simp
    have XM:(i.op==18)=true∨(i.op==18)=false:=by cases(i.op==18)<;>simp
    have E17:=J VY;have E18:=J XM;clear VY XM
    rcases e0 with e0|e0
    .go_wp21
     all_goals go_ret
     all_goals refine⟨aV ?_,y3⟩
     all_goals (rw [HR3.o,iD,av (by simpa using e0)]<;>simp [*])
    .rcases E17.o with VY|VY
     .go_wp21
      go_ret;refine⟨aV ?_,y3⟩;rw [HR3.o,iD,af (by simpa using e0),av (by simpa using VY)]
     .rcases E18.o with XM|XM
      .go_wp21
       go_ret;refine⟨aV ?_,y3⟩;rw [HR3.o,iD,af (by simpa using e0),af (by simpa using VY),av (by simpa using XM)]
      .go_wp21
       go_ret;refine⟨aV ?_,y3⟩;rw [HR3.o,iD,af (by simpa using e0),af (by simpa using VY),af (by simpa using XM)]
 .have hf:iL i.op=false:=by simpa using h
  have hq:aW i size words=false:=by simp [aW,hf]
  rw [hq];have HH:=J hf;clear h hf hq;go_enter func188,ntmps188;exact aaO
abbrev oQ (w:World) (s:Nat) (t:TypeId) (pc:Int) (A:Option Addr) (n cap:Nat) (halt:Int):Prop:=aj w s t (ai pc A n cap halt)
def da (c:List Ins) (pc:Int) (k:Nat):Option Ins:=match c[pc.toNat]? with|some i=>if aW i c.length k=true then some i else none|none=>none
abbrev ald (o:Option Ins):Ins:=o.getD ⟨0,0,0,0⟩
theorem Ux (s) (pc halt) (M) (k kc) (A) (n cap:Nat) (w:World) (h2:n<=2048) (hp:(n:Int)<=pc) (hs:oQ w s 47 pc M k kc halt):
 Calls prog 159 #[.pointer (some ⟨s,0,none⟩),.slice A n cap] w λe w'=>e=.returned (.tuple #[.agg (Ins.cells ⟨0,0,0,0⟩),.bool false])/\al w w':=by
 have aK:al w _:=dS w (.cells (Ins.cells ⟨0,0,0,0⟩) 71);have fU:=bN w 71 (Ins.cells ⟨0,0,0,0⟩);have kV:=aj.alloc hs (.cells (Ins.cells ⟨0,0,0,0⟩) 71);have qy:=hs.lt;have b1:decide ((2048:Int)<n)=false:=by simp;omega
 have b1':decide (2048<n)=false:=by simp;omega
 have b2:decide ((n:Int)<=pc)=true:=by simpa using hp
 go_enter func159,ntmps159;go_wp21;generalize (w.alloc (.cells (Ins.cells ⟨0,0,0,0⟩) 71))=W at aK fU kV⊢;have pJ:=kV.lt;refine amI ?_
 repeat first|refine bV ?_|refine cF dQ (by intro w1 hS;have d1:=bC (bX kV hS);exact fE) ?_|refine cD dQ ?_
 refine QG ?_;intro K hK;refine fc ?_;have gW:aj W.drew w.heap.size 71 (Ins.cells ⟨0,0,0,0⟩):=fU;have KU:=bH gW;have Nd:=aj.aJ gW;go_wp21;refine eB results159 rfl rfl wl (by exact sD) (aj.cI gW _ _) ⟨rfl,?_⟩;exact Kept.putAt (aK.drew) _ _ _ (λh=>by omega)
theorem aco (s) (halt) (M) (k kc:Nat) (b off:Nat) (c:List Ins) (n cap p:Nat) (w:World) (hn:n=c.length) (h2:n<=2048) (hp:p<n) (eN:OpsAt w) (hs:oQ w s 47 p M k kc halt) (hr:Row w b off (cM c)):
 Calls prog 159 #[.pointer (some ⟨s,0,none⟩),.slice (some ⟨b,off,none⟩) n cap] w λe w'=>e=.returned (.tuple #[.agg (ald (da c p k)).cells,.bool (da c p k).isSome])/\al w w':=by
 have qf:p<c.length:=by omega
 obtain⟨i,hi⟩:=nm' (c[p])
 have eU:da c p k=if aW i n k=true then some i else none:=by
  simp only [da,rF,List.getElem?_eq_getElem qf,<-hi,<-hn]
 have aK:al w _:=dS w (.cells (Ins.cells ⟨0,0,0,0⟩) 71);have fU:=bN w 71 (Ins.cells ⟨0,0,0,0⟩);have kV:=aj.alloc hs (.cells (Ins.cells ⟨0,0,0,0⟩) 71);have hC0:=hr.ext aK;have my:=J (eN.ext aK);have qy:=hs.lt;have b1:decide ((2048:Int)<n)=false:=by simp;omega
 have b1':decide (2048<n)=false:=by simp;omega
 have b2:decide ((n:Int)<=p)=false:=by simp;omega
 have b2':decide (n<=p)=false:=by simp;omega
 have hpI:(p:Int)<n:=by omega
 have HX:=J eU;have HI:=J hi;clear hs hr eN eU;obtain⟨a1,a2⟩:=hC0.ins p qf;rw [<-HI.o]at a2;clear hi;have HN:=J hn;clear hn;obtain⟨R,hR⟩:=nm' (aW i n k);have HR:=J hR;clear hR;go_enter func159,ntmps159;go_wp21;generalize (w.alloc (.cells (Ins.cells ⟨0,0,0,0⟩) 71))=W at aK fU kV hC0 my a1 a2⊢;have pJ:=kV.lt;have hlC:=hC0.lt;refine amI ?_
 repeat first|refine bV ?_|refine cF dQ (by intro w1 hS;have d1:=bC (bX kV hS);have d2:=(hC0.ext hS).ins p qf;rw [<-HI.o]at d2;have d3:=d2.1;have d4:=d2.2;exact fE) ?_|refine cD dQ ?_
 refine ap (λK hK=>?_);go_simp;go_wp21;refine(C1 i n k _ (my.o.ext ((kR _ W).drew))).mono ?_;rintro e w1 ⟨e1,aB⟩;replace e1:e=.returned (.bool R):=by rw [e1,HR.o]
 subst e1;have y1:al W w1:=((kR _ W).drew).trans aB;refine hK.out _ _ (λ_=>y1) ?_;clear hK K;refine fc ?_;have gW:=bX fU y1;have KU:=bH gW;have Nd:=aj.aJ gW;have ed:=bX kV y1;have hc1:=bC ed;obtain⟨q1,q2⟩:=(hC0.ext y1).ins p qf;rw [<-HI.o]at q2
 cases hq:R
 .have e:da c p k=none:=by rw [HX.o,<-HR.o,hq];rfl
  exact anO
 .have e:da c p k=some i:=by rw [HX.o,<-HR.o,hq];rfl
  exact anO
theorem Pu (c) (pc) (k) (h:(c.length:Int)<=pc):da c pc k=none:=by
 unfold da;rw [List.getElem?_eq_none ad]
theorem LD (s) (pc halt) (M) (k kc) (A) (b off) (c) (n cap) (w:World) (hn:n=c.length) (h2:n<=2048) (hp:0<=pc) (hA:0<n->A=some ⟨b,off,none⟩) (eN:OpsAt w) (hs:oQ w s 47 pc M k kc halt) (hr:0<n->Row w b off (cM c)):
 Calls prog 159 #[.pointer (some ⟨s,0,none⟩),.slice A n cap] w λe w'=>e=.returned (.tuple #[.agg (ald (da c pc k)).cells,.bool (da c pc k).isSome])/\al w w':=by
 by_cases h:(n:Int)<=pc
 .rw [Pu c pc k ad]
  exact Ux s pc halt M k kc A n cap w h2 h hs
 .obtain⟨p,rfl⟩:∃p:Nat,pc=p:=⟨pc.toNat,by omega⟩
  obtain rfl:=hA ad;exact aco s halt M k kc b off c n cap p w hn h2 ad eN hs (hr ad)
def u7 (p:Int) (k:Nat):Int:=if 0<=p/\p<k then p else -1
def gC (i:Ins) (m:List Int):Int:=if i.op=15 then u7 (i.b+m.getD i.c.toNat 0) m.length else if i.op=16 then u7 (i.a+m.getD i.b.toNat 0) m.length else -1
theorem cV {h} {k} {n size words} (hk:h[k]?=some 119) (h1:n6 h k n size words=true):0<=n/\n<words:=by
 simpa [n6,hk,Fs]using h1
theorem GH {h} {k} {n size words} (hk:h[k]?=some 112) (h1:n6 h k n size words=true):0<=n/\n<size:=by
 simpa [n6,hk,Fs]using h1
theorem zZ {h} {k} {n size words} (hk:h[k]?=some 110) (h1:n6 h k n size words=true):-2147483648<=n/\n<=2147483647:=by
 simpa [n6,hk,Fs,ub]using h1
theorem gK {i} {size words} (h:aW i size words=true):0<=i.op/\i.op<22/\n6 (fP i.op.toNat) 0 i.a size words=true/\n6 (fP i.op.toNat) 1 i.b size words=true/\n6 (fP i.op.toNat) 2 i.c size words=true/\iD i=true:=by
 simp only [aW,fz]at h;obtain⟨⟨h1,⟨h2,h3⟩,h4⟩,h5⟩:=h;simp [iL]at h1;exact⟨h1.1,h1.2,h2,h3,h4,h5⟩
theorem agk (i:Ins) (s:Nat) (pc halt:Int) (M:Option Addr) (k kc:Nat) (w:World) (hk:k<=256) (Gg:(i.op==15)=false) (CJ:(i.op==16)=false) (hs:oQ w s 47 pc M k kc halt):
 Calls prog 162 #[.pointer (some ⟨s,0,none⟩),.agg i.cells] w λe w'=>e=.returned (.int .i64 (-1))/\al w w':=by
 have aK:al w _:=dS w (.cells i.cells 71);have kV:=aj.alloc hs (.cells i.cells 71);have qy:=hs.lt;have hc:=bC hs;have b1:decide ((k:Int)<=-1)=false:=by simp;omega
 go_enter func162,ntmps162;go_wp21;go_ret;exact⟨rfl,aK⟩
theorem XY (a b c:Nat) (s:Nat) (pc halt:Int) (g off k kc:Nat) (m:List Int) (w:World) (EA:k=m.length) (hk:k<=256) (hb:b<k) (hc:c<k) (hm:∀x∈m,ax x) (hs:oQ w s 47 pc (some ⟨g,off,none⟩) k kc halt) (hr:Row w g off (bJ m)):
 Calls prog 162 #[.pointer (some ⟨s,0,none⟩),.agg (Ins.cells ⟨15,a,b,c⟩)] w λe w'=>e=.returned (.int .i64 (u7 (b+m.getD c 0) k))/\al w w':=by
 have jd:c<m.length:=by omega
 have aK:al w _:=dS w (.cells (Ins.cells ⟨15,a,b,c⟩) 71);have kV:=aj.alloc hs (.cells (Ins.cells ⟨15,a,b,c⟩) 71);have Iq:=bN w 71 (Ins.cells ⟨15,a,b,c⟩);have X9:=hr.ext aK;have qy:=hs.lt;obtain⟨x,hx⟩:=nm' (m[c]);have hxr:ax x:=by rw [hx];exact hm _ (cK jd)
 have CP:m.getD c 0=x:=by simp [jd,hx]
 rw [CP];unfold ax at hxr;obtain⟨aB,bM⟩:=hxr;obtain⟨q,hq⟩:=nm' ((b:Int)+x);rw [<-hq];have mO:IntKind.i64.wrap ((b:Int)+x)=q:=by rw [jH];omega
 have qg:IntKind.i64.wrap x=x:=by rw [jH];omega
 have xQ:(c:Int)<k:=by omega
 have⟨HXX,HQ,FK⟩:=J3' hx hq EA;clear hs hr hx CP hq EA hm;go_enter func162,ntmps162;go_wp21;generalize (w.alloc (.cells (Ins.cells ⟨15,a,b,c⟩) 71))=W at aK kV Iq X9⊢;have l1:=kV.lt;have l2:=Iq.lt;have l3:=X9.lt;refine eW (λw1=>al W w1) [(0,2),(1,1),(2,2),(3,2),(4,2),(5,1),(6,2),(7,1),(8,2),(9,1),(10,1),(11,2),(12,2)] ?_;refine eX ?_
 repeat first|refine bV ?_|refine cF dQ (by intro w1 hS;have d1:=bC (bX kV hS);have d2:=bC (bX Iq hS);have d3:=(X9.ext hS).mem c jd;rw [<-HXX.o]at d3;exact fE) ?_|refine cD dQ ?_
 exact ane
theorem TE (a b c:Nat) (s:Nat) (pc halt:Int) (g off k kc:Nat) (m:List Int) (w:World) (EA:k=m.length) (hk:k<=256) (ha:a<k) (hc:b<k) (hm:∀x∈m,ax x) (hs:oQ w s 47 pc (some ⟨g,off,none⟩) k kc halt) (hr:Row w g off (bJ m)):
 Calls prog 162 #[.pointer (some ⟨s,0,none⟩),.agg (Ins.cells ⟨16,a,b,c⟩)] w λe w'=>e=.returned (.int .i64 (u7 (a+m.getD b 0) k))/\al w w':=by
 have jd:b<m.length:=by omega
 have aK:al w _:=dS w (.cells (Ins.cells ⟨16,a,b,c⟩) 71);have kV:=aj.alloc hs (.cells (Ins.cells ⟨16,a,b,c⟩) 71);have Iq:=bN w 71 (Ins.cells ⟨16,a,b,c⟩);have X9:=hr.ext aK;have qy:=hs.lt;obtain⟨x,hx⟩:=nm' (m[b]);have hxr:ax x:=by rw [hx];exact hm _ (cK jd)
 have CP:m.getD b 0=x:=by simp [jd,hx]
 rw [CP];unfold ax at hxr;obtain⟨aB,bM⟩:=hxr;obtain⟨q,hq⟩:=nm' ((a:Int)+x);rw [<-hq];have mO:IntKind.i64.wrap ((a:Int)+x)=q:=by rw [jH];omega
 have qg:IntKind.i64.wrap x=x:=by rw [jH];omega
 have xQ:(b:Int)<k:=by omega
 have⟨HXX,HQ,FK⟩:=J3' hx hq EA;clear hs hr hx CP hq EA hm;go_enter func162,ntmps162;go_wp21;generalize (w.alloc (.cells (Ins.cells ⟨16,a,b,c⟩) 71))=W at aK kV Iq X9⊢;have l1:=kV.lt;have l2:=Iq.lt;have l3:=X9.lt;refine eW (λw1=>al W w1) [(0,2),(1,1),(2,2),(3,2),(4,2),(5,1),(6,2),(7,1),(8,2),(9,1),(10,1),(11,2),(12,2)] ?_;refine eX ?_
 repeat first|refine bV ?_|refine cF dQ (by intro w1 hS;have d1:=bC (bX kV hS);have d2:=bC (bX Iq hS);have d3:=(X9.ext hS).mem b jd;rw [<-HXX.o]at d3;exact fE) ?_|refine cD dQ ?_
 exact ane
theorem eh (i) (size) (s) (pc halt:Int) (g off k kc:Nat) (m:List Int) (w:World) (EA:k=m.length) (hk:k<=256) (hi:aW i size k=true) (hm:∀x∈m,ax x) (hs:oQ w s 47 pc (some ⟨g,off,none⟩) k kc halt) (hr:Row w g off (bJ m)):
 Calls prog 162 #[.pointer (some ⟨s,0,none⟩),.agg i.cells] w λe w'=>e=.returned (.int .i64 (gC i m))/\al w w':=by
 obtain⟨h0,h22,ha,hb,hc,he⟩:=gK hi
 by_cases Gg:i.op=15
 .rw [Gg]at ha hb hc
  have ha:=cV rfl ha;have hb:=cV rfl hb;have hc:=cV rfl hc;obtain⟨op,a,b,c⟩:=i;simp at Gg ha hb hc;subst Gg;obtain⟨a,rfl⟩:∃n:Nat,a=n:=⟨a.toNat,by omega⟩;obtain⟨b,rfl⟩:∃n:Nat,b=n:=⟨b.toNat,by omega⟩;obtain⟨c,rfl⟩:∃n:Nat,c=n:=⟨c.toNat,by omega⟩;have:=XY a b c s pc halt g off k kc m w EA hk ad ad hm hs hr
  simpa [gC,<-EA]using this
 .by_cases CJ:i.op=16
  .rw [CJ]at ha hb hc
   have ha:=cV rfl ha;have hb:=cV rfl hb;have hc:=cV rfl hc;obtain⟨op,a,b,c⟩:=i;simp at CJ ha hb hc;subst CJ;obtain⟨a,rfl⟩:∃n:Nat,a=n:=⟨a.toNat,by omega⟩;obtain⟨b,rfl⟩:∃n:Nat,b=n:=⟨b.toNat,by omega⟩;obtain⟨c,rfl⟩:∃n:Nat,c=n:=⟨c.toNat,by omega⟩;have:=TE a b c s pc halt g off k kc m w EA hk ad ad hm hs hr
   simpa [gC,<-EA]using this
  .rw [show gC i m=-1 by simp only [gC,af Gg,af CJ]]
   exact agk i s pc halt _ k kc w hk (by simpa using Gg) (by simpa using CJ) hs
def mA (w:World) (g:Nat) (es:Array MapEntry) (clock:Nat):Prop:=w.heap[g]?=some (.map es clock)
theorem mA.lt {w} {g} (h:mA w g es clock):g<w.heap.size:=(Array.getElem?_eq_some_iff.1 h).1
theorem mA.kept {S} {w w':World} {g:Nat} (h:mA w g es clock) (hk:Kept S w w') (hs:¬S g):mA w' g es clock:=(hk.block g h.lt hs).trans h
theorem mA.ext {w w':World} {g:Nat} (h:mA w g es clock) (hk:al w w'):mA w' g es clock:=h.kept hk (λf=>f)
theorem kN (w) (g) (es) (clock) (k) (f:Value) (hb:mA w g es clock) (hf:Instr.findNow (.int .i64) (.int .i64 k) es.toList 0=some none):
 ∃w',(Instr.mapUpdate 188 (.map (some g)) (.int .i64 k) f).run prog w=.ok () w'/\mA w' g (es.push ⟨.int .i64 k,f,clock⟩) (clock+1)/\Kept (·=g) w w':=by
 have hc:(Instr.checkKey false 10000 3 (.int .i64 k)).run prog w=.ok () w:=MapKept.run_checkKey (k:=.int .i64 k) underlying3 (by simp [MapKept.IsKey]) false 9999;refine⟨{w with heap:=w.heap.setIfInBounds g (.map (es.push ⟨.int .i64 k,f,clock⟩) (clock+1))},?_,?_,⟨rfl,rfl,rfl,by simp,λj hj hn=>?_⟩⟩
 .simp [Instr.mapUpdate,run_underlying underlying188,MapKept.run_getObj_map hb,hc,MapKept.run_findKey underlying3 hf,MapKept.run_setObj_map _ hb,Result.andThen]
 .exact(MapKept.heap_set hb).1
 .exact(MapKept.heap_set hb).2 j hn
theorem aE {P} {w} {ops} {rest} {o:Oper} {a:Act} {Q:Exit->Act->World->Prop} (CP:o.guard=none) (T:TypeId) (m k x:Operand)
 (ho:o.op=.insert T m k x) (hd:o.dst=none) {vm vk vx:Value} {w':World} (hm:a.eval m=vm) (hk:a.eval k=vk) (hx:a.eval x=vx)
 (dr:(Instr.mapUpdate T vm vk vx).run P w=.ok () w') (h:wpList P ops Q rest a w'):wpList P ops Q (o::rest) a w:=by
 refine wpList_plain CP λ_ hK=>?_;unfold Oper.wp execOp;simp only [ho,Sem.run_bind,Sem.run_pure,Result.andThen_ok,hm,hk,hx,dr,Oper.upon];have e:a.put o.dst undef=a:=by rw [hd];rfl
 rw [e];exact hK _ _ h
def gV (n:Nat):Array MapEntry:=(([⟨.int .i64 3,.func (.func 168) #[] #[],0⟩,⟨.int .i64 4,.func (.func 169) #[] #[],1⟩,⟨.int .i64 5,.func (.func 170) #[] #[],2⟩,⟨.int .i64 6,.func (.func 171) #[] #[],3⟩,⟨.int .i64 7,.func (.func 172) #[] #[],4⟩,⟨.int .i64 8,.func (.func 173) #[] #[],5⟩,⟨.int .i64 9,.func (.func 175) #[] #[],6⟩,⟨.int .i64 10,.func (.func 176) #[] #[],7⟩,⟨.int .i64 11,.func (.func 177) #[] #[],8⟩,⟨.int .i64 12,.func (.func 178) #[] #[],9⟩,⟨.int .i64 13,.func (.func 179) #[] #[],10⟩]:List MapEntry).take n).toArray
theorem Mn (w:World):Calls prog 114 #[] w λe w'=>e=.returned (.map (some w.heap.size))/\mA w' w.heap.size (gV 11) 11/\al w w':=by
 have CU:=@run_makeMap prog;go_enter func114,ntmps114;go_upto_region 1 with(fail);go_step
 iterate 1 refine kT ?_
 have b0:mA (w.alloc (.map #[] 0)) w.heap.size (gV 0) 0:=heap_alloc_new w _;have y0:al w (w.alloc (.map #[] 0)):=dS w _;generalize (w.alloc (.map #[] 0))=w0 at b0 y0⊢;obtain⟨w1,r1,b1,k1⟩:=kN w0 w.heap.size (gV 0) 0 3 (.func (.func 168) #[] #[]) b0 dZ;refine aE rfl 188 (.tmp 1) (.const (.int .i64 3)) (.func 168) rfl rfl rfl rfl rfl r1 ?_;replace b1:mA w1 w.heap.size (gV 1) 1:=b1;have y1:al w w1:=y0.trans' k1 (λi hi e=>by omega);obtain⟨w2,r2,b2,k2⟩:=kN w1 w.heap.size (gV 1) 1 4 (.func (.func 169) #[] #[]) b1 dZ;refine aE rfl 188 (.tmp 1) (.const (.int .i64 4)) (.func 169) rfl rfl rfl rfl rfl r2 ?_;replace b2:mA w2 w.heap.size (gV 2) 2:=b2;have y2:al w w2:=y1.trans' k2 (λi hi e=>by omega);obtain⟨w3,r3,b3,k3⟩:=kN w2 w.heap.size (gV 2) 2 5 (.func (.func 170) #[] #[]) b2 dZ;refine aE rfl 188 (.tmp 1) (.const (.int .i64 5)) (.func 170) rfl rfl rfl rfl rfl r3 ?_;replace b3:mA w3 w.heap.size (gV 3) 3:=b3;have y3:al w w3:=y2.trans' k3 (λi hi e=>by omega);obtain⟨w4,r4,b4,k4⟩:=kN w3 w.heap.size (gV 3) 3 6 (.func (.func 171) #[] #[]) b3 dZ;refine aE rfl 188 (.tmp 1) (.const (.int .i64 6)) (.func 171) rfl rfl rfl rfl rfl r4 ?_;replace b4:mA w4 w.heap.size (gV 4) 4:=b4;have y4:al w w4:=y3.trans' k4 (λi hi e=>by omega);obtain⟨w5,r5,b5,k5⟩:=kN w4 w.heap.size (gV 4) 4 7 (.func (.func 172) #[] #[]) b4 dZ;refine aE rfl 188 (.tmp 1) (.const (.int .i64 7)) (.func 172) rfl rfl rfl rfl rfl r5 ?_;replace b5:mA w5 w.heap.size (gV 5) 5:=b5;have y5:al w w5:=y4.trans' k5 (λi hi e=>by omega);obtain⟨w6,r6,b6,k6⟩:=kN w5 w.heap.size (gV 5) 5 8 (.func (.func 173) #[] #[]) b5 dZ;refine aE rfl 188 (.tmp 1) (.const (.int .i64 8)) (.func 173) rfl rfl rfl rfl rfl r6 ?_;replace b6:mA w6 w.heap.size (gV 6) 6:=b6;have y6:al w w6:=y5.trans' k6 (λi hi e=>by omega);obtain⟨w7,r7,b7,k7⟩:=kN w6 w.heap.size (gV 6) 6 9 (.func (.func 175) #[] #[]) b6 dZ;refine aE rfl 188 (.tmp 1) (.const (.int .i64 9)) (.func 175) rfl rfl rfl rfl rfl r7 ?_;replace b7:mA w7 w.heap.size (gV 7) 7:=b7;have y7:al w w7:=y6.trans' k7 (λi hi e=>by omega);obtain⟨w8,r8,b8,k8⟩:=kN w7 w.heap.size (gV 7) 7 10 (.func (.func 176) #[] #[]) b7 dZ;refine aE rfl 188 (.tmp 1) (.const (.int .i64 10)) (.func 176) rfl rfl rfl rfl rfl r8 ?_;replace b8:mA w8 w.heap.size (gV 8) 8:=b8;have y8:al w w8:=y7.trans' k8 (λi hi e=>by omega);obtain⟨w9,r9,b9,k9⟩:=kN w8 w.heap.size (gV 8) 8 11 (.func (.func 177) #[] #[]) b8 dZ;refine aE rfl 188 (.tmp 1) (.const (.int .i64 11)) (.func 177) rfl rfl rfl rfl rfl r9 ?_;replace b9:mA w9 w.heap.size (gV 9) 9:=b9;have y9:al w w9:=y8.trans' k9 (λi hi e=>by omega);obtain⟨G7,r10,S6,xS⟩:=kN w9 w.heap.size (gV 9) 9 12 (.func (.func 178) #[] #[]) b9 dZ;refine aE rfl 188 (.tmp 1) (.const (.int .i64 12)) (.func 178) rfl rfl rfl rfl rfl r10 ?_;replace S6:mA G7 w.heap.size (gV 10) 10:=S6;have JR:al w G7:=y9.trans' xS (λi hi e=>by omega);obtain⟨w11,r11,b11,Y4⟩:=kN G7 w.heap.size (gV 10) 10 13 (.func (.func 179) #[] #[]) S6 dZ;refine aE rfl 188 (.tmp 1) (.const (.int .i64 13)) (.func 179) rfl rfl rfl rfl rfl r11 ?_;replace b11:mA w11 w.heap.size (gV 11) 11:=b11;have WD:al w w11:=JR.trans' Y4 (λi hi e=>by omega);go_wp21;go_ret;exact⟨rfl,b11,WD⟩
theorem si (w) (g) (k) (f) (i:Nat) (hb:mA w g (gV 11) 11) (hf:Instr.findNow (.int .i64) (.int .i64 k) (gV 11).toList 0=some (some (i,f))):
 (Instr.lookup 188 (.map (some g)) (.int .i64 k) false).run prog w=.ok f w:=by
 have hc:(Instr.checkKey (gV 11).isEmpty 10000 3 (.int .i64 k)).run prog w=.ok () w:=MapKept.run_checkKey (k:=.int .i64 k) underlying3 (by simp [MapKept.IsKey]) _ 9999;simp [Instr.lookup,run_underlying underlying188,MapKept.run_getObj_map hb,hc,MapKept.run_findKey underlying3 hf,Result.andThen]
def cT (b:Bool):Int:=if b=true then 1 else 0
theorem kq (b) (w:World):Calls prog 174 #[.bool b] w λe w'=>e=.returned (.int .i32 (cT b))/\w=w':=by
 cases b
 all_goals
  go_enter func174,ntmps174;go_wp21;go_ret;exact⟨rfl,rfl⟩
def gR (k:Nat) (b c:Int):Int:=match k with
 |3=>IntKind.i32.wrap (b+c)
 |4=>IntKind.i32.wrap (b - c)
 |5=>IntKind.i32.wrap (b*c)
 |6=>if c=0 then 0 else IntKind.i32.wrap (b.tdiv c)
 |7=>if c=0 then 0 else b.tmod c
 |8=>cT (b==c)
 |9=>cT (b !=c)
 |10=>cT (decide (b<c))
 |11=>cT (decide (b<=c))
 |12=>cT (b !=0&&c !=0)
 |_=>cT (b !=0||c !=0)
theorem aqi (b c) (_E7:ax b) (_Ew:ax c) (w:World):Calls prog 168 #[.int .i32 b,.int .i32 c] w λe w'=>e=.returned (.int .i32 (gR 3 b c))/\w=w':=by
 unfold ax at _E7 _Ew;go_enter func168,ntmps168;go_wp21;go_ret;exact⟨cL ahK,rfl⟩
theorem aqj (b c) (_E7:ax b) (_Ew:ax c) (w:World):Calls prog 169 #[.int .i32 b,.int .i32 c] w λe w'=>e=.returned (.int .i32 (gR 4 b c))/\w=w':=by
 unfold ax at _E7 _Ew;go_enter func169,ntmps169;go_wp21;go_ret;exact⟨cL ahK,rfl⟩
theorem aqk (b c) (_E7:ax b) (_Ew:ax c) (w:World):Calls prog 170 #[.int .i32 b,.int .i32 c] w λe w'=>e=.returned (.int .i32 (gR 5 b c))/\w=w':=by
 unfold ax at _E7 _Ew;go_enter func170,ntmps170;go_wp21;go_ret;exact⟨cL ahK,rfl⟩
theorem aql (b c) (_E7:ax b) (_Ew:ax c) (w:World):Calls prog 171 #[.int .i32 b,.int .i32 c] w λe w'=>e=.returned (.int .i32 (gR 6 b c))/\w=w':=by
 unfold ax at _E7 _Ew
 by_cases h0:c=0
 .have b0:(c==0)=true:=by simp [h0]
  have H0:=J h0;clear h0;go_enter func171,ntmps171;exact MT
 .have b0:(c==0)=false:=by simp [h0]
  have H0:=J h0;go_enter func171,ntmps171;go_wp21;go_ret;exact⟨cL (by simp [gR,H0.o,IntKind.wrap_i32,wrap32]),rfl⟩
theorem aqm (b c) (_E7:ax b) (_Ew:ax c) (w:World):Calls prog 172 #[.int .i32 b,.int .i32 c] w λe w'=>e=.returned (.int .i32 (gR 7 b c))/\w=w':=by
 unfold ax at _E7 _Ew
 by_cases h0:c=0
 .have b0:(c==0)=true:=by simp [h0]
  have H0:=J h0;clear h0;go_enter func172,ntmps172;exact MT
 .have b0:(c==0)=false:=by simp [h0]
  have H0:=J h0;go_enter func172,ntmps172;exact MT
theorem aqn (b c) (_E7:ax b) (_Ew:ax c) (w:World):Calls prog 173 #[.int .i32 b,.int .i32 c] w λe w'=>e=.returned (.int .i32 (gR 8 b c))/\w=w':=by
 unfold ax at _E7 _Ew;go_enter func173,ntmps173;exact Sv
theorem aqo (b c) (_E7:ax b) (_Ew:ax c) (w:World):Calls prog 175 #[.int .i32 b,.int .i32 c] w λe w'=>e=.returned (.int .i32 (gR 9 b c))/\w=w':=by
 unfold ax at _E7 _Ew;go_enter func175,ntmps175;exact Sv
theorem amc (b c) (_E7:ax b) (_Ew:ax c) (w:World):Calls prog 176 #[.int .i32 b,.int .i32 c] w λe w'=>e=.returned (.int .i32 (gR 10 b c))/\w=w':=by
 unfold ax at _E7 _Ew;go_enter func176,ntmps176;exact Sv
theorem amd (b c) (_E7:ax b) (_Ew:ax c) (w:World):Calls prog 177 #[.int .i32 b,.int .i32 c] w λe w'=>e=.returned (.int .i32 (gR 11 b c))/\w=w':=by
 unfold ax at _E7 _Ew;go_enter func177,ntmps177;exact Sv
theorem ame (b c) (_E7:ax b) (_Ew:ax c) (w:World):Calls prog 178 #[.int .i32 b,.int .i32 c] w λe w'=>e=.returned (.int .i32 (gR 12 b c))/\w=w':=by
 unfold ax at _E7 _Ew
 by_cases h0:b=0
 .have b0:(b !=0)=false:=by simp [h0]
  have H0:=J h0;clear h0;go_enter func178,ntmps178;go_wp21;refine uW (kq _ _) ?_;exact MT
 .have b0:(b !=0)=true:=by simp [h0]
  have H0:=J h0;clear h0;go_enter func178,ntmps178;go_wp21;refine uW (kq _ _) ?_;go_wp21;go_ret;exact⟨cL (by unfold gR;rw [b0];rfl),rfl⟩
theorem amf (b c) (_E7:ax b) (_Ew:ax c) (w:World):Calls prog 179 #[.int .i32 b,.int .i32 c] w λe w'=>e=.returned (.int .i32 (gR 13 b c))/\w=w':=by
 unfold ax at _E7 _Ew
 by_cases h0:b=0
 .have b0:(b !=0)=false:=by simp [h0]
  have H0:=J h0;clear h0;go_enter func179,ntmps179;go_wp21;refine uW (kq _ _) ?_;exact MT
 .have b0:(b !=0)=true:=by simp [h0]
  have H0:=J h0;clear h0;go_enter func179,ntmps179;go_wp21;refine uW (kq _ _) ?_;go_wp21;go_ret;exact⟨cL (by unfold gR;rw [b0];rfl),rfl⟩
def eo (w:World) (base g n kc:Nat) (m:List Int):Prop:=w.ownsRow base 21 1 (.slice (some ⟨g,0,none⟩) n kc) n (bJ m)
section
variable {w w':World} {base g n kc:Nat} {m:List Int}
theorem fZ (m:List Int):(bJ m).length=m.length:=by simp [bJ]
theorem eo.inv (h:eo w base g n kc m):n=m.length/\∃du,base<=g/\w.heap[g]?=some (.cells du 21 (0,0))/\n<=kc/\kc<=maxLen/\du.size=kc/\du.toList.take n=bJ m:=by
 have hl:=h.1;rw [fZ,Nat.mul_one]at hl
 rcases h.2 with⟨hv,_⟩|⟨g',c,du,hv,hb,hc,zM,vG,gu,mN⟩
 .simp at hv
 .simp at hv
  obtain⟨rfl,rfl⟩:=hv;rw [Nat.mul_one]at gu mN;exact⟨hl.symm,du,hb,hc,zM,vG,gu,mN⟩
theorem eo.row (h:eo w base g n kc m):Row w g 0 (bJ m):=by
 obtain⟨hn,du,hb,hc,zM,vG,gu,mN⟩:=h.inv;refine⟨?_,?_,(Array.getElem?_eq_some_iff.1 hc).1⟩
 .unfold Proofs.YtnhelcmddjbafaaGreatDoor.has;rw [hc,fZ];simp;omega
 .unfold gets;rw [hc,fZ,<-hn];simp only [qW];rw [mN]
theorem eo.lt (h:eo w base g n kc m):g<w.heap.size:=h.row.lt
theorem eo.cell (h:eo w base g n kc m) (k) (hk:k<m.length):w.cell? ⟨g,k,none⟩=some (.int .i32 m[k]):=by
 have:=h.row.mem k hk
 rwa [dU]at this
theorem eo.frozen (h:eo w base g n kc m) (k:Nat):w.frozen? ⟨g,k,none⟩=false:=by
 obtain⟨hn,du,hb,hc,_⟩:=h.inv;simp [World.frozen?,hc]
theorem eo.kept {S} (h:eo w base g n kc m) (hk:Kept S w w') (hs:¬S g):eo w' base g n kc m:=dy h hk (λx hx=>by simp [Value.ownBlock]at hx;subst hx;exact hs)
theorem eo.ext (h:eo w base g n kc m) (hk:al w w'):eo w' base g n kc m:=aQ h hk
theorem eo.nI (h:eo w base g n kc m) {p:Addr} (hp:¬g=p.block) (u:Value):eo (w.setCell p u) base g n kc m:=
 h.kept (Kept.setCell (S:=(·=p.block)) (kR _ w) p u (λ_=>rfl)) hp
theorem eo.set (h:eo w base g n kc m) (k:Nat) (_hk:k<m.length) (v:Int):eo (w.setCell ⟨g,k,none⟩ (.int .i32 v)) base g n kc (m.set k v):=by
 obtain⟨hn,du,hb,hc,zM,vG,gu,mN⟩:=h.inv;refine⟨by rw [fZ];simp [hn],.inr ⟨g,kc,du.setIfInBounds k (.int .i32 v),rfl,hb,?_,zM,vG,by simpa using gu,?_⟩⟩
 .simp [World.setCell,Array.getElem?_modify,hc]
 .rw [Nat.mul_one,Array.toList_setIfInBounds,List.take_set,mN,bJ,bJ,List.map_set]
end
structure Stepped (w w':World) (base s g n kc:Nat) (r:Int×Int×List Int):Prop where
 st:oQ w' s 47 r.1 (some ⟨g,0,none⟩) n kc r.2.1
 mem:eo w' base g n kc r.2.2
 kept:Kept (λi=>i=s∨i=g) w w'
theorem Stepped.goal {w} {base s g n kc} {m} {pc halt} (hk:Kept (λi=>i=s∨i=g) w w2) (hs:oQ w2 s 47 pc (some ⟨g,0,none⟩) n kc halt) (hm:eo w2 base g n kc m) (oc:¬s=g) (fh:Int):
 Stepped w (w2.setCell ⟨s,0,none⟩ (.int .i64 fh)) base s g n kc (fh,halt,m):=
 ⟨aj.fw hs 0 (.int .i64 fh),hm.nI (λe=>oc e.symm) _,Kept.setCell hk _ _ (λ_=>.inl rfl)⟩
theorem Stepped.halt {w} {base s g n kc} {m} {pc halt} (hk:Kept (λi=>i=s∨i=g) w w2) (hs:oQ w2 s 47 pc (some ⟨g,0,none⟩) n kc halt) (hm:eo w2 base g n kc m) (oc:¬s=g) (aN:Int):
 Stepped w (w2.setCell ⟨s,2,none⟩ (.int .i64 aN)) base s g n kc (pc,aN,m):=
 ⟨aj.fw hs 2 (.int .i64 aN),hm.nI (λe=>oc e.symm) _,Kept.setCell hk _ _ (λ_=>.inl rfl)⟩
def cW (m:List Int) (i:Int):Int:=m.getD i.toNat 0
def fp (m:List Int) (i:Int) (v:Int):List Int:=m.set i.toNat v
def bt (i:Ins) (pc:Int) (m:List Int):Int×Int×List Int:=
 if i.op=0 then(pc,1+i.a,m)
 else if i.op=1 then(pc+1,0,fp m i.a i.b)
 else if i.op=2 then(pc+1,0,fp m i.a (cW m i.b))
 else if i.op=14 then(pc+1,0,fp m i.a (cT (cW m i.b==0)))
 else if i.op=15 then(pc+1,0,fp m i.a (cW m (gC i m)))
 else if i.op=16 then(pc+1,0,fp m (gC i m) (cW m i.c))
 else if i.op=17 then(pc+1,0,fp m i.a (min (max (cW m i.a) i.b) i.c))
 else if i.op=18 then(pc+1,0,fp m i.a (cT (decide (0<=cW m i.b)&&decide (cW m i.b<i.c))))
 else if i.op=19 then(i.a,0,m)
 else if i.op=20 then(if cW m i.b=0 then i.a else pc+1,0,m)
 else if i.op=21 then(if cW m i.b=0 then pc+1 else i.a,0,m)
 else(pc+1,0,fp m i.a (gR i.op.toNat (cW m i.b) (cW m i.c)))
def lost (i:Ins) (m:List Int):Bool:=decide (gC i m<0)&&(i.op==15||i.op==16)
def gT (c:List Ins) (pc:Int) (m:List Int):Int×Int×List Int:=
 match da c pc m.length with
 |none=>(pc,2,m)
 |some i=>if lost i m=true then(pc,2,m)else bt i pc m
structure dG (w:World) (base s g n kc q:Nat) (A:Option Addr) (b off cn:Nat) (c:List Ins) (pc:Int) (m:List Int):Prop where
 LB:n=m.length
 n1:1<=n
 n2:n<=256
 Dd:∀x∈m,ax x
 ops:OpsAt w
 st:oQ w s 47 pc (some ⟨g,0,none⟩) n kc 0
 mem:eo w base g n kc m
 map:mA w q (gV 11) 11
 cA:0<cn->A=some ⟨b,off,none⟩
 row:0<cn->Row w b off (cM c)
 XH:cn=c.length
 cn2:cn<=2048
 pc0:0<=pc
 pc1:pc<=2048
 sg:¬s=g
theorem nc {m} {k:Nat} (hk:k<m.length):cW m (k:Int)=m[k]:=by simp [cW,hk]
theorem iS {P} {fn} {R} {a} {w:World} (Fp:fn.results=#[]) (hd:a.defers=[]) (hR:R (.returned (.tuple #[])) w):bodyPost P fn R .ret a w:=
 bodyPost_ret (results_none Fp _ _ _) hd hR
theorem apX (w) (base s g n kc q) (A) (b off cn cap) (c) (pc) (m:List Int) (h:dG w base s g n kc q A b off cn c pc m) (a y z:Int) (ha:a=0∨a=1) (eU:da c pc n=some ⟨0,a,y,z⟩) (bS:aW ⟨0,a,y,z⟩ cn n=true):
 Calls prog 115 #[.pointer (some ⟨s,0,none⟩),.slice A cn cap,.map (some q)] w λe w'=>e=.returned (.tuple #[])/\Stepped w w' base s g n kc (bt ⟨0,a,y,z⟩ pc m):=by
 refine Hi ?_;clear h eU bS;intro ua kM dF dm dl jD ly mh oc qy CR CT vH HX HN HO my HA HR rv mz;go_wp21;refine Ba ?_;intro e w1 e1 aB;replace e1:e=.returned (.tuple #[.agg (Ins.cells ⟨0,a,y,z⟩),.bool true]):=by rw [e1,HX.o];rfl
 subst e1;have dW:=bN w1 71 (Ins.cells ⟨0,a,y,z⟩);have x1:=aB.alloc (.cells (Ins.cells ⟨0,a,y,z⟩) 71);have ed:=bX dF x1;have eT:=dm.ext x1;have jE:=dl.ext x1;have l1:=aB.size;go_upto_region 3 with(fail);generalize (w1.alloc (.cells (Ins.cells ⟨0,a,y,z⟩) 71))=W1 at dW x1 ed eT jE⊢;refine ni ?_;clear dW l1;intro ic dW l1 lP mX;go_wp21;refine(eh ⟨0,a,y,z⟩ cn s pc 0 g 0 n kc m _ HN.o kM mz.o HO.o ed eT.row).mono ?_;rintro e w2 ⟨e2,bM⟩;replace e2:e=.returned (.int .i64 (-1)):=by rw [e2];rfl
 subst e2;refine EI ?_;clear dW ed eT jE x1 bM lP mX;intro x2 kI gX eE td xQ jZ AO lI lS lG;have Rw:0<=a:=by omega
 have TX:a<=1:=by omega
 go_wp21;refine iS results115 rfl ⟨rfl,?_⟩;exact Stepped.halt (Kept.ext x2) gX eE oc _
theorem apY (w) (base s g n kc q) (A) (b off cn cap) (c) (pc) (m) (h:dG w base s g n kc q A b off cn c pc m) (a:Nat) (y z:Int) (ha:a<n) (hy1:-2147483648<=y) (hy2:y<=2147483647) (eU:da c pc n=some ⟨1,a,y,z⟩) (bS:aW ⟨1,a,y,z⟩ cn n=true):
 Calls prog 115 #[.pointer (some ⟨s,0,none⟩),.slice A cn cap,.map (some q)] w λe w'=>e=.returned (.tuple #[])/\Stepped w w' base s g n kc (bt ⟨1,a,y,z⟩ pc m):=by
 refine Hi ?_;clear h eU bS;intro ua kM dF dm dl jD ly mh oc qy CR CT vH HX HN HO my HA HR rv mz;go_wp21;refine Ba ?_;intro e w1 e1 aB;replace e1:e=.returned (.tuple #[.agg (Ins.cells ⟨1,a,y,z⟩),.bool true]):=by rw [e1,HX.o];rfl
 subst e1;have dW:=bN w1 71 (Ins.cells ⟨1,a,y,z⟩);have x1:=aB.alloc (.cells (Ins.cells ⟨1,a,y,z⟩) 71);have ed:=bX dF x1;have eT:=dm.ext x1;have jE:=dl.ext x1;have l1:=aB.size;go_upto_region 3 with(fail);generalize (w1.alloc (.cells (Ins.cells ⟨1,a,y,z⟩) 71))=W1 at dW x1 ed eT jE⊢;refine ni ?_;clear dW l1;intro ic dW l1 lP mX;go_wp21;refine(eh ⟨1,a,y,z⟩ cn s pc 0 g 0 n kc m _ HN.o kM mz.o HO.o ed eT.row).mono ?_;rintro e w2 ⟨e2,bM⟩;replace e2:e=.returned (.int .i64 (-1)):=by rw [e2];rfl
 subst e2;refine EI ?_;clear dW ed eT jE x1 bM lP mX;intro x2 kI gX eE td xQ jZ AO lI lS lG;have nl:a<m.length:=by have:=HN.o;omega
 have JJ:(a:Int)<n:=by omega
 have Gl:=eE.cell a nl;have KS:=eE.frozen;have hwb:IntKind.i32.wrap y=y:=by rw [IntKind.wrap_i32];omega
 have HE:gq (bt ⟨1,a,y,z⟩ pc m=(pc+1,0,m.set a y)):=J (by simp [bt,fp]);go_upto_region 32 with(fail);have rj:=aj.nI gX (p:=⟨g,a,none⟩) oc (.int .i32 (y));have vE:=eE.set a nl (y);have iz:Kept (λi=>i=s∨i=g) w (w2.setCell ⟨g,a,none⟩ (.int .i32 (y))):=Kept.setCell (Kept.ext x2) _ _ (λ_=>.inr rfl);generalize w2.setCell ⟨g,a,none⟩ (.int .i32 y)=W3 at rj vE iz⊢;exact Ay
theorem apZ (w) (base s g n kc q) (A) (b off cn cap) (c) (pc) (m) (h:dG w base s g n kc q A b off cn c pc m) (a y:Nat) (z:Int) (ha:a<n) (hy:y<n) (eU:da c pc n=some ⟨2,a,y,z⟩) (bS:aW ⟨2,a,y,z⟩ cn n=true):
 Calls prog 115 #[.pointer (some ⟨s,0,none⟩),.slice A cn cap,.map (some q)] w λe w'=>e=.returned (.tuple #[])/\Stepped w w' base s g n kc (bt ⟨2,a,y,z⟩ pc m):=by
 refine Hi ?_;clear h eU bS;intro ua kM dF dm dl jD ly mh oc qy CR CT vH HX HN HO my HA HR rv mz;go_wp21;refine Ba ?_;intro e w1 e1 aB;replace e1:e=.returned (.tuple #[.agg (Ins.cells ⟨2,a,y,z⟩),.bool true]):=by rw [e1,HX.o];rfl
 subst e1;have dW:=bN w1 71 (Ins.cells ⟨2,a,y,z⟩);have x1:=aB.alloc (.cells (Ins.cells ⟨2,a,y,z⟩) 71);have ed:=bX dF x1;have eT:=dm.ext x1;have jE:=dl.ext x1;have l1:=aB.size;clear dF dm dl aB;go_upto_region 3 with(fail);generalize (w1.alloc (.cells (Ins.cells ⟨2,a,y,z⟩) 71))=W1 at dW x1 ed eT jE⊢;refine ni ?_;clear dW l1;intro ic dW l1 lP mX;go_wp21;refine(eh ⟨2,a,y,z⟩ cn s pc 0 g 0 n kc m _ HN.o kM mz.o HO.o ed eT.row).mono ?_;rintro e w2 ⟨e2,bM⟩;replace e2:e=.returned (.int .i64 (-1)):=by rw [e2];rfl
 subst e2;refine EI ?_;clear dW ed eT jE x1 bM lP mX;intro x2 kI gX eE td xQ jZ AO lI lS lG;have nl:a<m.length:=by have:=HN.o;omega
 have JJ:(a:Int)<n:=by omega
 have qh:y<m.length:=by have:=HN.o;omega
 have Nk:(y:Int)<n:=by omega
 have Gl:=eE.cell a nl;have KS:=eE.frozen;have hcY:=eE.cell y qh;obtain⟨v,hv⟩:=nm' (m[y]);have HE:gq (bt ⟨2,a,y,z⟩ pc m=(pc+1,0,m.set a v)):=J (by simp [bt,fp,nc qh,hv]);have HV:=J hv;clear hv;go_upto_region 15 with(fail);refine eW (λw3=>al w2 w3) [(0,2),(1,2),(2,1),(3,2),(4,2),(5,1),(6,2),(7,1),(8,2),(9,0)] ?_;refine eX ?_;refine amB ?_;exact anb
theorem alT (w) (base s g n kc q) (A) (b off cn cap) (c) (pc) (m) (h:dG w base s g n kc q A b off cn c pc m) (a y:Nat) (z:Int) (ha:a<n) (hy:y<n) (eU:da c pc n=some ⟨14,a,y,z⟩) (bS:aW ⟨14,a,y,z⟩ cn n=true):
 Calls prog 115 #[.pointer (some ⟨s,0,none⟩),.slice A cn cap,.map (some q)] w λe w'=>e=.returned (.tuple #[])/\Stepped w w' base s g n kc (bt ⟨14,a,y,z⟩ pc m):=by
 refine Hi ?_;clear h eU bS;intro ua kM dF dm dl jD ly mh oc qy CR CT vH HX HN HO my HA HR rv mz;go_wp21;refine Ba ?_;intro e w1 e1 aB;replace e1:e=.returned (.tuple #[.agg (Ins.cells ⟨14,a,y,z⟩),.bool true]):=by rw [e1,HX.o];rfl
 subst e1;have dW:=bN w1 71 (Ins.cells ⟨14,a,y,z⟩);have x1:=aB.alloc (.cells (Ins.cells ⟨14,a,y,z⟩) 71);have ed:=bX dF x1;have eT:=dm.ext x1;have jE:=dl.ext x1;have l1:=aB.size;clear dF dm dl aB;go_upto_region 3 with(fail);generalize (w1.alloc (.cells (Ins.cells ⟨14,a,y,z⟩) 71))=W1 at dW x1 ed eT jE⊢;refine ni ?_;clear dW l1;intro ic dW l1 lP mX;go_wp21;refine(eh ⟨14,a,y,z⟩ cn s pc 0 g 0 n kc m _ HN.o kM mz.o HO.o ed eT.row).mono ?_;rintro e w2 ⟨e2,bM⟩;replace e2:e=.returned (.int .i64 (-1)):=by rw [e2];rfl
 subst e2;refine EI ?_;clear dW ed eT jE x1 bM lP mX;intro x2 kI gX eE td xQ jZ AO lI lS lG;have nl:a<m.length:=by have:=HN.o;omega
 have JJ:(a:Int)<n:=by omega
 have qh:y<m.length:=by have:=HN.o;omega
 have Nk:(y:Int)<n:=by omega
 have Gl:=eE.cell a nl;have KS:=eE.frozen;obtain⟨v,hv⟩:=nm' (m[y]);have vO:gq (ax v):=J vj;have HE:gq (bt ⟨14,a,y,z⟩ pc m=(pc+1,0,m.set a (cT (v==0)))):=J (by simp [bt,fp,nc qh,hv]);have HV:=J hv;clear hv;go_upto_region 17 with(fail);refine eW (λw3=>al w2 w3) [(0,2),(1,2),(2,1),(3,2),(4,2),(5,1),(6,2),(7,1),(8,2),(9,0),(10,2),(11,0)] ?_;refine eX ?_;refine amB ?_;refine ap (λK hK=>?_);go_simp;go_wp21;refine uW (kq _ _) ?_;refine hK.out _ _ (λh=>h) ?_;clear hK K;refine fc ?_;have rj:oQ (w2.setCell ⟨g,a,none⟩ (.int .i32 (cT (v==0)))).drew s 47 pc (some ⟨g,0,none⟩) n kc 0:=aj.nI gX (p:=⟨g,a,none⟩) oc (.int .i32 (cT (v==0)));have vE:eo (w2.setCell ⟨g,a,none⟩ (.int .i32 (cT (v==0)))).drew base g n kc (m.set a (cT (v==0))):=(eE.set a nl (cT (v==0))).ext ((kR _ _).drew);have iz:Kept (λi=>i=s∨i=g) w (w2.setCell ⟨g,a,none⟩ (.int .i32 (cT (v==0)))).drew:=(Kept.setCell (Kept.ext x2) _ _ (λ_=>.inr rfl)).drew;generalize (w2.setCell ⟨g,a,none⟩ (.int .i32 (cT (v==0)))).drew=W3 at rj vE iz⊢;exact Ay
theorem alU (w) (base s g n kc q) (A) (b off cn cap) (c) (pc) (m) (h:dG w base s g n kc q A b off cn c pc m) (a y z p:Nat) (ha:a<n) (hp:p<n) (tZ:gC ⟨15,a,y,z⟩ m=(p:Int)) (eU:da c pc n=some ⟨15,a,y,z⟩) (bS:aW ⟨15,a,y,z⟩ cn n=true):
 Calls prog 115 #[.pointer (some ⟨s,0,none⟩),.slice A cn cap,.map (some q)] w λe w'=>e=.returned (.tuple #[])/\Stepped w w' base s g n kc (bt ⟨15,a,y,z⟩ pc m):=by
 obtain⟨hn,ua,kM,iB,eN,dF,dm,dl,tf,aG,tg,jD,ly,mh,oc⟩:=h;have qy:=dF.lt;have CR:=dm.lt;have CT:=dl.lt;have vH:¬g=s:=λe=>oc e.symm;have⟨HX,HN,HO,my,HA,HR,rv,mz,HF⟩:=J9' eU hn iB eN tf aG tg bS tZ;clear tZ eU hn iB eN tf aG tg bS;go_enter func115,ntmps115;go_wp21;refine Ba ?_;intro e w1 e1 aB;replace e1:e=.returned (.tuple #[.agg (Ins.cells ⟨15,a,y,z⟩),.bool true]):=by rw [e1,HX.o];rfl
 subst e1;have dW:=bN w1 71 (Ins.cells ⟨15,a,y,z⟩);have x1:=aB.alloc (.cells (Ins.cells ⟨15,a,y,z⟩) 71);have ed:=bX dF x1;have eT:=dm.ext x1;have jE:=dl.ext x1;have l1:=aB.size;clear dF dm dl aB;go_upto_region 3 with(fail);generalize (w1.alloc (.cells (Ins.cells ⟨15,a,y,z⟩) 71))=W1 at dW x1 ed eT jE⊢;refine ni ?_;clear dW l1;intro ic dW l1 lP mX;go_wp21;refine(eh ⟨15,a,y,z⟩ cn s pc 0 g 0 n kc m _ HN.o kM mz.o HO.o ed eT.row).mono ?_;rintro e w2 ⟨e2,bM⟩;replace e2:e=.returned (.int .i64 (p)):=by rw [e2];rw [HF.o]
 subst e2;refine EI ?_;clear dW ed eT jE x1 bM lP mX;intro x2 kI gX eE td xQ jZ AO lI lS lG;have nl:a<m.length:=by have:=HN.o;omega
 have JJ:(a:Int)<n:=by omega
 have qf:p<m.length:=by have:=HN.o;omega
 have hpI:(p:Int)<n:=by omega
 have Gl:=eE.cell a nl;have KS:=eE.frozen;obtain⟨v,hv⟩:=nm' (m[p]);have vO:gq (ax v):=J (by rw [hv];exact HO.o _ (cK qf));have HE:gq (bt ⟨15,a,y,z⟩ pc m=(pc+1,0,m.set a v)):=J (by simp [bt,fp,HF.o,nc qf,hv]);have HV:=J hv;clear hv;go_upto_region 19 with(fail);refine eW (λw3=>al w2 w3) [(0,2),(1,2),(2,1),(3,2),(4,2),(5,2),(6,1),(7,2),(8,0)] ?_;refine eX ?_
 repeat first|refine bV ?_|refine cF dQ (by intro w1 hS;have d1:=bC (bX kI hS);have d2:=(eE.ext hS).cell p qf;rw [<-HV.o]at d2;exact fE) ?_|refine cD dQ ?_
 exact anb
theorem alV (w) (base s g n kc q) (A) (b off cn cap) (c) (pc) (m) (h:dG w base s g n kc q A b off cn c pc m) (x y z a:Nat) (ha:a<n) (hz:z<n) (tZ:gC ⟨16,x,y,z⟩ m=(a:Int)) (eU:da c pc n=some ⟨16,x,y,z⟩) (bS:aW ⟨16,x,y,z⟩ cn n=true):
 Calls prog 115 #[.pointer (some ⟨s,0,none⟩),.slice A cn cap,.map (some q)] w λe w'=>e=.returned (.tuple #[])/\Stepped w w' base s g n kc (bt ⟨16,x,y,z⟩ pc m):=by
 obtain⟨hn,ua,kM,iB,eN,dF,dm,dl,tf,aG,tg,jD,ly,mh,oc⟩:=h;have qy:=dF.lt;have CR:=dm.lt;have CT:=dl.lt;have vH:¬g=s:=λe=>oc e.symm;have⟨HX,HN,HO,my,HA,HR,rv,mz,HF⟩:=J9' eU hn iB eN tf aG tg bS tZ;clear tZ eU hn iB eN tf aG tg bS;go_enter func115,ntmps115;go_wp21;refine Ba ?_;intro e w1 e1 aB;replace e1:e=.returned (.tuple #[.agg (Ins.cells ⟨16,x,y,z⟩),.bool true]):=by rw [e1,HX.o];rfl
 subst e1;have dW:=bN w1 71 (Ins.cells ⟨16,x,y,z⟩);have x1:=aB.alloc (.cells (Ins.cells ⟨16,x,y,z⟩) 71);have ed:=bX dF x1;have eT:=dm.ext x1;have jE:=dl.ext x1;have l1:=aB.size;clear dF dm dl aB;go_upto_region 3 with(fail);generalize (w1.alloc (.cells (Ins.cells ⟨16,x,y,z⟩) 71))=W1 at dW x1 ed eT jE⊢;refine ni ?_;clear dW l1;intro ic dW l1 lP mX;go_wp21;refine(eh ⟨16,x,y,z⟩ cn s pc 0 g 0 n kc m _ HN.o kM mz.o HO.o ed eT.row).mono ?_;rintro e w2 ⟨e2,bM⟩;replace e2:e=.returned (.int .i64 (a)):=by rw [e2];rw [HF.o]
 subst e2;refine EI ?_;clear dW ed eT jE x1 bM lP mX;intro x2 kI gX eE td xQ jZ AO lI lS lG;have nl:a<m.length:=by have:=HN.o;omega
 have JJ:(a:Int)<n:=by omega
 have sd:z<m.length:=by have:=HN.o;omega
 have OH:(z:Int)<n:=by omega
 have Gl:=eE.cell a nl;have KS:=eE.frozen;obtain⟨v,hv⟩:=nm' (m[z]);have vO:gq (ax v):=J (by rw [hv];exact HO.o _ (cK sd));have HE:gq (bt ⟨16,x,y,z⟩ pc m=(pc+1,0,m.set a v)):=J (by simp [bt,fp,HF.o,nc sd,hv]);have hcZ:=eE.cell z sd;rw [<-hv]at hcZ;have HV:=J hv;clear hv;go_upto_region 32 with(fail);have rj:=aj.nI gX (p:=⟨g,a,none⟩) oc (.int .i32 (v));have vE:=eE.set a nl (v);have iz:Kept (λi=>i=s∨i=g) w (w2.setCell ⟨g,a,none⟩ (.int .i32 (v))):=Kept.setCell (Kept.ext x2) _ _ (λ_=>.inr rfl);generalize w2.setCell ⟨g,a,none⟩ (.int .i32 v)=W3 at rj vE iz⊢;exact Ay
theorem alW (w) (base s g n kc q) (A) (b off cn cap) (c:List Ins) (pc:Int) (m:List Int) (h:dG w base s g n kc q A b off cn c pc m) (a:Nat) (y z:Int) (ha:a<n) (hy1:-2147483648<=y) (hy2:y<=2147483647) (hz1:-2147483648<=z) (hz2:z<=2147483647) (eU:da c pc n=some ⟨17,a,y,z⟩) (bS:aW ⟨17,a,y,z⟩ cn n=true):
 Calls prog 115 #[.pointer (some ⟨s,0,none⟩),.slice A cn cap,.map (some q)] w λe w'=>e=.returned (.tuple #[])/\Stepped w w' base s g n kc (bt ⟨17,a,y,z⟩ pc m):=by
 refine Hi ?_;clear h eU bS;intro ua kM dF dm dl jD ly mh oc qy CR CT vH HX HN HO my HA HR rv mz;go_wp21;refine Ba ?_;intro e w1 e1 aB;replace e1:e=.returned (.tuple #[.agg (Ins.cells ⟨17,a,y,z⟩),.bool true]):=by rw [e1,HX.o];rfl
 subst e1;have dW:=bN w1 71 (Ins.cells ⟨17,a,y,z⟩);have x1:=aB.alloc (.cells (Ins.cells ⟨17,a,y,z⟩) 71);have ed:=bX dF x1;have eT:=dm.ext x1;have jE:=dl.ext x1;have l1:=aB.size;clear dF dm dl aB;go_upto_region 3 with(fail);generalize (w1.alloc (.cells (Ins.cells ⟨17,a,y,z⟩) 71))=W1 at dW x1 ed eT jE⊢;refine ni ?_;clear dW l1;intro ic dW l1 lP mX;go_wp21;refine(eh ⟨17,a,y,z⟩ cn s pc 0 g 0 n kc m _ HN.o kM mz.o HO.o ed eT.row).mono ?_;rintro e w2 ⟨e2,bM⟩;replace e2:e=.returned (.int .i64 (-1)):=by rw [e2];rfl
 subst e2;refine EI ?_;clear dW ed eT jE x1 bM lP mX;intro x2 kI gX eE td xQ jZ AO lI lS lG;have nl:a<m.length:=by have:=HN.o;omega
 have JJ:(a:Int)<n:=by omega
 have Gl:=eE.cell a nl;have KS:=eE.frozen;obtain⟨v,hv⟩:=nm' (m[a]);have vO:gq (ax v):=J (by rw [hv];exact HO.o _ (cK nl));have hwy:IntKind.i32.wrap y=y:=by rw [IntKind.wrap_i32];omega
 have hwz:IntKind.i32.wrap z=z:=by rw [IntKind.wrap_i32];omega
 have HE:gq (bt ⟨17,a,y,z⟩ pc m=(pc+1,0,m.set a (min (max v y) z))):=J (by simp [bt,fp,nc nl,hv]);have HV:=J hv;clear hv;go_upto_region 23 with(fail);refine eW (λw3=>al w2 w3) [(0,2),(1,2),(2,1),(3,2),(4,2),(5,1),(6,2),(7,1),(8,2),(9,1),(10,1),(11,1),(12,2),(13,1),(14,1),(15,1),(16,2),(17,0)] ?_;refine eX ?_
 repeat first|refine bV ?_|refine cF dQ (by intro w1 hS;have d1:=bC (bX kI hS);have d2:=(eE.ext hS).cell a nl;rw [<-HV.o]at d2;exact fE) ?_|refine cD dQ ?_
 refine fc ?_;have rj:oQ (w2.setCell ⟨g,a,none⟩ (.int .i32 (min (max v y) z))).drew s 47 pc (some ⟨g,0,none⟩) n kc 0:=aj.nI gX (p:=⟨g,a,none⟩) oc (.int .i32 (min (max v y) z));have vE:eo (w2.setCell ⟨g,a,none⟩ (.int .i32 (min (max v y) z))).drew base g n kc (m.set a (min (max v y) z)):=(eE.set a nl (min (max v y) z)).ext ((kR _ _).drew);have iz:Kept (λi=>i=s∨i=g) w (w2.setCell ⟨g,a,none⟩ (.int .i32 (min (max v y) z))).drew:=(Kept.setCell (Kept.ext x2) _ _ (λ_=>.inr rfl)).drew;generalize (w2.setCell ⟨g,a,none⟩ (.int .i32 (min (max v y) z))).drew=W3 at rj vE iz⊢;exact Ay
theorem alX (w) (base s g n kc q) (A) (b off cn cap) (c:List Ins) (pc:Int) (m:List Int) (h:dG w base s g n kc q A b off cn c pc m) (a y:Nat) (z:Int) (ha:a<n) (hy:y<n) (_aqT:0<=z) (_aqU:z<=2147483647) (eU:da c pc n=some ⟨18,a,y,z⟩) (bS:aW ⟨18,a,y,z⟩ cn n=true):
 Calls prog 115 #[.pointer (some ⟨s,0,none⟩),.slice A cn cap,.map (some q)] w λe w'=>e=.returned (.tuple #[])/\Stepped w w' base s g n kc (bt ⟨18,a,y,z⟩ pc m):=by
 refine Hi ?_;clear h eU bS;intro ua kM dF dm dl jD ly mh oc qy CR CT vH HX HN HO my HA HR rv mz;go_wp21;refine Ba ?_;intro e w1 e1 aB;replace e1:e=.returned (.tuple #[.agg (Ins.cells ⟨18,a,y,z⟩),.bool true]):=by rw [e1,HX.o];rfl
 subst e1;have dW:=bN w1 71 (Ins.cells ⟨18,a,y,z⟩);have x1:=aB.alloc (.cells (Ins.cells ⟨18,a,y,z⟩) 71);have ed:=bX dF x1;have eT:=dm.ext x1;have jE:=dl.ext x1;have l1:=aB.size;clear dF dm dl aB;go_upto_region 3 with(fail);generalize (w1.alloc (.cells (Ins.cells ⟨18,a,y,z⟩) 71))=W1 at dW x1 ed eT jE⊢;refine ni ?_;clear dW l1;intro ic dW l1 lP mX;go_wp21;refine(eh ⟨18,a,y,z⟩ cn s pc 0 g 0 n kc m _ HN.o kM mz.o HO.o ed eT.row).mono ?_;rintro e w2 ⟨e2,bM⟩;replace e2:e=.returned (.int .i64 (-1)):=by rw [e2];rfl
 subst e2;refine EI ?_;clear dW ed eT jE x1 bM lP mX;intro x2 kI gX eE td xQ jZ AO lI lS lG;have nl:a<m.length:=by have:=HN.o;omega
 have JJ:(a:Int)<n:=by omega
 have qh:y<m.length:=by have:=HN.o;omega
 have Nk:(y:Int)<n:=by omega
 have Gl:=eE.cell a nl;have KS:=eE.frozen;obtain⟨v,hv⟩:=nm' (m[y]);have vO:gq (ax v):=J vj;have HE:gq (bt ⟨18,a,y,z⟩ pc m=(pc+1,0,m.set a (cT (decide (0<=v)&&decide (v<z))))):=J (by simp [bt,fp,nc qh,hv]);have HV:=J hv;obtain⟨oE,Nj⟩:-2147483648<=v/\v<=2147483647:=vO.o;have uT:IntKind.i64.wrap v=v:=by rw [jH];omega
 clear hv;go_upto_region 25 with(fail)
 by_cases jB:0<=v
 .have b0:decide (0<=v)=true:=by simpa using jB
  refine eW (λw3=>al w2 w3) [(0,2),(1,2),(2,1),(3,2),(4,2),(5,1),(6,2),(7,1),(8,2),(9,2),(10,2),(11,2),(12,1),(13,2),(14,1),(15,1),(16,2),(17,1),(18,2),(19,2),(20,0),(21,2),(22,0)] ?_;refine eX ?_;refine amB ?_;refine ap (λK hK=>?_);go_simp;go_wp21;refine uW (kq _ _) ?_;refine hK.out _ _ (λh=>h) ?_;clear hK K;refine fc ?_;have ev:cT (decide (v<z))=cT (decide (0<=v)&&decide (v<z)):=by rw [b0];rfl
  exact amY
 .have b0:decide (0<=v)=false:=by simpa using jB
  refine eW (λw3=>al w2 w3) [(0,2),(1,2),(2,1),(3,2),(4,2),(5,1),(6,2),(7,1),(8,2),(9,2),(10,2),(11,2),(12,1),(13,2),(14,1),(15,1),(16,2),(17,1),(18,2),(19,2),(20,0),(21,2),(22,0)] ?_;refine eX ?_;refine amB ?_;refine ap (λK hK=>?_);go_simp;go_wp21;refine uW (kq _ _) ?_;refine hK.out _ _ (λh=>h) ?_;clear hK K;refine fc ?_;have ev:cT false=cT (decide (0<=v)&&decide (v<z)):=by rw [b0];rfl
  exact amY
theorem alY (w) (base s g n kc q) (A) (b off cn cap) (c) (pc) (m:List Int) (h:dG w base s g n kc q A b off cn c pc m) (a:Nat) (y z:Int) (eU:da c pc n=some ⟨19,a,y,z⟩) (bS:aW ⟨19,a,y,z⟩ cn n=true):
 Calls prog 115 #[.pointer (some ⟨s,0,none⟩),.slice A cn cap,.map (some q)] w λe w'=>e=.returned (.tuple #[])/\Stepped w w' base s g n kc (bt ⟨19,a,y,z⟩ pc m):=by
 refine Hi ?_;clear h eU bS;intro ua kM dF dm dl jD ly mh oc qy CR CT vH HX HN HO my HA HR rv mz;go_wp21;refine Ba ?_;intro e w1 e1 aB;replace e1:e=.returned (.tuple #[.agg (Ins.cells ⟨19,a,y,z⟩),.bool true]):=by rw [e1,HX.o];rfl
 subst e1;have dW:=bN w1 71 (Ins.cells ⟨19,a,y,z⟩);have x1:=aB.alloc (.cells (Ins.cells ⟨19,a,y,z⟩) 71);have ed:=bX dF x1;have eT:=dm.ext x1;have jE:=dl.ext x1;have l1:=aB.size;clear dF dm dl aB;go_upto_region 3 with(fail);generalize (w1.alloc (.cells (Ins.cells ⟨19,a,y,z⟩) 71))=W1 at dW x1 ed eT jE⊢;refine ni ?_;clear dW l1;intro ic dW l1 lP mX;go_wp21;refine(eh ⟨19,a,y,z⟩ cn s pc 0 g 0 n kc m _ HN.o kM mz.o HO.o ed eT.row).mono ?_;rintro e w2 ⟨e2,bM⟩;replace e2:e=.returned (.int .i64 (-1)):=by rw [e2];rfl
 subst e2;refine EI ?_;clear dW ed eT jE x1 bM lP mX;intro x2 kI gX eE td xQ jZ AO lI lS lG;have HE:gq (bt ⟨19,a,y,z⟩ pc m=((a:Int),0,m)):=J (by simp [bt]);have rj:=gX;have vE:=eE;have iz:Kept (λi=>i=s∨i=g) w w2:=Kept.ext x2;exact Ay
theorem alZ (w) (base s g n kc q) (A) (b off cn cap) (c) (pc) (m:List Int) (h:dG w base s g n kc q A b off cn c pc m) (a y:Nat) (z:Int) (hy:y<n) (eU:da c pc n=some ⟨20,a,y,z⟩) (bS:aW ⟨20,a,y,z⟩ cn n=true):
 Calls prog 115 #[.pointer (some ⟨s,0,none⟩),.slice A cn cap,.map (some q)] w λe w'=>e=.returned (.tuple #[])/\Stepped w w' base s g n kc (bt ⟨20,a,y,z⟩ pc m):=by
 refine Hi ?_;clear h eU bS;intro ua kM dF dm dl jD ly mh oc qy CR CT vH HX HN HO my HA HR rv mz;go_wp21;refine Ba ?_;intro e w1 e1 aB;replace e1:e=.returned (.tuple #[.agg (Ins.cells ⟨20,a,y,z⟩),.bool true]):=by rw [e1,HX.o];rfl
 subst e1;have dW:=bN w1 71 (Ins.cells ⟨20,a,y,z⟩);have x1:=aB.alloc (.cells (Ins.cells ⟨20,a,y,z⟩) 71);have ed:=bX dF x1;have eT:=dm.ext x1;have jE:=dl.ext x1;have l1:=aB.size;clear dF dm dl aB;go_upto_region 3 with(fail);generalize (w1.alloc (.cells (Ins.cells ⟨20,a,y,z⟩) 71))=W1 at dW x1 ed eT jE⊢;refine ni ?_;clear dW l1;intro ic dW l1 lP mX;go_wp21;refine(eh ⟨20,a,y,z⟩ cn s pc 0 g 0 n kc m _ HN.o kM mz.o HO.o ed eT.row).mono ?_;rintro e w2 ⟨e2,bM⟩;replace e2:e=.returned (.int .i64 (-1)):=by rw [e2];rfl
 subst e2;refine EI ?_;clear dW ed eT jE x1 bM lP mX;intro x2 kI gX eE td xQ jZ AO lI lS lG;have qh:y<m.length:=by have:=HN.o;omega
 have Nk:(y:Int)<n:=by omega
 obtain⟨v,hv⟩:=nm' (m[y]);have vO:gq (ax v):=J vj;have HV:=J hv
 by_cases hz:v=0
 .have b0:(v==0)=true:=by simp [hz]
  have HE:gq (bt ⟨20,a,y,z⟩ pc m=((a:Int),0,m)):=J adl;exact adz
 .have b0:(v==0)=false:=by simp [hz]
  have HE:gq (bt ⟨20,a,y,z⟩ pc m=(pc+1,0,m)):=J adl;exact adz
theorem ama (w) (base s g n kc q) (A) (b off cn cap) (c) (pc) (m:List Int) (h:dG w base s g n kc q A b off cn c pc m) (a y:Nat) (z:Int) (hy:y<n) (eU:da c pc n=some ⟨21,a,y,z⟩) (bS:aW ⟨21,a,y,z⟩ cn n=true):
 Calls prog 115 #[.pointer (some ⟨s,0,none⟩),.slice A cn cap,.map (some q)] w λe w'=>e=.returned (.tuple #[])/\Stepped w w' base s g n kc (bt ⟨21,a,y,z⟩ pc m):=by
 refine Hi ?_;clear h eU bS;intro ua kM dF dm dl jD ly mh oc qy CR CT vH HX HN HO my HA HR rv mz;go_wp21;refine Ba ?_;intro e w1 e1 aB;replace e1:e=.returned (.tuple #[.agg (Ins.cells ⟨21,a,y,z⟩),.bool true]):=by rw [e1,HX.o];rfl
 subst e1;have dW:=bN w1 71 (Ins.cells ⟨21,a,y,z⟩);have x1:=aB.alloc (.cells (Ins.cells ⟨21,a,y,z⟩) 71);have ed:=bX dF x1;have eT:=dm.ext x1;have jE:=dl.ext x1;have l1:=aB.size;clear dF dm dl aB;go_upto_region 3 with(fail);generalize (w1.alloc (.cells (Ins.cells ⟨21,a,y,z⟩) 71))=W1 at dW x1 ed eT jE⊢;refine ni ?_;clear dW l1;intro ic dW l1 lP mX;go_wp21;refine(eh ⟨21,a,y,z⟩ cn s pc 0 g 0 n kc m _ HN.o kM mz.o HO.o ed eT.row).mono ?_;rintro e w2 ⟨e2,bM⟩;replace e2:e=.returned (.int .i64 (-1)):=by rw [e2];rfl
 subst e2;refine EI ?_;clear dW ed eT jE x1 bM lP mX;intro x2 kI gX eE td xQ jZ AO lI lS lG;have qh:y<m.length:=by have:=HN.o;omega
 have Nk:(y:Int)<n:=by omega
 obtain⟨v,hv⟩:=nm' (m[y]);have vO:gq (ax v):=J vj;have HV:=J hv
 by_cases hz:v=0
 .have b0:(v==0)=true:=by simp [hz]
  have HE:gq (bt ⟨21,a,y,z⟩ pc m=(pc+1,0,m)):=J adl;exact adz
 .have b0:(v==0)=false:=by simp [hz]
  have HE:gq (bt ⟨21,a,y,z⟩ pc m=((a:Int),0,m)):=J adl;exact adz
theorem aqa (w) (base s g n kc q) (A) (b off cn cap) (c) (pc) (m) (h:dG w base s g n kc q A b off cn c pc m) (a y z:Nat) (ha:a<n) (hy:y<n) (hz:z<n) (eU:da c pc n=some ⟨3,a,y,z⟩) (bS:aW ⟨3,a,y,z⟩ cn n=true):
 Calls prog 115 #[.pointer (some ⟨s,0,none⟩),.slice A cn cap,.map (some q)] w λe w'=>e=.returned (.tuple #[])/\Stepped w w' base s g n kc (bt ⟨3,a,y,z⟩ pc m):=by
 refine Hi ?_;clear h eU bS;intro ua kM dF dm dl jD ly mh oc qy CR CT vH HX HN HO my HA HR rv mz;go_wp21;refine Ba ?_;intro e w1 e1 aB;replace e1:e=.returned (.tuple #[.agg (Ins.cells ⟨3,a,y,z⟩),.bool true]):=by rw [e1,HX.o];rfl
 subst e1;have dW:=bN w1 71 (Ins.cells ⟨3,a,y,z⟩);have x1:=aB.alloc (.cells (Ins.cells ⟨3,a,y,z⟩) 71);have ed:=bX dF x1;have eT:=dm.ext x1;have jE:=dl.ext x1;have l1:=aB.size;clear dF dm dl aB;go_upto_region 3 with(fail);generalize (w1.alloc (.cells (Ins.cells ⟨3,a,y,z⟩) 71))=W1 at dW x1 ed eT jE⊢;refine ni ?_;clear dW l1;intro ic dW l1 lP mX;go_wp21;refine(eh ⟨3,a,y,z⟩ cn s pc 0 g 0 n kc m _ HN.o kM mz.o HO.o ed eT.row).mono ?_;rintro e w2 ⟨e2,bM⟩;replace e2:e=.returned (.int .i64 (-1)):=by rw [e2];rfl
 subst e2;refine EI ?_;clear dW ed eT jE x1 bM lP mX;intro x2 kI gX eE td xQ jZ AO lI lS lG;have nl:a<m.length:=by have:=HN.o;omega
 have JJ:(a:Int)<n:=by omega
 have qh:y<m.length:=by have:=HN.o;omega
 have Nk:(y:Int)<n:=by omega
 have sd:z<m.length:=by have:=HN.o;omega
 have OH:(z:Int)<n:=by omega
 have Gl:=eE.cell a nl;have KS:=eE.frozen;obtain⟨v,hv⟩:=nm' (m[y]);have vO:gq (ax v):=J vj;obtain⟨u,hu⟩:=nm' (m[z]);have EU:gq (ax u):=J Ei;have HE:gq (bt ⟨3,a,y,z⟩ pc m=(pc+1,0,m.set a (gR 3 v u))):=J Eh;have HV:=J hv;have HU:=J hu;clear hv hu;go_upto_region 9 with(fail);refine zy8 ?_
 repeat first|refine bV ?_|refine cF dQ (by intro w1 hS;have d1:=bC (bX kI hS);have d2:=(eE.ext hS).cell y qh;rw [<-HV.o]at d2;have d3:=(eE.ext hS).cell z sd;rw [<-HU.o]at d3;have d4:=si _ q 3 (.func (.func 168) #[] #[]) 0 (td.ext hS) dZ;exact fE) ?_|refine cD dQ ?_
 refine ap (λK hK=>?_);go_simp;go_wp21;refine uW (aqi v u vO.o EU.o _) ?_;refine hK.out _ _ (λh=>h) ?_;clear hK K;obtain⟨t,ht⟩:=nm' (gR 3 v u);exact Em
theorem aqb (w) (base s g n kc q) (A) (b off cn cap) (c) (pc) (m) (h:dG w base s g n kc q A b off cn c pc m) (a y z:Nat) (ha:a<n) (hy:y<n) (hz:z<n) (eU:da c pc n=some ⟨4,a,y,z⟩) (bS:aW ⟨4,a,y,z⟩ cn n=true):
 Calls prog 115 #[.pointer (some ⟨s,0,none⟩),.slice A cn cap,.map (some q)] w λe w'=>e=.returned (.tuple #[])/\Stepped w w' base s g n kc (bt ⟨4,a,y,z⟩ pc m):=by
 refine Hi ?_;clear h eU bS;intro ua kM dF dm dl jD ly mh oc qy CR CT vH HX HN HO my HA HR rv mz;go_wp21;refine Ba ?_;intro e w1 e1 aB;replace e1:e=.returned (.tuple #[.agg (Ins.cells ⟨4,a,y,z⟩),.bool true]):=by rw [e1,HX.o];rfl
 subst e1;have dW:=bN w1 71 (Ins.cells ⟨4,a,y,z⟩);have x1:=aB.alloc (.cells (Ins.cells ⟨4,a,y,z⟩) 71);have ed:=bX dF x1;have eT:=dm.ext x1;have jE:=dl.ext x1;have l1:=aB.size;clear dF dm dl aB;go_upto_region 3 with(fail);generalize (w1.alloc (.cells (Ins.cells ⟨4,a,y,z⟩) 71))=W1 at dW x1 ed eT jE⊢;refine ni ?_;clear dW l1;intro ic dW l1 lP mX;go_wp21;refine(eh ⟨4,a,y,z⟩ cn s pc 0 g 0 n kc m _ HN.o kM mz.o HO.o ed eT.row).mono ?_;rintro e w2 ⟨e2,bM⟩;replace e2:e=.returned (.int .i64 (-1)):=by rw [e2];rfl
 subst e2;refine EI ?_;clear dW ed eT jE x1 bM lP mX;intro x2 kI gX eE td xQ jZ AO lI lS lG;have nl:a<m.length:=by have:=HN.o;omega
 have JJ:(a:Int)<n:=by omega
 have qh:y<m.length:=by have:=HN.o;omega
 have Nk:(y:Int)<n:=by omega
 have sd:z<m.length:=by have:=HN.o;omega
 have OH:(z:Int)<n:=by omega
 have Gl:=eE.cell a nl;have KS:=eE.frozen;obtain⟨v,hv⟩:=nm' (m[y]);have vO:gq (ax v):=J vj;obtain⟨u,hu⟩:=nm' (m[z]);have EU:gq (ax u):=J Ei;have HE:gq (bt ⟨4,a,y,z⟩ pc m=(pc+1,0,m.set a (gR 4 v u))):=J Eh;have HV:=J hv;have HU:=J hu;clear hv hu;go_upto_region 9 with(fail);refine zy8 ?_
 repeat first|refine bV ?_|refine cF dQ (by intro w1 hS;have d1:=bC (bX kI hS);have d2:=(eE.ext hS).cell y qh;rw [<-HV.o]at d2;have d3:=(eE.ext hS).cell z sd;rw [<-HU.o]at d3;have d4:=si _ q 4 (.func (.func 169) #[] #[]) 1 (td.ext hS) dZ;exact fE) ?_|refine cD dQ ?_
 refine ap (λK hK=>?_);go_simp;go_wp21;refine uW (aqj v u vO.o EU.o _) ?_;refine hK.out _ _ (λh=>h) ?_;clear hK K;obtain⟨t,ht⟩:=nm' (gR 4 v u);exact Em
theorem aqc (w) (base s g n kc q) (A) (b off cn cap) (c) (pc) (m) (h:dG w base s g n kc q A b off cn c pc m) (a y z:Nat) (ha:a<n) (hy:y<n) (hz:z<n) (eU:da c pc n=some ⟨5,a,y,z⟩) (bS:aW ⟨5,a,y,z⟩ cn n=true):
 Calls prog 115 #[.pointer (some ⟨s,0,none⟩),.slice A cn cap,.map (some q)] w λe w'=>e=.returned (.tuple #[])/\Stepped w w' base s g n kc (bt ⟨5,a,y,z⟩ pc m):=by
 refine Hi ?_;clear h eU bS;intro ua kM dF dm dl jD ly mh oc qy CR CT vH HX HN HO my HA HR rv mz;go_wp21;refine Ba ?_;intro e w1 e1 aB;replace e1:e=.returned (.tuple #[.agg (Ins.cells ⟨5,a,y,z⟩),.bool true]):=by rw [e1,HX.o];rfl
 subst e1;have dW:=bN w1 71 (Ins.cells ⟨5,a,y,z⟩);have x1:=aB.alloc (.cells (Ins.cells ⟨5,a,y,z⟩) 71);have ed:=bX dF x1;have eT:=dm.ext x1;have jE:=dl.ext x1;have l1:=aB.size;clear dF dm dl aB;go_upto_region 3 with(fail);generalize (w1.alloc (.cells (Ins.cells ⟨5,a,y,z⟩) 71))=W1 at dW x1 ed eT jE⊢;refine ni ?_;clear dW l1;intro ic dW l1 lP mX;go_wp21;refine(eh ⟨5,a,y,z⟩ cn s pc 0 g 0 n kc m _ HN.o kM mz.o HO.o ed eT.row).mono ?_;rintro e w2 ⟨e2,bM⟩;replace e2:e=.returned (.int .i64 (-1)):=by rw [e2];rfl
 subst e2;refine EI ?_;clear dW ed eT jE x1 bM lP mX;intro x2 kI gX eE td xQ jZ AO lI lS lG;have nl:a<m.length:=by have:=HN.o;omega
 have JJ:(a:Int)<n:=by omega
 have qh:y<m.length:=by have:=HN.o;omega
 have Nk:(y:Int)<n:=by omega
 have sd:z<m.length:=by have:=HN.o;omega
 have OH:(z:Int)<n:=by omega
 have Gl:=eE.cell a nl;have KS:=eE.frozen;obtain⟨v,hv⟩:=nm' (m[y]);have vO:gq (ax v):=J vj;obtain⟨u,hu⟩:=nm' (m[z]);have EU:gq (ax u):=J Ei;have HE:gq (bt ⟨5,a,y,z⟩ pc m=(pc+1,0,m.set a (gR 5 v u))):=J Eh;have HV:=J hv;have HU:=J hu;clear hv hu;go_upto_region 9 with(fail);refine zy8 ?_
 repeat first|refine bV ?_|refine cF dQ (by intro w1 hS;have d1:=bC (bX kI hS);have d2:=(eE.ext hS).cell y qh;rw [<-HV.o]at d2;have d3:=(eE.ext hS).cell z sd;rw [<-HU.o]at d3;have d4:=si _ q 5 (.func (.func 170) #[] #[]) 2 (td.ext hS) dZ;exact fE) ?_|refine cD dQ ?_
 refine ap (λK hK=>?_);go_simp;go_wp21;refine uW (aqk v u vO.o EU.o _) ?_;refine hK.out _ _ (λh=>h) ?_;clear hK K;obtain⟨t,ht⟩:=nm' (gR 5 v u);exact Em
theorem aqd (w) (base s g n kc q) (A) (b off cn cap) (c) (pc) (m) (h:dG w base s g n kc q A b off cn c pc m) (a y z:Nat) (ha:a<n) (hy:y<n) (hz:z<n) (eU:da c pc n=some ⟨6,a,y,z⟩) (bS:aW ⟨6,a,y,z⟩ cn n=true):
 Calls prog 115 #[.pointer (some ⟨s,0,none⟩),.slice A cn cap,.map (some q)] w λe w'=>e=.returned (.tuple #[])/\Stepped w w' base s g n kc (bt ⟨6,a,y,z⟩ pc m):=by
 refine Hi ?_;clear h eU bS;intro ua kM dF dm dl jD ly mh oc qy CR CT vH HX HN HO my HA HR rv mz;go_wp21;refine Ba ?_;intro e w1 e1 aB;replace e1:e=.returned (.tuple #[.agg (Ins.cells ⟨6,a,y,z⟩),.bool true]):=by rw [e1,HX.o];rfl
 subst e1;have dW:=bN w1 71 (Ins.cells ⟨6,a,y,z⟩);have x1:=aB.alloc (.cells (Ins.cells ⟨6,a,y,z⟩) 71);have ed:=bX dF x1;have eT:=dm.ext x1;have jE:=dl.ext x1;have l1:=aB.size;clear dF dm dl aB;go_upto_region 3 with(fail);generalize (w1.alloc (.cells (Ins.cells ⟨6,a,y,z⟩) 71))=W1 at dW x1 ed eT jE⊢;refine ni ?_;clear dW l1;intro ic dW l1 lP mX;go_wp21;refine(eh ⟨6,a,y,z⟩ cn s pc 0 g 0 n kc m _ HN.o kM mz.o HO.o ed eT.row).mono ?_;rintro e w2 ⟨e2,bM⟩;replace e2:e=.returned (.int .i64 (-1)):=by rw [e2];rfl
 subst e2;refine EI ?_;clear dW ed eT jE x1 bM lP mX;intro x2 kI gX eE td xQ jZ AO lI lS lG;have nl:a<m.length:=by have:=HN.o;omega
 have JJ:(a:Int)<n:=by omega
 have qh:y<m.length:=by have:=HN.o;omega
 have Nk:(y:Int)<n:=by omega
 have sd:z<m.length:=by have:=HN.o;omega
 have OH:(z:Int)<n:=by omega
 have Gl:=eE.cell a nl;have KS:=eE.frozen;obtain⟨v,hv⟩:=nm' (m[y]);have vO:gq (ax v):=J vj;obtain⟨u,hu⟩:=nm' (m[z]);have EU:gq (ax u):=J Ei;have HE:gq (bt ⟨6,a,y,z⟩ pc m=(pc+1,0,m.set a (gR 6 v u))):=J Eh;have HV:=J hv;have HU:=J hu;clear hv hu;go_upto_region 9 with(fail);refine zy8 ?_
 repeat first|refine bV ?_|refine cF dQ (by intro w1 hS;have d1:=bC (bX kI hS);have d2:=(eE.ext hS).cell y qh;rw [<-HV.o]at d2;have d3:=(eE.ext hS).cell z sd;rw [<-HU.o]at d3;have d4:=si _ q 6 (.func (.func 171) #[] #[]) 3 (td.ext hS) dZ;exact fE) ?_|refine cD dQ ?_
 refine ap (λK hK=>?_);go_simp;go_wp21;refine uW (aql v u vO.o EU.o _) ?_;refine hK.out _ _ (λh=>h) ?_;clear hK K;obtain⟨t,ht⟩:=nm' (gR 6 v u);exact Em
theorem aqe (w) (base s g n kc q) (A) (b off cn cap) (c) (pc) (m) (h:dG w base s g n kc q A b off cn c pc m) (a y z:Nat) (ha:a<n) (hy:y<n) (hz:z<n) (eU:da c pc n=some ⟨7,a,y,z⟩) (bS:aW ⟨7,a,y,z⟩ cn n=true):
 Calls prog 115 #[.pointer (some ⟨s,0,none⟩),.slice A cn cap,.map (some q)] w λe w'=>e=.returned (.tuple #[])/\Stepped w w' base s g n kc (bt ⟨7,a,y,z⟩ pc m):=by
 refine Hi ?_;clear h eU bS;intro ua kM dF dm dl jD ly mh oc qy CR CT vH HX HN HO my HA HR rv mz;go_wp21;refine Ba ?_;intro e w1 e1 aB;replace e1:e=.returned (.tuple #[.agg (Ins.cells ⟨7,a,y,z⟩),.bool true]):=by rw [e1,HX.o];rfl
 subst e1;have dW:=bN w1 71 (Ins.cells ⟨7,a,y,z⟩);have x1:=aB.alloc (.cells (Ins.cells ⟨7,a,y,z⟩) 71);have ed:=bX dF x1;have eT:=dm.ext x1;have jE:=dl.ext x1;have l1:=aB.size;clear dF dm dl aB;go_upto_region 3 with(fail);generalize (w1.alloc (.cells (Ins.cells ⟨7,a,y,z⟩) 71))=W1 at dW x1 ed eT jE⊢;refine ni ?_;clear dW l1;intro ic dW l1 lP mX;go_wp21;refine(eh ⟨7,a,y,z⟩ cn s pc 0 g 0 n kc m _ HN.o kM mz.o HO.o ed eT.row).mono ?_;rintro e w2 ⟨e2,bM⟩;replace e2:e=.returned (.int .i64 (-1)):=by rw [e2];rfl
 subst e2;refine EI ?_;clear dW ed eT jE x1 bM lP mX;intro x2 kI gX eE td xQ jZ AO lI lS lG;have nl:a<m.length:=by have:=HN.o;omega
 have JJ:(a:Int)<n:=by omega
 have qh:y<m.length:=by have:=HN.o;omega
 have Nk:(y:Int)<n:=by omega
 have sd:z<m.length:=by have:=HN.o;omega
 have OH:(z:Int)<n:=by omega
 have Gl:=eE.cell a nl;have KS:=eE.frozen;obtain⟨v,hv⟩:=nm' (m[y]);have vO:gq (ax v):=J vj;obtain⟨u,hu⟩:=nm' (m[z]);have EU:gq (ax u):=J Ei;have HE:gq (bt ⟨7,a,y,z⟩ pc m=(pc+1,0,m.set a (gR 7 v u))):=J Eh;have HV:=J hv;have HU:=J hu;clear hv hu;go_upto_region 9 with(fail);refine zy8 ?_
 repeat first|refine bV ?_|refine cF dQ (by intro w1 hS;have d1:=bC (bX kI hS);have d2:=(eE.ext hS).cell y qh;rw [<-HV.o]at d2;have d3:=(eE.ext hS).cell z sd;rw [<-HU.o]at d3;have d4:=si _ q 7 (.func (.func 172) #[] #[]) 4 (td.ext hS) dZ;exact fE) ?_|refine cD dQ ?_
 refine ap (λK hK=>?_);go_simp;go_wp21;refine uW (aqm v u vO.o EU.o _) ?_;refine hK.out _ _ (λh=>h) ?_;clear hK K;obtain⟨t,ht⟩:=nm' (gR 7 v u);exact Em
theorem aqf (w) (base s g n kc q) (A) (b off cn cap) (c) (pc) (m) (h:dG w base s g n kc q A b off cn c pc m) (a y z:Nat) (ha:a<n) (hy:y<n) (hz:z<n) (eU:da c pc n=some ⟨8,a,y,z⟩) (bS:aW ⟨8,a,y,z⟩ cn n=true):
 Calls prog 115 #[.pointer (some ⟨s,0,none⟩),.slice A cn cap,.map (some q)] w λe w'=>e=.returned (.tuple #[])/\Stepped w w' base s g n kc (bt ⟨8,a,y,z⟩ pc m):=by
 refine Hi ?_;clear h eU bS;intro ua kM dF dm dl jD ly mh oc qy CR CT vH HX HN HO my HA HR rv mz;go_wp21;refine Ba ?_;intro e w1 e1 aB;replace e1:e=.returned (.tuple #[.agg (Ins.cells ⟨8,a,y,z⟩),.bool true]):=by rw [e1,HX.o];rfl
 subst e1;have dW:=bN w1 71 (Ins.cells ⟨8,a,y,z⟩);have x1:=aB.alloc (.cells (Ins.cells ⟨8,a,y,z⟩) 71);have ed:=bX dF x1;have eT:=dm.ext x1;have jE:=dl.ext x1;have l1:=aB.size;clear dF dm dl aB;go_upto_region 3 with(fail);generalize (w1.alloc (.cells (Ins.cells ⟨8,a,y,z⟩) 71))=W1 at dW x1 ed eT jE⊢;refine ni ?_;clear dW l1;intro ic dW l1 lP mX;go_wp21;refine(eh ⟨8,a,y,z⟩ cn s pc 0 g 0 n kc m _ HN.o kM mz.o HO.o ed eT.row).mono ?_;rintro e w2 ⟨e2,bM⟩;replace e2:e=.returned (.int .i64 (-1)):=by rw [e2];rfl
 subst e2;refine EI ?_;clear dW ed eT jE x1 bM lP mX;intro x2 kI gX eE td xQ jZ AO lI lS lG;have nl:a<m.length:=by have:=HN.o;omega
 have JJ:(a:Int)<n:=by omega
 have qh:y<m.length:=by have:=HN.o;omega
 have Nk:(y:Int)<n:=by omega
 have sd:z<m.length:=by have:=HN.o;omega
 have OH:(z:Int)<n:=by omega
 have Gl:=eE.cell a nl;have KS:=eE.frozen;obtain⟨v,hv⟩:=nm' (m[y]);have vO:gq (ax v):=J vj;obtain⟨u,hu⟩:=nm' (m[z]);have EU:gq (ax u):=J Ei;have HE:gq (bt ⟨8,a,y,z⟩ pc m=(pc+1,0,m.set a (gR 8 v u))):=J Eh;have HV:=J hv;have HU:=J hu;clear hv hu;go_upto_region 9 with(fail);refine zy8 ?_
 repeat first|refine bV ?_|refine cF dQ (by intro w1 hS;have d1:=bC (bX kI hS);have d2:=(eE.ext hS).cell y qh;rw [<-HV.o]at d2;have d3:=(eE.ext hS).cell z sd;rw [<-HU.o]at d3;have d4:=si _ q 8 (.func (.func 173) #[] #[]) 5 (td.ext hS) dZ;exact fE) ?_|refine cD dQ ?_
 refine ap (λK hK=>?_);go_simp;go_wp21;refine uW (aqn v u vO.o EU.o _) ?_;refine hK.out _ _ (λh=>h) ?_;clear hK K;obtain⟨t,ht⟩:=nm' (gR 8 v u);exact Em
theorem aqg (w) (base s g n kc q) (A) (b off cn cap) (c) (pc) (m) (h:dG w base s g n kc q A b off cn c pc m) (a y z:Nat) (ha:a<n) (hy:y<n) (hz:z<n) (eU:da c pc n=some ⟨9,a,y,z⟩) (bS:aW ⟨9,a,y,z⟩ cn n=true):
 Calls prog 115 #[.pointer (some ⟨s,0,none⟩),.slice A cn cap,.map (some q)] w λe w'=>e=.returned (.tuple #[])/\Stepped w w' base s g n kc (bt ⟨9,a,y,z⟩ pc m):=by
 refine Hi ?_;clear h eU bS;intro ua kM dF dm dl jD ly mh oc qy CR CT vH HX HN HO my HA HR rv mz;go_wp21;refine Ba ?_;intro e w1 e1 aB;replace e1:e=.returned (.tuple #[.agg (Ins.cells ⟨9,a,y,z⟩),.bool true]):=by rw [e1,HX.o];rfl
 subst e1;have dW:=bN w1 71 (Ins.cells ⟨9,a,y,z⟩);have x1:=aB.alloc (.cells (Ins.cells ⟨9,a,y,z⟩) 71);have ed:=bX dF x1;have eT:=dm.ext x1;have jE:=dl.ext x1;have l1:=aB.size;clear dF dm dl aB;go_upto_region 3 with(fail);generalize (w1.alloc (.cells (Ins.cells ⟨9,a,y,z⟩) 71))=W1 at dW x1 ed eT jE⊢;refine ni ?_;clear dW l1;intro ic dW l1 lP mX;go_wp21;refine(eh ⟨9,a,y,z⟩ cn s pc 0 g 0 n kc m _ HN.o kM mz.o HO.o ed eT.row).mono ?_;rintro e w2 ⟨e2,bM⟩;replace e2:e=.returned (.int .i64 (-1)):=by rw [e2];rfl
 subst e2;refine EI ?_;clear dW ed eT jE x1 bM lP mX;intro x2 kI gX eE td xQ jZ AO lI lS lG;have nl:a<m.length:=by have:=HN.o;omega
 have JJ:(a:Int)<n:=by omega
 have qh:y<m.length:=by have:=HN.o;omega
 have Nk:(y:Int)<n:=by omega
 have sd:z<m.length:=by have:=HN.o;omega
 have OH:(z:Int)<n:=by omega
 have Gl:=eE.cell a nl;have KS:=eE.frozen;obtain⟨v,hv⟩:=nm' (m[y]);have vO:gq (ax v):=J vj;obtain⟨u,hu⟩:=nm' (m[z]);have EU:gq (ax u):=J Ei;have HE:gq (bt ⟨9,a,y,z⟩ pc m=(pc+1,0,m.set a (gR 9 v u))):=J Eh;have HV:=J hv;have HU:=J hu;clear hv hu;go_upto_region 9 with(fail);refine zy8 ?_
 repeat first|refine bV ?_|refine cF dQ (by intro w1 hS;have d1:=bC (bX kI hS);have d2:=(eE.ext hS).cell y qh;rw [<-HV.o]at d2;have d3:=(eE.ext hS).cell z sd;rw [<-HU.o]at d3;have d4:=si _ q 9 (.func (.func 175) #[] #[]) 6 (td.ext hS) dZ;exact fE) ?_|refine cD dQ ?_
 refine ap (λK hK=>?_);go_simp;go_wp21;refine uW (aqo v u vO.o EU.o _) ?_;refine hK.out _ _ (λh=>h) ?_;clear hK K;obtain⟨t,ht⟩:=nm' (gR 9 v u);exact Em
theorem alP (w) (base s g n kc q) (A) (b off cn cap) (c) (pc) (m) (h:dG w base s g n kc q A b off cn c pc m) (a y z:Nat) (ha:a<n) (hy:y<n) (hz:z<n) (eU:da c pc n=some ⟨10,a,y,z⟩) (bS:aW ⟨10,a,y,z⟩ cn n=true):
 Calls prog 115 #[.pointer (some ⟨s,0,none⟩),.slice A cn cap,.map (some q)] w λe w'=>e=.returned (.tuple #[])/\Stepped w w' base s g n kc (bt ⟨10,a,y,z⟩ pc m):=by
 refine Hi ?_;clear h eU bS;intro ua kM dF dm dl jD ly mh oc qy CR CT vH HX HN HO my HA HR rv mz;go_wp21;refine Ba ?_;intro e w1 e1 aB;replace e1:e=.returned (.tuple #[.agg (Ins.cells ⟨10,a,y,z⟩),.bool true]):=by rw [e1,HX.o];rfl
 subst e1;have dW:=bN w1 71 (Ins.cells ⟨10,a,y,z⟩);have x1:=aB.alloc (.cells (Ins.cells ⟨10,a,y,z⟩) 71);have ed:=bX dF x1;have eT:=dm.ext x1;have jE:=dl.ext x1;have l1:=aB.size;clear dF dm dl aB;go_upto_region 3 with(fail);generalize (w1.alloc (.cells (Ins.cells ⟨10,a,y,z⟩) 71))=W1 at dW x1 ed eT jE⊢;refine ni ?_;clear dW l1;intro ic dW l1 lP mX;go_wp21;refine(eh ⟨10,a,y,z⟩ cn s pc 0 g 0 n kc m _ HN.o kM mz.o HO.o ed eT.row).mono ?_;rintro e w2 ⟨e2,bM⟩;replace e2:e=.returned (.int .i64 (-1)):=by rw [e2];rfl
 subst e2;refine EI ?_;clear dW ed eT jE x1 bM lP mX;intro x2 kI gX eE td xQ jZ AO lI lS lG;have nl:a<m.length:=by have:=HN.o;omega
 have JJ:(a:Int)<n:=by omega
 have qh:y<m.length:=by have:=HN.o;omega
 have Nk:(y:Int)<n:=by omega
 have sd:z<m.length:=by have:=HN.o;omega
 have OH:(z:Int)<n:=by omega
 have Gl:=eE.cell a nl;have KS:=eE.frozen;obtain⟨v,hv⟩:=nm' (m[y]);have vO:gq (ax v):=J vj;obtain⟨u,hu⟩:=nm' (m[z]);have EU:gq (ax u):=J Ei;have HE:gq (bt ⟨10,a,y,z⟩ pc m=(pc+1,0,m.set a (gR 10 v u))):=J Eh;have HV:=J hv;have HU:=J hu;clear hv hu;go_upto_region 9 with(fail);refine zy8 ?_
 repeat first|refine bV ?_|refine cF dQ (by intro w1 hS;have d1:=bC (bX kI hS);have d2:=(eE.ext hS).cell y qh;rw [<-HV.o]at d2;have d3:=(eE.ext hS).cell z sd;rw [<-HU.o]at d3;have d4:=si _ q 10 (.func (.func 176) #[] #[]) 7 (td.ext hS) dZ;exact fE) ?_|refine cD dQ ?_
 refine ap (λK hK=>?_);go_simp;go_wp21;refine uW (amc v u vO.o EU.o _) ?_;refine hK.out _ _ (λh=>h) ?_;clear hK K;obtain⟨t,ht⟩:=nm' (gR 10 v u);exact Em
