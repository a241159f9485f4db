import Derived.Test.YtnhelcmddjbafaaGreatDoorTpaf
set_option maxHeartbeats 4000000
set_option maxRecDepth 100000
open Go.Proofs.Tryz
namespace Go.Proofs.YtnhelcmddjbafaaGreatDoor
open Go.RowKit
namespace Mc
variable{es:Array MapEntry}{clock:Nat}{w2:World}
def ft (k:Nat):List UInt8:=match k with
 |0=>[110]|1=>[119,110]|2=>[119,119]|14=>[119,119]|17=>[119,110,110]|18=>[119,119,110]|19=>[112]|20=>[112,119]|21=>[112,119]|_=>[119,119,119]
def Gf (k:Nat):ByteArray:=⟨(ft k).toArray⟩
structure OpsAt (w:World):Prop where
 lt:0<w.heap.size
 at_:∀k,k<22->w.cell? ⟨0,k*2+1,none⟩=some (.string (Gf k))
theorem OpsAt.ext {w w':World} (h:OpsAt w) (hx:al w w'):OpsAt w':=
 ⟨gK h.lt hx.size,λk hk=>(Kept.cell hx (p:=⟨0,k*2+1,none⟩) h.lt (λf=>f)).trans (h.at_ k hk)⟩
theorem OpsAt.kept {S:Nat->Prop} {w w':World} (h:OpsAt w) (hx:Kept S w w') (hs:¬S 0):OpsAt w':=
 ⟨gK h.lt hx.size,λk hk=>(Kept.cell hx (p:=⟨0,k*2+1,none⟩) h.lt hs).trans (h.at_ k hk)⟩
def iu (op:Int):Bool:=decide (0<=op)&&decide (op<22)
theorem Wf (op:Int) (w:World):Calls prog 236 #[.int .i64 op] w λe w'=>e=.returned (.bool (iu op))/\w=w':=by
 go_enter func236,ntmps236;go_wp21
 all_goals go_ret
 all_goals refine⟨aR ?_,rfl⟩
 all_goals (rw [Bool.eq_iff_iff];simp [iu];omega)
def tg (n:Int):Bool:=decide (-2147483648<=n)&&decide (n<=2147483647)
theorem Mm (n:Int) (w:World):Calls prog 237 #[.int .i64 n] w λe w'=>e=.returned (.bool (tg n))/\w=w':=by
 go_enter func237,ntmps237;go_wp21
 all_goals go_ret
 all_goals refine⟨aR ?_,rfl⟩
 all_goals (rw [Bool.eq_iff_iff];simp [tg];omega)
theorem OS:ga prog 322=true:=by kernel_rfl
theorem Kv:dr prog 322=some 3:=by kernel_rfl
attribute [go_sem] OS Kv
theorem Fu (i:Ins) (w:World):Calls prog 225 #[.agg i.cells] w λe w'=>e=.returned (.agg #[.int .i64 i.a,.int .i64 i.b,.int .i64 i.c])/\al w w':=by
 go_enter func225,ntmps225;go_wp21;refine bu results225 rfl rfl OS (by exact Kv) (ai.ea _ _ _ _ aB) ⟨rfl,?_⟩;exact(dM w _).alloc _
def zD (i:Ins):ByteArray:=if iu i.op=true then Gf i.op.toNat else⟨#[]⟩
theorem vt (i:Ins) (w:World) (eH:OpsAt w):Calls prog 226 #[.agg i.cells] w λe w'=>e=.returned (.string (zD i))/\al w w':=by
 have aF:al w _:=dM w (.cells i.cells 71);have mD:=J (eH.ext aF);clear eH
 by_cases h:iu i.op=true
 .have hb:=h
  simp [iu]at hb;obtain⟨op,a,b,c⟩:=i;obtain⟨k,rfl⟩:∃k:Nat,op=k:=⟨op.toNat,by simp at hb;omega⟩;simp at hb;have hk:k<22:=by omega
  have hkI:(k:Int)<22:=by omega
  have hq:zD ⟨k,a,b,c⟩=Gf k:=by simp only [zD,ak h];rfl
  rw [hq];have HH:=J h;have nw:=mD.o.at_ k hk;clear h hq hb;go_enter func226,ntmps226;exact Yc
 .have hf:iu i.op=false:=by simpa using h
  have hq:zD i=⟨#[]⟩:=by simp only [zD,af h]
  rw [hq];have HH:=J hf;clear h hf hq;go_enter func226,ntmps226;exact Yc
def D7 (c:UInt8) (n size words:Int):Bool:=if c=119 then decide (0<=n)&&decide (n<words)else if c=112 then decide (0<=n)&&decide (n<size)else tg n
def nP (h:List UInt8) (k:Nat) (n size words:Int):Bool:=match h[k]? with|some c=>D7 c n size words|none=>n==0
def fZ (i:Ins):Nat->Int|0=>i.a|1=>i.b|_=>i.c
def ig (i:Ins):Bool:=if i.op=0 then(i.a==0||i.a==1)else if i.op=17 then decide (i.b<=i.c)else if i.op=18 then decide (0<=i.c)else true
def aQ (i:Ins) (size words:Int):Bool:=iu i.op&&(nP (ft i.op.toNat) 0 (fZ i 0) size words&&nP (ft i.op.toNat) 1 (fZ i 1) size words&&nP (ft i.op.toNat) 2 (fZ i 2) size words)&&ig i
theorem G8 {i:Ins} {size words:Int} {j:Nat} (hj:j<3) (h:nP (ft i.op.toNat) j (fZ i j) size words=false):aQ i size words=false:=by
 unfold aQ
 rcases(by omega:j=0∨j=1∨j=2)with rfl|rfl|rfl<;>simp [h]
theorem Kf {i:Ins} {size words:Int} (ho:iu i.op=true) (h:∀j,j<3->nP (ft i.op.toNat) j (fZ i j) size words=true):aQ i size words=ig i:=by
 unfold aQ;rw [ho,h 0 ad,h 1 ad,h 2 ad];simp
theorem anb (i:Ins) (k:Nat) (hk:k<3) (w:World):(Instr.index 322 (.agg #[.int .i64 i.a,.int .i64 i.b,.int .i64 i.c]) (.int .i64 k)).run prog w=.ok (.int .i64 (fZ i k)) w:=by
 rcases(by omega:k=0∨k=1∨k=2)with rfl|rfl|rfl<;>kernel_rfl
theorem vq (k:Nat):(ft k).length<=3:=by
 unfold ft
 split<;>simp
theorem BO (i:Ins) (size words:Int) (w:World) (eH:OpsAt w):Calls prog 188 #[.agg i.cells,.int .i64 size,.int .i64 words] w λe w'=>e=.returned (.bool (aQ i size words))/\al w w':=by
 have aF:al w _:=dM w (.cells i.cells 71);have Gc:=bN w 71 i.cells;have mD:=J (eH.ext aF);clear eH
 by_cases h:iu i.op=true
 .have HH:=J h
  clear h;obtain⟨R,hR⟩:=nm' (aQ i size words);rw [<-hR];have HR:=J hR;clear hR;go_enter func188,ntmps188;go_wp21;refine aoT (Wf _ _) ?_;rw [HH.o];go_wp21;refine(vt i _ mD.o).mono ?_;rintro e w2 ⟨e2,bd⟩;obtain⟨h,hh⟩:=nm' (ft i.op.toNat);replace e2:e=.returned (.string ⟨h.toArray⟩):=by rw [e2,zD,ak HH.o,hh];rfl
  subst e2;have hlen:h.length<=3:=by rw [hh];exact vq _
  have HHN:=J hh;clear hh;have ki:=bX Gc bd;have TT:=bH ki;have Pj:=bG ki;go_wp21;refine aoS (Fu i _) λw3 dv=>?_;have y3:=(aF.trans bd).trans dv;have hI3:=bX ki dv;clear Gc ki TT Pj aF bd dv;go_wp21
  go_loop [19] (λt19=>∃(k:Nat),k<=3/\t19=.int .i64 k/\(∀j,j<k->nP h j (fZ i j) size words=true)) (λt19=>3 - (intOf t19).toNat)
  case atStart=>exact⟨0,by omega,rfl,λj hj=>by omega⟩
  case round=>
   obtain⟨k,hk,rfl,ack⟩:=hrel;have HP:=J ack;clear ack
   by_cases aP:k<3
   .have pU:=anb i k aP
    obtain⟨n,hn⟩:=nm' (fZ i k);rw [<-hn]at pU;have HNn:=J hn;clear hn
    have next:nP h k n size words=true->∀j,j<k+1->nP h j (fZ i j) size words=true:=λhq j hj=>by
     by_cases e:j=k
     .subst e;rw [<-HNn.o];exact hq
     .exact HP.o j ad
    have stop:nP h k n size words=false->R=false:=λhq=>by
     rw [HR.o];exact G8 aP (by rw [<-HHN.o,<-HNn.o];exact hq)
    have NX:=J next
    have SP:=J stop;clear next stop
    by_cases nS:k<h.length
    .have amI:(k:Int)<h.length:=by omega
     obtain⟨c,hc⟩:=nm' (h[k]);have ahD:h[k]?=some c:=by rw [List.getElem?_eq_getElem nS,hc]
     have hcN:((⟨h.toArray⟩:ByteArray)[k]'(show k<h.toArray.size by simpa using nS)).toNat=c.toNat:=by rw [hc];rfl
     have HG:=J ahD;clear ahD hc
     by_cases h1:c=119
     .subst h1
      replace hcN:((⟨h.toArray⟩:ByteArray)[k]'(show k<h.toArray.size by simpa using nS)).toNat=119:=hcN
      by_cases hn0:0<=n
      .by_cases tC:n<words
       .have ok:nP h k n size words=true:=by simp [nP,D7,HG.o,hn0,tC]
        have OK:=J ok;clear ok;go_wp21
        go_round
        case rel=>exact⟨k+1,aP,by go_num,NX.o OK.o⟩
        case measure=>simp only [intOf];omega
       .have ok:nP h k n size words=false:=by simp [nP,D7,HG.o,tC]
        exact Qh
      .have ok:nP h k n size words=false:=by simp [nP,D7,HG.o,hn0]
       exact Qh
     .by_cases h2:c=112
      .subst h2
       replace hcN:((⟨h.toArray⟩:ByteArray)[k]'(show k<h.toArray.size by simpa using nS)).toNat=112:=hcN
       by_cases hn0:0<=n
       .by_cases tC:n<size
        .have ok:nP h k n size words=true:=by simp [nP,D7,HG.o,hn0,tC]
         have OK:=J ok;clear ok;go_wp21
         go_round
         case rel=>exact⟨k+1,aP,by go_num,NX.o OK.o⟩
         case measure=>simp only [intOf];omega
        .have ok:nP h k n size words=false:=by simp [nP,D7,HG.o,tC]
         exact Qh
       .have ok:nP h k n size words=false:=by simp [nP,D7,HG.o,hn0]
        exact Qh
      .have ok:nP h k n size words=tg n:=by simp [nP,D7,HG.o,h1,h2]
       have hc1:¬c.toNat=119:=λe=>h1 (UInt8.toNat_inj.1 e);have hc2:¬c.toNat=112:=λe=>h2 (UInt8.toNat_inj.1 e);generalize c.toNat=cn at hcN hc1 hc2;have b1:(cn==119)=false:=by simpa using hc1
       have b2:(cn==112)=false:=by simpa using hc2
       have b1':((cn:Int)==119)=false:=by simp;omega
       have b2':((cn:Int)==112)=false:=by simp;omega
       have OK:=J ok;clear ok hc1 hc2 h1 h2;go_wp21;refine aoT (Mm n _) ?_
       cases hi:tg n
       .have HI:=J hi
        clear hi;go_wp21;go_ret;exact⟨aR (SP.o (OK.o.trans HI.o)).symm,y3⟩
       .have HI:=J hi
        clear hi;go_wp21
        go_round
        case rel=>exact⟨k+1,aP,by go_num,NX.o (OK.o.trans HI.o)⟩
        case measure=>simp only [intOf];omega
    .have amI:¬(k:Int)<h.length:=by omega
     have ok:nP h k n size words=(n==0):=by simp [nP,List.getElem?_eq_none (show h.length<=k by omega)]
     have OK:=J ok;clear ok
     cases hi:(n==0)
     .have HI:=J hi
      go_wp21;go_ret;exact⟨aR (SP.o (OK.o.trans HI.o)).symm,y3⟩
     .have HI:=J hi
      go_wp21
      go_round
      case rel=>exact⟨k+1,aP,by go_num,NX.o (OK.o.trans HI.o)⟩
      case measure=>simp only [intOf];omega
   .obtain rfl:k=3:=by omega
    have o4:=Kf HH.o (by rw [<-HHN.o];exact HP.o);rw [<-HR.o]at o4;have HR3:=J o4;clear o4;have hc3:=bC hI3;have e0:(i.op==0)=true∨(i.op==0)=false:=by cases(i.op==0)<;>simp
    have TJ:(i.op==17)=true∨(i.op==17)=false:=by cases(i.op==17)<;>simp
    have UW:(i.op==18)=true∨(i.op==18)=false:=by cases(i.op==18)<;>simp
    have E17:=J TJ;have E18:=J UW;clear TJ UW
    rcases e0 with e0|e0
    .go_wp21
     all_goals go_ret
     all_goals refine⟨aR ?_,y3⟩
     all_goals (rw [HR3.o,ig,ak (by simpa using e0)]<;>simp [*])
    .rcases E17.o with TJ|TJ
     .go_wp21
      go_ret;refine⟨aR ?_,y3⟩;rw [HR3.o,ig,af (by simpa using e0),ak (by simpa using TJ)]
     .rcases E18.o with UW|UW
      .go_wp21
       go_ret;refine⟨aR ?_,y3⟩;rw [HR3.o,ig,af (by simpa using e0),af (by simpa using TJ),ak (by simpa using UW)]
      .go_wp21
       go_ret;refine⟨aR ?_,y3⟩;rw [HR3.o,ig,af (by simpa using e0),af (by simpa using TJ),af (by simpa using UW)]
 .have hf:iu i.op=false:=by simpa using h
  have hq:aQ i size words=false:=by simp [aQ,hf]
  rw [hq];have HH:=J hf;clear h hf hq;go_enter func188,ntmps188;exact Yc
abbrev oF (w:World) (s:Nat) (t:TypeId) (pc:Int) (A:Option Addr) (n cap:Nat) (halt:Int):Prop:=ai w s t (ae pc A n cap halt)
def cW (c:List Ins) (pc:Int) (k:Nat):Option Ins:=match c[pc.toNat]? with|some i=>if aQ i c.length k=true then some i else none|none=>none
abbrev aiq (o:Option Ins):Ins:=o.getD ⟨0,0,0,0⟩
theorem RW (s:Nat) (pc halt:Int) (M:Option Addr) (k kc:Nat) (A:Option Addr) (n cap:Nat) (w:World) (h2:n<=2048) (hp:(n:Int)<=pc) (hs:oF w s 47 pc M k kc halt):
 Calls prog 159 #[.pointer (some ⟨s,0,none⟩),.slice A n cap] w λe w'=>e=.returned (.tuple #[.agg (Ins.cells ⟨0,0,0,0⟩),.bool false])/\al w w':=by
 have aF:al w _:=dM w (.cells (Ins.cells ⟨0,0,0,0⟩) 71);have fz:=bN w 71 (Ins.cells ⟨0,0,0,0⟩);have kB:=ai.alloc hs (.cells (Ins.cells ⟨0,0,0,0⟩) 71);have pV:=hs.lt;have b1:decide ((2048:Int)<n)=false:=by simp;omega
 have b1':decide (2048<n)=false:=by simp;omega
 have b2:decide ((n:Int)<=pc)=true:=by simpa using hp
 clear hs;go_enter func159,ntmps159;go_wp21;generalize (w.alloc (.cells (Ins.cells ⟨0,0,0,0⟩) 71))=W at aF fz kB⊢;have o8:=kB.lt;refine ajU ?_
 repeat first|refine cx ?_|refine de fU (by intro w1 hS;have d1:=bC (bX kB hS);exact fV) ?_|refine dc fU ?_
 refine au (λK hK=>?_);go_simp;refine hK.out _ _ (λh=>h) ?_;clear hK K;refine fx ?_;have g_:ai W.drew w.heap.size 71 (Ins.cells ⟨0,0,0,0⟩):=fz;have Jw:=bH g_;have EP:=ai.aC g_;go_wp21;refine di results159 rfl rfl uY (by exact rO) (ai.cw g_ _ _) ⟨rfl,?_⟩;exact Kept.putAt (aF.drew) _ _ _ (λh=>by omega)
theorem aaw (s:Nat) (halt:Int) (M:Option Addr) (k kc:Nat) (b off:Nat) (c:List Ins) (n cap p:Nat) (w:World) (hn:n=c.length) (h2:n<=2048) (hp:p<n) (eH:OpsAt w) (hs:oF w s 47 p M k kc halt) (hr:Row w b off (db c)):
 Calls prog 159 #[.pointer (some ⟨s,0,none⟩),.slice (some ⟨b,off,none⟩) n cap] w λe w'=>e=.returned (.tuple #[.agg (aiq (cW c p k)).cells,.bool (cW c p k).isSome])/\al w w':=by
 have mW:p<c.length:=by omega
 obtain⟨i,hi⟩:=nm' (c[p])
 have eO:cW c p k=if aQ i n k=true then some i else none:=by
  simp only [cW,rc,List.getElem?_eq_getElem mW,<-hi,<-hn]
 have aF:al w _:=dM w (.cells (Ins.cells ⟨0,0,0,0⟩) 71);have fz:=bN w 71 (Ins.cells ⟨0,0,0,0⟩);have kB:=ai.alloc hs (.cells (Ins.cells ⟨0,0,0,0⟩) 71);have hC0:=hr.ext aF;have mD:=J (eH.ext aF);have pV:=hs.lt;have b1:decide ((2048:Int)<n)=false:=by simp;omega
 have b1':decide (2048<n)=false:=by simp;omega
 have b2:decide ((n:Int)<=p)=false:=by simp;omega
 have b2':decide (n<=p)=false:=by simp;omega
 have hpI:(p:Int)<n:=by omega
 have HX:=J eO;have HI:=J hi;clear hs hr eH eO;obtain⟨a1,a2⟩:=hC0.ins p mW;rw [<-HI.o]at a2;clear hi;have HN:=J hn;clear hn;obtain⟨R,hR⟩:=nm' (aQ i n k);have HR:=J hR;clear hR;go_enter func159,ntmps159;go_wp21;generalize (w.alloc (.cells (Ins.cells ⟨0,0,0,0⟩) 71))=W at aF fz kB hC0 mD a1 a2⊢;have o8:=kB.lt;have hlC:=hC0.lt;refine ajU ?_
 repeat first|refine cx ?_|refine de fU (by intro w1 hS;have d1:=bC (bX kB hS);have d2:=(hC0.ext hS).ins p mW;rw [<-HI.o]at d2;have d3:=d2.1;have d4:=d2.2;exact fV) ?_|refine dc fU ?_
 refine au (λK hK=>?_);go_simp;go_wp21;refine(BO i n k _ (mD.o.ext ((kR _ W).drew))).mono ?_;rintro e w1 ⟨e1,aw⟩;replace e1:e=.returned (.bool R):=by rw [e1,HR.o]
 subst e1;have y1:al W w1:=((kR _ W).drew).trans aw;refine hK.out _ _ (λ_=>y1) ?_;clear hK K;refine fx ?_;have g_:=bX fz y1;have Jw:=bH g_;have EP:=ai.aC g_;have dK:=bX kB y1;have hc1:=bC dK;obtain⟨q1,q2⟩:=(hC0.ext y1).ins p mW;rw [<-HI.o]at q2
 cases hq:R
 .have e:cW c p k=none:=by rw [HX.o,<-HR.o,hq];rfl
  exact alb
 .have e:cW c p k=some i:=by rw [HX.o,<-HR.o,hq];rfl
  exact alb
theorem Ns (c:List Ins) (pc:Int) (k:Nat) (h:(c.length:Int)<=pc):cW c pc k=none:=by
 unfold cW;rw [List.getElem?_eq_none ad]
theorem J4 (s:Nat) (pc halt:Int) (M:Option Addr) (k kc:Nat) (A:Option Addr) (b off:Nat) (c:List Ins) (n cap:Nat) (w:World) (hn:n=c.length) (h2:n<=2048) (hp:0<=pc) (hA:0<n->A=some ⟨b,off,none⟩) (eH:OpsAt w) (hs:oF w s 47 pc M k kc halt) (hr:0<n->Row w b off (db c)):
 Calls prog 159 #[.pointer (some ⟨s,0,none⟩),.slice A n cap] w λe w'=>e=.returned (.tuple #[.agg (aiq (cW c pc k)).cells,.bool (cW c pc k).isSome])/\al w w':=by
 by_cases h:(n:Int)<=pc
 .rw [Ns c pc k ad]
  exact RW s pc halt M k kc A n cap w h2 h hs
 .obtain⟨p,rfl⟩:∃p:Nat,pc=p:=⟨pc.toNat,by omega⟩
  obtain rfl:=hA ad;exact aaw s halt M k kc b off c n cap p w hn h2 ad eH hs (hr ad)
def uj (p:Int) (k:Nat):Int:=if 0<=p/\p<k then p else -1
def gj (i:Ins) (m:List Int):Int:=if i.op=15 then uj (i.b+m.getD i.c.toNat 0) m.length else if i.op=16 then uj (i.a+m.getD i.b.toNat 0) m.length else -1
theorem cP {h:List UInt8} {k:Nat} {n size words:Int} (hk:h[k]?=some 119) (h1:nP h k n size words=true):0<=n/\n<words:=by
 simpa [nP,hk,D7]using h1
theorem E9 {h:List UInt8} {k:Nat} {n size words:Int} (hk:h[k]?=some 112) (h1:nP h k n size words=true):0<=n/\n<size:=by
 simpa [nP,hk,D7]using h1
theorem yH {h:List UInt8} {k:Nat} {n size words:Int} (hk:h[k]?=some 110) (h1:nP h k n size words=true):-2147483648<=n/\n<=2147483647:=by
 simpa [nP,hk,D7,tg]using h1
theorem gy {i:Ins} {size words:Int} (h:aQ i size words=true):0<=i.op/\i.op<22/\nP (ft i.op.toNat) 0 i.a size words=true/\nP (ft i.op.toNat) 1 i.b size words=true/\nP (ft i.op.toNat) 2 i.c size words=true/\ig i=true:=by
 simp only [aQ,gR]at h;obtain⟨⟨h1,⟨h2,h3⟩,h4⟩,h5⟩:=h;simp [iu]at h1;exact⟨h1.1,h1.2,h2,h3,h4,h5⟩
theorem adY (i:Ins) (s:Nat) (pc halt:Int) (M:Option Addr) (k kc:Nat) (w:World) (hk:k<=256) (EL:(i.op==15)=false) (Bs:(i.op==16)=false) (hs:oF w s 47 pc M k kc halt):
 Calls prog 162 #[.pointer (some ⟨s,0,none⟩),.agg i.cells] w λe w'=>e=.returned (.int .i64 (-1))/\al w w':=by
 have aF:al w _:=dM w (.cells i.cells 71);have kB:=ai.alloc hs (.cells i.cells 71);have pV:=hs.lt;have hc:=bC hs;have b1:decide ((k:Int)<=-1)=false:=by simp;omega
 go_enter func162,ntmps162;go_wp21;go_ret;exact⟨rfl,aF⟩
theorem U4 (a b c:Nat) (s:Nat) (pc halt:Int) (g off k kc:Nat) (m:List Int) (w:World) (Dp:k=m.length) (hk:k<=256) (hb:b<k) (hc:c<k) (hm:∀x∈m,av x) (hs:oF w s 47 pc (some ⟨g,off,none⟩) k kc halt) (hr:Row w g off (bj m)):
 Calls prog 162 #[.pointer (some ⟨s,0,none⟩),.agg (Ins.cells ⟨15,a,b,c⟩)] w λe w'=>e=.returned (.int .i64 (uj (b+m.getD c 0) k))/\al w w':=by
 have nw:c<m.length:=by omega
 have aF:al w _:=dM w (.cells (Ins.cells ⟨15,a,b,c⟩) 71);have kB:=ai.alloc hs (.cells (Ins.cells ⟨15,a,b,c⟩) 71);have Gc:=bN w 71 (Ins.cells ⟨15,a,b,c⟩);have Vd:=hr.ext aF;have pV:=hs.lt;obtain⟨x,hx⟩:=nm' (m[c]);have hxr:av x:=by rw [hx];exact hm _ (ed nw)
 have Dl:m.getD c 0=x:=by simp [nw,hx]
 rw [Dl];unfold av at hxr;obtain⟨aw,bd⟩:=hxr;obtain⟨q,hq⟩:=nm' ((b:Int)+x);rw [<-hq];have om:IntKind.i64.wrap ((b:Int)+x)=q:=by rw [im];omega
 have pK:IntKind.i64.wrap x=x:=by rw [im];omega
 have wM:(c:Int)<k:=by omega
 have⟨TH,HQ,Eh⟩:=J3' hx hq Dp;clear hs hr hx Dl hq Dp hm;go_enter func162,ntmps162;go_wp21;generalize (w.alloc (.cells (Ins.cells ⟨15,a,b,c⟩) 71))=W at aF kB Gc Vd⊢;have l1:=kB.lt;have l2:=Gc.lt;have l3:=Vd.lt;refine fH (λw1=>al W w1) [(0,2),(1,1),(2,2),(3,2),(4,2),(5,1),(6,2),(7,1),(8,2),(9,1),(10,1),(11,2),(12,2)] ?_;refine fI ?_
 repeat first|refine cx ?_|refine de fU (by intro w1 hS;have d1:=bC (bX kB hS);have d2:=bC (bX Gc hS);have d3:=(Vd.ext hS).mem c nw;rw [<-TH.o]at d3;exact fV) ?_|refine dc fU ?_
 exact aks
theorem QW (a b c:Nat) (s:Nat) (pc halt:Int) (g off k kc:Nat) (m:List Int) (w:World) (Dp:k=m.length) (hk:k<=256) (ha:a<k) (hc:b<k) (hm:∀x∈m,av x) (hs:oF w s 47 pc (some ⟨g,off,none⟩) k kc halt) (hr:Row w g off (bj m)):
 Calls prog 162 #[.pointer (some ⟨s,0,none⟩),.agg (Ins.cells ⟨16,a,b,c⟩)] w λe w'=>e=.returned (.int .i64 (uj (a+m.getD b 0) k))/\al w w':=by
 have nw:b<m.length:=by omega
 have aF:al w _:=dM w (.cells (Ins.cells ⟨16,a,b,c⟩) 71);have kB:=ai.alloc hs (.cells (Ins.cells ⟨16,a,b,c⟩) 71);have Gc:=bN w 71 (Ins.cells ⟨16,a,b,c⟩);have Vd:=hr.ext aF;have pV:=hs.lt;obtain⟨x,hx⟩:=nm' (m[b]);have hxr:av x:=by rw [hx];exact hm _ (ed nw)
 have Dl:m.getD b 0=x:=by simp [nw,hx]
 rw [Dl];unfold av at hxr;obtain⟨aw,bd⟩:=hxr;obtain⟨q,hq⟩:=nm' ((a:Int)+x);rw [<-hq];have om:IntKind.i64.wrap ((a:Int)+x)=q:=by rw [im];omega
 have pK:IntKind.i64.wrap x=x:=by rw [im];omega
 have wM:(b:Int)<k:=by omega
 have⟨TH,HQ,Eh⟩:=J3' hx hq Dp;clear hs hr hx Dl hq Dp hm;go_enter func162,ntmps162;go_wp21;generalize (w.alloc (.cells (Ins.cells ⟨16,a,b,c⟩) 71))=W at aF kB Gc Vd⊢;have l1:=kB.lt;have l2:=Gc.lt;have l3:=Vd.lt;refine fH (λw1=>al W w1) [(0,2),(1,1),(2,2),(3,2),(4,2),(5,1),(6,2),(7,1),(8,2),(9,1),(10,1),(11,2),(12,2)] ?_;refine fI ?_
 repeat first|refine cx ?_|refine de fU (by intro w1 hS;have d1:=bC (bX kB hS);have d2:=bC (bX Gc hS);have d3:=(Vd.ext hS).mem b nw;rw [<-TH.o]at d3;exact fV) ?_|refine dc fU ?_
 exact aks
theorem dX (i:Ins) (size:Int) (s:Nat) (pc halt:Int) (g off k kc:Nat) (m:List Int) (w:World) (Dp:k=m.length) (hk:k<=256) (hi:aQ i size k=true) (hm:∀x∈m,av x) (hs:oF w s 47 pc (some ⟨g,off,none⟩) k kc halt) (hr:Row w g off (bj m)):
 Calls prog 162 #[.pointer (some ⟨s,0,none⟩),.agg i.cells] w λe w'=>e=.returned (.int .i64 (gj i m))/\al w w':=by
 obtain⟨h0,h22,ha,hb,hc,he⟩:=gy hi
 by_cases EL:i.op=15
 .rw [EL]at ha hb hc
  have ha:=cP rfl ha;have hb:=cP rfl hb;have hc:=cP rfl hc;obtain⟨op,a,b,c⟩:=i;simp at EL ha hb hc;subst EL;obtain⟨a,rfl⟩:∃n:Nat,a=n:=⟨a.toNat,by omega⟩;obtain⟨b,rfl⟩:∃n:Nat,b=n:=⟨b.toNat,by omega⟩;obtain⟨c,rfl⟩:∃n:Nat,c=n:=⟨c.toNat,by omega⟩;have:=U4 a b c s pc halt g off k kc m w Dp hk ad ad hm hs hr
  simpa [gj,<-Dp]using this
 .by_cases Bs:i.op=16
  .rw [Bs]at ha hb hc
   have ha:=cP rfl ha;have hb:=cP rfl hb;have hc:=cP rfl hc;obtain⟨op,a,b,c⟩:=i;simp at Bs ha hb hc;subst Bs;obtain⟨a,rfl⟩:∃n:Nat,a=n:=⟨a.toNat,by omega⟩;obtain⟨b,rfl⟩:∃n:Nat,b=n:=⟨b.toNat,by omega⟩;obtain⟨c,rfl⟩:∃n:Nat,c=n:=⟨c.toNat,by omega⟩;have:=QW a b c s pc halt g off k kc m w Dp hk ad ad hm hs hr
   simpa [gj,<-Dp]using this
  .rw [show gj i m=-1 by simp only [gj,af EL,af Bs]]
   exact adY i s pc halt _ k kc w hk (by simpa using EL) (by simpa using Bs) hs
def mg (w:World) (g:Nat) (es:Array MapEntry) (clock:Nat):Prop:=w.heap[g]?=some (.map es clock)
theorem mg.lt {w:World} {g:Nat} (h:mg w g es clock):g<w.heap.size:=(Array.getElem?_eq_some_iff.1 h).1
theorem mg.kept {S:Nat->Prop} {w w':World} {g:Nat} (h:mg w g es clock) (hk:Kept S w w') (hs:¬S g):mg w' g es clock:=(hk.block g h.lt hs).trans h
theorem mg.ext {w w':World} {g:Nat} (h:mg w g es clock) (hk:al w w'):mg w' g es clock:=h.kept hk (λf=>f)
theorem km (w:World) (g:Nat) (es:Array MapEntry) (clock:Nat) (k:Int) (f:Value) (hb:mg w g es clock) (hf:Instr.findNow (.int .i64) (.int .i64 k) es.toList 0=some none):
 ∃w',(Instr.mapUpdate 188 (.map (some g)) (.int .i64 k) f).run prog w=.ok () w'/\mg w' g (es.push ⟨.int .i64 k,f,clock⟩) (clock+1)/\Kept (·=g) w w':=by
 have hc:(Instr.checkKey false 10000 3 (.int .i64 k)).run prog w=.ok () w:=MapKept.run_checkKey (k:=.int .i64 k) underlying3 (by simp [MapKept.IsKey]) false 9999;refine⟨{w with heap:=w.heap.setIfInBounds g (.map (es.push ⟨.int .i64 k,f,clock⟩) (clock+1))},?_,?_,⟨rfl,rfl,rfl,by simp,λj hj hn=>?_⟩⟩
 .simp [Instr.mapUpdate,run_underlying underlying188,MapKept.run_getObj_map hb,hc,MapKept.run_findKey underlying3 hf,MapKept.run_setObj_map _ hb,Result.andThen]
 .exact(MapKept.heap_set hb).1
 .exact(MapKept.heap_set hb).2 j hn
theorem aJ {P:Program} {w:World} {ops:Array Oper} {rest:List Oper} {o:Oper} {a:Act} {Q:Exit->Act->World->Prop} (Dl:o.guard=none) (T:TypeId) (m k x:Operand)
 (ho:o.op=.insert T m k x) (hd:o.dst=none) {vm vk vx:Value} {w':World} (hm:a.eval m=vm) (hk:a.eval k=vk) (hx:a.eval x=vx)
 (dz:(Instr.mapUpdate T vm vk vx).run P w=.ok () w') (h:wpList P ops Q rest a w'):wpList P ops Q (o::rest) a w:=by
 refine wpList_plain Dl λ_ hK=>?_;unfold Oper.wp execOp;simp only [ho,Sem.run_bind,Sem.run_pure,Result.andThen_ok,hm,hk,hx,dz,Oper.upon];have e:a.put o.dst undef=a:=by rw [hd];rfl
 rw [e];exact hK _ _ h
def gP (n:Nat):Array MapEntry:=(([⟨.int .i64 3,.func (.func 168) #[] #[],0⟩,⟨.int .i64 4,.func (.func 169) #[] #[],1⟩,⟨.int .i64 5,.func (.func 170) #[] #[],2⟩,⟨.int .i64 6,.func (.func 171) #[] #[],3⟩,⟨.int .i64 7,.func (.func 172) #[] #[],4⟩,⟨.int .i64 8,.func (.func 173) #[] #[],5⟩,⟨.int .i64 9,.func (.func 175) #[] #[],6⟩,⟨.int .i64 10,.func (.func 176) #[] #[],7⟩,⟨.int .i64 11,.func (.func 177) #[] #[],8⟩,⟨.int .i64 12,.func (.func 178) #[] #[],9⟩,⟨.int .i64 13,.func (.func 179) #[] #[],10⟩]:List MapEntry).take n).toArray
theorem KW (w:World):Calls prog 114 #[] w λe w'=>e=.returned (.map (some w.heap.size))/\mg w' w.heap.size (gP 11) 11/\al w w':=by
 have Dq:=@run_makeMap prog;go_enter func114,ntmps114;go_upto_region 1 with(fail);go_step
 iterate 1 refine kE ?_
 have b0:mg (w.alloc (.map #[] 0)) w.heap.size (gP 0) 0:=heap_alloc_new w _;have y0:al w (w.alloc (.map #[] 0)):=dM w _;generalize (w.alloc (.map #[] 0))=w0 at b0 y0⊢;obtain⟨w1,r1,b1,k1⟩:=km w0 w.heap.size (gP 0) 0 3 (.func (.func 168) #[] #[]) b0 fK;refine aJ rfl 188 (.tmp 1) (.const (.int .i64 3)) (.func 168) rfl rfl rfl rfl rfl r1 ?_;replace b1:mg w1 w.heap.size (gP 1) 1:=b1;have y1:al w w1:=y0.trans' k1 (λi hi e=>by omega);clear r1 k1 b0 y0;obtain⟨w2,r2,b2,k2⟩:=km w1 w.heap.size (gP 1) 1 4 (.func (.func 169) #[] #[]) b1 fK;refine aJ rfl 188 (.tmp 1) (.const (.int .i64 4)) (.func 169) rfl rfl rfl rfl rfl r2 ?_;replace b2:mg w2 w.heap.size (gP 2) 2:=b2;have y2:al w w2:=y1.trans' k2 (λi hi e=>by omega);clear r2 k2 b1 y1;obtain⟨w3,r3,b3,k3⟩:=km w2 w.heap.size (gP 2) 2 5 (.func (.func 170) #[] #[]) b2 fK;refine aJ rfl 188 (.tmp 1) (.const (.int .i64 5)) (.func 170) rfl rfl rfl rfl rfl r3 ?_;replace b3:mg w3 w.heap.size (gP 3) 3:=b3;have y3:al w w3:=y2.trans' k3 (λi hi e=>by omega);clear r3 k3 b2 y2;obtain⟨w4,r4,b4,k4⟩:=km w3 w.heap.size (gP 3) 3 6 (.func (.func 171) #[] #[]) b3 fK;refine aJ rfl 188 (.tmp 1) (.const (.int .i64 6)) (.func 171) rfl rfl rfl rfl rfl r4 ?_;replace b4:mg w4 w.heap.size (gP 4) 4:=b4;have y4:al w w4:=y3.trans' k4 (λi hi e=>by omega);clear r4 k4 b3 y3;obtain⟨w5,r5,b5,k5⟩:=km w4 w.heap.size (gP 4) 4 7 (.func (.func 172) #[] #[]) b4 fK;refine aJ rfl 188 (.tmp 1) (.const (.int .i64 7)) (.func 172) rfl rfl rfl rfl rfl r5 ?_;replace b5:mg w5 w.heap.size (gP 5) 5:=b5;have y5:al w w5:=y4.trans' k5 (λi hi e=>by omega);clear r5 k5 b4 y4;obtain⟨w6,r6,b6,k6⟩:=km w5 w.heap.size (gP 5) 5 8 (.func (.func 173) #[] #[]) b5 fK;refine aJ rfl 188 (.tmp 1) (.const (.int .i64 8)) (.func 173) rfl rfl rfl rfl rfl r6 ?_;replace b6:mg w6 w.heap.size (gP 6) 6:=b6;have y6:al w w6:=y5.trans' k6 (λi hi e=>by omega);clear r6 k6 b5 y5;obtain⟨w7,r7,b7,k7⟩:=km w6 w.heap.size (gP 6) 6 9 (.func (.func 175) #[] #[]) b6 fK;refine aJ rfl 188 (.tmp 1) (.const (.int .i64 9)) (.func 175) rfl rfl rfl rfl rfl r7 ?_;replace b7:mg w7 w.heap.size (gP 7) 7:=b7;have y7:al w w7:=y6.trans' k7 (λi hi e=>by omega);clear r7 k7 b6 y6;obtain⟨w8,r8,b8,k8⟩:=km w7 w.heap.size (gP 7) 7 10 (.func (.func 176) #[] #[]) b7 fK;refine aJ rfl 188 (.tmp 1) (.const (.int .i64 10)) (.func 176) rfl rfl rfl rfl rfl r8 ?_;replace b8:mg w8 w.heap.size (gP 8) 8:=b8;have y8:al w w8:=y7.trans' k8 (λi hi e=>by omega);clear r8 k8 b7 y7;obtain⟨w9,r9,b9,k9⟩:=km w8 w.heap.size (gP 8) 8 11 (.func (.func 177) #[] #[]) b8 fK;refine aJ rfl 188 (.tmp 1) (.const (.int .i64 11)) (.func 177) rfl rfl rfl rfl rfl r9 ?_;replace b9:mg w9 w.heap.size (gP 9) 9:=b9;have y9:al w w9:=y8.trans' k9 (λi hi e=>by omega);clear r9 k9 b8 y8;obtain⟨IA,r10,TI,M5⟩:=km w9 w.heap.size (gP 9) 9 12 (.func (.func 178) #[] #[]) b9 fK;refine aJ rfl 188 (.tmp 1) (.const (.int .i64 12)) (.func 178) rfl rfl rfl rfl rfl r10 ?_;replace TI:mg IA w.heap.size (gP 10) 10:=TI;have S7:al w IA:=y9.trans' M5 (λi hi e=>by omega);clear r10 M5 b9 y9;obtain⟨w11,r11,b11,YX⟩:=km IA w.heap.size (gP 10) 10 13 (.func (.func 179) #[] #[]) TI fK;refine aJ rfl 188 (.tmp 1) (.const (.int .i64 13)) (.func 179) rfl rfl rfl rfl rfl r11 ?_;replace b11:mg w11 w.heap.size (gP 11) 11:=b11;have Y':al w w11:=S7.trans' YX (λi hi e=>by omega);clear r11 YX TI S7;go_wp21;go_ret;exact⟨rfl,b11,Y'⟩
theorem rF (w:World) (g:Nat) (k:Int) (f:Value) (i:Nat) (hb:mg w g (gP 11) 11) (hf:Instr.findNow (.int .i64) (.int .i64 k) (gP 11).toList 0=some (some (i,f))):
 (Instr.lookup 188 (.map (some g)) (.int .i64 k) false).run prog w=.ok f w:=by
 have hc:(Instr.checkKey (gP 11).isEmpty 10000 3 (.int .i64 k)).run prog w=.ok () w:=MapKept.run_checkKey (k:=.int .i64 k) underlying3 (by simp [MapKept.IsKey]) _ 9999;simp [Instr.lookup,run_underlying underlying188,MapKept.run_getObj_map hb,hc,MapKept.run_findKey underlying3 hf,Result.andThen]
def cN (b:Bool):Int:=if b=true then 1 else 0
theorem jW (b:Bool) (w:World):Calls prog 174 #[.bool b] w λe w'=>e=.returned (.int .i32 (cN b))/\w=w':=by
 cases b
 all_goals
  go_enter func174,ntmps174;go_wp21;go_ret;exact⟨rfl,rfl⟩
def gI (k:Nat) (b c:Int):Int:=match k with
 |3=>IntKind.i32.wrap (b+c)
 |4=>IntKind.i32.wrap (b - c)
 |5=>IntKind.i32.wrap (b*c)
 |6=>if c=0 then 0 else IntKind.i32.wrap (b.tdiv c)
 |7=>if c=0 then 0 else b.tmod c
 |8=>cN (b==c)
 |9=>cN (b !=c)
 |10=>cN (decide (b<c))
 |11=>cN (decide (b<=c))
 |12=>cN (b !=0&&c !=0)
 |_=>cN (b !=0||c !=0)
theorem anu (b c:Int) (_DN:av b) (_Dj:av c) (w:World):Calls prog 168 #[.int .i32 b,.int .i32 c] w λe w'=>e=.returned (.int .i32 (gI 3 b c))/\w=w':=by
 unfold av at _DN _Dj;go_enter func168,ntmps168;go_wp21;go_ret;exact⟨bB afz,rfl⟩
theorem anv (b c:Int) (_DN:av b) (_Dj:av c) (w:World):Calls prog 169 #[.int .i32 b,.int .i32 c] w λe w'=>e=.returned (.int .i32 (gI 4 b c))/\w=w':=by
 unfold av at _DN _Dj;go_enter func169,ntmps169;go_wp21;go_ret;exact⟨bB afz,rfl⟩
theorem anw (b c:Int) (_DN:av b) (_Dj:av c) (w:World):Calls prog 170 #[.int .i32 b,.int .i32 c] w λe w'=>e=.returned (.int .i32 (gI 5 b c))/\w=w':=by
 unfold av at _DN _Dj;go_enter func170,ntmps170;go_wp21;go_ret;exact⟨bB afz,rfl⟩
theorem anx (b c:Int) (_DN:av b) (_Dj:av c) (w:World):Calls prog 171 #[.int .i32 b,.int .i32 c] w λe w'=>e=.returned (.int .i32 (gI 6 b c))/\w=w':=by
 unfold av at _DN _Dj
 by_cases h0:c=0
 .have b0:(c==0)=true:=by simp [h0]
  have H0:=J h0;clear h0;go_enter func171,ntmps171;exact Lk
 .have b0:(c==0)=false:=by simp [h0]
  have H0:=J h0;go_enter func171,ntmps171;go_wp21;go_ret;exact⟨bB (by simp [gI,H0.o,IntKind.wrap_i32,wrap32]),rfl⟩
theorem anz (b c:Int) (_DN:av b) (_Dj:av c) (w:World):Calls prog 172 #[.int .i32 b,.int .i32 c] w λe w'=>e=.returned (.int .i32 (gI 7 b c))/\w=w':=by
 unfold av at _DN _Dj
 by_cases h0:c=0
 .have b0:(c==0)=true:=by simp [h0]
  have H0:=J h0;clear h0;go_enter func172,ntmps172;exact Lk
 .have b0:(c==0)=false:=by simp [h0]
  have H0:=J h0;go_enter func172,ntmps172;exact Lk
theorem anA (b c:Int) (_DN:av b) (_Dj:av c) (w:World):Calls prog 173 #[.int .i32 b,.int .i32 c] w λe w'=>e=.returned (.int .i32 (gI 8 b c))/\w=w':=by
 unfold av at _DN _Dj;go_enter func173,ntmps173;exact Qe
theorem anB (b c:Int) (_DN:av b) (_Dj:av c) (w:World):Calls prog 175 #[.int .i32 b,.int .i32 c] w λe w'=>e=.returned (.int .i32 (gI 9 b c))/\w=w':=by
 unfold av at _DN _Dj;go_enter func175,ntmps175;exact Qe
theorem ajm (b c:Int) (_DN:av b) (_Dj:av c) (w:World):Calls prog 176 #[.int .i32 b,.int .i32 c] w λe w'=>e=.returned (.int .i32 (gI 10 b c))/\w=w':=by
 unfold av at _DN _Dj;go_enter func176,ntmps176;exact Qe
theorem ajn (b c:Int) (_DN:av b) (_Dj:av c) (w:World):Calls prog 177 #[.int .i32 b,.int .i32 c] w λe w'=>e=.returned (.int .i32 (gI 11 b c))/\w=w':=by
 unfold av at _DN _Dj;go_enter func177,ntmps177;exact Qe
theorem ajo (b c:Int) (_DN:av b) (_Dj:av c) (w:World):Calls prog 178 #[.int .i32 b,.int .i32 c] w λe w'=>e=.returned (.int .i32 (gI 12 b c))/\w=w':=by
 unfold av at _DN _Dj
 by_cases h0:b=0
 .have b0:(b !=0)=false:=by simp [h0]
  have H0:=J h0;clear h0;go_enter func178,ntmps178;go_wp21;refine aoT (jW _ _) ?_;exact Lk
 .have b0:(b !=0)=true:=by simp [h0]
  have H0:=J h0;clear h0;go_enter func178,ntmps178;go_wp21;refine aoT (jW _ _) ?_;go_wp21;go_ret;exact⟨bB (by unfold gI;rw [b0];rfl),rfl⟩
theorem ajp (b c:Int) (_DN:av b) (_Dj:av c) (w:World):Calls prog 179 #[.int .i32 b,.int .i32 c] w λe w'=>e=.returned (.int .i32 (gI 13 b c))/\w=w':=by
 unfold av at _DN _Dj
 by_cases h0:b=0
 .have b0:(b !=0)=false:=by simp [h0]
  have H0:=J h0;clear h0;go_enter func179,ntmps179;go_wp21;refine aoT (jW _ _) ?_;exact Lk
 .have b0:(b !=0)=true:=by simp [h0]
  have H0:=J h0;clear h0;go_enter func179,ntmps179;go_wp21;refine aoT (jW _ _) ?_;go_wp21;go_ret;exact⟨bB (by unfold gI;rw [b0];rfl),rfl⟩
def eg (w:World) (base g n kc:Nat) (m:List Int):Prop:=w.ownsRow base 21 1 (.slice (some ⟨g,0,none⟩) n kc) n (bj m)
section
variable {w w':World} {base g n kc:Nat} {m:List Int}
theorem fG (m:List Int):(bj m).length=m.length:=by simp [bj]
theorem eg.inv (h:eg w base g n kc m):n=m.length/\∃cV,base<=g/\w.heap[g]?=some (.cells cV 21 (0,0))/\n<=kc/\kc<=maxLen/\cV.size=kc/\cV.toList.take n=bj m:=by
 have hl:=h.1;rw [fG,Nat.mul_one]at hl
 rcases h.2 with⟨hv,_⟩|⟨g',c,cV,hv,hb,hc,rB,vu,kL,mX⟩
 .simp at hv
 .simp at hv
  obtain⟨rfl,rfl⟩:=hv;rw [Nat.mul_one]at kL mX;exact⟨hl.symm,cV,hb,hc,rB,vu,kL,mX⟩
theorem eg.row (h:eg w base g n kc m):Row w g 0 (bj m):=by
 obtain⟨hn,cV,hb,hc,rB,vu,kL,mX⟩:=h.inv;refine⟨?_,?_,(Array.getElem?_eq_some_iff.1 hc).1⟩
 .unfold Proofs.YtnhelcmddjbafaaGreatDoor.has;rw [hc,fG];simp;omega
 .unfold gets;rw [hc,fG,<-hn];simp only [re];rw [mX]
theorem eg.lt (h:eg w base g n kc m):g<w.heap.size:=h.row.lt
theorem eg.cell (h:eg w base g n kc m) (k:Nat) (hk:k<m.length):w.cell? ⟨g,k,none⟩=some (.int .i32 m[k]):=by
 have:=h.row.mem k hk
 rwa [dT]at this
theorem eg.frozen (h:eg w base g n kc m) (k:Nat):w.frozen? ⟨g,k,none⟩=false:=by
 obtain⟨hn,cV,hb,hc,_⟩:=h.inv;simp [World.frozen?,hc]
theorem eg.kept {S:Nat->Prop} (h:eg w base g n kc m) (hk:Kept S w w') (hs:¬S g):eg w' base g n kc m:=cU h hk (λx hx=>by simp [Value.ownBlock]at hx;subst hx;exact hs)
theorem eg.ext (h:eg w base g n kc m) (hk:al w w'):eg w' base g n kc m:=aI h hk
theorem eg.kV (h:eg w base g n kc m) {p:Addr} (hp:¬g=p.block) (u:Value):eg (w.setCell p u) base g n kc m:=
 h.kept (Kept.setCell (S:=(·=p.block)) (kR _ w) p u (λ_=>rfl)) hp
theorem eg.set (h:eg w base g n kc m) (k:Nat) (_hk:k<m.length) (v:Int):eg (w.setCell ⟨g,k,none⟩ (.int .i32 v)) base g n kc (m.set k v):=by
 obtain⟨hn,cV,hb,hc,rB,vu,kL,mX⟩:=h.inv;refine⟨by rw [fG];simp [hn],.inr ⟨g,kc,cV.setIfInBounds k (.int .i32 v),rfl,hb,?_,rB,vu,by simpa using kL,?_⟩⟩
 .simp [World.setCell,Array.getElem?_modify,hc]
 .rw [Nat.mul_one,Array.toList_setIfInBounds,List.take_set,mX,bj,bj,List.map_set]
end
structure Stepped (w w':World) (base s g n kc:Nat) (r:Int×Int×List Int):Prop where
 st:oF w' s 47 r.1 (some ⟨g,0,none⟩) n kc r.2.1
 mem:eg w' base g n kc r.2.2
 kept:Kept (λi=>i=s∨i=g) w w'
theorem Stepped.goal {w:World} {base s g n kc:Nat} {m:List Int} {pc halt:Int} (hk:Kept (λi=>i=s∨i=g) w w2) (hs:oF w2 s 47 pc (some ⟨g,0,none⟩) n kc halt) (hm:eg w2 base g n kc m) (nT:¬s=g) (jk:Int):
 Stepped w (w2.setCell ⟨s,0,none⟩ (.int .i64 jk)) base s g n kc (jk,halt,m):=
 ⟨ai.eK hs 0 (.int .i64 jk),hm.kV (λe=>nT e.symm) _,Kept.setCell hk _ _ (λ_=>.inl rfl)⟩
theorem Stepped.halt {w:World} {base s g n kc:Nat} {m:List Int} {pc halt:Int} (hk:Kept (λi=>i=s∨i=g) w w2) (hs:oF w2 s 47 pc (some ⟨g,0,none⟩) n kc halt) (hm:eg w2 base g n kc m) (nT:¬s=g) (bU:Int):
 Stepped w (w2.setCell ⟨s,2,none⟩ (.int .i64 bU)) base s g n kc (pc,bU,m):=
 ⟨ai.eK hs 2 (.int .i64 bU),hm.kV (λe=>nT e.symm) _,Kept.setCell hk _ _ (λ_=>.inl rfl)⟩
def eP (m:List Int) (i:Int):Int:=m.getD i.toNat 0
def gV (m:List Int) (i:Int) (v:Int):List Int:=m.set i.toNat v
def aX (i:Ins) (pc:Int) (m:List Int):Int×Int×List Int:=
 if i.op=0 then(pc,1+i.a,m)
 else if i.op=1 then(pc+1,0,gV m i.a i.b)
 else if i.op=2 then(pc+1,0,gV m i.a (eP m i.b))
 else if i.op=14 then(pc+1,0,gV m i.a (cN (eP m i.b==0)))
 else if i.op=15 then(pc+1,0,gV m i.a (eP m (gj i m)))
 else if i.op=16 then(pc+1,0,gV m (gj i m) (eP m i.c))
 else if i.op=17 then(pc+1,0,gV m i.a (min (max (eP m i.a) i.b) i.c))
 else if i.op=18 then(pc+1,0,gV m i.a (cN (decide (0<=eP m i.b)&&decide (eP m i.b<i.c))))
 else if i.op=19 then(i.a,0,m)
 else if i.op=20 then(if eP m i.b=0 then i.a else pc+1,0,m)
 else if i.op=21 then(if eP m i.b=0 then pc+1 else i.a,0,m)
 else(pc+1,0,gV m i.a (gI i.op.toNat (eP m i.b) (eP m i.c)))
def lost (i:Ins) (m:List Int):Bool:=decide (gj i m<0)&&(i.op==15||i.op==16)
def gO (c:List Ins) (pc:Int) (m:List Int):Int×Int×List Int:=
 match cW c pc m.length with
 |none=>(pc,2,m)
 |some i=>if lost i m=true then(pc,2,m)else aX i pc m
structure dD (w:World) (base s g n kc q:Nat) (A:Option Addr) (b off cn:Nat) (c:List Ins) (pc:Int) (m:List Int):Prop where
 J2:n=m.length
 n1:1<=n
 n2:n<=256
 B_:∀x∈m,av x
 ops:OpsAt w
 st:oF w s 47 pc (some ⟨g,0,none⟩) n kc 0
 mem:eg w base g n kc m
 map:mg w q (gP 11) 11
 cA:0<cn->A=some ⟨b,off,none⟩
 row:0<cn->Row w b off (db c)
 UR:cn=c.length
 cn2:cn<=2048
 pc0:0<=pc
 pc1:pc<=2048
 sg:¬s=g
theorem mM {m:List Int} {k:Nat} (hk:k<m.length):eP m (k:Int)=m[k]:=by simp [eP,hk]
theorem jA {P:Program} {fn:Func} {R:Ending->World->Prop} {a:Act} {w:World} (D6:fn.results=#[]) (hd:a.defers=[]) (hR:R (.returned (.tuple #[])) w):bodyPost P fn R .ret a w:=
 bodyPost_ret (results_none D6 _ _ _) hd hR
theorem anj (w:World) (base s g n kc q:Nat) (A:Option Addr) (b off cn cap:Nat) (c:List Ins) (pc:Int) (m:List Int) (h:dD w base s g n kc q A b off cn c pc m) (a y z:Int) (ha:a=0∨a=1) (eO:cW c pc n=some ⟨0,a,y,z⟩) (bS:aQ ⟨0,a,y,z⟩ cn n=true):
 Calls prog 115 #[.pointer (some ⟨s,0,none⟩),.slice A cn cap,.map (some q)] w λe w'=>e=.returned (.tuple #[])/\Stepped w w' base s g n kc (aX ⟨0,a,y,z⟩ pc m):=by
 refine FC ?_;clear h eO bS;intro tC lF dw da dj jj kY lH nT pV BD BE uG HX HN HO mD HA HR qQ mf;go_wp21;refine zR ?_;intro e w1 e1 aw;replace e1:e=.returned (.tuple #[.agg (Ins.cells ⟨0,a,y,z⟩),.bool true]):=by rw [e1,HX.o];rfl
 subst e1;have dO:=bN w1 71 (Ins.cells ⟨0,a,y,z⟩);have x1:=aw.alloc (.cells (Ins.cells ⟨0,a,y,z⟩) 71);have dK:=bX dw x1;have eR:=da.ext x1;have jn:=dj.ext x1;have l1:=aw.size;clear dw da dj aw;go_upto_region 3 with(fail);generalize (w1.alloc (.cells (Ins.cells ⟨0,a,y,z⟩) 71))=W1 at dO x1 dK eR jn⊢;refine mQ ?_;clear dO l1;intro ic dO l1 ma mI;go_wp21;refine(dX ⟨0,a,y,z⟩ cn s pc 0 g 0 n kc m _ HN.o lF mf.o HO.o dK eR.row).mono ?_;rintro e w2 ⟨e2,bd⟩;replace e2:e=.returned (.int .i64 (-1)):=by rw [e2];rfl
 subst e2;refine Dy ?_;clear dO dK eR jn x1 bd ma mI;intro x2 ki gx eN sk wM jL zF lI lS lG;have Iq:0<=a:=by omega
 have Js:a<=1:=by omega
 clear ha;go_wp21;refine jA results115 rfl ⟨rfl,?_⟩;exact Stepped.halt (Kept.ext x2) gx eN nT _
theorem ank (w:World) (base s g n kc q:Nat) (A:Option Addr) (b off cn cap:Nat) (c:List Ins) (pc:Int) (m:List Int) (h:dD w base s g n kc q A b off cn c pc m) (a:Nat) (y z:Int) (ha:a<n) (hy1:-2147483648<=y) (hy2:y<=2147483647) (eO:cW c pc n=some ⟨1,a,y,z⟩) (bS:aQ ⟨1,a,y,z⟩ cn n=true):
 Calls prog 115 #[.pointer (some ⟨s,0,none⟩),.slice A cn cap,.map (some q)] w λe w'=>e=.returned (.tuple #[])/\Stepped w w' base s g n kc (aX ⟨1,a,y,z⟩ pc m):=by
 refine FC ?_;clear h eO bS;intro tC lF dw da dj jj kY lH nT pV BD BE uG HX HN HO mD HA HR qQ mf;go_wp21;refine zR ?_;intro e w1 e1 aw;replace e1:e=.returned (.tuple #[.agg (Ins.cells ⟨1,a,y,z⟩),.bool true]):=by rw [e1,HX.o];rfl
 subst e1;have dO:=bN w1 71 (Ins.cells ⟨1,a,y,z⟩);have x1:=aw.alloc (.cells (Ins.cells ⟨1,a,y,z⟩) 71);have dK:=bX dw x1;have eR:=da.ext x1;have jn:=dj.ext x1;have l1:=aw.size;clear dw da dj aw;go_upto_region 3 with(fail);generalize (w1.alloc (.cells (Ins.cells ⟨1,a,y,z⟩) 71))=W1 at dO x1 dK eR jn⊢;refine mQ ?_;clear dO l1;intro ic dO l1 ma mI;go_wp21;refine(dX ⟨1,a,y,z⟩ cn s pc 0 g 0 n kc m _ HN.o lF mf.o HO.o dK eR.row).mono ?_;rintro e w2 ⟨e2,bd⟩;replace e2:e=.returned (.int .i64 (-1)):=by rw [e2];rfl
 subst e2;refine Dy ?_;clear dO dK eR jn x1 bd ma mI;intro x2 ki gx eN sk wM jL zF lI lS lG;have dJ:a<m.length:=by have:=HN.o;omega
 have Ir:(a:Int)<n:=by omega
 have EO:=eN.cell a dJ;have Jv:=eN.frozen;have hwb:IntKind.i32.wrap y=y:=by rw [IntKind.wrap_i32];omega
 have HE:aoR (aX ⟨1,a,y,z⟩ pc m=(pc+1,0,m.set a y)):=J (by simp [aX,gV]);go_upto_region 32 with(fail);have qL:=ai.kV gx (p:=⟨g,a,none⟩) nT (.int .i32 (y));have xf:=eN.set a dJ (y);have jq:Kept (λi=>i=s∨i=g) w (w2.setCell ⟨g,a,none⟩ (.int .i32 (y))):=Kept.setCell (Kept.ext x2) _ _ (λ_=>.inr rfl);generalize w2.setCell ⟨g,a,none⟩ (.int .i32 y)=W3 at qL xf jq⊢;exact zp
theorem anl (w:World) (base s g n kc q:Nat) (A:Option Addr) (b off cn cap:Nat) (c:List Ins) (pc:Int) (m:List Int) (h:dD w base s g n kc q A b off cn c pc m) (a y:Nat) (z:Int) (ha:a<n) (hy:y<n) (eO:cW c pc n=some ⟨2,a,y,z⟩) (bS:aQ ⟨2,a,y,z⟩ cn n=true):
 Calls prog 115 #[.pointer (some ⟨s,0,none⟩),.slice A cn cap,.map (some q)] w λe w'=>e=.returned (.tuple #[])/\Stepped w w' base s g n kc (aX ⟨2,a,y,z⟩ pc m):=by
 refine FC ?_;clear h eO bS;intro tC lF dw da dj jj kY lH nT pV BD BE uG HX HN HO mD HA HR qQ mf;go_wp21;refine zR ?_;intro e w1 e1 aw;replace e1:e=.returned (.tuple #[.agg (Ins.cells ⟨2,a,y,z⟩),.bool true]):=by rw [e1,HX.o];rfl
 subst e1;have dO:=bN w1 71 (Ins.cells ⟨2,a,y,z⟩);have x1:=aw.alloc (.cells (Ins.cells ⟨2,a,y,z⟩) 71);have dK:=bX dw x1;have eR:=da.ext x1;have jn:=dj.ext x1;have l1:=aw.size;clear dw da dj aw;go_upto_region 3 with(fail);generalize (w1.alloc (.cells (Ins.cells ⟨2,a,y,z⟩) 71))=W1 at dO x1 dK eR jn⊢;refine mQ ?_;clear dO l1;intro ic dO l1 ma mI;go_wp21;refine(dX ⟨2,a,y,z⟩ cn s pc 0 g 0 n kc m _ HN.o lF mf.o HO.o dK eR.row).mono ?_;rintro e w2 ⟨e2,bd⟩;replace e2:e=.returned (.int .i64 (-1)):=by rw [e2];rfl
 subst e2;refine Dy ?_;clear dO dK eR jn x1 bd ma mI;intro x2 ki gx eN sk wM jL zF lI lS lG;have dJ:a<m.length:=by have:=HN.o;omega
 have Ir:(a:Int)<n:=by omega
 have pL:y<m.length:=by have:=HN.o;omega
 have LK:(y:Int)<n:=by omega
 have EO:=eN.cell a dJ;have Jv:=eN.frozen;have hcY:=eN.cell y pL;obtain⟨v,hv⟩:=nm' (m[y]);have HE:aoR (aX ⟨2,a,y,z⟩ pc m=(pc+1,0,m.set a v)):=J (by simp [aX,gV,mM pL,hv]);have HV:=J hv;clear hv;go_upto_region 15 with(fail);refine fH (λw3=>al w2 w3) [(0,2),(1,2),(2,1),(3,2),(4,2),(5,1),(6,2),(7,1),(8,2),(9,0)] ?_;refine fI ?_;refine X_ ?_;exact akq
theorem ajd (w:World) (base s g n kc q:Nat) (A:Option Addr) (b off cn cap:Nat) (c:List Ins) (pc:Int) (m:List Int) (h:dD w base s g n kc q A b off cn c pc m) (a y:Nat) (z:Int) (ha:a<n) (hy:y<n) (eO:cW c pc n=some ⟨14,a,y,z⟩) (bS:aQ ⟨14,a,y,z⟩ cn n=true):
 Calls prog 115 #[.pointer (some ⟨s,0,none⟩),.slice A cn cap,.map (some q)] w λe w'=>e=.returned (.tuple #[])/\Stepped w w' base s g n kc (aX ⟨14,a,y,z⟩ pc m):=by
 refine FC ?_;clear h eO bS;intro tC lF dw da dj jj kY lH nT pV BD BE uG HX HN HO mD HA HR qQ mf;go_wp21;refine zR ?_;intro e w1 e1 aw;replace e1:e=.returned (.tuple #[.agg (Ins.cells ⟨14,a,y,z⟩),.bool true]):=by rw [e1,HX.o];rfl
 subst e1;have dO:=bN w1 71 (Ins.cells ⟨14,a,y,z⟩);have x1:=aw.alloc (.cells (Ins.cells ⟨14,a,y,z⟩) 71);have dK:=bX dw x1;have eR:=da.ext x1;have jn:=dj.ext x1;have l1:=aw.size;clear dw da dj aw;go_upto_region 3 with(fail);generalize (w1.alloc (.cells (Ins.cells ⟨14,a,y,z⟩) 71))=W1 at dO x1 dK eR jn⊢;refine mQ ?_;clear dO l1;intro ic dO l1 ma mI;go_wp21;refine(dX ⟨14,a,y,z⟩ cn s pc 0 g 0 n kc m _ HN.o lF mf.o HO.o dK eR.row).mono ?_;rintro e w2 ⟨e2,bd⟩;replace e2:e=.returned (.int .i64 (-1)):=by rw [e2];rfl
 subst e2;refine Dy ?_;clear dO dK eR jn x1 bd ma mI;intro x2 ki gx eN sk wM jL zF lI lS lG;have dJ:a<m.length:=by have:=HN.o;omega
 have Ir:(a:Int)<n:=by omega
 have pL:y<m.length:=by have:=HN.o;omega
 have LK:(y:Int)<n:=by omega
 have EO:=eN.cell a dJ;have Jv:=eN.frozen;obtain⟨v,hv⟩:=nm' (m[y]);have uK:aoR (av v):=J uv;have HE:aoR (aX ⟨14,a,y,z⟩ pc m=(pc+1,0,m.set a (cN (v==0)))):=J (by simp [aX,gV,mM pL,hv]);have HV:=J hv;clear hv;go_upto_region 17 with(fail);refine fH (λw3=>al w2 w3) [(0,2),(1,2),(2,1),(3,2),(4,2),(5,1),(6,2),(7,1),(8,2),(9,0),(10,2),(11,0)] ?_;refine fI ?_;refine X_ ?_;refine au (λK hK=>?_);go_simp;go_wp21;refine aoT (jW _ _) ?_;refine hK.out _ _ (λh=>h) ?_;clear hK K;refine fx ?_;have qL:oF (w2.setCell ⟨g,a,none⟩ (.int .i32 (cN (v==0)))).drew s 47 pc (some ⟨g,0,none⟩) n kc 0:=ai.kV gx (p:=⟨g,a,none⟩) nT (.int .i32 (cN (v==0)));have xf:eg (w2.setCell ⟨g,a,none⟩ (.int .i32 (cN (v==0)))).drew base g n kc (m.set a (cN (v==0))):=(eN.set a dJ (cN (v==0))).ext ((kR _ _).drew);have jq:Kept (λi=>i=s∨i=g) w (w2.setCell ⟨g,a,none⟩ (.int .i32 (cN (v==0)))).drew:=(Kept.setCell (Kept.ext x2) _ _ (λ_=>.inr rfl)).drew;generalize (w2.setCell ⟨g,a,none⟩ (.int .i32 (cN (v==0)))).drew=W3 at qL xf jq⊢;exact zp
theorem aje (w:World) (base s g n kc q:Nat) (A:Option Addr) (b off cn cap:Nat) (c:List Ins) (pc:Int) (m:List Int) (h:dD w base s g n kc q A b off cn c pc m) (a y z p:Nat) (ha:a<n) (hp:p<n) (s8:gj ⟨15,a,y,z⟩ m=(p:Int)) (eO:cW c pc n=some ⟨15,a,y,z⟩) (bS:aQ ⟨15,a,y,z⟩ cn n=true):
 Calls prog 115 #[.pointer (some ⟨s,0,none⟩),.slice A cn cap,.map (some q)] w λe w'=>e=.returned (.tuple #[])/\Stepped w w' base s g n kc (aX ⟨15,a,y,z⟩ pc m):=by
 obtain⟨hn,tC,lF,ie,eH,dw,da,dj,sl,aE,sq,jj,kY,lH,nT⟩:=h;have pV:=dw.lt;have BD:=da.lt;have BE:=dj.lt;have uG:¬g=s:=λe=>nT e.symm;have⟨HX,HN,HO,mD,HA,HR,qQ,mf,HF⟩:=J9' eO hn ie eH sl aE sq bS s8;clear s8 eO hn ie eH sl aE sq bS;go_enter func115,ntmps115;go_wp21;refine zR ?_;intro e w1 e1 aw;replace e1:e=.returned (.tuple #[.agg (Ins.cells ⟨15,a,y,z⟩),.bool true]):=by rw [e1,HX.o];rfl
 subst e1;have dO:=bN w1 71 (Ins.cells ⟨15,a,y,z⟩);have x1:=aw.alloc (.cells (Ins.cells ⟨15,a,y,z⟩) 71);have dK:=bX dw x1;have eR:=da.ext x1;have jn:=dj.ext x1;have l1:=aw.size;clear dw da dj aw;go_upto_region 3 with(fail);generalize (w1.alloc (.cells (Ins.cells ⟨15,a,y,z⟩) 71))=W1 at dO x1 dK eR jn⊢;refine mQ ?_;clear dO l1;intro ic dO l1 ma mI;go_wp21;refine(dX ⟨15,a,y,z⟩ cn s pc 0 g 0 n kc m _ HN.o lF mf.o HO.o dK eR.row).mono ?_;rintro e w2 ⟨e2,bd⟩;replace e2:e=.returned (.int .i64 (p)):=by rw [e2];rw [HF.o]
 subst e2;refine Dy ?_;clear dO dK eR jn x1 bd ma mI;intro x2 ki gx eN sk wM jL zF lI lS lG;have dJ:a<m.length:=by have:=HN.o;omega
 have Ir:(a:Int)<n:=by omega
 have mW:p<m.length:=by have:=HN.o;omega
 have hpI:(p:Int)<n:=by omega
 have EO:=eN.cell a dJ;have Jv:=eN.frozen;obtain⟨v,hv⟩:=nm' (m[p]);have uK:aoR (av v):=J (by rw [hv];exact HO.o _ (ed mW));have HE:aoR (aX ⟨15,a,y,z⟩ pc m=(pc+1,0,m.set a v)):=J (by simp [aX,gV,HF.o,mM mW,hv]);have HV:=J hv;clear hv;go_upto_region 19 with(fail);refine fH (λw3=>al w2 w3) [(0,2),(1,2),(2,1),(3,2),(4,2),(5,2),(6,1),(7,2),(8,0)] ?_;refine fI ?_
 repeat first|refine cx ?_|refine de fU (by intro w1 hS;have d1:=bC (bX ki hS);have d2:=(eN.ext hS).cell p mW;rw [<-HV.o]at d2;exact fV) ?_|refine dc fU ?_
 exact akq
theorem ajf (w:World) (base s g n kc q:Nat) (A:Option Addr) (b off cn cap:Nat) (c:List Ins) (pc:Int) (m:List Int) (h:dD w base s g n kc q A b off cn c pc m) (x y z a:Nat) (ha:a<n) (hz:z<n) (s8:gj ⟨16,x,y,z⟩ m=(a:Int)) (eO:cW c pc n=some ⟨16,x,y,z⟩) (bS:aQ ⟨16,x,y,z⟩ cn n=true):
 Calls prog 115 #[.pointer (some ⟨s,0,none⟩),.slice A cn cap,.map (some q)] w λe w'=>e=.returned (.tuple #[])/\Stepped w w' base s g n kc (aX ⟨16,x,y,z⟩ pc m):=by
 obtain⟨hn,tC,lF,ie,eH,dw,da,dj,sl,aE,sq,jj,kY,lH,nT⟩:=h;have pV:=dw.lt;have BD:=da.lt;have BE:=dj.lt;have uG:¬g=s:=λe=>nT e.symm;have⟨HX,HN,HO,mD,HA,HR,qQ,mf,HF⟩:=J9' eO hn ie eH sl aE sq bS s8;clear s8 eO hn ie eH sl aE sq bS;go_enter func115,ntmps115;go_wp21;refine zR ?_;intro e w1 e1 aw;replace e1:e=.returned (.tuple #[.agg (Ins.cells ⟨16,x,y,z⟩),.bool true]):=by rw [e1,HX.o];rfl
 subst e1;have dO:=bN w1 71 (Ins.cells ⟨16,x,y,z⟩);have x1:=aw.alloc (.cells (Ins.cells ⟨16,x,y,z⟩) 71);have dK:=bX dw x1;have eR:=da.ext x1;have jn:=dj.ext x1;have l1:=aw.size;clear dw da dj aw;go_upto_region 3 with(fail);generalize (w1.alloc (.cells (Ins.cells ⟨16,x,y,z⟩) 71))=W1 at dO x1 dK eR jn⊢;refine mQ ?_;clear dO l1;intro ic dO l1 ma mI;go_wp21;refine(dX ⟨16,x,y,z⟩ cn s pc 0 g 0 n kc m _ HN.o lF mf.o HO.o dK eR.row).mono ?_;rintro e w2 ⟨e2,bd⟩;replace e2:e=.returned (.int .i64 (a)):=by rw [e2];rw [HF.o]
 subst e2;refine Dy ?_;clear dO dK eR jn x1 bd ma mI;intro x2 ki gx eN sk wM jL zF lI lS lG;have dJ:a<m.length:=by have:=HN.o;omega
 have Ir:(a:Int)<n:=by omega
 have rC:z<m.length:=by have:=HN.o;omega
 have MR:(z:Int)<n:=by omega
 have EO:=eN.cell a dJ;have Jv:=eN.frozen;obtain⟨v,hv⟩:=nm' (m[z]);have uK:aoR (av v):=J (by rw [hv];exact HO.o _ (ed rC));have HE:aoR (aX ⟨16,x,y,z⟩ pc m=(pc+1,0,m.set a v)):=J (by simp [aX,gV,HF.o,mM rC,hv]);have hcZ:=eN.cell z rC;rw [<-hv]at hcZ;have HV:=J hv;clear hv;go_upto_region 32 with(fail);have qL:=ai.kV gx (p:=⟨g,a,none⟩) nT (.int .i32 (v));have xf:=eN.set a dJ (v);have jq:Kept (λi=>i=s∨i=g) w (w2.setCell ⟨g,a,none⟩ (.int .i32 (v))):=Kept.setCell (Kept.ext x2) _ _ (λ_=>.inr rfl);generalize w2.setCell ⟨g,a,none⟩ (.int .i32 v)=W3 at qL xf jq⊢;exact zp
theorem ajg (w:World) (base s g n kc q:Nat) (A:Option Addr) (b off cn cap:Nat) (c:List Ins) (pc:Int) (m:List Int) (h:dD w base s g n kc q A b off cn c pc m) (a:Nat) (y z:Int) (ha:a<n) (hy1:-2147483648<=y) (hy2:y<=2147483647) (hz1:-2147483648<=z) (hz2:z<=2147483647) (eO:cW c pc n=some ⟨17,a,y,z⟩) (bS:aQ ⟨17,a,y,z⟩ cn n=true):
 Calls prog 115 #[.pointer (some ⟨s,0,none⟩),.slice A cn cap,.map (some q)] w λe w'=>e=.returned (.tuple #[])/\Stepped w w' base s g n kc (aX ⟨17,a,y,z⟩ pc m):=by
 refine FC ?_;clear h eO bS;intro tC lF dw da dj jj kY lH nT pV BD BE uG HX HN HO mD HA HR qQ mf;go_wp21;refine zR ?_;intro e w1 e1 aw;replace e1:e=.returned (.tuple #[.agg (Ins.cells ⟨17,a,y,z⟩),.bool true]):=by rw [e1,HX.o];rfl
 subst e1;have dO:=bN w1 71 (Ins.cells ⟨17,a,y,z⟩);have x1:=aw.alloc (.cells (Ins.cells ⟨17,a,y,z⟩) 71);have dK:=bX dw x1;have eR:=da.ext x1;have jn:=dj.ext x1;have l1:=aw.size;clear dw da dj aw;go_upto_region 3 with(fail);generalize (w1.alloc (.cells (Ins.cells ⟨17,a,y,z⟩) 71))=W1 at dO x1 dK eR jn⊢;refine mQ ?_;clear dO l1;intro ic dO l1 ma mI;go_wp21;refine(dX ⟨17,a,y,z⟩ cn s pc 0 g 0 n kc m _ HN.o lF mf.o HO.o dK eR.row).mono ?_;rintro e w2 ⟨e2,bd⟩;replace e2:e=.returned (.int .i64 (-1)):=by rw [e2];rfl
 subst e2;refine Dy ?_;clear dO dK eR jn x1 bd ma mI;intro x2 ki gx eN sk wM jL zF lI lS lG;have dJ:a<m.length:=by have:=HN.o;omega
 have Ir:(a:Int)<n:=by omega
 have EO:=eN.cell a dJ;have Jv:=eN.frozen;obtain⟨v,hv⟩:=nm' (m[a]);have uK:aoR (av v):=J (by rw [hv];exact HO.o _ (ed dJ));have hwy:IntKind.i32.wrap y=y:=by rw [IntKind.wrap_i32];omega
 have hwz:IntKind.i32.wrap z=z:=by rw [IntKind.wrap_i32];omega
 have HE:aoR (aX ⟨17,a,y,z⟩ pc m=(pc+1,0,m.set a (min (max v y) z))):=J (by simp [aX,gV,mM dJ,hv]);have HV:=J hv;clear hv;go_upto_region 23 with(fail);refine fH (λw3=>al w2 w3) [(0,2),(1,2),(2,1),(3,2),(4,2),(5,1),(6,2),(7,1),(8,2),(9,1),(10,1),(11,2),(12,2),(13,1),(14,1),(15,2),(16,2),(17,0)] ?_;refine fI ?_
 repeat first|refine cx ?_|refine de fU (by intro w1 hS;have d1:=bC (bX ki hS);have d2:=(eN.ext hS).cell a dJ;rw [<-HV.o]at d2;exact fV) ?_|refine dc fU ?_
 refine fx ?_;have qL:oF (w2.setCell ⟨g,a,none⟩ (.int .i32 (min (max v y) z))).drew s 47 pc (some ⟨g,0,none⟩) n kc 0:=ai.kV gx (p:=⟨g,a,none⟩) nT (.int .i32 (min (max v y) z));have xf:eg (w2.setCell ⟨g,a,none⟩ (.int .i32 (min (max v y) z))).drew base g n kc (m.set a (min (max v y) z)):=(eN.set a dJ (min (max v y) z)).ext ((kR _ _).drew);have jq:Kept (λi=>i=s∨i=g) w (w2.setCell ⟨g,a,none⟩ (.int .i32 (min (max v y) z))).drew:=(Kept.setCell (Kept.ext x2) _ _ (λ_=>.inr rfl)).drew;generalize (w2.setCell ⟨g,a,none⟩ (.int .i32 (min (max v y) z))).drew=W3 at qL xf jq⊢;exact zp
theorem ajh (w:World) (base s g n kc q:Nat) (A:Option Addr) (b off cn cap:Nat) (c:List Ins) (pc:Int) (m:List Int) (h:dD w base s g n kc q A b off cn c pc m) (a y:Nat) (z:Int) (ha:a<n) (hy:y<n) (_aog:0<=z) (_aoh:z<=2147483647) (eO:cW c pc n=some ⟨18,a,y,z⟩) (bS:aQ ⟨18,a,y,z⟩ cn n=true):
 Calls prog 115 #[.pointer (some ⟨s,0,none⟩),.slice A cn cap,.map (some q)] w λe w'=>e=.returned (.tuple #[])/\Stepped w w' base s g n kc (aX ⟨18,a,y,z⟩ pc m):=by
 refine FC ?_;clear h eO bS;intro tC lF dw da dj jj kY lH nT pV BD BE uG HX HN HO mD HA HR qQ mf;go_wp21;refine zR ?_;intro e w1 e1 aw;replace e1:e=.returned (.tuple #[.agg (Ins.cells ⟨18,a,y,z⟩),.bool true]):=by rw [e1,HX.o];rfl
 subst e1;have dO:=bN w1 71 (Ins.cells ⟨18,a,y,z⟩);have x1:=aw.alloc (.cells (Ins.cells ⟨18,a,y,z⟩) 71);have dK:=bX dw x1;have eR:=da.ext x1;have jn:=dj.ext x1;have l1:=aw.size;clear dw da dj aw;go_upto_region 3 with(fail);generalize (w1.alloc (.cells (Ins.cells ⟨18,a,y,z⟩) 71))=W1 at dO x1 dK eR jn⊢;refine mQ ?_;clear dO l1;intro ic dO l1 ma mI;go_wp21;refine(dX ⟨18,a,y,z⟩ cn s pc 0 g 0 n kc m _ HN.o lF mf.o HO.o dK eR.row).mono ?_;rintro e w2 ⟨e2,bd⟩;replace e2:e=.returned (.int .i64 (-1)):=by rw [e2];rfl
 subst e2;refine Dy ?_;clear dO dK eR jn x1 bd ma mI;intro x2 ki gx eN sk wM jL zF lI lS lG;have dJ:a<m.length:=by have:=HN.o;omega
 have Ir:(a:Int)<n:=by omega
 have pL:y<m.length:=by have:=HN.o;omega
 have LK:(y:Int)<n:=by omega
 have EO:=eN.cell a dJ;have Jv:=eN.frozen;obtain⟨v,hv⟩:=nm' (m[y]);have uK:aoR (av v):=J uv;have HE:aoR (aX ⟨18,a,y,z⟩ pc m=(pc+1,0,m.set a (cN (decide (0<=v)&&decide (v<z))))):=J (by simp [aX,gV,mM pL,hv]);have HV:=J hv;obtain⟨mJ,LJ⟩:-2147483648<=v/\v<=2147483647:=uK.o;have ud:IntKind.i64.wrap v=v:=by rw [im];omega
 clear hv;go_upto_region 25 with(fail)
 by_cases i':0<=v
 .have b0:decide (0<=v)=true:=by simpa using i'
  refine fH (λw3=>al w2 w3) [(0,2),(1,2),(2,1),(3,2),(4,2),(5,1),(6,2),(7,1),(8,2),(9,2),(10,2),(11,2),(12,1),(13,2),(14,1),(15,1),(16,2),(17,1),(18,2),(19,2),(20,0),(21,2),(22,0)] ?_;refine fI ?_;refine X_ ?_;refine au (λK hK=>?_);go_simp;go_wp21;refine aoT (jW _ _) ?_;refine hK.out _ _ (λh=>h) ?_;clear hK K;refine fx ?_;have ev:cN (decide (v<z))=cN (decide (0<=v)&&decide (v<z)):=by rw [b0];rfl
  exact akn
 .have b0:decide (0<=v)=false:=by simpa using i'
  refine fH (λw3=>al w2 w3) [(0,2),(1,2),(2,1),(3,2),(4,2),(5,1),(6,2),(7,1),(8,2),(9,2),(10,2),(11,2),(12,1),(13,2),(14,1),(15,1),(16,2),(17,1),(18,2),(19,2),(20,0),(21,2),(22,0)] ?_;refine fI ?_;refine X_ ?_;refine au (λK hK=>?_);go_simp;go_wp21;refine aoT (jW _ _) ?_;refine hK.out _ _ (λh=>h) ?_;clear hK K;refine fx ?_;have ev:cN false=cN (decide (0<=v)&&decide (v<z)):=by rw [b0];rfl
  exact akn
theorem aji (w:World) (base s g n kc q:Nat) (A:Option Addr) (b off cn cap:Nat) (c:List Ins) (pc:Int) (m:List Int) (h:dD w base s g n kc q A b off cn c pc m) (a:Nat) (y z:Int) (eO:cW c pc n=some ⟨19,a,y,z⟩) (bS:aQ ⟨19,a,y,z⟩ cn n=true):
 Calls prog 115 #[.pointer (some ⟨s,0,none⟩),.slice A cn cap,.map (some q)] w λe w'=>e=.returned (.tuple #[])/\Stepped w w' base s g n kc (aX ⟨19,a,y,z⟩ pc m):=by
 refine FC ?_;clear h eO bS;intro tC lF dw da dj jj kY lH nT pV BD BE uG HX HN HO mD HA HR qQ mf;go_wp21;refine zR ?_;intro e w1 e1 aw;replace e1:e=.returned (.tuple #[.agg (Ins.cells ⟨19,a,y,z⟩),.bool true]):=by rw [e1,HX.o];rfl
 subst e1;have dO:=bN w1 71 (Ins.cells ⟨19,a,y,z⟩);have x1:=aw.alloc (.cells (Ins.cells ⟨19,a,y,z⟩) 71);have dK:=bX dw x1;have eR:=da.ext x1;have jn:=dj.ext x1;have l1:=aw.size;clear dw da dj aw;go_upto_region 3 with(fail);generalize (w1.alloc (.cells (Ins.cells ⟨19,a,y,z⟩) 71))=W1 at dO x1 dK eR jn⊢;refine mQ ?_;clear dO l1;intro ic dO l1 ma mI;go_wp21;refine(dX ⟨19,a,y,z⟩ cn s pc 0 g 0 n kc m _ HN.o lF mf.o HO.o dK eR.row).mono ?_;rintro e w2 ⟨e2,bd⟩;replace e2:e=.returned (.int .i64 (-1)):=by rw [e2];rfl
 subst e2;refine Dy ?_;clear dO dK eR jn x1 bd ma mI;intro x2 ki gx eN sk wM jL zF lI lS lG;have HE:aoR (aX ⟨19,a,y,z⟩ pc m=((a:Int),0,m)):=J (by simp [aX]);have qL:=gx;have xf:=eN;have jq:Kept (λi=>i=s∨i=g) w w2:=Kept.ext x2;exact zp
theorem ajj (w:World) (base s g n kc q:Nat) (A:Option Addr) (b off cn cap:Nat) (c:List Ins) (pc:Int) (m:List Int) (h:dD w base s g n kc q A b off cn c pc m) (a y:Nat) (z:Int) (hy:y<n) (eO:cW c pc n=some ⟨20,a,y,z⟩) (bS:aQ ⟨20,a,y,z⟩ cn n=true):
 Calls prog 115 #[.pointer (some ⟨s,0,none⟩),.slice A cn cap,.map (some q)] w λe w'=>e=.returned (.tuple #[])/\Stepped w w' base s g n kc (aX ⟨20,a,y,z⟩ pc m):=by
 refine FC ?_;clear h eO bS;intro tC lF dw da dj jj kY lH nT pV BD BE uG HX HN HO mD HA HR qQ mf;go_wp21;refine zR ?_;intro e w1 e1 aw;replace e1:e=.returned (.tuple #[.agg (Ins.cells ⟨20,a,y,z⟩),.bool true]):=by rw [e1,HX.o];rfl
 subst e1;have dO:=bN w1 71 (Ins.cells ⟨20,a,y,z⟩);have x1:=aw.alloc (.cells (Ins.cells ⟨20,a,y,z⟩) 71);have dK:=bX dw x1;have eR:=da.ext x1;have jn:=dj.ext x1;have l1:=aw.size;clear dw da dj aw;go_upto_region 3 with(fail);generalize (w1.alloc (.cells (Ins.cells ⟨20,a,y,z⟩) 71))=W1 at dO x1 dK eR jn⊢;refine mQ ?_;clear dO l1;intro ic dO l1 ma mI;go_wp21;refine(dX ⟨20,a,y,z⟩ cn s pc 0 g 0 n kc m _ HN.o lF mf.o HO.o dK eR.row).mono ?_;rintro e w2 ⟨e2,bd⟩;replace e2:e=.returned (.int .i64 (-1)):=by rw [e2];rfl
 subst e2;refine Dy ?_;clear dO dK eR jn x1 bd ma mI;intro x2 ki gx eN sk wM jL zF lI lS lG;have pL:y<m.length:=by have:=HN.o;omega
 have LK:(y:Int)<n:=by omega
 obtain⟨v,hv⟩:=nm' (m[y]);have uK:aoR (av v):=J uv;have HV:=J hv
 by_cases hz:v=0
 .have b0:(v==0)=true:=by simp [hz]
  have HE:aoR (aX ⟨20,a,y,z⟩ pc m=((a:Int),0,m)):=J abu;exact abI
 .have b0:(v==0)=false:=by simp [hz]
  have HE:aoR (aX ⟨20,a,y,z⟩ pc m=(pc+1,0,m)):=J abu;exact abI
theorem ajk (w:World) (base s g n kc q:Nat) (A:Option Addr) (b off cn cap:Nat) (c:List Ins) (pc:Int) (m:List Int) (h:dD w base s g n kc q A b off cn c pc m) (a y:Nat) (z:Int) (hy:y<n) (eO:cW c pc n=some ⟨21,a,y,z⟩) (bS:aQ ⟨21,a,y,z⟩ cn n=true):
 Calls prog 115 #[.pointer (some ⟨s,0,none⟩),.slice A cn cap,.map (some q)] w λe w'=>e=.returned (.tuple #[])/\Stepped w w' base s g n kc (aX ⟨21,a,y,z⟩ pc m):=by
 refine FC ?_;clear h eO bS;intro tC lF dw da dj jj kY lH nT pV BD BE uG HX HN HO mD HA HR qQ mf;go_wp21;refine zR ?_;intro e w1 e1 aw;replace e1:e=.returned (.tuple #[.agg (Ins.cells ⟨21,a,y,z⟩),.bool true]):=by rw [e1,HX.o];rfl
 subst e1;have dO:=bN w1 71 (Ins.cells ⟨21,a,y,z⟩);have x1:=aw.alloc (.cells (Ins.cells ⟨21,a,y,z⟩) 71);have dK:=bX dw x1;have eR:=da.ext x1;have jn:=dj.ext x1;have l1:=aw.size;clear dw da dj aw;go_upto_region 3 with(fail);generalize (w1.alloc (.cells (Ins.cells ⟨21,a,y,z⟩) 71))=W1 at dO x1 dK eR jn⊢;refine mQ ?_;clear dO l1;intro ic dO l1 ma mI;go_wp21;refine(dX ⟨21,a,y,z⟩ cn s pc 0 g 0 n kc m _ HN.o lF mf.o HO.o dK eR.row).mono ?_;rintro e w2 ⟨e2,bd⟩;replace e2:e=.returned (.int .i64 (-1)):=by rw [e2];rfl
 subst e2;refine Dy ?_;clear dO dK eR jn x1 bd ma mI;intro x2 ki gx eN sk wM jL zF lI lS lG;have pL:y<m.length:=by have:=HN.o;omega
 have LK:(y:Int)<n:=by omega
 obtain⟨v,hv⟩:=nm' (m[y]);have uK:aoR (av v):=J uv;have HV:=J hv
 by_cases hz:v=0
 .have b0:(v==0)=true:=by simp [hz]
  have HE:aoR (aX ⟨21,a,y,z⟩ pc m=(pc+1,0,m)):=J abu;exact abI
 .have b0:(v==0)=false:=by simp [hz]
  have HE:aoR (aX ⟨21,a,y,z⟩ pc m=((a:Int),0,m)):=J abu;exact abI
theorem anm (w:World) (base s g n kc q:Nat) (A:Option Addr) (b off cn cap:Nat) (c:List Ins) (pc:Int) (m:List Int) (h:dD w base s g n kc q A b off cn c pc m) (a y z:Nat) (ha:a<n) (hy:y<n) (hz:z<n) (eO:cW c pc n=some ⟨3,a,y,z⟩) (bS:aQ ⟨3,a,y,z⟩ cn n=true):
 Calls prog 115 #[.pointer (some ⟨s,0,none⟩),.slice A cn cap,.map (some q)] w λe w'=>e=.returned (.tuple #[])/\Stepped w w' base s g n kc (aX ⟨3,a,y,z⟩ pc m):=by
 refine FC ?_;clear h eO bS;intro tC lF dw da dj jj kY lH nT pV BD BE uG HX HN HO mD HA HR qQ mf;go_wp21;refine zR ?_;intro e w1 e1 aw;replace e1:e=.returned (.tuple #[.agg (Ins.cells ⟨3,a,y,z⟩),.bool true]):=by rw [e1,HX.o];rfl
 subst e1;have dO:=bN w1 71 (Ins.cells ⟨3,a,y,z⟩);have x1:=aw.alloc (.cells (Ins.cells ⟨3,a,y,z⟩) 71);have dK:=bX dw x1;have eR:=da.ext x1;have jn:=dj.ext x1;have l1:=aw.size;clear dw da dj aw;go_upto_region 3 with(fail);generalize (w1.alloc (.cells (Ins.cells ⟨3,a,y,z⟩) 71))=W1 at dO x1 dK eR jn⊢;refine mQ ?_;clear dO l1;intro ic dO l1 ma mI;go_wp21;refine(dX ⟨3,a,y,z⟩ cn s pc 0 g 0 n kc m _ HN.o lF mf.o HO.o dK eR.row).mono ?_;rintro e w2 ⟨e2,bd⟩;replace e2:e=.returned (.int .i64 (-1)):=by rw [e2];rfl
 subst e2;refine Dy ?_;clear dO dK eR jn x1 bd ma mI;intro x2 ki gx eN sk wM jL zF lI lS lG;have dJ:a<m.length:=by have:=HN.o;omega
 have Ir:(a:Int)<n:=by omega
 have pL:y<m.length:=by have:=HN.o;omega
 have LK:(y:Int)<n:=by omega
 have rC:z<m.length:=by have:=HN.o;omega
 have MR:(z:Int)<n:=by omega
 have EO:=eN.cell a dJ;have Jv:=eN.frozen;obtain⟨v,hv⟩:=nm' (m[y]);have uK:aoR (av v):=J uv;obtain⟨u,hu⟩:=nm' (m[z]);have DJ:aoR (av u):=J C4;have HE:aoR (aX ⟨3,a,y,z⟩ pc m=(pc+1,0,m.set a (gI 3 v u))):=J C3;have HV:=J hv;have HU:=J hu;clear hv hu;go_upto_region 9 with(fail);refine X3 ?_
 repeat first|refine cx ?_|refine de fU (by intro w1 hS;have d1:=bC (bX ki hS);have d2:=(eN.ext hS).cell y pL;rw [<-HV.o]at d2;have d3:=(eN.ext hS).cell z rC;rw [<-HU.o]at d3;have d4:=rF _ q 3 (.func (.func 168) #[] #[]) 0 (sk.ext hS) fK;exact fV) ?_|refine dc fU ?_
 refine au (λK hK=>?_);go_simp;go_wp21;refine aoT (anu v u uK.o DJ.o _) ?_;refine hK.out _ _ (λh=>h) ?_;clear hK K;obtain⟨t,ht⟩:=nm' (gI 3 v u);exact C'
theorem ann (w:World) (base s g n kc q:Nat) (A:Option Addr) (b off cn cap:Nat) (c:List Ins) (pc:Int) (m:List Int) (h:dD w base s g n kc q A b off cn c pc m) (a y z:Nat) (ha:a<n) (hy:y<n) (hz:z<n) (eO:cW c pc n=some ⟨4,a,y,z⟩) (bS:aQ ⟨4,a,y,z⟩ cn n=true):
 Calls prog 115 #[.pointer (some ⟨s,0,none⟩),.slice A cn cap,.map (some q)] w λe w'=>e=.returned (.tuple #[])/\Stepped w w' base s g n kc (aX ⟨4,a,y,z⟩ pc m):=by
 refine FC ?_;clear h eO bS;intro tC lF dw da dj jj kY lH nT pV BD BE uG HX HN HO mD HA HR qQ mf;go_wp21;refine zR ?_;intro e w1 e1 aw;replace e1:e=.returned (.tuple #[.agg (Ins.cells ⟨4,a,y,z⟩),.bool true]):=by rw [e1,HX.o];rfl
 subst e1;have dO:=bN w1 71 (Ins.cells ⟨4,a,y,z⟩);have x1:=aw.alloc (.cells (Ins.cells ⟨4,a,y,z⟩) 71);have dK:=bX dw x1;have eR:=da.ext x1;have jn:=dj.ext x1;have l1:=aw.size;clear dw da dj aw;go_upto_region 3 with(fail);generalize (w1.alloc (.cells (Ins.cells ⟨4,a,y,z⟩) 71))=W1 at dO x1 dK eR jn⊢;refine mQ ?_;clear dO l1;intro ic dO l1 ma mI;go_wp21;refine(dX ⟨4,a,y,z⟩ cn s pc 0 g 0 n kc m _ HN.o lF mf.o HO.o dK eR.row).mono ?_;rintro e w2 ⟨e2,bd⟩;replace e2:e=.returned (.int .i64 (-1)):=by rw [e2];rfl
 subst e2;refine Dy ?_;clear dO dK eR jn x1 bd ma mI;intro x2 ki gx eN sk wM jL zF lI lS lG;have dJ:a<m.length:=by have:=HN.o;omega
 have Ir:(a:Int)<n:=by omega
 have pL:y<m.length:=by have:=HN.o;omega
 have LK:(y:Int)<n:=by omega
 have rC:z<m.length:=by have:=HN.o;omega
 have MR:(z:Int)<n:=by omega
 have EO:=eN.cell a dJ;have Jv:=eN.frozen;obtain⟨v,hv⟩:=nm' (m[y]);have uK:aoR (av v):=J uv;obtain⟨u,hu⟩:=nm' (m[z]);have DJ:aoR (av u):=J C4;have HE:aoR (aX ⟨4,a,y,z⟩ pc m=(pc+1,0,m.set a (gI 4 v u))):=J C3;have HV:=J hv;have HU:=J hu;clear hv hu;go_upto_region 9 with(fail);refine X3 ?_
 repeat first|refine cx ?_|refine de fU (by intro w1 hS;have d1:=bC (bX ki hS);have d2:=(eN.ext hS).cell y pL;rw [<-HV.o]at d2;have d3:=(eN.ext hS).cell z rC;rw [<-HU.o]at d3;have d4:=rF _ q 4 (.func (.func 169) #[] #[]) 1 (sk.ext hS) fK;exact fV) ?_|refine dc fU ?_
 refine au (λK hK=>?_);go_simp;go_wp21;refine aoT (anv v u uK.o DJ.o _) ?_;refine hK.out _ _ (λh=>h) ?_;clear hK K;obtain⟨t,ht⟩:=nm' (gI 4 v u);exact C'
theorem ano (w:World) (base s g n kc q:Nat) (A:Option Addr) (b off cn cap:Nat) (c:List Ins) (pc:Int) (m:List Int) (h:dD w base s g n kc q A b off cn c pc m) (a y z:Nat) (ha:a<n) (hy:y<n) (hz:z<n) (eO:cW c pc n=some ⟨5,a,y,z⟩) (bS:aQ ⟨5,a,y,z⟩ cn n=true):
 Calls prog 115 #[.pointer (some ⟨s,0,none⟩),.slice A cn cap,.map (some q)] w λe w'=>e=.returned (.tuple #[])/\Stepped w w' base s g n kc (aX ⟨5,a,y,z⟩ pc m):=by
 refine FC ?_;clear h eO bS;intro tC lF dw da dj jj kY lH nT pV BD BE uG HX HN HO mD HA HR qQ mf;go_wp21;refine zR ?_;intro e w1 e1 aw;replace e1:e=.returned (.tuple #[.agg (Ins.cells ⟨5,a,y,z⟩),.bool true]):=by rw [e1,HX.o];rfl
 subst e1;have dO:=bN w1 71 (Ins.cells ⟨5,a,y,z⟩);have x1:=aw.alloc (.cells (Ins.cells ⟨5,a,y,z⟩) 71);have dK:=bX dw x1;have eR:=da.ext x1;have jn:=dj.ext x1;have l1:=aw.size;clear dw da dj aw;go_upto_region 3 with(fail);generalize (w1.alloc (.cells (Ins.cells ⟨5,a,y,z⟩) 71))=W1 at dO x1 dK eR jn⊢;refine mQ ?_;clear dO l1;intro ic dO l1 ma mI;go_wp21;refine(dX ⟨5,a,y,z⟩ cn s pc 0 g 0 n kc m _ HN.o lF mf.o HO.o dK eR.row).mono ?_;rintro e w2 ⟨e2,bd⟩;replace e2:e=.returned (.int .i64 (-1)):=by rw [e2];rfl
 subst e2;refine Dy ?_;clear dO dK eR jn x1 bd ma mI;intro x2 ki gx eN sk wM jL zF lI lS lG;have dJ:a<m.length:=by have:=HN.o;omega
 have Ir:(a:Int)<n:=by omega
 have pL:y<m.length:=by have:=HN.o;omega
 have LK:(y:Int)<n:=by omega
 have rC:z<m.length:=by have:=HN.o;omega
 have MR:(z:Int)<n:=by omega
 have EO:=eN.cell a dJ;have Jv:=eN.frozen;obtain⟨v,hv⟩:=nm' (m[y]);have uK:aoR (av v):=J uv;obtain⟨u,hu⟩:=nm' (m[z]);have DJ:aoR (av u):=J C4;have HE:aoR (aX ⟨5,a,y,z⟩ pc m=(pc+1,0,m.set a (gI 5 v u))):=J C3;have HV:=J hv;have HU:=J hu;clear hv hu;go_upto_region 9 with(fail);refine X3 ?_
 repeat first|refine cx ?_|refine de fU (by intro w1 hS;have d1:=bC (bX ki hS);have d2:=(eN.ext hS).cell y pL;rw [<-HV.o]at d2;have d3:=(eN.ext hS).cell z rC;rw [<-HU.o]at d3;have d4:=rF _ q 5 (.func (.func 170) #[] #[]) 2 (sk.ext hS) fK;exact fV) ?_|refine dc fU ?_
 refine au (λK hK=>?_);go_simp;go_wp21;refine aoT (anw v u uK.o DJ.o _) ?_;refine hK.out _ _ (λh=>h) ?_;clear hK K;obtain⟨t,ht⟩:=nm' (gI 5 v u);exact C'
theorem anp (w:World) (base s g n kc q:Nat) (A:Option Addr) (b off cn cap:Nat) (c:List Ins) (pc:Int) (m:List Int) (h:dD w base s g n kc q A b off cn c pc m) (a y z:Nat) (ha:a<n) (hy:y<n) (hz:z<n) (eO:cW c pc n=some ⟨6,a,y,z⟩) (bS:aQ ⟨6,a,y,z⟩ cn n=true):
 Calls prog 115 #[.pointer (some ⟨s,0,none⟩),.slice A cn cap,.map (some q)] w λe w'=>e=.returned (.tuple #[])/\Stepped w w' base s g n kc (aX ⟨6,a,y,z⟩ pc m):=by
 refine FC ?_;clear h eO bS;intro tC lF dw da dj jj kY lH nT pV BD BE uG HX HN HO mD HA HR qQ mf;go_wp21;refine zR ?_;intro e w1 e1 aw;replace e1:e=.returned (.tuple #[.agg (Ins.cells ⟨6,a,y,z⟩),.bool true]):=by rw [e1,HX.o];rfl
 subst e1;have dO:=bN w1 71 (Ins.cells ⟨6,a,y,z⟩);have x1:=aw.alloc (.cells (Ins.cells ⟨6,a,y,z⟩) 71);have dK:=bX dw x1;have eR:=da.ext x1;have jn:=dj.ext x1;have l1:=aw.size;clear dw da dj aw;go_upto_region 3 with(fail);generalize (w1.alloc (.cells (Ins.cells ⟨6,a,y,z⟩) 71))=W1 at dO x1 dK eR jn⊢;refine mQ ?_;clear dO l1;intro ic dO l1 ma mI;go_wp21;refine(dX ⟨6,a,y,z⟩ cn s pc 0 g 0 n kc m _ HN.o lF mf.o HO.o dK eR.row).mono ?_;rintro e w2 ⟨e2,bd⟩;replace e2:e=.returned (.int .i64 (-1)):=by rw [e2];rfl
 subst e2;refine Dy ?_;clear dO dK eR jn x1 bd ma mI;intro x2 ki gx eN sk wM jL zF lI lS lG;have dJ:a<m.length:=by have:=HN.o;omega
 have Ir:(a:Int)<n:=by omega
 have pL:y<m.length:=by have:=HN.o;omega
 have LK:(y:Int)<n:=by omega
 have rC:z<m.length:=by have:=HN.o;omega
 have MR:(z:Int)<n:=by omega
 have EO:=eN.cell a dJ;have Jv:=eN.frozen;obtain⟨v,hv⟩:=nm' (m[y]);have uK:aoR (av v):=J uv;obtain⟨u,hu⟩:=nm' (m[z]);have DJ:aoR (av u):=J C4;have HE:aoR (aX ⟨6,a,y,z⟩ pc m=(pc+1,0,m.set a (gI 6 v u))):=J C3;have HV:=J hv;have HU:=J hu;clear hv hu;go_upto_region 9 with(fail);refine X3 ?_
 repeat first|refine cx ?_|refine de fU (by intro w1 hS;have d1:=bC (bX ki hS);have d2:=(eN.ext hS).cell y pL;rw [<-HV.o]at d2;have d3:=(eN.ext hS).cell z rC;rw [<-HU.o]at d3;have d4:=rF _ q 6 (.func (.func 171) #[] #[]) 3 (sk.ext hS) fK;exact fV) ?_|refine dc fU ?_
 refine au (λK hK=>?_);go_simp;go_wp21;refine aoT (anx v u uK.o DJ.o _) ?_;refine hK.out _ _ (λh=>h) ?_;clear hK K;obtain⟨t,ht⟩:=nm' (gI 6 v u);exact C'
theorem anq (w:World) (base s g n kc q:Nat) (A:Option Addr) (b off cn cap:Nat) (c:List Ins) (pc:Int) (m:List Int) (h:dD w base s g n kc q A b off cn c pc m) (a y z:Nat) (ha:a<n) (hy:y<n) (hz:z<n) (eO:cW c pc n=some ⟨7,a,y,z⟩) (bS:aQ ⟨7,a,y,z⟩ cn n=true):
 Calls prog 115 #[.pointer (some ⟨s,0,none⟩),.slice A cn cap,.map (some q)] w λe w'=>e=.returned (.tuple #[])/\Stepped w w' base s g n kc (aX ⟨7,a,y,z⟩ pc m):=by
 refine FC ?_;clear h eO bS;intro tC lF dw da dj jj kY lH nT pV BD BE uG HX HN HO mD HA HR qQ mf;go_wp21;refine zR ?_;intro e w1 e1 aw;replace e1:e=.returned (.tuple #[.agg (Ins.cells ⟨7,a,y,z⟩),.bool true]):=by rw [e1,HX.o];rfl
 subst e1;have dO:=bN w1 71 (Ins.cells ⟨7,a,y,z⟩);have x1:=aw.alloc (.cells (Ins.cells ⟨7,a,y,z⟩) 71);have dK:=bX dw x1;have eR:=da.ext x1;have jn:=dj.ext x1;have l1:=aw.size;clear dw da dj aw;go_upto_region 3 with(fail);generalize (w1.alloc (.cells (Ins.cells ⟨7,a,y,z⟩) 71))=W1 at dO x1 dK eR jn⊢;refine mQ ?_;clear dO l1;intro ic dO l1 ma mI;go_wp21;refine(dX ⟨7,a,y,z⟩ cn s pc 0 g 0 n kc m _ HN.o lF mf.o HO.o dK eR.row).mono ?_;rintro e w2 ⟨e2,bd⟩;replace e2:e=.returned (.int .i64 (-1)):=by rw [e2];rfl
 subst e2;refine Dy ?_;clear dO dK eR jn x1 bd ma mI;intro x2 ki gx eN sk wM jL zF lI lS lG;have dJ:a<m.length:=by have:=HN.o;omega
 have Ir:(a:Int)<n:=by omega
 have pL:y<m.length:=by have:=HN.o;omega
 have LK:(y:Int)<n:=by omega
 have rC:z<m.length:=by have:=HN.o;omega
 have MR:(z:Int)<n:=by omega
 have EO:=eN.cell a dJ;have Jv:=eN.frozen;obtain⟨v,hv⟩:=nm' (m[y]);have uK:aoR (av v):=J uv;obtain⟨u,hu⟩:=nm' (m[z]);have DJ:aoR (av u):=J C4;have HE:aoR (aX ⟨7,a,y,z⟩ pc m=(pc+1,0,m.set a (gI 7 v u))):=J C3;have HV:=J hv;have HU:=J hu;clear hv hu;go_upto_region 9 with(fail);refine X3 ?_
 repeat first|refine cx ?_|refine de fU (by intro w1 hS;have d1:=bC (bX ki hS);have d2:=(eN.ext hS).cell y pL;rw [<-HV.o]at d2;have d3:=(eN.ext hS).cell z rC;rw [<-HU.o]at d3;have d4:=rF _ q 7 (.func (.func 172) #[] #[]) 4 (sk.ext hS) fK;exact fV) ?_|refine dc fU ?_
 refine au (λK hK=>?_);go_simp;go_wp21;refine aoT (anz v u uK.o DJ.o _) ?_;refine hK.out _ _ (λh=>h) ?_;clear hK K;obtain⟨t,ht⟩:=nm' (gI 7 v u);exact C'
theorem anr (w:World) (base s g n kc q:Nat) (A:Option Addr) (b off cn cap:Nat) (c:List Ins) (pc:Int) (m:List Int) (h:dD w base s g n kc q A b off cn c pc m) (a y z:Nat) (ha:a<n) (hy:y<n) (hz:z<n) (eO:cW c pc n=some ⟨8,a,y,z⟩) (bS:aQ ⟨8,a,y,z⟩ cn n=true):
 Calls prog 115 #[.pointer (some ⟨s,0,none⟩),.slice A cn cap,.map (some q)] w λe w'=>e=.returned (.tuple #[])/\Stepped w w' base s g n kc (aX ⟨8,a,y,z⟩ pc m):=by
 refine FC ?_;clear h eO bS;intro tC lF dw da dj jj kY lH nT pV BD BE uG HX HN HO mD HA HR qQ mf;go_wp21;refine zR ?_;intro e w1 e1 aw;replace e1:e=.returned (.tuple #[.agg (Ins.cells ⟨8,a,y,z⟩),.bool true]):=by rw [e1,HX.o];rfl
 subst e1;have dO:=bN w1 71 (Ins.cells ⟨8,a,y,z⟩);have x1:=aw.alloc (.cells (Ins.cells ⟨8,a,y,z⟩) 71);have dK:=bX dw x1;have eR:=da.ext x1;have jn:=dj.ext x1;have l1:=aw.size;clear dw da dj aw;go_upto_region 3 with(fail);generalize (w1.alloc (.cells (Ins.cells ⟨8,a,y,z⟩) 71))=W1 at dO x1 dK eR jn⊢;refine mQ ?_;clear dO l1;intro ic dO l1 ma mI;go_wp21;refine(dX ⟨8,a,y,z⟩ cn s pc 0 g 0 n kc m _ HN.o lF mf.o HO.o dK eR.row).mono ?_;rintro e w2 ⟨e2,bd⟩;replace e2:e=.returned (.int .i64 (-1)):=by rw [e2];rfl
 subst e2;refine Dy ?_;clear dO dK eR jn x1 bd ma mI;intro x2 ki gx eN sk wM jL zF lI lS lG;have dJ:a<m.length:=by have:=HN.o;omega
 have Ir:(a:Int)<n:=by omega
 have pL:y<m.length:=by have:=HN.o;omega
 have LK:(y:Int)<n:=by omega
 have rC:z<m.length:=by have:=HN.o;omega
 have MR:(z:Int)<n:=by omega
 have EO:=eN.cell a dJ;have Jv:=eN.frozen;obtain⟨v,hv⟩:=nm' (m[y]);have uK:aoR (av v):=J uv;obtain⟨u,hu⟩:=nm' (m[z]);have DJ:aoR (av u):=J C4;have HE:aoR (aX ⟨8,a,y,z⟩ pc m=(pc+1,0,m.set a (gI 8 v u))):=J C3;have HV:=J hv;have HU:=J hu;clear hv hu;go_upto_region 9 with(fail);refine X3 ?_
 repeat first|refine cx ?_|refine de fU (by intro w1 hS;have d1:=bC (bX ki hS);have d2:=(eN.ext hS).cell y pL;rw [<-HV.o]at d2;have d3:=(eN.ext hS).cell z rC;rw [<-HU.o]at d3;have d4:=rF _ q 8 (.func (.func 173) #[] #[]) 5 (sk.ext hS) fK;exact fV) ?_|refine dc fU ?_
 refine au (λK hK=>?_);go_simp;go_wp21;refine aoT (anA v u uK.o DJ.o _) ?_;refine hK.out _ _ (λh=>h) ?_;clear hK K;obtain⟨t,ht⟩:=nm' (gI 8 v u);exact C'
theorem ans (w:World) (base s g n kc q:Nat) (A:Option Addr) (b off cn cap:Nat) (c:List Ins) (pc:Int) (m:List Int) (h:dD w base s g n kc q A b off cn c pc m) (a y z:Nat) (ha:a<n) (hy:y<n) (hz:z<n) (eO:cW c pc n=some ⟨9,a,y,z⟩) (bS:aQ ⟨9,a,y,z⟩ cn n=true):
 Calls prog 115 #[.pointer (some ⟨s,0,none⟩),.slice A cn cap,.map (some q)] w λe w'=>e=.returned (.tuple #[])/\Stepped w w' base s g n kc (aX ⟨9,a,y,z⟩ pc m):=by
 refine FC ?_;clear h eO bS;intro tC lF dw da dj jj kY lH nT pV BD BE uG HX HN HO mD HA HR qQ mf;go_wp21;refine zR ?_;intro e w1 e1 aw;replace e1:e=.returned (.tuple #[.agg (Ins.cells ⟨9,a,y,z⟩),.bool true]):=by rw [e1,HX.o];rfl
 subst e1;have dO:=bN w1 71 (Ins.cells ⟨9,a,y,z⟩);have x1:=aw.alloc (.cells (Ins.cells ⟨9,a,y,z⟩) 71);have dK:=bX dw x1;have eR:=da.ext x1;have jn:=dj.ext x1;have l1:=aw.size;clear dw da dj aw;go_upto_region 3 with(fail);generalize (w1.alloc (.cells (Ins.cells ⟨9,a,y,z⟩) 71))=W1 at dO x1 dK eR jn⊢;refine mQ ?_;clear dO l1;intro ic dO l1 ma mI;go_wp21;refine(dX ⟨9,a,y,z⟩ cn s pc 0 g 0 n kc m _ HN.o lF mf.o HO.o dK eR.row).mono ?_;rintro e w2 ⟨e2,bd⟩;replace e2:e=.returned (.int .i64 (-1)):=by rw [e2];rfl
 subst e2;refine Dy ?_;clear dO dK eR jn x1 bd ma mI;intro x2 ki gx eN sk wM jL zF lI lS lG;have dJ:a<m.length:=by have:=HN.o;omega
 have Ir:(a:Int)<n:=by omega
 have pL:y<m.length:=by have:=HN.o;omega
 have LK:(y:Int)<n:=by omega
 have rC:z<m.length:=by have:=HN.o;omega
 have MR:(z:Int)<n:=by omega
 have EO:=eN.cell a dJ;have Jv:=eN.frozen;obtain⟨v,hv⟩:=nm' (m[y]);have uK:aoR (av v):=J uv;obtain⟨u,hu⟩:=nm' (m[z]);have DJ:aoR (av u):=J C4;have HE:aoR (aX ⟨9,a,y,z⟩ pc m=(pc+1,0,m.set a (gI 9 v u))):=J C3;have HV:=J hv;have HU:=J hu;clear hv hu;go_upto_region 9 with(fail);refine X3 ?_
 repeat first|refine cx ?_|refine de fU (by intro w1 hS;have d1:=bC (bX ki hS);have d2:=(eN.ext hS).cell y pL;rw [<-HV.o]at d2;have d3:=(eN.ext hS).cell z rC;rw [<-HU.o]at d3;have d4:=rF _ q 9 (.func (.func 175) #[] #[]) 6 (sk.ext hS) fK;exact fV) ?_|refine dc fU ?_
 refine au (λK hK=>?_);go_simp;go_wp21;refine aoT (anB v u uK.o DJ.o _) ?_;refine hK.out _ _ (λh=>h) ?_;clear hK K;obtain⟨t,ht⟩:=nm' (gI 9 v u);exact C'
theorem aiZ (w:World) (base s g n kc q:Nat) (A:Option Addr) (b off cn cap:Nat) (c:List Ins) (pc:Int) (m:List Int) (h:dD w base s g n kc q A b off cn c pc m) (a y z:Nat) (ha:a<n) (hy:y<n) (hz:z<n) (eO:cW c pc n=some ⟨10,a,y,z⟩) (bS:aQ ⟨10,a,y,z⟩ cn n=true):
 Calls prog 115 #[.pointer (some ⟨s,0,none⟩),.slice A cn cap,.map (some q)] w λe w'=>e=.returned (.tuple #[])/\Stepped w w' base s g n kc (aX ⟨10,a,y,z⟩ pc m):=by
 refine FC ?_;clear h eO bS;intro tC lF dw da dj jj kY lH nT pV BD BE uG HX HN HO mD HA HR qQ mf;go_wp21;refine zR ?_;intro e w1 e1 aw;replace e1:e=.returned (.tuple #[.agg (Ins.cells ⟨10,a,y,z⟩),.bool true]):=by rw [e1,HX.o];rfl
 subst e1;have dO:=bN w1 71 (Ins.cells ⟨10,a,y,z⟩);have x1:=aw.alloc (.cells (Ins.cells ⟨10,a,y,z⟩) 71);have dK:=bX dw x1;have eR:=da.ext x1;have jn:=dj.ext x1;have l1:=aw.size;clear dw da dj aw;go_upto_region 3 with(fail);generalize (w1.alloc (.cells (Ins.cells ⟨10,a,y,z⟩) 71))=W1 at dO x1 dK eR jn⊢;refine mQ ?_;clear dO l1;intro ic dO l1 ma mI;go_wp21;refine(dX ⟨10,a,y,z⟩ cn s pc 0 g 0 n kc m _ HN.o lF mf.o HO.o dK eR.row).mono ?_;rintro e w2 ⟨e2,bd⟩;replace e2:e=.returned (.int .i64 (-1)):=by rw [e2];rfl
 subst e2;refine Dy ?_;clear dO dK eR jn x1 bd ma mI;intro x2 ki gx eN sk wM jL zF lI lS lG;have dJ:a<m.length:=by have:=HN.o;omega
 have Ir:(a:Int)<n:=by omega
 have pL:y<m.length:=by have:=HN.o;omega
 have LK:(y:Int)<n:=by omega
 have rC:z<m.length:=by have:=HN.o;omega
 have MR:(z:Int)<n:=by omega
 have EO:=eN.cell a dJ;have Jv:=eN.frozen;obtain⟨v,hv⟩:=nm' (m[y]);have uK:aoR (av v):=J uv;obtain⟨u,hu⟩:=nm' (m[z]);have DJ:aoR (av u):=J C4;have HE:aoR (aX ⟨10,a,y,z⟩ pc m=(pc+1,0,m.set a (gI 10 v u))):=J C3;have HV:=J hv;have HU:=J hu;clear hv hu;go_upto_region 9 with(fail);refine X3 ?_
 repeat first|refine cx ?_|refine de fU (by intro w1 hS;have d1:=bC (bX ki hS);have d2:=(eN.ext hS).cell y pL;rw [<-HV.o]at d2;have d3:=(eN.ext hS).cell z rC;rw [<-HU.o]at d3;have d4:=rF _ q 10 (.func (.func 176) #[] #[]) 7 (sk.ext hS) fK;exact fV) ?_|refine dc fU ?_
 refine au (λK hK=>?_);go_simp;go_wp21;refine aoT (ajm v u uK.o DJ.o _) ?_;refine hK.out _ _ (λh=>h) ?_;clear hK K;obtain⟨t,ht⟩:=nm' (gI 10 v u);exact C'
