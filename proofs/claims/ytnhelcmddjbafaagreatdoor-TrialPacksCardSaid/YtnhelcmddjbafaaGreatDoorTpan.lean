import Derived.Test.YtnhelcmddjbafaaGreatDoorTpam
set_option maxHeartbeats 4000000
set_option maxRecDepth 100000
open Go.Proofs.Tryz
namespace Go.Proofs.YtnhelcmddjbafaaGreatDoor
open Go.RowKit
namespace Mc
variable{b' bL:Nat}{w0:World}{v':Value}
structure Sl where (pc halt words:Int) (mem:Dg) (ins:Ins) (path:List Dg) (reads writes:List Wl)
structure nl (w:World) (s:Ws) (L:Sl):Prop where
 pc:s.pc=L.pc
 halt:s.halt=L.halt
 words:s.words=L.words
 mem:s.mem=L.mem
 ins:s.ins=L.ins
 path:kJ w s.pa s.pn L.path
 reads:gi w s.ra s.rn L.reads
 writes:gi w s.wa s.wn L.writes
theorem nl.ext {w w':World} {s:Ws} {L:Sl} (h:nl w s L) (hx:al w w'):nl w' s L:=
 ⟨h.pc,h.halt,h.words,h.mem,h.ins,h.path.ext hx,h.reads.ext hx,h.writes.ext hx⟩
theorem kJ.none (w:World):kJ w none 0 []:=⟨0,0,rfl,by simp,λh=>by omega,λh=>by omega,λh=>by omega⟩
def jy (l:List Ins) (pc halt:Int) (m:List Int):Sl:=
 if¬halt=0∨(l.length:Int)<=pc then⟨pc,halt,m.length,kC m,⟨0,0,0,0⟩,[],[],[]⟩
 else⟨pc,halt,m.length,kC m,l.getD pc.toNat ⟨0,0,0,0⟩,h_ (l.map iq) (iM l.length) pc.toNat,(dm l pc halt m).1.map (f_ m),if 0<=(dm l pc halt m).2 then [f_ m (dm l pc halt m).2]else []⟩
theorem Sk {i:Ins} {size words:Int} (h:aQ i size words=true) (j:Nat) (hj:j<3):nP (ft i.op.toNat) j (fZ i j) size words=true:=by
 obtain⟨_,_,h0,h1,h2,_⟩:=gy h
 rcases(by omega:j=0∨j=1∨j=2)with rfl|rfl|rfl
 .exact h0
 .exact h1
 .exact h2
theorem xD {i:Ins} {size:Int} {n:Nat} (h:aQ i size n=true):∀k,k<=(ft i.op.toNat).length->∀x∈cf i (ft i.op.toNat) k,0<=x/\x<n
 |0,_,x,hx=>by simp [cf]at hx
 |k+1,hk,x,hx=>by
  unfold cf at hx
  split at hx
  .exact xD h k ad x hx
  .rename_i hns
   rcases lr.1 hx with hx|hx
   .exact xD h k ad x hx
   .simp at hx
    subst hx;have hl:=vq i.op.toNat;have hok:=Sk h k ad
    have hg:(ft i.op.toNat)[k]?=some 119:=by
     have aP:k<(ft i.op.toNat).length:=by omega
     rw [List.getElem?_eq_getElem aP]
     have:gN i ((ft i.op.toNat).getD k 0) k=false:=by
      cases hs:gN i ((ft i.op.toNat).getD k 0) k
      .rfl
      .exact absurd (.inl hs) hns
     simp [gN,aP]at this;rw [this.1.1]
    exact cP hg hok
theorem Fg {i:Ins} {size:Int} {n:Nat} (h:aQ i size n=true):∀x∈dP i,0<=x/\x<n:=by
 intro x hx;unfold dP at hx
 split at hx
 .exact xD h _ (cr _) x hx
 .simp at hx
theorem RQ {i:Ins} {size:Int} {m:List Int} (h:aQ i size m.length=true):∀x∈fw i m,0<=x/\x<m.length:=by
 intro x hx;unfold fw at hx
 split at hx
 .rename_i hc
  rcases lr.1 hx with hx|hx
  .exact Fg h x hx
  .simp at hx
   subst hx;exact⟨hc.2.1,F4 i m⟩
 .exact Fg h x hx
theorem Oo {i:Ins} {size:Int} {n:Nat} (h:aQ i size n=true):jI i<n:=by
 unfold jI
 split
 .rename_i hc
  have hr:=gy h;have oM:iu i.op=true:=by simp [iu];omega
  have h0:(ft i.op.toNat)[0]?=some 119:=by
   have hp:=hc.1;rw [zD,ak oM]at hp;show(ft i.op.toNat)[0]?=some 119;have e:(Gf i.op.toNat).data.toList=ft i.op.toNat:=by simp [Gf]
   rw [e]at hp
   cases hq:ft i.op.toNat with
   |nil=>rw [hq]at hp;simp [Lib.hasPrefix]at hp
   |cons x r=>rw [hq]at hp;simp [Lib.hasPrefix]at hp;simp [hp]
  exact(cP h0 hr.2.2.1).2
 .omega
theorem Nq {i:Ins} {size:Int} {m:List Int} (h:aQ i size m.length=true):dF i m<m.length:=by
 unfold dF
 split
 .exact F4 i m
 .split
  .omega
  .exact Oo h
theorem SO {l:List Int} {x:Int} (h:x∈nH l):x∈l:=by
 unfold nH at h;exact(List.mergeSort_perm l _).mem_iff.1 h
theorem xx (c:List Ins) (pc halt:Int) (m:List Int):(∀x∈(dm c pc halt m).1,0<=x/\x<m.length)/\(dm c pc halt m).2<m.length/\(dm c pc halt m).1.length<=4:=by
 unfold dm
 split
 .cases eO:cW c pc m.length with
  |none=>simp;omega
  |some i=>
   have hr:=ou eO;refine⟨λx hx=>RQ hr x (SO hx),Nq hr,?_⟩;show(nH (fw i m)).length<=4;have h3:=Cr i;unfold nH fw;rw [List.length_mergeSort]
   split
   .simp;omega
   .omega
 .simp;omega
theorem jJ.UA {w w':World} {base p:Nat} {l:List Dg} (h:jJ w base p l) (hk:Kept (λi=>w.heap.size<=i) w w'):jJ w' base p l:=by
 obtain⟨cg,cc,f,G,h⟩:=h;have h1:=h.blk.lt;have h2:=h.cgl;exact⟨cg,cc,f,G,bK h.blk hk ad,h.f0,cU h.own hk (λg hg=>by simp [Value.ownBlock]at hg;omega),h.fl,λu hu=>bK (h.lv u hu) hk (by have:=(h.lv u hu).lt;omega),h.inj,h.kV,h.bp,h.pc⟩
theorem dV {w:World} {g:Nat} {cs:Array Value} {E E':TypeId} (h:ai w g E cs) (hE:¬E=E'):∀cV fr,¬w.heap[g]?=some (.cells cV E' fr):=λcV fr e=>by
 rw [h]at e;injection e with e;injection e with _ e _;exact hE e
theorem JW {l:List Ins} {x n:Nat} {m:List Int} (hl:(l.length:Int)=n) (h:(x:Int)<n):jy l x 0 m=⟨x,0,m.length,kC m,l.getD x ⟨0,0,0,0⟩,h_ (l.map iq) (iM l.length) x,(dm l x 0 m).1.map (f_ m),if 0<=(dm l x 0 m).2 then [f_ m (dm l x 0 m).2]else []⟩:=by
 unfold jy;rw [af ad]
 rfl
def Uu (w w':World) (e:Ending) (L:Sl):Prop:=∃s:Ws,e=.returned (.tuple #[.agg s.cells,.int .i64 0])/\nl w' s L/\al w w'
theorem aar (A:Option Addr) (b off cap:Nat) (l:List Ins) (n:Nat) (hn:n=l.length) (h2:n<=2048) (hok:∀i∈l,i.ok) (hA:0<n->A=some ⟨b,off,none⟩)
 (x:Nat) (b' bL eF:Nat) (m:List Int) (k:Nat) (hk:k=m.length) (hg:cQ x 0 k=true) (hxn:x<n) (ie:∀z∈m,av z) (w:World) (eH:OpsAt w) (hr:0<n->Row w b off (db l)) (Gk:Row w b' bL (bj m)):
 Calls prog 118 #[.slice A n cap,.agg (ae x (some ⟨b',bL,none⟩) k eF 0)] w λe w'=>Uu w w' e (jy l x 0 m):=by
 have h1:1<=n:=by omega
 have qK:0<k->some (⟨b',bL,none⟩:Addr)=some ⟨b',bL,none⟩:=λ_=>rfl;have Uj:=J eH;have Zq:=J ie;have YR:kO w A b off n l b' bL k x 0 m:=⟨eH,hA,hr,hn,h2,hk,hg,ie,Gk⟩;have mv:=J YR;have aib:0<k->Row w b' bL (bj m):=λ_=>Gk;clear eH ie YR Gk;obtain⟨k1,k2,h3,h4,h5,h6⟩:=cG hg;have⟨HG,HN,HO,HA,HR,Uc,HA',HR'⟩:=J8' hg hn hok hA hr hk qK aib;clear hn hA hr hg hok hk qK aib;obtain⟨M,hM⟩:=nm' (kC m);have HM:=J hM;clear hM;have aF:al w _:=(dM w (.cells (ae x (some ⟨b',bL,none⟩) k eF 0) 47)).alloc (.cells nN 74);have hA0:ai _ w.heap.size 47 (ae x (some ⟨b',bL,none⟩) k eF 0):=ai.alloc (bN w _ _) (.cells nN 74);have fz:ai _ (w.heap.size+1) 74 nN:=ai.ea (w.alloc (.cells (ae x (some ⟨b',bL,none⟩) k eF 0) 47)) _ _ _ aB;go_enter func118,ntmps118;go_wp21;refine(ru A b off cap l n HN.o h1 h2 HO.o HA.o _ (λh=>(HR.o h).ext aF)).mono ?_;rintro e w1 ⟨p,rfl,ht,aw⟩;have oS:=bX hA0 aw;have g_:=bX fz aw;have hc1:=bC oS;have y1:=aF.trans aw;clear aF aw hA0 fz;go_wp21;refine(p7 x 0 (some ⟨b',bL,none⟩) b' bL eF m k Uc.o HG.o (λ_=>rfl) _ (λh=>(HR'.o h).ext y1)).mono ?_;rintro e w2 ⟨q,rfl,hq,bd⟩;have uC:=bX oS bd;have oK:=bX g_ bd;have y2:=y1.trans bd;have Io:=bN w2 178 #[.pointer (some ⟨q,0,none⟩)];have dv:=dY w2 (.cells #[.pointer (some ⟨q,0,none⟩)] 178);have LA:=bX uC dv;have o4:=bX oK dv;have VW:=hq.ext dv;have y3:=y2.trans dv;clear hc1;go_wp21;generalize (w2.alloc (.cells #[.pointer (some ⟨q,0,none⟩)] 178))=W at Io LA o4 VW y3 dv⊢;have hlA:=ai.lt LA;have hlR:=ai.lt o4;have gU:=ai.lt Io;generalize w2.heap.size=h2s at Io gU⊢;have ht3:=ht.ext (bd.trans dv);clear uC oK oS g_ dv hq ht y1 y2 bd;refine ajK ?_;intro y;refine gQ ?_ ?_
 .refine ci (λK hK=>?_);go_simp
  go_wp21;refine(iY _ q (m.map dx) _ abn abp (VW.ext y)).mono ?_;rintro e w4 ⟨e4,eS⟩;replace e4:e=.returned (.agg M.cells):=by rw [e4,HM.o];rfl
  subst e4;have y4:al W w4:=y.trans eS;refine hK.out _ _ (λ_=>y4) ?_;clear hK K;refine ww ?_;intro K hK;refine hK.out _ _ (λ_=>y4.alloc _) ?_;clear hK K;refine LL ?_;have Q8:=bX LA (y4.alloc (.cells (ju x 0 k M) 74));have tV:=bX o4 (y4.alloc (.cells (ju x 0 k M) 74));have y5:=y3.trans (y4.alloc (.cells (ju x 0 k M) 74));have xW:=y4.alloc (.cells (ju x 0 k M) 74);have hP5:=bX Io (y4.alloc (.cells (ju x 0 k M) 74));have hlW:=y4.size;have zC:=bN w4 74 (ju x 0 k M);have T_:=ai.lt zC;generalize (w4.alloc (.cells (ju x 0 k M) 74))=W5 at Q8 tV y5 zC T_ xW hP5⊢;generalize w4.heap.size=c9 at zC T_ hlW⊢;exact zz4
 .refine ci (λK hK=>?_);go_simp
  refine hK.out _ _ (λ_=>y.alloc _) ?_;clear hK K;refine ww ?_;intro K hK;go_wp21;refine(iY _ q (m.map dx) _ abn abp (VW.ext (y.alloc _))).mono ?_;rintro e w4 ⟨e4,eS⟩;replace e4:e=.returned (.agg M.cells):=by rw [e4,HM.o];rfl
  subst e4;have y4:al W w4:=(y.alloc _).trans eS;refine hK.out _ _ (λ_=>y4) ?_;clear hK K;have rA:ai w4 W.heap.size 74 nN:=bX (bN W.drew 74 nN) eS;have hh4:=bH rA;have D1:=ai.aC rA;have hl4:=ai.lt rA;refine LL ?_;have yp:al W (putAt w4 W.heap.size 0 (ju x 0 k M)):=Kept.putAt y4 _ _ _ (λh=>by omega);have Q8:=bX LA yp;have tV:=bX o4 yp;have y5:=y3.trans yp;have xW:=yp;have hP5:=bX Io yp;have zC:ai (putAt w4 W.heap.size 0 (ju x 0 k M)) W.heap.size 74 (ju x 0 k M):=ai.cw rA _ _;have T_:=ai.lt zC;generalize (putAt w4 W.heap.size 0 (ju x 0 k M))=W5 at Q8 tV y5 zC T_ xW hP5⊢;generalize amx:W.heap.size=c9 at zC T_⊢;have hlW:W.heap.size<=c9:=by omega
  clear amx;exact zz4
theorem aas (A:Option Addr) (b off cap:Nat) (l:List Ins) (n:Nat) (hn:n=l.length) (h1:1<=n) (h2:n<=2048) (hok:∀i∈l,i.ok) (hA:0<n->A=some ⟨b,off,none⟩)
 (pc halt:Int) (A':Option Addr) (b' bL eF:Nat) (m:List Int) (k:Nat) (hk:k=m.length) (hg:cQ pc halt k=true) (qK:0<k->A'=some ⟨b',bL,none⟩) (ie:∀z∈m,av z) (w:World) (eH:OpsAt w) (hr:0<n->Row w b off (db l)) (Gk:0<k->Row w b' bL (bj m)):
 Calls prog 118 #[.slice A n cap,.agg (ae pc A' k eF halt)] w λe w'=>Uu w w' e (jy l pc halt m):=by
 by_cases dw:¬halt=0∨(n:Int)<=pc
 .refine aoS (Nf A b off cap l n hn h1 h2 hok hA pc halt A' b' bL eF m k hk hg qK dw w hr Gk) λw' hx=>?_;refine⟨I2 pc halt m,rfl,?_,hx⟩;unfold jy;rw [ak (by rw [<-hn];exact dw)];exact⟨rfl,rfl,rfl,rfl,rfl,kJ.none _,gi.none _,gi.none _⟩
 .obtain⟨k1,k2,h3,h4,h5,h6⟩:=cG hg
  obtain⟨x,rfl⟩:∃x:Nat,pc=x:=⟨pc.toNat,by omega⟩;obtain rfl:halt=0:=by omega
  obtain rfl:=qK k1;exact aar A b off cap l n hn h2 hok hA x b' bL eF m k hk hg ad ie w eH hr (Gk k1)
theorem NI {i:Ins} {h:List UInt8} {x:Int} {k:Nat} (hx:x∈cf i h k):x∈cf i h (k+1):=by
 unfold cf
 split
 .exact hx
 .exact List.mem_append_left _ hx
theorem qd {i:Ins} {h:List UInt8} {k:Nat} (hs:gN i (h.getD k 0) k=false):∀n,k<n->fZ i k∈cf i h n
 |0,hn=>by omega
 |n+1,hn=>by
  by_cases hk:k<n
  .exact NI (qd hs n hk)
  .obtain rfl:k=n:=by omega
   unfold cf
   by_cases hc:(cf i h k).contains (fZ i k)=true
   .rw [ak (.inr hc)];simpa using hc
   .rw [af (λf=>f.elim (λf=>by rw [hs]at f;cases f) hc)]
    simp
theorem qe {i:Ins} {k:Nat} (hk:i.op=k) (h:k=2∨k=14∨k=16∨k=18∨k=20∨k=21∨(3<=k/\k<=13)):i.b∈dP i:=by
 have ho:iu i.op=true:=by simp [iu];omega
 unfold dP;rw [ak ho,hk];have:=λh' hs hl=>qd (i:=i) (h:=h') (k:=1) hs h'.length hl
 rcases h with rfl|rfl|rfl|rfl|rfl|rfl|⟨h1,h2⟩
 iterate 6 exact this _ (by simp [gN,hk,ft]) (by simp [ft])
 rcases(by omega:k=3∨k=4∨k=5∨k=6∨k=7∨k=8∨k=9∨k=10∨k=11∨k=12∨k=13)with rfl|rfl|rfl|rfl|rfl|rfl|rfl|rfl|rfl|rfl|rfl<;>exact this _ (by simp [gN,hk,ft]) (by simp [ft])
theorem G5 {i:Ins} {k:Nat} (hk:i.op=k) (h:k=15∨k=16∨(3<=k/\k<=13)):i.c∈dP i:=by
 have ho:iu i.op=true:=by simp [iu];omega
 unfold dP;rw [ak ho,hk];have:=λh' hs hl=>qd (i:=i) (h:=h') (k:=2) hs h'.length hl
 rcases h with rfl|rfl|⟨h1,h2⟩
 iterate 2 exact this _ (by simp [gN,ft]) (by simp [ft])
 rcases(by omega:k=3∨k=4∨k=5∨k=6∨k=7∨k=8∨k=9∨k=10∨k=11∨k=12∨k=13)with rfl|rfl|rfl|rfl|rfl|rfl|rfl|rfl|rfl|rfl|rfl<;>exact this _ (by simp [gN,ft]) (by simp [ft])
theorem aaK {i:Ins} (hk:i.op=17):i.a∈dP i:=by
 have ho:iu i.op=true:=by simp [iu];omega
 unfold dP;rw [ak ho,hk];exact qd (i:=i) (h:=ft 17) (k:=0) (by simp [gN,hk,ft]) _ (by simp [ft])
structure qt (i:Ins) (m m':List Int):Prop where
 len:m'.length=m.length
 at_:∀x∈fw i m,eP m' x=eP m x
theorem Nl {i:Ins} {m:List Int} {x:Int} (h:x∈dP i):x∈fw i m:=by
 unfold fw
 split
 .exact List.mem_append_left _ h
 .exact h
theorem qt.reads {i:Ins} {m m':List Int} (h:qt i m m') {x:Int} (hx:x∈dP i):eP m' x=eP m x:=h.at_ x (Nl hx)
theorem qt.kV {i:Ins} {m m':List Int} (h:qt i m m'):gj i m'=gj i m:=by
 unfold gj
 by_cases EL:i.op=15
 .have:=h.reads (G5 (k:=15) EL aB)
  unfold eP at this;rw [ak EL,ak EL,this,h.len]
 .rw [af EL,af EL]
  by_cases Bs:i.op=16
  .have:=h.reads (qe (k:=16) Bs aB)
   unfold eP at this;rw [ak Bs,ak Bs,this,h.len]
  .rw [af Bs,af Bs]
theorem qt.place {i:Ins} {m m':List Int} (h:qt i m m'):fw i m'=fw i m:=by unfold fw;rw [h.kV]
theorem qt.writes {i:Ins} {m m':List Int} (h:qt i m m'):dF i m'=dF i m:=by unfold dF;rw [h.kV]
theorem qt.lost {i:Ins} {m m':List Int} (h:qt i m m'):lost i m'=lost i m:=by unfold Proofs.YtnhelcmddjbafaaGreatDoor.Mc.lost;rw [h.kV]
theorem Oq {i:Ins} {k:Nat} (hk:i.op=k) (aP:k<22):jI i=if k=0∨k=16∨k=19∨k=20∨k=21 then -1 else i.a:=by
 have ho:iu i.op=true:=by simp [iu];omega
 have hn:i.op.toNat=k:=by omega
 unfold jI zD;rw [ak ho,hn]
 rcases(by omega:k=0∨k=1∨k=2∨k=3∨k=4∨k=5∨k=6∨k=7∨k=8∨k=9∨k=10∨k=11∨k=12∨k=13∨k=14∨k=15∨k=16∨k=17∨k=18∨k=19∨k=20∨k=21)with rfl|rfl|rfl|rfl|rfl|rfl|rfl|rfl|rfl|rfl|rfl|rfl|rfl|rfl|rfl|rfl|rfl|rfl|rfl|rfl|rfl|rfl<;>simp [hk,Gf,ft,Lib.hasPrefix]
def pM (x v:Int) (m:List Int):List Int:=if 0<=x then gV m x v else m
theorem Mu {i:Ins} {m m':List Int} (pc size:Int) (hr:aQ i size m.length=true) (h:qt i m m') (hl:lost i m=false):
 ∃p hh v,aX i pc m=(p,hh,pM (dF i m) v m)/\aX i pc m'=(p,hh,pM (dF i m) v m'):=by
 obtain⟨h0,h22,ha,hb,hc,_⟩:=gy hr;obtain⟨k,hk,oM⟩:=WK (i:=i) (by simp [iu];omega);have hn:i.op.toNat=k:=by omega
 have hw:=Oq oM hk;have ef:=h.kV;rw [hn]at ha;have uc:pM (-1)=λ_ m=>m:=by funext v m;simp [pM]
 have nx:∀{x:Int},0<=x->∀v m,pM x v m=gV m x v:=λhx v m=>ak hx
 have Pz:(k=1∨k=2∨k=14∨k=15∨k=17∨k=18∨(3<=k/\k<=13))->0<=i.a:=λhh=>by
  have h1:(ft k)[0]?=some 119:=by
   rcases hh with rfl|rfl|rfl|rfl|rfl|rfl|⟨h1,h2⟩
   iterate 6 rfl
   rcases(by omega:k=3∨k=4∨k=5∨k=6∨k=7∨k=8∨k=9∨k=10∨k=11∨k=12∨k=13)with rfl|rfl|rfl|rfl|rfl|rfl|rfl|rfl|rfl|rfl|rfl<;>rfl
  exact(cP h1 ha).1
 have yo:¬k=15->¬k=16->dF i m=jI i:=λe1 e2=>by
  unfold dF;rw [af ad,af ad]
 by_cases e0:k=0
 .subst e0;exact⟨pc,1+i.a,0,by simp [aX,oM,yo,hw,uc],by simp [aX,oM,yo,hw,uc]⟩
 by_cases e1:k=1
 .subst e1;exact⟨pc+1,0,i.b,by simp [aX,oM,yo,hw,nx (Pz aB)],by simp [aX,oM,yo,hw,nx (Pz aB)]⟩
 by_cases e2:k=2
 .subst e2
  have q:=h.reads (qe oM aB);exact⟨pc+1,0,eP m i.b,by simp [aX,oM,yo,hw,nx (Pz aB)],by simp [aX,oM,yo,hw,nx (Pz aB),q]⟩
 by_cases e14:k=14
 .subst e14
  have q:=h.reads (qe oM aB);exact⟨pc+1,0,cN (eP m i.b==0),by simp [aX,oM,yo,hw,nx (Pz aB)],by simp [aX,oM,yo,hw,nx (Pz aB),q]⟩
 by_cases e15:k=15
 .subst e15
  have hf:0<=gj i m:=by simp [lost,oM]at hl;exact hl
  have VL:dF i m=i.a:=by unfold dF;rw [af ad,af ad,hw];simp
  have q:eP m' (gj i m)=eP m (gj i m):=h.at_ _ (by
   unfold fw
   split
   .simp
   .rename_i hc
    by_cases xi:(dP i).contains (gj i m)=true
    .simpa using xi
    .exact absurd ⟨oM,hf,by simpa using xi⟩ hc)
  exact⟨pc+1,0,eP m (gj i m),by simp [aX,oM,VL,nx (Pz aB)],by simp [aX,oM,VL,nx (Pz aB),ef,q]⟩
 by_cases e16:k=16
 .subst e16
  have hf:0<=gj i m:=by simp [lost,oM]at hl;exact hl
  have VL:dF i m=gj i m:=by unfold dF;rw [ak ad]
  have q:=h.reads (G5 oM aB);exact⟨pc+1,0,eP m i.c,by simp [aX,oM,VL,nx hf],by simp [aX,oM,VL,nx hf,ef,q]⟩
 by_cases TJ:k=17
 .subst TJ
  have q:=h.reads (aaK oM);exact⟨pc+1,0,min (max (eP m i.a) i.b) i.c,by simp [aX,oM,yo,hw,nx (Pz aB)],by simp [aX,oM,yo,hw,nx (Pz aB),q]⟩
 by_cases UW:k=18
 .subst UW
  have q:=h.reads (qe oM aB);exact⟨pc+1,0,cN (decide (0<=eP m i.b)&&decide (eP m i.b<i.c)),by simp [aX,oM,yo,hw,nx (Pz aB)],by simp [aX,oM,yo,hw,nx (Pz aB),q]⟩
 by_cases e19:k=19
 .subst e19;exact⟨i.a,0,0,by simp [aX,oM,yo,hw,uc],by simp [aX,oM,yo,hw,uc]⟩
 by_cases e20:k=20
 .subst e20
  have q:=h.reads (qe oM aB);exact⟨if eP m i.b=0 then i.a else pc+1,0,0,by simp [aX,oM,yo,hw,uc],by simp [aX,oM,yo,hw,uc,q]⟩
 by_cases e21:k=21
 .subst e21
  have q:=h.reads (qe oM aB);exact⟨if eP m i.b=0 then pc+1 else i.a,0,0,by simp [aX,oM,yo,hw,uc],by simp [aX,oM,yo,hw,uc,q]⟩
 have h3:3<=k/\k<=13:=by omega
 have q1:=h.reads (qe oM ad);have q2:=h.reads (G5 oM ad);have ud:jI i=i.a:=by rw [hw,af ad]
 have hex:∀m,aX i pc m=(pc+1,0,gV m i.a (gI i.op.toNat (eP m i.b) (eP m i.c))):=λm=>by
  unfold aX
  iterate 11 rw [af ad]
 exact⟨pc+1,0,gI i.op.toNat (eP m i.b) (eP m i.c),by rw [hex,yo e15 e16,ud,nx (Pz ad)],by rw [hex,yo e15 e16,ud,nx (Pz ad),q1,q2]⟩
theorem yN {l c':List Ins} {pc:Int} {m m':List Int} {i:Ins} (hn:cW l pc m.length=some i) (hc:c'.length=l.length) (hci:c'[pc.toNat]?=l[pc.toNat]?) (hlen:m'.length=m.length) (hag:∀x∈(dm l pc 0 m).1,eP m' x=eP m x):
 dm c' pc 0 m'=dm l pc 0 m/\∃p hh v,gO l pc m=(p,hh,pM (dm l pc 0 m).2 v m)/\gO c' pc m'=(p,hh,pM (dm l pc 0 m).2 v m'):=by
 have hn':cW c' pc m'.length=some i:=by
  unfold cW at hn⊢;rw [hci,hlen,hc];exact hn
 have hr:aQ i l.length m.length=true:=by
  unfold cW at hn
  split at hn
  .split at hn
   .injection hn with hn;subst hn;assumption
   .cases hn
  .cases hn
 have hm:dm l pc 0 m=(nH (fw i m),dF i m):=by simp only [dm,hn];rfl
 have hA:qt i m m':=⟨hlen,λx hx=>hag x (by rw [hm];show x∈nH _;unfold nH;exact List.mem_mergeSort.2 hx)⟩;have qO:dm c' pc 0 m'=(nH (fw i m'),dF i m'):=by simp only [dm,hn'];rfl
 refine⟨by rw [qO,hm,hA.place,hA.writes],?_⟩;rw [hm];unfold gO;rw [hn,hn'];simp only [hA.lost]
 by_cases hl:lost i m=true
 .rw [ak hl,ak hl]
  have hw:dF i m<0:=by
   simp [lost]at hl;unfold dF
   rcases hl.2 with EL|Bs
   .rw [af ad,ak ⟨EL,hl.1⟩];omega
   .rw [ak Bs];exact hl.1
  exact⟨pc,2,0,by simp only [pM];rw [af ad],by simp only [pM];rw [af ad]⟩
 .rw [af hl,af hl]
  exact Mu pc _ hr hA (by simpa using hl)
def nI (m:List Int) (rs:List Int) (a:List Int):List Int:=rs.foldl (λa x=>gV a x (eP m x)) a
theorem xL (m:List Int):∀(rs a:List Int),(nI m rs a).length=a.length
 |[],a=>rfl
 |x::rs,a=>by show(nI m rs _).length=_;rw [xL m rs];simp [gV]
theorem RN {m:List Int} {x y v:Int} (hx:0<=x) (hy:0<=y) (hl:x<m.length):eP (gV m x v) y=if y=x then v else eP m y:=by
 unfold eP gV
 by_cases h:y=x
 .subst h
  rw [ak rfl];simp [show y.toNat<m.length by omega]
 .rw [af h]
  simp only [List.getD_eq_getElem?_getD];rw [List.getElem?_set_ne ad]
theorem Fo (m:List Int):∀(rs a:List Int) (_:∀x∈rs,0<=x/\x<a.length) (y:Int) (_:0<=y),eP (nI m rs a) y=if y∈rs then eP m y else eP a y
 |[],a,_,y,_=>by simp [nI]
 |x::rs,a,h,y,hy=>by
  have hx:=h x aB;show eP (nI m rs (gV a x (eP m x))) y=_;rw [Fo m rs _ (λz hz=>by have:=h z (by simp [hz]);simpa [gV]using this) y hy,RN hx.1 hy hx.2]
  by_cases e:y=x
  .subst e;simp
  .simp [e]
theorem N7 (m:List Int) (rs:List Int) (x:Int) (a:List Int):nI m (rs++[x]) a=gV (nI m rs a) x (eP m x):=by simp [nI]
theorem sE (l:List Dg) (i:Nat) (d:Dg):∀v k,¬k=i / 2^v->fc (l.set i d) v k=fc l v k
 |0,k,h=>by
  unfold fc;rw [List.getElem?_set_ne (λe=>h (by simp [e]))]
 |v+1,k,h=>by
  have e:i / 2^(v+1)=i / 2^v / 2:=by rw [Nat.pow_succ,Nat.div_div_eq_div_mul]
  rw [e]at h;unfold fc;rw [sE l i d v _ ad,sE l i d v _ ad]
theorem afc (x:Nat):¬Ku x=x:=by unfold Ku;split<;>omega
theorem R9 (l:List Dg) (H i:Nat) (d:Dg):h_ (l.set i d) H i=h_ l H i:=by
 unfold h_;apply List.map_congr_left;intro v _;exact sE l i d v _ (afc _)
theorem S4 (l:List Dg) (i:Nat) (d:Dg) (hi:i<l.length) (h2:l.length<=4096):vY i d (h_ l (iM l.length) i)=vI (l.set i d):=by
 have:=CQ (l.set i d) i (by simpa using hi) (by simpa using h2)
 simpa [R9]using this
theorem Wz (m:List Int) (x v:Int) (h0:0<=x) (hl:x<m.length) (h2:m.length<=256):vY x.toNat (dx v) (h_ (m.map dx) (iM m.length) x.toNat)=kC (gV m x v):=by
 have:=S4 (m.map dx) x.toNat (dx v) kr kr
 simpa [kC,gV,List.map_set]using this
theorem KQ (c vs:List Value) (o N:Nat) (h:o+vs.length<=N) (hN:N<=c.length):(c.take o++vs++c.drop (o+vs.length)).take N=(c.take N).take o++vs++(c.take N).drop (o+vs.length):=by
 rw [List.take_append,kI kr];rw [List.take_take,Nat.min_eq_left ad,List.drop_take]
 congr 2
 simp
 omega
theorem WO {w:World} {base n cg cc:Nat} {l:List Dg} (h:w.ownsRow base 25 8 (.slice (some ⟨cg,0,none⟩) n cc) n (cY l)) (i:Nat) (hi:i<l.length) (d:Dg):
 (putAt w cg (i*8) d.cells).ownsRow base 25 8 (.slice (some ⟨cg,0,none⟩) n cc) n (cY (l.set i d)):=by
 have hl:=h.1;rw [eh]at hl;refine⟨by rw [eh,List.length_set];exact hl,?_⟩
 rcases h.2 with⟨hv,_⟩|⟨g',c',cV,hv,hb,hc,rB,vu,kL,mX⟩
 .simp at hv
 .simp at hv
  obtain⟨rfl,rfl⟩:=hv;have hsz:(d.cells:Array Value).size=8:=rfl;have Bx:i*8+8<=n*8:=by omega
  have ahB:n*8<=cV.size:=by omega
  refine .inr ⟨cg,cc,splice cV (i*8) d.cells,rfl,hb,qE hc,rB,vu,?_,?_⟩
  .rw [rR (by rw [hsz];omega)];exact kL
  .show(cV.toList.take (i*8)++d.cells.toList++cV.toList.drop (i*8+d.cells.toList.length)).take (n*8)=_
   rw [KQ cV.toList d.cells.toList (i*8) (n*8) kr (by simpa using ahB),mX];exact oJ l i hi d
theorem WN {w:World} {base n cg cc:Nat} {l:List Dg} (h:w.ownsRow base 25 8 (.slice (some ⟨cg,0,none⟩) n cc) n (cY l)) (i:Nat) (hi:i<n):Proofs.YtnhelcmddjbafaaGreatDoor.has w cg (i*8) 8=true/\aC w cg=true/\cg<w.heap.size:=by
 rcases h.2 with⟨hv,_⟩|⟨g',c',cV,hv,hb,hc,rB,vu,kL,mX⟩
 .simp at hv
 .simp at hv
  obtain⟨rfl,rfl⟩:=hv;refine⟨?_,?_,(Array.getElem?_eq_some_iff.1 hc).1⟩
  .unfold Proofs.YtnhelcmddjbafaaGreatDoor.has;rw [hc];simp;omega
  .unfold aC;rw [hc];rfl
def GD (l l':List Dg) (H:Nat) (v:Nat) (u:Nat):List Dg:=if u<v then p5 l' H u else p5 l H u
theorem aav (l l':List Dg) (H u:Nat) (h:u<=H):GD l l' H (H+1) u=p5 l' H u:=by unfold GD;rw [ak ad]
theorem BT (l:List Dg) (i:Nat) (d:Dg) (H v:Nat) (x:Dg) (hx:fc (l.set i d) v (i / 2^v)=x):(p5 l H v).set (i / 2^v) x=p5 (l.set i d) H v:=by
 apply List.ext_getElem
 .simp [p5]
 .intro j h1 h2
  simp [p5]at h1⊢;rw [List.getElem_set]
  by_cases e:i / 2^v=j
  .rw [ak e,<-e,hx]
  .rw [af e]
   simp;exact(sE l i d v j (λq=>e q.symm)).symm
structure FQ (w:World) (base p cg cc:Nat) (f:Nat->Value) (G:Nat->Nat) (l:List Dg) (H:Nat) (L:Nat->List Dg):Prop where
 blk:kK w p f
 f0:f 0=.slice (some ⟨cg,0,none⟩) l.length cc
 own:w.ownsRow base 25 8 (.slice (some ⟨cg,0,none⟩) l.length cc) l.length (cY l)
 fl:∀u,u<=H->f (1+u)=.slice (some ⟨G u,0,none⟩) (2^(H - u)) (2^(H - u))
 lv:∀u,u<=H->ai w (G u) 25 (cY (L u)).toArray
 inj:∀u u',u<=H->u'<=H->G u=G u'->u=u'
 kV:∀u,u<=H->base<=G u/\¬G u=p/\¬G u=cg
 bp:base<=p
 pc:¬p=cg
section
variable {w w':World} {base p cg cc:Nat} {f:Nat->Value} {G:Nat->Nat} {l:List Dg} {H:Nat} {L:Nat->List Dg}
theorem Lv.toX (h:Lv w base p cg cc f G l H H):FQ w base p cg cc f G l H (p5 l H):=⟨h.blk,h.f0,h.own,h.fl,h.lv,h.inj,h.kV,h.bp,h.pc⟩
theorem FQ.toL (h:FQ w base p cg cc f G l H L) (hL:∀u,u<=H->L u=p5 l H u):Lv w base p cg cc f G l H H:=⟨h.blk,h.f0,h.own,h.fl,λu hu=>by rw [<-hL u hu];exact h.lv u hu,h.inj,h.kV,h.bp,h.pc⟩
theorem FQ.ext (h:FQ w base p cg cc f G l H L) (hx:al w w'):FQ w' base p cg cc f G l H L:=
 ⟨h.blk.ext hx,h.f0,aI h.own hx,h.fl,λu hu=>bX (h.lv u hu) hx,h.inj,h.kV,h.bp,h.pc⟩
theorem FQ.acB (h:FQ w base p cg cc f G l H L) (v:Nat) (hv:v<=H) (hk:Kept (·=G v) w w') (x:List Dg) (hb:ai w' (G v) 25 (cY x).toArray):FQ w' base p cg cc f G l H (λu=>if u=v then x else L u):=by
 have hf:=h.kV v hv;refine⟨bK h.blk hk (λe=>hf.2.1 e.symm),h.f0,cU h.own hk (λg hg e=>?_),h.fl,λu hu=>?_,h.inj,h.kV,h.bp,h.pc⟩
 .simp [Value.ownBlock]at hg
  exact hf.2.2 ad
 .by_cases e:u=v
  .subst e;simp only [if_true];exact hb
  .simp only [af e]
   exact bK (h.lv u hu) hk (λq=>e (h.inj u v hu hv q))
theorem FQ.leaf (h:FQ w base p cg cc f G l H L) (i:Nat) (hi:i<l.length) (d:Dg):FQ (putAt w cg (i*8) d.cells) base p cg cc f G (l.set i d) H L:=by
 have hk:Kept (·=cg) w (putAt w cg (i*8) d.cells):=Kept.putAt (kR _ w) _ _ _ (λ_=>rfl);refine⟨bK h.blk hk h.pc,by rw [List.length_set];exact h.f0,by rw [List.length_set];exact WO h.own i hi d,h.fl,λu hu=>bK (h.lv u hu) hk (h.kV u hu).2.2,h.inj,h.kV,h.bp,h.pc⟩
theorem FQ.nR {L':Nat->List Dg} (h:FQ w base p cg cc f G l H L) (e:∀u,u<=H->L u=L' u):FQ w base p cg cc f G l H L':=
 ⟨h.blk,h.f0,h.own,h.fl,λu hu=>by rw [<-e u hu];exact h.lv u hu,h.inj,h.kV,h.bp,h.pc⟩
end
def gS (w:World) (base fy p:Nat) (l:List Dg):Prop:=p<fy/\∃cg cc f G,Lv w base p cg cc f G l (iM l.length) (iM l.length)/\cg<fy/\∀u,u<=iM l.length->G u<fy
theorem gS.of {w:World} {base p:Nat} {l:List Dg} (h:jJ w base p l):gS w base w.heap.size p l:=by
 obtain⟨cg,cc,f,G,h⟩:=h;exact⟨h.blk.lt,cg,cc,f,G,h,h.cgl,λu hu=>(h.lv u hu).lt⟩
theorem gS.ok {w:World} {base fy p:Nat} {l:List Dg} (h:gS w base fy p l):jJ w base p l:=by
 obtain⟨_,cg,cc,f,G,h,_⟩:=h;exact⟨cg,cc,f,G,h⟩
theorem gS.ext {w w':World} {base fy p:Nat} {l:List Dg} (h:gS w base fy p l) (hx:al w w'):gS w' base fy p l:=by
 obtain⟨h0,cg,cc,f,G,h,h1,h2⟩:=h;exact⟨h0,cg,cc,f,G,h.ext hx,h1,h2⟩
theorem Lv.kept {S:Nat->Prop} {w w':World} {base p cg cc:Nat} {f:Nat->Value} {G:Nat->Nat} {l:List Dg} {H v:Nat} (h:Lv w base p cg cc f G l H v) (hx:Kept S w w') (hp:¬S p) (hc:¬S cg) (hG:∀u,u<=v->¬S (G u)):Lv w' base p cg cc f G l H v:=
 ⟨bK h.blk hx hp,h.f0,cU h.own hx (λg hg=>by simp [Value.ownBlock]at hg;subst hg;exact hc),h.fl,λu hu=>bK (h.lv u hu) hx (hG u hu),h.inj,h.kV,h.bp,h.pc⟩
section
variable {S:Nat->Prop} {w w':World} {base fy p:Nat} {l:List Dg} (h:gS w base fy p l) (hx:Kept S w w')
include S w w' base fy p l h hx
theorem gS.kept (hs:∀i,S i->fy<=i):gS w' base fy p l:=by
 obtain⟨h0,cg,cc,f,G,h,h1,h2⟩:=h;exact⟨h0,cg,cc,f,G,h.kept hx (λq=>by have:=hs _ q;omega) (λq=>by have:=hs _ q;omega) (λu hu q=>by have:=hs _ q;have:=h2 u hu;omega),h1,h2⟩
theorem gS.apart (hs:∀i,S i->i<base∨fy<=i):gS w' base fy p l:=by
 obtain⟨h0,cg,cc,f,G,h,h1,h2⟩:=h
 have yf:base<=cg:=by
  rcases h.own.2 with⟨hv,_⟩|⟨g',c',cV,hv,hb,_⟩
  .simp at hv
  .simp at hv;omega
 have mV:=h.bp;exact⟨h0,cg,cc,f,G,h.kept hx (λq=>by have:=hs _ q;omega) (λq=>by have:=hs _ q;omega) (λu hu q=>by have:=hs _ q;have:=h2 u hu;have:=(h.kV u hu).1;omega),h1,h2⟩
end
def ZJ (w w':World) (e:Ending) (base fy p:Nat) (l:List Dg):Prop:=e=.returned (.int .i64 0)/\gS w' base fy p l/\Kept (λj=>base<=j/\j<fy) w w'
theorem aaT (base fy p:Nat) (l:List Dg) (i:Nat) (d:Dg) (hd:d.ok) (w:World) (h1:1<=l.length) (h2:l.length<=4096) (hi:i<l.length) (h:gS w base fy p l):
 Calls prog 112 #[.pointer (some ⟨p,0,none⟩),.int .i64 i,.agg #[.int .u8 d.x0,.int .u8 d.x1,.int .u8 d.x2,.int .u8 d.x3,.int .u8 d.x4,.int .u8 d.x5,.int .u8 d.x6,.int .u8 d.x7]] w λe w'=>ZJ w w' e base fy p (l.set i d):=by
 obtain⟨hpt,cg,cc,f,G,h,Bw,hGt⟩:=h;have hb:=pT l.length h1 h2;obtain⟨H,hH⟩:=nm' (iM l.length);rw [<-hH]at hb h hGt;obtain⟨Vb,hnH⟩:=hb;have HP:aoR (i<2^H):=J ad;have x0:al w _:=dM w (.cells d.cells 25);have EM:=bN w 25 d.cells;have hX0:=h.toX.ext x0;have hdw:¬w.heap.size=cg:=by have:=h.cgl;omega
 have xi:=hX0.blk.cell 0 ad;rw [hX0.f0]at xi;have hc1:=hX0.blk.cell 1 ad;have e1:=hX0.fl 0 (cI _);simp only [eW,Nat.sub_zero]at e1;rw [e1]at hc1;obtain⟨n,hn⟩:=nm' l.length;obtain⟨N,hN⟩:=nm' (2^H);rw [<-hn]at xi h1 h2 hi hH;rw [<-hN]at hc1;have hiN:i<N:=by rw [hN];exact HP.o
 have UH:(decide ((0:Int)<=i)&&decide ((i:Int)<n))=true:=by simp;omega
 obtain⟨ch,cm,cl⟩:=WN hX0.own i ad;have mW:=hX0.blk.lt;have wL:=hX0.leaf i ad d;have hpc:=h.pc
 have yf:base<=cg:=by
  rcases h.own.2 with⟨hv,_⟩|⟨g',c',cV,hv,hb,_⟩
  .simp at hv
  .simp at hv;omega
 have⟨HB,HN,rX,HH,dS,ji,HGT,HD,LS⟩:=J9' UH hn hN hH hX0 wL hGt hd h.kV;have hdl:w.heap.size<fy∨fy<=w.heap.size:=by omega
 have ub:(i:Int)<n:=by omega
 have aor:(i:Int)<N:=by omega
 have Vz:(0:Int)<=i:=by omega
 clear UH hn hN hH hX0 wL hGt hd h hnH e1 hdl;go_enter func112,ntmps112;go_upto_region 3 with(fail);generalize (w.alloc (.cells d.cells 25))=W at x0 EM xi hc1 ch cm cl mW dS ji⊢;obtain⟨q,hq⟩:=nm' w.heap.size;rw [<-hq]at EM hdw⊢;have HQ:=J hq;clear hq;go_wp21;refine aoT (KS p n cc _ i _ xi) ?_;rw [HB.o];go_upto_region 5 with(fail);refine fH (λw2=>al W w2) [(0,2),(1,2),(2,2),(3,1),(4,2),(5,1),(6,2),(7,0)] ?_;refine fI ?_
 repeat first|refine cx ?_|refine de fU (by intro w1 hS;have d1:=(Kept.cell hS (p:=⟨p,0,none⟩) mW (λf=>f)).trans xi;have d2:=gK mW hS.size;have d3:=bH (bX EM hS);have d4:=bG (bX EM hS);have d5:=(bX EM hS).lt;exact fV) ?_|refine dc fU ?_
 refine fx ?_;have kx:Kept (·=cg) W (putAt W cg (i*8) d.cells).drew:=(Kept.putAt (kR (·=cg) W) cg _ _ (λ_=>rfl)).drew;have wL:FQ (putAt W cg (i*8) d.cells).drew base p cg cc f G (l.set i d) H (p5 l H):=ji.o.ext ((kR _ _).drew);have hD1:=bK EM kx hdw;have k1:Kept (λj=>base<=j/\j<fy) w (putAt W cg (i*8) d.cells).drew:=(Kept.ext x0).trans' kx (λj _ e=>by omega);generalize (putAt W cg (i*8) d.cells).drew=W1 at kx wL hD1 k1⊢;clear xi hc1 ch cm cl mW dS ji kx EM x0;have hc1:=wL.blk.cell 1 ad;have e1:=wL.fl 0 (cI _);simp only [eW,Nat.sub_zero]at e1;rw [e1,<-rX.o]at hc1;have xi:=wL.blk.cell 0 ad;rw [wL.f0,List.length_set,<-HN.o]at xi;have mW:=wL.blk.lt;have hB:=wL.lv 0 (cI _);have ji:=J wL;have DB:=J xi;clear wL e1 xi;obtain⟨g0,hg0⟩:=nm' (G 0);rw [<-hg0]at hc1 hB;have Tx:=J hg0;clear hg0;go_upto_region 6 with(fail);refine fH (λw2=>al W1 w2) [(0,2),(1,2),(2,2),(3,2),(4,1),(5,2),(6,1),(7,0),(8,2),(9,0)] ?_;refine fI ?_
 repeat first|refine cx ?_|refine de fU (by intro w1 hS;have d1:=(Kept.cell hS (p:=⟨p,1,none⟩) mW (λf=>f)).trans hc1;have d2:=gK mW hS.size;have d3:=bH (bX hD1 hS);have d4:=bG (bX hD1 hS);have d5:=(bX hD1 hS).lt;exact fV) ?_|refine dc fU ?_
 refine au (λK hK=>?_);go_simp;go_wp21;refine(Gz d HD.o _).mono ?_;rintro e w2 ⟨e2,bd⟩;obtain⟨V,hV⟩:=nm' (Rb d);rw [<-hV]at e2;subst e2;have HV:=J hV;clear hV;have y2:al W1 w2:=((kR _ W1).drew).trans bd;refine hK.out _ _ (λ_=>y2) ?_;clear hK K;have hkM:i*8+8<=(cY (p5 l H 0)).length:=by rw [eh,sw,Nat.sub_zero,<-rX.o];omega
 have pJ:=bX hB y2;have TT:=bH pJ (i*8) 8;rw [cJ (by simpa using hkM)]at TT;have mB:=ai.aC pJ;have Ro:=pJ.lt;have Ga:=ai.cw pJ (i*8) V.cells;have fu:=BT l i d H 0 V (by simp [fc,HV.o,show i<l.length by have:=HN.o;omega]);simp only [Nat.pow_zero,Nat.div_one]at fu;rw [ve _ i (by rw [sw,Nat.sub_zero,<-rX.o];exact hiN) V,fu]at Ga;have tM:=J Ga;clear Ga fu hB hc1
 repeat refine cx ?_
 refine fx ?_;have k3:Kept (·=G 0) w2 (putAt w2 g0 (i*8) V.cells):=Kept.putAt (kR _ w2) _ _ _ (λ_=>Tx.o)
 have hX3:FQ (putAt w2 g0 (i*8) V.cells) base p cg cc f G (l.set i d) H (GD l (l.set i d) H 1):=by
  refine((ji.o.ext y2).acB 0 (cI _) k3 _ (by rw [<-Tx.o];exact tM.o)).nR (λu hu=>?_);unfold GD
  by_cases e:u=0
  .subst e;simp
  .rw [af e,af ad]
 have kk:Kept (λj=>base<=j/\j<fy) w (putAt w2 g0 (i*8) V.cells):=(k1.trans (Kept.ext y2)).trans' k3 (λj _ e=>by
  have h3:=(LS.o 0 (cI _)).1;have h4:=HGT.o 0 (cI _);rw [e];exact⟨h3,h4⟩)
 generalize (putAt w2 g0 (i*8) V.cells)=W3 at k3 hX3 kk⊢;clear TT mB Ro pJ tM k3 k1 hD1 y2 bd mW;have xi:=hX3.blk.cell 0 ad;rw [hX3.f0,List.length_set,<-HN.o]at xi;have gq:=J hX3;clear hX3;go_wp21;refine(ql p n cc _ _ h1 h2 xi).mono ?_;rintro e w4 ⟨e4,rfl⟩;replace e4:e=.returned (.int .i64 H):=by rw [e4,HH.o]
 subst e4;clear xi DB ji;go_wp21
 go_loopw [1,34] (λt1 t34 wr=>∃(v:Nat),v<=H/\t34=.int .i64 v/\t1=.int .i64 (i / 2^v:Nat)/\FQ wr base p cg cc f G (l.set i d) H (GD l (l.set i d) H (v+1))/\Kept (λj=>base<=j/\j<fy) w wr) (λ_ t34 _=>H - (intOf t34).toNat)
 case atStart=>exact⟨0,by omega,rfl,by simp,gq.o,kk⟩
 case round=>
  obtain⟨v,hv,rfl,rfl,hX,hk⟩:=hrel;clear gq kk;obtain⟨x,iP⟩:=nm' (i / 2^v);rw [<-iP]
  by_cases aP:v<H
  .obtain⟨N2,Bu⟩:=nm' (2^(H - v))
   obtain⟨M,hM⟩:=nm' (2^(H - (v+1)));have hNM:N2=2*M:=by rw [Bu,hM];exact sI H v aP
   have Z':N2<=4096:=by rw [Bu];exact ax (Nat.pow_le_pow_right ad (show H - v<=12 by omega)) ap
   have Ag:x<N2:=by rw [iP,Bu];exact Bi HP.o ad
   obtain⟨k,eV⟩:=nm' (x / 2);have hkM:k<M:=by omega
   have hke:k=i / 2^(v+1):=by rw [eV,iP,mH]
   obtain⟨v1,mJ⟩:=nm' (v+1);have T4:(x:Int).tdiv 2=(k:Nat):=by rw [Int.tdiv_eq_ediv_of_nonneg ad,eV];omega
   have TO:=hX.blk.cell (1+v) ad;rw [hX.fl v ad,<-Bu]at TO
   have ahy:wr.cell? ⟨p,1+v1,none⟩=some (.slice (some ⟨G (v+1),0,none⟩) M M):=by
    have:=hX.blk.cell (1+(v+1)) ad;rw [hX.fl (v+1) ad,<-hM]at this;rw [mJ];exact this
   have hBv:=hX.lv v ad;have aec:=hX.lv (v+1) ad;rw [show GD l (l.set i d) H (v+1) v=p5 (l.set i d) H v from ak ad]at hBv;rw [show GD l (l.set i d) H (v+1) (v+1)=p5 l H (v+1)from af ad]at aec;have aeA:=hX.blk.lt;have hjn:=JP p (G v) (G (v+1)) v v1 k N2 M N2 M (p5 (l.set i d) H v) (p5 l H (v+1)) wr mJ ad (by rw [sw];exact Bu) (by rw [sw];exact hM) ad hkM Z' (PD _ H v) TO ahy hBv aec aeA
   have fu:(p5 l H (v+1)).set k (tX ((p5 (l.set i d) H v).getD (2*k) Dg.zero) ((p5 (l.set i d) H v).getD (2*k+1) Dg.zero))=p5 (l.set i d) H (v+1):=by
    rw [rD _ H v _ ad,rD _ H v _ ad,hke];exact BT l i d H (v+1) _ rfl
   rw [fu]at hjn;have om:IntKind.i64.wrap ((v:Int)+1)=v1:=by rw [im];omega
   have⟨HX,HJ,je,Ek⟩:=J4' hX hjn hke mJ;have aii:(v1:Int)<13:=by omega
   have VG:k<=4096:=by omega
   have aot:(k:Int)<=4096:=by omega
   clear hX hjn fu hke TO ahy hBv aec Bu hM hNM iP eV mJ;go_wp21;refine HJ.o.mono ?_;rintro e w5 ⟨rfl,hB5,ss⟩
   have hX5:FQ w5 base p cg cc f G (l.set i d) H (GD l (l.set i d) H (v+1+1)):=by
    refine(HX.o.acB (v+1) ad ss _ hB5).nR (λu hu=>?_);unfold GD
    by_cases e:u=v+1
    .subst e;simp
    .rw [af e]
     by_cases e2:u<v+1
     .rw [ak e2,ak ad]
     .rw [af e2,af ad]
   have kk5:Kept (λj=>base<=j/\j<fy) w w5:=hk.trans' ss (λj _ e=>by
    have h3:=(LS.o (v+1) aP).1;have h4:=HGT.o (v+1) aP;rw [e];exact⟨h3,h4⟩)
   have kv:=J hX5;clear hX5 hB5 ss HJ HX hk om T4;go_wp21;go_roundw
   case rel=>exact⟨v+1,aP,by go_num,by rw [je.o],kv.o,kk5⟩
   case measure=>simp only [intOf];omega
  .obtain rfl:v=H:=by omega
   have HX:=J hX;clear hX iP;go_wp21;go_ret;refine⟨rfl,⟨hpt,cg,cc,f,G,?_,Bw,?_⟩,hk⟩
   .rw [List.length_set,<-HN.o,<-HH.o]
    exact HX.o.toL (λu hu=>aav l _ v u hu)
   .rw [List.length_set,<-HN.o,<-HH.o]
    exact HGT.o
def yG (c:List Ins) (pc halt:Int) (m:List Int):Dg:=mA (jB c pc halt m).1 (jB c pc halt m).2.1 m.length (kC (jB c pc halt m).2.2)
theorem J3 {c:List Ins} {pc halt:Int} {m:List Int} (hc:c.length<=2048) (h:jX pc halt m):yG c pc halt m=jN (jB c pc halt m).1 (jB c pc halt m).2.1 (jB c pc halt m).2.2:=by
 unfold yG jN;rw [(Cu hc h).2]
structure Sm where (pc halt:Int) (g n c:Nat)
abbrev Sm.cells (s:Sm):Array Value:=#[.int .i64 s.pc,.slice (some ⟨s.g,0,none⟩) s.n s.c,.int .i64 s.halt]
attribute [go_sem] Sm.cells
abbrev Zd:=Int×Int×List Int
theorem nl.kept {S:Nat->Prop} {w w':World} {s:Ws} {L:Sl} (h:nl w s L) (hx:Kept S w w') (hs:∀i,S i->∀cV fr,¬w.heap[i]?=some (.cells cV 25 fr)) (LH:∀i,S i->∀cV fr,¬w.heap[i]?=some (.cells cV 271 fr)):nl w' s L:=
 ⟨h.pc,h.halt,h.words,h.mem,h.ins,h.path.kept hx hs,h.reads.kept hx hs LH,h.writes.kept hx hs LH⟩
abbrev ZQ (A:Option Addr) (n cap:Nat) (pc:Int) (A':Option Addr) (k eF:Nat) (halt:Int):Array Value:=#[.slice A n cap,.int .i64 pc,.slice A' k eF,.int .i64 halt]
attribute [go_sem] ZQ
def qk (n k:Nat) (pc halt:Int):Bool:=decide (1<=n)&&decide (n<=40)&&decide (k<=12)&&cQ pc halt k
def gX (c:List Ins) (r:Zd):Nat->Zd
 |0=>r
 |j+1=>jB c (gX c r j).1 (gX c r j).2.1 (gX c r j).2.2
theorem nc {c:List Ins} {r:Zd} (hc:c.length<=2048) (h:jX r.1 r.2.1 r.2.2):∀j,jX (gX c r j).1 (gX c r j).2.1 (gX c r j).2.2/\(gX c r j).2.2.length=r.2.2.length
 |0=>⟨h,rfl⟩
 |j+1=>by
  have ih:=nc hc h j;have:=Cu hc ih.1;exact⟨this.1,this.2.trans ih.2⟩
structure ng (w:World) (A:Option Addr) (b off n:Nat) (l:List Ins) (pc halt:Int) (b' bL k:Nat) (m:List Int):Prop where
 at_:A=some ⟨b,off,none⟩
 row:Row w b off (db l)
 J2:n=l.length
 n1:1<=n
 n2:n<=2048
 iok:∀i∈l,i.ok
 M6:k=m.length
 right:cQ pc halt k=true
 B_:∀z∈m,av z
 RU:Row w b' bL (bj m)
 ops:OpsAt w
theorem ng.ext {w w':World} {A:Option Addr} {b off n:Nat} {l:List Ins} {pc halt:Int} {k:Nat} {m:List Int} (h:ng w A b off n l pc halt b' bL k m) (hx:al w w'):ng w' A b off n l pc halt b' bL k m:=
 ⟨h.at_,h.row.ext hx,h.J2,h.n1,h.n2,h.iok,h.M6,h.right,h.B_,h.RU.ext hx,h.ops.ext hx⟩
theorem ng.ani {w:World} {A:Option Addr} {b off n:Nat} {l:List Ins} {pc halt:Int} {k:Nat} {m:List Int} (h:ng w A b off n l pc halt b' bL k m):jX pc halt m:=⟨by rw [<-h.M6];exact h.right,h.B_⟩
theorem Xo (l:List Ins) (pc:Int) (m:List Int):∃v,(gO l pc m).2.2=pM (dm l pc 0 m).2 v m:=by
 cases hn:cW l pc m.length with
 |none=>
  refine⟨0,?_⟩;unfold gO;rw [hn];have:dm l pc 0 m=([],-1):=by simp only [dm,hn];rfl
  rw [this];simp [pM]
 |some i=>
  obtain⟨_,p,hh,v,h1,_⟩:=yN (m':=m) hn rfl rfl rfl (λ_ _=>rfl);exact⟨v,by rw [h1]⟩
def tI (l:List Ins) (r:Zd) (j:Nat):Dg:=jN (gX l r j).1 (gX l r j).2.1 (gX l r j).2.2
def ZF (w w':World) (e:Ending) (n:Nat) (f:Nat->Dg):Prop:=∃v,e=.returned (.tuple #[v,.int .i64 0])/\w'.ownsRow w.heap.size 25 8 v n (cY ((List.range n).map f))/\al w w'
structure DL (w0 w:World) (fy g off:Nat) (m:List Int):Prop where
 row:Row w g off (bj m)
 at_:g<w0.heap.size∨(fy<=g/\∃cV fr,w.heap[g]?=some (.cells cV 21 fr))
theorem DL.ext {w w':World} {fy g off:Nat} {m:List Int} (h:DL w0 w fy g off m) (hx:al w w'):DL w0 w' fy g off m:=
 ⟨h.row.ext hx,h.at_.imp id (λ⟨a,cV,fr,e⟩=>⟨a,cV,fr,(hx.block g h.row.lt (λf=>f)).trans e⟩)⟩
theorem DL.kept {S:Nat->Prop} {w w':World} {fy g off:Nat} {m:List Int} (h:DL w0 w fy g off m) (hx:Kept S w w') (h1:∀i,S i->w0.heap.size<=i) (h2:∀i,S i->fy<=i->∀cV fr,¬w.heap[i]?=some (.cells cV 21 fr)):DL w0 w' fy g off m:=by
 have hg:¬S g:=λhS=>by
  rcases h.at_ with h3|⟨h3,cV,fr,e⟩
  .have:=h1 g hS;omega
  .exact h2 g hS h3 cV fr e
 exact⟨h.row.kept hx hg,h.at_.imp id (λ⟨a,cV,fr,e⟩=>⟨a,cV,fr,(hx.block g h.row.lt hg).trans e⟩)⟩
theorem Xt (A:Option Addr) (b off n cap:Nat) (l:List Ins) (pc halt:Int) (b' bL k eF:Nat) (m:List Int) (steps:Nat) (hs:steps<=65536) (w:World) (hc:ng w A b off n l pc halt b' bL k m):
 Calls prog 49 #[.slice A n cap,.agg (ae pc (some ⟨b',bL,none⟩) k eF halt),.int .i64 steps] w λe w'=>ZF w w' e (steps+1) (tI l (pc,halt,m)):=by
 obtain⟨k1,k2,h3,h4,h5,h6⟩:=cG hc.right;obtain rfl:=hc.at_;have n1:=hc.n1;have n2:=hc.n2;have x0:al w _:=dM w (.cells (ae pc (some ⟨b',bL,none⟩) k eF halt) 47);have kB:=bN w 47 (ae pc (some ⟨b',bL,none⟩) k eF halt);have HC:=J hc;have ago:=J (nc (r:=(pc,halt,m)) (by rw [<-hc.J2];exact n2) hc.ani);obtain⟨C,hCe⟩:=nm' (kg l);have pO:=J hCe;clear hc hCe;go_enter func49,ntmps49;go_upto_region 1 with(fail);generalize (w.alloc (.cells (ae pc (some ⟨b',bL,none⟩) k eF halt) 47))=W at x0 kB⊢;obtain⟨sb,EU⟩:=nm' w.heap.size;rw [<-EU]at kB⊢;have aoI:w.heap.size<=sb:=by omega
 clear EU;go_wp2_with fail;have aeF:=K_ (some ⟨b,off,none⟩) b off cap l n HC.o.J2 n1 n2 HC.o.iok (λ_=>rfl) W (λ_=>HC.o.row.ext x0);rw [<-pO.o]at aeF;refine aeF.mono ?_;rintro e w1 ⟨rfl,aw⟩;clear aeF;go_upto_region 4 with(fail);have x2:al w (w1.alloc (.cells C.cells 25)):=(x0.trans aw).alloc _;have gx:=ai.alloc (bX kB aw) (.cells C.cells 25);generalize (w1.alloc (.cells C.cells 25))=W2 at x2 gx⊢;generalize (w1:World).heap.size=cbk at⊢;clear kB aw x0;have i1:=bH gx;have i2:=bG gx;have i3:=gx.lt;go_wp2_with fail;refine(p7 pc halt (some ⟨b',bL,none⟩) b' bL eF m k HC.o.M6 HC.o.right (λ_=>rfl) _ (λ_=>HC.o.RU.ext x2)).mono ?_;rintro e w3 ⟨q,rfl,hq,dv⟩;have qL:=bX gx dv;have x3:=x2.trans dv;have hT3:=gS.of (hq.low x2.size);have amU:sb<W2.heap.size:=gx.lt;obtain⟨base,gL⟩:=nm' W2.heap.size;have hTI:gS w3 base w3.heap.size q (m.map dx):=by rw [gL];exact gS.of hq
 rw [<-gL]at amU;have gB:w.heap.size<=base:=by rw [gL];exact x2.size
 clear i1 i2 i3 gx x2 dv hq hT3 gL;obtain⟨fy,aak⟩:=nm' w3.heap.size;rw [<-aak]at hTI;have htb:base<=fy:=by have:=hTI.1;obtain⟨_,cg,cc,f,G,h,_⟩:=hTI;have:=h.bp;omega
 obtain⟨w4,hr4,D3,eS⟩:=PF w3 (steps+1) ad;have aoD:(0:Int)<=steps:=by omega
 have aoa:(steps:Int)<=65536:=by omega
 have xp:((steps+1:Nat):Int)=(steps:Int)+1:=by omega
 rw [xp]at hr4;clear xp;go_upto_region 9 with(fail);go_step
 iterate 2 refine kE ?_
 refine ia rfl _ _ 23 rfl rfl rfl hr4 ?_;clear hr4;have xg:=bX qL eS;have x4:=x3.trans eS;have Vj:=hTI.ext eS;have hM4:DL w w4 fy b' bL m:=⟨HC.o.RU.ext x4,.inl HC.o.RU.lt⟩;obtain⟨v4,hv4⟩:=nm' (Value.slice (some ⟨w3.heap.size,0,none⟩) 0 (steps+1));rw [<-hv4]at D3⊢;rw [<-aak]at D3;have hs4:fy<=w4.heap.size:=by rw [aak];exact eS.size
 have⟨IF,HT4,LW⟩:=J3' D3 Vj hM4;clear hv4 D3 Vj hM4 qL x3 hTI eS aak;obtain⟨D0,EM⟩:=nm' (tI l (pc,halt,m) 0);obtain⟨M0,Vd⟩:=nm' (kC m);have hDM:D0=mA pc halt k M0:=by rw [EM,Vd,HC.o.M6];rfl
 have⟨HD0,zY,HDM⟩:=J3' EM Vd hDM;clear EM Vd hDM;go_upto_region 10 with(fail);refine fH (λw2=>al w4 w2) [(0,2),(1,2),(2,1),(3,2),(4,1),(5,2),(6,1),(7,2),(8,2),(9,0),(10,0),(11,0),(12,0),(13,2)] ?_;refine fI ?_
 repeat first|refine cx ?_|refine de fU (by intro w1 hS;have d1:=bC (bX xg hS);have d2:=(bX xg hS).lt;exact fV) ?_|refine dc fU ?_
 have yW:al w4 w4.drew:=(kR _ w4).drew;refine au (λK hK=>?_);go_simp;go_wp2_with fail;have hrt:=iY base q (m.map dx) w4.drew (by rw [gu,<-HC.o.M6];exact k1) (by rw [gu,<-HC.o.M6];omega) (HT4.o.ok.ext yW);rw [show vI (m.map dx)=M0 from zY.o.symm]at hrt;refine hrt.mono ?_;rintro e w5 ⟨rfl,iG⟩;have y5:al w4 w5:=yW.trans iG;refine hK.out _ _ (λ_=>y5) ?_;clear hK K hrt;refine tj ?_;intro K hK;go_wp2_with fail;have TU:=iU pc halt k M0 (by rw [zY.o];exact kj _ _) ad ad ad w5;rw [<-HDM.o]at TU;refine TU.mono ?_;rintro e w6 ⟨rfl,nU⟩;have y6:al w4 w6:=y5.trans nU;refine hK.out _ _ (λ_=>y6) ?_;clear hK K TU;refine tj ?_;intro K hK;have y7:al w4 (w6.alloc (.cells D0.cells 25)):=y6.alloc _;refine hK.out _ _ (λ_=>y7) ?_;clear hK K;have YS:=y6.size;obtain⟨v8,w8,hr8,VP,Gh⟩:=L7 (w6.alloc (.cells D0.cells 25)) fy v4 0 [] (aI IF.o y7) w6.heap.size 0 1 1 [D0] rfl (by simpa [cY]using Row.cF (bN w6 25 D0.cells)) ad kr;have Pu:∀i,(v4:Value).ownBlock=some i->fy<=i:=λi e=>(IF.o.lt i e).1;have YQ:=dl (aI IF.o y7) (E':=21) ap;have Af:=dl (aI IF.o y7) (E':=47) ap;have hS8:=bK (bX xg y7) Gh (λe=>Af sb e _ _ (bX xg y7));have hT8:=(HT4.o.ext y7).kept Gh Pu;have hM8:=(LW.o.ext y7).kept Gh (λi e=>by have:=Pu i e;omega) (λi e _=>YQ i e);have x8:al w w8:=(x4.trans y7).trans' Gh (λi hi e=>by have:=Pu i e;omega)
 have ahW:w8.ownsRow fy 25 8 v8 (0+1) (cY ((List.range (0+1)).map (tI l (pc,halt,m)))):=by
  have e:(List.range (0+1)).map (tI l (pc,halt,m))=[]++[D0]:=by rw [HD0.o];rfl
  rw [e];exact VP
 have⟨wV,HT8,Ql⟩:=J3' ahW hT8 hM8;have hs8:fy<=w8.heap.size:=by have h7:=y7.size;have h8:=Gh.size;omega
 clear VP ahW hT8 hM8 Gh Pu YQ Af;refine CN aV (λK hK=>?_);refine BJ rfl ?_;refine Lib.wp_append_run _ _ _ _ _ rfl _ _ rfl rfl _ _ hr8 ?_;refine hK.out _ _ ?_;clear hK K hr8;refine fx ?_;clear IF HT4 LW xg x4 yW y5 y6 y7 iG nU YS;go_wp2_with fail
 go_loopw [12] (λt12 wr=>∃(j:Nat) (g o c:Nat),j<=steps/\wr.ownsRow fy 25 8 t12 (j+1) (cY ((List.range (j+1)).map (tI l (pc,halt,m))))/\ai wr sb 47 (ae (gX l (pc,halt,m) j).1 (some ⟨g,o,none⟩) k c (gX l (pc,halt,m) j).2.1)/\DL w wr fy g o (gX l (pc,halt,m) j).2.2/\gS wr base fy q ((gX l (pc,halt,m) j).2.2.map dx)/\al w wr/\fy<=wr.heap.size) (λt12 _=>match t12 with| .slice _ n _=>steps+1 - n|_=>0)
 case atStart=>exact⟨0,b',bL,eF,cI _,wV.o,hS8,Ql.o,HT8.o,x8,hs8⟩
 case round=>
  obtain⟨j,g,o,c,hj,ho,hS,hM,hT,hx,hts⟩:=hrel;clear wV HT8 Ql hS8 x8 hs8 HD0 zY HDM;obtain⟨hok,VR⟩:=ago.o j;obtain⟨r,hr⟩:=nm' (gX l (pc,halt,m) j);have eO:gX l (pc,halt,m) (j+1)=jB l r.1 r.2.1 r.2.2:=by rw [hr];rfl
  rw [<-hr]at hS hM hT hok VR;obtain⟨Y5,rha,rm⟩:=r;simp only at hS hM hT hok VR eO;rw [<-HC.o.M6]at VR;obtain⟨g12,c12,amV,aE,YM,hty⟩:=fh ho ad ad;subst amV;obtain⟨_,_,r3,r4,r5,r6⟩:=cG hok.right;have⟨HR,HO,HM,HT,lm,zX,wH⟩:=J7' hr ho hM hT hok VR eO;clear hr ho hM hT hok VR eO hty
  by_cases aP:j+1<=steps
  .have gD:(j:Int)+1<=steps:=by omega
   have i1:=bC hS;have i2:=hS.lt
   by_cases h0:rha=0
   .subst h0
    have i3:=bH hS;have i4:=bG hS;have xo:kO wr (some ⟨b,off,none⟩) b off n l g o k Y5 0 rm:=⟨HC.o.ops.ext hx,λ_=>rfl,λ_=>HC.o.row.ext hx,HC.o.J2,n2,zX.o.symm,by rw [<-zX.o];exact lm.o.right,lm.o.B_,HM.o.row⟩;have FO:=J xo;obtain⟨rs,wx,LG⟩:∃rs wx,dm l Y5 0 rm=(rs,wx):=⟨_,_,rfl⟩;obtain⟨_,T8,_⟩:=xx l Y5 0 rm;have fE:=uf (some ⟨b,off,none⟩) b off n cap l Y5 0 g o k c rm wr xo;obtain⟨v,T6⟩:=Xo l Y5 rm;rw [LG]at T8 fE T6;simp only at T8 T6;rw [zX.o]at T8;have dz:jB l Y5 0 rm=gO l Y5 rm:=ak rfl;have hms:=λw h=>E8 (some ⟨b,off,none⟩) b off n cap l Y5 0 g o k c rm w h;rw [dz]at hms;have eO:=wH.o;rw [dz]at eO;obtain⟨q',hq'⟩:=nm' (gO l Y5 rm);rw [<-hq']at hms T6 eO;obtain⟨p',h',m'⟩:=q';simp only at hms T6;have⟨Tz,TA,zZ,Ug⟩:=J4' fE hms T6 eO;clear xo fE hms T6 eO dz hq' LG wH;go_wp2_with fail;refine Tz.o.mono ?_;rintro e w2 ⟨v2,rfl,-,bd⟩;simp only;have gx:=bX hS bd;clear Tz i1 i2 i3 i4;have i1:=bH gx;have i2:=bG gx;have i3:=gx.lt;go_wp2_with fail;refine(TA.o w2 (FO.o.ext bd)).mono ?_;rintro e w3 ⟨v3,rfl,g3,c3,rfl,T0,dv⟩;simp only [ae];have qL:=bX gx dv;have y3:al wr w3:=bd.trans dv;clear i1 i2 i3;have i1:=bH qL;have i2:=ai.aC qL;have i3:=qL.lt;go_upto_region 16 with(fail);have kp:Kept (·=sb) w3 (putAt w3 sb 0 (ae p' (some ⟨g3,0,none⟩) k c3 h')):=Kept.putAt (kR (·=sb) w3) sb _ _ (λ_=>rfl);have xg:ai (putAt w3 sb 0 (ae p' (some ⟨g3,0,none⟩) k c3 h')) sb 47 (ae p' (some ⟨g3,0,none⟩) k c3 h'):=ai.cw qL _ _;have hg3:w2.heap.size<=g3:=by obtain⟨_,cV,hb,_⟩:=T0.inv;exact hb
    have aoF:wr.heap.size<=w2.heap.size:=bd.size
    have D1:DL w (putAt w3 sb 0 (ae p' (some ⟨g3,0,none⟩) k c3 h')) fy g3 0 m':=by
     obtain⟨_,cV,_,DZ,_⟩:=(T0.kept kp ad).inv;exact⟨(T0.kept kp ad).row,.inr ⟨by omega,cV,_,DZ⟩⟩
    have Vj:=(HT.o.ext y3).apart kp (λi e=>by omega);have D3:=cU (aI HO.o y3) kp (λi hi e=>by have:=(HO.o.lt i hi).1;omega);have x4:al w (putAt w3 sb 0 (ae p' (some ⟨g3,0,none⟩) k c3 h')):=(hx.trans y3).trans' kp (λi hi e=>by omega);have aer:=T0.kept kp ad;have aeC:fy<=(putAt w3 sb 0 (ae p' (some ⟨g3,0,none⟩) k c3 h')).heap.size:=by have h1:=y3.size;have h2:=kp.size;omega
    generalize (putAt w3 sb 0 (ae p' (some ⟨g3,0,none⟩) k c3 h'))=W4 at kp xg D1 Vj D3 x4 aer aeC⊢;have⟨IF,HT4,LW,FK⟩:=J4' D3 Vj D1 aer;clear D3 Vj D1 aer kp i1 i2 i3 qL T0 gx hS y3 dv bd HO HM HT FO TA aE
    by_cases pK:0<=wx
    .obtain⟨a,rfl⟩:∃a:Nat,wx=a:=⟨wx.toNat,by omega⟩
     have hak:a<k:=by omega
     have ahn:(a:Int)<k:=by omega
     have wN:m'.length=k:=by rw [zZ.o];unfold pM;rw [ak pK];rw [GX,zX.o]
     have yg:=FK.o.cell a ad
     have hval:m'[a]=v:=by
      have:=zZ.o;subst this;simp [pM,gV]
     rw [hval]at yg
     have VJ:(rm.map dx).set a (dx v)=m'.map dx:=by
      rw [zZ.o];unfold pM;rw [ak pK];simp [gV,List.map_set]
     have Bz:=FK.o.lt;have i1:=bC xg;have i2:=xg.lt;have OG:=J VJ;have OI:=J wN;clear hval VJ wN;go_wp2_with fail;refine aoS (vB v _) λw5 iG=>?_;clear i1 yg;go_wp2_with fail;have fu:=aaT base fy q (rm.map dx) a (dx v) (vz _) w5 (by rw [gu,zX.o];exact k1) (by rw [gu,zX.o];omega) (by rw [gu,zX.o];exact hak) (HT4.o.ext iG);rw [OG.o]at fu;refine fu.mono ?_;rintro e w6 ⟨rfl,hT6,yj⟩;have MA:=bK (bX xg iG) yj (λe=>by omega);have hM6:=(LW.o.ext iG).kept yj (λi e=>by omega) (λi e h=>by omega);have tD:=cU (aI IF.o iG) yj (λi hi e=>by have:=(IF.o.lt i hi).1;omega);have x6:al w w6:=(x4.trans iG).trans' yj (λi hi e=>by omega);have aeD:fy<=w6.heap.size:=by have h1:=iG.size;have h2:=yj.size;omega
     have⟨DG,HT6,DE⟩:=J3' tD hT6 hM6;clear tD hT6 hM6 fu yj iG IF HT4 LW FK x4 xg OG i2 Bz;exact zz9
    .have T6:=zZ.o
     unfold pM at T6;rw [af pK]at T6;have hT6:=HT4.o;rw [<-T6]at hT6;have wN:m'.length=k:=by rw [T6];exact zX.o
     obtain⟨w6,hw6⟩:=nm' W4;have DG:=J (show w6.ownsRow _ _ _ _ _ _ from by rw [hw6];exact IF.o);have HT6:=J (show gS w6 _ _ _ _ from by rw [hw6];exact hT6);have DE:=J (show DL w w6 _ _ _ _ from by rw [hw6];exact LW.o);have MA:ai w6 sb 47 (ae p' (some ⟨g3,0,none⟩) k c3 h'):=by rw [hw6];exact xg
     have x6:al w w6:=by rw [hw6];exact x4
     have aeD:fy<=w6.heap.size:=by rw [hw6];exact aeC
     have OI:=J wN;rw [<-hw6];clear T6 hT6 wN IF HT4 LW FK x4 xg aeC hw6;exact zz9
   .have tB:(rha !=0)=true:=by simpa using h0
    have HH0:=J h0;clear h0;obtain⟨dh,dgt⟩:=aE.ZT j aB;simp only [List.getElem_map,List.getElem_range,dT]at dh dgt;obtain⟨D,hD⟩:=nm' (tI l (pc,halt,m) j);rw [<-hD]at dgt;have Bz:=aE.lt;have aev:gX l (pc,halt,m) (j+1)=(Y5,rha,rm):=by rw [wH.o];unfold jB;rw [af HH0.o]
    have hD1:tI l (pc,halt,m) (j+1)=D:=by rw [hD];unfold tI;rw [aev,<-HR.o]
    have HD1:=J hD1;have HNT:=J aev;clear hD hD1 aev aE;have Pk:(0:Int)<=j:=by omega
    have d_:(j:Int)<(j:Int)+1:=by omega
    have hjn:j<j+1:=by omega
    have mI:(j:Int)+1 - 1=j:=by omega
    go_upto_region 13 with(fail);go_step
    iterate 8 refine kE ?_
    have y5:al wr (wr.alloc (.cells D.cells 25)):=dM wr _;obtain⟨v6,w6,T5,tD,yj⟩:=L7 (wr.alloc (.cells D.cells 25)) fy (.slice (some ⟨g12,0,none⟩) (j+1) c12) (j+1) _ (aI HO.o y5) wr.heap.size 0 1 1 [D] rfl (by simpa [cY]using Row.cF (bN wr 25 D.cells)) ad kr;have Pu:∀i,(Value.slice (some ⟨g12,0,none⟩) (j+1) c12).ownBlock=some i->fy<=i:=λi e=>(HO.o.lt i e).1;have YQ:=dl (aI HO.o y5) (E':=21) ap;have Af:=dl (aI HO.o y5) (E':=47) ap;have MA:=bK (bX hS y5) yj (λe=>Af sb e _ _ (bX hS y5));have hT6:=(HT.o.ext y5).kept yj Pu;have hM6:=(HM.o.ext y5).kept yj (λi e=>by have:=Pu i e;omega) (λi e _=>YQ i e);have x6:al w w6:=(hx.trans y5).trans' yj (λi hi e=>by have:=Pu i e;omega);have aeD:fy<=w6.heap.size:=by have h1:=y5.size;have h2:=yj.size;omega
    have aew:w6.ownsRow fy 25 8 v6 (j+1+1) (cY ((List.range (j+1+1)).map (tI l (pc,halt,m)))):=by
     rw [List.range_succ,qy,show List.map (tI l (pc,halt,m)) [j+1]=[D]by rw [<-HD1.o];rfl];exact tD
    obtain⟨g6,c6,hv6,_⟩:=fh aew ad ad;subst hv6;refine cj rfl (.tmp 60) (.tmp 67) 23 rfl rfl rfl rfl T5 ?_;have⟨DG,HT6,DE⟩:=J3' aew hT6 hM6;clear T5 tD aew hT6 hM6 yj Pu YQ Af dh dgt i1;go_wp2_with fail;go_roundw
    case rel=>exact⟨j+1,g,o,c,aP,DG.o,by rw [HNT.o];exact MA,by rw [HNT.o];exact DE.o,by rw [HNT.o];exact HT6.o,x6,aeD⟩
    case measure=>simp only;omega
  .have gD:¬(j:Int)+1<=steps:=by omega
   have ej:j=steps:=by omega
   subst ej;go_wp2_with fail
   go_ret2
   exact⟨_,rfl,eI HO.o ad,hx⟩
abbrev XV:Array Value:=#[.int .i64 0,.int .i64 0,.int .i64 0,.int .u8 0,.int .u8 0,.int .u8 0,.int .u8 0,.int .u8 0,.int .u8 0,.int .u8 0,.int .u8 0,.int .i64 0,.int .i64 0,.int .i64 0,.int .i64 0,.slice none 0 0,.slice none 0 0,.slice none 0 0]
attribute [go_sem] XV
def uk (t:Tr) (e:Int):Int:=if dL t 0 true=0 then e else dL t 0 true
def p9 (t:Tr) (e:Int):Tr:=if dL t 0 true=0/\e=0 then{t with turn:=-1,jl:=0}else t
theorem Sb (b:Nat) (t:Tr) (cs:Array Value) (e0:Int) (w:World) (ht:At w b t) (kL:(cs.toList.take 18).toArray=cs) (hn:18<=cs.size) (ha:dL t 0 true=0)
 (hk:∀w',al w w'->Calls prog 81 #[.agg #[.int .u8 t.program.x0,.int .u8 t.program.x1,.int .u8 t.program.x2,.int .u8 t.program.x3,.int .u8 t.program.x4,.int .u8 t.program.x5,.int .u8 t.program.x6,.int .u8 t.program.x7],.int .i64 t.size,.agg #[.int .u8 t.before.x0,.int .u8 t.before.x1,.int .u8 t.before.x2,.int .u8 t.before.x3,.int .u8 t.before.x4,.int .u8 t.before.x5,.int .u8 t.before.x6,.int .u8 t.before.x7],.agg #[.int .u8 t.after.x0,.int .u8 t.after.x1,.int .u8 t.after.x2,.int .u8 t.after.x3,.int .u8 t.after.x4,.int .u8 t.after.x5,.int .u8 t.after.x6,.int .u8 t.after.x7],.agg cs] w' λe Iz=>e=.returned (.int .i64 e0)/\al w' Iz):
 Calls prog 68 #[.pointer (some ⟨b,0,none⟩),.agg cs] w λe w'=>e=.returned (.int .i64 e0)/\At w' b (p9 t e0)/\Kept (·=b) w w':=by
 have HK:=J hk;clear hk;have qB:=ai.lt ht;obtain⟨t',ht'⟩:∃t',p9 t e0=t':=⟨_,rfl⟩;rw [ht'];have HT:=J ht';clear ht';go_enter func68,ntmps68;go_wp2_with (go_at_call 121;refine(kP b t _ _ _ (ai.alloc ht _)).mono ?_;rintro e w' ⟨rfl,rfl⟩);have hc1:=ai.alloc ht (.cells cs 74);have Pf:=bN w 74 cs;refine mO (λw'=>al (w.alloc (.cells cs 74)) w') [true,true,true,true,true,true,true,true,true,true,true,true,true,true,true,true,true,true,true,false,false] aV aV aV ?_
 (repeat (first|((apply sV);(· exact fU);(· go_simp);(· (intro w1 hS;have c1:=bX hc1 hS;have d1:=bX Pf hS;have hh:=bH c1;have hg:=bG c1;have xi:=bC c1;have TU:=bH d1;have Dl:=bG d1;go_simp;try with_reducible rfl));refine iJ ?_)|((apply sU);(· exact fU);(· go_simp);refine iJ ?_)))
 refine rT (λK hK=>?_);go_simp;go_wp21;refine aoS (HK.o _ ((dM w _).drew)) λw2 bd=>?_;have BH:al (w.alloc (.cells cs 74)) w2:=((kR _ _).drew).trans bd;refine hK.out _ _ BH (λ_=>?_);clear hK K
 (repeat (refine C0 aV (λK hK=>?_);go_simp;refine hK.out _ _ ?_;clear hK K));refine wi ?_
 have uC:At w2 b t:=bX hc1 BH;have dv:Kept (·=b) w w2:=Kept.ext ((dM w _).trans BH)
 by_cases he:e0=0
 .subst he
  have HT2:=J (HT.o.symm.trans (ak ⟨ha,rfl⟩));go_wp2_with (go_at_call 119;refine(XG b t _ _ uC).mono ?_;rintro e w' ⟨rfl,hA,hK⟩);go_ret;exact⟨rfl,HT2.o▸hA,dv.trans hK⟩
 .have HT2:=J (HT.o.symm.trans (af (λh=>he h.2)))
  have Vx:(e0 !=0)=true:=by simpa using he
  clear he;go_wp21;go_ret;exact⟨rfl,HT2.o▸uC,dv⟩
theorem R' (b:Nat) (t:Tr) (cs:Array Value) (e0:Int) (w:World) (ht:At w b t) (kL:(cs.toList.take 18).toArray=cs) (hn:18<=cs.size)
 (hk:∀w',al w w'->Calls prog 81 #[.agg #[.int .u8 t.program.x0,.int .u8 t.program.x1,.int .u8 t.program.x2,.int .u8 t.program.x3,.int .u8 t.program.x4,.int .u8 t.program.x5,.int .u8 t.program.x6,.int .u8 t.program.x7],.int .i64 t.size,.agg #[.int .u8 t.before.x0,.int .u8 t.before.x1,.int .u8 t.before.x2,.int .u8 t.before.x3,.int .u8 t.before.x4,.int .u8 t.before.x5,.int .u8 t.before.x6,.int .u8 t.before.x7],.agg #[.int .u8 t.after.x0,.int .u8 t.after.x1,.int .u8 t.after.x2,.int .u8 t.after.x3,.int .u8 t.after.x4,.int .u8 t.after.x5,.int .u8 t.after.x6,.int .u8 t.after.x7],.agg cs] w' λe Iz=>e=.returned (.int .i64 e0)/\al w' Iz):
 Calls prog 68 #[.pointer (some ⟨b,0,none⟩),.agg cs] w λe w'=>e=.returned (.int .i64 (uk t e0))/\At w' b (p9 t e0)/\Kept (·=b) w w':=by
 unfold uk
 by_cases h:dL t 0 true=0
 .rw [ak h];exact Sb b t cs e0 w ht kL hn h hk
 .rw [af h,show p9 t e0=t from af (λx=>h x.1)]
  refine(WS b t cs w ht rU).mono ?_;rintro e w' ⟨rfl,hx⟩;exact⟨rfl,bX ht hx,Kept.ext hx⟩
attribute [go_sem] abT
theorem Q7:prog.eqGuardType prog.depth 197=false:=by kernel_rfl
theorem SU:prog.stoodInHeld 197=false:=by kernel_rfl
attribute [go_sem] Q7 SU
abbrev Rt.tr (r:Rt) (p:Dg) (sz:Int):Tr:=⟨r.from_,r.steps,r.ahead,r.behind,p,sz,r.turn,r.mid,r.won⟩
open Go.Deep Go.ChangeShapes Go.WideShapes
abbrev QI (wh:Int) (x:Dg) (f:Bool) (u:Value):Array Value:=#[.int .u8 wh,.int .u8 x.x0,.int .u8 x.x1,.int .u8 x.x2,.int .u8 x.x3,.int .u8 x.x4,.int .u8 x.x5,.int .u8 x.x6,.int .u8 x.x7,.bool f,u]
attribute [go_sem] QI
theorem Fq (d:Wd) (x:Wl) (sb:Nat) (s:Ws) (k:Nat) (hk:s.words=k) (h1:1<=k) (h2:k<=256) (w:World) (hS:ai w sb 74 s.cells) (hd:xQ w d x) (hlen:x.path.length=iM k) (Ju:pR s.mem x.at_ (dx x.EW) x.path=true):
 Calls prog 238 #[.agg d.cells,.pointer (some ⟨sb,0,none⟩)] w λe w'=>e=.returned (.bool true)/\al w w':=by
 have aF:al w _:=dM w (.cells d.cells 271);have EM:=bN w 271 d.cells;have kB:=ai.alloc hS (.cells d.cells 271);obtain⟨pb,po,hp⟩:=hd.path;obtain⟨Hk,hHk⟩:=nm' (iM k);have yq:d.pn=Hk:=by rw [hp.len,hlen,hHk]
 have ahu:pR s.mem d.at_ (dx d.EW) x.path=true:=by rw [hd.at_,hd.EW];exact Ju
 have⟨HP,HHK,lj⟩:=J3' hp hHk ahu;have hkI:s.words=(k:Int):=hk;clear hp hlen hHk Ju ahu hd hk;obtain⟨dat,O2,QO,QR,QP⟩:=d;obtain⟨spc,acK,Xq,afd,aiY,Dt,Ap,Du,Ea,vR,Dv,CI,qF,Dw⟩:=s;simp only at yq hkI lj;subst yq hkI;go_enter func238,ntmps238;go_upto_region 1 with(fail);generalize (w.alloc (.cells (Wd.cells ⟨dat,O2,QO,QR,QP⟩) 271))=W at aF EM kB⊢;generalize (w:World).heap.size=p at EM⊢;refine fH (λw2=>al W w2) [(0,2),(1,1),(2,2),(3,2),(4,1),(5,0),(6,2),(7,2),(8,2),(9,1),(10,2),(11,1),(12,2),(13,1),(15,2),(16,1),(14,0),(17,0),(18,2),(19,2)] ?_;refine fI ?_
 repeat first|refine cx ?_|refine de fU zb4 ?_|refine dc fU ?_
 have yW:al W W.drew:=(kR _ W).drew;refine au (λK hK=>?_);go_simp;go_wp21;refine(sr k h1 ad _).mono ?_;rintro e w1 ⟨rfl,rfl⟩;rw [<-HHK.o];refine hK.out _ _ (λ_=>yW) ?_;clear hK K
 repeat first|refine cx ?_|refine de yW zb4 ?_|refine dc yW ?_
 refine au (λK hK=>?_);go_simp;go_wp21;refine aoS (vB O2 _) λw2 bd=>?_;have y2:al W w2:=yW.trans bd;refine hK.out _ _ (λ_=>y2) ?_;clear hK K;refine tj ?_;intro K hK;go_wp21;refine aoS (CJ afd dat (dx O2) (vz _) QO pb po QR QP x.path _ (HP.o.ext (aF.trans y2))) λw3 dv=>?_;rw [lj.o];have y3:al W w3:=y2.trans dv;refine hK.out _ _ (λ_=>y3) ?_;clear hK K;refine fx ?_;go_wp21;go_ret;exact⟨rfl,aF.trans y3⟩
theorem OV (A:Option Addr) (n c:Nat) (ls:List Wl) (w:World) (hp:gi w A n ls) (hn:n<=4):
 Calls prog 239 #[.slice A n c] w λe w'=>IM w w' e (ls.map Wl.at_):=by
 obtain⟨It,b,off,ds,h1,h2,h3,h4⟩:=hp;have⟨uA,HD,H1,H2,H4⟩:=J5' It h4.len h1 h2 h4;clear It h1 h2 h3 h4;go_enter func239,ntmps239;go_wp2_with fail
 go_loopw [3,8] (λt3 t8 wr=>∃(j:Nat),j<=n/\t8=.int .i64 j/\wr.ownsRow w.heap.size 3 1 t3 j (ints ((ls.take j).map Wl.at_))/\al w wr) (λ_ t8 _=>n - (intOf t8).toNat)
 case atStart=>exact⟨0,by omega,rfl,World.ownsRow_nil _ _ _ _,kR _ _⟩
 case round=>
  obtain⟨j,hj,rfl,ho,hx⟩:=hrel
  by_cases aP:j<n
  .have d_:j<ls.length:=by have:=uA.o;omega
   have VF:j<ds.length:=by have:=HD.o;omega
   have gD:(j:Int)<n:=by omega
   obtain rfl:=H1.o ad;have aE:=(H2.o ad).ext hx;obtain⟨VY,LF⟩:=aE.wd j VF;have qB:=aE.lt;have l7:=(H4.o.get j VF d_).at_;obtain⟨d,Vw⟩:=nm' (ds[j]);rw [<-Vw]at LF l7;have IB:=J l7;have HO:=J ho;clear aE Vw l7 ho;go_upto_region 5 with(fail);have x1:=hx.alloc (.cells d.cells 271);have hW:=bN wr 271 d.cells;have xk:=HO.o.alloc (.cells d.cells 271);have pW:∀i,i<w.heap.size->(u3:Value).ownBlock=some i->False:=λi hi e=>by have:=(HO.o.lt i e).1;omega
   have qw:=J pW;have HO5:=J xk;clear xk HO pW;generalize hgW:(wr.alloc (.cells d.cells 271))=W at x1 hW HO5⊢;generalize (wr:World).heap.size=p at hW⊢;clear hgW VY LF;have d1:=bC hW;have d2:=hW.lt;go_step
   iterate 4 refine kE ?_
   have hsz:w.heap.size<=W.heap.size:=x1.size;obtain⟨v2,w2,iV,mq,eV⟩:=AQ (W.alloc (.cells #[.int .i64 d.at_] 3)) _ _ _ ((ls.take j).map Wl.at_) (HO5.o.alloc _) W.heap.size 0 1 1 [d.at_] rfl (by simpa [ints]using Row.cF (bN W 3 #[.int .i64 d.at_])) ad kr;refine cj rfl (.tmp 12) (.tmp 15) 35 rfl rfl rfl rfl iV ?_;have k2:Kept (λi=>(u3:Value).ownBlock=some i) W w2:=(dM W _).trans eV
   have JE:w2.ownsRow w.heap.size 3 1 v2 (j+1) (ints ((ls.take (j+1)).map Wl.at_)):=by
    rw [List.take_succ_eq_append_getElem d_,qy];have:=mq;rw [IB.o]at this;exact this
   have HO3:=J JE;clear iV mq JE d1;go_wp2_with fail;go_roundw
   case rel=>exact⟨j+1,aP,by go_num,HO3.o,x1.trans' k2 qw.o⟩
   case measure=>simp only [intOf];omega
  .have ej:j=n:=by omega
   subst ej;have e1:(ls.take j)=ls:=kI (Nat.le_of_eq uA.o.symm);rw [e1]at ho;have e2:(ls.map Wl.at_).length=j:=by simp [uA.o]
   have HO:=J ho;have HE:=J e2;clear ho e1 e2;go_wp2_with fail;go_ret;exact⟨_,rfl,by rw [HE.o];exact HO.o,hx⟩
theorem Qc {c:Bool} {p q:Prop} (hc:c=true) (h:p):if c=true then p else q:=by rw [ak hc];exact h
theorem zm {P:Program} {o:Oper} {a:Act} {w:World} {K:Act->World->Prop} {Q:Exit->Act->World->Prop} (x y:Operand) (T:TypeId) (ho:o.op=.makeSlice T x y) {v s:Value} {w':World} (hx:a.eval x=v) (hy:a.eval y=s)
 (dz:(Instr.makeSlice T v s).run P w=.ok v' w') (h:K (a.put o.dst v') w'):Oper.wp P o a w K Q:=by
 unfold Oper.wp execOp;simp only [ho,Sem.run_bind,Sem.run_pure,Result.andThen_ok,hx,hy,dz];exact h
theorem aiD (n:Nat):(madeCells #[.int .i32 0] n)=(bj (List.replicate n 0)).toArray:=by
 apply Array.ext
 .simp [madeCells,bj]
 .intro i h1 h2
  simp [madeCells,bj,Nat.mod_one]
theorem PH (w:World) (n:Nat) (h:n<=100000):
 ∃w',(Instr.makeSlice 40 (.int .i64 (n:Int)) (.int .i64 (n:Int))).run prog w=.ok (.slice (some ⟨w.heap.size,0,none⟩) n n) w'/\ai w' w.heap.size 21 (bj (List.replicate n 0)).toArray/\al w w':=by
 obtain⟨i,hi,hz,h1,h2⟩:=info_parts Gp;have hr:=run_makeSlice (P:=prog) w 40 21 i _ underlying40 hi hz .i64 .i64 n n ad (Int.le_refl _) (by rw [h1];simp;omega) Tk ad;simp only [rc]at hr;rw [h1,Nat.mul_one]at hr;refine⟨_,hr,?_,dM w _⟩;have:(madeCells (Value.int .i32 0).cells n)=(bj (List.replicate n 0)).toArray:=aiD n;rw [this];exact bN w _ _
theorem JL (n:Nat):db (List.replicate n ⟨0,0,0,0⟩)=List.replicate (n*4) (.int .i64 0):=by
 induction n with
 |zero=>simp [db]
 |succ n ih=>rw [List.replicate_succ,show(n+1)*4=4+n*4 by omega,<-List.replicate_append_replicate,<-ih];rfl
theorem aiC (n:Nat):(madeCells (Ins.cells ⟨0,0,0,0⟩) (n*4))=(db (List.replicate n ⟨0,0,0,0⟩)).toArray:=by
 rw [JL];apply Array.ext
 .simp [madeCells]
 .intro i h1 h2
  have h8:i%4<4:=Nat.mod_lt _ ad;simp only [madeCells,List.getElem_toArray,List.getElem_replicate,Array.getElem_map,Array.getElem_range];show((Ins.cells ⟨0,0,0,0⟩)[i%4]!)=_;generalize i%4=j at h8
  rcases(by omega:j=0∨j=1∨j=2∨j=3)with rfl|rfl|rfl|rfl<;>rfl
theorem aiF (w:World) (n:Nat) (h:n<=100000):
 ∃w',(Instr.makeSlice 48 (.int .i64 (n:Int)) (.int .i64 (n:Int))).run prog w=.ok (.slice (some ⟨w.heap.size,0,none⟩) n n) w'/\ai w' w.heap.size 71 (db (List.replicate n ⟨0,0,0,0⟩)).toArray/\al w w':=by
 obtain⟨i,hi,hz,h1,h2⟩:=info_parts MX;have hr:=run_makeSlice (P:=prog) w 48 71 i _ underlying48 hi hz .i64 .i64 n n ad (Int.le_refl _) (by rw [h1];simp;omega) Tk ad;simp only [rc]at hr;rw [h1]at hr;refine⟨_,hr,?_,dM w _⟩;have:(madeCells (Value.agg (Ins.cells ⟨0,0,0,0⟩)).cells (n*4))=(db (List.replicate n ⟨0,0,0,0⟩)).toArray:=aiC n;rw [this];exact bN w _ _
theorem EB {w:World} {base AV:Nat} {v:Value} {l:List Int} (h:w.ownsRow base 3 1 v l.length (ints l)) (h':w.ownsRow AV 3 1 v' l.length (ints l)) (hn:l.length<=100000):
 Calls prog 240 #[v,v'] w λe w'=>e=.returned (.bool true)/\al w w':=by
 obtain⟨_,ho⟩:=Ci h;obtain⟨_,oL⟩:=Ci h'
 by_cases h0:l=[]
 .subst h0
  obtain⟨a1,c1,rfl⟩:∃a1 c1,v=.slice a1 0 c1:=by
   rcases ho with⟨hv,_⟩|⟨g,c,cV,hv,_⟩
   .exact⟨_,_,hv⟩
   .exact⟨_,_,hv⟩
  obtain⟨a2,c2,rfl⟩:∃a2 c2,v'=.slice a2 0 c2:=by
   rcases oL with⟨hv,_⟩|⟨g,c,cV,hv,_⟩
   .exact⟨_,_,hv⟩
   .exact⟨_,_,hv⟩
  refine(slices_Equal_int_empty a1 a2 c1 0 c2 w ad).mono ?_;rintro e w1 ⟨rfl,rfl⟩;exact⟨rfl,kR _ _⟩
 .rcases ho with⟨_,e⟩|⟨g,c,cV,rfl,_,hc,_,_,_,ht⟩
  .exact absurd e h0
  rcases oL with⟨_,e⟩|⟨g',c',amd,rfl,_,Ad,_,_,_,ht'⟩
  .exact absurd e h0
  refine(slices_Equal_int g 0 l.length c g' 0 l.length c' l l w (cr _) (cr _) ad ad (λj hj=>by simpa using ow hc rfl ht j hj) (λj hj=>by simpa using ow Ad rfl ht' j hj)).mono ?_;rintro e w1 ⟨rfl,q,rfl⟩;exact⟨by simp,(kR _ w).drewN q⟩
theorem Wv {l:List Dg} {i:Int} (h0:0<=i) (hi:i<l.length) (h2:l.length<=4096):BX i (iM l.length)=true:=by
 have hb:=pT l.length ad h2;have e:(2:Int)^iM l.length=((2^iM l.length:Nat):Int):=by simp
 simp only [BX,gR,jP];refine⟨⟨hb.1,h0⟩,?_⟩;rw [e]
 omega
theorem A_ {l:List Dg} {i:Int} (h0:0<=i) (hi:i<l.length) (h2:l.length<=4096):pR (vI l) i (l.getD i.toNat Dg.zero) (h_ l (iM l.length) i.toNat)=true:=by
 have hl:i.toNat<l.length:=by omega
 unfold pR qG;rw [jS,Wv h0 hi h2,ak rfl,show l.getD i.toNat Dg.zero=l[i.toNat]by simp [hl],CQ l i.toNat hl h2,Bf]
 rfl
theorem Cy {m:List Int} {x:Int} (h0:0<=x) (hx:x<m.length) (h2:m.length<=256):pR (kC m) (f_ m x).at_ (dx (f_ m x).EW) (f_ m x).path=true:=by
 have:=A_ (l:=m.map dx) (i:=x) h0 (by simpa using hx) kr;rw [gu]at this
 have e:(m.map dx).getD x.toNat Dg.zero=dx (eP m x):=by
  have hl:x.toNat<m.length:=by omega
  simp [eP,hl]
 rw [e]at this;exact this
theorem SH {m:List Int} {x v:Int} (h0:0<=x) (hx:x<m.length) (h2:m.length<=256):qG x (dx v) (f_ m x).path=kC (gV m x v):=by
 have e:(f_ m x).path=h_ (m.map dx) (iM m.length) x.toNat:=rfl;have hm:=Wv (l:=m.map dx) (i:=x) h0 (by simpa using hx) kr;rw [gu]at hm;rw [e];unfold qG;rw [jS,hm,ak rfl];exact Wz m x v h0 hx h2
theorem WA (m:List Int) (y:Nat) (v:Int):(bj m).toArray.setIfInBounds y (.int .i32 v)=(bj (m.set y v)).toArray:=by
 simp [bj,List.map_set]
theorem BL (l:List Ins) (x:Nat) (i:Ins) (hx:x<l.length):splice (db l).toArray (x*4) i.cells=(db (l.set x i)).toArray:=by
 have key:∀(l:List Ins) (x:Nat),x<l.length->(db l).take (x*4)++i.cells.toList++(db l).drop (x*4+4)=db (l.set x i):=by
  intro l
  induction l with
  |nil=>intro x hx;simp at hx
  |cons a l ih=>
   intro x hx
   cases x with
   |zero=>simp [db]
   |succ x=>
    have:=ih x (by simpa using hx);show((a.cells.toList++db l).take ((x+1)*4))++i.cells.toList++((a.cells.toList++db l).drop ((x+1)*4+4))=a.cells.toList++db (l.set x i);rw [<-this,show(x+1)*4=4+x*4 by omega,show 4+x*4+4=4+(x*4+4)by omega,List.take_append,List.drop_append,kI (l:=a.cells.toList) aB,List.drop_of_length_le (l:=a.cells.toList) aB];simp
 unfold splice
 simpa using congrArg List.toArray (key l x hx)
theorem PK {m:List Int} {x v:Int} (hm:∀z∈m,av z) (hv:av v):∀z∈gV m x v,av z:=λz hz=>by
 rcases List.mem_or_eq_of_mem_set hz with h|h
 .exact hm z h
 .rw [h];exact hv
theorem PJ {m:List Int} {x:Int} (hm:∀z∈m,av z):av (eP m x):=O6 hm _
theorem KC {m:List Int} (hm:∀z∈m,av z):∀(rs a:List Int),(∀z∈a,av z)->∀z∈nI m rs a,av z
 |[],_,ha=>ha
 |_::rs,_,ha=>KC hm rs _ (PK ha (PJ hm))
theorem JY (m rs:List Int):(rs.map (f_ m)).map Wl.at_=rs:=by
 rw [List.map_map];exact List.map_id' rs
theorem ZU (s:Ws) (l:List Ins) (n:Nat) (hn:n=l.length) (h2:n<=2048) (x:Nat) (hxn:x<n) (m:List Int) (k:Nat) (hk:k=m.length) (hg:cQ x 0 k=true) (i:Ins) (eO:cW l x m.length=some i) (MJ:l.getD x ⟨0,0,0,0⟩=i) (ie:∀z∈m,av z) (w:World) (eH:OpsAt w) (hv:nl w s (jy l x 0 m))
 (p hh:Int) (m1:List Int) (dw:gO l x m=(p,hh,m1)) (mV:0<=p/\p<=1000000) (hhb:0<=hh/\hh<=1000000):
 Calls prog 189 #[.agg s.cells,.int .i64 n] w λe w'=>e=.returned (.tuple #[.agg (mA p hh k (kC m1)).cells,.int .i64 0])/\al w w':=by
 obtain⟨k1,k2,_⟩:=cG hg;obtain⟨R,hR⟩:=nm' (mA p hh k (kC m1));rw [<-hR];have alO:=J hR;clear hR;obtain⟨rs,wx,LG⟩:∃rs wx,dm l x 0 m=(rs,wx):=⟨_,_,rfl⟩;obtain⟨ub,T8,V_⟩:=xx l x 0 m;rw [LG]at ub T8 V_;simp only at ub T8 V_;rw [<-hk]at ub T8
 have hL:jy l x 0 m=⟨x,0,k,kC m,i,h_ (l.map iq) (iM l.length) x,rs.map (f_ m),if 0<=wx then [f_ m wx]else []⟩:=by
  unfold jy;rw [af ad,LG,rc,MJ,hk]
 rw [hL]at hv;obtain⟨e1,e2,e3,e4,e5,_,vr,vw⟩:=hv;obtain⟨spc,acK,Xq,afd,aiY,Dt,Ap,Du,Ea,vR,Dv,CI,qF,Dw⟩:=s;simp only at e1 e2 e3 e4 e5 vr vw;replace e5:=e5.symm;subst e1 e2 e3 e4 e5;have hrn:vR=rs.length:=by simpa using vr.len
 have hwn:qF<=1:=by have:=vw.len;split at this<;>simp at this<;>omega
 obtain⟨M,hM⟩:=nm' (kC m);rw [<-hM];have HMM:=J hM;have HRN:=J hrn;have amT:vR<=4:=by omega
 have⟨HVR,HVW,Ub,HK,HN,wH,HLI,Zq,Uj,qT,AB,HG⟩:=J12 vr vw ub hk hn eO MJ ie eH dw LG hg;clear hL hrn vr vw ub hk hn eO MJ ie eH dw LG hM V_ hg;have x0:al w _:=(dM w (.cells (Ws.cells ⟨x,0,k,M,i,Dt,Ap,Du,Ea,vR,Dv,CI,qF,Dw⟩) 74)).alloc (.cells Dg.zero.cells 25);have kB:=ai.alloc (bN w 74 (Ws.cells ⟨x,0,k,M,i,Dt,Ap,Du,Ea,vR,Dv,CI,qF,Dw⟩)) (.cells Dg.zero.cells 25);have fz:=ai.ea (w.alloc (.cells (Ws.cells ⟨x,0,k,M,i,Dt,Ap,Du,Ea,vR,Dv,CI,qF,Dw⟩) 74)) 25 Dg.zero.cells (w.heap.size+1) aB;go_enter func189,ntmps189;go_upto_region 3 with(fail);generalize ((w.alloc (.cells (Ws.cells ⟨x,0,k,M,i,Dt,Ap,Du,Ea,vR,Dv,CI,qF,Dw⟩) 74)).alloc (.cells Dg.zero.cells 25))=W0 at x0 kB fz⊢;obtain⟨sb,EU⟩:=nm' w.heap.size;rw [<-EU]at kB fz⊢;have Yy:=J EU;clear EU;refine WU (λw2=>al W0 w2) (.op 0 2 (.op 1 1 (.op 2 2 (.op 3 1 (.op 5 2 (.op 6 1 (.fork 4 (.op 7 2 (.op 8 0 (.op 9 0 .nil))) 8 (.op 4 0 (.op 7 2 (.op 9 0 .nil)))))))))) ?_;refine WV ?_
 (repeat (first|refine nV ?_|((apply c_);(· exact fU);(· go_simp);(· (intro w1 hS;have d1:=bC (bX kB hS);have d2:=(bX kB hS).lt;go_simp;try with_reducible rfl));refine iJ ?_)|((apply cZ);(· exact fU);(· go_simp);refine iJ ?_)))
 have y:al W0 W0.drew:=(kR _ W0).drew;refine gQ ?_ ?_
 .obtain⟨w1,ET,Z6,aw⟩:=PH W0.drew k ad
  refine ci (λK hK=>?_);refine Qc rfl ?_;refine zm (.tmp 25) (.tmp 25) 40 rfl rfl rfl ET ?_;have y1:al W0 w1:=y.trans aw;refine hK.out _ _ (λ_=>y1) ?_;clear hK K ET;have Bz:W0.heap.size<=W0.drew.heap.size:=cr _;generalize W0.drew.heap.size=gm at Z6 Bz⊢;have lG:=Z6.lt;refine ww ?_;intro K hK;refine hK.out _ _ (λ_=>Kept.alloc y1 _) ?_;clear hK K;refine LL ?_;have x1:al W0 _:=Kept.alloc y1 (.cells (ae x (some ⟨gm,0,none⟩) k k 0) 47);have hP:=bN w1 47 (ae x (some ⟨gm,0,none⟩) k k 0);have hG:=ai.alloc Z6 (.cells (ae x (some ⟨gm,0,none⟩) k k 0) 47);have mW:W0.heap.size<=w1.heap.size:=y1.size;generalize (w1.alloc (.cells (ae x (some ⟨gm,0,none⟩) k k 0) 47))=W at x1 hP hG⊢;obtain⟨pb,VU⟩:=nm' w1.heap.size;rw [<-VU]at hP mW⊢;have iF:¬pb=gm:=by omega
  clear VU lG Z6;exact acP
 .refine ci (λK hK=>?_);go_simp
  have y0:al W0 (W0.alloc (.cells (ae 0 none 0 0 0) 47)).drew:=(dM W0 _).drew;have hP0:=ai.drew (bN W0 47 (ae 0 none 0 0 0));refine hK.out _ _ (λ_=>y0) ?_;clear hK K
  repeat refine nV ?_
  obtain⟨w1,ET,Z6,aw⟩:=PH (W0.alloc (.cells (ae 0 none 0 0 0) 47)).drew k ad;refine ci (λK hK=>?_);refine Qc rfl ?_;refine zm (.tmp 25) (.tmp 25) 40 rfl rfl rfl ET ?_;have y1:al W0 w1:=y0.trans aw;refine hK.out _ _ (λ_=>y1) ?_;clear hK K ET;have Bz:W0.heap.size<(W0.alloc (.cells (ae 0 none 0 0 0) 47)).drew.heap.size:=by show _<(W0.alloc _).heap.size;simp
  have Ac:=bX hP0 aw;generalize (W0.alloc (.cells (ae 0 none 0 0 0) 47)).drew.heap.size=gm at Z6 Bz⊢;have lG:=Z6.lt;have i1:=bH Ac;have i2:=ai.aC Ac;have i3:=ai.lt Ac;refine LL ?_;have x1:al W0 (putAt w1 W0.heap.size 0 (ae x (some ⟨gm,0,none⟩) k k 0)):=Kept.putAt y1 _ _ _ (λh=>by omega);have hP:ai (putAt w1 W0.heap.size 0 (ae x (some ⟨gm,0,none⟩) k k 0)) W0.heap.size 47 (ae x (some ⟨gm,0,none⟩) k k 0):=ai.cw Ac _ _;have hG:=bK Z6 (Kept.putAt (kR (·=W0.heap.size) w1) W0.heap.size 0 (ae x (some ⟨gm,0,none⟩) k k 0) (λ_=>rfl)) ad;generalize (putAt w1 W0.heap.size 0 (ae x (some ⟨gm,0,none⟩) k k 0))=W at x1 hP hG⊢;obtain⟨pb,VU⟩:=nm' W0.heap.size;have mW:W0.heap.size<=pb:=by omega
  have iF:¬pb=gm:=by omega
  replace Bz:W0.heap.size<=gm:=by omega
  rw [<-VU]at hP⊢;clear VU lG Z6 i1 i2 i3 hP0 Ac;exact acP
