/- Several texts joined: Jy, La, Lb. -/
import Derived.Test.YtbfbabbcdochjaaGreatDoorRmpk
import Derived.Test.YtbfbabbcdochjaaGreatDoorRmbj
set_option maxHeartbeats 4000000
set_option maxRecDepth 100000
open Go.Proofs.Tryz
namespace Go.Proofs.YtbfbabbcdochjaaGreatDoor
open Go.RowKit So Mc
def vX (i:Nat) (R:RS):Ou:=
 if R.refused=true then⟨[],true,0,0,0,[],0⟩else if i=1 then⟨[],false,R.seat,0,0,[],0⟩else if i=4 then⟨[],false,0,0,0,R.asks,R.rest⟩
 else if i=2 then⟨R.vars,false,0,R.cell,R.sides,[],0⟩else⟨R.vars,false,0,0,0,[],0⟩
theorem RZ {p:Pr} (hk:tF p) (i:Nat) {R:RS} {m:List Int} (h:nG (RU p) R m):tu p i (if R.refused then 2 else 1) m=vX i R:=by
 have h0:=dS p.vars;have hkc:(jO p:Int)=cells p.vars:=by unfold jO;omega
 have hl:(m.length:Int)=cells p.vars+49:=h.len;have hvl:(R.vars.length:Int)=cells p.vars:=h.kE;have hal:(R.asks.length:Int)=p.seats:=h.lZ;have hs:=hk.seats
 have g:∀j:Nat,m.getD (jO p+j) 0=aV m (cells p.vars+j):=λj=>by
  unfold aV
  congr 1
  omega
 have hv:m.take (jO p)=R.vars:=by
  refine List.ext_getElem (by rw [List.length_take];omega) (λj h1 h2=>?_);have hj:=h.vars j aj (by show(j:Int)<cells p.vars;omega);unfold aV at hj;simp only [Int.toNat_natCast]at hj;rw [List.getElem_take];have e1:m.getD j 0=m[j]'(by omega):=by simp [show j<m.length by omega]
  have e2:R.vars.getD j 0=R.vars[j]:=by simp [h2]
  rw [<-e1,hj,e2]
 have ha:(m.drop (jO p+8)).take p.seats.toNat=R.asks:=by
  refine List.ext_getElem (by rw [List.length_take,List.length_drop];omega) (λj h1 h2=>?_);have hj:=(h.asks j aj (by show(j:Int)<p.seats;omega)).1;rw [List.getElem_take,List.getElem_drop];have e1:m.getD (jO p+8+j) 0=m[jO p+8+j]'(by omega):=by simp [show jO p+8+j<m.length by omega]
  have e2:R.asks.getD j 0=R.asks[j]:=by simp [h2]
  have e3:aV m (cells p.vars+8+j)=m.getD (jO p+8+j) 0:=by unfold aV;congr 1;omega
  have hj':aV m (cells p.vars+8+j)=R.asks.getD j 0:=by have:=hj;simpa using this
  rw [<-e1,<-e3,hj',e2]
 unfold tu vX
 cases hr:R.refused with
 |true=>simp
 |false=>
  simp only [Bool.false_eq_true,if_false,show¬(1:Int)=2 by decide];rw [g 4,g 7,g 5,g 6,hv,ha,show aV m (cells p.vars+(4:Nat))=R.seat from h.seat,show aV m (cells p.vars+(7:Nat))=R.rest from h.rest,show aV m (cells p.vars+(5:Nat))=R.cell from h.cell,show aV m (cells p.vars+(6:Nat))=R.sides from h.sides]
theorem qy (cb N:Nat) (k:Cd) (p:Pr) (i:Nat) (hi:i<5) (vs ag:jg) (V Ar:List Int) (w:World) (hN:N<=w.heap.size) (hC:jZ w N cb k p) (hv:j5 w N vs V) (ha:j5 w N ag Ar) (hk:tF p) (hl:¬rT p) (hst:∀i,i<5->bB p i<=65536) (hops:OpsAt w) (hf:dO p i V Ar=0):
 Calls prog 15 #[.pointer (some ⟨cb,0,none⟩),.int .i64 (i:Nat),vs.v,ag.v] w λe w'=>Ext w w'/\∃v,e=.returned (.tuple #[.agg v.c,.int .i64 0])/\jE w w' v (vX i (iG p i V Ar)):=by
 refine(xY cb N k p i vs ag V Ar w hN hC hv ha hk hl hst hops).mono ?_;rintro e w' ⟨hx,ho⟩;refine⟨hx,?_⟩;obtain⟨pc,m,hls,hci⟩:=R7 hk i hi (hst i hi) hf hv.2.1 ha.2.1
 cases ho with
 |bad h=>exact absurd hf h
 |runs K hK h hh=>
  have:K=i:=by omega
  subst this;rw [hls]at hh;have hh:(if (iG p K V Ar).refused=true then(2:Int)else 1)=0:=hh
  split at hh<;>omega
 |ok K hK h hh v hv=>
  have:K=i:=by omega
  subst this;rw [hls]at hv;refine⟨v,rfl,?_⟩;rw [<-RZ hk K hci];exact hv
theorem Gj {v:Vr} (h1:au v.low) (h2:au v.high) (h3:v.low<=v.high) (n:Int):v.low<=jH v n/\jH v n<=v.high/\au (jH v n):=by
 unfold jH;have a:=Int.emod_nonneg (n%18446744073709551616) (show v.high - v.low+1≠0 by omega);have b:=Int.emod_lt_of_pos (n%18446744073709551616) (show 0<v.high - v.low+1 by omega);generalize n%18446744073709551616%(v.high - v.low+1)=y at a b;unfold au at*
 omega
theorem Ij {p:Pr} {i:Nat} {V:List Int} (h:∀x∈V,au x):∀x∈wM p i V,au x:=λx hx=>by
 unfold wM at hx
 split at hx
 ·simp at hx
 ·obtain⟨j,-,e⟩:=List.mem_map.1 hx
  rw [<-e];exact nK h j
theorem Ii {p:Pr} (hk:tF p) {i:Nat} {A:List Int} (h:∀x∈A,au x):∀x∈uj p i A,au x:=λx hx=>by
 unfold uj at hx;obtain⟨j,hj,e⟩:=List.mem_map.1 hx;rw [List.mem_range]at hj;rw [<-e];unfold argN
 split
 ·rename_i e2
  have hj':j<p.params.length:=by unfold dZ at hj;rw [if_pos aj]at hj;exact hj
  obtain⟨-,-,a1,a2,a3⟩:=(Ef (fB p.vars) p.params [] hk.aaY).1 p.params[j] (List.getElem_mem hj');rw [show(p.params[j]?).getD ⟨E0,0,0,0⟩=p.params[j]by simp [hj']];exact(Gj a1 a2 a3 _).2.2
 ·exact nK h j
theorem DR {p:Pr} (hk:tF p) {i:Nat} (hi:i<5) (V A:List Int):dO p i (wM p i V) (uj p i A)=0:=by
 have h0:=dS p.vars;have hkc:(jO p:Int)=cells p.vars:=by unfold jO;omega
 have h1:((wM p i V).length:Int)=gK p i:=by
  unfold wM gK
  by_cases e:i=0
  ·rw [if_pos e,if_pos aj];rfl
  ·rw [if_neg e,if_neg aj,List.length_map,List.length_range];exact hkc
 have h2:(uj p i A).length=dZ p i:=by unfold uj;rw [List.length_map,List.length_range]
 unfold dO;rw [if_neg aj,if_neg (by rw [h1,h2];simp)]
 by_cases e:i=2
 ·subst e
  have hb:BH p.params (uj p 2 A)=false:=wG (λj a b=>by
   obtain⟨-,-,a1,a2,a3⟩:=(Ef (fB p.vars) p.params [] hk.aaY).1 p.params[j] (List.getElem_mem a)
   have e:(uj p 2 A)[j]=jH p.params[j] (A.getD j 0):=by
    simp only [uj,List.getElem_map,List.getElem_range,argN,if_true];rw [show(p.params[j]?).getD ⟨E0,0,0,0⟩=p.params[j]by simp [a]]
   rw [e];have:=Gj a1 a2 a3 (A.getD j 0)
   omega)
  rw [hb,if_neg aG]
 ·rw [if_neg aj]
open Go.RowKit So Mc
theorem Rh:jQ prog 95=true:=by kernel_rfl
theorem JJ:sizeT prog 95=some 20:=by kernel_rfl
theorem MG {dst:Option Tmp} {ty':TypeId} {x:Operand} {pos:String} {after:Array Edge} {guard:Option (Nat×Bool)} {a:Act} {w:World} {K:Act->World->Prop} {Q:Exit->Act->World->Prop} (hx:iy (a.eval x)=true) (hh:has w (bE (a.eval x)) (bJ (a.eval x)) 20=true):
 Oper.wp prog {dst:=dst,op:=.load 95 x,type:=ty',pos:=pos,after:=after,guard:=guard} a w K Q=K (a.put dst (.agg (gets w (bE (a.eval x)) (bJ (a.eval x)) 20))) w:=dJ 20 Rh JJ hx hh
theorem UO {ρ:Operand->Value} {dst:Option Tmp} {ty':TypeId} {x:Operand} {pos:String} {after:Array Edge} {guard:Option (Nat×Bool)} {w:World} (hx:iy (ρ x)=true) (hh:has w (bE (ρ x)) (bJ (ρ x)) 20=true):
 (execOp ρ {dst:=dst,op:=.load 95 x,type:=ty',pos:=pos,after:=after,guard:=guard}).run prog w=.ok (.value (.agg (gets w (bE (ρ x)) (bJ (ρ x)) 20))) w:=aZ 20 Rh JJ hx hh
theorem TY (w:World) (g off:Nat) (hh:has w g off 20=true):(loadVar 95 ⟨g,off,none⟩).run prog w=.ok (.agg (gets w g off 20)) w:=jy prog w _ g off 20 Rh JJ hh
attribute [go_sem] Rh JJ
attribute [go_sem↓high] MG TY UO
attribute [go_sem high] MG
theorem xP:jQ prog 98=true:=by kernel_rfl
theorem vG:sizeT prog 98=some 2:=by kernel_rfl
theorem Bh {dst:Option Tmp} {ty':TypeId} {x:Operand} {pos:String} {after:Array Edge} {guard:Option (Nat×Bool)} {a:Act} {w:World} {K:Act->World->Prop} {Q:Exit->Act->World->Prop} (hx:iy (a.eval x)=true) (hh:has w (bE (a.eval x)) (bJ (a.eval x)) 2=true):
 Oper.wp prog {dst:=dst,op:=.load 98 x,type:=ty',pos:=pos,after:=after,guard:=guard} a w K Q=K (a.put dst (.agg (gets w (bE (a.eval x)) (bJ (a.eval x)) 2))) w:=dJ 2 xP vG hx hh
theorem JC {ρ:Operand->Value} {dst:Option Tmp} {ty':TypeId} {x:Operand} {pos:String} {after:Array Edge} {guard:Option (Nat×Bool)} {w:World} (hx:iy (ρ x)=true) (hh:has w (bE (ρ x)) (bJ (ρ x)) 2=true):
 (execOp ρ {dst:=dst,op:=.load 98 x,type:=ty',pos:=pos,after:=after,guard:=guard}).run prog w=.ok (.value (.agg (gets w (bE (ρ x)) (bJ (ρ x)) 2))) w:=aZ 2 xP vG hx hh
theorem IC (w:World) (g off:Nat) (hh:has w g off 2=true):(loadVar 98 ⟨g,off,none⟩).run prog w=.ok (.agg (gets w g off 2)) w:=jy prog w _ g off 2 xP vG hh
attribute [go_sem] xP vG
attribute [go_sem↓high] Bh IC JC
attribute [go_sem high] Bh
theorem wV (b:Bool) (w:World):Calls prog 155 #[.bool b] w λe w'=>e=.returned (.int .i32 (bR b))/\w=w':=by
 go_enter func155,ntmps155;go_wp2_with fail
 all_goals go_ret
 all_goals simp [bR, *]
theorem JL (x:Int):wrap32 (wrap64 x)=w32 x:=by
 simp only [nO];unfold wrap32 wrap64
 omega
theorem Sn (x:Int):wrap32 x=w32 x:=by
 simp only [nO];unfold wrap32
 omega
theorem lK {a b:Int} (h:a=b):Ending.returned (.int .i32 a)=.returned (.int .i32 b):=by rw [h]
theorem AL (a b:Int) (ha:au a) (hb:au b) (w:World):Calls prog 172 #[.int .i32 a,.int .i32 b] w λe w'=>e=.returned (.int .i32 (KO a b))/\w=w':=by
 unfold au at ha hb
 by_cases h0:b=0
 ·subst h0
  go_enter func172,ntmps172;go_wp2_with fail;go_ret;exact⟨rfl,rfl⟩
 ·have hq:(b==0)=false:=by simp [h0]
  go_enter func172,ntmps172;go_wp2_with fail;go_ret;refine⟨lK ?_,rfl⟩;unfold KO;rw [if_neg h0,JL]
theorem aar (a b:Int):au (KO a b):=by unfold KO;split;(unfold au;omega);exact lM _
theorem GU (op a b:Int) (ho:5<=op/\op<=17) (ha:au a) (hb:au b) (w:World):Calls prog 154 #[.int .i64 op,.int .i32 a,.int .i32 b] w λe w'=>e=.returned (.int .i32 (join op a b))/\w=w':=by
 obtain⟨v,hv⟩:∃v,v=join op a b:=⟨_,rfl⟩;rw [<-hv];have HV:=J hv;clear hv;have HA:=J ha;have HB:=J hb;unfold au at ha hb
 rcases(by omega:op=5∨op=6∨op=7∨op=8∨op=9∨op=10∨op=11∨op=12∨op=13∨op=14∨op=15∨op=16∨op=17)with rfl|rfl|rfl|rfl|rfl|rfl|rfl|rfl|rfl|rfl|rfl|rfl|rfl
 ·go_enter func154,ntmps154
  go_wp2_with fail;go_ret;refine⟨lK ?_,rfl⟩;rw [HV.out,JL]
  rfl
 ·go_enter func154,ntmps154
  go_wp2_with fail;refine(AL a b HA.out HB.out _).mono ?_;rintro e w1 ⟨rfl,rfl⟩;go_wp2_with fail;go_ret;exact⟨lK HV.out.symm,rfl⟩
 ·by_cases h0:b=0
  ·have hq:(b==0)=true:=by simp [h0]
   have HZ:=J h0;clear h0;go_enter func154,ntmps154;go_wp2_with fail;go_ret;refine⟨lK ?_,rfl⟩;rw [HV.out];simp [join,HZ.out]
  ·have hq:(b==0)=false:=by simp [h0]
   have HZ:=J h0;have hd:=aar a b;unfold au at hd;go_enter func154,ntmps154;go_wp2_with fail;refine(AL a b HA.out HB.out _).mono ?_;rintro e w1 ⟨rfl,rfl⟩;go_wp2_with fail;go_ret;refine⟨lK ?_,rfl⟩;rw [HV.out];have hj:join 7 a b=w32 (a - KO a b*b):=by simp [join,HZ.out]
   rw [hj,<-JL];simp only [wrap32,wrap64]
   omega
 ·go_enter func154,ntmps154
  go_wp2_with fail;go_ret;refine⟨lK ?_,rfl⟩;rw [HV.out];exact Sn _
 ·go_enter func154,ntmps154
  go_wp2_with fail;go_ret;refine⟨lK ?_,rfl⟩;rw [HV.out];exact Sn _
 ·go_enter func154,ntmps154
  exact VE
 ·go_enter func154,ntmps154
  exact VE
 ·go_enter func154,ntmps154
  exact VE
 ·go_enter func154,ntmps154
  exact VE
 ·go_enter func154,ntmps154
  exact VE
 ·go_enter func154,ntmps154
  exact VE
 ·rw [show join 16 a b=bR (a !=0&&b !=0)from rfl]at HV
  go_enter func154,ntmps154;go_wp2_with fail
  all_goals
   exact ajF
 ·rw [show join 17 a b=bR (a !=0||b !=0)from rfl]at HV
  go_enter func154,ntmps154;go_wp2_with fail
  all_goals
   exact ajF
theorem uE (n lo hi:Int) (w:World):Calls prog 69 #[.int .i64 n,.int .i64 lo,.int .i64 hi] w λe w'=>e=.returned (.int .i32 (mh n lo hi))/\w=w':=by
 go_enter func69,ntmps69;go_wp2_with fail;go_ret;exact⟨lK (Sn _),rfl⟩
open Go.RowKit So Mc
abbrev Cj (x:Str×Int):Array Value:=#[.string x.1,.int .i32 x.2]
abbrev rmC (c:Pc) (vA:Option Addr) (vn vc:Nat) (bA:Option Addr) (bn bc:Nat) (aA:Option Addr) (an ac:Nat) (R:RS):Array Value:=
 #[.string c.name,.int .i64 c.seats,.slice c.bY.A c.bY.n c.bY.c,.slice c.vars.A c.vars.n c.vars.c,.slice c.start.A c.start.n c.start.c,.slice c.turn.A c.turn.n c.turn.c,.slice c.params.A c.params.n c.params.c,.slice c.play.A c.play.n c.play.c,.string c.silent,.slice c.quiet.A c.quiet.n c.quiet.c,.slice c.pays.A c.pays.n c.pays.c,
  .slice vA vn vc,.slice bA bn bc,.bool R.over,.bool R.refused,.int .i64 R.seat,.int .i64 R.cell,.int .i64 R.sides,.slice aA an ac,.int .i64 R.rest]
attribute [go_sem] rmC
structure Rx where (B N mb:Nat) (c:Pc) (p:Pr) (vA:Option Addr) (vn vc:Nat) (aA:Option Addr) (an ac:Nat)
abbrev Rx.v (x:Rx):Value:=.slice x.vA x.vn x.vc
abbrev Rx.a (x:Rx):Value:=.slice x.aA x.an x.ac
def Rx.S (x:Rx) (i:Nat):Prop:=i=x.mb∨x.v.ownBlock=some i∨x.a.ownBlock=some i
structure jJ (x:Rx) (w:World) (R:RS):Prop where
 box:∃bA bn bc,aH w x.mb 95 (rmC x.c x.vA x.vn x.vc bA bn bc x.aA x.an x.ac R)/\w.ownsRow x.B 98 2 (.slice bA bn bc) bn (aR Cj R.binds)
 vars:w.ownsRow x.B 21 1 x.v x.vn (aM R.vars)
 asks:w.ownsRow x.B 21 1 x.a x.an (aM R.asks)
 prog:lT w x.N x.c x.p
 sep:∀g,x.v.ownBlock=some g->¬x.a.ownBlock=some g
 hN:x.N<=x.B
 hB:x.B<=w.heap.size
 GA:x.B<=x.mb
 len:R.binds.length<=100
theorem jJ.ext {x:Rx} {w w':World} {R:RS} (h:jJ x w R) (hx:Ext w w'):jJ x w' R:=by
 obtain⟨bA,bn,bc,h1,h2⟩:=h.box;exact⟨⟨bA,bn,bc,h1.ext hx,bD h2 hx⟩,bD h.vars hx,bD h.asks hx,h.prog.kept hx (Nat.le_trans h.hN h.hB) (λ_ q=>q.elim),h.sep,h.hN,Nat.le_trans h.hB hx.size,h.GA,h.len⟩
structure RInv (V:List Vr) (seats:Int) (κ:Kn) (R:RS):Prop where
 le3:∀s,κ s<=3
 one:∀s,κ s=1->0<=aS V s/\aS V s<R.vars.length
 two:∀s,κ s=2->0<=aS V s/\aS V s+(aD V s).size<=R.vars.length
 fix:∀s,κ s=3->∃v,iq R.binds s=some v
 J2:∀v∈R.vars,au v
 kE:R.vars.length<=64
 bok:∀b∈R.binds,au b.2
 hs:2<=seats/\seats<=8
 lZ:(R.asks.length:Int)=seats
 Kw:∀v∈R.asks,0<=v/\v<=1073741823
theorem WS {l:List (Str×Int)} {s:Str} {j:Nat} (hj:j<l.length) (hno:∀x∈l.take j,¬x.1=s) (he:l[j].1=s):iq l s=some l[j].2:=by
 unfold iq;have h:l=l.take j++l[j]::l.drop (j+1):=by rw [<-List.drop_eq_getElem_cons hj,List.take_append_drop]
 have:l.find? (λx=>decide (x.1=s))=some l[j]:=by
  conv=>lhs;rw [h]
  rw [List.find?_append,List.find?_eq_none.2 (λx hx=>by simpa using hno x hx),List.find?_cons_of_pos (by simpa using he)]
  rfl
 rw [this]
 rfl
theorem Oh {l:List (Str×Int)} {s:Str} (hno:∀x∈l,¬x.1=s):iq l s=none:=by
 unfold iq;rw [List.find?_eq_none.2 (λx hx=>by simpa using hno x hx)]
 rfl
theorem agr {w:World} {b off:Nat} {l:List (Str×Int)} (h:Row w b off (aR Cj l)) (j:Nat) (hj:j<l.length):w.cell? ⟨b,off+j*2,none⟩=some (.string l[j].1)/\w.cell? ⟨b,off+j*2+1,none⟩=some (.int .i32 l[j].2):=by
 obtain⟨h1,h2⟩:=vC (f:=Cj) (k:=2) (λ_=>rfl) h j hj;exact⟨iP h1 h2 0 aj,iP h1 h2 1 aj⟩
theorem Pt {w:World} {base:Nat} {A:Option Addr} {n cp:Nat} {l:List (Str×Int)} (h:w.ownsRow base 98 2 (.slice A n cp) n (aR Cj l)):n=l.length/\∃g,(0<n->A=some ⟨g,0,none⟩/\Row w g 0 (aR Cj l)):=by
 have hl:=h.1;rw [iV (k:=2) (λ_=>rfl)]at hl;refine⟨by omega,?_⟩
 by_cases h0:0<n
 ·obtain⟨g,c,hv,hr,-⟩:=gu h h0 aj
  injection hv with hv;exact⟨g,λ_=>⟨hv,hr⟩⟩
 ·exact⟨0,λh=>absurd h h0⟩
theorem GV (x:Rx) (R:RS) (n:Int) (hn:au n) (w:World) (h:jJ x w R) (_hse:2<=x.p.seats/\x.p.seats<=8):Calls prog 120 #[.pointer (some ⟨x.mb,0,none⟩),.int .i32 n] w λe w'=>e=.returned (.int .i64 (iX x.p.seats n))/\w=w':=by
 obtain⟨bA,bn,bc,h1,-⟩:=h.box;have i1:w.cell? ⟨x.mb,1,none⟩=some (.int .i64 x.p.seats):=by rw [<-h.prog.seats];exact bC h1 1
 have i2:=h1.lt;obtain⟨v,hv⟩:∃v,v=iX x.p.seats n:=⟨_,rfl⟩;rw [<-hv];have HV:=J hv;have HW:=J (show wrap64 n=n from by unfold au at hn;unfold wrap64;omega);clear hv h h1 hn;go_enter func120,ntmps120;go_wp2_with fail
 all_goals go_ret
 all_goals
  refine⟨?_,rfl⟩;rw [HV.out];unfold iX
 ·rename_i q
  rw [if_pos (by simpa only [HW.out]using q)]
  rfl
 ·rename_i q
  have q2:¬(n<0∨x.p.seats<=n):=by rw [HW.out]at q;omega
  rw [if_neg q2];show Ending.returned (.int .i64 (wrap64 n))=_;rw [HW.out]
 ·rename_i q
  rw [if_pos (.inl q)]
  rfl
theorem UL (x:Rx) (R:RS) (s:Str) (w:World) (h:jJ x w R) (hs:(∃v,iq R.binds s=some v)∨(0<=aS x.p.vars s/\aS x.p.vars s<R.vars.length)):
 Calls prog 153 #[.pointer (some ⟨x.mb,0,none⟩),.string s] w λe w'=>e=.returned (.int .i32 (yF x.p.vars R s))/\Ext w w':=by
 obtain⟨bA,bn,bc,h1,h2⟩:=h.box;obtain⟨hn,g,hbr⟩:=Pt h2;have HH:=J h;have HB:=J h1;have HN:=J hn;have HR:=J hbr;have HS:=J hs;have amf:bn<=100:=by have:=h.len;omega
 clear h h1 h2 hn hbr hs;go_enter func153,ntmps153;go_upto_region 2 with(fail)
 go_loopw [5] (λt5 wr=>∃j:Nat,j<=bn/\t5=.int .i64 j/\(∀y∈R.binds.take j,¬y.1=s)/\w=wr) (λt5 _=>bn - (intOf t5).toNat)
 case atStart=>exact⟨0,Nat.zero_le _,rfl,by simp,rfl⟩
 case round=>
  obtain⟨j,hj,rfl,hno,rfl⟩:=hrel;have C_:=J hno;clear hno;have i1:=bC HB.out;have i2:=HB.out.lt
  by_cases hlt:j<bn
  ·have jd:(j:Int)<bn:=by omega
   have hjl:j<R.binds.length:=by have:=HN.out;omega
   obtain⟨rfl,hrow⟩:=HR.out aj;obtain⟨i3,i4⟩:=agr hrow j hjl;rw [Nat.zero_add]at i3 i4;have i5:=hrow.lt;clear hrow
   by_cases hq:R.binds[j].1=s
   ·have hb:=oG hq
    have HQ:=J (WS hjl C_.out hq);clear hq;go_wp2_with fail;go_ret;refine⟨lK ?_,kR _ _⟩;unfold yF;rw [HQ.out]
   ·have hb:=mG hq
    have HQ:=J (show∀y∈R.binds.take (j+1),¬y.1=s from λy hy=>by
     rw [List.take_succ_eq_append_getElem hjl]at hy
     rcases List.mem_append.1 hy with q|q
     ·exact C_.out y q
     ·simp at q;rw [q];exact hq)
    clear hq;go_wp2_with fail;go_roundw
    case rel=>exact⟨j+1,hlt,by go_num,HQ.out,trivial⟩
    case measure=>simp only [intOf];omega
  ·obtain rfl:j=bn:=by omega
   have hz:=Oh (l:=R.binds) (s:=s) afe;have HZ:=J hz
   have HC:=J (show 0<=aS x.p.vars s/\aS x.p.vars s<R.vars.length from by
    rcases HS.out with⟨v,q⟩|q
    ·rw [hz]at q;cases q
    ·exact q)
   clear hz;have j1:=bH HB.out;have j2:=bG HB.out;go_wp2_with fail;refine(nR x.c x.p s x.N _ (Nat.le_trans HH.out.hN HH.out.hB) HH.out.prog).mono ?_;rintro e w1 ⟨rfl,hx1⟩;have hC:=HC.out;obtain⟨k,hk⟩:∃k:Nat,aS x.p.vars s=(k:Nat):=⟨(aS x.p.vars s).toNat,by omega⟩;have hvl:=HH.out.vars.1;rw [dQ,Nat.mul_one]at hvl;obtain⟨vg,vc,hv,hrow,-⟩:=gu HH.out.vars aj ak;injection hv with J_ Fj hvc;have hrow:=hrow.ext hx1;have hcell:=Row.mem' hrow k aj;have XB:(k:Int)<x.vn:=by omega
   have hlv:=hrow.lt;unfold rA;rw [hk];have HK:=J hk;have j3:=(HB.out.ext hx1);have HB1:=J j3;have HX:=J hx1;have Hy:=J J_;clear hC hk hvl hrow Fj hvc j1 j2 i1 i2 J_;go_upto_region 7 with(fail);have i1:w1.cell? ⟨x.mb,11,none⟩=some (.slice (some ⟨vg,0,none⟩) x.vn x.vc):=by rw [<-Hy.out];exact bC HB1.out 11
   have i2:=HB1.out.lt;go_wp2_with fail;go_ret;refine⟨lK ?_,HX.out.alloc _⟩;unfold yF;rw [HZ.out,HK.out]
   rfl
end Go.Proofs.YtbfbabbcdochjaaGreatDoor
