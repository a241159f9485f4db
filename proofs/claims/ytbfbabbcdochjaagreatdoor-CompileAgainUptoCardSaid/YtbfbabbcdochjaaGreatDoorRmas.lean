/- Several texts joined: Cf, Im, Da. -/
import Derived.MapKept
import Derived.Test.YtbfbabbcdochjaaGreatDoorRmpk
import Derived.Test.YtbfbabbcdochjaaGreatDoorRmab
import Derived.Test.YtbfbabbcdochjaaGreatDoorRmar
set_option maxHeartbeats 4000000
set_option maxRecDepth 100000
open Go.Proofs.Tryz
namespace Go.Proofs.YtbfbabbcdochjaaGreatDoor.So
open Go.RowKit Mc
theorem uT (B:List (Str×Int)) (s t:Str) (v:Int) (h:iq B s=none):iq (B++[(s,v)]) t=if t=s then some v else iq B t:=by
 unfold iq at*;rw [List.find?_append]
 by_cases e:t=s
 ·subst e
  rw [if_pos rfl]
  have hn:B.find? (λx=>decide (x.1=t))=none:=by
   cases q:B.find? (λx=>decide (x.1=t))with
   |none=>rfl
   |some x=>rw [q]at h;simp at h
  rw [hn];simp
 ·rw [if_neg e]
  cases q:B.find? (λx=>decide (x.1=t))with
  |none=>simp [Ne.symm e]
  |some x=>simp
section
variable {c:List Ins} {k:Mk} {κ:Kn} {W:Wd} {f:Nat} {pc:Int} {part:Nat}
theorem FE.into {B:List (Str×Int)} {m:List Int} {name:Str} {i:Int} (h:FE k κ W f B m) (hn:κ name=0) (hu:aV m (oV k f)=i):FE k (upd κ name 3) (gG W name (oV k f)) (f+1) (B++[(name,i)]) m:=by
 have hb:=h.no name hn;refine⟨λs=>by unfold upd;split;exact Nat.le_refl 3;exact h.kn s,λs q=>?_,λs q=>?_,λs q=>?_,λs q=>?_⟩<;>unfold upd at q<;>(try unfold gG)<;>by_cases e:s=name<;>simp only [e,if_true,if_false]at q⊢
 ·omega
 ·obtain⟨a1,a2,a3,a4,a5⟩:=h.one s q
  rw [uT _ _ _ _ hb,if_neg e];exact⟨a1,a2,a3,a4,a5⟩
 ·omega
 ·exact h.two s q
 ·refine⟨.inr (by unfold oV;omega),i,?_,hu⟩
  rw [uT _ _ _ _ hb,if_pos rfl]
 ·obtain⟨a1,v,a2,a3⟩:=h.fix s q
  refine⟨by omega,v,?_,a3⟩;rw [uT _ _ _ _ hb,if_neg e];exact a2
 ·omega
 ·rw [uT _ _ _ _ hb,if_neg e]
  exact h.no s q
theorem Keep.less {k:Mk} {f:Nat} {m m':List Int} (h:Keep k (f+1) m m'):Keep k f m m':=⟨λi h0 h1=>h.loops i h0 aj,h.one,h.args⟩
theorem Pre.LJ {m:List Int} {R:RS} (h:Pre c m k κ W f R) {j v:Int} (h0:j=k.b+16/\v=1∨k.b+17+2*f<=j/\j<k.b+33) (hv:au v):
 Pre c (cO m j v) k κ W f R/\Keep k f m (cO m j v)/\aV (cO m j v) j=v/\∀i,0<=i->¬i=j->aV (cO m j v) i=aV m i:=by
 have hb:=h.st.b0;have hl:=h.C.len;have s:Same m (cO m j v) (k.b+16) (k.b+33):=Same.put aj aj aj aj hv;have g:∀i,0<=i->aV (cO m j v) i=if i=j then v else aV m i:=λi hi=>eP v aj hi aj
 have hK:Keep k f m (cO m j v):=⟨λi h0 h1=>by rw [g i aj,if_neg aj],λq=>by
  rw [g _ aj]
  split
  ·omega
  ·exact q,λi h0 h1=>by rw [g i aj,if_neg aj]⟩
 exact⟨⟨h.st,h.f8,by rw [iU];exact h.ok,h.C.same h.st s (Int.le_refl _),h.N.keep hK,h.ov⟩,hK,by rw [g _ aj,if_pos rfl],λi hi hn=>by rw [g i hi,if_neg hn]⟩
theorem nG.binds {m:List Int} {R:RS} (h:nG k R m) (B:List (Str×Int)):nG k {R with binds:=B} m:=
 ⟨h.len,h.ok,h.kE,h.vars,h.seat,h.cell,h.sides,h.rest,h.lZ,h.asks⟩
theorem nG.abm {m:List Int} {R R':RS} (h:nG k R m) (e1:R'.vars=R.vars) (e2:R'.seat=R.seat) (e3:R'.cell=R.cell) (e4:R'.sides=R.sides) (e5:R'.asks=R.asks) (e6:R'.rest=R.rest):nG k R' m:=
 ⟨h.len,h.ok,by rw [e1];exact h.kE,by rw [e1];exact h.vars,by rw [e2];exact h.seat,by rw [e3];exact h.cell,by rw [e4];exact h.sides,by rw [e6];exact h.rest,by rw [e5];exact h.lZ,by rw [e5];exact h.asks⟩
theorem Ey {name:Str} {l:SF} (il:N7 k part l) (hn:κ name=0) (f8:f<8) (hcl:bV part (upd κ name 3) (f+1) false l=none) (zl:l.size<=1099511627776) (B0:List (Str×Int)) (B:List Ins) (hB:B=cB k l (gG W name (oV k f)) (f+1) pc)
 (hs:Seg c pc (B++[⟨3,oV k f,oV k f,k.b+16⟩,⟨4,oV k f+1,oV k f+1,k.b+16⟩,⟨21,pc,oV k f+1,0⟩])):∀(n:Nat) (i:Int) (m:List Int) (R:RS),1<=n->au i->i+n - 1<=2147483647->n<=100->Pre c m k κ W f {R with binds:=B0}->Ref R->aV m (oV k f)=i->aV m (oV k f+1)=n->aV m (k.b+16)=1->
 ∃t,t<=n*(3+dG l)/\Out c pc m t (pc+B.length+3) k κ W f {f_ (λi R'=>oL k.V k.seats l {R' with binds:=B0++[(name,w32 i)]}) n i R with binds:=B0}
 |0,_,_,_,h1,_,_,_,_,_,_,_,_=>by omega
 |n+1,i,m,R,_,hi,hhi,amh,hP,hR,hu,hl,ho=>by
  have hb:=hP.st.b0;have hup:oV k f=k.b+17+2*f:=rfl;obtain⟨g,hg⟩:∃g:Int->RS->RS,g=(λi R'=>oL k.V k.seats l {R' with binds:=B0++[(name,w32 i)]}):=⟨_,rfl⟩;rw [<-hg];have hov:R.over=false:=hP.ov;rw [f_,if_neg (by rw [hov];decide)];obtain⟨R3,Xt⟩:∃R3,R3=g i R:=⟨_,rfl⟩;rw [<-Xt]
  have hP2:Pre c m k (upd κ name 3) (gG W name (oV k f)) (f+1) {R with binds:=B0++[(name,i)]}:=
   ⟨hP.st,by omega,hP.ok,hP.C.abm rfl rfl rfl rfl rfl rfl,hP.N.into hn hu,hov⟩
  have hrf:R.refused=false:=by
   rw [<-Bool.not_eq_true];intro q;have:=hR q;rw [hov]at this
   cases this
  obtain⟨t1,ht1,hO⟩:=il (upd κ name 3) (gG W name (oV k f)) (f+1) false c pc m {R with binds:=B0++[(name,i)]} hcl zl hP2 hrf (by rw [<-hB];exact hs.left);rw [<-hB]at hO;have e3:oL k.V k.seats l {R with binds:=B0++[(name,i)]}=R3:=by rw [Xt,hg];simp only [sw hi]
  rw [e3]at hO
  have akR:Ref R3:=by
   rw [<-e3];exact rH _ _ _ _ hR
  by_cases aaI:R3.over=true
  ·rw [AP g aaI]
   obtain⟨p',m',a,b⟩:=hO.halt aaI;refine⟨t1,?_,Out.Lr (pc':=p') (m':=m') aaI a (b.binds B0)⟩;rw [Nat.succ_mul]
   omega
  ·have acD:R3.over=false:=by simpa using aaI
   obtain⟨m4,r4,C4,N4,K4⟩:=hO.go acD;have u4:aV m4 (oV k f)=i:=by rw [K4.loops _ aj aj];exact hu
   have l4:aV m4 (oV k f+1)=(n+1:Nat):=by rw [K4.loops _ aj aj];exact hl
   have o4:aV m4 (k.b+16)=1:=K4.one ho;have alk:m4.length=m.length:=by have:=C4.len;have:=hP.C.len;omega
   have P4:Pre c m4 k κ W f {R3 with binds:=B0}:=⟨hP.st,hP.f8,by rw [alk];exact hP.ok,C4.binds B0,hP.N.keep K4.less,acD⟩;have hz:=hs.right;obtain⟨P5,K5,g5,q5⟩:=P4.LJ (j:=oV k f) (v:=w32 (i+1)) (.inr aj) (lM _);obtain⟨m5,e5⟩:∃m5,m5=cO m4 (oV k f) (w32 (i+1)):=⟨_,rfl⟩;rw [<-e5]at P5 K5 g5 q5;have l5:aV m5 (oV k f+1)=(n+1:Nat):=by rw [q5 _ aj aj];exact l4
   have o5:aV m5 (k.b+16)=1:=by rw [q5 _ aj aj];exact o4
   obtain⟨P6,K6,g6,q6⟩:=P5.LJ (j:=oV k f+1) (v:=(n:Int)) (.inr aj) kG;obtain⟨m6,e6⟩:∃m6,m6=cO m5 (oV k f+1) (n:Int):=⟨_,rfl⟩;rw [<-e6]at P6 K6 g6 q6;have u6:aV m6 (oV k f)=w32 (i+1):=by rw [q6 _ aj aj];exact g5
   have o6:aV m6 (k.b+16)=1:=by rw [q6 _ aj aj];exact o5
   have s5:jU c 1 (pc+B.length,0,m4)=(pc+B.length+1,0,m5):=by
    rw [jl hz.head P4.ok (aT _ aG aG),ex3 aj,u4,o4];rw [show gJ (3:Int).toNat i 1=w32 (i+1)from rfl,<-e5]
   have s6:jU c 1 (pc+B.length+1,0,m5)=(pc+B.length+1+1,0,m6):=by
    rw [jl hz.tail.head P5.ok (aT _ aG aG),ex3 aj,l5,o5];rw [show gJ (4:Int).toNat ((n+1:Nat):Int) 1=w32 (((n+1:Nat):Int) - 1)from rfl,show w32 (((n+1:Nat):Int) - 1)=n by rw [sw kG];omega,<-e6]
   have s7:jU c 1 (pc+B.length+1+1,0,m6)=((if (n:Int)=0 then pc+B.length+1+1+1 else pc),0,m6):=by
    rw [jl hz.tail.tail.head P6.ok (aT _ aG aG),akP,g6]
   have sA:jU c (t1+3) (pc,0,m)=((if (n:Int)=0 then pc+B.length+1+1+1 else pc),0,m6):=by
    rw [gF,r4,show 3=1+(1+1)from rfl,gF,s5,gF,s6,s7]
   have KA:Keep k f m m6:=(K4.less.trans K5).trans K6
   by_cases hn0:n=0
   ·subst hn0
    rw [f_];refine⟨t1+3,by omega,Out.goes (m':=m6) ?_ P6 KA⟩;rw [sA,if_pos aj];refine Prod.ext ?_ rfl;simp only
    omega
   ·rw [if_neg aj]at sA
    obtain⟨t2,ht2,hO2⟩:=Ey il hn f8 hcl zl B0 B hB hs n (i+1) m6 R3 aj (by unfold au at*;omega) aj aj P6 akR (by rw [u6,sw (by unfold au at*;omega)]) (by rw [g6]) o6;rw [<-hg]at hO2;refine⟨t1+3+t2,?_,Out.seq sA KA hO2⟩;rw [Nat.succ_mul]
    omega
theorem abo {m:List Int} {R:RS} (h:Pre c m k κ W f R) (hr:Ref R) {name:Str} {low high:Int} {l:SF} (il:N7 k part l) (hn:κ name=0) (f8:f<8) (hcl:bV part (upd κ name 3) (f+1) false l=none) (zl:l.size<=1099511627776)
 (hlo:au low) (hhi:au high) (h63:high - low<=63) (code:List Ins) (hcode:code=if high<low then []else BI k f pc low high (cB k l (gG W name (oV k f)) (f+1) (pc+3))) (hs:Seg c pc code):
 ∃n,n<=3+(if low<=high then((min (high - low) 65536).toNat+1)*(4+dG l)else 0)/\Out c pc m n (pc+code.length) k κ W f {f_ (λi R'=>oL k.V k.seats l {R' with binds:=R.binds++[(name,w32 i)]}) (high - low+1).toNat low R with binds:=R.binds}:=by
 have hb:=h.st.b0;have hup:oV k f=k.b+17+2*f:=rfl
 by_cases q:high<low
 ·rw [if_pos q]at hcode
  rw [show(high - low+1).toNat=0 by omega,f_,hcode];refine⟨0,by omega,Out.goes (m':=m) ?_ h (Keep.refl _ _ _)⟩;simp [jU]
 ·rw [if_neg q]at hcode
  rw [if_pos aj];obtain⟨B,hB⟩:∃B,B=cB k l (gG W name (oV k f)) (f+1) (pc+3):=⟨_,rfl⟩;rw [<-hB]at hcode;unfold BI at hcode;rw [hcode]at hs⊢;have hz:=hs;rw [List.append_assoc]at hz;have hh:=hz.left;have hbody:=hz.right;simp only [List.length_cons,List.length_nil]at hbody;obtain⟨P1,K1,g1,q1⟩:=h.LJ (j:=k.b+16) (v:=1) (.inl ⟨rfl,rfl⟩) kG;obtain⟨m1,e1⟩:∃m1,m1=cO m (k.b+16) 1:=⟨_,rfl⟩;rw [<-e1]at P1 K1 g1 q1;obtain⟨P2,K2,g2,q2⟩:=P1.LJ (j:=oV k f) (v:=low) (.inr aj) hlo;obtain⟨m2,e2⟩:∃m2,m2=cO m1 (oV k f) low:=⟨_,rfl⟩;rw [<-e2]at P2 K2 g2 q2;have o2:aV m2 (k.b+16)=1:=by rw [q2 _ aj aj];exact g1
  obtain⟨P3,K3,g3,q3⟩:=P2.LJ (j:=oV k f+1) (v:=high - low+1) (.inr aj) kG;obtain⟨m3,e3⟩:∃m3,m3=cO m2 (oV k f+1) (high - low+1):=⟨_,rfl⟩;rw [<-e3]at P3 K3 g3 q3;have o3:aV m3 (k.b+16)=1:=by rw [q3 _ aj aj];exact o2
  have u3:aV m3 (oV k f)=low:=by rw [q3 _ aj aj];exact g2
  have s3:jU c 3 (pc,0,m)=(pc+3,0,m3):=by
   refine TH (dH (m1:=m1) hh h.ok (aT _ aG aG) (by rw [ex1,<-e1]) (dH (m1:=m2) hh.tail P1.ok (aT _ aG aG) (by rw [ex1,<-e2]) (dH (m1:=m3) hh.tail.tail P2.ok (aT _ aG aG) (by rw [ex1,<-e3]) rfl))) ?_ ?_
   ·rfl
   ·omega
  unfold au at hhi hlo;obtain⟨t,ht,hO⟩:=Ey il hn f8 hcl zl R.binds B hB hbody (high - low+1).toNat low m3 R aj kG aj aj P3 hr u3 (by rw [g3];omega) o3;refine⟨3+t,?_,(Out.seq s3 ((K1.trans K2).trans K3) hO).cast ?_⟩
  ·have e:(high - low+1).toNat=(min (high - low) 65536).toNat+1:=by omega
   rw [e]at ht;have:((min (high - low) 65536).toNat+1)*(3+dG l)<=((min (high - low) 65536).toNat+1)*(4+dG l):=Nat.mul_le_mul_left _ aj
   omega
  ·simp only [List.length_append,List.length_cons,List.length_nil]
   omega
theorem GH {kind low high:Int} {name:Str} (h:named κ kind name low high f=none):((kind=0∨kind=5)->κ name=1)/\(kind=1->κ name=2)/\(kind=5->2<=low/\low<=1000)/\(kind=3->κ name=0/\au low/\au high/\high - low<=63/\f<8):=by
 unfold named target loop at h;refine⟨λq=>?_,λq=>?_,λq=>?_,λq=>?_⟩
 ·rw [if_pos aj,av,av,if_neg (show¬kind=1 by omega)]at h
  simpa using aP.1 h.2.1
 ·rw [if_pos aj,av,av,aP,aP,if_pos q]at h
  simpa using h.2.1
 ·rw [if_pos aj,av,av,if_pos q,aP,aP,aP]at h
  have:=h.2.2;unfold jq at this
  simpa using this
 ·rw [if_neg aj,if_pos q,av,av,av,aP,aP,aP,aP]at h
  obtain⟨_,h1,h2,h3⟩:=h;unfold word at h2;simp at h1 h2 h3;exact⟨h1,by unfold au;omega,by unfold au;omega,h2.2,h3⟩
theorem Yx {m:List Int} {R:RS} (h:Pre c m k κ W f R) (hr:Ref R) (OE:k.b<=64) {last:Bool} {kind:Int} {name:Str} {e:EF} {low high:Int} {l els:SF} (hc:nu part κ f last kind name e low high l els=none) (ze:e.size<=1099511627776) (zl:l.size<=1099511627776) (zx:els.size<=1099511627776)
 (il:N7 k part l) (ix:N7 k part els) (hs:Seg c pc (cS k W f pc kind name e low high l els)):
 ∃n,n<=(uD kind+(if yC kind then iA e else 0)+if kind=2 then max (dG l) (dG els)else if kind=3/\low<=high then((min (high - low) 65536).toNat+1)*(4+dG l)else 0)/\
  Out c pc m n (pc+(cS k W f pc kind name e low high l els).length) k κ W f (doS k.V k.seats kind name e low high l els R):=by
 unfold nu at hc;rw [av,av,av,av,aP,Bool.and_eq_true]at hc;obtain⟨⟨hk,hlen⟩,_,hnm,hD,hrest⟩:=hc;have hk':0<=kind/\kind<=9:=by simpa [jq]using hk
 have hlen':e.len=stmtParts kind:=by simpa using hlen
 obtain⟨nm1,nm2,nm3,nm4⟩:=GH hnm;obtain⟨hE,hd⟩:=DF hD ze;have hov:=h.ov
 have hrf:R.refused=false:=by
  rw [<-Bool.not_eq_true];intro q;have:=hr q;rw [hov]at this
  cases this
 have L00:=pQ k W e 0 0;have L11:=pQ k W e 1 1;have L10:=pQ k W e 1 0;have L01:=pQ k W e 0 1;have cz:=rE e;have co:=Gd e
 rcases(by omega:kind=0∨kind=1∨kind=2∨kind=3∨kind=4∨kind=5∨kind=6∨kind=7∨kind=8∨kind=9)with rfl|rfl|rfl|rfl|rfl|rfl|rfl|rfl|rfl|rfl
 ·exact⟨_,by simp [uD,yC];omega,(PY h yS hE hd (nm1 (.inl rfl)) hs).cast (by simp [cS,pJ])⟩
 ·obtain⟨n,hn,ho⟩:=abq h yS hE hd (nm2 rfl) hs
  exact⟨n,by simp [uD,yC];omega,ho.cast (by simp [cS,pJ];omega)⟩
 ·simp only [if_true,av]at hrest
  obtain⟨n,hn,ho⟩:=aeK h hrf il ix yS hE hd hrest.1 hrest.2 zl zx _ rfl hs;exact⟨n,by simp only [uD,yC];simp;omega,ho⟩
 ·obtain⟨a1,a2,a3,a4,a5⟩:=nm4 rfl
  have hrest':bV part (upd κ name 3) (f+1) false l=none:=by simpa using hrest
  obtain⟨n,hn,ho⟩:=abo h hr il a1 a5 hrest' zl a2 a3 a4 _ rfl hs;refine⟨n,?_,ho⟩;simp only [uD,yC];simp
  omega
 ·exact⟨1,by simp [uD];omega,PZ h hs⟩
 ·exact⟨2,by simp [uD];omega,Yv h (nm1 (.inr rfl)) (by have:=nm3 rfl;unfold au;omega) hs OE⟩
 ·exact⟨_,by simp [uD,yC];omega,(Yw h yS hE hd hs hrf).cast (by simp [cS,pJ])⟩
 ·exact⟨2,by simp [uD],Yt h hs hrf⟩
 ·exact⟨_,by simp [uD,yC];omega,(abp h yS hE hd hs).cast (by simp [cS,pJ,gT];omega)⟩
 ·exact⟨_,by simp [uD,yC];omega,(Yu h yS hE hd hs).cast (by simp [cS,pJ,gT])⟩
theorem abn (k:Mk) (part:Nat) (OE:k.b<=64):∀F:SF,N7 k part F
 | .nil=>fun κ W f top c pc m R _ _ hP _ _=>⟨0,Nat.zero_le _,Out.goes (m':=m) (by simp [jU,cB]) hP (Keep.refl _ _ _)⟩
 | .cons kind name e low high l els r=>fun κ W f top c pc m R hc hz hP hrf hs=>by
  rw [jT,av]at hc;simp only [SF.size]at hz;rw [Cm]at hs⊢;have hR:Ref R:=λq=>absurd q (by rw [hrf];decide);obtain⟨n1,hn1,ho1⟩:=Yx hP hR OE hc.1 aj aj aj (abn k part OE l) (abn k part OE els) hs.left;rw [ko,if_neg (by rw [hP.ov];decide)];obtain⟨R1,yB⟩:∃R1,R1=doS k.V k.seats kind name e low high l els R:=⟨_,rfl⟩;rw [<-yB]at ho1⊢
  have agz:Ref R1:=by
   have:=rH k.V k.seats (.cons kind name e low high l els .nil) R hR;rw [ko,if_neg (by rw [hP.ov];decide),oL,<-yB]at this;exact this
  rw [dG]
  by_cases q:R1.over=true
  ·have:oL k.V k.seats r R1=R1:=by
    cases r with
    |nil=>rfl
    |cons=>rw [ko,if_pos q]
   rw [this];obtain⟨p',m',a,b⟩:=ho1.halt q;exact⟨n1,by omega,Out.Lr q a b⟩
  ·have q':R1.over=false:=by simpa using q
   obtain⟨m1,r1,C1,N1,K1⟩:=ho1.go q'
   have P1:Pre c m1 k κ W f R1:=⟨hP.st,hP.f8,by
    have:m1.length=m.length:=by have:=C1.len;have:=hP.C.len;omega
    rw [this];exact hP.ok,C1,N1,q'⟩
   have alh:R1.refused=false:=by
    rw [<-Bool.not_eq_true];intro hq;exact q (agz hq)
   obtain⟨n2,hn2,ho2⟩:=abn k part OE r κ W f top c _ m1 R1 hc.2 aj P1 alh hs.right;refine⟨n1+n2,by omega,(Out.seq r1 K1 ho2).cast ?_⟩;rw [List.length_append]
   omega
end
end Go.Proofs.YtbfbabbcdochjaaGreatDoor.So
namespace Go.Proofs.YtbfbabbcdochjaaGreatDoor
open Go.RowKit
def dx (w:World) (g:Nat) (f:Int->Option Value):Prop:=
 ∃es clock,w.heap[g]?=some (.map es clock)/\(∀x∈es.toList,MapKept.IsKey (.int .i64) x.key)/\(es.toList.map (·.key)).Nodup/\∀s v,f s=some v↔∃x∈es.toList,x.key=.int .i64 s/\x.val=v
section
variable {P:Program} {w w':World} {g:Nat} {f:Int->Option Value} {mt kt et:TypeId}
theorem dx.lt (h:dx w g f):g<w.heap.size:=by
 obtain⟨_,_,hb,_⟩:=h;exact(Array.getElem?_eq_some_iff.1 hb).1
theorem dx.kept {S:Nat->Prop} (h:dx w g f) (hk:Kept S w w') (hs:¬S g):dx w' g f:=by
 have hl:=h.lt;obtain⟨es,clock,hb,r⟩:=h;exact⟨es,clock,(hk.block g hl hs).trans hb,r⟩
theorem dx.ext (h:dx w g f) (hk:Ext w w'):dx w' g f:=h.kept hk (λf=>f)
theorem dx.qx {f':Int->Option Value} (h:dx w g f) (e:∀s,f s=f' s):dx w g f':=by
 obtain⟨es,clock,hb,hk,hn,hm⟩:=h;exact⟨es,clock,hb,hk,hn,λs v=>by rw [<-e];exact hm s v⟩
theorem dx.made (w:World):dx (w.alloc (.map #[] 0)) w.heap.size (λ_=>none):=
 ⟨#[],0,(MapKept.heap_alloc w _).1,by simp,by simp,by simp⟩
theorem rP (s:Int):MapKept.IsKey (.int .i64) (.int .i64 s):=by simp [MapKept.IsKey]
theorem dx.find (h:dx w g f) (s:Int):∃es clock,w.heap[g]?=some (.map es clock)/\(∀x∈es.toList,MapKept.IsKey (.int .i64) x.key)/\(es.toList.map (·.key)).Nodup/\(∀s v,f s=some v↔∃x∈es.toList,x.key=.int .i64 s/\x.val=v)/\
 ((Instr.findNow (.int .i64) (.int .i64 s) es.toList 0=some none/\f s=none/\∀x∈es.toList,x.key≠ .int .i64 s)∨∃j e,Instr.findNow (.int .i64) (.int .i64 s) es.toList 0=some (some (j,e.val))/\es.toList[j]?=some e/\e.key=.int .i64 s/\f s=some e.val):=by
 obtain⟨es,clock,hb,hk,hn,hm⟩:=h;refine⟨es,clock,hb,hk,hn,hm,?_⟩
 rcases MapKept.findNow_spec (rP s) es.toList 0 hk with⟨h1,h2⟩|⟨j,e,h1,h2,h3⟩
 ·refine .inl ⟨h1,?_,h2⟩
  cases hf:f s with
  |none=>rfl
  |some v=>
   obtain⟨x,hx,he,_⟩:=(hm s v).1 hf;exact absurd he (h2 x hx)
 ·rw [Nat.zero_add]at h1
  exact .inr ⟨j,e,h1,h2,h3,(hm s e.val).2 ⟨e,List.mem_of_getElem? h2,h3,rfl⟩⟩
theorem dx.look (h:dx w g f) (hu:P.underlying mt=some (.map kt et)) (hk:P.underlying kt=some (.int .i64)) {z:Value} (hz:∀w:World,(zeroValue et).run P w=.ok z w) (s:Int):
 (Instr.lookup mt (.map (some g)) (.int .i64 s) false).run P w=.ok ((f s).getD z) w:=by
 exact ajs
theorem dx.look_ok (h:dx w g f) (hu:P.underlying mt=some (.map kt et)) (hk:P.underlying kt=some (.int .i64)) {z:Value} (hz:∀w:World,(zeroValue et).run P w=.ok z w) (s:Int):
 (Instr.lookup mt (.map (some g)) (.int .i64 s) true).run P w=.ok (.tuple #[(f s).getD z,.bool (f s).isSome]) w:=by
 exact ajs
theorem dx.put (h:dx w g f) (hu:P.underlying mt=some (.map kt et)) (hk:P.underlying kt=some (.int .i64)) (s:Int) (v:Value):
 ∃w',(Instr.mapUpdate mt (.map (some g)) (.int .i64 s) v).run P w=.ok () w'/\dx w' g (λt=>if t=s then some v else f t)/\Kept (·=g) w w':=by
 obtain⟨es,clock,hb,hks,hn,hm,⟨h1,hf,hnew⟩|⟨j,e,h1,h2,h3,h4⟩⟩:=h.find s
 ·refine⟨{w with heap:=w.heap.setIfInBounds g (.map (es.push ⟨.int .i64 s,v,clock⟩) (clock+1))},?_,⟨_,_,(MapKept.heap_set hb).1,?_,?_,?_⟩,qJ⟩
  ·simp [Instr.mapUpdate,run_underlying hu,MapKept.run_getObj_map hb,MapKept.run_checkKey hk (rP s),MapKept.run_findKey hk h1,MapKept.run_setObj_map _ hb,Result.andThen]
  ·intro x hx
   simp only [Array.toList_push,List.mem_append,List.mem_singleton]at hx
   rcases hx with hx|rfl
   ·exact hks x hx
   ·exact rP s
  ·rw [Array.toList_push,List.map_append]
   refine List.nodup_append.2 ⟨hn,by simp,λa ha b hb' e=>?_⟩;obtain⟨x,hx,rfl⟩:=List.mem_map.1 ha;simp at hb';subst hb';exact hnew x hx e
  ·intro t u
   show(if t=s then some v else f t)=some u↔_;simp only [Array.toList_push,List.mem_append,List.mem_singleton]
   by_cases e:t=s
   ·subst e
    rw [if_pos rfl]
    constructor
    ·intro q
     cases q
     exact⟨_,.inr rfl,rfl,rfl⟩
    ·rintro⟨x,hx|rfl,hxk,hxv⟩
     ·exact absurd hxk (hnew x hx)
     ·rw [<-hxv]
   ·rw [if_neg e,hm]
    constructor
    ·rintro⟨x,hx,hxk,hxv⟩
     exact⟨x,.inl hx,hxk,hxv⟩
    ·rintro⟨x,hx|rfl,hxk,hxv⟩
     ·exact⟨x,hx,hxk,hxv⟩
     ·injection hxk with _ hxk
      exact absurd hxk.symm e
 ·have hj:es[j]?=some e:=by simpa using h2
  have hkey:∀e',es[j]?=some e'->({e' with key:=.int .i64 s,val:=v}:MapEntry).key=e'.key:=λe' he'=>by rw [hj]at he';cases he';exact h3.symm
  have hjl:j<es.size:=(Array.getElem?_eq_some_iff.1 hj).1;refine⟨{w with heap:=w.heap.setIfInBounds g (.map (es.modify j λe=>{e with key:=.int .i64 s,val:=v}) clock)},?_,⟨_,_,(MapKept.heap_set hb).1,MapKept.isKey_modify hks _ _ hkey,?_,?_⟩,qJ⟩
  ·simp [Instr.mapUpdate,run_underlying hu,MapKept.run_getObj_map hb,MapKept.run_checkKey hk (rP s),MapKept.run_findKey hk h1,hj,h3,MapKept.run_keyThatStays (rP s),MapKept.run_setObj_map _ hb,Result.andThen]
  ·rw [MapKept.modify_keys _ _ hkey]
   exact hn
  ·have hat:∀i,(es.modify j λe=>{e with key:=.int .i64 s,val:=v}).toList[i]?=if i=j then some ⟨.int .i64 s,v,e.born⟩else es.toList[i]?:=λi=>by
    rw [Array.getElem?_toList,Array.getElem?_modify]
    by_cases ei:i=j
    ·subst ei;simp [hj]
    ·rw [if_neg (λq=>ei q.symm),if_neg ei,Array.getElem?_toList]
   have XH:∀i x,es.toList[i]?=some x->x.key=.int .i64 s->i=j:=λi x hx hxk=>by
    exact afA
   intro t u;show(if t=s then some v else f t)=some u↔_
   by_cases NA:t=s
   ·subst NA
    rw [if_pos rfl]
    constructor
    ·intro q
     cases q
     exact⟨⟨.int .i64 t,v,e.born⟩,List.mem_of_getElem? (i:=j) (by rw [hat,if_pos rfl]),rfl,rfl⟩
    ·rintro⟨x,hx,hxk,hxv⟩
     obtain⟨i,hi⟩:=List.getElem?_of_mem hx;rw [hat]at hi
     split at hi
     ·cases hi
      rw [<-hxv]
     ·rename_i hne
      exact absurd (XH i x hi hxk) hne
   ·rw [if_neg NA,hm]
    constructor
    ·rintro⟨x,hx,hxk,hxv⟩
     obtain⟨i,hi⟩:=List.getElem?_of_mem hx
     have hne:¬i=j:=λq=>by
      subst q;rw [h2]at hi
      cases hi
      rw [h3]at hxk;injection hxk with _ hxk;exact NA hxk.symm
     exact⟨x,List.mem_of_getElem? (i:=i) (by rw [hat,if_neg hne];exact hi),hxk,hxv⟩
    ·rintro⟨x,hx,hxk,hxv⟩
     obtain⟨i,hi⟩:=List.getElem?_of_mem hx;rw [hat]at hi
     split at hi
     ·cases hi
      injection hxk with _ hxk;exact absurd hxk.symm NA
     ·exact⟨x,List.mem_of_getElem? hi,hxk,hxv⟩
end
open Go.RowKit So Mc
theorem WM:jQ prog 160=true:=by kernel_rfl
theorem U0:sizeT prog 160=some 17:=by kernel_rfl
attribute [go_sem] WM U0
abbrev nN (A:Option Addr) (n cp:Nat) (c:Pc) (b:Int) (wm:Nat) (f:Int) (sm em:Nat):Array Value:=
 #[.slice A n cp,.string c.name,.int .i64 c.seats,.slice c.bY.A c.bY.n c.bY.c,.slice c.vars.A c.vars.n c.vars.c,.slice c.start.A c.start.n c.start.c,.slice c.turn.A c.turn.n c.turn.c,.slice c.params.A c.params.n c.params.c,.slice c.play.A c.play.n c.play.c,.string c.silent,.slice c.quiet.A c.quiet.n c.quiet.c,.slice c.pays.A c.pays.n c.pays.c,.int .i64 b,.map (some wm),.int .i64 f,.map (some sm),.map (some em)]
attribute [go_sem] nN
/-! ### the frame: what lies below B stays, and so do blocks of other types than a maker's, an instruction's, a map's -/
def aln (wm i:Nat) (o:Option Obj):Prop:=(∃cur t fr,o=some (.cells cur t fr)/\¬t=160/\¬t=77)∨(¬i=wm/\∃es clock,o=some (.map es clock))
def KT (B wm:Nat) (w w':World):Prop:=Kept (λi=>B<=i/\¬aln wm i w.heap[i]?) w w'
section
variable {B wm:Nat} {w w' w'':World}
theorem KT.refl (B wm:Nat) (w:World):KT B wm w w:=kR _ w
theorem KT.ext (h:Ext w w'):KT B wm w w':=Kept.ext h
theorem KT.size (h:KT B wm w w'):w.heap.size<=w'.heap.size:=Kept.size h
theorem KT.trans (h:KT B wm w w') (h':KT B wm w' w''):KT B wm w w'':=by
 refine Kept.trans' h h' λi hi q=>?_;refine⟨q.1,λhk=>q.2 ?_⟩;rw [Kept.block h i hi (λz=>z.2 hk)];exact hk
theorem KT.below (h:KT B wm w w'):Kept (λi=>B<=i) w w':=Kept.mono h λ_ _ q=>q.1
theorem KT.block (h:KT B wm w w') {g:Nat} {t:TypeId} {cs:Array Value} (hb:aH w g t cs) (h1:¬t=160) (h2:¬t=77):aH w' g t cs:=(Kept.block h g hb.lt (λq=>q.2 (.inl ⟨_,_,_,hb,h1,h2⟩))).trans hb
theorem KT.map (h:KT B wm w w') {g:Nat} {f:Int->Option Value} (hm:dx w g f) (hg:¬g=wm):dx w' g f:=by
 have hl:=hm.lt;obtain⟨es,clock,hb,r⟩:=hm;exact⟨es,clock,(Kept.block h g hl (λq=>q.2 (.inr ⟨hg,es,clock,hb⟩))).trans hb,r⟩
theorem KT.acK {mb:Nat} {cs:Array Value} (hb:aH w mb 160 cs) (hB:B<=mb) (hk:Kept (·=mb) w w'):KT B wm w w':=
 Kept.mono hk λi _ q=>by
  subst q;refine⟨hB,?_⟩;rintro(⟨cur,t,fr,e,h1,_⟩|⟨_,es,clock,e⟩)<;>rw [show w.heap[i]?=_ from hb]at e
  ·injection e with e
   injection e with _ e _;exact h1 e.symm
  ·cases e
theorem KT.gy {v:Value} {n:Nat} {xs:List Value} (h:w.ownsRow B 77 4 v n xs) (hk:Kept (λi=>v.ownBlock=some i) w w'):KT B wm w w':=
 Kept.mono hk λi _ q=>by
  refine⟨(h.lt i q).1,?_⟩;rintro(⟨cur,t,fr,e,_,h2⟩|⟨_,es,clock,e⟩)
  ·exact dI h (λz=>h2 z.symm) i q cur fr e
  ·obtain⟨cur,e'⟩:=oC h q
   rw [e]at e'
   cases e'
theorem KT.of_map {es:Array MapEntry} {clock:Nat} (hb:w.heap[wm]?=some (.map es clock)) (hB:B<=wm) (hk:Kept (·=wm) w w'):KT B wm w w':=
 Kept.mono hk λi _ q=>by
  subst q;refine⟨hB,?_⟩;rintro(⟨cur,t,fr,e,_,_⟩|⟨h,_⟩)
  ·rw [hb]at e
   cases e
  ·exact h rfl
end
/-! ### the tables -/
def gP (op:Int):Option Value:=
 if op=0 then some (.func (.func 138) #[] #[])else if op=1 then some (.func (.func 139) #[] #[])
 else if op=2 then some (.func (.func 140) #[] #[])else if op=3 then some (.func (.func 141) #[] #[])
 else if op=4 then some (.func (.func 142) #[] #[])else if op=14∨op=15 then some (.func (.func 143) #[] #[])else none
def yL (k:Int):Option Value:=
 if k=0 then some (.func (.func 128) #[] #[])else if k=1 then some (.func (.func 129) #[] #[])
 else if k=2 then some (.func (.func 130) #[] #[])else if k=3 then some (.func (.func 131) #[] #[])
 else if k=4 then some (.func (.func 132) #[] #[])else if k=5 then some (.func (.func 133) #[] #[])
 else if k=6 then some (.func (.func 134) #[] #[])else if k=7 then some (.func (.func 135) #[] #[])
 else if k=8 then some (.func (.func 136) #[] #[])else if k=9 then some (.func (.func 137) #[] #[])else none
structure MS (w:World) (B N mb:Nat) (p:Pr) (c:Pc) (b:Int) (wm sm em f:Nat) (W:Wd) (L:List Ins):Prop where
 blk:∃A n cp,aH w mb 160 (nN A n cp c b wm f sm em)/\w.ownsRow B 77 4 (.slice A n cp) n (fV L)
 prog:lT w N c p
 words:∃F,SMap w wm F/\∀s,(F s).getD (.int .i64 0)=.int .i64 (W s)
 vS:dx w sm yL
 Ql:dx w em gP
 hN:N<=B
 hB:B<=w.heap.size
 GA:B<=mb
 wmB:B<=wm
 okL:∀i∈L,i.ok
section
variable {w w':World} {B N mb wm sm em f:Nat} {p:Pr} {c:Pc} {b:Int} {W:Wd} {L:List Ins}
theorem MS.ext (h:MS w B N mb p c b wm sm em f W L) (hx:Ext w w'):MS w' B N mb p c b wm sm em f W L:=by
 obtain⟨A,n,cp,h1,h2⟩:=h.blk;obtain⟨F,h3,h4⟩:=h.words;exact⟨⟨A,n,cp,bX h1 hx,bD h2 hx⟩,h.prog.kept hx (Nat.le_trans h.hN h.hB) (λ_ q=>q.elim),⟨F,h3.ext hx,h4⟩,h.vS.ext hx,h.Ql.ext hx,h.hN,Nat.le_trans h.hB hx.size,h.GA,h.wmB,h.okL⟩
theorem MS.len (_h:MS w B N mb p c b wm sm em f W L) {A:Option Addr} {n cp:Nat} (ho:w.ownsRow B 77 4 (.slice A n cp) n (fV L)):n=L.length:=by
 have:=ho.1;rw [je]at this
 omega
end
theorem aez:(prog.info? 77).map (λi=>(i.zero,i.size,i.bytes))=some (some (.agg #[.int .i64 0,.int .i64 0,.int .i64 0,.int .i64 0]),4,32):=by kernel_rfl
theorem OT (l:List Ins):iQ (fV l)=true:=by
 induction l with
 |nil=>rfl
 |cons d l ih=>show iQ (d.cells.toList++fV l)=true;exact ih
theorem acu (w:World) (base:Nat) (v:Value) (n:Nat) (xs:List Ins) (hown:w.ownsRow base 77 4 v n (fV xs)) (b off m c:Nat) (l:List Ins) (hm:m=l.length) (hr:Row w b off (fV l)) (hn:n+m<=100000) (hbase:base<=w.heap.size):
 ∃v' w',(Builtin.append_ #[71,71] 71 #[v,.slice (some ⟨b,off,none⟩) m c]).run prog w=.ok v' w'/\w'.ownsRow base 77 4 v' (n+m) (fV (xs++l))/\Kept (λi=>v.ownBlock=some i) w w':=by
 obtain⟨i,hi,hz,h1,h2⟩:=info_parts aez;have:=Dy (P:=prog) underlying71 hi hz h1 h2 jf ak w base v n (fV xs) hown b off m c (fV l) (by rw [je,hm]) hr (OT l) (by unfold maxLen;omega) aj hbase;rw [show fV xs++fV l=fV (xs++l)by simp [fV]]at this;exact this
theorem Pv {w:World} {base:Nat} {v:Value} {n:Nat} {l:List Ins} (h:w.ownsRow base 77 4 v n (fV l)):∃A c,v=.slice A n c:=by
 exact Zt
theorem cZ (B N mb wm sm em f:Nat) (p:Pr) (c:Pc) (b:Int) (W:Wd) (L:List Ins) (i:Int) (w:World) (h:MS w B N mb p c b wm sm em f W L) (hb:0<=b/\b<=10000) (hi:0<=i/\i<=10000):
 Calls prog 164 #[.pointer (some ⟨mb,0,none⟩),.int .i64 i] w λe w'=>e=.returned (.int .i64 (fr b i))/\w=w':=by
 obtain⟨A,n,cp,h1,-⟩:=h.blk;have i1:=bC h1;have i2:=h1.lt;clear h h1;go_enter func164,ntmps164;go_wp2_with fail;go_ret;exact⟨rfl,rfl⟩
theorem MS.grow {w w1:World} {B N mb wm sm em f:Nat} {p:Pr} {c:Pc} {b:Int} {W:Wd} {L L':List Ins} {A A':Option Addr} {n cp n' cp':Nat} (h:MS w B N mb p c b wm sm em f W L) (hb:aH w mb 160 (nN A n cp c b wm f sm em)) (ho:w.ownsRow B 77 4 (.slice A n cp) n (fV L))
 (hk:Kept (λi=>(Value.slice A n cp).ownBlock=some i) w w1) (ho':w1.ownsRow B 77 4 (.slice A' n' cp') n' (fV L')) (hok:∀i∈L',i.ok):
 MS (w1.setCell ⟨mb,0,none⟩ (.slice A' n' cp')) B N mb p c b wm sm em f W L'/\KT B wm w (w1.setCell ⟨mb,0,none⟩ (.slice A' n' cp')):=by
 have hmb:¬(Value.slice A n cp).ownBlock=some mb:=λq=>dI ho (E':=160) ak mb q _ _ hb;have hb1:=bK hb hk hmb;have hbS:=aH.gW hb1 0 (.slice A' n' cp');have kS:Kept (·=mb) w1 (w1.setCell ⟨mb,0,none⟩ (.slice A' n' cp')):=Kept.setCell (kR _ w1) _ _ (λ_=>rfl)
 have hmap:∀g es clock,w.heap[g]?=some (.map es clock)->¬(Value.slice A n cp).ownBlock=some g:=λg es clock e q=>by
  obtain⟨cur,e'⟩:=oC ho q;rw [e]at e'
  cases e'
 have hmm:∀g es clock,w.heap[g]?=some (.map es clock)->¬g=mb:=λg es clock e q=>by
  subst q;rw [show w.heap[g]?=_ from hb]at e
  cases e
 have k2:KT B wm w w1:=KT.gy ho hk;have k3:KT B wm w1 (w1.setCell ⟨mb,0,none⟩ (.slice A' n' cp')):=KT.acK hb1 h.GA kS;have kk:=k2.trans k3;refine⟨⟨⟨A',n',cp',?_,bS ho' kS (λg hg q=>by subst q;exact dI ho' (E':=160) ak g hg _ _ hb1)⟩,h.prog.kept kk.below (Nat.le_trans h.hN h.hB) (λi q=>Nat.le_trans h.hN q),?_,?_,?_,h.hN,Nat.le_trans h.hB kk.size,h.GA,h.wmB,hok⟩,kk⟩
 ·simpa using hbS
 ·obtain⟨F,h3,h4⟩:=h.words
  obtain⟨es,clock,he,r⟩:=h3;exact⟨F,(SMap.kept (f:=F) ⟨es,clock,he,r⟩ hk (hmap _ _ _ he)).kept kS (hmm _ _ _ he),h4⟩
 ·obtain⟨es,clock,he,r⟩:=h.vS
  exact(dx.kept (f:=yL) ⟨es,clock,he,r⟩ hk (hmap _ _ _ he)).kept kS (hmm _ _ _ he)
 ·obtain⟨es,clock,he,r⟩:=h.Ql
  exact(dx.kept (f:=gP) ⟨es,clock,he,r⟩ hk (hmap _ _ _ he)).kept kS (hmm _ _ _ he)
theorem dh (B N mb wm sm em f:Nat) (p:Pr) (c:Pc) (b:Int) (W:Wd) (L:List Ins) (x:Ins) (hx:x.ok) (hL:L.length<=5000) (w:World) (h:MS w B N mb p c b wm sm em f W L):
 Calls prog 86 #[.pointer (some ⟨mb,0,none⟩),.int .i64 x.op,.int .i64 x.a,.int .i64 x.b,.int .i64 x.c] w λe w'=>e=.returned (.int .i64 L.length)/\MS w' B N mb p c b wm sm em f W (L++[x])/\KT B wm w w':=by
 have HH:=J h;obtain⟨A,n,cp,h1,h2⟩:=h.blk;have hn:=h.len h2;have y1:Ext w (w.alloc (.cells x.cells 77)):=(kR _ w).alloc _;obtain⟨v',w',hr,ho,hk⟩:=acu (w.alloc (.cells x.cells 77)) B _ n L (bD h2 y1) w.heap.size 0 1 1 [x] rfl (by simpa [fV]using Row.eZ (bN w 77 x.cells)) aj (Nat.le_trans h.hB y1.size);obtain⟨A',cp',rfl⟩:=Pv ho;have hk':Kept (λi=>(Value.slice A n cp).ownBlock=some i) w w':=(Kept.ext y1).trans hk
 obtain⟨jM,hKT⟩:=h.grow h1 h2 hk' ho (λi hi=>by
  rcases List.mem_append.1 hi with q|q
  ·exact h.okL i q
  ·simp at q;subst q;exact hx)
 have hmb:¬(Value.slice A n cp).ownBlock=some mb:=λq=>dI h2 (E':=160) ak mb q _ _ h1;have hb1:=bK h1 hk' hmb;have i1:=bC h1;have i2:=h1.lt;have i3:=hb1.lt;have i4:=aH.frozen hb1;have j1:=bC (aH.gW hb1 0 (.slice A' (n+1) cp'));have Ad:=J jM;have HKT:=J hKT;have HL:=J hn;have HB1:=J hb1;clear h h2 ho hk hk' hmb jM hKT HH hb1 h1 hn;go_enter func86,ntmps86;go_upto_region 1 with(fail);go_step
 iterate 11 refine qY ?_
 refine fM rfl (.tmp 15) (.tmp 21) 71 rfl rfl rfl rfl hr ?_;clear hr i1;have i1:=bC HB1.out;have hnb:n<=5000:=by have:=HL.out;omega
 go_wp2_with fail;go_ret;refine⟨?_,Ad.out,HKT.out⟩;rw [<-HL.out]
 rfl
def om (L:List Ins) (j:Nat) (v:Int):List Ins:=L.set j ⟨(L.getD j ⟨0,0,0,0⟩).op,v,(L.getD j ⟨0,0,0,0⟩).b,(L.getD j ⟨0,0,0,0⟩).c⟩
theorem LC:∀(L:List Ins) (j:Nat) (v:Int),j<L.length->(fV L).set (j*4+1) (.int .i64 v)=fV (om L j v)
 |[],_,_,h=>by simp at h
 |x::L,0,v,_=>by simp [om,fV]
 |x::L,j+1,v,h=>by
  have ih:=LC L j v (by simpa using h);have e:fV (om (x::L) (j+1) v)=x.cells.toList++fV (om L j v):=by simp [om,fV]
  rw [e,<-ih,show(j+1)*4+1=4+(j*4+1)by omega];show(x.cells.toList++fV L).set (4+(j*4+1)) _=_;rw [List.set_append_right _ _ aG]
  congr 2
  simp
theorem Ye {w:World} {base g n cp:Nat} {L:List Ins} (h:w.ownsRow base 77 4 (.slice (some ⟨g,0,none⟩) n cp) n (fV L)) (hn:n=L.length) (j:Nat) (hj:j<n) (v:Int):
 (w.setCell ⟨g,j*4+1,none⟩ (.int .i64 v)).ownsRow base 77 4 (.slice (some ⟨g,0,none⟩) n cp) n (fV (om L j v)):=by
 rcases h.2 with⟨hv,h0⟩|⟨g',c',cur,hv,hb,hc,hnc,hcm,hcs,htk⟩
 ·omega
 ·obtain⟨rfl,rfl⟩:g=g'/\cp=c':=by simpa using hv
  refine⟨by rw [je];simp [om,hn],.inr ⟨g,cp,cur.setIfInBounds (j*4+1) (.int .i64 v),rfl,hb,?_,hnc,hcm,by simpa using hcs,?_⟩⟩
  ·simp [World.setCell,Array.getElem?_modify,hc]
  ·rw [Array.toList_setIfInBounds,List.take_set,htk,LC _ _ _ aj]
theorem Uu {w:World} {base:Nat} {A:Option Addr} {n cp:Nat} {L:List Ins} (h:w.ownsRow base 77 4 (.slice A n cp) n (fV L)) (hn:0<n):∃g,A=some ⟨g,0,none⟩/\base<=g/\g<w.heap.size/\(∀k,w.frozen? ⟨g,k,none⟩=false)/\Row w g 0 (fV L):=by
 rcases h.2 with⟨hv,h0⟩|⟨g,c,cur,hv,hb,hc,hnc,hcm,hcs,htk⟩
 ·omega
 ·refine⟨g,by injection hv,hb,(Array.getElem?_eq_some_iff.1 hc).1,λk=>by simp [World.frozen?,hc],?_⟩
  have hl:=h.1;refine⟨?_,?_,(Array.getElem?_eq_some_iff.1 hc).1⟩
  ·unfold Proofs.YtbfbabbcdochjaaGreatDoor.has;rw [hc,hl];simp;rw [hcs];exact Nat.mul_le_mul_right 4 hnc
  ·unfold gets;rw [hc,hl];simp only [List.drop_zero];rw [htk]
theorem Xp {L:List Ins} {j:Nat} {v:Int} (h:∀i∈L,i.ok) (hj:j<L.length) (hv:aL v):∀i∈om L j v,i.ok:=λi hi=>by
 rcases List.mem_or_eq_of_mem_set hi with q|q
 ·exact h i q
 ·have:=h _ (List.getElem_mem hj)
  subst q;simp only [List.getD_eq_getElem?_getD,List.getElem?_eq_getElem hj,Option.getD_some];exact⟨this.op,hv,this.b,this.c⟩
theorem MS.aaJ {w w1:World} {B N mb wm sm em f:Nat} {p:Pr} {c:Pc} {b:Int} {W:Wd} {L L':List Ins} {A:Option Addr} {n cp:Nat} (h:MS w B N mb p c b wm sm em f W L) (hb:aH w mb 160 (nN A n cp c b wm f sm em)) (ho:w.ownsRow B 77 4 (.slice A n cp) n (fV L))
 (hk:Kept (λi=>(Value.slice A n cp).ownBlock=some i) w w1) (ho':w1.ownsRow B 77 4 (.slice A n cp) n (fV L')) (hok:∀i∈L',i.ok):
 MS w1 B N mb p c b wm sm em f W L'/\KT B wm w w1:=by
 have hmb:¬(Value.slice A n cp).ownBlock=some mb:=λq=>dI ho (E':=160) ak mb q _ _ hb;have hb1:=bK hb hk hmb
 have hmap:∀g es clock,w.heap[g]?=some (.map es clock)->¬(Value.slice A n cp).ownBlock=some g:=λg es clock e q=>by
  obtain⟨cur,e'⟩:=oC ho q;rw [e]at e'
  cases e'
 have kk:KT B wm w w1:=KT.gy ho hk;refine⟨⟨⟨A,n,cp,hb1,ho'⟩,h.prog.kept kk.below (Nat.le_trans h.hN h.hB) (λi q=>Nat.le_trans h.hN q),?_,?_,?_,h.hN,Nat.le_trans h.hB kk.size,h.GA,h.wmB,hok⟩,kk⟩
 ·obtain⟨F,h3,h4⟩:=h.words
  obtain⟨es,clock,he,r⟩:=h3;exact⟨F,SMap.kept (f:=F) ⟨es,clock,he,r⟩ hk (hmap _ _ _ he),h4⟩
 ·obtain⟨es,clock,he,r⟩:=h.vS
  exact dx.kept (f:=yL) ⟨es,clock,he,r⟩ hk (hmap _ _ _ he)
 ·obtain⟨es,clock,he,r⟩:=h.Ql
  exact dx.kept (f:=gP) ⟨es,clock,he,r⟩ hk (hmap _ _ _ he)
theorem MS.drew {w:World} {B N mb wm sm em f:Nat} {p:Pr} {c:Pc} {b:Int} {W:Wd} {L:List Ins} (h:MS w B N mb p c b wm sm em f W L):MS w.drew B N mb p c b wm sm em f W L:=h.ext (kR _ w).drew
theorem yD (B N mb wm sm em f:Nat) (p:Pr) (c:Pc) (b:Int) (W:Wd) (L:List Ins) (j:Nat) (hj:j<L.length) (hL:L.length<=5000) (w:World) (h:MS w B N mb p c b wm sm em f W L):
 Calls prog 165 #[.pointer (some ⟨mb,0,none⟩),.int .i64 j] w λe w'=>e=.returned (.tuple #[])/\MS w' B N mb p c b wm sm em f W (om L j L.length)/\KT B wm w w':=by
 obtain⟨A,n,cp,h1,h2⟩:=h.blk;have hn:=h.len h2;obtain⟨g,rfl,hgB,hgl,hgf,hrow⟩:=Uu h2 aj;have hne:¬mb=g:=λq=>dI h2 (E':=160) ak g rfl _ _ (by rw [<-q];exact h1);have nD:=J hne;have hog:=Ye h2 hn j aj L.length;have hkk:Kept (λi=>(Value.slice (some ⟨g,0,none⟩) n cp).ownBlock=some i) w (w.setCell ⟨g,j*4+1,none⟩ (.int .i64 L.length)):=Kept.setCell (kR _ _) _ _ (λ_=>rfl);obtain⟨jM,hKT⟩:=h.aaJ h1 h2 hkk hog (Xp h.okL hj jP);have Ad:=J jM.drew;have HKT:=J (hKT.trans (KT.ext (kR (λ_=>False) (w.setCell ⟨g,j*4+1,none⟩ (.int .i64 L.length))).drew));have H1:=J h1;have HN:=J hn;have hjn:j<n:=by omega
 have hjI:(j:Int)<n:=by omega
 have hj0:(0:Int)<=j:=by omega
 have hnb:n<=5000:=by omega
 have hgd:w.drew.frozen? ⟨g,j*4+1,none⟩=false:=hgf _;have amr:g<w.drew.heap.size:=hgl
 obtain⟨v0,hv0⟩:∃v0,w.cell? ⟨g,j*4+1,none⟩=some v0:=by
  have hl:j*4+1<(fV L).length:=by rw [je];omega
  have:=hrow.cell (j*4+1) hl;rw [Nat.zero_add,List.getElem?_eq_getElem hl]at this;exact⟨_,this⟩
 clear h h2 jM hKT hkk hog hrow h1 hn hj hL hne;go_enter func165,ntmps165;go_upto_region 0 with(fail);refine gM (λw2=>Kept (·=g) w w2) [(0,2),(1,2),(2,2),(3,1),(4,2),(5,2),(6,2),(7,2),(8,1),(9,2),(10,2),(11,2),(12,0)] ?_;refine gN ?_
 (repeat first|refine cu ?_|refine dL (Kept.drew (kR _ _)) (by intro w1 hS;have d1:=bC (bK H1.out hS nD.out);have d2:=(bK H1.out hS nD.out).lt;exact gX) ?_|refine dK (Kept.drew (kR _ _)) ?_)
 (refine aC (λK hK=>?_);go_simp)
 refine hK.out _ _ (λ_=>(Kept.setCell (S:=(·=g)) (kR _ w) ⟨g,j*4+1,none⟩ (.int .i64 n) (λ_=>rfl)).drew) ?_;clear hK K;refine gI ?_;go_wp2_with fail;go_end0;have hm:=Ad.out;have hkt:=HKT.out;have e1:=HN.out;rw [<-e1]at hm hkt⊢;exact⟨rfl,hm,hkt⟩
end Go.Proofs.YtbfbabbcdochjaaGreatDoor
