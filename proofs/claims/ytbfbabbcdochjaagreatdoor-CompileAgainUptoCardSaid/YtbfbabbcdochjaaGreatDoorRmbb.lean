/- Several texts joined: Ue, Jl. -/
import Derived.Test.YtbfbabbcdochjaaGreatDoorRmpk
import Derived.Test.YtbfbabbcdochjaaGreatDoorRmaz
import Derived.Test.YtbfbabbcdochjaaGreatDoorRmba
set_option maxHeartbeats 4000000
set_option maxRecDepth 100000
open Go.Proofs.Tryz
namespace Go.Proofs.YtbfbabbcdochjaaGreatDoor
open Go.RowKit So
theorem D9 (κ:Kn) (kind:Int) (s:Str) (low high:Int) (aQ:Nat):NZ (named κ kind s low high aQ):=by
 unfold named target loop;exact NZ.ite (NZ.ay (NZ.must ak) (NZ.ay (NZ.must ak) (NZ.ite (NZ.must ak) NZ.none))) (NZ.ite (NZ.ay (NZ.must ak) (NZ.ay (NZ.must ak) (NZ.ay (NZ.must ak) (NZ.must ak)))) NZ.none)
theorem II (κ:Kn):∀F:EF,NZ (lu κ F)
 | .nil=>NZ.none
 | .cons op n s k r=>by
  rw [qw];exact NZ.ay (NZ.ay (NZ.must ak) (IG κ op n s k)) (II κ r)
theorem jK (part:Nat):∀(F:SF) (κ:Kn) (aQ:Nat) (top:Bool),NZ (bV part κ aQ top F)
 | .nil,_,_,_=>by rw [bV];exact NZ.none
 | .cons kind name e low high l els r,κ,aQ,top=>by
  rw [bV];exact NZ.ay (NZ.ay (NZ.must ak) (NZ.ay (NZ.must ak) (NZ.ay (D9 κ kind name low high aQ) (NZ.ay (II κ e) (NZ.ite (NZ.ay (jK part l κ aQ false) (jK part els κ aQ false)) (NZ.ite (jK part l _ _ false) NZ.none)))))) (jK part r κ aQ top)
theorem aaR (part:Nat) (κ:Kn) (aQ:Nat) (last:Bool) (kind:Int) (name:Str) (e:EF) (low high:Int) (l els:SF):NZ (nu part κ aQ last kind name e low high l els):=by
 unfold nu;exact NZ.ay (NZ.must ak) (NZ.ay (NZ.must ak) (NZ.ay (D9 κ kind name low high aQ) (NZ.ay (II κ e) (NZ.ite (NZ.ay (jK part l κ aQ false) (jK part els κ aQ false)) (NZ.ite (jK part l _ _ false) NZ.none)))))
theorem ME (κ:Kn) (l:List Str) (s:Str):aU κ (l++[s])=upd (aU κ l) s 3:=by
 funext t
 unfold aU upd;rw [List.any_append]
 by_cases h:t=s
 ·subst h;simp
 ·have h2:decide (s=t)=false:=decide_eq_false (λe=>h e.symm)
  simp only [List.any_cons,List.any_nil,h2,Bool.or_false];rw [if_neg h]
theorem NZ.out {o:Option oW} (h:NZ o) {fe:Int} {fn:Str} (e:o=.some ⟨fe,fn⟩):(fe==0)=false:=by simpa using h ⟨fe,fn⟩ e
theorem aan {α:Type} {f:α->Array Value} {P:Program} {T E:TypeId} {sz bytes:Nat} (hE:tQ P T E sz bytes) (hf:∀d,(f d).size=sz) (hfl:∀d,iQ (f d).toList=true) (w:World) (base:Nat) (v:Value) (n:Nat) (xs:List α) (hown:w.ownsRow base E sz v n (aR f xs))
 (A:Option Addr) (m c:Nat) (l:List α) (hm:m=l.length) (hA:A=none->c=0) (hr:0<m->∃b off,A=some ⟨b,off,none⟩/\Row w b off (aR f l)) (hn:(n+m)*bytes<=140737488355328) (hbase:base<=w.heap.size) (h8:8<=bytes:=by omega):
 ∃v' w',(Builtin.append_ #[T,T] T #[v,.slice A m c]).run P w=.ok v' w'/\w'.ownsRow base E sz v' (n+m) (aR f (xs++l))/\Kept (λi=>v.ownBlock=some i) w w'/\(∀i,v'.ownBlock=some i->v.ownBlock=some i∨w.heap.size<=i):=by
 by_cases h0:0<m
 ·obtain⟨b,off,rfl,hrow⟩:=hr h0
  exact Oe hE hf hfl w base v n xs hown b off m c l hm hrow hn hbase h8
 ·obtain rfl:m=0:=by omega
  have hl:l=[]:=List.eq_nil_of_length_eq_zero hm.symm;subst hl;obtain⟨ht,i,z,hi,hz,h1,h2,h3,h4⟩:=hE;have hx0:xs++([]:List α)=xs:=List.append_nil xs;rw [hx0]
  cases A with
  |none=>
   obtain rfl:=hA rfl;exact⟨v,w,run_append_owned_none (P:=P) (w:=w) base T T E i sz ht hi v n (aR f xs) hown,hown,kR _ w,λi h=>.inl h⟩
  |some a=>
   rcases hown.2 with⟨rfl,rfl⟩|⟨g,cap,cur,rfl,hbg,hgc,hnc,hcm,hcs,htake⟩
   ·have hmx:(0:Nat)+0<=maxLen:=by unfold maxLen;omega
    have hx:aR f xs=[]:=List.eq_nil_of_length_eq_zero (by simpa using hown.1);obtain⟨v',w',hrun,ho,hg,hiff⟩:=run_append_own (P:=P) w base T T E i z sz bytes ht hi hz h1 h2 h3 h4 (.slice none 0 0) 0 (aR f xs) hown a 0 c [] aG (λj u h=>by simp at h) (λu h=>by simp at h) hmx hn hbase;have hv:v'=.slice none 0 0:=hiff.2 ⟨rfl,rfl⟩;subst hv;refine⟨_,w',hrun,?_,Kept.uz hg,λi h=>.inl h⟩
    simpa using ho
   ·have hr2:=run_append_room (P:=P) w T T E i ht hi g n cap cur hgc a 0 c [] aG (λj u h=>by simp at h) (λu h=>by simp at h) aj (by rw [h1,hcs];simp;exact Nat.mul_le_mul_right _ hnc)
    obtain⟨v',w',hrun,ho,hg,-⟩:=run_append_own (P:=P) w base T T E i z sz bytes ht hi hz h1 h2 h3 h4 (.slice (some ⟨g,0,none⟩) n cap) n (aR f xs) hown a 0 c [] aG (λj u h=>by simp at h) (λu h=>by simp at h) aj hn hbase;rw [hrun]at hr2;injection hr2 with e1 e2;subst e1;refine⟨_,w',hrun,?_,Kept.uz hg,λi h=>.inl h⟩
    simpa using ho
theorem ahz {F M:World->Value->Value->Value->Nat->Nat->Prop} {G:Prop} (h:(∀W a b c d e,F W a b c d e->M W a b c d e)->G) (h2:∀W a b c d e,F W a b c d e->M W a b c d e):G:=h h2
abbrev WH (c:Pc) (p:Pr) (i N:Nat) (w0:World) (F:SF):Prop:=∀(deep:Nat) (top:Bool) (A:Option Addr) (n k:Nat) (pl:List Str) (B:Option Addr) (bn bc:Nat) (w':World),Ext w0 w'->eO w' w'.heap.size A n pl->(A=none->k=0)->pl.length<=40+deep->deep<=8->iO w0 N B bn F->
 Calls prog 54 #[.agg (dP c A n k),.slice B bn bc,.int .i64 (i:Int),.int .i64 (deep:Int),.bool top] w' λe w2=>e=.returned (.agg (gU (bV i (aU (fB p.vars) pl) deep top F)))/\Ext w' w2
theorem GY (c:Pc) (p:Pr) (i:Nat) (hi:i<5) (N:Nat) (w0:World) (hN:N<=w0.heap.size) (h:lT w0 N c p) (deep:Nat) (hd8:deep<=8) (kind:Int) (name:Str) (e:EF) (low high:Int) (l x:SF) (eA:Option Addr) (ec:Nat) (lA:Option Addr) (lc:Nat) (xA:Option Addr) (xc:Nat) (last:Bool) (hs:name.size<=maxLen)
 (he:g_ w0 N eA e.len e) (hl:iO w0 N lA l.len l) (hx:iO w0 N xA x.len x) (HBL:WH c p i N w0 l) (HBX:WH c p i N w0 x) (A:Option Addr) (n kc:Nat) (pl:List Str) (w:World) (hw:Ext w0 w) (hpl:eO w w.heap.size A n pl) (hAk:A=none->kc=0) (hpn:pl.length<=40+deep):
 Calls prog 94 #[.agg (dP c A n kc),.agg (aB kind name eA e.len ec low high lA l.len lc xA x.len xc),.int .i64 (i:Int),.int .i64 (deep:Int),.bool last] w λe2 w'=>e2=.returned (.agg (gU (nu i (aU (fB p.vars) pl) deep last kind name e low high l x)))/\Ext w w':=by
 obtain⟨κ,V_⟩:∃κ,κ=aU (fB p.vars) pl:=⟨_,rfl⟩;obtain⟨nm,hnm⟩:∃o,o=named κ kind name low high deep:=⟨_,rfl⟩;obtain⟨D,hD0⟩:∃o,o=lu κ e:=⟨_,rfl⟩;obtain⟨st,hst⟩:∃b,b=stands kind i last:=⟨_,rfl⟩;obtain⟨R,hR0⟩:∃o,o=(if kind=2 then ay (bV i κ deep false l) (bV i κ deep false x)else if kind=3 then bV i (upd κ name 3) (deep+1) false l else none):=⟨_,rfl⟩;obtain⟨X,hX⟩:∃X,X=ay (must (jq kind 0 9&&e.len==stmtParts kind) 3 E0) (ay (must st 10 (bZ i)) (ay nm (ay D R))):=⟨_,rfl⟩;have hXE:X=nu i (aU (fB p.vars) pl) deep last kind name e low high l x:=by rw [hX,hst,hnm,hD0,hR0,V_];rfl
 rw [<-hXE];have HX:=J hX;have NR:=J V_;have ZO:=J hnm;have HDE:=J hD0;have HST:=J hst;have Ae:=J hR0;clear hXE hX V_ hnm hD0 hst hR0;have HS0:=J hs;have afP:=J HBL;have ajQ:=J HBX;have Ca:=J (And.intro hpn hd8);have HAK:=J hAk;clear hAk;have HWW:=J hw;have HL0:=J hl;have aks:=J hx;clear hs HBL HBX hpn hd8 hl hx;have hx0:=(((kR (λ_=>False) w).alloc (.cells (dP c A n kc) 120)).alloc (.cells (aB kind name eA e.len ec low high lA l.len lc xA x.len xc) 86)).alloc (.cells #[.int .i64 0,.string ⟨#[]⟩] 60);have hK:=((bN w 120 (dP c A n kc)).alloc (.cells (aB kind name eA e.len ec low high lA l.len lc xA x.len xc) 86)).alloc (.cells #[.int .i64 0,.string ⟨#[]⟩] 60);have hS:=(aH.new' (w.alloc (.cells (dP c A n kc) 120)) 86 (aB kind name eA e.len ec low high lA l.len lc xA x.len xc) (w.heap.size+1) aG).alloc (.cells #[.int .i64 0,.string ⟨#[]⟩] 60);have hD:=aH.new' ((w.alloc (.cells (dP c A n kc) 120)).alloc (.cells (aB kind name eA e.len ec low high lA l.len lc xA x.len xc) 86)) 60 #[.int .i64 0,.string ⟨#[]⟩] (w.heap.size+1+1) aG;go_enter func94,ntmps94;go_upto_region 1 with(fail);have Hw:=J (show N<=w.heap.size from Nat.le_trans hN hw.size);have iY:=J (((h.ext hw hN).ext hx0 Hw.out).mono (show N<=w.heap.size from Hw.out));have HSL:=J (hpl.ext hx0);have dR:=J (show w.heap.size<=_ from hx0.size);have HES:=J ((he.ext hw hN).ext hx0 Hw.out);have HWZ:=J (hw.trans hx0);generalize hW:(((w.alloc (.cells (dP c A n kc) 120)).alloc (.cells (aB kind name eA e.len ec low high lA l.len lc xA x.len xc) 86)).alloc (.cells #[.int .i64 0,.string ⟨#[]⟩] 60))=W at hx0 hK hS hD iY HSL dR HES HWZ⊢;clear hW h hpl he hw;obtain⟨rb,hrb⟩:∃rb,rb=w.heap.size+1+1:=⟨_,rfl⟩;rw [<-hrb]at hD⊢;obtain⟨sb,hsb⟩:∃sb,sb=w.heap.size+1:=⟨_,rfl⟩;rw [<-hsb]at hS⊢;obtain⟨kb,hkb⟩:∃kb,kb=w.heap.size:=⟨_,rfl⟩;rw [<-hkb]at hK⊢;have HRW:=J (show w.heap.size<=rb/\w.heap.size<=kb/\¬sb=kb/\¬rb=kb from⟨by omega,by omega,by omega,by omega⟩);have HD:=J hD;have HX0:=J hx0;have HK:=J hK;have HS:=J hS;clear hD hx0 hrb hsb hK hS hkb;refine ET ?_;intro bU
 cases hb1:jq kind 0 9
 ·have HR:=J (show X=some ⟨3,E0⟩by rw [HX.out,hb1,Bool.false_and,aO,aY])
  refine abW ?_;refine MQ ?_
  (refine aC (λK hK=>?_);go_simp)
  refine(rO _ _ _ _).mono ?_;rintro e w1 ⟨rfl,rfl⟩;rw [hb1];refine hK.out _ _ (λ_=>bU.out) ?_;clear hK K;refine MQ ?_
  (refine aC (λK hK=>?_);go_simp)
  refine hK.out _ _ (λh=>h) ?_;clear hK K;refine MQ ?_;refine gI ?_;have dF:=bU;exact aiZ
 ·obtain⟨k,rfl⟩:∃k:Nat,kind=k:=⟨kind.toNat,by
   have:0<=kind/\kind<=9:=by simpa [jq]using hb1
   omega⟩
  have hk10:k<10:=by
   have:(0:Int)<=k/\(k:Int)<=9:=by simpa [jq]using hb1
   omega
  have ady:=J hk10;refine abW ?_;refine MQ ?_
  (refine aC (λK hK=>?_);go_simp)
  refine(rO _ _ _ _).mono ?_;rintro e w1 ⟨rfl,rfl⟩;rw [hb1];refine hK.out _ _ (λ_=>bU.out) ?_;clear hK K;refine MQ ?_
  (refine aC (λK hK=>?_);go_simp)
  refine(PI k hk10 _).mono ?_;refine Vy ?_;intro w1 dX;clear hK K;have dF:=dX;obtain⟨en,hen⟩:∃en,en=e.len:=⟨_,rfl⟩;have HEN:=J hen
  cases hb2:((e.len:Int)==(stmtParts (k:Int):Int))
  ·have OD:((e.len:Int) !=(stmtParts (k:Int):Int))=true:=by unfold bne;rw [hb2];rfl
   have HR:=J (show X=some ⟨3,E0⟩by rw [HX.out,hb1,<-pz,hb2,Bool.and_false,aO,aY])
   (repeat first|refine cu ?_|refine dL dX.out afb ?_|refine dK dX.out ?_)
   refine gI ?_;exact aiZ
  ·have OD:((e.len:Int) !=(stmtParts (k:Int):Int))=false:=by unfold bne;rw [hb2];rfl
   have eU:=J (show X=ay (must st 10 (bZ i)) (ay nm (ay D R))by rw [HX.out,hb1,<-pz,hb2,Bool.and_true,bL,aX])
   (repeat first|refine cu ?_|refine dL dX.out afb ?_|refine dK dX.out ?_)
   refine gI ?_;clear HX hb1 hb2 OD hk10 hen;refine zy6 ?_;intro fq hmr iw hlr kW JY Gq sZ qE qD oM;go_wp2_with fail;refine(Pw (k:Int) i hi last _).mono ?_;rintro e w2 ⟨rfl,rfl⟩;rw [<-HST.out]
   cases st
   ·
    have HR:=J (show X=some ⟨10,bZ i⟩by rw [eU.out,aO,aY]);go_wp2_with fail;refine(Uq _).mono ?_;rintro e2 w3 ⟨rfl,hx3,hbn⟩;clear fq hmr iw hlr kW JY Gq sZ qE qD oM;have hlb:=hbn.lt;obtain⟨nb,hnb⟩:∃nb,nb=w1.heap.size:=⟨_,rfl⟩;rw [<-hnb]at hbn hlb⊢;clear hnb
    have hcn:w3.cell? ⟨nb,i,none⟩=some (.string (bZ i)):=by
     rw [bC hbn i];exact Sy
    have hi5:(i:Int)<5:=by omega
    have dF:=J (dF.out.trans hx3);refine zy6 ?_;intro fq hmr iw hlr kW JY Gq sZ qE qD oM;clear hx3 hbn;exact ZA
   ·have iZ:=J (show X=ay nm (ay D R)by rw [eU.out,bL,aX])
    clear eU HST;go_wp2_with fail;refine(PG c p A n kc pl (k:Int) name eA e.len ec low high lA l.len lc xA x.len xc deep HS0.out w.heap.size _ (Nat.le_trans dR.out dF.out.size) (iY.out.ext dF.out dR.out) (HSL.out.ext dF.out)).mono ?_;rintro e2 w2 ⟨rfl,hx2⟩;clear fq hmr iw hlr kW JY Gq sZ qE qD oM;have dF:=J (dF.out.trans hx2);clear hx2;rw [<-NR.out,<-ZO.out]
    cases nm with
    |some f=>
     obtain⟨fe,fn⟩:=f;have HNF:=J (NZ.out (D9 _ _ _ _ _ _) ZO.out.symm);have HR:=J (show X=some ⟨fe,fn⟩by rw [iZ.out,aY]);refine acd ?_;intro y3 hV;go_upto_region 6 with(fail);exact aiO
    |none=>
     have fZ:=J (show X=ay D R by rw [iZ.out,aX]);clear iZ;refine abY ?_;intro y3 hV;go_upto_region 6 with(fail);generalize (w2.alloc (.cells #[.int .i64 0,.string ⟨#[]⟩] 60))=W3 at y3 hV⊢;refine zy9 ?_;clear hV y3 dF;intro fb eX xE HZ0 K hK;rintro e2 w4 ⟨rfl,hx4⟩;refine Sr ?_;clear hK K hx4;intro HZ1 dF;obtain⟨hn,hf,b,off,hA,hE⟩:=HES.out;have hm:=hf.max aj;have HA:=J hA;have HE:=J hE;clear hA hE hn hf;have HXS:=dF;go_wp2_with fail
     go_loopw [12] (λt12 wr=>∃(j:Nat) (Q:EF),j+Q.len=e.len/\ay (lu κ Q) R=X/\t12=.int .i64 j/\mK W N Q b (off+j*4)/\Ext W wr) (λt12 _=>e.len - (intOf t12).toNat)
     case atStart=>exact⟨0,e,by rw [Nat.zero_add],by rw [<-HDE.out];exact fZ.out.symm,rfl,by simpa using HE.out,HXS.out⟩
     case round=>
      obtain⟨j,Q,hj,hacc,rfl,hQ,hx⟩:=hrel;have dF:=J hx;have dw:=J hacc;have HQ:=J hQ;clear hx hacc hQ HXS;refine zy6 ?_;intro fq hmr iw hlr kW JY Gq sZ qE qD oM
      cases Q with
      |nil=>
       have hjl:j=e.len:=by simpa [EF.len]using hj
       have hjI:(j:Int)=e.len:=by omega
       have kg:=J (show X=R by rw [<-dw.out];rfl);clear dw;clear hj hjl
       by_cases hk3:k=3
       ·have q3:((k:Int)==3)=true:=by simp [hk3]
        have qj:=J (show X=bV i (upd κ name 3) (deep+1) false l by rw [kg.out,Ae.out,if_neg aj,if_pos aj]);have HDL:=J (RN (show loop κ name low high deep=none by have h:=ZO.out;unfold named at h;rw [if_neg aj,if_pos aj]at h;exact h.symm)).2.2;clear kg Ae hk3;go_upto_region 17 with(fail);clear fq hmr iw hlr kW JY Gq sZ qE qD oM;obtain⟨hs1,hs2,sb2,so2,hs3,hs4⟩:=HSL.out;have Wu:=J (show n=pl.length/\n<=60/\∀w',Ext wr w'->0<n->∃b off,A=some ⟨b,off,none⟩/\Row w' b off (aR Aa pl)from⟨hs1,by have:=Ca.out;omega,λw' hk h0=>⟨sb2,so2,hs3 h0,by rw [vH];exact((hs4 h0).2.ext dF.out).ext hk⟩⟩);have HLP:=J HDL.out;clear hs1 hs2 hs3 hs4;apply ahz (F:=λW2 v77 v80 v83 g2 c2=>Kept (·=kb) wr W2/\aH W2 kb 120 (dP c (some ⟨g2,0,none⟩) (n+1) c2)/\eO W2 W2.heap.size (some ⟨g2,0,none⟩) (n+1) (pl++[name]))
        case h=>
         intro jr;have KEY:=J jr;clear jr;refine Uz (λw1=>Ext wr w1) (.op 1 2 (.op 2 1 (.op 4 2 (.op 5 1 (.fork 0 (.fork 3 (.op 6 0 (.op 7 0 (.op 8 2 (.op 9 0 .nil)))) 6 (.op 3 0 (.op 7 0 (.op 8 2 (.op 9 0 .nil))))) 6 (.op 0 0 (.op 3 0 (.op 7 0 (.op 8 2 (.op 9 0 .nil)))))))))) ?_;refine UA ?_;have tT:=J (show Ext wr wr.drew from(kR _ wr).drew)
         (repeat (first|refine zS ?_|((apply ig);(· exact tT.out);(· go_simp);(· (intro w1 hS;have d0:=bX HK.out (dF.out.trans hS);have d1:=bC d0;have d3:=d0.lt;have d4:=bX HS.out (dF.out.trans hS);have d5:=bC d4;have d6:=d4.lt;go_simp;try with_reducible rfl));refine tO ?_)|((apply h_);(· exact tT.out);(· go_simp);refine tO ?_)))
         refine iE ?_ ?_
         ·(refine dz (λK hK=>?_);go_simp)
          have y1:Ext wr (wr.alloc (.cells #[] 9)).drew:=((kR _ wr).alloc _).drew;have q0:aH (wr.alloc (.cells #[] 9)).drew wr.heap.size 9 #[]:=(bN wr _ _).drew;have n0:wr.heap.size<=wr.heap.size:=Nat.le_refl _;refine hK.out _ _ (λ_=>y1) ?_;clear hK K;generalize (wr.alloc (.cells #[] 9)).drew=V1 at y1 q0⊢;obtain⟨u0,hu0⟩:∃u,u=wr.heap.size:=⟨_,rfl⟩;rw [<-hu0]at q0⊢;have n0:wr.heap.size<=u0:=by omega
          clear hu0;have own:V1.ownsRow wr.heap.size 9 1 (.slice (some ⟨u0,0,none⟩) 0 0) 0 (aR Aa []):=⟨by simp [aR],.inr ⟨u0,0,#[],rfl,n0,q0,Nat.le_refl _,by unfold maxLen;omega,by simp,by simp [aR]⟩⟩
          (repeat refine zS ?_)
          refine iE ?_ ?_
          ·obtain⟨v80,V2,hrun,TS,aaG,-⟩:=aan (f:=Aa) yh (λ_=>rfl) (λ_=>rfl) V1 wr.heap.size (.slice (some ⟨u0,0,none⟩) 0 0) 0 [] own A n kc pl Wu.out.1 HAK.out (Wu.out.2.2 V1 y1) (by have:=Wu.out.2.1;omega) y1.size
           have y2:Ext wr V2:=y1.trans' aaG (λi hi e=>by have e2:u0=i:=Option.some.inj e;omega);refine dz (λK hK=>?_);refine Vz ?_;refine hK.out _ _ (λ_=>y2) ?_;clear hK K hrun;refine m_ ?_;intro K hK;have y3:Ext wr (V2.alloc (.cells #[.string name] 9)):=y2.alloc _;have q6:aH (V2.alloc (.cells #[.string name] 9)) V2.heap.size 9 #[.string name]:=bN V2 _ _;have TS:=bD TS ((kR (λ_=>False) V2).alloc (.cells #[.string name] 9));refine hK.out _ _ (λ_=>y3) ?_;clear hK K;generalize (V2.alloc (.cells #[.string name] 9))=V3 at y3 q6 TS⊢;generalize V2.heap.size=u6 at q6⊢;exact acV
          ·(refine dz (λK hK=>?_);go_simp)
           have y2:Ext wr (V1.alloc (.cells #[.string name] 9)):=y1.alloc _;have q6:aH (V1.alloc (.cells #[.string name] 9)) V1.heap.size 9 #[.string name]:=bN V1 _ _;have q0:=q0.alloc (.cells #[.string name] 9);have own:=bD own ((kR (λ_=>False) V1).alloc (.cells #[.string name] 9));refine hK.out _ _ (λ_=>y2) ?_;clear hK K;generalize (V1.alloc (.cells #[.string name] 9))=V2 at y2 q6 own q0⊢;generalize V1.heap.size=u6 at q6⊢;exact aiK
         ·(refine dz (λK hK=>?_);go_simp)
          have y1:Ext wr (wr.alloc (.cells #[.string name] 9)).drew:=((kR _ wr).alloc _).drew;have q6:aH (wr.alloc (.cells #[.string name] 9)).drew wr.heap.size 9 #[.string name]:=(bN wr _ _).drew;refine hK.out _ _ (λ_=>y1) ?_;clear hK K;generalize (wr.alloc (.cells #[.string name] 9)).drew=V1 at y1 q6⊢;obtain⟨u6,hu6⟩:∃u,u=wr.heap.size:=⟨_,rfl⟩;rw [<-hu6]at q6⊢;clear hu6;refine m_ ?_;intro K hK;have y2:Ext wr (V1.alloc (.cells #[] 9)):=y1.alloc _;have q0:aH (V1.alloc (.cells #[] 9)) V1.heap.size 9 #[]:=bN V1 _ _;have n0:wr.heap.size<=V1.heap.size:=y1.size;have q6:=q6.alloc (.cells #[] 9);refine hK.out _ _ (λ_=>y2) ?_;clear hK K;generalize (V1.alloc (.cells #[] 9))=V2 at y2 q0 q6⊢;generalize V1.heap.size=u0 at q0 n0⊢;have own:V2.ownsRow wr.heap.size 9 1 (.slice (some ⟨u0,0,none⟩) 0 0) 0 (aR Aa []):=⟨by simp [aR],.inr ⟨u0,0,#[],rfl,n0,q0,Nat.le_refl _,by unfold maxLen;omega,by simp,by simp [aR]⟩⟩;exact aiK
        case h2=>
         rintro W2 v77 v80 v83 g2 c2 ⟨Aw,Ls,hr9⟩;have Bw:=J (show Ext w W2 from(HX0.out.trans dF.out).trans' Aw (λi hi e=>by have:=HRW.out.2.1;omega));have HD9:=J (bK (bX HD.out dF.out) Aw HRW.out.2.2.2);have HS9:=J (bK (bX HS.out dF.out) Aw HRW.out.2.2.1);have HR9:=J hr9;have kW:=bC HS9.out;have sZ:=HS9.out.lt;have qE:=bH Ls;have qD:=bG Ls;have oM:=Ls.lt;have hd7:=HLP.out;have hwr:IntKind.i64.wrap ((deep:Int)+1)=((deep+1:Nat):Int):=by rw [IntKind.wrap_i64];omega
         clear Aw Ls hr9;go_wp2_with fail;refine(afP.out (deep+1) false (some ⟨g2,0,none⟩) (n+1) c2 (pl++[name]) lA l.len lc W2 (HWW.out.trans Bw.out) HR9.out (λh=>nomatch h) (by rw [List.length_append];have:=Ca.out.1;simp;omega) aj HL0.out).mono ?_;rintro e2 w5 ⟨rfl,hx5⟩;rw [ME,<-NR.out,<-qj.out];have fq:=bX HD9.out hx5;have hmr:=fq.bF;have iw:=bH fq;have hlr:=fq.lt;have zw:=J (Bw.out.trans hx5);clear kW sZ qE qD oM hx5
         cases X with
         |none=>
          go_wp2_with fail;exact fD results94 rfl rfl fQ (by exact iI) (aH.gL fq 0 _) ⟨rfl,zw.out.putAt _ _ _ (λhlt=>absurd hlt (by have:=HRW.out.1;omega))⟩
         |some f=>
          obtain⟨fe,fn⟩:=f;go_wp2_with fail;exact fD results94 rfl rfl fQ (by exact iI) (aH.gL fq 0 _) ⟨rfl,zw.out.putAt _ _ _ (λhlt=>absurd hlt (by have:=HRW.out.1;omega))⟩
       ·have q3:((k:Int)==3)=false:=by simp;omega
        by_cases hk2:k=2
        ·have q2:((k:Int)==2)=true:=by simp [hk2]
         have qj:=J (show X=ay (bV i κ deep false l) (bV i κ deep false x)by rw [kg.out,Ae.out,if_pos aj]);clear kg Ae hk2 hk3;obtain⟨Z1,hZ1⟩:∃Z,Z=bV i κ deep false l:=⟨_,rfl⟩;obtain⟨Z2,hZ2⟩:∃Z,Z=bV i κ deep false x:=⟨_,rfl⟩;rw [<-hZ1,<-hZ2]at qj;have HZ1:=J hZ1;have HZ2:=J hZ2;clear hZ1 hZ2;go_wp2_with fail;refine(afP.out deep false A n kc pl lA l.len lc _ (HWZ.out.trans dF.out) ((HSL.out.ext dF.out).mono (Nat.le_trans dR.out dF.out.size)) HAK.out Ca.out.1 Ca.out.2 HL0.out).mono ?_;rintro e2 w2 ⟨rfl,hx2⟩;clear fq hmr iw hlr kW JY Gq sZ qE qD oM;have dF:=J (dF.out.trans hx2);clear hx2;rw [<-NR.out,<-HZ1.out]
         cases Z1 with
         |some f=>
          obtain⟨fe,fn⟩:=f;have HNF:=J (NZ.out (jK _ _ _ _ _) HZ1.out.symm);have HR:=J (show X=some ⟨fe,fn⟩by rw [qj.out,aY]);refine acd ?_;intro y3 hV;go_upto_region 21 with(fail);exact aiO
         |none=>
          have sU:=J (show X=Z2 by rw [qj.out,aX]);clear qj HZ1;refine abY ?_;intro y3 hV;go_upto_region 21 with(fail);generalize (w2.alloc (.cells #[.int .i64 0,.string ⟨#[]⟩] 60))=W3 at y3 hV⊢;refine zy9 ?_;clear hV y3 dF;intro fb eX xE HZ0 K hK;rintro e2 w4 ⟨rfl,hx4⟩;refine Sr ?_;clear hK K hx4;intro HZ1 dF;refine zy6 ?_;intro fq hmr iw hlr kW JY Gq sZ qE qD oM;go_wp2_with fail;refine(ajQ.out deep false A n kc pl xA x.len xc _ (HWZ.out.trans dF.out) ((HSL.out.ext dF.out).mono (Nat.le_trans dR.out dF.out.size)) HAK.out Ca.out.1 Ca.out.2 aks.out).mono ?_;rintro e2 w5 ⟨rfl,hx5⟩;clear fq hmr iw hlr kW JY Gq sZ qE qD oM;have dF:=J (dF.out.trans hx5);clear hx5;rw [<-NR.out,<-HZ2.out,<-sU.out];refine zy6 ?_;intro fq hmr iw hlr kW JY Gq sZ qE qD oM
          cases X with
          |none=>
           have HR:=J (show(none:Option oW)=none from rfl);exact ajJ
          |some f=>
           obtain⟨fe,fn⟩:=f;exact ajJ
        ·have q2:((k:Int)==2)=false:=by simp;omega
         have HR:=J (show X=none by rw [kg.out,Ae.out,if_neg aj,if_neg aj]);clear kg Ae hk2 hk3;go_wp2_with fail;refine(lD _).mono ?_;rintro e9 w9 ⟨rfl,Gr⟩;clear fq hmr iw hlr kW JY Gq sZ qE qD oM;have dF:=J (dF.out.trans Gr);refine zy6 ?_;intro fq hmr iw hlr kW JY Gq sZ qE qD oM;clear Gr;exact ZA
      |cons op' m' name' q rr=>
       obtain⟨hb,h1,h2,h3,⟨A',cap,b',off',hh,hg,hl,hA',hk⟩,hr⟩:=HQ.out;simp only [EF.len]at hj;have hlt:(j:Int)<e.len:=by omega
       obtain rfl:=HA.out aj;have hbl:=dF.out.size;have agy:N<=W.heap.size:=Nat.le_trans Hw.out dR.out;have hh':=iB dF.out aj hh;have hg':=gH dF.out aj hg;have hbw:b<wr.heap.size:=by omega
       have KE:=J (show g_ W N A' q.len q from⟨rfl,hl,b',off',hA',hk⟩);have HR2:=J hr;have NS:=J agy;have HH0:=J hh';have HG0:=J hg';clear hh hg hl hA' hk h1 h2 h3 HQ hbl hr hb agy;go_wp2_with fail;refine(UD W q _ _ _ N _ _ _ _ dF.out NS.out KE.out).mono ?_;rintro e3 w5 ⟨rfl,hx5⟩;clear fq hmr iw hlr kW JY Gq sZ qE qD oM;clear hh' hg';obtain⟨d,hd⟩:∃d,d=jW (1+q.deep):=⟨_,rfl⟩;rw [<-hd];have hacc:=dw.out;rw [qw,<-hd]at hacc;obtain⟨f,hf⟩:∃f,f=DC κ op' m' name' q:=⟨_,rfl⟩;rw [<-hf]at hacc;have HF:=J hf;have VP:=J (show X=ay (must (decide (d<=12)) 25 E0) (ay f (ay (lu κ rr) R))by rw [<-hacc,dY,dY]);clear hd hf hacc dw;have HH:=J (iB hx5 hbw HH0.out);have HG:=J (gH hx5 hbw HG0.out);have hbw:=Nat.lt_of_lt_of_le hbw hx5.size;have dF:=J (dF.out.trans hx5);clear hx5 HH0 HG0;refine zy6 ?_;intro fq hmr iw hlr kW JY Gq sZ qE qD oM
       by_cases aaF:d>12
       ·have HR:=J (show X=some ⟨25,E0⟩by rw [VP.out,decide_eq_false aj,aO,aY])
        exact ZA
       ·have HXB:=J (show X=ay f (ay (lu κ rr) R)by rw [VP.out,decide_eq_true aj,bL,aX])
        clear VP;clear fq hmr iw hlr kW JY Gq sZ qE qD oM;go_upto_region 13 with(fail);clear aaF;have ZK:=J (UG c p A n kc pl w.heap.size W dR.out iY.out HSL.out q);apply meet (F:=λW2 fb=>Ext w5 W2/\aH W2 fb 60 (gU f))
        case h=>
         intro jr;have KEY:=J jr;clear jr;refine Uz (λw1=>Ext w5 w1) (.op 0 1 (.op 1 2 (.op 2 1 (.op 3 2 (.op 4 2 (.op 5 1 (.fork 6 (.op 7 0 (.op 8 0 .nil)) 7 (.op 6 0 (.op 8 0 .nil))))))))) ?_;refine UA ?_;have tT:=J (show Ext w5 w5.drew from(kR _ w5).drew)
         (repeat (first|refine zS ?_|((apply ig);(· exact tT.out);(· go_simp);(· (intro w1 hS;have d0:=bX HK.out (dF.out.trans hS);have d1:=bG d0;have d2:=bH d0;have d3:=d0.lt;have d4:=bX HS.out (dF.out.trans hS);have d5:=bC d4;have d6:=d4.lt;have d7:=iB hS hbw HH.out;have d8:=gH hS hbw HG.out;have d9:=Nat.lt_of_lt_of_le hbw hS.size;go_simp;try with_reducible rfl));refine tO ?_)|((apply h_);(· exact tT.out);(· go_simp);refine tO ?_)))
         refine iE ?_ ?_
         ·(refine dz (λK hK=>?_);go_simp)
          refine(ZK.out op' m' name' A' q.len cap N _ (dF.out.trans tT.out) NS.out KE.out).mono ?_;rintro e4 w1 ⟨rfl,hx1⟩;rw [<-NR.out,<-HF.out];have y1:=tT.out.trans hx1;refine hK.out _ _ (λ_=>y1) ?_;clear hK K;refine m_ ?_;intro K hK;refine afs ?_;clear hK K;intro W2 y2 oQ;have hfl:w5.heap.size<=w1.heap.size:=y1.size;exact acZ
         ·(refine dz (λK hK=>?_);go_simp)
          have y1:Ext w5 (w5.alloc (.cells #[.int .i64 0,.string ⟨#[]⟩] 60)).drew:=((kR _ w5).alloc _).drew;refine hK.out _ _ (λ_=>y1) ?_;clear hK K;generalize hW1:(w5.alloc (.cells #[.int .i64 0,.string ⟨#[]⟩] 60)).drew=W1 at y1⊢;have nA:aH W1 w5.heap.size 60 #[.int .i64 0,.string ⟨#[]⟩]:=by rw [<-hW1];exact aH.drew (bN w5 _ _)
          clear hW1;have hfl:w5.heap.size<=w5.heap.size:=Nat.le_refl _;generalize Ir:(w5.heap.size:Nat)=fb at nA hfl⊢;have qZ:=J (show w5.heap.size<=fb by omega);clear hfl Ir;have dX:=J y1
          (repeat refine zS ?_)
          (repeat (first|refine zS ?_|((apply ig);(· exact dX.out);(· go_simp);(· (intro w1 hS;have d0:=bX HK.out (dF.out.trans hS);have d1:=bG d0;have d2:=bH d0;have d3:=d0.lt;have d4:=bX HS.out (dF.out.trans hS);have d5:=bC d4;have d6:=d4.lt;have d7:=iB hS hbw HH.out;have d8:=gH hS hbw HG.out;have d9:=Nat.lt_of_lt_of_le hbw hS.size;go_simp;try with_reducible rfl));refine tO ?_)|((apply h_);(· exact dX.out);(· go_simp);refine tO ?_)))
          (refine dz (λK hK=>?_);go_simp)
          refine(ZK.out op' m' name' A' q.len cap N _ (dF.out.trans dX.out) NS.out KE.out).mono ?_;rintro e4 w1 ⟨rfl,hx1⟩;rw [<-NR.out,<-HF.out];exact acY
        case h2=>
         rintro W2 fb ⟨y2,oQ⟩;have xE:=J oQ;have fH:=J (dF.out.trans y2);clear oQ y2 dF
         cases f with
         |none=>
          go_upto_region 14 with(fail);refine M4 ?_;intro HZ0;refine M6 ?_;refine Bn ?_;intro K hK;rintro e4 w1 ⟨rfl,hx1⟩;refine M7 ?_;clear hK K hx1;intro HZ1;go_wp2_with fail;go_roundw
          case rel=>exact⟨j+1,rr,by omega,by rw [HXB.out,aX],by go_num,by rw [Nat.add_mul,<-Nat.add_assoc];exact HR2.out,fH.out.trans HZ1.out⟩
          case measure=>simp only [intOf];omega
         |some f=>
          obtain⟨fe,fn⟩:=f;have hnz:=NZ.out (IG κ op' m' name' q) HF.out.symm;have HR:=J (show X=some ⟨fe,fn⟩by rw [HXB.out,aY]);go_upto_region 14 with(fail);refine M4 ?_;intro HZ0;refine M6 ?_;refine Bn ?_;intro K hK;rintro e4 w1 ⟨rfl,hx1⟩;refine M7 ?_;clear hK K hx1;intro HZ1;have dF:=J (fH.out.trans HZ1.out);exact adl
open Go.RowKit So Mc
theorem aij (d:Vr):iQ (aJ d).toList=true:=rfl
theorem QI (A:Option Addr) (cap N:Nat) (l:List Vr) (n:Nat) (w:World) (hv:tL w N A n l) (hn2:n<=1000):
 Calls prog 45 #[.slice A n cap] w λe w'=>∃A' c',e=.returned (.slice A' n c')/\tL w' w'.heap.size A' n l/\Ext w w':=by
 obtain⟨hn,hf,hok,b,off,hA,hE⟩:=hv
 cases A with
 |none=>
  have h0:n=0:=by
   rcases Nat.eq_zero_or_pos n with h|h
   ·exact h
   ·cases hA h
  subst h0;have heq:=λw=>Lib.run_eql_slice_nil (P:=prog) w 54 109 none 0 cap 0 0 underlying54;simp only [Option.isNone_none]at heq;have HN:=J hn;have HF:=J hf;clear hn hf hA hE;go_enter func45,ntmps45;go_wp2_with fail;go_ret;exact⟨none,0,rfl,⟨HN.out,HF.out,hok,0,0,λh=>by omega,λh=>by omega⟩,kR _ _⟩
 |some a=>
  obtain⟨v2,w2,hr2,ho2,hk2,hg2⟩:=aan (f:=aJ) KP (λ_=>rfl) aij (w.alloc (.cells #[] 109)) w.heap.size (.slice (some ⟨w.heap.size,0,none⟩) 0 0) 0 [] (vv w 109 4) (some a) n cap l hn (λh=>by cases h) (λh=>⟨b,off,hA h,((hE h).2).ext ((kR _ w).alloc _)⟩) aj aG;have heq:=λw=>Lib.run_eql_slice_nil (P:=prog) w 54 109 (some a) n cap 0 0 underlying54;simp only [Option.isNone_some]at heq;have HN:=J hn;have HF:=J hf;clear hn hf hA hE;go_enter func45,ntmps45;go_upto_region 3 with(fail);go_step
  iterate 2 refine qY ?_
  refine fM rfl (.tmp 5) (.tmp 6) 54 rfl rfl rfl rfl hr2 ?_;clear hr2;go_wp2_with fail;go_ret;rw [Nat.zero_add,List.nil_append]at ho2;have hx:Ext w w2:=((kR _ w).alloc _).trans' hk2 (λi hi e=>by simp [Value.ownBlock]at e;omega)
  by_cases hz:0<n
  ·obtain⟨g,c,rfl,hrow,-,-⟩:=gu ho2 hz ak
   exact⟨_,c,rfl,⟨HN.out,HF.out,hok,g,0,λ_=>rfl,λ_=>⟨hrow.lt,hrow⟩⟩,hx⟩
  ·rcases ho2.2 with⟨hv,h0⟩|⟨g,c,cur,hv,_⟩
   ·subst hv
    have h0:n=0:=by omega
    subst h0;exact⟨none,0,rfl,⟨HN.out,HF.out,hok,0,0,λh=>by omega,λh=>by omega⟩,hx⟩
   ·subst hv
    exact⟨_,c,rfl,⟨HN.out,HF.out,hok,0,0,λh=>absurd h hz,λh=>absurd h hz⟩,hx⟩
end Go.Proofs.YtbfbabbcdochjaaGreatDoor
