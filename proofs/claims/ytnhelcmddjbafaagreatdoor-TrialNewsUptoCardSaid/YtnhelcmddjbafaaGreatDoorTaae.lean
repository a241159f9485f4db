import Derived.Defers
import Derived.Recover
import Derived.Test.YtnhelcmddjbafaaGreatDoorTaad
set_option maxHeartbeats 4000000
set_option maxRecDepth 100000
open Go.Proofs.Tryz
namespace Go.Proofs.YtnhelcmddjbafaaGreatDoor
open Go.RowKit Sq
variable{κ:Kn}
def Vd (f:oq):List PanicEntry:=[{v:=.iface 225 (.agg #[.int .i64 f.e,.string f.name]),recovered:=false}]
def cP:Option oq->Ending->Prop
 |none,e=>e=.returned (.tuple #[])
 |some f,e=>e=.panicked (Vd f)
theorem bj (ok) (er) (s:Str) (w):Calls prog 194 #[.bool ok,.int .i64 er,.string s] w λe w'=>cP (must ok er s) e/\w=w':=by
 cases ok
 .go_enter func194,ntmps194
  go_wp21;exact⟨rfl,rfl,rfl⟩
 .go_enter func194,ntmps194
  go_wp21;go_end0;exact⟨rfl,rfl⟩
def IF (κ:Kn):ByteArray->Option Value:=λs=>if κ s=0 then none else some (.int .i64 ((κ s:Int) - 1))
structure Ck (w:World) (cb g:Nat) (κ:Kn) (part:Str) (aU:Nat):Prop where
 blk:aj w cb 282 #[.map (some g),.string part,.int .i64 aU]
 map:dt w g (IF κ)
theorem Ck.ext {w w'} {cb g} {part} {aU} (h:Ck w cb g κ part aU) (hk:al w w'):Ck w' cb g κ part aU:=⟨bX h.blk hk,h.map.ext hk⟩
theorem Hg (w:World):(zeroValue 339).run prog w=.ok (.int .i64 0) w:=by
 first|kernel_rfl|rfl
theorem lB (cb g) (κ) (part) (aU:Nat) (s:Str) (w:World) (h:Ck w cb g κ part aU):Calls prog 196 #[.pointer (some ⟨cb,0,none⟩),.string s] w λe w'=>e=.returned (.bool (κ s !=0))/\w=w':=by
 have ur:=dt.look_ok (P:=prog) h.map underlying280 underlying9 (z:=.int .i64 0) Hg s;have hc:=bC h.blk;have hl:=h.blk.lt;obtain⟨r,hr⟩:=nm' ((κ s !=0));rw [<-hr]
 by_cases hz:κ s=0
 .have hq:IF κ s=none:=by unfold IF;rw [av hz]
  have HF:=show r=false by rw [hr,hz];rfl
  rw [hq]at ur;go_enter func196,ntmps196;go_wp21;go_ret;exact⟨aV HF.symm,rfl⟩
 .have hq:IF κ s=some (.int .i64 ((κ s:Int) - 1)):=by unfold IF;rw [af hz]
  have HF:=show r=true by rw [hr];simpa using hz
  rw [hq]at ur;generalize (κ s:Int) - 1=x at ur;go_enter func196,ntmps196;go_wp21;go_ret;exact⟨aV HF.symm,rfl⟩
theorem cP.none {e} (h:cP none e):e=.returned (.tuple #[]):=h
theorem cP.some {f} {e} (h:cP (some f) e):e=.panicked (Vd f):=h
abbrev afk (cb:Nat) (κ:Kn) (w:World) (F:EF):Prop:=∀(op m:Int) (s:Str) (B:Option Addr) (kn kc N:Nat) (w':World),al w w'->N<=w.heap.size->lJ w N B kn F->
 Calls prog 335 #[.pointer (some ⟨cb,0,none⟩),.agg (aF op m s B kn kc)] w' λe w2=>cP (Cs κ op m s F) e/\al w' w2
theorem ajo {w} {cb g} {part} {aU} (h:Ck w cb g κ part aU) (s:Str):(Instr.lookup 280 (.map (some g)) (.string s) false).run prog w=.ok (.int .i64 ((κ s:Int) - 1+(if κ s=0 then 1 else 0))) w:=by
 have ur:=dt.look (P:=prog) h.map underlying280 underlying9 (z:=.int .i64 0) Hg s;rw [ur];unfold IF
 split<;>simp [*]
theorem U_ (cb g) (κ) (part) (aU) (w0:World) (hC:Ck w0 cb g κ part aU) (hL:ew w0) (F:EF):afk cb κ w0 F:=by
 refine rP (C:=afk cb κ w0) ?_ F;intro F IH op m s B kn kc N0 w aK Rs hes;obtain⟨X,hX⟩:=nm' (Cs κ op m s F);rw [<-hX];obtain⟨r,hr⟩:=nm' (mB κ F);have hX2:X=ak (jL κ op m s kn) r:=by rw [hX,hr,hes.1];rfl
 have fN:=J hX2;have HEQ:=J hr.symm;clear hX hX2 hr;obtain⟨hn,hf,b,off,hA,hE⟩:=hes;refine zi ?_;intro hm HN HA HE;have HI:=J IH;clear hn hA hE IH hf;have aB:=dz w (.cells (aF op m s B kn kc) 354);have vD:=bN w 354 (aF op m s B kn kc);go_enter func335,ntmps335;go_upto_region 1 with(fail);generalize hW:(w.alloc (.cells (aF op m s B kn kc) 354))=W at aB vD⊢;generalize w.heap.size=eb at vD⊢;clear hW;have⟨mf,dX,tO,yh⟩:=J4' vD aB (hC.ext (aK.trans aB)) (hL.ext (aK.trans aB));refine El ?_;intro bT;clear vD aB
 cases jq:iX op 0 17
 .have HR:=J (show X=some ⟨3,E0⟩by rw [fN.o];unfold jL;rw [jq];rfl)
  refine adt ?_;refine xM ?_;refine ap (λK hK=>?_);go_simp;refine uW (fG _ _ _ _) ?_;rw [jq];refine hK.out _ _ (λ_=>bT.o) ?_;clear hK K;refine xM ?_;exact anH
 .obtain⟨k,rfl⟩:∃k:Nat,op=k:=⟨op.toNat,by simp [iX]at jq;omega⟩
  have akg:k<18:=by simp [iX]at jq;omega
  have hkI:(k:Int)<18:=by omega
  have HT:=J (yh.o.ex k akg);have MY:=J jq;refine adt ?_
  repeat first|refine bV ?_|refine cF bT.o ahA ?_|refine cD bT.o ?_
  refine ap (λK hK=>?_);go_simp;refine uW (fG _ _ _ _) ?_;rw [jq];refine hK.out _ _ (λ_=>bT.o) ?_;clear hK K
  cases jF:((kn:Int)==(exprParts k:Int))
  .have HR:=J (show X=some ⟨3,E0⟩by rw [fN.o];unfold jL;rw [MY.o,<-oF,jF];rfl)
   repeat first|refine bV ?_|refine cF bT.o ahA ?_|refine cD bT.o ?_
   exact anH
  .have gO:gq (X=ak (if (k:Int)=0 then must (word m) 2 E0 else if (k:Int)=1∨(k:Int)=2 then ak (must (κ s !=0) 6 s) (must ((κ s==2)==((k:Int)==2)) 11 s)else none) r):=J (by rw [fN.o];unfold jL;rw [MY.o,<-oF,jF];rfl)
   repeat first|refine bV ?_|refine cF bT.o ahA ?_|refine cD bT.o ?_
   refine dJ bd bd (λK hK=>?_);go_simp;refine(bj true _ _ _).mono ?_;rintro e w1 ⟨he,rfl⟩;have he:=cP.none he;subst he;refine hK.out _ _ ?_;clear hK K;refine fc ?_;have ys:=bT.o;have zE:=bC (bX mf.o ys);have CQ:=(bX mf.o ys).lt;clear jq jF akg hkI
   by_cases YF:k=0
   .subst YF
    have eK:gq (X=ak (must (word m) 2 E0) r):=J VB;clear gO;go_wp21;refine uW (fM _ _) ?_
    cases hw:word m
    .have HR:=J (show X=some ⟨2,E0⟩by rw [eK.o,hw];rfl)
     go_wp21;refine(bj false _ _ _).mono ?_;rintro e w1 ⟨he,rfl⟩;have he:e=.panicked (Vd ⟨2,E0⟩):=he;subst he;show _/\_;exact⟨rfl,by rw [HR.o];exact⟨rfl,dX.o.trans ys⟩⟩
    .have mI:=J (show X=r by rw [eK.o,hw];rfl)
     go_wp21;refine(bj true _ _ _).mono ?_;rintro e w1 ⟨he,rfl⟩;have he:=cP.none he;subst he;exact aid
   .have q0:((k:Int)==0)=false:=by simp;omega
    by_cases zN:k=1
    .subst zN
     have eK:gq (X=ak (ak (must (κ s !=0) 6 s) (must ((κ s==2)==false) 11 s)) r):=J VB;clear gO;go_upto_region 7 with(fail);obtain⟨v,hv⟩:=nm' (κ s);have HV:=J hv;rw [<-hv]at eK;clear hv;generalize Fh:W.drew=W2 at ys zE CQ⊢;clear Fh;have fg:=J ys;refine eW (λw1=>al W2 w1) [(0,2),(1,2),(2,1),(4,2),(5,1),(3,0),(6,0)] ?_;refine eX ?_;have eL:=J (pj W2)
     repeat first|refine bV ?_|refine cF eL.o Vv ?_|refine cD eL.o ?_
     refine ap (λK hK=>?_);go_simp;refine uW (lB cb g κ part aU s _ (tO.o.ext (fg.o.trans eL.o))) ?_;rw [<-HV.o];refine hK.out _ _ (λ_=>eL.o) ?_;clear hK K
     repeat first|refine bV ?_|refine cF eL.o Vv ?_|refine cD eL.o ?_
     refine dJ bd bd (λK hK=>?_);go_simp
     by_cases jB:v=0
     .have qv:(v !=0)=false:=by simp [jB]
      exact anD
     .have qv:(v !=0)=true:=by simp [jB]
      rw [qv]at eK⊢;refine(bj true _ _ _).mono ?_;rintro e w1 ⟨he,rfl⟩;have he:=cP.none he;subst he;refine amH ?_;clear hK K ys zE CQ;intro W3 eP rz;have hvI:((v:Int) - 1+(if v=0 then 1 else 0))=(v:Int) - 1:=by rw [af jB];omega
      refine aaK ?_
      by_cases Nj:v=2
      .have LN:((v:Int) - 1==1)=true:=by simp [Nj]
       have qn:(v==2)=true:=by simp [Nj]
       exact anq
      .have LN:((v:Int) - 1==1)=false:=by simp;omega
       have qn:(v==2)=false:=by simp [Nj]
       exact amL
    .have q1:((k:Int)==1)=false:=by simp;omega
     by_cases n9:k=2
     .subst n9
      have eK:gq (X=ak (ak (must (κ s !=0) 6 s) (must ((κ s==2)==true) 11 s)) r):=J VB;clear gO;go_upto_region 7 with(fail);obtain⟨v,hv⟩:=nm' (κ s);have HV:=J hv;rw [<-hv]at eK;clear hv;generalize Fh:W.drew=W2 at ys zE CQ⊢;clear Fh;have fg:=J ys;refine eW (λw1=>al W2 w1) [(0,2),(1,2),(2,1),(4,2),(5,1),(3,0),(6,0)] ?_;refine eX ?_;have eL:=J (pj W2)
      repeat first|refine bV ?_|refine cF eL.o Vv ?_|refine cD eL.o ?_
      refine ap (λK hK=>?_);go_simp;refine uW (lB cb g κ part aU s _ (tO.o.ext (fg.o.trans eL.o))) ?_;rw [<-HV.o];refine hK.out _ _ (λ_=>eL.o) ?_;clear hK K
      repeat first|refine bV ?_|refine cF eL.o Vv ?_|refine cD eL.o ?_
      refine dJ bd bd (λK hK=>?_);go_simp
      by_cases jB:v=0
      .have qv:(v !=0)=false:=by simp [jB]
       exact anD
      .have qv:(v !=0)=true:=by simp [jB]
       rw [qv]at eK⊢;refine(bj true _ _ _).mono ?_;rintro e w1 ⟨he,rfl⟩;have he:=cP.none he;subst he;refine amH ?_;clear hK K ys zE CQ;intro W3 eP rz;have hvI:((v:Int) - 1+(if v=0 then 1 else 0))=(v:Int) - 1:=by rw [af jB];omega
       refine aaK ?_
       by_cases Nj:v=2
       .have LN:((v:Int) - 1==1)=true:=by simp [Nj]
        have qn:(v==2)=true:=by simp [Nj]
        exact amL
       .have LN:((v:Int) - 1==1)=false:=by simp;omega
        have qn:(v==2)=false:=by simp [Nj]
        exact anq
     .have q2:((k:Int)==2)=false:=by simp;omega
      have mI:=J (show X=r by rw [gO.o,af ad,af ad];rfl);exact aid
theorem P9 (cb g) (κ) (i aU:Nat) (hi:i<5) (k:Int) (l:Bool) (w:World) (hC:Ck w cb g κ (bZ i) aU):Calls prog 331 #[.pointer (some ⟨cb,0,none⟩),.int .i64 k,.bool l] w λe w'=>e=.returned (.bool (stands k i l))/\w=w':=by
 have hc:=bC hC.blk;have hl:=hC.blk.lt
 rcases(by omega:i=0∨i=1∨i=2∨i=3∨i=4)with rfl|rfl|rfl|rfl|rfl
 all_goals
  simp only [bZ,P2,li,f_,Jq,om]at hc;go_enter func331,ntmps331;go_wp21
  all_goals go_ret
  all_goals refine⟨aV ?_,rfl⟩
  all_goals first|(simp_all [stands];done)|(simp_all [stands,Jt];done)|(simp_all [stands,Jt];decide)|(simp_all [stands,ByteArray.toList_eq])
theorem Qb (cb g) (κ) (part) (aU) (kind:Int) (s:Str) (eA:Option Addr) (en ec:Nat) (low high:Int) (lA:Option Addr) (ln lc:Nat) (xA:Option Addr) (xn xc:Nat) (hk:kind=0∨kind=1∨kind=5) (w:World) (hC:Ck w cb g κ part aU):
 Calls prog 332 #[.pointer (some ⟨cb,0,none⟩),.agg (au kind s eA en ec low high lA ln lc xA xn xc)] w λe w'=>cP (target κ kind s low) e/\al w w':=by
 obtain⟨X,hX⟩:=nm' (target κ kind s low);rw [<-hX];obtain⟨v,hv⟩:=nm' (κ s);have HV:=J hv;have fN:gq (X=ak (must (v !=0) 6 s) (ak (must (v==(if kind=1 then 2 else 1)) 11 s) (if kind=5 then must (iX low 2 1000) 2 s else none))):=J (by rw [hX,hv];rfl);clear hX hv;have aB:=dz w (.cells (au kind s eA en ec low high lA ln lc xA xn xc) 288);have vD:=bN w 288 (au kind s eA en ec low high lA ln lc xA xn xc);go_enter func332,ntmps332;go_upto_region 1 with(fail);generalize hW:(w.alloc (.cells (au kind s eA en ec low high lA ln lc xA xn xc) 288))=W at aB vD⊢;generalize w.heap.size=eb at vD⊢;clear hW;have⟨mf,dX,tO⟩:=J3' vD aB (hC.ext aB);clear vD aB hC;refine eW (λw1=>al W w1) [(0,2),(1,2),(2,1),(4,2),(5,1),(3,0),(6,0)] ?_;refine eX ?_;refine El ?_;intro bT;refine xM ?_;refine ap (λK hK=>?_);go_simp;refine uW (lB cb g κ part aU s _ (tO.o.ext bT.o)) ?_;rw [<-HV.o];refine hK.out _ _ (λ_=>bT.o) ?_;clear hK K;refine xM ?_;refine dJ bd bd (λK hK=>?_);go_simp;have HX:=J (dX.o.trans bT.o)
 by_cases jB:v=0
 .have qv:(v !=0)=false:=by simp [jB]
  have HR:=J (show X=some ⟨6,s⟩by rw [fN.o,qv];rfl);rw [qv];exact rf
 .have qv:(v !=0)=true:=by simp [jB]
  have gO:gq (X=ak (must (v==(if kind=1 then 2 else 1)) 11 s) (if kind=5 then must (iX low 2 1000) 2 s else none)):=J (by rw [fN.o,qv];rfl);rw [qv];refine(bj true _ _ _).mono ?_;rintro e w1 ⟨he,rfl⟩;have he:=cP.none he;subst he;refine hK.out _ _ ?_;clear hK K;refine fc ?_;have dR:=bT;have zE:=bC (bX mf.o dR.o);have CQ:=(bX mf.o dR.o).lt;have hvI:((v:Int) - 1+(if v=0 then 1 else 0))=(v:Int) - 1:=by rw [af jB];omega
  rcases hk with rfl|rfl|rfl
  ·
   have eK:gq (X=must (v==1) 11 s):=J (by rw [gO.o];simp);go_upto_region 5 with(fail);clear zE CQ;generalize Yd:W.drew=W3 at dR⊢;have eP:=J dR.o;clear Yd;refine aaq ?_;have rz:=J (pj W3);refine aaK ?_;have HX:=J (dX.o.trans (eP.o.trans rz.o));clear hvI
   by_cases oE:v=1
   .have LN:((v:Int) - 1==0)=true:=by simp [oE]
    exact anm
   .have LN:((v:Int) - 1==0)=false:=by simp;omega
    exact ant
  ·
   have eK:gq (X=must (v==2) 11 s):=J (by rw [gO.o];simp);go_upto_region 5 with(fail);clear zE CQ;generalize Yd:W.drew=W3 at dR⊢;have eP:=J dR.o;clear Yd;refine aaq ?_;have rz:=J (pj W3);refine aaK ?_;have HX:=J (dX.o.trans (eP.o.trans rz.o));clear hvI
   by_cases oE:v=2
   .have LN:((v:Int) - 1==1)=true:=by simp [oE]
    exact anm
   .have LN:((v:Int) - 1==1)=false:=by simp;omega
    have qn:(v==2)=false:=by simp [oE]
    have HR:=J (show X=some ⟨11,s⟩by rw [eK.o,qn];rfl);refine ML ?_;intro K hK
    try rw [LN]
    exact rf
  ·
   have eK:gq (X=ak (must (v==1) 11 s) (must (iX low 2 1000) 2 s)):=J (by rw [gO.o];simp);go_upto_region 5 with(fail);clear zE CQ;generalize Yd:W.drew=W3 at dR⊢;have eP:=J dR.o;clear Yd;refine aaq ?_;have rz:=J (pj W3);refine aaK ?_;have HX:=J (dX.o.trans (eP.o.trans rz.o));clear hvI
   by_cases oE:v=1
   .have LN:((v:Int) - 1==0)=true:=by simp [oE]
    have k_:=J (show X=must (iX low 2 1000) 2 s by rw [eK.o,oE];rfl);refine ML ?_;intro K hK
    try rw [LN]
    refine(bj true _ _ _).mono ?_;rintro e w1 ⟨he,rfl⟩;have he:=cP.none he;subst he;refine hK.out _ _ ?_;clear hK K;refine fc ?_;have ajP:=bC (bX mf.o (eP.o.trans rz.o));have ako:=(bX mf.o (eP.o.trans rz.o)).lt;go_upto_region 7 with(fail);clear ajP ako;generalize hW4:W3.drew=W4 at rz HX⊢;have kB:=J (eP.o.trans rz.o);clear hW4;refine eW (λw1=>al W4 w1) [(0,2),(1,1),(3,2),(4,1),(2,0),(5,0)] ?_;refine eX ?_;have Bj:=J (pj W4)
    repeat first|refine bV ?_|refine cF Bj.o amo ?_|refine cD Bj.o ?_
    refine ap (λK hK=>?_);go_simp;refine uW (fG _ _ _ _) ?_;refine hK.out _ _ (λ_=>Bj.o) ?_;clear hK K
    repeat first|refine bV ?_|refine cF Bj.o amo ?_|refine cD Bj.o ?_
    refine dJ bd bd (λK hK=>?_);go_simp;have HX:=J (dX.o.trans (kB.o.trans Bj.o))
    cases hb:iX low 2 1000
    .have HR:=J (show X=some ⟨2,s⟩by rw [k_.o,hb];rfl)
     exact rf
    .have HR:=J (show X=none by rw [k_.o,hb];rfl)
     exact anQ
   .have LN:((v:Int) - 1==0)=false:=by simp;omega
    exact ant
theorem Zd (cb g) (κ) (part) (aU) (kind:Int) (s:Str) (eA:Option Addr) (en ec:Nat) (low high:Int) (lA:Option Addr) (ln lc:Nat) (xA:Option Addr) (xn xc:Nat) (hs:s.size<=maxLen) (w:World) (hC:Ck w cb g κ part aU) (hL:ew w):
 Calls prog 333 #[.pointer (some ⟨cb,0,none⟩),.agg (au kind s eA en ec low high lA ln lc xA xn xc)] w λe w'=>cP (loop κ s low high aU) e/\al w w':=by
 obtain⟨X,hX⟩:=nm' (loop κ s low high aU);rw [<-hX];obtain⟨v,hv⟩:=nm' (κ s);have HV:=J hv;have fN:gq (X=ak (must (dv s) 6 s) (ak (must (v==0) 7 s) (ak (must (word low&&word high&&decide (high - low<=63)) 2 s) (must (decide (aU<8)) 25 s)))):=J (by rw [hX,hv];rfl);clear hX hv;have HSZ:=J hs;clear hs;have aB:=dz w (.cells (au kind s eA en ec low high lA ln lc xA xn xc) 288);have vD:=bN w 288 (au kind s eA en ec low high lA ln lc xA xn xc);go_enter func333,ntmps333;go_upto_region 1 with(fail);generalize hW:(w.alloc (.cells (au kind s eA en ec low high lA ln lc xA xn xc) 288))=W at aB vD⊢;generalize w.heap.size=eb at vD⊢;clear hW;have⟨mf,dX,tO,yh⟩:=J4' vD aB (hC.ext aB) (hL.ext aB);clear vD aB hC hL;refine eW (λw1=>al W w1) [(0,2),(1,1),(3,2),(4,1),(2,0),(5,0)] ?_;refine eX ?_;refine El ?_;intro bT;refine xM ?_;refine ap (λK hK=>?_);go_simp;refine(mq s HSZ.o _ (yh.o.ext bT.o)).mono ?_;refine VI ?_;intro w1 dR;clear hK K
 repeat first|refine bV ?_|refine cF dR.o ahF ?_|refine cD dR.o ?_
 refine dJ bd bd (λK hK=>?_);go_simp;have HX:=J (dX.o.trans dR.o)
 cases hn:dv s
 .have HR:=J (show X=some ⟨6,s⟩by rw [fN.o,hn];rfl)
  exact rf
 .have gO:=J (show X=ak (must (v==0) 7 s) (ak (must (word low&&word high&&decide (high - low<=63)) 2 s) (must (decide (aU<8)) 25 s))by rw [fN.o,hn];rfl)
  refine(bj true _ _ _).mono ?_;rintro e w1 ⟨he,rfl⟩;have he:=cP.none he;subst he;refine hK.out _ _ ?_;clear hK K;refine fc ?_;go_upto_region 2 with(fail);refine eW (λw2=>al w1 w2) [(0,2),(1,2),(2,1),(5,2),(6,1),(3,0),(4,2),(7,0)] ?_;refine eX ?_;have eL:=J (pj w1)
  repeat first|refine bV ?_|refine cF eL.o amn ?_|refine cD eL.o ?_
  refine ap (λK hK=>?_);go_simp;refine uW (lB cb g κ part aU s _ (tO.o.ext (dR.o.trans eL.o))) ?_;rw [<-HV.o];refine hK.out _ _ (λ_=>eL.o) ?_;clear hK K
  repeat first|refine bV ?_|refine cF eL.o amn ?_|refine cD eL.o ?_
  refine dJ bd bd (λK hK=>?_);go_simp;have HX:=J (dX.o.trans (dR.o.trans eL.o))
  by_cases jB:v=0
  .have qv:(v !=0)=false:=by simp [jB]
   have eK:=J (show X=ak (must (word low&&word high&&decide (high - low<=63)) 2 s) (must (decide (aU<8)) 25 s)by rw [gO.o,jB];rfl)
   try rw [qv]
   try simp only [Bool.not_false]
   refine(bj true _ _ _).mono ?_;rintro e w1 ⟨he,rfl⟩;have he:=cP.none he;subst he;refine hK.out _ _ ?_;clear hK K;refine fc ?_;have fg:=J (dR.o.trans eL.o);go_upto_region 3 with(fail);generalize Fh:w1.drew=W2 at fg⊢;clear Fh
   cases mO:word low
   .have HR:=J (show X=some ⟨2,s⟩by rw [eK.o,mO];rfl)
    refine ahL ?_;intro Bj K hK;rintro e w2 ⟨rfl,rfl⟩;rw [mO];refine hK.out _ _ (λ_=>Bj.o) ?_;clear hK K;refine aaG ?_;refine QG ?_;intro K hK;exact ani
   .cases rB:word high
    .have HR:=J (show X=some ⟨2,s⟩by rw [eK.o,mO,rB];rfl)
     refine ahL ?_;intro Bj K hK;rintro e w2 ⟨rfl,rfl⟩;rw [mO];refine hK.out _ _ (λ_=>Bj.o) ?_;clear hK K;refine aaG ?_;refine ap (λK hK=>?_);go_simp;refine uW (fM _ _) ?_;rw [rB];refine hK.out _ _ (λ_=>Bj.o) ?_;exact ani
    .have jq:-2147483648<=low/\low<=2147483647:=by simpa [word]using mO
     have jF:-2147483648<=high/\high<=2147483647:=by simpa [word]using rB
     obtain⟨a1,a2⟩:=jq;obtain⟨a3,a4⟩:=jF;have⟨HW1,HW2,k_⟩:=J3' mO rB (show X=ak (must (decide (high - low<=63)) 2 s) (must (decide (aU<8)) 25 s)by rw [eK.o,mO,rB];rfl);refine ahL ?_;intro Bj K hK;rintro e w2 ⟨rfl,rfl⟩;rw [HW1.o];refine hK.out _ _ (λ_=>Bj.o) ?_;clear hK K;refine aaG ?_;refine ap (λK hK=>?_);go_simp;refine uW (fM _ _) ?_;rw [HW2.o];refine hK.out _ _ (λ_=>Bj.o) ?_;clear hK K;have hwr:IntKind.i64.wrap (high - low)=high - low:=by rw [jH];omega
     by_cases hd:high - low<=63
     .have pu:=J (show X=must (decide (aU<8)) 25 s by rw [k_.o,cO hd];rfl)
      refine aaG ?_;refine dJ bd bd (λK hK=>?_);go_simp;refine(bj true _ _ _).mono ?_;rintro e w1 ⟨he,rfl⟩;have he:=cP.none he;subst he;refine hK.out _ _ ?_;clear hK K;refine fc ?_;go_upto_region 4 with(fail);have eP:=J (fg.o.trans Bj.o);generalize Yd:W2.drew=W3 at eP⊢;clear Yd;refine eW (λw2=>al W3 w2) [(0,2),(1,2),(2,2),(3,1),(4,2),(5,2),(6,1),(7,0)] ?_;refine eX ?_;have rz:=J (pj W3)
      repeat first|refine bV ?_|refine cF rz.o (by intro w1 hS;have d1:=(tO.o.ext (eP.o.trans hS));have d2:=bC d1.blk;have d3:=d1.blk.lt;clear d1;have d4:=bX mf.o (eP.o.trans hS);have d5:=bC d4;have d6:=d4.lt;exact fE) ?_|refine cD rz.o ?_
      have HX:=J (dX.o.trans (eP.o.trans rz.o))
      by_cases h8:aU<8
      .have h8I:(aU:Int)<8:=by omega
       have HR:=J (show X=none by rw [pu.o,cO h8];rfl);refine ML ?_;intro K hK;exact anQ
      .have h8I:¬(aU:Int)<8:=by omega
       have HR:=J (show X=some ⟨25,s⟩by rw [pu.o,cU h8];rfl);refine ML ?_;intro K hK;exact rf
     .have HR:=J (show X=some ⟨2,s⟩by rw [k_.o,cU hd];rfl)
      exact afd
  .have qv:(v !=0)=true:=by simp [jB]
   have qn:(v==0)=false:=by simp [jB]
   have HR:=J (show X=some ⟨7,s⟩by rw [gO.o,qn];rfl)
   try rw [qv]
   try simp only [vS]
   exact rf
theorem Qr {P} {w} {ops} {rest} {o:Oper} {a:Act} {Q:Exit->Act->World->Prop} (CP:o.guard=none) (x y:Operand) (T1 T2:TypeId)
 (ho:o.op=.call {callee:=.builtin .delete,args:=#[x,y],argTypes:=#[T1,T2]}) {ty:TypeId} (hty:o.type=ty) {v s v':Value} {w':World} (hx:a.eval x=v) (hy:a.eval y=s)
 (dr:(Builtin.delete_ #[T1,T2] ty #[v,s]).run P w=.ok v' w') (h:wpList P ops Q rest (a.put o.dst v') w'):wpList P ops Q (o::rest) a w:=
 wpList_plain CP λ_ hK=>by
  subst hty;unfold Oper.wp execOp;simp only [ho,resolve,invoke,builtin,Sem.run_bind,Sem.run_pure,Result.andThen_ok,List.map_toArray,nC,List.map_nil,hx,hy,dr];exact hK _ _ h
theorem dt.Bz {w} {g} {f} (h:dt w g f) {p:Addr} {v:Value} (hc:w.cell? p=some v):¬p.block=g:=λe=>by
 obtain⟨es,clock,hb,_⟩:=h;unfold World.cell? at hc;rw [e,hb]at hc
 cases hc
theorem dt.Pp {w} {g b off} {f} {vs} (h:dt w g f) (hr:Row w b off vs):¬b=g:=λe=>by
 obtain⟨es,clock,hb,_⟩:=h;obtain⟨c,t,fr,hq,_⟩:=hr.inv;rw [e,hb]at hq
 cases hq
def Kq (f:ByteArray->Option Value) (l:List Str):ByteArray->Option Value:=λt=>if l.any (λu=>decide (u=t))=true then none else f t
theorem Tk (f) (l) (x:Str):∀t,(λt=>if t=x then none else Kq f l t) t=Kq f (l++[x]) t:=by
 intro t;unfold Kq;exact aiq
theorem CH (nb pb cb g) (A) (n c) (l:List Str) (f:ByteArray->Option Value) (part:Str) (aU:Int) (u:FrameMode) (N:Nat) (w:World)
 (h1:w.cell? ⟨nb,0,none⟩=some (.slice A n c)) (h2:w.cell? ⟨pb,0,none⟩=some (.pointer (some ⟨cb,0,none⟩))) (hb:aj w cb 282 #[.map (some g),.string part,.int .i64 aU]) (hM:dt w g f) (hS:dV w N A n l):
 CallsD prog 319 #[.pointer (some ⟨nb,0,none⟩),.pointer (some ⟨pb,0,none⟩)] u w λe u' w'=>u'=u/\(e=.returned (.tuple #[])/\dt w' g (Kq f l)/\Kept (·=g) w w'):=by
 obtain⟨hn,hm,b,off,hA,hE⟩:=hS;have⟨HN,HA,HE,HM,n1,n2⟩:=J6' hn hA hE hM (hM.Bz h1) (hM.Bz h2);have zF:=bC hb;have⟨n3,l1,l2,HB,H2⟩:=J5' (hM.Bz (p:=⟨cb,0,none⟩) (zF 0)) (Nat.lt_of_not_le (λh=>by unfold World.cell? at h1;rw [Array.getElem?_eq_none h]at h1;cases h1):nb<w.heap.size) (Nat.lt_of_not_le (λh=>by unfold World.cell? at h2;rw [Array.getElem?_eq_none h]at h2;cases h2):pb<w.heap.size) hb h2;clear hn hA hE hM zF hb
 go_enter_d func319,ntmps319
 go_wp21
 go_loopw [6] (λt6 wr=>∃(j:Nat),j<=n/\t6=.int .i64 j/\dt wr g (Kq f (l.take j))/\Kept (·=g) w wr) (λt6 _=>n - (intOf t6).toNat)
 case atStart=>exact⟨0,de _,rfl,HM.o.nH (λt=>by simp [Kq]),kR _ _⟩
 case round=>
  obtain⟨j,hj,rfl,hS,hx⟩:=hrel;have HS:=J hS;have HX:=J hx;clear hS hx h2
  by_cases aX:j<n
  .have ft:j<l.length:=by have:=HN.o;omega
   have iI:(j:Int)<n:=by omega
   obtain rfl:=HA.o ad;have nO:=(HE.o ad).2;have aG:=nO.kept HX.o (HM.o.Pp nO);have hc:=DS aG j ft;have ie:=aG.lt;have c2:=(Kept.cell HX.o (p:=⟨pb,0,none⟩) l2.o n2.o).trans H2.o;have bk:=bK HB.o HX.o n3.o;have cb0:=bC bk;have lcb:=bk.lt;obtain⟨x,gi⟩:=nm' (l[j]);rw [<-gi]at hc;have iF:=J gi;clear aG nO gi bk;obtain⟨w',dr,zC,kh⟩:=dt.del (P:=prog) HS.o underlying280 underlying9 0 x;have HS':=J zC;have Ns:=J kh;clear zC kh;go_upto_region 3 with(fail);go_step
   iterate 5 refine kT ?_
   refine Qr rfl (.tmp 13) (.tmp 14) _ _ rfl rfl rfl rfl dr ?_;clear dr;go_wp21;go_roundw
   case rel=>exact⟨j+1,aX,by go_num,HS'.o.nH (λt=>by rw [mJ,List.getElem?_eq_getElem ft,<-iF.o];exact Tk f (l.take j) x t),HX.o.trans Ns.o⟩
   case measure=>simp only [intOf];omega
  .obtain rfl:j=n:=by omega
   go_wp21;go_end0;have hS:=HS.o;rw [HN.o,lf]at hS;exact⟨rfl,hS,HX.o⟩
def WE (cb g:Nat) (κ:Kn) (part:Str) (aU:Nat):Option oq->Ending->World->Prop
 |none,e,w=>e=.returned (.tuple #[])/\Ck w cb g κ part aU
 |some f,e,w=>e=.panicked (Vd f)/\∃(m:ByteArray->Option Value) (k:Int),dt w g m/\aj w cb 282 #[.map (some g),.string part,.int .i64 k]
abbrev SG (cb g:Nat):Nat->Prop:=λi=>i=g∨i=cb
abbrev BlC (cb g i:Nat) (w0:World) (N:Nat) (F:SF):Prop:=∀(κ:Kn) (aU:Nat) (fT:Bool) (A:Option Addr) (n c:Nat) (B:Option Addr) (bn bc:Nat) (ns:List Str) (w':World),Kept (SG cb g) w0 w'->Ck w' cb g κ (bZ i) aU->aU<=8->jc w0 N A n F->
 dV w' w'.heap.size B bn ns->(∀x,B=some x->¬x.block=cb)->(∀s∈ns,κ s=0)->
 Calls prog 297 #[.pointer (some ⟨cb,0,none⟩),.slice A n c,.bool fT,.slice B bn bc] w' λe w2=>WE cb g κ (bZ i) aU (cC i (bu κ ns) aU fT F) e w2/\Kept (SG cb g) w' w2
theorem Qn (κ) (s):bu κ [s]=oK κ s 3:=by
 funext t
 unfold bu oK
 by_cases h:t=s
 .subst h;simp
 .have:¬s=t:=λe=>h e.symm
  simp [h,this]
theorem Ck.lt {w} {cb g} {part} {aU:Nat} (h:Ck w cb g κ part aU):cb<w.heap.size:=h.blk.lt
theorem Ck.ne {w} {cb g} {part} {aU:Nat} (h:Ck w cb g κ part aU):¬cb=g:=h.map.Bz (p:=⟨cb,0,none⟩) (bC h.blk 0)
theorem pC (κ) (op n) (s) (k r):kG κ (.cons op n s k r)=ak (ak (must (decide (jw (1+k.deep)<=12)) 25 E0) (Cs κ op n s k)) (kG κ r):=rfl
theorem Ck.R9 {w} {cb g} {part} {aU} (h:Ck w cb g κ part aU) (m:Nat):Ck (w.setCell ⟨cb,2,none⟩ (.int .i64 m)) cb g κ part m:=
 ⟨aj.fw h.blk 2 (.int .i64 m),h.map.kept (S:=(·=cb)) (Kept.setCell (kR _ w) ⟨cb,2,none⟩ _ (λ_=>rfl)) (λe=>h.ne e.symm)⟩
theorem RU {s} {low high} {aU} (h:loop κ s low high aU=none):dv s=true/\κ s=0/\aU<8:=by
 unfold loop must at h
 cases h1:dv s<;>cases h2:(κ s==0)<;>cases h3:(word low&&word high&&decide (high - low<=63))<;>simp [h1,h2,h3,ak]at h⊢
 .simp at h2
  exact⟨h2,h⟩
theorem L9 (cb g i:Nat) (hi:i<5) (w0:World) (N:Nat) (rT:5<N) (KJ:N<=g) (KI:N<=cb) (Rs:N<=w0.heap.size) (κ:Kn) (aU:Nat) (hf8:aU<=8) (kind:Int) (name:Str) (es:EF) (low high:Int) (l x:SF) (eA:Option Addr) (en ec:Nat) (lA:Option Addr) (ln lc:Nat) (xA:Option Addr) (xn xc:Nat) (last:Bool)
 (hsz:name.size<=maxLen) (he:lJ w0 N eA en es) (hl:jc w0 N lA ln l) (AX:jc w0 N xA xn x) (hBl:BlC cb g i w0 N l) (hBx:BlC cb g i w0 N x) (w:World) (hw:Kept (SG cb g) w0 w) (hC:Ck w cb g κ (bZ i) aU) (hL:ew w):
 Calls prog 320 #[.pointer (some ⟨cb,0,none⟩),.agg (au kind name eA en ec low high lA ln lc xA xn xc),.bool last] w λe w2=>WE cb g κ (bZ i) aU (oS i κ aU last kind name es low high l x) e w2/\Kept (SG cb g) w w2:=by
 have ry:=J (show∀j,SG cb g j->N<=j from λj h=>by rcases h with h|h<;>omega);obtain⟨X,hX⟩:=nm' (oS i κ aU last kind name es low high l x);rw [<-hX];have Iv:=he.1;have fN:gq (X=ak (must (iX kind 0 9&&en==stmtParts kind) 3 E0) (ak (must (stands kind i last) 10 (bZ i)) (ak (named κ kind name low high aU) (ak (kG κ es) (if kind=2 then ak (cC i κ aU false l) (cC i κ aU false x)else if kind=3 then cC i (oK κ name 3) (aU+1) false l else none))))):=J (by rw [hX,Iv];rfl);clear hX;have aB:=dz w (.cells (au kind name eA en ec low high lA ln lc xA xn xc) 288);have vD:=bN w 288 (au kind name eA en ec low high lA ln lc xA xn xc);have fx:=J (ay (ay Rs hw.size) aB.size);obtain⟨hn,hf,b,off,hA,hE⟩:=(he.kept hw Rs ry.o).ext aB (ay Rs hw.size);refine zi ?_;intro hm HN HA HE;have⟨zp,HSX,HBL,HBX,HSZ,FI,HN4⟩:=J7' hl AX hBl hBx hsz hf8 (df rT (df KJ KI));clear hn hA hE hf he hl AX hBl hBx Iv hsz hf8 rT KJ KI;go_enter func320,ntmps320;go_upto_region 1 with(fail);generalize hW:(w.alloc (.cells (au kind name eA en ec low high lA ln lc xA xn xc) 288))=W at aB vD HE fx⊢
 have mw:=J (show¬SG cb g w.heap.size from by
  rintro(h|h)
  .have:=hC.map.lt;omega
  .have:=hC.lt;omega)
 generalize w.heap.size=eb at vD mw⊢;clear hW;have⟨mf,dX,tO,yh⟩:=J4' vD aB (hC.ext aB) (hL.ext aB);refine El ?_;intro bT;have HWW:=J hw;clear vD aB hC hL hw
 cases jq:iX kind 0 9
 .have HR:=J (show X=some ⟨3,E0⟩by rw [fN.o,jq];rfl)
  refine adt ?_;refine xM ?_;refine ap (λK hK=>?_);go_simp;refine uW (fG _ _ _ _) ?_;rw [jq];refine hK.out _ _ (λ_=>bT.o) ?_;clear hK K;refine xM ?_;exact anr
 .obtain⟨k,rfl⟩:∃k:Nat,kind=k:=⟨kind.toNat,by simp [iX]at jq;omega⟩
  have rZ:k<10:=by simp [iX]at jq;omega
  have hkI:(k:Int)<10:=by omega
  have HT:=J (yh.o.sm k rZ);have MY:=J jq;refine adt ?_
  repeat first|refine bV ?_|refine cF bT.o ahz ?_|refine cD bT.o ?_
  refine ap (λK hK=>?_);go_simp;refine uW (fG _ _ _ _) ?_;rw [jq];refine hK.out _ _ (λ_=>bT.o) ?_;clear hK K
  cases jF:((en:Int)==(stmtParts k:Int))
  .have HR:=J (show X=some ⟨3,E0⟩by rw [fN.o,MY.o,<-oF,jF];rfl)
   repeat first|refine bV ?_|refine cF bT.o ahz ?_|refine cD bT.o ?_
   exact anr
  .have gO:=J (show X=ak (must (stands k i last) 10 (bZ i)) (ak (named κ k name low high aU) (ak (kG κ es) (if (k:Int)=2 then ak (cC i κ aU false l) (cC i κ aU false x)else if (k:Int)=3 then cC i (oK κ name 3) (aU+1) false l else none)))by rw [fN.o,MY.o,<-oF,jF];rfl)
   repeat first|refine bV ?_|refine cF bT.o ahz ?_|refine cD bT.o ?_
   refine dJ bd bd (λK hK=>?_);go_simp;refine(bj true _ _ _).mono ?_;rintro e w1 ⟨he,rfl⟩;have he:=cP.none he;subst he;refine hK.out _ _ ?_;clear hK K;refine fc ?_;go_upto_region 2 with(fail);clear jq jF;generalize ku:W.drew=W1 at bT⊢;clear ku;have dR:=bT;refine eW (λw1=>al W1 w1) [(0,2),(1,2),(2,1),(3,2),(5,2),(6,2),(7,2),(8,1),(4,0),(9,0)] ?_;refine eX ?_;have eL:=J (pj W1)
   repeat first|refine bV ?_|refine cF eL.o zb6 ?_|refine cD eL.o ?_
   refine ap (λK hK=>?_);go_simp;refine uW (P9 cb g κ i aU hi k last _ (tO.o.ext (dR.o.trans eL.o))) ?_;refine hK.out _ _ (λ_=>eL.o) ?_;clear hK K
   repeat first|refine bV ?_|refine cF eL.o zb6 ?_|refine cD eL.o ?_
   cases dF:stands k i last
   .have HR:=J (show X=some ⟨10,bZ i⟩by rw [gO.o,dF];rfl)
    refine dJ bd bd (λK hK=>?_);go_simp;refine(bj false _ _ _).mono ?_;rintro e w1 ⟨he,rfl⟩;have he:e=.panicked (Vd ⟨10,bZ i⟩):=he;subst he;have pr:=J (tO.o.ext (dR.o.trans eL.o));have iF:=J (Kept.ext (S:=SG cb g) (dX.o.trans (dR.o.trans eL.o)));exact MV
   .have eK:=J (show X=ak (named κ k name low high aU) (ak (kG κ es) (if (k:Int)=2 then ak (cC i κ aU false l) (cC i κ aU false x)else if (k:Int)=3 then cC i (oK κ name 3) (aU+1) false l else none))by rw [gO.o,dF];rfl)
    clear dF;refine dJ bd bd (λK hK=>?_);go_simp;refine(bj true _ _ _).mono ?_;rintro e w1 ⟨he,rfl⟩;have he:=cP.none he;subst he;refine hK.out _ _ ?_;clear hK K;refine fc ?_;have ys:=dR.o.trans eL.o;clear rZ hkI HT MY gO fN;have zE:=bC (bX mf.o ys)
    by_cases KW:k=0
    .have q0:((k:Int)==0)=true:=by simp;omega
     refine ahT ?_;intro eK;have q2:((k:Int)==2)=false:=by simp;omega
     have q3:((k:Int)==3)=false:=by simp;omega
     have KY:=J (show(k:Int)=0∨(k:Int)=1∨(k:Int)=5 by omega);clear KW;exact zz8
    .have q0:((k:Int)==0)=false:=by simp;omega
     by_cases mY:k=5
     .have q5:((k:Int)==5)=true:=by simp;omega
      refine ahT ?_;intro eK;have q2:((k:Int)==2)=false:=by simp;omega
      have q3:((k:Int)==3)=false:=by simp;omega
      have KY:=J (show(k:Int)=0∨(k:Int)=1∨(k:Int)=5 by omega);clear KW mY;exact zz8
     .have q5:((k:Int)==5)=false:=by simp;omega
      by_cases mF:k=1
      .have q1:((k:Int)==1)=true:=by simp;omega
       refine ahT ?_;intro eK;have q2:((k:Int)==2)=false:=by simp;omega
       have q3:((k:Int)==3)=false:=by simp;omega
       have KY:=J (show(k:Int)=0∨(k:Int)=1∨(k:Int)=5 by omega);clear KW mY mF;exact zz8
      .have q1:((k:Int)==1)=false:=by simp;omega
       by_cases iz:k=3
       .have q3:((k:Int)==3)=true:=by simp;omega
        have q2:((k:Int)==2)=false:=by simp;omega
        have eK:=J (show X=ak (loop κ name low high aU) (ak (kG κ es) (cC i (oK κ name 3) (aU+1) false l))by
         have hn:named κ k name low high aU=loop κ name low high aU:=by unfold named;rw [af ad,av ad]
         have h:=eK.o;rw [hn,af ad,av ad]at h;exact h)
        clear KW mY mF iz;have hgE:=bG (bX mf.o ys);have hhE:=bH (bX mf.o ys);have CQ:=(bX mf.o ys).lt;go_wp21;obtain⟨t,ht⟩:=nm' (loop κ name low high aU);have HK:=J (Zd cb g κ (bZ i) aU k name eA en ec low high lA ln lc xA xn xc HSZ.o _ (tO.o.ext ys) (yh.o.ext ys));rw [<-ht]at HK eK;have HLT:=J (show t=none->_ from λh=>RU (ht.symm.trans h));clear ht hgE hhE CQ;refine HK.o.mono ?_;rintro e w2 ⟨he,bM⟩
        cases t with
        |some f=>
         exact aeQ
        |none=>
         have he:=cP.none he;subst he;have HLT:=J (HLT.o rfl);have mI:=J (show X=ak (kG κ es) (cC i (oK κ name 3) (aU+1) false l)from eK.o);have ys:=ys.trans bM;clear bM HK;have HYS:=J ys;have zE:=bC (bX mf.o ys);have CQ:=(bX mf.o ys).lt;obtain⟨Z,hZ⟩:=nm' (kG κ es);rw [<-hZ]at mI;have HZ:=J hZ.symm;clear hZ ys;go_wp21
         go_loopw [49] (λt49 wr=>∃(j:Nat) (R:EF),j+R.len=en/\kG κ R=Z/\t49=.int .i64 j/\lU W N R b (off+j*4)/\al W wr) (λt49 _=>en - (intOf t49).toNat)
         case atStart=>exact⟨0,es,by rw [HN.o,dU],HZ.o,rfl,by simpa using HE.o,HYS.o⟩
         case round=>
          obtain⟨j,R,hj,bO,rfl,hR,hx⟩:=hrel;have⟨qd,HX,cr⟩:=J3' hR hx bO;have zE:=bC (bX mf.o hx);have CQ:=(bX mf.o hx).lt;clear hR hx bO
          cases R with
          |nil=>
           simp only [EF.len,fC]at hj;subst hj;have hz0:Z=none:=by rw [<-cr.o];rfl
           rw [hz0]at mI;have JD:=J (show X=cC i (oK κ name 3) (aU+1) false l from mI.o);clear hz0 mI;have EN:=J (tO.o.ext HX.o);have hcC:=bC EN.o.blk;have hzC:=aj.frozen EN.o.blk;have hlC:=EN.o.lt;have hf8:=FI.o;go_upto_region 22 with(fail);have⟨M_,AB,HEQ⟩:=J3' (show Ck (wr.setCell ⟨cb,2,none⟩ (.int .i64 ((aU:Int)+1))) cb g κ (bZ i) (aU+1)from EN.o.R9 (aU+1)) (show Kept (SG cb g) w (wr.setCell ⟨cb,2,none⟩ (.int .i64 ((aU:Int)+1)))from(Kept.ext (dX.o.trans HX.o)).setCell ⟨cb,2,none⟩ _ (λ_=>Or.inr rfl)) (show aj (wr.setCell ⟨cb,2,none⟩ (.int .i64 ((aU:Int)+1))) eb _ _ from(bX mf.o HX.o).nI (p:=⟨cb,2,none⟩) (λe=>mw.o (Or.inr e)) _);generalize (wr.setCell ⟨cb,2,none⟩ (.int .i64 ((aU:Int)+1)))=wq at M_ AB HEQ⊢;clear hcC hzC hlC zE CQ EN HX hf8;have T_:=bC HEQ.o;have Iw:=HEQ.o.lt;go_wp21;obtain⟨hl3,hl4,Wi⟩:=HLT.o trivial;have r_:=dz wq (.cells #[.string name] 9);have hE9:=bN wq 9 #[.string name];have hqc:=M_.o.lt;have hb:=HBL.o κ (aU+1) false lA ln lc (some ⟨wq.heap.size,0,none⟩) 1 1 [name] _ (HWW.o.trans (AB.o.trans (Kept.ext r_))) (M_.o.ext r_) ad zp.o ⟨rfl,by omega,wq.heap.size,0,λ_=>rfl,λ_=>⟨hE9.lt,by simpa using Row.cR hE9⟩⟩ (λx h=>by cases h;show¬wq.heap.size=cb;omega) (by intro s hs;rw [List.mem_singleton.1 hs];exact hl4);rw [Qn,<-JD.o]at hb;refine hb.mono ?_;rintro e w2 ⟨jF,eC⟩;have fN:=J (AB.o.trans ((Kept.ext r_).trans eC))
           cases X with
           |some f=>
            obtain⟨he,hm⟩:=jF;subst he;show _/\_;exact⟨rfl,⟨rfl,hm⟩,fN.o⟩
           |none=>
            obtain⟨he,hc2⟩:=jF;subst he;have JT:=J hc2;have hcC:=bC hc2.blk;have hzC:=aj.frozen hc2.blk;have hlC:=hc2.lt;clear hc2 hb eC r_ hE9 hqc T_ Iw;have hf8:=FI.o;go_wp21;go_end0;exact⟨⟨rfl,JT.o.R9 aU⟩,fN.o.setCell ⟨cb,2,none⟩ _ (λ_=>Or.inr rfl)⟩
          |cons sq m' name' q rr=>
           exact aic
       .have q3:((k:Int)==3)=false:=by simp;omega
        by_cases eC:k=2
        .have q2:((k:Int)==2)=true:=by simp;omega
         have mI:=J (show X=ak (kG κ es) (ak (cC i κ aU false l) (cC i κ aU false x))by
          have hn:named κ k name low high aU=none:=by unfold named;rw [af ad,af ad]
          have h:=eK.o;rw [hn,av ad]at h;exact h)
         clear eK KW mY mF iz eC;have HYS:=J ys;have zE:=bC (bX mf.o ys);have CQ:=(bX mf.o ys).lt;obtain⟨Z,hZ⟩:=nm' (kG κ es);rw [<-hZ]at mI;have HZ:=J hZ.symm;clear hZ ys;go_wp21
         go_loopw [49] (λt49 wr=>∃(j:Nat) (R:EF),j+R.len=en/\kG κ R=Z/\t49=.int .i64 j/\lU W N R b (off+j*4)/\al W wr) (λt49 _=>en - (intOf t49).toNat)
         case atStart=>exact⟨0,es,by rw [HN.o,dU],HZ.o,rfl,by simpa using HE.o,HYS.o⟩
         case round=>
          obtain⟨j,R,hj,bO,rfl,hR,hx⟩:=hrel;have⟨qd,HX,cr⟩:=J3' hR hx bO;have zE:=bC (bX mf.o hx);have CQ:=(bX mf.o hx).lt;clear hR hx bO
          cases R with
          |nil=>
           simp only [EF.len,fC]at hj;subst hj;have hz0:Z=none:=by rw [<-cr.o];rfl
           rw [hz0]at mI;have JD:=J (show X=ak (cC i κ aU false l) (cC i κ aU false x)from mI.o);clear hz0 mI;have⟨AB,EN,afm⟩:=J3' (Kept.ext (S:=SG cb g) (dX.o.trans HX.o)) (tO.o.ext HX.o) (bX mf.o HX.o);go_wp21;have hb:=HBL.o κ aU false lA ln lc none 0 0 [] wr (HWW.o.trans AB.o) EN.o FI.o zp.o ⟨rfl,by omega,0,0,λh=>absurd h ad,λh=>absurd h ad⟩ (by nofun) aC;rw [nX]at hb;obtain⟨v,hv⟩:=nm' (cC i κ aU false l);rw [<-hv]at hb JD;clear hv;refine hb.mono ?_;rintro e w2 ⟨jF,eC⟩
           cases v with
           |some f=>
            obtain⟨he,hm⟩:=jF;subst he;show _/\_;refine⟨rfl,?_,AB.o.trans eC⟩;rw [show X=some f from JD.o];exact⟨rfl,hm⟩
           |none=>
            obtain⟨he,hc2⟩:=jF;subst he;have⟨JD,AB,JT⟩:=J3' (show X=cC i κ aU false x from JD.o) (AB.o.trans eC) hc2;have T_:=bC (bK afm.o eC mw.o);have Iw:=(bK afm.o eC mw.o).lt;clear eC hc2 hb afm EN zE CQ;go_wp21;have hb:=HBX.o κ aU false xA xn xc none 0 0 [] w2 (HWW.o.trans AB.o) JT.o FI.o HSX.o ⟨rfl,by omega,0,0,λh=>absurd h ad,λh=>absurd h ad⟩ (by nofun) aC;rw [nX]at hb;rw [<-JD.o]at hb;clear JD;refine hb.mono ?_;rintro e w3 ⟨hb3,iz⟩
            cases X with
            |some f=>
             obtain⟨he,hm⟩:=hb3;subst he;show _/\_;exact⟨rfl,⟨rfl,hm⟩,AB.o.trans iz⟩
            |none=>
             obtain⟨he,hc3⟩:=hb3;subst he;go_wp21;go_end0;exact⟨⟨rfl,hc3⟩,AB.o.trans iz⟩
          |cons sq m' name' q rr=>
           exact aic
        .have q2:((k:Int)==2)=false:=by simp;omega
         have mI:=J (show X=ak (kG κ es) none by
          have hn:named κ k name low high aU=none:=by unfold named;rw [af ad,af ad]
          have h:=eK.o;rw [hn,af ad,af ad]at h;exact h)
         clear eK KW mY mF iz eC;exact aeZ
def NG (f:ByteArray->Option Value) (l:List Str):ByteArray->Option Value:=λt=>if l.any (λu=>decide (u=t))=true then some (.int .i64 2)else f t
theorem SX (f) (l) (x:Str):∀t,(λt=>if t=x then some (.int .i64 2)else NG f l t) t=NG f (l++[x]) t:=by
 intro t;unfold NG;exact aiq
theorem abr (κ) (l):∀t,NG (IF κ) l t=IF (bu κ l) t:=by
 intro t;unfold NG IF bu
 cases h:l.any (λu=>decide (u=t))
 .simp
 .simp
theorem abC (κ) (l) (h0:∀s∈l,κ s=0):∀t,Kq (IF (bu κ l)) l t=IF κ t:=by
 intro t;unfold Kq IF bu
 cases h:l.any (λu=>decide (u=t))
 .simp
 .obtain⟨u,hu,hut⟩:=List.any_eq_true.1 h
  have:κ t=0:=of_decide_eq_true hut▸h0 u hu;simp [this]
theorem S9 (cb g i:Nat) (hi:i<5) (w0:World) (N:Nat) (rT:5<N) (KJ:N<=g) (KI:N<=cb) (Rs:N<=w0.heap.size) (hL:ew w0) (F:SF):BlC cb g i w0 N F:=by
 have ry:=J (show∀j,SG cb g j->N<=j from λj h=>by rcases h with h|h<;>omega);refine qL (C:=BlC cb g i w0 N) ?_ F;clear F;intro F IH κ aU fT A n c B bn bc ns w hw hC hf8 oZ hns ajv KW;obtain⟨hn,hf,b,off,hA,hE⟩:=oZ;have hm:=hf.max ad;obtain⟨Yk,zD,bb,bo,hB,hR⟩:=hns;have⟨HN,HA,HE,HI,MY,HB,HR,HBC,M1,HW,HC,FI,HL,HN4⟩:=J14 hn hA hE IH Yk hB hR ajv KW hw hC hf8 hL (df rT (df KJ KI));clear hn hA hE IH hf Yk hB hR ajv KW hw hC hf8 hL rT KJ KI;obtain⟨MW,kh⟩:=nm' (bu κ ns);obtain⟨Z,hZ⟩:=nm' (cC i MW aU fT F);rw [<-kh,<-hZ];have jy:=J kh;have HZ:=J hZ.symm;clear kh hZ;refine ahQ ?_;intro qe
 go_enter_defers func297,ntmps297
 go_upto_region 1 with(fail);obtain⟨p4,zQ⟩:=nm' w.heap.size;obtain⟨W,hW⟩:=nm' ((w.alloc (.cells #[.pointer (some ⟨cb,0,none⟩)] 279)).alloc (.cells #[.slice B bn bc] 241));have aK:al w W:=by rw [hW];exact(dS w _).alloc _
 have h4:aj W p4 279 #[.pointer (some ⟨cb,0,none⟩)]:=by rw [hW,zQ];exact(bN w _ _).alloc _
 have h7:aj W (p4+1) 241 #[.slice B bn bc]:=by
  rw [hW,zQ];exact aj.d_ _ _ _ _ aC
 rw [<-hW,<-zQ];have hp7:(w.alloc (.cells #[.pointer (some ⟨cb,0,none⟩)] 279)).heap.size=p4+1:=by rw [zQ];simp
 have Et:=J (show w.heap.size<=p4 from by omega)
 have NE4:¬SG cb g p4/\¬SG cb g (p4+1):=by
  have h1:=HC.o.map.lt;have h2:=HC.o.lt
  constructor<;>(rintro(h|h)<;>omega)
 clear hW zQ
 try rw [hp7]
 clear hp7;have⟨dX,H4,H7,mw⟩:=J4' aK h4 h7 NE4;have h7c:=bC h7;clear aK h4 h7 NE4;go_wp21
 go_loopw [14] (λt14 wr=>∃(j:Nat),j<=bn/\t14=.int .i64 j/\dt wr g (NG (IF κ) (ns.take j))/\Kept (·=g) W wr) (λt14 _=>bn - (intOf t14).toNat)
 case atStart=>exact⟨0,de _,rfl,(HC.o.map.ext dX.o).nH (λt=>by simp [NG]),kR _ _⟩
 case round=>
  obtain⟨j,hj,rfl,hS,hx⟩:=hrel;have HS:=J hS;have HX:=J hx;have ajR:=bK (bX HC.o.blk dX.o) hx HC.o.ne;have⟨H4B,H7B,vu⟩:=J3' (bK H4.o hx (λe=>mw.o.1 (Or.inl e))) (bK H7.o hx (λe=>mw.o.2 (Or.inl e))) ajR;clear hS hx ajR h7c;have c4:=bC H4B.o;have cb0:=bC vu.o;have lcb:=vu.o.lt
  by_cases aX:j<bn
  .have ft:j<ns.length:=by have:=MY.o;omega
   have iI:(j:Int)<bn:=by omega
   obtain rfl:=HB.o ad;have nO:=(HR.o ad).2;have aG:=(nO.kept dX.o (λf=>f)).kept HX.o (HC.o.map.Pp nO);have hc:=DS aG j ft;have ie:=aG.lt;obtain⟨x,gi⟩:=nm' (ns[j]);rw [<-gi]at hc;have iF:=J gi;clear aG nO gi;obtain⟨w',dr,zC,kh⟩:=dt.put (P:=prog) HS.o underlying280 underlying9 x (.int .i64 2);have HS':=J zC;have Ns:=J kh;clear zC kh;go_wp21;exact⟨⟨j+1,aX,by go_num,HS'.o.nH (λt=>by rw [mJ,List.getElem?_eq_getElem ft,<-iF.o];exact SX (IF κ) (ns.take j) x t),HX.o.trans Ns.o⟩,by simp only [intOf];omega⟩
  .obtain rfl:j=bn:=by omega
   have zp:=J (show∀w',Kept (SG cb g) wr w'->dV w' p4 B j ns from λw' hk=>⟨MY.o,zD,bb,bo,HB.o,λh=>by
    have hr:=HR.o h;have hg:=HC.o.map.Pp hr.2;have hc:=HBC.o _ (HB.o h);refine⟨by have:=Et.o;omega,(((hr.2.kept dX.o (λf=>f)).kept HX.o hg).kept hk ?_)⟩;rintro(e|e)
    .exact hg e
    .exact hc e⟩)
   have lX:=J (show Ck wr cb g (bu κ ns) (bZ i) aU from⟨vu.o,HS.o.nH (λt=>by rw [MY.o,lf];exact abr κ ns t)⟩);have HWR:=J (show Kept (SG cb g) w wr from(Kept.ext dX.o).trans (HX.o.mono (λ_ _ h=>Or.inl h)));rw [<-jy.o]at lX;have rD:=J HC.o;clear HS HX vu c4 cb0 lcb HB HR dX H4 H7 HC;have HWQ:=J (HW.o.trans HWR.o);have HLR:=J (HL.o.kept HWQ.o (λk hk h=>by have:=ry.o k h;have:=HN4.o.1;omega));have HNR:=J (ay Rs HWQ.o.size);go_wp21
   go_loopw [27] (λt27 wq=>∃(m:Nat) (R:SF),m+R.len=n/\cC i MW aU fT R=Z/\t27=.int .i64 m/\mS w0 N R b (off+m*7)/\SF.xO (BlC cb g i w0 N) R/\Ck wq cb g MW (bZ i) aU/\Kept (SG cb g) wr wq) (λt27 _=>n - (intOf t27).toNat)
   case atStart=>exact⟨0,F,by rw [HN.o,dU],HZ.o,rfl,by simpa using HE.o,HI.o,lX.o,kR _ _⟩
   case round=>
    obtain⟨m,R,iP,bO,rfl,hR,hall,KR,hx⟩:=hrel;have⟨qd,HX,cr,i',M_⟩:=J5' hR hx bO hall KR;clear hR hx bO hall KR
    cases R with
    |nil=>
     simp only [SF.len,fC]at iP;subst iP;have hz0:Z=none:=by rw [<-cr.o];rfl
     subst hz0;go_wp21;have zI:=bC (bK H4B.o HX.o mw.o.1) 0;have nM:=bC (bK H7B.o HX.o mw.o.2) 0;refine leaves_cons (f:=319) (args:=#[.pointer (some ⟨p4+1,0,none⟩),.pointer (some ⟨p4,0,none⟩)]) aC (by simp [go_sem]) ?_;refine(CH (p4+1) p4 cb g B j bc ns (IF MW) (bZ i) aU .returning p4 _ nM zI M_.o.blk M_.o.map (zp.o _ HX.o)).mono ?_;rintro e u' w2 ⟨rfl,rfl,eE,eC⟩;refine⟨_,results_none rfl _ _ _,⟨rfl,bK M_.o.blk eC rD.o.ne,eE.nH λt=>?_⟩,HWR.o.trans (HX.o.trans (eC.mono λ_ _ h=>Or.inl h))⟩;rw [jy.o];exact abC κ ns M1.o t
    |cons kind name es low high l x r=>
     obtain⟨hb,h1,h2,h3,h4,⟨eA,ec,lA,lc,xA,xc,be,oe,bl,ol,bx,ox,hh,hg,n1,n2,n3,a1,a2,a3,he,hl,AX⟩,hr⟩:=qd.o;simp only [SF.len]at iP;have aX:(m:Int)<n:=by omega
     obtain rfl:=HA.o ad;have qg:Kept (SG cb g) w0 _:=HWQ.o.trans HX.o;have oC:¬SG cb g b:=λh=>by have:=ry.o b h;omega
     have jM:=(jK qg ad oC).trans hh;have hg':=(iO qg ad oC).trans hg;have ie:b<wr.heap.size:=by have:=qg.size;omega
     have KE:=J (show lJ w0 N eA es.len es from⟨rfl,n1,be,oe,a1,he⟩);refine amy ?_;intro KL KX;have⟨sP,Hq,HSZ⟩:=J3' hr i'.o h4;have c4:=bC (bK H4B.o HX.o mw.o.1);have l4:=(bK H4B.o HX.o mw.o.1).lt;have QU:=J qg;clear hh hg n1 n2 n3 a1 a2 a3 he hl AX hb h1 h2 h3 h4 hr qd qg oC;have y0:=dz wr (.cells (au kind name eA es.len ec low high lA l.len lc xA x.len xc) 288);have bT:=J y0;clear y0
     cases fT
     .have cr:=J (show ak (oS i MW aU false kind name es low high l x) (cC i MW aU false r)=Z from cr.o▸(lr i MW aU false kind name es low high l x r).symm)
      go_wp21;have HK:=J (L9 cb g i hi w0 N HN4.o.1 HN4.o.2.1 HN4.o.2.2 Rs MW aU FI.o kind name es low high l x eA es.len ec lA l.len lc xA x.len xc false HSZ.o KE.o KL.o KX.o Hq.o.1 Hq.o.2.1 _ (QU.o.trans (Kept.ext bT.o)) (M_.o.ext bT.o) (HL.o.kept (QU.o.trans (Kept.ext bT.o)) (λk hk h=>by have:=ry.o k h;have:=HN4.o.1;omega)));obtain⟨v,hv⟩:=nm' (oS i MW aU false kind name es low high l x);rw [<-hv]at HK cr;clear hv;exact amU
     .have qy:((m:Int)==(n:Int) - 1)=r.isNil:=by
       cases r with
       |nil=>simp only [SF.len]at iP;simp [SF.isNil];omega
       |cons=>simp only [SF.len]at iP;simp [SF.isNil];omega
      obtain⟨la,T3⟩:=nm' r.isNil;have cr:=J (show ak (oS i MW aU la kind name es low high l x) (cC i MW aU true r)=Z from by rw [T3];exact cr.o▸(lr i MW aU true kind name es low high l x r).symm);rw [<-T3]at qy;have HLS:=J qy;clear T3 qy;go_wp21;rw [HLS.o];have HK:=J (L9 cb g i hi w0 N HN4.o.1 HN4.o.2.1 HN4.o.2.2 Rs MW aU FI.o kind name es low high l x eA es.len ec lA l.len lc xA x.len xc la HSZ.o KE.o KL.o KX.o Hq.o.1 Hq.o.2.1 _ (QU.o.trans (Kept.ext bT.o)) (M_.o.ext bT.o) (HL.o.kept (QU.o.trans (Kept.ext bT.o)) (λk hk h=>by have:=ry.o k h;have:=HN4.o.1;omega)));obtain⟨v,hv⟩:=nm' (oS i MW aU la kind name es low high l x);rw [<-hv]at HK cr;clear hv HLS;exact amU
abbrev afi (w0:World) (F:SF):Prop:=∀(A:Option Addr) (n c N:Nat) (w:World),al w0 w->N<=w0.heap.size->jc w0 N A n F->Calls prog 198 #[.slice A n c] w λe w'=>e=.returned (.bool (ends F))/\al w w'
theorem UY (w0) (F):afi w0 F:=by
 refine qL (C:=afi w0) ?_ F;clear F;intro F IH A n c N w aK hN h;obtain⟨Z,hZ⟩:=nm' (ends F);rw [<-hZ];have HZ:=J hZ.symm;clear hZ;refine Ax ?_;clear h IH;intro b off hm HN HA HE HI;go_enter func198,ntmps198;go_wp21
 go_loopw [7] (λt7 wr=>∃(j:Nat) (R:SF),j+R.len=n/\ends R=Z/\t7=.int .i64 j/\mS w0 N R b (off+j*7)/\SF.xO (afi w0) R/\al w wr) (λt7 _=>n - (intOf t7).toNat)
 case atStart=>exact⟨0,F,by rw [HN.o,dU],HZ.o,rfl,by simpa using HE.o,HI.o,kR _ _⟩
 case round=>
  obtain⟨j,R,hj,bO,rfl,hR,hI,hx⟩:=hrel;have⟨HR,rh,HX,cr⟩:=J4' hR hI hx bO;clear hR hI hx bO
  cases R with
  |nil=>
   simp only [SF.len,fC]at hj;subst hj;go_wp21;go_ret;exact⟨by rw [<-cr.o];rfl,HX.o⟩
  |cons kind name es low high l x r=>
   obtain⟨hb,h1,h2,h3,h4,⟨eA,ec,lA,lc,xA,xc,be,oe,bl,ol,bx,ox,hh,hg,n1,n2,n3,a1,a2,a3,he,hl,AX⟩,hr⟩:=HR.o;simp only [SF.len]at hj;have aX:(j:Int)<n:=by omega
   obtain rfl:=HA.o ad;have jj:=aK.trans HX.o;refine FC ?_;intro rV jM hg' ie;refine amy ?_;intro KL KX;have sP:=J hr;have y0:=dz wr (.cells (au kind name eA es.len ec low high lA l.len lc xA x.len xc) 288);have HB:=J (bN wr 288 (au kind name eA es.len ec low high lA l.len lc xA x.len xc));exact amO
theorem sJ (cb g i:Nat) (hi:i<5) (w0:World) (N:Nat) (rT:5<N) (KJ:N<=g) (KI:N<=cb) (Rs:N<=w0.heap.size) (hL:ew w0) (F:SF) (κ:Kn) (p0:Str) (A:Option Addr) (n c:Nat) (B:Option Addr) (bn bc:Nat) (ns:List Str) (w:World) (hw:Kept (SG cb g) w0 w) (hC:Ck w cb g κ p0 0)
 (hs:jc w0 N A n F) (hS:∀w',Kept (SG cb g) w w'->dV w' w'.heap.size B bn ns) (hB:∀x,B=some x->¬x.block=cb) (hk:∀s∈ns,κ s=0):
 Calls prog 247 #[.pointer (some ⟨cb,0,none⟩),.string (bZ i),.slice A n c,.slice B bn bc] w λe w2=>WE cb g κ (bZ i) 0 (cC i (bu κ ns) 0 true F) e w2/\Kept (SG cb g) w w2:=by
 have hcC:=bC hC.blk;have hzC:=aj.frozen hC.blk;have hlC:=hC.lt;go_enter func247,ntmps247;go_upto_region 1 with(fail);have HK:=(kR (SG cb g) w).setCell ⟨cb,1,none⟩ (.string (bZ i)) (λ_=>Or.inr rfl);have lX:=show Ck (w.setCell ⟨cb,1,none⟩ (.string (bZ i))) cb g κ (bZ i) 0 from⟨aj.fw hC.blk 1 (.string (bZ i)),hC.map.kept (S:=(·=cb)) (Kept.setCell (kR _ w) ⟨cb,1,none⟩ _ (λ_=>rfl)) (λe=>hC.ne e.symm)⟩;generalize w.setCell ⟨cb,1,none⟩ (.string (bZ i))=W at HK lX⊢;go_wp21;refine(S9 cb g i hi w0 N rT KJ KI Rs hL F κ 0 true A n c B bn bc ns W (hw.trans HK) lX ad hs (hS _ HK) hB hk).mono ?_;rintro e w2 ⟨hb,eC⟩;obtain⟨Z,hZ⟩:=nm' (cC i (bu κ ns) 0 true F);rw [<-hZ]at hb
 cases Z with
 |none=>
  obtain⟨he,hc2⟩:=hb;subst he;go_wp21;go_end0;rw [<-hZ];exact⟨⟨rfl,hc2⟩,HK.trans eC⟩
 |some f=>
  obtain⟨he,hm⟩:=hb;subst he;show _/\_;refine⟨rfl,?_,HK.trans eC⟩;rw [<-hZ];exact⟨rfl,hm⟩
theorem YY {w} {b off:Nat} {l:List Int} (h:Row w b off (l.map (Value.int .i64))) (j:Nat) (hj:j<l.length):w.cell? ⟨b,off+j,none⟩=some (.int .i64 l[j]):=by
 rw [h.cell j (by simpa using hj)];simp [hj]
theorem ji (ck) (c) (p) (N) (w:World) (_hN:N<=w.heap.size) (h:lZ w N c p) (hL:ew w):Calls prog 191 #[ck,.agg c.cells] w λe w'=>cP (mT p) e/\al w w':=by
 obtain⟨X,hX⟩:=nm' (mT p);rw [<-hX];have fN:gq (X=ak (must (dv p.name) 6 p.name) (ak (must (iX p.aP 2 8) 2 vf) (ak (must ((p.cd.length:Int)==p.aP) 3 gP) (must (p.cd.all (λn=>iX n 1 2147483647)) 2 gP)))):=J (by rw [hX];rfl);clear hX;have aB:=dz w (.cells c.cells 163);have vD:=bN w 163 c.cells;obtain⟨oZ,hsf,hso,sb,so,hsA,hsR⟩:=h.cd;have YP:=hsf.max ad;have⟨zp,HSA,WX,SN,tQ⟩:=J5' oZ hsA hsR (df h.name h.Df) h.aP;clear oZ hsf hso hsA hsR h;go_enter func191,ntmps191;go_upto_region 1 with(fail);generalize hW:(w.alloc (.cells c.cells 163))=W at aB vD⊢;generalize w.heap.size=eb at vD⊢;clear hW;have⟨mf,dX,yh⟩:=J3' vD aB (hL.ext aB);clear vD aB hL;refine eW (λw1=>al W w1) [(0,2),(1,1),(3,2),(4,1),(2,0),(5,0)] ?_;refine eX ?_;refine El ?_;intro bT;refine xM ?_;refine ap (λK hK=>?_);go_simp;rw [SN.o.1];refine(mq p.name SN.o.2 _ (yh.o.ext bT.o)).mono ?_;refine VI ?_;intro w1 dR;clear hK K
 repeat first|refine bV ?_|refine cF dR.o ahF ?_|refine cD dR.o ?_
 refine dJ bd bd (λK hK=>?_);go_simp;have HX:=J (dX.o.trans dR.o)
 cases hn:dv p.name
 .have HR:=J (show X=some ⟨6,p.name⟩by rw [fN.o,hn];rfl)
  exact rf
 .have gO:=J (show X=ak (must (iX p.aP 2 8) 2 vf) (ak (must ((p.cd.length:Int)==p.aP) 3 gP) (must (p.cd.all (λn=>iX n 1 2147483647)) 2 gP))by rw [fN.o,hn];rfl)
  clear fN hn;refine(bj true _ _ _).mono ?_;rintro e w1 ⟨he,rfl⟩;have he:=cP.none he;subst he;refine hK.out _ _ ?_;clear hK K;refine fc ?_;have zE:=bC (bX mf.o dR.o);have CQ:=(bX mf.o dR.o).lt;go_wp21;rw [tQ.o];refine uW (fG _ _ _ _) ?_
  cases hb:iX p.aP 2 8
  .have HR:=J (show X=some ⟨2,vf⟩by rw [gO.o,hb];rfl)
   go_wp21;exact rf
  .have eK:=J (show X=ak (must ((c.cd.n:Int)==c.aP) 3 gP) (must (p.cd.all (λn=>iX n 1 2147483647)) 2 gP)by rw [gO.o,hb,zp.o,tQ.o];rfl)
   clear gO hb;go_wp21;refine(bj true _ _ _).mono ?_;rintro e w2 ⟨he,rfl⟩;have he:=cP.none he;subst he;go_wp21
   cases hq:((c.cd.n:Int)==c.aP)
   .have HR:=J (show X=some ⟨3,gP⟩by rw [eK.o,hq];rfl)
    exact rf
   .obtain⟨A0,hA0⟩:=nm' (p.cd.all (λn=>iX n 1 2147483647))
    have k_:=J (show X=must A0 2 gP by rw [eK.o,hq,hA0];rfl);have HA0:=J hA0;clear eK hA0;refine(bj true _ _ _).mono ?_;rintro e w2 ⟨he,rfl⟩;have he:=cP.none he;subst he;clear hq;go_wp21
    go_loopw [26] (λt26 wr=>∃(j:Nat),j<=c.cd.n/\t26=.int .i64 j/\(p.cd.drop j).all (λn=>iX n 1 2147483647)=A0/\al w wr) (λt26 _=>c.cd.n - (intOf t26).toNat)
    case atStart=>exact⟨0,de _,rfl,HA0.o.symm,HX.o⟩
    case round=>
     obtain⟨j,hj,rfl,bO,hx⟩:=hrel;have cr:=J bO;have HX:=J hx;clear bO hx zE CQ
     by_cases aX:j<c.cd.n
     .have ft:j<p.cd.length:=by have:=zp.o;omega
      have iI:(j:Int)<c.cd.n:=by omega
      have hsA:=HSA.o ad;have aG:=(WX.o ad).2.kept HX.o (λf=>f);have hc:=YY aG j ft;have ie:=aG.lt;obtain⟨x,gi⟩:=nm' (p.cd[j]);rw [<-gi]at hc
      have zm:=J (show(iX x 1 2147483647&&(p.cd.drop (j+1)).all (λn=>iX n 1 2147483647))=A0 by
       rw [<-cr.o,ui ft,List.all_cons,gi])
      clear aG gi;go_wp21;refine uW (fG _ _ _ _) ?_
      cases hb:iX x 1 2147483647
      .have HR:=J (show X=some ⟨2,gP⟩by rw [k_.o,<-zm.o,hb];rfl)
       go_wp21;exact rf
      .have zm:=J (show(p.cd.drop (j+1)).all (λn=>iX n 1 2147483647)=A0 by rw [<-zm.o,hb];rfl)
       clear hb hc;go_wp21;refine(bj true _ _ _).mono ?_;rintro e w2 ⟨he,rfl⟩;have he:=cP.none he;subst he;go_wp21;go_roundw
       case rel=>
        rw [hsA];exact⟨_,_,_,_,_,_,_,_,_,⟨j+1,aX,by go_num,zm.o,HX.o⟩,rfl⟩
       case measure=>simp [intOf];omega
     .obtain rfl:j=c.cd.n:=by omega
      go_wp21;go_end0;rw [k_.o,<-cr.o,zp.o,uj];exact⟨rfl,HX.o⟩
theorem NU (p) (w):
 CallsD prog 190 #[.pointer (some p)] .returning w λe u' w'=>e=.returned (.tuple #[])/\u'=.returning/\al w w':=by
 refine callsD_of_wpS func190 rfl λagd cs hu=>?_;apply wpS_seq;apply wpS_region;simp [wpOpsS,go_sem,recoverD,hu,ntmps190,Exit.thenS];refine wpS_of_wp ?_;go_wp21
 cases agd
 simp_all [bodyPostS,results,results190]
 exact kR _ _
theorem AG (rb) (f) (w) (hb:aj w rb 225 #[.int .i64 0,.string ⟨#[]⟩]):
 CallsD prog 190 #[.pointer (some ⟨rb,0,none⟩)] (.panicking (Vd f)) w λe u' w'=>
  e=.returned (.tuple #[])/\settle u'=.returning/\aj w' rb 225 #[.int .i64 f.e,.string f.name]/\Kept (·=rb) w w':=by
 refine callsD_of_wpS func190 rfl λagd cs hu=>?_;unfold Vd at hu;apply wpS_seq;apply wpS_region;simp [wpOpsS,go_sem,recoverD,hu,ntmps190,Exit.thenS];refine wpS_of_wp ?_;obtain⟨v,hv⟩:=nm' ((Value.iface 225 (.agg #[.int .i64 f.e,.string f.name])));rw [<-hv];have e1:(#[Value.pointer (some ⟨rb,0,none⟩)]++((Array.replicate 15 undef).setIfInBounds 3 v).setIfInBounds 0 v)=#[Value.pointer (some ⟨rb,0,none⟩),v,undef,undef,v,undef,undef,undef,undef,undef,undef,undef,undef,undef,undef,undef]:=rfl;rw [e1,hv];clear e1 hv v;have zF:=bC hb;have Wk:=hb.lt;have hta:∀(v:Value) (w:World),(Instr.typeAssert (.iface 225 v) 20 225 true).run prog w=.ok (.tuple #[v,.bool true]) w:=λv w=>by rfl
 have hzb:=aj.frozen hb;go_wp21
 have HB:=J (show aj (((w.setCell ⟨rb,0,none⟩ (.int .i64 f.e)).setCell ⟨rb,1,none⟩ (.string f.name)).alloc (.cells #[.int .i64 f.e,.string f.name] 225)) rb 225 #[.int .i64 f.e,.string f.name]/\Kept (·=rb) w (((w.setCell ⟨rb,0,none⟩ (.int .i64 f.e)).setCell ⟨rb,1,none⟩ (.string f.name)).alloc (.cells #[.int .i64 f.e,.string f.name] 225))from
  ⟨((hb.fw 0 (.int .i64 f.e)).fw 1 (.string f.name)).alloc _,(((kR (·=rb) w).setCell ⟨rb,0,none⟩ _ (λ_=>rfl)).setCell ⟨rb,1,none⟩ _ (λ_=>rfl)).alloc _⟩)
 generalize (((w.setCell ⟨rb,0,none⟩ (.int .i64 f.e)).setCell ⟨rb,1,none⟩ (.string f.name)).alloc (.cells #[.int .i64 f.e,.string f.name] 225))=W2 at HB⊢;clear hzb zF hta
 cases agd
 simp [bodyPostS,results,results190,settle]at hu⊢;exact HB.o
theorem xF (x:Int):IntKind.u64.wrap x=x%18446744073709551616:=by simp [IntKind.wrap_u64]
theorem Sh (a b) (ha:aI a) (hb:aI b) (h:b<=a):IntKind.u64.wrap (IntKind.u64.wrap a - IntKind.u64.wrap b)=a - b:=by
 rw [xF,xF,xF];unfold aI at ha hb
 omega
theorem Ul (acc:Nat) (d) (h:acc<=513) (hd:0<=d):min (IntKind.u64.wrap ((acc:Int)*IntKind.u64.wrap (min d 512+1))) 513=min ((acc:Int)*(min d 512+1)) 513:=by
 have h1:0<=min d 512+1:=by omega
 have h2:min d 512+1<=513:=by omega
 obtain⟨k,hk⟩:∃k:Nat,(k:Int)=min d 512+1:=⟨(min d 512+1).toNat,by omega⟩;rw [<-hk]at h1 h2⊢;have h3:acc*k<=513*513:=Nat.mul_le_mul h ad;have h4:((acc*k:Nat):Int)=(acc:Int)*k:=by push_cast;rfl
 have h5:IntKind.u64.wrap (k:Int)=k:=by rw [xF];omega
 rw [h5,<-h4,xF]
 congr 1
 omega
theorem U5 (c) (p) (N) (w) (_hN:N<=w.heap.size) (h:lZ w N c p):Calls prog 244 #[.agg c.cells] w λe w'=>e=.returned (.int .i64 (na p.params))/\al w w':=by
 obtain⟨X,hX⟩:=nm' (na p.params);rw [<-hX];have JC:=J hX;clear hX;obtain⟨cn,kv,lK,cv,cs,ct,⟨A,n,cc⟩,iV,mC,cq,oV⟩:=c;have aK:=dz w (.cells (Pc.cells ⟨cn,kv,lK,cv,cs,ct,⟨A,n,cc⟩,iV,mC,cq,oV⟩) 163);have cG:=J (bN w 163 (Pc.cells ⟨cn,kv,lK,cv,cs,ct,⟨A,n,cc⟩,iV,mC,cq,oV⟩));obtain⟨hn,hf,hok,b,off,hA,hE⟩:=h.params.ext aK;refine zi ?_;intro hm HN HA HE;have dX:=J aK;have oN:=J hok;clear hn hA hE hok hf h;go_enter func244,ntmps244;go_wp2_with fail
 go_loopw [12] (λt12 wr=>∃(j:Nat),j<=n/\t12=.int .i64 j/\(p.params.take j).any (λv=>decide (v.high<v.low))=false/\al (w.alloc (.cells (Pc.cells ⟨cn,kv,lK,cv,cs,ct,⟨A,n,cc⟩,iV,mC,cq,oV⟩) 163)) wr) (λt12 _=>n - (intOf t12).toNat)
 case atStart=>exact⟨0,de _,rfl,rfl,kR _ _⟩
 case round=>
  obtain⟨j,hj,rfl,bO,hx⟩:=hrel;have HX:=J hx;have cr:=J bO;clear hx bO
  by_cases aX:j<n
  .have ft:j<p.params.length:=by have:=HN.o;omega
   have iI:(j:Int)<n:=by omega
   obtain rfl:=HA.o ad;refine MK ?_;intro aG jM hg' ie;obtain⟨x,gi⟩:=nm' (p.params[j]);rw [<-gi]at hg';have iF:=J gi;clear aG gi;have y0:=J (show al wr _ from dz wr (.cells (aO x) 232));exact ang
  .obtain rfl:j=n:=by omega
   have uO:p.params.any (λv=>decide (v.high<v.low))=false:=by
    have h:=cr.o
    rwa [HN.o,lf]at h
   have HM:=J (show xd 1 p.params=X by rw [JC.o];unfold na;rw [uO];rfl);have VN:=J uO;clear uO;have hcB:=bC (bX cG.o HX.o);have Wj:=(bX cG.o HX.o).lt;go_wp2_with fail
   go_loopw [5,25] (λt5 t25 wq=>∃(m:Nat) (acc:Nat),m<=j/\acc<=513/\t25=.int .i64 m/\t5=.int .u64 acc/\xd acc (p.params.drop m)=X/\al wr wq) (λ_ t25 _=>j - (intOf t25).toNat)
   case atStart=>exact⟨0,1,de _,by omega,rfl,rfl,HM.o,kR _ _⟩
   case round=>
    obtain⟨m,acc,hmj,Rx,rfl,rfl,qe,hy⟩:=hrel;have HY:=J hy;have HMF:=J qe;clear hy qe hcB Wj
    by_cases K_:m<j
    .have ft:m<p.params.length:=by have:=HN.o;omega
     have iI:(m:Int)<j:=by omega
     obtain rfl:=HA.o ad;have aG:=(HE.o ad).2.ext (HX.o.trans HY.o);obtain⟨jM,hg'⟩:=oL aG m ft;have ie:=aG.lt;obtain⟨x,gi⟩:=nm' (p.params[m]);rw [<-gi]at hg';have iF:=J gi;clear aG gi;obtain⟨xn,xs,xl,xh⟩:=x;go_wp2_with fail;have hvm:(⟨xn,xs,xl,xh⟩:Vr)∈p.params:=by rw [iF.o];exact cK ft
     have uS:=oN.o _ hvm
     have mg:xl<=xh:=by
      refine Int.not_lt.1 λh=>?_;have:=List.any_eq_false.1 VN.o _ hvm;exact this (cO h)
     have gM:p.params.drop m=⟨xn,xs,xl,xh⟩::p.params.drop (m+1):=by rw [iF.o];exact ui ft
     have T9:=Sh xh xl amu (by have:=uS;first|exact uS.low|exact uS.2.2.1|exact uS.2.1) mg;rw [T9,Ul acc (xh - xl) Rx ad]
     obtain⟨k,hk⟩:∃k:Nat,(k:Int)=min ((acc:Int)*(min (xh - xl) 512+1)) 513:=by
      have:0<=(acc:Int)*(min (xh - xl) 512+1):=Int.mul_nonneg ad ad;exact⟨(min ((acc:Int)*(min (xh - xl) 512+1)) 513).toNat,by omega⟩
     have T4:=HMF.o;rw [gM]at T4;exact⟨⟨m+1,k,K_,by omega,by go_num,by rw [hk],by rw [hk];exact T4,HY.o.trans (dz _ _)⟩,by simp only [intOf];omega⟩
    .obtain rfl:m=j:=by omega
     go_wp2_with fail;go_ret;refine⟨cL ?_,dX.o.trans (HX.o.trans HY.o)⟩;rw [<-HMF.o,HN.o,uj];simp [xd]
abbrev Xn (w0:World) (F:SF):Prop:=∀(A:Option Addr) (n c N:Nat) (w:World),al w0 w->N<=w0.heap.size->jc w0 N A n F->Calls prog 150 #[.slice A n c] w λe w'=>e=.returned (.bool (ends F))/\al w w'
theorem UN (w0) (F):Xn w0 F:=by
 refine qL (C:=Xn w0) ?_ F;clear F;intro F IH A n c N w aK hN h;obtain⟨Z,hZ⟩:=nm' (ends F);rw [<-hZ];have HZ:=J hZ.symm;clear hZ;refine Ax ?_;clear h IH;intro b off hm HN HA HE HI;go_enter func150,ntmps150;go_wp21
 go_loopw [3] (λt7 wr=>∃(j:Nat) (R:SF),j+R.len=n/\ends R=Z/\t7=.int .i64 j/\mS w0 N R b (off+j*7)/\SF.xO (Xn w0) R/\al w wr) (λt7 _=>n - (intOf t7).toNat)
 case atStart=>exact⟨0,F,by rw [HN.o,dU],HZ.o,rfl,by simpa using HE.o,HI.o,kR _ _⟩
 case round=>
  obtain⟨j,R,hj,bO,rfl,hR,hI,hx⟩:=hrel;have⟨HR,rh,HX,cr⟩:=J4' hR hI hx bO;clear hR hI hx bO
  cases R with
  |nil=>
   simp only [SF.len,fC]at hj;subst hj;go_wp21;go_ret;exact⟨by rw [<-cr.o];rfl,HX.o⟩
  |cons kind name es low high l x r=>
   obtain⟨hb,h1,h2,h3,h4,⟨eA,ec,lA,lc,xA,xc,be,oe,bl,ol,bx,ox,hh,hg,n1,n2,n3,a1,a2,a3,he,hl,AX⟩,hr⟩:=HR.o;simp only [SF.len]at hj;have aX:(j:Int)<n:=by omega
   obtain rfl:=HA.o ad;have jj:=aK.trans HX.o;refine FC ?_;intro rV jM hg' ie;refine amy ?_;intro KL KX;have sP:=J hr;have y0:=dz wr (.cells (au kind name eA es.len ec low high lA l.len lc xA x.len xc) 223);have HB:=J (bN wr 223 (au kind name eA es.len ec low high lA l.len lc xA x.len xc));exact amO
theorem UR (c) (p) (N) (w) (_hN:N<=w.heap.size) (h:lZ w N c p):Calls prog 215 #[.agg c.cells] w λe w'=>e=.returned (.int .i64 (na p.params))/\al w w':=by
 obtain⟨X,hX⟩:=nm' (na p.params);rw [<-hX];have JC:=J hX;clear hX;obtain⟨cn,kv,lK,cv,cs,ct,⟨A,n,cc⟩,iV,mC,cq,oV⟩:=c;have aK:=dz w (.cells (Pc.cells ⟨cn,kv,lK,cv,cs,ct,⟨A,n,cc⟩,iV,mC,cq,oV⟩) 39);have cG:=J (bN w 39 (Pc.cells ⟨cn,kv,lK,cv,cs,ct,⟨A,n,cc⟩,iV,mC,cq,oV⟩));obtain⟨hn,hf,hok,b,off,hA,hE⟩:=h.params.ext aK;refine zi ?_;intro hm HN HA HE;have dX:=J aK;have oN:=J hok;clear hn hA hE hok hf h aK;go_enter func215,ntmps215;go_upto_region 1 with(fail);generalize hW:(w.alloc (.cells (Pc.cells ⟨cn,kv,lK,cv,cs,ct,⟨A,n,cc⟩,iV,mC,cq,oV⟩) 39))=W at cG HE dX⊢;clear hW;generalize w.heap.size=pb at cG⊢;go_wp2_with fail
 go_loopw [4] (λt12 wr=>∃(j:Nat),j<=n/\t12=.int .i64 j/\(p.params.take j).any (λv=>decide (v.high<v.low))=false/\al W wr) (λt12 _=>n - (intOf t12).toNat)
 case atStart=>exact⟨0,de _,rfl,rfl,kR _ _⟩
 case round=>
  obtain⟨j,hj,rfl,bO,hx⟩:=hrel;have HX:=J hx;have cr:=J bO;clear hx bO;have hcB:=bC (bX cG.o HX.o);have Wj:=(bX cG.o HX.o).lt
  by_cases aX:j<n
  .have ft:j<p.params.length:=by have:=HN.o;omega
   have iI:(j:Int)<n:=by omega
   obtain rfl:=HA.o ad;refine MK ?_;intro aG jM hg' ie;obtain⟨x,gi⟩:=nm' (p.params[j]);rw [<-gi]at hg';have iF:=J gi;clear aG gi;have y0:=J (show al wr _ from dz wr (.cells (aO x) 174));exact ang
  .obtain rfl:j=n:=by omega
   have uO:p.params.any (λv=>decide (v.high<v.low))=false:=by
    have h:=cr.o
    rwa [HN.o,lf]at h
   have HM:=J (show xd 1 p.params=X by rw [JC.o];unfold na;rw [uO];rfl);have VN:=J uO;clear uO;go_wp2_with fail
   go_loopw [3,6] (λt5 t25 wq=>∃(m:Nat) (acc:Nat),m<=j/\(1<=acc/\acc<=513)/\t25=.int .i64 m/\t5=.int .i64 acc/\xd acc (p.params.drop m)=X/\al wr wq) (λ_ t25 _=>j - (intOf t25).toNat)
   case atStart=>exact⟨0,1,de _,by omega,rfl,rfl,HM.o,kR _ _⟩
   case round=>
    obtain⟨m,acc,hmj,Rx,rfl,rfl,qe,hy⟩:=hrel;have HY:=J hy;have HMF:=J qe;clear hy qe hcB Wj;have hcB:=bC (bX cG.o (HX.o.trans HY.o));have Wj:=(bX cG.o (HX.o.trans HY.o)).lt
    by_cases K_:m<j
    .have ft:m<p.params.length:=by have:=HN.o;omega
     have iI:(m:Int)<j:=by omega
     obtain rfl:=HA.o ad;have aG:=(HE.o ad).2.ext (HX.o.trans HY.o);obtain⟨jM,hg'⟩:=oL aG m ft;have ie:=aG.lt;obtain⟨x,gi⟩:=nm' (p.params[m]);rw [<-gi]at hg';have iF:=J gi;clear aG gi;obtain⟨xn,xs,xl,xh⟩:=x;have hvm:(⟨xn,xs,xl,xh⟩:Vr)∈p.params:=by rw [iF.o];exact cK ft
     have uS:=oN.o _ hvm
     have mg:xl<=xh:=by
      refine Int.not_lt.1 λh=>?_;have:=List.any_eq_false.1 VN.o _ hvm;exact this (cO h)
     have gM:p.params.drop m=⟨xn,xs,xl,xh⟩::p.params.drop (m+1):=by rw [iF.o];exact ui ft
     have aiS:=J (Sh xh xl amu (by have:=uS;first|exact uS.low|exact uS.2.2.1|exact uS.2.1) mg);have T4:=HMF.o;rw [gM]at T4;have jT:=J (show xd (min ((acc:Int)*(min (xh - xl) 512+1)) 513) (p.params.drop (m+1))=X from T4);have sM:=J mg;clear T4 gM uS hvm mg;go_wp2_with fail
     .rename_i h6
      rw [aiS.o]at h6;have jG:=jT.o;rw [show min (xh - xl) 512=512 by omega,show min ((acc:Int)*(512+1)) 513=((513:Nat):Int)by omega]at jG;exact⟨⟨m+1,513,K_,⟨by omega,by omega⟩,by go_num,rfl,jG,HY.o.trans (dz _ _)⟩,by simp only [intOf];omega⟩
     .rename_i h6
      rw [aiS.o]at h6;have mg:=sM.o;have hw:∀x:Int,-9223372036854775808<=x->x<=9223372036854775807->wrap64 x=x:=λx a b=>by unfold wrap64;omega
      obtain⟨d,hd⟩:∃d:Nat,(d:Int)=xh - xl:=⟨(xh - xl).toNat,by omega⟩;have jG:=jT.o;rw [<-hd]at h6 jG⊢;have h3:acc*(d+1)<=513*601:=Nat.mul_le_mul Rx.2 ad;have h4:((acc*(d+1):Nat):Int)=(acc:Int)*((d:Int)+1):=by push_cast;rfl
      have h7:1*(d+1)<=acc*(d+1):=Nat.mul_le_mul_right _ Rx.1
      have h8:min ((acc:Int)*(min (d:Int) 512+1)) 513=((min (acc*(d+1)) 513:Nat):Int):=by
       by_cases h9:d<=512
       .rw [show min (d:Int) 512=d by omega,<-h4];omega
       .rw [show min (d:Int) 512=512 by omega];omega
      rw [h8]at jG;rw [hw d ad ad,hw ((d:Int)+1) ad ad,<-h4,hw _ ad ad];exact⟨⟨m+1,min (acc*(d+1)) 513,K_,⟨by omega,by omega⟩,by go_num,by congr 1;omega,jG,HY.o.trans (dz _ _)⟩,by simp only [intOf];omega⟩
    .obtain rfl:m=j:=by omega
     go_wp2_with fail;go_ret;refine⟨cL ?_,dX.o.trans (HX.o.trans HY.o)⟩;rw [<-HMF.o,HN.o,uj];simp [xd]

