import Derived.Defers
import Derived.Recover
import Derived.Test.YtnhelcmddjbafaaGreatDoorTpad
set_option maxHeartbeats 4000000
set_option maxRecDepth 100000
open Go.Proofs.Tryz
namespace Go.Proofs.YtnhelcmddjbafaaGreatDoor
open Go.RowKit Sq
variable{κ:Kn}
def SX (f:nZ):List PanicEntry:=[{v:=.iface 225 (.agg #[.int .i64 f.e,.string f.name]),recovered:=false}]
def cK:Option nZ->Ending->Prop
 |none,e=>e=.returned (.tuple #[])
 |some f,e=>e=.panicked (SX f)
theorem aW (ok:Bool) (er:Int) (s:Str) (w:World):Calls prog 194 #[.bool ok,.int .i64 er,.string s] w λe w'=>cK (must ok er s) e/\w=w':=by
 cases ok
 .go_enter func194,ntmps194
  go_wp21;exact⟨rfl,rfl,rfl⟩
 .go_enter func194,ntmps194
  go_wp21;go_end0;exact⟨rfl,rfl⟩
def Gt (κ:Kn):ByteArray->Option Value:=λs=>if κ s=0 then none else some (.int .i64 ((κ s:Int) - 1))
structure Ck (w:World) (cb g:Nat) (κ:Kn) (part:Str) (aO:Nat):Prop where
 blk:ai w cb 282 #[.map (some g),.string part,.int .i64 aO]
 map:dy w g (Gt κ)
theorem Ck.ext {w w':World} {cb g:Nat} {part:Str} {aO:Nat} (h:Ck w cb g κ part aO) (hk:al w w'):Ck w' cb g κ part aO:=⟨bX h.blk hk,h.map.ext hk⟩
theorem FB (w:World):(zeroValue 339).run prog w=.ok (.int .i64 0) w:=by
 first|kernel_rfl|rfl
theorem kZ (cb g:Nat) (κ:Kn) (part:Str) (aO:Nat) (s:Str) (w:World) (h:Ck w cb g κ part aO):Calls prog 196 #[.pointer (some ⟨cb,0,none⟩),.string s] w λe w'=>e=.returned (.bool (κ s !=0))/\w=w':=by
 have su:=dy.look_ok (P:=prog) h.map underlying280 underlying9 (z:=.int .i64 0) FB s;have hc:=bC h.blk;have hl:=h.blk.lt;obtain⟨r,hr⟩:=nm' ((κ s !=0));rw [<-hr];have HR:=J hr;clear hr
 by_cases hz:κ s=0
 .have hq:Gt κ s=none:=by unfold Gt;rw [ak hz]
  have HF:=J (show r=false by rw [HR.o,hz];rfl);rw [hq]at su;clear hz hq;go_enter func196,ntmps196;go_wp21;go_ret;exact⟨aR HF.o.symm,rfl⟩
 .have hq:Gt κ s=some (.int .i64 ((κ s:Int) - 1)):=by unfold Gt;rw [af hz]
  have HF:=J (show r=true by rw [HR.o];simpa using hz);rw [hq]at su;generalize (κ s:Int) - 1=x at su;clear hz hq;go_enter func196,ntmps196;go_wp21;go_ret;exact⟨aR HF.o.symm,rfl⟩
theorem cK.none {e:Ending} (h:cK none e):e=.returned (.tuple #[]):=h
theorem cK.some {f:nZ} {e:Ending} (h:cK (some f) e):e=.panicked (SX f):=h
abbrev adr (cb:Nat) (κ:Kn) (w:World) (F:EF):Prop:=∀(op m:Int) (s:Str) (B:Option Addr) (kn kc N:Nat) (w':World),al w w'->N<=w.heap.size->me w N B kn F->
 Calls prog 335 #[.pointer (some ⟨cb,0,none⟩),.agg (bJ op m s B kn kc)] w' λe w2=>cK (A8 κ op m s F) e/\al w' w2
theorem agR {w:World} {cb g:Nat} {part:Str} {aO:Nat} (h:Ck w cb g κ part aO) (s:Str):(Instr.lookup 280 (.map (some g)) (.string s) false).run prog w=.ok (.int .i64 ((κ s:Int) - 1+(if κ s=0 then 1 else 0))) w:=by
 have su:=dy.look (P:=prog) h.map underlying280 underlying9 (z:=.int .i64 0) FB s;rw [su];unfold Gt
 split<;>simp [*]
theorem SE (cb g:Nat) (κ:Kn) (part:Str) (aO:Nat) (w0:World) (hC:Ck w0 cb g κ part aO) (hL:eQ w0) (F:EF):adr cb κ w0 F:=by
 refine rz (C:=adr cb κ w0) ?_ F;intro F IH op m s B kn kc N0 w aF O8 hes;obtain⟨X,hX⟩:=nm' (A8 κ op m s F);rw [<-hX];obtain⟨r,hr⟩:=nm' (mh κ F);have hX2:X=aj (lD κ op m s kn) r:=by rw [hX,hr,hes.1];rfl
 have gf:=J hX2;have OG:=J hr.symm;clear hX hX2 hr;obtain⟨hn,hf,b,off,hA,hE⟩:=hes;refine xP ?_;intro hm HN HA HE;have HI:=J IH;clear hn hA hE IH hf;have aw:=dY w (.cells (bJ op m s B kn kc) 354);have uD:=bN w 354 (bJ op m s B kn kc);go_enter func335,ntmps335;go_upto_region 1 with(fail);generalize hW:(w.alloc (.cells (bJ op m s B kn kc) 354))=W at aw uD⊢;generalize w.heap.size=eb at uD⊢;clear hW;have⟨l0,dS,sY,wU⟩:=J4' uD aw (hC.ext (aF.trans aw)) (hL.ext (aF.trans aw));refine abE ?_;intro cC;clear uD aw
 cases hJ:iL op 0 17
 .have HR:=J (show X=some ⟨3,E0⟩by rw [gf.o];unfold lD;rw [hJ];rfl)
  refine abB ?_;refine wl ?_;refine au (λK hK=>?_);go_simp;refine aoT (fg _ _ _ _) ?_;rw [hJ];refine hK.out _ _ (λ_=>cC.o) ?_;clear hK K;refine wl ?_;exact akU
 .obtain⟨k,rfl⟩:∃k:Nat,op=k:=⟨op.toNat,by simp [iL]at hJ;omega⟩
  have ahG:k<18:=by simp [iL]at hJ;omega
  have hkI:(k:Int)<18:=by omega
  have HT:=J (wU.o.ex k ahG);have Lq:=J hJ;refine abB ?_
  repeat first|refine cx ?_|refine de cC.o afo ?_|refine dc cC.o ?_
  refine au (λK hK=>?_);go_simp;refine aoT (fg _ _ _ _) ?_;rw [hJ];refine hK.out _ _ (λ_=>cC.o) ?_;clear hK K
  cases jo:((kn:Int)==(exprParts k:Int))
  .have HR:=J (show X=some ⟨3,E0⟩by rw [gf.o];unfold lD;rw [Lq.o,<-ot,jo];rfl)
   repeat first|refine cx ?_|refine de cC.o afo ?_|refine dc cC.o ?_
   exact akU
  .have gq:aoR (X=aj (if (k:Int)=0 then must (word m) 2 E0 else if (k:Int)=1∨(k:Int)=2 then aj (must (κ s !=0) 6 s) (must ((κ s==2)==((k:Int)==2)) 11 s)else none) r):=J (by rw [gf.o];unfold lD;rw [Lq.o,<-ot,jo];rfl)
   repeat first|refine cx ?_|refine de cC.o afo ?_|refine dc cC.o ?_
   refine dG aV aV (λK hK=>?_);go_simp;refine(aW true _ _ _).mono ?_;rintro e w1 ⟨he,rfl⟩;have he:=cK.none he;subst he;refine hK.out _ _ ?_;clear hK K;refine fx ?_;have ys:=cC.o;have x9:=bC (bX l0.o ys);have BB:=(bX l0.o ys).lt;clear hJ jo ahG hkI
   by_cases VM:k=0
   .subst VM
    have eU:aoR (X=aj (must (word m) 2 E0) r):=J Tf;clear gq;go_wp21;refine aoT (fT _ _) ?_
    cases hw:word m
    .have HR:=J (show X=some ⟨2,E0⟩by rw [eU.o,hw];rfl)
     go_wp21;refine(aW false _ _ _).mono ?_;rintro e w1 ⟨he,rfl⟩;have he:e=.panicked (SX ⟨2,E0⟩):=he;subst he;show _/\_;exact⟨rfl,by rw [HR.o];exact⟨rfl,dS.o.trans ys⟩⟩
    .have mw:=J (show X=r by rw [eU.o,hw];rfl)
     go_wp21;refine(aW true _ _ _).mono ?_;rintro e w1 ⟨he,rfl⟩;have he:=cK.none he;subst he;exact afO
   .have q0:((k:Int)==0)=false:=by simp;omega
    by_cases qD:k=1
    .subst qD
     have eU:aoR (X=aj (aj (must (κ s !=0) 6 s) (must ((κ s==2)==false) 11 s)) r):=J Tf;clear gq;go_upto_region 7 with(fail);obtain⟨v,hv⟩:=nm' (κ s);have HV:=J hv;rw [<-hv]at eU;clear hv;generalize Jq:W.drew=W2 at ys x9 BB⊢;clear Jq;have fp:=J ys;refine fH (λw1=>al W2 w1) [(0,2),(1,2),(2,1),(4,2),(5,1),(3,0),(6,0)] ?_;refine fI ?_;have eE:=J (pg W2)
     repeat first|refine cx ?_|refine de eE.o S8 ?_|refine dc eE.o ?_
     refine au (λK hK=>?_);go_simp;refine aoT (kZ cb g κ part aO s _ (sY.o.ext (fp.o.trans eE.o))) ?_;rw [<-HV.o];refine hK.out _ _ (λ_=>eE.o) ?_;clear hK K
     repeat first|refine cx ?_|refine de eE.o S8 ?_|refine dc eE.o ?_
     refine dG aV aV (λK hK=>?_);go_simp
     by_cases i':v=0
     .have qv:(v !=0)=false:=by simp [i']
      exact akP
     .have qv:(v !=0)=true:=by simp [i']
      rw [qv]at eU⊢;refine(aW true _ _ _).mono ?_;rintro e w1 ⟨he,rfl⟩;have he:=cK.none he;subst he;refine anO ?_;clear hK K ys x9 BB;intro W3 fL qU;have hvI:((v:Int) - 1+(if v=0 then 1 else 0))=(v:Int) - 1:=by rw [af i'];omega
      refine afL ?_
      by_cases LJ:v=2
      .have Kd:((v:Int) - 1==1)=true:=by simp [LJ]
       have qn:(v==2)=true:=by simp [LJ]
       exact akF
      .have Kd:((v:Int) - 1==1)=false:=by simp;omega
       have qn:(v==2)=false:=by simp [LJ]
       exact akb
    .have q1:((k:Int)==1)=false:=by simp;omega
     by_cases mq:k=2
     .subst mq
      have eU:aoR (X=aj (aj (must (κ s !=0) 6 s) (must ((κ s==2)==true) 11 s)) r):=J Tf;clear gq;go_upto_region 7 with(fail);obtain⟨v,hv⟩:=nm' (κ s);have HV:=J hv;rw [<-hv]at eU;clear hv;generalize Jq:W.drew=W2 at ys x9 BB⊢;clear Jq;have fp:=J ys;refine fH (λw1=>al W2 w1) [(0,2),(1,2),(2,1),(4,2),(5,1),(3,0),(6,0)] ?_;refine fI ?_;have eE:=J (pg W2)
      repeat first|refine cx ?_|refine de eE.o S8 ?_|refine dc eE.o ?_
      refine au (λK hK=>?_);go_simp;refine aoT (kZ cb g κ part aO s _ (sY.o.ext (fp.o.trans eE.o))) ?_;rw [<-HV.o];refine hK.out _ _ (λ_=>eE.o) ?_;clear hK K
      repeat first|refine cx ?_|refine de eE.o S8 ?_|refine dc eE.o ?_
      refine dG aV aV (λK hK=>?_);go_simp
      by_cases i':v=0
      .have qv:(v !=0)=false:=by simp [i']
       exact akP
      .have qv:(v !=0)=true:=by simp [i']
       rw [qv]at eU⊢;refine(aW true _ _ _).mono ?_;rintro e w1 ⟨he,rfl⟩;have he:=cK.none he;subst he;refine anO ?_;clear hK K ys x9 BB;intro W3 fL qU;have hvI:((v:Int) - 1+(if v=0 then 1 else 0))=(v:Int) - 1:=by rw [af i'];omega
       refine afL ?_
       by_cases LJ:v=2
       .have Kd:((v:Int) - 1==1)=true:=by simp [LJ]
        have qn:(v==2)=true:=by simp [LJ]
        exact akb
       .have Kd:((v:Int) - 1==1)=false:=by simp;omega
        have qn:(v==2)=false:=by simp [LJ]
        exact akF
     .have q2:((k:Int)==2)=false:=by simp;omega
      have mw:=J (show X=r by rw [gq.o,af ad,af ad];rfl);exact afO
theorem N8 (cb g:Nat) (κ:Kn) (i aO:Nat) (hi:i<5) (k:Int) (l:Bool) (w:World) (hC:Ck w cb g κ (bV i) aO):Calls prog 331 #[.pointer (some ⟨cb,0,none⟩),.int .i64 k,.bool l] w λe w'=>e=.returned (.bool (stands k i l))/\w=w':=by
 have hc:=bC hC.blk;have hl:=hC.blk.lt;clear hC
 rcases(by omega:i=0∨i=1∨i=2∨i=3∨i=4)with rfl|rfl|rfl|rfl|rfl
 all_goals
  simp only [bV,NY,kN,fJ,Hs,nW]at hc;go_enter func331,ntmps331;go_wp21
  all_goals go_ret
  all_goals refine⟨aR ?_,rfl⟩
  all_goals first|(simp_all [stands];done)|(simp_all [stands,Hv];done)|(simp_all [stands,Hv];decide)|(simp_all [stands,ByteArray.toList_eq])
theorem Ob (cb g:Nat) (κ:Kn) (part:Str) (aO:Nat) (kind:Int) (s:Str) (eA:Option Addr) (en ec:Nat) (low high:Int) (lA:Option Addr) (ln lc:Nat) (xA:Option Addr) (xn xc:Nat) (hk:kind=0∨kind=1∨kind=5) (w:World) (hC:Ck w cb g κ part aO):
 Calls prog 332 #[.pointer (some ⟨cb,0,none⟩),.agg (aN kind s eA en ec low high lA ln lc xA xn xc)] w λe w'=>cK (target κ kind s low) e/\al w w':=by
 obtain⟨X,hX⟩:=nm' (target κ kind s low);rw [<-hX];obtain⟨v,hv⟩:=nm' (κ s);have HV:=J hv;have gf:aoR (X=aj (must (v !=0) 6 s) (aj (must (v==(if kind=1 then 2 else 1)) 11 s) (if kind=5 then must (iL low 2 1000) 2 s else none))):=J (by rw [hX,hv];rfl);clear hX hv;have aw:=dY w (.cells (aN kind s eA en ec low high lA ln lc xA xn xc) 288);have uD:=bN w 288 (aN kind s eA en ec low high lA ln lc xA xn xc);go_enter func332,ntmps332;go_upto_region 1 with(fail);generalize hW:(w.alloc (.cells (aN kind s eA en ec low high lA ln lc xA xn xc) 288))=W at aw uD⊢;generalize w.heap.size=eb at uD⊢;clear hW;have⟨l0,dS,sY⟩:=J3' uD aw (hC.ext aw);clear uD aw hC;refine fH (λw1=>al W w1) [(0,2),(1,2),(2,1),(4,2),(5,1),(3,0),(6,0)] ?_;refine fI ?_;refine abE ?_;intro cC;refine wl ?_;refine au (λK hK=>?_);go_simp;refine aoT (kZ cb g κ part aO s _ (sY.o.ext cC.o)) ?_;rw [<-HV.o];refine hK.out _ _ (λ_=>cC.o) ?_;clear hK K;refine wl ?_;refine dG aV aV (λK hK=>?_);go_simp;have HX:=J (dS.o.trans cC.o)
 by_cases i':v=0
 .have qv:(v !=0)=false:=by simp [i']
  have HR:=J (show X=some ⟨6,s⟩by rw [gf.o,qv];rfl);rw [qv];exact qH
 .have qv:(v !=0)=true:=by simp [i']
  have gq:aoR (X=aj (must (v==(if kind=1 then 2 else 1)) 11 s) (if kind=5 then must (iL low 2 1000) 2 s else none)):=J (by rw [gf.o,qv];rfl);rw [qv];refine(aW true _ _ _).mono ?_;rintro e w1 ⟨he,rfl⟩;have he:=cK.none he;subst he;refine hK.out _ _ ?_;clear hK K;refine fx ?_;have dQ:=cC;have x9:=bC (bX l0.o dQ.o);have BB:=(bX l0.o dQ.o).lt;have hvI:((v:Int) - 1+(if v=0 then 1 else 0))=(v:Int) - 1:=by rw [af i'];omega
  rcases hk with rfl|rfl|rfl
  ·
   have eU:aoR (X=must (v==1) 11 s):=J (by rw [gq.o];simp);go_upto_region 5 with(fail);clear x9 BB;generalize Vl:W.drew=W3 at dQ⊢;have fL:=J dQ.o;clear Vl;refine afM ?_;have qU:=J (pg W3);refine afL ?_;have HX:=J (dS.o.trans (fL.o.trans qU.o));clear hvI
   by_cases mJ:v=1
   .have Kd:((v:Int) - 1==0)=true:=by simp [mJ]
    exact akA
   .have Kd:((v:Int) - 1==0)=false:=by simp;omega
    exact akI
  ·
   have eU:aoR (X=must (v==2) 11 s):=J (by rw [gq.o];simp);go_upto_region 5 with(fail);clear x9 BB;generalize Vl:W.drew=W3 at dQ⊢;have fL:=J dQ.o;clear Vl;refine afM ?_;have qU:=J (pg W3);refine afL ?_;have HX:=J (dS.o.trans (fL.o.trans qU.o));clear hvI
   by_cases mJ:v=2
   .have Kd:((v:Int) - 1==1)=true:=by simp [mJ]
    exact akA
   .have Kd:((v:Int) - 1==1)=false:=by simp;omega
    have qn:(v==2)=false:=by simp [mJ]
    have HR:=J (show X=some ⟨11,s⟩by rw [eU.o,qn];rfl);refine C9 ?_;intro K hK
    try rw [Kd]
    exact qH
  ·
   have eU:aoR (X=aj (must (v==1) 11 s) (must (iL low 2 1000) 2 s)):=J (by rw [gq.o];simp);go_upto_region 5 with(fail);clear x9 BB;generalize Vl:W.drew=W3 at dQ⊢;have fL:=J dQ.o;clear Vl;refine afM ?_;have qU:=J (pg W3);refine afL ?_;have HX:=J (dS.o.trans (fL.o.trans qU.o));clear hvI
   by_cases mJ:v=1
   .have Kd:((v:Int) - 1==0)=true:=by simp [mJ]
    have kv:=J (show X=must (iL low 2 1000) 2 s by rw [eU.o,mJ];rfl);refine C9 ?_;intro K hK
    try rw [Kd]
    refine(aW true _ _ _).mono ?_;rintro e w1 ⟨he,rfl⟩;have he:=cK.none he;subst he;refine hK.out _ _ ?_;clear hK K;refine fx ?_;have ahr:=bC (bX l0.o (fL.o.trans qU.o));have ahK:=(bX l0.o (fL.o.trans qU.o)).lt;go_upto_region 7 with(fail);clear ahr ahK;generalize hW4:W3.drew=W4 at qU HX⊢;have lp:=J (fL.o.trans qU.o);clear hW4;refine fH (λw1=>al W4 w1) [(0,2),(1,1),(3,2),(4,1),(2,0),(5,0)] ?_;refine fI ?_;have qV:=J (pg W4)
    repeat first|refine cx ?_|refine de qV.o ajy ?_|refine dc qV.o ?_
    refine au (λK hK=>?_);go_simp;refine aoT (fg _ _ _ _) ?_;refine hK.out _ _ (λ_=>qV.o) ?_;clear hK K
    repeat first|refine cx ?_|refine de qV.o ajy ?_|refine dc qV.o ?_
    refine dG aV aV (λK hK=>?_);go_simp;have HX:=J (dS.o.trans (lp.o.trans qV.o))
    cases hb:iL low 2 1000
    .have HR:=J (show X=some ⟨2,s⟩by rw [kv.o,hb];rfl)
     exact qH
    .have HR:=J (show X=none by rw [kv.o,hb];rfl)
     exact alf
   .have Kd:((v:Int) - 1==0)=false:=by simp;omega
    exact akI
theorem Wp (cb g:Nat) (κ:Kn) (part:Str) (aO:Nat) (kind:Int) (s:Str) (eA:Option Addr) (en ec:Nat) (low high:Int) (lA:Option Addr) (ln lc:Nat) (xA:Option Addr) (xn xc:Nat) (hs:s.size<=maxLen) (w:World) (hC:Ck w cb g κ part aO) (hL:eQ w):
 Calls prog 333 #[.pointer (some ⟨cb,0,none⟩),.agg (aN kind s eA en ec low high lA ln lc xA xn xc)] w λe w'=>cK (loop κ s low high aO) e/\al w w':=by
 obtain⟨X,hX⟩:=nm' (loop κ s low high aO);rw [<-hX];obtain⟨v,hv⟩:=nm' (κ s);have HV:=J hv;have gf:aoR (X=aj (must (dq s) 6 s) (aj (must (v==0) 7 s) (aj (must (word low&&word high&&decide (high - low<=63)) 2 s) (must (decide (aO<8)) 25 s)))):=J (by rw [hX,hv];rfl);clear hX hv;have TE:=J hs;clear hs;have aw:=dY w (.cells (aN kind s eA en ec low high lA ln lc xA xn xc) 288);have uD:=bN w 288 (aN kind s eA en ec low high lA ln lc xA xn xc);go_enter func333,ntmps333;go_upto_region 1 with(fail);generalize hW:(w.alloc (.cells (aN kind s eA en ec low high lA ln lc xA xn xc) 288))=W at aw uD⊢;generalize w.heap.size=eb at uD⊢;clear hW;have⟨l0,dS,sY,wU⟩:=J4' uD aw (hC.ext aw) (hL.ext aw);clear uD aw hC hL;refine fH (λw1=>al W w1) [(0,2),(1,1),(3,2),(4,1),(2,0),(5,0)] ?_;refine fI ?_;refine abE ?_;intro cC;refine wl ?_;refine au (λK hK=>?_);go_simp;refine(lU s TE.o _ (wU.o.ext cC.o)).mono ?_;refine To ?_;intro w1 dQ;clear hK K
 repeat first|refine cx ?_|refine de dQ.o afw ?_|refine dc dQ.o ?_
 refine dG aV aV (λK hK=>?_);go_simp;have HX:=J (dS.o.trans dQ.o)
 cases hn:dq s
 .have HR:=J (show X=some ⟨6,s⟩by rw [gf.o,hn];rfl)
  exact qH
 .have gq:=J (show X=aj (must (v==0) 7 s) (aj (must (word low&&word high&&decide (high - low<=63)) 2 s) (must (decide (aO<8)) 25 s))by rw [gf.o,hn];rfl)
  refine(aW true _ _ _).mono ?_;rintro e w1 ⟨he,rfl⟩;have he:=cK.none he;subst he;refine hK.out _ _ ?_;clear hK K;refine fx ?_;go_upto_region 2 with(fail);refine fH (λw2=>al w1 w2) [(0,2),(1,2),(2,1),(5,2),(6,1),(3,0),(4,2),(7,0)] ?_;refine fI ?_;have eE:=J (pg w1)
  repeat first|refine cx ?_|refine de eE.o ajx ?_|refine dc eE.o ?_
  refine au (λK hK=>?_);go_simp;refine aoT (kZ cb g κ part aO s _ (sY.o.ext (dQ.o.trans eE.o))) ?_;rw [<-HV.o];refine hK.out _ _ (λ_=>eE.o) ?_;clear hK K
  repeat first|refine cx ?_|refine de eE.o ajx ?_|refine dc eE.o ?_
  refine dG aV aV (λK hK=>?_);go_simp;have HX:=J (dS.o.trans (dQ.o.trans eE.o))
  by_cases i':v=0
  .have qv:(v !=0)=false:=by simp [i']
   have eU:=J (show X=aj (must (word low&&word high&&decide (high - low<=63)) 2 s) (must (decide (aO<8)) 25 s)by rw [gq.o,i'];rfl)
   try rw [qv]
   try simp only [Bool.not_false]
   refine(aW true _ _ _).mono ?_;rintro e w1 ⟨he,rfl⟩;have he:=cK.none he;subst he;refine hK.out _ _ ?_;clear hK K;refine fx ?_;have fp:=J (dQ.o.trans eE.o);go_upto_region 3 with(fail);generalize Jq:w1.drew=W2 at fp⊢;clear Jq
   cases om:word low
   .have HR:=J (show X=some ⟨2,s⟩by rw [eU.o,om];rfl)
    refine afA ?_;intro qV K hK;rintro e w2 ⟨rfl,rfl⟩;rw [om];refine hK.out _ _ (λ_=>qV.o) ?_;clear hK K;refine Ld ?_;refine au (λK hK=>?_);go_simp;refine hK.out _ _ (λh=>h) ?_;exact akw
   .cases tf:word high
    .have HR:=J (show X=some ⟨2,s⟩by rw [eU.o,om,tf];rfl)
     refine afA ?_;intro qV K hK;rintro e w2 ⟨rfl,rfl⟩;rw [om];refine hK.out _ _ (λ_=>qV.o) ?_;clear hK K;refine Ld ?_;refine au (λK hK=>?_);go_simp;refine aoT (fT _ _) ?_;rw [tf];refine hK.out _ _ (λ_=>qV.o) ?_;exact akw
    .have hJ:-2147483648<=low/\low<=2147483647:=by simpa [word]using om
     have jo:-2147483648<=high/\high<=2147483647:=by simpa [word]using tf
     obtain⟨a1,a2⟩:=hJ;obtain⟨a3,a4⟩:=jo;have⟨HW1,HW2,kv⟩:=J3' om tf (show X=aj (must (decide (high - low<=63)) 2 s) (must (decide (aO<8)) 25 s)by rw [eU.o,om,tf];rfl);refine afA ?_;intro qV K hK;rintro e w2 ⟨rfl,rfl⟩;rw [HW1.o];refine hK.out _ _ (λ_=>qV.o) ?_;clear hK K;refine Ld ?_;refine au (λK hK=>?_);go_simp;refine aoT (fT _ _) ?_;rw [HW2.o];refine hK.out _ _ (λ_=>qV.o) ?_;clear hK K;have hwr:IntKind.i64.wrap (high - low)=high - low:=by rw [im];omega
     by_cases hd:high - low<=63
     .have tm:=J (show X=must (decide (aO<8)) 25 s by rw [kv.o,cJ hd];rfl)
      refine Ld ?_;refine dG aV aV (λK hK=>?_);go_simp;refine(aW true _ _ _).mono ?_;rintro e w1 ⟨he,rfl⟩;have he:=cK.none he;subst he;refine hK.out _ _ ?_;clear hK K;refine fx ?_;go_upto_region 4 with(fail);have fL:=J (fp.o.trans qV.o);generalize Vl:W2.drew=W3 at fL⊢;clear Vl;refine fH (λw2=>al W3 w2) [(0,2),(1,2),(2,2),(3,1),(4,2),(5,2),(6,1),(7,0)] ?_;refine fI ?_;have qU:=J (pg W3)
      repeat first|refine cx ?_|refine de qU.o (by intro w1 hS;have d1:=(sY.o.ext (fL.o.trans hS));have d2:=bC d1.blk;have d3:=d1.blk.lt;clear d1;have d4:=bX l0.o (fL.o.trans hS);have d5:=bC d4;have d6:=d4.lt;exact fV) ?_|refine dc qU.o ?_
      have HX:=J (dS.o.trans (fL.o.trans qU.o))
      by_cases h8:aO<8
      .have h8I:(aO:Int)<8:=by omega
       have HR:=J (show X=none by rw [tm.o,cJ h8];rfl);refine C9 ?_;intro K hK;exact alf
      .have h8I:¬(aO:Int)<8:=by omega
       have HR:=J (show X=some ⟨25,s⟩by rw [tm.o,cT h8];rfl);refine C9 ?_;intro K hK;exact qH
     .have HR:=J (show X=some ⟨2,s⟩by rw [kv.o,cT hd];rfl)
      exact adj
  .have qv:(v !=0)=true:=by simp [i']
   have qn:(v==0)=false:=by simp [i']
   have HR:=J (show X=some ⟨7,s⟩by rw [gq.o,qn];rfl)
   try rw [qv]
   try simp only [uM]
   exact qH
theorem Om {P:Program} {w:World} {ops:Array Oper} {rest:List Oper} {o:Oper} {a:Act} {Q:Exit->Act->World->Prop} (Dl:o.guard=none) (x y:Operand) (T1 T2:TypeId)
 (ho:o.op=.call {callee:=.builtin .delete,args:=#[x,y],argTypes:=#[T1,T2]}) {ty:TypeId} (hty:o.type=ty) {v s v':Value} {w':World} (hx:a.eval x=v) (hy:a.eval y=s)
 (dz:(Builtin.delete_ #[T1,T2] ty #[v,s]).run P w=.ok v' w') (h:wpList P ops Q rest (a.put o.dst v') w'):wpList P ops Q (o::rest) a w:=
 wpList_plain Dl λ_ hK=>by
  subst hty;unfold Oper.wp execOp;simp only [ho,resolve,invoke,builtin,Sem.run_bind,Sem.run_pure,Result.andThen_ok,List.map_toArray,tq,List.map_nil,hx,hy,dz];exact hK _ _ h
theorem dy.Ah {w:World} {g:Nat} {f:ByteArray->Option Value} (h:dy w g f) {p:Addr} {v:Value} (hc:w.cell? p=some v):¬p.block=g:=λe=>by
 obtain⟨es,clock,hb,_⟩:=h;unfold World.cell? at hc;rw [e,hb]at hc
 cases hc
theorem dy.Nr {w:World} {g b off:Nat} {f:ByteArray->Option Value} {vs:List Value} (h:dy w g f) (hr:Row w b off vs):¬b=g:=λe=>by
 obtain⟨es,clock,hb,_⟩:=h;obtain⟨c,t,fr,hq,_⟩:=hr.inv;rw [e,hb]at hq
 cases hq
def I' (f:ByteArray->Option Value) (l:List Str):ByteArray->Option Value:=λt=>if l.any (λu=>decide (u=t))=true then none else f t
theorem QJ (f:ByteArray->Option Value) (l:List Str) (x:Str):∀t,(λt=>if t=x then none else I' f l t) t=I' f (l++[x]) t:=by
 intro t;unfold I';exact afX
theorem Bo (nb pb cb g:Nat) (A:Option Addr) (n c:Nat) (l:List Str) (f:ByteArray->Option Value) (part:Str) (aO:Int) (u:FrameMode) (N:Nat) (w:World)
 (h1:w.cell? ⟨nb,0,none⟩=some (.slice A n c)) (h2:w.cell? ⟨pb,0,none⟩=some (.pointer (some ⟨cb,0,none⟩))) (hb:ai w cb 282 #[.map (some g),.string part,.int .i64 aO]) (hM:dy w g f) (hS:dN w N A n l):
 CallsD prog 319 #[.pointer (some ⟨nb,0,none⟩),.pointer (some ⟨pb,0,none⟩)] u w λe u' w'=>u'=u/\(e=.returned (.tuple #[])/\dy w' g (I' f l)/\Kept (·=g) w w'):=by
 obtain⟨hn,hm,b,off,hA,hE⟩:=hS;have⟨HN,HA,HE,HM,n1,n2⟩:=J6' hn hA hE hM (hM.Ah h1) (hM.Ah h2);have yf:=bC hb;have⟨n3,l1,l2,HB,H2⟩:=J5' (hM.Ah (p:=⟨cb,0,none⟩) (yf 0)) (Nat.lt_of_not_le (λh=>by unfold World.cell? at h1;rw [Array.getElem?_eq_none h]at h1;cases h1):nb<w.heap.size) (Nat.lt_of_not_le (λh=>by unfold World.cell? at h2;rw [Array.getElem?_eq_none h]at h2;cases h2):pb<w.heap.size) hb h2;clear hn hA hE hM yf hb
 go_enter_d func319,ntmps319
 go_wp21
 go_loopw [6] (λt6 wr=>∃(j:Nat),j<=n/\t6=.int .i64 j/\dy wr g (I' f (l.take j))/\Kept (·=g) w wr) (λt6 _=>n - (intOf t6).toNat)
 case atStart=>exact⟨0,cI _,rfl,HM.o.nR (λt=>by simp [I']),kR _ _⟩
 case round=>
  obtain⟨j,hj,rfl,hS,hx⟩:=hrel;have HS:=J hS;have HX:=J hx;clear hS hx h2
  by_cases aP:j<n
  .have d_:j<l.length:=by have:=HN.o;omega
   have gD:(j:Int)<n:=by omega
   obtain rfl:=HA.o ad;have ny:=(HE.o ad).2;have aE:=ny.kept HX.o (HM.o.Nr ny);have hc:=CG aE j d_;have gB:=aE.lt;have c2:=(Kept.cell HX.o (p:=⟨pb,0,none⟩) l2.o n2.o).trans H2.o;have bk:=bK HB.o HX.o n3.o;have cb0:=bC bk;have lcb:=bk.lt;obtain⟨x,fj⟩:=nm' (l[j]);rw [<-fj]at hc;have gZ:=J fj;clear aE ny fj bk;obtain⟨w',dz,qW,jR⟩:=dy.del (P:=prog) HS.o underlying280 underlying9 0 x;have Yx:=J qW;have LU:=J jR;clear qW jR;go_upto_region 3 with(fail);go_step
   iterate 5 refine kE ?_
   refine Om rfl (.tmp 13) (.tmp 14) _ _ rfl rfl rfl rfl dz ?_;clear dz;go_wp21;go_roundw
   case rel=>exact⟨j+1,aP,by go_num,Yx.o.nR (λt=>by rw [lq,List.getElem?_eq_getElem d_,<-gZ.o];exact QJ f (l.take j) x t),HX.o.trans LU.o⟩
   case measure=>simp only [intOf];omega
  .obtain rfl:j=n:=by omega
   go_wp21;go_end0;have hS:=HS.o;rw [HN.o,jr]at hS;exact⟨rfl,hS,HX.o⟩
def Ua (cb g:Nat) (κ:Kn) (part:Str) (aO:Nat):Option nZ->Ending->World->Prop
 |none,e,w=>e=.returned (.tuple #[])/\Ck w cb g κ part aO
 |some f,e,w=>e=.panicked (SX f)/\∃(m:ByteArray->Option Value) (k:Int),dy w g m/\ai w cb 282 #[.map (some g),.string part,.int .i64 k]
abbrev SG (cb g:Nat):Nat->Prop:=λi=>i=g∨i=cb
abbrev BlC (cb g i:Nat) (w0:World) (N:Nat) (F:SF):Prop:=∀(κ:Kn) (aO:Nat) (fy:Bool) (A:Option Addr) (n c:Nat) (B:Option Addr) (bn bc:Nat) (ns:List Str) (w':World),Kept (SG cb g) w0 w'->Ck w' cb g κ (bV i) aO->aO<=8->jm w0 N A n F->
 dN w' w'.heap.size B bn ns->(∀x,B=some x->¬x.block=cb)->(∀s∈ns,κ s=0)->
 Calls prog 297 #[.pointer (some ⟨cb,0,none⟩),.slice A n c,.bool fy,.slice B bn bc] w' λe w2=>Ua cb g κ (bV i) aO (cH i (a_ κ ns) aO fy F) e w2/\Kept (SG cb g) w' w2
theorem Oh (κ:Kn) (s:Str):a_ κ [s]=pM κ s 3:=by
 funext t
 unfold a_ pM
 by_cases h:t=s
 .subst h;simp
 .have:¬s=t:=λe=>h e.symm
  simp [h,this]
theorem Ck.lt {w:World} {cb g:Nat} {part:Str} {aO:Nat} (h:Ck w cb g κ part aO):cb<w.heap.size:=h.blk.lt
theorem Ck.ne {w:World} {cb g:Nat} {part:Str} {aO:Nat} (h:Ck w cb g κ part aO):¬cb=g:=h.map.Ah (p:=⟨cb,0,none⟩) (bC h.blk 0)
theorem oZ (κ:Kn) (op n:Int) (s:Str) (k r:EF):ke κ (.cons op n s k r)=aj (aj (must (decide (jc (1+k.deep)<=12)) 25 E0) (A8 κ op n s k)) (ke κ r):=rfl
theorem Ck.PY {w:World} {cb g:Nat} {part:Str} {aO:Nat} (h:Ck w cb g κ part aO) (m:Nat):Ck (w.setCell ⟨cb,2,none⟩ (.int .i64 m)) cb g κ part m:=
 ⟨ai.eK h.blk 2 (.int .i64 m),h.map.kept (S:=(·=cb)) (Kept.setCell (kR _ w) ⟨cb,2,none⟩ _ (λ_=>rfl)) (λe=>h.ne e.symm)⟩
theorem PE {s:Str} {low high:Int} {aO:Nat} (h:loop κ s low high aO=none):dq s=true/\κ s=0/\aO<8:=by
 unfold loop must at h
 cases h1:dq s<;>cases h2:(κ s==0)<;>cases h3:(word low&&word high&&decide (high - low<=63))<;>simp [h1,h2,h3,aj]at h⊢
 .simp at h2
  exact⟨h2,h⟩
theorem KI (cb g i:Nat) (hi:i<5) (w0:World) (N:Nat) (rA:5<N) (Jo:N<=g) (Jn:N<=cb) (O8:N<=w0.heap.size) (κ:Kn) (aO:Nat) (hf8:aO<=8) (kind:Int) (name:Str) (es:EF) (low high:Int) (l x:SF) (eA:Option Addr) (en ec:Nat) (lA:Option Addr) (ln lc:Nat) (xA:Option Addr) (xn xc:Nat) (last:Bool)
 (hsz:name.size<=maxLen) (he:me w0 N eA en es) (hl:jm w0 N lA ln l) (zL:jm w0 N xA xn x) (hBl:BlC cb g i w0 N l) (hBx:BlC cb g i w0 N x) (w:World) (hw:Kept (SG cb g) w0 w) (hC:Ck w cb g κ (bV i) aO) (hL:eQ w):
 Calls prog 320 #[.pointer (some ⟨cb,0,none⟩),.agg (aN kind name eA en ec low high lA ln lc xA xn xc),.bool last] w λe w2=>Ua cb g κ (bV i) aO (oG i κ aO last kind name es low high l x) e w2/\Kept (SG cb g) w w2:=by
 have qS:=J (show∀j,SG cb g j->N<=j from λj h=>by rcases h with h|h<;>omega);obtain⟨X,hX⟩:=nm' (oG i κ aO last kind name es low high l x);rw [<-hX];have TP:=he.1;have gf:aoR (X=aj (must (iL kind 0 9&&en==stmtParts kind) 3 E0) (aj (must (stands kind i last) 10 (bV i)) (aj (named κ kind name low high aO) (aj (ke κ es) (if kind=2 then aj (cH i κ aO false l) (cH i κ aO false x)else if kind=3 then cH i (pM κ name 3) (aO+1) false l else none))))):=J (by rw [hX,TP];rfl);clear hX;have aw:=dY w (.cells (aN kind name eA en ec low high lA ln lc xA xn xc) 288);have uD:=bN w 288 (aN kind name eA en ec low high lA ln lc xA xn xc);have fX:=J (ax (ax O8 hw.size) aw.size);obtain⟨hn,hf,b,off,hA,hE⟩:=(he.kept hw O8 qS.o).ext aw (ax O8 hw.size);refine xP ?_;intro hm HN HA HE;have⟨wI,HSX,HBL,HBX,TE,Tw,Yv⟩:=J7' hl zL hBl hBx hsz hf8 (ew rA (ew Jo Jn));clear hn hA hE hf he hl zL hBl hBx TP hsz hf8 rA Jo Jn;go_enter func320,ntmps320;go_upto_region 1 with(fail);generalize hW:(w.alloc (.cells (aN kind name eA en ec low high lA ln lc xA xn xc) 288))=W at aw uD HE fX⊢
 have mS:=J (show¬SG cb g w.heap.size from by
  rintro(h|h)
  .have:=hC.map.lt;omega
  .have:=hC.lt;omega)
 generalize w.heap.size=eb at uD mS⊢;clear hW;have⟨l0,dS,sY,wU⟩:=J4' uD aw (hC.ext aw) (hL.ext aw);refine abE ?_;intro cC;have HWW:=J hw;clear uD aw hC hL hw
 cases hJ:iL kind 0 9
 .have HR:=J (show X=some ⟨3,E0⟩by rw [gf.o,hJ];rfl)
  refine abB ?_;refine wl ?_;refine au (λK hK=>?_);go_simp;refine aoT (fg _ _ _ _) ?_;rw [hJ];refine hK.out _ _ (λ_=>cC.o) ?_;clear hK K;refine wl ?_;exact akG
 .obtain⟨k,rfl⟩:∃k:Nat,kind=k:=⟨kind.toNat,by simp [iL]at hJ;omega⟩
  have ta:k<10:=by simp [iL]at hJ;omega
  have hkI:(k:Int)<10:=by omega
  have HT:=J (wU.o.sm k ta);have Lq:=J hJ;refine abB ?_
  repeat first|refine cx ?_|refine de cC.o zb9 ?_|refine dc cC.o ?_
  refine au (λK hK=>?_);go_simp;refine aoT (fg _ _ _ _) ?_;rw [hJ];refine hK.out _ _ (λ_=>cC.o) ?_;clear hK K
  cases jo:((en:Int)==(stmtParts k:Int))
  .have HR:=J (show X=some ⟨3,E0⟩by rw [gf.o,Lq.o,<-ot,jo];rfl)
   repeat first|refine cx ?_|refine de cC.o zb9 ?_|refine dc cC.o ?_
   exact akG
  .have gq:=J (show X=aj (must (stands k i last) 10 (bV i)) (aj (named κ k name low high aO) (aj (ke κ es) (if (k:Int)=2 then aj (cH i κ aO false l) (cH i κ aO false x)else if (k:Int)=3 then cH i (pM κ name 3) (aO+1) false l else none)))by rw [gf.o,Lq.o,<-ot,jo];rfl)
   repeat first|refine cx ?_|refine de cC.o zb9 ?_|refine dc cC.o ?_
   refine dG aV aV (λK hK=>?_);go_simp;refine(aW true _ _ _).mono ?_;rintro e w1 ⟨he,rfl⟩;have he:=cK.none he;subst he;refine hK.out _ _ ?_;clear hK K;refine fx ?_;go_upto_region 2 with(fail);clear hJ jo;generalize kX:W.drew=W1 at cC⊢;clear kX;have dQ:=cC;refine fH (λw1=>al W1 w1) [(0,2),(1,2),(2,1),(3,2),(5,2),(6,2),(7,2),(8,1),(4,0),(9,0)] ?_;refine fI ?_;have eE:=J (pg W1)
   repeat first|refine cx ?_|refine de eE.o zb6 ?_|refine dc eE.o ?_
   refine au (λK hK=>?_);go_simp;refine aoT (N8 cb g κ i aO hi k last _ (sY.o.ext (dQ.o.trans eE.o))) ?_;refine hK.out _ _ (λ_=>eE.o) ?_;clear hK K
   repeat first|refine cx ?_|refine de eE.o zb6 ?_|refine dc eE.o ?_
   cases dw:stands k i last
   .have HR:=J (show X=some ⟨10,bV i⟩by rw [gq.o,dw];rfl)
    refine dG aV aV (λK hK=>?_);go_simp;refine(aW false _ _ _).mono ?_;rintro e w1 ⟨he,rfl⟩;have he:e=.panicked (SX ⟨10,bV i⟩):=he;subst he;have pO:=J (sY.o.ext (dQ.o.trans eE.o));have gZ:=J (Kept.ext (S:=SG cb g) (dS.o.trans (dQ.o.trans eE.o)));exact Ln
   .have eU:=J (show X=aj (named κ k name low high aO) (aj (ke κ es) (if (k:Int)=2 then aj (cH i κ aO false l) (cH i κ aO false x)else if (k:Int)=3 then cH i (pM κ name 3) (aO+1) false l else none))by rw [gq.o,dw];rfl)
    clear dw;refine dG aV aV (λK hK=>?_);go_simp;refine(aW true _ _ _).mono ?_;rintro e w1 ⟨he,rfl⟩;have he:=cK.none he;subst he;refine hK.out _ _ ?_;clear hK K;refine fx ?_;have ys:=dQ.o.trans eE.o;clear ta hkI HT Lq gq gf;have x9:=bC (bX l0.o ys)
    by_cases JA:k=0
    .have q0:((k:Int)==0)=true:=by simp;omega
     refine afH ?_;intro eU;have q2:((k:Int)==2)=false:=by simp;omega
     have q3:((k:Int)==3)=false:=by simp;omega
     have Gi:=J (show(k:Int)=0∨(k:Int)=1∨(k:Int)=5 by omega);clear JA;exact zz8
    .have q0:((k:Int)==0)=false:=by simp;omega
     by_cases ss:k=5
     .have q5:((k:Int)==5)=true:=by simp;omega
      refine afH ?_;intro eU;have q2:((k:Int)==2)=false:=by simp;omega
      have q3:((k:Int)==3)=false:=by simp;omega
      have Gi:=J (show(k:Int)=0∨(k:Int)=1∨(k:Int)=5 by omega);clear JA ss;exact zz8
     .have q5:((k:Int)==5)=false:=by simp;omega
      by_cases jZ:k=1
      .have q1:((k:Int)==1)=true:=by simp;omega
       refine afH ?_;intro eU;have q2:((k:Int)==2)=false:=by simp;omega
       have q3:((k:Int)==3)=false:=by simp;omega
       have Gi:=J (show(k:Int)=0∨(k:Int)=1∨(k:Int)=5 by omega);clear JA ss jZ;exact zz8
      .have q1:((k:Int)==1)=false:=by simp;omega
       by_cases jq:k=3
       .have q3:((k:Int)==3)=true:=by simp;omega
        have q2:((k:Int)==2)=false:=by simp;omega
        have eU:=J (show X=aj (loop κ name low high aO) (aj (ke κ es) (cH i (pM κ name 3) (aO+1) false l))by
         have hn:named κ k name low high aO=loop κ name low high aO:=by unfold named;rw [af ad,ak ad]
         have h:=eU.o;rw [hn,af ad,ak ad]at h;exact h)
        clear JA ss jZ jq;have hgE:=bG (bX l0.o ys);have hhE:=bH (bX l0.o ys);have BB:=(bX l0.o ys).lt;go_wp21;obtain⟨t,ht⟩:=nm' (loop κ name low high aO);have HK:=J (Wp cb g κ (bV i) aO k name eA en ec low high lA ln lc xA xn xc TE.o _ (sY.o.ext ys) (wU.o.ext ys));rw [<-ht]at HK eU;have HLT:=J (show t=none->_ from λh=>PE (ht.symm.trans h));clear ht hgE hhE BB;refine HK.o.mono ?_;rintro e w2 ⟨he,bd⟩
        cases t with
        |some f=>
         exact acW
        |none=>
         have he:=cK.none he;subst he;have HLT:=J (HLT.o rfl);have mw:=J (show X=aj (ke κ es) (cH i (pM κ name 3) (aO+1) false l)from eU.o);have ys:=ys.trans bd;clear bd HK;have HYS:=J ys;have x9:=bC (bX l0.o ys);have BB:=(bX l0.o ys).lt;obtain⟨Z,hZ⟩:=nm' (ke κ es);rw [<-hZ]at mw;have HZ:=J hZ.symm;clear hZ ys;go_wp21
         go_loopw [49] (λt49 wr=>∃(j:Nat) (R:EF),j+R.len=en/\ke κ R=Z/\t49=.int .i64 j/\mc W N R b (off+j*4)/\al W wr) (λt49 _=>en - (intOf t49).toNat)
         case atStart=>exact⟨0,es,by rw [HN.o,dT],HZ.o,rfl,by simpa using HE.o,HYS.o⟩
         case round=>
          obtain⟨j,R,hj,bw,rfl,hR,hx⟩:=hrel;have⟨mv,HX,ca⟩:=J3' hR hx bw;have x9:=bC (bX l0.o hx);have BB:=(bX l0.o hx).lt;clear hR hx bw
          cases R with
          |nil=>
           simp only [EF.len,eW]at hj;subst hj;have hz0:Z=none:=by rw [<-ca.o];rfl
           rw [hz0]at mw;have Ij:=J (show X=cH i (pM κ name 3) (aO+1) false l from mw.o);clear hz0 mw;have DC:=J (sY.o.ext HX.o);have hcC:=bC DC.o.blk;have hzC:=ai.frozen DC.o.blk;have hlC:=DC.o.lt;have hf8:=Tw.o;go_upto_region 22 with(fail);have⟨Lr,zv,OG⟩:=J3' (show Ck (wr.setCell ⟨cb,2,none⟩ (.int .i64 ((aO:Int)+1))) cb g κ (bV i) (aO+1)from DC.o.PY (aO+1)) (show Kept (SG cb g) w (wr.setCell ⟨cb,2,none⟩ (.int .i64 ((aO:Int)+1)))from(Kept.ext (dS.o.trans HX.o)).setCell ⟨cb,2,none⟩ _ (λ_=>Or.inr rfl)) (show ai (wr.setCell ⟨cb,2,none⟩ (.int .i64 ((aO:Int)+1))) eb _ _ from(bX l0.o HX.o).kV (p:=⟨cb,2,none⟩) (λe=>mS.o (Or.inr e)) _);generalize (wr.setCell ⟨cb,2,none⟩ (.int .i64 ((aO:Int)+1)))=wq at Lr zv OG⊢;clear hcC hzC hlC x9 BB DC HX hf8;have Rm:=bC OG.o;have Ro:=OG.o.lt;go_wp21;obtain⟨hl3,hl4,T_⟩:=HLT.o trivial;have tF:=dY wq (.cells #[.string name] 9);have hE9:=bN wq 9 #[.string name];have hqc:=Lr.o.lt;have hb:=HBL.o κ (aO+1) false lA ln lc (some ⟨wq.heap.size,0,none⟩) 1 1 [name] _ (HWW.o.trans (zv.o.trans (Kept.ext tF))) (Lr.o.ext tF) ad wI.o ⟨rfl,by omega,wq.heap.size,0,λ_=>rfl,λ_=>⟨hE9.lt,by simpa using Row.cF hE9⟩⟩ (λx h=>by cases h;show¬wq.heap.size=cb;omega) (by intro s hs;rw [List.mem_singleton.1 hs];exact hl4);rw [Oh,<-Ij.o]at hb;refine hb.mono ?_;rintro e w2 ⟨jo,eV⟩;have gf:=J (zv.o.trans ((Kept.ext tF).trans eV))
           cases X with
           |some f=>
            obtain⟨he,hm⟩:=jo;subst he;show _/\_;exact⟨rfl,⟨rfl,hm⟩,gf.o⟩
           |none=>
            obtain⟨he,hc2⟩:=jo;subst he;have IC:=J hc2;have hcC:=bC hc2.blk;have hzC:=ai.frozen hc2.blk;have hlC:=hc2.lt;clear hc2 hb eV tF hE9 hqc Rm Ro;have hf8:=Tw.o;go_wp21;go_end0;exact⟨⟨rfl,IC.o.PY aO⟩,gf.o.setCell ⟨cb,2,none⟩ _ (λ_=>Or.inr rfl)⟩
          |cons rH m' name' q rr=>
           exact afN
       .have q3:((k:Int)==3)=false:=by simp;omega
        by_cases eV:k=2
        .have q2:((k:Int)==2)=true:=by simp;omega
         have mw:=J (show X=aj (ke κ es) (aj (cH i κ aO false l) (cH i κ aO false x))by
          have hn:named κ k name low high aO=none:=by unfold named;rw [af ad,af ad]
          have h:=eU.o;rw [hn,ak ad]at h;exact h)
         clear eU JA ss jZ jq eV;have HYS:=J ys;have x9:=bC (bX l0.o ys);have BB:=(bX l0.o ys).lt;obtain⟨Z,hZ⟩:=nm' (ke κ es);rw [<-hZ]at mw;have HZ:=J hZ.symm;clear hZ ys;go_wp21
         go_loopw [49] (λt49 wr=>∃(j:Nat) (R:EF),j+R.len=en/\ke κ R=Z/\t49=.int .i64 j/\mc W N R b (off+j*4)/\al W wr) (λt49 _=>en - (intOf t49).toNat)
         case atStart=>exact⟨0,es,by rw [HN.o,dT],HZ.o,rfl,by simpa using HE.o,HYS.o⟩
         case round=>
          obtain⟨j,R,hj,bw,rfl,hR,hx⟩:=hrel;have⟨mv,HX,ca⟩:=J3' hR hx bw;have x9:=bC (bX l0.o hx);have BB:=(bX l0.o hx).lt;clear hR hx bw
          cases R with
          |nil=>
           simp only [EF.len,eW]at hj;subst hj;have hz0:Z=none:=by rw [<-ca.o];rfl
           rw [hz0]at mw;have Ij:=J (show X=aj (cH i κ aO false l) (cH i κ aO false x)from mw.o);clear hz0 mw;have⟨zv,DC,adu⟩:=J3' (Kept.ext (S:=SG cb g) (dS.o.trans HX.o)) (sY.o.ext HX.o) (bX l0.o HX.o);go_wp21;have hb:=HBL.o κ aO false lA ln lc none 0 0 [] wr (HWW.o.trans zv.o) DC.o Tw.o wI.o ⟨rfl,by omega,0,0,λh=>absurd h ad,λh=>absurd h ad⟩ (by nofun) aB;rw [nL]at hb;obtain⟨v,hv⟩:=nm' (cH i κ aO false l);rw [<-hv]at hb Ij;clear hv;refine hb.mono ?_;rintro e w2 ⟨jo,eV⟩
           cases v with
           |some f=>
            obtain⟨he,hm⟩:=jo;subst he;show _/\_;refine⟨rfl,?_,zv.o.trans eV⟩;rw [show X=some f from Ij.o];exact⟨rfl,hm⟩
           |none=>
            obtain⟨he,hc2⟩:=jo;subst he;have⟨Ij,zv,IC⟩:=J3' (show X=cH i κ aO false x from Ij.o) (zv.o.trans eV) hc2;have Rm:=bC (bK adu.o eV mS.o);have Ro:=(bK adu.o eV mS.o).lt;clear eV hc2 hb adu DC x9 BB;go_wp21;have hb:=HBX.o κ aO false xA xn xc none 0 0 [] w2 (HWW.o.trans zv.o) IC.o Tw.o HSX.o ⟨rfl,by omega,0,0,λh=>absurd h ad,λh=>absurd h ad⟩ (by nofun) aB;rw [nL]at hb;rw [<-Ij.o]at hb;clear Ij;refine hb.mono ?_;rintro e w3 ⟨Pa,jq⟩
            cases X with
            |some f=>
             obtain⟨he,hm⟩:=Pa;subst he;show _/\_;exact⟨rfl,⟨rfl,hm⟩,zv.o.trans jq⟩
            |none=>
             obtain⟨he,hc3⟩:=Pa;subst he;go_wp21;go_end0;exact⟨⟨rfl,hc3⟩,zv.o.trans jq⟩
          |cons rH m' name' q rr=>
           exact afN
        .have q2:((k:Int)==2)=false:=by simp;omega
         have mw:=J (show X=aj (ke κ es) none by
          have hn:named κ k name low high aO=none:=by unfold named;rw [af ad,af ad]
          have h:=eU.o;rw [hn,af ad,af ad]at h;exact h)
         clear eU JA ss jZ jq eV;exact adf
def L2 (f:ByteArray->Option Value) (l:List Str):ByteArray->Option Value:=λt=>if l.any (λu=>decide (u=t))=true then some (.int .i64 2)else f t
theorem Qt (f:ByteArray->Option Value) (l:List Str) (x:Str):∀t,(λt=>if t=x then some (.int .i64 2)else L2 f l t) t=L2 f (l++[x]) t:=by
 intro t;unfold L2;exact afX
theorem ZL (κ:Kn) (l:List Str):∀t,L2 (Gt κ) l t=Gt (a_ κ l) t:=by
 intro t;unfold L2 Gt a_
 cases h:l.any (λu=>decide (u=t))
 .simp
 .simp
theorem ZS (κ:Kn) (l:List Str) (h0:∀s∈l,κ s=0):∀t,I' (Gt (a_ κ l)) l t=Gt κ t:=by
 intro t;unfold I' Gt a_
 cases h:l.any (λu=>decide (u=t))
 .simp
 .obtain⟨u,hu,hut⟩:=List.any_eq_true.1 h
  have:κ t=0:=of_decide_eq_true hut▸h0 u hu;simp [this]
theorem Qz (cb g i:Nat) (hi:i<5) (w0:World) (N:Nat) (rA:5<N) (Jo:N<=g) (Jn:N<=cb) (O8:N<=w0.heap.size) (hL:eQ w0) (F:SF):BlC cb g i w0 N F:=by
 have qS:=J (show∀j,SG cb g j->N<=j from λj h=>by rcases h with h|h<;>omega);refine qh (C:=BlC cb g i w0 N) ?_ F;clear F;intro F IH κ aO fy A n c B bn bc ns w hw hC hf8 oh hns agY JA;obtain⟨hn,hf,b,off,hA,hE⟩:=oh;have hm:=hf.max ad;obtain⟨ME,xZ,bb,bo,hB,hR⟩:=hns;have⟨HN,HA,HE,HI,Lq,HB,HR,HBC,Ls,HW,HC,Tw,HL,Yv⟩:=J14 hn hA hE IH ME hB hR agY JA hw hC hf8 hL (ew rA (ew Jo Jn));clear hn hA hE IH hf ME hB hR agY JA hw hC hf8 hL rA Jo Jn;obtain⟨Lp,jR⟩:=nm' (a_ κ ns);obtain⟨Z,hZ⟩:=nm' (cH i Lp aO fy F);rw [<-jR,<-hZ];have je:=J jR;have HZ:=J hZ.symm;clear jR hZ;refine abD ?_;intro D2
 go_enter_defers func297,ntmps297
 go_upto_region 1 with(fail);obtain⟨p4,ES⟩:=nm' w.heap.size;obtain⟨W,hW⟩:=nm' ((w.alloc (.cells #[.pointer (some ⟨cb,0,none⟩)] 279)).alloc (.cells #[.slice B bn bc] 241));have aF:al w W:=by rw [hW];exact(dM w _).alloc _
 have h4:ai W p4 279 #[.pointer (some ⟨cb,0,none⟩)]:=by rw [hW,ES];exact(bN w _ _).alloc _
 have h7:ai W (p4+1) 241 #[.slice B bn bc]:=by
  rw [hW,ES];exact ai.ea _ _ _ _ aB
 rw [<-hW,<-ES];have hp7:(w.alloc (.cells #[.pointer (some ⟨cb,0,none⟩)] 279)).heap.size=p4+1:=by rw [ES];simp
 have Di:=J (show w.heap.size<=p4 from by omega)
 have NE4:¬SG cb g p4/\¬SG cb g (p4+1):=by
  have h1:=HC.o.map.lt;have h2:=HC.o.lt
  constructor<;>(rintro(h|h)<;>omega)
 clear hW ES
 try rw [hp7]
 clear hp7;have⟨dS,H4,H7,mS⟩:=J4' aF h4 h7 NE4;have h7c:=bC h7;clear aF h4 h7 NE4;go_wp21
 go_loopw [14] (λt14 wr=>∃(j:Nat),j<=bn/\t14=.int .i64 j/\dy wr g (L2 (Gt κ) (ns.take j))/\Kept (·=g) W wr) (λt14 _=>bn - (intOf t14).toNat)
 case atStart=>exact⟨0,cI _,rfl,(HC.o.map.ext dS.o).nR (λt=>by simp [L2]),kR _ _⟩
 case round=>
  obtain⟨j,hj,rfl,hS,hx⟩:=hrel;have HS:=J hS;have HX:=J hx;have aht:=bK (bX HC.o.blk dS.o) hx HC.o.ne;have⟨H4B,H7B,zU⟩:=J3' (bK H4.o hx (λe=>mS.o.1 (Or.inl e))) (bK H7.o hx (λe=>mS.o.2 (Or.inl e))) aht;clear hS hx aht h7c;have c4:=bC H4B.o;have cb0:=bC zU.o;have lcb:=zU.o.lt
  by_cases aP:j<bn
  .have d_:j<ns.length:=by have:=Lq.o;omega
   have gD:(j:Int)<bn:=by omega
   obtain rfl:=HB.o ad;have ny:=(HR.o ad).2;have aE:=(ny.kept dS.o (λf=>f)).kept HX.o (HC.o.map.Nr ny);have hc:=CG aE j d_;have gB:=aE.lt;obtain⟨x,fj⟩:=nm' (ns[j]);rw [<-fj]at hc;have gZ:=J fj;clear aE ny fj;obtain⟨w',dz,qW,jR⟩:=dy.put (P:=prog) HS.o underlying280 underlying9 x (.int .i64 2);have Yx:=J qW;have LU:=J jR;clear qW jR;go_wp21;exact⟨⟨j+1,aP,by go_num,Yx.o.nR (λt=>by rw [lq,List.getElem?_eq_getElem d_,<-gZ.o];exact Qt (Gt κ) (ns.take j) x t),HX.o.trans LU.o⟩,by simp only [intOf];omega⟩
  .obtain rfl:j=bn:=by omega
   have wI:=J (show∀w',Kept (SG cb g) wr w'->dN w' p4 B j ns from λw' hk=>⟨Lq.o,xZ,bb,bo,HB.o,λh=>by
    have hr:=HR.o h;have hg:=HC.o.map.Nr hr.2;have hc:=HBC.o _ (HB.o h);refine⟨by have:=Di.o;omega,(((hr.2.kept dS.o (λf=>f)).kept HX.o hg).kept hk ?_)⟩;rintro(e|e)
    .exact hg e
    .exact hc e⟩)
   have lj:=J (show Ck wr cb g (a_ κ ns) (bV i) aO from⟨zU.o,HS.o.nR (λt=>by rw [Lq.o,jr];exact ZL κ ns t)⟩);have ZA:=J (show Kept (SG cb g) w wr from(Kept.ext dS.o).trans (HX.o.mono (λ_ _ h=>Or.inl h)));rw [<-je.o]at lj;have LR:=J HC.o;clear HS HX zU c4 cb0 lcb HB HR dS H4 H7 HC;have HWQ:=J (HW.o.trans ZA.o);have HLR:=J (HL.o.kept HWQ.o (λk hk h=>by have:=qS.o k h;have:=Yv.o.1;omega));have Zr:=J (ax O8 HWQ.o.size);go_wp21
   go_loopw [27] (λt27 wq=>∃(m:Nat) (R:SF),m+R.len=n/\cH i Lp aO fy R=Z/\t27=.int .i64 m/\nk w0 N R b (off+m*7)/\SF.wG (BlC cb g i w0 N) R/\Ck wq cb g Lp (bV i) aO/\Kept (SG cb g) wr wq) (λt27 _=>n - (intOf t27).toNat)
   case atStart=>exact⟨0,F,by rw [HN.o,dT],HZ.o,rfl,by simpa using HE.o,HI.o,lj.o,kR _ _⟩
   case round=>
    obtain⟨m,R,qO,bw,rfl,hR,hall,Ju,hx⟩:=hrel;have⟨mv,HX,ca,fW,Lr⟩:=J5' hR hx bw hall Ju;clear hR hx bw hall Ju
    cases R with
    |nil=>
     simp only [SF.len,eW]at qO;subst qO;have hz0:Z=none:=by rw [<-ca.o];rfl
     subst hz0;go_wp21;have VG:=bC (bK H4B.o HX.o mS.o.1) 0;have qC:=bC (bK H7B.o HX.o mS.o.2) 0;refine leaves_cons (f:=319) (args:=#[.pointer (some ⟨p4+1,0,none⟩),.pointer (some ⟨p4,0,none⟩)]) aB (by simp [go_sem]) ?_;refine(Bo (p4+1) p4 cb g B j bc ns (Gt Lp) (bV i) aO .returning p4 _ qC VG Lr.o.blk Lr.o.map (wI.o _ HX.o)).mono ?_;rintro e u' w2 ⟨rfl,rfl,eN,eV⟩;refine⟨_,results_none rfl _ _ _,⟨rfl,bK Lr.o.blk eV LR.o.ne,eN.nR λt=>?_⟩,ZA.o.trans (HX.o.trans (eV.mono λ_ _ h=>Or.inl h))⟩;rw [je.o];exact ZS κ ns Ls.o t
    |cons kind name es low high l x r=>
     obtain⟨hb,h1,h2,h3,h4,⟨eA,ec,lA,lc,xA,xc,be,oe,bl,ol,bx,ox,hh,hg,n1,n2,n3,a1,a2,a3,he,hl,zL⟩,hr⟩:=mv.o;simp only [SF.len]at qO;have aP:(m:Int)<n:=by omega
     obtain rfl:=HA.o ad;have pK:Kept (SG cb g) w0 _:=HWQ.o.trans HX.o;have qX:¬SG cb g b:=λh=>by have:=qS.o b h;omega
     have jx:=(jv pK ad qX).trans hh;have hg':=(iz pK ad qX).trans hg;have gB:b<wr.heap.size:=by have:=pK.size;omega
     have KE:=J (show me w0 N eA es.len es from⟨rfl,n1,be,oe,a1,he⟩);refine Tn ?_;intro KL KX;have⟨qR,FI,TE⟩:=J3' hr fW.o h4;have c4:=bC (bK H4B.o HX.o mS.o.1);have l4:=(bK H4B.o HX.o mS.o.1).lt;have OO:=J pK;clear hh hg n1 n2 n3 a1 a2 a3 he hl zL hb h1 h2 h3 h4 hr mv pK qX;have y0:=dY wr (.cells (aN kind name eA es.len ec low high lA l.len lc xA x.len xc) 288);have cC:=J y0;clear y0
     cases fy
     .have ca:=J (show aj (oG i Lp aO false kind name es low high l x) (cH i Lp aO false r)=Z from ca.o▸(kT i Lp aO false kind name es low high l x r).symm)
      go_wp21;have HK:=J (KI cb g i hi w0 N Yv.o.1 Yv.o.2.1 Yv.o.2.2 O8 Lp aO Tw.o kind name es low high l x eA es.len ec lA l.len lc xA x.len xc false TE.o KE.o KL.o KX.o FI.o.1 FI.o.2.1 _ (OO.o.trans (Kept.ext cC.o)) (Lr.o.ext cC.o) (HL.o.kept (OO.o.trans (Kept.ext cC.o)) (λk hk h=>by have:=qS.o k h;have:=Yv.o.1;omega)));obtain⟨v,hv⟩:=nm' (oG i Lp aO false kind name es low high l x);rw [<-hv]at HK ca;clear hv;exact akk
     .have pV:((m:Int)==(n:Int) - 1)=r.isNil:=by
       cases r with
       |nil=>simp only [SF.len]at qO;simp [SF.isNil];omega
       |cons=>simp only [SF.len]at qO;simp [SF.isNil];omega
      obtain⟨la,hla⟩:=nm' r.isNil;have ca:=J (show aj (oG i Lp aO la kind name es low high l x) (cH i Lp aO true r)=Z from by rw [hla];exact ca.o▸(kT i Lp aO true kind name es low high l x r).symm);rw [<-hla]at pV;have HLS:=J pV;clear hla pV;go_wp21;rw [HLS.o];have HK:=J (KI cb g i hi w0 N Yv.o.1 Yv.o.2.1 Yv.o.2.2 O8 Lp aO Tw.o kind name es low high l x eA es.len ec lA l.len lc xA x.len xc la TE.o KE.o KL.o KX.o FI.o.1 FI.o.2.1 _ (OO.o.trans (Kept.ext cC.o)) (Lr.o.ext cC.o) (HL.o.kept (OO.o.trans (Kept.ext cC.o)) (λk hk h=>by have:=qS.o k h;have:=Yv.o.1;omega)));obtain⟨v,hv⟩:=nm' (oG i Lp aO la kind name es low high l x);rw [<-hv]at HK ca;clear hv HLS;exact akk
abbrev adp (w0:World) (F:SF):Prop:=∀(A:Option Addr) (n c N:Nat) (w:World),al w0 w->N<=w0.heap.size->jm w0 N A n F->Calls prog 198 #[.slice A n c] w λe w'=>e=.returned (.bool (ends F))/\al w w'
theorem SB (w0:World) (F:SF):adp w0 F:=by
 refine qh (C:=adp w0) ?_ F;clear F;intro F IH A n c N w aF hN h;obtain⟨Z,hZ⟩:=nm' (ends F);rw [<-hZ];have HZ:=J hZ.symm;clear hZ;refine Le ?_;clear h IH;intro b off hm HN HA HE HI;go_enter func198,ntmps198;go_wp21
 go_loopw [7] (λt7 wr=>∃(j:Nat) (R:SF),j+R.len=n/\ends R=Z/\t7=.int .i64 j/\nk w0 N R b (off+j*7)/\SF.wG (adp w0) R/\al w wr) (λt7 _=>n - (intOf t7).toNat)
 case atStart=>exact⟨0,F,by rw [HN.o,dT],HZ.o,rfl,by simpa using HE.o,HI.o,kR _ _⟩
 case round=>
  obtain⟨j,R,hj,bw,rfl,hR,hI,hx⟩:=hrel;have⟨HR,oD,HX,ca⟩:=J4' hR hI hx bw;clear hR hI hx bw
  cases R with
  |nil=>
   simp only [SF.len,eW]at hj;subst hj;go_wp21;go_ret;exact⟨by rw [<-ca.o];rfl,HX.o⟩
  |cons kind name es low high l x r=>
   obtain⟨hb,h1,h2,h3,h4,⟨eA,ec,lA,lc,xA,xc,be,oe,bl,ol,bx,ox,hh,hg,n1,n2,n3,a1,a2,a3,he,hl,zL⟩,hr⟩:=HR.o;simp only [SF.len]at hj;have aP:(j:Int)<n:=by omega
   obtain rfl:=HA.o ad;have iO:=aF.trans HX.o;refine Ee ?_;intro qB jx hg' gB;refine Tn ?_;intro KL KX;have qR:=J hr;have y0:=dY wr (.cells (aN kind name eA es.len ec low high lA l.len lc xA x.len xc) 288);have HB:=J (bN wr 288 (aN kind name eA es.len ec low high lA l.len lc xA x.len xc));exact ake
theorem rS (cb g i:Nat) (hi:i<5) (w0:World) (N:Nat) (rA:5<N) (Jo:N<=g) (Jn:N<=cb) (O8:N<=w0.heap.size) (hL:eQ w0) (F:SF) (κ:Kn) (p0:Str) (A:Option Addr) (n c:Nat) (B:Option Addr) (bn bc:Nat) (ns:List Str) (w:World) (hw:Kept (SG cb g) w0 w) (hC:Ck w cb g κ p0 0)
 (hs:jm w0 N A n F) (hS:∀w',Kept (SG cb g) w w'->dN w' w'.heap.size B bn ns) (hB:∀x,B=some x->¬x.block=cb) (hk:∀s∈ns,κ s=0):
 Calls prog 247 #[.pointer (some ⟨cb,0,none⟩),.string (bV i),.slice A n c,.slice B bn bc] w λe w2=>Ua cb g κ (bV i) 0 (cH i (a_ κ ns) 0 true F) e w2/\Kept (SG cb g) w w2:=by
 have⟨HC,HS,TD⟩:=J3' hC hS hs;have hcC:=bC hC.blk;have hzC:=ai.frozen hC.blk;have hlC:=hC.lt;clear hC hS hs;go_enter func247,ntmps247;go_upto_region 1 with(fail);have HK:=J ((kR (SG cb g) w).setCell ⟨cb,1,none⟩ (.string (bV i)) (λ_=>Or.inr rfl));have lj:=J (show Ck (w.setCell ⟨cb,1,none⟩ (.string (bV i))) cb g κ (bV i) 0 from⟨ai.eK HC.o.blk 1 (.string (bV i)),HC.o.map.kept (S:=(·=cb)) (Kept.setCell (kR _ w) ⟨cb,1,none⟩ _ (λ_=>rfl)) (λe=>HC.o.ne e.symm)⟩);generalize w.setCell ⟨cb,1,none⟩ (.string (bV i))=W at HK lj⊢;clear hcC hzC hlC;go_wp21;refine(Qz cb g i hi w0 N rA Jo Jn O8 hL F κ 0 true A n c B bn bc ns W (hw.trans HK.o) lj.o ad TD.o (HS.o _ HK.o) hB hk).mono ?_;rintro e w2 ⟨hb,eV⟩;obtain⟨Z,hZ⟩:=nm' (cH i (a_ κ ns) 0 true F);rw [<-hZ]at hb
 cases Z with
 |none=>
  obtain⟨he,hc2⟩:=hb;subst he;go_wp21;go_end0;rw [<-hZ];exact⟨⟨rfl,hc2⟩,HK.o.trans eV⟩
 |some f=>
  obtain⟨he,hm⟩:=hb;subst he;show _/\_;refine⟨rfl,?_,HK.o.trans eV⟩;rw [<-hZ];exact⟨rfl,hm⟩
theorem Wc {w:World} {b off:Nat} {l:List Int} (h:Row w b off (l.map (Value.int .i64))) (j:Nat) (hj:j<l.length):w.cell? ⟨b,off+j,none⟩=some (.int .i64 l[j]):=by
 rw [h.cell j (by simpa using hj)];simp [hj]
theorem iU (ck:Value) (c:Pc) (p:Pr) (N:Nat) (w:World) (_hN:N<=w.heap.size) (h:nj w N c p) (hL:eQ w):Calls prog 191 #[ck,.agg c.cells] w λe w'=>cK (mF p) e/\al w w':=by
 obtain⟨X,hX⟩:=nm' (mF p);rw [<-hX];have gf:aoR (X=aj (must (dq p.name) 6 p.name) (aj (must (iL p.aL 2 8) 2 ur) (aj (must ((p.bY.length:Int)==p.aL) 3 gF) (must (p.bY.all (λn=>iL n 1 2147483647)) 2 gF)))):=J (by rw [hX];rfl);clear hX;have aw:=dY w (.cells c.cells 163);have uD:=bN w 163 c.cells;obtain⟨oh,hsf,hso,sb,so,hsA,hsR⟩:=h.bY;have V0:=hsf.max ad;have⟨wI,HSA,Um,Qn,qT⟩:=J5' oh hsA hsR (ew h.name h.B7) h.aL;clear oh hsf hso hsA hsR h;go_enter func191,ntmps191;go_upto_region 1 with(fail);generalize hW:(w.alloc (.cells c.cells 163))=W at aw uD⊢;generalize w.heap.size=eb at uD⊢;clear hW;have⟨l0,dS,wU⟩:=J3' uD aw (hL.ext aw);clear uD aw hL;refine fH (λw1=>al W w1) [(0,2),(1,1),(3,2),(4,1),(2,0),(5,0)] ?_;refine fI ?_;refine abE ?_;intro cC;refine wl ?_;refine au (λK hK=>?_);go_simp;rw [Qn.o.1];refine(lU p.name Qn.o.2 _ (wU.o.ext cC.o)).mono ?_;refine To ?_;intro w1 dQ;clear hK K
 repeat first|refine cx ?_|refine de dQ.o afw ?_|refine dc dQ.o ?_
 refine dG aV aV (λK hK=>?_);go_simp;have HX:=J (dS.o.trans dQ.o)
 cases hn:dq p.name
 .have HR:=J (show X=some ⟨6,p.name⟩by rw [gf.o,hn];rfl)
  exact qH
 .have gq:=J (show X=aj (must (iL p.aL 2 8) 2 ur) (aj (must ((p.bY.length:Int)==p.aL) 3 gF) (must (p.bY.all (λn=>iL n 1 2147483647)) 2 gF))by rw [gf.o,hn];rfl)
  clear gf hn;refine(aW true _ _ _).mono ?_;rintro e w1 ⟨he,rfl⟩;have he:=cK.none he;subst he;refine hK.out _ _ ?_;clear hK K;refine fx ?_;have x9:=bC (bX l0.o dQ.o);have BB:=(bX l0.o dQ.o).lt;go_wp21;rw [qT.o];refine aoT (fg _ _ _ _) ?_
  cases hb:iL p.aL 2 8
  .have HR:=J (show X=some ⟨2,ur⟩by rw [gq.o,hb];rfl)
   go_wp21;exact qH
  .have eU:=J (show X=aj (must ((c.bY.n:Int)==c.aL) 3 gF) (must (p.bY.all (λn=>iL n 1 2147483647)) 2 gF)by rw [gq.o,hb,wI.o,qT.o];rfl)
   clear gq hb;go_wp21;refine(aW true _ _ _).mono ?_;rintro e w2 ⟨he,rfl⟩;have he:=cK.none he;subst he;go_wp21
   cases hq:((c.bY.n:Int)==c.aL)
   .have HR:=J (show X=some ⟨3,gF⟩by rw [eU.o,hq];rfl)
    exact qH
   .obtain⟨A0,hA0⟩:=nm' (p.bY.all (λn=>iL n 1 2147483647))
    have kv:=J (show X=must A0 2 gF by rw [eU.o,hq,hA0];rfl);have HA0:=J hA0;clear eU hA0;refine(aW true _ _ _).mono ?_;rintro e w2 ⟨he,rfl⟩;have he:=cK.none he;subst he;clear hq;go_wp21
    go_loopw [26] (λt26 wr=>∃(j:Nat),j<=c.bY.n/\t26=.int .i64 j/\(p.bY.drop j).all (λn=>iL n 1 2147483647)=A0/\al w wr) (λt26 _=>c.bY.n - (intOf t26).toNat)
    case atStart=>exact⟨0,cI _,rfl,HA0.o.symm,HX.o⟩
    case round=>
     obtain⟨j,hj,rfl,bw,hx⟩:=hrel;have ca:=J bw;have HX:=J hx;clear bw hx x9 BB
     by_cases aP:j<c.bY.n
     .have d_:j<p.bY.length:=by have:=wI.o;omega
      have gD:(j:Int)<c.bY.n:=by omega
      have hsA:=HSA.o ad;have aE:=(Um.o ad).2.kept HX.o (λf=>f);have hc:=Wc aE j d_;have gB:=aE.lt;obtain⟨x,fj⟩:=nm' (p.bY[j]);rw [<-fj]at hc
      have wH:=J (show(iL x 1 2147483647&&(p.bY.drop (j+1)).all (λn=>iL n 1 2147483647))=A0 by
       rw [<-ca.o,q_ d_,List.all_cons,fj])
      clear aE fj;go_wp21;refine aoT (fg _ _ _ _) ?_
      cases hb:iL x 1 2147483647
      .have HR:=J (show X=some ⟨2,gF⟩by rw [kv.o,<-wH.o,hb];rfl)
       go_wp21;exact qH
      .have wH:=J (show(p.bY.drop (j+1)).all (λn=>iL n 1 2147483647)=A0 by rw [<-wH.o,hb];rfl)
       clear hb hc;go_wp21;refine(aW true _ _ _).mono ?_;rintro e w2 ⟨he,rfl⟩;have he:=cK.none he;subst he;go_wp21;go_roundw
       case rel=>
        rw [hsA];exact⟨_,_,_,_,_,_,_,_,_,⟨j+1,aP,by go_num,wH.o,HX.o⟩,rfl⟩
       case measure=>simp [intOf];omega
     .obtain rfl:j=c.bY.n:=by omega
      go_wp21;go_end0;rw [kv.o,<-ca.o,wI.o,tp];exact⟨rfl,HX.o⟩
theorem Mf (p:Addr) (w:World):
 CallsD prog 190 #[.pointer (some p)] .returning w λe u' w'=>e=.returned (.tuple #[])/\u'=.returning/\al w w':=by
 refine callsD_of_wpS func190 rfl λadS cs hu=>?_;apply wpS_seq;apply wpS_region;simp [wpOpsS,go_sem,recoverD,hu,ntmps190,Exit.thenS];refine wpS_of_wp ?_;go_wp21
 cases adS
 simp_all [bodyPostS,results,results190]
 exact kR _ _
theorem zz (rb:Nat) (f:nZ) (w:World) (hb:ai w rb 225 #[.int .i64 0,.string ⟨#[]⟩]):
 CallsD prog 190 #[.pointer (some ⟨rb,0,none⟩)] (.panicking (SX f)) w λe u' w'=>
  e=.returned (.tuple #[])/\settle u'=.returning/\ai w' rb 225 #[.int .i64 f.e,.string f.name]/\Kept (·=rb) w w':=by
 refine callsD_of_wpS func190 rfl λadS cs hu=>?_;unfold SX at hu;apply wpS_seq;apply wpS_region;simp [wpOpsS,go_sem,recoverD,hu,ntmps190,Exit.thenS];refine wpS_of_wp ?_;obtain⟨v,hv⟩:=nm' ((Value.iface 225 (.agg #[.int .i64 f.e,.string f.name])));rw [<-hv];have e1:(#[Value.pointer (some ⟨rb,0,none⟩)]++((Array.replicate 15 undef).setIfInBounds 3 v).setIfInBounds 0 v)=#[Value.pointer (some ⟨rb,0,none⟩),v,undef,undef,v,undef,undef,undef,undef,undef,undef,undef,undef,undef,undef,undef]:=rfl;rw [e1,hv];clear e1 hv v;have yf:=bC hb;have hlb:=hb.lt;have hta:∀(v:Value) (w:World),(Instr.typeAssert (.iface 225 v) 20 225 true).run prog w=.ok (.tuple #[v,.bool true]) w:=λv w=>by rfl
 have hzb:=ai.frozen hb;go_wp21
 have HB:=J (show ai (((w.setCell ⟨rb,0,none⟩ (.int .i64 f.e)).setCell ⟨rb,1,none⟩ (.string f.name)).alloc (.cells #[.int .i64 f.e,.string f.name] 225)) rb 225 #[.int .i64 f.e,.string f.name]/\Kept (·=rb) w (((w.setCell ⟨rb,0,none⟩ (.int .i64 f.e)).setCell ⟨rb,1,none⟩ (.string f.name)).alloc (.cells #[.int .i64 f.e,.string f.name] 225))from
  ⟨((hb.eK 0 (.int .i64 f.e)).eK 1 (.string f.name)).alloc _,(((kR (·=rb) w).setCell ⟨rb,0,none⟩ _ (λ_=>rfl)).setCell ⟨rb,1,none⟩ _ (λ_=>rfl)).alloc _⟩)
 generalize (((w.setCell ⟨rb,0,none⟩ (.int .i64 f.e)).setCell ⟨rb,1,none⟩ (.string f.name)).alloc (.cells #[.int .i64 f.e,.string f.name] 225))=W2 at HB⊢;clear hzb yf hta
 cases adS
 simp [bodyPostS,results,results190,settle]at hu⊢;exact HB.o
theorem yR (x:Int):IntKind.u64.wrap x=x%18446744073709551616:=by simp [IntKind.wrap_u64]
theorem P5 (a b:Int) (ha:br a) (hb:br b) (h:b<=a):IntKind.u64.wrap (IntKind.u64.wrap a - IntKind.u64.wrap b)=a - b:=by
 rw [yR,yR,yR];unfold br at ha hb
 omega
theorem RM (acc:Nat) (d:Int) (h:acc<=513) (hd:0<=d):min (IntKind.u64.wrap ((acc:Int)*IntKind.u64.wrap (min d 512+1))) 513=min ((acc:Int)*(min d 512+1)) 513:=by
 have h1:0<=min d 512+1:=by omega
 have h2:min d 512+1<=513:=by omega
 obtain⟨k,hk⟩:∃k:Nat,(k:Int)=min d 512+1:=⟨(min d 512+1).toNat,by omega⟩;rw [<-hk]at h1 h2⊢;have h3:acc*k<=513*513:=Nat.mul_le_mul h ad;have h4:((acc*k:Nat):Int)=(acc:Int)*k:=by push_cast;rfl
 have h5:IntKind.u64.wrap (k:Int)=k:=by rw [yR];omega
 rw [h5,<-h4,yR]
 congr 1
 omega
theorem SL (c:Pc) (p:Pr) (N:Nat) (w:World) (_hN:N<=w.heap.size) (h:nj w N c p):Calls prog 244 #[.agg c.cells] w λe w'=>e=.returned (.int .i64 (mL p.params))/\al w w':=by
 obtain⟨X,hX⟩:=nm' (mL p.params);rw [<-hX];have Ii:=J hX;clear hX;obtain⟨cn,jY,ld,cv,cs,ct,⟨A,n,cc⟩,iD,mj,cq,oH⟩:=c;have aF:=dY w (.cells (Pc.cells ⟨cn,jY,ld,cv,cs,ct,⟨A,n,cc⟩,iD,mj,cq,oH⟩) 163);have eY:=J (bN w 163 (Pc.cells ⟨cn,jY,ld,cv,cs,ct,⟨A,n,cc⟩,iD,mj,cq,oH⟩));obtain⟨hn,hf,hok,b,off,hA,hE⟩:=h.params.ext aF;refine xP ?_;intro hm HN HA HE;have dS:=J aF;have lm:=J hok;clear hn hA hE hok hf h;go_enter func244,ntmps244;go_wp2_with fail
 go_loopw [12] (λt12 wr=>∃(j:Nat),j<=n/\t12=.int .i64 j/\(p.params.take j).any (λv=>decide (v.high<v.low))=false/\al (w.alloc (.cells (Pc.cells ⟨cn,jY,ld,cv,cs,ct,⟨A,n,cc⟩,iD,mj,cq,oH⟩) 163)) wr) (λt12 _=>n - (intOf t12).toNat)
 case atStart=>exact⟨0,cI _,rfl,rfl,kR _ _⟩
 case round=>
  obtain⟨j,hj,rfl,bw,hx⟩:=hrel;have HX:=J hx;have ca:=J bw;clear hx bw
  by_cases aP:j<n
  .have d_:j<p.params.length:=by have:=HN.o;omega
   have gD:(j:Int)<n:=by omega
   obtain rfl:=HA.o ad;have aE:=(HE.o ad).2.ext HX.o;obtain⟨jx,hg'⟩:=oB aE j d_;have gB:=aE.lt;obtain⟨x,fj⟩:=nm' (p.params[j]);rw [<-fj]at hg';have gZ:=J fj;clear aE fj;have y0:=J (show al wr _ from dY wr (.cells (aZ x) 232));exact aku
  .obtain rfl:j=n:=by omega
   have tY:p.params.any (λv=>decide (v.high<v.low))=false:=by
    have h:=ca.o
    rwa [HN.o,jr]at h
   have HM:=J (show vE 1 p.params=X by rw [Ii.o];unfold mL;rw [tY];rfl);have OB:=J tY;clear tY;have hcB:=bC (bX eY.o HX.o);have Pq:=(bX eY.o HX.o).lt;go_wp2_with fail
   go_loopw [5,25] (λt5 t25 wq=>∃(m:Nat) (acc:Nat),m<=j/\acc<=513/\t25=.int .i64 m/\t5=.int .u64 acc/\vE acc (p.params.drop m)=X/\al wr wq) (λ_ t25 _=>j - (intOf t25).toNat)
   case atStart=>exact⟨0,1,cI _,by omega,rfl,rfl,HM.o,kR _ _⟩
   case round=>
    obtain⟨m,acc,hmj,O',rfl,rfl,D2,hy⟩:=hrel;have HY:=J hy;have HMF:=J D2;clear hy D2 hcB Pq
    by_cases JB:m<j
    .have d_:m<p.params.length:=by have:=HN.o;omega
     have gD:(m:Int)<j:=by omega
     obtain rfl:=HA.o ad;have aE:=(HE.o ad).2.ext (HX.o.trans HY.o);obtain⟨jx,hg'⟩:=oB aE m d_;have gB:=aE.lt;obtain⟨x,fj⟩:=nm' (p.params[m]);rw [<-fj]at hg';have gZ:=J fj;clear aE fj;obtain⟨xn,xs,xl,xh⟩:=x;go_wp2_with fail;have hvm:(⟨xn,xs,xl,xh⟩:Vr)∈p.params:=by rw [gZ.o];exact ed d_
     have Ds:=lm.o _ hvm
     have lE:xl<=xh:=by
      refine Int.not_lt.1 λh=>?_;have:=List.any_eq_false.1 OB.o _ hvm;exact this (cJ h)
     have iF:p.params.drop m=⟨xn,xs,xl,xh⟩::p.params.drop (m+1):=by rw [gZ.o];exact q_ d_
     have Rx:=P5 xh xl ajG (by have:=Ds;first|exact Ds.low|exact Ds.2.2.1|exact Ds.2.1) lE;rw [Rx,RM acc (xh - xl) O' ad]
     obtain⟨k,hk⟩:∃k:Nat,(k:Int)=min ((acc:Int)*(min (xh - xl) 512+1)) 513:=by
      have:0<=(acc:Int)*(min (xh - xl) 512+1):=Int.mul_nonneg ad ad;exact⟨(min ((acc:Int)*(min (xh - xl) 512+1)) 513).toNat,by omega⟩
     have Rp:=HMF.o;rw [iF]at Rp;exact⟨⟨m+1,k,JB,by omega,by go_num,by rw [hk],by rw [hk];exact Rp,HY.o.trans (dY _ _)⟩,by simp only [intOf];omega⟩
    .obtain rfl:m=j:=by omega
     go_wp2_with fail;go_ret;refine⟨bB ?_,dS.o.trans (HX.o.trans HY.o)⟩;rw [<-HMF.o,HN.o,tp];simp [vE]
abbrev Ux (w0:World) (F:SF):Prop:=∀(A:Option Addr) (n c N:Nat) (w:World),al w0 w->N<=w0.heap.size->jm w0 N A n F->Calls prog 150 #[.slice A n c] w λe w'=>e=.returned (.bool (ends F))/\al w w'
theorem Sg (w0:World) (F:SF):Ux w0 F:=by
 refine qh (C:=Ux w0) ?_ F;clear F;intro F IH A n c N w aF hN h;obtain⟨Z,hZ⟩:=nm' (ends F);rw [<-hZ];have HZ:=J hZ.symm;clear hZ;refine Le ?_;clear h IH;intro b off hm HN HA HE HI;go_enter func150,ntmps150;go_wp21
 go_loopw [3] (λt7 wr=>∃(j:Nat) (R:SF),j+R.len=n/\ends R=Z/\t7=.int .i64 j/\nk w0 N R b (off+j*7)/\SF.wG (Ux w0) R/\al w wr) (λt7 _=>n - (intOf t7).toNat)
 case atStart=>exact⟨0,F,by rw [HN.o,dT],HZ.o,rfl,by simpa using HE.o,HI.o,kR _ _⟩
 case round=>
  obtain⟨j,R,hj,bw,rfl,hR,hI,hx⟩:=hrel;have⟨HR,oD,HX,ca⟩:=J4' hR hI hx bw;clear hR hI hx bw
  cases R with
  |nil=>
   simp only [SF.len,eW]at hj;subst hj;go_wp21;go_ret;exact⟨by rw [<-ca.o];rfl,HX.o⟩
  |cons kind name es low high l x r=>
   obtain⟨hb,h1,h2,h3,h4,⟨eA,ec,lA,lc,xA,xc,be,oe,bl,ol,bx,ox,hh,hg,n1,n2,n3,a1,a2,a3,he,hl,zL⟩,hr⟩:=HR.o;simp only [SF.len]at hj;have aP:(j:Int)<n:=by omega
   obtain rfl:=HA.o ad;have iO:=aF.trans HX.o;refine Ee ?_;intro qB jx hg' gB;refine Tn ?_;intro KL KX;have qR:=J hr;have y0:=dY wr (.cells (aN kind name eA es.len ec low high lA l.len lc xA x.len xc) 223);have HB:=J (bN wr 223 (aN kind name eA es.len ec low high lA l.len lc xA x.len xc));exact ake
theorem Sr (c:Pc) (p:Pr) (N:Nat) (w:World) (_hN:N<=w.heap.size) (h:nj w N c p):Calls prog 215 #[.agg c.cells] w λe w'=>e=.returned (.int .i64 (mL p.params))/\al w w':=by
 obtain⟨X,hX⟩:=nm' (mL p.params);rw [<-hX];have Ii:=J hX;clear hX;obtain⟨cn,jY,ld,cv,cs,ct,⟨A,n,cc⟩,iD,mj,cq,oH⟩:=c;have aF:=dY w (.cells (Pc.cells ⟨cn,jY,ld,cv,cs,ct,⟨A,n,cc⟩,iD,mj,cq,oH⟩) 39);have eY:=J (bN w 39 (Pc.cells ⟨cn,jY,ld,cv,cs,ct,⟨A,n,cc⟩,iD,mj,cq,oH⟩));obtain⟨hn,hf,hok,b,off,hA,hE⟩:=h.params.ext aF;refine xP ?_;intro hm HN HA HE;have dS:=J aF;have lm:=J hok;clear hn hA hE hok hf h aF;go_enter func215,ntmps215;go_upto_region 1 with(fail);generalize hW:(w.alloc (.cells (Pc.cells ⟨cn,jY,ld,cv,cs,ct,⟨A,n,cc⟩,iD,mj,cq,oH⟩) 39))=W at eY HE dS⊢;clear hW;generalize w.heap.size=pb at eY⊢;go_wp2_with fail
 go_loopw [4] (λt12 wr=>∃(j:Nat),j<=n/\t12=.int .i64 j/\(p.params.take j).any (λv=>decide (v.high<v.low))=false/\al W wr) (λt12 _=>n - (intOf t12).toNat)
 case atStart=>exact⟨0,cI _,rfl,rfl,kR _ _⟩
 case round=>
  obtain⟨j,hj,rfl,bw,hx⟩:=hrel;have HX:=J hx;have ca:=J bw;clear hx bw;have hcB:=bC (bX eY.o HX.o);have Pq:=(bX eY.o HX.o).lt
  by_cases aP:j<n
  .have d_:j<p.params.length:=by have:=HN.o;omega
   have gD:(j:Int)<n:=by omega
   obtain rfl:=HA.o ad;have aE:=(HE.o ad).2.ext HX.o;obtain⟨jx,hg'⟩:=oB aE j d_;have gB:=aE.lt;obtain⟨x,fj⟩:=nm' (p.params[j]);rw [<-fj]at hg';have gZ:=J fj;clear aE fj;have y0:=J (show al wr _ from dY wr (.cells (aZ x) 174));exact aku
  .obtain rfl:j=n:=by omega
   have tY:p.params.any (λv=>decide (v.high<v.low))=false:=by
    have h:=ca.o
    rwa [HN.o,jr]at h
   have HM:=J (show vE 1 p.params=X by rw [Ii.o];unfold mL;rw [tY];rfl);have OB:=J tY;clear tY;go_wp2_with fail
   go_loopw [3,6] (λt5 t25 wq=>∃(m:Nat) (acc:Nat),m<=j/\(1<=acc/\acc<=513)/\t25=.int .i64 m/\t5=.int .i64 acc/\vE acc (p.params.drop m)=X/\al wr wq) (λ_ t25 _=>j - (intOf t25).toNat)
   case atStart=>exact⟨0,1,cI _,by omega,rfl,rfl,HM.o,kR _ _⟩
   case round=>
    obtain⟨m,acc,hmj,O',rfl,rfl,D2,hy⟩:=hrel;have HY:=J hy;have HMF:=J D2;clear hy D2 hcB Pq;have hcB:=bC (bX eY.o (HX.o.trans HY.o));have Pq:=(bX eY.o (HX.o.trans HY.o)).lt
    by_cases JB:m<j
    .have d_:m<p.params.length:=by have:=HN.o;omega
     have gD:(m:Int)<j:=by omega
     obtain rfl:=HA.o ad;have aE:=(HE.o ad).2.ext (HX.o.trans HY.o);obtain⟨jx,hg'⟩:=oB aE m d_;have gB:=aE.lt;obtain⟨x,fj⟩:=nm' (p.params[m]);rw [<-fj]at hg';have gZ:=J fj;clear aE fj;obtain⟨xn,xs,xl,xh⟩:=x;have hvm:(⟨xn,xs,xl,xh⟩:Vr)∈p.params:=by rw [gZ.o];exact ed d_
     have Ds:=lm.o _ hvm
     have lE:xl<=xh:=by
      refine Int.not_lt.1 λh=>?_;have:=List.any_eq_false.1 OB.o _ hvm;exact this (cJ h)
     have iF:p.params.drop m=⟨xn,xs,xl,xh⟩::p.params.drop (m+1):=by rw [gZ.o];exact q_ d_
     have agy:=J (P5 xh xl ajG (by have:=Ds;first|exact Ds.low|exact Ds.2.2.1|exact Ds.2.1) lE);have Rp:=HMF.o;rw [iF]at Rp;have zr:=J (show vE (min ((acc:Int)*(min (xh - xl) 512+1)) 513) (p.params.drop (m+1))=X from Rp);have rV:=J lE;clear Rp iF Ds hvm lE;go_wp2_with fail
     .rename_i h6
      rw [agy.o]at h6;have mB:=zr.o;rw [show min (xh - xl) 512=512 by omega,show min ((acc:Int)*(512+1)) 513=((513:Nat):Int)by omega]at mB;exact⟨⟨m+1,513,JB,⟨by omega,by omega⟩,by go_num,rfl,mB,HY.o.trans (dY _ _)⟩,by simp only [intOf];omega⟩
     .rename_i h6
      rw [agy.o]at h6;have lE:=rV.o;have hw:∀x:Int,-9223372036854775808<=x->x<=9223372036854775807->wrap64 x=x:=λx a b=>by unfold wrap64;omega
      obtain⟨d,hd⟩:∃d:Nat,(d:Int)=xh - xl:=⟨(xh - xl).toNat,by omega⟩;have mB:=zr.o;rw [<-hd]at h6 mB⊢;have h3:acc*(d+1)<=513*601:=Nat.mul_le_mul O'.2 ad;have h4:((acc*(d+1):Nat):Int)=(acc:Int)*((d:Int)+1):=by push_cast;rfl
      have h7:1*(d+1)<=acc*(d+1):=Nat.mul_le_mul_right _ O'.1
      have h8:min ((acc:Int)*(min (d:Int) 512+1)) 513=((min (acc*(d+1)) 513:Nat):Int):=by
       by_cases h9:d<=512
       .rw [show min (d:Int) 512=d by omega,<-h4];omega
       .rw [show min (d:Int) 512=512 by omega];omega
      rw [h8]at mB;rw [hw d ad ad,hw ((d:Int)+1) ad ad,<-h4,hw _ ad ad];exact⟨⟨m+1,min (acc*(d+1)) 513,JB,⟨by omega,by omega⟩,by go_num,by congr 1;omega,mB,HY.o.trans (dY _ _)⟩,by simp only [intOf];omega⟩
    .obtain rfl:m=j:=by omega
     go_wp2_with fail;go_ret;refine⟨bB ?_,dS.o.trans (HX.o.trans HY.o)⟩;rw [<-HMF.o,HN.o,tp];simp [vE]

