/- Several texts joined: Qt, Qu, Qv, Qw, Qx, Qy. -/
import Derived.Lib.LaidTab
import Derived.Test.YtbfbabbcdochjaaGreatDoorRmsh
import Derived.Test.YtbfbabbcdochjaaGreatDoorRmpk
import Derived.Test.YtbfbabbcdochjaaGreatDoorRmag
set_option maxHeartbeats 4000000
set_option maxRecDepth 100000
open Go.Proofs.Tryz
namespace Go.Proofs.YtbfbabbcdochjaaGreatDoor
open Go.RowKit So
structure fG (w:World):Prop where
 sp : Lib.TabIs prog w "strings.asciiSpace" .u8 Lib.asciiSpaceTab
 sm:∀k,k<10->w.cell? ⟨2,k,none⟩=some (.int .i64 (stmtParts (k:Nat)))
 ex:∀k,k<18->w.cell? ⟨4,k,none⟩=some (.int .i64 (exprParts (k:Nat)))
 lt:4<w.heap.size
theorem fG.kept {S:Nat->Prop} {w w':World} (h:fG w) (hk:Kept S w w') (hs:∀i,i<=4->¬S i):fG w':=by
 have h4:=h.lt;refine⟨?_,λk hk'=>(Kept.cell hk (p:=⟨2,k,none⟩) (by show 2<_;omega) (hs 2 aj)).trans (h.sm k hk'),λk hk'=>(Kept.cell hk (p:=⟨4,k,none⟩) (by show 4<_;omega) (hs 4 aj)).trans (h.ex k hk'),Nat.lt_of_lt_of_le h.lt hk.size⟩;have hsp:=h.sp;unfold Lib.TabIs World.var? at hsp⊢
 rw [show prog.globalNamed "strings.asciiSpace" = some 1 by kernel_rfl] at hsp ⊢
 rw [<-hsp];simp [hk.block 1 aj (hs 1 aj)]
theorem fG.ext {w w':World} (h:fG w) (hk:Ext w w'):fG w':=h.kept hk (λ_ _ f=>f)
def BR (l:List Str):ByteArray->Option Value:=λt=>if l.any (λu=>decide (u=t))=true then some (.bool true)else none
theorem UY (l:List Str) (x:Str):∀t,(λt=>if t=x then some (Value.bool true)else BR l t) t=BR (l++[x]) t:=by
 intro t;unfold BR;exact afH
theorem UQ (n:Int) (w:World):(Instr.makeMap 188 (some (.int .i64 n))).run prog w=.ok (.map (some w.heap.size)) (w.alloc (.map #[] 0)):=by
 simp [Instr.makeMap,run_underlying underlying188,go_sem]
 try rfl
attribute [go_sem] UQ
theorem R9 (l:List Str) (A:Option Addr) (n c N:Nat) (w:World) (hN:N<=w.heap.size) (h:eO w N A n l):Calls prog 156 #[.slice A n c] w λe w'=>Ext w w'/\∃g,e=.returned (.map (some g))/\w.heap.size<=g/\SMap w' g (BR l):=by
 obtain⟨hn,hm,b,off,hA,hE⟩:=h;have HN:=J hn;have HA:=J hA;have HE:=J hE;have hM:=SMap.made w;have hx0:=(kR (λ_=>False) w).alloc (.map #[] 0);clear hn hA hE;go_enter func156,ntmps156;go_upto_region 3 with(fail);generalize hW:w.alloc (.map #[] 0)=W at hM hx0⊢;clear hW;have HX0:=J hx0;have HG:=J (show w.heap.size<=w.heap.size from Nat.le_refl _);have HM:=J hM;generalize hge:(w.heap.size:Nat)=g at hM HM HG⊢;have VK:=J hge;clear hM hx0 hge
 go_loopw [11] (λt11 wr=>∃(j:Nat),j<=n/\t11=.int .i64 j/\SMap wr g (BR (l.take j))/\Kept (·=g) W wr) (λt11 _=>n - (intOf t11).toNat)
 case atStart=>exact⟨0,Nat.zero_le _,rfl,HM.out.qx (λt=>by simp [BR]),kR _ _⟩
 case round=>
  obtain⟨j,hj,rfl,hS,hx⟩:=hrel;have HS:=J hS;have HX:=J hx;clear hS hx
  by_cases hlt:j<n
  ·have hjl:j<l.length:=by have:=HN.out;omega
   have jd:(j:Int)<n:=by omega
   obtain rfl:=HA.out aj;have hbg:b<w.heap.size:=by have:=(HE.out aj).1;omega
   have hrow:=((HE.out aj).2.ext HX0.out).kept HX.out (by have:=VK.out;omega);have hc:=EB hrow j hjl;have hbw:=hrow.lt;obtain⟨x,hxe⟩:∃x,x=l[j]:=⟨_,rfl⟩;rw [<-hxe]at hc;have jo:=J hxe;clear hrow hxe;obtain⟨w',hrun,hS',hk'⟩:=SMap.put (P:=prog) HS.out underlying188 underlying9 x (.bool true);have HS':=J hS';have NP:=J hk';clear hS' hk';go_wp2_with fail;go_roundw
   case rel=>exact⟨j+1,hlt,by go_num,HS'.out.qx (λt=>by rw [List.take_add_one,List.getElem?_eq_getElem hjl,<-jo.out];exact UY (l.take j) x t),HX.out.trans NP.out⟩
   case measure=>simp only [intOf];omega
  ·obtain rfl:j=n:=by omega
   go_wp2_with fail;go_ret;have hS:=HS.out;rw [HN.out,List.take_length]at hS;exact⟨HX0.out.trans' HX.out (λi hi e=>by have:=VK.out;omega),g,rfl,by have:=VK.out;omega,hS⟩
def marks:List Str:=[⟨#[91]⟩,⟨#[93]⟩,⟨#[40]⟩,⟨#[41]⟩,⟨#[61]⟩,⟨#[33,61]⟩,⟨#[60]⟩,⟨#[60,61]⟩,⟨#[62]⟩,⟨#[62,61]⟩,⟨#[43]⟩,⟨#[45]⟩,⟨#[42]⟩,⟨#[47]⟩,⟨#[37]⟩,⟨#[44]⟩]
theorem Gh (s:ByteArray) (l:List Str) (n:Nat) (w:World) (h0:s.size<4294967281) (ha:s.data.toList.all (λb=>decide (b.toNat<128))=true) (hL:fG w) (hf:(Lib.fields s.data.toList).map (λx=>(⟨x.toArray⟩:Str))=l) (hn:l.length=n) (akQ:n<=100):
 Calls prog 173 #[.string s] w λe w'=>Ext w w'/\∃A c,e=.returned (.slice A n c)/\eO w' w'.heap.size A n l:=by
 refine(Go.Proofs.Tryz.strings_Fields s w h0 (λj b hb=>of_decide_eq_true (List.all_eq_true.1 ha b (List.mem_of_getElem? hb))) hL.sp).mono ?_;rintro e w' ⟨rfl,rfl⟩;have hlen:(Lib.fields s.data.toList).length=n:=by rw [<-hn,<-hf,List.length_map]
 rw [hlen];refine⟨(kR _ w).alloc _,_,_,rfl,hn.symm,akQ,w.heap.size,0,λ_=>rfl,λ_=>⟨by simp,?_⟩⟩;have hb:=Row.eZ (bN w 9 ((Lib.fields s.data.toList).map λl=>Value.string ⟨l.toArray⟩).toArray);rw [<-hf,List.map_map];exact hb
theorem P9 (w:World) (hL:fG w):Calls prog 157 #[] w λe w'=>Ext w w'/\∃A c,e=.returned (.slice A 23 c)/\eO w' w'.heap.size A 23 words:=by
 go_enter func157,ntmps157;go_wp2_with fail;refine(Gh _ words 23 _ ak ak hL ak rfl aj).mono ?_;rintro e w1 ⟨hx,A,c,rfl,hS⟩;go_wp2_with fail;go_ret;exact⟨hx,A,c,rfl,hS⟩
theorem P_ (w:World) (hL:fG w):Calls prog 158 #[] w λe w'=>Ext w w'/\∃A c,e=.returned (.slice A 16 c)/\eO w' w'.heap.size A 16 marks:=by
 go_enter func158,ntmps158;go_wp2_with fail;refine(Gh _ marks 16 _ ak ak hL ak rfl aj).mono ?_;rintro e w1 ⟨hx,A,c,rfl,hS⟩;go_wp2_with fail;go_ret;exact⟨hx,A,c,rfl,hS⟩
theorem Ri:jQ prog 190=true:=by kernel_rfl
theorem Mi:sizeT prog 190=some 2:=by kernel_rfl
attribute [go_sem] Ri Mi
theorem U6 (w:World) (hL:fG w):Calls prog 124 #[] w λe w'=>Ext w w'/\∃g m,e=.returned (.agg #[.map (some g),m])/\SMap w' g (BR words):=by
 go_enter func124,ntmps124;go_wp2_with fail;have hR:=bN w 190 #[.map none,.map none];have hx0:=(kR (λ_=>False) w).alloc (.cells #[.map none,.map none] 190);refine(P9 _ (hL.ext hx0)).mono ?_;rintro e w1 ⟨hx1,A,c,rfl,hS⟩;have HS:=J hS;clear hS;go_wp2_with fail;refine(R9 words _ _ _ _ _ (Nat.le_refl _) HS.out).mono ?_;rintro e w2 ⟨hx2,g,rfl,hg,hM⟩;have HM:=J hM;clear hM;go_wp2_with fail;refine(P_ _ (hL.ext ((hx0.trans hx1).trans hx2))).mono ?_;rintro e w3 ⟨hx3,A2,c2,rfl,hS2⟩;have HS2:=J hS2;clear hS2;go_wp2_with fail;refine(R9 marks _ _ _ _ _ (Nat.le_refl _) HS2.out).mono ?_;rintro e w4 ⟨hx4,g2,rfl,hg2,hM2⟩;have hD:=bX hR (((hx1.trans hx2).trans hx3).trans hx4);have hm:=hD.bF;have hh:=bH hD;go_wp2_with fail;refine fD results124 rfl rfl Ri (by exact Mi) (aH.gL hD _ _) ?_;have hl:g<w2.heap.size:=HM.out.lt;have hw:w.heap.size<g:=by have h1:=hx0.size;have h2:=hx1.size;have:(w.alloc (.cells #[.map none,.map none] 190)).heap.size=w.heap.size+1:=aG;omega
 refine⟨((((hx0.trans hx1).trans hx2).trans hx3).trans hx4).putAt _ _ _ (λh=>absurd h aj),g,.map (some g2),rfl,?_⟩;exact((HM.out.ext (hx3.trans hx4)).kept (Kept.putAt (S:=(·=w.heap.size)) (kR _ _) _ _ _ (λ_=>rfl)) aj)
open Go.RowKit So
theorem Yz (s:Str) (hs:s.size<=maxLen) (w:World):Calls prog 160 #[.string s,.func (.func 161) #[] #[]] w λe w'=>(∃t:Str,e=.returned (.string t)/\(t=s↔s.data.toList.all inner=true))/\w=w':=by
 have hmx:s.size<=9223372036854775807:=by unfold maxLen at hs;omega
 go_enter func160,ntmps160;go_wp2_with fail
 go_loopw [5] (λt5 wr=>∃(j:Nat),j<=s.size/\t5=.int .i64 j/\(∀i (h:i<s.size),i<j->inner s[i]=true)/\w=wr) (λt5 _=>s.size - (intOf t5).toNat)
 case atStart=>exact⟨0,Nat.zero_le _,rfl,λi _ h=>by omega,rfl⟩
 case round=>
  obtain⟨j,hj,rfl,h1,hw⟩:=hrel;subst hw;have H1:=J h1;clear h1
  by_cases hlt:j<s.size
  ·have jd:(j:Int)<s.size:=by omega
   go_wp2_with fail;refine(TV _ _).mono ?_;rintro e w1 ⟨rfl,rfl⟩
   cases hl:wP (s[j].toNat:Int)
   ·have HL:=J (show inner s[j]=false by rw [<-zP];exact hl)
    go_wp2_with fail;go_ret;refine⟨⟨_,rfl,λe=>?_,λe=>?_⟩,rfl⟩
    ·have:=congrArg ByteArray.size e
     rw [ByteArray.size_extract]at this
     omega
    ·have:=List.all_eq_true.1 e s[j] (Array.mem_toList_iff.2 (Array.getElem_mem (xs:=s.data) hlt))
     rw [HL.out]at this
     cases this
   ·have HL:=J (show inner s[j]=true by rw [<-zP];exact hl)
    go_wp2_with fail;go_roundw
    case rel=>exact⟨j+1,hlt,by go_num,λi hi h=>by
     by_cases e:i=j
     ·subst e;exact HL.out
     ·exact H1.out i hi aj,by trivial⟩
    case measure=>simp only [intOf];omega
  ·obtain rfl:j=s.size:=by omega
   go_wp2_with fail;go_ret;refine⟨⟨_,rfl,λ_=>?_,λ_=>rfl⟩,rfl⟩;rw [List.all_eq_true];intro x hx;obtain⟨i,hi,rfl⟩:=List.getElem_of_mem hx;exact H1.out i (by simpa using hi) (by simpa using hi)
theorem Vn (w:World):(zeroValue 4).run prog w=.ok (.bool false) w:=by
 first|kernel_rfl|rfl
theorem U3 (s:Str) (hs:s.size<=maxLen) (g:Nat) (m:Value) (w:World) (hM:SMap w g (BR words)):Calls prog 125 #[.agg #[.map (some g),m],.string s] w λe w'=>e=.returned (.bool (isName s))/\Ext w w':=by
 have hmx:s.size<=9223372036854775807:=by unfold maxLen at hs;omega
 obtain⟨r,hr⟩:∃r,r=isName s:=⟨_,rfl⟩;rw [<-hr];have hr2:r=(decide (0<s.size)&&letter (s.data.getD 0 0)&&s.data.toList.all inner&&decide (s.size<=30)&&!(words.any (λt=>decide (t=s)))):=hr;have HR:=J hr2;clear hr hr2;have hx0:=(kR (λ_=>False) w).alloc (.cells #[.map (some g),m] 190);have hMx:=hM.ext hx0;have hlk:=SMap.look (P:=prog) hMx underlying188 underlying9 (z:=.bool false) Vn s;clear hM hMx
 by_cases h0:0<s.size
 ·have hE:(ByteArray.toList s).isEmpty=false:=by have:=D8 s;rw [decide_eq_true h0]at this;simpa using this
  have h0I:(0:Int)<s.size:=by omega
  have HG0:=J (show s.data.getD 0 0=s[0]from EC h0);go_enter func125,ntmps125;go_wp2_with fail;refine(AU _ _).mono ?_;rintro e w1 ⟨rfl,rfl⟩
  cases hl:kH (s[0].toNat:Int)
  ·have HF:=J (show r=false by rw [HR.out,HG0.out,<-rR,hl];simp)
   go_wp2_with fail;go_ret;exact⟨aW HF.out.symm,hx0⟩
  ·have HL:=J (show letter (s.data.getD 0 0)=true by rw [HG0.out,<-rR,hl])
   go_wp2_with fail;refine(Yz s hs _).mono ?_;rintro e w1 ⟨⟨t,rfl,ht⟩,rfl⟩;have HT:=J ht;clear ht
   by_cases hts:t=s
   ·have hb:=oG hts
    have HA:=J (HT.out.1 hts);clear hts
    by_cases hz:s.size<=30
    ·have OP:(s.size:Int)<=30:=by omega
     have HF:=J (show r=!(words.any (λt=>decide (t=s)))by rw [HR.out,decide_eq_true h0,HL.out,HA.out,decide_eq_true hz];rfl)
     cases hw:words.any (λt=>decide (t=s))
     ·have hq:BR words s=none:=by unfold BR;rw [hw];rfl
      rw [hq]at hlk;go_wp2_with fail;go_ret;exact⟨aW (by rw [HF.out,hw];rfl),hx0⟩
     ·have hq:BR words s=some (.bool true):=by unfold BR;rw [hw];rfl
      rw [hq]at hlk;go_wp2_with fail;go_ret;exact⟨aW (by rw [HF.out,hw];rfl),hx0⟩
    ·have OP:¬(s.size:Int)<=30:=by omega
     have HF:=J (show r=false by rw [HR.out,decide_eq_false hz];simp);go_wp2_with fail;go_ret;exact⟨aW HF.out.symm,hx0⟩
   ·have hb:=mG hts
    have HA:=J (show s.data.toList.all inner=false by
     cases h:s.data.toList.all inner
     ·rfl
     ·exact absurd (HT.out.2 h) hts)
    clear hts;have HF:=J (show r=false by rw [HR.out,HA.out];simp);go_wp2_with fail;go_ret;exact⟨aW HF.out.symm,hx0⟩
 ·have hE:(ByteArray.toList s).isEmpty=true:=by have:=D8 s;rw [decide_eq_false h0]at this;simpa using this
  have HF:=J (show r=false by rw [HR.out,decide_eq_false h0];rfl);go_enter func125,ntmps125;go_wp2_with fail;go_ret;exact⟨aW HF.out.symm,hx0⟩
theorem mY (s:Str) (hs:s.size<=maxLen) (w:World) (hL:fG w):Calls prog 76 #[.string s] w λe w'=>e=.returned (.bool (isName s))/\Ext w w':=by
 go_enter func76,ntmps76;go_wp2_with fail;refine(U6 _ hL).mono ?_;rintro e w1 ⟨hx1,g,m,rfl,hM⟩;have HM:=J hM;clear hM;go_wp2_with fail;refine(U3 s hs g m _ HM.out).mono ?_;rintro e w2 ⟨rfl,hx2⟩;go_wp2_with fail;go_ret;exact⟨rfl,hx1.trans hx2⟩
open Go.RowKit So
def U9 (f:oW):List PanicEntry:=[{v:=.iface 104 (.agg #[.int .i64 f.e,.string f.name]),recovered:=false}]
def dN:Option oW->Ending->Prop
 |none,e=>e=.returned (.tuple #[])
 |some f,e=>e=.panicked (U9 f)
theorem bq (ok:Bool) (er:Int) (s:Str) (w:World):Calls prog 75 #[.bool ok,.int .i64 er,.string s] w λe w'=>dN (must ok er s) e/\w=w':=by
 cases ok
 ·go_enter func75,ntmps75
  go_wp2_with fail;exact⟨rfl,rfl,rfl⟩
 ·go_enter func75,ntmps75
  go_wp2_with fail;go_end0;exact⟨rfl,rfl⟩
def IB (κ:Kn):ByteArray->Option Value:=λs=>if κ s=0 then none else some (.int .i64 ((κ s:Int) - 1))
structure Ck (w:World) (cb g:Nat) (κ:Kn) (part:Str) (aQ:Nat):Prop where
 blk:aH w cb 145 #[.map (some g),.string part,.int .i64 aQ]
 map:SMap w g (IB κ)
theorem Ck.ext {w w':World} {cb g:Nat} {κ:Kn} {part:Str} {aQ:Nat} (h:Ck w cb g κ part aQ) (hk:Ext w w'):Ck w' cb g κ part aQ:=⟨bX h.blk hk,h.map.ext hk⟩
theorem G8 (w:World):(zeroValue 187).run prog w=.ok (.int .i64 0) w:=by
 first|kernel_rfl|rfl
theorem mD (cb g:Nat) (κ:Kn) (part:Str) (aQ:Nat) (s:Str) (w:World) (h:Ck w cb g κ part aQ):Calls prog 77 #[.pointer (some ⟨cb,0,none⟩),.string s] w λe w'=>e=.returned (.bool (κ s !=0))/\w=w':=by
 have hlk:=SMap.look_ok (P:=prog) h.map underlying143 underlying9 (z:=.int .i64 0) G8 s;have hc:=bC h.blk;have hl:=h.blk.lt;obtain⟨r,hr⟩:∃r,r=(κ s !=0):=⟨_,rfl⟩;rw [<-hr];have HR:=J hr;clear hr
 by_cases hz:κ s=0
 ·have hq:IB κ s=none:=by unfold IB;rw [if_pos hz]
  have HF:=J (show r=false by rw [HR.out,hz];rfl);rw [hq]at hlk;clear hz hq;go_enter func77,ntmps77;go_wp2_with fail;go_ret;exact⟨aW HF.out.symm,rfl⟩
 ·have hq:IB κ s=some (.int .i64 ((κ s:Int) - 1)):=by unfold IB;rw [if_neg hz]
  have HF:=J (show r=true by rw [HR.out];simpa using hz);rw [hq]at hlk;generalize (κ s:Int) - 1=x at hlk;clear hz hq;go_enter func77,ntmps77;go_wp2_with fail;go_ret;exact⟨aW HF.out.symm,rfl⟩
open Go.RowKit So
theorem dN.none {e:Ending} (h:dN none e):e=.returned (.tuple #[]):=h
theorem dN.some {f:oW} {e:Ending} (h:dN (some f) e):e=.panicked (U9 f):=h
abbrev adu (cb:Nat) (κ:Kn) (w:World) (F:EF):Prop:=∀(op m:Int) (s:Str) (B:Option Addr) (kn kc N:Nat) (w':World),Ext w w'->N<=w.heap.size->g_ w N B kn F->
 Calls prog 184 #[.pointer (some ⟨cb,0,none⟩),.agg (aI op m s B kn kc)] w' λe w2=>dN (DC κ op m s F) e/\Ext w' w2
theorem ags {w:World} {cb g:Nat} {κ:Kn} {part:Str} {aQ:Nat} (h:Ck w cb g κ part aQ) (s:Str):(Instr.lookup 143 (.map (some g)) (.string s) false).run prog w=.ok (.int .i64 ((κ s:Int) - 1+(if κ s=0 then 1 else 0))) w:=by
 have hlk:=SMap.look (P:=prog) h.map underlying143 underlying9 (z:=.int .i64 0) G8 s;rw [hlk];unfold IB
 split<;>simp [*]
theorem UZ (cb g:Nat) (κ:Kn) (part:Str) (aQ:Nat) (w0:World) (hC:Ck w0 cb g κ part aQ) (hL:fG w0) (F:EF):adu cb κ w0 F:=by
 refine uh (C:=adu cb κ w0) ?_ F;intro F IH op m s B kn kc N0 w hx0 hN0 hes;obtain⟨X,hX⟩:∃X,X=DC κ op m s F:=⟨_,rfl⟩;rw [<-hX];obtain⟨r,hr⟩:∃r,r=gq κ F:=⟨_,rfl⟩;have hX2:X=ay (gY κ op m s kn) r:=by rw [hX,hr,hes.1];rfl
 have eU:=J hX2;have VI:=J hr.symm;clear hX hX2 hr;obtain⟨hn,hf,b,off,hA,hE⟩:=hes;refine Ab ?_;intro hm HN HA HE;have HI:=J IH;clear hn hA hE IH hf;have hx1:=(kR (λ_=>False) w).alloc (.cells (aI op m s B kn kc) 200);have hE1:=bN w 200 (aI op m s B kn kc);go_enter func184,ntmps184;go_upto_region 1 with(fail);generalize hW:(w.alloc (.cells (aI op m s B kn kc) 200))=W at hx1 hE1⊢;generalize w.heap.size=eb at hE1⊢;clear hW;have hE0:=J hE1;have HX0:=J hx1;have vJ:=J (hC.ext (hx0.trans hx1));have pI:=J (hL.ext (hx0.trans hx1));refine ET ?_;intro bU;clear hE1 hx1
 cases hb1:jq op 0 17
 ·have HR:=J (show X=some ⟨3,E0⟩by rw [eU.out];unfold gY;rw [hb1];rfl)
  refine abU ?_;refine yT ?_;refine QZ ?_;intro K hK;rintro e w1 ⟨rfl,rfl⟩;rw [hb1];refine hK.out _ _ (λ_=>bU.out) ?_;clear hK K;refine yT ?_;exact ajz
 ·obtain⟨k,rfl⟩:∃k:Nat,op=k:=⟨op.toNat,by simp [jq]at hb1;omega⟩
  have agL:k<18:=by simp [jq]at hb1;omega
  have XB:(k:Int)<18:=by omega
  have HT:=J (pI.out.ex k agL);have Bq:=J hb1;refine abU ?_
  (repeat first|refine cu ?_|refine dL bU.out aeV ?_|refine dK bU.out ?_)
  refine QZ ?_;intro K hK;rintro e w1 ⟨rfl,rfl⟩;rw [hb1];refine hK.out _ _ (λ_=>bU.out) ?_;clear hK K
  cases hb2:((kn:Int)==(exprParts k:Int))
  ·have HR:=J (show X=some ⟨3,E0⟩by rw [eU.out];unfold gY;rw [Bq.out,<-pz,hb2];rfl)
   (repeat first|refine cu ?_|refine dL bU.out aeV ?_|refine dK bU.out ?_)
   exact ajz
  ·have iZ:Hid (X=ay (if (k:Int)=0 then must (word m) 2 E0 else if (k:Int)=1∨(k:Int)=2 then ay (must (κ s !=0) 6 s) (must ((κ s==2)==((k:Int)==2)) 11 s)else none) r):=J (by rw [eU.out];unfold gY;rw [Bq.out,<-pz,hb2];rfl)
   (repeat first|refine cu ?_|refine dL bU.out aeV ?_|refine dK bU.out ?_)
   (refine eu bT bT (λK hK=>?_);go_simp)
   refine(bq true _ _ _).mono ?_;rintro e w1 ⟨he,rfl⟩;have he:=dN.none he;subst he;refine hK.out _ _ ?_;clear hK K;refine gI ?_;have ys:=bU.out;have Av:=bC (bX hE0.out ys);have DV:=(bX hE0.out ys).lt;clear hb1 hb2 agL XB
   by_cases ho0:k=0
   ·subst ho0
    have fZ:Hid (X=ay (must (word m) 2 E0) r):=J Vj;clear iZ;go_wp2_with fail;refine(nS _ _).mono ?_;rintro e w1 ⟨rfl,rfl⟩
    cases hw:word m
    ·have HR:=J (show X=some ⟨2,E0⟩by rw [fZ.out,hw];rfl)
     go_wp2_with fail;refine(bq false _ _ _).mono ?_;rintro e w1 ⟨he,rfl⟩;have he:e=.panicked (U9 ⟨2,E0⟩):=he;subst he;show _/\_;exact⟨rfl,by rw [HR.out];exact⟨rfl,HX0.out.trans ys⟩⟩
    ·have nE:=J (show X=r by rw [fZ.out,hw];rfl)
     go_wp2_with fail;refine(bq true _ _ _).mono ?_;rintro e w1 ⟨he,rfl⟩;have he:=dN.none he;subst he;exact afx
   ·have q0:((k:Int)==0)=false:=by simp;omega
    by_cases ho1:k=1
    ·subst ho1
     have fZ:Hid (X=ay (ay (must (κ s !=0) 6 s) (must ((κ s==2)==false) 11 s)) r):=J Vj;clear iZ;go_upto_region 7 with(fail);obtain⟨v,hv⟩:∃v,v=κ s:=⟨_,rfl⟩;have HV:=J hv;rw [<-hv]at fZ;clear hv;generalize hW2:W.drew=W2 at ys Av DV⊢;clear hW2;have fH:=J ys;refine gM (λw1=>Ext W2 w1) [(0,2),(1,2),(2,1),(4,2),(5,1),(3,0),(6,0)] ?_;refine gN ?_;have HZ0:=J (show Ext W2 W2.drew from(kR _ W2).drew)
     (repeat first|refine cu ?_|refine dL HZ0.out Vf ?_|refine dK HZ0.out ?_)
     (refine aC (λK hK=>?_);go_simp)
     refine(mD cb g κ part aQ s _ (vJ.out.ext (fH.out.trans HZ0.out))).mono ?_;rintro e w1 ⟨rfl,rfl⟩;rw [<-HV.out];refine hK.out _ _ (λ_=>HZ0.out) ?_;clear hK K
     (repeat first|refine cu ?_|refine dL HZ0.out Vf ?_|refine dK HZ0.out ?_)
     (refine eu bT bT (λK hK=>?_);go_simp)
     by_cases hv0:v=0
     ·have qv:(v !=0)=false:=by simp [hv0]
      exact ajy
     ·have qv:(v !=0)=true:=by simp [hv0]
      rw [qv]at fZ⊢;refine(bq true _ _ _).mono ?_;rintro e w1 ⟨he,rfl⟩;have he:=dN.none he;subst he;refine acP ?_;clear hK K ys Av DV;intro W3 eX tK;have hvI:((v:Int) - 1+(if v=0 then 1 else 0))=(v:Int) - 1:=by rw [if_neg hv0];omega
      refine MV ?_
      by_cases hv2:v=2
      ·have LZ:((v:Int) - 1==1)=true:=by simp [hv2]
       have qn:(v==2)=true:=by simp [hv2]
       exact ajo
      ·have LZ:((v:Int) - 1==1)=false:=by simp;omega
       have qn:(v==2)=false:=by simp [hv2]
       exact zz9
    ·have q1:((k:Int)==1)=false:=by simp;omega
     by_cases ho2:k=2
     ·subst ho2
      have fZ:Hid (X=ay (ay (must (κ s !=0) 6 s) (must ((κ s==2)==true) 11 s)) r):=J Vj;clear iZ;go_upto_region 7 with(fail);obtain⟨v,hv⟩:∃v,v=κ s:=⟨_,rfl⟩;have HV:=J hv;rw [<-hv]at fZ;clear hv;generalize hW2:W.drew=W2 at ys Av DV⊢;clear hW2;have fH:=J ys;refine gM (λw1=>Ext W2 w1) [(0,2),(1,2),(2,1),(4,2),(5,1),(3,0),(6,0)] ?_;refine gN ?_;have HZ0:=J (show Ext W2 W2.drew from(kR _ W2).drew)
      (repeat first|refine cu ?_|refine dL HZ0.out Vf ?_|refine dK HZ0.out ?_)
      (refine aC (λK hK=>?_);go_simp)
      refine(mD cb g κ part aQ s _ (vJ.out.ext (fH.out.trans HZ0.out))).mono ?_;rintro e w1 ⟨rfl,rfl⟩;rw [<-HV.out];refine hK.out _ _ (λ_=>HZ0.out) ?_;clear hK K
      (repeat first|refine cu ?_|refine dL HZ0.out Vf ?_|refine dK HZ0.out ?_)
      (refine eu bT bT (λK hK=>?_);go_simp)
      by_cases hv0:v=0
      ·have qv:(v !=0)=false:=by simp [hv0]
       exact ajy
      ·have qv:(v !=0)=true:=by simp [hv0]
       rw [qv]at fZ⊢;refine(bq true _ _ _).mono ?_;rintro e w1 ⟨he,rfl⟩;have he:=dN.none he;subst he;refine acP ?_;clear hK K ys Av DV;intro W3 eX tK;have hvI:((v:Int) - 1+(if v=0 then 1 else 0))=(v:Int) - 1:=by rw [if_neg hv0];omega
       refine MV ?_
       by_cases hv2:v=2
       ·have LZ:((v:Int) - 1==1)=true:=by simp [hv2]
        have qn:(v==2)=true:=by simp [hv2]
        exact zz9
       ·have LZ:((v:Int) - 1==1)=false:=by simp;omega
        have qn:(v==2)=false:=by simp [hv2]
        exact ajo
     ·have q2:((k:Int)==2)=false:=by simp;omega
      have nE:=J (show X=r by rw [iZ.out,if_neg aj,if_neg aj];rfl);exact afx
open Go.RowKit So
theorem P8 (cb g:Nat) (κ:Kn) (i aQ:Nat) (hi:i<5) (k:Int) (l:Bool) (w:World) (hC:Ck w cb g κ (bZ i) aQ):Calls prog 180 #[.pointer (some ⟨cb,0,none⟩),.int .i64 k,.bool l] w λe w'=>e=.returned (.bool (stands k i l))/\w=w':=by
 have hc:=bC hC.blk;have hl:=hC.blk.lt;clear hC
 rcases(by omega:i=0∨i=1∨i=2∨i=3∨i=4)with rfl|rfl|rfl|rfl|rfl
 all_goals
  simp only [bZ,sStart,lU,gQ,JF,oU]at hc;go_enter func180,ntmps180;go_wp2_with fail
  all_goals go_ret
  all_goals refine⟨aW ?_,rfl⟩
  all_goals first|(simp_all [stands];done)|(simp_all [stands,str_eq];done)|(simp_all [stands,str_eq];decide)|(simp_all [stands,ByteArray.toList_eq])
theorem Qq (cb g:Nat) (κ:Kn) (part:Str) (aQ:Nat) (kind:Int) (s:Str) (eA:Option Addr) (en ec:Nat) (low high:Int) (lA:Option Addr) (ln lc:Nat) (xA:Option Addr) (xn xc:Nat) (hk:kind=0∨kind=1∨kind=5) (w:World) (hC:Ck w cb g κ part aQ):
 Calls prog 181 #[.pointer (some ⟨cb,0,none⟩),.agg (aB kind s eA en ec low high lA ln lc xA xn xc)] w λe w'=>dN (target κ kind s low) e/\Ext w w':=by
 obtain⟨X,hX⟩:∃X,X=target κ kind s low:=⟨_,rfl⟩;rw [<-hX];obtain⟨v,hv⟩:∃v,v=κ s:=⟨_,rfl⟩;have HV:=J hv;have eU:Hid (X=ay (must (v !=0) 6 s) (ay (must (v==(if kind=1 then 2 else 1)) 11 s) (if kind=5 then must (jq low 2 1000) 2 s else none))):=J (by rw [hX,hv];rfl);clear hX hv;have hx1:=(kR (λ_=>False) w).alloc (.cells (aB kind s eA en ec low high lA ln lc xA xn xc) 151);have hE1:=bN w 151 (aB kind s eA en ec low high lA ln lc xA xn xc);go_enter func181,ntmps181;go_upto_region 1 with(fail);generalize hW:(w.alloc (.cells (aB kind s eA en ec low high lA ln lc xA xn xc) 151))=W at hx1 hE1⊢;generalize w.heap.size=eb at hE1⊢;clear hW;have hE0:=J hE1;have HX0:=J hx1;have vJ:=J (hC.ext hx1);clear hE1 hx1 hC;refine gM (λw1=>Ext W w1) [(0,2),(1,2),(2,1),(4,2),(5,1),(3,0),(6,0)] ?_;refine gN ?_;refine ET ?_;intro bU;refine yT ?_
 (refine aC (λK hK=>?_);go_simp)
 refine(mD cb g κ part aQ s _ (vJ.out.ext bU.out)).mono ?_;rintro e w1 ⟨rfl,rfl⟩;rw [<-HV.out];refine hK.out _ _ (λ_=>bU.out) ?_;clear hK K;refine yT ?_
 (refine eu bT bT (λK hK=>?_);go_simp)
 have HX:=J (HX0.out.trans bU.out)
 by_cases hv0:v=0
 ·have qv:(v !=0)=false:=by simp [hv0]
  have HR:=J (show X=some ⟨6,s⟩by rw [eU.out,qv];rfl);rw [qv];exact B_
 ·have qv:(v !=0)=true:=by simp [hv0]
  have iZ:Hid (X=ay (must (v==(if kind=1 then 2 else 1)) 11 s) (if kind=5 then must (jq low 2 1000) 2 s else none)):=J (by rw [eU.out,qv];rfl);rw [qv];refine(bq true _ _ _).mono ?_;rintro e w1 ⟨he,rfl⟩;have he:=dN.none he;subst he;refine hK.out _ _ ?_;clear hK K;refine gI ?_;have dX:=bU;have Av:=bC (bX hE0.out dX.out);have DV:=(bX hE0.out dX.out).lt;have hvI:((v:Int) - 1+(if v=0 then 1 else 0))=(v:Int) - 1:=by rw [if_neg hv0];omega
  rcases hk with rfl|rfl|rfl
  ·
   have fZ:Hid (X=must (v==1) 11 s):=J (by rw [iZ.out];simp);go_upto_region 5 with(fail);clear Av DV;generalize hW3:W.drew=W3 at dX⊢;have eX:=J dX.out;clear hW3;refine Y5 ?_;have tK:=J (show Ext W3 W3.drew from(kR _ W3).drew);refine MV ?_;have HX:=J (HX0.out.trans (eX.out.trans tK.out));clear hvI
   by_cases hv1:v=1
   ·have LZ:((v:Int) - 1==0)=true:=by simp [hv1]
    exact ajj
   ·have LZ:((v:Int) - 1==0)=false:=by simp;omega
    exact ajr
  ·
   have fZ:Hid (X=must (v==2) 11 s):=J (by rw [iZ.out];simp);go_upto_region 5 with(fail);clear Av DV;generalize hW3:W.drew=W3 at dX⊢;have eX:=J dX.out;clear hW3;refine Y5 ?_;have tK:=J (show Ext W3 W3.drew from(kR _ W3).drew);refine MV ?_;have HX:=J (HX0.out.trans (eX.out.trans tK.out));clear hvI
   by_cases hv1:v=2
   ·have LZ:((v:Int) - 1==1)=true:=by simp [hv1]
    exact ajj
   ·have LZ:((v:Int) - 1==1)=false:=by simp;omega
    have qn:(v==2)=false:=by simp [hv1]
    have HR:=J (show X=some ⟨11,s⟩by rw [fZ.out,qn];rfl);refine Nc ?_;intro K hK
    try rw [LZ]
    exact B_
  ·
   have fZ:Hid (X=ay (must (v==1) 11 s) (must (jq low 2 1000) 2 s)):=J (by rw [iZ.out];simp);go_upto_region 5 with(fail);clear Av DV;generalize hW3:W.drew=W3 at dX⊢;have eX:=J dX.out;clear hW3;refine Y5 ?_;have tK:=J (show Ext W3 W3.drew from(kR _ W3).drew);refine MV ?_;have HX:=J (HX0.out.trans (eX.out.trans tK.out));clear hvI
   by_cases hv1:v=1
   ·have LZ:((v:Int) - 1==0)=true:=by simp [hv1]
    have kg:=J (show X=must (jq low 2 1000) 2 s by rw [fZ.out,hv1];rfl);refine Nc ?_;intro K hK
    try rw [LZ]
    refine(bq true _ _ _).mono ?_;rintro e w1 ⟨he,rfl⟩;have he:=dN.none he;subst he;refine hK.out _ _ ?_;clear hK K;refine gI ?_;have agF:=bC (bX hE0.out (eX.out.trans tK.out));have agT:=(bX hE0.out (eX.out.trans tK.out)).lt;go_upto_region 7 with(fail);clear agF agT;generalize hW4:W3.drew=W4 at tK HX⊢;have o_:=J (eX.out.trans tK.out);clear hW4;refine gM (λw1=>Ext W4 w1) [(0,2),(1,1),(3,2),(4,1),(2,0),(5,0)] ?_;refine gN ?_;have j4:=J (show Ext W4 W4.drew from(kR _ W4).drew)
    (repeat first|refine cu ?_|refine dL j4.out aiq ?_|refine dK j4.out ?_)
    refine QZ ?_;intro K hK;rintro e w1 ⟨rfl,rfl⟩;refine hK.out _ _ (λ_=>j4.out) ?_;clear hK K
    (repeat first|refine cu ?_|refine dL j4.out aiq ?_|refine dK j4.out ?_)
    (refine eu bT bT (λK hK=>?_);go_simp)
    have HX:=J (HX0.out.trans (o_.out.trans j4.out))
    cases hb:jq low 2 1000
    ·have HR:=J (show X=some ⟨2,s⟩by rw [kg.out,hb];rfl)
     exact B_
    ·have HR:=J (show X=none by rw [kg.out,hb];rfl)
     exact ajI
   ·have LZ:((v:Int) - 1==0)=false:=by simp;omega
    exact ajr
open Go.RowKit So
theorem XY (cb g:Nat) (κ:Kn) (part:Str) (aQ:Nat) (kind:Int) (s:Str) (eA:Option Addr) (en ec:Nat) (low high:Int) (lA:Option Addr) (ln lc:Nat) (xA:Option Addr) (xn xc:Nat) (hs:s.size<=maxLen) (w:World) (hC:Ck w cb g κ part aQ) (hL:fG w):
 Calls prog 182 #[.pointer (some ⟨cb,0,none⟩),.agg (aB kind s eA en ec low high lA ln lc xA xn xc)] w λe w'=>dN (loop κ s low high aQ) e/\Ext w w':=by
 obtain⟨X,hX⟩:∃X,X=loop κ s low high aQ:=⟨_,rfl⟩;rw [<-hX];obtain⟨v,hv⟩:∃v,v=κ s:=⟨_,rfl⟩;have HV:=J hv;have eU:Hid (X=ay (must (isName s) 6 s) (ay (must (v==0) 7 s) (ay (must (word low&&word high&&decide (high - low<=63)) 2 s) (must (decide (aQ<8)) 25 s)))):=J (by rw [hX,hv];rfl);clear hX hv;have xJ:=J hs;clear hs;have hx1:=(kR (λ_=>False) w).alloc (.cells (aB kind s eA en ec low high lA ln lc xA xn xc) 151);have hE1:=bN w 151 (aB kind s eA en ec low high lA ln lc xA xn xc);go_enter func182,ntmps182;go_upto_region 1 with(fail);generalize hW:(w.alloc (.cells (aB kind s eA en ec low high lA ln lc xA xn xc) 151))=W at hx1 hE1⊢;generalize w.heap.size=eb at hE1⊢;clear hW;have hE0:=J hE1;have HX0:=J hx1;have vJ:=J (hC.ext hx1);have pI:=J (hL.ext hx1);clear hE1 hx1 hC hL;refine gM (λw1=>Ext W w1) [(0,2),(1,1),(3,2),(4,1),(2,0),(5,0)] ?_;refine gN ?_;refine ET ?_;intro bU;refine yT ?_
 (refine aC (λK hK=>?_);go_simp)
 refine(mY s xJ.out _ (pI.out.ext bU.out)).mono ?_;refine Vy ?_;intro w1 dX;clear hK K
 (repeat first|refine cu ?_|refine dL dX.out afa ?_|refine dK dX.out ?_)
 (refine eu bT bT (λK hK=>?_);go_simp)
 have HX:=J (HX0.out.trans dX.out)
 cases hn:isName s
 ·have HR:=J (show X=some ⟨6,s⟩by rw [eU.out,hn];rfl)
  exact B_
 ·have iZ:=J (show X=ay (must (v==0) 7 s) (ay (must (word low&&word high&&decide (high - low<=63)) 2 s) (must (decide (aQ<8)) 25 s))by rw [eU.out,hn];rfl)
  refine(bq true _ _ _).mono ?_;rintro e w1 ⟨he,rfl⟩;have he:=dN.none he;subst he;refine hK.out _ _ ?_;clear hK K;refine gI ?_;go_upto_region 2 with(fail);refine gM (λw2=>Ext w1 w2) [(0,2),(1,2),(2,1),(5,2),(6,1),(3,0),(4,2),(7,0)] ?_;refine gN ?_;have HZ0:=J (show Ext w1 w1.drew from(kR _ w1).drew)
  (repeat first|refine cu ?_|refine dL HZ0.out aip ?_|refine dK HZ0.out ?_)
  (refine aC (λK hK=>?_);go_simp)
  refine(mD cb g κ part aQ s _ (vJ.out.ext (dX.out.trans HZ0.out))).mono ?_;rintro e w2 ⟨rfl,rfl⟩;rw [<-HV.out];refine hK.out _ _ (λ_=>HZ0.out) ?_;clear hK K
  (repeat first|refine cu ?_|refine dL HZ0.out aip ?_|refine dK HZ0.out ?_)
  (refine eu bT bT (λK hK=>?_);go_simp)
  have HX:=J (HX0.out.trans (dX.out.trans HZ0.out))
  by_cases hv0:v=0
  ·have qv:(v !=0)=false:=by simp [hv0]
   have fZ:=J (show X=ay (must (word low&&word high&&decide (high - low<=63)) 2 s) (must (decide (aQ<8)) 25 s)by rw [iZ.out,hv0];rfl)
   try rw [qv]
   try simp only [Bool.not_false]
   refine(bq true _ _ _).mono ?_;rintro e w1 ⟨he,rfl⟩;have he:=dN.none he;subst he;refine hK.out _ _ ?_;clear hK K;refine gI ?_;have fH:=J (dX.out.trans HZ0.out);go_upto_region 3 with(fail);generalize hW2:w1.drew=W2 at fH⊢;clear hW2
   cases hw1:word low
   ·have HR:=J (show X=some ⟨2,s⟩by rw [fZ.out,hw1];rfl)
    refine afk ?_;intro j4 K hK;rintro e w2 ⟨rfl,rfl⟩;rw [hw1];refine hK.out _ _ (λ_=>j4.out) ?_;clear hK K;refine MO ?_
    (refine aC (λK hK=>?_);go_simp)
    refine hK.out _ _ (λh=>h) ?_;exact ajf
   ·cases hw2:word high
    ·have HR:=J (show X=some ⟨2,s⟩by rw [fZ.out,hw1,hw2];rfl)
     refine afk ?_;intro j4 K hK;rintro e w2 ⟨rfl,rfl⟩;rw [hw1];refine hK.out _ _ (λ_=>j4.out) ?_;clear hK K;refine MO ?_
     (refine aC (λK hK=>?_);go_simp)
     refine(nS _ _).mono ?_;rintro e w2 ⟨rfl,rfl⟩;rw [hw2];refine hK.out _ _ (λ_=>j4.out) ?_;exact ajf
    ·have hb1:-2147483648<=low/\low<=2147483647:=by simpa [word]using hw1
     have hb2:-2147483648<=high/\high<=2147483647:=by simpa [word]using hw2
     obtain⟨a1,a2⟩:=hb1;obtain⟨a3,a4⟩:=hb2;have HW1:=J hw1;have HW2:=J hw2;have kg:=J (show X=ay (must (decide (high - low<=63)) 2 s) (must (decide (aQ<8)) 25 s)by rw [fZ.out,hw1,hw2];rfl);refine afk ?_;intro j4 K hK;rintro e w2 ⟨rfl,rfl⟩;rw [HW1.out];refine hK.out _ _ (λ_=>j4.out) ?_;clear hK K;refine MO ?_
     (refine aC (λK hK=>?_);go_simp)
     refine(nS _ _).mono ?_;rintro e w2 ⟨rfl,rfl⟩;rw [HW2.out];refine hK.out _ _ (λ_=>j4.out) ?_;clear hK K;have hwr:IntKind.i64.wrap (high - low)=high - low:=by rw [IntKind.wrap_i64];omega
     by_cases hd:high - low<=63
     ·have qj:=J (show X=must (decide (aQ<8)) 25 s by rw [kg.out,decide_eq_true hd];rfl)
      refine MO ?_
      (refine eu bT bT (λK hK=>?_);go_simp)
      refine(bq true _ _ _).mono ?_;rintro e w1 ⟨he,rfl⟩;have he:=dN.none he;subst he;refine hK.out _ _ ?_;clear hK K;refine gI ?_;go_upto_region 4 with(fail);have eX:=J (fH.out.trans j4.out);generalize hW3:W2.drew=W3 at eX⊢;clear hW3;refine gM (λw2=>Ext W3 w2) [(0,2),(1,2),(2,2),(3,1),(4,2),(5,2),(6,1),(7,0)] ?_;refine gN ?_;have tK:=J (show Ext W3 W3.drew from(kR _ W3).drew)
      (repeat first|refine cu ?_|refine dL tK.out (by intro w1 hS;have d1:=(vJ.out.ext (eX.out.trans hS));have d2:=bC d1.blk;have d3:=d1.blk.lt;clear d1;have d4:=bX hE0.out (eX.out.trans hS);have d5:=bC d4;have d6:=d4.lt;exact gX) ?_|refine dK tK.out ?_)
      have HX:=J (HX0.out.trans (eX.out.trans tK.out))
      by_cases h8:aQ<8
      ·have h8I:(aQ:Int)<8:=by omega
       have HR:=J (show X=none by rw [qj.out,decide_eq_true h8];rfl);refine Nc ?_;intro K hK;exact ajI
      ·have h8I:¬(aQ:Int)<8:=by omega
       have HR:=J (show X=some ⟨25,s⟩by rw [qj.out,decide_eq_false h8];rfl);refine Nc ?_;intro K hK;exact B_
     ·have HR:=J (show X=some ⟨2,s⟩by rw [kg.out,decide_eq_false hd];rfl)
      exact adn
  ·have qv:(v !=0)=true:=by simp [hv0]
   have qn:(v==0)=false:=by simp [hv0]
   have HR:=J (show X=some ⟨7,s⟩by rw [iZ.out,qn];rfl)
   try rw [qv]
   try simp only [Bool.not_true]
   exact B_
end Go.Proofs.YtbfbabbcdochjaaGreatDoor
