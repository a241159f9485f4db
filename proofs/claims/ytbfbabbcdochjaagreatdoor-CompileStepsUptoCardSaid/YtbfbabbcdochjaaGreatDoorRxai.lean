/- Several texts joined: Qr, Qs, Qt, Qu, Qv. -/
import Derived.Lib.LaidTab
import Derived.Test.YtbfbabbcdochjaaGreatDoorShelf
import Derived.Test.YtbfbabbcdochjaaGreatDoorRxpk
import Derived.Test.YtbfbabbcdochjaaGreatDoorRxah
set_option maxHeartbeats 4000000
namespace Go.Proofs.YtbfbabbcdochjaaGreatDoor
open Go.RowKit So
def letterI (c:Int):Bool:=(decide (97≤c) && decide (c≤122)) || (decide (65≤c) && decide (c≤90))
def digitI (c:Int):Bool:=decide (48≤c) && decide (c≤57)
theorem letterI_of (c:UInt8):letterI (c.toNat:Int)=letter c:=by
 unfold letterI letter
 simp only [UInt8.le_iff_toNat_le]
 rw [Bool.eq_iff_iff]
 simp
 omega
theorem digitI_of (c:UInt8):digitI (c.toNat:Int)=digit c:=by
 unfold digitI digit
 simp only [UInt8.le_iff_toNat_le]
 rw [Bool.eq_iff_iff]
 simp
 omega
theorem rletter_any (c:Int) (w:World):Calls Tryz.prog 144 #[.int .u8 c] w fun e w'=>e=.returned (.bool (letterI c))∧w=w':=by
 go_enter Tryz.func144,Tryz.ntmps144
 go_wp2_with fail
 all_goals go_ret
 all_goals refine ⟨ret_bool ?_,rfl⟩
 all_goals (rw [Bool.eq_iff_iff];simp [letterI];omega)
theorem rdigit_any (c:Int) (w:World):Calls Tryz.prog 145 #[.int .u8 c] w fun e w'=>e=.returned (.bool (digitI c))∧w=w':=by
 go_enter Tryz.func145,Tryz.ntmps145
 go_wp2_with fail
 all_goals go_ret
 all_goals refine ⟨ret_bool ?_,rfl⟩
 all_goals (rw [Bool.eq_iff_iff];simp [digitI];omega)
theorem sletter_any (c:Int) (w:World):Calls Tryz.prog 159 #[.int .u8 c] w fun e w'=>e=.returned (.bool (letterI c))∧w=w':=by
 go_enter Tryz.func159,Tryz.ntmps159
 go_wp2_with fail
 all_goals go_ret
 all_goals refine ⟨ret_bool ?_,rfl⟩
 all_goals (rw [Bool.eq_iff_iff];simp [letterI];omega)
theorem sdigit_any (c:Int) (w:World):Calls Tryz.prog 174 #[.int .u8 c] w fun e w'=>e=.returned (.bool (digitI c))∧w=w':=by
 go_enter Tryz.func174,Tryz.ntmps174
 go_wp2_with fail
 all_goals go_ret
 all_goals refine ⟨ret_bool ?_,rfl⟩
 all_goals (rw [Bool.eq_iff_iff];simp [digitI];omega)
def innerI (c:Int):Bool:=letterI c || digitI c || c == 95
theorem inner_any (c:Int) (w:World):Calls Tryz.prog 161 #[.int .u8 c] w fun e w'=>e=.returned (.bool (innerI c))∧w=w':=by
 go_enter Tryz.func161,Tryz.ntmps161
 go_wp2_with fail
 refine (sletter_any _ _).mono ?_
 rintro e w1 ⟨rfl,rfl⟩
 cases hl:letterI c
 ·go_wp2_with fail
  refine (sdigit_any _ _).mono ?_
  rintro e w1 ⟨rfl,rfl⟩
  cases hd:digitI c
  ·go_wp2_with fail
   all_goals go_ret
   all_goals exact ⟨ret_bool (by unfold innerI;simp [hl,hd]),rfl⟩
  ·go_wp2_with fail
   all_goals go_ret
   all_goals exact ⟨ret_bool (by unfold innerI;simp [hl,hd]),rfl⟩
 ·go_wp2_with fail
  all_goals go_ret
  all_goals exact ⟨ret_bool (by unfold innerI;simp [hl]),rfl⟩
def nameRun (s:Str):Bool:=decide (0 < s.size) && letter (s.data.getD 0 0) && s.data.toList.all inner
theorem isName_run (s:Str):isName s=(nameRun s && decide (s.size≤30) && !(words.any (fun t=>decide (t=s)))):=rfl
theorem innerI_of (c:UInt8):innerI (c.toNat:Int)=inner c:=by
 unfold innerI inner
 rw [letterI_of,digitI_of]
 congr 1
 rw [Bool.eq_iff_iff]
 simp only [beq_iff_eq]
 exact ⟨fun h=>UInt8.toNat_inj.1 (by simpa using (by omega:c.toNat=95)),fun h=>by rw [h];rfl⟩
theorem ne_empty (s:Str):(!(ByteArray.toList s).isEmpty)=decide (0 < s.size):=by
 rw [ByteArray.toList_eq,Bool.eq_iff_iff]
 have:s.data.toList.length=s.size:=Array.length_toList
 cases h:s.data.toList with
 | nil=>rw [h] at this;rw [← this];simp
 | cons a b=>rw [h] at this;rw [← this];simp
theorem str_get0 {s:Str} (h:0 < s.size):s.data.getD 0 0=s[0]:=by
 have h':0 < s.data.size:=h
 unfold Array.getD
 rw [dif_pos h']
 rfl
theorem nr_letter {s:Str} (h0:0 < s.size) (h:letter s[0]=false):nameRun s=false:=by
 unfold nameRun
 rw [str_get0 h0,h]
 simp
theorem nr_inner {s:Str} {i:Nat} (hi:i < s.size) (h:inner s[i]=false):nameRun s=false:=by
 unfold nameRun
 have:s.data.toList.all inner=false:=by
  rw [List.all_eq_false]
  exact ⟨s[i],Array.mem_toList_iff.2 (Array.getElem_mem (xs:=s.data) hi),by rw [h];exact Bool.false_ne_true⟩
 rw [this,Bool.and_false]
theorem nr_ok {s:Str} (h0:0 < s.size) (h1:letter s[0]=true) (h2:∀ i (h:i < s.size),inner s[i]=true):nameRun s=true:=by
 unfold nameRun
 rw [str_get0 h0,h1,decide_eq_true h0]
 simp only [Bool.true_and,List.all_eq_true]
 intro x hx
 obtain ⟨i,hi,rfl⟩:=List.getElem_of_mem hx
 exact h2 i (by simpa using hi)
set_option maxRecDepth 100000 in
theorem rrun_any (s:Str) (hs:s.size≤maxLen) (w:World):Calls Tryz.prog 88 #[.string s] w fun e w'=>e=.returned (.bool (nameRun s))∧w=w':=by
 have hmx:s.size≤9223372036854775807:=by unfold maxLen at hs;omega
 go_enter Tryz.func88,Tryz.ntmps88
 go_wp2_with fail
 go_loopw [3] (fun t3 wr=>∃ (j:Nat),j≤s.size∧t3=.int .i64 j∧(∀ i (h:i < s.size),i < j→inner s[i]=true)∧(∀ h:0 < s.size,0 < j→letter s[0]=true)∧w=wr) (fun t3 _=>s.size - (intOf t3).toNat)
 case atStart=>exact ⟨0,Nat.zero_le _,rfl,fun i _ h=>by omega,fun _ h=>by omega,rfl⟩
 case round =>
  obtain ⟨j,hj,rfl,h1,h2,hw⟩:=hrel
  subst hw
  have H1:=J h1
  have H2:=J h2
  clear h1 h2
  by_cases hlt:j < s.size
  ·have hltI:(j:Int) < s.size:=by omega
   have hb:inner s[j]=(letterI (s[j].toNat:Int) || digitI (s[j].toNat:Int) || (s[j].toNat:Int) == 95):=(innerI_of s[j]).symm
   have hlet:=letterI_of s[j]
   by_cases hj0:j=0
   ·subst hj0
    have HB:=J hb
    have HLT:=J hlet
    clear hb hlet
    go_wp2_with fail
    refine (rletter_any _ _).mono ?_
    rintro e w1 ⟨rfl,rfl⟩
    cases hl:letterI (s[0].toNat:Int)
    ·have HNR:=J (nr_letter hlt (by rw [← HLT.out];exact hl))
     clear hl
     go_wp2_with fail
     go_ret
     exact ⟨ret_bool HNR.out.symm,rfl⟩
    ·have HL:=J hl
     go_wp2_with fail
     go_roundw
     case rel=>exact ⟨1,hlt,rfl,fun i hi h=>by
      obtain rfl:i=0:=by omega
      rw [HB.out,HL.out];rfl,fun _ _=>by rw [← HLT.out];exact HL.out,by trivial⟩
     case measure=>simp only [intOf];omega
   ·have q0:((j:Int) == 0)=false:=by simp;omega
    have HB:=J hb
    clear hb hlet
    go_wp2_with fail
    refine (rletter_any _ _).mono ?_
    rintro e w1 ⟨rfl,rfl⟩
    cases hl:letterI (s[j].toNat:Int)
    ·have HL:=J hl
     go_wp2_with fail
     refine (rdigit_any _ _).mono ?_
     rintro e w1 ⟨rfl,rfl⟩
     cases hd:digitI (s[j].toNat:Int)
     ·have HD:=J hd
      cases hu:((s[j].toNat:Int) == 95)
      ·have hun:((s[j].toNat:Int) != 95)=true:=by unfold bne;rw [hu];rfl
       have HNR:=J (nr_inner hlt (by rw [HB.out,HL.out,HD.out,hu];rfl))
       go_wp2_with fail
       go_ret
       exact ⟨ret_bool HNR.out.symm,rfl⟩
      ·have hun:((s[j].toNat:Int) != 95)=false:=by unfold bne;rw [hu];rfl
       have HOK:=J (show inner s[j]=true by rw [HB.out,HL.out,HD.out,hu];rfl)
       exact zz70
     ·have HOK:=J (show inner s[j]=true by rw [HB.out,HL.out,hd];rfl)
      exact zz70
    ·have HOK:=J (show inner s[j]=true by rw [HB.out,hl];rfl)
     exact zz70
  ·obtain rfl:j=s.size:=by omega
   have HNR:=J (show nameRun s=decide (0 < s.size) by
    by_cases h0:0 < s.size
    ·rw [nr_ok h0 (H2.out h0 h0) (fun i hi=>H1.out i hi hi),decide_eq_true h0]
    ·unfold nameRun;simp [h0])
   go_wp2_with fail
   go_ret
   exact ⟨ret_bool (by rw [HNR.out];exact ne_empty s),rfl⟩
open Go.RowKit So
set_option maxRecDepth 100000 in
theorem has_any (l:List Str) (s:Str) (A:Option Addr) (n c N:Nat) (w:World) (h:StrSl w N A n l):Calls Tryz.prog 89 #[.slice A n c,.string s] w fun e w'=>e=.returned (.bool (l.any (fun t=>decide (t=s))))∧w=w':=by
 obtain ⟨hn,hm,b,off,hA,hE⟩:=h
 have HN:=J hn
 have HA:=J hA
 have HE:=J hE
 clear hn hA hE
 go_enter Tryz.func89,Tryz.ntmps89
 go_wp2_with fail
 go_loopw [5] (fun t5 wr=>∃ (j:Nat),j≤n∧t5=.int .i64 j∧(∀ v ∈ l.take j,¬ v=s)∧w=wr) (fun t5 _=>n - (intOf t5).toNat)
 case atStart=>exact ⟨0,Nat.zero_le _,rfl,by simp,rfl⟩
 case round =>
  obtain ⟨j,hj,rfl,hno,hw⟩:=hrel
  subst hw
  have HNO:=J hno
  clear hno
  by_cases hlt:j < n
  ·have hjl:j < l.length:=by have:=HN.out;omega
   have hltI:(j:Int) < n:=by omega
   obtain rfl:=HA.out zb85
   have hrow:=(HE.out zb85).2
   have hc:=str_at hrow j hjl
   have hbw:=hrow.lt
   obtain ⟨x,hxe⟩:∃ x,x=l[j]:=⟨_,rfl⟩
   rw [← hxe] at hc
   have HX:=J hxe
   clear hrow hxe
   by_cases hq:x=s
   ·have hb:=str_same hq
    have HQ:=J hq
    clear hq
    go_wp2_with fail
    go_ret
    refine ⟨ret_bool ?_,rfl⟩
    rw [eq_comm,List.any_eq_true]
    exact ⟨x,by rw [HX.out];exact List.getElem_mem hjl,decide_eq_true HQ.out⟩
   ·have hb:=str_other hq
    exact zz51
  ·obtain rfl:j=n:=by omega
   go_wp2_with fail
   go_ret
   refine ⟨ret_bool ?_,rfl⟩
   rw [eq_comm,List.any_eq_false]
   intro v hv
   have:=HNO.out v zb50
   simpa using this
set_option maxRecDepth 100000 in
theorem rwords_any (w:World):Calls Tryz.prog 90 #[] w fun e w'=>Ext w w'∧∃ A c,e=.returned (.slice A 23 c)∧StrSl w' w'.heap.size A 23 words:=by
 go_enter Tryz.func90,Tryz.ntmps90
 go_wp2_with fail
 go_ret
 refine ⟨(kR _ w).alloc _,_,_,rfl,rfl,by omega,w.heap.size,0,fun _=>rfl,fun _=>⟨by simp,?_⟩⟩
 exact Row.of_blk (bN w _ _)
set_option maxRecDepth 100000 in
theorem risname_any (s:Str) (hs:s.size≤maxLen) (w:World):Calls Tryz.prog 49 #[.string s] w fun e w'=>e=.returned (.bool (isName s))∧Ext w w':=by
 have hmx:s.size≤9223372036854775807:=by unfold maxLen at hs;omega
 rw [isName_run]
 obtain ⟨r,hr⟩:∃ r,r=(nameRun s && decide (s.size≤30) && !(words.any (fun t=>decide (t=s)))):=⟨_,rfl⟩
 rw [← hr]
 have HR:=J hr
 clear hr
 go_enter Tryz.func49,Tryz.ntmps49
 go_wp2_with fail
 refine (rrun_any s hs _).mono ?_
 rintro e w1 ⟨rfl,rfl⟩
 cases hn:nameRun s
 ·have HF:=J (show r=false by rw [HR.out,hn];rfl)
  go_wp2_with fail
  go_ret
  exact ⟨ret_bool HF.out.symm,kR _ _⟩
 ·by_cases hz:s.size≤30
  ·have hzI:(s.size:Int)≤30:=by omega
   have HF:=J (show r=!(words.any (fun t=>decide (t=s))) by rw [HR.out,hn,decide_eq_true hz];rfl)
   go_wp2_with fail
   refine (rwords_any _).mono ?_
   rintro e w1 ⟨hx1,A,c,rfl,hS⟩
   have HS:=J hS
   clear hS
   go_wp2_with fail
   refine (has_any words s _ _ _ _ _ HS.out).mono ?_
   rintro e w2 ⟨rfl,rfl⟩
   go_wp2_with fail
   go_ret
   exact ⟨ret_bool (by rw [HF.out]),hx1⟩
  ·have hzI:¬ (s.size:Int)≤30:=by omega
   have HF:=J (show r=false by rw [HR.out,decide_eq_false hz];simp)
   go_wp2_with fail
   go_ret
   exact ⟨ret_bool HF.out.symm,kR _ _⟩
open Go.RowKit So
structure LaidAt (w:World):Prop where
 sp : Lib.TabIs Tryz.prog w "strings.asciiSpace" .u8 Lib.asciiSpaceTab
 sm:∀ k,k < 10→w.cell? ⟨2,k,none⟩=some (.int .i64 (stmtParts (k:Nat)))
 ex:∀ k,k < 18→w.cell? ⟨4,k,none⟩=some (.int .i64 (exprParts (k:Nat)))
 lt:4 < w.heap.size
theorem LaidAt.kept {S:Nat→Prop} {w w':World} (h:LaidAt w) (hk:Kept S w w') (hs:∀ i,i≤4→¬ S i):LaidAt w':=by
 have h4:=h.lt
 refine ⟨?_,fun k hk'=>(Kept.cell hk (p:=⟨2,k,none⟩) (by show 2 < _;omega) (hs 2 zb85)).trans (h.sm k hk'),fun k hk'=>(Kept.cell hk (p:=⟨4,k,none⟩) (by show 4 < _;omega) (hs 4 zb85)).trans (h.ex k hk'),Nat.lt_of_lt_of_le h.lt hk.size⟩
 have hsp:=h.sp
 unfold Lib.TabIs World.var? at hsp ⊢
 rw [show Tryz.prog.globalNamed "strings.asciiSpace" = some 1 by kernel_rfl] at hsp ⊢
 rw [← hsp]
 simp [hk.block 1 zb85 (hs 1 zb85)]
theorem LaidAt.ext {w w':World} (h:LaidAt w) (hk:Ext w w'):LaidAt w':=h.kept hk (fun _ _ f=>f)
def setF (l:List Str):ByteArray→Option Value:=fun t=>if l.any (fun u=>decide (u=t))=true then some (.bool true) else none
theorem setF_snoc (l:List Str) (x:Str):∀ t,(fun t=>if t=x then some (Value.bool true) else setF l t) t=setF (l ++ [x]) t:=by
 intro t
 unfold setF
 exact zz78
theorem run_mkmap (n:Int) (w:World):(Instr.makeMap 188 (some (.int .i64 n))).run Tryz.prog w=.ok (.map (some w.heap.size)) (w.alloc (.map #[] 0)):=by
 simp [Instr.makeMap,run_underlying Tryz.underlying188,go_sem]
 try rfl
attribute [go_sem] run_mkmap
set_option maxRecDepth 100000 in
theorem set_any (l:List Str) (A:Option Addr) (n c N:Nat) (w:World) (hN:N≤w.heap.size) (h:StrSl w N A n l):Calls Tryz.prog 156 #[.slice A n c] w fun e w'=>Ext w w'∧∃ g,e=.returned (.map (some g))∧w.heap.size≤g∧SMap w' g (setF l):=by
 obtain ⟨hn,hm,b,off,hA,hE⟩:=h
 have HN:=J hn
 have HA:=J hA
 have HE:=J hE
 have hM:=SMap.made w
 have hx0:=(kR (fun _=>False) w).alloc (.map #[] 0)
 clear hn hA hE
 go_enter Tryz.func156,Tryz.ntmps156
 go_upto_region 3 with (fail)
 generalize hW:w.alloc (.map #[] 0)=W at hM hx0 ⊢
 clear hW
 have HX0:=J hx0
 have HG:=J (show w.heap.size≤w.heap.size from Nat.le_refl _)
 have HM:=J hM
 generalize hge:(w.heap.size:Nat)=g at hM HM HG ⊢
 have HGE:=J hge
 clear hM hx0 hge
 go_loopw [11] (fun t11 wr=>∃ (j:Nat),j≤n∧t11=.int .i64 j∧SMap wr g (setF (l.take j))∧Kept (·=g) W wr) (fun t11 _=>n - (intOf t11).toNat)
 case atStart=>exact ⟨0,Nat.zero_le _,rfl,HM.out.cong (fun t=>by simp [setF]),kR _ _⟩
 case round =>
  obtain ⟨j,hj,rfl,hS,hx⟩:=hrel
  have HS:=J hS
  have HX:=J hx
  clear hS hx
  by_cases hlt:j < n
  ·have hjl:j < l.length:=by have:=HN.out;omega
   have hltI:(j:Int) < n:=by omega
   obtain rfl:=HA.out zb85
   have hbg:b < w.heap.size:=by have:=(HE.out zb85).1;omega
   have hrow:=((HE.out zb85).2.ext HX0.out).kept HX.out (by have:=HGE.out;omega)
   have hc:=str_at hrow j hjl
   have hbw:=hrow.lt
   obtain ⟨x,hxe⟩:∃ x,x=l[j]:=⟨_,rfl⟩
   rw [← hxe] at hc
   have HXE:=J hxe
   clear hrow hxe
   obtain ⟨w',hrun,hS',hk'⟩:=SMap.put (P:=Tryz.prog) HS.out Tryz.underlying188 Tryz.underlying9 x (.bool true)
   have HS':=J hS'
   have HK':=J hk'
   clear hS' hk'
   go_wp2_with fail
   go_roundw
   case rel=>exact ⟨j+1,hlt,by go_num,HS'.out.cong (fun t=>by rw [List.take_add_one,List.getElem?_eq_getElem hjl,← HXE.out];exact setF_snoc (l.take j) x t),HX.out.trans HK'.out⟩
   case measure=>simp only [intOf];omega
  ·obtain rfl:j=n:=by omega
   go_wp2_with fail
   go_ret
   have hS:=HS.out
   rw [HN.out,List.take_length] at hS
   exact ⟨HX0.out.trans' HX.out (fun i hi e=>by have:=HGE.out;omega),g,rfl,by have:=HGE.out;omega,hS⟩
def marks:List Str:=[⟨#[91]⟩,⟨#[93]⟩,⟨#[40]⟩,⟨#[41]⟩,⟨#[61]⟩,⟨#[33,61]⟩,⟨#[60]⟩,⟨#[60,61]⟩,⟨#[62]⟩,⟨#[62,61]⟩,⟨#[43]⟩,⟨#[45]⟩,⟨#[42]⟩,⟨#[47]⟩,⟨#[37]⟩,⟨#[44]⟩]
theorem fields_sl (s:ByteArray) (l:List Str) (n:Nat) (w:World) (h0:s.size < 4294967281) (ha:s.data.toList.all (fun b=>decide (b.toNat < 128))=true) (hL:LaidAt w) (hf:(Lib.fields s.data.toList).map (fun x=>(⟨x.toArray⟩:Str))=l) (hn:l.length=n) (h100:n≤100) :
 Calls Tryz.prog 173 #[.string s] w fun e w'=>Ext w w'∧∃ A c,e=.returned (.slice A n c)∧StrSl w' w'.heap.size A n l:=by
 refine (Go.Proofs.Tryz.strings_Fields s w h0 (fun j b hb=>of_decide_eq_true (List.all_eq_true.1 ha b (List.mem_of_getElem? hb))) hL.sp).mono ?_
 rintro e w' ⟨rfl,rfl⟩
 have hlen:(Lib.fields s.data.toList).length=n:=by rw [← hn,← hf,List.length_map]
 rw [hlen]
 refine ⟨(kR _ w).alloc _,_,_,rfl,hn.symm,h100,w.heap.size,0,fun _=>rfl,fun _=>⟨by simp,?_⟩⟩
 have hb:=Row.of_blk (bN w 9 ((Lib.fields s.data.toList).map fun l=>Value.string ⟨l.toArray⟩).toArray)
 rw [← hf,List.map_map]
 exact hb
set_option maxRecDepth 100000 in
theorem swords_any (w:World) (hL:LaidAt w):Calls Tryz.prog 157 #[] w fun e w'=>Ext w w'∧∃ A c,e=.returned (.slice A 23 c)∧StrSl w' w'.heap.size A 23 words:=by
 go_enter Tryz.func157,Tryz.ntmps157
 go_wp2_with fail
 refine (fields_sl _ words 23 _ zb84 zb84 hL zb84 rfl zb85).mono ?_
 rintro e w1 ⟨hx,A,c,rfl,hS⟩
 go_wp2_with fail
 go_ret
 exact ⟨hx,A,c,rfl,hS⟩
set_option maxRecDepth 100000 in
theorem smarks_any (w:World) (hL:LaidAt w):Calls Tryz.prog 158 #[] w fun e w'=>Ext w w'∧∃ A c,e=.returned (.slice A 16 c)∧StrSl w' w'.heap.size A 16 marks:=by
 go_enter Tryz.func158,Tryz.ntmps158
 go_wp2_with fail
 refine (fields_sl _ marks 16 _ zb84 zb84 hL zb84 rfl zb85).mono ?_
 rintro e w1 ⟨hx,A,c,rfl,hS⟩
 go_wp2_with fail
 go_ret
 exact ⟨hx,A,c,rfl,hS⟩
theorem aggScan:aggT Tryz.prog 190=true:=by kernel_rfl
theorem sizeScan:sizeT Tryz.prog 190=some 2:=by kernel_rfl
attribute [go_sem] aggScan sizeScan
set_option maxRecDepth 100000 in
theorem start_any (w:World) (hL:LaidAt w):Calls Tryz.prog 124 #[] w fun e w'=>Ext w w'∧∃ g m,e=.returned (.agg #[.map (some g),m])∧SMap w' g (setF words):=by
 go_enter Tryz.func124,Tryz.ntmps124
 go_wp2_with fail
 have hR:=bN w 190 #[.map none,.map none]
 have hx0:=(kR (fun _=>False) w).alloc (.cells #[.map none,.map none] 190)
 refine (swords_any _ (hL.ext hx0)).mono ?_
 rintro e w1 ⟨hx1,A,c,rfl,hS⟩
 have HS:=J hS
 clear hS
 go_wp2_with fail
 refine (set_any words _ _ _ _ _ (Nat.le_refl _) HS.out).mono ?_
 rintro e w2 ⟨hx2,g,rfl,hg,hM⟩
 have HM:=J hM
 clear hM
 go_wp2_with fail
 refine (smarks_any _ (hL.ext ((hx0.trans hx1).trans hx2))).mono ?_
 rintro e w3 ⟨hx3,A2,c2,rfl,hS2⟩
 have HS2:=J hS2
 clear hS2
 go_wp2_with fail
 refine (set_any marks _ _ _ _ _ (Nat.le_refl _) HS2.out).mono ?_
 rintro e w4 ⟨hx4,g2,rfl,hg2,hM2⟩
 have hD:=bX hR (((hx1.trans hx2).trans hx3).trans hx4)
 have hm:=hD.melts
 have hh:=bH hD
 go_wp2_with fail
 refine ret_cell Tryz.results124 rfl rfl aggScan (by exact sizeScan) (Blk.put_ hD _ _) ?_
 have hl:g < w2.heap.size:=HM.out.lt
 have hw:w.heap.size < g:=by have h1:=hx0.size;have h2:=hx1.size;have:(w.alloc (.cells #[.map none,.map none] 190)).heap.size=w.heap.size+1:=zb86;omega
 refine ⟨((((hx0.trans hx1).trans hx2).trans hx3).trans hx4).putAt _ _ _ (fun h=>absurd h zb85),g,.map (some g2),rfl,?_⟩
 exact ((HM.out.ext (hx3.trans hx4)).kept (Kept.putAt (S:=(·=w.heap.size)) (kR _ _) _ _ _ (fun _=>rfl)) zb85)
open Go.RowKit So
set_option maxRecDepth 100000 in
theorem srun_any (s:Str) (hs:s.size≤maxLen) (w:World):Calls Tryz.prog 160 #[.string s,.func (.func 161) #[] #[]] w fun e w'=>(∃ t:Str,e=.returned (.string t)∧(t=s ↔ s.data.toList.all inner=true))∧w=w':=by
 have hmx:s.size≤9223372036854775807:=by unfold maxLen at hs;omega
 go_enter Tryz.func160,Tryz.ntmps160
 go_wp2_with fail
 go_loopw [5] (fun t5 wr=>∃ (j:Nat),j≤s.size∧t5=.int .i64 j∧(∀ i (h:i < s.size),i < j→inner s[i]=true)∧w=wr) (fun t5 _=>s.size - (intOf t5).toNat)
 case atStart=>exact ⟨0,Nat.zero_le _,rfl,fun i _ h=>by omega,rfl⟩
 case round =>
  obtain ⟨j,hj,rfl,h1,hw⟩:=hrel
  subst hw
  have H1:=J h1
  clear h1
  by_cases hlt:j < s.size
  ·have hltI:(j:Int) < s.size:=by omega
   go_wp2_with fail
   refine (inner_any _ _).mono ?_
   rintro e w1 ⟨rfl,rfl⟩
   cases hl:innerI (s[j].toNat:Int)
   ·have HL:=J (show inner s[j]=false by rw [← innerI_of];exact hl)
    go_wp2_with fail
    go_ret
    refine ⟨⟨_,rfl,fun e=>?_,fun e=>?_⟩,rfl⟩
    ·have:=congrArg ByteArray.size e
     rw [ByteArray.size_extract] at this
     omega
    ·have:=List.all_eq_true.1 e s[j] (Array.mem_toList_iff.2 (Array.getElem_mem (xs:=s.data) hlt))
     rw [HL.out] at this
     cases this
   ·have HL:=J (show inner s[j]=true by rw [← innerI_of];exact hl)
    go_wp2_with fail
    go_roundw
    case rel=>exact ⟨j+1,hlt,by go_num,fun i hi h=>by
     by_cases e:i=j
     ·subst e;exact HL.out
     ·exact H1.out i hi zb85,by trivial⟩
    case measure=>simp only [intOf];omega
  ·obtain rfl:j=s.size:=by omega
   go_wp2_with fail
   go_ret
   refine ⟨⟨_,rfl,fun _=>?_,fun _=>rfl⟩,rfl⟩
   rw [List.all_eq_true]
   intro x hx
   obtain ⟨i,hi,rfl⟩:=List.getElem_of_mem hx
   exact H1.out i (by simpa using hi) (by simpa using hi)
theorem zero_bool (w:World):(zeroValue 4).run Tryz.prog w=.ok (.bool false) w:=by
 first | kernel_rfl | rfl
set_option maxRecDepth 100000 in
theorem sname_any (s:Str) (hs:s.size≤maxLen) (g:Nat) (m:Value) (w:World) (hM:SMap w g (setF words)):Calls Tryz.prog 125 #[.agg #[.map (some g),m],.string s] w fun e w'=>e=.returned (.bool (isName s))∧Ext w w':=by
 have hmx:s.size≤9223372036854775807:=by unfold maxLen at hs;omega
 obtain ⟨r,hr⟩:∃ r,r=isName s:=⟨_,rfl⟩
 rw [← hr]
 have hr2:r=(decide (0 < s.size) && letter (s.data.getD 0 0) && s.data.toList.all inner && decide (s.size≤30) && !(words.any (fun t=>decide (t=s)))):=hr
 have HR:=J hr2
 clear hr hr2
 have hx0:=(kR (fun _=>False) w).alloc (.cells #[.map (some g),m] 190)
 have hMx:=hM.ext hx0
 have hlk:=SMap.look (P:=Tryz.prog) hMx Tryz.underlying188 Tryz.underlying9 (z:=.bool false) zero_bool s
 clear hM hMx
 by_cases h0:0 < s.size
 ·have hE:(ByteArray.toList s).isEmpty=false:=by have:=ne_empty s;rw [decide_eq_true h0] at this;simpa using this
  have h0I:(0:Int) < s.size:=by omega
  have HG0:=J (show s.data.getD 0 0=s[0] from str_get0 h0)
  go_enter Tryz.func125,Tryz.ntmps125
  go_wp2_with fail
  refine (sletter_any _ _).mono ?_
  rintro e w1 ⟨rfl,rfl⟩
  cases hl:letterI (s[0].toNat:Int)
  ·have HF:=J (show r=false by rw [HR.out,HG0.out,← letterI_of,hl];simp)
   go_wp2_with fail
   go_ret
   exact ⟨ret_bool HF.out.symm,hx0⟩
  ·have HL:=J (show letter (s.data.getD 0 0)=true by rw [HG0.out,← letterI_of,hl])
   go_wp2_with fail
   refine (srun_any s hs _).mono ?_
   rintro e w1 ⟨⟨t,rfl,ht⟩,rfl⟩
   have HT:=J ht
   clear ht
   by_cases hts:t=s
   ·have hb:=str_same hts
    have HA:=J (HT.out.1 hts)
    clear hts
    by_cases hz:s.size≤30
    ·have hzI:(s.size:Int)≤30:=by omega
     have HF:=J (show r=!(words.any (fun t=>decide (t=s))) by rw [HR.out,decide_eq_true h0,HL.out,HA.out,decide_eq_true hz];rfl)
     cases hw:words.any (fun t=>decide (t=s))
     ·have hq:setF words s=none:=by unfold setF;rw [hw];rfl
      rw [hq] at hlk
      go_wp2_with fail
      go_ret
      exact ⟨ret_bool (by rw [HF.out,hw];rfl),hx0⟩
     ·have hq:setF words s=some (.bool true):=by unfold setF;rw [hw];rfl
      rw [hq] at hlk
      go_wp2_with fail
      go_ret
      exact ⟨ret_bool (by rw [HF.out,hw];rfl),hx0⟩
    ·have hzI:¬ (s.size:Int)≤30:=by omega
     have HF:=J (show r=false by rw [HR.out,decide_eq_false hz];simp)
     go_wp2_with fail
     go_ret
     exact ⟨ret_bool HF.out.symm,hx0⟩
   ·have hb:=str_other hts
    have HA:=J (show s.data.toList.all inner=false by
     cases h:s.data.toList.all inner
     ·rfl
     ·exact absurd (HT.out.2 h) hts)
    clear hts
    have HF:=J (show r=false by rw [HR.out,HA.out];simp)
    go_wp2_with fail
    go_ret
    exact ⟨ret_bool HF.out.symm,hx0⟩
 ·have hE:(ByteArray.toList s).isEmpty=true:=by have:=ne_empty s;rw [decide_eq_false h0] at this;simpa using this
  have HF:=J (show r=false by rw [HR.out,decide_eq_false h0];rfl)
  go_enter Tryz.func125,Tryz.ntmps125
  go_wp2_with fail
  go_ret
  exact ⟨ret_bool HF.out.symm,hx0⟩
theorem sisname_any (s:Str) (hs:s.size≤maxLen) (w:World) (hL:LaidAt w):Calls Tryz.prog 76 #[.string s] w fun e w'=>e=.returned (.bool (isName s))∧Ext w w':=by
 go_enter Tryz.func76,Tryz.ntmps76
 go_wp2_with fail
 refine (start_any _ hL).mono ?_
 rintro e w1 ⟨hx1,g,m,rfl,hM⟩
 have HM:=J hM
 clear hM
 go_wp2_with fail
 refine (sname_any s hs g m _ HM.out).mono ?_
 rintro e w2 ⟨rfl,hx2⟩
 go_wp2_with fail
 go_ret
 exact ⟨rfl,hx1.trans hx2⟩
open Go.RowKit So
def thr (f:Flt):List PanicEntry:=[{ v:=.iface 104 (.agg #[.int .i64 f.e,.string f.name]),recovered:=false }]
def MustR:Option Flt→Ending→Prop
 | none,e=>e=.returned (.tuple #[])
 | some f,e=>e=.panicked (thr f)
theorem must_any (ok:Bool) (er:Int) (s:Str) (w:World):Calls Tryz.prog 75 #[.bool ok,.int .i64 er,.string s] w fun e w'=>MustR (must ok er s) e∧w=w':=by
 cases ok
 ·go_enter Tryz.func75,Tryz.ntmps75
  go_wp2_with fail
  exact ⟨rfl,rfl,rfl⟩
 ·go_enter Tryz.func75,Tryz.ntmps75
  go_wp2_with fail
  go_end0
  exact ⟨rfl,rfl⟩
def knF (κ:Kn):ByteArray→Option Value:=fun s=>if κ s=0 then none else some (.int .i64 ((κ s:Int) - 1))
structure Ck (w:World) (cb g:Nat) (κ:Kn) (part:Str) (fors:Nat):Prop where
 blk:Blk w cb 145 #[.map (some g),.string part,.int .i64 fors]
 map:SMap w g (knF κ)
theorem Ck.ext {w w':World} {cb g:Nat} {κ:Kn} {part:Str} {fors:Nat} (h:Ck w cb g κ part fors) (hk:Ext w w'):Ck w' cb g κ part fors:=⟨bX h.blk hk,h.map.ext hk⟩
theorem zero_sort (w:World):(zeroValue 187).run Tryz.prog w=.ok (.int .i64 0) w:=by
 first | kernel_rfl | rfl
theorem knows_any (cb g:Nat) (κ:Kn) (part:Str) (fors:Nat) (s:Str) (w:World) (h:Ck w cb g κ part fors):Calls Tryz.prog 77 #[.pointer (some ⟨cb,0,none⟩),.string s] w fun e w'=>e=.returned (.bool (κ s != 0))∧w=w':=by
 have hlk:=SMap.look_ok (P:=Tryz.prog) h.map Tryz.underlying143 Tryz.underlying9 (z:=.int .i64 0) zero_sort s
 have hc:=bC h.blk
 have hl:=h.blk.lt
 obtain ⟨r,hr⟩:∃ r,r=(κ s != 0):=⟨_,rfl⟩
 rw [← hr]
 have HR:=J hr
 clear hr
 by_cases hz:κ s=0
 ·have hq:knF κ s=none:=by unfold knF;rw [if_pos hz]
  have HF:=J (show r=false by rw [HR.out,hz];rfl)
  rw [hq] at hlk
  clear hz hq
  go_enter Tryz.func77,Tryz.ntmps77
  go_wp2_with fail
  go_ret
  exact ⟨ret_bool HF.out.symm,rfl⟩
 ·have hq:knF κ s=some (.int .i64 ((κ s:Int) - 1)):=by unfold knF;rw [if_neg hz]
  have HF:=J (show r=true by rw [HR.out];simpa using hz)
  rw [hq] at hlk
  generalize (κ s:Int) - 1=x at hlk
  clear hz hq
  go_enter Tryz.func77,Tryz.ntmps77
  go_wp2_with fail
  go_ret
  exact ⟨ret_bool HF.out.symm,rfl⟩
end Go.Proofs.YtbfbabbcdochjaaGreatDoor
