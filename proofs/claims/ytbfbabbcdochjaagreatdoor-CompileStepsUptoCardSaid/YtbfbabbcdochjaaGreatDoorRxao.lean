/- Several texts joined: Qzo, Kz, Ka, Kb, Kc, Kd. -/
import Derived.Test.YtbfbabbcdochjaaGreatDoorRxpk
import Derived.Test.YtbfbabbcdochjaaGreatDoorRxan
set_option maxHeartbeats 4000000
namespace Go.Proofs.YtbfbabbcdochjaaGreatDoor
open Go.RowKit So
theorem ESl.nil (w:World) (N:Nat) (A:Option Addr):ESl w N A 0 .nil:=⟨rfl,by unfold Fits;omega,0,0,fun h=>absurd h zb85,trivial⟩
theorem SSl.nil (w:World) (N:Nat) (A:Option Addr):SSl w N A 0 .nil:=⟨rfl,by unfold Fits;omega,0,0,fun h=>absurd h zb85,trivial⟩
theorem VSl.nil (w:World) (N:Nat) (A:Option Addr):VSl w N A 0 []:=⟨rfl,by unfold Fits;omega,fun v hv=>absurd hv zb86,0,0,fun h=>absurd h zb85,fun h=>absurd h zb85⟩
theorem ef_one {w:World} {N b:Nat} {t:TypeId} {op n:Int} {name:Str} {A:Option Addr} {cap:Nat} {k:EF} (hB:Blk w b t (ecells op n name A k.len cap)) (hb:b < N) (h1:i64ok op) (h2:i64ok n) (h3:name.size≤maxLen) (hk:ESl w N A k.len k):ESl w N (some ⟨b,0,none⟩) 1 (.cons op n name k .nil):=by
 obtain ⟨-,hf,b',off',hA,hE⟩:=hk
 refine ⟨rfl,by unfold Fits;omega,b,0,fun _=>rfl,hb,h1,h2,h3,⟨A,cap,b',off',?_,?_,hf,hA,hE⟩,trivial⟩
 ·rw [bH hB];simp
 ·rw [bG hB];rfl
theorem sf_one {w:World} {N b:Nat} {t:TypeId} {kind:Int} {name:Str} {e:EF} {low high:Int} {l x:SF} {eA:Option Addr} {ec:Nat} {lA:Option Addr} {lc:Nat} {xA:Option Addr} {xc:Nat} (hB:Blk w b t (scells kind name eA e.len ec low high lA l.len lc xA x.len xc)) (hb:b < N)
 (h1:i64ok kind) (h2:i64ok low) (h3:i64ok high) (h4:name.size≤maxLen) (he:ESl w N eA e.len e) (hl:SSl w N lA l.len l) (hx:SSl w N xA x.len x):SSl w N (some ⟨b,0,none⟩) 1 (.cons kind name e low high l x .nil):=by
 obtain ⟨-,f1,be,oe,a1,e1⟩:=he
 obtain ⟨-,f2,bl,ol,a2,e2⟩:=hl
 obtain ⟨-,f3,bx,ox,a3,e3⟩:=hx
 refine ⟨rfl,by unfold Fits;omega,b,0,fun _=>rfl,hb,h1,h2,h3,h4,⟨eA,ec,lA,lc,xA,xc,be,oe,bl,ol,bx,ox,?_,?_,f1,f2,f3,a1,a2,a3,e1,e2,e3⟩,trivial⟩
 ·rw [bH hB];simp
 ·rw [bG hB];rfl
def sG:Str:=⟨#[103]⟩
def sA:Str:=⟨#[97]⟩
def sL:Str:=⟨#[108]⟩
def sW:Str:=⟨#[119]⟩
def e0F:EF:=.cons 0 0 E0 .nil .nil
def smallT:SF:=.cons 7 E0 .nil 0 0 .nil .nil .nil
def fewB (p:Pr):Bool:=decide (w64 (psize p)≤1200) && decide ((p.stakes.length:Int)≤20)
abbrev smallC (n:Nat):Pc:=⟨sG,2,⟨some ⟨n+1+1,0,none⟩,2,2⟩,⟨some ⟨n+1+1+1,0,none⟩,2,2⟩,⟨none,0,0⟩,⟨some ⟨n+1+1+1+1,0,none⟩,1,1⟩,⟨none,0,0⟩,⟨none,0,0⟩,sW,⟨none,0,0⟩,⟨some ⟨n+1+1+1+1+1+1,0,none⟩,1,1⟩⟩
theorem ok64 {n:Int} (h:-10≤n∧n≤10):i64ok n:=by unfold i64ok;omega
theorem name_ok (s:Str) (h:s.size≤10):s.size≤maxLen:=by unfold maxLen;omega
open Go.RowKit
structure Ins where (op a b c:Int)
abbrev Ins.cells (i:Ins):Array Value:=#[.int .i64 i.op,.int .i64 i.a,.int .i64 i.b,.int .i64 i.c]
attribute [go_sem] Ins.cells
theorem aggWins:aggT Tryz.prog 77=true:=by kernel_rfl
theorem sizeWins:sizeT Tryz.prog 77=some 4:=by kernel_rfl
theorem wpLoadWins {dst:Option Tmp} {ty':TypeId} {x:Operand} {pos:String} {after:Array Edge} {guard:Option (Nat × Bool)} {a:Act} {w:World} {K:Act→World→Prop} {Q:Exit→Act→World→Prop} (hx:isAt (a.eval x)=true) (hh:has w (blkOf (a.eval x)) (offOf (a.eval x)) 4=true) :
 Oper.wp Tryz.prog { dst:=dst,op:=.load 77 x,type:=ty',pos:=pos,after:=after,guard:=guard } a w K Q=K (a.put dst (.agg (gets w (blkOf (a.eval x)) (offOf (a.eval x)) 4))) w:=wp_load_big 4 aggWins sizeWins hx hh
theorem runLoadWins {ρ:Operand→Value} {dst:Option Tmp} {ty':TypeId} {x:Operand} {pos:String} {after:Array Edge} {guard:Option (Nat × Bool)} {w:World} (hx:isAt (ρ x)=true) (hh:has w (blkOf (ρ x)) (offOf (ρ x)) 4=true) :
 (execOp ρ { dst:=dst,op:=.load 77 x,type:=ty',pos:=pos,after:=after,guard:=guard }).run Tryz.prog w=.ok (.value (.agg (gets w (blkOf (ρ x)) (offOf (ρ x)) 4))) w:=run_exec_load_big 4 aggWins sizeWins hx hh
attribute [go_sem] aggWins sizeWins
attribute [go_sem ↓ high] wpLoadWins runLoadWins
attribute [go_sem high] wpLoadWins
theorem aggMst:aggT Tryz.prog 49=true:=by kernel_rfl
theorem sizeMst:sizeT Tryz.prog 49=some 3:=by kernel_rfl
theorem wpLoadMst {dst:Option Tmp} {ty':TypeId} {x:Operand} {pos:String} {after:Array Edge} {guard:Option (Nat × Bool)} {a:Act} {w:World} {K:Act→World→Prop} {Q:Exit→Act→World→Prop} (hx:isAt (a.eval x)=true) (hh:has w (blkOf (a.eval x)) (offOf (a.eval x)) 3=true) :
 Oper.wp Tryz.prog { dst:=dst,op:=.load 49 x,type:=ty',pos:=pos,after:=after,guard:=guard } a w K Q=K (a.put dst (.agg (gets w (blkOf (a.eval x)) (offOf (a.eval x)) 3))) w:=wp_load_big 3 aggMst sizeMst hx hh
theorem runLoadMst {ρ:Operand→Value} {dst:Option Tmp} {ty':TypeId} {x:Operand} {pos:String} {after:Array Edge} {guard:Option (Nat × Bool)} {w:World} (hx:isAt (ρ x)=true) (hh:has w (blkOf (ρ x)) (offOf (ρ x)) 3=true) :
 (execOp ρ { dst:=dst,op:=.load 49 x,type:=ty',pos:=pos,after:=after,guard:=guard }).run Tryz.prog w=.ok (.value (.agg (gets w (blkOf (ρ x)) (offOf (ρ x)) 3))) w:=run_exec_load_big 3 aggMst sizeMst hx hh
attribute [go_sem] aggMst sizeMst
attribute [go_sem ↓ high] wpLoadMst runLoadMst
attribute [go_sem high] wpLoadMst
structure Ins.ok (i:Ins):Prop where
 op:i64ok i.op
 a:i64ok i.a
 b:i64ok i.b
 c:i64ok i.c
def inss (l:List Ins):List Value:=l.flatMap fun d=>d.cells.toList
theorem inss_length (l:List Ins):(inss l).length=l.length * 4:=by
 induction l with
 | nil=>rfl
 | cons d l ih=>simp only [inss,List.flatMap_cons,List.length_append] at ih ⊢;rw [ih];simp;omega
theorem inss_at:∀ (l:List Ins) (k:Nat) (hk:k < l.length),((inss l).drop (k * 4)).take 4=(l[k]).cells.toList
 | d :: l,0,_=>by simp [inss]
 | d :: l,k+1,hk=>by
  have ih:=inss_at l k (by simpa using hk)
  have e:(inss (d :: l)).drop ((k+1) * 4)=(inss l).drop (k * 4):=by
   rw [show (k+1) * 4=4+k * 4 by omega,← List.drop_drop]
   rfl
  rw [e,ih]
  simp
theorem Row.ins {w:World} {b off:Nat} {l:List Ins} (h:Row w b off (inss l)) (k:Nat) (hk:k < l.length):Proofs.YtbfbabbcdochjaaGreatDoor.has w b (off+k * 4) 4=true∧gets w b (off+k * 4) 4=(l[k]).cells:=by
 have:=h.sub (k * 4) 4 (by rw [inss_length];omega)
 rw [inss_at l k hk] at this
 simpa using this
def mems (l:List Int):List Value:=l.map fun x=>.int .i32 x
theorem Row.mem {w:World} {b off:Nat} {l:List Int} (h:Row w b off (mems l)) (k:Nat) (hk:k < l.length):w.cell? ⟨b,off+k,none⟩=some (.int .i32 l[k]):=by
 rw [h.cell k (by simpa [mems] using hk)]
 simp [mems,hk]
def rightS (pc halt n:Int):Bool:=decide (1≤n) && decide (n≤256) && decide (0≤pc) && decide (pc≤2048) && decide (0≤halt) && decide (halt≤2)
abbrev stCells (pc:Int) (A:Option Addr) (n cap:Nat) (halt:Int):Array Value:=#[.int .i64 pc,.slice A n cap,.int .i64 halt]
attribute [go_sem] stCells
theorem rightS_inv {pc halt:Int} {n:Nat} (h:rightS pc halt n=true):1≤n∧n≤256∧0≤pc∧pc≤2048∧0≤halt∧halt≤2:=by
 simp [rightS] at h
 omega
theorem Blk.row {w:World} {g:Nat} {E:TypeId} {l:List Value} (h:Blk w g E l.toArray):Row w g 0 l:=by simpa using Row.of_blk h
def Ins.at (i:Ins):Nat→Int | 0=>i.op | 1=>i.a | 2=>i.b | _=>i.c
def i32ok (n:Int):Prop:=-2147483648≤n∧n≤2147483647
end Go.Proofs.YtbfbabbcdochjaaGreatDoor
namespace Go.Proofs.YtbfbabbcdochjaaGreatDoor.Mc
open Go.RowKit
def hasN (k:Nat):List UInt8:=match k with
 | 0=>[110] | 1=>[119,110] | 2=>[119,119] | 14=>[119,119] | 17=>[119,110,110] | 18=>[119,119,110] | 19=>[112] | 20=>[112,119] | 21=>[112,119] | _=>[119,119,119]
def hasS (k:Nat):ByteArray:=⟨(hasN k).toArray⟩
structure OpsAt (w:World):Prop where
 lt:0 < w.heap.size
 at_:∀ k,k < 22→w.cell? ⟨0,k * 2+1,none⟩=some (.string (hasS k))
theorem OpsAt.ext {w w':World} (h:OpsAt w) (hx:Ext w w'):OpsAt w' :=
 ⟨Nat.lt_of_lt_of_le h.lt hx.size,fun k hk=>(Kept.cell hx (p:=⟨0,k * 2+1,none⟩) h.lt (fun f=>f)).trans (h.at_ k hk)⟩
theorem OpsAt.kept {S:Nat→Prop} {w w':World} (h:OpsAt w) (hx:Kept S w w') (hs:¬ S 0):OpsAt w' :=
 ⟨Nat.lt_of_lt_of_le h.lt hx.size,fun k hk=>(Kept.cell hx (p:=⟨0,k * 2+1,none⟩) h.lt hs).trans (h.at_ k hk)⟩
def isOp (op:Int):Bool:=decide (0≤op) && decide (op < 22)
theorem is_any (op:Int) (w:World):Calls Tryz.prog 114 #[.int .i64 op] w fun e w'=>e=.returned (.bool (isOp op))∧w=w':=by
 go_enter Tryz.func114,Tryz.ntmps114
 go_wp2_with fail
 all_goals go_ret
 all_goals refine ⟨ret_bool ?_,rfl⟩
 all_goals (rw [Bool.eq_iff_iff];simp [isOp];omega)
def i32B (n:Int):Bool:=decide (-2147483648≤n) && decide (n≤2147483647)
theorem cright_any (n:Int) (w:World):Calls Tryz.prog 117 #[.int .i64 n] w fun e w'=>e=.returned (.bool (i32B n))∧w=w':=by
 go_enter Tryz.func117,Tryz.ntmps117
 go_wp2_with fail
 all_goals go_ret
 all_goals refine ⟨ret_bool ?_,rfl⟩
 all_goals (rw [Bool.eq_iff_iff];simp [i32B];omega)
theorem aggArr3:aggT Tryz.prog 180=true:=by kernel_rfl
theorem sizeArr3:sizeT Tryz.prog 180=some 3:=by kernel_rfl
attribute [go_sem] aggArr3 sizeArr3
theorem three_any (i:Ins) (w:World):Calls Tryz.prog 116 #[.agg i.cells] w fun e w'=>e=.returned (.agg #[.int .i64 i.a,.int .i64 i.b,.int .i64 i.c])∧Ext w w':=by
 go_enter Tryz.func116,Tryz.ntmps116
 go_wp2_with fail
 refine ret_cell Tryz.results116 rfl rfl aggArr3 (by exact sizeArr3) (Blk.new' _ _ _ _ zb86) ⟨rfl,?_⟩
 exact ((kR _ w).alloc _).alloc _
def hasI (i:Ins):ByteArray:=if isOp i.op=true then hasS i.op.toNat else ⟨#[]⟩
theorem has_any (i:Ins) (w:World) (hops:OpsAt w):Calls Tryz.prog 115 #[.agg i.cells] w fun e w'=>e=.returned (.string (hasI i))∧Ext w w':=by
 have hx0:Ext w _:=(kR _ w).alloc (.cells i.cells 77)
 have HOP:=J (hops.ext hx0)
 clear hops
 by_cases h:isOp i.op=true
 ·have hb:=h
  simp [isOp] at hb
  obtain ⟨op,a,b,c⟩:=i
  obtain ⟨k,rfl⟩:∃ k:Nat,op=k:=⟨op.toNat,by simp at hb;omega⟩
  simp at hb
  have hk:k < 22:=by omega
  have hkI:(k:Int) < 22:=by omega
  have hq:hasI ⟨k,a,b,c⟩=hasS k:=by simp only [hasI,if_pos h];rfl
  rw [hq]
  have HH:=J h
  have hcl:=HOP.out.at_ k hk
  clear h hq hb
  go_enter Tryz.func115,Tryz.ntmps115
  exact zz90
 ·have hf:isOp i.op=false:=by simpa using h
  have hq:hasI i=⟨#[]⟩:=by simp only [hasI,if_neg h]
  rw [hq]
  have HH:=J hf
  clear h hf hq
  go_enter Tryz.func115,Tryz.ntmps115
  exact zz90
open Go.RowKit
def okN (c:UInt8) (n size words:Int):Bool:=if c=119 then decide (0≤n) && decide (n < words) else if c=112 then decide (0≤n) && decide (n < size) else i32B n
def okP (h:List UInt8) (k:Nat) (n size words:Int):Bool:=match h[k]? with | some c=>okN c n size words | none=>n == 0
def nth3 (i:Ins):Nat→Int | 0=>i.a | 1=>i.b | _=>i.c
def rightE (i:Ins):Bool:=if i.op=0 then (i.a == 0 || i.a == 1) else if i.op=17 then decide (i.b≤i.c) else if i.op=18 then decide (0≤i.c) else true
def rightI (i:Ins) (size words:Int):Bool:=isOp i.op && (okP (hasN i.op.toNat) 0 (nth3 i 0) size words && okP (hasN i.op.toNat) 1 (nth3 i 1) size words && okP (hasN i.op.toNat) 2 (nth3 i 2) size words) && rightE i
theorem rightI_false {i:Ins} {size words:Int} {j:Nat} (hj:j < 3) (h:okP (hasN i.op.toNat) j (nth3 i j) size words=false):rightI i size words=false:=by
 unfold rightI
 rcases (by omega:j=0 ∨ j=1 ∨ j=2) with rfl | rfl | rfl <;> simp [h]
theorem rightI_true {i:Ins} {size words:Int} (ho:isOp i.op=true) (h:∀ j,j < 3→okP (hasN i.op.toNat) j (nth3 i j) size words=true):rightI i size words=rightE i:=by
 unfold rightI
 rw [ho,h 0 zb85,h 1 zb85,h 2 zb85]
 simp
theorem idx3 (i:Ins) (k:Nat) (hk:k < 3) (w:World):(Instr.index 180 (.agg #[.int .i64 i.a,.int .i64 i.b,.int .i64 i.c]) (.int .i64 k)).run Tryz.prog w=.ok (.int .i64 (nth3 i k)) w:=by
 rcases (by omega:k=0 ∨ k=1 ∨ k=2) with rfl | rfl | rfl <;> kernel_rfl
theorem hasN_len (k:Nat):(hasN k).length≤3:=by
 unfold hasN
 split <;> simp
set_option maxRecDepth 100000 in
theorem iright_any (i:Ins) (size words:Int) (w:World) (hops:OpsAt w):Calls Tryz.prog 67 #[.agg i.cells,.int .i64 size,.int .i64 words] w fun e w'=>e=.returned (.bool (rightI i size words))∧Ext w w':=by
 have hx0:Ext w _:=(kR _ w).alloc (.cells i.cells 77)
 have hI0:=bN w 77 i.cells
 have HOP:=J (hops.ext hx0)
 clear hops
 by_cases h:isOp i.op=true
 ·have HH:=J h
  clear h
  obtain ⟨R,hR⟩:∃ R,R=rightI i size words:=⟨_,rfl⟩
  rw [← hR]
  have HR:=J hR
  clear hR
  go_enter Tryz.func67,Tryz.ntmps67
  go_wp2_with fail
  refine (is_any _ _).mono ?_
  rintro e w1 ⟨rfl,rfl⟩
  rw [HH.out]
  go_wp2_with fail
  refine (has_any i _ HOP.out).mono ?_
  rintro e w2 ⟨e2,hx2⟩
  obtain ⟨h,hh⟩:∃ h,h=hasN i.op.toNat:=⟨_,rfl⟩
  replace e2:e=.returned (.string ⟨h.toArray⟩):=by rw [e2,hasI,if_pos HH.out,hh];rfl
  subst e2
  have hlen:h.length≤3:=by rw [hh];exact hasN_len _
  have HHN:=J hh
  clear hh
  have hI2:=bX hI0 hx2
  have hh2:=bH hI2
  have hg2:=bG hI2
  go_wp2_with fail
  refine (three_any i _).mono ?_
  rintro e w3 ⟨rfl,hx3⟩
  have y3:=(hx0.trans hx2).trans hx3
  have hI3:=bX hI2 hx3
  clear hI0 hI2 hh2 hg2 hx0 hx2 hx3
  go_wp2_with fail
  go_loop [19] (fun t19=>∃ (k:Nat),k≤3∧t19=.int .i64 k∧(∀ j,j < k→okP h j (nth3 i j) size words=true)) (fun t19=>3 - (intOf t19).toNat)
  case atStart=>exact ⟨0,by omega,rfl,fun j hj=>by omega⟩
  case round =>
   obtain ⟨k,hk,rfl,hprev⟩:=hrel
   have HP:=J hprev
   clear hprev
   by_cases hlt:k < 3
   ·have hix:=idx3 i k hlt
    obtain ⟨n,hn⟩:∃ n,n=nth3 i k:=⟨_,rfl⟩
    rw [← hn] at hix
    have HNn:=J hn
    clear hn
    have next:okP h k n size words=true→∀ j,j < k+1→okP h j (nth3 i j) size words=true:=fun hq j hj=>by
     by_cases e:j=k
     ·subst e;rw [← HNn.out];exact hq
     ·exact HP.out j zb85
    have stop:okP h k n size words=false→R=false:=fun hq=>by
     rw [HR.out];exact rightI_false hlt (by rw [← HHN.out,← HNn.out];exact hq)
    have NX:=J next
    have SP:=J stop
    clear next stop
    by_cases hkl:k < h.length
    ·have hklI:(k:Int) < h.length:=by omega
     obtain ⟨c,hc⟩:∃ c,c=h[k]:=⟨_,rfl⟩
     have hget:h[k]?=some c:=by rw [List.getElem?_eq_getElem hkl,hc]
     have hcN:((⟨h.toArray⟩:ByteArray)[k]'(show k < h.toArray.size by simpa using hkl)).toNat=c.toNat:=by rw [hc];rfl
     have HG:=J hget
     clear hget hc
     by_cases h1:c=119
     ·subst h1
      replace hcN:((⟨h.toArray⟩:ByteArray)[k]'(show k < h.toArray.size by simpa using hkl)).toNat=119:=hcN
      by_cases hn0:0≤n
      ·by_cases hn1:n < words
       ·have ok:okP h k n size words=true:=by simp [okP,okN,HG.out,hn0,hn1]
        have OK:=J ok
        clear ok
        go_wp2_with fail
        go_round
        case rel=>exact ⟨k+1,hlt,by go_num,NX.out OK.out⟩
        case measure=>simp only [intOf];omega
       ·have ok:okP h k n size words=false:=by simp [okP,okN,HG.out,hn1]
        exact zz95
      ·have ok:okP h k n size words=false:=by simp [okP,okN,HG.out,hn0]
       exact zz95
     ·by_cases h2:c=112
      ·subst h2
       replace hcN:((⟨h.toArray⟩:ByteArray)[k]'(show k < h.toArray.size by simpa using hkl)).toNat=112:=hcN
       by_cases hn0:0≤n
       ·by_cases hn1:n < size
        ·have ok:okP h k n size words=true:=by simp [okP,okN,HG.out,hn0,hn1]
         have OK:=J ok
         clear ok
         go_wp2_with fail
         go_round
         case rel=>exact ⟨k+1,hlt,by go_num,NX.out OK.out⟩
         case measure=>simp only [intOf];omega
        ·have ok:okP h k n size words=false:=by simp [okP,okN,HG.out,hn1]
         exact zz95
       ·have ok:okP h k n size words=false:=by simp [okP,okN,HG.out,hn0]
        exact zz95
      ·have ok:okP h k n size words=i32B n:=by simp [okP,okN,HG.out,h1,h2]
       have hc1:¬ c.toNat=119:=fun e=>h1 (UInt8.toNat_inj.1 e)
       have hc2:¬ c.toNat=112:=fun e=>h2 (UInt8.toNat_inj.1 e)
       generalize c.toNat=cn at hcN hc1 hc2
       have b1:(cn == 119)=false:=by simpa using hc1
       have b2:(cn == 112)=false:=by simpa using hc2
       have b1':((cn:Int) == 119)=false:=by simp;omega
       have b2':((cn:Int) == 112)=false:=by simp;omega
       have OK:=J ok
       clear ok hc1 hc2 h1 h2
       go_wp2_with fail
       refine (cright_any n _).mono ?_
       rintro e w4 ⟨rfl,rfl⟩
       cases hi:i32B n
       ·have HI:=J hi
        clear hi
        go_wp2_with fail
        go_ret
        exact ⟨ret_bool (SP.out (OK.out.trans HI.out)).symm,y3⟩
       ·have HI:=J hi
        clear hi
        go_wp2_with fail
        go_round
        case rel=>exact ⟨k+1,hlt,by go_num,NX.out (OK.out.trans HI.out)⟩
        case measure=>simp only [intOf];omega
    ·have hklI:¬ (k:Int) < h.length:=by omega
     have ok:okP h k n size words=(n == 0):=by simp [okP,List.getElem?_eq_none (show h.length≤k by omega)]
     have OK:=J ok
     clear ok
     cases hi:(n == 0)
     ·have HI:=J hi
      go_wp2_with fail
      go_ret
      exact ⟨ret_bool (SP.out (OK.out.trans HI.out)).symm,y3⟩
     ·have HI:=J hi
      go_wp2_with fail
      go_round
      case rel=>exact ⟨k+1,hlt,by go_num,NX.out (OK.out.trans HI.out)⟩
      case measure=>simp only [intOf];omega
   ·obtain rfl:k=3:=by omega
    have hR3:=rightI_true HH.out (by rw [← HHN.out];exact HP.out)
    rw [← HR.out] at hR3
    have HR3:=J hR3
    clear hR3
    have hc3:=bC hI3
    have e0:(i.op == 0)=true ∨ (i.op == 0)=false:=by cases (i.op == 0) <;> simp
    have e17:(i.op == 17)=true ∨ (i.op == 17)=false:=by cases (i.op == 17) <;> simp
    have e18:(i.op == 18)=true ∨ (i.op == 18)=false:=by cases (i.op == 18) <;> simp
    have E17:=J e17
    have E18:=J e18
    clear e17 e18
    rcases e0 with e0 | e0
    ·go_wp2_with fail
     all_goals go_ret
     all_goals refine ⟨ret_bool ?_,y3⟩
     all_goals (rw [HR3.out,rightE,if_pos (by simpa using e0)] <;> simp [*])
    ·rcases E17.out with e17 | e17
     ·go_wp2_with fail
      go_ret
      refine ⟨ret_bool ?_,y3⟩
      rw [HR3.out,rightE,if_neg (by simpa using e0),if_pos (by simpa using e17)]
     ·rcases E18.out with e18 | e18
      ·go_wp2_with fail
       go_ret
       refine ⟨ret_bool ?_,y3⟩
       rw [HR3.out,rightE,if_neg (by simpa using e0),if_neg (by simpa using e17),if_pos (by simpa using e18)]
      ·go_wp2_with fail
       go_ret
       refine ⟨ret_bool ?_,y3⟩
       rw [HR3.out,rightE,if_neg (by simpa using e0),if_neg (by simpa using e17),if_neg (by simpa using e18)]
 ·have hf:isOp i.op=false:=by simpa using h
  have hq:rightI i size words=false:=by simp [rightI,hf]
  rw [hq]
  have HH:=J hf
  clear h hf hq
  go_enter Tryz.func67,Tryz.ntmps67
  exact zz90
open Go.RowKit
abbrev StAt (w:World) (s:Nat) (t:TypeId) (pc:Int) (A:Option Addr) (n cap:Nat) (halt:Int):Prop:=Blk w s t (stCells pc A n cap halt)
def nextI (c:List Ins) (pc:Int) (k:Nat):Option Ins:=match c[pc.toNat]? with | some i=>if rightI i c.length k=true then some i else none | none=>none
abbrev insO (o:Option Ins):Ins:=o.getD ⟨0,0,0,0⟩
set_option maxRecDepth 100000 in
theorem next_past (s:Nat) (pc halt:Int) (M:Option Addr) (k kc:Nat) (A:Option Addr) (n cap:Nat) (w:World) (h2:n≤2048) (hp:(n:Int)≤pc) (hs:StAt w s 49 pc M k kc halt) :
 Calls Tryz.prog 112 #[.pointer (some ⟨s,0,none⟩),.slice A n cap] w fun e w'=>e=.returned (.tuple #[.agg (Ins.cells ⟨0,0,0,0⟩),.bool false])∧Ext w w':=by
 have hx0:Ext w _:=(kR _ w).alloc (.cells (Ins.cells ⟨0,0,0,0⟩) 77)
 have hR0:=bN w 77 (Ins.cells ⟨0,0,0,0⟩)
 have hS0:=Blk.alloc hs (.cells (Ins.cells ⟨0,0,0,0⟩) 77)
 have hls:=hs.lt
 have b1:decide ((2048:Int) < n)=false:=by simp;omega
 have b1':decide (2048 < n)=false:=by simp;omega
 have b2:decide ((n:Int)≤pc)=true:=by simpa using hp
 clear hs
 go_enter Tryz.func112,Tryz.ntmps112
 go_wp2_with fail
 generalize (w.alloc (.cells (Ins.cells ⟨0,0,0,0⟩) 77))=W at hx0 hR0 hS0 ⊢
 have hlS:=hS0.lt
 refine zy99 ?_
 (repeat first|refine qs3 ?_|refine qt3 (Kept.drew (kR _ _)) (by intro w1 hS;have d1:=bC (bX hS0 hS);exact zgo) ?_|refine qp3 (Kept.drew (kR _ _)) ?_)
 (refine w3_act (fun K hK=>?_);go_simp)
 refine hK.out _ _ (fun h=>h) ?_
 clear hK K
 refine qf3 ?_
 have hR1:Blk W.drew w.heap.size 77 (Ins.cells ⟨0,0,0,0⟩):=hR0
 have hh1:=bH hR1
 have hm1:=Blk.melts hR1
 go_wp2_with fail
 refine ret_ci Tryz.results112 rfl rfl aggWins (by exact sizeWins) (Blk.put_ hR1 _ _) ⟨rfl,?_⟩
 exact Kept.putAt (hx0.drew) _ _ _ (fun h=>by omega)
set_option maxRecDepth 100000 in
theorem next_in (s:Nat) (halt:Int) (M:Option Addr) (k kc:Nat) (b off:Nat) (c:List Ins) (n cap p:Nat) (w:World) (hn:n=c.length) (h2:n≤2048) (hp:p < n) (hops:OpsAt w) (hs:StAt w s 49 p M k kc halt) (hr:Row w b off (inss c)) :
 Calls Tryz.prog 112 #[.pointer (some ⟨s,0,none⟩),.slice (some ⟨b,off,none⟩) n cap] w fun e w'=>e=.returned (.tuple #[.agg (insO (nextI c p k)).cells,.bool (nextI c p k).isSome])∧Ext w w':=by
 have hpl:p < c.length:=by omega
 obtain ⟨i,hi⟩:∃ i,i=c[p]:=⟨_,rfl⟩
 have hnx:nextI c p k=if rightI i n k=true then some i else none:=by
  simp only [nextI,Int.toNat_natCast,List.getElem?_eq_getElem hpl,← hi,← hn]
 have hx0:Ext w _:=(kR _ w).alloc (.cells (Ins.cells ⟨0,0,0,0⟩) 77)
 have hR0:=bN w 77 (Ins.cells ⟨0,0,0,0⟩)
 have hS0:=Blk.alloc hs (.cells (Ins.cells ⟨0,0,0,0⟩) 77)
 have hC0:=hr.ext hx0
 have HOP:=J (hops.ext hx0)
 have hls:=hs.lt
 have b1:decide ((2048:Int) < n)=false:=by simp;omega
 have b1':decide (2048 < n)=false:=by simp;omega
 have b2:decide ((n:Int)≤p)=false:=by simp;omega
 have b2':decide (n≤p)=false:=by simp;omega
 have hpI:(p:Int) < n:=by omega
 have HX:=J hnx
 have HI:=J hi
 clear hs hr hops hnx
 obtain ⟨a1,a2⟩:=hC0.ins p hpl
 rw [← HI.out] at a2
 clear hi
 have HN:=J hn
 clear hn
 obtain ⟨R,hR⟩:∃ R,R=rightI i n k:=⟨_,rfl⟩
 have HR:=J hR
 clear hR
 go_enter Tryz.func112,Tryz.ntmps112
 go_wp2_with fail
 generalize (w.alloc (.cells (Ins.cells ⟨0,0,0,0⟩) 77))=W at hx0 hR0 hS0 hC0 HOP a1 a2 ⊢
 have hlS:=hS0.lt
 have hlC:=hC0.lt
 refine zy99 ?_
 (repeat first|refine qs3 ?_|refine qt3 (Kept.drew (kR _ _)) (by intro w1 hS;have d1:=bC (bX hS0 hS);have d2:=(hC0.ext hS).ins p hpl;rw [← HI.out] at d2;have d3:=d2.1;have d4:=d2.2;exact zgo) ?_|refine qp3 (Kept.drew (kR _ _)) ?_)
 (refine w3_act (fun K hK=>?_);go_simp)
 go_wp2_with fail
 refine (iright_any i n k _ (HOP.out.ext ((kR _ W).drew))).mono ?_
 rintro e w1 ⟨e1,hx1⟩
 replace e1:e=.returned (.bool R):=by rw [e1,HR.out]
 subst e1
 have y1:Ext W w1:=((kR _ W).drew).trans hx1
 refine hK.out _ _ (fun _=>y1) ?_
 clear hK K
 refine qf3 ?_
 have hR1:=bX hR0 y1
 have hh1:=bH hR1
 have hm1:=Blk.melts hR1
 have hS1:=bX hS0 y1
 have hc1:=bC hS1
 obtain ⟨q1,q2⟩:=(hC0.ext y1).ins p hpl
 rw [← HI.out] at q2
 cases hq:R
 ·have e:nextI c p k=none:=by rw [HX.out,← HR.out,hq];rfl
  exact zz74
 ·have e:nextI c p k=some i:=by rw [HX.out,← HR.out,hq];rfl
  exact zz74
theorem nextI_past (c:List Ins) (pc:Int) (k:Nat) (h:(c.length:Int)≤pc):nextI c pc k=none:=by
 unfold nextI
 rw [List.getElem?_eq_none zb85]
theorem next_any (s:Nat) (pc halt:Int) (M:Option Addr) (k kc:Nat) (A:Option Addr) (b off:Nat) (c:List Ins) (n cap:Nat) (w:World) (hn:n=c.length) (h2:n≤2048) (hp:0≤pc) (hA:0 < n→A=some ⟨b,off,none⟩) (hops:OpsAt w) (hs:StAt w s 49 pc M k kc halt) (hr:0 < n→Row w b off (inss c)) :
 Calls Tryz.prog 112 #[.pointer (some ⟨s,0,none⟩),.slice A n cap] w fun e w'=>e=.returned (.tuple #[.agg (insO (nextI c pc k)).cells,.bool (nextI c pc k).isSome])∧Ext w w':=by
 by_cases h:(n:Int)≤pc
 ·rw [nextI_past c pc k zb85]
  exact next_past s pc halt M k kc A n cap w h2 h hs
 ·obtain ⟨p,rfl⟩:∃ p:Nat,pc=p:=⟨pc.toNat,by omega⟩
  obtain rfl:=hA zb85
  exact next_in s halt M k kc b off c n cap p w hn h2 zb85 hops hs (hr zb85)
open Go.RowKit
def placeI (p:Int) (k:Nat):Int:=if 0≤p∧p < k then p else -1
def farI (i:Ins) (m:List Int):Int:=if i.op=15 then placeI (i.b+m.getD i.c.toNat 0) m.length else if i.op=16 then placeI (i.a+m.getD i.b.toNat 0) m.length else -1
theorem okP_w {h:List UInt8} {k:Nat} {n size words:Int} (hk:h[k]?=some 119) (h1:okP h k n size words=true):0≤n∧n < words:=by
 simpa [okP,hk,okN] using h1
theorem okP_p {h:List UInt8} {k:Nat} {n size words:Int} (hk:h[k]?=some 112) (h1:okP h k n size words=true):0≤n∧n < size:=by
 simpa [okP,hk,okN] using h1
theorem okP_n {h:List UInt8} {k:Nat} {n size words:Int} (hk:h[k]?=some 110) (h1:okP h k n size words=true):-2147483648≤n∧n≤2147483647:=by
 simpa [okP,hk,okN,i32B] using h1
theorem rightI_parts {i:Ins} {size words:Int} (h:rightI i size words=true):0≤i.op∧i.op < 22∧okP (hasN i.op.toNat) 0 i.a size words=true∧okP (hasN i.op.toNat) 1 i.b size words=true∧okP (hasN i.op.toNat) 2 i.c size words=true∧rightE i=true:=by
 simp only [rightI,Bool.and_eq_true] at h
 obtain ⟨⟨h1,⟨h2,h3⟩,h4⟩,h5⟩:=h
 simp [isOp] at h1
 exact ⟨h1.1,h1.2,h2,h3,h4,h5⟩
theorem far_no (i:Ins) (s:Nat) (pc halt:Int) (M:Option Addr) (k kc:Nat) (w:World) (hk:k≤256) (h15:(i.op == 15)=false) (h16:(i.op == 16)=false) (hs:StAt w s 49 pc M k kc halt) :
 Calls Tryz.prog 113 #[.pointer (some ⟨s,0,none⟩),.agg i.cells] w fun e w'=>e=.returned (.int .i64 (-1))∧Ext w w':=by
 have hx0:Ext w _:=(kR _ w).alloc (.cells i.cells 77)
 have hS0:=Blk.alloc hs (.cells i.cells 77)
 have hls:=hs.lt
 have hc:=bC hs
 have b1:decide ((k:Int)≤-1)=false:=by simp;omega
 go_enter Tryz.func113,Tryz.ntmps113
 go_wp2_with fail
 go_ret
 exact ⟨rfl,hx0⟩
theorem far_load (a b c:Nat) (s:Nat) (pc halt:Int) (g off k kc:Nat) (m:List Int) (w:World) (hkm:k=m.length) (hk:k≤256) (hb:b < k) (hc:c < k) (hm:∀ x ∈ m,i32ok x) (hs:StAt w s 49 pc (some ⟨g,off,none⟩) k kc halt) (hr:Row w g off (mems m)) :
 Calls Tryz.prog 113 #[.pointer (some ⟨s,0,none⟩),.agg (Ins.cells ⟨15,a,b,c⟩)] w fun e w'=>e=.returned (.int .i64 (placeI (b+m.getD c 0) k))∧Ext w w':=by
 have hcl:c < m.length:=by omega
 have hx0:Ext w _:=(kR _ w).alloc (.cells (Ins.cells ⟨15,a,b,c⟩) 77)
 have hS0:=Blk.alloc hs (.cells (Ins.cells ⟨15,a,b,c⟩) 77)
 have hI0:=bN w 77 (Ins.cells ⟨15,a,b,c⟩)
 have hM0:=hr.ext hx0
 have hls:=hs.lt
 obtain ⟨x,hx⟩:∃ x,x=m[c]:=⟨_,rfl⟩
 have hxr:i32ok x:=by rw [hx];exact hm _ (List.getElem_mem hcl)
 have hgd:m.getD c 0=x:=by simp [hcl,hx]
 rw [hgd]
 unfold i32ok at hxr
 obtain ⟨hx1,hx2⟩:=hxr
 obtain ⟨q,hq⟩:∃ q,q=(b:Int)+x:=⟨_,rfl⟩
 rw [← hq]
 have hw1:IntKind.i64.wrap ((b:Int)+x)=q:=by rw [IntKind.wrap_i64];omega
 have hw0:IntKind.i64.wrap x=x:=by rw [IntKind.wrap_i64];omega
 have hcI:(c:Int) < k:=by omega
 have HXX:=J hx
 have HQ:=J hq
 have HKM:=J hkm
 clear hs hr hx hgd hq hkm hm
 go_enter Tryz.func113,Tryz.ntmps113
 go_wp2_with fail
 generalize (w.alloc (.cells (Ins.cells ⟨15,a,b,c⟩) 77))=W at hx0 hS0 hI0 hM0 ⊢
 have l1:=hS0.lt
 have l2:=hI0.lt
 have l3:=hM0.lt
 refine qr3 (fun w1=>Ext W w1) [(0,2),(1,1),(2,2),(3,2),(4,2),(5,1),(6,2),(7,1),(8,2),(9,1),(10,1),(11,2),(12,2)] ?_;refine qrl ?_
 (repeat first|refine qs3 ?_|refine qt3 (Kept.drew (kR _ _)) (by intro w1 hS;have d1:=bC (bX hS0 hS);have d2:=bC (bX hI0 hS);have d3:=(hM0.ext hS).mem c hcl;rw [← HXX.out] at d3;exact zgo) ?_|refine qp3 (Kept.drew (kR _ _)) ?_)
 exact zz27
theorem far_store (a b c:Nat) (s:Nat) (pc halt:Int) (g off k kc:Nat) (m:List Int) (w:World) (hkm:k=m.length) (hk:k≤256) (ha:a < k) (hc:b < k) (hm:∀ x ∈ m,i32ok x) (hs:StAt w s 49 pc (some ⟨g,off,none⟩) k kc halt) (hr:Row w g off (mems m)) :
 Calls Tryz.prog 113 #[.pointer (some ⟨s,0,none⟩),.agg (Ins.cells ⟨16,a,b,c⟩)] w fun e w'=>e=.returned (.int .i64 (placeI (a+m.getD b 0) k))∧Ext w w':=by
 have hcl:b < m.length:=by omega
 have hx0:Ext w _:=(kR _ w).alloc (.cells (Ins.cells ⟨16,a,b,c⟩) 77)
 have hS0:=Blk.alloc hs (.cells (Ins.cells ⟨16,a,b,c⟩) 77)
 have hI0:=bN w 77 (Ins.cells ⟨16,a,b,c⟩)
 have hM0:=hr.ext hx0
 have hls:=hs.lt
 obtain ⟨x,hx⟩:∃ x,x=m[b]:=⟨_,rfl⟩
 have hxr:i32ok x:=by rw [hx];exact hm _ (List.getElem_mem hcl)
 have hgd:m.getD b 0=x:=by simp [hcl,hx]
 rw [hgd]
 unfold i32ok at hxr
 obtain ⟨hx1,hx2⟩:=hxr
 obtain ⟨q,hq⟩:∃ q,q=(a:Int)+x:=⟨_,rfl⟩
 rw [← hq]
 have hw1:IntKind.i64.wrap ((a:Int)+x)=q:=by rw [IntKind.wrap_i64];omega
 have hw0:IntKind.i64.wrap x=x:=by rw [IntKind.wrap_i64];omega
 have hcI:(b:Int) < k:=by omega
 have HXX:=J hx
 have HQ:=J hq
 have HKM:=J hkm
 clear hs hr hx hgd hq hkm hm
 go_enter Tryz.func113,Tryz.ntmps113
 go_wp2_with fail
 generalize (w.alloc (.cells (Ins.cells ⟨16,a,b,c⟩) 77))=W at hx0 hS0 hI0 hM0 ⊢
 have l1:=hS0.lt
 have l2:=hI0.lt
 have l3:=hM0.lt
 refine qr3 (fun w1=>Ext W w1) [(0,2),(1,1),(2,2),(3,2),(4,2),(5,1),(6,2),(7,1),(8,2),(9,1),(10,1),(11,2),(12,2)] ?_;refine qrl ?_
 (repeat first|refine qs3 ?_|refine qt3 (Kept.drew (kR _ _)) (by intro w1 hS;have d1:=bC (bX hS0 hS);have d2:=bC (bX hI0 hS);have d3:=(hM0.ext hS).mem b hcl;rw [← HXX.out] at d3;exact zgo) ?_|refine qp3 (Kept.drew (kR _ _)) ?_)
 exact zz27
theorem far_any (i:Ins) (size:Int) (s:Nat) (pc halt:Int) (g off k kc:Nat) (m:List Int) (w:World) (hkm:k=m.length) (hk:k≤256) (hi:rightI i size k=true) (hm:∀ x ∈ m,i32ok x) (hs:StAt w s 49 pc (some ⟨g,off,none⟩) k kc halt) (hr:Row w g off (mems m)) :
 Calls Tryz.prog 113 #[.pointer (some ⟨s,0,none⟩),.agg i.cells] w fun e w'=>e=.returned (.int .i64 (farI i m))∧Ext w w':=by
 obtain ⟨h0,h22,ha,hb,hc,he⟩:=rightI_parts hi
 by_cases h15:i.op=15
 ·rw [h15] at ha hb hc
  have ha:=okP_w rfl ha
  have hb:=okP_w rfl hb
  have hc:=okP_w rfl hc
  obtain ⟨op,a,b,c⟩:=i
  simp at h15 ha hb hc
  subst h15
  obtain ⟨a,rfl⟩:∃ n:Nat,a=n:=⟨a.toNat,by omega⟩
  obtain ⟨b,rfl⟩:∃ n:Nat,b=n:=⟨b.toNat,by omega⟩
  obtain ⟨c,rfl⟩:∃ n:Nat,c=n:=⟨c.toNat,by omega⟩
  have:=far_load a b c s pc halt g off k kc m w hkm hk zb85 zb85 hm hs hr
  simpa [farI,← hkm] using this
 ·by_cases h16:i.op=16
  ·rw [h16] at ha hb hc
   have ha:=okP_w rfl ha
   have hb:=okP_w rfl hb
   have hc:=okP_w rfl hc
   obtain ⟨op,a,b,c⟩:=i
   simp at h16 ha hb hc
   subst h16
   obtain ⟨a,rfl⟩:∃ n:Nat,a=n:=⟨a.toNat,by omega⟩
   obtain ⟨b,rfl⟩:∃ n:Nat,b=n:=⟨b.toNat,by omega⟩
   obtain ⟨c,rfl⟩:∃ n:Nat,c=n:=⟨c.toNat,by omega⟩
   have:=far_store a b c s pc halt g off k kc m w hkm hk zb85 zb85 hm hs hr
   simpa [farI,← hkm] using this
  ·rw [show farI i m=-1 by simp only [farI,if_neg h15,if_neg h16]]
   exact far_no i s pc halt _ k kc w hk (by simpa using h15) (by simpa using h16) hs
end Go.Proofs.YtbfbabbcdochjaaGreatDoor.Mc
