/- Several texts joined: Sp, Sf. -/
import Derived.Test.YtbfbabbcdochjaaGreatDoorRxpk
import Derived.Test.YtbfbabbcdochjaaGreatDoorRxac
set_option maxHeartbeats 4000000
namespace Go.Proofs.YtbfbabbcdochjaaGreatDoor.So
abbrev Str:=ByteArray
inductive EF | nil | cons (op n:Int) (name:Str) (kids rest:EF)
inductive SF | nil | cons (kind:Int) (name:Str) (e:EF) (low high:Int) (l els rest:SF)
structure Vr where (name:Str) (size low high:Int)
structure Pr where (name:Str) (seats:Int) (stakes:List Int) (vars:List Vr) (start turn:SF) (params:List Vr) (play:SF) (silent:Str) (quiet pays:SF)
structure Flt where (e:Int) (name:Str)
def EF.len:EF→Nat | .nil=>0 | .cons _ _ _ _ r=>r.len+1
def SF.len:SF→Nat | .nil=>0 | .cons _ _ _ _ _ _ _ r=>r.len+1
abbrev w64 (x:Int):Int:=Go.RowKit.wrap64 x
theorem w64_def (x:Int):w64 x=(x+9223372036854775808) % 18446744073709551616 - 9223372036854775808:=by unfold w64 Go.RowKit.wrap64;rfl
def EF.deep:EF→Int | .nil=>0 | .cons _ _ _ k r=>max (w64 (1+k.deep)) r.deep
def EF.size:EF→Nat | .nil=>0 | .cons _ _ _ k r=>1+k.size+r.size
def SF.size:SF→Nat | .nil=>0 | .cons _ _ e _ _ l x r=>1+e.size+l.size+x.size+r.size
def word (n:Int):Bool:=decide (-2147483648≤n) && decide (n≤2147483647)
def btw (n a b:Int):Bool:=decide (a≤n) && decide (n≤b)
def exprParts (op:Int):Nat:=if op < 2 then 0 else if op < 5 then 1 else 2
def stmtParts (k:Int):Nat:=if k=1 ∨ k=8 then 2 else if k=3 ∨ k=4 ∨ k=5 ∨ k=7 then 0 else 1
abbrev Kn:=Str→Nat
def upd (κ:Kn) (s:Str) (v:Nat):Kn:=fun t=>if t=s then v else κ t
def updAll (κ:Kn) (l:List Str):Kn:=fun t=>if l.any (fun s=>decide (s=t)) then 3 else κ t
def ored (a:Option Flt) (b:Option Flt):Option Flt:=match a with | some f=>some f | none=>b
@[simp] theorem ored_none (b:Option Flt):ored none b=b:=rfl
@[simp] theorem ored_some (f:Flt) (b:Option Flt):ored (some f) b=some f:=rfl
@[simp] theorem ored_right (a:Option Flt):ored a none=a:=by cases a <;> rfl
theorem ored_eq_none {a b:Option Flt}:ored a b=none ↔ a=none∧b=none:=by cases a <;> simp
theorem ored_assoc (a b c:Option Flt):ored (ored a b) c=ored a (ored b c):=by cases a <;> rfl
def must (ok:Bool) (e:Int) (s:Str):Option Flt:=if ok then none else some ⟨e,s⟩
@[simp] theorem must_true (e:Int) (s:Str):must true e s=none:=rfl
@[simp] theorem must_false (e:Int) (s:Str):must false e s=some ⟨e,s⟩:=rfl
theorem must_none {ok:Bool} {e:Int} {s:Str}:must ok e s=none ↔ ok=true:=by cases ok <;> simp
def E0:Str:=⟨#[]⟩
def head1 (κ:Kn) (op n:Int) (name:Str) (k:Nat):Option Flt :=
 ored (must (btw op 0 17 && k == exprParts op) 3 E0) <|
 if op=0 then must (word n) 2 E0
 else if op=1 ∨ op=2 then ored (must (κ name != 0) 6 name) (must ((κ name == 2) == (op == 2)) 11 name)
 else none
def chkE (κ:Kn):EF→Option Flt
 | .nil=>none
 | .cons op n name k r=>ored (ored (head1 κ op n name k.len) (chkE κ k)) (chkE κ r)
def chkD (κ:Kn):EF→Option Flt
 | .nil=>none
 | .cons op n name k r=>ored (ored (must (decide (w64 (1+k.deep)≤12)) 25 E0) (ored (head1 κ op n name k.len) (chkE κ k))) (chkD κ r)
def stands (kind:Int) (part:Nat) (last:Bool):Bool :=
 if kind=4 ∨ kind=5 then part == 2 else if kind=6 ∨ kind=7 then part == 1 else if kind=8 then part == 4 else if kind=9 then part == 4 && last else true
def letter (c:UInt8):Bool:=(decide (97≤c) && decide (c≤122)) || (decide (65≤c) && decide (c≤90))
def digit (c:UInt8):Bool:=decide (48≤c) && decide (c≤57)
def inner (c:UInt8):Bool:=letter c || digit c || c == 95
def words:List Str:=[⟨#[103,97,109,101]⟩,⟨#[115,101,97,116,115]⟩,⟨#[115,116,97,107,101]⟩,⟨#[118,97,114]⟩,⟨#[115,116,97,114,116]⟩,⟨#[116,117,114,110]⟩,⟨#[112,108,97,121]⟩,⟨#[115,105,108,101,110,116]⟩,⟨#[112,97,121]⟩,⟨#[101,110,100]⟩,⟨#[105,102]⟩,⟨#[116,104,101,110]⟩,⟨#[101,108,115,101]⟩,⟨#[102,111,114]⟩,⟨#[100,111]⟩,⟨#[114,101,102,117,115,101]⟩,⟨#[114,111,108,108]⟩,⟨#[115,101,97,116]⟩,⟨#[111,118,101,114]⟩,⟨#[114,101,115,116]⟩,⟨#[97,110,100]⟩,⟨#[111,114]⟩,⟨#[110,111,116]⟩]
def isName (s:Str):Bool:=decide (0 < s.size) && letter (s.data.getD 0 0) && s.data.toList.all inner && decide (s.size≤30) && !(words.any (fun t=>decide (t=s)))
def target (κ:Kn) (kind:Int) (name:Str) (low:Int):Option Flt :=
 ored (must (κ name != 0) 6 name) <| ored (must (κ name == (if kind=1 then 2 else 1)) 11 name) <|
 if kind=5 then must (btw low 2 1000) 2 name else none
def loop (κ:Kn) (name:Str) (low high:Int) (fors:Nat):Option Flt :=
 ored (must (isName name) 6 name) <| ored (must (κ name == 0) 7 name) <| ored (must (word low && word high && decide (high - low≤63)) 2 name) (must (decide (fors < 8)) 25 name)
def named (κ:Kn) (kind:Int) (name:Str) (low high:Int) (fors:Nat):Option Flt :=
 if kind=0 ∨ kind=1 ∨ kind=5 then target κ kind name low else if kind=3 then loop κ name low high fors else none
def sStart:Str:=⟨#[115,116,97,114,116]⟩
def sTurn:Str:=⟨#[116,117,114,110]⟩
def sPlay:Str:=⟨#[112,108,97,121]⟩
def sSilent:Str:=⟨#[115,105,108,101,110,116]⟩
def sPay:Str:=⟨#[112,97,121]⟩
def sSeats:Str:=⟨#[115,101,97,116,115]⟩
def sStake:Str:=⟨#[115,116,97,107,101]⟩
def sVar:Str:=⟨#[118,97,114]⟩
def sIf:Str:=⟨#[105,102]⟩
def partName:Nat→Str | 0=>sStart | 1=>sTurn | 2=>sPlay | 3=>sSilent | _=>sPay
def SF.isNil:SF→Bool | .nil=>true | _=>false
def chkB (part:Nat):Kn→Nat→Bool→SF→Option Flt
 | _,_,_,.nil=>none
 | κ,fors,top,.cons kind name e low high l els r =>
  ored (ored (must (btw kind 0 9 && e.len == stmtParts kind) 3 E0) <|
   ored (must (stands kind part (top && r.isNil)) 10 (partName part)) <|
   ored (named κ kind name low high fors) <|
   ored (chkD κ e) <|
   if kind=2 then ored (chkB part κ fors false l) (chkB part κ fors false els)
   else if kind=3 then chkB part (upd κ name 3) (fors+1) false l
   else none) (chkB part κ fors top r)
def chkS (part:Nat) (κ:Kn) (fors:Nat) (last:Bool) (kind:Int) (name:Str) (e:EF) (low high:Int) (l els:SF):Option Flt :=
 ored (must (btw kind 0 9 && e.len == stmtParts kind) 3 E0) <|
  ored (must (stands kind part last) 10 (partName part)) <|
  ored (named κ kind name low high fors) <|
  ored (chkD κ e) <|
  if kind=2 then ored (chkB part κ fors false l) (chkB part κ fors false els)
  else if kind=3 then chkB part (upd κ name 3) (fors+1) false l
  else none
theorem chkB_cons (part:Nat) (κ:Kn) (fors:Nat) (top:Bool) (kind:Int) (name:Str) (e:EF) (low high:Int) (l els r:SF) :
 chkB part κ fors top (.cons kind name e low high l els r)=ored (chkS part κ fors (top && r.isNil) kind name e low high l els) (chkB part κ fors top r):=by
 rw [chkB];rfl
def ends:SF→Bool
 | .nil=>false
 | .cons kind _ _ _ _ l els r=>(kind == 6 || kind == 7 || (kind == 2 && ends l && ends els)) || ends r
def restLast:SF→Bool
 | .nil=>false
 | .cons kind _ _ _ _ _ _ .nil=>kind == 9
 | .cons _ _ _ _ _ _ _ r=>restLast r
def cellsV (v:Vr):Int:=if 1≤v.size∧v.size≤64 then v.size else 1
def cells:List Vr→Int | []=>0 | v :: r=>cellsV v+cells r
def span (v:Vr):Bool:=word v.low && word v.high && decide (v.low≤v.high)
def knV (l:List Vr):Kn:=fun t=>match l.find? (fun v=>decide (v.name=t)) with | none=>0 | some v=>if 0 < v.size then 2 else 1
def chkVars:List Vr→List Vr→Option Flt
 | _,[]=>none
 | pre,v :: r=>ored (must (isName v.name) 6 v.name) <| ored (must (knV pre v.name == 0) 7 v.name) <| ored (must (btw v.size 0 64 && span v) 2 v.name) (chkVars (pre ++ [v]) r)
def chkPars (κ:Kn):List Vr→List Vr→Option Flt
 | _,[]=>none
 | pre,v :: r=>ored (must (isName v.name) 6 v.name) <| ored (must (κ v.name == 0 && !(pre.any (fun u=>decide (u.name=v.name)))) 7 v.name) <| ored (must (v.size == 0) 3 v.name) <| ored (must (span v) 2 v.name) (chkPars κ (pre ++ [v]) r)
def menuF:Int→List Vr→Int | n,[]=>n | n,v :: r=>menuF (min (n * (min (v.high - v.low) 512+1)) 513) r
def menu (l:List Vr):Int:=if l.any (fun v=>decide (v.high < v.low)) then 0 else menuF 1 l
def chkHead (p:Pr):Option Flt :=
 ored (must (isName p.name) 6 p.name) <| ored (must (btw p.seats 2 8) 2 sSeats) <| ored (must ((p.stakes.length:Int) == p.seats) 3 sStake) (must (p.stakes.all (fun n=>btw n 1 2147483647)) 2 sStake)
def psize (p:Pr):Nat:=p.vars.length+p.params.length+p.start.size+p.turn.size+p.play.size+p.quiet.size+p.pays.size
def partOf (p:Pr):Nat→SF | 0=>p.start | 1=>p.turn | 2=>p.play | 3=>p.quiet | _=>p.pays
def knOf (p:Pr):Nat→Kn | 2=>updAll (knV p.vars) (p.params.map Vr.name) | 3=>updAll (knV p.vars) [p.silent] | _=>knV p.vars
def chkP (p:Pr) (i:Nat):Option Flt:=chkB i (knOf p i) 0 true (partOf p i)
def chkAhead (p:Pr):Option Flt :=
 ored (chkHead p) <| ored (chkVars [] p.vars) <| ored (must (decide (cells p.vars≤64)) 8 sVar) <|
 ored (must (decide (p.params.length≤4)) 8 sPlay) <| ored (chkPars (knV p.vars) [] p.params) <| ored (must (decide (menu p.params≤512)) 8 sPlay) <|
 ored (must (isName p.silent) 6 p.silent) (must (knV p.vars p.silent == 0) 7 p.silent)
def check (p:Pr):Option Flt :=
 ored (chkAhead p) <| ored (must (decide (w64 (psize p)≤1000)) 5 p.name) <|
 ored (chkP p 0) <| ored (chkP p 1) <| ored (chkP p 2) <| ored (chkP p 3) <| ored (chkP p 4) <|
 ored (must (ends p.turn) 4 sTurn) (must (restLast p.pays) 4 sPay)
structure St1 where (kind:Int) (name:Str) (e:EF) (low high:Int) (l els:SF)
def St1.on (s:St1) (r:SF):SF:=.cons s.kind s.name s.e s.low s.high s.l s.els r
def part (p:Pr) (at_:Nat) (s:St1):Pr:=match at_ with
 | 0=>{ p with start:=s.on p.start } | 1=>{ p with turn:=s.on p.turn } | 2=>{ p with play:=s.on p.play } | 3=>{ p with quiet:=s.on p.quiet } | _=>{ p with pays:=s.on p.pays }
def St1.size (s:St1):Nat:=1+s.e.size+s.l.size+s.els.size
def chkOf (p:Pr) (i:Nat) (s:St1):Option Flt:=chkS i (knOf p i) 0 (partOf p i).isNil s.kind s.name s.e s.low s.high s.l s.els
theorem psize_part (p:Pr) (i:Nat) (s:St1):psize (part p i s)=psize p+s.size:=by
 unfold part
 split <;> simp only [psize,St1.on,SF.size,St1.size] <;> omega
theorem ahead_part (p:Pr) (i:Nat) (s:St1):chkAhead (part p i s)=chkAhead p:=by unfold part;split <;> rfl
theorem knOf_part (p:Pr) (i j:Nat) (s:St1):knOf (part p i s) j=knOf p j:=by unfold part;split <;> (unfold knOf;split <;> rfl)
theorem partOf_same (p:Pr) (i:Nat) (hi:i < 5) (s:St1):partOf (part p i s) i=s.on (partOf p i):=by
 exact zz93
theorem partOf_other (p:Pr) (i j:Nat) (hi:i < 5) (hj:j < 5) (h:¬ i=j) (s:St1):partOf (part p i s) j=partOf p j:=by
 rcases (by omega:i=0 ∨ i=1 ∨ i=2 ∨ i=3 ∨ i=4) with rfl | rfl | rfl | rfl | rfl <;> rcases (by omega:j=0 ∨ j=1 ∨ j=2 ∨ j=3 ∨ j=4) with rfl | rfl | rfl | rfl | rfl <;> first | rfl | omega
theorem chkP_same (p:Pr) (i:Nat) (hi:i < 5) (s:St1):chkP (part p i s) i=ored (chkOf p i s) (chkP p i):=by
 unfold chkP
 rw [partOf_same p i hi,knOf_part,St1.on,chkB_cons]
 rfl
theorem chkP_other (p:Pr) (i j:Nat) (hi:i < 5) (hj:j < 5) (h:¬ i=j) (s:St1):chkP (part p i s) j=chkP p j:=by
 unfold chkP
 rw [partOf_other p i j hi hj h,knOf_part]
theorem check_none {p:Pr}:check p=none ↔ chkAhead p=none∧w64 (psize p)≤1000∧chkP p 0=none∧chkP p 1=none∧chkP p 2=none∧chkP p 3=none∧chkP p 4=none∧ends p.turn=true∧restLast p.pays=true:=by
 unfold check
 simp only [ored_eq_none,must_none,decide_eq_true_eq]
theorem parts_none {p:Pr} (h:check p=none):∀ i,i < 5→chkP p i=none:=fun i hi=>by
 obtain ⟨_,_,h0,h1,h2,h3,h4,_,_⟩:=check_none.1 h
 rcases (by omega:i=0 ∨ i=1 ∨ i=2 ∨ i=3 ∨ i=4) with rfl | rfl | rfl | rfl | rfl <;> assumption
theorem w64_add {n k:Nat} (h:w64 n≤990) (hk:k≤10):w64 ((n+k:Nat):Int)≤1000:=by simp only [w64_def] at *;omega
def bad (k:Int) (i:Nat):Bool:=(decide (k < 6) && i != 2) || ((k == 6 || k == 7) && i != 1) || (k == 8 && i != 4)
def op99:St1:=⟨2,E0,.cons 99 0 E0 .nil .nil,0,0,.nil,.nil⟩
def forIf:St1:=⟨3,sIf,.nil,0,0,.nil,.nil⟩
theorem chk_op99 (p:Pr) (i:Nat):chkOf p i op99=some ⟨3,E0⟩:=by
 unfold chkOf chkS
 simp [op99,btw,EF.len,stmtParts,stands,named,chkD,head1,exprParts,EF.deep,w64_def]
theorem chk_forIf (p:Pr) (i:Nat):chkOf p i forIf=some ⟨6,sIf⟩:=by
 unfold chkOf chkS
 have:isName sIf=false:=by decide
 simp [forIf,btw,EF.len,stmtParts,stands,named,loop,this]
theorem chkOf_part (p:Pr) (i j:Nat) (hi:i < 5) (hj:j < 5) (h:¬ i=j) (s t:St1):chkOf (part p i s) j t=chkOf p j t:=by
 unfold chkOf
 rw [partOf_other p i j hi hj h,knOf_part]
theorem first {p:Pr} (h:check p=none) (hs:w64 (psize p)≤990) (x y:Nat) (hx:x < 5) (hy:y < 5) (hxy:¬ x=y) :
 check (part (part p x op99) y forIf)=some (if y < x then ⟨6,sIf⟩ else ⟨3,E0⟩):=by
 obtain ⟨ha,_,h0,h1,h2,h3,h4,he,hl⟩:=check_none.1 h
 have hz:w64 ((psize (part (part p x op99) y forIf):Nat):Int)≤1000:=by
  rw [psize_part,psize_part,Nat.add_assoc];exact w64_add hs zb84
 have hX:∀ j,j < 5→¬ j=x→¬ j=y→chkP (part (part p x op99) y forIf) j=none:=fun j hj a b=>by
  rw [chkP_other _ y j hy hj (fun e=>b e.symm),chkP_other _ x j hx hj (fun e=>a e.symm)];exact parts_none h j hj
 have hPx:chkP (part (part p x op99) y forIf) x=some ⟨3,E0⟩:=by
  rw [chkP_other _ y x hy hx (fun e=>hxy e.symm),chkP_same _ _ hx,chk_op99];rfl
 have hPy:chkP (part (part p x op99) y forIf) y=some ⟨6,sIf⟩:=by
  rw [chkP_same _ _ hy,chkOf_part p x y hx hy hxy,chk_forIf];rfl
 unfold check
 rw [ahead_part,ahead_part,ha,show decide (w64 ((psize (part (part p x op99) y forIf):Nat):Int)≤1000)=true by simpa using hz]
 generalize part (part p x op99) y forIf=q at *
 simp only [must_true,ored_none]
 have go:∀ j,j < 5→chkP q j=if j=x then some ⟨3,E0⟩ else if j=y then some ⟨6,sIf⟩ else none:=fun j hj=>by
  split
  ·rename_i e;rw [e];exact hPx
  ·split
   ·rename_i e;rw [e];exact hPy
   ·exact hX j hj ‹_› ‹_›
 rw [go 0 zb85,go 1 zb85,go 2 zb85,go 3 zb85,go 4 zb85]
 rcases (by omega:x=0 ∨ x=1 ∨ x=2 ∨ x=3 ∨ x=4) with rfl | rfl | rfl | rfl | rfl <;> rcases (by omega:y=0 ∨ y=1 ∨ y=2 ∨ y=3 ∨ y=4) with rfl | rfl | rfl | rfl | rfl <;> first | omega | simp
end Go.Proofs.YtbfbabbcdochjaaGreatDoor.So
namespace Go.Proofs.YtbfbabbcdochjaaGreatDoor
open Go.RowKit So
abbrev ecells (op n:Int) (name:ByteArray) (A:Option Addr) (len cap:Nat):Array Value:=#[.int .i64 op,.int .i64 n,.string name,.slice A len cap]
abbrev scells (kind:Int) (name:ByteArray) (eA:Option Addr) (en ec:Nat) (low high:Int) (lA:Option Addr) (ln lc:Nat) (xA:Option Addr) (xn xc:Nat):Array Value:=#[.int .i64 kind,.string name,.slice eA en ec,.int .i64 low,.int .i64 high,.slice lA ln lc,.slice xA xn xc]
def Fits (n b:Nat):Prop:=n * b≤140737488355328
theorem Fits.max {n b:Nat} (h:Fits n b) (hb:8≤b):n≤17592186044416:=by
 unfold Fits at h
 have:n * 8≤n * b:=Nat.mul_le_mul_left _ hb
 omega
def EFAt (w:World) (N:Nat):EF→Nat→Nat→Prop
 | .nil,_,_=>True
 | .cons op n name k r,b,off=>b < N∧i64ok op∧i64ok n∧name.size≤maxLen∧(∃ A cap b' off',Proofs.YtbfbabbcdochjaaGreatDoor.has w b off 4=true∧gets w b off 4=ecells op n name A k.len cap∧Fits k.len 56∧(0 < k.len→A=some ⟨b',off',none⟩)∧EFAt w N k b' off')∧EFAt w N r b (off+4)
def ESl (w:World) (N:Nat) (A:Option Addr) (n:Nat) (F:EF):Prop:=n=F.len∧Fits n 56∧∃ b off,(0 < n→A=some ⟨b,off,none⟩)∧EFAt w N F b off
def SFAt (w:World) (N:Nat):SF→Nat→Nat→Prop
 | .nil,_,_=>True
 | .cons kind name e low high l x r,b,off=>b < N∧i64ok kind∧i64ok low∧i64ok high∧name.size≤maxLen ∧
  (∃ eA ec lA lc xA xc be oe bl ol bx ox,Proofs.YtbfbabbcdochjaaGreatDoor.has w b off 7=true∧gets w b off 7=scells kind name eA e.len ec low high lA l.len lc xA x.len xc∧Fits e.len 56∧Fits l.len 112∧Fits x.len 112 ∧
   (0 < e.len→eA=some ⟨be,oe,none⟩)∧(0 < l.len→lA=some ⟨bl,ol,none⟩)∧(0 < x.len→xA=some ⟨bx,ox,none⟩)∧EFAt w N e be oe∧SFAt w N l bl ol∧SFAt w N x bx ox)∧SFAt w N r b (off+7)
def SSl (w:World) (N:Nat) (A:Option Addr) (n:Nat) (F:SF):Prop:=n=F.len∧Fits n 112∧∃ b off,(0 < n→A=some ⟨b,off,none⟩)∧SFAt w N F b off
theorem has_keep {S:Nat→Prop} {w w':World} (hk:Kept S w w') {g o n:Nat} (hg:g < w.heap.size) (hs:¬ S g):Proofs.YtbfbabbcdochjaaGreatDoor.has w' g o n=Proofs.YtbfbabbcdochjaaGreatDoor.has w g o n:=by
 unfold Proofs.YtbfbabbcdochjaaGreatDoor.has
 rw [hk.block g hg hs]
theorem gets_keep {S:Nat→Prop} {w w':World} (hk:Kept S w w') {g o n:Nat} (hg:g < w.heap.size) (hs:¬ S g):gets w' g o n=gets w g o n:=by
 unfold gets
 rw [hk.block g hg hs]
section
variable {S:Nat→Prop} {w w':World} {N:Nat}
theorem EFAt.kept (hk:Kept S w w') (hN:N≤w.heap.size) (hs:∀ i,S i→N≤i):∀ {F:EF} {b off:Nat},EFAt w N F b off→EFAt w' N F b off
 | .nil,_,_,_=>trivial
 | .cons _ _ _ _ _,b,off,h=>by
  obtain ⟨hb,h1,h2,h3,⟨A,cap,b',off',hh,hg,hl,hA,hk'⟩,hr⟩:=h
  have hnb:¬ S b:=fun q=>by have:=hs b q;omega
  exact ⟨hb,h1,h2,h3,⟨A,cap,b',off',by rw [has_keep hk zb85 hnb];exact hh,by rw [gets_keep hk zb85 hnb];exact hg,hl,hA,hk'.kept hk hN hs⟩,hr.kept hk hN hs⟩
theorem SFAt.kept (hk:Kept S w w') (hN:N≤w.heap.size) (hs:∀ i,S i→N≤i):∀ {F:SF} {b off:Nat},SFAt w N F b off→SFAt w' N F b off
 | .nil,_,_,_=>trivial
 | .cons _ _ _ _ _ _ _ _,b,off,h=>by
  obtain ⟨hb,h1,h2,h3,h4,⟨eA,ec,lA,lc,xA,xc,be,oe,bl,ol,bx,ox,hh,hg,n1,n2,n3,a1,a2,a3,he,hl,hx⟩,hr⟩:=h
  have hnb:¬ S b:=fun q=>by have:=hs b q;omega
  exact ⟨hb,h1,h2,h3,h4,⟨eA,ec,lA,lc,xA,xc,be,oe,bl,ol,bx,ox,by rw [has_keep hk zb85 hnb];exact hh,by rw [gets_keep hk zb85 hnb];exact hg,n1,n2,n3,a1,a2,a3,he.kept hk hN hs,hl.kept hk hN hs,hx.kept hk hN hs⟩,hr.kept hk hN hs⟩
theorem EFAt.mono {N':Nat} (hN:N≤N'):∀ {F:EF} {b off:Nat},EFAt w N F b off→EFAt w N' F b off
 | .nil,_,_,_=>trivial
 | .cons _ _ _ _ _,b,off,h=>by
  obtain ⟨hb,h1,h2,h3,⟨A,cap,b',off',hh,hg,hl,hA,hk'⟩,hr⟩:=h
  exact ⟨by omega,h1,h2,h3,⟨A,cap,b',off',hh,hg,hl,hA,hk'.mono hN⟩,hr.mono hN⟩
theorem SFAt.mono {N':Nat} (hN:N≤N'):∀ {F:SF} {b off:Nat},SFAt w N F b off→SFAt w N' F b off
 | .nil,_,_,_=>trivial
 | .cons _ _ _ _ _ _ _ _,b,off,h=>by
  obtain ⟨hb,h1,h2,h3,h4,⟨eA,ec,lA,lc,xA,xc,be,oe,bl,ol,bx,ox,hh,hg,n1,n2,n3,a1,a2,a3,he,hl,hx⟩,hr⟩:=h
  exact ⟨by omega,h1,h2,h3,h4,⟨eA,ec,lA,lc,xA,xc,be,oe,bl,ol,bx,ox,hh,hg,n1,n2,n3,a1,a2,a3,he.mono hN,hl.mono hN,hx.mono hN⟩,hr.mono hN⟩
theorem ESl.kept {A:Option Addr} {n:Nat} {F:EF} (h:ESl w N A n F) (hk:Kept S w w') (hN:N≤w.heap.size) (hs:∀ i,S i→N≤i):ESl w' N A n F:=by
 obtain ⟨h1,h2,b,off,h3,h4⟩:=h
 exact ⟨h1,h2,b,off,h3,h4.kept hk hN hs⟩
theorem SSl.kept {A:Option Addr} {n:Nat} {F:SF} (h:SSl w N A n F) (hk:Kept S w w') (hN:N≤w.heap.size) (hs:∀ i,S i→N≤i):SSl w' N A n F:=by
 obtain ⟨h1,h2,b,off,h3,h4⟩:=h
 exact ⟨h1,h2,b,off,h3,h4.kept hk hN hs⟩
theorem ESl.ext {A:Option Addr} {n:Nat} {F:EF} (h:ESl w N A n F) (hk:Ext w w') (hN:N≤w.heap.size):ESl w' N A n F:=h.kept hk hN (fun _ f=>f.elim)
theorem SSl.ext {A:Option Addr} {n:Nat} {F:SF} (h:SSl w N A n F) (hk:Ext w w') (hN:N≤w.heap.size):SSl w' N A n F:=h.kept hk hN (fun _ f=>f.elim)
end
def kidsE:EF→Nat | .nil=>0 | .cons _ _ _ k r=>k.size+kidsE r
def kidsS:SF→Nat | .nil=>0 | .cons _ _ e _ _ l x r=>e.size+l.size+x.size+kidsS r
theorem size_kidsE:∀ F:EF,F.size=F.len+kidsE F
 | .nil=>rfl
 | .cons _ _ _ k r=>by rw [EF.size,EF.len,kidsE,size_kidsE r];omega
theorem size_kidsS:∀ F:SF,F.size=F.len+kidsS F
 | .nil=>rfl
 | .cons _ _ e _ _ l x r=>by rw [SF.size,SF.len,kidsS,size_kidsS r];omega
theorem w64_w64 (a b:Int):w64 (w64 a+b)=w64 (a+b):=by simp only [w64_def];omega
theorem w64_w64r (a b:Int):w64 (a+w64 b)=w64 (a+b):=by simp only [w64_def];omega
abbrev vcells (v:Vr):Array Value:=#[.string v.name,.int .i64 v.size,.int .i64 v.low,.int .i64 v.high]
structure VrOk (v:Vr):Prop where
 name:v.name.size≤maxLen
 size:i64ok v.size
 low:i64ok v.low
 high:i64ok v.high
def VSl (w:World) (N:Nat) (A:Option Addr) (n:Nat) (l:List Vr):Prop:=n=l.length∧Fits n 40∧(∀ v ∈ l,VrOk v)∧∃ b off,(0 < n→A=some ⟨b,off,none⟩)∧(0 < n→b < N∧Row w b off (rowsL vcells l))
theorem VSl.kept {S:Nat→Prop} {w w':World} {N:Nat} {A:Option Addr} {n:Nat} {l:List Vr} (h:VSl w N A n l) (hk:Kept S w w') (hs:∀ i,S i→N≤i):VSl w' N A n l:=by
 obtain ⟨h1,h2,h3,b,off,h4,h5⟩:=h
 exact ⟨h1,h2,h3,b,off,h4,fun h0=>⟨(h5 h0).1,(h5 h0).2.kept hk (fun q=>by have:=hs b q;have:=(h5 h0).1;omega)⟩⟩
def ISl (w:World) (N:Nat) (A:Option Addr) (n:Nat) (l:List Int):Prop:=n=l.length∧Fits n 8∧(∀ v ∈ l,i64ok v)∧∃ b off,(0 < n→A=some ⟨b,off,none⟩)∧(0 < n→b < N∧Row w b off (l.map (Value.int .i64)))
theorem ISl.kept {S:Nat→Prop} {w w':World} {N:Nat} {A:Option Addr} {n:Nat} {l:List Int} (h:ISl w N A n l) (hk:Kept S w w') (hs:∀ i,S i→N≤i):ISl w' N A n l:=by
 obtain ⟨h1,h2,h3,b,off,h4,h5⟩:=h
 exact ⟨h1,h2,h3,b,off,h4,fun h0=>⟨(h5 h0).1,(h5 h0).2.kept hk (fun q=>by have:=hs b q;have:=(h5 h0).1;omega)⟩⟩
structure Sl3 where (A:Option Addr) (n c:Nat)
abbrev Sl3.v (s:Sl3):Value:=.slice s.A s.n s.c
structure Pc where (name:ByteArray) (seats:Int) (stakes vars start turn params play:Sl3) (silent:ByteArray) (quiet pays:Sl3)
abbrev Pc.cells (c:Pc):Array Value:=#[.string c.name,.int .i64 c.seats,c.stakes.v,c.vars.v,c.start.v,c.turn.v,c.params.v,c.play.v,.string c.silent,c.quiet.v,c.pays.v]
structure PAt (w:World) (N:Nat) (c:Pc) (p:Pr):Prop where
 name:c.name=p.name
 nameOk:p.name.size≤maxLen
 seats:c.seats=p.seats
 seatsOk:i64ok p.seats
 stakes:ISl w N c.stakes.A c.stakes.n p.stakes
 vars:VSl w N c.vars.A c.vars.n p.vars
 start:SSl w N c.start.A c.start.n p.start
 turn:SSl w N c.turn.A c.turn.n p.turn
 params:VSl w N c.params.A c.params.n p.params
 play:SSl w N c.play.A c.play.n p.play
 silent:c.silent=p.silent
 silentOk:p.silent.size≤maxLen
 quiet:SSl w N c.quiet.A c.quiet.n p.quiet
 pays:SSl w N c.pays.A c.pays.n p.pays
theorem PAt.kept {S:Nat→Prop} {w w':World} {N:Nat} {c:Pc} {p:Pr} (h:PAt w N c p) (hk:Kept S w w') (hN:N≤w.heap.size) (hs:∀ i,S i→N≤i):PAt w' N c p :=
 ⟨h.name,h.nameOk,h.seats,h.seatsOk,h.stakes.kept hk hs,h.vars.kept hk hs,h.start.kept hk hN hs,h.turn.kept hk hN hs,h.params.kept hk hs,h.play.kept hk hN hs,h.silent,h.silentOk,h.quiet.kept hk hN hs,h.pays.kept hk hN hs⟩
end Go.Proofs.YtbfbabbcdochjaaGreatDoor
