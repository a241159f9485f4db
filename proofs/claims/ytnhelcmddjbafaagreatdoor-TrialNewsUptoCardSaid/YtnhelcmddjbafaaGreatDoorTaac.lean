import Derived.Test.YtnhelcmddjbafaaGreatDoorTaab
set_option maxHeartbeats 4000000
set_option maxRecDepth 100000
open Go.Proofs.Tryz
namespace Go.Proofs.YtnhelcmddjbafaaGreatDoor
namespace Sq
abbrev Str:=ByteArray
inductive EF|nil|cons (op n:Int) (name:Str) (kids rest:EF)
inductive SF|nil|cons (kind:Int) (name:Str) (e:EF) (low high:Int) (l bY rest:SF)
structure Vr where (name:Str) (size low high:Int)
structure Pr where (name:Str) (aP:Int) (cd:List Int) (vars:List Vr) (start turn:SF) (params:List Vr) (ci:SF) (silent:Str) (quiet bP:SF)
structure oq where (e:Int) (name:Str)
def EF.len:EF->Nat| .nil=>0| .cons _ _ _ _ r=>r.len+1
def SF.len:SF->Nat| .nil=>0| .cons _ _ _ _ _ _ _ r=>r.len+1
abbrev jw (x:Int):Int:=Go.RowKit.wrap64 x
theorem eF (x:Int):jw x=(x+9223372036854775808)%18446744073709551616 - 9223372036854775808:=by unfold jw Go.RowKit.wrap64;rfl
def EF.deep:EF->Int| .nil=>0| .cons _ _ _ k r=>max (jw (1+k.deep)) r.deep
def EF.size:EF->Nat| .nil=>0| .cons _ _ _ k r=>1+k.size+r.size
def SF.size:SF->Nat| .nil=>0| .cons _ _ e _ _ l x r=>1+e.size+l.size+x.size+r.size
def word (n:Int):Bool:=decide (-2147483648<=n)&&decide (n<=2147483647)
def iX (n a b:Int):Bool:=decide (a<=n)&&decide (n<=b)
def exprParts (op:Int):Nat:=if op<2 then 0 else if op<5 then 1 else 2
def stmtParts (k:Int):Nat:=if k=1∨k=8 then 2 else if k=3∨k=4∨k=5∨k=7 then 0 else 1
abbrev Kn:=Str->Nat
def oK (κ:Kn) (s:Str) (v:Nat):Kn:=λt=>if t=s then v else κ t
def bu (κ:Kn) (l:List Str):Kn:=λt=>if l.any (λs=>decide (s=t))then 3 else κ t
def ak (a:Option oq) (b:Option oq):Option oq:=match a with|some f=>some f|none=>b
@[simp] theorem aY (b:Option oq):ak none b=b:=rfl
@[simp] theorem aZ (f) (b:Option oq):ak (some f) b=some f:=rfl
@[simp] theorem ahe (a:Option oq):ak a none=a:=by cases a<;>rfl
theorem aD {a b:Option oq}:ak a b=none↔a=none/\b=none:=by cases a<;>simp
theorem dx (a b c:Option oq):ak (ak a b) c=ak a (ak b c):=by cases a<;>rfl
def must (ok:Bool) (e:Int) (s:Str):Option oq:=if ok then none else some ⟨e,s⟩
@[simp] theorem bL (e) (s:Str):must true e s=none:=rfl
@[simp] theorem aT (e) (s:Str):must false e s=some ⟨e,s⟩:=rfl
theorem di {ok} {e} {s}:must ok e s=none↔ok=true:=by cases ok<;>simp
def E0:Str:=⟨#[]⟩
def jL (κ:Kn) (op n:Int) (name:Str) (k:Nat):Option oq:=
 ak (must (iX op 0 17&&k==exprParts op) 3 E0)<|
 if op=0 then must (word n) 2 E0
 else if op=1∨op=2 then ak (must (κ name !=0) 6 name) (must ((κ name==2)==(op==2)) 11 name)
 else none
def mB (κ:Kn):EF->Option oq
 | .nil=>none
 | .cons op n name k r=>ak (ak (jL κ op n name k.len) (mB κ k)) (mB κ r)
def kG (κ:Kn):EF->Option oq
 | .nil=>none
 | .cons op n name k r=>ak (ak (must (decide (jw (1+k.deep)<=12)) 25 E0) (ak (jL κ op n name k.len) (mB κ k))) (kG κ r)
def stands (kind:Int) (part:Nat) (last:Bool):Bool:=
 if kind=4∨kind=5 then part==2 else if kind=6∨kind=7 then part==1 else if kind=8 then part==4 else if kind=9 then part==4&&last else true
def letter (c:UInt8):Bool:=(decide (97<=c)&&decide (c<=122))||(decide (65<=c)&&decide (c<=90))
def digit (c:UInt8):Bool:=decide (48<=c)&&decide (c<=57)
def inner (c:UInt8):Bool:=letter c||digit c||c==95
def words:List Str:=[⟨#[103,97,109,101]⟩,⟨#[115,101,97,116,115]⟩,⟨#[115,116,97,107,101]⟩,⟨#[118,97,114]⟩,⟨#[115,116,97,114,116]⟩,⟨#[116,117,114,110]⟩,⟨#[112,108,97,121]⟩,⟨#[115,105,108,101,110,116]⟩,⟨#[112,97,121]⟩,⟨#[101,110,100]⟩,⟨#[105,102]⟩,⟨#[116,104,101,110]⟩,⟨#[101,108,115,101]⟩,⟨#[102,111,114]⟩,⟨#[100,111]⟩,⟨#[114,101,102,117,115,101]⟩,⟨#[114,111,108,108]⟩,⟨#[115,101,97,116]⟩,⟨#[111,118,101,114]⟩,⟨#[114,101,115,116]⟩,⟨#[97,110,100]⟩,⟨#[111,114]⟩,⟨#[110,111,116]⟩]
def dv (s:Str):Bool:=decide (0<s.size)&&letter (s.data.getD 0 0)&&s.data.toList.all inner&&decide (s.size<=30)&&!(words.any (λt=>decide (t=s)))
def target (κ:Kn) (kind:Int) (name:Str) (low:Int):Option oq:=
 ak (must (κ name !=0) 6 name)<|ak (must (κ name==(if kind=1 then 2 else 1)) 11 name)<|
 if kind=5 then must (iX low 2 1000) 2 name else none
def loop (κ:Kn) (name:Str) (low high:Int) (aU:Nat):Option oq:=
 ak (must (dv name) 6 name)<|ak (must (κ name==0) 7 name)<|ak (must (word low&&word high&&decide (high - low<=63)) 2 name) (must (decide (aU<8)) 25 name)
def named (κ:Kn) (kind:Int) (name:Str) (low high:Int) (aU:Nat):Option oq:=
 if kind=0∨kind=1∨kind=5 then target κ kind name low else if kind=3 then loop κ name low high aU else none
def P2:Str:=⟨#[115,116,97,114,116]⟩
def li:Str:=⟨#[116,117,114,110]⟩
def f_:Str:=⟨#[112,108,97,121]⟩
def Jq:Str:=⟨#[115,105,108,101,110,116]⟩
def om:Str:=⟨#[112,97,121]⟩
def vf:Str:=⟨#[115,101,97,116,115]⟩
def gP:Str:=⟨#[115,116,97,107,101]⟩
def rq:Str:=⟨#[118,97,114]⟩
def sIf:Str:=⟨#[105,102]⟩
def bZ:Nat->Str|0=>P2|1=>li|2=>f_|3=>Jq|_=>om
def SF.isNil:SF->Bool| .nil=>true|_=>false
def cC (part:Nat):Kn->Nat->Bool->SF->Option oq
 |_,_,_,.nil=>none
 |κ,aU,fT,.cons kind name e low high l bY r=>
  ak (ak (must (iX kind 0 9&&e.len==stmtParts kind) 3 E0)<|
   ak (must (stands kind part (fT&&r.isNil)) 10 (bZ part))<|
   ak (named κ kind name low high aU)<|
   ak (kG κ e)<|
   if kind=2 then ak (cC part κ aU false l) (cC part κ aU false bY)
   else if kind=3 then cC part (oK κ name 3) (aU+1) false l
   else none) (cC part κ aU fT r)
def oS (part:Nat) (κ:Kn) (aU:Nat) (last:Bool) (kind:Int) (name:Str) (e:EF) (low high:Int) (l bY:SF):Option oq:=
 ak (must (iX kind 0 9&&e.len==stmtParts kind) 3 E0)<|
  ak (must (stands kind part last) 10 (bZ part))<|
  ak (named κ kind name low high aU)<|
  ak (kG κ e)<|
  if kind=2 then ak (cC part κ aU false l) (cC part κ aU false bY)
  else if kind=3 then cC part (oK κ name 3) (aU+1) false l
  else none
theorem lr (part) (κ) (aU) (fT) (kind) (name) (e) (low high) (l bY r):
 cC part κ aU fT (.cons kind name e low high l bY r)=ak (oS part κ aU (fT&&r.isNil) kind name e low high l bY) (cC part κ aU fT r):=by
 rw [cC];rfl
def ends:SF->Bool
 | .nil=>false
 | .cons kind _ _ _ _ l bY r=>(kind==6||kind==7||(kind==2&&ends l&&ends bY))||ends r
def jN:SF->Bool
 | .nil=>false
 | .cons kind _ _ _ _ _ _ .nil=>kind==9
 | .cons _ _ _ _ _ _ _ r=>jN r
def fO (v:Vr):Int:=if 1<=v.size/\v.size<=64 then v.size else 1
def cells:List Vr->Int|[]=>0|v::r=>fO v+cells r
def span (v:Vr):Bool:=word v.low&&word v.high&&decide (v.low<=v.high)
def fK (l:List Vr):Kn:=λt=>match l.find? (λv=>decide (v.name=t))with|none=>0|some v=>if 0<v.size then 2 else 1
def eM:List Vr->List Vr->Option oq
 |_,[]=>none
 |pre,v::r=>ak (must (dv v.name) 6 v.name)<|ak (must (fK pre v.name==0) 7 v.name)<|ak (must (iX v.size 0 64&&span v) 2 v.name) (eM (pre++[v]) r)
def dH (κ:Kn):List Vr->List Vr->Option oq
 |_,[]=>none
 |pre,v::r=>ak (must (dv v.name) 6 v.name)<|ak (must (κ v.name==0&&!(pre.any (λu=>decide (u.name=v.name)))) 7 v.name)<|ak (must (v.size==0) 3 v.name)<|ak (must (span v) 2 v.name) (dH κ (pre++[v]) r)
def xd:Int->List Vr->Int|n,[]=>n|n,v::r=>xd (min (n*(min (v.high - v.low) 512+1)) 513) r
def na (l:List Vr):Int:=if l.any (λv=>decide (v.high<v.low))then 0 else xd 1 l
def mT (p:Pr):Option oq:=
 ak (must (dv p.name) 6 p.name)<|ak (must (iX p.aP 2 8) 2 vf)<|ak (must ((p.cd.length:Int)==p.aP) 3 gP) (must (p.cd.all (λn=>iX n 1 2147483647)) 2 gP)
def dE (p:Pr):Nat:=p.vars.length+p.params.length+p.start.size+p.turn.size+p.ci.size+p.quiet.size+p.bP.size
def partOf (p:Pr):Nat->SF|0=>p.start|1=>p.turn|2=>p.ci|3=>p.quiet|_=>p.bP
def o5 (p:Pr):Nat->Kn|2=>bu (fK p.vars) (p.params.map Vr.name)|3=>bu (fK p.vars) [p.silent]|_=>fK p.vars
def lu (p:Pr) (i:Nat):Option oq:=cC i (o5 p i) 0 true (partOf p i)
def kE (p:Pr):Option oq:=
 ak (mT p)<|ak (eM [] p.vars)<|ak (must (decide (cells p.vars<=64)) 8 rq)<|
 ak (must (decide (p.params.length<=4)) 8 f_)<|ak (dH (fK p.vars) [] p.params)<|ak (must (decide (na p.params<=512)) 8 f_)<|
 ak (must (dv p.silent) 6 p.silent) (must (fK p.vars p.silent==0) 7 p.silent)
def check (p:Pr):Option oq:=
 ak (kE p)<|ak (must (decide (jw (dE p)<=1000)) 5 p.name)<|
 ak (lu p 0)<|ak (lu p 1)<|ak (lu p 2)<|ak (lu p 3)<|ak (lu p 4)<|
 ak (must (ends p.turn) 4 li) (must (jN p.bP) 4 om)
structure H' where (kind:Int) (name:Str) (e:EF) (low high:Int) (l bY:SF)
def H'.on (s:H') (r:SF):SF:=.cons s.kind s.name s.e s.low s.high s.l s.bY r
def part (p:Pr) (at_:Nat) (s:H'):Pr:=match at_ with
 |0=>{p with start:=s.on p.start}|1=>{p with turn:=s.on p.turn}|2=>{p with ci:=s.on p.ci}|3=>{p with quiet:=s.on p.quiet}|_=>{p with bP:=s.on p.bP}
def H'.size (s:H'):Nat:=1+s.e.size+s.l.size+s.bY.size
def zv (p:Pr) (i:Nat) (s:H'):Option oq:=oS i (o5 p i) 0 (partOf p i).isNil s.kind s.name s.e s.low s.high s.l s.bY
section
variable (p:Pr)
include p
theorem Dy (i) (s:H'):dE (part p i s)=dE p+s.size:=by
 unfold part
 split<;>simp only [dE,H'.on,SF.size,H'.size]<;>omega
theorem Ci (i) (s:H'):kE (part p i s)=kE p:=by unfold part;split<;>rfl
theorem yL (i j) (s:H'):o5 (part p i s) j=o5 p j:=by unfold part;split<;>(unfold o5;split<;>rfl)
theorem LI (i) (hi:i<5) (s):partOf (part p i s) i=s.on (partOf p i):=by
 exact Sw
theorem xj (i j) (hi:i<5) (hj:j<5) (h:¬i=j) (s:H'):partOf (part p i s) j=partOf p j:=by
 rcases(by omega:i=0∨i=1∨i=2∨i=3∨i=4)with rfl|rfl|rfl|rfl|rfl<;>rcases(by omega:j=0∨j=1∨j=2∨j=3∨j=4)with rfl|rfl|rfl|rfl|rfl<;>first|rfl|omega
theorem F_ (i) (hi:i<5) (s):lu (part p i s) i=ak (zv p i s) (lu p i):=by
 unfold lu;rw [LI p i hi,yL,H'.on,lr]
 rfl
theorem uF (i j) (hi:i<5) (hj:j<5) (h:¬i=j) (s:H'):lu (part p i s) j=lu p j:=by
 unfold lu;rw [xj p i j hi hj h,yL]
end
theorem uD {p:Pr}:check p=none↔kE p=none/\jw (dE p)<=1000/\lu p 0=none/\lu p 1=none/\lu p 2=none/\lu p 3=none/\lu p 4=none/\ends p.turn=true/\jN p.bP=true:=by
 unfold check;simp only [aD,di,gZ]
theorem Dw {p} (h:check p=none):∀i,i<5->lu p i=none:=λi hi=>by
 obtain⟨_,_,h0,h1,h2,h3,h4,_,_⟩:=uD.1 h
 rcases(by omega:i=0∨i=1∨i=2∨i=3∨i=4)with rfl|rfl|rfl|rfl|rfl<;>assumption
theorem acU {n k:Nat} (h:jw n<=990) (hk:k<=10):jw ((n+k:Nat):Int)<=1000:=by simp only [eF]at*;omega
def bad (k:Int) (i:Nat):Bool:=(decide (k<6)&&i !=2)||((k==6||k==7)&&i !=1)||(k==8&&i !=4)
def I1:H':=⟨2,E0,.cons 99 0 E0 .nil .nil,0,0,.nil,.nil⟩
def wP:H':=⟨3,sIf,.nil,0,0,.nil,.nil⟩
theorem XG (p) (i:Nat):zv p i I1=some ⟨3,E0⟩:=by
 unfold zv oS;simp [I1,iX,EF.len,stmtParts,stands,named,kG,jL,exprParts,EF.deep,eF]
theorem Tf (p) (i:Nat):zv p i wP=some ⟨6,sIf⟩:=by
 unfold zv oS;have:dv sIf=false:=by decide
 simp [wP,iX,EF.len,stmtParts,stands,named,loop,this]
theorem NY (p) (i j:Nat) (hi:i<5) (hj:j<5) (h:¬i=j) (s t:H'):zv (part p i s) j t=zv p j t:=by
 unfold zv;rw [xj p i j hi hj h,yL]
theorem first {p} (h:check p=none) (hs:jw (dE p)<=990) (x y:Nat) (hx:x<5) (hy:y<5) (hxy:¬x=y):
 check (part (part p x I1) y wP)=some (if y<x then⟨6,sIf⟩else⟨3,E0⟩):=by
 obtain⟨ha,_,h0,h1,h2,h3,h4,he,hl⟩:=uD.1 h
 have hz:jw ((dE (part (part p x I1) y wP):Nat):Int)<=1000:=by
  rw [Dy,Dy,gH];exact acU hs ae
 have hX:∀j,j<5->¬j=x->¬j=y->lu (part (part p x I1) y wP) j=none:=λj hj a b=>by
  rw [uF _ y j hy hj (λe=>b e.symm),uF _ x j hx hj (λe=>a e.symm)];exact Dw h j hj
 have hPx:lu (part (part p x I1) y wP) x=some ⟨3,E0⟩:=by
  rw [uF _ y x hy hx (λe=>hxy e.symm),F_ _ _ hx,XG];rfl
 have hPy:lu (part (part p x I1) y wP) y=some ⟨6,sIf⟩:=by
  rw [F_ _ _ hy,NY p x y hx hy hxy,Tf];rfl
 unfold check;rw [Ci,Ci,ha,show decide (jw ((dE (part (part p x I1) y wP):Nat):Int)<=1000)=true by simpa using hz];generalize part (part p x I1) y wP=q at*;simp only [bL,aY]
 have go:∀j,j<5->lu q j=if j=x then some ⟨3,E0⟩else if j=y then some ⟨6,sIf⟩else none:=λj hj=>by
  split
  .rename_i e;rw [e];exact hPx
  .split
   .rename_i e;rw [e];exact hPy
   .exact hX j hj ‹_› ‹_›
 rw [go 0 ad,go 1 ad,go 2 ad,go 3 ad,go 4 ad]
 rcases(by omega:x=0∨x=1∨x=2∨x=3∨x=4)with rfl|rfl|rfl|rfl|rfl<;>rcases(by omega:y=0∨y=1∨y=2∨y=3∨y=4)with rfl|rfl|rfl|rfl|rfl<;>first|omega|simp
end Sq
open Go.RowKit Sq
abbrev aF (op n:Int) (name:ByteArray) (A:Option Addr) (len cap:Nat):Array Value:=#[.int .i64 op,.int .i64 n,.string name,.slice A len cap]
abbrev au (kind:Int) (name:ByteArray) (eA:Option Addr) (en ec:Nat) (low high:Int) (lA:Option Addr) (ln lc:Nat) (xA:Option Addr) (xn xc:Nat):Array Value:=#[.int .i64 kind,.string name,.slice eA en ec,.int .i64 low,.int .i64 high,.slice lA ln lc,.slice xA xn xc]
def Fits (n b:Nat):Prop:=n*b<=140737488355328
theorem Fits.max {n b} (h:Fits n b) (hb:8<=b):n<=17592186044416:=by
 unfold Fits at h;have:n*8<=n*b:=Nat.mul_le_mul_left _ hb
 omega
def lU (w:World) (N:Nat):EF->Nat->Nat->Prop
 | .nil,_,_=>True
 | .cons op n name k r,b,off=>b<N/\aI op/\aI n/\name.size<=maxLen/\(∃A cap b' bR,Proofs.YtnhelcmddjbafaaGreatDoor.has w b off 4=true/\gets w b off 4=aF op n name A k.len cap/\Fits k.len 56/\(0<k.len->A=some ⟨b',bR,none⟩)/\lU w N k b' bR)/\lU w N r b (off+4)
def lJ (w:World) (N:Nat) (A:Option Addr) (n:Nat) (F:EF):Prop:=n=F.len/\Fits n 56/\∃b off,(0<n->A=some ⟨b,off,none⟩)/\lU w N F b off
def mS (w:World) (N:Nat):SF->Nat->Nat->Prop
 | .nil,_,_=>True
 | .cons kind name e low high l x r,b,off=>b<N/\aI kind/\aI low/\aI high/\name.size<=maxLen/\
  (∃eA ec lA lc xA xc be oe bl ol bx ox,Proofs.YtnhelcmddjbafaaGreatDoor.has w b off 7=true/\gets w b off 7=au kind name eA e.len ec low high lA l.len lc xA x.len xc/\Fits e.len 56/\Fits l.len 112/\Fits x.len 112/\
   (0<e.len->eA=some ⟨be,oe,none⟩)/\(0<l.len->lA=some ⟨bl,ol,none⟩)/\(0<x.len->xA=some ⟨bx,ox,none⟩)/\lU w N e be oe/\mS w N l bl ol/\mS w N x bx ox)/\mS w N r b (off+7)
def jc (w:World) (N:Nat) (A:Option Addr) (n:Nat) (F:SF):Prop:=n=F.len/\Fits n 112/\∃b off,(0<n->A=some ⟨b,off,none⟩)/\mS w N F b off
section
variable {S:Nat->Prop} {w w':World} (hk:Kept S w w') {g o n:Nat} (hg:g<w.heap.size) (hs:¬S g)
include S w w' hk g o n hg hs
theorem jK:Proofs.YtnhelcmddjbafaaGreatDoor.has w' g o n=Proofs.YtnhelcmddjbafaaGreatDoor.has w g o n:=by
 unfold Proofs.YtnhelcmddjbafaaGreatDoor.has;rw [hk.block g hg hs]
theorem iO:gets w' g o n=gets w g o n:=by
 unfold gets;rw [hk.block g hg hs]
end
section
variable {S:Nat->Prop} {w w':World} {N:Nat}
theorem lU.kept (hk:Kept S w w') (hN:N<=w.heap.size) (hs:∀i,S i->N<=i):∀{F:EF} {b off:Nat},lU w N F b off->lU w' N F b off
 | .nil,_,_,_=>trivial
 | .cons _ _ _ _ _,b,off,h=>by
  obtain⟨hb,h1,h2,h3,⟨A,cap,b',bR,hh,hg,hl,hA,kh⟩,hr⟩:=h;have oC:¬S b:=λq=>by have:=hs b q;omega
  exact⟨hb,h1,h2,h3,⟨A,cap,b',bR,by rw [jK hk ad oC];exact hh,by rw [iO hk ad oC];exact hg,hl,hA,kh.kept hk hN hs⟩,hr.kept hk hN hs⟩
theorem mS.kept (hk:Kept S w w') (hN:N<=w.heap.size) (hs:∀i,S i->N<=i):∀{F:SF} {b off:Nat},mS w N F b off->mS w' N F b off
 | .nil,_,_,_=>trivial
 | .cons _ _ _ _ _ _ _ _,b,off,h=>by
  obtain⟨hb,h1,h2,h3,h4,⟨eA,ec,lA,lc,xA,xc,be,oe,bl,ol,bx,ox,hh,hg,n1,n2,n3,a1,a2,a3,he,hl,hx⟩,hr⟩:=h;have oC:¬S b:=λq=>by have:=hs b q;omega
  exact⟨hb,h1,h2,h3,h4,⟨eA,ec,lA,lc,xA,xc,be,oe,bl,ol,bx,ox,by rw [jK hk ad oC];exact hh,by rw [iO hk ad oC];exact hg,n1,n2,n3,a1,a2,a3,he.kept hk hN hs,hl.kept hk hN hs,hx.kept hk hN hs⟩,hr.kept hk hN hs⟩
theorem lU.mono {N':Nat} (hN:N<=N'):∀{F:EF} {b off:Nat},lU w N F b off->lU w N' F b off
 | .nil,_,_,_=>trivial
 | .cons _ _ _ _ _,b,off,h=>by
  obtain⟨hb,h1,h2,h3,⟨A,cap,b',bR,hh,hg,hl,hA,kh⟩,hr⟩:=h;exact⟨by omega,h1,h2,h3,⟨A,cap,b',bR,hh,hg,hl,hA,kh.mono hN⟩,hr.mono hN⟩
theorem mS.mono {N':Nat} (hN:N<=N'):∀{F:SF} {b off:Nat},mS w N F b off->mS w N' F b off
 | .nil,_,_,_=>trivial
 | .cons _ _ _ _ _ _ _ _,b,off,h=>by
  obtain⟨hb,h1,h2,h3,h4,⟨eA,ec,lA,lc,xA,xc,be,oe,bl,ol,bx,ox,hh,hg,n1,n2,n3,a1,a2,a3,he,hl,hx⟩,hr⟩:=h;exact⟨by omega,h1,h2,h3,h4,⟨eA,ec,lA,lc,xA,xc,be,oe,bl,ol,bx,ox,hh,hg,n1,n2,n3,a1,a2,a3,he.mono hN,hl.mono hN,hx.mono hN⟩,hr.mono hN⟩
theorem lJ.kept {A:Option Addr} {n:Nat} {F:EF} (h:lJ w N A n F) (hk:Kept S w w') (hN:N<=w.heap.size) (hs:∀i,S i->N<=i):lJ w' N A n F:=by
 obtain⟨h1,h2,b,off,h3,h4⟩:=h;exact⟨h1,h2,b,off,h3,h4.kept hk hN hs⟩
theorem jc.kept {A:Option Addr} {n:Nat} {F:SF} (h:jc w N A n F) (hk:Kept S w w') (hN:N<=w.heap.size) (hs:∀i,S i->N<=i):jc w' N A n F:=by
 obtain⟨h1,h2,b,off,h3,h4⟩:=h;exact⟨h1,h2,b,off,h3,h4.kept hk hN hs⟩
theorem lJ.ext {A} {n} {F} (h:lJ w N A n F) (hk:al w w') (hN:N<=w.heap.size):lJ w' N A n F:=h.kept hk hN (λ_ f=>f.elim)
theorem jc.ext {A} {n} {F} (h:jc w N A n F) (hk:al w w') (hN:N<=w.heap.size):jc w' N A n F:=h.kept hk hN (λ_ f=>f.elim)
end
variable{dst:Option Tmp}{pos:String}{after:Array Edge}{guard:Option (Nat×Bool)}{K:Act->World->Prop}{ρ:Operand->Value}
def Gu:EF->Nat| .nil=>0| .cons _ _ _ k r=>k.size+Gu r
def Gv:SF->Nat| .nil=>0| .cons _ _ e _ _ l x r=>e.size+l.size+x.size+Gv r
theorem DP:∀F:EF,F.size=F.len+Gu F
 | .nil=>rfl
 | .cons _ _ _ k r=>by rw [EF.size,EF.len,Gu,DP r];omega
theorem DQ:∀F:SF,F.size=F.len+Gv F
 | .nil=>rfl
 | .cons _ _ e _ _ l x r=>by rw [SF.size,SF.len,Gv,DQ r];omega
theorem iE (a b:Int):jw (jw a+b)=jw (a+b):=by simp only [eF];omega
theorem jR (a b:Int):jw (a+jw b)=jw (a+b):=by simp only [eF];omega
abbrev aO (v:Vr):Array Value:=#[.string v.name,.int .i64 v.size,.int .i64 v.low,.int .i64 v.high]
structure SW (v:Vr):Prop where
 name:v.name.size<=maxLen
 size:aI v.size
 low:aI v.low
 high:aI v.high
def rA (w:World) (N:Nat) (A:Option Addr) (n:Nat) (l:List Vr):Prop:=n=l.length/\Fits n 40/\(∀v∈l,SW v)/\∃b off,(0<n->A=some ⟨b,off,none⟩)/\(0<n->b<N/\Row w b off (b_ aO l))
theorem rA.kept {S:Nat->Prop} {w w':World} {N:Nat} {A:Option Addr} {n:Nat} {l:List Vr} (h:rA w N A n l) (hk:Kept S w w') (hs:∀i,S i->N<=i):rA w' N A n l:=by
 obtain⟨h1,h2,h3,b,off,h4,h5⟩:=h;exact⟨h1,h2,h3,b,off,h4,λh0=>⟨(h5 h0).1,(h5 h0).2.kept hk (λq=>by have:=hs b q;have:=(h5 h0).1;omega)⟩⟩
def VX (w:World) (N:Nat) (A:Option Addr) (n:Nat) (l:List Int):Prop:=n=l.length/\Fits n 8/\(∀v∈l,aI v)/\∃b off,(0<n->A=some ⟨b,off,none⟩)/\(0<n->b<N/\Row w b off (l.map (Value.int .i64)))
theorem VX.kept {S:Nat->Prop} {w w':World} {N:Nat} {A:Option Addr} {n:Nat} {l:List Int} (h:VX w N A n l) (hk:Kept S w w') (hs:∀i,S i->N<=i):VX w' N A n l:=by
 obtain⟨h1,h2,h3,b,off,h4,h5⟩:=h;exact⟨h1,h2,h3,b,off,h4,λh0=>⟨(h5 h0).1,(h5 h0).2.kept hk (λq=>by have:=hs b q;have:=(h5 h0).1;omega)⟩⟩
structure iu where (A:Option Addr) (n c:Nat)
abbrev iu.v (s:iu):Value:=.slice s.A s.n s.c
structure Pc where (name:ByteArray) (aP:Int) (cd vars start turn params ci:iu) (silent:ByteArray) (quiet bP:iu)
abbrev Pc.cells (c:Pc):Array Value:=#[.string c.name,.int .i64 c.aP,c.cd.v,c.vars.v,c.start.v,c.turn.v,c.params.v,c.ci.v,.string c.silent,c.quiet.v,c.bP.v]
structure lZ (w:World) (N:Nat) (c:Pc) (p:Pr):Prop where
 name:c.name=p.name
 Df:p.name.size<=maxLen
 aP:c.aP=p.aP
 BI:aI p.aP
 cd:VX w N c.cd.A c.cd.n p.cd
 vars:rA w N c.vars.A c.vars.n p.vars
 start:jc w N c.start.A c.start.n p.start
 turn:jc w N c.turn.A c.turn.n p.turn
 params:rA w N c.params.A c.params.n p.params
 ci:jc w N c.ci.A c.ci.n p.ci
 silent:c.silent=p.silent
 sy:p.silent.size<=maxLen
 quiet:jc w N c.quiet.A c.quiet.n p.quiet
 bP:jc w N c.bP.A c.bP.n p.bP
theorem lZ.kept {S:Nat->Prop} {w w':World} {N:Nat} {c:Pc} {p:Pr} (h:lZ w N c p) (hk:Kept S w w') (hN:N<=w.heap.size) (hs:∀i,S i->N<=i):lZ w' N c p:=
 ⟨h.name,h.Df,h.aP,h.BI,h.cd.kept hk hs,h.vars.kept hk hs,h.start.kept hk hN hs,h.turn.kept hk hN hs,h.params.kept hk hs,h.ci.kept hk hN hs,h.silent,h.sy,h.quiet.kept hk hN hs,h.bP.kept hk hN hs⟩
attribute [go_sem↓high] nh
attribute [go_sem high] nh
theorem wi:gB prog 174=true:=by kernel_rfl
theorem sB:dw prog 174=some 4:=by kernel_rfl
theorem D9 {eY} {x} {a} {w} {Q} (hx:eG (a.eval x)=true) (hh:has w (aL (a.eval x)) (aM (a.eval x)) 4=true):
 Oper.wp prog ⟨dst,.load 174 x,eY,pos,after,guard⟩ a w K Q=K (a.put dst (.agg (gets w (aL (a.eval x)) (aM (a.eval x)) 4))) w:=bB 4 wi sB hx hh
theorem LW {eY} {x} {w} (hx:eG (ρ x)=true) (hh:has w (aL (ρ x)) (aM (ρ x)) 4=true):
 (execOp ρ ⟨dst,.load 174 x,eY,pos,after,guard⟩).run prog w=.ok (.value (.agg (gets w (aL (ρ x)) (aM (ρ x)) 4))) w:=aH 4 wi sB hx hh
attribute [go_sem] wi sB
attribute [go_sem↓high] D9 LW
attribute [go_sem high] D9
theorem wj:gB prog 232=true:=by kernel_rfl
theorem sC:dw prog 232=some 4:=by kernel_rfl
theorem Ea {eY} {x} {a} {w} {Q} (hx:eG (a.eval x)=true) (hh:has w (aL (a.eval x)) (aM (a.eval x)) 4=true):
 Oper.wp prog ⟨dst,.load 232 x,eY,pos,after,guard⟩ a w K Q=K (a.put dst (.agg (gets w (aL (a.eval x)) (aM (a.eval x)) 4))) w:=bB 4 wj sC hx hh
theorem LX {eY} {x} {w} (hx:eG (ρ x)=true) (hh:has w (aL (ρ x)) (aM (ρ x)) 4=true):
 (execOp ρ ⟨dst,.load 232 x,eY,pos,after,guard⟩).run prog w=.ok (.value (.agg (gets w (aL (ρ x)) (aM (ρ x)) 4))) w:=aH 4 wj sC hx hh
attribute [go_sem] wj sC
attribute [go_sem↓high] Ea LX
attribute [go_sem high] Ea
theorem Cb:gB prog 221=true:=by kernel_rfl
theorem yY:dw prog 221=some 4:=by kernel_rfl
theorem Ai {eY} {x} {a} {w} {Q} (hx:eG (a.eval x)=true) (hh:has w (aL (a.eval x)) (aM (a.eval x)) 4=true):
 Oper.wp prog ⟨dst,.load 221 x,eY,pos,after,guard⟩ a w K Q=K (a.put dst (.agg (gets w (aL (a.eval x)) (aM (a.eval x)) 4))) w:=bB 4 Cb yY hx hh
theorem Je {eY} {x} {w} (hx:eG (ρ x)=true) (hh:has w (aL (ρ x)) (aM (ρ x)) 4=true):
 (execOp ρ ⟨dst,.load 221 x,eY,pos,after,guard⟩).run prog w=.ok (.value (.agg (gets w (aL (ρ x)) (aM (ρ x)) 4))) w:=aH 4 Cb yY hx hh
attribute [go_sem] Cb yY
attribute [go_sem↓high] Ai Je
attribute [go_sem high] Ai
theorem Cc:gB prog 354=true:=by kernel_rfl
theorem yZ:dw prog 354=some 4:=by kernel_rfl
theorem Aj {eY} {x} {a} {w} {Q} (hx:eG (a.eval x)=true) (hh:has w (aL (a.eval x)) (aM (a.eval x)) 4=true):
 Oper.wp prog ⟨dst,.load 354 x,eY,pos,after,guard⟩ a w K Q=K (a.put dst (.agg (gets w (aL (a.eval x)) (aM (a.eval x)) 4))) w:=bB 4 Cc yZ hx hh
theorem Jf {eY} {x} {w} (hx:eG (ρ x)=true) (hh:has w (aL (ρ x)) (aM (ρ x)) 4=true):
 (execOp ρ ⟨dst,.load 354 x,eY,pos,after,guard⟩).run prog w=.ok (.value (.agg (gets w (aL (ρ x)) (aM (ρ x)) 4))) w:=aH 4 Cc yZ hx hh
attribute [go_sem] Cc yZ
attribute [go_sem↓high] Aj Jf
attribute [go_sem high] Aj
theorem Cf:gB prog 223=true:=by kernel_rfl
theorem zd:dw prog 223=some 7:=by kernel_rfl
theorem An {eY} {x} {a} {w} {Q} (hx:eG (a.eval x)=true) (hh:has w (aL (a.eval x)) (aM (a.eval x)) 7=true):
 Oper.wp prog ⟨dst,.load 223 x,eY,pos,after,guard⟩ a w K Q=K (a.put dst (.agg (gets w (aL (a.eval x)) (aM (a.eval x)) 7))) w:=bB 7 Cf zd hx hh
theorem Jj {eY} {x} {w} (hx:eG (ρ x)=true) (hh:has w (aL (ρ x)) (aM (ρ x)) 7=true):
 (execOp ρ ⟨dst,.load 223 x,eY,pos,after,guard⟩).run prog w=.ok (.value (.agg (gets w (aL (ρ x)) (aM (ρ x)) 7))) w:=aH 7 Cf zd hx hh
attribute [go_sem] Cf zd
attribute [go_sem↓high] An Jj
attribute [go_sem high] An
theorem Cg:gB prog 288=true:=by kernel_rfl
theorem ze:dw prog 288=some 7:=by kernel_rfl
theorem Ao {eY} {x} {a} {w} {Q} (hx:eG (a.eval x)=true) (hh:has w (aL (a.eval x)) (aM (a.eval x)) 7=true):
 Oper.wp prog ⟨dst,.load 288 x,eY,pos,after,guard⟩ a w K Q=K (a.put dst (.agg (gets w (aL (a.eval x)) (aM (a.eval x)) 7))) w:=bB 7 Cg ze hx hh
theorem Jk {eY} {x} {w} (hx:eG (ρ x)=true) (hh:has w (aL (ρ x)) (aM (ρ x)) 7=true):
 (execOp ρ ⟨dst,.load 288 x,eY,pos,after,guard⟩).run prog w=.ok (.value (.agg (gets w (aL (ρ x)) (aM (ρ x)) 7))) w:=aH 7 Cg ze hx hh
attribute [go_sem] Cg ze
attribute [go_sem↓high] Ao Jk
attribute [go_sem high] Ao
theorem vX:gB prog 39=true:=by kernel_rfl
theorem tB:dw prog 39=some 11:=by kernel_rfl
theorem Al {eY} {x} {a} {w} {Q} (hx:eG (a.eval x)=true) (hh:has w (aL (a.eval x)) (aM (a.eval x)) 11=true):
 Oper.wp prog ⟨dst,.load 39 x,eY,pos,after,guard⟩ a w K Q=K (a.put dst (.agg (gets w (aL (a.eval x)) (aM (a.eval x)) 11))) w:=bB 11 vX tB hx hh
theorem Jh {eY} {x} {w} (hx:eG (ρ x)=true) (hh:has w (aL (ρ x)) (aM (ρ x)) 11=true):
 (execOp ρ ⟨dst,.load 39 x,eY,pos,after,guard⟩).run prog w=.ok (.value (.agg (gets w (aL (ρ x)) (aM (ρ x)) 11))) w:=aH 11 vX tB hx hh
attribute [go_sem] vX tB
attribute [go_sem↓high] Al Jh
attribute [go_sem high] Al
theorem vY:gB prog 163=true:=by kernel_rfl
theorem tC:dw prog 163=some 11:=by kernel_rfl
theorem Am {eY} {x} {a} {w} {Q} (hx:eG (a.eval x)=true) (hh:has w (aL (a.eval x)) (aM (a.eval x)) 11=true):
 Oper.wp prog ⟨dst,.load 163 x,eY,pos,after,guard⟩ a w K Q=K (a.put dst (.agg (gets w (aL (a.eval x)) (aM (a.eval x)) 11))) w:=bB 11 vY tC hx hh
theorem Ji {eY} {x} {w} (hx:eG (ρ x)=true) (hh:has w (aL (ρ x)) (aM (ρ x)) 11=true):
 (execOp ρ ⟨dst,.load 163 x,eY,pos,after,guard⟩).run prog w=.ok (.value (.agg (gets w (aL (ρ x)) (aM (ρ x)) 11))) w:=aH 11 vY tC hx hh
attribute [go_sem] vY tC
attribute [go_sem↓high] Am Ji
attribute [go_sem high] Am
theorem Ce:gB prog 243=true:=by kernel_rfl
theorem y_:dw prog 243=some 12:=by kernel_rfl
theorem Ak {eY} {x} {a} {w} {Q} (hx:eG (a.eval x)=true) (hh:has w (aL (a.eval x)) (aM (a.eval x)) 12=true):
 Oper.wp prog ⟨dst,.load 243 x,eY,pos,after,guard⟩ a w K Q=K (a.put dst (.agg (gets w (aL (a.eval x)) (aM (a.eval x)) 12))) w:=bB 12 Ce y_ hx hh
theorem Jg {eY} {x} {w} (hx:eG (ρ x)=true) (hh:has w (aL (ρ x)) (aM (ρ x)) 12=true):
 (execOp ρ ⟨dst,.load 243 x,eY,pos,after,guard⟩).run prog w=.ok (.value (.agg (gets w (aL (ρ x)) (aM (ρ x)) 12))) w:=aH 12 Ce y_ hx hh
attribute [go_sem] Ce y_
attribute [go_sem↓high] Ak Jg
attribute [go_sem high] Ak
theorem eQ:gB prog 166=true:=by kernel_rfl
theorem gQ:dw prog 166=some 2:=by kernel_rfl
theorem xI {eY} {x} {a} {w} {Q} (hx:eG (a.eval x)=true) (hh:has w (aL (a.eval x)) (aM (a.eval x)) 2=true):
 Oper.wp prog ⟨dst,.load 166 x,eY,pos,after,guard⟩ a w K Q=K (a.put dst (.agg (gets w (aL (a.eval x)) (aM (a.eval x)) 2))) w:=bB 2 eQ gQ hx hh
theorem Fu {eY} {x} {w} (hx:eG (ρ x)=true) (hh:has w (aL (ρ x)) (aM (ρ x)) 2=true):
 (execOp ρ ⟨dst,.load 166 x,eY,pos,after,guard⟩).run prog w=.ok (.value (.agg (gets w (aL (ρ x)) (aM (ρ x)) 2))) w:=aH 2 eQ gQ hx hh
attribute [go_sem] eQ gQ
attribute [go_sem↓high] xI Fu
attribute [go_sem high] xI
theorem FT:gB prog 225=true:=by kernel_rfl
theorem qM:dw prog 225=some 2:=by kernel_rfl
theorem xJ {eY} {x} {a} {w} {Q} (hx:eG (a.eval x)=true) (hh:has w (aL (a.eval x)) (aM (a.eval x)) 2=true):
 Oper.wp prog ⟨dst,.load 225 x,eY,pos,after,guard⟩ a w K Q=K (a.put dst (.agg (gets w (aL (a.eval x)) (aM (a.eval x)) 2))) w:=bB 2 FT qM hx hh
attribute [go_sem] FT qM
attribute [go_sem↓high] xJ
attribute [go_sem high] xJ
theorem Jt (a b:ByteArray):(ByteArray.toList a==ByteArray.toList b)=decide (a=b):=by
 rw [ByteArray.toList_eq,ByteArray.toList_eq,Bool.eq_iff_iff,beq_iff_eq,gZ];exact⟨λh=>Go.WideShapes.bytes_inj h,λh=>by rw [h]⟩
theorem pX {a b} (h:a=b):(ByteArray.toList a==ByteArray.toList b)=true:=by rw [Jt];exact cO h
theorem nu {a b} (h:¬a=b):(ByteArray.toList a==ByteArray.toList b)=false:=by rw [Jt];exact cU h
theorem fG (n a b) (w:World):Calls prog 242 #[.int .i64 n,.int .i64 a,.int .i64 b] w λe w'=>e=.returned (.bool (iX n a b))/\w=w':=by
 go_enter func242,ntmps242;go_wp21
 all_goals go_ret
 all_goals refine⟨aV ?_,rfl⟩
 all_goals (rw [Bool.eq_iff_iff];simp [iX];omega)
theorem qB (n a b) (w:World):Calls prog 145 #[.int .i64 n,.int .i64 a,.int .i64 b] w λe w'=>e=.returned (.bool (iX n a b))/\w=w':=by
 go_enter func145,ntmps145;go_wp21
 all_goals go_ret
 all_goals refine⟨aV ?_,rfl⟩
 all_goals (rw [Bool.eq_iff_iff];simp [iX];omega)
theorem Kd (n:Int):iX n (-2147483648) 2147483647=word n:=rfl
theorem fM (n) (w:World):Calls prog 341 #[.int .i64 n] w λe w'=>e=.returned (.bool (word n))/\w=w':=by
 go_enter func341,ntmps341;go_wp21;refine uW (fG _ _ _ _) ?_;rw [Kd];go_wp21;go_ret;exact⟨rfl,rfl⟩
theorem jo (n) (w:World):Calls prog 214 #[.int .i64 n] w λe w'=>e=.returned (.bool (word n))/\w=w':=by
 go_enter func214,ntmps214;go_wp21;refine uW (qB _ _ _ _) ?_;rw [Kd];go_wp21;go_ret;exact⟨rfl,rfl⟩
theorem kH (w:World):Calls prog 147 #[] w λe w'=>e=.returned (.agg #[.int .i64 0,.string ⟨#[]⟩])/\al w w':=by
 go_enter func147,ntmps147;go_wp21;refine bQ results147 rfl rfl eQ (by exact gQ) (aj.d_ _ _ _ _ aC) ⟨rfl,?_⟩;exact dS w _
theorem xy (v) (w:World):Calls prog 243 #[.agg (aO v)] w λe w'=>e=.returned (.bool (span v))/\al w w':=by
 have hx:=dz w (.cells (aO v) 232);go_enter func243,ntmps243;go_wp21
 all_goals go_ret
 all_goals refine⟨aV ?_,hx⟩
 all_goals (rw [Bool.eq_iff_iff];simp [span,word];omega)
theorem L2 (v) (w:World):Calls prog 203 #[.agg (aO v)] w λe w'=>e=.returned (.int .i64 (Sq.fO v))/\al w w':=by
 have hx:=dz w (.cells (aO v) 232);go_enter func203,ntmps203;go_wp21;refine uW (fG _ _ _ _) ?_
 cases hb:iX v.size 1 64
 all_goals
  go_wp21;go_ret;refine⟨cL ?_,hx⟩;simp only [iX,fz,Bool.and_eq_false_iff,gZ,decide_eq_false_iff_not]at hb;unfold Sq.fO
  split<;>omega
theorem yq (v) (w:World):Calls prog 153 #[.agg (aO v)] w λe w'=>e=.returned (.int .i64 (Sq.fO v))/\al w w':=by
 have hx:=dz w (.cells (aO v) 174);go_enter func153,ntmps153;go_wp21
 all_goals go_ret
 all_goals refine⟨cL ?_,hx⟩
 all_goals (unfold Sq.fO;split<;>omega)
theorem I2 (n) (w:World):Calls prog 306 #[.int .i64 n] w λe w'=>e=.returned (.int .i64 (exprParts n))/\w=w':=by
 go_enter func306,ntmps306;go_wp21
 all_goals go_ret
 all_goals refine⟨cL ?_,rfl⟩
 all_goals (unfold exprParts;split<;>first|rfl|omega|(split<;>first|rfl|omega))
theorem PF (k) (i:Nat) (hi:i<5) (l:Bool) (w:World):Calls prog 272 #[.int .i64 k,.int .i64 i,.bool l] w λe w'=>e=.returned (.bool (stands k i l))/\w=w':=by
 rcases(by omega:i=0∨i=1∨i=2∨i=3∨i=4)with rfl|rfl|rfl|rfl|rfl
 all_goals
  go_enter func272,ntmps272;go_wp21
  all_goals go_ret
  all_goals refine⟨aV ?_,rfl⟩
  all_goals simp_all [stands]
section
variable {w:World} {b o n:Nat} {cs:Array Value} (hh:Proofs.YtnhelcmddjbafaaGreatDoor.has w b o n=true) (hg:gets w b o n=cs)
include w b o n cs hh hg
theorem lq (i) (hi:i<n):w.cell? ⟨b,o+i,none⟩=cs[i]?:=by
 unfold Proofs.YtnhelcmddjbafaaGreatDoor.has at hh;unfold gets at hg
 split at hh
 .rename_i c t fr hq
  rw [hq]at hg;have rY:o+n<=c.size:=of_decide_eq_true hh;rw [cell_of_row w b _ c t fr hq,<-hg];simp only [List.getElem?_toArray];rw [List.getElem?_take,av hi,List.getElem?_drop];simp
 .cases hh
theorem ql (hi:0<n):w.cell? ⟨b,o,none⟩=cs[0]?:=lq hh hg 0 hi
end
def Sq.EF.xO (p:EF->Prop):EF->Prop| .nil=>True| .cons _ _ _ k r=>p k/\EF.xO p r
def Sq.SF.xO (p:SF->Prop):SF->Prop| .nil=>True| .cons _ _ _ _ _ l x r=>p l/\p x/\SF.xO p r
theorem N7 {C:EF->Prop} (h:∀F,EF.xO C F->C F):∀F,C F/\EF.xO C F
 | .nil=>⟨h _ trivial,trivial⟩
 | .cons o n s k r=>by
  have a:EF.xO C (.cons o n s k r):=⟨(N7 h k).1,(N7 h r).2⟩;exact⟨h _ a,a⟩
theorem rP {C} (h:∀F,EF.xO C F->C F) (F):C F:=(N7 h F).1
theorem Jr {C:SF->Prop} (h:∀F,SF.xO C F->C F):∀F,C F/\SF.xO C F
 | .nil=>⟨h _ trivial,trivial⟩
 | .cons a1 a2 a3 a4 a5 l x r=>by
  have a:SF.xO C (.cons a1 a2 a3 a4 a5 l x r):=⟨(Jr h l).1,(Jr h x).1,(Jr h r).2⟩;exact⟨h _ a,a⟩
theorem qL {C} (h:∀F,SF.xO C F->C F) (F):C F:=(Jr h F).1
theorem xL (x:Int):IntKind.i64.wrap x=jw x:=by rw [jH,eF]
theorem PP (F):∀A n c N w,lJ w N A n F->Calls prog 217 #[.slice A n c] w λe w'=>e=.returned (.int .i64 (jw F.size))/\w=w':=by
 refine rP (C:=λF=>∀(A:Option Addr) (n c N:Nat) (w:World),lJ w N A n F->Calls prog 217 #[.slice A n c] w λe w'=>e=.returned (.int .i64 (jw F.size))/\w=w') ?_ F;intro F IH A n c N w h;refine Ax ?_;clear h IH;intro b off hm HN HA HE HI;go_enter func217,ntmps217;go_wp21
 go_loopw [3,4] (λt3 t4 wr=>∃(j acc:Nat) (R:EF),j+R.len=n/\acc+R.size=F.size/\t4=.int .i64 j/\t3=.int .i64 (jw acc)/\lU w N R b (off+j*4)/\EF.xO (λF=>∀(A:Option Addr) (n c N:Nat) (w:World),lJ w N A n F->Calls prog 217 #[.slice A n c] w λe w'=>e=.returned (.int .i64 (jw F.size))/\w=w') R/\w=wr) (λ_ t4 _=>n - (intOf t4).toNat)
 case atStart=>exact⟨0,0,F,by rw [HN.o,dU],dU _,rfl,by simp [eF],by simpa using HE.o,HI.o,rfl⟩
 case round=>
  obtain⟨j,acc,R,hj,bO,rfl,rfl,hR,hI,hw⟩:=hrel;subst hw
  cases R with
  |nil=>
   simp only [EF.len,EF.size,fC]at hj bO;subst hj;subst bO;go_wp21;go_ret;exact⟨rfl,rfl⟩
  |cons op m name k r=>
   obtain⟨hb,h1,h2,h3,⟨A',cap,b',bR,hh,hg,hl,tX,hk⟩,hr⟩:=hR;simp only [EF.len,EF.size]at hj bO;have aX:(j:Int)<n:=by omega
   obtain rfl:=HA.o ad;have hc:=lq hh hg 3 ad;have HK:=show lJ w N A' k.len k from⟨rfl,hl,b',bR,tX,hk⟩;have HIk:=J hI.1;go_wp21;refine uW (HIk.o _ _ _ N _ HK) ?_;go_wp21;go_roundw
   case rel=>exact⟨j+1,acc+(1+k.size),r,by omega,by omega,by go_num,by simp only [iE,jR];congr 2;omega,by rw [Nat.add_mul,<-gH];exact hr,hI.2,by trivial⟩
   case measure=>simp only [intOf];omega
theorem me {w w1} {p} {v} (hS:al w w1) (hb:p.block<w.heap.size) (h:w.cell? p=some v):w1.cell? p=some v:=(Kept.cell hS hb (λf=>f)).trans h
abbrev Xo (w:World) (F:SF):Prop:=∀(A:Option Addr) (n c N:Nat) (w':World),al w w'->N<=w.heap.size->jc w N A n F->Calls prog 151 #[.slice A n c] w' λe w2=>e=.returned (.int .i64 (jw F.size))/\al w' w2
theorem PX (w0) (F:SF):Xo w0 F:=by
 refine qL (C:=Xo w0) ?_ F;intro F IH A n c N w aK hN h;refine Ax ?_;clear h IH;intro b off hm HN HA HE HI;go_enter func151,ntmps151;go_wp21
 go_loopw [3,4] (λt3 t4 wr=>∃(j acc:Nat) (R:SF),j+R.len=n/\acc+R.size=F.size/\t4=.int .i64 j/\t3=.int .i64 (jw acc)/\mS w0 N R b (off+j*7)/\SF.xO (Xo w0) R/\al w wr) (λ_ t4 _=>n - (intOf t4).toNat)
 case atStart=>exact⟨0,0,F,by rw [HN.o,dU],dU _,rfl,by simp [eF],by simpa using HE.o,HI.o,kR _ _⟩
 case round=>
  obtain⟨j,acc,R,hj,bO,rfl,rfl,hR,hI,hx⟩:=hrel;have⟨HR,rh,HX⟩:=J3' hR hI hx;clear hR hI hx
  cases R with
  |nil=>
   simp only [SF.len,SF.size,fC]at hj bO;subst hj;subst bO;go_wp21;go_ret;exact⟨rfl,HX.o⟩
  |cons kind name es low high l x r=>
   obtain⟨hb,h1,h2,h3,h4,⟨eA,ec,lA,lc,xA,xc,be,oe,bl,ol,bx,ox,hh,hg,n1,n2,n3,a1,a2,a3,he,hl,AX⟩,hr⟩:=HR.o;simp only [SF.len,SF.size]at hj bO;have aX:(j:Int)<n:=by omega
   obtain rfl:=HA.o ad;have jj:=aK.trans HX.o;have rV:=jj.size;have C2:=J (me (p:=⟨b,_,none⟩) jj (show b<w0.heap.size by omega) (lq hh hg 2 ad));have C5:=J (me (p:=⟨b,_,none⟩) jj (show b<w0.heap.size by omega) (lq hh hg 5 ad));have C6:=J (me (p:=⟨b,_,none⟩) jj (show b<w0.heap.size by omega) (lq hh hg 6 ad));have ie:b<wr.heap.size:=by omega
   have KE:=J (show lJ w0 N eA es.len es from⟨rfl,n1,be,oe,a1,he⟩);refine amy ?_;intro KL KX;have⟨IL,IX,dX,sP⟩:=J4' rh.o.1 rh.o.2.1 jj hr;clear hh hg n1 n2 n3 a1 a2 a3 he hl AX h1 h2 h3 h4 HR rV jj hr;go_upto_region 5 with(fail);refine eW (λw1=>al wr w1) [(0,2),(1,2),(2,2),(3,2),(4,2),(5,2),(6,1),(9,2),(10,2),(11,2),(12,2),(13,1),(16,2),(17,2),(18,2),(19,2),(20,1),(7,0),(8,2),(14,0),(15,2),(21,0),(22,2),(23,2)] ?_;refine eX ?_;have y0:al wr wr.drew:=(kR _ wr).drew
   repeat first|refine bV ?_|refine cF y0 ahE ?_|refine cD y0 ?_
   refine ap (λK hK=>?_);go_simp;refine uW (PP es _ _ _ N _ (KE.o.ext (dX.o.trans y0) hN)) ?_;refine hK.out _ _ (λ_=>y0) ?_;clear hK K
   repeat refine bV ?_
   repeat first|refine bV ?_|refine cF y0 ahE ?_|refine cD y0 ?_
   refine ap (λK hK=>?_);go_simp;refine kU (IL.o _ _ _ N _ (dX.o.trans y0) hN KL.o) λw1 aB=>?_;have y1:=y0.trans aB;refine hK.out _ _ (λ_=>y1) ?_;clear hK K
   repeat refine bV ?_
   repeat first|refine bV ?_|refine cF y1 ahE ?_|refine cD y1 ?_
   refine ap (λK hK=>?_);go_simp;refine kU (IX.o _ _ _ N _ (dX.o.trans y1) hN KX.o) λw2 bM=>?_;have y2:=y1.trans bM;refine hK.out _ _ (λ_=>y2) ?_;clear hK K;refine fc ?_;go_wp21;go_roundw
   case rel=>exact⟨j+1,acc+(1+es.size+l.size+x.size),r,by omega,by omega,by go_num,by simp only [xL,iE,jR];congr 2;omega,by rw [Nat.add_mul,<-gH];exact sP.o,rh.o.2.2,HX.o.trans y2⟩
   case measure=>simp only [intOf];omega
theorem nr (F) (A) (n c N) (w) (hN:N<=w.heap.size) (h:jc w N A n F):Calls prog 151 #[.slice A n c] w λe w2=>e=.returned (.int .i64 (jw F.size))/\al w w2:=
 PX w F A n c N w (kR _ _) hN h
theorem lZ.ext {w w'} {N} {c} {p:Pr} (h:lZ w N c p) (hk:al w w') (hN:N<=w.heap.size):lZ w' N c p:=h.kept hk hN (λ_ f=>f.elim)
theorem Ju {n:Nat} (h:n<=1000000000000000000):jw n=n:=by simp only [eF];omega
theorem GR (c) (p) (N) (w) (hN:N<=w.heap.size) (h:lZ w N c p):Calls prog 135 #[.agg c.cells] w λe w'=>e=.returned (.int .i64 (jw (dE p)))/\al w w':=by
 refine aaL ?_;intro aK hB;have hP:=J (h.ext aK hN);have hv:=Fits.max h.vars.2.1 ad;have hq:=Fits.max h.params.2.1 ad;have ev:=J h.vars.1;have eq:=J h.params.1;have vF:=ay hN aK.size;clear h;go_enter func135,ntmps135;go_upto_region 1 with(fail);generalize hW:(w.alloc (.cells c.cells 39))=W at aK hB hP vF⊢;clear hW;generalize w.heap.size=pb at hB⊢;have hC:=J hB;refine eW (λw1=>al W w1) [(0,2),(1,1),(2,2),(3,2),(4,1),(5,2),(6,2),(7,2),(8,1),(11,2),(12,1),(15,2),(16,1),(19,2),(20,1),(23,2),(24,1),(9,0),(10,2),(13,0),(14,2),(17,0),(18,2),(21,0),(22,2),(25,0),(26,2),(27,2)] ?_;refine eX ?_;have y0:al W W.drew:=(kR _ W).drew;have bT:=J y0
 repeat first|refine bV ?_|refine cF bT.o Mz ?_|refine cD bT.o ?_
 refine ap (λK hK=>?_);go_simp;refine(nr p.start _ _ _ N _ (ay vF bT.o.size) (hP.o.start.ext bT.o vF)).mono ?_;refine VI ?_;intro w1 dR;clear hK K
 repeat refine bV ?_
 repeat first|refine bV ?_|refine cF dR.o Mz ?_|refine cD dR.o ?_
 refine ap (λK hK=>?_);go_simp;refine kU (nr p.turn _ _ _ N _ (ay vF dR.o.size) (hP.o.turn.ext dR.o vF)) λw2 aB=>?_;have fg:=J (dR.o.trans aB);clear aB;refine hK.out _ _ (λ_=>fg.o) ?_;clear hK K
 repeat refine bV ?_
 repeat first|refine bV ?_|refine cF fg.o Mz ?_|refine cD fg.o ?_
 refine ap (λK hK=>?_);go_simp;refine kU (nr p.ci _ _ _ N _ (ay vF fg.o.size) (hP.o.ci.ext fg.o vF)) λw3 aB=>?_;have eP:=J (fg.o.trans aB);clear aB;refine hK.out _ _ (λ_=>eP.o) ?_;clear hK K
 repeat refine bV ?_
 repeat first|refine bV ?_|refine cF eP.o Mz ?_|refine cD eP.o ?_
 refine ap (λK hK=>?_);go_simp;refine kU (nr p.quiet _ _ _ N _ (ay vF eP.o.size) (hP.o.quiet.ext eP.o vF)) λw4 aB=>?_;have kB:=J (eP.o.trans aB);clear aB;refine hK.out _ _ (λ_=>kB.o) ?_;clear hK K
 repeat refine bV ?_
 repeat first|refine bV ?_|refine cF kB.o Mz ?_|refine cD kB.o ?_
 refine ap (λK hK=>?_);go_simp;refine kU (nr p.bP _ _ _ N _ (ay vF kB.o.size) (hP.o.bP.ext kB.o vF)) λw5 aB=>?_;have uz:=J (kB.o.trans aB);clear aB;refine hK.out _ _ (λ_=>uz.o) ?_;clear hK K;refine fc ?_;go_wp21;go_ret;refine⟨cL ?_,aK.trans uz.o⟩;simp only [xL,iE,jR,ev.o,eq.o,dE]
 congr 1
abbrev afH (w:World) (F:EF):Prop:=∀(A:Option Addr) (n c N:Nat) (w':World),al w w'->N<=w.heap.size->lJ w N A n F->Calls prog 248 #[.slice A n c] w' λe w2=>e=.returned (.int .i64 (jw F.size))/\al w' w2
theorem Me (w0) (F:EF):afH w0 F:=by
 refine rP (C:=afH w0) ?_ F;intro F IH A n c N w aK hN h;refine Ax ?_;clear h IH;intro b off hm HN HA HE HI;go_enter func248,ntmps248;go_wp21
 go_loopw [3,10] (λt3 t10 wr=>∃(j acc:Nat) (R:EF),j+R.len=n/\acc+Gu R=F.size/\t10=.int .i64 j/\t3=.int .i64 (jw acc)/\lU w0 N R b (off+j*4)/\EF.xO (afH w0) R/\al w wr) (λ_ t10 _=>n - (intOf t10).toNat)
 case atStart=>exact⟨0,n,F,by rw [HN.o,dU],by rw [HN.o,DP],rfl,by rw [Ju ad],by simpa using HE.o,HI.o,kR _ _⟩
 case round=>
  obtain⟨j,acc,R,hj,bO,rfl,rfl,hR,hI,hx⟩:=hrel
  cases R with
  |nil=>
   simp only [EF.len,Gu,fC]at hj bO;subst hj;subst bO;go_wp21;go_ret;exact⟨rfl,hx⟩
  |cons op m name k r=>
   obtain⟨hb,h1,h2,h3,⟨A',cap,b',bR,hh,hg,hl,tX,hk⟩,hr⟩:=hR;simp only [EF.len,Gu]at hj bO;have aX:(j:Int)<n:=by omega
   obtain rfl:=HA.o ad;have jj:=aK.trans hx;refine FC ?_;intro rV jM hg' ie;have KE:=show lJ w0 N A' k.len k from⟨rfl,hl,b',bR,tX,hk⟩;have IK:=J hI.1;go_wp21;have y0:al wr _:=dS wr (.cells (aF op m name A' k.len cap) 354);refine kU (IK.o _ _ _ N _ (jj.trans y0) hN KE) λw2 bM=>?_;go_wp21;go_roundw
   case rel=>exact⟨j+1,acc+k.size,r,by omega,by omega,by go_num,by simp only [iE,jR];congr 2,by rw [Nat.add_mul,<-gH];exact hr,hI.2,hx.trans (y0.trans bM)⟩
   case measure=>simp only [intOf];omega
abbrev afI (w:World) (F:SF):Prop:=∀(A:Option Addr) (n c N:Nat) (w':World),al w w'->N<=w.heap.size->jc w N A n F->Calls prog 199 #[.slice A n c] w' λe w2=>e=.returned (.int .i64 (jw F.size))/\al w' w2
theorem Md (w0) (F:SF):afI w0 F:=by
 refine qL (C:=afI w0) ?_ F;intro F IH A n c N w aK hN h;refine Ax ?_;clear h IH;intro b off hm HN HA HE HI;go_enter func199,ntmps199;go_wp21
 go_loopw [3,10] (λt3 t10 wr=>∃(j acc:Nat) (R:SF),j+R.len=n/\acc+Gv R=F.size/\t10=.int .i64 j/\t3=.int .i64 (jw acc)/\mS w0 N R b (off+j*7)/\SF.xO (afI w0) R/\al w wr) (λ_ t10 _=>n - (intOf t10).toNat)
 case atStart=>exact⟨0,n,F,by rw [HN.o,dU],by rw [HN.o,DQ],rfl,by rw [Ju ad],by simpa using HE.o,HI.o,kR _ _⟩
 case round=>
  obtain⟨j,acc,R,hj,bO,rfl,rfl,hR,hI,hx⟩:=hrel;have⟨HR,rh,HX⟩:=J3' hR hI hx;clear hR hI hx
  cases R with
  |nil=>
   simp only [SF.len,Gv,fC]at hj bO;subst hj;subst bO;go_wp21;go_ret;exact⟨rfl,HX.o⟩
  |cons kind name es low high l x r=>
   obtain⟨hb,h1,h2,h3,h4,⟨eA,ec,lA,lc,xA,xc,be,oe,bl,ol,bx,ox,hh,hg,n1,n2,n3,a1,a2,a3,he,hl,AX⟩,hr⟩:=HR.o;simp only [SF.len,Gv]at hj bO;have aX:(j:Int)<n:=by omega
   obtain rfl:=HA.o ad;have jj:=aK.trans HX.o;refine FC ?_;intro rV jM hg' ie;have KE:=J (show lJ w0 N eA es.len es from⟨rfl,n1,be,oe,a1,he⟩);refine amy ?_;intro KL KX;have⟨IL,IX,dX,sP⟩:=J4' rh.o.1 rh.o.2.1 jj hr;clear hh hg n1 n2 n3 a1 a2 a3 he hl AX h1 h2 h3 h4 HR rV jj hr;go_upto_region 5 with(fail);have y0:al wr _:=dS wr (.cells (au kind name eA es.len ec low high lA l.len lc xA x.len xc) 288);have hB:=bN wr 288 (au kind name eA es.len ec low high lA l.len lc xA x.len xc);generalize hW:(wr.alloc (.cells (au kind name eA es.len ec low high lA l.len lc xA x.len xc) 288))=W at y0 hB⊢;clear hW jM hg';generalize wr.heap.size=pb at hB⊢;have⟨hC,gN,HXr⟩:=J3' hB (dX.o.trans y0) (HX.o.trans y0);clear HX y0;refine eW (λw1=>al W w1) [(0,2),(1,2),(2,1),(4,2),(5,1),(8,2),(9,1),(3,0),(6,0),(7,2),(10,0),(11,2),(12,2),(13,2)] ?_;refine eX ?_;refine El ?_;intro bT
   repeat first|refine bV ?_|refine cF bT.o Mz ?_|refine cD bT.o ?_
   refine ap (λK hK=>?_);go_simp;refine(Me w0 es _ _ _ N _ (gN.o.trans bT.o) hN KE.o).mono ?_;refine VI ?_;intro w1 dR;clear hK K
   repeat refine bV ?_
   repeat first|refine bV ?_|refine cF dR.o Mz ?_|refine cD dR.o ?_
   refine ap (λK hK=>?_);go_simp;refine kU (IL.o _ _ _ N _ (gN.o.trans dR.o) hN KL.o) λw2 aB=>?_;have fg:=J (dR.o.trans aB);clear aB;refine hK.out _ _ (λ_=>fg.o) ?_;clear hK K
   repeat refine bV ?_
   repeat first|refine bV ?_|refine cF fg.o Mz ?_|refine cD fg.o ?_
   refine ap (λK hK=>?_);go_simp;refine kU (IX.o _ _ _ N _ (gN.o.trans fg.o) hN KX.o) λw3 aB=>?_;have eP:=J (fg.o.trans aB);clear aB;refine hK.out _ _ (λ_=>eP.o) ?_;clear hK K;refine fc ?_;go_wp21;go_roundw
   case rel=>exact⟨j+1,acc+(es.size+l.size+x.size),r,by omega,by omega,by go_num,by simp only [xL,iE,jR];congr 2,by rw [Nat.add_mul,<-gH];exact sP.o,rh.o.2.2,HXr.o.trans eP.o⟩
   case measure=>simp only [intOf];omega
theorem nW (F) (A) (n c N) (w) (hN:N<=w.heap.size) (h:jc w N A n F):Calls prog 199 #[.slice A n c] w λe w2=>e=.returned (.int .i64 (jw F.size))/\al w w2:=
 Md w F A n c N w (kR _ _) hN h
def PG (p:Pr):Nat->Nat
 |0=>p.vars.length+p.params.length
 |1=>p.vars.length+p.params.length+p.start.size
 |2=>p.vars.length+p.params.length+p.start.size+p.turn.size
 |3=>p.vars.length+p.params.length+p.start.size+p.turn.size+p.ci.size
 |4=>p.vars.length+p.params.length+p.start.size+p.turn.size+p.ci.size+p.quiet.size
 |_=>dE p
theorem pM (a b c d f:iu) (k:Nat) (hk:k<5) (w:World):(Instr.index 227 (.agg #[a.v,b.v,c.v,d.v,f.v]) (.int .i64 k)).run prog w=.ok ([a.v,b.v,c.v,d.v,f.v].getD k undef) w:=by
 have hs:∀w,(sizeOf 161).run prog w=.ok 1 w:=λw=>qN bd w
 rcases(by omega:k=0∨k=1∨k=2∨k=3∨k=4)with rfl|rfl|rfl|rfl|rfl<;>
  simp [Instr.index,run_underlying underlying227,asIntOf,hs,part,isAgg,run_underlying underlying161,go_sem]
theorem nt (c) (p) (N) (w) (hN:N<=w.heap.size) (h:lZ w N c p):Calls prog 137 #[.agg c.cells] w λe w'=>e=.returned (.int .i64 (jw (dE p)))/\al w w':=by
 have aK:=dz w (.cells c.cells 163);have hB:=bN w 163 c.cells;have hP:=h.ext aK hN;have hv:=Fits.max h.vars.2.1 ad;have hq:=Fits.max h.params.2.1 ad;have ev:=J h.vars.1;have eq:=J h.params.1;have vF:=ay hN aK.size;go_enter func137,ntmps137;go_upto_region 1 with(fail);generalize hW:(w.alloc (.cells c.cells 163))=W at aK hB hP vF⊢;have hc1:=bC hB;have aX:=hB.lt;generalize w.heap.size=pb at hB hc1 aX⊢;go_wp21
 go_loopw [3,24] (λt3 t24 wr=>∃(j:Nat),j<=5/\t24=.int .i64 j/\t3=.int .i64 (jw (PG p j))/\al W wr) (λ_ t24 _=>5 - (intOf t24).toNat)
 case atStart=>exact⟨0,by omega,rfl,by simp only [PG,ev.o,eq.o];rw [Ju (by have:=ev.o;have:=eq.o;omega)];simp,kR _ _⟩
 case round=>
  obtain⟨j,hj,rfl,rfl,hx⟩:=hrel
  rcases(by omega:j=0∨j=1∨j=2∨j=3∨j=4∨j=5)with rfl|rfl|rfl|rfl|rfl|rfl
  .have qx:(Instr.index 227 (.agg #[c.start.v,c.turn.v,c.ci.v,c.quiet.v,c.bP.v]) (.int .i64 0)).run prog wr=.ok c.start.v wr:=pM c.start c.turn c.ci c.quiet c.bP 0 ad wr
   go_wp21;refine kU (nW p.start _ _ _ N _ (ay vF hx.size) (hP.start.ext hx vF)) λw1 aB=>?_;go_wp21;go_roundw
   case rel=>exact⟨1,by omega,rfl,by simp only [iE,jR,PG];congr 2,hx.trans aB⟩
   case measure=>simp [intOf]
  .have qx:(Instr.index 227 (.agg #[c.start.v,c.turn.v,c.ci.v,c.quiet.v,c.bP.v]) (.int .i64 1)).run prog wr=.ok c.turn.v wr:=pM c.start c.turn c.ci c.quiet c.bP 1 ad wr
   go_wp21;refine kU (nW p.turn _ _ _ N _ (ay vF hx.size) (hP.turn.ext hx vF)) λw1 aB=>?_;go_wp21;go_roundw
   case rel=>exact⟨2,by omega,rfl,by simp only [iE,jR,PG];congr 2,hx.trans aB⟩
   case measure=>simp [intOf]
  .have qx:(Instr.index 227 (.agg #[c.start.v,c.turn.v,c.ci.v,c.quiet.v,c.bP.v]) (.int .i64 2)).run prog wr=.ok c.ci.v wr:=pM c.start c.turn c.ci c.quiet c.bP 2 ad wr
   go_wp21;refine kU (nW p.ci _ _ _ N _ (ay vF hx.size) (hP.ci.ext hx vF)) λw1 aB=>?_;go_wp21;go_roundw
   case rel=>exact⟨3,by omega,rfl,by simp only [iE,jR,PG];congr 2,hx.trans aB⟩
   case measure=>simp [intOf]
  .have qx:(Instr.index 227 (.agg #[c.start.v,c.turn.v,c.ci.v,c.quiet.v,c.bP.v]) (.int .i64 3)).run prog wr=.ok c.quiet.v wr:=pM c.start c.turn c.ci c.quiet c.bP 3 ad wr
   go_wp21;refine kU (nW p.quiet _ _ _ N _ (ay vF hx.size) (hP.quiet.ext hx vF)) λw1 aB=>?_;go_wp21;go_roundw
   case rel=>exact⟨4,by omega,rfl,by simp only [iE,jR,PG];congr 2,hx.trans aB⟩
   case measure=>simp [intOf]
  .have qx:(Instr.index 227 (.agg #[c.start.v,c.turn.v,c.ci.v,c.quiet.v,c.bP.v]) (.int .i64 4)).run prog wr=.ok c.bP.v wr:=pM c.start c.turn c.ci c.quiet c.bP 4 ad wr
   go_wp21;refine kU (nW p.bP _ _ _ N _ (ay vF hx.size) (hP.bP.ext hx vF)) λw1 aB=>?_;go_wp21;go_roundw
   case rel=>exact⟨5,by omega,rfl,by simp only [iE,jR,PG,dE];congr 2,hx.trans aB⟩
   case measure=>simp [intOf]
  .go_wp21
   go_ret;exact⟨rfl,aK.trans hx⟩
theorem wJ:∀F:EF,0<=F.deep/\F.deep<=9223372036854775807
 | .nil=>by simp [EF.deep]
 | .cons _ _ _ k r=>by
  have:=wJ r;have:-9223372036854775808<=jw (1+k.deep)/\jw (1+k.deep)<=9223372036854775807:=by rw [eF];omega
  rw [EF.deep]
  omega
abbrev afg (w:World) (F:EF):Prop:=∀(A:Option Addr) (n c N:Nat) (op m:Int) (name:ByteArray) (w':World),al w w'->N<=w.heap.size->lJ w N A n F->Calls prog 275 #[.agg (aF op m name A n c)] w' λe w2=>e=.returned (.int .i64 (jw (1+F.deep)))/\al w' w2
theorem UM (w0) (F:EF):afg w0 F:=by
 refine rP (C:=afg w0) ?_ F;intro F IH A n c N op m name w aK hN h;refine Ax ?_;clear h IH;intro b off hm HN HA HE HI;have aB:=dz w (.cells (aF op m name A n c) 221);have hB:=bN w 221 (aF op m name A n c);go_enter func275,ntmps275;go_upto_region 1 with(fail);have dX:=J (aK.trans aB);have gN:=J aB;generalize hW:(w.alloc (.cells (aF op m name A n c) 221))=W at hB dX gN⊢;clear hW aB;generalize w.heap.size=pb at hB⊢;have hC:=J hB;clear hB;go_wp21
 go_loopw [3,4] (λt3 t4 wr=>∃(j:Nat) (acc:Int) (R:EF),j+R.len=n/\max acc R.deep=F.deep/\0<=acc/\t4=.int .i64 j/\t3=.int .i64 acc/\lU w0 N R b (off+j*4)/\EF.xO (afg w0) R/\al W wr) (λ_ t4 _=>n - (intOf t4).toNat)
 case atStart=>exact⟨0,0,F,by rw [HN.o,dU],by have:=wJ F;omega,Int.le_refl _,rfl,rfl,by simpa using HE.o,HI.o,kR _ _⟩
 case round=>
  obtain⟨j,acc,R,hj,bO,hnn,rfl,rfl,hR,hI,hx⟩:=hrel;have sO:=J hnn;clear hnn;have⟨HR,rh,HX⟩:=J3' hR hI hx;have uP:=bC (bX hC.o hx);have gy:=(bX hC.o hx).lt;clear hR hI hx
  cases R with
  |nil=>
   simp only [EF.len,EF.deep,fC]at hj bO;subst hj;have cr:=J bO;clear bO;go_wp21;go_ret;refine⟨cL ?_,gN.o.trans HX.o⟩;have h1:=cr.o;have h3:=sO.o;have h2:=(wJ F).1;rw [show acc=F.deep by omega];show jw _=_
   congr 1<;>omega
  |cons sq m' name' k r=>
   obtain⟨hb,h1,h2,h3,⟨A',cap,b',bR,hh,hg,hl,tX,hk⟩,hr⟩:=HR.o;simp only [EF.len,EF.deep]at hj bO;have cr:=J bO;clear bO;have aX:(j:Int)<n:=by omega
   obtain rfl:=HA.o ad;have jj:=dX.o.trans HX.o;refine FC ?_;intro rV jM hg' ie;have⟨KE,IK,J_,sP⟩:=J4' (show lJ w0 N A' k.len k from⟨rfl,hl,b',bR,tX,hk⟩) rh.o.1 jj hr;clear hh hg hl tX hk h1 h2 h3 HR rV jj hr;go_wp21;refine kU (IK.o _ _ _ N _ _ _ _ J_.o hN KE.o) λw2 bM=>?_;obtain⟨d,hd⟩:=nm' (jw (1+k.deep));rw [<-hd];have HD:=J hd;clear hd
   by_cases jb:acc<d
   .go_wp21
    go_roundw
    case rel=>exact⟨j+1,d,r,by omega,by have:=cr.o;have:=HD.o;omega,by have:=sO.o;omega,by go_num,rfl,by rw [Nat.add_mul,<-gH];exact sP.o,rh.o.2,HX.o.trans bM⟩
    case measure=>simp only [intOf];omega
   .go_wp21
    go_roundw
    case rel=>exact⟨j+1,acc,r,by omega,by have:=cr.o;have:=HD.o;omega,by have:=sO.o;omega,by go_num,rfl,by rw [Nat.add_mul,<-gH];exact sP.o,rh.o.2,HX.o.trans bM⟩
    case measure=>simp only [intOf];omega
abbrev afh (w:World) (F:EF):Prop:=∀(A:Option Addr) (n c N:Nat) (op m:Int) (name:ByteArray) (w':World),al w w'->N<=w.heap.size->lJ w N A n F->Calls prog 334 #[.agg (aF op m name A n c)] w' λe w2=>e=.returned (.int .i64 (jw (1+F.deep)))/\al w' w2
theorem UX (w0) (F:EF):afh w0 F:=by
 refine rP (C:=afh w0) ?_ F;intro F IH A n c N op m name w aK hN h;refine Ax ?_;clear h IH;intro b off hm HN HA HE HI;have aB:=dz w (.cells (aF op m name A n c) 354);have dX:=J (aK.trans aB);have gN:=J aB;clear aB;go_enter func334,ntmps334;go_upto_region 1 with(fail);go_wp21
 go_loopw [3,9] (λt3 t9 wr=>∃(j:Nat) (acc:Int) (R:EF),j+R.len=n/\max acc R.deep=F.deep/\0<=acc/\t9=.int .i64 j/\t3=.int .i64 acc/\lU w0 N R b (off+j*4)/\EF.xO (afh w0) R/\al (w.alloc (.cells (aF op m name A n c) 354)) wr) (λ_ t9 _=>n - (intOf t9).toNat)
 case atStart=>exact⟨0,0,F,by rw [HN.o,dU],by have:=wJ F;omega,Int.le_refl _,rfl,rfl,by simpa using HE.o,HI.o,kR _ _⟩
 case round=>
  obtain⟨j,acc,R,hj,bO,hnn,rfl,rfl,hR,hI,hx⟩:=hrel;have sO:=J hnn;clear hnn;have⟨HR,rh,HX⟩:=J3' hR hI hx;clear hR hI hx
  cases R with
  |nil=>
   simp only [EF.len,EF.deep,fC]at hj bO;subst hj;have cr:=J bO;clear bO;go_wp21;go_ret;refine⟨cL ?_,gN.o.trans HX.o⟩;have h1:=cr.o;have h3:=sO.o;have h2:=(wJ F).1;rw [show acc=F.deep by omega]
  |cons sq m' name' k r=>
   obtain⟨hb,h1,h2,h3,⟨A',cap,b',bR,hh,hg,hl,tX,hk⟩,hr⟩:=HR.o;simp only [EF.len,EF.deep]at hj bO;have cr:=J bO;clear bO;have aX:(j:Int)<n:=by omega
   obtain rfl:=HA.o ad;have jj:=dX.o.trans HX.o;refine FC ?_;intro rV jM hg' ie;have⟨KE,IK,J_,sP⟩:=J4' (show lJ w0 N A' k.len k from⟨rfl,hl,b',bR,tX,hk⟩) rh.o.1 jj hr;clear hh hg hl tX hk h1 h2 h3 HR rV jj hr;go_wp21;have y0:al wr _:=dS wr (.cells (aF sq m' name' A' k.len cap) 354);refine kU (IK.o _ _ _ N _ _ _ _ (J_.o.trans y0) hN KE.o) λw2 bM=>?_;obtain⟨d,hd⟩:=nm' (jw (1+k.deep));rw [<-hd];have HD:=J hd;clear hd;go_wp21;go_roundw
   case rel=>exact⟨j+1,max acc d,r,by omega,by have:=cr.o;have:=HD.o;omega,by have:=sO.o;omega,by go_num,by congr 1<;>(split<;>omega),by rw [Nat.add_mul,<-gH];exact sP.o,rh.o.2,HX.o.trans (y0.trans bM)⟩
   case measure=>simp only [intOf];omega
def xU (w:World) (D:Nat->Prop):EF->Nat->Nat->Prop
 | .nil,_,_=>True
 | .cons op n name k r,b,off=>D b/\aI op/\aI n/\name.size<=maxLen/\(∃A cap b' bR,Proofs.YtnhelcmddjbafaaGreatDoor.has w b off 4=true/\gets w b off 4=aF op n name A k.len cap/\Fits k.len 56/\(0<k.len->A=some ⟨b',bR,none⟩)/\xU w D k b' bR)/\xU w D r b (off+4)
def xV (w:World) (D:Nat->Prop) (A:Option Addr) (n:Nat) (F:EF):Prop:=n=F.len/\Fits n 56/\∃b off,(0<n->A=some ⟨b,off,none⟩)/\xU w D F b off
def yk (w:World) (D:Nat->Prop):SF->Nat->Nat->Prop
 | .nil,_,_=>True
 | .cons kind name e low high l x r,b,off=>D b/\aI kind/\aI low/\aI high/\name.size<=maxLen/\
  (∃eA ec lA lc xA xc be oe bl ol bx ox,Proofs.YtnhelcmddjbafaaGreatDoor.has w b off 7=true/\gets w b off 7=au kind name eA e.len ec low high lA l.len lc xA x.len xc/\Fits e.len 56/\Fits l.len 112/\Fits x.len 112/\
   (0<e.len->eA=some ⟨be,oe,none⟩)/\(0<l.len->lA=some ⟨bl,ol,none⟩)/\(0<x.len->xA=some ⟨bx,ox,none⟩)/\xU w D e be oe/\yk w D l bl ol/\yk w D x bx ox)/\yk w D r b (off+7)
def AF (w:World) (D:Nat->Prop) (A:Option Addr) (n:Nat) (F:SF):Prop:=n=F.len/\Fits n 112/\∃b off,(0<n->A=some ⟨b,off,none⟩)/\yk w D F b off
section
variable {S:Nat->Prop} {w w':World} {D D':Nat->Prop}
theorem xU.kept (hk:Kept S w w') (hD:∀i,D i->i<w.heap.size/\¬S i):∀{F:EF} {b off:Nat},xU w D F b off->xU w' D F b off
 | .nil,_,_,_=>trivial
 | .cons _ _ _ _ _,b,off,h=>by
  obtain⟨hb,h1,h2,h3,⟨A,cap,b',bR,hh,hg,hl,hA,kh⟩,hr⟩:=h;obtain⟨q1,q2⟩:=hD b hb;exact⟨hb,h1,h2,h3,⟨A,cap,b',bR,by rw [jK hk q1 q2];exact hh,by rw [iO hk q1 q2];exact hg,hl,hA,kh.kept hk hD⟩,hr.kept hk hD⟩
theorem xU.mono (hD:∀i,D i->D' i):∀{F:EF} {b off:Nat},xU w D F b off->xU w D' F b off
 | .nil,_,_,_=>trivial
 | .cons _ _ _ _ _,b,off,h=>by
  obtain⟨hb,h1,h2,h3,⟨A,cap,b',bR,hh,hg,hl,hA,kh⟩,hr⟩:=h;exact⟨hD b hb,h1,h2,h3,⟨A,cap,b',bR,hh,hg,hl,hA,kh.mono hD⟩,hr.mono hD⟩
theorem xU.at_ {N:Nat} (hD:∀i,D i->i<N):∀{F:EF} {b off:Nat},xU w D F b off->lU w N F b off
 | .nil,_,_,_=>trivial
 | .cons _ _ _ _ _,b,off,h=>by
  obtain⟨hb,h1,h2,h3,⟨A,cap,b',bR,hh,hg,hl,hA,kh⟩,hr⟩:=h;exact⟨hD b hb,h1,h2,h3,⟨A,cap,b',bR,hh,hg,hl,hA,kh.at_ hD⟩,hr.at_ hD⟩
theorem yk.kept (hk:Kept S w w') (hD:∀i,D i->i<w.heap.size/\¬S i):∀{F:SF} {b off:Nat},yk w D F b off->yk w' D F b off
 | .nil,_,_,_=>trivial
 | .cons _ _ _ _ _ _ _ _,b,off,h=>by
  obtain⟨hb,h1,h2,h3,h4,⟨eA,ec,lA,lc,xA,xc,be,oe,bl,ol,bx,ox,hh,hg,n1,n2,n3,a1,a2,a3,he,hl,hx⟩,hr⟩:=h;obtain⟨q1,q2⟩:=hD b hb;exact⟨hb,h1,h2,h3,h4,⟨eA,ec,lA,lc,xA,xc,be,oe,bl,ol,bx,ox,by rw [jK hk q1 q2];exact hh,by rw [iO hk q1 q2];exact hg,n1,n2,n3,a1,a2,a3,he.kept hk hD,hl.kept hk hD,hx.kept hk hD⟩,hr.kept hk hD⟩
theorem yk.mono (hD:∀i,D i->D' i):∀{F:SF} {b off:Nat},yk w D F b off->yk w D' F b off
 | .nil,_,_,_=>trivial
 | .cons _ _ _ _ _ _ _ _,b,off,h=>by
  obtain⟨hb,h1,h2,h3,h4,⟨eA,ec,lA,lc,xA,xc,be,oe,bl,ol,bx,ox,hh,hg,n1,n2,n3,a1,a2,a3,he,hl,hx⟩,hr⟩:=h;exact⟨hD b hb,h1,h2,h3,h4,⟨eA,ec,lA,lc,xA,xc,be,oe,bl,ol,bx,ox,hh,hg,n1,n2,n3,a1,a2,a3,he.mono hD,hl.mono hD,hx.mono hD⟩,hr.mono hD⟩
theorem yk.at_ {N:Nat} (hD:∀i,D i->i<N):∀{F:SF} {b off:Nat},yk w D F b off->mS w N F b off
 | .nil,_,_,_=>trivial
 | .cons _ _ _ _ _ _ _ _,b,off,h=>by
  obtain⟨hb,h1,h2,h3,h4,⟨eA,ec,lA,lc,xA,xc,be,oe,bl,ol,bx,ox,hh,hg,n1,n2,n3,a1,a2,a3,he,hl,hx⟩,hr⟩:=h;exact⟨hD b hb,h1,h2,h3,h4,⟨eA,ec,lA,lc,xA,xc,be,oe,bl,ol,bx,ox,hh,hg,n1,n2,n3,a1,a2,a3,he.at_ hD,hl.at_ hD,hx.at_ hD⟩,hr.at_ hD⟩
theorem xV.kept {A:Option Addr} {n:Nat} {F:EF} (h:xV w D A n F) (hk:Kept S w w') (hD:∀i,D i->i<w.heap.size/\¬S i):xV w' D A n F:=by
 obtain⟨h1,h2,b,off,h3,h4⟩:=h;exact⟨h1,h2,b,off,h3,h4.kept hk hD⟩
theorem xV.mono {A} {n} {F} (h:xV w D A n F) (hD:∀i,D i->D' i):xV w D' A n F:=by
 obtain⟨h1,h2,b,off,h3,h4⟩:=h;exact⟨h1,h2,b,off,h3,h4.mono hD⟩
theorem xV.at_ {N} {A} {n} {F} (h:xV w D A n F) (hD:∀i,D i->i<N):lJ w N A n F:=by
 obtain⟨h1,h2,b,off,h3,h4⟩:=h;exact⟨h1,h2,b,off,h3,h4.at_ hD⟩
theorem AF.kept {A:Option Addr} {n:Nat} {F:SF} (h:AF w D A n F) (hk:Kept S w w') (hD:∀i,D i->i<w.heap.size/\¬S i):AF w' D A n F:=by
 obtain⟨h1,h2,b,off,h3,h4⟩:=h;exact⟨h1,h2,b,off,h3,h4.kept hk hD⟩
theorem AF.mono {A} {n} {F} (h:AF w D A n F) (hD:∀i,D i->D' i):AF w D' A n F:=by
 obtain⟨h1,h2,b,off,h3,h4⟩:=h;exact⟨h1,h2,b,off,h3,h4.mono hD⟩
theorem AF.at_ {N} {A} {n} {F} (h:AF w D A n F) (hD:∀i,D i->i<N):jc w N A n F:=by
 obtain⟨h1,h2,b,off,h3,h4⟩:=h;exact⟨h1,h2,b,off,h3,h4.at_ hD⟩
end
structure Ec where (op n:Int) (name:ByteArray) (A:Option Addr) (len cap:Nat)
abbrev Ec.cells (c:Ec):Array Value:=aF c.op c.n c.name c.A c.len c.cap
structure Sc where (kind:Int) (name:ByteArray) (eA:Option Addr) (en ec:Nat) (low high:Int) (lA:Option Addr) (ln lc:Nat) (xA:Option Addr) (xn xc:Nat)
abbrev Sc.cells (c:Sc):Array Value:=au c.kind c.name c.eA c.en c.ec c.low c.high c.lA c.ln c.lc c.xA c.xn c.xc
def Sq.EF.app:EF->EF->EF| .nil,b=>b| .cons o n s k r,b=>.cons o n s k (EF.app r b)
def Sq.SF.app:SF->SF->SF| .nil,b=>b| .cons k n e a c l x r,b=>.cons k n e a c l x (SF.app r b)
theorem zy (o n:Int) (s:Str) (k r:EF):∀P:EF,(P.app (.cons o n s k .nil)).app r=P.app (.cons o n s k r)
 | .nil=>rfl
 | .cons _ _ _ _ q=>by simp only [EF.app];rw [zy o n s k r q]
theorem z' (k:Int) (n:Str) (e:EF) (a c:Int) (l x r:SF):∀P:SF,(P.app (.cons k n e a c l x .nil)).app r=P.app (.cons k n e a c l x r)
 | .nil=>rfl
 | .cons _ _ _ _ _ _ _ q=>by simp only [SF.app];rw [z' k n e a c l x r q]
theorem CA:∀P:EF,P.app .nil=P| .nil=>rfl| .cons _ _ _ _ q=>by rw [EF.app,CA q]
theorem DL:∀P:SF,P.app .nil=P| .nil=>rfl| .cons _ _ _ _ _ _ _ q=>by rw [SF.app,DL q]
def lV (w:World) (D:Nat->Prop):List Ec->EF->Prop
 |[],.nil=>True
 |c::l,.cons op n name k r=>c.op=op/\c.n=n/\c.name=name/\aI op/\aI n/\name.size<=maxLen/\xV w D c.A c.len k/\lV w D l r
 |_,_=>False
structure J3 (w:World) (D:Nat->Prop) (c:Sc) (kind:Int) (name:Str) (e:EF) (low high:Int) (l x:SF):Prop where
 k:c.kind=kind
 n:c.name=name
 a:c.low=low
 b:c.high=high
 k1:aI kind
 a1:aI low
 b1:aI high
 n1:name.size<=maxLen
 e:xV w D c.eA c.en e
 l:AF w D c.lA c.ln l
 x:AF w D c.xA c.xn x
def ma (w:World) (D:Nat->Prop):List Sc->SF->Prop
 |[],.nil=>True
 |c::t,.cons kind name e low high l x r=>J3 w D c kind name e low high l x/\ma w D t r
 |_,_=>False
section
variable {S:Nat->Prop} {w w':World} {D D':Nat->Prop}
theorem lV.len:∀{l:List Ec} {F:EF},lV w D l F->l.length=F.len
 |[],.nil,_=>rfl
 |_::_,.cons _ _ _ _ _,h=>by simp [EF.len,(h.2.2.2.2.2.2.2).len]
 |[],.cons _ _ _ _ _,h=>h.elim
 |_::_,.nil,h=>h.elim
theorem ma.len:∀{l:List Sc} {F:SF},ma w D l F->l.length=F.len
 |[],.nil,_=>rfl
 |_::_,.cons _ _ _ _ _ _ _ _,h=>by simp [SF.len,h.2.len]
 |[],.cons _ _ _ _ _ _ _ _,h=>h.elim
 |_::_,.nil,h=>h.elim
theorem lV.kept (hk:Kept S w w') (hD:∀i,D i->i<w.heap.size/\¬S i):∀{l:List Ec} {F:EF},lV w D l F->lV w' D l F
 |[],.nil,_=>trivial
 |_::_,.cons _ _ _ _ _,h=>⟨h.1,h.2.1,h.2.2.1,h.2.2.2.1,h.2.2.2.2.1,h.2.2.2.2.2.1,h.2.2.2.2.2.2.1.kept hk hD,(h.2.2.2.2.2.2.2).kept hk hD⟩
 |[],.cons _ _ _ _ _,h=>h.elim
 |_::_,.nil,h=>h.elim
theorem lV.mono (hD:∀i,D i->D' i):∀{l:List Ec} {F:EF},lV w D l F->lV w D' l F
 |[],.nil,_=>trivial
 |_::_,.cons _ _ _ _ _,h=>⟨h.1,h.2.1,h.2.2.1,h.2.2.2.1,h.2.2.2.2.1,h.2.2.2.2.2.1,h.2.2.2.2.2.2.1.mono hD,(h.2.2.2.2.2.2.2).mono hD⟩
 |[],.cons _ _ _ _ _,h=>h.elim
 |_::_,.nil,h=>h.elim
theorem J3.kept {c:Sc} {kind:Int} {name:Str} {e:EF} {low high:Int} {l x:SF} (hk:Kept S w w') (hD:∀i,D i->i<w.heap.size/\¬S i) (h:J3 w D c kind name e low high l x):J3 w' D c kind name e low high l x:=
 ⟨h.k,h.n,h.a,h.b,h.k1,h.a1,h.b1,h.n1,h.e.kept hk hD,h.l.kept hk hD,h.x.kept hk hD⟩
theorem J3.mono {c} {kind} {name} {e} {low high} {l x} (hD:∀i,D i->D' i) (h:J3 w D c kind name e low high l x):J3 w D' c kind name e low high l x:=
 ⟨h.k,h.n,h.a,h.b,h.k1,h.a1,h.b1,h.n1,h.e.mono hD,h.l.mono hD,h.x.mono hD⟩
theorem ma.kept (hk:Kept S w w') (hD:∀i,D i->i<w.heap.size/\¬S i):∀{l:List Sc} {F:SF},ma w D l F->ma w' D l F
 |[],.nil,_=>trivial
 |_::_,.cons _ _ _ _ _ _ _ _,h=>⟨h.1.kept hk hD,h.2.kept hk hD⟩
 |[],.cons _ _ _ _ _ _ _ _,h=>h.elim
 |_::_,.nil,h=>h.elim
theorem ma.mono (hD:∀i,D i->D' i):∀{l:List Sc} {F:SF},ma w D l F->ma w D' l F
 |[],.nil,_=>trivial
 |_::_,.cons _ _ _ _ _ _ _ _,h=>⟨h.1.mono hD,h.2.mono hD⟩
 |[],.cons _ _ _ _ _ _ _ _,h=>h.elim
 |_::_,.nil,h=>h.elim
theorem lV.snoc {c:Ec} {op n:Int} {name:Str} {k:EF} (h1:c.op=op/\c.n=n/\c.name=name/\aI op/\aI n/\name.size<=maxLen/\xV w D c.A c.len k):∀{l:List Ec} {F:EF},lV w D l F->lV w D (l++[c]) (F.app (.cons op n name k .nil))
 |[],.nil,_=>⟨h1.1,h1.2.1,h1.2.2.1,h1.2.2.2.1,h1.2.2.2.2.1,h1.2.2.2.2.2.1,h1.2.2.2.2.2.2,trivial⟩
 |_::_,.cons _ _ _ _ _,h=>⟨h.1,h.2.1,h.2.2.1,h.2.2.2.1,h.2.2.2.2.1,h.2.2.2.2.2.1,h.2.2.2.2.2.2.1,(h.2.2.2.2.2.2.2).snoc h1⟩
 |[],.cons _ _ _ _ _,h=>h.elim
 |_::_,.nil,h=>h.elim
theorem ma.snoc {c:Sc} {kind:Int} {name:Str} {e:EF} {low high:Int} {l x:SF} (h1:J3 w D c kind name e low high l x):∀{t:List Sc} {F:SF},ma w D t F->ma w D (t++[c]) (F.app (.cons kind name e low high l x .nil))
 |[],.nil,_=>⟨h1,trivial⟩
 |_::_,.cons _ _ _ _ _ _ _ _,h=>⟨h.1,h.2.snoc h1⟩
 |[],.cons _ _ _ _ _ _ _ _,h=>h.elim
 |_::_,.nil,h=>h.elim
theorem lV.shut {b:Nat} (hb:D b):∀{l:List Ec} {F:EF} {off:Nat},lV w D l F->(0<l.length->Row w b off (b_ Ec.cells l))->xU w D F b off
 |[],.nil,_,_,_=>trivial
 |c::t,.cons op n name k r,off,h,hr=>by
  obtain⟨rfl,rfl,rfl,h4,h5,h6,⟨e1,e2,b',bR,e3,e4⟩,h8⟩:=h;have aG:=hr aC;have h0:=yU (f:=Ec.cells) (k:=4) (λ_=>rfl) aG 0 aC;simp only [Nat.zero_mul,fC,List.getElem_cons_zero]at h0;refine⟨hb,h4,h5,h6,⟨c.A,c.cap,b',bR,h0.1,?_,by rw [<-e1];exact e2,λq=>e3 (by rw [e1];exact q),e4⟩,h8.shut hb (λh0t=>?_)⟩
  .rw [h0.2,<-e1]
  .have hs:=aG.sub 4 (b_ Ec.cells t).length (by show 4+_<=(b_ Ec.cells (c::t)).length;rw [jt (k:=4) (λ_=>rfl),jt (k:=4) (λ_=>rfl),dT];omega)
   refine⟨hs.1,?_,aG.lt⟩;rw [hs.2]
   congr 1
   show((c.cells.toList++b_ Ec.cells t).drop 4).take _=_;rw [List.drop_append_of_le_length aC];simp
 |[],.cons _ _ _ _ _,_,h,_=>h.elim
 |_::_,.nil,_,h,_=>h.elim
theorem ma.shut {b:Nat} (hb:D b):∀{l:List Sc} {F:SF} {off:Nat},ma w D l F->(0<l.length->Row w b off (b_ Sc.cells l))->yk w D F b off
 |[],.nil,_,_,_=>trivial
 |c::t,.cons kind name e low high l x r,off,h,hr=>by
  obtain⟨⟨rfl,rfl,rfl,rfl,h4,h5,h6,h7,⟨e1,e2,be,oe,e3,e4⟩,⟨l1,l2,bl,ol,l3,l4⟩,⟨x1,x2,bx,ox,x3,x4⟩⟩,h8⟩:=h;have aG:=hr aC;have h0:=yU (f:=Sc.cells) (k:=7) (λ_=>rfl) aG 0 aC;simp only [Nat.zero_mul,fC,List.getElem_cons_zero]at h0;refine⟨hb,h4,h5,h6,h7,⟨c.eA,c.ec,c.lA,c.lc,c.xA,c.xc,be,oe,bl,ol,bx,ox,h0.1,?_,by rw [<-e1];exact e2,by rw [<-l1];exact l2,by rw [<-x1];exact x2,λq=>e3 (by rw [e1];exact q),λq=>l3 (by rw [l1];exact q),λq=>x3 (by rw [x1];exact q),e4,l4,x4⟩,h8.shut hb (λh0t=>?_)⟩
  .rw [h0.2,<-e1,<-l1,<-x1]
  .have hs:=aG.sub 7 (b_ Sc.cells t).length (by show 7+_<=(b_ Sc.cells (c::t)).length;rw [jt (k:=7) (λ_=>rfl),jt (k:=7) (λ_=>rfl),dT];omega)
   refine⟨hs.1,?_,aG.lt⟩;rw [hs.2]
   congr 1
   show((c.cells.toList++b_ Sc.cells t).drop 7).take _=_;rw [List.drop_append_of_le_length aC];simp
 |[],.cons _ _ _ _ _ _ _ _,_,h,_=>h.elim
 |_::_,.nil,_,h,_=>h.elim
