import Derived.Test.YtnhelcmddjbafaaGreatDoorTpab
set_option maxHeartbeats 4000000
set_option maxRecDepth 100000
open Go.Proofs.Tryz
namespace Go.Proofs.YtnhelcmddjbafaaGreatDoor
namespace Mc
open Go.RowKit
def b_ (n:Nat):List Int:=if n<128 then [(n:Int)]else(128+(n:Int)%128)::b_ (n / 128)
termination_by n
decreasing_by omega
theorem ii {n:Nat} (h:n<128):b_ n=[(n:Int)]:=by rw [b_,ak h]
theorem lY {n:Nat} (h:¬n<128):b_ n=(128+(n:Int)%128)::b_ (n / 128):=by rw [b_,af h]
theorem jD:∀(k n:Nat),n<128^k->1<=k->(b_ n).length<=k
 |0,_,_,h=>by omega
 |k+1,n,hn,_=>by
  by_cases h:n<128
  .rw [ii h];simp
  .rw [lY h]
   have hk:1<=k:=by
    rcases Nat.eq_zero_or_pos k with h0|h0
    .subst h0;simp at hn;omega
    .exact h0
   have:=jD k (n / 128) (by rw [Nat.pow_succ]at hn;omega) hk;simp;omega
theorem lZ (n:Nat):0<(b_ n).length:=by
 by_cases h:n<128
 .rw [ii h];simp
 .rw [lY h];simp
theorem mN (n:Nat):bI (b_ n):=by
 induction n using Nat.strongRecOn with
 |_ n ih=>
  by_cases h:n<128
  .rw [ii h];intro x hx;simp at hx;subst hx;omega
  .rw [lY h]
   intro x hx
   rcases List.mem_cons.1 hx with rfl|hx
   .omega
   .exact ih _ ad x hx
def Qr (w w':World) (e:Ending) (l:List Int):Prop:=
 ∃g c,e=.returned (.slice (some ⟨g,0,none⟩) l.length c)/\w'.ownsRow w.heap.size 5 1 (.slice (some ⟨g,0,none⟩) l.length c) l.length (cu l)/\al w w'
theorem qf (n:Nat) (hn:n<18446744073709551616) (w:World):Calls prog 91 #[.int .u64 n] w λe w'=>Qr w w' e (b_ n):=by
 have hlen:(b_ n).length<=10:=jD 10 n ad ad;have HL:=J hlen;have HB:=J hn;clear hlen hn;go_enter func91,ntmps91;go_wp21
 go_loopw [0,3] (λt0 t3 wr=>∃(m:Nat) (done:List Int),aoR (m<=n)/\t0=.int .u64 m/\aoR (done++b_ m=b_ n)/\wr.ownsRow w.heap.size 5 1 t3 done.length (cu done)/\al w wr) (λt0 _ _=>(intOf t0).toNat)
 case atStart=>exact⟨n,[],J (cr _),rfl,J rfl,World.ownsRow_nil _ _ _ _,kR _ _⟩
 case round=>
  obtain⟨m,done,VK,rfl,hd,ho,hx⟩:=hrel;have hdl:done.length+(b_ m).length<=10:=by have h:=congrArg List.length hd.o;simp at h;have:=HL.o;omega
  have hvp:=lZ m;have pW:∀i,i<w.heap.size->(u3:Value).ownBlock=some i->False:=λi hi e=>by have:=(ho.lt i e).1;omega
  have qw:=J pW;clear pW
  by_cases aP:m<128
  .have hq:decide ((128:Int)<=m)=false:=by simp;omega
   obtain⟨v2,w2,iV,mq,eV⟩:=FT (wr.alloc (.cells #[.int .u8 (m:Int)] 5)) _ _ _ done (ho.alloc _) wr.heap.size 0 1 1 [(m:Int)] rfl (Row.cF (bN wr _ _)) ad XO;go_upto_region 5 with(fail);go_step
   iterate 4 refine kE ?_
   refine cj rfl (.tmp 15) (.tmp 18) 89 rfl rfl rfl rfl iV ?_;clear iV;go_wp21;go_ret;have hv:done++[(m:Int)]=b_ n:=by rw [<-hd.o,ii aP]
   rw [hv,show done.length+1=(b_ n).length by rw [<-hv];simp]at mq;obtain⟨g,c,hvv,_⟩:=nD mq (lZ n);subst hvv;exact⟨g,c,rfl,mq,(hx.alloc _).trans' eV qw.o⟩
  .have hq:decide ((128:Int)<=m)=true:=by simp;omega
   have ahO:(m:Int)<18446744073709551616:=by have:=HB.o;have:=VK.o;omega
   obtain⟨v2,w2,iV,mq,eV⟩:=FT (wr.alloc (.cells #[.int .u8 (128+(m:Int)%128)] 5)) _ _ _ done (ho.alloc _) wr.heap.size 0 1 1 [128+(m:Int)%128] rfl (Row.cF (bN wr _ _)) ad XO;have aep:al w w2:=(hx.alloc _).trans' eV qw.o;go_upto_region 3 with(fail);go_step
   iterate 6 refine kE ?_
   refine cj rfl (.tmp 6) (.tmp 11) 89 rfl rfl rfl rfl iV ?_;clear iV ho;go_wp21;go_roundw
   case rel=>exact⟨m / 128,done++[128+(m:Int)%128],J (by have:=VK.o;omega),by go_num,J (by rw [<-hd.o,lY aP];simp),by rw [dn];exact mq,aep⟩
   case measure=>simp only [intOf];omega
def eX (n:Int):Nat:=if n<0 then(2*(-(n+1))+1).toNat else(2*n).toNat
theorem Bm {n:Int} (h0:-9223372036854775808<=n) (h1:n<=9223372036854775807):eX n<18446744073709551616:=by
 unfold eX;split<;>omega
theorem Sj (n:Int) (h0:-9223372036854775808<=n) (h1:n<=9223372036854775807) (w:World):Calls prog 92 #[.int .i64 n] w λe w'=>e=.returned (.int .u64 (eX n))/\w=w':=by
 unfold eX
 by_cases h:n<0
 .rw [ak h]
  go_enter func92,ntmps92
  go_wp2
  go_ret;exact⟨bB ad,rfl⟩
 .rw [af h]
  go_enter func92,ntmps92
  go_wp2
  go_ret;exact⟨bB ad,rfl⟩
def ajq (x:Int):Int:=x%4294967296
def dx (x:Int):Dg:=DT (ajq x)
def mA (pc halt words:Int) (m:Dg):Dg:=Vf [DT pc,DT halt,DT words,m]
end Mc
namespace Sq
abbrev Str:=ByteArray
inductive EF|nil|cons (op n:Int) (name:Str) (kids rest:EF)
inductive SF|nil|cons (kind:Int) (name:Str) (e:EF) (low high:Int) (l fi rest:SF)
structure Vr where (name:Str) (size low high:Int)
structure Pr where (name:Str) (aL:Int) (bY:List Int) (vars:List Vr) (start turn:SF) (params:List Vr) (cd:SF) (silent:Str) (quiet bO:SF)
structure nZ where (e:Int) (name:Str)
def EF.len:EF->Nat| .nil=>0| .cons _ _ _ _ r=>r.len+1
def SF.len:SF->Nat| .nil=>0| .cons _ _ _ _ _ _ _ r=>r.len+1
abbrev jc (x:Int):Int:=Go.RowKit.wrap64 x
theorem eu (x:Int):jc x=(x+9223372036854775808)%18446744073709551616 - 9223372036854775808:=by unfold jc Go.RowKit.wrap64;rfl
def EF.deep:EF->Int| .nil=>0| .cons _ _ _ k r=>max (jc (1+k.deep)) r.deep
def EF.size:EF->Nat| .nil=>0| .cons _ _ _ k r=>1+k.size+r.size
def SF.size:SF->Nat| .nil=>0| .cons _ _ e _ _ l x r=>1+e.size+l.size+x.size+r.size
def word (n:Int):Bool:=decide (-2147483648<=n)&&decide (n<=2147483647)
def iL (n a b:Int):Bool:=decide (a<=n)&&decide (n<=b)
def exprParts (op:Int):Nat:=if op<2 then 0 else if op<5 then 1 else 2
def stmtParts (k:Int):Nat:=if k=1∨k=8 then 2 else if k=3∨k=4∨k=5∨k=7 then 0 else 1
abbrev Kn:=Str->Nat
def pM (κ:Kn) (s:Str) (v:Nat):Kn:=λt=>if t=s then v else κ t
def a_ (κ:Kn) (l:List Str):Kn:=λt=>if l.any (λs=>decide (s=t))then 3 else κ t
def aj (a:Option nZ) (b:Option nZ):Option nZ:=match a with|some f=>some f|none=>b
@[simp] theorem aS (b:Option nZ):aj none b=b:=rfl
@[simp] theorem aT (f:nZ) (b:Option nZ):aj (some f) b=some f:=rfl
@[simp] theorem aeT (a:Option nZ):aj a none=a:=by cases a<;>rfl
theorem ay {a b:Option nZ}:aj a b=none↔a=none/\b=none:=by cases a<;>simp
theorem du (a b c:Option nZ):aj (aj a b) c=aj a (aj b c):=by cases a<;>rfl
def must (ok:Bool) (e:Int) (s:Str):Option nZ:=if ok then none else some ⟨e,s⟩
@[simp] theorem bt (e:Int) (s:Str):must true e s=none:=rfl
@[simp] theorem aM (e:Int) (s:Str):must false e s=some ⟨e,s⟩:=rfl
theorem dt {ok:Bool} {e:Int} {s:Str}:must ok e s=none↔ok=true:=by cases ok<;>simp
def E0:Str:=⟨#[]⟩
def lD (κ:Kn) (op n:Int) (name:Str) (k:Nat):Option nZ:=
 aj (must (iL op 0 17&&k==exprParts op) 3 E0)<|
 if op=0 then must (word n) 2 E0
 else if op=1∨op=2 then aj (must (κ name !=0) 6 name) (must ((κ name==2)==(op==2)) 11 name)
 else none
def mh (κ:Kn):EF->Option nZ
 | .nil=>none
 | .cons op n name k r=>aj (aj (lD κ op n name k.len) (mh κ k)) (mh κ r)
def ke (κ:Kn):EF->Option nZ
 | .nil=>none
 | .cons op n name k r=>aj (aj (must (decide (jc (1+k.deep)<=12)) 25 E0) (aj (lD κ op n name k.len) (mh κ k))) (ke κ r)
def stands (kind:Int) (part:Nat) (last:Bool):Bool:=
 if kind=4∨kind=5 then part==2 else if kind=6∨kind=7 then part==1 else if kind=8 then part==4 else if kind=9 then part==4&&last else true
def letter (c:UInt8):Bool:=(decide (97<=c)&&decide (c<=122))||(decide (65<=c)&&decide (c<=90))
def digit (c:UInt8):Bool:=decide (48<=c)&&decide (c<=57)
def inner (c:UInt8):Bool:=letter c||digit c||c==95
def words:List Str:=[⟨#[103,97,109,101]⟩,⟨#[115,101,97,116,115]⟩,⟨#[115,116,97,107,101]⟩,⟨#[118,97,114]⟩,⟨#[115,116,97,114,116]⟩,⟨#[116,117,114,110]⟩,⟨#[112,108,97,121]⟩,⟨#[115,105,108,101,110,116]⟩,⟨#[112,97,121]⟩,⟨#[101,110,100]⟩,⟨#[105,102]⟩,⟨#[116,104,101,110]⟩,⟨#[101,108,115,101]⟩,⟨#[102,111,114]⟩,⟨#[100,111]⟩,⟨#[114,101,102,117,115,101]⟩,⟨#[114,111,108,108]⟩,⟨#[115,101,97,116]⟩,⟨#[111,118,101,114]⟩,⟨#[114,101,115,116]⟩,⟨#[97,110,100]⟩,⟨#[111,114]⟩,⟨#[110,111,116]⟩]
def dq (s:Str):Bool:=decide (0<s.size)&&letter (s.data.getD 0 0)&&s.data.toList.all inner&&decide (s.size<=30)&&!(words.any (λt=>decide (t=s)))
def target (κ:Kn) (kind:Int) (name:Str) (low:Int):Option nZ:=
 aj (must (κ name !=0) 6 name)<|aj (must (κ name==(if kind=1 then 2 else 1)) 11 name)<|
 if kind=5 then must (iL low 2 1000) 2 name else none
def loop (κ:Kn) (name:Str) (low high:Int) (aO:Nat):Option nZ:=
 aj (must (dq name) 6 name)<|aj (must (κ name==0) 7 name)<|aj (must (word low&&word high&&decide (high - low<=63)) 2 name) (must (decide (aO<8)) 25 name)
def named (κ:Kn) (kind:Int) (name:Str) (low high:Int) (aO:Nat):Option nZ:=
 if kind=0∨kind=1∨kind=5 then target κ kind name low else if kind=3 then loop κ name low high aO else none
def NY:Str:=⟨#[115,116,97,114,116]⟩
def kN:Str:=⟨#[116,117,114,110]⟩
def fJ:Str:=⟨#[112,108,97,121]⟩
def Hs:Str:=⟨#[115,105,108,101,110,116]⟩
def nW:Str:=⟨#[112,97,121]⟩
def ur:Str:=⟨#[115,101,97,116,115]⟩
def gF:Str:=⟨#[115,116,97,107,101]⟩
def qP:Str:=⟨#[118,97,114]⟩
def sIf:Str:=⟨#[105,102]⟩
def bV:Nat->Str|0=>NY|1=>kN|2=>fJ|3=>Hs|_=>nW
def SF.isNil:SF->Bool| .nil=>true|_=>false
def cH (part:Nat):Kn->Nat->Bool->SF->Option nZ
 |_,_,_,.nil=>none
 |κ,aO,fy,.cons kind name e low high l fi r=>
  aj (aj (must (iL kind 0 9&&e.len==stmtParts kind) 3 E0)<|
   aj (must (stands kind part (fy&&r.isNil)) 10 (bV part))<|
   aj (named κ kind name low high aO)<|
   aj (ke κ e)<|
   if kind=2 then aj (cH part κ aO false l) (cH part κ aO false fi)
   else if kind=3 then cH part (pM κ name 3) (aO+1) false l
   else none) (cH part κ aO fy r)
def oG (part:Nat) (κ:Kn) (aO:Nat) (last:Bool) (kind:Int) (name:Str) (e:EF) (low high:Int) (l fi:SF):Option nZ:=
 aj (must (iL kind 0 9&&e.len==stmtParts kind) 3 E0)<|
  aj (must (stands kind part last) 10 (bV part))<|
  aj (named κ kind name low high aO)<|
  aj (ke κ e)<|
  if kind=2 then aj (cH part κ aO false l) (cH part κ aO false fi)
  else if kind=3 then cH part (pM κ name 3) (aO+1) false l
  else none
theorem kT (part:Nat) (κ:Kn) (aO:Nat) (fy:Bool) (kind:Int) (name:Str) (e:EF) (low high:Int) (l fi r:SF):
 cH part κ aO fy (.cons kind name e low high l fi r)=aj (oG part κ aO (fy&&r.isNil) kind name e low high l fi) (cH part κ aO fy r):=by
 rw [cH];rfl
def ends:SF->Bool
 | .nil=>false
 | .cons kind _ _ _ _ l fi r=>(kind==6||kind==7||(kind==2&&ends l&&ends fi))||ends r
def jz:SF->Bool
 | .nil=>false
 | .cons kind _ _ _ _ _ _ .nil=>kind==9
 | .cons _ _ _ _ _ _ _ r=>jz r
def fq (v:Vr):Int:=if 1<=v.size/\v.size<=64 then v.size else 1
def cells:List Vr->Int|[]=>0|v::r=>fq v+cells r
def span (v:Vr):Bool:=word v.low&&word v.high&&decide (v.low<=v.high)
def fm (l:List Vr):Kn:=λt=>match l.find? (λv=>decide (v.name=t))with|none=>0|some v=>if 0<v.size then 2 else 1
def eG:List Vr->List Vr->Option nZ
 |_,[]=>none
 |pre,v::r=>aj (must (dq v.name) 6 v.name)<|aj (must (fm pre v.name==0) 7 v.name)<|aj (must (iL v.size 0 64&&span v) 2 v.name) (eG (pre++[v]) r)
def dE (κ:Kn):List Vr->List Vr->Option nZ
 |_,[]=>none
 |pre,v::r=>aj (must (dq v.name) 6 v.name)<|aj (must (κ v.name==0&&!(pre.any (λu=>decide (u.name=v.name)))) 7 v.name)<|aj (must (v.size==0) 3 v.name)<|aj (must (span v) 2 v.name) (dE κ (pre++[v]) r)
def vE:Int->List Vr->Int|n,[]=>n|n,v::r=>vE (min (n*(min (v.high - v.low) 512+1)) 513) r
def mL (l:List Vr):Int:=if l.any (λv=>decide (v.high<v.low))then 0 else vE 1 l
def mF (p:Pr):Option nZ:=
 aj (must (dq p.name) 6 p.name)<|aj (must (iL p.aL 2 8) 2 ur)<|aj (must ((p.bY.length:Int)==p.aL) 3 gF) (must (p.bY.all (λn=>iL n 1 2147483647)) 2 gF)
def eo (p:Pr):Nat:=p.vars.length+p.params.length+p.start.size+p.turn.size+p.cd.size+p.quiet.size+p.bO.size
def partOf (p:Pr):Nat->SF|0=>p.start|1=>p.turn|2=>p.cd|3=>p.quiet|_=>p.bO
def oN (p:Pr):Nat->Kn|2=>a_ (fm p.vars) (p.params.map Vr.name)|3=>a_ (fm p.vars) [p.silent]|_=>fm p.vars
def kU (p:Pr) (i:Nat):Option nZ:=cH i (oN p i) 0 true (partOf p i)
def ka (p:Pr):Option nZ:=
 aj (mF p)<|aj (eG [] p.vars)<|aj (must (decide (cells p.vars<=64)) 8 qP)<|
 aj (must (decide (p.params.length<=4)) 8 fJ)<|aj (dE (fm p.vars) [] p.params)<|aj (must (decide (mL p.params<=512)) 8 fJ)<|
 aj (must (dq p.silent) 6 p.silent) (must (fm p.vars p.silent==0) 7 p.silent)
def check (p:Pr):Option nZ:=
 aj (ka p)<|aj (must (decide (jc (eo p)<=1000)) 5 p.name)<|
 aj (kU p 0)<|aj (kU p 1)<|aj (kU p 2)<|aj (kU p 3)<|aj (kU p 4)<|
 aj (must (ends p.turn) 4 kN) (must (jz p.bO) 4 nW)
structure FR where (kind:Int) (name:Str) (e:EF) (low high:Int) (l fi:SF)
def FR.on (s:FR) (r:SF):SF:=.cons s.kind s.name s.e s.low s.high s.l s.fi r
def part (p:Pr) (at_:Nat) (s:FR):Pr:=match at_ with
 |0=>{p with start:=s.on p.start}|1=>{p with turn:=s.on p.turn}|2=>{p with cd:=s.on p.cd}|3=>{p with quiet:=s.on p.quiet}|_=>{p with bO:=s.on p.bO}
def FR.size (s:FR):Nat:=1+s.e.size+s.l.size+s.fi.size
def xT (p:Pr) (i:Nat) (s:FR):Option nZ:=oG i (oN p i) 0 (partOf p i).isNil s.kind s.name s.e s.low s.high s.l s.fi
section
variable (p:Pr)
include p
theorem Cn (i:Nat) (s:FR):eo (part p i s)=eo p+s.size:=by
 unfold part
 split<;>simp only [eo,FR.on,SF.size,FR.size]<;>omega
theorem AP (i:Nat) (s:FR):ka (part p i s)=ka p:=by unfold part;split<;>rfl
theorem xu (i j:Nat) (s:FR):oN (part p i s) j=oN p j:=by unfold part;split<;>(unfold oN;split<;>rfl)
theorem J9 (i:Nat) (hi:i<5) (s:FR):partOf (part p i s) i=s.on (partOf p i):=by
 exact Qg
theorem vH (i j:Nat) (hi:i<5) (hj:j<5) (h:¬i=j) (s:FR):partOf (part p i s) j=partOf p j:=by
 rcases(by omega:i=0∨i=1∨i=2∨i=3∨i=4)with rfl|rfl|rfl|rfl|rfl<;>rcases(by omega:j=0∨j=1∨j=2∨j=3∨j=4)with rfl|rfl|rfl|rfl|rfl<;>first|rfl|omega
theorem Ew (i:Nat) (hi:i<5) (s:FR):kU (part p i s) i=aj (xT p i s) (kU p i):=by
 unfold kU;rw [J9 p i hi,xu,FR.on,kT]
 rfl
theorem tR (i j:Nat) (hi:i<5) (hj:j<5) (h:¬i=j) (s:FR):kU (part p i s) j=kU p j:=by
 unfold kU;rw [vH p i j hi hj h,xu]
end
theorem tQ {p:Pr}:check p=none↔ka p=none/\jc (eo p)<=1000/\kU p 0=none/\kU p 1=none/\kU p 2=none/\kU p 3=none/\kU p 4=none/\ends p.turn=true/\jz p.bO=true:=by
 unfold check;simp only [ay,dt,jP]
theorem Cm {p:Pr} (h:check p=none):∀i,i<5->kU p i=none:=λi hi=>by
 obtain⟨_,_,h0,h1,h2,h3,h4,_,_⟩:=tQ.1 h
 rcases(by omega:i=0∨i=1∨i=2∨i=3∨i=4)with rfl|rfl|rfl|rfl|rfl<;>assumption
theorem abg {n k:Nat} (h:jc n<=990) (hk:k<=10):jc ((n+k:Nat):Int)<=1000:=by simp only [eu]at*;omega
def num (n:Int):EF:=.cons 0 n E0 .nil .nil
def bad (k:Int) (i:Nat):Bool:=(decide (k<6)&&i !=2)||((k==6||k==7)&&i !=1)||(k==8&&i !=4)
def GL:FR:=⟨2,E0,.cons 99 0 E0 .nil .nil,0,0,.nil,.nil⟩
def vj:FR:=⟨3,sIf,.nil,0,0,.nil,.nil⟩
theorem UP (p:Pr) (i:Nat):xT p i GL=some ⟨3,E0⟩:=by
 unfold xT oG;simp [GL,iL,EF.len,stmtParts,stands,named,ke,lD,exprParts,EF.deep,eu]
theorem QF (p:Pr) (i:Nat):xT p i vj=some ⟨6,sIf⟩:=by
 unfold xT oG;have:dq sIf=false:=by decide
 simp [vj,iL,EF.len,stmtParts,stands,named,loop,this]
theorem Mi (p:Pr) (i j:Nat) (hi:i<5) (hj:j<5) (h:¬i=j) (s t:FR):xT (part p i s) j t=xT p j t:=by
 unfold xT;rw [vH p i j hi hj h,xu]
theorem first {p:Pr} (h:check p=none) (hs:jc (eo p)<=990) (x y:Nat) (hx:x<5) (hy:y<5) (hxy:¬x=y):
 check (part (part p x GL) y vj)=some (if y<x then⟨6,sIf⟩else⟨3,E0⟩):=by
 obtain⟨ha,_,h0,h1,h2,h3,h4,he,hl⟩:=tQ.1 h
 have hz:jc ((eo (part (part p x GL) y vj):Nat):Int)<=1000:=by
  rw [Cn,Cn,gw];exact abg hs ap
 have hX:∀j,j<5->¬j=x->¬j=y->kU (part (part p x GL) y vj) j=none:=λj hj a b=>by
  rw [tR _ y j hy hj (λe=>b e.symm),tR _ x j hx hj (λe=>a e.symm)];exact Cm h j hj
 have hPx:kU (part (part p x GL) y vj) x=some ⟨3,E0⟩:=by
  rw [tR _ y x hy hx (λe=>hxy e.symm),Ew _ _ hx,UP];rfl
 have hPy:kU (part (part p x GL) y vj) y=some ⟨6,sIf⟩:=by
  rw [Ew _ _ hy,Mi p x y hx hy hxy,QF];rfl
 unfold check;rw [AP,AP,ha,show decide (jc ((eo (part (part p x GL) y vj):Nat):Int)<=1000)=true by simpa using hz];generalize part (part p x GL) y vj=q at*;simp only [bt,aS]
 have go:∀j,j<5->kU q j=if j=x then some ⟨3,E0⟩else if j=y then some ⟨6,sIf⟩else none:=λj hj=>by
  split
  .rename_i e;rw [e];exact hPx
  .split
   .rename_i e;rw [e];exact hPy
   .exact hX j hj ‹_› ‹_›
 rw [go 0 ad,go 1 ad,go 2 ad,go 3 ad,go 4 ad]
 rcases(by omega:x=0∨x=1∨x=2∨x=3∨x=4)with rfl|rfl|rfl|rfl|rfl<;>rcases(by omega:y=0∨y=1∨y=2∨y=3∨y=4)with rfl|rfl|rfl|rfl|rfl<;>first|omega|simp
end Sq
open Go.RowKit Sq
abbrev bJ (op n:Int) (name:ByteArray) (A:Option Addr) (len cap:Nat):Array Value:=#[.int .i64 op,.int .i64 n,.string name,.slice A len cap]
abbrev aN (kind:Int) (name:ByteArray) (eA:Option Addr) (en ec:Nat) (low high:Int) (lA:Option Addr) (ln lc:Nat) (xA:Option Addr) (xn xc:Nat):Array Value:=#[.int .i64 kind,.string name,.slice eA en ec,.int .i64 low,.int .i64 high,.slice lA ln lc,.slice xA xn xc]
def Fits (n b:Nat):Prop:=n*b<=140737488355328
theorem Fits.max {n b:Nat} (h:Fits n b) (hb:8<=b):n<=17592186044416:=by
 unfold Fits at h;have:n*8<=n*b:=Nat.mul_le_mul_left _ hb
 omega
def mc (w:World) (N:Nat):EF->Nat->Nat->Prop
 | .nil,_,_=>True
 | .cons op n name k r,b,off=>b<N/\br op/\br n/\name.size<=maxLen/\(∃A cap b' bL,Proofs.YtnhelcmddjbafaaGreatDoor.has w b off 4=true/\gets w b off 4=bJ op n name A k.len cap/\Fits k.len 56/\(0<k.len->A=some ⟨b',bL,none⟩)/\mc w N k b' bL)/\mc w N r b (off+4)
def me (w:World) (N:Nat) (A:Option Addr) (n:Nat) (F:EF):Prop:=n=F.len/\Fits n 56/\∃b off,(0<n->A=some ⟨b,off,none⟩)/\mc w N F b off
def nk (w:World) (N:Nat):SF->Nat->Nat->Prop
 | .nil,_,_=>True
 | .cons kind name e low high l x r,b,off=>b<N/\br kind/\br low/\br high/\name.size<=maxLen/\
  (∃eA ec lA lc xA xc be oe bl ol bx ox,Proofs.YtnhelcmddjbafaaGreatDoor.has w b off 7=true/\gets w b off 7=aN kind name eA e.len ec low high lA l.len lc xA x.len xc/\Fits e.len 56/\Fits l.len 112/\Fits x.len 112/\
   (0<e.len->eA=some ⟨be,oe,none⟩)/\(0<l.len->lA=some ⟨bl,ol,none⟩)/\(0<x.len->xA=some ⟨bx,ox,none⟩)/\mc w N e be oe/\nk w N l bl ol/\nk w N x bx ox)/\nk w N r b (off+7)
def jm (w:World) (N:Nat) (A:Option Addr) (n:Nat) (F:SF):Prop:=n=F.len/\Fits n 112/\∃b off,(0<n->A=some ⟨b,off,none⟩)/\nk w N F b off
section
variable {S:Nat->Prop} {w w':World} (hk:Kept S w w') {g o n:Nat} (hg:g<w.heap.size) (hs:¬S g)
include S w w' hk g o n hg hs
theorem jv:Proofs.YtnhelcmddjbafaaGreatDoor.has w' g o n=Proofs.YtnhelcmddjbafaaGreatDoor.has w g o n:=by
 unfold Proofs.YtnhelcmddjbafaaGreatDoor.has;rw [hk.block g hg hs]
theorem iz:gets w' g o n=gets w g o n:=by
 unfold gets;rw [hk.block g hg hs]
end
section
variable {S:Nat->Prop} {w w':World} {N:Nat}
theorem mc.kept (hk:Kept S w w') (hN:N<=w.heap.size) (hs:∀i,S i->N<=i):∀{F:EF} {b off:Nat},mc w N F b off->mc w' N F b off
 | .nil,_,_,_=>trivial
 | .cons _ _ _ _ _,b,off,h=>by
  obtain⟨hb,h1,h2,h3,⟨A,cap,b',bL,hh,hg,hl,hA,jR⟩,hr⟩:=h;have qX:¬S b:=λq=>by have:=hs b q;omega
  exact⟨hb,h1,h2,h3,⟨A,cap,b',bL,by rw [jv hk ad qX];exact hh,by rw [iz hk ad qX];exact hg,hl,hA,jR.kept hk hN hs⟩,hr.kept hk hN hs⟩
theorem nk.kept (hk:Kept S w w') (hN:N<=w.heap.size) (hs:∀i,S i->N<=i):∀{F:SF} {b off:Nat},nk w N F b off->nk w' N F b off
 | .nil,_,_,_=>trivial
 | .cons _ _ _ _ _ _ _ _,b,off,h=>by
  obtain⟨hb,h1,h2,h3,h4,⟨eA,ec,lA,lc,xA,xc,be,oe,bl,ol,bx,ox,hh,hg,n1,n2,n3,a1,a2,a3,he,hl,hx⟩,hr⟩:=h;have qX:¬S b:=λq=>by have:=hs b q;omega
  exact⟨hb,h1,h2,h3,h4,⟨eA,ec,lA,lc,xA,xc,be,oe,bl,ol,bx,ox,by rw [jv hk ad qX];exact hh,by rw [iz hk ad qX];exact hg,n1,n2,n3,a1,a2,a3,he.kept hk hN hs,hl.kept hk hN hs,hx.kept hk hN hs⟩,hr.kept hk hN hs⟩
theorem mc.mono {N':Nat} (hN:N<=N'):∀{F:EF} {b off:Nat},mc w N F b off->mc w N' F b off
 | .nil,_,_,_=>trivial
 | .cons _ _ _ _ _,b,off,h=>by
  obtain⟨hb,h1,h2,h3,⟨A,cap,b',bL,hh,hg,hl,hA,jR⟩,hr⟩:=h;exact⟨by omega,h1,h2,h3,⟨A,cap,b',bL,hh,hg,hl,hA,jR.mono hN⟩,hr.mono hN⟩
theorem nk.mono {N':Nat} (hN:N<=N'):∀{F:SF} {b off:Nat},nk w N F b off->nk w N' F b off
 | .nil,_,_,_=>trivial
 | .cons _ _ _ _ _ _ _ _,b,off,h=>by
  obtain⟨hb,h1,h2,h3,h4,⟨eA,ec,lA,lc,xA,xc,be,oe,bl,ol,bx,ox,hh,hg,n1,n2,n3,a1,a2,a3,he,hl,hx⟩,hr⟩:=h;exact⟨by omega,h1,h2,h3,h4,⟨eA,ec,lA,lc,xA,xc,be,oe,bl,ol,bx,ox,hh,hg,n1,n2,n3,a1,a2,a3,he.mono hN,hl.mono hN,hx.mono hN⟩,hr.mono hN⟩
theorem me.kept {A:Option Addr} {n:Nat} {F:EF} (h:me w N A n F) (hk:Kept S w w') (hN:N<=w.heap.size) (hs:∀i,S i->N<=i):me w' N A n F:=by
 obtain⟨h1,h2,b,off,h3,h4⟩:=h;exact⟨h1,h2,b,off,h3,h4.kept hk hN hs⟩
theorem jm.kept {A:Option Addr} {n:Nat} {F:SF} (h:jm w N A n F) (hk:Kept S w w') (hN:N<=w.heap.size) (hs:∀i,S i->N<=i):jm w' N A n F:=by
 obtain⟨h1,h2,b,off,h3,h4⟩:=h;exact⟨h1,h2,b,off,h3,h4.kept hk hN hs⟩
theorem me.ext {A:Option Addr} {n:Nat} {F:EF} (h:me w N A n F) (hk:al w w') (hN:N<=w.heap.size):me w' N A n F:=h.kept hk hN (λ_ f=>f.elim)
theorem jm.ext {A:Option Addr} {n:Nat} {F:SF} (h:jm w N A n F) (hk:al w w') (hN:N<=w.heap.size):jm w' N A n F:=h.kept hk hN (λ_ f=>f.elim)
end
variable{dst:Option Tmp}{pos:String}{after:Array Edge}{guard:Option (Nat×Bool)}{K:Act->World->Prop}{ρ:Operand->Value}
def EX:EF->Nat| .nil=>0| .cons _ _ _ k r=>k.size+EX r
def EY:SF->Nat| .nil=>0| .cons _ _ e _ _ l x r=>e.size+l.size+x.size+EY r
theorem CA:∀F:EF,F.size=F.len+EX F
 | .nil=>rfl
 | .cons _ _ _ k r=>by rw [EF.size,EF.len,EX,CA r];omega
theorem CB:∀F:SF,F.size=F.len+EY F
 | .nil=>rfl
 | .cons _ _ e _ _ l x r=>by rw [SF.size,SF.len,EY,CB r];omega
theorem ij (a b:Int):jc (jc a+b)=jc (a+b):=by simp only [eu];omega
theorem jE (a b:Int):jc (a+jc b)=jc (a+b):=by simp only [eu];omega
abbrev aZ (v:Vr):Array Value:=#[.string v.name,.int .i64 v.size,.int .i64 v.low,.int .i64 v.high]
structure adH (v:Vr):Prop where
 name:v.name.size<=maxLen
 size:br v.size
 low:br v.low
 high:br v.high
def ri (w:World) (N:Nat) (A:Option Addr) (n:Nat) (l:List Vr):Prop:=n=l.length/\Fits n 40/\(∀v∈l,adH v)/\∃b off,(0<n->A=some ⟨b,off,none⟩)/\(0<n->b<N/\Row w b off (bZ aZ l))
theorem ri.kept {S:Nat->Prop} {w w':World} {N:Nat} {A:Option Addr} {n:Nat} {l:List Vr} (h:ri w N A n l) (hk:Kept S w w') (hs:∀i,S i->N<=i):ri w' N A n l:=by
 obtain⟨h1,h2,h3,b,off,h4,h5⟩:=h;exact⟨h1,h2,h3,b,off,h4,λh0=>⟨(h5 h0).1,(h5 h0).2.kept hk (λq=>by have:=hs b q;have:=(h5 h0).1;omega)⟩⟩
def Ut (w:World) (N:Nat) (A:Option Addr) (n:Nat) (l:List Int):Prop:=n=l.length/\Fits n 8/\(∀v∈l,br v)/\∃b off,(0<n->A=some ⟨b,off,none⟩)/\(0<n->b<N/\Row w b off (l.map (Value.int .i64)))
theorem Ut.kept {S:Nat->Prop} {w w':World} {N:Nat} {A:Option Addr} {n:Nat} {l:List Int} (h:Ut w N A n l) (hk:Kept S w w') (hs:∀i,S i->N<=i):Ut w' N A n l:=by
 obtain⟨h1,h2,h3,b,off,h4,h5⟩:=h;exact⟨h1,h2,h3,b,off,h4,λh0=>⟨(h5 h0).1,(h5 h0).2.kept hk (λq=>by have:=hs b q;have:=(h5 h0).1;omega)⟩⟩
structure i_ where (A:Option Addr) (n c:Nat)
abbrev i_.v (s:i_):Value:=.slice s.A s.n s.c
structure Pc where (name:ByteArray) (aL:Int) (bY vars start turn params cd:i_) (silent:ByteArray) (quiet bO:i_)
abbrev Pc.cells (c:Pc):Array Value:=#[.string c.name,.int .i64 c.aL,c.bY.v,c.vars.v,c.start.v,c.turn.v,c.params.v,c.cd.v,.string c.silent,c.quiet.v,c.bO.v]
structure nj (w:World) (N:Nat) (c:Pc) (p:Pr):Prop where
 name:c.name=p.name
 B7:p.name.size<=maxLen
 aL:c.aL=p.aL
 An:br p.aL
 bY:Ut w N c.bY.A c.bY.n p.bY
 vars:ri w N c.vars.A c.vars.n p.vars
 start:jm w N c.start.A c.start.n p.start
 turn:jm w N c.turn.A c.turn.n p.turn
 params:ri w N c.params.A c.params.n p.params
 cd:jm w N c.cd.A c.cd.n p.cd
 silent:c.silent=p.silent
 rL:p.silent.size<=maxLen
 quiet:jm w N c.quiet.A c.quiet.n p.quiet
 bO:jm w N c.bO.A c.bO.n p.bO
theorem nj.kept {S:Nat->Prop} {w w':World} {N:Nat} {c:Pc} {p:Pr} (h:nj w N c p) (hk:Kept S w w') (hN:N<=w.heap.size) (hs:∀i,S i->N<=i):nj w' N c p:=
 ⟨h.name,h.B7,h.aL,h.An,h.bY.kept hk hs,h.vars.kept hk hs,h.start.kept hk hN hs,h.turn.kept hk hN hs,h.params.kept hk hs,h.cd.kept hk hN hs,h.silent,h.rL,h.quiet.kept hk hN hs,h.bO.kept hk hN hs⟩
attribute [go_sem↓high] mP
attribute [go_sem high] mP
theorem uV:ga prog 174=true:=by kernel_rfl
theorem rM:dr prog 174=some 4:=by kernel_rfl
theorem CY {eD:TypeId} {x:Operand} {a:Act} {w:World} {Q:Exit->Act->World->Prop} (hx:d' (a.eval x)=true) (hh:has w (aG (a.eval x)) (aH (a.eval x)) 4=true):
 Oper.wp prog ⟨dst,.load 174 x,eD,pos,after,guard⟩ a w K Q=K (a.put dst (.agg (gets w (aG (a.eval x)) (aH (a.eval x)) 4))) w:=aY 4 uV rM hx hh
theorem Kp {eD:TypeId} {x:Operand} {w:World} (hx:d' (ρ x)=true) (hh:has w (aG (ρ x)) (aH (ρ x)) 4=true):
 (execOp ρ ⟨dst,.load 174 x,eD,pos,after,guard⟩).run prog w=.ok (.value (.agg (gets w (aG (ρ x)) (aH (ρ x)) 4))) w:=aD 4 uV rM hx hh
attribute [go_sem] uV rM
attribute [go_sem↓high] CY Kp
attribute [go_sem high] CY
theorem uW:ga prog 232=true:=by kernel_rfl
theorem rN:dr prog 232=some 4:=by kernel_rfl
theorem CZ {eD:TypeId} {x:Operand} {a:Act} {w:World} {Q:Exit->Act->World->Prop} (hx:d' (a.eval x)=true) (hh:has w (aG (a.eval x)) (aH (a.eval x)) 4=true):
 Oper.wp prog ⟨dst,.load 232 x,eD,pos,after,guard⟩ a w K Q=K (a.put dst (.agg (gets w (aG (a.eval x)) (aH (a.eval x)) 4))) w:=aY 4 uW rN hx hh
theorem Kq {eD:TypeId} {x:Operand} {w:World} (hx:d' (ρ x)=true) (hh:has w (aG (ρ x)) (aH (ρ x)) 4=true):
 (execOp ρ ⟨dst,.load 232 x,eD,pos,after,guard⟩).run prog w=.ok (.value (.agg (gets w (aG (ρ x)) (aH (ρ x)) 4))) w:=aD 4 uW rN hx hh
attribute [go_sem] uW rN
attribute [go_sem↓high] CZ Kq
attribute [go_sem high] CZ
theorem AG:ga prog 221=true:=by kernel_rfl
theorem xG:dr prog 221=some 4:=by kernel_rfl
theorem yX {eD:TypeId} {x:Operand} {a:Act} {w:World} {Q:Exit->Act->World->Prop} (hx:d' (a.eval x)=true) (hh:has w (aG (a.eval x)) (aH (a.eval x)) 4=true):
 Oper.wp prog ⟨dst,.load 221 x,eD,pos,after,guard⟩ a w K Q=K (a.put dst (.agg (gets w (aG (a.eval x)) (aH (a.eval x)) 4))) w:=aY 4 AG xG hx hh
theorem Hc {eD:TypeId} {x:Operand} {w:World} (hx:d' (ρ x)=true) (hh:has w (aG (ρ x)) (aH (ρ x)) 4=true):
 (execOp ρ ⟨dst,.load 221 x,eD,pos,after,guard⟩).run prog w=.ok (.value (.agg (gets w (aG (ρ x)) (aH (ρ x)) 4))) w:=aD 4 AG xG hx hh
attribute [go_sem] AG xG
attribute [go_sem↓high] yX Hc
attribute [go_sem high] yX
theorem AH:ga prog 354=true:=by kernel_rfl
theorem xH:dr prog 354=some 4:=by kernel_rfl
theorem yY {eD:TypeId} {x:Operand} {a:Act} {w:World} {Q:Exit->Act->World->Prop} (hx:d' (a.eval x)=true) (hh:has w (aG (a.eval x)) (aH (a.eval x)) 4=true):
 Oper.wp prog ⟨dst,.load 354 x,eD,pos,after,guard⟩ a w K Q=K (a.put dst (.agg (gets w (aG (a.eval x)) (aH (a.eval x)) 4))) w:=aY 4 AH xH hx hh
theorem Hd {eD:TypeId} {x:Operand} {w:World} (hx:d' (ρ x)=true) (hh:has w (aG (ρ x)) (aH (ρ x)) 4=true):
 (execOp ρ ⟨dst,.load 354 x,eD,pos,after,guard⟩).run prog w=.ok (.value (.agg (gets w (aG (ρ x)) (aH (ρ x)) 4))) w:=aD 4 AH xH hx hh
attribute [go_sem] AH xH
attribute [go_sem↓high] yY Hd
attribute [go_sem high] yY
theorem AK:ga prog 223=true:=by kernel_rfl
theorem xJ:dr prog 223=some 7:=by kernel_rfl
theorem ze {eD:TypeId} {x:Operand} {a:Act} {w:World} {Q:Exit->Act->World->Prop} (hx:d' (a.eval x)=true) (hh:has w (aG (a.eval x)) (aH (a.eval x)) 7=true):
 Oper.wp prog ⟨dst,.load 223 x,eD,pos,after,guard⟩ a w K Q=K (a.put dst (.agg (gets w (aG (a.eval x)) (aH (a.eval x)) 7))) w:=aY 7 AK xJ hx hh
theorem Hj {eD:TypeId} {x:Operand} {w:World} (hx:d' (ρ x)=true) (hh:has w (aG (ρ x)) (aH (ρ x)) 7=true):
 (execOp ρ ⟨dst,.load 223 x,eD,pos,after,guard⟩).run prog w=.ok (.value (.agg (gets w (aG (ρ x)) (aH (ρ x)) 7))) w:=aD 7 AK xJ hx hh
attribute [go_sem] AK xJ
attribute [go_sem↓high] ze Hj
attribute [go_sem high] ze
theorem AL:ga prog 288=true:=by kernel_rfl
theorem xK:dr prog 288=some 7:=by kernel_rfl
theorem zf {eD:TypeId} {x:Operand} {a:Act} {w:World} {Q:Exit->Act->World->Prop} (hx:d' (a.eval x)=true) (hh:has w (aG (a.eval x)) (aH (a.eval x)) 7=true):
 Oper.wp prog ⟨dst,.load 288 x,eD,pos,after,guard⟩ a w K Q=K (a.put dst (.agg (gets w (aG (a.eval x)) (aH (a.eval x)) 7))) w:=aY 7 AL xK hx hh
theorem Hl {eD:TypeId} {x:Operand} {w:World} (hx:d' (ρ x)=true) (hh:has w (aG (ρ x)) (aH (ρ x)) 7=true):
 (execOp ρ ⟨dst,.load 288 x,eD,pos,after,guard⟩).run prog w=.ok (.value (.agg (gets w (aG (ρ x)) (aH (ρ x)) 7))) w:=aD 7 AL xK hx hh
attribute [go_sem] AL xK
attribute [go_sem↓high] zf Hl
attribute [go_sem high] zf
theorem uR:ga prog 39=true:=by kernel_rfl
theorem sM:dr prog 39=some 11:=by kernel_rfl
theorem y_ {eD:TypeId} {x:Operand} {a:Act} {w:World} {Q:Exit->Act->World->Prop} (hx:d' (a.eval x)=true) (hh:has w (aG (a.eval x)) (aH (a.eval x)) 11=true):
 Oper.wp prog ⟨dst,.load 39 x,eD,pos,after,guard⟩ a w K Q=K (a.put dst (.agg (gets w (aG (a.eval x)) (aH (a.eval x)) 11))) w:=aY 11 uR sM hx hh
theorem Hf {eD:TypeId} {x:Operand} {w:World} (hx:d' (ρ x)=true) (hh:has w (aG (ρ x)) (aH (ρ x)) 11=true):
 (execOp ρ ⟨dst,.load 39 x,eD,pos,after,guard⟩).run prog w=.ok (.value (.agg (gets w (aG (ρ x)) (aH (ρ x)) 11))) w:=aD 11 uR sM hx hh
attribute [go_sem] uR sM
attribute [go_sem↓high] y_ Hf
attribute [go_sem high] y_
theorem uS:ga prog 163=true:=by kernel_rfl
theorem sN:dr prog 163=some 11:=by kernel_rfl
theorem za {eD:TypeId} {x:Operand} {a:Act} {w:World} {Q:Exit->Act->World->Prop} (hx:d' (a.eval x)=true) (hh:has w (aG (a.eval x)) (aH (a.eval x)) 11=true):
 Oper.wp prog ⟨dst,.load 163 x,eD,pos,after,guard⟩ a w K Q=K (a.put dst (.agg (gets w (aG (a.eval x)) (aH (a.eval x)) 11))) w:=aY 11 uS sN hx hh
theorem Hg {eD:TypeId} {x:Operand} {w:World} (hx:d' (ρ x)=true) (hh:has w (aG (ρ x)) (aH (ρ x)) 11=true):
 (execOp ρ ⟨dst,.load 163 x,eD,pos,after,guard⟩).run prog w=.ok (.value (.agg (gets w (aG (ρ x)) (aH (ρ x)) 11))) w:=aD 11 uS sN hx hh
attribute [go_sem] uS sN
attribute [go_sem↓high] za Hg
attribute [go_sem high] za
theorem AJ:ga prog 243=true:=by kernel_rfl
theorem xI:dr prog 243=some 12:=by kernel_rfl
theorem yZ {eD:TypeId} {x:Operand} {a:Act} {w:World} {Q:Exit->Act->World->Prop} (hx:d' (a.eval x)=true) (hh:has w (aG (a.eval x)) (aH (a.eval x)) 12=true):
 Oper.wp prog ⟨dst,.load 243 x,eD,pos,after,guard⟩ a w K Q=K (a.put dst (.agg (gets w (aG (a.eval x)) (aH (a.eval x)) 12))) w:=aY 12 AJ xI hx hh
theorem He {eD:TypeId} {x:Operand} {w:World} (hx:d' (ρ x)=true) (hh:has w (aG (ρ x)) (aH (ρ x)) 12=true):
 (execOp ρ ⟨dst,.load 243 x,eD,pos,after,guard⟩).run prog w=.ok (.value (.agg (gets w (aG (ρ x)) (aH (ρ x)) 12))) w:=aD 12 AJ xI hx hh
attribute [go_sem] AJ xI
attribute [go_sem↓high] yZ He
attribute [go_sem high] yZ
theorem eL:ga prog 166=true:=by kernel_rfl
theorem gH:dr prog 166=some 2:=by kernel_rfl
theorem vZ {eD:TypeId} {x:Operand} {a:Act} {w:World} {Q:Exit->Act->World->Prop} (hx:d' (a.eval x)=true) (hh:has w (aG (a.eval x)) (aH (a.eval x)) 2=true):
 Oper.wp prog ⟨dst,.load 166 x,eD,pos,after,guard⟩ a w K Q=K (a.put dst (.agg (gets w (aG (a.eval x)) (aH (a.eval x)) 2))) w:=aY 2 eL gH hx hh
theorem D9 {eD:TypeId} {x:Operand} {w:World} (hx:d' (ρ x)=true) (hh:has w (aG (ρ x)) (aH (ρ x)) 2=true):
 (execOp ρ ⟨dst,.load 166 x,eD,pos,after,guard⟩).run prog w=.ok (.value (.agg (gets w (aG (ρ x)) (aH (ρ x)) 2))) w:=aD 2 eL gH hx hh
attribute [go_sem] eL gH
attribute [go_sem↓high] vZ D9
attribute [go_sem high] vZ
theorem Eo:ga prog 225=true:=by kernel_rfl
theorem qi:dr prog 225=some 2:=by kernel_rfl
theorem we {eD:TypeId} {x:Operand} {a:Act} {w:World} {Q:Exit->Act->World->Prop} (hx:d' (a.eval x)=true) (hh:has w (aG (a.eval x)) (aH (a.eval x)) 2=true):
 Oper.wp prog ⟨dst,.load 225 x,eD,pos,after,guard⟩ a w K Q=K (a.put dst (.agg (gets w (aG (a.eval x)) (aH (a.eval x)) 2))) w:=aY 2 Eo qi hx hh
attribute [go_sem] Eo qi
attribute [go_sem↓high] we
attribute [go_sem high] we
theorem Hv (a b:ByteArray):(ByteArray.toList a==ByteArray.toList b)=decide (a=b):=by
 rw [ByteArray.toList_eq,ByteArray.toList_eq,Bool.eq_iff_iff,beq_iff_eq,jP];exact⟨λh=>Go.WideShapes.bytes_inj h,λh=>by rw [h]⟩
theorem pF {a b:ByteArray} (h:a=b):(ByteArray.toList a==ByteArray.toList b)=true:=by rw [Hv];exact cJ h
theorem na {a b:ByteArray} (h:¬a=b):(ByteArray.toList a==ByteArray.toList b)=false:=by rw [Hv];exact cT h
theorem fg (n a b:Int) (w:World):Calls prog 242 #[.int .i64 n,.int .i64 a,.int .i64 b] w λe w'=>e=.returned (.bool (iL n a b))/\w=w':=by
 go_enter func242,ntmps242;go_wp21
 all_goals go_ret
 all_goals refine⟨aR ?_,rfl⟩
 all_goals (rw [Bool.eq_iff_iff];simp [iL];omega)
theorem pX (n a b:Int) (w:World):Calls prog 145 #[.int .i64 n,.int .i64 a,.int .i64 b] w λe w'=>e=.returned (.bool (iL n a b))/\w=w':=by
 go_enter func145,ntmps145;go_wp21
 all_goals go_ret
 all_goals refine⟨aR ?_,rfl⟩
 all_goals (rw [Bool.eq_iff_iff];simp [iL];omega)
theorem I3 (n:Int):iL n (-2147483648) 2147483647=word n:=rfl
theorem fT (n:Int) (w:World):Calls prog 341 #[.int .i64 n] w λe w'=>e=.returned (.bool (word n))/\w=w':=by
 go_enter func341,ntmps341;go_wp21;refine aoT (fg _ _ _ _) ?_;rw [I3];go_wp21;go_ret;exact⟨rfl,rfl⟩
theorem iZ (n:Int) (w:World):Calls prog 214 #[.int .i64 n] w λe w'=>e=.returned (.bool (word n))/\w=w':=by
 go_enter func214,ntmps214;go_wp21;refine aoT (pX _ _ _ _) ?_;rw [I3];go_wp21;go_ret;exact⟨rfl,rfl⟩
theorem kh (w:World):Calls prog 147 #[] w λe w'=>e=.returned (.agg #[.int .i64 0,.string ⟨#[]⟩])/\al w w':=by
 go_enter func147,ntmps147;go_wp21;refine bu results147 rfl rfl eL (by exact gH) (ai.ea _ _ _ _ aB) ⟨rfl,?_⟩;exact dM w _
theorem vQ (v:Vr) (w:World):Calls prog 243 #[.agg (aZ v)] w λe w'=>e=.returned (.bool (span v))/\al w w':=by
 have hx:=dY w (.cells (aZ v) 232);go_enter func243,ntmps243;go_wp21
 all_goals go_ret
 all_goals refine⟨aR ?_,hx⟩
 all_goals (rw [Bool.eq_iff_iff];simp [span,word];omega)
theorem Kx (v:Vr) (w:World):Calls prog 203 #[.agg (aZ v)] w λe w'=>e=.returned (.int .i64 (Sq.fq v))/\al w w':=by
 have hx:=dY w (.cells (aZ v) 232);go_enter func203,ntmps203;go_wp21;refine aoT (fg _ _ _ _) ?_
 cases hb:iL v.size 1 64
 all_goals
  go_wp21;go_ret;refine⟨bB ?_,hx⟩;simp only [iL,gR,Bool.and_eq_false_iff,jP,decide_eq_false_iff_not]at hb;unfold Sq.fq
  split<;>omega
theorem xd (v:Vr) (w:World):Calls prog 153 #[.agg (aZ v)] w λe w'=>e=.returned (.int .i64 (Sq.fq v))/\al w w':=by
 have hx:=dY w (.cells (aZ v) 174);go_enter func153,ntmps153;go_wp21
 all_goals go_ret
 all_goals refine⟨bB ?_,hx⟩
 all_goals (unfold Sq.fq;split<;>omega)
theorem GM (n:Int) (w:World):Calls prog 306 #[.int .i64 n] w λe w'=>e=.returned (.int .i64 (exprParts n))/\w=w':=by
 go_enter func306,ntmps306;go_wp21
 all_goals go_ret
 all_goals refine⟨bB ?_,rfl⟩
 all_goals (unfold exprParts;split<;>first|rfl|omega|(split<;>first|rfl|omega))
theorem NB (k:Int) (i:Nat) (hi:i<5) (l:Bool) (w:World):Calls prog 272 #[.int .i64 k,.int .i64 i,.bool l] w λe w'=>e=.returned (.bool (stands k i l))/\w=w':=by
 rcases(by omega:i=0∨i=1∨i=2∨i=3∨i=4)with rfl|rfl|rfl|rfl|rfl
 all_goals
  go_enter func272,ntmps272;go_wp21
  all_goals go_ret
  all_goals refine⟨aR ?_,rfl⟩
  all_goals simp_all [stands]
theorem kQ {w:World} {b o n:Nat} {cs:Array Value} (hh:Proofs.YtnhelcmddjbafaaGreatDoor.has w b o n=true) (hg:gets w b o n=cs) (i:Nat) (hi:i<n):w.cell? ⟨b,o+i,none⟩=cs[i]?:=by
 unfold Proofs.YtnhelcmddjbafaaGreatDoor.has at hh;unfold gets at hg
 split at hh
 .rename_i c t fr hq
  rw [hq]at hg;have Bx:o+n<=c.size:=of_decide_eq_true hh;rw [cell_of_row w b _ c t fr hq,<-hg];simp only [List.getElem?_toArray];rw [List.getElem?_take,ak hi,List.getElem?_drop];simp
 .cases hh
theorem pQ {w:World} {b o n:Nat} {cs:Array Value} (hh:Proofs.YtnhelcmddjbafaaGreatDoor.has w b o n=true) (hg:gets w b o n=cs) (hi:0<n):w.cell? ⟨b,o,none⟩=cs[0]?:=kQ hh hg 0 hi
def Sq.EF.wG (p:EF->Prop):EF->Prop| .nil=>True| .cons _ _ _ k r=>p k/\EF.wG p r
def Sq.SF.wG (p:SF->Prop):SF->Prop| .nil=>True| .cons _ _ _ _ _ l x r=>p l/\p x/\SF.wG p r
theorem Mt {C:EF->Prop} (h:∀F,EF.wG C F->C F):∀F,C F/\EF.wG C F
 | .nil=>⟨h _ trivial,trivial⟩
 | .cons o n s k r=>by
  have a:EF.wG C (.cons o n s k r):=⟨(Mt h k).1,(Mt h r).2⟩;exact⟨h _ a,a⟩
theorem rz {C:EF->Prop} (h:∀F,EF.wG C F->C F) (F:EF):C F:=(Mt h F).1
theorem Ht {C:SF->Prop} (h:∀F,SF.wG C F->C F):∀F,C F/\SF.wG C F
 | .nil=>⟨h _ trivial,trivial⟩
 | .cons a1 a2 a3 a4 a5 l x r=>by
  have a:SF.wG C (.cons a1 a2 a3 a4 a5 l x r):=⟨(Ht h l).1,(Ht h x).1,(Ht h r).2⟩;exact⟨h _ a,a⟩
theorem qh {C:SF->Prop} (h:∀F,SF.wG C F->C F) (F:SF):C F:=(Ht h F).1
theorem wj (x:Int):IntKind.i64.wrap x=jc x:=by rw [im,eu]
theorem NJ (F:EF):∀(A:Option Addr) (n c N:Nat) (w:World),me w N A n F->Calls prog 217 #[.slice A n c] w λe w'=>e=.returned (.int .i64 (jc F.size))/\w=w':=by
 refine rz (C:=λF=>∀(A:Option Addr) (n c N:Nat) (w:World),me w N A n F->Calls prog 217 #[.slice A n c] w λe w'=>e=.returned (.int .i64 (jc F.size))/\w=w') ?_ F;intro F IH A n c N w h;refine Le ?_;clear h IH;intro b off hm HN HA HE HI;go_enter func217,ntmps217;go_wp21
 go_loopw [3,4] (λt3 t4 wr=>∃(j acc:Nat) (R:EF),j+R.len=n/\acc+R.size=F.size/\t4=.int .i64 j/\t3=.int .i64 (jc acc)/\mc w N R b (off+j*4)/\EF.wG (λF=>∀(A:Option Addr) (n c N:Nat) (w:World),me w N A n F->Calls prog 217 #[.slice A n c] w λe w'=>e=.returned (.int .i64 (jc F.size))/\w=w') R/\w=wr) (λ_ t4 _=>n - (intOf t4).toNat)
 case atStart=>exact⟨0,0,F,by rw [HN.o,dT],dT _,rfl,by simp [eu],by simpa using HE.o,HI.o,rfl⟩
 case round=>
  obtain⟨j,acc,R,hj,bw,rfl,rfl,hR,hI,hw⟩:=hrel;subst hw;have HR:=J hR;have oD:=J hI;clear hR hI
  cases R with
  |nil=>
   simp only [EF.len,EF.size,eW]at hj bw;subst hj;subst bw;go_wp21;go_ret;exact⟨rfl,rfl⟩
  |cons op m name k r=>
   obtain⟨hb,h1,h2,h3,⟨A',cap,b',bL,hh,hg,hl,qK,hk⟩,hr⟩:=HR.o;simp only [EF.len,EF.size]at hj bw;have aP:(j:Int)<n:=by omega
   obtain rfl:=HA.o ad;have hc:=kQ hh hg 3 ad;have HK:=J (show me w N A' k.len k from⟨rfl,hl,b',bL,qK,hk⟩);have HIk:=J oD.o.1;clear hg qK hk hl h3 h1 h2;go_wp21;refine aoT (HIk.o _ _ _ N _ HK.o) ?_;go_wp21;go_roundw
   case rel=>exact⟨j+1,acc+(1+k.size),r,by omega,by omega,by go_num,by simp only [ij,jE];congr 2;omega,by rw [Nat.add_mul,<-gw];exact hr,oD.o.2,by trivial⟩
   case measure=>simp only [intOf];omega
theorem ly {w w1:World} {p:Addr} {v:Value} (hS:al w w1) (hb:p.block<w.heap.size) (h:w.cell? p=some v):w1.cell? p=some v:=(Kept.cell hS hb (λf=>f)).trans h
abbrev Uy (w:World) (F:SF):Prop:=∀(A:Option Addr) (n c N:Nat) (w':World),al w w'->N<=w.heap.size->jm w N A n F->Calls prog 151 #[.slice A n c] w' λe w2=>e=.returned (.int .i64 (jc F.size))/\al w' w2
theorem NR (w0:World) (F:SF):Uy w0 F:=by
 refine qh (C:=Uy w0) ?_ F;intro F IH A n c N w aF hN h;refine Le ?_;clear h IH;intro b off hm HN HA HE HI;go_enter func151,ntmps151;go_wp21
 go_loopw [3,4] (λt3 t4 wr=>∃(j acc:Nat) (R:SF),j+R.len=n/\acc+R.size=F.size/\t4=.int .i64 j/\t3=.int .i64 (jc acc)/\nk w0 N R b (off+j*7)/\SF.wG (Uy w0) R/\al w wr) (λ_ t4 _=>n - (intOf t4).toNat)
 case atStart=>exact⟨0,0,F,by rw [HN.o,dT],dT _,rfl,by simp [eu],by simpa using HE.o,HI.o,kR _ _⟩
 case round=>
  obtain⟨j,acc,R,hj,bw,rfl,rfl,hR,hI,hx⟩:=hrel;have⟨HR,oD,HX⟩:=J3' hR hI hx;clear hR hI hx
  cases R with
  |nil=>
   simp only [SF.len,SF.size,eW]at hj bw;subst hj;subst bw;go_wp21;go_ret;exact⟨rfl,HX.o⟩
  |cons kind name es low high l x r=>
   obtain⟨hb,h1,h2,h3,h4,⟨eA,ec,lA,lc,xA,xc,be,oe,bl,ol,bx,ox,hh,hg,n1,n2,n3,a1,a2,a3,he,hl,zL⟩,hr⟩:=HR.o;simp only [SF.len,SF.size]at hj bw;have aP:(j:Int)<n:=by omega
   obtain rfl:=HA.o ad;have iO:=aF.trans HX.o;have qB:=iO.size;have C2:=J (ly (p:=⟨b,_,none⟩) iO (show b<w0.heap.size by omega) (kQ hh hg 2 ad));have C5:=J (ly (p:=⟨b,_,none⟩) iO (show b<w0.heap.size by omega) (kQ hh hg 5 ad));have C6:=J (ly (p:=⟨b,_,none⟩) iO (show b<w0.heap.size by omega) (kQ hh hg 6 ad));have gB:b<wr.heap.size:=by omega
   have KE:=J (show me w0 N eA es.len es from⟨rfl,n1,be,oe,a1,he⟩);refine Tn ?_;intro KL KX;have⟨IL,IX,dS,qR⟩:=J4' oD.o.1 oD.o.2.1 iO hr;clear hh hg n1 n2 n3 a1 a2 a3 he hl zL h1 h2 h3 h4 HR qB iO hr;go_upto_region 5 with(fail);refine fH (λw1=>al wr w1) [(0,2),(1,2),(2,2),(3,2),(4,2),(5,2),(6,1),(9,2),(10,2),(11,2),(12,2),(13,1),(16,2),(17,2),(18,2),(19,2),(20,1),(7,0),(8,2),(14,0),(15,2),(21,0),(22,2),(23,2)] ?_;refine fI ?_;have y0:al wr wr.drew:=(kR _ wr).drew
   repeat first|refine cx ?_|refine de y0 afv ?_|refine dc y0 ?_
   refine au (λK hK=>?_);go_simp;refine aoT (NJ es _ _ _ N _ (KE.o.ext (dS.o.trans y0) hN)) ?_;refine hK.out _ _ (λ_=>y0) ?_;clear hK K
   repeat refine cx ?_
   repeat first|refine cx ?_|refine de y0 afv ?_|refine dc y0 ?_
   refine au (λK hK=>?_);go_simp;refine aoS (IL.o _ _ _ N _ (dS.o.trans y0) hN KL.o) λw1 aw=>?_;have y1:=y0.trans aw;refine hK.out _ _ (λ_=>y1) ?_;clear hK K
   repeat refine cx ?_
   repeat first|refine cx ?_|refine de y1 afv ?_|refine dc y1 ?_
   refine au (λK hK=>?_);go_simp;refine aoS (IX.o _ _ _ N _ (dS.o.trans y1) hN KX.o) λw2 bd=>?_;have y2:=y1.trans bd;refine hK.out _ _ (λ_=>y2) ?_;clear hK K;refine fx ?_;go_wp21;go_roundw
   case rel=>exact⟨j+1,acc+(1+es.size+l.size+x.size),r,by omega,by omega,by go_num,by simp only [wj,ij,jE];congr 2;omega,by rw [Nat.add_mul,<-gw];exact qR.o,oD.o.2.2,HX.o.trans y2⟩
   case measure=>simp only [intOf];omega
theorem mY (F:SF) (A:Option Addr) (n c N:Nat) (w:World) (hN:N<=w.heap.size) (h:jm w N A n F):Calls prog 151 #[.slice A n c] w λe w2=>e=.returned (.int .i64 (jc F.size))/\al w w2:=
 NR w F A n c N w (kR _ _) hN h
theorem nj.ext {w w':World} {N:Nat} {c:Pc} {p:Pr} (h:nj w N c p) (hk:al w w') (hN:N<=w.heap.size):nj w' N c p:=h.kept hk hN (λ_ f=>f.elim)
theorem H3 {n:Nat} (h:n<=1000000000000000000):jc n=n:=by simp only [eu];omega
theorem Fi (c:Pc) (p:Pr) (N:Nat) (w:World) (hN:N<=w.heap.size) (h:nj w N c p):Calls prog 135 #[.agg c.cells] w λe w'=>e=.returned (.int .i64 (jc (eo p)))/\al w w':=by
 refine X9 ?_;intro aF hB;have hP:=J (h.ext aF hN);have hv:=Fits.max h.vars.2.1 ad;have hq:=Fits.max h.params.2.1 ad;have ev:=J h.vars.1;have eq:=J h.params.1;have uE:=ax hN aF.size;clear h;go_enter func135,ntmps135;go_upto_region 1 with(fail);generalize hW:(w.alloc (.cells c.cells 39))=W at aF hB hP uE⊢;clear hW;generalize w.heap.size=pb at hB⊢;have hC:=J hB;refine fH (λw1=>al W w1) [(0,2),(1,1),(2,2),(3,2),(4,1),(5,2),(6,2),(7,2),(8,1),(11,2),(12,1),(15,2),(16,1),(19,2),(20,1),(23,2),(24,1),(9,0),(10,2),(13,0),(14,2),(17,0),(18,2),(21,0),(22,2),(25,0),(26,2),(27,2)] ?_;refine fI ?_;have y0:al W W.drew:=(kR _ W).drew;have cC:=J y0
 repeat first|refine cx ?_|refine de cC.o K7 ?_|refine dc cC.o ?_
 refine au (λK hK=>?_);go_simp;refine(mY p.start _ _ _ N _ (ax uE cC.o.size) (hP.o.start.ext cC.o uE)).mono ?_;refine To ?_;intro w1 dQ;clear hK K
 repeat refine cx ?_
 repeat first|refine cx ?_|refine de dQ.o K7 ?_|refine dc dQ.o ?_
 refine au (λK hK=>?_);go_simp;refine aoS (mY p.turn _ _ _ N _ (ax uE dQ.o.size) (hP.o.turn.ext dQ.o uE)) λw2 aw=>?_;have fp:=J (dQ.o.trans aw);clear aw;refine hK.out _ _ (λ_=>fp.o) ?_;clear hK K
 repeat refine cx ?_
 repeat first|refine cx ?_|refine de fp.o K7 ?_|refine dc fp.o ?_
 refine au (λK hK=>?_);go_simp;refine aoS (mY p.cd _ _ _ N _ (ax uE fp.o.size) (hP.o.cd.ext fp.o uE)) λw3 aw=>?_;have fL:=J (fp.o.trans aw);clear aw;refine hK.out _ _ (λ_=>fL.o) ?_;clear hK K
 repeat refine cx ?_
 repeat first|refine cx ?_|refine de fL.o K7 ?_|refine dc fL.o ?_
 refine au (λK hK=>?_);go_simp;refine aoS (mY p.quiet _ _ _ N _ (ax uE fL.o.size) (hP.o.quiet.ext fL.o uE)) λw4 aw=>?_;have lp:=J (fL.o.trans aw);clear aw;refine hK.out _ _ (λ_=>lp.o) ?_;clear hK K
 repeat refine cx ?_
 repeat first|refine cx ?_|refine de lp.o K7 ?_|refine dc lp.o ?_
 refine au (λK hK=>?_);go_simp;refine aoS (mY p.bO _ _ _ N _ (ax uE lp.o.size) (hP.o.bO.ext lp.o uE)) λw5 aw=>?_;have uJ:=J (lp.o.trans aw);clear aw;refine hK.out _ _ (λ_=>uJ.o) ?_;clear hK K;refine fx ?_;go_wp21;go_ret;refine⟨bB ?_,aF.trans uJ.o⟩;simp only [wj,ij,jE,ev.o,eq.o,eo]
 congr 1
abbrev adF (w:World) (F:EF):Prop:=∀(A:Option Addr) (n c N:Nat) (w':World),al w w'->N<=w.heap.size->me w N A n F->Calls prog 248 #[.slice A n c] w' λe w2=>e=.returned (.int .i64 (jc F.size))/\al w' w2
theorem KP (w0:World) (F:EF):adF w0 F:=by
 refine rz (C:=adF w0) ?_ F;intro F IH A n c N w aF hN h;refine Le ?_;clear h IH;intro b off hm HN HA HE HI;go_enter func248,ntmps248;go_wp21
 go_loopw [3,10] (λt3 t10 wr=>∃(j acc:Nat) (R:EF),j+R.len=n/\acc+EX R=F.size/\t10=.int .i64 j/\t3=.int .i64 (jc acc)/\mc w0 N R b (off+j*4)/\EF.wG (adF w0) R/\al w wr) (λ_ t10 _=>n - (intOf t10).toNat)
 case atStart=>exact⟨0,n,F,by rw [HN.o,dT],by rw [HN.o,CA],rfl,by rw [H3 ad],by simpa using HE.o,HI.o,kR _ _⟩
 case round=>
  obtain⟨j,acc,R,hj,bw,rfl,rfl,hR,hI,hx⟩:=hrel;have⟨HR,oD,HX⟩:=J3' hR hI hx;clear hR hI hx
  cases R with
  |nil=>
   simp only [EF.len,EX,eW]at hj bw;subst hj;subst bw;go_wp21;go_ret;exact⟨rfl,HX.o⟩
  |cons op m name k r=>
   obtain⟨hb,h1,h2,h3,⟨A',cap,b',bL,hh,hg,hl,qK,hk⟩,hr⟩:=HR.o;simp only [EF.len,EX]at hj bw;have aP:(j:Int)<n:=by omega
   obtain rfl:=HA.o ad;have iO:=aF.trans HX.o;refine Ee ?_;intro qB jx hg' gB;have⟨KE,IK,dS,qR⟩:=J4' (show me w0 N A' k.len k from⟨rfl,hl,b',bL,qK,hk⟩) oD.o.1 iO hr;clear hh hg hl qK hk h1 h2 h3 HR qB iO hr;go_wp21;have y0:al wr _:=dM wr (.cells (bJ op m name A' k.len cap) 354);refine aoS (IK.o _ _ _ N _ (dS.o.trans y0) hN KE.o) λw2 bd=>?_;go_wp21;go_roundw
   case rel=>exact⟨j+1,acc+k.size,r,by omega,by omega,by go_num,by simp only [ij,jE];congr 2,by rw [Nat.add_mul,<-gw];exact qR.o,oD.o.2,HX.o.trans (y0.trans bd)⟩
   case measure=>simp only [intOf];omega
abbrev adG (w:World) (F:SF):Prop:=∀(A:Option Addr) (n c N:Nat) (w':World),al w w'->N<=w.heap.size->jm w N A n F->Calls prog 199 #[.slice A n c] w' λe w2=>e=.returned (.int .i64 (jc F.size))/\al w' w2
theorem KO (w0:World) (F:SF):adG w0 F:=by
 refine qh (C:=adG w0) ?_ F;intro F IH A n c N w aF hN h;refine Le ?_;clear h IH;intro b off hm HN HA HE HI;go_enter func199,ntmps199;go_wp21
 go_loopw [3,10] (λt3 t10 wr=>∃(j acc:Nat) (R:SF),j+R.len=n/\acc+EY R=F.size/\t10=.int .i64 j/\t3=.int .i64 (jc acc)/\nk w0 N R b (off+j*7)/\SF.wG (adG w0) R/\al w wr) (λ_ t10 _=>n - (intOf t10).toNat)
 case atStart=>exact⟨0,n,F,by rw [HN.o,dT],by rw [HN.o,CB],rfl,by rw [H3 ad],by simpa using HE.o,HI.o,kR _ _⟩
 case round=>
  obtain⟨j,acc,R,hj,bw,rfl,rfl,hR,hI,hx⟩:=hrel;have⟨HR,oD,HX⟩:=J3' hR hI hx;clear hR hI hx
  cases R with
  |nil=>
   simp only [SF.len,EY,eW]at hj bw;subst hj;subst bw;go_wp21;go_ret;exact⟨rfl,HX.o⟩
  |cons kind name es low high l x r=>
   obtain⟨hb,h1,h2,h3,h4,⟨eA,ec,lA,lc,xA,xc,be,oe,bl,ol,bx,ox,hh,hg,n1,n2,n3,a1,a2,a3,he,hl,zL⟩,hr⟩:=HR.o;simp only [SF.len,EY]at hj bw;have aP:(j:Int)<n:=by omega
   obtain rfl:=HA.o ad;have iO:=aF.trans HX.o;refine Ee ?_;intro qB jx hg' gB;have KE:=J (show me w0 N eA es.len es from⟨rfl,n1,be,oe,a1,he⟩);refine Tn ?_;intro KL KX;have⟨IL,IX,dS,qR⟩:=J4' oD.o.1 oD.o.2.1 iO hr;clear hh hg n1 n2 n3 a1 a2 a3 he hl zL h1 h2 h3 h4 HR qB iO hr;go_upto_region 5 with(fail);have y0:al wr _:=dM wr (.cells (aN kind name eA es.len ec low high lA l.len lc xA x.len xc) 288);have hB:=bN wr 288 (aN kind name eA es.len ec low high lA l.len lc xA x.len xc);generalize hW:(wr.alloc (.cells (aN kind name eA es.len ec low high lA l.len lc xA x.len xc) 288))=W at y0 hB⊢;clear hW jx hg';generalize wr.heap.size=pb at hB⊢;have⟨hC,ji,HXr⟩:=J3' hB (dS.o.trans y0) (HX.o.trans y0);clear HX y0;refine fH (λw1=>al W w1) [(0,2),(1,2),(2,1),(4,2),(5,1),(8,2),(9,1),(3,0),(6,0),(7,2),(10,0),(11,2),(12,2),(13,2)] ?_;refine fI ?_;refine abE ?_;intro cC
   repeat first|refine cx ?_|refine de cC.o K7 ?_|refine dc cC.o ?_
   refine au (λK hK=>?_);go_simp;refine(KP w0 es _ _ _ N _ (ji.o.trans cC.o) hN KE.o).mono ?_;refine To ?_;intro w1 dQ;clear hK K
   repeat refine cx ?_
   repeat first|refine cx ?_|refine de dQ.o K7 ?_|refine dc dQ.o ?_
   refine au (λK hK=>?_);go_simp;refine aoS (IL.o _ _ _ N _ (ji.o.trans dQ.o) hN KL.o) λw2 aw=>?_;have fp:=J (dQ.o.trans aw);clear aw;refine hK.out _ _ (λ_=>fp.o) ?_;clear hK K
   repeat refine cx ?_
   repeat first|refine cx ?_|refine de fp.o K7 ?_|refine dc fp.o ?_
   refine au (λK hK=>?_);go_simp;refine aoS (IX.o _ _ _ N _ (ji.o.trans fp.o) hN KX.o) λw3 aw=>?_;have fL:=J (fp.o.trans aw);clear aw;refine hK.out _ _ (λ_=>fL.o) ?_;clear hK K;refine fx ?_;go_wp21;go_roundw
   case rel=>exact⟨j+1,acc+(es.size+l.size+x.size),r,by omega,by omega,by go_num,by simp only [wj,ij,jE];congr 2,by rw [Nat.add_mul,<-gw];exact qR.o,oD.o.2.2,HXr.o.trans fL.o⟩
   case measure=>simp only [intOf];omega
theorem nJ (F:SF) (A:Option Addr) (n c N:Nat) (w:World) (hN:N<=w.heap.size) (h:jm w N A n F):Calls prog 199 #[.slice A n c] w λe w2=>e=.returned (.int .i64 (jc F.size))/\al w w2:=
 KO w F A n c N w (kR _ _) hN h
def NC (p:Pr):Nat->Nat
 |0=>p.vars.length+p.params.length
 |1=>p.vars.length+p.params.length+p.start.size
 |2=>p.vars.length+p.params.length+p.start.size+p.turn.size
 |3=>p.vars.length+p.params.length+p.start.size+p.turn.size+p.cd.size
 |4=>p.vars.length+p.params.length+p.start.size+p.turn.size+p.cd.size+p.quiet.size
 |_=>eo p
theorem pf (a b c d f:i_) (k:Nat) (hk:k<5) (w:World):(Instr.index 227 (.agg #[a.v,b.v,c.v,d.v,f.v]) (.int .i64 k)).run prog w=.ok ([a.v,b.v,c.v,d.v,f.v].getD k undef) w:=by
 have hs:∀w,(sizeOf 161).run prog w=.ok 1 w:=λw=>qj aV w
 rcases(by omega:k=0∨k=1∨k=2∨k=3∨k=4)with rfl|rfl|rfl|rfl|rfl<;>
  simp [Instr.index,run_underlying underlying227,asIntOf,hs,part,isAgg,run_underlying underlying161,go_sem]
theorem mZ (c:Pc) (p:Pr) (N:Nat) (w:World) (hN:N<=w.heap.size) (h:nj w N c p):Calls prog 137 #[.agg c.cells] w λe w'=>e=.returned (.int .i64 (jc (eo p)))/\al w w':=by
 have aF:=dY w (.cells c.cells 163);have hB:=bN w 163 c.cells;have hP:=J (h.ext aF hN);have hv:=Fits.max h.vars.2.1 ad;have hq:=Fits.max h.params.2.1 ad;have ev:=J h.vars.1;have eq:=J h.params.1;have uE:=ax hN aF.size;clear h;go_enter func137,ntmps137;go_upto_region 1 with(fail);generalize hW:(w.alloc (.cells c.cells 163))=W at aF hB hP uE⊢;clear hW;have hc1:=bC hB;have aP:=hB.lt;generalize w.heap.size=pb at hB hc1 aP⊢;have hC:=J hB;clear hB;go_wp21
 go_loopw [3,24] (λt3 t24 wr=>∃(j:Nat),j<=5/\t24=.int .i64 j/\t3=.int .i64 (jc (NC p j))/\al W wr) (λ_ t24 _=>5 - (intOf t24).toNat)
 case atStart=>exact⟨0,by omega,rfl,by simp only [NC,ev.o,eq.o];rw [H3 (by have:=ev.o;have:=eq.o;omega)];simp,kR _ _⟩
 case round=>
  obtain⟨j,hj,rfl,rfl,hx⟩:=hrel;have HX:=J hx;clear hx
  rcases(by omega:j=0∨j=1∨j=2∨j=3∨j=4∨j=5)with rfl|rfl|rfl|rfl|rfl|rfl
  .have pU:(Instr.index 227 (.agg #[c.start.v,c.turn.v,c.cd.v,c.quiet.v,c.bO.v]) (.int .i64 0)).run prog wr=.ok c.start.v wr:=pf c.start c.turn c.cd c.quiet c.bO 0 ad wr
   go_wp21;refine aoS (nJ p.start _ _ _ N _ (ax uE HX.o.size) (hP.o.start.ext HX.o uE)) λw1 aw=>?_;go_wp21;go_roundw
   case rel=>exact⟨1,by omega,rfl,by simp only [ij,jE,NC];congr 2,HX.o.trans aw⟩
   case measure=>simp [intOf]
  .have pU:(Instr.index 227 (.agg #[c.start.v,c.turn.v,c.cd.v,c.quiet.v,c.bO.v]) (.int .i64 1)).run prog wr=.ok c.turn.v wr:=pf c.start c.turn c.cd c.quiet c.bO 1 ad wr
   go_wp21;refine aoS (nJ p.turn _ _ _ N _ (ax uE HX.o.size) (hP.o.turn.ext HX.o uE)) λw1 aw=>?_;go_wp21;go_roundw
   case rel=>exact⟨2,by omega,rfl,by simp only [ij,jE,NC];congr 2,HX.o.trans aw⟩
   case measure=>simp [intOf]
  .have pU:(Instr.index 227 (.agg #[c.start.v,c.turn.v,c.cd.v,c.quiet.v,c.bO.v]) (.int .i64 2)).run prog wr=.ok c.cd.v wr:=pf c.start c.turn c.cd c.quiet c.bO 2 ad wr
   go_wp21;refine aoS (nJ p.cd _ _ _ N _ (ax uE HX.o.size) (hP.o.cd.ext HX.o uE)) λw1 aw=>?_;go_wp21;go_roundw
   case rel=>exact⟨3,by omega,rfl,by simp only [ij,jE,NC];congr 2,HX.o.trans aw⟩
   case measure=>simp [intOf]
  .have pU:(Instr.index 227 (.agg #[c.start.v,c.turn.v,c.cd.v,c.quiet.v,c.bO.v]) (.int .i64 3)).run prog wr=.ok c.quiet.v wr:=pf c.start c.turn c.cd c.quiet c.bO 3 ad wr
   go_wp21;refine aoS (nJ p.quiet _ _ _ N _ (ax uE HX.o.size) (hP.o.quiet.ext HX.o uE)) λw1 aw=>?_;go_wp21;go_roundw
   case rel=>exact⟨4,by omega,rfl,by simp only [ij,jE,NC];congr 2,HX.o.trans aw⟩
   case measure=>simp [intOf]
  .have pU:(Instr.index 227 (.agg #[c.start.v,c.turn.v,c.cd.v,c.quiet.v,c.bO.v]) (.int .i64 4)).run prog wr=.ok c.bO.v wr:=pf c.start c.turn c.cd c.quiet c.bO 4 ad wr
   go_wp21;refine aoS (nJ p.bO _ _ _ N _ (ax uE HX.o.size) (hP.o.bO.ext HX.o uE)) λw1 aw=>?_;go_wp21;go_roundw
   case rel=>exact⟨5,by omega,rfl,by simp only [ij,jE,NC,eo];congr 2,HX.o.trans aw⟩
   case measure=>simp [intOf]
  .go_wp21
   go_ret;exact⟨rfl,aF.trans HX.o⟩
theorem vd:∀F:EF,0<=F.deep/\F.deep<=9223372036854775807
 | .nil=>by simp [EF.deep]
 | .cons _ _ _ k r=>by
  have:=vd r;have:-9223372036854775808<=jc (1+k.deep)/\jc (1+k.deep)<=9223372036854775807:=by rw [eu];omega
  rw [EF.deep]
  omega
abbrev adn (w:World) (F:EF):Prop:=∀(A:Option Addr) (n c N:Nat) (op m:Int) (name:ByteArray) (w':World),al w w'->N<=w.heap.size->me w N A n F->Calls prog 275 #[.agg (bJ op m name A n c)] w' λe w2=>e=.returned (.int .i64 (jc (1+F.deep)))/\al w' w2
theorem Sf (w0:World) (F:EF):adn w0 F:=by
 refine rz (C:=adn w0) ?_ F;intro F IH A n c N op m name w aF hN h;refine Le ?_;clear h IH;intro b off hm HN HA HE HI;have aw:=dY w (.cells (bJ op m name A n c) 221);have hB:=bN w 221 (bJ op m name A n c);go_enter func275,ntmps275;go_upto_region 1 with(fail);have dS:=J (aF.trans aw);have ji:=J aw;generalize hW:(w.alloc (.cells (bJ op m name A n c) 221))=W at hB dS ji⊢;clear hW aw;generalize w.heap.size=pb at hB⊢;have hC:=J hB;clear hB;go_wp21
 go_loopw [3,4] (λt3 t4 wr=>∃(j:Nat) (acc:Int) (R:EF),j+R.len=n/\max acc R.deep=F.deep/\0<=acc/\t4=.int .i64 j/\t3=.int .i64 acc/\mc w0 N R b (off+j*4)/\EF.wG (adn w0) R/\al W wr) (λ_ t4 _=>n - (intOf t4).toNat)
 case atStart=>exact⟨0,0,F,by rw [HN.o,dT],by have:=vd F;omega,Int.le_refl _,rfl,rfl,by simpa using HE.o,HI.o,kR _ _⟩
 case round=>
  obtain⟨j,acc,R,hj,bw,hnn,rfl,rfl,hR,hI,hx⟩:=hrel;have rX:=J hnn;clear hnn;have⟨HR,oD,HX⟩:=J3' hR hI hx;have tZ:=bC (bX hC.o hx);have gg:=(bX hC.o hx).lt;clear hR hI hx
  cases R with
  |nil=>
   simp only [EF.len,EF.deep,eW]at hj bw;subst hj;have ca:=J bw;clear bw;go_wp21;go_ret;refine⟨bB ?_,ji.o.trans HX.o⟩;have h1:=ca.o;have h3:=rX.o;have h2:=(vd F).1;rw [show acc=F.deep by omega];show jc _=_
   congr 1<;>omega
  |cons rH m' name' k r=>
   obtain⟨hb,h1,h2,h3,⟨A',cap,b',bL,hh,hg,hl,qK,hk⟩,hr⟩:=HR.o;simp only [EF.len,EF.deep]at hj bw;have ca:=J bw;clear bw;have aP:(j:Int)<n:=by omega
   obtain rfl:=HA.o ad;have iO:=dS.o.trans HX.o;refine Ee ?_;intro qB jx hg' gB;have⟨KE,IK,IJ,qR⟩:=J4' (show me w0 N A' k.len k from⟨rfl,hl,b',bL,qK,hk⟩) oD.o.1 iO hr;clear hh hg hl qK hk h1 h2 h3 HR qB iO hr;go_wp21;refine aoS (IK.o _ _ _ N _ _ _ _ IJ.o hN KE.o) λw2 bd=>?_;obtain⟨d,hd⟩:=nm' (jc (1+k.deep));rw [<-hd];have HD:=J hd;clear hd
   by_cases iM:acc<d
   .go_wp21
    go_roundw
    case rel=>exact⟨j+1,d,r,by omega,by have:=ca.o;have:=HD.o;omega,by have:=rX.o;omega,by go_num,rfl,by rw [Nat.add_mul,<-gw];exact qR.o,oD.o.2,HX.o.trans bd⟩
    case measure=>simp only [intOf];omega
   .go_wp21
    go_roundw
    case rel=>exact⟨j+1,acc,r,by omega,by have:=ca.o;have:=HD.o;omega,by have:=rX.o;omega,by go_num,rfl,by rw [Nat.add_mul,<-gw];exact qR.o,oD.o.2,HX.o.trans bd⟩
    case measure=>simp only [intOf];omega
abbrev ado (w:World) (F:EF):Prop:=∀(A:Option Addr) (n c N:Nat) (op m:Int) (name:ByteArray) (w':World),al w w'->N<=w.heap.size->me w N A n F->Calls prog 334 #[.agg (bJ op m name A n c)] w' λe w2=>e=.returned (.int .i64 (jc (1+F.deep)))/\al w' w2
theorem SA (w0:World) (F:EF):ado w0 F:=by
 refine rz (C:=ado w0) ?_ F;intro F IH A n c N op m name w aF hN h;refine Le ?_;clear h IH;intro b off hm HN HA HE HI;have aw:=dY w (.cells (bJ op m name A n c) 354);have dS:=J (aF.trans aw);have ji:=J aw;clear aw;go_enter func334,ntmps334;go_upto_region 1 with(fail);go_wp21
 go_loopw [3,9] (λt3 t9 wr=>∃(j:Nat) (acc:Int) (R:EF),j+R.len=n/\max acc R.deep=F.deep/\0<=acc/\t9=.int .i64 j/\t3=.int .i64 acc/\mc w0 N R b (off+j*4)/\EF.wG (ado w0) R/\al (w.alloc (.cells (bJ op m name A n c) 354)) wr) (λ_ t9 _=>n - (intOf t9).toNat)
 case atStart=>exact⟨0,0,F,by rw [HN.o,dT],by have:=vd F;omega,Int.le_refl _,rfl,rfl,by simpa using HE.o,HI.o,kR _ _⟩
 case round=>
  obtain⟨j,acc,R,hj,bw,hnn,rfl,rfl,hR,hI,hx⟩:=hrel;have rX:=J hnn;clear hnn;have⟨HR,oD,HX⟩:=J3' hR hI hx;clear hR hI hx
  cases R with
  |nil=>
   simp only [EF.len,EF.deep,eW]at hj bw;subst hj;have ca:=J bw;clear bw;go_wp21;go_ret;refine⟨bB ?_,ji.o.trans HX.o⟩;have h1:=ca.o;have h3:=rX.o;have h2:=(vd F).1;rw [show acc=F.deep by omega]
  |cons rH m' name' k r=>
   obtain⟨hb,h1,h2,h3,⟨A',cap,b',bL,hh,hg,hl,qK,hk⟩,hr⟩:=HR.o;simp only [EF.len,EF.deep]at hj bw;have ca:=J bw;clear bw;have aP:(j:Int)<n:=by omega
   obtain rfl:=HA.o ad;have iO:=dS.o.trans HX.o;refine Ee ?_;intro qB jx hg' gB;have⟨KE,IK,IJ,qR⟩:=J4' (show me w0 N A' k.len k from⟨rfl,hl,b',bL,qK,hk⟩) oD.o.1 iO hr;clear hh hg hl qK hk h1 h2 h3 HR qB iO hr;go_wp21;have y0:al wr _:=dM wr (.cells (bJ rH m' name' A' k.len cap) 354);refine aoS (IK.o _ _ _ N _ _ _ _ (IJ.o.trans y0) hN KE.o) λw2 bd=>?_;obtain⟨d,hd⟩:=nm' (jc (1+k.deep));rw [<-hd];have HD:=J hd;clear hd;go_wp21;go_roundw
   case rel=>exact⟨j+1,max acc d,r,by omega,by have:=ca.o;have:=HD.o;omega,by have:=rX.o;omega,by go_num,by congr 1<;>(split<;>omega),by rw [Nat.add_mul,<-gw];exact qR.o,oD.o.2,HX.o.trans (y0.trans bd)⟩
   case measure=>simp only [intOf];omega
def wQ (w:World) (D:Nat->Prop):EF->Nat->Nat->Prop
 | .nil,_,_=>True
 | .cons op n name k r,b,off=>D b/\br op/\br n/\name.size<=maxLen/\(∃A cap b' bL,Proofs.YtnhelcmddjbafaaGreatDoor.has w b off 4=true/\gets w b off 4=bJ op n name A k.len cap/\Fits k.len 56/\(0<k.len->A=some ⟨b',bL,none⟩)/\wQ w D k b' bL)/\wQ w D r b (off+4)
def wR (w:World) (D:Nat->Prop) (A:Option Addr) (n:Nat) (F:EF):Prop:=n=F.len/\Fits n 56/\∃b off,(0<n->A=some ⟨b,off,none⟩)/\wQ w D F b off
def wZ (w:World) (D:Nat->Prop):SF->Nat->Nat->Prop
 | .nil,_,_=>True
 | .cons kind name e low high l x r,b,off=>D b/\br kind/\br low/\br high/\name.size<=maxLen/\
  (∃eA ec lA lc xA xc be oe bl ol bx ox,Proofs.YtnhelcmddjbafaaGreatDoor.has w b off 7=true/\gets w b off 7=aN kind name eA e.len ec low high lA l.len lc xA x.len xc/\Fits e.len 56/\Fits l.len 112/\Fits x.len 112/\
   (0<e.len->eA=some ⟨be,oe,none⟩)/\(0<l.len->lA=some ⟨bl,ol,none⟩)/\(0<x.len->xA=some ⟨bx,ox,none⟩)/\wQ w D e be oe/\wZ w D l bl ol/\wZ w D x bx ox)/\wZ w D r b (off+7)
def zy (w:World) (D:Nat->Prop) (A:Option Addr) (n:Nat) (F:SF):Prop:=n=F.len/\Fits n 112/\∃b off,(0<n->A=some ⟨b,off,none⟩)/\wZ w D F b off
section
variable {S:Nat->Prop} {w w':World} {D D':Nat->Prop}
theorem wQ.kept (hk:Kept S w w') (hD:∀i,D i->i<w.heap.size/\¬S i):∀{F:EF} {b off:Nat},wQ w D F b off->wQ w' D F b off
 | .nil,_,_,_=>trivial
 | .cons _ _ _ _ _,b,off,h=>by
  obtain⟨hb,h1,h2,h3,⟨A,cap,b',bL,hh,hg,hl,hA,jR⟩,hr⟩:=h;obtain⟨q1,q2⟩:=hD b hb;exact⟨hb,h1,h2,h3,⟨A,cap,b',bL,by rw [jv hk q1 q2];exact hh,by rw [iz hk q1 q2];exact hg,hl,hA,jR.kept hk hD⟩,hr.kept hk hD⟩
theorem wQ.mono (hD:∀i,D i->D' i):∀{F:EF} {b off:Nat},wQ w D F b off->wQ w D' F b off
 | .nil,_,_,_=>trivial
 | .cons _ _ _ _ _,b,off,h=>by
  obtain⟨hb,h1,h2,h3,⟨A,cap,b',bL,hh,hg,hl,hA,jR⟩,hr⟩:=h;exact⟨hD b hb,h1,h2,h3,⟨A,cap,b',bL,hh,hg,hl,hA,jR.mono hD⟩,hr.mono hD⟩
theorem wQ.at_ {N:Nat} (hD:∀i,D i->i<N):∀{F:EF} {b off:Nat},wQ w D F b off->mc w N F b off
 | .nil,_,_,_=>trivial
 | .cons _ _ _ _ _,b,off,h=>by
  obtain⟨hb,h1,h2,h3,⟨A,cap,b',bL,hh,hg,hl,hA,jR⟩,hr⟩:=h;exact⟨hD b hb,h1,h2,h3,⟨A,cap,b',bL,hh,hg,hl,hA,jR.at_ hD⟩,hr.at_ hD⟩
theorem wZ.kept (hk:Kept S w w') (hD:∀i,D i->i<w.heap.size/\¬S i):∀{F:SF} {b off:Nat},wZ w D F b off->wZ w' D F b off
 | .nil,_,_,_=>trivial
 | .cons _ _ _ _ _ _ _ _,b,off,h=>by
  obtain⟨hb,h1,h2,h3,h4,⟨eA,ec,lA,lc,xA,xc,be,oe,bl,ol,bx,ox,hh,hg,n1,n2,n3,a1,a2,a3,he,hl,hx⟩,hr⟩:=h;obtain⟨q1,q2⟩:=hD b hb;exact⟨hb,h1,h2,h3,h4,⟨eA,ec,lA,lc,xA,xc,be,oe,bl,ol,bx,ox,by rw [jv hk q1 q2];exact hh,by rw [iz hk q1 q2];exact hg,n1,n2,n3,a1,a2,a3,he.kept hk hD,hl.kept hk hD,hx.kept hk hD⟩,hr.kept hk hD⟩
theorem wZ.mono (hD:∀i,D i->D' i):∀{F:SF} {b off:Nat},wZ w D F b off->wZ w D' F b off
 | .nil,_,_,_=>trivial
 | .cons _ _ _ _ _ _ _ _,b,off,h=>by
  obtain⟨hb,h1,h2,h3,h4,⟨eA,ec,lA,lc,xA,xc,be,oe,bl,ol,bx,ox,hh,hg,n1,n2,n3,a1,a2,a3,he,hl,hx⟩,hr⟩:=h;exact⟨hD b hb,h1,h2,h3,h4,⟨eA,ec,lA,lc,xA,xc,be,oe,bl,ol,bx,ox,hh,hg,n1,n2,n3,a1,a2,a3,he.mono hD,hl.mono hD,hx.mono hD⟩,hr.mono hD⟩
theorem wZ.at_ {N:Nat} (hD:∀i,D i->i<N):∀{F:SF} {b off:Nat},wZ w D F b off->nk w N F b off
 | .nil,_,_,_=>trivial
 | .cons _ _ _ _ _ _ _ _,b,off,h=>by
  obtain⟨hb,h1,h2,h3,h4,⟨eA,ec,lA,lc,xA,xc,be,oe,bl,ol,bx,ox,hh,hg,n1,n2,n3,a1,a2,a3,he,hl,hx⟩,hr⟩:=h;exact⟨hD b hb,h1,h2,h3,h4,⟨eA,ec,lA,lc,xA,xc,be,oe,bl,ol,bx,ox,hh,hg,n1,n2,n3,a1,a2,a3,he.at_ hD,hl.at_ hD,hx.at_ hD⟩,hr.at_ hD⟩
theorem wR.kept {A:Option Addr} {n:Nat} {F:EF} (h:wR w D A n F) (hk:Kept S w w') (hD:∀i,D i->i<w.heap.size/\¬S i):wR w' D A n F:=by
 obtain⟨h1,h2,b,off,h3,h4⟩:=h;exact⟨h1,h2,b,off,h3,h4.kept hk hD⟩
theorem wR.mono {A:Option Addr} {n:Nat} {F:EF} (h:wR w D A n F) (hD:∀i,D i->D' i):wR w D' A n F:=by
 obtain⟨h1,h2,b,off,h3,h4⟩:=h;exact⟨h1,h2,b,off,h3,h4.mono hD⟩
theorem wR.at_ {N:Nat} {A:Option Addr} {n:Nat} {F:EF} (h:wR w D A n F) (hD:∀i,D i->i<N):me w N A n F:=by
 obtain⟨h1,h2,b,off,h3,h4⟩:=h;exact⟨h1,h2,b,off,h3,h4.at_ hD⟩
theorem zy.kept {A:Option Addr} {n:Nat} {F:SF} (h:zy w D A n F) (hk:Kept S w w') (hD:∀i,D i->i<w.heap.size/\¬S i):zy w' D A n F:=by
 obtain⟨h1,h2,b,off,h3,h4⟩:=h;exact⟨h1,h2,b,off,h3,h4.kept hk hD⟩
theorem zy.mono {A:Option Addr} {n:Nat} {F:SF} (h:zy w D A n F) (hD:∀i,D i->D' i):zy w D' A n F:=by
 obtain⟨h1,h2,b,off,h3,h4⟩:=h;exact⟨h1,h2,b,off,h3,h4.mono hD⟩
theorem zy.at_ {N:Nat} {A:Option Addr} {n:Nat} {F:SF} (h:zy w D A n F) (hD:∀i,D i->i<N):jm w N A n F:=by
 obtain⟨h1,h2,b,off,h3,h4⟩:=h;exact⟨h1,h2,b,off,h3,h4.at_ hD⟩
end
structure Ec where (op n:Int) (name:ByteArray) (A:Option Addr) (len cap:Nat)
abbrev Ec.cells (c:Ec):Array Value:=bJ c.op c.n c.name c.A c.len c.cap
structure Sc where (kind:Int) (name:ByteArray) (eA:Option Addr) (en ec:Nat) (low high:Int) (lA:Option Addr) (ln lc:Nat) (xA:Option Addr) (xn xc:Nat)
abbrev Sc.cells (c:Sc):Array Value:=aN c.kind c.name c.eA c.en c.ec c.low c.high c.lA c.ln c.lc c.xA c.xn c.xc
def Sq.EF.app:EF->EF->EF| .nil,b=>b| .cons o n s k r,b=>.cons o n s k (EF.app r b)
def Sq.SF.app:SF->SF->SF| .nil,b=>b| .cons k n e a c l x r,b=>.cons k n e a c l x (SF.app r b)
theorem xV (o n:Int) (s:Str) (k r:EF):∀P:EF,(P.app (.cons o n s k .nil)).app r=P.app (.cons o n s k r)
 | .nil=>rfl
 | .cons _ _ _ _ q=>by simp only [EF.app];rw [xV o n s k r q]
theorem yL (k:Int) (n:Str) (e:EF) (a c:Int) (l x r:SF):∀P:SF,(P.app (.cons k n e a c l x .nil)).app r=P.app (.cons k n e a c l x r)
 | .nil=>rfl
 | .cons _ _ _ _ _ _ _ q=>by simp only [SF.app];rw [yL k n e a c l x r q]
theorem Bj:∀P:EF,P.app .nil=P| .nil=>rfl| .cons _ _ _ _ q=>by rw [EF.app,Bj q]
theorem Cx:∀P:SF,P.app .nil=P| .nil=>rfl| .cons _ _ _ _ _ _ _ q=>by rw [SF.app,Cx q]
def li (w:World) (D:Nat->Prop):List Ec->EF->Prop
 |[],.nil=>True
 |c::l,.cons op n name k r=>c.op=op/\c.n=n/\c.name=name/\br op/\br n/\name.size<=maxLen/\wR w D c.A c.len k/\li w D l r
 |_,_=>False
structure IQ (w:World) (D:Nat->Prop) (c:Sc) (kind:Int) (name:Str) (e:EF) (low high:Int) (l x:SF):Prop where
 k:c.kind=kind
 n:c.name=name
 a:c.low=low
 b:c.high=high
 k1:br kind
 a1:br low
 b1:br high
 n1:name.size<=maxLen
 e:wR w D c.eA c.en e
 l:zy w D c.lA c.ln l
 x:zy w D c.xA c.xn x
def lu (w:World) (D:Nat->Prop):List Sc->SF->Prop
 |[],.nil=>True
 |c::t,.cons kind name e low high l x r=>IQ w D c kind name e low high l x/\lu w D t r
 |_,_=>False
section
variable {S:Nat->Prop} {w w':World} {D D':Nat->Prop}
theorem li.len:∀{l:List Ec} {F:EF},li w D l F->l.length=F.len
 |[],.nil,_=>rfl
 |_::_,.cons _ _ _ _ _,h=>by simp [EF.len,(h.2.2.2.2.2.2.2).len]
 |[],.cons _ _ _ _ _,h=>h.elim
 |_::_,.nil,h=>h.elim
theorem lu.len:∀{l:List Sc} {F:SF},lu w D l F->l.length=F.len
 |[],.nil,_=>rfl
 |_::_,.cons _ _ _ _ _ _ _ _,h=>by simp [SF.len,h.2.len]
 |[],.cons _ _ _ _ _ _ _ _,h=>h.elim
 |_::_,.nil,h=>h.elim
theorem li.kept (hk:Kept S w w') (hD:∀i,D i->i<w.heap.size/\¬S i):∀{l:List Ec} {F:EF},li w D l F->li w' D l F
 |[],.nil,_=>trivial
 |_::_,.cons _ _ _ _ _,h=>⟨h.1,h.2.1,h.2.2.1,h.2.2.2.1,h.2.2.2.2.1,h.2.2.2.2.2.1,h.2.2.2.2.2.2.1.kept hk hD,(h.2.2.2.2.2.2.2).kept hk hD⟩
 |[],.cons _ _ _ _ _,h=>h.elim
 |_::_,.nil,h=>h.elim
theorem li.mono (hD:∀i,D i->D' i):∀{l:List Ec} {F:EF},li w D l F->li w D' l F
 |[],.nil,_=>trivial
 |_::_,.cons _ _ _ _ _,h=>⟨h.1,h.2.1,h.2.2.1,h.2.2.2.1,h.2.2.2.2.1,h.2.2.2.2.2.1,h.2.2.2.2.2.2.1.mono hD,(h.2.2.2.2.2.2.2).mono hD⟩
 |[],.cons _ _ _ _ _,h=>h.elim
 |_::_,.nil,h=>h.elim
theorem IQ.kept {c:Sc} {kind:Int} {name:Str} {e:EF} {low high:Int} {l x:SF} (hk:Kept S w w') (hD:∀i,D i->i<w.heap.size/\¬S i) (h:IQ w D c kind name e low high l x):IQ w' D c kind name e low high l x:=
 ⟨h.k,h.n,h.a,h.b,h.k1,h.a1,h.b1,h.n1,h.e.kept hk hD,h.l.kept hk hD,h.x.kept hk hD⟩
theorem IQ.mono {c:Sc} {kind:Int} {name:Str} {e:EF} {low high:Int} {l x:SF} (hD:∀i,D i->D' i) (h:IQ w D c kind name e low high l x):IQ w D' c kind name e low high l x:=
 ⟨h.k,h.n,h.a,h.b,h.k1,h.a1,h.b1,h.n1,h.e.mono hD,h.l.mono hD,h.x.mono hD⟩
theorem lu.kept (hk:Kept S w w') (hD:∀i,D i->i<w.heap.size/\¬S i):∀{l:List Sc} {F:SF},lu w D l F->lu w' D l F
 |[],.nil,_=>trivial
 |_::_,.cons _ _ _ _ _ _ _ _,h=>⟨h.1.kept hk hD,h.2.kept hk hD⟩
 |[],.cons _ _ _ _ _ _ _ _,h=>h.elim
 |_::_,.nil,h=>h.elim
theorem lu.mono (hD:∀i,D i->D' i):∀{l:List Sc} {F:SF},lu w D l F->lu w D' l F
 |[],.nil,_=>trivial
 |_::_,.cons _ _ _ _ _ _ _ _,h=>⟨h.1.mono hD,h.2.mono hD⟩
 |[],.cons _ _ _ _ _ _ _ _,h=>h.elim
 |_::_,.nil,h=>h.elim
theorem li.snoc {c:Ec} {op n:Int} {name:Str} {k:EF} (h1:c.op=op/\c.n=n/\c.name=name/\br op/\br n/\name.size<=maxLen/\wR w D c.A c.len k):∀{l:List Ec} {F:EF},li w D l F->li w D (l++[c]) (F.app (.cons op n name k .nil))
 |[],.nil,_=>⟨h1.1,h1.2.1,h1.2.2.1,h1.2.2.2.1,h1.2.2.2.2.1,h1.2.2.2.2.2.1,h1.2.2.2.2.2.2,trivial⟩
 |_::_,.cons _ _ _ _ _,h=>⟨h.1,h.2.1,h.2.2.1,h.2.2.2.1,h.2.2.2.2.1,h.2.2.2.2.2.1,h.2.2.2.2.2.2.1,(h.2.2.2.2.2.2.2).snoc h1⟩
 |[],.cons _ _ _ _ _,h=>h.elim
 |_::_,.nil,h=>h.elim
theorem lu.snoc {c:Sc} {kind:Int} {name:Str} {e:EF} {low high:Int} {l x:SF} (h1:IQ w D c kind name e low high l x):∀{t:List Sc} {F:SF},lu w D t F->lu w D (t++[c]) (F.app (.cons kind name e low high l x .nil))
 |[],.nil,_=>⟨h1,trivial⟩
 |_::_,.cons _ _ _ _ _ _ _ _,h=>⟨h.1,h.2.snoc h1⟩
 |[],.cons _ _ _ _ _ _ _ _,h=>h.elim
 |_::_,.nil,h=>h.elim
theorem li.shut {b:Nat} (hb:D b):∀{l:List Ec} {F:EF} {off:Nat},li w D l F->(0<l.length->Row w b off (bZ Ec.cells l))->wQ w D F b off
 |[],.nil,_,_,_=>trivial
 |c::t,.cons op n name k r,off,h,hr=>by
  obtain⟨rfl,rfl,rfl,h4,h5,h6,⟨e1,e2,b',bL,e3,e4⟩,h8⟩:=h;have aE:=hr aB;have h0:=xE (f:=Ec.cells) (k:=4) (λ_=>rfl) aE 0 aB;simp only [Nat.zero_mul,eW,List.getElem_cons_zero]at h0;refine⟨hb,h4,h5,h6,⟨c.A,c.cap,b',bL,h0.1,?_,by rw [<-e1];exact e2,λq=>e3 (by rw [e1];exact q),e4⟩,h8.shut hb (λh0t=>?_)⟩
  .rw [h0.2,<-e1]
  .have hs:=aE.sub 4 (bZ Ec.cells t).length (by show 4+_<=(bZ Ec.cells (c::t)).length;rw [ja (k:=4) (λ_=>rfl),ja (k:=4) (λ_=>rfl),iQ];omega)
   refine⟨hs.1,?_,aE.lt⟩;rw [hs.2]
   congr 1
   show((c.cells.toList++bZ Ec.cells t).drop 4).take _=_;rw [List.drop_append_of_le_length aB];simp
 |[],.cons _ _ _ _ _,_,h,_=>h.elim
 |_::_,.nil,_,h,_=>h.elim
theorem lu.shut {b:Nat} (hb:D b):∀{l:List Sc} {F:SF} {off:Nat},lu w D l F->(0<l.length->Row w b off (bZ Sc.cells l))->wZ w D F b off
 |[],.nil,_,_,_=>trivial
 |c::t,.cons kind name e low high l x r,off,h,hr=>by
  obtain⟨⟨rfl,rfl,rfl,rfl,h4,h5,h6,h7,⟨e1,e2,be,oe,e3,e4⟩,⟨l1,l2,bl,ol,l3,l4⟩,⟨x1,x2,bx,ox,x3,x4⟩⟩,h8⟩:=h;have aE:=hr aB;have h0:=xE (f:=Sc.cells) (k:=7) (λ_=>rfl) aE 0 aB;simp only [Nat.zero_mul,eW,List.getElem_cons_zero]at h0;refine⟨hb,h4,h5,h6,h7,⟨c.eA,c.ec,c.lA,c.lc,c.xA,c.xc,be,oe,bl,ol,bx,ox,h0.1,?_,by rw [<-e1];exact e2,by rw [<-l1];exact l2,by rw [<-x1];exact x2,λq=>e3 (by rw [e1];exact q),λq=>l3 (by rw [l1];exact q),λq=>x3 (by rw [x1];exact q),e4,l4,x4⟩,h8.shut hb (λh0t=>?_)⟩
  .rw [h0.2,<-e1,<-l1,<-x1]
  .have hs:=aE.sub 7 (bZ Sc.cells t).length (by show 7+_<=(bZ Sc.cells (c::t)).length;rw [ja (k:=7) (λ_=>rfl),ja (k:=7) (λ_=>rfl),iQ];omega)
   refine⟨hs.1,?_,aE.lt⟩;rw [hs.2]
   congr 1
   show((c.cells.toList++bZ Sc.cells t).drop 7).take _=_;rw [List.drop_append_of_le_length aB];simp
 |[],.cons _ _ _ _ _ _ _ _,_,h,_=>h.elim
 |_::_,.nil,_,h,_=>h.elim
