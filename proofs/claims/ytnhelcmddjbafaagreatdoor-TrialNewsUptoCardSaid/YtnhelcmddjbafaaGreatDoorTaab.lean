import Derived.Laws.BitsAllLaws
import Derived.LoopN
import Derived.MapKept
import Derived.Laws.AppendOwn
import Derived.Laws.AppendOwnNone
import Derived.ProofKit
import Derived.OpenShut
import Derived.ShutString
import Derived.ChangeOld
import Derived.Below
import Derived.Deep.Slices
import Derived.Laws.IdiomCopy
import Derived.Lib.ConvBytes
import Derived.Test.YtnhelcmddjbafaaGreatDoorTash
import Derived.Laws.BytesArg
import Derived.Test.YtnhelcmddjbafaaGreatDoorTaaa
set_option maxHeartbeats 4000000
set_option maxRecDepth 100000
open Go.Proofs.Tryz
namespace Go.Proofs.YtnhelcmddjbafaaGreatDoor
open Go.RowKit
namespace Mc
variable{dst:Option Tmp}{pos:String}{after:Array Edge}{guard:Option (Nat×Bool)}
theorem J7:gB prog 317=true:=by kernel_rfl
theorem DO:dw prog 317=some 4:=by kernel_rfl
theorem Mv {eY} {x} {a} {w} {K} {Q} (hx:eG (a.eval x)=true) (hh:has w (aL (a.eval x)) (aM (a.eval x)) 4=true):
 Oper.wp prog ⟨dst,.load 317 x,eY,pos,after,guard⟩ a w K Q=K (a.put dst (.agg (gets w (aL (a.eval x)) (aM (a.eval x)) 4))) w:=bB 4 J7 DO hx hh
theorem UT {ρ} {eY} {x} {w} (hx:eG (ρ x)=true) (hh:has w (aL (ρ x)) (aM (ρ x)) 4=true):
 (execOp ρ ⟨dst,.load 317 x,eY,pos,after,guard⟩).run prog w=.ok (.value (.agg (gets w (aL (ρ x)) (aM (ρ x)) 4))) w:=aH 4 J7 DO hx hh
theorem Uh (w) (g off) (hh:has w g off 4=true):(loadVar 317 ⟨g,off,none⟩).run prog w=.ok (.agg (gets w g off 4)) w:=cN prog w _ g off 4 J7 DO hh
attribute [go_sem] J7 DO
attribute [go_sem↓high] Mv Uh UT
attribute [go_sem high] Mv
structure St where (a b c d:Int)
abbrev St.cells (s:St):Array Value:=#[.int .u64 s.a,.int .u64 s.b,.int .u64 s.c,.int .u64 s.d]
attribute [go_sem] St.cells
def rotl (x:Int) (k:Nat):Int:=bits .or .u64 (IntKind.u64.wrap (x*2^k)) (x / 2^(64 - k))
def Q_ (x y:Int):Int:=IntKind.u64.wrap (x+y)
def ux (x y:Int):Int:=bits .xor .u64 x y
section
variable (x:Int) (w:World)
include x w
theorem alM:Calls prog 309 #[.int .u64 x,.int .i64 32] w λe w'=>e=.returned (.int .u64 (rotl x 32))/\w=w':=by
 have hb:bits .and .u64 32 63=32:=by decide
 exact Sz
theorem alL:Calls prog 309 #[.int .u64 x,.int .i64 24] w λe w'=>e=.returned (.int .u64 (rotl x 24))/\w=w':=by
 have hb:bits .and .u64 24 63=24:=by decide
 exact Sz
theorem alK:Calls prog 309 #[.int .u64 x,.int .i64 16] w λe w'=>e=.returned (.int .u64 (rotl x 16))/\w=w':=by
 have hb:bits .and .u64 16 63=16:=by decide
 exact Sz
theorem alN:Calls prog 309 #[.int .u64 x,.int .i64 63] w λe w'=>e=.returned (.int .u64 (rotl x 63))/\w=w':=by
 have hb:bits .and .u64 63 63=63:=by decide
 exact Sz
end
def rnd (s:St) (r:Int):St:=
 let a:=ux (Q_ s.a s.b) r
 let d:=rotl (ux s.d a) 32
 let c:=Q_ s.c d
 let b:=rotl (ux s.b c) 24
 let a:=Q_ a b
 let d:=rotl (ux d a) 16
 let c:=Q_ c d
 let b:=rotl (ux b c) 63
 ⟨a,b,c,d⟩
def PR:Nat->St->St|0,s=>s|n+1,s=>rnd (PR n s) (n+1)
def amb (s:St):St:=PR 6 s
theorem ZR (b) (s) (w) (hb:aj w b 317 s.cells):
 Calls prog 278 #[.pointer (some ⟨b,0,none⟩)] w λe w'=>e=.returned (.tuple #[])/\aj w' b 317 (amb s).cells/\Kept (·=b) w w':=by
 have hl:=aj.lt hb;go_enter func278,ntmps278;go_wp21;refine eW (λw1=>aj w1 b 317 s.cells) [(0,2),(1,2),(2,2),(3,1),(4,2),(5,2),(6,2),(7,1),(8,2),(9,2),(10,2),(11,1),(12,2),(13,2),(14,2),(15,1),(16,2),(17,2),(18,2),(19,2)] ?_;refine eX ?_
 repeat first|refine bV ?_|refine cF hb (by intro w1 hS;have hc:=bC hS;exact fE) ?_|refine cD hb ?_
 refine ZZ ?_;go_wp21
 go_loop [2,3,4,5,23] (λt2 t3 t4 t5 i=>∃k:Nat,k<=6/\i=.int .u64 k/\t2=.int .u64 (PR k s).a/\t3=.int .u64 (PR k s).b/\t4=.int .u64 (PR k s).c/\t5=.int .u64 (PR k s).d) (λ_ _ _ _ i=>6 - (intOf i).toNat)
 case atStart=>exact⟨0,by omega,rfl,rfl,rfl,rfl,rfl⟩
 case round=>
  obtain⟨k,hk,rfl,rfl,rfl,rfl,rfl⟩:=hrel
  by_cases aX:k<6
  .go_wp21
   refine uW (alM _ _) ?_;go_wp21;refine uW (alL _ _) ?_;go_wp21;refine uW (alK _ _) ?_;go_wp21;refine uW (alN _ _) ?_;go_wp21
   go_round
   case rel=>exact⟨k+1,by omega,by go_num,rfl,rfl,rfl,rfl⟩
   case measure=>simp [intOf];omega
  .have rp:k=6:=by omega
   have hh:=bH (aj.drew hb);have hm:=aj.aJ (aj.drew hb);subst rp;go_wp21;go_end0;refine⟨rfl,?_,?_⟩
   .have:=aj.cI (aj.drew hb) 0 (PR 6 s).cells
    exact this
   ·((repeat' (with_reducible (first|apply Kept.drew|apply Kept.drewN|apply Kept.alloc|apply Kept.setCell|apply Kept.putAt|exact kR _ _)))<;>(intro aX;first|rfl|(simp at aX;done)|(exfalso;simp at aX;omega)|omega))
theorem sU (k) (w:World):Calls prog 220 #[.int .u64 k] w λe w'=>e=.returned (.agg (St.cells ⟨2611923443488327891,1376283091369227076,11820040416388919760,k⟩))/\al w w':=by
 go_enter func220,ntmps220
 go_wp2
 refine bQ results220 rfl rfl J7 (by exact DO) (aj.d_ _ _ _ _ aC) ⟨rfl,?_⟩
 ((repeat' (with_reducible (first|apply Kept.drew|apply Kept.drewN|apply Kept.alloc|apply Kept.setCell|apply Kept.putAt|exact kR _ _)))<;>(intro aX;first|rfl|(simp at aX;done)|(exfalso;simp at aX;omega)|omega))
def taken (s:St) (n:Int):St:=amb {s with a:=ux s.a n}
theorem jQ (b) (s) (n) (w:World) (hb:aj w b 317 s.cells):
 Calls prog 221 #[.pointer (some ⟨b,0,none⟩),.int .u64 n] w λe w'=>e=.returned (.tuple #[])/\aj w' b 317 (taken s n).cells/\Kept (·=b) w w':=by
 go_enter func221,ntmps221;go_wp21;refine eW (λw1=>aj w1 b 317 s.cells) [(0,2),(1,2),(2,2),(3,1),(4,2),(5,2),(6,2),(7,2),(8,0)] ?_;refine eX ?_
 repeat first|refine bV ?_|refine cF hb (by intro w1 hS;have hc:=bC hS;exact fE) ?_|refine cD hb ?_
 have hc:=bC (aj.drew hb);have hf:=aj.frozen (aj.drew hb);refine fc ?_;go_wp21;have jq:aj (w.drew.setCell ⟨b,0,none⟩ (.int .u64 (bits .xor .u64 s.a n))) b 317 (St.cells {s with a:=ux s.a n}):=aj.fw (aj.drew hb) 0 _;refine(ZR b _ _ jq).mono ?_;rintro e w2 ⟨rfl,jF,bM⟩;go_wp21;go_end0;refine⟨rfl,jF,Kept.trans ?_ bM⟩
 ((repeat' (with_reducible (first|apply Kept.drew|apply Kept.drewN|apply Kept.alloc|apply Kept.setCell|apply Kept.putAt|exact kR _ _)))<;>(intro aX;first|rfl|(simp at aX;done)|(exfalso;simp at aX;omega)|omega))
def Cy (d:Dg):Nat->Int|0=>d.x0|1=>d.x1|2=>d.x2|3=>d.x3|4=>d.x4|5=>d.x5|6=>d.x6|7=>d.x7|_=>0
def Dg.ok (d:Dg):Prop:=∀j,0<=Cy d j/\Cy d j<=255
def Dk (d:Dg):Nat->Int|0=>0|k+1=>Dk d k+Cy d k*2^(8*k)
def Dj (d:Dg):Int:=Dk d 8
theorem agT (d) (k:Nat) (hk:k<8) (w:World):(Instr.index 25 (.agg #[.int .u8 d.x0,.int .u8 d.x1,.int .u8 d.x2,.int .u8 d.x3,.int .u8 d.x4,.int .u8 d.x5,.int .u8 d.x6,.int .u8 d.x7]) (.int .i64 k)).run prog w=.ok (.int .u8 (Cy d k)) w:=by
 rcases(by omega:k=0∨k=1∨k=2∨k=3∨k=4∨k=5∨k=6∨k=7)with rfl|rfl|rfl|rfl|rfl|rfl|rfl|rfl<;>kernel_rfl
theorem Dx (n:Nat):((2^n:Nat):Int)=(2:Int)^n:=by simp
theorem u64_in {x} (h0:0<=x) (h1:x<18446744073709551616):IntKind.u64.wrap x=x:=by
 simp only [IntKind.wrap,IntKind.signed,IntKind.bits];simp
 omega
theorem R4 (m x) (j:Nat) (hj:j<=56) (hm0:0<=m) (hm:m<2^j) (aK:0<=x) (hx:x<=255):bits .or .u64 m (IntKind.u64.wrap (x*2^j))=m+x*2^j/\m+x*2^j<2^(j+8):=by
 obtain⟨a,rfl⟩:=Int.eq_ofNat_of_zero_le hm0;obtain⟨b,rfl⟩:=Int.eq_ofNat_of_zero_le aK;rw [<-Dx]at hm⊢;rw [<-Dx];have ha:a<2^j:=by omega
 have hb:b<=255:=by omega
 have hp:(2:Nat)^(j+8)=2^j*256:=Nat.pow_add 2 j 8;have hq:(2:Nat)^j<=2^56:=Nat.pow_le_pow_right ad hj;have hbp:b*2^j<=255*2^j:=Nat.mul_le_mul_right _ hb;have e1:((b:Int)*((2^j:Nat):Int))=((b*2^j:Nat):Int):=by simp
 rw [e1,u64_in ad ad,u64_or_nat _ _ ad ad]
 have e2:a|||b*2^j=a+b*2^j:=by
  have:=Nat.two_pow_add_eq_or_of_lt ha b;rw [Nat.or_comm,Nat.mul_comm b,<-this,Nat.add_comm]
 rw [e2];refine⟨by simp,by rw [hp];omega⟩
theorem IW {d:Dg} (h:d.ok):∀k,k<=8->0<=Dk d k/\Dk d k<2^(8*k)
 |0,_=>by simp [Dk]
 |k+1,hk=>by
  have ih:=IW h k ad;have hs:=R4 (Dk d k) (Cy d k) (8*k) ad ih.1 ih.2 (h k).1 (h k).2;have hp:(0:Int)<=Cy d k*2^(8*k):=Int.mul_nonneg (h k).1 (by rw [<-Dx];exact Int.natCast_nonneg _);refine⟨by simp only [Dk];omega,?_⟩;have:=hs.2;rw [show 8*(k+1)=8*k+8 by omega];exact this
theorem Uz {d} (h:d.ok) {k:Nat} (hk:k<8):bits .or .u64 (Dk d k) (IntKind.u64.wrap (Cy d k*2^(8*k)))=Dk d (k+1):=
 (R4 (Dk d k) (Cy d k) (8*k) ad (IW h k ad).1 (IW h k ad).2 (h k).1 (h k).2).1
theorem qG (d) (hd:d.ok) (w:World):Calls prog 222 #[.agg #[.int .u8 d.x0,.int .u8 d.x1,.int .u8 d.x2,.int .u8 d.x3,.int .u8 d.x4,.int .u8 d.x5,.int .u8 d.x6,.int .u8 d.x7]] w λe w'=>e=.returned (.int .u64 (Dj d))/\al w w':=by
 go_enter func222,ntmps222
 go_wp2
 go_loop [3,7] (λn i=>∃k:Nat,k<=8/\i=.int .i64 k/\n=.int .u64 (Dk d k)) (λ_ i=>8 - (intOf i).toNat)
 case atStart=>exact⟨0,by omega,rfl,rfl⟩
 case round=>
  obtain⟨k,hk,rfl,rfl⟩:=hrel
  by_cases aX:k<8
  .have hx:=agT d k aX
   have hb:=hd k
   go_wp2
   go_round
   case rel=>exact⟨k+1,by omega,by go_num,by rw [Uz hd aX]⟩
   case measure=>simp [intOf];omega
  .have rp:k=8:=by omega
   subst rp
   go_wp2
   exact anG
def uo (n:Int):Dg:=⟨n%256,n / 256%256,n / 65536%256,n / 16777216%256,n / 4294967296%256,n / 1099511627776%256,n / 281474976710656%256,n / 72057594037927936%256⟩
theorem Cx (n:Int):(uo n).ok:=by
 intro j
 match j with
 |0=>simp only [Cy,uo];omega
 |1=>simp only [Cy,uo];omega
 |2=>simp only [Cy,uo];omega
 |3=>simp only [Cy,uo];omega
 |4=>simp only [Cy,uo];omega
 |5=>simp only [Cy,uo];omega
 |6=>simp only [Cy,uo];omega
 |7=>simp only [Cy,uo];omega
 |n+8=>simp [Cy]
theorem age:Dg.zero.ok:=by
 intro j
 match j with
 |0|1|2|3|4|5|6|7=>simp [Cy]
 |n+8=>simp [Cy]
theorem gI (n) (w) (_h0:0<=n):Calls prog 9 #[.int .u64 n] w λe w'=>e=.returned (.agg (uo n).cells)/\al w w':=by
 go_enter func9,ntmps9
 go_wp2
 refine wp_loop_rounds 9 ?_
 iterate 9 (rw [rounds_succ];go_wp2)
 refine bQ results9 rfl rfl dK ke (aj.alloc (aj.d_ _ _ _ _ aC) _) ⟨rfl,?_⟩
 ((repeat' (with_reducible (first|apply Kept.drew|apply Kept.drewN|apply Kept.alloc|apply Kept.setCell|apply Kept.putAt|exact kR _ _)))<;>(intro aX;first|rfl|(simp at aX;done)|(exfalso;simp at aX;omega)|omega))
theorem Vs (x:Int):0<=IntKind.u64.wrap x/\IntKind.u64.wrap x<18446744073709551616:=by
 simp only [IntKind.wrap,IntKind.signed,IntKind.bits];simp
 omega
theorem Z7 (x y:Int):0<=ux x y/\ux x y<18446744073709551616:=Vs _
def out (s:St):Dg:=uo (ux s.a s.c)
theorem PB (s:St):(out s).ok:=Cx _
theorem s7 (b) (s) (w) (hb:aj w b 317 s.cells):
 Calls prog 223 #[.pointer (some ⟨b,0,none⟩)] w λe w'=>e=.returned (.agg (out s).cells)/\al w w':=by
 have hl:=aj.lt hb;have h0:=(Z7 s.a s.c).1;have hr:=bN w 25 Dg.zero.cells;have jq:=aj.alloc hb (.cells Dg.zero.cells 25);go_enter func223,ntmps223;go_wp21;refine eW (λw1=>al (w.alloc (.cells Dg.zero.cells 25)) w1) [(0,2),(1,2),(2,2),(3,1),(4,2),(5,2),(6,2),(7,1),(8,2),(9,0),(10,0)] ?_;refine eX ?_
 repeat first|refine bV ?_|refine cF dQ (by intro w1 hS;have d1:=bX jq hS;have hc:=bC d1;exact fE) ?_|refine cD dQ ?_
 refine ap (λK hK=>?_);go_simp;go_wp21;refine kU (gI _ _ h0) λw2 bM=>?_;have CY:al (w.alloc (.cells Dg.zero.cells 25)) w2:=((kR _ _).drew).trans bM;refine hK.out _ _ (λ_=>CY) ?_;have ki:=bX hr CY;have hh:=bH ki;have hm:=aj.aJ ki;refine fc ?_
 go_wp2
 refine bQ results223 rfl rfl dK ke (aj.cI ki _ _) ⟨rfl,?_⟩;exact Kept.putAt ((dS w _).trans CY) _ _ _ (λh=>by omega)
end Mc
section
variable{R:Ending->World->Prop}{base sz:Nat}{v':Value}{w1:World}
inductive tT where
 |nil
 |op (i k:Nat) (r:tT)
 |fork (i:Nat) (p:tT) (j:Nat) (q:tT)
inductive Pl where
 |nil
 |op (i k:Nat) (o:Oper) (r:Pl)
 |fork (i:Nat) (o:Oper) (p:Pl) (j:Nat) (o':Oper) (q:Pl)
def tT.fill (l:List Oper):tT->Pl
 | .nil=>.nil
 | .op i k r=>.op i k (l.getD i nop) (r.fill l)
 | .fork i p j q=>.fork i (l.getD i nop) (p.fill l) j (l.getD j nop) (q.fill l)
def tT.st:tT->List Nat
 | .nil=>[]
 | .op i k r=>if k=1 then i::r.st else r.st
 | .fork _ p _ q=>p.st++q.st
def tT.len:tT->Nat
 | .nil=>0
 | .op _ _ r=>r.len+1
 | .fork _ p _ q=>max p.len q.len+1
section
variable {P:Program} {ops:Array Oper} {Q:Exit->Act->World->Prop} {S:World->Prop}
def XT (md:Region.Mode) (ops:Array Oper) (st:List Nat) (j:Nat):Bool:=
 st.all λi=>i==j||(pE md ops ops.size (uJ md ops j)).testBit i
theorem XU {md} {st} {i j} {listed} (hf:i∈st) (hd:Down md ops listed) (hj:j∈Region.ready md ops listed) (gM:j≠i) (h:XT md ops st j=true):
 listed.getD i false=true:=by
 exact anz
def tT.ok (md:Region.Mode) (ops:Array Oper):tT->Array Bool->Bool
 | .nil,listed=>(Region.ready md ops listed).isEmpty
 | .op i 0 r,listed=>(Region.ready md ops listed==[i])&&decide (i<ops.size)&&r.ok md ops (listed.setIfInBounds i true)
 | .op i (_+1) r,listed=>Region.free md ops listed i&&(Region.ready md ops listed).contains i&&decide (i<ops.size)&&r.ok md ops (listed.setIfInBounds i true)
 | .fork i p j q,listed=>(Region.ready md ops listed==[i,j])&&decide (i<ops.size)&&decide (j<ops.size)&&p.ok md ops (listed.setIfInBounds i true)&&q.ok md ops (listed.setIfInBounds j true)
def iM (P:Program) (ops:Array Oper) (Q:Exit->Act->World->Prop) (S:World->Prop) (st:List Nat):Pl->Act->World->Prop
 | .nil,a,w=>Q .normal a w
 | .op k 0 o r,a,w=>
  if Region.wanted o (yielded ops a.tmps)then o.wp P a w (λa' w'=>(XT .any ops st k=true∨(S w->S w'))/\iM P ops Q S st r a' w') (uu Q)∨(o.asks P a w/\LetsOut (uu Q))
  else iM P ops Q S st r (a.put o.dst undef) w
 | .op _ 1 o r,a,w=>S w/\∃v,YieldsIf P ops S o v a/\iM P ops Q S st r (a.put o.dst v) w
 | .op _ (_+2) o r,a,w=>∃v,YieldsIf P ops (λ_=>True) o v a/\iM P ops Q S st r (a.put o.dst v) w
 | .fork k o r k' o' r',a,w=>
  (if Region.wanted o (yielded ops a.tmps)then o.wp P a w (λa' w'=>(XT .any ops st k=true∨(S w->S w'))/\iM P ops Q S st r a' w') (uu Q)∨(o.asks P a w/\LetsOut (uu Q))
  else iM P ops Q S st r (a.put o.dst undef) w)/\
  (if Region.wanted o' (yielded ops a.tmps)then o'.wp P a w (λa' w'=>(XT .any ops st k'=true∨(S w->S w'))/\iM P ops Q S st r' a' w') (uu Q)∨(o'.asks P a w/\LetsOut (uu Q))
  else iM P ops Q S st r' (a.put o'.dst undef) w)
theorem getD_some {l:List Oper} {i} (h:i<l.toArray.size):l.toArray[i]?=some (l.getD i nop):=by
 have h':i<l.length:=by simpa using h
 simp [List.getD,List.getElem?_eq_getElem h']
theorem Pv {xT} {j}:∀e (a:Act) (w:World),uu Q e a w->QL (uu Q) xT j e a w:=λe a w h=>by
 unfold QL
 split
 .exact h
 .cases e<;>exact h
theorem jx {l:List Oper} {st:List Nat} (hs:Region.noSelect l.toArray=true):∀(p:tT) (fuel:Nat) (listed:Array Bool) (a:Act) (w:World),p.len<=fuel->(∀i∈p.st,i∈st)->Down .any l.toArray listed->
 p.ok .any l.toArray listed=true->iM P l.toArray Q S st (p.fill l) a w->wpAnyH P .any l.toArray (uu Q) S (XT .any l.toArray st) (λ_=>false) fuel listed a w
 | .nil,fuel,listed,a,w,_,_,_,hB,h=>wpAnyH_done (Q:=uu Q) (by simpa [tT.ok]using hB) h fuel
 | .op _ _ _,0,listed,a,w,hf,_,_,_,_=>by simp [tT.len]at hf
 | .fork _ _ _ _,0,listed,a,w,hf,_,_,_,_=>by simp [tT.len]at hf
 | .op i 1 r,fuel+1,listed,a,w,hf,hr,pG,hB,h=>by
  obtain⟨hS,v,hy,h⟩:=h;simp only [tT.ok,fz,gZ]at hB;simp only [tT.st,if_true]at hr;have ho:=getD_some hB.1.2
  exact wpAnyH_first ho (Region.noSelect_spec hs) (λ_ _ _ _ _ hx=>by cases hx) (λj l hd hj gM hx=>XU (hr _ aC) hd hj gM hx) fuel listed a w pG (Region.free_spec ho hB.1.1.1) (by simpa using hB.1.1.2) hy hS
   (jx hs r fuel _ _ w (by simpa [tT.len]using hf) (λp hp=>hr p (by simp [hp])) (pG.set (by simpa using hB.1.1.2)) hB.2 h)
 | .op i (n+2) r,fuel+1,listed,a,w,hf,hr,pG,hB,h=>by
  obtain⟨v,hy,h⟩:=h;simp only [tT.ok,fz,gZ]at hB;have ho:=getD_some hB.1.2
  exact Af ho (Region.noSelect_spec hs) (λ_ _ _ _ _ hx=>by cases hx) fuel listed a w pG (Region.free_spec ho hB.1.1.1) (by simpa using hB.1.1.2) hy
   (jx hs r fuel _ _ w (by simpa [tT.len]using hf) (λp hp=>hr p (by simp [tT.st,hp])) (pG.set (by simpa using hB.1.1.2)) hB.2 h)
 | .op i 0 r,fuel+1,listed,a,w,hf,hr,pG,hB,h=>by
  simp only [tT.ok,fz,beq_iff_eq,gZ]at hB;have ho:=getD_some hB.1.2;refine wpAnyH_all hB.1.1 aC λj hj=>?_;obtain rfl:j=i:=by simpa using hj
  have h1:wpOp P l.toArray (uu Q) j (λa' w'=>(XT .any l.toArray st j=true∨(S w->S w'))/\iM P l.toArray Q S st (r.fill l) a' w') a w:=by
   unfold wpOp;rw [ho];unfold tT.fill iM at h
   by_cases hw:Region.wanted (l.getD j nop) (yielded l.toArray a.tmps)=true
   .rw [av hw]at h;simp only [av hw];exact h
   .rw [af hw]at h;simp only [af hw];exact⟨.inr id,h⟩
  exact wpOp_mono (λa' w' h'=>⟨h'.1,jx hs r fuel _ a' w' (by simpa [tT.len]using hf) (λp hp=>hr p (by simp [tT.st,hp])) (pG.set (by rw [hB.1.1];simp)) hB.2 h'.2⟩) (qT Pv h1)
 | .fork i p j q,fuel+1,listed,a,w,hf,hr,pG,hB,h=>by
  simp only [tT.ok,fz,beq_iff_eq,gZ]at hB;obtain⟨⟨⟨⟨hrd,hi⟩,hj⟩,hp⟩,hq⟩:=hB;have hoi:=getD_some hi;have T6:=getD_some hj;have hlen:max p.len q.len<=fuel:=by simpa [tT.len]using hf
  unfold tT.fill iM at h;refine wpAnyH_all hrd aC λk hk=>?_
  rcases(by simpa using hk:k=i∨k=j)with rfl|rfl
  .have h1:wpOp P l.toArray (uu Q) k (λa' w'=>(XT .any l.toArray st k=true∨(S w->S w'))/\iM P l.toArray Q S st (p.fill l) a' w') a w:=by
    unfold wpOp;rw [hoi];have h:=h.1;exact aeH
   exact wpOp_mono (λa' w' h'=>⟨h'.1,jx hs p fuel _ a' w' ad (λx hx=>hr x (by simp [tT.st,hx])) (pG.set (by rw [hrd];simp)) hp h'.2⟩) (qT Pv h1)
  .have h1:wpOp P l.toArray (uu Q) k (λa' w'=>(XT .any l.toArray st k=true∨(S w->S w'))/\iM P l.toArray Q S st (q.fill l) a' w') a w:=by
    unfold wpOp;rw [T6];have h:=h.2;exact aeH
   exact wpOp_mono (λa' w' h'=>⟨h'.1,jx hs q fuel _ a' w' ad (λx hx=>hr x (by simp [tT.st,hx])) (pG.set (by rw [hrd];simp)) hq h'.2⟩) (qT Pv h1)
theorem Mx {id} {a} {w} {l} (S) (p:tT) (hm:P.follows .mixedOrders=true) (hs:Region.noSelect l.toArray=true)
 (hB:p.ok .any l.toArray (Array.replicate l.toArray.size false)=true) (wV:decide (p.len<=l.length)=true)
 (h:∀p',p'=p.fill l->iM P l.toArray Q S p.st p' a w.drew):(Code.region id l.toArray true).wp P Q a w:=
 Code.wp_mono uu.imp (wp_region_any hm (vi _ _ _ _ (jx hs p _ _ a _ (by simpa using wV) (λ_ h=>h) (Down.init _) hB (h _ rfl))))
theorem WB {id} {a} {w} {l} (S) (p:tT) (h:∀p',p'=p.fill l->iM P l.toArray Q S p.st p' a w.drew) (hm:P.follows .mixedOrders=true:=by kernel_rfl) (hs:Region.noSelect l.toArray=true:=by kernel_rfl) (hB:p.ok .any l.toArray (Array.replicate l.toArray.size false)=true:=by kernel_rfl) (wV:decide (p.len<=l.length)=true:=by kernel_rfl):(Code.region id l.toArray true).wp P Q a w:=Mx S p hm hs hB wV h
variable {st:List Nat} {k:Nat} {r:Pl} {a:Act} {w:World} {o:Oper}
theorem ahy (h:Q .normal a w):iM P ops Q S st .nil a w:=h
theorem c_ {v} (hS:S w) (hw:Region.wanted o (yielded ops a.tmps)=true)
 (hy:∀w',S w'->(execOp a.eval o).run P w'=.ok (.value v) w') (h:∀K:Act->World->Prop,(∀a w,iM P ops Q S st r a w->K a w)->K (a.put o.dst v) w):iM P ops Q S st (.op k 1 o r) a w:=
 ⟨hS,v,.inl ⟨hw,hy⟩,h _ (λ_ _ h=>h)⟩
theorem cZ (hS:S w) (hw:Region.wanted o (yielded ops a.tmps)=false)
 (h:∀K:Act->World->Prop,(∀a w,iM P ops Q S st r a w->K a w)->K (a.put o.dst undef) w):iM P ops Q S st (.op k 1 o r) a w:=
 ⟨hS,undef,.inr ⟨hw,rfl⟩,h _ (λ_ _ h=>h)⟩
theorem acS {v} (hw:Region.wanted o (yielded ops a.tmps)=true)
 (hy:∀w',(execOp a.eval o).run P w'=.ok (.value v) w') (h:∀K:Act->World->Prop,(∀a w,iM P ops Q S st r a w->K a w)->K (a.put o.dst v) w):iM P ops Q S st (.op k 2 o r) a w:=
 ⟨v,.inl ⟨hw,λw _=>hy w⟩,h _ (λ_ _ h=>h)⟩
theorem acT (hw:Region.wanted o (yielded ops a.tmps)=false)
 (h:∀K:Act->World->Prop,(∀a w,iM P ops Q S st r a w->K a w)->K (a.put o.dst undef) w):iM P ops Q S st (.op k 2 o r) a w:=
 ⟨undef,.inr ⟨hw,rfl⟩,h _ (λ_ _ h=>h)⟩
theorem cw (h:∀K:Act->World->Prop,Shut (∀a' w',(S w->S w')->iM P ops Q S st r a' w'->K a' w')->if Region.wanted o (yielded ops a.tmps)=true then Oper.wp P o a w K (uu Q)else K (a.put o.dst undef) w):
 iM P ops Q S st (.op k 0 o r) a w:=by
 unfold iM
 split
 .rename_i hw
  have h:=h (λa' w'=>(XT .any ops st k=true∨(S w->S w'))/\iM P ops Q S st r a' w') (λa' w' hS h=>⟨.inr hS,h⟩);rw [av hw]at h;exact .inl h
 .rename_i hw
  have h:=h (λa' w'=>iM P ops Q S st r a' w') (λa' w' _ h=>h);rw [af hw]at h;exact h
theorem ahx (hx:XT .any ops st k=true)
 (h:∀K:Act->World->Prop,Shut (∀a' w',iM P ops Q S st r a' w'->K a' w')->if Region.wanted o (yielded ops a.tmps)=true then Oper.wp P o a w K (uu Q)else K (a.put o.dst undef) w):
 iM P ops Q S st (.op k 0 o r) a w:=by
 unfold iM
 split
 .rename_i hw
  have h:=h (λa' w'=>(XT .any ops st k=true∨(S w->S w'))/\iM P ops Q S st r a' w') (λa' w' h=>⟨.inl hx,h⟩);rw [av hw]at h;exact .inl h
 .rename_i hw
  have h:=h (λa' w'=>iM P ops Q S st r a' w') (λa' w' h=>h);rw [af hw]at h;exact h
theorem gL {k'} {o'} {r'} (h:iM P ops Q S st (.op k 0 o r) a w) (h':iM P ops Q S st (.op k' 0 o' r') a w):iM P ops Q S st (.fork k o r k' o' r') a w:=⟨h,h'⟩
end
def dt (w:World) (g:Nat) (f:ByteArray->Option Value):Prop:=
 ∃es clock,w.heap[g]?=some (.map es clock)/\(∀x∈es.toList,MapKept.IsKey .string x.key)/\(es.toList.map (·.key)).Nodup/\∀s v,f s=some v↔∃x∈es.toList,x.key=.string s/\x.val=v
section
variable {P:Program} {w w':World} {g:Nat} {f:ByteArray->Option Value} {mt kt et:TypeId}
theorem dt.lt (h:dt w g f):g<w.heap.size:=by
 obtain⟨_,_,hb,_⟩:=h;exact(Array.getElem?_eq_some_iff.1 hb).1
theorem dt.kept {S} (h:dt w g f) (hk:Kept S w w') (hs:¬S g):dt w' g f:=by
 have hl:=h.lt;obtain⟨es,clock,hb,r⟩:=h;exact⟨es,clock,(hk.block g hl hs).trans hb,r⟩
theorem dt.ext (h:dt w g f) (hk:al w w'):dt w' g f:=h.kept hk (λf=>f)
theorem dt.nH {f'} (h:dt w g f) (e:∀s,f s=f' s):dt w g f':=by
 obtain⟨es,clock,hb,hk,hn,hm⟩:=h;exact⟨es,clock,hb,hk,hn,λs v=>by rw [<-e];exact hm s v⟩
theorem dt.made (w:World):dt (w.alloc (.map #[] 0)) w.heap.size (λ_=>none):=
 ⟨#[],0,(MapKept.heap_alloc w _).1,by simp,by simp,by simp⟩
theorem mZ (s:ByteArray):MapKept.IsKey .string (.string s):=by simp [MapKept.IsKey]
theorem dt.find (h:dt w g f) (s:ByteArray):∃es clock,w.heap[g]?=some (.map es clock)/\(∀x∈es.toList,MapKept.IsKey .string x.key)/\(es.toList.map (·.key)).Nodup/\(∀s v,f s=some v↔∃x∈es.toList,x.key=.string s/\x.val=v)/\
 ((Instr.findNow .string (.string s) es.toList 0=some none/\f s=none/\∀x∈es.toList,x.key≠ .string s)∨∃j e,Instr.findNow .string (.string s) es.toList 0=some (some (j,e.val))/\es.toList[j]?=some e/\e.key=.string s/\f s=some e.val):=by
 obtain⟨es,clock,hb,hk,hn,hm⟩:=h;refine⟨es,clock,hb,hk,hn,hm,?_⟩
 rcases MapKept.findNow_spec (mZ s) es.toList 0 hk with⟨h1,h2⟩|⟨j,e,h1,h2,h3⟩
 .refine .inl ⟨h1,?_,h2⟩
  cases hf:f s with
  |none=>rfl
  |some v=>
   obtain⟨x,hx,he,_⟩:=(hm s v).1 hf;exact absurd he (h2 x hx)
 .rw [dU]at h1
  exact .inr ⟨j,e,h1,h2,h3,(hm s e.val).2 ⟨e,List.mem_of_getElem? h2,h3,rfl⟩⟩
theorem dt.look (h:dt w g f) (hu:P.underlying mt=some (.map kt et)) (hk:P.underlying kt=some .string) {z:Value} (hz:∀w:World,(zeroValue et).run P w=.ok z w) (s:ByteArray):
 (Instr.lookup mt (.map (some g)) (.string s) false).run P w=.ok ((f s).getD z) w:=by
 exact ans
theorem dt.look_ok (h:dt w g f) (hu:P.underlying mt=some (.map kt et)) (hk:P.underlying kt=some .string) {z:Value} (hz:∀w:World,(zeroValue et).run P w=.ok z w) (s:ByteArray):
 (Instr.lookup mt (.map (some g)) (.string s) true).run P w=.ok (.tuple #[(f s).getD z,.bool (f s).isSome]) w:=by
 exact ans
theorem pN {o:Obj}:Kept (·=g) w {w with heap:=w.heap.setIfInBounds g o}:=
 ⟨rfl,rfl,rfl,by simp,λj _ hn=>by
  show(w.heap.setIfInBounds g o)[j]?=_;rw [Array.getElem?_setIfInBounds_ne (λe=>hn e.symm)]⟩
theorem dt.put (h:dt w g f) (hu:P.underlying mt=some (.map kt et)) (hk:P.underlying kt=some .string) (s:ByteArray) (v:Value):
 ∃w',(Instr.mapUpdate mt (.map (some g)) (.string s) v).run P w=.ok () w'/\dt w' g (λt=>if t=s then some v else f t)/\Kept (·=g) w w':=by
 obtain⟨es,clock,hb,hks,hn,hm,⟨h1,hf,AU⟩|⟨j,e,h1,h2,h3,h4⟩⟩:=h.find s
 .refine⟨{w with heap:=w.heap.setIfInBounds g (.map (es.push ⟨.string s,v,clock⟩) (clock+1))},?_,⟨_,_,(MapKept.heap_set hb).1,?_,?_,?_⟩,pN⟩
  .simp [Instr.mapUpdate,run_underlying hu,MapKept.run_getObj_map hb,MapKept.run_checkKey hk (mZ s),MapKept.run_findKey hk h1,MapKept.run_setObj_map _ hb,Result.andThen]
  .intro x hx
   simp only [Array.toList_push,mK,List.mem_singleton]at hx
   rcases hx with hx|rfl
   .exact hks x hx
   .exact mZ s
  .rw [Array.toList_push,vQ]
   refine List.nodup_append.2 ⟨hn,by simp,λa ha b fJ e=>?_⟩;obtain⟨x,hx,rfl⟩:=List.mem_map.1 ha;simp at fJ;subst fJ;exact AU x hx e
  .intro t u
   show(if t=s then some v else f t)=some u↔_;simp only [Array.toList_push,mK,List.mem_singleton]
   by_cases e:t=s
   .subst e
    rw [av rfl]
    constructor
    .intro q
     cases q
     exact⟨_,.inr rfl,rfl,rfl⟩
    .rintro⟨x,hx|rfl,je,rC⟩
     .exact absurd je (AU x hx)
     .rw [<-rC]
   .rw [af e,hm]
    constructor
    .rintro⟨x,hx,je,rC⟩
     exact⟨x,.inl hx,je,rC⟩
    .rintro⟨x,hx|rfl,je,rC⟩
     .exact⟨x,hx,je,rC⟩
     .injection je with je
      exact absurd je.symm e
 .have hj:es[j]?=some e:=by simpa using h2
  have Yx:∀e',es[j]?=some e'->({e' with key:=.string s,val:=v}:MapEntry).key=e'.key:=λe' Yn=>by rw [hj]at Yn;cases Yn;exact h3.symm
  have ft:j<es.size:=(Array.getElem?_eq_some_iff.1 hj).1;refine⟨{w with heap:=w.heap.setIfInBounds g (.map (es.modify j λe=>{e with key:=.string s,val:=v}) clock)},?_,⟨_,_,(MapKept.heap_set hb).1,MapKept.isKey_modify hks _ _ Yx,?_,?_⟩,pN⟩
  .simp [Instr.mapUpdate,run_underlying hu,MapKept.run_getObj_map hb,MapKept.run_checkKey hk (mZ s),MapKept.run_findKey hk h1,hj,h3,MapKept.run_keyThatStays (mZ s),MapKept.run_setObj_map _ hb,Result.andThen]
  .rw [MapKept.modify_keys _ _ Yx]
   exact hn
  .have kL:∀i,(es.modify j λe=>{e with key:=.string s,val:=v}).toList[i]?=if i=j then some ⟨.string s,v,e.born⟩else es.toList[i]?:=λi=>by
    rw [Array.getElem?_toList,Array.getElem?_modify]
    by_cases ei:i=j
    .subst ei;simp [hj]
    .rw [af (λq=>ei q.symm),af ei,Array.getElem?_toList]
   have YT:∀i x,es.toList[i]?=some x->x.key=.string s->i=j:=λi x hx je=>by
    exact aih
   intro t u;show(if t=s then some v else f t)=some u↔_
   by_cases M9:t=s
   .subst M9
    rw [av rfl]
    constructor
    .intro q
     cases q
     exact⟨⟨.string t,v,e.born⟩,List.mem_of_getElem? (i:=j) (by rw [kL,av rfl]),rfl,rfl⟩
    .rintro⟨x,hx,je,rC⟩
     obtain⟨i,hi⟩:=List.getElem?_of_mem hx;rw [kL]at hi
     split at hi
     .cases hi
      rw [<-rC]
     .rename_i gM
      exact absurd (YT i x hi je) gM
   .rw [af M9,hm]
    constructor
    .rintro⟨x,hx,je,rC⟩
     obtain⟨i,hi⟩:=List.getElem?_of_mem hx
     have gM:¬i=j:=λq=>by
      subst q;rw [h2]at hi
      cases hi
      rw [h3]at je;injection je with je;exact M9 je.symm
     exact⟨x,List.mem_of_getElem? (i:=i) (by rw [kL,af gM];exact hi),je,rC⟩
    .rintro⟨x,hx,je,rC⟩
     obtain⟨i,hi⟩:=List.getElem?_of_mem hx;rw [kL]at hi
     split at hi
     .cases hi
      injection je with je;exact absurd je.symm M9
     .exact⟨x,List.mem_of_getElem? hi,je,rC⟩
theorem dt.del (h:dt w g f) (hu:P.underlying mt=some (.map kt et)) (hk:P.underlying kt=some .string) (ty:TypeId) (s:ByteArray):
 ∃w',(Builtin.delete_ #[mt,kt] ty #[.map (some g),.string s]).run P w=.ok (.tuple #[]) w'/\dt w' g (λt=>if t=s then none else f t)/\Kept (·=g) w w':=by
 obtain⟨es,clock,hb,hks,hn,hm,⟨h1,hf,AU⟩|⟨j,e,h1,h2,h3,h4⟩⟩:=h.find s
 .refine⟨{w with heap:=w.heap.setIfInBounds g (.map es clock)},?_,⟨es,clock,(MapKept.heap_set hb).1,hks,hn,λt u=>?_⟩,pN⟩
  .simp [Builtin.delete_,run_underlying hu,MapKept.run_getObj_map hb,MapKept.run_checkKey hk (mZ s),MapKept.run_findKey hk h1,MapKept.run_setObj_map _ hb,Result.andThen]
  .show(if t=s then none else f t)=some u↔_
   by_cases M9:t=s
   .subst M9
    rw [av rfl,<-hf,hm]
   .rw [af M9,hm]
 .have ft:j<es.size:=by have:=(List.getElem?_eq_some_iff.1 h2).1;simpa using this
  have Iv:(es.eraseIdxIfInBounds j).toList=es.toList.eraseIdx j:=by
   unfold Array.eraseIdxIfInBounds;rw [dif_pos ft,Array.toList_eraseIdx]
  have T9:(es.toList.eraseIdx j).Sublist es.toList:=List.eraseIdx_sublist _ _;refine⟨{w with heap:=w.heap.setIfInBounds g (.map (es.eraseIdxIfInBounds j) clock)},?_,⟨_,clock,(MapKept.heap_set hb).1,?_,?_,λt u=>?_⟩,pN⟩
  .simp [Builtin.delete_,run_underlying hu,MapKept.run_getObj_map hb,MapKept.run_checkKey hk (mZ s),MapKept.run_findKey hk h1,MapKept.run_setObj_map _ hb,Result.andThen]
  .rw [Iv];exact λx hx=>hks x (T9.subset hx)
  .rw [Iv];exact(T9.map _).nodup hn
  .rw [Iv]
   have YT:∀i x,es.toList[i]?=some x->x.key=.string s->i=j:=λi x hx je=>by
    exact aih
   show(if t=s then none else f t)=some u↔_
   by_cases M9:t=s
   .subst M9
    rw [av rfl]
    constructor
    .intro q;cases q
    .rintro⟨x,hx,je,_⟩
     obtain⟨i,hij,hi⟩:=List.mem_eraseIdx_iff_getElem?.1 hx;exact absurd (YT i x hi je) hij
   .rw [af M9,hm]
    constructor
    .rintro⟨x,hx,je,rC⟩
     obtain⟨i,hi⟩:=List.getElem?_of_mem hx;refine⟨x,List.mem_eraseIdx_iff_getElem?.2 ⟨i,λq=>?_,hi⟩,je,rC⟩;subst q;rw [h2]at hi
     cases hi
     rw [h3]at je;injection je with je;exact M9 je.symm
    .rintro⟨x,hx,je,rC⟩
     exact⟨x,T9.subset hx,je,rC⟩
end
structure Row (w:World) (b off:Nat) (vs:List Value):Prop where
 has:has w b off vs.length=true
 get:gets w b off vs.length=vs.toArray
 lt:b<w.heap.size
section
variable {w w':World} {b off:Nat} {vs:List Value}
theorem Row.inv (h:Row w b off vs):∃c t fr,w.heap[b]?=some (.cells c t fr)/\off+vs.length<=c.size/\(c.toList.drop off).take vs.length=vs:=by
 have h1:=h.has;have h2:=h.get;unfold Proofs.YtnhelcmddjbafaaGreatDoor.has at h1;unfold gets at h2
 split at h1
 .rename_i c t fr hq
  rw [hq]at h2;exact⟨c,t,fr,hq,of_decide_eq_true h1,by simpa using h2⟩
 .cases h1
theorem Row.kept {S} (h:Row w b off vs) (hk:Kept S w w') (hs:¬S b):Row w' b off vs:=by
 have hb:=hk.block b h.lt hs;refine⟨?_,?_,gw h.lt hk.size⟩
 .have:=h.has;unfold Proofs.YtnhelcmddjbafaaGreatDoor.has at this⊢;rw [hb];exact this
 .have:=h.get;unfold gets at this⊢;rw [hb];exact this
theorem Row.ext (h:Row w b off vs) (hk:al w w'):Row w' b off vs:=h.kept hk (λf=>f)
theorem Row.sub (h:Row w b off vs) (j m) (hj:j+m<=vs.length):Proofs.YtnhelcmddjbafaaGreatDoor.has w b (off+j) m=true/\gets w b (off+j) m=((vs.drop j).take m).toArray:=by
 obtain⟨c,t,fr,hq,hle,mN⟩:=h.inv;unfold Proofs.YtnhelcmddjbafaaGreatDoor.has gets;rw [hq];refine⟨by simp;omega,?_⟩;show((c.toList.drop (off+j)).take m).toArray=_;rw [<-mN,List.drop_take,List.take_take,List.drop_drop,Nat.min_eq_left ad]
theorem Row.cell (h:Row w b off vs) (i) (hi:i<vs.length):w.cell? ⟨b,off+i,none⟩=vs[i]?:=by
 obtain⟨c,t,fr,hq,hle,mN⟩:=h.inv;rw [cell_of_row w b (off+i) c t fr hq,<-mN,List.getElem?_take,av hi,List.getElem?_drop];simp
theorem Row.cR {t} {cs} (h:aj w b t cs):Row w b 0 cs.toList:=by
 refine⟨by rw [bH h];simp,?_,aj.lt h⟩;rw [bG h];simp [lY]
end
theorem eB {P} {fn} {a} {w} {p j} {ty t} {g} {cs:Array Value}
 (Fp:fn.results=#[.cell p ty,.tmp j]) (hd:a.defers=[]) (hp:a.tmps.getD p undef=.pointer (some ⟨g,0,none⟩)) (ha:gB P ty=true) (hs:dw P ty=some cs.size) (hb:aj w g t cs)
 (hR:R (.returned (.tuple #[.agg cs,a.tmps.getD j undef])) w):bodyPost P fn R .ret a w:=by
 exact Sn
theorem aV {a b} (h:a=b):Ending.returned (.bool a)=.returned (.bool b):=by rw [h]
theorem aQ {w w'} {E} {v} {n} {xs} (h:w.ownsRow base E sz v n xs) (hk:al w w'):w'.ownsRow base E sz v n xs:=
 h.kept (row:=none) ⟨hk.os,hk.tape,hk.output,hk.size,λk hl _=>hk.block k hl (λf=>f)⟩ (by cases hv:v.ownBlock<;>simp)
theorem ii {w:World} {b b':Nat} {E:TypeId} {v:Value} {n:Nat} {xs:List Value} (h:w.ownsRow b' E sz v n xs) (hb:b<=b'):w.ownsRow b E sz v n xs:=by
 refine⟨h.1,?_⟩
 rcases h.2 with h1|⟨g,c,du,hv,hg,r⟩
 .exact .inl h1
 .exact .inr ⟨g,c,du,hv,ay hb hg,r⟩
theorem dy {S} {w w'} {E} {v} {n} {xs} (h:w.ownsRow base E sz v n xs) (hk:Kept S w w') (hs:∀g,v.ownBlock=some g->¬S g):w'.ownsRow base E sz v n xs:=by
 refine⟨h.1,?_⟩
 rcases h.2 with h1|⟨g,c,du,hv,hg,hc,r⟩
 .exact .inl h1
 .refine .inr ⟨g,c,du,hv,hg,?_,r⟩
  rw [hk.block g (Array.getElem?_eq_some_iff.1 hc).1 (hs g (by rw [hv];rfl))];exact hc
theorem Dt {w:World} {E:TypeId} {v:Value} {n:Nat} {xs:List Value} (h:w.ownsRow base E sz v n xs) {i:Nat} (hi:v.ownBlock=some i):∃du,w.heap[i]?=some (.cells du E (0,0)):=by
 rcases h.2 with⟨hv,_⟩|⟨g,c,du,hv,_,hc,_⟩
 .rw [hv]at hi;simp [Value.ownBlock]at hi
 .rw [hv]at hi
  simp [Value.ownBlock]at hi;subst hi;exact⟨du,hc⟩
theorem cY {w:World} {E E':TypeId} {v:Value} {n:Nat} {xs:List Value} (h:w.ownsRow base E sz v n xs) (hE:¬E=E'):∀i,v.ownBlock=some i->∀du fr,¬w.heap[i]?=some (.cells du E' fr):=λi hi du fr e=>by
 obtain⟨aoR,e'⟩:=Dt h hi;rw [e]at e';injection e' with e';injection e' with _ e' _;exact hE e'.symm
theorem BD (w:World) (E) (sz:Nat):(w.alloc (.cells #[] E)).ownsRow w.heap.size E sz (.slice (some ⟨w.heap.size,0,none⟩) 0 0) 0 []:=
 ⟨by simp,.inr ⟨w.heap.size,0,#[],rfl,eH _,heap_alloc_new w _,eH _,by simp,by simp,by simp⟩⟩
theorem Kept.sl {w w'} {row} (h:w.grownBy w' row):Kept (λi=>row=some i) w w':=
 ⟨h.os,h.tape,h.output,h.size,λk hk hn=>h.block k hk (λe=>hn e.symm)⟩
theorem FR (b off j:Nat):(⟨b,off,none⟩:Addr).add j=⟨b,off+j,none⟩:=by unfold Addr.add;split<;>simp_all
theorem Row.cells {w} {b off} {vs} (h:Row w b off vs):∀j u,vs[j]?=some u->w.cell? ((⟨b,off,none⟩:Addr).add j)=some u:=λj u hu=>by
 rw [FR,h.cell j (List.getElem?_eq_some_iff.1 hu).1,hu]
theorem pz {P:Program} {T E:TypeId} {i:TypeInfo} {z:Value} {bytes:Nat} (ht:P.underlying T=some (.slice E)) (hi:P.info? E=some i) (hz:i.zero=some z) (h1:i.size=sz) (h2:i.bytes=bytes) (h3:z.cells.size=sz) (h4:0<sz)
 (w:World) (base:Nat) (v:Value) (n:Nat) (xs:List Value) (iC:w.ownsRow base E sz v n xs) (b off m c:Nat) (ys:List Value) (hl:ys.length=m*sz) (hr:Row w b off ys) (hf:eI ys=true) (hn:n+m<=maxLen) (hb:(n+m)*bytes<=140737488355328) (iH:base<=w.heap.size):
 ∃v' w',(Builtin.append_ #[T,T] T #[v,.slice (some ⟨b,off,none⟩) m c]).run P w=.ok v' w'/\w'.ownsRow base E sz v' (n+m) (xs++ys)/\Kept (λi=>v.ownBlock=some i) w w':=by
 obtain⟨v',w',dr,ho,hg,_⟩:=run_append_own (P:=P) w base T T E i z sz bytes ht hi hz h1 h2 h3 h4 v n xs iC ⟨b,off,none⟩ m c ys hl hr.cells (nj hf) hn hb iH;exact⟨v',w',dr,ho,Kept.sl hg⟩
section
variable {P:Program} {w:World} {ops:Array Oper} {rest:List Oper} {o:Oper} {a:Act} {Q:Exit->Act->World->Prop} (CP:o.guard=none) (x y:Operand) (T:TypeId)
include P w ops rest o a Q CP x y T
theorem cJ (ho:o.op=.call {callee:=.builtin .append,args:=#[x,y],argTypes:=#[T,T]}) {ty:TypeId} (hty:o.type=ty) {v s:Value} {w':World} (hx:a.eval x=v) (hy:a.eval y=s) (dr:(Builtin.append_ #[T,T] ty #[v,s]).run P w=.ok v' w') (h:wpList P ops Q rest (a.put o.dst v') w'):wpList P ops Q (o::rest) a w:=
 wpList_plain CP λ_ hK=>by
  subst hty;unfold Oper.wp execOp;simp only [ho,resolve,invoke,builtin,Sem.run_bind,Sem.run_pure,Result.andThen_ok,List.map_toArray,nC,List.map_nil,hx,hy,dr];exact hK _ _ h
theorem iy (ho:o.op=.makeSlice T x y) {v s:Value} {w':World} (hx:a.eval x=v) (hy:a.eval y=s) (dr:(Instr.makeSlice T v s).run P w=.ok v' w') (h:wpList P ops Q rest (a.put o.dst v') w'):wpList P ops Q (o::rest) a w:=
 wpList_plain CP λ_ hK=>by
  unfold Oper.wp execOp;simp only [ho,Sem.run_bind,Sem.run_pure,Result.andThen_ok,hx,hy,dr];exact hK _ _ h
end
theorem CZ {c} {p q:Prop} (hc:c=true) (h:p):if c=true then p else q:=by rw [av hc];exact h
theorem kK {w} {g o n} (hS:al w w1) (hg:g<w.heap.size) (h:Proofs.YtnhelcmddjbafaaGreatDoor.has w g o n=true):Proofs.YtnhelcmddjbafaaGreatDoor.has w1 g o n=true:=by
 unfold Proofs.YtnhelcmddjbafaaGreatDoor.has at h⊢;rw [hS.block g hg (λf=>f)];exact h
theorem jg {w} {g o n} {c} (hS:al w w1) (hg:g<w.heap.size) (h:gets w g o n=c):gets w1 g o n=c:=by
 unfold gets at h⊢;rw [hS.block g hg (λf=>f)];exact h
theorem fq {w} {E} {v} {n} {xs:List Value} (h:w.ownsRow base E sz v n xs) (h0:0<n) (hz:0<sz):∃g c,v=.slice (some ⟨g,0,none⟩) n c/\Row w g 0 xs/\base<=g/\(∃du,w.heap[g]?=some (.cells du E (0,0))):=by
 have hl:=h.1
 rcases h.2 with⟨hv,e0⟩|⟨g,c,du,hv,hb,hc,zM,vG,gu,mN⟩
 .subst e0
  have:=Nat.mul_pos h0 hz;simp at hl
  omega
 .refine⟨g,c,hv,⟨?_,?_,(Array.getElem?_eq_some_iff.1 hc).1⟩,hb,du,hc⟩
  .unfold has;rw [hc,hl];simp only [dU,gZ];rw [gu];exact Nat.mul_le_mul_right _ zM
  .unfold gets;rw [hc,hl];simp only [qW];rw [mN]
def aI (n:Int):Prop:=-9223372036854775808<=n/\n<=9223372036854775807
theorem iS {P} {fn} {a} {w:World} (Fp:fn.results=#[]) (hd:a.defers=[]) (hR:R (.returned (.tuple #[])) w):bodyPost P fn R .ret a w:=
 bodyPost_ret (results_none Fp _ _ _) hd hR
open Go.Deep Go.ChangeShapes Go.WideShapes
theorem GG (b off j:Nat):(⟨b,off,none⟩:Addr).add j=⟨b,off+j,none⟩:=by unfold Addr.add;split<;>simp_all
theorem Ft {w:World} {a:Addr} {v:Value} (h:w.cell? a=some v):a.spot=none:=by
 unfold World.cell? at h
 split at h
 .split at h
  .cases h
  .rename_i hn;cases hs:a.spot with
   |none=>rfl
   |some x=>simp [hs]at hn
 .cases h
theorem xo {w} {b o} (vs) (gM:0<vs.length) (h:∀j,j<vs.length->w.cell? ⟨b,o+j,none⟩=vs[j]?):Row w b o vs:=by
 have h0:=h 0 gM
 cases hq:w.heap[b]? with
 |none=>simp [World.cell?,hq,List.getElem?_eq_getElem gM]at h0
 |some ob=>
  cases ob with
  |cells c t fr=>
   have hc:∀j,j<vs.length->c[o+j]?=vs[j]?:=λj hj=>by have:=h j hj;simpa [World.cell?,hq]using this
   have RE:=hc (vs.length - 1) ad
   have aX:o+(vs.length - 1)<c.size:=by
    rw [List.getElem?_eq_getElem ad]at RE;exact(Array.getElem?_eq_some_iff.1 RE).1
   refine⟨by unfold Proofs.YtnhelcmddjbafaaGreatDoor.has;rw [hq];simp;omega,?_,(Array.getElem?_eq_some_iff.1 hq).1⟩;unfold gets;rw [hq];show((c.toList.drop o).take vs.length).toArray=vs.toArray
   congr 1
   apply List.ext_getElem?;intro j;rw [List.getElem?_take]
   split
   .rename_i hj
    rw [List.getElem?_drop,<-hc j hj];simp
   .rename_i hj
    rw [List.getElem?_eq_none ad]
  |_=>simp [World.cell?,hq,List.getElem?_eq_getElem gM]at h0
theorem rR (hsz:0<sz):∀(tW:List (List Value)) (_:∀cs∈tW,cs.length=sz) (k:Nat),tW.flatten[k]?=(tW.getD (k / sz) [])[k%sz]?
 |[],_,k=>by simp
 |c::r,h,k=>by
  have hc:=h c aC;have ih:=rR hsz r (λcs gu=>h cs (by simp [gu]));rw [List.flatten_cons]
  by_cases hk:k<sz
  .rw [List.getElem?_append_left ad,Nat.div_eq_of_lt hk,Nat.mod_eq_of_lt hk]
   simp
  .rw [List.getElem?_append_right ad,hc,ih (k - sz)]
   have e1:k / sz=(k - sz) / sz+1:=by rw [Nat.div_eq k sz,av ⟨hsz,by omega⟩]
   have e2:k%sz=(k - sz)%sz:=by rw [Nat.mod_eq k sz,av ⟨hsz,by omega⟩]
   rw [e1,e2];simp
theorem oA:∀(tW:List (List Value)) (_:∀cs∈tW,cs.length=sz),tW.flatten.length=tW.length*sz
 |[],_=>by simp
 |c::r,h=>by
  have hc:=h c aC;have ih:=oA r (λcs gu=>h cs (by simp [gu]));rw [List.flatten_cons,cy,ih,hc,dT,Nat.succ_mul]
  omega
def b_ {α:Type} (f:α->Array Value) (l:List α):List Value:=l.flatMap λd=>(f d).toList
section
variable {α:Type} {f:α->Array Value} {k:Nat}
theorem jt (hf:∀d,(f d).size=k) (l:List α):(b_ f l).length=l.length*k:=by
 induction l with
 |nil=>simp [b_]
 |cons d l ih=>
  show((f d).toList++b_ f l).length=_;rw [cy,ih,Array.length_toList,hf,dT,Nat.succ_mul]
  omega
theorem LP (hf:∀d,(f d).size=k):∀(l:List α) (j:Nat) (hj:j<l.length),((b_ f l).drop (j*k)).take k=(f l[j]).toList
 |d::l,0,_=>by
  show(((f d).toList++b_ f l).drop (0*k)).take k=_;rw [Nat.zero_mul,qW,List.take_append,lY (by rw [Array.length_toList,hf];exact eH _),Array.length_toList,hf];simp
 |d::l,j+1,hj=>by
  have ih:=LP hf l j (by simpa using hj);show(((f d).toList++b_ f l).drop ((j+1)*k)).take k=_;have hl:(f d).toList.length=k:=by rw [Array.length_toList,hf]
  rw [Nat.succ_mul,Nat.add_comm,<-hl,List.drop_append,List.drop_of_length_le (l:=(f d).toList) ad];simp only [Nat.add_sub_cancel_left,nB];rw [hl];exact ih
theorem yU (hf:∀d,(f d).size=k) {w:World} {b off:Nat} {l:List α} (h:Row w b off (b_ f l)) (j:Nat) (hj:j<l.length):Proofs.YtnhelcmddjbafaaGreatDoor.has w b (off+j*k) k=true/\gets w b (off+j*k) k=f l[j]:=by
 have:=h.sub (j*k) k (by rw [jt hf];calc
  j*k+k=(j+1)*k:=by rw [Nat.succ_mul]
  _<=l.length*k:=Nat.mul_le_mul_right _ hj)
 rw [LP hf l j hj]at this;exact this
theorem Gd:∀(a b:List Value),eI (a++b)=(eI a&&eI b)
 |[],b=>by simp [eI]
 |x::a,b=>by simp [eI,Gd a b,Bool.and_assoc]
theorem PV (hf:∀d,eI (f d).toList=true) (l:List α):eI (b_ f l)=true:=by
 induction l with
 |nil=>rfl
 |cons d l ih=>show eI ((f d).toList++b_ f l)=true;rw [Gd,hf,ih];rfl
theorem GQ (l q:List α):b_ f l++b_ f q=b_ f (l++q):=by simp [b_]
end
inductive vJ {α β:Type} (V:World->α->β->Prop) (w:World):List α->List β->Prop where
 |nil:vJ V w [] []
 |cons {a:α} {b:β} {xs:List α} {ys:List β}:V w a b->vJ V w xs ys->vJ V w (a::xs) (b::ys)
section
variable {α β:Type} {V:World->α->β->Prop} {w w':World}
theorem vJ.mono (h:∀a b,V w a b->V w' a b):∀{xs:List α} {ys:List β},vJ V w xs ys->vJ V w' xs ys
 |_,_,.nil=>.nil
 |_,_,.cons x r=>.cons (h _ _ x) (r.mono h)
theorem vJ.len:∀{xs:List α} {ys:List β},vJ V w xs ys->xs.length=ys.length
 |_,_,.nil=>rfl
 |_,_,.cons _ r=>by simp [r.len]
theorem vJ.snoc {a:α} {b:β} (h:V w a b):∀{xs:List α} {ys:List β},vJ V w xs ys->vJ V w (xs++[a]) (ys++[b])
 |_,_,.nil=>.cons h .nil
 |_,_,.cons x r=>.cons x (r.snoc h)
theorem vJ.get:∀{xs:List α} {ys:List β} (_:vJ V w xs ys) (j:Nat) (h1:j<xs.length) (h2:j<ys.length),V w xs[j] ys[j]
 |_,_,.cons x _,0,_,_=>x
 |_,_,.cons _ r,j+1,h1,h2=>r.get j (by simpa using h1) (by simpa using h2)
end
end
namespace Mc
abbrev bg (k:Int):St:=⟨2611923443488327891,1376283091369227076,11820040416388919760,k⟩
def uN (a b:Dg):Dg:=out (taken (taken (bg 3) (Dj a)) (Dj b))
theorem tI (a b) (ha:a.ok) (hb:b.ok) (w:World):Calls prog 232 #[.agg #[.int .u8 a.x0,.int .u8 a.x1,.int .u8 a.x2,.int .u8 a.x3,.int .u8 a.x4,.int .u8 a.x5,.int .u8 a.x6,.int .u8 a.x7],.agg #[.int .u8 b.x0,.int .u8 b.x1,.int .u8 b.x2,.int .u8 b.x3,.int .u8 b.x4,.int .u8 b.x5,.int .u8 b.x6,.int .u8 b.x7]] w λe w'=>e=.returned (.agg (uN a b).cells)/\al w w':=by
 have aK:al w _:=((dS w (.cells #[.int .u8 a.x0,.int .u8 a.x1,.int .u8 a.x2,.int .u8 a.x3,.int .u8 a.x4,.int .u8 a.x5,.int .u8 a.x6,.int .u8 a.x7] 25)).alloc (.cells #[.int .u8 b.x0,.int .u8 b.x1,.int .u8 b.x2,.int .u8 b.x3,.int .u8 b.x4,.int .u8 b.x5,.int .u8 b.x6,.int .u8 b.x7] 25)).alloc (.cells Dg.zero.cells 25);have cG:aj _ (w.heap.size+1) 25 b.cells:=aj.alloc (aj.d_ (w.alloc (.cells #[.int .u8 a.x0,.int .u8 a.x1,.int .u8 a.x2,.int .u8 a.x3,.int .u8 a.x4,.int .u8 a.x5,.int .u8 a.x6,.int .u8 a.x7] 25)) _ _ _ aC) (.cells Dg.zero.cells 25);have hA0:aj _ w.heap.size 25 a.cells:=aj.alloc (aj.alloc (bN w _ _) (.cells #[.int .u8 b.x0,.int .u8 b.x1,.int .u8 b.x2,.int .u8 b.x3,.int .u8 b.x4,.int .u8 b.x5,.int .u8 b.x6,.int .u8 b.x7] 25)) (.cells Dg.zero.cells 25);have fU:aj _ (w.heap.size+1+1) 25 Dg.zero.cells:=aj.d_ ((w.alloc (.cells #[.int .u8 a.x0,.int .u8 a.x1,.int .u8 a.x2,.int .u8 a.x3,.int .u8 a.x4,.int .u8 a.x5,.int .u8 a.x6,.int .u8 a.x7] 25)).alloc (.cells #[.int .u8 b.x0,.int .u8 b.x1,.int .u8 b.x2,.int .u8 b.x3,.int .u8 b.x4,.int .u8 b.x5,.int .u8 b.x6,.int .u8 b.x7] 25)) _ _ _ aC;go_enter func232,ntmps232;go_wp21;refine kU (sU 3 _) λw1 aB=>?_;have pd:=bX hA0 aB;have tY:=bX cG aB;have gW:=bX fU aB;have Bt:=aj.lt pd;have KU:=bH pd;have Nc:=bG pd;go_wp21;refine kU (qG a ha _) λw2 bM=>?_;have pK:=bX (bN w1 317 (bg 3).cells) bM;go_wp21;refine(jQ _ _ _ _ pK).mono ?_;rintro e w3 ⟨rfl,OA,ea⟩;have abZ:al w1 w3:=((dS w1 _).trans bM).trans' ea (λi hi e=>by omega);have Io:=bX tY abZ;have hh3:=bH Io;have hg3:=bG Io;go_wp21;refine kU (qG b hb _) λw4 eV=>?_;go_wp21;refine(jQ _ _ _ _ (bX OA eV)).mono ?_;rintro e w5 ⟨rfl,hs5,iY⟩;have alb:al w1 w5:=(abZ.trans eV).trans' iY (λi hi e=>by omega);go_wp21;refine kU (s7 _ _ _ hs5) λw6 qz=>?_;have JH:=bX gW (alb.trans qz);have hh6:=bH JH;have Fm:=aj.aJ JH;go_wp21;refine bQ results232 rfl rfl dK ke (aj.cI JH _ _) ⟨rfl,?_⟩;exact Kept.putAt (((aK.trans aB).trans alb).trans qz) _ _ _ (λh=>by omega)
def dc (l:List Dg):List Value:=l.flatMap λd=>d.cells.toList
theorem eZ (l:List Dg):(dc l).length=l.length*8:=by
 induction l with
 |nil=>rfl
 |cons d l ih=>simp only [dc,List.flatMap_cons,cy]at ih⊢;rw [ih];simp;omega
theorem Rj:∀(l:List Dg) (k:Nat) (hk:k<l.length),((dc l).drop (k*8)).take 8=(l[k]).cells.toList
 |d::l,0,_=>by simp [dc]
 |d::l,k+1,hk=>by
  have ih:=Rj l k (by simpa using hk)
  have e:(dc (d::l)).drop ((k+1)*8)=(dc l).drop (k*8):=by
   rw [show(k+1)*8=8+k*8 by omega,<-List.drop_drop]
   rfl
  rw [e,ih];simp
end Mc
section
open Mc
theorem Row.dig {w} {b off} {l} (h:Row w b off (dc l)) (k:Nat) (hk:k<l.length):Proofs.YtnhelcmddjbafaaGreatDoor.has w b (off+k*8) 8=true/\gets w b (off+k*8) 8=(l[k]).cells:=by
 have:=h.sub (k*8) 8 (by rw [eZ];omega);rw [Rj l k hk]at this
 simpa using this
end
namespace Mc
def Lw (l:List Dg):St:=l.foldl (λs d=>taken s (Dj d)) (bg 5)
def Ya (l:List Dg):Dg:=out (taken (Lw l) l.length)
theorem Pa (l:List Dg) (k) (hk:k<l.length):Lw (l.take (k+1))=taken (Lw (l.take k)) (Dj l[k]):=by
 unfold Lw;rw [List.take_succ_eq_append_getElem hk,List.foldl_append]
 rfl
theorem Ze (A) (b off cap) (l:List Dg) (hl:l.length<=9223372036854775807) (hok:∀d∈l,d.ok) (w:World) (hA:0<l.length->A=some ⟨b,off,none⟩) (hr:0<l.length->Row w b off (dc l)):
 Calls prog 156 #[.slice A l.length cap] w λe w'=>e=.returned (.agg (Ya l).cells)/\al w w':=by
 have⟨HO,HA,HR⟩:=J3' hok hA hr;clear hok hA hr;refine aaF ?_;intro aK fU;obtain⟨n,hn⟩:=nm' l.length;rw [<-hn]at hl⊢;have HNn:=J hn;clear hn;go_enter func156,ntmps156;go_wp21;refine kU (sU 5 _) λw1 aB=>?_;go_wp21;have IA:=bN w1 317 (bg 5).cells
 go_loopw [9] (λi wr=>∃k:Nat,k<=n/\i=.int .i64 k/\aj wr w1.heap.size 317 (Lw (l.take k)).cells/\al w1 wr) (λi _=>n - (intOf i).toNat)
 case atStart=>exact⟨0,by omega,rfl,IA,dS _ _⟩
 case round=>
  obtain⟨k,hk,rfl,hs,hx⟩:=hrel;clear IA
  by_cases aX:k<n
  .have pf:k<l.length:=by have:=HNn.o;omega
   obtain rfl:=HA.o ad;have aG:=((HR.o ad).ext ((aK.trans aB).trans hx)).dig k pf;obtain⟨YM,Nh⟩:=aG;have rV:=gw (HR.o ad).lt ((aK.trans aB).trans hx).size;go_wp21;refine kU (qG l[k] (HO.o _ (cK pf)) _) λw2 bM=>?_;go_wp21;refine(jQ _ _ _ _ (bX (aj.alloc hs _) bM)).mono ?_;rintro e w3 ⟨rfl,OA,ea⟩;go_wp21;go_roundw
   case rel=>exact⟨k+1,by omega,by go_num,by rw [Pa l k pf];exact OA,((hx.alloc _).trans bM).trans' ea (λi hi e=>by omega)⟩
   case measure=>(simp only [intOf];omega)
  .have Wg:k=l.length:=by have:=HNn.o;omega
   have HK:=J Wg;clear Wg;go_wp21;refine(jQ _ _ _ _ hs).mono ?_;rintro e w2 ⟨rfl,pK,bM⟩;have YX:al w1 w2:=hx.trans' bM (λi hi e=>by omega);go_wp21;refine kU (s7 _ _ _ pK) λw3 ea=>?_;have oY:=bX (bX fU aB) (YX.trans ea);have hh3:=bH oY;have Fl:=aj.aJ oY;go_wp21;refine bQ results156 rfl rfl dK ke (aj.cI oY _ _) ⟨?_,?_⟩
   .unfold Ya
    rw [HK.o,lf,HNn.o]
    rfl
   .exact Kept.putAt (((aK.trans aB).trans YX).trans ea) _ _ _ (λh=>by omega)
theorem NM (w) (a) (len cap) (h:8<=len):(Instr.arrayAt 25 (.slice a len cap)).run prog w=.ok (.pointer a) w:=by
 simp [Instr.arrayAt,run_underlying underlying25]
 omega
attribute [go_sem] NM
def fF (l:List Int):List Value:=l.map (Value.int .u8)
theorem fH (l:List Int):(fF l).length=l.length:=by simp [fF]
def Kt (l:List Int):Dg:=⟨l.getD 0 0,l.getD 1 0,l.getD 2 0,l.getD 3 0,l.getD 4 0,l.getD 5 0,l.getD 6 0,l.getD 7 0⟩
theorem N4:∀(l:List Int),8<=l.length->(fF l).take 8=(Kt l).cells.toList
 |a::b::c::d::e::f::g::h::l,_=>by simp [fF,Kt]
theorem XJ (l) (j) (hj:j<8):Cy (Kt l) j=l.getD j 0:=by
 rcases(by omega:j=0∨j=1∨j=2∨j=3∨j=4∨j=5∨j=6∨j=7)with rfl|rfl|rfl|rfl|rfl|rfl|rfl|rfl<;>rfl
def jr (l:List Int):Prop:=∀x∈l,0<=x/\x<=255
theorem Ri {l} (h:jr l):(Kt l).ok:=by
 intro j
 by_cases hj:j<8
 .rw [XJ l j hj]
  by_cases hl:j<l.length
  .simp only [List.getD,List.getElem?_eq_getElem hl,Option.getD_some];exact h _ (cK hl)
  .simp [List.getD,List.getElem?_eq_none (Nat.le_of_not_lt hl)]
 .match j,hj with
  |n+8,_=>simp [Cy]
  |0,h|1,h|2,h|3,h|4,h|5,h|6,h|7,h=>exact absurd ad h
theorem jr.drop {l} (h:jr l) (n:Nat):jr (l.drop n):=λx hx=>h x (List.mem_of_mem_drop hx)
def D_ (s:St) (l:List Int):Nat->St|0=>s|k+1=>taken (D_ s l k) (Dj (Kt (l.drop (k*8))))
end Mc
section
open Mc
theorem Row.chunk {w} {b off} {l} (h:Row w b off (fF l)) (k:Nat) (hk:k*8+8<=l.length):Proofs.YtnhelcmddjbafaaGreatDoor.has w b (off+k*8) 8=true/\gets w b (off+k*8) 8=(Kt (l.drop (k*8))).cells:=by
 have:=h.sub (k*8) 8 (by rw [fH];omega);have e:((fF l).drop (k*8))=fF (l.drop (k*8)):=by simp [fF,List.map_drop]
 rw [e,N4 _ kQ]at this
 simpa using this
end
namespace Mc
theorem G8 (g) (s) (A) (b off cap:Nat) (l:List Int) (n:Nat) (hn:n=l.length) (hl:n<=cap) (mE:cap<=9223372036854775807) (hok:jr l) (w:World) (hs:aj w g 317 s.cells) (hA:0<n->A=some ⟨b,off,none⟩) (hr:0<n->Row w b off (fF l)) (Nb:0<n->¬b=g):
 Calls prog 307 #[.pointer (some ⟨g,0,none⟩),.slice A n cap] w λe w'=>e=.returned (.tuple #[])/\aj w' g 317 (D_ s l (n / 8)).cells/\Kept (·=g) w w':=by
 have⟨HO,HA,HR,HG,HN⟩:=J5' hok hA hr Nb hn;clear hok hA hr Nb hn;go_enter func307,ntmps307;go_wp21
 go_loopw [8] (λi wr=>∃k:Nat,k<=n / 8/\i=.int .i64 k/\aj wr g 317 (D_ s l k).cells/\Kept (·=g) w wr) (λi _=>n / 8 - (intOf i).toNat)
 case atStart=>exact⟨0,by omega,rfl,hs,kR _ _⟩
 case round=>
  obtain⟨k,hk,rfl,AW,hx⟩:=hrel;clear hs
  by_cases aX:k<n / 8
  .have zJ:k*8+8<=l.length:=by have:=HN.o;omega
   have yx:k*8+8<=n:=by omega
   obtain rfl:=HA.o ad;obtain⟨YM,Nh⟩:=((HR.o ad).kept hx (HG.o ad)).chunk k zJ;have yv:¬cap=k*8:=by omega
   go_wp21;refine kU (qG _ (Ri (HO.o.drop _)) _) λw2 bM=>?_;go_wp21;refine(jQ _ _ _ _ (bX AW bM)).mono ?_;rintro e w3 ⟨rfl,OA,ea⟩;go_wp21;go_roundw
   case rel=>exact⟨k+1,by omega,by go_num,OA,(hx.trans (Kept.ext bM)).trans ea⟩
   case measure=>(simp only [intOf];omega)
  .have Wg:k=n / 8:=by omega
   have HK:=J Wg;clear Wg;go_wp21;go_end0;exact⟨rfl,HK.o▸AW,hx⟩
theorem ajk (w) (ty) (d a) (wI Ie ZF:Nat):(Builtin.copy_ #[89,89] ty #[.slice d wI Ie,.slice a 0 ZF]).run prog w=.ok (.int .i64 0) w:=by
 have h:=run_copy_none (P:=prog) w 89 89 ty 5 d a wI Ie 0 ZF underlying89 bd aC
 simpa [goInt]using h
theorem ajl (w) (ty) (g o wI Ie h p ahm ZF) (cs) (hn:cs.length=Nat.min ahm wI) (hr:Row w h p cs) (hf:eI cs=true) (hh:has w g o cs.length=true) (hm:aJ w g=true):
 (Builtin.copy_ #[89,89] ty #[.slice (some ⟨g,o,none⟩) wI Ie,.slice (some ⟨h,p,none⟩) ahm ZF]).run prog w=.ok (.int .i64 cs.length) (putAt w g o cs.toArray):=by
 unfold has at hh;unfold aJ at hm
 split at hh
 .rename_i c t fr hq
  rw [hq]at hm
  have V8:fr=(0,0):=by
   revert hm;obtain⟨a,b⟩:=fr;cases a<;>cases b<;>simp
  subst V8;rw [mG hq]
  have:=run_copy_row (P:=prog) w 89 89 ty 5 g o wI Ie ⟨h,p,none⟩ ahm ZF c t cs underlying89 bd hq hn (λj v hv=>by
   rw [FR h p j,hr.cell j (List.getElem?_eq_some_iff.1 hv).1,hv]) (of_decide_eq_true hh) (nj hf)
  rw [this];simp [goInt,splice]
 .cases hh
def I4 (l:List Int):Dg:=Kt (l.drop (l.length / 8*8)++[1])
def uB (s:St) (l:List Int):St:=taken (taken (D_ s l (l.length / 8)) (Dj (I4 l))) l.length
theorem UE (r) (h:r.length<8):(splice Dg.zero.cells 0 (fF r).toArray).setIfInBounds r.length (.int .u8 1)=(Kt (r++[1])).cells:=by
 match r,h with
 |[],_=>rfl
 |[a],_=>rfl
 |[a,b],_=>rfl
 |[a,b,c],_=>rfl
 |[a,b,c,d],_=>rfl
 |[a,b,c,d,e],_=>rfl
 |[a,b,c,d,e,f],_=>rfl
 |[a,b,c,d,e,f,g],_=>rfl
theorem FX (l:List Int):eI (fF l)=true:=by
 induction l with
 |nil=>rfl
 |cons a l ih=>simp only [fF,nC,eI,Value.oneCell']at ih⊢;simpa using ih
abbrev agf:Dg:=⟨1,0,0,0,0,0,0,0⟩
theorem agh:agf.ok:=by
 intro j
 match j with
 |0|1|2|3|4|5|6|7=>simp [Cy]
 |n+8=>simp [Cy]
theorem XN (s0) (s) (b off cap) (l:List Int) (n:Nat) (hn:n=l.length) (hl:n<=cap) (mE:cap<=9223372036854775807) (hok:jr l) (w:World) (hs:aj w s0 317 s.cells) (hr:Row w b off (fF l)) (hm:0<n%8):
 Calls prog 308 #[.pointer (some ⟨s0,0,none⟩),.slice (some ⟨b,off,none⟩) n cap] w λe w'=>e=.returned (.tuple #[])/\aj w' s0 317 (taken (taken s (Dj (I4 l))) n).cells/\Kept (·=s0) w w':=by
 have HO:=J hok;have HN:=J hn;clear hok hn;go_enter func308,ntmps308;go_wp21;have JI:=bN w 25 #[.int .u8 0,.int .u8 0,.int .u8 0,.int .u8 0,.int .u8 0,.int .u8 0,.int .u8 0,.int .u8 0];have aK:al w _:=dS w (.cells #[.int .u8 0,.int .u8 0,.int .u8 0,.int .u8 0,.int .u8 0,.int .u8 0,.int .u8 0,.int .u8 0] 25);have Oz:=aj.lt hs;have JK:=hr.lt;generalize w.alloc (.cells #[.int .u8 0,.int .u8 0,.int .u8 0,.int .u8 0,.int .u8 0,.int .u8 0,.int .u8 0,.int .u8 0] 25)=W at JI aK⊢;generalize hg:w.heap.size=g at*;have yv:¬cap=n / 8*8:=by omega
 have hlo:n / 8*8<=n:=by omega
 have hh:=bH JI;have hme:=aj.aJ JI;have hq1:(0:Int)<=(n:Int) / 8*8:=by omega
 have Wq:((n:Int) / 8*8).toNat=n / 8*8:=by omega
 have YL:((n:Int) / 8*8)<=n:=by omega
 have mO:IntKind.i64.wrap ((n:Int) / 8)=(n:Int) / 8:=IntWalk.i64_in _ ad;have rB:IntKind.i64.wrap ((n:Int) / 8*8)=(n:Int) / 8*8:=IntWalk.i64_in _ ad;obtain⟨r,hre⟩:=nm' ((l.drop (n / 8*8)).length);have hr8:r=n%8:=by have:=HN.o;simp at hre;omega
 have aG:Row W.drew b (off+n / 8*8) (fF (l.drop (n / 8*8))):=by
  have h1:=(hr.ext aK).sub (n / 8*8) (n - n / 8*8) (by rw [fH];have:=HN.o;omega)
  have e:((fF l).drop (n / 8*8)).take (n - n / 8*8)=fF (l.drop (n / 8*8)):=by
   rw [lY (by simp [fF];have:=HN.o;omega)];simp [fF,List.map_drop]
  have e2:(fF (l.drop (n / 8*8))).length=n - n / 8*8:=by rw [fH];simp;have:=HN.o;omega
  refine⟨by rw [e2];exact h1.1,by rw [e2,<-e];exact h1.2,gw hr.lt aK.size⟩
 have hcp:=ajl W.drew 3 g 0 8 8 b (off+n / 8*8) (n - n / 8*8) (cap - n / 8*8) (fF (l.drop (n / 8*8))) (by rw [fH,<-hre];simp only [Nat.min_def];split<;>omega) aG (FX _) (by rw [Yj,bH JI];rw [fH];simp only [<-hre];simp;omega) hme;rw [fH,<-hre]at hcp;clear aG;have HE:=J hre;have H8:=J hr8;have YO:r<8:=by omega
 clear hre hr8;have tY:=aj.cI (aj.drew JI) 0 (fF (l.drop (n / 8*8))).toArray;have aB:Kept (·=g) W (putAt W.drew g 0 (fF (l.drop (n / 8*8))).toArray):=Kept.putAt ((kR _ W).drew) g 0 _ (λ_=>rfl);generalize hX:(fF (l.drop (n / 8*8))).toArray=X at hcp tY aB;have HX:=J hX;clear hX;generalize putAt W.drew g 0 X=W1 at hcp tY aB;refine eW (λ_=>True) [(0,2),(1,2),(2,2),(3,2),(4,2),(5,2),(6,2),(7,0),(8,2)] ?_;refine eX ?_
 repeat first|refine bV ?_|refine cF trivial (by intro w1 hS;exact fE) ?_|refine cD trivial ?_
 refine ap (λK hK=>?_);go_simp;refine hK.out _ _ (λ_=>trivial) ?_;clear hK K;refine fc ?_;clear hcp mO rB hq1 Wq YL hh hme;have hc1:=bC tY;have hf1:=aj.frozen tY
 have hsz:(splice Dg.zero.cells 0 X).size=8:=by
  rw [<-HX.o,sH]
  .rfl
  .simp [fF];have:=HE.o;simp at this;omega
 obtain⟨v0,jB⟩:∃v0,(splice Dg.zero.cells 0 X)[r]?=some v0:=⟨_,Array.getElem?_eq_getElem ad⟩;have uP:W1.cell? ⟨g,r,none⟩=some v0:=by rw [<-jB];exact hc1 r
 clear hc1;go_upto_region 3 with(fail);have zB:=aj.fw tY r (.int .u8 1)
 have YJ:(splice Dg.zero.cells 0 X).setIfInBounds r (.int .u8 1)=(I4 l).cells:=by
  rw [<-HX.o,HE.o];have:=UE (l.drop (n / 8*8)) (by rw [<-HE.o];exact YO);rw [HN.o]at this⊢;exact this
 rw [YJ]at zB;have bM:Kept (·=g) W (W1.setCell ⟨g,r,none⟩ (.int .u8 1)):=Kept.setCell aB _ _ (λ_=>rfl);clear YJ uP jB hsz tY aB hf1;generalize W1.setCell ⟨g,r,none⟩ (.int .u8 1)=W2 at zB bM⊢;have Wb:=bH zB;have RA:=bG zB
 have YH:(I4 l).ok:=by
  apply Ri;intro x hx
  rcases mK.1 hx with h|h
  .exact HO.o.drop _ x h
  .simp at h;subst h;omega
 have HO2:=J YH;clear YH;go_wp21;refine kU (qG (I4 l) HO2.o _) λw3 ea=>?_;have OA:=bX (bK (bX hs aK) bM ad) ea;go_wp21;refine(jQ _ _ _ _ OA).mono ?_;rintro e w4 ⟨rfl,hs4,eV⟩;go_wp21;refine(jQ _ _ _ _ hs4).mono ?_;rintro e w5 ⟨rfl,hs5,iY⟩;go_wp21;go_end0;refine⟨rfl,hs5,?_⟩;have k1:al w W2:=aK.trans' bM (λi hi e=>by omega);exact((Kept.ext (k1.trans ea)).trans eV).trans iY
theorem Ty (s0) (s) (A) (cap) (l) (n) (hn:n=l.length) (hl:n<=cap) (mE:cap<=9223372036854775807) (w:World) (hs:aj w s0 317 s.cells) (hA:(A=none/\n=0/\cap=0)∨∃b off,A=some ⟨b,off,none⟩) (hm:n%8=0):
 Calls prog 308 #[.pointer (some ⟨s0,0,none⟩),.slice A n cap] w λe w'=>e=.returned (.tuple #[])/\aj w' s0 317 (taken (taken s (Dj (I4 l))) n).cells/\Kept (·=s0) w w':=by
 have YJ:I4 l=agf:=by
  unfold I4;rw [List.drop_of_length_le ad]
  rfl
 rw [YJ];clear YJ hn;have hlo:n / 8*8=n:=by omega
 have Oz:=aj.lt hs
 have agx:(A=none/\n=0/\cap=0)∨∃b off,A=some ⟨b,off,none⟩/\(cap=n∨¬cap=n):=by
  rcases hA with h|⟨b,off,h⟩
  .exact .inl h
  .exact .inr ⟨b,off,h,by omega⟩
 clear hA;have hq1:(0:Int)<=(n:Int) / 8*8:=by omega
 have Wq:((n:Int) / 8*8)=n:=by omega
 have HM:=J hm;clear hm;have mO:IntKind.i64.wrap ((n:Int) / 8)=(n:Int) / 8:=IntWalk.i64_in _ ad;have hw3:IntKind.i64.wrap (n:Int)=(n:Int):=IntWalk.i64_in _ ad;clear hlo;have qg:IntKind.i64.wrap 0=0:=by decide
 rcases agx with⟨rfl,rfl,rfl⟩|⟨b,off,rfl,rfl|gM⟩
 all_goals
  go_enter func308,ntmps308;go_wp21;refine eW (λ_=>True) [(0,2),(1,2),(2,2),(3,2),(4,2),(5,2),(6,2),(7,0),(8,2)] ?_;refine eX ?_
  repeat first|refine bV ?_|refine cF trivial (by intro w1 hS;exact fE) ?_|refine cD trivial ?_
  refine ap (λK hK=>?_);go_simp;simp only [ajk];go_simp;refine hK.out _ _ (λ_=>trivial) ?_;clear hK K;refine fc ?_;clear mO hw3 hq1 Wq qg;go_wp21;refine kU (qG agf agh _) λw3 ea=>?_;have OA:=bX (aj.drew (aj.alloc hs _)) ea;go_wp21;refine(jQ _ _ _ _ OA).mono ?_;rintro e w4 ⟨rfl,hs4,eV⟩;go_wp21;refine(jQ _ _ _ _ hs4).mono ?_;rintro e w5 ⟨rfl,hs5,iY⟩;go_wp21;go_end0;refine⟨rfl,hs5,?_⟩;have k1:al w w3:=((dS w _).drew).trans ea;exact((Kept.ext k1).trans eV).trans iY
structure Xp (w:World) (A:Option Addr) (n cap:Nat) (l:List Int):Prop where
 len:n=l.length
 le:n<=cap
 mx:cap<=9223372036854775807
 ok:jr l
 at_:(A=none/\n=0/\cap=0)∨∃b off,A=some ⟨b,off,none⟩/\(0<n->Row w b off (fF l))
theorem Xp.kept {S} {w w'} {A:Option Addr} {n cap:Nat} {l:List Int} (h:Xp w A n cap l) (hk:Kept S w w') (hs:∀b off,A=some ⟨b,off,none⟩->0<n->¬S b):Xp w' A n cap l:=by
 refine⟨h.len,h.le,h.mx,h.ok,?_⟩
 rcases h.at_ with h1|⟨b,off,rfl,hr⟩
 .exact .inl h1
 .exact .inr ⟨b,off,rfl,λhn=>(hr hn).kept hk (hs b off rfl hn)⟩
theorem Xp.ext {w w'} {A:Option Addr} {n cap:Nat} {l:List Int} (h:Xp w A n cap l) (hk:al w w'):Xp w' A n cap l:=h.kept hk (λ_ _ _ _ f=>f)
section
variable (s0:Nat) (s:St) (A:Option Addr) (cap:Nat) (l:List Int) (n:Nat) (w:World) (hs:aj w s0 317 s.cells) (hb:Xp w A n cap l)
include s0 s A cap l n w hs hb
theorem abE:
 Calls prog 308 #[.pointer (some ⟨s0,0,none⟩),.slice A n cap] w λe w'=>e=.returned (.tuple #[])/\aj w' s0 317 (taken (taken s (Dj (I4 l))) n).cells/\Kept (·=s0) w w':=by
 by_cases hm:n%8=0
 .refine Ty s0 s A cap l n hb.len hb.le hb.mx w hs ?_ hm
  rcases hb.at_ with h|⟨b,off,h,_⟩
  .exact .inl h
  .exact .inr ⟨b,off,h⟩
 .rcases hb.at_ with⟨_,h,_⟩|⟨b,off,rfl,hr⟩
  .subst h;exact absurd rfl hm
  .exact XN s0 s b off cap l n hb.len hb.le hb.mx hb.ok w hs (hr ad) ad
theorem Z6 (gM:∀b off,A=some ⟨b,off,none⟩->0<n->¬b=s0):
 Calls prog 307 #[.pointer (some ⟨s0,0,none⟩),.slice A n cap] w λe w'=>e=.returned (.tuple #[])/\aj w' s0 317 (D_ s l (n / 8)).cells/\Kept (·=s0) w w':=by
 rcases hb.at_ with⟨h1,h2,_⟩|⟨b,off,rfl,hr⟩
 .exact G8 s0 s A 0 0 cap l n hb.len hb.le hb.mx hb.ok w hs (λh=>by omega) (λh=>by omega) (λh=>by omega)
 .exact G8 s0 s _ b off cap l n hb.len hb.le hb.mx hb.ok w hs (λ_=>rfl) hr (λh=>gM b off rfl h)
theorem FW (gM:∀b off,A=some ⟨b,off,none⟩->0<n->¬b=s0):
 Calls prog 277 #[.pointer (some ⟨s0,0,none⟩),.slice A n cap] w λe w'=>e=.returned (.tuple #[])/\aj w' s0 317 (uB s l).cells/\Kept (·=s0) w w':=by
 go_enter func277,ntmps277;go_wp21;refine(Z6 s0 s A cap l n w hs hb gM).mono ?_;rintro e w1 ⟨rfl,IA,aB⟩;go_wp21;refine(abE s0 _ A cap l n w1 IA (hb.kept aB gM)).mono ?_;rintro e w2 ⟨rfl,pK,bM⟩;go_wp21;go_end0;refine⟨rfl,?_,aB.trans bM⟩;unfold uB;rw [<-hb.len];exact pK
end
def hOf (l:List Int):Dg:=out (uB (bg 1) l)
def KO (d:Dg) (l:List Int):Dg:=out (uB (taken (bg 4) (Dj d)) l)
theorem Pw (A) (cap) (l) (n) (w) (hb:Xp w A n cap l) (aX:∀b off,A=some ⟨b,off,none⟩->0<n->b<w.heap.size):
 Calls prog 233 #[.slice A n cap] w λe w'=>e=.returned (.agg (hOf l).cells)/\al w w':=by
 refine aaF ?_;intro aK fU;go_enter func233,ntmps233;go_wp21;refine kU (sU 1 _) λw1 aB=>?_;have hsz:=(aK.trans aB).size;go_wp21;refine(FW _ (bg 1) A cap l n _ (bN w1 _ _) (hb.ext ((aK.trans aB).alloc _)) (λb off h1 h2=>by have:=aX b off h1 h2;omega)).mono ?_;rintro e w2 ⟨rfl,pK,bM⟩;have YX:al w1 w2:=(dS w1 _).trans' bM (λi hi e=>by omega);go_wp21;refine kU (s7 _ _ _ pK) λw3 ea=>?_;have oY:=bX (bX fU aB) (YX.trans ea);have hh3:=bH oY;have Fl:=aj.aJ oY;go_wp21;refine bQ results233 rfl rfl dK ke (aj.cI oY _ _) ⟨rfl,?_⟩;exact Kept.putAt (((aK.trans aB).trans YX).trans ea) _ _ _ (λh=>by omega)
def DR (s:ByteArray):List Int:=s.data.toList.map λb=>(b.toNat:Int)
theorem Ad (s:ByteArray):(DR s).length=s.size:=by simp [DR]
theorem acH (s:ByteArray):jr (DR s):=by
 intro x hx;simp only [DR,List.mem_map]at hx;obtain⟨b,_,rfl⟩:=hx;have:=b.toNat_lt
 omega
section
variable (w:World) (e:TypeId) (s:ByteArray)
include w e s
theorem Cn:al w (Lib.bytesWorld w e s):=
 ⟨rfl,rfl,rfl,by rw [Lib.bytesWorld_size];omega,λk hk _=>Lib.bytesWorld_at_old w e s k hk⟩
theorem Co:Row (Lib.bytesWorld w e s) w.heap.size 0 (fF (DR s)):=by
 have hl:(fF (DR s)).length=s.size:=by rw [fH,Ad]
 have hc:(Lib.bytesCells w e s).size=s.size+(grownCap w s.size 0 e - s.size):=by simp [Lib.bytesCells]
 refine⟨?_,?_,by rw [Lib.bytesWorld_size];omega⟩
 .unfold has;rw [Lib.bytesWorld_at_new,hl];simp [hc]
 .unfold gets;rw [Lib.bytesWorld_at_new,hl]
  simp only [qW]
  congr 1
  simp only [Lib.bytesCells,Array.toList_append,Array.toList_map];rw [List.take_append_of_le_length aC,lY aC];simp [fF,DR]
theorem E9 (hs:s.size<=maxLen):Xp (Lib.bytesWorld w e s) (some ⟨w.heap.size,0,none⟩) s.size (grownCap w s.size 0 e) (DR s):=
 ⟨(Ad s).symm,grownCap_ge _ _ _ _,by have:=grownCap_le_maxLen w s.size 0 e hs;unfold maxLen at this;omega,acH s,.inr ⟨_,_,rfl,λ_=>Co w e s⟩⟩
end
theorem abz (w) (s:ByteArray):(convert 9 89 (.string s)).run prog w=.ok (.slice (some ⟨w.heap.size,0,none⟩) s.size (grownCap w s.size 0 5)) (Lib.bytesWorld w 5 s):=
 Lib.run_convert_string_bytes w _ _ _ s underlying9 underlying89 underlying5
theorem jo (d) (hd:d.ok) (s:ByteArray) (hsz:s.size<=maxLen) (w:World):
 Calls prog 219 #[.agg #[.int .u8 d.x0,.int .u8 d.x1,.int .u8 d.x2,.int .u8 d.x3,.int .u8 d.x4,.int .u8 d.x5,.int .u8 d.x6,.int .u8 d.x7],.string s] w λe w'=>e=.returned (.agg (KO d (DR s)).cells)/\al w w':=by
 refine amA ?_;intro aK hA0 fU;have V7:=λw=>abz w s;go_enter func219,ntmps219;go_wp21;refine kU (sU 4 _) λw1 aB=>?_;have pd:=bX hA0 aB;have gW:=bX fU aB;have Bt:=aj.lt pd;have KU:=bH pd;have Nc:=bG pd;go_wp21;refine kU (qG d hd _) λw2 bM=>?_;have pK:=bX (bN w1 317 (bg 4).cells) bM;go_wp21;refine(jQ _ _ _ _ pK).mono ?_;rintro e w3 ⟨rfl,OA,ea⟩;have abZ:al w1 w3:=((dS w1 _).trans bM).trans' ea (λi hi e=>by omega);have hl3:=aj.lt OA;go_wp21;have hxb:=Cn w3 5 s;refine(FW _ _ _ _ (DR s) _ _ (bX OA hxb) (E9 w3 _ s hsz) (λb off h1 h2=>by injection h1 with h1;injection h1 with h1;omega)).mono ?_;rintro e w4 ⟨rfl,hs4,eV⟩;have ala:al w1 w4:=(abZ.trans hxb).trans' eV (λi hi e=>by omega);go_wp21;refine kU (s7 _ _ _ hs4) λw5 iY=>?_;have uM:=bX gW (ala.trans iY);have hh5:=bH uM;have yH:=aj.aJ uM;go_wp21;refine bQ results219 rfl rfl dK ke (aj.cI uM _ _) ⟨rfl,?_⟩;exact Kept.putAt (((aK.trans aB).trans ala).trans iY) _ _ _ (λh=>by omega)
end Mc
section
open Mc
theorem aj.eq {w} {g} {t} {cs cs'} (h:aj w g t cs) (e:cs=cs'):aj w g t cs':=e▸h
end
namespace Mc
theorem OO:(prog.info? 5).map (λi=>(i.zero,i.size,i.bytes))=some (some (.int .u8 0),1,1):=by kernel_rfl
theorem afM (w) (base) (v) (n:Nat) (xs:List Int) (iC:w.ownsRow base 5 1 v n (fF xs)) (b off m c:Nat) (l:List Int) (hm:m=l.length) (hr:Row w b off (fF l)) (hn:n+m<=100000) (iH:base<=w.heap.size):
 ∃v' w',(Builtin.append_ #[89,89] 89 #[v,.slice (some ⟨b,off,none⟩) m c]).run prog w=.ok v' w'/\w'.ownsRow base 5 1 v' (n+m) (fF (xs++l))/\Kept (λi=>v.ownBlock=some i) w w':=by
 obtain⟨i,hi,hz,h1,h2⟩:=info_parts OO;have:=pz (P:=prog) underlying89 hi hz h1 h2 dZ ae w base v n (fF xs) iC b off m c (fF l) (by rw [fH,hm,Nat.mul_one]) hr (FX l) MB ad iH;rw [show fF xs++fF l=fF (xs++l)by simp [fF]]at this;exact this
theorem Zw {w} {base} {v} {n} {xs} (h:w.ownsRow base 5 1 v n (fF xs)) (hn:0<n):∃g c,v=.slice (some ⟨g,0,none⟩) n c/\base<=g/\Row w g 0 (fF xs)/\n<=c/\c<=maxLen/\n=xs.length:=by
 have hl:=h.1;rw [fH,Nat.mul_one]at hl
 rcases h.2 with⟨_,h0⟩|⟨g,c,du,hv,hb,hc,zM,vG,gu,mN⟩
 .omega
 .refine⟨g,c,hv,hb,?_,zM,vG,hl.symm⟩
  exact anL
end Mc
section
open Mc
end
namespace Mc
variable{dst:Option Tmp}{pos:String}{after:Array Edge}{guard:Option (Nat×Bool)}
def alp:List Int:=[108,101,97,102]
def alE:List Int:=[110,111,110,101]
def TP (d:Dg):Dg:=KO d alp
theorem kJ (d) (l:List Int):(KO d l).ok:=PB _
theorem Ir (a b:Dg):(uN a b).ok:=PB _
theorem agr (l:List Int):(hOf l).ok:=PB _
theorem IQ (d) (hd:d.ok) (w:World):Calls prog 166 #[.agg #[.int .u8 d.x0,.int .u8 d.x1,.int .u8 d.x2,.int .u8 d.x3,.int .u8 d.x4,.int .u8 d.x5,.int .u8 d.x6,.int .u8 d.x7]] w λe w'=>e=.returned (.agg (TP d).cells)/\al w w':=by
 have aK:al w _:=(dS w (.cells #[.int .u8 d.x0,.int .u8 d.x1,.int .u8 d.x2,.int .u8 d.x3,.int .u8 d.x4,.int .u8 d.x5,.int .u8 d.x6,.int .u8 d.x7] 25)).alloc (.cells Dg.zero.cells 25);have fU:aj _ (w.heap.size+1) 25 Dg.zero.cells:=aj.d_ (w.alloc (.cells #[.int .u8 d.x0,.int .u8 d.x1,.int .u8 d.x2,.int .u8 d.x3,.int .u8 d.x4,.int .u8 d.x5,.int .u8 d.x6,.int .u8 d.x7] 25)) _ _ _ aC;go_enter func166,ntmps166;go_wp21;refine(jo d hd _ ae _).mono ?_;rintro e w1 ⟨rfl,aB⟩;have gW:=bX fU aB;have KU:=bH gW;have Nd:=aj.aJ gW;go_wp21;refine bQ results166 rfl rfl dK ke (aj.cI gW _ _) ⟨rfl,?_⟩;exact Kept.putAt (aK.trans aB) _ _ _ (λh=>by omega)
def Tl (h:Nat):ByteArray:=if h<10 then⟨#[UInt8.ofNat (48+h)]⟩else⟨#[49,UInt8.ofNat (38+h)]⟩
theorem agX (h:Nat) (hh:h<=12) (w:World):Calls prog 224 #[.int .i64 h] w λe w'=>e=.returned (.string (Tl h))/\w=w':=by
 rcases(by omega:h=0∨h=1∨h=2∨h=3∨h=4∨h=5∨h=6∨h=7∨h=8∨h=9∨h=10∨h=11∨h=12)with rfl|rfl|rfl|rfl|rfl|rfl|rfl|rfl|rfl|rfl|rfl|rfl|rfl
 all_goals
  go_enter func224,ntmps224
  go_wp2
  go_ret;exact⟨by kernel_rfl,rfl⟩
def R7 (h:Nat):ByteArray:=⟨#[114,111,111,116]⟩++Tl h
def alJ (h:Nat):List Int:=DR (R7 h)
def Yc (d:Dg) (h:Nat):Dg:=KO d (alJ h)
theorem F6 (h:Nat):(Tl h).size<=2:=by
 unfold Tl
 split
 .exact Nat.le_succ 1
 .exact eH 2
theorem PT (h:Nat):(R7 h).size<=maxLen:=by
 have:=F6 h;have e:(⟨#[114,111,111,116]⟩:ByteArray).size=4:=rfl;unfold R7 maxLen;rw [ByteArray.size_append,e]
 omega
theorem Sg (d) (hd:d.ok) (h:Nat) (hh:h<=12) (w:World):Calls prog 158 #[.agg #[.int .u8 d.x0,.int .u8 d.x1,.int .u8 d.x2,.int .u8 d.x3,.int .u8 d.x4,.int .u8 d.x5,.int .u8 d.x6,.int .u8 d.x7],.int .i64 h] w λe w'=>e=.returned (.agg (Yc d h).cells)/\al w w':=by
 refine amA ?_;intro aK hA0 fU;go_enter func158,ntmps158;go_wp21;refine eW (λw1=>al ((w.alloc (.cells #[.int .u8 d.x0,.int .u8 d.x1,.int .u8 d.x2,.int .u8 d.x3,.int .u8 d.x4,.int .u8 d.x5,.int .u8 d.x6,.int .u8 d.x7] 25)).alloc (.cells Dg.zero.cells 25)) w1) [(0,1),(1,2),(2,0),(3,2),(4,0),(5,0)] ?_;refine eX ?_
 repeat first|refine bV ?_|refine cF dQ amq ?_|refine cD dQ ?_
 refine ap (λK hK=>?_);go_simp;go_wp21;refine uW (agX h hh _) ?_;refine hK.out _ _ (λh=>h) ?_
 have OB:(⟨#[114,111,111,116]⟩:ByteArray).size+(Tl h).size<=9223372036854775807:=by
  have:=F6 h;have e:(⟨#[114,111,111,116]⟩:ByteArray).size=4:=rfl
  omega
 have ajK:=λw=>run_string_add_sum (P:=prog) w ⟨#[114,111,111,116]⟩ (Tl h) OB
 repeat refine bV ?_
 refine ap (λK hK=>?_);go_simp;go_wp21;refine kU (jo d hd (R7 h) (PT h) _) λw2 bM=>?_;have CY:al ((w.alloc (.cells #[.int .u8 d.x0,.int .u8 d.x1,.int .u8 d.x2,.int .u8 d.x3,.int .u8 d.x4,.int .u8 d.x5,.int .u8 d.x6,.int .u8 d.x7] 25)).alloc (.cells Dg.zero.cells 25)) w2:=((kR _ _).drew).trans bM;refine hK.out _ _ (λ_=>CY) ?_;have gW:=bX fU CY;have KU:=bH gW;have Nd:=aj.aJ gW;refine fc ?_;go_wp21;refine bQ results158 rfl rfl dK ke (aj.cI gW _ _) ⟨rfl,?_⟩;exact Kept.putAt (aK.trans CY) _ _ _ (λh=>by omega)
def jb (n:Nat):Nat:=Go.Lib.bitLen (n - 1)
theorem th (n:Nat) (h1:1<=n) (h2:n<=4096) (w:World):Calls prog 186 #[.int .i64 n] w λe w'=>e=.returned (.int .i64 (jb n))/\w=w':=by
 go_enter func186,ntmps186;go_wp21;refine(bits_Len _ _ ad ad).mono ?_;rintro e w1 ⟨rfl,rfl⟩;go_wp21;go_ret;refine⟨cL ?_,rfl⟩;unfold jb
 congr 2
def adN:Dg:=KO Dg.zero alE
def fD (l:List Dg):Nat->Nat->Dg
 |0,k=>match l[k]? with|some d=>TP d|none=>adN
 |v+1,k=>uN (fD l v (2*k)) (fD l v (2*k+1))
theorem Di (l:List Dg):∀v k,(fD l v k).ok
 |0,k=>by
  unfold fD
  split
  .exact kJ _ _
  .exact kJ _ _
 |v+1,k=>Ir _ _
theorem ou:gB prog 74=true:=by kernel_rfl
theorem mr:dw prog 74=some 18:=by kernel_rfl
theorem D7 {eY} {x} {a} {w} {K} {Q} (hx:eG (a.eval x)=true) (hh:has w (aL (a.eval x)) (aM (a.eval x)) 18=true):
 Oper.wp prog ⟨dst,.load 74 x,eY,pos,after,guard⟩ a w K Q=K (a.put dst (.agg (gets w (aL (a.eval x)) (aM (a.eval x)) 18))) w:=bB 18 ou mr hx hh
theorem LU {ρ} {eY} {x} {w} (hx:eG (ρ x)=true) (hh:has w (aL (ρ x)) (aM (ρ x)) 18=true):
 (execOp ρ ⟨dst,.load 74 x,eY,pos,after,guard⟩).run prog w=.ok (.value (.agg (gets w (aL (ρ x)) (aM (ρ x)) 18))) w:=aH 18 ou mr hx hh
theorem Lr (w) (g off) (hh:has w g off 18=true):(loadVar 74 ⟨g,off,none⟩).run prog w=.ok (.agg (gets w g off 18)) w:=cN prog w _ g off 18 ou mr hh
attribute [go_sem] ou mr
attribute [go_sem↓high] D7 Lr LU
attribute [go_sem high] D7
structure Rt where (from_ steps:Int) (ahead behind:Dg) (told:Bool) (mid:Dg) (won:Int)
abbrev Rt.cells (r:Rt):Array Value:=#[.int .i64 r.from_,.int .i64 r.steps,.int .u8 r.ahead.x0,.int .u8 r.ahead.x1,.int .u8 r.ahead.x2,.int .u8 r.ahead.x3,.int .u8 r.ahead.x4,.int .u8 r.ahead.x5,.int .u8 r.ahead.x6,.int .u8 r.ahead.x7,.int .u8 r.behind.x0,.int .u8 r.behind.x1,.int .u8 r.behind.x2,.int .u8 r.behind.x3,.int .u8 r.behind.x4,.int .u8 r.behind.x5,.int .u8 r.behind.x6,.int .u8 r.behind.x7,.bool r.told,.int .u8 r.mid.x0,.int .u8 r.mid.x1,.int .u8 r.mid.x2,.int .u8 r.mid.x3,.int .u8 r.mid.x4,.int .u8 r.mid.x5,.int .u8 r.mid.x6,.int .u8 r.mid.x7,.int .i64 r.won]
attribute [go_sem] Rt.cells
def Rt.turn (r:Rt):Int:=if 0<=r.won then -1 else if r.told then 1 else 0
theorem zt:Go.Lib.bitLen 0=0:=by decide
theorem FV:∀(h x:Nat),x<2^h->h<=60->Go.Lib.bitLen x<=h/\x<2^Go.Lib.bitLen x
 |0,x,hx,_=>by
  obtain rfl:x=0:=by simpa using hx
  rw [zt];simp
 |h+1,x,hx,hh=>by
  rcases Nat.eq_zero_or_pos x with h0|h0
  .subst h0;rw [zt];simp
  .have h64:(2:Nat)^(h+1)<=2^64:=Nat.pow_le_pow_right ad ad
   have hq:(2:Nat)^(h+1)=2*2^h:=by rw [Nat.pow_succ];omega
   have ih:=FV h (x / 2) ad ad;rw [Go.Lib.bitLen_half x ad ad];refine⟨by omega,?_⟩;rw [Nat.add_comm,Nat.pow_succ]
   omega
theorem qw (n) (h1:1<=n) (h2:n<=4096):jb n<=12/\n<=2^jb n:=by
 have:=FV 12 (n - 1) ad ad;unfold jb
 omega
def kY (n:Nat):List Int:=if n<128 then [(n:Int)]else(128+(n:Int)%128)::kY (n / 128)
termination_by n
decreasing_by omega
theorem qQ {n} (h:n<128):kY n=[(n:Int)]:=by rw [kY,av h]
theorem xG {n} (h:¬n<128):kY n=(128+(n:Int)%128)::kY (n / 128):=by rw [kY,af h]
theorem DY:∀(k n:Nat),n<128^k->1<=k->(kY n).length<=k
 |0,_,_,h=>by omega
 |k+1,n,hn,_=>by
  by_cases h:n<128
  .rw [qQ h];simp
  .rw [xG h]
   have hk:1<=k:=by
    rcases Nat.eq_zero_or_pos k with h0|h0
    .subst h0;simp at hn;omega
    .exact h0
   have:=DY k (n / 128) (by rw [Nat.pow_succ]at hn;omega) hk;simp;omega
theorem Mq (n:Nat):0<(kY n).length:=by
 by_cases h:n<128
 .rw [qQ h];simp
 .rw [xG h];simp
theorem BP (n:Nat):jr (kY n):=by
 induction n using Nat.strongRecOn with
 |_ n ih=>
  by_cases h:n<128
  .rw [qQ h];intro x hx;simp at hx;subst hx;omega
  .rw [xG h]
   intro x hx
   rcases List.mem_cons.1 hx with rfl|hx
   .omega
   .exact ih _ ad x hx
def kg (n:Int):Nat:=if n<0 then(2*(-(n+1))+1).toNat else(2*n).toNat
theorem KC {n} (h0:-9223372036854775808<=n) (h1:n<=9223372036854775807):kg n<18446744073709551616:=by
 unfold kg;split<;>omega
def amg (x:Int):Int:=x%4294967296
def dD (x:Int):Dg:=uo (amg x)
def mM (pc halt words:Int) (m:Dg):Dg:=Ya [uo pc,uo halt,uo words,m]
